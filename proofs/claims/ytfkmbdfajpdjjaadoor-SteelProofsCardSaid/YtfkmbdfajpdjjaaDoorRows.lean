/-
  NARROWER THAN 'FOR EVERY INPUT', by the rows' own cells (each row's printed sentence says how): SteelRuled: laid · SteelFaster: laid · SteelCases: laid · SteelShares: laid · SteelTempered: laid · SteelRuns: laid · SteelLots: laid · SteelProofs: laid · SteelEnclosed: laid.
  DERIVED. THE GIVEN ROWS OF THIS SEAT. 9 by the template 'for every input the law returns true; each argument reads behind the call as it read before'; 0 by the template 'total and deterministic' (their statements: YtfkmbdfajpdjjaaDoorTotals.lean).
  GIVEN WITH THE SEED: the statements are not yours to turn. If you find one false, say at which input.
  Laid BY PROGRAM, IN A SANDBOX (cutbox-rows.mjs): the forced cells as the released guide's own fill.sh prints them over the translation ea39d5250dcc024e… (all of the seat's roots in one cut). By AI agents, Wed Nov 11 2026. No macro, syntax, notation, axiom, sorry.
-/
import Derived.Test.YtfkmbdfajpdjjaaDoorChecked
import GoSem.Claim
import GoSem.ClaimJoined
import GoSem.ClaimMapViews
import Derived.JoinedTies
import Derived.KernelRfl
namespace Go.Proofs.YtfkmbdfajpdjjaaDoor
/- THE CELL 'sum', in the pinned program and in every row, IS THE sha256 OF THE DUMP (.gsa) THAT YtfkmbdfajpdjjaaDoorProg.lean LOADS. Nothing in Lean hashes anything: it is a label: what it is worth is what the hold of that sum in a sandbox is worth. -/
noncomputable def Tryd.pinned : Pinned := { name := "ytfkmbdfajpdjjaadoor", sum := "ea39d5250dcc024eab25392c945495533135f20d3a8d6e0180c579c61f22845b", checked := Tryd.checked }
namespace Rows
def none {H : Type} : Left H := { results := [], args := [] }

/- WHAT THE LISTED PACKAGE-LEVEL VARIABLES READ AS WHEN THE CALL BEGINS. Each datum BY PROGRAM (the guide's laid-datum.mjs) off the statement by which the dump's own 'gosem.cut.vars' lays the variable. In a bare row this is a premise. The card (YtfkmbdfajpdjjaaDoorCards.lean) ties it to the program's text. -/
def laid_martensite_steel_directions {H : Type} : DataW H := .agg [.lit (.int .i64 1), .lit (.int .i64 0), .lit (.int .i64 (-1)), .lit (.int .i64 0)]

/-- 'martensitelaw04.SteelRuled': WHATEVER THE INPUT: true; the input reads as it did. -/
def steelRuledSpec : ChangeSpec := { name := "steelRuled", fn := fun _ => fun
  | [d1, d2, d3] => { results := [.lit (.bool true)], args := [d1, d2, d3] }
  | _ => none }
def steelRuledRow : OpenClaim := { program := "ytfkmbdfajpdjjaadoor", sum := "ea39d5250dcc024eab25392c945495533135f20d3a8d6e0180c579c61f22845b", func := "martensite/martensitelaw04.SteelRuled", spec := "steelRuled", unfollowed := true, recurses := true, named := ["martensite/steel.directions"], apart := false, laid := [("martensite/steel.directions", laid_martensite_steel_directions)] }
def SteelRuledSaid : Prop := steelRuledRow.holds Tryd.pinned (OpenSpec.ofChange steelRuledSpec)

/-- ITS FALSE NEIGHBOUR: 'it returns false'. Refute it at one input. -/
def steelRuledWrong : ChangeSpec := { name := "steelRuled", fn := fun _ => fun
  | [d1, d2, d3] => { results := [.lit (.bool false)], args := [d1, d2, d3] }
  | _ => none }
def SteelRuledWrongFalsely : Prop := steelRuledRow.holds Tryd.pinned (OpenSpec.ofChange steelRuledWrong)

/-- 'martensitelaw04.SteelFaster': WHATEVER THE INPUT: true; the input reads as it did. -/
def steelFasterSpec : ChangeSpec := { name := "steelFaster", fn := fun _ => fun
  | [d1, d2, d3] => { results := [.lit (.bool true)], args := [d1, d2, d3] }
  | _ => none }
def steelFasterRow : OpenClaim := { program := "ytfkmbdfajpdjjaadoor", sum := "ea39d5250dcc024eab25392c945495533135f20d3a8d6e0180c579c61f22845b", func := "martensite/martensitelaw04.SteelFaster", spec := "steelFaster", unfollowed := true, recurses := true, named := ["martensite/steel.directions"], apart := false, laid := [("martensite/steel.directions", laid_martensite_steel_directions)] }
def SteelFasterSaid : Prop := steelFasterRow.holds Tryd.pinned (OpenSpec.ofChange steelFasterSpec)

/-- ITS FALSE NEIGHBOUR: 'it returns false'. Refute it at one input. -/
def steelFasterWrong : ChangeSpec := { name := "steelFaster", fn := fun _ => fun
  | [d1, d2, d3] => { results := [.lit (.bool false)], args := [d1, d2, d3] }
  | _ => none }
def SteelFasterWrongFalsely : Prop := steelFasterRow.holds Tryd.pinned (OpenSpec.ofChange steelFasterWrong)

/-- 'martensitelaw04.SteelCases': WHATEVER THE INPUT: true; the input reads as it did. -/
def steelCasesSpec : ChangeSpec := { name := "steelCases", fn := fun _ => fun
  | [d1, d2, d3] => { results := [.lit (.bool true)], args := [d1, d2, d3] }
  | _ => none }
def steelCasesRow : OpenClaim := { program := "ytfkmbdfajpdjjaadoor", sum := "ea39d5250dcc024eab25392c945495533135f20d3a8d6e0180c579c61f22845b", func := "martensite/martensitelaw04.SteelCases", spec := "steelCases", unfollowed := true, recurses := true, named := ["martensite/steel.directions"], apart := false, laid := [("martensite/steel.directions", laid_martensite_steel_directions)] }
def SteelCasesSaid : Prop := steelCasesRow.holds Tryd.pinned (OpenSpec.ofChange steelCasesSpec)

/-- ITS FALSE NEIGHBOUR: 'it returns false'. Refute it at one input. -/
def steelCasesWrong : ChangeSpec := { name := "steelCases", fn := fun _ => fun
  | [d1, d2, d3] => { results := [.lit (.bool false)], args := [d1, d2, d3] }
  | _ => none }
def SteelCasesWrongFalsely : Prop := steelCasesRow.holds Tryd.pinned (OpenSpec.ofChange steelCasesWrong)

/-- 'martensitelaw04.SteelShares': WHATEVER THE INPUT: true; the input reads as it did. -/
def steelSharesSpec : ChangeSpec := { name := "steelShares", fn := fun _ => fun
  | [d1, d2, d3] => { results := [.lit (.bool true)], args := [d1, d2, d3] }
  | _ => none }
def steelSharesRow : OpenClaim := { program := "ytfkmbdfajpdjjaadoor", sum := "ea39d5250dcc024eab25392c945495533135f20d3a8d6e0180c579c61f22845b", func := "martensite/martensitelaw04.SteelShares", spec := "steelShares", unfollowed := true, recurses := true, named := ["martensite/steel.directions"], apart := false, laid := [("martensite/steel.directions", laid_martensite_steel_directions)] }
def SteelSharesSaid : Prop := steelSharesRow.holds Tryd.pinned (OpenSpec.ofChange steelSharesSpec)

/-- ITS FALSE NEIGHBOUR: 'it returns false'. Refute it at one input. -/
def steelSharesWrong : ChangeSpec := { name := "steelShares", fn := fun _ => fun
  | [d1, d2, d3] => { results := [.lit (.bool false)], args := [d1, d2, d3] }
  | _ => none }
def SteelSharesWrongFalsely : Prop := steelSharesRow.holds Tryd.pinned (OpenSpec.ofChange steelSharesWrong)

/-- 'martensitelaw04.SteelTempered': WHATEVER THE INPUT: true; the input reads as it did. -/
def steelTemperedSpec : ChangeSpec := { name := "steelTempered", fn := fun _ => fun
  | [d1, d2, d3] => { results := [.lit (.bool true)], args := [d1, d2, d3] }
  | _ => none }
def steelTemperedRow : OpenClaim := { program := "ytfkmbdfajpdjjaadoor", sum := "ea39d5250dcc024eab25392c945495533135f20d3a8d6e0180c579c61f22845b", func := "martensite/martensitelaw04.SteelTempered", spec := "steelTempered", unfollowed := true, recurses := true, named := ["martensite/steel.directions"], apart := false, laid := [("martensite/steel.directions", laid_martensite_steel_directions)] }
def SteelTemperedSaid : Prop := steelTemperedRow.holds Tryd.pinned (OpenSpec.ofChange steelTemperedSpec)

/-- ITS FALSE NEIGHBOUR: 'it returns false'. Refute it at one input. -/
def steelTemperedWrong : ChangeSpec := { name := "steelTempered", fn := fun _ => fun
  | [d1, d2, d3] => { results := [.lit (.bool false)], args := [d1, d2, d3] }
  | _ => none }
def SteelTemperedWrongFalsely : Prop := steelTemperedRow.holds Tryd.pinned (OpenSpec.ofChange steelTemperedWrong)

/-- 'martensitelaw04.SteelRuns': WHATEVER THE INPUT: true; the input reads as it did. -/
def steelRunsSpec : ChangeSpec := { name := "steelRuns", fn := fun _ => fun
  | [d1, d2, d3] => { results := [.lit (.bool true)], args := [d1, d2, d3] }
  | _ => none }
def steelRunsRow : OpenClaim := { program := "ytfkmbdfajpdjjaadoor", sum := "ea39d5250dcc024eab25392c945495533135f20d3a8d6e0180c579c61f22845b", func := "martensite/martensitelaw04.SteelRuns", spec := "steelRuns", unfollowed := true, recurses := true, named := ["martensite/steel.directions"], apart := false, laid := [("martensite/steel.directions", laid_martensite_steel_directions)] }
def SteelRunsSaid : Prop := steelRunsRow.holds Tryd.pinned (OpenSpec.ofChange steelRunsSpec)

/-- ITS FALSE NEIGHBOUR: 'it returns false'. Refute it at one input. -/
def steelRunsWrong : ChangeSpec := { name := "steelRuns", fn := fun _ => fun
  | [d1, d2, d3] => { results := [.lit (.bool false)], args := [d1, d2, d3] }
  | _ => none }
def SteelRunsWrongFalsely : Prop := steelRunsRow.holds Tryd.pinned (OpenSpec.ofChange steelRunsWrong)

/-- 'martensitelaw04.SteelLots': WHATEVER THE INPUT: true; the input reads as it did. -/
def steelLotsSpec : ChangeSpec := { name := "steelLots", fn := fun _ => fun
  | [d] => { results := [.lit (.bool true)], args := [d] }
  | _ => none }
def steelLotsRow : OpenClaim := { program := "ytfkmbdfajpdjjaadoor", sum := "ea39d5250dcc024eab25392c945495533135f20d3a8d6e0180c579c61f22845b", func := "martensite/martensitelaw04.SteelLots", spec := "steelLots", unfollowed := true, recurses := true, named := ["martensite/steel.directions"], apart := false, laid := [("martensite/steel.directions", laid_martensite_steel_directions)] }
def SteelLotsSaid : Prop := steelLotsRow.holds Tryd.pinned (OpenSpec.ofChange steelLotsSpec)

/-- ITS FALSE NEIGHBOUR: 'it returns false'. Refute it at one input. -/
def steelLotsWrong : ChangeSpec := { name := "steelLots", fn := fun _ => fun
  | [d] => { results := [.lit (.bool false)], args := [d] }
  | _ => none }
def SteelLotsWrongFalsely : Prop := steelLotsRow.holds Tryd.pinned (OpenSpec.ofChange steelLotsWrong)

/-- 'martensitelaw04.SteelProofs': WHATEVER THE INPUT: true; the input reads as it did. -/
def steelProofsSpec : ChangeSpec := { name := "steelProofs", fn := fun _ => fun
  | [d] => { results := [.lit (.bool true)], args := [d] }
  | _ => none }
def steelProofsRow : OpenClaim := { program := "ytfkmbdfajpdjjaadoor", sum := "ea39d5250dcc024eab25392c945495533135f20d3a8d6e0180c579c61f22845b", func := "martensite/martensitelaw04.SteelProofs", spec := "steelProofs", unfollowed := true, recurses := true, named := ["martensite/steel.directions"], apart := false, laid := [("martensite/steel.directions", laid_martensite_steel_directions)] }
def SteelProofsSaid : Prop := steelProofsRow.holds Tryd.pinned (OpenSpec.ofChange steelProofsSpec)

/-- ITS FALSE NEIGHBOUR: 'it returns false'. Refute it at one input. -/
def steelProofsWrong : ChangeSpec := { name := "steelProofs", fn := fun _ => fun
  | [d] => { results := [.lit (.bool false)], args := [d] }
  | _ => none }
def SteelProofsWrongFalsely : Prop := steelProofsRow.holds Tryd.pinned (OpenSpec.ofChange steelProofsWrong)

/-- 'martensitelaw04.SteelEnclosed': WHATEVER THE INPUT: true; the input reads as it did. -/
def steelEnclosedSpec : ChangeSpec := { name := "steelEnclosed", fn := fun _ => fun
  | [d1, d2, d3] => { results := [.lit (.bool true)], args := [d1, d2, d3] }
  | _ => none }
def steelEnclosedRow : OpenClaim := { program := "ytfkmbdfajpdjjaadoor", sum := "ea39d5250dcc024eab25392c945495533135f20d3a8d6e0180c579c61f22845b", func := "martensite/martensitelaw04.SteelEnclosed", spec := "steelEnclosed", unfollowed := true, recurses := true, named := ["martensite/steel.directions"], apart := false, laid := [("martensite/steel.directions", laid_martensite_steel_directions)] }
def SteelEnclosedSaid : Prop := steelEnclosedRow.holds Tryd.pinned (OpenSpec.ofChange steelEnclosedSpec)

/-- ITS FALSE NEIGHBOUR: 'it returns false'. Refute it at one input. -/
def steelEnclosedWrong : ChangeSpec := { name := "steelEnclosed", fn := fun _ => fun
  | [d1, d2, d3] => { results := [.lit (.bool false)], args := [d1, d2, d3] }
  | _ => none }
def SteelEnclosedWrongFalsely : Prop := steelEnclosedRow.holds Tryd.pinned (OpenSpec.ofChange steelEnclosedWrong)

/- THE SECOND FORM. 'bulk': how many values and letters a reading holds, each counted each time it is reached (what is shared counts as often as it is met; a slice's spare places count too). A statement '..UptoSaid' is the law's where the arguments, and the package variables that the reading takes, are together of bulk at most 1048576: NARROWER than '..Said'. Prove '..Said' where nothing that the law and all that it calls make is longer than what came in: it says more and counts as full. Else prove '..UptoSaid'. A law counts once. -/
mutual
def uptoBulk {H : Type} : DataW H → Nat
  | .lit (.string bytes) => bytes.length + 1
  | .lit _ => 1
  | .nil => 1
  | .ptr d => uptoBulk d + 1
  | .slice elems spare => uptoBulkAll elems + uptoBulkAll spare + 1
  | .agg parts => uptoBulkAll parts + 1
  | .iface _ d => uptoBulk d + 1
  | .map entries => uptoBulkEntries entries + 1
  | .held _ => 1
def uptoBulkAll {H : Type} : List (DataW H) → Nat
  | [] => 0
  | d :: r => uptoBulk d + uptoBulkAll r
def uptoBulkEntries {H : Type} : List (Lit × DataW H) → Nat
  | [] => 0
  | x :: r => uptoBulkEntry x + uptoBulkEntries r
def uptoBulkEntry {H : Type} : Lit × DataW H → Nat
  | (.string bytes, d) => bytes.length + uptoBulk d + 1
  | (_, d) => uptoBulk d + 1
 end
def uptoSmall : (H : Type) → List (DataW H) → Bool := fun _ ds => decide (uptoBulkAll ds ≤ 1048576)
def OpenSpec.upto (s : _root_.Go.ChangeSpec) : _root_.Go.OpenSpec := { _root_.Go.OpenSpec.ofChange s with cond := some uptoSmall }

/-- 'martensitelaw04.SteelRuled', WHERE WHAT IT READS IS OF BULK AT MOST 1048576: true; the input reads as it did. -/
def steelRuledUptoRow : OpenClaim := { program := "ytfkmbdfajpdjjaadoor", sum := "ea39d5250dcc024eab25392c945495533135f20d3a8d6e0180c579c61f22845b", func := "martensite/martensitelaw04.SteelRuled", spec := "steelRuled", unfollowed := true, recurses := true, named := ["martensite/steel.directions"], apart := false, laid := [("martensite/steel.directions", laid_martensite_steel_directions)], narrowed := true }
def SteelRuledUptoSaid : Prop := steelRuledUptoRow.holds Tryd.pinned (OpenSpec.upto steelRuledSpec)

/-- 'martensitelaw04.SteelFaster', WHERE WHAT IT READS IS OF BULK AT MOST 1048576: true; the input reads as it did. -/
def steelFasterUptoRow : OpenClaim := { program := "ytfkmbdfajpdjjaadoor", sum := "ea39d5250dcc024eab25392c945495533135f20d3a8d6e0180c579c61f22845b", func := "martensite/martensitelaw04.SteelFaster", spec := "steelFaster", unfollowed := true, recurses := true, named := ["martensite/steel.directions"], apart := false, laid := [("martensite/steel.directions", laid_martensite_steel_directions)], narrowed := true }
def SteelFasterUptoSaid : Prop := steelFasterUptoRow.holds Tryd.pinned (OpenSpec.upto steelFasterSpec)

/-- 'martensitelaw04.SteelCases', WHERE WHAT IT READS IS OF BULK AT MOST 1048576: true; the input reads as it did. -/
def steelCasesUptoRow : OpenClaim := { program := "ytfkmbdfajpdjjaadoor", sum := "ea39d5250dcc024eab25392c945495533135f20d3a8d6e0180c579c61f22845b", func := "martensite/martensitelaw04.SteelCases", spec := "steelCases", unfollowed := true, recurses := true, named := ["martensite/steel.directions"], apart := false, laid := [("martensite/steel.directions", laid_martensite_steel_directions)], narrowed := true }
def SteelCasesUptoSaid : Prop := steelCasesUptoRow.holds Tryd.pinned (OpenSpec.upto steelCasesSpec)

/-- 'martensitelaw04.SteelShares', WHERE WHAT IT READS IS OF BULK AT MOST 1048576: true; the input reads as it did. -/
def steelSharesUptoRow : OpenClaim := { program := "ytfkmbdfajpdjjaadoor", sum := "ea39d5250dcc024eab25392c945495533135f20d3a8d6e0180c579c61f22845b", func := "martensite/martensitelaw04.SteelShares", spec := "steelShares", unfollowed := true, recurses := true, named := ["martensite/steel.directions"], apart := false, laid := [("martensite/steel.directions", laid_martensite_steel_directions)], narrowed := true }
def SteelSharesUptoSaid : Prop := steelSharesUptoRow.holds Tryd.pinned (OpenSpec.upto steelSharesSpec)

/-- 'martensitelaw04.SteelTempered', WHERE WHAT IT READS IS OF BULK AT MOST 1048576: true; the input reads as it did. -/
def steelTemperedUptoRow : OpenClaim := { program := "ytfkmbdfajpdjjaadoor", sum := "ea39d5250dcc024eab25392c945495533135f20d3a8d6e0180c579c61f22845b", func := "martensite/martensitelaw04.SteelTempered", spec := "steelTempered", unfollowed := true, recurses := true, named := ["martensite/steel.directions"], apart := false, laid := [("martensite/steel.directions", laid_martensite_steel_directions)], narrowed := true }
def SteelTemperedUptoSaid : Prop := steelTemperedUptoRow.holds Tryd.pinned (OpenSpec.upto steelTemperedSpec)

/-- 'martensitelaw04.SteelRuns', WHERE WHAT IT READS IS OF BULK AT MOST 1048576: true; the input reads as it did. -/
def steelRunsUptoRow : OpenClaim := { program := "ytfkmbdfajpdjjaadoor", sum := "ea39d5250dcc024eab25392c945495533135f20d3a8d6e0180c579c61f22845b", func := "martensite/martensitelaw04.SteelRuns", spec := "steelRuns", unfollowed := true, recurses := true, named := ["martensite/steel.directions"], apart := false, laid := [("martensite/steel.directions", laid_martensite_steel_directions)], narrowed := true }
def SteelRunsUptoSaid : Prop := steelRunsUptoRow.holds Tryd.pinned (OpenSpec.upto steelRunsSpec)

/-- 'martensitelaw04.SteelLots', WHERE WHAT IT READS IS OF BULK AT MOST 1048576: true; the input reads as it did. -/
def steelLotsUptoRow : OpenClaim := { program := "ytfkmbdfajpdjjaadoor", sum := "ea39d5250dcc024eab25392c945495533135f20d3a8d6e0180c579c61f22845b", func := "martensite/martensitelaw04.SteelLots", spec := "steelLots", unfollowed := true, recurses := true, named := ["martensite/steel.directions"], apart := false, laid := [("martensite/steel.directions", laid_martensite_steel_directions)], narrowed := true }
def SteelLotsUptoSaid : Prop := steelLotsUptoRow.holds Tryd.pinned (OpenSpec.upto steelLotsSpec)

/-- 'martensitelaw04.SteelProofs', WHERE WHAT IT READS IS OF BULK AT MOST 1048576: true; the input reads as it did. -/
def steelProofsUptoRow : OpenClaim := { program := "ytfkmbdfajpdjjaadoor", sum := "ea39d5250dcc024eab25392c945495533135f20d3a8d6e0180c579c61f22845b", func := "martensite/martensitelaw04.SteelProofs", spec := "steelProofs", unfollowed := true, recurses := true, named := ["martensite/steel.directions"], apart := false, laid := [("martensite/steel.directions", laid_martensite_steel_directions)], narrowed := true }
def SteelProofsUptoSaid : Prop := steelProofsUptoRow.holds Tryd.pinned (OpenSpec.upto steelProofsSpec)

/-- 'martensitelaw04.SteelEnclosed', WHERE WHAT IT READS IS OF BULK AT MOST 1048576: true; the input reads as it did. -/
def steelEnclosedUptoRow : OpenClaim := { program := "ytfkmbdfajpdjjaadoor", sum := "ea39d5250dcc024eab25392c945495533135f20d3a8d6e0180c579c61f22845b", func := "martensite/martensitelaw04.SteelEnclosed", spec := "steelEnclosed", unfollowed := true, recurses := true, named := ["martensite/steel.directions"], apart := false, laid := [("martensite/steel.directions", laid_martensite_steel_directions)], narrowed := true }
def SteelEnclosedUptoSaid : Prop := steelEnclosedUptoRow.holds Tryd.pinned (OpenSpec.upto steelEnclosedSpec)

end Rows
end Go.Proofs.YtfkmbdfajpdjjaaDoor

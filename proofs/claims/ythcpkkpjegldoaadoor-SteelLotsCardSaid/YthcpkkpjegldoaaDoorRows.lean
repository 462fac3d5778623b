/-
  NARROWER THAN 'FOR EVERY INPUT', by the rows' own cells (each row's printed sentence says how): SteelLots: laid.
  DERIVED. THE GIVEN ROWS OF THIS SEAT. 1 by the template 'for every input the law returns true; each argument reads behind the call as it read before'; 0 by the template 'total and deterministic' (their statements: YthcpkkpjegldoaaDoorTotals.lean).
  GIVEN WITH THE SEED: the statements are not yours to turn. If you find one false, say at which input.
  Laid BY PROGRAM, IN A SANDBOX (cutbox-rows.mjs): the forced cells as the released guide's own fill.sh prints them over the translation f2807b5600fcd9ed… (all of the seat's roots in one cut). By AI agents, Wed Nov 11 2026. No macro, syntax, notation, axiom, sorry.
-/
import Derived.Test.YthcpkkpjegldoaaDoorChecked
import GoSem.Claim
import GoSem.ClaimJoined
import GoSem.ClaimMapViews
import Derived.JoinedTies
import Derived.KernelRfl
namespace Go.Proofs.YthcpkkpjegldoaaDoor
/- THE CELL 'sum', in the pinned program and in every row, IS THE sha256 OF THE DUMP (.gsa) THAT YthcpkkpjegldoaaDoorProg.lean LOADS. Nothing in Lean hashes anything: it is a label: what it is worth is what the hold of that sum in a sandbox is worth. -/
noncomputable def Tryd.pinned : Pinned := { name := "ythcpkkpjegldoaadoor", sum := "f2807b5600fcd9ed4de35c2a4b63f29d6ac7bdaafdf5f7ea8f76595c20bb5824", checked := Tryd.checked }
namespace Rows
def none {H : Type} : Left H := { results := [], args := [] }

/- WHAT THE LISTED PACKAGE-LEVEL VARIABLES READ AS WHEN THE CALL BEGINS. Each datum BY PROGRAM (the guide's laid-datum.mjs) off the statement by which the dump's own 'gosem.cut.vars' lays the variable. In a bare row this is a premise. The card (YthcpkkpjegldoaaDoorCards.lean) ties it to the program's text. -/
def laid_martensite_steel_directions {H : Type} : DataW H := .agg [.lit (.int .i64 1), .lit (.int .i64 0), .lit (.int .i64 (-1)), .lit (.int .i64 0)]

/-- 'martensitelaw04.SteelLots': WHATEVER THE INPUT: true; the input reads as it did. -/
def steelLotsSpec : ChangeSpec := { name := "steelLots", fn := fun _ => fun
  | [d] => { results := [.lit (.bool true)], args := [d] }
  | _ => none }
def steelLotsRow : OpenClaim := { program := "ythcpkkpjegldoaadoor", sum := "f2807b5600fcd9ed4de35c2a4b63f29d6ac7bdaafdf5f7ea8f76595c20bb5824", func := "martensite/martensitelaw04.SteelLots", spec := "steelLots", unfollowed := true, recurses := true, named := ["martensite/steel.directions"], apart := false, laid := [("martensite/steel.directions", laid_martensite_steel_directions)] }
def SteelLotsSaid : Prop := steelLotsRow.holds Tryd.pinned (OpenSpec.ofChange steelLotsSpec)

/-- ITS FALSE NEIGHBOUR: 'it returns false'. Refute it at one input. -/
def steelLotsWrong : ChangeSpec := { name := "steelLots", fn := fun _ => fun
  | [d] => { results := [.lit (.bool false)], args := [d] }
  | _ => none }
def SteelLotsWrongFalsely : Prop := steelLotsRow.holds Tryd.pinned (OpenSpec.ofChange steelLotsWrong)

/- THE SECOND FORM. 'bulk': how many values and letters a reading holds, each counted each time it is reached (what is shared counts as often as it is met; a slice's spare places count too). A statement '..UptoSaid' is the law's where the arguments, and the package variables that the reading takes, are together of bulk at most 1048576: NARROWER than '..Said'. Prove '..Said' where nothing that the law and all that it calls make is longer than what came in: it says more and counts as full. Else prove '..UptoSaid'. A law counts once. -/
mutual
def uptoBulk {H : Type} : DataW H → Nat
  | .lit (.string bytes) => bytes.length + 1
  | .lit _ => 1
  | .nil => 1
  | .ptr d => uptoBulk d + 1
  | .slice elems spare => uptoBulkAll elems + uptoBulkAll spare + 1
  | .agg parts => uptoBulkAll parts + 1
  | .iface _ d => uptoBulk d + 1
  | .map entries => uptoBulkEntries entries + 1
  | .held _ => 1
def uptoBulkAll {H : Type} : List (DataW H) → Nat
  | [] => 0
  | d :: r => uptoBulk d + uptoBulkAll r
def uptoBulkEntries {H : Type} : List (Lit × DataW H) → Nat
  | [] => 0
  | x :: r => uptoBulkEntry x + uptoBulkEntries r
def uptoBulkEntry {H : Type} : Lit × DataW H → Nat
  | (.string bytes, d) => bytes.length + uptoBulk d + 1
  | (_, d) => uptoBulk d + 1
 end
def uptoSmall : (H : Type) → List (DataW H) → Bool := fun _ ds => decide (uptoBulkAll ds ≤ 1048576)
def OpenSpec.upto (s : _root_.Go.ChangeSpec) : _root_.Go.OpenSpec := { _root_.Go.OpenSpec.ofChange s with cond := some uptoSmall }

/-- 'martensitelaw04.SteelLots', WHERE WHAT IT READS IS OF BULK AT MOST 1048576: true; the input reads as it did. -/
def steelLotsUptoRow : OpenClaim := { program := "ythcpkkpjegldoaadoor", sum := "f2807b5600fcd9ed4de35c2a4b63f29d6ac7bdaafdf5f7ea8f76595c20bb5824", func := "martensite/martensitelaw04.SteelLots", spec := "steelLots", unfollowed := true, recurses := true, named := ["martensite/steel.directions"], apart := false, laid := [("martensite/steel.directions", laid_martensite_steel_directions)], narrowed := true }
def SteelLotsUptoSaid : Prop := steelLotsUptoRow.holds Tryd.pinned (OpenSpec.upto steelLotsSpec)

end Rows
end Go.Proofs.YthcpkkpjegldoaaDoor

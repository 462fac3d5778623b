/-
  No cell of these rows narrows 'for every input' (looked for: loops, veiled, ifaces, maps, wideKeys, modest, calm, conditions, laid).
  DERIVED. THE GIVEN ROWS OF THIS SEAT. 11 by the template 'for every input the law returns true; each argument reads behind the call as it read before'; 0 by the template 'total and deterministic' (their statements: YtcbiiijnaeibhaaTotals.lean).
  GIVEN WITH THE SEED: the statements are not yours to turn. If you find one false, say at which input.
  Laid BY PROGRAM, IN A SANDBOX (cutbox-rows.mjs): the forced cells as the released guide's own fill.sh prints them over the translation e61cef14aa1bc4ca… (all of the seat's roots in one cut). By AI agents, Wed Nov 11 2026. No macro, syntax, notation, axiom, sorry.
-/
import Derived.Test.YtcbiiijnaeibhaaChecked
import GoSem.Claim
import GoSem.ClaimJoined
import GoSem.ClaimMapViews
import Derived.JoinedTies
import Derived.KernelRfl
namespace Go.Proofs.Ytcbiiijnaeibhaa
/- THE CELL 'sum', in the pinned program and in every row, IS THE sha256 OF THE DUMP (.gsa) THAT YtcbiiijnaeibhaaProg.lean LOADS. Nothing in Lean hashes anything: it is a label: what it is worth is what the hold of that sum in a sandbox is worth. -/
noncomputable def Try.pinned : Pinned := { name := "ytcbiiijnaeibhaa", sum := "e61cef14aa1bc4cacae5ac5abdd21d1f92b88d789a5a2cd678c288fac7dd2677", checked := Try.checked }
namespace Rows
def none {H : Type} : Left H := { results := [], args := [] }

/-- 'martensitelaw03.HeatTimes': WHATEVER THE INPUT: true; the input reads as it did. -/
def heatTimesSpec : ChangeSpec := { name := "heatTimes", fn := fun _ => fun
  | [d1, d2, d3] => { results := [.lit (.bool true)], args := [d1, d2, d3] }
  | _ => none }
def heatTimesRow : OpenClaim := { program := "ytcbiiijnaeibhaa", sum := "e61cef14aa1bc4cacae5ac5abdd21d1f92b88d789a5a2cd678c288fac7dd2677", func := "martensite/martensitelaw03.HeatTimes", spec := "heatTimes", unfollowed := true, recurses := true, apart := false }
def HeatTimesSaid : Prop := heatTimesRow.holds Try.pinned (OpenSpec.ofChange heatTimesSpec)

/-- ITS FALSE NEIGHBOUR: 'it returns false'. Refute it at one input. -/
def heatTimesWrong : ChangeSpec := { name := "heatTimes", fn := fun _ => fun
  | [d1, d2, d3] => { results := [.lit (.bool false)], args := [d1, d2, d3] }
  | _ => none }
def HeatTimesWrongFalsely : Prop := heatTimesRow.holds Try.pinned (OpenSpec.ofChange heatTimesWrong)

/-- 'martensitelaw03.HeatSetups': WHATEVER THE INPUT: true; the input reads as it did. -/
def heatSetupsSpec : ChangeSpec := { name := "heatSetups", fn := fun _ => fun
  | [d1, d2] => { results := [.lit (.bool true)], args := [d1, d2] }
  | _ => none }
def heatSetupsRow : OpenClaim := { program := "ytcbiiijnaeibhaa", sum := "e61cef14aa1bc4cacae5ac5abdd21d1f92b88d789a5a2cd678c288fac7dd2677", func := "martensite/martensitelaw03.HeatSetups", spec := "heatSetups", unfollowed := true, recurses := true, apart := false }
def HeatSetupsSaid : Prop := heatSetupsRow.holds Try.pinned (OpenSpec.ofChange heatSetupsSpec)

/-- ITS FALSE NEIGHBOUR: 'it returns false'. Refute it at one input. -/
def heatSetupsWrong : ChangeSpec := { name := "heatSetups", fn := fun _ => fun
  | [d1, d2] => { results := [.lit (.bool false)], args := [d1, d2] }
  | _ => none }
def HeatSetupsWrongFalsely : Prop := heatSetupsRow.holds Try.pinned (OpenSpec.ofChange heatSetupsWrong)

/-- 'martensitelaw03.HeatWaters': WHATEVER THE INPUT: true; the input reads as it did. -/
def heatWatersSpec : ChangeSpec := { name := "heatWaters", fn := fun _ => fun
  | [d1, d2, d3] => { results := [.lit (.bool true)], args := [d1, d2, d3] }
  | _ => none }
def heatWatersRow : OpenClaim := { program := "ytcbiiijnaeibhaa", sum := "e61cef14aa1bc4cacae5ac5abdd21d1f92b88d789a5a2cd678c288fac7dd2677", func := "martensite/martensitelaw03.HeatWaters", spec := "heatWaters", unfollowed := true, recurses := true, apart := false }
def HeatWatersSaid : Prop := heatWatersRow.holds Try.pinned (OpenSpec.ofChange heatWatersSpec)

/-- ITS FALSE NEIGHBOUR: 'it returns false'. Refute it at one input. -/
def heatWatersWrong : ChangeSpec := { name := "heatWaters", fn := fun _ => fun
  | [d1, d2, d3] => { results := [.lit (.bool false)], args := [d1, d2, d3] }
  | _ => none }
def HeatWatersWrongFalsely : Prop := heatWatersRow.holds Try.pinned (OpenSpec.ofChange heatWatersWrong)

/-- 'martensitelaw03.HeatBoxes': WHATEVER THE INPUT: true; the input reads as it did. -/
def heatBoxesSpec : ChangeSpec := { name := "heatBoxes", fn := fun _ => fun
  | [d1, d2, d3] => { results := [.lit (.bool true)], args := [d1, d2, d3] }
  | _ => none }
def heatBoxesRow : OpenClaim := { program := "ytcbiiijnaeibhaa", sum := "e61cef14aa1bc4cacae5ac5abdd21d1f92b88d789a5a2cd678c288fac7dd2677", func := "martensite/martensitelaw03.HeatBoxes", spec := "heatBoxes", unfollowed := true, recurses := true, apart := false }
def HeatBoxesSaid : Prop := heatBoxesRow.holds Try.pinned (OpenSpec.ofChange heatBoxesSpec)

/-- ITS FALSE NEIGHBOUR: 'it returns false'. Refute it at one input. -/
def heatBoxesWrong : ChangeSpec := { name := "heatBoxes", fn := fun _ => fun
  | [d1, d2, d3] => { results := [.lit (.bool false)], args := [d1, d2, d3] }
  | _ => none }
def HeatBoxesWrongFalsely : Prop := heatBoxesRow.holds Try.pinned (OpenSpec.ofChange heatBoxesWrong)

/-- 'martensitelaw03.HeatTables': WHATEVER THE INPUT: true; the input reads as it did. -/
def heatTablesSpec : ChangeSpec := { name := "heatTables", fn := fun _ => fun
  | [d1, d2] => { results := [.lit (.bool true)], args := [d1, d2] }
  | _ => none }
def heatTablesRow : OpenClaim := { program := "ytcbiiijnaeibhaa", sum := "e61cef14aa1bc4cacae5ac5abdd21d1f92b88d789a5a2cd678c288fac7dd2677", func := "martensite/martensitelaw03.HeatTables", spec := "heatTables", unfollowed := true, recurses := true, apart := false }
def HeatTablesSaid : Prop := heatTablesRow.holds Try.pinned (OpenSpec.ofChange heatTablesSpec)

/-- ITS FALSE NEIGHBOUR: 'it returns false'. Refute it at one input. -/
def heatTablesWrong : ChangeSpec := { name := "heatTables", fn := fun _ => fun
  | [d1, d2] => { results := [.lit (.bool false)], args := [d1, d2] }
  | _ => none }
def HeatTablesWrongFalsely : Prop := heatTablesRow.holds Try.pinned (OpenSpec.ofChange heatTablesWrong)

/-- 'martensitelaw03.HeatRuns': WHATEVER THE INPUT: true; the input reads as it did. -/
def heatRunsSpec : ChangeSpec := { name := "heatRuns", fn := fun _ => fun
  | [d1, d2, d3] => { results := [.lit (.bool true)], args := [d1, d2, d3] }
  | _ => none }
def heatRunsRow : OpenClaim := { program := "ytcbiiijnaeibhaa", sum := "e61cef14aa1bc4cacae5ac5abdd21d1f92b88d789a5a2cd678c288fac7dd2677", func := "martensite/martensitelaw03.HeatRuns", spec := "heatRuns", unfollowed := true, recurses := true, apart := false }
def HeatRunsSaid : Prop := heatRunsRow.holds Try.pinned (OpenSpec.ofChange heatRunsSpec)

/-- ITS FALSE NEIGHBOUR: 'it returns false'. Refute it at one input. -/
def heatRunsWrong : ChangeSpec := { name := "heatRuns", fn := fun _ => fun
  | [d1, d2, d3] => { results := [.lit (.bool false)], args := [d1, d2, d3] }
  | _ => none }
def HeatRunsWrongFalsely : Prop := heatRunsRow.holds Try.pinned (OpenSpec.ofChange heatRunsWrong)

/-- 'martensitelaw03.HeatOrdered': WHATEVER THE INPUT: true; the input reads as it did. -/
def heatOrderedSpec : ChangeSpec := { name := "heatOrdered", fn := fun _ => fun
  | [d1, d2, d3] => { results := [.lit (.bool true)], args := [d1, d2, d3] }
  | _ => none }
def heatOrderedRow : OpenClaim := { program := "ytcbiiijnaeibhaa", sum := "e61cef14aa1bc4cacae5ac5abdd21d1f92b88d789a5a2cd678c288fac7dd2677", func := "martensite/martensitelaw03.HeatOrdered", spec := "heatOrdered", unfollowed := true, recurses := true, apart := false }
def HeatOrderedSaid : Prop := heatOrderedRow.holds Try.pinned (OpenSpec.ofChange heatOrderedSpec)

/-- ITS FALSE NEIGHBOUR: 'it returns false'. Refute it at one input. -/
def heatOrderedWrong : ChangeSpec := { name := "heatOrdered", fn := fun _ => fun
  | [d1, d2, d3] => { results := [.lit (.bool false)], args := [d1, d2, d3] }
  | _ => none }
def HeatOrderedWrongFalsely : Prop := heatOrderedRow.holds Try.pinned (OpenSpec.ofChange heatOrderedWrong)

/-- 'martensitelaw03.HeatShortest': WHATEVER THE INPUT: true; the input reads as it did. -/
def heatShortestSpec : ChangeSpec := { name := "heatShortest", fn := fun _ => fun
  | [d1, d2, d3] => { results := [.lit (.bool true)], args := [d1, d2, d3] }
  | _ => none }
def heatShortestRow : OpenClaim := { program := "ytcbiiijnaeibhaa", sum := "e61cef14aa1bc4cacae5ac5abdd21d1f92b88d789a5a2cd678c288fac7dd2677", func := "martensite/martensitelaw03.HeatShortest", spec := "heatShortest", unfollowed := true, recurses := true, apart := false }
def HeatShortestSaid : Prop := heatShortestRow.holds Try.pinned (OpenSpec.ofChange heatShortestSpec)

/-- ITS FALSE NEIGHBOUR: 'it returns false'. Refute it at one input. -/
def heatShortestWrong : ChangeSpec := { name := "heatShortest", fn := fun _ => fun
  | [d1, d2, d3] => { results := [.lit (.bool false)], args := [d1, d2, d3] }
  | _ => none }
def HeatShortestWrongFalsely : Prop := heatShortestRow.holds Try.pinned (OpenSpec.ofChange heatShortestWrong)

/-- 'martensitelaw03.HeatBoils': WHATEVER THE INPUT: true; the input reads as it did. -/
def heatBoilsSpec : ChangeSpec := { name := "heatBoils", fn := fun _ => fun
  | [d1, d2, d3] => { results := [.lit (.bool true)], args := [d1, d2, d3] }
  | _ => none }
def heatBoilsRow : OpenClaim := { program := "ytcbiiijnaeibhaa", sum := "e61cef14aa1bc4cacae5ac5abdd21d1f92b88d789a5a2cd678c288fac7dd2677", func := "martensite/martensitelaw03.HeatBoils", spec := "heatBoils", unfollowed := true, recurses := true, apart := false }
def HeatBoilsSaid : Prop := heatBoilsRow.holds Try.pinned (OpenSpec.ofChange heatBoilsSpec)

/-- ITS FALSE NEIGHBOUR: 'it returns false'. Refute it at one input. -/
def heatBoilsWrong : ChangeSpec := { name := "heatBoils", fn := fun _ => fun
  | [d1, d2, d3] => { results := [.lit (.bool false)], args := [d1, d2, d3] }
  | _ => none }
def HeatBoilsWrongFalsely : Prop := heatBoilsRow.holds Try.pinned (OpenSpec.ofChange heatBoilsWrong)

/-- 'martensitelaw03.HeatKept': WHATEVER THE INPUT: true; the input reads as it did. -/
def heatKeptSpec : ChangeSpec := { name := "heatKept", fn := fun _ => fun
  | [d1, d2, d3] => { results := [.lit (.bool true)], args := [d1, d2, d3] }
  | _ => none }
def heatKeptRow : OpenClaim := { program := "ytcbiiijnaeibhaa", sum := "e61cef14aa1bc4cacae5ac5abdd21d1f92b88d789a5a2cd678c288fac7dd2677", func := "martensite/martensitelaw03.HeatKept", spec := "heatKept", unfollowed := true, recurses := true, apart := false }
def HeatKeptSaid : Prop := heatKeptRow.holds Try.pinned (OpenSpec.ofChange heatKeptSpec)

/-- ITS FALSE NEIGHBOUR: 'it returns false'. Refute it at one input. -/
def heatKeptWrong : ChangeSpec := { name := "heatKept", fn := fun _ => fun
  | [d1, d2, d3] => { results := [.lit (.bool false)], args := [d1, d2, d3] }
  | _ => none }
def HeatKeptWrongFalsely : Prop := heatKeptRow.holds Try.pinned (OpenSpec.ofChange heatKeptWrong)

/-- 'martensitelaw03.HeatEnclosed': WHATEVER THE INPUT: true; the input reads as it did. -/
def heatEnclosedSpec : ChangeSpec := { name := "heatEnclosed", fn := fun _ => fun
  | [d1, d2, d3] => { results := [.lit (.bool true)], args := [d1, d2, d3] }
  | _ => none }
def heatEnclosedRow : OpenClaim := { program := "ytcbiiijnaeibhaa", sum := "e61cef14aa1bc4cacae5ac5abdd21d1f92b88d789a5a2cd678c288fac7dd2677", func := "martensite/martensitelaw03.HeatEnclosed", spec := "heatEnclosed", unfollowed := true, recurses := true, apart := false }
def HeatEnclosedSaid : Prop := heatEnclosedRow.holds Try.pinned (OpenSpec.ofChange heatEnclosedSpec)

/-- ITS FALSE NEIGHBOUR: 'it returns false'. Refute it at one input. -/
def heatEnclosedWrong : ChangeSpec := { name := "heatEnclosed", fn := fun _ => fun
  | [d1, d2, d3] => { results := [.lit (.bool false)], args := [d1, d2, d3] }
  | _ => none }
def HeatEnclosedWrongFalsely : Prop := heatEnclosedRow.holds Try.pinned (OpenSpec.ofChange heatEnclosedWrong)

/- THE SECOND FORM. 'bulk': how many values and letters a reading holds, each counted each time it is reached (what is shared counts as often as it is met; a slice's spare places count too). A statement '..UptoSaid' is the law's where the arguments, and the package variables that the reading takes, are together of bulk at most 1048576: NARROWER than '..Said'. Prove '..Said' where nothing that the law and all that it calls make is longer than what came in: it says more and counts as full. Else prove '..UptoSaid'. A law counts once. -/
mutual
def uptoBulk {H : Type} : DataW H → Nat
  | .lit (.string bytes) => bytes.length + 1
  | .lit _ => 1
  | .nil => 1
  | .ptr d => uptoBulk d + 1
  | .slice elems spare => uptoBulkAll elems + uptoBulkAll spare + 1
  | .agg parts => uptoBulkAll parts + 1
  | .iface _ d => uptoBulk d + 1
  | .map entries => uptoBulkEntries entries + 1
  | .held _ => 1
def uptoBulkAll {H : Type} : List (DataW H) → Nat
  | [] => 0
  | d :: r => uptoBulk d + uptoBulkAll r
def uptoBulkEntries {H : Type} : List (Lit × DataW H) → Nat
  | [] => 0
  | x :: r => uptoBulkEntry x + uptoBulkEntries r
def uptoBulkEntry {H : Type} : Lit × DataW H → Nat
  | (.string bytes, d) => bytes.length + uptoBulk d + 1
  | (_, d) => uptoBulk d + 1
 end
def uptoSmall : (H : Type) → List (DataW H) → Bool := fun _ ds => decide (uptoBulkAll ds ≤ 1048576)
def OpenSpec.upto (s : _root_.Go.ChangeSpec) : _root_.Go.OpenSpec := { _root_.Go.OpenSpec.ofChange s with cond := some uptoSmall }

/-- 'martensitelaw03.HeatTimes', WHERE WHAT IT READS IS OF BULK AT MOST 1048576: true; the input reads as it did. -/
def heatTimesUptoRow : OpenClaim := { program := "ytcbiiijnaeibhaa", sum := "e61cef14aa1bc4cacae5ac5abdd21d1f92b88d789a5a2cd678c288fac7dd2677", func := "martensite/martensitelaw03.HeatTimes", spec := "heatTimes", unfollowed := true, recurses := true, apart := false, narrowed := true }
def HeatTimesUptoSaid : Prop := heatTimesUptoRow.holds Try.pinned (OpenSpec.upto heatTimesSpec)

/-- 'martensitelaw03.HeatSetups', WHERE WHAT IT READS IS OF BULK AT MOST 1048576: true; the input reads as it did. -/
def heatSetupsUptoRow : OpenClaim := { program := "ytcbiiijnaeibhaa", sum := "e61cef14aa1bc4cacae5ac5abdd21d1f92b88d789a5a2cd678c288fac7dd2677", func := "martensite/martensitelaw03.HeatSetups", spec := "heatSetups", unfollowed := true, recurses := true, apart := false, narrowed := true }
def HeatSetupsUptoSaid : Prop := heatSetupsUptoRow.holds Try.pinned (OpenSpec.upto heatSetupsSpec)

/-- 'martensitelaw03.HeatWaters', WHERE WHAT IT READS IS OF BULK AT MOST 1048576: true; the input reads as it did. -/
def heatWatersUptoRow : OpenClaim := { program := "ytcbiiijnaeibhaa", sum := "e61cef14aa1bc4cacae5ac5abdd21d1f92b88d789a5a2cd678c288fac7dd2677", func := "martensite/martensitelaw03.HeatWaters", spec := "heatWaters", unfollowed := true, recurses := true, apart := false, narrowed := true }
def HeatWatersUptoSaid : Prop := heatWatersUptoRow.holds Try.pinned (OpenSpec.upto heatWatersSpec)

/-- 'martensitelaw03.HeatBoxes', WHERE WHAT IT READS IS OF BULK AT MOST 1048576: true; the input reads as it did. -/
def heatBoxesUptoRow : OpenClaim := { program := "ytcbiiijnaeibhaa", sum := "e61cef14aa1bc4cacae5ac5abdd21d1f92b88d789a5a2cd678c288fac7dd2677", func := "martensite/martensitelaw03.HeatBoxes", spec := "heatBoxes", unfollowed := true, recurses := true, apart := false, narrowed := true }
def HeatBoxesUptoSaid : Prop := heatBoxesUptoRow.holds Try.pinned (OpenSpec.upto heatBoxesSpec)

/-- 'martensitelaw03.HeatTables', WHERE WHAT IT READS IS OF BULK AT MOST 1048576: true; the input reads as it did. -/
def heatTablesUptoRow : OpenClaim := { program := "ytcbiiijnaeibhaa", sum := "e61cef14aa1bc4cacae5ac5abdd21d1f92b88d789a5a2cd678c288fac7dd2677", func := "martensite/martensitelaw03.HeatTables", spec := "heatTables", unfollowed := true, recurses := true, apart := false, narrowed := true }
def HeatTablesUptoSaid : Prop := heatTablesUptoRow.holds Try.pinned (OpenSpec.upto heatTablesSpec)

/-- 'martensitelaw03.HeatRuns', WHERE WHAT IT READS IS OF BULK AT MOST 1048576: true; the input reads as it did. -/
def heatRunsUptoRow : OpenClaim := { program := "ytcbiiijnaeibhaa", sum := "e61cef14aa1bc4cacae5ac5abdd21d1f92b88d789a5a2cd678c288fac7dd2677", func := "martensite/martensitelaw03.HeatRuns", spec := "heatRuns", unfollowed := true, recurses := true, apart := false, narrowed := true }
def HeatRunsUptoSaid : Prop := heatRunsUptoRow.holds Try.pinned (OpenSpec.upto heatRunsSpec)

/-- 'martensitelaw03.HeatOrdered', WHERE WHAT IT READS IS OF BULK AT MOST 1048576: true; the input reads as it did. -/
def heatOrderedUptoRow : OpenClaim := { program := "ytcbiiijnaeibhaa", sum := "e61cef14aa1bc4cacae5ac5abdd21d1f92b88d789a5a2cd678c288fac7dd2677", func := "martensite/martensitelaw03.HeatOrdered", spec := "heatOrdered", unfollowed := true, recurses := true, apart := false, narrowed := true }
def HeatOrderedUptoSaid : Prop := heatOrderedUptoRow.holds Try.pinned (OpenSpec.upto heatOrderedSpec)

/-- 'martensitelaw03.HeatShortest', WHERE WHAT IT READS IS OF BULK AT MOST 1048576: true; the input reads as it did. -/
def heatShortestUptoRow : OpenClaim := { program := "ytcbiiijnaeibhaa", sum := "e61cef14aa1bc4cacae5ac5abdd21d1f92b88d789a5a2cd678c288fac7dd2677", func := "martensite/martensitelaw03.HeatShortest", spec := "heatShortest", unfollowed := true, recurses := true, apart := false, narrowed := true }
def HeatShortestUptoSaid : Prop := heatShortestUptoRow.holds Try.pinned (OpenSpec.upto heatShortestSpec)

/-- 'martensitelaw03.HeatBoils', WHERE WHAT IT READS IS OF BULK AT MOST 1048576: true; the input reads as it did. -/
def heatBoilsUptoRow : OpenClaim := { program := "ytcbiiijnaeibhaa", sum := "e61cef14aa1bc4cacae5ac5abdd21d1f92b88d789a5a2cd678c288fac7dd2677", func := "martensite/martensitelaw03.HeatBoils", spec := "heatBoils", unfollowed := true, recurses := true, apart := false, narrowed := true }
def HeatBoilsUptoSaid : Prop := heatBoilsUptoRow.holds Try.pinned (OpenSpec.upto heatBoilsSpec)

/-- 'martensitelaw03.HeatKept', WHERE WHAT IT READS IS OF BULK AT MOST 1048576: true; the input reads as it did. -/
def heatKeptUptoRow : OpenClaim := { program := "ytcbiiijnaeibhaa", sum := "e61cef14aa1bc4cacae5ac5abdd21d1f92b88d789a5a2cd678c288fac7dd2677", func := "martensite/martensitelaw03.HeatKept", spec := "heatKept", unfollowed := true, recurses := true, apart := false, narrowed := true }
def HeatKeptUptoSaid : Prop := heatKeptUptoRow.holds Try.pinned (OpenSpec.upto heatKeptSpec)

/-- 'martensitelaw03.HeatEnclosed', WHERE WHAT IT READS IS OF BULK AT MOST 1048576: true; the input reads as it did. -/
def heatEnclosedUptoRow : OpenClaim := { program := "ytcbiiijnaeibhaa", sum := "e61cef14aa1bc4cacae5ac5abdd21d1f92b88d789a5a2cd678c288fac7dd2677", func := "martensite/martensitelaw03.HeatEnclosed", spec := "heatEnclosed", unfollowed := true, recurses := true, apart := false, narrowed := true }
def HeatEnclosedUptoSaid : Prop := heatEnclosedUptoRow.holds Try.pinned (OpenSpec.upto heatEnclosedSpec)

end Rows
end Go.Proofs.Ytcbiiijnaeibhaa

/-
  No cell of these rows narrows 'for every input' (looked for: loops, veiled, ifaces, maps, wideKeys, modest, calm, conditions, laid).
  DERIVED. THE GIVEN ROWS OF THIS SEAT. 12 by the template 'for every input the law returns true; each argument reads behind the call as it read before'; 0 by the template 'total and deterministic' (their statements: YtagnplbfdaifkaaTotals.lean).
  GIVEN WITH THE SEED: the statements are not yours to turn. If you find one false, say at which input.
  Laid BY PROGRAM, IN A SANDBOX (cutbox-rows.mjs): the forced cells as the released guide's own fill.sh prints them over the translation cd2cb475d7139334… (all of the seat's roots in one cut). By AI agents, Wed Nov 11 2026. No macro, syntax, notation, axiom, sorry.
-/
import Derived.Test.YtagnplbfdaifkaaChecked
import GoSem.Claim
import GoSem.ClaimJoined
import GoSem.ClaimMapViews
import Derived.JoinedTies
import Derived.KernelRfl
namespace Go.Proofs.Ytagnplbfdaifkaa
/- THE CELL 'sum', in the pinned program and in every row, IS THE sha256 OF THE DUMP (.gsa) THAT YtagnplbfdaifkaaProg.lean LOADS. Nothing in Lean hashes anything: it is a label: what it is worth is what the hold of that sum in a sandbox is worth. -/
noncomputable def Try.pinned : Pinned := { name := "ytagnplbfdaifkaa", sum := "cd2cb475d713933426812fc989439b98878a489e2a8506f631b97a77a918aeea", checked := Try.checked }
namespace Rows
def none {H : Type} : Left H := { results := [], args := [] }

/-- 'martensitelaw02.FieldImpedances': WHATEVER THE INPUT: true; the input reads as it did. -/
def fieldImpedancesSpec : ChangeSpec := { name := "fieldImpedances", fn := fun _ => fun
  | [d1, d2, d3] => { results := [.lit (.bool true)], args := [d1, d2, d3] }
  | _ => none }
def fieldImpedancesRow : OpenClaim := { program := "ytagnplbfdaifkaa", sum := "cd2cb475d713933426812fc989439b98878a489e2a8506f631b97a77a918aeea", func := "martensite/martensitelaw02.FieldImpedances", spec := "fieldImpedances", unfollowed := true, recurses := true, apart := false }
def FieldImpedancesSaid : Prop := fieldImpedancesRow.holds Try.pinned (OpenSpec.ofChange fieldImpedancesSpec)

/-- ITS FALSE NEIGHBOUR: 'it returns false'. Refute it at one input. -/
def fieldImpedancesWrong : ChangeSpec := { name := "fieldImpedances", fn := fun _ => fun
  | [d1, d2, d3] => { results := [.lit (.bool false)], args := [d1, d2, d3] }
  | _ => none }
def FieldImpedancesWrongFalsely : Prop := fieldImpedancesRow.holds Try.pinned (OpenSpec.ofChange fieldImpedancesWrong)

/-- 'martensitelaw02.FieldLadders': WHATEVER THE INPUT: true; the input reads as it did. -/
def fieldLaddersSpec : ChangeSpec := { name := "fieldLadders", fn := fun _ => fun
  | [d1, d2] => { results := [.lit (.bool true)], args := [d1, d2] }
  | _ => none }
def fieldLaddersRow : OpenClaim := { program := "ytagnplbfdaifkaa", sum := "cd2cb475d713933426812fc989439b98878a489e2a8506f631b97a77a918aeea", func := "martensite/martensitelaw02.FieldLadders", spec := "fieldLadders", unfollowed := true, recurses := true, apart := false }
def FieldLaddersSaid : Prop := fieldLaddersRow.holds Try.pinned (OpenSpec.ofChange fieldLaddersSpec)

/-- ITS FALSE NEIGHBOUR: 'it returns false'. Refute it at one input. -/
def fieldLaddersWrong : ChangeSpec := { name := "fieldLadders", fn := fun _ => fun
  | [d1, d2] => { results := [.lit (.bool false)], args := [d1, d2] }
  | _ => none }
def FieldLaddersWrongFalsely : Prop := fieldLaddersRow.holds Try.pinned (OpenSpec.ofChange fieldLaddersWrong)

/-- 'martensitelaw02.FieldReciprocal': WHATEVER THE INPUT: true; the input reads as it did. -/
def fieldReciprocalSpec : ChangeSpec := { name := "fieldReciprocal", fn := fun _ => fun
  | [d1, d2, d3] => { results := [.lit (.bool true)], args := [d1, d2, d3] }
  | _ => none }
def fieldReciprocalRow : OpenClaim := { program := "ytagnplbfdaifkaa", sum := "cd2cb475d713933426812fc989439b98878a489e2a8506f631b97a77a918aeea", func := "martensite/martensitelaw02.FieldReciprocal", spec := "fieldReciprocal", unfollowed := true, recurses := true, apart := false }
def FieldReciprocalSaid : Prop := fieldReciprocalRow.holds Try.pinned (OpenSpec.ofChange fieldReciprocalSpec)

/-- ITS FALSE NEIGHBOUR: 'it returns false'. Refute it at one input. -/
def fieldReciprocalWrong : ChangeSpec := { name := "fieldReciprocal", fn := fun _ => fun
  | [d1, d2, d3] => { results := [.lit (.bool false)], args := [d1, d2, d3] }
  | _ => none }
def FieldReciprocalWrongFalsely : Prop := fieldReciprocalRow.holds Try.pinned (OpenSpec.ofChange fieldReciprocalWrong)

/-- 'martensitelaw02.FieldDeeper': WHATEVER THE INPUT: true; the input reads as it did. -/
def fieldDeeperSpec : ChangeSpec := { name := "fieldDeeper", fn := fun _ => fun
  | [d1, d2] => { results := [.lit (.bool true)], args := [d1, d2] }
  | _ => none }
def fieldDeeperRow : OpenClaim := { program := "ytagnplbfdaifkaa", sum := "cd2cb475d713933426812fc989439b98878a489e2a8506f631b97a77a918aeea", func := "martensite/martensitelaw02.FieldDeeper", spec := "fieldDeeper", unfollowed := true, recurses := true, apart := false }
def FieldDeeperSaid : Prop := fieldDeeperRow.holds Try.pinned (OpenSpec.ofChange fieldDeeperSpec)

/-- ITS FALSE NEIGHBOUR: 'it returns false'. Refute it at one input. -/
def fieldDeeperWrong : ChangeSpec := { name := "fieldDeeper", fn := fun _ => fun
  | [d1, d2] => { results := [.lit (.bool false)], args := [d1, d2] }
  | _ => none }
def FieldDeeperWrongFalsely : Prop := fieldDeeperRow.holds Try.pinned (OpenSpec.ofChange fieldDeeperWrong)

/-- 'martensitelaw02.FieldWhole': WHATEVER THE INPUT: true; the input reads as it did. -/
def fieldWholeSpec : ChangeSpec := { name := "fieldWhole", fn := fun _ => fun
  | [d1, d2, d3] => { results := [.lit (.bool true)], args := [d1, d2, d3] }
  | _ => none }
def fieldWholeRow : OpenClaim := { program := "ytagnplbfdaifkaa", sum := "cd2cb475d713933426812fc989439b98878a489e2a8506f631b97a77a918aeea", func := "martensite/martensitelaw02.FieldWhole", spec := "fieldWhole", unfollowed := true, recurses := true, apart := false }
def FieldWholeSaid : Prop := fieldWholeRow.holds Try.pinned (OpenSpec.ofChange fieldWholeSpec)

/-- ITS FALSE NEIGHBOUR: 'it returns false'. Refute it at one input. -/
def fieldWholeWrong : ChangeSpec := { name := "fieldWhole", fn := fun _ => fun
  | [d1, d2, d3] => { results := [.lit (.bool false)], args := [d1, d2, d3] }
  | _ => none }
def FieldWholeWrongFalsely : Prop := fieldWholeRow.holds Try.pinned (OpenSpec.ofChange fieldWholeWrong)

/-- 'martensitelaw02.FieldHots': WHATEVER THE INPUT: true; the input reads as it did. -/
def fieldHotsSpec : ChangeSpec := { name := "fieldHots", fn := fun _ => fun
  | [d1, d2] => { results := [.lit (.bool true)], args := [d1, d2] }
  | _ => none }
def fieldHotsRow : OpenClaim := { program := "ytagnplbfdaifkaa", sum := "cd2cb475d713933426812fc989439b98878a489e2a8506f631b97a77a918aeea", func := "martensite/martensitelaw02.FieldHots", spec := "fieldHots", unfollowed := true, recurses := true, apart := false }
def FieldHotsSaid : Prop := fieldHotsRow.holds Try.pinned (OpenSpec.ofChange fieldHotsSpec)

/-- ITS FALSE NEIGHBOUR: 'it returns false'. Refute it at one input. -/
def fieldHotsWrong : ChangeSpec := { name := "fieldHots", fn := fun _ => fun
  | [d1, d2] => { results := [.lit (.bool false)], args := [d1, d2] }
  | _ => none }
def FieldHotsWrongFalsely : Prop := fieldHotsRow.holds Try.pinned (OpenSpec.ofChange fieldHotsWrong)

/-- 'martensitelaw02.FieldPowers': WHATEVER THE INPUT: true; the input reads as it did. -/
def fieldPowersSpec : ChangeSpec := { name := "fieldPowers", fn := fun _ => fun
  | [d1, d2, d3] => { results := [.lit (.bool true)], args := [d1, d2, d3] }
  | _ => none }
def fieldPowersRow : OpenClaim := { program := "ytagnplbfdaifkaa", sum := "cd2cb475d713933426812fc989439b98878a489e2a8506f631b97a77a918aeea", func := "martensite/martensitelaw02.FieldPowers", spec := "fieldPowers", unfollowed := true, recurses := true, apart := false }
def FieldPowersSaid : Prop := fieldPowersRow.holds Try.pinned (OpenSpec.ofChange fieldPowersSpec)

/-- ITS FALSE NEIGHBOUR: 'it returns false'. Refute it at one input. -/
def fieldPowersWrong : ChangeSpec := { name := "fieldPowers", fn := fun _ => fun
  | [d1, d2, d3] => { results := [.lit (.bool false)], args := [d1, d2, d3] }
  | _ => none }
def FieldPowersWrongFalsely : Prop := fieldPowersRow.holds Try.pinned (OpenSpec.ofChange fieldPowersWrong)

/-- 'martensitelaw02.FieldSolved': WHATEVER THE INPUT: true; the input reads as it did. -/
def fieldSolvedSpec : ChangeSpec := { name := "fieldSolved", fn := fun _ => fun
  | [d1, d2, d3] => { results := [.lit (.bool true)], args := [d1, d2, d3] }
  | _ => none }
def fieldSolvedRow : OpenClaim := { program := "ytagnplbfdaifkaa", sum := "cd2cb475d713933426812fc989439b98878a489e2a8506f631b97a77a918aeea", func := "martensite/martensitelaw02.FieldSolved", spec := "fieldSolved", unfollowed := true, recurses := true, apart := false }
def FieldSolvedSaid : Prop := fieldSolvedRow.holds Try.pinned (OpenSpec.ofChange fieldSolvedSpec)

/-- ITS FALSE NEIGHBOUR: 'it returns false'. Refute it at one input. -/
def fieldSolvedWrong : ChangeSpec := { name := "fieldSolved", fn := fun _ => fun
  | [d1, d2, d3] => { results := [.lit (.bool false)], args := [d1, d2, d3] }
  | _ => none }
def FieldSolvedWrongFalsely : Prop := fieldSolvedRow.holds Try.pinned (OpenSpec.ofChange fieldSolvedWrong)

/-- 'martensitelaw02.FieldClasses': WHATEVER THE INPUT: true; the input reads as it did. -/
def fieldClassesSpec : ChangeSpec := { name := "fieldClasses", fn := fun _ => fun
  | [d1, d2, d3] => { results := [.lit (.bool true)], args := [d1, d2, d3] }
  | _ => none }
def fieldClassesRow : OpenClaim := { program := "ytagnplbfdaifkaa", sum := "cd2cb475d713933426812fc989439b98878a489e2a8506f631b97a77a918aeea", func := "martensite/martensitelaw02.FieldClasses", spec := "fieldClasses", unfollowed := true, recurses := true, apart := false }
def FieldClassesSaid : Prop := fieldClassesRow.holds Try.pinned (OpenSpec.ofChange fieldClassesSpec)

/-- ITS FALSE NEIGHBOUR: 'it returns false'. Refute it at one input. -/
def fieldClassesWrong : ChangeSpec := { name := "fieldClasses", fn := fun _ => fun
  | [d1, d2, d3] => { results := [.lit (.bool false)], args := [d1, d2, d3] }
  | _ => none }
def FieldClassesWrongFalsely : Prop := fieldClassesRow.holds Try.pinned (OpenSpec.ofChange fieldClassesWrong)

/-- 'martensitelaw02.FieldEvery': WHATEVER THE INPUT: true; the input reads as it did. -/
def fieldEverySpec : ChangeSpec := { name := "fieldEvery", fn := fun _ => fun
  | [d1, d2, d3] => { results := [.lit (.bool true)], args := [d1, d2, d3] }
  | _ => none }
def fieldEveryRow : OpenClaim := { program := "ytagnplbfdaifkaa", sum := "cd2cb475d713933426812fc989439b98878a489e2a8506f631b97a77a918aeea", func := "martensite/martensitelaw02.FieldEvery", spec := "fieldEvery", unfollowed := true, recurses := true, apart := false }
def FieldEverySaid : Prop := fieldEveryRow.holds Try.pinned (OpenSpec.ofChange fieldEverySpec)

/-- ITS FALSE NEIGHBOUR: 'it returns false'. Refute it at one input. -/
def fieldEveryWrong : ChangeSpec := { name := "fieldEvery", fn := fun _ => fun
  | [d1, d2, d3] => { results := [.lit (.bool false)], args := [d1, d2, d3] }
  | _ => none }
def FieldEveryWrongFalsely : Prop := fieldEveryRow.holds Try.pinned (OpenSpec.ofChange fieldEveryWrong)

/-- 'martensitelaw02.FieldKept': WHATEVER THE INPUT: true; the input reads as it did. -/
def fieldKeptSpec : ChangeSpec := { name := "fieldKept", fn := fun _ => fun
  | [d1, d2, d3] => { results := [.lit (.bool true)], args := [d1, d2, d3] }
  | _ => none }
def fieldKeptRow : OpenClaim := { program := "ytagnplbfdaifkaa", sum := "cd2cb475d713933426812fc989439b98878a489e2a8506f631b97a77a918aeea", func := "martensite/martensitelaw02.FieldKept", spec := "fieldKept", unfollowed := true, recurses := true, apart := false }
def FieldKeptSaid : Prop := fieldKeptRow.holds Try.pinned (OpenSpec.ofChange fieldKeptSpec)

/-- ITS FALSE NEIGHBOUR: 'it returns false'. Refute it at one input. -/
def fieldKeptWrong : ChangeSpec := { name := "fieldKept", fn := fun _ => fun
  | [d1, d2, d3] => { results := [.lit (.bool false)], args := [d1, d2, d3] }
  | _ => none }
def FieldKeptWrongFalsely : Prop := fieldKeptRow.holds Try.pinned (OpenSpec.ofChange fieldKeptWrong)

/-- 'martensitelaw02.FieldFrequencies': WHATEVER THE INPUT: true; the input reads as it did. -/
def fieldFrequenciesSpec : ChangeSpec := { name := "fieldFrequencies", fn := fun _ => fun
  | [d1, d2, d3] => { results := [.lit (.bool true)], args := [d1, d2, d3] }
  | _ => none }
def fieldFrequenciesRow : OpenClaim := { program := "ytagnplbfdaifkaa", sum := "cd2cb475d713933426812fc989439b98878a489e2a8506f631b97a77a918aeea", func := "martensite/martensitelaw02.FieldFrequencies", spec := "fieldFrequencies", unfollowed := true, recurses := true, apart := false }
def FieldFrequenciesSaid : Prop := fieldFrequenciesRow.holds Try.pinned (OpenSpec.ofChange fieldFrequenciesSpec)

/-- ITS FALSE NEIGHBOUR: 'it returns false'. Refute it at one input. -/
def fieldFrequenciesWrong : ChangeSpec := { name := "fieldFrequencies", fn := fun _ => fun
  | [d1, d2, d3] => { results := [.lit (.bool false)], args := [d1, d2, d3] }
  | _ => none }
def FieldFrequenciesWrongFalsely : Prop := fieldFrequenciesRow.holds Try.pinned (OpenSpec.ofChange fieldFrequenciesWrong)

/- THE SECOND FORM. 'bulk': how many values and letters a reading holds, each counted each time it is reached (what is shared counts as often as it is met; a slice's spare places count too). A statement '..UptoSaid' is the law's where the arguments, and the package variables that the reading takes, are together of bulk at most 1048576: NARROWER than '..Said'. Prove '..Said' where nothing that the law and all that it calls make is longer than what came in: it says more and counts as full. Else prove '..UptoSaid'. A law counts once. -/
mutual
def uptoBulk {H : Type} : DataW H → Nat
  | .lit (.string bytes) => bytes.length + 1
  | .lit _ => 1
  | .nil => 1
  | .ptr d => uptoBulk d + 1
  | .slice elems spare => uptoBulkAll elems + uptoBulkAll spare + 1
  | .agg parts => uptoBulkAll parts + 1
  | .iface _ d => uptoBulk d + 1
  | .map entries => uptoBulkEntries entries + 1
  | .held _ => 1
def uptoBulkAll {H : Type} : List (DataW H) → Nat
  | [] => 0
  | d :: r => uptoBulk d + uptoBulkAll r
def uptoBulkEntries {H : Type} : List (Lit × DataW H) → Nat
  | [] => 0
  | x :: r => uptoBulkEntry x + uptoBulkEntries r
def uptoBulkEntry {H : Type} : Lit × DataW H → Nat
  | (.string bytes, d) => bytes.length + uptoBulk d + 1
  | (_, d) => uptoBulk d + 1
 end
def uptoSmall : (H : Type) → List (DataW H) → Bool := fun _ ds => decide (uptoBulkAll ds ≤ 1048576)
def OpenSpec.upto (s : _root_.Go.ChangeSpec) : _root_.Go.OpenSpec := { _root_.Go.OpenSpec.ofChange s with cond := some uptoSmall }

/-- 'martensitelaw02.FieldImpedances', WHERE WHAT IT READS IS OF BULK AT MOST 1048576: true; the input reads as it did. -/
def fieldImpedancesUptoRow : OpenClaim := { program := "ytagnplbfdaifkaa", sum := "cd2cb475d713933426812fc989439b98878a489e2a8506f631b97a77a918aeea", func := "martensite/martensitelaw02.FieldImpedances", spec := "fieldImpedances", unfollowed := true, recurses := true, apart := false, narrowed := true }
def FieldImpedancesUptoSaid : Prop := fieldImpedancesUptoRow.holds Try.pinned (OpenSpec.upto fieldImpedancesSpec)

/-- 'martensitelaw02.FieldLadders', WHERE WHAT IT READS IS OF BULK AT MOST 1048576: true; the input reads as it did. -/
def fieldLaddersUptoRow : OpenClaim := { program := "ytagnplbfdaifkaa", sum := "cd2cb475d713933426812fc989439b98878a489e2a8506f631b97a77a918aeea", func := "martensite/martensitelaw02.FieldLadders", spec := "fieldLadders", unfollowed := true, recurses := true, apart := false, narrowed := true }
def FieldLaddersUptoSaid : Prop := fieldLaddersUptoRow.holds Try.pinned (OpenSpec.upto fieldLaddersSpec)

/-- 'martensitelaw02.FieldReciprocal', WHERE WHAT IT READS IS OF BULK AT MOST 1048576: true; the input reads as it did. -/
def fieldReciprocalUptoRow : OpenClaim := { program := "ytagnplbfdaifkaa", sum := "cd2cb475d713933426812fc989439b98878a489e2a8506f631b97a77a918aeea", func := "martensite/martensitelaw02.FieldReciprocal", spec := "fieldReciprocal", unfollowed := true, recurses := true, apart := false, narrowed := true }
def FieldReciprocalUptoSaid : Prop := fieldReciprocalUptoRow.holds Try.pinned (OpenSpec.upto fieldReciprocalSpec)

/-- 'martensitelaw02.FieldDeeper', WHERE WHAT IT READS IS OF BULK AT MOST 1048576: true; the input reads as it did. -/
def fieldDeeperUptoRow : OpenClaim := { program := "ytagnplbfdaifkaa", sum := "cd2cb475d713933426812fc989439b98878a489e2a8506f631b97a77a918aeea", func := "martensite/martensitelaw02.FieldDeeper", spec := "fieldDeeper", unfollowed := true, recurses := true, apart := false, narrowed := true }
def FieldDeeperUptoSaid : Prop := fieldDeeperUptoRow.holds Try.pinned (OpenSpec.upto fieldDeeperSpec)

/-- 'martensitelaw02.FieldWhole', WHERE WHAT IT READS IS OF BULK AT MOST 1048576: true; the input reads as it did. -/
def fieldWholeUptoRow : OpenClaim := { program := "ytagnplbfdaifkaa", sum := "cd2cb475d713933426812fc989439b98878a489e2a8506f631b97a77a918aeea", func := "martensite/martensitelaw02.FieldWhole", spec := "fieldWhole", unfollowed := true, recurses := true, apart := false, narrowed := true }
def FieldWholeUptoSaid : Prop := fieldWholeUptoRow.holds Try.pinned (OpenSpec.upto fieldWholeSpec)

/-- 'martensitelaw02.FieldHots', WHERE WHAT IT READS IS OF BULK AT MOST 1048576: true; the input reads as it did. -/
def fieldHotsUptoRow : OpenClaim := { program := "ytagnplbfdaifkaa", sum := "cd2cb475d713933426812fc989439b98878a489e2a8506f631b97a77a918aeea", func := "martensite/martensitelaw02.FieldHots", spec := "fieldHots", unfollowed := true, recurses := true, apart := false, narrowed := true }
def FieldHotsUptoSaid : Prop := fieldHotsUptoRow.holds Try.pinned (OpenSpec.upto fieldHotsSpec)

/-- 'martensitelaw02.FieldPowers', WHERE WHAT IT READS IS OF BULK AT MOST 1048576: true; the input reads as it did. -/
def fieldPowersUptoRow : OpenClaim := { program := "ytagnplbfdaifkaa", sum := "cd2cb475d713933426812fc989439b98878a489e2a8506f631b97a77a918aeea", func := "martensite/martensitelaw02.FieldPowers", spec := "fieldPowers", unfollowed := true, recurses := true, apart := false, narrowed := true }
def FieldPowersUptoSaid : Prop := fieldPowersUptoRow.holds Try.pinned (OpenSpec.upto fieldPowersSpec)

/-- 'martensitelaw02.FieldSolved', WHERE WHAT IT READS IS OF BULK AT MOST 1048576: true; the input reads as it did. -/
def fieldSolvedUptoRow : OpenClaim := { program := "ytagnplbfdaifkaa", sum := "cd2cb475d713933426812fc989439b98878a489e2a8506f631b97a77a918aeea", func := "martensite/martensitelaw02.FieldSolved", spec := "fieldSolved", unfollowed := true, recurses := true, apart := false, narrowed := true }
def FieldSolvedUptoSaid : Prop := fieldSolvedUptoRow.holds Try.pinned (OpenSpec.upto fieldSolvedSpec)

/-- 'martensitelaw02.FieldClasses', WHERE WHAT IT READS IS OF BULK AT MOST 1048576: true; the input reads as it did. -/
def fieldClassesUptoRow : OpenClaim := { program := "ytagnplbfdaifkaa", sum := "cd2cb475d713933426812fc989439b98878a489e2a8506f631b97a77a918aeea", func := "martensite/martensitelaw02.FieldClasses", spec := "fieldClasses", unfollowed := true, recurses := true, apart := false, narrowed := true }
def FieldClassesUptoSaid : Prop := fieldClassesUptoRow.holds Try.pinned (OpenSpec.upto fieldClassesSpec)

/-- 'martensitelaw02.FieldEvery', WHERE WHAT IT READS IS OF BULK AT MOST 1048576: true; the input reads as it did. -/
def fieldEveryUptoRow : OpenClaim := { program := "ytagnplbfdaifkaa", sum := "cd2cb475d713933426812fc989439b98878a489e2a8506f631b97a77a918aeea", func := "martensite/martensitelaw02.FieldEvery", spec := "fieldEvery", unfollowed := true, recurses := true, apart := false, narrowed := true }
def FieldEveryUptoSaid : Prop := fieldEveryUptoRow.holds Try.pinned (OpenSpec.upto fieldEverySpec)

/-- 'martensitelaw02.FieldKept', WHERE WHAT IT READS IS OF BULK AT MOST 1048576: true; the input reads as it did. -/
def fieldKeptUptoRow : OpenClaim := { program := "ytagnplbfdaifkaa", sum := "cd2cb475d713933426812fc989439b98878a489e2a8506f631b97a77a918aeea", func := "martensite/martensitelaw02.FieldKept", spec := "fieldKept", unfollowed := true, recurses := true, apart := false, narrowed := true }
def FieldKeptUptoSaid : Prop := fieldKeptUptoRow.holds Try.pinned (OpenSpec.upto fieldKeptSpec)

/-- 'martensitelaw02.FieldFrequencies', WHERE WHAT IT READS IS OF BULK AT MOST 1048576: true; the input reads as it did. -/
def fieldFrequenciesUptoRow : OpenClaim := { program := "ytagnplbfdaifkaa", sum := "cd2cb475d713933426812fc989439b98878a489e2a8506f631b97a77a918aeea", func := "martensite/martensitelaw02.FieldFrequencies", spec := "fieldFrequencies", unfollowed := true, recurses := true, apart := false, narrowed := true }
def FieldFrequenciesUptoSaid : Prop := fieldFrequenciesUptoRow.holds Try.pinned (OpenSpec.upto fieldFrequenciesSpec)

end Rows
end Go.Proofs.Ytagnplbfdaifkaa

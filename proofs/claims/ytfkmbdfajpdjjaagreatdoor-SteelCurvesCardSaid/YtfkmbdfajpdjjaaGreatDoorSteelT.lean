/- Steel: hardness, Stepped and HardnessOf of the code for valid arguments (plain). -/
import Derived.Test.YtfkmbdfajpdjjaaGreatDoorF03
import Derived.Test.YtfkmbdfajpdjjaaGreatDoorF06
import Derived.Test.YtfkmbdfajpdjjaaGreatDoorSteelQ
set_option linter.unusedVariables false
set_option linter.unusedSimpArgs false
namespace Go.Proofs.YtfkmbdfajpdjjaaGreatDoor
open Go.Abs

section
variable {H : List (Int × Int × Int × Int)} {C : List (Int × Int × Int × Int × Int)} {Q : List (Int × Int × Int)} {T : List (Int × Int)} {a b c d : Int}
/-- hardness -/
def mHard (c d t : Int) : Int := if c < d - t then d - t else c
theorem mul_b {x y X Y : Int} (h1 : 0 ≤ x) (h2 : x ≤ X) (h3 : 0 ≤ y) (h4 : y ≤ Y) : 0 ≤ x * y ∧ x * y ≤ X * Y :=
  ⟨Int.mul_nonneg h1 h3, Int.le_trans (Int.mul_le_mul_of_nonneg_left h4 h1) (Int.mul_le_mul_of_nonneg_right h2 (by omega))⟩
theorem mHard_b (ok : RulOk H C Q T a b c d) {t : Int} (ht : 0 ≤ t) : c ≤ mHard c d t ∧ mHard c d t ≤ d := by
  have := ok.hcd
  unfold mHard; split <;> omega
theorem p84 (k : Int) : r99 k = some (codeIf (inR k 1 3000) 2) := by
  unfold r99; rw [p109, Option.bind_some, p68]; rfl
end
end Go.Proofs.YtfkmbdfajpdjjaaGreatDoor

/- FieldLadders as a plain law. -/
import Derived.Test.YtagnplbfdaifkaaFieldB
import Derived.Test.YtagnplbfdaifkaaF09
set_option linter.unusedVariables false
set_option linter.unusedSimpArgs false
namespace Go.Proofs.Ytagnplbfdaifkaa
open Go.Abs
theorem ladders (T : Int) (L : List (Int × Int × Int)) (f : Int) (H : List Bool) : r4 T L f H = some true := by
  unfold r4
  rw [awake, Option.bind_some, if_neg (by simp), p16, Option.bind_some, p17, gS, Option.getD_some]
  by_cases hf : ((!decide ((L.length : Int) ≤ 6)) || (!decide ((H.length : Int) ≤ 6))) = true
  · rw [if_pos hf]
  · rw [if_neg hf]
    simp only [Bool.or_eq_true, Bool.not_eq_true', decide_eq_false_iff_not, not_or, Decidable.not_not] at hf
    obtain ⟨i, e⟩ := lad_eq T L
    rw [p19 T L (by omega), Option.bind_some, p26, e, Option.bind_some, p20 f H (by omega), Option.bind_some, p27, Option.bind_some]
    unfold r28
    rw [p83, Option.bind_some, Option.bind_some, p29, e, Option.bind_some, if_neg (by simp), p22, Option.bind_some]
    by_cases h : bothE T L f H = 0
    · simp only [h, if_true, bne_self_eq_false, Bool.false_eq_true, if_false, beq_self_eq_true, Bool.and_self]
      rw [p31 (ok_of h)]
      simp only [Option.isSome_some, Option.getD_some, implies_true, if_true]
      rw [p30 _ _ (by rw [reactV_len f L H (ok_of h).hot]; omega) rfl]
      rfl
    · rw [if_pos (by simpa using h)]
      simp [h]
end Go.Proofs.Ytagnplbfdaifkaa

/- FieldSolved as a plain law. -/
import Derived.Test.YtagnplbfdaifkaaFieldV
import Derived.Test.YtagnplbfdaifkaaF20
set_option linter.unusedVariables false
set_option linter.unusedSimpArgs false
namespace Go.Proofs.Ytagnplbfdaifkaa
open Go.Abs

theorem solved (T : Int) (L : List (Int × Int × Int)) (f : Int) (H : List Bool) (l : List (Int × Int)) : r10 T L f H l = some true := by
  unfold r10
  rw [awake, Option.bind_some, if_neg (by simp), p16, Option.bind_some, p17, gS, Option.getD_some]
  by_cases hf : ((!decide ((L.length : Int) ≤ 6)) || (!decide ((H.length : Int) ≤ 6)) || decide ((l.length : Int) > 8)) = true
  · rw [if_pos hf]
  · rw [if_neg hf]
    simp only [Bool.or_eq_true, Bool.not_eq_true', decide_eq_false_iff_not, decide_eq_true_eq, not_or, Decidable.not_not] at hf
    rw [p19 T L (by omega), Option.bind_some, p20 f H (by omega), Option.bind_some, p32, Option.bind_some, p53, Option.bind_some, p55 l (by omega), Option.bind_some, p54 _ _ _ _ _ (by omega), Option.bind_some, p22, Option.bind_some]
    by_cases h : bothE T L f H = 0
    · rw [if_neg (by simp [h])]
      simp only [if_pos h]
      have ok := ok_of h
      have hcl := condsV_len L
      obtain ⟨l1, l2⟩ := solV_len (condsV L) (reactV f L H) ok.ladr.len
      rw [p56 ok, Option.bind_some, p57 ok l (by omega), Option.bind_some, p58 _ _ (by omega), gS]
      simp only [Option.getD_some]
      rw [p58 _ _ (by omega), gS]
      simp
    · rw [if_pos (by simpa using h)]
      simp only [if_neg h]
      simp
      rfl
end Go.Proofs.Ytagnplbfdaifkaa

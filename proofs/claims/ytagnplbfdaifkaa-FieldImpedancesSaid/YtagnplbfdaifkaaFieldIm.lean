/- FieldImpedances as a plain law. -/
import Derived.Test.YtagnplbfdaifkaaFieldT
import Derived.Test.YtagnplbfdaifkaaF07
set_option linter.unusedVariables false
set_option linter.unusedSimpArgs false
namespace Go.Proofs.Ytagnplbfdaifkaa
open Go.Abs

theorem p21e {T : Int} {L : List (Int × Int × Int)} {f : Int} {H : List Bool} (hb : bothE T L f H ≠ 0) (hl : L.length ≤ 1000000) (a b : Int) : r21 T L f H a b = some (0, 0, 0, 0, bothE T L f H) := by
  unfold r21
  rw [p83, Option.bind_some, p88 T L a hl, Option.bind_some, p88 T L b hl, Option.bind_some, p87 _ (by simp), Option.bind_some]
  simp only [if_neg hb, firstV]
  rw [if_pos (by simpa using hb)]
theorem p21m {T : Int} {L : List (Int × Int × Int)} {f : Int} {H : List Bool} (hb : bothE T L f H = 0) (hl : L.length ≤ 1000000) (a b : Int) (h : ¬ (inR a 0 ((L.length : Int) - 1) = true ∧ inR b 0 ((L.length : Int) - 1) = true)) : r21 T L f H a b = some (0, 0, 0, 0, 6) := by
  unfold r21
  rw [p83, Option.bind_some, p88 T L a hl, Option.bind_some, p88 T L b hl, Option.bind_some, p87 _ (by simp), Option.bind_some]
  simp only [if_pos hb]
  have e : firstV [0, codeIf (inR a 0 ((L.length : Int) - 1)) 6, codeIf (inR b 0 ((L.length : Int) - 1)) 6] = 6 := by
    cases ha : inR a 0 ((L.length : Int) - 1) <;> cases hbb : inR b 0 ((L.length : Int) - 1) <;> simp_all [codeIf, firstV]
  rw [e, if_pos (by simp)]
theorem impedances (T : Int) (L : List (Int × Int × Int)) (f : Int) (H : List Bool) (a b : Int) : r3 T L f H a b = some true := by
  unfold r3
  rw [awake, Option.bind_some, if_neg (by simp), p16, Option.bind_some, p17, gS, Option.getD_some]
  by_cases hf : ((!decide ((L.length : Int) ≤ 6)) || (!decide ((H.length : Int) ≤ 6))) = true
  · rw [if_pos hf]
  · rw [if_neg hf]
    simp only [Bool.or_eq_true, Bool.not_eq_true', decide_eq_false_iff_not, not_or, Decidable.not_not] at hf
    rw [p19 T L (by omega), Option.bind_some, p20 f H (by omega), Option.bind_some, p18, Option.bind_some]
    by_cases hb : bothE T L f H = 0
    · have ok := ok_of hb
      simp only [if_pos hb]
      by_cases hab : inR a 0 ((L.length : Int) - 1) = true ∧ inR b 0 ((L.length : Int) - 1) = true
      · obtain ⟨ha, hbb⟩ := hab
        have ia := inR_iff.1 ha
        have ib := inR_iff.1 hbb
        obtain ⟨m, rfl⟩ : ∃ m : Nat, a = m := ⟨a.toNat, by omega⟩
        obtain ⟨n, rfl⟩ : ∃ n : Nat, b = n := ⟨b.toNat, by omega⟩
        have hm : m < L.length := by omega
        have hn : n < L.length := by omega
        rw [p21 hb hm hn, Option.bind_some, p22, hb, Option.bind_some, if_neg (by simp), p23 ok, gS]
        simp only [Option.getD_some]
        rw [if_neg (by simp), p24 T L m (by omega), Option.bind_some, p24 T L n (by omega), gS]
        simp only [Option.getD_some, ha, hbb, codeIf, if_true]
        rw [if_neg (by simp), p25 ok hm hn, gS]
        simp
      · rw [p21m hb (by omega) a b hab, Option.bind_some, p22, hb, Option.bind_some, if_neg (by simp), p23 ok, gS]
        simp only [Option.getD_some]
        rw [if_neg (by simp), p24 T L a (by omega), Option.bind_some, p24 T L b (by omega), gS]
        simp only [Option.getD_some]
        have e : (codeIf (inR a 0 ((L.length : Int) - 1)) 6 != 0 || codeIf (inR b 0 ((L.length : Int) - 1)) 6 != 0) = true := by
          cases ha : inR a 0 ((L.length : Int) - 1) <;> cases hbb : inR b 0 ((L.length : Int) - 1) <;> simp_all [codeIf]
        rw [if_pos e]
        simp
    · rw [p21e hb (by omega), Option.bind_some, p22, Option.bind_some, if_pos (by simpa using hb)]
      simp [hb]
end Go.Proofs.Ytagnplbfdaifkaa

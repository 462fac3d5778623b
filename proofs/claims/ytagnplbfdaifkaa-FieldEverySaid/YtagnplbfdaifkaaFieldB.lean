/- Field: reactances; FieldLadders as a plain law. -/
import Derived.Test.YtagnplbfdaifkaaFieldA
set_option linter.unusedVariables false
set_option linter.unusedSimpArgs false
namespace Go.Proofs.Ytagnplbfdaifkaa
open Go.Abs

theorem take_getD {α : Type} [Inhabited α] {l : List α} {i : Nat} (h : i < l.length) : l.take (i + 1) = l.take i ++ [l.getD i default] := by
  rw [List.take_add_one, List.getElem?_eq_getElem h, List.getD_eq_getElem?_getD, List.getElem?_eq_getElem h]; rfl
theorem reactV_get (f : Int) : ∀ (L : List (Int × Int × Int)) (H : List Bool), H.length = L.length → ∀ i, i < L.length →
    (reactV f L H).getD i default = f * (if H.getD i default = true then (L.getD i default).2.2 else (L.getD i default).2.1)
  | [], _, _, i, hi => by simp at hi
  | s :: L, [], h, i, hi => by simp at h
  | s :: L, b :: H, h, i, hi => by
    cases i with
    | zero => rfl
    | succ i =>
      have := reactV_get f L H (by simpa using h) i (by simpa using hi)
      simpa only [reactV, List.getD_cons_succ] using this
theorem condsV_get (L : List (Int × Int × Int)) (i : Nat) (hi : i < L.length) : (condsV L).getD i default = (L.getD i default).1 := by
  simp [condsV, List.getD_eq_getElem?_getD, hi]
theorem condsV_len (L : List (Int × Int × Int)) : (condsV L).length = L.length := by simp [condsV]
variable {T : Int} {L : List (Int × Int × Int)} {f : Int} {H : List Bool}
theorem Ok.rng (ok : Ok T L f H) {i : Nat} (hi : i < L.length) : 1 ≤ f * (L.getD i default).2.2 ∧ f * (L.getD i default).2.2 ≤ 32 ∧ 1 ≤ f * (L.getD i default).2.1 ∧ f * (L.getD i default).2.1 ≤ 32 := by
  obtain ⟨h1, h2, h3, h4⟩ := ok.lad.shell _ (getD_mem hi)
  obtain ⟨f1, f2⟩ := ok.freq
  refine ⟨?_, ?_, ?_, ?_⟩
  · have := Int.mul_le_mul f1 h3 (by omega) (by omega); omega
  · have := Int.mul_le_mul f2 (show (L.getD i default).2.2 ≤ 4 by omega) (by omega) (by omega); omega
  · have := Int.mul_le_mul f1 h2.1 (by omega) (by omega); omega
  · have := Int.mul_le_mul f2 h2.2 (by omega) (by omega); omega
theorem reactV_rng (ok : Ok T L f H) : ∀ x ∈ reactV f L H, 1 ≤ x ∧ x ≤ 32 := by
  intro x hx
  obtain ⟨i, hi, rfl⟩ := List.getElem_of_mem hx
  rw [reactV_len f L H ok.hot] at hi
  have e := reactV_get f L H ok.hot i hi
  rw [List.getD_eq_getElem?_getD, List.getElem?_eq_getElem (by rw [reactV_len f L H ok.hot]; exact hi), Option.getD_some] at e
  rw [e]
  have := ok.rng hi
  split
  · exact ⟨this.1, this.2.1⟩
  · exact ⟨this.2.2.1, this.2.2.2⟩
theorem condsV_rng (ok : Ok T L f H) : ∀ x ∈ condsV L, 1 ≤ x ∧ x ≤ 4 := by
  intro x hx
  obtain ⟨s, hs, rfl⟩ := List.mem_map.1 hx
  exact (ok.lad.shell s hs).1
theorem p119 (ok : Ok T L f H) : r119 T L f H = some (condsV L, reactV f L H) := by
  have hle := ok.lad.le
  have hrl := reactV_len f L H ok.hot
  unfold r119
  refine iter_run L.length (b119_1 L f H) (fun i => ((i : Int), (condsV L).take i, (reactV f L H).take i)) _ (by omega) (fun i hi => ?_) ?_
  · have hH : i < H.length := by rw [ok.hot]; exact hi
    obtain ⟨g1, g2, g3, g4⟩ := ok.rng hi
    simp only [b119_1, ltN hi, if_true, if_pos (rgN hi), if_pos (rgN hH), Int.toNat_natCast, wS i (by omega), List.length_take]
    rw [take_getD (show i < (condsV L).length by rw [condsV_len]; exact hi), take_getD (show i < (reactV f L H).length by rw [hrl]; exact hi), condsV_get L i hi, reactV_get f L H ok.hot i hi]
    by_cases hb : H.getD i default = true
    · rw [if_pos hb, if_pos hb, if_pos ⟨by omega, by omega⟩, if_pos ⟨by omega, by omega⟩, wI (by omega) (by omega)]; rfl
    · rw [if_neg hb, if_neg hb, if_pos ⟨by omega, by omega⟩, if_pos ⟨by omega, by omega⟩, wI (by omega) (by omega)]; rfl
  · simp only [b119_1]
    rw [if_neg (by simp)]
    rw [← condsV_len L, List.take_length, condsV_len, ← hrl, List.take_length]
theorem p31 (ok : Ok T L f H) : r31 T L f H = some (reactV f L H) := by
  have hle := ok.lad.le
  have hrl := reactV_len f L H ok.hot
  unfold r31
  refine iter_run L.length (b31_1 L f H) (fun i => ((reactV f L H).take i, (i : Int))) _ (by omega) (fun i hi => ?_) ?_
  · have hH : i < H.length := by rw [ok.hot]; exact hi
    obtain ⟨g1, g2, g3, g4⟩ := ok.rng hi
    simp only [b31_1, ltN hi, if_true, if_pos (rgN hi), if_pos (rgN hH), Int.toNat_natCast, wS i (by omega), List.length_take]
    rw [take_getD (show i < (reactV f L H).length by rw [hrl]; exact hi), reactV_get f L H ok.hot i hi]
    by_cases hb : H.getD i default = true
    · rw [if_pos hb, if_pos hb, if_pos ⟨by omega, by omega⟩, wI (by omega) (by omega)]; rfl
    · rw [if_neg hb, if_neg hb, if_pos ⟨by omega, by omega⟩, wI (by omega) (by omega)]; rfl
  · simp only [b31_1]
    rw [if_neg (by simp)]
    rw [← hrl, List.take_length]
theorem p83 (T : Int) (L : List (Int × Int × Int)) (f : Int) (H : List Bool) : r83 T L f H = some (if bothE T L f H = 0 then (condsV L, reactV f L H, 0) else ([], [], bothE T L f H)) := by
  unfold r83
  rw [p27, Option.bind_some]
  by_cases h : bothE T L f H = 0
  · rw [if_neg (by simp [h]), p119 (ok_of h), if_pos h]; rfl
  · rw [if_pos (by simpa using h), if_neg h]
theorem p30 (l m : List Int) (hl : l.length < 1000000000) (h : l = m) : r30 l m = some true := by
  subst h
  unfold r30
  rw [if_neg (by simp)]
  refine iter_run l.length (b30_1 l l) (fun i => (i : Int)) _ hl (fun i hi => ?_) (by simp [b30_1])
  simp only [b30_1, ltN hi, if_true, if_pos (rgN hi), Int.toNat_natCast, wS i (by omega), bne_self_eq_false, Bool.false_eq_true, if_false]
  rfl
end Go.Proofs.Ytagnplbfdaifkaa

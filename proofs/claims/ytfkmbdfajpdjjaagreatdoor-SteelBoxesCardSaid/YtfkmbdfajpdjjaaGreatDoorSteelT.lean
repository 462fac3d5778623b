/- Steel: hardness, Stepped and HardnessOf of the code for valid arguments (plain). -/
import Derived.Test.YtfkmbdfajpdjjaaGreatDoorF03
import Derived.Test.YtfkmbdfajpdjjaaGreatDoorF06
import Derived.Test.YtfkmbdfajpdjjaaGreatDoorSteelQ
set_option linter.unusedVariables false
set_option linter.unusedSimpArgs false
namespace Go.Proofs.YtfkmbdfajpdjjaaGreatDoor
open Go.Abs

theorem lastP_none {α : Type} {p : α → Bool} : ∀ {l : List α}, lastP p l = none → ∀ x ∈ l, p x = false
  | [], _, x, hx => by cases hx
  | y :: l, h, x, hx => by
    simp only [lastP] at h
    cases hl : lastP p l with
    | some z => rw [hl] at h; cases h
    | none =>
      rw [hl] at h
      by_cases hy : p y = true
      · simp [hy] at h
      · rcases List.mem_cons.1 hx with rfl | hx
        · simpa using hy
        · exact lastP_none hl x hx
section
variable {H : List (Int × Int × Int × Int)} {C : List (Int × Int × Int × Int × Int)} {Q : List (Int × Int × Int)} {T : List (Int × Int)} {a b c d : Int}
theorem asc_first {dir : Int} {L : List Kn} (h : ∀ i, i < L.length → errE dir L i = 0) : ∀ i, i < L.length → (L.getD 0 default).1 ≤ (L.getD i default).1 := by
  intro i
  induction i with
  | zero => intro _; exact Int.le_refl _
  | succ i ih =>
    intro hi
    have h1 := ih (by omega)
    have h2 := h (i + 1) hi
    unfold errE knE at h2
    have h3 := errE_kn (h (i + 1) hi)
    rw [if_pos h3, if_neg (Nat.succ_ne_zero i)] at h2
    simp only [Nat.add_sub_cancel] at h2
    split at h2
    · rename_i h4
      unfold ascB at h4
      have := (Bool.and_eq_true _ _ ▸ h4 : _ ∧ _).1
      simp only [decide_eq_true_eq] at this
      omega
    · exact absurd h2 (by decide)
theorem hot_iff (ok : RulOk H C Q T a b c d) (k : Int) : heatAt H k ≠ none ↔ (0 < H.length ∧ (H.getD 0 default).1 ≤ k) := by
  constructor
  · intro h
    cases hx : heatAt H k with
    | none => exact absurd hx h
    | some x =>
      obtain ⟨m1, m2⟩ := lastP_mem hx
      obtain ⟨i, hi, rfl⟩ := List.mem_iff_getElem.1 m1
      have g1 := asc_first (L := H.map kH) (dir := 1) (fun j hj => ok.eH j (by simpa using hj)) i (by simpa using hi)
      rw [map_getD H kH hi, map_getD H kH (show 0 < H.length by omega)] at g1
      have e : H.getD i default = H[i] := by rw [List.getD_eq_getElem?_getD, List.getElem?_eq_getElem hi]; rfl
      rw [e] at g1
      simp only [decide_eq_true_eq] at m2
      have g2 : (H.getD 0 default).1 ≤ (H[i]).1 := g1
      exact ⟨by omega, by omega⟩
  · rintro ⟨h1, h2⟩ h
    have := lastP_none h (H.getD 0 default) (getD_mem h1)
    simp at this
    simp only [List.getD_eq_getElem?_getD] at h2
    omega
/-- hardness -/
def mHard (c d t : Int) : Int := if c < d - t then d - t else c
def hdV (a b c d p s e m t : Int) : Int := (p * a + s * b + e * c + m * mHard c d t).tdiv 1000000
theorem mul_b {x y X Y : Int} (h1 : 0 ≤ x) (h2 : x ≤ X) (h3 : 0 ≤ y) (h4 : y ≤ Y) : 0 ≤ x * y ∧ x * y ≤ X * Y :=
  ⟨Int.mul_nonneg h1 h3, Int.le_trans (Int.mul_le_mul_of_nonneg_left h4 h1) (Int.mul_le_mul_of_nonneg_right h2 (by omega))⟩
theorem mHard_b (ok : RulOk H C Q T a b c d) {t : Int} (ht : 0 ≤ t) : c ≤ mHard c d t ∧ mHard c d t ≤ d := by
  have := ok.hcd
  unfold mHard; split <;> omega
theorem p31 (ok : RulOk H C Q T a b c d) {v : Int × Int} (hv : rulV H C Q T a b c d = some v) (h0 : v.2 = 0) {p s e m w g t : Int} (st : StOk p s e m w g t) :
    r43 H C Q T a b c d p s e m w g t = some (hdV a b c d p s e m t, 0) := by
  have l1 := ok.lH; have l2 := ok.lC; have l3 := ok.lQ; have l4 := ok.lT
  have q1 := ok.ha; have q2 := ok.hab; have q3 := ok.hbc; have q4 := ok.hcd; have q5 := ok.hd
  obtain ⟨sp, sa, sb, sm, sw, sg, stt, ssum⟩ := st
  unfold r43
  rw [p73 ⟨by omega, by omega, by omega, by omega⟩ hv, Option.bind_some, p17, Option.bind_some, staE_of ⟨sp, sa, sb, sm, sw, sg, stt, ssum⟩, h0, p67 _ (by simp), Option.bind_some]
  refine (if_neg (by decide)).trans ?_
  have hM := mHard_b ok stt.1
  have m1 := mul_b sp.1 sp.2 q1 (show a ≤ 2000 by omega)
  have m2 := mul_b sa.1 sa.2 (show 0 ≤ b by omega) (show b ≤ 2000 by omega)
  have m3 := mul_b sb.1 sb.2 (show 0 ≤ c by omega) (show c ≤ 2000 by omega)
  have m4 := mul_b sm.1 sm.2 (show 0 ≤ mHard c d t by omega) (show mHard c d t ≤ 2000 by omega)
  have wM : (if c < IntKind.i64.wrap (d - t) then IntKind.i64.wrap (d - t) else c) = mHard c d t := by rw [wI (by omega) (by omega)]; rfl
  have e0 : b43_1 H C Q T a b c d p s e m t (0, 0) = .next (p * a, 1) := by
    show Ctl.next (IntKind.i64.wrap (0 + IntKind.i64.wrap (p * a)), IntKind.i64.wrap (0 + 1)) = _
    rw [wI (a := p * a) (by omega) (by omega), wI (a := 0 + p * a) (by omega) (by omega), show IntKind.i64.wrap (0 + 1) = 1 by decide, Int.zero_add]
  have e1 : b43_1 H C Q T a b c d p s e m t (p * a, 1) = .next (p * a + s * b, 2) := by
    show Ctl.next (IntKind.i64.wrap (p * a + IntKind.i64.wrap (s * b)), IntKind.i64.wrap (1 + 1)) = _
    rw [wI (a := s * b) (by omega) (by omega), wI (a := p * a + s * b) (by omega) (by omega), show IntKind.i64.wrap (1 + 1) = 2 by decide]
  have e2 : b43_1 H C Q T a b c d p s e m t (p * a + s * b, 2) = .next (p * a + s * b + e * c, 3) := by
    show Ctl.next (IntKind.i64.wrap (p * a + s * b + IntKind.i64.wrap (e * c)), IntKind.i64.wrap (2 + 1)) = _
    rw [wI (a := e * c) (by omega) (by omega), wI (a := p * a + s * b + e * c) (by omega) (by omega), show IntKind.i64.wrap (2 + 1) = 3 by decide]
  have e3 : b43_1 H C Q T a b c d p s e m t (p * a + s * b + e * c, 3) = .next (p * a + s * b + e * c + m * mHard c d t, 4) := by
    show Ctl.next (IntKind.i64.wrap (p * a + s * b + e * c + IntKind.i64.wrap (m * (if c < IntKind.i64.wrap (d - t) then IntKind.i64.wrap (d - t) else c))), IntKind.i64.wrap (3 + 1)) = _
    rw [wM, wI (a := m * mHard c d t) (by omega) (by omega), wI (a := p * a + s * b + e * c + m * mHard c d t) (by omega) (by omega), show IntKind.i64.wrap (3 + 1) = 4 by decide]
  have e4 : b43_1 H C Q T a b c d p s e m t (p * a + s * b + e * c + m * mHard c d t, 4) = .out (some (hdV a b c d p s e m t, 0)) := by
    show Ctl.out (some (IntKind.i64.wrap ((p * a + s * b + e * c + m * mHard c d t).tdiv 1000000), 0)) = _
    unfold hdV
    have : 0 ≤ (p * a + s * b + e * c + m * mHard c d t).tdiv 1000000 ∧ (p * a + s * b + e * c + m * mHard c d t).tdiv 1000000 ≤ 10000000000 := by
      rw [Int.tdiv_eq_ediv_of_nonneg (by omega)]; omega
    rw [wI (by omega) (by omega)]
  have key : ∀ n : Nat, iterC (b43_1 H C Q T a b c d p s e m t) (n + 5) (0, 0) = some (hdV a b c d p s e m t, 0) := fun n => by
    simp only [iterC, e0, e1, e2, e3, e4]
  exact key 999999995
theorem hd_bounds (ok : RulOk H C Q T a b c d) {p s e m w g t : Int} (st : StOk p s e m w g t) : a ≤ hdV a b c d p s e m t ∧ hdV a b c d p s e m t ≤ d := by
  have q1 := ok.ha; have q2 := ok.hab; have q3 := ok.hbc; have q4 := ok.hcd; have q5 := ok.hd
  obtain ⟨sp, sa, sb, sm, sw, sg, stt, ssum⟩ := st
  have hM := mHard_b ok stt.1
  have lo : 1000000 * a ≤ p * a + s * b + e * c + m * mHard c d t := by
    have h1 := Int.mul_le_mul_of_nonneg_left (show a ≤ b by omega) sa.1
    have h2 := Int.mul_le_mul_of_nonneg_left (show a ≤ c by omega) sb.1
    have h3 := Int.mul_le_mul_of_nonneg_left (show a ≤ mHard c d t by omega) sm.1
    have h4 : 1000000 * a = p * a + s * a + e * a + m * a := by rw [← ssum, Int.add_mul, Int.add_mul, Int.add_mul]
    omega
  have hi : p * a + s * b + e * c + m * mHard c d t ≤ 1000000 * d := by
    have h0 := Int.mul_le_mul_of_nonneg_left (show a ≤ d by omega) sp.1
    have h1 := Int.mul_le_mul_of_nonneg_left (show b ≤ d by omega) sa.1
    have h2 := Int.mul_le_mul_of_nonneg_left (show c ≤ d by omega) sb.1
    have h3 := Int.mul_le_mul_of_nonneg_left (show mHard c d t ≤ d by omega) sm.1
    have h4 : 1000000 * d = p * d + s * d + e * d + m * d := by rw [← ssum, Int.add_mul, Int.add_mul, Int.add_mul]
    omega
  unfold hdV
  have : 0 ≤ 1000000 * a := by omega
  rw [Int.tdiv_eq_ediv_of_nonneg (by omega)]
  omega
theorem p84 (k : Int) : r99 k = some (codeIf (inR k 1 3000) 2) := by
  unfold r99; rw [p109, Option.bind_some, p68]; rfl
end
end Go.Proofs.YtfkmbdfajpdjjaaGreatDoor

/- TopInspectPartByPart: a sample drawn part by part. -/
import Derived.Test.YtfmjhllkheapeaaF05
import Derived.Test.YtfmjhllkheapeaaInsF
set_option linter.unusedVariables false
set_option linter.unusedSimpArgs false
namespace Go.Proofs.Ytfmjhllkheapeaa
open Go.Abs

/-- a sample without bad parts is rare enough -/
def Rare (L b risk s : Nat) : Prop := 1000 * acc b (L - b) s 1 ≤ risk * bin L s
instance (L b risk s : Nat) : Decidable (Rare L b risk s) := inferInstanceAs (Decidable (_ ≤ _))
theorem rare_next {L b risk s : Nat} (hb : b ≤ L) (hs : s < L) (h : Rare L b risk s) : Rare L b risk (s+1) := by
  have h1 := acc_more b (L - b) s 0 (by omega)
  rw [show b + (L - b) = L by omega] at h1
  have h2 := bin_step L s hs
  unfold Rare at *
  refine Nat.le_of_mul_le_mul_left (c := s + 1) ?_ (by omega)
  have h3 := Nat.mul_le_mul_left 1000 h1
  have h4 := Nat.mul_le_mul_left (L - s) h
  have e1 : (s+1) * (1000 * acc b (L - b) (s+1) 1) = 1000 * ((s+1) * acc b (L-b) (s+1) (0+1)) := by rw [Nat.mul_left_comm]
  have e2 : (s+1) * (risk * bin L (s+1)) = (L - s) * (risk * bin L s) := by
    have : (s+1) * (risk * bin L (s+1)) = risk * ((s+1) * bin L (s+1)) := by rw [Nat.mul_left_comm]
    rw [this, h2]; grind
  rw [e1, e2]
  refine Nat.le_trans h3 (Nat.le_trans (Nat.le_of_eq ?_) h4)
  rw [Nat.mul_left_comm]
theorem rare_up {L b risk s : Nat} (hb : b ≤ L) : ∀ k, s + k ≤ L → Rare L b risk s → Rare L b risk (s + k)
  | 0, _, h => h
  | k+1, hk, h => rare_next (s := s + k) hb (by omega) (rare_up hb k (by omega) h)
theorem rare_all {L b risk : Nat} (hb : b ≤ L) (h0 : 0 < b) : Rare L b risk L := by
  have := acc_full b (L - b) 1 (by omega)
  rw [show b + (L - b) = L by omega, if_neg (by omega)] at this
  unfold Rare
  rw [this]; omega
theorem rare_none {L risk s : Nat} (hs : s ≤ L) (hr : risk ≤ 999) : ¬ Rare L 0 risk s := by
  unfold Rare
  have : acc 0 (L - 0) s 1 = bin L s := by simp [acc, bin_zero]
  have hp := bin_pos L s hs
  rw [this]
  intro h
  have : risk * bin L s ≤ 999 * bin L s := Nat.mul_le_mul_right _ hr
  omega
theorem p37 {n : Int} (h1 : 0 ≤ n) (h2 : n ≤ 999) : r37 n = some 0 := by
  rw [r37, p42, Option.bind_some, inR_iff.mpr ⟨h1, h2⟩, p35]; rfl
theorem p19 {L b risk : Nat} (h1 : 1 ≤ L) (h3 : L ≤ 30) (h5 : b ≤ L) (hr : risk ≤ 999) :
    (∃ n : Nat, 1 ≤ n ∧ n ≤ L ∧ r19 L b risk = some ((n : Int), 0) ∧ Rare L b risk n ∧ ∀ s, 1 ≤ s → s < n → ¬ Rare L b risk s) ∨ (r19 L b risk = some (0, 12) ∧ ∀ s, 1 ≤ s → s ≤ L → ¬ Rare L b risk s) := by
  rw [r19, p36 (by omega) (by omega), Option.bind_some, p35, Option.bind_some, p26 h5, Option.bind_some, p37 (by omega) (by omega), Option.bind_some, p24 _ (by simp), Option.bind_some, show firstV [codeIf true 2, (0:Int), 0] = 0 from rfl, if_neg (by decide)]
  refine iter_meas (b19_1 L b risk) (fun s => ∃ i : Nat, s = (i : Int) ∧ 1 ≤ i ∧ i ≤ L + 1 ∧ ∀ s, 1 ≤ s → s < i → ¬ Rare L b risk s) (fun s => L + 1 - s.toNat)
    (fun o => (∃ n : Nat, 1 ≤ n ∧ n ≤ L ∧ o = some ((n : Int), 0) ∧ Rare L b risk n ∧ ∀ s, 1 ≤ s → s < n → ¬ Rare L b risk s) ∨ (o = some (0, 12) ∧ ∀ s, 1 ≤ s → s ≤ L → ¬ Rare L b risk s)) (fun s hs => ?_) 1000000000 _ ⟨1, rfl, by omega, by omega, fun s h1 h2 => by omega⟩ (by show L + 1 - (1 : Int).toNat < _; omega)
  obtain ⟨i, rfl, k1, k2, k3⟩ := hs
  unfold b19_1
  by_cases g : i ≤ L
  · have hb := bin_30 i h3
    have ha := acc_bin b (L - b) i 1
    rw [show b + (L - b) = L by omega] at ha
    have hm : risk * bin L i ≤ 999 * bin L i := Nat.mul_le_mul_right _ hr
    have e1 : (1000 : Int) * (acc b (L - b) i (0+1) : Int) = ((1000 * acc b (L-b) i 1 : Nat) : Int) := by rw [Int.natCast_mul]; rfl
    have e2 : (risk : Int) * (bin L i : Int) = ((risk * bin L i : Nat) : Int) := by rw [Int.natCast_mul]
    have e3 : b28_1 = b28_1 := rfl
    have h28 := p28 (L := L) (S := i) (A := 0) (b := b) h3 g (by omega) h5
    rw [show ((0 : Nat) : Int) = 0 from rfl] at h28
    rw [if_pos (by simpa using g), h28]
    simp only [bindC]
    rw [e1, e2, wI (by omega) (by omega), wI (by omega) (by omega)]
    by_cases r : Rare L b risk i
    · right
      refine ⟨_, if_pos ?_, .inl ⟨i, k1, g, rfl, r, k3⟩⟩
      unfold Rare at r
      exact decide_eq_true (by omega)
    · left
      refine ⟨((i + 1 : Nat) : Int), ?_, ⟨i+1, rfl, by omega, by omega, fun s s1 s2 => ?_⟩, by show L + 1 - ((i + 1 : Nat) : Int).toNat < L + 1 - (i : Int).toNat; omega⟩
      · rw [if_neg (by unfold Rare at r; simp only [decide_eq_true_eq]; omega), wI (by omega) (by omega)]; rfl
      · by_cases e : s = i
        · rw [e]; exact r
        · exact k3 s s1 (by omega)
  · right
    exact ⟨_, if_neg (by simpa using g), .inr ⟨rfl, fun s s1 s2 => k3 s s1 (by omega)⟩⟩
/-- the curve of plans -/
theorem p3_4 {L b risk n : Nat} (h1 : 1 ≤ L) (h3 : L ≤ 30) (h5 : b ≤ L) (hr : risk ≤ 999) (n1 : 1 ≤ n) (n2 : Rare L b risk n) (n3 : ∀ s, 1 ≤ s → s < n → ¬ Rare L b risk s) (z : Int) :
    iterC (b3_4 L b risk ((n : Int), z)) 1000000000 1 = some true := by
  refine iter_meas (b3_4 L b risk ((n : Int), z)) (fun s => ∃ i : Nat, s = (i : Int) ∧ 1 ≤ i ∧ i ≤ L + 1) (fun s => L + 1 - s.toNat) (fun o => o = some true) (fun s hs => ?_) 1000000000 _ ⟨1, rfl, by omega, by omega⟩ (by show L + 1 - (1 : Int).toNat < _; omega)
  obtain ⟨i, rfl, k1, k2⟩ := hs
  unfold b3_4
  simp only
  by_cases g : i ≤ L
  · left
    obtain ⟨x, y, e, l⟩ := p8 (L := L) (S := i) (A := 0) (b := b) k1 g h3 (by omega) h5
    rw [show ((0 : Nat) : Int) = 0 from rfl] at e
    have l1 := l.pos; have l2 := l.le; have l3 := l.sm; have l4 := l.eq
    have hm : risk * y ≤ 999 * y := Nat.mul_le_mul_right _ hr
    have e1 : (1000 : Int) * (x : Int) = ((1000 * x : Nat) : Int) := by rw [Int.natCast_mul]; rfl
    have e2 : (risk : Int) * (y : Int) = ((risk * y : Nat) : Int) := by rw [Int.natCast_mul]
    have hd := bin_pos L i g
    have hx : 1000 * x ≤ risk * y ↔ Rare L b risk i := by
      unfold Rare
      have a1 : 1000 * x * bin L i = (1000 * acc b (L - b) i 1) * y := by
        have : x * bin L i = acc b (L-b) i (0+1) * y := l4
        rw [Nat.mul_assoc, this, Nat.mul_assoc]
      constructor
      · intro h
        have := Nat.mul_le_mul_right (bin L i) h
        rw [a1] at this
        have e : risk * y * bin L i = risk * bin L i * y := by grind
        rw [e] at this
        exact Nat.le_of_mul_le_mul_right this l1
      · intro h
        have := Nat.mul_le_mul_right y h
        rw [← a1] at this
        have e : risk * bin L i * y = risk * y * bin L i := by grind
        rw [e] at this
        exact Nat.le_of_mul_le_mul_right this hd
    have hn : Rare L b risk i ↔ n ≤ i := by
      constructor
      · intro h
        apply Classical.byContradiction
        intro c
        exact n3 i k1 (by omega) h
      · intro h
        have := rare_up (s := n) h5 (i - n) (by omega) n2
        rwa [show n + (i - n) = i by omega] at this
    rw [if_pos (by simpa using g), e]
    simp only [bindC]
    rw [p10 l, e1, e2, wI (by omega) (by omega), wI (by omega) (by omega), wI (a := (i : Int) + 1) (by omega) (by omega)]
    have hh : (decide (((1000 * x : Nat) : Int) ≤ ((risk * y : Nat) : Int)) == decide ((i : Int) ≥ (n : Int))) = true := by
      rw [beq_iff_eq, decide_eq_decide]
      have : n ≤ i ↔ 1000 * x ≤ risk * y := by rw [hx, hn]
      omega
    rw [hh]
    refine ⟨((i + 1 : Nat) : Int), ?_, ⟨i+1, rfl, by omega, by omega⟩, by show L + 1 - ((i + 1 : Nat) : Int).toNat < L + 1 - (i : Int).toNat; omega⟩
    simp
  · right
    exact ⟨_, if_neg (by simpa using g), rfl⟩
theorem p3_3 {L A b risk : Nat} (h1 : 1 ≤ L) (h3 : L ≤ 30) (h4 : A ≤ L) (h5 : b ≤ L) (hr : risk ≤ 999) : j3_3 L A b risk () = some true := by
  obtain ⟨x, y, e, l⟩ := p8 (L := L) (S := L) (A := A) (b := b) h1 (Nat.le_refl _) h3 h4 h5
  have hf := acc_full b (L - b) (A+1) (by omega)
  rw [show b + (L - b) = L by omega] at hf
  have l1 := l.pos; have l4 := l.eq; have l5 := l.gcd
  rw [hf, bin_self, Nat.mul_one] at l4
  have fin : (r19 L b risk).bind (fun v8 => if (v8.2 != 0) = true then some ((v8.2 == 12) && ((b : Int) == 0)) else iterC (b3_4 L b risk v8) 1000000000 1) = some true := by
    rcases p19 h1 h3 h5 hr with ⟨n, n1, n2, n3, n4, n5⟩ | ⟨n1, n2⟩
    · rw [n3, Option.bind_some, if_neg (by simp)]
      exact p3_4 h1 h3 h5 hr n1 n4 n5 0
    · have hb : b = 0 := by
        apply Classical.byContradiction
        intro c
        exact n2 L h1 (Nat.le_refl _) (rare_all h5 (by omega))
      subst hb
      rw [n1]; rfl
  unfold j3_3
  rw [e, Option.bind_some]
  by_cases g : b ≤ A
  · rw [if_pos (by omega), Nat.one_mul] at l4
    subst l4
    rw [Nat.gcd_self] at l5
    subst l5
    have d : (decide ((b : Int) ≤ (A : Int))) = true := decide_eq_true (by omega)
    rw [d]
    exact fin
  · rw [if_neg (by omega), Nat.zero_mul] at l4
    subst l4
    rw [Nat.gcd_zero_left] at l5
    subst l5
    have d : (decide ((b : Int) ≤ (A : Int))) = false := decide_eq_false (by omega)
    rw [d]
    exact fin
theorem p17 {x y m e : Nat} (h1 : x ≤ 1000000000) (h2 : y ≤ 1000000000) (h3 : m ≤ 1000000000) (h4 : e ≤ 1000000000) (h : x * e ≤ m * y) : ∃ z : Int, r17 x y m e = some z ∧ z ≤ 0 := by
  have b1 : x * e ≤ 1000000000 * 1000000000 := Nat.mul_le_mul h1 h4
  have b2 : m * y ≤ 1000000000 * 1000000000 := Nat.mul_le_mul h3 h2
  unfold r17
  rw [← Int.natCast_mul, ← Int.natCast_mul, wI (by omega) (by omega), wI (by omega) (by omega)]
  by_cases g : x * e < m * y
  · exact ⟨-1, if_pos (decide_eq_true (by omega)), by decide⟩
  · refine ⟨0, (if_neg (by simp only [decide_eq_true_eq]; omega)).trans (if_neg (by simp only [decide_eq_true_eq]; omega)), by decide⟩
/-- what follows once both cases are added -/
theorem p3_2 {L S A b risk x y N D : Nat} {s : Int × List Int × Int × List Int} (h1 : 1 ≤ S) (h2 : S ≤ L) (h3 : L ≤ 30) (h4 : A ≤ S) (h5 : b ≤ L) (hr : risk ≤ 999)
    (hl : Low x y (acc b (L-b) S (A+1)) (bin L S)) (hs : RatIs s N D) (hD : 0 < D) (bN : N ≤ 10000000000000000000000000000000000000000) (bD : D ≤ 10000000000000000000000000000000000000000)
    (h : N * bin L S = acc b (L-b) S (A+1) * D) : j3_2 L S A b risk ((x : Int), (y : Int), 0) s = some true := by
  have l1 := hl.pos; have l2 := hl.le; have l3 := hl.sm; have l4 := hl.eq
  have hd := bin_pos L S h2
  unfold j3_2
  simp only
  obtain ⟨q, hq, hq2⟩ := p15 (n := x) (d := y) l1 (by omega) l3
  have eq : N * y = x * D := by
    refine Nat.eq_of_mul_eq_mul_right hd ?_
    have a1 : N * y * bin L S = (N * bin L S) * y := by grind
    have a2 : x * D * bin L S = (x * bin L S) * D := by grind
    rw [a1, a2, h, l4]; grind
  have m1 : N * y ≤ 10000000000000000000000000000000000000000 * 1000000000 := Nat.mul_le_mul bN l3
  have m2 : x * D ≤ 1000000000 * 10000000000000000000000000000000000000000 := Nat.mul_le_mul (by omega) bD
  rw [hq, Option.bind_some, p16 hD l1 hs hq2 (by omega) (by omega) ⟨by omega, by omega⟩ ⟨by omega, by omega⟩ ⟨by omega, by omega⟩ ⟨by omega, by omega⟩ eq, Option.bind_some, if_neg (by decide)]
  have fin := p3_3 (L := L) (A := A) (b := b) (risk := risk) (by omega) h3 (by omega) h5 hr
  by_cases g : S < L
  · obtain ⟨u, v, e, l⟩ := p8 (L := L) (S := S + 1) (A := A) (b := b) (by omega) (by omega) h3 (by omega) h5
    have k1 := l.pos; have k2 := l.le; have k3 := l.sm; have k4 := l.eq
    have hd2 := bin_pos L (S+1) (by omega)
    have hm := acc_more b (L - b) S A h4
    rw [show b + (L - b) = L by omega] at hm
    have hst := bin_step L S g
    have hle : u * y ≤ x * v := by
      have c : (S + 1) * (acc b (L-b) (S+1) (A+1) * bin L S) ≤ (S + 1) * (acc b (L-b) S (A+1) * bin L (S+1)) := by
        have a1 := Nat.mul_le_mul_right (bin L S) hm
        have a2 : (S + 1) * (acc b (L-b) S (A+1) * bin L (S+1)) = (L - S) * acc b (L-b) S (A+1) * bin L S := by
          have : (S + 1) * (acc b (L-b) S (A+1) * bin L (S+1)) = acc b (L-b) S (A+1) * ((S + 1) * bin L (S+1)) := by grind
          rw [this, hst]; grind
        rw [a2, ← Nat.mul_assoc]; exact a1
      have c2 := Nat.le_of_mul_le_mul_left c (by omega)
      refine Nat.le_of_mul_le_mul_right (c := bin L (S+1) * bin L S) ?_ (Nat.mul_pos hd2 hd)
      have a3 : u * y * (bin L (S+1) * bin L S) = (u * bin L (S+1)) * (y * bin L S) := by grind
      have a4 : x * v * (bin L (S+1) * bin L S) = (x * bin L S) * (v * bin L (S+1)) := by grind
      rw [a3, a4, k4, l4]
      have a5 : acc b (L-b) (S+1) (A+1) * v * (y * bin L S) = (acc b (L-b) (S+1) (A+1) * bin L S) * (v * y) := by grind
      have a6 : acc b (L-b) S (A+1) * y * (v * bin L (S+1)) = (acc b (L-b) S (A+1) * bin L (S+1)) * (v * y) := by grind
      rw [a5, a6]
      exact Nat.mul_le_mul_right _ c2
    obtain ⟨z, hz, hz2⟩ := p17 (x := u) (y := v) (m := x) (e := y) (by omega) k3 (by omega) l3 hle
    have e1 : ((S + 1 : Nat) : Int) = (S : Int) + 1 := by omega
    rw [e1] at e
    have hz3 : (decide (z > 0)) = false := decide_eq_false (by omega)
    rw [if_pos (decide_eq_true (by omega)), wI (a := (S : Int) + 1) (by omega) (by omega), e, Option.bind_some]
    simp only [p10 l, hz, Option.getD_some, hz3, Option.isSome_some]
    simpa using fin
  · rw [if_neg (by simp only [decide_eq_true_eq]; omega)]; exact fin
theorem p3_1 {L S A b risk x y N D : Nat} {s : Int × List Int × Int × List Int} (h1 : 2 ≤ S) (h2 : S ≤ L) (h3 : L ≤ 30) (h4 : A ≤ S) (h5 : b ≤ L) (hr : risk ≤ 999)
    (hl : Low x y (acc b (L-b) S (A+1)) (bin L S)) (hs : RatIs s N D) (hD : 0 < D) (bN : N ≤ 100000000000) (bD : D ≤ 100000000000)
    (h : N * (L * bin (L-1) (S-1)) = ((L - b) * acc b (L-b-1) (S-1) (min (A+1) S)) * D) : j3_1 L S A b risk ((x : Int), (y : Int), 0) s = some true := by
  have hone := acc_one b (L-b) S (by omega) (A+1) (by omega)
  rw [Nat.add_sub_cancel] at hone
  have hmem := bin_mem (L-1) (S-1)
  rw [show S - 1 + 1 = S by omega, show L - 1 + 1 = L by omega] at hmem
  have hd1 := bin_pos (L-1) (S-1) (by omega)
  unfold j3_1
  by_cases g : 0 < b ∧ 0 < A
  · obtain ⟨u, v, e, l⟩ := p8 (L := L - 1) (S := S - 1) (A := A - 1) (b := b - 1) (by omega) (by omega) (by omega) (by omega) (by omega)
    rw [show L - 1 - (b - 1) = L - b by omega, show A - 1 + 1 = A by omega] at l
    have k1 := l.pos; have k2 := l.le; have k3 := l.sm; have k4 := l.eq
    rw [show ((L - 1 : Nat) : Int) = (L : Int) - 1 by omega, show ((S - 1 : Nat) : Int) = (S : Int) - 1 by omega, show ((A - 1 : Nat) : Int) = (A : Int) - 1 by omega, show ((b - 1 : Nat) : Int) = (b : Int) - 1 by omega] at e
    have gb : ((decide ((b : Int) > 0)) && (decide ((A : Int) > 0))) = true := by simp; omega
    rw [if_pos gb, wI (a := (L : Int) - 1) (by omega) (by omega), wI (a := (S : Int) - 1) (by omega) (by omega), wI (a := (A : Int) - 1) (by omega) (by omega), wI (a := (b : Int) - 1) (by omega) (by omega), e, Option.bind_some]
    obtain ⟨q1, hq1, iq1⟩ := p14 (n := b) (d := L) (by omega) (by omega) (by omega)
    obtain ⟨q2, hq2, iq2⟩ := p15 (n := u) (d := v) k1 (by omega) k3
    have m1 : b * u ≤ 30 * 1000000000 := Nat.mul_le_mul (by omega) (by omega)
    have m2 : L * v ≤ 30 * 1000000000 := Nat.mul_le_mul (by omega) (by omega)
    obtain ⟨q3, hq3, iq3⟩ := p13 iq1 iq2 (by omega) (by omega) ⟨by omega, by omega⟩ ⟨by omega, by omega⟩ ⟨by omega, by omega⟩ ⟨by omega, by omega⟩
    have m3 : N * (L * v) ≤ 100000000000 * 30000000000 := Nat.mul_le_mul bN (by omega)
    have m4 : b * u * D ≤ 30000000000 * 100000000000 := Nat.mul_le_mul (by omega) bD
    have m5 : D * (L * v) ≤ 100000000000 * 30000000000 := Nat.mul_le_mul bD (by omega)
    obtain ⟨q4, hq4, iq4⟩ := p12 hs iq3 (by omega) (by omega) ⟨by omega, by omega⟩ ⟨by omega, by omega⟩ ⟨by omega, by omega⟩ ⟨by omega, by omega⟩
    simp only [p9 l, p10 l, hq1, hq2, hq3, hq4, Option.getD_some, Option.isSome_some, Option.bind_some]
    have fin := p3_2 (L := L) (S := S) (A := A) (b := b) (risk := risk) (by omega) h2 h3 h4 h5 hr hl iq4 (Nat.mul_pos hD (Nat.mul_pos (by omega) k1)) (by omega) (by omega) ?_
    · simpa using fin
    · refine Nat.eq_of_mul_eq_mul_left (show 0 < S by omega) ?_
      have a1 : S * ((N * (L * v) + b * u * D) * bin L S) = (N * (L * v) + b * u * D) * (S * bin L S) := by grind
      have a2 : (N * (L * v) + b * u * D) * (L * bin (L-1) (S-1)) = (N * (L * bin (L-1) (S-1))) * (L * v) + (b * D * L) * (u * bin (L-1) (S-1)) := by grind
      have a3 : S * (acc b (L-b) S (A+1) * (D * (L * v))) = (S * acc b (L-b) S (A+1)) * (D * (L * v)) := by grind
      rw [a1, hmem, a2, h, k4, a3, hone]; grind
  · have gb : ¬ ((decide ((b : Int) > 0)) && (decide ((A : Int) > 0))) = true := by simp; omega
    rw [if_neg gb]
    refine p3_2 (by omega) h2 h3 h4 h5 hr hl hs hD (by omega) (by omega) ?_
    have z : b * acc (b-1) (L-b) (S-1) A = 0 := by
      by_cases e : b = 0
      · rw [e, Nat.zero_mul]
      · rw [show A = 0 by omega]; simp [acc]
    rw [z, Nat.add_zero] at hone
    refine Nat.eq_of_mul_eq_mul_left (show 0 < S by omega) ?_
    have a1 : S * (N * bin L S) = N * (S * bin L S) := by grind
    have a3 : S * (acc b (L-b) S (A+1) * D) = (S * acc b (L-b) S (A+1)) * D := by grind
    rw [a1, hmem, h, a3, hone]; simp only [Nat.add_zero]
theorem p5 (L S A : Int) : r5 L S A = some (if inR L 1 30 && inR S 1 L && inR A 0 S then 0 else 2) := by
  unfold r5
  simp only [p23, Option.bind_some, Option.isSome_some, Option.getD_some]
  rcases Bool.eq_false_or_eq_true (inR L 1 30) with h1 | h1 <;> rcases Bool.eq_false_or_eq_true (inR S 1 L) with h2 | h2 <;> rcases Bool.eq_false_or_eq_true (inR A 0 S) with h3 | h3 <;> simp [h1, h2, h3]
theorem partByPart (L S A b risk : Int) : r3 L S A b risk = some true := by
  unfold r3
  rw [awake, Option.bind_some, if_neg (by decide), p5, Option.bind_some]
  by_cases g : (inR L 1 30 && inR S 1 L && inR A 0 S) = true
  · rw [if_pos g]
    simp only [Bool.and_eq_true, inR_iff] at g
    obtain ⟨⟨g1, g2⟩, g3⟩ := g
    have e6 : r6 b L = some (if inR b 0 L then 0 else 2) := by rw [r6, p23, Option.bind_some]; cases inR b 0 L <;> rfl
    have e7 : r7 risk = some (if inR risk 0 999 then 0 else 2) := by rw [r7, p23, Option.bind_some]; cases inR risk 0 999 <;> rfl
    rw [e6, e7]
    by_cases gb : inR b 0 L = true
    · by_cases gr : inR risk 0 999 = true
      · rw [if_pos gb, if_pos gr]
        rw [inR_iff] at gb gr
        by_cases gs : S < 2
        · simp [gs]
        · obtain ⟨l, rfl⟩ := Int.eq_ofNat_of_zero_le (show 0 ≤ L by omega)
          obtain ⟨s, rfl⟩ := Int.eq_ofNat_of_zero_le (show 0 ≤ S by omega)
          obtain ⟨a, rfl⟩ := Int.eq_ofNat_of_zero_le (show 0 ≤ A by omega)
          obtain ⟨c, rfl⟩ := Int.eq_ofNat_of_zero_le (show 0 ≤ b by omega)
          obtain ⟨t, rfl⟩ := Int.eq_ofNat_of_zero_le (show 0 ≤ risk by omega)
          obtain ⟨x, y, e, low⟩ := p8 (L := l) (S := s) (A := a) (b := c) (by omega) (by omega) (by omega) (by omega) (by omega)
          obtain ⟨q0, hq0, iq0⟩ := p11 0 (by omega)
          rw [show ((0 : Nat) : Int) = 0 from rfl] at hq0
          have ds : (decide ((s : Int) < 2)) = false := decide_eq_false gs
          rw [ds, e]
          simp only [Option.getD_some, Option.isSome_some, Option.bind_some, p9 low, p10 low, hq0]
          have main : (if (decide ((c : Int) < (l : Int))) = true then
              (r8 (IntKind.i64.wrap ((l : Int) - 1)) (IntKind.i64.wrap ((s : Int) - 1)) (if IntKind.i64.wrap ((s : Int) - 1) < (a : Int) then IntKind.i64.wrap ((s : Int) - 1) else (a : Int)) c).bind fun v24 =>
               if (!(v24.2.2 != 0)) = true → (r9 v24.1 v24.2.1).isSome = true then
                if (!((v24.2.2 != 0) || (!((r9 v24.1 v24.2.1).getD default)))) = true → (r10 v24.1 v24.2.1).isSome = true then
                 if (((v24.2.2 != 0) || (!((r9 v24.1 v24.2.1).getD default))) || (!((r10 v24.1 v24.2.1).getD default))) = true then
                  some false
                  else (r14 (IntKind.i64.wrap ((l : Int) - c)) l).bind fun v25 =>
                   (r15 v24.1 v24.2.1).bind fun v26 =>
                    (r13 v25.1 v25.2.1 v25.2.2.1 v25.2.2.2 v26.1 v26.2.1 v26.2.2.1 v26.2.2.2).bind fun v27 =>
                     (r12 q0.1 q0.2.1 q0.2.2.1 q0.2.2.2 v27.1 v27.2.1 v27.2.2.1 v27.2.2.2).bind fun v28 =>
                      j3_1 l s a c t ((x : Int), (y : Int), 0) (v28.1, v28.2.1, v28.2.2.1, v28.2.2.2)
                 else none
                else none
              else j3_1 l s a c t ((x : Int), (y : Int), 0) (q0.1, q0.2.1, q0.2.2.1, q0.2.2.2)) = some true := by
            by_cases gl : c < l
            · rw [if_pos (decide_eq_true (by omega)), wI (a := (l : Int) - 1) (by omega) (by omega), wI (a := (s : Int) - 1) (by omega) (by omega), wI (a := (l : Int) - c) (by omega) (by omega)]
              obtain ⟨u, v, e2, low2⟩ := p8 (L := l - 1) (S := s - 1) (A := min a (s - 1)) (b := c) (by omega) (by omega) (by omega) (by omega) (by omega)
              have k1 := low2.pos; have k2 := low2.le; have k3 := low2.sm; have k4 := low2.eq
              rw [show ((l - 1 : Nat) : Int) = (l : Int) - 1 by omega, show ((s - 1 : Nat) : Int) = (s : Int) - 1 by omega] at e2
              have em : (if (s : Int) - 1 < (a : Int) then (s : Int) - 1 else (a : Int)) = ((min a (s - 1) : Nat) : Int) := by split <;> omega
              rw [em, e2, Option.bind_some, show (l : Int) - c = ((l - c : Nat) : Int) by omega]
              obtain ⟨q1, hq1, iq1⟩ := p14 (n := l - c) (d := l) (by omega) (by omega) (by omega)
              obtain ⟨q2, hq2, iq2⟩ := p15 (n := u) (d := v) k1 (by omega) k3
              have m1 : (l - c) * u ≤ 30 * 1000000000 := Nat.mul_le_mul (by omega) (by omega)
              have m2 : l * v ≤ 30 * 1000000000 := Nat.mul_le_mul (by omega) (by omega)
              obtain ⟨q3, hq3, iq3⟩ := p13 iq1 iq2 (by omega) (by omega) ⟨by omega, by omega⟩ ⟨by omega, by omega⟩ ⟨by omega, by omega⟩ ⟨by omega, by omega⟩
              obtain ⟨q4, hq4, iq4⟩ := p12 iq0 iq3 (by omega) (by omega) ⟨by omega, by omega⟩ ⟨by omega, by omega⟩ ⟨by omega, by omega⟩ ⟨by omega, by omega⟩
              simp only [p9 low2, p10 low2, hq1, hq2, hq3, hq4, Option.getD_some, Option.isSome_some, Option.bind_some]
              have fin := p3_1 (L := l) (S := s) (A := a) (b := c) (risk := t) (by omega) (by omega) (by omega) (by omega) (by omega) (by omega) low iq4 (Nat.mul_pos (by omega) (Nat.mul_pos (by omega) k1)) (by omega) (by omega) ?_
              · simpa using fin
              · rw [show l - 1 - c = l - c - 1 by omega, show min a (s - 1) + 1 = min (a + 1) s by omega] at k4
                simp only [Nat.zero_mul, Nat.zero_add, Nat.mul_one, Nat.one_mul]
                have a1 : (l - c) * u * (l * bin (l-1) (s-1)) = (l - c) * l * (u * bin (l-1) (s-1)) := by grind
                rw [a1, k4]; grind
            · rw [if_neg (by simp only [decide_eq_true_eq]; omega)]
              obtain rfl : c = l := by omega
              refine p3_1 (by omega) (by omega) (by omega) (by omega) (by omega) (by omega) low iq0 (by omega) (by omega) (by omega) ?_
              simp
          simpa using main
      · rw [if_pos gb, if_neg gr]; simp
    · rw [if_neg gb]; simp
  · rw [if_neg g]; simp
end Go.Proofs.Ytfmjhllkheapeaa

/- Acceptance: what the code computes. -/
import Derived.Test.YtfmjhllkheapeaaF04
import Derived.Test.YtfmjhllkheapeaaInsA
import Derived.Test.YtfmjhllkheapeaaInsE
set_option linter.unusedVariables false
set_option linter.unusedSimpArgs false
namespace Go.Proofs.Ytfmjhllkheapeaa
open Go.Abs

theorem awake : r4 = some true := by decide +kernel
theorem p42 (a b c : Int) : r42 a b c = some (inR a b c) := rfl
theorem p23 (a b c : Int) : r23 a b c = some (inR a b c) := rfl
theorem inR_iff {a b c : Int} : inR a b c = true ↔ b ≤ a ∧ a ≤ c := by simp [inR]
theorem p35 (b : Bool) (e : Int) : r35 b e = some (codeIf b e) := by unfold r35 codeIf; cases b <;> rfl
theorem p24 (l : List Int) (hl : l.length < 1000000000) : r24 l = some (firstV l) := by
  have h := iter_list (τ := Unit) l (b24_1 l) (fun i _ => i) (fun _ _ x => if x = 0 then .next () else .out (some x)) (fun _ => some 0) hl
    (fun i t hi => by
      simp only [b24_1, ltN hi, if_true, if_pos (rgN hi), Int.toNat_natCast, wS i (by omega)]
      generalize l.getD i default = x
      by_cases hx : x = 0 <;> simp [hx, mapC])
    (fun t => by simp [b24_1]) ()
  unfold r24
  rw [h]
  have : ∀ (r : List Int) (i : Int), foldC (fun _ _ x => if x = 0 then Ctl.next () else .out (some x)) (fun _ : Unit => some 0) i r () = some (firstV r) := by
    intro r
    induction r with
    | nil => intro i; rfl
    | cons x r ih =>
      intro i
      by_cases hx : x = 0
      · simp only [foldC, hx, if_true, firstV]; exact ih _
      · simp only [foldC, if_neg hx, firstV]
  exact this l 0
theorem bin_two : ∀ (n k : Nat), bin n k + bin n (k+1) ≤ 2 ^ n
  | 0, 0 => Nat.le_refl _
  | 0, k+1 => by rw [bin_big 0 (k+1) (by omega), bin_big 0 (k+1+1) (by omega)]; omega
  | n+1, 0 => by
    have h1 := bin_two n 0
    have h2 := bin_pow n 0
    rw [bin_zero, show bin (n+1) (0+1) = bin n 0 + bin n (0+1) from rfl, Nat.pow_succ]
    have h3 : 1 ≤ 2 ^ n := Nat.one_le_two_pow
    omega
  | n+1, k+1 => by
    have h1 := bin_two n k
    have h2 := bin_two n (k+1)
    rw [show bin (n+1) (k+1) = bin n k + bin n (k+1) from rfl, show bin (n+1) (k+1+1) = bin n (k+1) + bin n (k+1+1) from rfl, Nat.pow_succ]
    omega
theorem bin_30 {n : Nat} (k : Nat) (h : n ≤ 30) : bin n k ≤ 536870912 := by
  cases n with
  | zero => have := bin_pow 0 k; omega
  | succ n =>
    cases k with
    | zero => rw [bin_zero]; decide
    | succ k =>
      have h1 := bin_two n k
      rw [show bin (n+1) (k+1) = bin n k + bin n (k+1) from rfl]
      have h2 : (2:Nat) ^ n ≤ 2 ^ 29 := Nat.pow_le_pow_right (by decide) (by omega)
      have : (2:Nat)^29 = 536870912 := by decide
      omega
/-- acceptance is a chance -/
theorem acc_bin : ∀ (b g S m : Nat), acc b g S m ≤ bin (b + g) S
  | b, g, S, 0 => Nat.zero_le _
  | 0, g, S, m+1 => by
    have : ∀ m, acc 0 g S (m+1) = bin g S := by
      intro m
      induction m with
      | zero => simp [acc, bin_zero]
      | succ m ih => rw [acc, ih, bin_big 0 (m+1) (by omega)]; simp
    rw [this, Nat.zero_add]; exact Nat.le_refl _
  | b+1, g, 0, m+1 => by
    have : ∀ m, acc (b+1) g 0 (m+1) = 1 := by
      intro m
      induction m with
      | zero => simp [acc, bin_zero]
      | succ m ih => rw [acc, ih, if_neg (by omega)]; simp
    rw [this, bin_zero]; exact Nat.le_refl _
  | b+1, g, S+1, m+1 => by
    have key : ∀ m, acc (b+1) g (S+1) (m+1) = acc b g (S+1) (m+1) + acc b g S m := by
      intro m
      induction m with
      | zero => simp [acc, bin_zero]
      | succ m ih =>
        rw [acc, ih, show acc b g (S+1) (m+1+1) = acc b g (S+1) (m+1) + bin b (m+1) * (if m + 1 ≤ S + 1 then bin g (S + 1 - (m+1)) else 0) from rfl,
          show acc b g S (m+1) = acc b g S m + bin b m * (if m ≤ S then bin g (S - m) else 0) from rfl, show bin (b+1) (m+1) = bin b m + bin b (m+1) from rfl]
        by_cases h : m ≤ S
        · rw [if_pos h, if_pos (by omega), show S + 1 - (m+1) = S - m by omega, Nat.add_mul]; omega
        · rw [if_neg h, if_neg (by omega)]; simp
    rw [key, show b + 1 + g = (b + g) + 1 by omega, bin]
    have h1 := acc_bin b g (S+1) (m+1)
    have h2 := acc_bin b g S m
    omega
theorem p44 {n k : Nat} (hn : n ≤ 30) (hk : k ≤ 30) : r44 n k = some (bin n k : Int) := by
  unfold r44
  rw [p42, Option.bind_some]
  by_cases h : k ≤ n
  · have e : inR (k : Int) 0 n = true := inR_iff.mpr ⟨by omega, by omega⟩
    rw [e, if_neg (by decide)]
    refine iter_meas (b44_1 n k) (fun s => ∃ i : Nat, s = ((bin n i : Int), (i : Int)) ∧ i ≤ k) (fun s => k - s.2.toNat) (fun o => o = some (bin n k : Int)) (fun s hs => ?_) 1000000000 _ ⟨0, by rw [bin_zero]; rfl, by omega⟩ (by simp; omega)
    obtain ⟨i, rfl, hi⟩ := hs
    unfold b44_1
    simp only
    by_cases g : i < k
    · left
      have hb := bin_30 i hn
      have hm : bin n i * (n - i) ≤ 536870912 * 30 := Nat.mul_le_mul hb (by omega)
      have hb2 := bin_30 (i+1) hn
      have e0 : (bin n i : Int) * ((n : Int) - i) = ((bin n i * (n - i) : Nat) : Int) := by rw [Int.natCast_mul, Int.natCast_sub (by omega)]
      have e1 : (((bin n i * (n - i) : Nat) : Int).tdiv ((i : Int) + 1)) = (bin n (i+1) : Int) := by
        rw [Int.tdiv_eq_ediv_of_nonneg (by omega), show (i : Int) + 1 = ((i + 1 : Nat) : Int) by omega, ← Int.natCast_ediv, bin_loop n i (by omega)]
      refine ⟨((bin n (i+1) : Int), ((i + 1 : Nat) : Int)), ?_, ⟨i+1, rfl, by omega⟩, by show k - ((i + 1 : Nat) : Int).toNat < k - (i : Int).toNat; omega⟩
      rw [if_pos (by simpa using g), wI (a := (i : Int) + 1) (by omega) (by omega), if_pos (by omega), wI (a := (n : Int) - i) (by omega) (by omega), e0, wI (a := ((bin n i * (n - i) : Nat) : Int)) (by omega) (by omega), e1, wI (by omega) (by omega)]
      rfl
    · right
      obtain rfl : i = k := by omega
      exact ⟨_, if_neg (by simp), rfl⟩
  · have e : inR (k : Int) 0 n = false := by rw [Bool.eq_false_iff]; intro h9; have := inR_iff.mp h9; omega
    rw [e, if_pos (by decide), bin_big n k (by omega)]; rfl
/-- samples that are accepted, samples -/
theorem p28 {L S A b : Nat} (hL : L ≤ 30) (hS : S ≤ L) (hA : A ≤ S) (hb : b ≤ L) : r28 L S A b = some ((acc b (L - b) S (A+1) : Int), (bin L S : Int)) := by
  unfold r28
  refine iter_meas (b28_1 L S A b) (fun s => ∃ i : Nat, s = ((acc b (L-b) S i : Int), (i : Int)) ∧ i ≤ A + 1) (fun s => A + 1 - s.2.toNat) (fun o => o = some ((acc b (L - b) S (A+1) : Int), (bin L S : Int))) (fun s hs => ?_) 1000000000 _ ⟨0, rfl, by omega⟩ (by simp; omega)
  obtain ⟨i, rfl, hi⟩ := hs
  unfold b28_1
  simp only
  rw [wI (a := (A : Int) + 1) (by omega) (by omega)]
  by_cases g : i < A + 1
  · left
    have hb1 := bin_30 i (show b ≤ 30 by omega)
    have hb2 := bin_30 (S - i) (show L - b ≤ 30 by omega)
    have hacc := acc_bin b (L-b) S (i+1)
    have hb3 := bin_30 S (show b + (L - b) ≤ 30 by omega)
    have hac : acc b (L-b) S (i+1) = acc b (L-b) S i + bin b i * bin (L-b) (S-i) := by rw [acc, if_pos (by omega)]
    have e0 : (bin b i : Int) * (bin (L-b) (S-i) : Int) = ((bin b i * bin (L-b) (S-i) : Nat) : Int) := by rw [Int.natCast_mul]
    refine ⟨((acc b (L-b) S (i+1) : Int), ((i+1 : Nat) : Int)), ?_, ⟨i+1, rfl, by omega⟩, by show A + 1 - ((i+1 : Nat) : Int).toNat < A + 1 - (i : Int).toNat; omega⟩
    rw [if_pos (by simp; omega), p44 (by omega) (by omega)]
    simp only [bindC]
    rw [wI (a := (L : Int) - b) (by omega) (by omega), wI (a := (S : Int) - i) (by omega) (by omega), show (L : Int) - b = ((L - b : Nat) : Int) by omega, show (S : Int) - i = ((S - i : Nat) : Int) by omega, p44 (by omega) (by omega)]
    simp only
    rw [e0, wI (a := ((bin b i * bin (L-b) (S-i) : Nat) : Int)) (by omega) (by omega), wI (by omega) (by omega), wI (by omega) (by omega)]
    congr 2
    omega
  · right
    obtain rfl : i = A + 1 := by omega
    refine ⟨_, if_neg (by simp), ?_⟩
    rw [p44 (by omega) (by omega)]; rfl
theorem eM_9 {a b : Nat} (ha : a ≤ 1000000000) (hb : b ≤ 1000000000) : eM a b < 1000000000 := eM_small ⟨by omega, by omega⟩ ⟨by omega, by omega⟩
theorem p43 {a b : Nat} (ha : a ≤ 1000000000) (hb : b ≤ 1000000000) : r43 a b = some (Nat.gcd a b : Int) := by
  unfold r43
  refine iter_meas b43_1 (fun s => ∃ x y : Nat, s = ((x : Int), (y : Int)) ∧ Nat.gcd x y = Nat.gcd a b ∧ x ≤ 1000000000 ∧ y ≤ 1000000000) (fun s => eM s.1.toNat s.2.toNat) (fun o => o = some (Nat.gcd a b : Int)) (fun s hs => ?_) 1000000000 _ ⟨a, b, rfl, rfl, ha, hb⟩ (by simpa using eM_9 ha hb)
  obtain ⟨x, y, rfl, h1, h2, h3⟩ := hs
  unfold b43_1
  simp only
  by_cases e : y = 0
  · right
    subst e
    refine ⟨_, if_neg (by simp), ?_⟩
    rw [Nat.gcd_zero_right] at h1
    rw [wI (by omega) (by omega), ← h1]
    by_cases e0 : x = 0
    · subst e0; rfl
    · rw [if_neg (by omega)]
  · left
    have hm := Nat.mod_lt x (show 0 < y by omega)
    refine ⟨((y : Int), ((x % y : Nat) : Int)), ?_, ⟨y, x % y, rfl, ?_, h3, by omega⟩, ?_⟩
    · rw [if_pos (by simpa using e), if_pos (by omega), Int.tmod_eq_emod_of_nonneg (by omega)]; rfl
    · rw [Nat.gcd_comm, ← Nat.gcd_rec, Nat.gcd_comm]; exact h1
    · show eM y (x % y) < eM x y
      exact eM_step (by omega)
theorem p29 {a b : Nat} (ha : a ≤ 1000000000) (hb : b ≤ 1000000000) : r29 a b = some (Nat.gcd a b : Int) := by
  unfold r29
  refine iter_meas b29_1 (fun s => ∃ x y : Nat, s = ((x : Int), (y : Int)) ∧ Nat.gcd x y = Nat.gcd a b ∧ x ≤ 1000000000 ∧ y ≤ 1000000000) (fun s => eM s.1.toNat s.2.toNat) (fun o => o = some (Nat.gcd a b : Int)) (fun s hs => ?_) 1000000000 _ ⟨a, b, rfl, rfl, ha, hb⟩ (by simpa using eM_9 ha hb)
  obtain ⟨x, y, rfl, h1, h2, h3⟩ := hs
  unfold b29_1
  simp only
  by_cases e : y = 0
  · right
    subst e
    refine ⟨_, if_neg (by simp), ?_⟩
    rw [Nat.gcd_zero_right] at h1
    rw [p45 (by omega) (by omega), Option.bind_some, ← h1]
  · left
    have hm := Nat.mod_lt x (show 0 < y by omega)
    refine ⟨((y : Int), ((x % y : Nat) : Int)), ?_, ⟨y, x % y, rfl, ?_, h3, by omega⟩, ?_⟩
    · rw [if_pos (by simpa using e), if_pos (by omega), Int.tmod_eq_emod_of_nonneg (by omega)]; rfl
    · rw [Nat.gcd_comm, ← Nat.gcd_rec, Nat.gcd_comm]; exact h1
    · show eM y (x % y) < eM x y
      exact eM_step (by omega)
/-- a small fraction in lowest terms -/
structure Low (n' d' n d : Nat) : Prop where
  pos : 0 < d'
  eq : n' * d = n * d'
  gcd : Nat.gcd n' d' = 1
  le : n' ≤ d'
  sm : d' ≤ 1000000000
theorem p27 {n d : Nat} (hd : 0 < d) (hn : n ≤ d) (hs : d ≤ 1000000000) : ∃ n' d' : Nat, r27 n d = some ((n' : Int), (d' : Int)) ∧ Low n' d' n d := by
  unfold r27
  have hg : 0 < Nat.gcd n d := Nat.gcd_pos_of_pos_right n hd
  rw [p43 (by omega) hs, Option.bind_some, if_neg (by simp), if_pos (by omega), if_pos (by omega)]
  obtain ⟨x, hx⟩ := Nat.gcd_dvd_left n d
  obtain ⟨y, hy⟩ := Nat.gcd_dvd_right n d
  have hco := Nat.gcd_mul_left (Nat.gcd n d) x y
  rw [← hx, ← hy] at hco
  generalize hG : Nat.gcd n d = g at *
  have ex : ((n : Int).tdiv (g : Int)) = ((x : Nat) : Int) := by rw [Int.tdiv_eq_ediv_of_nonneg (by omega), ← Int.natCast_ediv, hx, Nat.mul_div_cancel_left _ hg]
  have ey : ((d : Int).tdiv (g : Int)) = ((y : Nat) : Int) := by rw [Int.tdiv_eq_ediv_of_nonneg (by omega), ← Int.natCast_ediv, hy, Nat.mul_div_cancel_left _ hg]
  have lx : x ≤ n := by rw [hx]; exact Nat.le_mul_of_pos_left x hg
  have ly : y ≤ d := by rw [hy]; exact Nat.le_mul_of_pos_left y hg
  rw [ex, ey, wI (by omega) (by omega), wI (by omega) (by omega)]
  refine ⟨x, y, rfl, ?_, ?_, ?_, ?_, by omega⟩
  · refine Nat.pos_of_ne_zero fun h => ?_
    subst h; omega
  · rw [hx, hy]; simp only [Nat.mul_left_comm, Nat.mul_comm, Nat.mul_assoc]
  · have : g * Nat.gcd x y = g * 1 := by omega
    exact Nat.eq_of_mul_eq_mul_left hg this
  · rw [hx, hy] at hn
    exact Nat.le_of_mul_le_mul_left hn hg
theorem p36 {L : Int} (h1 : 1 ≤ L) (h2 : L ≤ 30) : r36 L = some true := by
  rw [r36, p42, Option.bind_some, inR_iff.mpr ⟨h1, h2⟩]
theorem p25 {L S A : Nat} (h1 : 1 ≤ S) (h2 : S ≤ L) (h3 : L ≤ 30) (h4 : A ≤ S) : r25 L S A = some 0 := by
  have e1 : inR (S : Int) 1 L = true := inR_iff.mpr ⟨by omega, by omega⟩
  have e2 : inR (A : Int) 0 S = true := inR_iff.mpr ⟨by omega, by omega⟩
  rw [r25, p36 (by omega) (by omega), Option.bind_some, p42, p42, e1, e2]
  simp [p35, codeIf]
theorem p26 {L b : Nat} (h : b ≤ L) : r26 L b = some 0 := by
  rw [r26, p42, Option.bind_some, inR_iff.mpr ⟨by omega, by omega⟩, p35]; rfl
/-- the acceptance of a plan -/
theorem p8 {L S A b : Nat} (h1 : 1 ≤ S) (h2 : S ≤ L) (h3 : L ≤ 30) (h4 : A ≤ S) (h5 : b ≤ L) : ∃ n d : Nat, r8 L S A b = some ((n : Int), (d : Int), 0) ∧ Low n d (acc b (L-b) S (A+1)) (bin L S) := by
  have hd := bin_pos L S h2
  have hle := acc_bin b (L-b) S (A+1)
  rw [show b + (L - b) = L by omega] at hle
  have hb := bin_30 S h3
  obtain ⟨n, d, e, l⟩ := p27 hd hle (by omega)
  refine ⟨n, d, ?_, l⟩
  rw [r8, p25 h1 h2 h3 h4, Option.bind_some, p26 h5, Option.bind_some, p24 _ (by simp), Option.bind_some, show firstV [(0:Int), 0] = 0 from rfl, if_neg (by decide), p28 h3 h2 h4 h5, Option.bind_some, e, Option.bind_some]
theorem p9 {n d m e : Nat} (h : Low n d m e) : r9 n d = some true := by
  have e1 : (decide ((d : Int) > 0)) = true := by have := h.pos; simpa using this
  rw [r9, p29 (by have := h.le; have := h.sm; omega) h.sm, h.gcd, e1]; rfl
theorem p10 {n d m e : Nat} (h : Low n d m e) : r10 n d = some true := by
  have h1 := h.pos; have h2 := h.le; have h3 := h.sm
  rw [r10, p23, p23, inR_iff.mpr ⟨by omega, by omega⟩, inR_iff.mpr ⟨by omega, by omega⟩]; rfl
end Go.Proofs.Ytfmjhllkheapeaa

/- Whole numbers as digits to the base 10^9. Plain laws, no program. -/
set_option linter.unusedVariables false
namespace Go.Proofs.Ytfmjhllkheapeaa
/-- the number of digits, the lowest one first -/
def val : List Int → Int
  | [] => 0
  | d :: r => d + 1000000000 * val r
def Dig (l : List Int) : Prop := ∀ x ∈ l, 0 ≤ x ∧ x < 1000000000
def digs (n : Nat) : List Int := if h : n = 0 then [] else ((n % 1000000000 : Nat) : Int) :: digs (n / 1000000000)
def trim : List Int → List Int
  | [] => []
  | x :: r => if x = 0 ∧ trim r = [] then [] else x :: trim r
theorem digs_zero : digs 0 = [] := by rw [digs]; rfl
theorem digs_pos {n : Nat} (h : 0 < n) : digs n = ((n % 1000000000 : Nat) : Int) :: digs (n / 1000000000) := by
  rw [digs, dif_neg (by omega)]
theorem digs_nil {n : Nat} : digs n = [] ↔ n = 0 := by
  constructor
  · intro h
    by_cases e : n = 0
    · exact e
    · rw [digs_pos (by omega)] at h; cases h
  · rintro rfl; exact digs_zero
theorem Dig.nil : Dig [] := by intro x h; cases h
theorem Dig.tail {d : Int} {r : List Int} (h : Dig (d :: r)) : Dig r := fun x hx => h x (List.mem_cons_of_mem _ hx)
theorem Dig.head {d : Int} {r : List Int} (h : Dig (d :: r)) : 0 ≤ d ∧ d < 1000000000 := h d (List.mem_cons_self ..)
theorem Dig.cons {d : Int} {r : List Int} (h1 : 0 ≤ d) (h2 : d < 1000000000) (h : Dig r) : Dig (d :: r) := by
  intro x hx
  rcases List.mem_cons.mp hx with rfl | hx
  · exact ⟨h1, h2⟩
  · exact h x hx
theorem Dig.snoc {d : Int} {r : List Int} (h : Dig r) (h1 : 0 ≤ d) (h2 : d < 1000000000) : Dig (r ++ [d]) := by
  intro x hx
  rcases List.mem_append.mp hx with hx | hx
  · exact h x hx
  · rw [List.mem_singleton] at hx; subst hx; exact ⟨h1, h2⟩
theorem Dig.set {v : Int} {l : List Int} {i : Nat} (h : Dig l) (h1 : 0 ≤ v) (h2 : v < 1000000000) : Dig (l.set i v) := by
  intro x hx
  rcases List.mem_or_eq_of_mem_set hx with hx | rfl
  · exact h x hx
  · exact ⟨h1, h2⟩
theorem Dig.take {l : List Int} (h : Dig l) (i : Nat) : Dig (l.take i) := fun x hx => h x (List.mem_of_mem_take hx)
theorem Dig.drop {l : List Int} (h : Dig l) (i : Nat) : Dig (l.drop i) := fun x hx => h x (List.mem_of_mem_drop hx)
theorem Dig.get {l : List Int} (h : Dig l) (i : Nat) : 0 ≤ l.getD i 0 ∧ l.getD i 0 < 1000000000 := by
  by_cases e : i < l.length
  · rw [List.getD_eq_getElem?_getD, List.getElem?_eq_getElem e, Option.getD_some]; exact h _ (List.getElem_mem e)
  · rw [List.getD_eq_getElem?_getD, List.getElem?_eq_none (by omega), Option.getD_none]; omega
theorem Dig.zeros (n : Nat) : Dig (List.replicate n 0) := by
  intro x hx; rw [List.eq_of_mem_replicate hx]; omega
theorem dig_digs (n : Nat) : Dig (digs n) := by
  induction n using Nat.strongRecOn with
  | _ n ih =>
    by_cases e : n = 0
    · rw [e, digs_zero]; exact Dig.nil
    · rw [digs_pos (by omega)]
      exact Dig.cons (by omega) (by omega) (ih _ (by omega))
theorem val_digs (n : Nat) : val (digs n) = n := by
  induction n using Nat.strongRecOn with
  | _ n ih =>
    by_cases e : n = 0
    · rw [e, digs_zero]; rfl
    · rw [digs_pos (by omega), val, ih _ (by omega)]; omega
theorem val_nonneg {l : List Int} (h : Dig l) : 0 ≤ val l := by
  induction l with
  | nil => exact Int.le_refl _
  | cons d r ih => have := ih h.tail; have := h.head; rw [val]; omega
theorem trim_digs {l : List Int} (h : Dig l) : trim l = digs (val l).toNat := by
  induction l with
  | nil => rw [val, trim]; exact digs_zero.symm
  | cons d r ih =>
    have i1 := ih h.tail
    have h0 := h.head
    have h1 := val_nonneg h.tail
    rw [trim, val, i1]
    by_cases e : d = 0 ∧ (val r).toNat = 0
    · rw [if_pos ⟨e.1, digs_nil.mpr e.2⟩, show (d + 1000000000 * val r).toNat = 0 by omega, digs_zero]
    · have e2 : ¬ (d = 0 ∧ val r = 0) := fun g => e ⟨g.1, by omega⟩
      have e3 : 0 < d + 1000000000 * val r := by omega
      rw [if_neg (fun g => e ⟨g.1, digs_nil.mp g.2⟩), digs_pos (n := (d + 1000000000 * val r).toNat) (by omega), show (((d + 1000000000 * val r).toNat % 1000000000 : Nat) : Int) = d by omega, show (d + 1000000000 * val r).toNat / 1000000000 = (val r).toNat by omega]
/-- digits as they are kept -/
def Can (l : List Int) : Prop := Dig l ∧ trim l = l
theorem can_digs (n : Nat) : Can (digs n) := ⟨dig_digs n, by rw [trim_digs (dig_digs n), val_digs]; rfl⟩
theorem Can.eq {l : List Int} (h : Can l) : l = digs (val l).toNat := by rw [← trim_digs h.1, h.2]

def P (i : Nat) : Int := 1000000000 ^ i
theorem P_zero : P 0 = 1 := rfl
theorem P_succ (i : Nat) : P (i+1) = 1000000000 * P i := by rw [P, P, Int.pow_succ, Int.mul_comm]
theorem P_pos (i : Nat) : 0 < P i := Int.pow_pos (by decide)
theorem P_add (i k : Nat) : P (i+k) = P i * P k := by
  induction i with
  | zero => rw [Nat.zero_add, P_zero, Int.one_mul]
  | succ i ih => rw [show i + 1 + k = (i + k) + 1 by omega, P_succ, P_succ, ih, Int.mul_assoc]
theorem P_le {i k : Nat} (h : i ≤ k) : P i ≤ P k := by
  obtain ⟨j, rfl⟩ : ∃ j, k = i + j := ⟨k - i, by omega⟩
  rw [P_add]
  have := P_pos i; have := P_pos j
  calc P i = P i * 1 := by omega
    _ ≤ P i * P j := Int.mul_le_mul_of_nonneg_left (by omega) (by omega)
theorem val_lt {l : List Int} (h : Dig l) : val l < P l.length := by
  induction l with
  | nil => exact Int.zero_lt_one
  | cons d r ih => have := ih h.tail; have := h.head; rw [val, List.length_cons, P_succ]; omega
theorem val_append (l r : List Int) : val (l ++ r) = val l + P l.length * val r := by
  induction l with
  | nil => simp [val, P_zero]
  | cons d l ih => rw [List.cons_append, val, ih, val, List.length_cons, P_succ]; grind
theorem val_snoc (l : List Int) (d : Int) : val (l ++ [d]) = val l + P l.length * d := by
  rw [val_append]; simp [val]
theorem val_zeros (n : Nat) : val (List.replicate n 0) = 0 := by
  induction n with
  | zero => rfl
  | succ n ih => rw [List.replicate_succ, val, ih]; rfl
theorem val_take (l : List Int) : ∀ i, val (l.take (i+1)) = val (l.take i) + P i * l.getD i 0 := by
  induction l with
  | nil => intro i; simp [val]
  | cons d l ih =>
    intro i
    cases i with
    | zero => simp [val, P_zero]
    | succ i =>
      rw [List.take_succ_cons, List.take_succ_cons, val, val, ih i, P_succ, List.getD_cons_succ]; grind
theorem val_split (l : List Int) (i : Nat) : val l = val (l.take i) + P (min i l.length) * val (l.drop i) := by
  conv => lhs; rw [← List.take_append_drop i l]
  rw [val_append, List.length_take]
theorem val_set (l : List Int) : ∀ (i : Nat) (v : Int), i < l.length → val (l.set i v) = val l + P i * (v - l.getD i 0) := by
  induction l with
  | nil => intro i v h; simp at h
  | cons d l ih =>
    intro i v h
    cases i with
    | zero => simp [val, P_zero]; omega
    | succ i =>
      rw [List.set_cons_succ, val, ih i v (by simpa using h), val, P_succ, List.getD_cons_succ]; grind
theorem val_drop (l : List Int) {i : Nat} (h : i < l.length) : val (l.drop i) = l.getD i 0 + 1000000000 * val (l.drop (i+1)) := by
  rw [List.drop_eq_getElem_cons h, val, List.getD_eq_getElem?_getD, List.getElem?_eq_getElem h, Option.getD_some]
/-- fewer digits, a lesser number -/
theorem can_len {l : List Int} (h : Can l) (h0 : l ≠ []) : P (l.length - 1) ≤ val l := by
  induction l with
  | nil => exact absurd rfl h0
  | cons d r ih =>
    have hd := h.1.head
    have ht := h.2
    rw [trim] at ht
    split at ht
    · cases ht
    · rename_i g
      have hr : trim r = r := by injection ht
      have hc : Can r := ⟨h.1.tail, hr⟩
      rw [val, List.length_cons, Nat.add_sub_cancel]
      by_cases e : r = []
      · subst e
        have : d ≠ 0 := fun e => g ⟨e, rfl⟩
        simp only [List.length_nil, P_zero, val]; omega
      · have h1 := ih hc e
        have : r.length ≠ 0 := by simpa using e
        obtain ⟨k, hk⟩ : ∃ k, r.length = k + 1 := ⟨r.length - 1, by omega⟩
        rw [hk, P_succ]
        rw [hk, Nat.add_sub_cancel] at h1
        omega
theorem can_lt {a b : List Int} (ha : Can a) (hb : Can b) (h : a.length < b.length) : val a < val b := by
  have h1 := val_lt ha.1
  have h2 := can_len hb (by intro e; subst e; simp at h)
  have := P_le (show a.length ≤ b.length - 1 by omega)
  omega
theorem len_digs {n k : Nat} (h : (n : Int) < P k) : (digs n).length ≤ k := by
  by_cases e : n = 0
  · rw [e, digs_zero]; simp
  · have h1 := can_len (can_digs n) (by rw [Ne, digs_nil]; exact e)
    rw [val_digs] at h1
    apply Classical.byContradiction
    intro g
    have := P_le (show k ≤ (digs n).length - 1 by omega)
    omega
/-- digits from the top that are equal -/
theorem val_top {a b : List Int} (ha : Dig a) (hb : Dig b) (hl : a.length = b.length) {i : Nat} (hi : i < a.length) (h : a.drop (i+1) = b.drop (i+1)) (hlt : a.getD i 0 < b.getD i 0) : val a < val b := by
  rw [val_split a i, val_split b i, val_drop a hi, val_drop b (by omega), h, Nat.min_eq_left (by omega), Nat.min_eq_left (by omega)]
  have h1 := val_lt (ha.take i)
  rw [List.length_take, Nat.min_eq_left (by omega)] at h1
  have h2 := val_nonneg (hb.take i)
  have h3 : P i * (a.getD i 0 + 1000000000 * val (b.drop (i+1))) + P i ≤ P i * (b.getD i 0 + 1000000000 * val (b.drop (i+1))) := by
    have : P i * (a.getD i 0 + 1000000000 * val (b.drop (i+1))) + P i = P i * (a.getD i 0 + 1 + 1000000000 * val (b.drop (i+1))) := by grind
    rw [this]
    exact Int.mul_le_mul_of_nonneg_left (by omega) (by have := P_pos i; omega)
  omega
theorem val_inj {a b : List Int} (ha : Can a) (hb : Can b) (h : val a = val b) : a = b := by rw [ha.eq, hb.eq, h]
/-- a whole number of any size -/
def W (z : Int) : Int × List Int := (z.sign, digs z.natAbs)
theorem dz0 : digs (Int.toNat 0) = [] := digs_zero
theorem dz1 : digs (Int.natAbs 0) = [] := digs_zero
theorem W_zero : W 0 = (0, []) := by rw [W, show (0:Int).natAbs = 0 from rfl, digs_zero]; rfl
theorem W_sign (z : Int) : (W z).1 = z.sign := rfl
theorem W_pos {z : Int} (h : 0 < z) : W z = (1, digs z.toNat) := by
  rw [W, Int.sign_eq_one_of_pos h, show z.natAbs = z.toNat by omega]
theorem W_neg {z : Int} (h : z < 0) : W z = (-1, digs (-z).toNat) := by
  rw [W, Int.sign_eq_neg_one_of_neg h, show z.natAbs = (-z).toNat by omega]
/-- digits with a sign, as they are kept -/
def wV (s : Int) (l : List Int) : Int × List Int := if trim l = [] then (0, []) else (s, trim l)
theorem wV_one {l : List Int} (h : Dig l) : wV 1 l = W (val l) := by
  have := val_nonneg h
  rw [wV, trim_digs h]
  by_cases e : val l = 0
  · rw [e, W_zero]; exact if_pos (by first | exact dz0 | exact dz1)
  · rw [if_neg (by rw [digs_nil]; omega), W_pos (by omega)]
theorem wV_neg {l : List Int} (h : Dig l) : wV (-1) l = W (-val l) := by
  have := val_nonneg h
  rw [wV, trim_digs h]
  by_cases e : val l = 0
  · rw [e, show -(0:Int) = 0 from rfl, W_zero]; exact if_pos (by first | exact dz0 | exact dz1)
  · rw [if_neg (by rw [digs_nil]; omega), W_neg (by omega), Int.neg_neg]
theorem wV_sign {s z : Int} {l : List Int} (h : Dig l) (hz : z.natAbs = (val l).toNat) (hs : z = 0 ∨ s = z.sign) : wV s l = W z := by
  have := val_nonneg h
  rw [wV, trim_digs h, ← hz]
  by_cases e : z = 0
  · rw [e, W_zero]; exact if_pos (by first | exact dz0 | exact dz1)
  · rw [if_neg (by rw [digs_nil]; omega), W]
    rcases hs with hs | hs
    · exact absurd hs e
    · rw [hs]
end Go.Proofs.Ytfmjhllkheapeaa

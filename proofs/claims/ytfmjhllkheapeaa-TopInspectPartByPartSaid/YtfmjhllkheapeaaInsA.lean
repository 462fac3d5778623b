/- Numbers of subsets, and of the samples with few bad parts: what a sample of one part less says. Plain laws of natural numbers. -/
namespace Go.Proofs.Ytfmjhllkheapeaa
/-- the number of subsets -/
def bin : Nat → Nat → Nat
  | _, 0 => 1
  | 0, _+1 => 0
  | n+1, k+1 => bin n k + bin n (k+1)

theorem bin_zero (n : Nat) : bin n 0 = 1 := by cases n <;> rfl
theorem bin_big : ∀ (n k : Nat), n < k → bin n k = 0
  | 0, k+1, _ => rfl
  | n+1, k+1, h => by
    rw [bin, bin_big n k (by omega), bin_big n (k+1) (by omega)]
theorem bin_self : ∀ n : Nat, bin n n = 1
  | 0 => rfl
  | n+1 => by rw [bin, bin_self n, bin_big n (n+1) (by omega)]
/-- one member is chosen first -/
theorem bin_mem : ∀ (n k : Nat), (k+1) * bin (n+1) (k+1) = (n+1) * bin n k
  | 0, 0 => rfl
  | 0, k+1 => by rw [bin_big 1 (k+2) (by omega), bin_big 0 (k+1) (by omega)]; simp
  | n+1, 0 => by
    have h := bin_mem n 0
    simp only [Nat.zero_add, Nat.one_mul, bin_zero] at h ⊢
    rw [show bin (n+1+1) 1 = bin (n+1) 0 + bin (n+1) 1 from rfl, bin_zero, h]
    omega
  | n+1, k+1 => by
    have h1 := bin_mem n k
    have h2 := bin_mem n (k+1)
    rw [bin, Nat.mul_add]
    have e : (k+1+1) * bin (n+1) (k+1) = (k+1) * bin (n+1) (k+1) + bin (n+1) (k+1) := by rw [Nat.succ_mul]
    rw [e, h1, h2]
    have e2 : bin (n+1) (k+1) = bin n k + bin n (k+1) := rfl
    rw [e2]
    grind
/-- what a step of the code's loop does -/
theorem bin_step (n k : Nat) (h : k < n) : (k+1) * bin n (k+1) = bin n k * (n - k) := by
  obtain ⟨m, rfl⟩ : ∃ m, n = m + 1 := ⟨n - 1, by omega⟩
  have h1 := bin_mem m k
  rw [h1]
  have := bin_sub m k (by omega)
  rw [this, Nat.mul_comm]
where
  bin_sub : ∀ (m k : Nat), k ≤ m → (m+1) * bin m k = (m + 1 - k) * bin (m+1) k
  | m, 0, _ => by rw [bin_zero, bin_zero, Nat.sub_zero]
  | m, k+1, h => by
    have h1 := bin_mem m k
    have e2 : bin (m+1) (k+1) = bin m k + bin m (k+1) := rfl
    have h3 : (m + 1 - (k+1)) * bin (m+1) (k+1) + (k+1) * bin (m+1) (k+1) = (m+1) * bin (m+1) (k+1) := by
      rw [← Nat.add_mul]; congr 1; omega
    rw [h1] at h3
    have h4 : (m+1) * bin (m+1) (k+1) = (m+1) * bin m k + (m+1) * bin m (k+1) := by rw [e2, Nat.mul_add]
    omega
theorem bin_pow : ∀ (n k : Nat), bin n k ≤ 2 ^ n
  | 0, 0 => Nat.le_refl _
  | 0, k+1 => by rw [bin_big 0 (k+1) (by omega)]; omega
  | n+1, 0 => by rw [bin_zero]; exact Nat.one_le_two_pow
  | n+1, k+1 => by
    have := bin_pow n k
    have := bin_pow n (k+1)
    rw [bin, Nat.pow_succ]; omega
theorem bin_pos : ∀ (n k : Nat), k ≤ n → 0 < bin n k
  | n, 0, _ => by rw [bin_zero]; omega
  | 0, k+1, h => by omega
  | n+1, k+1, h => by
    have := bin_pos n k (by omega)
    rw [bin]; omega

/-- the samples with at most so many bad parts (b bad, g good ones): the first m terms -/
def acc (b g S : Nat) : Nat → Nat
  | 0 => 0
  | m+1 => acc b g S m + bin b m * (if m ≤ S then bin g (S - m) else 0)

theorem acc_one (b g S : Nat) (hS : 1 ≤ S) : ∀ m, m ≤ S + 1 →
    S * acc b g S m = g * acc b (g-1) (S-1) (min m S) + b * acc (b-1) g (S-1) (m-1)
  | 0, _ => by simp [acc]
  | m+1, h => by
    have ih := acc_one b g S hS m (by omega)
    have hm : m ≤ S := by omega
    rw [acc, Nat.mul_add, ih, if_pos hm]
    -- the term of m
    have t1 : S * (bin b m * bin g (S-m)) = m * (bin b m * bin g (S-m)) + (S-m) * (bin b m * bin g (S-m)) := by
      rw [← Nat.add_mul]; congr 1; omega
    have t2 : m * (bin b m * bin g (S-m)) = b * (if m = 0 then 0 else bin (b-1) (m-1) * bin g (S-m)) := by
      cases m with
      | zero => simp
      | succ k =>
        cases b with
        | zero => rw [bin_big 0 (k+1) (by omega)]; simp
        | succ c =>
          have := bin_mem c k
          simp only [Nat.add_sub_cancel, Nat.succ_ne_zero, if_false]
          rw [← Nat.mul_assoc, this, Nat.mul_assoc]
    have t3 : (S-m) * (bin b m * bin g (S-m)) = g * (if m = S then 0 else bin b m * bin (g-1) (S-1-m)) := by
      by_cases e : m = S
      · subst e; simp
      · obtain ⟨j, hj⟩ : ∃ j, S - m = j + 1 := ⟨S - m - 1, by omega⟩
        have hj2 : S - 1 - m = j := by omega
        rw [if_neg e, hj, hj2]
        cases g with
        | zero => rw [bin_big 0 (j+1) (by omega)]; simp
        | succ c =>
          have := bin_mem c j
          simp only [Nat.add_sub_cancel]
          rw [Nat.mul_left_comm, this, Nat.mul_left_comm]
    have u1 : acc b (g-1) (S-1) (min (m+1) S) = acc b (g-1) (S-1) (min m S) + (if m = S then 0 else bin b m * bin (g-1) (S-1-m)) := by
      by_cases e : m = S
      · subst e; simp
      · rw [Nat.min_eq_left (by omega : m + 1 ≤ S), Nat.min_eq_left (by omega : m ≤ S), acc, if_neg e, if_pos (by omega : m ≤ S - 1)]
    have u2 : acc (b-1) g (S-1) (m+1-1) = acc (b-1) g (S-1) (m-1) + (if m = 0 then 0 else bin (b-1) (m-1) * bin g (S-m)) := by
      cases m with
      | zero => simp
      | succ k =>
        simp only [Nat.add_sub_cancel, Nat.add_one_ne_zero, reduceIte]
        rw [acc, if_pos (by omega : k ≤ S - 1)]
        have : S - 1 - k = S - (k+1) := by omega
        rw [this]
    rw [t1, t2, t3, u1, u2, Nat.mul_add, Nat.mul_add]
    omega
theorem bin_step' (n k : Nat) : (k+1) * bin n (k+1) = bin n k * (n - k) := by
  by_cases h : k < n
  · exact bin_step n k h
  · rw [bin_big n (k+1) (by omega), show n - k = 0 by omega]; rfl

/-- a sample of one part more -/
theorem acc_more_eq (b g S : Nat) : ∀ m, m ≤ S →
    (S+1) * acc b g (S+1) (m+1) + (b - m) * (bin b m * bin g (S-m)) = (b + g - S) * acc b g S (m+1)
  | 0, _ => by
    have h := bin_step' g S
    simp only [acc, bin_zero, Nat.zero_add, Nat.one_mul, Nat.sub_zero, Nat.zero_le, if_true]
    by_cases e : S ≤ g
    · rw [h, show b + g - S = b + (g - S) by omega, Nat.add_mul, Nat.mul_comm (bin g S)]; omega
    · rw [bin_big g S (by omega), bin_big g (S+1) (by omega)]; simp
  | m+1, hm => by
    have ih := acc_more_eq b g S m (by omega)
    rw [show acc b g (S+1) (m+1+1) = acc b g (S+1) (m+1) + bin b (m+1) * bin g (S+1-(m+1)) from by rw [acc, if_pos (by omega : m + 1 ≤ S + 1)],
      show acc b g S (m+1+1) = acc b g S (m+1) + bin b (m+1) * bin g (S-(m+1)) from by rw [acc, if_pos hm], Nat.mul_add, Nat.mul_add (b+g-S), ← ih]
    have e1 : S + 1 - (m+1) = S - m := by omega
    have e2 : (S+1) * (bin b (m+1) * bin g (S-m)) = (m+1) * (bin b (m+1) * bin g (S-m)) + (S-m) * (bin b (m+1) * bin g (S-m)) := by
      rw [← Nat.add_mul]; congr 1; omega
    have e3 : (m+1) * (bin b (m+1) * bin g (S-m)) = (b - m) * (bin b m * bin g (S-m)) := by
      rw [← Nat.mul_assoc, bin_step' b m, Nat.mul_comm (bin b m), Nat.mul_assoc]
    have e4 : (S-m) * (bin b (m+1) * bin g (S-m)) + (b-(m+1)) * (bin b (m+1) * bin g (S-(m+1))) = (b+g-S) * (bin b (m+1) * bin g (S-(m+1))) := by
      obtain ⟨j, hj⟩ : ∃ j, S - m = j + 1 := ⟨S - m - 1, by omega⟩
      have hj2 : S - (m+1) = j := by omega
      have h := bin_step' g j
      rw [hj, hj2, Nat.mul_left_comm, h]
      by_cases hb : m + 1 ≤ b
      · by_cases hg : j ≤ g
        · have : b + g - S = (g - j) + (b - (m+1)) := by omega
          rw [this, Nat.add_mul, Nat.mul_left_comm (g-j), Nat.mul_comm (g-j)]
        · rw [bin_big g j (by omega)]; simp
      · rw [bin_big b (m+1) (by omega)]; simp
    rw [e1, e2, e3]
    omega
theorem acc_more (b g S m : Nat) (h : m ≤ S) : (S+1) * acc b g (S+1) (m+1) ≤ (b + g - S) * acc b g S (m+1) := by
  have := acc_more_eq b g S m h
  omega
/-- the whole lot -/
theorem acc_full (b g : Nat) : ∀ m, m ≤ b + g + 1 → acc b g (b+g) m = if b < m then 1 else 0
  | 0, _ => by simp [acc]
  | m+1, h => by
    rw [acc, acc_full b g m (by omega), if_pos (by omega : m ≤ b + g)]
    by_cases e : m = b
    · subst e
      rw [bin_self, show m + g - m = g by omega, bin_self, if_neg (by omega), if_pos (by omega)]
    · by_cases l : b < m
      · rw [bin_big b m l, if_pos l, if_pos (by omega)]; simp
      · rw [bin_big g (b + g - m) (by omega), if_neg l, if_neg (by omega)]; simp
theorem acc_le (b g S : Nat) : ∀ m, acc b g S m ≤ m * 2 ^ (b + g)
  | 0 => by simp [acc]
  | m+1 => by
    have ih := acc_le b g S m
    have h1 := bin_pow b m
    have h2 := bin_pow g (S-m)
    have h3 : bin b m * (if m ≤ S then bin g (S-m) else 0) ≤ 2 ^ b * 2 ^ g := by
      refine Nat.mul_le_mul h1 ?_
      split
      · exact h2
      · exact Nat.zero_le _
    rw [acc, Nat.succ_mul, Nat.pow_add]
    rw [Nat.pow_add] at ih
    omega
/-- the code's loop of subsets -/
theorem bin_loop (n k : Nat) (h : k < n) : bin n k * (n - k) / (k + 1) = bin n (k+1) := by
  rw [← bin_step n k h, Nat.mul_comm, Nat.mul_div_cancel _ (by omega)]
end Go.Proofs.Ytfmjhllkheapeaa

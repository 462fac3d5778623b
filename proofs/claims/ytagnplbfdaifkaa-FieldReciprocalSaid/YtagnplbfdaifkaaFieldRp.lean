/- Field: reciprocity, in plain numbers. -/
import Derived.Test.YtagnplbfdaifkaaFieldT
set_option linter.unusedVariables false
set_option linter.unusedSimpArgs false
namespace Go.Proofs.Ytagnplbfdaifkaa
open Go.Abs

/-- minus the product of complex numbers -/
def nmul (u v : Int × Int) : Int × Int := (-(u.1 * v.1 - u.2 * v.2), -(u.1 * v.2 + u.2 * v.1))
/-- the voltage ahead of node k, the current to node k, while a current is fed in at node m -/
def wK (cs xs : List Int) (m k : Nat) : Int × Int := if k ≤ m then nmul (fwd cs xs k).1 (vV cs xs (m + 1)) else nmul (fwd cs xs (m + 1)).1 (vV cs xs k)
def kK (cs xs : List Int) (m k : Nat) : Int × Int := if k ≤ m then nmul (fwd cs xs k).2 (vV cs xs (m + 1)) else nmul (fwd cs xs (m + 1)).1 (vI cs xs k)
variable {cs xs : List Int}
theorem tnum_comm (cs xs : List Int) (m n : Nat) : tnum cs xs m n = tnum cs xs n m := by
  unfold tnum; rw [Nat.min_comm, Nat.max_comm]
theorem trV_comm (cs xs : List Int) (m n : Nat) : trV cs xs m n = trV cs xs n m := by
  unfold trV; rw [tnum_comm]
theorem tnum_w (cs xs : List Int) (m k : Nat) : tnum cs xs m k = wK cs xs m (k + 1) := by
  unfold tnum wK nmul
  by_cases h : k + 1 ≤ m
  · rw [if_pos h, Nat.min_eq_right (by omega), Nat.max_eq_left (by omega)]
  · rw [if_neg h]
    by_cases h2 : k = m
    · subst h2; rw [Nat.min_self, Nat.max_self]
    · rw [Nat.min_eq_left (by omega), Nat.max_eq_right (by omega)]
theorem w_zero (cs xs : List Int) (m : Nat) : wK cs xs m 0 = (0, 0) := by simp [wK, nmul, fwd]
theorem k_end (h : xs.length = cs.length) {m : Nat} (hm : m < cs.length) : kK cs xs m cs.length = (0, 0) := by
  unfold kK
  rw [if_neg (by omega)]
  have : vI cs xs cs.length = (0, 0) := by
    unfold vI
    rw [List.drop_length, ← h, List.drop_length]; rfl
  rw [this]; simp [nmul]
theorem k_step (h : xs.length = cs.length) {m k : Nat} (hm : m < cs.length) (hk : k < cs.length) :
    kK cs xs m k = ((kK cs xs m (k + 1)).1 + cs.getD k default * (wK cs xs m (k + 1)).1 - (if k = m then (vV cs xs 0).1 else 0), (kK cs xs m (k + 1)).2 + cs.getD k default * (wK cs xs m (k + 1)).2 - (if k = m then (vV cs xs 0).2 else 0)) := by
  have hI := vI_succ h hk
  have hi := fwd_i cs xs k
  unfold kK wK
  by_cases h1 : k < m
  · rw [if_pos (show k ≤ m by omega), if_pos (show k + 1 ≤ m by omega), if_pos (show k + 1 ≤ m by omega), if_neg (by omega), if_neg (by omega), hi]
    generalize (fwd cs xs (k + 1)).1 = u
    generalize vV cs xs (m + 1) = v
    generalize (fwd cs xs k).2 = i
    generalize cs.getD k default = c
    simp only [nmul]
    apply Prod.ext <;> simp only [] <;> grind
  · by_cases h2 : k = m
    · subst h2
      obtain ⟨w1, w2⟩ := wron h k (by omega)
      have hu := fwd_u cs xs k
      have hV := vV_succ h hk
      rw [if_pos (Nat.le_refl k), if_neg (by omega), if_neg (by omega), if_pos rfl, if_pos rfl]
      rw [hV] at w1 w2
      rw [hu]
      rw [hI] at w1 w2
      generalize vV cs xs (k + 1) = v at *
      generalize vI cs xs (k + 1) = i at *
      generalize fwd cs xs k = p at *
      generalize cs.getD k default = c at *
      generalize xs.getD k default = x at *
      generalize vV cs xs 0 = w at *
      simp only [nmul, volV, curV] at *
      apply Prod.ext <;> simp only [] <;> grind
    · rw [if_neg (by omega), if_neg (by omega), if_neg (by omega), if_neg h2, if_neg h2, hI]
      generalize (fwd cs xs (m + 1)).1 = u
      generalize vV cs xs (k + 1) = v
      generalize vI cs xs (k + 1) = i
      generalize cs.getD k default = c
      simp only [nmul, curV]
      apply Prod.ext <;> simp only [] <;> grind
theorem w_step (h : xs.length = cs.length) {m k : Nat} (hm : m < cs.length) (hk : k < cs.length) :
    (wK cs xs m k).1 - (wK cs xs m (k + 1)).1 = -(xs.getD k default * (kK cs xs m k).2) ∧ (wK cs xs m k).2 - (wK cs xs m (k + 1)).2 = xs.getD k default * (kK cs xs m k).1 := by
  have hu := fwd_u cs xs k
  have hV := vV_succ h hk
  unfold kK wK
  by_cases h1 : k < m
  · rw [if_pos (show k ≤ m by omega), if_pos (show k + 1 ≤ m by omega), if_pos (show k ≤ m by omega), hu]
    generalize vV cs xs (m + 1) = v
    generalize fwd cs xs k = p
    generalize xs.getD k default = x
    simp only [nmul]
    constructor <;> grind
  · by_cases h2 : k = m
    · subst h2
      rw [if_pos (Nat.le_refl k), if_neg (by omega), if_pos (Nat.le_refl k), hu]
      generalize vV cs xs (k + 1) = v
      generalize fwd cs xs k = p
      generalize xs.getD k default = x
      simp only [nmul]
      constructor <;> grind
    · rw [if_neg (by omega), if_neg (by omega), if_neg (by omega), hV]
      generalize (fwd cs xs (m + 1)).1 = u
      generalize vV cs xs (k + 1) = v
      generalize vI cs xs k = i
      generalize xs.getD k default = x
      simp only [nmul, volV]
      constructor <;> grind
/-- sizes -/
theorem nmul_nrm (u v : Int × Int) : nrm (nmul u v) = nrm u * nrm v := by
  simp only [nrm, nmul]; grind
theorem nmul_bd {u v : Int × Int} {A B : Int} (hA : 0 ≤ A) (hB : 0 ≤ B) (hu : nrm u ≤ A * A) (hv : nrm v ≤ B * B) : Bd (A * B) (nmul u v) := by
  have h := Int.mul_le_mul hu hv (nrm_nn v) (sqI A)
  have e : A * A * (B * B) = (A * B) * (A * B) := by grind
  exact nrm_bd2 (Int.mul_nonneg hA hB) (by rw [nmul_nrm]; omega)
theorem vV_nrm (h : Lad cs xs) (k : Nat) : nrm (vV cs xs k) ≤ (bV (cs.length - k)).1 * (bV (cs.length - k)).1 ∧ nrm (vI cs xs k) ≤ (bV (cs.length - k)).2 * (bV (cs.length - k)).2 := by
  have := nrm_bd (h.drop k)
  rwa [List.length_drop] at this
theorem tab : ∀ n < 5, ∀ k < n, ∀ m < k + 1, (bU (m + 1)).1 * (bV (n - (k + 1))).1 ≤ 70295680 := by decide
theorem tnum_bd (h : Lad cs xs) (h4 : cs.length ≤ 4) {m n : Nat} (hm : m < cs.length) (hn : n < cs.length) : Bd 70295680 (tnum cs xs m n) := by
  have hp := bU_pos (min m n + 1)
  have hq := bV_pos (cs.length - (max m n + 1))
  have a := (fwd_bd h.xg h.cg (min m n + 1) (by omega)).1
  have b := (vV_nrm h (max m n + 1)).1
  have := nmul_bd hp.1 (by omega) a b
  exact this.mono (tab cs.length (by omega) (max m n) (by omega) (min m n) (by omega))
theorem kB (h : Lad cs xs) (h4 : cs.length ≤ 4) {m k : Nat} (hm : m < cs.length) (hk : k ≤ cs.length) : Bd 700000000000000 (kK cs xs m k) := by
  unfold kK
  by_cases h1 : k ≤ m
  · rw [if_pos h1]
    have hp := bU_pos k
    have hq := bV_pos (cs.length - (m + 1))
    have a := (fwd_bd h.xg h.cg k hk).2
    have b := (vV_nrm h (m + 1)).1
    have h3 := nmul_bd (show 0 ≤ (bU k).2 by omega) (by omega) a b
    have l1 := (bU_le (n := k) (by omega)).2
    have l2 : (bV (cs.length - (m + 1))).1 ≤ 2179841 := by
      have : ∀ n < 4, (bV n).1 ≤ 2179841 := by decide
      exact this _ (by omega)
    have := Int.mul_le_mul l1 l2 (by omega) (by omega)
    exact h3.mono (by omega)
  · rw [if_neg h1]
    have hp := bU_pos (m + 1)
    have hq := bV_pos (cs.length - k)
    have a := (fwd_bd h.xg h.cg (m + 1) (by omega)).1
    have b := (vV_nrm h k).2
    have h3 := nmul_bd hp.1 (show 0 ≤ (bV (cs.length - k)).2 by omega) a b
    have l1 := (bU_le (n := m + 1) (by omega)).1
    have l2 := (bV_le (n := cs.length - k) (by omega)).2
    have := Int.mul_le_mul l1 l2 (by omega) (by omega)
    exact h3.mono (by omega)
/-- a transfer is not 0 -/
theorem tnum_nz (h : Lad cs xs) {m n : Nat} (hm : m < cs.length) (hn : n < cs.length) : ¬ ((tnum cs xs m n).1 = 0 ∧ (tnum cs xs m n).2 = 0) := by
  have a := fwd_nz (fun k hk => (h.xg k hk).1) (min m n) (by omega)
  have b : 1 ≤ nrm (vV cs xs (max m n + 1)) := nrm_pos (h.drop _)
  have e : nrm (tnum cs xs m n) = nrm (fwd cs xs (min m n + 1)).1 * nrm (vV cs xs (max m n + 1)) := nmul_nrm _ _
  have := Int.mul_le_mul a b (by omega) (by omega)
  rintro ⟨h1, h2⟩
  simp only [nrm, h1, h2] at e
  simp only [nrm] at this
  omega
theorem v0_nz (h : Lad cs xs) : ¬ ((vV cs xs 0).1 = 0 ∧ (vV cs xs 0).2 = 0) := by
  have b : 1 ≤ nrm (vV cs xs 0) := nrm_pos (h.drop 0)
  rintro ⟨h1, h2⟩
  simp only [nrm, h1, h2] at b
  omega
/-- what a reduced quotient is -/
theorem redV_spec {a b c d : Int} (h : ¬ (a = 0 ∧ b = 0)) : ∃ g, g ≠ 0 ∧ (g.natAbs ∣ c.natAbs ∧ g.natAbs ∣ d.natAbs) ∧ a = g * (redV a b c d).1 ∧ b = g * (redV a b c d).2.1 ∧ c = g * (redV a b c d).2.2.1 ∧ d = g * (redV a b c d).2.2.2 := by
  have hp := gcd4_pos c d h
  have d1 : (gcd4 a b c d) ∣ a.natAbs := Nat.dvd_trans (Nat.gcd_dvd_left _ _) (Nat.gcd_dvd_left _ _)
  have d2 : (gcd4 a b c d) ∣ b.natAbs := Nat.dvd_trans (Nat.gcd_dvd_left _ _) (Nat.gcd_dvd_right _ _)
  have d3 : (gcd4 a b c d) ∣ c.natAbs := Nat.dvd_trans (Nat.gcd_dvd_right _ _) (Nat.gcd_dvd_left _ _)
  have d4 : (gcd4 a b c d) ∣ d.natAbs := Nat.dvd_trans (Nat.gcd_dvd_right _ _) (Nat.gcd_dvd_right _ _)
  have ea : (sg c d (gcd4 a b c d)).natAbs = gcd4 a b c d := by
    unfold sg; split <;> omega
  have hd : ∀ x : Int, gcd4 a b c d ∣ x.natAbs → x = sg c d (gcd4 a b c d) * x.tdiv (sg c d (gcd4 a b c d)) := by
    intro x hx
    have : sg c d (gcd4 a b c d) ∣ x := Int.natAbs_dvd_natAbs.1 (by rw [ea]; exact hx)
    rw [Int.mul_tdiv_cancel' this]
  refine ⟨sg c d (gcd4 a b c d), ?_, ⟨by rw [ea]; exact d3, by rw [ea]; exact d4⟩, ?_⟩
  · intro h0
    rw [h0] at ea
    simp at ea
    omega
  · unfold redV
    rw [if_neg h]
    exact ⟨hd a d1, hd b d2, hd c d3, hd d d4⟩
end Go.Proofs.Ytagnplbfdaifkaa

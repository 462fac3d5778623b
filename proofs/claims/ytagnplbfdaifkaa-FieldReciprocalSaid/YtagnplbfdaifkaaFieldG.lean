/- Field: solutions from the input (plain). -/
import Derived.Test.YtagnplbfdaifkaaFieldE
set_option linter.unusedVariables false
set_option linter.unusedSimpArgs false
namespace Go.Proofs.Ytagnplbfdaifkaa
open Go.Abs

/-- from the input: voltage 0, current 1: the voltage ahead of node k, the current to node k -/
def fwd (cs xs : List Int) : Nat → (Int × Int) × (Int × Int)
  | 0 => ((0, 0), (1, 0))
  | k + 1 =>
    let p := fwd cs xs k
    let u : Int × Int := (p.1.1 + xs.getD k default * p.2.2, p.1.2 - xs.getD k default * p.2.1)
    (u, (p.2.1 - cs.getD k default * u.1, p.2.2 - cs.getD k default * u.2))
/-- what the solutions from both ends have in common at all nodes -/
theorem wron {cs xs : List Int} (h : xs.length = cs.length) : ∀ k, k ≤ cs.length →
    (fwd cs xs k).2.1 * (vV cs xs k).1 - (fwd cs xs k).2.2 * (vV cs xs k).2 - ((fwd cs xs k).1.1 * (vI cs xs k).1 - (fwd cs xs k).1.2 * (vI cs xs k).2) = (vV cs xs 0).1 ∧
    (fwd cs xs k).2.1 * (vV cs xs k).2 + (fwd cs xs k).2.2 * (vV cs xs k).1 - ((fwd cs xs k).1.1 * (vI cs xs k).2 + (fwd cs xs k).1.2 * (vI cs xs k).1) = (vV cs xs 0).2
  | 0, _ => by simp [fwd]
  | k + 1, hk => by
    obtain ⟨h1, h2⟩ := wron h k (by omega)
    rw [vV_succ h (show k < cs.length by omega), vI_succ h (show k < cs.length by omega)] at h1 h2
    simp only [fwd, volV, curV] at *
    generalize vV cs xs (k + 1) = v at *
    generalize vI cs xs (k + 1) = i at *
    generalize (fwd cs xs k) = p at *
    generalize vV cs xs 0 = w at *
    constructor <;> grind
theorem fwd_crs {cs xs : List Int} (hx : ∀ k, k < cs.length → 1 ≤ xs.getD k default) : ∀ k, k ≤ cs.length → 0 ≤ (fwd cs xs k).1.1 * (fwd cs xs k).2.2 - (fwd cs xs k).1.2 * (fwd cs xs k).2.1
  | 0, _ => by simp [fwd]
  | k + 1, hk => by
    have ih := fwd_crs hx k (by omega)
    have e : (fwd cs xs (k + 1)).1.1 * (fwd cs xs (k + 1)).2.2 - (fwd cs xs (k + 1)).1.2 * (fwd cs xs (k + 1)).2.1 = ((fwd cs xs k).1.1 * (fwd cs xs k).2.2 - (fwd cs xs k).1.2 * (fwd cs xs k).2.1) + xs.getD k default * nrm (fwd cs xs k).2 := by
      simp only [fwd, nrm]; grind
    have := Int.mul_nonneg (show 0 ≤ xs.getD k default by have := hx k (by omega); omega) (nrm_nn (fwd cs xs k).2)
    omega
theorem fwd_nz {cs xs : List Int} (hx : ∀ k, k < cs.length → 1 ≤ xs.getD k default) : ∀ k, k < cs.length → 1 ≤ nrm (fwd cs xs (k + 1)).1
  | 0, h0 => by
    have h1 := hx 0 h0
    have := Int.mul_le_mul h1 h1 (by omega) (by omega)
    simp only [fwd, nrm]
    have e : (0 + xs.getD 0 default * 0) * (0 + xs.getD 0 default * 0) + (0 - xs.getD 0 default * 1) * (0 - xs.getD 0 default * 1) = xs.getD 0 default * xs.getD 0 default := by grind
    omega
  | k + 1, hk => by
    have ih := fwd_nz hx k (by omega)
    have h1 := hx (k + 1) hk
    have hc := fwd_crs hx (k + 1) (by omega)
    have e : nrm (fwd cs xs (k + 1 + 1)).1 = nrm (fwd cs xs (k + 1)).1 + (xs.getD (k + 1) default * xs.getD (k + 1) default) * nrm (fwd cs xs (k + 1)).2 + (2 * xs.getD (k + 1) default) * ((fwd cs xs (k + 1)).1.1 * (fwd cs xs (k + 1)).2.2 - (fwd cs xs (k + 1)).1.2 * (fwd cs xs (k + 1)).2.1) := by
      rw [fwd]
      generalize fwd cs xs (k + 1) = p
      simp only [nrm]; grind
    have e1 := Int.mul_nonneg (sqI (xs.getD (k + 1) default)) (nrm_nn (fwd cs xs (k + 1)).2)
    have e2 := Int.mul_nonneg (show 0 ≤ 2 * xs.getD (k + 1) default by omega) hc
    omega
/-- sizes, from the input -/
def bU : Nat → Int × Int
  | 0 => (0, 1)
  | k + 1 => ((bU k).1 + 32 * (bU k).2, (bU k).2 + 4 * ((bU k).1 + 32 * (bU k).2))
theorem bU_pos : ∀ k, 0 ≤ (bU k).1 ∧ 1 ≤ (bU k).2
  | 0 => by decide
  | k + 1 => by have := bU_pos k; simp only [bU]; omega
theorem fwd_bd {cs xs : List Int} (hx : ∀ k, k < cs.length → 1 ≤ xs.getD k default ∧ xs.getD k default ≤ 32) (hc : ∀ k, k < cs.length → 1 ≤ cs.getD k default ∧ cs.getD k default ≤ 4) :
    ∀ k, k ≤ cs.length → nrm (fwd cs xs k).1 ≤ (bU k).1 * (bU k).1 ∧ nrm (fwd cs xs k).2 ≤ (bU k).2 * (bU k).2
  | 0, _ => by simp [fwd, bU, nrm]
  | k + 1, hk => by
    obtain ⟨h1, h2⟩ := fwd_bd hx hc k (by omega)
    have hp := bU_pos k
    have x1 := hx k (by omega)
    have c1 := hc k (by omega)
    have e1 := addLe hp.1 (show 0 ≤ 32 * (bU k).2 by omega) h1 (scaleLe (c := xs.getD k default) (C := 32) (a := (-(fwd cs xs k).2.1, -(fwd cs xs k).2.2)) (A := (bU k).2) (by omega) x1.2 (by simpa only [nrm, Int.neg_mul_neg] using h2)).2
    have f1 : ((fwd cs xs k).1.1 + -(xs.getD k default * -(fwd cs xs k).2.2), (fwd cs xs k).1.2 + xs.getD k default * -(fwd cs xs k).2.1) = (fwd cs xs (k + 1)).1 := by
      simp only [fwd]; apply Prod.ext <;> simp only [] <;> grind
    simp only [] at e1
    rw [f1] at e1
    have e2 := addLe (show 0 ≤ (bU k).2 by omega) (show 0 ≤ 4 * ((bU k).1 + 32 * (bU k).2) by omega) h2 (scaleLe (c := cs.getD k default) (C := 4) (a := (-(fwd cs xs (k + 1)).1.1, -(fwd cs xs (k + 1)).1.2)) (A := (bU k).1 + 32 * (bU k).2) (by omega) c1.2 (by simpa only [nrm, Int.neg_mul_neg] using e1)).1
    have f2 : ((fwd cs xs k).2.1 + cs.getD k default * -(fwd cs xs (k + 1)).1.1, (fwd cs xs k).2.2 + cs.getD k default * -(fwd cs xs (k + 1)).1.2) = (fwd cs xs (k + 1)).2 := by
      simp only [fwd]; apply Prod.ext <;> simp only [] <;> grind
    simp only [] at e2
    rw [f2] at e2
    exact ⟨e1, e2⟩
end Go.Proofs.Ytagnplbfdaifkaa

import Derived.Test.YtfkmbdfajpdjjaaDoorAbsChk
/- What the decompiler's proofs do at each step, said once: side conditions, conditions. -/
set_option linter.unusedVariables false
set_option linter.unusedSimpArgs false
namespace Go.Abs

theorem gA {p q : Prop} (h : q) (hp : p := by first | (refine chk_of3 ?_; decide +kernel) | assumption | decide +kernel | (show _ ≠ _; omega) | ((fail_if_success intro _); omega) | (show Eqv _ _; (simp (maxDischargeDepth := 8) [go_sem]; done)) | fail) : p ∧ q := ⟨hp, h⟩
theorem gG {c d p p' q : Prop} (hg : d → p') (h : q) (hc : c → d := by intro hq; first | exact hq | (rw [hq]; rfl) | simpa using hq | fail) (hp : p' → p := by intro h9; first | exact h9 | omega | simpa using h9 | fail) : (c → p) ∧ q := ⟨fun x => hp (hg (hc x)), h⟩
theorem gB {p q : Prop} (h : q) (hp : p := by first | (intro hq; first | exact hq.1 | exact hq | fail) | (intro hq; refine ⟨hq, ?_⟩; intro h2; first | (rw [hq]; simp [h2]; done) | (simp_all; done) | fail) | (simp +contextual; done) | fail) : p ∧ q := ⟨hp, h⟩
theorem ifP {c d : Prop} {inst : Decidable c} {α : Type} {x y r : α} (hr : (if c then x else y) = r) (hd : d) (h : d → c := by intro hc; first | exact hc | (rw [hc]; rfl) | (revert hc; simp; done) | simpa using hc | (simp at hc ⊢; omega) | (simp_all; done) | fail) : x = r := by
  rw [← hr, if_pos (h hd)]
theorem ifN {c d : Prop} {inst : Decidable c} {α : Type} {x y r : α} (hr : (if c then x else y) = r) (hd : d) (h : d → ¬ c := by intro hc; first | exact hc | (rw [hc]; rfl) | (revert hc; simp; done) | simpa using hc | (simp at hc ⊢; omega) | (simp_all; done) | fail) : y = r := by
  rw [← hr, if_neg (h hd)]
theorem ifP1 {σ ρ : Type} {nx : σ → Prop} {G : ρ → Prop} {c d : Prop} {inst : Decidable c} {x y : Ctl σ ρ} (hr : goodC nx G (if c then x else y)) (hd : d) (h : d → c := by intro hc; first | exact hc | (rw [hc]; rfl) | (revert hc; simp; done) | simpa using hc | (simp at hc ⊢; omega) | (simp_all; done) | fail) : goodC nx G x := by
  rwa [if_pos (h hd)] at hr
theorem ifN1 {σ ρ : Type} {nx : σ → Prop} {G : ρ → Prop} {c d : Prop} {inst : Decidable c} {x y : Ctl σ ρ} (hr : goodC nx G (if c then x else y)) (hd : d) (h : d → ¬ c := by intro hc; first | exact hc | (rw [hc]; rfl) | (revert hc; simp; done) | simpa using hc | (simp at hc ⊢; omega) | (simp_all; done) | fail) : goodC nx G y := by
  rwa [if_neg (h hd)] at hr
end Go.Abs

/- Steel: errors of curves (plain). -/
import Derived.Test.YtfkmbdfajpdjjaaGreatDoorSteelT
set_option linter.unusedVariables false
set_option linter.unusedSimpArgs false
namespace Go.Proofs.YtfkmbdfajpdjjaaGreatDoor
open Go.Abs

theorem iter_allM {σ τ : Type} (n : Nat) (hn : n < 1000000000) (mk : Int → σ → τ) (B : τ → Ctl τ Bool) (I : σ → Prop) (step : ∀ (i : Nat) (s : σ), i < n → I s → ∃ s', B (mk (i : Int) s) = .next (mk ((i : Int) + 1) s') ∧ I s')
    (stop : ∀ s, I s → B (mk (n : Int) s) = .out (some true)) (s0 : σ) (h0 : I s0) : iterC B 1000000000 (mk 0 s0) = some true := by
  have key : ∀ (k i fuel : Nat) (s : σ), i + k = n → k < fuel → I s → iterC B fuel (mk (i : Int) s) = some true := by
    intro k
    induction k with
    | zero =>
      intro i fuel s hi hf hs
      obtain ⟨m, rfl⟩ : ∃ m, fuel = m + 1 := ⟨fuel - 1, by omega⟩
      obtain rfl : i = n := by omega
      simp only [iterC, stop s hs]
    | succ k ih =>
      intro i fuel s hi hf hs
      obtain ⟨m, rfl⟩ : ∃ m, fuel = m + 1 := ⟨fuel - 1, by omega⟩
      obtain ⟨s', h1, h2⟩ := step i s (by omega) hs
      simp only [iterC, h1]
      exact ih (i + 1) m s' (by omega) (by omega) h2
  exact key n 0 1000000000 s0 (by omega) hn h0
def kelE (k : Int) : Int := if inR k 1 3000 then 0 else 2
def curveE (l : List Int) : Int := if 200 < l.length then 8 else firstV (l.map kelE)
theorem fz {l : List Int} (h : firstV l = 0) : ∀ x ∈ l, x = 0 := by
  induction l with
  | nil => intro x hx; cases hx
  | cons y l ih =>
    unfold firstV at h
    split at h
    · rename_i hy
      intro x hx
      rcases List.mem_cons.1 hx with rfl | hx
      · exact hy
      · exact ih h x hx
    · rename_i hy; exact absurd h hy
theorem curve_ok {l : List Int} (h : curveE l = 0) : l.length ≤ 200 ∧ ∀ k ∈ l, 1 ≤ k ∧ k ≤ 3000 := by
  unfold curveE at h
  split at h
  · exact absurd h (by decide)
  · refine ⟨by omega, fun k hk => ?_⟩
    have := fz h (kelE k) (List.mem_map.2 ⟨k, hk, rfl⟩)
    unfold kelE at this
    split at this
    · rename_i h1; exact inR_iff.1 h1
    · exact absurd this (by decide)
theorem pick_ok {x y z : Int} (h : pickE x y z = 0) : (0 ≤ x ∧ x ≤ 1000) ∧ (0 ≤ y ∧ y ≤ 1000) ∧ 0 ≤ z ∧ z ≤ 1000 := by
  unfold pickE at h
  split at h
  · rename_i h1
    simp only [Bool.and_eq_true] at h1
    exact ⟨inR_iff.1 h1.1.1, inR_iff.1 h1.1.2, inR_iff.1 h1.2⟩
  · exact absurd h (by decide)
end Go.Proofs.YtfkmbdfajpdjjaaGreatDoor

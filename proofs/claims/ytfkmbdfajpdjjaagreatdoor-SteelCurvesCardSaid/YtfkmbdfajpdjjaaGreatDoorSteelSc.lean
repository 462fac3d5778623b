/- Steel: errors of curves (plain). -/
import Derived.Test.YtfkmbdfajpdjjaaGreatDoorSteelT
set_option linter.unusedVariables false
set_option linter.unusedSimpArgs false
namespace Go.Proofs.YtfkmbdfajpdjjaaGreatDoor
open Go.Abs

def kelE (k : Int) : Int := if inR k 1 3000 then 0 else 2
def curveE (l : List Int) : Int := if 200 < l.length then 8 else firstV (l.map kelE)
theorem fz {l : List Int} (h : firstV l = 0) : ∀ x ∈ l, x = 0 := by
  induction l with
  | nil => intro x hx; cases hx
  | cons y l ih =>
    unfold firstV at h
    split at h
    · rename_i hy
      intro x hx
      rcases List.mem_cons.1 hx with rfl | hx
      · exact hy
      · exact ih h x hx
    · rename_i hy; exact absurd h hy
theorem curve_ok {l : List Int} (h : curveE l = 0) : l.length ≤ 200 ∧ ∀ k ∈ l, 1 ≤ k ∧ k ≤ 3000 := by
  unfold curveE at h
  split at h
  · exact absurd h (by decide)
  · refine ⟨by omega, fun k hk => ?_⟩
    have := fz h (kelE k) (List.mem_map.2 ⟨k, hk, rfl⟩)
    unfold kelE at this
    split at this
    · rename_i h1; exact inR_iff.1 h1
    · exact absurd this (by decide)
end Go.Proofs.YtfkmbdfajpdjjaaGreatDoor

/- Steel: the error of a curve in the reference (plain). -/
import Derived.Test.YtfkmbdfajpdjjaaGreatDoorF12
import Derived.Test.YtfkmbdfajpdjjaaGreatDoorSteelSc
set_option linter.unusedVariables false
set_option linter.unusedSimpArgs false
namespace Go.Proofs.YtfkmbdfajpdjjaaGreatDoor
open Go.Abs

theorem p32 (k : Int) : r56 k = some (if inR k 1 3000 then 0 else 2) := by
  unfold r56; rw [p87, Option.bind_some]
  cases inR k 1 3000 <;> rfl
theorem p22 (l : List Int) (hl : l.length < 1000000000) : r14 l = some (curveE l) := by
  unfold r14 curveE
  by_cases h : 200 < l.length
  · rw [if_pos h]; exact if_pos (by simp; omega)
  · rw [if_neg h]
    refine (if_neg (by simp; omega)).trans ?_
    have h := iter_list (τ := Unit) l (b14_1 l) (fun i _ => i) (fun _ _ x => if kelE x = 0 then .next () else .out (some (kelE x))) (fun _ => some 0) hl
      (fun i t hi => by
        refine (if_pos (ltN hi)).trans ((if_pos (rgN hi)).trans ?_)
        rw [show r56 (l.getD (i : Int).toNat default) = some (kelE (l.getD i default)) from p32 _, wS i (by omega)]
        show (if (kelE (l.getD i default) != 0) = true then _ else _) = _
        generalize kelE (l.getD i default) = z
        by_cases hz : z = 0
        · simp only [hz, if_true, mapC]; rfl
        · simp only [if_neg hz, mapC]; exact if_pos (by simpa using hz))
      (fun t => if_neg (by simp)) ()
    rw [h]
    have key : ∀ (r : List Int) (i : Int), foldC (fun _ _ x => if kelE x = 0 then Ctl.next () else .out (some (kelE x))) (fun _ : Unit => some 0) i r () = some (firstV (r.map kelE)) := by
      intro r
      induction r with
      | nil => intro i; rfl
      | cons x r ih =>
        intro i
        by_cases hx : kelE x = 0
        · simp only [foldC, hx, if_true, List.map_cons, firstV]; exact ih _
        · simp only [foldC, if_neg hx, List.map_cons, firstV]
    exact key l 0
end Go.Proofs.YtfkmbdfajpdjjaaGreatDoor

/- Steel: a valid box holds a state; errors of ranges (plain). -/
import Derived.Test.YtfkmbdfajpdjjaaGreatDoorSteelBr
set_option linter.unusedVariables false
set_option linter.unusedSimpArgs false
namespace Go.Proofs.YtfkmbdfajpdjjaaGreatDoor
open Go.Abs

abbrev B15 := Int × Int × Int × Int × Int × Int × Int × Int × Int × Int × Int × Int × Int × Int × Int
abbrev t15 (x : BxV) (e : Int) : B15 := (x.pl, x.ph, x.al, x.ah, x.bl, x.bh, x.ml, x.mh, x.wl, x.wh, x.gl, x.gh, x.tl, x.th, e)
abbrev z15 (e : Int) : B15 := (0, 0, 0, 0, 0, 0, 0, 0, 0, 0, 0, 0, 0, 0, e)
theorem bi_of {b : BxV} (h : boxE b = 0) : BI b := by
  unfold boxE at h
  simp only [firstV] at h
  have key : ∀ {x y : Int}, (if x = 0 then y else x) = 0 → x = 0 ∧ y = 0 := fun {x y} h => by
    by_cases hx : x = 0
    · rw [if_pos hx] at h; exact ⟨hx, h⟩
    · rw [if_neg hx] at h; exact absurd h hx
  obtain ⟨h1, h⟩ := key h
  obtain ⟨h2, h⟩ := key h
  obtain ⟨h3, h⟩ := key h
  obtain ⟨h4, h⟩ := key h
  obtain ⟨h5, h⟩ := key h
  obtain ⟨h6, h⟩ := key h
  obtain ⟨h7, h⟩ := key h
  obtain ⟨h8, -⟩ := key h
  have h1 := rE_ok h1; have h2 := rE_ok h2; have h3 := rE_ok h3; have h4 := rE_ok h4; have h5 := rE_ok h5; have h6 := rE_ok h6; have h7 := rE_ok h7
  have h8 : b.pl + b.al + b.bl + b.ml ≤ 1000000 ∧ 1000000 ≤ b.ph + b.ah + b.bh + b.mh := by
    by_cases h9 : b.pl + b.al + b.bl + b.ml ≤ 1000000 ∧ 1000000 ≤ b.ph + b.ah + b.bh + b.mh
    · exact h9
    · rw [if_neg h9] at h8; exact absurd h8 (by decide)
  obtain ⟨L, hL⟩ : ∃ L, L = 1000000 - b.pl - b.al - b.bl - b.ml := ⟨_, rfl⟩
  obtain ⟨a0, q0⟩ : ∃ a0, a0 = capV (b.ph - b.pl) L := ⟨_, rfl⟩
  obtain ⟨a1, q1⟩ : ∃ a1, a1 = capV (b.ah - b.al) (L - a0) := ⟨_, rfl⟩
  obtain ⟨a2, q2⟩ : ∃ a2, a2 = capV (b.bh - b.bl) (L - a0 - a1) := ⟨_, rfl⟩
  unfold capV at q0 q1 q2
  refine ⟨⟨⟨by omega, by omega⟩, ⟨by omega, by omega⟩, ⟨by omega, by omega⟩, ⟨by omega, by omega⟩, ⟨by omega, by omega⟩, ⟨by omega, by omega⟩, ⟨by omega, by omega⟩⟩, b.pl + a0, b.al + a1, b.bl + a2, b.ml + (L - a0 - a1 - a2), b.wl, b.gl, b.tl, ⟨⟨by omega, by omega⟩, ⟨by omega, by omega⟩, ⟨by omega, by omega⟩, ⟨by omega, by omega⟩, ⟨by omega, by omega⟩, ⟨by omega, by omega⟩, ⟨by omega, by omega⟩, by omega⟩, ⟨⟨by omega, by omega⟩, ⟨by omega, by omega⟩, ⟨by omega, by omega⟩, ⟨by omega, by omega⟩, ⟨by omega, by omega⟩, ⟨by omega, by omega⟩, ⟨by omega, by omega⟩⟩⟩
theorem z61 (l : List (Int × Int)) (hl : l.length < 1000000000) : r61 l = some (rangsE l) := by
  unfold r61 rangsE
  by_cases h : 200 < l.length
  · rw [if_pos h]; exact if_pos (by simp; omega)
  · rw [if_neg h]
    refine (if_neg (by simp; omega)).trans ?_
    have h := iter_list (τ := Unit) l (b61_1 l) (fun i _ => i) (fun _ _ x => if rangE x.1 x.2 = 0 then .next () else .out (some (rangE x.1 x.2))) (fun _ => some 0) hl
      (fun i t hi => by
        refine (if_pos (ltN hi)).trans ((if_pos (rgN hi)).trans ?_)
        rw [p103, wS i (by omega), Int.toNat_natCast]
        show (if (rangE (l.getD i default).1 (l.getD i default).2 != 0) = true then _ else _) = _
        generalize rangE (l.getD i default).1 (l.getD i default).2 = z
        by_cases hz : z = 0
        · simp only [hz, if_true, mapC]; rfl
        · simp only [if_neg hz, mapC]; exact if_pos (by simpa using hz))
      (fun t => if_neg (by simp)) ()
    rw [h]
    have key : ∀ (r : List (Int × Int)) (i : Int), foldC (fun _ _ x => if rangE x.1 x.2 = 0 then Ctl.next () else .out (some (rangE x.1 x.2))) (fun _ : Unit => some 0) i r () = some (firstV (r.map fun x => rangE x.1 x.2)) := by
      intro r
      induction r with
      | nil => intro i; rfl
      | cons x r ih =>
        intro i
        by_cases hx : rangE x.1 x.2 = 0
        · simp only [foldC, hx, if_true, List.map_cons, firstV]; exact ih _
        · simp only [foldC, if_neg hx, List.map_cons, firstV]
    exact key l 0
theorem z31 (l : List (Int × Int)) (h : l.length < 1000000000) : r31 l = some l := by
  unfold r31; rw [if_pos ⟨by omega, by omega⟩]
end Go.Proofs.YtfkmbdfajpdjjaaGreatDoor

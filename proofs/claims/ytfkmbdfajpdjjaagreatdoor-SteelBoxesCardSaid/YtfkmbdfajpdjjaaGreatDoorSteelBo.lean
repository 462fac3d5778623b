/- SteelBoxes as a plain law. -/
import Derived.Test.YtfkmbdfajpdjjaaGreatDoorF09
import Derived.Test.YtfkmbdfajpdjjaaGreatDoorSteelBr
set_option linter.unusedVariables false
set_option linter.unusedSimpArgs false
namespace Go.Proofs.YtfkmbdfajpdjjaaGreatDoor
open Go.Abs

abbrev B15 := Int × Int × Int × Int × Int × Int × Int × Int × Int × Int × Int × Int × Int × Int × Int
abbrev t15 (x : BxV) (e : Int) : B15 := (x.pl, x.ph, x.al, x.ah, x.bl, x.bh, x.ml, x.mh, x.wl, x.wh, x.gl, x.gh, x.tl, x.th, e)
abbrev z15 (e : Int) : B15 := (0, 0, 0, 0, 0, 0, 0, 0, 0, 0, 0, 0, 0, 0, e)
theorem bi_of {b : BxV} (h : boxE b = 0) : BI b := by
  unfold boxE at h
  simp only [firstV] at h
  have key : ∀ {x y : Int}, (if x = 0 then y else x) = 0 → x = 0 ∧ y = 0 := fun {x y} h => by
    by_cases hx : x = 0
    · rw [if_pos hx] at h; exact ⟨hx, h⟩
    · rw [if_neg hx] at h; exact absurd h hx
  obtain ⟨h1, h⟩ := key h
  obtain ⟨h2, h⟩ := key h
  obtain ⟨h3, h⟩ := key h
  obtain ⟨h4, h⟩ := key h
  obtain ⟨h5, h⟩ := key h
  obtain ⟨h6, h⟩ := key h
  obtain ⟨h7, h⟩ := key h
  obtain ⟨h8, -⟩ := key h
  have h1 := rE_ok h1; have h2 := rE_ok h2; have h3 := rE_ok h3; have h4 := rE_ok h4; have h5 := rE_ok h5; have h6 := rE_ok h6; have h7 := rE_ok h7
  have h8 : b.pl + b.al + b.bl + b.ml ≤ 1000000 ∧ 1000000 ≤ b.ph + b.ah + b.bh + b.mh := by
    by_cases h9 : b.pl + b.al + b.bl + b.ml ≤ 1000000 ∧ 1000000 ≤ b.ph + b.ah + b.bh + b.mh
    · exact h9
    · rw [if_neg h9] at h8; exact absurd h8 (by decide)
  obtain ⟨L, hL⟩ : ∃ L, L = 1000000 - b.pl - b.al - b.bl - b.ml := ⟨_, rfl⟩
  obtain ⟨a0, q0⟩ : ∃ a0, a0 = capV (b.ph - b.pl) L := ⟨_, rfl⟩
  obtain ⟨a1, q1⟩ : ∃ a1, a1 = capV (b.ah - b.al) (L - a0) := ⟨_, rfl⟩
  obtain ⟨a2, q2⟩ : ∃ a2, a2 = capV (b.bh - b.bl) (L - a0 - a1) := ⟨_, rfl⟩
  unfold capV at q0 q1 q2
  refine ⟨⟨⟨by omega, by omega⟩, ⟨by omega, by omega⟩, ⟨by omega, by omega⟩, ⟨by omega, by omega⟩, ⟨by omega, by omega⟩, ⟨by omega, by omega⟩, ⟨by omega, by omega⟩⟩, b.pl + a0, b.al + a1, b.bl + a2, b.ml + (L - a0 - a1 - a2), b.wl, b.gl, b.tl, ⟨⟨by omega, by omega⟩, ⟨by omega, by omega⟩, ⟨by omega, by omega⟩, ⟨by omega, by omega⟩, ⟨by omega, by omega⟩, ⟨by omega, by omega⟩, ⟨by omega, by omega⟩, by omega⟩, ⟨⟨by omega, by omega⟩, ⟨by omega, by omega⟩, ⟨by omega, by omega⟩, ⟨by omega, by omega⟩, ⟨by omega, by omega⟩, ⟨by omega, by omega⟩, ⟨by omega, by omega⟩⟩⟩
theorem z61 (l : List (Int × Int)) (hl : l.length < 1000000000) : r61 l = some (rangsE l) := by
  unfold r61 rangsE
  by_cases h : 200 < l.length
  · rw [if_pos h]; exact if_pos (by simp; omega)
  · rw [if_neg h]
    refine (if_neg (by simp; omega)).trans ?_
    have h := iter_list (τ := Unit) l (b61_1 l) (fun i _ => i) (fun _ _ x => if rangE x.1 x.2 = 0 then .next () else .out (some (rangE x.1 x.2))) (fun _ => some 0) hl
      (fun i t hi => by
        refine (if_pos (ltN hi)).trans ((if_pos (rgN hi)).trans ?_)
        rw [p103, wS i (by omega), Int.toNat_natCast]
        show (if (rangE (l.getD i default).1 (l.getD i default).2 != 0) = true then _ else _) = _
        generalize rangE (l.getD i default).1 (l.getD i default).2 = z
        by_cases hz : z = 0
        · simp only [hz, if_true, mapC]; rfl
        · simp only [if_neg hz, mapC]; exact if_pos (by simpa using hz))
      (fun t => if_neg (by simp)) ()
    rw [h]
    have key : ∀ (r : List (Int × Int)) (i : Int), foldC (fun _ _ x => if rangE x.1 x.2 = 0 then Ctl.next () else .out (some (rangE x.1 x.2))) (fun _ : Unit => some 0) i r () = some (firstV (r.map fun x => rangE x.1 x.2)) := by
      intro r
      induction r with
      | nil => intro i; rfl
      | cons x r ih =>
        intro i
        by_cases hx : rangE x.1 x.2 = 0
        · simp only [foldC, hx, if_true, List.map_cons, firstV]; exact ih _
        · simp only [foldC, if_neg hx, List.map_cons, firstV]
    exact key l 0
theorem z31 (l : List (Int × Int)) (h : l.length < 1000000000) : r31 l = some l := by
  unfold r31; rw [if_pos ⟨by omega, by omega⟩]
section
variable {H : List (Int × Int × Int × Int)} {C : List (Int × Int × Int × Int × Int)} {Q : List (Int × Int × Int)} {T : List (Int × Int)} {a b c d : Int}
theorem e29 (hf : H.length ≤ 10 ∧ C.length ≤ 10 ∧ Q.length ≤ 10 ∧ T.length ≤ 10) {v : Int × Int} (hv : rulV H C Q T a b c d = some v) {x : BxV} {lo hi e : Int} (he : firstV [v.2, boxE x, rangE lo hi] = e) (h0 : e ≠ 0) :
    r29 H C Q T a b c d x.pl x.ph x.al x.ah x.bl x.bh x.ml x.mh x.wl x.wh x.gl x.gh x.tl x.th lo hi = some (z15 e) := by
  unfold r29
  rw [p73 hf hv, Option.bind_some, p102, Option.bind_some, p103, Option.bind_some, p67 _ (by simp), Option.bind_some, he]
  exact if_pos (by simpa using h0)
theorem e30 (hf : H.length ≤ 10 ∧ C.length ≤ 10 ∧ Q.length ≤ 10 ∧ T.length ≤ 10) {v : Int × Int} (hv : rulV H C Q T a b c d = some v) {x : BxV} {l : List (Int × Int)} (hl : l.length < 1000000000) {e : Int} (he : firstV [v.2, boxE x, rangsE l] = e) (h0 : e ≠ 0) :
    r30 H C Q T a b c d x.pl x.ph x.al x.ah x.bl x.bh x.ml x.mh x.wl x.wh x.gl x.gh x.tl x.th l = some (z15 e) := by
  unfold r30
  rw [p73 hf hv, Option.bind_some, p102, Option.bind_some, z61 l hl, Option.bind_some, p67 _ (by simp), Option.bind_some, he]
  exact if_pos (by simpa using h0)
theorem z30 (ok : RulOk H C Q T a b c d) (hf : H.length ≤ 10 ∧ C.length ≤ 10 ∧ Q.length ≤ 10 ∧ T.length ≤ 10) {v : Int × Int} (hv : rulV H C Q T a b c d = some v) (hv0 : v.2 = 0) {x : BxV} (hx : BI x) {l : List (Int × Int)} (hl : l.length < 1000000000) (h0 : rangsE l = 0) :
    r30 H C Q T a b c d x.pl x.ph x.al x.ah x.bl x.bh x.ml x.mh x.wl x.wh x.gl x.gh x.tl x.th l = some (t15 (runB H C Q T l x) 0) := by
  unfold r30
  rw [p73 hf hv, Option.bind_some, p102, Option.bind_some, z61 l hl, Option.bind_some, boxE_of hx, hv0, h0, p67 _ (by simp), Option.bind_some]
  refine (if_neg (by decide)).trans ?_
  rw [z62 ok.toKnOk hx hl (rangsE_ok h0).2]; rfl
theorem e32 (hf : H.length ≤ 10 ∧ C.length ≤ 10 ∧ Q.length ≤ 10 ∧ T.length ≤ 10) {v : Int × Int} (hv : rulV H C Q T a b c d = some v) {x : BxV} {e : Int} (he : firstV [v.2, boxE x] = e) (h0 : e ≠ 0) :
    r32 H C Q T a b c d x.pl x.ph x.al x.ah x.bl x.bh x.ml x.mh x.wl x.wh x.gl x.gh x.tl x.th = some (0, 0, e) := by
  unfold r32
  rw [p73 hf hv, Option.bind_some, p102, Option.bind_some, p67 _ (by simp), Option.bind_some, he]
  exact if_pos (by simpa using h0)
theorem boxes_core (hf : H.length ≤ 10 ∧ C.length ≤ 10 ∧ Q.length ≤ 10 ∧ T.length ≤ 10) {v : Int × Int} (hv : rulV H C Q T a b c d = some v) (x : BxV) {l : List (Int × Int)} (hl : l.length < 1000000000) (k : Int × Int) :
    j5_1 H C Q T a b c d x.pl x.ph x.al x.ah x.bl x.bh x.ml x.mh x.wl x.wh x.gl x.gh x.tl x.th l k = some true := by
  obtain ⟨lo, hi⟩ := k
  unfold j5_1
  rw [p15 a b c d hf, Option.bind_some]
  show (r29 H C Q T a b c d x.pl x.ph x.al x.ah x.bl x.bh x.ml x.mh x.wl x.wh x.gl x.gh x.tl x.th lo hi).bind (fun v6 => (r31 l).bind fun v7 => (r30 H C Q T a b c d x.pl x.ph x.al x.ah x.bl x.bh x.ml x.mh x.wl x.wh x.gl x.gh x.tl x.th v7).bind fun v8 => (r32 H C Q T a b c d x.pl x.ph x.al x.ah x.bl x.bh x.ml x.mh x.wl x.wh x.gl x.gh x.tl x.th).bind fun v9 => _) = _
  rw [z31 l hl]
  by_cases hE : v.2 = 0 ∧ boxE x = 0
  · obtain ⟨h0, hb⟩ := hE
    have ok := rul_of hv h0
    have hx := bi_of hb
    have d6 : ∃ v6, r29 H C Q T a b c d x.pl x.ph x.al x.ah x.bl x.bh x.ml x.mh x.wl x.wh x.gl x.gh x.tl x.th lo hi = some v6 ∧ (rangE lo hi ≠ 0 → v6 = z15 (rangE lo hi)) ∧
        (rangE lo hi = 0 → v6 = t15 (rangeV H C Q T lo hi x) 0 ∧ r36 H C Q T a b c d x.pl x.ph x.al x.ah x.bl x.bh x.ml x.mh x.wl x.wh x.gl x.gh x.tl x.th lo hi = some (tB (rangeV H C Q T lo hi x))) := by
      by_cases hr : rangE lo hi = 0
      · have hr2 := rangE_ok hr
        exact ⟨_, p55 ok hv h0 hx hr rfl, fun h => absurd hr h, fun _ => ⟨rfl, z36 ok.toKnOk hx hr2.1 hr2.2.1 hr2.2.2.1⟩⟩
      · exact ⟨_, e29 hf hv (e := rangE lo hi) (by simp [firstV, h0, hb]; exact fun h => h.symm) hr, fun _ => rfl, fun h => absurd h hr⟩
    have d8 : ∃ v8, r30 H C Q T a b c d x.pl x.ph x.al x.ah x.bl x.bh x.ml x.mh x.wl x.wh x.gl x.gh x.tl x.th l = some v8 ∧ (rangsE l ≠ 0 → v8 = z15 (rangsE l)) ∧
        (rangsE l = 0 → v8 = t15 (runB H C Q T l x) 0 ∧ r38 H C Q T a b c d x.pl x.ph x.al x.ah x.bl x.bh x.ml x.mh x.wl x.wh x.gl x.gh x.tl x.th l = some (tB (runB H C Q T l x))) := by
      by_cases hr : rangsE l = 0
      · exact ⟨_, z30 ok hf hv h0 hx hl hr, fun h => absurd hr h, fun _ => ⟨rfl, z38 ok.toKnOk hx hl (rangsE_ok hr).2⟩⟩
      · exact ⟨_, e30 hf hv hl (e := rangsE l) (by simp [firstV, h0, hb]; exact fun h => h.symm) hr, fun _ => rfl, fun h => absurd h hr⟩
    obtain ⟨v6, e6, c6, g6⟩ := d6
    obtain ⟨v8, e8, c8, g8⟩ := d8
    rw [e6, Option.bind_some, Option.bind_some, e8, Option.bind_some, p58 ok hv h0 hx, Option.bind_some, p56, Option.bind_some, p102, Option.bind_some]
    refine (if_neg (by simp)).trans ?_
    rw [p21 hv, Option.bind_some, h0, hb]
    refine (if_neg (by decide)).trans ?_
    have fin : ((r37 l).bind fun v14 =>
         if (v14 != 0) = true then
          some ((v8.2.2.2.2.2.2.2.2.2.2.2.2.2.2 == v14) && ((v8.1 == 0) && ((v8.2.1 == 0) && ((v8.2.2.1 == 0) && ((v8.2.2.2.1 == 0) && ((v8.2.2.2.2.1 == 0) && ((v8.2.2.2.2.2.1 == 0) && ((v8.2.2.2.2.2.2.1 == 0) && ((v8.2.2.2.2.2.2.2.1 == 0) && ((v8.2.2.2.2.2.2.2.2.1 == 0) && ((v8.2.2.2.2.2.2.2.2.2.1 == 0) && ((v8.2.2.2.2.2.2.2.2.2.2.1 == 0) && ((v8.2.2.2.2.2.2.2.2.2.2.2.1 == 0) && ((v8.2.2.2.2.2.2.2.2.2.2.2.2.1 == 0) && (v8.2.2.2.2.2.2.2.2.2.2.2.2.2.1 == 0)))))))))))))))
          else if (v8.2.2.2.2.2.2.2.2.2.2.2.2.2.2 == 0) = true → (r38 H C Q T a b c d x.pl x.ph x.al x.ah x.bl x.bh x.ml x.mh x.wl x.wh x.gl x.gh x.tl x.th l).isSome = true then
           some ((v8.2.2.2.2.2.2.2.2.2.2.2.2.2.2 == 0) && (
            let w := (r38 H C Q T a b c d x.pl x.ph x.al x.ah x.bl x.bh x.ml x.mh x.wl x.wh x.gl x.gh x.tl x.th l).getD default
            (v8.1 == w.1) && ((v8.2.1 == w.2.1) && ((v8.2.2.1 == w.2.2.1) && ((v8.2.2.2.1 == w.2.2.2.1) && ((v8.2.2.2.2.1 == w.2.2.2.2.1) && ((v8.2.2.2.2.2.1 == w.2.2.2.2.2.1) && ((v8.2.2.2.2.2.2.1 == w.2.2.2.2.2.2.1) && ((v8.2.2.2.2.2.2.2.1 == w.2.2.2.2.2.2.2.1) && ((v8.2.2.2.2.2.2.2.2.1 == w.2.2.2.2.2.2.2.2.1) && ((v8.2.2.2.2.2.2.2.2.2.1 == w.2.2.2.2.2.2.2.2.2.1) && ((v8.2.2.2.2.2.2.2.2.2.2.1 == w.2.2.2.2.2.2.2.2.2.2.1) && ((v8.2.2.2.2.2.2.2.2.2.2.2.1 == w.2.2.2.2.2.2.2.2.2.2.2.1) && ((v8.2.2.2.2.2.2.2.2.2.2.2.2.1 == w.2.2.2.2.2.2.2.2.2.2.2.2.1) && (v8.2.2.2.2.2.2.2.2.2.2.2.2.2.1 == w.2.2.2.2.2.2.2.2.2.2.2.2.2)))))))))))))))
           else none) = some true := by
      rw [p52 l hl, Option.bind_some]
      by_cases hr : rangsE l = 0
      · obtain ⟨rfl, e38⟩ := g8 hr
        rw [e38, hr]
        refine (if_neg (by decide)).trans ((if_pos (fun _ => rfl)).trans ?_)
        simp [tB]
      · rw [c8 hr]
        refine (if_pos (by simpa using hr)).trans ?_
        simp
    unfold j5_2
    refine (if_neg (by decide)).trans ?_
    rw [z34 ok hx]
    refine (if_pos (fun _ => rfl)).trans ((if_neg (by simp)).trans ?_)
    rw [p100, Option.bind_some]
    by_cases hr : rangE lo hi = 0
    · obtain ⟨rfl, e36⟩ := g6 hr
      rw [hr, e36]
      refine (if_pos (fun _ => rfl)).trans ((if_neg (by simp [tB])).trans ?_)
      exact fin
    · rw [c6 hr]
      refine (if_pos (fun h9 => ?_)).trans ((if_neg (by simp [hr])).trans ?_)
      · simp [hr] at h9
      · exact fin
  · obtain ⟨e, he, h0⟩ : ∃ e, (if v.2 = 0 then boxE x else v.2) = e ∧ e ≠ 0 := by
      refine ⟨_, rfl, ?_⟩
      by_cases h0 : v.2 = 0
      · rw [if_pos h0]; exact fun h => hE ⟨h0, h⟩
      · rw [if_neg h0]; exact h0
    have hfv : ∀ r, firstV (v.2 :: boxE x :: r) = e := fun r => by
      simp only [firstV]
      by_cases h1 : v.2 = 0
      · rw [if_pos h1] at he ⊢; rw [he, if_neg h0]
      · rw [if_neg h1] at he ⊢; exact he
    rw [e29 hf hv (hfv _) h0, Option.bind_some, Option.bind_some, e30 hf hv hl (hfv _) h0, Option.bind_some, e32 hf hv (hfv _) h0, Option.bind_some, p56, Option.bind_some, p102, Option.bind_some]
    refine (if_neg (by simp)).trans ?_
    rw [p21 hv, Option.bind_some]
    have key : j5_2 H C Q T a b c d x.pl x.ph x.al x.ah x.bl x.bh x.ml x.mh x.wl x.wh x.gl x.gh x.tl x.th l (lo, hi) (z15 e) (z15 e) (0, 0, e) e = some true := by
      unfold j5_2
      refine (if_pos (by simpa using h0)).trans ?_
      simp
    by_cases h1 : v.2 = 0
    · rw [if_pos h1] at he
      refine (if_neg (by rw [h1]; decide)).trans ?_
      rw [he]; exact key
    · rw [if_neg h1] at he
      refine (if_pos (by simpa using h1)).trans ?_
      rw [he]; exact key
end
theorem boxes (H : List (Int × Int × Int × Int)) (C : List (Int × Int × Int × Int × Int)) (Q : List (Int × Int × Int)) (T : List (Int × Int)) (a b c d x1 x2 x3 x4 x5 x6 x7 x8 x9 x10 x11 x12 x13 x14 p s e m w g t : Int) (l : List (Int × Int)) :
    r5 H C Q T a b c d x1 x2 x3 x4 x5 x6 x7 x8 x9 x10 x11 x12 x13 x14 p s e m w g t l = some true := by
  obtain ⟨v, hv⟩ := rulV_some H C Q T a b c d
  unfold r5
  rw [awakeS, Option.bind_some]
  refine (if_neg (by decide)).trans ?_
  rw [p13, Option.bind_some]
  by_cases hf : H.length ≤ 10 ∧ C.length ≤ 10 ∧ Q.length ≤ 10 ∧ T.length ≤ 10
  · have hf2 : (decide (H.length ≤ 10 ∧ C.length ≤ 10 ∧ Q.length ≤ 10 ∧ T.length ≤ 10)) = true := decide_eq_true hf
    rw [hf2]
    have e26 : r26 (l.length : Int) = some (decide (l.length ≤ 30 ∨ 200 < l.length ∧ l.length ≤ 202)) := by
      unfold r26
      congr 1
      rw [Bool.eq_iff_iff]
      simp only [Bool.or_eq_true, Bool.and_eq_true, decide_eq_true_eq]
      omega
    rw [e26]
    refine (if_pos (fun _ => rfl)).trans ?_
    by_cases hs : l.length ≤ 30 ∨ 200 < l.length ∧ l.length ≤ 202
    · refine (if_neg (by simp [hs])).trans ?_
      have hl : l.length < 1000000000 := by omega
      have rest : (if (decide ((l.length : Int) > 0)) = true then
            if 0 ≤ 0 ∧ 0 < (l.length : Int) then
             j5_1 H C Q T a b c d x1 x2 x3 x4 x5 x6 x7 x8 x9 x10 x11 x12 x13 x14 l ((l.getD 0 default).1, (l.getD 0 default).2)
             else none
            else j5_1 H C Q T a b c d x1 x2 x3 x4 x5 x6 x7 x8 x9 x10 x11 x12 x13 x14 l (300, 310)) = some true := by
        by_cases hp : 0 < l.length
        · refine (if_pos (by simpa using hp)).trans ((if_pos ⟨by omega, by omega⟩).trans ?_)
          exact boxes_core hf hv ⟨x1, x2, x3, x4, x5, x6, x7, x8, x9, x10, x11, x12, x13, x14⟩ hl _
        · refine (if_neg (by simpa using hp)).trans ?_
          exact boxes_core hf hv ⟨x1, x2, x3, x4, x5, x6, x7, x8, x9, x10, x11, x12, x13, x14⟩ hl _
      have e28 : r28 p s e m w g t = some (p, p, s, s, e, e, m, m, w, w, g, g, t, t) := rfl
      by_cases hst : staE p s e m w g t = 0
      · rw [p53 (st_of hst), Option.bind_some, p18, Option.bind_some, hst, e28]
        refine (if_pos (fun _ => rfl)).trans ((if_neg (by simp)).trans ?_)
        exact rest
      · have e27 : r27 p s e m w g t = some (z15 (staE p s e m w g t)) := by
          unfold r27
          rw [p17, Option.bind_some]
          exact if_pos (by simpa using hst)
        rw [e27, Option.bind_some, p18, Option.bind_some, e28]
        refine (if_pos (fun _ => rfl)).trans ((if_neg (by simp [hst])).trans ?_)
        exact rest
    · exact if_pos (by simp [hs])
  · have hf2 : (decide (H.length ≤ 10 ∧ C.length ≤ 10 ∧ Q.length ≤ 10 ∧ T.length ≤ 10)) = false := decide_eq_false hf
    rw [hf2]
    refine (if_pos (fun h => by cases h)).trans (if_pos rfl)
end Go.Proofs.YtfkmbdfajpdjjaaGreatDoor

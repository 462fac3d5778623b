/- Steel: the boxes of the reference are the plain ones; runs of boxes (plain). -/
import Derived.Test.YtfkmbdfajpdjjaaGreatDoorF08
import Derived.Test.YtfkmbdfajpdjjaaGreatDoorSteelEn
import Derived.Test.YtfkmbdfajpdjjaaGreatDoorSteelIx
set_option linter.unusedVariables false
set_option linter.unusedSimpArgs false
namespace Go.Proofs.YtfkmbdfajpdjjaaGreatDoor
open Go.Abs


theorem capW_f (n : Int) : (if n < 1000000 then n else 1000000) = whV n := by unfold whV; omega
theorem gr_if {α : Type} (K : Int → Option α) {n X gr : Int} {c : Prop} [Decidable c] (hc : c) (h1 : 0 ≤ n) (h2 : n ≤ 100000) (h3 : 0 ≤ gr) (h4 : gr ≤ 1000000) :
    (if (decide (X > 0)) = true then (if c then K (if IntKind.i64.wrap (n + gr) < 100000 then IntKind.i64.wrap (n + gr) else 100000) else none) else K n) = K (grV n X gr) := by
  rw [wI (a := n + gr) (by omega) (by omega), if_pos hc]
  unfold grV
  by_cases h : X > 0
  · rw [if_pos (by simpa using h), if_pos h]
    congr 1; omega
  · rw [if_neg (by simpa using h), if_neg h]
    congr 1; omega
section
variable {H : List (Int × Int × Int × Int)} {C : List (Int × Int × Int × Int × Int)} {Q : List (Int × Int × Int)} {T : List (Int × Int)} {a b c d : Int}
theorem j71_4_eq (ok : KnOk H C Q T) {x : BxV} (h : BI x) (k u v : Int) : j71_4 H C Q T a b c d x.pl x.ph x.gl x.gh x.tl x.th k (u, v, x.bl, x.bh, x.wl, x.wh) (x.al, x.ah, x.ml, x.mh) = some (tB (temB (tempAt T k) x)) := by
  have lT := ok.lT
  obtain ⟨z, hz, hh⟩ := q91 (H := H) (C := C) (Q := Q) (a := a) (b := b) (c := c) (d := d) (T := T) k (by omega)
  unfold j71_4
  rw [hz, Option.bind_some]
  rcases hh with ⟨h1, rfl⟩ | ⟨j, hj, rfl, h1⟩
  · rw [h1]; exact if_neg (by decide)
  · have hy := ok.kt _ (getD_mem hj)
    obtain ⟨⟨rp, rs, re, rm, rw_, rg, rt⟩, p, s, e, m, w, g, t, -, ⟨ip, is, ie, im, iw, ig, it⟩⟩ := h
    rw [h1]
    refine (if_pos (by simp)).trans ((if_pos ⟨by omega, by omega⟩).trans ((if_pos ⟨by omega, by omega⟩).trans ?_))
    rw [Int.toNat_natCast]
    generalize T.getD j default = y at hy
    rw [wI (a := x.tl + y.2) (by omega) (by omega), wI (a := x.th + y.2) (by omega) (by omega), capW_f, capW_f]
    rfl
theorem j71_3_eq (ok : KnOk H C Q T) {x : BxV} (h : BI x) (k : Int) : j71_3 H C Q T a b c d x.pl x.ph x.ml x.mh x.gl x.gh x.tl x.th k (x.al, x.ah, x.bl, x.bh, x.wl, x.wh) = some (tB (temB (tempAt T k) (colB (coldAt Q k) x))) := by
  have lQ := ok.lQ
  obtain ⟨z, hz, hh⟩ := q35 (H := H) (C := C) (Q := Q) (a := a) (b := b) (c := c) (d := d) (T := T) k (by omega)
  unfold j71_3
  rw [hz, Option.bind_some]
  rcases hh with ⟨h1, rfl⟩ | ⟨j, hj, rfl, h1⟩
  · rw [h1]
    refine (if_neg (by decide)).trans ?_
    exact j71_4_eq ok h k _ _
  · have hy := ok.kq _ (getD_mem hj)
    rw [h1]
    refine (if_pos (by simp)).trans ((if_pos ⟨by omega, by omega⟩).trans ?_)
    rw [Int.toNat_natCast]
    generalize Q.getD j default = y at hy
    have hc := h.cold hy.1 hy.2.1 hy.2.2
    obtain ⟨⟨rp, rs, re, rm, rw_, rg, rt⟩, p, s, e, m, w, g, t, -, ⟨ip, is, ie, im, iw, ig, it⟩⟩ := h
    obtain ⟨d1, d2, _, _⟩ := mar_bounds (a := x.al) (m := x.ml) (sh := y.2.2) (by omega) (by omega) (by omega) (by omega) (by omega)
    obtain ⟨k1, k2, _, _⟩ := mar_bounds (a := x.ah) (m := x.mh) (sh := y.2.1) (by omega) (by omega) (by omega) (by omega) (by omega)
    show (r104 x.al x.ml y.2.1).bind (fun v10 => (r104 x.ah x.mh y.2.2).bind fun v11 => (r104 x.al x.ml y.2.2).bind fun v12 => (r104 x.ah x.mh y.2.1).bind fun v13 => _) = _
    rw [p90 (a := x.al) (m := x.ml) (sh := y.2.1) (by omega) (by omega) (by omega) (by omega) (by omega), Option.bind_some, p90 (a := x.ah) (m := x.mh) (sh := y.2.2) (by omega) (by omega) (by omega) (by omega) (by omega), Option.bind_some,
      p90 (a := x.al) (m := x.ml) (sh := y.2.2) (by omega) (by omega) (by omega) (by omega) (by omega), Option.bind_some, p90 (a := x.ah) (m := x.mh) (sh := y.2.1) (by omega) (by omega) (by omega) (by omega) (by omega), Option.bind_some]
    dsimp only
    rw [wI (a := x.al + x.ml) (by omega) (by omega), wI (a := x.ah + x.mh) (by omega) (by omega), wI (a := x.al + x.ml - marV x.al x.ml y.2.2) (by omega) (by omega), wI (a := x.ah + x.mh - marV x.ah x.mh y.2.1) (by omega) (by omega), capW_f]
    exact j71_4_eq ok hc k _ _
theorem z71 (ok : KnOk H C Q T) {x : BxV} (h : BI x) (k : Int) : r71 H C Q T a b c d x.pl x.ph x.al x.ah x.bl x.bh x.ml x.mh x.wl x.wh x.gl x.gh x.tl x.th k = some (tB (boxV H C Q T k x)) := by
  have lH := ok.lH
  have lC := ok.lC
  obtain ⟨z, hz, hh⟩ := q33 (H := H) (C := C) (Q := Q) (a := a) (b := b) (c := c) (d := d) (T := T) k (by omega)
  unfold r71 boxV
  rw [hz, Option.bind_some]
  rcases hh with ⟨h1, rfl⟩ | ⟨j, hj, rfl, h1⟩
  · rw [h1]
    refine (if_neg (by decide)).trans ?_
    obtain ⟨z, hz, hh⟩ := q34 (H := H) (C := C) (Q := Q) (a := a) (b := b) (c := c) (d := d) (T := T) k (by omega)
    rw [hz, Option.bind_some]
    rcases hh with ⟨h2, rfl⟩ | ⟨j, hj, rfl, h2⟩
    · rw [h2]
      refine (if_neg (by decide)).trans ?_
      exact j71_3_eq ok h k
    · have hy := ok.kc _ (getD_mem hj)
      rw [h2]
      refine (if_pos (by simp)).trans ((if_pos ⟨by omega, by omega⟩).trans ((if_pos ⟨by omega, by omega⟩).trans ?_))
      have hc := h.cool hy.1.1 hy.1.2.1 hy.1.2.2 hy.2.1 hy.2.2.1 hy.2.2.2
      have key : ∀ FL : Int, FL = (if whV (x.wl + (C.getD j default).2.1) = 1000000 then (C.getD j default).2.2.2.1 else 0) →
          j71_5 H C Q T a b c d x.pl x.ph x.al x.ah x.bl x.bh x.ml x.mh x.wl x.wh x.gl x.gh x.tl x.th k (j : Int) FL = some (tB (temB (tempAt T k) (colB (coldAt Q k) (coolB (C.getD j default).2.1 (C.getD j default).2.2.1 (C.getD j default).2.2.2.1 (C.getD j default).2.2.2.2 x)))) := by
        intro FL hFL
        unfold j71_5
        rw [Int.toNat_natCast]
        have e3 := j71_3_eq (a := a) (b := b) (c := c) (d := d) ok hc k
        generalize C.getD j default = y at hy hFL e3
        obtain ⟨⟨rp, rs, re, rm, rw_, rg, rt⟩, p, s, e, m, w, g, t, -, ⟨ip, is, ie, im, iw, ig, it⟩⟩ := h
        have bL : 0 ≤ FL ∧ FL ≤ 1000000 := by rw [hFL]; omega
        have fin : ∀ FH : Int, (0 ≤ FH ∧ FH ≤ 1000000) → FH = (if whV (x.wh + y.2.2.1) = 1000000 then y.2.2.2.2 else 0) →
          j71_3 H C Q T a b c d x.pl x.ph x.ml x.mh x.gl x.gh x.tl x.th k ((if 0 < IntKind.i64.wrap (x.al - FH) then IntKind.i64.wrap (x.al - FH) else 0), (if 0 < IntKind.i64.wrap (x.ah - FL) then IntKind.i64.wrap (x.ah - FL) else 0), IntKind.i64.wrap (x.bl + (if FL < x.al then FL else x.al)), (if IntKind.i64.wrap (x.bh + (if FH < x.ah then FH else x.ah)) < 1000000 then IntKind.i64.wrap (x.bh + (if FH < x.ah then FH else x.ah)) else 1000000), (if IntKind.i64.wrap (x.wl + y.2.1) < 1000000 then IntKind.i64.wrap (x.wl + y.2.1) else 1000000), (if IntKind.i64.wrap (x.wh + y.2.2.1) < 1000000 then IntKind.i64.wrap (x.wh + y.2.2.1) else 1000000)) =
            some (tB (temB (tempAt T k) (colB (coldAt Q k) (coolB y.2.1 y.2.2.1 y.2.2.2.1 y.2.2.2.2 x)))) := by
          intro FH bH hFH
          have e1 : 0 ≤ (if FH < x.ah then FH else x.ah) ∧ (if FH < x.ah then FH else x.ah) ≤ 1000000 := by omega
          have e2 : 0 ≤ (if FL < x.al then FL else x.al) ∧ (if FL < x.al then FL else x.al) ≤ 1000000 := by omega
          rw [wI (a := x.al - FH) (by omega) (by omega), wI (a := x.ah - FL) (by omega) (by omega), wI (a := x.bl + (if FL < x.al then FL else x.al)) (by omega) (by omega), wI (a := x.bh + (if FH < x.ah then FH else x.ah)) (by omega) (by omega), wI (a := x.wl + y.2.1) (by omega) (by omega), wI (a := x.wh + y.2.2.1) (by omega) (by omega), capW_f, capW_f, capW_f, posV_f, posV_f]
          have e4 : (posV (x.al - FH), posV (x.ah - FL), x.bl + (if FL < x.al then FL else x.al), whV (x.bh + (if FH < x.ah then FH else x.ah)), whV (x.wl + y.2.1), whV (x.wh + y.2.2.1)) =
              ((coolB y.2.1 y.2.2.1 y.2.2.2.1 y.2.2.2.2 x).al, (coolB y.2.1 y.2.2.1 y.2.2.2.1 y.2.2.2.2 x).ah, (coolB y.2.1 y.2.2.1 y.2.2.2.1 y.2.2.2.2 x).bl, (coolB y.2.1 y.2.2.1 y.2.2.2.1 y.2.2.2.2 x).bh, (coolB y.2.1 y.2.2.1 y.2.2.2.1 y.2.2.2.2 x).wl, (coolB y.2.1 y.2.2.1 y.2.2.2.1 y.2.2.2.2 x).wh) := by
            rw [hFL, hFH]; rfl
          rw [e4]
          exact e3
        have w1 : (if IntKind.i64.wrap (x.wh + y.2.2.1) < 1000000 then IntKind.i64.wrap (x.wh + y.2.2.1) else 1000000) = whV (x.wh + y.2.2.1) := by rw [wI (a := x.wh + y.2.2.1) (by omega) (by omega), capW_f]
        by_cases c2 : whV (x.wh + y.2.2.1) = 1000000
        · refine (if_pos (beq_iff_eq.2 (w1.trans c2))).trans ?_
          exact fin y.2.2.2.2 ⟨by omega, by omega⟩ (by rw [if_pos c2])
        · refine (if_neg (fun q => c2 (w1.symm.trans (beq_iff_eq.1 q)))).trans ?_
          exact fin 0 ⟨by omega, by omega⟩ (by rw [if_neg c2])
      have w0 : (if IntKind.i64.wrap (x.wl + (C.getD (j : Int).toNat default).2.1) < 1000000 then IntKind.i64.wrap (x.wl + (C.getD (j : Int).toNat default).2.1) else 1000000) = whV (x.wl + (C.getD j default).2.1) := by
        obtain ⟨⟨rp, rs, re, rm, rw_, rg, rt⟩, p, s, e, m, w, g, t, -, ⟨ip, is, ie, im, iw, ig, it⟩⟩ := h
        rw [Int.toNat_natCast, wI (a := x.wl + (C.getD j default).2.1) (by omega) (by omega), capW_f]
      by_cases c1 : whV (x.wl + (C.getD j default).2.1) = 1000000
      · refine (if_pos (beq_iff_eq.2 (w0.trans c1))).trans ?_
        exact key _ (by rw [if_pos c1, Int.toNat_natCast])
      · refine (if_neg (fun q => c1 (w0.symm.trans (beq_iff_eq.1 q)))).trans ?_
        exact key 0 (by rw [if_neg c1])
  · have hy := ok.kh _ (getD_mem hj)
    rw [h1]
    refine (if_pos (by simp)).trans ((if_pos ⟨by omega, by omega⟩).trans ?_)
    obtain ⟨⟨rp, rs, re, rm, rw_, rg, rt⟩, p, s, e, m, w, g, t, -, ⟨ip, is, ie, im, iw, ig, it⟩⟩ := h
    have hi : 0 ≤ (j : Int) ∧ (j : Int) < (H.length : Int) := ⟨by omega, by omega⟩
    refine (gr_if (fun s => j71_1 H x.pl x.ph x.bl x.bh x.ml x.mh x.gh (j : Int) s) hi (n := x.gl) (gr := (H.getD (j : Int).toNat default).2.2.2) (by omega) (by omega) (by rw [Int.toNat_natCast]; omega) (by rw [Int.toNat_natCast]; omega)).trans ?_
    show j71_1 H x.pl x.ph x.bl x.bh x.ml x.mh x.gh (j : Int) _ = _
    unfold j71_1
    refine (gr_if (fun s => j71_2 H x.pl x.ph x.bl x.bh x.ml x.mh (j : Int) _ s) hi (n := x.gh) (gr := (H.getD (j : Int).toNat default).2.2.2) (by omega) (by omega) (by rw [Int.toNat_natCast]; omega) (by rw [Int.toNat_natCast]; omega)).trans ?_
    show j71_2 H x.pl x.ph x.bl x.bh x.ml x.mh (j : Int) _ _ = _
    unfold j71_2
    rw [Int.toNat_natCast]
    generalize H.getD j default = y at hy
    have hL : 0 ≤ whV (x.pl + x.bl + x.ml) ∧ whV (x.pl + x.bl + x.ml) ≤ 1000000 := by unfold whV; omega
    have hH : 0 ≤ whV (x.ph + x.bh + x.mh) ∧ whV (x.ph + x.bh + x.mh) ≤ 1000000 := by unfold whV; omega
    have hL2 : 0 ≤ posV (whV (x.pl + x.bl + x.ml) - y.2.2.1) ∧ posV (whV (x.pl + x.bl + x.ml) - y.2.2.1) ≤ 1000000 := by unfold posV; omega
    have hH2 : 0 ≤ posV (whV (x.ph + x.bh + x.mh) - y.2.1) ∧ posV (whV (x.ph + x.bh + x.mh) - y.2.1) ≤ 1000000 := by unfold posV; omega
    simp only [wI (a := x.pl + x.bl) (by omega) (by omega), wI (a := x.pl + x.bl + x.ml) (by omega) (by omega), wI (a := x.ph + x.bh) (by omega) (by omega), wI (a := x.ph + x.bh + x.mh) (by omega) (by omega), capW_f,
      wI (a := whV (x.pl + x.bl + x.ml) - y.2.2.1) (by omega) (by omega), wI (a := whV (x.ph + x.bh + x.mh) - y.2.1) (by omega) (by omega), posV_f, wI (a := 1000000 - posV (whV (x.pl + x.bl + x.ml) - y.2.2.1)) (by omega) (by omega), wI (a := 1000000 - posV (whV (x.ph + x.bh + x.mh) - y.2.1)) (by omega) (by omega)]
    rfl
theorem z36 (ok : KnOk H C Q T) {x : BxV} (h : BI x) {lo hi : Int} (h1 : 1 ≤ lo) (h2 : lo ≤ hi) (h3 : hi ≤ 3000) :
    r36 H C Q T a b c d x.pl x.ph x.al x.ah x.bl x.bh x.ml x.mh x.wl x.wh x.gl x.gh x.tl x.th lo hi = some (tB (rangeV H C Q T lo hi x)) := by
  unfold r36
  rw [z71 ok h, Option.bind_some, wI (a := lo + 1) (by omega) (by omega)]
  have key : ∀ (n : Nat) (i : Int) (fuel : Nat) (out : BxV), i + n = hi + 1 → 1 ≤ i → n < fuel → BI out → iterC (b36_1 H C Q T a b c d x.pl x.ph x.al x.ah x.bl x.bh x.ml x.mh x.wl x.wh x.gl x.gh x.tl x.th hi) fuel (i, tB out) = some (tB (rngB (fun k => boxV H C Q T k x) n i out)) := by
    intro n
    induction n with
    | zero =>
      intro i fuel out hi' h1' hf ho
      obtain ⟨q, rfl⟩ : ∃ q, fuel = q + 1 := ⟨fuel - 1, by omega⟩
      have : b36_1 H C Q T a b c d x.pl x.ph x.al x.ah x.bl x.bh x.ml x.mh x.wl x.wh x.gl x.gh x.tl x.th hi (i, tB out) = .out (some (tB out)) := if_neg (by simp; omega)
      simp only [iterC, this, rngB]
    | succ n ih =>
      intro i fuel out hi' h1' hf ho
      obtain ⟨q, rfl⟩ : ∃ q, fuel = q + 1 := ⟨fuel - 1, by omega⟩
      have : b36_1 H C Q T a b c d x.pl x.ph x.al x.ah x.bl x.bh x.ml x.mh x.wl x.wh x.gl x.gh x.tl x.th hi (i, tB out) = .next (i + 1, tB (hullB out (boxV H C Q T i x))) := by
        refine (if_pos (by simp; omega)).trans ?_
        show bindC (r71 H C Q T a b c d x.pl x.ph x.al x.ah x.bl x.bh x.ml x.mh x.wl x.wh x.gl x.gh x.tl x.th i) (fun v2 => _) = _
        rw [z71 ok h]
        show Ctl.next (IntKind.i64.wrap (i + 1), tB (hullB out (boxV H C Q T i x))) = _
        rw [wI (a := i + 1) (by omega) (by omega)]
      simp only [iterC, this, rngB]
      exact ih (i + 1) q _ (by omega) (by omega) (by omega) (ho.hull (h.step ok i))
  exact key (hi - lo).toNat (lo + 1) 1000000000 _ (by omega) (by omega) (by omega) (h.step ok lo)
/-- the box after several ranges -/
def runB (H : List (Int × Int × Int × Int)) (C : List (Int × Int × Int × Int × Int)) (Q : List (Int × Int × Int)) (T : List (Int × Int)) : List (Int × Int) → BxV → BxV
  | [], x => x
  | r :: l, x => runB H C Q T l (rangeV H C Q T r.1 r.2 x)
theorem BI.run (ok : KnOk H C Q T) : ∀ (l : List (Int × Int)) {x : BxV}, BI x → BI (runB H C Q T l x)
  | [], _, h => h
  | r :: l, _, h => BI.run ok l (h.range ok r.1 r.2)
theorem run_key (ok : KnOk H C Q T) {B : Int × B14 → Ctl (Int × B14) B14} (l : List (Int × Int)) (hl : l.length < 1000000000) (hr : ∀ r ∈ l, rangE r.1 r.2 = 0)
    (step : ∀ (i : Nat) (x : BxV), i < l.length → BI x → B ((i : Int), tB x) = .next ((i : Int) + 1, tB (rangeV H C Q T (l.getD i default).1 (l.getD i default).2 x))) (stop : ∀ x, B ((l.length : Int), tB x) = .out (some (tB x))) {x : BxV} (h : BI x) :
    iterC B 1000000000 (0, tB x) = some (tB (runB H C Q T l x)) := by
  have key : ∀ (k i fuel : Nat) (x : BxV), i + k = l.length → k < fuel → BI x → iterC B fuel ((i : Int), tB x) = some (tB (runB H C Q T (l.drop i) x)) := by
    intro k
    induction k with
    | zero =>
      intro i fuel x hi hf hx
      obtain ⟨n, rfl⟩ : ∃ n, fuel = n + 1 := ⟨fuel - 1, by omega⟩
      obtain rfl : i = l.length := by omega
      simp only [iterC, stop, List.drop_length, runB]
    | succ k ih =>
      intro i fuel x hi hf hx
      obtain ⟨n, rfl⟩ : ∃ n, fuel = n + 1 := ⟨fuel - 1, by omega⟩
      have hlt : i < l.length := by omega
      have hd : l.drop i = l.getD i default :: l.drop (i + 1) := by
        rw [List.drop_eq_getElem_cons hlt]; simp [List.getD_eq_getElem?_getD, hlt]
      simp only [iterC, step i x hlt hx]
      rw [hd]
      exact ih (i + 1) n _ (by omega) (by omega) (hx.range ok _ _)
  exact key l.length 0 1000000000 x (by omega) hl h
theorem z38 (ok : KnOk H C Q T) {x : BxV} (h : BI x) {l : List (Int × Int)} (hl : l.length < 1000000000) (hr : ∀ r ∈ l, rangE r.1 r.2 = 0) :
    r38 H C Q T a b c d x.pl x.ph x.al x.ah x.bl x.bh x.ml x.mh x.wl x.wh x.gl x.gh x.tl x.th l = some (tB (runB H C Q T l x)) := by
  unfold r38
  refine run_key ok l hl hr (fun i x hi hx => ?_) (fun x => if_neg (by simp)) h
  have hr2 := rangE_ok (hr _ (getD_mem hi))
  refine (if_pos (ltN hi)).trans ((if_pos (rgN hi)).trans ?_)
  show bindC (r36 H C Q T a b c d x.pl x.ph x.al x.ah x.bl x.bh x.ml x.mh x.wl x.wh x.gl x.gh x.tl x.th (l.getD i default).1 (l.getD i default).2) (fun v1 => _) = _
  rw [z36 ok hx hr2.1 hr2.2.1 hr2.2.2.1]
  show Ctl.next (IntKind.i64.wrap ((i : Int) + 1), tB (rangeV H C Q T (l.getD i default).1 (l.getD i default).2 x)) = _
  rw [wS i (by omega)]
theorem z62 (ok : KnOk H C Q T) {x : BxV} (h : BI x) {l : List (Int × Int)} (hl : l.length < 1000000000) (hr : ∀ r ∈ l, rangE r.1 r.2 = 0) :
    r62 H C Q T a b c d x.pl x.ph x.al x.ah x.bl x.bh x.ml x.mh x.wl x.wh x.gl x.gh x.tl x.th l = some (tB (runB H C Q T l x)) := by
  unfold r62
  refine run_key ok l hl hr (fun i x hi hx => ?_) (fun x => if_neg (by simp)) h
  have hr2 := rangE_ok (hr _ (getD_mem hi))
  refine (if_pos (ltN hi)).trans ((if_pos (rgN hi)).trans ?_)
  show bindC (r64 H C Q T a b c d x.pl x.ph x.al x.ah x.bl x.bh x.ml x.mh x.wl x.wh x.gl x.gh x.tl x.th (l.getD i default).1 (l.getD i default).2) (fun v1 => _) = _
  rw [p104 ok hx hr2.1 hr2.2.1 hr2.2.2.1]
  show Ctl.next (IntKind.i64.wrap ((i : Int) + 1), tB (rangeV H C Q T (l.getD i default).1 (l.getD i default).2 x)) = _
  rw [wS i (by omega)]
end
section
variable {x : BxV} {h0 h1 h2 h3 : Int}
theorem fill1r (hx : BI x) (b0 : 0 ≤ h0 ∧ h0 ≤ 2000) (b1 : 0 ≤ h1 ∧ h1 ≤ 2000) (b2 : 0 ≤ h2 ∧ h2 ≤ 2000) (b3 : 0 ≤ h3 ∧ h3 ≤ 2000) (o0 o1 o2 o3 : Int) :
    r68 x.pl x.ph x.al x.ah x.bl x.bh x.ml x.mh x.wl x.wh x.gl x.gh x.tl x.th h0 h1 h2 h3 o0 o1 o2 o3 = iterC (b68_2 x.pl x.ph x.al x.ah x.bl x.bh x.ml x.mh h0 h1 h2 h3) 1000000000 (1000000 - x.pl - x.al - x.bl - x.ml, x.pl * h0 + x.al * h1 + x.bl * h2 + x.ml * h3, 0, o0, o1, o2, o3) ∧
      (0 ≤ x.pl * h0 + x.al * h1 + x.bl * h2 + x.ml * h3 ∧ x.pl * h0 + x.al * h1 + x.bl * h2 + x.ml * h3 ≤ 8000000000) ∧ 0 ≤ 1000000 - x.pl - x.al - x.bl - x.ml ∧ 1000000 - x.pl - x.al - x.bl - x.ml ≤ 1000000 := by
  obtain ⟨⟨rp, rs, re, rm, rw_, rg, rt⟩, p, s, e, m, w, g, t, ⟨sp, sa, sb, sm, sw, sg, stt, ssum⟩, ⟨ip, is, ie, im, iw, ig, it⟩⟩ := hx
  have m0 := mul_b (x := x.pl) rp.1 (show x.pl ≤ 1000000 by omega) b0.1 b0.2
  have m1 := mul_b (x := x.al) rs.1 (show x.al ≤ 1000000 by omega) b1.1 b1.2
  have m2 := mul_b (x := x.bl) re.1 (show x.bl ≤ 1000000 by omega) b2.1 b2.2
  have m3 := mul_b (x := x.ml) rm.1 (show x.ml ≤ 1000000 by omega) b3.1 b3.2
  refine ⟨?_, ⟨by omega, by omega⟩, by omega, by omega⟩
  unfold r68
  have e0 : b68_1 x.pl x.ph x.al x.ah x.bl x.bh x.ml x.mh h0 h1 h2 h3 o0 o1 o2 o3 (1000000, 0, 0) = .next (1000000 - x.pl, x.pl * h0, 1) := by
    show Ctl.next (IntKind.i64.wrap (1000000 - x.pl), IntKind.i64.wrap (0 + IntKind.i64.wrap (x.pl * h0)), IntKind.i64.wrap (0 + 1)) = _
    rw [wI (a := 1000000 - x.pl) (by omega) (by omega), wI (a := x.pl * h0) (by omega) (by omega), wI (a := 0 + x.pl * h0) (by omega) (by omega), Int.zero_add, show IntKind.i64.wrap (0 + 1) = 1 by decide]
  have e1 : b68_1 x.pl x.ph x.al x.ah x.bl x.bh x.ml x.mh h0 h1 h2 h3 o0 o1 o2 o3 (1000000 - x.pl, x.pl * h0, 1) = .next (1000000 - x.pl - x.al, x.pl * h0 + x.al * h1, 2) := by
    show Ctl.next (IntKind.i64.wrap (1000000 - x.pl - x.al), IntKind.i64.wrap (x.pl * h0 + IntKind.i64.wrap (x.al * h1)), IntKind.i64.wrap (1 + 1)) = _
    rw [wI (a := 1000000 - x.pl - x.al) (by omega) (by omega), wI (a := x.al * h1) (by omega) (by omega), wI (a := x.pl * h0 + x.al * h1) (by omega) (by omega), show IntKind.i64.wrap (1 + 1) = 2 by decide]
  have e2 : b68_1 x.pl x.ph x.al x.ah x.bl x.bh x.ml x.mh h0 h1 h2 h3 o0 o1 o2 o3 (1000000 - x.pl - x.al, x.pl * h0 + x.al * h1, 2) = .next (1000000 - x.pl - x.al - x.bl, x.pl * h0 + x.al * h1 + x.bl * h2, 3) := by
    show Ctl.next (IntKind.i64.wrap (1000000 - x.pl - x.al - x.bl), IntKind.i64.wrap (x.pl * h0 + x.al * h1 + IntKind.i64.wrap (x.bl * h2)), IntKind.i64.wrap (2 + 1)) = _
    rw [wI (a := 1000000 - x.pl - x.al - x.bl) (by omega) (by omega), wI (a := x.bl * h2) (by omega) (by omega), wI (a := x.pl * h0 + x.al * h1 + x.bl * h2) (by omega) (by omega), show IntKind.i64.wrap (2 + 1) = 3 by decide]
  have e3 : b68_1 x.pl x.ph x.al x.ah x.bl x.bh x.ml x.mh h0 h1 h2 h3 o0 o1 o2 o3 (1000000 - x.pl - x.al - x.bl, x.pl * h0 + x.al * h1 + x.bl * h2, 3) = .next (1000000 - x.pl - x.al - x.bl - x.ml, x.pl * h0 + x.al * h1 + x.bl * h2 + x.ml * h3, 4) := by
    show Ctl.next (IntKind.i64.wrap (1000000 - x.pl - x.al - x.bl - x.ml), IntKind.i64.wrap (x.pl * h0 + x.al * h1 + x.bl * h2 + IntKind.i64.wrap (x.ml * h3)), IntKind.i64.wrap (3 + 1)) = _
    rw [wI (a := 1000000 - x.pl - x.al - x.bl - x.ml) (by omega) (by omega), wI (a := x.ml * h3) (by omega) (by omega), wI (a := x.pl * h0 + x.al * h1 + x.bl * h2 + x.ml * h3) (by omega) (by omega), show IntKind.i64.wrap (3 + 1) = 4 by decide]
  exact it4 e0 e1 e2 e3 rfl
theorem softr (hx : BI x) (b0 : 0 ≤ h0 ∧ h0 ≤ 2000) (b1 : 0 ≤ h1 ∧ h1 ≤ 2000) (b2 : 0 ≤ h2 ∧ h2 ≤ 2000) (b3 : 0 ≤ h3 ∧ h3 ≤ 2000) :
    r68 x.pl x.ph x.al x.ah x.bl x.bh x.ml x.mh x.wl x.wh x.gl x.gh x.tl x.th h0 h1 h2 h3 0 1 2 3 = some ((fillV (1000000 - x.pl - x.al - x.bl - x.ml) (x.ph - x.pl) (x.ah - x.al) (x.bh - x.bl) (x.mh - x.ml) h0 h1 h2 h3 (x.pl * h0 + x.al * h1 + x.bl * h2 + x.ml * h3)).tdiv 1000000) := by
  obtain ⟨q, hS, hL⟩ := fill1r hx b0 b1 b2 b3 0 1 2 3
  rw [q]
  obtain ⟨⟨rp, rs, re, rm, rw_, rg, rt⟩, p, s, e, m, w, g, t, -, ⟨ip, is, ie, im, iw, ig, it⟩⟩ := hx
  unfold fillV
  generalize x.pl * h0 + x.al * h1 + x.bl * h2 + x.ml * h3 = S at hS
  generalize 1000000 - x.pl - x.al - x.bl - x.ml = L at hL
  have k0 := w2 (dlo := x.pl) (dhi := x.ph) (left := L) (h := h0) (S := S) rp.1 (by omega) rp.2 hL.1 hL.2 b0.1 b0.2 (by omega) (by omega)
  have k1 := w2 (dlo := x.al) (dhi := x.ah) (left := L - capV (x.ph - x.pl) L) (h := h1) (S := S + capV (x.ph - x.pl) L * h0) rs.1 (by omega) rs.2 (by omega) (by omega) b1.1 b1.2 (by omega) (by omega)
  have k2 := w2 (dlo := x.bl) (dhi := x.bh) (left := L - capV (x.ph - x.pl) L - capV (x.ah - x.al) (L - capV (x.ph - x.pl) L)) (h := h2) (S := S + capV (x.ph - x.pl) L * h0 + capV (x.ah - x.al) (L - capV (x.ph - x.pl) L) * h1) re.1 (by omega) re.2 (by omega) (by omega) b2.1 b2.2 (by omega) (by omega)
  have k3 := w2 (dlo := x.ml) (dhi := x.mh) (left := L - capV (x.ph - x.pl) L - capV (x.ah - x.al) (L - capV (x.ph - x.pl) L) - capV (x.bh - x.bl) (L - capV (x.ph - x.pl) L - capV (x.ah - x.al) (L - capV (x.ph - x.pl) L))) (h := h3) (S := S + capV (x.ph - x.pl) L * h0 + capV (x.ah - x.al) (L - capV (x.ph - x.pl) L) * h1 + capV (x.bh - x.bl) (L - capV (x.ph - x.pl) L - capV (x.ah - x.al) (L - capV (x.ph - x.pl) L)) * h2) rm.1 (by omega) rm.2 (by omega) (by omega) b3.1 b3.2 (by omega) (by omega)
  generalize capV (x.ph - x.pl) L = a0 at k0 k1 k2 k3
  generalize capV (x.ah - x.al) (L - a0) = a1 at k1 k2 k3
  generalize capV (x.bh - x.bl) (L - a0 - a1) = a2 at k2 k3
  generalize capV (x.mh - x.ml) (L - a0 - a1 - a2) = a3 at k3
  refine it4 (s1 := (L - a0, S + a0 * h0, 1, 0, 1, 2, 3)) (s2 := (L - a0 - a1, S + a0 * h0 + a1 * h1, 2, 0, 1, 2, 3)) (s3 := (L - a0 - a1 - a2, S + a0 * h0 + a1 * h1 + a2 * h2, 3, 0, 1, 2, 3)) (s4 := (L - a0 - a1 - a2 - a3, S + a0 * h0 + a1 * h1 + a2 * h2 + a3 * h3, 4, 0, 1, 2, 3)) ?_ ?_ ?_ ?_ ?_
  · show Ctl.next (IntKind.i64.wrap (L - (if IntKind.i64.wrap (x.ph - x.pl) < L then IntKind.i64.wrap (x.ph - x.pl) else L)), IntKind.i64.wrap (S + IntKind.i64.wrap ((if IntKind.i64.wrap (x.ph - x.pl) < L then IntKind.i64.wrap (x.ph - x.pl) else L) * h0)), IntKind.i64.wrap (0 + 1), 0, 1, 2, 3) = _
    rw [k0.1, k0.2.1, show IntKind.i64.wrap (0 + 1) = 1 by decide]
  · show Ctl.next (IntKind.i64.wrap ((L - a0) - (if IntKind.i64.wrap (x.ah - x.al) < L - a0 then IntKind.i64.wrap (x.ah - x.al) else L - a0)), IntKind.i64.wrap (S + a0 * h0 + IntKind.i64.wrap ((if IntKind.i64.wrap (x.ah - x.al) < L - a0 then IntKind.i64.wrap (x.ah - x.al) else L - a0) * h1)), IntKind.i64.wrap (1 + 1), 0, 1, 2, 3) = _
    rw [k1.1, k1.2.1, show IntKind.i64.wrap (1 + 1) = 2 by decide]
  · show Ctl.next (IntKind.i64.wrap ((L - a0 - a1) - (if IntKind.i64.wrap (x.bh - x.bl) < L - a0 - a1 then IntKind.i64.wrap (x.bh - x.bl) else L - a0 - a1)), IntKind.i64.wrap (S + a0 * h0 + a1 * h1 + IntKind.i64.wrap ((if IntKind.i64.wrap (x.bh - x.bl) < L - a0 - a1 then IntKind.i64.wrap (x.bh - x.bl) else L - a0 - a1) * h2)), IntKind.i64.wrap (2 + 1), 0, 1, 2, 3) = _
    rw [k2.1, k2.2.1, show IntKind.i64.wrap (2 + 1) = 3 by decide]
  · show Ctl.next (IntKind.i64.wrap ((L - a0 - a1 - a2) - (if IntKind.i64.wrap (x.mh - x.ml) < L - a0 - a1 - a2 then IntKind.i64.wrap (x.mh - x.ml) else L - a0 - a1 - a2)), IntKind.i64.wrap (S + a0 * h0 + a1 * h1 + a2 * h2 + IntKind.i64.wrap ((if IntKind.i64.wrap (x.mh - x.ml) < L - a0 - a1 - a2 then IntKind.i64.wrap (x.mh - x.ml) else L - a0 - a1 - a2) * h3)), IntKind.i64.wrap (3 + 1), 0, 1, 2, 3) = _
    rw [k3.1, k3.2.1, show IntKind.i64.wrap (3 + 1) = 4 by decide]
  · show Ctl.out (some (IntKind.i64.wrap ((S + a0 * h0 + a1 * h1 + a2 * h2 + a3 * h3).tdiv 1000000))) = _
    have : 0 ≤ (S + a0 * h0 + a1 * h1 + a2 * h2 + a3 * h3).tdiv 1000000 ∧ (S + a0 * h0 + a1 * h1 + a2 * h2 + a3 * h3).tdiv 1000000 ≤ 10000000000 := by
      rw [Int.tdiv_eq_ediv_of_nonneg (by omega)]; omega
    rw [wI (by omega) (by omega)]
theorem hardestr (hx : BI x) (b0 : 0 ≤ h0 ∧ h0 ≤ 2000) (b1 : 0 ≤ h1 ∧ h1 ≤ 2000) (b2 : 0 ≤ h2 ∧ h2 ≤ 2000) (b3 : 0 ≤ h3 ∧ h3 ≤ 2000) :
    r68 x.pl x.ph x.al x.ah x.bl x.bh x.ml x.mh x.wl x.wh x.gl x.gh x.tl x.th h0 h1 h2 h3 3 2 1 0 = some ((fillV (1000000 - x.pl - x.al - x.bl - x.ml) (x.mh - x.ml) (x.bh - x.bl) (x.ah - x.al) (x.ph - x.pl) h3 h2 h1 h0 (x.pl * h0 + x.al * h1 + x.bl * h2 + x.ml * h3)).tdiv 1000000) := by
  obtain ⟨q, hS, hL⟩ := fill1r hx b0 b1 b2 b3 3 2 1 0
  rw [q]
  obtain ⟨⟨rp, rs, re, rm, rw_, rg, rt⟩, p, s, e, m, w, g, t, -, ⟨ip, is, ie, im, iw, ig, it⟩⟩ := hx
  unfold fillV
  generalize x.pl * h0 + x.al * h1 + x.bl * h2 + x.ml * h3 = S at hS
  generalize 1000000 - x.pl - x.al - x.bl - x.ml = L at hL
  have k0 := w2 (dlo := x.ml) (dhi := x.mh) (left := L) (h := h3) (S := S) rm.1 (by omega) rm.2 hL.1 hL.2 b3.1 b3.2 (by omega) (by omega)
  have k1 := w2 (dlo := x.bl) (dhi := x.bh) (left := L - capV (x.mh - x.ml) L) (h := h2) (S := S + capV (x.mh - x.ml) L * h3) re.1 (by omega) re.2 (by omega) (by omega) b2.1 b2.2 (by omega) (by omega)
  have k2 := w2 (dlo := x.al) (dhi := x.ah) (left := L - capV (x.mh - x.ml) L - capV (x.bh - x.bl) (L - capV (x.mh - x.ml) L)) (h := h1) (S := S + capV (x.mh - x.ml) L * h3 + capV (x.bh - x.bl) (L - capV (x.mh - x.ml) L) * h2) rs.1 (by omega) rs.2 (by omega) (by omega) b1.1 b1.2 (by omega) (by omega)
  have k3 := w2 (dlo := x.pl) (dhi := x.ph) (left := L - capV (x.mh - x.ml) L - capV (x.bh - x.bl) (L - capV (x.mh - x.ml) L) - capV (x.ah - x.al) (L - capV (x.mh - x.ml) L - capV (x.bh - x.bl) (L - capV (x.mh - x.ml) L))) (h := h0) (S := S + capV (x.mh - x.ml) L * h3 + capV (x.bh - x.bl) (L - capV (x.mh - x.ml) L) * h2 + capV (x.ah - x.al) (L - capV (x.mh - x.ml) L - capV (x.bh - x.bl) (L - capV (x.mh - x.ml) L)) * h1) rp.1 (by omega) rp.2 (by omega) (by omega) b0.1 b0.2 (by omega) (by omega)
  generalize capV (x.mh - x.ml) L = a0 at k0 k1 k2 k3
  generalize capV (x.bh - x.bl) (L - a0) = a1 at k1 k2 k3
  generalize capV (x.ah - x.al) (L - a0 - a1) = a2 at k2 k3
  generalize capV (x.ph - x.pl) (L - a0 - a1 - a2) = a3 at k3
  refine it4 (s1 := (L - a0, S + a0 * h3, 1, 3, 2, 1, 0)) (s2 := (L - a0 - a1, S + a0 * h3 + a1 * h2, 2, 3, 2, 1, 0)) (s3 := (L - a0 - a1 - a2, S + a0 * h3 + a1 * h2 + a2 * h1, 3, 3, 2, 1, 0)) (s4 := (L - a0 - a1 - a2 - a3, S + a0 * h3 + a1 * h2 + a2 * h1 + a3 * h0, 4, 3, 2, 1, 0)) ?_ ?_ ?_ ?_ ?_
  · show Ctl.next (IntKind.i64.wrap (L - (if IntKind.i64.wrap (x.mh - x.ml) < L then IntKind.i64.wrap (x.mh - x.ml) else L)), IntKind.i64.wrap (S + IntKind.i64.wrap ((if IntKind.i64.wrap (x.mh - x.ml) < L then IntKind.i64.wrap (x.mh - x.ml) else L) * h3)), IntKind.i64.wrap (0 + 1), 3, 2, 1, 0) = _
    rw [k0.1, k0.2.1, show IntKind.i64.wrap (0 + 1) = 1 by decide]
  · show Ctl.next (IntKind.i64.wrap ((L - a0) - (if IntKind.i64.wrap (x.bh - x.bl) < L - a0 then IntKind.i64.wrap (x.bh - x.bl) else L - a0)), IntKind.i64.wrap (S + a0 * h3 + IntKind.i64.wrap ((if IntKind.i64.wrap (x.bh - x.bl) < L - a0 then IntKind.i64.wrap (x.bh - x.bl) else L - a0) * h2)), IntKind.i64.wrap (1 + 1), 3, 2, 1, 0) = _
    rw [k1.1, k1.2.1, show IntKind.i64.wrap (1 + 1) = 2 by decide]
  · show Ctl.next (IntKind.i64.wrap ((L - a0 - a1) - (if IntKind.i64.wrap (x.ah - x.al) < L - a0 - a1 then IntKind.i64.wrap (x.ah - x.al) else L - a0 - a1)), IntKind.i64.wrap (S + a0 * h3 + a1 * h2 + IntKind.i64.wrap ((if IntKind.i64.wrap (x.ah - x.al) < L - a0 - a1 then IntKind.i64.wrap (x.ah - x.al) else L - a0 - a1) * h1)), IntKind.i64.wrap (2 + 1), 3, 2, 1, 0) = _
    rw [k2.1, k2.2.1, show IntKind.i64.wrap (2 + 1) = 3 by decide]
  · show Ctl.next (IntKind.i64.wrap ((L - a0 - a1 - a2) - (if IntKind.i64.wrap (x.ph - x.pl) < L - a0 - a1 - a2 then IntKind.i64.wrap (x.ph - x.pl) else L - a0 - a1 - a2)), IntKind.i64.wrap (S + a0 * h3 + a1 * h2 + a2 * h1 + IntKind.i64.wrap ((if IntKind.i64.wrap (x.ph - x.pl) < L - a0 - a1 - a2 then IntKind.i64.wrap (x.ph - x.pl) else L - a0 - a1 - a2) * h0)), IntKind.i64.wrap (3 + 1), 3, 2, 1, 0) = _
    rw [k3.1, k3.2.1, show IntKind.i64.wrap (3 + 1) = 4 by decide]
  · show Ctl.out (some (IntKind.i64.wrap ((S + a0 * h3 + a1 * h2 + a2 * h1 + a3 * h0).tdiv 1000000))) = _
    have : 0 ≤ (S + a0 * h3 + a1 * h2 + a2 * h1 + a3 * h0).tdiv 1000000 ∧ (S + a0 * h3 + a1 * h2 + a2 * h1 + a3 * h0).tdiv 1000000 ≤ 10000000000 := by
      rw [Int.tdiv_eq_ediv_of_nonneg (by omega)]; omega
    rw [wI (by omega) (by omega)]
end

section
variable {H : List (Int × Int × Int × Int)} {C : List (Int × Int × Int × Int × Int)} {Q : List (Int × Int × Int)} {T : List (Int × Int)} {a b c d : Int}
theorem z69 (ok : RulOk H C Q T a b c d) {t : Int} (h1 : 0 ≤ t) (h2 : t ≤ 1000000) : r69 H C Q T a b c d t = some (a, b, c, mHard c d t) := by
  have q1 := ok.ha; have q2 := ok.hab; have q3 := ok.hbc; have q4 := ok.hcd; have q5 := ok.hd
  unfold r69
  rw [wI (a := d - t) (by omega) (by omega)]; rfl
theorem z34 (ok : RulOk H C Q T a b c d) {x : BxV} (hx : BI x) : r34 H C Q T a b c d x.pl x.ph x.al x.ah x.bl x.bh x.ml x.mh x.wl x.wh x.gl x.gh x.tl x.th = some (bandLo a b c d x, bandHi a b c d x) := by
  have q1 := ok.ha; have q2 := ok.hab; have q3 := ok.hbc; have q4 := ok.hcd; have q5 := ok.hd
  have hx2 := hx
  obtain ⟨⟨rp, rs, re, rm, rw_, rg, rt⟩, p, s, e, m, w, g, t, -, ⟨ip, is, ie, im, iw, ig, it⟩⟩ := hx2
  have hM := mHard_b ok (t := x.th) (by omega)
  have hN := mHard_b ok (t := x.tl) (by omega)
  unfold r34
  rw [z69 ok (t := x.th) (by omega) rt.2, Option.bind_some]
  show (r68 x.pl x.ph x.al x.ah x.bl x.bh x.ml x.mh x.wl x.wh x.gl x.gh x.tl x.th a b c (mHard c d x.th) 0 1 2 3).bind _ = _
  rw [softr hx ⟨by omega, by omega⟩ ⟨by omega, by omega⟩ ⟨by omega, by omega⟩ ⟨by omega, by omega⟩, Option.bind_some, z69 ok (t := x.tl) rt.1 (by omega), Option.bind_some]
  show (r68 x.pl x.ph x.al x.ah x.bl x.bh x.ml x.mh x.wl x.wh x.gl x.gh x.tl x.th a b c (mHard c d x.tl) 3 2 1 0).bind _ = _
  rw [hardestr hx ⟨by omega, by omega⟩ ⟨by omega, by omega⟩ ⟨by omega, by omega⟩ ⟨by omega, by omega⟩, Option.bind_some]
  rfl
end
end Go.Proofs.YtfkmbdfajpdjjaaGreatDoor

/- Steel: the code's boxes are the plain ones; the error of a box, of the code and of the reference. -/
import Derived.Test.YtfkmbdfajpdjjaaGreatDoorF01
import Derived.Test.YtfkmbdfajpdjjaaGreatDoorF03
import Derived.Test.YtfkmbdfajpdjjaaGreatDoorF06
import Derived.Test.YtfkmbdfajpdjjaaGreatDoorF07
import Derived.Test.YtfkmbdfajpdjjaaGreatDoorSteelBx
import Derived.Test.YtfkmbdfajpdjjaaGreatDoorSteelSc
set_option linter.unusedVariables false
set_option linter.unusedSimpArgs false
namespace Go.Proofs.YtfkmbdfajpdjjaaGreatDoor
open Go.Abs

abbrev B14 := Int × Int × Int × Int × Int × Int × Int × Int × Int × Int × Int × Int × Int × Int
def tB (b : BxV) : B14 := (b.pl, b.ph, b.al, b.ah, b.bl, b.bh, b.ml, b.mh, b.wl, b.wh, b.gl, b.gh, b.tl, b.th)
theorem posV_f (x : Int) : (if 0 < x then x else 0) = posV x := rfl
theorem p148 (n : Int) : r114 n = some (whV n) := rfl
theorem p149 {n a k lo hi gr : Int} (h1 : 0 ≤ n) (h2 : n ≤ 1000000) (h3 : 0 ≤ gr) (h4 : gr ≤ 1000000) : r115 n a k lo hi gr = some (grV n a gr) := by
  unfold r115 grV
  rw [wI (a := n + gr) (by omega) (by omega)]
  by_cases h : a > 0
  · rw [if_pos (by simpa using h), if_pos h]
  · rw [if_neg (by simpa using h), if_neg h]
theorem p140 {b : BxV} (h : BI b) {k lo hi gr : Int} (h1 : 0 ≤ lo) (h2 : lo ≤ hi) (h3 : hi ≤ 1000000) (h4 : 0 ≤ gr) (h5 : gr ≤ 1000000) :
    r88 b.pl b.ph b.al b.ah b.bl b.bh b.ml b.mh b.wl b.wh b.gl b.gh b.tl b.th k lo hi gr = some (tB (hotB lo hi gr b)) := by
  obtain ⟨⟨rp, rs, re, rm, rw_, rg, rt⟩, p, s, e, m, w, g, t, -, ⟨ip, is, ie, im, iw, ig, it⟩⟩ := h
  unfold r88
  rw [wI (a := b.pl + b.bl) (by omega) (by omega), wI (a := b.pl + b.bl + b.ml) (by omega) (by omega), p148, Option.bind_some, wI (a := b.ph + b.bh) (by omega) (by omega), wI (a := b.ph + b.bh + b.mh) (by omega) (by omega), p148, Option.bind_some]
  have hL : 0 ≤ whV (b.pl + b.bl + b.ml) ∧ whV (b.pl + b.bl + b.ml) ≤ 1000000 := by unfold whV; omega
  have hH : 0 ≤ whV (b.ph + b.bh + b.mh) ∧ whV (b.ph + b.bh + b.mh) ≤ 1000000 := by unfold whV; omega
  simp only [wI (a := whV (b.pl + b.bl + b.ml) - hi) (by omega) (by omega), wI (a := whV (b.ph + b.bh + b.mh) - lo) (by omega) (by omega), posV_f]
  have hL2 : 0 ≤ posV (whV (b.pl + b.bl + b.ml) - hi) ∧ posV (whV (b.pl + b.bl + b.ml) - hi) ≤ 1000000 := by unfold posV; omega
  have hH2 : 0 ≤ posV (whV (b.ph + b.bh + b.mh) - lo) ∧ posV (whV (b.ph + b.bh + b.mh) - lo) ≤ 1000000 := by unfold posV; omega
  simp only [wI (a := 1000000 - posV (whV (b.pl + b.bl + b.ml) - hi)) (by omega) (by omega), wI (a := 1000000 - posV (whV (b.ph + b.bh + b.mh) - lo)) (by omega) (by omega),
    p149 (n := b.gl) (gr := gr) (show 0 ≤ b.gl by omega) (by omega) h4 h5, p149 (n := b.gh) (gr := gr) (show 0 ≤ b.gh by omega) (by omega) h4 h5, Option.bind_some]
  rfl
theorem p141 {b : BxV} (h : BI b) {k wlo whi rlo rhi : Int} (h1 : 0 ≤ wlo) (h2 : wlo ≤ whi) (h3 : whi ≤ 1000000) (g1 : 0 ≤ rlo) (g2 : rlo ≤ rhi) (g3 : rhi ≤ 1000000) :
    r90 b.pl b.ph b.al b.ah b.bl b.bh b.ml b.mh b.wl b.wh b.gl b.gh b.tl b.th k wlo whi rlo rhi = some (tB (coolB wlo whi rlo rhi b)) := by
  obtain ⟨⟨rp, rs, re, rm, rw_, rg, rt⟩, p, s, e, m, w, g, t, -, ⟨ip, is, ie, im, iw, ig, it⟩⟩ := h
  unfold r90 coolB tB
  rw [wI (a := b.wl + wlo) (by omega) (by omega), wI (a := b.wh + whi) (by omega) (by omega), p148, Option.bind_some, p148, Option.bind_some]
  have fin : ∀ FL FH : Int, (0 ≤ FL ∧ FL ≤ 1000000) → (0 ≤ FH ∧ FH ≤ 1000000) → ((r114 (IntKind.i64.wrap (b.bh + (if FH < b.ah then FH else b.ah)))).bind fun v3 =>
      some (b.pl, b.ph, (if 0 < IntKind.i64.wrap (b.al - FH) then IntKind.i64.wrap (b.al - FH) else 0), (if 0 < IntKind.i64.wrap (b.ah - FL) then IntKind.i64.wrap (b.ah - FL) else 0), IntKind.i64.wrap (b.bl + (if FL < b.al then FL else b.al)), v3, b.ml, b.mh, whV (b.wl + wlo), whV (b.wh + whi), b.gl, b.gh, b.tl, b.th)) =
      some (b.pl, b.ph, posV (b.al - FH), posV (b.ah - FL), b.bl + minV b.al FL, whV (b.bh + minV b.ah FH), b.ml, b.mh, whV (b.wl + wlo), whV (b.wh + whi), b.gl, b.gh, b.tl, b.th) := fun FL FH hL hH => by
    have e1 : 0 ≤ (if FH < b.ah then FH else b.ah) ∧ (if FH < b.ah then FH else b.ah) ≤ 1000000 := by omega
    have e2 : 0 ≤ (if FL < b.al then FL else b.al) ∧ (if FL < b.al then FL else b.al) ≤ 1000000 := by omega
    rw [wI (a := b.bh + (if FH < b.ah then FH else b.ah)) (by omega) (by omega), p148, Option.bind_some, wI (a := b.al - FH) (by omega) (by omega), wI (a := b.ah - FL) (by omega) (by omega), wI (a := b.bl + (if FL < b.al then FL else b.al)) (by omega) (by omega)]
    rfl
  by_cases c1 : whV (b.wl + wlo) = 1000000 <;> by_cases c2 : whV (b.wh + whi) = 1000000
  · refine (if_pos (beq_iff_eq.2 c1)).trans ((if_pos (beq_iff_eq.2 c2)).trans ((fin rlo rhi (by omega) (by omega)).trans ?_))
    rw [if_pos c1, if_pos c2]
  · refine (if_pos (beq_iff_eq.2 c1)).trans ((if_neg (fun q => c2 (beq_iff_eq.1 q))).trans ((fin rlo 0 (by omega) (by omega)).trans ?_))
    rw [if_pos c1, if_neg c2]
  · refine (if_neg (fun q => c1 (beq_iff_eq.1 q))).trans ((if_pos (beq_iff_eq.2 c2)).trans ((fin 0 rhi (by omega) (by omega)).trans ?_))
    rw [if_neg c1, if_pos c2]
  · refine (if_neg (fun q => c1 (beq_iff_eq.1 q))).trans ((if_neg (fun q => c2 (beq_iff_eq.1 q))).trans ((fin 0 0 (by omega) (by omega)).trans ?_))
    rw [if_neg c1, if_neg c2]
theorem p150 {a m sh : Int} (h1 : 0 ≤ a) (h2 : 0 ≤ m) (h3 : a + m ≤ 2000000) (h4 : 0 ≤ sh) (h5 : sh ≤ 1000000) : r120 a m sh = some (a + m - marV a m sh) := by
  obtain ⟨c1, c2, _, _⟩ := mar_bounds h1 h2 h3 h4 h5
  unfold r120
  rw [p118 h1 h2 h3 h4 h5, Option.bind_some, wI (a := a + m) (by omega) (by omega), wI (a := a + m - marV a m sh) (by omega) (by omega)]
theorem p142 {b : BxV} (h : BI b) {k slo shi : Int} (h1 : 0 ≤ slo) (h2 : slo ≤ shi) (h3 : shi ≤ 1000000) :
    r92 b.pl b.ph b.al b.ah b.bl b.bh b.ml b.mh b.wl b.wh b.gl b.gh b.tl b.th k slo shi = some (tB (coldB slo shi b)) := by
  obtain ⟨⟨rp, rs, re, rm, rw_, rg, rt⟩, p, s, e, m, w, g, t, -, ⟨ip, is, ie, im, iw, ig, it⟩⟩ := h
  unfold r92 coldB tB
  rw [p118 (a := b.al) (m := b.ml) (sh := slo) (by omega) (by omega) (by omega) (by omega) (by omega), Option.bind_some, p118 (a := b.ah) (m := b.mh) (sh := shi) (by omega) (by omega) (by omega) (by omega) (by omega), Option.bind_some, p148, Option.bind_some,
    p150 (a := b.al) (m := b.ml) (sh := shi) (by omega) (by omega) (by omega) (by omega) (by omega), Option.bind_some, p150 (a := b.ah) (m := b.mh) (sh := slo) (by omega) (by omega) (by omega) (by omega) (by omega), Option.bind_some]
theorem BI.cool {b : BxV} (h : BI b) {wlo whi rlo rhi : Int} (h1 : 0 ≤ wlo) (h2 : wlo ≤ whi) (h3 : whi ≤ 1000000) (g1 : 0 ≤ rlo) (g2 : rlo ≤ rhi) (g3 : rhi ≤ 1000000) : BI (coolB wlo whi rlo rhi b) := by
  obtain ⟨r, p, s, e, m, w, g, t, st, hin⟩ := h
  obtain ⟨c1, c2, c3⟩ := cool_in r st hin h1 (Int.le_refl _) h2 h3 g1 (Int.le_refl _) g2 g3
  obtain ⟨sp, sa, sb, sm, sw, sg, stt, ssum⟩ := st
  have hf : 0 ≤ capV rlo s ∧ capV rlo s ≤ s := by unfold capV; split <;> omega
  have hw : 0 ≤ capV (w + wlo) 1000000 ∧ capV (w + wlo) 1000000 ≤ 1000000 := by unfold capV; split <;> omega
  by_cases hcap : capV (w + wlo) 1000000 = 1000000
  · exact ⟨c1, _, _, _, _, _, _, _, ⟨sp, ⟨by omega, by omega⟩, ⟨by omega, by omega⟩, sm, hw, sg, stt, by omega⟩, c2 hcap⟩
  · exact ⟨c1, _, _, _, _, _, _, _, ⟨sp, sa, sb, sm, hw, sg, stt, ssum⟩, c3 hcap⟩
theorem BI.cold {b : BxV} (h : BI b) {slo shi : Int} (h1 : 0 ≤ slo) (h2 : slo ≤ shi) (h3 : shi ≤ 1000000) : BI (coldB slo shi b) := by
  obtain ⟨r, p, s, e, m, w, g, t, st, hin⟩ := h
  have c := cold_in r st hin h1 (Int.le_refl _) h2 h3
  refine ⟨c.1, _, _, _, _, _, _, _, ?_, c.2⟩
  obtain ⟨sp, sa, sb, sm, sw, sg, stt, ssum⟩ := st
  obtain ⟨c1, c2, _, _⟩ := mar_bounds sa.1 sm.1 (show s + m ≤ 2000000 by omega) h1 (by omega)
  exact ⟨sp, ⟨by omega, by omega⟩, sb, ⟨by omega, by omega⟩, sw, sg, stt, by omega⟩
section
variable {H : List (Int × Int × Int × Int)} {C : List (Int × Int × Int × Int × Int)} {Q : List (Int × Int × Int)} {T : List (Int × Int)} {a b c d : Int}
theorem j127_2_eq (ok : KnOk H C Q T) {x : BxV} (h : BI x) (k : Int) : j52_2 H C Q T a b c d k (tB x) = some (tB (temB (tempAt T k) x)) := by
  have lT := ok.lT
  unfold j52_2
  rw [p119 _ _ _ _ _ _ _ _ k (by omega), Option.bind_some]
  cases ht : tempAt T k with
  | none => rfl
  | some y =>
    have hy := ok.kt y (lastP_mem ht).1
    obtain ⟨⟨rp, rs, re, rm, rw_, rg, rt⟩, p, s, e, m, w, g, t, -, ⟨ip, is, ie, im, iw, ig, it⟩⟩ := h
    have e43 : ∀ n : Int, 0 ≤ n → n ≤ 1000000 → r94 n (some y) = some (whV (n + y.2)) := fun n h1 h2 => by
      unfold r94
      refine (if_pos rfl).trans ((if_pos rfl).trans ?_)
      show some (if 1000000 < IntKind.i64.wrap (n + y.2) then 1000000 else IntKind.i64.wrap (n + y.2)) = _
      rw [wI (a := n + y.2) (by omega) (by omega)]; rfl
    refine (if_pos rfl).trans ?_
    show (r94 x.tl (some y)).bind (fun v14 => (r94 x.th (some y)).bind fun v15 => _) = _
    rw [e43 _ (by omega) (by omega), Option.bind_some, e43 _ (by omega) (by omega), Option.bind_some]
    rfl
theorem j127_1_eq (ok : KnOk H C Q T) {x : BxV} (h : BI x) (k : Int) : j52_1 H C Q T a b c d k (tB x) = some (tB (temB (tempAt T k) (colB (coldAt Q k) x))) := by
  have lQ := ok.lQ
  unfold j52_1
  rw [p117 _ _ _ _ _ _ _ _ k (by omega), Option.bind_some]
  cases hc : coldAt Q k with
  | none => exact j127_2_eq ok h k
  | some y =>
    have hy := ok.kq y (List.mem_of_find?_eq_some hc)
    refine (if_pos rfl).trans ((if_pos rfl).trans ((if_pos rfl).trans ?_))
    show (r92 x.pl x.ph x.al x.ah x.bl x.bh x.ml x.mh x.wl x.wh x.gl x.gh x.tl x.th y.1 y.2.1 y.2.2).bind _ = _
    rw [p142 h hy.1 hy.2.1 hy.2.2, Option.bind_some]
    exact j127_2_eq ok (h.cold hy.1 hy.2.1 hy.2.2) k
theorem p127 (ok : KnOk H C Q T) {x : BxV} (h : BI x) (k : Int) : r52 H C Q T a b c d x.pl x.ph x.al x.ah x.bl x.bh x.ml x.mh x.wl x.wh x.gl x.gh x.tl x.th k = some (tB (boxV H C Q T k x)) := by
  have lH := ok.lH
  have lC := ok.lC
  unfold r52 boxV
  rw [p114 _ _ _ _ _ _ _ _ k (by omega), Option.bind_some]
  cases hh : heatAt H k with
  | some y =>
    have hy := ok.kh y (lastP_mem hh).1
    refine (if_pos rfl).trans ((if_pos rfl).trans ((if_pos rfl).trans ?_))
    show (r88 x.pl x.ph x.al x.ah x.bl x.bh x.ml x.mh x.wl x.wh x.gl x.gh x.tl x.th y.1 y.2.1 y.2.2.1 y.2.2.2).bind _ = _
    rw [p140 h hy.1.1 hy.1.2.1 hy.1.2.2 hy.2.1 hy.2.2, Option.bind_some]
  | none =>
    refine (if_neg (by decide)).trans ?_
    rw [p116 _ _ _ _ _ _ _ _ k (by omega), Option.bind_some]
    cases hc : coolAt C k with
    | none => exact j127_1_eq ok h k
    | some y =>
      have hy := ok.kc y (List.mem_of_find?_eq_some hc)
      refine (if_pos rfl).trans ((if_pos rfl).trans ((if_pos rfl).trans ?_))
      show (r90 x.pl x.ph x.al x.ah x.bl x.bh x.ml x.mh x.wl x.wh x.gl x.gh x.tl x.th y.1 y.2.1 y.2.2.1 y.2.2.2.1 y.2.2.2.2).bind _ = _
      rw [p141 h hy.1.1 hy.1.2.1 hy.1.2.2 hy.2.1 hy.2.2.1 hy.2.2.2, Option.bind_some]
      exact j127_1_eq ok (h.cool hy.1.1 hy.1.2.1 hy.1.2.2 hy.2.1 hy.2.2.1 hy.2.2.2) k
theorem p128 (x y : BxV) : r100 x.pl x.ph x.al x.ah x.bl x.bh x.ml x.mh x.wl x.wh x.gl x.gh x.tl x.th y.pl y.ph y.al y.ah y.bl y.bh y.ml y.mh y.wl y.wh y.gl y.gh y.tl y.th = some (tB (hullB x y)) := rfl
theorem p104 (ok : KnOk H C Q T) {x : BxV} (h : BI x) {lo hi : Int} (h1 : 1 ≤ lo) (h2 : lo ≤ hi) (h3 : hi ≤ 3000) :
    r64 H C Q T a b c d x.pl x.ph x.al x.ah x.bl x.bh x.ml x.mh x.wl x.wh x.gl x.gh x.tl x.th lo hi = some (tB (rangeV H C Q T lo hi x)) := by
  unfold r64
  rw [p127 ok h, Option.bind_some, wI (a := lo + 1) (by omega) (by omega)]
  have key : ∀ (n : Nat) (i : Int) (fuel : Nat) (out : BxV), i + n = hi + 1 → 1 ≤ i → n < fuel → BI out → iterC (b64_1 H C Q T a b c d x.pl x.ph x.al x.ah x.bl x.bh x.ml x.mh x.wl x.wh x.gl x.gh x.tl x.th hi) fuel (i, tB out) = some (tB (rngB (fun k => boxV H C Q T k x) n i out)) := by
    intro n
    induction n with
    | zero =>
      intro i fuel out hi' h1' hf ho
      obtain ⟨q, rfl⟩ : ∃ q, fuel = q + 1 := ⟨fuel - 1, by omega⟩
      have : b64_1 H C Q T a b c d x.pl x.ph x.al x.ah x.bl x.bh x.ml x.mh x.wl x.wh x.gl x.gh x.tl x.th hi (i, tB out) = .out (some (tB out)) := if_neg (by simp; omega)
      simp only [iterC, this, rngB]
    | succ n ih =>
      intro i fuel out hi' h1' hf ho
      obtain ⟨q, rfl⟩ : ∃ q, fuel = q + 1 := ⟨fuel - 1, by omega⟩
      have : b64_1 H C Q T a b c d x.pl x.ph x.al x.ah x.bl x.bh x.ml x.mh x.wl x.wh x.gl x.gh x.tl x.th hi (i, tB out) = .next (i + 1, tB (hullB out (boxV H C Q T i x))) := by
        refine (if_pos (by simp; omega)).trans ?_
        show bindC (r52 H C Q T a b c d x.pl x.ph x.al x.ah x.bl x.bh x.ml x.mh x.wl x.wh x.gl x.gh x.tl x.th i) (fun v2 => _) = _
        rw [p127 ok h]
        show bindC (r100 out.pl out.ph out.al out.ah out.bl out.bh out.ml out.mh out.wl out.wh out.gl out.gh out.tl out.th (boxV H C Q T i x).pl (boxV H C Q T i x).ph (boxV H C Q T i x).al (boxV H C Q T i x).ah (boxV H C Q T i x).bl (boxV H C Q T i x).bh (boxV H C Q T i x).ml (boxV H C Q T i x).mh (boxV H C Q T i x).wl (boxV H C Q T i x).wh (boxV H C Q T i x).gl (boxV H C Q T i x).gh (boxV H C Q T i x).tl (boxV H C Q T i x).th) (fun v3 => _) = _
        rw [p128]
        show Ctl.next (IntKind.i64.wrap (i + 1), tB (hullB out (boxV H C Q T i x))) = _
        rw [wI (a := i + 1) (by omega) (by omega)]
      simp only [iterC, this, rngB]
      exact ih (i + 1) q _ (by omega) (by omega) (by omega) (ho.hull (h.step ok i))
  exact key (hi - lo).toNat (lo + 1) 1000000000 _ (by omega) (by omega) (by omega) (h.step ok lo)
end
/-- the error of a range, of a box -/
def rE (lo hi M : Int) : Int := if (inR lo 0 M && inR hi 0 M) = true then (if lo ≤ hi then 0 else 9) else 2
def boxE (b : BxV) : Int := firstV [rE b.pl b.ph 1000000, rE b.al b.ah 1000000, rE b.bl b.bh 1000000, rE b.ml b.mh 1000000, rE b.wl b.wh 1000000, rE b.gl b.gh 100000, rE b.tl b.th 1000000, if b.pl + b.al + b.bl + b.ml ≤ 1000000 ∧ 1000000 ≤ b.ph + b.ah + b.bh + b.mh then 0 else 12]
theorem rE_ok {lo hi M : Int} (h : rE lo hi M = 0) : 0 ≤ lo ∧ lo ≤ hi ∧ hi ≤ M := by
  unfold rE at h
  split at h
  · rename_i h1
    rw [Bool.and_eq_true, inR_iff, inR_iff] at h1
    split at h
    · omega
    · exact absurd h (by decide)
  · exact absurd h (by decide)
theorem rE_of {lo hi M : Int} (h1 : 0 ≤ lo) (h2 : lo ≤ hi) (h3 : hi ≤ M) : rE lo hi M = 0 := by
  unfold rE
  rw [inR_iff.2 ⟨h1, by omega⟩, inR_iff.2 ⟨by omega, h3⟩, if_pos h2]; rfl
theorem blk (lo hi M : Int) (K : Option Int) : ((r66 lo 0 M).bind fun v1 => if v1 = true → (r66 hi 0 M).isSome = true then (r48 (v1 && ((r66 hi 0 M).getD default)) 2).bind fun v2 => (r48 (decide (lo ≤ hi)) 9).bind fun v3 => (r45 [v2, v3]).bind fun v4 => if (v4 != 0) = true then some v4 else K else none) = if rE lo hi M = 0 then K else some (rE lo hi M) := by
  simp only [p66, Option.bind_some, Option.isSome_some, implies_true, if_true, Option.getD_some, p68, p67 _ (show ([codeIf (inR lo 0 M && inR hi 0 M) 2, codeIf (decide (lo ≤ hi)) 9] : List Int).length < 1000000000 by simp)]
  unfold rE codeIf
  by_cases h1 : (inR lo 0 M && inR hi 0 M) = true
  · by_cases h2 : lo ≤ hi
    · simp [h1, h2, firstV]
    · simp [h1, h2, firstV]
  · simp [h1, firstV]
theorem ite_c {α : Type} {p : Prop} [Decidable p] {a b c : α} (h : p → a = b) : (if p then a else c) = if p then b else c := by
  split
  · exact h ‹_›
  · rfl
theorem firstV_ite (x : Int) (r : List Int) : some (firstV (x :: r)) = if x = 0 then some (firstV r) else some x := by
  simp only [firstV]; split <;> rfl
theorem p102 (b : BxV) : r33 b.pl b.ph b.al b.ah b.bl b.bh b.ml b.mh b.wl b.wh b.gl b.gh b.tl b.th = some (boxE b) := by
  unfold r33 boxE
  rw [blk, blk, blk, blk, blk, blk, blk]
  simp only [firstV_ite]
  refine ite_c fun h1 => ite_c fun h2 => ite_c fun h3 => ite_c fun h4 => ite_c fun h5 => ite_c fun h6 => ite_c fun h7 => ?_
  have h1 := rE_ok h1; have h2 := rE_ok h2; have h3 := rE_ok h3; have h4 := rE_ok h4
  unfold r67
  rw [Option.bind_some]
  simp only [Int.zero_add]
  rw [wI (a := b.pl) (by omega) (by omega), wI (a := b.pl + b.al) (by omega) (by omega), wI (a := b.pl + b.al + b.bl) (by omega) (by omega), wI (a := b.pl + b.al + b.bl + b.ml) (by omega) (by omega),
    wI (a := b.ph) (by omega) (by omega), wI (a := b.ph + b.ah) (by omega) (by omega), wI (a := b.ph + b.ah + b.bh) (by omega) (by omega), wI (a := b.ph + b.ah + b.bh + b.mh) (by omega) (by omega), p66, Option.bind_some, p68]
  by_cases h : b.pl + b.al + b.bl + b.ml ≤ 1000000 ∧ 1000000 ≤ b.ph + b.ah + b.bh + b.mh
  · rw [if_pos h, inR_iff.2 h]; rfl
  · rw [if_neg h]
    have : inR 1000000 (b.pl + b.al + b.bl + b.ml) (b.ph + b.ah + b.bh + b.mh) = false := by
      cases hh : inR 1000000 (b.pl + b.al + b.bl + b.ml) (b.ph + b.ah + b.bh + b.mh) with
      | false => rfl
      | true => exact absurd (inR_iff.1 hh) h
    rw [this]; rfl
theorem scanN_succ {ρ : Type} (f : Nat → Option ρ) (i k : Nat) : scanN f i (k + 1) = orE (f i) (scanN f (i + 1) k) := by
  simp only [scanN]; cases f i <;> rfl
theorem scanN_zero {ρ : Type} (f : Nat → Option ρ) (i : Nat) : scanN f i 0 = none := rfl
theorem p56 (b : BxV) : r22 b.pl b.ph b.al b.ah b.bl b.bh b.ml b.mh b.wl b.wh b.gl b.gh b.tl b.th = some (boxE b) := by
  unfold r22
  have key := iter_scan 7 (b22_1 b.pl b.ph b.al b.ah b.bl b.bh b.ml b.mh b.wl b.wh b.gl b.gh b.tl b.th)
    (fun i => if rE ([(b.pl, b.ph), (b.al, b.ah), (b.bl, b.bh), (b.ml, b.mh), (b.wl, b.wh), (b.gl, b.gh), (b.tl, b.th)].getD i default).1 ([(b.pl, b.ph), (b.al, b.ah), (b.bl, b.bh), (b.ml, b.mh), (b.wl, b.wh), (b.gl, b.gh), (b.tl, b.th)].getD i default).2 ([1000000, 1000000, 1000000, 1000000, 1000000, 100000, 1000000].getD i default) = 0 then none
      else some (rE ([(b.pl, b.ph), (b.al, b.ah), (b.bl, b.bh), (b.ml, b.mh), (b.wl, b.wh), (b.gl, b.gh), (b.tl, b.th)].getD i default).1 ([(b.pl, b.ph), (b.al, b.ah), (b.bl, b.bh), (b.ml, b.mh), (b.wl, b.wh), (b.gl, b.gh), (b.tl, b.th)].getD i default).2 ([1000000, 1000000, 1000000, 1000000, 1000000, 100000, 1000000].getD i default)))
    (if ((decide ((IntKind.i64.wrap ((IntKind.i64.wrap ((IntKind.i64.wrap (b.pl + b.al)) + b.bl)) + b.ml)) > 1000000)) || (decide ((IntKind.i64.wrap ((IntKind.i64.wrap ((IntKind.i64.wrap (b.ph + b.ah)) + b.bh)) + b.mh)) < 1000000))) = true then some 12 else some 0) (by decide)
    (fun i hi => by
      have hl : ((i : Int) < (([(b.pl, b.ph), (b.al, b.ah), (b.bl, b.bh), (b.ml, b.mh), (b.wl, b.wh), (b.gl, b.gh), (b.tl, b.th)]).length : Int)) := by simp; omega
      have hm : ((i : Int) < (([1000000, 1000000, 1000000, 1000000, 1000000, 100000, 1000000] : List Int).length : Int)) := by simp; omega
      have g0 : (0 : Int) ≤ i := by omega
      refine (if_pos (decide_eq_true hl)).trans ((if_pos ⟨g0, hl⟩).trans ((if_pos ⟨g0, hm⟩).trans ?_))
      rw [Int.toNat_natCast]
      generalize ([(b.pl, b.ph), (b.al, b.ah), (b.bl, b.bh), (b.ml, b.mh), (b.wl, b.wh), (b.gl, b.gh), (b.tl, b.th)].getD i default) = y
      generalize ([1000000, 1000000, 1000000, 1000000, 1000000, 100000, 1000000] : List Int).getD i default = M
      rw [p29]
      refine (if_pos (fun _ => ⟨g0, hl⟩)).trans ((if_pos (fun _ => ⟨g0, hm⟩)).trans ?_)
      rw [p29]
      refine (if_pos (fun _ => rfl)).trans ?_
      rw [wS i (by omega)]
      unfold rE
      by_cases h1 : inR y.1 0 M = true
      · by_cases h2 : inR y.2 0 M = true
        · refine (if_neg (by simp [h1, h2])).trans ((if_pos ⟨g0, hl⟩).trans ((if_pos ⟨g0, hl⟩).trans ?_))
          by_cases h3 : y.1 ≤ y.2
          · refine (if_neg (by simp; omega)).trans ?_
            simp [h1, h2, h3]
          · refine (if_pos (by simp; omega)).trans ?_
            simp [h1, h2, h3]
        · refine (if_pos (by simp [h2])).trans ?_
          simp [h2]
      · refine (if_pos (by simp [h1])).trans ?_
        simp [h1])
    (if_neg (by simp))
  refine key.trans ?_
  simp only [scanN_succ, scanN_zero, List.getD_cons_zero, List.getD_cons_succ]
  unfold boxE
  simp only [firstV_ite]
  have step : ∀ (x : Int) (A : Option Int) (f B : Option Int), (x = 0 → orE A f = B) → orE (orE (if x = 0 then none else some x : Option Int) A) f = if x = 0 then B else some x := by
    intro x A f B h
    by_cases hx : x = 0
    · rw [if_pos hx, if_pos hx]; exact h hx
    · rw [if_neg hx, if_neg hx]; rfl
  refine step _ _ _ _ fun h1 => step _ _ _ _ fun h2 => step _ _ _ _ fun h3 => step _ _ _ _ fun h4 => step _ _ _ _ fun h5 => step _ _ _ _ fun h6 => step _ _ _ _ fun h7 => ?_
  have h1 := rE_ok h1; have h2 := rE_ok h2; have h3 := rE_ok h3; have h4 := rE_ok h4
  show (if _ then _ else _) = _
  rw [wI (a := b.pl + b.al) (by omega) (by omega), wI (a := b.pl + b.al + b.bl) (by omega) (by omega), wI (a := b.pl + b.al + b.bl + b.ml) (by omega) (by omega),
    wI (a := b.ph + b.ah) (by omega) (by omega), wI (a := b.ph + b.ah + b.bh) (by omega) (by omega), wI (a := b.ph + b.ah + b.bh + b.mh) (by omega) (by omega)]
  by_cases h : b.pl + b.al + b.bl + b.ml ≤ 1000000 ∧ 1000000 ≤ b.ph + b.ah + b.bh + b.mh
  · rw [if_pos h]
    exact if_neg (by simp; omega)
  · rw [if_neg h]
    exact if_pos (by simp; omega)
theorem boxE_of {b : BxV} (h : BI b) : boxE b = 0 := by
  obtain ⟨⟨rp, rs, re, rm, rw_, rg, rt⟩, p, s, e, m, w, g, t, st, ⟨ip, is, ie, im, iw, ig, it⟩⟩ := h
  obtain ⟨sp, sa, sb, sm, sw, sg, stt, ssum⟩ := st
  unfold boxE
  rw [rE_of rp.1 (by omega) rp.2, rE_of rs.1 (by omega) rs.2, rE_of re.1 (by omega) re.2, rE_of rm.1 (by omega) rm.2, rE_of rw_.1 (by omega) rw_.2, rE_of rg.1 (by omega) rg.2, rE_of rt.1 (by omega) rt.2, if_pos ⟨by omega, by omega⟩]; rfl
end Go.Proofs.YtfkmbdfajpdjjaaGreatDoor

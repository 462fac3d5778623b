/- SteelCurves as a plain law: the law itself. -/
import Derived.Test.YtfkmbdfajpdjjaaGreatDoorSteelCu
set_option linter.unusedVariables false
set_option linter.unusedSimpArgs false
namespace Go.Proofs.YtfkmbdfajpdjjaaGreatDoor
open Go.Abs

section
variable {H : List (Int × Int × Int × Int)} {C : List (Int × Int × Int × Int × Int)} {Q : List (Int × Int × Int)} {T : List (Int × Int)} {a b c d : Int}
/-- whether the band of a box lies in a range -/
def inBand (lo hi : Int) (u : Int × Int) : Bool := (decide (u.1 ≥ lo)) && (decide (u.2 ≤ hi))
def qB (H : List (Int × Int × Int × Int)) (C : List (Int × Int × Int × Int × Int)) (Q : List (Int × Int × Int)) (T : List (Int × Int)) (a b c d : Int) (y : BxV) (lo hi : Int) (l : List Int) : Bool := inBand lo hi (bandP a b c d (stepsB H C Q T l y))
theorem code_sel (ok : RulOk H C Q T a b c d) {p s e m w g t : Int} (st : StOk p s e m w g t) (l : List (List Int)) (lo hi : Int) (hl : l.length ≤ 14) (hc : ∀ x ∈ l, x.length ≤ 202) :
    iterC (b8_2 H C Q T a b c d p s e m w g t l lo hi) 1000000000 ([], 0) = some (selF (qB H C Q T a b c d (pointB p s e m w g t) lo hi) 0 l, 0) := by
  refine iter_sel l (by omega) (b8_2 H C Q T a b c d p s e m w g t l lo hi) (qB H C Q T a b c d (pointB p s e m w g t) lo hi) (fun acc => some (acc, 0)) (fun i acc hi2 ha => ?_) (fun acc ha => if_neg (by simp))
  refine (if_pos (ltN hi2)).trans ((if_pos (rgN hi2)).trans ?_)
  have h1 := hc _ (getD_mem hi2)
  have pt := point_bi st
  have e51 : r51 p s e m w g t = some (tB (pointB p s e m w g t)) := rfl
  rw [e51, bindC_some]
  have hB := BI.steps ok.toKnOk (l.getD i default) pt.1
  have key := iter_steps (ρ := Ctl (List Int × Int) (List Int × Int)) ok.toKnOk (B := b8_3 H C Q T a b c d l lo hi (acc, (i : Int))) (l.getD i default) (by omega)
    (fun x => some (bindC (r53 H C Q T a b c d x.pl x.ph x.al x.ah x.bl x.bh x.ml x.mh x.wl x.wh x.gl x.gh x.tl x.th) fun v13 =>
      if (inBand lo hi (v13.1, v13.2)) = true then
       if (acc.length + 1) * 8 ≤ 140737488355328 ∧ acc.length + 1 ≤ 9223372036854775807 then
        .next (acc ++ [(i : Int)], IntKind.i64.wrap ((i : Int) + 1))
        else .out none
       else .next (acc, IntKind.i64.wrap ((i : Int) + 1))))
    (fun j x hj hx => by
      unfold b8_3
      dsimp only
      rw [Int.toNat_natCast]
      refine (if_pos (ltN hj)).trans ((if_pos (rgN hj)).trans ?_)
      rw [Int.toNat_natCast]
      dsimp only [tB]
      rw [p127 ok.toKnOk hx, bindC_some, wS j (by omega)]; rfl)
    (fun x => by
      unfold b8_3
      dsimp only
      rw [Int.toNat_natCast]
      exact if_neg (by simp)) pt.1
  show (iterC (b8_3 H C Q T a b c d l lo hi (acc, (i : Int))) 1000000000 (0, tB (pointB p s e m w g t))).getD (.out none) = _
  rw [key, Option.getD_some, zb53 ok hB, bindC_some]
  show (if inBand lo hi (bandP a b c d (stepsB H C Q T (l.getD i default) (pointB p s e m w g t))) = true then _ else _) = _
  have eq : qB H C Q T a b c d (pointB p s e m w g t) lo hi (l.getD i default) = inBand lo hi (bandP a b c d (stepsB H C Q T (l.getD i default) (pointB p s e m w g t))) := rfl
  rw [← eq, wS i (by omega)]
  by_cases hq : qB H C Q T a b c d (pointB p s e m w g t) lo hi (l.getD i default) = true
  · rw [if_pos hq, if_pos hq, if_pos ⟨by omega, by omega⟩]
  · rw [if_neg hq, if_neg hq]
theorem ref_sel (ok : RulOk H C Q T a b c d) {p s e m w g t : Int} (st : StOk p s e m w g t) (l : List (List Int)) (lo hi : Int) (hl : l.length ≤ 14) (hc : ∀ x ∈ l, x.length ≤ 202) (hr : ∀ x ∈ l, curveE x = 0) :
    r19 H C Q T a b c d p s e m w g t l lo hi = some (selF (qB H C Q T a b c d (pointB p s e m w g t) lo hi) 0 l) := by
  unfold r19
  refine iter_sel l (by omega) (b19_1 H C Q T a b c d p s e m w g t l lo hi) (qB H C Q T a b c d (pointB p s e m w g t) lo hi) (fun acc => some acc) (fun i acc hi2 ha => ?_) (fun acc ha => if_neg (by simp))
  refine (if_pos (ltN hi2)).trans ?_
  have h1 := hc _ (getD_mem hi2)
  have h2 := curve_ok (hr _ (getD_mem hi2))
  have pt := point_bi st
  have hB := BI.steps ok.toKnOk (l.getD i default) pt.1
  have e28 : r28 p s e m w g t = some (tB (pointB p s e m w g t)) := rfl
  have hsing : ∀ r ∈ (l.getD i default).map (fun n => (n, n)), rangE r.1 r.2 = 0 := fun r hr => by
    obtain ⟨n, hn, rfl⟩ := List.mem_map.1 hr
    have := h2.2 n hn
    unfold rangE
    rw [inR_iff.2 this, if_pos (by decide), if_pos (Int.le_refl _), if_pos (by omega)]
  have key := iter_mapA (ρ := Ctl (List Int × Int) (List Int)) (l.getD i default) (by omega) (b19_2 H C Q T a b c d p s e m w g t l lo hi (acc, (i : Int))) (fun n => (n, n))
    (fun y => some (bindC (r28 p s e m w g t) fun v5 => bindC (r38 H C Q T a b c d v5.1 v5.2.1 v5.2.2.1 v5.2.2.2.1 v5.2.2.2.2.1 v5.2.2.2.2.2.1 v5.2.2.2.2.2.2.1 v5.2.2.2.2.2.2.2.1 v5.2.2.2.2.2.2.2.2.1 v5.2.2.2.2.2.2.2.2.2.1 v5.2.2.2.2.2.2.2.2.2.2.1 v5.2.2.2.2.2.2.2.2.2.2.2.1 v5.2.2.2.2.2.2.2.2.2.2.2.2.1 v5.2.2.2.2.2.2.2.2.2.2.2.2.2 y) fun v6 =>
      bindC (r34 H C Q T a b c d v6.1 v6.2.1 v6.2.2.1 v6.2.2.2.1 v6.2.2.2.2.1 v6.2.2.2.2.2.1 v6.2.2.2.2.2.2.1 v6.2.2.2.2.2.2.2.1 v6.2.2.2.2.2.2.2.2.1 v6.2.2.2.2.2.2.2.2.2.1 v6.2.2.2.2.2.2.2.2.2.2.1 v6.2.2.2.2.2.2.2.2.2.2.2.1 v6.2.2.2.2.2.2.2.2.2.2.2.2.1 v6.2.2.2.2.2.2.2.2.2.2.2.2.2) fun v7 =>
       if (inBand lo hi (v7.1, v7.2)) = true then
        if (acc.length + 1) * 8 ≤ 140737488355328 ∧ acc.length + 1 ≤ 9223372036854775807 then
         .next (acc ++ [(i : Int)], IntKind.i64.wrap ((i : Int) + 1))
         else .out none
        else .next (acc, IntKind.i64.wrap ((i : Int) + 1))))
    (fun j y hj hy => by
      unfold b19_2
      dsimp only
      rw [Int.toNat_natCast]
      refine (if_pos (rgN hi2)).trans ((if_pos (ltN hj)).trans ((if_pos (rgN hi2)).trans ((if_pos (rgN hj)).trans ?_)))
      rw [Int.toNat_natCast, wS j (by omega)]
      show (if (y.length + 1) * 16 ≤ 140737488355328 ∧ y.length + 1 ≤ 9223372036854775807 then _ else _) = _
      exact if_pos ⟨by omega, by omega⟩)
    (fun y hy => by
      unfold b19_2
      dsimp only
      rw [Int.toNat_natCast]
      exact (if_pos (rgN hi2)).trans (if_neg (by simp)))
  show (iterC (b19_2 H C Q T a b c d p s e m w g t l lo hi (acc, (i : Int))) 1000000000 ([], 0)).getD (.out none) = _
  rw [key, Option.getD_some, e28, bindC_some]
  dsimp only [tB]
  rw [z38 ok.toKnOk pt.1 (by rw [List.length_map]; omega) hsing, bindC_some, run_single]
  dsimp only [tB]
  rw [zb34 ok hB, bindC_some]
  show (if inBand lo hi (bandP a b c d (stepsB H C Q T (l.getD i default) (pointB p s e m w g t))) = true then _ else _) = _
  have eq : qB H C Q T a b c d (pointB p s e m w g t) lo hi (l.getD i default) = inBand lo hi (bandP a b c d (stepsB H C Q T (l.getD i default) (pointB p s e m w g t))) := rfl
  rw [← eq, wS i (by omega)]
  by_cases hq : qB H C Q T a b c d (pointB p s e m w g t) lo hi (l.getD i default) = true
  · rw [if_pos hq, if_pos hq, if_pos ⟨by omega, by omega⟩]
  · rw [if_neg hq, if_neg hq]
theorem fold_errC (E : Int → Option (List Int × Int)) : ∀ (r : List (List Int)) (i t : Int), foldC (fun _ t x => Ctl.next (if t = 0 then curveE x else t)) E i r t = E (firstV (t :: r.map curveE))
  | [], i, t => by simp only [foldC, List.map_nil, firstV]; by_cases h : t = 0 <;> simp [h]
  | x :: r, i, t => by
    show foldC _ E (i + 1) r (if t = 0 then curveE x else t) = _
    rw [fold_errC E r]
    simp only [List.map_cons, firstV]
    by_cases h : t = 0 <;> simp [h]
theorem want_ok {l : List (List Int)} {lo hi : Int} (h : wantE l lo hi = 0) : ∀ x ∈ l, curveE x = 0 := by
  unfold wantE at h
  split at h
  · exact absurd h (by decide)
  · exact fun x hx => fz h _ (List.mem_append_left _ (List.mem_map.2 ⟨x, hx, rfl⟩))
theorem e3 {x y z : Int} (h : firstV [x, y, z] = 0) : x = 0 ∧ y = 0 ∧ z = 0 := by
  have g1 : x = 0 := by
    by_cases g : x = 0
    · exact g
    · simp only [firstV, if_neg g] at h; exact absurd h g
  have g2 : y = 0 := by
    by_cases g : y = 0
    · exact g
    · simp only [firstV, g1, if_true, if_neg g] at h; exact absurd h g
  have g3 : z = 0 := by
    by_cases g : z = 0
    · exact g
    · simp only [firstV, g1, g2, if_true, if_neg g] at h; exact absurd h g
  exact ⟨g1, g2, g3⟩
theorem z8 (hf : H.length ≤ 10 ∧ C.length ≤ 10 ∧ Q.length ≤ 10 ∧ T.length ≤ 10) {v : Int × Int} (hv : rulV H C Q T a b c d = some v) (p s e m w g t : Int) (l : List (List Int)) (lo hi : Int) (hl : l.length ≤ 14) (hc : ∀ x ∈ l, x.length ≤ 202) :
    r8 H C Q T a b c d p s e m w g t l lo hi = some (if firstV [v.2, staE p s e m w g t, wantE l lo hi] = 0 then (selF (qB H C Q T a b c d (pointB p s e m w g t) lo hi) 0 l, 0) else ([], firstV [v.2, staE p s e m w g t, wantE l lo hi])) := by
  unfold r8
  rw [p73 hf hv, Option.bind_some, p17, Option.bind_some, p68, Option.bind_some, p67 _ (by simp), Option.bind_some]
  have h := iter_list (τ := Int) l (b8_1 H C Q T a b c d p s e m w g t l lo hi) (fun i t => (t, i)) (fun _ t y => .next (if t = 0 then curveE y else t))
    (fun u => if (firstV [u, hrdR lo hi] != 0) = true then some ([], firstV [u, hrdR lo hi]) else iterC (b8_2 H C Q T a b c d p s e m w g t l lo hi) 1000000000 ([], 0)) (by omega)
    (fun i u hi2 => by
      refine (if_pos (ltN hi2)).trans ((if_pos (rgN hi2)).trans ?_)
      have h1 := hc _ (getD_mem hi2)
      rw [Int.toNat_natCast, p74 _ (by omega)]
      show bindC (r45 [u, curveE (l.getD i default)]) (fun v6 => _) = _
      rw [p67 _ (by simp), firstV2, wS i (by omega)]; rfl)
    (fun u => (if_neg (by simp)).trans (by
      rw [z50, Option.bind_some]
      dsimp only
      rw [p67 _ (by simp), Option.bind_some])) (firstV [v.2, staE p s e m w g t, codeIf (decide ((l.length : Int) ≤ 12)) 8])
  rw [h, fold_errC]
  have e1 : firstV [firstV (firstV [v.2, staE p s e m w g t, codeIf (decide ((l.length : Int) ≤ 12)) 8] :: l.map curveE), hrdR lo hi] = firstV [v.2, staE p s e m w g t, wantE l lo hi] := by
    unfold wantE codeIf
    rw [firstV_app]
    have e0 : firstV [hrdR lo hi] = hrdR lo hi := by simp only [firstV]; by_cases h : hrdR lo hi = 0 <;> simp [h]
    rw [e0]
    generalize hrdR lo hi = hh
    by_cases h12 : 12 < l.length
    · rw [if_pos h12, show (decide ((l.length : Int) ≤ 12)) = false from decide_eq_false (by omega)]
      simp only [firstV]
      by_cases g1 : v.2 = 0 <;> by_cases g2 : staE p s e m w g t = 0 <;> simp [g1, g2]
    · rw [if_neg h12, show (decide ((l.length : Int) ≤ 12)) = true from decide_eq_true (by omega)]
      simp only [firstV]
      by_cases g1 : v.2 = 0 <;> by_cases g2 : staE p s e m w g t = 0 <;> by_cases g3 : firstV (l.map curveE) = 0 <;> by_cases g4 : hh = 0 <;> simp [g1, g2, g3, g4]
  rw [e1]
  by_cases hE : firstV [v.2, staE p s e m w g t, wantE l lo hi] = 0
  · rw [if_pos hE]
    refine (if_neg (by rw [hE]; decide)).trans ?_
    obtain ⟨g0, g1, g2⟩ := e3 hE
    exact code_sel (rul_of hv g0) (st_of g1) l lo hi hl hc
  · rw [if_neg hE]
    exact if_pos (by simpa using hE)
theorem j3_3_ok {l : List (List Int)} {i : Nat} (hi : i < l.length) (hl : l.length ≤ 14) {v12 : Int × Int} {s : Int} (h1 : s ≠ 0 → v12 = (0, s)) (h2 : s = 0 → ∃ w, v12 = (w, 0) ∧ r15 H C Q T a b c d (l.getD i default) = some w) :
    j3_3 H C Q T a b c d l (i : Int) v12 s = .next ((i : Int) + 1) := by
  unfold j3_3
  refine (if_pos (fun _ => rgN hi)).trans ?_
  rw [Int.toNat_natCast, wS i (by omega)]
  by_cases h : s = 0
  · obtain ⟨w, rfl, e15⟩ := h2 h
    subst h
    rw [e15]
    exact (if_pos (fun _ => rfl)).trans (if_neg (by simp))
  · rw [h1 h]
    refine (if_pos (fun h9 => ?_)).trans (if_neg (by simp [h]))
    simp [h] at h9
theorem j3_5_ok {v : Int × Int} (hv : rulV H C Q T a b c d = some v) (p s e m w g t : Int) (l : List (List Int)) (lo hi : Int) (hl : l.length ≤ 14) (hc : ∀ x ∈ l, x.length ≤ 202) {z : Int} (hz : z = firstV [v.2, staE p s e m w g t, wantE l lo hi]) :
    j3_5 H C Q T a b c d p s e m w g t l lo hi (if firstV [v.2, staE p s e m w g t, wantE l lo hi] = 0 then (selF (qB H C Q T a b c d (pointB p s e m w g t) lo hi) 0 l, 0) else ([], firstV [v.2, staE p s e m w g t, wantE l lo hi])) z = some true := by
  unfold j3_5
  rw [← hz]
  by_cases hE : z = 0
  · rw [if_pos hE]
    refine (if_neg (by rw [hE]; decide)).trans ?_
    rw [hE] at hz
    obtain ⟨g0, g1, g2⟩ := e3 hz.symm
    rw [ref_sel (rul_of hv g0) (st_of g1) l lo hi hl hc (want_ok g2)]
    have e18 := z18 (selF (qB H C Q T a b c d (pointB p s e m w g t) lo hi) 0 l) (by have := sel_len (qB H C Q T a b c d (pointB p s e m w g t) lo hi) l 0; omega)
    generalize selF (qB H C Q T a b c d (pointB p s e m w g t) lo hi) 0 l = ww at e18 ⊢
    simp [e18]
  · rw [if_neg hE]
    refine (if_pos (by simpa using hE)).trans ?_
    simp
end
theorem curves (H : List (Int × Int × Int × Int)) (C : List (Int × Int × Int × Int × Int)) (Q : List (Int × Int × Int)) (T : List (Int × Int)) (a b c d p s e m w g t : Int) (l : List (List Int)) (lo hi : Int) :
    r3 H C Q T a b c d p s e m w g t l lo hi = some true := by
  obtain ⟨v, hv⟩ := rulV_some H C Q T a b c d
  unfold r3
  rw [awakeS, Option.bind_some]
  refine (if_neg (by decide)).trans ?_
  rw [p13, Option.bind_some]
  by_cases hf : H.length ≤ 10 ∧ C.length ≤ 10 ∧ Q.length ≤ 10 ∧ T.length ≤ 10
  · have hf2 : (decide (H.length ≤ 10 ∧ C.length ≤ 10 ∧ Q.length ≤ 10 ∧ T.length ≤ 10)) = true := decide_eq_true hf
    rw [hf2]
    by_cases hs : l.length ≤ 6 ∨ 12 < l.length ∧ l.length ≤ 14
    · have n1 : ((decide ((l.length : Int) > 6)) && (decide ((l.length : Int) ≤ 12))) = false := by
        rw [Bool.and_eq_false_iff, decide_eq_false_iff_not, decide_eq_false_iff_not]; omega
      have n2 : (decide ((l.length : Int) > 14)) = false := decide_eq_false (by omega)
      refine (if_neg (by simp only [n1, n2]; decide)).trans ?_
      refine iter_ex l.length (by omega) _ (fun i => (l.getD i default).length ≤ 202) (fun i hi => ?_) (fun hP => ?_)
      · by_cases hb : (decide (((l.getD i default).length : Int) > 20) && (decide (((l.getD i default).length : Int) ≤ 200) || decide (((l.getD i default).length : Int) > 202))) = true
        · left
          refine (if_pos (ltN hi)).trans ((if_pos (rgN hi)).trans ((if_pos (fun _ => rgN hi)).trans ((if_pos (fun _ => rgN hi)).trans ?_)))
          rw [Int.toNat_natCast]
          exact if_pos hb
        · right
          refine ⟨?_, ?_⟩
          · simp only [Bool.and_eq_true, Bool.or_eq_true, decide_eq_true_eq] at hb
            show (l.getD i default).length ≤ 202
            omega
          · refine (if_pos (ltN hi)).trans ((if_pos (rgN hi)).trans ((if_pos (fun _ => rgN hi)).trans ((if_pos (fun _ => rgN hi)).trans ?_)))
            rw [Int.toNat_natCast]
            refine (if_neg hb).trans ?_
            rw [wS i (by omega)]
      · have hc : ∀ y ∈ l, y.length ≤ 202 := fun y hy => by
          obtain ⟨i, hi, rfl⟩ := List.mem_iff_getElem.1 hy
          have := hP i hi
          rwa [List.getD_eq_getElem?_getD, List.getElem?_eq_getElem hi] at this
        refine (if_neg (by simp)).trans ?_
        congr 1
        rw [p15 a b c d hf, Option.bind_some, z10 l lo hi (by omega) hc, Option.bind_some]
        dsimp only
        rw [z8 hf hv p s e m w g t l lo hi (by omega) hc, Option.bind_some, p21 hv, Option.bind_some]
        refine iter_ex l.length (by omega) _ (fun _ => True) (fun i hi2 => .inr ⟨trivial, ?_⟩) (fun _ => ?_)
        · refine (if_pos (ltN hi2)).trans ?_
          rw [p15 a b c d hf, bindC_some]
          refine (if_pos (rgN hi2)).trans ?_
          have h1 := hc _ (getD_mem hi2)
          rw [Int.toNat_natCast, p24 _ (by omega), bindC_some]
          dsimp only
          obtain ⟨v12, e12, c1, c2⟩ := z12 hf hv (l.getD i default) (by omega)
          rw [e12, bindC_some]
          by_cases h0 : v.2 = 0
          · rw [if_pos h0] at c1 c2
            refine (if_pos (by rw [h0]; decide)).trans ((if_pos (rgN hi2)).trans ?_)
            rw [p22 _ (by omega), bindC_some]
            exact j3_3_ok hi2 (by omega) c1 c2
          · rw [if_neg h0] at c1 c2
            refine (if_neg (by simpa using h0)).trans ?_
            exact j3_3_ok hi2 (by omega) c1 c2
        · refine (if_neg (by simp)).trans ?_
          congr 1
          by_cases h0 : v.2 = 0
          · refine (if_pos (by rw [h0]; decide)).trans ?_
            rw [p18, Option.bind_some]
            unfold j3_4
            by_cases hb : staE p s e m w g t = 0
            · refine (if_pos (by rw [hb]; decide)).trans ?_
              rw [z17 l lo hi (by omega) hc, Option.bind_some]
              refine j3_5_ok hv p s e m w g t l lo hi (by omega) hc ?_
              simp only [firstV, h0, hb, if_true]
              by_cases hp : wantE l lo hi = 0 <;> simp [hp]
            · refine (if_neg (by simpa using hb)).trans ?_
              refine j3_5_ok hv p s e m w g t l lo hi (by omega) hc ?_
              simp only [firstV, h0, if_true, if_neg hb]
          · refine (if_neg (by simpa using h0)).trans ?_
            unfold j3_4
            refine (if_neg (by simpa using h0)).trans ?_
            refine j3_5_ok hv p s e m w g t l lo hi (by omega) hc ?_
            simp only [firstV, if_neg h0]
    · have : (((!true) || ((decide ((l.length : Int) > 6)) && (decide ((l.length : Int) ≤ 12)))) || (decide ((l.length : Int) > 14))) = true := by
        simp only [Bool.or_eq_true, Bool.and_eq_true, decide_eq_true_eq, Bool.not_true]
        omega
      exact if_pos this
  · have hf2 : (decide (H.length ≤ 10 ∧ C.length ≤ 10 ∧ Q.length ≤ 10 ∧ T.length ≤ 10)) = false := decide_eq_false hf
    rw [hf2]
    exact if_pos rfl
end Go.Proofs.YtfkmbdfajpdjjaaGreatDoor

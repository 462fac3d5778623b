/- SteelProfiles as a plain law. -/
import Derived.Test.YtfkmbdfajpdjjaaGreatDoorF11
import Derived.Test.YtfkmbdfajpdjjaaGreatDoorSteelPg
set_option linter.unusedVariables false
set_option linter.unusedSimpArgs false
namespace Go.Proofs.YtfkmbdfajpdjjaaGreatDoor
open Go.Abs

def profE (l : List (List (Int × Int))) : Int := if 12 < l.length then 8 else firstV (l.map rangsE)
theorem z21 (l : List (List (Int × Int))) (hl : l.length ≤ 14) (hc : ∀ x ∈ l, x.length ≤ 202) : r21 l = some l := by
  unfold r21
  have := iter_mapA l (by omega) (b21_1 l) (fun x => x) (fun acc => some acc) (fun i acc hi ha => by
    refine (if_pos (ltN hi)).trans ((if_pos (rgN hi)).trans ?_)
    rw [Int.toNat_natCast]
    show bindC (r31 (l.getD i default)) (fun v1 => _) = _
    have h1 := hc _ (getD_mem hi)
    rw [z31 _ (by omega)]
    refine (if_pos ⟨by dsimp only; omega, by dsimp only; omega⟩).trans ?_
    rw [wS i (by omega)]) (fun acc ha => if_neg (by simp))
  simpa using this
theorem z23 (l : List (List (Int × Int))) (hl : l.length ≤ 14) (hc : ∀ x ∈ l, x.length ≤ 202) : r23 l = some (profE l) := by
  unfold r23 profE
  by_cases h : 12 < l.length
  · rw [if_pos h]; exact if_pos (by simp; omega)
  · rw [if_neg h]
    refine (if_neg (by simp; omega)).trans ?_
    have h := iter_list (τ := Unit) l (b23_1 l) (fun i _ => i) (fun _ _ x => if rangsE x = 0 then .next () else .out (some (rangsE x))) (fun _ => some 0) (by omega)
      (fun i t hi => by
        refine (if_pos (ltN hi)).trans ((if_pos (rgN hi)).trans ?_)
        have h1 := hc _ (getD_mem hi)
        rw [Int.toNat_natCast, p52 _ (by omega), wS i (by omega)]
        show (if (rangsE (l.getD i default) != 0) = true then _ else _) = _
        generalize rangsE (l.getD i default) = z
        by_cases hz : z = 0
        · simp only [hz, if_true, mapC]; rfl
        · simp only [if_neg hz, mapC]; exact if_pos (by simpa using hz))
      (fun t => if_neg (by simp)) ()
    rw [h]
    have key : ∀ (r : List (List (Int × Int))) (i : Int), foldC (fun _ _ x => if rangsE x = 0 then Ctl.next () else .out (some (rangsE x))) (fun _ : Unit => some 0) i r () = some (firstV (r.map rangsE)) := by
      intro r
      induction r with
      | nil => intro i; rfl
      | cons x r ih =>
        intro i
        by_cases hx : rangsE x = 0
        · simp only [foldC, hx, if_true, List.map_cons, firstV]; exact ih _
        · simp only [foldC, if_neg hx, List.map_cons, firstV]
    exact key l 0
theorem z24 (l : List (Int × Int)) (hl : l.length < 1000000000) : r24 l l = some true := by
  unfold r24
  refine (if_neg (by simp)).trans ?_
  refine iter_ex l.length hl (b24_1 l l) (fun _ => True) (fun i hi => .inr ⟨trivial, ?_⟩) (fun _ => if_neg (by simp))
  refine (if_pos (ltN hi)).trans ((if_pos (rgN hi)).trans ((if_pos (rgN hi)).trans ((if_neg (by simp)).trans ?_)))
  rw [wS i (by omega)]
section
variable {H : List (Int × Int × Int × Int)} {C : List (Int × Int × Int × Int × Int)} {Q : List (Int × Int × Int)} {T : List (Int × Int)} {a b c d : Int}
theorem z25 (ok : RulOk H C Q T a b c d) {x : BxV} (hx : BI x) (l : List (List (Int × Int))) (hl : l.length ≤ 14) (hc : ∀ y ∈ l, y.length ≤ 202) (hr : ∀ y ∈ l, rangsE y = 0) :
    r25 H C Q T a b c d x.pl x.ph x.al x.ah x.bl x.bh x.ml x.mh x.wl x.wh x.gl x.gh x.tl x.th l = some (l.map fun y => bandP a b c d (runB H C Q T y x)) := by
  unfold r25
  refine iter_mapA l (by omega) (b25_1 H C Q T a b c d x.pl x.ph x.al x.ah x.bl x.bh x.ml x.mh x.wl x.wh x.gl x.gh x.tl x.th l) (fun y => bandP a b c d (runB H C Q T y x)) (fun acc => some acc) (fun i acc hi ha => ?_) (fun acc ha => if_neg (by simp))
  refine (if_pos (ltN hi)).trans ((if_pos (rgN hi)).trans ?_)
  rw [Int.toNat_natCast]
  have h1 := hc _ (getD_mem hi)
  have h2 := hr _ (getD_mem hi)
  rw [z38 ok.toKnOk hx (by omega) (rangsE_ok h2).2]
  have hB := hx.run ok.toKnOk (l.getD i default)
  show _ = Ctl.next (acc ++ [bandP a b c d (runB H C Q T (l.getD i default) x)], (i : Int) + 1)
  generalize runB H C Q T (l.getD i default) x = X at hB ⊢
  rw [bindC_some]
  dsimp only [tB]
  rw [zb34 ok hB, bindC_some]
  generalize bandP a b c d X = P
  rw [if_pos ⟨by omega, by omega⟩, wS i (by omega)]
theorem fold_err (E : Int → Option (List (Int × Int) × Int)) : ∀ (r : List (List (Int × Int))) (i t : Int), foldC (fun _ t x => Ctl.next (if t = 0 then rangsE x else t)) E i r t = E (firstV (t :: r.map rangsE))
  | [], i, t => by simp only [foldC, List.map_nil, firstV]; by_cases h : t = 0 <;> simp [h]
  | x :: r, i, t => by
    show foldC _ E (i + 1) r (if t = 0 then rangsE x else t) = _
    rw [fold_err E r]
    simp only [List.map_cons, firstV]
    by_cases h : t = 0 <;> simp [h]
theorem z20 (hf : H.length ≤ 10 ∧ C.length ≤ 10 ∧ Q.length ≤ 10 ∧ T.length ≤ 10) {v : Int × Int} (hv : rulV H C Q T a b c d = some v) (x : BxV) (l : List (List (Int × Int))) (hl : l.length ≤ 14) (hc : ∀ y ∈ l, y.length ≤ 202) :
    r20 H C Q T a b c d x.pl x.ph x.al x.ah x.bl x.bh x.ml x.mh x.wl x.wh x.gl x.gh x.tl x.th l = some (if firstV [v.2, boxE x, profE l] = 0 then (l.map fun y => bandP a b c d (runB H C Q T y x), 0) else ([], firstV [v.2, boxE x, profE l])) := by
  unfold r20
  rw [p73 hf hv, Option.bind_some, p102, Option.bind_some, p68, Option.bind_some, p67 _ (by simp), Option.bind_some]
  have h := iter_list (τ := Int) l (b20_1 H C Q T a b c d x.pl x.ph x.al x.ah x.bl x.bh x.ml x.mh x.wl x.wh x.gl x.gh x.tl x.th l) (fun i t => (t, i)) (fun _ t y => .next (if t = 0 then rangsE y else t))
    (fun t => if (t != 0) = true then some ([], t) else iterC (b20_2 H C Q T a b c d x.pl x.ph x.al x.ah x.bl x.bh x.ml x.mh x.wl x.wh x.gl x.gh x.tl x.th l) 1000000000 ([], 0)) (by omega)
    (fun i t hi => by
      refine (if_pos (ltN hi)).trans ((if_pos (rgN hi)).trans ?_)
      have h1 := hc _ (getD_mem hi)
      rw [Int.toNat_natCast, z61 _ (by omega)]
      show bindC (r45 [t, rangsE (l.getD i default)]) (fun v6 => _) = _
      rw [p67 _ (by simp), firstV2, wS i (by omega)]; rfl) (fun t => if_neg (by simp)) (firstV [v.2, boxE x, codeIf (decide ((l.length : Int) ≤ 12)) 8])
  rw [h, fold_err]
  have e1 : firstV (firstV [v.2, boxE x, codeIf (decide ((l.length : Int) ≤ 12)) 8] :: l.map rangsE) = firstV [v.2, boxE x, profE l] := by
    unfold profE codeIf
    by_cases h12 : 12 < l.length
    · rw [if_pos h12, show (decide ((l.length : Int) ≤ 12)) = false from decide_eq_false (by omega)]
      simp only [firstV]
      by_cases g1 : v.2 = 0 <;> by_cases g2 : boxE x = 0 <;> simp [g1, g2]
    · rw [if_neg h12, show (decide ((l.length : Int) ≤ 12)) = true from decide_eq_true (by omega)]
      simp only [firstV]
      by_cases g1 : v.2 = 0 <;> by_cases g2 : boxE x = 0 <;> simp [g1, g2]
  rw [e1]
  by_cases hE : firstV [v.2, boxE x, profE l] = 0
  · rw [if_pos hE]
    refine (if_neg (by rw [hE]; decide)).trans ?_
    have hE2 := hE
    have g0 : v.2 = 0 := by
      by_cases g : v.2 = 0
      · exact g
      · simp only [firstV, if_neg g] at hE2; exact absurd hE2 g
    have g1 : boxE x = 0 := by
      by_cases g : boxE x = 0
      · exact g
      · simp only [firstV, g0, if_true, if_neg g] at hE2; exact absurd hE2 g
    have g2 : profE l = 0 := by
      by_cases g : profE l = 0
      · exact g
      · simp only [firstV, g0, g1, if_true, if_neg g] at hE2; exact absurd hE2 g
    have hr : ∀ y ∈ l, rangsE y = 0 := by
      unfold profE at g2
      split at g2
      · exact absurd g2 (by decide)
      · exact fun y hy => fz g2 _ (List.mem_map.2 ⟨y, hy, rfl⟩)
    have ok := rul_of hv g0
    have hx := bi_of g1
    refine (iter_mapA l (by omega) (b20_2 H C Q T a b c d x.pl x.ph x.al x.ah x.bl x.bh x.ml x.mh x.wl x.wh x.gl x.gh x.tl x.th l) (fun y => bandP a b c d (runB H C Q T y x)) (fun acc => some (acc, 0)) (fun i acc hi ha => ?_) (fun acc ha => if_neg (by simp)))
    refine (if_pos (ltN hi)).trans ((if_pos (rgN hi)).trans ?_)
    rw [Int.toNat_natCast]
    have h1 := hc _ (getD_mem hi)
    have h2 := hr _ (getD_mem hi)
    rw [z62 ok.toKnOk hx (by omega) (rangsE_ok h2).2]
    have hB := hx.run ok.toKnOk (l.getD i default)
    show _ = Ctl.next (acc ++ [bandP a b c d (runB H C Q T (l.getD i default) x)], (i : Int) + 1)
    generalize runB H C Q T (l.getD i default) x = X at hB ⊢
    rw [bindC_some]
    dsimp only [tB]
    rw [zb53 ok hB, bindC_some]
    generalize bandP a b c d X = P
    rw [if_pos ⟨by omega, by omega⟩, wS i (by omega)]
  · rw [if_neg hE]
    exact if_pos (by simpa using hE)
theorem j4_3_ok (hf : H.length ≤ 10 ∧ C.length ≤ 10 ∧ Q.length ≤ 10 ∧ T.length ≤ 10) {v : Int × Int} (hv : rulV H C Q T a b c d = some v) (x : BxV) (l : List (List (Int × Int))) (hl : l.length ≤ 14) (hc : ∀ y ∈ l, y.length ≤ 202) {s : Int} (hs : s = firstV [v.2, boxE x, profE l]) :
    j4_3 H C Q T a b c d x.pl x.ph x.al x.ah x.bl x.bh x.ml x.mh x.wl x.wh x.gl x.gh x.tl x.th l (if firstV [v.2, boxE x, profE l] = 0 then (l.map fun y => bandP a b c d (runB H C Q T y x), 0) else ([], firstV [v.2, boxE x, profE l])) s = some true := by
  unfold j4_3
  rw [← hs]
  by_cases hE : s = 0
  · rw [if_pos hE]
    refine (if_neg (by rw [hE]; decide)).trans ?_
    rw [hE] at hs
    have g0 : v.2 = 0 := by
      by_cases g : v.2 = 0
      · exact g
      · simp only [firstV, if_neg g] at hs; exact absurd hs.symm g
    have g1 : boxE x = 0 := by
      by_cases g : boxE x = 0
      · exact g
      · simp only [firstV, g0, if_true, if_neg g] at hs; exact absurd hs.symm g
    have g2 : profE l = 0 := by
      by_cases g : profE l = 0
      · exact g
      · simp only [firstV, g0, g1, if_true, if_neg g] at hs; exact absurd hs.symm g
    have hr : ∀ y ∈ l, rangsE y = 0 := by
      unfold profE at g2
      split at g2
      · exact absurd g2 (by decide)
      · exact fun y hy => fz g2 _ (List.mem_map.2 ⟨y, hy, rfl⟩)
    rw [z25 (rul_of hv g0) (bi_of g1) l hl hc hr]
    refine (if_pos (fun _ => rfl)).trans ?_
    show (if _ = true → (r24 (l.map fun y => bandP a b c d (runB H C Q T y x)) (l.map fun y => bandP a b c d (runB H C Q T y x))).isSome = true then some ((_ == (0 : Int)) && (r24 (l.map fun y => bandP a b c d (runB H C Q T y x)) (l.map fun y => bandP a b c d (runB H C Q T y x))).getD default) else none) = _
    have e24 := z24 (l.map fun y => bandP a b c d (runB H C Q T y x)) (by rw [List.length_map]; omega)
    generalize (l.map fun y => bandP a b c d (runB H C Q T y x)) = w at e24 ⊢
    simp [e24]
  · rw [if_neg hE]
    refine (if_pos (by simpa using hE)).trans ?_
    simp
end
theorem profiles (H : List (Int × Int × Int × Int)) (C : List (Int × Int × Int × Int × Int)) (Q : List (Int × Int × Int)) (T : List (Int × Int)) (a b c d x1 x2 x3 x4 x5 x6 x7 x8 x9 x10 x11 x12 x13 x14 : Int) (l : List (List (Int × Int))) :
    r4 H C Q T a b c d x1 x2 x3 x4 x5 x6 x7 x8 x9 x10 x11 x12 x13 x14 l = some true := by
  obtain ⟨v, hv⟩ := rulV_some H C Q T a b c d
  unfold r4
  rw [awakeS, Option.bind_some]
  refine (if_neg (by decide)).trans ?_
  rw [p13, Option.bind_some]
  by_cases hf : H.length ≤ 10 ∧ C.length ≤ 10 ∧ Q.length ≤ 10 ∧ T.length ≤ 10
  · have hf2 : (decide (H.length ≤ 10 ∧ C.length ≤ 10 ∧ Q.length ≤ 10 ∧ T.length ≤ 10)) = true := decide_eq_true hf
    rw [hf2]
    by_cases hs : l.length ≤ 6 ∨ 12 < l.length ∧ l.length ≤ 14
    · have n1 : ((decide ((l.length : Int) > 6)) && (decide ((l.length : Int) ≤ 12))) = false := by
        rw [Bool.and_eq_false_iff, decide_eq_false_iff_not, decide_eq_false_iff_not]; omega
      have n2 : (decide ((l.length : Int) > 14)) = false := decide_eq_false (by omega)
      refine (if_neg (by simp only [n1, n2]; decide)).trans ?_
      refine iter_ex l.length (by omega) _ (fun i => (l.getD i default).length ≤ 202) (fun i hi => ?_) (fun hP => ?_)
      · by_cases hb : (decide (((l.getD i default).length : Int) > 15) && (decide (((l.getD i default).length : Int) ≤ 200) || decide (((l.getD i default).length : Int) > 202))) = true
        · left
          refine (if_pos (ltN hi)).trans ((if_pos (rgN hi)).trans ((if_pos (fun _ => rgN hi)).trans ((if_pos (fun _ => rgN hi)).trans ?_)))
          rw [Int.toNat_natCast]
          exact if_pos hb
        · right
          refine ⟨?_, ?_⟩
          · simp only [Bool.and_eq_true, Bool.or_eq_true, decide_eq_true_eq] at hb
            show (l.getD i default).length ≤ 202
            omega
          · refine (if_pos (ltN hi)).trans ((if_pos (rgN hi)).trans ((if_pos (fun _ => rgN hi)).trans ((if_pos (fun _ => rgN hi)).trans ?_)))
            rw [Int.toNat_natCast]
            refine (if_neg hb).trans ?_
            rw [wS i (by omega)]
      · have hc : ∀ y ∈ l, y.length ≤ 202 := fun y hy => by
          obtain ⟨i, hi, rfl⟩ := List.mem_iff_getElem.1 hy
          have := hP i hi
          rwa [List.getD_eq_getElem?_getD, List.getElem?_eq_getElem hi] at this
        refine (if_neg (by simp)).trans ?_
        congr 1
        rw [p15 a b c d hf, Option.bind_some, z21 l (by omega) hc, Option.bind_some]
        have e20 := z20 (a := a) (b := b) (c := c) (d := d) hf hv ⟨x1, x2, x3, x4, x5, x6, x7, x8, x9, x10, x11, x12, x13, x14⟩ l (by omega) hc
        have e4 := fun s hs => j4_3_ok (a := a) (b := b) (c := c) (d := d) (s := s) hf hv ⟨x1, x2, x3, x4, x5, x6, x7, x8, x9, x10, x11, x12, x13, x14⟩ l (by omega) hc hs
        have e56 := p56 ⟨x1, x2, x3, x4, x5, x6, x7, x8, x9, x10, x11, x12, x13, x14⟩
        generalize boxE ⟨x1, x2, x3, x4, x5, x6, x7, x8, x9, x10, x11, x12, x13, x14⟩ = be at e20 e4 e56
        dsimp only at e20 e4 e56
        dsimp only
        rw [e20, Option.bind_some, p21 hv, Option.bind_some]
        by_cases h0 : v.2 = 0
        · refine (if_pos (by rw [h0]; decide)).trans ?_
          rw [e56, Option.bind_some]
          unfold j4_2
          by_cases hb : be = 0
          · refine (if_pos (by rw [hb]; decide)).trans ?_
            rw [z23 l (by omega) hc, Option.bind_some]
            refine e4 _ ?_
            simp only [firstV, h0, hb, if_true]
            by_cases hp : profE l = 0 <;> simp [hp]
          · refine (if_neg (by simpa using hb)).trans ?_
            refine e4 _ ?_
            simp only [firstV, h0, if_true, if_neg hb]
        · refine (if_neg (by simpa using h0)).trans ?_
          unfold j4_2
          refine (if_neg (by simpa using h0)).trans ?_
          refine e4 _ ?_
          simp only [firstV, if_neg h0]
    · have : (((!true) || ((decide ((l.length : Int) > 6)) && (decide ((l.length : Int) ≤ 12)))) || (decide ((l.length : Int) > 14))) = true := by
        simp only [Bool.or_eq_true, Bool.and_eq_true, decide_eq_true_eq, Bool.not_true]
        omega
      exact if_pos this
  · have hf2 : (decide (H.length ≤ 10 ∧ C.length ≤ 10 ∧ Q.length ≤ 10 ∧ T.length ≤ 10)) = false := decide_eq_false hf
    rw [hf2]
    exact if_pos rfl
end Go.Proofs.YtfkmbdfajpdjjaaGreatDoor

/- Steel: the step and the run of the reference as plain functions; errors of the code's runs (plain). -/
import Derived.Test.YtfkmbdfajpdjjaaDoorSteelFa
import Derived.Test.YtfkmbdfajpdjjaaDoorF14
set_option linter.unusedVariables false
set_option linter.unusedSimpArgs false
namespace Go.Proofs.YtfkmbdfajpdjjaaDoor
open Go.Abs

/-- an index, below 0 if there is none -/
def IxOf {α : Type} [Inhabited α] (l : List α) (o : Option α) (z : Int) : Prop := (o = none ∧ z = -1) ∨ ∃ j : Nat, j < l.length ∧ z = j ∧ o = some (l.getD j default)
theorem fold_last {α : Type} [Inhabited α] (p : α → Bool) : ∀ (r : List α) (i t : Int), ∃ z, foldC (ρ := Int) (fun i t x => Ctl.next (if p x = true then i else t)) (fun t => some t) i r t = some z ∧
    ((lastP p r = none ∧ z = t) ∨ ∃ j : Nat, j < r.length ∧ z = i + j ∧ lastP p r = some (r.getD j default))
  | [], i, t => ⟨t, rfl, .inl ⟨rfl, rfl⟩⟩
  | x :: r, i, t => by
    obtain ⟨z, h1, h2⟩ := fold_last p r (i + 1) (if p x = true then i else t)
    refine ⟨z, h1, ?_⟩
    rcases h2 with ⟨h3, h4⟩ | ⟨j, h3, h4, h5⟩
    · by_cases hp : p x = true
      · rw [if_pos hp] at h4
        exact .inr ⟨0, by simp, by omega, by simp only [lastP, h3, if_pos hp]; rfl⟩
      · rw [if_neg hp] at h4
        exact .inl ⟨by simp only [lastP, h3, if_neg hp], h4⟩
    · exact .inr ⟨j + 1, by simpa using h3, by omega, by simp only [lastP, h5]; simp⟩
theorem ix_lead {α : Type} [Inhabited α] (p : α → Bool) (l : List α) : IxOf l (l.find? p) (if lead (fun x => !p x) l < l.length then (lead (fun x => !p x) l : Int) else -1) := by
  rw [find_lead]
  by_cases g : lead (fun x => !p x) l < l.length
  · rw [if_pos g, if_pos g]; exact .inr ⟨_, g, rfl, rfl⟩
  · rw [if_neg g, if_neg g]; exact .inl ⟨rfl, rfl⟩
section
variable {H : List (Int × Int × Int × Int)} {C : List (Int × Int × Int × Int × Int)} {Q : List (Int × Int × Int)} {T : List (Int × Int)} {a b c d : Int}
theorem q33 (k : Int) (hl : H.length < 1000000000) : ∃ z, r33 H C Q T a b c d k = some z ∧ IxOf H (heatAt H k) z := by
  unfold r33 heatAt
  have h := iter_list (τ := Int) H (b33_1 H k) (fun i t => (t, i)) (fun i t x => .next (if decide (x.1 ≤ k) = true then i else t)) (fun t => some t) hl
    (fun i t hi => by
      refine (if_pos (ltN hi)).trans ((if_pos (rgN hi)).trans ?_)
      rw [Int.toNat_natCast, wS i (by omega)]
      by_cases g : (decide ((H.getD i default).1 ≤ k)) = true
      · simp only [g, if_true, mapC]
      · simp only [if_neg g, mapC])
    (fun t => if_neg (by simp)) (-1)
  rw [h]
  obtain ⟨z, h1, h2⟩ := fold_last (fun x : Int × Int × Int × Int => decide (x.1 ≤ k)) H 0 (-1)
  refine ⟨z, h1, ?_⟩
  rcases h2 with h2 | ⟨j, h3, h4, h5⟩
  · exact .inl h2
  · exact .inr ⟨j, h3, by omega, h5⟩
theorem q91 (k : Int) (hl : T.length < 1000000000) : ∃ z, r91 H C Q T a b c d k = some z ∧ IxOf T (tempAt T k) z := by
  unfold r91 tempAt
  have h := iter_list (τ := Int) T (b91_1 T k) (fun i t => (t, i)) (fun i t x => .next (if decide (x.1 ≤ k) = true then i else t)) (fun t => some t) hl
    (fun i t hi => by
      refine (if_pos (ltN hi)).trans ((if_pos (rgN hi)).trans ?_)
      rw [Int.toNat_natCast, wS i (by omega)]
      by_cases g : (decide ((T.getD i default).1 ≤ k)) = true
      · simp only [g, if_true, mapC]
      · simp only [if_neg g, mapC])
    (fun t => if_neg (by simp)) (-1)
  rw [h]
  obtain ⟨z, h1, h2⟩ := fold_last (fun x : Int × Int => decide (x.1 ≤ k)) T 0 (-1)
  refine ⟨z, h1, ?_⟩
  rcases h2 with h2 | ⟨j, h3, h4, h5⟩
  · exact .inl h2
  · exact .inr ⟨j, h3, by omega, h5⟩
theorem q34 (k : Int) (hl : C.length < 1000000000) : ∃ z, r34 H C Q T a b c d k = some z ∧ IxOf C (coolAt C k) z := by
  unfold r34 coolAt
  have h := iter_lead C (b34_1 C k) (fun x => !decide (x.1 ≥ k)) (fun i => some (if i < C.length then i else -1)) hl (fun i hi => by
    refine (if_pos (ltN hi)).trans ((if_pos (rgN hi)).trans ?_)
    rw [wS i (by omega), Int.toNat_natCast]
    by_cases g : (decide ((C.getD i default).1 ≥ k)) = true
    · rw [if_pos g, if_neg (by rw [g]; decide), if_pos (by omega)]
    · rw [if_neg g, if_pos (by simpa using g)]) ((if_neg (by simp)).trans (by simp))
  refine ⟨_, h, ?_⟩
  have := ix_lead (fun x : Int × Int × Int × Int × Int => decide (x.1 ≥ k)) C
  by_cases g : lead (fun x : Int × Int × Int × Int × Int => !decide (x.1 ≥ k)) C < C.length
  · rw [if_pos g] at this; rw [if_pos (by omega)]; exact this
  · rw [if_neg g] at this; rw [if_neg (by omega)]; exact this
theorem q35 (k : Int) (hl : Q.length < 1000000000) : ∃ z, r35 H C Q T a b c d k = some z ∧ IxOf Q (coldAt Q k) z := by
  unfold r35 coldAt
  have h := iter_lead Q (b35_1 Q k) (fun x => !decide (x.1 ≥ k)) (fun i => some (if i < Q.length then i else -1)) hl (fun i hi => by
    refine (if_pos (ltN hi)).trans ((if_pos (rgN hi)).trans ?_)
    rw [wS i (by omega), Int.toNat_natCast]
    by_cases g : (decide ((Q.getD i default).1 ≥ k)) = true
    · rw [if_pos g, if_neg (by rw [g]; decide), if_pos (by omega)]
    · rw [if_neg g, if_pos (by simpa using g)]) ((if_neg (by simp)).trans (by simp))
  refine ⟨_, h, ?_⟩
  have := ix_lead (fun x : Int × Int × Int => decide (x.1 ≥ k)) Q
  by_cases g : lead (fun x : Int × Int × Int => !decide (x.1 ≥ k)) Q < Q.length
  · rw [if_pos g] at this; rw [if_pos (by omega)]; exact this
  · rw [if_neg g] at this; rw [if_neg (by omega)]; exact this
theorem p89 {lo hi part : Int} (h1 : 0 ≤ lo) (h2 : lo ≤ hi) (h3 : hi ≤ 1000000) (h4 : 0 ≤ part) (h5 : part ≤ 1000) : r89 lo hi part = some (pkV lo hi part) := by
  have := p115 h1 h2 h3 h4 h5
  exact this
theorem p90 {a m sh : Int} (h1 : 0 ≤ a) (h2 : 0 ≤ m) (h3 : a + m ≤ 2000000) (h4 : 0 ≤ sh) (h5 : sh ≤ 1000000) : r90 a m sh = some (marV a m sh) := by
  have := p118 h1 h2 h3 h4 h5
  exact this
theorem j39_3_eq (ok : KnOk H C Q T) {p g t k : Int} (s2 : Int × Int × Int) (s3 : Int × Int) (ht : 0 ≤ t ∧ t ≤ 1000000) :
    j39_3 H C Q T a b c d p g t k s2 s3 = some (p, s3.1, s2.2.1, s3.2, s2.2.2, g, temO (tempAt T k) t) := by
  have lT := ok.lT
  obtain ⟨z, hz, hh⟩ := q91 (H := H) (C := C) (Q := Q) (a := a) (b := b) (c := c) (d := d) (T := T) k (by omega)
  unfold j39_3
  rw [hz, Option.bind_some]
  rcases hh with ⟨h1, rfl⟩ | ⟨j, hj, rfl, h1⟩
  · rw [h1]; exact if_neg (by decide)
  · have hx := ok.kt _ (getD_mem hj)
    rw [h1]
    refine (if_pos (by simp)).trans ((if_pos ⟨by omega, by omega⟩).trans ?_)
    rw [Int.toNat_natCast]
    generalize T.getD j default = y at hx
    rw [wI (a := t + y.2) (by omega) (by omega)]
    rfl
theorem j39_2_eq (ok : KnOk H C Q T) {p m g t k pq : Int} (s2 : Int × Int × Int) (hq : 0 ≤ pq ∧ pq ≤ 1000) (hA : 0 ≤ s2.1) (hm : 0 ≤ m) (hs : s2.1 + m ≤ 1000000) (ht : 0 ≤ t ∧ t ≤ 1000000) :
    j39_2 H C Q T a b c d p m g t k pq s2 = some (tailV (coldAt Q k) (tempAt T k) pq p s2.1 s2.2.1 m s2.2.2 g t) := by
  have lQ := ok.lQ
  obtain ⟨z, hz, hh⟩ := q35 (H := H) (C := C) (Q := Q) (a := a) (b := b) (c := c) (d := d) (T := T) k (by omega)
  obtain ⟨A, B, W⟩ := s2
  have hA : 0 ≤ A := hA
  have hs : A + m ≤ 1000000 := hs
  unfold j39_2 tailV
  rw [hz, Option.bind_some]
  rcases hh with ⟨h1, rfl⟩ | ⟨j, hj, rfl, h1⟩
  · rw [h1]
    refine (if_neg (by decide)).trans ?_
    rw [j39_3_eq ok _ _ ht]
    simp [marO]
  · have hx := ok.kq _ (getD_mem hj)
    rw [h1]
    refine (if_pos (by simp)).trans ((if_pos ⟨by omega, by omega⟩).trans ?_)
    rw [Int.toNat_natCast]
    generalize Q.getD j default = y at hx
    obtain ⟨b1, b2, _, _⟩ := pk_bounds hx.1 hx.2.1 hx.2.2 hq.1 hq.2
    obtain ⟨c1, c2, _, _⟩ := mar_bounds hA hm (show A + m ≤ 2000000 by omega) (show 0 ≤ pkV y.2.1 y.2.2 pq by omega) (by omega)
    rw [p89 hx.1 hx.2.1 hx.2.2 hq.1 hq.2, Option.bind_some]
    show (r90 A m (pkV y.2.1 y.2.2 pq)).bind _ = _
    rw [p90 hA hm (show A + m ≤ 2000000 by omega) (show 0 ≤ pkV y.2.1 y.2.2 pq by omega) (by omega), Option.bind_some, j39_3_eq ok _ _ ht]
    show some (p, IntKind.i64.wrap (IntKind.i64.wrap (A + m) - marV A m (pkV y.2.1 y.2.2 pq)), B, marV A m (pkV y.2.1 y.2.2 pq), W, g, _) = some (p, A - (marV A m (pkV y.2.1 y.2.2 pq) - m), B, marV A m (pkV y.2.1 y.2.2 pq), W, g, _)
    rw [wI (a := A + m) (by omega) (by omega), wI (a := A + m - marV A m (pkV y.2.1 y.2.2 pq)) (by omega) (by omega)]
    rw [show A + m - marV A m (pkV y.2.1 y.2.2 pq) = A - (marV A m (pkV y.2.1 y.2.2 pq) - m) by omega]
theorem p39 (ok : KnOk H C Q T) {k ph pc pq p s e m w g t : Int} (hph : 0 ≤ ph ∧ ph ≤ 1000) (hpc : 0 ≤ pc ∧ pc ≤ 1000) (hpq : 0 ≤ pq ∧ pq ≤ 1000) (st : StOk p s e m w g t) :
    r39 H C Q T a b c d p s e m w g t k ph pc pq = some (stepV H C Q T k ph pc pq p s e m w g t) := by
  obtain ⟨sp, sa, sb, sm, sw, sg, stt, ssum⟩ := st
  have lH := ok.lH
  have lC := ok.lC
  obtain ⟨z, hz, hh⟩ := q33 (H := H) (C := C) (Q := Q) (a := a) (b := b) (c := c) (d := d) (T := T) k (by omega)
  unfold r39 stepV
  rw [hz, Option.bind_some]
  rcases hh with ⟨h1, rfl⟩ | ⟨j, hj, rfl, h1⟩
  · rw [h1]
    refine (if_neg (by decide)).trans ?_
    obtain ⟨z, hz, hh⟩ := q34 (H := H) (C := C) (Q := Q) (a := a) (b := b) (c := c) (d := d) (T := T) k (by omega)
    rw [hz, Option.bind_some]
    rcases hh with ⟨h2, rfl⟩ | ⟨j, hj, rfl, h2⟩
    · rw [h2]
      refine (if_neg (by decide)).trans ?_
      exact j39_2_eq ok (s, e, w) hpq sa.1 sm.1 (show s + m ≤ 1000000 by omega) stt
    · have hx := ok.kc _ (getD_mem hj)
      rw [h2]
      refine (if_pos (by simp)).trans ((if_pos ⟨by omega, by omega⟩).trans ?_)
      rw [Int.toNat_natCast]
      generalize C.getD j default = x at hx
      obtain ⟨b1, b2, _, _⟩ := pk_bounds hx.1.1 hx.1.2.1 hx.1.2.2 hpc.1 hpc.2
      obtain ⟨b3, b4, _, _⟩ := pk_bounds hx.2.1 hx.2.2.1 hx.2.2.2 hpc.1 hpc.2
      rw [p89 hx.1.1 hx.1.2.1 hx.1.2.2 hpc.1 hpc.2, Option.bind_some, wI (a := w + pkV x.2.1 x.2.2.1 pc) (by omega) (by omega)]
      have hf : 0 ≤ capV (pkV x.2.2.2.1 x.2.2.2.2 pc) s ∧ capV (pkV x.2.2.2.1 x.2.2.2.2 pc) s ≤ s := by unfold capV; split <;> omega
      show (if (capV (w + pkV x.2.1 x.2.2.1 pc) 1000000 == 1000000) = true then _ else _) = some (if capV (w + pkV x.2.1 x.2.2.1 pc) 1000000 = 1000000 then
        tailV (coldAt Q k) (tempAt T k) pq p (s - capV (pkV x.2.2.2.1 x.2.2.2.2 pc) s) (e + capV (pkV x.2.2.2.1 x.2.2.2.2 pc) s) m (capV (w + pkV x.2.1 x.2.2.1 pc) 1000000) g t
        else tailV (coldAt Q k) (tempAt T k) pq p s e m (capV (w + pkV x.2.1 x.2.2.1 pc) 1000000) g t)
      by_cases hw : capV (w + pkV x.2.1 x.2.2.1 pc) 1000000 = 1000000
      · rw [if_pos hw]
        refine (if_pos (beq_iff_eq.2 hw)).trans ((if_pos ⟨by omega, by omega⟩).trans ?_)
        rw [p89 hx.2.1 hx.2.2.1 hx.2.2.2 hpc.1 hpc.2, Option.bind_some]
        show j39_2 H C Q T a b c d p m g t k pq (IntKind.i64.wrap (s - capV (pkV x.2.2.2.1 x.2.2.2.2 pc) s), IntKind.i64.wrap (e + capV (pkV x.2.2.2.1 x.2.2.2.2 pc) s), capV (w + pkV x.2.1 x.2.2.1 pc) 1000000) = _
        rw [wI (a := s - capV (pkV x.2.2.2.1 x.2.2.2.2 pc) s) (by omega) (by omega), wI (a := e + capV (pkV x.2.2.2.1 x.2.2.2.2 pc) s) (by omega) (by omega)]
        exact j39_2_eq ok (s - capV (pkV x.2.2.2.1 x.2.2.2.2 pc) s, e + capV (pkV x.2.2.2.1 x.2.2.2.2 pc) s, capV (w + pkV x.2.1 x.2.2.1 pc) 1000000) hpq (show 0 ≤ s - capV (pkV x.2.2.2.1 x.2.2.2.2 pc) s by omega) sm.1 (show s - capV (pkV x.2.2.2.1 x.2.2.2.2 pc) s + m ≤ 1000000 by omega) stt
      · rw [if_neg hw]
        refine (if_neg (fun h => hw (beq_iff_eq.1 h))).trans ?_
        exact j39_2_eq ok (s, e, capV (w + pkV x.2.1 x.2.2.1 pc) 1000000) hpq sa.1 sm.1 (show s + m ≤ 1000000 by omega) stt
  · have hx := ok.kh _ (getD_mem hj)
    rw [h1]
    refine (if_pos (by simp)).trans ((if_pos ⟨by omega, by omega⟩).trans ?_)
    rw [Int.toNat_natCast]
    generalize H.getD j default = x at hx
    obtain ⟨b1, b2, _, _⟩ := pk_bounds hx.1.1 hx.1.2.1 hx.1.2.2 hph.1 hph.2
    rw [p89 hx.1.1 hx.1.2.1 hx.1.2.2 hph.1 hph.2, Option.bind_some]
    show _ = some (hotV x ph p s e m g)
    unfold hotV j39_1
    simp only [wI (a := p + e) (by omega) (by omega), wI (a := p + e + m) (by omega) (by omega)]
    rw [show p + e + m = p + (e + m) by omega]
    have hf : 0 ≤ capV (pkV x.2.1 x.2.2.1 ph) (p + (e + m)) ∧ capV (pkV x.2.1 x.2.2.1 ph) (p + (e + m)) ≤ p + (e + m) := by unfold capV; split <;> omega
    show (if (decide (IntKind.i64.wrap (s + capV (pkV x.2.1 x.2.2.1 ph) (p + (e + m))) > 0)) = true then
      if 0 ≤ (j : Int) ∧ (j : Int) < (H.length : Int) then some (IntKind.i64.wrap (p + (e + m) - capV (pkV x.2.1 x.2.2.1 ph) (p + (e + m))), IntKind.i64.wrap (s + capV (pkV x.2.1 x.2.2.1 ph) (p + (e + m))), 0, 0, 0, capV (IntKind.i64.wrap (g + x.2.2.2)) 100000, 0) else none else
      some (IntKind.i64.wrap (p + (e + m) - capV (pkV x.2.1 x.2.2.1 ph) (p + (e + m))), IntKind.i64.wrap (s + capV (pkV x.2.1 x.2.2.1 ph) (p + (e + m))), 0, 0, 0, g, 0)) = _
    rw [wI (a := s + capV (pkV x.2.1 x.2.2.1 ph) (p + (e + m))) (by omega) (by omega), wI (a := p + (e + m) - capV (pkV x.2.1 x.2.2.1 ph) (p + (e + m))) (by omega) (by omega), wI (a := g + x.2.2.2) (by omega) (by omega)]
    by_cases hpos : s + capV (pkV x.2.1 x.2.2.1 ph) (p + (e + m)) > 0
    · refine (if_pos (by simpa using hpos)).trans ((if_pos ⟨by omega, by omega⟩).trans ?_)
      rw [if_pos hpos]
    · refine (if_neg (by simpa using hpos)).trans ?_
      rw [if_neg hpos]
theorem p40 (ok : KnOk H C Q T) {ph pc pq p s e m w g t : Int} (hph : 0 ≤ ph ∧ ph ≤ 1000) (hpc : 0 ≤ pc ∧ pc ≤ 1000) (hpq : 0 ≤ pq ∧ pq ≤ 1000) (l : List Int) (hl : l.length < 1000000000) (st : StOk p s e m w g t) :
    r40 H C Q T a b c d p s e m w g t l ph pc pq = some (runV H C Q T ph pc pq l (p, s, e, m, w, g, t)) := by
  unfold r40
  have key : ∀ (k i fuel : Nat) (x : St7), i + k = l.length → k < fuel → StO x → iterC (b40_1 H C Q T a b c d l ph pc pq) fuel ((i : Int), x) = some (runV H C Q T ph pc pq (l.drop i) x) := by
    intro k
    induction k with
    | zero =>
      intro i fuel x hi hf hx
      obtain ⟨n, rfl⟩ : ∃ n, fuel = n + 1 := ⟨fuel - 1, by omega⟩
      obtain rfl : i = l.length := by omega
      have : b40_1 H C Q T a b c d l ph pc pq ((l.length : Int), x) = .out (some x) := if_neg (by simp)
      simp only [iterC, this, List.drop_length, runV]
    | succ k ih =>
      intro i fuel x hi hf hx
      obtain ⟨n, rfl⟩ : ∃ n, fuel = n + 1 := ⟨fuel - 1, by omega⟩
      have hlt : i < l.length := by omega
      have hd : l.drop i = l.getD i default :: l.drop (i + 1) := by
        rw [List.drop_eq_getElem_cons hlt]; simp [List.getD_eq_getElem?_getD, hlt]
      obtain ⟨p, s, e, m, w, g, t⟩ := x
      have hx : StOk p s e m w g t := hx
      have e1 : b40_1 H C Q T a b c d l ph pc pq ((i : Int), p, s, e, m, w, g, t) = .next ((i : Int) + 1, stepV H C Q T (l.getD i default) ph pc pq p s e m w g t) := by
        refine (if_pos (ltN hlt)).trans ((if_pos (rgN hlt)).trans ?_)
        show bindC (r39 H C Q T a b c d p s e m w g t (l.getD i default) ph pc pq) _ = _
        rw [p39 ok hph hpc hpq hx]
        show Ctl.next (IntKind.i64.wrap ((i : Int) + 1), _) = _
        rw [wS i (by omega)]
      simp only [iterC, e1]
      rw [hd]
      exact ih (i + 1) n _ (by omega) (by omega) (step_ok ok hph hpc hpq hx).1
  exact key l.length 0 1000000000 (p, s, e, m, w, g, t) (by omega) hl st
theorem p38 (ok : RulOk H C Q T a b c d) {p s e m w g t : Int} (st : StOk p s e m w g t) : r38 H C Q T a b c d p s e m w g t = some (hdV a b c d p s e m t) := by
  have q1 := ok.ha; have q2 := ok.hab; have q3 := ok.hbc; have q4 := ok.hcd; have q5 := ok.hd
  obtain ⟨sp, sa, sb, sm, sw, sg, stt, ssum⟩ := st
  have hM := mHard_b ok stt.1
  have m1 := mul_b sp.1 sp.2 q1 (show a ≤ 2000 by omega)
  have m2 := mul_b sa.1 sa.2 (show 0 ≤ b by omega) (show b ≤ 2000 by omega)
  have m3 := mul_b sb.1 sb.2 (show 0 ≤ c by omega) (show c ≤ 2000 by omega)
  have m4 := mul_b sm.1 sm.2 (show 0 ≤ mHard c d t by omega) (show mHard c d t ≤ 2000 by omega)
  have wM : (if c < IntKind.i64.wrap (d - t) then IntKind.i64.wrap (d - t) else c) = mHard c d t := by rw [wI (by omega) (by omega)]; rfl
  unfold r38 r88
  rw [Option.bind_some]
  simp only [wM]
  rw [wI (a := p * a) (by omega) (by omega), wI (a := s * b) (by omega) (by omega), wI (a := e * c) (by omega) (by omega), wI (a := m * mHard c d t) (by omega) (by omega), wI (a := p * a + s * b) (by omega) (by omega), wI (a := p * a + s * b + e * c) (by omega) (by omega), wI (a := p * a + s * b + e * c + m * mHard c d t) (by omega) (by omega)]
  unfold hdV
  have : 0 ≤ (p * a + s * b + e * c + m * mHard c d t).tdiv 1000000 ∧ (p * a + s * b + e * c + m * mHard c d t).tdiv 1000000 ≤ 10000000000 := by
    rw [Int.tdiv_eq_ediv_of_nonneg (by omega)]; omega
  rw [wI (by omega) (by omega)]
theorem e30 (hf : H.length ≤ 10 ∧ C.length ≤ 10 ∧ Q.length ≤ 10 ∧ T.length ≤ 10) {v : Int × Int} (hv : rulV H C Q T a b c d = some v) {k ph pc pq p s e m w g t x : Int} (hx : firstV [v.2, staE p s e m w g t, kelE k, pickE ph pc pq] = x) (h0 : x ≠ 0) :
    r30 H C Q T a b c d p s e m w g t k ph pc pq = some (0, 0, 0, 0, 0, 0, 0, x) := by
  unfold r30
  rw [p73 hf hv, Option.bind_some, p17, Option.bind_some, p84, Option.bind_some, p19, Option.bind_some]
  show (r67 [v.2, staE p s e m w g t, kelE k, pickE ph pc pq]).bind _ = _
  rw [p67 _ (by simp), Option.bind_some, hx]
  exact if_pos (by simpa using h0)
theorem e23 (hf : H.length ≤ 10 ∧ C.length ≤ 10 ∧ Q.length ≤ 10 ∧ T.length ≤ 10) {v : Int × Int} (hv : rulV H C Q T a b c d = some v) {l : List Int} (hl : l.length < 1000000000) {ph pc pq p s e m w g t x : Int} (hx : firstV [v.2, staE p s e m w g t, curveE l, pickE ph pc pq] = x) (h0 : x ≠ 0) :
    r23 H C Q T a b c d p s e m w g t l ph pc pq = some (0, 0, 0, 0, 0, 0, 0, x) := by
  unfold r23
  rw [p73 hf hv, Option.bind_some, p17, Option.bind_some, p74 l hl, Option.bind_some, p19, Option.bind_some, p67 _ (by simp), Option.bind_some, hx]
  exact if_pos (by simpa using h0)
theorem e31 (hf : H.length ≤ 10 ∧ C.length ≤ 10 ∧ Q.length ≤ 10 ∧ T.length ≤ 10) {v : Int × Int} (hv : rulV H C Q T a b c d = some v) {p s e m w g t x : Int} (hx : firstV [v.2, staE p s e m w g t] = x) (h0 : x ≠ 0) :
    r31 H C Q T a b c d p s e m w g t = some (0, x) := by
  unfold r31
  rw [p73 hf hv, Option.bind_some, p17, Option.bind_some, p67 _ (by simp), Option.bind_some, hx]
  exact if_pos (by simpa using h0)
end
end Go.Proofs.YtfkmbdfajpdjjaaDoor

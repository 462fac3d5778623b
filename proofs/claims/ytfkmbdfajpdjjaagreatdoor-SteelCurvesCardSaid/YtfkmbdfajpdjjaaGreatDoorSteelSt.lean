/- Steel: the step and the run of the reference as plain functions; errors of the code's runs (plain). -/
import Derived.Test.YtfkmbdfajpdjjaaGreatDoorF03
import Derived.Test.YtfkmbdfajpdjjaaGreatDoorF08
import Derived.Test.YtfkmbdfajpdjjaaGreatDoorF12
import Derived.Test.YtfkmbdfajpdjjaaGreatDoorSteelFa
import Derived.Test.YtfkmbdfajpdjjaaGreatDoorSteelIx
set_option linter.unusedVariables false
set_option linter.unusedSimpArgs false
namespace Go.Proofs.YtfkmbdfajpdjjaaGreatDoor
open Go.Abs

section
variable {H : List (Int × Int × Int × Int)} {C : List (Int × Int × Int × Int × Int)} {Q : List (Int × Int × Int)} {T : List (Int × Int)} {a b c d : Int}
theorem p89 {lo hi part : Int} (h1 : 0 ≤ lo) (h2 : lo ≤ hi) (h3 : hi ≤ 1000000) (h4 : 0 ≤ part) (h5 : part ≤ 1000) : r126 lo hi part = some (pkV lo hi part) := by
  have := p115 h1 h2 h3 h4 h5
  exact this
theorem j39_3_eq (ok : KnOk H C Q T) {p g t k : Int} (s2 : Int × Int × Int) (s3 : Int × Int) (ht : 0 ≤ t ∧ t ≤ 1000000) :
    j98_3 H C Q T a b c d p g t k s2 s3 = some (p, s3.1, s2.2.1, s3.2, s2.2.2, g, temO (tempAt T k) t) := by
  have lT := ok.lT
  obtain ⟨z, hz, hh⟩ := q91 (H := H) (C := C) (Q := Q) (a := a) (b := b) (c := c) (d := d) (T := T) k (by omega)
  unfold j98_3
  rw [hz, Option.bind_some]
  rcases hh with ⟨h1, rfl⟩ | ⟨j, hj, rfl, h1⟩
  · rw [h1]; exact if_neg (by decide)
  · have hx := ok.kt _ (getD_mem hj)
    rw [h1]
    refine (if_pos (by simp)).trans ((if_pos ⟨by omega, by omega⟩).trans ?_)
    rw [Int.toNat_natCast]
    generalize T.getD j default = y at hx
    rw [wI (a := t + y.2) (by omega) (by omega)]
    rfl
theorem j39_2_eq (ok : KnOk H C Q T) {p m g t k pq : Int} (s2 : Int × Int × Int) (hq : 0 ≤ pq ∧ pq ≤ 1000) (hA : 0 ≤ s2.1) (hm : 0 ≤ m) (hs : s2.1 + m ≤ 1000000) (ht : 0 ≤ t ∧ t ≤ 1000000) :
    j98_2 H C Q T a b c d p m g t k pq s2 = some (tailV (coldAt Q k) (tempAt T k) pq p s2.1 s2.2.1 m s2.2.2 g t) := by
  have lQ := ok.lQ
  obtain ⟨z, hz, hh⟩ := q35 (H := H) (C := C) (Q := Q) (a := a) (b := b) (c := c) (d := d) (T := T) k (by omega)
  obtain ⟨A, B, W⟩ := s2
  have hA : 0 ≤ A := hA
  have hs : A + m ≤ 1000000 := hs
  unfold j98_2 tailV
  rw [hz, Option.bind_some]
  rcases hh with ⟨h1, rfl⟩ | ⟨j, hj, rfl, h1⟩
  · rw [h1]
    refine (if_neg (by decide)).trans ?_
    rw [j39_3_eq ok _ _ ht]
    simp [marO]
  · have hx := ok.kq _ (getD_mem hj)
    rw [h1]
    refine (if_pos (by simp)).trans ((if_pos ⟨by omega, by omega⟩).trans ?_)
    rw [Int.toNat_natCast]
    generalize Q.getD j default = y at hx
    obtain ⟨b1, b2, _, _⟩ := pk_bounds hx.1 hx.2.1 hx.2.2 hq.1 hq.2
    obtain ⟨c1, c2, _, _⟩ := mar_bounds hA hm (show A + m ≤ 2000000 by omega) (show 0 ≤ pkV y.2.1 y.2.2 pq by omega) (by omega)
    rw [p89 hx.1 hx.2.1 hx.2.2 hq.1 hq.2, Option.bind_some]
    show (r104 A m (pkV y.2.1 y.2.2 pq)).bind _ = _
    rw [p90 hA hm (show A + m ≤ 2000000 by omega) (show 0 ≤ pkV y.2.1 y.2.2 pq by omega) (by omega), Option.bind_some, j39_3_eq ok _ _ ht]
    show some (p, IntKind.i64.wrap (IntKind.i64.wrap (A + m) - marV A m (pkV y.2.1 y.2.2 pq)), B, marV A m (pkV y.2.1 y.2.2 pq), W, g, _) = some (p, A - (marV A m (pkV y.2.1 y.2.2 pq) - m), B, marV A m (pkV y.2.1 y.2.2 pq), W, g, _)
    rw [wI (a := A + m) (by omega) (by omega), wI (a := A + m - marV A m (pkV y.2.1 y.2.2 pq)) (by omega) (by omega)]
    rw [show A + m - marV A m (pkV y.2.1 y.2.2 pq) = A - (marV A m (pkV y.2.1 y.2.2 pq) - m) by omega]
theorem p39 (ok : KnOk H C Q T) {k ph pc pq p s e m w g t : Int} (hph : 0 ≤ ph ∧ ph ≤ 1000) (hpc : 0 ≤ pc ∧ pc ≤ 1000) (hpq : 0 ≤ pq ∧ pq ≤ 1000) (st : StOk p s e m w g t) :
    r98 H C Q T a b c d p s e m w g t k ph pc pq = some (stepV H C Q T k ph pc pq p s e m w g t) := by
  obtain ⟨sp, sa, sb, sm, sw, sg, stt, ssum⟩ := st
  have lH := ok.lH
  have lC := ok.lC
  obtain ⟨z, hz, hh⟩ := q33 (H := H) (C := C) (Q := Q) (a := a) (b := b) (c := c) (d := d) (T := T) k (by omega)
  unfold r98 stepV
  rw [hz, Option.bind_some]
  rcases hh with ⟨h1, rfl⟩ | ⟨j, hj, rfl, h1⟩
  · rw [h1]
    refine (if_neg (by decide)).trans ?_
    obtain ⟨z, hz, hh⟩ := q34 (H := H) (C := C) (Q := Q) (a := a) (b := b) (c := c) (d := d) (T := T) k (by omega)
    rw [hz, Option.bind_some]
    rcases hh with ⟨h2, rfl⟩ | ⟨j, hj, rfl, h2⟩
    · rw [h2]
      refine (if_neg (by decide)).trans ?_
      exact j39_2_eq ok (s, e, w) hpq sa.1 sm.1 (show s + m ≤ 1000000 by omega) stt
    · have hx := ok.kc _ (getD_mem hj)
      rw [h2]
      refine (if_pos (by simp)).trans ((if_pos ⟨by omega, by omega⟩).trans ?_)
      rw [Int.toNat_natCast]
      generalize C.getD j default = x at hx
      obtain ⟨b1, b2, _, _⟩ := pk_bounds hx.1.1 hx.1.2.1 hx.1.2.2 hpc.1 hpc.2
      obtain ⟨b3, b4, _, _⟩ := pk_bounds hx.2.1 hx.2.2.1 hx.2.2.2 hpc.1 hpc.2
      rw [p89 hx.1.1 hx.1.2.1 hx.1.2.2 hpc.1 hpc.2, Option.bind_some, wI (a := w + pkV x.2.1 x.2.2.1 pc) (by omega) (by omega)]
      have hf : 0 ≤ capV (pkV x.2.2.2.1 x.2.2.2.2 pc) s ∧ capV (pkV x.2.2.2.1 x.2.2.2.2 pc) s ≤ s := by unfold capV; split <;> omega
      show (if (capV (w + pkV x.2.1 x.2.2.1 pc) 1000000 == 1000000) = true then _ else _) = some (if capV (w + pkV x.2.1 x.2.2.1 pc) 1000000 = 1000000 then
        tailV (coldAt Q k) (tempAt T k) pq p (s - capV (pkV x.2.2.2.1 x.2.2.2.2 pc) s) (e + capV (pkV x.2.2.2.1 x.2.2.2.2 pc) s) m (capV (w + pkV x.2.1 x.2.2.1 pc) 1000000) g t
        else tailV (coldAt Q k) (tempAt T k) pq p s e m (capV (w + pkV x.2.1 x.2.2.1 pc) 1000000) g t)
      by_cases hw : capV (w + pkV x.2.1 x.2.2.1 pc) 1000000 = 1000000
      · rw [if_pos hw]
        refine (if_pos (beq_iff_eq.2 hw)).trans ((if_pos ⟨by omega, by omega⟩).trans ?_)
        rw [p89 hx.2.1 hx.2.2.1 hx.2.2.2 hpc.1 hpc.2, Option.bind_some]
        show j98_2 H C Q T a b c d p m g t k pq (IntKind.i64.wrap (s - capV (pkV x.2.2.2.1 x.2.2.2.2 pc) s), IntKind.i64.wrap (e + capV (pkV x.2.2.2.1 x.2.2.2.2 pc) s), capV (w + pkV x.2.1 x.2.2.1 pc) 1000000) = _
        rw [wI (a := s - capV (pkV x.2.2.2.1 x.2.2.2.2 pc) s) (by omega) (by omega), wI (a := e + capV (pkV x.2.2.2.1 x.2.2.2.2 pc) s) (by omega) (by omega)]
        exact j39_2_eq ok (s - capV (pkV x.2.2.2.1 x.2.2.2.2 pc) s, e + capV (pkV x.2.2.2.1 x.2.2.2.2 pc) s, capV (w + pkV x.2.1 x.2.2.1 pc) 1000000) hpq (show 0 ≤ s - capV (pkV x.2.2.2.1 x.2.2.2.2 pc) s by omega) sm.1 (show s - capV (pkV x.2.2.2.1 x.2.2.2.2 pc) s + m ≤ 1000000 by omega) stt
      · rw [if_neg hw]
        refine (if_neg (fun h => hw (beq_iff_eq.1 h))).trans ?_
        exact j39_2_eq ok (s, e, capV (w + pkV x.2.1 x.2.2.1 pc) 1000000) hpq sa.1 sm.1 (show s + m ≤ 1000000 by omega) stt
  · have hx := ok.kh _ (getD_mem hj)
    rw [h1]
    refine (if_pos (by simp)).trans ((if_pos ⟨by omega, by omega⟩).trans ?_)
    rw [Int.toNat_natCast]
    generalize H.getD j default = x at hx
    obtain ⟨b1, b2, _, _⟩ := pk_bounds hx.1.1 hx.1.2.1 hx.1.2.2 hph.1 hph.2
    rw [p89 hx.1.1 hx.1.2.1 hx.1.2.2 hph.1 hph.2, Option.bind_some]
    show _ = some (hotV x ph p s e m g)
    unfold hotV j98_1
    simp only [wI (a := p + e) (by omega) (by omega), wI (a := p + e + m) (by omega) (by omega)]
    rw [show p + e + m = p + (e + m) by omega]
    have hf : 0 ≤ capV (pkV x.2.1 x.2.2.1 ph) (p + (e + m)) ∧ capV (pkV x.2.1 x.2.2.1 ph) (p + (e + m)) ≤ p + (e + m) := by unfold capV; split <;> omega
    show (if (decide (IntKind.i64.wrap (s + capV (pkV x.2.1 x.2.2.1 ph) (p + (e + m))) > 0)) = true then
      if 0 ≤ (j : Int) ∧ (j : Int) < (H.length : Int) then some (IntKind.i64.wrap (p + (e + m) - capV (pkV x.2.1 x.2.2.1 ph) (p + (e + m))), IntKind.i64.wrap (s + capV (pkV x.2.1 x.2.2.1 ph) (p + (e + m))), 0, 0, 0, capV (IntKind.i64.wrap (g + x.2.2.2)) 100000, 0) else none else
      some (IntKind.i64.wrap (p + (e + m) - capV (pkV x.2.1 x.2.2.1 ph) (p + (e + m))), IntKind.i64.wrap (s + capV (pkV x.2.1 x.2.2.1 ph) (p + (e + m))), 0, 0, 0, g, 0)) = _
    rw [wI (a := s + capV (pkV x.2.1 x.2.2.1 ph) (p + (e + m))) (by omega) (by omega), wI (a := p + (e + m) - capV (pkV x.2.1 x.2.2.1 ph) (p + (e + m))) (by omega) (by omega), wI (a := g + x.2.2.2) (by omega) (by omega)]
    by_cases hpos : s + capV (pkV x.2.1 x.2.2.1 ph) (p + (e + m)) > 0
    · refine (if_pos (by simpa using hpos)).trans ((if_pos ⟨by omega, by omega⟩).trans ?_)
      rw [if_pos hpos]
    · refine (if_neg (by simpa using hpos)).trans ?_
      rw [if_neg hpos]
theorem p40 (ok : KnOk H C Q T) {ph pc pq p s e m w g t : Int} (hph : 0 ≤ ph ∧ ph ≤ 1000) (hpc : 0 ≤ pc ∧ pc ≤ 1000) (hpq : 0 ≤ pq ∧ pq ≤ 1000) (l : List Int) (hl : l.length < 1000000000) (st : StOk p s e m w g t) :
    r57 H C Q T a b c d p s e m w g t l ph pc pq = some (runV H C Q T ph pc pq l (p, s, e, m, w, g, t)) := by
  unfold r57
  have key : ∀ (k i fuel : Nat) (x : St7), i + k = l.length → k < fuel → StO x → iterC (b57_1 H C Q T a b c d l ph pc pq) fuel ((i : Int), x) = some (runV H C Q T ph pc pq (l.drop i) x) := by
    intro k
    induction k with
    | zero =>
      intro i fuel x hi hf hx
      obtain ⟨n, rfl⟩ : ∃ n, fuel = n + 1 := ⟨fuel - 1, by omega⟩
      obtain rfl : i = l.length := by omega
      have : b57_1 H C Q T a b c d l ph pc pq ((l.length : Int), x) = .out (some x) := if_neg (by simp)
      simp only [iterC, this, List.drop_length, runV]
    | succ k ih =>
      intro i fuel x hi hf hx
      obtain ⟨n, rfl⟩ : ∃ n, fuel = n + 1 := ⟨fuel - 1, by omega⟩
      have hlt : i < l.length := by omega
      have hd : l.drop i = l.getD i default :: l.drop (i + 1) := by
        rw [List.drop_eq_getElem_cons hlt]; simp [List.getD_eq_getElem?_getD, hlt]
      obtain ⟨p, s, e, m, w, g, t⟩ := x
      have hx : StOk p s e m w g t := hx
      have e1 : b57_1 H C Q T a b c d l ph pc pq ((i : Int), p, s, e, m, w, g, t) = .next ((i : Int) + 1, stepV H C Q T (l.getD i default) ph pc pq p s e m w g t) := by
        refine (if_pos (ltN hlt)).trans ((if_pos (rgN hlt)).trans ?_)
        show bindC (r98 H C Q T a b c d p s e m w g t (l.getD i default) ph pc pq) _ = _
        rw [p39 ok hph hpc hpq hx]
        show Ctl.next (IntKind.i64.wrap ((i : Int) + 1), _) = _
        rw [wS i (by omega)]
      simp only [iterC, e1]
      rw [hd]
      exact ih (i + 1) n _ (by omega) (by omega) (step_ok ok hph hpc hpq hx).1
  exact key l.length 0 1000000000 (p, s, e, m, w, g, t) (by omega) hl st
end
end Go.Proofs.YtfkmbdfajpdjjaaGreatDoor

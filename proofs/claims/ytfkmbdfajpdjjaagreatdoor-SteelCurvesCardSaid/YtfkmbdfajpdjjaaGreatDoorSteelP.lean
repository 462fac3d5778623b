/- Steel: a step of the code as a plain function. -/
import Derived.Test.YtfkmbdfajpdjjaaGreatDoorF02
import Derived.Test.YtfkmbdfajpdjjaaGreatDoorF03
import Derived.Test.YtfkmbdfajpdjjaaGreatDoorSteelF
set_option linter.unusedVariables false
set_option linter.unusedSimpArgs false
namespace Go.Proofs.YtfkmbdfajpdjjaaGreatDoor
open Go.Abs

abbrev St7 := Int × Int × Int × Int × Int × Int × Int
/-- knots whose ranges are right -/
structure KnOk (H : List (Int × Int × Int × Int)) (C : List (Int × Int × Int × Int × Int)) (Q : List (Int × Int × Int)) (T : List (Int × Int)) : Prop where
  lH : H.length ≤ 8
  lC : C.length ≤ 8
  lQ : Q.length ≤ 8
  lT : T.length ≤ 8
  kh : ∀ x ∈ H, (0 ≤ x.2.1 ∧ x.2.1 ≤ x.2.2.1 ∧ x.2.2.1 ≤ 1000000) ∧ 0 ≤ x.2.2.2 ∧ x.2.2.2 ≤ 1000000
  kc : ∀ x ∈ C, (0 ≤ x.2.1 ∧ x.2.1 ≤ x.2.2.1 ∧ x.2.2.1 ≤ 1000000) ∧ 0 ≤ x.2.2.2.1 ∧ x.2.2.2.1 ≤ x.2.2.2.2 ∧ x.2.2.2.2 ≤ 1000000
  kq : ∀ x ∈ Q, 0 ≤ x.2.1 ∧ x.2.1 ≤ x.2.2 ∧ x.2.2 ≤ 1000000
  kt : ∀ x ∈ T, 0 ≤ x.2 ∧ x.2 ≤ 1000000
structure StOk (p a b m w g t : Int) : Prop where
  hp : 0 ≤ p ∧ p ≤ 1000000
  ha : 0 ≤ a ∧ a ≤ 1000000
  hb : 0 ≤ b ∧ b ≤ 1000000
  hm : 0 ≤ m ∧ m ≤ 1000000
  hw : 0 ≤ w ∧ w ≤ 1000000
  hg : 0 ≤ g ∧ g ≤ 100000
  ht : 0 ≤ t ∧ t ≤ 1000000
  sum : p + a + b + m = 1000000
def capV (n M : Int) : Int := if n < M then n else M
def hotV (x : Int × Int × Int × Int) (ph p a b m g : Int) : St7 :=
  (p + (b + m) - capV (pkV x.2.1 x.2.2.1 ph) (p + (b + m)), a + capV (pkV x.2.1 x.2.2.1 ph) (p + (b + m)), 0, 0, 0,
    (if a + capV (pkV x.2.1 x.2.2.1 ph) (p + (b + m)) > 0 then capV (g + x.2.2.2) 100000 else g), 0)
def marO (q : Option (Int × Int × Int)) (pq A m : Int) : Int := match q with | none => m | some x => marV A m (pkV x.2.1 x.2.2 pq)
def temO (tk : Option (Int × Int)) (t : Int) : Int := match tk with | none => t | some y => capV (t + y.2) 1000000
def tailV (q : Option (Int × Int × Int)) (tk : Option (Int × Int)) (pq p A B m W g t : Int) : St7 :=
  (p, A - (marO q pq A m - m), B, marO q pq A m, W, g, temO tk t)
def coldV (co : Option (Int × Int × Int × Int × Int)) (q : Option (Int × Int × Int)) (tk : Option (Int × Int)) (pc pq p a b m w g t : Int) : St7 :=
  match co with
  | none => tailV q tk pq p a b m w g t
  | some x =>
    if capV (w + pkV x.2.1 x.2.2.1 pc) 1000000 = 1000000 then
      tailV q tk pq p (a - capV (pkV x.2.2.2.1 x.2.2.2.2 pc) a) (b + capV (pkV x.2.2.2.1 x.2.2.2.2 pc) a) m (capV (w + pkV x.2.1 x.2.2.1 pc) 1000000) g t
    else tailV q tk pq p a b m (capV (w + pkV x.2.1 x.2.2.1 pc) 1000000) g t
/-- a step -/
def stepV (H : List (Int × Int × Int × Int)) (C : List (Int × Int × Int × Int × Int)) (Q : List (Int × Int × Int)) (T : List (Int × Int)) (k ph pc pq p a b m w g t : Int) : St7 :=
  match heatAt H k with
  | some x => hotV x ph p a b m g
  | none => coldV (coolAt C k) (coldAt Q k) (tempAt T k) pc pq p a b m w g t
section
variable (H : List (Int × Int × Int × Int)) (C : List (Int × Int × Int × Int × Int)) (Q : List (Int × Int × Int)) (T : List (Int × Int)) (a b c d : Int)
def tailC (k pq p A B m W g t : Int) : Option St7 :=
  (r91 H C Q T a b c d k).bind fun v36 =>
       if v36.isSome = true then
        if v36.isSome = true then
         if v36.isSome = true then
          (r125 ((v36.getD default).2.1) ((v36.getD default).2.2) pq).bind fun v37 =>
           (r121 A m v37).bind fun v38 =>
            (r93 H C Q T a b c d k).bind fun v39 =>
             if v39.isSome = true then
              if v39.isSome = true then
               if v39.isSome = true then
                some (p, IntKind.i64.wrap (A - (IntKind.i64.wrap (v38 - m))), B, v38, W, g, (if IntKind.i64.wrap (t + ((v39.getD default).2)) < 1000000 then IntKind.i64.wrap (t + ((v39.getD default).2)) else 1000000))
                else none
               else none
              else some (p, IntKind.i64.wrap (A - (IntKind.i64.wrap (v38 - m))), B, v38, W, g, t)
          else none
         else none
        else (r93 H C Q T a b c d k).bind fun v44 =>
         if v44.isSome = true then
          if v44.isSome = true then
           if v44.isSome = true then
            some (p, A, B, m, W, g, (if IntKind.i64.wrap (t + ((v44.getD default).2)) < 1000000 then IntKind.i64.wrap (t + ((v44.getD default).2)) else 1000000))
            else none
           else none
          else some (p, A, B, m, W, g, t)
theorem tail_eq (ok : KnOk H C Q T) {k pq p A B m W g t : Int} (hq : 0 ≤ pq ∧ pq ≤ 1000) (hA : 0 ≤ A) (hm : 0 ≤ m) (hs : A + m ≤ 1000000) (ht : 0 ≤ t ∧ t ≤ 1000000) :
    tailC H C Q T a b c d k pq p A B m W g t = some (tailV (coldAt Q k) (tempAt T k) pq p A B m W g t) := by
  have lQ := ok.lQ
  have lT := ok.lT
  unfold tailC tailV
  rw [p117 _ _ _ _ _ _ _ _ k (by omega)]
  simp only [p119 H C Q T a b c d k (show T.length < 1000000000 by omega), Option.bind_some]
  have htem : ∀ y, tempAt T k = some y → IntKind.i64.wrap (t + y.2) = t + y.2 := fun y hy => by
    have := ok.kt y (lastP_mem hy).1
    exact wI (by omega) (by omega)
  cases hc : coldAt Q k with
  | none =>
    simp only [Option.isSome_none, Bool.false_eq_true, if_false, marO]
    cases hy : tempAt T k with
    | none => simp [temO]
    | some y =>
      simp only [Option.isSome_some, if_true, Option.getD_some, htem y hy, temO, capV]
      simp
  | some x =>
    have hx := ok.kq x (List.mem_of_find?_eq_some hc)
    obtain ⟨b1, b2, _, _⟩ := pk_bounds hx.1 hx.2.1 hx.2.2 hq.1 hq.2
    obtain ⟨c1, c2, _, _⟩ := mar_bounds hA hm (show A + m ≤ 2000000 by omega) (show 0 ≤ pkV x.2.1 x.2.2 pq by omega) (by omega)
    simp only [Option.isSome_some, if_true, Option.getD_some, p115 hx.1 hx.2.1 hx.2.2 hq.1 hq.2, Option.bind_some, p118 hA hm (show A + m ≤ 2000000 by omega) (show 0 ≤ pkV x.2.1 x.2.2 pq by omega) (by omega), marO]
    rw [wI (a := marV A m (pkV x.2.1 x.2.2 pq) - m) (by omega) (by omega), wI (a := A - (marV A m (pkV x.2.1 x.2.2 pq) - m)) (by omega) (by omega)]
    cases hy : tempAt T k with
    | none => simp [temO]
    | some y =>
      simp only [Option.isSome_some, if_true, Option.getD_some, htem y hy, temO, capV]
theorem p85 (ok : KnOk H C Q T) {k ph pc pq p s e m w g t : Int} (hph : 0 ≤ ph ∧ ph ≤ 1000) (hpc : 0 ≤ pc ∧ pc ≤ 1000) (hpq : 0 ≤ pq ∧ pq ≤ 1000) (st : StOk p s e m w g t) :
    r97 H C Q T a b c d p s e m w g t k ph pc pq = some (stepV H C Q T k ph pc pq p s e m w g t) := by
  obtain ⟨sp, sa, sb, sm, sw, sg, stt, ssum⟩ := st
  have lH := ok.lH
  have lC := ok.lC
  unfold r97 stepV
  rw [p114 _ _ _ _ _ _ _ _ k (by omega), Option.bind_some]
  cases hh : heatAt H k with
  | some x =>
    have hx := ok.kh x (lastP_mem hh).1
    obtain ⟨b1, b2, _, _⟩ := pk_bounds hx.1.1 hx.1.2.1 hx.1.2.2 hph.1 hph.2
    simp only [Option.isSome_some, if_true, Option.getD_some, p115 hx.1.1 hx.1.2.1 hx.1.2.2 hph.1 hph.2, Option.bind_some, wI (a := e + m) (by omega) (by omega), wI (a := p + (e + m)) (by omega) (by omega)]
    show _ = some (hotV x ph p s e m g)
    unfold hotV
    have hf : 0 ≤ capV (pkV x.2.1 x.2.2.1 ph) (p + (e + m)) ∧ capV (pkV x.2.1 x.2.2.1 ph) (p + (e + m)) ≤ p + (e + m) := by unfold capV; split <;> omega
    show (if (decide (IntKind.i64.wrap (s + capV (pkV x.2.1 x.2.2.1 ph) (p + (e + m))) > 0)) = true then
      some (IntKind.i64.wrap (p + (e + m) - capV (pkV x.2.1 x.2.2.1 ph) (p + (e + m))), IntKind.i64.wrap (s + capV (pkV x.2.1 x.2.2.1 ph) (p + (e + m))), 0, 0, 0, capV (IntKind.i64.wrap (g + x.2.2.2)) 100000, 0) else
      some (IntKind.i64.wrap (p + (e + m) - capV (pkV x.2.1 x.2.2.1 ph) (p + (e + m))), IntKind.i64.wrap (s + capV (pkV x.2.1 x.2.2.1 ph) (p + (e + m))), 0, 0, 0, g, 0)) = _
    rw [wI (a := s + capV (pkV x.2.1 x.2.2.1 ph) (p + (e + m))) (by omega) (by omega), wI (a := p + (e + m) - capV (pkV x.2.1 x.2.2.1 ph) (p + (e + m))) (by omega) (by omega), wI (a := g + x.2.2.2) (by omega) (by omega)]
    by_cases hpos : s + capV (pkV x.2.1 x.2.2.1 ph) (p + (e + m)) > 0
    · rw [if_pos (by simpa using hpos), if_pos hpos]
    · rw [if_neg (by simpa using hpos), if_neg hpos]
  | none =>
    simp only [Option.isSome_none, Bool.false_eq_true, if_false]
    rw [p116 _ _ _ _ _ _ _ _ k (by omega), Option.bind_some]
    cases hc : coolAt C k with
    | none =>
      simp only [Option.isSome_none, Bool.false_eq_true, if_false]
      exact tail_eq H C Q T a b c d ok hpq sa.1 sm.1 (by omega) stt
    | some x =>
      have hx := ok.kc x (List.mem_of_find?_eq_some hc)
      obtain ⟨b1, b2, _, _⟩ := pk_bounds hx.1.1 hx.1.2.1 hx.1.2.2 hpc.1 hpc.2
      obtain ⟨b3, b4, _, _⟩ := pk_bounds hx.2.1 hx.2.2.1 hx.2.2.2 hpc.1 hpc.2
      simp only [Option.isSome_some, if_true, Option.getD_some, p115 hx.1.1 hx.1.2.1 hx.1.2.2 hpc.1 hpc.2, p115 hx.2.1 hx.2.2.1 hx.2.2.2 hpc.1 hpc.2, Option.bind_some, wI (a := w + pkV x.2.1 x.2.2.1 pc) (by omega) (by omega)]
      have hf : 0 ≤ capV (pkV x.2.2.2.1 x.2.2.2.2 pc) s ∧ capV (pkV x.2.2.2.1 x.2.2.2.2 pc) s ≤ s := by unfold capV; split <;> omega
      show _ = some (if capV (w + pkV x.2.1 x.2.2.1 pc) 1000000 = 1000000 then
        tailV (coldAt Q k) (tempAt T k) pq p (s - capV (pkV x.2.2.2.1 x.2.2.2.2 pc) s) (e + capV (pkV x.2.2.2.1 x.2.2.2.2 pc) s) m (capV (w + pkV x.2.1 x.2.2.1 pc) 1000000) g t
        else tailV (coldAt Q k) (tempAt T k) pq p s e m (capV (w + pkV x.2.1 x.2.2.1 pc) 1000000) g t)
      by_cases hw : capV (w + pkV x.2.1 x.2.2.1 pc) 1000000 = 1000000
      · rw [if_pos hw]
        refine (if_pos (show (capV (w + pkV x.2.1 x.2.2.1 pc) 1000000 == 1000000) = true by rw [hw]; rfl)).trans ?_
        have := tail_eq H C Q T a b c d ok (k := k) (pq := pq) (p := p) (A := s - capV (pkV x.2.2.2.1 x.2.2.2.2 pc) s) (B := e + capV (pkV x.2.2.2.1 x.2.2.2.2 pc) s) (m := m) (W := capV (w + pkV x.2.1 x.2.2.1 pc) 1000000) (g := g) (t := t) hpq (by omega) sm.1 (by omega) stt
        rw [← this, ← wI (a := s - capV (pkV x.2.2.2.1 x.2.2.2.2 pc) s) (by omega) (by omega), ← wI (a := e + capV (pkV x.2.2.2.1 x.2.2.2.2 pc) s) (by omega) (by omega)]
        rfl
      · rw [if_neg hw]
        refine (if_neg (show ¬ (capV (w + pkV x.2.1 x.2.2.1 pc) 1000000 == 1000000) = true from fun h => hw (beq_iff_eq.1 h))).trans ?_
        exact tail_eq H C Q T a b c d ok hpq sa.1 sm.1 (by omega) stt
end
end Go.Proofs.YtfkmbdfajpdjjaaGreatDoor

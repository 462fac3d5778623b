/- Contracts of functions, written by wip/dec. -/
import Derived.Test.YtfkmbdfajpdjjaaGreatDoorF00
import Derived.Test.YtfkmbdfajpdjjaaGreatDoorF01
import Derived.Test.YtfkmbdfajpdjjaaGreatDoorF02
import Derived.Test.YtfkmbdfajpdjjaaGreatDoorF03
import Derived.Test.YtfkmbdfajpdjjaaGreatDoorF04
import Derived.Test.YtfkmbdfajpdjjaaGreatDoorF06
import Derived.Test.YtfkmbdfajpdjjaaGreatDoorF07
import Derived.Test.YtfkmbdfajpdjjaaGreatDoorF08
set_option linter.unusedVariables false
set_option linter.unusedSimpArgs false
set_option maxHeartbeats 4000000
set_option maxRecDepth 20000
namespace Go.Proofs.YtfkmbdfajpdjjaaGreatDoor
open Go.Abs
abbrev qA46 := (List ((List (Int)))) × Int × Int
def qw46 (a0 : List ((List (Int)))) (a1 : Int) (a2 : Int) : List Arg := [.agg [encF 1 d_LIE a0, .int .i64 a1, .int .i64 a2]]
def qE46 : qA46 → List Arg := fun ⟨a0, a1, a2⟩ => qw46 a0 a1 a2
def qd46 (a : List Arg) : qA46 := (decF g_LIE (aCell a 0 0), dInt (aCell a 0 1), dInt (aCell a 0 2))
def qp46 {β : Type} (f : (List ((List (Int)))) → Int → Int → β) (c0 c1 c2 : D) : β := f (decF g_LIE c0) (dInt c1) (dInt c2)
def qt46 (c0 c1 c2 : D) : List Arg := [.agg [c0, c1, c2]]
attribute [go_sem] qw46 qp46 qt46 qE46
abbrev qA48 := (List (Int × Int × Int × Int)) × (List (Int × Int × Int × Int × Int)) × (List (Int × Int × Int)) × (List (Int × Int)) × Int × Int × Int × Int × (List (Int))
def qw48 (a0 : List (Int × Int × Int × Int)) (a1 : List (Int × Int × Int × Int × Int)) (a2 : List (Int × Int × Int)) (a3 : List (Int × Int)) (a4 : Int) (a5 : Int) (a6 : Int) (a7 : Int) (a8 : List (Int)) : List Arg := [.agg [encF 4 d_IIII a0, encF 5 d_IIIII a1, encF 3 d_III a2, encF 2 d_II a3, .int .i64 a4, .int .i64 a5, .int .i64 a6, .int .i64 a7], .c (encF 1 d_I a8)]
def qE48 : qA48 → List Arg := fun ⟨a0, a1, a2, a3, a4, a5, a6, a7, a8⟩ => qw48 a0 a1 a2 a3 a4 a5 a6 a7 a8
def qd48 (a : List Arg) : qA48 := (decF g_IIII (aCell a 0 0), decF g_IIIII (aCell a 0 1), decF g_III (aCell a 0 2), decF g_II (aCell a 0 3), dInt (aCell a 0 4), dInt (aCell a 0 5), dInt (aCell a 0 6), dInt (aCell a 0 7), decF g_I (aCell a 1 0))
def qp48 {β : Type} (f : (List (Int × Int × Int × Int)) → (List (Int × Int × Int × Int × Int)) → (List (Int × Int × Int)) → (List (Int × Int)) → Int → Int → Int → Int → (List (Int)) → β) (c0 c1 c2 c3 c4 c5 c6 c7 c8 : D) : β := f (decF g_IIII c0) (decF g_IIIII c1) (decF g_III c2) (decF g_II c3) (dInt c4) (dInt c5) (dInt c6) (dInt c7) (decF g_I c8)
def qt48 (c0 c1 c2 c3 c4 c5 c6 c7 c8 : D) : List Arg := [.agg [c0, c1, c2, c3, c4, c5, c6, c7], .c c8]
attribute [go_sem] qw48 qp48 qt48 qE48
abbrev qA49 := (List (Int)) × (List (Int))
def qw49 (a0 : List (Int)) (a1 : List (Int)) : List Arg := [.c (encF 1 d_I a0), .c (encF 1 d_I a1)]
def qE49 : qA49 → List Arg := fun ⟨a0, a1⟩ => qw49 a0 a1
def qd49 (a : List Arg) : qA49 := (decF g_I (aCell a 0 0), decF g_I (aCell a 1 0))
def qp49 {β : Type} (f : (List (Int)) → (List (Int)) → β) (c0 c1 : D) : β := f (decF g_I c0) (decF g_I c1)
def qt49 (c0 c1 : D) : List Arg := [.c c0, .c c1]
attribute [go_sem] qw49 qp49 qt49 qE49
def qu20 (v : (List (Int))) : List RV := [.c (.own (encF 1 d_I v))]
attribute [go_sem] qu20
def qu21 (v : (List ((List (Int)))) × Int × Int) : List RV := [.agg [.own (encF 1 d_LIE v.1), .d (.int .i64 v.2.1), .d (.int .i64 v.2.2)]]
attribute [go_sem] qu21
def qu22 (v : (List (Int)) × Int) : List RV := [.c (.own (encF 1 d_I v.1)), .c (.d (.int .i64 v.2))]
attribute [go_sem] qu22
/- martensite/martensitebase.CopyInts -/
def r13 (a0 : List (Int)) : Option ((List (Int))) :=
  if (0 + a0.length) * 8 ≤ 140737488355328 ∧ 0 + a0.length ≤ 9223372036854775807 then
   some a0
   else none
def T13 : TSpec qA6 := mkT qE6 qd6 r13 qu20 false
theorem TP13 (c0 : D) : T13.sp.pre [.c c0] = (eqvArgs (qt6 c0) (qp6 qw6 c0) ∧ (qp6 r13 c0).isSome = true) := (rfl)
theorem TR13 (c0 : D) : T13.sp.res [.c c0] = qu20 ((qp6 r13 c0).getD default) := (rfl)
theorem TA13 : T13.sp.alias = false := (rfl)
def tb13 : Fns := lk []
theorem tb13_ok : FnsOk Tryz.prog tb13 := FnsOk.nil
attribute [go_sem] TP13 TR13 TA13
section
attribute [local go_sem] T13 Tryz.results13
theorem v13 : Valid Tryz.prog 13 T13.sp := by
 refine valid_t (fn := Tryz.f13) (n := 6) ty_ok tb13_ok Tryz.func13 rfl Tryz.ntmps13 ?_
 rintro a0 hx
 obtain ⟨r, hr⟩ := oE (show (r13 a0).isSome = true from hx)
 have hres : T13.res a0 = qu20 r := by simp only [T13, mkT, hr, oG]
 refine ⟨nL rfl, fun stop S => ?_⟩
 rw [hres] at S
 unfold r13 at hr
 refine S.gx [] ?_
 obtain ⟨hg1, hr⟩ := of_guard0 hr
 repeat refine gA ?_
 cases hr
 exact lf
theorem f13 : FnFact Tryz.prog 13 T13.sp := ⟨⟨Tryz.f13, Tryz.func13, by decide, rfl⟩, v13⟩
end

/- martensite/martensiteref04.CopyWanted -/
def b10_1 (x0 : List ((List (Int)))) (x1 : Int) (x2 : Int) : (Int × (List ((List (Int))))) → Ctl (Int × (List ((List (Int))))) ((List ((List (Int)))) × Int × Int) := fun s1 =>
  if (decide (s1.1 < (x0.length : Int))) = true then
   if 0 ≤ s1.1 ∧ s1.1 < (x0.length : Int) then
    bindC (r13 (x0.getD s1.1.toNat default)) fun v1 =>
     if (s1.2.length + 1) * 24 ≤ 140737488355328 ∧ s1.2.length + 1 ≤ 9223372036854775807 then
      .next (IntKind.i64.wrap (s1.1 + 1), s1.2 ++ [v1])
      else .out none
    else .out none
   else .out (some (s1.2, x1, x2))
def r10 (x0 : List ((List (Int)))) (x1 : Int) (x2 : Int) : Option ((List ((List (Int)))) × Int × Int) :=
  iterC (b10_1 x0 x1 x2) 1000000000 (0, [])
def T10 : TSpec qA46 := mkT qE46 qd46 (fun ⟨x0, x1, x2⟩ => r10 x0 x1 x2) qu21 true
theorem TP10 (c0 c1 c2 : D) : T10.sp.pre [.agg [c0, c1, c2]] = (eqvArgs (qt46 c0 c1 c2) (qp46 qw46 c0 c1 c2) ∧ (qp46 r10 c0 c1 c2).isSome = true) := (rfl)
theorem TR10 (c0 c1 c2 : D) : T10.sp.res [.agg [c0, c1, c2]] = qu21 ((qp46 r10 c0 c1 c2).getD default) := (rfl)
theorem TA10 : T10.sp.alias = true := (rfl)
def tb10 : Fns := lk [(13, T13.sp)]
theorem tb10_ok : FnsOk Tryz.prog tb10 := .cons f13 (FnsOk.nil)
theorem tb10_13 : tb10 13 = some T13.sp := rfl
attribute [go_sem] TP10 TR10 TA10
section
attribute [local go_sem] T10 tb10_13 Tryz.results10
theorem v10 : Valid Tryz.prog 10 T10.sp := by
 refine valid_t (fn := Tryz.f10) (n := 27) ty_ok tb10_ok Tryz.func10 rfl Tryz.ntmps10 ?_
 rintro ⟨x0, x1, x2⟩ hx
 obtain ⟨r, hr⟩ := oE (show (r10 x0 x1 x2).isSome = true from hx)
 have hres : T10.res (x0, x1, x2) = qu21 r := by simp only [T10, mkT, hr, oG]
 refine ⟨nL rfl, fun stop S => ?_⟩
 rw [hres] at S
 unfold r10 at hr
 refine S.gx [] ?_
 repeat refine gA ?_
 refine S.own0b 3 0 2000300 1 rfl rfl (nL rfl) rfl ?_
 refine S.sees [1, 2, 3, 4] [(1, 1), (2, 2), (3, 3)] [(2000300, 2000300)] ?_ (Stop.iter S (fun s1 => ⟨[(1, .c (.ref 1 0)), (2, .c (.ref 2 0)), (3, .c (.ref 3 0)), (4, .c (.d (.int .i64 s1.1)))], [(1, [.d (encF 1 d_LIE x0), .d (.int .i64 x1), .d (.int .i64 x2)]), (2, [.nils, .d (.int .i64 0), .d (.int .i64 0)]), (3, [.own 2000300, .d (.int .i64 x1), .d (.int .i64 x2)])], [(2000300, .owned (encF 1 d_LIE s1.2))]⟩) (b10_1 x0 x1 x2) (fun q => q = r) hr rfl ?_)
 ·exact lf
 ·intro s1 hr
  unfold b10_1 at hr
  refine S.gx [] ?_
  repeat refine gA ?_
  refine ⟨?_, ?_⟩ <;> intro hc
  ·have hr := ifP1 hr hc
   obtain ⟨hg2, hr⟩ := of_guard1 hr
   obtain ⟨v1, hv1, hr⟩ := of_bind1 hr
   obtain ⟨hg3, hr⟩ := of_guard1 hr
   try simp only [hv1, oG, oI, true_and, and_assoc]
   repeat refine gA ?_
   refine S.sees [1, 2, 3, 4] [(1, 1), (2, 2), (3, 3)] [(24, 2000300)] ?_ hr
   exact lf
  ·have hr := ifN1 hr hc
   repeat refine gA ?_
   have hr := of_out0 hr
   repeat refine gA ?_
   cases hr
   exact lf
theorem f10 : FnFact Tryz.prog 10 T10.sp := ⟨⟨Tryz.f10, Tryz.func10, by decide, rfl⟩, v10⟩
end

/- martensite/steel.CurvesFor -/
def b8_3 (x1 : List (Int × Int × Int × Int)) (x2 : List (Int × Int × Int × Int × Int)) (x3 : List (Int × Int × Int)) (x4 : List (Int × Int)) (x5 : Int) (x6 : Int) (x7 : Int) (x8 : Int) (x0 : List ((List (Int)))) (x9 : Int) (x10 : Int) (s2 : (List (Int)) × Int) : (Int × Int × Int × Int × Int × Int × Int × Int × Int × Int × Int × Int × Int × Int × Int) → Ctl (Int × Int × Int × Int × Int × Int × Int × Int × Int × Int × Int × Int × Int × Int × Int) (Ctl ((List (Int)) × Int) ((List (Int)) × Int)) := fun s3 =>
  if (decide (s3.1 < ((x0.getD s2.2.toNat default).length : Int))) = true then
   if 0 ≤ s3.1 ∧ s3.1 < ((x0.getD s2.2.toNat default).length : Int) then
    bindC (r52 x1 x2 x3 x4 x5 x6 x7 x8 s3.2.1 s3.2.2.1 s3.2.2.2.1 s3.2.2.2.2.1 s3.2.2.2.2.2.1 s3.2.2.2.2.2.2.1 s3.2.2.2.2.2.2.2.1 s3.2.2.2.2.2.2.2.2.1 s3.2.2.2.2.2.2.2.2.2.1 s3.2.2.2.2.2.2.2.2.2.2.1 s3.2.2.2.2.2.2.2.2.2.2.2.1 s3.2.2.2.2.2.2.2.2.2.2.2.2.1 s3.2.2.2.2.2.2.2.2.2.2.2.2.2.1 s3.2.2.2.2.2.2.2.2.2.2.2.2.2.2 ((x0.getD s2.2.toNat default).getD s3.1.toNat default)) fun v11 =>
     .next (IntKind.i64.wrap (s3.1 + 1), v11.1, v11.2.1, v11.2.2.1, v11.2.2.2.1, v11.2.2.2.2.1, v11.2.2.2.2.2.1, v11.2.2.2.2.2.2.1, v11.2.2.2.2.2.2.2.1, v11.2.2.2.2.2.2.2.2.1, v11.2.2.2.2.2.2.2.2.2.1, v11.2.2.2.2.2.2.2.2.2.2.1, v11.2.2.2.2.2.2.2.2.2.2.2.1, v11.2.2.2.2.2.2.2.2.2.2.2.2.1, v11.2.2.2.2.2.2.2.2.2.2.2.2.2)
    else .out none
   else .out (some (bindC (r53 x1 x2 x3 x4 x5 x6 x7 x8 s3.2.1 s3.2.2.1 s3.2.2.2.1 s3.2.2.2.2.1 s3.2.2.2.2.2.1 s3.2.2.2.2.2.2.1 s3.2.2.2.2.2.2.2.1 s3.2.2.2.2.2.2.2.2.1 s3.2.2.2.2.2.2.2.2.2.1 s3.2.2.2.2.2.2.2.2.2.2.1 s3.2.2.2.2.2.2.2.2.2.2.2.1 s3.2.2.2.2.2.2.2.2.2.2.2.2.1 s3.2.2.2.2.2.2.2.2.2.2.2.2.2.1 s3.2.2.2.2.2.2.2.2.2.2.2.2.2.2) fun v13 =>
    if ((decide (v13.1 ≥ x9)) && (decide (v13.2 ≤ x10))) = true then
     if (s2.1.length + 1) * 8 ≤ 140737488355328 ∧ s2.1.length + 1 ≤ 9223372036854775807 then
      .next (s2.1 ++ [s2.2], IntKind.i64.wrap (s2.2 + 1))
      else .out none
     else .next (s2.1, IntKind.i64.wrap (s2.2 + 1))))
def b8_2 (x1 : List (Int × Int × Int × Int)) (x2 : List (Int × Int × Int × Int × Int)) (x3 : List (Int × Int × Int)) (x4 : List (Int × Int)) (x5 : Int) (x6 : Int) (x7 : Int) (x8 : Int) (x11 : Int) (x12 : Int) (x13 : Int) (x14 : Int) (x15 : Int) (x16 : Int) (x17 : Int) (x0 : List ((List (Int)))) (x9 : Int) (x10 : Int) : ((List (Int)) × Int) → Ctl ((List (Int)) × Int) ((List (Int)) × Int) := fun s2 =>
  if (decide (s2.2 < (x0.length : Int))) = true then
   if 0 ≤ s2.2 ∧ s2.2 < (x0.length : Int) then
    bindC (r51 x11 x12 x13 x14 x15 x16 x17) fun v10 =>
     (iterC (b8_3 x1 x2 x3 x4 x5 x6 x7 x8 x0 x9 x10 s2) 1000000000 (0, v10.1, v10.2.1, v10.2.2.1, v10.2.2.2.1, v10.2.2.2.2.1, v10.2.2.2.2.2.1, v10.2.2.2.2.2.2.1, v10.2.2.2.2.2.2.2.1, v10.2.2.2.2.2.2.2.2.1, v10.2.2.2.2.2.2.2.2.2.1, v10.2.2.2.2.2.2.2.2.2.2.1, v10.2.2.2.2.2.2.2.2.2.2.2.1, v10.2.2.2.2.2.2.2.2.2.2.2.2.1, v10.2.2.2.2.2.2.2.2.2.2.2.2.2)).getD (.out none)
    else .out none
   else .out (some (s2.1, 0))
def b8_1 (x1 : List (Int × Int × Int × Int)) (x2 : List (Int × Int × Int × Int × Int)) (x3 : List (Int × Int × Int)) (x4 : List (Int × Int)) (x5 : Int) (x6 : Int) (x7 : Int) (x8 : Int) (x11 : Int) (x12 : Int) (x13 : Int) (x14 : Int) (x15 : Int) (x16 : Int) (x17 : Int) (x0 : List ((List (Int)))) (x9 : Int) (x10 : Int) : (Int × Int) → Ctl (Int × Int) ((List (Int)) × Int) := fun s1 =>
  if (decide (s1.2 < (x0.length : Int))) = true then
   if 0 ≤ s1.2 ∧ s1.2 < (x0.length : Int) then
    bindC (r49 (x0.getD s1.2.toNat default)) fun v5 =>
     bindC (r45 [s1.1, v5]) fun v6 =>
      .next (v6, IntKind.i64.wrap (s1.2 + 1))
    else .out none
   else .out ((r50 x9 x10).bind fun v8 =>
    (r45 [s1.1, v8]).bind fun v9 =>
     if (v9 != 0) = true then
      some ([], v9)
      else iterC (b8_2 x1 x2 x3 x4 x5 x6 x7 x8 x11 x12 x13 x14 x15 x16 x17 x0 x9 x10) 1000000000 ([], 0))
def r8 (x1 : List (Int × Int × Int × Int)) (x2 : List (Int × Int × Int × Int × Int)) (x3 : List (Int × Int × Int)) (x4 : List (Int × Int)) (x5 : Int) (x6 : Int) (x7 : Int) (x8 : Int) (x11 : Int) (x12 : Int) (x13 : Int) (x14 : Int) (x15 : Int) (x16 : Int) (x17 : Int) (x0 : List ((List (Int)))) (x9 : Int) (x10 : Int) : Option ((List (Int)) × Int) :=
  (r46 x1 x2 x3 x4 x5 x6 x7 x8).bind fun v1 =>
   (r47 x11 x12 x13 x14 x15 x16 x17).bind fun v2 =>
    (r48 (decide ((x0.length : Int) ≤ 12)) 8).bind fun v3 =>
     (r45 [v1, v2, v3]).bind fun v4 =>
      iterC (b8_1 x1 x2 x3 x4 x5 x6 x7 x8 x11 x12 x13 x14 x15 x16 x17 x0 x9 x10) 1000000000 (v4, 0)
def T8 : TSpec qA47 := mkT qE47 qd47 (fun ⟨x1, x2, x3, x4, x5, x6, x7, x8, x11, x12, x13, x14, x15, x16, x17, x0, x9, x10⟩ => r8 x1 x2 x3 x4 x5 x6 x7 x8 x11 x12 x13 x14 x15 x16 x17 x0 x9 x10) qu22 false
theorem TP8 (c0 c1 c2 c3 c4 c5 c6 c7 c8 c9 c10 c11 c12 c13 c14 c15 c16 c17 : D) : T8.sp.pre [.agg [c0, c1, c2, c3, c4, c5, c6, c7], .agg [c8, c9, c10, c11, c12, c13, c14], .agg [c15, c16, c17]] = (eqvArgs (qt47 c0 c1 c2 c3 c4 c5 c6 c7 c8 c9 c10 c11 c12 c13 c14 c15 c16 c17) (qp47 qw47 c0 c1 c2 c3 c4 c5 c6 c7 c8 c9 c10 c11 c12 c13 c14 c15 c16 c17) ∧ (qp47 r8 c0 c1 c2 c3 c4 c5 c6 c7 c8 c9 c10 c11 c12 c13 c14 c15 c16 c17).isSome = true) := (rfl)
theorem TR8 (c0 c1 c2 c3 c4 c5 c6 c7 c8 c9 c10 c11 c12 c13 c14 c15 c16 c17 : D) : T8.sp.res [.agg [c0, c1, c2, c3, c4, c5, c6, c7], .agg [c8, c9, c10, c11, c12, c13, c14], .agg [c15, c16, c17]] = qu22 ((qp47 r8 c0 c1 c2 c3 c4 c5 c6 c7 c8 c9 c10 c11 c12 c13 c14 c15 c16 c17).getD default) := (rfl)
theorem TA8 : T8.sp.alias = false := (rfl)
def tb8 : Fns := lk [(45, T45.sp), (46, T46.sp), (47, T47.sp), (48, T48.sp), (49, T49.sp), (50, T50.sp), (51, T51.sp), (52, T52.sp), (53, T53.sp)]
theorem tb8_ok : FnsOk Tryz.prog tb8 := .cons f45 (.cons f46 (.cons f47 (.cons f48 (.cons f49 (.cons f50 (.cons f51 (.cons f52 (.cons f53 (FnsOk.nil)))))))))
theorem tb8_45 : tb8 45 = some T45.sp := rfl
theorem tb8_46 : tb8 46 = some T46.sp := rfl
theorem tb8_47 : tb8 47 = some T47.sp := rfl
theorem tb8_48 : tb8 48 = some T48.sp := rfl
theorem tb8_49 : tb8 49 = some T49.sp := rfl
theorem tb8_50 : tb8 50 = some T50.sp := rfl
theorem tb8_51 : tb8 51 = some T51.sp := rfl
theorem tb8_52 : tb8 52 = some T52.sp := rfl
theorem tb8_53 : tb8 53 = some T53.sp := rfl
attribute [go_sem] TP8 TR8 TA8
section
attribute [local go_sem] T8 tb8_45 tb8_46 tb8_47 tb8_48 tb8_49 tb8_50 tb8_51 tb8_52 tb8_53 Tryz.results8
theorem v8 : Valid Tryz.prog 8 T8.sp := by
 refine valid_t (fn := Tryz.f8) (n := 97) ty_ok tb8_ok Tryz.func8 rfl Tryz.ntmps8 ?_
 rintro ⟨x1, x2, x3, x4, x5, x6, x7, x8, x11, x12, x13, x14, x15, x16, x17, x0, x9, x10⟩ hx
 obtain ⟨r, hr⟩ := oE (show (r8 x1 x2 x3 x4 x5 x6 x7 x8 x11 x12 x13 x14 x15 x16 x17 x0 x9 x10).isSome = true from hx)
 have hres : T8.res (x1, x2, x3, x4, x5, x6, x7, x8, x11, x12, x13, x14, x15, x16, x17, x0, x9, x10) = qu22 r := by simp only [T8, mkT, hr, oG]
 refine ⟨nL rfl, fun stop S => ?_⟩
 rw [hres] at S
 unfold r8 at hr
 refine S.gx [] ?_
 obtain ⟨v1, hv1, hr⟩ := of_bind0 hr
 obtain ⟨v2, hv2, hr⟩ := of_bind0 hr
 obtain ⟨v3, hv3, hr⟩ := of_bind0 hr
 obtain ⟨v4, hv4, hr⟩ := of_bind0 hr
 try simp only [hv1, hv2, hv3, hv4, Option.getD_some, Option.isSome_some, true_and, and_assoc]
 repeat refine gA ?_
 refine S.sees [3, 4, 5, 8, 30, 31, 32] [(3, 3), (4, 4), (5, 5)] [] ?_ (Stop.iter S (fun s1 => ⟨[(3, .c (.ref 3 0)), (4, .c (.ref 4 0)), (5, .c (.ref 5 0)), (8, .c (.d (.int .i64 s1.1))), (30, .c (.d (encF 1 d_LIE x0))), (31, .c (.d (.int .i64 (x0.length : Int)))), (32, .c (.d (.int .i64 s1.2)))], [(3, [.d (encF 4 d_IIII x1), .d (encF 5 d_IIIII x2), .d (encF 3 d_III x3), .d (encF 2 d_II x4), .d (.int .i64 x5), .d (.int .i64 x6), .d (.int .i64 x7), .d (.int .i64 x8)]), (4, [.d (.int .i64 x11), .d (.int .i64 x12), .d (.int .i64 x13), .d (.int .i64 x14), .d (.int .i64 x15), .d (.int .i64 x16), .d (.int .i64 x17)]), (5, [.d (encF 1 d_LIE x0), .d (.int .i64 x9), .d (.int .i64 x10)])], []⟩) (b8_1 x1 x2 x3 x4 x5 x6 x7 x8 x11 x12 x13 x14 x15 x16 x17 x0 x9 x10) (fun q => q = r) hr rfl ?_)
 ·exact lf
 ·intro s1 hr
  unfold b8_1 at hr
  refine S.gx [] ?_
  repeat refine gA ?_
  refine ⟨?_, ?_⟩ <;> intro hc
  ·have hr := ifP1 hr hc
   obtain ⟨hg7, hr⟩ := of_guard1 hr
   obtain ⟨v5, hv5, hr⟩ := of_bind1 hr
   obtain ⟨v6, hv6, hr⟩ := of_bind1 hr
   try simp only [hv5, hv6, Option.getD_some, Option.isSome_some, true_and, and_assoc]
   repeat refine gA ?_
   refine S.sees [3, 4, 5, 8, 30, 31, 32] [(3, 3), (4, 4), (5, 5)] [] ?_ hr
   exact lf
  ·have hr := ifN1 hr hc
   repeat refine gA ?_
   have hr := of_out0 hr
   obtain ⟨v8, hv8, hr⟩ := of_bind0 hr
   obtain ⟨v9, hv9, hr⟩ := of_bind0 hr
   try simp only [hv8, hv9, Option.getD_some, Option.isSome_some, true_and, and_assoc]
   repeat refine gA ?_
   refine ⟨?_, ?_⟩ <;> intro hc
   ·have hr := ifP hr hc
    repeat refine gA ?_
    cases hr
    exact lf
   ·have hr := ifN hr hc
    repeat refine gA ?_
    refine S.own0 11 1001100 1 rfl rfl ?_
    refine S.sees [3, 4, 5, 11, 52, 53, 54] [(3, 3), (4, 4), (5, 5)] [(1001100, 1001100)] ?_ (Stop.iter S (fun s2 => ⟨[(3, .c (.ref 3 0)), (4, .c (.ref 4 0)), (5, .c (.ref 5 0)), (11, .c (.own 1001100)), (52, .c (.d (encF 1 d_LIE x0))), (53, .c (.d (.int .i64 (x0.length : Int)))), (54, .c (.d (.int .i64 s2.2)))], [(3, [.d (encF 4 d_IIII x1), .d (encF 5 d_IIIII x2), .d (encF 3 d_III x3), .d (encF 2 d_II x4), .d (.int .i64 x5), .d (.int .i64 x6), .d (.int .i64 x7), .d (.int .i64 x8)]), (4, [.d (.int .i64 x11), .d (.int .i64 x12), .d (.int .i64 x13), .d (.int .i64 x14), .d (.int .i64 x15), .d (.int .i64 x16), .d (.int .i64 x17)]), (5, [.d (encF 1 d_LIE x0), .d (.int .i64 x9), .d (.int .i64 x10)])], [(1001100, .owned (encF 1 d_I s2.1))]⟩) (b8_2 x1 x2 x3 x4 x5 x6 x7 x8 x11 x12 x13 x14 x15 x16 x17 x0 x9 x10) (fun q => q = r) hr rfl ?_)
    ·exact lf
    ·intro s2 hr
     unfold b8_2 at hr
     refine S.gx [] ?_
     repeat refine gA ?_
     refine ⟨?_, ?_⟩ <;> intro hc
     ·have hr := ifP1 hr hc
      obtain ⟨hg15, hr⟩ := of_guard1 hr
      obtain ⟨v10, hv10, hr⟩ := of_bind1 hr
      try simp only [hv10, oG, oI, true_and, and_assoc]
      repeat refine gA ?_
      obtain ⟨q3, hq, hr⟩ := of_iter1 hr
      refine S.sees [3, 4, 5, 11, 12, 14, 52, 53, 54, 61, 62, 63] [(3, 3), (4, 4), (5, 5), (14, 14)] [(1001100, 1001100)] ?_ (Stop.iter S (fun s3 => ⟨[(3, .c (.ref 3 0)), (4, .c (.ref 4 0)), (5, .c (.ref 5 0)), (11, .c (.own 1001100)), (12, .c (.d (.int .i64 s2.2))), (14, .c (.ref 14 0)), (52, .c (.d (encF 1 d_LIE x0))), (53, .c (.d (.int .i64 (x0.length : Int)))), (54, .c (.d (.int .i64 s2.2))), (61, .c (.d (encF 1 d_I (x0.getD s2.2.toNat default)))), (62, .c (.d (.int .i64 ((x0.getD s2.2.toNat default).length : Int)))), (63, .c (.d (.int .i64 s3.1)))], [(3, [.d (encF 4 d_IIII x1), .d (encF 5 d_IIIII x2), .d (encF 3 d_III x3), .d (encF 2 d_II x4), .d (.int .i64 x5), .d (.int .i64 x6), .d (.int .i64 x7), .d (.int .i64 x8)]), (4, [.d (.int .i64 x11), .d (.int .i64 x12), .d (.int .i64 x13), .d (.int .i64 x14), .d (.int .i64 x15), .d (.int .i64 x16), .d (.int .i64 x17)]), (5, [.d (encF 1 d_LIE x0), .d (.int .i64 x9), .d (.int .i64 x10)]), (14, [.d (.int .i64 s3.2.1), .d (.int .i64 s3.2.2.1), .d (.int .i64 s3.2.2.2.1), .d (.int .i64 s3.2.2.2.2.1), .d (.int .i64 s3.2.2.2.2.2.1), .d (.int .i64 s3.2.2.2.2.2.2.1), .d (.int .i64 s3.2.2.2.2.2.2.2.1), .d (.int .i64 s3.2.2.2.2.2.2.2.2.1), .d (.int .i64 s3.2.2.2.2.2.2.2.2.2.1), .d (.int .i64 s3.2.2.2.2.2.2.2.2.2.2.1), .d (.int .i64 s3.2.2.2.2.2.2.2.2.2.2.2.1), .d (.int .i64 s3.2.2.2.2.2.2.2.2.2.2.2.2.1), .d (.int .i64 s3.2.2.2.2.2.2.2.2.2.2.2.2.2.1), .d (.int .i64 s3.2.2.2.2.2.2.2.2.2.2.2.2.2.2)])], [(1001100, .owned (encF 1 d_I s2.1))]⟩) (b8_3 x1 x2 x3 x4 x5 x6 x7 x8 x0 x9 x10 s2) _ hq hr ?_)
      ·exact lf
      ·intro s3 hr
       unfold b8_3 at hr
       refine S.gx [] ?_
       repeat refine gA ?_
       refine ⟨?_, ?_⟩ <;> intro hc
       ·have hr := ifP1 hr hc
        obtain ⟨hg12, hr⟩ := of_guard1 hr
        obtain ⟨v11, hv11, hr⟩ := of_bind1 hr
        try simp only [hv11, oG, oI, true_and, and_assoc]
        repeat refine gA ?_
        refine S.sees [3, 4, 5, 11, 12, 14, 52, 53, 54, 61, 62, 63] [(3, 3), (4, 4), (5, 5), (14, 14)] [(1001100, 1001100)] ?_ hr
        exact lf
       ·have hr := ifN1 hr hc
        repeat refine gA ?_
        replace hr := goodC_out hr
        obtain ⟨v13, hv13, hr⟩ := of_bind1 hr
        try simp only [hv13, oG, oI, true_and, and_assoc]
        repeat (first | refine gA ?_ | refine gB ?_)
        refine ⟨?_, ?_⟩ <;> intro hc
        ·have hr := ifP1 hr hc
         obtain ⟨hg14, hr⟩ := of_guard1 hr
         repeat refine gA ?_
         refine S.sees [3, 4, 5, 11, 52, 53, 54] [(3, 3), (4, 4), (5, 5)] [(94, 1001100)] ?_ hr
         exact lf
        ·have hr := ifN1 hr hc
         repeat refine gA ?_
         refine S.sees [3, 4, 5, 11, 52, 53, 54] [(3, 3), (4, 4), (5, 5)] [(1001100, 1001100)] ?_ hr
         exact lf
     ·have hr := ifN1 hr hc
      repeat refine gA ?_
      have hr := of_out0 hr
      repeat refine gA ?_
      cases hr
      exact lf
theorem f8 : FnFact Tryz.prog 8 T8.sp := ⟨⟨Tryz.f8, Tryz.func8, by decide, rfl⟩, v8⟩
end

/- martensite/steel.IncubationOf -/
def r12 (x0 : List (Int × Int × Int × Int)) (x1 : List (Int × Int × Int × Int × Int)) (x2 : List (Int × Int × Int)) (x3 : List (Int × Int)) (x4 : Int) (x5 : Int) (x6 : Int) (x7 : Int) (a1 : List (Int)) : Option (Int × Int) :=
  (r46 x0 x1 x2 x3 x4 x5 x6 x7).bind fun v1 =>
   (r49 a1).bind fun v2 =>
    (r45 [v1, v2]).bind fun v3 =>
     if (v3 != 0) = true then
      some (0, v3)
      else (r55 x0 x1 x2 x3 x4 x5 x6 x7 1000000 0 0 0 0 0 0 a1 0 1000 0).bind fun v4 =>
       some (v4.2.2.2.2.1, 0)
def T12 : TSpec qA48 := mkT qE48 qd48 (fun ⟨x0, x1, x2, x3, x4, x5, x6, x7, a1⟩ => r12 x0 x1 x2 x3 x4 x5 x6 x7 a1) qu5 false
theorem TP12 (c0 c1 c2 c3 c4 c5 c6 c7 c8 : D) : T12.sp.pre [.agg [c0, c1, c2, c3, c4, c5, c6, c7], .c c8] = (eqvArgs (qt48 c0 c1 c2 c3 c4 c5 c6 c7 c8) (qp48 qw48 c0 c1 c2 c3 c4 c5 c6 c7 c8) ∧ (qp48 r12 c0 c1 c2 c3 c4 c5 c6 c7 c8).isSome = true) := (rfl)
theorem TR12 (c0 c1 c2 c3 c4 c5 c6 c7 c8 : D) : T12.sp.res [.agg [c0, c1, c2, c3, c4, c5, c6, c7], .c c8] = qu5 ((qp48 r12 c0 c1 c2 c3 c4 c5 c6 c7 c8).getD default) := (rfl)
theorem TA12 : T12.sp.alias = false := (rfl)
def tb12 : Fns := lk [(45, T45.sp), (46, T46.sp), (49, T49.sp), (55, T55.sp)]
theorem tb12_ok : FnsOk Tryz.prog tb12 := .cons f45 (.cons f46 (.cons f49 (.cons f55 (FnsOk.nil))))
theorem tb12_45 : tb12 45 = some T45.sp := rfl
theorem tb12_46 : tb12 46 = some T46.sp := rfl
theorem tb12_49 : tb12 49 = some T49.sp := rfl
theorem tb12_55 : tb12 55 = some T55.sp := rfl
attribute [go_sem] TP12 TR12 TA12
section
attribute [local go_sem] T12 tb12_45 tb12_46 tb12_49 tb12_55 Tryz.results12
theorem v12 : Valid Tryz.prog 12 T12.sp := by
 refine valid_t (fn := Tryz.f12) (n := 25) ty_ok tb12_ok Tryz.func12 rfl Tryz.ntmps12 ?_
 rintro ⟨x0, x1, x2, x3, x4, x5, x6, x7, a1⟩ hx
 obtain ⟨r, hr⟩ := oE (show (r12 x0 x1 x2 x3 x4 x5 x6 x7 a1).isSome = true from hx)
 have hres : T12.res (x0, x1, x2, x3, x4, x5, x6, x7, a1) = qu5 r := by simp only [T12, mkT, hr, oG]
 refine ⟨nL rfl, fun stop S => ?_⟩
 rw [hres] at S
 unfold r12 at hr
 refine S.gx [] ?_
 obtain ⟨v1, hv1, hr⟩ := of_bind0 hr
 obtain ⟨v2, hv2, hr⟩ := of_bind0 hr
 obtain ⟨v3, hv3, hr⟩ := of_bind0 hr
 try simp only [hv1, hv2, hv3, Option.getD_some, Option.isSome_some, true_and, and_assoc]
 repeat refine gA ?_
 refine ⟨?_, ?_⟩ <;> intro hc
 ·have hr := ifP hr hc
  repeat refine gA ?_
  cases hr
  exact lf
 ·have hr := ifN hr hc
  obtain ⟨v4, hv4, hr⟩ := of_bind0 hr
  try simp only [hv4, oG, oI, true_and, and_assoc]
  repeat refine gA ?_
  cases hr
  exact lf
theorem f12 : FnFact Tryz.prog 12 T12.sp := ⟨⟨Tryz.f12, Tryz.func12, by decide, rfl⟩, v12⟩
end

/- martensite/martensiteref04.KelvinErr -/
def r56 (a0 : Int) : Option (Int) :=
  (r70 a0).bind fun v1 =>
   if (!v1) = true then
    some 2
    else some 0
def T56 : TSpec qA3 := mkT qE3 qd3 r56 qu4 false
theorem TP56 (c0 : D) : T56.sp.pre [.c c0] = (eqvArgs (qt3 c0) (qp3 qw3 c0) ∧ (qp3 r56 c0).isSome = true) := (rfl)
theorem TR56 (c0 : D) : T56.sp.res [.c c0] = qu4 ((qp3 r56 c0).getD default) := (rfl)
theorem TA56 : T56.sp.alias = false := (rfl)
def tb56 : Fns := lk [(70, T70.sp)]
theorem tb56_ok : FnsOk Tryz.prog tb56 := .cons f70 (FnsOk.nil)
theorem tb56_70 : tb56 70 = some T70.sp := rfl
attribute [go_sem] TP56 TR56 TA56
section
attribute [local go_sem] T56 tb56_70 Tryz.results56
theorem v56 : Valid Tryz.prog 56 T56.sp := by
 refine valid_t (fn := Tryz.f56) (n := 6) ty_ok tb56_ok Tryz.func56 rfl Tryz.ntmps56 ?_
 rintro a0 hx
 obtain ⟨r, hr⟩ := oE (show (r56 a0).isSome = true from hx)
 have hres : T56.res a0 = qu4 r := by simp only [T56, mkT, hr, oG]
 refine ⟨nL rfl, fun stop S => ?_⟩
 rw [hres] at S
 unfold r56 at hr
 refine S.gx [] ?_
 obtain ⟨v1, hv1, hr⟩ := of_bind0 hr
 try simp only [hv1, oG, oI, true_and, and_assoc]
 repeat refine gA ?_
 refine ⟨?_, ?_⟩ <;> intro hc
 ·have hr := ifP hr hc
  repeat refine gA ?_
  cases hr
  exact lf
 ·have hr := ifN hr hc
  repeat refine gA ?_
  cases hr
  exact lf
theorem f56 : FnFact Tryz.prog 56 T56.sp := ⟨⟨Tryz.f56, Tryz.func56, by decide, rfl⟩, v56⟩
end

/- martensite/martensiteref04.CurveErr -/
def b14_1 (a0 : List (Int)) : (Int) → Ctl (Int) (Int) := fun s1 =>
  if (decide (s1 < (a0.length : Int))) = true then
   if 0 ≤ s1 ∧ s1 < (a0.length : Int) then
    bindC (r56 (a0.getD s1.toNat default)) fun v1 =>
     if (v1 != 0) = true then
      .out (some v1)
      else .next (IntKind.i64.wrap (s1 + 1))
    else .out none
   else .out (some 0)
def r14 (a0 : List (Int)) : Option (Int) :=
  if (decide ((a0.length : Int) > 200)) = true then
   some 8
   else iterC (b14_1 a0) 1000000000 0
def T14 : TSpec qA6 := mkT qE6 qd6 r14 qu4 false
theorem TP14 (c0 : D) : T14.sp.pre [.c c0] = (eqvArgs (qt6 c0) (qp6 qw6 c0) ∧ (qp6 r14 c0).isSome = true) := (rfl)
theorem TR14 (c0 : D) : T14.sp.res [.c c0] = qu4 ((qp6 r14 c0).getD default) := (rfl)
theorem TA14 : T14.sp.alias = false := (rfl)
def tb14 : Fns := lk [(56, T56.sp)]
theorem tb14_ok : FnsOk Tryz.prog tb14 := .cons f56 (FnsOk.nil)
theorem tb14_56 : tb14 56 = some T56.sp := rfl
attribute [go_sem] TP14 TR14 TA14
section
attribute [local go_sem] T14 tb14_56 Tryz.results14
theorem v14 : Valid Tryz.prog 14 T14.sp := by
 refine valid_t (fn := Tryz.f14) (n := 22) ty_ok tb14_ok Tryz.func14 rfl Tryz.ntmps14 ?_
 rintro a0 hx
 obtain ⟨r, hr⟩ := oE (show (r14 a0).isSome = true from hx)
 have hres : T14.res a0 = qu4 r := by simp only [T14, mkT, hr, oG]
 refine ⟨nL rfl, fun stop S => ?_⟩
 rw [hres] at S
 unfold r14 at hr
 refine S.gx [] ?_
 repeat refine gA ?_
 refine ⟨?_, ?_⟩ <;> intro hc
 ·have hr := ifP hr hc
  repeat refine gA ?_
  cases hr
  exact lf
 ·have hr := ifN hr hc
  repeat refine gA ?_
  refine S.sees [0, 3] [] [] ?_ (Stop.iter S (fun s1 => ⟨[(0, .c (.d (encF 1 d_I a0))), (3, .c (.d (.int .i64 s1)))], [], []⟩) (b14_1 a0) (fun q => q = r) hr rfl ?_)
  ·exact lf
  ·intro s1 hr
   unfold b14_1 at hr
   refine S.gx [] ?_
   repeat refine gA ?_
   refine ⟨?_, ?_⟩ <;> intro hc
   ·have hr := ifP1 hr hc
    obtain ⟨hg2, hr⟩ := of_guard1 hr
    obtain ⟨v1, hv1, hr⟩ := of_bind1 hr
    try simp only [hv1, oG, oI, true_and, and_assoc]
    repeat refine gA ?_
    refine ⟨?_, ?_⟩ <;> intro hc
    ·have hr := ifP1 hr hc
     repeat refine gA ?_
     have hr := of_out0 hr
     cases hr
     exact lf
    ·have hr := ifN1 hr hc
     repeat refine gA ?_
     refine S.sees [0, 3] [] [] ?_ hr
     exact lf
   ·have hr := ifN1 hr hc
    repeat refine gA ?_
    have hr := of_out0 hr
    repeat refine gA ?_
    cases hr
    exact lf
theorem f14 : FnFact Tryz.prog 14 T14.sp := ⟨⟨Tryz.f14, Tryz.func14, by decide, rfl⟩, v14⟩
end

/- martensite/martensiteref04.picked -/
def r126 (x0 : Int) (x1 : Int) (a1 : Int) : Option (Int) :=
  some (IntKind.i64.wrap (x0 + (IntKind.i64.wrap ((IntKind.i64.wrap ((IntKind.i64.wrap (x1 - x0)) * a1)).tdiv 1000))))
def T126 : TSpec qA15 := mkT qE15 qd15 (fun ⟨x0, x1, a1⟩ => r126 x0 x1 a1) qu4 false
theorem TP126 (c0 c1 c2 : D) : T126.sp.pre [.agg [c0, c1], .c c2] = (eqvArgs (qt15 c0 c1 c2) (qp15 qw15 c0 c1 c2) ∧ (qp15 r126 c0 c1 c2).isSome = true) := (rfl)
theorem TR126 (c0 c1 c2 : D) : T126.sp.res [.agg [c0, c1], .c c2] = qu4 ((qp15 r126 c0 c1 c2).getD default) := (rfl)
theorem TA126 : T126.sp.alias = false := (rfl)
def tb126 : Fns := lk []
theorem tb126_ok : FnsOk Tryz.prog tb126 := FnsOk.nil
attribute [go_sem] TP126 TR126 TA126
section
attribute [local go_sem] T126 Tryz.results126
theorem v126 : Valid Tryz.prog 126 T126.sp := by
 refine valid_t (fn := Tryz.f126) (n := 16) ty_ok tb126_ok Tryz.func126 rfl Tryz.ntmps126 ?_
 rintro ⟨x0, x1, a1⟩ hx
 obtain ⟨r, hr⟩ := oE (show (r126 x0 x1 a1).isSome = true from hx)
 have hres : T126.res (x0, x1, a1) = qu4 r := by simp only [T126, mkT, hr, oG]
 refine ⟨nL rfl, fun stop S => ?_⟩
 rw [hres] at S
 unfold r126 at hr
 refine S.gx [] ?_
 repeat refine gA ?_
 cases hr
 exact lf
theorem f126 : FnFact Tryz.prog 126 T126.sp := ⟨⟨Tryz.f126, Tryz.func126, by decide, rfl⟩, v126⟩
end

theorem stop_join98 {σ : Type} {k : List K} {stop : List K → St → Prop} (head : σ → St) (R : σ → Prop) {goal : Prop} (main : (∀ s, R s → stop k (head s)) → goal) (j : ∀ s, R s → stop k (head s)) : goal := main j
/- martensite/martensiteref04.Step -/
def j98_1 (x0 : Int) (x12 : Int) (x4 : Int) (x1 : Int) (v2 : Int) : (Int) → Option (Int × Int × Int × Int × Int × Int × Int) := fun s1 =>
  some (IntKind.i64.wrap ((IntKind.i64.wrap ((IntKind.i64.wrap (x0 + x4)) + x1)) - (if v2 < IntKind.i64.wrap ((IntKind.i64.wrap (x0 + x4)) + x1) then v2 else IntKind.i64.wrap ((IntKind.i64.wrap (x0 + x4)) + x1))), IntKind.i64.wrap (x12 + (if v2 < IntKind.i64.wrap ((IntKind.i64.wrap (x0 + x4)) + x1) then v2 else IntKind.i64.wrap ((IntKind.i64.wrap (x0 + x4)) + x1))), 0, 0, 0, s1, 0)
def j98_3 (x2 : List (Int × Int × Int × Int)) (x3 : List (Int × Int × Int × Int × Int)) (x5 : List (Int × Int × Int)) (x6 : List (Int × Int)) (x8 : Int) (x9 : Int) (x10 : Int) (x11 : Int) (x0 : Int) (x7 : Int) (x13 : Int) (a2 : Int) (s2 : Int × Int × Int) : (Int × Int) → Option (Int × Int × Int × Int × Int × Int × Int) := fun s3 =>
  (r105 x2 x3 x5 x6 x8 x9 x10 x11 a2).bind fun v7 =>
   if (decide (v7 ≥ 0)) = true then
    if 0 ≤ v7 ∧ v7 < (x6.length : Int) then
     some (x0, s3.1, s2.2.1, s3.2, s2.2.2, x7, (if IntKind.i64.wrap (x13 + ((x6.getD v7.toNat default).2)) < 1000000 then IntKind.i64.wrap (x13 + ((x6.getD v7.toNat default).2)) else 1000000))
     else none
    else some (x0, s3.1, s2.2.1, s3.2, s2.2.2, x7, x13)
def j98_2 (x2 : List (Int × Int × Int × Int)) (x3 : List (Int × Int × Int × Int × Int)) (x5 : List (Int × Int × Int)) (x6 : List (Int × Int)) (x8 : Int) (x9 : Int) (x10 : Int) (x11 : Int) (x0 : Int) (x1 : Int) (x7 : Int) (x13 : Int) (a2 : Int) (x14 : Int) : (Int × Int × Int) → Option (Int × Int × Int × Int × Int × Int × Int) := fun s2 =>
  (r103 x2 x3 x5 x6 x8 x9 x10 x11 a2).bind fun v6 =>
   if (decide (v6 ≥ 0)) = true then
    if 0 ≤ v6 ∧ v6 < (x5.length : Int) then
     (r126 ((x5.getD v6.toNat default).2.1) ((x5.getD v6.toNat default).2.2) x14).bind fun v9 =>
      (r104 s2.1 x1 v9).bind fun v10 =>
       j98_3 x2 x3 x5 x6 x8 x9 x10 x11 x0 x7 x13 a2 s2 (IntKind.i64.wrap ((IntKind.i64.wrap (s2.1 + x1)) - v10), v10)
     else none
    else j98_3 x2 x3 x5 x6 x8 x9 x10 x11 x0 x7 x13 a2 s2 (s2.1, x1)
def r98 (x2 : List (Int × Int × Int × Int)) (x3 : List (Int × Int × Int × Int × Int)) (x5 : List (Int × Int × Int)) (x6 : List (Int × Int)) (x8 : Int) (x9 : Int) (x10 : Int) (x11 : Int) (x0 : Int) (x12 : Int) (x4 : Int) (x1 : Int) (x15 : Int) (x7 : Int) (x13 : Int) (a2 : Int) (x17 : Int) (x16 : Int) (x14 : Int) : Option (Int × Int × Int × Int × Int × Int × Int) :=
  (r101 x2 x3 x5 x6 x8 x9 x10 x11 a2).bind fun v1 =>
   if (decide (v1 ≥ 0)) = true then
    if 0 ≤ v1 ∧ v1 < (x2.length : Int) then
     (r126 ((x2.getD v1.toNat default).2.1) ((x2.getD v1.toNat default).2.2.1) x17).bind fun v2 =>
      if (decide ((IntKind.i64.wrap (x12 + (if v2 < IntKind.i64.wrap ((IntKind.i64.wrap (x0 + x4)) + x1) then v2 else IntKind.i64.wrap ((IntKind.i64.wrap (x0 + x4)) + x1)))) > 0)) = true then
       if 0 ≤ v1 ∧ v1 < (x2.length : Int) then
        j98_1 x0 x12 x4 x1 v2 (if IntKind.i64.wrap (x7 + ((x2.getD v1.toNat default).2.2.2)) < 100000 then IntKind.i64.wrap (x7 + ((x2.getD v1.toNat default).2.2.2)) else 100000)
        else none
       else j98_1 x0 x12 x4 x1 v2 x7
     else none
    else (r102 x2 x3 x5 x6 x8 x9 x10 x11 a2).bind fun v5 =>
     if (decide (v5 ≥ 0)) = true then
      if 0 ≤ v5 ∧ v5 < (x3.length : Int) then
       (r126 ((x3.getD v5.toNat default).2.1) ((x3.getD v5.toNat default).2.2.1) x16).bind fun v12 =>
        if ((if IntKind.i64.wrap (x15 + v12) < 1000000 then IntKind.i64.wrap (x15 + v12) else 1000000) == 1000000) = true then
         if 0 ≤ v5 ∧ v5 < (x3.length : Int) then
          (r126 ((x3.getD v5.toNat default).2.2.2.1) ((x3.getD v5.toNat default).2.2.2.2) x16).bind fun v13 =>
           j98_2 x2 x3 x5 x6 x8 x9 x10 x11 x0 x1 x7 x13 a2 x14 (IntKind.i64.wrap (x12 - (if v13 < x12 then v13 else x12)), IntKind.i64.wrap (x4 + (if v13 < x12 then v13 else x12)), (if IntKind.i64.wrap (x15 + v12) < 1000000 then IntKind.i64.wrap (x15 + v12) else 1000000))
          else none
         else j98_2 x2 x3 x5 x6 x8 x9 x10 x11 x0 x1 x7 x13 a2 x14 (x12, x4, (if IntKind.i64.wrap (x15 + v12) < 1000000 then IntKind.i64.wrap (x15 + v12) else 1000000))
       else none
      else j98_2 x2 x3 x5 x6 x8 x9 x10 x11 x0 x1 x7 x13 a2 x14 (x12, x4, x15)
def T98 : TSpec qA21 := mkT qE21 qd21 (fun ⟨x2, x3, x5, x6, x8, x9, x10, x11, x0, x12, x4, x1, x15, x7, x13, a2, x17, x16, x14⟩ => r98 x2 x3 x5 x6 x8 x9 x10 x11 x0 x12 x4 x1 x15 x7 x13 a2 x17 x16 x14) qu1 false
theorem TP98 (c0 c1 c2 c3 c4 c5 c6 c7 c8 c9 c10 c11 c12 c13 c14 c15 c16 c17 c18 : D) : T98.sp.pre [.agg [c0, c1, c2, c3, c4, c5, c6, c7], .agg [c8, c9, c10, c11, c12, c13, c14], .c c15, .agg [c16, c17, c18]] = (eqvArgs (qt21 c0 c1 c2 c3 c4 c5 c6 c7 c8 c9 c10 c11 c12 c13 c14 c15 c16 c17 c18) (qp21 qw21 c0 c1 c2 c3 c4 c5 c6 c7 c8 c9 c10 c11 c12 c13 c14 c15 c16 c17 c18) ∧ (qp21 r98 c0 c1 c2 c3 c4 c5 c6 c7 c8 c9 c10 c11 c12 c13 c14 c15 c16 c17 c18).isSome = true) := (rfl)
theorem TR98 (c0 c1 c2 c3 c4 c5 c6 c7 c8 c9 c10 c11 c12 c13 c14 c15 c16 c17 c18 : D) : T98.sp.res [.agg [c0, c1, c2, c3, c4, c5, c6, c7], .agg [c8, c9, c10, c11, c12, c13, c14], .c c15, .agg [c16, c17, c18]] = qu1 ((qp21 r98 c0 c1 c2 c3 c4 c5 c6 c7 c8 c9 c10 c11 c12 c13 c14 c15 c16 c17 c18).getD default) := (rfl)
theorem TA98 : T98.sp.alias = false := (rfl)
def tb98 : Fns := lk [(101, T101.sp), (102, T102.sp), (103, T103.sp), (104, T104.sp), (105, T105.sp), (126, T126.sp)]
theorem tb98_ok : FnsOk Tryz.prog tb98 := .cons f101 (.cons f102 (.cons f103 (.cons f104 (.cons f105 (.cons f126 (FnsOk.nil))))))
theorem tb98_101 : tb98 101 = some T101.sp := rfl
theorem tb98_102 : tb98 102 = some T102.sp := rfl
theorem tb98_103 : tb98 103 = some T103.sp := rfl
theorem tb98_104 : tb98 104 = some T104.sp := rfl
theorem tb98_105 : tb98 105 = some T105.sp := rfl
theorem tb98_126 : tb98 126 = some T126.sp := rfl
attribute [go_sem] TP98 TR98 TA98
section
attribute [local go_sem] T98 tb98_101 tb98_102 tb98_103 tb98_104 tb98_105 tb98_126 Tryz.results98
theorem v98 : Valid Tryz.prog 98 T98.sp := by
 refine valid_t (fn := Tryz.f98) (n := 161) ty_ok tb98_ok Tryz.func98 rfl Tryz.ntmps98 ?_
 rintro ⟨x2, x3, x5, x6, x8, x9, x10, x11, x0, x12, x4, x1, x15, x7, x13, a2, x17, x16, x14⟩ hx
 obtain ⟨r, hr⟩ := oE (show (r98 x2 x3 x5 x6 x8 x9 x10 x11 x0 x12 x4 x1 x15 x7 x13 a2 x17 x16 x14).isSome = true from hx)
 have hres : T98.res (x2, x3, x5, x6, x8, x9, x10, x11, x0, x12, x4, x1, x15, x7, x13, a2, x17, x16, x14) = qu1 r := by simp only [T98, mkT, hr, oG]
 refine ⟨nL rfl, fun stop S => ?_⟩
 rw [hres] at S
 unfold r98 at hr
 refine S.gx [5, 8, 13, 15, 19] ?_
 obtain ⟨v1, hv1, hr⟩ := of_bind0 hr
 try simp only [hv1, oG, oI, true_and, and_assoc]
 repeat refine gA ?_
 refine ⟨?_, ?_⟩ <;> intro hc
 ·have hr := ifP hr hc
  obtain ⟨hg4, hr⟩ := of_guard0 hr
  obtain ⟨v2, hv2, hr⟩ := of_bind0 hr
  try simp only [hv2, oG, oI, true_and, and_assoc]
  repeat refine gA ?_
  refine S.prune [4, 5, 8, 9, 10] ?_
  refine S.gx [8, 13, 15, 19] ?_
  repeat refine gA ?_
  apply stop_join98 (stop := stop) (fun s1 => ⟨[(5, .c (.ref 5 0)), (8, .c (.ref 8 0))], [(5, [.d (.int .i64 (IntKind.i64.wrap ((IntKind.i64.wrap ((IntKind.i64.wrap (x0 + x4)) + x1)) - (if v2 < IntKind.i64.wrap ((IntKind.i64.wrap (x0 + x4)) + x1) then v2 else IntKind.i64.wrap ((IntKind.i64.wrap (x0 + x4)) + x1))))), .d (.int .i64 (IntKind.i64.wrap (x12 + (if v2 < IntKind.i64.wrap ((IntKind.i64.wrap (x0 + x4)) + x1) then v2 else IntKind.i64.wrap ((IntKind.i64.wrap (x0 + x4)) + x1))))), .d (.int .i64 0), .d (.int .i64 0), .d (.int .i64 0), .d (.int .i64 s1), .d (.int .i64 0)]), (8, [.d (.int .i64 0), .d (.int .i64 0), .d (.int .i64 0), .d (.int .i64 0), .d (.int .i64 0), .d (.int .i64 0), .d (.int .i64 0)])], []⟩) (fun s1 => j98_1 x0 x12 x4 x1 v2 s1 = some r)
  ·intro J1
   refine ⟨?_, ?_⟩ <;> intro hc
   ·have hr := ifP hr hc
    obtain ⟨hg3, hr⟩ := of_guard0 hr
    repeat refine gA ?_
    refine S.sees [5, 8] [(5, 5), (8, 8)] [] ?_ (J1 _ hr)
    exact lf
   ·have hr := ifN hr hc
    repeat refine gA ?_
    refine S.sees [5, 8] [(5, 5), (8, 8)] [] ?_ (J1 _ hr)
    exact lf
  ·intro s1 hr
   unfold j98_1 at hr
   refine S.gx [5, 8, 13, 15, 19] ?_
   repeat refine gA ?_
   refine S.gx [5, 13, 15, 19] ?_
   repeat refine gA ?_
   cases hr
   exact lf
 ·have hr := ifN hr hc
  obtain ⟨v5, hv5, hr⟩ := of_bind0 hr
  try simp only [hv5, oG, oI, true_and, and_assoc]
  repeat refine gA ?_
  apply stop_join98 (stop := stop) (fun s2 => ⟨[(2, .c (.d (.int .i64 a2))), (4, .c (.ref 4 0)), (5, .c (.ref 5 0)), (7, .c (.ref 7 0)), (8, .c (.ref 8 0))], [(4, [.d (encF 4 d_IIII x2), .d (encF 5 d_IIIII x3), .d (encF 3 d_III x5), .d (encF 2 d_II x6), .d (.int .i64 x8), .d (.int .i64 x9), .d (.int .i64 x10), .d (.int .i64 x11)]), (5, [.d (.int .i64 x0), .d (.int .i64 s2.1), .d (.int .i64 s2.2.1), .d (.int .i64 x1), .d (.int .i64 s2.2.2), .d (.int .i64 x7), .d (.int .i64 x13)]), (7, [.d (.int .i64 x17), .d (.int .i64 x16), .d (.int .i64 x14)]), (8, [.d (.int .i64 0), .d (.int .i64 0), .d (.int .i64 0), .d (.int .i64 0), .d (.int .i64 0), .d (.int .i64 0), .d (.int .i64 0)])], []⟩) (fun s2 => j98_2 x2 x3 x5 x6 x8 x9 x10 x11 x0 x1 x7 x13 a2 x14 s2 = some r)
  ·intro J2
   refine ⟨?_, ?_⟩ <;> intro hc
   ·have hr := ifP hr hc
    obtain ⟨hg15, hr⟩ := of_guard0 hr
    obtain ⟨v12, hv12, hr⟩ := of_bind0 hr
    try simp only [hv12, oG, oI, true_and, and_assoc]
    repeat refine gA ?_
    refine ⟨?_, ?_⟩ <;> intro hc
    ·have hr := ifP hr hc
     repeat refine gA ?_
     refine S.prune [2, 4, 5, 7, 8, 11] ?_
     refine S.gx [5, 8, 15, 19] ?_
     obtain ⟨hg14, hr⟩ := of_guard0 hr
     obtain ⟨v13, hv13, hr⟩ := of_bind0 hr
     try simp only [hv13, oG, oI, true_and, and_assoc]
     repeat refine gA ?_
     refine S.sees [2, 4, 5, 7, 8] [(4, 4), (5, 5), (7, 7), (8, 8)] [] ?_ (J2 _ hr)
     exact lf
    ·have hr := ifN hr hc
     repeat refine gA ?_
     refine S.sees [2, 4, 5, 7, 8] [(4, 4), (5, 5), (7, 7), (8, 8)] [] ?_ (J2 _ hr)
     exact lf
   ·have hr := ifN hr hc
    repeat refine gA ?_
    refine S.sees [2, 4, 5, 7, 8] [(4, 4), (5, 5), (7, 7), (8, 8)] [] ?_ (J2 _ hr)
    exact lf
  ·intro s2 hr
   unfold j98_2 at hr
   refine S.gx [5, 8, 13, 15, 19] ?_
   repeat refine gA ?_
   refine S.gx [5, 8, 13, 19] ?_
   obtain ⟨v6, hv6, hr⟩ := of_bind0 hr
   try simp only [hv6, oG, oI, true_and, and_assoc]
   repeat refine gA ?_
   apply stop_join98 (stop := stop) (fun s3 => ⟨[(2, .c (.d (.int .i64 a2))), (4, .c (.ref 4 0)), (5, .c (.ref 5 0)), (8, .c (.ref 8 0))], [(4, [.d (encF 4 d_IIII x2), .d (encF 5 d_IIIII x3), .d (encF 3 d_III x5), .d (encF 2 d_II x6), .d (.int .i64 x8), .d (.int .i64 x9), .d (.int .i64 x10), .d (.int .i64 x11)]), (5, [.d (.int .i64 x0), .d (.int .i64 s3.1), .d (.int .i64 s2.2.1), .d (.int .i64 s3.2), .d (.int .i64 s2.2.2), .d (.int .i64 x7), .d (.int .i64 x13)]), (8, [.d (.int .i64 0), .d (.int .i64 0), .d (.int .i64 0), .d (.int .i64 0), .d (.int .i64 0), .d (.int .i64 0), .d (.int .i64 0)])], []⟩) (fun s3 => j98_3 x2 x3 x5 x6 x8 x9 x10 x11 x0 x7 x13 a2 s2 s3 = some r)
   ·intro J3
    refine ⟨?_, ?_⟩ <;> intro hc
    ·have hr := ifP hr hc
     obtain ⟨hg11, hr⟩ := of_guard0 hr
     obtain ⟨v9, hv9, hr⟩ := of_bind0 hr
     obtain ⟨v10, hv10, hr⟩ := of_bind0 hr
     try simp only [hv9, hv10, Option.getD_some, Option.isSome_some, true_and, and_assoc]
     repeat refine gA ?_
     refine S.sees [2, 4, 5, 8] [(4, 4), (5, 5), (8, 8)] [] ?_ (J3 _ hr)
     exact lf
    ·have hr := ifN hr hc
     repeat refine gA ?_
     refine S.sees [2, 4, 5, 8] [(4, 4), (5, 5), (8, 8)] [] ?_ (J3 _ hr)
     exact lf
   ·intro s3 hr
    unfold j98_3 at hr
    refine S.gx [5, 8, 13, 15, 19] ?_
    repeat refine gA ?_
    refine S.gx [5, 8, 13, 15] ?_
    obtain ⟨v7, hv7, hr⟩ := of_bind0 hr
    try simp only [hv7, oG, oI, true_and, and_assoc]
    repeat refine gA ?_
    refine ⟨?_, ?_⟩ <;> intro hc
    ·have hr := ifP hr hc
     obtain ⟨hg8, hr⟩ := of_guard0 hr
     repeat refine gA ?_
     cases hr
     exact lf
    ·have hr := ifN hr hc
     repeat refine gA ?_
     cases hr
     exact lf
theorem f98 : FnFact Tryz.prog 98 T98.sp := ⟨⟨Tryz.f98, Tryz.func98, by decide, rfl⟩, v98⟩
end

/- martensite/martensiteref04.Run -/
def b57_1 (x0 : List (Int × Int × Int × Int)) (x1 : List (Int × Int × Int × Int × Int)) (x2 : List (Int × Int × Int)) (x3 : List (Int × Int)) (x4 : Int) (x5 : Int) (x6 : Int) (x7 : Int) (a2 : List (Int)) (x8 : Int) (x9 : Int) (x10 : Int) : (Int × Int × Int × Int × Int × Int × Int × Int) → Ctl (Int × Int × Int × Int × Int × Int × Int × Int) (Int × Int × Int × Int × Int × Int × Int) := fun s1 =>
  if (decide (s1.1 < (a2.length : Int))) = true then
   if 0 ≤ s1.1 ∧ s1.1 < (a2.length : Int) then
    bindC (r98 x0 x1 x2 x3 x4 x5 x6 x7 s1.2.1 s1.2.2.1 s1.2.2.2.1 s1.2.2.2.2.1 s1.2.2.2.2.2.1 s1.2.2.2.2.2.2.1 s1.2.2.2.2.2.2.2 (a2.getD s1.1.toNat default) x8 x9 x10) fun v1 =>
     .next (IntKind.i64.wrap (s1.1 + 1), v1.1, v1.2.1, v1.2.2.1, v1.2.2.2.1, v1.2.2.2.2.1, v1.2.2.2.2.2.1, v1.2.2.2.2.2.2)
    else .out none
   else .out (some (s1.2.1, s1.2.2.1, s1.2.2.2.1, s1.2.2.2.2.1, s1.2.2.2.2.2.1, s1.2.2.2.2.2.2.1, s1.2.2.2.2.2.2.2))
def r57 (x0 : List (Int × Int × Int × Int)) (x1 : List (Int × Int × Int × Int × Int)) (x2 : List (Int × Int × Int)) (x3 : List (Int × Int)) (x4 : Int) (x5 : Int) (x6 : Int) (x7 : Int) (x11 : Int) (x12 : Int) (x13 : Int) (x14 : Int) (x15 : Int) (x16 : Int) (x17 : Int) (a2 : List (Int)) (x8 : Int) (x9 : Int) (x10 : Int) : Option (Int × Int × Int × Int × Int × Int × Int) :=
  iterC (b57_1 x0 x1 x2 x3 x4 x5 x6 x7 a2 x8 x9 x10) 1000000000 (0, x11, x12, x13, x14, x15, x16, x17)
def T57 : TSpec qA22 := mkT qE22 qd22 (fun ⟨x0, x1, x2, x3, x4, x5, x6, x7, x11, x12, x13, x14, x15, x16, x17, a2, x8, x9, x10⟩ => r57 x0 x1 x2 x3 x4 x5 x6 x7 x11 x12 x13 x14 x15 x16 x17 a2 x8 x9 x10) qu1 false
theorem TP57 (c0 c1 c2 c3 c4 c5 c6 c7 c8 c9 c10 c11 c12 c13 c14 c15 c16 c17 c18 : D) : T57.sp.pre [.agg [c0, c1, c2, c3, c4, c5, c6, c7], .agg [c8, c9, c10, c11, c12, c13, c14], .c c15, .agg [c16, c17, c18]] = (eqvArgs (qt22 c0 c1 c2 c3 c4 c5 c6 c7 c8 c9 c10 c11 c12 c13 c14 c15 c16 c17 c18) (qp22 qw22 c0 c1 c2 c3 c4 c5 c6 c7 c8 c9 c10 c11 c12 c13 c14 c15 c16 c17 c18) ∧ (qp22 r57 c0 c1 c2 c3 c4 c5 c6 c7 c8 c9 c10 c11 c12 c13 c14 c15 c16 c17 c18).isSome = true) := (rfl)
theorem TR57 (c0 c1 c2 c3 c4 c5 c6 c7 c8 c9 c10 c11 c12 c13 c14 c15 c16 c17 c18 : D) : T57.sp.res [.agg [c0, c1, c2, c3, c4, c5, c6, c7], .agg [c8, c9, c10, c11, c12, c13, c14], .c c15, .agg [c16, c17, c18]] = qu1 ((qp22 r57 c0 c1 c2 c3 c4 c5 c6 c7 c8 c9 c10 c11 c12 c13 c14 c15 c16 c17 c18).getD default) := (rfl)
theorem TA57 : T57.sp.alias = false := (rfl)
def tb57 : Fns := lk [(98, T98.sp)]
theorem tb57_ok : FnsOk Tryz.prog tb57 := .cons f98 (FnsOk.nil)
theorem tb57_98 : tb57 98 = some T98.sp := rfl
attribute [go_sem] TP57 TR57 TA57
section
attribute [local go_sem] T57 tb57_98 Tryz.results57
theorem v57 : Valid Tryz.prog 57 T57.sp := by
 refine valid_t (fn := Tryz.f57) (n := 25) ty_ok tb57_ok Tryz.func57 rfl Tryz.ntmps57 ?_
 rintro ⟨x0, x1, x2, x3, x4, x5, x6, x7, x11, x12, x13, x14, x15, x16, x17, a2, x8, x9, x10⟩ hx
 obtain ⟨r, hr⟩ := oE (show (r57 x0 x1 x2 x3 x4 x5 x6 x7 x11 x12 x13 x14 x15 x16 x17 a2 x8 x9 x10).isSome = true from hx)
 have hres : T57.res (x0, x1, x2, x3, x4, x5, x6, x7, x11, x12, x13, x14, x15, x16, x17, a2, x8, x9, x10) = qu1 r := by simp only [T57, mkT, hr, oG]
 refine ⟨nL rfl, fun stop S => ?_⟩
 rw [hres] at S
 unfold r57 at hr
 refine S.gx [] ?_
 repeat refine gA ?_
 refine S.sees [2, 4, 5, 7, 8, 9] [(4, 4), (5, 5), (7, 7), (8, 8)] [] ?_ (Stop.iter S (fun s1 => ⟨[(2, .c (.d (encF 1 d_I a2))), (4, .c (.ref 4 0)), (5, .c (.ref 5 0)), (7, .c (.ref 7 0)), (8, .c (.ref 8 0)), (9, .c (.d (.int .i64 s1.1)))], [(4, [.d (encF 4 d_IIII x0), .d (encF 5 d_IIIII x1), .d (encF 3 d_III x2), .d (encF 2 d_II x3), .d (.int .i64 x4), .d (.int .i64 x5), .d (.int .i64 x6), .d (.int .i64 x7)]), (5, [.d (.int .i64 s1.2.1), .d (.int .i64 s1.2.2.1), .d (.int .i64 s1.2.2.2.1), .d (.int .i64 s1.2.2.2.2.1), .d (.int .i64 s1.2.2.2.2.2.1), .d (.int .i64 s1.2.2.2.2.2.2.1), .d (.int .i64 s1.2.2.2.2.2.2.2)]), (7, [.d (.int .i64 x8), .d (.int .i64 x9), .d (.int .i64 x10)]), (8, [.d (.int .i64 0), .d (.int .i64 0), .d (.int .i64 0), .d (.int .i64 0), .d (.int .i64 0), .d (.int .i64 0), .d (.int .i64 0)])], []⟩) (b57_1 x0 x1 x2 x3 x4 x5 x6 x7 a2 x8 x9 x10) (fun q => q = r) hr rfl ?_)
 ·exact lf
 ·intro s1 hr
  unfold b57_1 at hr
  refine S.gx [] ?_
  repeat refine gA ?_
  refine ⟨?_, ?_⟩ <;> intro hc
  ·have hr := ifP1 hr hc
   obtain ⟨hg2, hr⟩ := of_guard1 hr
   obtain ⟨v1, hv1, hr⟩ := of_bind1 hr
   try simp only [hv1, oG, oI, true_and, and_assoc]
   repeat refine gA ?_
   refine S.sees [2, 4, 5, 7, 8, 9] [(4, 4), (5, 5), (7, 7), (8, 8)] [] ?_ hr
   exact lf
  ·have hr := ifN1 hr hc
   repeat refine gA ?_
   have hr := of_out0 hr
   repeat refine gA ?_
   cases hr
   exact lf
theorem f57 : FnFact Tryz.prog 57 T57.sp := ⟨⟨Tryz.f57, Tryz.func57, by decide, rfl⟩, v57⟩
end

/- martensite/martensiteref04.Incubation -/
def r15 (x0 : List (Int × Int × Int × Int)) (x1 : List (Int × Int × Int × Int × Int)) (x2 : List (Int × Int × Int)) (x3 : List (Int × Int)) (x4 : Int) (x5 : Int) (x6 : Int) (x7 : Int) (a1 : List (Int)) : Option (Int) :=
  (r57 x0 x1 x2 x3 x4 x5 x6 x7 0 1000000 0 0 0 0 0 a1 1000 1000 1000).bind fun v1 =>
   some v1.2.2.2.2.1
def T15 : TSpec qA48 := mkT qE48 qd48 (fun ⟨x0, x1, x2, x3, x4, x5, x6, x7, a1⟩ => r15 x0 x1 x2 x3 x4 x5 x6 x7 a1) qu4 false
theorem TP15 (c0 c1 c2 c3 c4 c5 c6 c7 c8 : D) : T15.sp.pre [.agg [c0, c1, c2, c3, c4, c5, c6, c7], .c c8] = (eqvArgs (qt48 c0 c1 c2 c3 c4 c5 c6 c7 c8) (qp48 qw48 c0 c1 c2 c3 c4 c5 c6 c7 c8) ∧ (qp48 r15 c0 c1 c2 c3 c4 c5 c6 c7 c8).isSome = true) := (rfl)
theorem TR15 (c0 c1 c2 c3 c4 c5 c6 c7 c8 : D) : T15.sp.res [.agg [c0, c1, c2, c3, c4, c5, c6, c7], .c c8] = qu4 ((qp48 r15 c0 c1 c2 c3 c4 c5 c6 c7 c8).getD default) := (rfl)
theorem TA15 : T15.sp.alias = false := (rfl)
def tb15 : Fns := lk [(57, T57.sp)]
theorem tb15_ok : FnsOk Tryz.prog tb15 := .cons f57 (FnsOk.nil)
theorem tb15_57 : tb15 57 = some T57.sp := rfl
attribute [go_sem] TP15 TR15 TA15
section
attribute [local go_sem] T15 tb15_57 Tryz.results15
theorem v15 : Valid Tryz.prog 15 T15.sp := by
 refine valid_t (fn := Tryz.f15) (n := 11) ty_ok tb15_ok Tryz.func15 rfl Tryz.ntmps15 ?_
 rintro ⟨x0, x1, x2, x3, x4, x5, x6, x7, a1⟩ hx
 obtain ⟨r, hr⟩ := oE (show (r15 x0 x1 x2 x3 x4 x5 x6 x7 a1).isSome = true from hx)
 have hres : T15.res (x0, x1, x2, x3, x4, x5, x6, x7, a1) = qu4 r := by simp only [T15, mkT, hr, oG]
 refine ⟨nL rfl, fun stop S => ?_⟩
 rw [hres] at S
 unfold r15 at hr
 refine S.gx [] ?_
 obtain ⟨v1, hv1, hr⟩ := of_bind0 hr
 try simp only [hv1, oG, oI, true_and, and_assoc]
 repeat refine gA ?_
 cases hr
 exact lf
theorem f15 : FnFact Tryz.prog 15 T15.sp := ⟨⟨Tryz.f15, Tryz.func15, by decide, rfl⟩, v15⟩
end

/- martensite/martensiteref04.HardErr -/
def r59 (x1 : Int) (x0 : Int) : Option (Int) :=
  (r58 x1 0 2000).bind fun v1 =>
   if (!(!v1)) = true → (r58 x0 0 2000).isSome = true then
    if ((!v1) || (!((r58 x0 0 2000).getD default))) = true then
     some 2
     else if (decide (x1 > x0)) = true then
      some 9
      else some 0
    else none
def T59 : TSpec qA4 := mkT qE4 qd4 (fun ⟨x1, x0⟩ => r59 x1 x0) qu4 false
theorem TP59 (c0 c1 : D) : T59.sp.pre [.agg [c0, c1]] = (eqvArgs (qt4 c0 c1) (qp4 qw4 c0 c1) ∧ (qp4 r59 c0 c1).isSome = true) := (rfl)
theorem TR59 (c0 c1 : D) : T59.sp.res [.agg [c0, c1]] = qu4 ((qp4 r59 c0 c1).getD default) := (rfl)
theorem TA59 : T59.sp.alias = false := (rfl)
def tb59 : Fns := lk [(58, T58.sp)]
theorem tb59_ok : FnsOk Tryz.prog tb59 := .cons f58 (FnsOk.nil)
theorem tb59_58 : tb59 58 = some T58.sp := rfl
attribute [go_sem] TP59 TR59 TA59
section
attribute [local go_sem] T59 tb59_58 Tryz.results59
theorem v59 : Valid Tryz.prog 59 T59.sp := by
 refine valid_t (fn := Tryz.f59) (n := 18) ty_ok tb59_ok Tryz.func59 rfl Tryz.ntmps59 ?_
 rintro ⟨x1, x0⟩ hx
 obtain ⟨r, hr⟩ := oE (show (r59 x1 x0).isSome = true from hx)
 have hres : T59.res (x1, x0) = qu4 r := by simp only [T59, mkT, hr, oG]
 refine ⟨nL rfl, fun stop S => ?_⟩
 rw [hres] at S
 unfold r59 at hr
 refine S.gx [] ?_
 obtain ⟨v1, hv1, hr⟩ := of_bind0 hr
 obtain ⟨hg2, hr⟩ := of_guard0 hr
 try simp only [hv1, oG, oI, true_and, and_assoc]
 repeat (first | refine gG hg2 ?_ | refine gA ?_ | refine gB ?_)
 refine ⟨?_, ?_⟩ <;> intro hc
 ·have hr := ifP hr hc
  repeat refine gA ?_
  cases hr
  exact lf
 ·have hr := ifN hr hc
  repeat refine gA ?_
  refine ⟨?_, ?_⟩ <;> intro hc
  ·have hr := ifP hr hc
   repeat refine gA ?_
   cases hr
   exact lf
  ·have hr := ifN hr hc
   repeat refine gA ?_
   cases hr
   exact lf
theorem f59 : FnFact Tryz.prog 59 T59.sp := ⟨⟨Tryz.f59, Tryz.func59, by decide, rfl⟩, v59⟩
end

/- martensite/martensiteref04.WantedErr -/
def b17_1 (x0 : List ((List (Int)))) (x1 : Int) (x2 : Int) : (Int) → Ctl (Int) (Int) := fun s1 =>
  if (decide (s1 < (x0.length : Int))) = true then
   if 0 ≤ s1 ∧ s1 < (x0.length : Int) then
    bindC (r14 (x0.getD s1.toNat default)) fun v1 =>
     if (v1 != 0) = true then
      .out (some v1)
      else .next (IntKind.i64.wrap (s1 + 1))
    else .out none
   else .out ((r59 x1 x2).bind fun v3 =>
    some v3)
def r17 (x0 : List ((List (Int)))) (x1 : Int) (x2 : Int) : Option (Int) :=
  if (decide ((x0.length : Int) > 12)) = true then
   some 8
   else iterC (b17_1 x0 x1 x2) 1000000000 0
def T17 : TSpec qA46 := mkT qE46 qd46 (fun ⟨x0, x1, x2⟩ => r17 x0 x1 x2) qu4 false
theorem TP17 (c0 c1 c2 : D) : T17.sp.pre [.agg [c0, c1, c2]] = (eqvArgs (qt46 c0 c1 c2) (qp46 qw46 c0 c1 c2) ∧ (qp46 r17 c0 c1 c2).isSome = true) := (rfl)
theorem TR17 (c0 c1 c2 : D) : T17.sp.res [.agg [c0, c1, c2]] = qu4 ((qp46 r17 c0 c1 c2).getD default) := (rfl)
theorem TA17 : T17.sp.alias = false := (rfl)
def tb17 : Fns := lk [(14, T14.sp), (59, T59.sp)]
theorem tb17_ok : FnsOk Tryz.prog tb17 := .cons f14 (.cons f59 (FnsOk.nil))
theorem tb17_14 : tb17 14 = some T14.sp := rfl
theorem tb17_59 : tb17 59 = some T59.sp := rfl
attribute [go_sem] TP17 TR17 TA17
section
attribute [local go_sem] T17 tb17_14 tb17_59 Tryz.results17
theorem v17 : Valid Tryz.prog 17 T17.sp := by
 refine valid_t (fn := Tryz.f17) (n := 28) ty_ok tb17_ok Tryz.func17 rfl Tryz.ntmps17 ?_
 rintro ⟨x0, x1, x2⟩ hx
 obtain ⟨r, hr⟩ := oE (show (r17 x0 x1 x2).isSome = true from hx)
 have hres : T17.res (x0, x1, x2) = qu4 r := by simp only [T17, mkT, hr, oG]
 refine ⟨nL rfl, fun stop S => ?_⟩
 rw [hres] at S
 unfold r17 at hr
 refine S.gx [] ?_
 repeat refine gA ?_
 refine ⟨?_, ?_⟩ <;> intro hc
 ·have hr := ifP hr hc
  repeat refine gA ?_
  cases hr
  exact lf
 ·have hr := ifN hr hc
  repeat refine gA ?_
  refine S.sees [1, 3] [(1, 1)] [] ?_ (Stop.iter S (fun s1 => ⟨[(1, .c (.ref 1 0)), (3, .c (.d (.int .i64 s1)))], [(1, [.d (encF 1 d_LIE x0), .d (.int .i64 x1), .d (.int .i64 x2)])], []⟩) (b17_1 x0 x1 x2) (fun q => q = r) hr rfl ?_)
  ·exact lf
  ·intro s1 hr
   unfold b17_1 at hr
   refine S.gx [] ?_
   repeat refine gA ?_
   refine ⟨?_, ?_⟩ <;> intro hc
   ·have hr := ifP1 hr hc
    obtain ⟨hg2, hr⟩ := of_guard1 hr
    obtain ⟨v1, hv1, hr⟩ := of_bind1 hr
    try simp only [hv1, oG, oI, true_and, and_assoc]
    repeat refine gA ?_
    refine ⟨?_, ?_⟩ <;> intro hc
    ·have hr := ifP1 hr hc
     repeat refine gA ?_
     have hr := of_out0 hr
     cases hr
     exact lf
    ·have hr := ifN1 hr hc
     repeat refine gA ?_
     refine S.sees [1, 3] [(1, 1)] [] ?_ hr
     exact lf
   ·have hr := ifN1 hr hc
    repeat refine gA ?_
    have hr := of_out0 hr
    obtain ⟨v3, hv3, hr⟩ := of_bind0 hr
    try simp only [hv3, oG, oI, true_and, and_assoc]
    repeat refine gA ?_
    cases hr
    exact lf
theorem f17 : FnFact Tryz.prog 17 T17.sp := ⟨⟨Tryz.f17, Tryz.func17, by decide, rfl⟩, v17⟩
end

/- martensite/martensiteref04.CurvesFor -/
def b19_2 (x1 : List (Int × Int × Int × Int)) (x2 : List (Int × Int × Int × Int × Int)) (x3 : List (Int × Int × Int)) (x4 : List (Int × Int)) (x5 : Int) (x6 : Int) (x7 : Int) (x8 : Int) (x9 : Int) (x10 : Int) (x11 : Int) (x12 : Int) (x13 : Int) (x14 : Int) (x15 : Int) (x0 : List ((List (Int)))) (x16 : Int) (x17 : Int) (s1 : (List (Int)) × Int) : ((List (Int × Int)) × Int) → Ctl ((List (Int × Int)) × Int) (Ctl ((List (Int)) × Int) ((List (Int)))) := fun s2 =>
  if 0 ≤ s1.2 ∧ s1.2 < (x0.length : Int) then
   if (decide (s2.2 < ((x0.getD s1.2.toNat default).length : Int))) = true then
    if 0 ≤ s1.2 ∧ s1.2 < (x0.length : Int) then
     if 0 ≤ s2.2 ∧ s2.2 < ((x0.getD s1.2.toNat default).length : Int) then
      bindC (r60 ((x0.getD s1.2.toNat default).getD s2.2.toNat default)) fun v1 =>
       if (s2.1.length + 1) * 16 ≤ 140737488355328 ∧ s2.1.length + 1 ≤ 9223372036854775807 then
        .next (s2.1 ++ [(v1.1, v1.2)], IntKind.i64.wrap (s2.2 + 1))
        else .out none
      else .out none
     else .out none
    else .out (some (bindC (r28 x9 x10 x11 x12 x13 x14 x15) fun v5 =>
     bindC (r38 x1 x2 x3 x4 x5 x6 x7 x8 v5.1 v5.2.1 v5.2.2.1 v5.2.2.2.1 v5.2.2.2.2.1 v5.2.2.2.2.2.1 v5.2.2.2.2.2.2.1 v5.2.2.2.2.2.2.2.1 v5.2.2.2.2.2.2.2.2.1 v5.2.2.2.2.2.2.2.2.2.1 v5.2.2.2.2.2.2.2.2.2.2.1 v5.2.2.2.2.2.2.2.2.2.2.2.1 v5.2.2.2.2.2.2.2.2.2.2.2.2.1 v5.2.2.2.2.2.2.2.2.2.2.2.2.2 s2.1) fun v6 =>
      bindC (r34 x1 x2 x3 x4 x5 x6 x7 x8 v6.1 v6.2.1 v6.2.2.1 v6.2.2.2.1 v6.2.2.2.2.1 v6.2.2.2.2.2.1 v6.2.2.2.2.2.2.1 v6.2.2.2.2.2.2.2.1 v6.2.2.2.2.2.2.2.2.1 v6.2.2.2.2.2.2.2.2.2.1 v6.2.2.2.2.2.2.2.2.2.2.1 v6.2.2.2.2.2.2.2.2.2.2.2.1 v6.2.2.2.2.2.2.2.2.2.2.2.2.1 v6.2.2.2.2.2.2.2.2.2.2.2.2.2) fun v7 =>
       if ((decide (v7.1 ≥ x16)) && (decide (v7.2 ≤ x17))) = true then
        if (s1.1.length + 1) * 8 ≤ 140737488355328 ∧ s1.1.length + 1 ≤ 9223372036854775807 then
         .next (s1.1 ++ [s1.2], IntKind.i64.wrap (s1.2 + 1))
         else .out none
        else .next (s1.1, IntKind.i64.wrap (s1.2 + 1))))
   else .out none
def b19_1 (x1 : List (Int × Int × Int × Int)) (x2 : List (Int × Int × Int × Int × Int)) (x3 : List (Int × Int × Int)) (x4 : List (Int × Int)) (x5 : Int) (x6 : Int) (x7 : Int) (x8 : Int) (x9 : Int) (x10 : Int) (x11 : Int) (x12 : Int) (x13 : Int) (x14 : Int) (x15 : Int) (x0 : List ((List (Int)))) (x16 : Int) (x17 : Int) : ((List (Int)) × Int) → Ctl ((List (Int)) × Int) ((List (Int))) := fun s1 =>
  if (decide (s1.2 < (x0.length : Int))) = true then
   (iterC (b19_2 x1 x2 x3 x4 x5 x6 x7 x8 x9 x10 x11 x12 x13 x14 x15 x0 x16 x17 s1) 1000000000 ([], 0)).getD (.out none)
   else .out (some s1.1)
def r19 (x1 : List (Int × Int × Int × Int)) (x2 : List (Int × Int × Int × Int × Int)) (x3 : List (Int × Int × Int)) (x4 : List (Int × Int)) (x5 : Int) (x6 : Int) (x7 : Int) (x8 : Int) (x9 : Int) (x10 : Int) (x11 : Int) (x12 : Int) (x13 : Int) (x14 : Int) (x15 : Int) (x0 : List ((List (Int)))) (x16 : Int) (x17 : Int) : Option ((List (Int))) :=
  iterC (b19_1 x1 x2 x3 x4 x5 x6 x7 x8 x9 x10 x11 x12 x13 x14 x15 x0 x16 x17) 1000000000 ([], 0)
def T19 : TSpec qA47 := mkT qE47 qd47 (fun ⟨x1, x2, x3, x4, x5, x6, x7, x8, x9, x10, x11, x12, x13, x14, x15, x0, x16, x17⟩ => r19 x1 x2 x3 x4 x5 x6 x7 x8 x9 x10 x11 x12 x13 x14 x15 x0 x16 x17) qu20 false
theorem TP19 (c0 c1 c2 c3 c4 c5 c6 c7 c8 c9 c10 c11 c12 c13 c14 c15 c16 c17 : D) : T19.sp.pre [.agg [c0, c1, c2, c3, c4, c5, c6, c7], .agg [c8, c9, c10, c11, c12, c13, c14], .agg [c15, c16, c17]] = (eqvArgs (qt47 c0 c1 c2 c3 c4 c5 c6 c7 c8 c9 c10 c11 c12 c13 c14 c15 c16 c17) (qp47 qw47 c0 c1 c2 c3 c4 c5 c6 c7 c8 c9 c10 c11 c12 c13 c14 c15 c16 c17) ∧ (qp47 r19 c0 c1 c2 c3 c4 c5 c6 c7 c8 c9 c10 c11 c12 c13 c14 c15 c16 c17).isSome = true) := (rfl)
theorem TR19 (c0 c1 c2 c3 c4 c5 c6 c7 c8 c9 c10 c11 c12 c13 c14 c15 c16 c17 : D) : T19.sp.res [.agg [c0, c1, c2, c3, c4, c5, c6, c7], .agg [c8, c9, c10, c11, c12, c13, c14], .agg [c15, c16, c17]] = qu20 ((qp47 r19 c0 c1 c2 c3 c4 c5 c6 c7 c8 c9 c10 c11 c12 c13 c14 c15 c16 c17).getD default) := (rfl)
theorem TA19 : T19.sp.alias = false := (rfl)
def tb19 : Fns := lk [(28, T28.sp), (34, T34.sp), (38, T38.sp), (60, T60.sp)]
theorem tb19_ok : FnsOk Tryz.prog tb19 := .cons f28 (.cons f34 (.cons f38 (.cons f60 (FnsOk.nil))))
theorem tb19_28 : tb19 28 = some T28.sp := rfl
theorem tb19_34 : tb19 34 = some T34.sp := rfl
theorem tb19_38 : tb19 38 = some T38.sp := rfl
theorem tb19_60 : tb19 60 = some T60.sp := rfl
attribute [go_sem] TP19 TR19 TA19
section
attribute [local go_sem] T19 tb19_28 tb19_34 tb19_38 tb19_60 Tryz.results19
theorem v19 : Valid Tryz.prog 19 T19.sp := by
 refine valid_t (fn := Tryz.f19) (n := 67) ty_ok tb19_ok Tryz.func19 rfl Tryz.ntmps19 ?_
 rintro ⟨x1, x2, x3, x4, x5, x6, x7, x8, x9, x10, x11, x12, x13, x14, x15, x0, x16, x17⟩ hx
 obtain ⟨r, hr⟩ := oE (show (r19 x1 x2 x3 x4 x5 x6 x7 x8 x9 x10 x11 x12 x13 x14 x15 x0 x16 x17).isSome = true from hx)
 have hres : T19.res (x1, x2, x3, x4, x5, x6, x7, x8, x9, x10, x11, x12, x13, x14, x15, x0, x16, x17) = qu20 r := by simp only [T19, mkT, hr, oG]
 refine ⟨nL rfl, fun stop S => ?_⟩
 rw [hres] at S
 unfold r19 at hr
 refine S.gx [4, 12] ?_
 repeat refine gA ?_
 refine S.own0 7 1000700 1 rfl rfl ?_
 refine S.sees [3, 4, 5, 7, 8] [(3, 3), (4, 4), (5, 5)] [(1000700, 1000700)] ?_ (Stop.iter S (fun s1 => ⟨[(3, .c (.ref 3 0)), (4, .c (.ref 4 0)), (5, .c (.ref 5 0)), (7, .c (.own 1000700)), (8, .c (.d (.int .i64 s1.2)))], [(3, [.d (encF 4 d_IIII x1), .d (encF 5 d_IIIII x2), .d (encF 3 d_III x3), .d (encF 2 d_II x4), .d (.int .i64 x5), .d (.int .i64 x6), .d (.int .i64 x7), .d (.int .i64 x8)]), (4, [.d (.int .i64 x9), .d (.int .i64 x10), .d (.int .i64 x11), .d (.int .i64 x12), .d (.int .i64 x13), .d (.int .i64 x14), .d (.int .i64 x15)]), (5, [.d (encF 1 d_LIE x0), .d (.int .i64 x16), .d (.int .i64 x17)])], [(1000700, .owned (encF 1 d_I s1.1))]⟩) (b19_1 x1 x2 x3 x4 x5 x6 x7 x8 x9 x10 x11 x12 x13 x14 x15 x0 x16 x17) (fun q => q = r) hr rfl ?_)
 ·exact lf
 ·intro s1 hr
  unfold b19_1 at hr
  refine S.gx [4, 12] ?_
  repeat refine gA ?_
  refine ⟨?_, ?_⟩ <;> intro hc
  ·have hr := ifP1 hr hc
   repeat refine gA ?_
   refine S.own0 9 1000900 2 rfl rfl ?_
   obtain ⟨q2, hq, hr⟩ := of_iter1 hr
   refine S.sees [3, 4, 5, 7, 8, 9, 10] [(3, 3), (4, 4), (5, 5)] [(1000900, 1000900), (1000700, 1000700)] ?_ (Stop.iter S (fun s2 => ⟨[(3, .c (.ref 3 0)), (4, .c (.ref 4 0)), (5, .c (.ref 5 0)), (7, .c (.own 1000700)), (8, .c (.d (.int .i64 s1.2))), (9, .c (.own 1000900)), (10, .c (.d (.int .i64 s2.2)))], [(3, [.d (encF 4 d_IIII x1), .d (encF 5 d_IIIII x2), .d (encF 3 d_III x3), .d (encF 2 d_II x4), .d (.int .i64 x5), .d (.int .i64 x6), .d (.int .i64 x7), .d (.int .i64 x8)]), (4, [.d (.int .i64 x9), .d (.int .i64 x10), .d (.int .i64 x11), .d (.int .i64 x12), .d (.int .i64 x13), .d (.int .i64 x14), .d (.int .i64 x15)]), (5, [.d (encF 1 d_LIE x0), .d (.int .i64 x16), .d (.int .i64 x17)])], [(1000900, .owned (encF 2 d_II s2.1)), (1000700, .owned (encF 1 d_I s1.1))]⟩) (b19_2 x1 x2 x3 x4 x5 x6 x7 x8 x9 x10 x11 x12 x13 x14 x15 x0 x16 x17 s1) _ hq hr ?_)
   ·exact lf
   ·intro s2 hr
    unfold b19_2 at hr
    refine S.gx [4, 12] ?_
    obtain ⟨hg9, hr⟩ := of_guard1 hr
    repeat refine gA ?_
    refine ⟨?_, ?_⟩ <;> intro hc
    ·have hr := ifP1 hr hc
     obtain ⟨hg2, hr⟩ := of_guard1 hr
     obtain ⟨hg3, hr⟩ := of_guard1 hr
     obtain ⟨v1, hv1, hr⟩ := of_bind1 hr
     obtain ⟨hg4, hr⟩ := of_guard1 hr
     try simp only [hv1, oG, oI, true_and, and_assoc]
     repeat refine gA ?_
     refine S.sees [3, 4, 5, 7, 8, 9, 10] [(3, 3), (4, 4), (5, 5)] [(40, 1000900), (1000700, 1000700)] ?_ hr
     exact lf
    ·have hr := ifN1 hr hc
     repeat refine gA ?_
     replace hr := goodC_out hr
     obtain ⟨v5, hv5, hr⟩ := of_bind1 hr
     obtain ⟨v6, hv6, hr⟩ := of_bind1 hr
     obtain ⟨v7, hv7, hr⟩ := of_bind1 hr
     try simp only [hv5, hv6, hv7, Option.getD_some, Option.isSome_some, true_and, and_assoc]
     repeat (first | refine gA ?_ | refine gB ?_)
     refine ⟨?_, ?_⟩ <;> intro hc
     ·have hr := ifP1 hr hc
      repeat refine gA ?_
      refine S.prune [3, 4, 5, 7, 8] ?_
      refine S.gx [4] ?_
      obtain ⟨hg8, hr⟩ := of_guard1 hr
      repeat refine gA ?_
      refine S.prune [3, 4, 5, 7, 8] ?_
      refine S.gx [12] ?_
      repeat refine gA ?_
      refine S.sees [3, 4, 5, 7, 8] [(3, 3), (4, 4), (5, 5)] [(65, 1000700)] ?_ hr
      exact lf
     ·have hr := ifN1 hr hc
      repeat refine gA ?_
      refine S.prune [3, 4, 5, 7, 8] ?_
      refine S.gx [12] ?_
      repeat refine gA ?_
      refine S.sees [3, 4, 5, 7, 8] [(3, 3), (4, 4), (5, 5)] [(1000700, 1000700)] ?_ hr
      exact lf
  ·have hr := ifN1 hr hc
   repeat refine gA ?_
   have hr := of_out0 hr
   repeat refine gA ?_
   cases hr
   exact lf
theorem f19 : FnFact Tryz.prog 19 T19.sp := ⟨⟨Tryz.f19, Tryz.func19, by decide, rfl⟩, v19⟩
end

/- martensite/martensitebase.Ints -/
def b18_1 (a0 : List (Int)) (a1 : List (Int)) : (Int) → Ctl (Int) (Bool) := fun s1 =>
  if (decide (s1 < (a0.length : Int))) = true then
   if 0 ≤ s1 ∧ s1 < (a0.length : Int) then
    if 0 ≤ s1 ∧ s1 < (a1.length : Int) then
     if ((a0.getD s1.toNat default) != (a1.getD s1.toNat default)) = true then
      .out (some false)
      else .next (IntKind.i64.wrap (s1 + 1))
     else .out none
    else .out none
   else .out (some true)
def r18 (a0 : List (Int)) (a1 : List (Int)) : Option (Bool) :=
  if ((a0.length : Int) != (a1.length : Int)) = true then
   some false
   else iterC (b18_1 a0 a1) 1000000000 0
def T18 : TSpec qA49 := mkT qE49 qd49 (fun ⟨a0, a1⟩ => r18 a0 a1) qu3 false
theorem TP18 (c0 c1 : D) : T18.sp.pre [.c c0, .c c1] = (eqvArgs (qt49 c0 c1) (qp49 qw49 c0 c1) ∧ (qp49 r18 c0 c1).isSome = true) := (rfl)
theorem TR18 (c0 c1 : D) : T18.sp.res [.c c0, .c c1] = qu3 ((qp49 r18 c0 c1).getD default) := (rfl)
theorem TA18 : T18.sp.alias = false := (rfl)
def tb18 : Fns := lk []
theorem tb18_ok : FnsOk Tryz.prog tb18 := FnsOk.nil
attribute [go_sem] TP18 TR18 TA18
section
attribute [local go_sem] T18 Tryz.results18
theorem v18 : Valid Tryz.prog 18 T18.sp := by
 refine valid_t (fn := Tryz.f18) (n := 26) ty_ok tb18_ok Tryz.func18 rfl Tryz.ntmps18 ?_
 rintro ⟨a0, a1⟩ hx
 obtain ⟨r, hr⟩ := oE (show (r18 a0 a1).isSome = true from hx)
 have hres : T18.res (a0, a1) = qu3 r := by simp only [T18, mkT, hr, oG]
 refine ⟨nL rfl, fun stop S => ?_⟩
 rw [hres] at S
 unfold r18 at hr
 refine S.gx [] ?_
 repeat refine gA ?_
 refine ⟨?_, ?_⟩ <;> intro hc
 ·have hr := ifP hr hc
  repeat refine gA ?_
  cases hr
  exact lf
 ·have hr := ifN hr hc
  repeat refine gA ?_
  refine S.sees [0, 1, 5] [] [] ?_ (Stop.iter S (fun s1 => ⟨[(0, .c (.d (encF 1 d_I a0))), (1, .c (.d (encF 1 d_I a1))), (5, .c (.d (.int .i64 s1)))], [], []⟩) (b18_1 a0 a1) (fun q => q = r) hr rfl ?_)
  ·exact lf
  ·intro s1 hr
   unfold b18_1 at hr
   refine S.gx [] ?_
   repeat refine gA ?_
   refine ⟨?_, ?_⟩ <;> intro hc
   ·have hr := ifP1 hr hc
    obtain ⟨hg1, hr⟩ := of_guard1 hr
    obtain ⟨hg2, hr⟩ := of_guard1 hr
    repeat refine gA ?_
    refine ⟨?_, ?_⟩ <;> intro hc
    ·have hr := ifP1 hr hc
     repeat refine gA ?_
     have hr := of_out0 hr
     cases hr
     exact lf
    ·have hr := ifN1 hr hc
     repeat refine gA ?_
     refine S.sees [0, 1, 5] [] [] ?_ hr
     exact lf
   ·have hr := ifN1 hr hc
    repeat refine gA ?_
    have hr := of_out0 hr
    repeat refine gA ?_
    cases hr
    exact lf
theorem f18 : FnFact Tryz.prog 18 T18.sp := ⟨⟨Tryz.f18, Tryz.func18, by decide, rfl⟩, v18⟩
end
end Go.Proofs.YtfkmbdfajpdjjaaGreatDoor

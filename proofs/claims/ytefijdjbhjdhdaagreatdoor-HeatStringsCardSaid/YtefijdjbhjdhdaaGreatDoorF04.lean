/- Contracts of functions, written by wip/dec. -/
import Derived.Test.YtefijdjbhjdhdaaGreatDoorF00
import Derived.Test.YtefijdjbhjdhdaaGreatDoorF01
import Derived.Test.YtefijdjbhjdhdaaGreatDoorF02
import Derived.Test.YtefijdjbhjdhdaaGreatDoorF03
set_option linter.unusedVariables false
set_option linter.unusedSimpArgs false
set_option maxHeartbeats 4000000
set_option maxRecDepth 20000
namespace Go.Proofs.YtefijdjbhjdhdaaGreatDoor
open Go.Abs
abbrev qA33 := Int × Int × (List (Int × Int)) × (List ((List (Int × Int)))) × (List (Int)) × Int
def qw33 (a0 : Int) (a1 : Int) (a2 : List (Int × Int)) (a3 : List ((List (Int × Int)))) (a4 : List (Int)) (a5 : Int) : List Arg := [.agg [.int .i64 a0, .int .i64 a1, encF 2 d_II a2, encF 1 d_LIIE a3], .c (encF 1 d_I a4), .c (.int .i64 a5)]
def qE33 : qA33 → List Arg := fun ⟨a0, a1, a2, a3, a4, a5⟩ => qw33 a0 a1 a2 a3 a4 a5
def qd33 (a : List Arg) : qA33 := (dInt (aCell a 0 0), dInt (aCell a 0 1), decF g_II (aCell a 0 2), decF g_LIIE (aCell a 0 3), decF g_I (aCell a 1 0), dInt (aCell a 2 0))
def qp33 {β : Type} (f : Int → Int → (List (Int × Int)) → (List ((List (Int × Int)))) → (List (Int)) → Int → β) (c0 c1 c2 c3 c4 c5 : D) : β := f (dInt c0) (dInt c1) (decF g_II c2) (decF g_LIIE c3) (decF g_I c4) (dInt c5)
def qt33 (c0 c1 c2 c3 c4 c5 : D) : List Arg := [.agg [c0, c1, c2, c3], .c c4, .c c5]
attribute [go_sem] qw33 qp33 qt33 qE33
abbrev qA34 := Int × Int × (List (Int × Int)) × (List ((List (Int × Int)))) × (List (Int)) × (List (Int)) × Int × Int × Int × Int
def qw34 (a0 : Int) (a1 : Int) (a2 : List (Int × Int)) (a3 : List ((List (Int × Int)))) (a4 : List (Int)) (a5 : List (Int)) (a6 : Int) (a7 : Int) (a8 : Int) (a9 : Int) : List Arg := [.agg [.int .i64 a0, .int .i64 a1, encF 2 d_II a2, encF 1 d_LIIE a3], .c (encF 1 d_I a4), .agg [encF 1 d_I a5, .int .i64 a6, .int .i64 a7, .int .i64 a8, .int .i64 a9]]
def qE34 : qA34 → List Arg := fun ⟨a0, a1, a2, a3, a4, a5, a6, a7, a8, a9⟩ => qw34 a0 a1 a2 a3 a4 a5 a6 a7 a8 a9
def qd34 (a : List Arg) : qA34 := (dInt (aCell a 0 0), dInt (aCell a 0 1), decF g_II (aCell a 0 2), decF g_LIIE (aCell a 0 3), decF g_I (aCell a 1 0), decF g_I (aCell a 2 0), dInt (aCell a 2 1), dInt (aCell a 2 2), dInt (aCell a 2 3), dInt (aCell a 2 4))
def qp34 {β : Type} (f : Int → Int → (List (Int × Int)) → (List ((List (Int × Int)))) → (List (Int)) → (List (Int)) → Int → Int → Int → Int → β) (c0 c1 c2 c3 c4 c5 c6 c7 c8 c9 : D) : β := f (dInt c0) (dInt c1) (decF g_II c2) (decF g_LIIE c3) (decF g_I c4) (decF g_I c5) (dInt c6) (dInt c7) (dInt c8) (dInt c9)
def qt34 (c0 c1 c2 c3 c4 c5 c6 c7 c8 c9 : D) : List Arg := [.agg [c0, c1, c2, c3], .c c4, .agg [c5, c6, c7, c8, c9]]
attribute [go_sem] qw34 qp34 qt34 qE34
abbrev qA35 := Int × Int × Int
def qw35 (a0 : Int) (a1 : Int) (a2 : Int) : List Arg := [.agg [.int .i64 a0, .int .i64 a1, .int .i64 a2]]
def qE35 : qA35 → List Arg := fun ⟨a0, a1, a2⟩ => qw35 a0 a1 a2
def qd35 (a : List Arg) : qA35 := (dInt (aCell a 0 0), dInt (aCell a 0 1), dInt (aCell a 0 2))
def qp35 {β : Type} (f : Int → Int → Int → β) (c0 c1 c2 : D) : β := f (dInt c0) (dInt c1) (dInt c2)
def qt35 (c0 c1 c2 : D) : List Arg := [.agg [c0, c1, c2]]
attribute [go_sem] qw35 qp35 qt35 qE35
abbrev qA36 := Int × Int × Int × (List (Int))
def qw36 (a0 : Int) (a1 : Int) (a2 : Int) (a3 : List (Int)) : List Arg := [.agg [.int .i64 a0, .int .i64 a1, .int .i64 a2], .c (encF 1 d_I a3)]
def qE36 : qA36 → List Arg := fun ⟨a0, a1, a2, a3⟩ => qw36 a0 a1 a2 a3
def qd36 (a : List Arg) : qA36 := (dInt (aCell a 0 0), dInt (aCell a 0 1), dInt (aCell a 0 2), decF g_I (aCell a 1 0))
def qp36 {β : Type} (f : Int → Int → Int → (List (Int)) → β) (c0 c1 c2 c3 : D) : β := f (dInt c0) (dInt c1) (dInt c2) (decF g_I c3)
def qt36 (c0 c1 c2 c3 : D) : List Arg := [.agg [c0, c1, c2], .c c3]
attribute [go_sem] qw36 qp36 qt36 qE36
abbrev qA37 := Int × Int × Int × Int
def qw37 (a0 : Int) (a1 : Int) (a2 : Int) (a3 : Int) : List Arg := [.c (.int .i64 a0), .ptr [.int .i64 a1, .int .i64 a2, .int .i64 a3]]
def qE37 : qA37 → List Arg := fun ⟨a0, a1, a2, a3⟩ => qw37 a0 a1 a2 a3
def qd37 (a : List Arg) : qA37 := (dInt (aCell a 0 0), dInt (aCell a 1 0), dInt (aCell a 1 1), dInt (aCell a 1 2))
def qp37 {β : Type} (f : Int → Int → Int → Int → β) (c0 c1 c2 c3 : D) : β := f (dInt c0) (dInt c1) (dInt c2) (dInt c3)
def qt37 (c0 c1 c2 c3 : D) : List Arg := [.c c0, .ptr [c1, c2, c3]]
attribute [go_sem] qw37 qp37 qt37 qE37
abbrev qA38 := (List (Int)) × Int × Int × Int
def qw38 (a0 : List (Int)) (a1 : Int) (a2 : Int) (a3 : Int) : List Arg := [.c (encF 1 d_I a0), .clo 87 [[.int .i64 a1, .int .i64 a2, .int .i64 a3]]]
def qE38 : qA38 → List Arg := fun ⟨a0, a1, a2, a3⟩ => qw38 a0 a1 a2 a3
def qd38 (a : List Arg) : qA38 := (decF g_I (aCell a 0 0), dInt (aCell a 1 0), dInt (aCell a 1 1), dInt (aCell a 1 2))
def qp38 {β : Type} (f : (List (Int)) → Int → Int → Int → β) (c0 c1 c2 c3 : D) : β := f (decF g_I c0) (dInt c1) (dInt c2) (dInt c3)
def qt38 (c0 c1 c2 c3 : D) : List Arg := [.c c0, .clo 87 [[c1, c2, c3]]]
attribute [go_sem] qw38 qp38 qt38 qE38
abbrev qA39 := Int × Int × Int × (List (Int × Int))
def qw39 (a0 : Int) (a1 : Int) (a2 : Int) (a3 : List (Int × Int)) : List Arg := [.agg [.int .i64 a0, .int .i64 a1, .int .i64 a2], .c (encF 2 d_II a3)]
def qE39 : qA39 → List Arg := fun ⟨a0, a1, a2, a3⟩ => qw39 a0 a1 a2 a3
def qd39 (a : List Arg) : qA39 := (dInt (aCell a 0 0), dInt (aCell a 0 1), dInt (aCell a 0 2), decF g_II (aCell a 1 0))
def qp39 {β : Type} (f : Int → Int → Int → (List (Int × Int)) → β) (c0 c1 c2 c3 : D) : β := f (dInt c0) (dInt c1) (dInt c2) (decF g_II c3)
def qt39 (c0 c1 c2 c3 : D) : List Arg := [.agg [c0, c1, c2], .c c3]
attribute [go_sem] qw39 qp39 qt39 qE39
abbrev qA40 := (List (Int)) × (List (Int))
def qw40 (a0 : List (Int)) (a1 : List (Int)) : List Arg := [.c (encF 1 d_I a0), .c (encF 1 d_I a1)]
def qE40 : qA40 → List Arg := fun ⟨a0, a1⟩ => qw40 a0 a1
def qd40 (a : List Arg) : qA40 := (decF g_I (aCell a 0 0), decF g_I (aCell a 1 0))
def qp40 {β : Type} (f : (List (Int)) → (List (Int)) → β) (c0 c1 : D) : β := f (decF g_I c0) (decF g_I c1)
def qt40 (c0 c1 : D) : List Arg := [.c c0, .c c1]
attribute [go_sem] qw40 qp40 qt40 qE40
abbrev qA41 := (List (Int)) × (List (Int)) × (List (Int)) × (List (Int))
def qw41 (a0 : List (Int)) (a1 : List (Int)) (a2 : List (Int)) (a3 : List (Int)) : List Arg := [.agg [encF 1 d_I a0, encF 1 d_I a1], .agg [encF 1 d_I a2, encF 1 d_I a3]]
def qE41 : qA41 → List Arg := fun ⟨a0, a1, a2, a3⟩ => qw41 a0 a1 a2 a3
def qd41 (a : List Arg) : qA41 := (decF g_I (aCell a 0 0), decF g_I (aCell a 0 1), decF g_I (aCell a 1 0), decF g_I (aCell a 1 1))
def qp41 {β : Type} (f : (List (Int)) → (List (Int)) → (List (Int)) → (List (Int)) → β) (c0 c1 c2 c3 : D) : β := f (decF g_I c0) (decF g_I c1) (decF g_I c2) (decF g_I c3)
def qt41 (c0 c1 c2 c3 : D) : List Arg := [.agg [c0, c1], .agg [c2, c3]]
attribute [go_sem] qw41 qp41 qt41 qE41
def qu12 (v : Int × Int × Int) : List RV := [.agg [.d (.int .i64 v.1), .d (.int .i64 v.2.1), .d (.int .i64 v.2.2)]]
attribute [go_sem] qu12
def qu13 (v : (List (Int))) : List RV := [.c (.own (encF 1 d_I v))]
attribute [go_sem] qu13
def qu14 (v : Int × Int × Int) : List RV := [.agg [.d (.int .i64 v.1), .d (.int .i64 v.2.1)], .c (.d (.int .i64 v.2.2))]
attribute [go_sem] qu14
/- martensite/heat.DepthAbove -/
def r16 (x0 : Int) (x1 : Int) (x2 : List (Int × Int)) (x3 : List ((List (Int × Int)))) (a1 : List (Int)) (a2 : Int) : Option (Int × Int) :=
  (r38 x0 x1 x2 x3 a1).bind fun v1 =>
   (r45 a2).bind fun v2 =>
    (r44 [v1.2.2.2.2.2.2, v2]).bind fun v3 =>
     if (v3 != 0) = true then
      some (0, v3)
      else (r46 v1.1 v1.2.1 v1.2.2.1 v1.2.2.2.1 v1.2.2.2.2.1 v1.2.2.2.2.2.1 a1 a2).bind fun v4 =>
       some (v4, 0)
def T16 : TSpec qA33 := mkT qE33 qd33 (fun ⟨x0, x1, x2, x3, a1, a2⟩ => r16 x0 x1 x2 x3 a1 a2) qu3 false
theorem TP16 (c0 c1 c2 c3 c4 c5 : D) : T16.sp.pre [.agg [c0, c1, c2, c3], .c c4, .c c5] = (eqvArgs (qt33 c0 c1 c2 c3 c4 c5) (qp33 qw33 c0 c1 c2 c3 c4 c5) ∧ (qp33 r16 c0 c1 c2 c3 c4 c5).isSome = true) := (rfl)
theorem TR16 (c0 c1 c2 c3 c4 c5 : D) : T16.sp.res [.agg [c0, c1, c2, c3], .c c4, .c c5] = qu3 ((qp33 r16 c0 c1 c2 c3 c4 c5).getD default) := (rfl)
theorem TA16 : T16.sp.alias = false := (rfl)
def tb16 : Fns := lk [(38, T38.sp), (44, T44.sp), (45, T45.sp), (46, T46.sp)]
theorem tb16_ok : FnsOk Tryz.prog tb16 := .cons f38 (.cons f44 (.cons f45 (.cons f46 (FnsOk.nil))))
theorem tb16_38 : tb16 38 = some T38.sp := rfl
theorem tb16_44 : tb16 44 = some T44.sp := rfl
theorem tb16_45 : tb16 45 = some T45.sp := rfl
theorem tb16_46 : tb16 46 = some T46.sp := rfl
attribute [go_sem] TP16 TR16 TA16
section
attribute [local go_sem] T16 tb16_38 tb16_44 tb16_45 tb16_46 Tryz.results16
theorem v16 : Valid Tryz.prog 16 T16.sp := by
 refine valid_t (fn := Tryz.f16) (n := 28) ty_ok tb16_ok Tryz.func16 rfl Tryz.ntmps16 ?_
 rintro ⟨x0, x1, x2, x3, a1, a2⟩ hx
 obtain ⟨r, hr⟩ := oE (show (r16 x0 x1 x2 x3 a1 a2).isSome = true from hx)
 have hres : T16.res (x0, x1, x2, x3, a1, a2) = qu3 r := by simp only [T16, mkT, hr, oG]
 refine ⟨nL rfl, fun stop S => ?_⟩
 rw [hres] at S
 unfold r16 at hr
 refine S.gx [] ?_
 obtain ⟨v1, hv1, hr⟩ := of_bind0 hr
 obtain ⟨v2, hv2, hr⟩ := of_bind0 hr
 obtain ⟨v3, hv3, hr⟩ := of_bind0 hr
 try simp only [hv1, hv2, hv3, Option.getD_some, Option.isSome_some, true_and, and_assoc]
 repeat refine gA ?_
 refine ⟨?_, ?_⟩ <;> intro hc
 ·have hr := ifP hr hc
  repeat refine gA ?_
  cases hr
  exact lf
 ·have hr := ifN hr hc
  obtain ⟨v4, hv4, hr⟩ := of_bind0 hr
  try simp only [hv4, oG, oI, true_and, and_assoc]
  repeat refine gA ?_
  cases hr
  exact lf
theorem f16 : FnFact Tryz.prog 16 T16.sp := ⟨⟨Tryz.f16, Tryz.func16, by decide, rfl⟩, v16⟩
end

/- martensite/heat.ShortestTo -/
def b17_1 (x1 : List (Int)) (x2 : Int) (x3 : Int) (x4 : Int) (x0 : Int) (v1 : Int × Int × (List (Int × Int)) × (List ((List (Int × Int)))) × (List (Int × Int)) × (List ((List (Int × Int)))) × Int) : ((List (Int)) × Int × Int) → Ctl ((List (Int)) × Int × Int) (Int × Int) := fun s1 =>
  if (s1.2.1 == 0) = true then
   bindC (r46 v1.1 v1.2.1 v1.2.2.1 v1.2.2.2.1 v1.2.2.2.2.1 v1.2.2.2.2.2.1 s1.1 x3) fun v7 =>
    if (decide (v7 ≥ x4)) = true then
     .out (some (s1.2.2, 0))
     else if (s1.2.2 == x0) = true then
      .out (some (0, 12))
      else bindC (r40 v1.1 v1.2.1 v1.2.2.1 v1.2.2.2.1 v1.2.2.2.2.1 v1.2.2.2.2.2.1 s1.1 x1 x2) fun v8 =>
       .next (v8.1, v8.2.2, IntKind.i64.wrap (s1.2.2 + 1))
   else .out (some (0, s1.2.1))
def b17_2 (x1 : List (Int)) (x2 : Int) (x3 : Int) (x4 : Int) (x0 : Int) (v1 : Int × Int × (List (Int × Int)) × (List ((List (Int × Int)))) × (List (Int × Int)) × (List ((List (Int × Int)))) × Int) : ((List (Int)) × Int × Int) → Ctl ((List (Int)) × Int × Int) (Int × Int) := fun s2 =>
  if (s2.2.1 == 0) = true then
   bindC (r46 v1.1 v1.2.1 v1.2.2.1 v1.2.2.2.1 v1.2.2.2.2.1 v1.2.2.2.2.2.1 s2.1 x3) fun v10 =>
    if (decide (v10 ≥ x4)) = true then
     .out (some (s2.2.2, 0))
     else if (s2.2.2 == x0) = true then
      .out (some (0, 12))
      else bindC (r40 v1.1 v1.2.1 v1.2.2.1 v1.2.2.2.1 v1.2.2.2.2.1 v1.2.2.2.2.2.1 s2.1 x1 x2) fun v11 =>
       .next (v11.1, v11.2.2, IntKind.i64.wrap (s2.2.2 + 1))
   else .out (some (0, s2.2.1))
def r17 (x5 : Int) (x6 : Int) (x7 : List (Int × Int)) (x8 : List ((List (Int × Int)))) (a1 : List (Int)) (x1 : List (Int)) (x2 : Int) (x3 : Int) (x4 : Int) (x0 : Int) : Option (Int × Int) :=
  (r38 x5 x6 x7 x8 a1).bind fun v1 =>
   if (v1.2.2.2.2.2.2 == 0) = true then
    (r47 x4 1 v1.1).bind fun v2 =>
     if v2 = true → (r47 x0 0 200).isSome = true then
      (r39 v1.1 v1.2.1 v1.2.2.1 v1.2.2.2.1 v1.2.2.2.2.1 v1.2.2.2.2.2.1 x1 x2).bind fun v3 =>
       (r45 x3).bind fun v4 =>
        (r48 (v2 && ((r47 x0 0 200).getD default)) 2).bind fun v5 =>
         (r44 [v3, v4, v5]).bind fun v6 =>
          iterC (b17_1 x1 x2 x3 x4 x0 v1) 1000000000 (a1, v6, 0)
      else none
    else iterC (b17_2 x1 x2 x3 x4 x0 v1) 1000000000 (a1, v1.2.2.2.2.2.2, 0)
def T17 : TSpec qA34 := mkT qE34 qd34 (fun ⟨x5, x6, x7, x8, a1, x1, x2, x3, x4, x0⟩ => r17 x5 x6 x7 x8 a1 x1 x2 x3 x4 x0) qu3 false
theorem TP17 (c0 c1 c2 c3 c4 c5 c6 c7 c8 c9 : D) : T17.sp.pre [.agg [c0, c1, c2, c3], .c c4, .agg [c5, c6, c7, c8, c9]] = (eqvArgs (qt34 c0 c1 c2 c3 c4 c5 c6 c7 c8 c9) (qp34 qw34 c0 c1 c2 c3 c4 c5 c6 c7 c8 c9) ∧ (qp34 r17 c0 c1 c2 c3 c4 c5 c6 c7 c8 c9).isSome = true) := (rfl)
theorem TR17 (c0 c1 c2 c3 c4 c5 c6 c7 c8 c9 : D) : T17.sp.res [.agg [c0, c1, c2, c3], .c c4, .agg [c5, c6, c7, c8, c9]] = qu3 ((qp34 r17 c0 c1 c2 c3 c4 c5 c6 c7 c8 c9).getD default) := (rfl)
theorem TA17 : T17.sp.alias = false := (rfl)
def tb17 : Fns := lk [(38, T38.sp), (39, T39.sp), (40, T40.sp), (44, T44.sp), (45, T45.sp), (46, T46.sp), (47, T47.sp), (48, T48.sp)]
theorem tb17_ok : FnsOk Tryz.prog tb17 := .cons f38 (.cons f39 (.cons f40 (.cons f44 (.cons f45 (.cons f46 (.cons f47 (.cons f48 (FnsOk.nil))))))))
theorem tb17_38 : tb17 38 = some T38.sp := rfl
theorem tb17_39 : tb17 39 = some T39.sp := rfl
theorem tb17_40 : tb17 40 = some T40.sp := rfl
theorem tb17_44 : tb17 44 = some T44.sp := rfl
theorem tb17_45 : tb17 45 = some T45.sp := rfl
theorem tb17_46 : tb17 46 = some T46.sp := rfl
theorem tb17_47 : tb17 47 = some T47.sp := rfl
theorem tb17_48 : tb17 48 = some T48.sp := rfl
theorem lt17_0 : (IntKind.i64.wrap (0 + 1)) = 1 := by first | rfl | decide | simp
attribute [go_sem] TP17 TR17 TA17
section
attribute [local go_sem] T17 tb17_38 tb17_39 tb17_40 tb17_44 tb17_45 tb17_46 tb17_47 tb17_48 Tryz.results17 lt17_0
theorem v17 : Valid Tryz.prog 17 T17.sp := by
 refine valid_t (fn := Tryz.f17) (n := 69) ty_ok tb17_ok Tryz.func17 rfl Tryz.ntmps17 ?_
 rintro ⟨x5, x6, x7, x8, a1, x1, x2, x3, x4, x0⟩ hx
 obtain ⟨r, hr⟩ := oE (show (r17 x5 x6 x7 x8 a1 x1 x2 x3 x4 x0).isSome = true from hx)
 have hres : T17.res (x5, x6, x7, x8, a1, x1, x2, x3, x4, x0) = qu3 r := by simp only [T17, mkT, hr, oG]
 refine ⟨nL rfl, fun stop S => ?_⟩
 rw [hres] at S
 unfold r17 at hr
 refine S.gx [5] ?_
 obtain ⟨v1, hv1, hr⟩ := of_bind0 hr
 try simp only [hv1, oG, oI, true_and, and_assoc]
 repeat refine gA ?_
 refine ⟨?_, ?_⟩ <;> intro hc
 ·have hr := ifP hr hc
  obtain ⟨v2, hv2, hr⟩ := of_bind0 hr
  obtain ⟨hg9, hr⟩ := of_guard0 hr
  obtain ⟨v3, hv3, hr⟩ := of_bind0 hr
  obtain ⟨v4, hv4, hr⟩ := of_bind0 hr
  obtain ⟨v5, hv5, hr⟩ := of_bind0 hr
  obtain ⟨v6, hv6, hr⟩ := of_bind0 hr
  try simp only [hv2, hv3, hv4, hv5, hv6, Option.getD_some, Option.isSome_some, true_and, and_assoc]
  repeat (first | refine gG hg9 ?_ | refine gA ?_ | refine gB ?_)
  refine S.prune [1, 5, 8, 9] ?_
  refine S.gx [] ?_
  repeat refine gA ?_
  refine S.sees [1, 5, 8, 9, 11] [(5, 5), (8, 8)] [(15, 15), (10015, 10015)] ?_ (Stop.iter S (fun s1 => ⟨[(1, .c (.d (encF 1 d_I s1.1))), (5, .c (.ref 5 0)), (8, .c (.ref 8 0)), (9, .c (.d (.int .i64 s1.2.1))), (11, .c (.d (.int .i64 s1.2.2)))], [(5, [.d (encF 1 d_I x1), .d (.int .i64 x2), .d (.int .i64 x3), .d (.int .i64 x4), .d (.int .i64 x0)]), (8, [.d (.int .i64 v1.1), .d (.int .i64 v1.2.1), .d (encF 2 d_II v1.2.2.1), .d (encF 1 d_LIIE v1.2.2.2.1), .own 15, .own 10015])], [(15, .owned (encF 2 d_II v1.2.2.2.2.1)), (10015, .owned (encF 1 d_LIIE v1.2.2.2.2.2.1))]⟩) (b17_1 x1 x2 x3 x4 x0 v1) (fun q => q = r) hr rfl ?_)
  ·exact lf
  ·intro s1 hr
   unfold b17_1 at hr
   refine S.gx [5] ?_
   repeat refine gA ?_
   refine ⟨?_, ?_⟩ <;> intro hc
   ·have hr := ifP1 hr hc
    obtain ⟨v7, hv7, hr⟩ := of_bind1 hr
    try simp only [hv7, oG, oI, true_and, and_assoc]
    repeat refine gA ?_
    refine ⟨?_, ?_⟩ <;> intro hc
    ·have hr := ifP1 hr hc
     repeat refine gA ?_
     have hr := of_out0 hr
     cases hr
     exact lf
    ·have hr := ifN1 hr hc
     repeat refine gA ?_
     refine ⟨?_, ?_⟩ <;> intro hc
     ·have hr := ifP1 hr hc
      repeat refine gA ?_
      have hr := of_out0 hr
      cases hr
      exact lf
     ·have hr := ifN1 hr hc
      obtain ⟨v8, hv8, hr⟩ := of_bind1 hr
      try simp only [hv8, oG, oI, true_and, and_assoc]
      repeat refine gA ?_
      refine S.share 64 rfl ?_
      refine S.sees [1, 5, 8, 9, 11] [(5, 5), (8, 8)] [(15, 15), (10015, 10015)] ?_ hr
      exact lf
   ·have hr := ifN1 hr hc
    repeat refine gA ?_
    have hr := of_out0 hr
    repeat refine gA ?_
    cases hr
    exact lf
 ·have hr := ifN hr hc
  repeat refine gA ?_
  refine S.prune [1, 5, 8, 9] ?_
  refine S.gx [] ?_
  repeat refine gA ?_
  refine S.sees [1, 5, 8, 9, 11] [(5, 5), (8, 8)] [(15, 15), (10015, 10015)] ?_ (Stop.iter S (fun s2 => ⟨[(1, .c (.d (encF 1 d_I s2.1))), (5, .c (.ref 5 0)), (8, .c (.ref 8 0)), (9, .c (.d (.int .i64 s2.2.1))), (11, .c (.d (.int .i64 s2.2.2)))], [(5, [.d (encF 1 d_I x1), .d (.int .i64 x2), .d (.int .i64 x3), .d (.int .i64 x4), .d (.int .i64 x0)]), (8, [.d (.int .i64 v1.1), .d (.int .i64 v1.2.1), .d (encF 2 d_II v1.2.2.1), .d (encF 1 d_LIIE v1.2.2.2.1), .own 15, .own 10015])], [(15, .owned (encF 2 d_II v1.2.2.2.2.1)), (10015, .owned (encF 1 d_LIIE v1.2.2.2.2.2.1))]⟩) (b17_2 x1 x2 x3 x4 x0 v1) (fun q => q = r) hr rfl ?_)
  ·exact lf
  ·intro s2 hr
   unfold b17_2 at hr
   refine S.gx [5] ?_
   repeat refine gA ?_
   refine ⟨?_, ?_⟩ <;> intro hc
   ·have hr := ifP1 hr hc
    obtain ⟨v10, hv10, hr⟩ := of_bind1 hr
    try simp only [hv10, oG, oI, true_and, and_assoc]
    repeat refine gA ?_
    refine ⟨?_, ?_⟩ <;> intro hc
    ·have hr := ifP1 hr hc
     repeat refine gA ?_
     have hr := of_out0 hr
     cases hr
     exact lf
    ·have hr := ifN1 hr hc
     repeat refine gA ?_
     refine ⟨?_, ?_⟩ <;> intro hc
     ·have hr := ifP1 hr hc
      repeat refine gA ?_
      have hr := of_out0 hr
      cases hr
      exact lf
     ·have hr := ifN1 hr hc
      obtain ⟨v11, hv11, hr⟩ := of_bind1 hr
      try simp only [hv11, oG, oI, true_and, and_assoc]
      repeat refine gA ?_
      refine S.share 64 rfl ?_
      refine S.sees [1, 5, 8, 9, 11] [(5, 5), (8, 8)] [(15, 15), (10015, 10015)] ?_ hr
      exact lf
   ·have hr := ifN1 hr hc
    repeat refine gA ?_
    have hr := of_out0 hr
    repeat refine gA ?_
    cases hr
    exact lf
theorem f17 : FnFact Tryz.prog 17 T17.sp := ⟨⟨Tryz.f17, Tryz.func17, by decide, rfl⟩, v17⟩
end

/- martensite/martensitelaw03.Water -/
def r19 : Option (Int × Int × Int) :=
  some (100, 50, 200)
def T19 : TSpec qA0 := mkT qE0 qd0 (fun _ => r19) qu12 false
theorem TP19 : T19.sp.pre [] = (eqvArgs (qt0 ) (qp0 qw0 ) ∧ (qp0 r19).isSome = true) := (rfl)
theorem TR19 : T19.sp.res [] = qu12 ((qp0 r19).getD default) := (rfl)
theorem TA19 : T19.sp.alias = false := (rfl)
def tb19 : Fns := lk []
theorem tb19_ok : FnsOk Tryz.prog tb19 := FnsOk.nil
attribute [go_sem] TP19 TR19 TA19
section
attribute [local go_sem] T19 Tryz.results19
theorem v19 : Valid Tryz.prog 19 T19.sp := by
 refine valid_t (fn := Tryz.f19) (n := 2) ty_ok tb19_ok Tryz.func19 rfl Tryz.ntmps19 ?_
 intro _ hx
 obtain ⟨r, hr⟩ := oE (show (r19).isSome = true from hx)
 have hres : T19.res () = qu12 r := by simp only [T19, mkT, hr, oG]
 refine ⟨nL rfl, fun stop S => ?_⟩
 rw [hres] at S
 unfold r19 at hr
 refine S.gx [] ?_
 repeat refine gA ?_
 cases hr
 exact lf
theorem f19 : FnFact Tryz.prog 19 T19.sp := ⟨⟨Tryz.f19, Tryz.func19, by decide, rfl⟩, v19⟩
end

/- martensite/heat.isHeat -/
def r85 (a0 : Int) : Option (Bool) :=
  (r47 a0 0 1000000).bind fun v1 =>
   some v1
def T85 : TSpec qA4 := mkT qE4 qd4 r85 qu1 false
theorem TP85 (c0 : D) : T85.sp.pre [.c c0] = (eqvArgs (qt4 c0) (qp4 qw4 c0) ∧ (qp4 r85 c0).isSome = true) := (rfl)
theorem TR85 (c0 : D) : T85.sp.res [.c c0] = qu1 ((qp4 r85 c0).getD default) := (rfl)
theorem TA85 : T85.sp.alias = false := (rfl)
def tb85 : Fns := lk [(47, T47.sp)]
theorem tb85_ok : FnsOk Tryz.prog tb85 := .cons f47 (FnsOk.nil)
theorem tb85_47 : tb85 47 = some T47.sp := rfl
attribute [go_sem] TP85 TR85 TA85
section
attribute [local go_sem] T85 tb85_47 Tryz.results85
theorem v85 : Valid Tryz.prog 85 T85.sp := by
 refine valid_t (fn := Tryz.f85) (n := 5) ty_ok tb85_ok Tryz.func85 rfl Tryz.ntmps85 ?_
 rintro a0 hx
 obtain ⟨r, hr⟩ := oE (show (r85 a0).isSome = true from hx)
 have hres : T85.res a0 = qu1 r := by simp only [T85, mkT, hr, oG]
 refine ⟨nL rfl, fun stop S => ?_⟩
 rw [hres] at S
 unfold r85 at hr
 refine S.gx [] ?_
 obtain ⟨v1, hv1, hr⟩ := of_bind0 hr
 try simp only [hv1, oG, oI, true_and, and_assoc]
 repeat refine gA ?_
 cases hr
 exact lf
theorem f85 : FnFact Tryz.prog 85 T85.sp := ⟨⟨Tryz.f85, Tryz.func85, by decide, rfl⟩, v85⟩
end

/- martensite/heat.CheckWater -/
def r49 (x2 : Int) (x0 : Int) (x1 : Int) : Option (Int) :=
  (r85 x2).bind fun v1 =>
   if v1 = true → (r85 x0).isSome = true then
    if (v1 && ((r85 x0).getD default)) = true → (r85 x1).isSome = true then
     (r48 ((v1 && ((r85 x0).getD default)) && ((r85 x1).getD default)) 2).bind fun v2 =>
      (r48 (decide (x2 < x1)) 9).bind fun v3 =>
       (r44 [v2, v3]).bind fun v4 =>
        some v4
     else none
    else none
def T49 : TSpec qA35 := mkT qE35 qd35 (fun ⟨x2, x0, x1⟩ => r49 x2 x0 x1) qu2 false
theorem TP49 (c0 c1 c2 : D) : T49.sp.pre [.agg [c0, c1, c2]] = (eqvArgs (qt35 c0 c1 c2) (qp35 qw35 c0 c1 c2) ∧ (qp35 r49 c0 c1 c2).isSome = true) := (rfl)
theorem TR49 (c0 c1 c2 : D) : T49.sp.res [.agg [c0, c1, c2]] = qu2 ((qp35 r49 c0 c1 c2).getD default) := (rfl)
theorem TA49 : T49.sp.alias = false := (rfl)
def tb49 : Fns := lk [(44, T44.sp), (48, T48.sp), (85, T85.sp)]
theorem tb49_ok : FnsOk Tryz.prog tb49 := .cons f44 (.cons f48 (.cons f85 (FnsOk.nil)))
theorem tb49_44 : tb49 44 = some T44.sp := rfl
theorem tb49_48 : tb49 48 = some T48.sp := rfl
theorem tb49_85 : tb49 85 = some T85.sp := rfl
attribute [go_sem] TP49 TR49 TA49
section
attribute [local go_sem] T49 tb49_44 tb49_48 tb49_85 Tryz.results49
theorem v49 : Valid Tryz.prog 49 T49.sp := by
 refine valid_t (fn := Tryz.f49) (n := 25) ty_ok tb49_ok Tryz.func49 rfl Tryz.ntmps49 ?_
 rintro ⟨x2, x0, x1⟩ hx
 obtain ⟨r, hr⟩ := oE (show (r49 x2 x0 x1).isSome = true from hx)
 have hres : T49.res (x2, x0, x1) = qu2 r := by simp only [T49, mkT, hr, oG]
 refine ⟨nL rfl, fun stop S => ?_⟩
 rw [hres] at S
 unfold r49 at hr
 refine S.gx [] ?_
 obtain ⟨v1, hv1, hr⟩ := of_bind0 hr
 obtain ⟨hg5, hr⟩ := of_guard0 hr
 obtain ⟨hg6, hr⟩ := of_guard0 hr
 obtain ⟨v2, hv2, hr⟩ := of_bind0 hr
 obtain ⟨v3, hv3, hr⟩ := of_bind0 hr
 obtain ⟨v4, hv4, hr⟩ := of_bind0 hr
 try simp only [hv1, hv2, hv3, hv4, Option.getD_some, Option.isSome_some, true_and, and_assoc]
 repeat (first | refine gG hg5 ?_ | refine gG hg6 ?_ | refine gA ?_ | refine gB ?_)
 cases hr
 exact lf
theorem f49 : FnFact Tryz.prog 49 T49.sp := ⟨⟨Tryz.f49, Tryz.func49, by decide, rfl⟩, v49⟩
end

/- martensite/heat.isFlow -/
def r50 (a0 : Int) : Option (Bool) :=
  (r47 a0 0 1000).bind fun v1 =>
   some v1
def T50 : TSpec qA4 := mkT qE4 qd4 r50 qu1 false
theorem TP50 (c0 : D) : T50.sp.pre [.c c0] = (eqvArgs (qt4 c0) (qp4 qw4 c0) ∧ (qp4 r50 c0).isSome = true) := (rfl)
theorem TR50 (c0 : D) : T50.sp.res [.c c0] = qu1 ((qp4 r50 c0).getD default) := (rfl)
theorem TA50 : T50.sp.alias = false := (rfl)
def tb50 : Fns := lk [(47, T47.sp)]
theorem tb50_ok : FnsOk Tryz.prog tb50 := .cons f47 (FnsOk.nil)
theorem tb50_47 : tb50 47 = some T47.sp := rfl
attribute [go_sem] TP50 TR50 TA50
section
attribute [local go_sem] T50 tb50_47 Tryz.results50
theorem v50 : Valid Tryz.prog 50 T50.sp := by
 refine valid_t (fn := Tryz.f50) (n := 5) ty_ok tb50_ok Tryz.func50 rfl Tryz.ntmps50 ?_
 rintro a0 hx
 obtain ⟨r, hr⟩ := oE (show (r50 a0).isSome = true from hx)
 have hres : T50.res a0 = qu1 r := by simp only [T50, mkT, hr, oG]
 refine ⟨nL rfl, fun stop S => ?_⟩
 rw [hres] at S
 unfold r50 at hr
 refine S.gx [] ?_
 obtain ⟨v1, hv1, hr⟩ := of_bind0 hr
 try simp only [hv1, oG, oI, true_and, and_assoc]
 repeat refine gA ?_
 cases hr
 exact lf
theorem f50 : FnFact Tryz.prog 50 T50.sp := ⟨⟨Tryz.f50, Tryz.func50, by decide, rfl⟩, v50⟩
end

/- martensite/heat.heats -/
def b86_1 (x0 : Int) (a1 : List (Int)) : ((List (Int)) × Int × Int) → Ctl ((List (Int)) × Int × Int) ((List (Int))) := fun s1 =>
  if (decide (s1.2.2 < (a1.length : Int))) = true then
   if 0 ≤ s1.2.2 ∧ s1.2.2 < (a1.length : Int) then
    if (s1.1.length + 1) * 8 ≤ 140737488355328 ∧ s1.1.length + 1 ≤ 9223372036854775807 then
     .next (s1.1 ++ [IntKind.i64.wrap (s1.2.1 + (IntKind.i64.wrap (x0 - (IntKind.i64.wrap ((IntKind.i64.wrap (s1.2.1 * (a1.getD s1.2.2.toNat default))).tdiv 1000)))))], IntKind.i64.wrap (s1.2.1 + (IntKind.i64.wrap (x0 - (IntKind.i64.wrap ((IntKind.i64.wrap (s1.2.1 * (a1.getD s1.2.2.toNat default))).tdiv 1000))))), IntKind.i64.wrap (s1.2.2 + 1))
     else .out none
    else .out none
   else .out (some s1.1)
def r86 (x1 : Int) (x0 : Int) (x2 : Int) (a1 : List (Int)) : Option ((List (Int))) :=
  iterC (b86_1 x0 a1) 1000000000 ([], x1, 0)
def T86 : TSpec qA36 := mkT qE36 qd36 (fun ⟨x1, x0, x2, a1⟩ => r86 x1 x0 x2 a1) qu13 false
theorem TP86 (c0 c1 c2 c3 : D) : T86.sp.pre [.agg [c0, c1, c2], .c c3] = (eqvArgs (qt36 c0 c1 c2 c3) (qp36 qw36 c0 c1 c2 c3) ∧ (qp36 r86 c0 c1 c2 c3).isSome = true) := (rfl)
theorem TR86 (c0 c1 c2 c3 : D) : T86.sp.res [.agg [c0, c1, c2], .c c3] = qu13 ((qp36 r86 c0 c1 c2 c3).getD default) := (rfl)
theorem TA86 : T86.sp.alias = false := (rfl)
def tb86 : Fns := lk []
theorem tb86_ok : FnsOk Tryz.prog tb86 := FnsOk.nil
theorem lt86_0 : (IntKind.i64.wrap (0 + 1)) = 1 := by first | rfl | decide | simp
attribute [go_sem] TP86 TR86 TA86
section
attribute [local go_sem] T86 Tryz.results86 lt86_0
theorem v86 : Valid Tryz.prog 86 T86.sp := by
 refine valid_t (fn := Tryz.f86) (n := 32) ty_ok tb86_ok Tryz.func86 rfl Tryz.ntmps86 ?_
 rintro ⟨x1, x0, x2, a1⟩ hx
 obtain ⟨r, hr⟩ := oE (show (r86 x1 x0 x2 a1).isSome = true from hx)
 have hres : T86.res (x1, x0, x2, a1) = qu13 r := by simp only [T86, mkT, hr, oG]
 refine ⟨nL rfl, fun stop S => ?_⟩
 rw [hres] at S
 unfold r86 at hr
 refine S.gx [] ?_
 repeat refine gA ?_
 refine S.own0 5 1000500 1 rfl rfl ?_
 refine S.sees [2, 5, 6, 11, 12, 13] [(2, 2)] [(1000500, 1000500)] ?_ (Stop.iter S (fun s1 => ⟨[(2, .c (.ref 2 0)), (5, .c (.own 1000500)), (6, .c (.d (.int .i64 s1.2.1))), (11, .c (.d (encF 1 d_I a1))), (12, .c (.d (.int .i64 (a1.length : Int)))), (13, .c (.d (.int .i64 s1.2.2)))], [(2, [.d (.int .i64 x1), .d (.int .i64 x0), .d (.int .i64 x2)])], [(1000500, .owned (encF 1 d_I s1.1))]⟩) (b86_1 x0 a1) (fun q => q = r) hr rfl ?_)
 ·exact lf
 ·intro s1 hr
  unfold b86_1 at hr
  refine S.gx [] ?_
  repeat refine gA ?_
  refine ⟨?_, ?_⟩ <;> intro hc
  ·have hr := ifP1 hr hc
   obtain ⟨hg1, hr⟩ := of_guard1 hr
   obtain ⟨hg2, hr⟩ := of_guard1 hr
   repeat refine gA ?_
   refine S.sees [2, 5, 6, 11, 12, 13] [(2, 2)] [(29, 1000500)] ?_ hr
   exact lf
  ·have hr := ifN1 hr hc
   repeat refine gA ?_
   have hr := of_out0 hr
   repeat refine gA ?_
   cases hr
   exact lf
theorem f86 : FnFact Tryz.prog 86 T86.sp := ⟨⟨Tryz.f86, Tryz.func86, by decide, rfl⟩, v86⟩
end

/- martensite/heat.boiling$1 -/
def r87 (a0 : Int) (x1 : Int) (x2 : Int) (x0 : Int) : Option (Bool) :=
  some (decide (a0 ≥ x0))
def T87 : TSpec qA37 := mkT qE37 qd37 (fun ⟨a0, x1, x2, x0⟩ => r87 a0 x1 x2 x0) qu1 false
theorem TP87 (c0 c1 c2 c3 : D) : T87.sp.pre [.c c0, .ptr [c1, c2, c3]] = (eqvArgs (qt37 c0 c1 c2 c3) (qp37 qw37 c0 c1 c2 c3) ∧ (qp37 r87 c0 c1 c2 c3).isSome = true) := (rfl)
theorem TR87 (c0 c1 c2 c3 : D) : T87.sp.res [.c c0, .ptr [c1, c2, c3]] = qu1 ((qp37 r87 c0 c1 c2 c3).getD default) := (rfl)
theorem TA87 : T87.sp.alias = false := (rfl)
def tb87 : Fns := lk []
theorem tb87_ok : FnsOk Tryz.prog tb87 := FnsOk.nil
attribute [go_sem] TP87 TR87 TA87
section
attribute [local go_sem] T87 Tryz.results87
theorem v87 : Valid Tryz.prog 87 T87.sp := by
 refine valid_t (fn := Tryz.f87) (n := 8) ty_ok tb87_ok Tryz.func87 rfl Tryz.ntmps87 ?_
 rintro ⟨a0, x1, x2, x0⟩ hx
 obtain ⟨r, hr⟩ := oE (show (r87 a0 x1 x2 x0).isSome = true from hx)
 have hres : T87.res (a0, x1, x2, x0) = qu1 r := by simp only [T87, mkT, hr, oG]
 refine ⟨nL rfl, fun stop S => ?_⟩
 rw [hres] at S
 unfold r87 at hr
 refine S.gx [] ?_
 repeat refine gA ?_
 cases hr
 exact lf
theorem f87 : FnFact Tryz.prog 87 T87.sp := ⟨⟨Tryz.f87, Tryz.func87, by decide, rfl⟩, v87⟩
end

/- slices.IndexFunc[[]int,int] -/
def b82d_1 (a0 : List (Int)) (x0 : Int) (x1 : Int) (x2 : Int) : (Int) → Ctl (Int) (Int) := fun s1 =>
  if (decide (s1 < (a0.length : Int))) = true then
   if 0 ≤ s1 ∧ s1 < (a0.length : Int) then
    bindC (r87 (a0.getD s1.toNat default) x0 x1 x2) fun v1 =>
     if v1 = true then
      .out (some s1)
      else .next (IntKind.i64.wrap (s1 + 1))
    else .out none
   else .out (some (-1))
def r82d (a0 : List (Int)) (x0 : Int) (x1 : Int) (x2 : Int) : Option (Int) :=
  iterC (b82d_1 a0 x0 x1 x2) 1000000000 0
def T82d : TSpec qA38 := mkT qE38 qd38 (fun ⟨a0, x0, x1, x2⟩ => r82d a0 x0 x1 x2) qu2 false
theorem TP82d (c0 c1 c2 c3 : D) : T82d.sp.pre [.c c0, .clo 87 [[c1, c2, c3]]] = (eqvArgs (qt38 c0 c1 c2 c3) (qp38 qw38 c0 c1 c2 c3) ∧ (qp38 r82d c0 c1 c2 c3).isSome = true) := (rfl)
theorem TR82d (c0 c1 c2 c3 : D) : T82d.sp.res [.c c0, .clo 87 [[c1, c2, c3]]] = qu2 ((qp38 r82d c0 c1 c2 c3).getD default) := (rfl)
theorem TA82d : T82d.sp.alias = false := (rfl)
def tb82d : Fns := lk [(87, T87.sp)]
theorem tb82d_ok : FnsOk Tryz.prog tb82d := .cons f87 (FnsOk.nil)
theorem tb82d_87 : tb82d 87 = some T87.sp := rfl
theorem lt82d_0 : (IntKind.i64.wrap (0 + 1)) = 1 := by first | rfl | decide | simp
attribute [go_sem] TP82d TR82d TA82d
section
attribute [local go_sem] T82d tb82d_87 Tryz.results82 lt82d_0
theorem v82d : Valid Tryz.prog 82 T82d.sp := by
  refine valid_t (fn := Tryz.f82) (n := 19) ty_ok tb82d_ok Tryz.func82 rfl Tryz.ntmps82 ?_
  rintro ⟨a0, x0, x1, x2⟩ hx
  obtain ⟨r, hr⟩ := oE (show (r82d a0 x0 x1 x2).isSome = true from hx)
  have hres : T82d.res (a0, x0, x1, x2) = qu2 r := by simp only [T82d, mkT, hr, oG]
  refine ⟨nL rfl, fun stop S => ?_⟩
  rw [hres] at S
  unfold r82d at hr
  refine S.gx [] ?_
  repeat refine gA ?_
  refine S.sees [0, 1, 7, 8] [] [] ?_ (Stop.iter S (fun s1 => ⟨[(0, .c (.d (encF 1 d_I a0))), (1, .c (.clo 87 [.sptr [.int .i64 x0, .int .i64 x1, .int .i64 x2] 0])), (7, .c (.d (.int .i64 (a0.length : Int)))), (8, .c (.d (.int .i64 s1)))], [], []⟩) (b82d_1 a0 x0 x1 x2) (fun q => q = r) hr rfl ?_)
  · exact lf
  · intro s1 hr
    unfold b82d_1 at hr
    refine S.gx [] ?_
    repeat refine gA ?_
    refine ⟨fun hc => ?_, fun hc => ?_⟩
    · replace hr := ifP1 hr hc
      obtain ⟨hg2, hr⟩ := of_guard1 hr
      obtain ⟨v1, hv1, hr⟩ := of_bind1 hr
      try simp only [hv1, oG, oI, true_and, and_assoc]
      repeat refine gA ?_
      refine ⟨fun hc => ?_, fun hc => ?_⟩
      · replace hr := ifP1 hr hc
        repeat refine gA ?_
        have hr := of_out0 hr
        obtain rfl := Option.some.inj hr
        exact lf
      · replace hr := ifN1 hr hc
        repeat refine gA ?_
        refine S.sees [0, 1, 7, 8] [] [] ?_ hr
        exact lf
    · replace hr := ifN1 hr hc
      repeat refine gA ?_
      have hr := of_out0 hr
      repeat refine gA ?_
      obtain rfl := Option.some.inj hr
      exact lf
theorem f82d : FnFact Tryz.prog 82 T82d.sp := ⟨⟨Tryz.f82, Tryz.func82, by decide, rfl⟩, v82d⟩
end

/- martensite/heat.boiling -/
def r51 (x0 : Int) (x1 : Int) (x2 : Int) (a1 : List (Int)) : Option (Int) :=
  (r86 x0 x1 x2 a1).bind fun v1 =>
   (r82d v1 x0 x1 x2).bind fun v2 =>
    if (decide (v2 < 0)) = true then
     some (IntKind.i64.wrap ((a1.length : Int) + 1))
     else some (IntKind.i64.wrap (v2 + 1))
def T51 : TSpec qA36 := mkT qE36 qd36 (fun ⟨x0, x1, x2, a1⟩ => r51 x0 x1 x2 a1) qu2 false
theorem TP51 (c0 c1 c2 c3 : D) : T51.sp.pre [.agg [c0, c1, c2], .c c3] = (eqvArgs (qt36 c0 c1 c2 c3) (qp36 qw36 c0 c1 c2 c3) ∧ (qp36 r51 c0 c1 c2 c3).isSome = true) := (rfl)
theorem TR51 (c0 c1 c2 c3 : D) : T51.sp.res [.agg [c0, c1, c2], .c c3] = qu2 ((qp36 r51 c0 c1 c2 c3).getD default) := (rfl)
theorem TA51 : T51.sp.alias = false := (rfl)
def tb51 : Fns := lk [(82, T82d.sp), (86, T86.sp)]
theorem tb51_ok : FnsOk Tryz.prog tb51 := .cons f82d (.cons f86 (FnsOk.nil))
theorem tb51_82 : tb51 82 = some T82d.sp := rfl
theorem tb51_86 : tb51 86 = some T86.sp := rfl
attribute [go_sem] TP51 TR51 TA51
section
attribute [local go_sem] T51 tb51_82 tb51_86 Tryz.results51
theorem v51 : Valid Tryz.prog 51 T51.sp := by
 refine valid_t (fn := Tryz.f51) (n := 17) ty_ok tb51_ok Tryz.func51 rfl Tryz.ntmps51 ?_
 rintro ⟨x0, x1, x2, a1⟩ hx
 obtain ⟨r, hr⟩ := oE (show (r51 x0 x1 x2 a1).isSome = true from hx)
 have hres : T51.res (x0, x1, x2, a1) = qu2 r := by simp only [T51, mkT, hr, oG]
 refine ⟨nL rfl, fun stop S => ?_⟩
 rw [hres] at S
 unfold r51 at hr
 refine S.gx [] ?_
 obtain ⟨v1, hv1, hr⟩ := of_bind0 hr
 obtain ⟨v2, hv2, hr⟩ := of_bind0 hr
 try simp only [hv1, hv2, Option.getD_some, Option.isSome_some, true_and, and_assoc]
 repeat refine gA ?_
 refine ⟨?_, ?_⟩ <;> intro hc
 ·have hr := ifP hr hc
  repeat refine gA ?_
  cases hr
  exact lf
 ·have hr := ifN hr hc
  repeat refine gA ?_
  cases hr
  exact lf
theorem f51 : FnFact Tryz.prog 51 T51.sp := ⟨⟨Tryz.f51, Tryz.func51, by decide, rfl⟩, v51⟩
end

/- martensite/heat.BoilingIn -/
def b18_1 (x0 : Int) (x1 : Int) (x2 : Int) (a1 : List (Int × Int)) : (Int × (List (Int)) × (List (Int)) × Int) → Ctl (Int × (List (Int)) × (List (Int)) × Int) (Int × Int × Int) := fun s1 =>
  if (decide (s1.2.2.2 < (a1.length : Int))) = true then
   if 0 ≤ s1.2.2.2 ∧ s1.2.2.2 < (a1.length : Int) then
    bindC (r50 ((a1.getD s1.2.2.2.toNat default).1)) fun v4 =>
     if v4 = true → (r50 ((a1.getD s1.2.2.2.toNat default).2)).isSome = true then
      bindC (r48 (v4 && ((r50 ((a1.getD s1.2.2.2.toNat default).2)).getD default)) 2) fun v5 =>
       bindC (r48 (decide (((a1.getD s1.2.2.2.toNat default).1) ≤ ((a1.getD s1.2.2.2.toNat default).2))) 9) fun v6 =>
        bindC (r44 [s1.1, v5, v6]) fun v7 =>
         if (s1.2.1.length + 1) * 8 ≤ 140737488355328 ∧ s1.2.1.length + 1 ≤ 9223372036854775807 then
          if (s1.2.2.1.length + 1) * 8 ≤ 140737488355328 ∧ s1.2.2.1.length + 1 ≤ 9223372036854775807 then
           .next (v7, s1.2.1 ++ [(a1.getD s1.2.2.2.toNat default).1], s1.2.2.1 ++ [(a1.getD s1.2.2.2.toNat default).2], IntKind.i64.wrap (s1.2.2.2 + 1))
           else .out none
          else .out none
      else .out none
    else .out none
   else .out (if (s1.1 != 0) = true then
    some (0, 0, s1.1)
    else (r51 x0 x1 x2 s1.2.1).bind fun v12 =>
     (r51 x0 x1 x2 s1.2.2.1).bind fun v13 =>
      if (decide (v12 > (a1.length : Int))) = true then
       some (0, 0, 12)
       else some (v12, v13, 0))
def r18 (x0 : Int) (x1 : Int) (x2 : Int) (a1 : List (Int × Int)) : Option (Int × Int × Int) :=
  (r49 x0 x1 x2).bind fun v1 =>
   (r48 (decide ((a1.length : Int) ≤ 200)) 8).bind fun v2 =>
    (r44 [v1, v2]).bind fun v3 =>
     iterC (b18_1 x0 x1 x2 a1) 1000000000 (v3, [], [], 0)
def T18 : TSpec qA39 := mkT qE39 qd39 (fun ⟨x0, x1, x2, a1⟩ => r18 x0 x1 x2 a1) qu14 false
theorem TP18 (c0 c1 c2 c3 : D) : T18.sp.pre [.agg [c0, c1, c2], .c c3] = (eqvArgs (qt39 c0 c1 c2 c3) (qp39 qw39 c0 c1 c2 c3) ∧ (qp39 r18 c0 c1 c2 c3).isSome = true) := (rfl)
theorem TR18 (c0 c1 c2 c3 : D) : T18.sp.res [.agg [c0, c1, c2], .c c3] = qu14 ((qp39 r18 c0 c1 c2 c3).getD default) := (rfl)
theorem TA18 : T18.sp.alias = false := (rfl)
def tb18 : Fns := lk [(44, T44.sp), (48, T48.sp), (49, T49.sp), (50, T50.sp), (51, T51.sp)]
theorem tb18_ok : FnsOk Tryz.prog tb18 := .cons f44 (.cons f48 (.cons f49 (.cons f50 (.cons f51 (FnsOk.nil)))))
theorem tb18_44 : tb18 44 = some T44.sp := rfl
theorem tb18_48 : tb18 48 = some T48.sp := rfl
theorem tb18_49 : tb18 49 = some T49.sp := rfl
theorem tb18_50 : tb18 50 = some T50.sp := rfl
theorem tb18_51 : tb18 51 = some T51.sp := rfl
theorem lt18_0 : (IntKind.i64.wrap (0 + 1)) = 1 := by first | rfl | decide | simp
attribute [go_sem] TP18 TR18 TA18
section
attribute [local go_sem] T18 tb18_44 tb18_48 tb18_49 tb18_50 tb18_51 Tryz.results18 lt18_0
theorem v18 : Valid Tryz.prog 18 T18.sp := by
 refine valid_t (fn := Tryz.f18) (n := 73) ty_ok tb18_ok Tryz.func18 rfl Tryz.ntmps18 ?_
 rintro ⟨x0, x1, x2, a1⟩ hx
 obtain ⟨r, hr⟩ := oE (show (r18 x0 x1 x2 a1).isSome = true from hx)
 have hres : T18.res (x0, x1, x2, a1) = qu14 r := by simp only [T18, mkT, hr, oG]
 refine ⟨nL rfl, fun stop S => ?_⟩
 rw [hres] at S
 unfold r18 at hr
 refine S.gx [8] ?_
 obtain ⟨v1, hv1, hr⟩ := of_bind0 hr
 obtain ⟨v2, hv2, hr⟩ := of_bind0 hr
 obtain ⟨v3, hv3, hr⟩ := of_bind0 hr
 try simp only [hv1, hv2, hv3, Option.getD_some, Option.isSome_some, true_and, and_assoc]
 repeat refine gA ?_
 refine S.own0 7 1000700 1 rfl rfl ?_
 refine S.own0 8 1000800 1 rfl rfl ?_
 refine S.sees [1, 2, 4, 6, 7, 8, 20, 21, 22] [(2, 2), (4, 4)] [(1000700, 1000700), (1000800, 1000800)] ?_ (Stop.iter S (fun s1 => ⟨[(1, .c (.d (encF 2 d_II a1))), (2, .c (.ref 2 0)), (4, .c (.ref 4 0)), (6, .c (.d (.int .i64 s1.1))), (7, .c (.own 1000700)), (8, .c (.own 1000800)), (20, .c (.d (encF 2 d_II a1))), (21, .c (.d (.int .i64 (a1.length : Int)))), (22, .c (.d (.int .i64 s1.2.2.2)))], [(2, [.d (.int .i64 x0), .d (.int .i64 x1), .d (.int .i64 x2)]), (4, [.d (.int .i64 0), .d (.int .i64 0)])], [(1000700, .owned (encF 1 d_I s1.2.1)), (1000800, .owned (encF 1 d_I s1.2.2.1))]⟩) (b18_1 x0 x1 x2 a1) (fun q => q = r) hr rfl ?_)
 ·exact lf
 ·intro s1 hr
  unfold b18_1 at hr
  refine S.gx [8] ?_
  repeat refine gA ?_
  refine ⟨?_, ?_⟩ <;> intro hc
  ·have hr := ifP1 hr hc
   obtain ⟨hg8, hr⟩ := of_guard1 hr
   obtain ⟨v4, hv4, hr⟩ := of_bind1 hr
   obtain ⟨hg9, hr⟩ := of_guard1 hr
   obtain ⟨v5, hv5, hr⟩ := of_bind1 hr
   obtain ⟨v6, hv6, hr⟩ := of_bind1 hr
   obtain ⟨v7, hv7, hr⟩ := of_bind1 hr
   obtain ⟨hg10, hr⟩ := of_guard1 hr
   obtain ⟨hg11, hr⟩ := of_guard1 hr
   try simp only [hv4, hv5, hv6, hv7, Option.getD_some, Option.isSome_some, true_and, and_assoc]
   repeat (first | refine gG hg9 ?_ | refine gA ?_ | refine gB ?_)
   refine S.prune [1, 2, 4, 6, 7, 8, 20, 21, 22] ?_
   refine S.gx [] ?_
   repeat refine gA ?_
   refine S.sees [1, 2, 4, 6, 7, 8, 20, 21, 22] [(2, 2), (4, 4)] [(48, 1000700), (53, 1000800)] ?_ hr
   exact lf
  ·have hr := ifN1 hr hc
   repeat refine gA ?_
   have hr := of_out0 hr
   repeat refine gA ?_
   refine ⟨?_, ?_⟩ <;> intro hc
   ·have hr := ifP hr hc
    repeat refine gA ?_
    cases hr
    exact lf
   ·have hr := ifN hr hc
    obtain ⟨v12, hv12, hr⟩ := of_bind0 hr
    obtain ⟨v13, hv13, hr⟩ := of_bind0 hr
    try simp only [hv12, hv13, Option.getD_some, Option.isSome_some, true_and, and_assoc]
    repeat refine gA ?_
    refine ⟨?_, ?_⟩ <;> intro hc
    ·have hr := ifP hr hc
     repeat refine gA ?_
     cases hr
     exact lf
    ·have hr := ifN hr hc
     repeat refine gA ?_
     cases hr
     exact lf
theorem f18 : FnFact Tryz.prog 18 T18.sp := ⟨⟨Tryz.f18, Tryz.func18, by decide, rfl⟩, v18⟩
end

/- martensite/martensitebase.Ints -/
def b20_1 (a0 : List (Int)) (a1 : List (Int)) : (Int) → Ctl (Int) (Bool) := fun s1 =>
  if (decide (s1 < (a0.length : Int))) = true then
   if 0 ≤ s1 ∧ s1 < (a0.length : Int) then
    if 0 ≤ s1 ∧ s1 < (a1.length : Int) then
     if ((a0.getD s1.toNat default) != (a1.getD s1.toNat default)) = true then
      .out (some false)
      else .next (IntKind.i64.wrap (s1 + 1))
     else .out none
    else .out none
   else .out (some true)
def r20 (a0 : List (Int)) (a1 : List (Int)) : Option (Bool) :=
  if ((a0.length : Int) != (a1.length : Int)) = true then
   some false
   else iterC (b20_1 a0 a1) 1000000000 0
def T20 : TSpec qA40 := mkT qE40 qd40 (fun ⟨a0, a1⟩ => r20 a0 a1) qu1 false
theorem TP20 (c0 c1 : D) : T20.sp.pre [.c c0, .c c1] = (eqvArgs (qt40 c0 c1) (qp40 qw40 c0 c1) ∧ (qp40 r20 c0 c1).isSome = true) := (rfl)
theorem TR20 (c0 c1 : D) : T20.sp.res [.c c0, .c c1] = qu1 ((qp40 r20 c0 c1).getD default) := (rfl)
theorem TA20 : T20.sp.alias = false := (rfl)
def tb20 : Fns := lk []
theorem tb20_ok : FnsOk Tryz.prog tb20 := FnsOk.nil
theorem lt20_0 : (IntKind.i64.wrap (0 + 1)) = 1 := by first | rfl | decide | simp
attribute [go_sem] TP20 TR20 TA20
section
attribute [local go_sem] T20 Tryz.results20 lt20_0
theorem v20 : Valid Tryz.prog 20 T20.sp := by
 refine valid_t (fn := Tryz.f20) (n := 26) ty_ok tb20_ok Tryz.func20 rfl Tryz.ntmps20 ?_
 rintro ⟨a0, a1⟩ hx
 obtain ⟨r, hr⟩ := oE (show (r20 a0 a1).isSome = true from hx)
 have hres : T20.res (a0, a1) = qu1 r := by simp only [T20, mkT, hr, oG]
 refine ⟨nL rfl, fun stop S => ?_⟩
 rw [hres] at S
 unfold r20 at hr
 refine S.gx [] ?_
 repeat refine gA ?_
 refine ⟨?_, ?_⟩ <;> intro hc
 ·have hr := ifP hr hc
  repeat refine gA ?_
  cases hr
  exact lf
 ·have hr := ifN hr hc
  repeat refine gA ?_
  refine S.sees [0, 1, 5] [] [] ?_ (Stop.iter S (fun s1 => ⟨[(0, .c (.d (encF 1 d_I a0))), (1, .c (.d (encF 1 d_I a1))), (5, .c (.d (.int .i64 s1)))], [], []⟩) (b20_1 a0 a1) (fun q => q = r) hr rfl ?_)
  ·exact lf
  ·intro s1 hr
   unfold b20_1 at hr
   refine S.gx [] ?_
   repeat refine gA ?_
   refine ⟨?_, ?_⟩ <;> intro hc
   ·have hr := ifP1 hr hc
    obtain ⟨hg1, hr⟩ := of_guard1 hr
    obtain ⟨hg2, hr⟩ := of_guard1 hr
    repeat refine gA ?_
    refine ⟨?_, ?_⟩ <;> intro hc
    ·have hr := ifP1 hr hc
     repeat refine gA ?_
     have hr := of_out0 hr
     cases hr
     exact lf
    ·have hr := ifN1 hr hc
     repeat refine gA ?_
     refine S.sees [0, 1, 5] [] [] ?_ hr
     exact lf
   ·have hr := ifN1 hr hc
    repeat refine gA ?_
    have hr := of_out0 hr
    repeat refine gA ?_
    cases hr
    exact lf
theorem f20 : FnFact Tryz.prog 20 T20.sp := ⟨⟨Tryz.f20, Tryz.func20, by decide, rfl⟩, v20⟩
end

/- martensite/martensiteref03.SameBox -/
def r21 (x2 : List (Int)) (x0 : List (Int)) (x3 : List (Int)) (x1 : List (Int)) : Option (Bool) :=
  (r20 x2 x3).bind fun v1 =>
   if v1 = true → (r20 x0 x1).isSome = true then
    some (v1 && ((r20 x0 x1).getD default))
    else none
def T21 : TSpec qA41 := mkT qE41 qd41 (fun ⟨x2, x0, x3, x1⟩ => r21 x2 x0 x3 x1) qu1 false
theorem TP21 (c0 c1 c2 c3 : D) : T21.sp.pre [.agg [c0, c1], .agg [c2, c3]] = (eqvArgs (qt41 c0 c1 c2 c3) (qp41 qw41 c0 c1 c2 c3) ∧ (qp41 r21 c0 c1 c2 c3).isSome = true) := (rfl)
theorem TR21 (c0 c1 c2 c3 : D) : T21.sp.res [.agg [c0, c1], .agg [c2, c3]] = qu1 ((qp41 r21 c0 c1 c2 c3).getD default) := (rfl)
theorem TA21 : T21.sp.alias = false := (rfl)
def tb21 : Fns := lk [(20, T20.sp)]
theorem tb21_ok : FnsOk Tryz.prog tb21 := .cons f20 (FnsOk.nil)
theorem tb21_20 : tb21 20 = some T20.sp := rfl
attribute [go_sem] TP21 TR21 TA21
section
attribute [local go_sem] T21 tb21_20 Tryz.results21
theorem v21 : Valid Tryz.prog 21 T21.sp := by
 refine valid_t (fn := Tryz.f21) (n := 17) ty_ok tb21_ok Tryz.func21 rfl Tryz.ntmps21 ?_
 rintro ⟨x2, x0, x3, x1⟩ hx
 obtain ⟨r, hr⟩ := oE (show (r21 x2 x0 x3 x1).isSome = true from hx)
 have hres : T21.res (x2, x0, x3, x1) = qu1 r := by simp only [T21, mkT, hr, oG]
 refine ⟨nL rfl, fun stop S => ?_⟩
 rw [hres] at S
 unfold r21 at hr
 refine S.gx [] ?_
 obtain ⟨v1, hv1, hr⟩ := of_bind0 hr
 obtain ⟨hg2, hr⟩ := of_guard0 hr
 try simp only [hv1, oG, oI, true_and, and_assoc]
 repeat (first | refine gG hg2 ?_ | refine gA ?_ | refine gB ?_)
 cases hr
 exact lf
theorem f21 : FnFact Tryz.prog 21 T21.sp := ⟨⟨Tryz.f21, Tryz.func21, by decide, rfl⟩, v21⟩
end

/- martensite/martensitelaw03.awake -/
def r4 : Option (Bool) :=
  (r14).bind fun v1 =>
   (r13 v1.1 v1.2.1 v1.2.2.1 v1.2.2.2 [1000, 200, 0] [10, 0, 0] 1).bind fun v2 =>
    (r15 v1.1 v1.2.1 v1.2.2.1 v1.2.2.2 [1000, 200, 0] [1000, 200, 0] [(0, 10), (0, 0), (0, 0)] 0 1).bind fun v3 =>
     (r16 v1.1 v1.2.1 v1.2.2.1 v1.2.2.2 [800, 300, 100] 450).bind fun v4 =>
      (r17 v1.1 v1.2.1 v1.2.2.1 v1.2.2.2 [0, 0, 0] [100, 0, 0] 0 400 1 10).bind fun v5 =>
       (r19).bind fun v6 =>
        (r18 v6.1 v6.2.1 v6.2.2 [(100, 500), (100, 500), (100, 500), (100, 500)]).bind fun v7 =>
         if (v2.2 == 0) = true → (r20 v2.1 [650, 300, 100]).isSome = true then
          if (((v2.2 == 0) && ((r20 v2.1 [650, 300, 100]).getD default)) && (v3.2.2 == 0)) = true → (r21 v3.1 v3.2.1 [640, 300, 100] [810, 300, 100]).isSome = true then
           some ((((((((((v2.2 == 0) && ((r20 v2.1 [650, 300, 100]).getD default)) && (v3.2.2 == 0)) && ((r21 v3.1 v3.2.1 [640, 300, 100] [810, 300, 100]).getD default)) && (v4.2 == 0)) && (v4.1 == 2)) && (v5.2 == 0)) && (v5.1 == 3)) && (v7.2.2 == 0)) && ((v7.1 == 3) && (v7.2.1 == 5)))
           else none
          else none
def T4 : TSpec qA0 := mkT qE0 qd0 (fun _ => r4) qu1 false
theorem TP4 : T4.sp.pre [] = (eqvArgs (qt0 ) (qp0 qw0 ) ∧ (qp0 r4).isSome = true) := (rfl)
theorem TR4 : T4.sp.res [] = qu1 ((qp0 r4).getD default) := (rfl)
theorem TA4 : T4.sp.alias = false := (rfl)
def tb4 : Fns := lk [(13, T13.sp), (14, T14.sp), (15, T15.sp), (16, T16.sp), (17, T17.sp), (18, T18.sp), (19, T19.sp), (20, T20.sp), (21, T21.sp)]
theorem tb4_ok : FnsOk Tryz.prog tb4 := .cons f13 (.cons f14 (.cons f15 (.cons f16 (.cons f17 (.cons f18 (.cons f19 (.cons f20 (.cons f21 (FnsOk.nil)))))))))
theorem tb4_13 : tb4 13 = some T13.sp := rfl
theorem tb4_14 : tb4 14 = some T14.sp := rfl
theorem tb4_15 : tb4 15 = some T15.sp := rfl
theorem tb4_16 : tb4 16 = some T16.sp := rfl
theorem tb4_17 : tb4 17 = some T17.sp := rfl
theorem tb4_18 : tb4 18 = some T18.sp := rfl
theorem tb4_19 : tb4 19 = some T19.sp := rfl
theorem tb4_20 : tb4 20 = some T20.sp := rfl
theorem tb4_21 : tb4 21 = some T21.sp := rfl
attribute [go_sem] TP4 TR4 TA4
section
attribute [local go_sem] T4 tb4_13 tb4_14 tb4_15 tb4_16 tb4_17 tb4_18 tb4_19 tb4_20 tb4_21 Tryz.results4
theorem v4 : Valid Tryz.prog 4 T4.sp := by
 refine valid_t (fn := Tryz.f4) (n := 101) ty_ok tb4_ok Tryz.func4 rfl Tryz.ntmps4 ?_
 intro _ hx
 obtain ⟨r, hr⟩ := oE (show (r4).isSome = true from hx)
 have hres : T4.res () = qu1 r := by simp only [T4, mkT, hr, oG]
 refine ⟨nL rfl, fun stop S => ?_⟩
 rw [hres] at S
 unfold r4 at hr
 refine S.gx [5] ?_
 obtain ⟨v1, hv1, hr⟩ := of_bind0 hr
 obtain ⟨v2, hv2, hr⟩ := of_bind0 hr
 obtain ⟨v3, hv3, hr⟩ := of_bind0 hr
 obtain ⟨v4, hv4, hr⟩ := of_bind0 hr
 obtain ⟨v5, hv5, hr⟩ := of_bind0 hr
 try simp only [hv1, hv2, hv3, hv4, hv5, Option.getD_some, Option.isSome_some, true_and, and_assoc]
 repeat refine gA ?_
 refine S.prune [1, 2, 3, 4, 5, 6, 7, 8] ?_
 refine S.gx [] ?_
 obtain ⟨v6, hv6, hr⟩ := of_bind0 hr
 obtain ⟨v7, hv7, hr⟩ := of_bind0 hr
 try simp only [hv6, hv7, Option.getD_some, Option.isSome_some, true_and, and_assoc]
 repeat refine gA ?_
 obtain ⟨hg8, hr⟩ := of_guard0 hr
 obtain ⟨hg9, hr⟩ := of_guard0 hr
 repeat (first | refine gG hg8 ?_ | refine gG hg9 ?_ | refine gA ?_ | refine gB ?_)
 cases hr
 exact lf
theorem f4 : FnFact Tryz.prog 4 T4.sp := ⟨⟨Tryz.f4, Tryz.func4, by decide, rfl⟩, v4⟩
end

/- martensite/martensitelaw03.Few -/
def b5_1 (x0 : List ((List (Int × Int)))) : (Int) → Ctl (Int) (Bool) := fun s1 =>
  if (decide (s1 < (x0.length : Int))) = true then
   if 0 ≤ s1 ∧ s1 < (x0.length : Int) then
    if (decide (((x0.getD s1.toNat default).length : Int) > 8)) = true then
     .out (some false)
     else .next (IntKind.i64.wrap (s1 + 1))
    else .out none
   else .out (some true)
def r5 (x2 : Int) (x3 : Int) (x1 : List (Int × Int)) (x0 : List ((List (Int × Int)))) : Option (Bool) :=
  if ((decide ((x1.length : Int) > 10)) || (decide ((x0.length : Int) > 6))) = true then
   some false
   else iterC (b5_1 x0) 1000000000 0
def T5 : TSpec qA12 := mkT qE12 qd12 (fun ⟨x2, x3, x1, x0⟩ => r5 x2 x3 x1 x0) qu1 false
theorem TP5 (c0 c1 c2 c3 : D) : T5.sp.pre [.agg [c0, c1, c2, c3]] = (eqvArgs (qt12 c0 c1 c2 c3) (qp12 qw12 c0 c1 c2 c3) ∧ (qp12 r5 c0 c1 c2 c3).isSome = true) := (rfl)
theorem TR5 (c0 c1 c2 c3 : D) : T5.sp.res [.agg [c0, c1, c2, c3]] = qu1 ((qp12 r5 c0 c1 c2 c3).getD default) := (rfl)
theorem TA5 : T5.sp.alias = false := (rfl)
def tb5 : Fns := lk []
theorem tb5_ok : FnsOk Tryz.prog tb5 := FnsOk.nil
theorem lt5_0 : (IntKind.i64.wrap (0 + 1)) = 1 := by first | rfl | decide | simp
attribute [go_sem] TP5 TR5 TA5
section
attribute [local go_sem] T5 Tryz.results5 lt5_0
theorem v5 : Valid Tryz.prog 5 T5.sp := by
 refine valid_t (fn := Tryz.f5) (n := 28) ty_ok tb5_ok Tryz.func5 rfl Tryz.ntmps5 ?_
 rintro ⟨x2, x3, x1, x0⟩ hx
 obtain ⟨r, hr⟩ := oE (show (r5 x2 x3 x1 x0).isSome = true from hx)
 have hres : T5.res (x2, x3, x1, x0) = qu1 r := by simp only [T5, mkT, hr, oG]
 refine ⟨nL rfl, fun stop S => ?_⟩
 rw [hres] at S
 unfold r5 at hr
 refine S.gx [] ?_
 repeat (first | refine gA ?_ | refine gB ?_)
 refine ⟨?_, ?_⟩ <;> intro hc
 ·have hr := ifP hr hc
  repeat refine gA ?_
  cases hr
  exact lf
 ·have hr := ifN hr hc
  repeat refine gA ?_
  refine S.sees [1, 3] [(1, 1)] [] ?_ (Stop.iter S (fun s1 => ⟨[(1, .c (.ref 1 0)), (3, .c (.d (.int .i64 s1)))], [(1, [.d (.int .i64 x2), .d (.int .i64 x3), .d (encF 2 d_II x1), .d (encF 1 d_LIIE x0)])], []⟩) (b5_1 x0) (fun q => q = r) hr rfl ?_)
  ·exact lf
  ·intro s1 hr
   unfold b5_1 at hr
   refine S.gx [] ?_
   repeat refine gA ?_
   refine ⟨?_, ?_⟩ <;> intro hc
   ·have hr := ifP1 hr hc
    obtain ⟨hg1, hr⟩ := of_guard1 hr
    repeat refine gA ?_
    refine ⟨?_, ?_⟩ <;> intro hc
    ·have hr := ifP1 hr hc
     repeat refine gA ?_
     have hr := of_out0 hr
     cases hr
     exact lf
    ·have hr := ifN1 hr hc
     repeat refine gA ?_
     refine S.sees [1, 3] [(1, 1)] [] ?_ hr
     exact lf
   ·have hr := ifN1 hr hc
    repeat refine gA ?_
    have hr := of_out0 hr
    repeat refine gA ?_
    cases hr
    exact lf
theorem f5 : FnFact Tryz.prog 5 T5.sp := ⟨⟨Tryz.f5, Tryz.func5, by decide, rfl⟩, v5⟩
end

/- martensite/martensiteref03.CopySetup -/
def b7_1 (x2 : Int) (x3 : Int) (x1 : List (Int × Int)) (x0 : List ((List (Int × Int)))) : (Int × (List ((List (Int × Int))))) → Ctl (Int × (List ((List (Int × Int))))) (Int × Int × (List (Int × Int)) × (List ((List (Int × Int))))) := fun s1 =>
  if (decide (s1.1 < (x0.length : Int))) = true then
   if 0 ≤ s1.1 ∧ s1.1 < (x0.length : Int) then
    if (0 + (x0.getD s1.1.toNat default).length) * 16 ≤ 140737488355328 ∧ 0 + (x0.getD s1.1.toNat default).length ≤ 9223372036854775807 then
     if (s1.2.length + 1) * 24 ≤ 140737488355328 ∧ s1.2.length + 1 ≤ 9223372036854775807 then
      .next (IntKind.i64.wrap (s1.1 + 1), s1.2 ++ [(x0.getD s1.1.toNat default)])
      else .out none
     else .out none
    else .out none
   else .out (some (x2, x3, x1, s1.2))
def r7 (x2 : Int) (x3 : Int) (x1 : List (Int × Int)) (x0 : List ((List (Int × Int)))) : Option (Int × Int × (List (Int × Int)) × (List ((List (Int × Int))))) :=
  if (0 + x1.length) * 16 ≤ 140737488355328 ∧ 0 + x1.length ≤ 9223372036854775807 then
   iterC (b7_1 x2 x3 x1 x0) 1000000000 (0, [])
   else none
def T7 : TSpec qA12 := mkT qE12 qd12 (fun ⟨x2, x3, x1, x0⟩ => r7 x2 x3 x1 x0) qu0 true
theorem TP7 (c0 c1 c2 c3 : D) : T7.sp.pre [.agg [c0, c1, c2, c3]] = (eqvArgs (qt12 c0 c1 c2 c3) (qp12 qw12 c0 c1 c2 c3) ∧ (qp12 r7 c0 c1 c2 c3).isSome = true) := (rfl)
theorem TR7 (c0 c1 c2 c3 : D) : T7.sp.res [.agg [c0, c1, c2, c3]] = qu0 ((qp12 r7 c0 c1 c2 c3).getD default) := (rfl)
theorem TA7 : T7.sp.alias = true := (rfl)
def tb7 : Fns := lk []
theorem tb7_ok : FnsOk Tryz.prog tb7 := FnsOk.nil
theorem lt7_0 : (IntKind.i64.wrap (0 + 1)) = 1 := by first | rfl | decide | simp
attribute [go_sem] TP7 TR7 TA7
section
attribute [local go_sem] T7 Tryz.results7 lt7_0
theorem v7 : Valid Tryz.prog 7 T7.sp := by
 refine valid_t (fn := Tryz.f7) (n := 32) ty_ok tb7_ok Tryz.func7 rfl Tryz.ntmps7 ?_
 rintro ⟨x2, x3, x1, x0⟩ hx
 obtain ⟨r, hr⟩ := oE (show (r7 x2 x3 x1 x0).isSome = true from hx)
 have hres : T7.res (x2, x3, x1, x0) = qu0 r := by simp only [T7, mkT, hr, oG]
 refine ⟨nL rfl, fun stop S => ?_⟩
 rw [hres] at S
 unfold r7 at hr
 refine S.gx [] ?_
 obtain ⟨hg4, hr⟩ := of_guard0 hr
 repeat refine gA ?_
 refine S.own0b 3 3 2000303 1 rfl rfl (nL rfl) rfl ?_
 refine S.sees [1, 2, 3, 4] [(1, 1), (2, 2), (3, 3)] [(2000303, 2000303), (9, 9)] ?_ (Stop.iter S (fun s1 => ⟨[(1, .c (.ref 1 0)), (2, .c (.ref 2 0)), (3, .c (.ref 3 0)), (4, .c (.d (.int .i64 s1.1)))], [(1, [.d (.int .i64 x2), .d (.int .i64 x3), .d (encF 2 d_II x1), .d (encF 1 d_LIIE x0)]), (2, [.d (.int .i64 0), .d (.int .i64 0), .nils, .nils]), (3, [.d (.int .i64 x2), .d (.int .i64 x3), .own 9, .own 2000303])], [(2000303, .owned (encF 1 d_LIIE s1.2)), (9, .owned (encF 2 d_II x1))]⟩) (b7_1 x2 x3 x1 x0) (fun q => q = r) hr rfl ?_)
 ·exact lf
 ·intro s1 hr
  unfold b7_1 at hr
  refine S.gx [] ?_
  repeat refine gA ?_
  refine ⟨?_, ?_⟩ <;> intro hc
  ·have hr := ifP1 hr hc
   obtain ⟨hg1, hr⟩ := of_guard1 hr
   obtain ⟨hg2, hr⟩ := of_guard1 hr
   obtain ⟨hg3, hr⟩ := of_guard1 hr
   repeat refine gA ?_
   refine S.sees [1, 2, 3, 4] [(1, 1), (2, 2), (3, 3)] [(29, 2000303), (9, 9)] ?_ hr
   exact lf
  ·have hr := ifN1 hr hc
   repeat refine gA ?_
   have hr := of_out0 hr
   repeat refine gA ?_
   cases hr
   exact lf
theorem f7 : FnFact Tryz.prog 7 T7.sp := ⟨⟨Tryz.f7, Tryz.func7, by decide, rfl⟩, v7⟩
end
end Go.Proofs.YtefijdjbhjdhdaaGreatDoor

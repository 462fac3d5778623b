/- Contracts of functions, written by wip/dec. -/
import Derived.Test.YtefijdjbhjdhdaaGreatDoorF00
import Derived.Test.YtefijdjbhjdhdaaGreatDoorF01
set_option linter.unusedVariables false
set_option linter.unusedSimpArgs false
set_option maxHeartbeats 4000000
set_option maxRecDepth 20000
namespace Go.Proofs.YtefijdjbhjdhdaaGreatDoor
open Go.Abs
abbrev qA13 := Int × Int × (List (Int × Int)) × (List ((List (Int × Int)))) × (List (Int × Int)) × (List ((List (Int × Int)))) × Int
def qw13 (a0 : Int) (a1 : Int) (a2 : List (Int × Int)) (a3 : List ((List (Int × Int)))) (a4 : List (Int × Int)) (a5 : List ((List (Int × Int)))) (a6 : Int) : List Arg := [.agg [.int .i64 a0, .int .i64 a1, encF 2 d_II a2, encF 1 d_LIIE a3, encF 2 d_II a4, encF 1 d_LIIE a5], .c (.int .i64 a6)]
def qE13 : qA13 → List Arg := fun ⟨a0, a1, a2, a3, a4, a5, a6⟩ => qw13 a0 a1 a2 a3 a4 a5 a6
def qd13 (a : List Arg) : qA13 := (dInt (aCell a 0 0), dInt (aCell a 0 1), decF g_II (aCell a 0 2), decF g_LIIE (aCell a 0 3), decF g_II (aCell a 0 4), decF g_LIIE (aCell a 0 5), dInt (aCell a 1 0))
def qp13 {β : Type} (f : Int → Int → (List (Int × Int)) → (List ((List (Int × Int)))) → (List (Int × Int)) → (List ((List (Int × Int)))) → Int → β) (c0 c1 c2 c3 c4 c5 c6 : D) : β := f (dInt c0) (dInt c1) (decF g_II c2) (decF g_LIIE c3) (decF g_II c4) (decF g_LIIE c5) (dInt c6)
def qt13 (c0 c1 c2 c3 c4 c5 c6 : D) : List Arg := [.agg [c0, c1, c2, c3, c4, c5], .c c6]
attribute [go_sem] qw13 qp13 qt13 qE13
abbrev qA15 := (List (Int)) × Int × Int × (List (Int × Int)) × (List ((List (Int × Int)))) × (List (Int × Int)) × (List ((List (Int × Int))))
def qw15 (a0 : List (Int)) (a1 : Int) (a2 : Int) (a3 : List (Int × Int)) (a4 : List ((List (Int × Int)))) (a5 : List (Int × Int)) (a6 : List ((List (Int × Int)))) : List Arg := [.c (encF 1 d_I a0), .clo 100 [[.int .i64 a1, .int .i64 a2, encF 2 d_II a3, encF 1 d_LIIE a4, encF 2 d_II a5, encF 1 d_LIIE a6]]]
def qE15 : qA15 → List Arg := fun ⟨a0, a1, a2, a3, a4, a5, a6⟩ => qw15 a0 a1 a2 a3 a4 a5 a6
def qd15 (a : List Arg) : qA15 := (decF g_I (aCell a 0 0), dInt (aCell a 1 0), dInt (aCell a 1 1), decF g_II (aCell a 1 2), decF g_LIIE (aCell a 1 3), decF g_II (aCell a 1 4), decF g_LIIE (aCell a 1 5))
def qp15 {β : Type} (f : (List (Int)) → Int → Int → (List (Int × Int)) → (List ((List (Int × Int)))) → (List (Int × Int)) → (List ((List (Int × Int)))) → β) (c0 c1 c2 c3 c4 c5 c6 : D) : β := f (decF g_I c0) (dInt c1) (dInt c2) (decF g_II c3) (decF g_LIIE c4) (decF g_II c5) (decF g_LIIE c6)
def qt15 (c0 c1 c2 c3 c4 c5 c6 : D) : List Arg := [.c c0, .clo 100 [[c1, c2, c3, c4, c5, c6]]]
attribute [go_sem] qw15 qp15 qt15 qE15
abbrev qA16 := Int × Int × (List (Int × Int)) × (List ((List (Int × Int)))) × (List (Int × Int)) × (List ((List (Int × Int)))) × (List (Int))
def qw16 (a0 : Int) (a1 : Int) (a2 : List (Int × Int)) (a3 : List ((List (Int × Int)))) (a4 : List (Int × Int)) (a5 : List ((List (Int × Int)))) (a6 : List (Int)) : List Arg := [.agg [.int .i64 a0, .int .i64 a1, encF 2 d_II a2, encF 1 d_LIIE a3, encF 2 d_II a4, encF 1 d_LIIE a5], .c (encF 1 d_I a6)]
def qE16 : qA16 → List Arg := fun ⟨a0, a1, a2, a3, a4, a5, a6⟩ => qw16 a0 a1 a2 a3 a4 a5 a6
def qd16 (a : List Arg) : qA16 := (dInt (aCell a 0 0), dInt (aCell a 0 1), decF g_II (aCell a 0 2), decF g_LIIE (aCell a 0 3), decF g_II (aCell a 0 4), decF g_LIIE (aCell a 0 5), decF g_I (aCell a 1 0))
def qp16 {β : Type} (f : Int → Int → (List (Int × Int)) → (List ((List (Int × Int)))) → (List (Int × Int)) → (List ((List (Int × Int)))) → (List (Int)) → β) (c0 c1 c2 c3 c4 c5 c6 : D) : β := f (dInt c0) (dInt c1) (decF g_II c2) (decF g_LIIE c3) (decF g_II c4) (decF g_LIIE c5) (decF g_I c6)
def qt16 (c0 c1 c2 c3 c4 c5 c6 : D) : List Arg := [.agg [c0, c1, c2, c3, c4, c5], .c c6]
attribute [go_sem] qw16 qp16 qt16 qE16
abbrev qA17 := Int × Int × (List (Int × Int)) × (List ((List (Int × Int)))) × (List (Int))
def qw17 (a0 : Int) (a1 : Int) (a2 : List (Int × Int)) (a3 : List ((List (Int × Int)))) (a4 : List (Int)) : List Arg := [.agg [.int .i64 a0, .int .i64 a1, encF 2 d_II a2, encF 1 d_LIIE a3], .c (encF 1 d_I a4)]
def qE17 : qA17 → List Arg := fun ⟨a0, a1, a2, a3, a4⟩ => qw17 a0 a1 a2 a3 a4
def qd17 (a : List Arg) : qA17 := (dInt (aCell a 0 0), dInt (aCell a 0 1), decF g_II (aCell a 0 2), decF g_LIIE (aCell a 0 3), decF g_I (aCell a 1 0))
def qp17 {β : Type} (f : Int → Int → (List (Int × Int)) → (List ((List (Int × Int)))) → (List (Int)) → β) (c0 c1 c2 c3 c4 : D) : β := f (dInt c0) (dInt c1) (decF g_II c2) (decF g_LIIE c3) (decF g_I c4)
def qt17 (c0 c1 c2 c3 c4 : D) : List Arg := [.agg [c0, c1, c2, c3], .c c4]
attribute [go_sem] qw17 qp17 qt17 qE17
abbrev qA18 := (List (Int))
def qw18 (a0 : List (Int)) : List Arg := [.c (encF 1 d_I a0), .clo 71 []]
def qE18 : qA18 → List Arg := qw18
def qd18 (a : List Arg) : qA18 := decF g_I (aCell a 0 0)
def qp18 {β : Type} (f : (List (Int)) → β) (c0 : D) : β := f (decF g_I c0)
def qt18 (c0 : D) : List Arg := [.c c0, .clo 71 []]
attribute [go_sem] qw18 qp18 qt18 qE18
abbrev qA19 := Int × Int × (List (Int × Int)) × (List ((List (Int × Int)))) × (List (Int × Int)) × (List ((List (Int × Int)))) × (List (Int)) × Int
def qw19 (a0 : Int) (a1 : Int) (a2 : List (Int × Int)) (a3 : List ((List (Int × Int)))) (a4 : List (Int × Int)) (a5 : List ((List (Int × Int)))) (a6 : List (Int)) (a7 : Int) : List Arg := [.agg [.int .i64 a0, .int .i64 a1, encF 2 d_II a2, encF 1 d_LIIE a3, encF 2 d_II a4, encF 1 d_LIIE a5], .agg [encF 1 d_I a6, .int .i64 a7]]
def qE19 : qA19 → List Arg := fun ⟨a0, a1, a2, a3, a4, a5, a6, a7⟩ => qw19 a0 a1 a2 a3 a4 a5 a6 a7
def qd19 (a : List Arg) : qA19 := (dInt (aCell a 0 0), dInt (aCell a 0 1), decF g_II (aCell a 0 2), decF g_LIIE (aCell a 0 3), decF g_II (aCell a 0 4), decF g_LIIE (aCell a 0 5), decF g_I (aCell a 1 0), dInt (aCell a 1 1))
def qp19 {β : Type} (f : Int → Int → (List (Int × Int)) → (List ((List (Int × Int)))) → (List (Int × Int)) → (List ((List (Int × Int)))) → (List (Int)) → Int → β) (c0 c1 c2 c3 c4 c5 c6 c7 : D) : β := f (dInt c0) (dInt c1) (decF g_II c2) (decF g_LIIE c3) (decF g_II c4) (decF g_LIIE c5) (decF g_I c6) (dInt c7)
def qt19 (c0 c1 c2 c3 c4 c5 c6 c7 : D) : List Arg := [.agg [c0, c1, c2, c3, c4, c5], .agg [c6, c7]]
attribute [go_sem] qw19 qp19 qt19 qE19
/- martensite/heat.open -/
def b68_1 (x2 : Int) (x3 : Int) (x1 : List (Int × Int)) (x0 : List ((List (Int × Int)))) (v2 : (List (Int × Int))) : (Int × (List ((List (Int × Int))))) → Ctl (Int × (List ((List (Int × Int))))) (Int × Int × (List (Int × Int)) × (List ((List (Int × Int)))) × (List (Int × Int)) × (List ((List (Int × Int)))) × Int) := fun s1 =>
  if (decide (s1.1 < (x0.length : Int))) = true then
   if 0 ≤ s1.1 ∧ s1.1 < (x0.length : Int) then
    bindC (r25 (x0.getD s1.1.toNat default)) fun v3 =>
     if (s1.2.length + 1) * 24 ≤ 140737488355328 ∧ s1.2.length + 1 ≤ 9223372036854775807 then
      .next (IntKind.i64.wrap (s1.1 + 1), s1.2 ++ [v3])
      else .out none
    else .out none
   else .out (some (x2, x3, x1, x0, v2, s1.2, 0))
def r68 (x2 : Int) (x3 : Int) (x1 : List (Int × Int)) (x0 : List ((List (Int × Int)))) : Option (Int × Int × (List (Int × Int)) × (List ((List (Int × Int)))) × (List (Int × Int)) × (List ((List (Int × Int)))) × Int) :=
  (r31 x2 x3 x1 x0).bind fun v1 =>
   if (v1.2 != 0) = true then
    some (0, 0, [], [], [], [], v1.2)
    else (r24 x1).bind fun v2 =>
     iterC (b68_1 x2 x3 x1 x0 v2) 1000000000 (0, [])
def T68 : TSpec qA12 := mkT qE12 qd12 (fun ⟨x2, x3, x1, x0⟩ => r68 x2 x3 x1 x0) qu7 true
theorem TP68 (c0 c1 c2 c3 : D) : T68.sp.pre [.agg [c0, c1, c2, c3]] = (eqvArgs (qt12 c0 c1 c2 c3) (qp12 qw12 c0 c1 c2 c3) ∧ (qp12 r68 c0 c1 c2 c3).isSome = true) := (rfl)
theorem TR68 (c0 c1 c2 c3 : D) : T68.sp.res [.agg [c0, c1, c2, c3]] = qu7 ((qp12 r68 c0 c1 c2 c3).getD default) := (rfl)
theorem TA68 : T68.sp.alias = true := (rfl)
def tb68 : Fns := lk [(24, T24.sp), (25, T25.sp), (31, T31.sp)]
theorem tb68_ok : FnsOk Tryz.prog tb68 := .cons f24 (.cons f25 (.cons f31 (FnsOk.nil)))
theorem tb68_24 : tb68 24 = some T24.sp := rfl
theorem tb68_25 : tb68 25 = some T25.sp := rfl
theorem tb68_31 : tb68 31 = some T31.sp := rfl
theorem lt68_0 : (IntKind.i64.wrap (0 + 1)) = 1 := by first | rfl | decide | simp
attribute [go_sem] TP68 TR68 TA68
section
attribute [local go_sem] T68 tb68_24 tb68_25 tb68_31 Tryz.results68 lt68_0
theorem v68 : Valid Tryz.prog 68 T68.sp := by
 refine valid_t (fn := Tryz.f68) (n := 39) ty_ok tb68_ok Tryz.func68 rfl Tryz.ntmps68 ?_
 rintro ⟨x2, x3, x1, x0⟩ hx
 obtain ⟨r, hr⟩ := oE (show (r68 x2 x3 x1 x0).isSome = true from hx)
 have hres : T68.res (x2, x3, x1, x0) = qu7 r := by simp only [T68, mkT, hr, oG]
 refine ⟨nL rfl, fun stop S => ?_⟩
 rw [hres] at S
 unfold r68 at hr
 refine S.gx [] ?_
 obtain ⟨v1, hv1, hr⟩ := of_bind0 hr
 try simp only [hv1, oG, oI, true_and, and_assoc]
 repeat refine gA ?_
 refine ⟨?_, ?_⟩ <;> intro hc
 ·have hr := ifP hr hc
  repeat refine gA ?_
  cases hr
  exact lf
 ·have hr := ifN hr hc
  obtain ⟨v2, hv2, hr⟩ := of_bind0 hr
  try simp only [hv2, oG, oI, true_and, and_assoc]
  repeat refine gA ?_
  refine S.own0b 6 5 2000605 1 rfl rfl (nL rfl) rfl ?_
  refine S.sees [2, 6, 24, 25, 26] [(2, 2), (6, 6)] [(2000605, 2000605), (21, 21)] ?_ (Stop.iter S (fun s1 => ⟨[(2, .c (.ref 2 0)), (6, .c (.ref 6 0)), (24, .c (.d (encF 1 d_LIIE x0))), (25, .c (.d (.int .i64 (x0.length : Int)))), (26, .c (.d (.int .i64 s1.1)))], [(2, [.d (.int .i64 0), .d (.int .i64 0), .nils, .nils, .nils, .nils]), (6, [.d (.int .i64 x2), .d (.int .i64 x3), .d (encF 2 d_II x1), .d (encF 1 d_LIIE x0), .own 21, .own 2000605])], [(2000605, .owned (encF 1 d_LIIE s1.2)), (21, .owned (encF 2 d_II v2))]⟩) (b68_1 x2 x3 x1 x0 v2) (fun q => q = r) hr rfl ?_)
  ·exact lf
  ·intro s1 hr
   unfold b68_1 at hr
   refine S.gx [] ?_
   repeat refine gA ?_
   refine ⟨?_, ?_⟩ <;> intro hc
   ·have hr := ifP1 hr hc
    obtain ⟨hg4, hr⟩ := of_guard1 hr
    obtain ⟨v3, hv3, hr⟩ := of_bind1 hr
    obtain ⟨hg5, hr⟩ := of_guard1 hr
    try simp only [hv3, oG, oI, true_and, and_assoc]
    repeat refine gA ?_
    refine S.sees [2, 6, 24, 25, 26] [(2, 2), (6, 6)] [(35, 2000605), (21, 21)] ?_ hr
    exact lf
   ·have hr := ifN1 hr hc
    repeat refine gA ?_
    have hr := of_out0 hr
    repeat refine gA ?_
    cases hr
    exact lf
theorem f68 : FnFact Tryz.prog 68 T68.sp := ⟨⟨Tryz.f68, Tryz.func68, by decide, rfl⟩, v68⟩
end

/- (martensite/heat.part).isEnergy -/
def r78 (x1 : Int) (x2 : Int) (x3 : List (Int × Int)) (x4 : List ((List (Int × Int)))) (x0 : List (Int × Int)) (x5 : List ((List (Int × Int)))) (a1 : Int) : Option (Bool) :=
  if 0 ≤ 0 ∧ 0 < (x0.length : Int) then
   if 0 ≤ IntKind.i64.wrap ((x0.length : Int) - 1) ∧ IntKind.i64.wrap ((x0.length : Int) - 1) < (x0.length : Int) then
    (r47 a1 ((x0.getD 0 default).1) ((x0.getD (IntKind.i64.wrap ((x0.length : Int) - 1)).toNat default).1)).bind fun v1 =>
     some v1
    else none
   else none
def T78 : TSpec qA13 := mkT qE13 qd13 (fun ⟨x1, x2, x3, x4, x0, x5, a1⟩ => r78 x1 x2 x3 x4 x0 x5 a1) qu1 false
theorem TP78 (c0 c1 c2 c3 c4 c5 c6 : D) : T78.sp.pre [.agg [c0, c1, c2, c3, c4, c5], .c c6] = (eqvArgs (qt13 c0 c1 c2 c3 c4 c5 c6) (qp13 qw13 c0 c1 c2 c3 c4 c5 c6) ∧ (qp13 r78 c0 c1 c2 c3 c4 c5 c6).isSome = true) := (rfl)
theorem TR78 (c0 c1 c2 c3 c4 c5 c6 : D) : T78.sp.res [.agg [c0, c1, c2, c3, c4, c5], .c c6] = qu1 ((qp13 r78 c0 c1 c2 c3 c4 c5 c6).getD default) := (rfl)
theorem TA78 : T78.sp.alias = false := (rfl)
def tb78 : Fns := lk [(47, T47.sp)]
theorem tb78_ok : FnsOk Tryz.prog tb78 := .cons f47 (FnsOk.nil)
theorem tb78_47 : tb78 47 = some T47.sp := rfl
attribute [go_sem] TP78 TR78 TA78
section
attribute [local go_sem] T78 tb78_47 Tryz.results78
theorem v78 : Valid Tryz.prog 78 T78.sp := by
 refine valid_t (fn := Tryz.f78) (n := 21) ty_ok tb78_ok Tryz.func78 rfl Tryz.ntmps78 ?_
 rintro ⟨x1, x2, x3, x4, x0, x5, a1⟩ hx
 obtain ⟨r, hr⟩ := oE (show (r78 x1 x2 x3 x4 x0 x5 a1).isSome = true from hx)
 have hres : T78.res (x1, x2, x3, x4, x0, x5, a1) = qu1 r := by simp only [T78, mkT, hr, oG]
 refine ⟨nL rfl, fun stop S => ?_⟩
 rw [hres] at S
 unfold r78 at hr
 refine S.gx [] ?_
 obtain ⟨hg2, hr⟩ := of_guard0 hr
 obtain ⟨hg3, hr⟩ := of_guard0 hr
 obtain ⟨v1, hv1, hr⟩ := of_bind0 hr
 try simp only [hv1, oG, oI, true_and, and_assoc]
 repeat refine gA ?_
 cases hr
 exact lf
theorem f78 : FnFact Tryz.prog 78 T78.sp := ⟨⟨Tryz.f78, Tryz.func78, by decide, rfl⟩, v78⟩
end

/- (martensite/heat.part).stateErr$1 -/
def r100 (a0 : Int) (x0 : Int) (x1 : Int) (x2 : List (Int × Int)) (x3 : List ((List (Int × Int)))) (x4 : List (Int × Int)) (x5 : List ((List (Int × Int)))) : Option (Bool) :=
  (r78 x0 x1 x2 x3 x4 x5 a0).bind fun v1 =>
   some (!v1)
def T100 : TSpec qA14 := mkT qE14 qd14 (fun ⟨a0, x0, x1, x2, x3, x4, x5⟩ => r100 a0 x0 x1 x2 x3 x4 x5) qu1 false
theorem TP100 (c0 c1 c2 c3 c4 c5 c6 : D) : T100.sp.pre [.c c0, .ptr [c1, c2, c3, c4, c5, c6]] = (eqvArgs (qt14 c0 c1 c2 c3 c4 c5 c6) (qp14 qw14 c0 c1 c2 c3 c4 c5 c6) ∧ (qp14 r100 c0 c1 c2 c3 c4 c5 c6).isSome = true) := (rfl)
theorem TR100 (c0 c1 c2 c3 c4 c5 c6 : D) : T100.sp.res [.c c0, .ptr [c1, c2, c3, c4, c5, c6]] = qu1 ((qp14 r100 c0 c1 c2 c3 c4 c5 c6).getD default) := (rfl)
theorem TA100 : T100.sp.alias = false := (rfl)
def tb100 : Fns := lk [(78, T78.sp)]
theorem tb100_ok : FnsOk Tryz.prog tb100 := .cons f78 (FnsOk.nil)
theorem tb100_78 : tb100 78 = some T78.sp := rfl
attribute [go_sem] TP100 TR100 TA100
section
attribute [local go_sem] T100 tb100_78 Tryz.results100
theorem v100 : Valid Tryz.prog 100 T100.sp := by
 refine valid_t (fn := Tryz.f100) (n := 8) ty_ok tb100_ok Tryz.func100 rfl Tryz.ntmps100 ?_
 rintro ⟨a0, x0, x1, x2, x3, x4, x5⟩ hx
 obtain ⟨r, hr⟩ := oE (show (r100 a0 x0 x1 x2 x3 x4 x5).isSome = true from hx)
 have hres : T100.res (a0, x0, x1, x2, x3, x4, x5) = qu1 r := by simp only [T100, mkT, hr, oG]
 refine ⟨nL rfl, fun stop S => ?_⟩
 rw [hres] at S
 unfold r100 at hr
 refine S.gx [] ?_
 obtain ⟨v1, hv1, hr⟩ := of_bind0 hr
 try simp only [hv1, oG, oI, true_and, and_assoc]
 repeat refine gA ?_
 cases hr
 exact lf
theorem f100 : FnFact Tryz.prog 100 T100.sp := ⟨⟨Tryz.f100, Tryz.func100, by decide, rfl⟩, v100⟩
end

/- slices.IndexFunc[[]int,int] -/
def b82_1 (a0 : List (Int)) (x0 : Int) (x1 : Int) (x2 : List (Int × Int)) (x3 : List ((List (Int × Int)))) (x4 : List (Int × Int)) (x5 : List ((List (Int × Int)))) : (Int) → Ctl (Int) (Int) := fun s1 =>
  if (decide (s1 < (a0.length : Int))) = true then
   if 0 ≤ s1 ∧ s1 < (a0.length : Int) then
    bindC (r100 (a0.getD s1.toNat default) x0 x1 x2 x3 x4 x5) fun v1 =>
     if v1 = true then
      .out (some s1)
      else .next (IntKind.i64.wrap (s1 + 1))
    else .out none
   else .out (some (-1))
def r82 (a0 : List (Int)) (x0 : Int) (x1 : Int) (x2 : List (Int × Int)) (x3 : List ((List (Int × Int)))) (x4 : List (Int × Int)) (x5 : List ((List (Int × Int)))) : Option (Int) :=
  iterC (b82_1 a0 x0 x1 x2 x3 x4 x5) 1000000000 0
def T82 : TSpec qA15 := mkT qE15 qd15 (fun ⟨a0, x0, x1, x2, x3, x4, x5⟩ => r82 a0 x0 x1 x2 x3 x4 x5) qu2 false
theorem TP82 (c0 c1 c2 c3 c4 c5 c6 : D) : T82.sp.pre [.c c0, .clo 100 [[c1, c2, c3, c4, c5, c6]]] = (eqvArgs (qt15 c0 c1 c2 c3 c4 c5 c6) (qp15 qw15 c0 c1 c2 c3 c4 c5 c6) ∧ (qp15 r82 c0 c1 c2 c3 c4 c5 c6).isSome = true) := (rfl)
theorem TR82 (c0 c1 c2 c3 c4 c5 c6 : D) : T82.sp.res [.c c0, .clo 100 [[c1, c2, c3, c4, c5, c6]]] = qu2 ((qp15 r82 c0 c1 c2 c3 c4 c5 c6).getD default) := (rfl)
theorem TA82 : T82.sp.alias = false := (rfl)
def tb82 : Fns := lk [(100, T100.sp)]
theorem tb82_ok : FnsOk Tryz.prog tb82 := .cons f100 (FnsOk.nil)
theorem tb82_100 : tb82 100 = some T100.sp := rfl
theorem lt82_0 : (IntKind.i64.wrap (0 + 1)) = 1 := by first | rfl | decide | simp
attribute [go_sem] TP82 TR82 TA82
section
attribute [local go_sem] T82 tb82_100 Tryz.results82 lt82_0
theorem v82 : Valid Tryz.prog 82 T82.sp := by
 refine valid_t (fn := Tryz.f82) (n := 19) ty_ok tb82_ok Tryz.func82 rfl Tryz.ntmps82 ?_
 rintro ⟨a0, x0, x1, x2, x3, x4, x5⟩ hx
 obtain ⟨r, hr⟩ := oE (show (r82 a0 x0 x1 x2 x3 x4 x5).isSome = true from hx)
 have hres : T82.res (a0, x0, x1, x2, x3, x4, x5) = qu2 r := by simp only [T82, mkT, hr, oG]
 refine ⟨nL rfl, fun stop S => ?_⟩
 rw [hres] at S
 unfold r82 at hr
 refine S.gx [] ?_
 repeat refine gA ?_
 refine S.sees [0, 1, 7, 8] [] [] ?_ (Stop.iter S (fun s1 => ⟨[(0, .c (.d (encF 1 d_I a0))), (1, .c (.clo 100 [.sptr [.int .i64 x0, .int .i64 x1, encF 2 d_II x2, encF 1 d_LIIE x3, encF 2 d_II x4, encF 1 d_LIIE x5] 0])), (7, .c (.d (.int .i64 (a0.length : Int)))), (8, .c (.d (.int .i64 s1)))], [], []⟩) (b82_1 a0 x0 x1 x2 x3 x4 x5) (fun q => q = r) hr rfl ?_)
 ·exact lf
 ·intro s1 hr
  unfold b82_1 at hr
  refine S.gx [] ?_
  repeat refine gA ?_
  refine ⟨?_, ?_⟩ <;> intro hc
  ·have hr := ifP1 hr hc
   obtain ⟨hg2, hr⟩ := of_guard1 hr
   obtain ⟨v1, hv1, hr⟩ := of_bind1 hr
   try simp only [hv1, oG, oI, true_and, and_assoc]
   repeat refine gA ?_
   refine ⟨?_, ?_⟩ <;> intro hc
   ·have hr := ifP1 hr hc
    repeat refine gA ?_
    have hr := of_out0 hr
    cases hr
    exact lf
   ·have hr := ifN1 hr hc
    repeat refine gA ?_
    refine S.sees [0, 1, 7, 8] [] [] ?_ hr
    exact lf
  ·have hr := ifN1 hr hc
   repeat refine gA ?_
   have hr := of_out0 hr
   repeat refine gA ?_
   cases hr
   exact lf
theorem f82 : FnFact Tryz.prog 82 T82.sp := ⟨⟨Tryz.f82, Tryz.func82, by decide, rfl⟩, v82⟩
end

/- (martensite/heat.part).stateErr -/
def r69 (x0 : Int) (x1 : Int) (x2 : List (Int × Int)) (x3 : List ((List (Int × Int)))) (x4 : List (Int × Int)) (x5 : List ((List (Int × Int)))) (a1 : List (Int)) : Option (Int × Int) :=
  if ((a1.length : Int) != x0) = true then
   some (0, 10)
   else (r82 a1 x0 x1 x2 x3 x4 x5).bind fun v1 =>
    if (decide (v1 ≥ 0)) = true then
     some (v1, 2)
     else some (0, 0)
def T69 : TSpec qA16 := mkT qE16 qd16 (fun ⟨x0, x1, x2, x3, x4, x5, a1⟩ => r69 x0 x1 x2 x3 x4 x5 a1) qu3 false
theorem TP69 (c0 c1 c2 c3 c4 c5 c6 : D) : T69.sp.pre [.agg [c0, c1, c2, c3, c4, c5], .c c6] = (eqvArgs (qt16 c0 c1 c2 c3 c4 c5 c6) (qp16 qw16 c0 c1 c2 c3 c4 c5 c6) ∧ (qp16 r69 c0 c1 c2 c3 c4 c5 c6).isSome = true) := (rfl)
theorem TR69 (c0 c1 c2 c3 c4 c5 c6 : D) : T69.sp.res [.agg [c0, c1, c2, c3, c4, c5], .c c6] = qu3 ((qp16 r69 c0 c1 c2 c3 c4 c5 c6).getD default) := (rfl)
theorem TA69 : T69.sp.alias = false := (rfl)
def tb69 : Fns := lk [(82, T82.sp)]
theorem tb69_ok : FnsOk Tryz.prog tb69 := .cons f82 (FnsOk.nil)
theorem tb69_82 : tb69 82 = some T82.sp := rfl
attribute [go_sem] TP69 TR69 TA69
section
attribute [local go_sem] T69 tb69_82 Tryz.results69
theorem v69 : Valid Tryz.prog 69 T69.sp := by
 refine valid_t (fn := Tryz.f69) (n := 19) ty_ok tb69_ok Tryz.func69 rfl Tryz.ntmps69 ?_
 rintro ⟨x0, x1, x2, x3, x4, x5, a1⟩ hx
 obtain ⟨r, hr⟩ := oE (show (r69 x0 x1 x2 x3 x4 x5 a1).isSome = true from hx)
 have hres : T69.res (x0, x1, x2, x3, x4, x5, a1) = qu3 r := by simp only [T69, mkT, hr, oG]
 refine ⟨nL rfl, fun stop S => ?_⟩
 rw [hres] at S
 unfold r69 at hr
 refine S.gx [] ?_
 repeat refine gA ?_
 refine ⟨?_, ?_⟩ <;> intro hc
 ·have hr := ifP hr hc
  repeat refine gA ?_
  cases hr
  exact lf
 ·have hr := ifN hr hc
  obtain ⟨v1, hv1, hr⟩ := of_bind0 hr
  try simp only [hv1, oG, oI, true_and, and_assoc]
  repeat refine gA ?_
  refine ⟨?_, ?_⟩ <;> intro hc
  ·have hr := ifP hr hc
   repeat refine gA ?_
   cases hr
   exact lf
  ·have hr := ifN hr hc
   repeat refine gA ?_
   cases hr
   exact lf
theorem f69 : FnFact Tryz.prog 69 T69.sp := ⟨⟨Tryz.f69, Tryz.func69, by decide, rfl⟩, v69⟩
end

/- martensite/heat.openState -/
def r38 (x0 : Int) (x1 : Int) (x2 : List (Int × Int)) (x3 : List ((List (Int × Int)))) (a1 : List (Int)) : Option (Int × Int × (List (Int × Int)) × (List ((List (Int × Int)))) × (List (Int × Int)) × (List ((List (Int × Int)))) × Int) :=
  (r68 x0 x1 x2 x3).bind fun v1 =>
   if (v1.2.2.2.2.2.2 == 0) = true then
    (r69 v1.1 v1.2.1 v1.2.2.1 v1.2.2.2.1 v1.2.2.2.2.1 v1.2.2.2.2.2.1 a1).bind fun v2 =>
     some (v1.1, v1.2.1, v1.2.2.1, v1.2.2.2.1, v1.2.2.2.2.1, v1.2.2.2.2.2.1, v2.2)
    else some (v1.1, v1.2.1, v1.2.2.1, v1.2.2.2.1, v1.2.2.2.2.1, v1.2.2.2.2.2.1, v1.2.2.2.2.2.2)
def T38 : TSpec qA17 := mkT qE17 qd17 (fun ⟨x0, x1, x2, x3, a1⟩ => r38 x0 x1 x2 x3 a1) qu7 true
theorem TP38 (c0 c1 c2 c3 c4 : D) : T38.sp.pre [.agg [c0, c1, c2, c3], .c c4] = (eqvArgs (qt17 c0 c1 c2 c3 c4) (qp17 qw17 c0 c1 c2 c3 c4) ∧ (qp17 r38 c0 c1 c2 c3 c4).isSome = true) := (rfl)
theorem TR38 (c0 c1 c2 c3 c4 : D) : T38.sp.res [.agg [c0, c1, c2, c3], .c c4] = qu7 ((qp17 r38 c0 c1 c2 c3 c4).getD default) := (rfl)
theorem TA38 : T38.sp.alias = true := (rfl)
def tb38 : Fns := lk [(68, T68.sp), (69, T69.sp)]
theorem tb38_ok : FnsOk Tryz.prog tb38 := .cons f68 (.cons f69 (FnsOk.nil))
theorem tb38_68 : tb38 68 = some T68.sp := rfl
theorem tb38_69 : tb38 69 = some T69.sp := rfl
attribute [go_sem] TP38 TR38 TA38
section
attribute [local go_sem] T38 tb38_68 tb38_69 Tryz.results38
theorem v38 : Valid Tryz.prog 38 T38.sp := by
 refine valid_t (fn := Tryz.f38) (n := 23) ty_ok tb38_ok Tryz.func38 rfl Tryz.ntmps38 ?_
 rintro ⟨x0, x1, x2, x3, a1⟩ hx
 obtain ⟨r, hr⟩ := oE (show (r38 x0 x1 x2 x3 a1).isSome = true from hx)
 have hres : T38.res (x0, x1, x2, x3, a1) = qu7 r := by simp only [T38, mkT, hr, oG]
 refine ⟨nL rfl, fun stop S => ?_⟩
 rw [hres] at S
 unfold r38 at hr
 refine S.gx [] ?_
 obtain ⟨v1, hv1, hr⟩ := of_bind0 hr
 try simp only [hv1, oG, oI, true_and, and_assoc]
 repeat refine gA ?_
 refine ⟨?_, ?_⟩ <;> intro hc
 ·have hr := ifP hr hc
  obtain ⟨v2, hv2, hr⟩ := of_bind0 hr
  try simp only [hv2, oG, oI, true_and, and_assoc]
  repeat refine gA ?_
  cases hr
  exact lf
 ·have hr := ifN hr hc
  repeat refine gA ?_
  cases hr
  exact lf
theorem f38 : FnFact Tryz.prog 38 T38.sp := ⟨⟨Tryz.f38, Tryz.func38, by decide, rfl⟩, v38⟩
end

/- martensite/heat.isPower -/
def r72 (a0 : Int) : Option (Bool) :=
  (r47 a0 0 10000).bind fun v1 =>
   some v1
def T72 : TSpec qA4 := mkT qE4 qd4 r72 qu1 false
theorem TP72 (c0 : D) : T72.sp.pre [.c c0] = (eqvArgs (qt4 c0) (qp4 qw4 c0) ∧ (qp4 r72 c0).isSome = true) := (rfl)
theorem TR72 (c0 : D) : T72.sp.res [.c c0] = qu1 ((qp4 r72 c0).getD default) := (rfl)
theorem TA72 : T72.sp.alias = false := (rfl)
def tb72 : Fns := lk [(47, T47.sp)]
theorem tb72_ok : FnsOk Tryz.prog tb72 := .cons f47 (FnsOk.nil)
theorem tb72_47 : tb72 47 = some T47.sp := rfl
attribute [go_sem] TP72 TR72 TA72
section
attribute [local go_sem] T72 tb72_47 Tryz.results72
theorem v72 : Valid Tryz.prog 72 T72.sp := by
 refine valid_t (fn := Tryz.f72) (n := 5) ty_ok tb72_ok Tryz.func72 rfl Tryz.ntmps72 ?_
 rintro a0 hx
 obtain ⟨r, hr⟩ := oE (show (r72 a0).isSome = true from hx)
 have hres : T72.res a0 = qu1 r := by simp only [T72, mkT, hr, oG]
 refine ⟨nL rfl, fun stop S => ?_⟩
 rw [hres] at S
 unfold r72 at hr
 refine S.gx [] ?_
 obtain ⟨v1, hv1, hr⟩ := of_bind0 hr
 try simp only [hv1, oG, oI, true_and, and_assoc]
 repeat refine gA ?_
 cases hr
 exact lf
theorem f72 : FnFact Tryz.prog 72 T72.sp := ⟨⟨Tryz.f72, Tryz.func72, by decide, rfl⟩, v72⟩
end

/- (martensite/heat.part).driveErr$1 -/
def r71 (a0 : Int) : Option (Bool) :=
  (r72 a0).bind fun v1 =>
   some (!v1)
def T71 : TSpec qA4 := mkT qE4 qd4 r71 qu1 false
theorem TP71 (c0 : D) : T71.sp.pre [.c c0] = (eqvArgs (qt4 c0) (qp4 qw4 c0) ∧ (qp4 r71 c0).isSome = true) := (rfl)
theorem TR71 (c0 : D) : T71.sp.res [.c c0] = qu1 ((qp4 r71 c0).getD default) := (rfl)
theorem TA71 : T71.sp.alias = false := (rfl)
def tb71 : Fns := lk [(72, T72.sp)]
theorem tb71_ok : FnsOk Tryz.prog tb71 := .cons f72 (FnsOk.nil)
theorem tb71_72 : tb71 72 = some T72.sp := rfl
attribute [go_sem] TP71 TR71 TA71
section
attribute [local go_sem] T71 tb71_72 Tryz.results71
theorem v71 : Valid Tryz.prog 71 T71.sp := by
 refine valid_t (fn := Tryz.f71) (n := 6) ty_ok tb71_ok Tryz.func71 rfl Tryz.ntmps71 ?_
 rintro a0 hx
 obtain ⟨r, hr⟩ := oE (show (r71 a0).isSome = true from hx)
 have hres : T71.res a0 = qu1 r := by simp only [T71, mkT, hr, oG]
 refine ⟨nL rfl, fun stop S => ?_⟩
 rw [hres] at S
 unfold r71 at hr
 refine S.gx [] ?_
 obtain ⟨v1, hv1, hr⟩ := of_bind0 hr
 try simp only [hv1, oG, oI, true_and, and_assoc]
 repeat refine gA ?_
 cases hr
 exact lf
theorem f71 : FnFact Tryz.prog 71 T71.sp := ⟨⟨Tryz.f71, Tryz.func71, by decide, rfl⟩, v71⟩
end

/- slices.IndexFunc[[]int,int] -/
def b82a_1 (a0 : List (Int)) : (Int) → Ctl (Int) (Int) := fun s1 =>
  if (decide (s1 < (a0.length : Int))) = true then
   if 0 ≤ s1 ∧ s1 < (a0.length : Int) then
    bindC (r71 (a0.getD s1.toNat default)) fun v1 =>
     if v1 = true then
      .out (some s1)
      else .next (IntKind.i64.wrap (s1 + 1))
    else .out none
   else .out (some (-1))
def r82a (a0 : List (Int)) : Option (Int) :=
  iterC (b82a_1 a0) 1000000000 0
def T82a : TSpec qA18 := mkT qE18 qd18 r82a qu2 false
theorem TP82a (c0 : D) : T82a.sp.pre [.c c0, .clo 71 []] = (eqvArgs (qt18 c0) (qp18 qw18 c0) ∧ (qp18 r82a c0).isSome = true) := (rfl)
theorem TR82a (c0 : D) : T82a.sp.res [.c c0, .clo 71 []] = qu2 ((qp18 r82a c0).getD default) := (rfl)
theorem TA82a : T82a.sp.alias = false := (rfl)
def tb82a : Fns := lk [(71, T71.sp)]
theorem tb82a_ok : FnsOk Tryz.prog tb82a := .cons f71 (FnsOk.nil)
theorem tb82a_71 : tb82a 71 = some T71.sp := rfl
theorem lt82a_0 : (IntKind.i64.wrap (0 + 1)) = 1 := by first | rfl | decide | simp
attribute [go_sem] TP82a TR82a TA82a
section
attribute [local go_sem] T82a tb82a_71 Tryz.results82 lt82a_0
theorem v82a : Valid Tryz.prog 82 T82a.sp := by
  refine valid_t (fn := Tryz.f82) (n := 19) ty_ok tb82a_ok Tryz.func82 rfl Tryz.ntmps82 ?_
  rintro a0 hx
  obtain ⟨r, hr⟩ := oE (show (r82a a0).isSome = true from hx)
  have hres : T82a.res a0 = qu2 r := by simp only [T82a, mkT, hr, oG]
  refine ⟨nL rfl, fun stop S => ?_⟩
  rw [hres] at S
  unfold r82a at hr
  refine S.gx [] ?_
  repeat refine gA ?_
  refine S.sees [0, 1, 7, 8] [] [] ?_ (Stop.iter S (fun s1 => ⟨[(0, .c (.d (encF 1 d_I a0))), (1, .c (.clo 71 [])), (7, .c (.d (.int .i64 (a0.length : Int)))), (8, .c (.d (.int .i64 s1)))], [], []⟩) (b82a_1 a0) (fun q => q = r) hr rfl ?_)
  · exact lf
  · intro s1 hr
    unfold b82a_1 at hr
    refine S.gx [] ?_
    repeat refine gA ?_
    refine ⟨fun hc => ?_, fun hc => ?_⟩
    · replace hr := ifP1 hr hc
      obtain ⟨hg2, hr⟩ := of_guard1 hr
      obtain ⟨v1, hv1, hr⟩ := of_bind1 hr
      try simp only [hv1, oG, oI, true_and, and_assoc]
      repeat refine gA ?_
      refine ⟨fun hc => ?_, fun hc => ?_⟩
      · replace hr := ifP1 hr hc
        repeat refine gA ?_
        have hr := of_out0 hr
        obtain rfl := Option.some.inj hr
        exact lf
      · replace hr := ifN1 hr hc
        repeat refine gA ?_
        refine S.sees [0, 1, 7, 8] [] [] ?_ hr
        exact lf
    · replace hr := ifN1 hr hc
      repeat refine gA ?_
      have hr := of_out0 hr
      repeat refine gA ?_
      obtain rfl := Option.some.inj hr
      exact lf
theorem f82a : FnFact Tryz.prog 82 T82a.sp := ⟨⟨Tryz.f82, Tryz.func82, by decide, rfl⟩, v82a⟩
end

/- slices.ContainsFunc[[]int,int] -/
def r70 (a0 : List (Int)) : Option (Bool) :=
  (r82a a0).bind fun v1 =>
   some (decide (v1 ≥ 0))
def T70 : TSpec qA18 := mkT qE18 qd18 r70 qu1 false
theorem TP70 (c0 : D) : T70.sp.pre [.c c0, .clo 71 []] = (eqvArgs (qt18 c0) (qp18 qw18 c0) ∧ (qp18 r70 c0).isSome = true) := (rfl)
theorem TR70 (c0 : D) : T70.sp.res [.c c0, .clo 71 []] = qu1 ((qp18 r70 c0).getD default) := (rfl)
theorem TA70 : T70.sp.alias = false := (rfl)
def tb70 : Fns := lk [(82, T82a.sp)]
theorem tb70_ok : FnsOk Tryz.prog tb70 := .cons f82a (FnsOk.nil)
theorem tb70_82 : tb70 82 = some T82a.sp := rfl
attribute [go_sem] TP70 TR70 TA70
section
attribute [local go_sem] T70 tb70_82 Tryz.results70
theorem v70 : Valid Tryz.prog 70 T70.sp := by
 refine valid_t (fn := Tryz.f70) (n := 9) ty_ok tb70_ok Tryz.func70 rfl Tryz.ntmps70 ?_
 rintro a0 hx
 obtain ⟨r, hr⟩ := oE (show (r70 a0).isSome = true from hx)
 have hres : T70.res a0 = qu1 r := by simp only [T70, mkT, hr, oG]
 refine ⟨nL rfl, fun stop S => ?_⟩
 rw [hres] at S
 unfold r70 at hr
 refine S.gx [] ?_
 obtain ⟨v1, hv1, hr⟩ := of_bind0 hr
 try simp only [hv1, oG, oI, true_and, and_assoc]
 repeat refine gA ?_
 cases hr
 exact lf
theorem f70 : FnFact Tryz.prog 70 T70.sp := ⟨⟨Tryz.f70, Tryz.func70, by decide, rfl⟩, v70⟩
end

/- (martensite/heat.part).lawIndexErr -/
def r73 (x1 : Int) (x2 : Int) (x3 : List (Int × Int)) (x4 : List ((List (Int × Int)))) (x5 : List (Int × Int)) (x0 : List ((List (Int × Int)))) (a1 : Int) : Option (Int) :=
  (r47 a1 0 (IntKind.i64.wrap ((x0.length : Int) - 1))).bind fun v1 =>
   (r48 v1 6).bind fun v2 =>
    some v2
def T73 : TSpec qA13 := mkT qE13 qd13 (fun ⟨x1, x2, x3, x4, x5, x0, a1⟩ => r73 x1 x2 x3 x4 x5 x0 a1) qu2 false
theorem TP73 (c0 c1 c2 c3 c4 c5 c6 : D) : T73.sp.pre [.agg [c0, c1, c2, c3, c4, c5], .c c6] = (eqvArgs (qt13 c0 c1 c2 c3 c4 c5 c6) (qp13 qw13 c0 c1 c2 c3 c4 c5 c6) ∧ (qp13 r73 c0 c1 c2 c3 c4 c5 c6).isSome = true) := (rfl)
theorem TR73 (c0 c1 c2 c3 c4 c5 c6 : D) : T73.sp.res [.agg [c0, c1, c2, c3, c4, c5], .c c6] = qu2 ((qp13 r73 c0 c1 c2 c3 c4 c5 c6).getD default) := (rfl)
theorem TA73 : T73.sp.alias = false := (rfl)
def tb73 : Fns := lk [(47, T47.sp), (48, T48.sp)]
theorem tb73_ok : FnsOk Tryz.prog tb73 := .cons f47 (.cons f48 (FnsOk.nil))
theorem tb73_47 : tb73 47 = some T47.sp := rfl
theorem tb73_48 : tb73 48 = some T48.sp := rfl
attribute [go_sem] TP73 TR73 TA73
section
attribute [local go_sem] T73 tb73_47 tb73_48 Tryz.results73
theorem v73 : Valid Tryz.prog 73 T73.sp := by
 refine valid_t (fn := Tryz.f73) (n := 12) ty_ok tb73_ok Tryz.func73 rfl Tryz.ntmps73 ?_
 rintro ⟨x1, x2, x3, x4, x5, x0, a1⟩ hx
 obtain ⟨r, hr⟩ := oE (show (r73 x1 x2 x3 x4 x5 x0 a1).isSome = true from hx)
 have hres : T73.res (x1, x2, x3, x4, x5, x0, a1) = qu2 r := by simp only [T73, mkT, hr, oG]
 refine ⟨nL rfl, fun stop S => ?_⟩
 rw [hres] at S
 unfold r73 at hr
 refine S.gx [] ?_
 obtain ⟨v1, hv1, hr⟩ := of_bind0 hr
 obtain ⟨v2, hv2, hr⟩ := of_bind0 hr
 try simp only [hv1, hv2, Option.getD_some, Option.isSome_some, true_and, and_assoc]
 repeat refine gA ?_
 cases hr
 exact lf
theorem f73 : FnFact Tryz.prog 73 T73.sp := ⟨⟨Tryz.f73, Tryz.func73, by decide, rfl⟩, v73⟩
end

/- (martensite/heat.part).driveErr -/
def r39 (x0 : Int) (x2 : Int) (x3 : List (Int × Int)) (x4 : List ((List (Int × Int)))) (x5 : List (Int × Int)) (x6 : List ((List (Int × Int)))) (x1 : List (Int)) (x7 : Int) : Option (Int) :=
  (r70 x1).bind fun v1 =>
   (r48 ((x1.length : Int) == x0) 10).bind fun v2 =>
    (r48 (!v1) 2).bind fun v3 =>
     (r73 x0 x2 x3 x4 x5 x6 x7).bind fun v4 =>
      (r44 [v2, v3, v4]).bind fun v5 =>
       some v5
def T39 : TSpec qA19 := mkT qE19 qd19 (fun ⟨x0, x2, x3, x4, x5, x6, x1, x7⟩ => r39 x0 x2 x3 x4 x5 x6 x1 x7) qu2 false
theorem TP39 (c0 c1 c2 c3 c4 c5 c6 c7 : D) : T39.sp.pre [.agg [c0, c1, c2, c3, c4, c5], .agg [c6, c7]] = (eqvArgs (qt19 c0 c1 c2 c3 c4 c5 c6 c7) (qp19 qw19 c0 c1 c2 c3 c4 c5 c6 c7) ∧ (qp19 r39 c0 c1 c2 c3 c4 c5 c6 c7).isSome = true) := (rfl)
theorem TR39 (c0 c1 c2 c3 c4 c5 c6 c7 : D) : T39.sp.res [.agg [c0, c1, c2, c3, c4, c5], .agg [c6, c7]] = qu2 ((qp19 r39 c0 c1 c2 c3 c4 c5 c6 c7).getD default) := (rfl)
theorem TA39 : T39.sp.alias = false := (rfl)
def tb39 : Fns := lk [(44, T44.sp), (48, T48.sp), (70, T70.sp), (73, T73.sp)]
theorem tb39_ok : FnsOk Tryz.prog tb39 := .cons f44 (.cons f48 (.cons f70 (.cons f73 (FnsOk.nil))))
theorem tb39_44 : tb39 44 = some T44.sp := rfl
theorem tb39_48 : tb39 48 = some T48.sp := rfl
theorem tb39_70 : tb39 70 = some T70.sp := rfl
theorem tb39_73 : tb39 73 = some T73.sp := rfl
attribute [go_sem] TP39 TR39 TA39
section
attribute [local go_sem] T39 tb39_44 tb39_48 tb39_70 tb39_73 Tryz.results39
theorem v39 : Valid Tryz.prog 39 T39.sp := by
 refine valid_t (fn := Tryz.f39) (n := 26) ty_ok tb39_ok Tryz.func39 rfl Tryz.ntmps39 ?_
 rintro ⟨x0, x2, x3, x4, x5, x6, x1, x7⟩ hx
 obtain ⟨r, hr⟩ := oE (show (r39 x0 x2 x3 x4 x5 x6 x1 x7).isSome = true from hx)
 have hres : T39.res (x0, x2, x3, x4, x5, x6, x1, x7) = qu2 r := by simp only [T39, mkT, hr, oG]
 refine ⟨nL rfl, fun stop S => ?_⟩
 rw [hres] at S
 unfold r39 at hr
 refine S.gx [] ?_
 obtain ⟨v1, hv1, hr⟩ := of_bind0 hr
 obtain ⟨v2, hv2, hr⟩ := of_bind0 hr
 obtain ⟨v3, hv3, hr⟩ := of_bind0 hr
 obtain ⟨v4, hv4, hr⟩ := of_bind0 hr
 obtain ⟨v5, hv5, hr⟩ := of_bind0 hr
 try simp only [hv1, hv2, hv3, hv4, hv5, Option.getD_some, Option.isSome_some, true_and, and_assoc]
 repeat refine gA ?_
 cases hr
 exact lf
theorem f39 : FnFact Tryz.prog 39 T39.sp := ⟨⟨Tryz.f39, Tryz.func39, by decide, rfl⟩, v39⟩
end

/- slices.Clone: by hand -/
def r74 (a0 : List (Int)) : Option (List (Int)) := if a0.length * 8 ≤ 140737488355328 ∧ a0.length ≤ 9223372036854775807 then some a0 else none
def T74 : TSpec (List (Int)) where
  enc x := [.c (encF 1 d_I x)]
  dec a := decF g_I (aCell a 0 0)
  pre x := (r74 x).isSome = true
  res x := [.c (.own (encF 1 d_I ((r74 x).getD default)))]
  al := false
theorem TP74 (c0 : D) : T74.sp.pre [.c c0] = (eqvArgs [.c c0] [.c (encF 1 d_I (decF g_I c0))] ∧ (r74 (decF g_I c0)).isSome = true) := (rfl)
theorem TR74 (c0 : D) : T74.sp.res [.c c0] = [.c (.own (encF 1 d_I ((r74 (decF g_I c0)).getD default)))] := (rfl)
theorem TA74 : T74.sp.alias = false := (rfl)
attribute [go_sem] TP74 TR74 TA74
theorem v74 : Valid Tryz.prog 74 T74.sp := by
 refine valid_t (fn := Tryz.f74) (n := 8) ty_ok FnsOk.nil Tryz.func74 rfl Tryz.ntmps74 ?_
 rintro a0 hx
 obtain ⟨r, hr⟩ := oE (show (r74 a0).isSome = true from hx)
 have hres : T74.res a0 = [.c (.own (encF 1 d_I r))] := by simp only [T74, hr, Option.getD_some]
 refine ⟨nL rfl, fun stop S => ?_⟩
 rw [hres] at S
 unfold r74 at hr
 obtain ⟨hg, hr⟩ := of_guard0 hr
 cases hr
 refine S.goB [1] 1000 ?_
 simp only [go_sem, T74, Bool.not_true, Bool.not_false, Option.map_some, Int.reduceToNat, Nat.reduceEqDiff, Nat.reduceBEq, Nat.reduceLT, Nat.reduceAdd, Nat.reduceMul, Nat.reduceSub, Nat.reduceLeDiff, ↓reduceIte, reduceCtorEq, Tryz.results74]
 refine S.eqnil 0 3 4 38 38 3 rfl rfl rfl rfl rfl rfl rfl rfl rfl rfl (by decide) (by decide) ?_
 intro b hb
 refine S.goB [] 1000 ?_
 simp only [go_sem, T74, Bool.not_true, Bool.not_false, Option.map_some, Int.reduceToNat, Nat.reduceEqDiff, Nat.reduceBEq, Nat.reduceLT, Nat.reduceAdd, Nat.reduceMul, Nat.reduceSub, Nat.reduceLeDiff, ↓reduceIte, reduceCtorEq, Tryz.results74]
 have hb' : b = true → a0.length = 0 := hb
 refine ⟨?_, ?_⟩ <;> intro hc
 ·simpa using hb' hc
 ·refine ⟨by omega, by omega, ?_⟩
  (simp (maxDischargeDepth := 8) [go_sem])
theorem f74 : FnFact Tryz.prog 74 T74.sp := ⟨⟨Tryz.f74, Tryz.func74, by decide, rfl⟩, v74⟩

/- (martensite/heat.part).kelvin -/
def r101 (x1 : Int) (x2 : Int) (x3 : List (Int × Int)) (x4 : List ((List (Int × Int)))) (x0 : List (Int × Int)) (x5 : List ((List (Int × Int)))) (a1 : Int) : Option (Int × Int) :=
  (r98 x0 a1 1).bind fun v1 =>
   some (v1.1, v1.2)
def T101 : TSpec qA13 := mkT qE13 qd13 (fun ⟨x1, x2, x3, x4, x0, x5, a1⟩ => r101 x1 x2 x3 x4 x0 x5 a1) qu6 false
theorem TP101 (c0 c1 c2 c3 c4 c5 c6 : D) : T101.sp.pre [.agg [c0, c1, c2, c3, c4, c5], .c c6] = (eqvArgs (qt13 c0 c1 c2 c3 c4 c5 c6) (qp13 qw13 c0 c1 c2 c3 c4 c5 c6) ∧ (qp13 r101 c0 c1 c2 c3 c4 c5 c6).isSome = true) := (rfl)
theorem TR101 (c0 c1 c2 c3 c4 c5 c6 : D) : T101.sp.res [.agg [c0, c1, c2, c3, c4, c5], .c c6] = qu6 ((qp13 r101 c0 c1 c2 c3 c4 c5 c6).getD default) := (rfl)
theorem TA101 : T101.sp.alias = false := (rfl)
def tb101 : Fns := lk [(98, T98.sp)]
theorem tb101_ok : FnsOk Tryz.prog tb101 := .cons f98 (FnsOk.nil)
theorem tb101_98 : tb101 98 = some T98.sp := rfl
attribute [go_sem] TP101 TR101 TA101
section
attribute [local go_sem] T101 tb101_98 Tryz.results101
theorem v101 : Valid Tryz.prog 101 T101.sp := by
 refine valid_t (fn := Tryz.f101) (n := 10) ty_ok tb101_ok Tryz.func101 rfl Tryz.ntmps101 ?_
 rintro ⟨x1, x2, x3, x4, x0, x5, a1⟩ hx
 obtain ⟨r, hr⟩ := oE (show (r101 x1 x2 x3 x4 x0 x5 a1).isSome = true from hx)
 have hres : T101.res (x1, x2, x3, x4, x0, x5, a1) = qu6 r := by simp only [T101, mkT, hr, oG]
 refine ⟨nL rfl, fun stop S => ?_⟩
 rw [hres] at S
 unfold r101 at hr
 refine S.gx [] ?_
 obtain ⟨v1, hv1, hr⟩ := of_bind0 hr
 try simp only [hv1, oG, oI, true_and, and_assoc]
 repeat refine gA ?_
 cases hr
 exact lf
theorem f101 : FnFact Tryz.prog 101 T101.sp := ⟨⟨Tryz.f101, Tryz.func101, by decide, rfl⟩, v101⟩
end

/- martensite/heat.floor -/
def r102 (a0 : Int) (a1 : Int) : Option (Int) :=
  if a1 ≠ 0 then
   if a1 ≠ 0 then
    if (decide ((a0.tmod a1) < 0)) = true then
     some (IntKind.i64.wrap ((IntKind.i64.wrap (a0.tdiv a1)) - 1))
     else some (IntKind.i64.wrap (a0.tdiv a1))
    else none
   else none
def T102 : TSpec qA7 := mkT qE7 qd7 (fun ⟨a0, a1⟩ => r102 a0 a1) qu2 false
theorem TP102 (c0 c1 : D) : T102.sp.pre [.c c0, .c c1] = (eqvArgs (qt7 c0 c1) (qp7 qw7 c0 c1) ∧ (qp7 r102 c0 c1).isSome = true) := (rfl)
theorem TR102 (c0 c1 : D) : T102.sp.res [.c c0, .c c1] = qu2 ((qp7 r102 c0 c1).getD default) := (rfl)
theorem TA102 : T102.sp.alias = false := (rfl)
def tb102 : Fns := lk []
theorem tb102_ok : FnsOk Tryz.prog tb102 := FnsOk.nil
attribute [go_sem] TP102 TR102 TA102
section
attribute [local go_sem] T102 Tryz.results102
theorem v102 : Valid Tryz.prog 102 T102.sp := by
 refine valid_t (fn := Tryz.f102) (n := 16) ty_ok tb102_ok Tryz.func102 rfl Tryz.ntmps102 ?_
 rintro ⟨a0, a1⟩ hx
 obtain ⟨r, hr⟩ := oE (show (r102 a0 a1).isSome = true from hx)
 have hres : T102.res (a0, a1) = qu2 r := by simp only [T102, mkT, hr, oG]
 refine ⟨nL rfl, fun stop S => ?_⟩
 rw [hres] at S
 unfold r102 at hr
 refine S.gx [] ?_
 obtain ⟨hg1, hr⟩ := of_guard0 hr
 obtain ⟨hg2, hr⟩ := of_guard0 hr
 repeat refine gA ?_
 refine ⟨?_, ?_⟩ <;> intro hc
 ·have hr := ifP hr hc
  repeat refine gA ?_
  cases hr
  exact lf
 ·have hr := ifN hr hc
  repeat refine gA ?_
  cases hr
  exact lf
theorem f102 : FnFact Tryz.prog 102 T102.sp := ⟨⟨Tryz.f102, Tryz.func102, by decide, rfl⟩, v102⟩
end

/- (martensite/heat.part).loss -/
def r76 (x1 : Int) (x2 : Int) (x3 : List (Int × Int)) (x4 : List ((List (Int × Int)))) (x5 : List (Int × Int)) (x0 : List ((List (Int × Int)))) (a1 : Int) (a2 : Int) : Option (Int) :=
  if 0 ≤ a1 ∧ a1 < (x0.length : Int) then
   (r101 x1 x2 x3 x4 x5 x0 a2).bind fun v1 =>
    (r98 (x0.getD a1.toNat default) v1.1 v1.2).bind fun v2 =>
     (r102 v2.1 v2.2).bind fun v3 =>
      some v3
   else none
def T76 : TSpec qA20 := mkT qE20 qd20 (fun ⟨x1, x2, x3, x4, x5, x0, a1, a2⟩ => r76 x1 x2 x3 x4 x5 x0 a1 a2) qu2 false
theorem TP76 (c0 c1 c2 c3 c4 c5 c6 c7 : D) : T76.sp.pre [.agg [c0, c1, c2, c3, c4, c5], .c c6, .c c7] = (eqvArgs (qt20 c0 c1 c2 c3 c4 c5 c6 c7) (qp20 qw20 c0 c1 c2 c3 c4 c5 c6 c7) ∧ (qp20 r76 c0 c1 c2 c3 c4 c5 c6 c7).isSome = true) := (rfl)
theorem TR76 (c0 c1 c2 c3 c4 c5 c6 c7 : D) : T76.sp.res [.agg [c0, c1, c2, c3, c4, c5], .c c6, .c c7] = qu2 ((qp20 r76 c0 c1 c2 c3 c4 c5 c6 c7).getD default) := (rfl)
theorem TA76 : T76.sp.alias = false := (rfl)
def tb76 : Fns := lk [(98, T98.sp), (101, T101.sp), (102, T102.sp)]
theorem tb76_ok : FnsOk Tryz.prog tb76 := .cons f98 (.cons f101 (.cons f102 (FnsOk.nil)))
theorem tb76_98 : tb76 98 = some T98.sp := rfl
theorem tb76_101 : tb76 101 = some T101.sp := rfl
theorem tb76_102 : tb76 102 = some T102.sp := rfl
attribute [go_sem] TP76 TR76 TA76
section
attribute [local go_sem] T76 tb76_98 tb76_101 tb76_102 Tryz.results76
theorem v76 : Valid Tryz.prog 76 T76.sp := by
 refine valid_t (fn := Tryz.f76) (n := 22) ty_ok tb76_ok Tryz.func76 rfl Tryz.ntmps76 ?_
 rintro ⟨x1, x2, x3, x4, x5, x0, a1, a2⟩ hx
 obtain ⟨r, hr⟩ := oE (show (r76 x1 x2 x3 x4 x5 x0 a1 a2).isSome = true from hx)
 have hres : T76.res (x1, x2, x3, x4, x5, x0, a1, a2) = qu2 r := by simp only [T76, mkT, hr, oG]
 refine ⟨nL rfl, fun stop S => ?_⟩
 rw [hres] at S
 unfold r76 at hr
 refine S.gx [] ?_
 obtain ⟨hg4, hr⟩ := of_guard0 hr
 obtain ⟨v1, hv1, hr⟩ := of_bind0 hr
 obtain ⟨v2, hv2, hr⟩ := of_bind0 hr
 obtain ⟨v3, hv3, hr⟩ := of_bind0 hr
 try simp only [hv1, hv2, hv3, Option.getD_some, Option.isSome_some, true_and, and_assoc]
 repeat refine gA ?_
 cases hr
 exact lf
theorem f76 : FnFact Tryz.prog 76 T76.sp := ⟨⟨Tryz.f76, Tryz.func76, by decide, rfl⟩, v76⟩
end
end Go.Proofs.YtefijdjbhjdhdaaGreatDoor

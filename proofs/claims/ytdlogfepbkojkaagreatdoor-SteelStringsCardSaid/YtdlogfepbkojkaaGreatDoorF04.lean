/- Contracts of functions, written by wip/dec. -/
import Derived.Test.YtdlogfepbkojkaaGreatDoorF00
import Derived.Test.YtdlogfepbkojkaaGreatDoorF01
import Derived.Test.YtdlogfepbkojkaaGreatDoorF02
import Derived.Test.YtdlogfepbkojkaaGreatDoorF03
set_option linter.unusedVariables false
set_option linter.unusedSimpArgs false
set_option maxHeartbeats 4000000
set_option maxRecDepth 20000
namespace Go.Proofs.YtdlogfepbkojkaaGreatDoor
open Go.Abs
abbrev qA28 := (List (Int × Int)) × Int
def qw28 (a0 : List (Int × Int)) (a1 : Int) : List Arg := [.c (encF 2 d_II a0), .c (.int .i64 a1)]
def qE28 : qA28 → List Arg := fun ⟨a0, a1⟩ => qw28 a0 a1
def qd28 (a : List Arg) : qA28 := (decF g_II (aCell a 0 0), dInt (aCell a 1 0))
def qp28 {β : Type} (f : (List (Int × Int)) → Int → β) (c0 c1 : D) : β := f (decF g_II c0) (dInt c1)
def qt28 (c0 c1 : D) : List Arg := [.c c0, .c c1]
attribute [go_sem] qw28 qp28 qt28 qE28
abbrev qA29 := (List (ByteArray)) × ByteArray
def qw29 (a0 : List (ByteArray)) (a1 : ByteArray) : List Arg := [.c (encF 1 d_S a0), .c (.str a1)]
def qE29 : qA29 → List Arg := fun ⟨a0, a1⟩ => qw29 a0 a1
def qd29 (a : List Arg) : qA29 := (decF g_S (aCell a 0 0), dStr (aCell a 1 0))
def qp29 {β : Type} (f : (List (ByteArray)) → ByteArray → β) (c0 c1 : D) : β := f (decF g_S c0) (dStr c1)
def qt29 (c0 c1 : D) : List Arg := [.c c0, .c c1]
attribute [go_sem] qw29 qp29 qt29 qE29
abbrev qA30 := ByteArray × ByteArray
def qw30 (a0 : ByteArray) (a1 : ByteArray) : List Arg := [.c (.str a0), .c (.str a1)]
def qE30 : qA30 → List Arg := fun ⟨a0, a1⟩ => qw30 a0 a1
def qd30 (a : List Arg) : qA30 := (dStr (aCell a 0 0), dStr (aCell a 1 0))
def qp30 {β : Type} (f : ByteArray → ByteArray → β) (c0 c1 : D) : β := f (dStr c0) (dStr c1)
def qt30 (c0 c1 : D) : List Arg := [.c c0, .c c1]
attribute [go_sem] qw30 qp30 qt30 qE30
def qu14 (v : Int × Int × Int) : List RV := [.agg [.d (.int .i64 v.1), .d (.int .i64 v.2.1)], .c (.d (.int .i64 v.2.2))]
attribute [go_sem] qu14
/- martensite/steel.BandOf -/
def r23 (x0 : List (Int × Int × Int × Int)) (x1 : List (Int × Int × Int × Int × Int)) (x2 : List (Int × Int × Int)) (x3 : List (Int × Int)) (x4 : Int) (x5 : Int) (x6 : Int) (x7 : Int) (x8 : Int) (x9 : Int) (x10 : Int) (x11 : Int) (x12 : Int) (x13 : Int) (x14 : Int) (x15 : Int) (x16 : Int) (x17 : Int) (x18 : Int) (x19 : Int) (x20 : Int) (x21 : Int) : Option (Int × Int × Int) :=
  (r34 x0 x1 x2 x3 x4 x5 x6 x7).bind fun v1 =>
   (r49 x8 x9 x10 x11 x12 x13 x14 x15 x16 x17 x18 x19 x20 x21).bind fun v2 =>
    (r44 [v1, v2]).bind fun v3 =>
     if (v3 != 0) = true then
      some (0, 0, v3)
      else (r50 x0 x1 x2 x3 x4 x5 x6 x7 x8 x9 x10 x11 x12 x13 x14 x15 x16 x17 x18 x19 x20 x21).bind fun v4 =>
       some (v4.1, v4.2, 0)
def T23 : TSpec qA27 := mkT qE27 qd27 (fun ⟨x0, x1, x2, x3, x4, x5, x6, x7, x8, x9, x10, x11, x12, x13, x14, x15, x16, x17, x18, x19, x20, x21⟩ => r23 x0 x1 x2 x3 x4 x5 x6 x7 x8 x9 x10 x11 x12 x13 x14 x15 x16 x17 x18 x19 x20 x21) qu14 false
theorem TP23 (c0 c1 c2 c3 c4 c5 c6 c7 c8 c9 c10 c11 c12 c13 c14 c15 c16 c17 c18 c19 c20 c21 : D) : T23.sp.pre [.agg [c0, c1, c2, c3, c4, c5, c6, c7], .agg [c8, c9, c10, c11, c12, c13, c14, c15, c16, c17, c18, c19, c20, c21]] = (eqvArgs (qt27 c0 c1 c2 c3 c4 c5 c6 c7 c8 c9 c10 c11 c12 c13 c14 c15 c16 c17 c18 c19 c20 c21) (qp27 qw27 c0 c1 c2 c3 c4 c5 c6 c7 c8 c9 c10 c11 c12 c13 c14 c15 c16 c17 c18 c19 c20 c21) ∧ (qp27 r23 c0 c1 c2 c3 c4 c5 c6 c7 c8 c9 c10 c11 c12 c13 c14 c15 c16 c17 c18 c19 c20 c21).isSome = true) := (rfl)
theorem TR23 (c0 c1 c2 c3 c4 c5 c6 c7 c8 c9 c10 c11 c12 c13 c14 c15 c16 c17 c18 c19 c20 c21 : D) : T23.sp.res [.agg [c0, c1, c2, c3, c4, c5, c6, c7], .agg [c8, c9, c10, c11, c12, c13, c14, c15, c16, c17, c18, c19, c20, c21]] = qu14 ((qp27 r23 c0 c1 c2 c3 c4 c5 c6 c7 c8 c9 c10 c11 c12 c13 c14 c15 c16 c17 c18 c19 c20 c21).getD default) := (rfl)
theorem TA23 : T23.sp.alias = false := (rfl)
def tb23 : Fns := lk [(34, T34.sp), (44, T44.sp), (49, T49.sp), (50, T50.sp)]
theorem tb23_ok : FnsOk Tryz.prog tb23 := .cons f34 (.cons f44 (.cons f49 (.cons f50 (FnsOk.nil))))
theorem tb23_34 : tb23 34 = some T34.sp := rfl
theorem tb23_44 : tb23 44 = some T44.sp := rfl
theorem tb23_49 : tb23 49 = some T49.sp := rfl
theorem tb23_50 : tb23 50 = some T50.sp := rfl
attribute [go_sem] TP23 TR23 TA23
section
attribute [local go_sem] T23 tb23_34 tb23_44 tb23_49 tb23_50 Tryz.results23
theorem v23 : Valid Tryz.prog 23 T23.sp := by
 refine valid_t (fn := Tryz.f23) (n := 21) ty_ok tb23_ok Tryz.func23 rfl Tryz.ntmps23 ?_
 rintro ⟨x0, x1, x2, x3, x4, x5, x6, x7, x8, x9, x10, x11, x12, x13, x14, x15, x16, x17, x18, x19, x20, x21⟩ hx
 obtain ⟨r, hr⟩ := oE (show (r23 x0 x1 x2 x3 x4 x5 x6 x7 x8 x9 x10 x11 x12 x13 x14 x15 x16 x17 x18 x19 x20 x21).isSome = true from hx)
 have hres : T23.res (x0, x1, x2, x3, x4, x5, x6, x7, x8, x9, x10, x11, x12, x13, x14, x15, x16, x17, x18, x19, x20, x21) = qu14 r := by simp only [T23, mkT, hr, oG]
 refine ⟨nL rfl, fun stop S => ?_⟩
 rw [hres] at S
 unfold r23 at hr
 refine S.gx [] ?_
 obtain ⟨v1, hv1, hr⟩ := of_bind0 hr
 obtain ⟨v2, hv2, hr⟩ := of_bind0 hr
 obtain ⟨v3, hv3, hr⟩ := of_bind0 hr
 try simp only [hv1, hv2, hv3, Option.getD_some, Option.isSome_some, true_and, and_assoc]
 repeat refine gA ?_
 refine ⟨?_, ?_⟩ <;> intro hc
 ·have hr := ifP hr hc
  repeat refine gA ?_
  cases hr
  exact lf
 ·have hr := ifN hr hc
  obtain ⟨v4, hv4, hr⟩ := of_bind0 hr
  try simp only [hv4, oG, oI, true_and, and_assoc]
  repeat refine gA ?_
  cases hr
  exact lf
theorem f23 : FnFact Tryz.prog 23 T23.sp := ⟨⟨Tryz.f23, Tryz.func23, by decide, rfl⟩, v23⟩
end

/- martensite/steel.isHard -/
def r53 (a0 : Int) : Option (Bool) :=
  (r68 a0 0 2000).bind fun v1 =>
   some v1
def T53 : TSpec qA3 := mkT qE3 qd3 r53 qu3 false
theorem TP53 (c0 : D) : T53.sp.pre [.c c0] = (eqvArgs (qt3 c0) (qp3 qw3 c0) ∧ (qp3 r53 c0).isSome = true) := (rfl)
theorem TR53 (c0 : D) : T53.sp.res [.c c0] = qu3 ((qp3 r53 c0).getD default) := (rfl)
theorem TA53 : T53.sp.alias = false := (rfl)
def tb53 : Fns := lk [(68, T68.sp)]
theorem tb53_ok : FnsOk Tryz.prog tb53 := .cons f68 (FnsOk.nil)
theorem tb53_68 : tb53 68 = some T68.sp := rfl
attribute [go_sem] TP53 TR53 TA53
section
attribute [local go_sem] T53 tb53_68 Tryz.results53
theorem v53 : Valid Tryz.prog 53 T53.sp := by
 refine valid_t (fn := Tryz.f53) (n := 5) ty_ok tb53_ok Tryz.func53 rfl Tryz.ntmps53 ?_
 rintro a0 hx
 obtain ⟨r, hr⟩ := oE (show (r53 a0).isSome = true from hx)
 have hres : T53.res a0 = qu3 r := by simp only [T53, mkT, hr, oG]
 refine ⟨nL rfl, fun stop S => ?_⟩
 rw [hres] at S
 unfold r53 at hr
 refine S.gx [] ?_
 obtain ⟨v1, hv1, hr⟩ := of_bind0 hr
 try simp only [hv1, oG, oI, true_and, and_assoc]
 repeat refine gA ?_
 cases hr
 exact lf
theorem f53 : FnFact Tryz.prog 53 T53.sp := ⟨⟨Tryz.f53, Tryz.func53, by decide, rfl⟩, v53⟩
end

/- martensite/steel.hardErr -/
def r52 (x1 : Int) (x0 : Int) : Option (Int) :=
  (r53 x1).bind fun v1 =>
   if v1 = true → (r53 x0).isSome = true then
    (r51 (v1 && ((r53 x0).getD default)) 2).bind fun v2 =>
     (r51 (decide (x1 ≤ x0)) 9).bind fun v3 =>
      (r44 [v2, v3]).bind fun v4 =>
       some v4
    else none
def T52 : TSpec qA4 := mkT qE4 qd4 (fun ⟨x1, x0⟩ => r52 x1 x0) qu4 false
theorem TP52 (c0 c1 : D) : T52.sp.pre [.agg [c0, c1]] = (eqvArgs (qt4 c0 c1) (qp4 qw4 c0 c1) ∧ (qp4 r52 c0 c1).isSome = true) := (rfl)
theorem TR52 (c0 c1 : D) : T52.sp.res [.agg [c0, c1]] = qu4 ((qp4 r52 c0 c1).getD default) := (rfl)
theorem TA52 : T52.sp.alias = false := (rfl)
def tb52 : Fns := lk [(44, T44.sp), (51, T51.sp), (53, T53.sp)]
theorem tb52_ok : FnsOk Tryz.prog tb52 := .cons f44 (.cons f51 (.cons f53 (FnsOk.nil)))
theorem tb52_44 : tb52 44 = some T44.sp := rfl
theorem tb52_51 : tb52 51 = some T51.sp := rfl
theorem tb52_53 : tb52 53 = some T53.sp := rfl
attribute [go_sem] TP52 TR52 TA52
section
attribute [local go_sem] T52 tb52_44 tb52_51 tb52_53 Tryz.results52
theorem v52 : Valid Tryz.prog 52 T52.sp := by
 refine valid_t (fn := Tryz.f52) (n := 20) ty_ok tb52_ok Tryz.func52 rfl Tryz.ntmps52 ?_
 rintro ⟨x1, x0⟩ hx
 obtain ⟨r, hr⟩ := oE (show (r52 x1 x0).isSome = true from hx)
 have hres : T52.res (x1, x0) = qu4 r := by simp only [T52, mkT, hr, oG]
 refine ⟨nL rfl, fun stop S => ?_⟩
 rw [hres] at S
 unfold r52 at hr
 refine S.gx [] ?_
 obtain ⟨v1, hv1, hr⟩ := of_bind0 hr
 obtain ⟨hg5, hr⟩ := of_guard0 hr
 obtain ⟨v2, hv2, hr⟩ := of_bind0 hr
 obtain ⟨v3, hv3, hr⟩ := of_bind0 hr
 obtain ⟨v4, hv4, hr⟩ := of_bind0 hr
 try simp only [hv1, hv2, hv3, hv4, Option.getD_some, Option.isSome_some, true_and, and_assoc]
 repeat (first | refine gG hg5 ?_ | refine gA ?_ | refine gB ?_)
 cases hr
 exact lf
theorem f52 : FnFact Tryz.prog 52 T52.sp := ⟨⟨Tryz.f52, Tryz.func52, by decide, rfl⟩, v52⟩
end

/- martensite/steel.CaseDepth$2 -/
def r57 (x0 : Int) (x1 : Int) : Option (Int) :=
  some x0
def T57 : TSpec qA4 := mkT qE4 qd4 (fun ⟨x0, x1⟩ => r57 x0 x1) qu4 false
theorem TP57 (c0 c1 : D) : T57.sp.pre [.agg [c0, c1]] = (eqvArgs (qt4 c0 c1) (qp4 qw4 c0 c1) ∧ (qp4 r57 c0 c1).isSome = true) := (rfl)
theorem TR57 (c0 c1 : D) : T57.sp.res [.agg [c0, c1]] = qu4 ((qp4 r57 c0 c1).getD default) := (rfl)
theorem TA57 : T57.sp.alias = false := (rfl)
def tb57 : Fns := lk []
theorem tb57_ok : FnsOk Tryz.prog tb57 := FnsOk.nil
attribute [go_sem] TP57 TR57 TA57
section
attribute [local go_sem] T57 Tryz.results57
theorem v57 : Valid Tryz.prog 57 T57.sp := by
 refine valid_t (fn := Tryz.f57) (n := 5) ty_ok tb57_ok Tryz.func57 rfl Tryz.ntmps57 ?_
 rintro ⟨x0, x1⟩ hx
 obtain ⟨r, hr⟩ := oE (show (r57 x0 x1).isSome = true from hx)
 have hres : T57.res (x0, x1) = qu4 r := by simp only [T57, mkT, hr, oG]
 refine ⟨nL rfl, fun stop S => ?_⟩
 rw [hres] at S
 unfold r57 at hr
 refine S.gx [] ?_
 repeat refine gA ?_
 cases hr
 exact lf
theorem f57 : FnFact Tryz.prog 57 T57.sp := ⟨⟨Tryz.f57, Tryz.func57, by decide, rfl⟩, v57⟩
end

/- martensite/steel.CaseDepth$3 -/
def r58 (x1 : Int) (x0 : Int) : Option (Int) :=
  some x0
def T58 : TSpec qA4 := mkT qE4 qd4 (fun ⟨x1, x0⟩ => r58 x1 x0) qu4 false
theorem TP58 (c0 c1 : D) : T58.sp.pre [.agg [c0, c1]] = (eqvArgs (qt4 c0 c1) (qp4 qw4 c0 c1) ∧ (qp4 r58 c0 c1).isSome = true) := (rfl)
theorem TR58 (c0 c1 : D) : T58.sp.res [.agg [c0, c1]] = qu4 ((qp4 r58 c0 c1).getD default) := (rfl)
theorem TA58 : T58.sp.alias = false := (rfl)
def tb58 : Fns := lk []
theorem tb58_ok : FnsOk Tryz.prog tb58 := FnsOk.nil
attribute [go_sem] TP58 TR58 TA58
section
attribute [local go_sem] T58 Tryz.results58
theorem v58 : Valid Tryz.prog 58 T58.sp := by
 refine valid_t (fn := Tryz.f58) (n := 5) ty_ok tb58_ok Tryz.func58 rfl Tryz.ntmps58 ?_
 rintro ⟨x1, x0⟩ hx
 obtain ⟨r, hr⟩ := oE (show (r58 x1 x0).isSome = true from hx)
 have hres : T58.res (x1, x0) = qu4 r := by simp only [T58, mkT, hr, oG]
 refine ⟨nL rfl, fun stop S => ?_⟩
 rw [hres] at S
 unfold r58 at hr
 refine S.gx [] ?_
 repeat refine gA ?_
 cases hr
 exact lf
theorem f58 : FnFact Tryz.prog 58 T58.sp := ⟨⟨Tryz.f58, Tryz.func58, by decide, rfl⟩, v58⟩
end

/- martensite/steel.CaseDepth -/
def b24_3 (a0 : List (Int × Int)) (a1 : Int) (s2 : Int) : (Int) → Ctl (Int) (Int × Int × Int) := fun s3 =>
  if (decide (s3 < (a0.length : Int))) = true then
   if 0 ≤ s3 ∧ s3 < (a0.length : Int) then
    bindC (r58 ((a0.getD s3.toNat default).1) ((a0.getD s3.toNat default).2)) fun v9 =>
     if (decide (v9 < a1)) = true then
      .out (if (decide (s3 ≥ 0)) = true then
       some (s2, s3, 0)
       else some (s2, (a0.length : Int), 0))
      else .next (IntKind.i64.wrap (s3 + 1))
    else .out none
   else .out (if (decide ((-1) ≥ 0)) = true then
    some (s2, (-1), 0)
    else some (s2, (a0.length : Int), 0))
def b24_4 (a0 : List (Int × Int)) (a1 : Int) : (Int) → Ctl (Int) (Int × Int × Int) := fun s4 =>
  if (decide (s4 < (a0.length : Int))) = true then
   if 0 ≤ s4 ∧ s4 < (a0.length : Int) then
    bindC (r58 ((a0.getD s4.toNat default).1) ((a0.getD s4.toNat default).2)) fun v11 =>
     if (decide (v11 < a1)) = true then
      .out (if (decide (s4 ≥ 0)) = true then
       some ((a0.length : Int), s4, 0)
       else some ((a0.length : Int), (a0.length : Int), 0))
      else .next (IntKind.i64.wrap (s4 + 1))
    else .out none
   else .out (if (decide ((-1) ≥ 0)) = true then
    some ((a0.length : Int), (-1), 0)
    else some ((a0.length : Int), (a0.length : Int), 0))
def b24_5 (a0 : List (Int × Int)) (a1 : Int) : (Int) → Ctl (Int) (Int × Int × Int) := fun s5 =>
  if (decide (s5 < (a0.length : Int))) = true then
   if 0 ≤ s5 ∧ s5 < (a0.length : Int) then
    bindC (r58 ((a0.getD s5.toNat default).1) ((a0.getD s5.toNat default).2)) fun v14 =>
     if (decide (v14 < a1)) = true then
      .out (if (decide (s5 ≥ 0)) = true then
       some ((-1), s5, 0)
       else some ((-1), (a0.length : Int), 0))
      else .next (IntKind.i64.wrap (s5 + 1))
    else .out none
   else .out (if (decide ((-1) ≥ 0)) = true then
    some ((-1), (-1), 0)
    else some ((-1), (a0.length : Int), 0))
def b24_6 (a0 : List (Int × Int)) (a1 : Int) : (Int) → Ctl (Int) (Int × Int × Int) := fun s6 =>
  if (decide (s6 < (a0.length : Int))) = true then
   if 0 ≤ s6 ∧ s6 < (a0.length : Int) then
    bindC (r58 ((a0.getD s6.toNat default).1) ((a0.getD s6.toNat default).2)) fun v16 =>
     if (decide (v16 < a1)) = true then
      .out (if (decide (s6 ≥ 0)) = true then
       some ((a0.length : Int), s6, 0)
       else some ((a0.length : Int), (a0.length : Int), 0))
      else .next (IntKind.i64.wrap (s6 + 1))
    else .out none
   else .out (if (decide ((-1) ≥ 0)) = true then
    some ((a0.length : Int), (-1), 0)
    else some ((a0.length : Int), (a0.length : Int), 0))
def b24_2 (a0 : List (Int × Int)) (a1 : Int) : (Int) → Ctl (Int) (Int × Int × Int) := fun s2 =>
  if (decide (s2 < (a0.length : Int))) = true then
   if 0 ≤ s2 ∧ s2 < (a0.length : Int) then
    bindC (r57 ((a0.getD s2.toNat default).1) ((a0.getD s2.toNat default).2)) fun v8 =>
     if (decide (v8 < a1)) = true then
      .out (if (decide (s2 ≥ 0)) = true then
       iterC (b24_3 a0 a1 s2) 1000000000 0
       else iterC (b24_4 a0 a1) 1000000000 0)
      else .next (IntKind.i64.wrap (s2 + 1))
    else .out none
   else .out (if (decide ((-1) ≥ 0)) = true then
    iterC (b24_5 a0 a1) 1000000000 0
    else iterC (b24_6 a0 a1) 1000000000 0)
def b24_1 (a0 : List (Int × Int)) (a1 : Int) : (Int × Int) → Ctl (Int × Int) (Int × Int × Int) := fun s1 =>
  if (decide (s1.2 < (a0.length : Int))) = true then
   if 0 ≤ s1.2 ∧ s1.2 < (a0.length : Int) then
    bindC (r52 ((a0.getD s1.2.toNat default).1) ((a0.getD s1.2.toNat default).2)) fun v2 =>
     bindC (r44 [s1.1, v2]) fun v3 =>
      .next (v3, IntKind.i64.wrap (s1.2 + 1))
    else .out none
   else .out ((r53 a1).bind fun v5 =>
    (r51 v5 2).bind fun v6 =>
     (r44 [s1.1, v6]).bind fun v7 =>
      if (v7 != 0) = true then
       some (0, 0, v7)
       else iterC (b24_2 a0 a1) 1000000000 0)
def r24 (a0 : List (Int × Int)) (a1 : Int) : Option (Int × Int × Int) :=
  (r51 (decide ((a0.length : Int) ≤ 12)) 8).bind fun v1 =>
   iterC (b24_1 a0 a1) 1000000000 (v1, 0)
def T24 : TSpec qA28 := mkT qE28 qd28 (fun ⟨a0, a1⟩ => r24 a0 a1) qu14 false
theorem TP24 (c0 c1 : D) : T24.sp.pre [.c c0, .c c1] = (eqvArgs (qt28 c0 c1) (qp28 qw28 c0 c1) ∧ (qp28 r24 c0 c1).isSome = true) := (rfl)
theorem TR24 (c0 c1 : D) : T24.sp.res [.c c0, .c c1] = qu14 ((qp28 r24 c0 c1).getD default) := (rfl)
theorem TA24 : T24.sp.alias = false := (rfl)
def tb24 : Fns := lk [(44, T44.sp), (51, T51.sp), (52, T52.sp), (53, T53.sp), (57, T57.sp), (58, T58.sp)]
theorem tb24_ok : FnsOk Tryz.prog tb24 := .cons f44 (.cons f51 (.cons f52 (.cons f53 (.cons f57 (.cons f58 (FnsOk.nil))))))
theorem tb24_44 : tb24 44 = some T44.sp := rfl
theorem tb24_51 : tb24 51 = some T51.sp := rfl
theorem tb24_52 : tb24 52 = some T52.sp := rfl
theorem tb24_53 : tb24 53 = some T53.sp := rfl
theorem tb24_57 : tb24 57 = some T57.sp := rfl
theorem tb24_58 : tb24 58 = some T58.sp := rfl
theorem lt24_0 : (IntKind.i64.wrap (0 + 1)) = 1 := by first | rfl | decide | simp
theorem lt24_1 : (decide ((0 : Int) ≥ 0)) = true := by first | rfl | decide | simp
attribute [go_sem] TP24 TR24 TA24
section
attribute [local go_sem] T24 tb24_44 tb24_51 tb24_52 tb24_53 tb24_57 tb24_58 Tryz.results24 Tryz.results54 Tryz.results55 Tryz.results56 lt24_0 lt24_1
theorem v24 : Valid Tryz.prog 24 T24.sp := by
 refine valid_t (fn := Tryz.f24) (n := 42) ty_ok tb24_ok Tryz.func24 rfl Tryz.ntmps24 ?_
 rintro ⟨a0, a1⟩ hx
 obtain ⟨r, hr⟩ := oE (show (r24 a0 a1).isSome = true from hx)
 have hres : T24.res (a0, a1) = qu14 r := by simp only [T24, mkT, hr, oG]
 refine ⟨nL rfl, fun stop S => ?_⟩
 rw [hres] at S
 unfold r24 at hr
 refine S.gx [11] ?_
 obtain ⟨v1, hv1, hr⟩ := of_bind0 hr
 try simp only [hv1, oG, oI, true_and, and_assoc]
 repeat refine gA ?_
 refine S.sees [2, 3, 4, 6, 14, 15, 16] [(2, 2), (3, 3), (4, 4)] [] ?_ (Stop.iter S (fun s1 => ⟨[(2, .c (.ref 2 0)), (3, .c (.ref 3 0)), (4, .c (.ref 4 0)), (6, .c (.d (.int .i64 s1.1))), (14, .c (.d (encF 2 d_II a0))), (15, .c (.d (.int .i64 (a0.length : Int)))), (16, .c (.d (.int .i64 s1.2)))], [(2, [.d (encF 2 d_II a0)]), (3, [.d (.int .i64 a1)]), (4, [.d (.int .i64 0), .d (.int .i64 0)])], []⟩) (b24_1 a0 a1) (fun q => q = r) hr rfl ?_)
 ·exact lf
 ·intro s1 hr
  unfold b24_1 at hr
  refine S.gx [11] ?_
  repeat refine gA ?_
  refine ⟨?_, ?_⟩ <;> intro hc
  ·have hr := ifP1 hr hc
   obtain ⟨hg4, hr⟩ := of_guard1 hr
   obtain ⟨v2, hv2, hr⟩ := of_bind1 hr
   obtain ⟨v3, hv3, hr⟩ := of_bind1 hr
   try simp only [hv2, hv3, Option.getD_some, Option.isSome_some, true_and, and_assoc]
   repeat refine gA ?_
   refine S.sees [2, 3, 4, 6, 14, 15, 16] [(2, 2), (3, 3), (4, 4)] [] ?_ hr
   exact lf
  ·have hr := ifN1 hr hc
   repeat refine gA ?_
   have hr := of_out0 hr
   obtain ⟨v5, hv5, hr⟩ := of_bind0 hr
   obtain ⟨v6, hv6, hr⟩ := of_bind0 hr
   obtain ⟨v7, hv7, hr⟩ := of_bind0 hr
   try simp only [hv5, hv6, hv7, Option.getD_some, Option.isSome_some, true_and, and_assoc]
   repeat refine gA ?_
   refine ⟨?_, ?_⟩ <;> intro hc
   ·have hr := ifP hr hc
    repeat refine gA ?_
    cases hr
    exact lf
   ·have hr := ifN hr hc
    repeat refine gA ?_
    refine S.reg0 ?_
    refine S.opsTo 0 1 (nL rfl) (nL rfl) ?_
    refine gs ?_
    repeat refine gA ?_
    refine S.inlO 1 [4, 9] [.ref 2 0, .ref 3 0] Tryz.func54 (by decide) rfl Tryz.ntmps54 (fun cx e => drawn_ok ty_ok tb24_ok cx e) (some 38) rfl rfl rfl rfl (nL rfl) (nL rfl) ?_
    refine gs ?_
    repeat refine gA ?_
    intro stop1 S1
    refine S1.gx [1] ?_
    repeat refine gA ?_
    refine S1.inl 2 [1] [] Tryz.func55 (by decide) rfl Tryz.ntmps55 (fun cx e => drawn_ok ty_ok tb24_ok cx e) (some 8) rfl rfl rfl rfl (nL rfl) (nL rfl) ?_
    refine gs ?_
    repeat refine gA ?_
    intro stop2 S2
    refine S2.gx [4] ?_
    repeat refine gA ?_
    refine S2.sees [0, 1, 7, 8] [(100003, 100003), (3, 3), (2, 2), (4, 4)] [] ?_ (Stop.iter S2 (fun s2 => ⟨[(0, .c (.d (encF 2 d_II a0))), (1, .c (.clo 56 [.ref 100003 0, .ref 3 0])), (7, .c (.d (.int .i64 (a0.length : Int)))), (8, .c (.d (.int .i64 s2)))], [(100003, [.clo 57 []]), (3, [.d (.int .i64 a1)]), (2, [.d (encF 2 d_II a0)]), (4, [.d (.int .i64 0), .d (.int .i64 0)])], []⟩) (b24_2 a0 a1) (fun q => q = r) hr rfl ?_)
    ·exact lf
    ·intro s2 hr
     unfold b24_2 at hr
     refine S2.gx [4] ?_
     repeat refine gA ?_
     refine ⟨?_, ?_⟩ <;> intro hc
     ·have hr := ifP1 hr hc
      repeat refine gA ?_
      refine S2.inl 5 [0, 1, 5, 7, 8] [.ref 100003 0, .ref 3 0] Tryz.func56 (by decide) rfl Tryz.ntmps56 (fun cx e => drawn_ok ty_ok tb24_ok cx e) (some 16) rfl rfl rfl rfl (nL rfl) (nL rfl) ?_
      refine gs ?_
      obtain ⟨hg13, hr⟩ := of_guard1 hr
      repeat refine gA ?_
      intro stop3 S3
      refine S3.gx [1] ?_
      repeat refine gA ?_
      refine S3.gx [] ?_
      obtain ⟨v8, hv8, hr⟩ := of_bind1 hr
      try simp only [hv8, oG, oI, true_and, and_assoc]
      repeat refine gA ?_
      refine S2.gx [4] ?_
      repeat refine gA ?_
      refine ⟨?_, ?_⟩ <;> intro hc
      ·have hr := ifP1 hr hc
       repeat refine gA ?_
       have hr := of_out0 hr
       repeat refine gA ?_
       refine S1.gx [1] ?_
       repeat refine gA ?_
       refine ⟨?_, ?_⟩ <;> intro hc
       ·have hr := ifP hr hc
        repeat refine gA ?_
        refine S.opsTo 2 3 (nL rfl) (nL rfl) ?_
        refine gs ?_
        repeat refine gA ?_
        refine S.inlO 3 [4, 38] [.ref 2 0, .ref 3 0] Tryz.func54 (by decide) rfl Tryz.ntmps54 (fun cx e => drawn_ok ty_ok tb24_ok cx e) (some 40) rfl rfl rfl rfl (nL rfl) (nL rfl) ?_
        refine gs ?_
        repeat refine gA ?_
        intro stop1 S1
        refine S1.gx [1] ?_
        repeat refine gA ?_
        refine S1.inl 2 [1] [] Tryz.func55 (by decide) rfl Tryz.ntmps55 (fun cx e => drawn_ok ty_ok tb24_ok cx e) (some 8) rfl rfl rfl rfl (nL rfl) (nL rfl) ?_
        refine gs ?_
        repeat refine gA ?_
        intro stop2 S2
        refine S2.gx [4] ?_
        repeat refine gA ?_
        refine S2.sees [0, 1, 7, 8] [(300003, 300003), (3, 3), (2, 2), (4, 4)] [] ?_ (Stop.iter S2 (fun s3 => ⟨[(0, .c (.d (encF 2 d_II a0))), (1, .c (.clo 56 [.ref 300003 0, .ref 3 0])), (7, .c (.d (.int .i64 (a0.length : Int)))), (8, .c (.d (.int .i64 s3)))], [(300003, [.clo 58 []]), (3, [.d (.int .i64 a1)]), (2, [.d (encF 2 d_II a0)]), (4, [.d (.int .i64 0), .d (.int .i64 0)])], []⟩) (b24_3 a0 a1 s2) (fun q => q = r) hr rfl ?_)
        ·exact lf
        ·intro s3 hr
         unfold b24_3 at hr
         refine S2.gx [4] ?_
         repeat refine gA ?_
         refine ⟨?_, ?_⟩ <;> intro hc
         ·have hr := ifP1 hr hc
          repeat refine gA ?_
          refine S2.inl 5 [0, 1, 5, 7, 8] [.ref 300003 0, .ref 3 0] Tryz.func56 (by decide) rfl Tryz.ntmps56 (fun cx e => drawn_ok ty_ok tb24_ok cx e) (some 16) rfl rfl rfl rfl (nL rfl) (nL rfl) ?_
          refine gs ?_
          obtain ⟨hg10, hr⟩ := of_guard1 hr
          repeat refine gA ?_
          intro stop3 S3
          refine S3.gx [1] ?_
          repeat refine gA ?_
          refine S3.gx [] ?_
          obtain ⟨v9, hv9, hr⟩ := of_bind1 hr
          try simp only [hv9, oG, oI, true_and, and_assoc]
          repeat refine gA ?_
          refine S2.gx [4] ?_
          repeat refine gA ?_
          refine ⟨?_, ?_⟩ <;> intro hc
          ·have hr := ifP1 hr hc
           repeat refine gA ?_
           have hr := of_out0 hr
           repeat refine gA ?_
           refine S1.gx [1] ?_
           repeat refine gA ?_
           refine ⟨?_, ?_⟩ <;> intro hc
           ·have hr := ifP hr hc
            repeat refine gA ?_
            refine S.gx [11] ?_
            repeat refine gA ?_
            cases hr
            exact lf
           ·have hr := ifN hr hc
            repeat refine gA ?_
            refine S.gx [11] ?_
            repeat refine gA ?_
            cases hr
            exact lf
          ·have hr := ifN1 hr hc
           repeat refine gA ?_
           refine S2.sees [0, 1, 7, 8] [(300003, 300003), (3, 3), (2, 2), (4, 4)] [] ?_ hr
           exact lf
         ·have hr := ifN1 hr hc
          repeat refine gA ?_
          have hr := of_out0 hr
          repeat refine gA ?_
          refine S1.gx [1] ?_
          repeat refine gA ?_
          refine ⟨?_, ?_⟩ <;> intro hc
          ·have hr := ifP hr hc
           repeat refine gA ?_
           refine S.gx [11] ?_
           repeat refine gA ?_
           cases hr
           exact lf
          ·have hr := ifN hr hc
           repeat refine gA ?_
           refine S.gx [11] ?_
           repeat refine gA ?_
           cases hr
           exact lf
       ·have hr := ifN hr hc
        repeat refine gA ?_
        refine S.opsTo 2 3 (nL rfl) (nL rfl) ?_
        refine gs ?_
        repeat refine gA ?_
        refine S.inlO 3 [4, 38] [.ref 2 0, .ref 3 0] Tryz.func54 (by decide) rfl Tryz.ntmps54 (fun cx e => drawn_ok ty_ok tb24_ok cx e) (some 40) rfl rfl rfl rfl (nL rfl) (nL rfl) ?_
        refine gs ?_
        repeat refine gA ?_
        intro stop1 S1
        refine S1.gx [1] ?_
        repeat refine gA ?_
        refine S1.inl 2 [1] [] Tryz.func55 (by decide) rfl Tryz.ntmps55 (fun cx e => drawn_ok ty_ok tb24_ok cx e) (some 8) rfl rfl rfl rfl (nL rfl) (nL rfl) ?_
        refine gs ?_
        repeat refine gA ?_
        intro stop2 S2
        refine S2.gx [4] ?_
        repeat refine gA ?_
        refine S2.sees [0, 1, 7, 8] [(300003, 300003), (3, 3), (2, 2), (4, 4)] [] ?_ (Stop.iter S2 (fun s4 => ⟨[(0, .c (.d (encF 2 d_II a0))), (1, .c (.clo 56 [.ref 300003 0, .ref 3 0])), (7, .c (.d (.int .i64 (a0.length : Int)))), (8, .c (.d (.int .i64 s4)))], [(300003, [.clo 58 []]), (3, [.d (.int .i64 a1)]), (2, [.d (encF 2 d_II a0)]), (4, [.d (.int .i64 0), .d (.int .i64 0)])], []⟩) (b24_4 a0 a1) (fun q => q = r) hr rfl ?_)
        ·exact lf
        ·intro s4 hr
         unfold b24_4 at hr
         refine S2.gx [4] ?_
         repeat refine gA ?_
         refine ⟨?_, ?_⟩ <;> intro hc
         ·have hr := ifP1 hr hc
          repeat refine gA ?_
          refine S2.inl 5 [0, 1, 5, 7, 8] [.ref 300003 0, .ref 3 0] Tryz.func56 (by decide) rfl Tryz.ntmps56 (fun cx e => drawn_ok ty_ok tb24_ok cx e) (some 16) rfl rfl rfl rfl (nL rfl) (nL rfl) ?_
          refine gs ?_
          obtain ⟨hg12, hr⟩ := of_guard1 hr
          repeat refine gA ?_
          intro stop3 S3
          refine S3.gx [1] ?_
          repeat refine gA ?_
          refine S3.gx [] ?_
          obtain ⟨v11, hv11, hr⟩ := of_bind1 hr
          try simp only [hv11, oG, oI, true_and, and_assoc]
          repeat refine gA ?_
          refine S2.gx [4] ?_
          repeat refine gA ?_
          refine ⟨?_, ?_⟩ <;> intro hc
          ·have hr := ifP1 hr hc
           repeat refine gA ?_
           have hr := of_out0 hr
           repeat refine gA ?_
           refine S1.gx [1] ?_
           repeat refine gA ?_
           refine ⟨?_, ?_⟩ <;> intro hc
           ·have hr := ifP hr hc
            repeat refine gA ?_
            refine S.gx [11] ?_
            repeat refine gA ?_
            cases hr
            exact lf
           ·have hr := ifN hr hc
            repeat refine gA ?_
            refine S.gx [11] ?_
            repeat refine gA ?_
            cases hr
            exact lf
          ·have hr := ifN1 hr hc
           repeat refine gA ?_
           refine S2.sees [0, 1, 7, 8] [(300003, 300003), (3, 3), (2, 2), (4, 4)] [] ?_ hr
           exact lf
         ·have hr := ifN1 hr hc
          repeat refine gA ?_
          have hr := of_out0 hr
          repeat refine gA ?_
          refine S1.gx [1] ?_
          repeat refine gA ?_
          refine ⟨?_, ?_⟩ <;> intro hc
          ·have hr := ifP hr hc
           repeat refine gA ?_
           refine S.gx [11] ?_
           repeat refine gA ?_
           cases hr
           exact lf
          ·have hr := ifN hr hc
           repeat refine gA ?_
           refine S.gx [11] ?_
           repeat refine gA ?_
           cases hr
           exact lf
      ·have hr := ifN1 hr hc
       repeat refine gA ?_
       refine S2.sees [0, 1, 7, 8] [(100003, 100003), (3, 3), (2, 2), (4, 4)] [] ?_ hr
       exact lf
     ·have hr := ifN1 hr hc
      repeat refine gA ?_
      have hr := of_out0 hr
      repeat refine gA ?_
      refine S1.gx [1] ?_
      repeat refine gA ?_
      refine ⟨?_, ?_⟩ <;> intro hc
      ·have hr := ifP hr hc
       repeat refine gA ?_
       refine S.opsTo 2 3 (nL rfl) (nL rfl) ?_
       refine gs ?_
       repeat refine gA ?_
       refine S.inlO 3 [4, 38] [.ref 2 0, .ref 3 0] Tryz.func54 (by decide) rfl Tryz.ntmps54 (fun cx e => drawn_ok ty_ok tb24_ok cx e) (some 40) rfl rfl rfl rfl (nL rfl) (nL rfl) ?_
       refine gs ?_
       repeat refine gA ?_
       intro stop1 S1
       refine S1.gx [1] ?_
       repeat refine gA ?_
       refine S1.inl 2 [1] [] Tryz.func55 (by decide) rfl Tryz.ntmps55 (fun cx e => drawn_ok ty_ok tb24_ok cx e) (some 8) rfl rfl rfl rfl (nL rfl) (nL rfl) ?_
       refine gs ?_
       repeat refine gA ?_
       intro stop2 S2
       refine S2.gx [4] ?_
       repeat refine gA ?_
       refine S2.sees [0, 1, 7, 8] [(200003, 200003), (3, 3), (2, 2), (4, 4)] [] ?_ (Stop.iter S2 (fun s5 => ⟨[(0, .c (.d (encF 2 d_II a0))), (1, .c (.clo 56 [.ref 200003 0, .ref 3 0])), (7, .c (.d (.int .i64 (a0.length : Int)))), (8, .c (.d (.int .i64 s5)))], [(200003, [.clo 58 []]), (3, [.d (.int .i64 a1)]), (2, [.d (encF 2 d_II a0)]), (4, [.d (.int .i64 0), .d (.int .i64 0)])], []⟩) (b24_5 a0 a1) (fun q => q = r) hr rfl ?_)
       ·exact lf
       ·intro s5 hr
        unfold b24_5 at hr
        refine S2.gx [4] ?_
        repeat refine gA ?_
        refine ⟨?_, ?_⟩ <;> intro hc
        ·have hr := ifP1 hr hc
         repeat refine gA ?_
         refine S2.inl 5 [0, 1, 5, 7, 8] [.ref 200003 0, .ref 3 0] Tryz.func56 (by decide) rfl Tryz.ntmps56 (fun cx e => drawn_ok ty_ok tb24_ok cx e) (some 16) rfl rfl rfl rfl (nL rfl) (nL rfl) ?_
         refine gs ?_
         obtain ⟨hg15, hr⟩ := of_guard1 hr
         repeat refine gA ?_
         intro stop3 S3
         refine S3.gx [1] ?_
         repeat refine gA ?_
         refine S3.gx [] ?_
         obtain ⟨v14, hv14, hr⟩ := of_bind1 hr
         try simp only [hv14, oG, oI, true_and, and_assoc]
         repeat refine gA ?_
         refine S2.gx [4] ?_
         repeat refine gA ?_
         refine ⟨?_, ?_⟩ <;> intro hc
         ·have hr := ifP1 hr hc
          repeat refine gA ?_
          have hr := of_out0 hr
          repeat refine gA ?_
          refine S1.gx [1] ?_
          repeat refine gA ?_
          refine ⟨?_, ?_⟩ <;> intro hc
          ·have hr := ifP hr hc
           repeat refine gA ?_
           refine S.gx [11] ?_
           repeat refine gA ?_
           cases hr
           exact lf
          ·have hr := ifN hr hc
           repeat refine gA ?_
           refine S.gx [11] ?_
           repeat refine gA ?_
           cases hr
           exact lf
         ·have hr := ifN1 hr hc
          repeat refine gA ?_
          refine S2.sees [0, 1, 7, 8] [(200003, 200003), (3, 3), (2, 2), (4, 4)] [] ?_ hr
          exact lf
        ·have hr := ifN1 hr hc
         repeat refine gA ?_
         have hr := of_out0 hr
         repeat refine gA ?_
         refine S1.gx [1] ?_
         repeat refine gA ?_
         refine ⟨?_, ?_⟩ <;> intro hc
         ·have hr := ifP hr hc
          repeat refine gA ?_
          refine S.gx [11] ?_
          repeat refine gA ?_
          cases hr
          exact lf
         ·have hr := ifN hr hc
          repeat refine gA ?_
          refine S.gx [11] ?_
          repeat refine gA ?_
          cases hr
          exact lf
      ·have hr := ifN hr hc
       repeat refine gA ?_
       refine S.opsTo 2 3 (nL rfl) (nL rfl) ?_
       refine gs ?_
       repeat refine gA ?_
       refine S.inlO 3 [4, 38] [.ref 2 0, .ref 3 0] Tryz.func54 (by decide) rfl Tryz.ntmps54 (fun cx e => drawn_ok ty_ok tb24_ok cx e) (some 40) rfl rfl rfl rfl (nL rfl) (nL rfl) ?_
       refine gs ?_
       repeat refine gA ?_
       intro stop1 S1
       refine S1.gx [1] ?_
       repeat refine gA ?_
       refine S1.inl 2 [1] [] Tryz.func55 (by decide) rfl Tryz.ntmps55 (fun cx e => drawn_ok ty_ok tb24_ok cx e) (some 8) rfl rfl rfl rfl (nL rfl) (nL rfl) ?_
       refine gs ?_
       repeat refine gA ?_
       intro stop2 S2
       refine S2.gx [4] ?_
       repeat refine gA ?_
       refine S2.sees [0, 1, 7, 8] [(200003, 200003), (3, 3), (2, 2), (4, 4)] [] ?_ (Stop.iter S2 (fun s6 => ⟨[(0, .c (.d (encF 2 d_II a0))), (1, .c (.clo 56 [.ref 200003 0, .ref 3 0])), (7, .c (.d (.int .i64 (a0.length : Int)))), (8, .c (.d (.int .i64 s6)))], [(200003, [.clo 58 []]), (3, [.d (.int .i64 a1)]), (2, [.d (encF 2 d_II a0)]), (4, [.d (.int .i64 0), .d (.int .i64 0)])], []⟩) (b24_6 a0 a1) (fun q => q = r) hr rfl ?_)
       ·exact lf
       ·intro s6 hr
        unfold b24_6 at hr
        refine S2.gx [4] ?_
        repeat refine gA ?_
        refine ⟨?_, ?_⟩ <;> intro hc
        ·have hr := ifP1 hr hc
         repeat refine gA ?_
         refine S2.inl 5 [0, 1, 5, 7, 8] [.ref 200003 0, .ref 3 0] Tryz.func56 (by decide) rfl Tryz.ntmps56 (fun cx e => drawn_ok ty_ok tb24_ok cx e) (some 16) rfl rfl rfl rfl (nL rfl) (nL rfl) ?_
         refine gs ?_
         obtain ⟨hg17, hr⟩ := of_guard1 hr
         repeat refine gA ?_
         intro stop3 S3
         refine S3.gx [1] ?_
         repeat refine gA ?_
         refine S3.gx [] ?_
         obtain ⟨v16, hv16, hr⟩ := of_bind1 hr
         try simp only [hv16, oG, oI, true_and, and_assoc]
         repeat refine gA ?_
         refine S2.gx [4] ?_
         repeat refine gA ?_
         refine ⟨?_, ?_⟩ <;> intro hc
         ·have hr := ifP1 hr hc
          repeat refine gA ?_
          have hr := of_out0 hr
          repeat refine gA ?_
          refine S1.gx [1] ?_
          repeat refine gA ?_
          refine ⟨?_, ?_⟩ <;> intro hc
          ·have hr := ifP hr hc
           repeat refine gA ?_
           refine S.gx [11] ?_
           repeat refine gA ?_
           cases hr
           exact lf
          ·have hr := ifN hr hc
           repeat refine gA ?_
           refine S.gx [11] ?_
           repeat refine gA ?_
           cases hr
           exact lf
         ·have hr := ifN1 hr hc
          repeat refine gA ?_
          refine S2.sees [0, 1, 7, 8] [(200003, 200003), (3, 3), (2, 2), (4, 4)] [] ?_ hr
          exact lf
        ·have hr := ifN1 hr hc
         repeat refine gA ?_
         have hr := of_out0 hr
         repeat refine gA ?_
         refine S1.gx [1] ?_
         repeat refine gA ?_
         refine ⟨?_, ?_⟩ <;> intro hc
         ·have hr := ifP hr hc
          repeat refine gA ?_
          refine S.gx [11] ?_
          repeat refine gA ?_
          cases hr
          exact lf
         ·have hr := ifN hr hc
          repeat refine gA ?_
          refine S.gx [11] ?_
          repeat refine gA ?_
          cases hr
          exact lf
theorem f24 : FnFact Tryz.prog 24 T24.sp := ⟨⟨Tryz.f24, Tryz.func24, by decide, rfl⟩, v24⟩
end

/- martensite/martensitelaw04.awake -/
def r4 : Option (Bool) :=
  (r19).bind fun v1 =>
   (r20).bind fun v2 =>
    (r18 v1.1 v1.2.1 v1.2.2.1 v1.2.2.2.1 v1.2.2.2.2.1 v1.2.2.2.2.2.1 v1.2.2.2.2.2.2.1 v1.2.2.2.2.2.2.2 v2.1 v2.2.1 v2.2.2.1 v2.2.2.2.1 v2.2.2.2.2.1 v2.2.2.2.2.2.1 v2.2.2.2.2.2.2 [1100, 1200, 1200] 0 0 0).bind fun v3 =>
     (r21).bind fun v4 =>
      (r18 v1.1 v1.2.1 v1.2.2.1 v1.2.2.2.1 v1.2.2.2.2.1 v1.2.2.2.2.2.1 v1.2.2.2.2.2.2.1 v1.2.2.2.2.2.2.2 v4.1 v4.2.1 v4.2.2.1 v4.2.2.2.1 v4.2.2.2.2.1 v4.2.2.2.2.2.1 v4.2.2.2.2.2.2 [450, 300] 0 0 0).bind fun v5 =>
       (r22 v1.1 v1.2.1 v1.2.2.1 v1.2.2.2.1 v1.2.2.2.2.1 v1.2.2.2.2.2.1 v1.2.2.2.2.2.2.1 v1.2.2.2.2.2.2.2 0 100000 0 900000 0 0 5).bind fun v6 =>
        (r23 v1.1 v1.2.1 v1.2.2.1 v1.2.2.2.1 v1.2.2.2.2.1 v1.2.2.2.2.2.1 v1.2.2.2.2.2.2.1 v1.2.2.2.2.2.2.2 0 0 900000 1000000 0 100000 0 0 0 0 0 0 0 0).bind fun v7 =>
         (r24 [(700, 750), (500, 600), (200, 250)] 550).bind fun v8 =>
          some ((((((((((v3.2.2.2.2.2.2.2 == 0) && ((v3.1 == 0) && ((v3.2.1 == 1000000) && ((v3.2.2.1 == 0) && ((v3.2.2.2.1 == 0) && ((v3.2.2.2.2.1 == 0) && ((v3.2.2.2.2.2.1 == 70) && (v3.2.2.2.2.2.2.1 == 0)))))))) && (v5.2.2.2.2.2.2.2 == 0)) && ((v5.1 == 0) && ((v5.2.1 == 100000) && ((v5.2.2.1 == 0) && ((v5.2.2.2.1 == 900000) && ((v5.2.2.2.2.1 == 0) && ((v5.2.2.2.2.2.1 == 0) && (v5.2.2.2.2.2.2.1 == 5)))))))) && (v6.2 == 0)) && (v6.1 == 740)) && (v7.2.2 == 0)) && ((v7.1 == 250) && (v7.2.1 == 265))) && (v8.2.2 == 0)) && ((v8.1 == 1) && (v8.2.1 == 2)))
def T4 : TSpec qA0 := mkT qE0 qd0 (fun _ => r4) qu3 false
theorem TP4 : T4.sp.pre [] = (eqvArgs (qt0 ) (qp0 qw0 ) ∧ (qp0 r4).isSome = true) := (rfl)
theorem TR4 : T4.sp.res [] = qu3 ((qp0 r4).getD default) := (rfl)
theorem TA4 : T4.sp.alias = false := (rfl)
def tb4 : Fns := lk [(18, T18.sp), (19, T19.sp), (20, T20.sp), (21, T21.sp), (22, T22.sp), (23, T23.sp), (24, T24.sp)]
theorem tb4_ok : FnsOk Tryz.prog tb4 := .cons f18 (.cons f19 (.cons f20 (.cons f21 (.cons f22 (.cons f23 (.cons f24 (FnsOk.nil)))))))
theorem tb4_18 : tb4 18 = some T18.sp := rfl
theorem tb4_19 : tb4 19 = some T19.sp := rfl
theorem tb4_20 : tb4 20 = some T20.sp := rfl
theorem tb4_21 : tb4 21 = some T21.sp := rfl
theorem tb4_22 : tb4 22 = some T22.sp := rfl
theorem tb4_23 : tb4 23 = some T23.sp := rfl
theorem tb4_24 : tb4 24 = some T24.sp := rfl
attribute [go_sem] TP4 TR4 TA4
section
attribute [local go_sem] T4 tb4_18 tb4_19 tb4_20 tb4_21 tb4_22 tb4_23 tb4_24 Tryz.results4
theorem v4 : Valid Tryz.prog 4 T4.sp := by
 refine valid_t (fn := Tryz.f4) (n := 91) ty_ok tb4_ok Tryz.func4 rfl Tryz.ntmps4 ?_
 intro _ hx
 obtain ⟨r, hr⟩ := oE (show (r4).isSome = true from hx)
 have hres : T4.res () = qu3 r := by simp only [T4, mkT, hr, oG]
 refine ⟨nL rfl, fun stop S => ?_⟩
 rw [hres] at S
 unfold r4 at hr
 refine S.gx [5] ?_
 obtain ⟨v1, hv1, hr⟩ := of_bind0 hr
 obtain ⟨v2, hv2, hr⟩ := of_bind0 hr
 obtain ⟨v3, hv3, hr⟩ := of_bind0 hr
 obtain ⟨v4, hv4, hr⟩ := of_bind0 hr
 obtain ⟨v5, hv5, hr⟩ := of_bind0 hr
 obtain ⟨v6, hv6, hr⟩ := of_bind0 hr
 obtain ⟨v7, hv7, hr⟩ := of_bind0 hr
 try simp only [hv1, hv2, hv3, hv4, hv5, hv6, hv7, Option.getD_some, Option.isSome_some, true_and, and_assoc]
 repeat refine gA ?_
 refine S.prune [1, 2, 3, 4, 5, 6, 7, 8] ?_
 refine S.gx [] ?_
 obtain ⟨v8, hv8, hr⟩ := of_bind0 hr
 try simp only [hv8, oG, oI, true_and, and_assoc]
 repeat refine gA ?_
 repeat (first | refine gA ?_ | refine gB ?_)
 cases hr
 exact lf
theorem f4 : FnFact Tryz.prog 4 T4.sp := ⟨⟨Tryz.f4, Tryz.func4, by decide, rfl⟩, v4⟩
end

/- martensite/martensitelaw04.Few -/
def r5 (x0 : List (Int × Int × Int × Int)) (x1 : List (Int × Int × Int × Int × Int)) (x2 : List (Int × Int × Int)) (x3 : List (Int × Int)) (x4 : Int) (x5 : Int) (x6 : Int) (x7 : Int) : Option (Bool) :=
  some ((((decide ((x0.length : Int) ≤ 10)) && (decide ((x1.length : Int) ≤ 10))) && (decide ((x2.length : Int) ≤ 10))) && (decide ((x3.length : Int) ≤ 10)))
def T5 : TSpec qA1 := mkT qE1 qd1 (fun ⟨x0, x1, x2, x3, x4, x5, x6, x7⟩ => r5 x0 x1 x2 x3 x4 x5 x6 x7) qu3 false
theorem TP5 (c0 c1 c2 c3 c4 c5 c6 c7 : D) : T5.sp.pre [.agg [c0, c1, c2, c3, c4, c5, c6, c7]] = (eqvArgs (qt1 c0 c1 c2 c3 c4 c5 c6 c7) (qp1 qw1 c0 c1 c2 c3 c4 c5 c6 c7) ∧ (qp1 r5 c0 c1 c2 c3 c4 c5 c6 c7).isSome = true) := (rfl)
theorem TR5 (c0 c1 c2 c3 c4 c5 c6 c7 : D) : T5.sp.res [.agg [c0, c1, c2, c3, c4, c5, c6, c7]] = qu3 ((qp1 r5 c0 c1 c2 c3 c4 c5 c6 c7).getD default) := (rfl)
theorem TA5 : T5.sp.alias = false := (rfl)
def tb5 : Fns := lk []
theorem tb5_ok : FnsOk Tryz.prog tb5 := FnsOk.nil
attribute [go_sem] TP5 TR5 TA5
section
attribute [local go_sem] T5 Tryz.results5
theorem v5 : Valid Tryz.prog 5 T5.sp := by
 refine valid_t (fn := Tryz.f5) (n := 25) ty_ok tb5_ok Tryz.func5 rfl Tryz.ntmps5 ?_
 rintro ⟨x0, x1, x2, x3, x4, x5, x6, x7⟩ hx
 obtain ⟨r, hr⟩ := oE (show (r5 x0 x1 x2 x3 x4 x5 x6 x7).isSome = true from hx)
 have hres : T5.res (x0, x1, x2, x3, x4, x5, x6, x7) = qu3 r := by simp only [T5, mkT, hr, oG]
 refine ⟨nL rfl, fun stop S => ?_⟩
 rw [hres] at S
 unfold r5 at hr
 refine S.gx [] ?_
 repeat (first | refine gA ?_ | refine gB ?_)
 cases hr
 exact lf
theorem f5 : FnFact Tryz.prog 5 T5.sp := ⟨⟨Tryz.f5, Tryz.func5, by decide, rfl⟩, v5⟩
end

/- martensite/martensiteref04.CopyRules -/
def r7 (x0 : List (Int × Int × Int × Int)) (x1 : List (Int × Int × Int × Int × Int)) (x2 : List (Int × Int × Int)) (x3 : List (Int × Int)) (x4 : Int) (x5 : Int) (x6 : Int) (x7 : Int) : Option ((List (Int × Int × Int × Int)) × (List (Int × Int × Int × Int × Int)) × (List (Int × Int × Int)) × (List (Int × Int)) × Int × Int × Int × Int) :=
  if (0 + x0.length) * 32 ≤ 140737488355328 ∧ 0 + x0.length ≤ 9223372036854775807 then
   if (0 + x1.length) * 40 ≤ 140737488355328 ∧ 0 + x1.length ≤ 9223372036854775807 then
    if (0 + x2.length) * 24 ≤ 140737488355328 ∧ 0 + x2.length ≤ 9223372036854775807 then
     if (0 + x3.length) * 16 ≤ 140737488355328 ∧ 0 + x3.length ≤ 9223372036854775807 then
      some (x0, x1, x2, x3, x4, x5, x6, x7)
      else none
     else none
    else none
   else none
def T7 : TSpec qA1 := mkT qE1 qd1 (fun ⟨x0, x1, x2, x3, x4, x5, x6, x7⟩ => r7 x0 x1 x2 x3 x4 x5 x6 x7) qu0 false
theorem TP7 (c0 c1 c2 c3 c4 c5 c6 c7 : D) : T7.sp.pre [.agg [c0, c1, c2, c3, c4, c5, c6, c7]] = (eqvArgs (qt1 c0 c1 c2 c3 c4 c5 c6 c7) (qp1 qw1 c0 c1 c2 c3 c4 c5 c6 c7) ∧ (qp1 r7 c0 c1 c2 c3 c4 c5 c6 c7).isSome = true) := (rfl)
theorem TR7 (c0 c1 c2 c3 c4 c5 c6 c7 : D) : T7.sp.res [.agg [c0, c1, c2, c3, c4, c5, c6, c7]] = qu0 ((qp1 r7 c0 c1 c2 c3 c4 c5 c6 c7).getD default) := (rfl)
theorem TA7 : T7.sp.alias = false := (rfl)
def tb7 : Fns := lk []
theorem tb7_ok : FnsOk Tryz.prog tb7 := FnsOk.nil
attribute [go_sem] TP7 TR7 TA7
section
attribute [local go_sem] T7 Tryz.results7
theorem v7 : Valid Tryz.prog 7 T7.sp := by
 refine valid_t (fn := Tryz.f7) (n := 24) ty_ok tb7_ok Tryz.func7 rfl Tryz.ntmps7 ?_
 rintro ⟨x0, x1, x2, x3, x4, x5, x6, x7⟩ hx
 obtain ⟨r, hr⟩ := oE (show (r7 x0 x1 x2 x3 x4 x5 x6 x7).isSome = true from hx)
 have hres : T7.res (x0, x1, x2, x3, x4, x5, x6, x7) = qu0 r := by simp only [T7, mkT, hr, oG]
 refine ⟨nL rfl, fun stop S => ?_⟩
 rw [hres] at S
 unfold r7 at hr
 refine S.gx [] ?_
 obtain ⟨hg1, hr⟩ := of_guard0 hr
 obtain ⟨hg2, hr⟩ := of_guard0 hr
 obtain ⟨hg3, hr⟩ := of_guard0 hr
 obtain ⟨hg4, hr⟩ := of_guard0 hr
 repeat refine gA ?_
 cases hr
 exact lf
theorem f7 : FnFact Tryz.prog 7 T7.sp := ⟨⟨Tryz.f7, Tryz.func7, by decide, rfl⟩, v7⟩
end

/- strconv.Itoa -/
def r59 (a0 : Int) : Option (ByteArray) :=
  itoaV a0
def T59 : TSpec qA3 := mkT qE3 qd3 r59 qu15 false
theorem TP59 (c0 : D) : T59.sp.pre [.c c0] = (eqvArgs (qt3 c0) (qp3 qw3 c0) ∧ (qp3 r59 c0).isSome = true) := (rfl)
theorem TR59 (c0 : D) : T59.sp.res [.c c0] = qu15 ((qp3 r59 c0).getD default) := (rfl)
theorem TA59 : T59.sp.alias = false := (rfl)
attribute [go_sem] TP59 TR59 TA59
theorem v59 : Valid Tryz.prog 59 T59.sp := lib_Itoa (fun _ => rfl) (fun _ => rfl) (fun _ => rfl) rfl
theorem f59 : FnFact Tryz.prog 59 T59.sp := ⟨⟨Tryz.f59, Tryz.func59, by decide, rfl⟩, v59⟩

/- strings.Join -/
def r26 (a0 : List (ByteArray)) (a1 : ByteArray) : Option (ByteArray) :=
  joinV a0 a1
def T26 : TSpec qA29 := mkT qE29 qd29 (fun ⟨a0, a1⟩ => r26 a0 a1) qu15 false
theorem TP26 (c0 c1 : D) : T26.sp.pre [.c c0, .c c1] = (eqvArgs (qt29 c0 c1) (qp29 qw29 c0 c1) ∧ (qp29 r26 c0 c1).isSome = true) := (rfl)
theorem TR26 (c0 c1 : D) : T26.sp.res [.c c0, .c c1] = qu15 ((qp29 r26 c0 c1).getD default) := (rfl)
theorem TA26 : T26.sp.alias = false := (rfl)
attribute [go_sem] TP26 TR26 TA26
theorem v26 : Valid Tryz.prog 26 T26.sp := lib_Join (fun _ => rfl) (fun _ => rfl) (fun _ => rfl) rfl
theorem f26 : FnFact Tryz.prog 26 T26.sp := ⟨⟨Tryz.f26, Tryz.func26, by decide, rfl⟩, v26⟩

/- martensite/steel.words -/
def b25_1 (a0 : List (Int)) : ((List (ByteArray)) × Int) → Ctl ((List (ByteArray)) × Int) (ByteArray) := fun s1 =>
  if (decide (s1.2 < (a0.length : Int))) = true then
   if 0 ≤ s1.2 ∧ s1.2 < (a0.length : Int) then
    bindC (r59 (a0.getD s1.2.toNat default)) fun v1 =>
     if (s1.1.length + 1) * 16 ≤ 140737488355328 ∧ s1.1.length + 1 ≤ 9223372036854775807 then
      .next (s1.1 ++ [v1], IntKind.i64.wrap (s1.2 + 1))
      else .out none
    else .out none
   else .out ((r26 s1.1 (⟨#[32]⟩ : ByteArray)).bind fun v4 =>
    some v4)
def r25 (a0 : List (Int)) : Option (ByteArray) :=
  iterC (b25_1 a0) 1000000000 ([], 0)
def T25 : TSpec qA6 := mkT qE6 qd6 r25 qu15 false
theorem TP25 (c0 : D) : T25.sp.pre [.c c0] = (eqvArgs (qt6 c0) (qp6 qw6 c0) ∧ (qp6 r25 c0).isSome = true) := (rfl)
theorem TR25 (c0 : D) : T25.sp.res [.c c0] = qu15 ((qp6 r25 c0).getD default) := (rfl)
theorem TA25 : T25.sp.alias = false := (rfl)
def tb25 : Fns := lk [(26, T26.sp), (59, T59.sp)]
theorem tb25_ok : FnsOk Tryz.prog tb25 := .cons f26 (.cons f59 (FnsOk.nil))
theorem tb25_26 : tb25 26 = some T26.sp := rfl
theorem tb25_59 : tb25 59 = some T59.sp := rfl
theorem lt25_0 : (IntKind.i64.wrap (0 + 1)) = 1 := by first | rfl | decide | simp
attribute [go_sem] TP25 TR25 TA25
section
attribute [local go_sem] T25 tb25_26 tb25_59 Tryz.results25 lt25_0
theorem v25 : Valid Tryz.prog 25 T25.sp := by
 refine valid_t (fn := Tryz.f25) (n := 20) ty_ok tb25_ok Tryz.func25 rfl Tryz.ntmps25 ?_
 rintro a0 hx
 obtain ⟨r, hr⟩ := oE (show (r25 a0).isSome = true from hx)
 have hres : T25.res a0 = qu15 r := by simp only [T25, mkT, hr, oG]
 refine ⟨nL rfl, fun stop S => ?_⟩
 rw [hres] at S
 unfold r25 at hr
 refine S.gx [] ?_
 repeat refine gA ?_
 refine S.own0 3 1000300 1 rfl rfl ?_
 refine S.sees [3, 6, 7, 8] [] [(1000300, 1000300)] ?_ (Stop.iter S (fun s1 => ⟨[(3, .c (.own 1000300)), (6, .c (.d (encF 1 d_I a0))), (7, .c (.d (.int .i64 (a0.length : Int)))), (8, .c (.d (.int .i64 s1.2)))], [], [(1000300, .owned (encF 1 d_S s1.1))]⟩) (b25_1 a0) (fun q => q = r) hr rfl ?_)
 ·exact lf
 ·intro s1 hr
  unfold b25_1 at hr
  refine S.gx [] ?_
  repeat refine gA ?_
  refine ⟨?_, ?_⟩ <;> intro hc
  ·have hr := ifP1 hr hc
   obtain ⟨hg2, hr⟩ := of_guard1 hr
   obtain ⟨v1, hv1, hr⟩ := of_bind1 hr
   obtain ⟨hg3, hr⟩ := of_guard1 hr
   try simp only [hv1, oG, oI, true_and, and_assoc]
   repeat refine gA ?_
   refine S.sees [3, 6, 7, 8] [] [(16, 1000300)] ?_ hr
   exact lf
  ·have hr := ifN1 hr hc
   repeat refine gA ?_
   have hr := of_out0 hr
   obtain ⟨v4, hv4, hr⟩ := of_bind0 hr
   try simp only [hv4, oG, oI, true_and, and_assoc]
   repeat refine gA ?_
   cases hr
   exact lf
theorem f25 : FnFact Tryz.prog 25 T25.sp := ⟨⟨Tryz.f25, Tryz.func25, by decide, rfl⟩, v25⟩
end

/- martensite/steel.FormatRules -/
def b6_5 (s1 : Int × (List (ByteArray))) (s2 : Int × (List (ByteArray))) (s3 : Int × (List (ByteArray))) (s4 : Int × (List (ByteArray))) (v13 : ByteArray) : ((List (ByteArray)) × Int) → Ctl ((List (ByteArray)) × Int) (ByteArray) := fun s5 =>
  if (decide (s5.2 < 5)) = true then
   if s5.2 = 0 then
    bindC (r26 s1.2 (⟨#[59]⟩ : ByteArray)) fun v27 =>
     if (s5.1.length + 1) * 16 ≤ 140737488355328 ∧ s5.1.length + 1 ≤ 9223372036854775807 then
      .next (s5.1 ++ [v27], 1)
      else .out none
    else if s5.2 = 1 then
     bindC (r26 s2.2 (⟨#[59]⟩ : ByteArray)) fun v24 =>
      if (s5.1.length + 1) * 16 ≤ 140737488355328 ∧ s5.1.length + 1 ≤ 9223372036854775807 then
       .next (s5.1 ++ [v24], 2)
       else .out none
     else if s5.2 = 2 then
      bindC (r26 s3.2 (⟨#[59]⟩ : ByteArray)) fun v21 =>
       if (s5.1.length + 1) * 16 ≤ 140737488355328 ∧ s5.1.length + 1 ≤ 9223372036854775807 then
        .next (s5.1 ++ [v21], 3)
        else .out none
      else if s5.2 = 3 then
       bindC (r26 s4.2 (⟨#[59]⟩ : ByteArray)) fun v18 =>
        if (s5.1.length + 1) * 16 ≤ 140737488355328 ∧ s5.1.length + 1 ≤ 9223372036854775807 then
         .next (s5.1 ++ [v18], 4)
         else .out none
       else if s5.2 = 4 then
        bindC (r26 ([v13]) (⟨#[59]⟩ : ByteArray)) fun v15 =>
         if (s5.1.length + 1) * 16 ≤ 140737488355328 ∧ s5.1.length + 1 ≤ 9223372036854775807 then
          .next (s5.1 ++ [v15], 5)
          else .out none
        else .out none
   else .out ((r26 s5.1 (⟨#[47]⟩ : ByteArray)).bind fun v29 =>
    some v29)
def b6_4 (x0 : List (Int × Int)) (x3 : Int) (x4 : Int) (x5 : Int) (x6 : Int) (s1 : Int × (List (ByteArray))) (s2 : Int × (List (ByteArray))) (s3 : Int × (List (ByteArray))) : (Int × (List (ByteArray))) → Ctl (Int × (List (ByteArray))) (ByteArray) := fun s4 =>
  if (decide (s4.1 < (x0.length : Int))) = true then
   if 0 ≤ s4.1 ∧ s4.1 < (x0.length : Int) then
    bindC (r25 [(x0.getD s4.1.toNat default).1, (x0.getD s4.1.toNat default).2]) fun v10 =>
     if (s4.2.length + 1) * 16 ≤ 140737488355328 ∧ s4.2.length + 1 ≤ 9223372036854775807 then
      .next (IntKind.i64.wrap (s4.1 + 1), s4.2 ++ [v10])
      else .out none
    else .out none
   else .out ((r25 [x3, x4, x5, x6]).bind fun v13 =>
    iterC (b6_5 s1 s2 s3 s4 v13) 1000000000 ([], 0))
def b6_3 (x1 : List (Int × Int × Int)) (x0 : List (Int × Int)) (x3 : Int) (x4 : Int) (x5 : Int) (x6 : Int) (s1 : Int × (List (ByteArray))) (s2 : Int × (List (ByteArray))) : (Int × (List (ByteArray))) → Ctl (Int × (List (ByteArray))) (ByteArray) := fun s3 =>
  if (decide (s3.1 < (x1.length : Int))) = true then
   if 0 ≤ s3.1 ∧ s3.1 < (x1.length : Int) then
    bindC (r25 [(x1.getD s3.1.toNat default).1, (x1.getD s3.1.toNat default).2.1, (x1.getD s3.1.toNat default).2.2]) fun v7 =>
     if (s3.2.length + 1) * 16 ≤ 140737488355328 ∧ s3.2.length + 1 ≤ 9223372036854775807 then
      .next (IntKind.i64.wrap (s3.1 + 1), s3.2 ++ [v7])
      else .out none
    else .out none
   else .out (iterC (b6_4 x0 x3 x4 x5 x6 s1 s2 s3) 1000000000 (0, []))
def b6_2 (x2 : List (Int × Int × Int × Int × Int)) (x1 : List (Int × Int × Int)) (x0 : List (Int × Int)) (x3 : Int) (x4 : Int) (x5 : Int) (x6 : Int) (s1 : Int × (List (ByteArray))) : (Int × (List (ByteArray))) → Ctl (Int × (List (ByteArray))) (ByteArray) := fun s2 =>
  if (decide (s2.1 < (x2.length : Int))) = true then
   if 0 ≤ s2.1 ∧ s2.1 < (x2.length : Int) then
    bindC (r25 [(x2.getD s2.1.toNat default).1, (x2.getD s2.1.toNat default).2.1, (x2.getD s2.1.toNat default).2.2.1, (x2.getD s2.1.toNat default).2.2.2.1, (x2.getD s2.1.toNat default).2.2.2.2]) fun v4 =>
     if (s2.2.length + 1) * 16 ≤ 140737488355328 ∧ s2.2.length + 1 ≤ 9223372036854775807 then
      .next (IntKind.i64.wrap (s2.1 + 1), s2.2 ++ [v4])
      else .out none
    else .out none
   else .out (iterC (b6_3 x1 x0 x3 x4 x5 x6 s1 s2) 1000000000 (0, []))
def b6_1 (x7 : List (Int × Int × Int × Int)) (x2 : List (Int × Int × Int × Int × Int)) (x1 : List (Int × Int × Int)) (x0 : List (Int × Int)) (x3 : Int) (x4 : Int) (x5 : Int) (x6 : Int) : (Int × (List (ByteArray))) → Ctl (Int × (List (ByteArray))) (ByteArray) := fun s1 =>
  if (decide (s1.1 < (x7.length : Int))) = true then
   if 0 ≤ s1.1 ∧ s1.1 < (x7.length : Int) then
    bindC (r25 [(x7.getD s1.1.toNat default).1, (x7.getD s1.1.toNat default).2.1, (x7.getD s1.1.toNat default).2.2.1, (x7.getD s1.1.toNat default).2.2.2]) fun v1 =>
     if (s1.2.length + 1) * 16 ≤ 140737488355328 ∧ s1.2.length + 1 ≤ 9223372036854775807 then
      .next (IntKind.i64.wrap (s1.1 + 1), s1.2 ++ [v1])
      else .out none
    else .out none
   else .out (iterC (b6_2 x2 x1 x0 x3 x4 x5 x6 s1) 1000000000 (0, []))
def r6 (x7 : List (Int × Int × Int × Int)) (x2 : List (Int × Int × Int × Int × Int)) (x1 : List (Int × Int × Int)) (x0 : List (Int × Int)) (x3 : Int) (x4 : Int) (x5 : Int) (x6 : Int) : Option (ByteArray) :=
  iterC (b6_1 x7 x2 x1 x0 x3 x4 x5 x6) 1000000000 (0, [])
def T6 : TSpec qA1 := mkT qE1 qd1 (fun ⟨x7, x2, x1, x0, x3, x4, x5, x6⟩ => r6 x7 x2 x1 x0 x3 x4 x5 x6) qu15 false
theorem TP6 (c0 c1 c2 c3 c4 c5 c6 c7 : D) : T6.sp.pre [.agg [c0, c1, c2, c3, c4, c5, c6, c7]] = (eqvArgs (qt1 c0 c1 c2 c3 c4 c5 c6 c7) (qp1 qw1 c0 c1 c2 c3 c4 c5 c6 c7) ∧ (qp1 r6 c0 c1 c2 c3 c4 c5 c6 c7).isSome = true) := (rfl)
theorem TR6 (c0 c1 c2 c3 c4 c5 c6 c7 : D) : T6.sp.res [.agg [c0, c1, c2, c3, c4, c5, c6, c7]] = qu15 ((qp1 r6 c0 c1 c2 c3 c4 c5 c6 c7).getD default) := (rfl)
theorem TA6 : T6.sp.alias = false := (rfl)
def tb6 : Fns := lk [(25, T25.sp), (26, T26.sp)]
theorem tb6_ok : FnsOk Tryz.prog tb6 := .cons f25 (.cons f26 (FnsOk.nil))
theorem tb6_25 : tb6 25 = some T25.sp := rfl
theorem tb6_26 : tb6 26 = some T26.sp := rfl
theorem lt6_0 : (IntKind.i64.wrap (0 + 1)) = 1 := by first | rfl | decide | simp
theorem lt6_1 : (decide ((0 : Int) < 5)) = true := by first | rfl | decide | simp
theorem lt6_2 : (((4 : Int) = 0 ∨ (0 : Int) < 4)) = True := by first | rfl | decide | simp
theorem lt6_3 : (IntKind.i64.wrap (4 + 1)) = 5 := by first | rfl | decide | simp
theorem lt6_4 : (((3 : Int) = 0 ∨ (0 : Int) < 3)) = True := by first | rfl | decide | simp
theorem lt6_5 : (IntKind.i64.wrap (3 + 1)) = 4 := by first | rfl | decide | simp
theorem lt6_6 : (((2 : Int) = 0 ∨ (0 : Int) < 2)) = True := by first | rfl | decide | simp
theorem lt6_7 : (IntKind.i64.wrap (2 + 1)) = 3 := by first | rfl | decide | simp
theorem lt6_8 : (((1 : Int) = 0 ∨ (0 : Int) < 1)) = True := by first | rfl | decide | simp
theorem lt6_9 : (IntKind.i64.wrap (1 + 1)) = 2 := by first | rfl | decide | simp
attribute [go_sem] TP6 TR6 TA6
section
attribute [local go_sem] T6 tb6_25 tb6_26 Tryz.results6 lt6_0 lt6_1 lt6_2 lt6_3 lt6_4 lt6_5 lt6_6 lt6_7 lt6_8 lt6_9
theorem v6 : Valid Tryz.prog 6 T6.sp := by
 refine valid_t (fn := Tryz.f6) (n := 128) ty_ok tb6_ok Tryz.func6 rfl Tryz.ntmps6 ?_
 rintro ⟨x7, x2, x1, x0, x3, x4, x5, x6⟩ hx
 obtain ⟨r, hr⟩ := oE (show (r6 x7 x2 x1 x0 x3 x4 x5 x6).isSome = true from hx)
 have hres : T6.res (x7, x2, x1, x0, x3, x4, x5, x6) = qu15 r := by simp only [T6, mkT, hr, oG]
 refine ⟨nL rfl, fun stop S => ?_⟩
 rw [hres] at S
 unfold r6 at hr
 refine S.gx [26] ?_
 repeat refine gA ?_
 refine S.own0b 3 0 2000300 1 rfl rfl (nL rfl) rfl ?_
 refine S.sees [1, 3, 16, 17, 18] [(1, 1), (3, 3)] [(2000300, 2000300)] ?_ (Stop.iter S (fun s1 => ⟨[(1, .c (.ref 1 0)), (3, .c (.ref 3 0)), (16, .c (.d (encF 4 d_IIII x7))), (17, .c (.d (.int .i64 (x7.length : Int)))), (18, .c (.d (.int .i64 s1.1)))], [(1, [.d (encF 4 d_IIII x7), .d (encF 5 d_IIIII x2), .d (encF 3 d_III x1), .d (encF 2 d_II x0), .d (.int .i64 x3), .d (.int .i64 x4), .d (.int .i64 x5), .d (.int .i64 x6)]), (3, [.own 2000300, .nils, .nils, .nils, .nils])], [(2000300, .owned (encF 1 d_S s1.2))]⟩) (b6_1 x7 x2 x1 x0 x3 x4 x5 x6) (fun q => q = r) hr rfl ?_)
 ·exact lf
 ·intro s1 hr
  unfold b6_1 at hr
  refine S.gx [26] ?_
  repeat refine gA ?_
  refine ⟨?_, ?_⟩ <;> intro hc
  ·have hr := ifP1 hr hc
   obtain ⟨hg2, hr⟩ := of_guard1 hr
   obtain ⟨v1, hv1, hr⟩ := of_bind1 hr
   obtain ⟨hg3, hr⟩ := of_guard1 hr
   try simp only [hv1, oG, oI, true_and, and_assoc]
   repeat refine gA ?_
   refine S.sees [1, 3, 16, 17, 18] [(1, 1), (3, 3)] [(37, 2000300)] ?_ hr
   exact lf
  ·have hr := ifN1 hr hc
   repeat refine gA ?_
   have hr := of_out0 hr
   repeat refine gA ?_
   refine S.own0b 3 1 2000301 1 rfl rfl (nL rfl) rfl ?_
   refine S.sees [1, 3, 41, 42, 43] [(1, 1), (3, 3)] [(2000301, 2000301), (2000300, 2000300)] ?_ (Stop.iter S (fun s2 => ⟨[(1, .c (.ref 1 0)), (3, .c (.ref 3 0)), (41, .c (.d (encF 5 d_IIIII x2))), (42, .c (.d (.int .i64 (x2.length : Int)))), (43, .c (.d (.int .i64 s2.1)))], [(1, [.d (encF 4 d_IIII x7), .d (encF 5 d_IIIII x2), .d (encF 3 d_III x1), .d (encF 2 d_II x0), .d (.int .i64 x3), .d (.int .i64 x4), .d (.int .i64 x5), .d (.int .i64 x6)]), (3, [.own 2000300, .own 2000301, .nils, .nils, .nils])], [(2000301, .owned (encF 1 d_S s2.2)), (2000300, .owned (encF 1 d_S s1.2))]⟩) (b6_2 x2 x1 x0 x3 x4 x5 x6 s1) (fun q => q = r) hr rfl ?_)
   ·exact lf
   ·intro s2 hr
    unfold b6_2 at hr
    refine S.gx [26] ?_
    repeat refine gA ?_
    refine ⟨?_, ?_⟩ <;> intro hc
    ·have hr := ifP1 hr hc
     obtain ⟨hg5, hr⟩ := of_guard1 hr
     obtain ⟨v4, hv4, hr⟩ := of_bind1 hr
     obtain ⟨hg6, hr⟩ := of_guard1 hr
     try simp only [hv4, oG, oI, true_and, and_assoc]
     repeat refine gA ?_
     refine S.sees [1, 3, 41, 42, 43] [(1, 1), (3, 3)] [(66, 2000301), (2000300, 2000300)] ?_ hr
     exact lf
    ·have hr := ifN1 hr hc
     repeat refine gA ?_
     have hr := of_out0 hr
     repeat refine gA ?_
     refine S.own0b 3 2 2000302 1 rfl rfl (nL rfl) rfl ?_
     refine S.sees [1, 3, 70, 71, 72] [(1, 1), (3, 3)] [(2000302, 2000302), (2000300, 2000300), (2000301, 2000301)] ?_ (Stop.iter S (fun s3 => ⟨[(1, .c (.ref 1 0)), (3, .c (.ref 3 0)), (70, .c (.d (encF 3 d_III x1))), (71, .c (.d (.int .i64 (x1.length : Int)))), (72, .c (.d (.int .i64 s3.1)))], [(1, [.d (encF 4 d_IIII x7), .d (encF 5 d_IIIII x2), .d (encF 3 d_III x1), .d (encF 2 d_II x0), .d (.int .i64 x3), .d (.int .i64 x4), .d (.int .i64 x5), .d (.int .i64 x6)]), (3, [.own 2000300, .own 2000301, .own 2000302, .nils, .nils])], [(2000302, .owned (encF 1 d_S s3.2)), (2000300, .owned (encF 1 d_S s1.2)), (2000301, .owned (encF 1 d_S s2.2))]⟩) (b6_3 x1 x0 x3 x4 x5 x6 s1 s2) (fun q => q = r) hr rfl ?_)
     ·exact lf
     ·intro s3 hr
      unfold b6_3 at hr
      refine S.gx [26] ?_
      repeat refine gA ?_
      refine ⟨?_, ?_⟩ <;> intro hc
      ·have hr := ifP1 hr hc
       obtain ⟨hg8, hr⟩ := of_guard1 hr
       obtain ⟨v7, hv7, hr⟩ := of_bind1 hr
       obtain ⟨hg9, hr⟩ := of_guard1 hr
       try simp only [hv7, oG, oI, true_and, and_assoc]
       repeat refine gA ?_
       refine S.sees [1, 3, 70, 71, 72] [(1, 1), (3, 3)] [(89, 2000302), (2000300, 2000300), (2000301, 2000301)] ?_ hr
       exact lf
      ·have hr := ifN1 hr hc
       repeat refine gA ?_
       have hr := of_out0 hr
       repeat refine gA ?_
       refine S.own0b 3 3 2000303 1 rfl rfl (nL rfl) rfl ?_
       refine S.sees [1, 3, 93, 94, 95] [(1, 1), (3, 3)] [(2000303, 2000303), (2000300, 2000300), (2000301, 2000301), (2000302, 2000302)] ?_ (Stop.iter S (fun s4 => ⟨[(1, .c (.ref 1 0)), (3, .c (.ref 3 0)), (93, .c (.d (encF 2 d_II x0))), (94, .c (.d (.int .i64 (x0.length : Int)))), (95, .c (.d (.int .i64 s4.1)))], [(1, [.d (encF 4 d_IIII x7), .d (encF 5 d_IIIII x2), .d (encF 3 d_III x1), .d (encF 2 d_II x0), .d (.int .i64 x3), .d (.int .i64 x4), .d (.int .i64 x5), .d (.int .i64 x6)]), (3, [.own 2000300, .own 2000301, .own 2000302, .own 2000303, .nils])], [(2000303, .owned (encF 1 d_S s4.2)), (2000300, .owned (encF 1 d_S s1.2)), (2000301, .owned (encF 1 d_S s2.2)), (2000302, .owned (encF 1 d_S s3.2))]⟩) (b6_4 x0 x3 x4 x5 x6 s1 s2 s3) (fun q => q = r) hr rfl ?_)
       ·exact lf
       ·intro s4 hr
        unfold b6_4 at hr
        refine S.gx [26] ?_
        repeat refine gA ?_
        refine ⟨?_, ?_⟩ <;> intro hc
        ·have hr := ifP1 hr hc
         obtain ⟨hg11, hr⟩ := of_guard1 hr
         obtain ⟨v10, hv10, hr⟩ := of_bind1 hr
         obtain ⟨hg12, hr⟩ := of_guard1 hr
         try simp only [hv10, oG, oI, true_and, and_assoc]
         repeat refine gA ?_
         refine S.sees [1, 3, 93, 94, 95] [(1, 1), (3, 3)] [(108, 2000303), (2000300, 2000300), (2000301, 2000301), (2000302, 2000302)] ?_ hr
         exact lf
        ·have hr := ifN1 hr hc
         repeat refine gA ?_
         have hr := of_out0 hr
         obtain ⟨v13, hv13, hr⟩ := of_bind0 hr
         try simp only [hv13, oG, oI, true_and, and_assoc]
         repeat refine gA ?_
         refine S.own0 12 1001200 1 rfl rfl ?_
         refine S.sees [12, 116, 117] [] [(1001200, 1001200), (2000300, 2000300), (2000301, 2000301), (2000302, 2000302), (2000303, 2000303), (114, 114)] ?_ (Stop.iter S (fun s5 => ⟨[(12, .c (.own 1001200)), (116, .agg [.own 2000300, .own 2000301, .own 2000302, .own 2000303, .own 114]), (117, .c (.d (.int .i64 s5.2)))], [], [(1001200, .owned (encF 1 d_S s5.1)), (2000300, .owned (encF 1 d_S s1.2)), (2000301, .owned (encF 1 d_S s2.2)), (2000302, .owned (encF 1 d_S s3.2)), (2000303, .owned (encF 1 d_S s4.2)), (114, .owned (encF 1 d_S ([v13])))]⟩) (b6_5 s1 s2 s3 s4 v13) (fun q => q = r) hr rfl ?_)
         ·exact lf
         ·intro s5 hr
          unfold b6_5 at hr
          refine S.gx [26] ?_
          repeat refine gA ?_
          refine ⟨?_, ?_⟩ <;> intro hc
          ·have hr := ifP1 hr hc
           repeat refine gA ?_
           by_cases hs26 : s5.2 = 0
           ·rw [if_pos hs26] at hr
            simp only [hs26]
            refine S.gx [] ?_
            repeat refine gA ?_
            obtain ⟨v27, hv27, hr⟩ := of_bind1 hr
            obtain ⟨hg28, hr⟩ := of_guard1 hr
            try simp only [hv27, oG, oI, true_and, and_assoc]
            repeat refine gA ?_
            refine S.sees [12, 116, 117] [] [(124, 1001200), (2000300, 2000300), (2000301, 2000301), (2000302, 2000302), (2000303, 2000303), (114, 114)] ?_ hr
            exact lf
           ·rw [if_neg hs26] at hr
            by_cases hs23 : s5.2 = 1
            ·rw [if_pos hs23] at hr
             simp only [hs23]
             refine S.gx [] ?_
             repeat refine gA ?_
             obtain ⟨v24, hv24, hr⟩ := of_bind1 hr
             obtain ⟨hg25, hr⟩ := of_guard1 hr
             try simp only [hv24, oG, oI, true_and, and_assoc]
             repeat refine gA ?_
             refine S.sees [12, 116, 117] [] [(124, 1001200), (2000300, 2000300), (2000301, 2000301), (2000302, 2000302), (2000303, 2000303), (114, 114)] ?_ hr
             exact lf
            ·rw [if_neg hs23] at hr
             by_cases hs20 : s5.2 = 2
             ·rw [if_pos hs20] at hr
              simp only [hs20]
              refine S.gx [] ?_
              repeat refine gA ?_
              obtain ⟨v21, hv21, hr⟩ := of_bind1 hr
              obtain ⟨hg22, hr⟩ := of_guard1 hr
              try simp only [hv21, oG, oI, true_and, and_assoc]
              repeat refine gA ?_
              refine S.sees [12, 116, 117] [] [(124, 1001200), (2000300, 2000300), (2000301, 2000301), (2000302, 2000302), (2000303, 2000303), (114, 114)] ?_ hr
              exact lf
             ·rw [if_neg hs20] at hr
              by_cases hs17 : s5.2 = 3
              ·rw [if_pos hs17] at hr
               simp only [hs17]
               refine S.gx [] ?_
               repeat refine gA ?_
               obtain ⟨v18, hv18, hr⟩ := of_bind1 hr
               obtain ⟨hg19, hr⟩ := of_guard1 hr
               try simp only [hv18, oG, oI, true_and, and_assoc]
               repeat refine gA ?_
               refine S.sees [12, 116, 117] [] [(124, 1001200), (2000300, 2000300), (2000301, 2000301), (2000302, 2000302), (2000303, 2000303), (114, 114)] ?_ hr
               exact lf
              ·rw [if_neg hs17] at hr
               by_cases hs14 : s5.2 = 4
               ·rw [if_pos hs14] at hr
                simp only [hs14]
                refine S.gx [] ?_
                repeat refine gA ?_
                obtain ⟨v15, hv15, hr⟩ := of_bind1 hr
                obtain ⟨hg16, hr⟩ := of_guard1 hr
                try simp only [hv15, oG, oI, true_and, and_assoc]
                repeat refine gA ?_
                refine S.sees [12, 116, 117] [] [(124, 1001200), (2000300, 2000300), (2000301, 2000301), (2000302, 2000302), (2000303, 2000303), (114, 114)] ?_ hr
                exact lf
               ·rw [if_neg hs14] at hr
                first | cases hr | exact hr.elim
          ·have hr := ifN1 hr hc
           repeat refine gA ?_
           have hr := of_out0 hr
           obtain ⟨v29, hv29, hr⟩ := of_bind0 hr
           try simp only [hv29, oG, oI, true_and, and_assoc]
           repeat refine gA ?_
           cases hr
           exact lf
theorem f6 : FnFact Tryz.prog 6 T6.sp := ⟨⟨Tryz.f6, Tryz.func6, by decide, rfl⟩, v6⟩
end

/- martensite/steel.FormatState -/
def r8 (x0 : Int) (x1 : Int) (x2 : Int) (x3 : Int) (x4 : Int) (x5 : Int) (x6 : Int) : Option (ByteArray) :=
  (r25 [x0, x1, x2, x3, x4, x5, x6]).bind fun v1 =>
   some v1
def T8 : TSpec qA10 := mkT qE10 qd10 (fun ⟨x0, x1, x2, x3, x4, x5, x6⟩ => r8 x0 x1 x2 x3 x4 x5 x6) qu15 false
theorem TP8 (c0 c1 c2 c3 c4 c5 c6 : D) : T8.sp.pre [.agg [c0, c1, c2, c3, c4, c5, c6]] = (eqvArgs (qt10 c0 c1 c2 c3 c4 c5 c6) (qp10 qw10 c0 c1 c2 c3 c4 c5 c6) ∧ (qp10 r8 c0 c1 c2 c3 c4 c5 c6).isSome = true) := (rfl)
theorem TR8 (c0 c1 c2 c3 c4 c5 c6 : D) : T8.sp.res [.agg [c0, c1, c2, c3, c4, c5, c6]] = qu15 ((qp10 r8 c0 c1 c2 c3 c4 c5 c6).getD default) := (rfl)
theorem TA8 : T8.sp.alias = false := (rfl)
def tb8 : Fns := lk [(25, T25.sp)]
theorem tb8_ok : FnsOk Tryz.prog tb8 := .cons f25 (FnsOk.nil)
theorem tb8_25 : tb8 25 = some T25.sp := rfl
attribute [go_sem] TP8 TR8 TA8
section
attribute [local go_sem] T8 tb8_25 Tryz.results8
theorem v8 : Valid Tryz.prog 8 T8.sp := by
 refine valid_t (fn := Tryz.f8) (n := 19) ty_ok tb8_ok Tryz.func8 rfl Tryz.ntmps8 ?_
 rintro ⟨x0, x1, x2, x3, x4, x5, x6⟩ hx
 obtain ⟨r, hr⟩ := oE (show (r8 x0 x1 x2 x3 x4 x5 x6).isSome = true from hx)
 have hres : T8.res (x0, x1, x2, x3, x4, x5, x6) = qu15 r := by simp only [T8, mkT, hr, oG]
 refine ⟨nL rfl, fun stop S => ?_⟩
 rw [hres] at S
 unfold r8 at hr
 refine S.gx [] ?_
 obtain ⟨v1, hv1, hr⟩ := of_bind0 hr
 try simp only [hv1, oG, oI, true_and, and_assoc]
 repeat refine gA ?_
 cases hr
 exact lf
theorem f8 : FnFact Tryz.prog 8 T8.sp := ⟨⟨Tryz.f8, Tryz.func8, by decide, rfl⟩, v8⟩
end

/- strings.Split -/
def r32 (a0 : ByteArray) (a1 : ByteArray) : Option ((List (ByteArray))) :=
  splitV a0 a1
def T32 : TSpec qA30 := mkT qE30 qd30 (fun ⟨a0, a1⟩ => r32 a0 a1) qu16 false
theorem TP32 (c0 c1 : D) : T32.sp.pre [.c c0, .c c1] = (eqvArgs (qt30 c0 c1) (qp30 qw30 c0 c1) ∧ (qp30 r32 c0 c1).isSome = true) := (rfl)
theorem TR32 (c0 c1 : D) : T32.sp.res [.c c0, .c c1] = qu16 ((qp30 r32 c0 c1).getD default) := (rfl)
theorem TA32 : T32.sp.alias = false := (rfl)
attribute [go_sem] TP32 TR32 TA32
theorem v32 : Valid Tryz.prog 32 T32.sp := lib_Split (fun _ => rfl) (fun _ => rfl) (fun _ => rfl) rfl
theorem f32 : FnFact Tryz.prog 32 T32.sp := ⟨⟨Tryz.f32, Tryz.func32, by decide, rfl⟩, v32⟩

/- strings.Index -/
def r85 (a0 : ByteArray) (a1 : ByteArray) : Option (Int) :=
  indexV a0 a1
def T85 : TSpec qA30 := mkT qE30 qd30 (fun ⟨a0, a1⟩ => r85 a0 a1) qu4 false
theorem TP85 (c0 c1 : D) : T85.sp.pre [.c c0, .c c1] = (eqvArgs (qt30 c0 c1) (qp30 qw30 c0 c1) ∧ (qp30 r85 c0 c1).isSome = true) := (rfl)
theorem TR85 (c0 c1 : D) : T85.sp.res [.c c0, .c c1] = qu4 ((qp30 r85 c0 c1).getD default) := (rfl)
theorem TA85 : T85.sp.alias = false := (rfl)
attribute [go_sem] TP85 TR85 TA85
theorem v85 : Valid Tryz.prog 85 T85.sp := lib_Index (fun _ => rfl) (fun _ => rfl) (fun _ => rfl) rfl
theorem f85 : FnFact Tryz.prog 85 T85.sp := ⟨⟨Tryz.f85, Tryz.func85, by decide, rfl⟩, v85⟩
end Go.Proofs.YtdlogfepbkojkaaGreatDoor

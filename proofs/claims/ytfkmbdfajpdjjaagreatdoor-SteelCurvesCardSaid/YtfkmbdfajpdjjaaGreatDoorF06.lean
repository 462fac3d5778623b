/- Contracts of functions, written by wip/dec. -/
import Derived.Test.YtfkmbdfajpdjjaaGreatDoorF00
import Derived.Test.YtfkmbdfajpdjjaaGreatDoorF01
import Derived.Test.YtfkmbdfajpdjjaaGreatDoorF02
set_option linter.unusedVariables false
set_option linter.unusedSimpArgs false
set_option maxHeartbeats 4000000
set_option maxRecDepth 20000
namespace Go.Proofs.YtfkmbdfajpdjjaaGreatDoor
open Go.Abs
abbrev qA29 := Int × Int × Int × Int × Int × Int
def qw29 (a0 : Int) (a1 : Int) (a2 : Int) (a3 : Int) (a4 : Int) (a5 : Int) : List Arg := [.c (.int .i64 a0), .c (.int .i64 a1), .ptr [.int .i64 a2, .int .i64 a3, .int .i64 a4, .int .i64 a5]]
def qE29 : qA29 → List Arg := fun ⟨a0, a1, a2, a3, a4, a5⟩ => qw29 a0 a1 a2 a3 a4 a5
def qd29 (a : List Arg) : qA29 := (dInt (aCell a 0 0), dInt (aCell a 1 0), dInt (aCell a 2 0), dInt (aCell a 2 1), dInt (aCell a 2 2), dInt (aCell a 2 3))
def qp29 {β : Type} (f : Int → Int → Int → Int → Int → Int → β) (c0 c1 c2 c3 c4 c5 : D) : β := f (dInt c0) (dInt c1) (dInt c2) (dInt c3) (dInt c4) (dInt c5)
def qt29 (c0 c1 c2 c3 c4 c5 : D) : List Arg := [.c c0, .c c1, .ptr [c2, c3, c4, c5]]
attribute [go_sem] qw29 qp29 qt29 qE29
abbrev qA30 := Int × Int × Int × Int × Int × Int × Int × Int × Int × Int × Int × Int × Int × Int × Int × Int × Int × Int
def qw30 (a0 : Int) (a1 : Int) (a2 : Int) (a3 : Int) (a4 : Int) (a5 : Int) (a6 : Int) (a7 : Int) (a8 : Int) (a9 : Int) (a10 : Int) (a11 : Int) (a12 : Int) (a13 : Int) (a14 : Int) (a15 : Int) (a16 : Int) (a17 : Int) : List Arg := [.agg [.int .i64 a0, .int .i64 a1, .int .i64 a2, .int .i64 a3, .int .i64 a4, .int .i64 a5, .int .i64 a6, .int .i64 a7, .int .i64 a8, .int .i64 a9, .int .i64 a10, .int .i64 a11, .int .i64 a12, .int .i64 a13], .agg [.int .i64 a14, .int .i64 a15, .int .i64 a16, .int .i64 a17]]
def qE30 : qA30 → List Arg := fun ⟨a0, a1, a2, a3, a4, a5, a6, a7, a8, a9, a10, a11, a12, a13, a14, a15, a16, a17⟩ => qw30 a0 a1 a2 a3 a4 a5 a6 a7 a8 a9 a10 a11 a12 a13 a14 a15 a16 a17
def qd30 (a : List Arg) : qA30 := (dInt (aCell a 0 0), dInt (aCell a 0 1), dInt (aCell a 0 2), dInt (aCell a 0 3), dInt (aCell a 0 4), dInt (aCell a 0 5), dInt (aCell a 0 6), dInt (aCell a 0 7), dInt (aCell a 0 8), dInt (aCell a 0 9), dInt (aCell a 0 10), dInt (aCell a 0 11), dInt (aCell a 0 12), dInt (aCell a 0 13), dInt (aCell a 1 0), dInt (aCell a 1 1), dInt (aCell a 1 2), dInt (aCell a 1 3))
def qp30 {β : Type} (f : Int → Int → Int → Int → Int → Int → Int → Int → Int → Int → Int → Int → Int → Int → Int → Int → Int → Int → β) (c0 c1 c2 c3 c4 c5 c6 c7 c8 c9 c10 c11 c12 c13 c14 c15 c16 c17 : D) : β := f (dInt c0) (dInt c1) (dInt c2) (dInt c3) (dInt c4) (dInt c5) (dInt c6) (dInt c7) (dInt c8) (dInt c9) (dInt c10) (dInt c11) (dInt c12) (dInt c13) (dInt c14) (dInt c15) (dInt c16) (dInt c17)
def qt30 (c0 c1 c2 c3 c4 c5 c6 c7 c8 c9 c10 c11 c12 c13 c14 c15 c16 c17 : D) : List Arg := [.agg [c0, c1, c2, c3, c4, c5, c6, c7, c8, c9, c10, c11, c12, c13], .agg [c14, c15, c16, c17]]
attribute [go_sem] qw30 qp30 qt30 qE30
abbrev qA31 := Int × Int × Int × Int × Int × Int × Int × Int × Int × Int × Int × Int × Int × Int × Int × Int × Int × Int × Int
def qw31 (a0 : Int) (a1 : Int) (a2 : Int) (a3 : Int) (a4 : Int) (a5 : Int) (a6 : Int) (a7 : Int) (a8 : Int) (a9 : Int) (a10 : Int) (a11 : Int) (a12 : Int) (a13 : Int) (a14 : Int) (a15 : Int) (a16 : Int) (a17 : Int) (a18 : Int) : List Arg := [.agg [.int .i64 a0, .int .i64 a1, .int .i64 a2, .int .i64 a3, .int .i64 a4, .int .i64 a5, .int .i64 a6, .int .i64 a7, .int .i64 a8, .int .i64 a9, .int .i64 a10, .int .i64 a11, .int .i64 a12, .int .i64 a13], .agg [.int .i64 a14, .int .i64 a15, .int .i64 a16, .int .i64 a17, .int .i64 a18]]
def qE31 : qA31 → List Arg := fun ⟨a0, a1, a2, a3, a4, a5, a6, a7, a8, a9, a10, a11, a12, a13, a14, a15, a16, a17, a18⟩ => qw31 a0 a1 a2 a3 a4 a5 a6 a7 a8 a9 a10 a11 a12 a13 a14 a15 a16 a17 a18
def qd31 (a : List Arg) : qA31 := (dInt (aCell a 0 0), dInt (aCell a 0 1), dInt (aCell a 0 2), dInt (aCell a 0 3), dInt (aCell a 0 4), dInt (aCell a 0 5), dInt (aCell a 0 6), dInt (aCell a 0 7), dInt (aCell a 0 8), dInt (aCell a 0 9), dInt (aCell a 0 10), dInt (aCell a 0 11), dInt (aCell a 0 12), dInt (aCell a 0 13), dInt (aCell a 1 0), dInt (aCell a 1 1), dInt (aCell a 1 2), dInt (aCell a 1 3), dInt (aCell a 1 4))
def qp31 {β : Type} (f : Int → Int → Int → Int → Int → Int → Int → Int → Int → Int → Int → Int → Int → Int → Int → Int → Int → Int → Int → β) (c0 c1 c2 c3 c4 c5 c6 c7 c8 c9 c10 c11 c12 c13 c14 c15 c16 c17 c18 : D) : β := f (dInt c0) (dInt c1) (dInt c2) (dInt c3) (dInt c4) (dInt c5) (dInt c6) (dInt c7) (dInt c8) (dInt c9) (dInt c10) (dInt c11) (dInt c12) (dInt c13) (dInt c14) (dInt c15) (dInt c16) (dInt c17) (dInt c18)
def qt31 (c0 c1 c2 c3 c4 c5 c6 c7 c8 c9 c10 c11 c12 c13 c14 c15 c16 c17 c18 : D) : List Arg := [.agg [c0, c1, c2, c3, c4, c5, c6, c7, c8, c9, c10, c11, c12, c13], .agg [c14, c15, c16, c17, c18]]
attribute [go_sem] qw31 qp31 qt31 qE31
/- martensite/martensitelaw04.Few -/
def r7 (x0 : List (Int × Int × Int × Int)) (x1 : List (Int × Int × Int × Int × Int)) (x2 : List (Int × Int × Int)) (x3 : List (Int × Int)) (x4 : Int) (x5 : Int) (x6 : Int) (x7 : Int) : Option (Bool) :=
  some ((((decide ((x0.length : Int) ≤ 10)) && (decide ((x1.length : Int) ≤ 10))) && (decide ((x2.length : Int) ≤ 10))) && (decide ((x3.length : Int) ≤ 10)))
def T7 : TSpec qA1 := mkT qE1 qd1 (fun ⟨x0, x1, x2, x3, x4, x5, x6, x7⟩ => r7 x0 x1 x2 x3 x4 x5 x6 x7) qu3 false
theorem TP7 (c0 c1 c2 c3 c4 c5 c6 c7 : D) : T7.sp.pre [.agg [c0, c1, c2, c3, c4, c5, c6, c7]] = (eqvArgs (qt1 c0 c1 c2 c3 c4 c5 c6 c7) (qp1 qw1 c0 c1 c2 c3 c4 c5 c6 c7) ∧ (qp1 r7 c0 c1 c2 c3 c4 c5 c6 c7).isSome = true) := (rfl)
theorem TR7 (c0 c1 c2 c3 c4 c5 c6 c7 : D) : T7.sp.res [.agg [c0, c1, c2, c3, c4, c5, c6, c7]] = qu3 ((qp1 r7 c0 c1 c2 c3 c4 c5 c6 c7).getD default) := (rfl)
theorem TA7 : T7.sp.alias = false := (rfl)
def tb7 : Fns := lk []
theorem tb7_ok : FnsOk Tryz.prog tb7 := FnsOk.nil
attribute [go_sem] TP7 TR7 TA7
section
attribute [local go_sem] T7 Tryz.results7
theorem v7 : Valid Tryz.prog 7 T7.sp := by
 refine valid_t (fn := Tryz.f7) (n := 25) ty_ok tb7_ok Tryz.func7 rfl Tryz.ntmps7 ?_
 rintro ⟨x0, x1, x2, x3, x4, x5, x6, x7⟩ hx
 obtain ⟨r, hr⟩ := oE (show (r7 x0 x1 x2 x3 x4 x5 x6 x7).isSome = true from hx)
 have hres : T7.res (x0, x1, x2, x3, x4, x5, x6, x7) = qu3 r := by simp only [T7, mkT, hr, oG]
 refine ⟨nL rfl, fun stop S => ?_⟩
 rw [hres] at S
 unfold r7 at hr
 refine S.gx [] ?_
 repeat (first | refine gA ?_ | refine gB ?_)
 cases hr
 exact lf
theorem f7 : FnFact Tryz.prog 7 T7.sp := ⟨⟨Tryz.f7, Tryz.func7, by decide, rfl⟩, v7⟩
end

/- martensite/martensitelaw04.short -/
def r26 (a0 : Int) : Option (Bool) :=
  some ((decide (a0 ≤ 30)) || ((decide (a0 > 200)) && (decide (a0 ≤ 202))))
def T26 : TSpec qA3 := mkT qE3 qd3 r26 qu3 false
theorem TP26 (c0 : D) : T26.sp.pre [.c c0] = (eqvArgs (qt3 c0) (qp3 qw3 c0) ∧ (qp3 r26 c0).isSome = true) := (rfl)
theorem TR26 (c0 : D) : T26.sp.res [.c c0] = qu3 ((qp3 r26 c0).getD default) := (rfl)
theorem TA26 : T26.sp.alias = false := (rfl)
def tb26 : Fns := lk []
theorem tb26_ok : FnsOk Tryz.prog tb26 := FnsOk.nil
attribute [go_sem] TP26 TR26 TA26
section
attribute [local go_sem] T26 Tryz.results26
theorem v26 : Valid Tryz.prog 26 T26.sp := by
 refine valid_t (fn := Tryz.f26) (n := 13) ty_ok tb26_ok Tryz.func26 rfl Tryz.ntmps26 ?_
 rintro a0 hx
 obtain ⟨r, hr⟩ := oE (show (r26 a0).isSome = true from hx)
 have hres : T26.res a0 = qu3 r := by simp only [T26, mkT, hr, oG]
 refine ⟨nL rfl, fun stop S => ?_⟩
 rw [hres] at S
 unfold r26 at hr
 refine S.gx [] ?_
 repeat (first | refine gA ?_ | refine gB ?_)
 cases hr
 exact lf
theorem f26 : FnFact Tryz.prog 26 T26.sp := ⟨⟨Tryz.f26, Tryz.func26, by decide, rfl⟩, v26⟩
end

/- martensite/steel.boxOf$1 -/
def r86 (a0 : Int) : Option (Int × Int) :=
  some (a0, a0)
def T86 : TSpec qA3 := mkT qE3 qd3 r86 qu13 false
theorem TP86 (c0 : D) : T86.sp.pre [.c c0] = (eqvArgs (qt3 c0) (qp3 qw3 c0) ∧ (qp3 r86 c0).isSome = true) := (rfl)
theorem TR86 (c0 : D) : T86.sp.res [.c c0] = qu13 ((qp3 r86 c0).getD default) := (rfl)
theorem TA86 : T86.sp.alias = false := (rfl)
def tb86 : Fns := lk []
theorem tb86_ok : FnsOk Tryz.prog tb86 := FnsOk.nil
attribute [go_sem] TP86 TR86 TA86
section
attribute [local go_sem] T86 Tryz.results86
theorem v86 : Valid Tryz.prog 86 T86.sp := by
 refine valid_t (fn := Tryz.f86) (n := 6) ty_ok tb86_ok Tryz.func86 rfl Tryz.ntmps86 ?_
 rintro a0 hx
 obtain ⟨r, hr⟩ := oE (show (r86 a0).isSome = true from hx)
 have hres : T86.res a0 = qu13 r := by simp only [T86, mkT, hr, oG]
 refine ⟨nL rfl, fun stop S => ?_⟩
 rw [hres] at S
 unfold r86 at hr
 refine S.gx [] ?_
 repeat refine gA ?_
 cases hr
 exact lf
theorem f86 : FnFact Tryz.prog 86 T86.sp := ⟨⟨Tryz.f86, Tryz.func86, by decide, rfl⟩, v86⟩
end

/- martensite/steel.boxOf -/
def r51 (x0 : Int) (x1 : Int) (x2 : Int) (x3 : Int) (x4 : Int) (x5 : Int) (x6 : Int) : Option (Int × Int × Int × Int × Int × Int × Int × Int × Int × Int × Int × Int × Int × Int) :=
  (r86 x0).bind fun v1 =>
   (r86 x1).bind fun v2 =>
    (r86 x2).bind fun v3 =>
     (r86 x3).bind fun v4 =>
      (r86 x4).bind fun v5 =>
       (r86 x5).bind fun v6 =>
        (r86 x6).bind fun v7 =>
         some (v1.1, v1.2, v2.1, v2.2, v3.1, v3.2, v4.1, v4.2, v5.1, v5.2, v6.1, v6.2, v7.1, v7.2)
def T51 : TSpec qA10 := mkT qE10 qd10 (fun ⟨x0, x1, x2, x3, x4, x5, x6⟩ => r51 x0 x1 x2 x3 x4 x5 x6) qu15 false
theorem TP51 (c0 c1 c2 c3 c4 c5 c6 : D) : T51.sp.pre [.agg [c0, c1, c2, c3, c4, c5, c6]] = (eqvArgs (qt10 c0 c1 c2 c3 c4 c5 c6) (qp10 qw10 c0 c1 c2 c3 c4 c5 c6) ∧ (qp10 r51 c0 c1 c2 c3 c4 c5 c6).isSome = true) := (rfl)
theorem TR51 (c0 c1 c2 c3 c4 c5 c6 : D) : T51.sp.res [.agg [c0, c1, c2, c3, c4, c5, c6]] = qu15 ((qp10 r51 c0 c1 c2 c3 c4 c5 c6).getD default) := (rfl)
theorem TA51 : T51.sp.alias = false := (rfl)
def tb51 : Fns := lk [(86, T86.sp)]
theorem tb51_ok : FnsOk Tryz.prog tb51 := .cons f86 (FnsOk.nil)
theorem tb51_86 : tb51 86 = some T86.sp := rfl
attribute [go_sem] TP51 TR51 TA51
section
attribute [local go_sem] T51 tb51_86 Tryz.results51
theorem v51 : Valid Tryz.prog 51 T51.sp := by
 refine valid_t (fn := Tryz.f51) (n := 33) ty_ok tb51_ok Tryz.func51 rfl Tryz.ntmps51 ?_
 rintro ⟨x0, x1, x2, x3, x4, x5, x6⟩ hx
 obtain ⟨r, hr⟩ := oE (show (r51 x0 x1 x2 x3 x4 x5 x6).isSome = true from hx)
 have hres : T51.res (x0, x1, x2, x3, x4, x5, x6) = qu15 r := by simp only [T51, mkT, hr, oG]
 refine ⟨nL rfl, fun stop S => ?_⟩
 rw [hres] at S
 unfold r51 at hr
 refine S.gx [] ?_
 obtain ⟨v1, hv1, hr⟩ := of_bind0 hr
 obtain ⟨v2, hv2, hr⟩ := of_bind0 hr
 obtain ⟨v3, hv3, hr⟩ := of_bind0 hr
 obtain ⟨v4, hv4, hr⟩ := of_bind0 hr
 obtain ⟨v5, hv5, hr⟩ := of_bind0 hr
 obtain ⟨v6, hv6, hr⟩ := of_bind0 hr
 obtain ⟨v7, hv7, hr⟩ := of_bind0 hr
 try simp only [hv1, hv2, hv3, hv4, hv5, hv6, hv7, Option.getD_some, Option.isSome_some, true_and, and_assoc]
 repeat refine gA ?_
 cases hr
 exact lf
theorem f51 : FnFact Tryz.prog 51 T51.sp := ⟨⟨Tryz.f51, Tryz.func51, by decide, rfl⟩, v51⟩
end

/- martensite/steel.BoxOf -/
def r27 (x0 : Int) (x1 : Int) (x2 : Int) (x3 : Int) (x4 : Int) (x5 : Int) (x6 : Int) : Option (Int × Int × Int × Int × Int × Int × Int × Int × Int × Int × Int × Int × Int × Int × Int) :=
  (r47 x0 x1 x2 x3 x4 x5 x6).bind fun v1 =>
   if (v1 != 0) = true then
    some (0, 0, 0, 0, 0, 0, 0, 0, 0, 0, 0, 0, 0, 0, v1)
    else (r51 x0 x1 x2 x3 x4 x5 x6).bind fun v2 =>
     some (v2.1, v2.2.1, v2.2.2.1, v2.2.2.2.1, v2.2.2.2.2.1, v2.2.2.2.2.2.1, v2.2.2.2.2.2.2.1, v2.2.2.2.2.2.2.2.1, v2.2.2.2.2.2.2.2.2.1, v2.2.2.2.2.2.2.2.2.2.1, v2.2.2.2.2.2.2.2.2.2.2.1, v2.2.2.2.2.2.2.2.2.2.2.2.1, v2.2.2.2.2.2.2.2.2.2.2.2.2.1, v2.2.2.2.2.2.2.2.2.2.2.2.2.2, 0)
def T27 : TSpec qA10 := mkT qE10 qd10 (fun ⟨x0, x1, x2, x3, x4, x5, x6⟩ => r27 x0 x1 x2 x3 x4 x5 x6) qu16 false
theorem TP27 (c0 c1 c2 c3 c4 c5 c6 : D) : T27.sp.pre [.agg [c0, c1, c2, c3, c4, c5, c6]] = (eqvArgs (qt10 c0 c1 c2 c3 c4 c5 c6) (qp10 qw10 c0 c1 c2 c3 c4 c5 c6) ∧ (qp10 r27 c0 c1 c2 c3 c4 c5 c6).isSome = true) := (rfl)
theorem TR27 (c0 c1 c2 c3 c4 c5 c6 : D) : T27.sp.res [.agg [c0, c1, c2, c3, c4, c5, c6]] = qu16 ((qp10 r27 c0 c1 c2 c3 c4 c5 c6).getD default) := (rfl)
theorem TA27 : T27.sp.alias = false := (rfl)
def tb27 : Fns := lk [(47, T47.sp), (51, T51.sp)]
theorem tb27_ok : FnsOk Tryz.prog tb27 := .cons f47 (.cons f51 (FnsOk.nil))
theorem tb27_47 : tb27 47 = some T47.sp := rfl
theorem tb27_51 : tb27 51 = some T51.sp := rfl
attribute [go_sem] TP27 TR27 TA27
section
attribute [local go_sem] T27 tb27_47 tb27_51 Tryz.results27
theorem v27 : Valid Tryz.prog 27 T27.sp := by
 refine valid_t (fn := Tryz.f27) (n := 13) ty_ok tb27_ok Tryz.func27 rfl Tryz.ntmps27 ?_
 rintro ⟨x0, x1, x2, x3, x4, x5, x6⟩ hx
 obtain ⟨r, hr⟩ := oE (show (r27 x0 x1 x2 x3 x4 x5 x6).isSome = true from hx)
 have hres : T27.res (x0, x1, x2, x3, x4, x5, x6) = qu16 r := by simp only [T27, mkT, hr, oG]
 refine ⟨nL rfl, fun stop S => ?_⟩
 rw [hres] at S
 unfold r27 at hr
 refine S.gx [] ?_
 obtain ⟨v1, hv1, hr⟩ := of_bind0 hr
 try simp only [hv1, oG, oI, true_and, and_assoc]
 repeat refine gA ?_
 refine ⟨?_, ?_⟩ <;> intro hc
 ·have hr := ifP hr hc
  repeat refine gA ?_
  cases hr
  exact lf
 ·have hr := ifN hr hc
  obtain ⟨v2, hv2, hr⟩ := of_bind0 hr
  try simp only [hv2, oG, oI, true_and, and_assoc]
  repeat refine gA ?_
  cases hr
  exact lf
theorem f27 : FnFact Tryz.prog 27 T27.sp := ⟨⟨Tryz.f27, Tryz.func27, by decide, rfl⟩, v27⟩
end

/- martensite/martensitebase.Within -/
def r58 (a0 : Int) (a1 : Int) (a2 : Int) : Option (Bool) :=
  some ((decide (a1 ≤ a0)) && (decide (a0 ≤ a2)))
def T58 : TSpec qA2 := mkT qE2 qd2 (fun ⟨a0, a1, a2⟩ => r58 a0 a1 a2) qu3 false
theorem TP58 (c0 c1 c2 : D) : T58.sp.pre [.c c0, .c c1, .c c2] = (eqvArgs (qt2 c0 c1 c2) (qp2 qw2 c0 c1 c2) ∧ (qp2 r58 c0 c1 c2).isSome = true) := (rfl)
theorem TR58 (c0 c1 c2 : D) : T58.sp.res [.c c0, .c c1, .c c2] = qu3 ((qp2 r58 c0 c1 c2).getD default) := (rfl)
theorem TA58 : T58.sp.alias = false := (rfl)
def tb58 : Fns := lk []
theorem tb58_ok : FnsOk Tryz.prog tb58 := FnsOk.nil
attribute [go_sem] TP58 TR58 TA58
section
attribute [local go_sem] T58 Tryz.results58
theorem v58 : Valid Tryz.prog 58 T58.sp := by
 refine valid_t (fn := Tryz.f58) (n := 15) ty_ok tb58_ok Tryz.func58 rfl Tryz.ntmps58 ?_
 rintro ⟨a0, a1, a2⟩ hx
 obtain ⟨r, hr⟩ := oE (show (r58 a0 a1 a2).isSome = true from hx)
 have hres : T58.res (a0, a1, a2) = qu3 r := by simp only [T58, mkT, hr, oG]
 refine ⟨nL rfl, fun stop S => ?_⟩
 rw [hres] at S
 unfold r58 at hr
 refine S.gx [] ?_
 repeat (first | refine gA ?_ | refine gB ?_)
 cases hr
 exact lf
theorem f58 : FnFact Tryz.prog 58 T58.sp := ⟨⟨Tryz.f58, Tryz.func58, by decide, rfl⟩, v58⟩
end

/- martensite/martensiteref04.StateErr -/
def b16_1 (x0 : Int) (x1 : Int) (x2 : Int) (x3 : Int) (x4 : Int) (x6 : Int) (x5 : Int) : (Int) → Ctl (Int) (Int) := fun s1 =>
  if (decide (s1 < (([x0, x1, x2, x3, x4]).length : Int))) = true then
   if 0 ≤ s1 ∧ s1 < (([x0, x1, x2, x3, x4]).length : Int) then
    bindC (r58 (([x0, x1, x2, x3, x4]).getD s1.toNat default) 0 1000000) fun v1 =>
     if (!v1) = true then
      .out (some 2)
      else .next (IntKind.i64.wrap (s1 + 1))
    else .out none
   else .out ((r58 x6 0 100000).bind fun v3 =>
    if (!(!v3)) = true → (r58 x5 0 1000000).isSome = true then
     if ((!v3) || (!((r58 x5 0 1000000).getD default))) = true then
      some 2
      else if ((IntKind.i64.wrap ((IntKind.i64.wrap ((IntKind.i64.wrap (x0 + x1)) + x2)) + x3)) != 1000000) = true then
       some 3
       else some 0
     else none)
def r16 (x0 : Int) (x1 : Int) (x2 : Int) (x3 : Int) (x4 : Int) (x6 : Int) (x5 : Int) : Option (Int) :=
  iterC (b16_1 x0 x1 x2 x3 x4 x6 x5) 1000000000 0
def T16 : TSpec qA10 := mkT qE10 qd10 (fun ⟨x0, x1, x2, x3, x4, x6, x5⟩ => r16 x0 x1 x2 x3 x4 x6 x5) qu4 false
theorem TP16 (c0 c1 c2 c3 c4 c5 c6 : D) : T16.sp.pre [.agg [c0, c1, c2, c3, c4, c5, c6]] = (eqvArgs (qt10 c0 c1 c2 c3 c4 c5 c6) (qp10 qw10 c0 c1 c2 c3 c4 c5 c6) ∧ (qp10 r16 c0 c1 c2 c3 c4 c5 c6).isSome = true) := (rfl)
theorem TR16 (c0 c1 c2 c3 c4 c5 c6 : D) : T16.sp.res [.agg [c0, c1, c2, c3, c4, c5, c6]] = qu4 ((qp10 r16 c0 c1 c2 c3 c4 c5 c6).getD default) := (rfl)
theorem TA16 : T16.sp.alias = false := (rfl)
def tb16 : Fns := lk [(58, T58.sp)]
theorem tb16_ok : FnsOk Tryz.prog tb16 := .cons f58 (FnsOk.nil)
theorem tb16_58 : tb16 58 = some T58.sp := rfl
attribute [go_sem] TP16 TR16 TA16
section
attribute [local go_sem] T16 tb16_58 Tryz.results16
theorem v16 : Valid Tryz.prog 16 T16.sp := by
 refine valid_t (fn := Tryz.f16) (n := 50) ty_ok tb16_ok Tryz.func16 rfl Tryz.ntmps16 ?_
 rintro ⟨x0, x1, x2, x3, x4, x6, x5⟩ hx
 obtain ⟨r, hr⟩ := oE (show (r16 x0 x1 x2 x3 x4 x6 x5).isSome = true from hx)
 have hres : T16.res (x0, x1, x2, x3, x4, x6, x5) = qu4 r := by simp only [T16, mkT, hr, oG]
 refine ⟨nL rfl, fun stop S => ?_⟩
 rw [hres] at S
 unfold r16 at hr
 refine S.gx [] ?_
 repeat refine gA ?_
 refine S.sees [1, 3, 4] [(1, 1)] [(15, 15)] ?_ (Stop.iter S (fun s1 => ⟨[(1, .c (.ref 1 0)), (3, .c (.own 15)), (4, .c (.d (.int .i64 s1)))], [(1, [.d (.int .i64 x0), .d (.int .i64 x1), .d (.int .i64 x2), .d (.int .i64 x3), .d (.int .i64 x4), .d (.int .i64 x6), .d (.int .i64 x5)])], [(15, .owned (encF 1 d_I ([x0, x1, x2, x3, x4])))]⟩) (b16_1 x0 x1 x2 x3 x4 x6 x5) (fun q => q = r) hr rfl ?_)
 ·exact lf
 ·intro s1 hr
  unfold b16_1 at hr
  refine S.gx [] ?_
  repeat refine gA ?_
  refine ⟨?_, ?_⟩ <;> intro hc
  ·have hr := ifP1 hr hc
   obtain ⟨hg2, hr⟩ := of_guard1 hr
   obtain ⟨v1, hv1, hr⟩ := of_bind1 hr
   try simp only [hv1, oG, oI, true_and, and_assoc]
   repeat refine gA ?_
   refine ⟨?_, ?_⟩ <;> intro hc
   ·have hr := ifP1 hr hc
    repeat refine gA ?_
    have hr := of_out0 hr
    cases hr
    exact lf
   ·have hr := ifN1 hr hc
    repeat refine gA ?_
    refine S.sees [1, 3, 4] [(1, 1)] [(15, 15)] ?_ hr
    exact lf
  ·have hr := ifN1 hr hc
   repeat refine gA ?_
   have hr := of_out0 hr
   obtain ⟨v3, hv3, hr⟩ := of_bind0 hr
   obtain ⟨hg4, hr⟩ := of_guard0 hr
   try simp only [hv3, oG, oI, true_and, and_assoc]
   repeat (first | refine gG hg4 ?_ | refine gA ?_ | refine gB ?_)
   refine ⟨?_, ?_⟩ <;> intro hc
   ·have hr := ifP hr hc
    repeat refine gA ?_
    cases hr
    exact lf
   ·have hr := ifN hr hc
    repeat refine gA ?_
    refine ⟨?_, ?_⟩ <;> intro hc
    ·have hr := ifP hr hc
     repeat refine gA ?_
     cases hr
     exact lf
    ·have hr := ifN hr hc
     repeat refine gA ?_
     cases hr
     exact lf
theorem f16 : FnFact Tryz.prog 16 T16.sp := ⟨⟨Tryz.f16, Tryz.func16, by decide, rfl⟩, v16⟩
end

/- martensite/martensiteref04.single -/
def r60 (a0 : Int) : Option (Int × Int) :=
  some (a0, a0)
def T60 : TSpec qA3 := mkT qE3 qd3 r60 qu13 false
theorem TP60 (c0 : D) : T60.sp.pre [.c c0] = (eqvArgs (qt3 c0) (qp3 qw3 c0) ∧ (qp3 r60 c0).isSome = true) := (rfl)
theorem TR60 (c0 : D) : T60.sp.res [.c c0] = qu13 ((qp3 r60 c0).getD default) := (rfl)
theorem TA60 : T60.sp.alias = false := (rfl)
def tb60 : Fns := lk []
theorem tb60_ok : FnsOk Tryz.prog tb60 := FnsOk.nil
attribute [go_sem] TP60 TR60 TA60
section
attribute [local go_sem] T60 Tryz.results60
theorem v60 : Valid Tryz.prog 60 T60.sp := by
 refine valid_t (fn := Tryz.f60) (n := 6) ty_ok tb60_ok Tryz.func60 rfl Tryz.ntmps60 ?_
 rintro a0 hx
 obtain ⟨r, hr⟩ := oE (show (r60 a0).isSome = true from hx)
 have hres : T60.res a0 = qu13 r := by simp only [T60, mkT, hr, oG]
 refine ⟨nL rfl, fun stop S => ?_⟩
 rw [hres] at S
 unfold r60 at hr
 refine S.gx [] ?_
 repeat refine gA ?_
 cases hr
 exact lf
theorem f60 : FnFact Tryz.prog 60 T60.sp := ⟨⟨Tryz.f60, Tryz.func60, by decide, rfl⟩, v60⟩
end

/- martensite/martensiteref04.Box -/
def r28 (x0 : Int) (x1 : Int) (x2 : Int) (x3 : Int) (x4 : Int) (x5 : Int) (x6 : Int) : Option (Int × Int × Int × Int × Int × Int × Int × Int × Int × Int × Int × Int × Int × Int) :=
  (r60 x0).bind fun v1 =>
   (r60 x1).bind fun v2 =>
    (r60 x2).bind fun v3 =>
     (r60 x3).bind fun v4 =>
      (r60 x4).bind fun v5 =>
       (r60 x5).bind fun v6 =>
        (r60 x6).bind fun v7 =>
         some (v1.1, v1.2, v2.1, v2.2, v3.1, v3.2, v4.1, v4.2, v5.1, v5.2, v6.1, v6.2, v7.1, v7.2)
def T28 : TSpec qA10 := mkT qE10 qd10 (fun ⟨x0, x1, x2, x3, x4, x5, x6⟩ => r28 x0 x1 x2 x3 x4 x5 x6) qu15 false
theorem TP28 (c0 c1 c2 c3 c4 c5 c6 : D) : T28.sp.pre [.agg [c0, c1, c2, c3, c4, c5, c6]] = (eqvArgs (qt10 c0 c1 c2 c3 c4 c5 c6) (qp10 qw10 c0 c1 c2 c3 c4 c5 c6) ∧ (qp10 r28 c0 c1 c2 c3 c4 c5 c6).isSome = true) := (rfl)
theorem TR28 (c0 c1 c2 c3 c4 c5 c6 : D) : T28.sp.res [.agg [c0, c1, c2, c3, c4, c5, c6]] = qu15 ((qp10 r28 c0 c1 c2 c3 c4 c5 c6).getD default) := (rfl)
theorem TA28 : T28.sp.alias = false := (rfl)
def tb28 : Fns := lk [(60, T60.sp)]
theorem tb28_ok : FnsOk Tryz.prog tb28 := .cons f60 (FnsOk.nil)
theorem tb28_60 : tb28 60 = some T60.sp := rfl
attribute [go_sem] TP28 TR28 TA28
section
attribute [local go_sem] T28 tb28_60 Tryz.results28
theorem v28 : Valid Tryz.prog 28 T28.sp := by
 refine valid_t (fn := Tryz.f28) (n := 25) ty_ok tb28_ok Tryz.func28 rfl Tryz.ntmps28 ?_
 rintro ⟨x0, x1, x2, x3, x4, x5, x6⟩ hx
 obtain ⟨r, hr⟩ := oE (show (r28 x0 x1 x2 x3 x4 x5 x6).isSome = true from hx)
 have hres : T28.res (x0, x1, x2, x3, x4, x5, x6) = qu15 r := by simp only [T28, mkT, hr, oG]
 refine ⟨nL rfl, fun stop S => ?_⟩
 rw [hres] at S
 unfold r28 at hr
 refine S.gx [] ?_
 obtain ⟨v1, hv1, hr⟩ := of_bind0 hr
 obtain ⟨v2, hv2, hr⟩ := of_bind0 hr
 obtain ⟨v3, hv3, hr⟩ := of_bind0 hr
 obtain ⟨v4, hv4, hr⟩ := of_bind0 hr
 obtain ⟨v5, hv5, hr⟩ := of_bind0 hr
 obtain ⟨v6, hv6, hr⟩ := of_bind0 hr
 obtain ⟨v7, hv7, hr⟩ := of_bind0 hr
 try simp only [hv1, hv2, hv3, hv4, hv5, hv6, hv7, Option.getD_some, Option.isSome_some, true_and, and_assoc]
 repeat refine gA ?_
 cases hr
 exact lf
theorem f28 : FnFact Tryz.prog 28 T28.sp := ⟨⟨Tryz.f28, Tryz.func28, by decide, rfl⟩, v28⟩
end

/- martensite/martensiteref04.CopyRules -/
def r9 (x0 : List (Int × Int × Int × Int)) (x1 : List (Int × Int × Int × Int × Int)) (x2 : List (Int × Int × Int)) (x3 : List (Int × Int)) (x4 : Int) (x5 : Int) (x6 : Int) (x7 : Int) : Option ((List (Int × Int × Int × Int)) × (List (Int × Int × Int × Int × Int)) × (List (Int × Int × Int)) × (List (Int × Int)) × Int × Int × Int × Int) :=
  if (0 + x0.length) * 32 ≤ 140737488355328 ∧ 0 + x0.length ≤ 9223372036854775807 then
   if (0 + x1.length) * 40 ≤ 140737488355328 ∧ 0 + x1.length ≤ 9223372036854775807 then
    if (0 + x2.length) * 24 ≤ 140737488355328 ∧ 0 + x2.length ≤ 9223372036854775807 then
     if (0 + x3.length) * 16 ≤ 140737488355328 ∧ 0 + x3.length ≤ 9223372036854775807 then
      some (x0, x1, x2, x3, x4, x5, x6, x7)
      else none
     else none
    else none
   else none
def T9 : TSpec qA1 := mkT qE1 qd1 (fun ⟨x0, x1, x2, x3, x4, x5, x6, x7⟩ => r9 x0 x1 x2 x3 x4 x5 x6 x7) qu0 false
theorem TP9 (c0 c1 c2 c3 c4 c5 c6 c7 : D) : T9.sp.pre [.agg [c0, c1, c2, c3, c4, c5, c6, c7]] = (eqvArgs (qt1 c0 c1 c2 c3 c4 c5 c6 c7) (qp1 qw1 c0 c1 c2 c3 c4 c5 c6 c7) ∧ (qp1 r9 c0 c1 c2 c3 c4 c5 c6 c7).isSome = true) := (rfl)
theorem TR9 (c0 c1 c2 c3 c4 c5 c6 c7 : D) : T9.sp.res [.agg [c0, c1, c2, c3, c4, c5, c6, c7]] = qu0 ((qp1 r9 c0 c1 c2 c3 c4 c5 c6 c7).getD default) := (rfl)
theorem TA9 : T9.sp.alias = false := (rfl)
def tb9 : Fns := lk []
theorem tb9_ok : FnsOk Tryz.prog tb9 := FnsOk.nil
attribute [go_sem] TP9 TR9 TA9
section
attribute [local go_sem] T9 Tryz.results9
theorem v9 : Valid Tryz.prog 9 T9.sp := by
 refine valid_t (fn := Tryz.f9) (n := 24) ty_ok tb9_ok Tryz.func9 rfl Tryz.ntmps9 ?_
 rintro ⟨x0, x1, x2, x3, x4, x5, x6, x7⟩ hx
 obtain ⟨r, hr⟩ := oE (show (r9 x0 x1 x2 x3 x4 x5 x6 x7).isSome = true from hx)
 have hres : T9.res (x0, x1, x2, x3, x4, x5, x6, x7) = qu0 r := by simp only [T9, mkT, hr, oG]
 refine ⟨nL rfl, fun stop S => ?_⟩
 rw [hres] at S
 unfold r9 at hr
 refine S.gx [] ?_
 obtain ⟨hg1, hr⟩ := of_guard0 hr
 obtain ⟨hg2, hr⟩ := of_guard0 hr
 obtain ⟨hg3, hr⟩ := of_guard0 hr
 obtain ⟨hg4, hr⟩ := of_guard0 hr
 repeat refine gA ?_
 cases hr
 exact lf
theorem f9 : FnFact Tryz.prog 9 T9.sp := ⟨⟨Tryz.f9, Tryz.func9, by decide, rfl⟩, v9⟩
end

/- martensite/steel.kelvinErr -/
def r99 (a0 : Int) : Option (Int) :=
  (r85 a0).bind fun v1 =>
   (r48 v1 2).bind fun v2 =>
    some v2
def T99 : TSpec qA3 := mkT qE3 qd3 r99 qu4 false
theorem TP99 (c0 : D) : T99.sp.pre [.c c0] = (eqvArgs (qt3 c0) (qp3 qw3 c0) ∧ (qp3 r99 c0).isSome = true) := (rfl)
theorem TR99 (c0 : D) : T99.sp.res [.c c0] = qu4 ((qp3 r99 c0).getD default) := (rfl)
theorem TA99 : T99.sp.alias = false := (rfl)
def tb99 : Fns := lk [(48, T48.sp), (85, T85.sp)]
theorem tb99_ok : FnsOk Tryz.prog tb99 := .cons f48 (.cons f85 (FnsOk.nil))
theorem tb99_48 : tb99 48 = some T48.sp := rfl
theorem tb99_85 : tb99 85 = some T85.sp := rfl
attribute [go_sem] TP99 TR99 TA99
section
attribute [local go_sem] T99 tb99_48 tb99_85 Tryz.results99
theorem v99 : Valid Tryz.prog 99 T99.sp := by
 refine valid_t (fn := Tryz.f99) (n := 6) ty_ok tb99_ok Tryz.func99 rfl Tryz.ntmps99 ?_
 rintro a0 hx
 obtain ⟨r, hr⟩ := oE (show (r99 a0).isSome = true from hx)
 have hres : T99.res a0 = qu4 r := by simp only [T99, mkT, hr, oG]
 refine ⟨nL rfl, fun stop S => ?_⟩
 rw [hres] at S
 unfold r99 at hr
 refine S.gx [] ?_
 obtain ⟨v1, hv1, hr⟩ := of_bind0 hr
 obtain ⟨v2, hv2, hr⟩ := of_bind0 hr
 try simp only [hv1, hv2, Option.getD_some, Option.isSome_some, true_and, and_assoc]
 repeat refine gA ?_
 cases hr
 exact lf
theorem f99 : FnFact Tryz.prog 99 T99.sp := ⟨⟨Tryz.f99, Tryz.func99, by decide, rfl⟩, v99⟩
end

/- martensite/steel.kelvinsErr -/
def r63 (x0 : Int) (x1 : Int) : Option (Int) :=
  (r99 x0).bind fun v1 =>
   (r99 x1).bind fun v2 =>
    (r48 (decide (x0 ≤ x1)) 9).bind fun v3 =>
     (r45 [v1, v2, v3]).bind fun v4 =>
      if (v4 != 0) = true then
       some v4
       else (r48 (decide ((IntKind.i64.wrap (x1 - x0)) ≤ 50)) 8).bind fun v5 =>
        some v5
def T63 : TSpec qA4 := mkT qE4 qd4 (fun ⟨x0, x1⟩ => r63 x0 x1) qu4 false
theorem TP63 (c0 c1 : D) : T63.sp.pre [.agg [c0, c1]] = (eqvArgs (qt4 c0 c1) (qp4 qw4 c0 c1) ∧ (qp4 r63 c0 c1).isSome = true) := (rfl)
theorem TR63 (c0 c1 : D) : T63.sp.res [.agg [c0, c1]] = qu4 ((qp4 r63 c0 c1).getD default) := (rfl)
theorem TA63 : T63.sp.alias = false := (rfl)
def tb63 : Fns := lk [(45, T45.sp), (48, T48.sp), (99, T99.sp)]
theorem tb63_ok : FnsOk Tryz.prog tb63 := .cons f45 (.cons f48 (.cons f99 (FnsOk.nil)))
theorem tb63_45 : tb63 45 = some T45.sp := rfl
theorem tb63_48 : tb63 48 = some T48.sp := rfl
theorem tb63_99 : tb63 99 = some T99.sp := rfl
attribute [go_sem] TP63 TR63 TA63
section
attribute [local go_sem] T63 tb63_45 tb63_48 tb63_99 Tryz.results63
theorem v63 : Valid Tryz.prog 63 T63.sp := by
 refine valid_t (fn := Tryz.f63) (n := 28) ty_ok tb63_ok Tryz.func63 rfl Tryz.ntmps63 ?_
 rintro ⟨x0, x1⟩ hx
 obtain ⟨r, hr⟩ := oE (show (r63 x0 x1).isSome = true from hx)
 have hres : T63.res (x0, x1) = qu4 r := by simp only [T63, mkT, hr, oG]
 refine ⟨nL rfl, fun stop S => ?_⟩
 rw [hres] at S
 unfold r63 at hr
 refine S.gx [] ?_
 obtain ⟨v1, hv1, hr⟩ := of_bind0 hr
 obtain ⟨v2, hv2, hr⟩ := of_bind0 hr
 obtain ⟨v3, hv3, hr⟩ := of_bind0 hr
 obtain ⟨v4, hv4, hr⟩ := of_bind0 hr
 try simp only [hv1, hv2, hv3, hv4, Option.getD_some, Option.isSome_some, true_and, and_assoc]
 repeat refine gA ?_
 refine ⟨?_, ?_⟩ <;> intro hc
 ·have hr := ifP hr hc
  repeat refine gA ?_
  cases hr
  exact lf
 ·have hr := ifN hr hc
  obtain ⟨v5, hv5, hr⟩ := of_bind0 hr
  try simp only [hv5, oG, oI, true_and, and_assoc]
  repeat refine gA ?_
  cases hr
  exact lf
theorem f63 : FnFact Tryz.prog 63 T63.sp := ⟨⟨Tryz.f63, Tryz.func63, by decide, rfl⟩, v63⟩
end

/- martensite/steel.whole -/
def r114 (a0 : Int) : Option (Int) :=
  some (if 1000000 < a0 then 1000000 else a0)
def T114 : TSpec qA3 := mkT qE3 qd3 r114 qu4 false
theorem TP114 (c0 : D) : T114.sp.pre [.c c0] = (eqvArgs (qt3 c0) (qp3 qw3 c0) ∧ (qp3 r114 c0).isSome = true) := (rfl)
theorem TR114 (c0 : D) : T114.sp.res [.c c0] = qu4 ((qp3 r114 c0).getD default) := (rfl)
theorem TA114 : T114.sp.alias = false := (rfl)
def tb114 : Fns := lk []
theorem tb114_ok : FnsOk Tryz.prog tb114 := FnsOk.nil
attribute [go_sem] TP114 TR114 TA114
section
attribute [local go_sem] T114 Tryz.results114
theorem v114 : Valid Tryz.prog 114 T114.sp := by
 refine valid_t (fn := Tryz.f114) (n := 5) ty_ok tb114_ok Tryz.func114 rfl Tryz.ntmps114 ?_
 rintro a0 hx
 obtain ⟨r, hr⟩ := oE (show (r114 a0).isSome = true from hx)
 have hres : T114.res a0 = qu4 r := by simp only [T114, mkT, hr, oG]
 refine ⟨nL rfl, fun stop S => ?_⟩
 rw [hres] at S
 unfold r114 at hr
 refine S.gx [] ?_
 repeat refine gA ?_
 cases hr
 exact lf
theorem f114 : FnFact Tryz.prog 114 T114.sp := ⟨⟨Tryz.f114, Tryz.func114, by decide, rfl⟩, v114⟩
end

/- martensite/steel.hot$1 -/
def r115 (a0 : Int) (a1 : Int) (x1 : Int) (x2 : Int) (x3 : Int) (x0 : Int) : Option (Int) :=
  if (decide (a1 > 0)) = true then
   some (if 100000 < IntKind.i64.wrap (a0 + x0) then 100000 else IntKind.i64.wrap (a0 + x0))
   else some (if 100000 < a0 then 100000 else a0)
def T115 : TSpec qA29 := mkT qE29 qd29 (fun ⟨a0, a1, x1, x2, x3, x0⟩ => r115 a0 a1 x1 x2 x3 x0) qu4 false
theorem TP115 (c0 c1 c2 c3 c4 c5 : D) : T115.sp.pre [.c c0, .c c1, .ptr [c2, c3, c4, c5]] = (eqvArgs (qt29 c0 c1 c2 c3 c4 c5) (qp29 qw29 c0 c1 c2 c3 c4 c5) ∧ (qp29 r115 c0 c1 c2 c3 c4 c5).isSome = true) := (rfl)
theorem TR115 (c0 c1 c2 c3 c4 c5 : D) : T115.sp.res [.c c0, .c c1, .ptr [c2, c3, c4, c5]] = qu4 ((qp29 r115 c0 c1 c2 c3 c4 c5).getD default) := (rfl)
theorem TA115 : T115.sp.alias = false := (rfl)
def tb115 : Fns := lk []
theorem tb115_ok : FnsOk Tryz.prog tb115 := FnsOk.nil
attribute [go_sem] TP115 TR115 TA115
section
attribute [local go_sem] T115 Tryz.results115
theorem v115 : Valid Tryz.prog 115 T115.sp := by
 refine valid_t (fn := Tryz.f115) (n := 14) ty_ok tb115_ok Tryz.func115 rfl Tryz.ntmps115 ?_
 rintro ⟨a0, a1, x1, x2, x3, x0⟩ hx
 obtain ⟨r, hr⟩ := oE (show (r115 a0 a1 x1 x2 x3 x0).isSome = true from hx)
 have hres : T115.res (a0, a1, x1, x2, x3, x0) = qu4 r := by simp only [T115, mkT, hr, oG]
 refine ⟨nL rfl, fun stop S => ?_⟩
 rw [hres] at S
 unfold r115 at hr
 refine S.gx [] ?_
 repeat refine gA ?_
 refine ⟨?_, ?_⟩ <;> intro hc
 ·have hr := ifP hr hc
  repeat refine gA ?_
  cases hr
  exact lf
 ·have hr := ifN hr hc
  repeat refine gA ?_
  cases hr
  exact lf
theorem f115 : FnFact Tryz.prog 115 T115.sp := ⟨⟨Tryz.f115, Tryz.func115, by decide, rfl⟩, v115⟩
end

/- martensite/steel.hot -/
def r88 (x4 : Int) (x5 : Int) (x12 : Int) (x13 : Int) (x6 : Int) (x7 : Int) (x8 : Int) (x9 : Int) (x14 : Int) (x15 : Int) (x10 : Int) (x11 : Int) (x16 : Int) (x17 : Int) (x2 : Int) (x0 : Int) (x1 : Int) (x3 : Int) : Option (Int × Int × Int × Int × Int × Int × Int × Int × Int × Int × Int × Int × Int × Int) :=
  (r114 (IntKind.i64.wrap ((IntKind.i64.wrap (x4 + x6)) + x8))).bind fun v1 =>
   (r114 (IntKind.i64.wrap ((IntKind.i64.wrap (x5 + x7)) + x9))).bind fun v2 =>
    (r115 x10 (IntKind.i64.wrap (1000000 - (if 0 < IntKind.i64.wrap (v2 - x0) then IntKind.i64.wrap (v2 - x0) else 0))) x2 x0 x1 x3).bind fun v3 =>
     (r115 x11 (IntKind.i64.wrap (1000000 - (if 0 < IntKind.i64.wrap (v1 - x1) then IntKind.i64.wrap (v1 - x1) else 0))) x2 x0 x1 x3).bind fun v4 =>
      some ((if 0 < IntKind.i64.wrap (v1 - x1) then IntKind.i64.wrap (v1 - x1) else 0), (if 0 < IntKind.i64.wrap (v2 - x0) then IntKind.i64.wrap (v2 - x0) else 0), IntKind.i64.wrap (1000000 - (if 0 < IntKind.i64.wrap (v2 - x0) then IntKind.i64.wrap (v2 - x0) else 0)), IntKind.i64.wrap (1000000 - (if 0 < IntKind.i64.wrap (v1 - x1) then IntKind.i64.wrap (v1 - x1) else 0)), 0, 0, 0, 0, 0, 0, v3, v4, 0, 0)
def T88 : TSpec qA30 := mkT qE30 qd30 (fun ⟨x4, x5, x12, x13, x6, x7, x8, x9, x14, x15, x10, x11, x16, x17, x2, x0, x1, x3⟩ => r88 x4 x5 x12 x13 x6 x7 x8 x9 x14 x15 x10 x11 x16 x17 x2 x0 x1 x3) qu15 false
theorem TP88 (c0 c1 c2 c3 c4 c5 c6 c7 c8 c9 c10 c11 c12 c13 c14 c15 c16 c17 : D) : T88.sp.pre [.agg [c0, c1, c2, c3, c4, c5, c6, c7, c8, c9, c10, c11, c12, c13], .agg [c14, c15, c16, c17]] = (eqvArgs (qt30 c0 c1 c2 c3 c4 c5 c6 c7 c8 c9 c10 c11 c12 c13 c14 c15 c16 c17) (qp30 qw30 c0 c1 c2 c3 c4 c5 c6 c7 c8 c9 c10 c11 c12 c13 c14 c15 c16 c17) ∧ (qp30 r88 c0 c1 c2 c3 c4 c5 c6 c7 c8 c9 c10 c11 c12 c13 c14 c15 c16 c17).isSome = true) := (rfl)
theorem TR88 (c0 c1 c2 c3 c4 c5 c6 c7 c8 c9 c10 c11 c12 c13 c14 c15 c16 c17 : D) : T88.sp.res [.agg [c0, c1, c2, c3, c4, c5, c6, c7, c8, c9, c10, c11, c12, c13], .agg [c14, c15, c16, c17]] = qu15 ((qp30 r88 c0 c1 c2 c3 c4 c5 c6 c7 c8 c9 c10 c11 c12 c13 c14 c15 c16 c17).getD default) := (rfl)
theorem TA88 : T88.sp.alias = false := (rfl)
def tb88 : Fns := lk [(114, T114.sp), (115, T115.sp)]
theorem tb88_ok : FnsOk Tryz.prog tb88 := .cons f114 (.cons f115 (FnsOk.nil))
theorem tb88_114 : tb88 114 = some T114.sp := rfl
theorem tb88_115 : tb88 115 = some T115.sp := rfl
attribute [go_sem] TP88 TR88 TA88
section
attribute [local go_sem] T88 tb88_114 tb88_115 Tryz.results88
theorem v88 : Valid Tryz.prog 88 T88.sp := by
 refine valid_t (fn := Tryz.f88) (n := 82) ty_ok tb88_ok Tryz.func88 rfl Tryz.ntmps88 ?_
 rintro ⟨x4, x5, x12, x13, x6, x7, x8, x9, x14, x15, x10, x11, x16, x17, x2, x0, x1, x3⟩ hx
 obtain ⟨r, hr⟩ := oE (show (r88 x4 x5 x12 x13 x6 x7 x8 x9 x14 x15 x10 x11 x16 x17 x2 x0 x1 x3).isSome = true from hx)
 have hres : T88.res (x4, x5, x12, x13, x6, x7, x8, x9, x14, x15, x10, x11, x16, x17, x2, x0, x1, x3) = qu15 r := by simp only [T88, mkT, hr, oG]
 refine ⟨nL rfl, fun stop S => ?_⟩
 rw [hres] at S
 unfold r88 at hr
 refine S.gx [3, 7] ?_
 obtain ⟨v1, hv1, hr⟩ := of_bind0 hr
 obtain ⟨v2, hv2, hr⟩ := of_bind0 hr
 try simp only [hv1, hv2, Option.getD_some, Option.isSome_some, true_and, and_assoc]
 repeat refine gA ?_
 refine S.prune [2, 3, 4, 5, 6] ?_
 refine S.gx [7] ?_
 repeat refine gA ?_
 obtain ⟨v3, hv3, hr⟩ := of_bind0 hr
 obtain ⟨v4, hv4, hr⟩ := of_bind0 hr
 try simp only [hv3, hv4, Option.getD_some, Option.isSome_some, true_and, and_assoc]
 repeat refine gA ?_
 refine S.prune [4, 6] ?_
 refine S.gx [3] ?_
 repeat refine gA ?_
 cases hr
 exact lf
theorem f88 : FnFact Tryz.prog 88 T88.sp := ⟨⟨Tryz.f88, Tryz.func88, by decide, rfl⟩, v88⟩
end

/- martensite/steel.cooled -/
def r90 (x4 : Int) (x5 : Int) (x0 : Int) (x1 : Int) (x6 : Int) (x7 : Int) (x8 : Int) (x9 : Int) (x14 : Int) (x15 : Int) (x10 : Int) (x11 : Int) (x12 : Int) (x13 : Int) (x18 : Int) (x16 : Int) (x17 : Int) (x2 : Int) (x3 : Int) : Option (Int × Int × Int × Int × Int × Int × Int × Int × Int × Int × Int × Int × Int × Int) :=
  (r114 (IntKind.i64.wrap (x14 + x16))).bind fun v1 =>
   (r114 (IntKind.i64.wrap (x15 + x17))).bind fun v2 =>
    if (v1 == 1000000) = true then
     if (v2 == 1000000) = true then
      (r114 (IntKind.i64.wrap (x7 + (if x3 < x1 then x3 else x1)))).bind fun v3 =>
       some (x4, x5, (if 0 < IntKind.i64.wrap (x0 - x3) then IntKind.i64.wrap (x0 - x3) else 0), (if 0 < IntKind.i64.wrap (x1 - x2) then IntKind.i64.wrap (x1 - x2) else 0), IntKind.i64.wrap (x6 + (if x2 < x0 then x2 else x0)), v3, x8, x9, v1, v2, x10, x11, x12, x13)
      else (r114 (IntKind.i64.wrap (x7 + (if 0 < x1 then 0 else x1)))).bind fun v4 =>
       some (x4, x5, (if 0 < IntKind.i64.wrap (x0 - 0) then IntKind.i64.wrap (x0 - 0) else 0), (if 0 < IntKind.i64.wrap (x1 - x2) then IntKind.i64.wrap (x1 - x2) else 0), IntKind.i64.wrap (x6 + (if x2 < x0 then x2 else x0)), v4, x8, x9, v1, v2, x10, x11, x12, x13)
     else if (v2 == 1000000) = true then
      (r114 (IntKind.i64.wrap (x7 + (if x3 < x1 then x3 else x1)))).bind fun v5 =>
       some (x4, x5, (if 0 < IntKind.i64.wrap (x0 - x3) then IntKind.i64.wrap (x0 - x3) else 0), (if 0 < IntKind.i64.wrap (x1 - 0) then IntKind.i64.wrap (x1 - 0) else 0), IntKind.i64.wrap (x6 + (if 0 < x0 then 0 else x0)), v5, x8, x9, v1, v2, x10, x11, x12, x13)
      else (r114 (IntKind.i64.wrap (x7 + (if 0 < x1 then 0 else x1)))).bind fun v6 =>
       some (x4, x5, (if 0 < IntKind.i64.wrap (x0 - 0) then IntKind.i64.wrap (x0 - 0) else 0), (if 0 < IntKind.i64.wrap (x1 - 0) then IntKind.i64.wrap (x1 - 0) else 0), IntKind.i64.wrap (x6 + (if 0 < x0 then 0 else x0)), v6, x8, x9, v1, v2, x10, x11, x12, x13)
def T90 : TSpec qA31 := mkT qE31 qd31 (fun ⟨x4, x5, x0, x1, x6, x7, x8, x9, x14, x15, x10, x11, x12, x13, x18, x16, x17, x2, x3⟩ => r90 x4 x5 x0 x1 x6 x7 x8 x9 x14 x15 x10 x11 x12 x13 x18 x16 x17 x2 x3) qu15 false
theorem TP90 (c0 c1 c2 c3 c4 c5 c6 c7 c8 c9 c10 c11 c12 c13 c14 c15 c16 c17 c18 : D) : T90.sp.pre [.agg [c0, c1, c2, c3, c4, c5, c6, c7, c8, c9, c10, c11, c12, c13], .agg [c14, c15, c16, c17, c18]] = (eqvArgs (qt31 c0 c1 c2 c3 c4 c5 c6 c7 c8 c9 c10 c11 c12 c13 c14 c15 c16 c17 c18) (qp31 qw31 c0 c1 c2 c3 c4 c5 c6 c7 c8 c9 c10 c11 c12 c13 c14 c15 c16 c17 c18) ∧ (qp31 r90 c0 c1 c2 c3 c4 c5 c6 c7 c8 c9 c10 c11 c12 c13 c14 c15 c16 c17 c18).isSome = true) := (rfl)
theorem TR90 (c0 c1 c2 c3 c4 c5 c6 c7 c8 c9 c10 c11 c12 c13 c14 c15 c16 c17 c18 : D) : T90.sp.res [.agg [c0, c1, c2, c3, c4, c5, c6, c7, c8, c9, c10, c11, c12, c13], .agg [c14, c15, c16, c17, c18]] = qu15 ((qp31 r90 c0 c1 c2 c3 c4 c5 c6 c7 c8 c9 c10 c11 c12 c13 c14 c15 c16 c17 c18).getD default) := (rfl)
theorem TA90 : T90.sp.alias = false := (rfl)
def tb90 : Fns := lk [(114, T114.sp)]
theorem tb90_ok : FnsOk Tryz.prog tb90 := .cons f114 (FnsOk.nil)
theorem tb90_114 : tb90 114 = some T114.sp := rfl
attribute [go_sem] TP90 TR90 TA90
section
attribute [local go_sem] T90 tb90_114 Tryz.results90
theorem v90 : Valid Tryz.prog 90 T90.sp := by
 refine valid_t (fn := Tryz.f90) (n := 79) ty_ok tb90_ok Tryz.func90 rfl Tryz.ntmps90 ?_
 rintro ⟨x4, x5, x0, x1, x6, x7, x8, x9, x14, x15, x10, x11, x12, x13, x18, x16, x17, x2, x3⟩ hx
 obtain ⟨r, hr⟩ := oE (show (r90 x4 x5 x0 x1 x6 x7 x8 x9 x14 x15 x10 x11 x12 x13 x18 x16 x17 x2 x3).isSome = true from hx)
 have hres : T90.res (x4, x5, x0, x1, x6, x7, x8, x9, x14, x15, x10, x11, x12, x13, x18, x16, x17, x2, x3) = qu15 r := by simp only [T90, mkT, hr, oG]
 refine ⟨nL rfl, fun stop S => ?_⟩
 rw [hres] at S
 unfold r90 at hr
 refine S.gx [6, 7, 10] ?_
 obtain ⟨v1, hv1, hr⟩ := of_bind0 hr
 obtain ⟨v2, hv2, hr⟩ := of_bind0 hr
 try simp only [hv1, hv2, Option.getD_some, Option.isSome_some, true_and, and_assoc]
 repeat refine gA ?_
 refine ⟨?_, ?_⟩ <;> intro hc
 ·have hr := ifP hr hc
  repeat refine gA ?_
  refine ⟨?_, ?_⟩ <;> intro hc
  ·have hr := ifP hr hc
   repeat refine gA ?_
   refine S.prune [2, 3, 4, 5] ?_
   refine S.gx [7, 10] ?_
   repeat refine gA ?_
   refine S.prune [2, 4, 5] ?_
   refine S.gx [6, 10] ?_
   repeat refine gA ?_
   obtain ⟨v3, hv3, hr⟩ := of_bind0 hr
   try simp only [hv3, oG, oI, true_and, and_assoc]
   repeat refine gA ?_
   refine S.prune [2, 4] ?_
   refine S.gx [6, 7] ?_
   repeat refine gA ?_
   cases hr
   exact lf
  ·have hr := ifN hr hc
   repeat refine gA ?_
   refine S.prune [2, 4, 5] ?_
   refine S.gx [6, 10] ?_
   repeat refine gA ?_
   obtain ⟨v4, hv4, hr⟩ := of_bind0 hr
   try simp only [hv4, oG, oI, true_and, and_assoc]
   repeat refine gA ?_
   refine S.prune [2, 4] ?_
   refine S.gx [6, 7] ?_
   repeat refine gA ?_
   cases hr
   exact lf
 ·have hr := ifN hr hc
  repeat refine gA ?_
  refine ⟨?_, ?_⟩ <;> intro hc
  ·have hr := ifP hr hc
   repeat refine gA ?_
   refine S.prune [2, 3, 4, 5] ?_
   refine S.gx [7, 10] ?_
   repeat refine gA ?_
   refine S.prune [2, 4, 5] ?_
   refine S.gx [6, 10] ?_
   repeat refine gA ?_
   obtain ⟨v5, hv5, hr⟩ := of_bind0 hr
   try simp only [hv5, oG, oI, true_and, and_assoc]
   repeat refine gA ?_
   refine S.prune [2, 4] ?_
   refine S.gx [6, 7] ?_
   repeat refine gA ?_
   cases hr
   exact lf
  ·have hr := ifN hr hc
   repeat refine gA ?_
   refine S.prune [2, 4, 5] ?_
   refine S.gx [6, 10] ?_
   repeat refine gA ?_
   obtain ⟨v6, hv6, hr⟩ := of_bind0 hr
   try simp only [hv6, oG, oI, true_and, and_assoc]
   repeat refine gA ?_
   refine S.prune [2, 4] ?_
   refine S.gx [6, 7] ?_
   repeat refine gA ?_
   cases hr
   exact lf
theorem f90 : FnFact Tryz.prog 90 T90.sp := ⟨⟨Tryz.f90, Tryz.func90, by decide, rfl⟩, v90⟩
end
end Go.Proofs.YtfkmbdfajpdjjaaGreatDoor

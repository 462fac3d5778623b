/- Contracts of functions, written by wip/dec. -/
import Derived.Test.YtfkmbdfajpdjjaaGreatDoorF00
import Derived.Test.YtfkmbdfajpdjjaaGreatDoorF01
import Derived.Test.YtfkmbdfajpdjjaaGreatDoorF02
import Derived.Test.YtfkmbdfajpdjjaaGreatDoorF03
import Derived.Test.YtfkmbdfajpdjjaaGreatDoorF06
set_option linter.unusedVariables false
set_option linter.unusedSimpArgs false
set_option maxHeartbeats 4000000
set_option maxRecDepth 20000
namespace Go.Proofs.YtfkmbdfajpdjjaaGreatDoor
open Go.Abs
abbrev qA32 := Int × Int × Int × Int × Int × Int × Int × Int × Int × Int × Int × Int × Int × Int × Int × Int × Int
def qw32 (a0 : Int) (a1 : Int) (a2 : Int) (a3 : Int) (a4 : Int) (a5 : Int) (a6 : Int) (a7 : Int) (a8 : Int) (a9 : Int) (a10 : Int) (a11 : Int) (a12 : Int) (a13 : Int) (a14 : Int) (a15 : Int) (a16 : Int) : List Arg := [.agg [.int .i64 a0, .int .i64 a1, .int .i64 a2, .int .i64 a3, .int .i64 a4, .int .i64 a5, .int .i64 a6, .int .i64 a7, .int .i64 a8, .int .i64 a9, .int .i64 a10, .int .i64 a11, .int .i64 a12, .int .i64 a13], .agg [.int .i64 a14, .int .i64 a15, .int .i64 a16]]
def qE32 : qA32 → List Arg := fun ⟨a0, a1, a2, a3, a4, a5, a6, a7, a8, a9, a10, a11, a12, a13, a14, a15, a16⟩ => qw32 a0 a1 a2 a3 a4 a5 a6 a7 a8 a9 a10 a11 a12 a13 a14 a15 a16
def qd32 (a : List Arg) : qA32 := (dInt (aCell a 0 0), dInt (aCell a 0 1), dInt (aCell a 0 2), dInt (aCell a 0 3), dInt (aCell a 0 4), dInt (aCell a 0 5), dInt (aCell a 0 6), dInt (aCell a 0 7), dInt (aCell a 0 8), dInt (aCell a 0 9), dInt (aCell a 0 10), dInt (aCell a 0 11), dInt (aCell a 0 12), dInt (aCell a 0 13), dInt (aCell a 1 0), dInt (aCell a 1 1), dInt (aCell a 1 2))
def qp32 {β : Type} (f : Int → Int → Int → Int → Int → Int → Int → Int → Int → Int → Int → Int → Int → Int → Int → Int → Int → β) (c0 c1 c2 c3 c4 c5 c6 c7 c8 c9 c10 c11 c12 c13 c14 c15 c16 : D) : β := f (dInt c0) (dInt c1) (dInt c2) (dInt c3) (dInt c4) (dInt c5) (dInt c6) (dInt c7) (dInt c8) (dInt c9) (dInt c10) (dInt c11) (dInt c12) (dInt c13) (dInt c14) (dInt c15) (dInt c16)
def qt32 (c0 c1 c2 c3 c4 c5 c6 c7 c8 c9 c10 c11 c12 c13 c14 c15 c16 : D) : List Arg := [.agg [c0, c1, c2, c3, c4, c5, c6, c7, c8, c9, c10, c11, c12, c13], .agg [c14, c15, c16]]
attribute [go_sem] qw32 qp32 qt32 qE32
abbrev qA33 := Int × (Option (Int × Int))
def qw33 (a0 : Int) (a1 : Option (Int × Int)) : List Arg := [.c (.int .i64 a0), .ptr [encP d_II a1]]
def qE33 : qA33 → List Arg := fun ⟨a0, a1⟩ => qw33 a0 a1
def qd33 (a : List Arg) : qA33 := (dInt (aCell a 0 0), decP g_II (aCell a 1 0))
def qp33 {β : Type} (f : Int → (Option (Int × Int)) → β) (c0 c1 : D) : β := f (dInt c0) (decP g_II c1)
def qt33 (c0 c1 : D) : List Arg := [.c c0, .ptr [c1]]
attribute [go_sem] qw33 qp33 qt33 qE33
abbrev qA35 := Int × Int × Int × Int × Int × Int × Int × Int × Int × Int × Int × Int × Int × Int × Int × Int × Int × Int × Int × Int × Int × Int × Int × Int × Int × Int × Int × Int
def qw35 (a0 : Int) (a1 : Int) (a2 : Int) (a3 : Int) (a4 : Int) (a5 : Int) (a6 : Int) (a7 : Int) (a8 : Int) (a9 : Int) (a10 : Int) (a11 : Int) (a12 : Int) (a13 : Int) (a14 : Int) (a15 : Int) (a16 : Int) (a17 : Int) (a18 : Int) (a19 : Int) (a20 : Int) (a21 : Int) (a22 : Int) (a23 : Int) (a24 : Int) (a25 : Int) (a26 : Int) (a27 : Int) : List Arg := [.agg [.int .i64 a0, .int .i64 a1, .int .i64 a2, .int .i64 a3, .int .i64 a4, .int .i64 a5, .int .i64 a6, .int .i64 a7, .int .i64 a8, .int .i64 a9, .int .i64 a10, .int .i64 a11, .int .i64 a12, .int .i64 a13], .agg [.int .i64 a14, .int .i64 a15, .int .i64 a16, .int .i64 a17, .int .i64 a18, .int .i64 a19, .int .i64 a20, .int .i64 a21, .int .i64 a22, .int .i64 a23, .int .i64 a24, .int .i64 a25, .int .i64 a26, .int .i64 a27]]
def qE35 : qA35 → List Arg := fun ⟨a0, a1, a2, a3, a4, a5, a6, a7, a8, a9, a10, a11, a12, a13, a14, a15, a16, a17, a18, a19, a20, a21, a22, a23, a24, a25, a26, a27⟩ => qw35 a0 a1 a2 a3 a4 a5 a6 a7 a8 a9 a10 a11 a12 a13 a14 a15 a16 a17 a18 a19 a20 a21 a22 a23 a24 a25 a26 a27
def qd35 (a : List Arg) : qA35 := (dInt (aCell a 0 0), dInt (aCell a 0 1), dInt (aCell a 0 2), dInt (aCell a 0 3), dInt (aCell a 0 4), dInt (aCell a 0 5), dInt (aCell a 0 6), dInt (aCell a 0 7), dInt (aCell a 0 8), dInt (aCell a 0 9), dInt (aCell a 0 10), dInt (aCell a 0 11), dInt (aCell a 0 12), dInt (aCell a 0 13), dInt (aCell a 1 0), dInt (aCell a 1 1), dInt (aCell a 1 2), dInt (aCell a 1 3), dInt (aCell a 1 4), dInt (aCell a 1 5), dInt (aCell a 1 6), dInt (aCell a 1 7), dInt (aCell a 1 8), dInt (aCell a 1 9), dInt (aCell a 1 10), dInt (aCell a 1 11), dInt (aCell a 1 12), dInt (aCell a 1 13))
def qp35 {β : Type} (f : Int → Int → Int → Int → Int → Int → Int → Int → Int → Int → Int → Int → Int → Int → Int → Int → Int → Int → Int → Int → Int → Int → Int → Int → Int → Int → Int → Int → β) (c0 c1 c2 c3 c4 c5 c6 c7 c8 c9 c10 c11 c12 c13 c14 c15 c16 c17 c18 c19 c20 c21 c22 c23 c24 c25 c26 c27 : D) : β := f (dInt c0) (dInt c1) (dInt c2) (dInt c3) (dInt c4) (dInt c5) (dInt c6) (dInt c7) (dInt c8) (dInt c9) (dInt c10) (dInt c11) (dInt c12) (dInt c13) (dInt c14) (dInt c15) (dInt c16) (dInt c17) (dInt c18) (dInt c19) (dInt c20) (dInt c21) (dInt c22) (dInt c23) (dInt c24) (dInt c25) (dInt c26) (dInt c27)
def qt35 (c0 c1 c2 c3 c4 c5 c6 c7 c8 c9 c10 c11 c12 c13 c14 c15 c16 c17 c18 c19 c20 c21 c22 c23 c24 c25 c26 c27 : D) : List Arg := [.agg [c0, c1, c2, c3, c4, c5, c6, c7, c8, c9, c10, c11, c12, c13], .agg [c14, c15, c16, c17, c18, c19, c20, c21, c22, c23, c24, c25, c26, c27]]
attribute [go_sem] qw35 qp35 qt35 qE35
abbrev qA39 := Int × Int × (List (Int × Int)) × Int × Bool
def qw39 (a0 : Int) (a1 : Int) (a2 : List (Int × Int)) (a3 : Int) (a4 : Bool) : List Arg := [.c (.int .i64 a0), .c (.int .i64 a1), .c (encF 2 d_II a2), .c (.int .i64 a3), .c (.bool a4)]
def qE39 : qA39 → List Arg := fun ⟨a0, a1, a2, a3, a4⟩ => qw39 a0 a1 a2 a3 a4
def qd39 (a : List Arg) : qA39 := (dInt (aCell a 0 0), dInt (aCell a 1 0), decF g_II (aCell a 2 0), dInt (aCell a 3 0), dBool (aCell a 4 0))
def qp39 {β : Type} (f : Int → Int → (List (Int × Int)) → Int → Bool → β) (c0 c1 c2 c3 c4 : D) : β := f (dInt c0) (dInt c1) (decF g_II c2) (dInt c3) (dBool c4)
def qt39 (c0 c1 c2 c3 c4 : D) : List Arg := [.c c0, .c c1, .c c2, .c c3, .c c4]
attribute [go_sem] qw39 qp39 qt39 qE39
/- martensite/steel.quenched$1 -/
def r120 (a0 : Int) (a1 : Int) (a2 : Int) : Option (Int) :=
  (r121 a0 a1 a2).bind fun v1 =>
   some (IntKind.i64.wrap ((IntKind.i64.wrap (a0 + a1)) - v1))
def T120 : TSpec qA2 := mkT qE2 qd2 (fun ⟨a0, a1, a2⟩ => r120 a0 a1 a2) qu4 false
theorem TP120 (c0 c1 c2 : D) : T120.sp.pre [.c c0, .c c1, .c c2] = (eqvArgs (qt2 c0 c1 c2) (qp2 qw2 c0 c1 c2) ∧ (qp2 r120 c0 c1 c2).isSome = true) := (rfl)
theorem TR120 (c0 c1 c2 : D) : T120.sp.res [.c c0, .c c1, .c c2] = qu4 ((qp2 r120 c0 c1 c2).getD default) := (rfl)
theorem TA120 : T120.sp.alias = false := (rfl)
def tb120 : Fns := lk [(121, T121.sp)]
theorem tb120_ok : FnsOk Tryz.prog tb120 := .cons f121 (FnsOk.nil)
theorem tb120_121 : tb120 121 = some T121.sp := rfl
attribute [go_sem] TP120 TR120 TA120
section
attribute [local go_sem] T120 tb120_121 Tryz.results120
theorem v120 : Valid Tryz.prog 120 T120.sp := by
 refine valid_t (fn := Tryz.f120) (n := 15) ty_ok tb120_ok Tryz.func120 rfl Tryz.ntmps120 ?_
 rintro ⟨a0, a1, a2⟩ hx
 obtain ⟨r, hr⟩ := oE (show (r120 a0 a1 a2).isSome = true from hx)
 have hres : T120.res (a0, a1, a2) = qu4 r := by simp only [T120, mkT, hr, oG]
 refine ⟨nL rfl, fun stop S => ?_⟩
 rw [hres] at S
 unfold r120 at hr
 refine S.gx [] ?_
 obtain ⟨v1, hv1, hr⟩ := of_bind0 hr
 try simp only [hv1, oG, oI, true_and, and_assoc]
 repeat refine gA ?_
 cases hr
 exact lf
theorem f120 : FnFact Tryz.prog 120 T120.sp := ⟨⟨Tryz.f120, Tryz.func120, by decide, rfl⟩, v120⟩
end

/- martensite/steel.quenched -/
def r92 (x6 : Int) (x7 : Int) (x0 : Int) (x1 : Int) (x8 : Int) (x9 : Int) (x2 : Int) (x3 : Int) (x10 : Int) (x11 : Int) (x12 : Int) (x13 : Int) (x14 : Int) (x15 : Int) (x16 : Int) (x4 : Int) (x5 : Int) : Option (Int × Int × Int × Int × Int × Int × Int × Int × Int × Int × Int × Int × Int × Int) :=
  (r121 x0 x2 x4).bind fun v1 =>
   (r121 x1 x3 x5).bind fun v2 =>
    (r114 v2).bind fun v3 =>
     (r120 x0 x2 x5).bind fun v4 =>
      (r120 x1 x3 x4).bind fun v5 =>
       some (x6, x7, v4, v5, x8, x9, v1, v3, x10, x11, x12, x13, x14, x15)
def T92 : TSpec qA32 := mkT qE32 qd32 (fun ⟨x6, x7, x0, x1, x8, x9, x2, x3, x10, x11, x12, x13, x14, x15, x16, x4, x5⟩ => r92 x6 x7 x0 x1 x8 x9 x2 x3 x10 x11 x12 x13 x14 x15 x16 x4 x5) qu15 false
theorem TP92 (c0 c1 c2 c3 c4 c5 c6 c7 c8 c9 c10 c11 c12 c13 c14 c15 c16 : D) : T92.sp.pre [.agg [c0, c1, c2, c3, c4, c5, c6, c7, c8, c9, c10, c11, c12, c13], .agg [c14, c15, c16]] = (eqvArgs (qt32 c0 c1 c2 c3 c4 c5 c6 c7 c8 c9 c10 c11 c12 c13 c14 c15 c16) (qp32 qw32 c0 c1 c2 c3 c4 c5 c6 c7 c8 c9 c10 c11 c12 c13 c14 c15 c16) ∧ (qp32 r92 c0 c1 c2 c3 c4 c5 c6 c7 c8 c9 c10 c11 c12 c13 c14 c15 c16).isSome = true) := (rfl)
theorem TR92 (c0 c1 c2 c3 c4 c5 c6 c7 c8 c9 c10 c11 c12 c13 c14 c15 c16 : D) : T92.sp.res [.agg [c0, c1, c2, c3, c4, c5, c6, c7, c8, c9, c10, c11, c12, c13], .agg [c14, c15, c16]] = qu15 ((qp32 r92 c0 c1 c2 c3 c4 c5 c6 c7 c8 c9 c10 c11 c12 c13 c14 c15 c16).getD default) := (rfl)
theorem TA92 : T92.sp.alias = false := (rfl)
def tb92 : Fns := lk [(114, T114.sp), (120, T120.sp), (121, T121.sp)]
theorem tb92_ok : FnsOk Tryz.prog tb92 := .cons f114 (.cons f120 (.cons f121 (FnsOk.nil)))
theorem tb92_114 : tb92 114 = some T114.sp := rfl
theorem tb92_120 : tb92 120 = some T120.sp := rfl
theorem tb92_121 : tb92 121 = some T121.sp := rfl
attribute [go_sem] TP92 TR92 TA92
section
attribute [local go_sem] T92 tb92_114 tb92_120 tb92_121 Tryz.results92
theorem v92 : Valid Tryz.prog 92 T92.sp := by
 refine valid_t (fn := Tryz.f92) (n := 52) ty_ok tb92_ok Tryz.func92 rfl Tryz.ntmps92 ?_
 rintro ⟨x6, x7, x0, x1, x8, x9, x2, x3, x10, x11, x12, x13, x14, x15, x16, x4, x5⟩ hx
 obtain ⟨r, hr⟩ := oE (show (r92 x6 x7 x0 x1 x8 x9 x2 x3 x10 x11 x12 x13 x14 x15 x16 x4 x5).isSome = true from hx)
 have hres : T92.res (x6, x7, x0, x1, x8, x9, x2, x3, x10, x11, x12, x13, x14, x15, x16, x4, x5) = qu15 r := by simp only [T92, mkT, hr, oG]
 refine ⟨nL rfl, fun stop S => ?_⟩
 rw [hres] at S
 unfold r92 at hr
 refine S.gx [5] ?_
 obtain ⟨v1, hv1, hr⟩ := of_bind0 hr
 obtain ⟨v2, hv2, hr⟩ := of_bind0 hr
 obtain ⟨v3, hv3, hr⟩ := of_bind0 hr
 obtain ⟨v4, hv4, hr⟩ := of_bind0 hr
 obtain ⟨v5, hv5, hr⟩ := of_bind0 hr
 try simp only [hv1, hv2, hv3, hv4, hv5, Option.getD_some, Option.isSome_some, true_and, and_assoc]
 repeat refine gA ?_
 refine S.prune [2, 4] ?_
 refine S.gx [] ?_
 repeat refine gA ?_
 cases hr
 exact lf
theorem f92 : FnFact Tryz.prog 92 T92.sp := ⟨⟨Tryz.f92, Tryz.func92, by decide, rfl⟩, v92⟩
end

/- (martensite/steel.rules).boxStep$1 -/
def r94 (a0 : Int) (x0 : Option (Int × Int)) : Option (Int) :=
  if x0.isSome = true then
   if x0.isSome = true then
    some (if 1000000 < IntKind.i64.wrap (a0 + ((x0.getD default).2)) then 1000000 else IntKind.i64.wrap (a0 + ((x0.getD default).2)))
    else none
   else none
def T94 : TSpec qA33 := mkT qE33 qd33 (fun ⟨a0, x0⟩ => r94 a0 x0) qu4 false
theorem TP94 (c0 c1 : D) : T94.sp.pre [.c c0, .ptr [c1]] = (eqvArgs (qt33 c0 c1) (qp33 qw33 c0 c1) ∧ (qp33 r94 c0 c1).isSome = true) := (rfl)
theorem TR94 (c0 c1 : D) : T94.sp.res [.c c0, .ptr [c1]] = qu4 ((qp33 r94 c0 c1).getD default) := (rfl)
theorem TA94 : T94.sp.alias = false := (rfl)
def tb94 : Fns := lk []
theorem tb94_ok : FnsOk Tryz.prog tb94 := FnsOk.nil
attribute [go_sem] TP94 TR94 TA94
section
attribute [local go_sem] T94 Tryz.results94
theorem v94 : Valid Tryz.prog 94 T94.sp := by
 refine valid_t (fn := Tryz.f94) (n := 11) ty_ok tb94_ok Tryz.func94 rfl Tryz.ntmps94 ?_
 rintro ⟨a0, x0⟩ hx
 obtain ⟨r, hr⟩ := oE (show (r94 a0 x0).isSome = true from hx)
 have hres : T94.res (a0, x0) = qu4 r := by simp only [T94, mkT, hr, oG]
 refine ⟨nL rfl, fun stop S => ?_⟩
 rw [hres] at S
 unfold r94 at hr
 refine S.gx [] ?_
 obtain ⟨hg1, hr⟩ := of_guard0 hr
 obtain ⟨hg2, hr⟩ := of_guard0 hr
 repeat refine gA ?_
 cases hr
 exact lf
theorem f94 : FnFact Tryz.prog 94 T94.sp := ⟨⟨Tryz.f94, Tryz.func94, by decide, rfl⟩, v94⟩
end

theorem stop_join52 {σ : Type} {k : List K} {stop : List K → St → Prop} (head : σ → St) (R : σ → Prop) {goal : Prop} (main : (∀ s, R s → stop k (head s)) → goal) (j : ∀ s, R s → stop k (head s)) : goal := main j
/- (martensite/steel.rules).boxStep -/
def j52_2 (x0 : List (Int × Int × Int × Int)) (x1 : List (Int × Int × Int × Int × Int)) (x2 : List (Int × Int × Int)) (x3 : List (Int × Int)) (x4 : Int) (x5 : Int) (x6 : Int) (x7 : Int) (a2 : Int) : (Int × Int × Int × Int × Int × Int × Int × Int × Int × Int × Int × Int × Int × Int) → Option (Int × Int × Int × Int × Int × Int × Int × Int × Int × Int × Int × Int × Int × Int) := fun s2 =>
  (r93 x0 x1 x2 x3 x4 x5 x6 x7 a2).bind fun v7 =>
   if v7.isSome = true then
    (r94 s2.2.2.2.2.2.2.2.2.2.2.2.2.1 v7).bind fun v8 =>
     (r94 s2.2.2.2.2.2.2.2.2.2.2.2.2.2 v7).bind fun v9 =>
      some (s2.1, s2.2.1, s2.2.2.1, s2.2.2.2.1, s2.2.2.2.2.1, s2.2.2.2.2.2.1, s2.2.2.2.2.2.2.1, s2.2.2.2.2.2.2.2.1, s2.2.2.2.2.2.2.2.2.1, s2.2.2.2.2.2.2.2.2.2.1, s2.2.2.2.2.2.2.2.2.2.2.1, s2.2.2.2.2.2.2.2.2.2.2.2.1, v8, v9)
    else some (s2.1, s2.2.1, s2.2.2.1, s2.2.2.2.1, s2.2.2.2.2.1, s2.2.2.2.2.2.1, s2.2.2.2.2.2.2.1, s2.2.2.2.2.2.2.2.1, s2.2.2.2.2.2.2.2.2.1, s2.2.2.2.2.2.2.2.2.2.1, s2.2.2.2.2.2.2.2.2.2.2.1, s2.2.2.2.2.2.2.2.2.2.2.2.1, s2.2.2.2.2.2.2.2.2.2.2.2.2.1, s2.2.2.2.2.2.2.2.2.2.2.2.2.2)
def j52_1 (x0 : List (Int × Int × Int × Int)) (x1 : List (Int × Int × Int × Int × Int)) (x2 : List (Int × Int × Int)) (x3 : List (Int × Int)) (x4 : Int) (x5 : Int) (x6 : Int) (x7 : Int) (a2 : Int) : (Int × Int × Int × Int × Int × Int × Int × Int × Int × Int × Int × Int × Int × Int) → Option (Int × Int × Int × Int × Int × Int × Int × Int × Int × Int × Int × Int × Int × Int) := fun s1 =>
  (r91 x0 x1 x2 x3 x4 x5 x6 x7 a2).bind fun v6 =>
   if v6.isSome = true then
    if v6.isSome = true then
     if v6.isSome = true then
      (r92 s1.1 s1.2.1 s1.2.2.1 s1.2.2.2.1 s1.2.2.2.2.1 s1.2.2.2.2.2.1 s1.2.2.2.2.2.2.1 s1.2.2.2.2.2.2.2.1 s1.2.2.2.2.2.2.2.2.1 s1.2.2.2.2.2.2.2.2.2.1 s1.2.2.2.2.2.2.2.2.2.2.1 s1.2.2.2.2.2.2.2.2.2.2.2.1 s1.2.2.2.2.2.2.2.2.2.2.2.2.1 s1.2.2.2.2.2.2.2.2.2.2.2.2.2 ((v6.getD default).1) ((v6.getD default).2.1) ((v6.getD default).2.2)).bind fun v10 =>
       j52_2 x0 x1 x2 x3 x4 x5 x6 x7 a2 (v10.1, v10.2.1, v10.2.2.1, v10.2.2.2.1, v10.2.2.2.2.1, v10.2.2.2.2.2.1, v10.2.2.2.2.2.2.1, v10.2.2.2.2.2.2.2.1, v10.2.2.2.2.2.2.2.2.1, v10.2.2.2.2.2.2.2.2.2.1, v10.2.2.2.2.2.2.2.2.2.2.1, v10.2.2.2.2.2.2.2.2.2.2.2.1, v10.2.2.2.2.2.2.2.2.2.2.2.2.1, v10.2.2.2.2.2.2.2.2.2.2.2.2.2)
      else none
     else none
    else j52_2 x0 x1 x2 x3 x4 x5 x6 x7 a2 (s1.1, s1.2.1, s1.2.2.1, s1.2.2.2.1, s1.2.2.2.2.1, s1.2.2.2.2.2.1, s1.2.2.2.2.2.2.1, s1.2.2.2.2.2.2.2.1, s1.2.2.2.2.2.2.2.2.1, s1.2.2.2.2.2.2.2.2.2.1, s1.2.2.2.2.2.2.2.2.2.2.1, s1.2.2.2.2.2.2.2.2.2.2.2.1, s1.2.2.2.2.2.2.2.2.2.2.2.2.1, s1.2.2.2.2.2.2.2.2.2.2.2.2.2)
def r52 (x0 : List (Int × Int × Int × Int)) (x1 : List (Int × Int × Int × Int × Int)) (x2 : List (Int × Int × Int)) (x3 : List (Int × Int)) (x4 : Int) (x5 : Int) (x6 : Int) (x7 : Int) (x8 : Int) (x9 : Int) (x10 : Int) (x11 : Int) (x12 : Int) (x13 : Int) (x14 : Int) (x15 : Int) (x16 : Int) (x17 : Int) (x18 : Int) (x19 : Int) (x20 : Int) (x21 : Int) (a2 : Int) : Option (Int × Int × Int × Int × Int × Int × Int × Int × Int × Int × Int × Int × Int × Int) :=
  (r87 x0 x1 x2 x3 x4 x5 x6 x7 a2).bind fun v1 =>
   if v1.isSome = true then
    if v1.isSome = true then
     if v1.isSome = true then
      (r88 x8 x9 x10 x11 x12 x13 x14 x15 x16 x17 x18 x19 x20 x21 ((v1.getD default).1) ((v1.getD default).2.1) ((v1.getD default).2.2.1) ((v1.getD default).2.2.2)).bind fun v2 =>
       some (v2.1, v2.2.1, v2.2.2.1, v2.2.2.2.1, v2.2.2.2.2.1, v2.2.2.2.2.2.1, v2.2.2.2.2.2.2.1, v2.2.2.2.2.2.2.2.1, v2.2.2.2.2.2.2.2.2.1, v2.2.2.2.2.2.2.2.2.2.1, v2.2.2.2.2.2.2.2.2.2.2.1, v2.2.2.2.2.2.2.2.2.2.2.2.1, v2.2.2.2.2.2.2.2.2.2.2.2.2.1, v2.2.2.2.2.2.2.2.2.2.2.2.2.2)
      else none
     else none
    else (r89 x0 x1 x2 x3 x4 x5 x6 x7 a2).bind fun v5 =>
     if v5.isSome = true then
      if v5.isSome = true then
       if v5.isSome = true then
        (r90 x8 x9 x10 x11 x12 x13 x14 x15 x16 x17 x18 x19 x20 x21 ((v5.getD default).1) ((v5.getD default).2.1) ((v5.getD default).2.2.1) ((v5.getD default).2.2.2.1) ((v5.getD default).2.2.2.2)).bind fun v13 =>
         j52_1 x0 x1 x2 x3 x4 x5 x6 x7 a2 (v13.1, v13.2.1, v13.2.2.1, v13.2.2.2.1, v13.2.2.2.2.1, v13.2.2.2.2.2.1, v13.2.2.2.2.2.2.1, v13.2.2.2.2.2.2.2.1, v13.2.2.2.2.2.2.2.2.1, v13.2.2.2.2.2.2.2.2.2.1, v13.2.2.2.2.2.2.2.2.2.2.1, v13.2.2.2.2.2.2.2.2.2.2.2.1, v13.2.2.2.2.2.2.2.2.2.2.2.2.1, v13.2.2.2.2.2.2.2.2.2.2.2.2.2)
        else none
       else none
      else j52_1 x0 x1 x2 x3 x4 x5 x6 x7 a2 (x8, x9, x10, x11, x12, x13, x14, x15, x16, x17, x18, x19, x20, x21)
def T52 : TSpec qA34 := mkT qE34 qd34 (fun ⟨x0, x1, x2, x3, x4, x5, x6, x7, x8, x9, x10, x11, x12, x13, x14, x15, x16, x17, x18, x19, x20, x21, a2⟩ => r52 x0 x1 x2 x3 x4 x5 x6 x7 x8 x9 x10 x11 x12 x13 x14 x15 x16 x17 x18 x19 x20 x21 a2) qu15 false
theorem TP52 (c0 c1 c2 c3 c4 c5 c6 c7 c8 c9 c10 c11 c12 c13 c14 c15 c16 c17 c18 c19 c20 c21 c22 : D) : T52.sp.pre [.agg [c0, c1, c2, c3, c4, c5, c6, c7], .agg [c8, c9, c10, c11, c12, c13, c14, c15, c16, c17, c18, c19, c20, c21], .c c22] = (eqvArgs (qt34 c0 c1 c2 c3 c4 c5 c6 c7 c8 c9 c10 c11 c12 c13 c14 c15 c16 c17 c18 c19 c20 c21 c22) (qp34 qw34 c0 c1 c2 c3 c4 c5 c6 c7 c8 c9 c10 c11 c12 c13 c14 c15 c16 c17 c18 c19 c20 c21 c22) ∧ (qp34 r52 c0 c1 c2 c3 c4 c5 c6 c7 c8 c9 c10 c11 c12 c13 c14 c15 c16 c17 c18 c19 c20 c21 c22).isSome = true) := (rfl)
theorem TR52 (c0 c1 c2 c3 c4 c5 c6 c7 c8 c9 c10 c11 c12 c13 c14 c15 c16 c17 c18 c19 c20 c21 c22 : D) : T52.sp.res [.agg [c0, c1, c2, c3, c4, c5, c6, c7], .agg [c8, c9, c10, c11, c12, c13, c14, c15, c16, c17, c18, c19, c20, c21], .c c22] = qu15 ((qp34 r52 c0 c1 c2 c3 c4 c5 c6 c7 c8 c9 c10 c11 c12 c13 c14 c15 c16 c17 c18 c19 c20 c21 c22).getD default) := (rfl)
theorem TA52 : T52.sp.alias = false := (rfl)
def tb52 : Fns := lk [(87, T87.sp), (88, T88.sp), (89, T89.sp), (90, T90.sp), (91, T91.sp), (92, T92.sp), (93, T93.sp), (94, T94.sp)]
theorem tb52_ok : FnsOk Tryz.prog tb52 := .cons f87 (.cons f88 (.cons f89 (.cons f90 (.cons f91 (.cons f92 (.cons f93 (.cons f94 (FnsOk.nil))))))))
theorem tb52_87 : tb52 87 = some T87.sp := rfl
theorem tb52_88 : tb52 88 = some T88.sp := rfl
theorem tb52_89 : tb52 89 = some T89.sp := rfl
theorem tb52_90 : tb52 90 = some T90.sp := rfl
theorem tb52_91 : tb52 91 = some T91.sp := rfl
theorem tb52_92 : tb52 92 = some T92.sp := rfl
theorem tb52_93 : tb52 93 = some T93.sp := rfl
theorem tb52_94 : tb52 94 = some T94.sp := rfl
attribute [go_sem] TP52 TR52 TA52
section
attribute [local go_sem] T52 tb52_87 tb52_88 tb52_89 tb52_90 tb52_91 tb52_92 tb52_93 tb52_94 Tryz.results52
theorem v52 : Valid Tryz.prog 52 T52.sp := by
 refine valid_t (fn := Tryz.f52) (n := 61) ty_ok tb52_ok Tryz.func52 rfl Tryz.ntmps52 ?_
 rintro ⟨x0, x1, x2, x3, x4, x5, x6, x7, x8, x9, x10, x11, x12, x13, x14, x15, x16, x17, x18, x19, x20, x21, a2⟩ hx
 obtain ⟨r, hr⟩ := oE (show (r52 x0 x1 x2 x3 x4 x5 x6 x7 x8 x9 x10 x11 x12 x13 x14 x15 x16 x17 x18 x19 x20 x21 a2).isSome = true from hx)
 have hres : T52.res (x0, x1, x2, x3, x4, x5, x6, x7, x8, x9, x10, x11, x12, x13, x14, x15, x16, x17, x18, x19, x20, x21, a2) = qu15 r := by simp only [T52, mkT, hr, oG]
 refine ⟨nL rfl, fun stop S => ?_⟩
 rw [hres] at S
 unfold r52 at hr
 refine S.gx [7, 10] ?_
 obtain ⟨v1, hv1, hr⟩ := of_bind0 hr
 try simp only [hv1, oG, oI, true_and, and_assoc]
 repeat refine gA ?_
 refine ⟨?_, ?_⟩ <;> intro hc
 ·have hr := ifP hr hc
  obtain ⟨hg3, hr⟩ := of_guard0 hr
  obtain ⟨hg4, hr⟩ := of_guard0 hr
  obtain ⟨v2, hv2, hr⟩ := of_bind0 hr
  try simp only [hv2, oG, oI, true_and, and_assoc]
  repeat refine gA ?_
  cases hr
  exact lf
 ·have hr := ifN hr hc
  obtain ⟨v5, hv5, hr⟩ := of_bind0 hr
  try simp only [hv5, oG, oI, true_and, and_assoc]
  repeat refine gA ?_
  apply stop_join52 (stop := stop) (fun s1 => ⟨[(2, .c (.d (.int .i64 a2))), (3, .c (.ref 3 0)), (4, .c (.ref 4 0)), (6, .c (.ref 6 0))], [(3, [.d (encF 4 d_IIII x0), .d (encF 5 d_IIIII x1), .d (encF 3 d_III x2), .d (encF 2 d_II x3), .d (.int .i64 x4), .d (.int .i64 x5), .d (.int .i64 x6), .d (.int .i64 x7)]), (4, [.d (.int .i64 s1.1), .d (.int .i64 s1.2.1), .d (.int .i64 s1.2.2.1), .d (.int .i64 s1.2.2.2.1), .d (.int .i64 s1.2.2.2.2.1), .d (.int .i64 s1.2.2.2.2.2.1), .d (.int .i64 s1.2.2.2.2.2.2.1), .d (.int .i64 s1.2.2.2.2.2.2.2.1), .d (.int .i64 s1.2.2.2.2.2.2.2.2.1), .d (.int .i64 s1.2.2.2.2.2.2.2.2.2.1), .d (.int .i64 s1.2.2.2.2.2.2.2.2.2.2.1), .d (.int .i64 s1.2.2.2.2.2.2.2.2.2.2.2.1), .d (.int .i64 s1.2.2.2.2.2.2.2.2.2.2.2.2.1), .d (.int .i64 s1.2.2.2.2.2.2.2.2.2.2.2.2.2)]), (6, [.d (.int .i64 0), .d (.int .i64 0), .d (.int .i64 0), .d (.int .i64 0), .d (.int .i64 0), .d (.int .i64 0), .d (.int .i64 0), .d (.int .i64 0), .d (.int .i64 0), .d (.int .i64 0), .d (.int .i64 0), .d (.int .i64 0), .d (.int .i64 0), .d (.int .i64 0)])], []⟩) (fun s1 => j52_1 x0 x1 x2 x3 x4 x5 x6 x7 a2 s1 = some r)
  ·intro J1
   refine ⟨?_, ?_⟩ <;> intro hc
   ·have hr := ifP hr hc
    obtain ⟨hg14, hr⟩ := of_guard0 hr
    obtain ⟨hg15, hr⟩ := of_guard0 hr
    obtain ⟨v13, hv13, hr⟩ := of_bind0 hr
    try simp only [hv13, oG, oI, true_and, and_assoc]
    repeat refine gA ?_
    refine S.sees [2, 3, 4, 6] [(3, 3), (4, 4), (6, 6)] [] ?_ (J1 _ hr)
    exact lf
   ·have hr := ifN hr hc
    repeat refine gA ?_
    refine S.sees [2, 3, 4, 6] [(3, 3), (4, 4), (6, 6)] [] ?_ (J1 _ hr)
    exact lf
  ·intro s1 hr
   unfold j52_1 at hr
   refine S.gx [7, 10] ?_
   repeat refine gA ?_
   refine S.gx [10] ?_
   obtain ⟨v6, hv6, hr⟩ := of_bind0 hr
   try simp only [hv6, oG, oI, true_and, and_assoc]
   repeat refine gA ?_
   apply stop_join52 (stop := stop) (fun s2 => ⟨[(2, .c (.d (.int .i64 a2))), (3, .c (.ref 3 0)), (4, .c (.ref 4 0)), (6, .c (.ref 6 0))], [(3, [.d (encF 4 d_IIII x0), .d (encF 5 d_IIIII x1), .d (encF 3 d_III x2), .d (encF 2 d_II x3), .d (.int .i64 x4), .d (.int .i64 x5), .d (.int .i64 x6), .d (.int .i64 x7)]), (4, [.d (.int .i64 s2.1), .d (.int .i64 s2.2.1), .d (.int .i64 s2.2.2.1), .d (.int .i64 s2.2.2.2.1), .d (.int .i64 s2.2.2.2.2.1), .d (.int .i64 s2.2.2.2.2.2.1), .d (.int .i64 s2.2.2.2.2.2.2.1), .d (.int .i64 s2.2.2.2.2.2.2.2.1), .d (.int .i64 s2.2.2.2.2.2.2.2.2.1), .d (.int .i64 s2.2.2.2.2.2.2.2.2.2.1), .d (.int .i64 s2.2.2.2.2.2.2.2.2.2.2.1), .d (.int .i64 s2.2.2.2.2.2.2.2.2.2.2.2.1), .d (.int .i64 s2.2.2.2.2.2.2.2.2.2.2.2.2.1), .d (.int .i64 s2.2.2.2.2.2.2.2.2.2.2.2.2.2)]), (6, [.d (.int .i64 0), .d (.int .i64 0), .d (.int .i64 0), .d (.int .i64 0), .d (.int .i64 0), .d (.int .i64 0), .d (.int .i64 0), .d (.int .i64 0), .d (.int .i64 0), .d (.int .i64 0), .d (.int .i64 0), .d (.int .i64 0), .d (.int .i64 0), .d (.int .i64 0)])], []⟩) (fun s2 => j52_2 x0 x1 x2 x3 x4 x5 x6 x7 a2 s2 = some r)
   ·intro J2
    refine ⟨?_, ?_⟩ <;> intro hc
    ·have hr := ifP hr hc
     obtain ⟨hg11, hr⟩ := of_guard0 hr
     obtain ⟨hg12, hr⟩ := of_guard0 hr
     obtain ⟨v10, hv10, hr⟩ := of_bind0 hr
     try simp only [hv10, oG, oI, true_and, and_assoc]
     repeat refine gA ?_
     refine S.sees [2, 3, 4, 6] [(3, 3), (4, 4), (6, 6)] [] ?_ (J2 _ hr)
     exact lf
    ·have hr := ifN hr hc
     repeat refine gA ?_
     refine S.sees [2, 3, 4, 6] [(3, 3), (4, 4), (6, 6)] [] ?_ (J2 _ hr)
     exact lf
   ·intro s2 hr
    unfold j52_2 at hr
    refine S.gx [7, 10] ?_
    repeat refine gA ?_
    refine S.gx [7] ?_
    obtain ⟨v7, hv7, hr⟩ := of_bind0 hr
    try simp only [hv7, oG, oI, true_and, and_assoc]
    repeat refine gA ?_
    refine ⟨?_, ?_⟩ <;> intro hc
    ·have hr := ifP hr hc
     obtain ⟨v8, hv8, hr⟩ := of_bind0 hr
     obtain ⟨v9, hv9, hr⟩ := of_bind0 hr
     try simp only [hv8, hv9, Option.getD_some, Option.isSome_some, true_and, and_assoc]
     repeat refine gA ?_
     cases hr
     exact lf
    ·have hr := ifN hr hc
     repeat refine gA ?_
     cases hr
     exact lf
theorem f52 : FnFact Tryz.prog 52 T52.sp := ⟨⟨Tryz.f52, Tryz.func52, by decide, rfl⟩, v52⟩
end

/- martensite/steel.hull -/
def r100 (x0 : Int) (x1 : Int) (x2 : Int) (x3 : Int) (x4 : Int) (x5 : Int) (x6 : Int) (x7 : Int) (x8 : Int) (x9 : Int) (x10 : Int) (x11 : Int) (x12 : Int) (x13 : Int) (x14 : Int) (x15 : Int) (x16 : Int) (x17 : Int) (x18 : Int) (x19 : Int) (x20 : Int) (x21 : Int) (x22 : Int) (x23 : Int) (x24 : Int) (x25 : Int) (x26 : Int) (x27 : Int) : Option (Int × Int × Int × Int × Int × Int × Int × Int × Int × Int × Int × Int × Int × Int) :=
  some ((if x14 < x0 then x14 else x0), (if x1 < x15 then x15 else x1), (if x16 < x2 then x16 else x2), (if x3 < x17 then x17 else x3), (if x18 < x4 then x18 else x4), (if x5 < x19 then x19 else x5), (if x20 < x6 then x20 else x6), (if x7 < x21 then x21 else x7), (if x22 < x8 then x22 else x8), (if x9 < x23 then x23 else x9), (if x24 < x10 then x24 else x10), (if x11 < x25 then x25 else x11), (if x26 < x12 then x26 else x12), (if x13 < x27 then x27 else x13))
def T100 : TSpec qA35 := mkT qE35 qd35 (fun ⟨x0, x1, x2, x3, x4, x5, x6, x7, x8, x9, x10, x11, x12, x13, x14, x15, x16, x17, x18, x19, x20, x21, x22, x23, x24, x25, x26, x27⟩ => r100 x0 x1 x2 x3 x4 x5 x6 x7 x8 x9 x10 x11 x12 x13 x14 x15 x16 x17 x18 x19 x20 x21 x22 x23 x24 x25 x26 x27) qu15 false
theorem TP100 (c0 c1 c2 c3 c4 c5 c6 c7 c8 c9 c10 c11 c12 c13 c14 c15 c16 c17 c18 c19 c20 c21 c22 c23 c24 c25 c26 c27 : D) : T100.sp.pre [.agg [c0, c1, c2, c3, c4, c5, c6, c7, c8, c9, c10, c11, c12, c13], .agg [c14, c15, c16, c17, c18, c19, c20, c21, c22, c23, c24, c25, c26, c27]] = (eqvArgs (qt35 c0 c1 c2 c3 c4 c5 c6 c7 c8 c9 c10 c11 c12 c13 c14 c15 c16 c17 c18 c19 c20 c21 c22 c23 c24 c25 c26 c27) (qp35 qw35 c0 c1 c2 c3 c4 c5 c6 c7 c8 c9 c10 c11 c12 c13 c14 c15 c16 c17 c18 c19 c20 c21 c22 c23 c24 c25 c26 c27) ∧ (qp35 r100 c0 c1 c2 c3 c4 c5 c6 c7 c8 c9 c10 c11 c12 c13 c14 c15 c16 c17 c18 c19 c20 c21 c22 c23 c24 c25 c26 c27).isSome = true) := (rfl)
theorem TR100 (c0 c1 c2 c3 c4 c5 c6 c7 c8 c9 c10 c11 c12 c13 c14 c15 c16 c17 c18 c19 c20 c21 c22 c23 c24 c25 c26 c27 : D) : T100.sp.res [.agg [c0, c1, c2, c3, c4, c5, c6, c7, c8, c9, c10, c11, c12, c13], .agg [c14, c15, c16, c17, c18, c19, c20, c21, c22, c23, c24, c25, c26, c27]] = qu15 ((qp35 r100 c0 c1 c2 c3 c4 c5 c6 c7 c8 c9 c10 c11 c12 c13 c14 c15 c16 c17 c18 c19 c20 c21 c22 c23 c24 c25 c26 c27).getD default) := (rfl)
theorem TA100 : T100.sp.alias = false := (rfl)
def tb100 : Fns := lk []
theorem tb100_ok : FnsOk Tryz.prog tb100 := FnsOk.nil
theorem lt100_0 : (decide ((0 : Int) < 7)) = true := by first | rfl | decide | simp
theorem lt100_1 : (IntKind.i64.wrap (0 + 1)) = 1 := by first | rfl | decide | simp
theorem lt100_2 : (decide ((1 : Int) < 7)) = true := by first | rfl | decide | simp
theorem lt100_3 : (((1 : Int) = 0 ∨ (0 : Int) < 1)) = True := by first | rfl | decide | simp
theorem lt100_4 : (IntKind.i64.wrap (1 + 1)) = 2 := by first | rfl | decide | simp
theorem lt100_5 : (decide ((2 : Int) < 7)) = true := by first | rfl | decide | simp
theorem lt100_6 : (((2 : Int) = 0 ∨ (0 : Int) < 2)) = True := by first | rfl | decide | simp
theorem lt100_7 : (IntKind.i64.wrap (2 + 1)) = 3 := by first | rfl | decide | simp
theorem lt100_8 : (decide ((3 : Int) < 7)) = true := by first | rfl | decide | simp
theorem lt100_9 : (((3 : Int) = 0 ∨ (0 : Int) < 3)) = True := by first | rfl | decide | simp
theorem lt100_10 : (IntKind.i64.wrap (3 + 1)) = 4 := by first | rfl | decide | simp
theorem lt100_11 : (decide ((4 : Int) < 7)) = true := by first | rfl | decide | simp
theorem lt100_12 : (((4 : Int) = 0 ∨ (0 : Int) < 4)) = True := by first | rfl | decide | simp
theorem lt100_13 : (IntKind.i64.wrap (4 + 1)) = 5 := by first | rfl | decide | simp
theorem lt100_14 : (decide ((5 : Int) < 7)) = true := by first | rfl | decide | simp
theorem lt100_15 : (((5 : Int) = 0 ∨ (0 : Int) < 5)) = True := by first | rfl | decide | simp
theorem lt100_16 : (IntKind.i64.wrap (5 + 1)) = 6 := by first | rfl | decide | simp
theorem lt100_17 : (decide ((6 : Int) < 7)) = true := by first | rfl | decide | simp
theorem lt100_18 : (((6 : Int) = 0 ∨ (0 : Int) < 6)) = True := by first | rfl | decide | simp
theorem lt100_19 : (IntKind.i64.wrap (6 + 1)) = 7 := by first | rfl | decide | simp
theorem lt100_20 : (decide ((7 : Int) < 7)) = false := by first | rfl | decide | simp
attribute [go_sem] TP100 TR100 TA100
section
attribute [local go_sem] T100 Tryz.results100 Tryz.results65 lt100_0 lt100_1 lt100_2 lt100_3 lt100_4 lt100_5 lt100_6 lt100_7 lt100_8 lt100_9 lt100_10 lt100_11 lt100_12 lt100_13 lt100_14 lt100_15 lt100_16 lt100_17 lt100_18 lt100_19 lt100_20
theorem v100 : Valid Tryz.prog 100 T100.sp := by
 refine valid_t (fn := Tryz.f100) (n := 41) ty_ok tb100_ok Tryz.func100 rfl Tryz.ntmps100 ?_
 rintro ⟨x0, x1, x2, x3, x4, x5, x6, x7, x8, x9, x10, x11, x12, x13, x14, x15, x16, x17, x18, x19, x20, x21, x22, x23, x24, x25, x26, x27⟩ hx
 obtain ⟨r, hr⟩ := oE (show (r100 x0 x1 x2 x3 x4 x5 x6 x7 x8 x9 x10 x11 x12 x13 x14 x15 x16 x17 x18 x19 x20 x21 x22 x23 x24 x25 x26 x27).isSome = true from hx)
 have hres : T100.res (x0, x1, x2, x3, x4, x5, x6, x7, x8, x9, x10, x11, x12, x13, x14, x15, x16, x17, x18, x19, x20, x21, x22, x23, x24, x25, x26, x27) = qu15 r := by simp only [T100, mkT, hr, oG]
 refine ⟨nL rfl, fun stop S => ?_⟩
 rw [hres] at S
 unfold r100 at hr
 refine S.gx [1, 2, 6] ?_
 repeat refine gA ?_
 refine S.inl 0 [2, 4] [] Tryz.func65 (by decide) rfl Tryz.ntmps65 (fun cx e => drawn_ok ty_ok tb100_ok cx e) (some 8) rfl rfl rfl rfl (nL rfl) (nL rfl) ?_
 refine gs ?_
 repeat refine gA ?_
 intro stop1 S1
 refine S1.gx [] ?_
 repeat refine gA ?_
 refine S.gx [1, 2, 6] ?_
 repeat refine gA ?_
 refine S.inl 0 [2, 4, 5] [] Tryz.func65 (by decide) rfl Tryz.ntmps65 (fun cx e => drawn_ok ty_ok tb100_ok cx e) (some 9) rfl rfl rfl rfl (nL rfl) (nL rfl) ?_
 refine gs ?_
 repeat refine gA ?_
 intro stop1 S1
 refine S1.gx [] ?_
 repeat refine gA ?_
 refine S.gx [1, 2, 6] ?_
 repeat refine gA ?_
 refine S.lp ?_
 refine S.gx [1, 2, 6] ?_
 repeat refine gA ?_
 refine S.prune [2, 4, 5, 9, 10] ?_
 refine S.gx [1, 2] ?_
 repeat refine gA ?_
 refine S.lp ?_
 refine S.gx [1, 2, 6] ?_
 repeat refine gA ?_
 refine S.prune [2, 4, 5, 9, 10] ?_
 refine S.gx [1, 2] ?_
 repeat refine gA ?_
 refine S.lp ?_
 refine S.gx [1, 2, 6] ?_
 repeat refine gA ?_
 refine S.prune [2, 4, 5, 9, 10] ?_
 refine S.gx [1, 2] ?_
 repeat refine gA ?_
 refine S.lp ?_
 refine S.gx [1, 2, 6] ?_
 repeat refine gA ?_
 refine S.prune [2, 4, 5, 9, 10] ?_
 refine S.gx [1, 2] ?_
 repeat refine gA ?_
 refine S.lp ?_
 refine S.gx [1, 2, 6] ?_
 repeat refine gA ?_
 refine S.prune [2, 4, 5, 9, 10] ?_
 refine S.gx [1, 2] ?_
 repeat refine gA ?_
 refine S.lp ?_
 refine S.gx [1, 2, 6] ?_
 repeat refine gA ?_
 refine S.prune [2, 4, 5, 9, 10] ?_
 refine S.gx [1, 2] ?_
 repeat refine gA ?_
 refine S.lp ?_
 refine S.gx [1, 2, 6] ?_
 repeat refine gA ?_
 refine S.prune [2, 4, 5, 9, 10] ?_
 refine S.gx [1, 2] ?_
 repeat refine gA ?_
 refine S.lp ?_
 refine S.gx [1, 2, 6] ?_
 repeat refine gA ?_
 cases hr
 exact lf
theorem f100 : FnFact Tryz.prog 100 T100.sp := ⟨⟨Tryz.f100, Tryz.func100, by decide, rfl⟩, v100⟩
end

/- (martensite/steel.rules).rangeStep -/
def b64_1 (x0 : List (Int × Int × Int × Int)) (x1 : List (Int × Int × Int × Int × Int)) (x2 : List (Int × Int × Int)) (x3 : List (Int × Int)) (x4 : Int) (x5 : Int) (x6 : Int) (x7 : Int) (x8 : Int) (x9 : Int) (x10 : Int) (x11 : Int) (x12 : Int) (x13 : Int) (x14 : Int) (x15 : Int) (x16 : Int) (x17 : Int) (x18 : Int) (x19 : Int) (x20 : Int) (x21 : Int) (x22 : Int) : (Int × Int × Int × Int × Int × Int × Int × Int × Int × Int × Int × Int × Int × Int × Int) → Ctl (Int × Int × Int × Int × Int × Int × Int × Int × Int × Int × Int × Int × Int × Int × Int) (Int × Int × Int × Int × Int × Int × Int × Int × Int × Int × Int × Int × Int × Int) := fun s1 =>
  if (decide (s1.1 ≤ x22)) = true then
   bindC (r52 x0 x1 x2 x3 x4 x5 x6 x7 x8 x9 x10 x11 x12 x13 x14 x15 x16 x17 x18 x19 x20 x21 s1.1) fun v2 =>
    bindC (r100 s1.2.1 s1.2.2.1 s1.2.2.2.1 s1.2.2.2.2.1 s1.2.2.2.2.2.1 s1.2.2.2.2.2.2.1 s1.2.2.2.2.2.2.2.1 s1.2.2.2.2.2.2.2.2.1 s1.2.2.2.2.2.2.2.2.2.1 s1.2.2.2.2.2.2.2.2.2.2.1 s1.2.2.2.2.2.2.2.2.2.2.2.1 s1.2.2.2.2.2.2.2.2.2.2.2.2.1 s1.2.2.2.2.2.2.2.2.2.2.2.2.2.1 s1.2.2.2.2.2.2.2.2.2.2.2.2.2.2 v2.1 v2.2.1 v2.2.2.1 v2.2.2.2.1 v2.2.2.2.2.1 v2.2.2.2.2.2.1 v2.2.2.2.2.2.2.1 v2.2.2.2.2.2.2.2.1 v2.2.2.2.2.2.2.2.2.1 v2.2.2.2.2.2.2.2.2.2.1 v2.2.2.2.2.2.2.2.2.2.2.1 v2.2.2.2.2.2.2.2.2.2.2.2.1 v2.2.2.2.2.2.2.2.2.2.2.2.2.1 v2.2.2.2.2.2.2.2.2.2.2.2.2.2) fun v3 =>
     .next (IntKind.i64.wrap (s1.1 + 1), v3.1, v3.2.1, v3.2.2.1, v3.2.2.2.1, v3.2.2.2.2.1, v3.2.2.2.2.2.1, v3.2.2.2.2.2.2.1, v3.2.2.2.2.2.2.2.1, v3.2.2.2.2.2.2.2.2.1, v3.2.2.2.2.2.2.2.2.2.1, v3.2.2.2.2.2.2.2.2.2.2.1, v3.2.2.2.2.2.2.2.2.2.2.2.1, v3.2.2.2.2.2.2.2.2.2.2.2.2.1, v3.2.2.2.2.2.2.2.2.2.2.2.2.2)
   else .out (some (s1.2.1, s1.2.2.1, s1.2.2.2.1, s1.2.2.2.2.1, s1.2.2.2.2.2.1, s1.2.2.2.2.2.2.1, s1.2.2.2.2.2.2.2.1, s1.2.2.2.2.2.2.2.2.1, s1.2.2.2.2.2.2.2.2.2.1, s1.2.2.2.2.2.2.2.2.2.2.1, s1.2.2.2.2.2.2.2.2.2.2.2.1, s1.2.2.2.2.2.2.2.2.2.2.2.2.1, s1.2.2.2.2.2.2.2.2.2.2.2.2.2.1, s1.2.2.2.2.2.2.2.2.2.2.2.2.2.2))
def r64 (x0 : List (Int × Int × Int × Int)) (x1 : List (Int × Int × Int × Int × Int)) (x2 : List (Int × Int × Int)) (x3 : List (Int × Int)) (x4 : Int) (x5 : Int) (x6 : Int) (x7 : Int) (x8 : Int) (x9 : Int) (x10 : Int) (x11 : Int) (x12 : Int) (x13 : Int) (x14 : Int) (x15 : Int) (x16 : Int) (x17 : Int) (x18 : Int) (x19 : Int) (x20 : Int) (x21 : Int) (x23 : Int) (x22 : Int) : Option (Int × Int × Int × Int × Int × Int × Int × Int × Int × Int × Int × Int × Int × Int) :=
  (r52 x0 x1 x2 x3 x4 x5 x6 x7 x8 x9 x10 x11 x12 x13 x14 x15 x16 x17 x18 x19 x20 x21 x23).bind fun v1 =>
   iterC (b64_1 x0 x1 x2 x3 x4 x5 x6 x7 x8 x9 x10 x11 x12 x13 x14 x15 x16 x17 x18 x19 x20 x21 x22) 1000000000 (IntKind.i64.wrap (x23 + 1), v1.1, v1.2.1, v1.2.2.1, v1.2.2.2.1, v1.2.2.2.2.1, v1.2.2.2.2.2.1, v1.2.2.2.2.2.2.1, v1.2.2.2.2.2.2.2.1, v1.2.2.2.2.2.2.2.2.1, v1.2.2.2.2.2.2.2.2.2.1, v1.2.2.2.2.2.2.2.2.2.2.1, v1.2.2.2.2.2.2.2.2.2.2.2.1, v1.2.2.2.2.2.2.2.2.2.2.2.2.1, v1.2.2.2.2.2.2.2.2.2.2.2.2.2)
def T64 : TSpec qA36 := mkT qE36 qd36 (fun ⟨x0, x1, x2, x3, x4, x5, x6, x7, x8, x9, x10, x11, x12, x13, x14, x15, x16, x17, x18, x19, x20, x21, x23, x22⟩ => r64 x0 x1 x2 x3 x4 x5 x6 x7 x8 x9 x10 x11 x12 x13 x14 x15 x16 x17 x18 x19 x20 x21 x23 x22) qu15 false
theorem TP64 (c0 c1 c2 c3 c4 c5 c6 c7 c8 c9 c10 c11 c12 c13 c14 c15 c16 c17 c18 c19 c20 c21 c22 c23 : D) : T64.sp.pre [.agg [c0, c1, c2, c3, c4, c5, c6, c7], .agg [c8, c9, c10, c11, c12, c13, c14, c15, c16, c17, c18, c19, c20, c21], .agg [c22, c23]] = (eqvArgs (qt36 c0 c1 c2 c3 c4 c5 c6 c7 c8 c9 c10 c11 c12 c13 c14 c15 c16 c17 c18 c19 c20 c21 c22 c23) (qp36 qw36 c0 c1 c2 c3 c4 c5 c6 c7 c8 c9 c10 c11 c12 c13 c14 c15 c16 c17 c18 c19 c20 c21 c22 c23) ∧ (qp36 r64 c0 c1 c2 c3 c4 c5 c6 c7 c8 c9 c10 c11 c12 c13 c14 c15 c16 c17 c18 c19 c20 c21 c22 c23).isSome = true) := (rfl)
theorem TR64 (c0 c1 c2 c3 c4 c5 c6 c7 c8 c9 c10 c11 c12 c13 c14 c15 c16 c17 c18 c19 c20 c21 c22 c23 : D) : T64.sp.res [.agg [c0, c1, c2, c3, c4, c5, c6, c7], .agg [c8, c9, c10, c11, c12, c13, c14, c15, c16, c17, c18, c19, c20, c21], .agg [c22, c23]] = qu15 ((qp36 r64 c0 c1 c2 c3 c4 c5 c6 c7 c8 c9 c10 c11 c12 c13 c14 c15 c16 c17 c18 c19 c20 c21 c22 c23).getD default) := (rfl)
theorem TA64 : T64.sp.alias = false := (rfl)
def tb64 : Fns := lk [(52, T52.sp), (100, T100.sp)]
theorem tb64_ok : FnsOk Tryz.prog tb64 := .cons f52 (.cons f100 (FnsOk.nil))
theorem tb64_52 : tb64 52 = some T52.sp := rfl
theorem tb64_100 : tb64 100 = some T100.sp := rfl
attribute [go_sem] TP64 TR64 TA64
section
attribute [local go_sem] T64 tb64_52 tb64_100 Tryz.results64
theorem v64 : Valid Tryz.prog 64 T64.sp := by
 refine valid_t (fn := Tryz.f64) (n := 30) ty_ok tb64_ok Tryz.func64 rfl Tryz.ntmps64 ?_
 rintro ⟨x0, x1, x2, x3, x4, x5, x6, x7, x8, x9, x10, x11, x12, x13, x14, x15, x16, x17, x18, x19, x20, x21, x23, x22⟩ hx
 obtain ⟨r, hr⟩ := oE (show (r64 x0 x1 x2 x3 x4 x5 x6 x7 x8 x9 x10 x11 x12 x13 x14 x15 x16 x17 x18 x19 x20 x21 x23 x22).isSome = true from hx)
 have hres : T64.res (x0, x1, x2, x3, x4, x5, x6, x7, x8, x9, x10, x11, x12, x13, x14, x15, x16, x17, x18, x19, x20, x21, x23, x22) = qu15 r := by simp only [T64, mkT, hr, oG]
 refine ⟨nL rfl, fun stop S => ?_⟩
 rw [hres] at S
 unfold r64 at hr
 refine S.gx [] ?_
 obtain ⟨v1, hv1, hr⟩ := of_bind0 hr
 try simp only [hv1, oG, oI, true_and, and_assoc]
 repeat refine gA ?_
 refine S.sees [3, 4, 5, 6, 7, 8] [(3, 3), (4, 4), (5, 5), (6, 6), (7, 7)] [] ?_ (Stop.iter S (fun s1 => ⟨[(3, .c (.ref 3 0)), (4, .c (.ref 4 0)), (5, .c (.ref 5 0)), (6, .c (.ref 6 0)), (7, .c (.ref 7 0)), (8, .c (.d (.int .i64 s1.1)))], [(3, [.d (encF 4 d_IIII x0), .d (encF 5 d_IIIII x1), .d (encF 3 d_III x2), .d (encF 2 d_II x3), .d (.int .i64 x4), .d (.int .i64 x5), .d (.int .i64 x6), .d (.int .i64 x7)]), (4, [.d (.int .i64 x8), .d (.int .i64 x9), .d (.int .i64 x10), .d (.int .i64 x11), .d (.int .i64 x12), .d (.int .i64 x13), .d (.int .i64 x14), .d (.int .i64 x15), .d (.int .i64 x16), .d (.int .i64 x17), .d (.int .i64 x18), .d (.int .i64 x19), .d (.int .i64 x20), .d (.int .i64 x21)]), (5, [.d (.int .i64 x23), .d (.int .i64 x22)]), (6, [.d (.int .i64 0), .d (.int .i64 0), .d (.int .i64 0), .d (.int .i64 0), .d (.int .i64 0), .d (.int .i64 0), .d (.int .i64 0), .d (.int .i64 0), .d (.int .i64 0), .d (.int .i64 0), .d (.int .i64 0), .d (.int .i64 0), .d (.int .i64 0), .d (.int .i64 0)]), (7, [.d (.int .i64 s1.2.1), .d (.int .i64 s1.2.2.1), .d (.int .i64 s1.2.2.2.1), .d (.int .i64 s1.2.2.2.2.1), .d (.int .i64 s1.2.2.2.2.2.1), .d (.int .i64 s1.2.2.2.2.2.2.1), .d (.int .i64 s1.2.2.2.2.2.2.2.1), .d (.int .i64 s1.2.2.2.2.2.2.2.2.1), .d (.int .i64 s1.2.2.2.2.2.2.2.2.2.1), .d (.int .i64 s1.2.2.2.2.2.2.2.2.2.2.1), .d (.int .i64 s1.2.2.2.2.2.2.2.2.2.2.2.1), .d (.int .i64 s1.2.2.2.2.2.2.2.2.2.2.2.2.1), .d (.int .i64 s1.2.2.2.2.2.2.2.2.2.2.2.2.2.1), .d (.int .i64 s1.2.2.2.2.2.2.2.2.2.2.2.2.2.2)])], []⟩) (b64_1 x0 x1 x2 x3 x4 x5 x6 x7 x8 x9 x10 x11 x12 x13 x14 x15 x16 x17 x18 x19 x20 x21 x22) (fun q => q = r) hr rfl ?_)
 ·exact lf
 ·intro s1 hr
  unfold b64_1 at hr
  refine S.gx [] ?_
  repeat refine gA ?_
  refine ⟨?_, ?_⟩ <;> intro hc
  ·have hr := ifP1 hr hc
   obtain ⟨v2, hv2, hr⟩ := of_bind1 hr
   obtain ⟨v3, hv3, hr⟩ := of_bind1 hr
   try simp only [hv2, hv3, Option.getD_some, Option.isSome_some, true_and, and_assoc]
   repeat refine gA ?_
   refine S.sees [3, 4, 5, 6, 7, 8] [(3, 3), (4, 4), (5, 5), (6, 6), (7, 7)] [] ?_ hr
   exact lf
  ·have hr := ifN1 hr hc
   repeat refine gA ?_
   have hr := of_out0 hr
   repeat refine gA ?_
   cases hr
   exact lf
theorem f64 : FnFact Tryz.prog 64 T64.sp := ⟨⟨Tryz.f64, Tryz.func64, by decide, rfl⟩, v64⟩
end

/- martensite/steel.BoxStep -/
def r29 (x0 : List (Int × Int × Int × Int)) (x1 : List (Int × Int × Int × Int × Int)) (x2 : List (Int × Int × Int)) (x3 : List (Int × Int)) (x4 : Int) (x5 : Int) (x6 : Int) (x7 : Int) (x8 : Int) (x9 : Int) (x10 : Int) (x11 : Int) (x12 : Int) (x13 : Int) (x14 : Int) (x15 : Int) (x16 : Int) (x17 : Int) (x18 : Int) (x19 : Int) (x20 : Int) (x21 : Int) (x22 : Int) (x23 : Int) : Option (Int × Int × Int × Int × Int × Int × Int × Int × Int × Int × Int × Int × Int × Int × Int) :=
  (r46 x0 x1 x2 x3 x4 x5 x6 x7).bind fun v1 =>
   (r33 x8 x9 x10 x11 x12 x13 x14 x15 x16 x17 x18 x19 x20 x21).bind fun v2 =>
    (r63 x22 x23).bind fun v3 =>
     (r45 [v1, v2, v3]).bind fun v4 =>
      if (v4 != 0) = true then
       some (0, 0, 0, 0, 0, 0, 0, 0, 0, 0, 0, 0, 0, 0, v4)
       else (r64 x0 x1 x2 x3 x4 x5 x6 x7 x8 x9 x10 x11 x12 x13 x14 x15 x16 x17 x18 x19 x20 x21 x22 x23).bind fun v5 =>
        some (v5.1, v5.2.1, v5.2.2.1, v5.2.2.2.1, v5.2.2.2.2.1, v5.2.2.2.2.2.1, v5.2.2.2.2.2.2.1, v5.2.2.2.2.2.2.2.1, v5.2.2.2.2.2.2.2.2.1, v5.2.2.2.2.2.2.2.2.2.1, v5.2.2.2.2.2.2.2.2.2.2.1, v5.2.2.2.2.2.2.2.2.2.2.2.1, v5.2.2.2.2.2.2.2.2.2.2.2.2.1, v5.2.2.2.2.2.2.2.2.2.2.2.2.2, 0)
def T29 : TSpec qA36 := mkT qE36 qd36 (fun ⟨x0, x1, x2, x3, x4, x5, x6, x7, x8, x9, x10, x11, x12, x13, x14, x15, x16, x17, x18, x19, x20, x21, x22, x23⟩ => r29 x0 x1 x2 x3 x4 x5 x6 x7 x8 x9 x10 x11 x12 x13 x14 x15 x16 x17 x18 x19 x20 x21 x22 x23) qu16 false
theorem TP29 (c0 c1 c2 c3 c4 c5 c6 c7 c8 c9 c10 c11 c12 c13 c14 c15 c16 c17 c18 c19 c20 c21 c22 c23 : D) : T29.sp.pre [.agg [c0, c1, c2, c3, c4, c5, c6, c7], .agg [c8, c9, c10, c11, c12, c13, c14, c15, c16, c17, c18, c19, c20, c21], .agg [c22, c23]] = (eqvArgs (qt36 c0 c1 c2 c3 c4 c5 c6 c7 c8 c9 c10 c11 c12 c13 c14 c15 c16 c17 c18 c19 c20 c21 c22 c23) (qp36 qw36 c0 c1 c2 c3 c4 c5 c6 c7 c8 c9 c10 c11 c12 c13 c14 c15 c16 c17 c18 c19 c20 c21 c22 c23) ∧ (qp36 r29 c0 c1 c2 c3 c4 c5 c6 c7 c8 c9 c10 c11 c12 c13 c14 c15 c16 c17 c18 c19 c20 c21 c22 c23).isSome = true) := (rfl)
theorem TR29 (c0 c1 c2 c3 c4 c5 c6 c7 c8 c9 c10 c11 c12 c13 c14 c15 c16 c17 c18 c19 c20 c21 c22 c23 : D) : T29.sp.res [.agg [c0, c1, c2, c3, c4, c5, c6, c7], .agg [c8, c9, c10, c11, c12, c13, c14, c15, c16, c17, c18, c19, c20, c21], .agg [c22, c23]] = qu16 ((qp36 r29 c0 c1 c2 c3 c4 c5 c6 c7 c8 c9 c10 c11 c12 c13 c14 c15 c16 c17 c18 c19 c20 c21 c22 c23).getD default) := (rfl)
theorem TA29 : T29.sp.alias = false := (rfl)
def tb29 : Fns := lk [(33, T33.sp), (45, T45.sp), (46, T46.sp), (63, T63.sp), (64, T64.sp)]
theorem tb29_ok : FnsOk Tryz.prog tb29 := .cons f33 (.cons f45 (.cons f46 (.cons f63 (.cons f64 (FnsOk.nil)))))
theorem tb29_33 : tb29 33 = some T33.sp := rfl
theorem tb29_45 : tb29 45 = some T45.sp := rfl
theorem tb29_46 : tb29 46 = some T46.sp := rfl
theorem tb29_63 : tb29 63 = some T63.sp := rfl
theorem tb29_64 : tb29 64 = some T64.sp := rfl
attribute [go_sem] TP29 TR29 TA29
section
attribute [local go_sem] T29 tb29_33 tb29_45 tb29_46 tb29_63 tb29_64 Tryz.results29
theorem v29 : Valid Tryz.prog 29 T29.sp := by
 refine valid_t (fn := Tryz.f29) (n := 26) ty_ok tb29_ok Tryz.func29 rfl Tryz.ntmps29 ?_
 rintro ⟨x0, x1, x2, x3, x4, x5, x6, x7, x8, x9, x10, x11, x12, x13, x14, x15, x16, x17, x18, x19, x20, x21, x22, x23⟩ hx
 obtain ⟨r, hr⟩ := oE (show (r29 x0 x1 x2 x3 x4 x5 x6 x7 x8 x9 x10 x11 x12 x13 x14 x15 x16 x17 x18 x19 x20 x21 x22 x23).isSome = true from hx)
 have hres : T29.res (x0, x1, x2, x3, x4, x5, x6, x7, x8, x9, x10, x11, x12, x13, x14, x15, x16, x17, x18, x19, x20, x21, x22, x23) = qu16 r := by simp only [T29, mkT, hr, oG]
 refine ⟨nL rfl, fun stop S => ?_⟩
 rw [hres] at S
 unfold r29 at hr
 refine S.gx [] ?_
 obtain ⟨v1, hv1, hr⟩ := of_bind0 hr
 obtain ⟨v2, hv2, hr⟩ := of_bind0 hr
 obtain ⟨v3, hv3, hr⟩ := of_bind0 hr
 obtain ⟨v4, hv4, hr⟩ := of_bind0 hr
 try simp only [hv1, hv2, hv3, hv4, Option.getD_some, Option.isSome_some, true_and, and_assoc]
 repeat refine gA ?_
 refine ⟨?_, ?_⟩ <;> intro hc
 ·have hr := ifP hr hc
  repeat refine gA ?_
  cases hr
  exact lf
 ·have hr := ifN hr hc
  obtain ⟨v5, hv5, hr⟩ := of_bind0 hr
  try simp only [hv5, oG, oI, true_and, and_assoc]
  repeat refine gA ?_
  cases hr
  exact lf
theorem f29 : FnFact Tryz.prog 29 T29.sp := ⟨⟨Tryz.f29, Tryz.func29, by decide, rfl⟩, v29⟩
end

/- martensite/martensiteref04.CopyRanges -/
def r31 (a0 : List (Int × Int)) : Option ((List (Int × Int))) :=
  if (0 + a0.length) * 16 ≤ 140737488355328 ∧ 0 + a0.length ≤ 9223372036854775807 then
   some a0
   else none
def T31 : TSpec qA37 := mkT qE37 qd37 r31 qu17 false
theorem TP31 (c0 : D) : T31.sp.pre [.c c0] = (eqvArgs (qt37 c0) (qp37 qw37 c0) ∧ (qp37 r31 c0).isSome = true) := (rfl)
theorem TR31 (c0 : D) : T31.sp.res [.c c0] = qu17 ((qp37 r31 c0).getD default) := (rfl)
theorem TA31 : T31.sp.alias = false := (rfl)
def tb31 : Fns := lk []
theorem tb31_ok : FnsOk Tryz.prog tb31 := FnsOk.nil
attribute [go_sem] TP31 TR31 TA31
section
attribute [local go_sem] T31 Tryz.results31
theorem v31 : Valid Tryz.prog 31 T31.sp := by
 refine valid_t (fn := Tryz.f31) (n := 6) ty_ok tb31_ok Tryz.func31 rfl Tryz.ntmps31 ?_
 rintro a0 hx
 obtain ⟨r, hr⟩ := oE (show (r31 a0).isSome = true from hx)
 have hres : T31.res a0 = qu17 r := by simp only [T31, mkT, hr, oG]
 refine ⟨nL rfl, fun stop S => ?_⟩
 rw [hres] at S
 unfold r31 at hr
 refine S.gx [] ?_
 obtain ⟨hg1, hr⟩ := of_guard0 hr
 repeat refine gA ?_
 cases hr
 exact lf
theorem f31 : FnFact Tryz.prog 31 T31.sp := ⟨⟨Tryz.f31, Tryz.func31, by decide, rfl⟩, v31⟩
end

/- martensite/steel.rangesErr -/
def b61_1 (a0 : List (Int × Int)) : (Int) → Ctl (Int) (Int) := fun s1 =>
  if (decide (s1 < (a0.length : Int))) = true then
   if 0 ≤ s1 ∧ s1 < (a0.length : Int) then
    bindC (r63 ((a0.getD s1.toNat default).1) ((a0.getD s1.toNat default).2)) fun v1 =>
     if (v1 != 0) = true then
      .out (some v1)
      else .next (IntKind.i64.wrap (s1 + 1))
    else .out none
   else .out (some 0)
def r61 (a0 : List (Int × Int)) : Option (Int) :=
  if (decide ((a0.length : Int) > 200)) = true then
   some 8
   else iterC (b61_1 a0) 1000000000 0
def T61 : TSpec qA37 := mkT qE37 qd37 r61 qu4 false
theorem TP61 (c0 : D) : T61.sp.pre [.c c0] = (eqvArgs (qt37 c0) (qp37 qw37 c0) ∧ (qp37 r61 c0).isSome = true) := (rfl)
theorem TR61 (c0 : D) : T61.sp.res [.c c0] = qu4 ((qp37 r61 c0).getD default) := (rfl)
theorem TA61 : T61.sp.alias = false := (rfl)
def tb61 : Fns := lk [(63, T63.sp)]
theorem tb61_ok : FnsOk Tryz.prog tb61 := .cons f63 (FnsOk.nil)
theorem tb61_63 : tb61 63 = some T63.sp := rfl
attribute [go_sem] TP61 TR61 TA61
section
attribute [local go_sem] T61 tb61_63 Tryz.results61
theorem v61 : Valid Tryz.prog 61 T61.sp := by
 refine valid_t (fn := Tryz.f61) (n := 21) ty_ok tb61_ok Tryz.func61 rfl Tryz.ntmps61 ?_
 rintro a0 hx
 obtain ⟨r, hr⟩ := oE (show (r61 a0).isSome = true from hx)
 have hres : T61.res a0 = qu4 r := by simp only [T61, mkT, hr, oG]
 refine ⟨nL rfl, fun stop S => ?_⟩
 rw [hres] at S
 unfold r61 at hr
 refine S.gx [] ?_
 repeat refine gA ?_
 refine ⟨?_, ?_⟩ <;> intro hc
 ·have hr := ifP hr hc
  repeat refine gA ?_
  cases hr
  exact lf
 ·have hr := ifN hr hc
  repeat refine gA ?_
  refine S.sees [9, 10, 11] [] [] ?_ (Stop.iter S (fun s1 => ⟨[(9, .c (.d (encF 2 d_II a0))), (10, .c (.d (.int .i64 (a0.length : Int)))), (11, .c (.d (.int .i64 s1)))], [], []⟩) (b61_1 a0) (fun q => q = r) hr rfl ?_)
  ·exact lf
  ·intro s1 hr
   unfold b61_1 at hr
   refine S.gx [] ?_
   repeat refine gA ?_
   refine ⟨?_, ?_⟩ <;> intro hc
   ·have hr := ifP1 hr hc
    obtain ⟨hg2, hr⟩ := of_guard1 hr
    obtain ⟨v1, hv1, hr⟩ := of_bind1 hr
    try simp only [hv1, oG, oI, true_and, and_assoc]
    repeat refine gA ?_
    refine ⟨?_, ?_⟩ <;> intro hc
    ·have hr := ifP1 hr hc
     repeat refine gA ?_
     have hr := of_out0 hr
     cases hr
     exact lf
    ·have hr := ifN1 hr hc
     repeat refine gA ?_
     refine S.sees [9, 10, 11] [] [] ?_ hr
     exact lf
   ·have hr := ifN1 hr hc
    repeat refine gA ?_
    have hr := of_out0 hr
    repeat refine gA ?_
    cases hr
    exact lf
theorem f61 : FnFact Tryz.prog 61 T61.sp := ⟨⟨Tryz.f61, Tryz.func61, by decide, rfl⟩, v61⟩
end

/- (martensite/steel.rules).boxRun -/
def b62_1 (x0 : List (Int × Int × Int × Int)) (x1 : List (Int × Int × Int × Int × Int)) (x2 : List (Int × Int × Int)) (x3 : List (Int × Int)) (x4 : Int) (x5 : Int) (x6 : Int) (x7 : Int) (a2 : List (Int × Int)) : (Int × Int × Int × Int × Int × Int × Int × Int × Int × Int × Int × Int × Int × Int × Int) → Ctl (Int × Int × Int × Int × Int × Int × Int × Int × Int × Int × Int × Int × Int × Int × Int) (Int × Int × Int × Int × Int × Int × Int × Int × Int × Int × Int × Int × Int × Int) := fun s1 =>
  if (decide (s1.1 < (a2.length : Int))) = true then
   if 0 ≤ s1.1 ∧ s1.1 < (a2.length : Int) then
    bindC (r64 x0 x1 x2 x3 x4 x5 x6 x7 s1.2.1 s1.2.2.1 s1.2.2.2.1 s1.2.2.2.2.1 s1.2.2.2.2.2.1 s1.2.2.2.2.2.2.1 s1.2.2.2.2.2.2.2.1 s1.2.2.2.2.2.2.2.2.1 s1.2.2.2.2.2.2.2.2.2.1 s1.2.2.2.2.2.2.2.2.2.2.1 s1.2.2.2.2.2.2.2.2.2.2.2.1 s1.2.2.2.2.2.2.2.2.2.2.2.2.1 s1.2.2.2.2.2.2.2.2.2.2.2.2.2.1 s1.2.2.2.2.2.2.2.2.2.2.2.2.2.2 ((a2.getD s1.1.toNat default).1) ((a2.getD s1.1.toNat default).2)) fun v1 =>
     .next (IntKind.i64.wrap (s1.1 + 1), v1.1, v1.2.1, v1.2.2.1, v1.2.2.2.1, v1.2.2.2.2.1, v1.2.2.2.2.2.1, v1.2.2.2.2.2.2.1, v1.2.2.2.2.2.2.2.1, v1.2.2.2.2.2.2.2.2.1, v1.2.2.2.2.2.2.2.2.2.1, v1.2.2.2.2.2.2.2.2.2.2.1, v1.2.2.2.2.2.2.2.2.2.2.2.1, v1.2.2.2.2.2.2.2.2.2.2.2.2.1, v1.2.2.2.2.2.2.2.2.2.2.2.2.2)
    else .out none
   else .out (some (s1.2.1, s1.2.2.1, s1.2.2.2.1, s1.2.2.2.2.1, s1.2.2.2.2.2.1, s1.2.2.2.2.2.2.1, s1.2.2.2.2.2.2.2.1, s1.2.2.2.2.2.2.2.2.1, s1.2.2.2.2.2.2.2.2.2.1, s1.2.2.2.2.2.2.2.2.2.2.1, s1.2.2.2.2.2.2.2.2.2.2.2.1, s1.2.2.2.2.2.2.2.2.2.2.2.2.1, s1.2.2.2.2.2.2.2.2.2.2.2.2.2.1, s1.2.2.2.2.2.2.2.2.2.2.2.2.2.2))
def r62 (x0 : List (Int × Int × Int × Int)) (x1 : List (Int × Int × Int × Int × Int)) (x2 : List (Int × Int × Int)) (x3 : List (Int × Int)) (x4 : Int) (x5 : Int) (x6 : Int) (x7 : Int) (x8 : Int) (x9 : Int) (x10 : Int) (x11 : Int) (x12 : Int) (x13 : Int) (x14 : Int) (x15 : Int) (x16 : Int) (x17 : Int) (x18 : Int) (x19 : Int) (x20 : Int) (x21 : Int) (a2 : List (Int × Int)) : Option (Int × Int × Int × Int × Int × Int × Int × Int × Int × Int × Int × Int × Int × Int) :=
  iterC (b62_1 x0 x1 x2 x3 x4 x5 x6 x7 a2) 1000000000 (0, x8, x9, x10, x11, x12, x13, x14, x15, x16, x17, x18, x19, x20, x21)
def T62 : TSpec qA38 := mkT qE38 qd38 (fun ⟨x0, x1, x2, x3, x4, x5, x6, x7, x8, x9, x10, x11, x12, x13, x14, x15, x16, x17, x18, x19, x20, x21, a2⟩ => r62 x0 x1 x2 x3 x4 x5 x6 x7 x8 x9 x10 x11 x12 x13 x14 x15 x16 x17 x18 x19 x20 x21 a2) qu15 false
theorem TP62 (c0 c1 c2 c3 c4 c5 c6 c7 c8 c9 c10 c11 c12 c13 c14 c15 c16 c17 c18 c19 c20 c21 c22 : D) : T62.sp.pre [.agg [c0, c1, c2, c3, c4, c5, c6, c7], .agg [c8, c9, c10, c11, c12, c13, c14, c15, c16, c17, c18, c19, c20, c21], .c c22] = (eqvArgs (qt38 c0 c1 c2 c3 c4 c5 c6 c7 c8 c9 c10 c11 c12 c13 c14 c15 c16 c17 c18 c19 c20 c21 c22) (qp38 qw38 c0 c1 c2 c3 c4 c5 c6 c7 c8 c9 c10 c11 c12 c13 c14 c15 c16 c17 c18 c19 c20 c21 c22) ∧ (qp38 r62 c0 c1 c2 c3 c4 c5 c6 c7 c8 c9 c10 c11 c12 c13 c14 c15 c16 c17 c18 c19 c20 c21 c22).isSome = true) := (rfl)
theorem TR62 (c0 c1 c2 c3 c4 c5 c6 c7 c8 c9 c10 c11 c12 c13 c14 c15 c16 c17 c18 c19 c20 c21 c22 : D) : T62.sp.res [.agg [c0, c1, c2, c3, c4, c5, c6, c7], .agg [c8, c9, c10, c11, c12, c13, c14, c15, c16, c17, c18, c19, c20, c21], .c c22] = qu15 ((qp38 r62 c0 c1 c2 c3 c4 c5 c6 c7 c8 c9 c10 c11 c12 c13 c14 c15 c16 c17 c18 c19 c20 c21 c22).getD default) := (rfl)
theorem TA62 : T62.sp.alias = false := (rfl)
def tb62 : Fns := lk [(64, T64.sp)]
theorem tb62_ok : FnsOk Tryz.prog tb62 := .cons f64 (FnsOk.nil)
theorem tb62_64 : tb62 64 = some T64.sp := rfl
attribute [go_sem] TP62 TR62 TA62
section
attribute [local go_sem] T62 tb62_64 Tryz.results62
theorem v62 : Valid Tryz.prog 62 T62.sp := by
 refine valid_t (fn := Tryz.f62) (n := 21) ty_ok tb62_ok Tryz.func62 rfl Tryz.ntmps62 ?_
 rintro ⟨x0, x1, x2, x3, x4, x5, x6, x7, x8, x9, x10, x11, x12, x13, x14, x15, x16, x17, x18, x19, x20, x21, a2⟩ hx
 obtain ⟨r, hr⟩ := oE (show (r62 x0 x1 x2 x3 x4 x5 x6 x7 x8 x9 x10 x11 x12 x13 x14 x15 x16 x17 x18 x19 x20 x21 a2).isSome = true from hx)
 have hres : T62.res (x0, x1, x2, x3, x4, x5, x6, x7, x8, x9, x10, x11, x12, x13, x14, x15, x16, x17, x18, x19, x20, x21, a2) = qu15 r := by simp only [T62, mkT, hr, oG]
 refine ⟨nL rfl, fun stop S => ?_⟩
 rw [hres] at S
 unfold r62 at hr
 refine S.gx [] ?_
 repeat refine gA ?_
 refine S.sees [3, 4, 6, 9, 10, 11] [(3, 3), (4, 4), (6, 6)] [] ?_ (Stop.iter S (fun s1 => ⟨[(3, .c (.ref 3 0)), (4, .c (.ref 4 0)), (6, .c (.ref 6 0)), (9, .c (.d (encF 2 d_II a2))), (10, .c (.d (.int .i64 (a2.length : Int)))), (11, .c (.d (.int .i64 s1.1)))], [(3, [.d (encF 4 d_IIII x0), .d (encF 5 d_IIIII x1), .d (encF 3 d_III x2), .d (encF 2 d_II x3), .d (.int .i64 x4), .d (.int .i64 x5), .d (.int .i64 x6), .d (.int .i64 x7)]), (4, [.d (.int .i64 s1.2.1), .d (.int .i64 s1.2.2.1), .d (.int .i64 s1.2.2.2.1), .d (.int .i64 s1.2.2.2.2.1), .d (.int .i64 s1.2.2.2.2.2.1), .d (.int .i64 s1.2.2.2.2.2.2.1), .d (.int .i64 s1.2.2.2.2.2.2.2.1), .d (.int .i64 s1.2.2.2.2.2.2.2.2.1), .d (.int .i64 s1.2.2.2.2.2.2.2.2.2.1), .d (.int .i64 s1.2.2.2.2.2.2.2.2.2.2.1), .d (.int .i64 s1.2.2.2.2.2.2.2.2.2.2.2.1), .d (.int .i64 s1.2.2.2.2.2.2.2.2.2.2.2.2.1), .d (.int .i64 s1.2.2.2.2.2.2.2.2.2.2.2.2.2.1), .d (.int .i64 s1.2.2.2.2.2.2.2.2.2.2.2.2.2.2)]), (6, [.d (.int .i64 0), .d (.int .i64 0), .d (.int .i64 0), .d (.int .i64 0), .d (.int .i64 0), .d (.int .i64 0), .d (.int .i64 0), .d (.int .i64 0), .d (.int .i64 0), .d (.int .i64 0), .d (.int .i64 0), .d (.int .i64 0), .d (.int .i64 0), .d (.int .i64 0)])], []⟩) (b62_1 x0 x1 x2 x3 x4 x5 x6 x7 a2) (fun q => q = r) hr rfl ?_)
 ·exact lf
 ·intro s1 hr
  unfold b62_1 at hr
  refine S.gx [] ?_
  repeat refine gA ?_
  refine ⟨?_, ?_⟩ <;> intro hc
  ·have hr := ifP1 hr hc
   obtain ⟨hg2, hr⟩ := of_guard1 hr
   obtain ⟨v1, hv1, hr⟩ := of_bind1 hr
   try simp only [hv1, oG, oI, true_and, and_assoc]
   repeat refine gA ?_
   refine S.sees [3, 4, 6, 9, 10, 11] [(3, 3), (4, 4), (6, 6)] [] ?_ hr
   exact lf
  ·have hr := ifN1 hr hc
   repeat refine gA ?_
   have hr := of_out0 hr
   repeat refine gA ?_
   cases hr
   exact lf
theorem f62 : FnFact Tryz.prog 62 T62.sp := ⟨⟨Tryz.f62, Tryz.func62, by decide, rfl⟩, v62⟩
end

/- martensite/steel.BoxRun -/
def r30 (x0 : List (Int × Int × Int × Int)) (x1 : List (Int × Int × Int × Int × Int)) (x2 : List (Int × Int × Int)) (x3 : List (Int × Int)) (x4 : Int) (x5 : Int) (x6 : Int) (x7 : Int) (x8 : Int) (x9 : Int) (x10 : Int) (x11 : Int) (x12 : Int) (x13 : Int) (x14 : Int) (x15 : Int) (x16 : Int) (x17 : Int) (x18 : Int) (x19 : Int) (x20 : Int) (x21 : Int) (a2 : List (Int × Int)) : Option (Int × Int × Int × Int × Int × Int × Int × Int × Int × Int × Int × Int × Int × Int × Int) :=
  (r46 x0 x1 x2 x3 x4 x5 x6 x7).bind fun v1 =>
   (r33 x8 x9 x10 x11 x12 x13 x14 x15 x16 x17 x18 x19 x20 x21).bind fun v2 =>
    (r61 a2).bind fun v3 =>
     (r45 [v1, v2, v3]).bind fun v4 =>
      if (v4 != 0) = true then
       some (0, 0, 0, 0, 0, 0, 0, 0, 0, 0, 0, 0, 0, 0, v4)
       else (r62 x0 x1 x2 x3 x4 x5 x6 x7 x8 x9 x10 x11 x12 x13 x14 x15 x16 x17 x18 x19 x20 x21 a2).bind fun v5 =>
        some (v5.1, v5.2.1, v5.2.2.1, v5.2.2.2.1, v5.2.2.2.2.1, v5.2.2.2.2.2.1, v5.2.2.2.2.2.2.1, v5.2.2.2.2.2.2.2.1, v5.2.2.2.2.2.2.2.2.1, v5.2.2.2.2.2.2.2.2.2.1, v5.2.2.2.2.2.2.2.2.2.2.1, v5.2.2.2.2.2.2.2.2.2.2.2.1, v5.2.2.2.2.2.2.2.2.2.2.2.2.1, v5.2.2.2.2.2.2.2.2.2.2.2.2.2, 0)
def T30 : TSpec qA38 := mkT qE38 qd38 (fun ⟨x0, x1, x2, x3, x4, x5, x6, x7, x8, x9, x10, x11, x12, x13, x14, x15, x16, x17, x18, x19, x20, x21, a2⟩ => r30 x0 x1 x2 x3 x4 x5 x6 x7 x8 x9 x10 x11 x12 x13 x14 x15 x16 x17 x18 x19 x20 x21 a2) qu16 false
theorem TP30 (c0 c1 c2 c3 c4 c5 c6 c7 c8 c9 c10 c11 c12 c13 c14 c15 c16 c17 c18 c19 c20 c21 c22 : D) : T30.sp.pre [.agg [c0, c1, c2, c3, c4, c5, c6, c7], .agg [c8, c9, c10, c11, c12, c13, c14, c15, c16, c17, c18, c19, c20, c21], .c c22] = (eqvArgs (qt38 c0 c1 c2 c3 c4 c5 c6 c7 c8 c9 c10 c11 c12 c13 c14 c15 c16 c17 c18 c19 c20 c21 c22) (qp38 qw38 c0 c1 c2 c3 c4 c5 c6 c7 c8 c9 c10 c11 c12 c13 c14 c15 c16 c17 c18 c19 c20 c21 c22) ∧ (qp38 r30 c0 c1 c2 c3 c4 c5 c6 c7 c8 c9 c10 c11 c12 c13 c14 c15 c16 c17 c18 c19 c20 c21 c22).isSome = true) := (rfl)
theorem TR30 (c0 c1 c2 c3 c4 c5 c6 c7 c8 c9 c10 c11 c12 c13 c14 c15 c16 c17 c18 c19 c20 c21 c22 : D) : T30.sp.res [.agg [c0, c1, c2, c3, c4, c5, c6, c7], .agg [c8, c9, c10, c11, c12, c13, c14, c15, c16, c17, c18, c19, c20, c21], .c c22] = qu16 ((qp38 r30 c0 c1 c2 c3 c4 c5 c6 c7 c8 c9 c10 c11 c12 c13 c14 c15 c16 c17 c18 c19 c20 c21 c22).getD default) := (rfl)
theorem TA30 : T30.sp.alias = false := (rfl)
def tb30 : Fns := lk [(33, T33.sp), (45, T45.sp), (46, T46.sp), (61, T61.sp), (62, T62.sp)]
theorem tb30_ok : FnsOk Tryz.prog tb30 := .cons f33 (.cons f45 (.cons f46 (.cons f61 (.cons f62 (FnsOk.nil)))))
theorem tb30_33 : tb30 33 = some T33.sp := rfl
theorem tb30_45 : tb30 45 = some T45.sp := rfl
theorem tb30_46 : tb30 46 = some T46.sp := rfl
theorem tb30_61 : tb30 61 = some T61.sp := rfl
theorem tb30_62 : tb30 62 = some T62.sp := rfl
attribute [go_sem] TP30 TR30 TA30
section
attribute [local go_sem] T30 tb30_33 tb30_45 tb30_46 tb30_61 tb30_62 Tryz.results30
theorem v30 : Valid Tryz.prog 30 T30.sp := by
 refine valid_t (fn := Tryz.f30) (n := 26) ty_ok tb30_ok Tryz.func30 rfl Tryz.ntmps30 ?_
 rintro ⟨x0, x1, x2, x3, x4, x5, x6, x7, x8, x9, x10, x11, x12, x13, x14, x15, x16, x17, x18, x19, x20, x21, a2⟩ hx
 obtain ⟨r, hr⟩ := oE (show (r30 x0 x1 x2 x3 x4 x5 x6 x7 x8 x9 x10 x11 x12 x13 x14 x15 x16 x17 x18 x19 x20 x21 a2).isSome = true from hx)
 have hres : T30.res (x0, x1, x2, x3, x4, x5, x6, x7, x8, x9, x10, x11, x12, x13, x14, x15, x16, x17, x18, x19, x20, x21, a2) = qu16 r := by simp only [T30, mkT, hr, oG]
 refine ⟨nL rfl, fun stop S => ?_⟩
 rw [hres] at S
 unfold r30 at hr
 refine S.gx [] ?_
 obtain ⟨v1, hv1, hr⟩ := of_bind0 hr
 obtain ⟨v2, hv2, hr⟩ := of_bind0 hr
 obtain ⟨v3, hv3, hr⟩ := of_bind0 hr
 obtain ⟨v4, hv4, hr⟩ := of_bind0 hr
 try simp only [hv1, hv2, hv3, hv4, Option.getD_some, Option.isSome_some, true_and, and_assoc]
 repeat refine gA ?_
 refine ⟨?_, ?_⟩ <;> intro hc
 ·have hr := ifP hr hc
  repeat refine gA ?_
  cases hr
  exact lf
 ·have hr := ifN hr hc
  obtain ⟨v5, hv5, hr⟩ := of_bind0 hr
  try simp only [hv5, oG, oI, true_and, and_assoc]
  repeat refine gA ?_
  cases hr
  exact lf
theorem f30 : FnFact Tryz.prog 30 T30.sp := ⟨⟨Tryz.f30, Tryz.func30, by decide, rfl⟩, v30⟩
end

/- martensite/martensiteref04.BoxErr -/
def b22_1 (x0 : Int) (x1 : Int) (x2 : Int) (x3 : Int) (x4 : Int) (x5 : Int) (x6 : Int) (x7 : Int) (x8 : Int) (x9 : Int) (x10 : Int) (x11 : Int) (x12 : Int) (x13 : Int) : (Int) → Ctl (Int) (Int) := fun s1 =>
  if (decide (s1 < (([(x0, x1), (x2, x3), (x4, x5), (x6, x7), (x8, x9), (x10, x11), (x12, x13)]).length : Int))) = true then
   if 0 ≤ s1 ∧ s1 < (([(x0, x1), (x2, x3), (x4, x5), (x6, x7), (x8, x9), (x10, x11), (x12, x13)]).length : Int) then
    if 0 ≤ s1 ∧ s1 < (([1000000, 1000000, 1000000, 1000000, 1000000, 100000, 1000000]).length : Int) then
     bindC (r58 ((([(x0, x1), (x2, x3), (x4, x5), (x6, x7), (x8, x9), (x10, x11), (x12, x13)]).getD s1.toNat default).1) 0 (([1000000, 1000000, 1000000, 1000000, 1000000, 100000, 1000000]).getD s1.toNat default)) fun v1 =>
      if (!(!v1)) = true → 0 ≤ s1 ∧ s1 < (([(x0, x1), (x2, x3), (x4, x5), (x6, x7), (x8, x9), (x10, x11), (x12, x13)]).length : Int) then
       if (!(!v1)) = true → 0 ≤ s1 ∧ s1 < (([1000000, 1000000, 1000000, 1000000, 1000000, 100000, 1000000]).length : Int) then
        if (!(!v1)) = true → (r58 ((([(x0, x1), (x2, x3), (x4, x5), (x6, x7), (x8, x9), (x10, x11), (x12, x13)]).getD s1.toNat default).2) 0 (([1000000, 1000000, 1000000, 1000000, 1000000, 100000, 1000000]).getD s1.toNat default)).isSome = true then
         if ((!v1) || (!((r58 ((([(x0, x1), (x2, x3), (x4, x5), (x6, x7), (x8, x9), (x10, x11), (x12, x13)]).getD s1.toNat default).2) 0 (([1000000, 1000000, 1000000, 1000000, 1000000, 100000, 1000000]).getD s1.toNat default)).getD default))) = true then
          .out (some 2)
          else if 0 ≤ s1 ∧ s1 < (([(x0, x1), (x2, x3), (x4, x5), (x6, x7), (x8, x9), (x10, x11), (x12, x13)]).length : Int) then
           if 0 ≤ s1 ∧ s1 < (([(x0, x1), (x2, x3), (x4, x5), (x6, x7), (x8, x9), (x10, x11), (x12, x13)]).length : Int) then
            if (decide (((([(x0, x1), (x2, x3), (x4, x5), (x6, x7), (x8, x9), (x10, x11), (x12, x13)]).getD s1.toNat default).1) > ((([(x0, x1), (x2, x3), (x4, x5), (x6, x7), (x8, x9), (x10, x11), (x12, x13)]).getD s1.toNat default).2))) = true then
             .out (some 9)
             else .next (IntKind.i64.wrap (s1 + 1))
            else .out none
           else .out none
         else .out none
        else .out none
       else .out none
     else .out none
    else .out none
   else .out (if ((decide ((IntKind.i64.wrap ((IntKind.i64.wrap ((IntKind.i64.wrap (x0 + x2)) + x4)) + x6)) > 1000000)) || (decide ((IntKind.i64.wrap ((IntKind.i64.wrap ((IntKind.i64.wrap (x1 + x3)) + x5)) + x7)) < 1000000))) = true then
    some 12
    else some 0)
def r22 (x0 : Int) (x1 : Int) (x2 : Int) (x3 : Int) (x4 : Int) (x5 : Int) (x6 : Int) (x7 : Int) (x8 : Int) (x9 : Int) (x10 : Int) (x11 : Int) (x12 : Int) (x13 : Int) : Option (Int) :=
  iterC (b22_1 x0 x1 x2 x3 x4 x5 x6 x7 x8 x9 x10 x11 x12 x13) 1000000000 0
def T22 : TSpec qA25 := mkT qE25 qd25 (fun ⟨x0, x1, x2, x3, x4, x5, x6, x7, x8, x9, x10, x11, x12, x13⟩ => r22 x0 x1 x2 x3 x4 x5 x6 x7 x8 x9 x10 x11 x12 x13) qu4 false
theorem TP22 (c0 c1 c2 c3 c4 c5 c6 c7 c8 c9 c10 c11 c12 c13 : D) : T22.sp.pre [.agg [c0, c1, c2, c3, c4, c5, c6, c7, c8, c9, c10, c11, c12, c13]] = (eqvArgs (qt25 c0 c1 c2 c3 c4 c5 c6 c7 c8 c9 c10 c11 c12 c13) (qp25 qw25 c0 c1 c2 c3 c4 c5 c6 c7 c8 c9 c10 c11 c12 c13) ∧ (qp25 r22 c0 c1 c2 c3 c4 c5 c6 c7 c8 c9 c10 c11 c12 c13).isSome = true) := (rfl)
theorem TR22 (c0 c1 c2 c3 c4 c5 c6 c7 c8 c9 c10 c11 c12 c13 : D) : T22.sp.res [.agg [c0, c1, c2, c3, c4, c5, c6, c7, c8, c9, c10, c11, c12, c13]] = qu4 ((qp25 r22 c0 c1 c2 c3 c4 c5 c6 c7 c8 c9 c10 c11 c12 c13).getD default) := (rfl)
theorem TA22 : T22.sp.alias = false := (rfl)
def tb22 : Fns := lk [(58, T58.sp)]
theorem tb22_ok : FnsOk Tryz.prog tb22 := .cons f58 (FnsOk.nil)
theorem tb22_58 : tb22 58 = some T58.sp := rfl
attribute [go_sem] TP22 TR22 TA22
section
attribute [local go_sem] T22 tb22_58 Tryz.results22
theorem v22 : Valid Tryz.prog 22 T22.sp := by
 refine valid_t (fn := Tryz.f22) (n := 97) ty_ok tb22_ok Tryz.func22 rfl Tryz.ntmps22 ?_
 rintro ⟨x0, x1, x2, x3, x4, x5, x6, x7, x8, x9, x10, x11, x12, x13⟩ hx
 obtain ⟨r, hr⟩ := oE (show (r22 x0 x1 x2 x3 x4 x5 x6 x7 x8 x9 x10 x11 x12 x13).isSome = true from hx)
 have hres : T22.res (x0, x1, x2, x3, x4, x5, x6, x7, x8, x9, x10, x11, x12, x13) = qu4 r := by simp only [T22, mkT, hr, oG]
 refine ⟨nL rfl, fun stop S => ?_⟩
 rw [hres] at S
 unfold r22 at hr
 refine S.gx [5, 7, 9, 11, 12] ?_
 repeat refine gA ?_
 refine S.sees [1, 3, 4, 5] [(1, 1)] [(20, 20), (21, 21)] ?_ (Stop.iter S (fun s1 => ⟨[(1, .c (.ref 1 0)), (3, .c (.own 20)), (4, .c (.own 21)), (5, .c (.d (.int .i64 s1)))], [(1, [.d (.int .i64 x0), .d (.int .i64 x1), .d (.int .i64 x2), .d (.int .i64 x3), .d (.int .i64 x4), .d (.int .i64 x5), .d (.int .i64 x6), .d (.int .i64 x7), .d (.int .i64 x8), .d (.int .i64 x9), .d (.int .i64 x10), .d (.int .i64 x11), .d (.int .i64 x12), .d (.int .i64 x13)])], [(20, .owned (encF 2 d_II ([(x0, x1), (x2, x3), (x4, x5), (x6, x7), (x8, x9), (x10, x11), (x12, x13)]))), (21, .owned (encF 1 d_I ([1000000, 1000000, 1000000, 1000000, 1000000, 100000, 1000000])))]⟩) (b22_1 x0 x1 x2 x3 x4 x5 x6 x7 x8 x9 x10 x11 x12 x13) (fun q => q = r) hr rfl ?_)
 ·exact lf
 ·intro s1 hr
  unfold b22_1 at hr
  refine S.gx [5, 7, 9, 11, 12] ?_
  repeat refine gA ?_
  refine ⟨?_, ?_⟩ <;> intro hc
  ·have hr := ifP1 hr hc
   obtain ⟨hg4, hr⟩ := of_guard1 hr
   obtain ⟨hg5, hr⟩ := of_guard1 hr
   obtain ⟨v1, hv1, hr⟩ := of_bind1 hr
   obtain ⟨hg6, hr⟩ := of_guard1 hr
   obtain ⟨hg7, hr⟩ := of_guard1 hr
   obtain ⟨hg8, hr⟩ := of_guard1 hr
   try simp only [hv1, oG, oI, true_and, and_assoc]
   repeat (first | refine gG hg6 ?_ | refine gG hg7 ?_ | refine gG hg8 ?_ | refine gA ?_ | refine gB ?_)
   refine ⟨?_, ?_⟩ <;> intro hc
   ·have hr := ifP1 hr hc
    repeat refine gA ?_
    refine S.prune [] ?_
    refine S.gx [5, 9, 11, 12] ?_
    repeat refine gA ?_
    have hr := of_out0 hr
    cases hr
    exact lf
   ·have hr := ifN1 hr hc
    obtain ⟨hg2, hr⟩ := of_guard1 hr
    obtain ⟨hg3, hr⟩ := of_guard1 hr
    repeat refine gA ?_
    refine ⟨?_, ?_⟩ <;> intro hc
    ·have hr := ifP1 hr hc
     repeat refine gA ?_
     refine S.prune [] ?_
     refine S.gx [5, 7, 11, 12] ?_
     repeat refine gA ?_
     have hr := of_out0 hr
     cases hr
     exact lf
    ·have hr := ifN1 hr hc
     repeat refine gA ?_
     refine S.prune [1, 3, 4, 5] ?_
     refine S.gx [7, 9, 11, 12] ?_
     repeat refine gA ?_
     refine S.sees [1, 3, 4, 5] [(1, 1)] [(20, 20), (21, 21)] ?_ hr
     exact lf
  ·have hr := ifN1 hr hc
   repeat refine gA ?_
   have hr := of_out0 hr
   repeat (first | refine gA ?_ | refine gB ?_)
   refine ⟨?_, ?_⟩ <;> intro hc
   ·have hr := ifP hr hc
    repeat refine gA ?_
    refine S.prune [] ?_
    refine S.gx [5, 7, 9, 12] ?_
    repeat refine gA ?_
    cases hr
    exact lf
   ·have hr := ifN hr hc
    repeat refine gA ?_
    refine S.prune [] ?_
    refine S.gx [5, 7, 9, 11] ?_
    repeat refine gA ?_
    cases hr
    exact lf
theorem f22 : FnFact Tryz.prog 22 T22.sp := ⟨⟨Tryz.f22, Tryz.func22, by decide, rfl⟩, v22⟩
end

/- martensite/martensiteref04.IsKelvin -/
def r70 (a0 : Int) : Option (Bool) :=
  (r58 a0 1 3000).bind fun v1 =>
   some v1
def T70 : TSpec qA3 := mkT qE3 qd3 r70 qu3 false
theorem TP70 (c0 : D) : T70.sp.pre [.c c0] = (eqvArgs (qt3 c0) (qp3 qw3 c0) ∧ (qp3 r70 c0).isSome = true) := (rfl)
theorem TR70 (c0 : D) : T70.sp.res [.c c0] = qu3 ((qp3 r70 c0).getD default) := (rfl)
theorem TA70 : T70.sp.alias = false := (rfl)
def tb70 : Fns := lk [(58, T58.sp)]
theorem tb70_ok : FnsOk Tryz.prog tb70 := .cons f58 (FnsOk.nil)
theorem tb70_58 : tb70 58 = some T58.sp := rfl
attribute [go_sem] TP70 TR70 TA70
section
attribute [local go_sem] T70 tb70_58 Tryz.results70
theorem v70 : Valid Tryz.prog 70 T70.sp := by
 refine valid_t (fn := Tryz.f70) (n := 5) ty_ok tb70_ok Tryz.func70 rfl Tryz.ntmps70 ?_
 rintro a0 hx
 obtain ⟨r, hr⟩ := oE (show (r70 a0).isSome = true from hx)
 have hres : T70.res a0 = qu3 r := by simp only [T70, mkT, hr, oG]
 refine ⟨nL rfl, fun stop S => ?_⟩
 rw [hres] at S
 unfold r70 at hr
 refine S.gx [] ?_
 obtain ⟨v1, hv1, hr⟩ := of_bind0 hr
 try simp only [hv1, oG, oI, true_and, and_assoc]
 repeat refine gA ?_
 cases hr
 exact lf
theorem f70 : FnFact Tryz.prog 70 T70.sp := ⟨⟨Tryz.f70, Tryz.func70, by decide, rfl⟩, v70⟩
end

/- martensite/martensiteref04.part -/
def r124 (x1 : Int) (x0 : Int) : Option (Bool) :=
  (r58 x1 0 1000000).bind fun v1 =>
   if v1 = true → (r58 x0 0 1000000).isSome = true then
    some (v1 && ((r58 x0 0 1000000).getD default))
    else none
def T124 : TSpec qA4 := mkT qE4 qd4 (fun ⟨x1, x0⟩ => r124 x1 x0) qu3 false
theorem TP124 (c0 c1 : D) : T124.sp.pre [.agg [c0, c1]] = (eqvArgs (qt4 c0 c1) (qp4 qw4 c0 c1) ∧ (qp4 r124 c0 c1).isSome = true) := (rfl)
theorem TR124 (c0 c1 : D) : T124.sp.res [.agg [c0, c1]] = qu3 ((qp4 r124 c0 c1).getD default) := (rfl)
theorem TA124 : T124.sp.alias = false := (rfl)
def tb124 : Fns := lk [(58, T58.sp)]
theorem tb124_ok : FnsOk Tryz.prog tb124 := .cons f58 (FnsOk.nil)
theorem tb124_58 : tb124 58 = some T58.sp := rfl
attribute [go_sem] TP124 TR124 TA124
section
attribute [local go_sem] T124 tb124_58 Tryz.results124
theorem v124 : Valid Tryz.prog 124 T124.sp := by
 refine valid_t (fn := Tryz.f124) (n := 11) ty_ok tb124_ok Tryz.func124 rfl Tryz.ntmps124 ?_
 rintro ⟨x1, x0⟩ hx
 obtain ⟨r, hr⟩ := oE (show (r124 x1 x0).isSome = true from hx)
 have hres : T124.res (x1, x0) = qu3 r := by simp only [T124, mkT, hr, oG]
 refine ⟨nL rfl, fun stop S => ?_⟩
 rw [hres] at S
 unfold r124 at hr
 refine S.gx [] ?_
 obtain ⟨v1, hv1, hr⟩ := of_bind0 hr
 obtain ⟨hg2, hr⟩ := of_guard0 hr
 try simp only [hv1, oG, oI, true_and, and_assoc]
 repeat (first | refine gG hg2 ?_ | refine gA ?_ | refine gB ?_)
 cases hr
 exact lf
theorem f124 : FnFact Tryz.prog 124 T124.sp := ⟨⟨Tryz.f124, Tryz.func124, by decide, rfl⟩, v124⟩
end

/- martensite/martensiteref04.knot -/
def b96_2 (a0 : Int) (a1 : Int) (a2 : List (Int × Int)) (a4 : Bool) : (Int) → Ctl (Int) (Int) := fun s2 =>
  if (decide (s2 < (a2.length : Int))) = true then
   if 0 ≤ s2 ∧ s2 < (a2.length : Int) then
    if 0 ≤ s2 ∧ s2 < (a2.length : Int) then
     if (decide (((a2.getD s2.toNat default).1) > ((a2.getD s2.toNat default).2))) = true then
      .out (some 3)
      else .next (IntKind.i64.wrap (s2 + 1))
     else .out none
    else .out none
   else .out (if ((decide (a0 ≤ a1)) || (!a4)) = true then
    some 9
    else some 0)
def b96_1 (a0 : Int) (a1 : Int) (a2 : List (Int × Int)) (a4 : Bool) : (Bool × Int) → Ctl (Bool × Int) (Int) := fun s1 =>
  if (decide (s1.2 < (a2.length : Int))) = true then
   if s1.1 = true → 0 ≤ s1.2 ∧ s1.2 < (a2.length : Int) then
    if s1.1 = true → (r124 ((a2.getD s1.2.toNat default).1) ((a2.getD s1.2.toNat default).2)).isSome = true then
     .next (s1.1 && ((r124 ((a2.getD s1.2.toNat default).1) ((a2.getD s1.2.toNat default).2)).getD default), IntKind.i64.wrap (s1.2 + 1))
     else .out none
    else .out none
   else .out (if (!s1.1) = true then
    some 2
    else iterC (b96_2 a0 a1 a2 a4) 1000000000 0)
def r96 (a0 : Int) (a1 : Int) (a2 : List (Int × Int)) (a3 : Int) (a4 : Bool) : Option (Int) :=
  (r70 a0).bind fun v1 =>
   if v1 = true → (r58 a3 0 1000000).isSome = true then
    iterC (b96_1 a0 a1 a2 a4) 1000000000 (v1 && ((r58 a3 0 1000000).getD default), 0)
    else none
def T96 : TSpec qA39 := mkT qE39 qd39 (fun ⟨a0, a1, a2, a3, a4⟩ => r96 a0 a1 a2 a3 a4) qu4 false
theorem TP96 (c0 c1 c2 c3 c4 : D) : T96.sp.pre [.c c0, .c c1, .c c2, .c c3, .c c4] = (eqvArgs (qt39 c0 c1 c2 c3 c4) (qp39 qw39 c0 c1 c2 c3 c4) ∧ (qp39 r96 c0 c1 c2 c3 c4).isSome = true) := (rfl)
theorem TR96 (c0 c1 c2 c3 c4 : D) : T96.sp.res [.c c0, .c c1, .c c2, .c c3, .c c4] = qu4 ((qp39 r96 c0 c1 c2 c3 c4).getD default) := (rfl)
theorem TA96 : T96.sp.alias = false := (rfl)
def tb96 : Fns := lk [(58, T58.sp), (70, T70.sp), (124, T124.sp)]
theorem tb96_ok : FnsOk Tryz.prog tb96 := .cons f58 (.cons f70 (.cons f124 (FnsOk.nil)))
theorem tb96_58 : tb96 58 = some T58.sp := rfl
theorem tb96_70 : tb96 70 = some T70.sp := rfl
theorem tb96_124 : tb96 124 = some T124.sp := rfl
attribute [go_sem] TP96 TR96 TA96
section
attribute [local go_sem] T96 tb96_58 tb96_70 tb96_124 Tryz.results96
theorem v96 : Valid Tryz.prog 96 T96.sp := by
 refine valid_t (fn := Tryz.f96) (n := 60) ty_ok tb96_ok Tryz.func96 rfl Tryz.ntmps96 ?_
 rintro ⟨a0, a1, a2, a3, a4⟩ hx
 obtain ⟨r, hr⟩ := oE (show (r96 a0 a1 a2 a3 a4).isSome = true from hx)
 have hres : T96.res (a0, a1, a2, a3, a4) = qu4 r := by simp only [T96, mkT, hr, oG]
 refine ⟨nL rfl, fun stop S => ?_⟩
 rw [hres] at S
 unfold r96 at hr
 refine S.gx [] ?_
 obtain ⟨v1, hv1, hr⟩ := of_bind0 hr
 obtain ⟨hg6, hr⟩ := of_guard0 hr
 try simp only [hv1, oG, oI, true_and, and_assoc]
 repeat (first | refine gG hg6 ?_ | refine gA ?_ | refine gB ?_)
 refine S.sees [0, 1, 2, 4, 11, 12] [] [] ?_ (Stop.iter S (fun s1 => ⟨[(0, .c (.d (.int .i64 a0))), (1, .c (.d (.int .i64 a1))), (2, .c (.d (encF 2 d_II a2))), (4, .c (.d (.bool a4))), (11, .c (.d (.bool s1.1))), (12, .c (.d (.int .i64 s1.2)))], [], []⟩) (b96_1 a0 a1 a2 a4) (fun q => q = r) hr rfl ?_)
 ·exact lf
 ·intro s1 hr
  unfold b96_1 at hr
  refine S.gx [] ?_
  repeat refine gA ?_
  refine ⟨?_, ?_⟩ <;> intro hc
  ·have hr := ifP1 hr hc
   obtain ⟨hg2, hr⟩ := of_guard1 hr
   obtain ⟨hg3, hr⟩ := of_guard1 hr
   repeat (first | refine gG hg2 ?_ | refine gG hg3 ?_ | refine gA ?_ | refine gB ?_)
   refine S.sees [0, 1, 2, 4, 11, 12] [] [] ?_ hr
   exact lf
  ·have hr := ifN1 hr hc
   repeat refine gA ?_
   have hr := of_out0 hr
   repeat refine gA ?_
   refine ⟨?_, ?_⟩ <;> intro hc
   ·have hr := ifP hr hc
    repeat refine gA ?_
    cases hr
    exact lf
   ·have hr := ifN hr hc
    repeat refine gA ?_
    refine S.sees [0, 1, 2, 4, 13] [] [] ?_ (Stop.iter S (fun s2 => ⟨[(0, .c (.d (.int .i64 a0))), (1, .c (.d (.int .i64 a1))), (2, .c (.d (encF 2 d_II a2))), (4, .c (.d (.bool a4))), (13, .c (.d (.int .i64 s2)))], [], []⟩) (b96_2 a0 a1 a2 a4) (fun q => q = r) hr rfl ?_)
    ·exact lf
    ·intro s2 hr
     unfold b96_2 at hr
     refine S.gx [] ?_
     repeat refine gA ?_
     refine ⟨?_, ?_⟩ <;> intro hc
     ·have hr := ifP1 hr hc
      obtain ⟨hg4, hr⟩ := of_guard1 hr
      obtain ⟨hg5, hr⟩ := of_guard1 hr
      repeat refine gA ?_
      refine ⟨?_, ?_⟩ <;> intro hc
      ·have hr := ifP1 hr hc
       repeat refine gA ?_
       have hr := of_out0 hr
       cases hr
       exact lf
      ·have hr := ifN1 hr hc
       repeat refine gA ?_
       refine S.sees [0, 1, 2, 4, 13] [] [] ?_ hr
       exact lf
     ·have hr := ifN1 hr hc
      repeat refine gA ?_
      have hr := of_out0 hr
      repeat (first | refine gA ?_ | refine gB ?_)
      refine ⟨?_, ?_⟩ <;> intro hc
      ·have hr := ifP hr hc
       repeat refine gA ?_
       cases hr
       exact lf
      ·have hr := ifN hr hc
       repeat refine gA ?_
       cases hr
       exact lf
theorem f96 : FnFact Tryz.prog 96 T96.sp := ⟨⟨Tryz.f96, Tryz.func96, by decide, rfl⟩, v96⟩
end

/- martensite/martensiteref04.CheckRules -/
def b54_4 (x0 : List (Int × Int × Int × Int)) (x2 : List (Int × Int)) (x6 : Int) (x4 : Int) (x5 : Int) (x7 : Int) (s2 : Int × Int) (s3 : Int × Int) : (Int × Int) → Ctl (Int × Int) (Int × Int) := fun s4 =>
  if (decide (s4.2 < (x2.length : Int))) = true then
   if 0 ≤ s4.2 ∧ s4.2 < (x2.length : Int) then
    if 0 ≤ s4.2 ∧ s4.2 < (x2.length : Int) then
     bindC (r96 ((x2.getD s4.2.toNat default).1) s4.1 [] ((x2.getD s4.2.toNat default).2) true) fun v14 =>
      if (v14 != 0) = true then
       .out (some (s4.2, v14))
       else if 0 ≤ s4.2 ∧ s4.2 < (x2.length : Int) then
        .next ((x2.getD s4.2.toNat default).1, IntKind.i64.wrap (s4.2 + 1))
        else .out none
     else .out none
    else .out none
   else .out (if (decide ((x0.length : Int) > 0)) = true → 0 ≤ 0 ∧ 0 < (x0.length : Int) then
    if ((decide ((x0.length : Int) > 0)) && (decide ((if (if s2.1 < s3.1 then s3.1 else s2.1) < s4.1 then s4.1 else (if s2.1 < s3.1 then s3.1 else s2.1)) ≥ ((x0.getD 0 default).1)))) = true then
     some (0, 13)
     else (r58 x6 0 2000).bind fun v18 =>
      if (!v18) = true then
       some (0, 2)
       else (r58 x4 0 2000).bind fun v19 =>
        if (!v19) = true then
         some (0, 2)
         else (r58 x5 0 2000).bind fun v20 =>
          if (!v20) = true then
           some (0, 2)
           else (r58 x7 0 2000).bind fun v21 =>
            if (!v21) = true then
             some (0, 2)
             else if (decide (x4 < x6)) = true then
              some (0, 9)
              else if (decide (x5 < x4)) = true then
               some (0, 9)
               else if (decide (x7 < x5)) = true then
                some (0, 9)
                else some (0, 0)
    else none)
def b54_3 (x0 : List (Int × Int × Int × Int)) (x1 : List (Int × Int × Int)) (x2 : List (Int × Int)) (x6 : Int) (x4 : Int) (x5 : Int) (x7 : Int) (s2 : Int × Int) : (Int × Int) → Ctl (Int × Int) (Int × Int) := fun s3 =>
  if (decide (s3.2 < (x1.length : Int))) = true then
   if 0 ≤ s3.2 ∧ s3.2 < (x1.length : Int) then
    if (!(s3.2 == 0)) = true → 0 ≤ IntKind.i64.wrap (s3.2 - 1) ∧ IntKind.i64.wrap (s3.2 - 1) < (x1.length : Int) then
     if ((!(s3.2 == 0)) && (decide (((x1.getD s3.2.toNat default).2.1) ≤ ((x1.getD (IntKind.i64.wrap (s3.2 - 1)).toNat default).2.1)))) = true → 0 ≤ IntKind.i64.wrap (s3.2 - 1) ∧ IntKind.i64.wrap (s3.2 - 1) < (x1.length : Int) then
      bindC (r96 ((x1.getD s3.2.toNat default).1) s3.1 [((x1.getD s3.2.toNat default).2.1, (x1.getD s3.2.toNat default).2.2)] 0 ((s3.2 == 0) || ((decide (((x1.getD s3.2.toNat default).2.1) ≤ ((x1.getD (IntKind.i64.wrap (s3.2 - 1)).toNat default).2.1))) && (decide (((x1.getD s3.2.toNat default).2.2) ≤ ((x1.getD (IntKind.i64.wrap (s3.2 - 1)).toNat default).2.2)))))) fun v10 =>
       if (v10 != 0) = true then
        .out (some (s3.2, v10))
        else .next ((x1.getD s3.2.toNat default).1, IntKind.i64.wrap (s3.2 + 1))
      else .out none
     else .out none
    else .out none
   else .out (iterC (b54_4 x0 x2 x6 x4 x5 x7 s2 s3) 1000000000 ((-1), 0))
def b54_2 (x0 : List (Int × Int × Int × Int)) (x3 : List (Int × Int × Int × Int × Int)) (x1 : List (Int × Int × Int)) (x2 : List (Int × Int)) (x6 : Int) (x4 : Int) (x5 : Int) (x7 : Int) : (Int × Int) → Ctl (Int × Int) (Int × Int) := fun s2 =>
  if (decide (s2.2 < (x3.length : Int))) = true then
   if 0 ≤ s2.2 ∧ s2.2 < (x3.length : Int) then
    if 0 ≤ s2.2 ∧ s2.2 < (x3.length : Int) then
     if 0 ≤ s2.2 ∧ s2.2 < (x3.length : Int) then
      bindC (r96 ((x3.getD s2.2.toNat default).1) s2.1 [((x3.getD s2.2.toNat default).2.1, (x3.getD s2.2.toNat default).2.2.1), ((x3.getD s2.2.toNat default).2.2.2.1, (x3.getD s2.2.toNat default).2.2.2.2)] 0 true) fun v5 =>
       if (v5 != 0) = true then
        .out (some (s2.2, v5))
        else if 0 ≤ s2.2 ∧ s2.2 < (x3.length : Int) then
         .next ((x3.getD s2.2.toNat default).1, IntKind.i64.wrap (s2.2 + 1))
         else .out none
      else .out none
     else .out none
    else .out none
   else .out (iterC (b54_3 x0 x1 x2 x6 x4 x5 x7 s2) 1000000000 ((-1), 0))
def b54_1 (x0 : List (Int × Int × Int × Int)) (x3 : List (Int × Int × Int × Int × Int)) (x1 : List (Int × Int × Int)) (x2 : List (Int × Int)) (x6 : Int) (x4 : Int) (x5 : Int) (x7 : Int) : (Int × Int) → Ctl (Int × Int) (Int × Int) := fun s1 =>
  if (decide (s1.2 < (x0.length : Int))) = true then
   if 0 ≤ s1.2 ∧ s1.2 < (x0.length : Int) then
    if (!(s1.2 == 0)) = true → 0 ≤ IntKind.i64.wrap (s1.2 - 1) ∧ IntKind.i64.wrap (s1.2 - 1) < (x0.length : Int) then
     if ((!(s1.2 == 0)) && (decide (((x0.getD s1.2.toNat default).2.1) ≥ ((x0.getD (IntKind.i64.wrap (s1.2 - 1)).toNat default).2.1)))) = true → 0 ≤ IntKind.i64.wrap (s1.2 - 1) ∧ IntKind.i64.wrap (s1.2 - 1) < (x0.length : Int) then
      bindC (r96 ((x0.getD s1.2.toNat default).1) s1.1 [((x0.getD s1.2.toNat default).2.1, (x0.getD s1.2.toNat default).2.2.1)] ((x0.getD s1.2.toNat default).2.2.2) ((s1.2 == 0) || ((decide (((x0.getD s1.2.toNat default).2.1) ≥ ((x0.getD (IntKind.i64.wrap (s1.2 - 1)).toNat default).2.1))) && (decide (((x0.getD s1.2.toNat default).2.2.1) ≥ ((x0.getD (IntKind.i64.wrap (s1.2 - 1)).toNat default).2.2.1)))))) fun v1 =>
       if (v1 != 0) = true then
        .out (some (s1.2, v1))
        else .next ((x0.getD s1.2.toNat default).1, IntKind.i64.wrap (s1.2 + 1))
      else .out none
     else .out none
    else .out none
   else .out (iterC (b54_2 x0 x3 x1 x2 x6 x4 x5 x7) 1000000000 ((-1), 0))
def r54 (x0 : List (Int × Int × Int × Int)) (x3 : List (Int × Int × Int × Int × Int)) (x1 : List (Int × Int × Int)) (x2 : List (Int × Int)) (x6 : Int) (x4 : Int) (x5 : Int) (x7 : Int) : Option (Int × Int) :=
  if ((((decide ((x0.length : Int) > 8)) || (decide ((x3.length : Int) > 8))) || (decide ((x1.length : Int) > 8))) || (decide ((x2.length : Int) > 8))) = true then
   some (0, 8)
   else iterC (b54_1 x0 x3 x1 x2 x6 x4 x5 x7) 1000000000 ((-1), 0)
def T54 : TSpec qA1 := mkT qE1 qd1 (fun ⟨x0, x3, x1, x2, x6, x4, x5, x7⟩ => r54 x0 x3 x1 x2 x6 x4 x5 x7) qu5 false
theorem TP54 (c0 c1 c2 c3 c4 c5 c6 c7 : D) : T54.sp.pre [.agg [c0, c1, c2, c3, c4, c5, c6, c7]] = (eqvArgs (qt1 c0 c1 c2 c3 c4 c5 c6 c7) (qp1 qw1 c0 c1 c2 c3 c4 c5 c6 c7) ∧ (qp1 r54 c0 c1 c2 c3 c4 c5 c6 c7).isSome = true) := (rfl)
theorem TR54 (c0 c1 c2 c3 c4 c5 c6 c7 : D) : T54.sp.res [.agg [c0, c1, c2, c3, c4, c5, c6, c7]] = qu5 ((qp1 r54 c0 c1 c2 c3 c4 c5 c6 c7).getD default) := (rfl)
theorem TA54 : T54.sp.alias = false := (rfl)
def tb54 : Fns := lk [(58, T58.sp), (96, T96.sp)]
theorem tb54_ok : FnsOk Tryz.prog tb54 := .cons f58 (.cons f96 (FnsOk.nil))
theorem tb54_58 : tb54 58 = some T58.sp := rfl
theorem tb54_96 : tb54 96 = some T96.sp := rfl
theorem lt54_0 : ((((0 : Int)) == 0)) = true := by first | rfl | decide | simp
theorem lt54_1 : (IntKind.i64.wrap (0 + 1)) = 1 := by first | rfl | decide | simp
theorem lt54_2 : (decide ((0 : Int) < 4)) = true := by first | rfl | decide | simp
theorem lt54_3 : (decide ((1 : Int) < 4)) = true := by first | rfl | decide | simp
theorem lt54_4 : (IntKind.i64.wrap (1 + 1)) = 2 := by first | rfl | decide | simp
theorem lt54_5 : (decide ((2 : Int) < 4)) = true := by first | rfl | decide | simp
theorem lt54_6 : (IntKind.i64.wrap (2 + 1)) = 3 := by first | rfl | decide | simp
theorem lt54_7 : (decide ((3 : Int) < 4)) = true := by first | rfl | decide | simp
theorem lt54_8 : (IntKind.i64.wrap (3 + 1)) = 4 := by first | rfl | decide | simp
theorem lt54_9 : (decide ((4 : Int) < 4)) = false := by first | rfl | decide | simp
theorem lt54_10 : (IntKind.i64.wrap (1 - 1)) = 0 := by first | rfl | decide | simp
theorem lt54_11 : (IntKind.i64.wrap (2 - 1)) = 1 := by first | rfl | decide | simp
theorem lt54_12 : (IntKind.i64.wrap (3 - 1)) = 2 := by first | rfl | decide | simp
attribute [go_sem] TP54 TR54 TA54
section
attribute [local go_sem] T54 tb54_58 tb54_96 Tryz.results54 lt54_0 lt54_1 lt54_2 lt54_3 lt54_4 lt54_5 lt54_6 lt54_7 lt54_8 lt54_9 lt54_10 lt54_11 lt54_12
theorem v54 : Valid Tryz.prog 54 T54.sp := by
 refine valid_t (fn := Tryz.f54) (n := 269) ty_ok tb54_ok Tryz.func54 rfl Tryz.ntmps54 ?_
 rintro ⟨x0, x3, x1, x2, x6, x4, x5, x7⟩ hx
 obtain ⟨r, hr⟩ := oE (show (r54 x0 x3 x1 x2 x6 x4 x5 x7).isSome = true from hx)
 have hres : T54.res (x0, x3, x1, x2, x6, x4, x5, x7) = qu5 r := by simp only [T54, mkT, hr, oG]
 refine ⟨nL rfl, fun stop S => ?_⟩
 rw [hres] at S
 unfold r54 at hr
 refine S.gx [9, 19, 20, 28, 46, 48] ?_
 repeat (first | refine gA ?_ | refine gB ?_)
 refine ⟨?_, ?_⟩ <;> intro hc
 ·have hr := ifP hr hc
  repeat refine gA ?_
  cases hr
  exact lf
 ·have hr := ifN hr hc
  repeat refine gA ?_
  refine S.sees [1, 4, 5] [(1, 1)] [] ?_ (Stop.iter S (fun s1 => ⟨[(1, .c (.ref 1 0)), (4, .c (.d (.int .i64 s1.1))), (5, .c (.d (.int .i64 s1.2)))], [(1, [.d (encF 4 d_IIII x0), .d (encF 5 d_IIIII x3), .d (encF 3 d_III x1), .d (encF 2 d_II x2), .d (.int .i64 x6), .d (.int .i64 x4), .d (.int .i64 x5), .d (.int .i64 x7)])], []⟩) (b54_1 x0 x3 x1 x2 x6 x4 x5 x7) (fun q => q = r) hr rfl ?_)
  ·exact lf
  ·intro s1 hr
   unfold b54_1 at hr
   refine S.gx [9, 19, 20, 28, 46, 48] ?_
   repeat refine gA ?_
   refine ⟨?_, ?_⟩ <;> intro hc
   ·have hr := ifP1 hr hc
    obtain ⟨hg2, hr⟩ := of_guard1 hr
    obtain ⟨hg3, hr⟩ := of_guard1 hr
    obtain ⟨hg4, hr⟩ := of_guard1 hr
    repeat (first | refine gG hg3 ?_ | refine gG hg4 ?_ | refine gA ?_ | refine gB ?_)
    refine S.prune [1, 4, 5, 6, 7] ?_
    refine S.gx [19, 20, 28, 46, 48] ?_
    obtain ⟨v1, hv1, hr⟩ := of_bind1 hr
    try simp only [hv1, oG, oI, true_and, and_assoc]
    repeat refine gA ?_
    refine ⟨?_, ?_⟩ <;> intro hc
    ·have hr := ifP1 hr hc
     repeat refine gA ?_
     have hr := of_out0 hr
     cases hr
     exact lf
    ·have hr := ifN1 hr hc
     repeat refine gA ?_
     refine S.sees [1, 4, 5] [(1, 1)] [] ?_ hr
     exact lf
   ·have hr := ifN1 hr hc
    repeat refine gA ?_
    have hr := of_out0 hr
    repeat refine gA ?_
    refine S.sees [1, 4, 9] [(1, 1)] [] ?_ (Stop.iter S (fun s2 => ⟨[(1, .c (.ref 1 0)), (4, .c (.d (.int .i64 s2.1))), (9, .c (.d (.int .i64 s2.2)))], [(1, [.d (encF 4 d_IIII x0), .d (encF 5 d_IIIII x3), .d (encF 3 d_III x1), .d (encF 2 d_II x2), .d (.int .i64 x6), .d (.int .i64 x4), .d (.int .i64 x5), .d (.int .i64 x7)])], []⟩) (b54_2 x0 x3 x1 x2 x6 x4 x5 x7) (fun q => q = r) hr rfl ?_)
    ·exact lf
    ·intro s2 hr
     unfold b54_2 at hr
     refine S.gx [9, 19, 20, 28, 46, 48] ?_
     repeat refine gA ?_
     refine ⟨?_, ?_⟩ <;> intro hc
     ·have hr := ifP1 hr hc
      obtain ⟨hg7, hr⟩ := of_guard1 hr
      obtain ⟨hg8, hr⟩ := of_guard1 hr
      obtain ⟨hg9, hr⟩ := of_guard1 hr
      obtain ⟨v5, hv5, hr⟩ := of_bind1 hr
      try simp only [hv5, oG, oI, true_and, and_assoc]
      repeat refine gA ?_
      refine ⟨?_, ?_⟩ <;> intro hc
      ·have hr := ifP1 hr hc
       repeat refine gA ?_
       refine S.prune [9, 10] ?_
       refine S.gx [9, 20, 28, 46, 48] ?_
       repeat refine gA ?_
       have hr := of_out0 hr
       cases hr
       exact lf
      ·have hr := ifN1 hr hc
       repeat refine gA ?_
       refine S.prune [1, 9] ?_
       refine S.gx [9, 19, 28, 46, 48] ?_
       obtain ⟨hg6, hr⟩ := of_guard1 hr
       repeat refine gA ?_
       refine S.sees [1, 4, 9] [(1, 1)] [] ?_ hr
       exact lf
     ·have hr := ifN1 hr hc
      repeat refine gA ?_
      have hr := of_out0 hr
      repeat refine gA ?_
      refine S.sees [1, 4, 11, 12] [(1, 1)] [] ?_ (Stop.iter S (fun s3 => ⟨[(1, .c (.ref 1 0)), (4, .c (.d (.int .i64 s3.1))), (11, .c (.d (.int .i64 s2.1))), (12, .c (.d (.int .i64 s3.2)))], [(1, [.d (encF 4 d_IIII x0), .d (encF 5 d_IIIII x3), .d (encF 3 d_III x1), .d (encF 2 d_II x2), .d (.int .i64 x6), .d (.int .i64 x4), .d (.int .i64 x5), .d (.int .i64 x7)])], []⟩) (b54_3 x0 x1 x2 x6 x4 x5 x7 s2) (fun q => q = r) hr rfl ?_)
      ·exact lf
      ·intro s3 hr
       unfold b54_3 at hr
       refine S.gx [9, 19, 20, 28, 46, 48] ?_
       repeat refine gA ?_
       refine ⟨?_, ?_⟩ <;> intro hc
       ·have hr := ifP1 hr hc
        obtain ⟨hg11, hr⟩ := of_guard1 hr
        obtain ⟨hg12, hr⟩ := of_guard1 hr
        obtain ⟨hg13, hr⟩ := of_guard1 hr
        repeat (first | refine gG hg12 ?_ | refine gG hg13 ?_ | refine gA ?_ | refine gB ?_)
        refine S.prune [1, 4, 11, 12, 13, 14] ?_
        refine S.gx [9, 19, 20, 46, 48] ?_
        obtain ⟨v10, hv10, hr⟩ := of_bind1 hr
        try simp only [hv10, oG, oI, true_and, and_assoc]
        repeat refine gA ?_
        refine ⟨?_, ?_⟩ <;> intro hc
        ·have hr := ifP1 hr hc
         repeat refine gA ?_
         have hr := of_out0 hr
         cases hr
         exact lf
        ·have hr := ifN1 hr hc
         repeat refine gA ?_
         refine S.sees [1, 4, 11, 12] [(1, 1)] [] ?_ hr
         exact lf
       ·have hr := ifN1 hr hc
        repeat refine gA ?_
        have hr := of_out0 hr
        repeat refine gA ?_
        refine S.sees [1, 4, 11, 16] [(1, 1)] [] ?_ (Stop.iter S (fun s4 => ⟨[(1, .c (.ref 1 0)), (4, .c (.d (.int .i64 s4.1))), (11, .c (.d (.int .i64 (if s2.1 < s3.1 then s3.1 else s2.1)))), (16, .c (.d (.int .i64 s4.2)))], [(1, [.d (encF 4 d_IIII x0), .d (encF 5 d_IIIII x3), .d (encF 3 d_III x1), .d (encF 2 d_II x2), .d (.int .i64 x6), .d (.int .i64 x4), .d (.int .i64 x5), .d (.int .i64 x7)])], []⟩) (b54_4 x0 x2 x6 x4 x5 x7 s2 s3) (fun q => q = r) hr rfl ?_)
        ·exact lf
        ·intro s4 hr
         unfold b54_4 at hr
         refine S.gx [9, 19, 20, 28, 46, 48] ?_
         repeat refine gA ?_
         refine ⟨?_, ?_⟩ <;> intro hc
         ·have hr := ifP1 hr hc
          obtain ⟨hg16, hr⟩ := of_guard1 hr
          obtain ⟨hg17, hr⟩ := of_guard1 hr
          obtain ⟨v14, hv14, hr⟩ := of_bind1 hr
          try simp only [hv14, oG, oI, true_and, and_assoc]
          repeat refine gA ?_
          refine ⟨?_, ?_⟩ <;> intro hc
          ·have hr := ifP1 hr hc
           repeat refine gA ?_
           have hr := of_out0 hr
           cases hr
           exact lf
          ·have hr := ifN1 hr hc
           obtain ⟨hg15, hr⟩ := of_guard1 hr
           repeat refine gA ?_
           refine S.sees [1, 4, 11, 16] [(1, 1)] [] ?_ hr
           exact lf
         ·have hr := ifN1 hr hc
          repeat refine gA ?_
          have hr := of_out0 hr
          obtain ⟨hg22, hr⟩ := of_guard0 hr
          repeat (first | refine gG hg22 ?_ | refine gA ?_ | refine gB ?_)
          refine ⟨?_, ?_⟩ <;> intro hc
          ·have hr := ifP hr hc
           repeat refine gA ?_
           cases hr
           exact lf
          ·have hr := ifN hr hc
           repeat refine gA ?_
           refine S.lp ?_
           refine S.gx [9, 19, 20, 28, 46, 48] ?_
           obtain ⟨v18, hv18, hr⟩ := of_bind0 hr
           try simp only [hv18, oG, oI, true_and, and_assoc]
           repeat refine gA ?_
           refine ⟨?_, ?_⟩ <;> intro hc
           ·have hr := ifP hr hc
            repeat refine gA ?_
            refine S.prune [] ?_
            refine S.gx [9, 19, 20, 28, 46] ?_
            repeat refine gA ?_
            cases hr
            exact lf
           ·have hr := ifN hr hc
            repeat refine gA ?_
            refine S.prune [1, 18] ?_
            refine S.gx [9, 19, 20, 28, 48] ?_
            repeat refine gA ?_
            refine S.lp ?_
            refine S.gx [9, 19, 20, 28, 46, 48] ?_
            obtain ⟨v19, hv19, hr⟩ := of_bind0 hr
            try simp only [hv19, oG, oI, true_and, and_assoc]
            repeat refine gA ?_
            refine ⟨?_, ?_⟩ <;> intro hc
            ·have hr := ifP hr hc
             repeat refine gA ?_
             refine S.prune [] ?_
             refine S.gx [9, 19, 20, 28, 46] ?_
             repeat refine gA ?_
             cases hr
             exact lf
            ·have hr := ifN hr hc
             repeat refine gA ?_
             refine S.prune [1, 18] ?_
             refine S.gx [9, 19, 20, 28, 48] ?_
             repeat refine gA ?_
             refine S.lp ?_
             refine S.gx [9, 19, 20, 28, 46, 48] ?_
             obtain ⟨v20, hv20, hr⟩ := of_bind0 hr
             try simp only [hv20, oG, oI, true_and, and_assoc]
             repeat refine gA ?_
             refine ⟨?_, ?_⟩ <;> intro hc
             ·have hr := ifP hr hc
              repeat refine gA ?_
              refine S.prune [] ?_
              refine S.gx [9, 19, 20, 28, 46] ?_
              repeat refine gA ?_
              cases hr
              exact lf
             ·have hr := ifN hr hc
              repeat refine gA ?_
              refine S.prune [1, 18] ?_
              refine S.gx [9, 19, 20, 28, 48] ?_
              repeat refine gA ?_
              refine S.lp ?_
              refine S.gx [9, 19, 20, 28, 46, 48] ?_
              obtain ⟨v21, hv21, hr⟩ := of_bind0 hr
              try simp only [hv21, oG, oI, true_and, and_assoc]
              repeat refine gA ?_
              refine ⟨?_, ?_⟩ <;> intro hc
              ·have hr := ifP hr hc
               repeat refine gA ?_
               refine S.prune [] ?_
               refine S.gx [9, 19, 20, 28, 46] ?_
               repeat refine gA ?_
               cases hr
               exact lf
              ·have hr := ifN hr hc
               repeat refine gA ?_
               refine S.prune [1, 18] ?_
               refine S.gx [9, 19, 20, 28, 48] ?_
               repeat refine gA ?_
               refine S.lp ?_
               refine S.gx [9, 19, 20, 28, 46, 48] ?_
               repeat refine gA ?_
               refine S.lp ?_
               refine S.gx [9, 19, 20, 28, 46, 48] ?_
               repeat refine gA ?_
               refine ⟨?_, ?_⟩ <;> intro hc
               ·have hr := ifP hr hc
                repeat refine gA ?_
                cases hr
                exact lf
               ·have hr := ifN hr hc
                repeat refine gA ?_
                refine S.lp ?_
                refine S.gx [9, 19, 20, 28, 46, 48] ?_
                repeat refine gA ?_
                refine ⟨?_, ?_⟩ <;> intro hc
                ·have hr := ifP hr hc
                 repeat refine gA ?_
                 cases hr
                 exact lf
                ·have hr := ifN hr hc
                 repeat refine gA ?_
                 refine S.lp ?_
                 refine S.gx [9, 19, 20, 28, 46, 48] ?_
                 repeat refine gA ?_
                 refine ⟨?_, ?_⟩ <;> intro hc
                 ·have hr := ifP hr hc
                  repeat refine gA ?_
                  cases hr
                  exact lf
                 ·have hr := ifN hr hc
                  repeat refine gA ?_
                  refine S.lp ?_
                  refine S.gx [9, 19, 20, 28, 46, 48] ?_
                  repeat refine gA ?_
                  cases hr
                  exact lf
theorem f54 : FnFact Tryz.prog 54 T54.sp := ⟨⟨Tryz.f54, Tryz.func54, by decide, rfl⟩, v54⟩
end
end Go.Proofs.YtfkmbdfajpdjjaaGreatDoor

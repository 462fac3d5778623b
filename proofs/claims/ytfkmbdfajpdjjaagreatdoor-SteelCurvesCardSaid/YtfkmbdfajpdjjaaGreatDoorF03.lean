/- Contracts of functions, written by wip/dec. -/
import Derived.Test.YtfkmbdfajpdjjaaGreatDoorF00
import Derived.Test.YtfkmbdfajpdjjaaGreatDoorF01
import Derived.Test.YtfkmbdfajpdjjaaGreatDoorF02
set_option linter.unusedVariables false
set_option linter.unusedSimpArgs false
set_option maxHeartbeats 4000000
set_option maxRecDepth 20000
namespace Go.Proofs.YtfkmbdfajpdjjaaGreatDoor
open Go.Abs
abbrev qA18 := Int × Int × Int × Int
def qw18 (a0 : Int) (a1 : Int) (a2 : Int) (a3 : Int) : List Arg := [.agg [.int .i64 a0, .int .i64 a1, .int .i64 a2], .ptr [.int .i64 a3]]
def qE18 : qA18 → List Arg := fun ⟨a0, a1, a2, a3⟩ => qw18 a0 a1 a2 a3
def qd18 (a : List Arg) : qA18 := (dInt (aCell a 0 0), dInt (aCell a 0 1), dInt (aCell a 0 2), dInt (aCell a 1 0))
def qp18 {β : Type} (f : Int → Int → Int → Int → β) (c0 c1 c2 c3 : D) : β := f (dInt c0) (dInt c1) (dInt c2) (dInt c3)
def qt18 (c0 c1 c2 c3 : D) : List Arg := [.agg [c0, c1, c2], .ptr [c3]]
attribute [go_sem] qw18 qp18 qt18 qE18
abbrev qA19 := (List (Int × Int × Int)) × Int
def qw19 (a0 : List (Int × Int × Int)) (a1 : Int) : List Arg := [.c (encF 3 d_III a0), .clo 119 [[.int .i64 a1]]]
def qE19 : qA19 → List Arg := fun ⟨a0, a1⟩ => qw19 a0 a1
def qd19 (a : List Arg) : qA19 := (decF g_III (aCell a 0 0), dInt (aCell a 1 0))
def qp19 {β : Type} (f : (List (Int × Int × Int)) → Int → β) (c0 c1 : D) : β := f (decF g_III c0) (dInt c1)
def qt19 (c0 c1 : D) : List Arg := [.c c0, .clo 119 [[c1]]]
attribute [go_sem] qw19 qp19 qt19 qE19
abbrev qA20 := Int × Int × Int
def qw20 (a0 : Int) (a1 : Int) (a2 : Int) : List Arg := [.agg [.int .i64 a0, .int .i64 a1], .ptr [.int .i64 a2]]
def qE20 : qA20 → List Arg := fun ⟨a0, a1, a2⟩ => qw20 a0 a1 a2
def qd20 (a : List Arg) : qA20 := (dInt (aCell a 0 0), dInt (aCell a 0 1), dInt (aCell a 1 0))
def qp20 {β : Type} (f : Int → Int → Int → β) (c0 c1 c2 : D) : β := f (dInt c0) (dInt c1) (dInt c2)
def qt20 (c0 c1 c2 : D) : List Arg := [.agg [c0, c1], .ptr [c2]]
attribute [go_sem] qw20 qp20 qt20 qE20
abbrev qA23 := (List (Int × Int × Int × Int)) × (List (Int × Int × Int × Int × Int)) × (List (Int × Int × Int)) × (List (Int × Int)) × Int × Int × Int × Int × Int × Int × Int × Int × Int × Int × Int × (List (Int)) × Int × Int × Int
def qw23 (a0 : List (Int × Int × Int × Int)) (a1 : List (Int × Int × Int × Int × Int)) (a2 : List (Int × Int × Int)) (a3 : List (Int × Int)) (a4 : Int) (a5 : Int) (a6 : Int) (a7 : Int) (a8 : Int) (a9 : Int) (a10 : Int) (a11 : Int) (a12 : Int) (a13 : Int) (a14 : Int) (a15 : List (Int)) (a16 : Int) (a17 : Int) (a18 : Int) : List Arg := [.agg [encF 4 d_IIII a0, encF 5 d_IIIII a1, encF 3 d_III a2, encF 2 d_II a3, .int .i64 a4, .int .i64 a5, .int .i64 a6, .int .i64 a7], .agg [.int .i64 a8, .int .i64 a9, .int .i64 a10, .int .i64 a11, .int .i64 a12, .int .i64 a13, .int .i64 a14], .agg [encF 1 d_I a15, .int .i64 a16, .int .i64 a17, .int .i64 a18]]
def qE23 : qA23 → List Arg := fun ⟨a0, a1, a2, a3, a4, a5, a6, a7, a8, a9, a10, a11, a12, a13, a14, a15, a16, a17, a18⟩ => qw23 a0 a1 a2 a3 a4 a5 a6 a7 a8 a9 a10 a11 a12 a13 a14 a15 a16 a17 a18
def qd23 (a : List Arg) : qA23 := (decF g_IIII (aCell a 0 0), decF g_IIIII (aCell a 0 1), decF g_III (aCell a 0 2), decF g_II (aCell a 0 3), dInt (aCell a 0 4), dInt (aCell a 0 5), dInt (aCell a 0 6), dInt (aCell a 0 7), dInt (aCell a 1 0), dInt (aCell a 1 1), dInt (aCell a 1 2), dInt (aCell a 1 3), dInt (aCell a 1 4), dInt (aCell a 1 5), dInt (aCell a 1 6), decF g_I (aCell a 2 0), dInt (aCell a 2 1), dInt (aCell a 2 2), dInt (aCell a 2 3))
def qp23 {β : Type} (f : (List (Int × Int × Int × Int)) → (List (Int × Int × Int × Int × Int)) → (List (Int × Int × Int)) → (List (Int × Int)) → Int → Int → Int → Int → Int → Int → Int → Int → Int → Int → Int → (List (Int)) → Int → Int → Int → β) (c0 c1 c2 c3 c4 c5 c6 c7 c8 c9 c10 c11 c12 c13 c14 c15 c16 c17 c18 : D) : β := f (decF g_IIII c0) (decF g_IIIII c1) (decF g_III c2) (decF g_II c3) (dInt c4) (dInt c5) (dInt c6) (dInt c7) (dInt c8) (dInt c9) (dInt c10) (dInt c11) (dInt c12) (dInt c13) (dInt c14) (decF g_I c15) (dInt c16) (dInt c17) (dInt c18)
def qt23 (c0 c1 c2 c3 c4 c5 c6 c7 c8 c9 c10 c11 c12 c13 c14 c15 c16 c17 c18 : D) : List Arg := [.agg [c0, c1, c2, c3, c4, c5, c6, c7], .agg [c8, c9, c10, c11, c12, c13, c14], .agg [c15, c16, c17, c18]]
attribute [go_sem] qw23 qp23 qt23 qE23
abbrev qA24 := (List (Int × Int × Int × Int)) × (List (Int × Int × Int × Int × Int)) × (List (Int × Int × Int)) × (List (Int × Int)) × Int × Int × Int × Int × Int × Int × Int × Int × Int × Int × Int
def qw24 (a0 : List (Int × Int × Int × Int)) (a1 : List (Int × Int × Int × Int × Int)) (a2 : List (Int × Int × Int)) (a3 : List (Int × Int)) (a4 : Int) (a5 : Int) (a6 : Int) (a7 : Int) (a8 : Int) (a9 : Int) (a10 : Int) (a11 : Int) (a12 : Int) (a13 : Int) (a14 : Int) : List Arg := [.agg [encF 4 d_IIII a0, encF 5 d_IIIII a1, encF 3 d_III a2, encF 2 d_II a3, .int .i64 a4, .int .i64 a5, .int .i64 a6, .int .i64 a7], .agg [.int .i64 a8, .int .i64 a9, .int .i64 a10, .int .i64 a11, .int .i64 a12, .int .i64 a13, .int .i64 a14]]
def qE24 : qA24 → List Arg := fun ⟨a0, a1, a2, a3, a4, a5, a6, a7, a8, a9, a10, a11, a12, a13, a14⟩ => qw24 a0 a1 a2 a3 a4 a5 a6 a7 a8 a9 a10 a11 a12 a13 a14
def qd24 (a : List Arg) : qA24 := (decF g_IIII (aCell a 0 0), decF g_IIIII (aCell a 0 1), decF g_III (aCell a 0 2), decF g_II (aCell a 0 3), dInt (aCell a 0 4), dInt (aCell a 0 5), dInt (aCell a 0 6), dInt (aCell a 0 7), dInt (aCell a 1 0), dInt (aCell a 1 1), dInt (aCell a 1 2), dInt (aCell a 1 3), dInt (aCell a 1 4), dInt (aCell a 1 5), dInt (aCell a 1 6))
def qp24 {β : Type} (f : (List (Int × Int × Int × Int)) → (List (Int × Int × Int × Int × Int)) → (List (Int × Int × Int)) → (List (Int × Int)) → Int → Int → Int → Int → Int → Int → Int → Int → Int → Int → Int → β) (c0 c1 c2 c3 c4 c5 c6 c7 c8 c9 c10 c11 c12 c13 c14 : D) : β := f (decF g_IIII c0) (decF g_IIIII c1) (decF g_III c2) (decF g_II c3) (dInt c4) (dInt c5) (dInt c6) (dInt c7) (dInt c8) (dInt c9) (dInt c10) (dInt c11) (dInt c12) (dInt c13) (dInt c14)
def qt24 (c0 c1 c2 c3 c4 c5 c6 c7 c8 c9 c10 c11 c12 c13 c14 : D) : List Arg := [.agg [c0, c1, c2, c3, c4, c5, c6, c7], .agg [c8, c9, c10, c11, c12, c13, c14]]
attribute [go_sem] qw24 qp24 qt24 qE24
abbrev qA26 := Int × Int × Int × Int × Int × Int × Int × Int × Int × Int × Int × Int × Int × Int × Int × Int
def qw26 (a0 : Int) (a1 : Int) (a2 : Int) (a3 : Int) (a4 : Int) (a5 : Int) (a6 : Int) (a7 : Int) (a8 : Int) (a9 : Int) (a10 : Int) (a11 : Int) (a12 : Int) (a13 : Int) (a14 : Int) (a15 : Int) : List Arg := [.agg [.int .i64 a0, .int .i64 a1, .int .i64 a2, .int .i64 a3, .int .i64 a4, .int .i64 a5, .int .i64 a6, .int .i64 a7], .agg [.int .i64 a8, .int .i64 a9, .int .i64 a10, .int .i64 a11], .agg [.int .i64 a12, .int .i64 a13, .int .i64 a14, .int .i64 a15]]
def qE26 : qA26 → List Arg := fun ⟨a0, a1, a2, a3, a4, a5, a6, a7, a8, a9, a10, a11, a12, a13, a14, a15⟩ => qw26 a0 a1 a2 a3 a4 a5 a6 a7 a8 a9 a10 a11 a12 a13 a14 a15
def qd26 (a : List Arg) : qA26 := (dInt (aCell a 0 0), dInt (aCell a 0 1), dInt (aCell a 0 2), dInt (aCell a 0 3), dInt (aCell a 0 4), dInt (aCell a 0 5), dInt (aCell a 0 6), dInt (aCell a 0 7), dInt (aCell a 1 0), dInt (aCell a 1 1), dInt (aCell a 1 2), dInt (aCell a 1 3), dInt (aCell a 2 0), dInt (aCell a 2 1), dInt (aCell a 2 2), dInt (aCell a 2 3))
def qp26 {β : Type} (f : Int → Int → Int → Int → Int → Int → Int → Int → Int → Int → Int → Int → Int → Int → Int → Int → β) (c0 c1 c2 c3 c4 c5 c6 c7 c8 c9 c10 c11 c12 c13 c14 c15 : D) : β := f (dInt c0) (dInt c1) (dInt c2) (dInt c3) (dInt c4) (dInt c5) (dInt c6) (dInt c7) (dInt c8) (dInt c9) (dInt c10) (dInt c11) (dInt c12) (dInt c13) (dInt c14) (dInt c15)
def qt26 (c0 c1 c2 c3 c4 c5 c6 c7 c8 c9 c10 c11 c12 c13 c14 c15 : D) : List Arg := [.agg [c0, c1, c2, c3, c4, c5, c6, c7], .agg [c8, c9, c10, c11], .agg [c12, c13, c14, c15]]
attribute [go_sem] qw26 qp26 qt26 qE26
def qu8 (v : (Option (Int × Int × Int))) : List RV := [.c (.d (encP d_III v))]
attribute [go_sem] qu8
def qu9 (v : (Option (Int × Int))) : List RV := [.c (.d (encP d_II v))]
attribute [go_sem] qu9
def qu10 (v : Int × Int × Int × Int × Int × Int × Int × Int) : List RV := [.agg [.d (.int .i64 v.1), .d (.int .i64 v.2.1), .d (.int .i64 v.2.2.1), .d (.int .i64 v.2.2.2.1), .d (.int .i64 v.2.2.2.2.1), .d (.int .i64 v.2.2.2.2.2.1), .d (.int .i64 v.2.2.2.2.2.2.1)], .c (.d (.int .i64 v.2.2.2.2.2.2.2))]
attribute [go_sem] qu10
def qu12 (v : Int × Int × Int × Int × Int × Int × Int × Int) : List RV := [.agg [.d (.int .i64 v.1), .d (.int .i64 v.2.1), .d (.int .i64 v.2.2.1), .d (.int .i64 v.2.2.2.1), .d (.int .i64 v.2.2.2.2.1), .d (.int .i64 v.2.2.2.2.2.1), .d (.int .i64 v.2.2.2.2.2.2.1), .d (.int .i64 v.2.2.2.2.2.2.2)]]
attribute [go_sem] qu12
/- (martensite/steel.rules).cold$1 -/
def r119 (x0 : Int) (x2 : Int) (x3 : Int) (x1 : Int) : Option (Bool) :=
  some (decide (x0 ≥ x1))
def T119 : TSpec qA18 := mkT qE18 qd18 (fun ⟨x0, x2, x3, x1⟩ => r119 x0 x2 x3 x1) qu3 false
theorem TP119 (c0 c1 c2 c3 : D) : T119.sp.pre [.agg [c0, c1, c2], .ptr [c3]] = (eqvArgs (qt18 c0 c1 c2 c3) (qp18 qw18 c0 c1 c2 c3) ∧ (qp18 r119 c0 c1 c2 c3).isSome = true) := (rfl)
theorem TR119 (c0 c1 c2 c3 : D) : T119.sp.res [.agg [c0, c1, c2], .ptr [c3]] = qu3 ((qp18 r119 c0 c1 c2 c3).getD default) := (rfl)
theorem TA119 : T119.sp.alias = false := (rfl)
def tb119 : Fns := lk []
theorem tb119_ok : FnsOk Tryz.prog tb119 := FnsOk.nil
attribute [go_sem] TP119 TR119 TA119
section
attribute [local go_sem] T119 Tryz.results119
theorem v119 : Valid Tryz.prog 119 T119.sp := by
 refine valid_t (fn := Tryz.f119) (n := 8) ty_ok tb119_ok Tryz.func119 rfl Tryz.ntmps119 ?_
 rintro ⟨x0, x2, x3, x1⟩ hx
 obtain ⟨r, hr⟩ := oE (show (r119 x0 x2 x3 x1).isSome = true from hx)
 have hres : T119.res (x0, x2, x3, x1) = qu3 r := by simp only [T119, mkT, hr, oG]
 refine ⟨nL rfl, fun stop S => ?_⟩
 rw [hres] at S
 unfold r119 at hr
 refine S.gx [] ?_
 repeat refine gA ?_
 cases hr
 exact lf
theorem f119 : FnFact Tryz.prog 119 T119.sp := ⟨⟨Tryz.f119, Tryz.func119, by decide, rfl⟩, v119⟩
end

/- slices.IndexFunc[[]martensite/api.SteelCold,martensite/api.SteelCold] -/
def b133_1 (a0 : List (Int × Int × Int)) (x0 : Int) : (Int) → Ctl (Int) (Int) := fun s1 =>
  if (decide (s1 < (a0.length : Int))) = true then
   if 0 ≤ s1 ∧ s1 < (a0.length : Int) then
    bindC (r119 ((a0.getD s1.toNat default).1) ((a0.getD s1.toNat default).2.1) ((a0.getD s1.toNat default).2.2) x0) fun v1 =>
     if v1 = true then
      .out (some s1)
      else .next (IntKind.i64.wrap (s1 + 1))
    else .out none
   else .out (some (-1))
def r133 (a0 : List (Int × Int × Int)) (x0 : Int) : Option (Int) :=
  iterC (b133_1 a0 x0) 1000000000 0
def T133 : TSpec qA19 := mkT qE19 qd19 (fun ⟨a0, x0⟩ => r133 a0 x0) qu4 false
theorem TP133 (c0 c1 : D) : T133.sp.pre [.c c0, .clo 119 [[c1]]] = (eqvArgs (qt19 c0 c1) (qp19 qw19 c0 c1) ∧ (qp19 r133 c0 c1).isSome = true) := (rfl)
theorem TR133 (c0 c1 : D) : T133.sp.res [.c c0, .clo 119 [[c1]]] = qu4 ((qp19 r133 c0 c1).getD default) := (rfl)
theorem TA133 : T133.sp.alias = false := (rfl)
def tb133 : Fns := lk [(119, T119.sp)]
theorem tb133_ok : FnsOk Tryz.prog tb133 := .cons f119 (FnsOk.nil)
theorem tb133_119 : tb133 119 = some T119.sp := rfl
attribute [go_sem] TP133 TR133 TA133
section
attribute [local go_sem] T133 tb133_119 Tryz.results133
theorem v133 : Valid Tryz.prog 133 T133.sp := by
 refine valid_t (fn := Tryz.f133) (n := 19) ty_ok tb133_ok Tryz.func133 rfl Tryz.ntmps133 ?_
 rintro ⟨a0, x0⟩ hx
 obtain ⟨r, hr⟩ := oE (show (r133 a0 x0).isSome = true from hx)
 have hres : T133.res (a0, x0) = qu4 r := by simp only [T133, mkT, hr, oG]
 refine ⟨nL rfl, fun stop S => ?_⟩
 rw [hres] at S
 unfold r133 at hr
 refine S.gx [] ?_
 repeat refine gA ?_
 refine S.sees [0, 1, 7, 8] [] [] ?_ (Stop.iter S (fun s1 => ⟨[(0, .c (.d (encF 3 d_III a0))), (1, .c (.clo 119 [.sptr [.int .i64 x0] 0])), (7, .c (.d (.int .i64 (a0.length : Int)))), (8, .c (.d (.int .i64 s1)))], [], []⟩) (b133_1 a0 x0) (fun q => q = r) hr rfl ?_)
 ·exact lf
 ·intro s1 hr
  unfold b133_1 at hr
  refine S.gx [] ?_
  repeat refine gA ?_
  refine ⟨?_, ?_⟩ <;> intro hc
  ·have hr := ifP1 hr hc
   obtain ⟨hg2, hr⟩ := of_guard1 hr
   obtain ⟨v1, hv1, hr⟩ := of_bind1 hr
   try simp only [hv1, oG, oI, true_and, and_assoc]
   repeat refine gA ?_
   refine ⟨?_, ?_⟩ <;> intro hc
   ·have hr := ifP1 hr hc
    repeat refine gA ?_
    have hr := of_out0 hr
    cases hr
    exact lf
   ·have hr := ifN1 hr hc
    repeat refine gA ?_
    refine S.sees [0, 1, 7, 8] [] [] ?_ hr
    exact lf
  ·have hr := ifN1 hr hc
   repeat refine gA ?_
   have hr := of_out0 hr
   repeat refine gA ?_
   cases hr
   exact lf
theorem f133 : FnFact Tryz.prog 133 T133.sp := ⟨⟨Tryz.f133, Tryz.func133, by decide, rfl⟩, v133⟩
end

/- (martensite/steel.rules).cold -/
def r91 (x1 : List (Int × Int × Int × Int)) (x2 : List (Int × Int × Int × Int × Int)) (x0 : List (Int × Int × Int)) (x3 : List (Int × Int)) (x4 : Int) (x5 : Int) (x6 : Int) (x7 : Int) (a1 : Int) : Option ((Option (Int × Int × Int))) :=
  (r133 x0 a1).bind fun v1 =>
   if (decide (v1 ≥ 0)) = true then
    if 0 ≤ v1 ∧ v1 < (x0.length : Int) then
     some (some ((x0.getD v1.toNat default).1, (x0.getD v1.toNat default).2.1, (x0.getD v1.toNat default).2.2))
     else none
    else some none
def T91 : TSpec qA14 := mkT qE14 qd14 (fun ⟨x1, x2, x0, x3, x4, x5, x6, x7, a1⟩ => r91 x1 x2 x0 x3 x4 x5 x6 x7 a1) qu8 true
theorem TP91 (c0 c1 c2 c3 c4 c5 c6 c7 c8 : D) : T91.sp.pre [.agg [c0, c1, c2, c3, c4, c5, c6, c7], .c c8] = (eqvArgs (qt14 c0 c1 c2 c3 c4 c5 c6 c7 c8) (qp14 qw14 c0 c1 c2 c3 c4 c5 c6 c7 c8) ∧ (qp14 r91 c0 c1 c2 c3 c4 c5 c6 c7 c8).isSome = true) := (rfl)
theorem TR91 (c0 c1 c2 c3 c4 c5 c6 c7 c8 : D) : T91.sp.res [.agg [c0, c1, c2, c3, c4, c5, c6, c7], .c c8] = qu8 ((qp14 r91 c0 c1 c2 c3 c4 c5 c6 c7 c8).getD default) := (rfl)
theorem TA91 : T91.sp.alias = true := (rfl)
def tb91 : Fns := lk [(133, T133.sp)]
theorem tb91_ok : FnsOk Tryz.prog tb91 := .cons f133 (FnsOk.nil)
theorem tb91_133 : tb91 133 = some T133.sp := rfl
attribute [go_sem] TP91 TR91 TA91
section
attribute [local go_sem] T91 tb91_133 Tryz.results91 Tryz.results118
theorem v91 : Valid Tryz.prog 91 T91.sp := by
 refine valid_t (fn := Tryz.f91) (n := 10) ty_ok tb91_ok Tryz.func91 rfl Tryz.ntmps91 ?_
 rintro ⟨x1, x2, x0, x3, x4, x5, x6, x7, a1⟩ hx
 obtain ⟨r, hr⟩ := oE (show (r91 x1 x2 x0 x3 x4 x5 x6 x7 a1).isSome = true from hx)
 have hres : T91.res (x1, x2, x0, x3, x4, x5, x6, x7, a1) = qu8 r := by simp only [T91, mkT, hr, oG]
 refine ⟨nL rfl, fun stop S => ?_⟩
 rw [hres] at S
 unfold r91 at hr
 refine S.gx [1] ?_
 repeat refine gA ?_
 refine S.inl 4 [4] [] Tryz.func118 (by decide) rfl Tryz.ntmps118 (fun cx e => drawn_ok ty_ok tb91_ok cx e) (some 9) rfl rfl rfl rfl (nL rfl) (nL rfl) ?_
 refine gs ?_
 repeat refine gA ?_
 intro stop1 S1
 refine S1.gx [] ?_
 obtain ⟨v1, hv1, hr⟩ := of_bind0 hr
 try simp only [hv1, oG, oI, true_and, and_assoc]
 repeat refine gA ?_
 refine ⟨?_, ?_⟩ <;> intro hc
 ·have hr := ifP hr hc
  obtain ⟨hg2, hr⟩ := of_guard0 hr
  repeat refine gA ?_
  refine S.gx [1] ?_
  repeat refine gA ?_
  cases hr
  exact lf
 ·have hr := ifN hr hc
  repeat refine gA ?_
  refine S.gx [1] ?_
  repeat refine gA ?_
  cases hr
  exact lf
theorem f91 : FnFact Tryz.prog 91 T91.sp := ⟨⟨Tryz.f91, Tryz.func91, by decide, rfl⟩, v91⟩
end

/- martensite/steel.martensite -/
def r121 (a0 : Int) (a1 : Int) (a2 : Int) : Option (Int) :=
  some (if a1 < IntKind.i64.wrap ((IntKind.i64.wrap ((IntKind.i64.wrap (a0 + a1)) * a2)).tdiv 1000000) then IntKind.i64.wrap ((IntKind.i64.wrap ((IntKind.i64.wrap (a0 + a1)) * a2)).tdiv 1000000) else a1)
def T121 : TSpec qA2 := mkT qE2 qd2 (fun ⟨a0, a1, a2⟩ => r121 a0 a1 a2) qu4 false
theorem TP121 (c0 c1 c2 : D) : T121.sp.pre [.c c0, .c c1, .c c2] = (eqvArgs (qt2 c0 c1 c2) (qp2 qw2 c0 c1 c2) ∧ (qp2 r121 c0 c1 c2).isSome = true) := (rfl)
theorem TR121 (c0 c1 c2 : D) : T121.sp.res [.c c0, .c c1, .c c2] = qu4 ((qp2 r121 c0 c1 c2).getD default) := (rfl)
theorem TA121 : T121.sp.alias = false := (rfl)
def tb121 : Fns := lk []
theorem tb121_ok : FnsOk Tryz.prog tb121 := FnsOk.nil
attribute [go_sem] TP121 TR121 TA121
section
attribute [local go_sem] T121 Tryz.results121
theorem v121 : Valid Tryz.prog 121 T121.sp := by
 refine valid_t (fn := Tryz.f121) (n := 15) ty_ok tb121_ok Tryz.func121 rfl Tryz.ntmps121 ?_
 rintro ⟨a0, a1, a2⟩ hx
 obtain ⟨r, hr⟩ := oE (show (r121 a0 a1 a2).isSome = true from hx)
 have hres : T121.res (a0, a1, a2) = qu4 r := by simp only [T121, mkT, hr, oG]
 refine ⟨nL rfl, fun stop S => ?_⟩
 rw [hres] at S
 unfold r121 at hr
 refine S.gx [] ?_
 repeat refine gA ?_
 cases hr
 exact lf
theorem f121 : FnFact Tryz.prog 121 T121.sp := ⟨⟨Tryz.f121, Tryz.func121, by decide, rfl⟩, v121⟩
end

/- (martensite/steel.rules).temper$1 -/
def r123 (x0 : Int) (x2 : Int) (x1 : Int) : Option (Bool) :=
  some (decide (x0 ≤ x1))
def T123 : TSpec qA20 := mkT qE20 qd20 (fun ⟨x0, x2, x1⟩ => r123 x0 x2 x1) qu3 false
theorem TP123 (c0 c1 c2 : D) : T123.sp.pre [.agg [c0, c1], .ptr [c2]] = (eqvArgs (qt20 c0 c1 c2) (qp20 qw20 c0 c1 c2) ∧ (qp20 r123 c0 c1 c2).isSome = true) := (rfl)
theorem TR123 (c0 c1 c2 : D) : T123.sp.res [.agg [c0, c1], .ptr [c2]] = qu3 ((qp20 r123 c0 c1 c2).getD default) := (rfl)
theorem TA123 : T123.sp.alias = false := (rfl)
def tb123 : Fns := lk []
theorem tb123_ok : FnsOk Tryz.prog tb123 := FnsOk.nil
attribute [go_sem] TP123 TR123 TA123
section
attribute [local go_sem] T123 Tryz.results123
theorem v123 : Valid Tryz.prog 123 T123.sp := by
 refine valid_t (fn := Tryz.f123) (n := 8) ty_ok tb123_ok Tryz.func123 rfl Tryz.ntmps123 ?_
 rintro ⟨x0, x2, x1⟩ hx
 obtain ⟨r, hr⟩ := oE (show (r123 x0 x2 x1).isSome = true from hx)
 have hres : T123.res (x0, x2, x1) = qu3 r := by simp only [T123, mkT, hr, oG]
 refine ⟨nL rfl, fun stop S => ?_⟩
 rw [hres] at S
 unfold r123 at hr
 refine S.gx [] ?_
 repeat refine gA ?_
 cases hr
 exact lf
theorem f123 : FnFact Tryz.prog 123 T123.sp := ⟨⟨Tryz.f123, Tryz.func123, by decide, rfl⟩, v123⟩
end

/- (martensite/steel.rules).temper -/
def b93_1 (x0 : List (Int × Int)) (a1 : Int) : (Int) → Ctl (Int) ((Option (Int × Int))) := fun s1 =>
  if (decide (s1 ≥ 0)) = true then
   if 0 ≤ s1 ∧ s1 < (x0.length : Int) then
    if 0 ≤ s1 ∧ s1 < (x0.length : Int) then
     bindC (r123 ((x0.getD s1.toNat default).1) ((x0.getD s1.toNat default).2) a1) fun v1 =>
      if v1 = true then
       if 0 ≤ s1 ∧ s1 < (x0.length : Int) then
        .out (some (some ((x0.getD s1.toNat default).1, (x0.getD s1.toNat default).2)))
        else .out none
       else .next (IntKind.i64.wrap (s1 - 1))
     else .out none
    else .out none
   else .out (some none)
def r93 (x1 : List (Int × Int × Int × Int)) (x2 : List (Int × Int × Int × Int × Int)) (x3 : List (Int × Int × Int)) (x0 : List (Int × Int)) (x4 : Int) (x5 : Int) (x6 : Int) (x7 : Int) (a1 : Int) : Option ((Option (Int × Int))) :=
  iterC (b93_1 x0 a1) 1000000000 (IntKind.i64.wrap ((x0.length : Int) - 1))
def T93 : TSpec qA14 := mkT qE14 qd14 (fun ⟨x1, x2, x3, x0, x4, x5, x6, x7, a1⟩ => r93 x1 x2 x3 x0 x4 x5 x6 x7 a1) qu9 true
theorem TP93 (c0 c1 c2 c3 c4 c5 c6 c7 c8 : D) : T93.sp.pre [.agg [c0, c1, c2, c3, c4, c5, c6, c7], .c c8] = (eqvArgs (qt14 c0 c1 c2 c3 c4 c5 c6 c7 c8) (qp14 qw14 c0 c1 c2 c3 c4 c5 c6 c7 c8) ∧ (qp14 r93 c0 c1 c2 c3 c4 c5 c6 c7 c8).isSome = true) := (rfl)
theorem TR93 (c0 c1 c2 c3 c4 c5 c6 c7 c8 : D) : T93.sp.res [.agg [c0, c1, c2, c3, c4, c5, c6, c7], .c c8] = qu9 ((qp14 r93 c0 c1 c2 c3 c4 c5 c6 c7 c8).getD default) := (rfl)
theorem TA93 : T93.sp.alias = true := (rfl)
def tb93 : Fns := lk [(123, T123.sp)]
theorem tb93_ok : FnsOk Tryz.prog tb93 := .cons f123 (FnsOk.nil)
theorem tb93_123 : tb93 123 = some T123.sp := rfl
attribute [go_sem] TP93 TR93 TA93
section
attribute [local go_sem] T93 tb93_123 Tryz.results93 Tryz.results122 Tryz.results134 Tryz.results137
theorem v93 : Valid Tryz.prog 93 T93.sp := by
 refine valid_t (fn := Tryz.f93) (n := 10) ty_ok tb93_ok Tryz.func93 rfl Tryz.ntmps93 ?_
 rintro ⟨x1, x2, x3, x0, x4, x5, x6, x7, a1⟩ hx
 obtain ⟨r, hr⟩ := oE (show (r93 x1 x2 x3 x0 x4 x5 x6 x7 a1).isSome = true from hx)
 have hres : T93.res (x1, x2, x3, x0, x4, x5, x6, x7, a1) = qu9 r := by simp only [T93, mkT, hr, oG]
 refine ⟨nL rfl, fun stop S => ?_⟩
 rw [hres] at S
 unfold r93 at hr
 refine S.gx [1] ?_
 repeat refine gA ?_
 refine S.inl 4 [4] [] Tryz.func122 (by decide) rfl Tryz.ntmps122 (fun cx e => drawn_ok ty_ok tb93_ok cx e) (some 9) rfl rfl rfl rfl (nL rfl) (nL rfl) ?_
 refine gs ?_
 repeat refine gA ?_
 intro stop1 S1
 refine S1.gx [1, 3] ?_
 repeat refine gA ?_
 refine S1.inl 1 [2, 3, 4] [] Tryz.func134 (by decide) rfl Tryz.ntmps134 (fun cx e => drawn_ok ty_ok tb93_ok cx e) (some 7) rfl rfl rfl rfl (nL rfl) (nL rfl) ?_
 refine gs ?_
 repeat refine gA ?_
 intro stop2 S2
 refine S2.gx [] ?_
 repeat refine gA ?_
 refine S1.gx [1, 3] ?_
 repeat refine gA ?_
 refine S1.range [2, 3, 4] Tryz.func137 (by decide) rfl Tryz.ntmps137 Tryz.results137 (fun cx e => drawn_ok ty_ok tb93_ok cx e) (fun cx e => drawn_ok ty_ok tb93_ok cx e) (by decide) rfl rfl (nL rfl) ?_
 intro l2 stop2 stopJ2 S2 SJ2 Y2
 refine S2.gx [3] ?_
 repeat refine gA ?_
 refine S2.sees [0, 1, 3] [(1, 1), (100002, 100002), (100003, 100003), (4, 4), (3, 3)] [] ?_ (Stop.iter S2 (fun s1 => ⟨[(0, .c (.yld l2)), (1, .c (.ref 1 0)), (3, .c (.d (.int .i64 s1)))], [(1, [.d (encF 2 d_II x0)]), (100002, [.d (encF 2 d_II x0)]), (100003, [.clo 123 [.ref 3 0]]), (4, [.d (encP d_II none)]), (3, [.d (.int .i64 a1)])], []⟩) (b93_1 x0 a1) (fun q => q = r) hr rfl ?_)
 ·exact lf
 ·intro s1 hr
  unfold b93_1 at hr
  refine S2.gx [3] ?_
  repeat refine gA ?_
  refine ⟨?_, ?_⟩ <;> intro hc
  ·have hr := ifP1 hr hc
   repeat refine gA ?_
   refine Y2 6 [0, 1, 3] (some 17) rfl rfl rfl rfl (nL rfl) (by rfl) ?_
   refine gs ?_
   obtain ⟨hg4, hr⟩ := of_guard1 hr
   repeat refine gA ?_
   intro stopA3 SA3
   refine SA3.gx [] ?_
   repeat refine gA ?_
   intro stop3 S3
   refine S3.gx [1, 3] ?_
   repeat refine gA ?_
   refine S3.gx [1] ?_
   obtain ⟨hg3, hr⟩ := of_guard1 hr
   obtain ⟨v1, hv1, hr⟩ := of_bind1 hr
   try simp only [hv1, oG, oI, true_and, and_assoc]
   repeat refine gA ?_
   refine ⟨?_, ?_⟩ <;> intro hc
   ·have hr := ifP1 hr hc
    obtain ⟨hg2, hr⟩ := of_guard1 hr
    repeat refine gA ?_
    refine (SJ2 .ret).gx [3] ?_
    repeat refine gA ?_
    have hr := of_out0 hr
    repeat refine gA ?_
    refine S1.gx [1, 3] ?_
    repeat refine gA ?_
    refine S.gx [1] ?_
    repeat refine gA ?_
    cases hr
    exact lf
   ·have hr := ifN1 hr hc
    repeat refine gA ?_
    refine S2.gx [3] ?_
    repeat refine gA ?_
    refine S2.sees [0, 1, 3] [(1, 1), (100002, 100002), (100003, 100003), (4, 4), (3, 3)] [] ?_ hr
    exact lf
  ·have hr := ifN1 hr hc
   repeat refine gA ?_
   have hr := of_out0 hr
   repeat refine gA ?_
   refine S1.gx [1, 3] ?_
   repeat refine gA ?_
   refine S.gx [1] ?_
   repeat refine gA ?_
   cases hr
   exact lf
theorem f93 : FnFact Tryz.prog 93 T93.sp := ⟨⟨Tryz.f93, Tryz.func93, by decide, rfl⟩, v93⟩
end

/- (martensite/steel.rules).step -/
def r97 (x7 : List (Int × Int × Int × Int)) (x8 : List (Int × Int × Int × Int × Int)) (x9 : List (Int × Int × Int)) (x10 : List (Int × Int)) (x11 : Int) (x12 : Int) (x13 : Int) (x14 : Int) (x2 : Int) (x0 : Int) (x3 : Int) (x1 : Int) (x4 : Int) (x6 : Int) (x5 : Int) (a2 : Int) (x17 : Int) (x16 : Int) (x15 : Int) : Option (Int × Int × Int × Int × Int × Int × Int) :=
  (r87 x7 x8 x9 x10 x11 x12 x13 x14 a2).bind fun v1 =>
   if v1.isSome = true then
    if v1.isSome = true then
     if v1.isSome = true then
      (r125 ((v1.getD default).2.1) ((v1.getD default).2.2.1) x17).bind fun v2 =>
       if (decide ((IntKind.i64.wrap (x0 + (if v2 < IntKind.i64.wrap (x2 + (IntKind.i64.wrap (x3 + x1))) then v2 else IntKind.i64.wrap (x2 + (IntKind.i64.wrap (x3 + x1)))))) > 0)) = true then
        if v1.isSome = true then
         if v1.isSome = true then
          some (IntKind.i64.wrap ((IntKind.i64.wrap (x2 + (IntKind.i64.wrap (x3 + x1)))) - (if v2 < IntKind.i64.wrap (x2 + (IntKind.i64.wrap (x3 + x1))) then v2 else IntKind.i64.wrap (x2 + (IntKind.i64.wrap (x3 + x1))))), IntKind.i64.wrap (x0 + (if v2 < IntKind.i64.wrap (x2 + (IntKind.i64.wrap (x3 + x1))) then v2 else IntKind.i64.wrap (x2 + (IntKind.i64.wrap (x3 + x1))))), 0, 0, 0, (if IntKind.i64.wrap (x6 + ((v1.getD default).2.2.2)) < 100000 then IntKind.i64.wrap (x6 + ((v1.getD default).2.2.2)) else 100000), 0)
          else none
         else none
        else some (IntKind.i64.wrap ((IntKind.i64.wrap (x2 + (IntKind.i64.wrap (x3 + x1)))) - (if v2 < IntKind.i64.wrap (x2 + (IntKind.i64.wrap (x3 + x1))) then v2 else IntKind.i64.wrap (x2 + (IntKind.i64.wrap (x3 + x1))))), IntKind.i64.wrap (x0 + (if v2 < IntKind.i64.wrap (x2 + (IntKind.i64.wrap (x3 + x1))) then v2 else IntKind.i64.wrap (x2 + (IntKind.i64.wrap (x3 + x1))))), 0, 0, 0, x6, 0)
      else none
     else none
    else (r89 x7 x8 x9 x10 x11 x12 x13 x14 a2).bind fun v7 =>
     if v7.isSome = true then
      if v7.isSome = true then
       if v7.isSome = true then
        (r125 ((v7.getD default).2.1) ((v7.getD default).2.2.1) x16).bind fun v8 =>
         if ((if IntKind.i64.wrap (x4 + v8) < 1000000 then IntKind.i64.wrap (x4 + v8) else 1000000) == 1000000) = true then
          if v7.isSome = true then
           if v7.isSome = true then
            (r125 ((v7.getD default).2.2.2.1) ((v7.getD default).2.2.2.2) x16).bind fun v9 =>
             (r91 x7 x8 x9 x10 x11 x12 x13 x14 a2).bind fun v10 =>
              if v10.isSome = true then
               if v10.isSome = true then
                if v10.isSome = true then
                 (r125 ((v10.getD default).2.1) ((v10.getD default).2.2) x15).bind fun v11 =>
                  (r121 (IntKind.i64.wrap (x0 - (if v9 < x0 then v9 else x0))) x1 v11).bind fun v12 =>
                   (r93 x7 x8 x9 x10 x11 x12 x13 x14 a2).bind fun v13 =>
                    if v13.isSome = true then
                     if v13.isSome = true then
                      if v13.isSome = true then
                       some (x2, IntKind.i64.wrap ((IntKind.i64.wrap (x0 - (if v9 < x0 then v9 else x0))) - (IntKind.i64.wrap (v12 - x1))), IntKind.i64.wrap (x3 + (if v9 < x0 then v9 else x0)), v12, (if IntKind.i64.wrap (x4 + v8) < 1000000 then IntKind.i64.wrap (x4 + v8) else 1000000), x6, (if IntKind.i64.wrap (x5 + ((v13.getD default).2)) < 1000000 then IntKind.i64.wrap (x5 + ((v13.getD default).2)) else 1000000))
                       else none
                      else none
                     else some (x2, IntKind.i64.wrap ((IntKind.i64.wrap (x0 - (if v9 < x0 then v9 else x0))) - (IntKind.i64.wrap (v12 - x1))), IntKind.i64.wrap (x3 + (if v9 < x0 then v9 else x0)), v12, (if IntKind.i64.wrap (x4 + v8) < 1000000 then IntKind.i64.wrap (x4 + v8) else 1000000), x6, x5)
                 else none
                else none
               else (r93 x7 x8 x9 x10 x11 x12 x13 x14 a2).bind fun v18 =>
                if v18.isSome = true then
                 if v18.isSome = true then
                  if v18.isSome = true then
                   some (x2, IntKind.i64.wrap (x0 - (if v9 < x0 then v9 else x0)), IntKind.i64.wrap (x3 + (if v9 < x0 then v9 else x0)), x1, (if IntKind.i64.wrap (x4 + v8) < 1000000 then IntKind.i64.wrap (x4 + v8) else 1000000), x6, (if IntKind.i64.wrap (x5 + ((v18.getD default).2)) < 1000000 then IntKind.i64.wrap (x5 + ((v18.getD default).2)) else 1000000))
                   else none
                  else none
                 else some (x2, IntKind.i64.wrap (x0 - (if v9 < x0 then v9 else x0)), IntKind.i64.wrap (x3 + (if v9 < x0 then v9 else x0)), x1, (if IntKind.i64.wrap (x4 + v8) < 1000000 then IntKind.i64.wrap (x4 + v8) else 1000000), x6, x5)
            else none
           else none
          else (r91 x7 x8 x9 x10 x11 x12 x13 x14 a2).bind fun v23 =>
           if v23.isSome = true then
            if v23.isSome = true then
             if v23.isSome = true then
              (r125 ((v23.getD default).2.1) ((v23.getD default).2.2) x15).bind fun v24 =>
               (r121 x0 x1 v24).bind fun v25 =>
                (r93 x7 x8 x9 x10 x11 x12 x13 x14 a2).bind fun v26 =>
                 if v26.isSome = true then
                  if v26.isSome = true then
                   if v26.isSome = true then
                    some (x2, IntKind.i64.wrap (x0 - (IntKind.i64.wrap (v25 - x1))), x3, v25, (if IntKind.i64.wrap (x4 + v8) < 1000000 then IntKind.i64.wrap (x4 + v8) else 1000000), x6, (if IntKind.i64.wrap (x5 + ((v26.getD default).2)) < 1000000 then IntKind.i64.wrap (x5 + ((v26.getD default).2)) else 1000000))
                    else none
                   else none
                  else some (x2, IntKind.i64.wrap (x0 - (IntKind.i64.wrap (v25 - x1))), x3, v25, (if IntKind.i64.wrap (x4 + v8) < 1000000 then IntKind.i64.wrap (x4 + v8) else 1000000), x6, x5)
              else none
             else none
            else (r93 x7 x8 x9 x10 x11 x12 x13 x14 a2).bind fun v31 =>
             if v31.isSome = true then
              if v31.isSome = true then
               if v31.isSome = true then
                some (x2, x0, x3, x1, (if IntKind.i64.wrap (x4 + v8) < 1000000 then IntKind.i64.wrap (x4 + v8) else 1000000), x6, (if IntKind.i64.wrap (x5 + ((v31.getD default).2)) < 1000000 then IntKind.i64.wrap (x5 + ((v31.getD default).2)) else 1000000))
                else none
               else none
              else some (x2, x0, x3, x1, (if IntKind.i64.wrap (x4 + v8) < 1000000 then IntKind.i64.wrap (x4 + v8) else 1000000), x6, x5)
        else none
       else none
      else (r91 x7 x8 x9 x10 x11 x12 x13 x14 a2).bind fun v36 =>
       if v36.isSome = true then
        if v36.isSome = true then
         if v36.isSome = true then
          (r125 ((v36.getD default).2.1) ((v36.getD default).2.2) x15).bind fun v37 =>
           (r121 x0 x1 v37).bind fun v38 =>
            (r93 x7 x8 x9 x10 x11 x12 x13 x14 a2).bind fun v39 =>
             if v39.isSome = true then
              if v39.isSome = true then
               if v39.isSome = true then
                some (x2, IntKind.i64.wrap (x0 - (IntKind.i64.wrap (v38 - x1))), x3, v38, x4, x6, (if IntKind.i64.wrap (x5 + ((v39.getD default).2)) < 1000000 then IntKind.i64.wrap (x5 + ((v39.getD default).2)) else 1000000))
                else none
               else none
              else some (x2, IntKind.i64.wrap (x0 - (IntKind.i64.wrap (v38 - x1))), x3, v38, x4, x6, x5)
          else none
         else none
        else (r93 x7 x8 x9 x10 x11 x12 x13 x14 a2).bind fun v44 =>
         if v44.isSome = true then
          if v44.isSome = true then
           if v44.isSome = true then
            some (x2, x0, x3, x1, x4, x6, (if IntKind.i64.wrap (x5 + ((v44.getD default).2)) < 1000000 then IntKind.i64.wrap (x5 + ((v44.getD default).2)) else 1000000))
            else none
           else none
          else some (x2, x0, x3, x1, x4, x6, x5)
def T97 : TSpec qA21 := mkT qE21 qd21 (fun ⟨x7, x8, x9, x10, x11, x12, x13, x14, x2, x0, x3, x1, x4, x6, x5, a2, x17, x16, x15⟩ => r97 x7 x8 x9 x10 x11 x12 x13 x14 x2 x0 x3 x1 x4 x6 x5 a2 x17 x16 x15) qu1 false
theorem TP97 (c0 c1 c2 c3 c4 c5 c6 c7 c8 c9 c10 c11 c12 c13 c14 c15 c16 c17 c18 : D) : T97.sp.pre [.agg [c0, c1, c2, c3, c4, c5, c6, c7], .agg [c8, c9, c10, c11, c12, c13, c14], .c c15, .agg [c16, c17, c18]] = (eqvArgs (qt21 c0 c1 c2 c3 c4 c5 c6 c7 c8 c9 c10 c11 c12 c13 c14 c15 c16 c17 c18) (qp21 qw21 c0 c1 c2 c3 c4 c5 c6 c7 c8 c9 c10 c11 c12 c13 c14 c15 c16 c17 c18) ∧ (qp21 r97 c0 c1 c2 c3 c4 c5 c6 c7 c8 c9 c10 c11 c12 c13 c14 c15 c16 c17 c18).isSome = true) := (rfl)
theorem TR97 (c0 c1 c2 c3 c4 c5 c6 c7 c8 c9 c10 c11 c12 c13 c14 c15 c16 c17 c18 : D) : T97.sp.res [.agg [c0, c1, c2, c3, c4, c5, c6, c7], .agg [c8, c9, c10, c11, c12, c13, c14], .c c15, .agg [c16, c17, c18]] = qu1 ((qp21 r97 c0 c1 c2 c3 c4 c5 c6 c7 c8 c9 c10 c11 c12 c13 c14 c15 c16 c17 c18).getD default) := (rfl)
theorem TA97 : T97.sp.alias = false := (rfl)
def tb97 : Fns := lk [(87, T87.sp), (89, T89.sp), (91, T91.sp), (93, T93.sp), (121, T121.sp), (125, T125.sp)]
theorem tb97_ok : FnsOk Tryz.prog tb97 := .cons f87 (.cons f89 (.cons f91 (.cons f93 (.cons f121 (.cons f125 (FnsOk.nil))))))
theorem tb97_87 : tb97 87 = some T87.sp := rfl
theorem tb97_89 : tb97 89 = some T89.sp := rfl
theorem tb97_91 : tb97 91 = some T91.sp := rfl
theorem tb97_93 : tb97 93 = some T93.sp := rfl
theorem tb97_121 : tb97 121 = some T121.sp := rfl
theorem tb97_125 : tb97 125 = some T125.sp := rfl
attribute [go_sem] TP97 TR97 TA97
section
attribute [local go_sem] T97 tb97_87 tb97_89 tb97_91 tb97_93 tb97_121 tb97_125 Tryz.results97
theorem v97 : Valid Tryz.prog 97 T97.sp := by
 refine valid_t (fn := Tryz.f97) (n := 149) ty_ok tb97_ok Tryz.func97 rfl Tryz.ntmps97 ?_
 rintro ⟨x7, x8, x9, x10, x11, x12, x13, x14, x2, x0, x3, x1, x4, x6, x5, a2, x17, x16, x15⟩ hx
 obtain ⟨r, hr⟩ := oE (show (r97 x7 x8 x9 x10 x11 x12 x13 x14 x2 x0 x3 x1 x4 x6 x5 a2 x17 x16 x15).isSome = true from hx)
 have hres : T97.res (x7, x8, x9, x10, x11, x12, x13, x14, x2, x0, x3, x1, x4, x6, x5, a2, x17, x16, x15) = qu1 r := by simp only [T97, mkT, hr, oG]
 refine ⟨nL rfl, fun stop S => ?_⟩
 rw [hres] at S
 unfold r97 at hr
 refine S.gx [6, 16, 18, 21, 26] ?_
 obtain ⟨v1, hv1, hr⟩ := of_bind0 hr
 try simp only [hv1, oG, oI, true_and, and_assoc]
 repeat refine gA ?_
 refine ⟨?_, ?_⟩ <;> intro hc
 ·have hr := ifP hr hc
  obtain ⟨hg5, hr⟩ := of_guard0 hr
  obtain ⟨hg6, hr⟩ := of_guard0 hr
  obtain ⟨v2, hv2, hr⟩ := of_bind0 hr
  try simp only [hv2, oG, oI, true_and, and_assoc]
  repeat refine gA ?_
  refine S.prune [5, 8, 9, 10] ?_
  refine S.gx [16, 18, 21, 26] ?_
  repeat refine gA ?_
  refine ⟨?_, ?_⟩ <;> intro hc
  ·have hr := ifP hr hc
   obtain ⟨hg3, hr⟩ := of_guard0 hr
   obtain ⟨hg4, hr⟩ := of_guard0 hr
   repeat refine gA ?_
   cases hr
   exact lf
  ·have hr := ifN hr hc
   repeat refine gA ?_
   cases hr
   exact lf
 ·have hr := ifN hr hc
  obtain ⟨v7, hv7, hr⟩ := of_bind0 hr
  try simp only [hv7, oG, oI, true_and, and_assoc]
  repeat refine gA ?_
  refine ⟨?_, ?_⟩ <;> intro hc
  ·have hr := ifP hr hc
   obtain ⟨hg34, hr⟩ := of_guard0 hr
   obtain ⟨hg35, hr⟩ := of_guard0 hr
   obtain ⟨v8, hv8, hr⟩ := of_bind0 hr
   try simp only [hv8, oG, oI, true_and, and_assoc]
   repeat refine gA ?_
   refine ⟨?_, ?_⟩ <;> intro hc
   ·have hr := ifP hr hc
    obtain ⟨hg21, hr⟩ := of_guard0 hr
    obtain ⟨hg22, hr⟩ := of_guard0 hr
    obtain ⟨v9, hv9, hr⟩ := of_bind0 hr
    try simp only [hv9, oG, oI, true_and, and_assoc]
    repeat refine gA ?_
    refine S.prune [2, 4, 5, 7, 8, 12] ?_
    refine S.gx [6, 18, 21, 26] ?_
    repeat refine gA ?_
    refine S.prune [2, 4, 5, 7, 8] ?_
    refine S.gx [6, 16, 21, 26] ?_
    obtain ⟨v10, hv10, hr⟩ := of_bind0 hr
    try simp only [hv10, oG, oI, true_and, and_assoc]
    repeat refine gA ?_
    refine ⟨?_, ?_⟩ <;> intro hc
    ·have hr := ifP hr hc
     obtain ⟨hg16, hr⟩ := of_guard0 hr
     obtain ⟨hg17, hr⟩ := of_guard0 hr
     obtain ⟨v11, hv11, hr⟩ := of_bind0 hr
     obtain ⟨v12, hv12, hr⟩ := of_bind0 hr
     try simp only [hv11, hv12, Option.getD_some, Option.isSome_some, true_and, and_assoc]
     repeat refine gA ?_
     refine S.prune [2, 4, 5, 8, 14] ?_
     refine S.gx [6, 16, 18, 26] ?_
     repeat refine gA ?_
     obtain ⟨v13, hv13, hr⟩ := of_bind0 hr
     try simp only [hv13, oG, oI, true_and, and_assoc]
     repeat refine gA ?_
     refine ⟨?_, ?_⟩ <;> intro hc
     ·have hr := ifP hr hc
      obtain ⟨hg14, hr⟩ := of_guard0 hr
      obtain ⟨hg15, hr⟩ := of_guard0 hr
      repeat refine gA ?_
      refine S.prune [5, 8] ?_
      refine S.gx [6, 16, 18, 21] ?_
      repeat refine gA ?_
      cases hr
      exact lf
     ·have hr := ifN hr hc
      repeat refine gA ?_
      refine S.prune [5, 8] ?_
      refine S.gx [6, 16, 18, 21] ?_
      repeat refine gA ?_
      cases hr
      exact lf
    ·have hr := ifN hr hc
     obtain ⟨v18, hv18, hr⟩ := of_bind0 hr
     try simp only [hv18, oG, oI, true_and, and_assoc]
     repeat refine gA ?_
     refine ⟨?_, ?_⟩ <;> intro hc
     ·have hr := ifP hr hc
      obtain ⟨hg19, hr⟩ := of_guard0 hr
      obtain ⟨hg20, hr⟩ := of_guard0 hr
      repeat refine gA ?_
      refine S.prune [5, 8] ?_
      refine S.gx [6, 16, 18, 21] ?_
      repeat refine gA ?_
      cases hr
      exact lf
     ·have hr := ifN hr hc
      repeat refine gA ?_
      refine S.prune [5, 8] ?_
      refine S.gx [6, 16, 18, 21] ?_
      repeat refine gA ?_
      cases hr
      exact lf
   ·have hr := ifN hr hc
    repeat refine gA ?_
    refine S.prune [2, 4, 5, 7, 8] ?_
    refine S.gx [6, 16, 21, 26] ?_
    obtain ⟨v23, hv23, hr⟩ := of_bind0 hr
    try simp only [hv23, oG, oI, true_and, and_assoc]
    repeat refine gA ?_
    refine ⟨?_, ?_⟩ <;> intro hc
    ·have hr := ifP hr hc
     obtain ⟨hg29, hr⟩ := of_guard0 hr
     obtain ⟨hg30, hr⟩ := of_guard0 hr
     obtain ⟨v24, hv24, hr⟩ := of_bind0 hr
     obtain ⟨v25, hv25, hr⟩ := of_bind0 hr
     try simp only [hv24, hv25, Option.getD_some, Option.isSome_some, true_and, and_assoc]
     repeat refine gA ?_
     refine S.prune [2, 4, 5, 8, 14] ?_
     refine S.gx [6, 16, 18, 26] ?_
     repeat refine gA ?_
     obtain ⟨v26, hv26, hr⟩ := of_bind0 hr
     try simp only [hv26, oG, oI, true_and, and_assoc]
     repeat refine gA ?_
     refine ⟨?_, ?_⟩ <;> intro hc
     ·have hr := ifP hr hc
      obtain ⟨hg27, hr⟩ := of_guard0 hr
      obtain ⟨hg28, hr⟩ := of_guard0 hr
      repeat refine gA ?_
      refine S.prune [5, 8] ?_
      refine S.gx [6, 16, 18, 21] ?_
      repeat refine gA ?_
      cases hr
      exact lf
     ·have hr := ifN hr hc
      repeat refine gA ?_
      refine S.prune [5, 8] ?_
      refine S.gx [6, 16, 18, 21] ?_
      repeat refine gA ?_
      cases hr
      exact lf
    ·have hr := ifN hr hc
     obtain ⟨v31, hv31, hr⟩ := of_bind0 hr
     try simp only [hv31, oG, oI, true_and, and_assoc]
     repeat refine gA ?_
     refine ⟨?_, ?_⟩ <;> intro hc
     ·have hr := ifP hr hc
      obtain ⟨hg32, hr⟩ := of_guard0 hr
      obtain ⟨hg33, hr⟩ := of_guard0 hr
      repeat refine gA ?_
      refine S.prune [5, 8] ?_
      refine S.gx [6, 16, 18, 21] ?_
      repeat refine gA ?_
      cases hr
      exact lf
     ·have hr := ifN hr hc
      repeat refine gA ?_
      refine S.prune [5, 8] ?_
      refine S.gx [6, 16, 18, 21] ?_
      repeat refine gA ?_
      cases hr
      exact lf
  ·have hr := ifN hr hc
   repeat refine gA ?_
   refine S.prune [2, 4, 5, 7, 8] ?_
   refine S.gx [6, 16, 21, 26] ?_
   obtain ⟨v36, hv36, hr⟩ := of_bind0 hr
   try simp only [hv36, oG, oI, true_and, and_assoc]
   repeat refine gA ?_
   refine ⟨?_, ?_⟩ <;> intro hc
   ·have hr := ifP hr hc
    obtain ⟨hg42, hr⟩ := of_guard0 hr
    obtain ⟨hg43, hr⟩ := of_guard0 hr
    obtain ⟨v37, hv37, hr⟩ := of_bind0 hr
    obtain ⟨v38, hv38, hr⟩ := of_bind0 hr
    try simp only [hv37, hv38, Option.getD_some, Option.isSome_some, true_and, and_assoc]
    repeat refine gA ?_
    refine S.prune [2, 4, 5, 8, 14] ?_
    refine S.gx [6, 16, 18, 26] ?_
    repeat refine gA ?_
    obtain ⟨v39, hv39, hr⟩ := of_bind0 hr
    try simp only [hv39, oG, oI, true_and, and_assoc]
    repeat refine gA ?_
    refine ⟨?_, ?_⟩ <;> intro hc
    ·have hr := ifP hr hc
     obtain ⟨hg40, hr⟩ := of_guard0 hr
     obtain ⟨hg41, hr⟩ := of_guard0 hr
     repeat refine gA ?_
     refine S.prune [5, 8] ?_
     refine S.gx [6, 16, 18, 21] ?_
     repeat refine gA ?_
     cases hr
     exact lf
    ·have hr := ifN hr hc
     repeat refine gA ?_
     refine S.prune [5, 8] ?_
     refine S.gx [6, 16, 18, 21] ?_
     repeat refine gA ?_
     cases hr
     exact lf
   ·have hr := ifN hr hc
    obtain ⟨v44, hv44, hr⟩ := of_bind0 hr
    try simp only [hv44, oG, oI, true_and, and_assoc]
    repeat refine gA ?_
    refine ⟨?_, ?_⟩ <;> intro hc
    ·have hr := ifP hr hc
     obtain ⟨hg45, hr⟩ := of_guard0 hr
     obtain ⟨hg46, hr⟩ := of_guard0 hr
     repeat refine gA ?_
     refine S.prune [5, 8] ?_
     refine S.gx [6, 16, 18, 21] ?_
     repeat refine gA ?_
     cases hr
     exact lf
    ·have hr := ifN hr hc
     repeat refine gA ?_
     refine S.prune [5, 8] ?_
     refine S.gx [6, 16, 18, 21] ?_
     repeat refine gA ?_
     cases hr
     exact lf
theorem f97 : FnFact Tryz.prog 97 T97.sp := ⟨⟨Tryz.f97, Tryz.func97, by decide, rfl⟩, v97⟩
end

/- (martensite/steel.rules).run -/
def b55_1 (x0 : List (Int × Int × Int × Int)) (x1 : List (Int × Int × Int × Int × Int)) (x2 : List (Int × Int × Int)) (x3 : List (Int × Int)) (x4 : Int) (x5 : Int) (x6 : Int) (x7 : Int) (a2 : List (Int)) (x8 : Int) (x9 : Int) (x10 : Int) : (Int × Int × Int × Int × Int × Int × Int × Int) → Ctl (Int × Int × Int × Int × Int × Int × Int × Int) (Int × Int × Int × Int × Int × Int × Int) := fun s1 =>
  if (decide (s1.1 < (a2.length : Int))) = true then
   if 0 ≤ s1.1 ∧ s1.1 < (a2.length : Int) then
    bindC (r97 x0 x1 x2 x3 x4 x5 x6 x7 s1.2.1 s1.2.2.1 s1.2.2.2.1 s1.2.2.2.2.1 s1.2.2.2.2.2.1 s1.2.2.2.2.2.2.1 s1.2.2.2.2.2.2.2 (a2.getD s1.1.toNat default) x8 x9 x10) fun v1 =>
     .next (IntKind.i64.wrap (s1.1 + 1), v1.1, v1.2.1, v1.2.2.1, v1.2.2.2.1, v1.2.2.2.2.1, v1.2.2.2.2.2.1, v1.2.2.2.2.2.2)
    else .out none
   else .out (some (s1.2.1, s1.2.2.1, s1.2.2.2.1, s1.2.2.2.2.1, s1.2.2.2.2.2.1, s1.2.2.2.2.2.2.1, s1.2.2.2.2.2.2.2))
def r55 (x0 : List (Int × Int × Int × Int)) (x1 : List (Int × Int × Int × Int × Int)) (x2 : List (Int × Int × Int)) (x3 : List (Int × Int)) (x4 : Int) (x5 : Int) (x6 : Int) (x7 : Int) (x11 : Int) (x12 : Int) (x13 : Int) (x14 : Int) (x15 : Int) (x16 : Int) (x17 : Int) (a2 : List (Int)) (x8 : Int) (x9 : Int) (x10 : Int) : Option (Int × Int × Int × Int × Int × Int × Int) :=
  iterC (b55_1 x0 x1 x2 x3 x4 x5 x6 x7 a2 x8 x9 x10) 1000000000 (0, x11, x12, x13, x14, x15, x16, x17)
def T55 : TSpec qA22 := mkT qE22 qd22 (fun ⟨x0, x1, x2, x3, x4, x5, x6, x7, x11, x12, x13, x14, x15, x16, x17, a2, x8, x9, x10⟩ => r55 x0 x1 x2 x3 x4 x5 x6 x7 x11 x12 x13 x14 x15 x16 x17 a2 x8 x9 x10) qu1 false
theorem TP55 (c0 c1 c2 c3 c4 c5 c6 c7 c8 c9 c10 c11 c12 c13 c14 c15 c16 c17 c18 : D) : T55.sp.pre [.agg [c0, c1, c2, c3, c4, c5, c6, c7], .agg [c8, c9, c10, c11, c12, c13, c14], .c c15, .agg [c16, c17, c18]] = (eqvArgs (qt22 c0 c1 c2 c3 c4 c5 c6 c7 c8 c9 c10 c11 c12 c13 c14 c15 c16 c17 c18) (qp22 qw22 c0 c1 c2 c3 c4 c5 c6 c7 c8 c9 c10 c11 c12 c13 c14 c15 c16 c17 c18) ∧ (qp22 r55 c0 c1 c2 c3 c4 c5 c6 c7 c8 c9 c10 c11 c12 c13 c14 c15 c16 c17 c18).isSome = true) := (rfl)
theorem TR55 (c0 c1 c2 c3 c4 c5 c6 c7 c8 c9 c10 c11 c12 c13 c14 c15 c16 c17 c18 : D) : T55.sp.res [.agg [c0, c1, c2, c3, c4, c5, c6, c7], .agg [c8, c9, c10, c11, c12, c13, c14], .c c15, .agg [c16, c17, c18]] = qu1 ((qp22 r55 c0 c1 c2 c3 c4 c5 c6 c7 c8 c9 c10 c11 c12 c13 c14 c15 c16 c17 c18).getD default) := (rfl)
theorem TA55 : T55.sp.alias = false := (rfl)
def tb55 : Fns := lk [(97, T97.sp)]
theorem tb55_ok : FnsOk Tryz.prog tb55 := .cons f97 (FnsOk.nil)
theorem tb55_97 : tb55 97 = some T97.sp := rfl
attribute [go_sem] TP55 TR55 TA55
section
attribute [local go_sem] T55 tb55_97 Tryz.results55
theorem v55 : Valid Tryz.prog 55 T55.sp := by
 refine valid_t (fn := Tryz.f55) (n := 24) ty_ok tb55_ok Tryz.func55 rfl Tryz.ntmps55 ?_
 rintro ⟨x0, x1, x2, x3, x4, x5, x6, x7, x11, x12, x13, x14, x15, x16, x17, a2, x8, x9, x10⟩ hx
 obtain ⟨r, hr⟩ := oE (show (r55 x0 x1 x2 x3 x4 x5 x6 x7 x11 x12 x13 x14 x15 x16 x17 a2 x8 x9 x10).isSome = true from hx)
 have hres : T55.res (x0, x1, x2, x3, x4, x5, x6, x7, x11, x12, x13, x14, x15, x16, x17, a2, x8, x9, x10) = qu1 r := by simp only [T55, mkT, hr, oG]
 refine ⟨nL rfl, fun stop S => ?_⟩
 rw [hres] at S
 unfold r55 at hr
 refine S.gx [] ?_
 repeat refine gA ?_
 refine S.sees [4, 5, 7, 8, 11, 12, 13] [(4, 4), (5, 5), (7, 7), (8, 8)] [] ?_ (Stop.iter S (fun s1 => ⟨[(4, .c (.ref 4 0)), (5, .c (.ref 5 0)), (7, .c (.ref 7 0)), (8, .c (.ref 8 0)), (11, .c (.d (encF 1 d_I a2))), (12, .c (.d (.int .i64 (a2.length : Int)))), (13, .c (.d (.int .i64 s1.1)))], [(4, [.d (encF 4 d_IIII x0), .d (encF 5 d_IIIII x1), .d (encF 3 d_III x2), .d (encF 2 d_II x3), .d (.int .i64 x4), .d (.int .i64 x5), .d (.int .i64 x6), .d (.int .i64 x7)]), (5, [.d (.int .i64 s1.2.1), .d (.int .i64 s1.2.2.1), .d (.int .i64 s1.2.2.2.1), .d (.int .i64 s1.2.2.2.2.1), .d (.int .i64 s1.2.2.2.2.2.1), .d (.int .i64 s1.2.2.2.2.2.2.1), .d (.int .i64 s1.2.2.2.2.2.2.2)]), (7, [.d (.int .i64 x8), .d (.int .i64 x9), .d (.int .i64 x10)]), (8, [.d (.int .i64 0), .d (.int .i64 0), .d (.int .i64 0), .d (.int .i64 0), .d (.int .i64 0), .d (.int .i64 0), .d (.int .i64 0)])], []⟩) (b55_1 x0 x1 x2 x3 x4 x5 x6 x7 a2 x8 x9 x10) (fun q => q = r) hr rfl ?_)
 ·exact lf
 ·intro s1 hr
  unfold b55_1 at hr
  refine S.gx [] ?_
  repeat refine gA ?_
  refine ⟨?_, ?_⟩ <;> intro hc
  ·have hr := ifP1 hr hc
   obtain ⟨hg2, hr⟩ := of_guard1 hr
   obtain ⟨v1, hv1, hr⟩ := of_bind1 hr
   try simp only [hv1, oG, oI, true_and, and_assoc]
   repeat refine gA ?_
   refine S.sees [4, 5, 7, 8, 11, 12, 13] [(4, 4), (5, 5), (7, 7), (8, 8)] [] ?_ hr
   exact lf
  ·have hr := ifN1 hr hc
   repeat refine gA ?_
   have hr := of_out0 hr
   repeat refine gA ?_
   cases hr
   exact lf
theorem f55 : FnFact Tryz.prog 55 T55.sp := ⟨⟨Tryz.f55, Tryz.func55, by decide, rfl⟩, v55⟩
end

/- martensite/steel.RunOf -/
def r39 (x0 : List (Int × Int × Int × Int)) (x1 : List (Int × Int × Int × Int × Int)) (x2 : List (Int × Int × Int)) (x3 : List (Int × Int)) (x4 : Int) (x5 : Int) (x6 : Int) (x7 : Int) (x8 : Int) (x9 : Int) (x10 : Int) (x11 : Int) (x12 : Int) (x13 : Int) (x14 : Int) (x15 : List (Int)) (x16 : Int) (x17 : Int) (x18 : Int) : Option (Int × Int × Int × Int × Int × Int × Int × Int) :=
  (r46 x0 x1 x2 x3 x4 x5 x6 x7).bind fun v1 =>
   (r47 x8 x9 x10 x11 x12 x13 x14).bind fun v2 =>
    (r49 x15).bind fun v3 =>
     (r73 x16 x17 x18).bind fun v4 =>
      (r45 [v1, v2, v3, v4]).bind fun v5 =>
       if (v5 != 0) = true then
        some (0, 0, 0, 0, 0, 0, 0, v5)
        else (r55 x0 x1 x2 x3 x4 x5 x6 x7 x8 x9 x10 x11 x12 x13 x14 x15 x16 x17 x18).bind fun v6 =>
         some (v6.1, v6.2.1, v6.2.2.1, v6.2.2.2.1, v6.2.2.2.2.1, v6.2.2.2.2.2.1, v6.2.2.2.2.2.2, 0)
def T39 : TSpec qA23 := mkT qE23 qd23 (fun ⟨x0, x1, x2, x3, x4, x5, x6, x7, x8, x9, x10, x11, x12, x13, x14, x15, x16, x17, x18⟩ => r39 x0 x1 x2 x3 x4 x5 x6 x7 x8 x9 x10 x11 x12 x13 x14 x15 x16 x17 x18) qu10 false
theorem TP39 (c0 c1 c2 c3 c4 c5 c6 c7 c8 c9 c10 c11 c12 c13 c14 c15 c16 c17 c18 : D) : T39.sp.pre [.agg [c0, c1, c2, c3, c4, c5, c6, c7], .agg [c8, c9, c10, c11, c12, c13, c14], .agg [c15, c16, c17, c18]] = (eqvArgs (qt23 c0 c1 c2 c3 c4 c5 c6 c7 c8 c9 c10 c11 c12 c13 c14 c15 c16 c17 c18) (qp23 qw23 c0 c1 c2 c3 c4 c5 c6 c7 c8 c9 c10 c11 c12 c13 c14 c15 c16 c17 c18) ∧ (qp23 r39 c0 c1 c2 c3 c4 c5 c6 c7 c8 c9 c10 c11 c12 c13 c14 c15 c16 c17 c18).isSome = true) := (rfl)
theorem TR39 (c0 c1 c2 c3 c4 c5 c6 c7 c8 c9 c10 c11 c12 c13 c14 c15 c16 c17 c18 : D) : T39.sp.res [.agg [c0, c1, c2, c3, c4, c5, c6, c7], .agg [c8, c9, c10, c11, c12, c13, c14], .agg [c15, c16, c17, c18]] = qu10 ((qp23 r39 c0 c1 c2 c3 c4 c5 c6 c7 c8 c9 c10 c11 c12 c13 c14 c15 c16 c17 c18).getD default) := (rfl)
theorem TA39 : T39.sp.alias = false := (rfl)
def tb39 : Fns := lk [(45, T45.sp), (46, T46.sp), (47, T47.sp), (49, T49.sp), (55, T55.sp), (73, T73.sp)]
theorem tb39_ok : FnsOk Tryz.prog tb39 := .cons f45 (.cons f46 (.cons f47 (.cons f49 (.cons f55 (.cons f73 (FnsOk.nil))))))
theorem tb39_45 : tb39 45 = some T45.sp := rfl
theorem tb39_46 : tb39 46 = some T46.sp := rfl
theorem tb39_47 : tb39 47 = some T47.sp := rfl
theorem tb39_49 : tb39 49 = some T49.sp := rfl
theorem tb39_55 : tb39 55 = some T55.sp := rfl
theorem tb39_73 : tb39 73 = some T73.sp := rfl
attribute [go_sem] TP39 TR39 TA39
section
attribute [local go_sem] T39 tb39_45 tb39_46 tb39_47 tb39_49 tb39_55 tb39_73 Tryz.results39
theorem v39 : Valid Tryz.prog 39 T39.sp := by
 refine valid_t (fn := Tryz.f39) (n := 33) ty_ok tb39_ok Tryz.func39 rfl Tryz.ntmps39 ?_
 rintro ⟨x0, x1, x2, x3, x4, x5, x6, x7, x8, x9, x10, x11, x12, x13, x14, x15, x16, x17, x18⟩ hx
 obtain ⟨r, hr⟩ := oE (show (r39 x0 x1 x2 x3 x4 x5 x6 x7 x8 x9 x10 x11 x12 x13 x14 x15 x16 x17 x18).isSome = true from hx)
 have hres : T39.res (x0, x1, x2, x3, x4, x5, x6, x7, x8, x9, x10, x11, x12, x13, x14, x15, x16, x17, x18) = qu10 r := by simp only [T39, mkT, hr, oG]
 refine ⟨nL rfl, fun stop S => ?_⟩
 rw [hres] at S
 unfold r39 at hr
 refine S.gx [] ?_
 obtain ⟨v1, hv1, hr⟩ := of_bind0 hr
 obtain ⟨v2, hv2, hr⟩ := of_bind0 hr
 obtain ⟨v3, hv3, hr⟩ := of_bind0 hr
 obtain ⟨v4, hv4, hr⟩ := of_bind0 hr
 obtain ⟨v5, hv5, hr⟩ := of_bind0 hr
 try simp only [hv1, hv2, hv3, hv4, hv5, Option.getD_some, Option.isSome_some, true_and, and_assoc]
 repeat refine gA ?_
 refine ⟨?_, ?_⟩ <;> intro hc
 ·have hr := ifP hr hc
  repeat refine gA ?_
  cases hr
  exact lf
 ·have hr := ifN hr hc
  obtain ⟨v6, hv6, hr⟩ := of_bind0 hr
  try simp only [hv6, oG, oI, true_and, and_assoc]
  repeat refine gA ?_
  cases hr
  exact lf
theorem f39 : FnFact Tryz.prog 39 T39.sp := ⟨⟨Tryz.f39, Tryz.func39, by decide, rfl⟩, v39⟩
end

/- martensite/martensitelaw04.Austenite -/
def r42 : Option (Int × Int × Int × Int × Int × Int × Int) :=
  some (0, 1000000, 0, 0, 0, 0, 0)
def T42 : TSpec qA0 := mkT qE0 qd0 (fun _ => r42) qu1 false
theorem TP42 : T42.sp.pre [] = (eqvArgs (qt0 ) (qp0 qw0 ) ∧ (qp0 r42).isSome = true) := (rfl)
theorem TR42 : T42.sp.res [] = qu1 ((qp0 r42).getD default) := (rfl)
theorem TA42 : T42.sp.alias = false := (rfl)
def tb42 : Fns := lk []
theorem tb42_ok : FnsOk Tryz.prog tb42 := FnsOk.nil
attribute [go_sem] TP42 TR42 TA42
section
attribute [local go_sem] T42 Tryz.results42
theorem v42 : Valid Tryz.prog 42 T42.sp := by
 refine valid_t (fn := Tryz.f42) (n := 2) ty_ok tb42_ok Tryz.func42 rfl Tryz.ntmps42 ?_
 intro _ hx
 obtain ⟨r, hr⟩ := oE (show (r42).isSome = true from hx)
 have hres : T42.res () = qu1 r := by simp only [T42, mkT, hr, oG]
 refine ⟨nL rfl, fun stop S => ?_⟩
 rw [hres] at S
 unfold r42 at hr
 refine S.gx [] ?_
 repeat refine gA ?_
 cases hr
 exact lf
theorem f42 : FnFact Tryz.prog 42 T42.sp := ⟨⟨Tryz.f42, Tryz.func42, by decide, rfl⟩, v42⟩
end

/- (martensite/steel.rules).hardness -/
def r74 (x4 : List (Int × Int × Int × Int)) (x5 : List (Int × Int × Int × Int × Int)) (x6 : List (Int × Int × Int)) (x7 : List (Int × Int)) (x2 : Int) (x3 : Int) (x0 : Int) (x1 : Int) (a1 : Int) : Option (Int × Int × Int × Int) :=
  some (x2, x3, x0, (if x0 < IntKind.i64.wrap (x1 - a1) then IntKind.i64.wrap (x1 - a1) else x0))
def T74 : TSpec qA14 := mkT qE14 qd14 (fun ⟨x4, x5, x6, x7, x2, x3, x0, x1, a1⟩ => r74 x4 x5 x6 x7 x2 x3 x0 x1 a1) qu11 false
theorem TP74 (c0 c1 c2 c3 c4 c5 c6 c7 c8 : D) : T74.sp.pre [.agg [c0, c1, c2, c3, c4, c5, c6, c7], .c c8] = (eqvArgs (qt14 c0 c1 c2 c3 c4 c5 c6 c7 c8) (qp14 qw14 c0 c1 c2 c3 c4 c5 c6 c7 c8) ∧ (qp14 r74 c0 c1 c2 c3 c4 c5 c6 c7 c8).isSome = true) := (rfl)
theorem TR74 (c0 c1 c2 c3 c4 c5 c6 c7 c8 : D) : T74.sp.res [.agg [c0, c1, c2, c3, c4, c5, c6, c7], .c c8] = qu11 ((qp14 r74 c0 c1 c2 c3 c4 c5 c6 c7 c8).getD default) := (rfl)
theorem TA74 : T74.sp.alias = false := (rfl)
def tb74 : Fns := lk []
theorem tb74_ok : FnsOk Tryz.prog tb74 := FnsOk.nil
attribute [go_sem] TP74 TR74 TA74
section
attribute [local go_sem] T74 Tryz.results74
theorem v74 : Valid Tryz.prog 74 T74.sp := by
 refine valid_t (fn := Tryz.f74) (n := 18) ty_ok tb74_ok Tryz.func74 rfl Tryz.ntmps74 ?_
 rintro ⟨x4, x5, x6, x7, x2, x3, x0, x1, a1⟩ hx
 obtain ⟨r, hr⟩ := oE (show (r74 x4 x5 x6 x7 x2 x3 x0 x1 a1).isSome = true from hx)
 have hres : T74.res (x4, x5, x6, x7, x2, x3, x0, x1, a1) = qu11 r := by simp only [T74, mkT, hr, oG]
 refine ⟨nL rfl, fun stop S => ?_⟩
 rw [hres] at S
 unfold r74 at hr
 refine S.gx [] ?_
 repeat refine gA ?_
 cases hr
 exact lf
theorem f74 : FnFact Tryz.prog 74 T74.sp := ⟨⟨Tryz.f74, Tryz.func74, by decide, rfl⟩, v74⟩
end

/- martensite/steel.HardnessOf -/
def b43_1 (x0 : List (Int × Int × Int × Int)) (x1 : List (Int × Int × Int × Int × Int)) (x2 : List (Int × Int × Int)) (x3 : List (Int × Int)) (x4 : Int) (x5 : Int) (x6 : Int) (x7 : Int) (x9 : Int) (x10 : Int) (x11 : Int) (x12 : Int) (x8 : Int) : (Int × Int) → Ctl (Int × Int) (Int × Int) := fun s1 =>
  if (decide (s1.2 < 4)) = true then
   if s1.2 = 0 then
    bindC (r74 x0 x1 x2 x3 x4 x5 x6 x7 x8) fun v11 =>
     .next (IntKind.i64.wrap (s1.1 + (IntKind.i64.wrap (x9 * v11.1))), IntKind.i64.wrap (0 + 1))
    else if s1.2 = 1 then
     bindC (r74 x0 x1 x2 x3 x4 x5 x6 x7 x8) fun v9 =>
      .next (IntKind.i64.wrap (s1.1 + (IntKind.i64.wrap (x10 * v9.2.1))), IntKind.i64.wrap (1 + 1))
     else if s1.2 = 2 then
      bindC (r74 x0 x1 x2 x3 x4 x5 x6 x7 x8) fun v7 =>
       .next (IntKind.i64.wrap (s1.1 + (IntKind.i64.wrap (x11 * v7.2.2.1))), IntKind.i64.wrap (2 + 1))
      else if s1.2 = 3 then
       bindC (r74 x0 x1 x2 x3 x4 x5 x6 x7 x8) fun v5 =>
        .next (IntKind.i64.wrap (s1.1 + (IntKind.i64.wrap (x12 * v5.2.2.2))), IntKind.i64.wrap (3 + 1))
       else .out none
   else .out (some (IntKind.i64.wrap (s1.1.tdiv 1000000), 0))
def r43 (x0 : List (Int × Int × Int × Int)) (x1 : List (Int × Int × Int × Int × Int)) (x2 : List (Int × Int × Int)) (x3 : List (Int × Int)) (x4 : Int) (x5 : Int) (x6 : Int) (x7 : Int) (x9 : Int) (x10 : Int) (x11 : Int) (x12 : Int) (x13 : Int) (x14 : Int) (x8 : Int) : Option (Int × Int) :=
  (r46 x0 x1 x2 x3 x4 x5 x6 x7).bind fun v1 =>
   (r47 x9 x10 x11 x12 x13 x14 x8).bind fun v2 =>
    (r45 [v1, v2]).bind fun v3 =>
     if (v3 != 0) = true then
      some (0, v3)
      else iterC (b43_1 x0 x1 x2 x3 x4 x5 x6 x7 x9 x10 x11 x12 x8) 1000000000 (0, 0)
def T43 : TSpec qA24 := mkT qE24 qd24 (fun ⟨x0, x1, x2, x3, x4, x5, x6, x7, x9, x10, x11, x12, x13, x14, x8⟩ => r43 x0 x1 x2 x3 x4 x5 x6 x7 x9 x10 x11 x12 x13 x14 x8) qu5 false
theorem TP43 (c0 c1 c2 c3 c4 c5 c6 c7 c8 c9 c10 c11 c12 c13 c14 : D) : T43.sp.pre [.agg [c0, c1, c2, c3, c4, c5, c6, c7], .agg [c8, c9, c10, c11, c12, c13, c14]] = (eqvArgs (qt24 c0 c1 c2 c3 c4 c5 c6 c7 c8 c9 c10 c11 c12 c13 c14) (qp24 qw24 c0 c1 c2 c3 c4 c5 c6 c7 c8 c9 c10 c11 c12 c13 c14) ∧ (qp24 r43 c0 c1 c2 c3 c4 c5 c6 c7 c8 c9 c10 c11 c12 c13 c14).isSome = true) := (rfl)
theorem TR43 (c0 c1 c2 c3 c4 c5 c6 c7 c8 c9 c10 c11 c12 c13 c14 : D) : T43.sp.res [.agg [c0, c1, c2, c3, c4, c5, c6, c7], .agg [c8, c9, c10, c11, c12, c13, c14]] = qu5 ((qp24 r43 c0 c1 c2 c3 c4 c5 c6 c7 c8 c9 c10 c11 c12 c13 c14).getD default) := (rfl)
theorem TA43 : T43.sp.alias = false := (rfl)
def tb43 : Fns := lk [(45, T45.sp), (46, T46.sp), (47, T47.sp), (74, T74.sp)]
theorem tb43_ok : FnsOk Tryz.prog tb43 := .cons f45 (.cons f46 (.cons f47 (.cons f74 (FnsOk.nil))))
theorem tb43_45 : tb43 45 = some T45.sp := rfl
theorem tb43_46 : tb43 46 = some T46.sp := rfl
theorem tb43_47 : tb43 47 = some T47.sp := rfl
theorem tb43_74 : tb43 74 = some T74.sp := rfl
theorem lt43_0 : (((3 : Int) = 0 ∨ (0 : Int) < 3)) = True := by first | rfl | decide | simp
theorem lt43_1 : (((2 : Int) = 0 ∨ (0 : Int) < 2)) = True := by first | rfl | decide | simp
theorem lt43_2 : (((1 : Int) = 0 ∨ (0 : Int) < 1)) = True := by first | rfl | decide | simp
attribute [go_sem] TP43 TR43 TA43
section
attribute [local go_sem] T43 tb43_45 tb43_46 tb43_47 tb43_74 Tryz.results43 lt43_0 lt43_1 lt43_2
theorem v43 : Valid Tryz.prog 43 T43.sp := by
 refine valid_t (fn := Tryz.f43) (n := 46) ty_ok tb43_ok Tryz.func43 rfl Tryz.ntmps43 ?_
 rintro ⟨x0, x1, x2, x3, x4, x5, x6, x7, x9, x10, x11, x12, x13, x14, x8⟩ hx
 obtain ⟨r, hr⟩ := oE (show (r43 x0 x1 x2 x3 x4 x5 x6 x7 x9 x10 x11 x12 x13 x14 x8).isSome = true from hx)
 have hres : T43.res (x0, x1, x2, x3, x4, x5, x6, x7, x9, x10, x11, x12, x13, x14, x8) = qu5 r := by simp only [T43, mkT, hr, oG]
 refine ⟨nL rfl, fun stop S => ?_⟩
 rw [hres] at S
 unfold r43 at hr
 refine S.gx [7] ?_
 obtain ⟨v1, hv1, hr⟩ := of_bind0 hr
 obtain ⟨v2, hv2, hr⟩ := of_bind0 hr
 obtain ⟨v3, hv3, hr⟩ := of_bind0 hr
 try simp only [hv1, hv2, hv3, Option.getD_some, Option.isSome_some, true_and, and_assoc]
 repeat refine gA ?_
 refine ⟨?_, ?_⟩ <;> intro hc
 ·have hr := ifP hr hc
  repeat refine gA ?_
  cases hr
  exact lf
 ·have hr := ifN hr hc
  repeat refine gA ?_
  refine S.sees [2, 3, 7, 27, 28] [(2, 2), (3, 3)] [] ?_ (Stop.iter S (fun s1 => ⟨[(2, .c (.ref 2 0)), (3, .c (.ref 3 0)), (7, .c (.d (.int .i64 s1.1))), (27, .agg [.d (.int .i64 x9), .d (.int .i64 x10), .d (.int .i64 x11), .d (.int .i64 x12)]), (28, .c (.d (.int .i64 s1.2)))], [(2, [.d (encF 4 d_IIII x0), .d (encF 5 d_IIIII x1), .d (encF 3 d_III x2), .d (encF 2 d_II x3), .d (.int .i64 x4), .d (.int .i64 x5), .d (.int .i64 x6), .d (.int .i64 x7)]), (3, [.d (.int .i64 x9), .d (.int .i64 x10), .d (.int .i64 x11), .d (.int .i64 x12), .d (.int .i64 x13), .d (.int .i64 x14), .d (.int .i64 x8)])], []⟩) (b43_1 x0 x1 x2 x3 x4 x5 x6 x7 x9 x10 x11 x12 x8) (fun q => q = r) hr rfl ?_)
  ·exact lf
  ·intro s1 hr
   unfold b43_1 at hr
   refine S.gx [7] ?_
   repeat refine gA ?_
   refine ⟨?_, ?_⟩ <;> intro hc
   ·have hr := ifP1 hr hc
    repeat refine gA ?_
    by_cases hs10 : s1.2 = 0
    ·rw [if_pos hs10] at hr
     simp only [hs10]
     refine S.gx [] ?_
     repeat refine gA ?_
     obtain ⟨v11, hv11, hr⟩ := of_bind1 hr
     try simp only [hv11, oG, oI, true_and, and_assoc]
     repeat refine gA ?_
     refine S.sees [2, 3, 7, 27, 28] [(2, 2), (3, 3)] [] ?_ hr
     exact lf
    ·rw [if_neg hs10] at hr
     by_cases hs8 : s1.2 = 1
     ·rw [if_pos hs8] at hr
      simp only [hs8]
      refine S.gx [] ?_
      repeat refine gA ?_
      obtain ⟨v9, hv9, hr⟩ := of_bind1 hr
      try simp only [hv9, oG, oI, true_and, and_assoc]
      repeat refine gA ?_
      refine S.sees [2, 3, 7, 27, 28] [(2, 2), (3, 3)] [] ?_ hr
      exact lf
     ·rw [if_neg hs8] at hr
      by_cases hs6 : s1.2 = 2
      ·rw [if_pos hs6] at hr
       simp only [hs6]
       refine S.gx [] ?_
       repeat refine gA ?_
       obtain ⟨v7, hv7, hr⟩ := of_bind1 hr
       try simp only [hv7, oG, oI, true_and, and_assoc]
       repeat refine gA ?_
       refine S.sees [2, 3, 7, 27, 28] [(2, 2), (3, 3)] [] ?_ hr
       exact lf
      ·rw [if_neg hs6] at hr
       by_cases hs4 : s1.2 = 3
       ·rw [if_pos hs4] at hr
        simp only [hs4]
        refine S.gx [] ?_
        repeat refine gA ?_
        obtain ⟨v5, hv5, hr⟩ := of_bind1 hr
        try simp only [hv5, oG, oI, true_and, and_assoc]
        repeat refine gA ?_
        refine S.sees [2, 3, 7, 27, 28] [(2, 2), (3, 3)] [] ?_ hr
        exact lf
       ·rw [if_neg hs4] at hr
        first | cases hr | exact hr.elim
   ·have hr := ifN1 hr hc
    repeat refine gA ?_
    have hr := of_out0 hr
    repeat refine gA ?_
    cases hr
    exact lf
theorem f43 : FnFact Tryz.prog 43 T43.sp := ⟨⟨Tryz.f43, Tryz.func43, by decide, rfl⟩, v43⟩
end

/- martensite/steel.shares -/
def r67 (x0 : Int) (x1 : Int) (x2 : Int) (x3 : Int) (x4 : Int) (x5 : Int) (x6 : Int) (x7 : Int) (x8 : Int) (x9 : Int) (x10 : Int) (x11 : Int) (x12 : Int) (x13 : Int) : Option (Int × Int × Int × Int × Int × Int × Int × Int) :=
  some (x0, x1, x2, x3, x4, x5, x6, x7)
def T67 : TSpec qA25 := mkT qE25 qd25 (fun ⟨x0, x1, x2, x3, x4, x5, x6, x7, x8, x9, x10, x11, x12, x13⟩ => r67 x0 x1 x2 x3 x4 x5 x6 x7 x8 x9 x10 x11 x12 x13) qu12 false
theorem TP67 (c0 c1 c2 c3 c4 c5 c6 c7 c8 c9 c10 c11 c12 c13 : D) : T67.sp.pre [.agg [c0, c1, c2, c3, c4, c5, c6, c7, c8, c9, c10, c11, c12, c13]] = (eqvArgs (qt25 c0 c1 c2 c3 c4 c5 c6 c7 c8 c9 c10 c11 c12 c13) (qp25 qw25 c0 c1 c2 c3 c4 c5 c6 c7 c8 c9 c10 c11 c12 c13) ∧ (qp25 r67 c0 c1 c2 c3 c4 c5 c6 c7 c8 c9 c10 c11 c12 c13).isSome = true) := (rfl)
theorem TR67 (c0 c1 c2 c3 c4 c5 c6 c7 c8 c9 c10 c11 c12 c13 : D) : T67.sp.res [.agg [c0, c1, c2, c3, c4, c5, c6, c7, c8, c9, c10, c11, c12, c13]] = qu12 ((qp25 r67 c0 c1 c2 c3 c4 c5 c6 c7 c8 c9 c10 c11 c12 c13).getD default) := (rfl)
theorem TA67 : T67.sp.alias = false := (rfl)
def tb67 : Fns := lk []
theorem tb67_ok : FnsOk Tryz.prog tb67 := FnsOk.nil
attribute [go_sem] TP67 TR67 TA67
section
attribute [local go_sem] T67 Tryz.results67
theorem v67 : Valid Tryz.prog 67 T67.sp := by
 refine valid_t (fn := Tryz.f67) (n := 12) ty_ok tb67_ok Tryz.func67 rfl Tryz.ntmps67 ?_
 rintro ⟨x0, x1, x2, x3, x4, x5, x6, x7, x8, x9, x10, x11, x12, x13⟩ hx
 obtain ⟨r, hr⟩ := oE (show (r67 x0 x1 x2 x3 x4 x5 x6 x7 x8 x9 x10 x11 x12 x13).isSome = true from hx)
 have hres : T67.res (x0, x1, x2, x3, x4, x5, x6, x7, x8, x9, x10, x11, x12, x13) = qu12 r := by simp only [T67, mkT, hr, oG]
 refine ⟨nL rfl, fun stop S => ?_⟩
 rw [hres] at S
 unfold r67 at hr
 refine S.gx [] ?_
 repeat refine gA ?_
 cases hr
 exact lf
theorem f67 : FnFact Tryz.prog 67 T67.sp := ⟨⟨Tryz.f67, Tryz.func67, by decide, rfl⟩, v67⟩
end

/- martensite/steel.CheckBox -/
def r33 (x7 : Int) (x0 : Int) (x8 : Int) (x1 : Int) (x9 : Int) (x2 : Int) (x10 : Int) (x3 : Int) (x11 : Int) (x4 : Int) (x12 : Int) (x5 : Int) (x13 : Int) (x6 : Int) : Option (Int) :=
  (r66 x7 0 1000000).bind fun v1 =>
   if v1 = true → (r66 x0 0 1000000).isSome = true then
    (r48 (v1 && ((r66 x0 0 1000000).getD default)) 2).bind fun v2 =>
     (r48 (decide (x7 ≤ x0)) 9).bind fun v3 =>
      (r45 [v2, v3]).bind fun v4 =>
       if (v4 != 0) = true then
        some v4
        else (r66 x8 0 1000000).bind fun v5 =>
         if v5 = true → (r66 x1 0 1000000).isSome = true then
          (r48 (v5 && ((r66 x1 0 1000000).getD default)) 2).bind fun v6 =>
           (r48 (decide (x8 ≤ x1)) 9).bind fun v7 =>
            (r45 [v6, v7]).bind fun v8 =>
             if (v8 != 0) = true then
              some v8
              else (r66 x9 0 1000000).bind fun v9 =>
               if v9 = true → (r66 x2 0 1000000).isSome = true then
                (r48 (v9 && ((r66 x2 0 1000000).getD default)) 2).bind fun v10 =>
                 (r48 (decide (x9 ≤ x2)) 9).bind fun v11 =>
                  (r45 [v10, v11]).bind fun v12 =>
                   if (v12 != 0) = true then
                    some v12
                    else (r66 x10 0 1000000).bind fun v13 =>
                     if v13 = true → (r66 x3 0 1000000).isSome = true then
                      (r48 (v13 && ((r66 x3 0 1000000).getD default)) 2).bind fun v14 =>
                       (r48 (decide (x10 ≤ x3)) 9).bind fun v15 =>
                        (r45 [v14, v15]).bind fun v16 =>
                         if (v16 != 0) = true then
                          some v16
                          else (r66 x11 0 1000000).bind fun v17 =>
                           if v17 = true → (r66 x4 0 1000000).isSome = true then
                            (r48 (v17 && ((r66 x4 0 1000000).getD default)) 2).bind fun v18 =>
                             (r48 (decide (x11 ≤ x4)) 9).bind fun v19 =>
                              (r45 [v18, v19]).bind fun v20 =>
                               if (v20 != 0) = true then
                                some v20
                                else (r66 x12 0 100000).bind fun v21 =>
                                 if v21 = true → (r66 x5 0 100000).isSome = true then
                                  (r48 (v21 && ((r66 x5 0 100000).getD default)) 2).bind fun v22 =>
                                   (r48 (decide (x12 ≤ x5)) 9).bind fun v23 =>
                                    (r45 [v22, v23]).bind fun v24 =>
                                     if (v24 != 0) = true then
                                      some v24
                                      else (r66 x13 0 1000000).bind fun v25 =>
                                       if v25 = true → (r66 x6 0 1000000).isSome = true then
                                        (r48 (v25 && ((r66 x6 0 1000000).getD default)) 2).bind fun v26 =>
                                         (r48 (decide (x13 ≤ x6)) 9).bind fun v27 =>
                                          (r45 [v26, v27]).bind fun v28 =>
                                           if (v28 != 0) = true then
                                            some v28
                                            else (r67 x7 x0 x8 x1 x9 x2 x10 x3 x11 x4 x12 x5 x13 x6).bind fun v29 =>
                                             (r66 1000000 (IntKind.i64.wrap ((IntKind.i64.wrap ((IntKind.i64.wrap ((IntKind.i64.wrap (0 + v29.1)) + v29.2.2.1)) + v29.2.2.2.2.1)) + v29.2.2.2.2.2.2.1)) (IntKind.i64.wrap ((IntKind.i64.wrap ((IntKind.i64.wrap ((IntKind.i64.wrap (0 + v29.2.1)) + v29.2.2.2.1)) + v29.2.2.2.2.2.1)) + v29.2.2.2.2.2.2.2))).bind fun v30 =>
                                              (r48 v30 12).bind fun v31 =>
                                               some v31
                                        else none
                                  else none
                            else none
                      else none
                else none
          else none
    else none
def T33 : TSpec qA25 := mkT qE25 qd25 (fun ⟨x7, x0, x8, x1, x9, x2, x10, x3, x11, x4, x12, x5, x13, x6⟩ => r33 x7 x0 x8 x1 x9 x2 x10 x3 x11 x4 x12 x5 x13 x6) qu4 false
theorem TP33 (c0 c1 c2 c3 c4 c5 c6 c7 c8 c9 c10 c11 c12 c13 : D) : T33.sp.pre [.agg [c0, c1, c2, c3, c4, c5, c6, c7, c8, c9, c10, c11, c12, c13]] = (eqvArgs (qt25 c0 c1 c2 c3 c4 c5 c6 c7 c8 c9 c10 c11 c12 c13) (qp25 qw25 c0 c1 c2 c3 c4 c5 c6 c7 c8 c9 c10 c11 c12 c13) ∧ (qp25 r33 c0 c1 c2 c3 c4 c5 c6 c7 c8 c9 c10 c11 c12 c13).isSome = true) := (rfl)
theorem TR33 (c0 c1 c2 c3 c4 c5 c6 c7 c8 c9 c10 c11 c12 c13 : D) : T33.sp.res [.agg [c0, c1, c2, c3, c4, c5, c6, c7, c8, c9, c10, c11, c12, c13]] = qu4 ((qp25 r33 c0 c1 c2 c3 c4 c5 c6 c7 c8 c9 c10 c11 c12 c13).getD default) := (rfl)
theorem TA33 : T33.sp.alias = false := (rfl)
def tb33 : Fns := lk [(45, T45.sp), (48, T48.sp), (66, T66.sp), (67, T67.sp)]
theorem tb33_ok : FnsOk Tryz.prog tb33 := .cons f45 (.cons f48 (.cons f66 (.cons f67 (FnsOk.nil))))
theorem tb33_45 : tb33 45 = some T45.sp := rfl
theorem tb33_48 : tb33 48 = some T48.sp := rfl
theorem tb33_66 : tb33 66 = some T66.sp := rfl
theorem tb33_67 : tb33 67 = some T67.sp := rfl
theorem lt33_0 : (decide ((0 : Int) < 7)) = true := by first | rfl | decide | simp
theorem lt33_1 : (IntKind.i64.wrap (0 + 1)) = 1 := by first | rfl | decide | simp
theorem lt33_2 : (decide ((1 : Int) < 7)) = true := by first | rfl | decide | simp
theorem lt33_3 : (((1 : Int) = 0 ∨ (0 : Int) < 1)) = True := by first | rfl | decide | simp
theorem lt33_4 : (IntKind.i64.wrap (1 + 1)) = 2 := by first | rfl | decide | simp
theorem lt33_5 : (decide ((2 : Int) < 7)) = true := by first | rfl | decide | simp
theorem lt33_6 : (((2 : Int) = 0 ∨ (0 : Int) < 2)) = True := by first | rfl | decide | simp
theorem lt33_7 : (IntKind.i64.wrap (2 + 1)) = 3 := by first | rfl | decide | simp
theorem lt33_8 : (decide ((3 : Int) < 7)) = true := by first | rfl | decide | simp
theorem lt33_9 : (((3 : Int) = 0 ∨ (0 : Int) < 3)) = True := by first | rfl | decide | simp
theorem lt33_10 : (IntKind.i64.wrap (3 + 1)) = 4 := by first | rfl | decide | simp
theorem lt33_11 : (decide ((4 : Int) < 7)) = true := by first | rfl | decide | simp
theorem lt33_12 : (((4 : Int) = 0 ∨ (0 : Int) < 4)) = True := by first | rfl | decide | simp
theorem lt33_13 : (IntKind.i64.wrap (4 + 1)) = 5 := by first | rfl | decide | simp
theorem lt33_14 : (decide ((5 : Int) < 7)) = true := by first | rfl | decide | simp
theorem lt33_15 : (((5 : Int) = 0 ∨ (0 : Int) < 5)) = True := by first | rfl | decide | simp
theorem lt33_16 : (IntKind.i64.wrap (5 + 1)) = 6 := by first | rfl | decide | simp
theorem lt33_17 : (decide ((6 : Int) < 7)) = true := by first | rfl | decide | simp
theorem lt33_18 : (((6 : Int) = 0 ∨ (0 : Int) < 6)) = True := by first | rfl | decide | simp
theorem lt33_19 : (IntKind.i64.wrap (6 + 1)) = 7 := by first | rfl | decide | simp
theorem lt33_20 : (decide ((7 : Int) < 7)) = false := by first | rfl | decide | simp
theorem lt33_21 : (decide ((0 : Int) < 4)) = true := by first | rfl | decide | simp
theorem lt33_22 : (decide ((1 : Int) < 4)) = true := by first | rfl | decide | simp
theorem lt33_23 : (decide ((2 : Int) < 4)) = true := by first | rfl | decide | simp
theorem lt33_24 : (decide ((3 : Int) < 4)) = true := by first | rfl | decide | simp
theorem lt33_25 : (decide ((4 : Int) < 4)) = false := by first | rfl | decide | simp
attribute [go_sem] TP33 TR33 TA33
section
attribute [local go_sem] T33 tb33_45 tb33_48 tb33_66 tb33_67 Tryz.results33 Tryz.results65 lt33_0 lt33_1 lt33_2 lt33_3 lt33_4 lt33_5 lt33_6 lt33_7 lt33_8 lt33_9 lt33_10 lt33_11 lt33_12 lt33_13 lt33_14 lt33_15 lt33_16 lt33_17 lt33_18 lt33_19 lt33_20 lt33_21 lt33_22 lt33_23 lt33_24 lt33_25
theorem v33 : Valid Tryz.prog 33 T33.sp := by
 refine valid_t (fn := Tryz.f33) (n := 74) ty_ok tb33_ok Tryz.func33 rfl Tryz.ntmps33 ?_
 rintro ⟨x7, x0, x8, x1, x9, x2, x10, x3, x11, x4, x12, x5, x13, x6⟩ hx
 obtain ⟨r, hr⟩ := oE (show (r33 x7 x0 x8 x1 x9 x2 x10 x3 x11 x4 x12 x5 x13 x6).isSome = true from hx)
 have hres : T33.res (x7, x0, x8, x1, x9, x2, x10, x3, x11, x4, x12, x5, x13, x6) = qu4 r := by simp only [T33, mkT, hr, oG]
 refine ⟨nL rfl, fun stop S => ?_⟩
 rw [hres] at S
 unfold r33 at hr
 refine S.gx [2, 6] ?_
 repeat refine gA ?_
 refine S.inl 0 [1, 3] [] Tryz.func65 (by decide) rfl Tryz.ntmps65 (fun cx e => drawn_ok ty_ok tb33_ok cx e) (some 11) rfl rfl rfl rfl (nL rfl) (nL rfl) ?_
 refine gs ?_
 repeat refine gA ?_
 intro stop1 S1
 refine S1.gx [] ?_
 repeat refine gA ?_
 refine S.gx [2, 6] ?_
 repeat refine gA ?_
 refine S.lp ?_
 refine S.gx [2, 6] ?_
 obtain ⟨v1, hv1, hr⟩ := of_bind0 hr
 obtain ⟨hg38, hr⟩ := of_guard0 hr
 obtain ⟨v2, hv2, hr⟩ := of_bind0 hr
 obtain ⟨v3, hv3, hr⟩ := of_bind0 hr
 obtain ⟨v4, hv4, hr⟩ := of_bind0 hr
 try simp only [hv1, hv2, hv3, hv4, Option.getD_some, Option.isSome_some, true_and, and_assoc]
 repeat (first | refine gG hg38 ?_ | refine gA ?_ | refine gB ?_)
 refine S.prune [1, 3, 6, 11, 12] ?_
 refine S.gx [2] ?_
 repeat refine gA ?_
 refine ⟨?_, ?_⟩ <;> intro hc
 ·have hr := ifP hr hc
  repeat refine gA ?_
  cases hr
  exact lf
 ·have hr := ifN hr hc
  repeat refine gA ?_
  refine S.lp ?_
  refine S.gx [2, 6] ?_
  obtain ⟨v5, hv5, hr⟩ := of_bind0 hr
  obtain ⟨hg37, hr⟩ := of_guard0 hr
  obtain ⟨v6, hv6, hr⟩ := of_bind0 hr
  obtain ⟨v7, hv7, hr⟩ := of_bind0 hr
  obtain ⟨v8, hv8, hr⟩ := of_bind0 hr
  try simp only [hv5, hv6, hv7, hv8, Option.getD_some, Option.isSome_some, true_and, and_assoc]
  repeat (first | refine gG hg37 ?_ | refine gA ?_ | refine gB ?_)
  refine S.prune [1, 3, 6, 11, 12] ?_
  refine S.gx [2] ?_
  repeat refine gA ?_
  refine ⟨?_, ?_⟩ <;> intro hc
  ·have hr := ifP hr hc
   repeat refine gA ?_
   cases hr
   exact lf
  ·have hr := ifN hr hc
   repeat refine gA ?_
   refine S.lp ?_
   refine S.gx [2, 6] ?_
   obtain ⟨v9, hv9, hr⟩ := of_bind0 hr
   obtain ⟨hg36, hr⟩ := of_guard0 hr
   obtain ⟨v10, hv10, hr⟩ := of_bind0 hr
   obtain ⟨v11, hv11, hr⟩ := of_bind0 hr
   obtain ⟨v12, hv12, hr⟩ := of_bind0 hr
   try simp only [hv9, hv10, hv11, hv12, Option.getD_some, Option.isSome_some, true_and, and_assoc]
   repeat (first | refine gG hg36 ?_ | refine gA ?_ | refine gB ?_)
   refine S.prune [1, 3, 6, 11, 12] ?_
   refine S.gx [2] ?_
   repeat refine gA ?_
   refine ⟨?_, ?_⟩ <;> intro hc
   ·have hr := ifP hr hc
    repeat refine gA ?_
    cases hr
    exact lf
   ·have hr := ifN hr hc
    repeat refine gA ?_
    refine S.lp ?_
    refine S.gx [2, 6] ?_
    obtain ⟨v13, hv13, hr⟩ := of_bind0 hr
    obtain ⟨hg35, hr⟩ := of_guard0 hr
    obtain ⟨v14, hv14, hr⟩ := of_bind0 hr
    obtain ⟨v15, hv15, hr⟩ := of_bind0 hr
    obtain ⟨v16, hv16, hr⟩ := of_bind0 hr
    try simp only [hv13, hv14, hv15, hv16, Option.getD_some, Option.isSome_some, true_and, and_assoc]
    repeat (first | refine gG hg35 ?_ | refine gA ?_ | refine gB ?_)
    refine S.prune [1, 3, 6, 11, 12] ?_
    refine S.gx [2] ?_
    repeat refine gA ?_
    refine ⟨?_, ?_⟩ <;> intro hc
    ·have hr := ifP hr hc
     repeat refine gA ?_
     cases hr
     exact lf
    ·have hr := ifN hr hc
     repeat refine gA ?_
     refine S.lp ?_
     refine S.gx [2, 6] ?_
     obtain ⟨v17, hv17, hr⟩ := of_bind0 hr
     obtain ⟨hg34, hr⟩ := of_guard0 hr
     obtain ⟨v18, hv18, hr⟩ := of_bind0 hr
     obtain ⟨v19, hv19, hr⟩ := of_bind0 hr
     obtain ⟨v20, hv20, hr⟩ := of_bind0 hr
     try simp only [hv17, hv18, hv19, hv20, Option.getD_some, Option.isSome_some, true_and, and_assoc]
     repeat (first | refine gG hg34 ?_ | refine gA ?_ | refine gB ?_)
     refine S.prune [1, 3, 6, 11, 12] ?_
     refine S.gx [2] ?_
     repeat refine gA ?_
     refine ⟨?_, ?_⟩ <;> intro hc
     ·have hr := ifP hr hc
      repeat refine gA ?_
      cases hr
      exact lf
     ·have hr := ifN hr hc
      repeat refine gA ?_
      refine S.lp ?_
      refine S.gx [2, 6] ?_
      obtain ⟨v21, hv21, hr⟩ := of_bind0 hr
      obtain ⟨hg33, hr⟩ := of_guard0 hr
      obtain ⟨v22, hv22, hr⟩ := of_bind0 hr
      obtain ⟨v23, hv23, hr⟩ := of_bind0 hr
      obtain ⟨v24, hv24, hr⟩ := of_bind0 hr
      try simp only [hv21, hv22, hv23, hv24, Option.getD_some, Option.isSome_some, true_and, and_assoc]
      repeat (first | refine gG hg33 ?_ | refine gA ?_ | refine gB ?_)
      refine S.prune [1, 3, 6, 11, 12] ?_
      refine S.gx [2] ?_
      repeat refine gA ?_
      refine ⟨?_, ?_⟩ <;> intro hc
      ·have hr := ifP hr hc
       repeat refine gA ?_
       cases hr
       exact lf
      ·have hr := ifN hr hc
       repeat refine gA ?_
       refine S.lp ?_
       refine S.gx [2, 6] ?_
       obtain ⟨v25, hv25, hr⟩ := of_bind0 hr
       obtain ⟨hg32, hr⟩ := of_guard0 hr
       obtain ⟨v26, hv26, hr⟩ := of_bind0 hr
       obtain ⟨v27, hv27, hr⟩ := of_bind0 hr
       obtain ⟨v28, hv28, hr⟩ := of_bind0 hr
       try simp only [hv25, hv26, hv27, hv28, Option.getD_some, Option.isSome_some, true_and, and_assoc]
       repeat (first | refine gG hg32 ?_ | refine gA ?_ | refine gB ?_)
       refine S.prune [1, 3, 6, 11, 12] ?_
       refine S.gx [2] ?_
       repeat refine gA ?_
       refine ⟨?_, ?_⟩ <;> intro hc
       ·have hr := ifP hr hc
        repeat refine gA ?_
        cases hr
        exact lf
       ·have hr := ifN hr hc
        repeat refine gA ?_
        refine S.lp ?_
        refine S.gx [2, 6] ?_
        obtain ⟨v29, hv29, hr⟩ := of_bind0 hr
        try simp only [hv29, oG, oI, true_and, and_assoc]
        repeat refine gA ?_
        refine S.lp ?_
        refine S.gx [2, 6] ?_
        repeat refine gA ?_
        refine S.lp ?_
        refine S.gx [2, 6] ?_
        repeat refine gA ?_
        refine S.lp ?_
        refine S.gx [2, 6] ?_
        repeat refine gA ?_
        refine S.lp ?_
        refine S.gx [2, 6] ?_
        repeat refine gA ?_
        refine S.lp ?_
        refine S.gx [2, 6] ?_
        obtain ⟨v30, hv30, hr⟩ := of_bind0 hr
        obtain ⟨v31, hv31, hr⟩ := of_bind0 hr
        try simp only [hv30, hv31, Option.getD_some, Option.isSome_some, true_and, and_assoc]
        repeat refine gA ?_
        cases hr
        exact lf
theorem f33 : FnFact Tryz.prog 33 T33.sp := ⟨⟨Tryz.f33, Tryz.func33, by decide, rfl⟩, v33⟩
end

/- martensite/steel.filled -/
def b95_2 (x0 : Int) (x4 : Int) (x1 : Int) (x5 : Int) (x2 : Int) (x6 : Int) (x3 : Int) (x7 : Int) (x8 : Int) (x9 : Int) (x10 : Int) (x11 : Int) : (Int × Int × Int × Int × Int × Int × Int) → Ctl (Int × Int × Int × Int × Int × Int × Int) (Int) := fun s2 =>
  if (decide (s2.2.2.2.2.2.2 < 4)) = true then
   if s2.2.2.2.2.2.2 = 0 then
    if s2.2.2.1 = 0 then
     .next (IntKind.i64.wrap (s2.1 - (if IntKind.i64.wrap (x4 - x0) < s2.1 then IntKind.i64.wrap (x4 - x0) else s2.1)), IntKind.i64.wrap (s2.2.1 + (IntKind.i64.wrap ((if IntKind.i64.wrap (x4 - x0) < s2.1 then IntKind.i64.wrap (x4 - x0) else s2.1) * x8))), 0, s2.2.2.2.1, s2.2.2.2.2.1, s2.2.2.2.2.2.1, IntKind.i64.wrap (0 + 1))
     else if s2.2.2.1 = 1 then
      .next (IntKind.i64.wrap (s2.1 - (if IntKind.i64.wrap (x5 - x1) < s2.1 then IntKind.i64.wrap (x5 - x1) else s2.1)), IntKind.i64.wrap (s2.2.1 + (IntKind.i64.wrap ((if IntKind.i64.wrap (x5 - x1) < s2.1 then IntKind.i64.wrap (x5 - x1) else s2.1) * x9))), 1, s2.2.2.2.1, s2.2.2.2.2.1, s2.2.2.2.2.2.1, IntKind.i64.wrap (0 + 1))
      else if s2.2.2.1 = 2 then
       .next (IntKind.i64.wrap (s2.1 - (if IntKind.i64.wrap (x6 - x2) < s2.1 then IntKind.i64.wrap (x6 - x2) else s2.1)), IntKind.i64.wrap (s2.2.1 + (IntKind.i64.wrap ((if IntKind.i64.wrap (x6 - x2) < s2.1 then IntKind.i64.wrap (x6 - x2) else s2.1) * x10))), 2, s2.2.2.2.1, s2.2.2.2.2.1, s2.2.2.2.2.2.1, IntKind.i64.wrap (0 + 1))
       else if s2.2.2.1 = 3 then
        .next (IntKind.i64.wrap (s2.1 - (if IntKind.i64.wrap (x7 - x3) < s2.1 then IntKind.i64.wrap (x7 - x3) else s2.1)), IntKind.i64.wrap (s2.2.1 + (IntKind.i64.wrap ((if IntKind.i64.wrap (x7 - x3) < s2.1 then IntKind.i64.wrap (x7 - x3) else s2.1) * x11))), 3, s2.2.2.2.1, s2.2.2.2.2.1, s2.2.2.2.2.2.1, IntKind.i64.wrap (0 + 1))
        else .out none
    else if s2.2.2.2.2.2.2 = 1 then
     if s2.2.2.2.1 = 0 then
      .next (IntKind.i64.wrap (s2.1 - (if IntKind.i64.wrap (x4 - x0) < s2.1 then IntKind.i64.wrap (x4 - x0) else s2.1)), IntKind.i64.wrap (s2.2.1 + (IntKind.i64.wrap ((if IntKind.i64.wrap (x4 - x0) < s2.1 then IntKind.i64.wrap (x4 - x0) else s2.1) * x8))), s2.2.2.1, 0, s2.2.2.2.2.1, s2.2.2.2.2.2.1, IntKind.i64.wrap (1 + 1))
      else if s2.2.2.2.1 = 1 then
       .next (IntKind.i64.wrap (s2.1 - (if IntKind.i64.wrap (x5 - x1) < s2.1 then IntKind.i64.wrap (x5 - x1) else s2.1)), IntKind.i64.wrap (s2.2.1 + (IntKind.i64.wrap ((if IntKind.i64.wrap (x5 - x1) < s2.1 then IntKind.i64.wrap (x5 - x1) else s2.1) * x9))), s2.2.2.1, 1, s2.2.2.2.2.1, s2.2.2.2.2.2.1, IntKind.i64.wrap (1 + 1))
       else if s2.2.2.2.1 = 2 then
        .next (IntKind.i64.wrap (s2.1 - (if IntKind.i64.wrap (x6 - x2) < s2.1 then IntKind.i64.wrap (x6 - x2) else s2.1)), IntKind.i64.wrap (s2.2.1 + (IntKind.i64.wrap ((if IntKind.i64.wrap (x6 - x2) < s2.1 then IntKind.i64.wrap (x6 - x2) else s2.1) * x10))), s2.2.2.1, 2, s2.2.2.2.2.1, s2.2.2.2.2.2.1, IntKind.i64.wrap (1 + 1))
        else if s2.2.2.2.1 = 3 then
         .next (IntKind.i64.wrap (s2.1 - (if IntKind.i64.wrap (x7 - x3) < s2.1 then IntKind.i64.wrap (x7 - x3) else s2.1)), IntKind.i64.wrap (s2.2.1 + (IntKind.i64.wrap ((if IntKind.i64.wrap (x7 - x3) < s2.1 then IntKind.i64.wrap (x7 - x3) else s2.1) * x11))), s2.2.2.1, 3, s2.2.2.2.2.1, s2.2.2.2.2.2.1, IntKind.i64.wrap (1 + 1))
         else .out none
     else if s2.2.2.2.2.2.2 = 2 then
      if s2.2.2.2.2.1 = 0 then
       .next (IntKind.i64.wrap (s2.1 - (if IntKind.i64.wrap (x4 - x0) < s2.1 then IntKind.i64.wrap (x4 - x0) else s2.1)), IntKind.i64.wrap (s2.2.1 + (IntKind.i64.wrap ((if IntKind.i64.wrap (x4 - x0) < s2.1 then IntKind.i64.wrap (x4 - x0) else s2.1) * x8))), s2.2.2.1, s2.2.2.2.1, 0, s2.2.2.2.2.2.1, IntKind.i64.wrap (2 + 1))
       else if s2.2.2.2.2.1 = 1 then
        .next (IntKind.i64.wrap (s2.1 - (if IntKind.i64.wrap (x5 - x1) < s2.1 then IntKind.i64.wrap (x5 - x1) else s2.1)), IntKind.i64.wrap (s2.2.1 + (IntKind.i64.wrap ((if IntKind.i64.wrap (x5 - x1) < s2.1 then IntKind.i64.wrap (x5 - x1) else s2.1) * x9))), s2.2.2.1, s2.2.2.2.1, 1, s2.2.2.2.2.2.1, IntKind.i64.wrap (2 + 1))
        else if s2.2.2.2.2.1 = 2 then
         .next (IntKind.i64.wrap (s2.1 - (if IntKind.i64.wrap (x6 - x2) < s2.1 then IntKind.i64.wrap (x6 - x2) else s2.1)), IntKind.i64.wrap (s2.2.1 + (IntKind.i64.wrap ((if IntKind.i64.wrap (x6 - x2) < s2.1 then IntKind.i64.wrap (x6 - x2) else s2.1) * x10))), s2.2.2.1, s2.2.2.2.1, 2, s2.2.2.2.2.2.1, IntKind.i64.wrap (2 + 1))
         else if s2.2.2.2.2.1 = 3 then
          .next (IntKind.i64.wrap (s2.1 - (if IntKind.i64.wrap (x7 - x3) < s2.1 then IntKind.i64.wrap (x7 - x3) else s2.1)), IntKind.i64.wrap (s2.2.1 + (IntKind.i64.wrap ((if IntKind.i64.wrap (x7 - x3) < s2.1 then IntKind.i64.wrap (x7 - x3) else s2.1) * x11))), s2.2.2.1, s2.2.2.2.1, 3, s2.2.2.2.2.2.1, IntKind.i64.wrap (2 + 1))
          else .out none
      else if s2.2.2.2.2.2.2 = 3 then
       if s2.2.2.2.2.2.1 = 0 then
        .next (IntKind.i64.wrap (s2.1 - (if IntKind.i64.wrap (x4 - x0) < s2.1 then IntKind.i64.wrap (x4 - x0) else s2.1)), IntKind.i64.wrap (s2.2.1 + (IntKind.i64.wrap ((if IntKind.i64.wrap (x4 - x0) < s2.1 then IntKind.i64.wrap (x4 - x0) else s2.1) * x8))), s2.2.2.1, s2.2.2.2.1, s2.2.2.2.2.1, 0, IntKind.i64.wrap (3 + 1))
        else if s2.2.2.2.2.2.1 = 1 then
         .next (IntKind.i64.wrap (s2.1 - (if IntKind.i64.wrap (x5 - x1) < s2.1 then IntKind.i64.wrap (x5 - x1) else s2.1)), IntKind.i64.wrap (s2.2.1 + (IntKind.i64.wrap ((if IntKind.i64.wrap (x5 - x1) < s2.1 then IntKind.i64.wrap (x5 - x1) else s2.1) * x9))), s2.2.2.1, s2.2.2.2.1, s2.2.2.2.2.1, 1, IntKind.i64.wrap (3 + 1))
         else if s2.2.2.2.2.2.1 = 2 then
          .next (IntKind.i64.wrap (s2.1 - (if IntKind.i64.wrap (x6 - x2) < s2.1 then IntKind.i64.wrap (x6 - x2) else s2.1)), IntKind.i64.wrap (s2.2.1 + (IntKind.i64.wrap ((if IntKind.i64.wrap (x6 - x2) < s2.1 then IntKind.i64.wrap (x6 - x2) else s2.1) * x10))), s2.2.2.1, s2.2.2.2.1, s2.2.2.2.2.1, 2, IntKind.i64.wrap (3 + 1))
          else if s2.2.2.2.2.2.1 = 3 then
           .next (IntKind.i64.wrap (s2.1 - (if IntKind.i64.wrap (x7 - x3) < s2.1 then IntKind.i64.wrap (x7 - x3) else s2.1)), IntKind.i64.wrap (s2.2.1 + (IntKind.i64.wrap ((if IntKind.i64.wrap (x7 - x3) < s2.1 then IntKind.i64.wrap (x7 - x3) else s2.1) * x11))), s2.2.2.1, s2.2.2.2.1, s2.2.2.2.2.1, 3, IntKind.i64.wrap (3 + 1))
           else .out none
       else .out none
   else .out (some (IntKind.i64.wrap (s2.2.1.tdiv 1000000)))
def b95_1 (x0 : Int) (x4 : Int) (x1 : Int) (x5 : Int) (x2 : Int) (x6 : Int) (x3 : Int) (x7 : Int) (x8 : Int) (x9 : Int) (x10 : Int) (x11 : Int) (x12 : Int) (x13 : Int) (x14 : Int) (x15 : Int) : (Int × Int × Int) → Ctl (Int × Int × Int) (Int) := fun s1 =>
  if (decide (s1.2.2 < 4)) = true then
   if s1.2.2 = 0 then
    .next (IntKind.i64.wrap (s1.1 - x0), IntKind.i64.wrap (s1.2.1 + (IntKind.i64.wrap (x0 * x8))), IntKind.i64.wrap (0 + 1))
    else if s1.2.2 = 1 then
     .next (IntKind.i64.wrap (s1.1 - x1), IntKind.i64.wrap (s1.2.1 + (IntKind.i64.wrap (x1 * x9))), IntKind.i64.wrap (1 + 1))
     else if s1.2.2 = 2 then
      .next (IntKind.i64.wrap (s1.1 - x2), IntKind.i64.wrap (s1.2.1 + (IntKind.i64.wrap (x2 * x10))), IntKind.i64.wrap (2 + 1))
      else if s1.2.2 = 3 then
       .next (IntKind.i64.wrap (s1.1 - x3), IntKind.i64.wrap (s1.2.1 + (IntKind.i64.wrap (x3 * x11))), IntKind.i64.wrap (3 + 1))
       else .out none
   else .out (iterC (b95_2 x0 x4 x1 x5 x2 x6 x3 x7 x8 x9 x10 x11) 1000000000 (s1.1, s1.2.1, x12, x13, x14, x15, 0))
def r95 (x0 : Int) (x4 : Int) (x1 : Int) (x5 : Int) (x2 : Int) (x6 : Int) (x3 : Int) (x7 : Int) (x8 : Int) (x9 : Int) (x10 : Int) (x11 : Int) (x12 : Int) (x13 : Int) (x14 : Int) (x15 : Int) : Option (Int) :=
  iterC (b95_1 x0 x4 x1 x5 x2 x6 x3 x7 x8 x9 x10 x11 x12 x13 x14 x15) 1000000000 (1000000, 0, 0)
def T95 : TSpec qA26 := mkT qE26 qd26 (fun ⟨x0, x4, x1, x5, x2, x6, x3, x7, x8, x9, x10, x11, x12, x13, x14, x15⟩ => r95 x0 x4 x1 x5 x2 x6 x3 x7 x8 x9 x10 x11 x12 x13 x14 x15) qu4 false
theorem TP95 (c0 c1 c2 c3 c4 c5 c6 c7 c8 c9 c10 c11 c12 c13 c14 c15 : D) : T95.sp.pre [.agg [c0, c1, c2, c3, c4, c5, c6, c7], .agg [c8, c9, c10, c11], .agg [c12, c13, c14, c15]] = (eqvArgs (qt26 c0 c1 c2 c3 c4 c5 c6 c7 c8 c9 c10 c11 c12 c13 c14 c15) (qp26 qw26 c0 c1 c2 c3 c4 c5 c6 c7 c8 c9 c10 c11 c12 c13 c14 c15) ∧ (qp26 r95 c0 c1 c2 c3 c4 c5 c6 c7 c8 c9 c10 c11 c12 c13 c14 c15).isSome = true) := (rfl)
theorem TR95 (c0 c1 c2 c3 c4 c5 c6 c7 c8 c9 c10 c11 c12 c13 c14 c15 : D) : T95.sp.res [.agg [c0, c1, c2, c3, c4, c5, c6, c7], .agg [c8, c9, c10, c11], .agg [c12, c13, c14, c15]] = qu4 ((qp26 r95 c0 c1 c2 c3 c4 c5 c6 c7 c8 c9 c10 c11 c12 c13 c14 c15).getD default) := (rfl)
theorem TA95 : T95.sp.alias = false := (rfl)
def tb95 : Fns := lk []
theorem tb95_ok : FnsOk Tryz.prog tb95 := FnsOk.nil
theorem lt95_0 : (((3 : Int) = 0 ∨ (0 : Int) < 3)) = True := by first | rfl | decide | simp
theorem lt95_1 : (((2 : Int) = 0 ∨ (0 : Int) < 2)) = True := by first | rfl | decide | simp
theorem lt95_2 : (((1 : Int) = 0 ∨ (0 : Int) < 1)) = True := by first | rfl | decide | simp
attribute [go_sem] TP95 TR95 TA95
section
attribute [local go_sem] T95 Tryz.results95 lt95_0 lt95_1 lt95_2
theorem v95 : Valid Tryz.prog 95 T95.sp := by
 refine valid_t (fn := Tryz.f95) (n := 60) ty_ok tb95_ok Tryz.func95 rfl Tryz.ntmps95 ?_
 rintro ⟨x0, x4, x1, x5, x2, x6, x3, x7, x8, x9, x10, x11, x12, x13, x14, x15⟩ hx
 obtain ⟨r, hr⟩ := oE (show (r95 x0 x4 x1 x5 x2 x6 x3 x7 x8 x9 x10 x11 x12 x13 x14 x15).isSome = true from hx)
 have hres : T95.res (x0, x4, x1, x5, x2, x6, x3, x7, x8, x9, x10, x11, x12, x13, x14, x15) = qu4 r := by simp only [T95, mkT, hr, oG]
 refine ⟨nL rfl, fun stop S => ?_⟩
 rw [hres] at S
 unfold r95 at hr
 refine S.gx [4, 10, 11] ?_
 repeat refine gA ?_
 refine S.sees [3, 4, 5, 7, 8, 14, 15] [(3, 3), (4, 4), (5, 5)] [] ?_ (Stop.iter S (fun s1 => ⟨[(3, .c (.ref 3 0)), (4, .c (.ref 4 0)), (5, .c (.ref 5 0)), (7, .c (.d (.int .i64 s1.1))), (8, .c (.d (.int .i64 s1.2.1))), (14, .agg [.d (.int .i64 x0), .d (.int .i64 x4), .d (.int .i64 x1), .d (.int .i64 x5), .d (.int .i64 x2), .d (.int .i64 x6), .d (.int .i64 x3), .d (.int .i64 x7)]), (15, .c (.d (.int .i64 s1.2.2)))], [(3, [.d (.int .i64 x0), .d (.int .i64 x4), .d (.int .i64 x1), .d (.int .i64 x5), .d (.int .i64 x2), .d (.int .i64 x6), .d (.int .i64 x3), .d (.int .i64 x7)]), (4, [.d (.int .i64 x8), .d (.int .i64 x9), .d (.int .i64 x10), .d (.int .i64 x11)]), (5, [.d (.int .i64 x12), .d (.int .i64 x13), .d (.int .i64 x14), .d (.int .i64 x15)])], []⟩) (b95_1 x0 x4 x1 x5 x2 x6 x3 x7 x8 x9 x10 x11 x12 x13 x14 x15) (fun q => q = r) hr rfl ?_)
 ·exact lf
 ·intro s1 hr
  unfold b95_1 at hr
  refine S.gx [4, 10, 11] ?_
  repeat refine gA ?_
  refine ⟨?_, ?_⟩ <;> intro hc
  ·have hr := ifP1 hr hc
   repeat refine gA ?_
   by_cases hs4 : s1.2.2 = 0
   ·rw [if_pos hs4] at hr
    simp only [hs4]
    refine S.gx [10, 11] ?_
    repeat refine gA ?_
    refine S.sees [3, 4, 5, 7, 8, 14, 15] [(3, 3), (4, 4), (5, 5)] [] ?_ hr
    exact lf
   ·rw [if_neg hs4] at hr
    by_cases hs3 : s1.2.2 = 1
    ·rw [if_pos hs3] at hr
     simp only [hs3]
     refine S.gx [10, 11] ?_
     repeat refine gA ?_
     refine S.sees [3, 4, 5, 7, 8, 14, 15] [(3, 3), (4, 4), (5, 5)] [] ?_ hr
     exact lf
    ·rw [if_neg hs3] at hr
     by_cases hs2 : s1.2.2 = 2
     ·rw [if_pos hs2] at hr
      simp only [hs2]
      refine S.gx [10, 11] ?_
      repeat refine gA ?_
      refine S.sees [3, 4, 5, 7, 8, 14, 15] [(3, 3), (4, 4), (5, 5)] [] ?_ hr
      exact lf
     ·rw [if_neg hs2] at hr
      by_cases hs1 : s1.2.2 = 3
      ·rw [if_pos hs1] at hr
       simp only [hs1]
       refine S.gx [10, 11] ?_
       repeat refine gA ?_
       refine S.sees [3, 4, 5, 7, 8, 14, 15] [(3, 3), (4, 4), (5, 5)] [] ?_ hr
       exact lf
      ·rw [if_neg hs1] at hr
       first | cases hr | exact hr.elim
  ·have hr := ifN1 hr hc
   repeat refine gA ?_
   have hr := of_out0 hr
   repeat refine gA ?_
   refine S.sees [3, 4, 7, 8, 32, 33] [(3, 3), (4, 4)] [] ?_ (Stop.iter S (fun s2 => ⟨[(3, .c (.ref 3 0)), (4, .c (.ref 4 0)), (7, .c (.d (.int .i64 s2.1))), (8, .c (.d (.int .i64 s2.2.1))), (32, .agg [.d (.int .i64 s2.2.2.1), .d (.int .i64 s2.2.2.2.1), .d (.int .i64 s2.2.2.2.2.1), .d (.int .i64 s2.2.2.2.2.2.1)]), (33, .c (.d (.int .i64 s2.2.2.2.2.2.2)))], [(3, [.d (.int .i64 x0), .d (.int .i64 x4), .d (.int .i64 x1), .d (.int .i64 x5), .d (.int .i64 x2), .d (.int .i64 x6), .d (.int .i64 x3), .d (.int .i64 x7)]), (4, [.d (.int .i64 x8), .d (.int .i64 x9), .d (.int .i64 x10), .d (.int .i64 x11)])], []⟩) (b95_2 x0 x4 x1 x5 x2 x6 x3 x7 x8 x9 x10 x11) (fun q => q = r) hr rfl ?_)
   ·exact lf
   ·intro s2 hr
    unfold b95_2 at hr
    refine S.gx [4, 10, 11] ?_
    repeat refine gA ?_
    refine ⟨?_, ?_⟩ <;> intro hc
    ·have hr := ifP1 hr hc
     repeat refine gA ?_
     by_cases hs20 : s2.2.2.2.2.2.2 = 0
     ·rw [if_pos hs20] at hr
      simp only [hs20]
      refine S.gx [4, 11] ?_
      repeat refine gA ?_
      by_cases hs24 : s2.2.2.1 = 0
      ·rw [if_pos hs24] at hr
       simp only [hs24]
       refine S.gx [4, 10] ?_
       repeat refine gA ?_
       refine S.sees [3, 4, 7, 8, 32, 33] [(3, 3), (4, 4)] [] ?_ hr
       exact lf
      ·rw [if_neg hs24] at hr
       by_cases hs23 : s2.2.2.1 = 1
       ·rw [if_pos hs23] at hr
        simp only [hs23]
        refine S.gx [4, 10] ?_
        repeat refine gA ?_
        refine S.sees [3, 4, 7, 8, 32, 33] [(3, 3), (4, 4)] [] ?_ hr
        exact lf
       ·rw [if_neg hs23] at hr
        by_cases hs22 : s2.2.2.1 = 2
        ·rw [if_pos hs22] at hr
         simp only [hs22]
         refine S.gx [4, 10] ?_
         repeat refine gA ?_
         refine S.sees [3, 4, 7, 8, 32, 33] [(3, 3), (4, 4)] [] ?_ hr
         exact lf
        ·rw [if_neg hs22] at hr
         by_cases hs21 : s2.2.2.1 = 3
         ·rw [if_pos hs21] at hr
          simp only [hs21]
          refine S.gx [4, 10] ?_
          repeat refine gA ?_
          refine S.sees [3, 4, 7, 8, 32, 33] [(3, 3), (4, 4)] [] ?_ hr
          exact lf
         ·rw [if_neg hs21] at hr
          first | cases hr | exact hr.elim
     ·rw [if_neg hs20] at hr
      by_cases hs15 : s2.2.2.2.2.2.2 = 1
      ·rw [if_pos hs15] at hr
       simp only [hs15]
       refine S.gx [4, 11] ?_
       repeat refine gA ?_
       by_cases hs19 : s2.2.2.2.1 = 0
       ·rw [if_pos hs19] at hr
        simp only [hs19]
        refine S.gx [4, 10] ?_
        repeat refine gA ?_
        refine S.sees [3, 4, 7, 8, 32, 33] [(3, 3), (4, 4)] [] ?_ hr
        exact lf
       ·rw [if_neg hs19] at hr
        by_cases hs18 : s2.2.2.2.1 = 1
        ·rw [if_pos hs18] at hr
         simp only [hs18]
         refine S.gx [4, 10] ?_
         repeat refine gA ?_
         refine S.sees [3, 4, 7, 8, 32, 33] [(3, 3), (4, 4)] [] ?_ hr
         exact lf
        ·rw [if_neg hs18] at hr
         by_cases hs17 : s2.2.2.2.1 = 2
         ·rw [if_pos hs17] at hr
          simp only [hs17]
          refine S.gx [4, 10] ?_
          repeat refine gA ?_
          refine S.sees [3, 4, 7, 8, 32, 33] [(3, 3), (4, 4)] [] ?_ hr
          exact lf
         ·rw [if_neg hs17] at hr
          by_cases hs16 : s2.2.2.2.1 = 3
          ·rw [if_pos hs16] at hr
           simp only [hs16]
           refine S.gx [4, 10] ?_
           repeat refine gA ?_
           refine S.sees [3, 4, 7, 8, 32, 33] [(3, 3), (4, 4)] [] ?_ hr
           exact lf
          ·rw [if_neg hs16] at hr
           first | cases hr | exact hr.elim
      ·rw [if_neg hs15] at hr
       by_cases hs10 : s2.2.2.2.2.2.2 = 2
       ·rw [if_pos hs10] at hr
        simp only [hs10]
        refine S.gx [4, 11] ?_
        repeat refine gA ?_
        by_cases hs14 : s2.2.2.2.2.1 = 0
        ·rw [if_pos hs14] at hr
         simp only [hs14]
         refine S.gx [4, 10] ?_
         repeat refine gA ?_
         refine S.sees [3, 4, 7, 8, 32, 33] [(3, 3), (4, 4)] [] ?_ hr
         exact lf
        ·rw [if_neg hs14] at hr
         by_cases hs13 : s2.2.2.2.2.1 = 1
         ·rw [if_pos hs13] at hr
          simp only [hs13]
          refine S.gx [4, 10] ?_
          repeat refine gA ?_
          refine S.sees [3, 4, 7, 8, 32, 33] [(3, 3), (4, 4)] [] ?_ hr
          exact lf
         ·rw [if_neg hs13] at hr
          by_cases hs12 : s2.2.2.2.2.1 = 2
          ·rw [if_pos hs12] at hr
           simp only [hs12]
           refine S.gx [4, 10] ?_
           repeat refine gA ?_
           refine S.sees [3, 4, 7, 8, 32, 33] [(3, 3), (4, 4)] [] ?_ hr
           exact lf
          ·rw [if_neg hs12] at hr
           by_cases hs11 : s2.2.2.2.2.1 = 3
           ·rw [if_pos hs11] at hr
            simp only [hs11]
            refine S.gx [4, 10] ?_
            repeat refine gA ?_
            refine S.sees [3, 4, 7, 8, 32, 33] [(3, 3), (4, 4)] [] ?_ hr
            exact lf
           ·rw [if_neg hs11] at hr
            first | cases hr | exact hr.elim
       ·rw [if_neg hs10] at hr
        by_cases hs5 : s2.2.2.2.2.2.2 = 3
        ·rw [if_pos hs5] at hr
         simp only [hs5]
         refine S.gx [4, 11] ?_
         repeat refine gA ?_
         by_cases hs9 : s2.2.2.2.2.2.1 = 0
         ·rw [if_pos hs9] at hr
          simp only [hs9]
          refine S.gx [4, 10] ?_
          repeat refine gA ?_
          refine S.sees [3, 4, 7, 8, 32, 33] [(3, 3), (4, 4)] [] ?_ hr
          exact lf
         ·rw [if_neg hs9] at hr
          by_cases hs8 : s2.2.2.2.2.2.1 = 1
          ·rw [if_pos hs8] at hr
           simp only [hs8]
           refine S.gx [4, 10] ?_
           repeat refine gA ?_
           refine S.sees [3, 4, 7, 8, 32, 33] [(3, 3), (4, 4)] [] ?_ hr
           exact lf
          ·rw [if_neg hs8] at hr
           by_cases hs7 : s2.2.2.2.2.2.1 = 2
           ·rw [if_pos hs7] at hr
            simp only [hs7]
            refine S.gx [4, 10] ?_
            repeat refine gA ?_
            refine S.sees [3, 4, 7, 8, 32, 33] [(3, 3), (4, 4)] [] ?_ hr
            exact lf
           ·rw [if_neg hs7] at hr
            by_cases hs6 : s2.2.2.2.2.2.1 = 3
            ·rw [if_pos hs6] at hr
             simp only [hs6]
             refine S.gx [4, 10] ?_
             repeat refine gA ?_
             refine S.sees [3, 4, 7, 8, 32, 33] [(3, 3), (4, 4)] [] ?_ hr
             exact lf
            ·rw [if_neg hs6] at hr
             first | cases hr | exact hr.elim
        ·rw [if_neg hs5] at hr
         first | cases hr | exact hr.elim
    ·have hr := ifN1 hr hc
     repeat refine gA ?_
     have hr := of_out0 hr
     repeat refine gA ?_
     cases hr
     exact lf
theorem f95 : FnFact Tryz.prog 95 T95.sp := ⟨⟨Tryz.f95, Tryz.func95, by decide, rfl⟩, v95⟩
end

/- (martensite/steel.rules).band -/
def r53 (x0 : List (Int × Int × Int × Int)) (x1 : List (Int × Int × Int × Int × Int)) (x2 : List (Int × Int × Int)) (x3 : List (Int × Int)) (x4 : Int) (x5 : Int) (x6 : Int) (x7 : Int) (x10 : Int) (x11 : Int) (x12 : Int) (x13 : Int) (x14 : Int) (x15 : Int) (x16 : Int) (x17 : Int) (x18 : Int) (x19 : Int) (x20 : Int) (x21 : Int) (x8 : Int) (x9 : Int) : Option (Int × Int) :=
  (r67 x10 x11 x12 x13 x14 x15 x16 x17 x18 x19 x20 x21 x8 x9).bind fun v1 =>
   (r74 x0 x1 x2 x3 x4 x5 x6 x7 x9).bind fun v2 =>
    (r95 v1.1 v1.2.1 v1.2.2.1 v1.2.2.2.1 v1.2.2.2.2.1 v1.2.2.2.2.2.1 v1.2.2.2.2.2.2.1 v1.2.2.2.2.2.2.2 v2.1 v2.2.1 v2.2.2.1 v2.2.2.2 0 1 2 3).bind fun v3 =>
     (r74 x0 x1 x2 x3 x4 x5 x6 x7 x8).bind fun v4 =>
      (r95 v1.1 v1.2.1 v1.2.2.1 v1.2.2.2.1 v1.2.2.2.2.1 v1.2.2.2.2.2.1 v1.2.2.2.2.2.2.1 v1.2.2.2.2.2.2.2 v4.1 v4.2.1 v4.2.2.1 v4.2.2.2 3 2 1 0).bind fun v5 =>
       some (v3, v5)
def T53 : TSpec qA27 := mkT qE27 qd27 (fun ⟨x0, x1, x2, x3, x4, x5, x6, x7, x10, x11, x12, x13, x14, x15, x16, x17, x18, x19, x20, x21, x8, x9⟩ => r53 x0 x1 x2 x3 x4 x5 x6 x7 x10 x11 x12 x13 x14 x15 x16 x17 x18 x19 x20 x21 x8 x9) qu13 false
theorem TP53 (c0 c1 c2 c3 c4 c5 c6 c7 c8 c9 c10 c11 c12 c13 c14 c15 c16 c17 c18 c19 c20 c21 : D) : T53.sp.pre [.agg [c0, c1, c2, c3, c4, c5, c6, c7], .agg [c8, c9, c10, c11, c12, c13, c14, c15, c16, c17, c18, c19, c20, c21]] = (eqvArgs (qt27 c0 c1 c2 c3 c4 c5 c6 c7 c8 c9 c10 c11 c12 c13 c14 c15 c16 c17 c18 c19 c20 c21) (qp27 qw27 c0 c1 c2 c3 c4 c5 c6 c7 c8 c9 c10 c11 c12 c13 c14 c15 c16 c17 c18 c19 c20 c21) ∧ (qp27 r53 c0 c1 c2 c3 c4 c5 c6 c7 c8 c9 c10 c11 c12 c13 c14 c15 c16 c17 c18 c19 c20 c21).isSome = true) := (rfl)
theorem TR53 (c0 c1 c2 c3 c4 c5 c6 c7 c8 c9 c10 c11 c12 c13 c14 c15 c16 c17 c18 c19 c20 c21 : D) : T53.sp.res [.agg [c0, c1, c2, c3, c4, c5, c6, c7], .agg [c8, c9, c10, c11, c12, c13, c14, c15, c16, c17, c18, c19, c20, c21]] = qu13 ((qp27 r53 c0 c1 c2 c3 c4 c5 c6 c7 c8 c9 c10 c11 c12 c13 c14 c15 c16 c17 c18 c19 c20 c21).getD default) := (rfl)
theorem TA53 : T53.sp.alias = false := (rfl)
def tb53 : Fns := lk [(67, T67.sp), (74, T74.sp), (95, T95.sp)]
theorem tb53_ok : FnsOk Tryz.prog tb53 := .cons f67 (.cons f74 (.cons f95 (FnsOk.nil)))
theorem tb53_67 : tb53 67 = some T67.sp := rfl
theorem tb53_74 : tb53 74 = some T74.sp := rfl
theorem tb53_95 : tb53 95 = some T95.sp := rfl
attribute [go_sem] TP53 TR53 TA53
section
attribute [local go_sem] T53 tb53_67 tb53_74 tb53_95 Tryz.results53
theorem v53 : Valid Tryz.prog 53 T53.sp := by
 refine valid_t (fn := Tryz.f53) (n := 28) ty_ok tb53_ok Tryz.func53 rfl Tryz.ntmps53 ?_
 rintro ⟨x0, x1, x2, x3, x4, x5, x6, x7, x10, x11, x12, x13, x14, x15, x16, x17, x18, x19, x20, x21, x8, x9⟩ hx
 obtain ⟨r, hr⟩ := oE (show (r53 x0 x1 x2 x3 x4 x5 x6 x7 x10 x11 x12 x13 x14 x15 x16 x17 x18 x19 x20 x21 x8 x9).isSome = true from hx)
 have hres : T53.res (x0, x1, x2, x3, x4, x5, x6, x7, x10, x11, x12, x13, x14, x15, x16, x17, x18, x19, x20, x21, x8, x9) = qu13 r := by simp only [T53, mkT, hr, oG]
 refine ⟨nL rfl, fun stop S => ?_⟩
 rw [hres] at S
 unfold r53 at hr
 refine S.gx [] ?_
 obtain ⟨v1, hv1, hr⟩ := of_bind0 hr
 obtain ⟨v2, hv2, hr⟩ := of_bind0 hr
 obtain ⟨v3, hv3, hr⟩ := of_bind0 hr
 obtain ⟨v4, hv4, hr⟩ := of_bind0 hr
 obtain ⟨v5, hv5, hr⟩ := of_bind0 hr
 try simp only [hv1, hv2, hv3, hv4, hv5, Option.getD_some, Option.isSome_some, true_and, and_assoc]
 repeat refine gA ?_
 cases hr
 exact lf
theorem f53 : FnFact Tryz.prog 53 T53.sp := ⟨⟨Tryz.f53, Tryz.func53, by decide, rfl⟩, v53⟩
end
end Go.Proofs.YtfkmbdfajpdjjaaGreatDoor

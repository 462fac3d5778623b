/- Contracts of functions, written by wip/dec. -/
import Derived.Test.YtfmjhllkheapeaaF00
set_option linter.unusedVariables false
set_option linter.unusedSimpArgs false
set_option maxHeartbeats 4000000
set_option maxRecDepth 20000
namespace Go.Proofs.Ytfmjhllkheapeaa
open Go.Abs
abbrev qA1 := Bool × Int
def qw1 (a0 : Bool) (a1 : Int) : List Arg := [.c (.bool a0), .c (.int .i64 a1)]
def qE1 : qA1 → List Arg := fun ⟨a0, a1⟩ => qw1 a0 a1
def qd1 (a : List Arg) : qA1 := (dBool (aCell a 0 0), dInt (aCell a 1 0))
def qp1 {β : Type} (f : Bool → Int → β) (c0 c1 : D) : β := f (dBool c0) (dInt c1)
def qt1 (c0 c1 : D) : List Arg := [.c c0, .c c1]
attribute [go_sem] qw1 qp1 qt1 qE1
abbrev qA5 := Int × Int × Int × Int × Int × Int × Int × Int × Int
def qw5 (a0 : Int) (a1 : Int) (a2 : Int) (a3 : Int) (a4 : Int) (a5 : Int) (a6 : Int) (a7 : Int) (a8 : Int) : List Arg := [.c (.int .i64 a0), .agg [.int .i64 a1, .int .i64 a2, .int .i64 a3, .int .i64 a4], .agg [.int .i64 a5, .int .i64 a6, .int .i64 a7, .int .i64 a8]]
def qE5 : qA5 → List Arg := fun ⟨a0, a1, a2, a3, a4, a5, a6, a7, a8⟩ => qw5 a0 a1 a2 a3 a4 a5 a6 a7 a8
def qd5 (a : List Arg) : qA5 := (dInt (aCell a 0 0), dInt (aCell a 1 0), dInt (aCell a 1 1), dInt (aCell a 1 2), dInt (aCell a 1 3), dInt (aCell a 2 0), dInt (aCell a 2 1), dInt (aCell a 2 2), dInt (aCell a 2 3))
def qp5 {β : Type} (f : Int → Int → Int → Int → Int → Int → Int → Int → Int → β) (c0 c1 c2 c3 c4 c5 c6 c7 c8 : D) : β := f (dInt c0) (dInt c1) (dInt c2) (dInt c3) (dInt c4) (dInt c5) (dInt c6) (dInt c7) (dInt c8)
def qt5 (c0 c1 c2 c3 c4 c5 c6 c7 c8 : D) : List Arg := [.c c0, .agg [c1, c2, c3, c4], .agg [c5, c6, c7, c8]]
attribute [go_sem] qw5 qp5 qt5 qE5
abbrev qA6 := (List (Int × Int × Int × Int))
def qw6 (a0 : List (Int × Int × Int × Int)) : List Arg := [.c (encF 4 d_IIII a0), .clo 64 []]
def qE6 : qA6 → List Arg := qw6
def qd6 (a : List Arg) : qA6 := decF g_IIII (aCell a 0 0)
def qp6 {β : Type} (f : (List (Int × Int × Int × Int)) → β) (c0 : D) : β := f (decF g_IIII c0)
def qt6 (c0 : D) : List Arg := [.c c0, .clo 64 []]
attribute [go_sem] qw6 qp6 qt6 qE6
abbrev qA7 := (List (Int × Int × Int × Int))
def qw7 (a0 : List (Int × Int × Int × Int)) : List Arg := [.agg [encF 4 d_IIII a0]]
def qE7 : qA7 → List Arg := qw7
def qd7 (a : List Arg) : qA7 := decF g_IIII (aCell a 0 0)
def qp7 {β : Type} (f : (List (Int × Int × Int × Int)) → β) (c0 : D) : β := f (decF g_IIII c0)
def qt7 (c0 : D) : List Arg := [.agg [c0]]
attribute [go_sem] qw7 qp7 qt7 qE7
abbrev qA8 := Int × Int × Int
def qw8 (a0 : Int) (a1 : Int) (a2 : Int) : List Arg := [.agg [.int .i64 a0, .int .i64 a1], .ptr [.int .i64 a2]]
def qE8 : qA8 → List Arg := fun ⟨a0, a1, a2⟩ => qw8 a0 a1 a2
def qd8 (a : List Arg) : qA8 := (dInt (aCell a 0 0), dInt (aCell a 0 1), dInt (aCell a 1 0))
def qp8 {β : Type} (f : Int → Int → Int → β) (c0 c1 c2 : D) : β := f (dInt c0) (dInt c1) (dInt c2)
def qt8 (c0 c1 c2 : D) : List Arg := [.agg [c0, c1], .ptr [c2]]
attribute [go_sem] qw8 qp8 qt8 qE8
abbrev qA9 := (List (Int × Int)) × Int
def qw9 (a0 : List (Int × Int)) (a1 : Int) : List Arg := [.c (encF 2 d_II a0), .clo 57 [[.int .i64 a1]]]
def qE9 : qA9 → List Arg := fun ⟨a0, a1⟩ => qw9 a0 a1
def qd9 (a : List Arg) : qA9 := (decF g_II (aCell a 0 0), dInt (aCell a 1 0))
def qp9 {β : Type} (f : (List (Int × Int)) → Int → β) (c0 c1 : D) : β := f (decF g_II c0) (dInt c1)
def qt9 (c0 c1 : D) : List Arg := [.c c0, .clo 57 [[c1]]]
attribute [go_sem] qw9 qp9 qt9 qE9
def qu0 (v : (List (Int × Int × Int × Int))) : List RV := [.agg [.own (encF 4 d_IIII v)]]
attribute [go_sem] qu0
def qu4 (v : (List (Int × Int)) × (List (Int × Int))) : List RV := [.c (.own (encF 2 d_II v.1)), .c (.own (encF 2 d_II v.2))]
attribute [go_sem] qu4
/- martensite/martensitelaw08.Traverse -/
def r21 : Option ((List (Int × Int × Int × Int))) :=
  some [(50, 10, 700, 720), (100, 12, 600, 620), (150, 12, 400, 420)]
def T21 : TSpec qA0 := mkT qE0 qd0 (fun _ => r21) qu0 false
theorem TP21 : T21.sp.pre [] = (eqvArgs (qt0 ) (qp0 qw0 ) ∧ (qp0 r21).isSome = true) := (rfl)
theorem TR21 : T21.sp.res [] = qu0 ((qp0 r21).getD default) := (rfl)
theorem TA21 : T21.sp.alias = false := (rfl)
def tb21 : Fns := lk []
theorem tb21_ok : FnsOk Try.prog tb21 := FnsOk.nil
attribute [go_sem] TP21 TR21 TA21
section
attribute [local go_sem] T21 Try.results21
theorem v21 : Valid Try.prog 21 T21.sp := by
 refine valid_t (fn := Try.f21) (n := 9) ty_ok tb21_ok Try.func21 rfl Try.ntmps21 ?_
 intro _ hx
 obtain ⟨r, hr⟩ := oE (show (r21).isSome = true from hx)
 have hres : T21.res () = qu0 r := by simp only [T21, mkT, hr, oG]
 refine ⟨nL rfl, fun stop S => ?_⟩
 rw [hres] at S
 unfold r21 at hr
 refine S.gx [] ?_
 repeat refine gA ?_
 cases hr
 exact lf
theorem f21 : FnFact Try.prog 21 T21.sp := ⟨⟨Try.f21, Try.func21, by decide, rfl⟩, v21⟩
end

/- martensite/inspect.unless -/
def r35 (a0 : Bool) (a1 : Int) : Option (Int) :=
  if a0 = true then
   some 0
   else some a1
def T35 : TSpec qA1 := mkT qE1 qd1 (fun ⟨a0, a1⟩ => r35 a0 a1) qu1 false
theorem TP35 (c0 c1 : D) : T35.sp.pre [.c c0, .c c1] = (eqvArgs (qt1 c0 c1) (qp1 qw1 c0 c1) ∧ (qp1 r35 c0 c1).isSome = true) := (rfl)
theorem TR35 (c0 c1 : D) : T35.sp.res [.c c0, .c c1] = qu1 ((qp1 r35 c0 c1).getD default) := (rfl)
theorem TA35 : T35.sp.alias = false := (rfl)
def tb35 : Fns := lk []
theorem tb35_ok : FnsOk Try.prog tb35 := FnsOk.nil
attribute [go_sem] TP35 TR35 TA35
section
attribute [local go_sem] T35 Try.results35
theorem v35 : Valid Try.prog 35 T35.sp := by
 refine valid_t (fn := Try.f35) (n := 7) ty_ok tb35_ok Try.func35 rfl Try.ntmps35 ?_
 rintro ⟨a0, a1⟩ hx
 obtain ⟨r, hr⟩ := oE (show (r35 a0 a1).isSome = true from hx)
 have hres : T35.res (a0, a1) = qu1 r := by simp only [T35, mkT, hr, oG]
 refine ⟨nL rfl, fun stop S => ?_⟩
 rw [hres] at S
 unfold r35 at hr
 refine S.gx [] ?_
 repeat refine gA ?_
 refine ⟨?_, ?_⟩ <;> intro hc
 ·have hr := ifP hr hc
  repeat refine gA ?_
  cases hr
  exact lf
 ·have hr := ifN hr hc
  repeat refine gA ?_
  cases hr
  exact lf
theorem f35 : FnFact Try.prog 35 T35.sp := ⟨⟨Try.f35, Try.func35, by decide, rfl⟩, v35⟩
end

/- martensite/inspect.first -/
def b24_1 (a0 : List (Int)) : (Int) → Ctl (Int) (Int) := fun s1 =>
  if (decide (s1 < (a0.length : Int))) = true then
   if 0 ≤ s1 ∧ s1 < (a0.length : Int) then
    if ((a0.getD s1.toNat default) != 0) = true then
     .out (some (a0.getD s1.toNat default))
     else .next (IntKind.i64.wrap (s1 + 1))
    else .out none
   else .out (some 0)
def r24 (a0 : List (Int)) : Option (Int) :=
  iterC (b24_1 a0) 1000000000 0
def T24 : TSpec qA2 := mkT qE2 qd2 r24 qu1 false
theorem TP24 (c0 : D) : T24.sp.pre [.c c0] = (eqvArgs (qt2 c0) (qp2 qw2 c0) ∧ (qp2 r24 c0).isSome = true) := (rfl)
theorem TR24 (c0 : D) : T24.sp.res [.c c0] = qu1 ((qp2 r24 c0).getD default) := (rfl)
theorem TA24 : T24.sp.alias = false := (rfl)
def tb24 : Fns := lk []
theorem tb24_ok : FnsOk Try.prog tb24 := FnsOk.nil
attribute [go_sem] TP24 TR24 TA24
section
attribute [local go_sem] T24 Try.results24
theorem v24 : Valid Try.prog 24 T24.sp := by
 refine valid_t (fn := Try.f24) (n := 15) ty_ok tb24_ok Try.func24 rfl Try.ntmps24 ?_
 rintro a0 hx
 obtain ⟨r, hr⟩ := oE (show (r24 a0).isSome = true from hx)
 have hres : T24.res a0 = qu1 r := by simp only [T24, mkT, hr, oG]
 refine ⟨nL rfl, fun stop S => ?_⟩
 rw [hres] at S
 unfold r24 at hr
 refine S.gx [] ?_
 repeat refine gA ?_
 refine S.sees [5, 6, 7] [] [] ?_ (Stop.iter S (fun s1 => ⟨[(5, .c (.d (encF 1 d_I a0))), (6, .c (.d (.int .i64 (a0.length : Int)))), (7, .c (.d (.int .i64 s1)))], [], []⟩) (b24_1 a0) (fun q => q = r) hr rfl ?_)
 ·exact lf
 ·intro s1 hr
  unfold b24_1 at hr
  refine S.gx [] ?_
  repeat refine gA ?_
  refine ⟨?_, ?_⟩ <;> intro hc
  ·have hr := ifP1 hr hc
   obtain ⟨hg1, hr⟩ := of_guard1 hr
   repeat refine gA ?_
   refine ⟨?_, ?_⟩ <;> intro hc
   ·have hr := ifP1 hr hc
    repeat refine gA ?_
    have hr := of_out0 hr
    cases hr
    exact lf
   ·have hr := ifN1 hr hc
    repeat refine gA ?_
    refine S.sees [5, 6, 7] [] [] ?_ hr
    exact lf
  ·have hr := ifN1 hr hc
   repeat refine gA ?_
   have hr := of_out0 hr
   repeat refine gA ?_
   cases hr
   exact lf
theorem f24 : FnFact Try.prog 24 T24.sp := ⟨⟨Try.f24, Try.func24, by decide, rfl⟩, v24⟩
end

/- martensite/inspect.countErr -/
def r62 (a0 : Int) (a1 : Int) (a2 : Int) : Option (Int) :=
  (r35 (decide (a0 ≥ a1)) 10).bind fun v1 =>
   (r35 (decide (a0 ≤ a2)) 8).bind fun v2 =>
    (r24 [v1, v2]).bind fun v3 =>
     some v3
def T62 : TSpec qA3 := mkT qE3 qd3 (fun ⟨a0, a1, a2⟩ => r62 a0 a1 a2) qu1 false
theorem TP62 (c0 c1 c2 : D) : T62.sp.pre [.c c0, .c c1, .c c2] = (eqvArgs (qt3 c0 c1 c2) (qp3 qw3 c0 c1 c2) ∧ (qp3 r62 c0 c1 c2).isSome = true) := (rfl)
theorem TR62 (c0 c1 c2 : D) : T62.sp.res [.c c0, .c c1, .c c2] = qu1 ((qp3 r62 c0 c1 c2).getD default) := (rfl)
theorem TA62 : T62.sp.alias = false := (rfl)
def tb62 : Fns := lk [(24, T24.sp), (35, T35.sp)]
theorem tb62_ok : FnsOk Try.prog tb62 := .cons f24 (.cons f35 (FnsOk.nil))
theorem tb62_24 : tb62 24 = some T24.sp := rfl
theorem tb62_35 : tb62 35 = some T35.sp := rfl
attribute [go_sem] TP62 TR62 TA62
section
attribute [local go_sem] T62 tb62_24 tb62_35 Try.results62
theorem v62 : Valid Try.prog 62 T62.sp := by
 refine valid_t (fn := Try.f62) (n := 17) ty_ok tb62_ok Try.func62 rfl Try.ntmps62 ?_
 rintro ⟨a0, a1, a2⟩ hx
 obtain ⟨r, hr⟩ := oE (show (r62 a0 a1 a2).isSome = true from hx)
 have hres : T62.res (a0, a1, a2) = qu1 r := by simp only [T62, mkT, hr, oG]
 refine ⟨nL rfl, fun stop S => ?_⟩
 rw [hres] at S
 unfold r62 at hr
 refine S.gx [] ?_
 obtain ⟨v1, hv1, hr⟩ := of_bind0 hr
 obtain ⟨v2, hv2, hr⟩ := of_bind0 hr
 obtain ⟨v3, hv3, hr⟩ := of_bind0 hr
 try simp only [hv1, hv2, hv3, Option.getD_some, Option.isSome_some, true_and, and_assoc]
 repeat refine gA ?_
 cases hr
 exact lf
theorem f62 : FnFact Try.prog 62 T62.sp := ⟨⟨Try.f62, Try.func62, by decide, rfl⟩, v62⟩
end

/- martensite/inspect.within -/
def r42 (a0 : Int) (a1 : Int) (a2 : Int) : Option (Bool) :=
  some ((decide (a1 ≤ a0)) && (decide (a0 ≤ a2)))
def T42 : TSpec qA3 := mkT qE3 qd3 (fun ⟨a0, a1, a2⟩ => r42 a0 a1 a2) qu2 false
theorem TP42 (c0 c1 c2 : D) : T42.sp.pre [.c c0, .c c1, .c c2] = (eqvArgs (qt3 c0 c1 c2) (qp3 qw3 c0 c1 c2) ∧ (qp3 r42 c0 c1 c2).isSome = true) := (rfl)
theorem TR42 (c0 c1 c2 : D) : T42.sp.res [.c c0, .c c1, .c c2] = qu2 ((qp3 r42 c0 c1 c2).getD default) := (rfl)
theorem TA42 : T42.sp.alias = false := (rfl)
def tb42 : Fns := lk []
theorem tb42_ok : FnsOk Try.prog tb42 := FnsOk.nil
attribute [go_sem] TP42 TR42 TA42
section
attribute [local go_sem] T42 Try.results42
theorem v42 : Valid Try.prog 42 T42.sp := by
 refine valid_t (fn := Try.f42) (n := 15) ty_ok tb42_ok Try.func42 rfl Try.ntmps42 ?_
 rintro ⟨a0, a1, a2⟩ hx
 obtain ⟨r, hr⟩ := oE (show (r42 a0 a1 a2).isSome = true from hx)
 have hres : T42.res (a0, a1, a2) = qu2 r := by simp only [T42, mkT, hr, oG]
 refine ⟨nL rfl, fun stop S => ?_⟩
 rw [hres] at S
 unfold r42 at hr
 refine S.gx [] ?_
 repeat (first | refine gA ?_ | refine gB ?_)
 cases hr
 exact lf
theorem f42 : FnFact Try.prog 42 T42.sp := ⟨⟨Try.f42, Try.func42, by decide, rfl⟩, v42⟩
end

/- martensite/inspect.isDepth -/
def r65 (a0 : Int) : Option (Bool) :=
  (r42 a0 1 10000).bind fun v1 =>
   some v1
def T65 : TSpec qA4 := mkT qE4 qd4 r65 qu2 false
theorem TP65 (c0 : D) : T65.sp.pre [.c c0] = (eqvArgs (qt4 c0) (qp4 qw4 c0) ∧ (qp4 r65 c0).isSome = true) := (rfl)
theorem TR65 (c0 : D) : T65.sp.res [.c c0] = qu2 ((qp4 r65 c0).getD default) := (rfl)
theorem TA65 : T65.sp.alias = false := (rfl)
def tb65 : Fns := lk [(42, T42.sp)]
theorem tb65_ok : FnsOk Try.prog tb65 := .cons f42 (FnsOk.nil)
theorem tb65_42 : tb65 42 = some T42.sp := rfl
attribute [go_sem] TP65 TR65 TA65
section
attribute [local go_sem] T65 tb65_42 Try.results65
theorem v65 : Valid Try.prog 65 T65.sp := by
 refine valid_t (fn := Try.f65) (n := 5) ty_ok tb65_ok Try.func65 rfl Try.ntmps65 ?_
 rintro a0 hx
 obtain ⟨r, hr⟩ := oE (show (r65 a0).isSome = true from hx)
 have hres : T65.res a0 = qu2 r := by simp only [T65, mkT, hr, oG]
 refine ⟨nL rfl, fun stop S => ?_⟩
 rw [hres] at S
 unfold r65 at hr
 refine S.gx [] ?_
 obtain ⟨v1, hv1, hr⟩ := of_bind0 hr
 try simp only [hv1, oG, oI, true_and, and_assoc]
 repeat refine gA ?_
 cases hr
 exact lf
theorem f65 : FnFact Try.prog 65 T65.sp := ⟨⟨Try.f65, Try.func65, by decide, rfl⟩, v65⟩
end

/- martensite/inspect.isHardness -/
def r39 (a0 : Int) : Option (Bool) :=
  (r42 a0 0 2000).bind fun v1 =>
   some v1
def T39 : TSpec qA4 := mkT qE4 qd4 r39 qu2 false
theorem TP39 (c0 : D) : T39.sp.pre [.c c0] = (eqvArgs (qt4 c0) (qp4 qw4 c0) ∧ (qp4 r39 c0).isSome = true) := (rfl)
theorem TR39 (c0 : D) : T39.sp.res [.c c0] = qu2 ((qp4 r39 c0).getD default) := (rfl)
theorem TA39 : T39.sp.alias = false := (rfl)
def tb39 : Fns := lk [(42, T42.sp)]
theorem tb39_ok : FnsOk Try.prog tb39 := .cons f42 (FnsOk.nil)
theorem tb39_42 : tb39 42 = some T42.sp := rfl
attribute [go_sem] TP39 TR39 TA39
section
attribute [local go_sem] T39 tb39_42 Try.results39
theorem v39 : Valid Try.prog 39 T39.sp := by
 refine valid_t (fn := Try.f39) (n := 5) ty_ok tb39_ok Try.func39 rfl Try.ntmps39 ?_
 rintro a0 hx
 obtain ⟨r, hr⟩ := oE (show (r39 a0).isSome = true from hx)
 have hres : T39.res a0 = qu2 r := by simp only [T39, mkT, hr, oG]
 refine ⟨nL rfl, fun stop S => ?_⟩
 rw [hres] at S
 unfold r39 at hr
 refine S.gx [] ?_
 obtain ⟨v1, hv1, hr⟩ := of_bind0 hr
 try simp only [hv1, oG, oI, true_and, and_assoc]
 repeat refine gA ?_
 cases hr
 exact lf
theorem f39 : FnFact Try.prog 39 T39.sp := ⟨⟨Try.f39, Try.func39, by decide, rfl⟩, v39⟩
end

/- martensite/inspect.CheckTraverse$1 -/
def r64 (a0 : Int) (x5 : Int) (x4 : Int) (x6 : Int) (x7 : Int) (x2 : Int) (x0 : Int) (x1 : Int) (x3 : Int) : Option (Int) :=
  (r65 x2).bind fun v1 =>
   if v1 = true → (r65 x0).isSome = true then
    if (v1 && ((r65 x0).getD default)) = true → (r39 x1).isSome = true then
     if ((v1 && ((r65 x0).getD default)) && ((r39 x1).getD default)) = true → (r39 x3).isSome = true then
      (r35 (((v1 && ((r65 x0).getD default)) && ((r39 x1).getD default)) && ((r39 x3).getD default)) 2).bind fun v2 =>
       (r35 (decide (x1 ≤ x3)) 9).bind fun v3 =>
        (r24 [v2, v3]).bind fun v4 =>
         if (v4 != 0) = true then
          some v4
          else if (a0 == 0) = true then
           (r35 (decide ((IntKind.i64.wrap (2 * x2)) ≥ (IntKind.i64.wrap (5 * x0)))) 17).bind fun v5 =>
            some v5
           else (r35 (decide ((IntKind.i64.wrap (x2 - x5)) ≥ (IntKind.i64.wrap (3 * (if x0 < x4 then x4 else x0))))) 17).bind fun v6 =>
            some v6
      else none
     else none
    else none
def T64 : TSpec qA5 := mkT qE5 qd5 (fun ⟨a0, x5, x4, x6, x7, x2, x0, x1, x3⟩ => r64 a0 x5 x4 x6 x7 x2 x0 x1 x3) qu1 false
theorem TP64 (c0 c1 c2 c3 c4 c5 c6 c7 c8 : D) : T64.sp.pre [.c c0, .agg [c1, c2, c3, c4], .agg [c5, c6, c7, c8]] = (eqvArgs (qt5 c0 c1 c2 c3 c4 c5 c6 c7 c8) (qp5 qw5 c0 c1 c2 c3 c4 c5 c6 c7 c8) ∧ (qp5 r64 c0 c1 c2 c3 c4 c5 c6 c7 c8).isSome = true) := (rfl)
theorem TR64 (c0 c1 c2 c3 c4 c5 c6 c7 c8 : D) : T64.sp.res [.c c0, .agg [c1, c2, c3, c4], .agg [c5, c6, c7, c8]] = qu1 ((qp5 r64 c0 c1 c2 c3 c4 c5 c6 c7 c8).getD default) := (rfl)
theorem TA64 : T64.sp.alias = false := (rfl)
def tb64 : Fns := lk [(24, T24.sp), (35, T35.sp), (39, T39.sp), (65, T65.sp)]
theorem tb64_ok : FnsOk Try.prog tb64 := .cons f24 (.cons f35 (.cons f39 (.cons f65 (FnsOk.nil))))
theorem tb64_24 : tb64 24 = some T24.sp := rfl
theorem tb64_35 : tb64 35 = some T35.sp := rfl
theorem tb64_39 : tb64 39 = some T39.sp := rfl
theorem tb64_65 : tb64 65 = some T65.sp := rfl
attribute [go_sem] TP64 TR64 TA64
section
attribute [local go_sem] T64 tb64_24 tb64_35 tb64_39 tb64_65 Try.results64
theorem v64 : Valid Try.prog 64 T64.sp := by
 refine valid_t (fn := Try.f64) (n := 67) ty_ok tb64_ok Try.func64 rfl Try.ntmps64 ?_
 rintro ⟨a0, x5, x4, x6, x7, x2, x0, x1, x3⟩ hx
 obtain ⟨r, hr⟩ := oE (show (r64 a0 x5 x4 x6 x7 x2 x0 x1 x3).isSome = true from hx)
 have hres : T64.res (a0, x5, x4, x6, x7, x2, x0, x1, x3) = qu1 r := by simp only [T64, mkT, hr, oG]
 refine ⟨nL rfl, fun stop S => ?_⟩
 rw [hres] at S
 unfold r64 at hr
 refine S.gx [3] ?_
 obtain ⟨v1, hv1, hr⟩ := of_bind0 hr
 obtain ⟨hg7, hr⟩ := of_guard0 hr
 obtain ⟨hg8, hr⟩ := of_guard0 hr
 obtain ⟨hg9, hr⟩ := of_guard0 hr
 obtain ⟨v2, hv2, hr⟩ := of_bind0 hr
 obtain ⟨v3, hv3, hr⟩ := of_bind0 hr
 obtain ⟨v4, hv4, hr⟩ := of_bind0 hr
 try simp only [hv1, hv2, hv3, hv4, Option.getD_some, Option.isSome_some, true_and, and_assoc]
 repeat (first | refine gG hg7 ?_ | refine gG hg8 ?_ | refine gG hg9 ?_ | refine gA ?_ | refine gB ?_)
 refine S.prune [0, 4, 5, 8] ?_
 refine S.gx [] ?_
 repeat refine gA ?_
 refine ⟨?_, ?_⟩ <;> intro hc
 ·have hr := ifP hr hc
  repeat refine gA ?_
  cases hr
  exact lf
 ·have hr := ifN hr hc
  repeat refine gA ?_
  refine ⟨?_, ?_⟩ <;> intro hc
  ·have hr := ifP hr hc
   obtain ⟨v5, hv5, hr⟩ := of_bind0 hr
   try simp only [hv5, oG, oI, true_and, and_assoc]
   repeat refine gA ?_
   cases hr
   exact lf
  ·have hr := ifN hr hc
   obtain ⟨v6, hv6, hr⟩ := of_bind0 hr
   try simp only [hv6, oG, oI, true_and, and_assoc]
   repeat refine gA ?_
   cases hr
   exact lf
theorem f64 : FnFact Try.prog 64 T64.sp := ⟨⟨Try.f64, Try.func64, by decide, rfl⟩, v64⟩
end

/- martensite/inspect.each[martensite/api.InspectIndent] -/
def b63_1 (a0 : List (Int × Int × Int × Int)) : (Int) → Ctl (Int) (Int × Int) := fun s1 =>
  if (decide (s1 < (a0.length : Int))) = true then
   if 0 ≤ s1 ∧ s1 < (a0.length : Int) then
    if 0 ≤ (if 0 < IntKind.i64.wrap (s1 - 1) then IntKind.i64.wrap (s1 - 1) else 0) ∧ (if 0 < IntKind.i64.wrap (s1 - 1) then IntKind.i64.wrap (s1 - 1) else 0) < (a0.length : Int) then
     bindC (r64 s1 ((a0.getD (if 0 < IntKind.i64.wrap (s1 - 1) then IntKind.i64.wrap (s1 - 1) else 0).toNat default).1) ((a0.getD (if 0 < IntKind.i64.wrap (s1 - 1) then IntKind.i64.wrap (s1 - 1) else 0).toNat default).2.1) ((a0.getD (if 0 < IntKind.i64.wrap (s1 - 1) then IntKind.i64.wrap (s1 - 1) else 0).toNat default).2.2.1) ((a0.getD (if 0 < IntKind.i64.wrap (s1 - 1) then IntKind.i64.wrap (s1 - 1) else 0).toNat default).2.2.2) ((a0.getD s1.toNat default).1) ((a0.getD s1.toNat default).2.1) ((a0.getD s1.toNat default).2.2.1) ((a0.getD s1.toNat default).2.2.2)) fun v1 =>
      if (v1 != 0) = true then
       .out (some (s1, v1))
       else .next (IntKind.i64.wrap (s1 + 1))
     else .out none
    else .out none
   else .out (some (0, 0))
def r63 (a0 : List (Int × Int × Int × Int)) : Option (Int × Int) :=
  iterC (b63_1 a0) 1000000000 0
def T63 : TSpec qA6 := mkT qE6 qd6 r63 qu3 false
theorem TP63 (c0 : D) : T63.sp.pre [.c c0, .clo 64 []] = (eqvArgs (qt6 c0) (qp6 qw6 c0) ∧ (qp6 r63 c0).isSome = true) := (rfl)
theorem TR63 (c0 : D) : T63.sp.res [.c c0, .clo 64 []] = qu3 ((qp6 r63 c0).getD default) := (rfl)
theorem TA63 : T63.sp.alias = false := (rfl)
def tb63 : Fns := lk [(64, T64.sp)]
theorem tb63_ok : FnsOk Try.prog tb63 := .cons f64 (FnsOk.nil)
theorem tb63_64 : tb63 64 = some T64.sp := rfl
attribute [go_sem] TP63 TR63 TA63
section
attribute [local go_sem] T63 tb63_64 Try.results63
theorem v63 : Valid Try.prog 63 T63.sp := by
 refine valid_t (fn := Try.f63) (n := 31) ty_ok tb63_ok Try.func63 rfl Try.ntmps63 ?_
 rintro a0 hx
 obtain ⟨r, hr⟩ := oE (show (r63 a0).isSome = true from hx)
 have hres : T63.res a0 = qu3 r := by simp only [T63, mkT, hr, oG]
 refine ⟨nL rfl, fun stop S => ?_⟩
 rw [hres] at S
 unfold r63 at hr
 refine S.gx [] ?_
 repeat refine gA ?_
 refine S.sees [0, 1, 9, 10, 11] [] [] ?_ (Stop.iter S (fun s1 => ⟨[(0, .c (.d (encF 4 d_IIII a0))), (1, .c (.clo 64 [])), (9, .c (.d (encF 4 d_IIII a0))), (10, .c (.d (.int .i64 (a0.length : Int)))), (11, .c (.d (.int .i64 s1)))], [], []⟩) (b63_1 a0) (fun q => q = r) hr rfl ?_)
 ·exact lf
 ·intro s1 hr
  unfold b63_1 at hr
  refine S.gx [] ?_
  repeat refine gA ?_
  refine ⟨?_, ?_⟩ <;> intro hc
  ·have hr := ifP1 hr hc
   obtain ⟨hg2, hr⟩ := of_guard1 hr
   obtain ⟨hg3, hr⟩ := of_guard1 hr
   obtain ⟨v1, hv1, hr⟩ := of_bind1 hr
   try simp only [hv1, oG, oI, true_and, and_assoc]
   repeat refine gA ?_
   refine ⟨?_, ?_⟩ <;> intro hc
   ·have hr := ifP1 hr hc
    repeat refine gA ?_
    have hr := of_out0 hr
    cases hr
    exact lf
   ·have hr := ifN1 hr hc
    repeat refine gA ?_
    refine S.sees [0, 1, 9, 10, 11] [] [] ?_ hr
    exact lf
  ·have hr := ifN1 hr hc
   repeat refine gA ?_
   have hr := of_out0 hr
   repeat refine gA ?_
   cases hr
   exact lf
theorem f63 : FnFact Try.prog 63 T63.sp := ⟨⟨Try.f63, Try.func63, by decide, rfl⟩, v63⟩
end

/- martensite/inspect.CheckTraverse -/
def r55 (x0 : List (Int × Int × Int × Int)) : Option (Int × Int) :=
  (r62 (x0.length : Int) 2 20).bind fun v1 =>
   if (v1 != 0) = true then
    some (0, v1)
    else (r63 x0).bind fun v2 =>
     some (v2.1, v2.2)
def T55 : TSpec qA7 := mkT qE7 qd7 r55 qu3 false
theorem TP55 (c0 : D) : T55.sp.pre [.agg [c0]] = (eqvArgs (qt7 c0) (qp7 qw7 c0) ∧ (qp7 r55 c0).isSome = true) := (rfl)
theorem TR55 (c0 : D) : T55.sp.res [.agg [c0]] = qu3 ((qp7 r55 c0).getD default) := (rfl)
theorem TA55 : T55.sp.alias = false := (rfl)
def tb55 : Fns := lk [(62, T62.sp), (63, T63.sp)]
theorem tb55_ok : FnsOk Try.prog tb55 := .cons f62 (.cons f63 (FnsOk.nil))
theorem tb55_62 : tb55 62 = some T62.sp := rfl
theorem tb55_63 : tb55 63 = some T63.sp := rfl
attribute [go_sem] TP55 TR55 TA55
section
attribute [local go_sem] T55 tb55_62 tb55_63 Try.results55
theorem v55 : Valid Try.prog 55 T55.sp := by
 refine valid_t (fn := Try.f55) (n := 17) ty_ok tb55_ok Try.func55 rfl Try.ntmps55 ?_
 rintro x0 hx
 obtain ⟨r, hr⟩ := oE (show (r55 x0).isSome = true from hx)
 have hres : T55.res x0 = qu3 r := by simp only [T55, mkT, hr, oG]
 refine ⟨nL rfl, fun stop S => ?_⟩
 rw [hres] at S
 unfold r55 at hr
 refine S.gx [] ?_
 obtain ⟨v1, hv1, hr⟩ := of_bind0 hr
 try simp only [hv1, oG, oI, true_and, and_assoc]
 repeat refine gA ?_
 refine ⟨?_, ?_⟩ <;> intro hc
 ·have hr := ifP hr hc
  repeat refine gA ?_
  cases hr
  exact lf
 ·have hr := ifN hr hc
  obtain ⟨v2, hv2, hr⟩ := of_bind0 hr
  try simp only [hv2, oG, oI, true_and, and_assoc]
  repeat refine gA ?_
  cases hr
  exact lf
theorem f55 : FnFact Try.prog 55 T55.sp := ⟨⟨Try.f55, Try.func55, by decide, rfl⟩, v55⟩
end

/- martensite/inspect.traverseErr -/
def r38 (x0 : List (Int × Int × Int × Int)) : Option (Int) :=
  (r55 x0).bind fun v1 =>
   some v1.2
def T38 : TSpec qA7 := mkT qE7 qd7 r38 qu1 false
theorem TP38 (c0 : D) : T38.sp.pre [.agg [c0]] = (eqvArgs (qt7 c0) (qp7 qw7 c0) ∧ (qp7 r38 c0).isSome = true) := (rfl)
theorem TR38 (c0 : D) : T38.sp.res [.agg [c0]] = qu1 ((qp7 r38 c0).getD default) := (rfl)
theorem TA38 : T38.sp.alias = false := (rfl)
def tb38 : Fns := lk [(55, T55.sp)]
theorem tb38_ok : FnsOk Try.prog tb38 := .cons f55 (FnsOk.nil)
theorem tb38_55 : tb38 55 = some T55.sp := rfl
attribute [go_sem] TP38 TR38 TA38
section
attribute [local go_sem] T38 tb38_55 Try.results38
theorem v38 : Valid Try.prog 38 T38.sp := by
 refine valid_t (fn := Try.f38) (n := 11) ty_ok tb38_ok Try.func38 rfl Try.ntmps38 ?_
 rintro x0 hx
 obtain ⟨r, hr⟩ := oE (show (r38 x0).isSome = true from hx)
 have hres : T38.res x0 = qu1 r := by simp only [T38, mkT, hr, oG]
 refine ⟨nL rfl, fun stop S => ?_⟩
 rw [hres] at S
 unfold r38 at hr
 refine S.gx [] ?_
 obtain ⟨v1, hv1, hr⟩ := of_bind0 hr
 try simp only [hv1, oG, oI, true_and, and_assoc]
 repeat refine gA ?_
 cases hr
 exact lf
theorem f38 : FnFact Try.prog 38 T38.sp := ⟨⟨Try.f38, Try.func38, by decide, rfl⟩, v38⟩
end

/- martensite/inspect.curves -/
def b40_1 (x0 : List (Int × Int × Int × Int)) : ((List (Int × Int)) × (List (Int × Int)) × Int) → Ctl ((List (Int × Int)) × (List (Int × Int)) × Int) ((List (Int × Int)) × (List (Int × Int))) := fun s1 =>
  if (decide (s1.2.2 < (x0.length : Int))) = true then
   if 0 ≤ s1.2.2 ∧ s1.2.2 < (x0.length : Int) then
    if (s1.1.length + 1) * 16 ≤ 140737488355328 ∧ s1.1.length + 1 ≤ 9223372036854775807 then
     if (s1.2.1.length + 1) * 16 ≤ 140737488355328 ∧ s1.2.1.length + 1 ≤ 9223372036854775807 then
      .next (s1.1 ++ [((x0.getD s1.2.2.toNat default).1, (x0.getD s1.2.2.toNat default).2.2.1)], s1.2.1 ++ [((x0.getD s1.2.2.toNat default).1, (x0.getD s1.2.2.toNat default).2.2.2)], IntKind.i64.wrap (s1.2.2 + 1))
      else .out none
     else .out none
    else .out none
   else .out (some (s1.1, s1.2.1))
def r40 (x0 : List (Int × Int × Int × Int)) : Option ((List (Int × Int)) × (List (Int × Int))) :=
  iterC (b40_1 x0) 1000000000 ([], [], 0)
def T40 : TSpec qA7 := mkT qE7 qd7 r40 qu4 false
theorem TP40 (c0 : D) : T40.sp.pre [.agg [c0]] = (eqvArgs (qt7 c0) (qp7 qw7 c0) ∧ (qp7 r40 c0).isSome = true) := (rfl)
theorem TR40 (c0 : D) : T40.sp.res [.agg [c0]] = qu4 ((qp7 r40 c0).getD default) := (rfl)
theorem TA40 : T40.sp.alias = false := (rfl)
def tb40 : Fns := lk []
theorem tb40_ok : FnsOk Try.prog tb40 := FnsOk.nil
attribute [go_sem] TP40 TR40 TA40
section
attribute [local go_sem] T40 Try.results40
theorem v40 : Valid Try.prog 40 T40.sp := by
 refine valid_t (fn := Try.f40) (n := 34) ty_ok tb40_ok Try.func40 rfl Try.ntmps40 ?_
 rintro x0 hx
 obtain ⟨r, hr⟩ := oE (show (r40 x0).isSome = true from hx)
 have hres : T40.res x0 = qu4 r := by simp only [T40, mkT, hr, oG]
 refine ⟨nL rfl, fun stop S => ?_⟩
 rw [hres] at S
 unfold r40 at hr
 refine S.gx [] ?_
 repeat refine gA ?_
 refine S.own0 2 1000200 2 rfl rfl ?_
 refine S.own0 3 1000300 2 rfl rfl ?_
 refine S.sees [2, 3, 7, 8, 9] [] [(1000200, 1000200), (1000300, 1000300)] ?_ (Stop.iter S (fun s1 => ⟨[(2, .c (.own 1000200)), (3, .c (.own 1000300)), (7, .c (.d (encF 4 d_IIII x0))), (8, .c (.d (.int .i64 (x0.length : Int)))), (9, .c (.d (.int .i64 s1.2.2)))], [], [(1000200, .owned (encF 2 d_II s1.1)), (1000300, .owned (encF 2 d_II s1.2.1))]⟩) (b40_1 x0) (fun q => q = r) hr rfl ?_)
 ·exact lf
 ·intro s1 hr
  unfold b40_1 at hr
  refine S.gx [] ?_
  repeat refine gA ?_
  refine ⟨?_, ?_⟩ <;> intro hc
  ·have hr := ifP1 hr hc
   obtain ⟨hg1, hr⟩ := of_guard1 hr
   obtain ⟨hg2, hr⟩ := of_guard1 hr
   obtain ⟨hg3, hr⟩ := of_guard1 hr
   repeat refine gA ?_
   refine S.sees [2, 3, 7, 8, 9] [] [(21, 1000200), (30, 1000300)] ?_ hr
   exact lf
  ·have hr := ifN1 hr hc
   repeat refine gA ?_
   have hr := of_out0 hr
   repeat refine gA ?_
   cases hr
   exact lf
theorem f40 : FnFact Try.prog 40 T40.sp := ⟨⟨Try.f40, Try.func40, by decide, rfl⟩, v40⟩
end

/- (martensite/inspect.curve).falls$1 -/
def r57 (x2 : Int) (x0 : Int) (x1 : Int) : Option (Bool) :=
  some (decide (x0 < x1))
def T57 : TSpec qA8 := mkT qE8 qd8 (fun ⟨x2, x0, x1⟩ => r57 x2 x0 x1) qu2 false
theorem TP57 (c0 c1 c2 : D) : T57.sp.pre [.agg [c0, c1], .ptr [c2]] = (eqvArgs (qt8 c0 c1 c2) (qp8 qw8 c0 c1 c2) ∧ (qp8 r57 c0 c1 c2).isSome = true) := (rfl)
theorem TR57 (c0 c1 c2 : D) : T57.sp.res [.agg [c0, c1], .ptr [c2]] = qu2 ((qp8 r57 c0 c1 c2).getD default) := (rfl)
theorem TA57 : T57.sp.alias = false := (rfl)
def tb57 : Fns := lk []
theorem tb57_ok : FnsOk Try.prog tb57 := FnsOk.nil
attribute [go_sem] TP57 TR57 TA57
section
attribute [local go_sem] T57 Try.results57
theorem v57 : Valid Try.prog 57 T57.sp := by
 refine valid_t (fn := Try.f57) (n := 8) ty_ok tb57_ok Try.func57 rfl Try.ntmps57 ?_
 rintro ⟨x2, x0, x1⟩ hx
 obtain ⟨r, hr⟩ := oE (show (r57 x2 x0 x1).isSome = true from hx)
 have hres : T57.res (x2, x0, x1) = qu2 r := by simp only [T57, mkT, hr, oG]
 refine ⟨nL rfl, fun stop S => ?_⟩
 rw [hres] at S
 unfold r57 at hr
 refine S.gx [] ?_
 repeat refine gA ?_
 cases hr
 exact lf
theorem f57 : FnFact Try.prog 57 T57.sp := ⟨⟨Try.f57, Try.func57, by decide, rfl⟩, v57⟩
end

/- slices.IndexFunc[martensite/inspect.curve,martensite/inspect.point] -/
def b56_1 (a0 : List (Int × Int)) (x0 : Int) : (Int) → Ctl (Int) (Int) := fun s1 =>
  if (decide (s1 < (a0.length : Int))) = true then
   if 0 ≤ s1 ∧ s1 < (a0.length : Int) then
    bindC (r57 ((a0.getD s1.toNat default).1) ((a0.getD s1.toNat default).2) x0) fun v1 =>
     if v1 = true then
      .out (some s1)
      else .next (IntKind.i64.wrap (s1 + 1))
    else .out none
   else .out (some (-1))
def r56 (a0 : List (Int × Int)) (x0 : Int) : Option (Int) :=
  iterC (b56_1 a0 x0) 1000000000 0
def T56 : TSpec qA9 := mkT qE9 qd9 (fun ⟨a0, x0⟩ => r56 a0 x0) qu1 false
theorem TP56 (c0 c1 : D) : T56.sp.pre [.c c0, .clo 57 [[c1]]] = (eqvArgs (qt9 c0 c1) (qp9 qw9 c0 c1) ∧ (qp9 r56 c0 c1).isSome = true) := (rfl)
theorem TR56 (c0 c1 : D) : T56.sp.res [.c c0, .clo 57 [[c1]]] = qu1 ((qp9 r56 c0 c1).getD default) := (rfl)
theorem TA56 : T56.sp.alias = false := (rfl)
def tb56 : Fns := lk [(57, T57.sp)]
theorem tb56_ok : FnsOk Try.prog tb56 := .cons f57 (FnsOk.nil)
theorem tb56_57 : tb56 57 = some T57.sp := rfl
attribute [go_sem] TP56 TR56 TA56
section
attribute [local go_sem] T56 tb56_57 Try.results56
theorem v56 : Valid Try.prog 56 T56.sp := by
 refine valid_t (fn := Try.f56) (n := 19) ty_ok tb56_ok Try.func56 rfl Try.ntmps56 ?_
 rintro ⟨a0, x0⟩ hx
 obtain ⟨r, hr⟩ := oE (show (r56 a0 x0).isSome = true from hx)
 have hres : T56.res (a0, x0) = qu1 r := by simp only [T56, mkT, hr, oG]
 refine ⟨nL rfl, fun stop S => ?_⟩
 rw [hres] at S
 unfold r56 at hr
 refine S.gx [] ?_
 repeat refine gA ?_
 refine S.sees [0, 1, 7, 8] [] [] ?_ (Stop.iter S (fun s1 => ⟨[(0, .c (.d (encF 2 d_II a0))), (1, .c (.clo 57 [.sptr [.int .i64 x0] 0])), (7, .c (.d (.int .i64 (a0.length : Int)))), (8, .c (.d (.int .i64 s1)))], [], []⟩) (b56_1 a0 x0) (fun q => q = r) hr rfl ?_)
 ·exact lf
 ·intro s1 hr
  unfold b56_1 at hr
  refine S.gx [] ?_
  repeat refine gA ?_
  refine ⟨?_, ?_⟩ <;> intro hc
  ·have hr := ifP1 hr hc
   obtain ⟨hg2, hr⟩ := of_guard1 hr
   obtain ⟨v1, hv1, hr⟩ := of_bind1 hr
   try simp only [hv1, oG, oI, true_and, and_assoc]
   repeat refine gA ?_
   refine ⟨?_, ?_⟩ <;> intro hc
   ·have hr := ifP1 hr hc
    repeat refine gA ?_
    have hr := of_out0 hr
    cases hr
    exact lf
   ·have hr := ifN1 hr hc
    repeat refine gA ?_
    refine S.sees [0, 1, 7, 8] [] [] ?_ hr
    exact lf
  ·have hr := ifN1 hr hc
   repeat refine gA ?_
   have hr := of_out0 hr
   repeat refine gA ?_
   cases hr
   exact lf
theorem f56 : FnFact Try.prog 56 T56.sp := ⟨⟨Try.f56, Try.func56, by decide, rfl⟩, v56⟩
end

/- martensite/inspect.divisor -/
def b43_1 : (Int × Int) → Ctl (Int × Int) (Int) := fun s1 =>
  if (s1.2 != 0) = true then
   if s1.2 ≠ 0 then
    .next (s1.2, s1.1.tmod s1.2)
    else .out none
   else .out (some (if s1.1 < IntKind.i64.wrap (0 - s1.1) then IntKind.i64.wrap (0 - s1.1) else s1.1))
def r43 (a0 : Int) (a1 : Int) : Option (Int) :=
  iterC (b43_1) 1000000000 (a0, a1)
def T43 : TSpec qA10 := mkT qE10 qd10 (fun ⟨a0, a1⟩ => r43 a0 a1) qu1 false
theorem TP43 (c0 c1 : D) : T43.sp.pre [.c c0, .c c1] = (eqvArgs (qt10 c0 c1) (qp10 qw10 c0 c1) ∧ (qp10 r43 c0 c1).isSome = true) := (rfl)
theorem TR43 (c0 c1 : D) : T43.sp.res [.c c0, .c c1] = qu1 ((qp10 r43 c0 c1).getD default) := (rfl)
theorem TA43 : T43.sp.alias = false := (rfl)
def tb43 : Fns := lk []
theorem tb43_ok : FnsOk Try.prog tb43 := FnsOk.nil
attribute [go_sem] TP43 TR43 TA43
section
attribute [local go_sem] T43 Try.results43
theorem v43 : Valid Try.prog 43 T43.sp := by
 refine valid_t (fn := Try.f43) (n := 15) ty_ok tb43_ok Try.func43 rfl Try.ntmps43 ?_
 rintro ⟨a0, a1⟩ hx
 obtain ⟨r, hr⟩ := oE (show (r43 a0 a1).isSome = true from hx)
 have hres : T43.res (a0, a1) = qu1 r := by simp only [T43, mkT, hr, oG]
 refine ⟨nL rfl, fun stop S => ?_⟩
 rw [hres] at S
 unfold r43 at hr
 refine S.gx [] ?_
 repeat refine gA ?_
 refine S.sees [0, 1] [] [] ?_ (Stop.iter S (fun s1 => ⟨[(0, .c (.d (.int .i64 s1.1))), (1, .c (.d (.int .i64 s1.2)))], [], []⟩) (b43_1) (fun q => q = r) hr rfl ?_)
 ·exact lf
 ·intro s1 hr
  unfold b43_1 at hr
  refine S.gx [] ?_
  repeat refine gA ?_
  refine ⟨?_, ?_⟩ <;> intro hc
  ·have hr := ifP1 hr hc
   obtain ⟨hg1, hr⟩ := of_guard1 hr
   repeat refine gA ?_
   refine S.sees [0, 1] [] [] ?_ hr
   exact lf
  ·have hr := ifN1 hr hc
   repeat refine gA ?_
   have hr := of_out0 hr
   repeat refine gA ?_
   cases hr
   exact lf
theorem f43 : FnFact Try.prog 43 T43.sp := ⟨⟨Try.f43, Try.func43, by decide, rfl⟩, v43⟩
end

/- martensite/inspect.lowest -/
def r27 (a0 : Int) (a1 : Int) : Option (Int × Int) :=
  (r43 a0 a1).bind fun v1 =>
   if (decide (a1 < 0)) = true then
    if (IntKind.i64.wrap (0 - v1)) ≠ 0 then
     if (IntKind.i64.wrap (0 - v1)) ≠ 0 then
      some (IntKind.i64.wrap (a0.tdiv (IntKind.i64.wrap (0 - v1))), IntKind.i64.wrap (a1.tdiv (IntKind.i64.wrap (0 - v1))))
      else none
     else none
    else if v1 ≠ 0 then
     if v1 ≠ 0 then
      some (IntKind.i64.wrap (a0.tdiv v1), IntKind.i64.wrap (a1.tdiv v1))
      else none
     else none
def T27 : TSpec qA10 := mkT qE10 qd10 (fun ⟨a0, a1⟩ => r27 a0 a1) qu5 false
theorem TP27 (c0 c1 : D) : T27.sp.pre [.c c0, .c c1] = (eqvArgs (qt10 c0 c1) (qp10 qw10 c0 c1) ∧ (qp10 r27 c0 c1).isSome = true) := (rfl)
theorem TR27 (c0 c1 : D) : T27.sp.res [.c c0, .c c1] = qu5 ((qp10 r27 c0 c1).getD default) := (rfl)
theorem TA27 : T27.sp.alias = false := (rfl)
def tb27 : Fns := lk [(43, T43.sp)]
theorem tb27_ok : FnsOk Try.prog tb27 := .cons f43 (FnsOk.nil)
theorem tb27_43 : tb27 43 = some T43.sp := rfl
attribute [go_sem] TP27 TR27 TA27
section
attribute [local go_sem] T27 tb27_43 Try.results27
theorem v27 : Valid Try.prog 27 T27.sp := by
 refine valid_t (fn := Try.f27) (n := 20) ty_ok tb27_ok Try.func27 rfl Try.ntmps27 ?_
 rintro ⟨a0, a1⟩ hx
 obtain ⟨r, hr⟩ := oE (show (r27 a0 a1).isSome = true from hx)
 have hres : T27.res (a0, a1) = qu5 r := by simp only [T27, mkT, hr, oG]
 refine ⟨nL rfl, fun stop S => ?_⟩
 rw [hres] at S
 unfold r27 at hr
 refine S.gx [] ?_
 obtain ⟨v1, hv1, hr⟩ := of_bind0 hr
 try simp only [hv1, oG, oI, true_and, and_assoc]
 repeat refine gA ?_
 refine ⟨?_, ?_⟩ <;> intro hc
 ·have hr := ifP hr hc
  obtain ⟨hg2, hr⟩ := of_guard0 hr
  obtain ⟨hg3, hr⟩ := of_guard0 hr
  repeat refine gA ?_
  cases hr
  exact lf
 ·have hr := ifN hr hc
  obtain ⟨hg4, hr⟩ := of_guard0 hr
  obtain ⟨hg5, hr⟩ := of_guard0 hr
  repeat refine gA ?_
  cases hr
  exact lf
theorem f27 : FnFact Try.prog 27 T27.sp := ⟨⟨Try.f27, Try.func27, by decide, rfl⟩, v27⟩
end
end Go.Proofs.Ytfmjhllkheapeaa

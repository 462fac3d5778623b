/- Contracts of functions, written by wip/dec. -/
import Derived.Test.YthldpejmofhaoaaGreatDoorF00
import Derived.Test.YthldpejmofhaoaaGreatDoorF01
import Derived.Test.YthldpejmofhaoaaGreatDoorF02
import Derived.Test.YthldpejmofhaoaaGreatDoorF03
import Derived.Test.YthldpejmofhaoaaGreatDoorF05
set_option linter.unusedVariables false
set_option linter.unusedSimpArgs false
set_option maxHeartbeats 4000000
set_option maxRecDepth 20000
namespace Go.Proofs.YthldpejmofhaoaaGreatDoor
open Go.Abs
section
variable {β : Type} [Inhabited β] (u : β → List RV) (al : Bool)
abbrev qF38 (β : Type) := L_I → Int → β
def qw38 (a0 : L_I) (a1 : Int) : List Arg := [.agg [encF 1 d_I a0, .int .i64 a1]]
def qd38 (a : List Arg) := (decF g_I (aCell a 0 0), dInt (aCell a 0 1))
def qp38 {β : Type} (f : qF38 β) (c0 c1 : D) := f (decF g_I c0) (dInt c1)
abbrev qt38 (c0 c1 : D) : List Arg := [.agg [c0, c1]]
def qT38 (r : qF38 (Option β)) := mkT (u2 qw38) qd38 (u2 r) u al
theorem qP38 (r : qF38 (Option β)) (c0 c1 : D) : PT (qT38 u al r).sp u (qt38 c0 c1) (qp38 qw38 c0 c1) (qp38 r c0 c1) := ⟨rfl, rfl⟩
theorem qa38 (r : qF38 (Option β)) : (qT38 u al r).sp.alias = al := rfl
attribute [go_sem] qw38 qp38 qt38 qP38 qa38
abbrev qF39 (β : Type) := L_I → Int → Int → Int → Int → β
def qw39 (a0 : L_I) (a1 a2 a3 a4 : Int) : List Arg := [.agg [encF 1 d_I a0, .int .i64 a1, .int .i64 a2, .int .i64 a3, .int .i64 a4]]
def qd39 (a : List Arg) := (decF g_I (aCell a 0 0), dInt (aCell a 0 1), dInt (aCell a 0 2), dInt (aCell a 0 3), dInt (aCell a 0 4))
def qp39 {β : Type} (f : qF39 β) (c0 c1 c2 c3 c4 : D) := f (decF g_I c0) (dInt c1) (dInt c2) (dInt c3) (dInt c4)
abbrev qt39 (c0 c1 c2 c3 c4 : D) : List Arg := [.agg [c0, c1, c2, c3, c4]]
def qT39 (r : qF39 (Option β)) := mkT (u5 qw39) qd39 (u5 r) u al
theorem qP39 (r : qF39 (Option β)) (c0 c1 c2 c3 c4 : D) : PT (qT39 u al r).sp u (qt39 c0 c1 c2 c3 c4) (qp39 qw39 c0 c1 c2 c3 c4) (qp39 r c0 c1 c2 c3 c4) := ⟨rfl, rfl⟩
theorem qa39 (r : qF39 (Option β)) : (qT39 u al r).sp.alias = al := rfl
attribute [go_sem] qw39 qp39 qt39 qP39 qa39
abbrev qF40 (β : Type) := Int → Int → Int → L_II → L_LIIE → L_II → L_LIIE → Int → β
def qw40 (a0 a1 a2 : Int) (a3 : L_II) (a4 : L_LIIE) (a5 : L_II) (a6 : L_LIIE) (a7 : Int) : List Arg := [.c (.int .i64 a0), .ptr [.int .i64 a1, .int .i64 a2, encF 2 d_II a3, encF 1 d_LIIE a4, encF 2 d_II a5, encF 1 d_LIIE a6], .ptr [.int .i64 a7]]
def qd40 (a : List Arg) := (dInt (aCell a 0 0), dInt (aCell a 1 0), dInt (aCell a 1 1), decF g_II (aCell a 1 2), decF g_LIIE (aCell a 1 3), decF g_II (aCell a 1 4), decF g_LIIE (aCell a 1 5), dInt (aCell a 2 0))
def qp40 {β : Type} (f : qF40 β) (c0 c1 c2 c3 c4 c5 c6 c7 : D) := f (dInt c0) (dInt c1) (dInt c2) (decF g_II c3) (decF g_LIIE c4) (decF g_II c5) (decF g_LIIE c6) (dInt c7)
abbrev qt40 (c0 c1 c2 c3 c4 c5 c6 c7 : D) : List Arg := [.c c0, .ptr [c1, c2, c3, c4, c5, c6], .ptr [c7]]
def qT40 (r : qF40 (Option β)) := mkT (u8 qw40) qd40 (u8 r) u al
theorem qP40 (r : qF40 (Option β)) (c0 c1 c2 c3 c4 c5 c6 c7 : D) : PT (qT40 u al r).sp u (qt40 c0 c1 c2 c3 c4 c5 c6 c7) (qp40 qw40 c0 c1 c2 c3 c4 c5 c6 c7) (qp40 r c0 c1 c2 c3 c4 c5 c6 c7) := ⟨rfl, rfl⟩
theorem qa40 (r : qF40 (Option β)) : (qT40 u al r).sp.alias = al := rfl
attribute [go_sem] qw40 qp40 qt40 qP40 qa40
abbrev qF41 (β : Type) := L_I → Int → Int → L_II → L_LIIE → L_II → L_LIIE → Int → β
def qw41 (a0 : L_I) (a1 a2 : Int) (a3 : L_II) (a4 : L_LIIE) (a5 : L_II) (a6 : L_LIIE) (a7 : Int) : List Arg := [.c (encF 1 d_I a0), .clo 171 [[.int .i64 a1, .int .i64 a2, encF 2 d_II a3, encF 1 d_LIIE a4, encF 2 d_II a5, encF 1 d_LIIE a6], [.int .i64 a7]]]
def qd41 (a : List Arg) := (decF g_I (aCell a 0 0), dInt (aCell a 1 0), dInt (aCell a 1 1), decF g_II (aCell a 1 2), decF g_LIIE (aCell a 1 3), decF g_II (aCell a 1 4), decF g_LIIE (aCell a 1 5), dInt (aCell a 1 6))
def qp41 {β : Type} (f : qF41 β) (c0 c1 c2 c3 c4 c5 c6 c7 : D) := f (decF g_I c0) (dInt c1) (dInt c2) (decF g_II c3) (decF g_LIIE c4) (decF g_II c5) (decF g_LIIE c6) (dInt c7)
abbrev qt41 (c0 c1 c2 c3 c4 c5 c6 c7 : D) : List Arg := [.c c0, .clo 171 [[c1, c2, c3, c4, c5, c6], [c7]]]
def qT41 (r : qF41 (Option β)) := mkT (u8 qw41) qd41 (u8 r) u al
theorem qP41 (r : qF41 (Option β)) (c0 c1 c2 c3 c4 c5 c6 c7 : D) : PT (qT41 u al r).sp u (qt41 c0 c1 c2 c3 c4 c5 c6 c7) (qp41 qw41 c0 c1 c2 c3 c4 c5 c6 c7) (qp41 r c0 c1 c2 c3 c4 c5 c6 c7) := ⟨rfl, rfl⟩
theorem qa41 (r : qF41 (Option β)) : (qT41 u al r).sp.alias = al := rfl
attribute [go_sem] qw41 qp41 qt41 qP41 qa41
abbrev qF42 (β : Type) := Int → Int → L_II → L_LIIE → L_II → L_LIIE → L_I → Int → β
def qw42 (a0 a1 : Int) (a2 : L_II) (a3 : L_LIIE) (a4 : L_II) (a5 : L_LIIE) (a6 : L_I) (a7 : Int) : List Arg := [.agg [.int .i64 a0, .int .i64 a1, encF 2 d_II a2, encF 1 d_LIIE a3, encF 2 d_II a4, encF 1 d_LIIE a5], .c (encF 1 d_I a6), .c (.int .i64 a7)]
def qd42 (a : List Arg) := (dInt (aCell a 0 0), dInt (aCell a 0 1), decF g_II (aCell a 0 2), decF g_LIIE (aCell a 0 3), decF g_II (aCell a 0 4), decF g_LIIE (aCell a 0 5), decF g_I (aCell a 1 0), dInt (aCell a 2 0))
def qp42 {β : Type} (f : qF42 β) (c0 c1 c2 c3 c4 c5 c6 c7 : D) := f (dInt c0) (dInt c1) (decF g_II c2) (decF g_LIIE c3) (decF g_II c4) (decF g_LIIE c5) (decF g_I c6) (dInt c7)
abbrev qt42 (c0 c1 c2 c3 c4 c5 c6 c7 : D) : List Arg := [.agg [c0, c1, c2, c3, c4, c5], .c c6, .c c7]
def qT42 (r : qF42 (Option β)) := mkT (u8 qw42) qd42 (u8 r) u al
theorem qP42 (r : qF42 (Option β)) (c0 c1 c2 c3 c4 c5 c6 c7 : D) : PT (qT42 u al r).sp u (qt42 c0 c1 c2 c3 c4 c5 c6 c7) (qp42 qw42 c0 c1 c2 c3 c4 c5 c6 c7) (qp42 r c0 c1 c2 c3 c4 c5 c6 c7) := ⟨rfl, rfl⟩
theorem qa42 (r : qF42 (Option β)) : (qT42 u al r).sp.alias = al := rfl
attribute [go_sem] qw42 qp42 qt42 qP42 qa42
abbrev qF43 (β : Type) := Int → Int → L_II → L_LIIE → L_I → L_I → Int → Int → Int → Int → β
def qw43 (a0 a1 : Int) (a2 : L_II) (a3 : L_LIIE) (a4 a5 : L_I) (a6 a7 a8 a9 : Int) : List Arg := [.agg [.int .i64 a0, .int .i64 a1, encF 2 d_II a2, encF 1 d_LIIE a3], .c (encF 1 d_I a4), .agg [encF 1 d_I a5, .int .i64 a6, .int .i64 a7, .int .i64 a8, .int .i64 a9]]
def qd43 (a : List Arg) := (dInt (aCell a 0 0), dInt (aCell a 0 1), decF g_II (aCell a 0 2), decF g_LIIE (aCell a 0 3), decF g_I (aCell a 1 0), decF g_I (aCell a 2 0), dInt (aCell a 2 1), dInt (aCell a 2 2), dInt (aCell a 2 3), dInt (aCell a 2 4))
def qp43 {β : Type} (f : qF43 β) (c0 c1 c2 c3 c4 c5 c6 c7 c8 c9 : D) := f (dInt c0) (dInt c1) (decF g_II c2) (decF g_LIIE c3) (decF g_I c4) (decF g_I c5) (dInt c6) (dInt c7) (dInt c8) (dInt c9)
abbrev qt43 (c0 c1 c2 c3 c4 c5 c6 c7 c8 c9 : D) : List Arg := [.agg [c0, c1, c2, c3], .c c4, .agg [c5, c6, c7, c8, c9]]
def qT43 (r : qF43 (Option β)) := mkT (u10 qw43) qd43 (u10 r) u al
theorem qP43 (r : qF43 (Option β)) (c0 c1 c2 c3 c4 c5 c6 c7 c8 c9 : D) : PT (qT43 u al r).sp u (qt43 c0 c1 c2 c3 c4 c5 c6 c7 c8 c9) (qp43 qw43 c0 c1 c2 c3 c4 c5 c6 c7 c8 c9) (qp43 r c0 c1 c2 c3 c4 c5 c6 c7 c8 c9) := ⟨rfl, rfl⟩
theorem qa43 (r : qF43 (Option β)) : (qT43 u al r).sp.alias = al := rfl
attribute [go_sem] qw43 qp43 qt43 qP43 qa43
abbrev qF44 (β : Type) := L_LIEI → β
def qw44 (a0 : L_LIEI) : List Arg := [.c (encF 2 d_LIEI a0)]
def qd44 (a : List Arg) := decF g_LIEI (aCell a 0 0)
def qp44 {β : Type} (f : qF44 β) (c0 : D) := f (decF g_LIEI c0)
abbrev qt44 (c0 : D) : List Arg := [.c c0]
def qT44 (r : qF44 (Option β)) := mkT (u1 qw44) qd44 (u1 r) u al
theorem qP44 (r : qF44 (Option β)) (c0 : D) : PT (qT44 u al r).sp u (qt44 c0) (qp44 qw44 c0) (qp44 r c0) := ⟨rfl, rfl⟩
theorem qa44 (r : qF44 (Option β)) : (qT44 u al r).sp.alias = al := rfl
attribute [go_sem] qw44 qp44 qt44 qP44 qa44
abbrev qF45 (β : Type) := Int → Int → L_II → L_LIIE → L_II → L_LIIE → L_LIEI → β
def qw45 (a0 a1 : Int) (a2 : L_II) (a3 : L_LIIE) (a4 : L_II) (a5 : L_LIIE) (a6 : L_LIEI) : List Arg := [.agg [.int .i64 a0, .int .i64 a1, encF 2 d_II a2, encF 1 d_LIIE a3, encF 2 d_II a4, encF 1 d_LIIE a5], .c (encF 2 d_LIEI a6)]
def qd45 (a : List Arg) := (dInt (aCell a 0 0), dInt (aCell a 0 1), decF g_II (aCell a 0 2), decF g_LIIE (aCell a 0 3), decF g_II (aCell a 0 4), decF g_LIIE (aCell a 0 5), decF g_LIEI (aCell a 1 0))
def qp45 {β : Type} (f : qF45 β) (c0 c1 c2 c3 c4 c5 c6 : D) := f (dInt c0) (dInt c1) (decF g_II c2) (decF g_LIIE c3) (decF g_II c4) (decF g_LIIE c5) (decF g_LIEI c6)
abbrev qt45 (c0 c1 c2 c3 c4 c5 c6 : D) : List Arg := [.agg [c0, c1, c2, c3, c4, c5], .c c6]
def qT45 (r : qF45 (Option β)) := mkT (u7 qw45) qd45 (u7 r) u al
theorem qP45 (r : qF45 (Option β)) (c0 c1 c2 c3 c4 c5 c6 : D) : PT (qT45 u al r).sp u (qt45 c0 c1 c2 c3 c4 c5 c6) (qp45 qw45 c0 c1 c2 c3 c4 c5 c6) (qp45 r c0 c1 c2 c3 c4 c5 c6) := ⟨rfl, rfl⟩
theorem qa45 (r : qF45 (Option β)) : (qT45 u al r).sp.alias = al := rfl
attribute [go_sem] qw45 qp45 qt45 qP45 qa45
abbrev qF46 (β : Type) := Int → Int → L_II → L_LIIE → L_I → L_LIEI → β
def qw46 (a0 a1 : Int) (a2 : L_II) (a3 : L_LIIE) (a4 : L_I) (a5 : L_LIEI) : List Arg := [.agg [.int .i64 a0, .int .i64 a1, encF 2 d_II a2, encF 1 d_LIIE a3], .c (encF 1 d_I a4), .c (encF 2 d_LIEI a5)]
def qd46 (a : List Arg) := (dInt (aCell a 0 0), dInt (aCell a 0 1), decF g_II (aCell a 0 2), decF g_LIIE (aCell a 0 3), decF g_I (aCell a 1 0), decF g_LIEI (aCell a 2 0))
def qp46 {β : Type} (f : qF46 β) (c0 c1 c2 c3 c4 c5 : D) := f (dInt c0) (dInt c1) (decF g_II c2) (decF g_LIIE c3) (decF g_I c4) (decF g_LIEI c5)
abbrev qt46 (c0 c1 c2 c3 c4 c5 : D) : List Arg := [.agg [c0, c1, c2, c3], .c c4, .c c5]
def qT46 (r : qF46 (Option β)) := mkT (u6 qw46) qd46 (u6 r) u al
theorem qP46 (r : qF46 (Option β)) (c0 c1 c2 c3 c4 c5 : D) : PT (qT46 u al r).sp u (qt46 c0 c1 c2 c3 c4 c5) (qp46 qw46 c0 c1 c2 c3 c4 c5) (qp46 r c0 c1 c2 c3 c4 c5) := ⟨rfl, rfl⟩
theorem qa46 (r : qF46 (Option β)) : (qT46 u al r).sp.alias = al := rfl
attribute [go_sem] qw46 qp46 qt46 qP46 qa46
abbrev qF47 (β : Type) := L_I → L_I → β
def qw47 (a0 a1 : L_I) : List Arg := [.agg [encF 1 d_I a0, encF 1 d_I a1]]
def qd47 (a : List Arg) := (decF g_I (aCell a 0 0), decF g_I (aCell a 0 1))
def qp47 {β : Type} (f : qF47 β) (c0 c1 : D) := f (decF g_I c0) (decF g_I c1)
abbrev qt47 (c0 c1 : D) : List Arg := [.agg [c0, c1]]
def qT47 (r : qF47 (Option β)) := mkT (u2 qw47) qd47 (u2 r) u al
theorem qP47 (r : qF47 (Option β)) (c0 c1 : D) : PT (qT47 u al r).sp u (qt47 c0 c1) (qp47 qw47 c0 c1) (qp47 r c0 c1) := ⟨rfl, rfl⟩
theorem qa47 (r : qF47 (Option β)) : (qT47 u al r).sp.alias = al := rfl
attribute [go_sem] qw47 qp47 qt47 qP47 qa47
def qu20 (v : L_I × Int) : List RV := [.agg [.own (encF 1 d_I v.1), .d (.int .i64 v.2)]]
attribute [go_sem] qu20
def qu21 (v : L_I × Int × Int × Int × Int) : List RV := [.agg [.own (encF 1 d_I v.1), .d (.int .i64 v.2.1), .d (.int .i64 v.2.2.1), .d (.int .i64 v.2.2.2.1), .d (.int .i64 v.2.2.2.2)]]
attribute [go_sem] qu21
def qu22 (v : L_LIEI) : List RV := [.c (.own (encF 2 d_LIEI v))]
attribute [go_sem] qu22
def qu23 (v : L_LIE × Int × Int) : List RV := [.c (.own (encF 1 d_LIE v.1)), .c (.d (.int .i64 v.2.1)), .c (.d (.int .i64 v.2.2))]
attribute [go_sem] qu23
def qu24 (v : Int × Int × Int × Int × Int) : List RV := [.agg [.d (.int .i64 v.1), .d (.int .i64 v.2.1), .d (.int .i64 v.2.2.1), .d (.int .i64 v.2.2.2.1)], .c (.d (.int .i64 v.2.2.2.2))]
attribute [go_sem] qu24
def qu25 (v : L_LIE × Int) : List RV := [.c (.own (encF 1 d_LIE v.1)), .c (.d (.int .i64 v.2))]
attribute [go_sem] qu25
def qu26 (v : L_I × L_I) : List RV := [.agg [.own (encF 1 d_I v.1), .own (encF 1 d_I v.2)]]
attribute [go_sem] qu26
end
/- martensite/martensiteref03.CopyDrive -/
def r19 (x0 : L_I) (x1 : Int) : Option (L_I × Int) :=
  (r17 x0).bind fun v1 =>
   some (v1, x1)
def T19 := qT38 qu20 false r19
attribute [go_sem] T19
def tb19 : Fns := lk [(17, T17.sp)]
theorem tb19_ok : FnsOk Tryz.prog tb19 := .cons f17 .nil
theorem tk19 : tb19 17 = some T17.sp := rfl
section
attribute [local go_sem] tk19 Tryz.results19
theorem f19 : FnFact Tryz.prog 19 T19.sp := by
  refine valid_m ty_ok tb19_ok Tryz.func19 rfl Tryz.ntmps19 fun ⟨x0, x1⟩ r hr => ⟨nL rfl, fun stop S => ?_⟩
  replace hr : r19 x0 x1 = some r := hr
  unfold r19 at hr
  refine S.gx [] ?_
  exact D0 hr
end

/- martensite/martensiteref03.CopyTask -/
def r18 (x0 : L_I) (x1 x2 x3 x4 : Int) : Option (L_I × Int × Int × Int × Int) :=
  (r19 x0 x1).bind fun v1 =>
   some (v1.1, v1.2, x2, x3, x4)
def T18 := qT39 qu21 false r18
attribute [go_sem] T18
def tb18 : Fns := lk [(19, T19.sp)]
theorem tb18_ok : FnsOk Tryz.prog tb18 := .cons f19 .nil
theorem tk18 : tb18 19 = some T19.sp := rfl
section
attribute [local go_sem] tk18 Tryz.results18
theorem f18 : FnFact Tryz.prog 18 T18.sp := by
  refine valid_m ty_ok tb18_ok Tryz.func18 rfl Tryz.ntmps18 fun ⟨x0, x1, x2, x3, x4⟩ r hr => ⟨nL rfl, fun stop S => ?_⟩
  replace hr : r18 x0 x1 x2 x3 x4 = some r := hr
  unfold r18 at hr
  refine S.gx [] ?_
  exact D0 hr
end

/- martensite/heat.kelvinErr -/
def r82 (a0 : Int) : Option (Int) :=
  (r169 a0).bind fun v1 =>
   (r83 v1 2).bind fun v2 =>
    some v2
def T82 := qT4 qu2 false r82
attribute [go_sem] T82
def tb82 : Fns := lk [(83, T83.sp), (169, T169.sp)]
theorem tb82_ok : FnsOk Tryz.prog tb82 := .cons f83 (.cons f169 .nil)
theorem tk82 : tb82 83 = some T83.sp ∧ tb82 169 = some T169.sp := ⟨rfl, rfl⟩
section
attribute [local go_sem] tk82 Tryz.results82
theorem f82 : FnFact Tryz.prog 82 T82.sp := by
  refine valid_m ty_ok tb82_ok Tryz.func82 rfl Tryz.ntmps82 fun a0 r hr => ⟨nL rfl, fun stop S => ?_⟩
  replace hr : r82 a0 = some r := hr
  unfold r82 at hr
  refine S.gx [] ?_
  exact D0 hr
end

/- (martensite/heat.part).compared -/
def r172 (x0 x1 : Int) (x2 : L_II) (x3 : L_LIIE) (x4 : L_II) (x5 : L_LIIE) (a1 a2 : Int) : Option (Int) :=
  (r100 x0 x1 x2 x3 x4 x5 a1).bind fun v1 =>
   some (IntKind.i64.wrap (v1.1 - (IntKind.i64.wrap (a2 * v1.2))))
def T172 := qT20 qu2 false r172
attribute [go_sem] T172
def tb172 : Fns := lk [(100, T100.sp)]
theorem tb172_ok : FnsOk Tryz.prog tb172 := .cons f100 .nil
theorem tk172 : tb172 100 = some T100.sp := rfl
section
attribute [local go_sem] tk172 Tryz.results172
theorem f172 : FnFact Tryz.prog 172 T172.sp := by
  refine valid_m ty_ok tb172_ok Tryz.func172 rfl Tryz.ntmps172 fun ⟨x0, x1, x2, x3, x4, x5, a1, a2⟩ r hr => ⟨nL rfl, fun stop S => ?_⟩
  replace hr : r172 x0 x1 x2 x3 x4 x5 a1 a2 = some r := hr
  unfold r172 at hr
  refine S.gx [] ?_
  exact D0 hr
end

/- (martensite/heat.part).depth$1 -/
def r171 (a0 x0 x1 : Int) (x2 : L_II) (x3 : L_LIIE) (x4 : L_II) (x5 : L_LIIE) (x6 : Int) : Option (Bool) :=
  (r172 x0 x1 x2 x3 x4 x5 a0 x6).bind fun v1 =>
   some (decide (v1 < 0))
def T171 := qT40 qu1 false r171
attribute [go_sem] T171
def tb171 : Fns := lk [(172, T172.sp)]
theorem tb171_ok : FnsOk Tryz.prog tb171 := .cons f172 .nil
theorem tk171 : tb171 172 = some T172.sp := rfl
section
attribute [local go_sem] tk171 Tryz.results171
theorem f171 : FnFact Tryz.prog 171 T171.sp := by
  refine valid_m ty_ok tb171_ok Tryz.func171 rfl Tryz.ntmps171 fun ⟨a0, x0, x1, x2, x3, x4, x5, x6⟩ r hr => ⟨nL rfl, fun stop S => ?_⟩
  replace hr : r171 a0 x0 x1 x2 x3 x4 x5 x6 = some r := hr
  unfold r171 at hr
  refine S.gx [] ?_
  exact D0 hr
end

/- slices.IndexFunc[[]int,int] -/
def b170d_1 (a0 : L_I) (x0 x1 : Int) (x2 : L_II) (x3 : L_LIIE) (x4 : L_II) (x5 : L_LIIE) (x6 : Int) : Bd Int Int := fun s1 =>
  if (decide (s1 < (a0.length : Int))) = true then
   if 0 ≤ s1 ∧ s1 < (a0.length : Int) then
    bindC (r171 (a0.getD s1.toNat default) x0 x1 x2 x3 x4 x5 x6) fun v1 =>
     if v1 = true then
      .out (some s1)
      else .next (IntKind.i64.wrap (s1 + 1))
    else .out none
   else .out (some (-1))
def r170d (a0 : L_I) (x0 x1 : Int) (x2 : L_II) (x3 : L_LIIE) (x4 : L_II) (x5 : L_LIIE) (x6 : Int) : Option (Int) :=
  iterC (b170d_1 a0 x0 x1 x2 x3 x4 x5 x6) 1000000000 0
def T170d := qT41 qu2 false r170d
attribute [go_sem] T170d
def tb170d : Fns := lk [(171, T171.sp)]
theorem tb170d_ok : FnsOk Tryz.prog tb170d := .cons f171 .nil
theorem tk170d : tb170d 171 = some T171.sp := rfl
section
attribute [local go_sem] tk170d Tryz.results170
theorem f170d : FnFact Tryz.prog 170 T170d.sp := by
  refine valid_m ty_ok tb170d_ok Tryz.func170 rfl Tryz.ntmps170 fun ⟨a0, x0, x1, x2, x3, x4, x5, x6⟩ r hr => ⟨nL rfl, fun stop S => ?_⟩
  replace hr : r170d a0 x0 x1 x2 x3 x4 x5 x6 = some r := hr
  unfold r170d at hr
  refine S.gx [] ?_
  refine gr ?_
  refine S.sees [0, 1, 7, 8] [] [] ?_ (Stop.iter S (fun s1 => ⟨[(0, .c (.d (encF 1 d_I a0))), (1, .c (.clo 171 [.sptr [.int .i64 x0, .int .i64 x1, encF 2 d_II x2, encF 1 d_LIIE x3, encF 2 d_II x4, encF 1 d_LIIE x5] 0, .sptr [.int .i64 x6] 0])), (7, .c (.d (.int .i64 (a0.length : Int)))), (8, .c (.d (.int .i64 s1)))], [], []⟩) (b170d_1 a0 x0 x1 x2 x3 x4 x5 x6) (fun q => q = r) hr rfl ?_)
  · exact lf
  · intro s1 hr
    unfold b170d_1 at hr
    refine S.gx [] ?_
    exact D1 (S.ss [0, 1, 7, 8] [] []) hr
end

/- (martensite/heat.part).depth -/
def r84 (x0 x1 : Int) (x2 : L_II) (x3 : L_LIIE) (x4 : L_II) (x5 : L_LIIE) (a1 : L_I) (a2 : Int) : Option (Int) :=
  (r170d a1 x0 x1 x2 x3 x4 x5 a2).bind fun v1 =>
   if (decide (v1 < 0)) = true then
    some (a1.length : Int)
    else some v1
def T84 := qT42 qu2 false r84
attribute [go_sem] T84
def tb84 : Fns := lk [(170, T170d.sp)]
theorem tb84_ok : FnsOk Tryz.prog tb84 := .cons f170d .nil
theorem tk84 : tb84 170 = some T170d.sp := rfl
section
attribute [local go_sem] tk84 Tryz.results84
theorem f84 : FnFact Tryz.prog 84 T84.sp := by
  refine valid_m ty_ok tb84_ok Tryz.func84 rfl Tryz.ntmps84 fun ⟨x0, x1, x2, x3, x4, x5, a1, a2⟩ r hr => ⟨nL rfl, fun stop S => ?_⟩
  replace hr : r84 x0 x1 x2 x3 x4 x5 a1 a2 = some r := hr
  unfold r84 at hr
  refine S.gx [] ?_
  exact D0 hr
end

/- martensite/heat.ShortestTo -/
def b16_1 (x1 : L_I) (x2 x3 x4 x0 : Int) (v1 : Int × Int × L_II × L_LIIE × L_II × L_LIIE × Int) : Bd (L_I × Int × Int) (Int × Int) := fun s1 =>
  if (s1.2.1 == 0) = true then
   bindC (r84 v1.1 v1.2.1 v1.2.2.1 v1.2.2.2.1 v1.2.2.2.2.1 v1.2.2.2.2.2.1 s1.1 x3) fun v7 =>
    if (decide (v7 ≥ x4)) = true then
     .out (some (s1.2.2, 0))
     else if (s1.2.2 == x0) = true then
      .out (some (0, 12))
      else bindC (r85 v1.1 v1.2.1 v1.2.2.1 v1.2.2.2.1 v1.2.2.2.2.1 v1.2.2.2.2.2.1 s1.1 x1 x2) fun v8 =>
       .next (v8.1, v8.2.2, IntKind.i64.wrap (s1.2.2 + 1))
   else .out (some (0, s1.2.1))
def b16_2 (x1 : L_I) (x2 x3 x4 x0 : Int) (v1 : Int × Int × L_II × L_LIIE × L_II × L_LIIE × Int) : Bd (L_I × Int × Int) (Int × Int) := fun s2 =>
  if (s2.2.1 == 0) = true then
   bindC (r84 v1.1 v1.2.1 v1.2.2.1 v1.2.2.2.1 v1.2.2.2.2.1 v1.2.2.2.2.2.1 s2.1 x3) fun v10 =>
    if (decide (v10 ≥ x4)) = true then
     .out (some (s2.2.2, 0))
     else if (s2.2.2 == x0) = true then
      .out (some (0, 12))
      else bindC (r85 v1.1 v1.2.1 v1.2.2.1 v1.2.2.2.1 v1.2.2.2.2.1 v1.2.2.2.2.2.1 s2.1 x1 x2) fun v11 =>
       .next (v11.1, v11.2.2, IntKind.i64.wrap (s2.2.2 + 1))
   else .out (some (0, s2.2.1))
def r16 (x5 x6 : Int) (x7 : L_II) (x8 : L_LIIE) (a1 x1 : L_I) (x2 x3 x4 x0 : Int) : Option (Int × Int) :=
  (r78 x5 x6 x7 x8 a1).bind fun v1 =>
   if (v1.2.2.2.2.2.2 == 0) = true then
    (r79 x4 1 v1.1).bind fun v2 =>
     if v2 = true → (r79 x0 0 200).isSome = true then
      (r81 v1.1 v1.2.1 v1.2.2.1 v1.2.2.2.1 v1.2.2.2.2.1 v1.2.2.2.2.2.1 x1 x2).bind fun v3 =>
       (r82 x3).bind fun v4 =>
        (r83 (v2 && ((r79 x0 0 200).getD default)) 2).bind fun v5 =>
         (r80 [v3, v4, v5]).bind fun v6 =>
          iterC (b16_1 x1 x2 x3 x4 x0 v1) 1000000000 (a1, v6, 0)
      else none
    else iterC (b16_2 x1 x2 x3 x4 x0 v1) 1000000000 (a1, v1.2.2.2.2.2.2, 0)
def T16 := qT43 qu3 false r16
attribute [go_sem] T16
def tb16 : Fns := lk [(78, T78.sp), (79, T79.sp), (80, T80.sp), (81, T81.sp), (82, T82.sp), (83, T83.sp), (84, T84.sp), (85, T85.sp)]
theorem tb16_ok : FnsOk Tryz.prog tb16 := .cons f78 (.cons f79 (.cons f80 (.cons f81 (.cons f82 (.cons f83 (.cons f84 (.cons f85 .nil)))))))
theorem tk16 : tb16 78 = some T78.sp ∧ tb16 79 = some T79.sp ∧ tb16 80 = some T80.sp ∧ tb16 81 = some T81.sp ∧ tb16 82 = some T82.sp ∧ tb16 83 = some T83.sp ∧ tb16 84 = some T84.sp ∧ tb16 85 = some T85.sp := ⟨rfl, rfl, rfl, rfl, rfl, rfl, rfl, rfl⟩
section
attribute [local go_sem] tk16 Tryz.results16
theorem f16 : FnFact Tryz.prog 16 T16.sp := by
  refine valid_m ty_ok tb16_ok Tryz.func16 rfl Tryz.ntmps16 fun ⟨x5, x6, x7, x8, a1, x1, x2, x3, x4, x0⟩ r hr => ⟨nL rfl, fun stop S => ?_⟩
  replace hr : r16 x5 x6 x7 x8 a1 x1 x2 x3 x4 x0 = some r := hr
  unfold r16 at hr
  refine S.gx [5] ?_
  obtain ⟨v1, hv1, hr⟩ := of_bind0 hr
  refine gb hv1 ?_
  refine iW hr (fun hc hr => ?_) fun hc hr => ?_
  · obtain ⟨v2, hv2, hr⟩ := of_bind0 hr
    obtain ⟨hg9, hr⟩ := of_guard0 hr
    obtain ⟨v3, hv3, hr⟩ := of_bind0 hr
    obtain ⟨v4, hv4, hr⟩ := of_bind0 hr
    obtain ⟨v5, hv5, hr⟩ := of_bind0 hr
    obtain ⟨v6, hv6, hr⟩ := of_bind0 hr
    try simp only [hv2, hv3, hv4, hv5, hv6, Option.getD_some, Option.isSome_some, true_and, and_assoc]
    repeat (first | refine gG hg9 ?_ | refine gA ?_ | refine gB ?_)
    refine S.prune [1, 5, 8, 9] ?_
    refine S.gx [] ?_
    refine gr ?_
    refine gr ?_
    refine S.sees [1, 5, 8, 9, 11] [(5, 5), (8, 8)] [(15, 15), (10015, 10015)] ?_ (Stop.iter S (fun s1 => ⟨[(1, .c (.d (encF 1 d_I s1.1))), (5, .c (.ref 5 0)), (8, .c (.ref 8 0)), (9, .c (.d (.int .i64 s1.2.1))), (11, .c (.d (.int .i64 s1.2.2)))], [(5, [.d (encF 1 d_I x1), .d (.int .i64 x2), .d (.int .i64 x3), .d (.int .i64 x4), .d (.int .i64 x0)]), (8, [.d (.int .i64 v1.1), .d (.int .i64 v1.2.1), .d (encF 2 d_II v1.2.2.1), .d (encF 1 d_LIIE v1.2.2.2.1), .own 15, .own 10015])], [(15, .owned (encF 2 d_II v1.2.2.2.2.1)), (10015, .owned (encF 1 d_LIIE v1.2.2.2.2.2.1))]⟩) (b16_1 x1 x2 x3 x4 x0 v1) (fun q => q = r) hr rfl ?_)
    · exact lf
    · intro s1 hr
      unfold b16_1 at hr
      refine S.gx [5] ?_
      refine gr ?_
      refine iW1 hr (fun hc hr => ?_) fun hc hr => D0 hr
      obtain ⟨v7, hv7, hr⟩ := of_bind1 hr
      refine gb hv7 ?_
      refine iW1 hr (fun hc hr => D0 hr) fun hc hr => ?_
      refine gr ?_
      refine iW1 hr (fun hc hr => D0 hr) fun hc hr => ?_
      obtain ⟨v8, hv8, hr⟩ := of_bind1 hr
      refine gb hv8 ?_
      refine S.share 64 rfl ?_
      exact D1 (S.ss [1, 5, 8, 9, 11] [(5, 5), (8, 8)] [(15, 15), (10015, 10015)]) hr
  · refine gr ?_
    refine S.prune [1, 5, 8, 9] ?_
    refine S.gx [] ?_
    refine gr ?_
    refine gr ?_
    refine S.sees [1, 5, 8, 9, 11] [(5, 5), (8, 8)] [(15, 15), (10015, 10015)] ?_ (Stop.iter S (fun s2 => ⟨[(1, .c (.d (encF 1 d_I s2.1))), (5, .c (.ref 5 0)), (8, .c (.ref 8 0)), (9, .c (.d (.int .i64 s2.2.1))), (11, .c (.d (.int .i64 s2.2.2)))], [(5, [.d (encF 1 d_I x1), .d (.int .i64 x2), .d (.int .i64 x3), .d (.int .i64 x4), .d (.int .i64 x0)]), (8, [.d (.int .i64 v1.1), .d (.int .i64 v1.2.1), .d (encF 2 d_II v1.2.2.1), .d (encF 1 d_LIIE v1.2.2.2.1), .own 15, .own 10015])], [(15, .owned (encF 2 d_II v1.2.2.2.2.1)), (10015, .owned (encF 1 d_LIIE v1.2.2.2.2.2.1))]⟩) (b16_2 x1 x2 x3 x4 x0 v1) (fun q => q = r) hr rfl ?_)
    · exact lf
    · intro s2 hr
      unfold b16_2 at hr
      refine S.gx [5] ?_
      refine gr ?_
      refine iW1 hr (fun hc hr => ?_) fun hc hr => D0 hr
      obtain ⟨v10, hv10, hr⟩ := of_bind1 hr
      refine gb hv10 ?_
      refine iW1 hr (fun hc hr => D0 hr) fun hc hr => ?_
      refine gr ?_
      refine iW1 hr (fun hc hr => D0 hr) fun hc hr => ?_
      obtain ⟨v11, hv11, hr⟩ := of_bind1 hr
      refine gb hv11 ?_
      refine S.share 64 rfl ?_
      exact D1 (S.ss [1, 5, 8, 9, 11] [(5, 5), (8, 8)] [(15, 15), (10015, 10015)]) hr
end

/- martensite/martensiteref03.CopyDrives -/
def b21_1 (a0 : L_LIEI) : Bd ((List (L_I × Int)) × Int) L_LIEI := fun s1 =>
  if (decide (s1.2 < (a0.length : Int))) = true then
   if 0 ≤ s1.2 ∧ s1.2 < (a0.length : Int) then
    bindC (r19 ((a0.getD s1.2.toNat default).1) ((a0.getD s1.2.toNat default).2)) fun v1 =>
     if (s1.1.length + 1) * 32 ≤ 140737488355328 ∧ s1.1.length + 1 ≤ 9223372036854775807 then
      .next (s1.1 ++ [(v1.1, v1.2)], IntKind.i64.wrap (s1.2 + 1))
      else .out none
    else .out none
   else .out (some s1.1)
def r21 (a0 : L_LIEI) : Option (L_LIEI) :=
  iterC (b21_1 a0) 1000000000 ([], 0)
def T21 := qT44 qu22 true r21
attribute [go_sem] T21
def tb21 : Fns := lk [(19, T19.sp)]
theorem tb21_ok : FnsOk Tryz.prog tb21 := .cons f19 .nil
theorem tk21 : tb21 19 = some T19.sp := rfl
section
attribute [local go_sem] tk21 Tryz.results21
theorem f21 : FnFact Tryz.prog 21 T21.sp := by
  refine valid_m ty_ok tb21_ok Tryz.func21 rfl Tryz.ntmps21 fun a0 r hr => ⟨nL rfl, fun stop S => ?_⟩
  replace hr : r21 a0 = some r := hr
  unfold r21 at hr
  refine S.gx [] ?_
  refine gr ?_
  refine S.own0 3 1000300 2 rfl rfl ?_
  refine S.sees [0, 3, 4] [] [(1000300, 1000300)] ?_ (Stop.iter S (fun s1 => ⟨[(0, .c (.d (encF 2 d_LIEI a0))), (3, .c (.own 1000300)), (4, .c (.d (.int .i64 s1.2)))], [], [(1000300, .owned (encF 2 d_LIEI s1.1))]⟩) (b21_1 a0) (fun q => q = r) hr rfl ?_)
  · exact lf
  · intro s1 hr
    unfold b21_1 at hr
    refine S.gx [] ?_
    exact D1 (S.ss [0, 3, 4] [] [(18, 1000300)]) hr
end

/- (martensite/heat.part).drivesErr -/
def b177_1 (x0 x1 : Int) (x2 : L_II) (x3 : L_LIIE) (x4 : L_II) (x5 : L_LIIE) (a1 : L_LIEI) : Bd (Int × Int) Int := fun s1 =>
  if (decide (s1.2 < (a1.length : Int))) = true then
   if 0 ≤ s1.2 ∧ s1.2 < (a1.length : Int) then
    bindC (r81 x0 x1 x2 x3 x4 x5 ((a1.getD s1.2.toNat default).1) ((a1.getD s1.2.toNat default).2)) fun v2 =>
     bindC (r80 [s1.1, v2]) fun v3 =>
      .next (v3, IntKind.i64.wrap (s1.2 + 1))
    else .out none
   else .out (some s1.1)
def r177 (x0 x1 : Int) (x2 : L_II) (x3 : L_LIIE) (x4 : L_II) (x5 : L_LIIE) (a1 : L_LIEI) : Option (Int) :=
  (r83 (decide ((a1.length : Int) ≤ 200)) 8).bind fun v1 =>
   iterC (b177_1 x0 x1 x2 x3 x4 x5 a1) 1000000000 (v1, 0)
def T177 := qT45 qu2 false r177
attribute [go_sem] T177
def tb177 : Fns := lk [(80, T80.sp), (81, T81.sp), (83, T83.sp)]
theorem tb177_ok : FnsOk Tryz.prog tb177 := .cons f80 (.cons f81 (.cons f83 .nil))
theorem tk177 : tb177 80 = some T80.sp ∧ tb177 81 = some T81.sp ∧ tb177 83 = some T83.sp := ⟨rfl, rfl, rfl⟩
section
attribute [local go_sem] tk177 Tryz.results177
theorem f177 : FnFact Tryz.prog 177 T177.sp := by
  refine valid_m ty_ok tb177_ok Tryz.func177 rfl Tryz.ntmps177 fun ⟨x0, x1, x2, x3, x4, x5, a1⟩ r hr => ⟨nL rfl, fun stop S => ?_⟩
  replace hr : r177 x0 x1 x2 x3 x4 x5 a1 = some r := hr
  unfold r177 at hr
  refine S.gx [] ?_
  obtain ⟨v1, hv1, hr⟩ := of_bind0 hr
  refine gb hv1 ?_
  refine S.sees [2, 5, 12, 13, 14] [(2, 2)] [] ?_ (Stop.iter S (fun s1 => ⟨[(2, .c (.ref 2 0)), (5, .c (.d (.int .i64 s1.1))), (12, .c (.d (encF 2 d_LIEI a1))), (13, .c (.d (.int .i64 (a1.length : Int)))), (14, .c (.d (.int .i64 s1.2)))], [(2, [.d (.int .i64 x0), .d (.int .i64 x1), .d (encF 2 d_II x2), .d (encF 1 d_LIIE x3), .d (encF 2 d_II x4), .d (encF 1 d_LIIE x5)])], []⟩) (b177_1 x0 x1 x2 x3 x4 x5 a1) (fun q => q = r) hr rfl ?_)
  · exact lf
  · intro s1 hr
    unfold b177_1 at hr
    refine S.gx [] ?_
    exact D1 (S.ss [2, 5, 12, 13, 14] [(2, 2)] []) hr
end

/- martensite/heat.run -/
def b86_1 (a2 : L_LIEI) (v1 : Int × Int × L_II × L_LIIE × L_II × L_LIIE × Int) : Bd ((List (L_I)) × Int × L_I × Int) (L_LIE × Int × Int) := fun s1 =>
  if (decide (s1.2.2.2 < (a2.length : Int))) = true then
   if 0 ≤ s1.2.2.2 ∧ s1.2.2.2 < (a2.length : Int) then
    bindC (r85 v1.1 v1.2.1 v1.2.2.1 v1.2.2.2.1 v1.2.2.2.2.1 v1.2.2.2.2.2.1 s1.2.2.1 ((a2.getD s1.2.2.2.toNat default).1) ((a2.getD s1.2.2.2.toNat default).2)) fun v3 =>
     if (v3.2.2 != 0) = true then
      .out (some ([], 0, v3.2.2))
      else if (s1.1.length + 1) * 24 ≤ 140737488355328 ∧ s1.1.length + 1 ≤ 9223372036854775807 then
       .next (s1.1 ++ [v3.1], IntKind.i64.wrap (s1.2.1 + v3.2.1), v3.1, IntKind.i64.wrap (s1.2.2.2 + 1))
       else .out none
    else .out none
   else .out (some (s1.1, s1.2.1, 0))
def b86_2 (a2 : L_LIEI) (v1 : Int × Int × L_II × L_LIIE × L_II × L_LIIE × Int) : Bd ((List (L_I)) × Int × L_I × Int) (L_LIE × Int × Int) := fun s2 =>
  if (decide (s2.2.2.2 < (a2.length : Int))) = true then
   if 0 ≤ s2.2.2.2 ∧ s2.2.2.2 < (a2.length : Int) then
    bindC (r85 v1.1 v1.2.1 v1.2.2.1 v1.2.2.2.1 v1.2.2.2.2.1 v1.2.2.2.2.2.1 s2.2.2.1 ((a2.getD s2.2.2.2.toNat default).1) ((a2.getD s2.2.2.2.toNat default).2)) fun v6 =>
     if (v6.2.2 != 0) = true then
      .out (some ([], 0, v6.2.2))
      else if (s2.1.length + 1) * 24 ≤ 140737488355328 ∧ s2.1.length + 1 ≤ 9223372036854775807 then
       .next (s2.1 ++ [v6.1], IntKind.i64.wrap (s2.2.1 + v6.2.1), v6.1, IntKind.i64.wrap (s2.2.2.2 + 1))
       else .out none
    else .out none
   else .out (some (s2.1, s2.2.1, 0))
def r86 (x0 x1 : Int) (x2 : L_II) (x3 : L_LIIE) (a1 : L_I) (a2 : L_LIEI) : Option (L_LIE × Int × Int) :=
  (r78 x0 x1 x2 x3 a1).bind fun v1 =>
   if (v1.2.2.2.2.2.2 == 0) = true then
    (r177 v1.1 v1.2.1 v1.2.2.1 v1.2.2.2.1 v1.2.2.2.2.1 v1.2.2.2.2.2.1 a2).bind fun v2 =>
     if (v2 != 0) = true then
      some ([], 0, v2)
      else iterC (b86_1 a2 v1) 1000000000 ([], 0, a1, 0)
    else if (v1.2.2.2.2.2.2 != 0) = true then
     some ([], 0, v1.2.2.2.2.2.2)
     else iterC (b86_2 a2 v1) 1000000000 ([], 0, a1, 0)
def T86 := qT46 qu23 true r86
attribute [go_sem] T86
def tb86 : Fns := lk [(78, T78.sp), (85, T85.sp), (177, T177.sp)]
theorem tb86_ok : FnsOk Tryz.prog tb86 := .cons f78 (.cons f85 (.cons f177 .nil))
theorem tk86 : tb86 78 = some T78.sp ∧ tb86 85 = some T85.sp ∧ tb86 177 = some T177.sp := ⟨rfl, rfl, rfl⟩
section
attribute [local go_sem] tk86 Tryz.results86
theorem f86 : FnFact Tryz.prog 86 T86.sp := by
  refine valid_m ty_ok tb86_ok Tryz.func86 rfl Tryz.ntmps86 fun ⟨x0, x1, x2, x3, a1, a2⟩ r hr => ⟨nL rfl, fun stop S => ?_⟩
  replace hr : r86 x0 x1 x2 x3 a1 a2 = some r := hr
  unfold r86 at hr
  refine S.gx [] ?_
  obtain ⟨v1, hv1, hr⟩ := of_bind0 hr
  refine gb hv1 ?_
  refine iW hr (fun hc hr => ?_) fun hc hr => ?_
  · obtain ⟨v2, hv2, hr⟩ := of_bind0 hr
    refine gb hv2 ?_
    refine iW hr (fun hc hr => D0 hr) fun hc hr => ?_
    refine gr ?_
    refine S.own0 11 1001100 1 rfl rfl ?_
    refine S.sees [9, 11, 12, 13, 34, 35, 36] [(9, 9)] [(1001100, 1001100), (22, 22), (10022, 10022)] ?_ (Stop.iter S (fun s1 => ⟨[(9, .c (.ref 9 0)), (11, .c (.own 1001100)), (12, .c (.d (.int .i64 s1.2.1))), (13, .c (.d (encF 1 d_I s1.2.2.1))), (34, .c (.d (encF 2 d_LIEI a2))), (35, .c (.d (.int .i64 (a2.length : Int)))), (36, .c (.d (.int .i64 s1.2.2.2)))], [(9, [.d (.int .i64 v1.1), .d (.int .i64 v1.2.1), .d (encF 2 d_II v1.2.2.1), .d (encF 1 d_LIIE v1.2.2.2.1), .own 22, .own 10022])], [(1001100, .owned (encF 1 d_LIE s1.1)), (22, .owned (encF 2 d_II v1.2.2.2.2.1)), (10022, .owned (encF 1 d_LIIE v1.2.2.2.2.2.1))]⟩) (b86_1 a2 v1) (fun q => q = r) hr rfl ?_)
    · exact lf
    · intro s1 hr
      unfold b86_1 at hr
      refine S.gx [] ?_
      exact D1 (S.ss [9, 11, 12, 13, 34, 35, 36] [(9, 9)] [(55, 1001100), (22, 22), (10022, 10022)]) hr
  · refine gr ?_
    refine iW hr (fun hc hr => D0 hr) fun hc hr => ?_
    refine gr ?_
    refine S.own0 11 1001100 1 rfl rfl ?_
    refine S.sees [9, 11, 12, 13, 34, 35, 36] [(9, 9)] [(1001100, 1001100), (22, 22), (10022, 10022)] ?_ (Stop.iter S (fun s2 => ⟨[(9, .c (.ref 9 0)), (11, .c (.own 1001100)), (12, .c (.d (.int .i64 s2.2.1))), (13, .c (.d (encF 1 d_I s2.2.2.1))), (34, .c (.d (encF 2 d_LIEI a2))), (35, .c (.d (.int .i64 (a2.length : Int)))), (36, .c (.d (.int .i64 s2.2.2.2)))], [(9, [.d (.int .i64 v1.1), .d (.int .i64 v1.2.1), .d (encF 2 d_II v1.2.2.1), .d (encF 1 d_LIIE v1.2.2.2.1), .own 22, .own 10022])], [(1001100, .owned (encF 1 d_LIE s2.1)), (22, .owned (encF 2 d_II v1.2.2.2.2.1)), (10022, .owned (encF 1 d_LIIE v1.2.2.2.2.2.1))]⟩) (b86_2 a2 v1) (fun q => q = r) hr rfl ?_)
    · exact lf
    · intro s2 hr
      unfold b86_2 at hr
      refine S.gx [] ?_
      exact D1 (S.ss [9, 11, 12, 13, 34, 35, 36] [(9, 9)] [(55, 1001100), (22, 22), (10022, 10022)]) hr
end

/- martensite/heat.sum -/
def b87_1 (a0 : L_I) : Bd (Int × Int) Int := fun s1 =>
  if (decide (s1.2 < (a0.length : Int))) = true then
   if 0 ≤ s1.2 ∧ s1.2 < (a0.length : Int) then
    .next (IntKind.i64.wrap (s1.1 + (a0.getD s1.2.toNat default)), IntKind.i64.wrap (s1.2 + 1))
    else .out none
   else .out (some s1.1)
def r87 (a0 : L_I) : Option (Int) :=
  iterC (b87_1 a0) 1000000000 (0, 0)
def T87 := qT3 qu2 false r87
attribute [go_sem] T87
def tb87 : Fns := lk []
theorem tb87_ok : FnsOk Tryz.prog tb87 := FnsOk.nil
section
attribute [local go_sem] Tryz.results87
theorem f87 : FnFact Tryz.prog 87 T87.sp := by
  refine valid_m ty_ok tb87_ok Tryz.func87 rfl Tryz.ntmps87 fun a0 r hr => ⟨nL rfl, fun stop S => ?_⟩
  replace hr : r87 a0 = some r := hr
  unfold r87 at hr
  refine S.gx [] ?_
  refine gr ?_
  refine S.sees [3, 6, 7, 8] [] [] ?_ (Stop.iter S (fun s1 => ⟨[(3, .c (.d (.int .i64 s1.1))), (6, .c (.d (encF 1 d_I a0))), (7, .c (.d (.int .i64 (a0.length : Int)))), (8, .c (.d (.int .i64 s1.2)))], [], []⟩) (b87_1 a0) (fun q => q = r) hr rfl ?_)
  · exact lf
  · intro s1 hr
    unfold b87_1 at hr
    refine S.gx [] ?_
    exact D1 (S.ss [3, 6, 7, 8] [] []) hr
end

/- martensite/heat.BalanceOf -/
def b20_1 (a2 : L_LIEI) (v1 : L_LIE × Int × Int) (v2 v3 : Int) : Bd (Int × Int) (Int × Int × Int × Int × Int) := fun s1 =>
  if (decide (s1.1 < (a2.length : Int))) = true then
   if 0 ≤ s1.1 ∧ s1.1 < (a2.length : Int) then
    bindC (r87 ((a2.getD s1.1.toNat default).1)) fun v4 =>
     .next (IntKind.i64.wrap (s1.1 + 1), IntKind.i64.wrap (s1.2 + v4))
    else .out none
   else .out (some (v2, s1.2, v1.2.1, v3, 0))
def b20_2 (a2 : L_LIEI) (v1 : L_LIE × Int × Int) (v2 : Int) : Bd (Int × Int) (Int × Int × Int × Int × Int) := fun s2 =>
  if (decide (s2.1 < (a2.length : Int))) = true then
   if 0 ≤ s2.1 ∧ s2.1 < (a2.length : Int) then
    bindC (r87 ((a2.getD s2.1.toNat default).1)) fun v7 =>
     .next (IntKind.i64.wrap (s2.1 + 1), IntKind.i64.wrap (s2.2 + v7))
    else .out none
   else .out (some (v2, s2.2, v1.2.1, v2, 0))
def r20 (x0 x1 : Int) (x2 : L_II) (x3 : L_LIIE) (a1 : L_I) (a2 : L_LIEI) : Option (Int × Int × Int × Int × Int) :=
  (r86 x0 x1 x2 x3 a1 a2).bind fun v1 =>
   if (v1.2.2 != 0) = true then
    some (0, 0, 0, 0, v1.2.2)
    else (r87 a1).bind fun v2 =>
     if (decide ((v1.1.length : Int) > 0)) = true then
      if 0 ≤ IntKind.i64.wrap ((v1.1.length : Int) - 1) ∧ IntKind.i64.wrap ((v1.1.length : Int) - 1) < (v1.1.length : Int) then
       (r87 (v1.1.getD (IntKind.i64.wrap ((v1.1.length : Int) - 1)).toNat default)).bind fun v3 =>
        iterC (b20_1 a2 v1 v2 v3) 1000000000 (0, 0)
       else none
      else iterC (b20_2 a2 v1 v2) 1000000000 (0, 0)
def T20 := qT46 qu24 false r20
attribute [go_sem] T20
def tb20 : Fns := lk [(86, T86.sp), (87, T87.sp)]
theorem tb20_ok : FnsOk Tryz.prog tb20 := .cons f86 (.cons f87 .nil)
theorem tk20 : tb20 86 = some T86.sp ∧ tb20 87 = some T87.sp := ⟨rfl, rfl⟩
section
attribute [local go_sem] tk20 Tryz.results20
theorem f20 : FnFact Tryz.prog 20 T20.sp := by
  refine valid_m ty_ok tb20_ok Tryz.func20 rfl Tryz.ntmps20 fun ⟨x0, x1, x2, x3, a1, a2⟩ r hr => ⟨nL rfl, fun stop S => ?_⟩
  replace hr : r20 x0 x1 x2 x3 a1 a2 = some r := hr
  unfold r20 at hr
  refine S.gx [8] ?_
  obtain ⟨v1, hv1, hr⟩ := of_bind0 hr
  refine gb hv1 ?_
  refine iW hr (fun hc hr => D0 hr) fun hc hr => ?_
  obtain ⟨v2, hv2, hr⟩ := of_bind0 hr
  refine gb hv2 ?_
  refine iW hr (fun hc hr => ?_) fun hc hr => ?_
  · obtain ⟨hg6, hr⟩ := of_guard0 hr
    obtain ⟨v3, hv3, hr⟩ := of_bind0 hr
    refine gb hv3 ?_
    refine S.prune [2, 6, 11] ?_
    refine S.gx [] ?_
    refine gr ?_
    refine gr ?_
    refine S.sees [6, 11, 44, 45, 46] [(6, 6), (11, 11)] [] ?_ (Stop.iter S (fun s1 => ⟨[(6, .c (.ref 6 0)), (11, .c (.ref 11 0)), (44, .c (.d (encF 2 d_LIEI a2))), (45, .c (.d (.int .i64 (a2.length : Int)))), (46, .c (.d (.int .i64 s1.1)))], [(6, [.d (.int .i64 0), .d (.int .i64 0), .d (.int .i64 0), .d (.int .i64 0)]), (11, [.d (.int .i64 v2), .d (.int .i64 s1.2), .d (.int .i64 v1.2.1), .d (.int .i64 v3)])], []⟩) (b20_1 a2 v1 v2 v3) (fun q => q = r) hr rfl ?_)
    · exact lf
    · intro s1 hr
      unfold b20_1 at hr
      refine S.gx [8] ?_
      exact D1 (S.ss [6, 11, 44, 45, 46] [(6, 6), (11, 11)] []) hr
  · refine gr ?_
    refine S.prune [2, 6, 11] ?_
    refine S.gx [] ?_
    refine gr ?_
    refine gr ?_
    refine S.sees [6, 11, 44, 45, 46] [(6, 6), (11, 11)] [] ?_ (Stop.iter S (fun s2 => ⟨[(6, .c (.ref 6 0)), (11, .c (.ref 11 0)), (44, .c (.d (encF 2 d_LIEI a2))), (45, .c (.d (.int .i64 (a2.length : Int)))), (46, .c (.d (.int .i64 s2.1)))], [(6, [.d (.int .i64 0), .d (.int .i64 0), .d (.int .i64 0), .d (.int .i64 0)]), (11, [.d (.int .i64 v2), .d (.int .i64 s2.2), .d (.int .i64 v1.2.1), .d (.int .i64 v2)])], []⟩) (b20_2 a2 v1 v2) (fun q => q = r) hr rfl ?_)
    · exact lf
    · intro s2 hr
      unfold b20_2 at hr
      refine S.gx [8] ?_
      exact D1 (S.ss [6, 11, 44, 45, 46] [(6, 6), (11, 11)] []) hr
end

/- martensite/heat.RunOf -/
def r22 (x0 x1 : Int) (x2 : L_II) (x3 : L_LIIE) (a1 : L_I) (a2 : L_LIEI) : Option (L_LIE × Int) :=
  (r86 x0 x1 x2 x3 a1 a2).bind fun v1 =>
   some (v1.1, v1.2.2)
def T22 := qT46 qu25 true r22
attribute [go_sem] T22
def tb22 : Fns := lk [(86, T86.sp)]
theorem tb22_ok : FnsOk Tryz.prog tb22 := .cons f86 .nil
theorem tk22 : tb22 86 = some T86.sp := rfl
section
attribute [local go_sem] tk22 Tryz.results22
theorem f22 : FnFact Tryz.prog 22 T22.sp := by
  refine valid_m ty_ok tb22_ok Tryz.func22 rfl Tryz.ntmps22 fun ⟨x0, x1, x2, x3, a1, a2⟩ r hr => ⟨nL rfl, fun stop S => ?_⟩
  replace hr : r22 x0 x1 x2 x3 a1 a2 = some r := hr
  unfold r22 at hr
  refine S.gx [] ?_
  exact D0 hr
end

/- martensite/martensitetop.greatest -/
def b23_1 (a0 : L_I) : Bd (Int × Int) Int := fun s1 =>
  if (decide (s1.2 < (a0.length : Int))) = true then
   if 0 ≤ s1.2 ∧ s1.2 < (a0.length : Int) then
    .next ((if s1.1 < (a0.getD s1.2.toNat default) then (a0.getD s1.2.toNat default) else s1.1), IntKind.i64.wrap (s1.2 + 1))
    else .out none
   else .out (some s1.1)
def r23 (a0 : L_I) : Option (Int) :=
  if 0 ≤ 0 ∧ 0 < (a0.length : Int) then
   iterC (b23_1 a0) 1000000000 ((a0.getD 0 default), 0)
   else none
def T23 := qT3 qu2 false r23
attribute [go_sem] T23
def tb23 : Fns := lk []
theorem tb23_ok : FnsOk Tryz.prog tb23 := FnsOk.nil
section
attribute [local go_sem] Tryz.results23
theorem f23 : FnFact Tryz.prog 23 T23.sp := by
  refine valid_m ty_ok tb23_ok Tryz.func23 rfl Tryz.ntmps23 fun a0 r hr => ⟨nL rfl, fun stop S => ?_⟩
  replace hr : r23 a0 = some r := hr
  unfold r23 at hr
  refine S.gx [] ?_
  obtain ⟨hg2, hr⟩ := of_guard0 hr
  refine gr ?_
  refine S.sees [0, 3, 4] [] [] ?_ (Stop.iter S (fun s1 => ⟨[(0, .c (.d (encF 1 d_I a0))), (3, .c (.d (.int .i64 s1.1))), (4, .c (.d (.int .i64 s1.2)))], [], []⟩) (b23_1 a0) (fun q => q = r) hr rfl ?_)
  · exact lf
  · intro s1 hr
    unfold b23_1 at hr
    refine S.gx [] ?_
    exact D1 (S.ss [0, 3, 4] [] []) hr
end

/- martensite/martensiteref03.CopyBox -/
def r89 (x0 x1 : L_I) : Option (L_I × L_I) :=
  (r17 x0).bind fun v1 =>
   (r17 x1).bind fun v2 =>
    some (v1, v2)
def T89 := qT47 qu26 false r89
attribute [go_sem] T89
def tb89 : Fns := lk [(17, T17.sp)]
theorem tb89_ok : FnsOk Tryz.prog tb89 := .cons f17 .nil
theorem tk89 : tb89 17 = some T17.sp := rfl
section
attribute [local go_sem] tk89 Tryz.results89
theorem f89 : FnFact Tryz.prog 89 T89.sp := by
  refine valid_m ty_ok tb89_ok Tryz.func89 rfl Tryz.ntmps89 fun ⟨x0, x1⟩ r hr => ⟨nL rfl, fun stop S => ?_⟩
  replace hr : r89 x0 x1 = some r := hr
  unfold r89 at hr
  refine S.gx [] ?_
  exact D0 hr
end
end Go.Proofs.YthldpejmofhaoaaGreatDoor

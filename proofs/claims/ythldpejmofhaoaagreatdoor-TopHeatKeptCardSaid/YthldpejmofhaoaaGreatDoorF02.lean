/- Contracts of functions, written by wip/dec. -/
import Derived.Test.YthldpejmofhaoaaGreatDoorF00
import Derived.Test.YthldpejmofhaoaaGreatDoorF01
set_option linter.unusedVariables false
set_option linter.unusedSimpArgs false
set_option maxHeartbeats 4000000
set_option maxRecDepth 20000
namespace Go.Proofs.YthldpejmofhaoaaGreatDoor
open Go.Abs
section
variable {β : Type} [Inhabited β] (u : β → List RV) (al : Bool)
abbrev qF13 (β : Type) := Int → Int → L_II → L_LIIE → L_II → L_LIIE → Int → β
def qw13 (a0 a1 : Int) (a2 : L_II) (a3 : L_LIIE) (a4 : L_II) (a5 : L_LIIE) (a6 : Int) : List Arg := [.agg [.int .i64 a0, .int .i64 a1, encF 2 d_II a2, encF 1 d_LIIE a3, encF 2 d_II a4, encF 1 d_LIIE a5], .c (.int .i64 a6)]
def qd13 (a : List Arg) := (dInt (aCell a 0 0), dInt (aCell a 0 1), decF g_II (aCell a 0 2), decF g_LIIE (aCell a 0 3), decF g_II (aCell a 0 4), decF g_LIIE (aCell a 0 5), dInt (aCell a 1 0))
def qp13 {β : Type} (f : qF13 β) (c0 c1 c2 c3 c4 c5 c6 : D) := f (dInt c0) (dInt c1) (decF g_II c2) (decF g_LIIE c3) (decF g_II c4) (decF g_LIIE c5) (dInt c6)
abbrev qt13 (c0 c1 c2 c3 c4 c5 c6 : D) : List Arg := [.agg [c0, c1, c2, c3, c4, c5], .c c6]
def qT13 (r : qF13 (Option β)) := mkT (u7 qw13) qd13 (u7 r) u al
theorem qP13 (r : qF13 (Option β)) (c0 c1 c2 c3 c4 c5 c6 : D) : PT (qT13 u al r).sp u (qt13 c0 c1 c2 c3 c4 c5 c6) (qp13 qw13 c0 c1 c2 c3 c4 c5 c6) (qp13 r c0 c1 c2 c3 c4 c5 c6) := ⟨rfl, rfl⟩
theorem qa13 (r : qF13 (Option β)) : (qT13 u al r).sp.alias = al := rfl
attribute [go_sem] qw13 qp13 qt13 qP13 qa13
abbrev qF15 (β : Type) := L_I → Int → Int → L_II → L_LIIE → L_II → L_LIIE → β
def qw15 (a0 : L_I) (a1 a2 : Int) (a3 : L_II) (a4 : L_LIIE) (a5 : L_II) (a6 : L_LIIE) : List Arg := [.c (encF 1 d_I a0), .clo 230 [[.int .i64 a1, .int .i64 a2, encF 2 d_II a3, encF 1 d_LIIE a4, encF 2 d_II a5, encF 1 d_LIIE a6]]]
def qd15 (a : List Arg) := (decF g_I (aCell a 0 0), dInt (aCell a 1 0), dInt (aCell a 1 1), decF g_II (aCell a 1 2), decF g_LIIE (aCell a 1 3), decF g_II (aCell a 1 4), decF g_LIIE (aCell a 1 5))
def qp15 {β : Type} (f : qF15 β) (c0 c1 c2 c3 c4 c5 c6 : D) := f (decF g_I c0) (dInt c1) (dInt c2) (decF g_II c3) (decF g_LIIE c4) (decF g_II c5) (decF g_LIIE c6)
abbrev qt15 (c0 c1 c2 c3 c4 c5 c6 : D) : List Arg := [.c c0, .clo 230 [[c1, c2, c3, c4, c5, c6]]]
def qT15 (r : qF15 (Option β)) := mkT (u7 qw15) qd15 (u7 r) u al
theorem qP15 (r : qF15 (Option β)) (c0 c1 c2 c3 c4 c5 c6 : D) : PT (qT15 u al r).sp u (qt15 c0 c1 c2 c3 c4 c5 c6) (qp15 qw15 c0 c1 c2 c3 c4 c5 c6) (qp15 r c0 c1 c2 c3 c4 c5 c6) := ⟨rfl, rfl⟩
theorem qa15 (r : qF15 (Option β)) : (qT15 u al r).sp.alias = al := rfl
attribute [go_sem] qw15 qp15 qt15 qP15 qa15
abbrev qF16 (β : Type) := Int → Int → L_II → L_LIIE → L_II → L_LIIE → L_I → β
def qw16 (a0 a1 : Int) (a2 : L_II) (a3 : L_LIIE) (a4 : L_II) (a5 : L_LIIE) (a6 : L_I) : List Arg := [.agg [.int .i64 a0, .int .i64 a1, encF 2 d_II a2, encF 1 d_LIIE a3, encF 2 d_II a4, encF 1 d_LIIE a5], .c (encF 1 d_I a6)]
def qd16 (a : List Arg) := (dInt (aCell a 0 0), dInt (aCell a 0 1), decF g_II (aCell a 0 2), decF g_LIIE (aCell a 0 3), decF g_II (aCell a 0 4), decF g_LIIE (aCell a 0 5), decF g_I (aCell a 1 0))
def qp16 {β : Type} (f : qF16 β) (c0 c1 c2 c3 c4 c5 c6 : D) := f (dInt c0) (dInt c1) (decF g_II c2) (decF g_LIIE c3) (decF g_II c4) (decF g_LIIE c5) (decF g_I c6)
abbrev qt16 (c0 c1 c2 c3 c4 c5 c6 : D) : List Arg := [.agg [c0, c1, c2, c3, c4, c5], .c c6]
def qT16 (r : qF16 (Option β)) := mkT (u7 qw16) qd16 (u7 r) u al
theorem qP16 (r : qF16 (Option β)) (c0 c1 c2 c3 c4 c5 c6 : D) : PT (qT16 u al r).sp u (qt16 c0 c1 c2 c3 c4 c5 c6) (qp16 qw16 c0 c1 c2 c3 c4 c5 c6) (qp16 r c0 c1 c2 c3 c4 c5 c6) := ⟨rfl, rfl⟩
theorem qa16 (r : qF16 (Option β)) : (qT16 u al r).sp.alias = al := rfl
attribute [go_sem] qw16 qp16 qt16 qP16 qa16
abbrev qF18 (β : Type) := L_I → β
def qw18 (a0 : L_I) : List Arg := [.c (encF 1 d_I a0), .clo 166 []]
def qd18 (a : List Arg) := decF g_I (aCell a 0 0)
def qp18 {β : Type} (f : qF18 β) (c0 : D) := f (decF g_I c0)
abbrev qt18 (c0 : D) : List Arg := [.c c0, .clo 166 []]
def qT18 (r : qF18 (Option β)) := mkT (u1 qw18) qd18 (u1 r) u al
theorem qP18 (r : qF18 (Option β)) (c0 : D) : PT (qT18 u al r).sp u (qt18 c0) (qp18 qw18 c0) (qp18 r c0) := ⟨rfl, rfl⟩
theorem qa18 (r : qF18 (Option β)) : (qT18 u al r).sp.alias = al := rfl
attribute [go_sem] qw18 qp18 qt18 qP18 qa18
abbrev qF19 (β : Type) := Int → Int → L_II → L_LIIE → L_II → L_LIIE → L_I → Int → β
def qw19 (a0 a1 : Int) (a2 : L_II) (a3 : L_LIIE) (a4 : L_II) (a5 : L_LIIE) (a6 : L_I) (a7 : Int) : List Arg := [.agg [.int .i64 a0, .int .i64 a1, encF 2 d_II a2, encF 1 d_LIIE a3, encF 2 d_II a4, encF 1 d_LIIE a5], .agg [encF 1 d_I a6, .int .i64 a7]]
def qd19 (a : List Arg) := (dInt (aCell a 0 0), dInt (aCell a 0 1), decF g_II (aCell a 0 2), decF g_LIIE (aCell a 0 3), decF g_II (aCell a 0 4), decF g_LIIE (aCell a 0 5), decF g_I (aCell a 1 0), dInt (aCell a 1 1))
def qp19 {β : Type} (f : qF19 β) (c0 c1 c2 c3 c4 c5 c6 c7 : D) := f (dInt c0) (dInt c1) (decF g_II c2) (decF g_LIIE c3) (decF g_II c4) (decF g_LIIE c5) (decF g_I c6) (dInt c7)
abbrev qt19 (c0 c1 c2 c3 c4 c5 c6 c7 : D) : List Arg := [.agg [c0, c1, c2, c3, c4, c5], .agg [c6, c7]]
def qT19 (r : qF19 (Option β)) := mkT (u8 qw19) qd19 (u8 r) u al
theorem qP19 (r : qF19 (Option β)) (c0 c1 c2 c3 c4 c5 c6 c7 : D) : PT (qT19 u al r).sp u (qt19 c0 c1 c2 c3 c4 c5 c6 c7) (qp19 qw19 c0 c1 c2 c3 c4 c5 c6 c7) (qp19 r c0 c1 c2 c3 c4 c5 c6 c7) := ⟨rfl, rfl⟩
theorem qa19 (r : qF19 (Option β)) : (qT19 u al r).sp.alias = al := rfl
attribute [go_sem] qw19 qp19 qt19 qP19 qa19
end
/- martensite/heat.open -/
def b98_1 (x2 x3 : Int) (x1 : L_II) (x0 : L_LIIE) (v2 : L_II) : Bd (Int × (List (L_II))) (Int × Int × L_II × L_LIIE × L_II × L_LIIE × Int) := fun s1 =>
  if (decide (s1.1 < (x0.length : Int))) = true then
   if 0 ≤ s1.1 ∧ s1.1 < (x0.length : Int) then
    bindC (r76 (x0.getD s1.1.toNat default)) fun v3 =>
     if (s1.2.length + 1) * 24 ≤ 140737488355328 ∧ s1.2.length + 1 ≤ 9223372036854775807 then
      .next (IntKind.i64.wrap (s1.1 + 1), s1.2 ++ [v3])
      else .out none
    else .out none
   else .out (some (x2, x3, x1, x0, v2, s1.2, 0))
def r98 (x2 x3 : Int) (x1 : L_II) (x0 : L_LIIE) : Option (Int × Int × L_II × L_LIIE × L_II × L_LIIE × Int) :=
  (r72 x2 x3 x1 x0).bind fun v1 =>
   if (v1.2 != 0) = true then
    some (0, 0, [], [], [], [], v1.2)
    else (r75 x1).bind fun v2 =>
     iterC (b98_1 x2 x3 x1 x0 v2) 1000000000 (0, [])
def T98 := qT12 qu7 true r98
attribute [go_sem] T98
def tb98 : Fns := lk [(72, T72.sp), (75, T75.sp), (76, T76.sp)]
theorem tb98_ok : FnsOk Tryz.prog tb98 := .cons f72 (.cons f75 (.cons f76 .nil))
theorem tk98 : tb98 72 = some T72.sp ∧ tb98 75 = some T75.sp ∧ tb98 76 = some T76.sp := ⟨rfl, rfl, rfl⟩
section
attribute [local go_sem] tk98 Tryz.results98
theorem f98 : FnFact Tryz.prog 98 T98.sp := by
  refine valid_m ty_ok tb98_ok Tryz.func98 rfl Tryz.ntmps98 fun ⟨x2, x3, x1, x0⟩ r hr => ⟨nL rfl, fun stop S => ?_⟩
  replace hr : r98 x2 x3 x1 x0 = some r := hr
  unfold r98 at hr
  refine S.gx [] ?_
  obtain ⟨v1, hv1, hr⟩ := of_bind0 hr
  refine gb hv1 ?_
  refine iW hr (fun hc hr => D0 hr) fun hc hr => ?_
  obtain ⟨v2, hv2, hr⟩ := of_bind0 hr
  refine gb hv2 ?_
  refine S.own0b 6 5 2000605 1 rfl rfl (nL rfl) rfl ?_
  refine S.sees [2, 6, 24, 25, 26] [(2, 2), (6, 6)] [(2000605, 2000605), (21, 21)] ?_ (Stop.iter S (fun s1 => ⟨[(2, .c (.ref 2 0)), (6, .c (.ref 6 0)), (24, .c (.d (encF 1 d_LIIE x0))), (25, .c (.d (.int .i64 (x0.length : Int)))), (26, .c (.d (.int .i64 s1.1)))], [(2, [.d (.int .i64 0), .d (.int .i64 0), .nils, .nils, .nils, .nils]), (6, [.d (.int .i64 x2), .d (.int .i64 x3), .d (encF 2 d_II x1), .d (encF 1 d_LIIE x0), .own 21, .own 2000605])], [(2000605, .owned (encF 1 d_LIIE s1.2)), (21, .owned (encF 2 d_II v2))]⟩) (b98_1 x2 x3 x1 x0 v2) (fun q => q = r) hr rfl ?_)
  · exact lf
  · intro s1 hr
    unfold b98_1 at hr
    refine S.gx [] ?_
    exact D1 (S.ss [2, 6, 24, 25, 26] [(2, 2), (6, 6)] [(35, 2000605), (21, 21)]) hr
end

/- (martensite/heat.part).isEnergy -/
def r99 (x1 x2 : Int) (x3 : L_II) (x4 : L_LIIE) (x0 : L_II) (x5 : L_LIIE) (a1 : Int) : Option (Bool) :=
  if 0 ≤ 0 ∧ 0 < (x0.length : Int) then
   if 0 ≤ IntKind.i64.wrap ((x0.length : Int) - 1) ∧ IntKind.i64.wrap ((x0.length : Int) - 1) < (x0.length : Int) then
    (r79 a1 ((x0.getD 0 default).1) ((x0.getD (IntKind.i64.wrap ((x0.length : Int) - 1)).toNat default).1)).bind fun v1 =>
     some v1
    else none
   else none
def T99 := qT13 qu1 false r99
attribute [go_sem] T99
def tb99 : Fns := lk [(79, T79.sp)]
theorem tb99_ok : FnsOk Tryz.prog tb99 := .cons f79 .nil
theorem tk99 : tb99 79 = some T79.sp := rfl
section
attribute [local go_sem] tk99 Tryz.results99
theorem f99 : FnFact Tryz.prog 99 T99.sp := by
  refine valid_m ty_ok tb99_ok Tryz.func99 rfl Tryz.ntmps99 fun ⟨x1, x2, x3, x4, x0, x5, a1⟩ r hr => ⟨nL rfl, fun stop S => ?_⟩
  replace hr : r99 x1 x2 x3 x4 x0 x5 a1 = some r := hr
  unfold r99 at hr
  refine S.gx [] ?_
  exact D0 hr
end

/- (martensite/heat.part).stateErr$1 -/
def r230 (a0 x0 x1 : Int) (x2 : L_II) (x3 : L_LIIE) (x4 : L_II) (x5 : L_LIIE) : Option (Bool) :=
  (r99 x0 x1 x2 x3 x4 x5 a0).bind fun v1 =>
   some (!v1)
def T230 := qT14 qu1 false r230
attribute [go_sem] T230
def tb230 : Fns := lk [(99, T99.sp)]
theorem tb230_ok : FnsOk Tryz.prog tb230 := .cons f99 .nil
theorem tk230 : tb230 99 = some T99.sp := rfl
section
attribute [local go_sem] tk230 Tryz.results230
theorem f230 : FnFact Tryz.prog 230 T230.sp := by
  refine valid_m ty_ok tb230_ok Tryz.func230 rfl Tryz.ntmps230 fun ⟨a0, x0, x1, x2, x3, x4, x5⟩ r hr => ⟨nL rfl, fun stop S => ?_⟩
  replace hr : r230 a0 x0 x1 x2 x3 x4 x5 = some r := hr
  unfold r230 at hr
  refine S.gx [] ?_
  exact D0 hr
end

/- slices.IndexFunc[[]int,int] -/
def b170_1 (a0 : L_I) (x0 x1 : Int) (x2 : L_II) (x3 : L_LIIE) (x4 : L_II) (x5 : L_LIIE) : Bd Int Int := fun s1 =>
  if (decide (s1 < (a0.length : Int))) = true then
   if 0 ≤ s1 ∧ s1 < (a0.length : Int) then
    bindC (r230 (a0.getD s1.toNat default) x0 x1 x2 x3 x4 x5) fun v1 =>
     if v1 = true then
      .out (some s1)
      else .next (IntKind.i64.wrap (s1 + 1))
    else .out none
   else .out (some (-1))
def r170 (a0 : L_I) (x0 x1 : Int) (x2 : L_II) (x3 : L_LIIE) (x4 : L_II) (x5 : L_LIIE) : Option (Int) :=
  iterC (b170_1 a0 x0 x1 x2 x3 x4 x5) 1000000000 0
def T170 := qT15 qu2 false r170
attribute [go_sem] T170
def tb170 : Fns := lk [(230, T230.sp)]
theorem tb170_ok : FnsOk Tryz.prog tb170 := .cons f230 .nil
theorem tk170 : tb170 230 = some T230.sp := rfl
section
attribute [local go_sem] tk170 Tryz.results170
theorem f170 : FnFact Tryz.prog 170 T170.sp := by
  refine valid_m ty_ok tb170_ok Tryz.func170 rfl Tryz.ntmps170 fun ⟨a0, x0, x1, x2, x3, x4, x5⟩ r hr => ⟨nL rfl, fun stop S => ?_⟩
  replace hr : r170 a0 x0 x1 x2 x3 x4 x5 = some r := hr
  unfold r170 at hr
  refine S.gx [] ?_
  refine gr ?_
  refine S.sees [0, 1, 7, 8] [] [] ?_ (Stop.iter S (fun s1 => ⟨[(0, .c (.d (encF 1 d_I a0))), (1, .c (.clo 230 [.sptr [.int .i64 x0, .int .i64 x1, encF 2 d_II x2, encF 1 d_LIIE x3, encF 2 d_II x4, encF 1 d_LIIE x5] 0])), (7, .c (.d (.int .i64 (a0.length : Int)))), (8, .c (.d (.int .i64 s1)))], [], []⟩) (b170_1 a0 x0 x1 x2 x3 x4 x5) (fun q => q = r) hr rfl ?_)
  · exact lf
  · intro s1 hr
    unfold b170_1 at hr
    refine S.gx [] ?_
    exact D1 (S.ss [0, 1, 7, 8] [] []) hr
end

/- (martensite/heat.part).stateErr -/
def r165 (x0 x1 : Int) (x2 : L_II) (x3 : L_LIIE) (x4 : L_II) (x5 : L_LIIE) (a1 : L_I) : Option (Int × Int) :=
  if ((a1.length : Int) != x0) = true then
   some (0, 10)
   else (r170 a1 x0 x1 x2 x3 x4 x5).bind fun v1 =>
    if (decide (v1 ≥ 0)) = true then
     some (v1, 2)
     else some (0, 0)
def T165 := qT16 qu3 false r165
attribute [go_sem] T165
def tb165 : Fns := lk [(170, T170.sp)]
theorem tb165_ok : FnsOk Tryz.prog tb165 := .cons f170 .nil
theorem tk165 : tb165 170 = some T170.sp := rfl
section
attribute [local go_sem] tk165 Tryz.results165
theorem f165 : FnFact Tryz.prog 165 T165.sp := by
  refine valid_m ty_ok tb165_ok Tryz.func165 rfl Tryz.ntmps165 fun ⟨x0, x1, x2, x3, x4, x5, a1⟩ r hr => ⟨nL rfl, fun stop S => ?_⟩
  replace hr : r165 x0 x1 x2 x3 x4 x5 a1 = some r := hr
  unfold r165 at hr
  refine S.gx [] ?_
  exact D0 hr
end

/- martensite/heat.openState -/
def r78 (x0 x1 : Int) (x2 : L_II) (x3 : L_LIIE) (a1 : L_I) : Option (Int × Int × L_II × L_LIIE × L_II × L_LIIE × Int) :=
  (r98 x0 x1 x2 x3).bind fun v1 =>
   if (v1.2.2.2.2.2.2 == 0) = true then
    (r165 v1.1 v1.2.1 v1.2.2.1 v1.2.2.2.1 v1.2.2.2.2.1 v1.2.2.2.2.2.1 a1).bind fun v2 =>
     some (v1.1, v1.2.1, v1.2.2.1, v1.2.2.2.1, v1.2.2.2.2.1, v1.2.2.2.2.2.1, v2.2)
    else some (v1.1, v1.2.1, v1.2.2.1, v1.2.2.2.1, v1.2.2.2.2.1, v1.2.2.2.2.2.1, v1.2.2.2.2.2.2)
def T78 := qT17 qu7 true r78
attribute [go_sem] T78
def tb78 : Fns := lk [(98, T98.sp), (165, T165.sp)]
theorem tb78_ok : FnsOk Tryz.prog tb78 := .cons f98 (.cons f165 .nil)
theorem tk78 : tb78 98 = some T98.sp ∧ tb78 165 = some T165.sp := ⟨rfl, rfl⟩
section
attribute [local go_sem] tk78 Tryz.results78
theorem f78 : FnFact Tryz.prog 78 T78.sp := by
  refine valid_m ty_ok tb78_ok Tryz.func78 rfl Tryz.ntmps78 fun ⟨x0, x1, x2, x3, a1⟩ r hr => ⟨nL rfl, fun stop S => ?_⟩
  replace hr : r78 x0 x1 x2 x3 a1 = some r := hr
  unfold r78 at hr
  refine S.gx [] ?_
  exact D0 hr
end

/- martensite/heat.isPower -/
def r167 (a0 : Int) : Option (Bool) :=
  (r79 a0 0 10000).bind fun v1 =>
   some v1
def T167 := qT4 qu1 false r167
attribute [go_sem] T167
def tb167 : Fns := lk [(79, T79.sp)]
theorem tb167_ok : FnsOk Tryz.prog tb167 := .cons f79 .nil
theorem tk167 : tb167 79 = some T79.sp := rfl
section
attribute [local go_sem] tk167 Tryz.results167
theorem f167 : FnFact Tryz.prog 167 T167.sp := by
  refine valid_m ty_ok tb167_ok Tryz.func167 rfl Tryz.ntmps167 fun a0 r hr => ⟨nL rfl, fun stop S => ?_⟩
  replace hr : r167 a0 = some r := hr
  unfold r167 at hr
  refine S.gx [] ?_
  exact D0 hr
end

/- (martensite/heat.part).driveErr$1 -/
def r166 (a0 : Int) : Option (Bool) :=
  (r167 a0).bind fun v1 =>
   some (!v1)
def T166 := qT4 qu1 false r166
attribute [go_sem] T166
def tb166 : Fns := lk [(167, T167.sp)]
theorem tb166_ok : FnsOk Tryz.prog tb166 := .cons f167 .nil
theorem tk166 : tb166 167 = some T167.sp := rfl
section
attribute [local go_sem] tk166 Tryz.results166
theorem f166 : FnFact Tryz.prog 166 T166.sp := by
  refine valid_m ty_ok tb166_ok Tryz.func166 rfl Tryz.ntmps166 fun a0 r hr => ⟨nL rfl, fun stop S => ?_⟩
  replace hr : r166 a0 = some r := hr
  unfold r166 at hr
  refine S.gx [] ?_
  exact D0 hr
end

/- slices.IndexFunc[[]int,int] -/
def b170a_1 (a0 : L_I) : Bd Int Int := fun s1 =>
  if (decide (s1 < (a0.length : Int))) = true then
   if 0 ≤ s1 ∧ s1 < (a0.length : Int) then
    bindC (r166 (a0.getD s1.toNat default)) fun v1 =>
     if v1 = true then
      .out (some s1)
      else .next (IntKind.i64.wrap (s1 + 1))
    else .out none
   else .out (some (-1))
def r170a (a0 : L_I) : Option (Int) :=
  iterC (b170a_1 a0) 1000000000 0
def T170a := qT18 qu2 false r170a
attribute [go_sem] T170a
def tb170a : Fns := lk [(166, T166.sp)]
theorem tb170a_ok : FnsOk Tryz.prog tb170a := .cons f166 .nil
theorem tk170a : tb170a 166 = some T166.sp := rfl
section
attribute [local go_sem] tk170a Tryz.results170
theorem f170a : FnFact Tryz.prog 170 T170a.sp := by
  refine valid_m ty_ok tb170a_ok Tryz.func170 rfl Tryz.ntmps170 fun a0 r hr => ⟨nL rfl, fun stop S => ?_⟩
  replace hr : r170a a0 = some r := hr
  unfold r170a at hr
  refine S.gx [] ?_
  refine gr ?_
  refine S.sees [0, 1, 7, 8] [] [] ?_ (Stop.iter S (fun s1 => ⟨[(0, .c (.d (encF 1 d_I a0))), (1, .c (.clo 166 [])), (7, .c (.d (.int .i64 (a0.length : Int)))), (8, .c (.d (.int .i64 s1)))], [], []⟩) (b170a_1 a0) (fun q => q = r) hr rfl ?_)
  · exact lf
  · intro s1 hr
    unfold b170a_1 at hr
    refine S.gx [] ?_
    exact D1 (S.ss [0, 1, 7, 8] [] []) hr
end

/- slices.ContainsFunc[[]int,int] -/
def r104 (a0 : L_I) : Option (Bool) :=
  (r170a a0).bind fun v1 =>
   some (decide (v1 ≥ 0))
def T104 := qT18 qu1 false r104
attribute [go_sem] T104
def tb104 : Fns := lk [(170, T170a.sp)]
theorem tb104_ok : FnsOk Tryz.prog tb104 := .cons f170a .nil
theorem tk104 : tb104 170 = some T170a.sp := rfl
section
attribute [local go_sem] tk104 Tryz.results104
theorem f104 : FnFact Tryz.prog 104 T104.sp := by
  refine valid_m ty_ok tb104_ok Tryz.func104 rfl Tryz.ntmps104 fun a0 r hr => ⟨nL rfl, fun stop S => ?_⟩
  replace hr : r104 a0 = some r := hr
  unfold r104 at hr
  refine S.gx [] ?_
  exact D0 hr
end

/- (martensite/heat.part).lawIndexErr -/
def r168 (x1 x2 : Int) (x3 : L_II) (x4 : L_LIIE) (x5 : L_II) (x0 : L_LIIE) (a1 : Int) : Option (Int) :=
  (r79 a1 0 (IntKind.i64.wrap ((x0.length : Int) - 1))).bind fun v1 =>
   (r83 v1 6).bind fun v2 =>
    some v2
def T168 := qT13 qu2 false r168
attribute [go_sem] T168
def tb168 : Fns := lk [(79, T79.sp), (83, T83.sp)]
theorem tb168_ok : FnsOk Tryz.prog tb168 := .cons f79 (.cons f83 .nil)
theorem tk168 : tb168 79 = some T79.sp ∧ tb168 83 = some T83.sp := ⟨rfl, rfl⟩
section
attribute [local go_sem] tk168 Tryz.results168
theorem f168 : FnFact Tryz.prog 168 T168.sp := by
  refine valid_m ty_ok tb168_ok Tryz.func168 rfl Tryz.ntmps168 fun ⟨x1, x2, x3, x4, x5, x0, a1⟩ r hr => ⟨nL rfl, fun stop S => ?_⟩
  replace hr : r168 x1 x2 x3 x4 x5 x0 a1 = some r := hr
  unfold r168 at hr
  refine S.gx [] ?_
  exact D0 hr
end

/- (martensite/heat.part).driveErr -/
def r81 (x0 x2 : Int) (x3 : L_II) (x4 : L_LIIE) (x5 : L_II) (x6 : L_LIIE) (x1 : L_I) (x7 : Int) : Option (Int) :=
  (r104 x1).bind fun v1 =>
   (r83 ((x1.length : Int) == x0) 10).bind fun v2 =>
    (r83 (!v1) 2).bind fun v3 =>
     (r168 x0 x2 x3 x4 x5 x6 x7).bind fun v4 =>
      (r80 [v2, v3, v4]).bind fun v5 =>
       some v5
def T81 := qT19 qu2 false r81
attribute [go_sem] T81
def tb81 : Fns := lk [(80, T80.sp), (83, T83.sp), (104, T104.sp), (168, T168.sp)]
theorem tb81_ok : FnsOk Tryz.prog tb81 := .cons f80 (.cons f83 (.cons f104 (.cons f168 .nil)))
theorem tk81 : tb81 80 = some T80.sp ∧ tb81 83 = some T83.sp ∧ tb81 104 = some T104.sp ∧ tb81 168 = some T168.sp := ⟨rfl, rfl, rfl, rfl⟩
section
attribute [local go_sem] tk81 Tryz.results81
theorem f81 : FnFact Tryz.prog 81 T81.sp := by
  refine valid_m ty_ok tb81_ok Tryz.func81 rfl Tryz.ntmps81 fun ⟨x0, x2, x3, x4, x5, x6, x1, x7⟩ r hr => ⟨nL rfl, fun stop S => ?_⟩
  replace hr : r81 x0 x2 x3 x4 x5 x6 x1 x7 = some r := hr
  unfold r81 at hr
  refine S.gx [] ?_
  exact D0 hr
end

/- slices.Clone: by hand -/
def r173 (a0 : List (Int)) : Option (List (Int)) := if a0.length * 8 ≤ 140737488355328 ∧ a0.length ≤ 9223372036854775807 then some a0 else none
def T173 : TSpec (List (Int)) where
  enc x := [.c (encF 1 d_I x)]
  dec a := decF g_I (aCell a 0 0)
  pre x := (r173 x).isSome = true
  res x := [.c (.own (encF 1 d_I ((r173 x).getD default)))]
  al := false
theorem TP173 (c0 : D) : T173.sp.pre [.c c0] = (eqvArgs [.c c0] [.c (encF 1 d_I (decF g_I c0))] ∧ (r173 (decF g_I c0)).isSome = true) := (rfl)
theorem TR173 (c0 : D) : T173.sp.res [.c c0] = [.c (.own (encF 1 d_I ((r173 (decF g_I c0)).getD default)))] := (rfl)
theorem TA173 : T173.sp.alias = false := (rfl)
attribute [go_sem] TP173 TR173 TA173
theorem v173 : Valid Tryz.prog 173 T173.sp := by
 refine valid_t (fn := Tryz.f173) (n := 8) ty_ok FnsOk.nil Tryz.func173 rfl Tryz.ntmps173 ?_
 rintro a0 hx
 obtain ⟨r, hr⟩ := oE (show (r173 a0).isSome = true from hx)
 have hres : T173.res a0 = [.c (.own (encF 1 d_I r))] := by simp only [T173, hr, Option.getD_some]
 refine ⟨nL rfl, fun stop S => ?_⟩
 rw [hres] at S
 unfold r173 at hr
 obtain ⟨hg, hr⟩ := of_guard0 hr
 cases hr
 refine S.goB [1] 1000 ?_
 simp only [go_sem, T173, Bool.not_true, Bool.not_false, Option.map_some, Int.reduceToNat, Nat.reduceEqDiff, Nat.reduceBEq, Nat.reduceLT, Nat.reduceAdd, Nat.reduceMul, Nat.reduceSub, Nat.reduceLeDiff, ↓reduceIte, reduceCtorEq, Tryz.results173]
 refine S.eqnil 0 3 4 26 26 3 rfl rfl rfl rfl rfl rfl rfl rfl rfl rfl (by decide) (by decide) ?_
 intro b hb
 refine S.goB [] 1000 ?_
 simp only [go_sem, T173, Bool.not_true, Bool.not_false, Option.map_some, Int.reduceToNat, Nat.reduceEqDiff, Nat.reduceBEq, Nat.reduceLT, Nat.reduceAdd, Nat.reduceMul, Nat.reduceSub, Nat.reduceLeDiff, ↓reduceIte, reduceCtorEq, Tryz.results173]
 have hb' : b = true → a0.length = 0 := hb
 refine ⟨?_, ?_⟩ <;> intro hc
 ·simpa using hb' hc
 ·refine ⟨by omega, by omega, ?_⟩
  (simp (maxDischargeDepth := 8) [go_sem])
theorem f173 : FnFact Tryz.prog 173 T173.sp := ⟨⟨Tryz.f173, Tryz.func173, by decide, rfl⟩, v173⟩

/- (martensite/heat.part).kelvin -/
def r100 (x1 x2 : Int) (x3 : L_II) (x4 : L_LIIE) (x0 : L_II) (x5 : L_LIIE) (a1 : Int) : Option (Int × Int) :=
  (r189 x0 a1 1).bind fun v1 =>
   some (v1.1, v1.2)
def T100 := qT13 qu6 false r100
attribute [go_sem] T100
def tb100 : Fns := lk [(189, T189.sp)]
theorem tb100_ok : FnsOk Tryz.prog tb100 := .cons f189 .nil
theorem tk100 : tb100 189 = some T189.sp := rfl
section
attribute [local go_sem] tk100 Tryz.results100
theorem f100 : FnFact Tryz.prog 100 T100.sp := by
  refine valid_m ty_ok tb100_ok Tryz.func100 rfl Tryz.ntmps100 fun ⟨x1, x2, x3, x4, x0, x5, a1⟩ r hr => ⟨nL rfl, fun stop S => ?_⟩
  replace hr : r100 x1 x2 x3 x4 x0 x5 a1 = some r := hr
  unfold r100 at hr
  refine S.gx [] ?_
  exact D0 hr
end

/- martensite/heat.floor -/
def r231 (a0 a1 : Int) : Option (Int) :=
  if a1 ≠ 0 then
   if a1 ≠ 0 then
    if (decide ((a0.tmod a1) < 0)) = true then
     some (IntKind.i64.wrap ((IntKind.i64.wrap (a0.tdiv a1)) - 1))
     else some (IntKind.i64.wrap (a0.tdiv a1))
    else none
   else none
def T231 := qT7 qu2 false r231
attribute [go_sem] T231
def tb231 : Fns := lk []
theorem tb231_ok : FnsOk Tryz.prog tb231 := FnsOk.nil
section
attribute [local go_sem] Tryz.results231
theorem f231 : FnFact Tryz.prog 231 T231.sp := by
  refine valid_m ty_ok tb231_ok Tryz.func231 rfl Tryz.ntmps231 fun ⟨a0, a1⟩ r hr => ⟨nL rfl, fun stop S => ?_⟩
  replace hr : r231 a0 a1 = some r := hr
  unfold r231 at hr
  refine S.gx [] ?_
  exact D0 hr
end

/- (martensite/heat.part).loss -/
def r175 (x1 x2 : Int) (x3 : L_II) (x4 : L_LIIE) (x5 : L_II) (x0 : L_LIIE) (a1 a2 : Int) : Option (Int) :=
  if 0 ≤ a1 ∧ a1 < (x0.length : Int) then
   (r100 x1 x2 x3 x4 x5 x0 a2).bind fun v1 =>
    (r189 (x0.getD a1.toNat default) v1.1 v1.2).bind fun v2 =>
     (r231 v2.1 v2.2).bind fun v3 =>
      some v3
   else none
def T175 := qT20 qu2 false r175
attribute [go_sem] T175
def tb175 : Fns := lk [(100, T100.sp), (189, T189.sp), (231, T231.sp)]
theorem tb175_ok : FnsOk Tryz.prog tb175 := .cons f100 (.cons f189 (.cons f231 .nil))
theorem tk175 : tb175 100 = some T100.sp ∧ tb175 189 = some T189.sp ∧ tb175 231 = some T231.sp := ⟨rfl, rfl, rfl⟩
section
attribute [local go_sem] tk175 Tryz.results175
theorem f175 : FnFact Tryz.prog 175 T175.sp := by
  refine valid_m ty_ok tb175_ok Tryz.func175 rfl Tryz.ntmps175 fun ⟨x1, x2, x3, x4, x5, x0, a1, a2⟩ r hr => ⟨nL rfl, fun stop S => ?_⟩
  replace hr : r175 x1 x2 x3 x4 x5 x0 a1 a2 = some r := hr
  unfold r175 at hr
  refine S.gx [] ?_
  exact D0 hr
end
end Go.Proofs.YthldpejmofhaoaaGreatDoor

/- Contracts of functions, written by wip/dec. -/
import Derived.Test.YtdlogfepbkojkaaGreatDoorF00
import Derived.Test.YtdlogfepbkojkaaGreatDoorF01
set_option linter.unusedVariables false
set_option linter.unusedSimpArgs false
set_option maxHeartbeats 4000000
set_option maxRecDepth 20000
namespace Go.Proofs.YtdlogfepbkojkaaGreatDoor
open Go.Abs
abbrev qA11 := (List (Int))
def qw11 (a0 : List (Int)) : List Arg := [.c (encF 1 d_I a0), .clo 73 []]
def qE11 : qA11 → List Arg := qw11
def qd11 (a : List Arg) : qA11 := decF g_I (aCell a 0 0)
def qp11 {β : Type} (f : (List (Int)) → β) (c0 : D) : β := f (decF g_I c0)
def qt11 (c0 : D) : List Arg := [.c c0, .clo 73 []]
attribute [go_sem] qw11 qp11 qt11 qE11
abbrev qA12 := Int × Int × Int
def qw12 (a0 : Int) (a1 : Int) (a2 : Int) : List Arg := [.agg [.int .i64 a0, .int .i64 a1, .int .i64 a2]]
def qE12 : qA12 → List Arg := fun ⟨a0, a1, a2⟩ => qw12 a0 a1 a2
def qd12 (a : List Arg) : qA12 := (dInt (aCell a 0 0), dInt (aCell a 0 1), dInt (aCell a 0 2))
def qp12 {β : Type} (f : Int → Int → Int → β) (c0 c1 c2 : D) : β := f (dInt c0) (dInt c1) (dInt c2)
def qt12 (c0 c1 c2 : D) : List Arg := [.agg [c0, c1, c2]]
attribute [go_sem] qw12 qp12 qt12 qE12
abbrev qA13 := Int × Int × Int × Int × Int
def qw13 (a0 : Int) (a1 : Int) (a2 : Int) (a3 : Int) (a4 : Int) : List Arg := [.agg [.int .i64 a0, .int .i64 a1, .int .i64 a2, .int .i64 a3], .ptr [.int .i64 a4]]
def qE13 : qA13 → List Arg := fun ⟨a0, a1, a2, a3, a4⟩ => qw13 a0 a1 a2 a3 a4
def qd13 (a : List Arg) : qA13 := (dInt (aCell a 0 0), dInt (aCell a 0 1), dInt (aCell a 0 2), dInt (aCell a 0 3), dInt (aCell a 1 0))
def qp13 {β : Type} (f : Int → Int → Int → Int → Int → β) (c0 c1 c2 c3 c4 : D) : β := f (dInt c0) (dInt c1) (dInt c2) (dInt c3) (dInt c4)
def qt13 (c0 c1 c2 c3 c4 : D) : List Arg := [.agg [c0, c1, c2, c3], .ptr [c4]]
attribute [go_sem] qw13 qp13 qt13 qE13
abbrev qA15 := Int × Int × Int
def qw15 (a0 : Int) (a1 : Int) (a2 : Int) : List Arg := [.agg [.int .i64 a0, .int .i64 a1], .c (.int .i64 a2)]
def qE15 : qA15 → List Arg := fun ⟨a0, a1, a2⟩ => qw15 a0 a1 a2
def qd15 (a : List Arg) : qA15 := (dInt (aCell a 0 0), dInt (aCell a 0 1), dInt (aCell a 1 0))
def qp15 {β : Type} (f : Int → Int → Int → β) (c0 c1 c2 : D) : β := f (dInt c0) (dInt c1) (dInt c2)
def qt15 (c0 c1 c2 : D) : List Arg := [.agg [c0, c1], .c c2]
attribute [go_sem] qw15 qp15 qt15 qE15
abbrev qA16 := Int × Int × Int × Int × Int × Int
def qw16 (a0 : Int) (a1 : Int) (a2 : Int) (a3 : Int) (a4 : Int) (a5 : Int) : List Arg := [.agg [.int .i64 a0, .int .i64 a1, .int .i64 a2, .int .i64 a3, .int .i64 a4], .ptr [.int .i64 a5]]
def qE16 : qA16 → List Arg := fun ⟨a0, a1, a2, a3, a4, a5⟩ => qw16 a0 a1 a2 a3 a4 a5
def qd16 (a : List Arg) : qA16 := (dInt (aCell a 0 0), dInt (aCell a 0 1), dInt (aCell a 0 2), dInt (aCell a 0 3), dInt (aCell a 0 4), dInt (aCell a 1 0))
def qp16 {β : Type} (f : Int → Int → Int → Int → Int → Int → β) (c0 c1 c2 c3 c4 c5 : D) : β := f (dInt c0) (dInt c1) (dInt c2) (dInt c3) (dInt c4) (dInt c5)
def qt16 (c0 c1 c2 c3 c4 c5 : D) : List Arg := [.agg [c0, c1, c2, c3, c4], .ptr [c5]]
attribute [go_sem] qw16 qp16 qt16 qE16
abbrev qA17 := (List (Int × Int × Int × Int × Int)) × Int
def qw17 (a0 : List (Int × Int × Int × Int × Int)) (a1 : Int) : List Arg := [.c (encF 5 d_IIIII a0), .clo 123 [[.int .i64 a1]]]
def qE17 : qA17 → List Arg := fun ⟨a0, a1⟩ => qw17 a0 a1
def qd17 (a : List Arg) : qA17 := (decF g_IIIII (aCell a 0 0), dInt (aCell a 1 0))
def qp17 {β : Type} (f : (List (Int × Int × Int × Int × Int)) → Int → β) (c0 c1 : D) : β := f (decF g_IIIII c0) (dInt c1)
def qt17 (c0 c1 : D) : List Arg := [.c c0, .clo 123 [[c1]]]
attribute [go_sem] qw17 qp17 qt17 qE17
def qu6 (v : (Option (Int × Int × Int × Int))) : List RV := [.c (.d (encP d_IIII v))]
attribute [go_sem] qu6
def qu7 (v : (Option (Int × Int × Int × Int × Int))) : List RV := [.c (.d (encP d_IIIII v))]
attribute [go_sem] qu7
/- slices.IsSorted[[]int,int] -/
def b90_1 (a0 : List (Int)) : (Int) → Ctl (Int) (Bool) := fun s1 =>
  if (decide (s1 > 0)) = true then
   if 0 ≤ s1 ∧ s1 < (a0.length : Int) then
    if 0 ≤ IntKind.i64.wrap (s1 - 1) ∧ IntKind.i64.wrap (s1 - 1) < (a0.length : Int) then
     bindC (r114 (a0.getD s1.toNat default) (a0.getD (IntKind.i64.wrap (s1 - 1)).toNat default)) fun v1 =>
      if v1 = true then
       .out (some false)
       else .next (IntKind.i64.wrap (s1 - 1))
     else .out none
    else .out none
   else .out (some true)
def r90 (a0 : List (Int)) : Option (Bool) :=
  iterC (b90_1 a0) 1000000000 (IntKind.i64.wrap ((a0.length : Int) - 1))
def T90 : TSpec qA6 := mkT qE6 qd6 r90 qu3 false
theorem TP90 (c0 : D) : T90.sp.pre [.c c0] = (eqvArgs (qt6 c0) (qp6 qw6 c0) ∧ (qp6 r90 c0).isSome = true) := (rfl)
theorem TR90 (c0 : D) : T90.sp.res [.c c0] = qu3 ((qp6 r90 c0).getD default) := (rfl)
theorem TA90 : T90.sp.alias = false := (rfl)
def tb90 : Fns := lk [(114, T114.sp)]
theorem tb90_ok : FnsOk Tryz.prog tb90 := .cons f114 (FnsOk.nil)
theorem tb90_114 : tb90 114 = some T114.sp := rfl
attribute [go_sem] TP90 TR90 TA90
section
attribute [local go_sem] T90 tb90_114 Tryz.results90
theorem v90 : Valid Tryz.prog 90 T90.sp := by
 refine valid_t (fn := Tryz.f90) (n := 21) ty_ok tb90_ok Tryz.func90 rfl Tryz.ntmps90 ?_
 rintro a0 hx
 obtain ⟨r, hr⟩ := oE (show (r90 a0).isSome = true from hx)
 have hres : T90.res a0 = qu3 r := by simp only [T90, mkT, hr, oG]
 refine ⟨nL rfl, fun stop S => ?_⟩
 rw [hres] at S
 unfold r90 at hr
 refine S.gx [] ?_
 repeat refine gA ?_
 refine S.sees [0, 3] [] [] ?_ (Stop.iter S (fun s1 => ⟨[(0, .c (.d (encF 1 d_I a0))), (3, .c (.d (.int .i64 s1)))], [], []⟩) (b90_1 a0) (fun q => q = r) hr rfl ?_)
 ·exact lf
 ·intro s1 hr
  unfold b90_1 at hr
  refine S.gx [] ?_
  repeat refine gA ?_
  refine ⟨?_, ?_⟩ <;> intro hc
  ·have hr := ifP1 hr hc
   obtain ⟨hg2, hr⟩ := of_guard1 hr
   obtain ⟨hg3, hr⟩ := of_guard1 hr
   obtain ⟨v1, hv1, hr⟩ := of_bind1 hr
   try simp only [hv1, oG, oI, true_and, and_assoc]
   repeat refine gA ?_
   refine ⟨?_, ?_⟩ <;> intro hc
   ·have hr := ifP1 hr hc
    repeat refine gA ?_
    have hr := of_out0 hr
    cases hr
    exact lf
   ·have hr := ifN1 hr hc
    repeat refine gA ?_
    refine S.sees [0, 3] [] [] ?_ hr
    exact lf
  ·have hr := ifN1 hr hc
   repeat refine gA ?_
   have hr := of_out0 hr
   repeat refine gA ?_
   cases hr
   exact lf
theorem f90 : FnFact Tryz.prog 90 T90.sp := ⟨⟨Tryz.f90, Tryz.func90, by decide, rfl⟩, v90⟩
end

/- martensite/steel.CheckRules -/
def b65_4 (x0 : Int) (x1 : Int) (x2 : Int) (x3 : Int) (v1 : (List (Int × (List (Int × Int)) × Int)) × (List (Int × (List (Int × Int)) × Int)) × (List (Int × (List (Int × Int)) × Int)) × (List (Int × (List (Int × Int)) × Int))) : ((Option (Int × (List (Int × Int)) × Int)) × Int) → Ctl ((Option (Int × (List (Int × Int)) × Int)) × Int) (Int × Int) := fun s4 =>
  if (decide (s4.2 < (v1.2.2.2.length : Int))) = true then
   if 0 ≤ s4.2 ∧ s4.2 < (v1.2.2.2.length : Int) then
    bindC (r88 ((v1.2.2.2.getD s4.2.toNat default).1) ((v1.2.2.2.getD s4.2.toNat default).2.1) ((v1.2.2.2.getD s4.2.toNat default).2.2) s4.1 0) fun v11 =>
     if (v11 != 0) = true then
      .out (some (s4.2, v11))
      else if 0 ≤ s4.2 ∧ s4.2 < (v1.2.2.2.length : Int) then
       .next (some ((v1.2.2.2.getD s4.2.toNat default).1, (v1.2.2.2.getD s4.2.toNat default).2.1, (v1.2.2.2.getD s4.2.toNat default).2.2), IntKind.i64.wrap (s4.2 + 1))
       else .out none
    else .out none
   else .out (if (decide ((v1.1.length : Int) > 0)) = true then
    if (decide ((v1.2.1.length : Int) > 0)) = true → 0 ≤ IntKind.i64.wrap ((v1.2.1.length : Int) - 1) ∧ IntKind.i64.wrap ((v1.2.1.length : Int) - 1) < (v1.2.1.length : Int) then
     if (decide ((v1.2.1.length : Int) > 0)) = true → 0 ≤ 0 ∧ 0 < (v1.1.length : Int) then
      if ((decide ((v1.2.1.length : Int) > 0)) && (decide (((v1.2.1.getD (IntKind.i64.wrap ((v1.2.1.length : Int) - 1)).toNat default).1) ≥ ((v1.1.getD 0 default).1)))) = true then
       some (0, 13)
       else if (decide ((v1.2.2.1.length : Int) > 0)) = true → 0 ≤ IntKind.i64.wrap ((v1.2.2.1.length : Int) - 1) ∧ IntKind.i64.wrap ((v1.2.2.1.length : Int) - 1) < (v1.2.2.1.length : Int) then
        if (decide ((v1.2.2.1.length : Int) > 0)) = true → 0 ≤ 0 ∧ 0 < (v1.1.length : Int) then
         if ((decide ((v1.2.2.1.length : Int) > 0)) && (decide (((v1.2.2.1.getD (IntKind.i64.wrap ((v1.2.2.1.length : Int) - 1)).toNat default).1) ≥ ((v1.1.getD 0 default).1)))) = true then
          some (0, 13)
          else if (decide ((v1.2.2.2.length : Int) > 0)) = true → 0 ≤ IntKind.i64.wrap ((v1.2.2.2.length : Int) - 1) ∧ IntKind.i64.wrap ((v1.2.2.2.length : Int) - 1) < (v1.2.2.2.length : Int) then
           if (decide ((v1.2.2.2.length : Int) > 0)) = true → 0 ≤ 0 ∧ 0 < (v1.1.length : Int) then
            if ((decide ((v1.2.2.2.length : Int) > 0)) && (decide (((v1.2.2.2.getD (IntKind.i64.wrap ((v1.2.2.2.length : Int) - 1)).toNat default).1) ≥ ((v1.1.getD 0 default).1)))) = true then
             some (0, 13)
             else (r72 [x0, x1, x2, x3]).bind fun v14 =>
              (r51 (!v14) 2).bind fun v15 =>
               (r90 [x0, x1, x2, x3]).bind fun v16 =>
                (r51 v16 9).bind fun v17 =>
                 (r44 [v15, v17]).bind fun v18 =>
                  some (0, v18)
            else none
           else none
         else none
        else none
      else none
     else none
    else (r72 [x0, x1, x2, x3]).bind fun v25 =>
     (r51 (!v25) 2).bind fun v26 =>
      (r90 [x0, x1, x2, x3]).bind fun v27 =>
       (r51 v27 9).bind fun v28 =>
        (r44 [v26, v28]).bind fun v29 =>
         some (0, v29))
def b65_3 (x0 : Int) (x1 : Int) (x2 : Int) (x3 : Int) (v1 : (List (Int × (List (Int × Int)) × Int)) × (List (Int × (List (Int × Int)) × Int)) × (List (Int × (List (Int × Int)) × Int)) × (List (Int × (List (Int × Int)) × Int))) : ((Option (Int × (List (Int × Int)) × Int)) × Int) → Ctl ((Option (Int × (List (Int × Int)) × Int)) × Int) (Int × Int) := fun s3 =>
  if (decide (s3.2 < (v1.2.2.1.length : Int))) = true then
   if 0 ≤ s3.2 ∧ s3.2 < (v1.2.2.1.length : Int) then
    bindC (r88 ((v1.2.2.1.getD s3.2.toNat default).1) ((v1.2.2.1.getD s3.2.toNat default).2.1) ((v1.2.2.1.getD s3.2.toNat default).2.2) s3.1 (-1)) fun v8 =>
     if (v8 != 0) = true then
      .out (some (s3.2, v8))
      else if 0 ≤ s3.2 ∧ s3.2 < (v1.2.2.1.length : Int) then
       .next (some ((v1.2.2.1.getD s3.2.toNat default).1, (v1.2.2.1.getD s3.2.toNat default).2.1, (v1.2.2.1.getD s3.2.toNat default).2.2), IntKind.i64.wrap (s3.2 + 1))
       else .out none
    else .out none
   else .out (iterC (b65_4 x0 x1 x2 x3 v1) 1000000000 (none, 0))
def b65_2 (x0 : Int) (x1 : Int) (x2 : Int) (x3 : Int) (v1 : (List (Int × (List (Int × Int)) × Int)) × (List (Int × (List (Int × Int)) × Int)) × (List (Int × (List (Int × Int)) × Int)) × (List (Int × (List (Int × Int)) × Int))) : ((Option (Int × (List (Int × Int)) × Int)) × Int) → Ctl ((Option (Int × (List (Int × Int)) × Int)) × Int) (Int × Int) := fun s2 =>
  if (decide (s2.2 < (v1.2.1.length : Int))) = true then
   if 0 ≤ s2.2 ∧ s2.2 < (v1.2.1.length : Int) then
    bindC (r88 ((v1.2.1.getD s2.2.toNat default).1) ((v1.2.1.getD s2.2.toNat default).2.1) ((v1.2.1.getD s2.2.toNat default).2.2) s2.1 0) fun v5 =>
     if (v5 != 0) = true then
      .out (some (s2.2, v5))
      else if 0 ≤ s2.2 ∧ s2.2 < (v1.2.1.length : Int) then
       .next (some ((v1.2.1.getD s2.2.toNat default).1, (v1.2.1.getD s2.2.toNat default).2.1, (v1.2.1.getD s2.2.toNat default).2.2), IntKind.i64.wrap (s2.2 + 1))
       else .out none
    else .out none
   else .out (iterC (b65_3 x0 x1 x2 x3 v1) 1000000000 (none, 0))
def b65_1 (x0 : Int) (x1 : Int) (x2 : Int) (x3 : Int) (v1 : (List (Int × (List (Int × Int)) × Int)) × (List (Int × (List (Int × Int)) × Int)) × (List (Int × (List (Int × Int)) × Int)) × (List (Int × (List (Int × Int)) × Int))) : ((Option (Int × (List (Int × Int)) × Int)) × Int) → Ctl ((Option (Int × (List (Int × Int)) × Int)) × Int) (Int × Int) := fun s1 =>
  if (decide (s1.2 < (v1.1.length : Int))) = true then
   if 0 ≤ s1.2 ∧ s1.2 < (v1.1.length : Int) then
    bindC (r88 ((v1.1.getD s1.2.toNat default).1) ((v1.1.getD s1.2.toNat default).2.1) ((v1.1.getD s1.2.toNat default).2.2) s1.1 1) fun v2 =>
     if (v2 != 0) = true then
      .out (some (s1.2, v2))
      else if 0 ≤ s1.2 ∧ s1.2 < (v1.1.length : Int) then
       .next (some ((v1.1.getD s1.2.toNat default).1, (v1.1.getD s1.2.toNat default).2.1, (v1.1.getD s1.2.toNat default).2.2), IntKind.i64.wrap (s1.2 + 1))
       else .out none
    else .out none
   else .out (iterC (b65_2 x0 x1 x2 x3 v1) 1000000000 (none, 0))
def r65 (x4 : List (Int × Int × Int × Int)) (x5 : List (Int × Int × Int × Int × Int)) (x6 : List (Int × Int × Int)) (x7 : List (Int × Int)) (x0 : Int) (x1 : Int) (x2 : Int) (x3 : Int) : Option (Int × Int) :=
  (r87 x4 x5 x6 x7 x0 x1 x2 x3).bind fun v1 =>
   if (decide ((v1.1.length : Int) > 8)) = true then
    some (0, 8)
    else if (decide ((v1.2.1.length : Int) > 8)) = true then
     some (0, 8)
     else if (decide ((v1.2.2.1.length : Int) > 8)) = true then
      some (0, 8)
      else if (decide ((v1.2.2.2.length : Int) > 8)) = true then
       some (0, 8)
       else iterC (b65_1 x0 x1 x2 x3 v1) 1000000000 (none, 0)
def T65 : TSpec qA1 := mkT qE1 qd1 (fun ⟨x4, x5, x6, x7, x0, x1, x2, x3⟩ => r65 x4 x5 x6 x7 x0 x1 x2 x3) qu5 false
theorem TP65 (c0 c1 c2 c3 c4 c5 c6 c7 : D) : T65.sp.pre [.agg [c0, c1, c2, c3, c4, c5, c6, c7]] = (eqvArgs (qt1 c0 c1 c2 c3 c4 c5 c6 c7) (qp1 qw1 c0 c1 c2 c3 c4 c5 c6 c7) ∧ (qp1 r65 c0 c1 c2 c3 c4 c5 c6 c7).isSome = true) := (rfl)
theorem TR65 (c0 c1 c2 c3 c4 c5 c6 c7 : D) : T65.sp.res [.agg [c0, c1, c2, c3, c4, c5, c6, c7]] = qu5 ((qp1 r65 c0 c1 c2 c3 c4 c5 c6 c7).getD default) := (rfl)
theorem TA65 : T65.sp.alias = false := (rfl)
def tb65 : Fns := lk [(44, T44.sp), (51, T51.sp), (72, T72.sp), (87, T87.sp), (88, T88.sp), (90, T90.sp)]
theorem tb65_ok : FnsOk Tryz.prog tb65 := .cons f44 (.cons f51 (.cons f72 (.cons f87 (.cons f88 (.cons f90 (FnsOk.nil))))))
theorem tb65_44 : tb65 44 = some T44.sp := rfl
theorem tb65_51 : tb65 51 = some T51.sp := rfl
theorem tb65_72 : tb65 72 = some T72.sp := rfl
theorem tb65_87 : tb65 87 = some T87.sp := rfl
theorem tb65_88 : tb65 88 = some T88.sp := rfl
theorem tb65_90 : tb65 90 = some T90.sp := rfl
theorem lt65_0 : (decide ((0 : Int) < 4)) = true := by first | rfl | decide | simp
theorem lt65_1 : (IntKind.i64.wrap (0 + 1)) = 1 := by first | rfl | decide | simp
theorem lt65_2 : (decide ((1 : Int) < 4)) = true := by first | rfl | decide | simp
theorem lt65_3 : (((1 : Int) = 0 ∨ (0 : Int) < 1)) = True := by first | rfl | decide | simp
theorem lt65_4 : (IntKind.i64.wrap (1 + 1)) = 2 := by first | rfl | decide | simp
theorem lt65_5 : (decide ((2 : Int) < 4)) = true := by first | rfl | decide | simp
theorem lt65_6 : (((2 : Int) = 0 ∨ (0 : Int) < 2)) = True := by first | rfl | decide | simp
theorem lt65_7 : (IntKind.i64.wrap (2 + 1)) = 3 := by first | rfl | decide | simp
theorem lt65_8 : (decide ((3 : Int) < 4)) = true := by first | rfl | decide | simp
theorem lt65_9 : (((3 : Int) = 0 ∨ (0 : Int) < 3)) = True := by first | rfl | decide | simp
theorem lt65_10 : (IntKind.i64.wrap (3 + 1)) = 4 := by first | rfl | decide | simp
theorem lt65_11 : (decide ((4 : Int) < 4)) = false := by first | rfl | decide | simp
theorem lt65_12 : (((3 : Nat) : Int)) = 3 := by first | rfl | decide | simp
theorem lt65_13 : (decide ((0 : Int) < 3)) = true := by first | rfl | decide | simp
theorem lt65_14 : (decide ((1 : Int) < 3)) = true := by first | rfl | decide | simp
theorem lt65_15 : (decide ((2 : Int) < 3)) = true := by first | rfl | decide | simp
theorem lt65_16 : (decide ((3 : Int) < 3)) = false := by first | rfl | decide | simp
attribute [go_sem] TP65 TR65 TA65
section
attribute [local go_sem] T65 tb65_44 tb65_51 tb65_72 tb65_87 tb65_88 tb65_90 Tryz.results65 lt65_0 lt65_1 lt65_2 lt65_3 lt65_4 lt65_5 lt65_6 lt65_7 lt65_8 lt65_9 lt65_10 lt65_11 lt65_12 lt65_13 lt65_14 lt65_15 lt65_16
theorem v65 : Valid Tryz.prog 65 T65.sp := by
 refine valid_t (fn := Tryz.f65) (n := 94) ty_ok tb65_ok Tryz.func65 rfl Tryz.ntmps65 ?_
 rintro ⟨x4, x5, x6, x7, x0, x1, x2, x3⟩ hx
 obtain ⟨r, hr⟩ := oE (show (r65 x4 x5 x6 x7 x0 x1 x2 x3).isSome = true from hx)
 have hres : T65.res (x4, x5, x6, x7, x0, x1, x2, x3) = qu5 r := by simp only [T65, mkT, hr, oG]
 refine ⟨nL rfl, fun stop S => ?_⟩
 rw [hres] at S
 unfold r65 at hr
 refine S.gx [26, 27] ?_
 obtain ⟨v1, hv1, hr⟩ := of_bind0 hr
 try simp only [hv1, oG, oI, true_and, and_assoc]
 repeat refine gA ?_
 refine S.lp ?_
 refine S.gx [26, 27] ?_
 repeat refine gA ?_
 refine ⟨?_, ?_⟩ <;> intro hc
 ·have hr := ifP hr hc
  repeat refine gA ?_
  cases hr
  exact lf
 ·have hr := ifN hr hc
  repeat refine gA ?_
  refine S.lp ?_
  refine S.gx [26, 27] ?_
  repeat refine gA ?_
  refine ⟨?_, ?_⟩ <;> intro hc
  ·have hr := ifP hr hc
   repeat refine gA ?_
   cases hr
   exact lf
  ·have hr := ifN hr hc
   repeat refine gA ?_
   refine S.lp ?_
   refine S.gx [26, 27] ?_
   repeat refine gA ?_
   refine ⟨?_, ?_⟩ <;> intro hc
   ·have hr := ifP hr hc
    repeat refine gA ?_
    cases hr
    exact lf
   ·have hr := ifN hr hc
    repeat refine gA ?_
    refine S.lp ?_
    refine S.gx [26, 27] ?_
    repeat refine gA ?_
    refine ⟨?_, ?_⟩ <;> intro hc
    ·have hr := ifP hr hc
     repeat refine gA ?_
     cases hr
     exact lf
    ·have hr := ifN hr hc
     repeat refine gA ?_
     refine S.lp ?_
     refine S.gx [26, 27] ?_
     repeat refine gA ?_
     refine S.lp ?_
     refine S.gx [26, 27] ?_
     repeat refine gA ?_
     refine S.share 16 rfl ?_
     refine S.sees [1, 4, 7, 8, 9, 25, 26, 31, 32] [(1, 1), (4, 4)] [(16, 16), (10016, 10016), (20016, 20016), (30016, 30016)] ?_ (Stop.iter S (fun s1 => ⟨[(1, .c (.ref 1 0)), (4, .c (.ref 4 0)), (7, .c (.d (.int .i64 0))), (8, .c (.own 16)), (9, .c (.d (encP d_ILIIEI s1.1))), (25, .agg [.own 16, .own 10016, .own 20016, .own 30016]), (26, .c (.d (.int .i64 0))), (31, .c (.d (.int .i64 (v1.1.length : Int)))), (32, .c (.d (.int .i64 s1.2)))], [(1, [.d (encF 4 d_IIII x4), .d (encF 5 d_IIIII x5), .d (encF 3 d_III x6), .d (encF 2 d_II x7), .d (.int .i64 x0), .d (.int .i64 x1), .d (.int .i64 x2), .d (.int .i64 x3)]), (4, [.own 16, .own 10016, .own 20016, .own 30016])], [(16, .shared (encF 3 d_ILIIEI v1.1)), (10016, .owned (encF 3 d_ILIIEI v1.2.1)), (20016, .owned (encF 3 d_ILIIEI v1.2.2.1)), (30016, .owned (encF 3 d_ILIIEI v1.2.2.2))]⟩) (b65_1 x0 x1 x2 x3 v1) (fun q => q = r) hr rfl ?_)
     ·exact lf
     ·intro s1 hr
      unfold b65_1 at hr
      refine S.gx [26, 27] ?_
      repeat refine gA ?_
      refine ⟨?_, ?_⟩ <;> intro hc
      ·have hr := ifP1 hr hc
       obtain ⟨hg4, hr⟩ := of_guard1 hr
       obtain ⟨v2, hv2, hr⟩ := of_bind1 hr
       try simp only [hv2, oG, oI, true_and, and_assoc]
       repeat refine gA ?_
       refine ⟨?_, ?_⟩ <;> intro hc
       ·have hr := ifP1 hr hc
        repeat refine gA ?_
        have hr := of_out0 hr
        cases hr
        exact lf
       ·have hr := ifN1 hr hc
        obtain ⟨hg3, hr⟩ := of_guard1 hr
        repeat refine gA ?_
        refine S.sees [1, 4, 7, 8, 9, 25, 26, 31, 32] [(1, 1), (4, 4)] [(16, 16), (10016, 10016), (20016, 20016), (30016, 30016)] ?_ hr
        exact lf
      ·have hr := ifN1 hr hc
       repeat refine gA ?_
       have hr := of_out0 hr
       repeat refine gA ?_
       refine S.lp ?_
       refine S.gx [26, 27] ?_
       repeat refine gA ?_
       refine S.share 10016 rfl ?_
       refine S.sees [1, 4, 7, 8, 9, 25, 26, 31, 32] [(1, 1), (4, 4)] [(10016, 10016), (16, 16), (20016, 20016), (30016, 30016)] ?_ (Stop.iter S (fun s2 => ⟨[(1, .c (.ref 1 0)), (4, .c (.ref 4 0)), (7, .c (.d (.int .i64 1))), (8, .c (.own 10016)), (9, .c (.d (encP d_ILIIEI s2.1))), (25, .agg [.own 16, .own 10016, .own 20016, .own 30016]), (26, .c (.d (.int .i64 1))), (31, .c (.d (.int .i64 (v1.2.1.length : Int)))), (32, .c (.d (.int .i64 s2.2)))], [(1, [.d (encF 4 d_IIII x4), .d (encF 5 d_IIIII x5), .d (encF 3 d_III x6), .d (encF 2 d_II x7), .d (.int .i64 x0), .d (.int .i64 x1), .d (.int .i64 x2), .d (.int .i64 x3)]), (4, [.own 16, .own 10016, .own 20016, .own 30016])], [(10016, .shared (encF 3 d_ILIIEI v1.2.1)), (16, .shared (encF 3 d_ILIIEI v1.1)), (20016, .owned (encF 3 d_ILIIEI v1.2.2.1)), (30016, .owned (encF 3 d_ILIIEI v1.2.2.2))]⟩) (b65_2 x0 x1 x2 x3 v1) (fun q => q = r) hr rfl ?_)
       ·exact lf
       ·intro s2 hr
        unfold b65_2 at hr
        refine S.gx [26, 27] ?_
        repeat refine gA ?_
        refine ⟨?_, ?_⟩ <;> intro hc
        ·have hr := ifP1 hr hc
         obtain ⟨hg7, hr⟩ := of_guard1 hr
         obtain ⟨v5, hv5, hr⟩ := of_bind1 hr
         try simp only [hv5, oG, oI, true_and, and_assoc]
         repeat refine gA ?_
         refine ⟨?_, ?_⟩ <;> intro hc
         ·have hr := ifP1 hr hc
          repeat refine gA ?_
          have hr := of_out0 hr
          cases hr
          exact lf
         ·have hr := ifN1 hr hc
          obtain ⟨hg6, hr⟩ := of_guard1 hr
          repeat refine gA ?_
          refine S.sees [1, 4, 7, 8, 9, 25, 26, 31, 32] [(1, 1), (4, 4)] [(10016, 10016), (16, 16), (20016, 20016), (30016, 30016)] ?_ hr
          exact lf
        ·have hr := ifN1 hr hc
         repeat refine gA ?_
         have hr := of_out0 hr
         repeat refine gA ?_
         refine S.lp ?_
         refine S.gx [26, 27] ?_
         repeat refine gA ?_
         refine S.share 20016 rfl ?_
         refine S.sees [1, 4, 7, 8, 9, 25, 26, 31, 32] [(1, 1), (4, 4)] [(20016, 20016), (16, 16), (10016, 10016), (30016, 30016)] ?_ (Stop.iter S (fun s3 => ⟨[(1, .c (.ref 1 0)), (4, .c (.ref 4 0)), (7, .c (.d (.int .i64 2))), (8, .c (.own 20016)), (9, .c (.d (encP d_ILIIEI s3.1))), (25, .agg [.own 16, .own 10016, .own 20016, .own 30016]), (26, .c (.d (.int .i64 2))), (31, .c (.d (.int .i64 (v1.2.2.1.length : Int)))), (32, .c (.d (.int .i64 s3.2)))], [(1, [.d (encF 4 d_IIII x4), .d (encF 5 d_IIIII x5), .d (encF 3 d_III x6), .d (encF 2 d_II x7), .d (.int .i64 x0), .d (.int .i64 x1), .d (.int .i64 x2), .d (.int .i64 x3)]), (4, [.own 16, .own 10016, .own 20016, .own 30016])], [(20016, .shared (encF 3 d_ILIIEI v1.2.2.1)), (16, .shared (encF 3 d_ILIIEI v1.1)), (10016, .shared (encF 3 d_ILIIEI v1.2.1)), (30016, .owned (encF 3 d_ILIIEI v1.2.2.2))]⟩) (b65_3 x0 x1 x2 x3 v1) (fun q => q = r) hr rfl ?_)
         ·exact lf
         ·intro s3 hr
          unfold b65_3 at hr
          refine S.gx [26, 27] ?_
          repeat refine gA ?_
          refine ⟨?_, ?_⟩ <;> intro hc
          ·have hr := ifP1 hr hc
           obtain ⟨hg10, hr⟩ := of_guard1 hr
           obtain ⟨v8, hv8, hr⟩ := of_bind1 hr
           try simp only [hv8, oG, oI, true_and, and_assoc]
           repeat refine gA ?_
           refine ⟨?_, ?_⟩ <;> intro hc
           ·have hr := ifP1 hr hc
            repeat refine gA ?_
            have hr := of_out0 hr
            cases hr
            exact lf
           ·have hr := ifN1 hr hc
            obtain ⟨hg9, hr⟩ := of_guard1 hr
            repeat refine gA ?_
            refine S.sees [1, 4, 7, 8, 9, 25, 26, 31, 32] [(1, 1), (4, 4)] [(20016, 20016), (16, 16), (10016, 10016), (30016, 30016)] ?_ hr
            exact lf
          ·have hr := ifN1 hr hc
           repeat refine gA ?_
           have hr := of_out0 hr
           repeat refine gA ?_
           refine S.lp ?_
           refine S.gx [26, 27] ?_
           repeat refine gA ?_
           refine S.share 30016 rfl ?_
           refine S.sees [1, 4, 7, 8, 9, 25, 26, 31, 32] [(1, 1), (4, 4)] [(30016, 30016), (16, 16), (10016, 10016), (20016, 20016)] ?_ (Stop.iter S (fun s4 => ⟨[(1, .c (.ref 1 0)), (4, .c (.ref 4 0)), (7, .c (.d (.int .i64 3))), (8, .c (.own 30016)), (9, .c (.d (encP d_ILIIEI s4.1))), (25, .agg [.own 16, .own 10016, .own 20016, .own 30016]), (26, .c (.d (.int .i64 3))), (31, .c (.d (.int .i64 (v1.2.2.2.length : Int)))), (32, .c (.d (.int .i64 s4.2)))], [(1, [.d (encF 4 d_IIII x4), .d (encF 5 d_IIIII x5), .d (encF 3 d_III x6), .d (encF 2 d_II x7), .d (.int .i64 x0), .d (.int .i64 x1), .d (.int .i64 x2), .d (.int .i64 x3)]), (4, [.own 16, .own 10016, .own 20016, .own 30016])], [(30016, .shared (encF 3 d_ILIIEI v1.2.2.2)), (16, .shared (encF 3 d_ILIIEI v1.1)), (10016, .shared (encF 3 d_ILIIEI v1.2.1)), (20016, .shared (encF 3 d_ILIIEI v1.2.2.1))]⟩) (b65_4 x0 x1 x2 x3 v1) (fun q => q = r) hr rfl ?_)
           ·exact lf
           ·intro s4 hr
            unfold b65_4 at hr
            refine S.gx [26, 27] ?_
            repeat refine gA ?_
            refine ⟨?_, ?_⟩ <;> intro hc
            ·have hr := ifP1 hr hc
             obtain ⟨hg13, hr⟩ := of_guard1 hr
             obtain ⟨v11, hv11, hr⟩ := of_bind1 hr
             try simp only [hv11, oG, oI, true_and, and_assoc]
             repeat refine gA ?_
             refine ⟨?_, ?_⟩ <;> intro hc
             ·have hr := ifP1 hr hc
              repeat refine gA ?_
              have hr := of_out0 hr
              cases hr
              exact lf
             ·have hr := ifN1 hr hc
              obtain ⟨hg12, hr⟩ := of_guard1 hr
              repeat refine gA ?_
              refine S.sees [1, 4, 7, 8, 9, 25, 26, 31, 32] [(1, 1), (4, 4)] [(30016, 30016), (16, 16), (10016, 10016), (20016, 20016)] ?_ hr
              exact lf
            ·have hr := ifN1 hr hc
             repeat refine gA ?_
             have hr := of_out0 hr
             repeat refine gA ?_
             refine S.lp ?_
             refine S.gx [26, 27] ?_
             repeat refine gA ?_
             refine ⟨?_, ?_⟩ <;> intro hc
             ·have hr := ifP hr hc
              repeat refine gA ?_
              refine S.lp ?_
              refine S.gx [26, 27] ?_
              obtain ⟨hg23, hr⟩ := of_guard0 hr
              obtain ⟨hg24, hr⟩ := of_guard0 hr
              repeat (first | refine gG hg23 ?_ | refine gG hg24 ?_ | refine gA ?_ | refine gB ?_)
              refine ⟨?_, ?_⟩ <;> intro hc
              ·have hr := ifP hr hc
               repeat refine gA ?_
               refine S.prune [] ?_
               refine S.gx [27] ?_
               repeat refine gA ?_
               cases hr
               exact lf
              ·have hr := ifN hr hc
               repeat refine gA ?_
               refine S.prune [1, 4, 57, 58, 59] ?_
               refine S.gx [26] ?_
               repeat refine gA ?_
               refine S.lp ?_
               refine S.gx [26, 27] ?_
               obtain ⟨hg21, hr⟩ := of_guard0 hr
               obtain ⟨hg22, hr⟩ := of_guard0 hr
               repeat (first | refine gG hg21 ?_ | refine gG hg22 ?_ | refine gA ?_ | refine gB ?_)
               refine ⟨?_, ?_⟩ <;> intro hc
               ·have hr := ifP hr hc
                repeat refine gA ?_
                refine S.prune [] ?_
                refine S.gx [27] ?_
                repeat refine gA ?_
                cases hr
                exact lf
               ·have hr := ifN hr hc
                repeat refine gA ?_
                refine S.prune [1, 4, 57, 58, 59] ?_
                refine S.gx [26] ?_
                repeat refine gA ?_
                refine S.lp ?_
                refine S.gx [26, 27] ?_
                obtain ⟨hg19, hr⟩ := of_guard0 hr
                obtain ⟨hg20, hr⟩ := of_guard0 hr
                repeat (first | refine gG hg19 ?_ | refine gG hg20 ?_ | refine gA ?_ | refine gB ?_)
                refine ⟨?_, ?_⟩ <;> intro hc
                ·have hr := ifP hr hc
                 repeat refine gA ?_
                 refine S.prune [] ?_
                 refine S.gx [27] ?_
                 repeat refine gA ?_
                 cases hr
                 exact lf
                ·have hr := ifN hr hc
                 repeat refine gA ?_
                 refine S.prune [1, 4, 57, 58, 59] ?_
                 refine S.gx [26] ?_
                 repeat refine gA ?_
                 refine S.lp ?_
                 refine S.gx [26, 27] ?_
                 obtain ⟨v14, hv14, hr⟩ := of_bind0 hr
                 obtain ⟨v15, hv15, hr⟩ := of_bind0 hr
                 obtain ⟨v16, hv16, hr⟩ := of_bind0 hr
                 obtain ⟨v17, hv17, hr⟩ := of_bind0 hr
                 obtain ⟨v18, hv18, hr⟩ := of_bind0 hr
                 try simp only [hv14, hv15, hv16, hv17, hv18, Option.getD_some, Option.isSome_some, true_and, and_assoc]
                 repeat refine gA ?_
                 cases hr
                 exact lf
             ·have hr := ifN hr hc
              obtain ⟨v25, hv25, hr⟩ := of_bind0 hr
              obtain ⟨v26, hv26, hr⟩ := of_bind0 hr
              obtain ⟨v27, hv27, hr⟩ := of_bind0 hr
              obtain ⟨v28, hv28, hr⟩ := of_bind0 hr
              obtain ⟨v29, hv29, hr⟩ := of_bind0 hr
              try simp only [hv25, hv26, hv27, hv28, hv29, Option.getD_some, Option.isSome_some, true_and, and_assoc]
              repeat refine gA ?_
              cases hr
              exact lf
theorem f65 : FnFact Tryz.prog 65 T65.sp := ⟨⟨Tryz.f65, Tryz.func65, by decide, rfl⟩, v65⟩
end

/- martensite/steel.rulesErr -/
def r34 (x0 : List (Int × Int × Int × Int)) (x1 : List (Int × Int × Int × Int × Int)) (x2 : List (Int × Int × Int)) (x3 : List (Int × Int)) (x4 : Int) (x5 : Int) (x6 : Int) (x7 : Int) : Option (Int) :=
  (r65 x0 x1 x2 x3 x4 x5 x6 x7).bind fun v1 =>
   some v1.2
def T34 : TSpec qA1 := mkT qE1 qd1 (fun ⟨x0, x1, x2, x3, x4, x5, x6, x7⟩ => r34 x0 x1 x2 x3 x4 x5 x6 x7) qu4 false
theorem TP34 (c0 c1 c2 c3 c4 c5 c6 c7 : D) : T34.sp.pre [.agg [c0, c1, c2, c3, c4, c5, c6, c7]] = (eqvArgs (qt1 c0 c1 c2 c3 c4 c5 c6 c7) (qp1 qw1 c0 c1 c2 c3 c4 c5 c6 c7) ∧ (qp1 r34 c0 c1 c2 c3 c4 c5 c6 c7).isSome = true) := (rfl)
theorem TR34 (c0 c1 c2 c3 c4 c5 c6 c7 : D) : T34.sp.res [.agg [c0, c1, c2, c3, c4, c5, c6, c7]] = qu4 ((qp1 r34 c0 c1 c2 c3 c4 c5 c6 c7).getD default) := (rfl)
theorem TA34 : T34.sp.alias = false := (rfl)
def tb34 : Fns := lk [(65, T65.sp)]
theorem tb34_ok : FnsOk Tryz.prog tb34 := .cons f65 (FnsOk.nil)
theorem tb34_65 : tb34 65 = some T65.sp := rfl
attribute [go_sem] TP34 TR34 TA34
section
attribute [local go_sem] T34 tb34_65 Tryz.results34
theorem v34 : Valid Tryz.prog 34 T34.sp := by
 refine valid_t (fn := Tryz.f34) (n := 11) ty_ok tb34_ok Tryz.func34 rfl Tryz.ntmps34 ?_
 rintro ⟨x0, x1, x2, x3, x4, x5, x6, x7⟩ hx
 obtain ⟨r, hr⟩ := oE (show (r34 x0 x1 x2 x3 x4 x5 x6 x7).isSome = true from hx)
 have hres : T34.res (x0, x1, x2, x3, x4, x5, x6, x7) = qu4 r := by simp only [T34, mkT, hr, oG]
 refine ⟨nL rfl, fun stop S => ?_⟩
 rw [hres] at S
 unfold r34 at hr
 refine S.gx [] ?_
 obtain ⟨v1, hv1, hr⟩ := of_bind0 hr
 try simp only [hv1, oG, oI, true_and, and_assoc]
 repeat refine gA ?_
 cases hr
 exact lf
theorem f34 : FnFact Tryz.prog 34 T34.sp := ⟨⟨Tryz.f34, Tryz.func34, by decide, rfl⟩, v34⟩
end

/- martensite/steel.CheckState -/
def r36 (x5 : Int) (x0 : Int) (x1 : Int) (x2 : Int) (x3 : Int) (x4 : Int) (x6 : Int) : Option (Int) :=
  (r67 x5).bind fun v1 =>
   if v1 = true → (r67 x0).isSome = true then
    if (v1 && ((r67 x0).getD default)) = true → (r67 x1).isSome = true then
     if ((v1 && ((r67 x0).getD default)) && ((r67 x1).getD default)) = true → (r67 x2).isSome = true then
      if (((v1 && ((r67 x0).getD default)) && ((r67 x1).getD default)) && ((r67 x2).getD default)) = true → (r67 x3).isSome = true then
       if ((((v1 && ((r67 x0).getD default)) && ((r67 x1).getD default)) && ((r67 x2).getD default)) && ((r67 x3).getD default)) = true → (r68 x4 0 100000).isSome = true then
        if (((((v1 && ((r67 x0).getD default)) && ((r67 x1).getD default)) && ((r67 x2).getD default)) && ((r67 x3).getD default)) && ((r68 x4 0 100000).getD default)) = true → (r68 x6 0 1000000).isSome = true then
         if (!((((((v1 && ((r67 x0).getD default)) && ((r67 x1).getD default)) && ((r67 x2).getD default)) && ((r67 x3).getD default)) && ((r68 x4 0 100000).getD default)) && ((r68 x6 0 1000000).getD default))) = true then
          some 2
          else (r51 ((IntKind.i64.wrap ((IntKind.i64.wrap ((IntKind.i64.wrap (x5 + x0)) + x1)) + x2)) == 1000000) 3).bind fun v2 =>
           some v2
         else none
        else none
       else none
      else none
     else none
    else none
def T36 : TSpec qA10 := mkT qE10 qd10 (fun ⟨x5, x0, x1, x2, x3, x4, x6⟩ => r36 x5 x0 x1 x2 x3 x4 x6) qu4 false
theorem TP36 (c0 c1 c2 c3 c4 c5 c6 : D) : T36.sp.pre [.agg [c0, c1, c2, c3, c4, c5, c6]] = (eqvArgs (qt10 c0 c1 c2 c3 c4 c5 c6) (qp10 qw10 c0 c1 c2 c3 c4 c5 c6) ∧ (qp10 r36 c0 c1 c2 c3 c4 c5 c6).isSome = true) := (rfl)
theorem TR36 (c0 c1 c2 c3 c4 c5 c6 : D) : T36.sp.res [.agg [c0, c1, c2, c3, c4, c5, c6]] = qu4 ((qp10 r36 c0 c1 c2 c3 c4 c5 c6).getD default) := (rfl)
theorem TA36 : T36.sp.alias = false := (rfl)
def tb36 : Fns := lk [(51, T51.sp), (67, T67.sp), (68, T68.sp)]
theorem tb36_ok : FnsOk Tryz.prog tb36 := .cons f51 (.cons f67 (.cons f68 (FnsOk.nil)))
theorem tb36_51 : tb36 51 = some T51.sp := rfl
theorem tb36_67 : tb36 67 = some T67.sp := rfl
theorem tb36_68 : tb36 68 = some T68.sp := rfl
attribute [go_sem] TP36 TR36 TA36
section
attribute [local go_sem] T36 tb36_51 tb36_67 tb36_68 Tryz.results36
theorem v36 : Valid Tryz.prog 36 T36.sp := by
 refine valid_t (fn := Tryz.f36) (n := 52) ty_ok tb36_ok Tryz.func36 rfl Tryz.ntmps36 ?_
 rintro ⟨x5, x0, x1, x2, x3, x4, x6⟩ hx
 obtain ⟨r, hr⟩ := oE (show (r36 x5 x0 x1 x2 x3 x4 x6).isSome = true from hx)
 have hres : T36.res (x5, x0, x1, x2, x3, x4, x6) = qu4 r := by simp only [T36, mkT, hr, oG]
 refine ⟨nL rfl, fun stop S => ?_⟩
 rw [hres] at S
 unfold r36 at hr
 refine S.gx [2] ?_
 obtain ⟨v1, hv1, hr⟩ := of_bind0 hr
 obtain ⟨hg3, hr⟩ := of_guard0 hr
 obtain ⟨hg4, hr⟩ := of_guard0 hr
 obtain ⟨hg5, hr⟩ := of_guard0 hr
 obtain ⟨hg6, hr⟩ := of_guard0 hr
 obtain ⟨hg7, hr⟩ := of_guard0 hr
 obtain ⟨hg8, hr⟩ := of_guard0 hr
 try simp only [hv1, oG, oI, true_and, and_assoc]
 repeat (first | refine gG hg3 ?_ | refine gG hg4 ?_ | refine gG hg5 ?_ | refine gG hg6 ?_ | refine gG hg7 ?_ | refine gG hg8 ?_ | refine gA ?_ | refine gB ?_)
 refine S.prune [1, 3] ?_
 refine S.gx [] ?_
 repeat refine gA ?_
 refine ⟨?_, ?_⟩ <;> intro hc
 ·have hr := ifP hr hc
  repeat refine gA ?_
  cases hr
  exact lf
 ·have hr := ifN hr hc
  obtain ⟨v2, hv2, hr⟩ := of_bind0 hr
  try simp only [hv2, oG, oI, true_and, and_assoc]
  repeat refine gA ?_
  cases hr
  exact lf
theorem f36 : FnFact Tryz.prog 36 T36.sp := ⟨⟨Tryz.f36, Tryz.func36, by decide, rfl⟩, v36⟩
end

/- martensite/steel.curveErr$1 -/
def r73 (a0 : Int) : Option (Bool) :=
  (r74 a0).bind fun v1 =>
   some (!v1)
def T73 : TSpec qA3 := mkT qE3 qd3 r73 qu3 false
theorem TP73 (c0 : D) : T73.sp.pre [.c c0] = (eqvArgs (qt3 c0) (qp3 qw3 c0) ∧ (qp3 r73 c0).isSome = true) := (rfl)
theorem TR73 (c0 : D) : T73.sp.res [.c c0] = qu3 ((qp3 r73 c0).getD default) := (rfl)
theorem TA73 : T73.sp.alias = false := (rfl)
def tb73 : Fns := lk [(74, T74.sp)]
theorem tb73_ok : FnsOk Tryz.prog tb73 := .cons f74 (FnsOk.nil)
theorem tb73_74 : tb73 74 = some T74.sp := rfl
attribute [go_sem] TP73 TR73 TA73
section
attribute [local go_sem] T73 tb73_74 Tryz.results73
theorem v73 : Valid Tryz.prog 73 T73.sp := by
 refine valid_t (fn := Tryz.f73) (n := 6) ty_ok tb73_ok Tryz.func73 rfl Tryz.ntmps73 ?_
 rintro a0 hx
 obtain ⟨r, hr⟩ := oE (show (r73 a0).isSome = true from hx)
 have hres : T73.res a0 = qu3 r := by simp only [T73, mkT, hr, oG]
 refine ⟨nL rfl, fun stop S => ?_⟩
 rw [hres] at S
 unfold r73 at hr
 refine S.gx [] ?_
 obtain ⟨v1, hv1, hr⟩ := of_bind0 hr
 try simp only [hv1, oG, oI, true_and, and_assoc]
 repeat refine gA ?_
 cases hr
 exact lf
theorem f73 : FnFact Tryz.prog 73 T73.sp := ⟨⟨Tryz.f73, Tryz.func73, by decide, rfl⟩, v73⟩
end

/- slices.IndexFunc[[]int,int] -/
def b96a_1 (a0 : List (Int)) : (Int) → Ctl (Int) (Int) := fun s1 =>
  if (decide (s1 < (a0.length : Int))) = true then
   if 0 ≤ s1 ∧ s1 < (a0.length : Int) then
    bindC (r73 (a0.getD s1.toNat default)) fun v1 =>
     if v1 = true then
      .out (some s1)
      else .next (IntKind.i64.wrap (s1 + 1))
    else .out none
   else .out (some (-1))
def r96a (a0 : List (Int)) : Option (Int) :=
  iterC (b96a_1 a0) 1000000000 0
def T96a : TSpec qA11 := mkT qE11 qd11 r96a qu4 false
theorem TP96a (c0 : D) : T96a.sp.pre [.c c0, .clo 73 []] = (eqvArgs (qt11 c0) (qp11 qw11 c0) ∧ (qp11 r96a c0).isSome = true) := (rfl)
theorem TR96a (c0 : D) : T96a.sp.res [.c c0, .clo 73 []] = qu4 ((qp11 r96a c0).getD default) := (rfl)
theorem TA96a : T96a.sp.alias = false := (rfl)
def tb96a : Fns := lk [(73, T73.sp)]
theorem tb96a_ok : FnsOk Tryz.prog tb96a := .cons f73 (FnsOk.nil)
theorem tb96a_73 : tb96a 73 = some T73.sp := rfl
theorem lt96a_0 : (IntKind.i64.wrap (0 + 1)) = 1 := by first | rfl | decide | simp
attribute [go_sem] TP96a TR96a TA96a
section
attribute [local go_sem] T96a tb96a_73 Tryz.results96 lt96a_0
theorem v96a : Valid Tryz.prog 96 T96a.sp := by
  refine valid_t (fn := Tryz.f96) (n := 19) ty_ok tb96a_ok Tryz.func96 rfl Tryz.ntmps96 ?_
  rintro a0 hx
  obtain ⟨r, hr⟩ := oE (show (r96a a0).isSome = true from hx)
  have hres : T96a.res a0 = qu4 r := by simp only [T96a, mkT, hr, oG]
  refine ⟨nL rfl, fun stop S => ?_⟩
  rw [hres] at S
  unfold r96a at hr
  refine S.gx [] ?_
  repeat refine gA ?_
  refine S.sees [0, 1, 7, 8] [] [] ?_ (Stop.iter S (fun s1 => ⟨[(0, .c (.d (encF 1 d_I a0))), (1, .c (.clo 73 [])), (7, .c (.d (.int .i64 (a0.length : Int)))), (8, .c (.d (.int .i64 s1)))], [], []⟩) (b96a_1 a0) (fun q => q = r) hr rfl ?_)
  · exact lf
  · intro s1 hr
    unfold b96a_1 at hr
    refine S.gx [] ?_
    repeat refine gA ?_
    refine ⟨fun hc => ?_, fun hc => ?_⟩
    · replace hr := ifP1 hr hc
      obtain ⟨hg2, hr⟩ := of_guard1 hr
      obtain ⟨v1, hv1, hr⟩ := of_bind1 hr
      try simp only [hv1, oG, oI, true_and, and_assoc]
      repeat refine gA ?_
      refine ⟨fun hc => ?_, fun hc => ?_⟩
      · replace hr := ifP1 hr hc
        repeat refine gA ?_
        have hr := of_out0 hr
        obtain rfl := Option.some.inj hr
        exact lf
      · replace hr := ifN1 hr hc
        repeat refine gA ?_
        refine S.sees [0, 1, 7, 8] [] [] ?_ hr
        exact lf
    · replace hr := ifN1 hr hc
      repeat refine gA ?_
      have hr := of_out0 hr
      repeat refine gA ?_
      obtain rfl := Option.some.inj hr
      exact lf
theorem f96a : FnFact Tryz.prog 96 T96a.sp := ⟨⟨Tryz.f96, Tryz.func96, by decide, rfl⟩, v96a⟩
end

/- slices.ContainsFunc[[]int,int] -/
def r72a (a0 : List (Int)) : Option (Bool) :=
  (r96a a0).bind fun v1 =>
   some (decide (v1 ≥ 0))
def T72a : TSpec qA11 := mkT qE11 qd11 r72a qu3 false
theorem TP72a (c0 : D) : T72a.sp.pre [.c c0, .clo 73 []] = (eqvArgs (qt11 c0) (qp11 qw11 c0) ∧ (qp11 r72a c0).isSome = true) := (rfl)
theorem TR72a (c0 : D) : T72a.sp.res [.c c0, .clo 73 []] = qu3 ((qp11 r72a c0).getD default) := (rfl)
theorem TA72a : T72a.sp.alias = false := (rfl)
def tb72a : Fns := lk [(96, T96a.sp)]
theorem tb72a_ok : FnsOk Tryz.prog tb72a := .cons f96a (FnsOk.nil)
theorem tb72a_96 : tb72a 96 = some T96a.sp := rfl
attribute [go_sem] TP72a TR72a TA72a
section
attribute [local go_sem] T72a tb72a_96 Tryz.results72
theorem v72a : Valid Tryz.prog 72 T72a.sp := by
  refine valid_t (fn := Tryz.f72) (n := 9) ty_ok tb72a_ok Tryz.func72 rfl Tryz.ntmps72 ?_
  rintro a0 hx
  obtain ⟨r, hr⟩ := oE (show (r72a a0).isSome = true from hx)
  have hres : T72a.res a0 = qu3 r := by simp only [T72a, mkT, hr, oG]
  refine ⟨nL rfl, fun stop S => ?_⟩
  rw [hres] at S
  unfold r72a at hr
  refine S.gx [] ?_
  obtain ⟨v1, hv1, hr⟩ := of_bind0 hr
  try simp only [hv1, oG, oI, true_and, and_assoc]
  repeat refine gA ?_
  obtain rfl := Option.some.inj hr
  exact lf
theorem f72a : FnFact Tryz.prog 72 T72a.sp := ⟨⟨Tryz.f72, Tryz.func72, by decide, rfl⟩, v72a⟩
end

/- martensite/steel.curveErr -/
def r45 (a0 : List (Int)) : Option (Int) :=
  (r72a a0).bind fun v1 =>
   (r51 (decide ((a0.length : Int) ≤ 200)) 8).bind fun v2 =>
    (r51 (!v1) 2).bind fun v3 =>
     (r44 [v2, v3]).bind fun v4 =>
      some v4
def T45 : TSpec qA6 := mkT qE6 qd6 r45 qu4 false
theorem TP45 (c0 : D) : T45.sp.pre [.c c0] = (eqvArgs (qt6 c0) (qp6 qw6 c0) ∧ (qp6 r45 c0).isSome = true) := (rfl)
theorem TR45 (c0 : D) : T45.sp.res [.c c0] = qu4 ((qp6 r45 c0).getD default) := (rfl)
theorem TA45 : T45.sp.alias = false := (rfl)
def tb45 : Fns := lk [(44, T44.sp), (51, T51.sp), (72, T72a.sp)]
theorem tb45_ok : FnsOk Tryz.prog tb45 := .cons f44 (.cons f51 (.cons f72a (FnsOk.nil)))
theorem tb45_44 : tb45 44 = some T44.sp := rfl
theorem tb45_51 : tb45 51 = some T51.sp := rfl
theorem tb45_72 : tb45 72 = some T72a.sp := rfl
attribute [go_sem] TP45 TR45 TA45
section
attribute [local go_sem] T45 tb45_44 tb45_51 tb45_72 Tryz.results45
theorem v45 : Valid Tryz.prog 45 T45.sp := by
 refine valid_t (fn := Tryz.f45) (n := 15) ty_ok tb45_ok Tryz.func45 rfl Tryz.ntmps45 ?_
 rintro a0 hx
 obtain ⟨r, hr⟩ := oE (show (r45 a0).isSome = true from hx)
 have hres : T45.res a0 = qu4 r := by simp only [T45, mkT, hr, oG]
 refine ⟨nL rfl, fun stop S => ?_⟩
 rw [hres] at S
 unfold r45 at hr
 refine S.gx [] ?_
 obtain ⟨v1, hv1, hr⟩ := of_bind0 hr
 obtain ⟨v2, hv2, hr⟩ := of_bind0 hr
 obtain ⟨v3, hv3, hr⟩ := of_bind0 hr
 obtain ⟨v4, hv4, hr⟩ := of_bind0 hr
 try simp only [hv1, hv2, hv3, hv4, Option.getD_some, Option.isSome_some, true_and, and_assoc]
 repeat refine gA ?_
 cases hr
 exact lf
theorem f45 : FnFact Tryz.prog 45 T45.sp := ⟨⟨Tryz.f45, Tryz.func45, by decide, rfl⟩, v45⟩
end

/- martensite/steel.CheckPick$1 -/
def r75 (a0 : Int) : Option (Bool) :=
  (r68 a0 0 1000).bind fun v1 =>
   some v1
def T75 : TSpec qA3 := mkT qE3 qd3 r75 qu3 false
theorem TP75 (c0 : D) : T75.sp.pre [.c c0] = (eqvArgs (qt3 c0) (qp3 qw3 c0) ∧ (qp3 r75 c0).isSome = true) := (rfl)
theorem TR75 (c0 : D) : T75.sp.res [.c c0] = qu3 ((qp3 r75 c0).getD default) := (rfl)
theorem TA75 : T75.sp.alias = false := (rfl)
def tb75 : Fns := lk [(68, T68.sp)]
theorem tb75_ok : FnsOk Tryz.prog tb75 := .cons f68 (FnsOk.nil)
theorem tb75_68 : tb75 68 = some T68.sp := rfl
attribute [go_sem] TP75 TR75 TA75
section
attribute [local go_sem] T75 tb75_68 Tryz.results75
theorem v75 : Valid Tryz.prog 75 T75.sp := by
 refine valid_t (fn := Tryz.f75) (n := 5) ty_ok tb75_ok Tryz.func75 rfl Tryz.ntmps75 ?_
 rintro a0 hx
 obtain ⟨r, hr⟩ := oE (show (r75 a0).isSome = true from hx)
 have hres : T75.res a0 = qu3 r := by simp only [T75, mkT, hr, oG]
 refine ⟨nL rfl, fun stop S => ?_⟩
 rw [hres] at S
 unfold r75 at hr
 refine S.gx [] ?_
 obtain ⟨v1, hv1, hr⟩ := of_bind0 hr
 try simp only [hv1, oG, oI, true_and, and_assoc]
 repeat refine gA ?_
 cases hr
 exact lf
theorem f75 : FnFact Tryz.prog 75 T75.sp := ⟨⟨Tryz.f75, Tryz.func75, by decide, rfl⟩, v75⟩
end

/- martensite/steel.CheckPick -/
def r46 (x2 : Int) (x0 : Int) (x1 : Int) : Option (Int) :=
  (r75 x2).bind fun v1 =>
   if v1 = true → (r75 x0).isSome = true then
    if (v1 && ((r75 x0).getD default)) = true → (r75 x1).isSome = true then
     (r51 ((v1 && ((r75 x0).getD default)) && ((r75 x1).getD default)) 2).bind fun v2 =>
      some v2
     else none
    else none
def T46 : TSpec qA12 := mkT qE12 qd12 (fun ⟨x2, x0, x1⟩ => r46 x2 x0 x1) qu4 false
theorem TP46 (c0 c1 c2 : D) : T46.sp.pre [.agg [c0, c1, c2]] = (eqvArgs (qt12 c0 c1 c2) (qp12 qw12 c0 c1 c2) ∧ (qp12 r46 c0 c1 c2).isSome = true) := (rfl)
theorem TR46 (c0 c1 c2 : D) : T46.sp.res [.agg [c0, c1, c2]] = qu4 ((qp12 r46 c0 c1 c2).getD default) := (rfl)
theorem TA46 : T46.sp.alias = false := (rfl)
def tb46 : Fns := lk [(51, T51.sp), (75, T75.sp)]
theorem tb46_ok : FnsOk Tryz.prog tb46 := .cons f51 (.cons f75 (FnsOk.nil))
theorem tb46_51 : tb46 51 = some T51.sp := rfl
theorem tb46_75 : tb46 75 = some T75.sp := rfl
attribute [go_sem] TP46 TR46 TA46
section
attribute [local go_sem] T46 tb46_51 tb46_75 Tryz.results46
theorem v46 : Valid Tryz.prog 46 T46.sp := by
 refine valid_t (fn := Tryz.f46) (n := 21) ty_ok tb46_ok Tryz.func46 rfl Tryz.ntmps46 ?_
 rintro ⟨x2, x0, x1⟩ hx
 obtain ⟨r, hr⟩ := oE (show (r46 x2 x0 x1).isSome = true from hx)
 have hres : T46.res (x2, x0, x1) = qu4 r := by simp only [T46, mkT, hr, oG]
 refine ⟨nL rfl, fun stop S => ?_⟩
 rw [hres] at S
 unfold r46 at hr
 refine S.gx [] ?_
 obtain ⟨v1, hv1, hr⟩ := of_bind0 hr
 obtain ⟨hg3, hr⟩ := of_guard0 hr
 obtain ⟨hg4, hr⟩ := of_guard0 hr
 obtain ⟨v2, hv2, hr⟩ := of_bind0 hr
 try simp only [hv1, hv2, Option.getD_some, Option.isSome_some, true_and, and_assoc]
 repeat (first | refine gG hg3 ?_ | refine gG hg4 ?_ | refine gA ?_ | refine gB ?_)
 cases hr
 exact lf
theorem f46 : FnFact Tryz.prog 46 T46.sp := ⟨⟨Tryz.f46, Tryz.func46, by decide, rfl⟩, v46⟩
end

/- (martensite/steel.rules).heat$1 -/
def r121 (x0 : Int) (x2 : Int) (x3 : Int) (x4 : Int) (x1 : Int) : Option (Bool) :=
  some (decide (x0 ≤ x1))
def T121 : TSpec qA13 := mkT qE13 qd13 (fun ⟨x0, x2, x3, x4, x1⟩ => r121 x0 x2 x3 x4 x1) qu3 false
theorem TP121 (c0 c1 c2 c3 c4 : D) : T121.sp.pre [.agg [c0, c1, c2, c3], .ptr [c4]] = (eqvArgs (qt13 c0 c1 c2 c3 c4) (qp13 qw13 c0 c1 c2 c3 c4) ∧ (qp13 r121 c0 c1 c2 c3 c4).isSome = true) := (rfl)
theorem TR121 (c0 c1 c2 c3 c4 : D) : T121.sp.res [.agg [c0, c1, c2, c3], .ptr [c4]] = qu3 ((qp13 r121 c0 c1 c2 c3 c4).getD default) := (rfl)
theorem TA121 : T121.sp.alias = false := (rfl)
def tb121 : Fns := lk []
theorem tb121_ok : FnsOk Tryz.prog tb121 := FnsOk.nil
attribute [go_sem] TP121 TR121 TA121
section
attribute [local go_sem] T121 Tryz.results121
theorem v121 : Valid Tryz.prog 121 T121.sp := by
 refine valid_t (fn := Tryz.f121) (n := 8) ty_ok tb121_ok Tryz.func121 rfl Tryz.ntmps121 ?_
 rintro ⟨x0, x2, x3, x4, x1⟩ hx
 obtain ⟨r, hr⟩ := oE (show (r121 x0 x2 x3 x4 x1).isSome = true from hx)
 have hres : T121.res (x0, x2, x3, x4, x1) = qu3 r := by simp only [T121, mkT, hr, oG]
 refine ⟨nL rfl, fun stop S => ?_⟩
 rw [hres] at S
 unfold r121 at hr
 refine S.gx [] ?_
 repeat refine gA ?_
 cases hr
 exact lf
theorem f121 : FnFact Tryz.prog 121 T121.sp := ⟨⟨Tryz.f121, Tryz.func121, by decide, rfl⟩, v121⟩
end

/- (martensite/steel.rules).heat -/
def b97_1 (x0 : List (Int × Int × Int × Int)) (a1 : Int) : (Int) → Ctl (Int) ((Option (Int × Int × Int × Int))) := fun s1 =>
  if (decide (s1 ≥ 0)) = true then
   if 0 ≤ s1 ∧ s1 < (x0.length : Int) then
    if 0 ≤ s1 ∧ s1 < (x0.length : Int) then
     bindC (r121 ((x0.getD s1.toNat default).1) ((x0.getD s1.toNat default).2.1) ((x0.getD s1.toNat default).2.2.1) ((x0.getD s1.toNat default).2.2.2) a1) fun v1 =>
      if v1 = true then
       if 0 ≤ s1 ∧ s1 < (x0.length : Int) then
        .out (some (some ((x0.getD s1.toNat default).1, (x0.getD s1.toNat default).2.1, (x0.getD s1.toNat default).2.2.1, (x0.getD s1.toNat default).2.2.2)))
        else .out none
       else .next (IntKind.i64.wrap (s1 - 1))
     else .out none
    else .out none
   else .out (some none)
def r97 (x0 : List (Int × Int × Int × Int)) (x1 : List (Int × Int × Int × Int × Int)) (x2 : List (Int × Int × Int)) (x3 : List (Int × Int)) (x4 : Int) (x5 : Int) (x6 : Int) (x7 : Int) (a1 : Int) : Option ((Option (Int × Int × Int × Int))) :=
  iterC (b97_1 x0 a1) 1000000000 (IntKind.i64.wrap ((x0.length : Int) - 1))
def T97 : TSpec qA14 := mkT qE14 qd14 (fun ⟨x0, x1, x2, x3, x4, x5, x6, x7, a1⟩ => r97 x0 x1 x2 x3 x4 x5 x6 x7 a1) qu6 true
theorem TP97 (c0 c1 c2 c3 c4 c5 c6 c7 c8 : D) : T97.sp.pre [.agg [c0, c1, c2, c3, c4, c5, c6, c7], .c c8] = (eqvArgs (qt14 c0 c1 c2 c3 c4 c5 c6 c7 c8) (qp14 qw14 c0 c1 c2 c3 c4 c5 c6 c7 c8) ∧ (qp14 r97 c0 c1 c2 c3 c4 c5 c6 c7 c8).isSome = true) := (rfl)
theorem TR97 (c0 c1 c2 c3 c4 c5 c6 c7 c8 : D) : T97.sp.res [.agg [c0, c1, c2, c3, c4, c5, c6, c7], .c c8] = qu6 ((qp14 r97 c0 c1 c2 c3 c4 c5 c6 c7 c8).getD default) := (rfl)
theorem TA97 : T97.sp.alias = true := (rfl)
def tb97 : Fns := lk [(121, T121.sp)]
theorem tb97_ok : FnsOk Tryz.prog tb97 := .cons f121 (FnsOk.nil)
theorem tb97_121 : tb97 121 = some T121.sp := rfl
attribute [go_sem] TP97 TR97 TA97
section
attribute [local go_sem] T97 tb97_121 Tryz.results97 Tryz.results120 Tryz.results141 Tryz.results154
theorem v97 : Valid Tryz.prog 97 T97.sp := by
 refine valid_t (fn := Tryz.f97) (n := 10) ty_ok tb97_ok Tryz.func97 rfl Tryz.ntmps97 ?_
 rintro ⟨x0, x1, x2, x3, x4, x5, x6, x7, a1⟩ hx
 obtain ⟨r, hr⟩ := oE (show (r97 x0 x1 x2 x3 x4 x5 x6 x7 a1).isSome = true from hx)
 have hres : T97.res (x0, x1, x2, x3, x4, x5, x6, x7, a1) = qu6 r := by simp only [T97, mkT, hr, oG]
 refine ⟨nL rfl, fun stop S => ?_⟩
 rw [hres] at S
 unfold r97 at hr
 refine S.gx [1] ?_
 repeat refine gA ?_
 refine S.inl 4 [4] [] Tryz.func120 (by decide) rfl Tryz.ntmps120 (fun cx e => drawn_ok ty_ok tb97_ok cx e) (some 9) rfl rfl rfl rfl (nL rfl) (nL rfl) ?_
 refine gs ?_
 repeat refine gA ?_
 intro stop1 S1
 refine S1.gx [1, 3] ?_
 repeat refine gA ?_
 refine S1.inl 1 [2, 3, 4] [] Tryz.func141 (by decide) rfl Tryz.ntmps141 (fun cx e => drawn_ok ty_ok tb97_ok cx e) (some 7) rfl rfl rfl rfl (nL rfl) (nL rfl) ?_
 refine gs ?_
 repeat refine gA ?_
 intro stop2 S2
 refine S2.gx [] ?_
 repeat refine gA ?_
 refine S1.gx [1, 3] ?_
 repeat refine gA ?_
 refine S1.range [2, 3, 4] Tryz.func154 (by decide) rfl Tryz.ntmps154 Tryz.results154 (fun cx e => drawn_ok ty_ok tb97_ok cx e) (fun cx e => drawn_ok ty_ok tb97_ok cx e) (by decide) rfl rfl (nL rfl) ?_
 intro l2 stop2 stopJ2 S2 SJ2 Y2
 refine S2.gx [3] ?_
 repeat refine gA ?_
 refine S2.sees [0, 1, 3] [(1, 1), (100002, 100002), (100003, 100003), (4, 4), (3, 3)] [] ?_ (Stop.iter S2 (fun s1 => ⟨[(0, .c (.yld l2)), (1, .c (.ref 1 0)), (3, .c (.d (.int .i64 s1)))], [(1, [.d (encF 4 d_IIII x0)]), (100002, [.d (encF 4 d_IIII x0)]), (100003, [.clo 121 [.ref 3 0]]), (4, [.d (encP d_IIII none)]), (3, [.d (.int .i64 a1)])], []⟩) (b97_1 x0 a1) (fun q => q = r) hr rfl ?_)
 ·exact lf
 ·intro s1 hr
  unfold b97_1 at hr
  refine S2.gx [3] ?_
  repeat refine gA ?_
  refine ⟨?_, ?_⟩ <;> intro hc
  ·have hr := ifP1 hr hc
   repeat refine gA ?_
   refine Y2 6 [0, 1, 3] (some 17) rfl rfl rfl rfl (nL rfl) (by rfl) ?_
   refine gs ?_
   obtain ⟨hg4, hr⟩ := of_guard1 hr
   repeat refine gA ?_
   intro stopA3 SA3
   refine SA3.gx [] ?_
   repeat refine gA ?_
   intro stop3 S3
   refine S3.gx [1, 3] ?_
   repeat refine gA ?_
   refine S3.gx [1] ?_
   obtain ⟨hg3, hr⟩ := of_guard1 hr
   obtain ⟨v1, hv1, hr⟩ := of_bind1 hr
   try simp only [hv1, oG, oI, true_and, and_assoc]
   repeat refine gA ?_
   refine ⟨?_, ?_⟩ <;> intro hc
   ·have hr := ifP1 hr hc
    obtain ⟨hg2, hr⟩ := of_guard1 hr
    repeat refine gA ?_
    refine (SJ2 .ret).gx [3] ?_
    repeat refine gA ?_
    have hr := of_out0 hr
    repeat refine gA ?_
    refine S1.gx [1, 3] ?_
    repeat refine gA ?_
    refine S.gx [1] ?_
    repeat refine gA ?_
    cases hr
    exact lf
   ·have hr := ifN1 hr hc
    repeat refine gA ?_
    refine S2.gx [3] ?_
    repeat refine gA ?_
    refine S2.sees [0, 1, 3] [(1, 1), (100002, 100002), (100003, 100003), (4, 4), (3, 3)] [] ?_ hr
    exact lf
  ·have hr := ifN1 hr hc
   repeat refine gA ?_
   have hr := of_out0 hr
   repeat refine gA ?_
   refine S1.gx [1, 3] ?_
   repeat refine gA ?_
   refine S.gx [1] ?_
   repeat refine gA ?_
   cases hr
   exact lf
theorem f97 : FnFact Tryz.prog 97 T97.sp := ⟨⟨Tryz.f97, Tryz.func97, by decide, rfl⟩, v97⟩
end

/- martensite/steel.picked -/
def r98 (x0 : Int) (x1 : Int) (a1 : Int) : Option (Int) :=
  some (IntKind.i64.wrap (x0 + (IntKind.i64.wrap ((IntKind.i64.wrap ((IntKind.i64.wrap (x1 - x0)) * a1)).tdiv 1000))))
def T98 : TSpec qA15 := mkT qE15 qd15 (fun ⟨x0, x1, a1⟩ => r98 x0 x1 a1) qu4 false
theorem TP98 (c0 c1 c2 : D) : T98.sp.pre [.agg [c0, c1], .c c2] = (eqvArgs (qt15 c0 c1 c2) (qp15 qw15 c0 c1 c2) ∧ (qp15 r98 c0 c1 c2).isSome = true) := (rfl)
theorem TR98 (c0 c1 c2 : D) : T98.sp.res [.agg [c0, c1], .c c2] = qu4 ((qp15 r98 c0 c1 c2).getD default) := (rfl)
theorem TA98 : T98.sp.alias = false := (rfl)
def tb98 : Fns := lk []
theorem tb98_ok : FnsOk Tryz.prog tb98 := FnsOk.nil
attribute [go_sem] TP98 TR98 TA98
section
attribute [local go_sem] T98 Tryz.results98
theorem v98 : Valid Tryz.prog 98 T98.sp := by
 refine valid_t (fn := Tryz.f98) (n := 16) ty_ok tb98_ok Tryz.func98 rfl Tryz.ntmps98 ?_
 rintro ⟨x0, x1, a1⟩ hx
 obtain ⟨r, hr⟩ := oE (show (r98 x0 x1 a1).isSome = true from hx)
 have hres : T98.res (x0, x1, a1) = qu4 r := by simp only [T98, mkT, hr, oG]
 refine ⟨nL rfl, fun stop S => ?_⟩
 rw [hres] at S
 unfold r98 at hr
 refine S.gx [] ?_
 repeat refine gA ?_
 cases hr
 exact lf
theorem f98 : FnFact Tryz.prog 98 T98.sp := ⟨⟨Tryz.f98, Tryz.func98, by decide, rfl⟩, v98⟩
end

/- (martensite/steel.rules).cool$1 -/
def r123 (x0 : Int) (x2 : Int) (x3 : Int) (x4 : Int) (x5 : Int) (x1 : Int) : Option (Bool) :=
  some (decide (x0 ≥ x1))
def T123 : TSpec qA16 := mkT qE16 qd16 (fun ⟨x0, x2, x3, x4, x5, x1⟩ => r123 x0 x2 x3 x4 x5 x1) qu3 false
theorem TP123 (c0 c1 c2 c3 c4 c5 : D) : T123.sp.pre [.agg [c0, c1, c2, c3, c4], .ptr [c5]] = (eqvArgs (qt16 c0 c1 c2 c3 c4 c5) (qp16 qw16 c0 c1 c2 c3 c4 c5) ∧ (qp16 r123 c0 c1 c2 c3 c4 c5).isSome = true) := (rfl)
theorem TR123 (c0 c1 c2 c3 c4 c5 : D) : T123.sp.res [.agg [c0, c1, c2, c3, c4], .ptr [c5]] = qu3 ((qp16 r123 c0 c1 c2 c3 c4 c5).getD default) := (rfl)
theorem TA123 : T123.sp.alias = false := (rfl)
def tb123 : Fns := lk []
theorem tb123_ok : FnsOk Tryz.prog tb123 := FnsOk.nil
attribute [go_sem] TP123 TR123 TA123
section
attribute [local go_sem] T123 Tryz.results123
theorem v123 : Valid Tryz.prog 123 T123.sp := by
 refine valid_t (fn := Tryz.f123) (n := 8) ty_ok tb123_ok Tryz.func123 rfl Tryz.ntmps123 ?_
 rintro ⟨x0, x2, x3, x4, x5, x1⟩ hx
 obtain ⟨r, hr⟩ := oE (show (r123 x0 x2 x3 x4 x5 x1).isSome = true from hx)
 have hres : T123.res (x0, x2, x3, x4, x5, x1) = qu3 r := by simp only [T123, mkT, hr, oG]
 refine ⟨nL rfl, fun stop S => ?_⟩
 rw [hres] at S
 unfold r123 at hr
 refine S.gx [] ?_
 repeat refine gA ?_
 cases hr
 exact lf
theorem f123 : FnFact Tryz.prog 123 T123.sp := ⟨⟨Tryz.f123, Tryz.func123, by decide, rfl⟩, v123⟩
end

/- slices.IndexFunc[[]martensite/api.SteelCool,martensite/api.SteelCool] -/
def b142_1 (a0 : List (Int × Int × Int × Int × Int)) (x0 : Int) : (Int) → Ctl (Int) (Int) := fun s1 =>
  if (decide (s1 < (a0.length : Int))) = true then
   if 0 ≤ s1 ∧ s1 < (a0.length : Int) then
    bindC (r123 ((a0.getD s1.toNat default).1) ((a0.getD s1.toNat default).2.1) ((a0.getD s1.toNat default).2.2.1) ((a0.getD s1.toNat default).2.2.2.1) ((a0.getD s1.toNat default).2.2.2.2) x0) fun v1 =>
     if v1 = true then
      .out (some s1)
      else .next (IntKind.i64.wrap (s1 + 1))
    else .out none
   else .out (some (-1))
def r142 (a0 : List (Int × Int × Int × Int × Int)) (x0 : Int) : Option (Int) :=
  iterC (b142_1 a0 x0) 1000000000 0
def T142 : TSpec qA17 := mkT qE17 qd17 (fun ⟨a0, x0⟩ => r142 a0 x0) qu4 false
theorem TP142 (c0 c1 : D) : T142.sp.pre [.c c0, .clo 123 [[c1]]] = (eqvArgs (qt17 c0 c1) (qp17 qw17 c0 c1) ∧ (qp17 r142 c0 c1).isSome = true) := (rfl)
theorem TR142 (c0 c1 : D) : T142.sp.res [.c c0, .clo 123 [[c1]]] = qu4 ((qp17 r142 c0 c1).getD default) := (rfl)
theorem TA142 : T142.sp.alias = false := (rfl)
def tb142 : Fns := lk [(123, T123.sp)]
theorem tb142_ok : FnsOk Tryz.prog tb142 := .cons f123 (FnsOk.nil)
theorem tb142_123 : tb142 123 = some T123.sp := rfl
theorem lt142_0 : (IntKind.i64.wrap (0 + 1)) = 1 := by first | rfl | decide | simp
attribute [go_sem] TP142 TR142 TA142
section
attribute [local go_sem] T142 tb142_123 Tryz.results142 lt142_0
theorem v142 : Valid Tryz.prog 142 T142.sp := by
 refine valid_t (fn := Tryz.f142) (n := 19) ty_ok tb142_ok Tryz.func142 rfl Tryz.ntmps142 ?_
 rintro ⟨a0, x0⟩ hx
 obtain ⟨r, hr⟩ := oE (show (r142 a0 x0).isSome = true from hx)
 have hres : T142.res (a0, x0) = qu4 r := by simp only [T142, mkT, hr, oG]
 refine ⟨nL rfl, fun stop S => ?_⟩
 rw [hres] at S
 unfold r142 at hr
 refine S.gx [] ?_
 repeat refine gA ?_
 refine S.sees [0, 1, 7, 8] [] [] ?_ (Stop.iter S (fun s1 => ⟨[(0, .c (.d (encF 5 d_IIIII a0))), (1, .c (.clo 123 [.sptr [.int .i64 x0] 0])), (7, .c (.d (.int .i64 (a0.length : Int)))), (8, .c (.d (.int .i64 s1)))], [], []⟩) (b142_1 a0 x0) (fun q => q = r) hr rfl ?_)
 ·exact lf
 ·intro s1 hr
  unfold b142_1 at hr
  refine S.gx [] ?_
  repeat refine gA ?_
  refine ⟨?_, ?_⟩ <;> intro hc
  ·have hr := ifP1 hr hc
   obtain ⟨hg2, hr⟩ := of_guard1 hr
   obtain ⟨v1, hv1, hr⟩ := of_bind1 hr
   try simp only [hv1, oG, oI, true_and, and_assoc]
   repeat refine gA ?_
   refine ⟨?_, ?_⟩ <;> intro hc
   ·have hr := ifP1 hr hc
    repeat refine gA ?_
    have hr := of_out0 hr
    cases hr
    exact lf
   ·have hr := ifN1 hr hc
    repeat refine gA ?_
    refine S.sees [0, 1, 7, 8] [] [] ?_ hr
    exact lf
  ·have hr := ifN1 hr hc
   repeat refine gA ?_
   have hr := of_out0 hr
   repeat refine gA ?_
   cases hr
   exact lf
theorem f142 : FnFact Tryz.prog 142 T142.sp := ⟨⟨Tryz.f142, Tryz.func142, by decide, rfl⟩, v142⟩
end

/- (martensite/steel.rules).cool -/
def r99 (x1 : List (Int × Int × Int × Int)) (x0 : List (Int × Int × Int × Int × Int)) (x2 : List (Int × Int × Int)) (x3 : List (Int × Int)) (x4 : Int) (x5 : Int) (x6 : Int) (x7 : Int) (a1 : Int) : Option ((Option (Int × Int × Int × Int × Int))) :=
  (r142 x0 a1).bind fun v1 =>
   if (decide (v1 ≥ 0)) = true then
    if 0 ≤ v1 ∧ v1 < (x0.length : Int) then
     some (some ((x0.getD v1.toNat default).1, (x0.getD v1.toNat default).2.1, (x0.getD v1.toNat default).2.2.1, (x0.getD v1.toNat default).2.2.2.1, (x0.getD v1.toNat default).2.2.2.2))
     else none
    else some none
def T99 : TSpec qA14 := mkT qE14 qd14 (fun ⟨x1, x0, x2, x3, x4, x5, x6, x7, a1⟩ => r99 x1 x0 x2 x3 x4 x5 x6 x7 a1) qu7 true
theorem TP99 (c0 c1 c2 c3 c4 c5 c6 c7 c8 : D) : T99.sp.pre [.agg [c0, c1, c2, c3, c4, c5, c6, c7], .c c8] = (eqvArgs (qt14 c0 c1 c2 c3 c4 c5 c6 c7 c8) (qp14 qw14 c0 c1 c2 c3 c4 c5 c6 c7 c8) ∧ (qp14 r99 c0 c1 c2 c3 c4 c5 c6 c7 c8).isSome = true) := (rfl)
theorem TR99 (c0 c1 c2 c3 c4 c5 c6 c7 c8 : D) : T99.sp.res [.agg [c0, c1, c2, c3, c4, c5, c6, c7], .c c8] = qu7 ((qp14 r99 c0 c1 c2 c3 c4 c5 c6 c7 c8).getD default) := (rfl)
theorem TA99 : T99.sp.alias = true := (rfl)
def tb99 : Fns := lk [(142, T142.sp)]
theorem tb99_ok : FnsOk Tryz.prog tb99 := .cons f142 (FnsOk.nil)
theorem tb99_142 : tb99 142 = some T142.sp := rfl
attribute [go_sem] TP99 TR99 TA99
section
attribute [local go_sem] T99 tb99_142 Tryz.results99 Tryz.results122
theorem v99 : Valid Tryz.prog 99 T99.sp := by
 refine valid_t (fn := Tryz.f99) (n := 10) ty_ok tb99_ok Tryz.func99 rfl Tryz.ntmps99 ?_
 rintro ⟨x1, x0, x2, x3, x4, x5, x6, x7, a1⟩ hx
 obtain ⟨r, hr⟩ := oE (show (r99 x1 x0 x2 x3 x4 x5 x6 x7 a1).isSome = true from hx)
 have hres : T99.res (x1, x0, x2, x3, x4, x5, x6, x7, a1) = qu7 r := by simp only [T99, mkT, hr, oG]
 refine ⟨nL rfl, fun stop S => ?_⟩
 rw [hres] at S
 unfold r99 at hr
 refine S.gx [1] ?_
 repeat refine gA ?_
 refine S.inl 4 [4] [] Tryz.func122 (by decide) rfl Tryz.ntmps122 (fun cx e => drawn_ok ty_ok tb99_ok cx e) (some 9) rfl rfl rfl rfl (nL rfl) (nL rfl) ?_
 refine gs ?_
 repeat refine gA ?_
 intro stop1 S1
 refine S1.gx [] ?_
 obtain ⟨v1, hv1, hr⟩ := of_bind0 hr
 try simp only [hv1, oG, oI, true_and, and_assoc]
 repeat refine gA ?_
 refine ⟨?_, ?_⟩ <;> intro hc
 ·have hr := ifP hr hc
  obtain ⟨hg2, hr⟩ := of_guard0 hr
  repeat refine gA ?_
  refine S.gx [1] ?_
  repeat refine gA ?_
  cases hr
  exact lf
 ·have hr := ifN hr hc
  repeat refine gA ?_
  refine S.gx [1] ?_
  repeat refine gA ?_
  cases hr
  exact lf
theorem f99 : FnFact Tryz.prog 99 T99.sp := ⟨⟨Tryz.f99, Tryz.func99, by decide, rfl⟩, v99⟩
end
end Go.Proofs.YtdlogfepbkojkaaGreatDoor

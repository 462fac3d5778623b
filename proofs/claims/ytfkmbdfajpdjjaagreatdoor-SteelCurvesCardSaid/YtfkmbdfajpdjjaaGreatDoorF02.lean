/- Contracts of functions, written by wip/dec. -/
import Derived.Test.YtfkmbdfajpdjjaaGreatDoorF00
import Derived.Test.YtfkmbdfajpdjjaaGreatDoorF01
set_option linter.unusedVariables false
set_option linter.unusedSimpArgs false
set_option maxHeartbeats 4000000
set_option maxRecDepth 20000
namespace Go.Proofs.YtfkmbdfajpdjjaaGreatDoor
open Go.Abs
abbrev qA11 := (List (Int))
def qw11 (a0 : List (Int)) : List Arg := [.c (encF 1 d_I a0), .clo 84 []]
def qE11 : qA11 → List Arg := qw11
def qd11 (a : List Arg) : qA11 := decF g_I (aCell a 0 0)
def qp11 {β : Type} (f : (List (Int)) → β) (c0 : D) : β := f (decF g_I c0)
def qt11 (c0 : D) : List Arg := [.c c0, .clo 84 []]
attribute [go_sem] qw11 qp11 qt11 qE11
abbrev qA12 := Int × Int × Int
def qw12 (a0 : Int) (a1 : Int) (a2 : Int) : List Arg := [.agg [.int .i64 a0, .int .i64 a1, .int .i64 a2]]
def qE12 : qA12 → List Arg := fun ⟨a0, a1, a2⟩ => qw12 a0 a1 a2
def qd12 (a : List Arg) : qA12 := (dInt (aCell a 0 0), dInt (aCell a 0 1), dInt (aCell a 0 2))
def qp12 {β : Type} (f : Int → Int → Int → β) (c0 c1 c2 : D) : β := f (dInt c0) (dInt c1) (dInt c2)
def qt12 (c0 c1 c2 : D) : List Arg := [.agg [c0, c1, c2]]
attribute [go_sem] qw12 qp12 qt12 qE12
abbrev qA13 := Int × Int × Int × Int × Int
def qw13 (a0 : Int) (a1 : Int) (a2 : Int) (a3 : Int) (a4 : Int) : List Arg := [.agg [.int .i64 a0, .int .i64 a1, .int .i64 a2, .int .i64 a3], .ptr [.int .i64 a4]]
def qE13 : qA13 → List Arg := fun ⟨a0, a1, a2, a3, a4⟩ => qw13 a0 a1 a2 a3 a4
def qd13 (a : List Arg) : qA13 := (dInt (aCell a 0 0), dInt (aCell a 0 1), dInt (aCell a 0 2), dInt (aCell a 0 3), dInt (aCell a 1 0))
def qp13 {β : Type} (f : Int → Int → Int → Int → Int → β) (c0 c1 c2 c3 c4 : D) : β := f (dInt c0) (dInt c1) (dInt c2) (dInt c3) (dInt c4)
def qt13 (c0 c1 c2 c3 c4 : D) : List Arg := [.agg [c0, c1, c2, c3], .ptr [c4]]
attribute [go_sem] qw13 qp13 qt13 qE13
abbrev qA16 := Int × Int × Int × Int × Int × Int
def qw16 (a0 : Int) (a1 : Int) (a2 : Int) (a3 : Int) (a4 : Int) (a5 : Int) : List Arg := [.agg [.int .i64 a0, .int .i64 a1, .int .i64 a2, .int .i64 a3, .int .i64 a4], .ptr [.int .i64 a5]]
def qE16 : qA16 → List Arg := fun ⟨a0, a1, a2, a3, a4, a5⟩ => qw16 a0 a1 a2 a3 a4 a5
def qd16 (a : List Arg) : qA16 := (dInt (aCell a 0 0), dInt (aCell a 0 1), dInt (aCell a 0 2), dInt (aCell a 0 3), dInt (aCell a 0 4), dInt (aCell a 1 0))
def qp16 {β : Type} (f : Int → Int → Int → Int → Int → Int → β) (c0 c1 c2 c3 c4 c5 : D) : β := f (dInt c0) (dInt c1) (dInt c2) (dInt c3) (dInt c4) (dInt c5)
def qt16 (c0 c1 c2 c3 c4 c5 : D) : List Arg := [.agg [c0, c1, c2, c3, c4], .ptr [c5]]
attribute [go_sem] qw16 qp16 qt16 qE16
abbrev qA17 := (List (Int × Int × Int × Int × Int)) × Int
def qw17 (a0 : List (Int × Int × Int × Int × Int)) (a1 : Int) : List Arg := [.c (encF 5 d_IIIII a0), .clo 117 [[.int .i64 a1]]]
def qE17 : qA17 → List Arg := fun ⟨a0, a1⟩ => qw17 a0 a1
def qd17 (a : List Arg) : qA17 := (decF g_IIIII (aCell a 0 0), dInt (aCell a 1 0))
def qp17 {β : Type} (f : (List (Int × Int × Int × Int × Int)) → Int → β) (c0 c1 : D) : β := f (decF g_IIIII c0) (dInt c1)
def qt17 (c0 c1 : D) : List Arg := [.c c0, .clo 117 [[c1]]]
attribute [go_sem] qw17 qp17 qt17 qE17
def qu6 (v : (Option (Int × Int × Int × Int))) : List RV := [.c (.d (encP d_IIII v))]
attribute [go_sem] qu6
def qu7 (v : (Option (Int × Int × Int × Int × Int))) : List RV := [.c (.d (encP d_IIIII v))]
attribute [go_sem] qu7
/- slices.IsSorted[[]int,int] -/
def b110_1 (a0 : List (Int)) : (Int) → Ctl (Int) (Bool) := fun s1 =>
  if (decide (s1 > 0)) = true then
   if 0 ≤ s1 ∧ s1 < (a0.length : Int) then
    if 0 ≤ IntKind.i64.wrap (s1 - 1) ∧ IntKind.i64.wrap (s1 - 1) < (a0.length : Int) then
     bindC (r130 (a0.getD s1.toNat default) (a0.getD (IntKind.i64.wrap (s1 - 1)).toNat default)) fun v1 =>
      if v1 = true then
       .out (some false)
       else .next (IntKind.i64.wrap (s1 - 1))
     else .out none
    else .out none
   else .out (some true)
def r110 (a0 : List (Int)) : Option (Bool) :=
  iterC (b110_1 a0) 1000000000 (IntKind.i64.wrap ((a0.length : Int) - 1))
def T110 : TSpec qA6 := mkT qE6 qd6 r110 qu3 false
theorem TP110 (c0 : D) : T110.sp.pre [.c c0] = (eqvArgs (qt6 c0) (qp6 qw6 c0) ∧ (qp6 r110 c0).isSome = true) := (rfl)
theorem TR110 (c0 : D) : T110.sp.res [.c c0] = qu3 ((qp6 r110 c0).getD default) := (rfl)
theorem TA110 : T110.sp.alias = false := (rfl)
def tb110 : Fns := lk [(130, T130.sp)]
theorem tb110_ok : FnsOk Tryz.prog tb110 := .cons f130 (FnsOk.nil)
theorem tb110_130 : tb110 130 = some T130.sp := rfl
attribute [go_sem] TP110 TR110 TA110
section
attribute [local go_sem] T110 tb110_130 Tryz.results110
theorem v110 : Valid Tryz.prog 110 T110.sp := by
 refine valid_t (fn := Tryz.f110) (n := 21) ty_ok tb110_ok Tryz.func110 rfl Tryz.ntmps110 ?_
 rintro a0 hx
 obtain ⟨r, hr⟩ := oE (show (r110 a0).isSome = true from hx)
 have hres : T110.res a0 = qu3 r := by simp only [T110, mkT, hr, oG]
 refine ⟨nL rfl, fun stop S => ?_⟩
 rw [hres] at S
 unfold r110 at hr
 refine S.gx [] ?_
 repeat refine gA ?_
 refine S.sees [0, 3] [] [] ?_ (Stop.iter S (fun s1 => ⟨[(0, .c (.d (encF 1 d_I a0))), (3, .c (.d (.int .i64 s1)))], [], []⟩) (b110_1 a0) (fun q => q = r) hr rfl ?_)
 ·exact lf
 ·intro s1 hr
  unfold b110_1 at hr
  refine S.gx [] ?_
  repeat refine gA ?_
  refine ⟨?_, ?_⟩ <;> intro hc
  ·have hr := ifP1 hr hc
   obtain ⟨hg2, hr⟩ := of_guard1 hr
   obtain ⟨hg3, hr⟩ := of_guard1 hr
   obtain ⟨v1, hv1, hr⟩ := of_bind1 hr
   try simp only [hv1, oG, oI, true_and, and_assoc]
   repeat refine gA ?_
   refine ⟨?_, ?_⟩ <;> intro hc
   ·have hr := ifP1 hr hc
    repeat refine gA ?_
    have hr := of_out0 hr
    cases hr
    exact lf
   ·have hr := ifN1 hr hc
    repeat refine gA ?_
    refine S.sees [0, 3] [] [] ?_ hr
    exact lf
  ·have hr := ifN1 hr hc
   repeat refine gA ?_
   have hr := of_out0 hr
   repeat refine gA ?_
   cases hr
   exact lf
theorem f110 : FnFact Tryz.prog 110 T110.sp := ⟨⟨Tryz.f110, Tryz.func110, by decide, rfl⟩, v110⟩
end

/- martensite/steel.CheckRules -/
def b81_4 (x0 : Int) (x1 : Int) (x2 : Int) (x3 : Int) (v1 : (List (Int × (List (Int × Int)) × Int)) × (List (Int × (List (Int × Int)) × Int)) × (List (Int × (List (Int × Int)) × Int)) × (List (Int × (List (Int × Int)) × Int))) : ((Option (Int × (List (Int × Int)) × Int)) × Int) → Ctl ((Option (Int × (List (Int × Int)) × Int)) × Int) (Int × Int) := fun s4 =>
  if (decide (s4.2 < (v1.2.2.2.length : Int))) = true then
   if 0 ≤ s4.2 ∧ s4.2 < (v1.2.2.2.length : Int) then
    bindC (r108 ((v1.2.2.2.getD s4.2.toNat default).1) ((v1.2.2.2.getD s4.2.toNat default).2.1) ((v1.2.2.2.getD s4.2.toNat default).2.2) s4.1 0) fun v11 =>
     if (v11 != 0) = true then
      .out (some (s4.2, v11))
      else if 0 ≤ s4.2 ∧ s4.2 < (v1.2.2.2.length : Int) then
       .next (some ((v1.2.2.2.getD s4.2.toNat default).1, (v1.2.2.2.getD s4.2.toNat default).2.1, (v1.2.2.2.getD s4.2.toNat default).2.2), IntKind.i64.wrap (s4.2 + 1))
       else .out none
    else .out none
   else .out (if (decide ((v1.1.length : Int) > 0)) = true then
    if (decide ((v1.2.1.length : Int) > 0)) = true → 0 ≤ IntKind.i64.wrap ((v1.2.1.length : Int) - 1) ∧ IntKind.i64.wrap ((v1.2.1.length : Int) - 1) < (v1.2.1.length : Int) then
     if (decide ((v1.2.1.length : Int) > 0)) = true → 0 ≤ 0 ∧ 0 < (v1.1.length : Int) then
      if ((decide ((v1.2.1.length : Int) > 0)) && (decide (((v1.2.1.getD (IntKind.i64.wrap ((v1.2.1.length : Int) - 1)).toNat default).1) ≥ ((v1.1.getD 0 default).1)))) = true then
       some (0, 13)
       else if (decide ((v1.2.2.1.length : Int) > 0)) = true → 0 ≤ IntKind.i64.wrap ((v1.2.2.1.length : Int) - 1) ∧ IntKind.i64.wrap ((v1.2.2.1.length : Int) - 1) < (v1.2.2.1.length : Int) then
        if (decide ((v1.2.2.1.length : Int) > 0)) = true → 0 ≤ 0 ∧ 0 < (v1.1.length : Int) then
         if ((decide ((v1.2.2.1.length : Int) > 0)) && (decide (((v1.2.2.1.getD (IntKind.i64.wrap ((v1.2.2.1.length : Int) - 1)).toNat default).1) ≥ ((v1.1.getD 0 default).1)))) = true then
          some (0, 13)
          else if (decide ((v1.2.2.2.length : Int) > 0)) = true → 0 ≤ IntKind.i64.wrap ((v1.2.2.2.length : Int) - 1) ∧ IntKind.i64.wrap ((v1.2.2.2.length : Int) - 1) < (v1.2.2.2.length : Int) then
           if (decide ((v1.2.2.2.length : Int) > 0)) = true → 0 ≤ 0 ∧ 0 < (v1.1.length : Int) then
            if ((decide ((v1.2.2.2.length : Int) > 0)) && (decide (((v1.2.2.2.getD (IntKind.i64.wrap ((v1.2.2.2.length : Int) - 1)).toNat default).1) ≥ ((v1.1.getD 0 default).1)))) = true then
             some (0, 13)
             else (r83 [x0, x1, x2, x3]).bind fun v14 =>
              (r48 (!v14) 2).bind fun v15 =>
               (r110 [x0, x1, x2, x3]).bind fun v16 =>
                (r48 v16 9).bind fun v17 =>
                 (r45 [v15, v17]).bind fun v18 =>
                  some (0, v18)
            else none
           else none
         else none
        else none
      else none
     else none
    else (r83 [x0, x1, x2, x3]).bind fun v25 =>
     (r48 (!v25) 2).bind fun v26 =>
      (r110 [x0, x1, x2, x3]).bind fun v27 =>
       (r48 v27 9).bind fun v28 =>
        (r45 [v26, v28]).bind fun v29 =>
         some (0, v29))
def b81_3 (x0 : Int) (x1 : Int) (x2 : Int) (x3 : Int) (v1 : (List (Int × (List (Int × Int)) × Int)) × (List (Int × (List (Int × Int)) × Int)) × (List (Int × (List (Int × Int)) × Int)) × (List (Int × (List (Int × Int)) × Int))) : ((Option (Int × (List (Int × Int)) × Int)) × Int) → Ctl ((Option (Int × (List (Int × Int)) × Int)) × Int) (Int × Int) := fun s3 =>
  if (decide (s3.2 < (v1.2.2.1.length : Int))) = true then
   if 0 ≤ s3.2 ∧ s3.2 < (v1.2.2.1.length : Int) then
    bindC (r108 ((v1.2.2.1.getD s3.2.toNat default).1) ((v1.2.2.1.getD s3.2.toNat default).2.1) ((v1.2.2.1.getD s3.2.toNat default).2.2) s3.1 (-1)) fun v8 =>
     if (v8 != 0) = true then
      .out (some (s3.2, v8))
      else if 0 ≤ s3.2 ∧ s3.2 < (v1.2.2.1.length : Int) then
       .next (some ((v1.2.2.1.getD s3.2.toNat default).1, (v1.2.2.1.getD s3.2.toNat default).2.1, (v1.2.2.1.getD s3.2.toNat default).2.2), IntKind.i64.wrap (s3.2 + 1))
       else .out none
    else .out none
   else .out (iterC (b81_4 x0 x1 x2 x3 v1) 1000000000 (none, 0))
def b81_2 (x0 : Int) (x1 : Int) (x2 : Int) (x3 : Int) (v1 : (List (Int × (List (Int × Int)) × Int)) × (List (Int × (List (Int × Int)) × Int)) × (List (Int × (List (Int × Int)) × Int)) × (List (Int × (List (Int × Int)) × Int))) : ((Option (Int × (List (Int × Int)) × Int)) × Int) → Ctl ((Option (Int × (List (Int × Int)) × Int)) × Int) (Int × Int) := fun s2 =>
  if (decide (s2.2 < (v1.2.1.length : Int))) = true then
   if 0 ≤ s2.2 ∧ s2.2 < (v1.2.1.length : Int) then
    bindC (r108 ((v1.2.1.getD s2.2.toNat default).1) ((v1.2.1.getD s2.2.toNat default).2.1) ((v1.2.1.getD s2.2.toNat default).2.2) s2.1 0) fun v5 =>
     if (v5 != 0) = true then
      .out (some (s2.2, v5))
      else if 0 ≤ s2.2 ∧ s2.2 < (v1.2.1.length : Int) then
       .next (some ((v1.2.1.getD s2.2.toNat default).1, (v1.2.1.getD s2.2.toNat default).2.1, (v1.2.1.getD s2.2.toNat default).2.2), IntKind.i64.wrap (s2.2 + 1))
       else .out none
    else .out none
   else .out (iterC (b81_3 x0 x1 x2 x3 v1) 1000000000 (none, 0))
def b81_1 (x0 : Int) (x1 : Int) (x2 : Int) (x3 : Int) (v1 : (List (Int × (List (Int × Int)) × Int)) × (List (Int × (List (Int × Int)) × Int)) × (List (Int × (List (Int × Int)) × Int)) × (List (Int × (List (Int × Int)) × Int))) : ((Option (Int × (List (Int × Int)) × Int)) × Int) → Ctl ((Option (Int × (List (Int × Int)) × Int)) × Int) (Int × Int) := fun s1 =>
  if (decide (s1.2 < (v1.1.length : Int))) = true then
   if 0 ≤ s1.2 ∧ s1.2 < (v1.1.length : Int) then
    bindC (r108 ((v1.1.getD s1.2.toNat default).1) ((v1.1.getD s1.2.toNat default).2.1) ((v1.1.getD s1.2.toNat default).2.2) s1.1 1) fun v2 =>
     if (v2 != 0) = true then
      .out (some (s1.2, v2))
      else if 0 ≤ s1.2 ∧ s1.2 < (v1.1.length : Int) then
       .next (some ((v1.1.getD s1.2.toNat default).1, (v1.1.getD s1.2.toNat default).2.1, (v1.1.getD s1.2.toNat default).2.2), IntKind.i64.wrap (s1.2 + 1))
       else .out none
    else .out none
   else .out (iterC (b81_2 x0 x1 x2 x3 v1) 1000000000 (none, 0))
def r81 (x4 : List (Int × Int × Int × Int)) (x5 : List (Int × Int × Int × Int × Int)) (x6 : List (Int × Int × Int)) (x7 : List (Int × Int)) (x0 : Int) (x1 : Int) (x2 : Int) (x3 : Int) : Option (Int × Int) :=
  (r107 x4 x5 x6 x7 x0 x1 x2 x3).bind fun v1 =>
   if (decide ((v1.1.length : Int) > 8)) = true then
    some (0, 8)
    else if (decide ((v1.2.1.length : Int) > 8)) = true then
     some (0, 8)
     else if (decide ((v1.2.2.1.length : Int) > 8)) = true then
      some (0, 8)
      else if (decide ((v1.2.2.2.length : Int) > 8)) = true then
       some (0, 8)
       else iterC (b81_1 x0 x1 x2 x3 v1) 1000000000 (none, 0)
def T81 : TSpec qA1 := mkT qE1 qd1 (fun ⟨x4, x5, x6, x7, x0, x1, x2, x3⟩ => r81 x4 x5 x6 x7 x0 x1 x2 x3) qu5 false
theorem TP81 (c0 c1 c2 c3 c4 c5 c6 c7 : D) : T81.sp.pre [.agg [c0, c1, c2, c3, c4, c5, c6, c7]] = (eqvArgs (qt1 c0 c1 c2 c3 c4 c5 c6 c7) (qp1 qw1 c0 c1 c2 c3 c4 c5 c6 c7) ∧ (qp1 r81 c0 c1 c2 c3 c4 c5 c6 c7).isSome = true) := (rfl)
theorem TR81 (c0 c1 c2 c3 c4 c5 c6 c7 : D) : T81.sp.res [.agg [c0, c1, c2, c3, c4, c5, c6, c7]] = qu5 ((qp1 r81 c0 c1 c2 c3 c4 c5 c6 c7).getD default) := (rfl)
theorem TA81 : T81.sp.alias = false := (rfl)
def tb81 : Fns := lk [(45, T45.sp), (48, T48.sp), (83, T83.sp), (107, T107.sp), (108, T108.sp), (110, T110.sp)]
theorem tb81_ok : FnsOk Tryz.prog tb81 := .cons f45 (.cons f48 (.cons f83 (.cons f107 (.cons f108 (.cons f110 (FnsOk.nil))))))
theorem tb81_45 : tb81 45 = some T45.sp := rfl
theorem tb81_48 : tb81 48 = some T48.sp := rfl
theorem tb81_83 : tb81 83 = some T83.sp := rfl
theorem tb81_107 : tb81 107 = some T107.sp := rfl
theorem tb81_108 : tb81 108 = some T108.sp := rfl
theorem tb81_110 : tb81 110 = some T110.sp := rfl
theorem lt81_0 : (decide ((0 : Int) < 4)) = true := by first | rfl | decide | simp
theorem lt81_1 : (IntKind.i64.wrap (0 + 1)) = 1 := by first | rfl | decide | simp
theorem lt81_2 : (decide ((1 : Int) < 4)) = true := by first | rfl | decide | simp
theorem lt81_3 : (((1 : Int) = 0 ∨ (0 : Int) < 1)) = True := by first | rfl | decide | simp
theorem lt81_4 : (IntKind.i64.wrap (1 + 1)) = 2 := by first | rfl | decide | simp
theorem lt81_5 : (decide ((2 : Int) < 4)) = true := by first | rfl | decide | simp
theorem lt81_6 : (((2 : Int) = 0 ∨ (0 : Int) < 2)) = True := by first | rfl | decide | simp
theorem lt81_7 : (IntKind.i64.wrap (2 + 1)) = 3 := by first | rfl | decide | simp
theorem lt81_8 : (decide ((3 : Int) < 4)) = true := by first | rfl | decide | simp
theorem lt81_9 : (((3 : Int) = 0 ∨ (0 : Int) < 3)) = True := by first | rfl | decide | simp
theorem lt81_10 : (IntKind.i64.wrap (3 + 1)) = 4 := by first | rfl | decide | simp
theorem lt81_11 : (decide ((4 : Int) < 4)) = false := by first | rfl | decide | simp
theorem lt81_12 : (((3 : Nat) : Int)) = 3 := by first | rfl | decide | simp
theorem lt81_13 : (decide ((0 : Int) < 3)) = true := by first | rfl | decide | simp
theorem lt81_14 : (decide ((1 : Int) < 3)) = true := by first | rfl | decide | simp
theorem lt81_15 : (decide ((2 : Int) < 3)) = true := by first | rfl | decide | simp
theorem lt81_16 : (decide ((3 : Int) < 3)) = false := by first | rfl | decide | simp
attribute [go_sem] TP81 TR81 TA81
section
attribute [local go_sem] T81 tb81_45 tb81_48 tb81_83 tb81_107 tb81_108 tb81_110 Tryz.results81 lt81_0 lt81_1 lt81_2 lt81_3 lt81_4 lt81_5 lt81_6 lt81_7 lt81_8 lt81_9 lt81_10 lt81_11 lt81_12 lt81_13 lt81_14 lt81_15 lt81_16
theorem v81 : Valid Tryz.prog 81 T81.sp := by
 refine valid_t (fn := Tryz.f81) (n := 94) ty_ok tb81_ok Tryz.func81 rfl Tryz.ntmps81 ?_
 rintro ⟨x4, x5, x6, x7, x0, x1, x2, x3⟩ hx
 obtain ⟨r, hr⟩ := oE (show (r81 x4 x5 x6 x7 x0 x1 x2 x3).isSome = true from hx)
 have hres : T81.res (x4, x5, x6, x7, x0, x1, x2, x3) = qu5 r := by simp only [T81, mkT, hr, oG]
 refine ⟨nL rfl, fun stop S => ?_⟩
 rw [hres] at S
 unfold r81 at hr
 refine S.gx [26, 27] ?_
 obtain ⟨v1, hv1, hr⟩ := of_bind0 hr
 try simp only [hv1, oG, oI, true_and, and_assoc]
 repeat refine gA ?_
 refine S.lp ?_
 refine S.gx [26, 27] ?_
 repeat refine gA ?_
 refine ⟨?_, ?_⟩ <;> intro hc
 ·have hr := ifP hr hc
  repeat refine gA ?_
  cases hr
  exact lf
 ·have hr := ifN hr hc
  repeat refine gA ?_
  refine S.lp ?_
  refine S.gx [26, 27] ?_
  repeat refine gA ?_
  refine ⟨?_, ?_⟩ <;> intro hc
  ·have hr := ifP hr hc
   repeat refine gA ?_
   cases hr
   exact lf
  ·have hr := ifN hr hc
   repeat refine gA ?_
   refine S.lp ?_
   refine S.gx [26, 27] ?_
   repeat refine gA ?_
   refine ⟨?_, ?_⟩ <;> intro hc
   ·have hr := ifP hr hc
    repeat refine gA ?_
    cases hr
    exact lf
   ·have hr := ifN hr hc
    repeat refine gA ?_
    refine S.lp ?_
    refine S.gx [26, 27] ?_
    repeat refine gA ?_
    refine ⟨?_, ?_⟩ <;> intro hc
    ·have hr := ifP hr hc
     repeat refine gA ?_
     cases hr
     exact lf
    ·have hr := ifN hr hc
     repeat refine gA ?_
     refine S.lp ?_
     refine S.gx [26, 27] ?_
     repeat refine gA ?_
     refine S.lp ?_
     refine S.gx [26, 27] ?_
     repeat refine gA ?_
     refine S.share 16 rfl ?_
     refine S.sees [1, 4, 7, 8, 9, 25, 26, 31, 32] [(1, 1), (4, 4)] [(16, 16), (10016, 10016), (20016, 20016), (30016, 30016)] ?_ (Stop.iter S (fun s1 => ⟨[(1, .c (.ref 1 0)), (4, .c (.ref 4 0)), (7, .c (.d (.int .i64 0))), (8, .c (.own 16)), (9, .c (.d (encP d_ILIIEI s1.1))), (25, .agg [.own 16, .own 10016, .own 20016, .own 30016]), (26, .c (.d (.int .i64 0))), (31, .c (.d (.int .i64 (v1.1.length : Int)))), (32, .c (.d (.int .i64 s1.2)))], [(1, [.d (encF 4 d_IIII x4), .d (encF 5 d_IIIII x5), .d (encF 3 d_III x6), .d (encF 2 d_II x7), .d (.int .i64 x0), .d (.int .i64 x1), .d (.int .i64 x2), .d (.int .i64 x3)]), (4, [.own 16, .own 10016, .own 20016, .own 30016])], [(16, .shared (encF 3 d_ILIIEI v1.1)), (10016, .owned (encF 3 d_ILIIEI v1.2.1)), (20016, .owned (encF 3 d_ILIIEI v1.2.2.1)), (30016, .owned (encF 3 d_ILIIEI v1.2.2.2))]⟩) (b81_1 x0 x1 x2 x3 v1) (fun q => q = r) hr rfl ?_)
     ·exact lf
     ·intro s1 hr
      unfold b81_1 at hr
      refine S.gx [26, 27] ?_
      repeat refine gA ?_
      refine ⟨?_, ?_⟩ <;> intro hc
      ·have hr := ifP1 hr hc
       obtain ⟨hg4, hr⟩ := of_guard1 hr
       obtain ⟨v2, hv2, hr⟩ := of_bind1 hr
       try simp only [hv2, oG, oI, true_and, and_assoc]
       repeat refine gA ?_
       refine ⟨?_, ?_⟩ <;> intro hc
       ·have hr := ifP1 hr hc
        repeat refine gA ?_
        have hr := of_out0 hr
        cases hr
        exact lf
       ·have hr := ifN1 hr hc
        obtain ⟨hg3, hr⟩ := of_guard1 hr
        repeat refine gA ?_
        refine S.sees [1, 4, 7, 8, 9, 25, 26, 31, 32] [(1, 1), (4, 4)] [(16, 16), (10016, 10016), (20016, 20016), (30016, 30016)] ?_ hr
        exact lf
      ·have hr := ifN1 hr hc
       repeat refine gA ?_
       have hr := of_out0 hr
       repeat refine gA ?_
       refine S.lp ?_
       refine S.gx [26, 27] ?_
       repeat refine gA ?_
       refine S.share 10016 rfl ?_
       refine S.sees [1, 4, 7, 8, 9, 25, 26, 31, 32] [(1, 1), (4, 4)] [(10016, 10016), (16, 16), (20016, 20016), (30016, 30016)] ?_ (Stop.iter S (fun s2 => ⟨[(1, .c (.ref 1 0)), (4, .c (.ref 4 0)), (7, .c (.d (.int .i64 1))), (8, .c (.own 10016)), (9, .c (.d (encP d_ILIIEI s2.1))), (25, .agg [.own 16, .own 10016, .own 20016, .own 30016]), (26, .c (.d (.int .i64 1))), (31, .c (.d (.int .i64 (v1.2.1.length : Int)))), (32, .c (.d (.int .i64 s2.2)))], [(1, [.d (encF 4 d_IIII x4), .d (encF 5 d_IIIII x5), .d (encF 3 d_III x6), .d (encF 2 d_II x7), .d (.int .i64 x0), .d (.int .i64 x1), .d (.int .i64 x2), .d (.int .i64 x3)]), (4, [.own 16, .own 10016, .own 20016, .own 30016])], [(10016, .shared (encF 3 d_ILIIEI v1.2.1)), (16, .shared (encF 3 d_ILIIEI v1.1)), (20016, .owned (encF 3 d_ILIIEI v1.2.2.1)), (30016, .owned (encF 3 d_ILIIEI v1.2.2.2))]⟩) (b81_2 x0 x1 x2 x3 v1) (fun q => q = r) hr rfl ?_)
       ·exact lf
       ·intro s2 hr
        unfold b81_2 at hr
        refine S.gx [26, 27] ?_
        repeat refine gA ?_
        refine ⟨?_, ?_⟩ <;> intro hc
        ·have hr := ifP1 hr hc
         obtain ⟨hg7, hr⟩ := of_guard1 hr
         obtain ⟨v5, hv5, hr⟩ := of_bind1 hr
         try simp only [hv5, oG, oI, true_and, and_assoc]
         repeat refine gA ?_
         refine ⟨?_, ?_⟩ <;> intro hc
         ·have hr := ifP1 hr hc
          repeat refine gA ?_
          have hr := of_out0 hr
          cases hr
          exact lf
         ·have hr := ifN1 hr hc
          obtain ⟨hg6, hr⟩ := of_guard1 hr
          repeat refine gA ?_
          refine S.sees [1, 4, 7, 8, 9, 25, 26, 31, 32] [(1, 1), (4, 4)] [(10016, 10016), (16, 16), (20016, 20016), (30016, 30016)] ?_ hr
          exact lf
        ·have hr := ifN1 hr hc
         repeat refine gA ?_
         have hr := of_out0 hr
         repeat refine gA ?_
         refine S.lp ?_
         refine S.gx [26, 27] ?_
         repeat refine gA ?_
         refine S.share 20016 rfl ?_
         refine S.sees [1, 4, 7, 8, 9, 25, 26, 31, 32] [(1, 1), (4, 4)] [(20016, 20016), (16, 16), (10016, 10016), (30016, 30016)] ?_ (Stop.iter S (fun s3 => ⟨[(1, .c (.ref 1 0)), (4, .c (.ref 4 0)), (7, .c (.d (.int .i64 2))), (8, .c (.own 20016)), (9, .c (.d (encP d_ILIIEI s3.1))), (25, .agg [.own 16, .own 10016, .own 20016, .own 30016]), (26, .c (.d (.int .i64 2))), (31, .c (.d (.int .i64 (v1.2.2.1.length : Int)))), (32, .c (.d (.int .i64 s3.2)))], [(1, [.d (encF 4 d_IIII x4), .d (encF 5 d_IIIII x5), .d (encF 3 d_III x6), .d (encF 2 d_II x7), .d (.int .i64 x0), .d (.int .i64 x1), .d (.int .i64 x2), .d (.int .i64 x3)]), (4, [.own 16, .own 10016, .own 20016, .own 30016])], [(20016, .shared (encF 3 d_ILIIEI v1.2.2.1)), (16, .shared (encF 3 d_ILIIEI v1.1)), (10016, .shared (encF 3 d_ILIIEI v1.2.1)), (30016, .owned (encF 3 d_ILIIEI v1.2.2.2))]⟩) (b81_3 x0 x1 x2 x3 v1) (fun q => q = r) hr rfl ?_)
         ·exact lf
         ·intro s3 hr
          unfold b81_3 at hr
          refine S.gx [26, 27] ?_
          repeat refine gA ?_
          refine ⟨?_, ?_⟩ <;> intro hc
          ·have hr := ifP1 hr hc
           obtain ⟨hg10, hr⟩ := of_guard1 hr
           obtain ⟨v8, hv8, hr⟩ := of_bind1 hr
           try simp only [hv8, oG, oI, true_and, and_assoc]
           repeat refine gA ?_
           refine ⟨?_, ?_⟩ <;> intro hc
           ·have hr := ifP1 hr hc
            repeat refine gA ?_
            have hr := of_out0 hr
            cases hr
            exact lf
           ·have hr := ifN1 hr hc
            obtain ⟨hg9, hr⟩ := of_guard1 hr
            repeat refine gA ?_
            refine S.sees [1, 4, 7, 8, 9, 25, 26, 31, 32] [(1, 1), (4, 4)] [(20016, 20016), (16, 16), (10016, 10016), (30016, 30016)] ?_ hr
            exact lf
          ·have hr := ifN1 hr hc
           repeat refine gA ?_
           have hr := of_out0 hr
           repeat refine gA ?_
           refine S.lp ?_
           refine S.gx [26, 27] ?_
           repeat refine gA ?_
           refine S.share 30016 rfl ?_
           refine S.sees [1, 4, 7, 8, 9, 25, 26, 31, 32] [(1, 1), (4, 4)] [(30016, 30016), (16, 16), (10016, 10016), (20016, 20016)] ?_ (Stop.iter S (fun s4 => ⟨[(1, .c (.ref 1 0)), (4, .c (.ref 4 0)), (7, .c (.d (.int .i64 3))), (8, .c (.own 30016)), (9, .c (.d (encP d_ILIIEI s4.1))), (25, .agg [.own 16, .own 10016, .own 20016, .own 30016]), (26, .c (.d (.int .i64 3))), (31, .c (.d (.int .i64 (v1.2.2.2.length : Int)))), (32, .c (.d (.int .i64 s4.2)))], [(1, [.d (encF 4 d_IIII x4), .d (encF 5 d_IIIII x5), .d (encF 3 d_III x6), .d (encF 2 d_II x7), .d (.int .i64 x0), .d (.int .i64 x1), .d (.int .i64 x2), .d (.int .i64 x3)]), (4, [.own 16, .own 10016, .own 20016, .own 30016])], [(30016, .shared (encF 3 d_ILIIEI v1.2.2.2)), (16, .shared (encF 3 d_ILIIEI v1.1)), (10016, .shared (encF 3 d_ILIIEI v1.2.1)), (20016, .shared (encF 3 d_ILIIEI v1.2.2.1))]⟩) (b81_4 x0 x1 x2 x3 v1) (fun q => q = r) hr rfl ?_)
           ·exact lf
           ·intro s4 hr
            unfold b81_4 at hr
            refine S.gx [26, 27] ?_
            repeat refine gA ?_
            refine ⟨?_, ?_⟩ <;> intro hc
            ·have hr := ifP1 hr hc
             obtain ⟨hg13, hr⟩ := of_guard1 hr
             obtain ⟨v11, hv11, hr⟩ := of_bind1 hr
             try simp only [hv11, oG, oI, true_and, and_assoc]
             repeat refine gA ?_
             refine ⟨?_, ?_⟩ <;> intro hc
             ·have hr := ifP1 hr hc
              repeat refine gA ?_
              have hr := of_out0 hr
              cases hr
              exact lf
             ·have hr := ifN1 hr hc
              obtain ⟨hg12, hr⟩ := of_guard1 hr
              repeat refine gA ?_
              refine S.sees [1, 4, 7, 8, 9, 25, 26, 31, 32] [(1, 1), (4, 4)] [(30016, 30016), (16, 16), (10016, 10016), (20016, 20016)] ?_ hr
              exact lf
            ·have hr := ifN1 hr hc
             repeat refine gA ?_
             have hr := of_out0 hr
             repeat refine gA ?_
             refine S.lp ?_
             refine S.gx [26, 27] ?_
             repeat refine gA ?_
             refine ⟨?_, ?_⟩ <;> intro hc
             ·have hr := ifP hr hc
              repeat refine gA ?_
              refine S.lp ?_
              refine S.gx [26, 27] ?_
              obtain ⟨hg23, hr⟩ := of_guard0 hr
              obtain ⟨hg24, hr⟩ := of_guard0 hr
              repeat (first | refine gG hg23 ?_ | refine gG hg24 ?_ | refine gA ?_ | refine gB ?_)
              refine ⟨?_, ?_⟩ <;> intro hc
              ·have hr := ifP hr hc
               repeat refine gA ?_
               refine S.prune [] ?_
               refine S.gx [27] ?_
               repeat refine gA ?_
               cases hr
               exact lf
              ·have hr := ifN hr hc
               repeat refine gA ?_
               refine S.prune [1, 4, 57, 58, 59] ?_
               refine S.gx [26] ?_
               repeat refine gA ?_
               refine S.lp ?_
               refine S.gx [26, 27] ?_
               obtain ⟨hg21, hr⟩ := of_guard0 hr
               obtain ⟨hg22, hr⟩ := of_guard0 hr
               repeat (first | refine gG hg21 ?_ | refine gG hg22 ?_ | refine gA ?_ | refine gB ?_)
               refine ⟨?_, ?_⟩ <;> intro hc
               ·have hr := ifP hr hc
                repeat refine gA ?_
                refine S.prune [] ?_
                refine S.gx [27] ?_
                repeat refine gA ?_
                cases hr
                exact lf
               ·have hr := ifN hr hc
                repeat refine gA ?_
                refine S.prune [1, 4, 57, 58, 59] ?_
                refine S.gx [26] ?_
                repeat refine gA ?_
                refine S.lp ?_
                refine S.gx [26, 27] ?_
                obtain ⟨hg19, hr⟩ := of_guard0 hr
                obtain ⟨hg20, hr⟩ := of_guard0 hr
                repeat (first | refine gG hg19 ?_ | refine gG hg20 ?_ | refine gA ?_ | refine gB ?_)
                refine ⟨?_, ?_⟩ <;> intro hc
                ·have hr := ifP hr hc
                 repeat refine gA ?_
                 refine S.prune [] ?_
                 refine S.gx [27] ?_
                 repeat refine gA ?_
                 cases hr
                 exact lf
                ·have hr := ifN hr hc
                 repeat refine gA ?_
                 refine S.prune [1, 4, 57, 58, 59] ?_
                 refine S.gx [26] ?_
                 repeat refine gA ?_
                 refine S.lp ?_
                 refine S.gx [26, 27] ?_
                 obtain ⟨v14, hv14, hr⟩ := of_bind0 hr
                 obtain ⟨v15, hv15, hr⟩ := of_bind0 hr
                 obtain ⟨v16, hv16, hr⟩ := of_bind0 hr
                 obtain ⟨v17, hv17, hr⟩ := of_bind0 hr
                 obtain ⟨v18, hv18, hr⟩ := of_bind0 hr
                 try simp only [hv14, hv15, hv16, hv17, hv18, Option.getD_some, Option.isSome_some, true_and, and_assoc]
                 repeat refine gA ?_
                 cases hr
                 exact lf
             ·have hr := ifN hr hc
              obtain ⟨v25, hv25, hr⟩ := of_bind0 hr
              obtain ⟨v26, hv26, hr⟩ := of_bind0 hr
              obtain ⟨v27, hv27, hr⟩ := of_bind0 hr
              obtain ⟨v28, hv28, hr⟩ := of_bind0 hr
              obtain ⟨v29, hv29, hr⟩ := of_bind0 hr
              try simp only [hv25, hv26, hv27, hv28, hv29, Option.getD_some, Option.isSome_some, true_and, and_assoc]
              repeat refine gA ?_
              cases hr
              exact lf
theorem f81 : FnFact Tryz.prog 81 T81.sp := ⟨⟨Tryz.f81, Tryz.func81, by decide, rfl⟩, v81⟩
end

/- martensite/steel.rulesErr -/
def r46 (x0 : List (Int × Int × Int × Int)) (x1 : List (Int × Int × Int × Int × Int)) (x2 : List (Int × Int × Int)) (x3 : List (Int × Int)) (x4 : Int) (x5 : Int) (x6 : Int) (x7 : Int) : Option (Int) :=
  (r81 x0 x1 x2 x3 x4 x5 x6 x7).bind fun v1 =>
   some v1.2
def T46 : TSpec qA1 := mkT qE1 qd1 (fun ⟨x0, x1, x2, x3, x4, x5, x6, x7⟩ => r46 x0 x1 x2 x3 x4 x5 x6 x7) qu4 false
theorem TP46 (c0 c1 c2 c3 c4 c5 c6 c7 : D) : T46.sp.pre [.agg [c0, c1, c2, c3, c4, c5, c6, c7]] = (eqvArgs (qt1 c0 c1 c2 c3 c4 c5 c6 c7) (qp1 qw1 c0 c1 c2 c3 c4 c5 c6 c7) ∧ (qp1 r46 c0 c1 c2 c3 c4 c5 c6 c7).isSome = true) := (rfl)
theorem TR46 (c0 c1 c2 c3 c4 c5 c6 c7 : D) : T46.sp.res [.agg [c0, c1, c2, c3, c4, c5, c6, c7]] = qu4 ((qp1 r46 c0 c1 c2 c3 c4 c5 c6 c7).getD default) := (rfl)
theorem TA46 : T46.sp.alias = false := (rfl)
def tb46 : Fns := lk [(81, T81.sp)]
theorem tb46_ok : FnsOk Tryz.prog tb46 := .cons f81 (FnsOk.nil)
theorem tb46_81 : tb46 81 = some T81.sp := rfl
attribute [go_sem] TP46 TR46 TA46
section
attribute [local go_sem] T46 tb46_81 Tryz.results46
theorem v46 : Valid Tryz.prog 46 T46.sp := by
 refine valid_t (fn := Tryz.f46) (n := 11) ty_ok tb46_ok Tryz.func46 rfl Tryz.ntmps46 ?_
 rintro ⟨x0, x1, x2, x3, x4, x5, x6, x7⟩ hx
 obtain ⟨r, hr⟩ := oE (show (r46 x0 x1 x2 x3 x4 x5 x6 x7).isSome = true from hx)
 have hres : T46.res (x0, x1, x2, x3, x4, x5, x6, x7) = qu4 r := by simp only [T46, mkT, hr, oG]
 refine ⟨nL rfl, fun stop S => ?_⟩
 rw [hres] at S
 unfold r46 at hr
 refine S.gx [] ?_
 obtain ⟨v1, hv1, hr⟩ := of_bind0 hr
 try simp only [hv1, oG, oI, true_and, and_assoc]
 repeat refine gA ?_
 cases hr
 exact lf
theorem f46 : FnFact Tryz.prog 46 T46.sp := ⟨⟨Tryz.f46, Tryz.func46, by decide, rfl⟩, v46⟩
end

/- martensite/steel.CheckState -/
def r47 (x5 : Int) (x0 : Int) (x1 : Int) (x2 : Int) (x3 : Int) (x4 : Int) (x6 : Int) : Option (Int) :=
  (r82 x5).bind fun v1 =>
   if v1 = true → (r82 x0).isSome = true then
    if (v1 && ((r82 x0).getD default)) = true → (r82 x1).isSome = true then
     if ((v1 && ((r82 x0).getD default)) && ((r82 x1).getD default)) = true → (r82 x2).isSome = true then
      if (((v1 && ((r82 x0).getD default)) && ((r82 x1).getD default)) && ((r82 x2).getD default)) = true → (r82 x3).isSome = true then
       if ((((v1 && ((r82 x0).getD default)) && ((r82 x1).getD default)) && ((r82 x2).getD default)) && ((r82 x3).getD default)) = true → (r66 x4 0 100000).isSome = true then
        if (((((v1 && ((r82 x0).getD default)) && ((r82 x1).getD default)) && ((r82 x2).getD default)) && ((r82 x3).getD default)) && ((r66 x4 0 100000).getD default)) = true → (r66 x6 0 1000000).isSome = true then
         if (!((((((v1 && ((r82 x0).getD default)) && ((r82 x1).getD default)) && ((r82 x2).getD default)) && ((r82 x3).getD default)) && ((r66 x4 0 100000).getD default)) && ((r66 x6 0 1000000).getD default))) = true then
          some 2
          else (r48 ((IntKind.i64.wrap ((IntKind.i64.wrap ((IntKind.i64.wrap (x5 + x0)) + x1)) + x2)) == 1000000) 3).bind fun v2 =>
           some v2
         else none
        else none
       else none
      else none
     else none
    else none
def T47 : TSpec qA10 := mkT qE10 qd10 (fun ⟨x5, x0, x1, x2, x3, x4, x6⟩ => r47 x5 x0 x1 x2 x3 x4 x6) qu4 false
theorem TP47 (c0 c1 c2 c3 c4 c5 c6 : D) : T47.sp.pre [.agg [c0, c1, c2, c3, c4, c5, c6]] = (eqvArgs (qt10 c0 c1 c2 c3 c4 c5 c6) (qp10 qw10 c0 c1 c2 c3 c4 c5 c6) ∧ (qp10 r47 c0 c1 c2 c3 c4 c5 c6).isSome = true) := (rfl)
theorem TR47 (c0 c1 c2 c3 c4 c5 c6 : D) : T47.sp.res [.agg [c0, c1, c2, c3, c4, c5, c6]] = qu4 ((qp10 r47 c0 c1 c2 c3 c4 c5 c6).getD default) := (rfl)
theorem TA47 : T47.sp.alias = false := (rfl)
def tb47 : Fns := lk [(48, T48.sp), (66, T66.sp), (82, T82.sp)]
theorem tb47_ok : FnsOk Tryz.prog tb47 := .cons f48 (.cons f66 (.cons f82 (FnsOk.nil)))
theorem tb47_48 : tb47 48 = some T48.sp := rfl
theorem tb47_66 : tb47 66 = some T66.sp := rfl
theorem tb47_82 : tb47 82 = some T82.sp := rfl
attribute [go_sem] TP47 TR47 TA47
section
attribute [local go_sem] T47 tb47_48 tb47_66 tb47_82 Tryz.results47
theorem v47 : Valid Tryz.prog 47 T47.sp := by
 refine valid_t (fn := Tryz.f47) (n := 52) ty_ok tb47_ok Tryz.func47 rfl Tryz.ntmps47 ?_
 rintro ⟨x5, x0, x1, x2, x3, x4, x6⟩ hx
 obtain ⟨r, hr⟩ := oE (show (r47 x5 x0 x1 x2 x3 x4 x6).isSome = true from hx)
 have hres : T47.res (x5, x0, x1, x2, x3, x4, x6) = qu4 r := by simp only [T47, mkT, hr, oG]
 refine ⟨nL rfl, fun stop S => ?_⟩
 rw [hres] at S
 unfold r47 at hr
 refine S.gx [2] ?_
 obtain ⟨v1, hv1, hr⟩ := of_bind0 hr
 obtain ⟨hg3, hr⟩ := of_guard0 hr
 obtain ⟨hg4, hr⟩ := of_guard0 hr
 obtain ⟨hg5, hr⟩ := of_guard0 hr
 obtain ⟨hg6, hr⟩ := of_guard0 hr
 obtain ⟨hg7, hr⟩ := of_guard0 hr
 obtain ⟨hg8, hr⟩ := of_guard0 hr
 try simp only [hv1, oG, oI, true_and, and_assoc]
 repeat (first | refine gG hg3 ?_ | refine gG hg4 ?_ | refine gG hg5 ?_ | refine gG hg6 ?_ | refine gG hg7 ?_ | refine gG hg8 ?_ | refine gA ?_ | refine gB ?_)
 refine S.prune [1, 3] ?_
 refine S.gx [] ?_
 repeat refine gA ?_
 refine ⟨?_, ?_⟩ <;> intro hc
 ·have hr := ifP hr hc
  repeat refine gA ?_
  cases hr
  exact lf
 ·have hr := ifN hr hc
  obtain ⟨v2, hv2, hr⟩ := of_bind0 hr
  try simp only [hv2, oG, oI, true_and, and_assoc]
  repeat refine gA ?_
  cases hr
  exact lf
theorem f47 : FnFact Tryz.prog 47 T47.sp := ⟨⟨Tryz.f47, Tryz.func47, by decide, rfl⟩, v47⟩
end

/- martensite/steel.curveErr$1 -/
def r84 (a0 : Int) : Option (Bool) :=
  (r85 a0).bind fun v1 =>
   some (!v1)
def T84 : TSpec qA3 := mkT qE3 qd3 r84 qu3 false
theorem TP84 (c0 : D) : T84.sp.pre [.c c0] = (eqvArgs (qt3 c0) (qp3 qw3 c0) ∧ (qp3 r84 c0).isSome = true) := (rfl)
theorem TR84 (c0 : D) : T84.sp.res [.c c0] = qu3 ((qp3 r84 c0).getD default) := (rfl)
theorem TA84 : T84.sp.alias = false := (rfl)
def tb84 : Fns := lk [(85, T85.sp)]
theorem tb84_ok : FnsOk Tryz.prog tb84 := .cons f85 (FnsOk.nil)
theorem tb84_85 : tb84 85 = some T85.sp := rfl
attribute [go_sem] TP84 TR84 TA84
section
attribute [local go_sem] T84 tb84_85 Tryz.results84
theorem v84 : Valid Tryz.prog 84 T84.sp := by
 refine valid_t (fn := Tryz.f84) (n := 6) ty_ok tb84_ok Tryz.func84 rfl Tryz.ntmps84 ?_
 rintro a0 hx
 obtain ⟨r, hr⟩ := oE (show (r84 a0).isSome = true from hx)
 have hres : T84.res a0 = qu3 r := by simp only [T84, mkT, hr, oG]
 refine ⟨nL rfl, fun stop S => ?_⟩
 rw [hres] at S
 unfold r84 at hr
 refine S.gx [] ?_
 obtain ⟨v1, hv1, hr⟩ := of_bind0 hr
 try simp only [hv1, oG, oI, true_and, and_assoc]
 repeat refine gA ?_
 cases hr
 exact lf
theorem f84 : FnFact Tryz.prog 84 T84.sp := ⟨⟨Tryz.f84, Tryz.func84, by decide, rfl⟩, v84⟩
end

/- slices.IndexFunc[[]int,int] -/
def b111a_1 (a0 : List (Int)) : (Int) → Ctl (Int) (Int) := fun s1 =>
  if (decide (s1 < (a0.length : Int))) = true then
   if 0 ≤ s1 ∧ s1 < (a0.length : Int) then
    bindC (r84 (a0.getD s1.toNat default)) fun v1 =>
     if v1 = true then
      .out (some s1)
      else .next (IntKind.i64.wrap (s1 + 1))
    else .out none
   else .out (some (-1))
def r111a (a0 : List (Int)) : Option (Int) :=
  iterC (b111a_1 a0) 1000000000 0
def T111a : TSpec qA11 := mkT qE11 qd11 r111a qu4 false
theorem TP111a (c0 : D) : T111a.sp.pre [.c c0, .clo 84 []] = (eqvArgs (qt11 c0) (qp11 qw11 c0) ∧ (qp11 r111a c0).isSome = true) := (rfl)
theorem TR111a (c0 : D) : T111a.sp.res [.c c0, .clo 84 []] = qu4 ((qp11 r111a c0).getD default) := (rfl)
theorem TA111a : T111a.sp.alias = false := (rfl)
def tb111a : Fns := lk [(84, T84.sp)]
theorem tb111a_ok : FnsOk Tryz.prog tb111a := .cons f84 (FnsOk.nil)
theorem tb111a_84 : tb111a 84 = some T84.sp := rfl
attribute [go_sem] TP111a TR111a TA111a
section
attribute [local go_sem] T111a tb111a_84 Tryz.results111
theorem v111a : Valid Tryz.prog 111 T111a.sp := by
  refine valid_t (fn := Tryz.f111) (n := 19) ty_ok tb111a_ok Tryz.func111 rfl Tryz.ntmps111 ?_
  rintro a0 hx
  obtain ⟨r, hr⟩ := oE (show (r111a a0).isSome = true from hx)
  have hres : T111a.res a0 = qu4 r := by simp only [T111a, mkT, hr, oG]
  refine ⟨nL rfl, fun stop S => ?_⟩
  rw [hres] at S
  unfold r111a at hr
  refine S.gx [] ?_
  repeat refine gA ?_
  refine S.sees [0, 1, 7, 8] [] [] ?_ (Stop.iter S (fun s1 => ⟨[(0, .c (.d (encF 1 d_I a0))), (1, .c (.clo 84 [])), (7, .c (.d (.int .i64 (a0.length : Int)))), (8, .c (.d (.int .i64 s1)))], [], []⟩) (b111a_1 a0) (fun q => q = r) hr rfl ?_)
  · exact lf
  · intro s1 hr
    unfold b111a_1 at hr
    refine S.gx [] ?_
    repeat refine gA ?_
    refine ⟨fun hc => ?_, fun hc => ?_⟩
    · replace hr := ifP1 hr hc
      obtain ⟨hg2, hr⟩ := of_guard1 hr
      obtain ⟨v1, hv1, hr⟩ := of_bind1 hr
      try simp only [hv1, oG, oI, true_and, and_assoc]
      repeat refine gA ?_
      refine ⟨fun hc => ?_, fun hc => ?_⟩
      · replace hr := ifP1 hr hc
        repeat refine gA ?_
        have hr := of_out0 hr
        obtain rfl := Option.some.inj hr
        exact lf
      · replace hr := ifN1 hr hc
        repeat refine gA ?_
        refine S.sees [0, 1, 7, 8] [] [] ?_ hr
        exact lf
    · replace hr := ifN1 hr hc
      repeat refine gA ?_
      have hr := of_out0 hr
      repeat refine gA ?_
      obtain rfl := Option.some.inj hr
      exact lf
theorem f111a : FnFact Tryz.prog 111 T111a.sp := ⟨⟨Tryz.f111, Tryz.func111, by decide, rfl⟩, v111a⟩
end

/- slices.ContainsFunc[[]int,int] -/
def r83a (a0 : List (Int)) : Option (Bool) :=
  (r111a a0).bind fun v1 =>
   some (decide (v1 ≥ 0))
def T83a : TSpec qA11 := mkT qE11 qd11 r83a qu3 false
theorem TP83a (c0 : D) : T83a.sp.pre [.c c0, .clo 84 []] = (eqvArgs (qt11 c0) (qp11 qw11 c0) ∧ (qp11 r83a c0).isSome = true) := (rfl)
theorem TR83a (c0 : D) : T83a.sp.res [.c c0, .clo 84 []] = qu3 ((qp11 r83a c0).getD default) := (rfl)
theorem TA83a : T83a.sp.alias = false := (rfl)
def tb83a : Fns := lk [(111, T111a.sp)]
theorem tb83a_ok : FnsOk Tryz.prog tb83a := .cons f111a (FnsOk.nil)
theorem tb83a_111 : tb83a 111 = some T111a.sp := rfl
attribute [go_sem] TP83a TR83a TA83a
section
attribute [local go_sem] T83a tb83a_111 Tryz.results83
theorem v83a : Valid Tryz.prog 83 T83a.sp := by
  refine valid_t (fn := Tryz.f83) (n := 9) ty_ok tb83a_ok Tryz.func83 rfl Tryz.ntmps83 ?_
  rintro a0 hx
  obtain ⟨r, hr⟩ := oE (show (r83a a0).isSome = true from hx)
  have hres : T83a.res a0 = qu3 r := by simp only [T83a, mkT, hr, oG]
  refine ⟨nL rfl, fun stop S => ?_⟩
  rw [hres] at S
  unfold r83a at hr
  refine S.gx [] ?_
  obtain ⟨v1, hv1, hr⟩ := of_bind0 hr
  try simp only [hv1, oG, oI, true_and, and_assoc]
  repeat refine gA ?_
  obtain rfl := Option.some.inj hr
  exact lf
theorem f83a : FnFact Tryz.prog 83 T83a.sp := ⟨⟨Tryz.f83, Tryz.func83, by decide, rfl⟩, v83a⟩
end

/- martensite/steel.curveErr -/
def r49 (a0 : List (Int)) : Option (Int) :=
  (r83a a0).bind fun v1 =>
   (r48 (decide ((a0.length : Int) ≤ 200)) 8).bind fun v2 =>
    (r48 (!v1) 2).bind fun v3 =>
     (r45 [v2, v3]).bind fun v4 =>
      some v4
def T49 : TSpec qA6 := mkT qE6 qd6 r49 qu4 false
theorem TP49 (c0 : D) : T49.sp.pre [.c c0] = (eqvArgs (qt6 c0) (qp6 qw6 c0) ∧ (qp6 r49 c0).isSome = true) := (rfl)
theorem TR49 (c0 : D) : T49.sp.res [.c c0] = qu4 ((qp6 r49 c0).getD default) := (rfl)
theorem TA49 : T49.sp.alias = false := (rfl)
def tb49 : Fns := lk [(45, T45.sp), (48, T48.sp), (83, T83a.sp)]
theorem tb49_ok : FnsOk Tryz.prog tb49 := .cons f45 (.cons f48 (.cons f83a (FnsOk.nil)))
theorem tb49_45 : tb49 45 = some T45.sp := rfl
theorem tb49_48 : tb49 48 = some T48.sp := rfl
theorem tb49_83 : tb49 83 = some T83a.sp := rfl
attribute [go_sem] TP49 TR49 TA49
section
attribute [local go_sem] T49 tb49_45 tb49_48 tb49_83 Tryz.results49
theorem v49 : Valid Tryz.prog 49 T49.sp := by
 refine valid_t (fn := Tryz.f49) (n := 15) ty_ok tb49_ok Tryz.func49 rfl Tryz.ntmps49 ?_
 rintro a0 hx
 obtain ⟨r, hr⟩ := oE (show (r49 a0).isSome = true from hx)
 have hres : T49.res a0 = qu4 r := by simp only [T49, mkT, hr, oG]
 refine ⟨nL rfl, fun stop S => ?_⟩
 rw [hres] at S
 unfold r49 at hr
 refine S.gx [] ?_
 obtain ⟨v1, hv1, hr⟩ := of_bind0 hr
 obtain ⟨v2, hv2, hr⟩ := of_bind0 hr
 obtain ⟨v3, hv3, hr⟩ := of_bind0 hr
 obtain ⟨v4, hv4, hr⟩ := of_bind0 hr
 try simp only [hv1, hv2, hv3, hv4, Option.getD_some, Option.isSome_some, true_and, and_assoc]
 repeat refine gA ?_
 cases hr
 exact lf
theorem f49 : FnFact Tryz.prog 49 T49.sp := ⟨⟨Tryz.f49, Tryz.func49, by decide, rfl⟩, v49⟩
end

/- martensite/steel.CheckPick$1 -/
def r106 (a0 : Int) : Option (Bool) :=
  (r66 a0 0 1000).bind fun v1 =>
   some v1
def T106 : TSpec qA3 := mkT qE3 qd3 r106 qu3 false
theorem TP106 (c0 : D) : T106.sp.pre [.c c0] = (eqvArgs (qt3 c0) (qp3 qw3 c0) ∧ (qp3 r106 c0).isSome = true) := (rfl)
theorem TR106 (c0 : D) : T106.sp.res [.c c0] = qu3 ((qp3 r106 c0).getD default) := (rfl)
theorem TA106 : T106.sp.alias = false := (rfl)
def tb106 : Fns := lk [(66, T66.sp)]
theorem tb106_ok : FnsOk Tryz.prog tb106 := .cons f66 (FnsOk.nil)
theorem tb106_66 : tb106 66 = some T66.sp := rfl
attribute [go_sem] TP106 TR106 TA106
section
attribute [local go_sem] T106 tb106_66 Tryz.results106
theorem v106 : Valid Tryz.prog 106 T106.sp := by
 refine valid_t (fn := Tryz.f106) (n := 5) ty_ok tb106_ok Tryz.func106 rfl Tryz.ntmps106 ?_
 rintro a0 hx
 obtain ⟨r, hr⟩ := oE (show (r106 a0).isSome = true from hx)
 have hres : T106.res a0 = qu3 r := by simp only [T106, mkT, hr, oG]
 refine ⟨nL rfl, fun stop S => ?_⟩
 rw [hres] at S
 unfold r106 at hr
 refine S.gx [] ?_
 obtain ⟨v1, hv1, hr⟩ := of_bind0 hr
 try simp only [hv1, oG, oI, true_and, and_assoc]
 repeat refine gA ?_
 cases hr
 exact lf
theorem f106 : FnFact Tryz.prog 106 T106.sp := ⟨⟨Tryz.f106, Tryz.func106, by decide, rfl⟩, v106⟩
end

/- martensite/steel.CheckPick -/
def r73 (x2 : Int) (x0 : Int) (x1 : Int) : Option (Int) :=
  (r106 x2).bind fun v1 =>
   if v1 = true → (r106 x0).isSome = true then
    if (v1 && ((r106 x0).getD default)) = true → (r106 x1).isSome = true then
     (r48 ((v1 && ((r106 x0).getD default)) && ((r106 x1).getD default)) 2).bind fun v2 =>
      some v2
     else none
    else none
def T73 : TSpec qA12 := mkT qE12 qd12 (fun ⟨x2, x0, x1⟩ => r73 x2 x0 x1) qu4 false
theorem TP73 (c0 c1 c2 : D) : T73.sp.pre [.agg [c0, c1, c2]] = (eqvArgs (qt12 c0 c1 c2) (qp12 qw12 c0 c1 c2) ∧ (qp12 r73 c0 c1 c2).isSome = true) := (rfl)
theorem TR73 (c0 c1 c2 : D) : T73.sp.res [.agg [c0, c1, c2]] = qu4 ((qp12 r73 c0 c1 c2).getD default) := (rfl)
theorem TA73 : T73.sp.alias = false := (rfl)
def tb73 : Fns := lk [(48, T48.sp), (106, T106.sp)]
theorem tb73_ok : FnsOk Tryz.prog tb73 := .cons f48 (.cons f106 (FnsOk.nil))
theorem tb73_48 : tb73 48 = some T48.sp := rfl
theorem tb73_106 : tb73 106 = some T106.sp := rfl
attribute [go_sem] TP73 TR73 TA73
section
attribute [local go_sem] T73 tb73_48 tb73_106 Tryz.results73
theorem v73 : Valid Tryz.prog 73 T73.sp := by
 refine valid_t (fn := Tryz.f73) (n := 21) ty_ok tb73_ok Tryz.func73 rfl Tryz.ntmps73 ?_
 rintro ⟨x2, x0, x1⟩ hx
 obtain ⟨r, hr⟩ := oE (show (r73 x2 x0 x1).isSome = true from hx)
 have hres : T73.res (x2, x0, x1) = qu4 r := by simp only [T73, mkT, hr, oG]
 refine ⟨nL rfl, fun stop S => ?_⟩
 rw [hres] at S
 unfold r73 at hr
 refine S.gx [] ?_
 obtain ⟨v1, hv1, hr⟩ := of_bind0 hr
 obtain ⟨hg3, hr⟩ := of_guard0 hr
 obtain ⟨hg4, hr⟩ := of_guard0 hr
 obtain ⟨v2, hv2, hr⟩ := of_bind0 hr
 try simp only [hv1, hv2, Option.getD_some, Option.isSome_some, true_and, and_assoc]
 repeat (first | refine gG hg3 ?_ | refine gG hg4 ?_ | refine gA ?_ | refine gB ?_)
 cases hr
 exact lf
theorem f73 : FnFact Tryz.prog 73 T73.sp := ⟨⟨Tryz.f73, Tryz.func73, by decide, rfl⟩, v73⟩
end

/- (martensite/steel.rules).heat$1 -/
def r113 (x0 : Int) (x2 : Int) (x3 : Int) (x4 : Int) (x1 : Int) : Option (Bool) :=
  some (decide (x0 ≤ x1))
def T113 : TSpec qA13 := mkT qE13 qd13 (fun ⟨x0, x2, x3, x4, x1⟩ => r113 x0 x2 x3 x4 x1) qu3 false
theorem TP113 (c0 c1 c2 c3 c4 : D) : T113.sp.pre [.agg [c0, c1, c2, c3], .ptr [c4]] = (eqvArgs (qt13 c0 c1 c2 c3 c4) (qp13 qw13 c0 c1 c2 c3 c4) ∧ (qp13 r113 c0 c1 c2 c3 c4).isSome = true) := (rfl)
theorem TR113 (c0 c1 c2 c3 c4 : D) : T113.sp.res [.agg [c0, c1, c2, c3], .ptr [c4]] = qu3 ((qp13 r113 c0 c1 c2 c3 c4).getD default) := (rfl)
theorem TA113 : T113.sp.alias = false := (rfl)
def tb113 : Fns := lk []
theorem tb113_ok : FnsOk Tryz.prog tb113 := FnsOk.nil
attribute [go_sem] TP113 TR113 TA113
section
attribute [local go_sem] T113 Tryz.results113
theorem v113 : Valid Tryz.prog 113 T113.sp := by
 refine valid_t (fn := Tryz.f113) (n := 8) ty_ok tb113_ok Tryz.func113 rfl Tryz.ntmps113 ?_
 rintro ⟨x0, x2, x3, x4, x1⟩ hx
 obtain ⟨r, hr⟩ := oE (show (r113 x0 x2 x3 x4 x1).isSome = true from hx)
 have hres : T113.res (x0, x2, x3, x4, x1) = qu3 r := by simp only [T113, mkT, hr, oG]
 refine ⟨nL rfl, fun stop S => ?_⟩
 rw [hres] at S
 unfold r113 at hr
 refine S.gx [] ?_
 repeat refine gA ?_
 cases hr
 exact lf
theorem f113 : FnFact Tryz.prog 113 T113.sp := ⟨⟨Tryz.f113, Tryz.func113, by decide, rfl⟩, v113⟩
end

/- (martensite/steel.rules).heat -/
def b87_1 (x0 : List (Int × Int × Int × Int)) (a1 : Int) : (Int) → Ctl (Int) ((Option (Int × Int × Int × Int))) := fun s1 =>
  if (decide (s1 ≥ 0)) = true then
   if 0 ≤ s1 ∧ s1 < (x0.length : Int) then
    if 0 ≤ s1 ∧ s1 < (x0.length : Int) then
     bindC (r113 ((x0.getD s1.toNat default).1) ((x0.getD s1.toNat default).2.1) ((x0.getD s1.toNat default).2.2.1) ((x0.getD s1.toNat default).2.2.2) a1) fun v1 =>
      if v1 = true then
       if 0 ≤ s1 ∧ s1 < (x0.length : Int) then
        .out (some (some ((x0.getD s1.toNat default).1, (x0.getD s1.toNat default).2.1, (x0.getD s1.toNat default).2.2.1, (x0.getD s1.toNat default).2.2.2)))
        else .out none
       else .next (IntKind.i64.wrap (s1 - 1))
     else .out none
    else .out none
   else .out (some none)
def r87 (x0 : List (Int × Int × Int × Int)) (x1 : List (Int × Int × Int × Int × Int)) (x2 : List (Int × Int × Int)) (x3 : List (Int × Int)) (x4 : Int) (x5 : Int) (x6 : Int) (x7 : Int) (a1 : Int) : Option ((Option (Int × Int × Int × Int))) :=
  iterC (b87_1 x0 a1) 1000000000 (IntKind.i64.wrap ((x0.length : Int) - 1))
def T87 : TSpec qA14 := mkT qE14 qd14 (fun ⟨x0, x1, x2, x3, x4, x5, x6, x7, a1⟩ => r87 x0 x1 x2 x3 x4 x5 x6 x7 a1) qu6 true
theorem TP87 (c0 c1 c2 c3 c4 c5 c6 c7 c8 : D) : T87.sp.pre [.agg [c0, c1, c2, c3, c4, c5, c6, c7], .c c8] = (eqvArgs (qt14 c0 c1 c2 c3 c4 c5 c6 c7 c8) (qp14 qw14 c0 c1 c2 c3 c4 c5 c6 c7 c8) ∧ (qp14 r87 c0 c1 c2 c3 c4 c5 c6 c7 c8).isSome = true) := (rfl)
theorem TR87 (c0 c1 c2 c3 c4 c5 c6 c7 c8 : D) : T87.sp.res [.agg [c0, c1, c2, c3, c4, c5, c6, c7], .c c8] = qu6 ((qp14 r87 c0 c1 c2 c3 c4 c5 c6 c7 c8).getD default) := (rfl)
theorem TA87 : T87.sp.alias = true := (rfl)
def tb87 : Fns := lk [(113, T113.sp)]
theorem tb87_ok : FnsOk Tryz.prog tb87 := .cons f113 (FnsOk.nil)
theorem tb87_113 : tb87 113 = some T113.sp := rfl
attribute [go_sem] TP87 TR87 TA87
section
attribute [local go_sem] T87 tb87_113 Tryz.results87 Tryz.results112 Tryz.results131 Tryz.results136
theorem v87 : Valid Tryz.prog 87 T87.sp := by
 refine valid_t (fn := Tryz.f87) (n := 10) ty_ok tb87_ok Tryz.func87 rfl Tryz.ntmps87 ?_
 rintro ⟨x0, x1, x2, x3, x4, x5, x6, x7, a1⟩ hx
 obtain ⟨r, hr⟩ := oE (show (r87 x0 x1 x2 x3 x4 x5 x6 x7 a1).isSome = true from hx)
 have hres : T87.res (x0, x1, x2, x3, x4, x5, x6, x7, a1) = qu6 r := by simp only [T87, mkT, hr, oG]
 refine ⟨nL rfl, fun stop S => ?_⟩
 rw [hres] at S
 unfold r87 at hr
 refine S.gx [1] ?_
 repeat refine gA ?_
 refine S.inl 4 [4] [] Tryz.func112 (by decide) rfl Tryz.ntmps112 (fun cx e => drawn_ok ty_ok tb87_ok cx e) (some 9) rfl rfl rfl rfl (nL rfl) (nL rfl) ?_
 refine gs ?_
 repeat refine gA ?_
 intro stop1 S1
 refine S1.gx [1, 3] ?_
 repeat refine gA ?_
 refine S1.inl 1 [2, 3, 4] [] Tryz.func131 (by decide) rfl Tryz.ntmps131 (fun cx e => drawn_ok ty_ok tb87_ok cx e) (some 7) rfl rfl rfl rfl (nL rfl) (nL rfl) ?_
 refine gs ?_
 repeat refine gA ?_
 intro stop2 S2
 refine S2.gx [] ?_
 repeat refine gA ?_
 refine S1.gx [1, 3] ?_
 repeat refine gA ?_
 refine S1.range [2, 3, 4] Tryz.func136 (by decide) rfl Tryz.ntmps136 Tryz.results136 (fun cx e => drawn_ok ty_ok tb87_ok cx e) (fun cx e => drawn_ok ty_ok tb87_ok cx e) (by decide) rfl rfl (nL rfl) ?_
 intro l2 stop2 stopJ2 S2 SJ2 Y2
 refine S2.gx [3] ?_
 repeat refine gA ?_
 refine S2.sees [0, 1, 3] [(1, 1), (100002, 100002), (100003, 100003), (4, 4), (3, 3)] [] ?_ (Stop.iter S2 (fun s1 => ⟨[(0, .c (.yld l2)), (1, .c (.ref 1 0)), (3, .c (.d (.int .i64 s1)))], [(1, [.d (encF 4 d_IIII x0)]), (100002, [.d (encF 4 d_IIII x0)]), (100003, [.clo 113 [.ref 3 0]]), (4, [.d (encP d_IIII none)]), (3, [.d (.int .i64 a1)])], []⟩) (b87_1 x0 a1) (fun q => q = r) hr rfl ?_)
 ·exact lf
 ·intro s1 hr
  unfold b87_1 at hr
  refine S2.gx [3] ?_
  repeat refine gA ?_
  refine ⟨?_, ?_⟩ <;> intro hc
  ·have hr := ifP1 hr hc
   repeat refine gA ?_
   refine Y2 6 [0, 1, 3] (some 17) rfl rfl rfl rfl (nL rfl) (by rfl) ?_
   refine gs ?_
   obtain ⟨hg4, hr⟩ := of_guard1 hr
   repeat refine gA ?_
   intro stopA3 SA3
   refine SA3.gx [] ?_
   repeat refine gA ?_
   intro stop3 S3
   refine S3.gx [1, 3] ?_
   repeat refine gA ?_
   refine S3.gx [1] ?_
   obtain ⟨hg3, hr⟩ := of_guard1 hr
   obtain ⟨v1, hv1, hr⟩ := of_bind1 hr
   try simp only [hv1, oG, oI, true_and, and_assoc]
   repeat refine gA ?_
   refine ⟨?_, ?_⟩ <;> intro hc
   ·have hr := ifP1 hr hc
    obtain ⟨hg2, hr⟩ := of_guard1 hr
    repeat refine gA ?_
    refine (SJ2 .ret).gx [3] ?_
    repeat refine gA ?_
    have hr := of_out0 hr
    repeat refine gA ?_
    refine S1.gx [1, 3] ?_
    repeat refine gA ?_
    refine S.gx [1] ?_
    repeat refine gA ?_
    cases hr
    exact lf
   ·have hr := ifN1 hr hc
    repeat refine gA ?_
    refine S2.gx [3] ?_
    repeat refine gA ?_
    refine S2.sees [0, 1, 3] [(1, 1), (100002, 100002), (100003, 100003), (4, 4), (3, 3)] [] ?_ hr
    exact lf
  ·have hr := ifN1 hr hc
   repeat refine gA ?_
   have hr := of_out0 hr
   repeat refine gA ?_
   refine S1.gx [1, 3] ?_
   repeat refine gA ?_
   refine S.gx [1] ?_
   repeat refine gA ?_
   cases hr
   exact lf
theorem f87 : FnFact Tryz.prog 87 T87.sp := ⟨⟨Tryz.f87, Tryz.func87, by decide, rfl⟩, v87⟩
end

/- martensite/steel.picked -/
def r125 (x0 : Int) (x1 : Int) (a1 : Int) : Option (Int) :=
  some (IntKind.i64.wrap (x0 + (IntKind.i64.wrap ((IntKind.i64.wrap ((IntKind.i64.wrap (x1 - x0)) * a1)).tdiv 1000))))
def T125 : TSpec qA15 := mkT qE15 qd15 (fun ⟨x0, x1, a1⟩ => r125 x0 x1 a1) qu4 false
theorem TP125 (c0 c1 c2 : D) : T125.sp.pre [.agg [c0, c1], .c c2] = (eqvArgs (qt15 c0 c1 c2) (qp15 qw15 c0 c1 c2) ∧ (qp15 r125 c0 c1 c2).isSome = true) := (rfl)
theorem TR125 (c0 c1 c2 : D) : T125.sp.res [.agg [c0, c1], .c c2] = qu4 ((qp15 r125 c0 c1 c2).getD default) := (rfl)
theorem TA125 : T125.sp.alias = false := (rfl)
def tb125 : Fns := lk []
theorem tb125_ok : FnsOk Tryz.prog tb125 := FnsOk.nil
attribute [go_sem] TP125 TR125 TA125
section
attribute [local go_sem] T125 Tryz.results125
theorem v125 : Valid Tryz.prog 125 T125.sp := by
 refine valid_t (fn := Tryz.f125) (n := 16) ty_ok tb125_ok Tryz.func125 rfl Tryz.ntmps125 ?_
 rintro ⟨x0, x1, a1⟩ hx
 obtain ⟨r, hr⟩ := oE (show (r125 x0 x1 a1).isSome = true from hx)
 have hres : T125.res (x0, x1, a1) = qu4 r := by simp only [T125, mkT, hr, oG]
 refine ⟨nL rfl, fun stop S => ?_⟩
 rw [hres] at S
 unfold r125 at hr
 refine S.gx [] ?_
 repeat refine gA ?_
 cases hr
 exact lf
theorem f125 : FnFact Tryz.prog 125 T125.sp := ⟨⟨Tryz.f125, Tryz.func125, by decide, rfl⟩, v125⟩
end

/- (martensite/steel.rules).cool$1 -/
def r117 (x0 : Int) (x2 : Int) (x3 : Int) (x4 : Int) (x5 : Int) (x1 : Int) : Option (Bool) :=
  some (decide (x0 ≥ x1))
def T117 : TSpec qA16 := mkT qE16 qd16 (fun ⟨x0, x2, x3, x4, x5, x1⟩ => r117 x0 x2 x3 x4 x5 x1) qu3 false
theorem TP117 (c0 c1 c2 c3 c4 c5 : D) : T117.sp.pre [.agg [c0, c1, c2, c3, c4], .ptr [c5]] = (eqvArgs (qt16 c0 c1 c2 c3 c4 c5) (qp16 qw16 c0 c1 c2 c3 c4 c5) ∧ (qp16 r117 c0 c1 c2 c3 c4 c5).isSome = true) := (rfl)
theorem TR117 (c0 c1 c2 c3 c4 c5 : D) : T117.sp.res [.agg [c0, c1, c2, c3, c4], .ptr [c5]] = qu3 ((qp16 r117 c0 c1 c2 c3 c4 c5).getD default) := (rfl)
theorem TA117 : T117.sp.alias = false := (rfl)
def tb117 : Fns := lk []
theorem tb117_ok : FnsOk Tryz.prog tb117 := FnsOk.nil
attribute [go_sem] TP117 TR117 TA117
section
attribute [local go_sem] T117 Tryz.results117
theorem v117 : Valid Tryz.prog 117 T117.sp := by
 refine valid_t (fn := Tryz.f117) (n := 8) ty_ok tb117_ok Tryz.func117 rfl Tryz.ntmps117 ?_
 rintro ⟨x0, x2, x3, x4, x5, x1⟩ hx
 obtain ⟨r, hr⟩ := oE (show (r117 x0 x2 x3 x4 x5 x1).isSome = true from hx)
 have hres : T117.res (x0, x2, x3, x4, x5, x1) = qu3 r := by simp only [T117, mkT, hr, oG]
 refine ⟨nL rfl, fun stop S => ?_⟩
 rw [hres] at S
 unfold r117 at hr
 refine S.gx [] ?_
 repeat refine gA ?_
 cases hr
 exact lf
theorem f117 : FnFact Tryz.prog 117 T117.sp := ⟨⟨Tryz.f117, Tryz.func117, by decide, rfl⟩, v117⟩
end

/- slices.IndexFunc[[]martensite/api.SteelCool,martensite/api.SteelCool] -/
def b132_1 (a0 : List (Int × Int × Int × Int × Int)) (x0 : Int) : (Int) → Ctl (Int) (Int) := fun s1 =>
  if (decide (s1 < (a0.length : Int))) = true then
   if 0 ≤ s1 ∧ s1 < (a0.length : Int) then
    bindC (r117 ((a0.getD s1.toNat default).1) ((a0.getD s1.toNat default).2.1) ((a0.getD s1.toNat default).2.2.1) ((a0.getD s1.toNat default).2.2.2.1) ((a0.getD s1.toNat default).2.2.2.2) x0) fun v1 =>
     if v1 = true then
      .out (some s1)
      else .next (IntKind.i64.wrap (s1 + 1))
    else .out none
   else .out (some (-1))
def r132 (a0 : List (Int × Int × Int × Int × Int)) (x0 : Int) : Option (Int) :=
  iterC (b132_1 a0 x0) 1000000000 0
def T132 : TSpec qA17 := mkT qE17 qd17 (fun ⟨a0, x0⟩ => r132 a0 x0) qu4 false
theorem TP132 (c0 c1 : D) : T132.sp.pre [.c c0, .clo 117 [[c1]]] = (eqvArgs (qt17 c0 c1) (qp17 qw17 c0 c1) ∧ (qp17 r132 c0 c1).isSome = true) := (rfl)
theorem TR132 (c0 c1 : D) : T132.sp.res [.c c0, .clo 117 [[c1]]] = qu4 ((qp17 r132 c0 c1).getD default) := (rfl)
theorem TA132 : T132.sp.alias = false := (rfl)
def tb132 : Fns := lk [(117, T117.sp)]
theorem tb132_ok : FnsOk Tryz.prog tb132 := .cons f117 (FnsOk.nil)
theorem tb132_117 : tb132 117 = some T117.sp := rfl
attribute [go_sem] TP132 TR132 TA132
section
attribute [local go_sem] T132 tb132_117 Tryz.results132
theorem v132 : Valid Tryz.prog 132 T132.sp := by
 refine valid_t (fn := Tryz.f132) (n := 19) ty_ok tb132_ok Tryz.func132 rfl Tryz.ntmps132 ?_
 rintro ⟨a0, x0⟩ hx
 obtain ⟨r, hr⟩ := oE (show (r132 a0 x0).isSome = true from hx)
 have hres : T132.res (a0, x0) = qu4 r := by simp only [T132, mkT, hr, oG]
 refine ⟨nL rfl, fun stop S => ?_⟩
 rw [hres] at S
 unfold r132 at hr
 refine S.gx [] ?_
 repeat refine gA ?_
 refine S.sees [0, 1, 7, 8] [] [] ?_ (Stop.iter S (fun s1 => ⟨[(0, .c (.d (encF 5 d_IIIII a0))), (1, .c (.clo 117 [.sptr [.int .i64 x0] 0])), (7, .c (.d (.int .i64 (a0.length : Int)))), (8, .c (.d (.int .i64 s1)))], [], []⟩) (b132_1 a0 x0) (fun q => q = r) hr rfl ?_)
 ·exact lf
 ·intro s1 hr
  unfold b132_1 at hr
  refine S.gx [] ?_
  repeat refine gA ?_
  refine ⟨?_, ?_⟩ <;> intro hc
  ·have hr := ifP1 hr hc
   obtain ⟨hg2, hr⟩ := of_guard1 hr
   obtain ⟨v1, hv1, hr⟩ := of_bind1 hr
   try simp only [hv1, oG, oI, true_and, and_assoc]
   repeat refine gA ?_
   refine ⟨?_, ?_⟩ <;> intro hc
   ·have hr := ifP1 hr hc
    repeat refine gA ?_
    have hr := of_out0 hr
    cases hr
    exact lf
   ·have hr := ifN1 hr hc
    repeat refine gA ?_
    refine S.sees [0, 1, 7, 8] [] [] ?_ hr
    exact lf
  ·have hr := ifN1 hr hc
   repeat refine gA ?_
   have hr := of_out0 hr
   repeat refine gA ?_
   cases hr
   exact lf
theorem f132 : FnFact Tryz.prog 132 T132.sp := ⟨⟨Tryz.f132, Tryz.func132, by decide, rfl⟩, v132⟩
end

/- (martensite/steel.rules).cool -/
def r89 (x1 : List (Int × Int × Int × Int)) (x0 : List (Int × Int × Int × Int × Int)) (x2 : List (Int × Int × Int)) (x3 : List (Int × Int)) (x4 : Int) (x5 : Int) (x6 : Int) (x7 : Int) (a1 : Int) : Option ((Option (Int × Int × Int × Int × Int))) :=
  (r132 x0 a1).bind fun v1 =>
   if (decide (v1 ≥ 0)) = true then
    if 0 ≤ v1 ∧ v1 < (x0.length : Int) then
     some (some ((x0.getD v1.toNat default).1, (x0.getD v1.toNat default).2.1, (x0.getD v1.toNat default).2.2.1, (x0.getD v1.toNat default).2.2.2.1, (x0.getD v1.toNat default).2.2.2.2))
     else none
    else some none
def T89 : TSpec qA14 := mkT qE14 qd14 (fun ⟨x1, x0, x2, x3, x4, x5, x6, x7, a1⟩ => r89 x1 x0 x2 x3 x4 x5 x6 x7 a1) qu7 true
theorem TP89 (c0 c1 c2 c3 c4 c5 c6 c7 c8 : D) : T89.sp.pre [.agg [c0, c1, c2, c3, c4, c5, c6, c7], .c c8] = (eqvArgs (qt14 c0 c1 c2 c3 c4 c5 c6 c7 c8) (qp14 qw14 c0 c1 c2 c3 c4 c5 c6 c7 c8) ∧ (qp14 r89 c0 c1 c2 c3 c4 c5 c6 c7 c8).isSome = true) := (rfl)
theorem TR89 (c0 c1 c2 c3 c4 c5 c6 c7 c8 : D) : T89.sp.res [.agg [c0, c1, c2, c3, c4, c5, c6, c7], .c c8] = qu7 ((qp14 r89 c0 c1 c2 c3 c4 c5 c6 c7 c8).getD default) := (rfl)
theorem TA89 : T89.sp.alias = true := (rfl)
def tb89 : Fns := lk [(132, T132.sp)]
theorem tb89_ok : FnsOk Tryz.prog tb89 := .cons f132 (FnsOk.nil)
theorem tb89_132 : tb89 132 = some T132.sp := rfl
attribute [go_sem] TP89 TR89 TA89
section
attribute [local go_sem] T89 tb89_132 Tryz.results89 Tryz.results116
theorem v89 : Valid Tryz.prog 89 T89.sp := by
 refine valid_t (fn := Tryz.f89) (n := 10) ty_ok tb89_ok Tryz.func89 rfl Tryz.ntmps89 ?_
 rintro ⟨x1, x0, x2, x3, x4, x5, x6, x7, a1⟩ hx
 obtain ⟨r, hr⟩ := oE (show (r89 x1 x0 x2 x3 x4 x5 x6 x7 a1).isSome = true from hx)
 have hres : T89.res (x1, x0, x2, x3, x4, x5, x6, x7, a1) = qu7 r := by simp only [T89, mkT, hr, oG]
 refine ⟨nL rfl, fun stop S => ?_⟩
 rw [hres] at S
 unfold r89 at hr
 refine S.gx [1] ?_
 repeat refine gA ?_
 refine S.inl 4 [4] [] Tryz.func116 (by decide) rfl Tryz.ntmps116 (fun cx e => drawn_ok ty_ok tb89_ok cx e) (some 9) rfl rfl rfl rfl (nL rfl) (nL rfl) ?_
 refine gs ?_
 repeat refine gA ?_
 intro stop1 S1
 refine S1.gx [] ?_
 obtain ⟨v1, hv1, hr⟩ := of_bind0 hr
 try simp only [hv1, oG, oI, true_and, and_assoc]
 repeat refine gA ?_
 refine ⟨?_, ?_⟩ <;> intro hc
 ·have hr := ifP hr hc
  obtain ⟨hg2, hr⟩ := of_guard0 hr
  repeat refine gA ?_
  refine S.gx [1] ?_
  repeat refine gA ?_
  cases hr
  exact lf
 ·have hr := ifN hr hc
  repeat refine gA ?_
  refine S.gx [1] ?_
  repeat refine gA ?_
  cases hr
  exact lf
theorem f89 : FnFact Tryz.prog 89 T89.sp := ⟨⟨Tryz.f89, Tryz.func89, by decide, rfl⟩, v89⟩
end
end Go.Proofs.YtfkmbdfajpdjjaaGreatDoor

/- Contracts of functions, written by wip/dec. -/
import Derived.Test.YtfkmbdfajpdjjaaDoorF00
import Derived.Test.YtfkmbdfajpdjjaaDoorF01
set_option linter.unusedVariables false
set_option linter.unusedSimpArgs false
set_option maxHeartbeats 4000000
set_option maxRecDepth 20000
namespace Go.Proofs.YtfkmbdfajpdjjaaDoor
open Go.Abs
abbrev qA10 := Int × Int × Int × Int × Int × Int × Int
def qw10 (a0 : Int) (a1 : Int) (a2 : Int) (a3 : Int) (a4 : Int) (a5 : Int) (a6 : Int) : List Arg := [.agg [.int .i64 a0, .int .i64 a1, .int .i64 a2, .int .i64 a3, .int .i64 a4, .int .i64 a5, .int .i64 a6]]
def qE10 : qA10 → List Arg := fun ⟨a0, a1, a2, a3, a4, a5, a6⟩ => qw10 a0 a1 a2 a3 a4 a5 a6
def qd10 (a : List Arg) : qA10 := (dInt (aCell a 0 0), dInt (aCell a 0 1), dInt (aCell a 0 2), dInt (aCell a 0 3), dInt (aCell a 0 4), dInt (aCell a 0 5), dInt (aCell a 0 6))
def qp10 {β : Type} (f : Int → Int → Int → Int → Int → Int → Int → β) (c0 c1 c2 c3 c4 c5 c6 : D) : β := f (dInt c0) (dInt c1) (dInt c2) (dInt c3) (dInt c4) (dInt c5) (dInt c6)
def qt10 (c0 c1 c2 c3 c4 c5 c6 : D) : List Arg := [.agg [c0, c1, c2, c3, c4, c5, c6]]
attribute [go_sem] qw10 qp10 qt10 qE10
abbrev qA11 := (List (Int))
def qw11 (a0 : List (Int)) : List Arg := [.c (encF 1 d_I a0), .clo 113 []]
def qE11 : qA11 → List Arg := qw11
def qd11 (a : List Arg) : qA11 := decF g_I (aCell a 0 0)
def qp11 {β : Type} (f : (List (Int)) → β) (c0 : D) : β := f (decF g_I c0)
def qt11 (c0 : D) : List Arg := [.c c0, .clo 113 []]
attribute [go_sem] qw11 qp11 qt11 qE11
abbrev qA12 := Int × Int × Int
def qw12 (a0 : Int) (a1 : Int) (a2 : Int) : List Arg := [.agg [.int .i64 a0, .int .i64 a1, .int .i64 a2]]
def qE12 : qA12 → List Arg := fun ⟨a0, a1, a2⟩ => qw12 a0 a1 a2
def qd12 (a : List Arg) : qA12 := (dInt (aCell a 0 0), dInt (aCell a 0 1), dInt (aCell a 0 2))
def qp12 {β : Type} (f : Int → Int → Int → β) (c0 c1 c2 : D) : β := f (dInt c0) (dInt c1) (dInt c2)
def qt12 (c0 c1 c2 : D) : List Arg := [.agg [c0, c1, c2]]
attribute [go_sem] qw12 qp12 qt12 qE12
abbrev qA13 := Int × Int × Int × Int × Int
def qw13 (a0 : Int) (a1 : Int) (a2 : Int) (a3 : Int) (a4 : Int) : List Arg := [.agg [.int .i64 a0, .int .i64 a1, .int .i64 a2, .int .i64 a3], .ptr [.int .i64 a4]]
def qE13 : qA13 → List Arg := fun ⟨a0, a1, a2, a3, a4⟩ => qw13 a0 a1 a2 a3 a4
def qd13 (a : List Arg) : qA13 := (dInt (aCell a 0 0), dInt (aCell a 0 1), dInt (aCell a 0 2), dInt (aCell a 0 3), dInt (aCell a 1 0))
def qp13 {β : Type} (f : Int → Int → Int → Int → Int → β) (c0 c1 c2 c3 c4 : D) : β := f (dInt c0) (dInt c1) (dInt c2) (dInt c3) (dInt c4)
def qt13 (c0 c1 c2 c3 c4 : D) : List Arg := [.agg [c0, c1, c2, c3], .ptr [c4]]
attribute [go_sem] qw13 qp13 qt13 qE13
abbrev qA15 := Int × Int × Int
def qw15 (a0 : Int) (a1 : Int) (a2 : Int) : List Arg := [.agg [.int .i64 a0, .int .i64 a1], .c (.int .i64 a2)]
def qE15 : qA15 → List Arg := fun ⟨a0, a1, a2⟩ => qw15 a0 a1 a2
def qd15 (a : List Arg) : qA15 := (dInt (aCell a 0 0), dInt (aCell a 0 1), dInt (aCell a 1 0))
def qp15 {β : Type} (f : Int → Int → Int → β) (c0 c1 c2 : D) : β := f (dInt c0) (dInt c1) (dInt c2)
def qt15 (c0 c1 c2 : D) : List Arg := [.agg [c0, c1], .c c2]
attribute [go_sem] qw15 qp15 qt15 qE15
abbrev qA16 := Int × Int × Int × Int × Int × Int
def qw16 (a0 : Int) (a1 : Int) (a2 : Int) (a3 : Int) (a4 : Int) (a5 : Int) : List Arg := [.agg [.int .i64 a0, .int .i64 a1, .int .i64 a2, .int .i64 a3, .int .i64 a4], .ptr [.int .i64 a5]]
def qE16 : qA16 → List Arg := fun ⟨a0, a1, a2, a3, a4, a5⟩ => qw16 a0 a1 a2 a3 a4 a5
def qd16 (a : List Arg) : qA16 := (dInt (aCell a 0 0), dInt (aCell a 0 1), dInt (aCell a 0 2), dInt (aCell a 0 3), dInt (aCell a 0 4), dInt (aCell a 1 0))
def qp16 {β : Type} (f : Int → Int → Int → Int → Int → Int → β) (c0 c1 c2 c3 c4 c5 : D) : β := f (dInt c0) (dInt c1) (dInt c2) (dInt c3) (dInt c4) (dInt c5)
def qt16 (c0 c1 c2 c3 c4 c5 : D) : List Arg := [.agg [c0, c1, c2, c3, c4], .ptr [c5]]
attribute [go_sem] qw16 qp16 qt16 qE16
abbrev qA17 := (List (Int × Int × Int × Int × Int)) × Int
def qw17 (a0 : List (Int × Int × Int × Int × Int)) (a1 : Int) : List Arg := [.c (encF 5 d_IIIII a0), .clo 134 [[.int .i64 a1]]]
def qE17 : qA17 → List Arg := fun ⟨a0, a1⟩ => qw17 a0 a1
def qd17 (a : List Arg) : qA17 := (decF g_IIIII (aCell a 0 0), dInt (aCell a 1 0))
def qp17 {β : Type} (f : (List (Int × Int × Int × Int × Int)) → Int → β) (c0 c1 : D) : β := f (decF g_IIIII c0) (dInt c1)
def qt17 (c0 c1 : D) : List Arg := [.c c0, .clo 134 [[c1]]]
attribute [go_sem] qw17 qp17 qt17 qE17
def qu6 (v : (Option (Int × Int × Int × Int))) : List RV := [.c (.d (encP d_IIII v))]
attribute [go_sem] qu6
def qu7 (v : (Option (Int × Int × Int × Int × Int))) : List RV := [.c (.d (encP d_IIIII v))]
attribute [go_sem] qu7
/- slices.IsSorted[[]int,int] -/
def b69_1 (a0 : List (Int)) : (Int) → Ctl (Int) (Bool) := fun s1 =>
  if (decide (s1 > 0)) = true then
   if 0 ≤ s1 ∧ s1 < (a0.length : Int) then
    if 0 ≤ IntKind.i64.wrap (s1 - 1) ∧ IntKind.i64.wrap (s1 - 1) < (a0.length : Int) then
     bindC (r111 (a0.getD s1.toNat default) (a0.getD (IntKind.i64.wrap (s1 - 1)).toNat default)) fun v1 =>
      if v1 = true then
       .out (some false)
       else .next (IntKind.i64.wrap (s1 - 1))
     else .out none
    else .out none
   else .out (some true)
def r69 (a0 : List (Int)) : Option (Bool) :=
  iterC (b69_1 a0) 1000000000 (IntKind.i64.wrap ((a0.length : Int) - 1))
def T69 : TSpec qA6 := mkT qE6 qd6 r69 qu3 false
theorem TP69 (c0 : D) : T69.sp.pre [.c c0] = (eqvArgs (qt6 c0) (qp6 qw6 c0) ∧ (qp6 r69 c0).isSome = true) := (rfl)
theorem TR69 (c0 : D) : T69.sp.res [.c c0] = qu3 ((qp6 r69 c0).getD default) := (rfl)
theorem TA69 : T69.sp.alias = false := (rfl)
def tb69 : Fns := lk [(111, T111.sp)]
theorem tb69_ok : FnsOk Tryd.prog tb69 := .cons f111 (FnsOk.nil)
theorem tb69_111 : tb69 111 = some T111.sp := rfl
attribute [go_sem] TP69 TR69 TA69
section
attribute [local go_sem] T69 tb69_111 Tryd.results69
theorem v69 : Valid Tryd.prog 69 T69.sp := by
 refine valid_t (fn := Tryd.f69) (n := 21) ty_ok tb69_ok Tryd.func69 rfl Tryd.ntmps69 ?_
 rintro a0 hx
 obtain ⟨r, hr⟩ := oE (show (r69 a0).isSome = true from hx)
 have hres : T69.res a0 = qu3 r := by simp only [T69, mkT, hr, oG]
 refine ⟨nL rfl, fun stop S => ?_⟩
 rw [hres] at S
 unfold r69 at hr
 refine S.gx [] ?_
 repeat refine gA ?_
 refine S.sees [0, 3] [] [] ?_ (Stop.iter S (fun s1 => ⟨[(0, .c (.d (encF 1 d_I a0))), (3, .c (.d (.int .i64 s1)))], [], []⟩) (b69_1 a0) (fun q => q = r) hr rfl ?_)
 ·exact lf
 ·intro s1 hr
  unfold b69_1 at hr
  refine S.gx [] ?_
  repeat refine gA ?_
  refine ⟨?_, ?_⟩ <;> intro hc
  ·have hr := ifP1 hr hc
   obtain ⟨hg2, hr⟩ := of_guard1 hr
   obtain ⟨hg3, hr⟩ := of_guard1 hr
   obtain ⟨v1, hv1, hr⟩ := of_bind1 hr
   try simp only [hv1, oG, oI, true_and, and_assoc]
   repeat refine gA ?_
   refine ⟨?_, ?_⟩ <;> intro hc
   ·have hr := ifP1 hr hc
    repeat refine gA ?_
    have hr := of_out0 hr
    cases hr
    exact lf
   ·have hr := ifN1 hr hc
    repeat refine gA ?_
    refine S.sees [0, 3] [] [] ?_ hr
    exact lf
  ·have hr := ifN1 hr hc
   repeat refine gA ?_
   have hr := of_out0 hr
   repeat refine gA ?_
   cases hr
   exact lf
theorem f69 : FnFact Tryd.prog 69 T69.sp := ⟨⟨Tryd.f69, Tryd.func69, by decide, rfl⟩, v69⟩
end

/- martensite/steel.CheckRules -/
def b14_4 (x0 : Int) (x1 : Int) (x2 : Int) (x3 : Int) (v1 : (List (Int × (List (Int × Int)) × Int)) × (List (Int × (List (Int × Int)) × Int)) × (List (Int × (List (Int × Int)) × Int)) × (List (Int × (List (Int × Int)) × Int))) : ((Option (Int × (List (Int × Int)) × Int)) × Int) → Ctl ((Option (Int × (List (Int × Int)) × Int)) × Int) (Int × Int) := fun s4 =>
  if (decide (s4.2 < (v1.2.2.2.length : Int))) = true then
   if 0 ≤ s4.2 ∧ s4.2 < (v1.2.2.2.length : Int) then
    bindC (r63 ((v1.2.2.2.getD s4.2.toNat default).1) ((v1.2.2.2.getD s4.2.toNat default).2.1) ((v1.2.2.2.getD s4.2.toNat default).2.2) s4.1 0) fun v11 =>
     if (v11 != 0) = true then
      .out (some (s4.2, v11))
      else if 0 ≤ s4.2 ∧ s4.2 < (v1.2.2.2.length : Int) then
       .next (some ((v1.2.2.2.getD s4.2.toNat default).1, (v1.2.2.2.getD s4.2.toNat default).2.1, (v1.2.2.2.getD s4.2.toNat default).2.2), IntKind.i64.wrap (s4.2 + 1))
       else .out none
    else .out none
   else .out (if (decide ((v1.1.length : Int) > 0)) = true then
    if (decide ((v1.2.1.length : Int) > 0)) = true → 0 ≤ IntKind.i64.wrap ((v1.2.1.length : Int) - 1) ∧ IntKind.i64.wrap ((v1.2.1.length : Int) - 1) < (v1.2.1.length : Int) then
     if (decide ((v1.2.1.length : Int) > 0)) = true → 0 ≤ 0 ∧ 0 < (v1.1.length : Int) then
      if ((decide ((v1.2.1.length : Int) > 0)) && (decide (((v1.2.1.getD (IntKind.i64.wrap ((v1.2.1.length : Int) - 1)).toNat default).1) ≥ ((v1.1.getD 0 default).1)))) = true then
       some (0, 13)
       else if (decide ((v1.2.2.1.length : Int) > 0)) = true → 0 ≤ IntKind.i64.wrap ((v1.2.2.1.length : Int) - 1) ∧ IntKind.i64.wrap ((v1.2.2.1.length : Int) - 1) < (v1.2.2.1.length : Int) then
        if (decide ((v1.2.2.1.length : Int) > 0)) = true → 0 ≤ 0 ∧ 0 < (v1.1.length : Int) then
         if ((decide ((v1.2.2.1.length : Int) > 0)) && (decide (((v1.2.2.1.getD (IntKind.i64.wrap ((v1.2.2.1.length : Int) - 1)).toNat default).1) ≥ ((v1.1.getD 0 default).1)))) = true then
          some (0, 13)
          else if (decide ((v1.2.2.2.length : Int) > 0)) = true → 0 ≤ IntKind.i64.wrap ((v1.2.2.2.length : Int) - 1) ∧ IntKind.i64.wrap ((v1.2.2.2.length : Int) - 1) < (v1.2.2.2.length : Int) then
           if (decide ((v1.2.2.2.length : Int) > 0)) = true → 0 ≤ 0 ∧ 0 < (v1.1.length : Int) then
            if ((decide ((v1.2.2.2.length : Int) > 0)) && (decide (((v1.2.2.2.getD (IntKind.i64.wrap ((v1.2.2.2.length : Int) - 1)).toNat default).1) ≥ ((v1.1.getD 0 default).1)))) = true then
             some (0, 13)
             else (r64 [x0, x1, x2, x3]).bind fun v14 =>
              (r68 (!v14) 2).bind fun v15 =>
               (r69 [x0, x1, x2, x3]).bind fun v16 =>
                (r68 v16 9).bind fun v17 =>
                 (r67 [v15, v17]).bind fun v18 =>
                  some (0, v18)
            else none
           else none
         else none
        else none
      else none
     else none
    else (r64 [x0, x1, x2, x3]).bind fun v25 =>
     (r68 (!v25) 2).bind fun v26 =>
      (r69 [x0, x1, x2, x3]).bind fun v27 =>
       (r68 v27 9).bind fun v28 =>
        (r67 [v26, v28]).bind fun v29 =>
         some (0, v29))
def b14_3 (x0 : Int) (x1 : Int) (x2 : Int) (x3 : Int) (v1 : (List (Int × (List (Int × Int)) × Int)) × (List (Int × (List (Int × Int)) × Int)) × (List (Int × (List (Int × Int)) × Int)) × (List (Int × (List (Int × Int)) × Int))) : ((Option (Int × (List (Int × Int)) × Int)) × Int) → Ctl ((Option (Int × (List (Int × Int)) × Int)) × Int) (Int × Int) := fun s3 =>
  if (decide (s3.2 < (v1.2.2.1.length : Int))) = true then
   if 0 ≤ s3.2 ∧ s3.2 < (v1.2.2.1.length : Int) then
    bindC (r63 ((v1.2.2.1.getD s3.2.toNat default).1) ((v1.2.2.1.getD s3.2.toNat default).2.1) ((v1.2.2.1.getD s3.2.toNat default).2.2) s3.1 (-1)) fun v8 =>
     if (v8 != 0) = true then
      .out (some (s3.2, v8))
      else if 0 ≤ s3.2 ∧ s3.2 < (v1.2.2.1.length : Int) then
       .next (some ((v1.2.2.1.getD s3.2.toNat default).1, (v1.2.2.1.getD s3.2.toNat default).2.1, (v1.2.2.1.getD s3.2.toNat default).2.2), IntKind.i64.wrap (s3.2 + 1))
       else .out none
    else .out none
   else .out (iterC (b14_4 x0 x1 x2 x3 v1) 1000000000 (none, 0))
def b14_2 (x0 : Int) (x1 : Int) (x2 : Int) (x3 : Int) (v1 : (List (Int × (List (Int × Int)) × Int)) × (List (Int × (List (Int × Int)) × Int)) × (List (Int × (List (Int × Int)) × Int)) × (List (Int × (List (Int × Int)) × Int))) : ((Option (Int × (List (Int × Int)) × Int)) × Int) → Ctl ((Option (Int × (List (Int × Int)) × Int)) × Int) (Int × Int) := fun s2 =>
  if (decide (s2.2 < (v1.2.1.length : Int))) = true then
   if 0 ≤ s2.2 ∧ s2.2 < (v1.2.1.length : Int) then
    bindC (r63 ((v1.2.1.getD s2.2.toNat default).1) ((v1.2.1.getD s2.2.toNat default).2.1) ((v1.2.1.getD s2.2.toNat default).2.2) s2.1 0) fun v5 =>
     if (v5 != 0) = true then
      .out (some (s2.2, v5))
      else if 0 ≤ s2.2 ∧ s2.2 < (v1.2.1.length : Int) then
       .next (some ((v1.2.1.getD s2.2.toNat default).1, (v1.2.1.getD s2.2.toNat default).2.1, (v1.2.1.getD s2.2.toNat default).2.2), IntKind.i64.wrap (s2.2 + 1))
       else .out none
    else .out none
   else .out (iterC (b14_3 x0 x1 x2 x3 v1) 1000000000 (none, 0))
def b14_1 (x0 : Int) (x1 : Int) (x2 : Int) (x3 : Int) (v1 : (List (Int × (List (Int × Int)) × Int)) × (List (Int × (List (Int × Int)) × Int)) × (List (Int × (List (Int × Int)) × Int)) × (List (Int × (List (Int × Int)) × Int))) : ((Option (Int × (List (Int × Int)) × Int)) × Int) → Ctl ((Option (Int × (List (Int × Int)) × Int)) × Int) (Int × Int) := fun s1 =>
  if (decide (s1.2 < (v1.1.length : Int))) = true then
   if 0 ≤ s1.2 ∧ s1.2 < (v1.1.length : Int) then
    bindC (r63 ((v1.1.getD s1.2.toNat default).1) ((v1.1.getD s1.2.toNat default).2.1) ((v1.1.getD s1.2.toNat default).2.2) s1.1 1) fun v2 =>
     if (v2 != 0) = true then
      .out (some (s1.2, v2))
      else if 0 ≤ s1.2 ∧ s1.2 < (v1.1.length : Int) then
       .next (some ((v1.1.getD s1.2.toNat default).1, (v1.1.getD s1.2.toNat default).2.1, (v1.1.getD s1.2.toNat default).2.2), IntKind.i64.wrap (s1.2 + 1))
       else .out none
    else .out none
   else .out (iterC (b14_2 x0 x1 x2 x3 v1) 1000000000 (none, 0))
def r14 (x4 : List (Int × Int × Int × Int)) (x5 : List (Int × Int × Int × Int × Int)) (x6 : List (Int × Int × Int)) (x7 : List (Int × Int)) (x0 : Int) (x1 : Int) (x2 : Int) (x3 : Int) : Option (Int × Int) :=
  (r62 x4 x5 x6 x7 x0 x1 x2 x3).bind fun v1 =>
   if (decide ((v1.1.length : Int) > 8)) = true then
    some (0, 8)
    else if (decide ((v1.2.1.length : Int) > 8)) = true then
     some (0, 8)
     else if (decide ((v1.2.2.1.length : Int) > 8)) = true then
      some (0, 8)
      else if (decide ((v1.2.2.2.length : Int) > 8)) = true then
       some (0, 8)
       else iterC (b14_1 x0 x1 x2 x3 v1) 1000000000 (none, 0)
def T14 : TSpec qA1 := mkT qE1 qd1 (fun ⟨x4, x5, x6, x7, x0, x1, x2, x3⟩ => r14 x4 x5 x6 x7 x0 x1 x2 x3) qu5 false
theorem TP14 (c0 c1 c2 c3 c4 c5 c6 c7 : D) : T14.sp.pre [.agg [c0, c1, c2, c3, c4, c5, c6, c7]] = (eqvArgs (qt1 c0 c1 c2 c3 c4 c5 c6 c7) (qp1 qw1 c0 c1 c2 c3 c4 c5 c6 c7) ∧ (qp1 r14 c0 c1 c2 c3 c4 c5 c6 c7).isSome = true) := (rfl)
theorem TR14 (c0 c1 c2 c3 c4 c5 c6 c7 : D) : T14.sp.res [.agg [c0, c1, c2, c3, c4, c5, c6, c7]] = qu5 ((qp1 r14 c0 c1 c2 c3 c4 c5 c6 c7).getD default) := (rfl)
theorem TA14 : T14.sp.alias = false := (rfl)
def tb14 : Fns := lk [(62, T62.sp), (63, T63.sp), (64, T64.sp), (67, T67.sp), (68, T68.sp), (69, T69.sp)]
theorem tb14_ok : FnsOk Tryd.prog tb14 := .cons f62 (.cons f63 (.cons f64 (.cons f67 (.cons f68 (.cons f69 (FnsOk.nil))))))
theorem tb14_62 : tb14 62 = some T62.sp := rfl
theorem tb14_63 : tb14 63 = some T63.sp := rfl
theorem tb14_64 : tb14 64 = some T64.sp := rfl
theorem tb14_67 : tb14 67 = some T67.sp := rfl
theorem tb14_68 : tb14 68 = some T68.sp := rfl
theorem tb14_69 : tb14 69 = some T69.sp := rfl
theorem lt14_0 : (decide ((0 : Int) < 4)) = true := by first | rfl | decide | simp
theorem lt14_1 : (IntKind.i64.wrap (0 + 1)) = 1 := by first | rfl | decide | simp
theorem lt14_2 : (decide ((1 : Int) < 4)) = true := by first | rfl | decide | simp
theorem lt14_3 : (((1 : Int) = 0 ∨ (0 : Int) < 1)) = True := by first | rfl | decide | simp
theorem lt14_4 : (IntKind.i64.wrap (1 + 1)) = 2 := by first | rfl | decide | simp
theorem lt14_5 : (decide ((2 : Int) < 4)) = true := by first | rfl | decide | simp
theorem lt14_6 : (((2 : Int) = 0 ∨ (0 : Int) < 2)) = True := by first | rfl | decide | simp
theorem lt14_7 : (IntKind.i64.wrap (2 + 1)) = 3 := by first | rfl | decide | simp
theorem lt14_8 : (decide ((3 : Int) < 4)) = true := by first | rfl | decide | simp
theorem lt14_9 : (((3 : Int) = 0 ∨ (0 : Int) < 3)) = True := by first | rfl | decide | simp
theorem lt14_10 : (IntKind.i64.wrap (3 + 1)) = 4 := by first | rfl | decide | simp
theorem lt14_11 : (decide ((4 : Int) < 4)) = false := by first | rfl | decide | simp
theorem lt14_12 : (((3 : Nat) : Int)) = 3 := by first | rfl | decide | simp
theorem lt14_13 : (decide ((0 : Int) < 3)) = true := by first | rfl | decide | simp
theorem lt14_14 : (decide ((1 : Int) < 3)) = true := by first | rfl | decide | simp
theorem lt14_15 : (decide ((2 : Int) < 3)) = true := by first | rfl | decide | simp
theorem lt14_16 : (decide ((3 : Int) < 3)) = false := by first | rfl | decide | simp
attribute [go_sem] TP14 TR14 TA14
section
attribute [local go_sem] T14 tb14_62 tb14_63 tb14_64 tb14_67 tb14_68 tb14_69 Tryd.results14 lt14_0 lt14_1 lt14_2 lt14_3 lt14_4 lt14_5 lt14_6 lt14_7 lt14_8 lt14_9 lt14_10 lt14_11 lt14_12 lt14_13 lt14_14 lt14_15 lt14_16
theorem v14 : Valid Tryd.prog 14 T14.sp := by
 refine valid_t (fn := Tryd.f14) (n := 94) ty_ok tb14_ok Tryd.func14 rfl Tryd.ntmps14 ?_
 rintro ⟨x4, x5, x6, x7, x0, x1, x2, x3⟩ hx
 obtain ⟨r, hr⟩ := oE (show (r14 x4 x5 x6 x7 x0 x1 x2 x3).isSome = true from hx)
 have hres : T14.res (x4, x5, x6, x7, x0, x1, x2, x3) = qu5 r := by simp only [T14, mkT, hr, oG]
 refine ⟨nL rfl, fun stop S => ?_⟩
 rw [hres] at S
 unfold r14 at hr
 refine S.gx [26, 27] ?_
 obtain ⟨v1, hv1, hr⟩ := of_bind0 hr
 try simp only [hv1, oG, oI, true_and, and_assoc]
 repeat refine gA ?_
 refine S.lp ?_
 refine S.gx [26, 27] ?_
 repeat refine gA ?_
 refine ⟨?_, ?_⟩ <;> intro hc
 ·have hr := ifP hr hc
  repeat refine gA ?_
  cases hr
  exact lf
 ·have hr := ifN hr hc
  repeat refine gA ?_
  refine S.lp ?_
  refine S.gx [26, 27] ?_
  repeat refine gA ?_
  refine ⟨?_, ?_⟩ <;> intro hc
  ·have hr := ifP hr hc
   repeat refine gA ?_
   cases hr
   exact lf
  ·have hr := ifN hr hc
   repeat refine gA ?_
   refine S.lp ?_
   refine S.gx [26, 27] ?_
   repeat refine gA ?_
   refine ⟨?_, ?_⟩ <;> intro hc
   ·have hr := ifP hr hc
    repeat refine gA ?_
    cases hr
    exact lf
   ·have hr := ifN hr hc
    repeat refine gA ?_
    refine S.lp ?_
    refine S.gx [26, 27] ?_
    repeat refine gA ?_
    refine ⟨?_, ?_⟩ <;> intro hc
    ·have hr := ifP hr hc
     repeat refine gA ?_
     cases hr
     exact lf
    ·have hr := ifN hr hc
     repeat refine gA ?_
     refine S.lp ?_
     refine S.gx [26, 27] ?_
     repeat refine gA ?_
     refine S.lp ?_
     refine S.gx [26, 27] ?_
     repeat refine gA ?_
     refine S.share 16 rfl ?_
     refine S.sees [1, 4, 7, 8, 9, 25, 26, 31, 32] [(1, 1), (4, 4)] [(16, 16), (10016, 10016), (20016, 20016), (30016, 30016)] ?_ (Stop.iter S (fun s1 => ⟨[(1, .c (.ref 1 0)), (4, .c (.ref 4 0)), (7, .c (.d (.int .i64 0))), (8, .c (.own 16)), (9, .c (.d (encP d_ILIIEI s1.1))), (25, .agg [.own 16, .own 10016, .own 20016, .own 30016]), (26, .c (.d (.int .i64 0))), (31, .c (.d (.int .i64 (v1.1.length : Int)))), (32, .c (.d (.int .i64 s1.2)))], [(1, [.d (encF 4 d_IIII x4), .d (encF 5 d_IIIII x5), .d (encF 3 d_III x6), .d (encF 2 d_II x7), .d (.int .i64 x0), .d (.int .i64 x1), .d (.int .i64 x2), .d (.int .i64 x3)]), (4, [.own 16, .own 10016, .own 20016, .own 30016])], [(16, .shared (encF 3 d_ILIIEI v1.1)), (10016, .owned (encF 3 d_ILIIEI v1.2.1)), (20016, .owned (encF 3 d_ILIIEI v1.2.2.1)), (30016, .owned (encF 3 d_ILIIEI v1.2.2.2))]⟩) (b14_1 x0 x1 x2 x3 v1) (fun q => q = r) hr rfl ?_)
     ·exact lf
     ·intro s1 hr
      unfold b14_1 at hr
      refine S.gx [26, 27] ?_
      repeat refine gA ?_
      refine ⟨?_, ?_⟩ <;> intro hc
      ·have hr := ifP1 hr hc
       obtain ⟨hg4, hr⟩ := of_guard1 hr
       obtain ⟨v2, hv2, hr⟩ := of_bind1 hr
       try simp only [hv2, oG, oI, true_and, and_assoc]
       repeat refine gA ?_
       refine ⟨?_, ?_⟩ <;> intro hc
       ·have hr := ifP1 hr hc
        repeat refine gA ?_
        have hr := of_out0 hr
        cases hr
        exact lf
       ·have hr := ifN1 hr hc
        obtain ⟨hg3, hr⟩ := of_guard1 hr
        repeat refine gA ?_
        refine S.sees [1, 4, 7, 8, 9, 25, 26, 31, 32] [(1, 1), (4, 4)] [(16, 16), (10016, 10016), (20016, 20016), (30016, 30016)] ?_ hr
        exact lf
      ·have hr := ifN1 hr hc
       repeat refine gA ?_
       have hr := of_out0 hr
       repeat refine gA ?_
       refine S.lp ?_
       refine S.gx [26, 27] ?_
       repeat refine gA ?_
       refine S.share 10016 rfl ?_
       refine S.sees [1, 4, 7, 8, 9, 25, 26, 31, 32] [(1, 1), (4, 4)] [(10016, 10016), (16, 16), (20016, 20016), (30016, 30016)] ?_ (Stop.iter S (fun s2 => ⟨[(1, .c (.ref 1 0)), (4, .c (.ref 4 0)), (7, .c (.d (.int .i64 1))), (8, .c (.own 10016)), (9, .c (.d (encP d_ILIIEI s2.1))), (25, .agg [.own 16, .own 10016, .own 20016, .own 30016]), (26, .c (.d (.int .i64 1))), (31, .c (.d (.int .i64 (v1.2.1.length : Int)))), (32, .c (.d (.int .i64 s2.2)))], [(1, [.d (encF 4 d_IIII x4), .d (encF 5 d_IIIII x5), .d (encF 3 d_III x6), .d (encF 2 d_II x7), .d (.int .i64 x0), .d (.int .i64 x1), .d (.int .i64 x2), .d (.int .i64 x3)]), (4, [.own 16, .own 10016, .own 20016, .own 30016])], [(10016, .shared (encF 3 d_ILIIEI v1.2.1)), (16, .shared (encF 3 d_ILIIEI v1.1)), (20016, .owned (encF 3 d_ILIIEI v1.2.2.1)), (30016, .owned (encF 3 d_ILIIEI v1.2.2.2))]⟩) (b14_2 x0 x1 x2 x3 v1) (fun q => q = r) hr rfl ?_)
       ·exact lf
       ·intro s2 hr
        unfold b14_2 at hr
        refine S.gx [26, 27] ?_
        repeat refine gA ?_
        refine ⟨?_, ?_⟩ <;> intro hc
        ·have hr := ifP1 hr hc
         obtain ⟨hg7, hr⟩ := of_guard1 hr
         obtain ⟨v5, hv5, hr⟩ := of_bind1 hr
         try simp only [hv5, oG, oI, true_and, and_assoc]
         repeat refine gA ?_
         refine ⟨?_, ?_⟩ <;> intro hc
         ·have hr := ifP1 hr hc
          repeat refine gA ?_
          have hr := of_out0 hr
          cases hr
          exact lf
         ·have hr := ifN1 hr hc
          obtain ⟨hg6, hr⟩ := of_guard1 hr
          repeat refine gA ?_
          refine S.sees [1, 4, 7, 8, 9, 25, 26, 31, 32] [(1, 1), (4, 4)] [(10016, 10016), (16, 16), (20016, 20016), (30016, 30016)] ?_ hr
          exact lf
        ·have hr := ifN1 hr hc
         repeat refine gA ?_
         have hr := of_out0 hr
         repeat refine gA ?_
         refine S.lp ?_
         refine S.gx [26, 27] ?_
         repeat refine gA ?_
         refine S.share 20016 rfl ?_
         refine S.sees [1, 4, 7, 8, 9, 25, 26, 31, 32] [(1, 1), (4, 4)] [(20016, 20016), (16, 16), (10016, 10016), (30016, 30016)] ?_ (Stop.iter S (fun s3 => ⟨[(1, .c (.ref 1 0)), (4, .c (.ref 4 0)), (7, .c (.d (.int .i64 2))), (8, .c (.own 20016)), (9, .c (.d (encP d_ILIIEI s3.1))), (25, .agg [.own 16, .own 10016, .own 20016, .own 30016]), (26, .c (.d (.int .i64 2))), (31, .c (.d (.int .i64 (v1.2.2.1.length : Int)))), (32, .c (.d (.int .i64 s3.2)))], [(1, [.d (encF 4 d_IIII x4), .d (encF 5 d_IIIII x5), .d (encF 3 d_III x6), .d (encF 2 d_II x7), .d (.int .i64 x0), .d (.int .i64 x1), .d (.int .i64 x2), .d (.int .i64 x3)]), (4, [.own 16, .own 10016, .own 20016, .own 30016])], [(20016, .shared (encF 3 d_ILIIEI v1.2.2.1)), (16, .shared (encF 3 d_ILIIEI v1.1)), (10016, .shared (encF 3 d_ILIIEI v1.2.1)), (30016, .owned (encF 3 d_ILIIEI v1.2.2.2))]⟩) (b14_3 x0 x1 x2 x3 v1) (fun q => q = r) hr rfl ?_)
         ·exact lf
         ·intro s3 hr
          unfold b14_3 at hr
          refine S.gx [26, 27] ?_
          repeat refine gA ?_
          refine ⟨?_, ?_⟩ <;> intro hc
          ·have hr := ifP1 hr hc
           obtain ⟨hg10, hr⟩ := of_guard1 hr
           obtain ⟨v8, hv8, hr⟩ := of_bind1 hr
           try simp only [hv8, oG, oI, true_and, and_assoc]
           repeat refine gA ?_
           refine ⟨?_, ?_⟩ <;> intro hc
           ·have hr := ifP1 hr hc
            repeat refine gA ?_
            have hr := of_out0 hr
            cases hr
            exact lf
           ·have hr := ifN1 hr hc
            obtain ⟨hg9, hr⟩ := of_guard1 hr
            repeat refine gA ?_
            refine S.sees [1, 4, 7, 8, 9, 25, 26, 31, 32] [(1, 1), (4, 4)] [(20016, 20016), (16, 16), (10016, 10016), (30016, 30016)] ?_ hr
            exact lf
          ·have hr := ifN1 hr hc
           repeat refine gA ?_
           have hr := of_out0 hr
           repeat refine gA ?_
           refine S.lp ?_
           refine S.gx [26, 27] ?_
           repeat refine gA ?_
           refine S.share 30016 rfl ?_
           refine S.sees [1, 4, 7, 8, 9, 25, 26, 31, 32] [(1, 1), (4, 4)] [(30016, 30016), (16, 16), (10016, 10016), (20016, 20016)] ?_ (Stop.iter S (fun s4 => ⟨[(1, .c (.ref 1 0)), (4, .c (.ref 4 0)), (7, .c (.d (.int .i64 3))), (8, .c (.own 30016)), (9, .c (.d (encP d_ILIIEI s4.1))), (25, .agg [.own 16, .own 10016, .own 20016, .own 30016]), (26, .c (.d (.int .i64 3))), (31, .c (.d (.int .i64 (v1.2.2.2.length : Int)))), (32, .c (.d (.int .i64 s4.2)))], [(1, [.d (encF 4 d_IIII x4), .d (encF 5 d_IIIII x5), .d (encF 3 d_III x6), .d (encF 2 d_II x7), .d (.int .i64 x0), .d (.int .i64 x1), .d (.int .i64 x2), .d (.int .i64 x3)]), (4, [.own 16, .own 10016, .own 20016, .own 30016])], [(30016, .shared (encF 3 d_ILIIEI v1.2.2.2)), (16, .shared (encF 3 d_ILIIEI v1.1)), (10016, .shared (encF 3 d_ILIIEI v1.2.1)), (20016, .shared (encF 3 d_ILIIEI v1.2.2.1))]⟩) (b14_4 x0 x1 x2 x3 v1) (fun q => q = r) hr rfl ?_)
           ·exact lf
           ·intro s4 hr
            unfold b14_4 at hr
            refine S.gx [26, 27] ?_
            repeat refine gA ?_
            refine ⟨?_, ?_⟩ <;> intro hc
            ·have hr := ifP1 hr hc
             obtain ⟨hg13, hr⟩ := of_guard1 hr
             obtain ⟨v11, hv11, hr⟩ := of_bind1 hr
             try simp only [hv11, oG, oI, true_and, and_assoc]
             repeat refine gA ?_
             refine ⟨?_, ?_⟩ <;> intro hc
             ·have hr := ifP1 hr hc
              repeat refine gA ?_
              have hr := of_out0 hr
              cases hr
              exact lf
             ·have hr := ifN1 hr hc
              obtain ⟨hg12, hr⟩ := of_guard1 hr
              repeat refine gA ?_
              refine S.sees [1, 4, 7, 8, 9, 25, 26, 31, 32] [(1, 1), (4, 4)] [(30016, 30016), (16, 16), (10016, 10016), (20016, 20016)] ?_ hr
              exact lf
            ·have hr := ifN1 hr hc
             repeat refine gA ?_
             have hr := of_out0 hr
             repeat refine gA ?_
             refine S.lp ?_
             refine S.gx [26, 27] ?_
             repeat refine gA ?_
             refine ⟨?_, ?_⟩ <;> intro hc
             ·have hr := ifP hr hc
              repeat refine gA ?_
              refine S.lp ?_
              refine S.gx [26, 27] ?_
              obtain ⟨hg23, hr⟩ := of_guard0 hr
              obtain ⟨hg24, hr⟩ := of_guard0 hr
              repeat (first | refine gG hg23 ?_ | refine gG hg24 ?_ | refine gA ?_ | refine gB ?_)
              refine ⟨?_, ?_⟩ <;> intro hc
              ·have hr := ifP hr hc
               repeat refine gA ?_
               refine S.prune [] ?_
               refine S.gx [27] ?_
               repeat refine gA ?_
               cases hr
               exact lf
              ·have hr := ifN hr hc
               repeat refine gA ?_
               refine S.prune [1, 4, 57, 58, 59] ?_
               refine S.gx [26] ?_
               repeat refine gA ?_
               refine S.lp ?_
               refine S.gx [26, 27] ?_
               obtain ⟨hg21, hr⟩ := of_guard0 hr
               obtain ⟨hg22, hr⟩ := of_guard0 hr
               repeat (first | refine gG hg21 ?_ | refine gG hg22 ?_ | refine gA ?_ | refine gB ?_)
               refine ⟨?_, ?_⟩ <;> intro hc
               ·have hr := ifP hr hc
                repeat refine gA ?_
                refine S.prune [] ?_
                refine S.gx [27] ?_
                repeat refine gA ?_
                cases hr
                exact lf
               ·have hr := ifN hr hc
                repeat refine gA ?_
                refine S.prune [1, 4, 57, 58, 59] ?_
                refine S.gx [26] ?_
                repeat refine gA ?_
                refine S.lp ?_
                refine S.gx [26, 27] ?_
                obtain ⟨hg19, hr⟩ := of_guard0 hr
                obtain ⟨hg20, hr⟩ := of_guard0 hr
                repeat (first | refine gG hg19 ?_ | refine gG hg20 ?_ | refine gA ?_ | refine gB ?_)
                refine ⟨?_, ?_⟩ <;> intro hc
                ·have hr := ifP hr hc
                 repeat refine gA ?_
                 refine S.prune [] ?_
                 refine S.gx [27] ?_
                 repeat refine gA ?_
                 cases hr
                 exact lf
                ·have hr := ifN hr hc
                 repeat refine gA ?_
                 refine S.prune [1, 4, 57, 58, 59] ?_
                 refine S.gx [26] ?_
                 repeat refine gA ?_
                 refine S.lp ?_
                 refine S.gx [26, 27] ?_
                 obtain ⟨v14, hv14, hr⟩ := of_bind0 hr
                 obtain ⟨v15, hv15, hr⟩ := of_bind0 hr
                 obtain ⟨v16, hv16, hr⟩ := of_bind0 hr
                 obtain ⟨v17, hv17, hr⟩ := of_bind0 hr
                 obtain ⟨v18, hv18, hr⟩ := of_bind0 hr
                 try simp only [hv14, hv15, hv16, hv17, hv18, Option.getD_some, Option.isSome_some, true_and, and_assoc]
                 repeat refine gA ?_
                 cases hr
                 exact lf
             ·have hr := ifN hr hc
              obtain ⟨v25, hv25, hr⟩ := of_bind0 hr
              obtain ⟨v26, hv26, hr⟩ := of_bind0 hr
              obtain ⟨v27, hv27, hr⟩ := of_bind0 hr
              obtain ⟨v28, hv28, hr⟩ := of_bind0 hr
              obtain ⟨v29, hv29, hr⟩ := of_bind0 hr
              try simp only [hv25, hv26, hv27, hv28, hv29, Option.getD_some, Option.isSome_some, true_and, and_assoc]
              repeat refine gA ?_
              cases hr
              exact lf
theorem f14 : FnFact Tryd.prog 14 T14.sp := ⟨⟨Tryd.f14, Tryd.func14, by decide, rfl⟩, v14⟩
end

/- martensite/steel.rulesErr -/
def r73 (x0 : List (Int × Int × Int × Int)) (x1 : List (Int × Int × Int × Int × Int)) (x2 : List (Int × Int × Int)) (x3 : List (Int × Int)) (x4 : Int) (x5 : Int) (x6 : Int) (x7 : Int) : Option (Int) :=
  (r14 x0 x1 x2 x3 x4 x5 x6 x7).bind fun v1 =>
   some v1.2
def T73 : TSpec qA1 := mkT qE1 qd1 (fun ⟨x0, x1, x2, x3, x4, x5, x6, x7⟩ => r73 x0 x1 x2 x3 x4 x5 x6 x7) qu4 false
theorem TP73 (c0 c1 c2 c3 c4 c5 c6 c7 : D) : T73.sp.pre [.agg [c0, c1, c2, c3, c4, c5, c6, c7]] = (eqvArgs (qt1 c0 c1 c2 c3 c4 c5 c6 c7) (qp1 qw1 c0 c1 c2 c3 c4 c5 c6 c7) ∧ (qp1 r73 c0 c1 c2 c3 c4 c5 c6 c7).isSome = true) := (rfl)
theorem TR73 (c0 c1 c2 c3 c4 c5 c6 c7 : D) : T73.sp.res [.agg [c0, c1, c2, c3, c4, c5, c6, c7]] = qu4 ((qp1 r73 c0 c1 c2 c3 c4 c5 c6 c7).getD default) := (rfl)
theorem TA73 : T73.sp.alias = false := (rfl)
def tb73 : Fns := lk [(14, T14.sp)]
theorem tb73_ok : FnsOk Tryd.prog tb73 := .cons f14 (FnsOk.nil)
theorem tb73_14 : tb73 14 = some T14.sp := rfl
attribute [go_sem] TP73 TR73 TA73
section
attribute [local go_sem] T73 tb73_14 Tryd.results73
theorem v73 : Valid Tryd.prog 73 T73.sp := by
 refine valid_t (fn := Tryd.f73) (n := 11) ty_ok tb73_ok Tryd.func73 rfl Tryd.ntmps73 ?_
 rintro ⟨x0, x1, x2, x3, x4, x5, x6, x7⟩ hx
 obtain ⟨r, hr⟩ := oE (show (r73 x0 x1 x2 x3 x4 x5 x6 x7).isSome = true from hx)
 have hres : T73.res (x0, x1, x2, x3, x4, x5, x6, x7) = qu4 r := by simp only [T73, mkT, hr, oG]
 refine ⟨nL rfl, fun stop S => ?_⟩
 rw [hres] at S
 unfold r73 at hr
 refine S.gx [] ?_
 obtain ⟨v1, hv1, hr⟩ := of_bind0 hr
 try simp only [hv1, oG, oI, true_and, and_assoc]
 repeat refine gA ?_
 cases hr
 exact lf
theorem f73 : FnFact Tryd.prog 73 T73.sp := ⟨⟨Tryd.f73, Tryd.func73, by decide, rfl⟩, v73⟩
end

/- martensite/steel.CheckState -/
def r17 (x5 : Int) (x0 : Int) (x1 : Int) (x2 : Int) (x3 : Int) (x4 : Int) (x6 : Int) : Option (Int) :=
  (r71 x5).bind fun v1 =>
   if v1 = true → (r71 x0).isSome = true then
    if (v1 && ((r71 x0).getD default)) = true → (r71 x1).isSome = true then
     if ((v1 && ((r71 x0).getD default)) && ((r71 x1).getD default)) = true → (r71 x2).isSome = true then
      if (((v1 && ((r71 x0).getD default)) && ((r71 x1).getD default)) && ((r71 x2).getD default)) = true → (r71 x3).isSome = true then
       if ((((v1 && ((r71 x0).getD default)) && ((r71 x1).getD default)) && ((r71 x2).getD default)) && ((r71 x3).getD default)) = true → (r66 x4 0 100000).isSome = true then
        if (((((v1 && ((r71 x0).getD default)) && ((r71 x1).getD default)) && ((r71 x2).getD default)) && ((r71 x3).getD default)) && ((r66 x4 0 100000).getD default)) = true → (r66 x6 0 1000000).isSome = true then
         if (!((((((v1 && ((r71 x0).getD default)) && ((r71 x1).getD default)) && ((r71 x2).getD default)) && ((r71 x3).getD default)) && ((r66 x4 0 100000).getD default)) && ((r66 x6 0 1000000).getD default))) = true then
          some 2
          else (r68 ((IntKind.i64.wrap ((IntKind.i64.wrap ((IntKind.i64.wrap (x5 + x0)) + x1)) + x2)) == 1000000) 3).bind fun v2 =>
           some v2
         else none
        else none
       else none
      else none
     else none
    else none
def T17 : TSpec qA10 := mkT qE10 qd10 (fun ⟨x5, x0, x1, x2, x3, x4, x6⟩ => r17 x5 x0 x1 x2 x3 x4 x6) qu4 false
theorem TP17 (c0 c1 c2 c3 c4 c5 c6 : D) : T17.sp.pre [.agg [c0, c1, c2, c3, c4, c5, c6]] = (eqvArgs (qt10 c0 c1 c2 c3 c4 c5 c6) (qp10 qw10 c0 c1 c2 c3 c4 c5 c6) ∧ (qp10 r17 c0 c1 c2 c3 c4 c5 c6).isSome = true) := (rfl)
theorem TR17 (c0 c1 c2 c3 c4 c5 c6 : D) : T17.sp.res [.agg [c0, c1, c2, c3, c4, c5, c6]] = qu4 ((qp10 r17 c0 c1 c2 c3 c4 c5 c6).getD default) := (rfl)
theorem TA17 : T17.sp.alias = false := (rfl)
def tb17 : Fns := lk [(66, T66.sp), (68, T68.sp), (71, T71.sp)]
theorem tb17_ok : FnsOk Tryd.prog tb17 := .cons f66 (.cons f68 (.cons f71 (FnsOk.nil)))
theorem tb17_66 : tb17 66 = some T66.sp := rfl
theorem tb17_68 : tb17 68 = some T68.sp := rfl
theorem tb17_71 : tb17 71 = some T71.sp := rfl
attribute [go_sem] TP17 TR17 TA17
section
attribute [local go_sem] T17 tb17_66 tb17_68 tb17_71 Tryd.results17
theorem v17 : Valid Tryd.prog 17 T17.sp := by
 refine valid_t (fn := Tryd.f17) (n := 52) ty_ok tb17_ok Tryd.func17 rfl Tryd.ntmps17 ?_
 rintro ⟨x5, x0, x1, x2, x3, x4, x6⟩ hx
 obtain ⟨r, hr⟩ := oE (show (r17 x5 x0 x1 x2 x3 x4 x6).isSome = true from hx)
 have hres : T17.res (x5, x0, x1, x2, x3, x4, x6) = qu4 r := by simp only [T17, mkT, hr, oG]
 refine ⟨nL rfl, fun stop S => ?_⟩
 rw [hres] at S
 unfold r17 at hr
 refine S.gx [2] ?_
 obtain ⟨v1, hv1, hr⟩ := of_bind0 hr
 obtain ⟨hg3, hr⟩ := of_guard0 hr
 obtain ⟨hg4, hr⟩ := of_guard0 hr
 obtain ⟨hg5, hr⟩ := of_guard0 hr
 obtain ⟨hg6, hr⟩ := of_guard0 hr
 obtain ⟨hg7, hr⟩ := of_guard0 hr
 obtain ⟨hg8, hr⟩ := of_guard0 hr
 try simp only [hv1, oG, oI, true_and, and_assoc]
 repeat (first | refine gG hg3 ?_ | refine gG hg4 ?_ | refine gG hg5 ?_ | refine gG hg6 ?_ | refine gG hg7 ?_ | refine gG hg8 ?_ | refine gA ?_ | refine gB ?_)
 refine S.prune [1, 3] ?_
 refine S.gx [] ?_
 repeat refine gA ?_
 refine ⟨?_, ?_⟩ <;> intro hc
 ·have hr := ifP hr hc
  repeat refine gA ?_
  cases hr
  exact lf
 ·have hr := ifN hr hc
  obtain ⟨v2, hv2, hr⟩ := of_bind0 hr
  try simp only [hv2, oG, oI, true_and, and_assoc]
  repeat refine gA ?_
  cases hr
  exact lf
theorem f17 : FnFact Tryd.prog 17 T17.sp := ⟨⟨Tryd.f17, Tryd.func17, by decide, rfl⟩, v17⟩
end

/- martensite/steel.curveErr$1 -/
def r113 (a0 : Int) : Option (Bool) :=
  (r109 a0).bind fun v1 =>
   some (!v1)
def T113 : TSpec qA3 := mkT qE3 qd3 r113 qu3 false
theorem TP113 (c0 : D) : T113.sp.pre [.c c0] = (eqvArgs (qt3 c0) (qp3 qw3 c0) ∧ (qp3 r113 c0).isSome = true) := (rfl)
theorem TR113 (c0 : D) : T113.sp.res [.c c0] = qu3 ((qp3 r113 c0).getD default) := (rfl)
theorem TA113 : T113.sp.alias = false := (rfl)
def tb113 : Fns := lk [(109, T109.sp)]
theorem tb113_ok : FnsOk Tryd.prog tb113 := .cons f109 (FnsOk.nil)
theorem tb113_109 : tb113 109 = some T109.sp := rfl
attribute [go_sem] TP113 TR113 TA113
section
attribute [local go_sem] T113 tb113_109 Tryd.results113
theorem v113 : Valid Tryd.prog 113 T113.sp := by
 refine valid_t (fn := Tryd.f113) (n := 6) ty_ok tb113_ok Tryd.func113 rfl Tryd.ntmps113 ?_
 rintro a0 hx
 obtain ⟨r, hr⟩ := oE (show (r113 a0).isSome = true from hx)
 have hres : T113.res a0 = qu3 r := by simp only [T113, mkT, hr, oG]
 refine ⟨nL rfl, fun stop S => ?_⟩
 rw [hres] at S
 unfold r113 at hr
 refine S.gx [] ?_
 obtain ⟨v1, hv1, hr⟩ := of_bind0 hr
 try simp only [hv1, oG, oI, true_and, and_assoc]
 repeat refine gA ?_
 cases hr
 exact lf
theorem f113 : FnFact Tryd.prog 113 T113.sp := ⟨⟨Tryd.f113, Tryd.func113, by decide, rfl⟩, v113⟩
end

/- slices.IndexFunc[[]int,int] -/
def b110a_1 (a0 : List (Int)) : (Int) → Ctl (Int) (Int) := fun s1 =>
  if (decide (s1 < (a0.length : Int))) = true then
   if 0 ≤ s1 ∧ s1 < (a0.length : Int) then
    bindC (r113 (a0.getD s1.toNat default)) fun v1 =>
     if v1 = true then
      .out (some s1)
      else .next (IntKind.i64.wrap (s1 + 1))
    else .out none
   else .out (some (-1))
def r110a (a0 : List (Int)) : Option (Int) :=
  iterC (b110a_1 a0) 1000000000 0
def T110a : TSpec qA11 := mkT qE11 qd11 r110a qu4 false
theorem TP110a (c0 : D) : T110a.sp.pre [.c c0, .clo 113 []] = (eqvArgs (qt11 c0) (qp11 qw11 c0) ∧ (qp11 r110a c0).isSome = true) := (rfl)
theorem TR110a (c0 : D) : T110a.sp.res [.c c0, .clo 113 []] = qu4 ((qp11 r110a c0).getD default) := (rfl)
theorem TA110a : T110a.sp.alias = false := (rfl)
def tb110a : Fns := lk [(113, T113.sp)]
theorem tb110a_ok : FnsOk Tryd.prog tb110a := .cons f113 (FnsOk.nil)
theorem tb110a_113 : tb110a 113 = some T113.sp := rfl
attribute [go_sem] TP110a TR110a TA110a
section
attribute [local go_sem] T110a tb110a_113 Tryd.results110
theorem v110a : Valid Tryd.prog 110 T110a.sp := by
  refine valid_t (fn := Tryd.f110) (n := 19) ty_ok tb110a_ok Tryd.func110 rfl Tryd.ntmps110 ?_
  rintro a0 hx
  obtain ⟨r, hr⟩ := oE (show (r110a a0).isSome = true from hx)
  have hres : T110a.res a0 = qu4 r := by simp only [T110a, mkT, hr, oG]
  refine ⟨nL rfl, fun stop S => ?_⟩
  rw [hres] at S
  unfold r110a at hr
  refine S.gx [] ?_
  repeat refine gA ?_
  refine S.sees [0, 1, 7, 8] [] [] ?_ (Stop.iter S (fun s1 => ⟨[(0, .c (.d (encF 1 d_I a0))), (1, .c (.clo 113 [])), (7, .c (.d (.int .i64 (a0.length : Int)))), (8, .c (.d (.int .i64 s1)))], [], []⟩) (b110a_1 a0) (fun q => q = r) hr rfl ?_)
  · exact lf
  · intro s1 hr
    unfold b110a_1 at hr
    refine S.gx [] ?_
    repeat refine gA ?_
    refine ⟨fun hc => ?_, fun hc => ?_⟩
    · replace hr := ifP1 hr hc
      obtain ⟨hg2, hr⟩ := of_guard1 hr
      obtain ⟨v1, hv1, hr⟩ := of_bind1 hr
      try simp only [hv1, oG, oI, true_and, and_assoc]
      repeat refine gA ?_
      refine ⟨fun hc => ?_, fun hc => ?_⟩
      · replace hr := ifP1 hr hc
        repeat refine gA ?_
        have hr := of_out0 hr
        obtain rfl := Option.some.inj hr
        exact lf
      · replace hr := ifN1 hr hc
        repeat refine gA ?_
        refine S.sees [0, 1, 7, 8] [] [] ?_ hr
        exact lf
    · replace hr := ifN1 hr hc
      repeat refine gA ?_
      have hr := of_out0 hr
      repeat refine gA ?_
      obtain rfl := Option.some.inj hr
      exact lf
theorem f110a : FnFact Tryd.prog 110 T110a.sp := ⟨⟨Tryd.f110, Tryd.func110, by decide, rfl⟩, v110a⟩
end

/- slices.ContainsFunc[[]int,int] -/
def r64a (a0 : List (Int)) : Option (Bool) :=
  (r110a a0).bind fun v1 =>
   some (decide (v1 ≥ 0))
def T64a : TSpec qA11 := mkT qE11 qd11 r64a qu3 false
theorem TP64a (c0 : D) : T64a.sp.pre [.c c0, .clo 113 []] = (eqvArgs (qt11 c0) (qp11 qw11 c0) ∧ (qp11 r64a c0).isSome = true) := (rfl)
theorem TR64a (c0 : D) : T64a.sp.res [.c c0, .clo 113 []] = qu3 ((qp11 r64a c0).getD default) := (rfl)
theorem TA64a : T64a.sp.alias = false := (rfl)
def tb64a : Fns := lk [(110, T110a.sp)]
theorem tb64a_ok : FnsOk Tryd.prog tb64a := .cons f110a (FnsOk.nil)
theorem tb64a_110 : tb64a 110 = some T110a.sp := rfl
attribute [go_sem] TP64a TR64a TA64a
section
attribute [local go_sem] T64a tb64a_110 Tryd.results64
theorem v64a : Valid Tryd.prog 64 T64a.sp := by
  refine valid_t (fn := Tryd.f64) (n := 9) ty_ok tb64a_ok Tryd.func64 rfl Tryd.ntmps64 ?_
  rintro a0 hx
  obtain ⟨r, hr⟩ := oE (show (r64a a0).isSome = true from hx)
  have hres : T64a.res a0 = qu3 r := by simp only [T64a, mkT, hr, oG]
  refine ⟨nL rfl, fun stop S => ?_⟩
  rw [hres] at S
  unfold r64a at hr
  refine S.gx [] ?_
  obtain ⟨v1, hv1, hr⟩ := of_bind0 hr
  try simp only [hv1, oG, oI, true_and, and_assoc]
  repeat refine gA ?_
  obtain rfl := Option.some.inj hr
  exact lf
theorem f64a : FnFact Tryd.prog 64 T64a.sp := ⟨⟨Tryd.f64, Tryd.func64, by decide, rfl⟩, v64a⟩
end

/- martensite/steel.curveErr -/
def r74 (a0 : List (Int)) : Option (Int) :=
  (r64a a0).bind fun v1 =>
   (r68 (decide ((a0.length : Int) ≤ 200)) 8).bind fun v2 =>
    (r68 (!v1) 2).bind fun v3 =>
     (r67 [v2, v3]).bind fun v4 =>
      some v4
def T74 : TSpec qA6 := mkT qE6 qd6 r74 qu4 false
theorem TP74 (c0 : D) : T74.sp.pre [.c c0] = (eqvArgs (qt6 c0) (qp6 qw6 c0) ∧ (qp6 r74 c0).isSome = true) := (rfl)
theorem TR74 (c0 : D) : T74.sp.res [.c c0] = qu4 ((qp6 r74 c0).getD default) := (rfl)
theorem TA74 : T74.sp.alias = false := (rfl)
def tb74 : Fns := lk [(64, T64a.sp), (67, T67.sp), (68, T68.sp)]
theorem tb74_ok : FnsOk Tryd.prog tb74 := .cons f64a (.cons f67 (.cons f68 (FnsOk.nil)))
theorem tb74_64 : tb74 64 = some T64a.sp := rfl
theorem tb74_67 : tb74 67 = some T67.sp := rfl
theorem tb74_68 : tb74 68 = some T68.sp := rfl
attribute [go_sem] TP74 TR74 TA74
section
attribute [local go_sem] T74 tb74_64 tb74_67 tb74_68 Tryd.results74
theorem v74 : Valid Tryd.prog 74 T74.sp := by
 refine valid_t (fn := Tryd.f74) (n := 15) ty_ok tb74_ok Tryd.func74 rfl Tryd.ntmps74 ?_
 rintro a0 hx
 obtain ⟨r, hr⟩ := oE (show (r74 a0).isSome = true from hx)
 have hres : T74.res a0 = qu4 r := by simp only [T74, mkT, hr, oG]
 refine ⟨nL rfl, fun stop S => ?_⟩
 rw [hres] at S
 unfold r74 at hr
 refine S.gx [] ?_
 obtain ⟨v1, hv1, hr⟩ := of_bind0 hr
 obtain ⟨v2, hv2, hr⟩ := of_bind0 hr
 obtain ⟨v3, hv3, hr⟩ := of_bind0 hr
 obtain ⟨v4, hv4, hr⟩ := of_bind0 hr
 try simp only [hv1, hv2, hv3, hv4, Option.getD_some, Option.isSome_some, true_and, and_assoc]
 repeat refine gA ?_
 cases hr
 exact lf
theorem f74 : FnFact Tryd.prog 74 T74.sp := ⟨⟨Tryd.f74, Tryd.func74, by decide, rfl⟩, v74⟩
end

/- martensite/steel.CheckPick$1 -/
def r72 (a0 : Int) : Option (Bool) :=
  (r66 a0 0 1000).bind fun v1 =>
   some v1
def T72 : TSpec qA3 := mkT qE3 qd3 r72 qu3 false
theorem TP72 (c0 : D) : T72.sp.pre [.c c0] = (eqvArgs (qt3 c0) (qp3 qw3 c0) ∧ (qp3 r72 c0).isSome = true) := (rfl)
theorem TR72 (c0 : D) : T72.sp.res [.c c0] = qu3 ((qp3 r72 c0).getD default) := (rfl)
theorem TA72 : T72.sp.alias = false := (rfl)
def tb72 : Fns := lk [(66, T66.sp)]
theorem tb72_ok : FnsOk Tryd.prog tb72 := .cons f66 (FnsOk.nil)
theorem tb72_66 : tb72 66 = some T66.sp := rfl
attribute [go_sem] TP72 TR72 TA72
section
attribute [local go_sem] T72 tb72_66 Tryd.results72
theorem v72 : Valid Tryd.prog 72 T72.sp := by
 refine valid_t (fn := Tryd.f72) (n := 5) ty_ok tb72_ok Tryd.func72 rfl Tryd.ntmps72 ?_
 rintro a0 hx
 obtain ⟨r, hr⟩ := oE (show (r72 a0).isSome = true from hx)
 have hres : T72.res a0 = qu3 r := by simp only [T72, mkT, hr, oG]
 refine ⟨nL rfl, fun stop S => ?_⟩
 rw [hres] at S
 unfold r72 at hr
 refine S.gx [] ?_
 obtain ⟨v1, hv1, hr⟩ := of_bind0 hr
 try simp only [hv1, oG, oI, true_and, and_assoc]
 repeat refine gA ?_
 cases hr
 exact lf
theorem f72 : FnFact Tryd.prog 72 T72.sp := ⟨⟨Tryd.f72, Tryd.func72, by decide, rfl⟩, v72⟩
end

/- martensite/steel.CheckPick -/
def r19 (x2 : Int) (x0 : Int) (x1 : Int) : Option (Int) :=
  (r72 x2).bind fun v1 =>
   if v1 = true → (r72 x0).isSome = true then
    if (v1 && ((r72 x0).getD default)) = true → (r72 x1).isSome = true then
     (r68 ((v1 && ((r72 x0).getD default)) && ((r72 x1).getD default)) 2).bind fun v2 =>
      some v2
     else none
    else none
def T19 : TSpec qA12 := mkT qE12 qd12 (fun ⟨x2, x0, x1⟩ => r19 x2 x0 x1) qu4 false
theorem TP19 (c0 c1 c2 : D) : T19.sp.pre [.agg [c0, c1, c2]] = (eqvArgs (qt12 c0 c1 c2) (qp12 qw12 c0 c1 c2) ∧ (qp12 r19 c0 c1 c2).isSome = true) := (rfl)
theorem TR19 (c0 c1 c2 : D) : T19.sp.res [.agg [c0, c1, c2]] = qu4 ((qp12 r19 c0 c1 c2).getD default) := (rfl)
theorem TA19 : T19.sp.alias = false := (rfl)
def tb19 : Fns := lk [(68, T68.sp), (72, T72.sp)]
theorem tb19_ok : FnsOk Tryd.prog tb19 := .cons f68 (.cons f72 (FnsOk.nil))
theorem tb19_68 : tb19 68 = some T68.sp := rfl
theorem tb19_72 : tb19 72 = some T72.sp := rfl
attribute [go_sem] TP19 TR19 TA19
section
attribute [local go_sem] T19 tb19_68 tb19_72 Tryd.results19
theorem v19 : Valid Tryd.prog 19 T19.sp := by
 refine valid_t (fn := Tryd.f19) (n := 21) ty_ok tb19_ok Tryd.func19 rfl Tryd.ntmps19 ?_
 rintro ⟨x2, x0, x1⟩ hx
 obtain ⟨r, hr⟩ := oE (show (r19 x2 x0 x1).isSome = true from hx)
 have hres : T19.res (x2, x0, x1) = qu4 r := by simp only [T19, mkT, hr, oG]
 refine ⟨nL rfl, fun stop S => ?_⟩
 rw [hres] at S
 unfold r19 at hr
 refine S.gx [] ?_
 obtain ⟨v1, hv1, hr⟩ := of_bind0 hr
 obtain ⟨hg3, hr⟩ := of_guard0 hr
 obtain ⟨hg4, hr⟩ := of_guard0 hr
 obtain ⟨v2, hv2, hr⟩ := of_bind0 hr
 try simp only [hv1, hv2, Option.getD_some, Option.isSome_some, true_and, and_assoc]
 repeat (first | refine gG hg3 ?_ | refine gG hg4 ?_ | refine gA ?_ | refine gB ?_)
 cases hr
 exact lf
theorem f19 : FnFact Tryd.prog 19 T19.sp := ⟨⟨Tryd.f19, Tryd.func19, by decide, rfl⟩, v19⟩
end

/- (martensite/steel.rules).heat$1 -/
def r132 (x0 : Int) (x2 : Int) (x3 : Int) (x4 : Int) (x1 : Int) : Option (Bool) :=
  some (decide (x0 ≤ x1))
def T132 : TSpec qA13 := mkT qE13 qd13 (fun ⟨x0, x2, x3, x4, x1⟩ => r132 x0 x2 x3 x4 x1) qu3 false
theorem TP132 (c0 c1 c2 c3 c4 : D) : T132.sp.pre [.agg [c0, c1, c2, c3], .ptr [c4]] = (eqvArgs (qt13 c0 c1 c2 c3 c4) (qp13 qw13 c0 c1 c2 c3 c4) ∧ (qp13 r132 c0 c1 c2 c3 c4).isSome = true) := (rfl)
theorem TR132 (c0 c1 c2 c3 c4 : D) : T132.sp.res [.agg [c0, c1, c2, c3], .ptr [c4]] = qu3 ((qp13 r132 c0 c1 c2 c3 c4).getD default) := (rfl)
theorem TA132 : T132.sp.alias = false := (rfl)
def tb132 : Fns := lk []
theorem tb132_ok : FnsOk Tryd.prog tb132 := FnsOk.nil
attribute [go_sem] TP132 TR132 TA132
section
attribute [local go_sem] T132 Tryd.results132
theorem v132 : Valid Tryd.prog 132 T132.sp := by
 refine valid_t (fn := Tryd.f132) (n := 8) ty_ok tb132_ok Tryd.func132 rfl Tryd.ntmps132 ?_
 rintro ⟨x0, x2, x3, x4, x1⟩ hx
 obtain ⟨r, hr⟩ := oE (show (r132 x0 x2 x3 x4 x1).isSome = true from hx)
 have hres : T132.res (x0, x2, x3, x4, x1) = qu3 r := by simp only [T132, mkT, hr, oG]
 refine ⟨nL rfl, fun stop S => ?_⟩
 rw [hres] at S
 unfold r132 at hr
 refine S.gx [] ?_
 repeat refine gA ?_
 cases hr
 exact lf
theorem f132 : FnFact Tryd.prog 132 T132.sp := ⟨⟨Tryd.f132, Tryd.func132, by decide, rfl⟩, v132⟩
end

/- (martensite/steel.rules).heat -/
def b114_1 (x0 : List (Int × Int × Int × Int)) (a1 : Int) : (Int) → Ctl (Int) ((Option (Int × Int × Int × Int))) := fun s1 =>
  if (decide (s1 ≥ 0)) = true then
   if 0 ≤ s1 ∧ s1 < (x0.length : Int) then
    if 0 ≤ s1 ∧ s1 < (x0.length : Int) then
     bindC (r132 ((x0.getD s1.toNat default).1) ((x0.getD s1.toNat default).2.1) ((x0.getD s1.toNat default).2.2.1) ((x0.getD s1.toNat default).2.2.2) a1) fun v1 =>
      if v1 = true then
       if 0 ≤ s1 ∧ s1 < (x0.length : Int) then
        .out (some (some ((x0.getD s1.toNat default).1, (x0.getD s1.toNat default).2.1, (x0.getD s1.toNat default).2.2.1, (x0.getD s1.toNat default).2.2.2)))
        else .out none
       else .next (IntKind.i64.wrap (s1 - 1))
     else .out none
    else .out none
   else .out (some none)
def r114 (x0 : List (Int × Int × Int × Int)) (x1 : List (Int × Int × Int × Int × Int)) (x2 : List (Int × Int × Int)) (x3 : List (Int × Int)) (x4 : Int) (x5 : Int) (x6 : Int) (x7 : Int) (a1 : Int) : Option ((Option (Int × Int × Int × Int))) :=
  iterC (b114_1 x0 a1) 1000000000 (IntKind.i64.wrap ((x0.length : Int) - 1))
def T114 : TSpec qA14 := mkT qE14 qd14 (fun ⟨x0, x1, x2, x3, x4, x5, x6, x7, a1⟩ => r114 x0 x1 x2 x3 x4 x5 x6 x7 a1) qu6 true
theorem TP114 (c0 c1 c2 c3 c4 c5 c6 c7 c8 : D) : T114.sp.pre [.agg [c0, c1, c2, c3, c4, c5, c6, c7], .c c8] = (eqvArgs (qt14 c0 c1 c2 c3 c4 c5 c6 c7 c8) (qp14 qw14 c0 c1 c2 c3 c4 c5 c6 c7 c8) ∧ (qp14 r114 c0 c1 c2 c3 c4 c5 c6 c7 c8).isSome = true) := (rfl)
theorem TR114 (c0 c1 c2 c3 c4 c5 c6 c7 c8 : D) : T114.sp.res [.agg [c0, c1, c2, c3, c4, c5, c6, c7], .c c8] = qu6 ((qp14 r114 c0 c1 c2 c3 c4 c5 c6 c7 c8).getD default) := (rfl)
theorem TA114 : T114.sp.alias = true := (rfl)
def tb114 : Fns := lk [(132, T132.sp)]
theorem tb114_ok : FnsOk Tryd.prog tb114 := .cons f132 (FnsOk.nil)
theorem tb114_132 : tb114 132 = some T132.sp := rfl
attribute [go_sem] TP114 TR114 TA114
section
attribute [local go_sem] T114 tb114_132 Tryd.results114 Tryd.results131 Tryd.results144 Tryd.results151
theorem v114 : Valid Tryd.prog 114 T114.sp := by
 refine valid_t (fn := Tryd.f114) (n := 10) ty_ok tb114_ok Tryd.func114 rfl Tryd.ntmps114 ?_
 rintro ⟨x0, x1, x2, x3, x4, x5, x6, x7, a1⟩ hx
 obtain ⟨r, hr⟩ := oE (show (r114 x0 x1 x2 x3 x4 x5 x6 x7 a1).isSome = true from hx)
 have hres : T114.res (x0, x1, x2, x3, x4, x5, x6, x7, a1) = qu6 r := by simp only [T114, mkT, hr, oG]
 refine ⟨nL rfl, fun stop S => ?_⟩
 rw [hres] at S
 unfold r114 at hr
 refine S.gx [1] ?_
 repeat refine gA ?_
 refine S.inl 4 [4] [] Tryd.func131 (by decide) rfl Tryd.ntmps131 (fun cx e => drawn_ok ty_ok tb114_ok cx e) (some 9) rfl rfl rfl rfl (nL rfl) (nL rfl) ?_
 refine gs ?_
 repeat refine gA ?_
 intro stop1 S1
 refine S1.gx [1, 3] ?_
 repeat refine gA ?_
 refine S1.inl 1 [2, 3, 4] [] Tryd.func144 (by decide) rfl Tryd.ntmps144 (fun cx e => drawn_ok ty_ok tb114_ok cx e) (some 7) rfl rfl rfl rfl (nL rfl) (nL rfl) ?_
 refine gs ?_
 repeat refine gA ?_
 intro stop2 S2
 refine S2.gx [] ?_
 repeat refine gA ?_
 refine S1.gx [1, 3] ?_
 repeat refine gA ?_
 refine S1.range [2, 3, 4] Tryd.func151 (by decide) rfl Tryd.ntmps151 Tryd.results151 (fun cx e => drawn_ok ty_ok tb114_ok cx e) (fun cx e => drawn_ok ty_ok tb114_ok cx e) (by decide) rfl rfl (nL rfl) ?_
 intro l2 stop2 stopJ2 S2 SJ2 Y2
 refine S2.gx [3] ?_
 repeat refine gA ?_
 refine S2.sees [0, 1, 3] [(1, 1), (100002, 100002), (100003, 100003), (4, 4), (3, 3)] [] ?_ (Stop.iter S2 (fun s1 => ⟨[(0, .c (.yld l2)), (1, .c (.ref 1 0)), (3, .c (.d (.int .i64 s1)))], [(1, [.d (encF 4 d_IIII x0)]), (100002, [.d (encF 4 d_IIII x0)]), (100003, [.clo 132 [.ref 3 0]]), (4, [.d (encP d_IIII none)]), (3, [.d (.int .i64 a1)])], []⟩) (b114_1 x0 a1) (fun q => q = r) hr rfl ?_)
 ·exact lf
 ·intro s1 hr
  unfold b114_1 at hr
  refine S2.gx [3] ?_
  repeat refine gA ?_
  refine ⟨?_, ?_⟩ <;> intro hc
  ·have hr := ifP1 hr hc
   repeat refine gA ?_
   refine Y2 6 [0, 1, 3] (some 17) rfl rfl rfl rfl (nL rfl) (by rfl) ?_
   refine gs ?_
   obtain ⟨hg4, hr⟩ := of_guard1 hr
   repeat refine gA ?_
   intro stopA3 SA3
   refine SA3.gx [] ?_
   repeat refine gA ?_
   intro stop3 S3
   refine S3.gx [1, 3] ?_
   repeat refine gA ?_
   refine S3.gx [1] ?_
   obtain ⟨hg3, hr⟩ := of_guard1 hr
   obtain ⟨v1, hv1, hr⟩ := of_bind1 hr
   try simp only [hv1, oG, oI, true_and, and_assoc]
   repeat refine gA ?_
   refine ⟨?_, ?_⟩ <;> intro hc
   ·have hr := ifP1 hr hc
    obtain ⟨hg2, hr⟩ := of_guard1 hr
    repeat refine gA ?_
    refine (SJ2 .ret).gx [3] ?_
    repeat refine gA ?_
    have hr := of_out0 hr
    repeat refine gA ?_
    refine S1.gx [1, 3] ?_
    repeat refine gA ?_
    refine S.gx [1] ?_
    repeat refine gA ?_
    cases hr
    exact lf
   ·have hr := ifN1 hr hc
    repeat refine gA ?_
    refine S2.gx [3] ?_
    repeat refine gA ?_
    refine S2.sees [0, 1, 3] [(1, 1), (100002, 100002), (100003, 100003), (4, 4), (3, 3)] [] ?_ hr
    exact lf
  ·have hr := ifN1 hr hc
   repeat refine gA ?_
   have hr := of_out0 hr
   repeat refine gA ?_
   refine S1.gx [1, 3] ?_
   repeat refine gA ?_
   refine S.gx [1] ?_
   repeat refine gA ?_
   cases hr
   exact lf
theorem f114 : FnFact Tryd.prog 114 T114.sp := ⟨⟨Tryd.f114, Tryd.func114, by decide, rfl⟩, v114⟩
end

/- martensite/steel.picked -/
def r115 (x0 : Int) (x1 : Int) (a1 : Int) : Option (Int) :=
  some (IntKind.i64.wrap (x0 + (IntKind.i64.wrap ((IntKind.i64.wrap ((IntKind.i64.wrap (x1 - x0)) * a1)).tdiv 1000))))
def T115 : TSpec qA15 := mkT qE15 qd15 (fun ⟨x0, x1, a1⟩ => r115 x0 x1 a1) qu4 false
theorem TP115 (c0 c1 c2 : D) : T115.sp.pre [.agg [c0, c1], .c c2] = (eqvArgs (qt15 c0 c1 c2) (qp15 qw15 c0 c1 c2) ∧ (qp15 r115 c0 c1 c2).isSome = true) := (rfl)
theorem TR115 (c0 c1 c2 : D) : T115.sp.res [.agg [c0, c1], .c c2] = qu4 ((qp15 r115 c0 c1 c2).getD default) := (rfl)
theorem TA115 : T115.sp.alias = false := (rfl)
def tb115 : Fns := lk []
theorem tb115_ok : FnsOk Tryd.prog tb115 := FnsOk.nil
attribute [go_sem] TP115 TR115 TA115
section
attribute [local go_sem] T115 Tryd.results115
theorem v115 : Valid Tryd.prog 115 T115.sp := by
 refine valid_t (fn := Tryd.f115) (n := 16) ty_ok tb115_ok Tryd.func115 rfl Tryd.ntmps115 ?_
 rintro ⟨x0, x1, a1⟩ hx
 obtain ⟨r, hr⟩ := oE (show (r115 x0 x1 a1).isSome = true from hx)
 have hres : T115.res (x0, x1, a1) = qu4 r := by simp only [T115, mkT, hr, oG]
 refine ⟨nL rfl, fun stop S => ?_⟩
 rw [hres] at S
 unfold r115 at hr
 refine S.gx [] ?_
 repeat refine gA ?_
 cases hr
 exact lf
theorem f115 : FnFact Tryd.prog 115 T115.sp := ⟨⟨Tryd.f115, Tryd.func115, by decide, rfl⟩, v115⟩
end

/- (martensite/steel.rules).cool$1 -/
def r134 (x0 : Int) (x2 : Int) (x3 : Int) (x4 : Int) (x5 : Int) (x1 : Int) : Option (Bool) :=
  some (decide (x0 ≥ x1))
def T134 : TSpec qA16 := mkT qE16 qd16 (fun ⟨x0, x2, x3, x4, x5, x1⟩ => r134 x0 x2 x3 x4 x5 x1) qu3 false
theorem TP134 (c0 c1 c2 c3 c4 c5 : D) : T134.sp.pre [.agg [c0, c1, c2, c3, c4], .ptr [c5]] = (eqvArgs (qt16 c0 c1 c2 c3 c4 c5) (qp16 qw16 c0 c1 c2 c3 c4 c5) ∧ (qp16 r134 c0 c1 c2 c3 c4 c5).isSome = true) := (rfl)
theorem TR134 (c0 c1 c2 c3 c4 c5 : D) : T134.sp.res [.agg [c0, c1, c2, c3, c4], .ptr [c5]] = qu3 ((qp16 r134 c0 c1 c2 c3 c4 c5).getD default) := (rfl)
theorem TA134 : T134.sp.alias = false := (rfl)
def tb134 : Fns := lk []
theorem tb134_ok : FnsOk Tryd.prog tb134 := FnsOk.nil
attribute [go_sem] TP134 TR134 TA134
section
attribute [local go_sem] T134 Tryd.results134
theorem v134 : Valid Tryd.prog 134 T134.sp := by
 refine valid_t (fn := Tryd.f134) (n := 8) ty_ok tb134_ok Tryd.func134 rfl Tryd.ntmps134 ?_
 rintro ⟨x0, x2, x3, x4, x5, x1⟩ hx
 obtain ⟨r, hr⟩ := oE (show (r134 x0 x2 x3 x4 x5 x1).isSome = true from hx)
 have hres : T134.res (x0, x2, x3, x4, x5, x1) = qu3 r := by simp only [T134, mkT, hr, oG]
 refine ⟨nL rfl, fun stop S => ?_⟩
 rw [hres] at S
 unfold r134 at hr
 refine S.gx [] ?_
 repeat refine gA ?_
 cases hr
 exact lf
theorem f134 : FnFact Tryd.prog 134 T134.sp := ⟨⟨Tryd.f134, Tryd.func134, by decide, rfl⟩, v134⟩
end

/- slices.IndexFunc[[]martensite/api.SteelCool,martensite/api.SteelCool] -/
def b145_1 (a0 : List (Int × Int × Int × Int × Int)) (x0 : Int) : (Int) → Ctl (Int) (Int) := fun s1 =>
  if (decide (s1 < (a0.length : Int))) = true then
   if 0 ≤ s1 ∧ s1 < (a0.length : Int) then
    bindC (r134 ((a0.getD s1.toNat default).1) ((a0.getD s1.toNat default).2.1) ((a0.getD s1.toNat default).2.2.1) ((a0.getD s1.toNat default).2.2.2.1) ((a0.getD s1.toNat default).2.2.2.2) x0) fun v1 =>
     if v1 = true then
      .out (some s1)
      else .next (IntKind.i64.wrap (s1 + 1))
    else .out none
   else .out (some (-1))
def r145 (a0 : List (Int × Int × Int × Int × Int)) (x0 : Int) : Option (Int) :=
  iterC (b145_1 a0 x0) 1000000000 0
def T145 : TSpec qA17 := mkT qE17 qd17 (fun ⟨a0, x0⟩ => r145 a0 x0) qu4 false
theorem TP145 (c0 c1 : D) : T145.sp.pre [.c c0, .clo 134 [[c1]]] = (eqvArgs (qt17 c0 c1) (qp17 qw17 c0 c1) ∧ (qp17 r145 c0 c1).isSome = true) := (rfl)
theorem TR145 (c0 c1 : D) : T145.sp.res [.c c0, .clo 134 [[c1]]] = qu4 ((qp17 r145 c0 c1).getD default) := (rfl)
theorem TA145 : T145.sp.alias = false := (rfl)
def tb145 : Fns := lk [(134, T134.sp)]
theorem tb145_ok : FnsOk Tryd.prog tb145 := .cons f134 (FnsOk.nil)
theorem tb145_134 : tb145 134 = some T134.sp := rfl
attribute [go_sem] TP145 TR145 TA145
section
attribute [local go_sem] T145 tb145_134 Tryd.results145
theorem v145 : Valid Tryd.prog 145 T145.sp := by
 refine valid_t (fn := Tryd.f145) (n := 19) ty_ok tb145_ok Tryd.func145 rfl Tryd.ntmps145 ?_
 rintro ⟨a0, x0⟩ hx
 obtain ⟨r, hr⟩ := oE (show (r145 a0 x0).isSome = true from hx)
 have hres : T145.res (a0, x0) = qu4 r := by simp only [T145, mkT, hr, oG]
 refine ⟨nL rfl, fun stop S => ?_⟩
 rw [hres] at S
 unfold r145 at hr
 refine S.gx [] ?_
 repeat refine gA ?_
 refine S.sees [0, 1, 7, 8] [] [] ?_ (Stop.iter S (fun s1 => ⟨[(0, .c (.d (encF 5 d_IIIII a0))), (1, .c (.clo 134 [.sptr [.int .i64 x0] 0])), (7, .c (.d (.int .i64 (a0.length : Int)))), (8, .c (.d (.int .i64 s1)))], [], []⟩) (b145_1 a0 x0) (fun q => q = r) hr rfl ?_)
 ·exact lf
 ·intro s1 hr
  unfold b145_1 at hr
  refine S.gx [] ?_
  repeat refine gA ?_
  refine ⟨?_, ?_⟩ <;> intro hc
  ·have hr := ifP1 hr hc
   obtain ⟨hg2, hr⟩ := of_guard1 hr
   obtain ⟨v1, hv1, hr⟩ := of_bind1 hr
   try simp only [hv1, oG, oI, true_and, and_assoc]
   repeat refine gA ?_
   refine ⟨?_, ?_⟩ <;> intro hc
   ·have hr := ifP1 hr hc
    repeat refine gA ?_
    have hr := of_out0 hr
    cases hr
    exact lf
   ·have hr := ifN1 hr hc
    repeat refine gA ?_
    refine S.sees [0, 1, 7, 8] [] [] ?_ hr
    exact lf
  ·have hr := ifN1 hr hc
   repeat refine gA ?_
   have hr := of_out0 hr
   repeat refine gA ?_
   cases hr
   exact lf
theorem f145 : FnFact Tryd.prog 145 T145.sp := ⟨⟨Tryd.f145, Tryd.func145, by decide, rfl⟩, v145⟩
end

/- (martensite/steel.rules).cool -/
def r116 (x1 : List (Int × Int × Int × Int)) (x0 : List (Int × Int × Int × Int × Int)) (x2 : List (Int × Int × Int)) (x3 : List (Int × Int)) (x4 : Int) (x5 : Int) (x6 : Int) (x7 : Int) (a1 : Int) : Option ((Option (Int × Int × Int × Int × Int))) :=
  (r145 x0 a1).bind fun v1 =>
   if (decide (v1 ≥ 0)) = true then
    if 0 ≤ v1 ∧ v1 < (x0.length : Int) then
     some (some ((x0.getD v1.toNat default).1, (x0.getD v1.toNat default).2.1, (x0.getD v1.toNat default).2.2.1, (x0.getD v1.toNat default).2.2.2.1, (x0.getD v1.toNat default).2.2.2.2))
     else none
    else some none
def T116 : TSpec qA14 := mkT qE14 qd14 (fun ⟨x1, x0, x2, x3, x4, x5, x6, x7, a1⟩ => r116 x1 x0 x2 x3 x4 x5 x6 x7 a1) qu7 true
theorem TP116 (c0 c1 c2 c3 c4 c5 c6 c7 c8 : D) : T116.sp.pre [.agg [c0, c1, c2, c3, c4, c5, c6, c7], .c c8] = (eqvArgs (qt14 c0 c1 c2 c3 c4 c5 c6 c7 c8) (qp14 qw14 c0 c1 c2 c3 c4 c5 c6 c7 c8) ∧ (qp14 r116 c0 c1 c2 c3 c4 c5 c6 c7 c8).isSome = true) := (rfl)
theorem TR116 (c0 c1 c2 c3 c4 c5 c6 c7 c8 : D) : T116.sp.res [.agg [c0, c1, c2, c3, c4, c5, c6, c7], .c c8] = qu7 ((qp14 r116 c0 c1 c2 c3 c4 c5 c6 c7 c8).getD default) := (rfl)
theorem TA116 : T116.sp.alias = true := (rfl)
def tb116 : Fns := lk [(145, T145.sp)]
theorem tb116_ok : FnsOk Tryd.prog tb116 := .cons f145 (FnsOk.nil)
theorem tb116_145 : tb116 145 = some T145.sp := rfl
attribute [go_sem] TP116 TR116 TA116
section
attribute [local go_sem] T116 tb116_145 Tryd.results116 Tryd.results133
theorem v116 : Valid Tryd.prog 116 T116.sp := by
 refine valid_t (fn := Tryd.f116) (n := 10) ty_ok tb116_ok Tryd.func116 rfl Tryd.ntmps116 ?_
 rintro ⟨x1, x0, x2, x3, x4, x5, x6, x7, a1⟩ hx
 obtain ⟨r, hr⟩ := oE (show (r116 x1 x0 x2 x3 x4 x5 x6 x7 a1).isSome = true from hx)
 have hres : T116.res (x1, x0, x2, x3, x4, x5, x6, x7, a1) = qu7 r := by simp only [T116, mkT, hr, oG]
 refine ⟨nL rfl, fun stop S => ?_⟩
 rw [hres] at S
 unfold r116 at hr
 refine S.gx [1] ?_
 repeat refine gA ?_
 refine S.inl 4 [4] [] Tryd.func133 (by decide) rfl Tryd.ntmps133 (fun cx e => drawn_ok ty_ok tb116_ok cx e) (some 9) rfl rfl rfl rfl (nL rfl) (nL rfl) ?_
 refine gs ?_
 repeat refine gA ?_
 intro stop1 S1
 refine S1.gx [] ?_
 obtain ⟨v1, hv1, hr⟩ := of_bind0 hr
 try simp only [hv1, oG, oI, true_and, and_assoc]
 repeat refine gA ?_
 refine ⟨?_, ?_⟩ <;> intro hc
 ·have hr := ifP hr hc
  obtain ⟨hg2, hr⟩ := of_guard0 hr
  repeat refine gA ?_
  refine S.gx [1] ?_
  repeat refine gA ?_
  cases hr
  exact lf
 ·have hr := ifN hr hc
  repeat refine gA ?_
  refine S.gx [1] ?_
  repeat refine gA ?_
  cases hr
  exact lf
theorem f116 : FnFact Tryd.prog 116 T116.sp := ⟨⟨Tryd.f116, Tryd.func116, by decide, rfl⟩, v116⟩
end
end Go.Proofs.YtfkmbdfajpdjjaaDoor

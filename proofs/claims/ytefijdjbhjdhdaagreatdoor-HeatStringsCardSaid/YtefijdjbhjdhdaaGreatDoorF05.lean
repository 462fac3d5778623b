/- Contracts of functions, written by wip/dec. -/
import Derived.Test.YtefijdjbhjdhdaaGreatDoorF00
import Derived.Test.YtefijdjbhjdhdaaGreatDoorF01
set_option linter.unusedVariables false
set_option linter.unusedSimpArgs false
set_option maxHeartbeats 4000000
set_option maxRecDepth 20000
namespace Go.Proofs.YtefijdjbhjdhdaaGreatDoor
open Go.Abs
abbrev qA42 := (List (ByteArray)) × ByteArray
def qw42 (a0 : List (ByteArray)) (a1 : ByteArray) : List Arg := [.c (encF 1 d_S a0), .c (.str a1)]
def qE42 : qA42 → List Arg := fun ⟨a0, a1⟩ => qw42 a0 a1
def qd42 (a : List Arg) : qA42 := (decF g_S (aCell a 0 0), dStr (aCell a 1 0))
def qp42 {β : Type} (f : (List (ByteArray)) → ByteArray → β) (c0 c1 : D) : β := f (decF g_S c0) (dStr c1)
def qt42 (c0 c1 : D) : List Arg := [.c c0, .c c1]
attribute [go_sem] qw42 qp42 qt42 qE42
abbrev qA43 := ByteArray × ByteArray
def qw43 (a0 : ByteArray) (a1 : ByteArray) : List Arg := [.c (.str a0), .c (.str a1)]
def qE43 : qA43 → List Arg := fun ⟨a0, a1⟩ => qw43 a0 a1
def qd43 (a : List Arg) : qA43 := (dStr (aCell a 0 0), dStr (aCell a 1 0))
def qp43 {β : Type} (f : ByteArray → ByteArray → β) (c0 c1 : D) : β := f (dStr c0) (dStr c1)
def qt43 (c0 c1 : D) : List Arg := [.c c0, .c c1]
attribute [go_sem] qw43 qp43 qt43 qE43
abbrev qA45 := ByteArray × Int
def qw45 (a0 : ByteArray) (a1 : Int) : List Arg := [.c (.str a0), .c (.int .u8 a1)]
def qE45 : qA45 → List Arg := fun ⟨a0, a1⟩ => qw45 a0 a1
def qd45 (a : List Arg) : qA45 := (dStr (aCell a 0 0), dInt (aCell a 1 0))
def qp45 {β : Type} (f : ByteArray → Int → β) (c0 c1 : D) : β := f (dStr c0) (dInt c1)
def qt45 (c0 c1 : D) : List Arg := [.c c0, .c c1]
attribute [go_sem] qw45 qp45 qt45 qE45
abbrev qA46 := ByteArray × Int
def qw46 (a0 : ByteArray) (a1 : Int) : List Arg := [.c (.str a0), .c (.int .i64 a1)]
def qE46 : qA46 → List Arg := fun ⟨a0, a1⟩ => qw46 a0 a1
def qd46 (a : List Arg) : qA46 := (dStr (aCell a 0 0), dInt (aCell a 1 0))
def qp46 {β : Type} (f : ByteArray → Int → β) (c0 c1 : D) : β := f (dStr c0) (dInt c1)
def qt46 (c0 c1 : D) : List Arg := [.c c0, .c c1]
attribute [go_sem] qw46 qp46 qt46 qE46
def qu16 (v : ByteArray × ByteArray × Bool) : List RV := [.c (.d (.str v.1)), .c (.d (.str v.2.1)), .c (.d (.bool v.2.2))]
attribute [go_sem] qu16
def qu17 (v : Int × Bool) : List RV := [.c (.d (.int .i64 v.1)), .c (.d (.err v.2))]
attribute [go_sem] qu17
def qu19 (v : (List (ByteArray))) : List RV := [.c (.own (encF 1 d_S v))]
attribute [go_sem] qu19
/- strconv.Itoa -/
def r22 (a0 : Int) : Option (ByteArray) :=
  itoaV a0
def T22 : TSpec qA4 := mkT qE4 qd4 r22 qu15 false
theorem TP22 (c0 : D) : T22.sp.pre [.c c0] = (eqvArgs (qt4 c0) (qp4 qw4 c0) ∧ (qp4 r22 c0).isSome = true) := (rfl)
theorem TR22 (c0 : D) : T22.sp.res [.c c0] = qu15 ((qp4 r22 c0).getD default) := (rfl)
theorem TA22 : T22.sp.alias = false := (rfl)
attribute [go_sem] TP22 TR22 TA22
theorem v22 : Valid Tryz.prog 22 T22.sp := lib_Itoa (fun _ => rfl) (fun _ => rfl) (fun _ => rfl) rfl
theorem f22 : FnFact Tryz.prog 22 T22.sp := ⟨⟨Tryz.f22, Tryz.func22, by decide, rfl⟩, v22⟩

/- strings.Join -/
def r26 (a0 : List (ByteArray)) (a1 : ByteArray) : Option (ByteArray) :=
  joinV a0 a1
def T26 : TSpec qA42 := mkT qE42 qd42 (fun ⟨a0, a1⟩ => r26 a0 a1) qu15 false
theorem TP26 (c0 c1 : D) : T26.sp.pre [.c c0, .c c1] = (eqvArgs (qt42 c0 c1) (qp42 qw42 c0 c1) ∧ (qp42 r26 c0 c1).isSome = true) := (rfl)
theorem TR26 (c0 c1 : D) : T26.sp.res [.c c0, .c c1] = qu15 ((qp42 r26 c0 c1).getD default) := (rfl)
theorem TA26 : T26.sp.alias = false := (rfl)
attribute [go_sem] TP26 TR26 TA26
theorem v26 : Valid Tryz.prog 26 T26.sp := lib_Join (fun _ => rfl) (fun _ => rfl) (fun _ => rfl) rfl
theorem f26 : FnFact Tryz.prog 26 T26.sp := ⟨⟨Tryz.f26, Tryz.func26, by decide, rfl⟩, v26⟩

/- martensite/heat.list -/
def b23_1 (a0 : List (Int × Int)) : ((List (ByteArray)) × Int) → Ctl ((List (ByteArray)) × Int) (ByteArray) := fun s1 =>
  if (decide (s1.2 < (a0.length : Int))) = true then
   if 0 ≤ s1.2 ∧ s1.2 < (a0.length : Int) then
    bindC (r22 ((a0.getD s1.2.toNat default).1)) fun v1 =>
     if v1.size + (#[32] : Array UInt8).size ≤ 9223372036854775807 then
      bindC (r22 ((a0.getD s1.2.toNat default).2)) fun v2 =>
       if v1.size + (#[32] : Array UInt8).size + v2.size ≤ 9223372036854775807 then
        if (s1.1.length + 1) * 16 ≤ 140737488355328 ∧ s1.1.length + 1 ≤ 9223372036854775807 then
         .next (s1.1 ++ [(v1 ++ (⟨#[32]⟩ : ByteArray)) ++ v2], IntKind.i64.wrap (s1.2 + 1))
         else .out none
        else .out none
      else .out none
    else .out none
   else .out ((r26 s1.1 (⟨#[44]⟩ : ByteArray)).bind fun v7 =>
    some v7)
def r23 (a0 : List (Int × Int)) : Option (ByteArray) :=
  iterC (b23_1 a0) 1000000000 ([], 0)
def T23 : TSpec qA5 := mkT qE5 qd5 r23 qu15 false
theorem TP23 (c0 : D) : T23.sp.pre [.c c0] = (eqvArgs (qt5 c0) (qp5 qw5 c0) ∧ (qp5 r23 c0).isSome = true) := (rfl)
theorem TR23 (c0 : D) : T23.sp.res [.c c0] = qu15 ((qp5 r23 c0).getD default) := (rfl)
theorem TA23 : T23.sp.alias = false := (rfl)
def tb23 : Fns := lk [(22, T22.sp), (26, T26.sp)]
theorem tb23_ok : FnsOk Tryz.prog tb23 := .cons f22 (.cons f26 (FnsOk.nil))
theorem tb23_22 : tb23 22 = some T22.sp := rfl
theorem tb23_26 : tb23 26 = some T26.sp := rfl
theorem lt23_0 : (IntKind.i64.wrap (0 + 1)) = 1 := by first | rfl | decide | simp
attribute [go_sem] TP23 TR23 TA23
section
attribute [local go_sem] T23 tb23_22 tb23_26 Tryz.results23 lt23_0
theorem v23 : Valid Tryz.prog 23 T23.sp := by
 refine valid_t (fn := Tryz.f23) (n := 26) ty_ok tb23_ok Tryz.func23 rfl Tryz.ntmps23 ?_
 rintro a0 hx
 obtain ⟨r, hr⟩ := oE (show (r23 a0).isSome = true from hx)
 have hres : T23.res a0 = qu15 r := by simp only [T23, mkT, hr, oG]
 refine ⟨nL rfl, fun stop S => ?_⟩
 rw [hres] at S
 unfold r23 at hr
 refine S.gx [] ?_
 repeat refine gA ?_
 refine S.own0 3 1000300 1 rfl rfl ?_
 refine S.sees [3, 6, 7, 8] [] [(1000300, 1000300)] ?_ (Stop.iter S (fun s1 => ⟨[(3, .c (.own 1000300)), (6, .c (.d (encF 2 d_II a0))), (7, .c (.d (.int .i64 (a0.length : Int)))), (8, .c (.d (.int .i64 s1.2)))], [], [(1000300, .owned (encF 1 d_S s1.1))]⟩) (b23_1 a0) (fun q => q = r) hr rfl ?_)
 ·exact lf
 ·intro s1 hr
  unfold b23_1 at hr
  refine S.gx [] ?_
  repeat refine gA ?_
  refine ⟨?_, ?_⟩ <;> intro hc
  ·have hr := ifP1 hr hc
   obtain ⟨hg3, hr⟩ := of_guard1 hr
   obtain ⟨v1, hv1, hr⟩ := of_bind1 hr
   obtain ⟨hg4, hr⟩ := of_guard1 hr
   obtain ⟨v2, hv2, hr⟩ := of_bind1 hr
   obtain ⟨hg5, hr⟩ := of_guard1 hr
   obtain ⟨hg6, hr⟩ := of_guard1 hr
   try simp only [hv1, hv2, Option.getD_some, Option.isSome_some, true_and, and_assoc]
   repeat refine gA ?_
   refine S.sees [3, 6, 7, 8] [] [(22, 1000300)] ?_ hr
   exact lf
  ·have hr := ifN1 hr hc
   repeat refine gA ?_
   have hr := of_out0 hr
   obtain ⟨v7, hv7, hr⟩ := of_bind0 hr
   try simp only [hv7, oG, oI, true_and, and_assoc]
   repeat refine gA ?_
   cases hr
   exact lf
theorem f23 : FnFact Tryz.prog 23 T23.sp := ⟨⟨Tryz.f23, Tryz.func23, by decide, rfl⟩, v23⟩
end

/- martensite/heat.FormatSetup -/
def b6_1 (x0 : List ((List (Int × Int)))) : (Int × (List (ByteArray))) → Ctl (Int × (List (ByteArray))) (ByteArray) := fun s1 =>
  if (decide (s1.1 < (x0.length : Int))) = true then
   if 0 ≤ s1.1 ∧ s1.1 < (x0.length : Int) then
    bindC (r25 (x0.getD s1.1.toNat default)) fun v5 =>
     bindC (r23 v5) fun v6 =>
      if (s1.2.length + 1) * 16 ≤ 140737488355328 ∧ s1.2.length + 1 ≤ 9223372036854775807 then
       .next (IntKind.i64.wrap (s1.1 + 1), s1.2 ++ [v6])
       else .out none
    else .out none
   else .out ((r26 s1.2 (⟨#[59]⟩ : ByteArray)).bind fun v9 =>
    some v9)
def r6 (x1 : Int) (x2 : Int) (x3 : List (Int × Int)) (x0 : List ((List (Int × Int)))) : Option (ByteArray) :=
  (r22 x1).bind fun v1 =>
   if v1.size + (#[32] : Array UInt8).size ≤ 9223372036854775807 then
    (r22 x2).bind fun v2 =>
     if v1.size + (#[32] : Array UInt8).size + v2.size ≤ 9223372036854775807 then
      (r24 x3).bind fun v3 =>
       (r23 v3).bind fun v4 =>
        iterC (b6_1 x0) 1000000000 (0, [(v1 ++ (⟨#[32]⟩ : ByteArray)) ++ v2, v4])
      else none
    else none
def T6 : TSpec qA12 := mkT qE12 qd12 (fun ⟨x1, x2, x3, x0⟩ => r6 x1 x2 x3 x0) qu15 false
theorem TP6 (c0 c1 c2 c3 : D) : T6.sp.pre [.agg [c0, c1, c2, c3]] = (eqvArgs (qt12 c0 c1 c2 c3) (qp12 qw12 c0 c1 c2 c3) ∧ (qp12 r6 c0 c1 c2 c3).isSome = true) := (rfl)
theorem TR6 (c0 c1 c2 c3 : D) : T6.sp.res [.agg [c0, c1, c2, c3]] = qu15 ((qp12 r6 c0 c1 c2 c3).getD default) := (rfl)
theorem TA6 : T6.sp.alias = false := (rfl)
def tb6 : Fns := lk [(22, T22.sp), (23, T23.sp), (24, T24.sp), (25, T25.sp), (26, T26.sp)]
theorem tb6_ok : FnsOk Tryz.prog tb6 := .cons f22 (.cons f23 (.cons f24 (.cons f25 (.cons f26 (FnsOk.nil)))))
theorem tb6_22 : tb6 22 = some T22.sp := rfl
theorem tb6_23 : tb6 23 = some T23.sp := rfl
theorem tb6_24 : tb6 24 = some T24.sp := rfl
theorem tb6_25 : tb6 25 = some T25.sp := rfl
theorem tb6_26 : tb6 26 = some T26.sp := rfl
theorem lt6_0 : (IntKind.i64.wrap (0 + 1)) = 1 := by first | rfl | decide | simp
attribute [go_sem] TP6 TR6 TA6
section
attribute [local go_sem] T6 tb6_22 tb6_23 tb6_24 tb6_25 tb6_26 Tryz.results6 lt6_0
theorem v6 : Valid Tryz.prog 6 T6.sp := by
 refine valid_t (fn := Tryz.f6) (n := 35) ty_ok tb6_ok Tryz.func6 rfl Tryz.ntmps6 ?_
 rintro ⟨x1, x2, x3, x0⟩ hx
 obtain ⟨r, hr⟩ := oE (show (r6 x1 x2 x3 x0).isSome = true from hx)
 have hres : T6.res (x1, x2, x3, x0) = qu15 r := by simp only [T6, mkT, hr, oG]
 refine ⟨nL rfl, fun stop S => ?_⟩
 rw [hres] at S
 unfold r6 at hr
 refine S.gx [] ?_
 obtain ⟨v1, hv1, hr⟩ := of_bind0 hr
 obtain ⟨hg10, hr⟩ := of_guard0 hr
 obtain ⟨v2, hv2, hr⟩ := of_bind0 hr
 obtain ⟨hg11, hr⟩ := of_guard0 hr
 obtain ⟨v3, hv3, hr⟩ := of_bind0 hr
 obtain ⟨v4, hv4, hr⟩ := of_bind0 hr
 try simp only [hv1, hv2, hv3, hv4, Option.getD_some, Option.isSome_some, true_and, and_assoc]
 repeat refine gA ?_
 refine S.sees [3, 20, 21, 22] [] [(18, 18)] ?_ (Stop.iter S (fun s1 => ⟨[(3, .c (.own 18)), (20, .c (.d (encF 1 d_LIIE x0))), (21, .c (.d (.int .i64 (x0.length : Int)))), (22, .c (.d (.int .i64 s1.1)))], [], [(18, .owned (encF 1 d_S s1.2))]⟩) (b6_1 x0) (fun q => q = r) hr rfl ?_)
 ·exact lf
 ·intro s1 hr
  unfold b6_1 at hr
  refine S.gx [] ?_
  repeat refine gA ?_
  refine ⟨?_, ?_⟩ <;> intro hc
  ·have hr := ifP1 hr hc
   obtain ⟨hg7, hr⟩ := of_guard1 hr
   obtain ⟨v5, hv5, hr⟩ := of_bind1 hr
   obtain ⟨v6, hv6, hr⟩ := of_bind1 hr
   obtain ⟨hg8, hr⟩ := of_guard1 hr
   try simp only [hv5, hv6, Option.getD_some, Option.isSome_some, true_and, and_assoc]
   repeat refine gA ?_
   refine S.sees [3, 20, 21, 22] [] [(31, 18)] ?_ hr
   exact lf
  ·have hr := ifN1 hr hc
   repeat refine gA ?_
   have hr := of_out0 hr
   obtain ⟨v9, hv9, hr⟩ := of_bind0 hr
   try simp only [hv9, oG, oI, true_and, and_assoc]
   repeat refine gA ?_
   cases hr
   exact lf
theorem f6 : FnFact Tryz.prog 6 T6.sp := ⟨⟨Tryz.f6, Tryz.func6, by decide, rfl⟩, v6⟩
end

/- internal/stringslite.Index -/
def r91 (a0 : ByteArray) (a1 : ByteArray) : Option (Int) :=
  indexV a0 a1
def T91 : TSpec qA43 := mkT qE43 qd43 (fun ⟨a0, a1⟩ => r91 a0 a1) qu2 false
theorem TP91 (c0 c1 : D) : T91.sp.pre [.c c0, .c c1] = (eqvArgs (qt43 c0 c1) (qp43 qw43 c0 c1) ∧ (qp43 r91 c0 c1).isSome = true) := (rfl)
theorem TR91 (c0 c1 : D) : T91.sp.res [.c c0, .c c1] = qu2 ((qp43 r91 c0 c1).getD default) := (rfl)
theorem TA91 : T91.sp.alias = false := (rfl)
attribute [go_sem] TP91 TR91 TA91
theorem v91 : Valid Tryz.prog 91 T91.sp := lib_IndexL (fun _ => rfl) (fun _ => rfl) (fun _ => rfl) rfl
theorem f91 : FnFact Tryz.prog 91 T91.sp := ⟨⟨Tryz.f91, Tryz.func91, by decide, rfl⟩, v91⟩

/- internal/stringslite.Cut -/
def r56 (a0 : ByteArray) (a1 : ByteArray) : Option (ByteArray × ByteArray × Bool) :=
  (r91 a0 a1).bind fun v1 =>
   if (decide (v1 ≥ 0)) = true then
    if 0 ≤ 0 ∧ 0 ≤ v1 ∧ v1 ≤ (a0.size : Int) then
     if 0 ≤ IntKind.i64.wrap (v1 + (a1.size : Int)) ∧ IntKind.i64.wrap (v1 + (a1.size : Int)) ≤ (a0.size : Int) ∧ (a0.size : Int) ≤ (a0.size : Int) then
      some (a0.extract 0 v1.toNat, a0.extract (IntKind.i64.wrap (v1 + (a1.size : Int))).toNat a0.size, true)
      else none
     else none
    else some (a0, (⟨#[]⟩ : ByteArray), false)
def T56 : TSpec qA43 := mkT qE43 qd43 (fun ⟨a0, a1⟩ => r56 a0 a1) qu16 false
theorem TP56 (c0 c1 : D) : T56.sp.pre [.c c0, .c c1] = (eqvArgs (qt43 c0 c1) (qp43 qw43 c0 c1) ∧ (qp43 r56 c0 c1).isSome = true) := (rfl)
theorem TR56 (c0 c1 : D) : T56.sp.res [.c c0, .c c1] = qu16 ((qp43 r56 c0 c1).getD default) := (rfl)
theorem TA56 : T56.sp.alias = false := (rfl)
def tb56 : Fns := lk [(91, T91.sp)]
theorem tb56_ok : FnsOk Tryz.prog tb56 := .cons f91 (FnsOk.nil)
theorem tb56_91 : tb56 91 = some T91.sp := rfl
attribute [go_sem] TP56 TR56 TA56
section
attribute [local go_sem] T56 tb56_91 Tryz.results56
theorem v56 : Valid Tryz.prog 56 T56.sp := by
 refine valid_t (fn := Tryz.f56) (n := 23) ty_ok tb56_ok Tryz.func56 rfl Tryz.ntmps56 ?_
 rintro ⟨a0, a1⟩ hx
 obtain ⟨r, hr⟩ := oE (show (r56 a0 a1).isSome = true from hx)
 have hres : T56.res (a0, a1) = qu16 r := by simp only [T56, mkT, hr, oG]
 refine ⟨nL rfl, fun stop S => ?_⟩
 rw [hres] at S
 unfold r56 at hr
 refine S.gx [] ?_
 obtain ⟨v1, hv1, hr⟩ := of_bind0 hr
 try simp only [hv1, oG, oI, true_and, and_assoc]
 repeat refine gA ?_
 refine ⟨?_, ?_⟩ <;> intro hc
 ·have hr := ifP hr hc
  obtain ⟨hg2, hr⟩ := of_guard0 hr
  obtain ⟨hg3, hr⟩ := of_guard0 hr
  repeat refine gA ?_
  cases hr
  exact lf
 ·have hr := ifN hr hc
  repeat refine gA ?_
  cases hr
  exact lf
theorem f56 : FnFact Tryz.prog 56 T56.sp := ⟨⟨Tryz.f56, Tryz.func56, by decide, rfl⟩, v56⟩
end

/- strings.Cut -/
def r27 (a0 : ByteArray) (a1 : ByteArray) : Option (ByteArray × ByteArray × Bool) :=
  (r56 a0 a1).bind fun v1 =>
   some (v1.1, v1.2.1, v1.2.2)
def T27 : TSpec qA43 := mkT qE43 qd43 (fun ⟨a0, a1⟩ => r27 a0 a1) qu16 false
theorem TP27 (c0 c1 : D) : T27.sp.pre [.c c0, .c c1] = (eqvArgs (qt43 c0 c1) (qp43 qw43 c0 c1) ∧ (qp43 r27 c0 c1).isSome = true) := (rfl)
theorem TR27 (c0 c1 : D) : T27.sp.res [.c c0, .c c1] = qu16 ((qp43 r27 c0 c1).getD default) := (rfl)
theorem TA27 : T27.sp.alias = false := (rfl)
def tb27 : Fns := lk [(56, T56.sp)]
theorem tb27_ok : FnsOk Tryz.prog tb27 := .cons f56 (FnsOk.nil)
theorem tb27_56 : tb27 56 = some T56.sp := rfl
attribute [go_sem] TP27 TR27 TA27
section
attribute [local go_sem] T27 tb27_56 Tryz.results27
theorem v27 : Valid Tryz.prog 27 T27.sp := by
 refine valid_t (fn := Tryz.f27) (n := 13) ty_ok tb27_ok Tryz.func27 rfl Tryz.ntmps27 ?_
 rintro ⟨a0, a1⟩ hx
 obtain ⟨r, hr⟩ := oE (show (r27 a0 a1).isSome = true from hx)
 have hres : T27.res (a0, a1) = qu16 r := by simp only [T27, mkT, hr, oG]
 refine ⟨nL rfl, fun stop S => ?_⟩
 rw [hres] at S
 unfold r27 at hr
 refine S.gx [] ?_
 obtain ⟨v1, hv1, hr⟩ := of_bind0 hr
 try simp only [hv1, oG, oI, true_and, and_assoc]
 repeat refine gA ?_
 cases hr
 exact lf
theorem f27 : FnFact Tryz.prog 27 T27.sp := ⟨⟨Tryz.f27, Tryz.func27, by decide, rfl⟩, v27⟩
end

/- strconv.Atoi -/
def r92 (a0 : ByteArray) : Option (Int × Bool) :=
  atoiV a0
def T92 : TSpec qA44 := mkT qE44 qd44 r92 qu17 false
theorem TP92 (c0 : D) : T92.sp.pre [.c c0] = (eqvArgs (qt44 c0) (qp44 qw44 c0) ∧ (qp44 r92 c0).isSome = true) := (rfl)
theorem TR92 (c0 : D) : T92.sp.res [.c c0] = qu17 ((qp44 r92 c0).getD default) := (rfl)
theorem TA92 : T92.sp.alias = false := (rfl)
attribute [go_sem] TP92 TR92 TA92
theorem v92 : Valid Tryz.prog 92 T92.sp := lib_Atoi (fun _ => rfl) (fun _ => rfl) (fun _ => rfl) rfl
theorem f92 : FnFact Tryz.prog 92 T92.sp := ⟨⟨Tryz.f92, Tryz.func92, by decide, rfl⟩, v92⟩

/- martensite/heat.natural -/
def r57 (a0 : ByteArray) : Option (Int × Bool) :=
  (r92 a0).bind fun v1 =>
   if ((!v1.2) && (decide (v1.1 ≥ 0))) = true → (r22 v1.1).isSome = true then
    some (v1.1, (((!v1.2) && (decide (v1.1 ≥ 0))) && (decide (((r22 v1.1).getD default) = a0))) && (decide ((a0.size : Int) ≤ 7)))
    else none
def T57 : TSpec qA44 := mkT qE44 qd44 r57 qu5 false
theorem TP57 (c0 : D) : T57.sp.pre [.c c0] = (eqvArgs (qt44 c0) (qp44 qw44 c0) ∧ (qp44 r57 c0).isSome = true) := (rfl)
theorem TR57 (c0 : D) : T57.sp.res [.c c0] = qu5 ((qp44 r57 c0).getD default) := (rfl)
theorem TA57 : T57.sp.alias = false := (rfl)
def tb57 : Fns := lk [(22, T22.sp), (92, T92.sp)]
theorem tb57_ok : FnsOk Tryz.prog tb57 := .cons f22 (.cons f92 (FnsOk.nil))
theorem tb57_22 : tb57 22 = some T22.sp := rfl
theorem tb57_92 : tb57 92 = some T92.sp := rfl
attribute [go_sem] TP57 TR57 TA57
section
attribute [local go_sem] T57 tb57_22 tb57_92 Tryz.results57
theorem v57 : Valid Tryz.prog 57 T57.sp := by
 refine valid_t (fn := Tryz.f57) (n := 29) ty_ok tb57_ok Tryz.func57 rfl Tryz.ntmps57 ?_
 rintro a0 hx
 obtain ⟨r, hr⟩ := oE (show (r57 a0).isSome = true from hx)
 have hres : T57.res a0 = qu5 r := by simp only [T57, mkT, hr, oG]
 refine ⟨nL rfl, fun stop S => ?_⟩
 rw [hres] at S
 unfold r57 at hr
 refine S.gx [] ?_
 obtain ⟨v1, hv1, hr⟩ := of_bind0 hr
 obtain ⟨hg2, hr⟩ := of_guard0 hr
 try simp only [hv1, oG, oI, true_and, and_assoc]
 repeat (first | refine gG hg2 ?_ | refine gA ?_ | refine gB ?_)
 cases hr
 exact lf
theorem f57 : FnFact Tryz.prog 57 T57.sp := ⟨⟨Tryz.f57, Tryz.func57, by decide, rfl⟩, v57⟩
end

/- martensite/heat.two -/
def r28 (a0 : ByteArray) : Option (Int × Int × Bool) :=
  (r27 a0 (⟨#[32]⟩ : ByteArray)).bind fun v1 =>
   (r57 v1.1).bind fun v2 =>
    (r57 v1.2.1).bind fun v3 =>
     some (v2.1, v3.1, (v1.2.2 && v2.2) && v3.2)
def T28 : TSpec qA44 := mkT qE44 qd44 r28 qu18 false
theorem TP28 (c0 : D) : T28.sp.pre [.c c0] = (eqvArgs (qt44 c0) (qp44 qw44 c0) ∧ (qp44 r28 c0).isSome = true) := (rfl)
theorem TR28 (c0 : D) : T28.sp.res [.c c0] = qu18 ((qp44 r28 c0).getD default) := (rfl)
theorem TA28 : T28.sp.alias = false := (rfl)
def tb28 : Fns := lk [(27, T27.sp), (57, T57.sp)]
theorem tb28_ok : FnsOk Tryz.prog tb28 := .cons f27 (.cons f57 (FnsOk.nil))
theorem tb28_27 : tb28 27 = some T27.sp := rfl
theorem tb28_57 : tb28 57 = some T57.sp := rfl
attribute [go_sem] TP28 TR28 TA28
section
attribute [local go_sem] T28 tb28_27 tb28_57 Tryz.results28
theorem v28 : Valid Tryz.prog 28 T28.sp := by
 refine valid_t (fn := Tryz.f28) (n := 37) ty_ok tb28_ok Tryz.func28 rfl Tryz.ntmps28 ?_
 rintro a0 hx
 obtain ⟨r, hr⟩ := oE (show (r28 a0).isSome = true from hx)
 have hres : T28.res a0 = qu18 r := by simp only [T28, mkT, hr, oG]
 refine ⟨nL rfl, fun stop S => ?_⟩
 rw [hres] at S
 unfold r28 at hr
 refine S.gx [] ?_
 obtain ⟨v1, hv1, hr⟩ := of_bind0 hr
 obtain ⟨v2, hv2, hr⟩ := of_bind0 hr
 obtain ⟨v3, hv3, hr⟩ := of_bind0 hr
 try simp only [hv1, hv2, hv3, Option.getD_some, Option.isSome_some, true_and, and_assoc]
 repeat (first | refine gA ?_ | refine gB ?_)
 cases hr
 exact lf
theorem f28 : FnFact Tryz.prog 28 T28.sp := ⟨⟨Tryz.f28, Tryz.func28, by decide, rfl⟩, v28⟩
end

/- strings.Split -/
def r29 (a0 : ByteArray) (a1 : ByteArray) : Option ((List (ByteArray))) :=
  splitV a0 a1
def T29 : TSpec qA43 := mkT qE43 qd43 (fun ⟨a0, a1⟩ => r29 a0 a1) qu19 false
theorem TP29 (c0 c1 : D) : T29.sp.pre [.c c0, .c c1] = (eqvArgs (qt43 c0 c1) (qp43 qw43 c0 c1) ∧ (qp43 r29 c0 c1).isSome = true) := (rfl)
theorem TR29 (c0 c1 : D) : T29.sp.res [.c c0, .c c1] = qu19 ((qp43 r29 c0 c1).getD default) := (rfl)
theorem TA29 : T29.sp.alias = false := (rfl)
attribute [go_sem] TP29 TR29 TA29
theorem v29 : Valid Tryz.prog 29 T29.sp := lib_Split (fun _ => rfl) (fun _ => rfl) (fun _ => rfl) rfl
theorem f29 : FnFact Tryz.prog 29 T29.sp := ⟨⟨Tryz.f29, Tryz.func29, by decide, rfl⟩, v29⟩

/- strings.Index -/
def r95 (a0 : ByteArray) (a1 : ByteArray) : Option (Int) :=
  indexV a0 a1
def T95 : TSpec qA43 := mkT qE43 qd43 (fun ⟨a0, a1⟩ => r95 a0 a1) qu2 false
theorem TP95 (c0 c1 : D) : T95.sp.pre [.c c0, .c c1] = (eqvArgs (qt43 c0 c1) (qp43 qw43 c0 c1) ∧ (qp43 r95 c0 c1).isSome = true) := (rfl)
theorem TR95 (c0 c1 : D) : T95.sp.res [.c c0, .c c1] = qu2 ((qp43 r95 c0 c1).getD default) := (rfl)
theorem TA95 : T95.sp.alias = false := (rfl)
attribute [go_sem] TP95 TR95 TA95
theorem v95 : Valid Tryz.prog 95 T95.sp := lib_Index (fun _ => rfl) (fun _ => rfl) (fun _ => rfl) rfl
theorem f95 : FnFact Tryz.prog 95 T95.sp := ⟨⟨Tryz.f95, Tryz.func95, by decide, rfl⟩, v95⟩

/- martensite/heat.parsed -/
def b30_1 : (ByteArray × (List (Int × Int))) → Ctl (ByteArray × (List (Int × Int))) ((List (Int × Int)) × Bool) := fun s1 =>
  bindC (r95 s1.1 (⟨#[44]⟩ : ByteArray)) fun v1 =>
   if (decide (v1 < 0)) = true then
    .out ((r28 s1.1).bind fun v2 =>
     if (!v2.2.2) = true then
      some ([], false)
      else if (s1.2.length + 1) * 16 ≤ 140737488355328 ∧ s1.2.length + 1 ≤ 9223372036854775807 then
       some (s1.2 ++ [(v2.1, v2.2.1)], true)
       else none)
    else if 0 ≤ 0 ∧ 0 ≤ IntKind.i64.wrap (v1 + 0) ∧ IntKind.i64.wrap (v1 + 0) ≤ (s1.1.size : Int) then
     bindC (r28 (s1.1.extract 0 (IntKind.i64.wrap (v1 + 0)).toNat)) fun v4 =>
      if (!v4.2.2) = true then
       .out (some ([], false))
       else if (s1.2.length + 1) * 16 ≤ 140737488355328 ∧ s1.2.length + 1 ≤ 9223372036854775807 then
        if 0 ≤ IntKind.i64.wrap (v1 + 1) ∧ IntKind.i64.wrap (v1 + 1) ≤ (s1.1.size : Int) ∧ (s1.1.size : Int) ≤ (s1.1.size : Int) then
         .next (s1.1.extract (IntKind.i64.wrap (v1 + 1)).toNat s1.1.size, s1.2 ++ [(v4.1, v4.2.1)])
         else .out none
        else .out none
     else .out none
def r30 (a0 : ByteArray) : Option ((List (Int × Int)) × Bool) :=
  if (decide (a0 = (⟨#[]⟩ : ByteArray))) = true then
   some ([], true)
   else iterC (b30_1) 1000000000 (a0, [])
def T30 : TSpec qA44 := mkT qE44 qd44 r30 qu20 false
theorem TP30 (c0 : D) : T30.sp.pre [.c c0] = (eqvArgs (qt44 c0) (qp44 qw44 c0) ∧ (qp44 r30 c0).isSome = true) := (rfl)
theorem TR30 (c0 : D) : T30.sp.res [.c c0] = qu20 ((qp44 r30 c0).getD default) := (rfl)
theorem TA30 : T30.sp.alias = false := (rfl)
def tb30 : Fns := lk [(28, T28.sp), (95, T95.sp)]
theorem tb30_ok : FnsOk Tryz.prog tb30 := .cons f28 (.cons f95 (FnsOk.nil))
theorem tb30_28 : tb30 28 = some T28.sp := rfl
theorem tb30_95 : tb30 95 = some T95.sp := rfl
theorem lt30_0 : (((#[44] : Array UInt8).size : Int)) = 1 := by first | rfl | decide | simp
theorem lt30_1 : ((((1 : Int)) == 0)) = false := by first | rfl | decide | simp
attribute [go_sem] TP30 TR30 TA30
section
attribute [local go_sem] T30 tb30_28 tb30_95 Tryz.results30 Tryz.results59 Tryz.results96 Tryz.results118 lt30_0 lt30_1
theorem v30 : Valid Tryz.prog 30 T30.sp := by
 refine valid_t (fn := Tryz.f30) (n := 25) ty_ok tb30_ok Tryz.func30 rfl Tryz.ntmps30 ?_
 rintro a0 hx
 obtain ⟨r, hr⟩ := oE (show (r30 a0).isSome = true from hx)
 have hres : T30.res a0 = qu20 r := by simp only [T30, mkT, hr, oG]
 refine ⟨nL rfl, fun stop S => ?_⟩
 rw [hres] at S
 unfold r30 at hr
 refine S.gx [4] ?_
 repeat refine gA ?_
 refine ⟨?_, ?_⟩ <;> intro hc
 ·have hr := ifP hr hc
  repeat refine gA ?_
  cases hr
  exact lf
 ·have hr := ifN hr hc
  repeat refine gA ?_
  refine S.inl 1 [2, 3, 4] [] Tryz.func59 (by decide) rfl Tryz.ntmps59 (fun cx e => drawn_ok ty_ok tb30_ok cx e) (some 11) rfl rfl rfl rfl (nL rfl) (nL rfl) ?_
  refine gs ?_
  repeat refine gA ?_
  intro stop1 S1
  refine S1.gx [1] ?_
  repeat refine gA ?_
  refine S1.inl 2 [] [] Tryz.func96 (by decide) rfl Tryz.ntmps96 (fun cx e => drawn_ok ty_ok tb30_ok cx e) (some 7) rfl rfl rfl rfl (nL rfl) (nL rfl) ?_
  refine gs ?_
  repeat refine gA ?_
  intro stop2 S2
  refine S2.gx [] ?_
  repeat refine gA ?_
  refine S1.gx [1] ?_
  repeat refine gA ?_
  refine S.gx [4] ?_
  repeat refine gA ?_
  refine S.range [2, 3, 4] Tryz.func118 (by decide) rfl Tryz.ntmps118 Tryz.results118 (fun cx e => drawn_ok ty_ok tb30_ok cx e) (fun cx e => drawn_ok ty_ok tb30_ok cx e) (by decide) rfl rfl (nL rfl) ?_
  intro l1 stop1 stopJ1 S1 SJ1 Y1
  refine S1.gx [3, 8, 10] ?_
  repeat refine gA ?_
  refine S1.own0b 4 0 2000400 2 rfl rfl (nL rfl) rfl ?_
  refine S1.sees [0, 1, 2, 3] [(100004, 100004), (100003, 100003), (5, 5), (2, 2), (3, 3), (4, 4)] [(2000400, 2000400)] ?_ (Stop.iter S1 (fun s1 => ⟨[(0, .c (.yld l1)), (1, .c (.ref 100004 0)), (2, .c (.ref 100003 0)), (3, .c (.ref 5 0))], [(100004, [.d (.str (⟨#[44]⟩ : ByteArray))]), (100003, [.d (.str s1.1)]), (5, [.d (.int .i64 0)]), (2, [.nils]), (3, [.d (.bool false)]), (4, [.own 2000400])], [(2000400, .owned (encF 2 d_II s1.2))]⟩) (b30_1) (fun q => q = r) hr rfl ?_)
  ·exact lf
  ·intro s1 hr
   unfold b30_1 at hr
   refine S1.gx [3, 8, 10] ?_
   obtain ⟨v1, hv1, hr⟩ := of_bind1 hr
   try simp only [hv1, oG, oI, true_and, and_assoc]
   repeat refine gA ?_
   refine ⟨?_, ?_⟩ <;> intro hc
   ·have hr := ifP1 hr hc
    repeat refine gA ?_
    have hr := of_out0 hr
    repeat refine gA ?_
    refine Y1 2 [] (some 51) rfl rfl rfl rfl (nL rfl) (by rfl) ?_
    refine gs ?_
    repeat refine gA ?_
    intro stopA2 SA2
    refine SA2.gx [] ?_
    repeat refine gA ?_
    intro stop2 S2
    refine S2.gx [4] ?_
    obtain ⟨v2, hv2, hr⟩ := of_bind0 hr
    try simp only [hv2, oG, oI, true_and, and_assoc]
    repeat refine gA ?_
    refine ⟨?_, ?_⟩ <;> intro hc
    ·have hr := ifP hr hc
     repeat refine gA ?_
     refine (SJ1 .ret).gx [3, 8, 10] ?_
     repeat refine gA ?_
     refine S.gx [4] ?_
     repeat refine gA ?_
     cases hr
     exact lf
    ·have hr := ifN hr hc
     obtain ⟨hg3, hr⟩ := of_guard0 hr
     repeat refine gA ?_
     refine S1.gx [3, 8, 10] ?_
     repeat refine gA ?_
     refine S.gx [4] ?_
     repeat refine gA ?_
     cases hr
     exact lf
   ·have hr := ifN1 hr hc
    obtain ⟨hg7, hr⟩ := of_guard1 hr
    repeat refine gA ?_
    refine Y1 2 [0, 1, 2, 3, 7] (some 41) rfl rfl rfl rfl (nL rfl) (by rfl) ?_
    refine gs ?_
    repeat refine gA ?_
    intro stopA2 SA2
    refine SA2.gx [] ?_
    repeat refine gA ?_
    intro stop2 S2
    refine S2.gx [4] ?_
    obtain ⟨v4, hv4, hr⟩ := of_bind1 hr
    try simp only [hv4, oG, oI, true_and, and_assoc]
    repeat refine gA ?_
    refine ⟨?_, ?_⟩ <;> intro hc
    ·have hr := ifP1 hr hc
     repeat refine gA ?_
     refine (SJ1 .ret).gx [3, 8, 10] ?_
     repeat refine gA ?_
     have hr := of_out0 hr
     repeat refine gA ?_
     refine S.gx [4] ?_
     repeat refine gA ?_
     cases hr
     exact lf
    ·have hr := ifN1 hr hc
     obtain ⟨hg6, hr⟩ := of_guard1 hr
     repeat refine gA ?_
     refine S1.gx [3, 8, 10] ?_
     obtain ⟨hg5, hr⟩ := of_guard1 hr
     repeat refine gA ?_
     refine S1.sees [0, 1, 2, 3] [(100004, 100004), (100003, 100003), (5, 5), (2, 2), (3, 3), (4, 4)] [(23, 2000400)] ?_ hr
     exact lf
theorem f30 : FnFact Tryz.prog 30 T30.sp := ⟨⟨Tryz.f30, Tryz.func30, by decide, rfl⟩, v30⟩
end

/- martensite/heat.ParseSetup -/
def b8_2 (s1 : Int × (List (Int × Int)) × (List ((List (Int × Int))))) (v4 : (List (Int × Int)) × Bool) : (Int × (List (Int × Int)) × (List ((List (Int × Int))))) → Ctl (Int × (List (Int × Int)) × (List ((List (Int × Int))))) (Ctl (Int × (List (Int × Int)) × (List ((List (Int × Int))))) (Int × Int × (List (Int × Int)) × (List ((List (Int × Int)))) × Int)) := fun s2 =>
  if (decide (s2.1 < (v4.1.length : Int))) = true then
   if 0 ≤ s2.1 ∧ s2.1 < (v4.1.length : Int) then
    if (s1.1 == 0) = true then
     if (s2.2.1.length + 1) * 16 ≤ 140737488355328 ∧ s2.2.1.length + 1 ≤ 9223372036854775807 then
      .next (IntKind.i64.wrap (s2.1 + 1), s2.2.1 ++ [((v4.1.getD s2.1.toNat default).1, (v4.1.getD s2.1.toNat default).2)], s2.2.2)
      else .out none
     else if 0 ≤ IntKind.i64.wrap (s1.1 - 1) ∧ IntKind.i64.wrap (s1.1 - 1) < (s2.2.2.length : Int) then
      if ((s2.2.2.getD (IntKind.i64.wrap (s1.1 - 1)).toNat default).length + 1) * 16 ≤ 140737488355328 ∧ (s2.2.2.getD (IntKind.i64.wrap (s1.1 - 1)).toNat default).length + 1 ≤ 9223372036854775807 then
       if 0 ≤ IntKind.i64.wrap (s1.1 - 1) ∧ IntKind.i64.wrap (s1.1 - 1) < (s2.2.2.length : Int) then
        .next (IntKind.i64.wrap (s2.1 + 1), s2.2.1, s2.2.2.set (IntKind.i64.wrap (s1.1 - 1)).toNat ((s2.2.2.getD (IntKind.i64.wrap (s1.1 - 1)).toNat default) ++ [((v4.1.getD s2.1.toNat default).1, (v4.1.getD s2.1.toNat default).2)]))
        else .out none
       else .out none
      else .out none
    else .out none
   else .out (some (.next (IntKind.i64.wrap (s1.1 + 1), s2.2.1, s2.2.2)))
def b8_3 (s1 : Int × (List (Int × Int)) × (List ((List (Int × Int))))) (v4 : (List (Int × Int)) × Bool) : (Int × (List (Int × Int)) × (List ((List (Int × Int))))) → Ctl (Int × (List (Int × Int)) × (List ((List (Int × Int))))) (Ctl (Int × (List (Int × Int)) × (List ((List (Int × Int))))) (Int × Int × (List (Int × Int)) × (List ((List (Int × Int)))) × Int)) := fun s3 =>
  if (decide (s3.1 < (v4.1.length : Int))) = true then
   if 0 ≤ s3.1 ∧ s3.1 < (v4.1.length : Int) then
    if (s1.1 == 0) = true then
     if (s3.2.1.length + 1) * 16 ≤ 140737488355328 ∧ s3.2.1.length + 1 ≤ 9223372036854775807 then
      .next (IntKind.i64.wrap (s3.1 + 1), s3.2.1 ++ [((v4.1.getD s3.1.toNat default).1, (v4.1.getD s3.1.toNat default).2)], s3.2.2)
      else .out none
     else if 0 ≤ IntKind.i64.wrap (s1.1 - 1) ∧ IntKind.i64.wrap (s1.1 - 1) < (s3.2.2.length : Int) then
      if ((s3.2.2.getD (IntKind.i64.wrap (s1.1 - 1)).toNat default).length + 1) * 16 ≤ 140737488355328 ∧ (s3.2.2.getD (IntKind.i64.wrap (s1.1 - 1)).toNat default).length + 1 ≤ 9223372036854775807 then
       if 0 ≤ IntKind.i64.wrap (s1.1 - 1) ∧ IntKind.i64.wrap (s1.1 - 1) < (s3.2.2.length : Int) then
        .next (IntKind.i64.wrap (s3.1 + 1), s3.2.1, s3.2.2.set (IntKind.i64.wrap (s1.1 - 1)).toNat ((s3.2.2.getD (IntKind.i64.wrap (s1.1 - 1)).toNat default) ++ [((v4.1.getD s3.1.toNat default).1, (v4.1.getD s3.1.toNat default).2)]))
        else .out none
       else .out none
      else .out none
    else .out none
   else .out (some (.next (IntKind.i64.wrap (s1.1 + 1), s3.2.1, s3.2.2)))
def b8_1 (v2 : Int × Int × Bool) (v3 : (List (ByteArray))) : (Int × (List (Int × Int)) × (List ((List (Int × Int))))) → Ctl (Int × (List (Int × Int)) × (List ((List (Int × Int))))) (Int × Int × (List (Int × Int)) × (List ((List (Int × Int)))) × Int) := fun s1 =>
  if (decide (s1.1 < (v3.length : Int))) = true then
   if 0 ≤ s1.1 ∧ s1.1 < (v3.length : Int) then
    bindC (r30 (v3.getD s1.1.toNat default)) fun v4 =>
     if (!v4.2) = true then
      .out (some (0, 0, [], [], 7))
      else if (decide (s1.1 > 0)) = true then
       if (s1.2.2.length + 1) * 24 ≤ 140737488355328 ∧ s1.2.2.length + 1 ≤ 9223372036854775807 then
        (iterC (b8_2 s1 v4) 1000000000 (0, s1.2.1, s1.2.2 ++ [[]])).getD (.out none)
        else .out none
       else (iterC (b8_3 s1 v4) 1000000000 (0, s1.2.1, s1.2.2)).getD (.out none)
    else .out none
   else .out ((r31 v2.1 v2.2.1 s1.2.1 s1.2.2).bind fun v17 =>
    if (v17.2 != 0) = true then
     some (0, 0, [], [], v17.2)
     else some (v2.1, v2.2.1, s1.2.1, s1.2.2, 0))
def r8 (a0 : ByteArray) : Option (Int × Int × (List (Int × Int)) × (List ((List (Int × Int)))) × Int) :=
  if (decide ((a0.size : Int) > 60000)) = true then
   some (0, 0, [], [], 8)
   else (r27 a0 (⟨#[59]⟩ : ByteArray)).bind fun v1 =>
    (r28 v1.1).bind fun v2 =>
     if ((!v1.2.2) || (!v2.2.2)) = true then
      some (0, 0, [], [], 7)
      else (r29 v1.2.1 (⟨#[59]⟩ : ByteArray)).bind fun v3 =>
       iterC (b8_1 v2 v3) 1000000000 (0, [], [])
def T8 : TSpec qA44 := mkT qE44 qd44 r8 qu21 true
theorem TP8 (c0 : D) : T8.sp.pre [.c c0] = (eqvArgs (qt44 c0) (qp44 qw44 c0) ∧ (qp44 r8 c0).isSome = true) := (rfl)
theorem TR8 (c0 : D) : T8.sp.res [.c c0] = qu21 ((qp44 r8 c0).getD default) := (rfl)
theorem TA8 : T8.sp.alias = true := (rfl)
def tb8 : Fns := lk [(27, T27.sp), (28, T28.sp), (29, T29.sp), (30, T30.sp), (31, T31.sp)]
theorem tb8_ok : FnsOk Tryz.prog tb8 := .cons f27 (.cons f28 (.cons f29 (.cons f30 (.cons f31 (FnsOk.nil)))))
theorem tb8_27 : tb8 27 = some T27.sp := rfl
theorem tb8_28 : tb8 28 = some T28.sp := rfl
theorem tb8_29 : tb8 29 = some T29.sp := rfl
theorem tb8_30 : tb8 30 = some T30.sp := rfl
theorem tb8_31 : tb8 31 = some T31.sp := rfl
theorem lt8_0 : (decide ((0 : Int) > 0)) = false := by first | rfl | decide | simp
theorem lt8_1 : ((((0 : Int)) == 0)) = true := by first | rfl | decide | simp
theorem lt8_2 : (IntKind.i64.wrap (0 + 1)) = 1 := by first | rfl | decide | simp
attribute [go_sem] TP8 TR8 TA8
section
attribute [local go_sem] T8 tb8_27 tb8_28 tb8_29 tb8_30 tb8_31 Tryz.results8 lt8_0 lt8_1 lt8_2
theorem v8 : Valid Tryz.prog 8 T8.sp := by
 refine valid_t (fn := Tryz.f8) (n := 116) ty_ok tb8_ok Tryz.func8 rfl Tryz.ntmps8 ?_
 rintro a0 hx
 obtain ⟨r, hr⟩ := oE (show (r8 a0).isSome = true from hx)
 have hres : T8.res a0 = qu21 r := by simp only [T8, mkT, hr, oG]
 refine ⟨nL rfl, fun stop S => ?_⟩
 rw [hres] at S
 unfold r8 at hr
 refine S.gx [8, 24] ?_
 repeat refine gA ?_
 refine ⟨?_, ?_⟩ <;> intro hc
 ·have hr := ifP hr hc
  repeat refine gA ?_
  cases hr
  exact lf
 ·have hr := ifN hr hc
  obtain ⟨v1, hv1, hr⟩ := of_bind0 hr
  obtain ⟨v2, hv2, hr⟩ := of_bind0 hr
  try simp only [hv1, hv2, Option.getD_some, Option.isSome_some, true_and, and_assoc]
  repeat (first | refine gA ?_ | refine gB ?_)
  refine ⟨?_, ?_⟩ <;> intro hc
  ·have hr := ifP hr hc
   repeat refine gA ?_
   cases hr
   exact lf
  ·have hr := ifN hr hc
   repeat refine gA ?_
   refine S.prune [2, 5, 9] ?_
   refine S.gx [24] ?_
   obtain ⟨v3, hv3, hr⟩ := of_bind0 hr
   try simp only [hv3, oG, oI, true_and, and_assoc]
   repeat refine gA ?_
   refine S.own0b 9 2 2000902 2 rfl rfl (nL rfl) rfl ?_
   refine S.own0b 9 3 2000903 1 rfl rfl (nL rfl) rfl ?_
   refine S.toDeep0 2000903 2 rfl rfl rfl ?_
   refine S.sees [2, 9, 46, 47, 48] [(2, 2), (9, 9)] [(2000902, 2000902), (2000903, 2000903), (46, 46)] ?_ (Stop.iter S (fun s1 => ⟨[(2, .c (.ref 2 0)), (9, .c (.ref 9 0)), (46, .c (.own 46)), (47, .c (.d (.int .i64 (v3.length : Int)))), (48, .c (.d (.int .i64 s1.1)))], [(2, [.d (.int .i64 0), .d (.int .i64 0), .nils, .nils]), (9, [.d (.int .i64 v2.1), .d (.int .i64 v2.2.1), .own 2000902, .own 2000903])], [(2000902, .owned (encF 2 d_II s1.2.1)), (2000903, .deep (encF 1 d_LIIE s1.2.2)), (46, .owned (encF 1 d_S v3))]⟩) (b8_1 v2 v3) (fun q => q = r) hr rfl ?_)
   ·exact lf
   ·intro s1 hr
    unfold b8_1 at hr
    refine S.gx [8, 24] ?_
    repeat refine gA ?_
    refine ⟨?_, ?_⟩ <;> intro hc
    ·have hr := ifP1 hr hc
     obtain ⟨hg16, hr⟩ := of_guard1 hr
     obtain ⟨v4, hv4, hr⟩ := of_bind1 hr
     try simp only [hv4, oG, oI, true_and, and_assoc]
     repeat refine gA ?_
     refine ⟨?_, ?_⟩ <;> intro hc
     ·have hr := ifP1 hr hc
      repeat refine gA ?_
      have hr := of_out0 hr
      cases hr
      exact lf
     ·have hr := ifN1 hr hc
      repeat refine gA ?_
      refine ⟨?_, ?_⟩ <;> intro hc
      ·have hr := ifP1 hr hc
       obtain ⟨hg10, hr⟩ := of_guard1 hr
       repeat refine gA ?_
       obtain ⟨q2, hq, hr⟩ := of_iter1 hr
       refine S.sees [2, 9, 10, 46, 47, 48, 68, 69, 70] [(2, 2), (9, 9)] [(46, 46), (55, 55), (2000902, 2000902), (66, 66)] ?_ (Stop.iter S (fun s2 => ⟨[(2, .c (.ref 2 0)), (9, .c (.ref 9 0)), (10, .c (.d (.int .i64 s1.1))), (46, .c (.own 46)), (47, .c (.d (.int .i64 (v3.length : Int)))), (48, .c (.d (.int .i64 s1.1))), (68, .c (.own 55)), (69, .c (.d (.int .i64 (v4.1.length : Int)))), (70, .c (.d (.int .i64 s2.1)))], [(2, [.d (.int .i64 0), .d (.int .i64 0), .nils, .nils]), (9, [.d (.int .i64 v2.1), .d (.int .i64 v2.2.1), .own 2000902, .own 66])], [(46, .owned (encF 1 d_S v3)), (55, .owned (encF 2 d_II v4.1)), (2000902, .owned (encF 2 d_II s2.2.1)), (66, .deep (encF 1 d_LIIE s2.2.2))]⟩) (b8_2 s1 v4) _ hq hr ?_)
       ·exact lf
       ·intro s2 hr
        unfold b8_2 at hr
        refine S.gx [8, 24] ?_
        repeat refine gA ?_
        refine ⟨?_, ?_⟩ <;> intro hc
        ·have hr := ifP1 hr hc
         obtain ⟨hg9, hr⟩ := of_guard1 hr
         repeat refine gA ?_
         refine ⟨?_, ?_⟩ <;> intro hc
         ·have hr := ifP1 hr hc
          obtain ⟨hg5, hr⟩ := of_guard1 hr
          repeat refine gA ?_
          refine S.sees [2, 9, 10, 46, 47, 48, 68, 69, 70] [(2, 2), (9, 9)] [(46, 46), (55, 55), (84, 2000902), (66, 66)] ?_ hr
          exact lf
         ·have hr := ifN1 hr hc
          obtain ⟨hg6, hr⟩ := of_guard1 hr
          obtain ⟨hg7, hr⟩ := of_guard1 hr
          obtain ⟨hg8, hr⟩ := of_guard1 hr
          repeat refine gA ?_
          refine S.sees [2, 9, 10, 46, 47, 48, 68, 69, 70] [(2, 2), (9, 9)] [(46, 46), (55, 55), (2000902, 2000902), (66, 66)] ?_ hr
          exact lf
        ·have hr := ifN1 hr hc
         repeat refine gA ?_
         replace hr := goodC_out hr
         repeat refine gA ?_
         refine S.sees [2, 9, 46, 47, 48] [(2, 2), (9, 9)] [(2000902, 2000902), (66, 2000903), (46, 46)] ?_ hr
         exact lf
      ·have hr := ifN1 hr hc
       repeat refine gA ?_
       obtain ⟨q3, hq, hr⟩ := of_iter1 hr
       refine S.sees [2, 9, 10, 46, 47, 48, 68, 69, 70] [(2, 2), (9, 9)] [(46, 46), (55, 55), (2000902, 2000902), (2000903, 2000903)] ?_ (Stop.iter S (fun s3 => ⟨[(2, .c (.ref 2 0)), (9, .c (.ref 9 0)), (10, .c (.d (.int .i64 s1.1))), (46, .c (.own 46)), (47, .c (.d (.int .i64 (v3.length : Int)))), (48, .c (.d (.int .i64 s1.1))), (68, .c (.own 55)), (69, .c (.d (.int .i64 (v4.1.length : Int)))), (70, .c (.d (.int .i64 s3.1)))], [(2, [.d (.int .i64 0), .d (.int .i64 0), .nils, .nils]), (9, [.d (.int .i64 v2.1), .d (.int .i64 v2.2.1), .own 2000902, .own 2000903])], [(46, .owned (encF 1 d_S v3)), (55, .owned (encF 2 d_II v4.1)), (2000902, .owned (encF 2 d_II s3.2.1)), (2000903, .deep (encF 1 d_LIIE s3.2.2))]⟩) (b8_3 s1 v4) _ hq hr ?_)
       ·exact lf
       ·intro s3 hr
        unfold b8_3 at hr
        refine S.gx [8, 24] ?_
        repeat refine gA ?_
        refine ⟨?_, ?_⟩ <;> intro hc
        ·have hr := ifP1 hr hc
         obtain ⟨hg15, hr⟩ := of_guard1 hr
         repeat refine gA ?_
         refine ⟨?_, ?_⟩ <;> intro hc
         ·have hr := ifP1 hr hc
          obtain ⟨hg11, hr⟩ := of_guard1 hr
          repeat refine gA ?_
          refine S.sees [2, 9, 10, 46, 47, 48, 68, 69, 70] [(2, 2), (9, 9)] [(46, 46), (55, 55), (84, 2000902), (2000903, 2000903)] ?_ hr
          exact lf
         ·have hr := ifN1 hr hc
          obtain ⟨hg12, hr⟩ := of_guard1 hr
          obtain ⟨hg13, hr⟩ := of_guard1 hr
          obtain ⟨hg14, hr⟩ := of_guard1 hr
          repeat refine gA ?_
          refine S.sees [2, 9, 10, 46, 47, 48, 68, 69, 70] [(2, 2), (9, 9)] [(46, 46), (55, 55), (2000902, 2000902), (2000903, 2000903)] ?_ hr
          exact lf
        ·have hr := ifN1 hr hc
         repeat refine gA ?_
         replace hr := goodC_out hr
         repeat refine gA ?_
         refine S.sees [2, 9, 46, 47, 48] [(2, 2), (9, 9)] [(2000902, 2000902), (2000903, 2000903), (46, 46)] ?_ hr
         exact lf
    ·have hr := ifN1 hr hc
     repeat refine gA ?_
     have hr := of_out0 hr
     repeat refine gA ?_
     refine S.undeep 2000903 (encF 1 d_LIIE s1.2.2) rfl ?_ ?_
     ·exact lf
     refine S.gx [8] ?_
     obtain ⟨v17, hv17, hr⟩ := of_bind0 hr
     try simp only [hv17, oG, oI, true_and, and_assoc]
     repeat refine gA ?_
     refine ⟨?_, ?_⟩ <;> intro hc
     ·have hr := ifP hr hc
      repeat refine gA ?_
      cases hr
      exact lf
     ·have hr := ifN hr hc
      repeat refine gA ?_
      cases hr
      exact lf
theorem f8 : FnFact Tryz.prog 8 T8.sp := ⟨⟨Tryz.f8, Tryz.func8, by decide, rfl⟩, v8⟩
end

/- martensite/martensitebase.Cut -/
def b32_1 (a0 : ByteArray) (a1 : Int) : ((List (ByteArray)) × Int × Int) → Ctl ((List (ByteArray)) × Int × Int) ((List (ByteArray))) := fun s1 =>
  if (decide (s1.2.2 < (a0.size : Int))) = true then
   if 0 ≤ s1.2.2 ∧ s1.2.2 < (a0.size : Int) then
    if ((byteAt a0 s1.2.2.toNat) == a1) = true then
     if 0 ≤ s1.2.1 ∧ s1.2.1 ≤ s1.2.2 ∧ s1.2.2 ≤ (a0.size : Int) then
      if (s1.1.length + 1) * 16 ≤ 140737488355328 ∧ s1.1.length + 1 ≤ 9223372036854775807 then
       .next (s1.1 ++ [a0.extract s1.2.1.toNat s1.2.2.toNat], IntKind.i64.wrap (s1.2.2 + 1), IntKind.i64.wrap (s1.2.2 + 1))
       else .out none
      else .out none
     else .next (s1.1, s1.2.1, IntKind.i64.wrap (s1.2.2 + 1))
    else .out none
   else .out (if 0 ≤ s1.2.1 ∧ s1.2.1 ≤ (a0.size : Int) ∧ (a0.size : Int) ≤ (a0.size : Int) then
    if (s1.1.length + 1) * 16 ≤ 140737488355328 ∧ s1.1.length + 1 ≤ 9223372036854775807 then
     some (s1.1 ++ [a0.extract s1.2.1.toNat a0.size])
     else none
    else none)
def r32 (a0 : ByteArray) (a1 : Int) : Option ((List (ByteArray))) :=
  iterC (b32_1 a0 a1) 1000000000 ([], 0, 0)
def T32 : TSpec qA45 := mkT qE45 qd45 (fun ⟨a0, a1⟩ => r32 a0 a1) qu19 false
theorem TP32 (c0 c1 : D) : T32.sp.pre [.c c0, .c c1] = (eqvArgs (qt45 c0 c1) (qp45 qw45 c0 c1) ∧ (qp45 r32 c0 c1).isSome = true) := (rfl)
theorem TR32 (c0 c1 : D) : T32.sp.res [.c c0, .c c1] = qu19 ((qp45 r32 c0 c1).getD default) := (rfl)
theorem TA32 : T32.sp.alias = false := (rfl)
def tb32 : Fns := lk []
theorem tb32_ok : FnsOk Tryz.prog tb32 := FnsOk.nil
theorem lt32_0 : (IntKind.i64.wrap (0 + 1)) = 1 := by first | rfl | decide | simp
attribute [go_sem] TP32 TR32 TA32
section
attribute [local go_sem] T32 Tryz.results32 lt32_0
theorem v32 : Valid Tryz.prog 32 T32.sp := by
 refine valid_t (fn := Tryz.f32) (n := 34) ty_ok tb32_ok Tryz.func32 rfl Tryz.ntmps32 ?_
 rintro ⟨a0, a1⟩ hx
 obtain ⟨r, hr⟩ := oE (show (r32 a0 a1).isSome = true from hx)
 have hres : T32.res (a0, a1) = qu19 r := by simp only [T32, mkT, hr, oG]
 refine ⟨nL rfl, fun stop S => ?_⟩
 rw [hres] at S
 unfold r32 at hr
 refine S.gx [] ?_
 repeat refine gA ?_
 refine S.own0 5 1000500 1 rfl rfl ?_
 refine S.sees [0, 1, 5, 6, 7] [] [(1000500, 1000500)] ?_ (Stop.iter S (fun s1 => ⟨[(0, .c (.d (.str a0))), (1, .c (.d (.int .u8 a1))), (5, .c (.own 1000500)), (6, .c (.d (.int .i64 s1.2.1))), (7, .c (.d (.int .i64 s1.2.2)))], [], [(1000500, .owned (encF 1 d_S s1.1))]⟩) (b32_1 a0 a1) (fun q => q = r) hr rfl ?_)
 ·exact lf
 ·intro s1 hr
  unfold b32_1 at hr
  refine S.gx [] ?_
  repeat refine gA ?_
  refine ⟨?_, ?_⟩ <;> intro hc
  ·have hr := ifP1 hr hc
   obtain ⟨hg3, hr⟩ := of_guard1 hr
   repeat refine gA ?_
   refine ⟨?_, ?_⟩ <;> intro hc
   ·have hr := ifP1 hr hc
    obtain ⟨hg1, hr⟩ := of_guard1 hr
    obtain ⟨hg2, hr⟩ := of_guard1 hr
    repeat refine gA ?_
    refine S.sees [0, 1, 5, 6, 7] [] [(25, 1000500)] ?_ hr
    exact lf
   ·have hr := ifN1 hr hc
    repeat refine gA ?_
    refine S.sees [0, 1, 5, 6, 7] [] [(1000500, 1000500)] ?_ hr
    exact lf
  ·have hr := ifN1 hr hc
   repeat refine gA ?_
   have hr := of_out0 hr
   obtain ⟨hg4, hr⟩ := of_guard0 hr
   obtain ⟨hg5, hr⟩ := of_guard0 hr
   repeat refine gA ?_
   cases hr
   exact lf
theorem f32 : FnFact Tryz.prog 32 T32.sp := ⟨⟨Tryz.f32, Tryz.func32, by decide, rfl⟩, v32⟩
end

/- martensite/martensitebase.Number -/
def b62_1 (a0 : ByteArray) : (Int × Int) → Ctl (Int × Int) (Int × Bool) := fun s1 =>
  if (decide (s1.2 < (a0.size : Int))) = true then
   if 0 ≤ s1.2 ∧ s1.2 < (a0.size : Int) then
    if (!(decide ((byteAt a0 s1.2.toNat) < 48))) = true → 0 ≤ s1.2 ∧ s1.2 < (a0.size : Int) then
     if ((decide ((byteAt a0 s1.2.toNat) < 48)) || (decide ((byteAt a0 s1.2.toNat) > 57))) = true then
      .out (some (0, false))
      else if 0 ≤ s1.2 ∧ s1.2 < (a0.size : Int) then
       .next (IntKind.i64.wrap ((IntKind.i64.wrap (10 * s1.1)) + (IntKind.i64.wrap (IntKind.u8.wrap ((byteAt a0 s1.2.toNat) - 48)))), IntKind.i64.wrap (s1.2 + 1))
       else .out none
     else .out none
    else .out none
   else .out (some (IntKind.i64.wrap (0 - s1.1), true))
def b62_2 (a0 : ByteArray) : (Int × Int) → Ctl (Int × Int) (Int × Bool) := fun s2 =>
  if (decide (s2.2 < (a0.size : Int))) = true then
   if 0 ≤ s2.2 ∧ s2.2 < (a0.size : Int) then
    if (!(decide ((byteAt a0 s2.2.toNat) < 48))) = true → 0 ≤ s2.2 ∧ s2.2 < (a0.size : Int) then
     if ((decide ((byteAt a0 s2.2.toNat) < 48)) || (decide ((byteAt a0 s2.2.toNat) > 57))) = true then
      .out (some (0, false))
      else if 0 ≤ s2.2 ∧ s2.2 < (a0.size : Int) then
       .next (IntKind.i64.wrap ((IntKind.i64.wrap (10 * s2.1)) + (IntKind.i64.wrap (IntKind.u8.wrap ((byteAt a0 s2.2.toNat) - 48)))), IntKind.i64.wrap (s2.2 + 1))
       else .out none
     else .out none
    else .out none
   else .out (some (s2.1, true))
def r62 (a0 : ByteArray) (a1 : Int) : Option (Int × Bool) :=
  if (decide ((a0.size : Int) > 0)) = true → 0 ≤ 0 ∧ 0 < (a0.size : Int) then
   if ((decide ((a0.size : Int) > 0)) && ((byteAt a0 0) == 45)) = true then
    if (!(((a0.size : Int) == 1) || (decide ((IntKind.i64.wrap ((a0.size : Int) - 1)) > a1)))) = true → 0 ≤ 1 ∧ 1 < (a0.size : Int) then
     if ((((a0.size : Int) == 1) || (decide ((IntKind.i64.wrap ((a0.size : Int) - 1)) > a1))) || (((byteAt a0 1) == 48) && (decide ((a0.size : Int) > 1)))) = true then
      some (0, false)
      else iterC (b62_1 a0) 1000000000 (0, 1)
     else none
    else if (!(((a0.size : Int) == 0) || (decide ((IntKind.i64.wrap ((a0.size : Int) - 0)) > a1)))) = true → 0 ≤ 0 ∧ 0 < (a0.size : Int) then
     if ((((a0.size : Int) == 0) || (decide ((IntKind.i64.wrap ((a0.size : Int) - 0)) > a1))) || (((byteAt a0 0) == 48) && (decide ((a0.size : Int) > 1)))) = true then
      some (0, false)
      else iterC (b62_2 a0) 1000000000 (0, 0)
     else none
   else none
def T62 : TSpec qA46 := mkT qE46 qd46 (fun ⟨a0, a1⟩ => r62 a0 a1) qu5 false
theorem TP62 (c0 c1 : D) : T62.sp.pre [.c c0, .c c1] = (eqvArgs (qt46 c0 c1) (qp46 qw46 c0 c1) ∧ (qp46 r62 c0 c1).isSome = true) := (rfl)
theorem TR62 (c0 c1 : D) : T62.sp.res [.c c0, .c c1] = qu5 ((qp46 r62 c0 c1).getD default) := (rfl)
theorem TA62 : T62.sp.alias = false := (rfl)
def tb62 : Fns := lk []
theorem tb62_ok : FnsOk Tryz.prog tb62 := FnsOk.nil
theorem lt62_0 : (IntKind.i64.wrap (1 + 1)) = 2 := by first | rfl | decide | simp
theorem lt62_1 : ((((1 : Int)) == 1)) = true := by first | rfl | decide | simp
theorem lt62_2 : (IntKind.i64.wrap (0 + 1)) = 1 := by first | rfl | decide | simp
theorem lt62_3 : ((((0 : Int)) == 1)) = false := by first | rfl | decide | simp
attribute [go_sem] TP62 TR62 TA62
section
attribute [local go_sem] T62 Tryz.results62 lt62_0 lt62_1 lt62_2 lt62_3
theorem v62 : Valid Tryz.prog 62 T62.sp := by
 refine valid_t (fn := Tryz.f62) (n := 70) ty_ok tb62_ok Tryz.func62 rfl Tryz.ntmps62 ?_
 rintro ⟨a0, a1⟩ hx
 obtain ⟨r, hr⟩ := oE (show (r62 a0 a1).isSome = true from hx)
 have hres : T62.res (a0, a1) = qu5 r := by simp only [T62, mkT, hr, oG]
 refine ⟨nL rfl, fun stop S => ?_⟩
 rw [hres] at S
 unfold r62 at hr
 refine S.gx [5, 6] ?_
 obtain ⟨hg9, hr⟩ := of_guard0 hr
 repeat (first | refine gG hg9 ?_ | refine gA ?_ | refine gB ?_)
 refine ⟨?_, ?_⟩ <;> intro hc
 ·have hr := ifP hr hc
  obtain ⟨hg4, hr⟩ := of_guard0 hr
  repeat (first | refine gG hg4 ?_ | refine gA ?_ | refine gB ?_)
  refine ⟨?_, ?_⟩ <;> intro hc
  ·have hr := ifP hr hc
   repeat refine gA ?_
   refine S.prune [] ?_
   refine S.gx [6] ?_
   repeat refine gA ?_
   cases hr
   exact lf
  ·have hr := ifN hr hc
   repeat refine gA ?_
   refine S.prune [0, 6] ?_
   refine S.gx [5] ?_
   repeat refine gA ?_
   refine S.sees [0, 6, 7, 8] [] [] ?_ (Stop.iter S (fun s1 => ⟨[(0, .c (.d (.str a0))), (6, .c (.d (.int .i64 1))), (7, .c (.d (.int .i64 s1.1))), (8, .c (.d (.int .i64 s1.2)))], [], []⟩) (b62_1 a0) (fun q => q = r) hr rfl ?_)
   ·exact lf
   ·intro s1 hr
    unfold b62_1 at hr
    refine S.gx [5, 6] ?_
    repeat refine gA ?_
    refine ⟨?_, ?_⟩ <;> intro hc
    ·have hr := ifP1 hr hc
     obtain ⟨hg2, hr⟩ := of_guard1 hr
     obtain ⟨hg3, hr⟩ := of_guard1 hr
     repeat (first | refine gG hg3 ?_ | refine gA ?_ | refine gB ?_)
     refine ⟨?_, ?_⟩ <;> intro hc
     ·have hr := ifP1 hr hc
      repeat refine gA ?_
      have hr := of_out0 hr
      cases hr
      exact lf
     ·have hr := ifN1 hr hc
      obtain ⟨hg1, hr⟩ := of_guard1 hr
      repeat refine gA ?_
      refine S.sees [0, 6, 7, 8] [] [] ?_ hr
      exact lf
    ·have hr := ifN1 hr hc
     repeat refine gA ?_
     have hr := of_out0 hr
     repeat refine gA ?_
     cases hr
     exact lf
 ·have hr := ifN hr hc
  obtain ⟨hg8, hr⟩ := of_guard0 hr
  repeat (first | refine gG hg8 ?_ | refine gA ?_ | refine gB ?_)
  refine ⟨?_, ?_⟩ <;> intro hc
  ·have hr := ifP hr hc
   repeat refine gA ?_
   refine S.prune [] ?_
   refine S.gx [6] ?_
   repeat refine gA ?_
   cases hr
   exact lf
  ·have hr := ifN hr hc
   repeat refine gA ?_
   refine S.prune [0, 6] ?_
   refine S.gx [5] ?_
   repeat refine gA ?_
   refine S.sees [0, 6, 7, 8] [] [] ?_ (Stop.iter S (fun s2 => ⟨[(0, .c (.d (.str a0))), (6, .c (.d (.int .i64 0))), (7, .c (.d (.int .i64 s2.1))), (8, .c (.d (.int .i64 s2.2)))], [], []⟩) (b62_2 a0) (fun q => q = r) hr rfl ?_)
   ·exact lf
   ·intro s2 hr
    unfold b62_2 at hr
    refine S.gx [5, 6] ?_
    repeat refine gA ?_
    refine ⟨?_, ?_⟩ <;> intro hc
    ·have hr := ifP1 hr hc
     obtain ⟨hg6, hr⟩ := of_guard1 hr
     obtain ⟨hg7, hr⟩ := of_guard1 hr
     repeat (first | refine gG hg7 ?_ | refine gA ?_ | refine gB ?_)
     refine ⟨?_, ?_⟩ <;> intro hc
     ·have hr := ifP1 hr hc
      repeat refine gA ?_
      have hr := of_out0 hr
      cases hr
      exact lf
     ·have hr := ifN1 hr hc
      obtain ⟨hg5, hr⟩ := of_guard1 hr
      repeat refine gA ?_
      refine S.sees [0, 6, 7, 8] [] [] ?_ hr
      exact lf
    ·have hr := ifN1 hr hc
     repeat refine gA ?_
     have hr := of_out0 hr
     repeat refine gA ?_
     cases hr
     exact lf
theorem f62 : FnFact Tryz.prog 62 T62.sp := ⟨⟨Tryz.f62, Tryz.func62, by decide, rfl⟩, v62⟩
end
end Go.Proofs.YtefijdjbhjdhdaaGreatDoor

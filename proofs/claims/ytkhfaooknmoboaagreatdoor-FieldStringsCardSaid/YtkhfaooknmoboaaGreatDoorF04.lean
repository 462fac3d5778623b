/- Contracts of functions, written by wip/dec. -/
import Derived.Test.YtkhfaooknmoboaaGreatDoorF00
import Derived.Test.YtkhfaooknmoboaaGreatDoorF03
set_option linter.unusedVariables false
set_option linter.unusedSimpArgs false
set_option maxHeartbeats 4000000
set_option maxRecDepth 20000
namespace Go.Proofs.YtkhfaooknmoboaaGreatDoor
open Go.Abs
abbrev qA24 := Int × (List (Int × Int × Int)) × Int × (List (Int × Int × Int))
def qw24 (a0 : Int) (a1 : List (Int × Int × Int)) (a2 : Int) (a3 : List (Int × Int × Int)) : List Arg := [.agg [.int .i64 a0, encF 3 d_III a1], .agg [.int .i64 a2, encF 3 d_III a3]]
def qE24 : qA24 → List Arg := fun ⟨a0, a1, a2, a3⟩ => qw24 a0 a1 a2 a3
def qd24 (a : List Arg) : qA24 := (dInt (aCell a 0 0), decF g_III (aCell a 0 1), dInt (aCell a 1 0), decF g_III (aCell a 1 1))
def qp24 {β : Type} (f : Int → (List (Int × Int × Int)) → Int → (List (Int × Int × Int)) → β) (c0 c1 c2 c3 : D) : β := f (dInt c0) (decF g_III c1) (dInt c2) (decF g_III c3)
def qt24 (c0 c1 c2 c3 : D) : List Arg := [.agg [c0, c1], .agg [c2, c3]]
attribute [go_sem] qw24 qp24 qt24 qE24
/- martensite/martensitebase.Within -/
def r57 (a0 : Int) (a1 : Int) (a2 : Int) : Option (Bool) :=
  some ((decide (a1 ≤ a0)) && (decide (a0 ≤ a2)))
def T57 : TSpec qA1 := mkT qE1 qd1 (fun ⟨a0, a1, a2⟩ => r57 a0 a1 a2) qu2 false
theorem TP57 (c0 c1 c2 : D) : T57.sp.pre [.c c0, .c c1, .c c2] = (eqvArgs (qt1 c0 c1 c2) (qp1 qw1 c0 c1 c2) ∧ (qp1 r57 c0 c1 c2).isSome = true) := (rfl)
theorem TR57 (c0 c1 c2 : D) : T57.sp.res [.c c0, .c c1, .c c2] = qu2 ((qp1 r57 c0 c1 c2).getD default) := (rfl)
theorem TA57 : T57.sp.alias = false := (rfl)
def tb57 : Fns := lk []
theorem tb57_ok : FnsOk Tryz.prog tb57 := FnsOk.nil
attribute [go_sem] TP57 TR57 TA57
section
attribute [local go_sem] T57 Tryz.results57
theorem v57 : Valid Tryz.prog 57 T57.sp := by
 refine valid_t (fn := Tryz.f57) (n := 15) ty_ok tb57_ok Tryz.func57 rfl Tryz.ntmps57 ?_
 rintro ⟨a0, a1, a2⟩ hx
 obtain ⟨r, hr⟩ := oE (show (r57 a0 a1 a2).isSome = true from hx)
 have hres : T57.res (a0, a1, a2) = qu2 r := by simp only [T57, mkT, hr, oG]
 refine ⟨nL rfl, fun stop S => ?_⟩
 rw [hres] at S
 unfold r57 at hr
 refine S.gx [] ?_
 repeat (first | refine gA ?_ | refine gB ?_)
 cases hr
 exact lf
theorem f57 : FnFact Tryz.prog 57 T57.sp := ⟨⟨Tryz.f57, Tryz.func57, by decide, rfl⟩, v57⟩
end

/- martensite/martensiteref02.CheckLadder -/
def b30_1 (x0 : List (Int × Int × Int)) : (Int) → Ctl (Int) (Int × Int) := fun s1 =>
  if (decide (s1 < (x0.length : Int))) = true then
   if 0 ≤ s1 ∧ s1 < (x0.length : Int) then
    bindC (r57 ((x0.getD s1.toNat default).1) 1 4) fun v2 =>
     if (!(!v2)) = true → (r57 ((x0.getD s1.toNat default).2.1) 1 4).isSome = true then
      if (!((!v2) || (!((r57 ((x0.getD s1.toNat default).2.1) 1 4).getD default)))) = true → (r57 ((x0.getD s1.toNat default).2.2) 1 4).isSome = true then
       if (((!v2) || (!((r57 ((x0.getD s1.toNat default).2.1) 1 4).getD default))) || (!((r57 ((x0.getD s1.toNat default).2.2) 1 4).getD default))) = true then
        .out (some (s1, 2))
        else if (decide (((x0.getD s1.toNat default).2.2) > ((x0.getD s1.toNat default).2.1))) = true then
         .out (some (s1, 9))
         else .next (IntKind.i64.wrap (s1 + 1))
       else .out none
      else .out none
    else .out none
   else .out (some (0, 0))
def r30 (x1 : Int) (x0 : List (Int × Int × Int)) : Option (Int × Int) :=
  (r57 x1 1 20).bind fun v1 =>
   if (!v1) = true then
    some (0, 2)
    else if ((x0.length : Int) == 0) = true then
     some (0, 10)
     else if (decide ((x0.length : Int) > 4)) = true then
      some (0, 8)
      else iterC (b30_1 x0) 1000000000 0
def T30 : TSpec qA5 := mkT qE5 qd5 (fun ⟨x1, x0⟩ => r30 x1 x0) qu4 false
theorem TP30 (c0 c1 : D) : T30.sp.pre [.agg [c0, c1]] = (eqvArgs (qt5 c0 c1) (qp5 qw5 c0 c1) ∧ (qp5 r30 c0 c1).isSome = true) := (rfl)
theorem TR30 (c0 c1 : D) : T30.sp.res [.agg [c0, c1]] = qu4 ((qp5 r30 c0 c1).getD default) := (rfl)
theorem TA30 : T30.sp.alias = false := (rfl)
def tb30 : Fns := lk [(57, T57.sp)]
theorem tb30_ok : FnsOk Tryz.prog tb30 := .cons f57 (FnsOk.nil)
theorem tb30_57 : tb30 57 = some T57.sp := rfl
theorem lt30_0 : (IntKind.i64.wrap (0 + 1)) = 1 := by first | rfl | decide | simp
attribute [go_sem] TP30 TR30 TA30
section
attribute [local go_sem] T30 tb30_57 Tryz.results30 lt30_0
theorem v30 : Valid Tryz.prog 30 T30.sp := by
 refine valid_t (fn := Tryz.f30) (n := 53) ty_ok tb30_ok Tryz.func30 rfl Tryz.ntmps30 ?_
 rintro ⟨x1, x0⟩ hx
 obtain ⟨r, hr⟩ := oE (show (r30 x1 x0).isSome = true from hx)
 have hres : T30.res (x1, x0) = qu4 r := by simp only [T30, mkT, hr, oG]
 refine ⟨nL rfl, fun stop S => ?_⟩
 rw [hres] at S
 unfold r30 at hr
 refine S.gx [] ?_
 obtain ⟨v1, hv1, hr⟩ := of_bind0 hr
 try simp only [hv1, oG, oI, true_and, and_assoc]
 repeat refine gA ?_
 refine ⟨?_, ?_⟩ <;> intro hc
 ·have hr := ifP hr hc
  repeat refine gA ?_
  cases hr
  exact lf
 ·have hr := ifN hr hc
  repeat refine gA ?_
  refine ⟨?_, ?_⟩ <;> intro hc
  ·have hr := ifP hr hc
   repeat refine gA ?_
   cases hr
   exact lf
  ·have hr := ifN hr hc
   repeat refine gA ?_
   refine ⟨?_, ?_⟩ <;> intro hc
   ·have hr := ifP hr hc
    repeat refine gA ?_
    cases hr
    exact lf
   ·have hr := ifN hr hc
    repeat refine gA ?_
    refine S.sees [1, 4] [(1, 1)] [] ?_ (Stop.iter S (fun s1 => ⟨[(1, .c (.ref 1 0)), (4, .c (.d (.int .i64 s1)))], [(1, [.d (.int .i64 x1), .d (encF 3 d_III x0)])], []⟩) (b30_1 x0) (fun q => q = r) hr rfl ?_)
    ·exact lf
    ·intro s1 hr
     unfold b30_1 at hr
     refine S.gx [] ?_
     repeat refine gA ?_
     refine ⟨?_, ?_⟩ <;> intro hc
     ·have hr := ifP1 hr hc
      obtain ⟨hg3, hr⟩ := of_guard1 hr
      obtain ⟨v2, hv2, hr⟩ := of_bind1 hr
      obtain ⟨hg4, hr⟩ := of_guard1 hr
      obtain ⟨hg5, hr⟩ := of_guard1 hr
      try simp only [hv2, oG, oI, true_and, and_assoc]
      repeat (first | refine gG hg4 ?_ | refine gG hg5 ?_ | refine gA ?_ | refine gB ?_)
      refine ⟨?_, ?_⟩ <;> intro hc
      ·have hr := ifP1 hr hc
       repeat refine gA ?_
       have hr := of_out0 hr
       cases hr
       exact lf
      ·have hr := ifN1 hr hc
       repeat refine gA ?_
       refine ⟨?_, ?_⟩ <;> intro hc
       ·have hr := ifP1 hr hc
        repeat refine gA ?_
        have hr := of_out0 hr
        cases hr
        exact lf
       ·have hr := ifN1 hr hc
        repeat refine gA ?_
        refine S.sees [1, 4] [(1, 1)] [] ?_ hr
        exact lf
     ·have hr := ifN1 hr hc
      repeat refine gA ?_
      have hr := of_out0 hr
      repeat refine gA ?_
      cases hr
      exact lf
theorem f30 : FnFact Tryz.prog 30 T30.sp := ⟨⟨Tryz.f30, Tryz.func30, by decide, rfl⟩, v30⟩
end

/- martensite/martensiteref02.LadderErr -/
def r12 (x0 : Int) (x1 : List (Int × Int × Int)) : Option (Int) :=
  (r30 x0 x1).bind fun v1 =>
   some v1.2
def T12 : TSpec qA5 := mkT qE5 qd5 (fun ⟨x0, x1⟩ => r12 x0 x1) qu3 false
theorem TP12 (c0 c1 : D) : T12.sp.pre [.agg [c0, c1]] = (eqvArgs (qt5 c0 c1) (qp5 qw5 c0 c1) ∧ (qp5 r12 c0 c1).isSome = true) := (rfl)
theorem TR12 (c0 c1 : D) : T12.sp.res [.agg [c0, c1]] = qu3 ((qp5 r12 c0 c1).getD default) := (rfl)
theorem TA12 : T12.sp.alias = false := (rfl)
def tb12 : Fns := lk [(30, T30.sp)]
theorem tb12_ok : FnsOk Tryz.prog tb12 := .cons f30 (FnsOk.nil)
theorem tb12_30 : tb12 30 = some T30.sp := rfl
attribute [go_sem] TP12 TR12 TA12
section
attribute [local go_sem] T12 tb12_30 Tryz.results12
theorem v12 : Valid Tryz.prog 12 T12.sp := by
 refine valid_t (fn := Tryz.f12) (n := 11) ty_ok tb12_ok Tryz.func12 rfl Tryz.ntmps12 ?_
 rintro ⟨x0, x1⟩ hx
 obtain ⟨r, hr⟩ := oE (show (r12 x0 x1).isSome = true from hx)
 have hres : T12.res (x0, x1) = qu3 r := by simp only [T12, mkT, hr, oG]
 refine ⟨nL rfl, fun stop S => ?_⟩
 rw [hres] at S
 unfold r12 at hr
 refine S.gx [] ?_
 obtain ⟨v1, hv1, hr⟩ := of_bind0 hr
 try simp only [hv1, oG, oI, true_and, and_assoc]
 repeat refine gA ?_
 cases hr
 exact lf
theorem f12 : FnFact Tryz.prog 12 T12.sp := ⟨⟨Tryz.f12, Tryz.func12, by decide, rfl⟩, v12⟩
end

/- martensite/martensiteref02.ParseLadder -/
def b9_1 (v1 : (List (ByteArray))) (v2 : (List (Int)) × Bool) : (Int × (List (Int × Int × Int))) → Ctl (Int × (List (Int × Int × Int))) (Int × (List (Int × Int × Int)) × Int) := fun s1 =>
  if (decide (s1.1 < (v1.length : Int))) = true then
   if 0 ≤ s1.1 ∧ s1.1 < (v1.length : Int) then
    bindC (r28 (v1.getD s1.1.toNat default) 3) fun v3 =>
     if (!v3.2) = true then
      .out (some (0, [], 7))
      else if 0 ≤ 0 ∧ 0 < (v3.1.length : Int) then
       if 0 ≤ 1 ∧ 1 < (v3.1.length : Int) then
        if 0 ≤ 2 ∧ 2 < (v3.1.length : Int) then
         if (s1.2.length + 1) * 24 ≤ 140737488355328 ∧ s1.2.length + 1 ≤ 9223372036854775807 then
          .next (IntKind.i64.wrap (s1.1 + 1), s1.2 ++ [((v3.1.getD 0 default), (v3.1.getD 1 default), (v3.1.getD 2 default))])
          else .out none
         else .out none
        else .out none
       else .out none
    else .out none
   else .out ((r12 (v2.1.getD 0 default) s1.2).bind fun v9 =>
    if (v9 != 0) = true then
     some (0, [], v9)
     else some ((v2.1.getD 0 default), s1.2, 0))
def r9 (a0 : ByteArray) : Option (Int × (List (Int × Int × Int)) × Int) :=
  if (decide ((a0.size : Int) > 60000)) = true then
   some (0, [], 8)
   else (r27 a0 59).bind fun v1 =>
    if 0 ≤ 0 ∧ 0 < (v1.length : Int) then
     (r28 (v1.getD 0 default) 1).bind fun v2 =>
      if (!v2.2) = true then
       some (0, [], 7)
       else if 0 ≤ 0 ∧ 0 < (v2.1.length : Int) then
        iterC (b9_1 v1 v2) 1000000000 (1, [])
        else none
     else none
def T9 : TSpec qA21 := mkT qE21 qd21 r9 qu19 false
theorem TP9 (c0 : D) : T9.sp.pre [.c c0] = (eqvArgs (qt21 c0) (qp21 qw21 c0) ∧ (qp21 r9 c0).isSome = true) := (rfl)
theorem TR9 (c0 : D) : T9.sp.res [.c c0] = qu19 ((qp21 r9 c0).getD default) := (rfl)
theorem TA9 : T9.sp.alias = false := (rfl)
def tb9 : Fns := lk [(12, T12.sp), (27, T27.sp), (28, T28.sp)]
theorem tb9_ok : FnsOk Tryz.prog tb9 := .cons f12 (.cons f27 (.cons f28 (FnsOk.nil)))
theorem tb9_12 : tb9 12 = some T12.sp := rfl
theorem tb9_27 : tb9 27 = some T27.sp := rfl
theorem tb9_28 : tb9 28 = some T28.sp := rfl
theorem lt9_0 : (IntKind.i64.wrap (1 + 1)) = 2 := by first | rfl | decide | simp
attribute [go_sem] TP9 TR9 TA9
section
attribute [local go_sem] T9 tb9_12 tb9_27 tb9_28 Tryz.results9 lt9_0
theorem v9 : Valid Tryz.prog 9 T9.sp := by
 refine valid_t (fn := Tryz.f9) (n := 71) ty_ok tb9_ok Tryz.func9 rfl Tryz.ntmps9 ?_
 rintro a0 hx
 obtain ⟨r, hr⟩ := oE (show (r9 a0).isSome = true from hx)
 have hres : T9.res a0 = qu19 r := by simp only [T9, mkT, hr, oG]
 refine ⟨nL rfl, fun stop S => ?_⟩
 rw [hres] at S
 unfold r9 at hr
 refine S.gx [] ?_
 repeat refine gA ?_
 refine ⟨?_, ?_⟩ <;> intro hc
 ·have hr := ifP hr hc
  repeat refine gA ?_
  cases hr
  exact lf
 ·have hr := ifN hr hc
  obtain ⟨v1, hv1, hr⟩ := of_bind0 hr
  obtain ⟨hg11, hr⟩ := of_guard0 hr
  obtain ⟨v2, hv2, hr⟩ := of_bind0 hr
  try simp only [hv1, hv2, Option.getD_some, Option.isSome_some, true_and, and_assoc]
  repeat refine gA ?_
  refine ⟨?_, ?_⟩ <;> intro hc
  ·have hr := ifP hr hc
   repeat refine gA ?_
   cases hr
   exact lf
  ·have hr := ifN hr hc
   obtain ⟨hg10, hr⟩ := of_guard0 hr
   repeat refine gA ?_
   refine S.own0b 7 1 2000701 3 rfl rfl (nL rfl) rfl ?_
   refine S.sees [2, 4, 7, 8] [(2, 2), (7, 7)] [(2000701, 2000701), (17, 17)] ?_ (Stop.iter S (fun s1 => ⟨[(2, .c (.ref 2 0)), (4, .c (.own 17)), (7, .c (.ref 7 0)), (8, .c (.d (.int .i64 s1.1)))], [(2, [.d (.int .i64 0), .nils]), (7, [.d (.int .i64 (v2.1.getD 0 default)), .own 2000701])], [(2000701, .owned (encF 3 d_III s1.2)), (17, .owned (encF 1 d_S v1))]⟩) (b9_1 v1 v2) (fun q => q = r) hr rfl ?_)
   ·exact lf
   ·intro s1 hr
    unfold b9_1 at hr
    refine S.gx [] ?_
    repeat refine gA ?_
    refine ⟨?_, ?_⟩ <;> intro hc
    ·have hr := ifP1 hr hc
     obtain ⟨hg8, hr⟩ := of_guard1 hr
     obtain ⟨v3, hv3, hr⟩ := of_bind1 hr
     try simp only [hv3, oG, oI, true_and, and_assoc]
     repeat refine gA ?_
     refine ⟨?_, ?_⟩ <;> intro hc
     ·have hr := ifP1 hr hc
      repeat refine gA ?_
      have hr := of_out0 hr
      cases hr
      exact lf
     ·have hr := ifN1 hr hc
      obtain ⟨hg4, hr⟩ := of_guard1 hr
      obtain ⟨hg5, hr⟩ := of_guard1 hr
      obtain ⟨hg6, hr⟩ := of_guard1 hr
      obtain ⟨hg7, hr⟩ := of_guard1 hr
      repeat refine gA ?_
      refine S.sees [2, 4, 7, 8] [(2, 2), (7, 7)] [(62, 2000701), (17, 17)] ?_ hr
      exact lf
    ·have hr := ifN1 hr hc
     repeat refine gA ?_
     have hr := of_out0 hr
     obtain ⟨v9, hv9, hr⟩ := of_bind0 hr
     try simp only [hv9, oG, oI, true_and, and_assoc]
     repeat refine gA ?_
     refine ⟨?_, ?_⟩ <;> intro hc
     ·have hr := ifP hr hc
      repeat refine gA ?_
      cases hr
      exact lf
     ·have hr := ifN hr hc
      repeat refine gA ?_
      cases hr
      exact lf
theorem f9 : FnFact Tryz.prog 9 T9.sp := ⟨⟨Tryz.f9, Tryz.func9, by decide, rfl⟩, v9⟩
end

/- martensite/martensitebase.Size -/
def r56 (a0 : Int) : Option (Int) :=
  some (if a0 < IntKind.i64.wrap (0 - a0) then IntKind.i64.wrap (0 - a0) else a0)
def T56 : TSpec qA4 := mkT qE4 qd4 r56 qu3 false
theorem TP56 (c0 : D) : T56.sp.pre [.c c0] = (eqvArgs (qt4 c0) (qp4 qw4 c0) ∧ (qp4 r56 c0).isSome = true) := (rfl)
theorem TR56 (c0 : D) : T56.sp.res [.c c0] = qu3 ((qp4 r56 c0).getD default) := (rfl)
theorem TA56 : T56.sp.alias = false := (rfl)
def tb56 : Fns := lk []
theorem tb56_ok : FnsOk Tryz.prog tb56 := FnsOk.nil
attribute [go_sem] TP56 TR56 TA56
section
attribute [local go_sem] T56 Tryz.results56
theorem v56 : Valid Tryz.prog 56 T56.sp := by
 refine valid_t (fn := Tryz.f56) (n := 7) ty_ok tb56_ok Tryz.func56 rfl Tryz.ntmps56 ?_
 rintro a0 hx
 obtain ⟨r, hr⟩ := oE (show (r56 a0).isSome = true from hx)
 have hres : T56.res a0 = qu3 r := by simp only [T56, mkT, hr, oG]
 refine ⟨nL rfl, fun stop S => ?_⟩
 rw [hres] at S
 unfold r56 at hr
 refine S.gx [] ?_
 repeat refine gA ?_
 cases hr
 exact lf
theorem f56 : FnFact Tryz.prog 56 T56.sp := ⟨⟨Tryz.f56, Tryz.func56, by decide, rfl⟩, v56⟩
end

/- martensite/martensitebase.Decimal -/
def b29_1 : (Int × ByteArray) → Ctl (Int × ByteArray) (ByteArray) := fun s1 =>
  if (s1.1 != 0) = true then
   bindC (r56 (s1.1.tmod 10)) fun v1 =>
    if (#[UInt8.ofNat (IntKind.u8.wrap (IntKind.i64.wrap (48 + v1))).toNat] : Array UInt8).size + s1.2.size ≤ 9223372036854775807 then
     .next (IntKind.i64.wrap (s1.1.tdiv 10), (⟨#[UInt8.ofNat (IntKind.u8.wrap (IntKind.i64.wrap (48 + v1))).toNat]⟩ : ByteArray) ++ s1.2)
     else .out none
   else .out (if (#[45] : Array UInt8).size + s1.2.size ≤ 9223372036854775807 then
    some ((⟨#[45]⟩ : ByteArray) ++ s1.2)
    else none)
def b29_2 : (Int × ByteArray) → Ctl (Int × ByteArray) (ByteArray) := fun s2 =>
  if (s2.1 != 0) = true then
   bindC (r56 (s2.1.tmod 10)) fun v4 =>
    if (#[UInt8.ofNat (IntKind.u8.wrap (IntKind.i64.wrap (48 + v4))).toNat] : Array UInt8).size + s2.2.size ≤ 9223372036854775807 then
     .next (IntKind.i64.wrap (s2.1.tdiv 10), (⟨#[UInt8.ofNat (IntKind.u8.wrap (IntKind.i64.wrap (48 + v4))).toNat]⟩ : ByteArray) ++ s2.2)
     else .out none
   else .out (if (#[] : Array UInt8).size + s2.2.size ≤ 9223372036854775807 then
    some ((⟨#[]⟩ : ByteArray) ++ s2.2)
    else none)
def r29 (a0 : Int) : Option (ByteArray) :=
  if (a0 == 0) = true then
   some (⟨#[48]⟩ : ByteArray)
   else if (decide (a0 < 0)) = true then
    iterC (b29_1) 1000000000 (a0, (⟨#[]⟩ : ByteArray))
    else iterC (b29_2) 1000000000 (a0, (⟨#[]⟩ : ByteArray))
def T29 : TSpec qA4 := mkT qE4 qd4 r29 qu15 false
theorem TP29 (c0 : D) : T29.sp.pre [.c c0] = (eqvArgs (qt4 c0) (qp4 qw4 c0) ∧ (qp4 r29 c0).isSome = true) := (rfl)
theorem TR29 (c0 : D) : T29.sp.res [.c c0] = qu15 ((qp4 r29 c0).getD default) := (rfl)
theorem TA29 : T29.sp.alias = false := (rfl)
def tb29 : Fns := lk [(56, T56.sp)]
theorem tb29_ok : FnsOk Tryz.prog tb29 := .cons f56 (FnsOk.nil)
theorem tb29_56 : tb29 56 = some T56.sp := rfl
attribute [go_sem] TP29 TR29 TA29
section
attribute [local go_sem] T29 tb29_56 Tryz.results29
theorem v29 : Valid Tryz.prog 29 T29.sp := by
 refine valid_t (fn := Tryz.f29) (n := 27) ty_ok tb29_ok Tryz.func29 rfl Tryz.ntmps29 ?_
 rintro a0 hx
 obtain ⟨r, hr⟩ := oE (show (r29 a0).isSome = true from hx)
 have hres : T29.res a0 = qu15 r := by simp only [T29, mkT, hr, oG]
 refine ⟨nL rfl, fun stop S => ?_⟩
 rw [hres] at S
 unfold r29 at hr
 refine S.gx [] ?_
 repeat refine gA ?_
 refine ⟨?_, ?_⟩ <;> intro hc
 ·have hr := ifP hr hc
  repeat refine gA ?_
  cases hr
  exact lf
 ·have hr := ifN hr hc
  repeat refine gA ?_
  refine ⟨?_, ?_⟩ <;> intro hc
  ·have hr := ifP hr hc
   repeat refine gA ?_
   refine S.sees [0, 3, 4] [] [] ?_ (Stop.iter S (fun s1 => ⟨[(0, .c (.d (.int .i64 s1.1))), (3, .c (.d (.str s1.2))), (4, .c (.d (.str (⟨#[45]⟩ : ByteArray))))], [], []⟩) (b29_1) (fun q => q = r) hr rfl ?_)
   ·exact lf
   ·intro s1 hr
    unfold b29_1 at hr
    refine S.gx [] ?_
    repeat refine gA ?_
    refine ⟨?_, ?_⟩ <;> intro hc
    ·have hr := ifP1 hr hc
     obtain ⟨v1, hv1, hr⟩ := of_bind1 hr
     obtain ⟨hg2, hr⟩ := of_guard1 hr
     try simp only [hv1, oG, oI, true_and, and_assoc]
     repeat refine gA ?_
     refine S.sees [0, 3, 4] [] [] ?_ hr
     exact lf
    ·have hr := ifN1 hr hc
     repeat refine gA ?_
     have hr := of_out0 hr
     obtain ⟨hg3, hr⟩ := of_guard0 hr
     repeat refine gA ?_
     cases hr
     exact lf
  ·have hr := ifN hr hc
   repeat refine gA ?_
   refine S.sees [0, 3, 4] [] [] ?_ (Stop.iter S (fun s2 => ⟨[(0, .c (.d (.int .i64 s2.1))), (3, .c (.d (.str s2.2))), (4, .c (.d (.str (⟨#[]⟩ : ByteArray))))], [], []⟩) (b29_2) (fun q => q = r) hr rfl ?_)
   ·exact lf
   ·intro s2 hr
    unfold b29_2 at hr
    refine S.gx [] ?_
    repeat refine gA ?_
    refine ⟨?_, ?_⟩ <;> intro hc
    ·have hr := ifP1 hr hc
     obtain ⟨v4, hv4, hr⟩ := of_bind1 hr
     obtain ⟨hg5, hr⟩ := of_guard1 hr
     try simp only [hv4, oG, oI, true_and, and_assoc]
     repeat refine gA ?_
     refine S.sees [0, 3, 4] [] [] ?_ hr
     exact lf
    ·have hr := ifN1 hr hc
     repeat refine gA ?_
     have hr := of_out0 hr
     obtain ⟨hg6, hr⟩ := of_guard0 hr
     repeat refine gA ?_
     cases hr
     exact lf
theorem f29 : FnFact Tryz.prog 29 T29.sp := ⟨⟨Tryz.f29, Tryz.func29, by decide, rfl⟩, v29⟩
end

/- martensite/martensiteref02.FormatLadder -/
def b10_1 (x0 : List (Int × Int × Int)) : (ByteArray × Int) → Ctl (ByteArray × Int) (ByteArray) := fun s1 =>
  if (decide (s1.2 < (x0.length : Int))) = true then
   if s1.1.size + (#[59] : Array UInt8).size ≤ 9223372036854775807 then
    if 0 ≤ s1.2 ∧ s1.2 < (x0.length : Int) then
     bindC (r29 ((x0.getD s1.2.toNat default).1)) fun v2 =>
      if s1.1.size + (#[59] : Array UInt8).size + v2.size ≤ 9223372036854775807 then
       if s1.1.size + (#[59] : Array UInt8).size + v2.size + (#[32] : Array UInt8).size ≤ 9223372036854775807 then
        if 0 ≤ s1.2 ∧ s1.2 < (x0.length : Int) then
         bindC (r29 ((x0.getD s1.2.toNat default).2.1)) fun v3 =>
          if s1.1.size + (#[59] : Array UInt8).size + v2.size + (#[32] : Array UInt8).size + v3.size ≤ 9223372036854775807 then
           if s1.1.size + (#[59] : Array UInt8).size + v2.size + (#[32] : Array UInt8).size + v3.size + (#[32] : Array UInt8).size ≤ 9223372036854775807 then
            if 0 ≤ s1.2 ∧ s1.2 < (x0.length : Int) then
             bindC (r29 ((x0.getD s1.2.toNat default).2.2)) fun v4 =>
              if s1.1.size + (#[59] : Array UInt8).size + v2.size + (#[32] : Array UInt8).size + v3.size + (#[32] : Array UInt8).size + v4.size ≤ 9223372036854775807 then
               .next ((((((s1.1 ++ (⟨#[59]⟩ : ByteArray)) ++ v2) ++ (⟨#[32]⟩ : ByteArray)) ++ v3) ++ (⟨#[32]⟩ : ByteArray)) ++ v4, IntKind.i64.wrap (s1.2 + 1))
               else .out none
             else .out none
            else .out none
           else .out none
         else .out none
        else .out none
       else .out none
     else .out none
    else .out none
   else .out (some s1.1)
def r10 (x1 : Int) (x0 : List (Int × Int × Int)) : Option (ByteArray) :=
  (r29 x1).bind fun v1 =>
   iterC (b10_1 x0) 1000000000 (v1, 0)
def T10 : TSpec qA5 := mkT qE5 qd5 (fun ⟨x1, x0⟩ => r10 x1 x0) qu15 false
theorem TP10 (c0 c1 : D) : T10.sp.pre [.agg [c0, c1]] = (eqvArgs (qt5 c0 c1) (qp5 qw5 c0 c1) ∧ (qp5 r10 c0 c1).isSome = true) := (rfl)
theorem TR10 (c0 c1 : D) : T10.sp.res [.agg [c0, c1]] = qu15 ((qp5 r10 c0 c1).getD default) := (rfl)
theorem TA10 : T10.sp.alias = false := (rfl)
def tb10 : Fns := lk [(29, T29.sp)]
theorem tb10_ok : FnsOk Tryz.prog tb10 := .cons f29 (FnsOk.nil)
theorem tb10_29 : tb10 29 = some T29.sp := rfl
theorem lt10_0 : (IntKind.i64.wrap (0 + 1)) = 1 := by first | rfl | decide | simp
attribute [go_sem] TP10 TR10 TA10
section
attribute [local go_sem] T10 tb10_29 Tryz.results10 lt10_0
theorem v10 : Valid Tryz.prog 10 T10.sp := by
 refine valid_t (fn := Tryz.f10) (n := 44) ty_ok tb10_ok Tryz.func10 rfl Tryz.ntmps10 ?_
 rintro ⟨x1, x0⟩ hx
 obtain ⟨r, hr⟩ := oE (show (r10 x1 x0).isSome = true from hx)
 have hres : T10.res (x1, x0) = qu15 r := by simp only [T10, mkT, hr, oG]
 refine ⟨nL rfl, fun stop S => ?_⟩
 rw [hres] at S
 unfold r10 at hr
 refine S.gx [] ?_
 obtain ⟨v1, hv1, hr⟩ := of_bind0 hr
 try simp only [hv1, oG, oI, true_and, and_assoc]
 repeat refine gA ?_
 refine S.sees [1, 3, 4] [(1, 1)] [] ?_ (Stop.iter S (fun s1 => ⟨[(1, .c (.ref 1 0)), (3, .c (.d (.str s1.1))), (4, .c (.d (.int .i64 s1.2)))], [(1, [.d (.int .i64 x1), .d (encF 3 d_III x0)])], []⟩) (b10_1 x0) (fun q => q = r) hr rfl ?_)
 ·exact lf
 ·intro s1 hr
  unfold b10_1 at hr
  refine S.gx [] ?_
  repeat refine gA ?_
  refine ⟨?_, ?_⟩ <;> intro hc
  ·have hr := ifP1 hr hc
   obtain ⟨hg5, hr⟩ := of_guard1 hr
   obtain ⟨hg6, hr⟩ := of_guard1 hr
   obtain ⟨v2, hv2, hr⟩ := of_bind1 hr
   obtain ⟨hg7, hr⟩ := of_guard1 hr
   obtain ⟨hg8, hr⟩ := of_guard1 hr
   obtain ⟨hg9, hr⟩ := of_guard1 hr
   obtain ⟨v3, hv3, hr⟩ := of_bind1 hr
   obtain ⟨hg10, hr⟩ := of_guard1 hr
   obtain ⟨hg11, hr⟩ := of_guard1 hr
   obtain ⟨hg12, hr⟩ := of_guard1 hr
   obtain ⟨v4, hv4, hr⟩ := of_bind1 hr
   obtain ⟨hg13, hr⟩ := of_guard1 hr
   try simp only [hv2, hv3, hv4, Option.getD_some, Option.isSome_some, true_and, and_assoc]
   repeat refine gA ?_
   refine S.sees [1, 3, 4] [(1, 1)] [] ?_ hr
   exact lf
  ·have hr := ifN1 hr hc
   repeat refine gA ?_
   have hr := of_out0 hr
   repeat refine gA ?_
   cases hr
   exact lf
theorem f10 : FnFact Tryz.prog 10 T10.sp := ⟨⟨Tryz.f10, Tryz.func10, by decide, rfl⟩, v10⟩
end

/- martensite/martensiteref02.SameLadder -/
def b11_1 (x0 : List (Int × Int × Int)) (x1 : List (Int × Int × Int)) : (Int) → Ctl (Int) (Bool) := fun s1 =>
  if (decide (s1 < (x0.length : Int))) = true then
   if 0 ≤ s1 ∧ s1 < (x0.length : Int) then
    if 0 ≤ s1 ∧ s1 < (x1.length : Int) then
     if (!(((x0.getD s1.toNat default).1 == (x1.getD s1.toNat default).1) && (((x0.getD s1.toNat default).2.1 == (x1.getD s1.toNat default).2.1) && ((x0.getD s1.toNat default).2.2 == (x1.getD s1.toNat default).2.2)))) = true then
      .out (some false)
      else .next (IntKind.i64.wrap (s1 + 1))
     else .out none
    else .out none
   else .out (some true)
def r11 (x2 : Int) (x0 : List (Int × Int × Int)) (x3 : Int) (x1 : List (Int × Int × Int)) : Option (Bool) :=
  if ((x2 != x3) || ((x0.length : Int) != (x1.length : Int))) = true then
   some false
   else iterC (b11_1 x0 x1) 1000000000 0
def T11 : TSpec qA24 := mkT qE24 qd24 (fun ⟨x2, x0, x3, x1⟩ => r11 x2 x0 x3 x1) qu2 false
theorem TP11 (c0 c1 c2 c3 : D) : T11.sp.pre [.agg [c0, c1], .agg [c2, c3]] = (eqvArgs (qt24 c0 c1 c2 c3) (qp24 qw24 c0 c1 c2 c3) ∧ (qp24 r11 c0 c1 c2 c3).isSome = true) := (rfl)
theorem TR11 (c0 c1 c2 c3 : D) : T11.sp.res [.agg [c0, c1], .agg [c2, c3]] = qu2 ((qp24 r11 c0 c1 c2 c3).getD default) := (rfl)
theorem TA11 : T11.sp.alias = false := (rfl)
def tb11 : Fns := lk []
theorem tb11_ok : FnsOk Tryz.prog tb11 := FnsOk.nil
theorem lt11_0 : (IntKind.i64.wrap (0 + 1)) = 1 := by first | rfl | decide | simp
attribute [go_sem] TP11 TR11 TA11
section
attribute [local go_sem] T11 Tryz.results11 lt11_0
theorem v11 : Valid Tryz.prog 11 T11.sp := by
 refine valid_t (fn := Tryz.f11) (n := 38) ty_ok tb11_ok Tryz.func11 rfl Tryz.ntmps11 ?_
 rintro ⟨x2, x0, x3, x1⟩ hx
 obtain ⟨r, hr⟩ := oE (show (r11 x2 x0 x3 x1).isSome = true from hx)
 have hres : T11.res (x2, x0, x3, x1) = qu2 r := by simp only [T11, mkT, hr, oG]
 refine ⟨nL rfl, fun stop S => ?_⟩
 rw [hres] at S
 unfold r11 at hr
 refine S.gx [] ?_
 repeat (first | refine gA ?_ | refine gB ?_)
 refine ⟨?_, ?_⟩ <;> intro hc
 ·have hr := ifP hr hc
  repeat refine gA ?_
  cases hr
  exact lf
 ·have hr := ifN hr hc
  repeat refine gA ?_
  refine S.sees [2, 3, 5] [(2, 2), (3, 3)] [] ?_ (Stop.iter S (fun s1 => ⟨[(2, .c (.ref 2 0)), (3, .c (.ref 3 0)), (5, .c (.d (.int .i64 s1)))], [(2, [.d (.int .i64 x2), .d (encF 3 d_III x0)]), (3, [.d (.int .i64 x3), .d (encF 3 d_III x1)])], []⟩) (b11_1 x0 x1) (fun q => q = r) hr rfl ?_)
  ·exact lf
  ·intro s1 hr
   unfold b11_1 at hr
   refine S.gx [] ?_
   repeat refine gA ?_
   refine ⟨?_, ?_⟩ <;> intro hc
   ·have hr := ifP1 hr hc
    obtain ⟨hg1, hr⟩ := of_guard1 hr
    obtain ⟨hg2, hr⟩ := of_guard1 hr
    repeat refine gA ?_
    refine ⟨?_, ?_⟩ <;> intro hc
    ·have hr := ifP1 hr hc
     repeat refine gA ?_
     have hr := of_out0 hr
     cases hr
     exact lf
    ·have hr := ifN1 hr hc
     repeat refine gA ?_
     refine S.sees [2, 3, 5] [(2, 2), (3, 3)] [] ?_ hr
     exact lf
   ·have hr := ifN1 hr hc
    repeat refine gA ?_
    have hr := of_out0 hr
    repeat refine gA ?_
    cases hr
    exact lf
theorem f11 : FnFact Tryz.prog 11 T11.sp := ⟨⟨Tryz.f11, Tryz.func11, by decide, rfl⟩, v11⟩
end
end Go.Proofs.YtkhfaooknmoboaaGreatDoor

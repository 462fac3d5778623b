/- Contracts of functions, written by wip/dec. -/
import Derived.Test.YtcbiiijnaeibhaaF00
import Derived.Test.YtcbiiijnaeibhaaF01
import Derived.Test.YtcbiiijnaeibhaaF02
import Derived.Test.YtcbiiijnaeibhaaF03
import Derived.Test.YtcbiiijnaeibhaaF06
import Derived.Test.YtcbiiijnaeibhaaF10
import Derived.Test.YtcbiiijnaeibhaaF12
set_option linter.unusedVariables false
set_option linter.unusedSimpArgs false
set_option maxHeartbeats 4000000
set_option maxRecDepth 20000
namespace Go.Proofs.Ytcbiiijnaeibhaa
open Go.Abs
/- martensite/martensitelaw03.drives -/
def b63_1 (a0 : List ((List (Int)) × Int)) : (Int) → Ctl (Int) (Bool) := fun s1 =>
  if (decide (s1 < (a0.length : Int))) = true then
   if 0 ≤ s1 ∧ s1 < (a0.length : Int) then
    bindC (r16 ((a0.getD s1.toNat default).1)) fun v1 =>
     if (!v1) = true then
      .out (some false)
      else .next (IntKind.i64.wrap (s1 + 1))
    else .out none
   else .out ((r28 (a0.length : Int)).bind fun v3 =>
    some v3)
def r63 (a0 : List ((List (Int)) × Int)) : Option (Bool) :=
  iterC (b63_1 a0) 10000000000000000000 0
def T63 : TSpec ((List ((List (Int)) × Int))) where
  enc x := [.c (encF 2 d_LIEI x)]
  dec a := decF g_LIEI (aCell a 0 0)
  pre x := (r63 x).isSome = true
  res x := [.c (.d (.bool ((r63 x).getD default)))]
  al := false
def tb63 : Fns := lk [(16, T16.sp), (28, T28.sp)]
theorem tb63_ok : FnsOk Try.prog tb63 := .cons f16 (.cons f28 (FnsOk.nil))
theorem tb63_16 : tb63 16 = some T16.sp := rfl
theorem tb63_28 : tb63 28 = some T28.sp := rfl
theorem v63 : Valid Try.prog 63 T63.sp := by
  refine valid_t (fn := Try.f63) (n := 20) ty_ok tb63_ok Try.func63 rfl Try.ntmps63 ?_
  rintro a0 hx
  obtain ⟨r, hr⟩ := Option.isSome_iff_exists.1 (show (r63 a0).isSome = true from hx)
  have hres : T63.res a0 = [.c (.d (.bool r))] := by simp only [T63, hr, Option.getD_some]
  refine ⟨Nat.le_of_ble_eq_true rfl, fun stop S => ?_⟩
  rw [hres] at S
  unfold r63 at hr
  refine S.goB [] 1000 ?_
  simp (maxSteps := 10000000) only [go_sem, tb63_16, T16, tb63_28, T28, T63, Option.map_some, Int.reduceToNat, Nat.reduceEqDiff, Nat.reduceLT, Nat.reduceAdd, Nat.reduceMul, Nat.reduceSub, Nat.reduceLeDiff, reduceIte, reduceCtorEq, Try.results63]
  repeat refine gA ?_
  refine S.sees [0, 3] [] [] ?_ (Stop.iter S (fun s1 => ⟨[(0, .c (.d (encF 2 d_LIEI a0))), (3, .c (.d (.int .i64 s1)))], [], []⟩) (b63_1 a0) (fun q => q = r) hr rfl ?_)
  · (simp (maxDischargeDepth := 8) [go_sem])
  · intro s1 hr
    unfold b63_1 at hr
    refine S.goB [] 1000 ?_
    simp (maxSteps := 10000000) only [go_sem, tb63_16, T16, tb63_28, T28, T63, Option.map_some, Int.reduceToNat, Nat.reduceEqDiff, Nat.reduceLT, Nat.reduceAdd, Nat.reduceMul, Nat.reduceSub, Nat.reduceLeDiff, reduceIte, reduceCtorEq, Try.results63]
    repeat refine gA ?_
    refine ⟨fun hc => ?_, fun hc => ?_⟩
    · replace hr := ifP1 hr hc
      obtain ⟨hg2, hr⟩ := of_guard1 hr
      obtain ⟨v1, hv1, hr⟩ := of_bind1 hr
      try simp only [hv1, Option.getD_some, Option.isSome_some, true_and, and_assoc]
      repeat refine gA ?_
      refine ⟨fun hc => ?_, fun hc => ?_⟩
      · replace hr := ifP1 hr hc
        repeat refine gA ?_
        have hr := of_out0 hr
        obtain rfl := Option.some.inj hr
        (simp (maxDischargeDepth := 8) [go_sem])
      · replace hr := ifN1 hr hc
        repeat refine gA ?_
        refine S.sees [0, 3] [] [] ?_ hr
        (simp (maxDischargeDepth := 8) [go_sem])
    · replace hr := ifN1 hr hc
      repeat refine gA ?_
      have hr := of_out0 hr
      obtain ⟨v3, hv3, hr⟩ := of_bind0 hr
      try simp only [hv3, Option.getD_some, Option.isSome_some, true_and, and_assoc]
      repeat refine gA ?_
      obtain rfl := Option.some.inj hr
      (simp (maxDischargeDepth := 8) [go_sem])
theorem f63 : FnFact Try.prog 63 T63.sp := ⟨⟨Try.f63, Try.func63, by decide, rfl⟩, v63⟩

/- martensite/martensiteref03.DrivesErr -/
def b72_1 (a0_0 : Int) (a0_1 : Int) (a0_2 : List (Int × Int)) (a0_3 : List ((List (Int × Int)))) (a1 : List ((List (Int)) × Int)) : (Int) → Ctl (Int) (Int) := fun s1 =>
  if (decide (s1 < (a1.length : Int))) = true then
   if 0 ≤ s1 ∧ s1 < (a1.length : Int) then
    bindC (r70 a0_0 a0_1 a0_2 a0_3 ((a1.getD s1.toNat default).1) ((a1.getD s1.toNat default).2)) fun v1 =>
     if (v1 != 0) = true then
      .out (some v1)
      else .next (IntKind.i64.wrap (s1 + 1))
    else .out none
   else .out (some 0)
def r72 (a0_0 : Int) (a0_1 : Int) (a0_2 : List (Int × Int)) (a0_3 : List ((List (Int × Int)))) (a1 : List ((List (Int)) × Int)) : Option (Int) :=
  if (decide ((a1.length : Int) > 200)) = true then
   some 8
   else iterC (b72_1 a0_0 a0_1 a0_2 a0_3 a1) 1000000000 0
def T72 : TSpec (Int × Int × (List (Int × Int)) × (List ((List (Int × Int)))) × (List ((List (Int)) × Int))) where
  enc x := [.agg [.int .i64 x.1, .int .i64 x.2.1, encF 2 d_II x.2.2.1, encF 1 d_LIIE x.2.2.2.1], .c (encF 2 d_LIEI x.2.2.2.2)]
  dec a := (dInt (aCell a 0 0), dInt (aCell a 0 1), decF g_II (aCell a 0 2), decF g_LIIE (aCell a 0 3), decF g_LIEI (aCell a 1 0))
  pre x := (r72 x.1 x.2.1 x.2.2.1 x.2.2.2.1 x.2.2.2.2).isSome = true
  res x := [.c (.d (.int .i64 ((r72 x.1 x.2.1 x.2.2.1 x.2.2.2.1 x.2.2.2.2).getD default)))]
  al := false
def tb72 : Fns := lk [(70, T70.sp)]
theorem tb72_ok : FnsOk Try.prog tb72 := .cons f70 (FnsOk.nil)
theorem tb72_70 : tb72 70 = some T70.sp := rfl
theorem v72 : Valid Try.prog 72 T72.sp := by
  refine valid_t (fn := Try.f72) (n := 25) ty_ok tb72_ok Try.func72 rfl Try.ntmps72 ?_
  rintro ⟨a0_0, a0_1, a0_2, a0_3, a1⟩ hx
  obtain ⟨r, hr⟩ := Option.isSome_iff_exists.1 (show (r72 a0_0 a0_1 a0_2 a0_3 a1).isSome = true from hx)
  have hres : T72.res (a0_0, a0_1, a0_2, a0_3, a1) = [.c (.d (.int .i64 r))] := by simp only [T72, hr, Option.getD_some]
  refine ⟨Nat.le_of_ble_eq_true rfl, fun stop S => ?_⟩
  rw [hres] at S
  unfold r72 at hr
  refine S.goB [] 1000 ?_
  simp (maxSteps := 10000000) only [go_sem, tb72_70, T70, T72, Option.map_some, Int.reduceToNat, Nat.reduceEqDiff, Nat.reduceLT, Nat.reduceAdd, Nat.reduceMul, Nat.reduceSub, Nat.reduceLeDiff, reduceIte, reduceCtorEq, Try.results72]
  repeat refine gA ?_
  refine ⟨fun hc => ?_, fun hc => ?_⟩
  · replace hr := ifP hr hc
    repeat refine gA ?_
    obtain rfl := Option.some.inj hr
    (simp (maxDischargeDepth := 8) [go_sem])
  · replace hr := ifN hr hc
    repeat refine gA ?_
    refine S.sees [1, 2, 5] [(2, 2)] [] ?_ (Stop.iter S (fun s1 => ⟨[(1, .c (.d (encF 2 d_LIEI a1))), (2, .c (.ref 2 0)), (5, .c (.d (.int .i64 s1)))], [(2, [.d (.int .i64 a0_0), .d (.int .i64 a0_1), .d (encF 2 d_II a0_2), .d (encF 1 d_LIIE a0_3)])], []⟩) (b72_1 a0_0 a0_1 a0_2 a0_3 a1) (fun q => q = r) hr rfl ?_)
    · (simp (maxDischargeDepth := 8) [go_sem])
    · intro s1 hr
      unfold b72_1 at hr
      refine S.goB [] 1000 ?_
      simp (maxSteps := 10000000) only [go_sem, tb72_70, T70, T72, Option.map_some, Int.reduceToNat, Nat.reduceEqDiff, Nat.reduceLT, Nat.reduceAdd, Nat.reduceMul, Nat.reduceSub, Nat.reduceLeDiff, reduceIte, reduceCtorEq, Try.results72]
      repeat refine gA ?_
      refine ⟨fun hc => ?_, fun hc => ?_⟩
      · replace hr := ifP1 hr hc
        obtain ⟨hg2, hr⟩ := of_guard1 hr
        obtain ⟨v1, hv1, hr⟩ := of_bind1 hr
        try simp only [hv1, Option.getD_some, Option.isSome_some, true_and, and_assoc]
        repeat refine gA ?_
        refine ⟨fun hc => ?_, fun hc => ?_⟩
        · replace hr := ifP1 hr hc
          repeat refine gA ?_
          have hr := of_out0 hr
          obtain rfl := Option.some.inj hr
          (simp (maxDischargeDepth := 8) [go_sem])
        · replace hr := ifN1 hr hc
          repeat refine gA ?_
          refine S.sees [1, 2, 5] [(2, 2)] [] ?_ hr
          (simp (maxDischargeDepth := 8) [go_sem])
      · replace hr := ifN1 hr hc
        repeat refine gA ?_
        have hr := of_out0 hr
        repeat refine gA ?_
        obtain rfl := Option.some.inj hr
        (simp (maxDischargeDepth := 8) [go_sem])
theorem f72 : FnFact Try.prog 72 T72.sp := ⟨⟨Try.f72, Try.func72, by decide, rfl⟩, v72⟩

/- martensite/martensiteref03.CopyDrives -/
def b67_1 (a0 : List ((List (Int)) × Int)) : ((List ((List (Int)) × Int)) × Int) → Ctl ((List ((List (Int)) × Int)) × Int) ((List ((List (Int)) × Int))) := fun s1 =>
  if (decide (s1.2 < (a0.length : Int))) = true then
   if 0 ≤ s1.2 ∧ s1.2 < (a0.length : Int) then
    bindC (r65 ((a0.getD s1.2.toNat default).1) ((a0.getD s1.2.toNat default).2)) fun v1 =>
     if (s1.1.length + 1) * 32 ≤ 140737488355328 ∧ s1.1.length + 1 ≤ 9223372036854775807 then
      .next (s1.1 ++ [(v1.1, v1.2)], IntKind.i64.wrap (s1.2 + 1))
      else .out none
    else .out none
   else .out (some s1.1)
def r67 (a0 : List ((List (Int)) × Int)) : Option ((List ((List (Int)) × Int))) :=
  iterC (b67_1 a0) 1000000000 ([], 0)
def T67 : TSpec ((List ((List (Int)) × Int))) where
  enc x := [.c (encF 2 d_LIEI x)]
  dec a := decF g_LIEI (aCell a 0 0)
  pre x := (r67 x).isSome = true
  res x := [.c (.own (encF 2 d_LIEI ((r67 x).getD default)))]
  al := true
def tb67 : Fns := lk [(65, T65.sp)]
theorem tb67_ok : FnsOk Try.prog tb67 := .cons f65 (FnsOk.nil)
theorem tb67_65 : tb67 65 = some T65.sp := rfl
theorem v67 : Valid Try.prog 67 T67.sp := by
  refine valid_t (fn := Try.f67) (n := 20) ty_ok tb67_ok Try.func67 rfl Try.ntmps67 ?_
  rintro a0 hx
  obtain ⟨r, hr⟩ := Option.isSome_iff_exists.1 (show (r67 a0).isSome = true from hx)
  have hres : T67.res a0 = [.c (.own (encF 2 d_LIEI r))] := by simp only [T67, hr, Option.getD_some]
  refine ⟨Nat.le_of_ble_eq_true rfl, fun stop S => ?_⟩
  rw [hres] at S
  unfold r67 at hr
  refine S.goB [] 1000 ?_
  simp (maxSteps := 10000000) only [go_sem, tb67_65, T65, T67, Option.map_some, Int.reduceToNat, Nat.reduceEqDiff, Nat.reduceLT, Nat.reduceAdd, Nat.reduceMul, Nat.reduceSub, Nat.reduceLeDiff, reduceIte, reduceCtorEq, Try.results67]
  repeat refine gA ?_
  refine S.own0 3 1000300 2 rfl rfl ?_
  refine S.sees [0, 3, 4] [] [(1000300, 1000300)] ?_ (Stop.iter S (fun s1 => ⟨[(0, .c (.d (encF 2 d_LIEI a0))), (3, .c (.own 1000300)), (4, .c (.d (.int .i64 s1.2)))], [], [(1000300, .owned (encF 2 d_LIEI s1.1))]⟩) (b67_1 a0) (fun q => q = r) hr rfl ?_)
  · (simp (maxDischargeDepth := 8) [go_sem])
  · intro s1 hr
    unfold b67_1 at hr
    refine S.goB [] 1000 ?_
    simp (maxSteps := 10000000) only [go_sem, tb67_65, T65, T67, Option.map_some, Int.reduceToNat, Nat.reduceEqDiff, Nat.reduceLT, Nat.reduceAdd, Nat.reduceMul, Nat.reduceSub, Nat.reduceLeDiff, reduceIte, reduceCtorEq, Try.results67]
    repeat refine gA ?_
    refine ⟨fun hc => ?_, fun hc => ?_⟩
    · replace hr := ifP1 hr hc
      obtain ⟨hg2, hr⟩ := of_guard1 hr
      obtain ⟨v1, hv1, hr⟩ := of_bind1 hr
      obtain ⟨hg3, hr⟩ := of_guard1 hr
      try simp only [hv1, Option.getD_some, Option.isSome_some, true_and, and_assoc]
      repeat refine gA ?_
      refine S.sees [0, 3, 4] [] [(18, 1000300)] ?_ hr
      (simp (maxDischargeDepth := 8) [go_sem])
    · replace hr := ifN1 hr hc
      repeat refine gA ?_
      have hr := of_out0 hr
      repeat refine gA ?_
      obtain rfl := Option.some.inj hr
      (simp (maxDischargeDepth := 8) [go_sem])
theorem f67 : FnFact Try.prog 67 T67.sp := ⟨⟨Try.f67, Try.func67, by decide, rfl⟩, v67⟩

/- (martensite/heat.part).drivesErr -/
def b158_1 (a0_0 : Int) (a0_1 : Int) (a0_2 : List (Int × Int)) (a0_3 : List ((List (Int × Int)))) (a0_4 : List (Int × Int)) (a0_5 : List ((List (Int × Int)))) (a1 : List ((List (Int)) × Int)) : (Int × Int) → Ctl (Int × Int) (Int) := fun s1 =>
  if (decide (s1.2 < (a1.length : Int))) = true then
   if 0 ≤ s1.2 ∧ s1.2 < (a1.length : Int) then
    bindC (r92 a0_0 a0_1 a0_2 a0_3 a0_4 a0_5 ((a1.getD s1.2.toNat default).1) ((a1.getD s1.2.toNat default).2)) fun v2 =>
     bindC (r91 [s1.1, v2]) fun v3 =>
      .next (v3, IntKind.i64.wrap (s1.2 + 1))
    else .out none
   else .out (some s1.1)
def r158 (a0_0 : Int) (a0_1 : Int) (a0_2 : List (Int × Int)) (a0_3 : List ((List (Int × Int)))) (a0_4 : List (Int × Int)) (a0_5 : List ((List (Int × Int)))) (a1 : List ((List (Int)) × Int)) : Option (Int) :=
  (r94 (decide ((a1.length : Int) ≤ 200)) 8).bind fun v1 =>
   iterC (b158_1 a0_0 a0_1 a0_2 a0_3 a0_4 a0_5 a1) 1000000000 (v1, 0)
def T158 : TSpec (Int × Int × (List (Int × Int)) × (List ((List (Int × Int)))) × (List (Int × Int)) × (List ((List (Int × Int)))) × (List ((List (Int)) × Int))) where
  enc x := [.agg [.int .i64 x.1, .int .i64 x.2.1, encF 2 d_II x.2.2.1, encF 1 d_LIIE x.2.2.2.1, encF 2 d_II x.2.2.2.2.1, encF 1 d_LIIE x.2.2.2.2.2.1], .c (encF 2 d_LIEI x.2.2.2.2.2.2)]
  dec a := (dInt (aCell a 0 0), dInt (aCell a 0 1), decF g_II (aCell a 0 2), decF g_LIIE (aCell a 0 3), decF g_II (aCell a 0 4), decF g_LIIE (aCell a 0 5), decF g_LIEI (aCell a 1 0))
  pre x := (r158 x.1 x.2.1 x.2.2.1 x.2.2.2.1 x.2.2.2.2.1 x.2.2.2.2.2.1 x.2.2.2.2.2.2).isSome = true
  res x := [.c (.d (.int .i64 ((r158 x.1 x.2.1 x.2.2.1 x.2.2.2.1 x.2.2.2.2.1 x.2.2.2.2.2.1 x.2.2.2.2.2.2).getD default)))]
  al := false
def tb158 : Fns := lk [(91, T91.sp), (92, T92.sp), (94, T94.sp)]
theorem tb158_ok : FnsOk Try.prog tb158 := .cons f91 (.cons f92 (.cons f94 (FnsOk.nil)))
theorem tb158_91 : tb158 91 = some T91.sp := rfl
theorem tb158_92 : tb158 92 = some T92.sp := rfl
theorem tb158_94 : tb158 94 = some T94.sp := rfl
theorem v158 : Valid Try.prog 158 T158.sp := by
  refine valid_t (fn := Try.f158) (n := 26) ty_ok tb158_ok Try.func158 rfl Try.ntmps158 ?_
  rintro ⟨a0_0, a0_1, a0_2, a0_3, a0_4, a0_5, a1⟩ hx
  obtain ⟨r, hr⟩ := Option.isSome_iff_exists.1 (show (r158 a0_0 a0_1 a0_2 a0_3 a0_4 a0_5 a1).isSome = true from hx)
  have hres : T158.res (a0_0, a0_1, a0_2, a0_3, a0_4, a0_5, a1) = [.c (.d (.int .i64 r))] := by simp only [T158, hr, Option.getD_some]
  refine ⟨Nat.le_of_ble_eq_true rfl, fun stop S => ?_⟩
  rw [hres] at S
  unfold r158 at hr
  refine S.goB [] 1000 ?_
  simp (maxSteps := 10000000) only [go_sem, tb158_91, T91, tb158_92, T92, tb158_94, T94, T158, Option.map_some, Int.reduceToNat, Nat.reduceEqDiff, Nat.reduceLT, Nat.reduceAdd, Nat.reduceMul, Nat.reduceSub, Nat.reduceLeDiff, reduceIte, reduceCtorEq, Try.results158]
  obtain ⟨v1, hv1, hr⟩ := of_bind0 hr
  try simp only [hv1, Option.getD_some, Option.isSome_some, true_and, and_assoc]
  repeat refine gA ?_
  refine S.sees [2, 5, 12, 13, 14] [(2, 2)] [] ?_ (Stop.iter S (fun s1 => ⟨[(2, .c (.ref 2 0)), (5, .c (.d (.int .i64 s1.1))), (12, .c (.d (encF 2 d_LIEI a1))), (13, .c (.d (.int .i64 (a1.length : Int)))), (14, .c (.d (.int .i64 s1.2)))], [(2, [.d (.int .i64 a0_0), .d (.int .i64 a0_1), .d (encF 2 d_II a0_2), .d (encF 1 d_LIIE a0_3), .d (encF 2 d_II a0_4), .d (encF 1 d_LIIE a0_5)])], []⟩) (b158_1 a0_0 a0_1 a0_2 a0_3 a0_4 a0_5 a1) (fun q => q = r) hr rfl ?_)
  · (simp (maxDischargeDepth := 8) [go_sem])
  · intro s1 hr
    unfold b158_1 at hr
    refine S.goB [] 1000 ?_
    simp (maxSteps := 10000000) only [go_sem, tb158_91, T91, tb158_92, T92, tb158_94, T94, T158, Option.map_some, Int.reduceToNat, Nat.reduceEqDiff, Nat.reduceLT, Nat.reduceAdd, Nat.reduceMul, Nat.reduceSub, Nat.reduceLeDiff, reduceIte, reduceCtorEq, Try.results158]
    repeat refine gA ?_
    refine ⟨fun hc => ?_, fun hc => ?_⟩
    · replace hr := ifP1 hr hc
      obtain ⟨hg4, hr⟩ := of_guard1 hr
      obtain ⟨v2, hv2, hr⟩ := of_bind1 hr
      obtain ⟨v3, hv3, hr⟩ := of_bind1 hr
      try simp only [hv2, hv3, Option.getD_some, Option.isSome_some, true_and, and_assoc]
      repeat refine gA ?_
      refine S.sees [2, 5, 12, 13, 14] [(2, 2)] [] ?_ hr
      (simp (maxDischargeDepth := 8) [go_sem])
    · replace hr := ifN1 hr hc
      repeat refine gA ?_
      have hr := of_out0 hr
      repeat refine gA ?_
      obtain rfl := Option.some.inj hr
      (simp (maxDischargeDepth := 8) [go_sem])
theorem f158 : FnFact Try.prog 158 T158.sp := ⟨⟨Try.f158, Try.func158, by decide, rfl⟩, v158⟩

/- martensite/heat.run -/
def b132_1 (a2 : List ((List (Int)) × Int)) (v1 : Int × Int × (List (Int × Int)) × (List ((List (Int × Int)))) × (List (Int × Int)) × (List ((List (Int × Int)))) × Int) : ((List ((List (Int)))) × Int × (List (Int)) × Int) → Ctl ((List ((List (Int)))) × Int × (List (Int)) × Int) ((List ((List (Int)))) × Int × Int) := fun s1 =>
  if (decide (s1.2.2.2 < (a2.length : Int))) = true then
   if 0 ≤ s1.2.2.2 ∧ s1.2.2.2 < (a2.length : Int) then
    bindC (r96 v1.1 v1.2.1 v1.2.2.1 v1.2.2.2.1 v1.2.2.2.2.1 v1.2.2.2.2.2.1 s1.2.2.1 ((a2.getD s1.2.2.2.toNat default).1) ((a2.getD s1.2.2.2.toNat default).2)) fun v3 =>
     if (v3.2.2 != 0) = true then
      .out (some ([], 0, v3.2.2))
      else if (s1.1.length + 1) * 24 ≤ 140737488355328 ∧ s1.1.length + 1 ≤ 9223372036854775807 then
       .next (s1.1 ++ [v3.1], IntKind.i64.wrap (s1.2.1 + v3.2.1), v3.1, IntKind.i64.wrap (s1.2.2.2 + 1))
       else .out none
    else .out none
   else .out (some (s1.1, s1.2.1, 0))
def b132_2 (a2 : List ((List (Int)) × Int)) (v1 : Int × Int × (List (Int × Int)) × (List ((List (Int × Int)))) × (List (Int × Int)) × (List ((List (Int × Int)))) × Int) : ((List ((List (Int)))) × Int × (List (Int)) × Int) → Ctl ((List ((List (Int)))) × Int × (List (Int)) × Int) ((List ((List (Int)))) × Int × Int) := fun s2 =>
  if (decide (s2.2.2.2 < (a2.length : Int))) = true then
   if 0 ≤ s2.2.2.2 ∧ s2.2.2.2 < (a2.length : Int) then
    bindC (r96 v1.1 v1.2.1 v1.2.2.1 v1.2.2.2.1 v1.2.2.2.2.1 v1.2.2.2.2.2.1 s2.2.2.1 ((a2.getD s2.2.2.2.toNat default).1) ((a2.getD s2.2.2.2.toNat default).2)) fun v6 =>
     if (v6.2.2 != 0) = true then
      .out (some ([], 0, v6.2.2))
      else if (s2.1.length + 1) * 24 ≤ 140737488355328 ∧ s2.1.length + 1 ≤ 9223372036854775807 then
       .next (s2.1 ++ [v6.1], IntKind.i64.wrap (s2.2.1 + v6.2.1), v6.1, IntKind.i64.wrap (s2.2.2.2 + 1))
       else .out none
    else .out none
   else .out (some (s2.1, s2.2.1, 0))
def r132 (a0_0 : Int) (a0_1 : Int) (a0_2 : List (Int × Int)) (a0_3 : List ((List (Int × Int)))) (a1 : List (Int)) (a2 : List ((List (Int)) × Int)) : Option ((List ((List (Int)))) × Int × Int) :=
  (r89 a0_0 a0_1 a0_2 a0_3 a1).bind fun v1 =>
   if (v1.2.2.2.2.2.2 == 0) = true then
    (r158 v1.1 v1.2.1 v1.2.2.1 v1.2.2.2.1 v1.2.2.2.2.1 v1.2.2.2.2.2.1 a2).bind fun v2 =>
     if (v2 != 0) = true then
      some ([], 0, v2)
      else iterC (b132_1 a2 v1) 1000000000 ([], 0, a1, 0)
    else if (v1.2.2.2.2.2.2 != 0) = true then
     some ([], 0, v1.2.2.2.2.2.2)
     else iterC (b132_2 a2 v1) 1000000000 ([], 0, a1, 0)
def T132 : TSpec (Int × Int × (List (Int × Int)) × (List ((List (Int × Int)))) × (List (Int)) × (List ((List (Int)) × Int))) where
  enc x := [.agg [.int .i64 x.1, .int .i64 x.2.1, encF 2 d_II x.2.2.1, encF 1 d_LIIE x.2.2.2.1], .c (encF 1 d_I x.2.2.2.2.1), .c (encF 2 d_LIEI x.2.2.2.2.2)]
  dec a := (dInt (aCell a 0 0), dInt (aCell a 0 1), decF g_II (aCell a 0 2), decF g_LIIE (aCell a 0 3), decF g_I (aCell a 1 0), decF g_LIEI (aCell a 2 0))
  pre x := (r132 x.1 x.2.1 x.2.2.1 x.2.2.2.1 x.2.2.2.2.1 x.2.2.2.2.2).isSome = true
  res x := [.c (.own (encF 1 d_LIE (((r132 x.1 x.2.1 x.2.2.1 x.2.2.2.1 x.2.2.2.2.1 x.2.2.2.2.2).getD default).1))), .c (.d (.int .i64 (((r132 x.1 x.2.1 x.2.2.1 x.2.2.2.1 x.2.2.2.2.1 x.2.2.2.2.2).getD default).2.1))), .c (.d (.int .i64 (((r132 x.1 x.2.1 x.2.2.1 x.2.2.2.1 x.2.2.2.2.1 x.2.2.2.2.2).getD default).2.2)))]
  al := true
def tb132 : Fns := lk [(89, T89.sp), (96, T96.sp), (158, T158.sp)]
theorem tb132_ok : FnsOk Try.prog tb132 := .cons f89 (.cons f96 (.cons f158 (FnsOk.nil)))
theorem tb132_89 : tb132 89 = some T89.sp := rfl
theorem tb132_96 : tb132 96 = some T96.sp := rfl
theorem tb132_158 : tb132 158 = some T158.sp := rfl
theorem v132 : Valid Try.prog 132 T132.sp := by
  refine valid_t (fn := Try.f132) (n := 62) ty_ok tb132_ok Try.func132 rfl Try.ntmps132 ?_
  rintro ⟨a0_0, a0_1, a0_2, a0_3, a1, a2⟩ hx
  obtain ⟨r, hr⟩ := Option.isSome_iff_exists.1 (show (r132 a0_0 a0_1 a0_2 a0_3 a1 a2).isSome = true from hx)
  have hres : T132.res (a0_0, a0_1, a0_2, a0_3, a1, a2) = [.c (.own (encF 1 d_LIE r.1)), .c (.d (.int .i64 r.2.1)), .c (.d (.int .i64 r.2.2))] := by simp only [T132, hr, Option.getD_some]
  refine ⟨Nat.le_of_ble_eq_true rfl, fun stop S => ?_⟩
  rw [hres] at S
  unfold r132 at hr
  refine S.goB [] 1000 ?_
  simp (maxSteps := 10000000) only [go_sem, tb132_89, T89, tb132_96, T96, tb132_158, T158, T132, Option.map_some, Int.reduceToNat, Nat.reduceEqDiff, Nat.reduceLT, Nat.reduceAdd, Nat.reduceMul, Nat.reduceSub, Nat.reduceLeDiff, reduceIte, reduceCtorEq, Try.results132]
  obtain ⟨v1, hv1, hr⟩ := of_bind0 hr
  try simp only [hv1, Option.getD_some, Option.isSome_some, true_and, and_assoc]
  repeat refine gA ?_
  refine ⟨fun hc => ?_, fun hc => ?_⟩
  · replace hr := ifP hr hc
    obtain ⟨v2, hv2, hr⟩ := of_bind0 hr
    try simp only [hv2, Option.getD_some, Option.isSome_some, true_and, and_assoc]
    repeat refine gA ?_
    refine ⟨fun hc => ?_, fun hc => ?_⟩
    · replace hr := ifP hr hc
      repeat refine gA ?_
      obtain rfl := Option.some.inj hr
      (simp (maxDischargeDepth := 8) [go_sem])
    · replace hr := ifN hr hc
      repeat refine gA ?_
      refine S.own0 11 1001100 1 rfl rfl ?_
      refine S.sees [9, 11, 12, 13, 34, 35, 36] [(9, 9)] [(1001100, 1001100), (22, 22), (10022, 10022)] ?_ (Stop.iter S (fun s1 => ⟨[(9, .c (.ref 9 0)), (11, .c (.own 1001100)), (12, .c (.d (.int .i64 s1.2.1))), (13, .c (.d (encF 1 d_I s1.2.2.1))), (34, .c (.d (encF 2 d_LIEI a2))), (35, .c (.d (.int .i64 (a2.length : Int)))), (36, .c (.d (.int .i64 s1.2.2.2)))], [(9, [.d (.int .i64 v1.1), .d (.int .i64 v1.2.1), .d (encF 2 d_II v1.2.2.1), .d (encF 1 d_LIIE v1.2.2.2.1), .own 22, .own 10022])], [(1001100, .owned (encF 1 d_LIE s1.1)), (22, .owned (encF 2 d_II v1.2.2.2.2.1)), (10022, .owned (encF 1 d_LIIE v1.2.2.2.2.2.1))]⟩) (b132_1 a2 v1) (fun q => q = r) hr rfl ?_)
      · (simp (maxDischargeDepth := 8) [go_sem])
      · intro s1 hr
        unfold b132_1 at hr
        refine S.goB [] 1000 ?_
        simp (maxSteps := 10000000) only [go_sem, tb132_89, T89, tb132_96, T96, tb132_158, T158, T132, Option.map_some, Int.reduceToNat, Nat.reduceEqDiff, Nat.reduceLT, Nat.reduceAdd, Nat.reduceMul, Nat.reduceSub, Nat.reduceLeDiff, reduceIte, reduceCtorEq, Try.results132]
        repeat refine gA ?_
        refine ⟨fun hc => ?_, fun hc => ?_⟩
        · replace hr := ifP1 hr hc
          obtain ⟨hg5, hr⟩ := of_guard1 hr
          obtain ⟨v3, hv3, hr⟩ := of_bind1 hr
          try simp only [hv3, Option.getD_some, Option.isSome_some, true_and, and_assoc]
          repeat refine gA ?_
          refine ⟨fun hc => ?_, fun hc => ?_⟩
          · replace hr := ifP1 hr hc
            repeat refine gA ?_
            have hr := of_out0 hr
            obtain rfl := Option.some.inj hr
            (simp (maxDischargeDepth := 8) [go_sem])
          · replace hr := ifN1 hr hc
            obtain ⟨hg4, hr⟩ := of_guard1 hr
            repeat refine gA ?_
            refine S.sees [9, 11, 12, 13, 34, 35, 36] [(9, 9)] [(55, 1001100), (22, 22), (10022, 10022)] ?_ hr
            (simp (maxDischargeDepth := 8) [go_sem])
        · replace hr := ifN1 hr hc
          repeat refine gA ?_
          have hr := of_out0 hr
          repeat refine gA ?_
          obtain rfl := Option.some.inj hr
          (simp (maxDischargeDepth := 8) [go_sem])
  · replace hr := ifN hr hc
    repeat refine gA ?_
    refine ⟨fun hc => ?_, fun hc => ?_⟩
    · replace hr := ifP hr hc
      repeat refine gA ?_
      obtain rfl := Option.some.inj hr
      (simp (maxDischargeDepth := 8) [go_sem])
    · replace hr := ifN hr hc
      repeat refine gA ?_
      refine S.own0 11 1001100 1 rfl rfl ?_
      refine S.sees [9, 11, 12, 13, 34, 35, 36] [(9, 9)] [(1001100, 1001100), (22, 22), (10022, 10022)] ?_ (Stop.iter S (fun s2 => ⟨[(9, .c (.ref 9 0)), (11, .c (.own 1001100)), (12, .c (.d (.int .i64 s2.2.1))), (13, .c (.d (encF 1 d_I s2.2.2.1))), (34, .c (.d (encF 2 d_LIEI a2))), (35, .c (.d (.int .i64 (a2.length : Int)))), (36, .c (.d (.int .i64 s2.2.2.2)))], [(9, [.d (.int .i64 v1.1), .d (.int .i64 v1.2.1), .d (encF 2 d_II v1.2.2.1), .d (encF 1 d_LIIE v1.2.2.2.1), .own 22, .own 10022])], [(1001100, .owned (encF 1 d_LIE s2.1)), (22, .owned (encF 2 d_II v1.2.2.2.2.1)), (10022, .owned (encF 1 d_LIIE v1.2.2.2.2.2.1))]⟩) (b132_2 a2 v1) (fun q => q = r) hr rfl ?_)
      · (simp (maxDischargeDepth := 8) [go_sem])
      · intro s2 hr
        unfold b132_2 at hr
        refine S.goB [] 1000 ?_
        simp (maxSteps := 10000000) only [go_sem, tb132_89, T89, tb132_96, T96, tb132_158, T158, T132, Option.map_some, Int.reduceToNat, Nat.reduceEqDiff, Nat.reduceLT, Nat.reduceAdd, Nat.reduceMul, Nat.reduceSub, Nat.reduceLeDiff, reduceIte, reduceCtorEq, Try.results132]
        repeat refine gA ?_
        refine ⟨fun hc => ?_, fun hc => ?_⟩
        · replace hr := ifP1 hr hc
          obtain ⟨hg8, hr⟩ := of_guard1 hr
          obtain ⟨v6, hv6, hr⟩ := of_bind1 hr
          try simp only [hv6, Option.getD_some, Option.isSome_some, true_and, and_assoc]
          repeat refine gA ?_
          refine ⟨fun hc => ?_, fun hc => ?_⟩
          · replace hr := ifP1 hr hc
            repeat refine gA ?_
            have hr := of_out0 hr
            obtain rfl := Option.some.inj hr
            (simp (maxDischargeDepth := 8) [go_sem])
          · replace hr := ifN1 hr hc
            obtain ⟨hg7, hr⟩ := of_guard1 hr
            repeat refine gA ?_
            refine S.sees [9, 11, 12, 13, 34, 35, 36] [(9, 9)] [(55, 1001100), (22, 22), (10022, 10022)] ?_ hr
            (simp (maxDischargeDepth := 8) [go_sem])
        · replace hr := ifN1 hr hc
          repeat refine gA ?_
          have hr := of_out0 hr
          repeat refine gA ?_
          obtain rfl := Option.some.inj hr
          (simp (maxDischargeDepth := 8) [go_sem])
theorem f132 : FnFact Try.prog 132 T132.sp := ⟨⟨Try.f132, Try.func132, by decide, rfl⟩, v132⟩

/- martensite/heat.sum -/
def b133_1 (a0 : List (Int)) : (Int × Int) → Ctl (Int × Int) (Int) := fun s1 =>
  if (decide (s1.2 < (a0.length : Int))) = true then
   if 0 ≤ s1.2 ∧ s1.2 < (a0.length : Int) then
    .next (IntKind.i64.wrap (s1.1 + (a0.getD s1.2.toNat default)), IntKind.i64.wrap (s1.2 + 1))
    else .out none
   else .out (some s1.1)
def r133 (a0 : List (Int)) : Option (Int) :=
  iterC (b133_1 a0) 1000000000 (0, 0)
def T133 : TSpec ((List (Int))) where
  enc x := [.c (encF 1 d_I x)]
  dec a := decF g_I (aCell a 0 0)
  pre x := (r133 x).isSome = true
  res x := [.c (.d (.int .i64 ((r133 x).getD default)))]
  al := false
def tb133 : Fns := lk []
theorem tb133_ok : FnsOk Try.prog tb133 := FnsOk.nil
theorem v133 : Valid Try.prog 133 T133.sp := by
  refine valid_t (fn := Try.f133) (n := 17) ty_ok tb133_ok Try.func133 rfl Try.ntmps133 ?_
  rintro a0 hx
  obtain ⟨r, hr⟩ := Option.isSome_iff_exists.1 (show (r133 a0).isSome = true from hx)
  have hres : T133.res a0 = [.c (.d (.int .i64 r))] := by simp only [T133, hr, Option.getD_some]
  refine ⟨Nat.le_of_ble_eq_true rfl, fun stop S => ?_⟩
  rw [hres] at S
  unfold r133 at hr
  refine S.goB [] 1000 ?_
  simp (maxSteps := 10000000) only [go_sem, T133, Option.map_some, Int.reduceToNat, Nat.reduceEqDiff, Nat.reduceLT, Nat.reduceAdd, Nat.reduceMul, Nat.reduceSub, Nat.reduceLeDiff, reduceIte, reduceCtorEq, Try.results133]
  repeat refine gA ?_
  refine S.sees [3, 6, 7, 8] [] [] ?_ (Stop.iter S (fun s1 => ⟨[(3, .c (.d (.int .i64 s1.1))), (6, .c (.d (encF 1 d_I a0))), (7, .c (.d (.int .i64 (a0.length : Int)))), (8, .c (.d (.int .i64 s1.2)))], [], []⟩) (b133_1 a0) (fun q => q = r) hr rfl ?_)
  · (simp (maxDischargeDepth := 8) [go_sem])
  · intro s1 hr
    unfold b133_1 at hr
    refine S.goB [] 1000 ?_
    simp (maxSteps := 10000000) only [go_sem, T133, Option.map_some, Int.reduceToNat, Nat.reduceEqDiff, Nat.reduceLT, Nat.reduceAdd, Nat.reduceMul, Nat.reduceSub, Nat.reduceLeDiff, reduceIte, reduceCtorEq, Try.results133]
    repeat refine gA ?_
    refine ⟨fun hc => ?_, fun hc => ?_⟩
    · replace hr := ifP1 hr hc
      obtain ⟨hg1, hr⟩ := of_guard1 hr
      repeat refine gA ?_
      refine S.sees [3, 6, 7, 8] [] [] ?_ hr
      (simp (maxDischargeDepth := 8) [go_sem])
    · replace hr := ifN1 hr hc
      repeat refine gA ?_
      have hr := of_out0 hr
      repeat refine gA ?_
      obtain rfl := Option.some.inj hr
      (simp (maxDischargeDepth := 8) [go_sem])
theorem f133 : FnFact Try.prog 133 T133.sp := ⟨⟨Try.f133, Try.func133, by decide, rfl⟩, v133⟩

/- martensite/heat.BalanceOf -/
def b68_1 (a2 : List ((List (Int)) × Int)) (v1 : (List ((List (Int)))) × Int × Int) (v2 : Int) (v3 : Int) : (Int × Int) → Ctl (Int × Int) (Int × Int × Int × Int × Int) := fun s1 =>
  if (decide (s1.1 < (a2.length : Int))) = true then
   if 0 ≤ s1.1 ∧ s1.1 < (a2.length : Int) then
    bindC (r133 ((a2.getD s1.1.toNat default).1)) fun v4 =>
     .next (IntKind.i64.wrap (s1.1 + 1), IntKind.i64.wrap (s1.2 + v4))
    else .out none
   else .out (some (v2, s1.2, v1.2.1, v3, 0))
def b68_2 (a2 : List ((List (Int)) × Int)) (v1 : (List ((List (Int)))) × Int × Int) (v2 : Int) : (Int × Int) → Ctl (Int × Int) (Int × Int × Int × Int × Int) := fun s2 =>
  if (decide (s2.1 < (a2.length : Int))) = true then
   if 0 ≤ s2.1 ∧ s2.1 < (a2.length : Int) then
    bindC (r133 ((a2.getD s2.1.toNat default).1)) fun v7 =>
     .next (IntKind.i64.wrap (s2.1 + 1), IntKind.i64.wrap (s2.2 + v7))
    else .out none
   else .out (some (v2, s2.2, v1.2.1, v2, 0))
def r68 (a0_0 : Int) (a0_1 : Int) (a0_2 : List (Int × Int)) (a0_3 : List ((List (Int × Int)))) (a1 : List (Int)) (a2 : List ((List (Int)) × Int)) : Option (Int × Int × Int × Int × Int) :=
  (r132 a0_0 a0_1 a0_2 a0_3 a1 a2).bind fun v1 =>
   if (v1.2.2 != 0) = true then
    some (0, 0, 0, 0, v1.2.2)
    else (r133 a1).bind fun v2 =>
     if (decide ((v1.1.length : Int) > 0)) = true then
      if 0 ≤ IntKind.i64.wrap ((v1.1.length : Int) - 1) ∧ IntKind.i64.wrap ((v1.1.length : Int) - 1) < (v1.1.length : Int) then
       (r133 (v1.1.getD (IntKind.i64.wrap ((v1.1.length : Int) - 1)).toNat default)).bind fun v3 =>
        iterC (b68_1 a2 v1 v2 v3) 1000000000 (0, 0)
       else none
      else iterC (b68_2 a2 v1 v2) 1000000000 (0, 0)
def T68 : TSpec (Int × Int × (List (Int × Int)) × (List ((List (Int × Int)))) × (List (Int)) × (List ((List (Int)) × Int))) where
  enc x := [.agg [.int .i64 x.1, .int .i64 x.2.1, encF 2 d_II x.2.2.1, encF 1 d_LIIE x.2.2.2.1], .c (encF 1 d_I x.2.2.2.2.1), .c (encF 2 d_LIEI x.2.2.2.2.2)]
  dec a := (dInt (aCell a 0 0), dInt (aCell a 0 1), decF g_II (aCell a 0 2), decF g_LIIE (aCell a 0 3), decF g_I (aCell a 1 0), decF g_LIEI (aCell a 2 0))
  pre x := (r68 x.1 x.2.1 x.2.2.1 x.2.2.2.1 x.2.2.2.2.1 x.2.2.2.2.2).isSome = true
  res x := [.agg [.d (.int .i64 (((r68 x.1 x.2.1 x.2.2.1 x.2.2.2.1 x.2.2.2.2.1 x.2.2.2.2.2).getD default).1)), .d (.int .i64 (((r68 x.1 x.2.1 x.2.2.1 x.2.2.2.1 x.2.2.2.2.1 x.2.2.2.2.2).getD default).2.1)), .d (.int .i64 (((r68 x.1 x.2.1 x.2.2.1 x.2.2.2.1 x.2.2.2.2.1 x.2.2.2.2.2).getD default).2.2.1)), .d (.int .i64 (((r68 x.1 x.2.1 x.2.2.1 x.2.2.2.1 x.2.2.2.2.1 x.2.2.2.2.2).getD default).2.2.2.1))], .c (.d (.int .i64 (((r68 x.1 x.2.1 x.2.2.1 x.2.2.2.1 x.2.2.2.2.1 x.2.2.2.2.2).getD default).2.2.2.2)))]
  al := false
def tb68 : Fns := lk [(132, T132.sp), (133, T133.sp)]
theorem tb68_ok : FnsOk Try.prog tb68 := .cons f132 (.cons f133 (FnsOk.nil))
theorem tb68_132 : tb68 132 = some T132.sp := rfl
theorem tb68_133 : tb68 133 = some T133.sp := rfl
theorem v68 : Valid Try.prog 68 T68.sp := by
  refine valid_t (fn := Try.f68) (n := 59) ty_ok tb68_ok Try.func68 rfl Try.ntmps68 ?_
  rintro ⟨a0_0, a0_1, a0_2, a0_3, a1, a2⟩ hx
  obtain ⟨r, hr⟩ := Option.isSome_iff_exists.1 (show (r68 a0_0 a0_1 a0_2 a0_3 a1 a2).isSome = true from hx)
  have hres : T68.res (a0_0, a0_1, a0_2, a0_3, a1, a2) = [.agg [.d (.int .i64 r.1), .d (.int .i64 r.2.1), .d (.int .i64 r.2.2.1), .d (.int .i64 r.2.2.2.1)], .c (.d (.int .i64 r.2.2.2.2))] := by simp only [T68, hr, Option.getD_some]
  refine ⟨Nat.le_of_ble_eq_true rfl, fun stop S => ?_⟩
  rw [hres] at S
  unfold r68 at hr
  refine S.goB [] 1000 ?_
  simp (maxSteps := 10000000) only [go_sem, tb68_132, T132, tb68_133, T133, T68, Option.map_some, Int.reduceToNat, Nat.reduceEqDiff, Nat.reduceLT, Nat.reduceAdd, Nat.reduceMul, Nat.reduceSub, Nat.reduceLeDiff, reduceIte, reduceCtorEq, Try.results68]
  obtain ⟨v1, hv1, hr⟩ := of_bind0 hr
  try simp only [hv1, Option.getD_some, Option.isSome_some, true_and, and_assoc]
  repeat refine gA ?_
  refine ⟨fun hc => ?_, fun hc => ?_⟩
  · replace hr := ifP hr hc
    repeat refine gA ?_
    obtain rfl := Option.some.inj hr
    (simp (maxDischargeDepth := 8) [go_sem])
  · replace hr := ifN hr hc
    obtain ⟨v2, hv2, hr⟩ := of_bind0 hr
    try simp only [hv2, Option.getD_some, Option.isSome_some, true_and, and_assoc]
    repeat refine gA ?_
    refine ⟨fun hc => ?_, fun hc => ?_⟩
    · replace hr := ifP hr hc
      obtain ⟨hg6, hr⟩ := of_guard0 hr
      obtain ⟨v3, hv3, hr⟩ := of_bind0 hr
      try simp only [hv3, Option.getD_some, Option.isSome_some, true_and, and_assoc]
      repeat refine gA ?_
      refine S.sees [6, 11, 44, 45, 46] [(6, 6), (11, 11)] [] ?_ (Stop.iter S (fun s1 => ⟨[(6, .c (.ref 6 0)), (11, .c (.ref 11 0)), (44, .c (.d (encF 2 d_LIEI a2))), (45, .c (.d (.int .i64 (a2.length : Int)))), (46, .c (.d (.int .i64 s1.1)))], [(6, [.d (.int .i64 0), .d (.int .i64 0), .d (.int .i64 0), .d (.int .i64 0)]), (11, [.d (.int .i64 v2), .d (.int .i64 s1.2), .d (.int .i64 v1.2.1), .d (.int .i64 v3)])], []⟩) (b68_1 a2 v1 v2 v3) (fun q => q = r) hr rfl ?_)
      · (simp (maxDischargeDepth := 8) [go_sem])
      · intro s1 hr
        unfold b68_1 at hr
        refine S.goB [] 1000 ?_
        simp (maxSteps := 10000000) only [go_sem, tb68_132, T132, tb68_133, T133, T68, Option.map_some, Int.reduceToNat, Nat.reduceEqDiff, Nat.reduceLT, Nat.reduceAdd, Nat.reduceMul, Nat.reduceSub, Nat.reduceLeDiff, reduceIte, reduceCtorEq, Try.results68]
        repeat refine gA ?_
        refine ⟨fun hc => ?_, fun hc => ?_⟩
        · replace hr := ifP1 hr hc
          obtain ⟨hg5, hr⟩ := of_guard1 hr
          obtain ⟨v4, hv4, hr⟩ := of_bind1 hr
          try simp only [hv4, Option.getD_some, Option.isSome_some, true_and, and_assoc]
          repeat refine gA ?_
          refine S.sees [6, 11, 44, 45, 46] [(6, 6), (11, 11)] [] ?_ hr
          (simp (maxDischargeDepth := 8) [go_sem])
        · replace hr := ifN1 hr hc
          repeat refine gA ?_
          have hr := of_out0 hr
          repeat refine gA ?_
          obtain rfl := Option.some.inj hr
          (simp (maxDischargeDepth := 8) [go_sem])
    · replace hr := ifN hr hc
      repeat refine gA ?_
      refine S.sees [6, 11, 44, 45, 46] [(6, 6), (11, 11)] [] ?_ (Stop.iter S (fun s2 => ⟨[(6, .c (.ref 6 0)), (11, .c (.ref 11 0)), (44, .c (.d (encF 2 d_LIEI a2))), (45, .c (.d (.int .i64 (a2.length : Int)))), (46, .c (.d (.int .i64 s2.1)))], [(6, [.d (.int .i64 0), .d (.int .i64 0), .d (.int .i64 0), .d (.int .i64 0)]), (11, [.d (.int .i64 v2), .d (.int .i64 s2.2), .d (.int .i64 v1.2.1), .d (.int .i64 v2)])], []⟩) (b68_2 a2 v1 v2) (fun q => q = r) hr rfl ?_)
      · (simp (maxDischargeDepth := 8) [go_sem])
      · intro s2 hr
        unfold b68_2 at hr
        refine S.goB [] 1000 ?_
        simp (maxSteps := 10000000) only [go_sem, tb68_132, T132, tb68_133, T133, T68, Option.map_some, Int.reduceToNat, Nat.reduceEqDiff, Nat.reduceLT, Nat.reduceAdd, Nat.reduceMul, Nat.reduceSub, Nat.reduceLeDiff, reduceIte, reduceCtorEq, Try.results68]
        repeat refine gA ?_
        refine ⟨fun hc => ?_, fun hc => ?_⟩
        · replace hr := ifP1 hr hc
          obtain ⟨hg8, hr⟩ := of_guard1 hr
          obtain ⟨v7, hv7, hr⟩ := of_bind1 hr
          try simp only [hv7, Option.getD_some, Option.isSome_some, true_and, and_assoc]
          repeat refine gA ?_
          refine S.sees [6, 11, 44, 45, 46] [(6, 6), (11, 11)] [] ?_ hr
          (simp (maxDischargeDepth := 8) [go_sem])
        · replace hr := ifN1 hr hc
          repeat refine gA ?_
          have hr := of_out0 hr
          repeat refine gA ?_
          obtain rfl := Option.some.inj hr
          (simp (maxDischargeDepth := 8) [go_sem])
theorem f68 : FnFact Try.prog 68 T68.sp := ⟨⟨Try.f68, Try.func68, by decide, rfl⟩, v68⟩

/- martensite/heat.RunOf -/
def r66 (a0_0 : Int) (a0_1 : Int) (a0_2 : List (Int × Int)) (a0_3 : List ((List (Int × Int)))) (a1 : List (Int)) (a2 : List ((List (Int)) × Int)) : Option ((List ((List (Int)))) × Int) :=
  (r132 a0_0 a0_1 a0_2 a0_3 a1 a2).bind fun v1 =>
   some (v1.1, v1.2.2)
def T66 : TSpec (Int × Int × (List (Int × Int)) × (List ((List (Int × Int)))) × (List (Int)) × (List ((List (Int)) × Int))) where
  enc x := [.agg [.int .i64 x.1, .int .i64 x.2.1, encF 2 d_II x.2.2.1, encF 1 d_LIIE x.2.2.2.1], .c (encF 1 d_I x.2.2.2.2.1), .c (encF 2 d_LIEI x.2.2.2.2.2)]
  dec a := (dInt (aCell a 0 0), dInt (aCell a 0 1), decF g_II (aCell a 0 2), decF g_LIIE (aCell a 0 3), decF g_I (aCell a 1 0), decF g_LIEI (aCell a 2 0))
  pre x := (r66 x.1 x.2.1 x.2.2.1 x.2.2.2.1 x.2.2.2.2.1 x.2.2.2.2.2).isSome = true
  res x := [.c (.own (encF 1 d_LIE (((r66 x.1 x.2.1 x.2.2.1 x.2.2.2.1 x.2.2.2.2.1 x.2.2.2.2.2).getD default).1))), .c (.d (.int .i64 (((r66 x.1 x.2.1 x.2.2.1 x.2.2.2.1 x.2.2.2.2.1 x.2.2.2.2.2).getD default).2)))]
  al := true
def tb66 : Fns := lk [(132, T132.sp)]
theorem tb66_ok : FnsOk Try.prog tb66 := .cons f132 (FnsOk.nil)
theorem tb66_132 : tb66 132 = some T132.sp := rfl
theorem v66 : Valid Try.prog 66 T66.sp := by
  refine valid_t (fn := Try.f66) (n := 21) ty_ok tb66_ok Try.func66 rfl Try.ntmps66 ?_
  rintro ⟨a0_0, a0_1, a0_2, a0_3, a1, a2⟩ hx
  obtain ⟨r, hr⟩ := Option.isSome_iff_exists.1 (show (r66 a0_0 a0_1 a0_2 a0_3 a1 a2).isSome = true from hx)
  have hres : T66.res (a0_0, a0_1, a0_2, a0_3, a1, a2) = [.c (.own (encF 1 d_LIE r.1)), .c (.d (.int .i64 r.2))] := by simp only [T66, hr, Option.getD_some]
  refine ⟨Nat.le_of_ble_eq_true rfl, fun stop S => ?_⟩
  rw [hres] at S
  unfold r66 at hr
  refine S.goB [] 1000 ?_
  simp (maxSteps := 10000000) only [go_sem, tb66_132, T132, T66, Option.map_some, Int.reduceToNat, Nat.reduceEqDiff, Nat.reduceLT, Nat.reduceAdd, Nat.reduceMul, Nat.reduceSub, Nat.reduceLeDiff, reduceIte, reduceCtorEq, Try.results66]
  obtain ⟨v1, hv1, hr⟩ := of_bind0 hr
  try simp only [hv1, Option.getD_some, Option.isSome_some, true_and, and_assoc]
  repeat refine gA ?_
  obtain rfl := Option.some.inj hr
  (simp (maxDischargeDepth := 8) [go_sem])
theorem f66 : FnFact Try.prog 66 T66.sp := ⟨⟨Try.f66, Try.func66, by decide, rfl⟩, v66⟩

/- martensite/martensiteref03.Total -/
def b79_1 (a0 : List (Int)) : (Int × Int) → Ctl (Int × Int) (Int) := fun s1 =>
  if (decide (s1.2 < (a0.length : Int))) = true then
   if 0 ≤ s1.2 ∧ s1.2 < (a0.length : Int) then
    .next (IntKind.i64.wrap (s1.1 + (a0.getD s1.2.toNat default)), IntKind.i64.wrap (s1.2 + 1))
    else .out none
   else .out (some s1.1)
def r79 (a0 : List (Int)) : Option (Int) :=
  iterC (b79_1 a0) 1000000000 (0, 0)
def T79 : TSpec ((List (Int))) where
  enc x := [.c (encF 1 d_I x)]
  dec a := decF g_I (aCell a 0 0)
  pre x := (r79 x).isSome = true
  res x := [.c (.d (.int .i64 ((r79 x).getD default)))]
  al := false
def tb79 : Fns := lk []
theorem tb79_ok : FnsOk Try.prog tb79 := FnsOk.nil
theorem v79 : Valid Try.prog 79 T79.sp := by
  refine valid_t (fn := Try.f79) (n := 18) ty_ok tb79_ok Try.func79 rfl Try.ntmps79 ?_
  rintro a0 hx
  obtain ⟨r, hr⟩ := Option.isSome_iff_exists.1 (show (r79 a0).isSome = true from hx)
  have hres : T79.res a0 = [.c (.d (.int .i64 r))] := by simp only [T79, hr, Option.getD_some]
  refine ⟨Nat.le_of_ble_eq_true rfl, fun stop S => ?_⟩
  rw [hres] at S
  unfold r79 at hr
  refine S.goB [] 1000 ?_
  simp (maxSteps := 10000000) only [go_sem, T79, Option.map_some, Int.reduceToNat, Nat.reduceEqDiff, Nat.reduceLT, Nat.reduceAdd, Nat.reduceMul, Nat.reduceSub, Nat.reduceLeDiff, reduceIte, reduceCtorEq, Try.results79]
  repeat refine gA ?_
  refine S.sees [0, 3, 4] [] [] ?_ (Stop.iter S (fun s1 => ⟨[(0, .c (.d (encF 1 d_I a0))), (3, .c (.d (.int .i64 s1.1))), (4, .c (.d (.int .i64 s1.2)))], [], []⟩) (b79_1 a0) (fun q => q = r) hr rfl ?_)
  · (simp (maxDischargeDepth := 8) [go_sem])
  · intro s1 hr
    unfold b79_1 at hr
    refine S.goB [] 1000 ?_
    simp (maxSteps := 10000000) only [go_sem, T79, Option.map_some, Int.reduceToNat, Nat.reduceEqDiff, Nat.reduceLT, Nat.reduceAdd, Nat.reduceMul, Nat.reduceSub, Nat.reduceLeDiff, reduceIte, reduceCtorEq, Try.results79]
    repeat refine gA ?_
    refine ⟨fun hc => ?_, fun hc => ?_⟩
    · replace hr := ifP1 hr hc
      obtain ⟨hg1, hr⟩ := of_guard1 hr
      repeat refine gA ?_
      refine S.sees [0, 3, 4] [] [] ?_ hr
      (simp (maxDischargeDepth := 8) [go_sem])
    · replace hr := ifN1 hr hc
      repeat refine gA ?_
      have hr := of_out0 hr
      repeat refine gA ?_
      obtain rfl := Option.some.inj hr
      (simp (maxDischargeDepth := 8) [go_sem])
theorem f79 : FnFact Try.prog 79 T79.sp := ⟨⟨Try.f79, Try.func79, by decide, rfl⟩, v79⟩

/- martensite/martensitelaw03.quiet -/
def b80_1 (a0 : List (Int × Int)) : (Int) → Ctl (Int) (Bool) := fun s1 =>
  if (decide (s1 < (a0.length : Int))) = true then
   if 0 ≤ s1 ∧ s1 < (a0.length : Int) then
    if (((a0.getD s1.toNat default).2) != 0) = true then
     .out (some false)
     else .next (IntKind.i64.wrap (s1 + 1))
    else .out none
   else .out (some true)
def r80 (a0 : List (Int × Int)) : Option (Bool) :=
  iterC (b80_1 a0) 1000000000 0
def T80 : TSpec ((List (Int × Int))) where
  enc x := [.c (encF 2 d_II x)]
  dec a := decF g_II (aCell a 0 0)
  pre x := (r80 x).isSome = true
  res x := [.c (.d (.bool ((r80 x).getD default)))]
  al := false
def tb80 : Fns := lk []
theorem tb80_ok : FnsOk Try.prog tb80 := FnsOk.nil
theorem v80 : Valid Try.prog 80 T80.sp := by
  refine valid_t (fn := Try.f80) (n := 16) ty_ok tb80_ok Try.func80 rfl Try.ntmps80 ?_
  rintro a0 hx
  obtain ⟨r, hr⟩ := Option.isSome_iff_exists.1 (show (r80 a0).isSome = true from hx)
  have hres : T80.res a0 = [.c (.d (.bool r))] := by simp only [T80, hr, Option.getD_some]
  refine ⟨Nat.le_of_ble_eq_true rfl, fun stop S => ?_⟩
  rw [hres] at S
  unfold r80 at hr
  refine S.goB [] 1000 ?_
  simp (maxSteps := 10000000) only [go_sem, T80, Option.map_some, Int.reduceToNat, Nat.reduceEqDiff, Nat.reduceLT, Nat.reduceAdd, Nat.reduceMul, Nat.reduceSub, Nat.reduceLeDiff, reduceIte, reduceCtorEq, Try.results80]
  repeat refine gA ?_
  refine S.sees [0, 3] [] [] ?_ (Stop.iter S (fun s1 => ⟨[(0, .c (.d (encF 2 d_II a0))), (3, .c (.d (.int .i64 s1)))], [], []⟩) (b80_1 a0) (fun q => q = r) hr rfl ?_)
  · (simp (maxDischargeDepth := 8) [go_sem])
  · intro s1 hr
    unfold b80_1 at hr
    refine S.goB [] 1000 ?_
    simp (maxSteps := 10000000) only [go_sem, T80, Option.map_some, Int.reduceToNat, Nat.reduceEqDiff, Nat.reduceLT, Nat.reduceAdd, Nat.reduceMul, Nat.reduceSub, Nat.reduceLeDiff, reduceIte, reduceCtorEq, Try.results80]
    repeat refine gA ?_
    refine ⟨fun hc => ?_, fun hc => ?_⟩
    · replace hr := ifP1 hr hc
      obtain ⟨hg1, hr⟩ := of_guard1 hr
      repeat refine gA ?_
      refine ⟨fun hc => ?_, fun hc => ?_⟩
      · replace hr := ifP1 hr hc
        repeat refine gA ?_
        have hr := of_out0 hr
        obtain rfl := Option.some.inj hr
        (simp (maxDischargeDepth := 8) [go_sem])
      · replace hr := ifN1 hr hc
        repeat refine gA ?_
        refine S.sees [0, 3] [] [] ?_ hr
        (simp (maxDischargeDepth := 8) [go_sem])
    · replace hr := ifN1 hr hc
      repeat refine gA ?_
      have hr := of_out0 hr
      repeat refine gA ?_
      obtain rfl := Option.some.inj hr
      (simp (maxDischargeDepth := 8) [go_sem])
theorem f80 : FnFact Try.prog 80 T80.sp := ⟨⟨Try.f80, Try.func80, by decide, rfl⟩, v80⟩

/- martensite/martensitelaw03.inside -/
def b81_2 (a0 : List (Int)) (a1 : List (Int)) (s1 : Int) : (Bool × Bool × Int) → Ctl (Bool × Bool × Int) (Ctl (Int) (Bool)) := fun s2 =>
  if (decide (s2.2.2 < (a1.length : Int))) = true then
   if (!s2.1) = true → 0 ≤ s2.2.2 ∧ s2.2.2 < (a1.length : Int) then
    if (!s2.1) = true → 0 ≤ s1 ∧ s1 < (a0.length : Int) then
     if (!s2.2.1) = true → 0 ≤ s2.2.2 ∧ s2.2.2 < (a1.length : Int) then
      if (!s2.2.1) = true → 0 ≤ s1 ∧ s1 < (a0.length : Int) then
       .next (s2.1 || (decide ((a1.getD s2.2.2.toNat default) ≤ (a0.getD s1.toNat default))), s2.2.1 || (decide ((a1.getD s2.2.2.toNat default) ≥ (a0.getD s1.toNat default))), IntKind.i64.wrap (s2.2.2 + 1))
       else .out none
      else .out none
     else .out none
    else .out none
   else .out (some (if ((!s2.1) || (!s2.2.1)) = true then
    .out (some false)
    else .next (IntKind.i64.wrap (s1 + 1))))
def b81_1 (a0 : List (Int)) (a1 : List (Int)) : (Int) → Ctl (Int) (Bool) := fun s1 =>
  if (decide (s1 < (a0.length : Int))) = true then
   (iterC (b81_2 a0 a1 s1) 1000000000 (false, false, 0)).getD (.out none)
   else .out (some true)
def r81 (a0 : List (Int)) (a1 : List (Int)) : Option (Bool) :=
  iterC (b81_1 a0 a1) 1000000000 0
def T81 : TSpec ((List (Int)) × (List (Int))) where
  enc x := [.c (encF 1 d_I x.1), .c (encF 1 d_I x.2)]
  dec a := (decF g_I (aCell a 0 0), decF g_I (aCell a 1 0))
  pre x := (r81 x.1 x.2).isSome = true
  res x := [.c (.d (.bool ((r81 x.1 x.2).getD default)))]
  al := false
def tb81 : Fns := lk []
theorem tb81_ok : FnsOk Try.prog tb81 := FnsOk.nil
theorem v81 : Valid Try.prog 81 T81.sp := by
  refine valid_t (fn := Try.f81) (n := 51) ty_ok tb81_ok Try.func81 rfl Try.ntmps81 ?_
  rintro ⟨a0, a1⟩ hx
  obtain ⟨r, hr⟩ := Option.isSome_iff_exists.1 (show (r81 a0 a1).isSome = true from hx)
  have hres : T81.res (a0, a1) = [.c (.d (.bool r))] := by simp only [T81, hr, Option.getD_some]
  refine ⟨Nat.le_of_ble_eq_true rfl, fun stop S => ?_⟩
  rw [hres] at S
  unfold r81 at hr
  refine S.goB [] 1000 ?_
  simp (maxSteps := 10000000) only [go_sem, T81, Option.map_some, Int.reduceToNat, Nat.reduceEqDiff, Nat.reduceLT, Nat.reduceAdd, Nat.reduceMul, Nat.reduceSub, Nat.reduceLeDiff, reduceIte, reduceCtorEq, Try.results81]
  repeat refine gA ?_
  refine S.sees [0, 1, 5] [] [] ?_ (Stop.iter S (fun s1 => ⟨[(0, .c (.d (encF 1 d_I a0))), (1, .c (.d (encF 1 d_I a1))), (5, .c (.d (.int .i64 s1)))], [], []⟩) (b81_1 a0 a1) (fun q => q = r) hr rfl ?_)
  · (simp (maxDischargeDepth := 8) [go_sem])
  · intro s1 hr
    unfold b81_1 at hr
    refine S.goB [] 1000 ?_
    simp (maxSteps := 10000000) only [go_sem, T81, Option.map_some, Int.reduceToNat, Nat.reduceEqDiff, Nat.reduceLT, Nat.reduceAdd, Nat.reduceMul, Nat.reduceSub, Nat.reduceLeDiff, reduceIte, reduceCtorEq, Try.results81]
    repeat refine gA ?_
    refine ⟨fun hc => ?_, fun hc => ?_⟩
    · replace hr := ifP1 hr hc
      repeat refine gA ?_
      obtain ⟨q2, hq, hr⟩ := of_iter1 hr
      refine S.sees [0, 1, 5, 6, 7, 8] [] [] ?_ (Stop.iter S (fun s2 => ⟨[(0, .c (.d (encF 1 d_I a0))), (1, .c (.d (encF 1 d_I a1))), (5, .c (.d (.int .i64 s1))), (6, .c (.d (.bool s2.1))), (7, .c (.d (.bool s2.2.1))), (8, .c (.d (.int .i64 s2.2.2)))], [], []⟩) (b81_2 a0 a1 s1) _ hq hr ?_)
      · (simp (maxDischargeDepth := 8) [go_sem])
      · intro s2 hr
        unfold b81_2 at hr
        refine S.goB [] 1000 ?_
        simp (maxSteps := 10000000) only [go_sem, T81, Option.map_some, Int.reduceToNat, Nat.reduceEqDiff, Nat.reduceLT, Nat.reduceAdd, Nat.reduceMul, Nat.reduceSub, Nat.reduceLeDiff, reduceIte, reduceCtorEq, Try.results81]
        repeat refine gA ?_
        refine ⟨fun hc => ?_, fun hc => ?_⟩
        · replace hr := ifP1 hr hc
          obtain ⟨hg1, hr⟩ := of_guard1 hr
          obtain ⟨hg2, hr⟩ := of_guard1 hr
          obtain ⟨hg3, hr⟩ := of_guard1 hr
          obtain ⟨hg4, hr⟩ := of_guard1 hr
          repeat (first | refine gG hg1 ?_ | refine gG hg2 ?_ | refine gG hg3 ?_ | refine gG hg4 ?_ | refine gA ?_ | refine gB ?_)
          refine S.sees [0, 1, 5, 6, 7, 8] [] [] ?_ hr
          (simp (maxDischargeDepth := 8) [go_sem])
        · replace hr := ifN1 hr hc
          repeat refine gA ?_
          replace hr := goodC_out hr
          repeat (first | refine gA ?_ | refine gB ?_)
          refine ⟨fun hc => ?_, fun hc => ?_⟩
          · replace hr := ifP1 hr hc
            repeat refine gA ?_
            have hr := of_out0 hr
            obtain rfl := Option.some.inj hr
            (simp (maxDischargeDepth := 8) [go_sem])
          · replace hr := ifN1 hr hc
            repeat refine gA ?_
            refine S.sees [0, 1, 5] [] [] ?_ hr
            (simp (maxDischargeDepth := 8) [go_sem])
    · replace hr := ifN1 hr hc
      repeat refine gA ?_
      have hr := of_out0 hr
      repeat refine gA ?_
      obtain rfl := Option.some.inj hr
      (simp (maxDischargeDepth := 8) [go_sem])
theorem f81 : FnFact Try.prog 81 T81.sp := ⟨⟨Try.f81, Try.func81, by decide, rfl⟩, v81⟩
end Go.Proofs.Ytcbiiijnaeibhaa

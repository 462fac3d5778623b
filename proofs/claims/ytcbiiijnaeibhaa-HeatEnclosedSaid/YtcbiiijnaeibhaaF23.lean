/- Contracts of functions, written by wip/dec. -/
import Derived.Test.YtcbiiijnaeibhaaF00
import Derived.Test.YtcbiiijnaeibhaaF01
import Derived.Test.YtcbiiijnaeibhaaF02
import Derived.Test.YtcbiiijnaeibhaaF03
import Derived.Test.YtcbiiijnaeibhaaF04
import Derived.Test.YtcbiiijnaeibhaaF06
import Derived.Test.YtcbiiijnaeibhaaF10
import Derived.Test.YtcbiiijnaeibhaaF12
set_option linter.unusedVariables false
set_option linter.unusedSimpArgs false
set_option maxHeartbeats 4000000
set_option maxRecDepth 20000
namespace Go.Proofs.Ytcbiiijnaeibhaa
open Go.Abs
/- martensite/martensitelaw03.spans -/
def b38_1 (a0 : List ((List (Int × Int)) × Int × Int)) : (Int) → Ctl (Int) (Bool) := fun s1 =>
  if (decide (s1 < (a0.length : Int))) = true then
   if 0 ≤ s1 ∧ s1 < (a0.length : Int) then
    if (decide ((((a0.getD s1.toNat default).1).length : Int) > 14)) = true then
     .out (some false)
     else .next (IntKind.i64.wrap (s1 + 1))
    else .out none
   else .out ((r28 (a0.length : Int)).bind fun v2 =>
    some v2)
def r38 (a0 : List ((List (Int × Int)) × Int × Int)) : Option (Bool) :=
  iterC (b38_1 a0) 10000000000000000000 0
def T38 : TSpec ((List ((List (Int × Int)) × Int × Int))) where
  enc x := [.c (encF 3 d_LIIEII x)]
  dec a := decF g_LIIEII (aCell a 0 0)
  pre x := (r38 x).isSome = true
  res x := [.c (.d (.bool ((r38 x).getD default)))]
  al := false
def tb38 : Fns := lk [(28, T28.sp)]
theorem tb38_ok : FnsOk Try.prog tb38 := .cons f28 (FnsOk.nil)
theorem tb38_28 : tb38 28 = some T28.sp := rfl
theorem v38 : Valid Try.prog 38 T38.sp := by
  refine valid_t (fn := Try.f38) (n := 20) ty_ok tb38_ok Try.func38 rfl Try.ntmps38 ?_
  rintro a0 hx
  obtain ⟨r, hr⟩ := Option.isSome_iff_exists.1 (show (r38 a0).isSome = true from hx)
  have hres : T38.res a0 = [.c (.d (.bool r))] := by simp only [T38, hr, Option.getD_some]
  refine ⟨Nat.le_of_ble_eq_true rfl, fun stop S => ?_⟩
  rw [hres] at S
  unfold r38 at hr
  refine S.goB [] 1000 ?_
  simp (maxSteps := 10000000) only [go_sem, tb38_28, T28, T38, Option.map_some, Int.reduceToNat, Nat.reduceEqDiff, Nat.reduceLT, Nat.reduceAdd, Nat.reduceMul, Nat.reduceSub, Nat.reduceLeDiff, reduceIte, reduceCtorEq, Try.results38]
  repeat refine gA ?_
  refine S.sees [0, 3] [] [] ?_ (Stop.iter S (fun s1 => ⟨[(0, .c (.d (encF 3 d_LIIEII a0))), (3, .c (.d (.int .i64 s1)))], [], []⟩) (b38_1 a0) (fun q => q = r) hr rfl ?_)
  · (simp (maxDischargeDepth := 8) [go_sem])
  · intro s1 hr
    unfold b38_1 at hr
    refine S.goB [] 1000 ?_
    simp (maxSteps := 10000000) only [go_sem, tb38_28, T28, T38, Option.map_some, Int.reduceToNat, Nat.reduceEqDiff, Nat.reduceLT, Nat.reduceAdd, Nat.reduceMul, Nat.reduceSub, Nat.reduceLeDiff, reduceIte, reduceCtorEq, Try.results38]
    repeat refine gA ?_
    refine ⟨fun hc => ?_, fun hc => ?_⟩
    · replace hr := ifP1 hr hc
      obtain ⟨hg1, hr⟩ := of_guard1 hr
      repeat refine gA ?_
      refine ⟨fun hc => ?_, fun hc => ?_⟩
      · replace hr := ifP1 hr hc
        repeat refine gA ?_
        have hr := of_out0 hr
        obtain rfl := Option.some.inj hr
        (simp (maxDischargeDepth := 8) [go_sem])
      · replace hr := ifN1 hr hc
        repeat refine gA ?_
        refine S.sees [0, 3] [] [] ?_ hr
        (simp (maxDischargeDepth := 8) [go_sem])
    · replace hr := ifN1 hr hc
      repeat refine gA ?_
      have hr := of_out0 hr
      obtain ⟨v2, hv2, hr⟩ := of_bind0 hr
      try simp only [hv2, Option.getD_some, Option.isSome_some, true_and, and_assoc]
      repeat refine gA ?_
      obtain rfl := Option.some.inj hr
      (simp (maxDischargeDepth := 8) [go_sem])
theorem f38 : FnFact Try.prog 38 T38.sp := ⟨⟨Try.f38, Try.func38, by decide, rfl⟩, v38⟩

/- martensite/martensiteref03.CopyBox -/
def r40 (a0_0 : List (Int)) (a0_1 : List (Int)) : Option ((List (Int)) × (List (Int))) :=
  (r19 a0_0).bind fun v1 =>
   (r19 a0_1).bind fun v2 =>
    some (v1, v2)
def T40 : TSpec ((List (Int)) × (List (Int))) where
  enc x := [.agg [encF 1 d_I x.1, encF 1 d_I x.2]]
  dec a := (decF g_I (aCell a 0 0), decF g_I (aCell a 0 1))
  pre x := (r40 x.1 x.2).isSome = true
  res x := [.agg [.own (encF 1 d_I (((r40 x.1 x.2).getD default).1)), .own (encF 1 d_I (((r40 x.1 x.2).getD default).2))]]
  al := false
def tb40 : Fns := lk [(19, T19.sp)]
theorem tb40_ok : FnsOk Try.prog tb40 := .cons f19 (FnsOk.nil)
theorem tb40_19 : tb40 19 = some T19.sp := rfl
theorem v40 : Valid Try.prog 40 T40.sp := by
  refine valid_t (fn := Try.f40) (n := 10) ty_ok tb40_ok Try.func40 rfl Try.ntmps40 ?_
  rintro ⟨a0_0, a0_1⟩ hx
  obtain ⟨r, hr⟩ := Option.isSome_iff_exists.1 (show (r40 a0_0 a0_1).isSome = true from hx)
  have hres : T40.res (a0_0, a0_1) = [.agg [.own (encF 1 d_I r.1), .own (encF 1 d_I r.2)]] := by simp only [T40, hr, Option.getD_some]
  refine ⟨Nat.le_of_ble_eq_true rfl, fun stop S => ?_⟩
  rw [hres] at S
  unfold r40 at hr
  refine S.goB [] 1000 ?_
  simp (maxSteps := 10000000) only [go_sem, tb40_19, T19, T40, Option.map_some, Int.reduceToNat, Nat.reduceEqDiff, Nat.reduceLT, Nat.reduceAdd, Nat.reduceMul, Nat.reduceSub, Nat.reduceLeDiff, reduceIte, reduceCtorEq, Try.results40]
  obtain ⟨v1, hv1, hr⟩ := of_bind0 hr
  obtain ⟨v2, hv2, hr⟩ := of_bind0 hr
  try simp only [hv1, hv2, Option.getD_some, Option.isSome_some, true_and, and_assoc]
  repeat refine gA ?_
  obtain rfl := Option.some.inj hr
  (simp (maxDischargeDepth := 8) [go_sem])
theorem f40 : FnFact Try.prog 40 T40.sp := ⟨⟨Try.f40, Try.func40, by decide, rfl⟩, v40⟩

/- martensite/heat.CheckBox -/
def r39 (a0_0 : Int) (a0_1 : Int) (a0_2 : List (Int × Int)) (a0_3 : List ((List (Int × Int)))) (a1_0 : List (Int)) (a1_1 : List (Int)) : Option (Int × Int) :=
  (r101 a0_0 a0_1 a0_2 a0_3).bind fun v1 =>
   if (v1.2.2.2.2.2.2 != 0) = true then
    some (0, v1.2.2.2.2.2.2)
    else (r114 v1.1 v1.2.1 v1.2.2.1 v1.2.2.2.1 v1.2.2.2.2.1 v1.2.2.2.2.2.1 a1_0 a1_1).bind fun v2 =>
     some (v2.1, v2.2)
def T39 : TSpec (Int × Int × (List (Int × Int)) × (List ((List (Int × Int)))) × (List (Int)) × (List (Int))) where
  enc x := [.agg [.int .i64 x.1, .int .i64 x.2.1, encF 2 d_II x.2.2.1, encF 1 d_LIIE x.2.2.2.1], .agg [encF 1 d_I x.2.2.2.2.1, encF 1 d_I x.2.2.2.2.2]]
  dec a := (dInt (aCell a 0 0), dInt (aCell a 0 1), decF g_II (aCell a 0 2), decF g_LIIE (aCell a 0 3), decF g_I (aCell a 1 0), decF g_I (aCell a 1 1))
  pre x := (r39 x.1 x.2.1 x.2.2.1 x.2.2.2.1 x.2.2.2.2.1 x.2.2.2.2.2).isSome = true
  res x := [.c (.d (.int .i64 (((r39 x.1 x.2.1 x.2.2.1 x.2.2.2.1 x.2.2.2.2.1 x.2.2.2.2.2).getD default).1))), .c (.d (.int .i64 (((r39 x.1 x.2.1 x.2.2.1 x.2.2.2.1 x.2.2.2.2.1 x.2.2.2.2.2).getD default).2)))]
  al := false
def tb39 : Fns := lk [(101, T101.sp), (114, T114.sp)]
theorem tb39_ok : FnsOk Try.prog tb39 := .cons f101 (.cons f114 (FnsOk.nil))
theorem tb39_101 : tb39 101 = some T101.sp := rfl
theorem tb39_114 : tb39 114 = some T114.sp := rfl
theorem v39 : Valid Try.prog 39 T39.sp := by
  refine valid_t (fn := Try.f39) (n := 21) ty_ok tb39_ok Try.func39 rfl Try.ntmps39 ?_
  rintro ⟨a0_0, a0_1, a0_2, a0_3, a1_0, a1_1⟩ hx
  obtain ⟨r, hr⟩ := Option.isSome_iff_exists.1 (show (r39 a0_0 a0_1 a0_2 a0_3 a1_0 a1_1).isSome = true from hx)
  have hres : T39.res (a0_0, a0_1, a0_2, a0_3, a1_0, a1_1) = [.c (.d (.int .i64 r.1)), .c (.d (.int .i64 r.2))] := by simp only [T39, hr, Option.getD_some]
  refine ⟨Nat.le_of_ble_eq_true rfl, fun stop S => ?_⟩
  rw [hres] at S
  unfold r39 at hr
  refine S.goB [] 1000 ?_
  simp (maxSteps := 10000000) only [go_sem, tb39_101, T101, tb39_114, T114, T39, Option.map_some, Int.reduceToNat, Nat.reduceEqDiff, Nat.reduceLT, Nat.reduceAdd, Nat.reduceMul, Nat.reduceSub, Nat.reduceLeDiff, reduceIte, reduceCtorEq, Try.results39]
  obtain ⟨v1, hv1, hr⟩ := of_bind0 hr
  try simp only [hv1, Option.getD_some, Option.isSome_some, true_and, and_assoc]
  repeat refine gA ?_
  refine ⟨fun hc => ?_, fun hc => ?_⟩
  · replace hr := ifP hr hc
    repeat refine gA ?_
    obtain rfl := Option.some.inj hr
    (simp (maxDischargeDepth := 8) [go_sem])
  · replace hr := ifN hr hc
    obtain ⟨v2, hv2, hr⟩ := of_bind0 hr
    try simp only [hv2, Option.getD_some, Option.isSome_some, true_and, and_assoc]
    repeat refine gA ?_
    obtain rfl := Option.some.inj hr
    (simp (maxDischargeDepth := 8) [go_sem])
theorem f39 : FnFact Try.prog 39 T39.sp := ⟨⟨Try.f39, Try.func39, by decide, rfl⟩, v39⟩

/- martensite/martensiteref03.CopySpan -/
def r42 (a0_0 : List (Int × Int)) (a0_1 : Int) (a0_2 : Int) : Option ((List (Int × Int)) × Int × Int) :=
  if (0 + a0_0.length) * 16 ≤ 140737488355328 ∧ 0 + a0_0.length ≤ 9223372036854775807 then
   some (a0_0, a0_1, a0_2)
   else none
def T42 : TSpec ((List (Int × Int)) × Int × Int) where
  enc x := [.agg [encF 2 d_II x.1, .int .i64 x.2.1, .int .i64 x.2.2]]
  dec a := (decF g_II (aCell a 0 0), dInt (aCell a 0 1), dInt (aCell a 0 2))
  pre x := (r42 x.1 x.2.1 x.2.2).isSome = true
  res x := [.agg [.own (encF 2 d_II (((r42 x.1 x.2.1 x.2.2).getD default).1)), .d (.int .i64 (((r42 x.1 x.2.1 x.2.2).getD default).2.1)), .d (.int .i64 (((r42 x.1 x.2.1 x.2.2).getD default).2.2))]]
  al := false
def tb42 : Fns := lk []
theorem tb42_ok : FnsOk Try.prog tb42 := FnsOk.nil
theorem v42 : Valid Try.prog 42 T42.sp := by
  refine valid_t (fn := Try.f42) (n := 9) ty_ok tb42_ok Try.func42 rfl Try.ntmps42 ?_
  rintro ⟨a0_0, a0_1, a0_2⟩ hx
  obtain ⟨r, hr⟩ := Option.isSome_iff_exists.1 (show (r42 a0_0 a0_1 a0_2).isSome = true from hx)
  have hres : T42.res (a0_0, a0_1, a0_2) = [.agg [.own (encF 2 d_II r.1), .d (.int .i64 r.2.1), .d (.int .i64 r.2.2)]] := by simp only [T42, hr, Option.getD_some]
  refine ⟨Nat.le_of_ble_eq_true rfl, fun stop S => ?_⟩
  rw [hres] at S
  unfold r42 at hr
  refine S.goB [] 1000 ?_
  simp (maxSteps := 10000000) only [go_sem, T42, Option.map_some, Int.reduceToNat, Nat.reduceEqDiff, Nat.reduceLT, Nat.reduceAdd, Nat.reduceMul, Nat.reduceSub, Nat.reduceLeDiff, reduceIte, reduceCtorEq, Try.results42]
  obtain ⟨hg1, hr⟩ := of_guard0 hr
  repeat refine gA ?_
  obtain rfl := Option.some.inj hr
  (simp (maxDischargeDepth := 8) [go_sem])
theorem f42 : FnFact Try.prog 42 T42.sp := ⟨⟨Try.f42, Try.func42, by decide, rfl⟩, v42⟩

/- martensite/martensiteref03.CopySpans -/
def b44_1 (a0 : List ((List (Int × Int)) × Int × Int)) : ((List ((List (Int × Int)) × Int × Int)) × Int) → Ctl ((List ((List (Int × Int)) × Int × Int)) × Int) ((List ((List (Int × Int)) × Int × Int))) := fun s1 =>
  if (decide (s1.2 < (a0.length : Int))) = true then
   if 0 ≤ s1.2 ∧ s1.2 < (a0.length : Int) then
    bindC (r42 ((a0.getD s1.2.toNat default).1) ((a0.getD s1.2.toNat default).2.1) ((a0.getD s1.2.toNat default).2.2)) fun v1 =>
     if (s1.1.length + 1) * 40 ≤ 140737488355328 ∧ s1.1.length + 1 ≤ 9223372036854775807 then
      .next (s1.1 ++ [(v1.1, v1.2.1, v1.2.2)], IntKind.i64.wrap (s1.2 + 1))
      else .out none
    else .out none
   else .out (some s1.1)
def r44 (a0 : List ((List (Int × Int)) × Int × Int)) : Option ((List ((List (Int × Int)) × Int × Int))) :=
  iterC (b44_1 a0) 1000000000 ([], 0)
def T44 : TSpec ((List ((List (Int × Int)) × Int × Int))) where
  enc x := [.c (encF 3 d_LIIEII x)]
  dec a := decF g_LIIEII (aCell a 0 0)
  pre x := (r44 x).isSome = true
  res x := [.c (.own (encF 3 d_LIIEII ((r44 x).getD default)))]
  al := true
def tb44 : Fns := lk [(42, T42.sp)]
theorem tb44_ok : FnsOk Try.prog tb44 := .cons f42 (FnsOk.nil)
theorem tb44_42 : tb44 42 = some T42.sp := rfl
theorem v44 : Valid Try.prog 44 T44.sp := by
  refine valid_t (fn := Try.f44) (n := 20) ty_ok tb44_ok Try.func44 rfl Try.ntmps44 ?_
  rintro a0 hx
  obtain ⟨r, hr⟩ := Option.isSome_iff_exists.1 (show (r44 a0).isSome = true from hx)
  have hres : T44.res a0 = [.c (.own (encF 3 d_LIIEII r))] := by simp only [T44, hr, Option.getD_some]
  refine ⟨Nat.le_of_ble_eq_true rfl, fun stop S => ?_⟩
  rw [hres] at S
  unfold r44 at hr
  refine S.goB [] 1000 ?_
  simp (maxSteps := 10000000) only [go_sem, tb44_42, T42, T44, Option.map_some, Int.reduceToNat, Nat.reduceEqDiff, Nat.reduceLT, Nat.reduceAdd, Nat.reduceMul, Nat.reduceSub, Nat.reduceLeDiff, reduceIte, reduceCtorEq, Try.results44]
  repeat refine gA ?_
  refine S.own0 3 1000300 3 rfl rfl ?_
  refine S.sees [0, 3, 4] [] [(1000300, 1000300)] ?_ (Stop.iter S (fun s1 => ⟨[(0, .c (.d (encF 3 d_LIIEII a0))), (3, .c (.own 1000300)), (4, .c (.d (.int .i64 s1.2)))], [], [(1000300, .owned (encF 3 d_LIIEII s1.1))]⟩) (b44_1 a0) (fun q => q = r) hr rfl ?_)
  · (simp (maxDischargeDepth := 8) [go_sem])
  · intro s1 hr
    unfold b44_1 at hr
    refine S.goB [] 1000 ?_
    simp (maxSteps := 10000000) only [go_sem, tb44_42, T42, T44, Option.map_some, Int.reduceToNat, Nat.reduceEqDiff, Nat.reduceLT, Nat.reduceAdd, Nat.reduceMul, Nat.reduceSub, Nat.reduceLeDiff, reduceIte, reduceCtorEq, Try.results44]
    repeat refine gA ?_
    refine ⟨fun hc => ?_, fun hc => ?_⟩
    · replace hr := ifP1 hr hc
      obtain ⟨hg2, hr⟩ := of_guard1 hr
      obtain ⟨v1, hv1, hr⟩ := of_bind1 hr
      obtain ⟨hg3, hr⟩ := of_guard1 hr
      try simp only [hv1, Option.getD_some, Option.isSome_some, true_and, and_assoc]
      repeat refine gA ?_
      refine S.sees [0, 3, 4] [] [(18, 1000300)] ?_ hr
      (simp (maxDischargeDepth := 8) [go_sem])
    · replace hr := ifN1 hr hc
      repeat refine gA ?_
      have hr := of_out0 hr
      repeat refine gA ?_
      obtain rfl := Option.some.inj hr
      (simp (maxDischargeDepth := 8) [go_sem])
theorem f44 : FnFact Try.prog 44 T44.sp := ⟨⟨Try.f44, Try.func44, by decide, rfl⟩, v44⟩

/- (martensite/heat.part).spansErr -/
def b118_1 (a0_0 : Int) (a0_1 : Int) (a0_2 : List (Int × Int)) (a0_3 : List ((List (Int × Int)))) (a0_4 : List (Int × Int)) (a0_5 : List ((List (Int × Int)))) (a1 : List ((List (Int × Int)) × Int × Int)) : (Int × Int) → Ctl (Int × Int) (Int) := fun s1 =>
  if (decide (s1.2 < (a1.length : Int))) = true then
   if 0 ≤ s1.2 ∧ s1.2 < (a1.length : Int) then
    bindC (r116 a0_0 a0_1 a0_2 a0_3 a0_4 a0_5 ((a1.getD s1.2.toNat default).1) ((a1.getD s1.2.toNat default).2.1) ((a1.getD s1.2.toNat default).2.2)) fun v2 =>
     bindC (r91 [s1.1, v2]) fun v3 =>
      .next (v3, IntKind.i64.wrap (s1.2 + 1))
    else .out none
   else .out (some s1.1)
def r118 (a0_0 : Int) (a0_1 : Int) (a0_2 : List (Int × Int)) (a0_3 : List ((List (Int × Int)))) (a0_4 : List (Int × Int)) (a0_5 : List ((List (Int × Int)))) (a1 : List ((List (Int × Int)) × Int × Int)) : Option (Int) :=
  (r94 (decide ((a1.length : Int) ≤ 200)) 8).bind fun v1 =>
   iterC (b118_1 a0_0 a0_1 a0_2 a0_3 a0_4 a0_5 a1) 1000000000 (v1, 0)
def T118 : TSpec (Int × Int × (List (Int × Int)) × (List ((List (Int × Int)))) × (List (Int × Int)) × (List ((List (Int × Int)))) × (List ((List (Int × Int)) × Int × Int))) where
  enc x := [.agg [.int .i64 x.1, .int .i64 x.2.1, encF 2 d_II x.2.2.1, encF 1 d_LIIE x.2.2.2.1, encF 2 d_II x.2.2.2.2.1, encF 1 d_LIIE x.2.2.2.2.2.1], .c (encF 3 d_LIIEII x.2.2.2.2.2.2)]
  dec a := (dInt (aCell a 0 0), dInt (aCell a 0 1), decF g_II (aCell a 0 2), decF g_LIIE (aCell a 0 3), decF g_II (aCell a 0 4), decF g_LIIE (aCell a 0 5), decF g_LIIEII (aCell a 1 0))
  pre x := (r118 x.1 x.2.1 x.2.2.1 x.2.2.2.1 x.2.2.2.2.1 x.2.2.2.2.2.1 x.2.2.2.2.2.2).isSome = true
  res x := [.c (.d (.int .i64 ((r118 x.1 x.2.1 x.2.2.1 x.2.2.2.1 x.2.2.2.2.1 x.2.2.2.2.2.1 x.2.2.2.2.2.2).getD default)))]
  al := false
def tb118 : Fns := lk [(91, T91.sp), (94, T94.sp), (116, T116.sp)]
theorem tb118_ok : FnsOk Try.prog tb118 := .cons f91 (.cons f94 (.cons f116 (FnsOk.nil)))
theorem tb118_91 : tb118 91 = some T91.sp := rfl
theorem tb118_94 : tb118 94 = some T94.sp := rfl
theorem tb118_116 : tb118 116 = some T116.sp := rfl
theorem v118 : Valid Try.prog 118 T118.sp := by
  refine valid_t (fn := Try.f118) (n := 26) ty_ok tb118_ok Try.func118 rfl Try.ntmps118 ?_
  rintro ⟨a0_0, a0_1, a0_2, a0_3, a0_4, a0_5, a1⟩ hx
  obtain ⟨r, hr⟩ := Option.isSome_iff_exists.1 (show (r118 a0_0 a0_1 a0_2 a0_3 a0_4 a0_5 a1).isSome = true from hx)
  have hres : T118.res (a0_0, a0_1, a0_2, a0_3, a0_4, a0_5, a1) = [.c (.d (.int .i64 r))] := by simp only [T118, hr, Option.getD_some]
  refine ⟨Nat.le_of_ble_eq_true rfl, fun stop S => ?_⟩
  rw [hres] at S
  unfold r118 at hr
  refine S.goB [] 1000 ?_
  simp (maxSteps := 10000000) only [go_sem, tb118_91, T91, tb118_94, T94, tb118_116, T116, T118, Option.map_some, Int.reduceToNat, Nat.reduceEqDiff, Nat.reduceLT, Nat.reduceAdd, Nat.reduceMul, Nat.reduceSub, Nat.reduceLeDiff, reduceIte, reduceCtorEq, Try.results118]
  obtain ⟨v1, hv1, hr⟩ := of_bind0 hr
  try simp only [hv1, Option.getD_some, Option.isSome_some, true_and, and_assoc]
  repeat refine gA ?_
  refine S.sees [2, 5, 12, 13, 14] [(2, 2)] [] ?_ (Stop.iter S (fun s1 => ⟨[(2, .c (.ref 2 0)), (5, .c (.d (.int .i64 s1.1))), (12, .c (.d (encF 3 d_LIIEII a1))), (13, .c (.d (.int .i64 (a1.length : Int)))), (14, .c (.d (.int .i64 s1.2)))], [(2, [.d (.int .i64 a0_0), .d (.int .i64 a0_1), .d (encF 2 d_II a0_2), .d (encF 1 d_LIIE a0_3), .d (encF 2 d_II a0_4), .d (encF 1 d_LIIE a0_5)])], []⟩) (b118_1 a0_0 a0_1 a0_2 a0_3 a0_4 a0_5 a1) (fun q => q = r) hr rfl ?_)
  · (simp (maxDischargeDepth := 8) [go_sem])
  · intro s1 hr
    unfold b118_1 at hr
    refine S.goB [] 1000 ?_
    simp (maxSteps := 10000000) only [go_sem, tb118_91, T91, tb118_94, T94, tb118_116, T116, T118, Option.map_some, Int.reduceToNat, Nat.reduceEqDiff, Nat.reduceLT, Nat.reduceAdd, Nat.reduceMul, Nat.reduceSub, Nat.reduceLeDiff, reduceIte, reduceCtorEq, Try.results118]
    repeat refine gA ?_
    refine ⟨fun hc => ?_, fun hc => ?_⟩
    · replace hr := ifP1 hr hc
      obtain ⟨hg4, hr⟩ := of_guard1 hr
      obtain ⟨v2, hv2, hr⟩ := of_bind1 hr
      obtain ⟨v3, hv3, hr⟩ := of_bind1 hr
      try simp only [hv2, hv3, Option.getD_some, Option.isSome_some, true_and, and_assoc]
      repeat refine gA ?_
      refine S.sees [2, 5, 12, 13, 14] [(2, 2)] [] ?_ hr
      (simp (maxDischargeDepth := 8) [go_sem])
    · replace hr := ifN1 hr hc
      repeat refine gA ?_
      have hr := of_out0 hr
      repeat refine gA ?_
      obtain rfl := Option.some.inj hr
      (simp (maxDischargeDepth := 8) [go_sem])
theorem f118 : FnFact Try.prog 118 T118.sp := ⟨⟨Try.f118, Try.func118, by decide, rfl⟩, v118⟩

/- (martensite/heat.part).boxes -/
def b119_1 (a0_0 : Int) (a0_1 : Int) (a0_2 : List (Int × Int)) (a0_3 : List ((List (Int × Int)))) (a0_4 : List (Int × Int)) (a0_5 : List ((List (Int × Int)))) (a2 : List ((List (Int × Int)) × Int × Int)) : ((List ((List (Int)) × (List (Int)))) × Int × (List (Int)) × (List (Int))) → Ctl ((List ((List (Int)) × (List (Int)))) × Int × (List (Int)) × (List (Int))) ((List ((List (Int)) × (List (Int)))) × Int) := fun s1 =>
  if (decide (s1.2.1 < (a2.length : Int))) = true then
   if 0 ≤ s1.2.1 ∧ s1.2.1 < (a2.length : Int) then
    bindC (r117 a0_0 a0_1 a0_2 a0_3 a0_4 a0_5 s1.2.2.1 s1.2.2.2 ((a2.getD s1.2.1.toNat default).1) ((a2.getD s1.2.1.toNat default).2.1) ((a2.getD s1.2.1.toNat default).2.2)) fun v1 =>
     if (v1.2.2 != 0) = true then
      .out (some ([], v1.2.2))
      else if (s1.1.length + 1) * 48 ≤ 140737488355328 ∧ s1.1.length + 1 ≤ 9223372036854775807 then
       .next (s1.1 ++ [(v1.1, v1.2.1)], IntKind.i64.wrap (s1.2.1 + 1), v1.1, v1.2.1)
       else .out none
    else .out none
   else .out (some (s1.1, 0))
def r119 (a0_0 : Int) (a0_1 : Int) (a0_2 : List (Int × Int)) (a0_3 : List ((List (Int × Int)))) (a0_4 : List (Int × Int)) (a0_5 : List ((List (Int × Int)))) (a1_0 : List (Int)) (a1_1 : List (Int)) (a2 : List ((List (Int × Int)) × Int × Int)) : Option ((List ((List (Int)) × (List (Int)))) × Int) :=
  iterC (b119_1 a0_0 a0_1 a0_2 a0_3 a0_4 a0_5 a2) 1000000000 ([], 0, a1_0, a1_1)
def T119 : TSpec (Int × Int × (List (Int × Int)) × (List ((List (Int × Int)))) × (List (Int × Int)) × (List ((List (Int × Int)))) × (List (Int)) × (List (Int)) × (List ((List (Int × Int)) × Int × Int))) where
  enc x := [.agg [.int .i64 x.1, .int .i64 x.2.1, encF 2 d_II x.2.2.1, encF 1 d_LIIE x.2.2.2.1, encF 2 d_II x.2.2.2.2.1, encF 1 d_LIIE x.2.2.2.2.2.1], .agg [encF 1 d_I x.2.2.2.2.2.2.1, encF 1 d_I x.2.2.2.2.2.2.2.1], .c (encF 3 d_LIIEII x.2.2.2.2.2.2.2.2)]
  dec a := (dInt (aCell a 0 0), dInt (aCell a 0 1), decF g_II (aCell a 0 2), decF g_LIIE (aCell a 0 3), decF g_II (aCell a 0 4), decF g_LIIE (aCell a 0 5), decF g_I (aCell a 1 0), decF g_I (aCell a 1 1), decF g_LIIEII (aCell a 2 0))
  pre x := (r119 x.1 x.2.1 x.2.2.1 x.2.2.2.1 x.2.2.2.2.1 x.2.2.2.2.2.1 x.2.2.2.2.2.2.1 x.2.2.2.2.2.2.2.1 x.2.2.2.2.2.2.2.2).isSome = true
  res x := [.c (.own (encF 2 d_LIELIE (((r119 x.1 x.2.1 x.2.2.1 x.2.2.2.1 x.2.2.2.2.1 x.2.2.2.2.2.1 x.2.2.2.2.2.2.1 x.2.2.2.2.2.2.2.1 x.2.2.2.2.2.2.2.2).getD default).1))), .c (.d (.int .i64 (((r119 x.1 x.2.1 x.2.2.1 x.2.2.2.1 x.2.2.2.2.1 x.2.2.2.2.2.1 x.2.2.2.2.2.2.1 x.2.2.2.2.2.2.2.1 x.2.2.2.2.2.2.2.2).getD default).2)))]
  al := true
def tb119 : Fns := lk [(117, T117.sp)]
theorem tb119_ok : FnsOk Try.prog tb119 := .cons f117 (FnsOk.nil)
theorem tb119_117 : tb119 117 = some T117.sp := rfl
theorem v119 : Valid Try.prog 119 T119.sp := by
  refine valid_t (fn := Try.f119) (n := 36) ty_ok tb119_ok Try.func119 rfl Try.ntmps119 ?_
  rintro ⟨a0_0, a0_1, a0_2, a0_3, a0_4, a0_5, a1_0, a1_1, a2⟩ hx
  obtain ⟨r, hr⟩ := Option.isSome_iff_exists.1 (show (r119 a0_0 a0_1 a0_2 a0_3 a0_4 a0_5 a1_0 a1_1 a2).isSome = true from hx)
  have hres : T119.res (a0_0, a0_1, a0_2, a0_3, a0_4, a0_5, a1_0, a1_1, a2) = [.c (.own (encF 2 d_LIELIE r.1)), .c (.d (.int .i64 r.2))] := by simp only [T119, hr, Option.getD_some]
  refine ⟨Nat.le_of_ble_eq_true rfl, fun stop S => ?_⟩
  rw [hres] at S
  unfold r119 at hr
  refine S.goB [] 1000 ?_
  simp (maxSteps := 10000000) only [go_sem, tb119_117, T117, T119, Option.map_some, Int.reduceToNat, Nat.reduceEqDiff, Nat.reduceLT, Nat.reduceAdd, Nat.reduceMul, Nat.reduceSub, Nat.reduceLeDiff, reduceIte, reduceCtorEq, Try.results119]
  repeat refine gA ?_
  refine S.own0 8 1000800 2 rfl rfl ?_
  refine S.sees [3, 4, 8, 13, 14, 15] [(3, 3), (4, 4)] [(1000800, 1000800)] ?_ (Stop.iter S (fun s1 => ⟨[(3, .c (.ref 3 0)), (4, .c (.ref 4 0)), (8, .c (.own 1000800)), (13, .c (.d (encF 3 d_LIIEII a2))), (14, .c (.d (.int .i64 (a2.length : Int)))), (15, .c (.d (.int .i64 s1.2.1)))], [(3, [.d (.int .i64 a0_0), .d (.int .i64 a0_1), .d (encF 2 d_II a0_2), .d (encF 1 d_LIIE a0_3), .d (encF 2 d_II a0_4), .d (encF 1 d_LIIE a0_5)]), (4, [.d (encF 1 d_I s1.2.2.1), .d (encF 1 d_I s1.2.2.2)])], [(1000800, .owned (encF 2 d_LIELIE s1.1))]⟩) (b119_1 a0_0 a0_1 a0_2 a0_3 a0_4 a0_5 a2) (fun q => q = r) hr rfl ?_)
  · (simp (maxDischargeDepth := 8) [go_sem])
  · intro s1 hr
    unfold b119_1 at hr
    refine S.goB [] 1000 ?_
    simp (maxSteps := 10000000) only [go_sem, tb119_117, T117, T119, Option.map_some, Int.reduceToNat, Nat.reduceEqDiff, Nat.reduceLT, Nat.reduceAdd, Nat.reduceMul, Nat.reduceSub, Nat.reduceLeDiff, reduceIte, reduceCtorEq, Try.results119]
    repeat refine gA ?_
    refine ⟨fun hc => ?_, fun hc => ?_⟩
    · replace hr := ifP1 hr hc
      obtain ⟨hg3, hr⟩ := of_guard1 hr
      obtain ⟨v1, hv1, hr⟩ := of_bind1 hr
      try simp only [hv1, Option.getD_some, Option.isSome_some, true_and, and_assoc]
      repeat refine gA ?_
      refine ⟨fun hc => ?_, fun hc => ?_⟩
      · replace hr := ifP1 hr hc
        repeat refine gA ?_
        have hr := of_out0 hr
        obtain rfl := Option.some.inj hr
        (simp (maxDischargeDepth := 8) [go_sem])
      · replace hr := ifN1 hr hc
        obtain ⟨hg2, hr⟩ := of_guard1 hr
        repeat refine gA ?_
        refine S.sees [3, 4, 8, 13, 14, 15] [(3, 3), (4, 4)] [(33, 1000800)] ?_ hr
        (simp (maxDischargeDepth := 8) [go_sem])
    · replace hr := ifN1 hr hc
      repeat refine gA ?_
      have hr := of_out0 hr
      repeat refine gA ?_
      obtain rfl := Option.some.inj hr
      (simp (maxDischargeDepth := 8) [go_sem])
theorem f119 : FnFact Try.prog 119 T119.sp := ⟨⟨Try.f119, Try.func119, by decide, rfl⟩, v119⟩

/- martensite/heat.BoxRun -/
def r43 (a0_0 : Int) (a0_1 : Int) (a0_2 : List (Int × Int)) (a0_3 : List ((List (Int × Int)))) (a1_0 : List (Int)) (a1_1 : List (Int)) (a2 : List ((List (Int × Int)) × Int × Int)) : Option ((List ((List (Int)) × (List (Int)))) × Int) :=
  (r115 a0_0 a0_1 a0_2 a0_3 a1_0 a1_1).bind fun v1 =>
   if (v1.2.2.2.2.2.2 == 0) = true then
    (r118 v1.1 v1.2.1 v1.2.2.1 v1.2.2.2.1 v1.2.2.2.2.1 v1.2.2.2.2.2.1 a2).bind fun v2 =>
     if (v2 != 0) = true then
      some ([], v2)
      else (r119 v1.1 v1.2.1 v1.2.2.1 v1.2.2.2.1 v1.2.2.2.2.1 v1.2.2.2.2.2.1 a1_0 a1_1 a2).bind fun v3 =>
       some (v3.1, v3.2)
    else if (v1.2.2.2.2.2.2 != 0) = true then
     some ([], v1.2.2.2.2.2.2)
     else (r119 v1.1 v1.2.1 v1.2.2.1 v1.2.2.2.1 v1.2.2.2.2.1 v1.2.2.2.2.2.1 a1_0 a1_1 a2).bind fun v4 =>
      some (v4.1, v4.2)
def T43 : TSpec (Int × Int × (List (Int × Int)) × (List ((List (Int × Int)))) × (List (Int)) × (List (Int)) × (List ((List (Int × Int)) × Int × Int))) where
  enc x := [.agg [.int .i64 x.1, .int .i64 x.2.1, encF 2 d_II x.2.2.1, encF 1 d_LIIE x.2.2.2.1], .agg [encF 1 d_I x.2.2.2.2.1, encF 1 d_I x.2.2.2.2.2.1], .c (encF 3 d_LIIEII x.2.2.2.2.2.2)]
  dec a := (dInt (aCell a 0 0), dInt (aCell a 0 1), decF g_II (aCell a 0 2), decF g_LIIE (aCell a 0 3), decF g_I (aCell a 1 0), decF g_I (aCell a 1 1), decF g_LIIEII (aCell a 2 0))
  pre x := (r43 x.1 x.2.1 x.2.2.1 x.2.2.2.1 x.2.2.2.2.1 x.2.2.2.2.2.1 x.2.2.2.2.2.2).isSome = true
  res x := [.c (.own (encF 2 d_LIELIE (((r43 x.1 x.2.1 x.2.2.1 x.2.2.2.1 x.2.2.2.2.1 x.2.2.2.2.2.1 x.2.2.2.2.2.2).getD default).1))), .c (.d (.int .i64 (((r43 x.1 x.2.1 x.2.2.1 x.2.2.2.1 x.2.2.2.2.1 x.2.2.2.2.2.1 x.2.2.2.2.2.2).getD default).2)))]
  al := true
def tb43 : Fns := lk [(115, T115.sp), (118, T118.sp), (119, T119.sp)]
theorem tb43_ok : FnsOk Try.prog tb43 := .cons f115 (.cons f118 (.cons f119 (FnsOk.nil)))
theorem tb43_115 : tb43 115 = some T115.sp := rfl
theorem tb43_118 : tb43 118 = some T118.sp := rfl
theorem tb43_119 : tb43 119 = some T119.sp := rfl
theorem v43 : Valid Try.prog 43 T43.sp := by
  refine valid_t (fn := Try.f43) (n := 30) ty_ok tb43_ok Try.func43 rfl Try.ntmps43 ?_
  rintro ⟨a0_0, a0_1, a0_2, a0_3, a1_0, a1_1, a2⟩ hx
  obtain ⟨r, hr⟩ := Option.isSome_iff_exists.1 (show (r43 a0_0 a0_1 a0_2 a0_3 a1_0 a1_1 a2).isSome = true from hx)
  have hres : T43.res (a0_0, a0_1, a0_2, a0_3, a1_0, a1_1, a2) = [.c (.own (encF 2 d_LIELIE r.1)), .c (.d (.int .i64 r.2))] := by simp only [T43, hr, Option.getD_some]
  refine ⟨Nat.le_of_ble_eq_true rfl, fun stop S => ?_⟩
  rw [hres] at S
  unfold r43 at hr
  refine S.goB [] 1000 ?_
  simp (maxSteps := 10000000) only [go_sem, tb43_115, T115, tb43_118, T118, tb43_119, T119, T43, Option.map_some, Int.reduceToNat, Nat.reduceEqDiff, Nat.reduceLT, Nat.reduceAdd, Nat.reduceMul, Nat.reduceSub, Nat.reduceLeDiff, reduceIte, reduceCtorEq, Try.results43]
  obtain ⟨v1, hv1, hr⟩ := of_bind0 hr
  try simp only [hv1, Option.getD_some, Option.isSome_some, true_and, and_assoc]
  repeat refine gA ?_
  refine ⟨fun hc => ?_, fun hc => ?_⟩
  · replace hr := ifP hr hc
    obtain ⟨v2, hv2, hr⟩ := of_bind0 hr
    try simp only [hv2, Option.getD_some, Option.isSome_some, true_and, and_assoc]
    repeat refine gA ?_
    refine ⟨fun hc => ?_, fun hc => ?_⟩
    · replace hr := ifP hr hc
      repeat refine gA ?_
      obtain rfl := Option.some.inj hr
      (simp (maxDischargeDepth := 8) [go_sem])
    · replace hr := ifN hr hc
      obtain ⟨v3, hv3, hr⟩ := of_bind0 hr
      try simp only [hv3, Option.getD_some, Option.isSome_some, true_and, and_assoc]
      repeat refine gA ?_
      obtain rfl := Option.some.inj hr
      (simp (maxDischargeDepth := 8) [go_sem])
  · replace hr := ifN hr hc
    repeat refine gA ?_
    refine ⟨fun hc => ?_, fun hc => ?_⟩
    · replace hr := ifP hr hc
      repeat refine gA ?_
      obtain rfl := Option.some.inj hr
      (simp (maxDischargeDepth := 8) [go_sem])
    · replace hr := ifN hr hc
      obtain ⟨v4, hv4, hr⟩ := of_bind0 hr
      try simp only [hv4, Option.getD_some, Option.isSome_some, true_and, and_assoc]
      repeat refine gA ?_
      obtain rfl := Option.some.inj hr
      (simp (maxDischargeDepth := 8) [go_sem])
theorem f43 : FnFact Try.prog 43 T43.sp := ⟨⟨Try.f43, Try.func43, by decide, rfl⟩, v43⟩

/- martensite/martensiteref03.CheckBox -/
def b46_1 (a0_0 : Int) (a1_0 : List (Int)) (a1_1 : List (Int)) : (Int) → Ctl (Int) (Int × Int) := fun s1 =>
  if (decide (s1 < a0_0)) = true then
   if 0 ≤ s1 ∧ s1 < (a1_0.length : Int) then
    if 0 ≤ s1 ∧ s1 < (a1_1.length : Int) then
     if (decide ((a1_0.getD s1.toNat default) > (a1_1.getD s1.toNat default))) = true then
      .out (some (s1, 9))
      else .next (IntKind.i64.wrap (s1 + 1))
     else .out none
    else .out none
   else .out (some (0, 0))
def r46 (a0_0 : Int) (a0_1 : Int) (a0_2 : List (Int × Int)) (a0_3 : List ((List (Int × Int)))) (a1_0 : List (Int)) (a1_1 : List (Int)) : Option (Int × Int) :=
  (r27 a0_0 a0_1 a0_2 a0_3 a1_0).bind fun v1 =>
   if (v1.2 != 0) = true then
    some (v1.1, v1.2)
    else (r27 a0_0 a0_1 a0_2 a0_3 a1_1).bind fun v2 =>
     if (v2.2 != 0) = true then
      some (v2.1, v2.2)
      else iterC (b46_1 a0_0 a1_0 a1_1) 1000000000 0
def T46 : TSpec (Int × Int × (List (Int × Int)) × (List ((List (Int × Int)))) × (List (Int)) × (List (Int))) where
  enc x := [.agg [.int .i64 x.1, .int .i64 x.2.1, encF 2 d_II x.2.2.1, encF 1 d_LIIE x.2.2.2.1], .agg [encF 1 d_I x.2.2.2.2.1, encF 1 d_I x.2.2.2.2.2]]
  dec a := (dInt (aCell a 0 0), dInt (aCell a 0 1), decF g_II (aCell a 0 2), decF g_LIIE (aCell a 0 3), decF g_I (aCell a 1 0), decF g_I (aCell a 1 1))
  pre x := (r46 x.1 x.2.1 x.2.2.1 x.2.2.2.1 x.2.2.2.2.1 x.2.2.2.2.2).isSome = true
  res x := [.c (.d (.int .i64 (((r46 x.1 x.2.1 x.2.2.1 x.2.2.2.1 x.2.2.2.2.1 x.2.2.2.2.2).getD default).1))), .c (.d (.int .i64 (((r46 x.1 x.2.1 x.2.2.1 x.2.2.2.1 x.2.2.2.2.1 x.2.2.2.2.2).getD default).2)))]
  al := false
def tb46 : Fns := lk [(27, T27.sp)]
theorem tb46_ok : FnsOk Try.prog tb46 := .cons f27 (FnsOk.nil)
theorem tb46_27 : tb46 27 = some T27.sp := rfl
theorem v46 : Valid Try.prog 46 T46.sp := by
  refine valid_t (fn := Try.f46) (n := 51) ty_ok tb46_ok Try.func46 rfl Try.ntmps46 ?_
  rintro ⟨a0_0, a0_1, a0_2, a0_3, a1_0, a1_1⟩ hx
  obtain ⟨r, hr⟩ := Option.isSome_iff_exists.1 (show (r46 a0_0 a0_1 a0_2 a0_3 a1_0 a1_1).isSome = true from hx)
  have hres : T46.res (a0_0, a0_1, a0_2, a0_3, a1_0, a1_1) = [.c (.d (.int .i64 r.1)), .c (.d (.int .i64 r.2))] := by simp only [T46, hr, Option.getD_some]
  refine ⟨Nat.le_of_ble_eq_true rfl, fun stop S => ?_⟩
  rw [hres] at S
  unfold r46 at hr
  refine S.goB [] 1000 ?_
  simp (maxSteps := 10000000) only [go_sem, tb46_27, T27, T46, Option.map_some, Int.reduceToNat, Nat.reduceEqDiff, Nat.reduceLT, Nat.reduceAdd, Nat.reduceMul, Nat.reduceSub, Nat.reduceLeDiff, reduceIte, reduceCtorEq, Try.results46]
  obtain ⟨v1, hv1, hr⟩ := of_bind0 hr
  try simp only [hv1, Option.getD_some, Option.isSome_some, true_and, and_assoc]
  repeat refine gA ?_
  refine ⟨fun hc => ?_, fun hc => ?_⟩
  · replace hr := ifP hr hc
    repeat refine gA ?_
    obtain rfl := Option.some.inj hr
    (simp (maxDischargeDepth := 8) [go_sem])
  · replace hr := ifN hr hc
    obtain ⟨v2, hv2, hr⟩ := of_bind0 hr
    try simp only [hv2, Option.getD_some, Option.isSome_some, true_and, and_assoc]
    repeat refine gA ?_
    refine ⟨fun hc => ?_, fun hc => ?_⟩
    · replace hr := ifP hr hc
      repeat refine gA ?_
      obtain rfl := Option.some.inj hr
      (simp (maxDischargeDepth := 8) [go_sem])
    · replace hr := ifN hr hc
      repeat refine gA ?_
      refine S.sees [2, 3, 10] [(2, 2), (3, 3)] [] ?_ (Stop.iter S (fun s1 => ⟨[(2, .c (.ref 2 0)), (3, .c (.ref 3 0)), (10, .c (.d (.int .i64 s1)))], [(2, [.d (.int .i64 a0_0), .d (.int .i64 a0_1), .d (encF 2 d_II a0_2), .d (encF 1 d_LIIE a0_3)]), (3, [.d (encF 1 d_I a1_0), .d (encF 1 d_I a1_1)])], []⟩) (b46_1 a0_0 a1_0 a1_1) (fun q => q = r) hr rfl ?_)
      · (simp (maxDischargeDepth := 8) [go_sem])
      · intro s1 hr
        unfold b46_1 at hr
        refine S.goB [] 1000 ?_
        simp (maxSteps := 10000000) only [go_sem, tb46_27, T27, T46, Option.map_some, Int.reduceToNat, Nat.reduceEqDiff, Nat.reduceLT, Nat.reduceAdd, Nat.reduceMul, Nat.reduceSub, Nat.reduceLeDiff, reduceIte, reduceCtorEq, Try.results46]
        repeat refine gA ?_
        refine ⟨fun hc => ?_, fun hc => ?_⟩
        · replace hr := ifP1 hr hc
          obtain ⟨hg3, hr⟩ := of_guard1 hr
          obtain ⟨hg4, hr⟩ := of_guard1 hr
          repeat refine gA ?_
          refine ⟨fun hc => ?_, fun hc => ?_⟩
          · replace hr := ifP1 hr hc
            repeat refine gA ?_
            have hr := of_out0 hr
            obtain rfl := Option.some.inj hr
            (simp (maxDischargeDepth := 8) [go_sem])
          · replace hr := ifN1 hr hc
            repeat refine gA ?_
            refine S.sees [2, 3, 10] [(2, 2), (3, 3)] [] ?_ hr
            (simp (maxDischargeDepth := 8) [go_sem])
        · replace hr := ifN1 hr hc
          repeat refine gA ?_
          have hr := of_out0 hr
          repeat refine gA ?_
          obtain rfl := Option.some.inj hr
          (simp (maxDischargeDepth := 8) [go_sem])
theorem f46 : FnFact Try.prog 46 T46.sp := ⟨⟨Try.f46, Try.func46, by decide, rfl⟩, v46⟩

/- martensite/martensiteref03.SpanErr -/
def b48_1 (a0_0 : Int) (a0_1 : Int) (a0_2 : List (Int × Int)) (a0_3 : List ((List (Int × Int)))) (a1_0 : List (Int × Int)) (a1_1 : Int) (a1_2 : Int) : (Int) → Ctl (Int) (Int) := fun s1 =>
  if (decide (s1 < (a1_0.length : Int))) = true then
   if 0 ≤ s1 ∧ s1 < (a1_0.length : Int) then
    bindC (r59 ((a1_0.getD s1.toNat default).1) 0 10000) fun v1 =>
     if (!(!v1)) = true → 0 ≤ s1 ∧ s1 < (a1_0.length : Int) then
      if (!(!v1)) = true → (r59 ((a1_0.getD s1.toNat default).2) 0 10000).isSome = true then
       if ((!v1) || (!((r59 ((a1_0.getD s1.toNat default).2) 0 10000).getD default))) = true then
        .out (some 2)
        else if 0 ≤ s1 ∧ s1 < (a1_0.length : Int) then
         if 0 ≤ s1 ∧ s1 < (a1_0.length : Int) then
          if (decide (((a1_0.getD s1.toNat default).1) > ((a1_0.getD s1.toNat default).2))) = true then
           .out (some 9)
           else .next (IntKind.i64.wrap (s1 + 1))
          else .out none
         else .out none
       else .out none
      else .out none
    else .out none
   else .out ((r61 a0_0 a0_1 a0_2 a0_3 a1_1).bind fun v7 =>
    if (!(v7 != 0)) = true → (r61 a0_0 a0_1 a0_2 a0_3 a1_2).isSome = true then
     if ((v7 != 0) || (((r61 a0_0 a0_1 a0_2 a0_3 a1_2).getD default) != 0)) = true then
      some 6
      else if (decide (a1_1 > a1_2)) = true then
       some 9
       else some 0
     else none)
def r48 (a0_0 : Int) (a0_1 : Int) (a0_2 : List (Int × Int)) (a0_3 : List ((List (Int × Int)))) (a1_0 : List (Int × Int)) (a1_1 : Int) (a1_2 : Int) : Option (Int) :=
  if ((a1_0.length : Int) != a0_0) = true then
   some 10
   else iterC (b48_1 a0_0 a0_1 a0_2 a0_3 a1_0 a1_1 a1_2) 1000000000 0
def T48 : TSpec (Int × Int × (List (Int × Int)) × (List ((List (Int × Int)))) × (List (Int × Int)) × Int × Int) where
  enc x := [.agg [.int .i64 x.1, .int .i64 x.2.1, encF 2 d_II x.2.2.1, encF 1 d_LIIE x.2.2.2.1], .agg [encF 2 d_II x.2.2.2.2.1, .int .i64 x.2.2.2.2.2.1, .int .i64 x.2.2.2.2.2.2]]
  dec a := (dInt (aCell a 0 0), dInt (aCell a 0 1), decF g_II (aCell a 0 2), decF g_LIIE (aCell a 0 3), decF g_II (aCell a 1 0), dInt (aCell a 1 1), dInt (aCell a 1 2))
  pre x := (r48 x.1 x.2.1 x.2.2.1 x.2.2.2.1 x.2.2.2.2.1 x.2.2.2.2.2.1 x.2.2.2.2.2.2).isSome = true
  res x := [.c (.d (.int .i64 ((r48 x.1 x.2.1 x.2.2.1 x.2.2.2.1 x.2.2.2.2.1 x.2.2.2.2.2.1 x.2.2.2.2.2.2).getD default)))]
  al := false
def tb48 : Fns := lk [(59, T59.sp), (61, T61.sp)]
theorem tb48_ok : FnsOk Try.prog tb48 := .cons f59 (.cons f61 (FnsOk.nil))
theorem tb48_59 : tb48 59 = some T59.sp := rfl
theorem tb48_61 : tb48 61 = some T61.sp := rfl
theorem v48 : Valid Try.prog 48 T48.sp := by
  refine valid_t (fn := Try.f48) (n := 71) ty_ok tb48_ok Try.func48 rfl Try.ntmps48 ?_
  rintro ⟨a0_0, a0_1, a0_2, a0_3, a1_0, a1_1, a1_2⟩ hx
  obtain ⟨r, hr⟩ := Option.isSome_iff_exists.1 (show (r48 a0_0 a0_1 a0_2 a0_3 a1_0 a1_1 a1_2).isSome = true from hx)
  have hres : T48.res (a0_0, a0_1, a0_2, a0_3, a1_0, a1_1, a1_2) = [.c (.d (.int .i64 r))] := by simp only [T48, hr, Option.getD_some]
  refine ⟨Nat.le_of_ble_eq_true rfl, fun stop S => ?_⟩
  rw [hres] at S
  unfold r48 at hr
  refine S.goB [] 1000 ?_
  simp (maxSteps := 10000000) only [go_sem, tb48_59, T59, tb48_61, T61, T48, Option.map_some, Int.reduceToNat, Nat.reduceEqDiff, Nat.reduceLT, Nat.reduceAdd, Nat.reduceMul, Nat.reduceSub, Nat.reduceLeDiff, reduceIte, reduceCtorEq, Try.results48]
  repeat refine gA ?_
  refine ⟨fun hc => ?_, fun hc => ?_⟩
  · replace hr := ifP hr hc
    repeat refine gA ?_
    obtain rfl := Option.some.inj hr
    (simp (maxDischargeDepth := 8) [go_sem])
  · replace hr := ifN hr hc
    repeat refine gA ?_
    refine S.sees [2, 3, 5] [(2, 2), (3, 3)] [] ?_ (Stop.iter S (fun s1 => ⟨[(2, .c (.ref 2 0)), (3, .c (.ref 3 0)), (5, .c (.d (.int .i64 s1)))], [(2, [.d (.int .i64 a0_0), .d (.int .i64 a0_1), .d (encF 2 d_II a0_2), .d (encF 1 d_LIIE a0_3)]), (3, [.d (encF 2 d_II a1_0), .d (.int .i64 a1_1), .d (.int .i64 a1_2)])], []⟩) (b48_1 a0_0 a0_1 a0_2 a0_3 a1_0 a1_1 a1_2) (fun q => q = r) hr rfl ?_)
    · (simp (maxDischargeDepth := 8) [go_sem])
    · intro s1 hr
      unfold b48_1 at hr
      refine S.goB [] 1000 ?_
      simp (maxSteps := 10000000) only [go_sem, tb48_59, T59, tb48_61, T61, T48, Option.map_some, Int.reduceToNat, Nat.reduceEqDiff, Nat.reduceLT, Nat.reduceAdd, Nat.reduceMul, Nat.reduceSub, Nat.reduceLeDiff, reduceIte, reduceCtorEq, Try.results48]
      repeat refine gA ?_
      refine ⟨fun hc => ?_, fun hc => ?_⟩
      · replace hr := ifP1 hr hc
        obtain ⟨hg4, hr⟩ := of_guard1 hr
        obtain ⟨v1, hv1, hr⟩ := of_bind1 hr
        obtain ⟨hg5, hr⟩ := of_guard1 hr
        obtain ⟨hg6, hr⟩ := of_guard1 hr
        try simp only [hv1, Option.getD_some, Option.isSome_some, true_and, and_assoc]
        repeat (first | refine gG hg5 ?_ | refine gG hg6 ?_ | refine gA ?_ | refine gB ?_)
        refine ⟨fun hc => ?_, fun hc => ?_⟩
        · replace hr := ifP1 hr hc
          repeat refine gA ?_
          have hr := of_out0 hr
          obtain rfl := Option.some.inj hr
          (simp (maxDischargeDepth := 8) [go_sem])
        · replace hr := ifN1 hr hc
          obtain ⟨hg2, hr⟩ := of_guard1 hr
          obtain ⟨hg3, hr⟩ := of_guard1 hr
          repeat refine gA ?_
          refine ⟨fun hc => ?_, fun hc => ?_⟩
          · replace hr := ifP1 hr hc
            repeat refine gA ?_
            have hr := of_out0 hr
            obtain rfl := Option.some.inj hr
            (simp (maxDischargeDepth := 8) [go_sem])
          · replace hr := ifN1 hr hc
            repeat refine gA ?_
            refine S.sees [2, 3, 5] [(2, 2), (3, 3)] [] ?_ hr
            (simp (maxDischargeDepth := 8) [go_sem])
      · replace hr := ifN1 hr hc
        repeat refine gA ?_
        have hr := of_out0 hr
        obtain ⟨v7, hv7, hr⟩ := of_bind0 hr
        obtain ⟨hg8, hr⟩ := of_guard0 hr
        try simp only [hv7, Option.getD_some, Option.isSome_some, true_and, and_assoc]
        repeat (first | refine gG hg8 ?_ | refine gA ?_ | refine gB ?_)
        refine ⟨fun hc => ?_, fun hc => ?_⟩
        · replace hr := ifP hr hc
          repeat refine gA ?_
          obtain rfl := Option.some.inj hr
          (simp (maxDischargeDepth := 8) [go_sem])
        · replace hr := ifN hr hc
          repeat refine gA ?_
          refine ⟨fun hc => ?_, fun hc => ?_⟩
          · replace hr := ifP hr hc
            repeat refine gA ?_
            obtain rfl := Option.some.inj hr
            (simp (maxDischargeDepth := 8) [go_sem])
          · replace hr := ifN hr hc
            repeat refine gA ?_
            obtain rfl := Option.some.inj hr
            (simp (maxDischargeDepth := 8) [go_sem])
theorem f48 : FnFact Try.prog 48 T48.sp := ⟨⟨Try.f48, Try.func48, by decide, rfl⟩, v48⟩

/- martensite/martensiteref03.SpansErr -/
def b50_1 (a0_0 : Int) (a0_1 : Int) (a0_2 : List (Int × Int)) (a0_3 : List ((List (Int × Int)))) (a1 : List ((List (Int × Int)) × Int × Int)) : (Int) → Ctl (Int) (Int) := fun s1 =>
  if (decide (s1 < (a1.length : Int))) = true then
   if 0 ≤ s1 ∧ s1 < (a1.length : Int) then
    bindC (r48 a0_0 a0_1 a0_2 a0_3 ((a1.getD s1.toNat default).1) ((a1.getD s1.toNat default).2.1) ((a1.getD s1.toNat default).2.2)) fun v1 =>
     if (v1 != 0) = true then
      .out (some v1)
      else .next (IntKind.i64.wrap (s1 + 1))
    else .out none
   else .out (some 0)
def r50 (a0_0 : Int) (a0_1 : Int) (a0_2 : List (Int × Int)) (a0_3 : List ((List (Int × Int)))) (a1 : List ((List (Int × Int)) × Int × Int)) : Option (Int) :=
  if (decide ((a1.length : Int) > 200)) = true then
   some 8
   else iterC (b50_1 a0_0 a0_1 a0_2 a0_3 a1) 1000000000 0
def T50 : TSpec (Int × Int × (List (Int × Int)) × (List ((List (Int × Int)))) × (List ((List (Int × Int)) × Int × Int))) where
  enc x := [.agg [.int .i64 x.1, .int .i64 x.2.1, encF 2 d_II x.2.2.1, encF 1 d_LIIE x.2.2.2.1], .c (encF 3 d_LIIEII x.2.2.2.2)]
  dec a := (dInt (aCell a 0 0), dInt (aCell a 0 1), decF g_II (aCell a 0 2), decF g_LIIE (aCell a 0 3), decF g_LIIEII (aCell a 1 0))
  pre x := (r50 x.1 x.2.1 x.2.2.1 x.2.2.2.1 x.2.2.2.2).isSome = true
  res x := [.c (.d (.int .i64 ((r50 x.1 x.2.1 x.2.2.1 x.2.2.2.1 x.2.2.2.2).getD default)))]
  al := false
def tb50 : Fns := lk [(48, T48.sp)]
theorem tb50_ok : FnsOk Try.prog tb50 := .cons f48 (FnsOk.nil)
theorem tb50_48 : tb50 48 = some T48.sp := rfl
theorem v50 : Valid Try.prog 50 T50.sp := by
  refine valid_t (fn := Try.f50) (n := 25) ty_ok tb50_ok Try.func50 rfl Try.ntmps50 ?_
  rintro ⟨a0_0, a0_1, a0_2, a0_3, a1⟩ hx
  obtain ⟨r, hr⟩ := Option.isSome_iff_exists.1 (show (r50 a0_0 a0_1 a0_2 a0_3 a1).isSome = true from hx)
  have hres : T50.res (a0_0, a0_1, a0_2, a0_3, a1) = [.c (.d (.int .i64 r))] := by simp only [T50, hr, Option.getD_some]
  refine ⟨Nat.le_of_ble_eq_true rfl, fun stop S => ?_⟩
  rw [hres] at S
  unfold r50 at hr
  refine S.goB [] 1000 ?_
  simp (maxSteps := 10000000) only [go_sem, tb50_48, T48, T50, Option.map_some, Int.reduceToNat, Nat.reduceEqDiff, Nat.reduceLT, Nat.reduceAdd, Nat.reduceMul, Nat.reduceSub, Nat.reduceLeDiff, reduceIte, reduceCtorEq, Try.results50]
  repeat refine gA ?_
  refine ⟨fun hc => ?_, fun hc => ?_⟩
  · replace hr := ifP hr hc
    repeat refine gA ?_
    obtain rfl := Option.some.inj hr
    (simp (maxDischargeDepth := 8) [go_sem])
  · replace hr := ifN hr hc
    repeat refine gA ?_
    refine S.sees [1, 2, 5] [(2, 2)] [] ?_ (Stop.iter S (fun s1 => ⟨[(1, .c (.d (encF 3 d_LIIEII a1))), (2, .c (.ref 2 0)), (5, .c (.d (.int .i64 s1)))], [(2, [.d (.int .i64 a0_0), .d (.int .i64 a0_1), .d (encF 2 d_II a0_2), .d (encF 1 d_LIIE a0_3)])], []⟩) (b50_1 a0_0 a0_1 a0_2 a0_3 a1) (fun q => q = r) hr rfl ?_)
    · (simp (maxDischargeDepth := 8) [go_sem])
    · intro s1 hr
      unfold b50_1 at hr
      refine S.goB [] 1000 ?_
      simp (maxSteps := 10000000) only [go_sem, tb50_48, T48, T50, Option.map_some, Int.reduceToNat, Nat.reduceEqDiff, Nat.reduceLT, Nat.reduceAdd, Nat.reduceMul, Nat.reduceSub, Nat.reduceLeDiff, reduceIte, reduceCtorEq, Try.results50]
      repeat refine gA ?_
      refine ⟨fun hc => ?_, fun hc => ?_⟩
      · replace hr := ifP1 hr hc
        obtain ⟨hg2, hr⟩ := of_guard1 hr
        obtain ⟨v1, hv1, hr⟩ := of_bind1 hr
        try simp only [hv1, Option.getD_some, Option.isSome_some, true_and, and_assoc]
        repeat refine gA ?_
        refine ⟨fun hc => ?_, fun hc => ?_⟩
        · replace hr := ifP1 hr hc
          repeat refine gA ?_
          have hr := of_out0 hr
          obtain rfl := Option.some.inj hr
          (simp (maxDischargeDepth := 8) [go_sem])
        · replace hr := ifN1 hr hc
          repeat refine gA ?_
          refine S.sees [1, 2, 5] [(2, 2)] [] ?_ hr
          (simp (maxDischargeDepth := 8) [go_sem])
      · replace hr := ifN1 hr hc
        repeat refine gA ?_
        have hr := of_out0 hr
        repeat refine gA ?_
        obtain rfl := Option.some.inj hr
        (simp (maxDischargeDepth := 8) [go_sem])
theorem f50 : FnFact Try.prog 50 T50.sp := ⟨⟨Try.f50, Try.func50, by decide, rfl⟩, v50⟩

/- martensite/martensiteref03.BoxStep -/
def r49 (a0_0 : Int) (a0_1 : Int) (a0_2 : List (Int × Int)) (a0_3 : List ((List (Int × Int)))) (a1_0 : List (Int)) (a1_1 : List (Int)) (a2_0 : List (Int × Int)) (a2_1 : Int) (a2_2 : Int) : Option ((List (Int)) × (List (Int)) × Bool) :=
  (r113 a2_0 false).bind fun v1 =>
   (r71 a0_0 a0_1 a0_2 a0_3 a1_0 v1 a2_2).bind fun v2 =>
    (r113 a2_0 true).bind fun v3 =>
     (r71 a0_0 a0_1 a0_2 a0_3 a1_1 v3 a2_1).bind fun v4 =>
      if ((!v2.2.2) || (!v4.2.2)) = true then
       some ([], [], false)
       else some (v2.1, v4.1, true)
def T49 : TSpec (Int × Int × (List (Int × Int)) × (List ((List (Int × Int)))) × (List (Int)) × (List (Int)) × (List (Int × Int)) × Int × Int) where
  enc x := [.agg [.int .i64 x.1, .int .i64 x.2.1, encF 2 d_II x.2.2.1, encF 1 d_LIIE x.2.2.2.1], .agg [encF 1 d_I x.2.2.2.2.1, encF 1 d_I x.2.2.2.2.2.1], .agg [encF 2 d_II x.2.2.2.2.2.2.1, .int .i64 x.2.2.2.2.2.2.2.1, .int .i64 x.2.2.2.2.2.2.2.2]]
  dec a := (dInt (aCell a 0 0), dInt (aCell a 0 1), decF g_II (aCell a 0 2), decF g_LIIE (aCell a 0 3), decF g_I (aCell a 1 0), decF g_I (aCell a 1 1), decF g_II (aCell a 2 0), dInt (aCell a 2 1), dInt (aCell a 2 2))
  pre x := (r49 x.1 x.2.1 x.2.2.1 x.2.2.2.1 x.2.2.2.2.1 x.2.2.2.2.2.1 x.2.2.2.2.2.2.1 x.2.2.2.2.2.2.2.1 x.2.2.2.2.2.2.2.2).isSome = true
  res x := [.agg [.own (encF 1 d_I (((r49 x.1 x.2.1 x.2.2.1 x.2.2.2.1 x.2.2.2.2.1 x.2.2.2.2.2.1 x.2.2.2.2.2.2.1 x.2.2.2.2.2.2.2.1 x.2.2.2.2.2.2.2.2).getD default).1)), .own (encF 1 d_I (((r49 x.1 x.2.1 x.2.2.1 x.2.2.2.1 x.2.2.2.2.1 x.2.2.2.2.2.1 x.2.2.2.2.2.2.1 x.2.2.2.2.2.2.2.1 x.2.2.2.2.2.2.2.2).getD default).2.1))], .c (.d (.bool (((r49 x.1 x.2.1 x.2.2.1 x.2.2.2.1 x.2.2.2.2.1 x.2.2.2.2.2.1 x.2.2.2.2.2.2.1 x.2.2.2.2.2.2.2.1 x.2.2.2.2.2.2.2.2).getD default).2.2)))]
  al := false
def tb49 : Fns := lk [(71, T71.sp), (113, T113.sp)]
theorem tb49_ok : FnsOk Try.prog tb49 := .cons f71 (.cons f113 (FnsOk.nil))
theorem tb49_71 : tb49 71 = some T71.sp := rfl
theorem tb49_113 : tb49 113 = some T113.sp := rfl
theorem v49 : Valid Try.prog 49 T49.sp := by
  refine valid_t (fn := Try.f49) (n := 52) ty_ok tb49_ok Try.func49 rfl Try.ntmps49 ?_
  rintro ⟨a0_0, a0_1, a0_2, a0_3, a1_0, a1_1, a2_0, a2_1, a2_2⟩ hx
  obtain ⟨r, hr⟩ := Option.isSome_iff_exists.1 (show (r49 a0_0 a0_1 a0_2 a0_3 a1_0 a1_1 a2_0 a2_1 a2_2).isSome = true from hx)
  have hres : T49.res (a0_0, a0_1, a0_2, a0_3, a1_0, a1_1, a2_0, a2_1, a2_2) = [.agg [.own (encF 1 d_I r.1), .own (encF 1 d_I r.2.1)], .c (.d (.bool r.2.2))] := by simp only [T49, hr, Option.getD_some]
  refine ⟨Nat.le_of_ble_eq_true rfl, fun stop S => ?_⟩
  rw [hres] at S
  unfold r49 at hr
  refine S.goB [] 1000 ?_
  simp (maxSteps := 10000000) only [go_sem, tb49_71, T71, tb49_113, T113, T49, Option.map_some, Int.reduceToNat, Nat.reduceEqDiff, Nat.reduceLT, Nat.reduceAdd, Nat.reduceMul, Nat.reduceSub, Nat.reduceLeDiff, reduceIte, reduceCtorEq, Try.results49]
  obtain ⟨v1, hv1, hr⟩ := of_bind0 hr
  obtain ⟨v2, hv2, hr⟩ := of_bind0 hr
  obtain ⟨v3, hv3, hr⟩ := of_bind0 hr
  obtain ⟨v4, hv4, hr⟩ := of_bind0 hr
  try simp only [hv1, hv2, hv3, hv4, Option.getD_some, Option.isSome_some, true_and, and_assoc]
  repeat (first | refine gA ?_ | refine gB ?_)
  refine ⟨fun hc => ?_, fun hc => ?_⟩
  · replace hr := ifP hr hc
    repeat refine gA ?_
    obtain rfl := Option.some.inj hr
    (simp (maxDischargeDepth := 8) [go_sem])
  · replace hr := ifN hr hc
    repeat refine gA ?_
    obtain rfl := Option.some.inj hr
    (simp (maxDischargeDepth := 8) [go_sem])
theorem f49 : FnFact Try.prog 49 T49.sp := ⟨⟨Try.f49, Try.func49, by decide, rfl⟩, v49⟩

/- martensite/martensiteref03.BoxRun -/
def b51_1 (a0_0 : Int) (a0_1 : Int) (a0_2 : List (Int × Int)) (a0_3 : List ((List (Int × Int)))) (a2 : List ((List (Int × Int)) × Int × Int)) : ((List ((List (Int)) × (List (Int)))) × Int × (List (Int)) × (List (Int))) → Ctl ((List ((List (Int)) × (List (Int)))) × Int × (List (Int)) × (List (Int))) ((List ((List (Int)) × (List (Int)))) × Bool) := fun s1 =>
  if (decide (s1.2.1 < (a2.length : Int))) = true then
   if 0 ≤ s1.2.1 ∧ s1.2.1 < (a2.length : Int) then
    bindC (r49 a0_0 a0_1 a0_2 a0_3 s1.2.2.1 s1.2.2.2 ((a2.getD s1.2.1.toNat default).1) ((a2.getD s1.2.1.toNat default).2.1) ((a2.getD s1.2.1.toNat default).2.2)) fun v1 =>
     if (!v1.2.2) = true then
      .out (some ([], false))
      else if (s1.1.length + 1) * 48 ≤ 140737488355328 ∧ s1.1.length + 1 ≤ 9223372036854775807 then
       .next (s1.1 ++ [(v1.1, v1.2.1)], IntKind.i64.wrap (s1.2.1 + 1), v1.1, v1.2.1)
       else .out none
    else .out none
   else .out (some (s1.1, true))
def r51 (a0_0 : Int) (a0_1 : Int) (a0_2 : List (Int × Int)) (a0_3 : List ((List (Int × Int)))) (a1_0 : List (Int)) (a1_1 : List (Int)) (a2 : List ((List (Int × Int)) × Int × Int)) : Option ((List ((List (Int)) × (List (Int)))) × Bool) :=
  iterC (b51_1 a0_0 a0_1 a0_2 a0_3 a2) 1000000000 ([], 0, a1_0, a1_1)
def T51 : TSpec (Int × Int × (List (Int × Int)) × (List ((List (Int × Int)))) × (List (Int)) × (List (Int)) × (List ((List (Int × Int)) × Int × Int))) where
  enc x := [.agg [.int .i64 x.1, .int .i64 x.2.1, encF 2 d_II x.2.2.1, encF 1 d_LIIE x.2.2.2.1], .agg [encF 1 d_I x.2.2.2.2.1, encF 1 d_I x.2.2.2.2.2.1], .c (encF 3 d_LIIEII x.2.2.2.2.2.2)]
  dec a := (dInt (aCell a 0 0), dInt (aCell a 0 1), decF g_II (aCell a 0 2), decF g_LIIE (aCell a 0 3), decF g_I (aCell a 1 0), decF g_I (aCell a 1 1), decF g_LIIEII (aCell a 2 0))
  pre x := (r51 x.1 x.2.1 x.2.2.1 x.2.2.2.1 x.2.2.2.2.1 x.2.2.2.2.2.1 x.2.2.2.2.2.2).isSome = true
  res x := [.c (.own (encF 2 d_LIELIE (((r51 x.1 x.2.1 x.2.2.1 x.2.2.2.1 x.2.2.2.2.1 x.2.2.2.2.2.1 x.2.2.2.2.2.2).getD default).1))), .c (.d (.bool (((r51 x.1 x.2.1 x.2.2.1 x.2.2.2.1 x.2.2.2.2.1 x.2.2.2.2.2.1 x.2.2.2.2.2.2).getD default).2)))]
  al := true
def tb51 : Fns := lk [(49, T49.sp)]
theorem tb51_ok : FnsOk Try.prog tb51 := .cons f49 (FnsOk.nil)
theorem tb51_49 : tb51 49 = some T49.sp := rfl
theorem v51 : Valid Try.prog 51 T51.sp := by
  refine valid_t (fn := Try.f51) (n := 36) ty_ok tb51_ok Try.func51 rfl Try.ntmps51 ?_
  rintro ⟨a0_0, a0_1, a0_2, a0_3, a1_0, a1_1, a2⟩ hx
  obtain ⟨r, hr⟩ := Option.isSome_iff_exists.1 (show (r51 a0_0 a0_1 a0_2 a0_3 a1_0 a1_1 a2).isSome = true from hx)
  have hres : T51.res (a0_0, a0_1, a0_2, a0_3, a1_0, a1_1, a2) = [.c (.own (encF 2 d_LIELIE r.1)), .c (.d (.bool r.2))] := by simp only [T51, hr, Option.getD_some]
  refine ⟨Nat.le_of_ble_eq_true rfl, fun stop S => ?_⟩
  rw [hres] at S
  unfold r51 at hr
  refine S.goB [] 1000 ?_
  simp (maxSteps := 10000000) only [go_sem, tb51_49, T49, T51, Option.map_some, Int.reduceToNat, Nat.reduceEqDiff, Nat.reduceLT, Nat.reduceAdd, Nat.reduceMul, Nat.reduceSub, Nat.reduceLeDiff, reduceIte, reduceCtorEq, Try.results51]
  repeat refine gA ?_
  refine S.own0 8 1000800 2 rfl rfl ?_
  refine S.sees [2, 3, 4, 8, 9] [(3, 3), (4, 4)] [(1000800, 1000800)] ?_ (Stop.iter S (fun s1 => ⟨[(2, .c (.d (encF 3 d_LIIEII a2))), (3, .c (.ref 3 0)), (4, .c (.ref 4 0)), (8, .c (.own 1000800)), (9, .c (.d (.int .i64 s1.2.1)))], [(3, [.d (.int .i64 a0_0), .d (.int .i64 a0_1), .d (encF 2 d_II a0_2), .d (encF 1 d_LIIE a0_3)]), (4, [.d (encF 1 d_I s1.2.2.1), .d (encF 1 d_I s1.2.2.2)])], [(1000800, .owned (encF 2 d_LIELIE s1.1))]⟩) (b51_1 a0_0 a0_1 a0_2 a0_3 a2) (fun q => q = r) hr rfl ?_)
  · (simp (maxDischargeDepth := 8) [go_sem])
  · intro s1 hr
    unfold b51_1 at hr
    refine S.goB [] 1000 ?_
    simp (maxSteps := 10000000) only [go_sem, tb51_49, T49, T51, Option.map_some, Int.reduceToNat, Nat.reduceEqDiff, Nat.reduceLT, Nat.reduceAdd, Nat.reduceMul, Nat.reduceSub, Nat.reduceLeDiff, reduceIte, reduceCtorEq, Try.results51]
    repeat refine gA ?_
    refine ⟨fun hc => ?_, fun hc => ?_⟩
    · replace hr := ifP1 hr hc
      obtain ⟨hg3, hr⟩ := of_guard1 hr
      obtain ⟨v1, hv1, hr⟩ := of_bind1 hr
      try simp only [hv1, Option.getD_some, Option.isSome_some, true_and, and_assoc]
      repeat refine gA ?_
      refine ⟨fun hc => ?_, fun hc => ?_⟩
      · replace hr := ifP1 hr hc
        repeat refine gA ?_
        have hr := of_out0 hr
        obtain rfl := Option.some.inj hr
        (simp (maxDischargeDepth := 8) [go_sem])
      · replace hr := ifN1 hr hc
        obtain ⟨hg2, hr⟩ := of_guard1 hr
        repeat refine gA ?_
        refine S.sees [2, 3, 4, 8, 9] [(3, 3), (4, 4)] [(33, 1000800)] ?_ hr
        (simp (maxDischargeDepth := 8) [go_sem])
    · replace hr := ifN1 hr hc
      repeat refine gA ?_
      have hr := of_out0 hr
      repeat refine gA ?_
      obtain rfl := Option.some.inj hr
      (simp (maxDischargeDepth := 8) [go_sem])
theorem f51 : FnFact Try.prog 51 T51.sp := ⟨⟨Try.f51, Try.func51, by decide, rfl⟩, v51⟩

/- martensite/martensiteref03.SameBoxes -/
def b52_1 (a0 : List ((List (Int)) × (List (Int)))) (a1 : List ((List (Int)) × (List (Int)))) : (Int) → Ctl (Int) (Bool) := fun s1 =>
  if (decide (s1 < (a0.length : Int))) = true then
   if 0 ≤ s1 ∧ s1 < (a0.length : Int) then
    if 0 ≤ s1 ∧ s1 < (a1.length : Int) then
     bindC (r47 ((a0.getD s1.toNat default).1) ((a0.getD s1.toNat default).2) ((a1.getD s1.toNat default).1) ((a1.getD s1.toNat default).2)) fun v1 =>
      if (!v1) = true then
       .out (some false)
       else .next (IntKind.i64.wrap (s1 + 1))
     else .out none
    else .out none
   else .out (some true)
def r52 (a0 : List ((List (Int)) × (List (Int)))) (a1 : List ((List (Int)) × (List (Int)))) : Option (Bool) :=
  if ((a0.length : Int) != (a1.length : Int)) = true then
   some false
   else iterC (b52_1 a0 a1) 1000000000 0
def T52 : TSpec ((List ((List (Int)) × (List (Int)))) × (List ((List (Int)) × (List (Int))))) where
  enc x := [.c (encF 2 d_LIELIE x.1), .c (encF 2 d_LIELIE x.2)]
  dec a := (decF g_LIELIE (aCell a 0 0), decF g_LIELIE (aCell a 1 0))
  pre x := (r52 x.1 x.2).isSome = true
  res x := [.c (.d (.bool ((r52 x.1 x.2).getD default)))]
  al := false
def tb52 : Fns := lk [(47, T47.sp)]
theorem tb52_ok : FnsOk Try.prog tb52 := .cons f47 (FnsOk.nil)
theorem tb52_47 : tb52 47 = some T47.sp := rfl
theorem v52 : Valid Try.prog 52 T52.sp := by
  refine valid_t (fn := Try.f52) (n := 27) ty_ok tb52_ok Try.func52 rfl Try.ntmps52 ?_
  rintro ⟨a0, a1⟩ hx
  obtain ⟨r, hr⟩ := Option.isSome_iff_exists.1 (show (r52 a0 a1).isSome = true from hx)
  have hres : T52.res (a0, a1) = [.c (.d (.bool r))] := by simp only [T52, hr, Option.getD_some]
  refine ⟨Nat.le_of_ble_eq_true rfl, fun stop S => ?_⟩
  rw [hres] at S
  unfold r52 at hr
  refine S.goB [] 1000 ?_
  simp (maxSteps := 10000000) only [go_sem, tb52_47, T47, T52, Option.map_some, Int.reduceToNat, Nat.reduceEqDiff, Nat.reduceLT, Nat.reduceAdd, Nat.reduceMul, Nat.reduceSub, Nat.reduceLeDiff, reduceIte, reduceCtorEq, Try.results52]
  repeat refine gA ?_
  refine ⟨fun hc => ?_, fun hc => ?_⟩
  · replace hr := ifP hr hc
    repeat refine gA ?_
    obtain rfl := Option.some.inj hr
    (simp (maxDischargeDepth := 8) [go_sem])
  · replace hr := ifN hr hc
    repeat refine gA ?_
    refine S.sees [0, 1, 5] [] [] ?_ (Stop.iter S (fun s1 => ⟨[(0, .c (.d (encF 2 d_LIELIE a0))), (1, .c (.d (encF 2 d_LIELIE a1))), (5, .c (.d (.int .i64 s1)))], [], []⟩) (b52_1 a0 a1) (fun q => q = r) hr rfl ?_)
    · (simp (maxDischargeDepth := 8) [go_sem])
    · intro s1 hr
      unfold b52_1 at hr
      refine S.goB [] 1000 ?_
      simp (maxSteps := 10000000) only [go_sem, tb52_47, T47, T52, Option.map_some, Int.reduceToNat, Nat.reduceEqDiff, Nat.reduceLT, Nat.reduceAdd, Nat.reduceMul, Nat.reduceSub, Nat.reduceLeDiff, reduceIte, reduceCtorEq, Try.results52]
      repeat refine gA ?_
      refine ⟨fun hc => ?_, fun hc => ?_⟩
      · replace hr := ifP1 hr hc
        obtain ⟨hg2, hr⟩ := of_guard1 hr
        obtain ⟨hg3, hr⟩ := of_guard1 hr
        obtain ⟨v1, hv1, hr⟩ := of_bind1 hr
        try simp only [hv1, Option.getD_some, Option.isSome_some, true_and, and_assoc]
        repeat refine gA ?_
        refine ⟨fun hc => ?_, fun hc => ?_⟩
        · replace hr := ifP1 hr hc
          repeat refine gA ?_
          have hr := of_out0 hr
          obtain rfl := Option.some.inj hr
          (simp (maxDischargeDepth := 8) [go_sem])
        · replace hr := ifN1 hr hc
          repeat refine gA ?_
          refine S.sees [0, 1, 5] [] [] ?_ hr
          (simp (maxDischargeDepth := 8) [go_sem])
      · replace hr := ifN1 hr hc
        repeat refine gA ?_
        have hr := of_out0 hr
        repeat refine gA ?_
        obtain rfl := Option.some.inj hr
        (simp (maxDischargeDepth := 8) [go_sem])
theorem f52 : FnFact Try.prog 52 T52.sp := ⟨⟨Try.f52, Try.func52, by decide, rfl⟩, v52⟩
end Go.Proofs.Ytcbiiijnaeibhaa

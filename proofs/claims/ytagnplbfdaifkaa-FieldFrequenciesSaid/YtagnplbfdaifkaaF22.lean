/- Contracts of functions, written by wip/dec. -/
import Derived.Test.YtagnplbfdaifkaaF00
import Derived.Test.YtagnplbfdaifkaaF01
import Derived.Test.YtagnplbfdaifkaaF02
import Derived.Test.YtagnplbfdaifkaaF05
import Derived.Test.YtagnplbfdaifkaaF12
import Derived.Test.YtagnplbfdaifkaaF17
set_option linter.unusedVariables false
set_option linter.unusedSimpArgs false
set_option maxHeartbeats 4000000
set_option maxRecDepth 20000
namespace Go.Proofs.Ytagnplbfdaifkaa
open Go.Abs
/- martensite/martensiteref02.CopyPair -/
def r71 (a0_0 : Int) (a0_1 : List (Bool)) (a0_2 : Int) (a0_3 : List (Bool)) : Option (Int × (List (Bool)) × Int × (List (Bool))) :=
  (r20 a0_0 a0_1).bind fun v1 =>
   (r20 a0_2 a0_3).bind fun v2 =>
    some (v1.1, v1.2, v2.1, v2.2)
def T71 : TSpec (Int × (List (Bool)) × Int × (List (Bool))) where
  enc x := [.agg [.int .i64 x.1, encF 1 d_B x.2.1, .int .i64 x.2.2.1, encF 1 d_B x.2.2.2]]
  dec a := (dInt (aCell a 0 0), decF g_B (aCell a 0 1), dInt (aCell a 0 2), decF g_B (aCell a 0 3))
  pre x := (r71 x.1 x.2.1 x.2.2.1 x.2.2.2).isSome = true
  res x := [.agg [.d (.int .i64 (((r71 x.1 x.2.1 x.2.2.1 x.2.2.2).getD default).1)), .own (encF 1 d_B (((r71 x.1 x.2.1 x.2.2.1 x.2.2.2).getD default).2.1)), .d (.int .i64 (((r71 x.1 x.2.1 x.2.2.1 x.2.2.2).getD default).2.2.1)), .own (encF 1 d_B (((r71 x.1 x.2.1 x.2.2.1 x.2.2.2).getD default).2.2.2))]]
  al := false
def tb71 : Fns := lk [(20, T20.sp)]
theorem tb71_ok : FnsOk Try.prog tb71 := .cons f20 (FnsOk.nil)
theorem tb71_20 : tb71 20 = some T20.sp := rfl
theorem v71 : Valid Try.prog 71 T71.sp := by
  refine valid_t (fn := Try.f71) (n := 10) ty_ok tb71_ok Try.func71 rfl Try.ntmps71 ?_
  rintro ⟨a0_0, a0_1, a0_2, a0_3⟩ hx
  obtain ⟨r, hr⟩ := Option.isSome_iff_exists.1 (show (r71 a0_0 a0_1 a0_2 a0_3).isSome = true from hx)
  have hres : T71.res (a0_0, a0_1, a0_2, a0_3) = [.agg [.d (.int .i64 r.1), .own (encF 1 d_B r.2.1), .d (.int .i64 r.2.2.1), .own (encF 1 d_B r.2.2.2)]] := by simp only [T71, hr, Option.getD_some]
  refine ⟨Nat.le_of_ble_eq_true rfl, fun stop S => ?_⟩
  rw [hres] at S
  unfold r71 at hr
  refine S.goB [] 1000 ?_
  simp (maxSteps := 10000000) only [go_sem, tb71_20, T20, T71, Bool.not_true, Bool.not_false, Option.map_some, Int.reduceToNat, Nat.reduceEqDiff, Nat.reduceLT, Nat.reduceAdd, Nat.reduceMul, Nat.reduceSub, Nat.reduceLeDiff, reduceIte, reduceCtorEq, Try.results71]
  obtain ⟨v1, hv1, hr⟩ := of_bind0 hr
  obtain ⟨v2, hv2, hr⟩ := of_bind0 hr
  try simp only [hv1, hv2, Option.getD_some, Option.isSome_some, true_and, and_assoc]
  repeat refine gA ?_
  obtain rfl := Option.some.inj hr
  (simp (maxDischargeDepth := 8) [go_sem, -List.drop_one])
theorem f71 : FnFact Try.prog 71 T71.sp := ⟨⟨Try.f71, Try.func71, by decide, rfl⟩, v71⟩

/- martensite/field.openPair -/
def r123 (a0_0 : Int) (a0_1 : List (Int × Int × Int)) (a1_0 : Int) (a1_1 : List (Bool)) (a1_2 : Int) (a1_3 : List (Bool)) : Option ((List (Int)) × (List (Int)) × (List (Int)) × (List (Int)) × Int) :=
  (r83 a0_0 a0_1 a1_0 a1_1).bind fun v1 =>
   (r83 a0_0 a0_1 a1_2 a1_3).bind fun v2 =>
    (r87 [v1.2.2, v2.2.2]).bind fun v3 =>
     some (v1.1, v1.2.1, v2.1, v2.2.1, v3)
def T123 : TSpec (Int × (List (Int × Int × Int)) × Int × (List (Bool)) × Int × (List (Bool))) where
  enc x := [.agg [.int .i64 x.1, encF 3 d_III x.2.1], .agg [.int .i64 x.2.2.1, encF 1 d_B x.2.2.2.1, .int .i64 x.2.2.2.2.1, encF 1 d_B x.2.2.2.2.2]]
  dec a := (dInt (aCell a 0 0), decF g_III (aCell a 0 1), dInt (aCell a 1 0), decF g_B (aCell a 1 1), dInt (aCell a 1 2), decF g_B (aCell a 1 3))
  pre x := (r123 x.1 x.2.1 x.2.2.1 x.2.2.2.1 x.2.2.2.2.1 x.2.2.2.2.2).isSome = true
  res x := [.agg [.own (encF 1 d_I (((r123 x.1 x.2.1 x.2.2.1 x.2.2.2.1 x.2.2.2.2.1 x.2.2.2.2.2).getD default).1)), .own (encF 1 d_I (((r123 x.1 x.2.1 x.2.2.1 x.2.2.2.1 x.2.2.2.2.1 x.2.2.2.2.2).getD default).2.1)), .own (encF 1 d_I (((r123 x.1 x.2.1 x.2.2.1 x.2.2.2.1 x.2.2.2.2.1 x.2.2.2.2.2).getD default).2.2.1)), .own (encF 1 d_I (((r123 x.1 x.2.1 x.2.2.1 x.2.2.2.1 x.2.2.2.2.1 x.2.2.2.2.2).getD default).2.2.2.1))], .c (.d (.int .i64 (((r123 x.1 x.2.1 x.2.2.1 x.2.2.2.1 x.2.2.2.2.1 x.2.2.2.2.2).getD default).2.2.2.2)))]
  al := false
def tb123 : Fns := lk [(83, T83.sp), (87, T87.sp)]
theorem tb123_ok : FnsOk Try.prog tb123 := .cons f83 (.cons f87 (FnsOk.nil))
theorem tb123_83 : tb123 83 = some T83.sp := rfl
theorem tb123_87 : tb123 87 = some T87.sp := rfl
theorem v123 : Valid Try.prog 123 T123.sp := by
  refine valid_t (fn := Try.f123) (n := 31) ty_ok tb123_ok Try.func123 rfl Try.ntmps123 ?_
  rintro ⟨a0_0, a0_1, a1_0, a1_1, a1_2, a1_3⟩ hx
  obtain ⟨r, hr⟩ := Option.isSome_iff_exists.1 (show (r123 a0_0 a0_1 a1_0 a1_1 a1_2 a1_3).isSome = true from hx)
  have hres : T123.res (a0_0, a0_1, a1_0, a1_1, a1_2, a1_3) = [.agg [.own (encF 1 d_I r.1), .own (encF 1 d_I r.2.1), .own (encF 1 d_I r.2.2.1), .own (encF 1 d_I r.2.2.2.1)], .c (.d (.int .i64 r.2.2.2.2))] := by simp only [T123, hr, Option.getD_some]
  refine ⟨Nat.le_of_ble_eq_true rfl, fun stop S => ?_⟩
  rw [hres] at S
  unfold r123 at hr
  refine S.goB [] 1000 ?_
  simp (maxSteps := 10000000) only [go_sem, tb123_83, T83, tb123_87, T87, T123, Bool.not_true, Bool.not_false, Option.map_some, Int.reduceToNat, Nat.reduceEqDiff, Nat.reduceLT, Nat.reduceAdd, Nat.reduceMul, Nat.reduceSub, Nat.reduceLeDiff, reduceIte, reduceCtorEq, Try.results123]
  obtain ⟨v1, hv1, hr⟩ := of_bind0 hr
  obtain ⟨v2, hv2, hr⟩ := of_bind0 hr
  obtain ⟨v3, hv3, hr⟩ := of_bind0 hr
  try simp only [hv1, hv2, hv3, Option.getD_some, Option.isSome_some, true_and, and_assoc]
  repeat refine gA ?_
  obtain rfl := Option.some.inj hr
  (simp (maxDischargeDepth := 8) [go_sem, -List.drop_one])
theorem f123 : FnFact Try.prog 123 T123.sp := ⟨⟨Try.f123, Try.func123, by decide, rfl⟩, v123⟩

/- (martensite/field.pair).watts -/
def b124_2 (v6 : (List (Int))) : (Int × (List (Int))) → Ctl (Int × (List (Int))) ((List (Int))) := fun s2 =>
  if (decide (s2.1 < (v6.length : Int))) = true then
   if 0 ≤ s2.1 ∧ s2.1 < (v6.length : Int) then
    if 0 ≤ s2.1 ∧ s2.1 < (s2.2.length : Int) then
     if 0 ≤ s2.1 ∧ s2.1 < (s2.2.length : Int) then
      .next (IntKind.i64.wrap (s2.1 + 1), s2.2.set s2.1.toNat (IntKind.i64.wrap ((s2.2.getD s2.1.toNat default) + (v6.getD s2.1.toNat default))))
      else .out none
     else .out none
    else .out none
   else .out (some s2.2)
def b124_1 (a0_2 : List (Int)) (a0_3 : List (Int)) (a1_1 : Int) (v1 : (List (Int))) : ((List (Int)) × Int) → Ctl ((List (Int)) × Int) ((List (Int))) := fun s1 =>
  if (decide (s1.2 < (v1.length : Int))) = true then
   if 0 ≤ s1.2 ∧ s1.2 < (v1.length : Int) then
    if (s1.1.length + 1) * 8 ≤ 140737488355328 ∧ s1.1.length + 1 ≤ 9223372036854775807 then
     if 0 ≤ s1.2 ∧ s1.2 < ((s1.1 ++ [0]).length : Int) then
      if 0 ≤ s1.2 ∧ s1.2 < ((s1.1 ++ [0]).length : Int) then
       .next ((s1.1 ++ [0]).set s1.2.toNat (IntKind.i64.wrap (((s1.1 ++ [0]).getD s1.2.toNat default) + (v1.getD s1.2.toNat default))), IntKind.i64.wrap (s1.2 + 1))
       else .out none
      else .out none
     else .out none
    else .out none
   else .out ((r103 a0_2 a0_3 a1_1).bind fun v6 =>
    iterC (b124_2 v6) 1000000000 (0, s1.1))
def r124 (a0_0 : List (Int)) (a0_1 : List (Int)) (a0_2 : List (Int)) (a0_3 : List (Int)) (a1_0 : Int) (a1_1 : Int) : Option ((List (Int))) :=
  (r103 a0_0 a0_1 a1_0).bind fun v1 =>
   iterC (b124_1 a0_2 a0_3 a1_1 v1) 1000000000 ([], 0)
def T124 : TSpec ((List (Int)) × (List (Int)) × (List (Int)) × (List (Int)) × Int × Int) where
  enc x := [.agg [encF 1 d_I x.1, encF 1 d_I x.2.1, encF 1 d_I x.2.2.1, encF 1 d_I x.2.2.2.1], .agg [.int .i64 x.2.2.2.2.1, .int .i64 x.2.2.2.2.2]]
  dec a := (decF g_I (aCell a 0 0), decF g_I (aCell a 0 1), decF g_I (aCell a 0 2), decF g_I (aCell a 0 3), dInt (aCell a 1 0), dInt (aCell a 1 1))
  pre x := (r124 x.1 x.2.1 x.2.2.1 x.2.2.2.1 x.2.2.2.2.1 x.2.2.2.2.2).isSome = true
  res x := [.c (.own (encF 1 d_I ((r124 x.1 x.2.1 x.2.2.1 x.2.2.2.1 x.2.2.2.2.1 x.2.2.2.2.2).getD default)))]
  al := false
def tb124 : Fns := lk [(103, T103.sp)]
theorem tb124_ok : FnsOk Try.prog tb124 := .cons f103 (FnsOk.nil)
theorem tb124_103 : tb124 103 = some T103.sp := rfl
theorem lt124_0 : (decide ((0 : Int) < 2)) = true := by first | rfl | decide | simp
theorem lt124_1 : ((((0 : Int)) == 0)) = true := by first | rfl | decide | simp
theorem lt124_2 : (IntKind.i64.wrap (0 + 1)) = 1 := by first | rfl | decide | simp
theorem lt124_3 : (decide ((1 : Int) < 2)) = true := by first | rfl | decide | simp
theorem lt124_4 : (((1 : Int) = 0 ∨ (0 : Int) < 1)) = True := by first | rfl | decide | simp
theorem lt124_5 : ((((1 : Int)) == 0)) = false := by first | rfl | decide | simp
theorem lt124_6 : (IntKind.i64.wrap (1 + 1)) = 2 := by first | rfl | decide | simp
theorem lt124_7 : (decide ((2 : Int) < 2)) = false := by first | rfl | decide | simp
theorem v124 : Valid Try.prog 124 T124.sp := by
  refine valid_t (fn := Try.f124) (n := 41) ty_ok tb124_ok Try.func124 rfl Try.ntmps124 ?_
  rintro ⟨a0_0, a0_1, a0_2, a0_3, a1_0, a1_1⟩ hx
  obtain ⟨r, hr⟩ := Option.isSome_iff_exists.1 (show (r124 a0_0 a0_1 a0_2 a0_3 a1_0 a1_1).isSome = true from hx)
  have hres : T124.res (a0_0, a0_1, a0_2, a0_3, a1_0, a1_1) = [.c (.own (encF 1 d_I r))] := by simp only [T124, hr, Option.getD_some]
  refine ⟨Nat.le_of_ble_eq_true rfl, fun stop S => ?_⟩
  rw [hres] at S
  unfold r124 at hr
  refine S.goB [10] 1000 ?_
  simp (maxSteps := 10000000) only [go_sem, tb124_103, T103, lt124_0, lt124_1, lt124_2, lt124_3, lt124_4, lt124_5, lt124_6, lt124_7, T124, Bool.not_true, Bool.not_false, Option.map_some, Int.reduceToNat, Nat.reduceEqDiff, Nat.reduceLT, Nat.reduceAdd, Nat.reduceMul, Nat.reduceSub, Nat.reduceLeDiff, reduceIte, reduceCtorEq, Try.results124]
  repeat refine gA ?_
  refine S.lp ?_
  refine S.goB [10] 1000 ?_
  simp (maxSteps := 10000000) only [go_sem, tb124_103, T103, lt124_0, lt124_1, lt124_2, lt124_3, lt124_4, lt124_5, lt124_6, lt124_7, T124, Bool.not_true, Bool.not_false, Option.map_some, Int.reduceToNat, Nat.reduceEqDiff, Nat.reduceLT, Nat.reduceAdd, Nat.reduceMul, Nat.reduceSub, Nat.reduceLeDiff, reduceIte, reduceCtorEq, Try.results124]
  obtain ⟨v1, hv1, hr⟩ := of_bind0 hr
  try simp only [hv1, Option.getD_some, Option.isSome_some, true_and, and_assoc]
  repeat refine gA ?_
  refine S.own0 5 1000500 1 rfl rfl ?_
  refine S.sees [3, 5, 6, 10, 11, 19, 20, 21] [(3, 3)] [(1000500, 1000500), (19, 19)] ?_ (Stop.iter S (fun s1 => ⟨[(3, .c (.ref 3 0)), (5, .c (.own 1000500)), (6, .c (.d (.int .i64 0))), (10, .agg [.d (encF 1 d_I a0_0), .d (encF 1 d_I a0_1), .d (encF 1 d_I a0_2), .d (encF 1 d_I a0_3)]), (11, .c (.d (.int .i64 0))), (19, .c (.own 19)), (20, .c (.d (.int .i64 (v1.length : Int)))), (21, .c (.d (.int .i64 s1.2)))], [(3, [.d (.int .i64 a1_0), .d (.int .i64 a1_1)])], [(1000500, .owned (encF 1 d_I s1.1)), (19, .owned (encF 1 d_I v1))]⟩) (b124_1 a0_2 a0_3 a1_1 v1) (fun q => q = r) hr rfl ?_)
  · (simp (maxDischargeDepth := 8) [go_sem, -List.drop_one])
  · intro s1 hr
    unfold b124_1 at hr
    refine S.goB [10] 1000 ?_
    simp (maxSteps := 10000000) only [go_sem, tb124_103, T103, lt124_0, lt124_1, lt124_2, lt124_3, lt124_4, lt124_5, lt124_6, lt124_7, T124, Bool.not_true, Bool.not_false, Option.map_some, Int.reduceToNat, Nat.reduceEqDiff, Nat.reduceLT, Nat.reduceAdd, Nat.reduceMul, Nat.reduceSub, Nat.reduceLeDiff, reduceIte, reduceCtorEq, Try.results124]
    repeat refine gA ?_
    refine ⟨fun hc => ?_, fun hc => ?_⟩
    · replace hr := ifP1 hr hc
      obtain ⟨hg4, hr⟩ := of_guard1 hr
      obtain ⟨hg5, hr⟩ := of_guard1 hr
      repeat refine gA ?_
      refine S.sees [3, 5, 6, 8, 9, 10, 11, 19, 20, 21] [(3, 3)] [(30, 30), (19, 19)] (st' := ⟨[(3, .c (.ref 3 0)), (5, .c (.own 30)), (6, .c (.d (.int .i64 0))), (8, .c (.d (.int .i64 s1.2))), (9, .c (.d (.int .i64 (v1.getD s1.2.toNat default)))), (10, .agg [.d (encF 1 d_I a0_0), .d (encF 1 d_I a0_1), .d (encF 1 d_I a0_2), .d (encF 1 d_I a0_3)]), (11, .c (.d (.int .i64 0))), (19, .c (.own 19)), (20, .c (.d (.int .i64 (v1.length : Int)))), (21, .c (.d (.int .i64 s1.2)))], [(3, [.d (.int .i64 a1_0), .d (.int .i64 a1_1)])], [(30, .owned (encF 1 d_I (s1.1 ++ [0]))), (19, .owned (encF 1 d_I v1))]⟩) ?_ ?_
      · (simp (maxDischargeDepth := 8) [go_sem, -List.drop_one])
      · refine S.goB [] 1000 ?_
        simp (maxSteps := 10000000) only [go_sem, tb124_103, T103, lt124_0, lt124_1, lt124_2, lt124_3, lt124_4, lt124_5, lt124_6, lt124_7, T124, Bool.not_true, Bool.not_false, Option.map_some, Int.reduceToNat, Nat.reduceEqDiff, Nat.reduceLT, Nat.reduceAdd, Nat.reduceMul, Nat.reduceSub, Nat.reduceLeDiff, reduceIte, reduceCtorEq, Try.results124]
        obtain ⟨hg2, hr⟩ := of_guard1 hr
        obtain ⟨hg3, hr⟩ := of_guard1 hr
        repeat refine gA ?_
        repeat refine gA ?_
        refine S.sees [3, 5, 6, 10, 11, 19, 20, 21] [(3, 3)] [(30, 1000500), (19, 19)] ?_ hr
        (simp (maxDischargeDepth := 8) [go_sem, -List.drop_one])
    · replace hr := ifN1 hr hc
      repeat refine gA ?_
      have hr := of_out0 hr
      repeat refine gA ?_
      refine S.lp ?_
      refine S.goB [10] 1000 ?_
      simp (maxSteps := 10000000) only [go_sem, tb124_103, T103, lt124_0, lt124_1, lt124_2, lt124_3, lt124_4, lt124_5, lt124_6, lt124_7, T124, Bool.not_true, Bool.not_false, Option.map_some, Int.reduceToNat, Nat.reduceEqDiff, Nat.reduceLT, Nat.reduceAdd, Nat.reduceMul, Nat.reduceSub, Nat.reduceLeDiff, reduceIte, reduceCtorEq, Try.results124]
      obtain ⟨v6, hv6, hr⟩ := of_bind0 hr
      try simp only [hv6, Option.getD_some, Option.isSome_some, true_and, and_assoc]
      repeat refine gA ?_
      refine S.sees [3, 5, 6, 10, 11, 19, 20, 21] [(3, 3)] [(1000500, 1000500), (100019, 100019)] ?_ (Stop.iter S (fun s2 => ⟨[(3, .c (.ref 3 0)), (5, .c (.own 1000500)), (6, .c (.d (.int .i64 1))), (10, .agg [.d (encF 1 d_I a0_0), .d (encF 1 d_I a0_1), .d (encF 1 d_I a0_2), .d (encF 1 d_I a0_3)]), (11, .c (.d (.int .i64 1))), (19, .c (.own 100019)), (20, .c (.d (.int .i64 (v6.length : Int)))), (21, .c (.d (.int .i64 s2.1)))], [(3, [.d (.int .i64 a1_0), .d (.int .i64 a1_1)])], [(1000500, .owned (encF 1 d_I s2.2)), (100019, .owned (encF 1 d_I v6))]⟩) (b124_2 v6) (fun q => q = r) hr rfl ?_)
      · (simp (maxDischargeDepth := 8) [go_sem, -List.drop_one])
      · intro s2 hr
        unfold b124_2 at hr
        refine S.goB [10] 1000 ?_
        simp (maxSteps := 10000000) only [go_sem, tb124_103, T103, lt124_0, lt124_1, lt124_2, lt124_3, lt124_4, lt124_5, lt124_6, lt124_7, T124, Bool.not_true, Bool.not_false, Option.map_some, Int.reduceToNat, Nat.reduceEqDiff, Nat.reduceLT, Nat.reduceAdd, Nat.reduceMul, Nat.reduceSub, Nat.reduceLeDiff, reduceIte, reduceCtorEq, Try.results124]
        repeat refine gA ?_
        refine ⟨fun hc => ?_, fun hc => ?_⟩
        · replace hr := ifP1 hr hc
          obtain ⟨hg9, hr⟩ := of_guard1 hr
          repeat refine gA ?_
          refine S.sees [3, 5, 6, 8, 9, 10, 11, 19, 20, 21] [(3, 3)] [(1000500, 1000500), (100019, 100019)] (st' := ⟨[(3, .c (.ref 3 0)), (5, .c (.own 1000500)), (6, .c (.d (.int .i64 1))), (8, .c (.d (.int .i64 s2.1))), (9, .c (.d (.int .i64 (v6.getD s2.1.toNat default)))), (10, .agg [.d (encF 1 d_I a0_0), .d (encF 1 d_I a0_1), .d (encF 1 d_I a0_2), .d (encF 1 d_I a0_3)]), (11, .c (.d (.int .i64 1))), (19, .c (.own 100019)), (20, .c (.d (.int .i64 (v6.length : Int)))), (21, .c (.d (.int .i64 s2.1)))], [(3, [.d (.int .i64 a1_0), .d (.int .i64 a1_1)])], [(1000500, .owned (encF 1 d_I s2.2)), (100019, .owned (encF 1 d_I v6))]⟩) ?_ ?_
          · (simp (maxDischargeDepth := 8) [go_sem, -List.drop_one])
          · refine S.goB [] 1000 ?_
            simp (maxSteps := 10000000) only [go_sem, tb124_103, T103, lt124_0, lt124_1, lt124_2, lt124_3, lt124_4, lt124_5, lt124_6, lt124_7, T124, Bool.not_true, Bool.not_false, Option.map_some, Int.reduceToNat, Nat.reduceEqDiff, Nat.reduceLT, Nat.reduceAdd, Nat.reduceMul, Nat.reduceSub, Nat.reduceLeDiff, reduceIte, reduceCtorEq, Try.results124]
            obtain ⟨hg7, hr⟩ := of_guard1 hr
            obtain ⟨hg8, hr⟩ := of_guard1 hr
            repeat refine gA ?_
            repeat refine gA ?_
            refine S.sees [3, 5, 6, 10, 11, 19, 20, 21] [(3, 3)] [(1000500, 1000500), (100019, 100019)] ?_ hr
            (simp (maxDischargeDepth := 8) [go_sem, -List.drop_one])
        · replace hr := ifN1 hr hc
          repeat refine gA ?_
          have hr := of_out0 hr
          repeat refine gA ?_
          refine S.lp ?_
          refine S.goB [10] 1000 ?_
          simp (maxSteps := 10000000) only [go_sem, tb124_103, T103, lt124_0, lt124_1, lt124_2, lt124_3, lt124_4, lt124_5, lt124_6, lt124_7, T124, Bool.not_true, Bool.not_false, Option.map_some, Int.reduceToNat, Nat.reduceEqDiff, Nat.reduceLT, Nat.reduceAdd, Nat.reduceMul, Nat.reduceSub, Nat.reduceLeDiff, reduceIte, reduceCtorEq, Try.results124]
          repeat refine gA ?_
          obtain rfl := Option.some.inj hr
          (simp (maxDischargeDepth := 8) [go_sem, -List.drop_one])
theorem f124 : FnFact Try.prog 124 T124.sp := ⟨⟨Try.f124, Try.func124, by decide, rfl⟩, v124⟩

/- martensite/field.TwoWatts -/
def r70 (a0_0 : Int) (a0_1 : List (Int × Int × Int)) (a1_0 : Int) (a1_1 : List (Bool)) (a1_2 : Int) (a1_3 : List (Bool)) (a2_0 : Int) (a2_1 : Int) : Option ((List (Int)) × Int) :=
  (r123 a0_0 a0_1 a1_0 a1_1 a1_2 a1_3).bind fun v1 =>
   (r102 a2_0).bind fun v2 =>
    (r102 a2_1).bind fun v3 =>
     (r87 [v1.2.2.2.2, v2, v3]).bind fun v4 =>
      if (v4 != 0) = true then
       some ([], v4)
       else (r124 v1.1 v1.2.1 v1.2.2.1 v1.2.2.2.1 a2_0 a2_1).bind fun v5 =>
        some (v5, 0)
def T70 : TSpec (Int × (List (Int × Int × Int)) × Int × (List (Bool)) × Int × (List (Bool)) × Int × Int) where
  enc x := [.agg [.int .i64 x.1, encF 3 d_III x.2.1], .agg [.int .i64 x.2.2.1, encF 1 d_B x.2.2.2.1, .int .i64 x.2.2.2.2.1, encF 1 d_B x.2.2.2.2.2.1], .agg [.int .i64 x.2.2.2.2.2.2.1, .int .i64 x.2.2.2.2.2.2.2]]
  dec a := (dInt (aCell a 0 0), decF g_III (aCell a 0 1), dInt (aCell a 1 0), decF g_B (aCell a 1 1), dInt (aCell a 1 2), decF g_B (aCell a 1 3), dInt (aCell a 2 0), dInt (aCell a 2 1))
  pre x := (r70 x.1 x.2.1 x.2.2.1 x.2.2.2.1 x.2.2.2.2.1 x.2.2.2.2.2.1 x.2.2.2.2.2.2.1 x.2.2.2.2.2.2.2).isSome = true
  res x := [.c (.own (encF 1 d_I (((r70 x.1 x.2.1 x.2.2.1 x.2.2.2.1 x.2.2.2.2.1 x.2.2.2.2.2.1 x.2.2.2.2.2.2.1 x.2.2.2.2.2.2.2).getD default).1))), .c (.d (.int .i64 (((r70 x.1 x.2.1 x.2.2.1 x.2.2.2.1 x.2.2.2.2.1 x.2.2.2.2.2.1 x.2.2.2.2.2.2.1 x.2.2.2.2.2.2.2).getD default).2)))]
  al := false
def tb70 : Fns := lk [(87, T87.sp), (102, T102.sp), (123, T123.sp), (124, T124.sp)]
theorem tb70_ok : FnsOk Try.prog tb70 := .cons f87 (.cons f102 (.cons f123 (.cons f124 (FnsOk.nil))))
theorem tb70_87 : tb70 87 = some T87.sp := rfl
theorem tb70_102 : tb70 102 = some T102.sp := rfl
theorem tb70_123 : tb70 123 = some T123.sp := rfl
theorem tb70_124 : tb70 124 = some T124.sp := rfl
theorem v70 : Valid Try.prog 70 T70.sp := by
  refine valid_t (fn := Try.f70) (n := 31) ty_ok tb70_ok Try.func70 rfl Try.ntmps70 ?_
  rintro ⟨a0_0, a0_1, a1_0, a1_1, a1_2, a1_3, a2_0, a2_1⟩ hx
  obtain ⟨r, hr⟩ := Option.isSome_iff_exists.1 (show (r70 a0_0 a0_1 a1_0 a1_1 a1_2 a1_3 a2_0 a2_1).isSome = true from hx)
  have hres : T70.res (a0_0, a0_1, a1_0, a1_1, a1_2, a1_3, a2_0, a2_1) = [.c (.own (encF 1 d_I r.1)), .c (.d (.int .i64 r.2))] := by simp only [T70, hr, Option.getD_some]
  refine ⟨Nat.le_of_ble_eq_true rfl, fun stop S => ?_⟩
  rw [hres] at S
  unfold r70 at hr
  refine S.goB [] 1000 ?_
  simp (maxSteps := 10000000) only [go_sem, tb70_87, T87, tb70_102, T102, tb70_123, T123, tb70_124, T124, T70, Bool.not_true, Bool.not_false, Option.map_some, Int.reduceToNat, Nat.reduceEqDiff, Nat.reduceLT, Nat.reduceAdd, Nat.reduceMul, Nat.reduceSub, Nat.reduceLeDiff, reduceIte, reduceCtorEq, Try.results70]
  obtain ⟨v1, hv1, hr⟩ := of_bind0 hr
  obtain ⟨v2, hv2, hr⟩ := of_bind0 hr
  obtain ⟨v3, hv3, hr⟩ := of_bind0 hr
  obtain ⟨v4, hv4, hr⟩ := of_bind0 hr
  try simp only [hv1, hv2, hv3, hv4, Option.getD_some, Option.isSome_some, true_and, and_assoc]
  repeat refine gA ?_
  refine ⟨fun hc => ?_, fun hc => ?_⟩
  · replace hr := ifP hr hc
    repeat refine gA ?_
    obtain rfl := Option.some.inj hr
    (simp (maxDischargeDepth := 8) [go_sem, -List.drop_one])
  · replace hr := ifN hr hc
    obtain ⟨v5, hv5, hr⟩ := of_bind0 hr
    try simp only [hv5, Option.getD_some, Option.isSome_some, true_and, and_assoc]
    repeat refine gA ?_
    obtain rfl := Option.some.inj hr
    (simp (maxDischargeDepth := 8) [go_sem, -List.drop_one])
theorem f70 : FnFact Try.prog 70 T70.sp := ⟨⟨Try.f70, Try.func70, by decide, rfl⟩, v70⟩

/- martensite/martensiteref02.CopyShape -/
def r73 (a0_0 : Int) (a0_1 : List (Int × Int)) : Option (Int × (List (Int × Int))) :=
  if (0 + a0_1.length) * 16 ≤ 140737488355328 ∧ 0 + a0_1.length ≤ 9223372036854775807 then
   some (a0_0, a0_1)
   else none
def T73 : TSpec (Int × (List (Int × Int))) where
  enc x := [.agg [.int .i64 x.1, encF 2 d_II x.2]]
  dec a := (dInt (aCell a 0 0), decF g_II (aCell a 0 1))
  pre x := (r73 x.1 x.2).isSome = true
  res x := [.agg [.d (.int .i64 (((r73 x.1 x.2).getD default).1)), .own (encF 2 d_II (((r73 x.1 x.2).getD default).2))]]
  al := false
def tb73 : Fns := lk []
theorem tb73_ok : FnsOk Try.prog tb73 := FnsOk.nil
theorem v73 : Valid Try.prog 73 T73.sp := by
  refine valid_t (fn := Try.f73) (n := 9) ty_ok tb73_ok Try.func73 rfl Try.ntmps73 ?_
  rintro ⟨a0_0, a0_1⟩ hx
  obtain ⟨r, hr⟩ := Option.isSome_iff_exists.1 (show (r73 a0_0 a0_1).isSome = true from hx)
  have hres : T73.res (a0_0, a0_1) = [.agg [.d (.int .i64 r.1), .own (encF 2 d_II r.2)]] := by simp only [T73, hr, Option.getD_some]
  refine ⟨Nat.le_of_ble_eq_true rfl, fun stop S => ?_⟩
  rw [hres] at S
  unfold r73 at hr
  refine S.goB [] 1000 ?_
  simp (maxSteps := 10000000) only [go_sem, T73, Bool.not_true, Bool.not_false, Option.map_some, Int.reduceToNat, Nat.reduceEqDiff, Nat.reduceLT, Nat.reduceAdd, Nat.reduceMul, Nat.reduceSub, Nat.reduceLeDiff, reduceIte, reduceCtorEq, Try.results73]
  obtain ⟨hg1, hr⟩ := of_guard0 hr
  repeat refine gA ?_
  obtain rfl := Option.some.inj hr
  (simp (maxDischargeDepth := 8) [go_sem, -List.drop_one])
theorem f73 : FnFact Try.prog 73 T73.sp := ⟨⟨Try.f73, Try.func73, by decide, rfl⟩, v73⟩

/- martensite/field.shapeErr -/
def b125_1 (a0_1 : List (Int × Int)) : (Int) → Ctl (Int) (Int) := fun s1 =>
  if (decide (s1 < (a0_1.length : Int))) = true then
   if 0 ≤ s1 ∧ s1 < (a0_1.length : Int) then
    bindC (r102 ((a0_1.getD s1.toNat default).1)) fun v4 =>
     bindC (r102 ((a0_1.getD s1.toNat default).2)) fun v5 =>
      bindC (r96 (decide (((a0_1.getD s1.toNat default).1) ≤ ((a0_1.getD s1.toNat default).2))) 9) fun v6 =>
       bindC (r87 [v4, v5, v6]) fun v7 =>
        if (v7 != 0) = true then
         .out (some v7)
         else .next (IntKind.i64.wrap (s1 + 1))
    else .out none
   else .out (some 0)
def r125 (a0_0 : Int) (a0_1 : List (Int × Int)) (a1 : Int) : Option (Int) :=
  (r102 a0_0).bind fun v1 =>
   (r96 ((a0_1.length : Int) == a1) 10).bind fun v2 =>
    (r87 [v1, v2]).bind fun v3 =>
     if (v3 != 0) = true then
      some v3
      else iterC (b125_1 a0_1) 1000000000 0
def T125 : TSpec (Int × (List (Int × Int)) × Int) where
  enc x := [.agg [.int .i64 x.1, encF 2 d_II x.2.1], .c (.int .i64 x.2.2)]
  dec a := (dInt (aCell a 0 0), decF g_II (aCell a 0 1), dInt (aCell a 1 0))
  pre x := (r125 x.1 x.2.1 x.2.2).isSome = true
  res x := [.c (.d (.int .i64 ((r125 x.1 x.2.1 x.2.2).getD default)))]
  al := false
def tb125 : Fns := lk [(87, T87.sp), (96, T96.sp), (102, T102.sp)]
theorem tb125_ok : FnsOk Try.prog tb125 := .cons f87 (.cons f96 (.cons f102 (FnsOk.nil)))
theorem tb125_87 : tb125 87 = some T87.sp := rfl
theorem tb125_96 : tb125 96 = some T96.sp := rfl
theorem tb125_102 : tb125 102 = some T102.sp := rfl
theorem v125 : Valid Try.prog 125 T125.sp := by
  refine valid_t (fn := Try.f125) (n := 48) ty_ok tb125_ok Try.func125 rfl Try.ntmps125 ?_
  rintro ⟨a0_0, a0_1, a1⟩ hx
  obtain ⟨r, hr⟩ := Option.isSome_iff_exists.1 (show (r125 a0_0 a0_1 a1).isSome = true from hx)
  have hres : T125.res (a0_0, a0_1, a1) = [.c (.d (.int .i64 r))] := by simp only [T125, hr, Option.getD_some]
  refine ⟨Nat.le_of_ble_eq_true rfl, fun stop S => ?_⟩
  rw [hres] at S
  unfold r125 at hr
  refine S.goB [] 1000 ?_
  simp (maxSteps := 10000000) only [go_sem, tb125_87, T87, tb125_96, T96, tb125_102, T102, T125, Bool.not_true, Bool.not_false, Option.map_some, Int.reduceToNat, Nat.reduceEqDiff, Nat.reduceLT, Nat.reduceAdd, Nat.reduceMul, Nat.reduceSub, Nat.reduceLeDiff, reduceIte, reduceCtorEq, Try.results125]
  obtain ⟨v1, hv1, hr⟩ := of_bind0 hr
  obtain ⟨v2, hv2, hr⟩ := of_bind0 hr
  obtain ⟨v3, hv3, hr⟩ := of_bind0 hr
  try simp only [hv1, hv2, hv3, Option.getD_some, Option.isSome_some, true_and, and_assoc]
  repeat refine gA ?_
  refine ⟨fun hc => ?_, fun hc => ?_⟩
  · replace hr := ifP hr hc
    repeat refine gA ?_
    obtain rfl := Option.some.inj hr
    (simp (maxDischargeDepth := 8) [go_sem, -List.drop_one])
  · replace hr := ifN hr hc
    repeat refine gA ?_
    refine S.sees [24, 25, 26] [] [] ?_ (Stop.iter S (fun s1 => ⟨[(24, .c (.d (encF 2 d_II a0_1))), (25, .c (.d (.int .i64 (a0_1.length : Int)))), (26, .c (.d (.int .i64 s1)))], [], []⟩) (b125_1 a0_1) (fun q => q = r) hr rfl ?_)
    · (simp (maxDischargeDepth := 8) [go_sem, -List.drop_one])
    · intro s1 hr
      unfold b125_1 at hr
      refine S.goB [] 1000 ?_
      simp (maxSteps := 10000000) only [go_sem, tb125_87, T87, tb125_96, T96, tb125_102, T102, T125, Bool.not_true, Bool.not_false, Option.map_some, Int.reduceToNat, Nat.reduceEqDiff, Nat.reduceLT, Nat.reduceAdd, Nat.reduceMul, Nat.reduceSub, Nat.reduceLeDiff, reduceIte, reduceCtorEq, Try.results125]
      repeat refine gA ?_
      refine ⟨fun hc => ?_, fun hc => ?_⟩
      · replace hr := ifP1 hr hc
        obtain ⟨hg8, hr⟩ := of_guard1 hr
        obtain ⟨v4, hv4, hr⟩ := of_bind1 hr
        obtain ⟨v5, hv5, hr⟩ := of_bind1 hr
        obtain ⟨v6, hv6, hr⟩ := of_bind1 hr
        obtain ⟨v7, hv7, hr⟩ := of_bind1 hr
        try simp only [hv4, hv5, hv6, hv7, Option.getD_some, Option.isSome_some, true_and, and_assoc]
        repeat refine gA ?_
        refine ⟨fun hc => ?_, fun hc => ?_⟩
        · replace hr := ifP1 hr hc
          repeat refine gA ?_
          have hr := of_out0 hr
          obtain rfl := Option.some.inj hr
          (simp (maxDischargeDepth := 8) [go_sem, -List.drop_one])
        · replace hr := ifN1 hr hc
          repeat refine gA ?_
          refine S.sees [24, 25, 26] [] [] ?_ hr
          (simp (maxDischargeDepth := 8) [go_sem, -List.drop_one])
      · replace hr := ifN1 hr hc
        repeat refine gA ?_
        have hr := of_out0 hr
        repeat refine gA ?_
        obtain rfl := Option.some.inj hr
        (simp (maxDischargeDepth := 8) [go_sem, -List.drop_one])
theorem f125 : FnFact Try.prog 125 T125.sp := ⟨⟨Try.f125, Try.func125, by decide, rfl⟩, v125⟩

/- martensite/field.SplitFor -/
def b72_2 (a2_1 : List (Int × Int)) (s1 : Int) (v4 : (List (Int))) : (Bool × Int) → Ctl (Bool × Int) (Ctl (Int) (Int × Int)) := fun s2 =>
  if (decide (s2.2 < (v4.length : Int))) = true then
   if 0 ≤ s2.2 ∧ s2.2 < (v4.length : Int) then
    if s2.1 = true → 0 ≤ s2.2 ∧ s2.2 < (a2_1.length : Int) then
     if s2.1 = true → 0 ≤ s2.2 ∧ s2.2 < (a2_1.length : Int) then
      if s2.1 = true → (r97 (v4.getD s2.2.toNat default) ((a2_1.getD s2.2.toNat default).1) ((a2_1.getD s2.2.toNat default).2)).isSome = true then
       .next (s2.1 && ((r97 (v4.getD s2.2.toNat default) ((a2_1.getD s2.2.toNat default).1) ((a2_1.getD s2.2.toNat default).2)).getD default), IntKind.i64.wrap (s2.2 + 1))
       else .out none
      else .out none
     else .out none
    else .out none
   else .out (some (if s2.1 = true then
    .out (some (s1, 0))
    else .next (IntKind.i64.wrap (s1 + 1))))
def b72_1 (a2_0 : Int) (a2_1 : List (Int × Int)) (v1 : (List (Int)) × (List (Int)) × (List (Int)) × (List (Int)) × Int) : (Int) → Ctl (Int) (Int × Int) := fun s1 =>
  if (decide (s1 < (IntKind.i64.wrap (a2_0 + 1)))) = true then
   bindC (r124 v1.1 v1.2.1 v1.2.2.1 v1.2.2.2.1 s1 (IntKind.i64.wrap (a2_0 - s1))) fun v4 =>
    (iterC (b72_2 a2_1 s1 v4) 1000000000 (true, 0)).getD (.out none)
   else .out (some (0, 12))
def r72 (a0_0 : Int) (a0_1 : List (Int × Int × Int)) (a1_0 : Int) (a1_1 : List (Bool)) (a1_2 : Int) (a1_3 : List (Bool)) (a2_0 : Int) (a2_1 : List (Int × Int)) : Option (Int × Int) :=
  (r123 a0_0 a0_1 a1_0 a1_1 a1_2 a1_3).bind fun v1 =>
   (r125 a2_0 a2_1 (a0_1.length : Int)).bind fun v2 =>
    (r87 [v1.2.2.2.2, v2]).bind fun v3 =>
     if (v3 != 0) = true then
      some (0, v3)
      else iterC (b72_1 a2_0 a2_1 v1) 1000000000 0
def T72 : TSpec (Int × (List (Int × Int × Int)) × Int × (List (Bool)) × Int × (List (Bool)) × Int × (List (Int × Int))) where
  enc x := [.agg [.int .i64 x.1, encF 3 d_III x.2.1], .agg [.int .i64 x.2.2.1, encF 1 d_B x.2.2.2.1, .int .i64 x.2.2.2.2.1, encF 1 d_B x.2.2.2.2.2.1], .agg [.int .i64 x.2.2.2.2.2.2.1, encF 2 d_II x.2.2.2.2.2.2.2]]
  dec a := (dInt (aCell a 0 0), decF g_III (aCell a 0 1), dInt (aCell a 1 0), decF g_B (aCell a 1 1), dInt (aCell a 1 2), decF g_B (aCell a 1 3), dInt (aCell a 2 0), decF g_II (aCell a 2 1))
  pre x := (r72 x.1 x.2.1 x.2.2.1 x.2.2.2.1 x.2.2.2.2.1 x.2.2.2.2.2.1 x.2.2.2.2.2.2.1 x.2.2.2.2.2.2.2).isSome = true
  res x := [.c (.d (.int .i64 (((r72 x.1 x.2.1 x.2.2.1 x.2.2.2.1 x.2.2.2.2.1 x.2.2.2.2.2.1 x.2.2.2.2.2.2.1 x.2.2.2.2.2.2.2).getD default).1))), .c (.d (.int .i64 (((r72 x.1 x.2.1 x.2.2.1 x.2.2.2.1 x.2.2.2.2.1 x.2.2.2.2.2.1 x.2.2.2.2.2.2.1 x.2.2.2.2.2.2.2).getD default).2)))]
  al := false
def tb72 : Fns := lk [(87, T87.sp), (97, T97.sp), (123, T123.sp), (124, T124.sp), (125, T125.sp)]
theorem tb72_ok : FnsOk Try.prog tb72 := .cons f87 (.cons f97 (.cons f123 (.cons f124 (.cons f125 (FnsOk.nil)))))
theorem tb72_87 : tb72 87 = some T87.sp := rfl
theorem tb72_97 : tb72 97 = some T97.sp := rfl
theorem tb72_123 : tb72 123 = some T123.sp := rfl
theorem tb72_124 : tb72 124 = some T124.sp := rfl
theorem tb72_125 : tb72 125 = some T125.sp := rfl
theorem v72 : Valid Try.prog 72 T72.sp := by
  refine valid_t (fn := Try.f72) (n := 72) ty_ok tb72_ok Try.func72 rfl Try.ntmps72 ?_
  rintro ⟨a0_0, a0_1, a1_0, a1_1, a1_2, a1_3, a2_0, a2_1⟩ hx
  obtain ⟨r, hr⟩ := Option.isSome_iff_exists.1 (show (r72 a0_0 a0_1 a1_0 a1_1 a1_2 a1_3 a2_0 a2_1).isSome = true from hx)
  have hres : T72.res (a0_0, a0_1, a1_0, a1_1, a1_2, a1_3, a2_0, a2_1) = [.c (.d (.int .i64 r.1)), .c (.d (.int .i64 r.2))] := by simp only [T72, hr, Option.getD_some]
  refine ⟨Nat.le_of_ble_eq_true rfl, fun stop S => ?_⟩
  rw [hres] at S
  unfold r72 at hr
  refine S.goB [] 1000 ?_
  simp (maxSteps := 10000000) only [go_sem, tb72_87, T87, tb72_97, T97, tb72_123, T123, tb72_124, T124, tb72_125, T125, T72, Bool.not_true, Bool.not_false, Option.map_some, Int.reduceToNat, Nat.reduceEqDiff, Nat.reduceLT, Nat.reduceAdd, Nat.reduceMul, Nat.reduceSub, Nat.reduceLeDiff, reduceIte, reduceCtorEq, Try.results72]
  obtain ⟨v1, hv1, hr⟩ := of_bind0 hr
  obtain ⟨v2, hv2, hr⟩ := of_bind0 hr
  obtain ⟨v3, hv3, hr⟩ := of_bind0 hr
  try simp only [hv1, hv2, hv3, Option.getD_some, Option.isSome_some, true_and, and_assoc]
  repeat refine gA ?_
  refine ⟨fun hc => ?_, fun hc => ?_⟩
  · replace hr := ifP hr hc
    repeat refine gA ?_
    obtain rfl := Option.some.inj hr
    (simp (maxDischargeDepth := 8) [go_sem, -List.drop_one])
  · replace hr := ifN hr hc
    repeat refine gA ?_
    refine S.sees [5, 8, 33, 34] [(5, 5), (8, 8)] [(17, 17), (10017, 10017), (20017, 20017), (30017, 30017)] ?_ (Stop.iter S (fun s1 => ⟨[(5, .c (.ref 5 0)), (8, .c (.ref 8 0)), (33, .c (.d (.int .i64 (IntKind.i64.wrap (a2_0 + 1))))), (34, .c (.d (.int .i64 s1)))], [(5, [.d (.int .i64 a2_0), .d (encF 2 d_II a2_1)]), (8, [.own 17, .own 10017, .own 20017, .own 30017])], [(17, .owned (encF 1 d_I v1.1)), (10017, .owned (encF 1 d_I v1.2.1)), (20017, .owned (encF 1 d_I v1.2.2.1)), (30017, .owned (encF 1 d_I v1.2.2.2.1))]⟩) (b72_1 a2_0 a2_1 v1) (fun q => q = r) hr rfl ?_)
    · (simp (maxDischargeDepth := 8) [go_sem, -List.drop_one])
    · intro s1 hr
      unfold b72_1 at hr
      refine S.goB [] 1000 ?_
      simp (maxSteps := 10000000) only [go_sem, tb72_87, T87, tb72_97, T97, tb72_123, T123, tb72_124, T124, tb72_125, T125, T72, Bool.not_true, Bool.not_false, Option.map_some, Int.reduceToNat, Nat.reduceEqDiff, Nat.reduceLT, Nat.reduceAdd, Nat.reduceMul, Nat.reduceSub, Nat.reduceLeDiff, reduceIte, reduceCtorEq, Try.results72]
      repeat refine gA ?_
      refine ⟨fun hc => ?_, fun hc => ?_⟩
      · replace hr := ifP1 hr hc
        obtain ⟨v4, hv4, hr⟩ := of_bind1 hr
        try simp only [hv4, Option.getD_some, Option.isSome_some, true_and, and_assoc]
        repeat refine gA ?_
        obtain ⟨q2, hq, hr⟩ := of_iter1 hr
        refine S.sees [5, 8, 10, 11, 33, 34, 44, 45, 46] [(5, 5), (8, 8)] [(44, 44), (17, 17), (10017, 10017), (20017, 20017), (30017, 30017)] ?_ (Stop.iter S (fun s2 => ⟨[(5, .c (.ref 5 0)), (8, .c (.ref 8 0)), (10, .c (.d (.int .i64 s1))), (11, .c (.d (.bool s2.1))), (33, .c (.d (.int .i64 (IntKind.i64.wrap (a2_0 + 1))))), (34, .c (.d (.int .i64 s1))), (44, .c (.own 44)), (45, .c (.d (.int .i64 (v4.length : Int)))), (46, .c (.d (.int .i64 s2.2)))], [(5, [.d (.int .i64 a2_0), .d (encF 2 d_II a2_1)]), (8, [.own 17, .own 10017, .own 20017, .own 30017])], [(44, .owned (encF 1 d_I v4)), (17, .owned (encF 1 d_I v1.1)), (10017, .owned (encF 1 d_I v1.2.1)), (20017, .owned (encF 1 d_I v1.2.2.1)), (30017, .owned (encF 1 d_I v1.2.2.2.1))]⟩) (b72_2 a2_1 s1 v4) _ hq hr ?_)
        · (simp (maxDischargeDepth := 8) [go_sem, -List.drop_one])
        · intro s2 hr
          unfold b72_2 at hr
          refine S.goB [] 1000 ?_
          simp (maxSteps := 10000000) only [go_sem, tb72_87, T87, tb72_97, T97, tb72_123, T123, tb72_124, T124, tb72_125, T125, T72, Bool.not_true, Bool.not_false, Option.map_some, Int.reduceToNat, Nat.reduceEqDiff, Nat.reduceLT, Nat.reduceAdd, Nat.reduceMul, Nat.reduceSub, Nat.reduceLeDiff, reduceIte, reduceCtorEq, Try.results72]
          repeat refine gA ?_
          refine ⟨fun hc => ?_, fun hc => ?_⟩
          · replace hr := ifP1 hr hc
            obtain ⟨hg5, hr⟩ := of_guard1 hr
            obtain ⟨hg6, hr⟩ := of_guard1 hr
            obtain ⟨hg7, hr⟩ := of_guard1 hr
            obtain ⟨hg8, hr⟩ := of_guard1 hr
            repeat (first | refine gG hg6 ?_ | refine gG hg7 ?_ | refine gG hg8 ?_ | refine gA ?_ | refine gB ?_)
            refine S.sees [5, 8, 10, 11, 33, 34, 44, 45, 46] [(5, 5), (8, 8)] [(44, 44), (17, 17), (10017, 10017), (20017, 20017), (30017, 30017)] ?_ hr
            (simp (maxDischargeDepth := 8) [go_sem, -List.drop_one])
          · replace hr := ifN1 hr hc
            repeat refine gA ?_
            replace hr := goodC_out hr
            repeat refine gA ?_
            refine ⟨fun hc => ?_, fun hc => ?_⟩
            · replace hr := ifP1 hr hc
              repeat refine gA ?_
              have hr := of_out0 hr
              obtain rfl := Option.some.inj hr
              (simp (maxDischargeDepth := 8) [go_sem, -List.drop_one])
            · replace hr := ifN1 hr hc
              repeat refine gA ?_
              refine S.sees [5, 8, 33, 34] [(5, 5), (8, 8)] [(17, 17), (10017, 10017), (20017, 20017), (30017, 30017)] ?_ hr
              (simp (maxDischargeDepth := 8) [go_sem, -List.drop_one])
      · replace hr := ifN1 hr hc
        repeat refine gA ?_
        have hr := of_out0 hr
        repeat refine gA ?_
        obtain rfl := Option.some.inj hr
        (simp (maxDischargeDepth := 8) [go_sem, -List.drop_one])
theorem f72 : FnFact Try.prog 72 T72.sp := ⟨⟨Try.f72, Try.func72, by decide, rfl⟩, v72⟩

/- martensite/martensiteref02.WishErr -/
def r75 (a0_0 : Int) (a0_1 : List (Int × Int × Int)) (a1 : List (Bool)) (a2_0 : Int) (a2_1 : Int) : Option (Int) :=
  if ((a1.length : Int) != (a0_1.length : Int)) = true then
   some 10
   else (r33 a2_0 1 100).bind fun v1 =>
    if (!(!v1)) = true → (r33 a2_1 1 (a0_1.length : Int)).isSome = true then
     if ((!v1) || (!((r33 a2_1 1 (a0_1.length : Int)).getD default))) = true then
      some 2
      else some 0
     else none
def T75 : TSpec (Int × (List (Int × Int × Int)) × (List (Bool)) × Int × Int) where
  enc x := [.agg [.int .i64 x.1, encF 3 d_III x.2.1], .c (encF 1 d_B x.2.2.1), .agg [.int .i64 x.2.2.2.1, .int .i64 x.2.2.2.2]]
  dec a := (dInt (aCell a 0 0), decF g_III (aCell a 0 1), decF g_B (aCell a 1 0), dInt (aCell a 2 0), dInt (aCell a 2 1))
  pre x := (r75 x.1 x.2.1 x.2.2.1 x.2.2.2.1 x.2.2.2.2).isSome = true
  res x := [.c (.d (.int .i64 ((r75 x.1 x.2.1 x.2.2.1 x.2.2.2.1 x.2.2.2.2).getD default)))]
  al := false
def tb75 : Fns := lk [(33, T33.sp)]
theorem tb75_ok : FnsOk Try.prog tb75 := .cons f33 (FnsOk.nil)
theorem tb75_33 : tb75 33 = some T33.sp := rfl
theorem v75 : Valid Try.prog 75 T75.sp := by
  refine valid_t (fn := Try.f75) (n := 26) ty_ok tb75_ok Try.func75 rfl Try.ntmps75 ?_
  rintro ⟨a0_0, a0_1, a1, a2_0, a2_1⟩ hx
  obtain ⟨r, hr⟩ := Option.isSome_iff_exists.1 (show (r75 a0_0 a0_1 a1 a2_0 a2_1).isSome = true from hx)
  have hres : T75.res (a0_0, a0_1, a1, a2_0, a2_1) = [.c (.d (.int .i64 r))] := by simp only [T75, hr, Option.getD_some]
  refine ⟨Nat.le_of_ble_eq_true rfl, fun stop S => ?_⟩
  rw [hres] at S
  unfold r75 at hr
  refine S.goB [] 1000 ?_
  simp (maxSteps := 10000000) only [go_sem, tb75_33, T33, T75, Bool.not_true, Bool.not_false, Option.map_some, Int.reduceToNat, Nat.reduceEqDiff, Nat.reduceLT, Nat.reduceAdd, Nat.reduceMul, Nat.reduceSub, Nat.reduceLeDiff, reduceIte, reduceCtorEq, Try.results75]
  repeat refine gA ?_
  refine ⟨fun hc => ?_, fun hc => ?_⟩
  · replace hr := ifP hr hc
    repeat refine gA ?_
    obtain rfl := Option.some.inj hr
    (simp (maxDischargeDepth := 8) [go_sem, -List.drop_one])
  · replace hr := ifN hr hc
    obtain ⟨v1, hv1, hr⟩ := of_bind0 hr
    obtain ⟨hg2, hr⟩ := of_guard0 hr
    try simp only [hv1, Option.getD_some, Option.isSome_some, true_and, and_assoc]
    repeat (first | refine gG hg2 ?_ | refine gA ?_ | refine gB ?_)
    refine ⟨fun hc => ?_, fun hc => ?_⟩
    · replace hr := ifP hr hc
      repeat refine gA ?_
      obtain rfl := Option.some.inj hr
      (simp (maxDischargeDepth := 8) [go_sem, -List.drop_one])
    · replace hr := ifN hr hc
      repeat refine gA ?_
      obtain rfl := Option.some.inj hr
      (simp (maxDischargeDepth := 8) [go_sem, -List.drop_one])
theorem f75 : FnFact Try.prog 75 T75.sp := ⟨⟨Try.f75, Try.func75, by decide, rfl⟩, v75⟩

/- martensite/martensiteref02.PairErr -/
def r77 (a0_0 : Int) (a0_1 : List (Int × Int × Int)) (a1_0 : Int) (a1_1 : List (Bool)) (a1_2 : Int) (a1_3 : List (Bool)) : Option (Int) :=
  (r22 a0_0 a0_1 a1_0 a1_1).bind fun v1 =>
   if (v1 != 0) = true then
    some v1
    else (r63 a0_0 a0_1 a1_2 a1_3).bind fun v2 =>
     some v2
def T77 : TSpec (Int × (List (Int × Int × Int)) × Int × (List (Bool)) × Int × (List (Bool))) where
  enc x := [.agg [.int .i64 x.1, encF 3 d_III x.2.1], .agg [.int .i64 x.2.2.1, encF 1 d_B x.2.2.2.1, .int .i64 x.2.2.2.2.1, encF 1 d_B x.2.2.2.2.2]]
  dec a := (dInt (aCell a 0 0), decF g_III (aCell a 0 1), dInt (aCell a 1 0), decF g_B (aCell a 1 1), dInt (aCell a 1 2), decF g_B (aCell a 1 3))
  pre x := (r77 x.1 x.2.1 x.2.2.1 x.2.2.2.1 x.2.2.2.2.1 x.2.2.2.2.2).isSome = true
  res x := [.c (.d (.int .i64 ((r77 x.1 x.2.1 x.2.2.1 x.2.2.2.1 x.2.2.2.2.1 x.2.2.2.2.2).getD default)))]
  al := false
def tb77 : Fns := lk [(22, T22.sp), (63, T63.sp)]
theorem tb77_ok : FnsOk Try.prog tb77 := .cons f22 (.cons f63 (FnsOk.nil))
theorem tb77_22 : tb77 22 = some T22.sp := rfl
theorem tb77_63 : tb77 63 = some T63.sp := rfl
theorem v77 : Valid Try.prog 77 T77.sp := by
  refine valid_t (fn := Try.f77) (n := 17) ty_ok tb77_ok Try.func77 rfl Try.ntmps77 ?_
  rintro ⟨a0_0, a0_1, a1_0, a1_1, a1_2, a1_3⟩ hx
  obtain ⟨r, hr⟩ := Option.isSome_iff_exists.1 (show (r77 a0_0 a0_1 a1_0 a1_1 a1_2 a1_3).isSome = true from hx)
  have hres : T77.res (a0_0, a0_1, a1_0, a1_1, a1_2, a1_3) = [.c (.d (.int .i64 r))] := by simp only [T77, hr, Option.getD_some]
  refine ⟨Nat.le_of_ble_eq_true rfl, fun stop S => ?_⟩
  rw [hres] at S
  unfold r77 at hr
  refine S.goB [] 1000 ?_
  simp (maxSteps := 10000000) only [go_sem, tb77_22, T22, tb77_63, T63, T77, Bool.not_true, Bool.not_false, Option.map_some, Int.reduceToNat, Nat.reduceEqDiff, Nat.reduceLT, Nat.reduceAdd, Nat.reduceMul, Nat.reduceSub, Nat.reduceLeDiff, reduceIte, reduceCtorEq, Try.results77]
  obtain ⟨v1, hv1, hr⟩ := of_bind0 hr
  try simp only [hv1, Option.getD_some, Option.isSome_some, true_and, and_assoc]
  repeat refine gA ?_
  refine ⟨fun hc => ?_, fun hc => ?_⟩
  · replace hr := ifP hr hc
    repeat refine gA ?_
    obtain rfl := Option.some.inj hr
    (simp (maxDischargeDepth := 8) [go_sem, -List.drop_one])
  · replace hr := ifN hr hc
    obtain ⟨v2, hv2, hr⟩ := of_bind0 hr
    try simp only [hv2, Option.getD_some, Option.isSome_some, true_and, and_assoc]
    repeat refine gA ?_
    obtain rfl := Option.some.inj hr
    (simp (maxDischargeDepth := 8) [go_sem, -List.drop_one])
theorem f77 : FnFact Try.prog 77 T77.sp := ⟨⟨Try.f77, Try.func77, by decide, rfl⟩, v77⟩

/- martensite/martensiteref02.ShapeErr -/
def b79_1 (a1_1 : List (Int × Int)) : (Int) → Ctl (Int) (Int) := fun s1 =>
  if (decide (s1 < (a1_1.length : Int))) = true then
   if 0 ≤ s1 ∧ s1 < (a1_1.length : Int) then
    bindC (r37 ((a1_1.getD s1.toNat default).1)) fun v2 =>
     if (!(v2 != 0)) = true → 0 ≤ s1 ∧ s1 < (a1_1.length : Int) then
      if (!(v2 != 0)) = true → (r37 ((a1_1.getD s1.toNat default).2)).isSome = true then
       if ((v2 != 0) || (((r37 ((a1_1.getD s1.toNat default).2)).getD default) != 0)) = true then
        .out (some 2)
        else if 0 ≤ s1 ∧ s1 < (a1_1.length : Int) then
         if 0 ≤ s1 ∧ s1 < (a1_1.length : Int) then
          if (decide (((a1_1.getD s1.toNat default).1) > ((a1_1.getD s1.toNat default).2))) = true then
           .out (some 9)
           else .next (IntKind.i64.wrap (s1 + 1))
          else .out none
         else .out none
       else .out none
      else .out none
    else .out none
   else .out (some 0)
def r79 (a0_0 : Int) (a0_1 : List (Int × Int × Int)) (a1_0 : Int) (a1_1 : List (Int × Int)) : Option (Int) :=
  (r37 a1_0).bind fun v1 =>
   if (v1 != 0) = true then
    some v1
    else if ((a1_1.length : Int) != (a0_1.length : Int)) = true then
     some 10
     else iterC (b79_1 a1_1) 1000000000 0
def T79 : TSpec (Int × (List (Int × Int × Int)) × Int × (List (Int × Int))) where
  enc x := [.agg [.int .i64 x.1, encF 3 d_III x.2.1], .agg [.int .i64 x.2.2.1, encF 2 d_II x.2.2.2]]
  dec a := (dInt (aCell a 0 0), decF g_III (aCell a 0 1), dInt (aCell a 1 0), decF g_II (aCell a 1 1))
  pre x := (r79 x.1 x.2.1 x.2.2.1 x.2.2.2).isSome = true
  res x := [.c (.d (.int .i64 ((r79 x.1 x.2.1 x.2.2.1 x.2.2.2).getD default)))]
  al := false
def tb79 : Fns := lk [(37, T37.sp)]
theorem tb79_ok : FnsOk Try.prog tb79 := .cons f37 (FnsOk.nil)
theorem tb79_37 : tb79 37 = some T37.sp := rfl
theorem v79 : Valid Try.prog 79 T79.sp := by
  refine valid_t (fn := Try.f79) (n := 58) ty_ok tb79_ok Try.func79 rfl Try.ntmps79 ?_
  rintro ⟨a0_0, a0_1, a1_0, a1_1⟩ hx
  obtain ⟨r, hr⟩ := Option.isSome_iff_exists.1 (show (r79 a0_0 a0_1 a1_0 a1_1).isSome = true from hx)
  have hres : T79.res (a0_0, a0_1, a1_0, a1_1) = [.c (.d (.int .i64 r))] := by simp only [T79, hr, Option.getD_some]
  refine ⟨Nat.le_of_ble_eq_true rfl, fun stop S => ?_⟩
  rw [hres] at S
  unfold r79 at hr
  refine S.goB [] 1000 ?_
  simp (maxSteps := 10000000) only [go_sem, tb79_37, T37, T79, Bool.not_true, Bool.not_false, Option.map_some, Int.reduceToNat, Nat.reduceEqDiff, Nat.reduceLT, Nat.reduceAdd, Nat.reduceMul, Nat.reduceSub, Nat.reduceLeDiff, reduceIte, reduceCtorEq, Try.results79]
  obtain ⟨v1, hv1, hr⟩ := of_bind0 hr
  try simp only [hv1, Option.getD_some, Option.isSome_some, true_and, and_assoc]
  repeat refine gA ?_
  refine ⟨fun hc => ?_, fun hc => ?_⟩
  · replace hr := ifP hr hc
    repeat refine gA ?_
    obtain rfl := Option.some.inj hr
    (simp (maxDischargeDepth := 8) [go_sem, -List.drop_one])
  · replace hr := ifN hr hc
    repeat refine gA ?_
    refine ⟨fun hc => ?_, fun hc => ?_⟩
    · replace hr := ifP hr hc
      repeat refine gA ?_
      obtain rfl := Option.some.inj hr
      (simp (maxDischargeDepth := 8) [go_sem, -List.drop_one])
    · replace hr := ifN hr hc
      repeat refine gA ?_
      refine S.sees [3, 6] [(3, 3)] [] ?_ (Stop.iter S (fun s1 => ⟨[(3, .c (.ref 3 0)), (6, .c (.d (.int .i64 s1)))], [(3, [.d (.int .i64 a1_0), .d (encF 2 d_II a1_1)])], []⟩) (b79_1 a1_1) (fun q => q = r) hr rfl ?_)
      · (simp (maxDischargeDepth := 8) [go_sem, -List.drop_one])
      · intro s1 hr
        unfold b79_1 at hr
        refine S.goB [] 1000 ?_
        simp (maxSteps := 10000000) only [go_sem, tb79_37, T37, T79, Bool.not_true, Bool.not_false, Option.map_some, Int.reduceToNat, Nat.reduceEqDiff, Nat.reduceLT, Nat.reduceAdd, Nat.reduceMul, Nat.reduceSub, Nat.reduceLeDiff, reduceIte, reduceCtorEq, Try.results79]
        repeat refine gA ?_
        refine ⟨fun hc => ?_, fun hc => ?_⟩
        · replace hr := ifP1 hr hc
          obtain ⟨hg5, hr⟩ := of_guard1 hr
          obtain ⟨v2, hv2, hr⟩ := of_bind1 hr
          obtain ⟨hg6, hr⟩ := of_guard1 hr
          obtain ⟨hg7, hr⟩ := of_guard1 hr
          try simp only [hv2, Option.getD_some, Option.isSome_some, true_and, and_assoc]
          repeat (first | refine gG hg6 ?_ | refine gG hg7 ?_ | refine gA ?_ | refine gB ?_)
          refine ⟨fun hc => ?_, fun hc => ?_⟩
          · replace hr := ifP1 hr hc
            repeat refine gA ?_
            have hr := of_out0 hr
            obtain rfl := Option.some.inj hr
            (simp (maxDischargeDepth := 8) [go_sem, -List.drop_one])
          · replace hr := ifN1 hr hc
            obtain ⟨hg3, hr⟩ := of_guard1 hr
            obtain ⟨hg4, hr⟩ := of_guard1 hr
            repeat refine gA ?_
            refine ⟨fun hc => ?_, fun hc => ?_⟩
            · replace hr := ifP1 hr hc
              repeat refine gA ?_
              have hr := of_out0 hr
              obtain rfl := Option.some.inj hr
              (simp (maxDischargeDepth := 8) [go_sem, -List.drop_one])
            · replace hr := ifN1 hr hc
              repeat refine gA ?_
              refine S.sees [3, 6] [(3, 3)] [] ?_ hr
              (simp (maxDischargeDepth := 8) [go_sem, -List.drop_one])
        · replace hr := ifN1 hr hc
          repeat refine gA ?_
          have hr := of_out0 hr
          repeat refine gA ?_
          obtain rfl := Option.some.inj hr
          (simp (maxDischargeDepth := 8) [go_sem, -List.drop_one])
theorem f79 : FnFact Try.prog 79 T79.sp := ⟨⟨Try.f79, Try.func79, by decide, rfl⟩, v79⟩

/- martensite/martensiteref02.Two -/
def b78_1 (v1 : (List (Int))) (v2 : (List (Int))) : ((List (Int)) × Int) → Ctl ((List (Int)) × Int) ((List (Int))) := fun s1 =>
  if (decide (s1.2 < (v1.length : Int))) = true then
   if 0 ≤ s1.2 ∧ s1.2 < (v1.length : Int) then
    if 0 ≤ s1.2 ∧ s1.2 < (v2.length : Int) then
     if (s1.1.length + 1) * 8 ≤ 140737488355328 ∧ s1.1.length + 1 ≤ 9223372036854775807 then
      .next (s1.1 ++ [IntKind.i64.wrap ((v1.getD s1.2.toNat default) + (v2.getD s1.2.toNat default))], IntKind.i64.wrap (s1.2 + 1))
      else .out none
     else .out none
    else .out none
   else .out (some s1.1)
def r78 (a0_0 : Int) (a0_1 : List (Int × Int × Int)) (a1_0 : Int) (a1_1 : List (Bool)) (a1_2 : Int) (a1_3 : List (Bool)) (a2_0 : Int) (a2_1 : Int) : Option ((List (Int))) :=
  (r51 a0_0 a0_1 a1_0 a1_1 a2_0).bind fun v1 =>
   (r51 a0_0 a0_1 a1_2 a1_3 a2_1).bind fun v2 =>
    iterC (b78_1 v1 v2) 1000000000 ([], 0)
def T78 : TSpec (Int × (List (Int × Int × Int)) × Int × (List (Bool)) × Int × (List (Bool)) × Int × Int) where
  enc x := [.agg [.int .i64 x.1, encF 3 d_III x.2.1], .agg [.int .i64 x.2.2.1, encF 1 d_B x.2.2.2.1, .int .i64 x.2.2.2.2.1, encF 1 d_B x.2.2.2.2.2.1], .agg [.int .i64 x.2.2.2.2.2.2.1, .int .i64 x.2.2.2.2.2.2.2]]
  dec a := (dInt (aCell a 0 0), decF g_III (aCell a 0 1), dInt (aCell a 1 0), decF g_B (aCell a 1 1), dInt (aCell a 1 2), decF g_B (aCell a 1 3), dInt (aCell a 2 0), dInt (aCell a 2 1))
  pre x := (r78 x.1 x.2.1 x.2.2.1 x.2.2.2.1 x.2.2.2.2.1 x.2.2.2.2.2.1 x.2.2.2.2.2.2.1 x.2.2.2.2.2.2.2).isSome = true
  res x := [.c (.own (encF 1 d_I ((r78 x.1 x.2.1 x.2.2.1 x.2.2.2.1 x.2.2.2.2.1 x.2.2.2.2.2.1 x.2.2.2.2.2.2.1 x.2.2.2.2.2.2.2).getD default)))]
  al := false
def tb78 : Fns := lk [(51, T51.sp)]
theorem tb78_ok : FnsOk Try.prog tb78 := .cons f51 (FnsOk.nil)
theorem tb78_51 : tb78 51 = some T51.sp := rfl
theorem v78 : Valid Try.prog 78 T78.sp := by
  refine valid_t (fn := Try.f78) (n := 42) ty_ok tb78_ok Try.func78 rfl Try.ntmps78 ?_
  rintro ⟨a0_0, a0_1, a1_0, a1_1, a1_2, a1_3, a2_0, a2_1⟩ hx
  obtain ⟨r, hr⟩ := Option.isSome_iff_exists.1 (show (r78 a0_0 a0_1 a1_0 a1_1 a1_2 a1_3 a2_0 a2_1).isSome = true from hx)
  have hres : T78.res (a0_0, a0_1, a1_0, a1_1, a1_2, a1_3, a2_0, a2_1) = [.c (.own (encF 1 d_I r))] := by simp only [T78, hr, Option.getD_some]
  refine ⟨Nat.le_of_ble_eq_true rfl, fun stop S => ?_⟩
  rw [hres] at S
  unfold r78 at hr
  refine S.goB [] 1000 ?_
  simp (maxSteps := 10000000) only [go_sem, tb78_51, T51, T78, Bool.not_true, Bool.not_false, Option.map_some, Int.reduceToNat, Nat.reduceEqDiff, Nat.reduceLT, Nat.reduceAdd, Nat.reduceMul, Nat.reduceSub, Nat.reduceLeDiff, reduceIte, reduceCtorEq, Try.results78]
  obtain ⟨v1, hv1, hr⟩ := of_bind0 hr
  obtain ⟨v2, hv2, hr⟩ := of_bind0 hr
  try simp only [hv1, hv2, Option.getD_some, Option.isSome_some, true_and, and_assoc]
  repeat refine gA ?_
  refine S.own0 9 1000900 1 rfl rfl ?_
  refine S.sees [7, 8, 9, 10] [] [(1000900, 1000900), (16, 16), (22, 22)] ?_ (Stop.iter S (fun s1 => ⟨[(7, .c (.own 16)), (8, .c (.own 22)), (9, .c (.own 1000900)), (10, .c (.d (.int .i64 s1.2)))], [], [(1000900, .owned (encF 1 d_I s1.1)), (16, .owned (encF 1 d_I v1)), (22, .owned (encF 1 d_I v2))]⟩) (b78_1 v1 v2) (fun q => q = r) hr rfl ?_)
  · (simp (maxDischargeDepth := 8) [go_sem, -List.drop_one])
  · intro s1 hr
    unfold b78_1 at hr
    refine S.goB [] 1000 ?_
    simp (maxSteps := 10000000) only [go_sem, tb78_51, T51, T78, Bool.not_true, Bool.not_false, Option.map_some, Int.reduceToNat, Nat.reduceEqDiff, Nat.reduceLT, Nat.reduceAdd, Nat.reduceMul, Nat.reduceSub, Nat.reduceLeDiff, reduceIte, reduceCtorEq, Try.results78]
    repeat refine gA ?_
    refine ⟨fun hc => ?_, fun hc => ?_⟩
    · replace hr := ifP1 hr hc
      obtain ⟨hg3, hr⟩ := of_guard1 hr
      obtain ⟨hg4, hr⟩ := of_guard1 hr
      obtain ⟨hg5, hr⟩ := of_guard1 hr
      repeat refine gA ?_
      refine S.sees [7, 8, 9, 10] [] [(40, 1000900), (16, 16), (22, 22)] ?_ hr
      (simp (maxDischargeDepth := 8) [go_sem, -List.drop_one])
    · replace hr := ifN1 hr hc
      repeat refine gA ?_
      have hr := of_out0 hr
      repeat refine gA ?_
      obtain rfl := Option.some.inj hr
      (simp (maxDischargeDepth := 8) [go_sem, -List.drop_one])
theorem f78 : FnFact Try.prog 78 T78.sp := ⟨⟨Try.f78, Try.func78, by decide, rfl⟩, v78⟩

/- martensite/martensiteref02.Fits -/
def b126_1 (a0 : List (Int)) (a1 : List (Int × Int)) : (Int) → Ctl (Int) (Bool) := fun s1 =>
  if (decide (s1 < (a0.length : Int))) = true then
   if 0 ≤ s1 ∧ s1 < (a0.length : Int) then
    if 0 ≤ s1 ∧ s1 < (a1.length : Int) then
     if 0 ≤ s1 ∧ s1 < (a1.length : Int) then
      bindC (r33 (a0.getD s1.toNat default) ((a1.getD s1.toNat default).1) ((a1.getD s1.toNat default).2)) fun v1 =>
       if (!v1) = true then
        .out (some false)
        else .next (IntKind.i64.wrap (s1 + 1))
      else .out none
     else .out none
    else .out none
   else .out (some true)
def r126 (a0 : List (Int)) (a1 : List (Int × Int)) : Option (Bool) :=
  iterC (b126_1 a0 a1) 1000000000 0
def T126 : TSpec ((List (Int)) × (List (Int × Int))) where
  enc x := [.c (encF 1 d_I x.1), .c (encF 2 d_II x.2)]
  dec a := (decF g_I (aCell a 0 0), decF g_II (aCell a 1 0))
  pre x := (r126 x.1 x.2).isSome = true
  res x := [.c (.d (.bool ((r126 x.1 x.2).getD default)))]
  al := false
def tb126 : Fns := lk [(33, T33.sp)]
theorem tb126_ok : FnsOk Try.prog tb126 := .cons f33 (FnsOk.nil)
theorem tb126_33 : tb126 33 = some T33.sp := rfl
theorem v126 : Valid Try.prog 126 T126.sp := by
  refine valid_t (fn := Try.f126) (n := 28) ty_ok tb126_ok Try.func126 rfl Try.ntmps126 ?_
  rintro ⟨a0, a1⟩ hx
  obtain ⟨r, hr⟩ := Option.isSome_iff_exists.1 (show (r126 a0 a1).isSome = true from hx)
  have hres : T126.res (a0, a1) = [.c (.d (.bool r))] := by simp only [T126, hr, Option.getD_some]
  refine ⟨Nat.le_of_ble_eq_true rfl, fun stop S => ?_⟩
  rw [hres] at S
  unfold r126 at hr
  refine S.goB [] 1000 ?_
  simp (maxSteps := 10000000) only [go_sem, tb126_33, T33, T126, Bool.not_true, Bool.not_false, Option.map_some, Int.reduceToNat, Nat.reduceEqDiff, Nat.reduceLT, Nat.reduceAdd, Nat.reduceMul, Nat.reduceSub, Nat.reduceLeDiff, reduceIte, reduceCtorEq, Try.results126]
  repeat refine gA ?_
  refine S.sees [0, 1, 5] [] [] ?_ (Stop.iter S (fun s1 => ⟨[(0, .c (.d (encF 1 d_I a0))), (1, .c (.d (encF 2 d_II a1))), (5, .c (.d (.int .i64 s1)))], [], []⟩) (b126_1 a0 a1) (fun q => q = r) hr rfl ?_)
  · (simp (maxDischargeDepth := 8) [go_sem, -List.drop_one])
  · intro s1 hr
    unfold b126_1 at hr
    refine S.goB [] 1000 ?_
    simp (maxSteps := 10000000) only [go_sem, tb126_33, T33, T126, Bool.not_true, Bool.not_false, Option.map_some, Int.reduceToNat, Nat.reduceEqDiff, Nat.reduceLT, Nat.reduceAdd, Nat.reduceMul, Nat.reduceSub, Nat.reduceLeDiff, reduceIte, reduceCtorEq, Try.results126]
    repeat refine gA ?_
    refine ⟨fun hc => ?_, fun hc => ?_⟩
    · replace hr := ifP1 hr hc
      obtain ⟨hg2, hr⟩ := of_guard1 hr
      obtain ⟨hg3, hr⟩ := of_guard1 hr
      obtain ⟨hg4, hr⟩ := of_guard1 hr
      obtain ⟨v1, hv1, hr⟩ := of_bind1 hr
      try simp only [hv1, Option.getD_some, Option.isSome_some, true_and, and_assoc]
      repeat refine gA ?_
      refine ⟨fun hc => ?_, fun hc => ?_⟩
      · replace hr := ifP1 hr hc
        repeat refine gA ?_
        have hr := of_out0 hr
        obtain rfl := Option.some.inj hr
        (simp (maxDischargeDepth := 8) [go_sem, -List.drop_one])
      · replace hr := ifN1 hr hc
        repeat refine gA ?_
        refine S.sees [0, 1, 5] [] [] ?_ hr
        (simp (maxDischargeDepth := 8) [go_sem, -List.drop_one])
    · replace hr := ifN1 hr hc
      repeat refine gA ?_
      have hr := of_out0 hr
      repeat refine gA ?_
      obtain rfl := Option.some.inj hr
      (simp (maxDischargeDepth := 8) [go_sem, -List.drop_one])
theorem f126 : FnFact Try.prog 126 T126.sp := ⟨⟨Try.f126, Try.func126, by decide, rfl⟩, v126⟩

/- martensite/martensiteref02.Split -/
def b80_1 (a0_0 : Int) (a0_1 : List (Int × Int × Int)) (a1_0 : Int) (a1_1 : List (Bool)) (a1_2 : Int) (a1_3 : List (Bool)) (a2_0 : Int) (a2_1 : List (Int × Int)) : (Int) → Ctl (Int) (Int × Bool) := fun s1 =>
  if (decide (s1 ≤ a2_0)) = true then
   bindC (r78 a0_0 a0_1 a1_0 a1_1 a1_2 a1_3 s1 (IntKind.i64.wrap (a2_0 - s1))) fun v1 =>
    bindC (r126 v1 a2_1) fun v2 =>
     if v2 = true then
      .out (some (s1, true))
      else .next (IntKind.i64.wrap (s1 + 1))
   else .out (some (0, false))
def r80 (a0_0 : Int) (a0_1 : List (Int × Int × Int)) (a1_0 : Int) (a1_1 : List (Bool)) (a1_2 : Int) (a1_3 : List (Bool)) (a2_0 : Int) (a2_1 : List (Int × Int)) : Option (Int × Bool) :=
  iterC (b80_1 a0_0 a0_1 a1_0 a1_1 a1_2 a1_3 a2_0 a2_1) 1000000000 0
def T80 : TSpec (Int × (List (Int × Int × Int)) × Int × (List (Bool)) × Int × (List (Bool)) × Int × (List (Int × Int))) where
  enc x := [.agg [.int .i64 x.1, encF 3 d_III x.2.1], .agg [.int .i64 x.2.2.1, encF 1 d_B x.2.2.2.1, .int .i64 x.2.2.2.2.1, encF 1 d_B x.2.2.2.2.2.1], .agg [.int .i64 x.2.2.2.2.2.2.1, encF 2 d_II x.2.2.2.2.2.2.2]]
  dec a := (dInt (aCell a 0 0), decF g_III (aCell a 0 1), dInt (aCell a 1 0), decF g_B (aCell a 1 1), dInt (aCell a 1 2), decF g_B (aCell a 1 3), dInt (aCell a 2 0), decF g_II (aCell a 2 1))
  pre x := (r80 x.1 x.2.1 x.2.2.1 x.2.2.2.1 x.2.2.2.2.1 x.2.2.2.2.2.1 x.2.2.2.2.2.2.1 x.2.2.2.2.2.2.2).isSome = true
  res x := [.c (.d (.int .i64 (((r80 x.1 x.2.1 x.2.2.1 x.2.2.2.1 x.2.2.2.2.1 x.2.2.2.2.2.1 x.2.2.2.2.2.2.1 x.2.2.2.2.2.2.2).getD default).1))), .c (.d (.bool (((r80 x.1 x.2.1 x.2.2.1 x.2.2.2.1 x.2.2.2.2.1 x.2.2.2.2.2.1 x.2.2.2.2.2.2.1 x.2.2.2.2.2.2.2).getD default).2)))]
  al := false
def tb80 : Fns := lk [(78, T78.sp), (126, T126.sp)]
theorem tb80_ok : FnsOk Try.prog tb80 := .cons f78 (.cons f126 (FnsOk.nil))
theorem tb80_78 : tb80 78 = some T78.sp := rfl
theorem tb80_126 : tb80 126 = some T126.sp := rfl
theorem v80 : Valid Try.prog 80 T80.sp := by
  refine valid_t (fn := Try.f80) (n := 28) ty_ok tb80_ok Try.func80 rfl Try.ntmps80 ?_
  rintro ⟨a0_0, a0_1, a1_0, a1_1, a1_2, a1_3, a2_0, a2_1⟩ hx
  obtain ⟨r, hr⟩ := Option.isSome_iff_exists.1 (show (r80 a0_0 a0_1 a1_0 a1_1 a1_2 a1_3 a2_0 a2_1).isSome = true from hx)
  have hres : T80.res (a0_0, a0_1, a1_0, a1_1, a1_2, a1_3, a2_0, a2_1) = [.c (.d (.int .i64 r.1)), .c (.d (.bool r.2))] := by simp only [T80, hr, Option.getD_some]
  refine ⟨Nat.le_of_ble_eq_true rfl, fun stop S => ?_⟩
  rw [hres] at S
  unfold r80 at hr
  refine S.goB [] 1000 ?_
  simp (maxSteps := 10000000) only [go_sem, tb80_78, T78, tb80_126, T126, T80, Bool.not_true, Bool.not_false, Option.map_some, Int.reduceToNat, Nat.reduceEqDiff, Nat.reduceLT, Nat.reduceAdd, Nat.reduceMul, Nat.reduceSub, Nat.reduceLeDiff, reduceIte, reduceCtorEq, Try.results80]
  repeat refine gA ?_
  refine S.sees [3, 4, 5, 8] [(3, 3), (4, 4), (5, 5)] [] ?_ (Stop.iter S (fun s1 => ⟨[(3, .c (.ref 3 0)), (4, .c (.ref 4 0)), (5, .c (.ref 5 0)), (8, .c (.d (.int .i64 s1)))], [(3, [.d (.int .i64 a0_0), .d (encF 3 d_III a0_1)]), (4, [.d (.int .i64 a1_0), .d (encF 1 d_B a1_1), .d (.int .i64 a1_2), .d (encF 1 d_B a1_3)]), (5, [.d (.int .i64 a2_0), .d (encF 2 d_II a2_1)])], []⟩) (b80_1 a0_0 a0_1 a1_0 a1_1 a1_2 a1_3 a2_0 a2_1) (fun q => q = r) hr rfl ?_)
  · (simp (maxDischargeDepth := 8) [go_sem, -List.drop_one])
  · intro s1 hr
    unfold b80_1 at hr
    refine S.goB [] 1000 ?_
    simp (maxSteps := 10000000) only [go_sem, tb80_78, T78, tb80_126, T126, T80, Bool.not_true, Bool.not_false, Option.map_some, Int.reduceToNat, Nat.reduceEqDiff, Nat.reduceLT, Nat.reduceAdd, Nat.reduceMul, Nat.reduceSub, Nat.reduceLeDiff, reduceIte, reduceCtorEq, Try.results80]
    repeat refine gA ?_
    refine ⟨fun hc => ?_, fun hc => ?_⟩
    · replace hr := ifP1 hr hc
      obtain ⟨v1, hv1, hr⟩ := of_bind1 hr
      obtain ⟨v2, hv2, hr⟩ := of_bind1 hr
      try simp only [hv1, hv2, Option.getD_some, Option.isSome_some, true_and, and_assoc]
      repeat refine gA ?_
      refine ⟨fun hc => ?_, fun hc => ?_⟩
      · replace hr := ifP1 hr hc
        repeat refine gA ?_
        have hr := of_out0 hr
        obtain rfl := Option.some.inj hr
        (simp (maxDischargeDepth := 8) [go_sem, -List.drop_one])
      · replace hr := ifN1 hr hc
        repeat refine gA ?_
        refine S.sees [3, 4, 5, 8] [(3, 3), (4, 4), (5, 5)] [] ?_ hr
        (simp (maxDischargeDepth := 8) [go_sem, -List.drop_one])
    · replace hr := ifN1 hr hc
      repeat refine gA ?_
      have hr := of_out0 hr
      repeat refine gA ?_
      obtain rfl := Option.some.inj hr
      (simp (maxDischargeDepth := 8) [go_sem, -List.drop_one])
theorem f80 : FnFact Try.prog 80 T80.sp := ⟨⟨Try.f80, Try.func80, by decide, rfl⟩, v80⟩

/- martensite/martensiteref02.Frequency -/
def b76_1 (a0_0 : Int) (a0_1 : List (Int × Int × Int)) (a1 : List (Bool)) (a2_0 : Int) (a2_1 : Int) : (Int) → Ctl (Int) (Int × Bool) := fun s1 =>
  if (decide (s1 ≤ 8)) = true then
   bindC (r52 a0_0 a0_1 s1 a1 a2_0) fun v1 =>
    if (decide (v1 ≤ a2_1)) = true then
     .out (some (s1, true))
     else .next (IntKind.i64.wrap (s1 + 1))
   else .out (some (0, false))
def r76 (a0_0 : Int) (a0_1 : List (Int × Int × Int)) (a1 : List (Bool)) (a2_0 : Int) (a2_1 : Int) : Option (Int × Bool) :=
  iterC (b76_1 a0_0 a0_1 a1 a2_0 a2_1) 1000000000 1
def T76 : TSpec (Int × (List (Int × Int × Int)) × (List (Bool)) × Int × Int) where
  enc x := [.agg [.int .i64 x.1, encF 3 d_III x.2.1], .c (encF 1 d_B x.2.2.1), .agg [.int .i64 x.2.2.2.1, .int .i64 x.2.2.2.2]]
  dec a := (dInt (aCell a 0 0), decF g_III (aCell a 0 1), decF g_B (aCell a 1 0), dInt (aCell a 2 0), dInt (aCell a 2 1))
  pre x := (r76 x.1 x.2.1 x.2.2.1 x.2.2.2.1 x.2.2.2.2).isSome = true
  res x := [.c (.d (.int .i64 (((r76 x.1 x.2.1 x.2.2.1 x.2.2.2.1 x.2.2.2.2).getD default).1))), .c (.d (.bool (((r76 x.1 x.2.1 x.2.2.1 x.2.2.2.1 x.2.2.2.2).getD default).2)))]
  al := false
def tb76 : Fns := lk [(52, T52.sp)]
theorem tb76_ok : FnsOk Try.prog tb76 := .cons f52 (FnsOk.nil)
theorem tb76_52 : tb76 52 = some T52.sp := rfl
theorem v76 : Valid Try.prog 76 T76.sp := by
  refine valid_t (fn := Try.f76) (n := 24) ty_ok tb76_ok Try.func76 rfl Try.ntmps76 ?_
  rintro ⟨a0_0, a0_1, a1, a2_0, a2_1⟩ hx
  obtain ⟨r, hr⟩ := Option.isSome_iff_exists.1 (show (r76 a0_0 a0_1 a1 a2_0 a2_1).isSome = true from hx)
  have hres : T76.res (a0_0, a0_1, a1, a2_0, a2_1) = [.c (.d (.int .i64 r.1)), .c (.d (.bool r.2))] := by simp only [T76, hr, Option.getD_some]
  refine ⟨Nat.le_of_ble_eq_true rfl, fun stop S => ?_⟩
  rw [hres] at S
  unfold r76 at hr
  refine S.goB [] 1000 ?_
  simp (maxSteps := 10000000) only [go_sem, tb76_52, T52, T76, Bool.not_true, Bool.not_false, Option.map_some, Int.reduceToNat, Nat.reduceEqDiff, Nat.reduceLT, Nat.reduceAdd, Nat.reduceMul, Nat.reduceSub, Nat.reduceLeDiff, reduceIte, reduceCtorEq, Try.results76]
  repeat refine gA ?_
  refine S.sees [1, 3, 5, 8] [(3, 3), (5, 5)] [] ?_ (Stop.iter S (fun s1 => ⟨[(1, .c (.d (encF 1 d_B a1))), (3, .c (.ref 3 0)), (5, .c (.ref 5 0)), (8, .c (.d (.int .i64 s1)))], [(3, [.d (.int .i64 a0_0), .d (encF 3 d_III a0_1)]), (5, [.d (.int .i64 a2_0), .d (.int .i64 a2_1)])], []⟩) (b76_1 a0_0 a0_1 a1 a2_0 a2_1) (fun q => q = r) hr rfl ?_)
  · (simp (maxDischargeDepth := 8) [go_sem, -List.drop_one])
  · intro s1 hr
    unfold b76_1 at hr
    refine S.goB [] 1000 ?_
    simp (maxSteps := 10000000) only [go_sem, tb76_52, T52, T76, Bool.not_true, Bool.not_false, Option.map_some, Int.reduceToNat, Nat.reduceEqDiff, Nat.reduceLT, Nat.reduceAdd, Nat.reduceMul, Nat.reduceSub, Nat.reduceLeDiff, reduceIte, reduceCtorEq, Try.results76]
    repeat refine gA ?_
    refine ⟨fun hc => ?_, fun hc => ?_⟩
    · replace hr := ifP1 hr hc
      obtain ⟨v1, hv1, hr⟩ := of_bind1 hr
      try simp only [hv1, Option.getD_some, Option.isSome_some, true_and, and_assoc]
      repeat refine gA ?_
      refine ⟨fun hc => ?_, fun hc => ?_⟩
      · replace hr := ifP1 hr hc
        repeat refine gA ?_
        have hr := of_out0 hr
        obtain rfl := Option.some.inj hr
        (simp (maxDischargeDepth := 8) [go_sem, -List.drop_one])
      · replace hr := ifN1 hr hc
        repeat refine gA ?_
        refine S.sees [1, 3, 5, 8] [(3, 3), (5, 5)] [] ?_ hr
        (simp (maxDischargeDepth := 8) [go_sem, -List.drop_one])
    · replace hr := ifN1 hr hc
      repeat refine gA ?_
      have hr := of_out0 hr
      repeat refine gA ?_
      obtain rfl := Option.some.inj hr
      (simp (maxDischargeDepth := 8) [go_sem, -List.drop_one])
theorem f76 : FnFact Try.prog 76 T76.sp := ⟨⟨Try.f76, Try.func76, by decide, rfl⟩, v76⟩
end Go.Proofs.Ytagnplbfdaifkaa

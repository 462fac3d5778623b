/- Contracts of functions, written by wip/dec. -/
import Derived.Test.YtcbiiijnaeibhaaF00
import Derived.Test.YtcbiiijnaeibhaaF01
set_option linter.unusedVariables false
set_option linter.unusedSimpArgs false
set_option maxHeartbeats 4000000
set_option maxRecDepth 20000
namespace Go.Proofs.Ytcbiiijnaeibhaa
open Go.Abs
/- martensite/heat.open -/
def b101_1 (a0_0 : Int) (a0_1 : Int) (a0_2 : List (Int × Int)) (a0_3 : List ((List (Int × Int)))) (v2 : (List (Int × Int))) : (Int × (List ((List (Int × Int))))) → Ctl (Int × (List ((List (Int × Int))))) (Int × Int × (List (Int × Int)) × (List ((List (Int × Int)))) × (List (Int × Int)) × (List ((List (Int × Int)))) × Int) := fun s1 =>
  if (decide (s1.1 < (a0_3.length : Int))) = true then
   if 0 ≤ s1.1 ∧ s1.1 < (a0_3.length : Int) then
    bindC (r148 (a0_3.getD s1.1.toNat default)) fun v3 =>
     if (s1.2.length + 1) * 24 ≤ 140737488355328 ∧ s1.2.length + 1 ≤ 9223372036854775807 then
      .next (IntKind.i64.wrap (s1.1 + 1), s1.2 ++ [v3])
      else .out none
    else .out none
   else .out (some (a0_0, a0_1, a0_2, a0_3, v2, s1.2, 0))
def r101 (a0_0 : Int) (a0_1 : Int) (a0_2 : List (Int × Int)) (a0_3 : List ((List (Int × Int)))) : Option (Int × Int × (List (Int × Int)) × (List ((List (Int × Int)))) × (List (Int × Int)) × (List ((List (Int × Int)))) × Int) :=
  (r24 a0_0 a0_1 a0_2 a0_3).bind fun v1 =>
   if (v1.2 != 0) = true then
    some (0, 0, [], [], [], [], v1.2)
    else (r150 a0_2).bind fun v2 =>
     iterC (b101_1 a0_0 a0_1 a0_2 a0_3 v2) 1000000000 (0, [])
def T101 : TSpec (Int × Int × (List (Int × Int)) × (List ((List (Int × Int))))) where
  enc x := [.agg [.int .i64 x.1, .int .i64 x.2.1, encF 2 d_II x.2.2.1, encF 1 d_LIIE x.2.2.2]]
  dec a := (dInt (aCell a 0 0), dInt (aCell a 0 1), decF g_II (aCell a 0 2), decF g_LIIE (aCell a 0 3))
  pre x := (r101 x.1 x.2.1 x.2.2.1 x.2.2.2).isSome = true
  res x := [.agg [.d (.int .i64 (((r101 x.1 x.2.1 x.2.2.1 x.2.2.2).getD default).1)), .d (.int .i64 (((r101 x.1 x.2.1 x.2.2.1 x.2.2.2).getD default).2.1)), .d (encF 2 d_II (((r101 x.1 x.2.1 x.2.2.1 x.2.2.2).getD default).2.2.1)), .d (encF 1 d_LIIE (((r101 x.1 x.2.1 x.2.2.1 x.2.2.2).getD default).2.2.2.1)), .own (encF 2 d_II (((r101 x.1 x.2.1 x.2.2.1 x.2.2.2).getD default).2.2.2.2.1)), .own (encF 1 d_LIIE (((r101 x.1 x.2.1 x.2.2.1 x.2.2.2).getD default).2.2.2.2.2.1))], .c (.d (.int .i64 (((r101 x.1 x.2.1 x.2.2.1 x.2.2.2).getD default).2.2.2.2.2.2)))]
  al := true
def tb101 : Fns := lk [(24, T24.sp), (148, T148.sp), (150, T150.sp)]
theorem tb101_ok : FnsOk Try.prog tb101 := .cons f24 (.cons f148 (.cons f150 (FnsOk.nil)))
theorem tb101_24 : tb101 24 = some T24.sp := rfl
theorem tb101_148 : tb101 148 = some T148.sp := rfl
theorem tb101_150 : tb101 150 = some T150.sp := rfl
theorem v101 : Valid Try.prog 101 T101.sp := by
  refine valid_t (fn := Try.f101) (n := 39) ty_ok tb101_ok Try.func101 rfl Try.ntmps101 ?_
  rintro ⟨a0_0, a0_1, a0_2, a0_3⟩ hx
  obtain ⟨r, hr⟩ := Option.isSome_iff_exists.1 (show (r101 a0_0 a0_1 a0_2 a0_3).isSome = true from hx)
  have hres : T101.res (a0_0, a0_1, a0_2, a0_3) = [.agg [.d (.int .i64 r.1), .d (.int .i64 r.2.1), .d (encF 2 d_II r.2.2.1), .d (encF 1 d_LIIE r.2.2.2.1), .own (encF 2 d_II r.2.2.2.2.1), .own (encF 1 d_LIIE r.2.2.2.2.2.1)], .c (.d (.int .i64 r.2.2.2.2.2.2))] := by simp only [T101, hr, Option.getD_some]
  refine ⟨Nat.le_of_ble_eq_true rfl, fun stop S => ?_⟩
  rw [hres] at S
  unfold r101 at hr
  refine S.goB [] 1000 ?_
  simp (maxSteps := 10000000) only [go_sem, tb101_24, T24, tb101_148, T148, tb101_150, T150, T101, Option.map_some, Int.reduceToNat, Nat.reduceEqDiff, Nat.reduceLT, Nat.reduceAdd, Nat.reduceMul, Nat.reduceSub, Nat.reduceLeDiff, reduceIte, reduceCtorEq, Try.results101]
  obtain ⟨v1, hv1, hr⟩ := of_bind0 hr
  try simp only [hv1, Option.getD_some, Option.isSome_some, true_and, and_assoc]
  repeat refine gA ?_
  refine ⟨fun hc => ?_, fun hc => ?_⟩
  · replace hr := ifP hr hc
    repeat refine gA ?_
    obtain rfl := Option.some.inj hr
    (simp (maxDischargeDepth := 8) [go_sem])
  · replace hr := ifN hr hc
    obtain ⟨v2, hv2, hr⟩ := of_bind0 hr
    try simp only [hv2, Option.getD_some, Option.isSome_some, true_and, and_assoc]
    repeat refine gA ?_
    refine S.own0b 6 5 2000605 1 rfl rfl (Nat.le_of_ble_eq_true rfl) rfl ?_
    refine S.sees [2, 6, 24, 25, 26] [(2, 2), (6, 6)] [(2000605, 2000605), (21, 21)] ?_ (Stop.iter S (fun s1 => ⟨[(2, .c (.ref 2 0)), (6, .c (.ref 6 0)), (24, .c (.d (encF 1 d_LIIE a0_3))), (25, .c (.d (.int .i64 (a0_3.length : Int)))), (26, .c (.d (.int .i64 s1.1)))], [(2, [.d (.int .i64 0), .d (.int .i64 0), .nils, .nils, .nils, .nils]), (6, [.d (.int .i64 a0_0), .d (.int .i64 a0_1), .d (encF 2 d_II a0_2), .d (encF 1 d_LIIE a0_3), .own 21, .own 2000605])], [(2000605, .owned (encF 1 d_LIIE s1.2)), (21, .owned (encF 2 d_II v2))]⟩) (b101_1 a0_0 a0_1 a0_2 a0_3 v2) (fun q => q = r) hr rfl ?_)
    · (simp (maxDischargeDepth := 8) [go_sem])
    · intro s1 hr
      unfold b101_1 at hr
      refine S.goB [] 1000 ?_
      simp (maxSteps := 10000000) only [go_sem, tb101_24, T24, tb101_148, T148, tb101_150, T150, T101, Option.map_some, Int.reduceToNat, Nat.reduceEqDiff, Nat.reduceLT, Nat.reduceAdd, Nat.reduceMul, Nat.reduceSub, Nat.reduceLeDiff, reduceIte, reduceCtorEq, Try.results101]
      repeat refine gA ?_
      refine ⟨fun hc => ?_, fun hc => ?_⟩
      · replace hr := ifP1 hr hc
        obtain ⟨hg4, hr⟩ := of_guard1 hr
        obtain ⟨v3, hv3, hr⟩ := of_bind1 hr
        obtain ⟨hg5, hr⟩ := of_guard1 hr
        try simp only [hv3, Option.getD_some, Option.isSome_some, true_and, and_assoc]
        repeat refine gA ?_
        refine S.sees [2, 6, 24, 25, 26] [(2, 2), (6, 6)] [(35, 2000605), (21, 21)] ?_ hr
        (simp (maxDischargeDepth := 8) [go_sem])
      · replace hr := ifN1 hr hc
        repeat refine gA ?_
        have hr := of_out0 hr
        repeat refine gA ?_
        obtain rfl := Option.some.inj hr
        (simp (maxDischargeDepth := 8) [go_sem])
theorem f101 : FnFact Try.prog 101 T101.sp := ⟨⟨Try.f101, Try.func101, by decide, rfl⟩, v101⟩

/- (martensite/heat.part).isEnergy -/
def r120 (a0_0 : Int) (a0_1 : Int) (a0_2 : List (Int × Int)) (a0_3 : List ((List (Int × Int)))) (a0_4 : List (Int × Int)) (a0_5 : List ((List (Int × Int)))) (a1 : Int) : Option (Bool) :=
  if 0 ≤ 0 ∧ 0 < (a0_4.length : Int) then
   if 0 ≤ IntKind.i64.wrap ((a0_4.length : Int) - 1) ∧ IntKind.i64.wrap ((a0_4.length : Int) - 1) < (a0_4.length : Int) then
    (r90 a1 ((a0_4.getD 0 default).1) ((a0_4.getD (IntKind.i64.wrap ((a0_4.length : Int) - 1)).toNat default).1)).bind fun v1 =>
     some v1
    else none
   else none
def T120 : TSpec (Int × Int × (List (Int × Int)) × (List ((List (Int × Int)))) × (List (Int × Int)) × (List ((List (Int × Int)))) × Int) where
  enc x := [.agg [.int .i64 x.1, .int .i64 x.2.1, encF 2 d_II x.2.2.1, encF 1 d_LIIE x.2.2.2.1, encF 2 d_II x.2.2.2.2.1, encF 1 d_LIIE x.2.2.2.2.2.1], .c (.int .i64 x.2.2.2.2.2.2)]
  dec a := (dInt (aCell a 0 0), dInt (aCell a 0 1), decF g_II (aCell a 0 2), decF g_LIIE (aCell a 0 3), decF g_II (aCell a 0 4), decF g_LIIE (aCell a 0 5), dInt (aCell a 1 0))
  pre x := (r120 x.1 x.2.1 x.2.2.1 x.2.2.2.1 x.2.2.2.2.1 x.2.2.2.2.2.1 x.2.2.2.2.2.2).isSome = true
  res x := [.c (.d (.bool ((r120 x.1 x.2.1 x.2.2.1 x.2.2.2.1 x.2.2.2.2.1 x.2.2.2.2.2.1 x.2.2.2.2.2.2).getD default)))]
  al := false
def tb120 : Fns := lk [(90, T90.sp)]
theorem tb120_ok : FnsOk Try.prog tb120 := .cons f90 (FnsOk.nil)
theorem tb120_90 : tb120 90 = some T90.sp := rfl
theorem v120 : Valid Try.prog 120 T120.sp := by
  refine valid_t (fn := Try.f120) (n := 21) ty_ok tb120_ok Try.func120 rfl Try.ntmps120 ?_
  rintro ⟨a0_0, a0_1, a0_2, a0_3, a0_4, a0_5, a1⟩ hx
  obtain ⟨r, hr⟩ := Option.isSome_iff_exists.1 (show (r120 a0_0 a0_1 a0_2 a0_3 a0_4 a0_5 a1).isSome = true from hx)
  have hres : T120.res (a0_0, a0_1, a0_2, a0_3, a0_4, a0_5, a1) = [.c (.d (.bool r))] := by simp only [T120, hr, Option.getD_some]
  refine ⟨Nat.le_of_ble_eq_true rfl, fun stop S => ?_⟩
  rw [hres] at S
  unfold r120 at hr
  refine S.goB [] 1000 ?_
  simp (maxSteps := 10000000) only [go_sem, tb120_90, T90, T120, Option.map_some, Int.reduceToNat, Nat.reduceEqDiff, Nat.reduceLT, Nat.reduceAdd, Nat.reduceMul, Nat.reduceSub, Nat.reduceLeDiff, reduceIte, reduceCtorEq, Try.results120]
  obtain ⟨hg2, hr⟩ := of_guard0 hr
  obtain ⟨hg3, hr⟩ := of_guard0 hr
  obtain ⟨v1, hv1, hr⟩ := of_bind0 hr
  try simp only [hv1, Option.getD_some, Option.isSome_some, true_and, and_assoc]
  repeat refine gA ?_
  obtain rfl := Option.some.inj hr
  (simp (maxDischargeDepth := 8) [go_sem])
theorem f120 : FnFact Try.prog 120 T120.sp := ⟨⟨Try.f120, Try.func120, by decide, rfl⟩, v120⟩

/- (martensite/heat.part).stateErr$1 -/
def r151 (a0 : Int) (a1_0 : Int) (a1_1 : Int) (a1_2 : List (Int × Int)) (a1_3 : List ((List (Int × Int)))) (a1_4 : List (Int × Int)) (a1_5 : List ((List (Int × Int)))) : Option (Bool) :=
  (r120 a1_0 a1_1 a1_2 a1_3 a1_4 a1_5 a0).bind fun v1 =>
   some (!v1)
def T151 : TSpec (Int × Int × Int × (List (Int × Int)) × (List ((List (Int × Int)))) × (List (Int × Int)) × (List ((List (Int × Int))))) where
  enc x := [.c (.int .i64 x.1), .ptr [.int .i64 x.2.1, .int .i64 x.2.2.1, encF 2 d_II x.2.2.2.1, encF 1 d_LIIE x.2.2.2.2.1, encF 2 d_II x.2.2.2.2.2.1, encF 1 d_LIIE x.2.2.2.2.2.2]]
  dec a := (dInt (aCell a 0 0), dInt (aCell a 1 0), dInt (aCell a 1 1), decF g_II (aCell a 1 2), decF g_LIIE (aCell a 1 3), decF g_II (aCell a 1 4), decF g_LIIE (aCell a 1 5))
  pre x := (r151 x.1 x.2.1 x.2.2.1 x.2.2.2.1 x.2.2.2.2.1 x.2.2.2.2.2.1 x.2.2.2.2.2.2).isSome = true
  res x := [.c (.d (.bool ((r151 x.1 x.2.1 x.2.2.1 x.2.2.2.1 x.2.2.2.2.1 x.2.2.2.2.2.1 x.2.2.2.2.2.2).getD default)))]
  al := false
def tb151 : Fns := lk [(120, T120.sp)]
theorem tb151_ok : FnsOk Try.prog tb151 := .cons f120 (FnsOk.nil)
theorem tb151_120 : tb151 120 = some T120.sp := rfl
theorem v151 : Valid Try.prog 151 T151.sp := by
  refine valid_t (fn := Try.f151) (n := 8) ty_ok tb151_ok Try.func151 rfl Try.ntmps151 ?_
  rintro ⟨a0, a1_0, a1_1, a1_2, a1_3, a1_4, a1_5⟩ hx
  obtain ⟨r, hr⟩ := Option.isSome_iff_exists.1 (show (r151 a0 a1_0 a1_1 a1_2 a1_3 a1_4 a1_5).isSome = true from hx)
  have hres : T151.res (a0, a1_0, a1_1, a1_2, a1_3, a1_4, a1_5) = [.c (.d (.bool r))] := by simp only [T151, hr, Option.getD_some]
  refine ⟨Nat.le_of_ble_eq_true rfl, fun stop S => ?_⟩
  rw [hres] at S
  unfold r151 at hr
  refine S.goB [] 1000 ?_
  simp (maxSteps := 10000000) only [go_sem, tb151_120, T120, T151, Option.map_some, Int.reduceToNat, Nat.reduceEqDiff, Nat.reduceLT, Nat.reduceAdd, Nat.reduceMul, Nat.reduceSub, Nat.reduceLeDiff, reduceIte, reduceCtorEq, Try.results151]
  obtain ⟨v1, hv1, hr⟩ := of_bind0 hr
  try simp only [hv1, Option.getD_some, Option.isSome_some, true_and, and_assoc]
  repeat refine gA ?_
  obtain rfl := Option.some.inj hr
  (simp (maxDischargeDepth := 8) [go_sem])
theorem f151 : FnFact Try.prog 151 T151.sp := ⟨⟨Try.f151, Try.func151, by decide, rfl⟩, v151⟩

/- slices.IndexFunc[[]int,int] -/
def b141_1 (a0 : List (Int)) (a1_0_0 : Int) (a1_0_1 : Int) (a1_0_2 : List (Int × Int)) (a1_0_3 : List ((List (Int × Int)))) (a1_0_4 : List (Int × Int)) (a1_0_5 : List ((List (Int × Int)))) : (Int) → Ctl (Int) (Int) := fun s1 =>
  if (decide (s1 < (a0.length : Int))) = true then
   if 0 ≤ s1 ∧ s1 < (a0.length : Int) then
    bindC (r151 (a0.getD s1.toNat default) a1_0_0 a1_0_1 a1_0_2 a1_0_3 a1_0_4 a1_0_5) fun v1 =>
     if v1 = true then
      .out (some s1)
      else .next (IntKind.i64.wrap (s1 + 1))
    else .out none
   else .out (some (-1))
def r141 (a0 : List (Int)) (a1_0_0 : Int) (a1_0_1 : Int) (a1_0_2 : List (Int × Int)) (a1_0_3 : List ((List (Int × Int)))) (a1_0_4 : List (Int × Int)) (a1_0_5 : List ((List (Int × Int)))) : Option (Int) :=
  iterC (b141_1 a0 a1_0_0 a1_0_1 a1_0_2 a1_0_3 a1_0_4 a1_0_5) 1000000000 0
def T141 : TSpec ((List (Int)) × Int × Int × (List (Int × Int)) × (List ((List (Int × Int)))) × (List (Int × Int)) × (List ((List (Int × Int))))) where
  enc x := [.c (encF 1 d_I x.1), .clo 151 [[.int .i64 x.2.1, .int .i64 x.2.2.1, encF 2 d_II x.2.2.2.1, encF 1 d_LIIE x.2.2.2.2.1, encF 2 d_II x.2.2.2.2.2.1, encF 1 d_LIIE x.2.2.2.2.2.2]]]
  dec a := (decF g_I (aCell a 0 0), dInt (aCell a 1 0), dInt (aCell a 1 1), decF g_II (aCell a 1 2), decF g_LIIE (aCell a 1 3), decF g_II (aCell a 1 4), decF g_LIIE (aCell a 1 5))
  pre x := (r141 x.1 x.2.1 x.2.2.1 x.2.2.2.1 x.2.2.2.2.1 x.2.2.2.2.2.1 x.2.2.2.2.2.2).isSome = true
  res x := [.c (.d (.int .i64 ((r141 x.1 x.2.1 x.2.2.1 x.2.2.2.1 x.2.2.2.2.1 x.2.2.2.2.2.1 x.2.2.2.2.2.2).getD default)))]
  al := false
def tb141 : Fns := lk [(151, T151.sp)]
theorem tb141_ok : FnsOk Try.prog tb141 := .cons f151 (FnsOk.nil)
theorem tb141_151 : tb141 151 = some T151.sp := rfl
theorem v141 : Valid Try.prog 141 T141.sp := by
  refine valid_t (fn := Try.f141) (n := 19) ty_ok tb141_ok Try.func141 rfl Try.ntmps141 ?_
  rintro ⟨a0, a1_0_0, a1_0_1, a1_0_2, a1_0_3, a1_0_4, a1_0_5⟩ hx
  obtain ⟨r, hr⟩ := Option.isSome_iff_exists.1 (show (r141 a0 a1_0_0 a1_0_1 a1_0_2 a1_0_3 a1_0_4 a1_0_5).isSome = true from hx)
  have hres : T141.res (a0, a1_0_0, a1_0_1, a1_0_2, a1_0_3, a1_0_4, a1_0_5) = [.c (.d (.int .i64 r))] := by simp only [T141, hr, Option.getD_some]
  refine ⟨Nat.le_of_ble_eq_true rfl, fun stop S => ?_⟩
  rw [hres] at S
  unfold r141 at hr
  refine S.goB [] 1000 ?_
  simp (maxSteps := 10000000) only [go_sem, tb141_151, T151, T141, Option.map_some, Int.reduceToNat, Nat.reduceEqDiff, Nat.reduceLT, Nat.reduceAdd, Nat.reduceMul, Nat.reduceSub, Nat.reduceLeDiff, reduceIte, reduceCtorEq, Try.results141]
  repeat refine gA ?_
  refine S.sees [0, 1, 7, 8] [] [] ?_ (Stop.iter S (fun s1 => ⟨[(0, .c (.d (encF 1 d_I a0))), (1, .c (.clo 151 [.sptr [.int .i64 a1_0_0, .int .i64 a1_0_1, encF 2 d_II a1_0_2, encF 1 d_LIIE a1_0_3, encF 2 d_II a1_0_4, encF 1 d_LIIE a1_0_5] 0])), (7, .c (.d (.int .i64 (a0.length : Int)))), (8, .c (.d (.int .i64 s1)))], [], []⟩) (b141_1 a0 a1_0_0 a1_0_1 a1_0_2 a1_0_3 a1_0_4 a1_0_5) (fun q => q = r) hr rfl ?_)
  · (simp (maxDischargeDepth := 8) [go_sem])
  · intro s1 hr
    unfold b141_1 at hr
    refine S.goB [] 1000 ?_
    simp (maxSteps := 10000000) only [go_sem, tb141_151, T151, T141, Option.map_some, Int.reduceToNat, Nat.reduceEqDiff, Nat.reduceLT, Nat.reduceAdd, Nat.reduceMul, Nat.reduceSub, Nat.reduceLeDiff, reduceIte, reduceCtorEq, Try.results141]
    repeat refine gA ?_
    refine ⟨fun hc => ?_, fun hc => ?_⟩
    · replace hr := ifP1 hr hc
      obtain ⟨hg2, hr⟩ := of_guard1 hr
      obtain ⟨v1, hv1, hr⟩ := of_bind1 hr
      try simp only [hv1, Option.getD_some, Option.isSome_some, true_and, and_assoc]
      repeat refine gA ?_
      refine ⟨fun hc => ?_, fun hc => ?_⟩
      · replace hr := ifP1 hr hc
        repeat refine gA ?_
        have hr := of_out0 hr
        obtain rfl := Option.some.inj hr
        (simp (maxDischargeDepth := 8) [go_sem])
      · replace hr := ifN1 hr hc
        repeat refine gA ?_
        refine S.sees [0, 1, 7, 8] [] [] ?_ hr
        (simp (maxDischargeDepth := 8) [go_sem])
    · replace hr := ifN1 hr hc
      repeat refine gA ?_
      have hr := of_out0 hr
      repeat refine gA ?_
      obtain rfl := Option.some.inj hr
      (simp (maxDischargeDepth := 8) [go_sem])
theorem f141 : FnFact Try.prog 141 T141.sp := ⟨⟨Try.f141, Try.func141, by decide, rfl⟩, v141⟩

/- (martensite/heat.part).stateErr -/
def r102 (a0_0 : Int) (a0_1 : Int) (a0_2 : List (Int × Int)) (a0_3 : List ((List (Int × Int)))) (a0_4 : List (Int × Int)) (a0_5 : List ((List (Int × Int)))) (a1 : List (Int)) : Option (Int × Int) :=
  if ((a1.length : Int) != a0_0) = true then
   some (0, 10)
   else (r141 a1 a0_0 a0_1 a0_2 a0_3 a0_4 a0_5).bind fun v1 =>
    if (decide (v1 ≥ 0)) = true then
     some (v1, 2)
     else some (0, 0)
def T102 : TSpec (Int × Int × (List (Int × Int)) × (List ((List (Int × Int)))) × (List (Int × Int)) × (List ((List (Int × Int)))) × (List (Int))) where
  enc x := [.agg [.int .i64 x.1, .int .i64 x.2.1, encF 2 d_II x.2.2.1, encF 1 d_LIIE x.2.2.2.1, encF 2 d_II x.2.2.2.2.1, encF 1 d_LIIE x.2.2.2.2.2.1], .c (encF 1 d_I x.2.2.2.2.2.2)]
  dec a := (dInt (aCell a 0 0), dInt (aCell a 0 1), decF g_II (aCell a 0 2), decF g_LIIE (aCell a 0 3), decF g_II (aCell a 0 4), decF g_LIIE (aCell a 0 5), decF g_I (aCell a 1 0))
  pre x := (r102 x.1 x.2.1 x.2.2.1 x.2.2.2.1 x.2.2.2.2.1 x.2.2.2.2.2.1 x.2.2.2.2.2.2).isSome = true
  res x := [.c (.d (.int .i64 (((r102 x.1 x.2.1 x.2.2.1 x.2.2.2.1 x.2.2.2.2.1 x.2.2.2.2.2.1 x.2.2.2.2.2.2).getD default).1))), .c (.d (.int .i64 (((r102 x.1 x.2.1 x.2.2.1 x.2.2.2.1 x.2.2.2.2.1 x.2.2.2.2.2.1 x.2.2.2.2.2.2).getD default).2)))]
  al := false
def tb102 : Fns := lk [(141, T141.sp)]
theorem tb102_ok : FnsOk Try.prog tb102 := .cons f141 (FnsOk.nil)
theorem tb102_141 : tb102 141 = some T141.sp := rfl
theorem v102 : Valid Try.prog 102 T102.sp := by
  refine valid_t (fn := Try.f102) (n := 19) ty_ok tb102_ok Try.func102 rfl Try.ntmps102 ?_
  rintro ⟨a0_0, a0_1, a0_2, a0_3, a0_4, a0_5, a1⟩ hx
  obtain ⟨r, hr⟩ := Option.isSome_iff_exists.1 (show (r102 a0_0 a0_1 a0_2 a0_3 a0_4 a0_5 a1).isSome = true from hx)
  have hres : T102.res (a0_0, a0_1, a0_2, a0_3, a0_4, a0_5, a1) = [.c (.d (.int .i64 r.1)), .c (.d (.int .i64 r.2))] := by simp only [T102, hr, Option.getD_some]
  refine ⟨Nat.le_of_ble_eq_true rfl, fun stop S => ?_⟩
  rw [hres] at S
  unfold r102 at hr
  refine S.goB [] 1000 ?_
  simp (maxSteps := 10000000) only [go_sem, tb102_141, T141, T102, Option.map_some, Int.reduceToNat, Nat.reduceEqDiff, Nat.reduceLT, Nat.reduceAdd, Nat.reduceMul, Nat.reduceSub, Nat.reduceLeDiff, reduceIte, reduceCtorEq, Try.results102]
  repeat refine gA ?_
  refine ⟨fun hc => ?_, fun hc => ?_⟩
  · replace hr := ifP hr hc
    repeat refine gA ?_
    obtain rfl := Option.some.inj hr
    (simp (maxDischargeDepth := 8) [go_sem])
  · replace hr := ifN hr hc
    obtain ⟨v1, hv1, hr⟩ := of_bind0 hr
    try simp only [hv1, Option.getD_some, Option.isSome_some, true_and, and_assoc]
    repeat refine gA ?_
    refine ⟨fun hc => ?_, fun hc => ?_⟩
    · replace hr := ifP hr hc
      repeat refine gA ?_
      obtain rfl := Option.some.inj hr
      (simp (maxDischargeDepth := 8) [go_sem])
    · replace hr := ifN hr hc
      repeat refine gA ?_
      obtain rfl := Option.some.inj hr
      (simp (maxDischargeDepth := 8) [go_sem])
theorem f102 : FnFact Try.prog 102 T102.sp := ⟨⟨Try.f102, Try.func102, by decide, rfl⟩, v102⟩

/- martensite/heat.openState -/
def r89 (a0_0 : Int) (a0_1 : Int) (a0_2 : List (Int × Int)) (a0_3 : List ((List (Int × Int)))) (a1 : List (Int)) : Option (Int × Int × (List (Int × Int)) × (List ((List (Int × Int)))) × (List (Int × Int)) × (List ((List (Int × Int)))) × Int) :=
  (r101 a0_0 a0_1 a0_2 a0_3).bind fun v1 =>
   if (v1.2.2.2.2.2.2 == 0) = true then
    (r102 v1.1 v1.2.1 v1.2.2.1 v1.2.2.2.1 v1.2.2.2.2.1 v1.2.2.2.2.2.1 a1).bind fun v2 =>
     some (v1.1, v1.2.1, v1.2.2.1, v1.2.2.2.1, v1.2.2.2.2.1, v1.2.2.2.2.2.1, v2.2)
    else some (v1.1, v1.2.1, v1.2.2.1, v1.2.2.2.1, v1.2.2.2.2.1, v1.2.2.2.2.2.1, v1.2.2.2.2.2.2)
def T89 : TSpec (Int × Int × (List (Int × Int)) × (List ((List (Int × Int)))) × (List (Int))) where
  enc x := [.agg [.int .i64 x.1, .int .i64 x.2.1, encF 2 d_II x.2.2.1, encF 1 d_LIIE x.2.2.2.1], .c (encF 1 d_I x.2.2.2.2)]
  dec a := (dInt (aCell a 0 0), dInt (aCell a 0 1), decF g_II (aCell a 0 2), decF g_LIIE (aCell a 0 3), decF g_I (aCell a 1 0))
  pre x := (r89 x.1 x.2.1 x.2.2.1 x.2.2.2.1 x.2.2.2.2).isSome = true
  res x := [.agg [.d (.int .i64 (((r89 x.1 x.2.1 x.2.2.1 x.2.2.2.1 x.2.2.2.2).getD default).1)), .d (.int .i64 (((r89 x.1 x.2.1 x.2.2.1 x.2.2.2.1 x.2.2.2.2).getD default).2.1)), .d (encF 2 d_II (((r89 x.1 x.2.1 x.2.2.1 x.2.2.2.1 x.2.2.2.2).getD default).2.2.1)), .d (encF 1 d_LIIE (((r89 x.1 x.2.1 x.2.2.1 x.2.2.2.1 x.2.2.2.2).getD default).2.2.2.1)), .own (encF 2 d_II (((r89 x.1 x.2.1 x.2.2.1 x.2.2.2.1 x.2.2.2.2).getD default).2.2.2.2.1)), .own (encF 1 d_LIIE (((r89 x.1 x.2.1 x.2.2.1 x.2.2.2.1 x.2.2.2.2).getD default).2.2.2.2.2.1))], .c (.d (.int .i64 (((r89 x.1 x.2.1 x.2.2.1 x.2.2.2.1 x.2.2.2.2).getD default).2.2.2.2.2.2)))]
  al := true
def tb89 : Fns := lk [(101, T101.sp), (102, T102.sp)]
theorem tb89_ok : FnsOk Try.prog tb89 := .cons f101 (.cons f102 (FnsOk.nil))
theorem tb89_101 : tb89 101 = some T101.sp := rfl
theorem tb89_102 : tb89 102 = some T102.sp := rfl
theorem v89 : Valid Try.prog 89 T89.sp := by
  refine valid_t (fn := Try.f89) (n := 23) ty_ok tb89_ok Try.func89 rfl Try.ntmps89 ?_
  rintro ⟨a0_0, a0_1, a0_2, a0_3, a1⟩ hx
  obtain ⟨r, hr⟩ := Option.isSome_iff_exists.1 (show (r89 a0_0 a0_1 a0_2 a0_3 a1).isSome = true from hx)
  have hres : T89.res (a0_0, a0_1, a0_2, a0_3, a1) = [.agg [.d (.int .i64 r.1), .d (.int .i64 r.2.1), .d (encF 2 d_II r.2.2.1), .d (encF 1 d_LIIE r.2.2.2.1), .own (encF 2 d_II r.2.2.2.2.1), .own (encF 1 d_LIIE r.2.2.2.2.2.1)], .c (.d (.int .i64 r.2.2.2.2.2.2))] := by simp only [T89, hr, Option.getD_some]
  refine ⟨Nat.le_of_ble_eq_true rfl, fun stop S => ?_⟩
  rw [hres] at S
  unfold r89 at hr
  refine S.goB [] 1000 ?_
  simp (maxSteps := 10000000) only [go_sem, tb89_101, T101, tb89_102, T102, T89, Option.map_some, Int.reduceToNat, Nat.reduceEqDiff, Nat.reduceLT, Nat.reduceAdd, Nat.reduceMul, Nat.reduceSub, Nat.reduceLeDiff, reduceIte, reduceCtorEq, Try.results89]
  obtain ⟨v1, hv1, hr⟩ := of_bind0 hr
  try simp only [hv1, Option.getD_some, Option.isSome_some, true_and, and_assoc]
  repeat refine gA ?_
  refine ⟨fun hc => ?_, fun hc => ?_⟩
  · replace hr := ifP hr hc
    obtain ⟨v2, hv2, hr⟩ := of_bind0 hr
    try simp only [hv2, Option.getD_some, Option.isSome_some, true_and, and_assoc]
    repeat refine gA ?_
    obtain rfl := Option.some.inj hr
    (simp (maxDischargeDepth := 8) [go_sem])
  · replace hr := ifN hr hc
    repeat refine gA ?_
    obtain rfl := Option.some.inj hr
    (simp (maxDischargeDepth := 8) [go_sem])
theorem f89 : FnFact Try.prog 89 T89.sp := ⟨⟨Try.f89, Try.func89, by decide, rfl⟩, v89⟩

/- martensite/heat.isPower -/
def r139 (a0 : Int) : Option (Bool) :=
  (r90 a0 0 10000).bind fun v1 =>
   some v1
def T139 : TSpec (Int) where
  enc x := [.c (.int .i64 x)]
  dec a := dInt (aCell a 0 0)
  pre x := (r139 x).isSome = true
  res x := [.c (.d (.bool ((r139 x).getD default)))]
  al := false
def tb139 : Fns := lk [(90, T90.sp)]
theorem tb139_ok : FnsOk Try.prog tb139 := .cons f90 (FnsOk.nil)
theorem tb139_90 : tb139 90 = some T90.sp := rfl
theorem v139 : Valid Try.prog 139 T139.sp := by
  refine valid_t (fn := Try.f139) (n := 5) ty_ok tb139_ok Try.func139 rfl Try.ntmps139 ?_
  rintro a0 hx
  obtain ⟨r, hr⟩ := Option.isSome_iff_exists.1 (show (r139 a0).isSome = true from hx)
  have hres : T139.res a0 = [.c (.d (.bool r))] := by simp only [T139, hr, Option.getD_some]
  refine ⟨Nat.le_of_ble_eq_true rfl, fun stop S => ?_⟩
  rw [hres] at S
  unfold r139 at hr
  refine S.goB [] 1000 ?_
  simp (maxSteps := 10000000) only [go_sem, tb139_90, T90, T139, Option.map_some, Int.reduceToNat, Nat.reduceEqDiff, Nat.reduceLT, Nat.reduceAdd, Nat.reduceMul, Nat.reduceSub, Nat.reduceLeDiff, reduceIte, reduceCtorEq, Try.results139]
  obtain ⟨v1, hv1, hr⟩ := of_bind0 hr
  try simp only [hv1, Option.getD_some, Option.isSome_some, true_and, and_assoc]
  repeat refine gA ?_
  obtain rfl := Option.some.inj hr
  (simp (maxDischargeDepth := 8) [go_sem])
theorem f139 : FnFact Try.prog 139 T139.sp := ⟨⟨Try.f139, Try.func139, by decide, rfl⟩, v139⟩

/- (martensite/heat.part).driveErr$1 -/
def r138 (a0 : Int) : Option (Bool) :=
  (r139 a0).bind fun v1 =>
   some (!v1)
def T138 : TSpec (Int) where
  enc x := [.c (.int .i64 x)]
  dec a := dInt (aCell a 0 0)
  pre x := (r138 x).isSome = true
  res x := [.c (.d (.bool ((r138 x).getD default)))]
  al := false
def tb138 : Fns := lk [(139, T139.sp)]
theorem tb138_ok : FnsOk Try.prog tb138 := .cons f139 (FnsOk.nil)
theorem tb138_139 : tb138 139 = some T139.sp := rfl
theorem v138 : Valid Try.prog 138 T138.sp := by
  refine valid_t (fn := Try.f138) (n := 6) ty_ok tb138_ok Try.func138 rfl Try.ntmps138 ?_
  rintro a0 hx
  obtain ⟨r, hr⟩ := Option.isSome_iff_exists.1 (show (r138 a0).isSome = true from hx)
  have hres : T138.res a0 = [.c (.d (.bool r))] := by simp only [T138, hr, Option.getD_some]
  refine ⟨Nat.le_of_ble_eq_true rfl, fun stop S => ?_⟩
  rw [hres] at S
  unfold r138 at hr
  refine S.goB [] 1000 ?_
  simp (maxSteps := 10000000) only [go_sem, tb138_139, T139, T138, Option.map_some, Int.reduceToNat, Nat.reduceEqDiff, Nat.reduceLT, Nat.reduceAdd, Nat.reduceMul, Nat.reduceSub, Nat.reduceLeDiff, reduceIte, reduceCtorEq, Try.results138]
  obtain ⟨v1, hv1, hr⟩ := of_bind0 hr
  try simp only [hv1, Option.getD_some, Option.isSome_some, true_and, and_assoc]
  repeat refine gA ?_
  obtain rfl := Option.some.inj hr
  (simp (maxDischargeDepth := 8) [go_sem])
theorem f138 : FnFact Try.prog 138 T138.sp := ⟨⟨Try.f138, Try.func138, by decide, rfl⟩, v138⟩

/- slices.IndexFunc[[]int,int] -/
def b141a_1 (a0 : List (Int)) : (Int) → Ctl (Int) (Int) := fun s1 =>
  if (decide (s1 < (a0.length : Int))) = true then
   if 0 ≤ s1 ∧ s1 < (a0.length : Int) then
    bindC (r138 (a0.getD s1.toNat default)) fun v1 =>
     if v1 = true then
      .out (some s1)
      else .next (IntKind.i64.wrap (s1 + 1))
    else .out none
   else .out (some (-1))
def r141a (a0 : List (Int)) : Option (Int) :=
  iterC (b141a_1 a0) 1000000000 0
def T141a : TSpec ((List (Int))) where
  enc x := [.c (encF 1 d_I x), .clo 138 []]
  dec a := decF g_I (aCell a 0 0)
  pre x := (r141a x).isSome = true
  res x := [.c (.d (.int .i64 ((r141a x).getD default)))]
  al := false
def tb141a : Fns := lk [(138, T138.sp)]
theorem tb141a_ok : FnsOk Try.prog tb141a := .cons f138 (FnsOk.nil)
theorem tb141a_138 : tb141a 138 = some T138.sp := rfl
theorem v141a : Valid Try.prog 141 T141a.sp := by
  refine valid_t (fn := Try.f141) (n := 19) ty_ok tb141a_ok Try.func141 rfl Try.ntmps141 ?_
  rintro a0 hx
  obtain ⟨r, hr⟩ := Option.isSome_iff_exists.1 (show (r141a a0).isSome = true from hx)
  have hres : T141a.res a0 = [.c (.d (.int .i64 r))] := by simp only [T141a, hr, Option.getD_some]
  refine ⟨Nat.le_of_ble_eq_true rfl, fun stop S => ?_⟩
  rw [hres] at S
  unfold r141a at hr
  refine S.goB [] 1000 ?_
  simp (maxSteps := 10000000) only [go_sem, tb141a_138, T138, T141a, Option.map_some, Int.reduceToNat, Nat.reduceEqDiff, Nat.reduceLT, Nat.reduceAdd, Nat.reduceMul, Nat.reduceSub, Nat.reduceLeDiff, reduceIte, reduceCtorEq, Try.results141]
  repeat refine gA ?_
  refine S.sees [0, 1, 7, 8] [] [] ?_ (Stop.iter S (fun s1 => ⟨[(0, .c (.d (encF 1 d_I a0))), (1, .c (.clo 138 [])), (7, .c (.d (.int .i64 (a0.length : Int)))), (8, .c (.d (.int .i64 s1)))], [], []⟩) (b141a_1 a0) (fun q => q = r) hr rfl ?_)
  · (simp (maxDischargeDepth := 8) [go_sem])
  · intro s1 hr
    unfold b141a_1 at hr
    refine S.goB [] 1000 ?_
    simp (maxSteps := 10000000) only [go_sem, tb141a_138, T138, T141a, Option.map_some, Int.reduceToNat, Nat.reduceEqDiff, Nat.reduceLT, Nat.reduceAdd, Nat.reduceMul, Nat.reduceSub, Nat.reduceLeDiff, reduceIte, reduceCtorEq, Try.results141]
    repeat refine gA ?_
    refine ⟨fun hc => ?_, fun hc => ?_⟩
    · replace hr := ifP1 hr hc
      obtain ⟨hg2, hr⟩ := of_guard1 hr
      obtain ⟨v1, hv1, hr⟩ := of_bind1 hr
      try simp only [hv1, Option.getD_some, Option.isSome_some, true_and, and_assoc]
      repeat refine gA ?_
      refine ⟨fun hc => ?_, fun hc => ?_⟩
      · replace hr := ifP1 hr hc
        repeat refine gA ?_
        have hr := of_out0 hr
        obtain rfl := Option.some.inj hr
        (simp (maxDischargeDepth := 8) [go_sem])
      · replace hr := ifN1 hr hc
        repeat refine gA ?_
        refine S.sees [0, 1, 7, 8] [] [] ?_ hr
        (simp (maxDischargeDepth := 8) [go_sem])
    · replace hr := ifN1 hr hc
      repeat refine gA ?_
      have hr := of_out0 hr
      repeat refine gA ?_
      obtain rfl := Option.some.inj hr
      (simp (maxDischargeDepth := 8) [go_sem])
theorem f141a : FnFact Try.prog 141 T141a.sp := ⟨⟨Try.f141, Try.func141, by decide, rfl⟩, v141a⟩

/- slices.ContainsFunc[[]int,int] -/
def r106 (a0 : List (Int)) : Option (Bool) :=
  (r141a a0).bind fun v1 =>
   some (decide (v1 ≥ 0))
def T106 : TSpec ((List (Int))) where
  enc x := [.c (encF 1 d_I x), .clo 138 []]
  dec a := decF g_I (aCell a 0 0)
  pre x := (r106 x).isSome = true
  res x := [.c (.d (.bool ((r106 x).getD default)))]
  al := false
def tb106 : Fns := lk [(141, T141a.sp)]
theorem tb106_ok : FnsOk Try.prog tb106 := .cons f141a (FnsOk.nil)
theorem tb106_141 : tb106 141 = some T141a.sp := rfl
theorem v106 : Valid Try.prog 106 T106.sp := by
  refine valid_t (fn := Try.f106) (n := 9) ty_ok tb106_ok Try.func106 rfl Try.ntmps106 ?_
  rintro a0 hx
  obtain ⟨r, hr⟩ := Option.isSome_iff_exists.1 (show (r106 a0).isSome = true from hx)
  have hres : T106.res a0 = [.c (.d (.bool r))] := by simp only [T106, hr, Option.getD_some]
  refine ⟨Nat.le_of_ble_eq_true rfl, fun stop S => ?_⟩
  rw [hres] at S
  unfold r106 at hr
  refine S.goB [] 1000 ?_
  simp (maxSteps := 10000000) only [go_sem, tb106_141, T141a, T106, Option.map_some, Int.reduceToNat, Nat.reduceEqDiff, Nat.reduceLT, Nat.reduceAdd, Nat.reduceMul, Nat.reduceSub, Nat.reduceLeDiff, reduceIte, reduceCtorEq, Try.results106]
  obtain ⟨v1, hv1, hr⟩ := of_bind0 hr
  try simp only [hv1, Option.getD_some, Option.isSome_some, true_and, and_assoc]
  repeat refine gA ?_
  obtain rfl := Option.some.inj hr
  (simp (maxDischargeDepth := 8) [go_sem])
theorem f106 : FnFact Try.prog 106 T106.sp := ⟨⟨Try.f106, Try.func106, by decide, rfl⟩, v106⟩

/- (martensite/heat.part).lawIndexErr -/
def r126 (a0_0 : Int) (a0_1 : Int) (a0_2 : List (Int × Int)) (a0_3 : List ((List (Int × Int)))) (a0_4 : List (Int × Int)) (a0_5 : List ((List (Int × Int)))) (a1 : Int) : Option (Int) :=
  (r90 a1 0 (IntKind.i64.wrap ((a0_5.length : Int) - 1))).bind fun v1 =>
   (r94 v1 6).bind fun v2 =>
    some v2
def T126 : TSpec (Int × Int × (List (Int × Int)) × (List ((List (Int × Int)))) × (List (Int × Int)) × (List ((List (Int × Int)))) × Int) where
  enc x := [.agg [.int .i64 x.1, .int .i64 x.2.1, encF 2 d_II x.2.2.1, encF 1 d_LIIE x.2.2.2.1, encF 2 d_II x.2.2.2.2.1, encF 1 d_LIIE x.2.2.2.2.2.1], .c (.int .i64 x.2.2.2.2.2.2)]
  dec a := (dInt (aCell a 0 0), dInt (aCell a 0 1), decF g_II (aCell a 0 2), decF g_LIIE (aCell a 0 3), decF g_II (aCell a 0 4), decF g_LIIE (aCell a 0 5), dInt (aCell a 1 0))
  pre x := (r126 x.1 x.2.1 x.2.2.1 x.2.2.2.1 x.2.2.2.2.1 x.2.2.2.2.2.1 x.2.2.2.2.2.2).isSome = true
  res x := [.c (.d (.int .i64 ((r126 x.1 x.2.1 x.2.2.1 x.2.2.2.1 x.2.2.2.2.1 x.2.2.2.2.2.1 x.2.2.2.2.2.2).getD default)))]
  al := false
def tb126 : Fns := lk [(90, T90.sp), (94, T94.sp)]
theorem tb126_ok : FnsOk Try.prog tb126 := .cons f90 (.cons f94 (FnsOk.nil))
theorem tb126_90 : tb126 90 = some T90.sp := rfl
theorem tb126_94 : tb126 94 = some T94.sp := rfl
theorem v126 : Valid Try.prog 126 T126.sp := by
  refine valid_t (fn := Try.f126) (n := 12) ty_ok tb126_ok Try.func126 rfl Try.ntmps126 ?_
  rintro ⟨a0_0, a0_1, a0_2, a0_3, a0_4, a0_5, a1⟩ hx
  obtain ⟨r, hr⟩ := Option.isSome_iff_exists.1 (show (r126 a0_0 a0_1 a0_2 a0_3 a0_4 a0_5 a1).isSome = true from hx)
  have hres : T126.res (a0_0, a0_1, a0_2, a0_3, a0_4, a0_5, a1) = [.c (.d (.int .i64 r))] := by simp only [T126, hr, Option.getD_some]
  refine ⟨Nat.le_of_ble_eq_true rfl, fun stop S => ?_⟩
  rw [hres] at S
  unfold r126 at hr
  refine S.goB [] 1000 ?_
  simp (maxSteps := 10000000) only [go_sem, tb126_90, T90, tb126_94, T94, T126, Option.map_some, Int.reduceToNat, Nat.reduceEqDiff, Nat.reduceLT, Nat.reduceAdd, Nat.reduceMul, Nat.reduceSub, Nat.reduceLeDiff, reduceIte, reduceCtorEq, Try.results126]
  obtain ⟨v1, hv1, hr⟩ := of_bind0 hr
  obtain ⟨v2, hv2, hr⟩ := of_bind0 hr
  try simp only [hv1, hv2, Option.getD_some, Option.isSome_some, true_and, and_assoc]
  repeat refine gA ?_
  obtain rfl := Option.some.inj hr
  (simp (maxDischargeDepth := 8) [go_sem])
theorem f126 : FnFact Try.prog 126 T126.sp := ⟨⟨Try.f126, Try.func126, by decide, rfl⟩, v126⟩

/- (martensite/heat.part).driveErr -/
def r92 (a0_0 : Int) (a0_1 : Int) (a0_2 : List (Int × Int)) (a0_3 : List ((List (Int × Int)))) (a0_4 : List (Int × Int)) (a0_5 : List ((List (Int × Int)))) (a1_0 : List (Int)) (a1_1 : Int) : Option (Int) :=
  (r106 a1_0).bind fun v1 =>
   (r94 ((a1_0.length : Int) == a0_0) 10).bind fun v2 =>
    (r94 (!v1) 2).bind fun v3 =>
     (r126 a0_0 a0_1 a0_2 a0_3 a0_4 a0_5 a1_1).bind fun v4 =>
      (r91 [v2, v3, v4]).bind fun v5 =>
       some v5
def T92 : TSpec (Int × Int × (List (Int × Int)) × (List ((List (Int × Int)))) × (List (Int × Int)) × (List ((List (Int × Int)))) × (List (Int)) × Int) where
  enc x := [.agg [.int .i64 x.1, .int .i64 x.2.1, encF 2 d_II x.2.2.1, encF 1 d_LIIE x.2.2.2.1, encF 2 d_II x.2.2.2.2.1, encF 1 d_LIIE x.2.2.2.2.2.1], .agg [encF 1 d_I x.2.2.2.2.2.2.1, .int .i64 x.2.2.2.2.2.2.2]]
  dec a := (dInt (aCell a 0 0), dInt (aCell a 0 1), decF g_II (aCell a 0 2), decF g_LIIE (aCell a 0 3), decF g_II (aCell a 0 4), decF g_LIIE (aCell a 0 5), decF g_I (aCell a 1 0), dInt (aCell a 1 1))
  pre x := (r92 x.1 x.2.1 x.2.2.1 x.2.2.2.1 x.2.2.2.2.1 x.2.2.2.2.2.1 x.2.2.2.2.2.2.1 x.2.2.2.2.2.2.2).isSome = true
  res x := [.c (.d (.int .i64 ((r92 x.1 x.2.1 x.2.2.1 x.2.2.2.1 x.2.2.2.2.1 x.2.2.2.2.2.1 x.2.2.2.2.2.2.1 x.2.2.2.2.2.2.2).getD default)))]
  al := false
def tb92 : Fns := lk [(91, T91.sp), (94, T94.sp), (106, T106.sp), (126, T126.sp)]
theorem tb92_ok : FnsOk Try.prog tb92 := .cons f91 (.cons f94 (.cons f106 (.cons f126 (FnsOk.nil))))
theorem tb92_91 : tb92 91 = some T91.sp := rfl
theorem tb92_94 : tb92 94 = some T94.sp := rfl
theorem tb92_106 : tb92 106 = some T106.sp := rfl
theorem tb92_126 : tb92 126 = some T126.sp := rfl
theorem v92 : Valid Try.prog 92 T92.sp := by
  refine valid_t (fn := Try.f92) (n := 26) ty_ok tb92_ok Try.func92 rfl Try.ntmps92 ?_
  rintro ⟨a0_0, a0_1, a0_2, a0_3, a0_4, a0_5, a1_0, a1_1⟩ hx
  obtain ⟨r, hr⟩ := Option.isSome_iff_exists.1 (show (r92 a0_0 a0_1 a0_2 a0_3 a0_4 a0_5 a1_0 a1_1).isSome = true from hx)
  have hres : T92.res (a0_0, a0_1, a0_2, a0_3, a0_4, a0_5, a1_0, a1_1) = [.c (.d (.int .i64 r))] := by simp only [T92, hr, Option.getD_some]
  refine ⟨Nat.le_of_ble_eq_true rfl, fun stop S => ?_⟩
  rw [hres] at S
  unfold r92 at hr
  refine S.goB [] 1000 ?_
  simp (maxSteps := 10000000) only [go_sem, tb92_91, T91, tb92_94, T94, tb92_106, T106, tb92_126, T126, T92, Option.map_some, Int.reduceToNat, Nat.reduceEqDiff, Nat.reduceLT, Nat.reduceAdd, Nat.reduceMul, Nat.reduceSub, Nat.reduceLeDiff, reduceIte, reduceCtorEq, Try.results92]
  obtain ⟨v1, hv1, hr⟩ := of_bind0 hr
  obtain ⟨v2, hv2, hr⟩ := of_bind0 hr
  obtain ⟨v3, hv3, hr⟩ := of_bind0 hr
  obtain ⟨v4, hv4, hr⟩ := of_bind0 hr
  obtain ⟨v5, hv5, hr⟩ := of_bind0 hr
  try simp only [hv1, hv2, hv3, hv4, hv5, Option.getD_some, Option.isSome_some, true_and, and_assoc]
  repeat refine gA ?_
  obtain rfl := Option.some.inj hr
  (simp (maxDischargeDepth := 8) [go_sem])
theorem f92 : FnFact Try.prog 92 T92.sp := ⟨⟨Try.f92, Try.func92, by decide, rfl⟩, v92⟩

/- slices.Clone: by hand -/
def r144 (a0 : List (Int)) : Option (List (Int)) := if a0.length * 8 ≤ 140737488355328 ∧ a0.length ≤ 9223372036854775807 then some a0 else none
def T144 : TSpec (List (Int)) where
  enc x := [.c (encF 1 d_I x)]
  dec a := decF g_I (aCell a 0 0)
  pre x := (r144 x).isSome = true
  res x := [.c (.own (encF 1 d_I ((r144 x).getD default)))]
  al := false
theorem v144 : Valid Try.prog 144 T144.sp := by
  refine valid_t (fn := Try.f144) (n := 8) ty_ok FnsOk.nil Try.func144 rfl Try.ntmps144 ?_
  rintro a0 hx
  obtain ⟨r, hr⟩ := Option.isSome_iff_exists.1 (show (r144 a0).isSome = true from hx)
  have hres : T144.res a0 = [.c (.own (encF 1 d_I r))] := by simp only [T144, hr, Option.getD_some]
  refine ⟨Nat.le_of_ble_eq_true rfl, fun stop S => ?_⟩
  rw [hres] at S
  unfold r144 at hr
  obtain ⟨hg, hr⟩ := of_guard0 hr
  obtain rfl := Option.some.inj hr
  refine S.goB [1] 1000 ?_
  simp only [go_sem, T144, Option.map_some, Int.reduceToNat, Nat.reduceEqDiff, Nat.reduceLT, Nat.reduceAdd, Nat.reduceMul, Nat.reduceSub, Nat.reduceLeDiff, reduceIte, reduceCtorEq, Try.results144]
  refine S.eqnil 0 3 4 26 26 3 rfl rfl rfl rfl rfl rfl rfl rfl rfl rfl (by decide) (by decide) ?_
  intro b hb
  refine S.goB [] 1000 ?_
  simp only [go_sem, T144, Option.map_some, Int.reduceToNat, Nat.reduceEqDiff, Nat.reduceLT, Nat.reduceAdd, Nat.reduceMul, Nat.reduceSub, Nat.reduceLeDiff, reduceIte, reduceCtorEq, Try.results144]
  have hb' : b = true → a0.length = 0 := hb
  refine ⟨fun hc => ?_, fun hc => ?_⟩
  · simpa using hb' hc
  · refine ⟨by omega, by omega, ?_⟩
    (simp (maxDischargeDepth := 8) [go_sem])
theorem f144 : FnFact Try.prog 144 T144.sp := ⟨⟨Try.f144, Try.func144, by decide, rfl⟩, v144⟩

/- (martensite/heat.part).kelvin -/
def r121 (a0_0 : Int) (a0_1 : Int) (a0_2 : List (Int × Int)) (a0_3 : List ((List (Int × Int)))) (a0_4 : List (Int × Int)) (a0_5 : List ((List (Int × Int)))) (a1 : Int) : Option (Int × Int) :=
  (r123 a0_4 a1 1).bind fun v1 =>
   some (v1.1, v1.2)
def T121 : TSpec (Int × Int × (List (Int × Int)) × (List ((List (Int × Int)))) × (List (Int × Int)) × (List ((List (Int × Int)))) × Int) where
  enc x := [.agg [.int .i64 x.1, .int .i64 x.2.1, encF 2 d_II x.2.2.1, encF 1 d_LIIE x.2.2.2.1, encF 2 d_II x.2.2.2.2.1, encF 1 d_LIIE x.2.2.2.2.2.1], .c (.int .i64 x.2.2.2.2.2.2)]
  dec a := (dInt (aCell a 0 0), dInt (aCell a 0 1), decF g_II (aCell a 0 2), decF g_LIIE (aCell a 0 3), decF g_II (aCell a 0 4), decF g_LIIE (aCell a 0 5), dInt (aCell a 1 0))
  pre x := (r121 x.1 x.2.1 x.2.2.1 x.2.2.2.1 x.2.2.2.2.1 x.2.2.2.2.2.1 x.2.2.2.2.2.2).isSome = true
  res x := [.agg [.d (.int .i64 (((r121 x.1 x.2.1 x.2.2.1 x.2.2.2.1 x.2.2.2.2.1 x.2.2.2.2.2.1 x.2.2.2.2.2.2).getD default).1)), .d (.int .i64 (((r121 x.1 x.2.1 x.2.2.1 x.2.2.2.1 x.2.2.2.2.1 x.2.2.2.2.2.1 x.2.2.2.2.2.2).getD default).2))]]
  al := false
def tb121 : Fns := lk [(123, T123.sp)]
theorem tb121_ok : FnsOk Try.prog tb121 := .cons f123 (FnsOk.nil)
theorem tb121_123 : tb121 123 = some T123.sp := rfl
theorem v121 : Valid Try.prog 121 T121.sp := by
  refine valid_t (fn := Try.f121) (n := 10) ty_ok tb121_ok Try.func121 rfl Try.ntmps121 ?_
  rintro ⟨a0_0, a0_1, a0_2, a0_3, a0_4, a0_5, a1⟩ hx
  obtain ⟨r, hr⟩ := Option.isSome_iff_exists.1 (show (r121 a0_0 a0_1 a0_2 a0_3 a0_4 a0_5 a1).isSome = true from hx)
  have hres : T121.res (a0_0, a0_1, a0_2, a0_3, a0_4, a0_5, a1) = [.agg [.d (.int .i64 r.1), .d (.int .i64 r.2)]] := by simp only [T121, hr, Option.getD_some]
  refine ⟨Nat.le_of_ble_eq_true rfl, fun stop S => ?_⟩
  rw [hres] at S
  unfold r121 at hr
  refine S.goB [] 1000 ?_
  simp (maxSteps := 10000000) only [go_sem, tb121_123, T123, T121, Option.map_some, Int.reduceToNat, Nat.reduceEqDiff, Nat.reduceLT, Nat.reduceAdd, Nat.reduceMul, Nat.reduceSub, Nat.reduceLeDiff, reduceIte, reduceCtorEq, Try.results121]
  obtain ⟨v1, hv1, hr⟩ := of_bind0 hr
  try simp only [hv1, Option.getD_some, Option.isSome_some, true_and, and_assoc]
  repeat refine gA ?_
  obtain rfl := Option.some.inj hr
  (simp (maxDischargeDepth := 8) [go_sem])
theorem f121 : FnFact Try.prog 121 T121.sp := ⟨⟨Try.f121, Try.func121, by decide, rfl⟩, v121⟩

/- martensite/heat.floor -/
def r124 (a0 : Int) (a1 : Int) : Option (Int) :=
  if a1 ≠ 0 then
   if a1 ≠ 0 then
    if (decide ((a0.tmod a1) < 0)) = true then
     some (IntKind.i64.wrap ((IntKind.i64.wrap (a0.tdiv a1)) - 1))
     else some (IntKind.i64.wrap (a0.tdiv a1))
    else none
   else none
def T124 : TSpec (Int × Int) where
  enc x := [.c (.int .i64 x.1), .c (.int .i64 x.2)]
  dec a := (dInt (aCell a 0 0), dInt (aCell a 1 0))
  pre x := (r124 x.1 x.2).isSome = true
  res x := [.c (.d (.int .i64 ((r124 x.1 x.2).getD default)))]
  al := false
def tb124 : Fns := lk []
theorem tb124_ok : FnsOk Try.prog tb124 := FnsOk.nil
theorem v124 : Valid Try.prog 124 T124.sp := by
  refine valid_t (fn := Try.f124) (n := 16) ty_ok tb124_ok Try.func124 rfl Try.ntmps124 ?_
  rintro ⟨a0, a1⟩ hx
  obtain ⟨r, hr⟩ := Option.isSome_iff_exists.1 (show (r124 a0 a1).isSome = true from hx)
  have hres : T124.res (a0, a1) = [.c (.d (.int .i64 r))] := by simp only [T124, hr, Option.getD_some]
  refine ⟨Nat.le_of_ble_eq_true rfl, fun stop S => ?_⟩
  rw [hres] at S
  unfold r124 at hr
  refine S.goB [] 1000 ?_
  simp (maxSteps := 10000000) only [go_sem, T124, Option.map_some, Int.reduceToNat, Nat.reduceEqDiff, Nat.reduceLT, Nat.reduceAdd, Nat.reduceMul, Nat.reduceSub, Nat.reduceLeDiff, reduceIte, reduceCtorEq, Try.results124]
  obtain ⟨hg1, hr⟩ := of_guard0 hr
  obtain ⟨hg2, hr⟩ := of_guard0 hr
  repeat refine gA ?_
  refine ⟨fun hc => ?_, fun hc => ?_⟩
  · replace hr := ifP hr hc
    repeat refine gA ?_
    obtain rfl := Option.some.inj hr
    (simp (maxDischargeDepth := 8) [go_sem])
  · replace hr := ifN hr hc
    repeat refine gA ?_
    obtain rfl := Option.some.inj hr
    (simp (maxDischargeDepth := 8) [go_sem])
theorem f124 : FnFact Try.prog 124 T124.sp := ⟨⟨Try.f124, Try.func124, by decide, rfl⟩, v124⟩

/- (martensite/heat.part).loss -/
def r127 (a0_0 : Int) (a0_1 : Int) (a0_2 : List (Int × Int)) (a0_3 : List ((List (Int × Int)))) (a0_4 : List (Int × Int)) (a0_5 : List ((List (Int × Int)))) (a1 : Int) (a2 : Int) : Option (Int) :=
  if 0 ≤ a1 ∧ a1 < (a0_5.length : Int) then
   (r121 a0_0 a0_1 a0_2 a0_3 a0_4 a0_5 a2).bind fun v1 =>
    (r123 (a0_5.getD a1.toNat default) v1.1 v1.2).bind fun v2 =>
     (r124 v2.1 v2.2).bind fun v3 =>
      some v3
   else none
def T127 : TSpec (Int × Int × (List (Int × Int)) × (List ((List (Int × Int)))) × (List (Int × Int)) × (List ((List (Int × Int)))) × Int × Int) where
  enc x := [.agg [.int .i64 x.1, .int .i64 x.2.1, encF 2 d_II x.2.2.1, encF 1 d_LIIE x.2.2.2.1, encF 2 d_II x.2.2.2.2.1, encF 1 d_LIIE x.2.2.2.2.2.1], .c (.int .i64 x.2.2.2.2.2.2.1), .c (.int .i64 x.2.2.2.2.2.2.2)]
  dec a := (dInt (aCell a 0 0), dInt (aCell a 0 1), decF g_II (aCell a 0 2), decF g_LIIE (aCell a 0 3), decF g_II (aCell a 0 4), decF g_LIIE (aCell a 0 5), dInt (aCell a 1 0), dInt (aCell a 2 0))
  pre x := (r127 x.1 x.2.1 x.2.2.1 x.2.2.2.1 x.2.2.2.2.1 x.2.2.2.2.2.1 x.2.2.2.2.2.2.1 x.2.2.2.2.2.2.2).isSome = true
  res x := [.c (.d (.int .i64 ((r127 x.1 x.2.1 x.2.2.1 x.2.2.2.1 x.2.2.2.2.1 x.2.2.2.2.2.1 x.2.2.2.2.2.2.1 x.2.2.2.2.2.2.2).getD default)))]
  al := false
def tb127 : Fns := lk [(121, T121.sp), (123, T123.sp), (124, T124.sp)]
theorem tb127_ok : FnsOk Try.prog tb127 := .cons f121 (.cons f123 (.cons f124 (FnsOk.nil)))
theorem tb127_121 : tb127 121 = some T121.sp := rfl
theorem tb127_123 : tb127 123 = some T123.sp := rfl
theorem tb127_124 : tb127 124 = some T124.sp := rfl
theorem v127 : Valid Try.prog 127 T127.sp := by
  refine valid_t (fn := Try.f127) (n := 22) ty_ok tb127_ok Try.func127 rfl Try.ntmps127 ?_
  rintro ⟨a0_0, a0_1, a0_2, a0_3, a0_4, a0_5, a1, a2⟩ hx
  obtain ⟨r, hr⟩ := Option.isSome_iff_exists.1 (show (r127 a0_0 a0_1 a0_2 a0_3 a0_4 a0_5 a1 a2).isSome = true from hx)
  have hres : T127.res (a0_0, a0_1, a0_2, a0_3, a0_4, a0_5, a1, a2) = [.c (.d (.int .i64 r))] := by simp only [T127, hr, Option.getD_some]
  refine ⟨Nat.le_of_ble_eq_true rfl, fun stop S => ?_⟩
  rw [hres] at S
  unfold r127 at hr
  refine S.goB [] 1000 ?_
  simp (maxSteps := 10000000) only [go_sem, tb127_121, T121, tb127_123, T123, tb127_124, T124, T127, Option.map_some, Int.reduceToNat, Nat.reduceEqDiff, Nat.reduceLT, Nat.reduceAdd, Nat.reduceMul, Nat.reduceSub, Nat.reduceLeDiff, reduceIte, reduceCtorEq, Try.results127]
  obtain ⟨hg4, hr⟩ := of_guard0 hr
  obtain ⟨v1, hv1, hr⟩ := of_bind0 hr
  obtain ⟨v2, hv2, hr⟩ := of_bind0 hr
  obtain ⟨v3, hv3, hr⟩ := of_bind0 hr
  try simp only [hv1, hv2, hv3, Option.getD_some, Option.isSome_some, true_and, and_assoc]
  repeat refine gA ?_
  obtain rfl := Option.some.inj hr
  (simp (maxDischargeDepth := 8) [go_sem])
theorem f127 : FnFact Try.prog 127 T127.sp := ⟨⟨Try.f127, Try.func127, by decide, rfl⟩, v127⟩
end Go.Proofs.Ytcbiiijnaeibhaa

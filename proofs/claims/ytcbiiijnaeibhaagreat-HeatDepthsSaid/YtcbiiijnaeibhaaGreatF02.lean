/- Contracts of functions, written by wip/dec. -/
import Derived.Test.YtcbiiijnaeibhaaGreatF00
import Derived.Test.YtcbiiijnaeibhaaGreatF01
set_option linter.unusedVariables false
set_option linter.unusedSimpArgs false
set_option maxHeartbeats 4000000
set_option maxRecDepth 20000
namespace Go.Proofs.YtcbiiijnaeibhaaGreat
open Go.Abs
/- martensite/heat.open -/
def b62_1 (a0_0 : Int) (a0_1 : Int) (a0_2 : List (Int × Int)) (a0_3 : List ((List (Int × Int)))) (v2 : (List (Int × Int))) : (Int × (List ((List (Int × Int))))) → Ctl (Int × (List ((List (Int × Int))))) (Int × Int × (List (Int × Int)) × (List ((List (Int × Int)))) × (List (Int × Int)) × (List ((List (Int × Int)))) × Int) := fun s1 =>
  if (decide (s1.1 < (a0_3.length : Int))) = true then
   if 0 ≤ s1.1 ∧ s1.1 < (a0_3.length : Int) then
    bindC (r92 (a0_3.getD s1.1.toNat default)) fun v3 =>
     if (s1.2.length + 1) * 24 ≤ 140737488355328 ∧ s1.2.length + 1 ≤ 9223372036854775807 then
      .next (IntKind.i64.wrap (s1.1 + 1), s1.2 ++ [v3])
      else .out none
    else .out none
   else .out (some (a0_0, a0_1, a0_2, a0_3, v2, s1.2, 0))
def r62 (a0_0 : Int) (a0_1 : Int) (a0_2 : List (Int × Int)) (a0_3 : List ((List (Int × Int)))) : Option (Int × Int × (List (Int × Int)) × (List ((List (Int × Int)))) × (List (Int × Int)) × (List ((List (Int × Int)))) × Int) :=
  (r90 a0_0 a0_1 a0_2 a0_3).bind fun v1 =>
   if (v1.2 != 0) = true then
    some (0, 0, [], [], [], [], v1.2)
    else (r91 a0_2).bind fun v2 =>
     iterC (b62_1 a0_0 a0_1 a0_2 a0_3 v2) 1000000000 (0, [])
def T62 : TSpec (Int × Int × (List (Int × Int)) × (List ((List (Int × Int))))) where
  enc x := [.agg [.int .i64 x.1, .int .i64 x.2.1, encF 2 d_II x.2.2.1, encF 1 d_LIIE x.2.2.2]]
  dec a := (dInt (aCell a 0 0), dInt (aCell a 0 1), decF g_II (aCell a 0 2), decF g_LIIE (aCell a 0 3))
  pre x := (r62 x.1 x.2.1 x.2.2.1 x.2.2.2).isSome = true
  res x := [.agg [.d (.int .i64 (((r62 x.1 x.2.1 x.2.2.1 x.2.2.2).getD default).1)), .d (.int .i64 (((r62 x.1 x.2.1 x.2.2.1 x.2.2.2).getD default).2.1)), .d (encF 2 d_II (((r62 x.1 x.2.1 x.2.2.1 x.2.2.2).getD default).2.2.1)), .d (encF 1 d_LIIE (((r62 x.1 x.2.1 x.2.2.1 x.2.2.2).getD default).2.2.2.1)), .own (encF 2 d_II (((r62 x.1 x.2.1 x.2.2.1 x.2.2.2).getD default).2.2.2.2.1)), .own (encF 1 d_LIIE (((r62 x.1 x.2.1 x.2.2.1 x.2.2.2).getD default).2.2.2.2.2.1))], .c (.d (.int .i64 (((r62 x.1 x.2.1 x.2.2.1 x.2.2.2).getD default).2.2.2.2.2.2)))]
  al := true
def tb62 : Fns := lk [(90, T90.sp), (91, T91.sp), (92, T92.sp)]
theorem tb62_ok : FnsOk Tryz.prog tb62 := .cons f90 (.cons f91 (.cons f92 (FnsOk.nil)))
theorem tb62_90 : tb62 90 = some T90.sp := rfl
theorem tb62_91 : tb62 91 = some T91.sp := rfl
theorem tb62_92 : tb62 92 = some T92.sp := rfl
theorem v62 : Valid Tryz.prog 62 T62.sp := by
  refine valid_t (fn := Tryz.f62) (n := 39) ty_ok tb62_ok Tryz.func62 rfl Tryz.ntmps62 ?_
  rintro ⟨a0_0, a0_1, a0_2, a0_3⟩ hx
  obtain ⟨r, hr⟩ := Option.isSome_iff_exists.1 (show (r62 a0_0 a0_1 a0_2 a0_3).isSome = true from hx)
  have hres : T62.res (a0_0, a0_1, a0_2, a0_3) = [.agg [.d (.int .i64 r.1), .d (.int .i64 r.2.1), .d (encF 2 d_II r.2.2.1), .d (encF 1 d_LIIE r.2.2.2.1), .own (encF 2 d_II r.2.2.2.2.1), .own (encF 1 d_LIIE r.2.2.2.2.2.1)], .c (.d (.int .i64 r.2.2.2.2.2.2))] := by simp only [T62, hr, Option.getD_some]
  refine ⟨Nat.le_of_ble_eq_true rfl, fun stop S => ?_⟩
  rw [hres] at S
  unfold r62 at hr
  refine S.goB [] 1000 ?_
  simp (maxSteps := 10000000) only [go_sem, tb62_90, T90, tb62_91, T91, tb62_92, T92, T62, Option.map_some, Int.reduceToNat, Nat.reduceEqDiff, Nat.reduceLT, Nat.reduceAdd, Nat.reduceMul, Nat.reduceSub, Nat.reduceLeDiff, reduceIte, reduceCtorEq, Tryz.results62]
  obtain ⟨v1, hv1, hr⟩ := of_bind0 hr
  try simp only [hv1, Option.getD_some, Option.isSome_some, true_and, and_assoc]
  repeat refine gA ?_
  refine ⟨fun hc => ?_, fun hc => ?_⟩
  · replace hr := ifP hr hc
    repeat refine gA ?_
    obtain rfl := Option.some.inj hr
    (simp (maxDischargeDepth := 8) [go_sem])
  · replace hr := ifN hr hc
    obtain ⟨v2, hv2, hr⟩ := of_bind0 hr
    try simp only [hv2, Option.getD_some, Option.isSome_some, true_and, and_assoc]
    repeat refine gA ?_
    refine S.own0b 6 5 2000605 1 rfl rfl (Nat.le_of_ble_eq_true rfl) rfl ?_
    refine S.sees [2, 6, 24, 25, 26] [(2, 2), (6, 6)] [(2000605, 2000605), (21, 21)] ?_ (Stop.iter S (fun s1 => ⟨[(2, .c (.ref 2 0)), (6, .c (.ref 6 0)), (24, .c (.d (encF 1 d_LIIE a0_3))), (25, .c (.d (.int .i64 (a0_3.length : Int)))), (26, .c (.d (.int .i64 s1.1)))], [(2, [.d (.int .i64 0), .d (.int .i64 0), .nils, .nils, .nils, .nils]), (6, [.d (.int .i64 a0_0), .d (.int .i64 a0_1), .d (encF 2 d_II a0_2), .d (encF 1 d_LIIE a0_3), .own 21, .own 2000605])], [(2000605, .owned (encF 1 d_LIIE s1.2)), (21, .owned (encF 2 d_II v2))]⟩) (b62_1 a0_0 a0_1 a0_2 a0_3 v2) (fun q => q = r) hr rfl ?_)
    · (simp (maxDischargeDepth := 8) [go_sem])
    · intro s1 hr
      unfold b62_1 at hr
      refine S.goB [] 1000 ?_
      simp (maxSteps := 10000000) only [go_sem, tb62_90, T90, tb62_91, T91, tb62_92, T92, T62, Option.map_some, Int.reduceToNat, Nat.reduceEqDiff, Nat.reduceLT, Nat.reduceAdd, Nat.reduceMul, Nat.reduceSub, Nat.reduceLeDiff, reduceIte, reduceCtorEq, Tryz.results62]
      repeat refine gA ?_
      refine ⟨fun hc => ?_, fun hc => ?_⟩
      · replace hr := ifP1 hr hc
        obtain ⟨hg4, hr⟩ := of_guard1 hr
        obtain ⟨v3, hv3, hr⟩ := of_bind1 hr
        obtain ⟨hg5, hr⟩ := of_guard1 hr
        try simp only [hv3, Option.getD_some, Option.isSome_some, true_and, and_assoc]
        repeat refine gA ?_
        refine S.sees [2, 6, 24, 25, 26] [(2, 2), (6, 6)] [(35, 2000605), (21, 21)] ?_ hr
        (simp (maxDischargeDepth := 8) [go_sem])
      · replace hr := ifN1 hr hc
        repeat refine gA ?_
        have hr := of_out0 hr
        repeat refine gA ?_
        obtain rfl := Option.some.inj hr
        (simp (maxDischargeDepth := 8) [go_sem])
theorem f62 : FnFact Tryz.prog 62 T62.sp := ⟨⟨Tryz.f62, Tryz.func62, by decide, rfl⟩, v62⟩

/- (martensite/heat.part).isEnergy -/
def r85 (a0_0 : Int) (a0_1 : Int) (a0_2 : List (Int × Int)) (a0_3 : List ((List (Int × Int)))) (a0_4 : List (Int × Int)) (a0_5 : List ((List (Int × Int)))) (a1 : Int) : Option (Bool) :=
  if 0 ≤ 0 ∧ 0 < (a0_4.length : Int) then
   if 0 ≤ IntKind.i64.wrap ((a0_4.length : Int) - 1) ∧ IntKind.i64.wrap ((a0_4.length : Int) - 1) < (a0_4.length : Int) then
    (r57 a1 ((a0_4.getD 0 default).1) ((a0_4.getD (IntKind.i64.wrap ((a0_4.length : Int) - 1)).toNat default).1)).bind fun v1 =>
     some v1
    else none
   else none
def T85 : TSpec (Int × Int × (List (Int × Int)) × (List ((List (Int × Int)))) × (List (Int × Int)) × (List ((List (Int × Int)))) × Int) where
  enc x := [.agg [.int .i64 x.1, .int .i64 x.2.1, encF 2 d_II x.2.2.1, encF 1 d_LIIE x.2.2.2.1, encF 2 d_II x.2.2.2.2.1, encF 1 d_LIIE x.2.2.2.2.2.1], .c (.int .i64 x.2.2.2.2.2.2)]
  dec a := (dInt (aCell a 0 0), dInt (aCell a 0 1), decF g_II (aCell a 0 2), decF g_LIIE (aCell a 0 3), decF g_II (aCell a 0 4), decF g_LIIE (aCell a 0 5), dInt (aCell a 1 0))
  pre x := (r85 x.1 x.2.1 x.2.2.1 x.2.2.2.1 x.2.2.2.2.1 x.2.2.2.2.2.1 x.2.2.2.2.2.2).isSome = true
  res x := [.c (.d (.bool ((r85 x.1 x.2.1 x.2.2.1 x.2.2.2.1 x.2.2.2.2.1 x.2.2.2.2.2.1 x.2.2.2.2.2.2).getD default)))]
  al := false
def tb85 : Fns := lk [(57, T57.sp)]
theorem tb85_ok : FnsOk Tryz.prog tb85 := .cons f57 (FnsOk.nil)
theorem tb85_57 : tb85 57 = some T57.sp := rfl
theorem v85 : Valid Tryz.prog 85 T85.sp := by
  refine valid_t (fn := Tryz.f85) (n := 21) ty_ok tb85_ok Tryz.func85 rfl Tryz.ntmps85 ?_
  rintro ⟨a0_0, a0_1, a0_2, a0_3, a0_4, a0_5, a1⟩ hx
  obtain ⟨r, hr⟩ := Option.isSome_iff_exists.1 (show (r85 a0_0 a0_1 a0_2 a0_3 a0_4 a0_5 a1).isSome = true from hx)
  have hres : T85.res (a0_0, a0_1, a0_2, a0_3, a0_4, a0_5, a1) = [.c (.d (.bool r))] := by simp only [T85, hr, Option.getD_some]
  refine ⟨Nat.le_of_ble_eq_true rfl, fun stop S => ?_⟩
  rw [hres] at S
  unfold r85 at hr
  refine S.goB [] 1000 ?_
  simp (maxSteps := 10000000) only [go_sem, tb85_57, T57, T85, Option.map_some, Int.reduceToNat, Nat.reduceEqDiff, Nat.reduceLT, Nat.reduceAdd, Nat.reduceMul, Nat.reduceSub, Nat.reduceLeDiff, reduceIte, reduceCtorEq, Tryz.results85]
  obtain ⟨hg2, hr⟩ := of_guard0 hr
  obtain ⟨hg3, hr⟩ := of_guard0 hr
  obtain ⟨v1, hv1, hr⟩ := of_bind0 hr
  try simp only [hv1, Option.getD_some, Option.isSome_some, true_and, and_assoc]
  repeat refine gA ?_
  obtain rfl := Option.some.inj hr
  (simp (maxDischargeDepth := 8) [go_sem])
theorem f85 : FnFact Tryz.prog 85 T85.sp := ⟨⟨Tryz.f85, Tryz.func85, by decide, rfl⟩, v85⟩

/- (martensite/heat.part).stateErr$1 -/
def r93 (a0 : Int) (a1_0 : Int) (a1_1 : Int) (a1_2 : List (Int × Int)) (a1_3 : List ((List (Int × Int)))) (a1_4 : List (Int × Int)) (a1_5 : List ((List (Int × Int)))) : Option (Bool) :=
  (r85 a1_0 a1_1 a1_2 a1_3 a1_4 a1_5 a0).bind fun v1 =>
   some (!v1)
def T93 : TSpec (Int × Int × Int × (List (Int × Int)) × (List ((List (Int × Int)))) × (List (Int × Int)) × (List ((List (Int × Int))))) where
  enc x := [.c (.int .i64 x.1), .ptr [.int .i64 x.2.1, .int .i64 x.2.2.1, encF 2 d_II x.2.2.2.1, encF 1 d_LIIE x.2.2.2.2.1, encF 2 d_II x.2.2.2.2.2.1, encF 1 d_LIIE x.2.2.2.2.2.2]]
  dec a := (dInt (aCell a 0 0), dInt (aCell a 1 0), dInt (aCell a 1 1), decF g_II (aCell a 1 2), decF g_LIIE (aCell a 1 3), decF g_II (aCell a 1 4), decF g_LIIE (aCell a 1 5))
  pre x := (r93 x.1 x.2.1 x.2.2.1 x.2.2.2.1 x.2.2.2.2.1 x.2.2.2.2.2.1 x.2.2.2.2.2.2).isSome = true
  res x := [.c (.d (.bool ((r93 x.1 x.2.1 x.2.2.1 x.2.2.2.1 x.2.2.2.2.1 x.2.2.2.2.2.1 x.2.2.2.2.2.2).getD default)))]
  al := false
def tb93 : Fns := lk [(85, T85.sp)]
theorem tb93_ok : FnsOk Tryz.prog tb93 := .cons f85 (FnsOk.nil)
theorem tb93_85 : tb93 85 = some T85.sp := rfl
theorem v93 : Valid Tryz.prog 93 T93.sp := by
  refine valid_t (fn := Tryz.f93) (n := 8) ty_ok tb93_ok Tryz.func93 rfl Tryz.ntmps93 ?_
  rintro ⟨a0, a1_0, a1_1, a1_2, a1_3, a1_4, a1_5⟩ hx
  obtain ⟨r, hr⟩ := Option.isSome_iff_exists.1 (show (r93 a0 a1_0 a1_1 a1_2 a1_3 a1_4 a1_5).isSome = true from hx)
  have hres : T93.res (a0, a1_0, a1_1, a1_2, a1_3, a1_4, a1_5) = [.c (.d (.bool r))] := by simp only [T93, hr, Option.getD_some]
  refine ⟨Nat.le_of_ble_eq_true rfl, fun stop S => ?_⟩
  rw [hres] at S
  unfold r93 at hr
  refine S.goB [] 1000 ?_
  simp (maxSteps := 10000000) only [go_sem, tb93_85, T85, T93, Option.map_some, Int.reduceToNat, Nat.reduceEqDiff, Nat.reduceLT, Nat.reduceAdd, Nat.reduceMul, Nat.reduceSub, Nat.reduceLeDiff, reduceIte, reduceCtorEq, Tryz.results93]
  obtain ⟨v1, hv1, hr⟩ := of_bind0 hr
  try simp only [hv1, Option.getD_some, Option.isSome_some, true_and, and_assoc]
  repeat refine gA ?_
  obtain rfl := Option.some.inj hr
  (simp (maxDischargeDepth := 8) [go_sem])
theorem f93 : FnFact Tryz.prog 93 T93.sp := ⟨⟨Tryz.f93, Tryz.func93, by decide, rfl⟩, v93⟩

/- slices.IndexFunc[[]int,int] -/
def b65_1 (a0 : List (Int)) (a1_0_0 : Int) (a1_0_1 : Int) (a1_0_2 : List (Int × Int)) (a1_0_3 : List ((List (Int × Int)))) (a1_0_4 : List (Int × Int)) (a1_0_5 : List ((List (Int × Int)))) : (Int) → Ctl (Int) (Int) := fun s1 =>
  if (decide (s1 < (a0.length : Int))) = true then
   if 0 ≤ s1 ∧ s1 < (a0.length : Int) then
    bindC (r93 (a0.getD s1.toNat default) a1_0_0 a1_0_1 a1_0_2 a1_0_3 a1_0_4 a1_0_5) fun v1 =>
     if v1 = true then
      .out (some s1)
      else .next (IntKind.i64.wrap (s1 + 1))
    else .out none
   else .out (some (-1))
def r65 (a0 : List (Int)) (a1_0_0 : Int) (a1_0_1 : Int) (a1_0_2 : List (Int × Int)) (a1_0_3 : List ((List (Int × Int)))) (a1_0_4 : List (Int × Int)) (a1_0_5 : List ((List (Int × Int)))) : Option (Int) :=
  iterC (b65_1 a0 a1_0_0 a1_0_1 a1_0_2 a1_0_3 a1_0_4 a1_0_5) 1000000000 0
def T65 : TSpec ((List (Int)) × Int × Int × (List (Int × Int)) × (List ((List (Int × Int)))) × (List (Int × Int)) × (List ((List (Int × Int))))) where
  enc x := [.c (encF 1 d_I x.1), .clo 93 [[.int .i64 x.2.1, .int .i64 x.2.2.1, encF 2 d_II x.2.2.2.1, encF 1 d_LIIE x.2.2.2.2.1, encF 2 d_II x.2.2.2.2.2.1, encF 1 d_LIIE x.2.2.2.2.2.2]]]
  dec a := (decF g_I (aCell a 0 0), dInt (aCell a 1 0), dInt (aCell a 1 1), decF g_II (aCell a 1 2), decF g_LIIE (aCell a 1 3), decF g_II (aCell a 1 4), decF g_LIIE (aCell a 1 5))
  pre x := (r65 x.1 x.2.1 x.2.2.1 x.2.2.2.1 x.2.2.2.2.1 x.2.2.2.2.2.1 x.2.2.2.2.2.2).isSome = true
  res x := [.c (.d (.int .i64 ((r65 x.1 x.2.1 x.2.2.1 x.2.2.2.1 x.2.2.2.2.1 x.2.2.2.2.2.1 x.2.2.2.2.2.2).getD default)))]
  al := false
def tb65 : Fns := lk [(93, T93.sp)]
theorem tb65_ok : FnsOk Tryz.prog tb65 := .cons f93 (FnsOk.nil)
theorem tb65_93 : tb65 93 = some T93.sp := rfl
theorem v65 : Valid Tryz.prog 65 T65.sp := by
  refine valid_t (fn := Tryz.f65) (n := 19) ty_ok tb65_ok Tryz.func65 rfl Tryz.ntmps65 ?_
  rintro ⟨a0, a1_0_0, a1_0_1, a1_0_2, a1_0_3, a1_0_4, a1_0_5⟩ hx
  obtain ⟨r, hr⟩ := Option.isSome_iff_exists.1 (show (r65 a0 a1_0_0 a1_0_1 a1_0_2 a1_0_3 a1_0_4 a1_0_5).isSome = true from hx)
  have hres : T65.res (a0, a1_0_0, a1_0_1, a1_0_2, a1_0_3, a1_0_4, a1_0_5) = [.c (.d (.int .i64 r))] := by simp only [T65, hr, Option.getD_some]
  refine ⟨Nat.le_of_ble_eq_true rfl, fun stop S => ?_⟩
  rw [hres] at S
  unfold r65 at hr
  refine S.goB [] 1000 ?_
  simp (maxSteps := 10000000) only [go_sem, tb65_93, T93, T65, Option.map_some, Int.reduceToNat, Nat.reduceEqDiff, Nat.reduceLT, Nat.reduceAdd, Nat.reduceMul, Nat.reduceSub, Nat.reduceLeDiff, reduceIte, reduceCtorEq, Tryz.results65]
  repeat refine gA ?_
  refine S.sees [0, 1, 7, 8] [] [] ?_ (Stop.iter S (fun s1 => ⟨[(0, .c (.d (encF 1 d_I a0))), (1, .c (.clo 93 [.sptr [.int .i64 a1_0_0, .int .i64 a1_0_1, encF 2 d_II a1_0_2, encF 1 d_LIIE a1_0_3, encF 2 d_II a1_0_4, encF 1 d_LIIE a1_0_5] 0])), (7, .c (.d (.int .i64 (a0.length : Int)))), (8, .c (.d (.int .i64 s1)))], [], []⟩) (b65_1 a0 a1_0_0 a1_0_1 a1_0_2 a1_0_3 a1_0_4 a1_0_5) (fun q => q = r) hr rfl ?_)
  · (simp (maxDischargeDepth := 8) [go_sem])
  · intro s1 hr
    unfold b65_1 at hr
    refine S.goB [] 1000 ?_
    simp (maxSteps := 10000000) only [go_sem, tb65_93, T93, T65, Option.map_some, Int.reduceToNat, Nat.reduceEqDiff, Nat.reduceLT, Nat.reduceAdd, Nat.reduceMul, Nat.reduceSub, Nat.reduceLeDiff, reduceIte, reduceCtorEq, Tryz.results65]
    repeat refine gA ?_
    refine ⟨fun hc => ?_, fun hc => ?_⟩
    · replace hr := ifP1 hr hc
      obtain ⟨hg2, hr⟩ := of_guard1 hr
      obtain ⟨v1, hv1, hr⟩ := of_bind1 hr
      try simp only [hv1, Option.getD_some, Option.isSome_some, true_and, and_assoc]
      repeat refine gA ?_
      refine ⟨fun hc => ?_, fun hc => ?_⟩
      · replace hr := ifP1 hr hc
        repeat refine gA ?_
        have hr := of_out0 hr
        obtain rfl := Option.some.inj hr
        (simp (maxDischargeDepth := 8) [go_sem])
      · replace hr := ifN1 hr hc
        repeat refine gA ?_
        refine S.sees [0, 1, 7, 8] [] [] ?_ hr
        (simp (maxDischargeDepth := 8) [go_sem])
    · replace hr := ifN1 hr hc
      repeat refine gA ?_
      have hr := of_out0 hr
      repeat refine gA ?_
      obtain rfl := Option.some.inj hr
      (simp (maxDischargeDepth := 8) [go_sem])
theorem f65 : FnFact Tryz.prog 65 T65.sp := ⟨⟨Tryz.f65, Tryz.func65, by decide, rfl⟩, v65⟩

/- (martensite/heat.part).stateErr -/
def r63 (a0_0 : Int) (a0_1 : Int) (a0_2 : List (Int × Int)) (a0_3 : List ((List (Int × Int)))) (a0_4 : List (Int × Int)) (a0_5 : List ((List (Int × Int)))) (a1 : List (Int)) : Option (Int × Int) :=
  if ((a1.length : Int) != a0_0) = true then
   some (0, 10)
   else (r65 a1 a0_0 a0_1 a0_2 a0_3 a0_4 a0_5).bind fun v1 =>
    if (decide (v1 ≥ 0)) = true then
     some (v1, 2)
     else some (0, 0)
def T63 : TSpec (Int × Int × (List (Int × Int)) × (List ((List (Int × Int)))) × (List (Int × Int)) × (List ((List (Int × Int)))) × (List (Int))) where
  enc x := [.agg [.int .i64 x.1, .int .i64 x.2.1, encF 2 d_II x.2.2.1, encF 1 d_LIIE x.2.2.2.1, encF 2 d_II x.2.2.2.2.1, encF 1 d_LIIE x.2.2.2.2.2.1], .c (encF 1 d_I x.2.2.2.2.2.2)]
  dec a := (dInt (aCell a 0 0), dInt (aCell a 0 1), decF g_II (aCell a 0 2), decF g_LIIE (aCell a 0 3), decF g_II (aCell a 0 4), decF g_LIIE (aCell a 0 5), decF g_I (aCell a 1 0))
  pre x := (r63 x.1 x.2.1 x.2.2.1 x.2.2.2.1 x.2.2.2.2.1 x.2.2.2.2.2.1 x.2.2.2.2.2.2).isSome = true
  res x := [.c (.d (.int .i64 (((r63 x.1 x.2.1 x.2.2.1 x.2.2.2.1 x.2.2.2.2.1 x.2.2.2.2.2.1 x.2.2.2.2.2.2).getD default).1))), .c (.d (.int .i64 (((r63 x.1 x.2.1 x.2.2.1 x.2.2.2.1 x.2.2.2.2.1 x.2.2.2.2.2.1 x.2.2.2.2.2.2).getD default).2)))]
  al := false
def tb63 : Fns := lk [(65, T65.sp)]
theorem tb63_ok : FnsOk Tryz.prog tb63 := .cons f65 (FnsOk.nil)
theorem tb63_65 : tb63 65 = some T65.sp := rfl
theorem v63 : Valid Tryz.prog 63 T63.sp := by
  refine valid_t (fn := Tryz.f63) (n := 19) ty_ok tb63_ok Tryz.func63 rfl Tryz.ntmps63 ?_
  rintro ⟨a0_0, a0_1, a0_2, a0_3, a0_4, a0_5, a1⟩ hx
  obtain ⟨r, hr⟩ := Option.isSome_iff_exists.1 (show (r63 a0_0 a0_1 a0_2 a0_3 a0_4 a0_5 a1).isSome = true from hx)
  have hres : T63.res (a0_0, a0_1, a0_2, a0_3, a0_4, a0_5, a1) = [.c (.d (.int .i64 r.1)), .c (.d (.int .i64 r.2))] := by simp only [T63, hr, Option.getD_some]
  refine ⟨Nat.le_of_ble_eq_true rfl, fun stop S => ?_⟩
  rw [hres] at S
  unfold r63 at hr
  refine S.goB [] 1000 ?_
  simp (maxSteps := 10000000) only [go_sem, tb63_65, T65, T63, Option.map_some, Int.reduceToNat, Nat.reduceEqDiff, Nat.reduceLT, Nat.reduceAdd, Nat.reduceMul, Nat.reduceSub, Nat.reduceLeDiff, reduceIte, reduceCtorEq, Tryz.results63]
  repeat refine gA ?_
  refine ⟨fun hc => ?_, fun hc => ?_⟩
  · replace hr := ifP hr hc
    repeat refine gA ?_
    obtain rfl := Option.some.inj hr
    (simp (maxDischargeDepth := 8) [go_sem])
  · replace hr := ifN hr hc
    obtain ⟨v1, hv1, hr⟩ := of_bind0 hr
    try simp only [hv1, Option.getD_some, Option.isSome_some, true_and, and_assoc]
    repeat refine gA ?_
    refine ⟨fun hc => ?_, fun hc => ?_⟩
    · replace hr := ifP hr hc
      repeat refine gA ?_
      obtain rfl := Option.some.inj hr
      (simp (maxDischargeDepth := 8) [go_sem])
    · replace hr := ifN hr hc
      repeat refine gA ?_
      obtain rfl := Option.some.inj hr
      (simp (maxDischargeDepth := 8) [go_sem])
theorem f63 : FnFact Tryz.prog 63 T63.sp := ⟨⟨Tryz.f63, Tryz.func63, by decide, rfl⟩, v63⟩

/- martensite/heat.openState -/
def r31 (a0_0 : Int) (a0_1 : Int) (a0_2 : List (Int × Int)) (a0_3 : List ((List (Int × Int)))) (a1 : List (Int)) : Option (Int × Int × (List (Int × Int)) × (List ((List (Int × Int)))) × (List (Int × Int)) × (List ((List (Int × Int)))) × Int) :=
  (r62 a0_0 a0_1 a0_2 a0_3).bind fun v1 =>
   if (v1.2.2.2.2.2.2 == 0) = true then
    (r63 v1.1 v1.2.1 v1.2.2.1 v1.2.2.2.1 v1.2.2.2.2.1 v1.2.2.2.2.2.1 a1).bind fun v2 =>
     some (v1.1, v1.2.1, v1.2.2.1, v1.2.2.2.1, v1.2.2.2.2.1, v1.2.2.2.2.2.1, v2.2)
    else some (v1.1, v1.2.1, v1.2.2.1, v1.2.2.2.1, v1.2.2.2.2.1, v1.2.2.2.2.2.1, v1.2.2.2.2.2.2)
def T31 : TSpec (Int × Int × (List (Int × Int)) × (List ((List (Int × Int)))) × (List (Int))) where
  enc x := [.agg [.int .i64 x.1, .int .i64 x.2.1, encF 2 d_II x.2.2.1, encF 1 d_LIIE x.2.2.2.1], .c (encF 1 d_I x.2.2.2.2)]
  dec a := (dInt (aCell a 0 0), dInt (aCell a 0 1), decF g_II (aCell a 0 2), decF g_LIIE (aCell a 0 3), decF g_I (aCell a 1 0))
  pre x := (r31 x.1 x.2.1 x.2.2.1 x.2.2.2.1 x.2.2.2.2).isSome = true
  res x := [.agg [.d (.int .i64 (((r31 x.1 x.2.1 x.2.2.1 x.2.2.2.1 x.2.2.2.2).getD default).1)), .d (.int .i64 (((r31 x.1 x.2.1 x.2.2.1 x.2.2.2.1 x.2.2.2.2).getD default).2.1)), .d (encF 2 d_II (((r31 x.1 x.2.1 x.2.2.1 x.2.2.2.1 x.2.2.2.2).getD default).2.2.1)), .d (encF 1 d_LIIE (((r31 x.1 x.2.1 x.2.2.1 x.2.2.2.1 x.2.2.2.2).getD default).2.2.2.1)), .own (encF 2 d_II (((r31 x.1 x.2.1 x.2.2.1 x.2.2.2.1 x.2.2.2.2).getD default).2.2.2.2.1)), .own (encF 1 d_LIIE (((r31 x.1 x.2.1 x.2.2.1 x.2.2.2.1 x.2.2.2.2).getD default).2.2.2.2.2.1))], .c (.d (.int .i64 (((r31 x.1 x.2.1 x.2.2.1 x.2.2.2.1 x.2.2.2.2).getD default).2.2.2.2.2.2)))]
  al := true
def tb31 : Fns := lk [(62, T62.sp), (63, T63.sp)]
theorem tb31_ok : FnsOk Tryz.prog tb31 := .cons f62 (.cons f63 (FnsOk.nil))
theorem tb31_62 : tb31 62 = some T62.sp := rfl
theorem tb31_63 : tb31 63 = some T63.sp := rfl
theorem v31 : Valid Tryz.prog 31 T31.sp := by
  refine valid_t (fn := Tryz.f31) (n := 23) ty_ok tb31_ok Tryz.func31 rfl Tryz.ntmps31 ?_
  rintro ⟨a0_0, a0_1, a0_2, a0_3, a1⟩ hx
  obtain ⟨r, hr⟩ := Option.isSome_iff_exists.1 (show (r31 a0_0 a0_1 a0_2 a0_3 a1).isSome = true from hx)
  have hres : T31.res (a0_0, a0_1, a0_2, a0_3, a1) = [.agg [.d (.int .i64 r.1), .d (.int .i64 r.2.1), .d (encF 2 d_II r.2.2.1), .d (encF 1 d_LIIE r.2.2.2.1), .own (encF 2 d_II r.2.2.2.2.1), .own (encF 1 d_LIIE r.2.2.2.2.2.1)], .c (.d (.int .i64 r.2.2.2.2.2.2))] := by simp only [T31, hr, Option.getD_some]
  refine ⟨Nat.le_of_ble_eq_true rfl, fun stop S => ?_⟩
  rw [hres] at S
  unfold r31 at hr
  refine S.goB [] 1000 ?_
  simp (maxSteps := 10000000) only [go_sem, tb31_62, T62, tb31_63, T63, T31, Option.map_some, Int.reduceToNat, Nat.reduceEqDiff, Nat.reduceLT, Nat.reduceAdd, Nat.reduceMul, Nat.reduceSub, Nat.reduceLeDiff, reduceIte, reduceCtorEq, Tryz.results31]
  obtain ⟨v1, hv1, hr⟩ := of_bind0 hr
  try simp only [hv1, Option.getD_some, Option.isSome_some, true_and, and_assoc]
  repeat refine gA ?_
  refine ⟨fun hc => ?_, fun hc => ?_⟩
  · replace hr := ifP hr hc
    obtain ⟨v2, hv2, hr⟩ := of_bind0 hr
    try simp only [hv2, Option.getD_some, Option.isSome_some, true_and, and_assoc]
    repeat refine gA ?_
    obtain rfl := Option.some.inj hr
    (simp (maxDischargeDepth := 8) [go_sem])
  · replace hr := ifN hr hc
    repeat refine gA ?_
    obtain rfl := Option.some.inj hr
    (simp (maxDischargeDepth := 8) [go_sem])
theorem f31 : FnFact Tryz.prog 31 T31.sp := ⟨⟨Tryz.f31, Tryz.func31, by decide, rfl⟩, v31⟩

/- martensite/heat.isPower -/
def r80 (a0 : Int) : Option (Bool) :=
  (r57 a0 0 10000).bind fun v1 =>
   some v1
def T80 : TSpec (Int) where
  enc x := [.c (.int .i64 x)]
  dec a := dInt (aCell a 0 0)
  pre x := (r80 x).isSome = true
  res x := [.c (.d (.bool ((r80 x).getD default)))]
  al := false
def tb80 : Fns := lk [(57, T57.sp)]
theorem tb80_ok : FnsOk Tryz.prog tb80 := .cons f57 (FnsOk.nil)
theorem tb80_57 : tb80 57 = some T57.sp := rfl
theorem v80 : Valid Tryz.prog 80 T80.sp := by
  refine valid_t (fn := Tryz.f80) (n := 5) ty_ok tb80_ok Tryz.func80 rfl Tryz.ntmps80 ?_
  rintro a0 hx
  obtain ⟨r, hr⟩ := Option.isSome_iff_exists.1 (show (r80 a0).isSome = true from hx)
  have hres : T80.res a0 = [.c (.d (.bool r))] := by simp only [T80, hr, Option.getD_some]
  refine ⟨Nat.le_of_ble_eq_true rfl, fun stop S => ?_⟩
  rw [hres] at S
  unfold r80 at hr
  refine S.goB [] 1000 ?_
  simp (maxSteps := 10000000) only [go_sem, tb80_57, T57, T80, Option.map_some, Int.reduceToNat, Nat.reduceEqDiff, Nat.reduceLT, Nat.reduceAdd, Nat.reduceMul, Nat.reduceSub, Nat.reduceLeDiff, reduceIte, reduceCtorEq, Tryz.results80]
  obtain ⟨v1, hv1, hr⟩ := of_bind0 hr
  try simp only [hv1, Option.getD_some, Option.isSome_some, true_and, and_assoc]
  repeat refine gA ?_
  obtain rfl := Option.some.inj hr
  (simp (maxDischargeDepth := 8) [go_sem])
theorem f80 : FnFact Tryz.prog 80 T80.sp := ⟨⟨Tryz.f80, Tryz.func80, by decide, rfl⟩, v80⟩

/- (martensite/heat.part).driveErr$1 -/
def r79 (a0 : Int) : Option (Bool) :=
  (r80 a0).bind fun v1 =>
   some (!v1)
def T79 : TSpec (Int) where
  enc x := [.c (.int .i64 x)]
  dec a := dInt (aCell a 0 0)
  pre x := (r79 x).isSome = true
  res x := [.c (.d (.bool ((r79 x).getD default)))]
  al := false
def tb79 : Fns := lk [(80, T80.sp)]
theorem tb79_ok : FnsOk Tryz.prog tb79 := .cons f80 (FnsOk.nil)
theorem tb79_80 : tb79 80 = some T80.sp := rfl
theorem v79 : Valid Tryz.prog 79 T79.sp := by
  refine valid_t (fn := Tryz.f79) (n := 6) ty_ok tb79_ok Tryz.func79 rfl Tryz.ntmps79 ?_
  rintro a0 hx
  obtain ⟨r, hr⟩ := Option.isSome_iff_exists.1 (show (r79 a0).isSome = true from hx)
  have hres : T79.res a0 = [.c (.d (.bool r))] := by simp only [T79, hr, Option.getD_some]
  refine ⟨Nat.le_of_ble_eq_true rfl, fun stop S => ?_⟩
  rw [hres] at S
  unfold r79 at hr
  refine S.goB [] 1000 ?_
  simp (maxSteps := 10000000) only [go_sem, tb79_80, T80, T79, Option.map_some, Int.reduceToNat, Nat.reduceEqDiff, Nat.reduceLT, Nat.reduceAdd, Nat.reduceMul, Nat.reduceSub, Nat.reduceLeDiff, reduceIte, reduceCtorEq, Tryz.results79]
  obtain ⟨v1, hv1, hr⟩ := of_bind0 hr
  try simp only [hv1, Option.getD_some, Option.isSome_some, true_and, and_assoc]
  repeat refine gA ?_
  obtain rfl := Option.some.inj hr
  (simp (maxDischargeDepth := 8) [go_sem])
theorem f79 : FnFact Tryz.prog 79 T79.sp := ⟨⟨Tryz.f79, Tryz.func79, by decide, rfl⟩, v79⟩

/- slices.IndexFunc[[]int,int] -/
def b65a_1 (a0 : List (Int)) : (Int) → Ctl (Int) (Int) := fun s1 =>
  if (decide (s1 < (a0.length : Int))) = true then
   if 0 ≤ s1 ∧ s1 < (a0.length : Int) then
    bindC (r79 (a0.getD s1.toNat default)) fun v1 =>
     if v1 = true then
      .out (some s1)
      else .next (IntKind.i64.wrap (s1 + 1))
    else .out none
   else .out (some (-1))
def r65a (a0 : List (Int)) : Option (Int) :=
  iterC (b65a_1 a0) 1000000000 0
def T65a : TSpec ((List (Int))) where
  enc x := [.c (encF 1 d_I x), .clo 79 []]
  dec a := decF g_I (aCell a 0 0)
  pre x := (r65a x).isSome = true
  res x := [.c (.d (.int .i64 ((r65a x).getD default)))]
  al := false
def tb65a : Fns := lk [(79, T79.sp)]
theorem tb65a_ok : FnsOk Tryz.prog tb65a := .cons f79 (FnsOk.nil)
theorem tb65a_79 : tb65a 79 = some T79.sp := rfl
theorem v65a : Valid Tryz.prog 65 T65a.sp := by
  refine valid_t (fn := Tryz.f65) (n := 19) ty_ok tb65a_ok Tryz.func65 rfl Tryz.ntmps65 ?_
  rintro a0 hx
  obtain ⟨r, hr⟩ := Option.isSome_iff_exists.1 (show (r65a a0).isSome = true from hx)
  have hres : T65a.res a0 = [.c (.d (.int .i64 r))] := by simp only [T65a, hr, Option.getD_some]
  refine ⟨Nat.le_of_ble_eq_true rfl, fun stop S => ?_⟩
  rw [hres] at S
  unfold r65a at hr
  refine S.goB [] 1000 ?_
  simp (maxSteps := 10000000) only [go_sem, tb65a_79, T79, T65a, Option.map_some, Int.reduceToNat, Nat.reduceEqDiff, Nat.reduceLT, Nat.reduceAdd, Nat.reduceMul, Nat.reduceSub, Nat.reduceLeDiff, reduceIte, reduceCtorEq, Tryz.results65]
  repeat refine gA ?_
  refine S.sees [0, 1, 7, 8] [] [] ?_ (Stop.iter S (fun s1 => ⟨[(0, .c (.d (encF 1 d_I a0))), (1, .c (.clo 79 [])), (7, .c (.d (.int .i64 (a0.length : Int)))), (8, .c (.d (.int .i64 s1)))], [], []⟩) (b65a_1 a0) (fun q => q = r) hr rfl ?_)
  · (simp (maxDischargeDepth := 8) [go_sem])
  · intro s1 hr
    unfold b65a_1 at hr
    refine S.goB [] 1000 ?_
    simp (maxSteps := 10000000) only [go_sem, tb65a_79, T79, T65a, Option.map_some, Int.reduceToNat, Nat.reduceEqDiff, Nat.reduceLT, Nat.reduceAdd, Nat.reduceMul, Nat.reduceSub, Nat.reduceLeDiff, reduceIte, reduceCtorEq, Tryz.results65]
    repeat refine gA ?_
    refine ⟨fun hc => ?_, fun hc => ?_⟩
    · replace hr := ifP1 hr hc
      obtain ⟨hg2, hr⟩ := of_guard1 hr
      obtain ⟨v1, hv1, hr⟩ := of_bind1 hr
      try simp only [hv1, Option.getD_some, Option.isSome_some, true_and, and_assoc]
      repeat refine gA ?_
      refine ⟨fun hc => ?_, fun hc => ?_⟩
      · replace hr := ifP1 hr hc
        repeat refine gA ?_
        have hr := of_out0 hr
        obtain rfl := Option.some.inj hr
        (simp (maxDischargeDepth := 8) [go_sem])
      · replace hr := ifN1 hr hc
        repeat refine gA ?_
        refine S.sees [0, 1, 7, 8] [] [] ?_ hr
        (simp (maxDischargeDepth := 8) [go_sem])
    · replace hr := ifN1 hr hc
      repeat refine gA ?_
      have hr := of_out0 hr
      repeat refine gA ?_
      obtain rfl := Option.some.inj hr
      (simp (maxDischargeDepth := 8) [go_sem])
theorem f65a : FnFact Tryz.prog 65 T65a.sp := ⟨⟨Tryz.f65, Tryz.func65, by decide, rfl⟩, v65a⟩

/- slices.ContainsFunc[[]int,int] -/
def r41 (a0 : List (Int)) : Option (Bool) :=
  (r65a a0).bind fun v1 =>
   some (decide (v1 ≥ 0))
def T41 : TSpec ((List (Int))) where
  enc x := [.c (encF 1 d_I x), .clo 79 []]
  dec a := decF g_I (aCell a 0 0)
  pre x := (r41 x).isSome = true
  res x := [.c (.d (.bool ((r41 x).getD default)))]
  al := false
def tb41 : Fns := lk [(65, T65a.sp)]
theorem tb41_ok : FnsOk Tryz.prog tb41 := .cons f65a (FnsOk.nil)
theorem tb41_65 : tb41 65 = some T65a.sp := rfl
theorem v41 : Valid Tryz.prog 41 T41.sp := by
  refine valid_t (fn := Tryz.f41) (n := 9) ty_ok tb41_ok Tryz.func41 rfl Tryz.ntmps41 ?_
  rintro a0 hx
  obtain ⟨r, hr⟩ := Option.isSome_iff_exists.1 (show (r41 a0).isSome = true from hx)
  have hres : T41.res a0 = [.c (.d (.bool r))] := by simp only [T41, hr, Option.getD_some]
  refine ⟨Nat.le_of_ble_eq_true rfl, fun stop S => ?_⟩
  rw [hres] at S
  unfold r41 at hr
  refine S.goB [] 1000 ?_
  simp (maxSteps := 10000000) only [go_sem, tb41_65, T65a, T41, Option.map_some, Int.reduceToNat, Nat.reduceEqDiff, Nat.reduceLT, Nat.reduceAdd, Nat.reduceMul, Nat.reduceSub, Nat.reduceLeDiff, reduceIte, reduceCtorEq, Tryz.results41]
  obtain ⟨v1, hv1, hr⟩ := of_bind0 hr
  try simp only [hv1, Option.getD_some, Option.isSome_some, true_and, and_assoc]
  repeat refine gA ?_
  obtain rfl := Option.some.inj hr
  (simp (maxDischargeDepth := 8) [go_sem])
theorem f41 : FnFact Tryz.prog 41 T41.sp := ⟨⟨Tryz.f41, Tryz.func41, by decide, rfl⟩, v41⟩

/- (martensite/heat.part).lawIndexErr -/
def r81 (a0_0 : Int) (a0_1 : Int) (a0_2 : List (Int × Int)) (a0_3 : List ((List (Int × Int)))) (a0_4 : List (Int × Int)) (a0_5 : List ((List (Int × Int)))) (a1 : Int) : Option (Int) :=
  (r57 a1 0 (IntKind.i64.wrap ((a0_5.length : Int) - 1))).bind fun v1 =>
   (r58 v1 6).bind fun v2 =>
    some v2
def T81 : TSpec (Int × Int × (List (Int × Int)) × (List ((List (Int × Int)))) × (List (Int × Int)) × (List ((List (Int × Int)))) × Int) where
  enc x := [.agg [.int .i64 x.1, .int .i64 x.2.1, encF 2 d_II x.2.2.1, encF 1 d_LIIE x.2.2.2.1, encF 2 d_II x.2.2.2.2.1, encF 1 d_LIIE x.2.2.2.2.2.1], .c (.int .i64 x.2.2.2.2.2.2)]
  dec a := (dInt (aCell a 0 0), dInt (aCell a 0 1), decF g_II (aCell a 0 2), decF g_LIIE (aCell a 0 3), decF g_II (aCell a 0 4), decF g_LIIE (aCell a 0 5), dInt (aCell a 1 0))
  pre x := (r81 x.1 x.2.1 x.2.2.1 x.2.2.2.1 x.2.2.2.2.1 x.2.2.2.2.2.1 x.2.2.2.2.2.2).isSome = true
  res x := [.c (.d (.int .i64 ((r81 x.1 x.2.1 x.2.2.1 x.2.2.2.1 x.2.2.2.2.1 x.2.2.2.2.2.1 x.2.2.2.2.2.2).getD default)))]
  al := false
def tb81 : Fns := lk [(57, T57.sp), (58, T58.sp)]
theorem tb81_ok : FnsOk Tryz.prog tb81 := .cons f57 (.cons f58 (FnsOk.nil))
theorem tb81_57 : tb81 57 = some T57.sp := rfl
theorem tb81_58 : tb81 58 = some T58.sp := rfl
theorem v81 : Valid Tryz.prog 81 T81.sp := by
  refine valid_t (fn := Tryz.f81) (n := 12) ty_ok tb81_ok Tryz.func81 rfl Tryz.ntmps81 ?_
  rintro ⟨a0_0, a0_1, a0_2, a0_3, a0_4, a0_5, a1⟩ hx
  obtain ⟨r, hr⟩ := Option.isSome_iff_exists.1 (show (r81 a0_0 a0_1 a0_2 a0_3 a0_4 a0_5 a1).isSome = true from hx)
  have hres : T81.res (a0_0, a0_1, a0_2, a0_3, a0_4, a0_5, a1) = [.c (.d (.int .i64 r))] := by simp only [T81, hr, Option.getD_some]
  refine ⟨Nat.le_of_ble_eq_true rfl, fun stop S => ?_⟩
  rw [hres] at S
  unfold r81 at hr
  refine S.goB [] 1000 ?_
  simp (maxSteps := 10000000) only [go_sem, tb81_57, T57, tb81_58, T58, T81, Option.map_some, Int.reduceToNat, Nat.reduceEqDiff, Nat.reduceLT, Nat.reduceAdd, Nat.reduceMul, Nat.reduceSub, Nat.reduceLeDiff, reduceIte, reduceCtorEq, Tryz.results81]
  obtain ⟨v1, hv1, hr⟩ := of_bind0 hr
  obtain ⟨v2, hv2, hr⟩ := of_bind0 hr
  try simp only [hv1, hv2, Option.getD_some, Option.isSome_some, true_and, and_assoc]
  repeat refine gA ?_
  obtain rfl := Option.some.inj hr
  (simp (maxDischargeDepth := 8) [go_sem])
theorem f81 : FnFact Tryz.prog 81 T81.sp := ⟨⟨Tryz.f81, Tryz.func81, by decide, rfl⟩, v81⟩

/- (martensite/heat.part).driveErr -/
def r53 (a0_0 : Int) (a0_1 : Int) (a0_2 : List (Int × Int)) (a0_3 : List ((List (Int × Int)))) (a0_4 : List (Int × Int)) (a0_5 : List ((List (Int × Int)))) (a1_0 : List (Int)) (a1_1 : Int) : Option (Int) :=
  (r41 a1_0).bind fun v1 =>
   (r58 ((a1_0.length : Int) == a0_0) 10).bind fun v2 =>
    (r58 (!v1) 2).bind fun v3 =>
     (r81 a0_0 a0_1 a0_2 a0_3 a0_4 a0_5 a1_1).bind fun v4 =>
      (r32 [v2, v3, v4]).bind fun v5 =>
       some v5
def T53 : TSpec (Int × Int × (List (Int × Int)) × (List ((List (Int × Int)))) × (List (Int × Int)) × (List ((List (Int × Int)))) × (List (Int)) × Int) where
  enc x := [.agg [.int .i64 x.1, .int .i64 x.2.1, encF 2 d_II x.2.2.1, encF 1 d_LIIE x.2.2.2.1, encF 2 d_II x.2.2.2.2.1, encF 1 d_LIIE x.2.2.2.2.2.1], .agg [encF 1 d_I x.2.2.2.2.2.2.1, .int .i64 x.2.2.2.2.2.2.2]]
  dec a := (dInt (aCell a 0 0), dInt (aCell a 0 1), decF g_II (aCell a 0 2), decF g_LIIE (aCell a 0 3), decF g_II (aCell a 0 4), decF g_LIIE (aCell a 0 5), decF g_I (aCell a 1 0), dInt (aCell a 1 1))
  pre x := (r53 x.1 x.2.1 x.2.2.1 x.2.2.2.1 x.2.2.2.2.1 x.2.2.2.2.2.1 x.2.2.2.2.2.2.1 x.2.2.2.2.2.2.2).isSome = true
  res x := [.c (.d (.int .i64 ((r53 x.1 x.2.1 x.2.2.1 x.2.2.2.1 x.2.2.2.2.1 x.2.2.2.2.2.1 x.2.2.2.2.2.2.1 x.2.2.2.2.2.2.2).getD default)))]
  al := false
def tb53 : Fns := lk [(32, T32.sp), (41, T41.sp), (58, T58.sp), (81, T81.sp)]
theorem tb53_ok : FnsOk Tryz.prog tb53 := .cons f32 (.cons f41 (.cons f58 (.cons f81 (FnsOk.nil))))
theorem tb53_32 : tb53 32 = some T32.sp := rfl
theorem tb53_41 : tb53 41 = some T41.sp := rfl
theorem tb53_58 : tb53 58 = some T58.sp := rfl
theorem tb53_81 : tb53 81 = some T81.sp := rfl
theorem v53 : Valid Tryz.prog 53 T53.sp := by
  refine valid_t (fn := Tryz.f53) (n := 26) ty_ok tb53_ok Tryz.func53 rfl Tryz.ntmps53 ?_
  rintro ⟨a0_0, a0_1, a0_2, a0_3, a0_4, a0_5, a1_0, a1_1⟩ hx
  obtain ⟨r, hr⟩ := Option.isSome_iff_exists.1 (show (r53 a0_0 a0_1 a0_2 a0_3 a0_4 a0_5 a1_0 a1_1).isSome = true from hx)
  have hres : T53.res (a0_0, a0_1, a0_2, a0_3, a0_4, a0_5, a1_0, a1_1) = [.c (.d (.int .i64 r))] := by simp only [T53, hr, Option.getD_some]
  refine ⟨Nat.le_of_ble_eq_true rfl, fun stop S => ?_⟩
  rw [hres] at S
  unfold r53 at hr
  refine S.goB [] 1000 ?_
  simp (maxSteps := 10000000) only [go_sem, tb53_32, T32, tb53_41, T41, tb53_58, T58, tb53_81, T81, T53, Option.map_some, Int.reduceToNat, Nat.reduceEqDiff, Nat.reduceLT, Nat.reduceAdd, Nat.reduceMul, Nat.reduceSub, Nat.reduceLeDiff, reduceIte, reduceCtorEq, Tryz.results53]
  obtain ⟨v1, hv1, hr⟩ := of_bind0 hr
  obtain ⟨v2, hv2, hr⟩ := of_bind0 hr
  obtain ⟨v3, hv3, hr⟩ := of_bind0 hr
  obtain ⟨v4, hv4, hr⟩ := of_bind0 hr
  obtain ⟨v5, hv5, hr⟩ := of_bind0 hr
  try simp only [hv1, hv2, hv3, hv4, hv5, Option.getD_some, Option.isSome_some, true_and, and_assoc]
  repeat refine gA ?_
  obtain rfl := Option.some.inj hr
  (simp (maxDischargeDepth := 8) [go_sem])
theorem f53 : FnFact Tryz.prog 53 T53.sp := ⟨⟨Tryz.f53, Tryz.func53, by decide, rfl⟩, v53⟩

/- slices.Clone: by hand -/
def r68 (a0 : List (Int)) : Option (List (Int)) := if a0.length * 8 ≤ 140737488355328 ∧ a0.length ≤ 9223372036854775807 then some a0 else none
def T68 : TSpec (List (Int)) where
  enc x := [.c (encF 1 d_I x)]
  dec a := decF g_I (aCell a 0 0)
  pre x := (r68 x).isSome = true
  res x := [.c (.own (encF 1 d_I ((r68 x).getD default)))]
  al := false
theorem v68 : Valid Tryz.prog 68 T68.sp := by
  refine valid_t (fn := Tryz.f68) (n := 8) ty_ok FnsOk.nil Tryz.func68 rfl Tryz.ntmps68 ?_
  rintro a0 hx
  obtain ⟨r, hr⟩ := Option.isSome_iff_exists.1 (show (r68 a0).isSome = true from hx)
  have hres : T68.res a0 = [.c (.own (encF 1 d_I r))] := by simp only [T68, hr, Option.getD_some]
  refine ⟨Nat.le_of_ble_eq_true rfl, fun stop S => ?_⟩
  rw [hres] at S
  unfold r68 at hr
  obtain ⟨hg, hr⟩ := of_guard0 hr
  obtain rfl := Option.some.inj hr
  refine S.goB [1] 1000 ?_
  simp only [go_sem, T68, Option.map_some, Int.reduceToNat, Nat.reduceEqDiff, Nat.reduceLT, Nat.reduceAdd, Nat.reduceMul, Nat.reduceSub, Nat.reduceLeDiff, reduceIte, reduceCtorEq, Tryz.results68]
  refine S.eqnil 0 3 4 26 26 3 rfl rfl rfl rfl rfl rfl rfl rfl rfl rfl (by decide) (by decide) ?_
  intro b hb
  refine S.goB [] 1000 ?_
  simp only [go_sem, T68, Option.map_some, Int.reduceToNat, Nat.reduceEqDiff, Nat.reduceLT, Nat.reduceAdd, Nat.reduceMul, Nat.reduceSub, Nat.reduceLeDiff, reduceIte, reduceCtorEq, Tryz.results68]
  have hb' : b = true → a0.length = 0 := hb
  refine ⟨fun hc => ?_, fun hc => ?_⟩
  · simpa using hb' hc
  · refine ⟨by omega, by omega, ?_⟩
    (simp (maxDischargeDepth := 8) [go_sem])
theorem f68 : FnFact Tryz.prog 68 T68.sp := ⟨⟨Tryz.f68, Tryz.func68, by decide, rfl⟩, v68⟩

/- (martensite/heat.part).kelvin -/
def r70 (a0_0 : Int) (a0_1 : Int) (a0_2 : List (Int × Int)) (a0_3 : List ((List (Int × Int)))) (a0_4 : List (Int × Int)) (a0_5 : List ((List (Int × Int)))) (a1 : Int) : Option (Int × Int) :=
  (r94 a0_4 a1 1).bind fun v1 =>
   some (v1.1, v1.2)
def T70 : TSpec (Int × Int × (List (Int × Int)) × (List ((List (Int × Int)))) × (List (Int × Int)) × (List ((List (Int × Int)))) × Int) where
  enc x := [.agg [.int .i64 x.1, .int .i64 x.2.1, encF 2 d_II x.2.2.1, encF 1 d_LIIE x.2.2.2.1, encF 2 d_II x.2.2.2.2.1, encF 1 d_LIIE x.2.2.2.2.2.1], .c (.int .i64 x.2.2.2.2.2.2)]
  dec a := (dInt (aCell a 0 0), dInt (aCell a 0 1), decF g_II (aCell a 0 2), decF g_LIIE (aCell a 0 3), decF g_II (aCell a 0 4), decF g_LIIE (aCell a 0 5), dInt (aCell a 1 0))
  pre x := (r70 x.1 x.2.1 x.2.2.1 x.2.2.2.1 x.2.2.2.2.1 x.2.2.2.2.2.1 x.2.2.2.2.2.2).isSome = true
  res x := [.agg [.d (.int .i64 (((r70 x.1 x.2.1 x.2.2.1 x.2.2.2.1 x.2.2.2.2.1 x.2.2.2.2.2.1 x.2.2.2.2.2.2).getD default).1)), .d (.int .i64 (((r70 x.1 x.2.1 x.2.2.1 x.2.2.2.1 x.2.2.2.2.1 x.2.2.2.2.2.1 x.2.2.2.2.2.2).getD default).2))]]
  al := false
def tb70 : Fns := lk [(94, T94.sp)]
theorem tb70_ok : FnsOk Tryz.prog tb70 := .cons f94 (FnsOk.nil)
theorem tb70_94 : tb70 94 = some T94.sp := rfl
theorem v70 : Valid Tryz.prog 70 T70.sp := by
  refine valid_t (fn := Tryz.f70) (n := 10) ty_ok tb70_ok Tryz.func70 rfl Tryz.ntmps70 ?_
  rintro ⟨a0_0, a0_1, a0_2, a0_3, a0_4, a0_5, a1⟩ hx
  obtain ⟨r, hr⟩ := Option.isSome_iff_exists.1 (show (r70 a0_0 a0_1 a0_2 a0_3 a0_4 a0_5 a1).isSome = true from hx)
  have hres : T70.res (a0_0, a0_1, a0_2, a0_3, a0_4, a0_5, a1) = [.agg [.d (.int .i64 r.1), .d (.int .i64 r.2)]] := by simp only [T70, hr, Option.getD_some]
  refine ⟨Nat.le_of_ble_eq_true rfl, fun stop S => ?_⟩
  rw [hres] at S
  unfold r70 at hr
  refine S.goB [] 1000 ?_
  simp (maxSteps := 10000000) only [go_sem, tb70_94, T94, T70, Option.map_some, Int.reduceToNat, Nat.reduceEqDiff, Nat.reduceLT, Nat.reduceAdd, Nat.reduceMul, Nat.reduceSub, Nat.reduceLeDiff, reduceIte, reduceCtorEq, Tryz.results70]
  obtain ⟨v1, hv1, hr⟩ := of_bind0 hr
  try simp only [hv1, Option.getD_some, Option.isSome_some, true_and, and_assoc]
  repeat refine gA ?_
  obtain rfl := Option.some.inj hr
  (simp (maxDischargeDepth := 8) [go_sem])
theorem f70 : FnFact Tryz.prog 70 T70.sp := ⟨⟨Tryz.f70, Tryz.func70, by decide, rfl⟩, v70⟩

/- martensite/heat.floor -/
def r100 (a0 : Int) (a1 : Int) : Option (Int) :=
  if a1 ≠ 0 then
   if a1 ≠ 0 then
    if (decide ((a0.tmod a1) < 0)) = true then
     some (IntKind.i64.wrap ((IntKind.i64.wrap (a0.tdiv a1)) - 1))
     else some (IntKind.i64.wrap (a0.tdiv a1))
    else none
   else none
def T100 : TSpec (Int × Int) where
  enc x := [.c (.int .i64 x.1), .c (.int .i64 x.2)]
  dec a := (dInt (aCell a 0 0), dInt (aCell a 1 0))
  pre x := (r100 x.1 x.2).isSome = true
  res x := [.c (.d (.int .i64 ((r100 x.1 x.2).getD default)))]
  al := false
def tb100 : Fns := lk []
theorem tb100_ok : FnsOk Tryz.prog tb100 := FnsOk.nil
theorem v100 : Valid Tryz.prog 100 T100.sp := by
  refine valid_t (fn := Tryz.f100) (n := 16) ty_ok tb100_ok Tryz.func100 rfl Tryz.ntmps100 ?_
  rintro ⟨a0, a1⟩ hx
  obtain ⟨r, hr⟩ := Option.isSome_iff_exists.1 (show (r100 a0 a1).isSome = true from hx)
  have hres : T100.res (a0, a1) = [.c (.d (.int .i64 r))] := by simp only [T100, hr, Option.getD_some]
  refine ⟨Nat.le_of_ble_eq_true rfl, fun stop S => ?_⟩
  rw [hres] at S
  unfold r100 at hr
  refine S.goB [] 1000 ?_
  simp (maxSteps := 10000000) only [go_sem, T100, Option.map_some, Int.reduceToNat, Nat.reduceEqDiff, Nat.reduceLT, Nat.reduceAdd, Nat.reduceMul, Nat.reduceSub, Nat.reduceLeDiff, reduceIte, reduceCtorEq, Tryz.results100]
  obtain ⟨hg1, hr⟩ := of_guard0 hr
  obtain ⟨hg2, hr⟩ := of_guard0 hr
  repeat refine gA ?_
  refine ⟨fun hc => ?_, fun hc => ?_⟩
  · replace hr := ifP hr hc
    repeat refine gA ?_
    obtain rfl := Option.some.inj hr
    (simp (maxDischargeDepth := 8) [go_sem])
  · replace hr := ifN hr hc
    repeat refine gA ?_
    obtain rfl := Option.some.inj hr
    (simp (maxDischargeDepth := 8) [go_sem])
theorem f100 : FnFact Tryz.prog 100 T100.sp := ⟨⟨Tryz.f100, Tryz.func100, by decide, rfl⟩, v100⟩

/- (martensite/heat.part).loss -/
def r83 (a0_0 : Int) (a0_1 : Int) (a0_2 : List (Int × Int)) (a0_3 : List ((List (Int × Int)))) (a0_4 : List (Int × Int)) (a0_5 : List ((List (Int × Int)))) (a1 : Int) (a2 : Int) : Option (Int) :=
  if 0 ≤ a1 ∧ a1 < (a0_5.length : Int) then
   (r70 a0_0 a0_1 a0_2 a0_3 a0_4 a0_5 a2).bind fun v1 =>
    (r94 (a0_5.getD a1.toNat default) v1.1 v1.2).bind fun v2 =>
     (r100 v2.1 v2.2).bind fun v3 =>
      some v3
   else none
def T83 : TSpec (Int × Int × (List (Int × Int)) × (List ((List (Int × Int)))) × (List (Int × Int)) × (List ((List (Int × Int)))) × Int × Int) where
  enc x := [.agg [.int .i64 x.1, .int .i64 x.2.1, encF 2 d_II x.2.2.1, encF 1 d_LIIE x.2.2.2.1, encF 2 d_II x.2.2.2.2.1, encF 1 d_LIIE x.2.2.2.2.2.1], .c (.int .i64 x.2.2.2.2.2.2.1), .c (.int .i64 x.2.2.2.2.2.2.2)]
  dec a := (dInt (aCell a 0 0), dInt (aCell a 0 1), decF g_II (aCell a 0 2), decF g_LIIE (aCell a 0 3), decF g_II (aCell a 0 4), decF g_LIIE (aCell a 0 5), dInt (aCell a 1 0), dInt (aCell a 2 0))
  pre x := (r83 x.1 x.2.1 x.2.2.1 x.2.2.2.1 x.2.2.2.2.1 x.2.2.2.2.2.1 x.2.2.2.2.2.2.1 x.2.2.2.2.2.2.2).isSome = true
  res x := [.c (.d (.int .i64 ((r83 x.1 x.2.1 x.2.2.1 x.2.2.2.1 x.2.2.2.2.1 x.2.2.2.2.2.1 x.2.2.2.2.2.2.1 x.2.2.2.2.2.2.2).getD default)))]
  al := false
def tb83 : Fns := lk [(70, T70.sp), (94, T94.sp), (100, T100.sp)]
theorem tb83_ok : FnsOk Tryz.prog tb83 := .cons f70 (.cons f94 (.cons f100 (FnsOk.nil)))
theorem tb83_70 : tb83 70 = some T70.sp := rfl
theorem tb83_94 : tb83 94 = some T94.sp := rfl
theorem tb83_100 : tb83 100 = some T100.sp := rfl
theorem v83 : Valid Tryz.prog 83 T83.sp := by
  refine valid_t (fn := Tryz.f83) (n := 22) ty_ok tb83_ok Tryz.func83 rfl Tryz.ntmps83 ?_
  rintro ⟨a0_0, a0_1, a0_2, a0_3, a0_4, a0_5, a1, a2⟩ hx
  obtain ⟨r, hr⟩ := Option.isSome_iff_exists.1 (show (r83 a0_0 a0_1 a0_2 a0_3 a0_4 a0_5 a1 a2).isSome = true from hx)
  have hres : T83.res (a0_0, a0_1, a0_2, a0_3, a0_4, a0_5, a1, a2) = [.c (.d (.int .i64 r))] := by simp only [T83, hr, Option.getD_some]
  refine ⟨Nat.le_of_ble_eq_true rfl, fun stop S => ?_⟩
  rw [hres] at S
  unfold r83 at hr
  refine S.goB [] 1000 ?_
  simp (maxSteps := 10000000) only [go_sem, tb83_70, T70, tb83_94, T94, tb83_100, T100, T83, Option.map_some, Int.reduceToNat, Nat.reduceEqDiff, Nat.reduceLT, Nat.reduceAdd, Nat.reduceMul, Nat.reduceSub, Nat.reduceLeDiff, reduceIte, reduceCtorEq, Tryz.results83]
  obtain ⟨hg4, hr⟩ := of_guard0 hr
  obtain ⟨v1, hv1, hr⟩ := of_bind0 hr
  obtain ⟨v2, hv2, hr⟩ := of_bind0 hr
  obtain ⟨v3, hv3, hr⟩ := of_bind0 hr
  try simp only [hv1, hv2, hv3, Option.getD_some, Option.isSome_some, true_and, and_assoc]
  repeat refine gA ?_
  obtain rfl := Option.some.inj hr
  (simp (maxDischargeDepth := 8) [go_sem])
theorem f83 : FnFact Tryz.prog 83 T83.sp := ⟨⟨Tryz.f83, Tryz.func83, by decide, rfl⟩, v83⟩
end Go.Proofs.YtcbiiijnaeibhaaGreat

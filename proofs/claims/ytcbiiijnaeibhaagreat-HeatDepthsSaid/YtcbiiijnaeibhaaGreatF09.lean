/- Contracts of functions, written by wip/dec. -/
import Derived.Test.YtcbiiijnaeibhaaGreatF00
import Derived.Test.YtcbiiijnaeibhaaGreatF06
import Derived.Test.YtcbiiijnaeibhaaGreatF07
import Derived.Test.YtcbiiijnaeibhaaGreatF08
set_option linter.unusedVariables false
set_option linter.unusedSimpArgs false
set_option maxHeartbeats 4000000
set_option maxRecDepth 20000
namespace Go.Proofs.YtcbiiijnaeibhaaGreat
open Go.Abs
/- martensite/martensiteref03.Depths -/
def b20_1 (a0_0 : Int) (a0_1 : Int) (a0_2 : List (Int × Int)) (a0_3 : List ((List (Int × Int)))) (a2_1 : Int) (v1 : (List ((List (Int)) × (List (Int)))) × Bool) : (Int × (List (Int)) × (List (Int))) → Ctl (Int × (List (Int)) × (List (Int))) (Int × Int × Bool) := fun s1 =>
  if (decide (s1.1 < (v1.1.length : Int))) = true then
   if 0 ≤ s1.1 ∧ s1.1 < (v1.1.length : Int) then
    bindC (r50 s1.2.1 ((v1.1.getD s1.1.toNat default).1)) fun v4 =>
     if 0 ≤ s1.1 ∧ s1.1 < (v1.1.length : Int) then
      bindC (r50 s1.2.2 ((v1.1.getD s1.1.toNat default).2)) fun v5 =>
       .next (IntKind.i64.wrap (s1.1 + 1), v4, v5)
      else .out none
    else .out none
   else .out ((r17 a0_0 a0_1 a0_2 a0_3 s1.2.1 a2_1).bind fun v8 =>
    (r17 a0_0 a0_1 a0_2 a0_3 s1.2.2 a2_1).bind fun v9 =>
     some (v8, v9, true))
def r20 (a0_0 : Int) (a0_1 : Int) (a0_2 : List (Int × Int)) (a0_3 : List ((List (Int × Int)))) (a1_0 : List (Int)) (a1_1 : List (Int)) (a2_0 : List ((List (Int × Int)) × Int × Int)) (a2_1 : Int) : Option (Int × Int × Bool) :=
  (r49 a0_0 a0_1 a0_2 a0_3 a1_0 a1_1 a2_0).bind fun v1 =>
   if (!v1.2) = true then
    some (0, 0, false)
    else (r10 a1_0).bind fun v2 =>
     (r10 a1_1).bind fun v3 =>
      iterC (b20_1 a0_0 a0_1 a0_2 a0_3 a2_1 v1) 1000000000 (0, v2, v3)
def T20 : TSpec (Int × Int × (List (Int × Int)) × (List ((List (Int × Int)))) × (List (Int)) × (List (Int)) × (List ((List (Int × Int)) × Int × Int)) × Int) where
  enc x := [.agg [.int .i64 x.1, .int .i64 x.2.1, encF 2 d_II x.2.2.1, encF 1 d_LIIE x.2.2.2.1], .agg [encF 1 d_I x.2.2.2.2.1, encF 1 d_I x.2.2.2.2.2.1], .agg [encF 3 d_LIIEII x.2.2.2.2.2.2.1, .int .i64 x.2.2.2.2.2.2.2]]
  dec a := (dInt (aCell a 0 0), dInt (aCell a 0 1), decF g_II (aCell a 0 2), decF g_LIIE (aCell a 0 3), decF g_I (aCell a 1 0), decF g_I (aCell a 1 1), decF g_LIIEII (aCell a 2 0), dInt (aCell a 2 1))
  pre x := (r20 x.1 x.2.1 x.2.2.1 x.2.2.2.1 x.2.2.2.2.1 x.2.2.2.2.2.1 x.2.2.2.2.2.2.1 x.2.2.2.2.2.2.2).isSome = true
  res x := [.agg [.d (.int .i64 (((r20 x.1 x.2.1 x.2.2.1 x.2.2.2.1 x.2.2.2.2.1 x.2.2.2.2.2.1 x.2.2.2.2.2.2.1 x.2.2.2.2.2.2.2).getD default).1)), .d (.int .i64 (((r20 x.1 x.2.1 x.2.2.1 x.2.2.2.1 x.2.2.2.2.1 x.2.2.2.2.2.1 x.2.2.2.2.2.2.1 x.2.2.2.2.2.2.2).getD default).2.1))], .c (.d (.bool (((r20 x.1 x.2.1 x.2.2.1 x.2.2.2.1 x.2.2.2.2.1 x.2.2.2.2.2.1 x.2.2.2.2.2.2.1 x.2.2.2.2.2.2.2).getD default).2.2)))]
  al := false
def tb20 : Fns := lk [(10, T10.sp), (17, T17.sp), (49, T49.sp), (50, T50.sp)]
theorem tb20_ok : FnsOk Tryz.prog tb20 := .cons f10 (.cons f17 (.cons f49 (.cons f50 (FnsOk.nil))))
theorem tb20_10 : tb20 10 = some T10.sp := rfl
theorem tb20_17 : tb20 17 = some T17.sp := rfl
theorem tb20_49 : tb20 49 = some T49.sp := rfl
theorem tb20_50 : tb20 50 = some T50.sp := rfl
theorem v20 : Valid Tryz.prog 20 T20.sp := by
  refine valid_t (fn := Tryz.f20) (n := 61) ty_ok tb20_ok Tryz.func20 rfl Tryz.ntmps20 ?_
  rintro ⟨a0_0, a0_1, a0_2, a0_3, a1_0, a1_1, a2_0, a2_1⟩ hx
  obtain ⟨r, hr⟩ := Option.isSome_iff_exists.1 (show (r20 a0_0 a0_1 a0_2 a0_3 a1_0 a1_1 a2_0 a2_1).isSome = true from hx)
  have hres : T20.res (a0_0, a0_1, a0_2, a0_3, a1_0, a1_1, a2_0, a2_1) = [.agg [.d (.int .i64 r.1), .d (.int .i64 r.2.1)], .c (.d (.bool r.2.2))] := by simp only [T20, hr, Option.getD_some]
  refine ⟨Nat.le_of_ble_eq_true rfl, fun stop S => ?_⟩
  rw [hres] at S
  unfold r20 at hr
  refine S.goB [] 1000 ?_
  simp (maxSteps := 10000000) only [go_sem, tb20_10, T10, tb20_17, T17, tb20_49, T49, tb20_50, T50, T20, Option.map_some, Int.reduceToNat, Nat.reduceEqDiff, Nat.reduceLT, Nat.reduceAdd, Nat.reduceMul, Nat.reduceSub, Nat.reduceLeDiff, reduceIte, reduceCtorEq, Tryz.results20]
  obtain ⟨v1, hv1, hr⟩ := of_bind0 hr
  try simp only [hv1, Option.getD_some, Option.isSome_some, true_and, and_assoc]
  repeat refine gA ?_
  refine ⟨fun hc => ?_, fun hc => ?_⟩
  · replace hr := ifP hr hc
    repeat refine gA ?_
    obtain rfl := Option.some.inj hr
    (simp (maxDischargeDepth := 8) [go_sem])
  · replace hr := ifN hr hc
    obtain ⟨v2, hv2, hr⟩ := of_bind0 hr
    obtain ⟨v3, hv3, hr⟩ := of_bind0 hr
    try simp only [hv2, hv3, Option.getD_some, Option.isSome_some, true_and, and_assoc]
    repeat refine gA ?_
    refine S.sees [3, 5, 6, 8, 10, 11, 12] [(3, 3), (5, 5), (6, 6)] [(18, 18), (26, 26), (29, 29)] ?_ (Stop.iter S (fun s1 => ⟨[(3, .c (.ref 3 0)), (5, .c (.ref 5 0)), (6, .c (.ref 6 0)), (8, .c (.own 18)), (10, .c (.own 26)), (11, .c (.own 29)), (12, .c (.d (.int .i64 s1.1)))], [(3, [.d (.int .i64 a0_0), .d (.int .i64 a0_1), .d (encF 2 d_II a0_2), .d (encF 1 d_LIIE a0_3)]), (5, [.d (encF 3 d_LIIEII a2_0), .d (.int .i64 a2_1)]), (6, [.d (.int .i64 0), .d (.int .i64 0)])], [(18, .owned (encF 2 d_LIELIE v1.1)), (26, .owned (encF 1 d_I s1.2.1)), (29, .owned (encF 1 d_I s1.2.2))]⟩) (b20_1 a0_0 a0_1 a0_2 a0_3 a2_1 v1) (fun q => q = r) hr rfl ?_)
    · (simp (maxDischargeDepth := 8) [go_sem])
    · intro s1 hr
      unfold b20_1 at hr
      refine S.goB [] 1000 ?_
      simp (maxSteps := 10000000) only [go_sem, tb20_10, T10, tb20_17, T17, tb20_49, T49, tb20_50, T50, T20, Option.map_some, Int.reduceToNat, Nat.reduceEqDiff, Nat.reduceLT, Nat.reduceAdd, Nat.reduceMul, Nat.reduceSub, Nat.reduceLeDiff, reduceIte, reduceCtorEq, Tryz.results20]
      repeat refine gA ?_
      refine ⟨fun hc => ?_, fun hc => ?_⟩
      · replace hr := ifP1 hr hc
        obtain ⟨hg6, hr⟩ := of_guard1 hr
        obtain ⟨v4, hv4, hr⟩ := of_bind1 hr
        obtain ⟨hg7, hr⟩ := of_guard1 hr
        obtain ⟨v5, hv5, hr⟩ := of_bind1 hr
        try simp only [hv4, hv5, Option.getD_some, Option.isSome_some, true_and, and_assoc]
        repeat refine gA ?_
        refine S.sees [3, 5, 6, 8, 10, 11, 12] [(3, 3), (5, 5), (6, 6)] [(18, 18), (42, 26), (49, 29)] ?_ hr
        (simp (maxDischargeDepth := 8) [go_sem])
      · replace hr := ifN1 hr hc
        repeat refine gA ?_
        have hr := of_out0 hr
        obtain ⟨v8, hv8, hr⟩ := of_bind0 hr
        obtain ⟨v9, hv9, hr⟩ := of_bind0 hr
        try simp only [hv8, hv9, Option.getD_some, Option.isSome_some, true_and, and_assoc]
        repeat refine gA ?_
        obtain rfl := Option.some.inj hr
        (simp (maxDischargeDepth := 8) [go_sem])
theorem f20 : FnFact Tryz.prog 20 T20.sp := ⟨⟨Tryz.f20, Tryz.func20, by decide, rfl⟩, v20⟩

/- martensite/martensiteref03.IsHotter -/
def r51 (a0_0 : Int) (a0_1 : Int) (a0_2 : List (Int × Int)) (a0_3 : List ((List (Int × Int)))) (a1 : Int) (a2 : Int) : Option (Bool) :=
  (r75 a0_0 a0_1 a0_2 a0_3 a1).bind fun v1 =>
   some (decide (v1.1 > (IntKind.i64.wrap (a2 * v1.2))))
def T51 : TSpec (Int × Int × (List (Int × Int)) × (List ((List (Int × Int)))) × Int × Int) where
  enc x := [.agg [.int .i64 x.1, .int .i64 x.2.1, encF 2 d_II x.2.2.1, encF 1 d_LIIE x.2.2.2.1], .c (.int .i64 x.2.2.2.2.1), .c (.int .i64 x.2.2.2.2.2)]
  dec a := (dInt (aCell a 0 0), dInt (aCell a 0 1), decF g_II (aCell a 0 2), decF g_LIIE (aCell a 0 3), dInt (aCell a 1 0), dInt (aCell a 2 0))
  pre x := (r51 x.1 x.2.1 x.2.2.1 x.2.2.2.1 x.2.2.2.2.1 x.2.2.2.2.2).isSome = true
  res x := [.c (.d (.bool ((r51 x.1 x.2.1 x.2.2.1 x.2.2.2.1 x.2.2.2.2.1 x.2.2.2.2.2).getD default)))]
  al := false
def tb51 : Fns := lk [(75, T75.sp)]
theorem tb51_ok : FnsOk Tryz.prog tb51 := .cons f75 (FnsOk.nil)
theorem tb51_75 : tb51 75 = some T75.sp := rfl
theorem v51 : Valid Tryz.prog 51 T51.sp := by
  refine valid_t (fn := Tryz.f51) (n := 20) ty_ok tb51_ok Tryz.func51 rfl Tryz.ntmps51 ?_
  rintro ⟨a0_0, a0_1, a0_2, a0_3, a1, a2⟩ hx
  obtain ⟨r, hr⟩ := Option.isSome_iff_exists.1 (show (r51 a0_0 a0_1 a0_2 a0_3 a1 a2).isSome = true from hx)
  have hres : T51.res (a0_0, a0_1, a0_2, a0_3, a1, a2) = [.c (.d (.bool r))] := by simp only [T51, hr, Option.getD_some]
  refine ⟨Nat.le_of_ble_eq_true rfl, fun stop S => ?_⟩
  rw [hres] at S
  unfold r51 at hr
  refine S.goB [] 1000 ?_
  simp (maxSteps := 10000000) only [go_sem, tb51_75, T75, T51, Option.map_some, Int.reduceToNat, Nat.reduceEqDiff, Nat.reduceLT, Nat.reduceAdd, Nat.reduceMul, Nat.reduceSub, Nat.reduceLeDiff, reduceIte, reduceCtorEq, Tryz.results51]
  obtain ⟨v1, hv1, hr⟩ := of_bind0 hr
  try simp only [hv1, Option.getD_some, Option.isSome_some, true_and, and_assoc]
  repeat refine gA ?_
  obtain rfl := Option.some.inj hr
  (simp (maxDischargeDepth := 8) [go_sem])
theorem f51 : FnFact Tryz.prog 51 T51.sp := ⟨⟨Tryz.f51, Tryz.func51, by decide, rfl⟩, v51⟩

/- martensite/martensiteref03.Beyond -/
def b21_2 (a0_0 : Int) (a0_1 : Int) (a0_2 : List (Int × Int)) (a0_3 : List ((List (Int × Int)))) (a2_0 : List ((List (Int × Int)) × Int × Int)) (a2_1 : Int) (s1 : Int × (List (Int)) × (List (Int))) : (Int) → Ctl (Int) (Ctl (Int × (List (Int)) × (List (Int))) (Int × Int)) := fun s2 =>
  if (decide (s2 < (s1.2.2.length : Int))) = true then
   if 0 ≤ s2 ∧ s2 < (s1.2.2.length : Int) then
    bindC (r51 a0_0 a0_1 a0_2 a0_3 (s1.2.2.getD s2.toNat default) a2_1) fun v1 =>
     if v1 = true then
      .out (some (.out (some (s1.1, 0))))
      else .next (IntKind.i64.wrap (s2 + 1))
    else .out none
   else .out (some (if (s1.1 == (a2_0.length : Int)) = true then
    .out (some (0, 12))
    else if 0 ≤ s1.1 ∧ s1.1 < (a2_0.length : Int) then
     bindC (r52 a0_0 a0_1 a0_2 a0_3 s1.2.1 s1.2.2 ((a2_0.getD s1.1.toNat default).1) ((a2_0.getD s1.1.toNat default).2.1) ((a2_0.getD s1.1.toNat default).2.2)) fun v3 =>
      if (!v3.2.2) = true then
       .out (some (0, 22))
       else .next (IntKind.i64.wrap (s1.1 + 1), v3.1, v3.2.1)
     else .out none))
def b21_1 (a0_0 : Int) (a0_1 : Int) (a0_2 : List (Int × Int)) (a0_3 : List ((List (Int × Int)))) (a2_0 : List ((List (Int × Int)) × Int × Int)) (a2_1 : Int) : (Int × (List (Int)) × (List (Int))) → Ctl (Int × (List (Int)) × (List (Int))) (Int × Int) := fun s1 =>
  (iterC (b21_2 a0_0 a0_1 a0_2 a0_3 a2_0 a2_1 s1) 1000000000 0).getD (.out none)
def r21 (a0_0 : Int) (a0_1 : Int) (a0_2 : List (Int × Int)) (a0_3 : List ((List (Int × Int)))) (a1_0 : List (Int)) (a1_1 : List (Int)) (a2_0 : List ((List (Int × Int)) × Int × Int)) (a2_1 : Int) : Option (Int × Int) :=
  iterC (b21_1 a0_0 a0_1 a0_2 a0_3 a2_0 a2_1) 1000000000 (0, a1_0, a1_1)
def T21 : TSpec (Int × Int × (List (Int × Int)) × (List ((List (Int × Int)))) × (List (Int)) × (List (Int)) × (List ((List (Int × Int)) × Int × Int)) × Int) where
  enc x := [.agg [.int .i64 x.1, .int .i64 x.2.1, encF 2 d_II x.2.2.1, encF 1 d_LIIE x.2.2.2.1], .agg [encF 1 d_I x.2.2.2.2.1, encF 1 d_I x.2.2.2.2.2.1], .agg [encF 3 d_LIIEII x.2.2.2.2.2.2.1, .int .i64 x.2.2.2.2.2.2.2]]
  dec a := (dInt (aCell a 0 0), dInt (aCell a 0 1), decF g_II (aCell a 0 2), decF g_LIIE (aCell a 0 3), decF g_I (aCell a 1 0), decF g_I (aCell a 1 1), decF g_LIIEII (aCell a 2 0), dInt (aCell a 2 1))
  pre x := (r21 x.1 x.2.1 x.2.2.1 x.2.2.2.1 x.2.2.2.2.1 x.2.2.2.2.2.1 x.2.2.2.2.2.2.1 x.2.2.2.2.2.2.2).isSome = true
  res x := [.c (.d (.int .i64 (((r21 x.1 x.2.1 x.2.2.1 x.2.2.2.1 x.2.2.2.2.1 x.2.2.2.2.2.1 x.2.2.2.2.2.2.1 x.2.2.2.2.2.2.2).getD default).1))), .c (.d (.int .i64 (((r21 x.1 x.2.1 x.2.2.1 x.2.2.2.1 x.2.2.2.2.1 x.2.2.2.2.2.1 x.2.2.2.2.2.2.1 x.2.2.2.2.2.2.2).getD default).2)))]
  al := false
def tb21 : Fns := lk [(51, T51.sp), (52, T52.sp)]
theorem tb21_ok : FnsOk Tryz.prog tb21 := .cons f51 (.cons f52 (FnsOk.nil))
theorem tb21_51 : tb21 51 = some T51.sp := rfl
theorem tb21_52 : tb21 52 = some T52.sp := rfl
theorem v21 : Valid Tryz.prog 21 T21.sp := by
  refine valid_t (fn := Tryz.f21) (n := 50) ty_ok tb21_ok Tryz.func21 rfl Tryz.ntmps21 ?_
  rintro ⟨a0_0, a0_1, a0_2, a0_3, a1_0, a1_1, a2_0, a2_1⟩ hx
  obtain ⟨r, hr⟩ := Option.isSome_iff_exists.1 (show (r21 a0_0 a0_1 a0_2 a0_3 a1_0 a1_1 a2_0 a2_1).isSome = true from hx)
  have hres : T21.res (a0_0, a0_1, a0_2, a0_3, a1_0, a1_1, a2_0, a2_1) = [.c (.d (.int .i64 r.1)), .c (.d (.int .i64 r.2))] := by simp only [T21, hr, Option.getD_some]
  refine ⟨Nat.le_of_ble_eq_true rfl, fun stop S => ?_⟩
  rw [hres] at S
  unfold r21 at hr
  refine S.goB [] 1000 ?_
  simp (maxSteps := 10000000) only [go_sem, tb21_51, T51, tb21_52, T52, T21, Option.map_some, Int.reduceToNat, Nat.reduceEqDiff, Nat.reduceLT, Nat.reduceAdd, Nat.reduceMul, Nat.reduceSub, Nat.reduceLeDiff, reduceIte, reduceCtorEq, Tryz.results21]
  repeat refine gA ?_
  refine S.sees [3, 4, 5, 8] [(3, 3), (4, 4), (5, 5)] [] ?_ (Stop.iter S (fun s1 => ⟨[(3, .c (.ref 3 0)), (4, .c (.ref 4 0)), (5, .c (.ref 5 0)), (8, .c (.d (.int .i64 s1.1)))], [(3, [.d (.int .i64 a0_0), .d (.int .i64 a0_1), .d (encF 2 d_II a0_2), .d (encF 1 d_LIIE a0_3)]), (4, [.d (encF 1 d_I s1.2.1), .d (encF 1 d_I s1.2.2)]), (5, [.d (encF 3 d_LIIEII a2_0), .d (.int .i64 a2_1)])], []⟩) (b21_1 a0_0 a0_1 a0_2 a0_3 a2_0 a2_1) (fun q => q = r) hr rfl ?_)
  · (simp (maxDischargeDepth := 8) [go_sem])
  · intro s1 hr
    unfold b21_1 at hr
    refine S.goB [] 1000 ?_
    simp (maxSteps := 10000000) only [go_sem, tb21_51, T51, tb21_52, T52, T21, Option.map_some, Int.reduceToNat, Nat.reduceEqDiff, Nat.reduceLT, Nat.reduceAdd, Nat.reduceMul, Nat.reduceSub, Nat.reduceLeDiff, reduceIte, reduceCtorEq, Tryz.results21]
    repeat refine gA ?_
    obtain ⟨q2, hq, hr⟩ := of_iter1 hr
    refine S.sees [3, 4, 5, 8, 9] [(3, 3), (4, 4), (5, 5)] [] ?_ (Stop.iter S (fun s2 => ⟨[(3, .c (.ref 3 0)), (4, .c (.ref 4 0)), (5, .c (.ref 5 0)), (8, .c (.d (.int .i64 s1.1))), (9, .c (.d (.int .i64 s2)))], [(3, [.d (.int .i64 a0_0), .d (.int .i64 a0_1), .d (encF 2 d_II a0_2), .d (encF 1 d_LIIE a0_3)]), (4, [.d (encF 1 d_I s1.2.1), .d (encF 1 d_I s1.2.2)]), (5, [.d (encF 3 d_LIIEII a2_0), .d (.int .i64 a2_1)])], []⟩) (b21_2 a0_0 a0_1 a0_2 a0_3 a2_0 a2_1 s1) _ hq hr ?_)
    · (simp (maxDischargeDepth := 8) [go_sem])
    · intro s2 hr
      unfold b21_2 at hr
      refine S.goB [] 1000 ?_
      simp (maxSteps := 10000000) only [go_sem, tb21_51, T51, tb21_52, T52, T21, Option.map_some, Int.reduceToNat, Nat.reduceEqDiff, Nat.reduceLT, Nat.reduceAdd, Nat.reduceMul, Nat.reduceSub, Nat.reduceLeDiff, reduceIte, reduceCtorEq, Tryz.results21]
      repeat refine gA ?_
      refine ⟨fun hc => ?_, fun hc => ?_⟩
      · replace hr := ifP1 hr hc
        obtain ⟨hg2, hr⟩ := of_guard1 hr
        obtain ⟨v1, hv1, hr⟩ := of_bind1 hr
        try simp only [hv1, Option.getD_some, Option.isSome_some, true_and, and_assoc]
        repeat refine gA ?_
        refine ⟨fun hc => ?_, fun hc => ?_⟩
        · replace hr := ifP1 hr hc
          repeat refine gA ?_
          replace hr := goodC_out hr
          have hr := of_out0 hr
          obtain rfl := Option.some.inj hr
          (simp (maxDischargeDepth := 8) [go_sem])
        · replace hr := ifN1 hr hc
          repeat refine gA ?_
          refine S.sees [3, 4, 5, 8, 9] [(3, 3), (4, 4), (5, 5)] [] ?_ hr
          (simp (maxDischargeDepth := 8) [go_sem])
      · replace hr := ifN1 hr hc
        repeat refine gA ?_
        replace hr := goodC_out hr
        repeat refine gA ?_
        refine ⟨fun hc => ?_, fun hc => ?_⟩
        · replace hr := ifP1 hr hc
          repeat refine gA ?_
          have hr := of_out0 hr
          obtain rfl := Option.some.inj hr
          (simp (maxDischargeDepth := 8) [go_sem])
        · replace hr := ifN1 hr hc
          obtain ⟨hg4, hr⟩ := of_guard1 hr
          obtain ⟨v3, hv3, hr⟩ := of_bind1 hr
          try simp only [hv3, Option.getD_some, Option.isSome_some, true_and, and_assoc]
          repeat refine gA ?_
          refine ⟨fun hc => ?_, fun hc => ?_⟩
          · replace hr := ifP1 hr hc
            repeat refine gA ?_
            have hr := of_out0 hr
            obtain rfl := Option.some.inj hr
            (simp (maxDischargeDepth := 8) [go_sem])
          · replace hr := ifN1 hr hc
            repeat refine gA ?_
            refine S.share 44 rfl ?_
            refine S.share 10044 rfl ?_
            refine S.sees [3, 4, 5, 8] [(3, 3), (4, 4), (5, 5)] [] ?_ hr
            (simp (maxDischargeDepth := 8) [go_sem])
theorem f21 : FnFact Tryz.prog 21 T21.sp := ⟨⟨Tryz.f21, Tryz.func21, by decide, rfl⟩, v21⟩
end Go.Proofs.YtcbiiijnaeibhaaGreat

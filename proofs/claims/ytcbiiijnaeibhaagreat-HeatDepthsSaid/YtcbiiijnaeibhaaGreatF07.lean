/- Contracts of functions, written by wip/dec. -/
import Derived.Test.YtcbiiijnaeibhaaGreatF00
import Derived.Test.YtcbiiijnaeibhaaGreatF03
import Derived.Test.YtcbiiijnaeibhaaGreatF06
set_option linter.unusedVariables false
set_option linter.unusedSimpArgs false
set_option maxHeartbeats 4000000
set_option maxRecDepth 20000
namespace Go.Proofs.YtcbiiijnaeibhaaGreat
open Go.Abs
/- slices.IndexFunc[[]int,int] -/
def b65e_1 (a0 : List (Int)) (a1_0_0 : Int) (a1_0_1 : Int) (a1_0_2 : List (Int × Int)) (a1_0_3 : List ((List (Int × Int)))) (a1_0_4 : List (Int × Int)) (a1_0_5 : List ((List (Int × Int)))) (a1_1_0 : List ((List (Int × Int)) × Int × Int)) (a1_1_1 : Int) : (Int) → Ctl (Int) (Int) := fun s1 =>
  if (decide (s1 < (a0.length : Int))) = true then
   if 0 ≤ s1 ∧ s1 < (a0.length : Int) then
    bindC (r39 (a0.getD s1.toNat default) a1_0_0 a1_0_1 a1_0_2 a1_0_3 a1_0_4 a1_0_5 a1_1_0 a1_1_1) fun v1 =>
     if v1 = true then
      .out (some s1)
      else .next (IntKind.i64.wrap (s1 + 1))
    else .out none
   else .out (some (-1))
def r65e (a0 : List (Int)) (a1_0_0 : Int) (a1_0_1 : Int) (a1_0_2 : List (Int × Int)) (a1_0_3 : List ((List (Int × Int)))) (a1_0_4 : List (Int × Int)) (a1_0_5 : List ((List (Int × Int)))) (a1_1_0 : List ((List (Int × Int)) × Int × Int)) (a1_1_1 : Int) : Option (Int) :=
  iterC (b65e_1 a0 a1_0_0 a1_0_1 a1_0_2 a1_0_3 a1_0_4 a1_0_5 a1_1_0 a1_1_1) 1000000000 0
def T65e : TSpec ((List (Int)) × Int × Int × (List (Int × Int)) × (List ((List (Int × Int)))) × (List (Int × Int)) × (List ((List (Int × Int)))) × (List ((List (Int × Int)) × Int × Int)) × Int) where
  enc x := [.c (encF 1 d_I x.1), .clo 39 [[.int .i64 x.2.1, .int .i64 x.2.2.1, encF 2 d_II x.2.2.2.1, encF 1 d_LIIE x.2.2.2.2.1, encF 2 d_II x.2.2.2.2.2.1, encF 1 d_LIIE x.2.2.2.2.2.2.1], [encF 3 d_LIIEII x.2.2.2.2.2.2.2.1, .int .i64 x.2.2.2.2.2.2.2.2]]]
  dec a := (decF g_I (aCell a 0 0), dInt (aCell a 1 0), dInt (aCell a 1 1), decF g_II (aCell a 1 2), decF g_LIIE (aCell a 1 3), decF g_II (aCell a 1 4), decF g_LIIE (aCell a 1 5), decF g_LIIEII (aCell a 1 6), dInt (aCell a 1 7))
  pre x := (r65e x.1 x.2.1 x.2.2.1 x.2.2.2.1 x.2.2.2.2.1 x.2.2.2.2.2.1 x.2.2.2.2.2.2.1 x.2.2.2.2.2.2.2.1 x.2.2.2.2.2.2.2.2).isSome = true
  res x := [.c (.d (.int .i64 ((r65e x.1 x.2.1 x.2.2.1 x.2.2.2.1 x.2.2.2.2.1 x.2.2.2.2.2.1 x.2.2.2.2.2.2.1 x.2.2.2.2.2.2.2.1 x.2.2.2.2.2.2.2.2).getD default)))]
  al := false
def tb65e : Fns := lk [(39, T39.sp)]
theorem tb65e_ok : FnsOk Tryz.prog tb65e := .cons f39 (FnsOk.nil)
theorem tb65e_39 : tb65e 39 = some T39.sp := rfl
theorem v65e : Valid Tryz.prog 65 T65e.sp := by
  refine valid_t (fn := Tryz.f65) (n := 19) ty_ok tb65e_ok Tryz.func65 rfl Tryz.ntmps65 ?_
  rintro ⟨a0, a1_0_0, a1_0_1, a1_0_2, a1_0_3, a1_0_4, a1_0_5, a1_1_0, a1_1_1⟩ hx
  obtain ⟨r, hr⟩ := Option.isSome_iff_exists.1 (show (r65e a0 a1_0_0 a1_0_1 a1_0_2 a1_0_3 a1_0_4 a1_0_5 a1_1_0 a1_1_1).isSome = true from hx)
  have hres : T65e.res (a0, a1_0_0, a1_0_1, a1_0_2, a1_0_3, a1_0_4, a1_0_5, a1_1_0, a1_1_1) = [.c (.d (.int .i64 r))] := by simp only [T65e, hr, Option.getD_some]
  refine ⟨Nat.le_of_ble_eq_true rfl, fun stop S => ?_⟩
  rw [hres] at S
  unfold r65e at hr
  refine S.goB [] 1000 ?_
  simp (maxSteps := 10000000) only [go_sem, tb65e_39, T39, T65e, Option.map_some, Int.reduceToNat, Nat.reduceEqDiff, Nat.reduceLT, Nat.reduceAdd, Nat.reduceMul, Nat.reduceSub, Nat.reduceLeDiff, reduceIte, reduceCtorEq, Tryz.results65]
  repeat refine gA ?_
  refine S.sees [0, 1, 7, 8] [] [] ?_ (Stop.iter S (fun s1 => ⟨[(0, .c (.d (encF 1 d_I a0))), (1, .c (.clo 39 [.sptr [.int .i64 a1_0_0, .int .i64 a1_0_1, encF 2 d_II a1_0_2, encF 1 d_LIIE a1_0_3, encF 2 d_II a1_0_4, encF 1 d_LIIE a1_0_5] 0, .sptr [encF 3 d_LIIEII a1_1_0, .int .i64 a1_1_1] 0])), (7, .c (.d (.int .i64 (a0.length : Int)))), (8, .c (.d (.int .i64 s1)))], [], []⟩) (b65e_1 a0 a1_0_0 a1_0_1 a1_0_2 a1_0_3 a1_0_4 a1_0_5 a1_1_0 a1_1_1) (fun q => q = r) hr rfl ?_)
  · (simp (maxDischargeDepth := 8) [go_sem])
  · intro s1 hr
    unfold b65e_1 at hr
    refine S.goB [] 1000 ?_
    simp (maxSteps := 10000000) only [go_sem, tb65e_39, T39, T65e, Option.map_some, Int.reduceToNat, Nat.reduceEqDiff, Nat.reduceLT, Nat.reduceAdd, Nat.reduceMul, Nat.reduceSub, Nat.reduceLeDiff, reduceIte, reduceCtorEq, Tryz.results65]
    repeat refine gA ?_
    refine ⟨fun hc => ?_, fun hc => ?_⟩
    · replace hr := ifP1 hr hc
      obtain ⟨hg2, hr⟩ := of_guard1 hr
      obtain ⟨v1, hv1, hr⟩ := of_bind1 hr
      try simp only [hv1, Option.getD_some, Option.isSome_some, true_and, and_assoc]
      repeat refine gA ?_
      refine ⟨fun hc => ?_, fun hc => ?_⟩
      · replace hr := ifP1 hr hc
        repeat refine gA ?_
        have hr := of_out0 hr
        obtain rfl := Option.some.inj hr
        (simp (maxDischargeDepth := 8) [go_sem])
      · replace hr := ifN1 hr hc
        repeat refine gA ?_
        refine S.sees [0, 1, 7, 8] [] [] ?_ hr
        (simp (maxDischargeDepth := 8) [go_sem])
    · replace hr := ifN1 hr hc
      repeat refine gA ?_
      have hr := of_out0 hr
      repeat refine gA ?_
      obtain rfl := Option.some.inj hr
      (simp (maxDischargeDepth := 8) [go_sem])
theorem f65e : FnFact Tryz.prog 65 T65e.sp := ⟨⟨Tryz.f65, Tryz.func65, by decide, rfl⟩, v65e⟩

/- slices.ContainsFunc[[]int,int] -/
def r41b (a0 : List (Int)) (a1_0_0 : Int) (a1_0_1 : Int) (a1_0_2 : List (Int × Int)) (a1_0_3 : List ((List (Int × Int)))) (a1_0_4 : List (Int × Int)) (a1_0_5 : List ((List (Int × Int)))) (a1_1_0 : List ((List (Int × Int)) × Int × Int)) (a1_1_1 : Int) : Option (Bool) :=
  (r65e a0 a1_0_0 a1_0_1 a1_0_2 a1_0_3 a1_0_4 a1_0_5 a1_1_0 a1_1_1).bind fun v1 =>
   some (decide (v1 ≥ 0))
def T41b : TSpec ((List (Int)) × Int × Int × (List (Int × Int)) × (List ((List (Int × Int)))) × (List (Int × Int)) × (List ((List (Int × Int)))) × (List ((List (Int × Int)) × Int × Int)) × Int) where
  enc x := [.c (encF 1 d_I x.1), .clo 39 [[.int .i64 x.2.1, .int .i64 x.2.2.1, encF 2 d_II x.2.2.2.1, encF 1 d_LIIE x.2.2.2.2.1, encF 2 d_II x.2.2.2.2.2.1, encF 1 d_LIIE x.2.2.2.2.2.2.1], [encF 3 d_LIIEII x.2.2.2.2.2.2.2.1, .int .i64 x.2.2.2.2.2.2.2.2]]]
  dec a := (decF g_I (aCell a 0 0), dInt (aCell a 1 0), dInt (aCell a 1 1), decF g_II (aCell a 1 2), decF g_LIIE (aCell a 1 3), decF g_II (aCell a 1 4), decF g_LIIE (aCell a 1 5), decF g_LIIEII (aCell a 1 6), dInt (aCell a 1 7))
  pre x := (r41b x.1 x.2.1 x.2.2.1 x.2.2.2.1 x.2.2.2.2.1 x.2.2.2.2.2.1 x.2.2.2.2.2.2.1 x.2.2.2.2.2.2.2.1 x.2.2.2.2.2.2.2.2).isSome = true
  res x := [.c (.d (.bool ((r41b x.1 x.2.1 x.2.2.1 x.2.2.2.1 x.2.2.2.2.1 x.2.2.2.2.2.1 x.2.2.2.2.2.2.1 x.2.2.2.2.2.2.2.1 x.2.2.2.2.2.2.2.2).getD default)))]
  al := false
def tb41b : Fns := lk [(65, T65e.sp)]
theorem tb41b_ok : FnsOk Tryz.prog tb41b := .cons f65e (FnsOk.nil)
theorem tb41b_65 : tb41b 65 = some T65e.sp := rfl
theorem v41b : Valid Tryz.prog 41 T41b.sp := by
  refine valid_t (fn := Tryz.f41) (n := 9) ty_ok tb41b_ok Tryz.func41 rfl Tryz.ntmps41 ?_
  rintro ⟨a0, a1_0_0, a1_0_1, a1_0_2, a1_0_3, a1_0_4, a1_0_5, a1_1_0, a1_1_1⟩ hx
  obtain ⟨r, hr⟩ := Option.isSome_iff_exists.1 (show (r41b a0 a1_0_0 a1_0_1 a1_0_2 a1_0_3 a1_0_4 a1_0_5 a1_1_0 a1_1_1).isSome = true from hx)
  have hres : T41b.res (a0, a1_0_0, a1_0_1, a1_0_2, a1_0_3, a1_0_4, a1_0_5, a1_1_0, a1_1_1) = [.c (.d (.bool r))] := by simp only [T41b, hr, Option.getD_some]
  refine ⟨Nat.le_of_ble_eq_true rfl, fun stop S => ?_⟩
  rw [hres] at S
  unfold r41b at hr
  refine S.goB [] 1000 ?_
  simp (maxSteps := 10000000) only [go_sem, tb41b_65, T65e, T41b, Option.map_some, Int.reduceToNat, Nat.reduceEqDiff, Nat.reduceLT, Nat.reduceAdd, Nat.reduceMul, Nat.reduceSub, Nat.reduceLeDiff, reduceIte, reduceCtorEq, Tryz.results41]
  obtain ⟨v1, hv1, hr⟩ := of_bind0 hr
  try simp only [hv1, Option.getD_some, Option.isSome_some, true_and, and_assoc]
  repeat refine gA ?_
  obtain rfl := Option.some.inj hr
  (simp (maxDischargeDepth := 8) [go_sem])
theorem f41b : FnFact Tryz.prog 41 T41b.sp := ⟨⟨Tryz.f41, Tryz.func41, by decide, rfl⟩, v41b⟩

/- martensite/heat.WithinLimit -/
def b14_1 (a2_0 : List ((List (Int × Int)) × Int × Int)) (a2_1 : Int) (v1 : Int × Int × (List (Int × Int)) × (List ((List (Int × Int)))) × (List (Int × Int)) × (List ((List (Int × Int)))) × Int) : (Int × (List (Int)) × (List (Int))) → Ctl (Int × (List (Int)) × (List (Int))) (Int × Int) := fun s1 =>
  bindC (r41b s1.2.2 v1.1 v1.2.1 v1.2.2.1 v1.2.2.2.1 v1.2.2.2.2.1 v1.2.2.2.2.2.1 a2_0 a2_1) fun v2 =>
   if v2 = true then
    .out (some (s1.1, 0))
    else if (s1.1 == (a2_0.length : Int)) = true then
     .out (some (0, 12))
     else if 0 ≤ s1.1 ∧ s1.1 < (a2_0.length : Int) then
      bindC (r42 v1.1 v1.2.1 v1.2.2.1 v1.2.2.2.1 v1.2.2.2.2.1 v1.2.2.2.2.2.1 s1.2.1 s1.2.2 ((a2_0.getD s1.1.toNat default).1) ((a2_0.getD s1.1.toNat default).2.1) ((a2_0.getD s1.1.toNat default).2.2)) fun v3 =>
       if (v3.2.2 != 0) = true then
        .out (some (0, v3.2.2))
        else .next (IntKind.i64.wrap (s1.1 + 1), v3.1, v3.2.1)
      else .out none
def r14 (a0_0 : Int) (a0_1 : Int) (a0_2 : List (Int × Int)) (a0_3 : List ((List (Int × Int)))) (a1_0 : List (Int)) (a1_1 : List (Int)) (a2_0 : List ((List (Int × Int)) × Int × Int)) (a2_1 : Int) : Option (Int × Int) :=
  (r35 a0_0 a0_1 a0_2 a0_3 a1_0 a1_1 a2_0 a2_1).bind fun v1 =>
   if (v1.2.2.2.2.2.2 != 0) = true then
    some (0, v1.2.2.2.2.2.2)
    else iterC (b14_1 a2_0 a2_1 v1) 1000000000 (0, a1_0, a1_1)
def T14 : TSpec (Int × Int × (List (Int × Int)) × (List ((List (Int × Int)))) × (List (Int)) × (List (Int)) × (List ((List (Int × Int)) × Int × Int)) × Int) where
  enc x := [.agg [.int .i64 x.1, .int .i64 x.2.1, encF 2 d_II x.2.2.1, encF 1 d_LIIE x.2.2.2.1], .agg [encF 1 d_I x.2.2.2.2.1, encF 1 d_I x.2.2.2.2.2.1], .agg [encF 3 d_LIIEII x.2.2.2.2.2.2.1, .int .i64 x.2.2.2.2.2.2.2]]
  dec a := (dInt (aCell a 0 0), dInt (aCell a 0 1), decF g_II (aCell a 0 2), decF g_LIIE (aCell a 0 3), decF g_I (aCell a 1 0), decF g_I (aCell a 1 1), decF g_LIIEII (aCell a 2 0), dInt (aCell a 2 1))
  pre x := (r14 x.1 x.2.1 x.2.2.1 x.2.2.2.1 x.2.2.2.2.1 x.2.2.2.2.2.1 x.2.2.2.2.2.2.1 x.2.2.2.2.2.2.2).isSome = true
  res x := [.c (.d (.int .i64 (((r14 x.1 x.2.1 x.2.2.1 x.2.2.2.1 x.2.2.2.2.1 x.2.2.2.2.2.1 x.2.2.2.2.2.2.1 x.2.2.2.2.2.2.2).getD default).1))), .c (.d (.int .i64 (((r14 x.1 x.2.1 x.2.2.1 x.2.2.2.1 x.2.2.2.2.1 x.2.2.2.2.2.1 x.2.2.2.2.2.2.1 x.2.2.2.2.2.2.2).getD default).2)))]
  al := false
def tb14 : Fns := lk [(35, T35.sp), (41, T41b.sp), (42, T42.sp)]
theorem tb14_ok : FnsOk Tryz.prog tb14 := .cons f35 (.cons f41b (.cons f42 (FnsOk.nil)))
theorem tb14_35 : tb14 35 = some T35.sp := rfl
theorem tb14_41 : tb14 41 = some T41b.sp := rfl
theorem tb14_42 : tb14 42 = some T42.sp := rfl
theorem v14 : Valid Tryz.prog 14 T14.sp := by
  refine valid_t (fn := Tryz.f14) (n := 49) ty_ok tb14_ok Tryz.func14 rfl Tryz.ntmps14 ?_
  rintro ⟨a0_0, a0_1, a0_2, a0_3, a1_0, a1_1, a2_0, a2_1⟩ hx
  obtain ⟨r, hr⟩ := Option.isSome_iff_exists.1 (show (r14 a0_0 a0_1 a0_2 a0_3 a1_0 a1_1 a2_0 a2_1).isSome = true from hx)
  have hres : T14.res (a0_0, a0_1, a0_2, a0_3, a1_0, a1_1, a2_0, a2_1) = [.c (.d (.int .i64 r.1)), .c (.d (.int .i64 r.2))] := by simp only [T14, hr, Option.getD_some]
  refine ⟨Nat.le_of_ble_eq_true rfl, fun stop S => ?_⟩
  rw [hres] at S
  unfold r14 at hr
  refine S.goB [] 1000 ?_
  simp (maxSteps := 10000000) only [go_sem, tb14_35, T35, tb14_41, T41b, tb14_42, T42, T14, Option.map_some, Int.reduceToNat, Nat.reduceEqDiff, Nat.reduceLT, Nat.reduceAdd, Nat.reduceMul, Nat.reduceSub, Nat.reduceLeDiff, reduceIte, reduceCtorEq, Tryz.results14]
  obtain ⟨v1, hv1, hr⟩ := of_bind0 hr
  try simp only [hv1, Option.getD_some, Option.isSome_some, true_and, and_assoc]
  repeat refine gA ?_
  refine ⟨fun hc => ?_, fun hc => ?_⟩
  · replace hr := ifP hr hc
    repeat refine gA ?_
    obtain rfl := Option.some.inj hr
    (simp (maxDischargeDepth := 8) [go_sem])
  · replace hr := ifN hr hc
    repeat refine gA ?_
    refine S.sees [4, 5, 8, 10, 11] [(4, 4), (5, 5), (8, 8)] [(16, 16), (10016, 10016)] ?_ (Stop.iter S (fun s1 => ⟨[(4, .c (.ref 4 0)), (5, .c (.ref 5 0)), (8, .c (.ref 8 0)), (10, .c (.clo 39 [.ref 8 0, .ref 5 0])), (11, .c (.d (.int .i64 s1.1)))], [(4, [.d (encF 1 d_I s1.2.1), .d (encF 1 d_I s1.2.2)]), (5, [.d (encF 3 d_LIIEII a2_0), .d (.int .i64 a2_1)]), (8, [.d (.int .i64 v1.1), .d (.int .i64 v1.2.1), .d (encF 2 d_II v1.2.2.1), .d (encF 1 d_LIIE v1.2.2.2.1), .own 16, .own 10016])], [(16, .owned (encF 2 d_II v1.2.2.2.2.1)), (10016, .owned (encF 1 d_LIIE v1.2.2.2.2.2.1))]⟩) (b14_1 a2_0 a2_1 v1) (fun q => q = r) hr rfl ?_)
    · (simp (maxDischargeDepth := 8) [go_sem])
    · intro s1 hr
      unfold b14_1 at hr
      refine S.goB [] 1000 ?_
      simp (maxSteps := 10000000) only [go_sem, tb14_35, T35, tb14_41, T41b, tb14_42, T42, T14, Option.map_some, Int.reduceToNat, Nat.reduceEqDiff, Nat.reduceLT, Nat.reduceAdd, Nat.reduceMul, Nat.reduceSub, Nat.reduceLeDiff, reduceIte, reduceCtorEq, Tryz.results14]
      obtain ⟨v2, hv2, hr⟩ := of_bind1 hr
      try simp only [hv2, Option.getD_some, Option.isSome_some, true_and, and_assoc]
      repeat refine gA ?_
      refine ⟨fun hc => ?_, fun hc => ?_⟩
      · replace hr := ifP1 hr hc
        repeat refine gA ?_
        have hr := of_out0 hr
        obtain rfl := Option.some.inj hr
        (simp (maxDischargeDepth := 8) [go_sem])
      · replace hr := ifN1 hr hc
        repeat refine gA ?_
        refine ⟨fun hc => ?_, fun hc => ?_⟩
        · replace hr := ifP1 hr hc
          repeat refine gA ?_
          have hr := of_out0 hr
          obtain rfl := Option.some.inj hr
          (simp (maxDischargeDepth := 8) [go_sem])
        · replace hr := ifN1 hr hc
          obtain ⟨hg4, hr⟩ := of_guard1 hr
          obtain ⟨v3, hv3, hr⟩ := of_bind1 hr
          try simp only [hv3, Option.getD_some, Option.isSome_some, true_and, and_assoc]
          repeat refine gA ?_
          refine ⟨fun hc => ?_, fun hc => ?_⟩
          · replace hr := ifP1 hr hc
            repeat refine gA ?_
            have hr := of_out0 hr
            obtain rfl := Option.some.inj hr
            (simp (maxDischargeDepth := 8) [go_sem])
          · replace hr := ifN1 hr hc
            repeat refine gA ?_
            refine S.share 43 rfl ?_
            refine S.share 10043 rfl ?_
            refine S.sees [4, 5, 8, 10, 11] [(4, 4), (5, 5), (8, 8)] [(16, 16), (10016, 10016)] ?_ hr
            (simp (maxDischargeDepth := 8) [go_sem])
theorem f14 : FnFact Tryz.prog 14 T14.sp := ⟨⟨Tryz.f14, Tryz.func14, by decide, rfl⟩, v14⟩

/- martensite/martensitebase.Within -/
def r74 (a0 : Int) (a1 : Int) (a2 : Int) : Option (Bool) :=
  some ((decide (a1 ≤ a0)) && (decide (a0 ≤ a2)))
def T74 : TSpec (Int × Int × Int) where
  enc x := [.c (.int .i64 x.1), .c (.int .i64 x.2.1), .c (.int .i64 x.2.2)]
  dec a := (dInt (aCell a 0 0), dInt (aCell a 1 0), dInt (aCell a 2 0))
  pre x := (r74 x.1 x.2.1 x.2.2).isSome = true
  res x := [.c (.d (.bool ((r74 x.1 x.2.1 x.2.2).getD default)))]
  al := false
def tb74 : Fns := lk []
theorem tb74_ok : FnsOk Tryz.prog tb74 := FnsOk.nil
theorem v74 : Valid Tryz.prog 74 T74.sp := by
  refine valid_t (fn := Tryz.f74) (n := 15) ty_ok tb74_ok Tryz.func74 rfl Tryz.ntmps74 ?_
  rintro ⟨a0, a1, a2⟩ hx
  obtain ⟨r, hr⟩ := Option.isSome_iff_exists.1 (show (r74 a0 a1 a2).isSome = true from hx)
  have hres : T74.res (a0, a1, a2) = [.c (.d (.bool r))] := by simp only [T74, hr, Option.getD_some]
  refine ⟨Nat.le_of_ble_eq_true rfl, fun stop S => ?_⟩
  rw [hres] at S
  unfold r74 at hr
  refine S.goB [] 1000 ?_
  simp (maxSteps := 10000000) only [go_sem, T74, Option.map_some, Int.reduceToNat, Nat.reduceEqDiff, Nat.reduceLT, Nat.reduceAdd, Nat.reduceMul, Nat.reduceSub, Nat.reduceLeDiff, reduceIte, reduceCtorEq, Tryz.results74]
  repeat (first | refine gA ?_ | refine gB ?_)
  obtain rfl := Option.some.inj hr
  (simp (maxDischargeDepth := 8) [go_sem])
theorem f74 : FnFact Tryz.prog 74 T74.sp := ⟨⟨Tryz.f74, Tryz.func74, by decide, rfl⟩, v74⟩

/- martensite/martensiteref03.IsKelvin -/
def r45 (a0 : Int) : Option (Bool) :=
  (r74 a0 200 3000).bind fun v1 =>
   some v1
def T45 : TSpec (Int) where
  enc x := [.c (.int .i64 x)]
  dec a := dInt (aCell a 0 0)
  pre x := (r45 x).isSome = true
  res x := [.c (.d (.bool ((r45 x).getD default)))]
  al := false
def tb45 : Fns := lk [(74, T74.sp)]
theorem tb45_ok : FnsOk Tryz.prog tb45 := .cons f74 (FnsOk.nil)
theorem tb45_74 : tb45 74 = some T74.sp := rfl
theorem v45 : Valid Tryz.prog 45 T45.sp := by
  refine valid_t (fn := Tryz.f45) (n := 5) ty_ok tb45_ok Tryz.func45 rfl Tryz.ntmps45 ?_
  rintro a0 hx
  obtain ⟨r, hr⟩ := Option.isSome_iff_exists.1 (show (r45 a0).isSome = true from hx)
  have hres : T45.res a0 = [.c (.d (.bool r))] := by simp only [T45, hr, Option.getD_some]
  refine ⟨Nat.le_of_ble_eq_true rfl, fun stop S => ?_⟩
  rw [hres] at S
  unfold r45 at hr
  refine S.goB [] 1000 ?_
  simp (maxSteps := 10000000) only [go_sem, tb45_74, T74, T45, Option.map_some, Int.reduceToNat, Nat.reduceEqDiff, Nat.reduceLT, Nat.reduceAdd, Nat.reduceMul, Nat.reduceSub, Nat.reduceLeDiff, reduceIte, reduceCtorEq, Tryz.results45]
  obtain ⟨v1, hv1, hr⟩ := of_bind0 hr
  try simp only [hv1, Option.getD_some, Option.isSome_some, true_and, and_assoc]
  repeat refine gA ?_
  obtain rfl := Option.some.inj hr
  (simp (maxDischargeDepth := 8) [go_sem])
theorem f45 : FnFact Tryz.prog 45 T45.sp := ⟨⟨Tryz.f45, Tryz.func45, by decide, rfl⟩, v45⟩

/- martensite/martensiteref03.lawErr -/
def b95_1 (a0 : List (Int × Int)) : (Int) → Ctl (Int) (Int) := fun s1 =>
  if (decide (s1 < (a0.length : Int))) = true then
   if 0 ≤ s1 ∧ s1 < (a0.length : Int) then
    bindC (r45 ((a0.getD s1.toNat default).1)) fun v1 =>
     if (!(!v1)) = true → 0 ≤ s1 ∧ s1 < (a0.length : Int) then
      if (!(!v1)) = true → (r74 ((a0.getD s1.toNat default).2) 0 1000).isSome = true then
       if ((!v1) || (!((r74 ((a0.getD s1.toNat default).2) 0 1000).getD default))) = true then
        .out (some 2)
        else if (decide (s1 > 0)) = true then
         if 0 ≤ s1 ∧ s1 < (a0.length : Int) then
          if 0 ≤ IntKind.i64.wrap (s1 - 1) ∧ IntKind.i64.wrap (s1 - 1) < (a0.length : Int) then
           if 0 ≤ s1 ∧ s1 < (a0.length : Int) then
            if 0 ≤ IntKind.i64.wrap (s1 - 1) ∧ IntKind.i64.wrap (s1 - 1) < (a0.length : Int) then
             if ((decide ((IntKind.i64.wrap (((a0.getD s1.toNat default).1) - ((a0.getD (IntKind.i64.wrap (s1 - 1)).toNat default).1))) ≤ 0)) || (decide ((IntKind.i64.wrap (((a0.getD s1.toNat default).2) - ((a0.getD (IntKind.i64.wrap (s1 - 1)).toNat default).2))) < 0))) = true then
              .out (some 9)
              else if (decide ((IntKind.i64.wrap (2 * (IntKind.i64.wrap (((a0.getD s1.toNat default).2) - ((a0.getD (IntKind.i64.wrap (s1 - 1)).toNat default).2))))) > (IntKind.i64.wrap (((a0.getD s1.toNat default).1) - ((a0.getD (IntKind.i64.wrap (s1 - 1)).toNat default).1))))) = true then
               .out (some 22)
               else .next (IntKind.i64.wrap (s1 + 1))
             else .out none
            else .out none
           else .out none
          else .out none
         else .next (IntKind.i64.wrap (s1 + 1))
       else .out none
      else .out none
    else .out none
   else .out (some 0)
def r95 (a0 : List (Int × Int)) : Option (Int) :=
  if (decide ((a0.length : Int) > 6)) = true then
   some 8
   else iterC (b95_1 a0) 1000000000 0
def T95 : TSpec ((List (Int × Int))) where
  enc x := [.c (encF 2 d_II x)]
  dec a := decF g_II (aCell a 0 0)
  pre x := (r95 x).isSome = true
  res x := [.c (.d (.int .i64 ((r95 x).getD default)))]
  al := false
def tb95 : Fns := lk [(45, T45.sp), (74, T74.sp)]
theorem tb95_ok : FnsOk Tryz.prog tb95 := .cons f45 (.cons f74 (FnsOk.nil))
theorem tb95_45 : tb95 45 = some T45.sp := rfl
theorem tb95_74 : tb95 74 = some T74.sp := rfl
theorem v95 : Valid Tryz.prog 95 T95.sp := by
  refine valid_t (fn := Tryz.f95) (n := 67) ty_ok tb95_ok Tryz.func95 rfl Tryz.ntmps95 ?_
  rintro a0 hx
  obtain ⟨r, hr⟩ := Option.isSome_iff_exists.1 (show (r95 a0).isSome = true from hx)
  have hres : T95.res a0 = [.c (.d (.int .i64 r))] := by simp only [T95, hr, Option.getD_some]
  refine ⟨Nat.le_of_ble_eq_true rfl, fun stop S => ?_⟩
  rw [hres] at S
  unfold r95 at hr
  refine S.goB [] 1000 ?_
  simp (maxSteps := 10000000) only [go_sem, tb95_45, T45, tb95_74, T74, T95, Option.map_some, Int.reduceToNat, Nat.reduceEqDiff, Nat.reduceLT, Nat.reduceAdd, Nat.reduceMul, Nat.reduceSub, Nat.reduceLeDiff, reduceIte, reduceCtorEq, Tryz.results95]
  repeat refine gA ?_
  refine ⟨fun hc => ?_, fun hc => ?_⟩
  · replace hr := ifP hr hc
    repeat refine gA ?_
    obtain rfl := Option.some.inj hr
    (simp (maxDischargeDepth := 8) [go_sem])
  · replace hr := ifN hr hc
    repeat refine gA ?_
    refine S.sees [0, 3] [] [] ?_ (Stop.iter S (fun s1 => ⟨[(0, .c (.d (encF 2 d_II a0))), (3, .c (.d (.int .i64 s1)))], [], []⟩) (b95_1 a0) (fun q => q = r) hr rfl ?_)
    · (simp (maxDischargeDepth := 8) [go_sem])
    · intro s1 hr
      unfold b95_1 at hr
      refine S.goB [] 1000 ?_
      simp (maxSteps := 10000000) only [go_sem, tb95_45, T45, tb95_74, T74, T95, Option.map_some, Int.reduceToNat, Nat.reduceEqDiff, Nat.reduceLT, Nat.reduceAdd, Nat.reduceMul, Nat.reduceSub, Nat.reduceLeDiff, reduceIte, reduceCtorEq, Tryz.results95]
      repeat refine gA ?_
      refine ⟨fun hc => ?_, fun hc => ?_⟩
      · replace hr := ifP1 hr hc
        obtain ⟨hg6, hr⟩ := of_guard1 hr
        obtain ⟨v1, hv1, hr⟩ := of_bind1 hr
        obtain ⟨hg7, hr⟩ := of_guard1 hr
        obtain ⟨hg8, hr⟩ := of_guard1 hr
        try simp only [hv1, Option.getD_some, Option.isSome_some, true_and, and_assoc]
        repeat (first | refine gG hg7 ?_ | refine gG hg8 ?_ | refine gA ?_ | refine gB ?_)
        refine ⟨fun hc => ?_, fun hc => ?_⟩
        · replace hr := ifP1 hr hc
          repeat refine gA ?_
          have hr := of_out0 hr
          obtain rfl := Option.some.inj hr
          (simp (maxDischargeDepth := 8) [go_sem])
        · replace hr := ifN1 hr hc
          repeat refine gA ?_
          refine ⟨fun hc => ?_, fun hc => ?_⟩
          · replace hr := ifP1 hr hc
            obtain ⟨hg2, hr⟩ := of_guard1 hr
            obtain ⟨hg3, hr⟩ := of_guard1 hr
            obtain ⟨hg4, hr⟩ := of_guard1 hr
            obtain ⟨hg5, hr⟩ := of_guard1 hr
            repeat (first | refine gA ?_ | refine gB ?_)
            refine ⟨fun hc => ?_, fun hc => ?_⟩
            · replace hr := ifP1 hr hc
              repeat refine gA ?_
              have hr := of_out0 hr
              obtain rfl := Option.some.inj hr
              (simp (maxDischargeDepth := 8) [go_sem])
            · replace hr := ifN1 hr hc
              repeat refine gA ?_
              refine ⟨fun hc => ?_, fun hc => ?_⟩
              · replace hr := ifP1 hr hc
                repeat refine gA ?_
                have hr := of_out0 hr
                obtain rfl := Option.some.inj hr
                (simp (maxDischargeDepth := 8) [go_sem])
              · replace hr := ifN1 hr hc
                repeat refine gA ?_
                refine S.sees [0, 3] [] [] ?_ hr
                (simp (maxDischargeDepth := 8) [go_sem])
          · replace hr := ifN1 hr hc
            repeat refine gA ?_
            refine S.sees [0, 3] [] [] ?_ hr
            (simp (maxDischargeDepth := 8) [go_sem])
      · replace hr := ifN1 hr hc
        repeat refine gA ?_
        have hr := of_out0 hr
        repeat refine gA ?_
        obtain rfl := Option.some.inj hr
        (simp (maxDischargeDepth := 8) [go_sem])
theorem f95 : FnFact Tryz.prog 95 T95.sp := ⟨⟨Tryz.f95, Tryz.func95, by decide, rfl⟩, v95⟩

/- martensite/martensiteref03.lossOf -/
def b106_1 (a0 : List (Int × Int)) (a1 : Int) (a2 : Int) : (Int) → Ctl (Int) (Int × Int) := fun s1 =>
  if (decide (s1 < (a0.length : Int))) = true then
   if 0 ≤ s1 ∧ s1 < (a0.length : Int) then
    if (decide (a1 ≤ (IntKind.i64.wrap (((a0.getD s1.toNat default).1) * a2)))) = true then
     if (s1 == 0) = true then
      if 0 ≤ 0 ∧ 0 < (a0.length : Int) then
       .out (some ((a0.getD 0 default).2, 1))
       else .out none
      else if 0 ≤ IntKind.i64.wrap (s1 - 1) ∧ IntKind.i64.wrap (s1 - 1) < (a0.length : Int) then
       if 0 ≤ s1 ∧ s1 < (a0.length : Int) then
        .out (some (IntKind.i64.wrap ((IntKind.i64.wrap (((a0.getD (IntKind.i64.wrap (s1 - 1)).toNat default).2) * (IntKind.i64.wrap ((IntKind.i64.wrap (((a0.getD s1.toNat default).1) - ((a0.getD (IntKind.i64.wrap (s1 - 1)).toNat default).1))) * a2)))) + (IntKind.i64.wrap ((IntKind.i64.wrap (((a0.getD s1.toNat default).2) - ((a0.getD (IntKind.i64.wrap (s1 - 1)).toNat default).2))) * (IntKind.i64.wrap (a1 - (IntKind.i64.wrap (((a0.getD (IntKind.i64.wrap (s1 - 1)).toNat default).1) * a2))))))), IntKind.i64.wrap ((IntKind.i64.wrap (((a0.getD s1.toNat default).1) - ((a0.getD (IntKind.i64.wrap (s1 - 1)).toNat default).1))) * a2)))
        else .out none
       else .out none
     else .next (IntKind.i64.wrap (s1 + 1))
    else .out none
   else .out (if 0 ≤ IntKind.i64.wrap ((a0.length : Int) - 1) ∧ IntKind.i64.wrap ((a0.length : Int) - 1) < (a0.length : Int) then
    some ((a0.getD (IntKind.i64.wrap ((a0.length : Int) - 1)).toNat default).2, 1)
    else none)
def r106 (a0 : List (Int × Int)) (a1 : Int) (a2 : Int) : Option (Int × Int) :=
  if ((a0.length : Int) == 0) = true then
   some (0, 1)
   else iterC (b106_1 a0 a1 a2) 1000000000 0
def T106 : TSpec ((List (Int × Int)) × Int × Int) where
  enc x := [.c (encF 2 d_II x.1), .c (.int .i64 x.2.1), .c (.int .i64 x.2.2)]
  dec a := (decF g_II (aCell a 0 0), dInt (aCell a 1 0), dInt (aCell a 2 0))
  pre x := (r106 x.1 x.2.1 x.2.2).isSome = true
  res x := [.c (.d (.int .i64 (((r106 x.1 x.2.1 x.2.2).getD default).1))), .c (.d (.int .i64 (((r106 x.1 x.2.1 x.2.2).getD default).2)))]
  al := false
def tb106 : Fns := lk []
theorem tb106_ok : FnsOk Tryz.prog tb106 := FnsOk.nil
theorem v106 : Valid Tryz.prog 106 T106.sp := by
  refine valid_t (fn := Tryz.f106) (n := 77) ty_ok tb106_ok Tryz.func106 rfl Tryz.ntmps106 ?_
  rintro ⟨a0, a1, a2⟩ hx
  obtain ⟨r, hr⟩ := Option.isSome_iff_exists.1 (show (r106 a0 a1 a2).isSome = true from hx)
  have hres : T106.res (a0, a1, a2) = [.c (.d (.int .i64 r.1)), .c (.d (.int .i64 r.2))] := by simp only [T106, hr, Option.getD_some]
  refine ⟨Nat.le_of_ble_eq_true rfl, fun stop S => ?_⟩
  rw [hres] at S
  unfold r106 at hr
  refine S.goB [] 1000 ?_
  simp (maxSteps := 10000000) only [go_sem, T106, Option.map_some, Int.reduceToNat, Nat.reduceEqDiff, Nat.reduceLT, Nat.reduceAdd, Nat.reduceMul, Nat.reduceSub, Nat.reduceLeDiff, reduceIte, reduceCtorEq, Tryz.results106]
  repeat refine gA ?_
  refine ⟨fun hc => ?_, fun hc => ?_⟩
  · replace hr := ifP hr hc
    repeat refine gA ?_
    obtain rfl := Option.some.inj hr
    (simp (maxDischargeDepth := 8) [go_sem])
  · replace hr := ifN hr hc
    repeat refine gA ?_
    refine S.sees [0, 1, 2, 8] [] [] ?_ (Stop.iter S (fun s1 => ⟨[(0, .c (.d (encF 2 d_II a0))), (1, .c (.d (.int .i64 a1))), (2, .c (.d (.int .i64 a2))), (8, .c (.d (.int .i64 s1)))], [], []⟩) (b106_1 a0 a1 a2) (fun q => q = r) hr rfl ?_)
    · (simp (maxDischargeDepth := 8) [go_sem])
    · intro s1 hr
      unfold b106_1 at hr
      refine S.goB [] 1000 ?_
      simp (maxSteps := 10000000) only [go_sem, T106, Option.map_some, Int.reduceToNat, Nat.reduceEqDiff, Nat.reduceLT, Nat.reduceAdd, Nat.reduceMul, Nat.reduceSub, Nat.reduceLeDiff, reduceIte, reduceCtorEq, Tryz.results106]
      repeat refine gA ?_
      refine ⟨fun hc => ?_, fun hc => ?_⟩
      · replace hr := ifP1 hr hc
        obtain ⟨hg4, hr⟩ := of_guard1 hr
        repeat refine gA ?_
        refine ⟨fun hc => ?_, fun hc => ?_⟩
        · replace hr := ifP1 hr hc
          repeat refine gA ?_
          refine ⟨fun hc => ?_, fun hc => ?_⟩
          · replace hr := ifP1 hr hc
            obtain ⟨hg1, hr⟩ := of_guard1 hr
            repeat refine gA ?_
            have hr := of_out0 hr
            obtain rfl := Option.some.inj hr
            (simp (maxDischargeDepth := 8) [go_sem])
          · replace hr := ifN1 hr hc
            obtain ⟨hg2, hr⟩ := of_guard1 hr
            obtain ⟨hg3, hr⟩ := of_guard1 hr
            repeat refine gA ?_
            have hr := of_out0 hr
            obtain rfl := Option.some.inj hr
            (simp (maxDischargeDepth := 8) [go_sem])
        · replace hr := ifN1 hr hc
          repeat refine gA ?_
          refine S.sees [0, 1, 2, 8] [] [] ?_ hr
          (simp (maxDischargeDepth := 8) [go_sem])
      · replace hr := ifN1 hr hc
        repeat refine gA ?_
        have hr := of_out0 hr
        obtain ⟨hg5, hr⟩ := of_guard0 hr
        repeat refine gA ?_
        obtain rfl := Option.some.inj hr
        (simp (maxDischargeDepth := 8) [go_sem])
theorem f106 : FnFact Tryz.prog 106 T106.sp := ⟨⟨Tryz.f106, Tryz.func106, by decide, rfl⟩, v106⟩

/- martensite/martensiteref03.isBelow -/
def b96_1 (a0 : List (Int × Int)) (a1 : List (Int × Int)) : (Int) → Ctl (Int) (Bool) := fun s1 =>
  if (decide (s1 < ((a0.length + a1.length) : Int))) = true then
   if 0 ≤ s1 ∧ s1 < ((a0.length + a1.length) : Int) then
    bindC (r106 a0 (((a0 ++ a1).getD s1.toNat default).1) 1) fun v1 =>
     if 0 ≤ s1 ∧ s1 < ((a0.length + a1.length) : Int) then
      bindC (r106 a1 (((a0 ++ a1).getD s1.toNat default).1) 1) fun v2 =>
       if (decide ((IntKind.i64.wrap (v1.1 * v2.2)) < (IntKind.i64.wrap (v2.1 * v1.2)))) = true then
        .out (some true)
        else .next (IntKind.i64.wrap (s1 + 1))
      else .out none
    else .out none
   else .out (some false)
def r96 (a0 : List (Int × Int)) (a1 : List (Int × Int)) : Option (Bool) :=
  if (0 + a0.length) * 16 ≤ 140737488355328 ∧ 0 + a0.length ≤ 9223372036854775807 then
   if (a0.length + a1.length) * 16 ≤ 140737488355328 ∧ a0.length + a1.length ≤ 9223372036854775807 then
    iterC (b96_1 a0 a1) 1000000000 0
    else none
   else none
def T96 : TSpec ((List (Int × Int)) × (List (Int × Int))) where
  enc x := [.c (encF 2 d_II x.1), .c (encF 2 d_II x.2)]
  dec a := (decF g_II (aCell a 0 0), decF g_II (aCell a 1 0))
  pre x := (r96 x.1 x.2).isSome = true
  res x := [.c (.d (.bool ((r96 x.1 x.2).getD default)))]
  al := false
def tb96 : Fns := lk [(106, T106.sp)]
theorem tb96_ok : FnsOk Tryz.prog tb96 := .cons f106 (FnsOk.nil)
theorem tb96_106 : tb96 106 = some T106.sp := rfl
theorem v96 : Valid Tryz.prog 96 T96.sp := by
  refine valid_t (fn := Tryz.f96) (n := 49) ty_ok tb96_ok Tryz.func96 rfl Tryz.ntmps96 ?_
  rintro ⟨a0, a1⟩ hx
  obtain ⟨r, hr⟩ := Option.isSome_iff_exists.1 (show (r96 a0 a1).isSome = true from hx)
  have hres : T96.res (a0, a1) = [.c (.d (.bool r))] := by simp only [T96, hr, Option.getD_some]
  refine ⟨Nat.le_of_ble_eq_true rfl, fun stop S => ?_⟩
  rw [hres] at S
  unfold r96 at hr
  refine S.goB [] 1000 ?_
  simp (maxSteps := 10000000) only [go_sem, tb96_106, T106, T96, Option.map_some, Int.reduceToNat, Nat.reduceEqDiff, Nat.reduceLT, Nat.reduceAdd, Nat.reduceMul, Nat.reduceSub, Nat.reduceLeDiff, reduceIte, reduceCtorEq, Tryz.results96]
  obtain ⟨hg5, hr⟩ := of_guard0 hr
  obtain ⟨hg6, hr⟩ := of_guard0 hr
  repeat refine gA ?_
  refine S.sees [0, 1, 5, 6] [] [(15, 15)] ?_ (Stop.iter S (fun s1 => ⟨[(0, .c (.d (encF 2 d_II a0))), (1, .c (.d (encF 2 d_II a1))), (5, .c (.own 15)), (6, .c (.d (.int .i64 s1)))], [], [(15, .owned (encF 2 d_II (a0 ++ a1)))]⟩) (b96_1 a0 a1) (fun q => q = r) hr rfl ?_)
  · (simp (maxDischargeDepth := 8) [go_sem])
  · intro s1 hr
    unfold b96_1 at hr
    refine S.goB [] 1000 ?_
    simp (maxSteps := 10000000) only [go_sem, tb96_106, T106, T96, Option.map_some, Int.reduceToNat, Nat.reduceEqDiff, Nat.reduceLT, Nat.reduceAdd, Nat.reduceMul, Nat.reduceSub, Nat.reduceLeDiff, reduceIte, reduceCtorEq, Tryz.results96]
    repeat refine gA ?_
    refine ⟨fun hc => ?_, fun hc => ?_⟩
    · replace hr := ifP1 hr hc
      obtain ⟨hg3, hr⟩ := of_guard1 hr
      obtain ⟨v1, hv1, hr⟩ := of_bind1 hr
      obtain ⟨hg4, hr⟩ := of_guard1 hr
      obtain ⟨v2, hv2, hr⟩ := of_bind1 hr
      try simp only [hv1, hv2, Option.getD_some, Option.isSome_some, true_and, and_assoc]
      repeat refine gA ?_
      refine ⟨fun hc => ?_, fun hc => ?_⟩
      · replace hr := ifP1 hr hc
        repeat refine gA ?_
        have hr := of_out0 hr
        obtain rfl := Option.some.inj hr
        (simp (maxDischargeDepth := 8) [go_sem])
      · replace hr := ifN1 hr hc
        repeat refine gA ?_
        refine S.sees [0, 1, 5, 6] [] [(15, 15)] ?_ hr
        (simp (maxDischargeDepth := 8) [go_sem])
    · replace hr := ifN1 hr hc
      repeat refine gA ?_
      have hr := of_out0 hr
      repeat refine gA ?_
      obtain rfl := Option.some.inj hr
      (simp (maxDischargeDepth := 8) [go_sem])
theorem f96 : FnFact Tryz.prog 96 T96.sp := ⟨⟨Tryz.f96, Tryz.func96, by decide, rfl⟩, v96⟩

/- martensite/martensiteref03.CheckSetup -/
def b72_2 (a0_3 : List ((List (Int × Int)))) : (Int) → Ctl (Int) (Int × Int) := fun s2 =>
  if (decide (s2 < (a0_3.length : Int))) = true then
   if 0 ≤ s2 ∧ s2 < (a0_3.length : Int) then
    bindC (r95 (a0_3.getD s2.toNat default)) fun v10 =>
     if (v10 != 0) = true then
      .out (some (s2, v10))
      else if (decide (s2 > 0)) = true → 0 ≤ s2 ∧ s2 < (a0_3.length : Int) then
       if (decide (s2 > 0)) = true → 0 ≤ IntKind.i64.wrap (s2 - 1) ∧ IntKind.i64.wrap (s2 - 1) < (a0_3.length : Int) then
        if (decide (s2 > 0)) = true → (r96 (a0_3.getD s2.toNat default) (a0_3.getD (IntKind.i64.wrap (s2 - 1)).toNat default)).isSome = true then
         if ((decide (s2 > 0)) && ((r96 (a0_3.getD s2.toNat default) (a0_3.getD (IntKind.i64.wrap (s2 - 1)).toNat default)).getD default)) = true then
          .out (some (s2, 13))
          else .next (IntKind.i64.wrap (s2 + 1))
         else .out none
        else .out none
       else .out none
    else .out none
   else .out (some (0, 0))
def b72_1 (a0_2 : List (Int × Int)) (a0_3 : List ((List (Int × Int)))) : (Int) → Ctl (Int) (Int × Int) := fun s1 =>
  if (decide (s1 < (a0_2.length : Int))) = true then
   if 0 ≤ s1 ∧ s1 < (a0_2.length : Int) then
    bindC (r74 ((a0_2.getD s1.toNat default).1) 0 1000000) fun v2 =>
     if (!(!v2)) = true → 0 ≤ s1 ∧ s1 < (a0_2.length : Int) then
      if (!(!v2)) = true → (r45 ((a0_2.getD s1.toNat default).2)).isSome = true then
       if ((!v2) || (!((r45 ((a0_2.getD s1.toNat default).2)).getD default))) = true then
        .out (some (s1, 2))
        else if (decide (s1 > 0)) = true then
         if 0 ≤ s1 ∧ s1 < (a0_2.length : Int) then
          if 0 ≤ IntKind.i64.wrap (s1 - 1) ∧ IntKind.i64.wrap (s1 - 1) < (a0_2.length : Int) then
           if 0 ≤ s1 ∧ s1 < (a0_2.length : Int) then
            if 0 ≤ IntKind.i64.wrap (s1 - 1) ∧ IntKind.i64.wrap (s1 - 1) < (a0_2.length : Int) then
             if ((decide ((IntKind.i64.wrap (((a0_2.getD s1.toNat default).1) - ((a0_2.getD (IntKind.i64.wrap (s1 - 1)).toNat default).1))) ≤ 0)) || (decide ((IntKind.i64.wrap (((a0_2.getD s1.toNat default).2) - ((a0_2.getD (IntKind.i64.wrap (s1 - 1)).toNat default).2))) ≤ 0))) = true then
              .out (some (s1, 9))
              else if (decide ((IntKind.i64.wrap (((a0_2.getD s1.toNat default).2) - ((a0_2.getD (IntKind.i64.wrap (s1 - 1)).toNat default).2))) > (IntKind.i64.wrap (((a0_2.getD s1.toNat default).1) - ((a0_2.getD (IntKind.i64.wrap (s1 - 1)).toNat default).1))))) = true then
               .out (some (s1, 22))
               else .next (IntKind.i64.wrap (s1 + 1))
             else .out none
            else .out none
           else .out none
          else .out none
         else .next (IntKind.i64.wrap (s1 + 1))
       else .out none
      else .out none
    else .out none
   else .out (if (decide ((a0_3.length : Int) > 4)) = true then
    some (0, 8)
    else iterC (b72_2 a0_3) 1000000000 0)
def r72 (a0_0 : Int) (a0_1 : Int) (a0_2 : List (Int × Int)) (a0_3 : List ((List (Int × Int)))) : Option (Int × Int) :=
  (r74 a0_0 1 12).bind fun v1 =>
   if (!(!v1)) = true → (r74 a0_1 0 500).isSome = true then
    if ((!v1) || (!((r74 a0_1 0 500).getD default))) = true then
     some (0, 2)
     else if (decide ((a0_2.length : Int) < 2)) = true then
      some (0, 10)
      else if (decide ((a0_2.length : Int) > 8)) = true then
       some (0, 8)
       else iterC (b72_1 a0_2 a0_3) 1000000000 0
    else none
def T72 : TSpec (Int × Int × (List (Int × Int)) × (List ((List (Int × Int))))) where
  enc x := [.agg [.int .i64 x.1, .int .i64 x.2.1, encF 2 d_II x.2.2.1, encF 1 d_LIIE x.2.2.2]]
  dec a := (dInt (aCell a 0 0), dInt (aCell a 0 1), decF g_II (aCell a 0 2), decF g_LIIE (aCell a 0 3))
  pre x := (r72 x.1 x.2.1 x.2.2.1 x.2.2.2).isSome = true
  res x := [.c (.d (.int .i64 (((r72 x.1 x.2.1 x.2.2.1 x.2.2.2).getD default).1))), .c (.d (.int .i64 (((r72 x.1 x.2.1 x.2.2.1 x.2.2.2).getD default).2)))]
  al := false
def tb72 : Fns := lk [(45, T45.sp), (74, T74.sp), (95, T95.sp), (96, T96.sp)]
theorem tb72_ok : FnsOk Tryz.prog tb72 := .cons f45 (.cons f74 (.cons f95 (.cons f96 (FnsOk.nil))))
theorem tb72_45 : tb72 45 = some T45.sp := rfl
theorem tb72_74 : tb72 74 = some T74.sp := rfl
theorem tb72_95 : tb72 95 = some T95.sp := rfl
theorem tb72_96 : tb72 96 = some T96.sp := rfl
theorem v72 : Valid Tryz.prog 72 T72.sp := by
  refine valid_t (fn := Tryz.f72) (n := 132) ty_ok tb72_ok Tryz.func72 rfl Tryz.ntmps72 ?_
  rintro ⟨a0_0, a0_1, a0_2, a0_3⟩ hx
  obtain ⟨r, hr⟩ := Option.isSome_iff_exists.1 (show (r72 a0_0 a0_1 a0_2 a0_3).isSome = true from hx)
  have hres : T72.res (a0_0, a0_1, a0_2, a0_3) = [.c (.d (.int .i64 r.1)), .c (.d (.int .i64 r.2))] := by simp only [T72, hr, Option.getD_some]
  refine ⟨Nat.le_of_ble_eq_true rfl, fun stop S => ?_⟩
  rw [hres] at S
  unfold r72 at hr
  refine S.goB [] 1000 ?_
  simp (maxSteps := 10000000) only [go_sem, tb72_45, T45, tb72_74, T74, tb72_95, T95, tb72_96, T96, T72, Option.map_some, Int.reduceToNat, Nat.reduceEqDiff, Nat.reduceLT, Nat.reduceAdd, Nat.reduceMul, Nat.reduceSub, Nat.reduceLeDiff, reduceIte, reduceCtorEq, Tryz.results72]
  obtain ⟨v1, hv1, hr⟩ := of_bind0 hr
  obtain ⟨hg15, hr⟩ := of_guard0 hr
  try simp only [hv1, Option.getD_some, Option.isSome_some, true_and, and_assoc]
  repeat (first | refine gG hg15 ?_ | refine gA ?_ | refine gB ?_)
  refine ⟨fun hc => ?_, fun hc => ?_⟩
  · replace hr := ifP hr hc
    repeat refine gA ?_
    obtain rfl := Option.some.inj hr
    (simp (maxDischargeDepth := 8) [go_sem])
  · replace hr := ifN hr hc
    repeat refine gA ?_
    refine ⟨fun hc => ?_, fun hc => ?_⟩
    · replace hr := ifP hr hc
      repeat refine gA ?_
      obtain rfl := Option.some.inj hr
      (simp (maxDischargeDepth := 8) [go_sem])
    · replace hr := ifN hr hc
      repeat refine gA ?_
      refine ⟨fun hc => ?_, fun hc => ?_⟩
      · replace hr := ifP hr hc
        repeat refine gA ?_
        obtain rfl := Option.some.inj hr
        (simp (maxDischargeDepth := 8) [go_sem])
      · replace hr := ifN hr hc
        repeat refine gA ?_
        refine S.sees [1, 4] [(1, 1)] [] ?_ (Stop.iter S (fun s1 => ⟨[(1, .c (.ref 1 0)), (4, .c (.d (.int .i64 s1)))], [(1, [.d (.int .i64 a0_0), .d (.int .i64 a0_1), .d (encF 2 d_II a0_2), .d (encF 1 d_LIIE a0_3)])], []⟩) (b72_1 a0_2 a0_3) (fun q => q = r) hr rfl ?_)
        · (simp (maxDischargeDepth := 8) [go_sem])
        · intro s1 hr
          unfold b72_1 at hr
          refine S.goB [] 1000 ?_
          simp (maxSteps := 10000000) only [go_sem, tb72_45, T45, tb72_74, T74, tb72_95, T95, tb72_96, T96, T72, Option.map_some, Int.reduceToNat, Nat.reduceEqDiff, Nat.reduceLT, Nat.reduceAdd, Nat.reduceMul, Nat.reduceSub, Nat.reduceLeDiff, reduceIte, reduceCtorEq, Tryz.results72]
          repeat refine gA ?_
          refine ⟨fun hc => ?_, fun hc => ?_⟩
          · replace hr := ifP1 hr hc
            obtain ⟨hg7, hr⟩ := of_guard1 hr
            obtain ⟨v2, hv2, hr⟩ := of_bind1 hr
            obtain ⟨hg8, hr⟩ := of_guard1 hr
            obtain ⟨hg9, hr⟩ := of_guard1 hr
            try simp only [hv2, Option.getD_some, Option.isSome_some, true_and, and_assoc]
            repeat (first | refine gG hg8 ?_ | refine gG hg9 ?_ | refine gA ?_ | refine gB ?_)
            refine ⟨fun hc => ?_, fun hc => ?_⟩
            · replace hr := ifP1 hr hc
              repeat refine gA ?_
              have hr := of_out0 hr
              obtain rfl := Option.some.inj hr
              (simp (maxDischargeDepth := 8) [go_sem])
            · replace hr := ifN1 hr hc
              repeat refine gA ?_
              refine ⟨fun hc => ?_, fun hc => ?_⟩
              · replace hr := ifP1 hr hc
                obtain ⟨hg3, hr⟩ := of_guard1 hr
                obtain ⟨hg4, hr⟩ := of_guard1 hr
                obtain ⟨hg5, hr⟩ := of_guard1 hr
                obtain ⟨hg6, hr⟩ := of_guard1 hr
                repeat (first | refine gA ?_ | refine gB ?_)
                refine ⟨fun hc => ?_, fun hc => ?_⟩
                · replace hr := ifP1 hr hc
                  repeat refine gA ?_
                  have hr := of_out0 hr
                  obtain rfl := Option.some.inj hr
                  (simp (maxDischargeDepth := 8) [go_sem])
                · replace hr := ifN1 hr hc
                  repeat refine gA ?_
                  refine ⟨fun hc => ?_, fun hc => ?_⟩
                  · replace hr := ifP1 hr hc
                    repeat refine gA ?_
                    have hr := of_out0 hr
                    obtain rfl := Option.some.inj hr
                    (simp (maxDischargeDepth := 8) [go_sem])
                  · replace hr := ifN1 hr hc
                    repeat refine gA ?_
                    refine S.sees [1, 4] [(1, 1)] [] ?_ hr
                    (simp (maxDischargeDepth := 8) [go_sem])
              · replace hr := ifN1 hr hc
                repeat refine gA ?_
                refine S.sees [1, 4] [(1, 1)] [] ?_ hr
                (simp (maxDischargeDepth := 8) [go_sem])
          · replace hr := ifN1 hr hc
            repeat refine gA ?_
            have hr := of_out0 hr
            repeat refine gA ?_
            refine ⟨fun hc => ?_, fun hc => ?_⟩
            · replace hr := ifP hr hc
              repeat refine gA ?_
              obtain rfl := Option.some.inj hr
              (simp (maxDischargeDepth := 8) [go_sem])
            · replace hr := ifN hr hc
              repeat refine gA ?_
              refine S.sees [1, 7] [(1, 1)] [] ?_ (Stop.iter S (fun s2 => ⟨[(1, .c (.ref 1 0)), (7, .c (.d (.int .i64 s2)))], [(1, [.d (.int .i64 a0_0), .d (.int .i64 a0_1), .d (encF 2 d_II a0_2), .d (encF 1 d_LIIE a0_3)])], []⟩) (b72_2 a0_3) (fun q => q = r) hr rfl ?_)
              · (simp (maxDischargeDepth := 8) [go_sem])
              · intro s2 hr
                unfold b72_2 at hr
                refine S.goB [] 1000 ?_
                simp (maxSteps := 10000000) only [go_sem, tb72_45, T45, tb72_74, T74, tb72_95, T95, tb72_96, T96, T72, Option.map_some, Int.reduceToNat, Nat.reduceEqDiff, Nat.reduceLT, Nat.reduceAdd, Nat.reduceMul, Nat.reduceSub, Nat.reduceLeDiff, reduceIte, reduceCtorEq, Tryz.results72]
                repeat refine gA ?_
                refine ⟨fun hc => ?_, fun hc => ?_⟩
                · replace hr := ifP1 hr hc
                  obtain ⟨hg14, hr⟩ := of_guard1 hr
                  obtain ⟨v10, hv10, hr⟩ := of_bind1 hr
                  try simp only [hv10, Option.getD_some, Option.isSome_some, true_and, and_assoc]
                  repeat refine gA ?_
                  refine ⟨fun hc => ?_, fun hc => ?_⟩
                  · replace hr := ifP1 hr hc
                    repeat refine gA ?_
                    have hr := of_out0 hr
                    obtain rfl := Option.some.inj hr
                    (simp (maxDischargeDepth := 8) [go_sem])
                  · replace hr := ifN1 hr hc
                    obtain ⟨hg11, hr⟩ := of_guard1 hr
                    obtain ⟨hg12, hr⟩ := of_guard1 hr
                    obtain ⟨hg13, hr⟩ := of_guard1 hr
                    repeat (first | refine gG hg11 ?_ | refine gG hg12 ?_ | refine gG hg13 ?_ | refine gA ?_ | refine gB ?_)
                    refine ⟨fun hc => ?_, fun hc => ?_⟩
                    · replace hr := ifP1 hr hc
                      repeat refine gA ?_
                      have hr := of_out0 hr
                      obtain rfl := Option.some.inj hr
                      (simp (maxDischargeDepth := 8) [go_sem])
                    · replace hr := ifN1 hr hc
                      repeat refine gA ?_
                      refine S.sees [1, 7] [(1, 1)] [] ?_ hr
                      (simp (maxDischargeDepth := 8) [go_sem])
                · replace hr := ifN1 hr hc
                  repeat refine gA ?_
                  have hr := of_out0 hr
                  repeat refine gA ?_
                  obtain rfl := Option.some.inj hr
                  (simp (maxDischargeDepth := 8) [go_sem])
theorem f72 : FnFact Tryz.prog 72 T72.sp := ⟨⟨Tryz.f72, Tryz.func72, by decide, rfl⟩, v72⟩

/- martensite/martensiteref03.SetupErr -/
def r43 (a0_0 : Int) (a0_1 : Int) (a0_2 : List (Int × Int)) (a0_3 : List ((List (Int × Int)))) : Option (Int) :=
  (r72 a0_0 a0_1 a0_2 a0_3).bind fun v1 =>
   some v1.2
def T43 : TSpec (Int × Int × (List (Int × Int)) × (List ((List (Int × Int))))) where
  enc x := [.agg [.int .i64 x.1, .int .i64 x.2.1, encF 2 d_II x.2.2.1, encF 1 d_LIIE x.2.2.2]]
  dec a := (dInt (aCell a 0 0), dInt (aCell a 0 1), decF g_II (aCell a 0 2), decF g_LIIE (aCell a 0 3))
  pre x := (r43 x.1 x.2.1 x.2.2.1 x.2.2.2).isSome = true
  res x := [.c (.d (.int .i64 ((r43 x.1 x.2.1 x.2.2.1 x.2.2.2).getD default)))]
  al := false
def tb43 : Fns := lk [(72, T72.sp)]
theorem tb43_ok : FnsOk Tryz.prog tb43 := .cons f72 (FnsOk.nil)
theorem tb43_72 : tb43 72 = some T72.sp := rfl
theorem v43 : Valid Tryz.prog 43 T43.sp := by
  refine valid_t (fn := Tryz.f43) (n := 11) ty_ok tb43_ok Tryz.func43 rfl Tryz.ntmps43 ?_
  rintro ⟨a0_0, a0_1, a0_2, a0_3⟩ hx
  obtain ⟨r, hr⟩ := Option.isSome_iff_exists.1 (show (r43 a0_0 a0_1 a0_2 a0_3).isSome = true from hx)
  have hres : T43.res (a0_0, a0_1, a0_2, a0_3) = [.c (.d (.int .i64 r))] := by simp only [T43, hr, Option.getD_some]
  refine ⟨Nat.le_of_ble_eq_true rfl, fun stop S => ?_⟩
  rw [hres] at S
  unfold r43 at hr
  refine S.goB [] 1000 ?_
  simp (maxSteps := 10000000) only [go_sem, tb43_72, T72, T43, Option.map_some, Int.reduceToNat, Nat.reduceEqDiff, Nat.reduceLT, Nat.reduceAdd, Nat.reduceMul, Nat.reduceSub, Nat.reduceLeDiff, reduceIte, reduceCtorEq, Tryz.results43]
  obtain ⟨v1, hv1, hr⟩ := of_bind0 hr
  try simp only [hv1, Option.getD_some, Option.isSome_some, true_and, and_assoc]
  repeat refine gA ?_
  obtain rfl := Option.some.inj hr
  (simp (maxDischargeDepth := 8) [go_sem])
theorem f43 : FnFact Tryz.prog 43 T43.sp := ⟨⟨Tryz.f43, Tryz.func43, by decide, rfl⟩, v43⟩

/- martensite/martensiteref03.InTable -/
def r73 (a0_0 : Int) (a0_1 : Int) (a0_2 : List (Int × Int)) (a0_3 : List ((List (Int × Int)))) (a1 : Int) : Option (Bool) :=
  if 0 ≤ 0 ∧ 0 < (a0_2.length : Int) then
   if 0 ≤ IntKind.i64.wrap ((a0_2.length : Int) - 1) ∧ IntKind.i64.wrap ((a0_2.length : Int) - 1) < (a0_2.length : Int) then
    (r74 a1 ((a0_2.getD 0 default).1) ((a0_2.getD (IntKind.i64.wrap ((a0_2.length : Int) - 1)).toNat default).1)).bind fun v1 =>
     some v1
    else none
   else none
def T73 : TSpec (Int × Int × (List (Int × Int)) × (List ((List (Int × Int)))) × Int) where
  enc x := [.agg [.int .i64 x.1, .int .i64 x.2.1, encF 2 d_II x.2.2.1, encF 1 d_LIIE x.2.2.2.1], .c (.int .i64 x.2.2.2.2)]
  dec a := (dInt (aCell a 0 0), dInt (aCell a 0 1), decF g_II (aCell a 0 2), decF g_LIIE (aCell a 0 3), dInt (aCell a 1 0))
  pre x := (r73 x.1 x.2.1 x.2.2.1 x.2.2.2.1 x.2.2.2.2).isSome = true
  res x := [.c (.d (.bool ((r73 x.1 x.2.1 x.2.2.1 x.2.2.2.1 x.2.2.2.2).getD default)))]
  al := false
def tb73 : Fns := lk [(74, T74.sp)]
theorem tb73_ok : FnsOk Tryz.prog tb73 := .cons f74 (FnsOk.nil)
theorem tb73_74 : tb73 74 = some T74.sp := rfl
theorem v73 : Valid Tryz.prog 73 T73.sp := by
  refine valid_t (fn := Tryz.f73) (n := 21) ty_ok tb73_ok Tryz.func73 rfl Tryz.ntmps73 ?_
  rintro ⟨a0_0, a0_1, a0_2, a0_3, a1⟩ hx
  obtain ⟨r, hr⟩ := Option.isSome_iff_exists.1 (show (r73 a0_0 a0_1 a0_2 a0_3 a1).isSome = true from hx)
  have hres : T73.res (a0_0, a0_1, a0_2, a0_3, a1) = [.c (.d (.bool r))] := by simp only [T73, hr, Option.getD_some]
  refine ⟨Nat.le_of_ble_eq_true rfl, fun stop S => ?_⟩
  rw [hres] at S
  unfold r73 at hr
  refine S.goB [] 1000 ?_
  simp (maxSteps := 10000000) only [go_sem, tb73_74, T74, T73, Option.map_some, Int.reduceToNat, Nat.reduceEqDiff, Nat.reduceLT, Nat.reduceAdd, Nat.reduceMul, Nat.reduceSub, Nat.reduceLeDiff, reduceIte, reduceCtorEq, Tryz.results73]
  obtain ⟨hg2, hr⟩ := of_guard0 hr
  obtain ⟨hg3, hr⟩ := of_guard0 hr
  obtain ⟨v1, hv1, hr⟩ := of_bind0 hr
  try simp only [hv1, Option.getD_some, Option.isSome_some, true_and, and_assoc]
  repeat refine gA ?_
  obtain rfl := Option.some.inj hr
  (simp (maxDischargeDepth := 8) [go_sem])
theorem f73 : FnFact Tryz.prog 73 T73.sp := ⟨⟨Tryz.f73, Tryz.func73, by decide, rfl⟩, v73⟩

/- martensite/martensiteref03.CheckState -/
def b44_1 (a0_0 : Int) (a0_1 : Int) (a0_2 : List (Int × Int)) (a0_3 : List ((List (Int × Int)))) (a1 : List (Int)) : (Int) → Ctl (Int) (Int × Int) := fun s1 =>
  if (decide (s1 < (a1.length : Int))) = true then
   if 0 ≤ s1 ∧ s1 < (a1.length : Int) then
    bindC (r73 a0_0 a0_1 a0_2 a0_3 (a1.getD s1.toNat default)) fun v1 =>
     if (!v1) = true then
      .out (some (s1, 2))
      else .next (IntKind.i64.wrap (s1 + 1))
    else .out none
   else .out (some (0, 0))
def r44 (a0_0 : Int) (a0_1 : Int) (a0_2 : List (Int × Int)) (a0_3 : List ((List (Int × Int)))) (a1 : List (Int)) : Option (Int × Int) :=
  if ((a1.length : Int) != a0_0) = true then
   some (0, 10)
   else iterC (b44_1 a0_0 a0_1 a0_2 a0_3 a1) 1000000000 0
def T44 : TSpec (Int × Int × (List (Int × Int)) × (List ((List (Int × Int)))) × (List (Int))) where
  enc x := [.agg [.int .i64 x.1, .int .i64 x.2.1, encF 2 d_II x.2.2.1, encF 1 d_LIIE x.2.2.2.1], .c (encF 1 d_I x.2.2.2.2)]
  dec a := (dInt (aCell a 0 0), dInt (aCell a 0 1), decF g_II (aCell a 0 2), decF g_LIIE (aCell a 0 3), decF g_I (aCell a 1 0))
  pre x := (r44 x.1 x.2.1 x.2.2.1 x.2.2.2.1 x.2.2.2.2).isSome = true
  res x := [.c (.d (.int .i64 (((r44 x.1 x.2.1 x.2.2.1 x.2.2.2.1 x.2.2.2.2).getD default).1))), .c (.d (.int .i64 (((r44 x.1 x.2.1 x.2.2.1 x.2.2.2.1 x.2.2.2.2).getD default).2)))]
  al := false
def tb44 : Fns := lk [(73, T73.sp)]
theorem tb44_ok : FnsOk Tryz.prog tb44 := .cons f73 (FnsOk.nil)
theorem tb44_73 : tb44 73 = some T73.sp := rfl
theorem v44 : Valid Tryz.prog 44 T44.sp := by
  refine valid_t (fn := Tryz.f44) (n := 26) ty_ok tb44_ok Tryz.func44 rfl Tryz.ntmps44 ?_
  rintro ⟨a0_0, a0_1, a0_2, a0_3, a1⟩ hx
  obtain ⟨r, hr⟩ := Option.isSome_iff_exists.1 (show (r44 a0_0 a0_1 a0_2 a0_3 a1).isSome = true from hx)
  have hres : T44.res (a0_0, a0_1, a0_2, a0_3, a1) = [.c (.d (.int .i64 r.1)), .c (.d (.int .i64 r.2))] := by simp only [T44, hr, Option.getD_some]
  refine ⟨Nat.le_of_ble_eq_true rfl, fun stop S => ?_⟩
  rw [hres] at S
  unfold r44 at hr
  refine S.goB [] 1000 ?_
  simp (maxSteps := 10000000) only [go_sem, tb44_73, T73, T44, Option.map_some, Int.reduceToNat, Nat.reduceEqDiff, Nat.reduceLT, Nat.reduceAdd, Nat.reduceMul, Nat.reduceSub, Nat.reduceLeDiff, reduceIte, reduceCtorEq, Tryz.results44]
  repeat refine gA ?_
  refine ⟨fun hc => ?_, fun hc => ?_⟩
  · replace hr := ifP hr hc
    repeat refine gA ?_
    obtain rfl := Option.some.inj hr
    (simp (maxDischargeDepth := 8) [go_sem])
  · replace hr := ifN hr hc
    repeat refine gA ?_
    refine S.sees [1, 2, 6] [(2, 2)] [] ?_ (Stop.iter S (fun s1 => ⟨[(1, .c (.d (encF 1 d_I a1))), (2, .c (.ref 2 0)), (6, .c (.d (.int .i64 s1)))], [(2, [.d (.int .i64 a0_0), .d (.int .i64 a0_1), .d (encF 2 d_II a0_2), .d (encF 1 d_LIIE a0_3)])], []⟩) (b44_1 a0_0 a0_1 a0_2 a0_3 a1) (fun q => q = r) hr rfl ?_)
    · (simp (maxDischargeDepth := 8) [go_sem])
    · intro s1 hr
      unfold b44_1 at hr
      refine S.goB [] 1000 ?_
      simp (maxSteps := 10000000) only [go_sem, tb44_73, T73, T44, Option.map_some, Int.reduceToNat, Nat.reduceEqDiff, Nat.reduceLT, Nat.reduceAdd, Nat.reduceMul, Nat.reduceSub, Nat.reduceLeDiff, reduceIte, reduceCtorEq, Tryz.results44]
      repeat refine gA ?_
      refine ⟨fun hc => ?_, fun hc => ?_⟩
      · replace hr := ifP1 hr hc
        obtain ⟨hg2, hr⟩ := of_guard1 hr
        obtain ⟨v1, hv1, hr⟩ := of_bind1 hr
        try simp only [hv1, Option.getD_some, Option.isSome_some, true_and, and_assoc]
        repeat refine gA ?_
        refine ⟨fun hc => ?_, fun hc => ?_⟩
        · replace hr := ifP1 hr hc
          repeat refine gA ?_
          have hr := of_out0 hr
          obtain rfl := Option.some.inj hr
          (simp (maxDischargeDepth := 8) [go_sem])
        · replace hr := ifN1 hr hc
          repeat refine gA ?_
          refine S.sees [1, 2, 6] [(2, 2)] [] ?_ hr
          (simp (maxDischargeDepth := 8) [go_sem])
      · replace hr := ifN1 hr hc
        repeat refine gA ?_
        have hr := of_out0 hr
        repeat refine gA ?_
        obtain rfl := Option.some.inj hr
        (simp (maxDischargeDepth := 8) [go_sem])
theorem f44 : FnFact Tryz.prog 44 T44.sp := ⟨⟨Tryz.f44, Tryz.func44, by decide, rfl⟩, v44⟩

/- martensite/martensiteref03.StateErr -/
def r15 (a0_0 : Int) (a0_1 : Int) (a0_2 : List (Int × Int)) (a0_3 : List ((List (Int × Int)))) (a1 : List (Int)) : Option (Int) :=
  (r43 a0_0 a0_1 a0_2 a0_3).bind fun v1 =>
   if (v1 != 0) = true then
    some v1
    else (r44 a0_0 a0_1 a0_2 a0_3 a1).bind fun v2 =>
     some v2.2
def T15 : TSpec (Int × Int × (List (Int × Int)) × (List ((List (Int × Int)))) × (List (Int))) where
  enc x := [.agg [.int .i64 x.1, .int .i64 x.2.1, encF 2 d_II x.2.2.1, encF 1 d_LIIE x.2.2.2.1], .c (encF 1 d_I x.2.2.2.2)]
  dec a := (dInt (aCell a 0 0), dInt (aCell a 0 1), decF g_II (aCell a 0 2), decF g_LIIE (aCell a 0 3), decF g_I (aCell a 1 0))
  pre x := (r15 x.1 x.2.1 x.2.2.1 x.2.2.2.1 x.2.2.2.2).isSome = true
  res x := [.c (.d (.int .i64 ((r15 x.1 x.2.1 x.2.2.1 x.2.2.2.1 x.2.2.2.2).getD default)))]
  al := false
def tb15 : Fns := lk [(43, T43.sp), (44, T44.sp)]
theorem tb15_ok : FnsOk Tryz.prog tb15 := .cons f43 (.cons f44 (FnsOk.nil))
theorem tb15_43 : tb15 43 = some T43.sp := rfl
theorem tb15_44 : tb15 44 = some T44.sp := rfl
theorem v15 : Valid Tryz.prog 15 T15.sp := by
  refine valid_t (fn := Tryz.f15) (n := 20) ty_ok tb15_ok Tryz.func15 rfl Tryz.ntmps15 ?_
  rintro ⟨a0_0, a0_1, a0_2, a0_3, a1⟩ hx
  obtain ⟨r, hr⟩ := Option.isSome_iff_exists.1 (show (r15 a0_0 a0_1 a0_2 a0_3 a1).isSome = true from hx)
  have hres : T15.res (a0_0, a0_1, a0_2, a0_3, a1) = [.c (.d (.int .i64 r))] := by simp only [T15, hr, Option.getD_some]
  refine ⟨Nat.le_of_ble_eq_true rfl, fun stop S => ?_⟩
  rw [hres] at S
  unfold r15 at hr
  refine S.goB [] 1000 ?_
  simp (maxSteps := 10000000) only [go_sem, tb15_43, T43, tb15_44, T44, T15, Option.map_some, Int.reduceToNat, Nat.reduceEqDiff, Nat.reduceLT, Nat.reduceAdd, Nat.reduceMul, Nat.reduceSub, Nat.reduceLeDiff, reduceIte, reduceCtorEq, Tryz.results15]
  obtain ⟨v1, hv1, hr⟩ := of_bind0 hr
  try simp only [hv1, Option.getD_some, Option.isSome_some, true_and, and_assoc]
  repeat refine gA ?_
  refine ⟨fun hc => ?_, fun hc => ?_⟩
  · replace hr := ifP hr hc
    repeat refine gA ?_
    obtain rfl := Option.some.inj hr
    (simp (maxDischargeDepth := 8) [go_sem])
  · replace hr := ifN hr hc
    obtain ⟨v2, hv2, hr⟩ := of_bind0 hr
    try simp only [hv2, Option.getD_some, Option.isSome_some, true_and, and_assoc]
    repeat refine gA ?_
    obtain rfl := Option.some.inj hr
    (simp (maxDischargeDepth := 8) [go_sem])
theorem f15 : FnFact Tryz.prog 15 T15.sp := ⟨⟨Tryz.f15, Tryz.func15, by decide, rfl⟩, v15⟩

/- martensite/martensiteref03.KelvinErr -/
def r16 (a0 : Int) : Option (Int) :=
  (r45 a0).bind fun v1 =>
   if (!v1) = true then
    some 2
    else some 0
def T16 : TSpec (Int) where
  enc x := [.c (.int .i64 x)]
  dec a := dInt (aCell a 0 0)
  pre x := (r16 x).isSome = true
  res x := [.c (.d (.int .i64 ((r16 x).getD default)))]
  al := false
def tb16 : Fns := lk [(45, T45.sp)]
theorem tb16_ok : FnsOk Tryz.prog tb16 := .cons f45 (FnsOk.nil)
theorem tb16_45 : tb16 45 = some T45.sp := rfl
theorem v16 : Valid Tryz.prog 16 T16.sp := by
  refine valid_t (fn := Tryz.f16) (n := 6) ty_ok tb16_ok Tryz.func16 rfl Tryz.ntmps16 ?_
  rintro a0 hx
  obtain ⟨r, hr⟩ := Option.isSome_iff_exists.1 (show (r16 a0).isSome = true from hx)
  have hres : T16.res a0 = [.c (.d (.int .i64 r))] := by simp only [T16, hr, Option.getD_some]
  refine ⟨Nat.le_of_ble_eq_true rfl, fun stop S => ?_⟩
  rw [hres] at S
  unfold r16 at hr
  refine S.goB [] 1000 ?_
  simp (maxSteps := 10000000) only [go_sem, tb16_45, T45, T16, Option.map_some, Int.reduceToNat, Nat.reduceEqDiff, Nat.reduceLT, Nat.reduceAdd, Nat.reduceMul, Nat.reduceSub, Nat.reduceLeDiff, reduceIte, reduceCtorEq, Tryz.results16]
  obtain ⟨v1, hv1, hr⟩ := of_bind0 hr
  try simp only [hv1, Option.getD_some, Option.isSome_some, true_and, and_assoc]
  repeat refine gA ?_
  refine ⟨fun hc => ?_, fun hc => ?_⟩
  · replace hr := ifP hr hc
    repeat refine gA ?_
    obtain rfl := Option.some.inj hr
    (simp (maxDischargeDepth := 8) [go_sem])
  · replace hr := ifN hr hc
    repeat refine gA ?_
    obtain rfl := Option.some.inj hr
    (simp (maxDischargeDepth := 8) [go_sem])
theorem f16 : FnFact Tryz.prog 16 T16.sp := ⟨⟨Tryz.f16, Tryz.func16, by decide, rfl⟩, v16⟩

/- martensite/martensiteref03.Kelvin -/
def b75_1 (a0_2 : List (Int × Int)) (a1 : Int) : (Int) → Ctl (Int) (Int × Int) := fun s1 =>
  if 0 ≤ s1 ∧ s1 < (a0_2.length : Int) then
   if (decide (((a0_2.getD s1.toNat default).1) < a1)) = true then
    .next (IntKind.i64.wrap (s1 + 1))
    else .out (if 0 ≤ IntKind.i64.wrap (s1 - 1) ∧ IntKind.i64.wrap (s1 - 1) < (a0_2.length : Int) then
     if 0 ≤ s1 ∧ s1 < (a0_2.length : Int) then
      some (IntKind.i64.wrap ((IntKind.i64.wrap (((a0_2.getD (IntKind.i64.wrap (s1 - 1)).toNat default).2) * (IntKind.i64.wrap (((a0_2.getD s1.toNat default).1) - ((a0_2.getD (IntKind.i64.wrap (s1 - 1)).toNat default).1))))) + (IntKind.i64.wrap ((IntKind.i64.wrap (((a0_2.getD s1.toNat default).2) - ((a0_2.getD (IntKind.i64.wrap (s1 - 1)).toNat default).2))) * (IntKind.i64.wrap (a1 - ((a0_2.getD (IntKind.i64.wrap (s1 - 1)).toNat default).1)))))), IntKind.i64.wrap (((a0_2.getD s1.toNat default).1) - ((a0_2.getD (IntKind.i64.wrap (s1 - 1)).toNat default).1)))
      else none
     else none)
   else .out none
def r75 (a0_0 : Int) (a0_1 : Int) (a0_2 : List (Int × Int)) (a0_3 : List ((List (Int × Int)))) (a1 : Int) : Option (Int × Int) :=
  iterC (b75_1 a0_2 a1) 1000000000 1
def T75 : TSpec (Int × Int × (List (Int × Int)) × (List ((List (Int × Int)))) × Int) where
  enc x := [.agg [.int .i64 x.1, .int .i64 x.2.1, encF 2 d_II x.2.2.1, encF 1 d_LIIE x.2.2.2.1], .c (.int .i64 x.2.2.2.2)]
  dec a := (dInt (aCell a 0 0), dInt (aCell a 0 1), decF g_II (aCell a 0 2), decF g_LIIE (aCell a 0 3), dInt (aCell a 1 0))
  pre x := (r75 x.1 x.2.1 x.2.2.1 x.2.2.2.1 x.2.2.2.2).isSome = true
  res x := [.c (.d (.int .i64 (((r75 x.1 x.2.1 x.2.2.1 x.2.2.2.1 x.2.2.2.2).getD default).1))), .c (.d (.int .i64 (((r75 x.1 x.2.1 x.2.2.1 x.2.2.2.1 x.2.2.2.2).getD default).2)))]
  al := false
def tb75 : Fns := lk []
theorem tb75_ok : FnsOk Tryz.prog tb75 := FnsOk.nil
theorem v75 : Valid Tryz.prog 75 T75.sp := by
  refine valid_t (fn := Tryz.f75) (n := 52) ty_ok tb75_ok Tryz.func75 rfl Tryz.ntmps75 ?_
  rintro ⟨a0_0, a0_1, a0_2, a0_3, a1⟩ hx
  obtain ⟨r, hr⟩ := Option.isSome_iff_exists.1 (show (r75 a0_0 a0_1 a0_2 a0_3 a1).isSome = true from hx)
  have hres : T75.res (a0_0, a0_1, a0_2, a0_3, a1) = [.c (.d (.int .i64 r.1)), .c (.d (.int .i64 r.2))] := by simp only [T75, hr, Option.getD_some]
  refine ⟨Nat.le_of_ble_eq_true rfl, fun stop S => ?_⟩
  rw [hres] at S
  unfold r75 at hr
  refine S.goB [] 1000 ?_
  simp (maxSteps := 10000000) only [go_sem, T75, Option.map_some, Int.reduceToNat, Nat.reduceEqDiff, Nat.reduceLT, Nat.reduceAdd, Nat.reduceMul, Nat.reduceSub, Nat.reduceLeDiff, reduceIte, reduceCtorEq, Tryz.results75]
  repeat refine gA ?_
  refine S.sees [1, 2, 6] [(2, 2)] [] ?_ (Stop.iter S (fun s1 => ⟨[(1, .c (.d (.int .i64 a1))), (2, .c (.ref 2 0)), (6, .c (.d (.int .i64 s1)))], [(2, [.d (.int .i64 a0_0), .d (.int .i64 a0_1), .d (encF 2 d_II a0_2), .d (encF 1 d_LIIE a0_3)])], []⟩) (b75_1 a0_2 a1) (fun q => q = r) hr rfl ?_)
  · (simp (maxDischargeDepth := 8) [go_sem])
  · intro s1 hr
    unfold b75_1 at hr
    refine S.goB [] 1000 ?_
    simp (maxSteps := 10000000) only [go_sem, T75, Option.map_some, Int.reduceToNat, Nat.reduceEqDiff, Nat.reduceLT, Nat.reduceAdd, Nat.reduceMul, Nat.reduceSub, Nat.reduceLeDiff, reduceIte, reduceCtorEq, Tryz.results75]
    obtain ⟨hg3, hr⟩ := of_guard1 hr
    repeat refine gA ?_
    refine ⟨fun hc => ?_, fun hc => ?_⟩
    · replace hr := ifP1 hr hc
      repeat refine gA ?_
      refine S.sees [1, 2, 6] [(2, 2)] [] ?_ hr
      (simp (maxDischargeDepth := 8) [go_sem])
    · replace hr := ifN1 hr hc
      repeat refine gA ?_
      have hr := of_out0 hr
      obtain ⟨hg1, hr⟩ := of_guard0 hr
      obtain ⟨hg2, hr⟩ := of_guard0 hr
      repeat refine gA ?_
      obtain rfl := Option.some.inj hr
      (simp (maxDischargeDepth := 8) [go_sem])
theorem f75 : FnFact Tryz.prog 75 T75.sp := ⟨⟨Tryz.f75, Tryz.func75, by decide, rfl⟩, v75⟩

/- martensite/martensiteref03.IsAbove -/
def r46 (a0_0 : Int) (a0_1 : Int) (a0_2 : List (Int × Int)) (a0_3 : List ((List (Int × Int)))) (a1 : Int) (a2 : Int) : Option (Bool) :=
  (r75 a0_0 a0_1 a0_2 a0_3 a1).bind fun v1 =>
   some (decide (v1.1 ≥ (IntKind.i64.wrap (a2 * v1.2))))
def T46 : TSpec (Int × Int × (List (Int × Int)) × (List ((List (Int × Int)))) × Int × Int) where
  enc x := [.agg [.int .i64 x.1, .int .i64 x.2.1, encF 2 d_II x.2.2.1, encF 1 d_LIIE x.2.2.2.1], .c (.int .i64 x.2.2.2.2.1), .c (.int .i64 x.2.2.2.2.2)]
  dec a := (dInt (aCell a 0 0), dInt (aCell a 0 1), decF g_II (aCell a 0 2), decF g_LIIE (aCell a 0 3), dInt (aCell a 1 0), dInt (aCell a 2 0))
  pre x := (r46 x.1 x.2.1 x.2.2.1 x.2.2.2.1 x.2.2.2.2.1 x.2.2.2.2.2).isSome = true
  res x := [.c (.d (.bool ((r46 x.1 x.2.1 x.2.2.1 x.2.2.2.1 x.2.2.2.2.1 x.2.2.2.2.2).getD default)))]
  al := false
def tb46 : Fns := lk [(75, T75.sp)]
theorem tb46_ok : FnsOk Tryz.prog tb46 := .cons f75 (FnsOk.nil)
theorem tb46_75 : tb46 75 = some T75.sp := rfl
theorem v46 : Valid Tryz.prog 46 T46.sp := by
  refine valid_t (fn := Tryz.f46) (n := 20) ty_ok tb46_ok Tryz.func46 rfl Tryz.ntmps46 ?_
  rintro ⟨a0_0, a0_1, a0_2, a0_3, a1, a2⟩ hx
  obtain ⟨r, hr⟩ := Option.isSome_iff_exists.1 (show (r46 a0_0 a0_1 a0_2 a0_3 a1 a2).isSome = true from hx)
  have hres : T46.res (a0_0, a0_1, a0_2, a0_3, a1, a2) = [.c (.d (.bool r))] := by simp only [T46, hr, Option.getD_some]
  refine ⟨Nat.le_of_ble_eq_true rfl, fun stop S => ?_⟩
  rw [hres] at S
  unfold r46 at hr
  refine S.goB [] 1000 ?_
  simp (maxSteps := 10000000) only [go_sem, tb46_75, T75, T46, Option.map_some, Int.reduceToNat, Nat.reduceEqDiff, Nat.reduceLT, Nat.reduceAdd, Nat.reduceMul, Nat.reduceSub, Nat.reduceLeDiff, reduceIte, reduceCtorEq, Tryz.results46]
  obtain ⟨v1, hv1, hr⟩ := of_bind0 hr
  try simp only [hv1, Option.getD_some, Option.isSome_some, true_and, and_assoc]
  repeat refine gA ?_
  obtain rfl := Option.some.inj hr
  (simp (maxDischargeDepth := 8) [go_sem])
theorem f46 : FnFact Tryz.prog 46 T46.sp := ⟨⟨Tryz.f46, Tryz.func46, by decide, rfl⟩, v46⟩
end Go.Proofs.YtcbiiijnaeibhaaGreat

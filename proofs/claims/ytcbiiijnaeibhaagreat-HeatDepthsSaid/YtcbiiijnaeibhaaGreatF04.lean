/- Contracts of functions, written by wip/dec. -/
import Derived.Test.YtcbiiijnaeibhaaGreatF00
import Derived.Test.YtcbiiijnaeibhaaGreatF01
import Derived.Test.YtcbiiijnaeibhaaGreatF02
import Derived.Test.YtcbiiijnaeibhaaGreatF03
set_option linter.unusedVariables false
set_option linter.unusedSimpArgs false
set_option maxHeartbeats 4000000
set_option maxRecDepth 20000
namespace Go.Proofs.YtcbiiijnaeibhaaGreat
open Go.Abs
/- martensite/heat.DepthAbove -/
def r8 (a0_0 : Int) (a0_1 : Int) (a0_2 : List (Int × Int)) (a0_3 : List ((List (Int × Int)))) (a1 : List (Int)) (a2 : Int) : Option (Int × Int) :=
  (r31 a0_0 a0_1 a0_2 a0_3 a1).bind fun v1 =>
   (r33 a2).bind fun v2 =>
    (r32 [v1.2.2.2.2.2.2, v2]).bind fun v3 =>
     if (v3 != 0) = true then
      some (0, v3)
      else (r34 v1.1 v1.2.1 v1.2.2.1 v1.2.2.2.1 v1.2.2.2.2.1 v1.2.2.2.2.2.1 a1 a2).bind fun v4 =>
       some (v4, 0)
def T8 : TSpec (Int × Int × (List (Int × Int)) × (List ((List (Int × Int)))) × (List (Int)) × Int) where
  enc x := [.agg [.int .i64 x.1, .int .i64 x.2.1, encF 2 d_II x.2.2.1, encF 1 d_LIIE x.2.2.2.1], .c (encF 1 d_I x.2.2.2.2.1), .c (.int .i64 x.2.2.2.2.2)]
  dec a := (dInt (aCell a 0 0), dInt (aCell a 0 1), decF g_II (aCell a 0 2), decF g_LIIE (aCell a 0 3), decF g_I (aCell a 1 0), dInt (aCell a 2 0))
  pre x := (r8 x.1 x.2.1 x.2.2.1 x.2.2.2.1 x.2.2.2.2.1 x.2.2.2.2.2).isSome = true
  res x := [.c (.d (.int .i64 (((r8 x.1 x.2.1 x.2.2.1 x.2.2.2.1 x.2.2.2.2.1 x.2.2.2.2.2).getD default).1))), .c (.d (.int .i64 (((r8 x.1 x.2.1 x.2.2.1 x.2.2.2.1 x.2.2.2.2.1 x.2.2.2.2.2).getD default).2)))]
  al := false
def tb8 : Fns := lk [(31, T31.sp), (32, T32.sp), (33, T33.sp), (34, T34.sp)]
theorem tb8_ok : FnsOk Tryz.prog tb8 := .cons f31 (.cons f32 (.cons f33 (.cons f34 (FnsOk.nil))))
theorem tb8_31 : tb8 31 = some T31.sp := rfl
theorem tb8_32 : tb8 32 = some T32.sp := rfl
theorem tb8_33 : tb8 33 = some T33.sp := rfl
theorem tb8_34 : tb8 34 = some T34.sp := rfl
theorem v8 : Valid Tryz.prog 8 T8.sp := by
  refine valid_t (fn := Tryz.f8) (n := 28) ty_ok tb8_ok Tryz.func8 rfl Tryz.ntmps8 ?_
  rintro ⟨a0_0, a0_1, a0_2, a0_3, a1, a2⟩ hx
  obtain ⟨r, hr⟩ := Option.isSome_iff_exists.1 (show (r8 a0_0 a0_1 a0_2 a0_3 a1 a2).isSome = true from hx)
  have hres : T8.res (a0_0, a0_1, a0_2, a0_3, a1, a2) = [.c (.d (.int .i64 r.1)), .c (.d (.int .i64 r.2))] := by simp only [T8, hr, Option.getD_some]
  refine ⟨Nat.le_of_ble_eq_true rfl, fun stop S => ?_⟩
  rw [hres] at S
  unfold r8 at hr
  refine S.goB [] 1000 ?_
  simp (maxSteps := 10000000) only [go_sem, tb8_31, T31, tb8_32, T32, tb8_33, T33, tb8_34, T34, T8, Option.map_some, Int.reduceToNat, Nat.reduceEqDiff, Nat.reduceLT, Nat.reduceAdd, Nat.reduceMul, Nat.reduceSub, Nat.reduceLeDiff, reduceIte, reduceCtorEq, Tryz.results8]
  obtain ⟨v1, hv1, hr⟩ := of_bind0 hr
  obtain ⟨v2, hv2, hr⟩ := of_bind0 hr
  obtain ⟨v3, hv3, hr⟩ := of_bind0 hr
  try simp only [hv1, hv2, hv3, Option.getD_some, Option.isSome_some, true_and, and_assoc]
  repeat refine gA ?_
  refine ⟨fun hc => ?_, fun hc => ?_⟩
  · replace hr := ifP hr hc
    repeat refine gA ?_
    obtain rfl := Option.some.inj hr
    (simp (maxDischargeDepth := 8) [go_sem])
  · replace hr := ifN hr hc
    obtain ⟨v4, hv4, hr⟩ := of_bind0 hr
    try simp only [hv4, Option.getD_some, Option.isSome_some, true_and, and_assoc]
    repeat refine gA ?_
    obtain rfl := Option.some.inj hr
    (simp (maxDischargeDepth := 8) [go_sem])
theorem f8 : FnFact Tryz.prog 8 T8.sp := ⟨⟨Tryz.f8, Tryz.func8, by decide, rfl⟩, v8⟩

/- martensite/heat.ShortestTo -/
def b25_1 (a2_0 : List (Int)) (a2_1 : Int) (a2_2 : Int) (a2_3 : Int) (a2_4 : Int) (v1 : Int × Int × (List (Int × Int)) × (List ((List (Int × Int)))) × (List (Int × Int)) × (List ((List (Int × Int)))) × Int) : ((List (Int)) × Int × Int) → Ctl ((List (Int)) × Int × Int) (Int × Int) := fun s1 =>
  if (s1.2.1 == 0) = true then
   bindC (r34 v1.1 v1.2.1 v1.2.2.1 v1.2.2.2.1 v1.2.2.2.2.1 v1.2.2.2.2.2.1 s1.1 a2_2) fun v7 =>
    if (decide (v7 ≥ a2_3)) = true then
     .out (some (s1.2.2, 0))
     else if (s1.2.2 == a2_4) = true then
      .out (some (0, 12))
      else bindC (r54 v1.1 v1.2.1 v1.2.2.1 v1.2.2.2.1 v1.2.2.2.2.1 v1.2.2.2.2.2.1 s1.1 a2_0 a2_1) fun v8 =>
       .next (v8.1, v8.2.2, IntKind.i64.wrap (s1.2.2 + 1))
   else .out (some (0, s1.2.1))
def b25_2 (a2_0 : List (Int)) (a2_1 : Int) (a2_2 : Int) (a2_3 : Int) (a2_4 : Int) (v1 : Int × Int × (List (Int × Int)) × (List ((List (Int × Int)))) × (List (Int × Int)) × (List ((List (Int × Int)))) × Int) : ((List (Int)) × Int × Int) → Ctl ((List (Int)) × Int × Int) (Int × Int) := fun s2 =>
  if (s2.2.1 == 0) = true then
   bindC (r34 v1.1 v1.2.1 v1.2.2.1 v1.2.2.2.1 v1.2.2.2.2.1 v1.2.2.2.2.2.1 s2.1 a2_2) fun v10 =>
    if (decide (v10 ≥ a2_3)) = true then
     .out (some (s2.2.2, 0))
     else if (s2.2.2 == a2_4) = true then
      .out (some (0, 12))
      else bindC (r54 v1.1 v1.2.1 v1.2.2.1 v1.2.2.2.1 v1.2.2.2.2.1 v1.2.2.2.2.2.1 s2.1 a2_0 a2_1) fun v11 =>
       .next (v11.1, v11.2.2, IntKind.i64.wrap (s2.2.2 + 1))
   else .out (some (0, s2.2.1))
def r25 (a0_0 : Int) (a0_1 : Int) (a0_2 : List (Int × Int)) (a0_3 : List ((List (Int × Int)))) (a1 : List (Int)) (a2_0 : List (Int)) (a2_1 : Int) (a2_2 : Int) (a2_3 : Int) (a2_4 : Int) : Option (Int × Int) :=
  (r31 a0_0 a0_1 a0_2 a0_3 a1).bind fun v1 =>
   if (v1.2.2.2.2.2.2 == 0) = true then
    (r57 a2_3 1 v1.1).bind fun v2 =>
     if v2 = true → (r57 a2_4 0 200).isSome = true then
      (r53 v1.1 v1.2.1 v1.2.2.1 v1.2.2.2.1 v1.2.2.2.2.1 v1.2.2.2.2.2.1 a2_0 a2_1).bind fun v3 =>
       (r33 a2_2).bind fun v4 =>
        (r58 (v2 && ((r57 a2_4 0 200).getD default)) 2).bind fun v5 =>
         (r32 [v3, v4, v5]).bind fun v6 =>
          iterC (b25_1 a2_0 a2_1 a2_2 a2_3 a2_4 v1) 1000000000 (a1, v6, 0)
      else none
    else iterC (b25_2 a2_0 a2_1 a2_2 a2_3 a2_4 v1) 1000000000 (a1, v1.2.2.2.2.2.2, 0)
def T25 : TSpec (Int × Int × (List (Int × Int)) × (List ((List (Int × Int)))) × (List (Int)) × (List (Int)) × Int × Int × Int × Int) where
  enc x := [.agg [.int .i64 x.1, .int .i64 x.2.1, encF 2 d_II x.2.2.1, encF 1 d_LIIE x.2.2.2.1], .c (encF 1 d_I x.2.2.2.2.1), .agg [encF 1 d_I x.2.2.2.2.2.1, .int .i64 x.2.2.2.2.2.2.1, .int .i64 x.2.2.2.2.2.2.2.1, .int .i64 x.2.2.2.2.2.2.2.2.1, .int .i64 x.2.2.2.2.2.2.2.2.2]]
  dec a := (dInt (aCell a 0 0), dInt (aCell a 0 1), decF g_II (aCell a 0 2), decF g_LIIE (aCell a 0 3), decF g_I (aCell a 1 0), decF g_I (aCell a 2 0), dInt (aCell a 2 1), dInt (aCell a 2 2), dInt (aCell a 2 3), dInt (aCell a 2 4))
  pre x := (r25 x.1 x.2.1 x.2.2.1 x.2.2.2.1 x.2.2.2.2.1 x.2.2.2.2.2.1 x.2.2.2.2.2.2.1 x.2.2.2.2.2.2.2.1 x.2.2.2.2.2.2.2.2.1 x.2.2.2.2.2.2.2.2.2).isSome = true
  res x := [.c (.d (.int .i64 (((r25 x.1 x.2.1 x.2.2.1 x.2.2.2.1 x.2.2.2.2.1 x.2.2.2.2.2.1 x.2.2.2.2.2.2.1 x.2.2.2.2.2.2.2.1 x.2.2.2.2.2.2.2.2.1 x.2.2.2.2.2.2.2.2.2).getD default).1))), .c (.d (.int .i64 (((r25 x.1 x.2.1 x.2.2.1 x.2.2.2.1 x.2.2.2.2.1 x.2.2.2.2.2.1 x.2.2.2.2.2.2.1 x.2.2.2.2.2.2.2.1 x.2.2.2.2.2.2.2.2.1 x.2.2.2.2.2.2.2.2.2).getD default).2)))]
  al := false
def tb25 : Fns := lk [(31, T31.sp), (32, T32.sp), (33, T33.sp), (34, T34.sp), (53, T53.sp), (54, T54.sp), (57, T57.sp), (58, T58.sp)]
theorem tb25_ok : FnsOk Tryz.prog tb25 := .cons f31 (.cons f32 (.cons f33 (.cons f34 (.cons f53 (.cons f54 (.cons f57 (.cons f58 (FnsOk.nil))))))))
theorem tb25_31 : tb25 31 = some T31.sp := rfl
theorem tb25_32 : tb25 32 = some T32.sp := rfl
theorem tb25_33 : tb25 33 = some T33.sp := rfl
theorem tb25_34 : tb25 34 = some T34.sp := rfl
theorem tb25_53 : tb25 53 = some T53.sp := rfl
theorem tb25_54 : tb25 54 = some T54.sp := rfl
theorem tb25_57 : tb25 57 = some T57.sp := rfl
theorem tb25_58 : tb25 58 = some T58.sp := rfl
theorem v25 : Valid Tryz.prog 25 T25.sp := by
  refine valid_t (fn := Tryz.f25) (n := 69) ty_ok tb25_ok Tryz.func25 rfl Tryz.ntmps25 ?_
  rintro ⟨a0_0, a0_1, a0_2, a0_3, a1, a2_0, a2_1, a2_2, a2_3, a2_4⟩ hx
  obtain ⟨r, hr⟩ := Option.isSome_iff_exists.1 (show (r25 a0_0 a0_1 a0_2 a0_3 a1 a2_0 a2_1 a2_2 a2_3 a2_4).isSome = true from hx)
  have hres : T25.res (a0_0, a0_1, a0_2, a0_3, a1, a2_0, a2_1, a2_2, a2_3, a2_4) = [.c (.d (.int .i64 r.1)), .c (.d (.int .i64 r.2))] := by simp only [T25, hr, Option.getD_some]
  refine ⟨Nat.le_of_ble_eq_true rfl, fun stop S => ?_⟩
  rw [hres] at S
  unfold r25 at hr
  refine S.goB [] 1000 ?_
  simp (maxSteps := 10000000) only [go_sem, tb25_31, T31, tb25_32, T32, tb25_33, T33, tb25_34, T34, tb25_53, T53, tb25_54, T54, tb25_57, T57, tb25_58, T58, T25, Option.map_some, Int.reduceToNat, Nat.reduceEqDiff, Nat.reduceLT, Nat.reduceAdd, Nat.reduceMul, Nat.reduceSub, Nat.reduceLeDiff, reduceIte, reduceCtorEq, Tryz.results25]
  obtain ⟨v1, hv1, hr⟩ := of_bind0 hr
  try simp only [hv1, Option.getD_some, Option.isSome_some, true_and, and_assoc]
  repeat refine gA ?_
  refine ⟨fun hc => ?_, fun hc => ?_⟩
  · replace hr := ifP hr hc
    obtain ⟨v2, hv2, hr⟩ := of_bind0 hr
    obtain ⟨hg9, hr⟩ := of_guard0 hr
    obtain ⟨v3, hv3, hr⟩ := of_bind0 hr
    obtain ⟨v4, hv4, hr⟩ := of_bind0 hr
    obtain ⟨v5, hv5, hr⟩ := of_bind0 hr
    obtain ⟨v6, hv6, hr⟩ := of_bind0 hr
    try simp only [hv2, hv3, hv4, hv5, hv6, Option.getD_some, Option.isSome_some, true_and, and_assoc]
    repeat (first | refine gG hg9 ?_ | refine gA ?_ | refine gB ?_)
    refine S.sees [1, 5, 8, 9, 11] [(5, 5), (8, 8)] [(15, 15), (10015, 10015)] ?_ (Stop.iter S (fun s1 => ⟨[(1, .c (.d (encF 1 d_I s1.1))), (5, .c (.ref 5 0)), (8, .c (.ref 8 0)), (9, .c (.d (.int .i64 s1.2.1))), (11, .c (.d (.int .i64 s1.2.2)))], [(5, [.d (encF 1 d_I a2_0), .d (.int .i64 a2_1), .d (.int .i64 a2_2), .d (.int .i64 a2_3), .d (.int .i64 a2_4)]), (8, [.d (.int .i64 v1.1), .d (.int .i64 v1.2.1), .d (encF 2 d_II v1.2.2.1), .d (encF 1 d_LIIE v1.2.2.2.1), .own 15, .own 10015])], [(15, .owned (encF 2 d_II v1.2.2.2.2.1)), (10015, .owned (encF 1 d_LIIE v1.2.2.2.2.2.1))]⟩) (b25_1 a2_0 a2_1 a2_2 a2_3 a2_4 v1) (fun q => q = r) hr rfl ?_)
    · (simp (maxDischargeDepth := 8) [go_sem])
    · intro s1 hr
      unfold b25_1 at hr
      refine S.goB [] 1000 ?_
      simp (maxSteps := 10000000) only [go_sem, tb25_31, T31, tb25_32, T32, tb25_33, T33, tb25_34, T34, tb25_53, T53, tb25_54, T54, tb25_57, T57, tb25_58, T58, T25, Option.map_some, Int.reduceToNat, Nat.reduceEqDiff, Nat.reduceLT, Nat.reduceAdd, Nat.reduceMul, Nat.reduceSub, Nat.reduceLeDiff, reduceIte, reduceCtorEq, Tryz.results25]
      repeat refine gA ?_
      refine ⟨fun hc => ?_, fun hc => ?_⟩
      · replace hr := ifP1 hr hc
        obtain ⟨v7, hv7, hr⟩ := of_bind1 hr
        try simp only [hv7, Option.getD_some, Option.isSome_some, true_and, and_assoc]
        repeat refine gA ?_
        refine ⟨fun hc => ?_, fun hc => ?_⟩
        · replace hr := ifP1 hr hc
          repeat refine gA ?_
          have hr := of_out0 hr
          obtain rfl := Option.some.inj hr
          (simp (maxDischargeDepth := 8) [go_sem])
        · replace hr := ifN1 hr hc
          repeat refine gA ?_
          refine ⟨fun hc => ?_, fun hc => ?_⟩
          · replace hr := ifP1 hr hc
            repeat refine gA ?_
            have hr := of_out0 hr
            obtain rfl := Option.some.inj hr
            (simp (maxDischargeDepth := 8) [go_sem])
          · replace hr := ifN1 hr hc
            obtain ⟨v8, hv8, hr⟩ := of_bind1 hr
            try simp only [hv8, Option.getD_some, Option.isSome_some, true_and, and_assoc]
            repeat refine gA ?_
            refine S.share 64 rfl ?_
            refine S.sees [1, 5, 8, 9, 11] [(5, 5), (8, 8)] [(15, 15), (10015, 10015)] ?_ hr
            (simp (maxDischargeDepth := 8) [go_sem])
      · replace hr := ifN1 hr hc
        repeat refine gA ?_
        have hr := of_out0 hr
        repeat refine gA ?_
        obtain rfl := Option.some.inj hr
        (simp (maxDischargeDepth := 8) [go_sem])
  · replace hr := ifN hr hc
    repeat refine gA ?_
    refine S.sees [1, 5, 8, 9, 11] [(5, 5), (8, 8)] [(15, 15), (10015, 10015)] ?_ (Stop.iter S (fun s2 => ⟨[(1, .c (.d (encF 1 d_I s2.1))), (5, .c (.ref 5 0)), (8, .c (.ref 8 0)), (9, .c (.d (.int .i64 s2.2.1))), (11, .c (.d (.int .i64 s2.2.2)))], [(5, [.d (encF 1 d_I a2_0), .d (.int .i64 a2_1), .d (.int .i64 a2_2), .d (.int .i64 a2_3), .d (.int .i64 a2_4)]), (8, [.d (.int .i64 v1.1), .d (.int .i64 v1.2.1), .d (encF 2 d_II v1.2.2.1), .d (encF 1 d_LIIE v1.2.2.2.1), .own 15, .own 10015])], [(15, .owned (encF 2 d_II v1.2.2.2.2.1)), (10015, .owned (encF 1 d_LIIE v1.2.2.2.2.2.1))]⟩) (b25_2 a2_0 a2_1 a2_2 a2_3 a2_4 v1) (fun q => q = r) hr rfl ?_)
    · (simp (maxDischargeDepth := 8) [go_sem])
    · intro s2 hr
      unfold b25_2 at hr
      refine S.goB [] 1000 ?_
      simp (maxSteps := 10000000) only [go_sem, tb25_31, T31, tb25_32, T32, tb25_33, T33, tb25_34, T34, tb25_53, T53, tb25_54, T54, tb25_57, T57, tb25_58, T58, T25, Option.map_some, Int.reduceToNat, Nat.reduceEqDiff, Nat.reduceLT, Nat.reduceAdd, Nat.reduceMul, Nat.reduceSub, Nat.reduceLeDiff, reduceIte, reduceCtorEq, Tryz.results25]
      repeat refine gA ?_
      refine ⟨fun hc => ?_, fun hc => ?_⟩
      · replace hr := ifP1 hr hc
        obtain ⟨v10, hv10, hr⟩ := of_bind1 hr
        try simp only [hv10, Option.getD_some, Option.isSome_some, true_and, and_assoc]
        repeat refine gA ?_
        refine ⟨fun hc => ?_, fun hc => ?_⟩
        · replace hr := ifP1 hr hc
          repeat refine gA ?_
          have hr := of_out0 hr
          obtain rfl := Option.some.inj hr
          (simp (maxDischargeDepth := 8) [go_sem])
        · replace hr := ifN1 hr hc
          repeat refine gA ?_
          refine ⟨fun hc => ?_, fun hc => ?_⟩
          · replace hr := ifP1 hr hc
            repeat refine gA ?_
            have hr := of_out0 hr
            obtain rfl := Option.some.inj hr
            (simp (maxDischargeDepth := 8) [go_sem])
          · replace hr := ifN1 hr hc
            obtain ⟨v11, hv11, hr⟩ := of_bind1 hr
            try simp only [hv11, Option.getD_some, Option.isSome_some, true_and, and_assoc]
            repeat refine gA ?_
            refine S.share 64 rfl ?_
            refine S.sees [1, 5, 8, 9, 11] [(5, 5), (8, 8)] [(15, 15), (10015, 10015)] ?_ hr
            (simp (maxDischargeDepth := 8) [go_sem])
      · replace hr := ifN1 hr hc
        repeat refine gA ?_
        have hr := of_out0 hr
        repeat refine gA ?_
        obtain rfl := Option.some.inj hr
        (simp (maxDischargeDepth := 8) [go_sem])
theorem f25 : FnFact Tryz.prog 25 T25.sp := ⟨⟨Tryz.f25, Tryz.func25, by decide, rfl⟩, v25⟩

/- martensite/martensitelaw03.Water -/
def r27 : Option (Int × Int × Int) :=
  some (100, 50, 200)
def T27 : TSpec (Unit) where
  enc x := []
  dec a := ()
  pre x := (r27).isSome = true
  res x := [.agg [.d (.int .i64 (((r27).getD default).1)), .d (.int .i64 (((r27).getD default).2.1)), .d (.int .i64 (((r27).getD default).2.2))]]
  al := false
def tb27 : Fns := lk []
theorem tb27_ok : FnsOk Tryz.prog tb27 := FnsOk.nil
theorem v27 : Valid Tryz.prog 27 T27.sp := by
  refine valid_t (fn := Tryz.f27) (n := 2) ty_ok tb27_ok Tryz.func27 rfl Tryz.ntmps27 ?_
  intro _ hx
  obtain ⟨r, hr⟩ := Option.isSome_iff_exists.1 (show (r27).isSome = true from hx)
  have hres : T27.res () = [.agg [.d (.int .i64 r.1), .d (.int .i64 r.2.1), .d (.int .i64 r.2.2)]] := by simp only [T27, hr, Option.getD_some]
  refine ⟨Nat.le_of_ble_eq_true rfl, fun stop S => ?_⟩
  rw [hres] at S
  unfold r27 at hr
  refine S.goB [] 1000 ?_
  simp (maxSteps := 10000000) only [go_sem, T27, Option.map_some, Int.reduceToNat, Nat.reduceEqDiff, Nat.reduceLT, Nat.reduceAdd, Nat.reduceMul, Nat.reduceSub, Nat.reduceLeDiff, reduceIte, reduceCtorEq, Tryz.results27]
  repeat refine gA ?_
  obtain rfl := Option.some.inj hr
  (simp (maxDischargeDepth := 8) [go_sem])
theorem f27 : FnFact Tryz.prog 27 T27.sp := ⟨⟨Tryz.f27, Tryz.func27, by decide, rfl⟩, v27⟩

/- martensite/heat.isHeat -/
def r87 (a0 : Int) : Option (Bool) :=
  (r57 a0 0 1000000).bind fun v1 =>
   some v1
def T87 : TSpec (Int) where
  enc x := [.c (.int .i64 x)]
  dec a := dInt (aCell a 0 0)
  pre x := (r87 x).isSome = true
  res x := [.c (.d (.bool ((r87 x).getD default)))]
  al := false
def tb87 : Fns := lk [(57, T57.sp)]
theorem tb87_ok : FnsOk Tryz.prog tb87 := .cons f57 (FnsOk.nil)
theorem tb87_57 : tb87 57 = some T57.sp := rfl
theorem v87 : Valid Tryz.prog 87 T87.sp := by
  refine valid_t (fn := Tryz.f87) (n := 5) ty_ok tb87_ok Tryz.func87 rfl Tryz.ntmps87 ?_
  rintro a0 hx
  obtain ⟨r, hr⟩ := Option.isSome_iff_exists.1 (show (r87 a0).isSome = true from hx)
  have hres : T87.res a0 = [.c (.d (.bool r))] := by simp only [T87, hr, Option.getD_some]
  refine ⟨Nat.le_of_ble_eq_true rfl, fun stop S => ?_⟩
  rw [hres] at S
  unfold r87 at hr
  refine S.goB [] 1000 ?_
  simp (maxSteps := 10000000) only [go_sem, tb87_57, T57, T87, Option.map_some, Int.reduceToNat, Nat.reduceEqDiff, Nat.reduceLT, Nat.reduceAdd, Nat.reduceMul, Nat.reduceSub, Nat.reduceLeDiff, reduceIte, reduceCtorEq, Tryz.results87]
  obtain ⟨v1, hv1, hr⟩ := of_bind0 hr
  try simp only [hv1, Option.getD_some, Option.isSome_some, true_and, and_assoc]
  repeat refine gA ?_
  obtain rfl := Option.some.inj hr
  (simp (maxDischargeDepth := 8) [go_sem])
theorem f87 : FnFact Tryz.prog 87 T87.sp := ⟨⟨Tryz.f87, Tryz.func87, by decide, rfl⟩, v87⟩

/- martensite/heat.CheckWater -/
def r59 (a0_0 : Int) (a0_1 : Int) (a0_2 : Int) : Option (Int) :=
  (r87 a0_0).bind fun v1 =>
   if v1 = true → (r87 a0_1).isSome = true then
    if (v1 && ((r87 a0_1).getD default)) = true → (r87 a0_2).isSome = true then
     (r58 ((v1 && ((r87 a0_1).getD default)) && ((r87 a0_2).getD default)) 2).bind fun v2 =>
      (r58 (decide (a0_0 < a0_2)) 9).bind fun v3 =>
       (r32 [v2, v3]).bind fun v4 =>
        some v4
     else none
    else none
def T59 : TSpec (Int × Int × Int) where
  enc x := [.agg [.int .i64 x.1, .int .i64 x.2.1, .int .i64 x.2.2]]
  dec a := (dInt (aCell a 0 0), dInt (aCell a 0 1), dInt (aCell a 0 2))
  pre x := (r59 x.1 x.2.1 x.2.2).isSome = true
  res x := [.c (.d (.int .i64 ((r59 x.1 x.2.1 x.2.2).getD default)))]
  al := false
def tb59 : Fns := lk [(32, T32.sp), (58, T58.sp), (87, T87.sp)]
theorem tb59_ok : FnsOk Tryz.prog tb59 := .cons f32 (.cons f58 (.cons f87 (FnsOk.nil)))
theorem tb59_32 : tb59 32 = some T32.sp := rfl
theorem tb59_58 : tb59 58 = some T58.sp := rfl
theorem tb59_87 : tb59 87 = some T87.sp := rfl
theorem v59 : Valid Tryz.prog 59 T59.sp := by
  refine valid_t (fn := Tryz.f59) (n := 25) ty_ok tb59_ok Tryz.func59 rfl Tryz.ntmps59 ?_
  rintro ⟨a0_0, a0_1, a0_2⟩ hx
  obtain ⟨r, hr⟩ := Option.isSome_iff_exists.1 (show (r59 a0_0 a0_1 a0_2).isSome = true from hx)
  have hres : T59.res (a0_0, a0_1, a0_2) = [.c (.d (.int .i64 r))] := by simp only [T59, hr, Option.getD_some]
  refine ⟨Nat.le_of_ble_eq_true rfl, fun stop S => ?_⟩
  rw [hres] at S
  unfold r59 at hr
  refine S.goB [] 1000 ?_
  simp (maxSteps := 10000000) only [go_sem, tb59_32, T32, tb59_58, T58, tb59_87, T87, T59, Option.map_some, Int.reduceToNat, Nat.reduceEqDiff, Nat.reduceLT, Nat.reduceAdd, Nat.reduceMul, Nat.reduceSub, Nat.reduceLeDiff, reduceIte, reduceCtorEq, Tryz.results59]
  obtain ⟨v1, hv1, hr⟩ := of_bind0 hr
  obtain ⟨hg5, hr⟩ := of_guard0 hr
  obtain ⟨hg6, hr⟩ := of_guard0 hr
  obtain ⟨v2, hv2, hr⟩ := of_bind0 hr
  obtain ⟨v3, hv3, hr⟩ := of_bind0 hr
  obtain ⟨v4, hv4, hr⟩ := of_bind0 hr
  try simp only [hv1, hv2, hv3, hv4, Option.getD_some, Option.isSome_some, true_and, and_assoc]
  repeat (first | refine gG hg5 ?_ | refine gG hg6 ?_ | refine gA ?_ | refine gB ?_)
  obtain rfl := Option.some.inj hr
  (simp (maxDischargeDepth := 8) [go_sem])
theorem f59 : FnFact Tryz.prog 59 T59.sp := ⟨⟨Tryz.f59, Tryz.func59, by decide, rfl⟩, v59⟩

/- martensite/heat.isFlow -/
def r60 (a0 : Int) : Option (Bool) :=
  (r57 a0 0 1000).bind fun v1 =>
   some v1
def T60 : TSpec (Int) where
  enc x := [.c (.int .i64 x)]
  dec a := dInt (aCell a 0 0)
  pre x := (r60 x).isSome = true
  res x := [.c (.d (.bool ((r60 x).getD default)))]
  al := false
def tb60 : Fns := lk [(57, T57.sp)]
theorem tb60_ok : FnsOk Tryz.prog tb60 := .cons f57 (FnsOk.nil)
theorem tb60_57 : tb60 57 = some T57.sp := rfl
theorem v60 : Valid Tryz.prog 60 T60.sp := by
  refine valid_t (fn := Tryz.f60) (n := 5) ty_ok tb60_ok Tryz.func60 rfl Tryz.ntmps60 ?_
  rintro a0 hx
  obtain ⟨r, hr⟩ := Option.isSome_iff_exists.1 (show (r60 a0).isSome = true from hx)
  have hres : T60.res a0 = [.c (.d (.bool r))] := by simp only [T60, hr, Option.getD_some]
  refine ⟨Nat.le_of_ble_eq_true rfl, fun stop S => ?_⟩
  rw [hres] at S
  unfold r60 at hr
  refine S.goB [] 1000 ?_
  simp (maxSteps := 10000000) only [go_sem, tb60_57, T57, T60, Option.map_some, Int.reduceToNat, Nat.reduceEqDiff, Nat.reduceLT, Nat.reduceAdd, Nat.reduceMul, Nat.reduceSub, Nat.reduceLeDiff, reduceIte, reduceCtorEq, Tryz.results60]
  obtain ⟨v1, hv1, hr⟩ := of_bind0 hr
  try simp only [hv1, Option.getD_some, Option.isSome_some, true_and, and_assoc]
  repeat refine gA ?_
  obtain rfl := Option.some.inj hr
  (simp (maxDischargeDepth := 8) [go_sem])
theorem f60 : FnFact Tryz.prog 60 T60.sp := ⟨⟨Tryz.f60, Tryz.func60, by decide, rfl⟩, v60⟩

/- martensite/heat.heats -/
def b88_1 (a0_1 : Int) (a1 : List (Int)) : ((List (Int)) × Int × Int) → Ctl ((List (Int)) × Int × Int) ((List (Int))) := fun s1 =>
  if (decide (s1.2.2 < (a1.length : Int))) = true then
   if 0 ≤ s1.2.2 ∧ s1.2.2 < (a1.length : Int) then
    if (s1.1.length + 1) * 8 ≤ 140737488355328 ∧ s1.1.length + 1 ≤ 9223372036854775807 then
     .next (s1.1 ++ [IntKind.i64.wrap (s1.2.1 + (IntKind.i64.wrap (a0_1 - (IntKind.i64.wrap ((IntKind.i64.wrap (s1.2.1 * (a1.getD s1.2.2.toNat default))).tdiv 1000)))))], IntKind.i64.wrap (s1.2.1 + (IntKind.i64.wrap (a0_1 - (IntKind.i64.wrap ((IntKind.i64.wrap (s1.2.1 * (a1.getD s1.2.2.toNat default))).tdiv 1000))))), IntKind.i64.wrap (s1.2.2 + 1))
     else .out none
    else .out none
   else .out (some s1.1)
def r88 (a0_0 : Int) (a0_1 : Int) (a0_2 : Int) (a1 : List (Int)) : Option ((List (Int))) :=
  iterC (b88_1 a0_1 a1) 1000000000 ([], a0_0, 0)
def T88 : TSpec (Int × Int × Int × (List (Int))) where
  enc x := [.agg [.int .i64 x.1, .int .i64 x.2.1, .int .i64 x.2.2.1], .c (encF 1 d_I x.2.2.2)]
  dec a := (dInt (aCell a 0 0), dInt (aCell a 0 1), dInt (aCell a 0 2), decF g_I (aCell a 1 0))
  pre x := (r88 x.1 x.2.1 x.2.2.1 x.2.2.2).isSome = true
  res x := [.c (.own (encF 1 d_I ((r88 x.1 x.2.1 x.2.2.1 x.2.2.2).getD default)))]
  al := false
def tb88 : Fns := lk []
theorem tb88_ok : FnsOk Tryz.prog tb88 := FnsOk.nil
theorem v88 : Valid Tryz.prog 88 T88.sp := by
  refine valid_t (fn := Tryz.f88) (n := 32) ty_ok tb88_ok Tryz.func88 rfl Tryz.ntmps88 ?_
  rintro ⟨a0_0, a0_1, a0_2, a1⟩ hx
  obtain ⟨r, hr⟩ := Option.isSome_iff_exists.1 (show (r88 a0_0 a0_1 a0_2 a1).isSome = true from hx)
  have hres : T88.res (a0_0, a0_1, a0_2, a1) = [.c (.own (encF 1 d_I r))] := by simp only [T88, hr, Option.getD_some]
  refine ⟨Nat.le_of_ble_eq_true rfl, fun stop S => ?_⟩
  rw [hres] at S
  unfold r88 at hr
  refine S.goB [] 1000 ?_
  simp (maxSteps := 10000000) only [go_sem, T88, Option.map_some, Int.reduceToNat, Nat.reduceEqDiff, Nat.reduceLT, Nat.reduceAdd, Nat.reduceMul, Nat.reduceSub, Nat.reduceLeDiff, reduceIte, reduceCtorEq, Tryz.results88]
  repeat refine gA ?_
  refine S.own0 5 1000500 1 rfl rfl ?_
  refine S.sees [2, 5, 6, 11, 12, 13] [(2, 2)] [(1000500, 1000500)] ?_ (Stop.iter S (fun s1 => ⟨[(2, .c (.ref 2 0)), (5, .c (.own 1000500)), (6, .c (.d (.int .i64 s1.2.1))), (11, .c (.d (encF 1 d_I a1))), (12, .c (.d (.int .i64 (a1.length : Int)))), (13, .c (.d (.int .i64 s1.2.2)))], [(2, [.d (.int .i64 a0_0), .d (.int .i64 a0_1), .d (.int .i64 a0_2)])], [(1000500, .owned (encF 1 d_I s1.1))]⟩) (b88_1 a0_1 a1) (fun q => q = r) hr rfl ?_)
  · (simp (maxDischargeDepth := 8) [go_sem])
  · intro s1 hr
    unfold b88_1 at hr
    refine S.goB [] 1000 ?_
    simp (maxSteps := 10000000) only [go_sem, T88, Option.map_some, Int.reduceToNat, Nat.reduceEqDiff, Nat.reduceLT, Nat.reduceAdd, Nat.reduceMul, Nat.reduceSub, Nat.reduceLeDiff, reduceIte, reduceCtorEq, Tryz.results88]
    repeat refine gA ?_
    refine ⟨fun hc => ?_, fun hc => ?_⟩
    · replace hr := ifP1 hr hc
      obtain ⟨hg1, hr⟩ := of_guard1 hr
      obtain ⟨hg2, hr⟩ := of_guard1 hr
      repeat refine gA ?_
      refine S.sees [2, 5, 6, 11, 12, 13] [(2, 2)] [(29, 1000500)] ?_ hr
      (simp (maxDischargeDepth := 8) [go_sem])
    · replace hr := ifN1 hr hc
      repeat refine gA ?_
      have hr := of_out0 hr
      repeat refine gA ?_
      obtain rfl := Option.some.inj hr
      (simp (maxDischargeDepth := 8) [go_sem])
theorem f88 : FnFact Tryz.prog 88 T88.sp := ⟨⟨Tryz.f88, Tryz.func88, by decide, rfl⟩, v88⟩

/- martensite/heat.boiling$1 -/
def r89 (a0 : Int) (a1_0 : Int) (a1_1 : Int) (a1_2 : Int) : Option (Bool) :=
  some (decide (a0 ≥ a1_2))
def T89 : TSpec (Int × Int × Int × Int) where
  enc x := [.c (.int .i64 x.1), .ptr [.int .i64 x.2.1, .int .i64 x.2.2.1, .int .i64 x.2.2.2]]
  dec a := (dInt (aCell a 0 0), dInt (aCell a 1 0), dInt (aCell a 1 1), dInt (aCell a 1 2))
  pre x := (r89 x.1 x.2.1 x.2.2.1 x.2.2.2).isSome = true
  res x := [.c (.d (.bool ((r89 x.1 x.2.1 x.2.2.1 x.2.2.2).getD default)))]
  al := false
def tb89 : Fns := lk []
theorem tb89_ok : FnsOk Tryz.prog tb89 := FnsOk.nil
theorem v89 : Valid Tryz.prog 89 T89.sp := by
  refine valid_t (fn := Tryz.f89) (n := 8) ty_ok tb89_ok Tryz.func89 rfl Tryz.ntmps89 ?_
  rintro ⟨a0, a1_0, a1_1, a1_2⟩ hx
  obtain ⟨r, hr⟩ := Option.isSome_iff_exists.1 (show (r89 a0 a1_0 a1_1 a1_2).isSome = true from hx)
  have hres : T89.res (a0, a1_0, a1_1, a1_2) = [.c (.d (.bool r))] := by simp only [T89, hr, Option.getD_some]
  refine ⟨Nat.le_of_ble_eq_true rfl, fun stop S => ?_⟩
  rw [hres] at S
  unfold r89 at hr
  refine S.goB [] 1000 ?_
  simp (maxSteps := 10000000) only [go_sem, T89, Option.map_some, Int.reduceToNat, Nat.reduceEqDiff, Nat.reduceLT, Nat.reduceAdd, Nat.reduceMul, Nat.reduceSub, Nat.reduceLeDiff, reduceIte, reduceCtorEq, Tryz.results89]
  repeat refine gA ?_
  obtain rfl := Option.some.inj hr
  (simp (maxDischargeDepth := 8) [go_sem])
theorem f89 : FnFact Tryz.prog 89 T89.sp := ⟨⟨Tryz.f89, Tryz.func89, by decide, rfl⟩, v89⟩

/- slices.IndexFunc[[]int,int] -/
def b65d_1 (a0 : List (Int)) (a1_0_0 : Int) (a1_0_1 : Int) (a1_0_2 : Int) : (Int) → Ctl (Int) (Int) := fun s1 =>
  if (decide (s1 < (a0.length : Int))) = true then
   if 0 ≤ s1 ∧ s1 < (a0.length : Int) then
    bindC (r89 (a0.getD s1.toNat default) a1_0_0 a1_0_1 a1_0_2) fun v1 =>
     if v1 = true then
      .out (some s1)
      else .next (IntKind.i64.wrap (s1 + 1))
    else .out none
   else .out (some (-1))
def r65d (a0 : List (Int)) (a1_0_0 : Int) (a1_0_1 : Int) (a1_0_2 : Int) : Option (Int) :=
  iterC (b65d_1 a0 a1_0_0 a1_0_1 a1_0_2) 1000000000 0
def T65d : TSpec ((List (Int)) × Int × Int × Int) where
  enc x := [.c (encF 1 d_I x.1), .clo 89 [[.int .i64 x.2.1, .int .i64 x.2.2.1, .int .i64 x.2.2.2]]]
  dec a := (decF g_I (aCell a 0 0), dInt (aCell a 1 0), dInt (aCell a 1 1), dInt (aCell a 1 2))
  pre x := (r65d x.1 x.2.1 x.2.2.1 x.2.2.2).isSome = true
  res x := [.c (.d (.int .i64 ((r65d x.1 x.2.1 x.2.2.1 x.2.2.2).getD default)))]
  al := false
def tb65d : Fns := lk [(89, T89.sp)]
theorem tb65d_ok : FnsOk Tryz.prog tb65d := .cons f89 (FnsOk.nil)
theorem tb65d_89 : tb65d 89 = some T89.sp := rfl
theorem v65d : Valid Tryz.prog 65 T65d.sp := by
  refine valid_t (fn := Tryz.f65) (n := 19) ty_ok tb65d_ok Tryz.func65 rfl Tryz.ntmps65 ?_
  rintro ⟨a0, a1_0_0, a1_0_1, a1_0_2⟩ hx
  obtain ⟨r, hr⟩ := Option.isSome_iff_exists.1 (show (r65d a0 a1_0_0 a1_0_1 a1_0_2).isSome = true from hx)
  have hres : T65d.res (a0, a1_0_0, a1_0_1, a1_0_2) = [.c (.d (.int .i64 r))] := by simp only [T65d, hr, Option.getD_some]
  refine ⟨Nat.le_of_ble_eq_true rfl, fun stop S => ?_⟩
  rw [hres] at S
  unfold r65d at hr
  refine S.goB [] 1000 ?_
  simp (maxSteps := 10000000) only [go_sem, tb65d_89, T89, T65d, Option.map_some, Int.reduceToNat, Nat.reduceEqDiff, Nat.reduceLT, Nat.reduceAdd, Nat.reduceMul, Nat.reduceSub, Nat.reduceLeDiff, reduceIte, reduceCtorEq, Tryz.results65]
  repeat refine gA ?_
  refine S.sees [0, 1, 7, 8] [] [] ?_ (Stop.iter S (fun s1 => ⟨[(0, .c (.d (encF 1 d_I a0))), (1, .c (.clo 89 [.sptr [.int .i64 a1_0_0, .int .i64 a1_0_1, .int .i64 a1_0_2] 0])), (7, .c (.d (.int .i64 (a0.length : Int)))), (8, .c (.d (.int .i64 s1)))], [], []⟩) (b65d_1 a0 a1_0_0 a1_0_1 a1_0_2) (fun q => q = r) hr rfl ?_)
  · (simp (maxDischargeDepth := 8) [go_sem])
  · intro s1 hr
    unfold b65d_1 at hr
    refine S.goB [] 1000 ?_
    simp (maxSteps := 10000000) only [go_sem, tb65d_89, T89, T65d, Option.map_some, Int.reduceToNat, Nat.reduceEqDiff, Nat.reduceLT, Nat.reduceAdd, Nat.reduceMul, Nat.reduceSub, Nat.reduceLeDiff, reduceIte, reduceCtorEq, Tryz.results65]
    repeat refine gA ?_
    refine ⟨fun hc => ?_, fun hc => ?_⟩
    · replace hr := ifP1 hr hc
      obtain ⟨hg2, hr⟩ := of_guard1 hr
      obtain ⟨v1, hv1, hr⟩ := of_bind1 hr
      try simp only [hv1, Option.getD_some, Option.isSome_some, true_and, and_assoc]
      repeat refine gA ?_
      refine ⟨fun hc => ?_, fun hc => ?_⟩
      · replace hr := ifP1 hr hc
        repeat refine gA ?_
        have hr := of_out0 hr
        obtain rfl := Option.some.inj hr
        (simp (maxDischargeDepth := 8) [go_sem])
      · replace hr := ifN1 hr hc
        repeat refine gA ?_
        refine S.sees [0, 1, 7, 8] [] [] ?_ hr
        (simp (maxDischargeDepth := 8) [go_sem])
    · replace hr := ifN1 hr hc
      repeat refine gA ?_
      have hr := of_out0 hr
      repeat refine gA ?_
      obtain rfl := Option.some.inj hr
      (simp (maxDischargeDepth := 8) [go_sem])
theorem f65d : FnFact Tryz.prog 65 T65d.sp := ⟨⟨Tryz.f65, Tryz.func65, by decide, rfl⟩, v65d⟩

/- martensite/heat.boiling -/
def r61 (a0_0 : Int) (a0_1 : Int) (a0_2 : Int) (a1 : List (Int)) : Option (Int) :=
  (r88 a0_0 a0_1 a0_2 a1).bind fun v1 =>
   (r65d v1 a0_0 a0_1 a0_2).bind fun v2 =>
    if (decide (v2 < 0)) = true then
     some (IntKind.i64.wrap ((a1.length : Int) + 1))
     else some (IntKind.i64.wrap (v2 + 1))
def T61 : TSpec (Int × Int × Int × (List (Int))) where
  enc x := [.agg [.int .i64 x.1, .int .i64 x.2.1, .int .i64 x.2.2.1], .c (encF 1 d_I x.2.2.2)]
  dec a := (dInt (aCell a 0 0), dInt (aCell a 0 1), dInt (aCell a 0 2), decF g_I (aCell a 1 0))
  pre x := (r61 x.1 x.2.1 x.2.2.1 x.2.2.2).isSome = true
  res x := [.c (.d (.int .i64 ((r61 x.1 x.2.1 x.2.2.1 x.2.2.2).getD default)))]
  al := false
def tb61 : Fns := lk [(65, T65d.sp), (88, T88.sp)]
theorem tb61_ok : FnsOk Tryz.prog tb61 := .cons f65d (.cons f88 (FnsOk.nil))
theorem tb61_65 : tb61 65 = some T65d.sp := rfl
theorem tb61_88 : tb61 88 = some T88.sp := rfl
theorem v61 : Valid Tryz.prog 61 T61.sp := by
  refine valid_t (fn := Tryz.f61) (n := 17) ty_ok tb61_ok Tryz.func61 rfl Tryz.ntmps61 ?_
  rintro ⟨a0_0, a0_1, a0_2, a1⟩ hx
  obtain ⟨r, hr⟩ := Option.isSome_iff_exists.1 (show (r61 a0_0 a0_1 a0_2 a1).isSome = true from hx)
  have hres : T61.res (a0_0, a0_1, a0_2, a1) = [.c (.d (.int .i64 r))] := by simp only [T61, hr, Option.getD_some]
  refine ⟨Nat.le_of_ble_eq_true rfl, fun stop S => ?_⟩
  rw [hres] at S
  unfold r61 at hr
  refine S.goB [] 1000 ?_
  simp (maxSteps := 10000000) only [go_sem, tb61_65, T65d, tb61_88, T88, T61, Option.map_some, Int.reduceToNat, Nat.reduceEqDiff, Nat.reduceLT, Nat.reduceAdd, Nat.reduceMul, Nat.reduceSub, Nat.reduceLeDiff, reduceIte, reduceCtorEq, Tryz.results61]
  obtain ⟨v1, hv1, hr⟩ := of_bind0 hr
  obtain ⟨v2, hv2, hr⟩ := of_bind0 hr
  try simp only [hv1, hv2, Option.getD_some, Option.isSome_some, true_and, and_assoc]
  repeat refine gA ?_
  refine ⟨fun hc => ?_, fun hc => ?_⟩
  · replace hr := ifP hr hc
    repeat refine gA ?_
    obtain rfl := Option.some.inj hr
    (simp (maxDischargeDepth := 8) [go_sem])
  · replace hr := ifN hr hc
    repeat refine gA ?_
    obtain rfl := Option.some.inj hr
    (simp (maxDischargeDepth := 8) [go_sem])
theorem f61 : FnFact Tryz.prog 61 T61.sp := ⟨⟨Tryz.f61, Tryz.func61, by decide, rfl⟩, v61⟩

/- martensite/heat.BoilingIn -/
def b26_1 (a0_0 : Int) (a0_1 : Int) (a0_2 : Int) (a1 : List (Int × Int)) : (Int × (List (Int)) × (List (Int)) × Int) → Ctl (Int × (List (Int)) × (List (Int)) × Int) (Int × Int × Int) := fun s1 =>
  if (decide (s1.2.2.2 < (a1.length : Int))) = true then
   if 0 ≤ s1.2.2.2 ∧ s1.2.2.2 < (a1.length : Int) then
    bindC (r60 ((a1.getD s1.2.2.2.toNat default).1)) fun v4 =>
     if v4 = true → (r60 ((a1.getD s1.2.2.2.toNat default).2)).isSome = true then
      bindC (r58 (v4 && ((r60 ((a1.getD s1.2.2.2.toNat default).2)).getD default)) 2) fun v5 =>
       bindC (r58 (decide (((a1.getD s1.2.2.2.toNat default).1) ≤ ((a1.getD s1.2.2.2.toNat default).2))) 9) fun v6 =>
        bindC (r32 [s1.1, v5, v6]) fun v7 =>
         if (s1.2.1.length + 1) * 8 ≤ 140737488355328 ∧ s1.2.1.length + 1 ≤ 9223372036854775807 then
          if (s1.2.2.1.length + 1) * 8 ≤ 140737488355328 ∧ s1.2.2.1.length + 1 ≤ 9223372036854775807 then
           .next (v7, s1.2.1 ++ [(a1.getD s1.2.2.2.toNat default).1], s1.2.2.1 ++ [(a1.getD s1.2.2.2.toNat default).2], IntKind.i64.wrap (s1.2.2.2 + 1))
           else .out none
          else .out none
      else .out none
    else .out none
   else .out (if (s1.1 != 0) = true then
    some (0, 0, s1.1)
    else (r61 a0_0 a0_1 a0_2 s1.2.1).bind fun v12 =>
     (r61 a0_0 a0_1 a0_2 s1.2.2.1).bind fun v13 =>
      if (decide (v12 > (a1.length : Int))) = true then
       some (0, 0, 12)
       else some (v12, v13, 0))
def r26 (a0_0 : Int) (a0_1 : Int) (a0_2 : Int) (a1 : List (Int × Int)) : Option (Int × Int × Int) :=
  (r59 a0_0 a0_1 a0_2).bind fun v1 =>
   (r58 (decide ((a1.length : Int) ≤ 200)) 8).bind fun v2 =>
    (r32 [v1, v2]).bind fun v3 =>
     iterC (b26_1 a0_0 a0_1 a0_2 a1) 1000000000 (v3, [], [], 0)
def T26 : TSpec (Int × Int × Int × (List (Int × Int))) where
  enc x := [.agg [.int .i64 x.1, .int .i64 x.2.1, .int .i64 x.2.2.1], .c (encF 2 d_II x.2.2.2)]
  dec a := (dInt (aCell a 0 0), dInt (aCell a 0 1), dInt (aCell a 0 2), decF g_II (aCell a 1 0))
  pre x := (r26 x.1 x.2.1 x.2.2.1 x.2.2.2).isSome = true
  res x := [.agg [.d (.int .i64 (((r26 x.1 x.2.1 x.2.2.1 x.2.2.2).getD default).1)), .d (.int .i64 (((r26 x.1 x.2.1 x.2.2.1 x.2.2.2).getD default).2.1))], .c (.d (.int .i64 (((r26 x.1 x.2.1 x.2.2.1 x.2.2.2).getD default).2.2)))]
  al := false
def tb26 : Fns := lk [(32, T32.sp), (58, T58.sp), (59, T59.sp), (60, T60.sp), (61, T61.sp)]
theorem tb26_ok : FnsOk Tryz.prog tb26 := .cons f32 (.cons f58 (.cons f59 (.cons f60 (.cons f61 (FnsOk.nil)))))
theorem tb26_32 : tb26 32 = some T32.sp := rfl
theorem tb26_58 : tb26 58 = some T58.sp := rfl
theorem tb26_59 : tb26 59 = some T59.sp := rfl
theorem tb26_60 : tb26 60 = some T60.sp := rfl
theorem tb26_61 : tb26 61 = some T61.sp := rfl
theorem v26 : Valid Tryz.prog 26 T26.sp := by
  refine valid_t (fn := Tryz.f26) (n := 73) ty_ok tb26_ok Tryz.func26 rfl Tryz.ntmps26 ?_
  rintro ⟨a0_0, a0_1, a0_2, a1⟩ hx
  obtain ⟨r, hr⟩ := Option.isSome_iff_exists.1 (show (r26 a0_0 a0_1 a0_2 a1).isSome = true from hx)
  have hres : T26.res (a0_0, a0_1, a0_2, a1) = [.agg [.d (.int .i64 r.1), .d (.int .i64 r.2.1)], .c (.d (.int .i64 r.2.2))] := by simp only [T26, hr, Option.getD_some]
  refine ⟨Nat.le_of_ble_eq_true rfl, fun stop S => ?_⟩
  rw [hres] at S
  unfold r26 at hr
  refine S.goB [] 1000 ?_
  simp (maxSteps := 10000000) only [go_sem, tb26_32, T32, tb26_58, T58, tb26_59, T59, tb26_60, T60, tb26_61, T61, T26, Option.map_some, Int.reduceToNat, Nat.reduceEqDiff, Nat.reduceLT, Nat.reduceAdd, Nat.reduceMul, Nat.reduceSub, Nat.reduceLeDiff, reduceIte, reduceCtorEq, Tryz.results26]
  obtain ⟨v1, hv1, hr⟩ := of_bind0 hr
  obtain ⟨v2, hv2, hr⟩ := of_bind0 hr
  obtain ⟨v3, hv3, hr⟩ := of_bind0 hr
  try simp only [hv1, hv2, hv3, Option.getD_some, Option.isSome_some, true_and, and_assoc]
  repeat refine gA ?_
  refine S.own0 7 1000700 1 rfl rfl ?_
  refine S.own0 8 1000800 1 rfl rfl ?_
  refine S.sees [1, 2, 4, 6, 7, 8, 20, 21, 22] [(2, 2), (4, 4)] [(1000700, 1000700), (1000800, 1000800)] ?_ (Stop.iter S (fun s1 => ⟨[(1, .c (.d (encF 2 d_II a1))), (2, .c (.ref 2 0)), (4, .c (.ref 4 0)), (6, .c (.d (.int .i64 s1.1))), (7, .c (.own 1000700)), (8, .c (.own 1000800)), (20, .c (.d (encF 2 d_II a1))), (21, .c (.d (.int .i64 (a1.length : Int)))), (22, .c (.d (.int .i64 s1.2.2.2)))], [(2, [.d (.int .i64 a0_0), .d (.int .i64 a0_1), .d (.int .i64 a0_2)]), (4, [.d (.int .i64 0), .d (.int .i64 0)])], [(1000700, .owned (encF 1 d_I s1.2.1)), (1000800, .owned (encF 1 d_I s1.2.2.1))]⟩) (b26_1 a0_0 a0_1 a0_2 a1) (fun q => q = r) hr rfl ?_)
  · (simp (maxDischargeDepth := 8) [go_sem])
  · intro s1 hr
    unfold b26_1 at hr
    refine S.goB [] 1000 ?_
    simp (maxSteps := 10000000) only [go_sem, tb26_32, T32, tb26_58, T58, tb26_59, T59, tb26_60, T60, tb26_61, T61, T26, Option.map_some, Int.reduceToNat, Nat.reduceEqDiff, Nat.reduceLT, Nat.reduceAdd, Nat.reduceMul, Nat.reduceSub, Nat.reduceLeDiff, reduceIte, reduceCtorEq, Tryz.results26]
    repeat refine gA ?_
    refine ⟨fun hc => ?_, fun hc => ?_⟩
    · replace hr := ifP1 hr hc
      obtain ⟨hg8, hr⟩ := of_guard1 hr
      obtain ⟨v4, hv4, hr⟩ := of_bind1 hr
      obtain ⟨hg9, hr⟩ := of_guard1 hr
      obtain ⟨v5, hv5, hr⟩ := of_bind1 hr
      obtain ⟨v6, hv6, hr⟩ := of_bind1 hr
      obtain ⟨v7, hv7, hr⟩ := of_bind1 hr
      obtain ⟨hg10, hr⟩ := of_guard1 hr
      obtain ⟨hg11, hr⟩ := of_guard1 hr
      try simp only [hv4, hv5, hv6, hv7, Option.getD_some, Option.isSome_some, true_and, and_assoc]
      repeat (first | refine gG hg9 ?_ | refine gA ?_ | refine gB ?_)
      refine S.sees [1, 2, 4, 6, 7, 8, 20, 21, 22] [(2, 2), (4, 4)] [(48, 1000700), (53, 1000800)] ?_ hr
      (simp (maxDischargeDepth := 8) [go_sem])
    · replace hr := ifN1 hr hc
      repeat refine gA ?_
      have hr := of_out0 hr
      repeat refine gA ?_
      refine ⟨fun hc => ?_, fun hc => ?_⟩
      · replace hr := ifP hr hc
        repeat refine gA ?_
        obtain rfl := Option.some.inj hr
        (simp (maxDischargeDepth := 8) [go_sem])
      · replace hr := ifN hr hc
        obtain ⟨v12, hv12, hr⟩ := of_bind0 hr
        obtain ⟨v13, hv13, hr⟩ := of_bind0 hr
        try simp only [hv12, hv13, Option.getD_some, Option.isSome_some, true_and, and_assoc]
        repeat refine gA ?_
        refine ⟨fun hc => ?_, fun hc => ?_⟩
        · replace hr := ifP hr hc
          repeat refine gA ?_
          obtain rfl := Option.some.inj hr
          (simp (maxDischargeDepth := 8) [go_sem])
        · replace hr := ifN hr hc
          repeat refine gA ?_
          obtain rfl := Option.some.inj hr
          (simp (maxDischargeDepth := 8) [go_sem])
theorem f26 : FnFact Tryz.prog 26 T26.sp := ⟨⟨Tryz.f26, Tryz.func26, by decide, rfl⟩, v26⟩

/- martensite/martensitebase.Ints -/
def b28_1 (a0 : List (Int)) (a1 : List (Int)) : (Int) → Ctl (Int) (Bool) := fun s1 =>
  if (decide (s1 < (a0.length : Int))) = true then
   if 0 ≤ s1 ∧ s1 < (a0.length : Int) then
    if 0 ≤ s1 ∧ s1 < (a1.length : Int) then
     if ((a0.getD s1.toNat default) != (a1.getD s1.toNat default)) = true then
      .out (some false)
      else .next (IntKind.i64.wrap (s1 + 1))
     else .out none
    else .out none
   else .out (some true)
def r28 (a0 : List (Int)) (a1 : List (Int)) : Option (Bool) :=
  if ((a0.length : Int) != (a1.length : Int)) = true then
   some false
   else iterC (b28_1 a0 a1) 1000000000 0
def T28 : TSpec ((List (Int)) × (List (Int))) where
  enc x := [.c (encF 1 d_I x.1), .c (encF 1 d_I x.2)]
  dec a := (decF g_I (aCell a 0 0), decF g_I (aCell a 1 0))
  pre x := (r28 x.1 x.2).isSome = true
  res x := [.c (.d (.bool ((r28 x.1 x.2).getD default)))]
  al := false
def tb28 : Fns := lk []
theorem tb28_ok : FnsOk Tryz.prog tb28 := FnsOk.nil
theorem v28 : Valid Tryz.prog 28 T28.sp := by
  refine valid_t (fn := Tryz.f28) (n := 26) ty_ok tb28_ok Tryz.func28 rfl Tryz.ntmps28 ?_
  rintro ⟨a0, a1⟩ hx
  obtain ⟨r, hr⟩ := Option.isSome_iff_exists.1 (show (r28 a0 a1).isSome = true from hx)
  have hres : T28.res (a0, a1) = [.c (.d (.bool r))] := by simp only [T28, hr, Option.getD_some]
  refine ⟨Nat.le_of_ble_eq_true rfl, fun stop S => ?_⟩
  rw [hres] at S
  unfold r28 at hr
  refine S.goB [] 1000 ?_
  simp (maxSteps := 10000000) only [go_sem, T28, Option.map_some, Int.reduceToNat, Nat.reduceEqDiff, Nat.reduceLT, Nat.reduceAdd, Nat.reduceMul, Nat.reduceSub, Nat.reduceLeDiff, reduceIte, reduceCtorEq, Tryz.results28]
  repeat refine gA ?_
  refine ⟨fun hc => ?_, fun hc => ?_⟩
  · replace hr := ifP hr hc
    repeat refine gA ?_
    obtain rfl := Option.some.inj hr
    (simp (maxDischargeDepth := 8) [go_sem])
  · replace hr := ifN hr hc
    repeat refine gA ?_
    refine S.sees [0, 1, 5] [] [] ?_ (Stop.iter S (fun s1 => ⟨[(0, .c (.d (encF 1 d_I a0))), (1, .c (.d (encF 1 d_I a1))), (5, .c (.d (.int .i64 s1)))], [], []⟩) (b28_1 a0 a1) (fun q => q = r) hr rfl ?_)
    · (simp (maxDischargeDepth := 8) [go_sem])
    · intro s1 hr
      unfold b28_1 at hr
      refine S.goB [] 1000 ?_
      simp (maxSteps := 10000000) only [go_sem, T28, Option.map_some, Int.reduceToNat, Nat.reduceEqDiff, Nat.reduceLT, Nat.reduceAdd, Nat.reduceMul, Nat.reduceSub, Nat.reduceLeDiff, reduceIte, reduceCtorEq, Tryz.results28]
      repeat refine gA ?_
      refine ⟨fun hc => ?_, fun hc => ?_⟩
      · replace hr := ifP1 hr hc
        obtain ⟨hg1, hr⟩ := of_guard1 hr
        obtain ⟨hg2, hr⟩ := of_guard1 hr
        repeat refine gA ?_
        refine ⟨fun hc => ?_, fun hc => ?_⟩
        · replace hr := ifP1 hr hc
          repeat refine gA ?_
          have hr := of_out0 hr
          obtain rfl := Option.some.inj hr
          (simp (maxDischargeDepth := 8) [go_sem])
        · replace hr := ifN1 hr hc
          repeat refine gA ?_
          refine S.sees [0, 1, 5] [] [] ?_ hr
          (simp (maxDischargeDepth := 8) [go_sem])
      · replace hr := ifN1 hr hc
        repeat refine gA ?_
        have hr := of_out0 hr
        repeat refine gA ?_
        obtain rfl := Option.some.inj hr
        (simp (maxDischargeDepth := 8) [go_sem])
theorem f28 : FnFact Tryz.prog 28 T28.sp := ⟨⟨Tryz.f28, Tryz.func28, by decide, rfl⟩, v28⟩

/- martensite/martensiteref03.SameBox -/
def r29 (a0_0 : List (Int)) (a0_1 : List (Int)) (a1_0 : List (Int)) (a1_1 : List (Int)) : Option (Bool) :=
  (r28 a0_0 a1_0).bind fun v1 =>
   if v1 = true → (r28 a0_1 a1_1).isSome = true then
    some (v1 && ((r28 a0_1 a1_1).getD default))
    else none
def T29 : TSpec ((List (Int)) × (List (Int)) × (List (Int)) × (List (Int))) where
  enc x := [.agg [encF 1 d_I x.1, encF 1 d_I x.2.1], .agg [encF 1 d_I x.2.2.1, encF 1 d_I x.2.2.2]]
  dec a := (decF g_I (aCell a 0 0), decF g_I (aCell a 0 1), decF g_I (aCell a 1 0), decF g_I (aCell a 1 1))
  pre x := (r29 x.1 x.2.1 x.2.2.1 x.2.2.2).isSome = true
  res x := [.c (.d (.bool ((r29 x.1 x.2.1 x.2.2.1 x.2.2.2).getD default)))]
  al := false
def tb29 : Fns := lk [(28, T28.sp)]
theorem tb29_ok : FnsOk Tryz.prog tb29 := .cons f28 (FnsOk.nil)
theorem tb29_28 : tb29 28 = some T28.sp := rfl
theorem v29 : Valid Tryz.prog 29 T29.sp := by
  refine valid_t (fn := Tryz.f29) (n := 17) ty_ok tb29_ok Tryz.func29 rfl Tryz.ntmps29 ?_
  rintro ⟨a0_0, a0_1, a1_0, a1_1⟩ hx
  obtain ⟨r, hr⟩ := Option.isSome_iff_exists.1 (show (r29 a0_0 a0_1 a1_0 a1_1).isSome = true from hx)
  have hres : T29.res (a0_0, a0_1, a1_0, a1_1) = [.c (.d (.bool r))] := by simp only [T29, hr, Option.getD_some]
  refine ⟨Nat.le_of_ble_eq_true rfl, fun stop S => ?_⟩
  rw [hres] at S
  unfold r29 at hr
  refine S.goB [] 1000 ?_
  simp (maxSteps := 10000000) only [go_sem, tb29_28, T28, T29, Option.map_some, Int.reduceToNat, Nat.reduceEqDiff, Nat.reduceLT, Nat.reduceAdd, Nat.reduceMul, Nat.reduceSub, Nat.reduceLeDiff, reduceIte, reduceCtorEq, Tryz.results29]
  obtain ⟨v1, hv1, hr⟩ := of_bind0 hr
  obtain ⟨hg2, hr⟩ := of_guard0 hr
  try simp only [hv1, Option.getD_some, Option.isSome_some, true_and, and_assoc]
  repeat (first | refine gG hg2 ?_ | refine gA ?_ | refine gB ?_)
  obtain rfl := Option.some.inj hr
  (simp (maxDischargeDepth := 8) [go_sem])
theorem f29 : FnFact Tryz.prog 29 T29.sp := ⟨⟨Tryz.f29, Tryz.func29, by decide, rfl⟩, v29⟩
end Go.Proofs.YtcbiiijnaeibhaaGreat

/- Contracts of functions, written by wip/dec. -/
import Derived.Test.YtcbiiijnaeibhaaF00
import Derived.Test.YtcbiiijnaeibhaaF01
import Derived.Test.YtcbiiijnaeibhaaF02
import Derived.Test.YtcbiiijnaeibhaaF03
set_option linter.unusedVariables false
set_option linter.unusedSimpArgs false
set_option maxHeartbeats 4000000
set_option maxRecDepth 20000
namespace Go.Proofs.Ytcbiiijnaeibhaa
open Go.Abs
/- martensite/heat.DepthAbove -/
def r77 (a0_0 : Int) (a0_1 : Int) (a0_2 : List (Int × Int)) (a0_3 : List ((List (Int × Int)))) (a1 : List (Int)) (a2 : Int) : Option (Int × Int) :=
  (r89 a0_0 a0_1 a0_2 a0_3 a1).bind fun v1 =>
   (r93 a2).bind fun v2 =>
    (r91 [v1.2.2.2.2.2.2, v2]).bind fun v3 =>
     if (v3 != 0) = true then
      some (0, v3)
      else (r95 v1.1 v1.2.1 v1.2.2.1 v1.2.2.2.1 v1.2.2.2.2.1 v1.2.2.2.2.2.1 a1 a2).bind fun v4 =>
       some (v4, 0)
def T77 : TSpec (Int × Int × (List (Int × Int)) × (List ((List (Int × Int)))) × (List (Int)) × Int) where
  enc x := [.agg [.int .i64 x.1, .int .i64 x.2.1, encF 2 d_II x.2.2.1, encF 1 d_LIIE x.2.2.2.1], .c (encF 1 d_I x.2.2.2.2.1), .c (.int .i64 x.2.2.2.2.2)]
  dec a := (dInt (aCell a 0 0), dInt (aCell a 0 1), decF g_II (aCell a 0 2), decF g_LIIE (aCell a 0 3), decF g_I (aCell a 1 0), dInt (aCell a 2 0))
  pre x := (r77 x.1 x.2.1 x.2.2.1 x.2.2.2.1 x.2.2.2.2.1 x.2.2.2.2.2).isSome = true
  res x := [.c (.d (.int .i64 (((r77 x.1 x.2.1 x.2.2.1 x.2.2.2.1 x.2.2.2.2.1 x.2.2.2.2.2).getD default).1))), .c (.d (.int .i64 (((r77 x.1 x.2.1 x.2.2.1 x.2.2.2.1 x.2.2.2.2.1 x.2.2.2.2.2).getD default).2)))]
  al := false
def tb77 : Fns := lk [(89, T89.sp), (91, T91.sp), (93, T93.sp), (95, T95.sp)]
theorem tb77_ok : FnsOk Try.prog tb77 := .cons f89 (.cons f91 (.cons f93 (.cons f95 (FnsOk.nil))))
theorem tb77_89 : tb77 89 = some T89.sp := rfl
theorem tb77_91 : tb77 91 = some T91.sp := rfl
theorem tb77_93 : tb77 93 = some T93.sp := rfl
theorem tb77_95 : tb77 95 = some T95.sp := rfl
theorem v77 : Valid Try.prog 77 T77.sp := by
  refine valid_t (fn := Try.f77) (n := 28) ty_ok tb77_ok Try.func77 rfl Try.ntmps77 ?_
  rintro ⟨a0_0, a0_1, a0_2, a0_3, a1, a2⟩ hx
  obtain ⟨r, hr⟩ := Option.isSome_iff_exists.1 (show (r77 a0_0 a0_1 a0_2 a0_3 a1 a2).isSome = true from hx)
  have hres : T77.res (a0_0, a0_1, a0_2, a0_3, a1, a2) = [.c (.d (.int .i64 r.1)), .c (.d (.int .i64 r.2))] := by simp only [T77, hr, Option.getD_some]
  refine ⟨Nat.le_of_ble_eq_true rfl, fun stop S => ?_⟩
  rw [hres] at S
  unfold r77 at hr
  refine S.goB [] 1000 ?_
  simp (maxSteps := 10000000) only [go_sem, tb77_89, T89, tb77_91, T91, tb77_93, T93, tb77_95, T95, T77, Option.map_some, Int.reduceToNat, Nat.reduceEqDiff, Nat.reduceLT, Nat.reduceAdd, Nat.reduceMul, Nat.reduceSub, Nat.reduceLeDiff, reduceIte, reduceCtorEq, Try.results77]
  obtain ⟨v1, hv1, hr⟩ := of_bind0 hr
  obtain ⟨v2, hv2, hr⟩ := of_bind0 hr
  obtain ⟨v3, hv3, hr⟩ := of_bind0 hr
  try simp only [hv1, hv2, hv3, Option.getD_some, Option.isSome_some, true_and, and_assoc]
  repeat refine gA ?_
  refine ⟨fun hc => ?_, fun hc => ?_⟩
  · replace hr := ifP hr hc
    repeat refine gA ?_
    obtain rfl := Option.some.inj hr
    (simp (maxDischargeDepth := 8) [go_sem])
  · replace hr := ifN hr hc
    obtain ⟨v4, hv4, hr⟩ := of_bind0 hr
    try simp only [hv4, Option.getD_some, Option.isSome_some, true_and, and_assoc]
    repeat refine gA ?_
    obtain rfl := Option.some.inj hr
    (simp (maxDischargeDepth := 8) [go_sem])
theorem f77 : FnFact Try.prog 77 T77.sp := ⟨⟨Try.f77, Try.func77, by decide, rfl⟩, v77⟩

/- martensite/heat.ShortestTo -/
def b17_1 (a2_0 : List (Int)) (a2_1 : Int) (a2_2 : Int) (a2_3 : Int) (a2_4 : Int) (v1 : Int × Int × (List (Int × Int)) × (List ((List (Int × Int)))) × (List (Int × Int)) × (List ((List (Int × Int)))) × Int) : ((List (Int)) × Int × Int) → Ctl ((List (Int)) × Int × Int) (Int × Int) := fun s1 =>
  if (s1.2.1 == 0) = true then
   bindC (r95 v1.1 v1.2.1 v1.2.2.1 v1.2.2.2.1 v1.2.2.2.2.1 v1.2.2.2.2.2.1 s1.1 a2_2) fun v7 =>
    if (decide (v7 ≥ a2_3)) = true then
     .out (some (s1.2.2, 0))
     else if (s1.2.2 == a2_4) = true then
      .out (some (0, 12))
      else bindC (r96 v1.1 v1.2.1 v1.2.2.1 v1.2.2.2.1 v1.2.2.2.2.1 v1.2.2.2.2.2.1 s1.1 a2_0 a2_1) fun v8 =>
       .next (v8.1, v8.2.2, IntKind.i64.wrap (s1.2.2 + 1))
   else .out (some (0, s1.2.1))
def b17_2 (a2_0 : List (Int)) (a2_1 : Int) (a2_2 : Int) (a2_3 : Int) (a2_4 : Int) (v1 : Int × Int × (List (Int × Int)) × (List ((List (Int × Int)))) × (List (Int × Int)) × (List ((List (Int × Int)))) × Int) : ((List (Int)) × Int × Int) → Ctl ((List (Int)) × Int × Int) (Int × Int) := fun s2 =>
  if (s2.2.1 == 0) = true then
   bindC (r95 v1.1 v1.2.1 v1.2.2.1 v1.2.2.2.1 v1.2.2.2.2.1 v1.2.2.2.2.2.1 s2.1 a2_2) fun v10 =>
    if (decide (v10 ≥ a2_3)) = true then
     .out (some (s2.2.2, 0))
     else if (s2.2.2 == a2_4) = true then
      .out (some (0, 12))
      else bindC (r96 v1.1 v1.2.1 v1.2.2.1 v1.2.2.2.1 v1.2.2.2.2.1 v1.2.2.2.2.2.1 s2.1 a2_0 a2_1) fun v11 =>
       .next (v11.1, v11.2.2, IntKind.i64.wrap (s2.2.2 + 1))
   else .out (some (0, s2.2.1))
def r17 (a0_0 : Int) (a0_1 : Int) (a0_2 : List (Int × Int)) (a0_3 : List ((List (Int × Int)))) (a1 : List (Int)) (a2_0 : List (Int)) (a2_1 : Int) (a2_2 : Int) (a2_3 : Int) (a2_4 : Int) : Option (Int × Int) :=
  (r89 a0_0 a0_1 a0_2 a0_3 a1).bind fun v1 =>
   if (v1.2.2.2.2.2.2 == 0) = true then
    (r90 a2_3 1 v1.1).bind fun v2 =>
     if v2 = true → (r90 a2_4 0 200).isSome = true then
      (r92 v1.1 v1.2.1 v1.2.2.1 v1.2.2.2.1 v1.2.2.2.2.1 v1.2.2.2.2.2.1 a2_0 a2_1).bind fun v3 =>
       (r93 a2_2).bind fun v4 =>
        (r94 (v2 && ((r90 a2_4 0 200).getD default)) 2).bind fun v5 =>
         (r91 [v3, v4, v5]).bind fun v6 =>
          iterC (b17_1 a2_0 a2_1 a2_2 a2_3 a2_4 v1) 1000000000 (a1, v6, 0)
      else none
    else iterC (b17_2 a2_0 a2_1 a2_2 a2_3 a2_4 v1) 1000000000 (a1, v1.2.2.2.2.2.2, 0)
def T17 : TSpec (Int × Int × (List (Int × Int)) × (List ((List (Int × Int)))) × (List (Int)) × (List (Int)) × Int × Int × Int × Int) where
  enc x := [.agg [.int .i64 x.1, .int .i64 x.2.1, encF 2 d_II x.2.2.1, encF 1 d_LIIE x.2.2.2.1], .c (encF 1 d_I x.2.2.2.2.1), .agg [encF 1 d_I x.2.2.2.2.2.1, .int .i64 x.2.2.2.2.2.2.1, .int .i64 x.2.2.2.2.2.2.2.1, .int .i64 x.2.2.2.2.2.2.2.2.1, .int .i64 x.2.2.2.2.2.2.2.2.2]]
  dec a := (dInt (aCell a 0 0), dInt (aCell a 0 1), decF g_II (aCell a 0 2), decF g_LIIE (aCell a 0 3), decF g_I (aCell a 1 0), decF g_I (aCell a 2 0), dInt (aCell a 2 1), dInt (aCell a 2 2), dInt (aCell a 2 3), dInt (aCell a 2 4))
  pre x := (r17 x.1 x.2.1 x.2.2.1 x.2.2.2.1 x.2.2.2.2.1 x.2.2.2.2.2.1 x.2.2.2.2.2.2.1 x.2.2.2.2.2.2.2.1 x.2.2.2.2.2.2.2.2.1 x.2.2.2.2.2.2.2.2.2).isSome = true
  res x := [.c (.d (.int .i64 (((r17 x.1 x.2.1 x.2.2.1 x.2.2.2.1 x.2.2.2.2.1 x.2.2.2.2.2.1 x.2.2.2.2.2.2.1 x.2.2.2.2.2.2.2.1 x.2.2.2.2.2.2.2.2.1 x.2.2.2.2.2.2.2.2.2).getD default).1))), .c (.d (.int .i64 (((r17 x.1 x.2.1 x.2.2.1 x.2.2.2.1 x.2.2.2.2.1 x.2.2.2.2.2.1 x.2.2.2.2.2.2.1 x.2.2.2.2.2.2.2.1 x.2.2.2.2.2.2.2.2.1 x.2.2.2.2.2.2.2.2.2).getD default).2)))]
  al := false
def tb17 : Fns := lk [(89, T89.sp), (90, T90.sp), (91, T91.sp), (92, T92.sp), (93, T93.sp), (94, T94.sp), (95, T95.sp), (96, T96.sp)]
theorem tb17_ok : FnsOk Try.prog tb17 := .cons f89 (.cons f90 (.cons f91 (.cons f92 (.cons f93 (.cons f94 (.cons f95 (.cons f96 (FnsOk.nil))))))))
theorem tb17_89 : tb17 89 = some T89.sp := rfl
theorem tb17_90 : tb17 90 = some T90.sp := rfl
theorem tb17_91 : tb17 91 = some T91.sp := rfl
theorem tb17_92 : tb17 92 = some T92.sp := rfl
theorem tb17_93 : tb17 93 = some T93.sp := rfl
theorem tb17_94 : tb17 94 = some T94.sp := rfl
theorem tb17_95 : tb17 95 = some T95.sp := rfl
theorem tb17_96 : tb17 96 = some T96.sp := rfl
theorem v17 : Valid Try.prog 17 T17.sp := by
  refine valid_t (fn := Try.f17) (n := 69) ty_ok tb17_ok Try.func17 rfl Try.ntmps17 ?_
  rintro ⟨a0_0, a0_1, a0_2, a0_3, a1, a2_0, a2_1, a2_2, a2_3, a2_4⟩ hx
  obtain ⟨r, hr⟩ := Option.isSome_iff_exists.1 (show (r17 a0_0 a0_1 a0_2 a0_3 a1 a2_0 a2_1 a2_2 a2_3 a2_4).isSome = true from hx)
  have hres : T17.res (a0_0, a0_1, a0_2, a0_3, a1, a2_0, a2_1, a2_2, a2_3, a2_4) = [.c (.d (.int .i64 r.1)), .c (.d (.int .i64 r.2))] := by simp only [T17, hr, Option.getD_some]
  refine ⟨Nat.le_of_ble_eq_true rfl, fun stop S => ?_⟩
  rw [hres] at S
  unfold r17 at hr
  refine S.goB [] 1000 ?_
  simp (maxSteps := 10000000) only [go_sem, tb17_89, T89, tb17_90, T90, tb17_91, T91, tb17_92, T92, tb17_93, T93, tb17_94, T94, tb17_95, T95, tb17_96, T96, T17, Option.map_some, Int.reduceToNat, Nat.reduceEqDiff, Nat.reduceLT, Nat.reduceAdd, Nat.reduceMul, Nat.reduceSub, Nat.reduceLeDiff, reduceIte, reduceCtorEq, Try.results17]
  obtain ⟨v1, hv1, hr⟩ := of_bind0 hr
  try simp only [hv1, Option.getD_some, Option.isSome_some, true_and, and_assoc]
  repeat refine gA ?_
  refine ⟨fun hc => ?_, fun hc => ?_⟩
  · replace hr := ifP hr hc
    obtain ⟨v2, hv2, hr⟩ := of_bind0 hr
    obtain ⟨hg9, hr⟩ := of_guard0 hr
    obtain ⟨v3, hv3, hr⟩ := of_bind0 hr
    obtain ⟨v4, hv4, hr⟩ := of_bind0 hr
    obtain ⟨v5, hv5, hr⟩ := of_bind0 hr
    obtain ⟨v6, hv6, hr⟩ := of_bind0 hr
    try simp only [hv2, hv3, hv4, hv5, hv6, Option.getD_some, Option.isSome_some, true_and, and_assoc]
    repeat (first | refine gG hg9 ?_ | refine gA ?_ | refine gB ?_)
    refine S.sees [1, 5, 8, 9, 11] [(5, 5), (8, 8)] [(15, 15), (10015, 10015)] ?_ (Stop.iter S (fun s1 => ⟨[(1, .c (.d (encF 1 d_I s1.1))), (5, .c (.ref 5 0)), (8, .c (.ref 8 0)), (9, .c (.d (.int .i64 s1.2.1))), (11, .c (.d (.int .i64 s1.2.2)))], [(5, [.d (encF 1 d_I a2_0), .d (.int .i64 a2_1), .d (.int .i64 a2_2), .d (.int .i64 a2_3), .d (.int .i64 a2_4)]), (8, [.d (.int .i64 v1.1), .d (.int .i64 v1.2.1), .d (encF 2 d_II v1.2.2.1), .d (encF 1 d_LIIE v1.2.2.2.1), .own 15, .own 10015])], [(15, .owned (encF 2 d_II v1.2.2.2.2.1)), (10015, .owned (encF 1 d_LIIE v1.2.2.2.2.2.1))]⟩) (b17_1 a2_0 a2_1 a2_2 a2_3 a2_4 v1) (fun q => q = r) hr rfl ?_)
    · (simp (maxDischargeDepth := 8) [go_sem])
    · intro s1 hr
      unfold b17_1 at hr
      refine S.goB [] 1000 ?_
      simp (maxSteps := 10000000) only [go_sem, tb17_89, T89, tb17_90, T90, tb17_91, T91, tb17_92, T92, tb17_93, T93, tb17_94, T94, tb17_95, T95, tb17_96, T96, T17, Option.map_some, Int.reduceToNat, Nat.reduceEqDiff, Nat.reduceLT, Nat.reduceAdd, Nat.reduceMul, Nat.reduceSub, Nat.reduceLeDiff, reduceIte, reduceCtorEq, Try.results17]
      repeat refine gA ?_
      refine ⟨fun hc => ?_, fun hc => ?_⟩
      · replace hr := ifP1 hr hc
        obtain ⟨v7, hv7, hr⟩ := of_bind1 hr
        try simp only [hv7, Option.getD_some, Option.isSome_some, true_and, and_assoc]
        repeat refine gA ?_
        refine ⟨fun hc => ?_, fun hc => ?_⟩
        · replace hr := ifP1 hr hc
          repeat refine gA ?_
          have hr := of_out0 hr
          obtain rfl := Option.some.inj hr
          (simp (maxDischargeDepth := 8) [go_sem])
        · replace hr := ifN1 hr hc
          repeat refine gA ?_
          refine ⟨fun hc => ?_, fun hc => ?_⟩
          · replace hr := ifP1 hr hc
            repeat refine gA ?_
            have hr := of_out0 hr
            obtain rfl := Option.some.inj hr
            (simp (maxDischargeDepth := 8) [go_sem])
          · replace hr := ifN1 hr hc
            obtain ⟨v8, hv8, hr⟩ := of_bind1 hr
            try simp only [hv8, Option.getD_some, Option.isSome_some, true_and, and_assoc]
            repeat refine gA ?_
            refine S.share 64 rfl ?_
            refine S.sees [1, 5, 8, 9, 11] [(5, 5), (8, 8)] [(15, 15), (10015, 10015)] ?_ hr
            (simp (maxDischargeDepth := 8) [go_sem])
      · replace hr := ifN1 hr hc
        repeat refine gA ?_
        have hr := of_out0 hr
        repeat refine gA ?_
        obtain rfl := Option.some.inj hr
        (simp (maxDischargeDepth := 8) [go_sem])
  · replace hr := ifN hr hc
    repeat refine gA ?_
    refine S.sees [1, 5, 8, 9, 11] [(5, 5), (8, 8)] [(15, 15), (10015, 10015)] ?_ (Stop.iter S (fun s2 => ⟨[(1, .c (.d (encF 1 d_I s2.1))), (5, .c (.ref 5 0)), (8, .c (.ref 8 0)), (9, .c (.d (.int .i64 s2.2.1))), (11, .c (.d (.int .i64 s2.2.2)))], [(5, [.d (encF 1 d_I a2_0), .d (.int .i64 a2_1), .d (.int .i64 a2_2), .d (.int .i64 a2_3), .d (.int .i64 a2_4)]), (8, [.d (.int .i64 v1.1), .d (.int .i64 v1.2.1), .d (encF 2 d_II v1.2.2.1), .d (encF 1 d_LIIE v1.2.2.2.1), .own 15, .own 10015])], [(15, .owned (encF 2 d_II v1.2.2.2.2.1)), (10015, .owned (encF 1 d_LIIE v1.2.2.2.2.2.1))]⟩) (b17_2 a2_0 a2_1 a2_2 a2_3 a2_4 v1) (fun q => q = r) hr rfl ?_)
    · (simp (maxDischargeDepth := 8) [go_sem])
    · intro s2 hr
      unfold b17_2 at hr
      refine S.goB [] 1000 ?_
      simp (maxSteps := 10000000) only [go_sem, tb17_89, T89, tb17_90, T90, tb17_91, T91, tb17_92, T92, tb17_93, T93, tb17_94, T94, tb17_95, T95, tb17_96, T96, T17, Option.map_some, Int.reduceToNat, Nat.reduceEqDiff, Nat.reduceLT, Nat.reduceAdd, Nat.reduceMul, Nat.reduceSub, Nat.reduceLeDiff, reduceIte, reduceCtorEq, Try.results17]
      repeat refine gA ?_
      refine ⟨fun hc => ?_, fun hc => ?_⟩
      · replace hr := ifP1 hr hc
        obtain ⟨v10, hv10, hr⟩ := of_bind1 hr
        try simp only [hv10, Option.getD_some, Option.isSome_some, true_and, and_assoc]
        repeat refine gA ?_
        refine ⟨fun hc => ?_, fun hc => ?_⟩
        · replace hr := ifP1 hr hc
          repeat refine gA ?_
          have hr := of_out0 hr
          obtain rfl := Option.some.inj hr
          (simp (maxDischargeDepth := 8) [go_sem])
        · replace hr := ifN1 hr hc
          repeat refine gA ?_
          refine ⟨fun hc => ?_, fun hc => ?_⟩
          · replace hr := ifP1 hr hc
            repeat refine gA ?_
            have hr := of_out0 hr
            obtain rfl := Option.some.inj hr
            (simp (maxDischargeDepth := 8) [go_sem])
          · replace hr := ifN1 hr hc
            obtain ⟨v11, hv11, hr⟩ := of_bind1 hr
            try simp only [hv11, Option.getD_some, Option.isSome_some, true_and, and_assoc]
            repeat refine gA ?_
            refine S.share 64 rfl ?_
            refine S.sees [1, 5, 8, 9, 11] [(5, 5), (8, 8)] [(15, 15), (10015, 10015)] ?_ hr
            (simp (maxDischargeDepth := 8) [go_sem])
      · replace hr := ifN1 hr hc
        repeat refine gA ?_
        have hr := of_out0 hr
        repeat refine gA ?_
        obtain rfl := Option.some.inj hr
        (simp (maxDischargeDepth := 8) [go_sem])
theorem f17 : FnFact Try.prog 17 T17.sp := ⟨⟨Try.f17, Try.func17, by decide, rfl⟩, v17⟩

/- martensite/martensitelaw03.Water -/
def r88 : Option (Int × Int × Int) :=
  some (100, 50, 200)
def T88 : TSpec (Unit) where
  enc x := []
  dec a := ()
  pre x := (r88).isSome = true
  res x := [.agg [.d (.int .i64 (((r88).getD default).1)), .d (.int .i64 (((r88).getD default).2.1)), .d (.int .i64 (((r88).getD default).2.2))]]
  al := false
def tb88 : Fns := lk []
theorem tb88_ok : FnsOk Try.prog tb88 := FnsOk.nil
theorem v88 : Valid Try.prog 88 T88.sp := by
  refine valid_t (fn := Try.f88) (n := 2) ty_ok tb88_ok Try.func88 rfl Try.ntmps88 ?_
  intro _ hx
  obtain ⟨r, hr⟩ := Option.isSome_iff_exists.1 (show (r88).isSome = true from hx)
  have hres : T88.res () = [.agg [.d (.int .i64 r.1), .d (.int .i64 r.2.1), .d (.int .i64 r.2.2)]] := by simp only [T88, hr, Option.getD_some]
  refine ⟨Nat.le_of_ble_eq_true rfl, fun stop S => ?_⟩
  rw [hres] at S
  unfold r88 at hr
  refine S.goB [] 1000 ?_
  simp (maxSteps := 10000000) only [go_sem, T88, Option.map_some, Int.reduceToNat, Nat.reduceEqDiff, Nat.reduceLT, Nat.reduceAdd, Nat.reduceMul, Nat.reduceSub, Nat.reduceLeDiff, reduceIte, reduceCtorEq, Try.results88]
  repeat refine gA ?_
  obtain rfl := Option.some.inj hr
  (simp (maxDischargeDepth := 8) [go_sem])
theorem f88 : FnFact Try.prog 88 T88.sp := ⟨⟨Try.f88, Try.func88, by decide, rfl⟩, v88⟩

/- martensite/heat.isHeat -/
def r111 (a0 : Int) : Option (Bool) :=
  (r90 a0 0 1000000).bind fun v1 =>
   some v1
def T111 : TSpec (Int) where
  enc x := [.c (.int .i64 x)]
  dec a := dInt (aCell a 0 0)
  pre x := (r111 x).isSome = true
  res x := [.c (.d (.bool ((r111 x).getD default)))]
  al := false
def tb111 : Fns := lk [(90, T90.sp)]
theorem tb111_ok : FnsOk Try.prog tb111 := .cons f90 (FnsOk.nil)
theorem tb111_90 : tb111 90 = some T90.sp := rfl
theorem v111 : Valid Try.prog 111 T111.sp := by
  refine valid_t (fn := Try.f111) (n := 5) ty_ok tb111_ok Try.func111 rfl Try.ntmps111 ?_
  rintro a0 hx
  obtain ⟨r, hr⟩ := Option.isSome_iff_exists.1 (show (r111 a0).isSome = true from hx)
  have hres : T111.res a0 = [.c (.d (.bool r))] := by simp only [T111, hr, Option.getD_some]
  refine ⟨Nat.le_of_ble_eq_true rfl, fun stop S => ?_⟩
  rw [hres] at S
  unfold r111 at hr
  refine S.goB [] 1000 ?_
  simp (maxSteps := 10000000) only [go_sem, tb111_90, T90, T111, Option.map_some, Int.reduceToNat, Nat.reduceEqDiff, Nat.reduceLT, Nat.reduceAdd, Nat.reduceMul, Nat.reduceSub, Nat.reduceLeDiff, reduceIte, reduceCtorEq, Try.results111]
  obtain ⟨v1, hv1, hr⟩ := of_bind0 hr
  try simp only [hv1, Option.getD_some, Option.isSome_some, true_and, and_assoc]
  repeat refine gA ?_
  obtain rfl := Option.some.inj hr
  (simp (maxDischargeDepth := 8) [go_sem])
theorem f111 : FnFact Try.prog 111 T111.sp := ⟨⟨Try.f111, Try.func111, by decide, rfl⟩, v111⟩

/- martensite/heat.CheckWater -/
def r32 (a0_0 : Int) (a0_1 : Int) (a0_2 : Int) : Option (Int) :=
  (r111 a0_0).bind fun v1 =>
   if v1 = true → (r111 a0_1).isSome = true then
    if (v1 && ((r111 a0_1).getD default)) = true → (r111 a0_2).isSome = true then
     (r94 ((v1 && ((r111 a0_1).getD default)) && ((r111 a0_2).getD default)) 2).bind fun v2 =>
      (r94 (decide (a0_0 < a0_2)) 9).bind fun v3 =>
       (r91 [v2, v3]).bind fun v4 =>
        some v4
     else none
    else none
def T32 : TSpec (Int × Int × Int) where
  enc x := [.agg [.int .i64 x.1, .int .i64 x.2.1, .int .i64 x.2.2]]
  dec a := (dInt (aCell a 0 0), dInt (aCell a 0 1), dInt (aCell a 0 2))
  pre x := (r32 x.1 x.2.1 x.2.2).isSome = true
  res x := [.c (.d (.int .i64 ((r32 x.1 x.2.1 x.2.2).getD default)))]
  al := false
def tb32 : Fns := lk [(91, T91.sp), (94, T94.sp), (111, T111.sp)]
theorem tb32_ok : FnsOk Try.prog tb32 := .cons f91 (.cons f94 (.cons f111 (FnsOk.nil)))
theorem tb32_91 : tb32 91 = some T91.sp := rfl
theorem tb32_94 : tb32 94 = some T94.sp := rfl
theorem tb32_111 : tb32 111 = some T111.sp := rfl
theorem v32 : Valid Try.prog 32 T32.sp := by
  refine valid_t (fn := Try.f32) (n := 25) ty_ok tb32_ok Try.func32 rfl Try.ntmps32 ?_
  rintro ⟨a0_0, a0_1, a0_2⟩ hx
  obtain ⟨r, hr⟩ := Option.isSome_iff_exists.1 (show (r32 a0_0 a0_1 a0_2).isSome = true from hx)
  have hres : T32.res (a0_0, a0_1, a0_2) = [.c (.d (.int .i64 r))] := by simp only [T32, hr, Option.getD_some]
  refine ⟨Nat.le_of_ble_eq_true rfl, fun stop S => ?_⟩
  rw [hres] at S
  unfold r32 at hr
  refine S.goB [] 1000 ?_
  simp (maxSteps := 10000000) only [go_sem, tb32_91, T91, tb32_94, T94, tb32_111, T111, T32, Option.map_some, Int.reduceToNat, Nat.reduceEqDiff, Nat.reduceLT, Nat.reduceAdd, Nat.reduceMul, Nat.reduceSub, Nat.reduceLeDiff, reduceIte, reduceCtorEq, Try.results32]
  obtain ⟨v1, hv1, hr⟩ := of_bind0 hr
  obtain ⟨hg5, hr⟩ := of_guard0 hr
  obtain ⟨hg6, hr⟩ := of_guard0 hr
  obtain ⟨v2, hv2, hr⟩ := of_bind0 hr
  obtain ⟨v3, hv3, hr⟩ := of_bind0 hr
  obtain ⟨v4, hv4, hr⟩ := of_bind0 hr
  try simp only [hv1, hv2, hv3, hv4, Option.getD_some, Option.isSome_some, true_and, and_assoc]
  repeat (first | refine gG hg5 ?_ | refine gG hg6 ?_ | refine gA ?_ | refine gB ?_)
  obtain rfl := Option.some.inj hr
  (simp (maxDischargeDepth := 8) [go_sem])
theorem f32 : FnFact Try.prog 32 T32.sp := ⟨⟨Try.f32, Try.func32, by decide, rfl⟩, v32⟩

/- martensite/heat.isFlow -/
def r108 (a0 : Int) : Option (Bool) :=
  (r90 a0 0 1000).bind fun v1 =>
   some v1
def T108 : TSpec (Int) where
  enc x := [.c (.int .i64 x)]
  dec a := dInt (aCell a 0 0)
  pre x := (r108 x).isSome = true
  res x := [.c (.d (.bool ((r108 x).getD default)))]
  al := false
def tb108 : Fns := lk [(90, T90.sp)]
theorem tb108_ok : FnsOk Try.prog tb108 := .cons f90 (FnsOk.nil)
theorem tb108_90 : tb108 90 = some T90.sp := rfl
theorem v108 : Valid Try.prog 108 T108.sp := by
  refine valid_t (fn := Try.f108) (n := 5) ty_ok tb108_ok Try.func108 rfl Try.ntmps108 ?_
  rintro a0 hx
  obtain ⟨r, hr⟩ := Option.isSome_iff_exists.1 (show (r108 a0).isSome = true from hx)
  have hres : T108.res a0 = [.c (.d (.bool r))] := by simp only [T108, hr, Option.getD_some]
  refine ⟨Nat.le_of_ble_eq_true rfl, fun stop S => ?_⟩
  rw [hres] at S
  unfold r108 at hr
  refine S.goB [] 1000 ?_
  simp (maxSteps := 10000000) only [go_sem, tb108_90, T90, T108, Option.map_some, Int.reduceToNat, Nat.reduceEqDiff, Nat.reduceLT, Nat.reduceAdd, Nat.reduceMul, Nat.reduceSub, Nat.reduceLeDiff, reduceIte, reduceCtorEq, Try.results108]
  obtain ⟨v1, hv1, hr⟩ := of_bind0 hr
  try simp only [hv1, Option.getD_some, Option.isSome_some, true_and, and_assoc]
  repeat refine gA ?_
  obtain rfl := Option.some.inj hr
  (simp (maxDischargeDepth := 8) [go_sem])
theorem f108 : FnFact Try.prog 108 T108.sp := ⟨⟨Try.f108, Try.func108, by decide, rfl⟩, v108⟩

/- martensite/heat.heats -/
def b109_1 (a0_1 : Int) (a1 : List (Int)) : ((List (Int)) × Int × Int) → Ctl ((List (Int)) × Int × Int) ((List (Int))) := fun s1 =>
  if (decide (s1.2.2 < (a1.length : Int))) = true then
   if 0 ≤ s1.2.2 ∧ s1.2.2 < (a1.length : Int) then
    if (s1.1.length + 1) * 8 ≤ 140737488355328 ∧ s1.1.length + 1 ≤ 9223372036854775807 then
     .next (s1.1 ++ [IntKind.i64.wrap (s1.2.1 + (IntKind.i64.wrap (a0_1 - (IntKind.i64.wrap ((IntKind.i64.wrap (s1.2.1 * (a1.getD s1.2.2.toNat default))).tdiv 1000)))))], IntKind.i64.wrap (s1.2.1 + (IntKind.i64.wrap (a0_1 - (IntKind.i64.wrap ((IntKind.i64.wrap (s1.2.1 * (a1.getD s1.2.2.toNat default))).tdiv 1000))))), IntKind.i64.wrap (s1.2.2 + 1))
     else .out none
    else .out none
   else .out (some s1.1)
def r109 (a0_0 : Int) (a0_1 : Int) (a0_2 : Int) (a1 : List (Int)) : Option ((List (Int))) :=
  iterC (b109_1 a0_1 a1) 1000000000 ([], a0_0, 0)
def T109 : TSpec (Int × Int × Int × (List (Int))) where
  enc x := [.agg [.int .i64 x.1, .int .i64 x.2.1, .int .i64 x.2.2.1], .c (encF 1 d_I x.2.2.2)]
  dec a := (dInt (aCell a 0 0), dInt (aCell a 0 1), dInt (aCell a 0 2), decF g_I (aCell a 1 0))
  pre x := (r109 x.1 x.2.1 x.2.2.1 x.2.2.2).isSome = true
  res x := [.c (.own (encF 1 d_I ((r109 x.1 x.2.1 x.2.2.1 x.2.2.2).getD default)))]
  al := false
def tb109 : Fns := lk []
theorem tb109_ok : FnsOk Try.prog tb109 := FnsOk.nil
theorem v109 : Valid Try.prog 109 T109.sp := by
  refine valid_t (fn := Try.f109) (n := 32) ty_ok tb109_ok Try.func109 rfl Try.ntmps109 ?_
  rintro ⟨a0_0, a0_1, a0_2, a1⟩ hx
  obtain ⟨r, hr⟩ := Option.isSome_iff_exists.1 (show (r109 a0_0 a0_1 a0_2 a1).isSome = true from hx)
  have hres : T109.res (a0_0, a0_1, a0_2, a1) = [.c (.own (encF 1 d_I r))] := by simp only [T109, hr, Option.getD_some]
  refine ⟨Nat.le_of_ble_eq_true rfl, fun stop S => ?_⟩
  rw [hres] at S
  unfold r109 at hr
  refine S.goB [] 1000 ?_
  simp (maxSteps := 10000000) only [go_sem, T109, Option.map_some, Int.reduceToNat, Nat.reduceEqDiff, Nat.reduceLT, Nat.reduceAdd, Nat.reduceMul, Nat.reduceSub, Nat.reduceLeDiff, reduceIte, reduceCtorEq, Try.results109]
  repeat refine gA ?_
  refine S.own0 5 1000500 1 rfl rfl ?_
  refine S.sees [2, 5, 6, 11, 12, 13] [(2, 2)] [(1000500, 1000500)] ?_ (Stop.iter S (fun s1 => ⟨[(2, .c (.ref 2 0)), (5, .c (.own 1000500)), (6, .c (.d (.int .i64 s1.2.1))), (11, .c (.d (encF 1 d_I a1))), (12, .c (.d (.int .i64 (a1.length : Int)))), (13, .c (.d (.int .i64 s1.2.2)))], [(2, [.d (.int .i64 a0_0), .d (.int .i64 a0_1), .d (.int .i64 a0_2)])], [(1000500, .owned (encF 1 d_I s1.1))]⟩) (b109_1 a0_1 a1) (fun q => q = r) hr rfl ?_)
  · (simp (maxDischargeDepth := 8) [go_sem])
  · intro s1 hr
    unfold b109_1 at hr
    refine S.goB [] 1000 ?_
    simp (maxSteps := 10000000) only [go_sem, T109, Option.map_some, Int.reduceToNat, Nat.reduceEqDiff, Nat.reduceLT, Nat.reduceAdd, Nat.reduceMul, Nat.reduceSub, Nat.reduceLeDiff, reduceIte, reduceCtorEq, Try.results109]
    repeat refine gA ?_
    refine ⟨fun hc => ?_, fun hc => ?_⟩
    · replace hr := ifP1 hr hc
      obtain ⟨hg1, hr⟩ := of_guard1 hr
      obtain ⟨hg2, hr⟩ := of_guard1 hr
      repeat refine gA ?_
      refine S.sees [2, 5, 6, 11, 12, 13] [(2, 2)] [(29, 1000500)] ?_ hr
      (simp (maxDischargeDepth := 8) [go_sem])
    · replace hr := ifN1 hr hc
      repeat refine gA ?_
      have hr := of_out0 hr
      repeat refine gA ?_
      obtain rfl := Option.some.inj hr
      (simp (maxDischargeDepth := 8) [go_sem])
theorem f109 : FnFact Try.prog 109 T109.sp := ⟨⟨Try.f109, Try.func109, by decide, rfl⟩, v109⟩

/- martensite/heat.boiling$1 -/
def r152 (a0 : Int) (a1_0 : Int) (a1_1 : Int) (a1_2 : Int) : Option (Bool) :=
  some (decide (a0 ≥ a1_2))
def T152 : TSpec (Int × Int × Int × Int) where
  enc x := [.c (.int .i64 x.1), .ptr [.int .i64 x.2.1, .int .i64 x.2.2.1, .int .i64 x.2.2.2]]
  dec a := (dInt (aCell a 0 0), dInt (aCell a 1 0), dInt (aCell a 1 1), dInt (aCell a 1 2))
  pre x := (r152 x.1 x.2.1 x.2.2.1 x.2.2.2).isSome = true
  res x := [.c (.d (.bool ((r152 x.1 x.2.1 x.2.2.1 x.2.2.2).getD default)))]
  al := false
def tb152 : Fns := lk []
theorem tb152_ok : FnsOk Try.prog tb152 := FnsOk.nil
theorem v152 : Valid Try.prog 152 T152.sp := by
  refine valid_t (fn := Try.f152) (n := 8) ty_ok tb152_ok Try.func152 rfl Try.ntmps152 ?_
  rintro ⟨a0, a1_0, a1_1, a1_2⟩ hx
  obtain ⟨r, hr⟩ := Option.isSome_iff_exists.1 (show (r152 a0 a1_0 a1_1 a1_2).isSome = true from hx)
  have hres : T152.res (a0, a1_0, a1_1, a1_2) = [.c (.d (.bool r))] := by simp only [T152, hr, Option.getD_some]
  refine ⟨Nat.le_of_ble_eq_true rfl, fun stop S => ?_⟩
  rw [hres] at S
  unfold r152 at hr
  refine S.goB [] 1000 ?_
  simp (maxSteps := 10000000) only [go_sem, T152, Option.map_some, Int.reduceToNat, Nat.reduceEqDiff, Nat.reduceLT, Nat.reduceAdd, Nat.reduceMul, Nat.reduceSub, Nat.reduceLeDiff, reduceIte, reduceCtorEq, Try.results152]
  repeat refine gA ?_
  obtain rfl := Option.some.inj hr
  (simp (maxDischargeDepth := 8) [go_sem])
theorem f152 : FnFact Try.prog 152 T152.sp := ⟨⟨Try.f152, Try.func152, by decide, rfl⟩, v152⟩

/- slices.IndexFunc[[]int,int] -/
def b141d_1 (a0 : List (Int)) (a1_0_0 : Int) (a1_0_1 : Int) (a1_0_2 : Int) : (Int) → Ctl (Int) (Int) := fun s1 =>
  if (decide (s1 < (a0.length : Int))) = true then
   if 0 ≤ s1 ∧ s1 < (a0.length : Int) then
    bindC (r152 (a0.getD s1.toNat default) a1_0_0 a1_0_1 a1_0_2) fun v1 =>
     if v1 = true then
      .out (some s1)
      else .next (IntKind.i64.wrap (s1 + 1))
    else .out none
   else .out (some (-1))
def r141d (a0 : List (Int)) (a1_0_0 : Int) (a1_0_1 : Int) (a1_0_2 : Int) : Option (Int) :=
  iterC (b141d_1 a0 a1_0_0 a1_0_1 a1_0_2) 1000000000 0
def T141d : TSpec ((List (Int)) × Int × Int × Int) where
  enc x := [.c (encF 1 d_I x.1), .clo 152 [[.int .i64 x.2.1, .int .i64 x.2.2.1, .int .i64 x.2.2.2]]]
  dec a := (decF g_I (aCell a 0 0), dInt (aCell a 1 0), dInt (aCell a 1 1), dInt (aCell a 1 2))
  pre x := (r141d x.1 x.2.1 x.2.2.1 x.2.2.2).isSome = true
  res x := [.c (.d (.int .i64 ((r141d x.1 x.2.1 x.2.2.1 x.2.2.2).getD default)))]
  al := false
def tb141d : Fns := lk [(152, T152.sp)]
theorem tb141d_ok : FnsOk Try.prog tb141d := .cons f152 (FnsOk.nil)
theorem tb141d_152 : tb141d 152 = some T152.sp := rfl
theorem v141d : Valid Try.prog 141 T141d.sp := by
  refine valid_t (fn := Try.f141) (n := 19) ty_ok tb141d_ok Try.func141 rfl Try.ntmps141 ?_
  rintro ⟨a0, a1_0_0, a1_0_1, a1_0_2⟩ hx
  obtain ⟨r, hr⟩ := Option.isSome_iff_exists.1 (show (r141d a0 a1_0_0 a1_0_1 a1_0_2).isSome = true from hx)
  have hres : T141d.res (a0, a1_0_0, a1_0_1, a1_0_2) = [.c (.d (.int .i64 r))] := by simp only [T141d, hr, Option.getD_some]
  refine ⟨Nat.le_of_ble_eq_true rfl, fun stop S => ?_⟩
  rw [hres] at S
  unfold r141d at hr
  refine S.goB [] 1000 ?_
  simp (maxSteps := 10000000) only [go_sem, tb141d_152, T152, T141d, Option.map_some, Int.reduceToNat, Nat.reduceEqDiff, Nat.reduceLT, Nat.reduceAdd, Nat.reduceMul, Nat.reduceSub, Nat.reduceLeDiff, reduceIte, reduceCtorEq, Try.results141]
  repeat refine gA ?_
  refine S.sees [0, 1, 7, 8] [] [] ?_ (Stop.iter S (fun s1 => ⟨[(0, .c (.d (encF 1 d_I a0))), (1, .c (.clo 152 [.sptr [.int .i64 a1_0_0, .int .i64 a1_0_1, .int .i64 a1_0_2] 0])), (7, .c (.d (.int .i64 (a0.length : Int)))), (8, .c (.d (.int .i64 s1)))], [], []⟩) (b141d_1 a0 a1_0_0 a1_0_1 a1_0_2) (fun q => q = r) hr rfl ?_)
  · (simp (maxDischargeDepth := 8) [go_sem])
  · intro s1 hr
    unfold b141d_1 at hr
    refine S.goB [] 1000 ?_
    simp (maxSteps := 10000000) only [go_sem, tb141d_152, T152, T141d, Option.map_some, Int.reduceToNat, Nat.reduceEqDiff, Nat.reduceLT, Nat.reduceAdd, Nat.reduceMul, Nat.reduceSub, Nat.reduceLeDiff, reduceIte, reduceCtorEq, Try.results141]
    repeat refine gA ?_
    refine ⟨fun hc => ?_, fun hc => ?_⟩
    · replace hr := ifP1 hr hc
      obtain ⟨hg2, hr⟩ := of_guard1 hr
      obtain ⟨v1, hv1, hr⟩ := of_bind1 hr
      try simp only [hv1, Option.getD_some, Option.isSome_some, true_and, and_assoc]
      repeat refine gA ?_
      refine ⟨fun hc => ?_, fun hc => ?_⟩
      · replace hr := ifP1 hr hc
        repeat refine gA ?_
        have hr := of_out0 hr
        obtain rfl := Option.some.inj hr
        (simp (maxDischargeDepth := 8) [go_sem])
      · replace hr := ifN1 hr hc
        repeat refine gA ?_
        refine S.sees [0, 1, 7, 8] [] [] ?_ hr
        (simp (maxDischargeDepth := 8) [go_sem])
    · replace hr := ifN1 hr hc
      repeat refine gA ?_
      have hr := of_out0 hr
      repeat refine gA ?_
      obtain rfl := Option.some.inj hr
      (simp (maxDischargeDepth := 8) [go_sem])
theorem f141d : FnFact Try.prog 141 T141d.sp := ⟨⟨Try.f141, Try.func141, by decide, rfl⟩, v141d⟩

/- martensite/heat.boiling -/
def r110 (a0_0 : Int) (a0_1 : Int) (a0_2 : Int) (a1 : List (Int)) : Option (Int) :=
  (r109 a0_0 a0_1 a0_2 a1).bind fun v1 =>
   (r141d v1 a0_0 a0_1 a0_2).bind fun v2 =>
    if (decide (v2 < 0)) = true then
     some (IntKind.i64.wrap ((a1.length : Int) + 1))
     else some (IntKind.i64.wrap (v2 + 1))
def T110 : TSpec (Int × Int × Int × (List (Int))) where
  enc x := [.agg [.int .i64 x.1, .int .i64 x.2.1, .int .i64 x.2.2.1], .c (encF 1 d_I x.2.2.2)]
  dec a := (dInt (aCell a 0 0), dInt (aCell a 0 1), dInt (aCell a 0 2), decF g_I (aCell a 1 0))
  pre x := (r110 x.1 x.2.1 x.2.2.1 x.2.2.2).isSome = true
  res x := [.c (.d (.int .i64 ((r110 x.1 x.2.1 x.2.2.1 x.2.2.2).getD default)))]
  al := false
def tb110 : Fns := lk [(109, T109.sp), (141, T141d.sp)]
theorem tb110_ok : FnsOk Try.prog tb110 := .cons f109 (.cons f141d (FnsOk.nil))
theorem tb110_109 : tb110 109 = some T109.sp := rfl
theorem tb110_141 : tb110 141 = some T141d.sp := rfl
theorem v110 : Valid Try.prog 110 T110.sp := by
  refine valid_t (fn := Try.f110) (n := 17) ty_ok tb110_ok Try.func110 rfl Try.ntmps110 ?_
  rintro ⟨a0_0, a0_1, a0_2, a1⟩ hx
  obtain ⟨r, hr⟩ := Option.isSome_iff_exists.1 (show (r110 a0_0 a0_1 a0_2 a1).isSome = true from hx)
  have hres : T110.res (a0_0, a0_1, a0_2, a1) = [.c (.d (.int .i64 r))] := by simp only [T110, hr, Option.getD_some]
  refine ⟨Nat.le_of_ble_eq_true rfl, fun stop S => ?_⟩
  rw [hres] at S
  unfold r110 at hr
  refine S.goB [] 1000 ?_
  simp (maxSteps := 10000000) only [go_sem, tb110_109, T109, tb110_141, T141d, T110, Option.map_some, Int.reduceToNat, Nat.reduceEqDiff, Nat.reduceLT, Nat.reduceAdd, Nat.reduceMul, Nat.reduceSub, Nat.reduceLeDiff, reduceIte, reduceCtorEq, Try.results110]
  obtain ⟨v1, hv1, hr⟩ := of_bind0 hr
  obtain ⟨v2, hv2, hr⟩ := of_bind0 hr
  try simp only [hv1, hv2, Option.getD_some, Option.isSome_some, true_and, and_assoc]
  repeat refine gA ?_
  refine ⟨fun hc => ?_, fun hc => ?_⟩
  · replace hr := ifP hr hc
    repeat refine gA ?_
    obtain rfl := Option.some.inj hr
    (simp (maxDischargeDepth := 8) [go_sem])
  · replace hr := ifN hr hc
    repeat refine gA ?_
    obtain rfl := Option.some.inj hr
    (simp (maxDischargeDepth := 8) [go_sem])
theorem f110 : FnFact Try.prog 110 T110.sp := ⟨⟨Try.f110, Try.func110, by decide, rfl⟩, v110⟩

/- martensite/heat.BoilingIn -/
def b30_1 (a0_0 : Int) (a0_1 : Int) (a0_2 : Int) (a1 : List (Int × Int)) : (Int × (List (Int)) × (List (Int)) × Int) → Ctl (Int × (List (Int)) × (List (Int)) × Int) (Int × Int × Int) := fun s1 =>
  if (decide (s1.2.2.2 < (a1.length : Int))) = true then
   if 0 ≤ s1.2.2.2 ∧ s1.2.2.2 < (a1.length : Int) then
    bindC (r108 ((a1.getD s1.2.2.2.toNat default).1)) fun v4 =>
     if v4 = true → (r108 ((a1.getD s1.2.2.2.toNat default).2)).isSome = true then
      bindC (r94 (v4 && ((r108 ((a1.getD s1.2.2.2.toNat default).2)).getD default)) 2) fun v5 =>
       bindC (r94 (decide (((a1.getD s1.2.2.2.toNat default).1) ≤ ((a1.getD s1.2.2.2.toNat default).2))) 9) fun v6 =>
        bindC (r91 [s1.1, v5, v6]) fun v7 =>
         if (s1.2.1.length + 1) * 8 ≤ 140737488355328 ∧ s1.2.1.length + 1 ≤ 9223372036854775807 then
          if (s1.2.2.1.length + 1) * 8 ≤ 140737488355328 ∧ s1.2.2.1.length + 1 ≤ 9223372036854775807 then
           .next (v7, s1.2.1 ++ [(a1.getD s1.2.2.2.toNat default).1], s1.2.2.1 ++ [(a1.getD s1.2.2.2.toNat default).2], IntKind.i64.wrap (s1.2.2.2 + 1))
           else .out none
          else .out none
      else .out none
    else .out none
   else .out (if (s1.1 != 0) = true then
    some (0, 0, s1.1)
    else (r110 a0_0 a0_1 a0_2 s1.2.1).bind fun v12 =>
     (r110 a0_0 a0_1 a0_2 s1.2.2.1).bind fun v13 =>
      if (decide (v12 > (a1.length : Int))) = true then
       some (0, 0, 12)
       else some (v12, v13, 0))
def r30 (a0_0 : Int) (a0_1 : Int) (a0_2 : Int) (a1 : List (Int × Int)) : Option (Int × Int × Int) :=
  (r32 a0_0 a0_1 a0_2).bind fun v1 =>
   (r94 (decide ((a1.length : Int) ≤ 200)) 8).bind fun v2 =>
    (r91 [v1, v2]).bind fun v3 =>
     iterC (b30_1 a0_0 a0_1 a0_2 a1) 1000000000 (v3, [], [], 0)
def T30 : TSpec (Int × Int × Int × (List (Int × Int))) where
  enc x := [.agg [.int .i64 x.1, .int .i64 x.2.1, .int .i64 x.2.2.1], .c (encF 2 d_II x.2.2.2)]
  dec a := (dInt (aCell a 0 0), dInt (aCell a 0 1), dInt (aCell a 0 2), decF g_II (aCell a 1 0))
  pre x := (r30 x.1 x.2.1 x.2.2.1 x.2.2.2).isSome = true
  res x := [.agg [.d (.int .i64 (((r30 x.1 x.2.1 x.2.2.1 x.2.2.2).getD default).1)), .d (.int .i64 (((r30 x.1 x.2.1 x.2.2.1 x.2.2.2).getD default).2.1))], .c (.d (.int .i64 (((r30 x.1 x.2.1 x.2.2.1 x.2.2.2).getD default).2.2)))]
  al := false
def tb30 : Fns := lk [(32, T32.sp), (91, T91.sp), (94, T94.sp), (108, T108.sp), (110, T110.sp)]
theorem tb30_ok : FnsOk Try.prog tb30 := .cons f32 (.cons f91 (.cons f94 (.cons f108 (.cons f110 (FnsOk.nil)))))
theorem tb30_32 : tb30 32 = some T32.sp := rfl
theorem tb30_91 : tb30 91 = some T91.sp := rfl
theorem tb30_94 : tb30 94 = some T94.sp := rfl
theorem tb30_108 : tb30 108 = some T108.sp := rfl
theorem tb30_110 : tb30 110 = some T110.sp := rfl
theorem v30 : Valid Try.prog 30 T30.sp := by
  refine valid_t (fn := Try.f30) (n := 73) ty_ok tb30_ok Try.func30 rfl Try.ntmps30 ?_
  rintro ⟨a0_0, a0_1, a0_2, a1⟩ hx
  obtain ⟨r, hr⟩ := Option.isSome_iff_exists.1 (show (r30 a0_0 a0_1 a0_2 a1).isSome = true from hx)
  have hres : T30.res (a0_0, a0_1, a0_2, a1) = [.agg [.d (.int .i64 r.1), .d (.int .i64 r.2.1)], .c (.d (.int .i64 r.2.2))] := by simp only [T30, hr, Option.getD_some]
  refine ⟨Nat.le_of_ble_eq_true rfl, fun stop S => ?_⟩
  rw [hres] at S
  unfold r30 at hr
  refine S.goB [] 1000 ?_
  simp (maxSteps := 10000000) only [go_sem, tb30_32, T32, tb30_91, T91, tb30_94, T94, tb30_108, T108, tb30_110, T110, T30, Option.map_some, Int.reduceToNat, Nat.reduceEqDiff, Nat.reduceLT, Nat.reduceAdd, Nat.reduceMul, Nat.reduceSub, Nat.reduceLeDiff, reduceIte, reduceCtorEq, Try.results30]
  obtain ⟨v1, hv1, hr⟩ := of_bind0 hr
  obtain ⟨v2, hv2, hr⟩ := of_bind0 hr
  obtain ⟨v3, hv3, hr⟩ := of_bind0 hr
  try simp only [hv1, hv2, hv3, Option.getD_some, Option.isSome_some, true_and, and_assoc]
  repeat refine gA ?_
  refine S.own0 7 1000700 1 rfl rfl ?_
  refine S.own0 8 1000800 1 rfl rfl ?_
  refine S.sees [1, 2, 4, 6, 7, 8, 20, 21, 22] [(2, 2), (4, 4)] [(1000700, 1000700), (1000800, 1000800)] ?_ (Stop.iter S (fun s1 => ⟨[(1, .c (.d (encF 2 d_II a1))), (2, .c (.ref 2 0)), (4, .c (.ref 4 0)), (6, .c (.d (.int .i64 s1.1))), (7, .c (.own 1000700)), (8, .c (.own 1000800)), (20, .c (.d (encF 2 d_II a1))), (21, .c (.d (.int .i64 (a1.length : Int)))), (22, .c (.d (.int .i64 s1.2.2.2)))], [(2, [.d (.int .i64 a0_0), .d (.int .i64 a0_1), .d (.int .i64 a0_2)]), (4, [.d (.int .i64 0), .d (.int .i64 0)])], [(1000700, .owned (encF 1 d_I s1.2.1)), (1000800, .owned (encF 1 d_I s1.2.2.1))]⟩) (b30_1 a0_0 a0_1 a0_2 a1) (fun q => q = r) hr rfl ?_)
  · (simp (maxDischargeDepth := 8) [go_sem])
  · intro s1 hr
    unfold b30_1 at hr
    refine S.goB [] 1000 ?_
    simp (maxSteps := 10000000) only [go_sem, tb30_32, T32, tb30_91, T91, tb30_94, T94, tb30_108, T108, tb30_110, T110, T30, Option.map_some, Int.reduceToNat, Nat.reduceEqDiff, Nat.reduceLT, Nat.reduceAdd, Nat.reduceMul, Nat.reduceSub, Nat.reduceLeDiff, reduceIte, reduceCtorEq, Try.results30]
    repeat refine gA ?_
    refine ⟨fun hc => ?_, fun hc => ?_⟩
    · replace hr := ifP1 hr hc
      obtain ⟨hg8, hr⟩ := of_guard1 hr
      obtain ⟨v4, hv4, hr⟩ := of_bind1 hr
      obtain ⟨hg9, hr⟩ := of_guard1 hr
      obtain ⟨v5, hv5, hr⟩ := of_bind1 hr
      obtain ⟨v6, hv6, hr⟩ := of_bind1 hr
      obtain ⟨v7, hv7, hr⟩ := of_bind1 hr
      obtain ⟨hg10, hr⟩ := of_guard1 hr
      obtain ⟨hg11, hr⟩ := of_guard1 hr
      try simp only [hv4, hv5, hv6, hv7, Option.getD_some, Option.isSome_some, true_and, and_assoc]
      repeat (first | refine gG hg9 ?_ | refine gA ?_ | refine gB ?_)
      refine S.sees [1, 2, 4, 6, 7, 8, 20, 21, 22] [(2, 2), (4, 4)] [(48, 1000700), (53, 1000800)] ?_ hr
      (simp (maxDischargeDepth := 8) [go_sem])
    · replace hr := ifN1 hr hc
      repeat refine gA ?_
      have hr := of_out0 hr
      repeat refine gA ?_
      refine ⟨fun hc => ?_, fun hc => ?_⟩
      · replace hr := ifP hr hc
        repeat refine gA ?_
        obtain rfl := Option.some.inj hr
        (simp (maxDischargeDepth := 8) [go_sem])
      · replace hr := ifN hr hc
        obtain ⟨v12, hv12, hr⟩ := of_bind0 hr
        obtain ⟨v13, hv13, hr⟩ := of_bind0 hr
        try simp only [hv12, hv13, Option.getD_some, Option.isSome_some, true_and, and_assoc]
        repeat refine gA ?_
        refine ⟨fun hc => ?_, fun hc => ?_⟩
        · replace hr := ifP hr hc
          repeat refine gA ?_
          obtain rfl := Option.some.inj hr
          (simp (maxDischargeDepth := 8) [go_sem])
        · replace hr := ifN hr hc
          repeat refine gA ?_
          obtain rfl := Option.some.inj hr
          (simp (maxDischargeDepth := 8) [go_sem])
theorem f30 : FnFact Try.prog 30 T30.sp := ⟨⟨Try.f30, Try.func30, by decide, rfl⟩, v30⟩

/- martensite/martensitebase.Ints -/
def b34_1 (a0 : List (Int)) (a1 : List (Int)) : (Int) → Ctl (Int) (Bool) := fun s1 =>
  if (decide (s1 < (a0.length : Int))) = true then
   if 0 ≤ s1 ∧ s1 < (a0.length : Int) then
    if 0 ≤ s1 ∧ s1 < (a1.length : Int) then
     if ((a0.getD s1.toNat default) != (a1.getD s1.toNat default)) = true then
      .out (some false)
      else .next (IntKind.i64.wrap (s1 + 1))
     else .out none
    else .out none
   else .out (some true)
def r34 (a0 : List (Int)) (a1 : List (Int)) : Option (Bool) :=
  if ((a0.length : Int) != (a1.length : Int)) = true then
   some false
   else iterC (b34_1 a0 a1) 1000000000 0
def T34 : TSpec ((List (Int)) × (List (Int))) where
  enc x := [.c (encF 1 d_I x.1), .c (encF 1 d_I x.2)]
  dec a := (decF g_I (aCell a 0 0), decF g_I (aCell a 1 0))
  pre x := (r34 x.1 x.2).isSome = true
  res x := [.c (.d (.bool ((r34 x.1 x.2).getD default)))]
  al := false
def tb34 : Fns := lk []
theorem tb34_ok : FnsOk Try.prog tb34 := FnsOk.nil
theorem v34 : Valid Try.prog 34 T34.sp := by
  refine valid_t (fn := Try.f34) (n := 26) ty_ok tb34_ok Try.func34 rfl Try.ntmps34 ?_
  rintro ⟨a0, a1⟩ hx
  obtain ⟨r, hr⟩ := Option.isSome_iff_exists.1 (show (r34 a0 a1).isSome = true from hx)
  have hres : T34.res (a0, a1) = [.c (.d (.bool r))] := by simp only [T34, hr, Option.getD_some]
  refine ⟨Nat.le_of_ble_eq_true rfl, fun stop S => ?_⟩
  rw [hres] at S
  unfold r34 at hr
  refine S.goB [] 1000 ?_
  simp (maxSteps := 10000000) only [go_sem, T34, Option.map_some, Int.reduceToNat, Nat.reduceEqDiff, Nat.reduceLT, Nat.reduceAdd, Nat.reduceMul, Nat.reduceSub, Nat.reduceLeDiff, reduceIte, reduceCtorEq, Try.results34]
  repeat refine gA ?_
  refine ⟨fun hc => ?_, fun hc => ?_⟩
  · replace hr := ifP hr hc
    repeat refine gA ?_
    obtain rfl := Option.some.inj hr
    (simp (maxDischargeDepth := 8) [go_sem])
  · replace hr := ifN hr hc
    repeat refine gA ?_
    refine S.sees [0, 1, 5] [] [] ?_ (Stop.iter S (fun s1 => ⟨[(0, .c (.d (encF 1 d_I a0))), (1, .c (.d (encF 1 d_I a1))), (5, .c (.d (.int .i64 s1)))], [], []⟩) (b34_1 a0 a1) (fun q => q = r) hr rfl ?_)
    · (simp (maxDischargeDepth := 8) [go_sem])
    · intro s1 hr
      unfold b34_1 at hr
      refine S.goB [] 1000 ?_
      simp (maxSteps := 10000000) only [go_sem, T34, Option.map_some, Int.reduceToNat, Nat.reduceEqDiff, Nat.reduceLT, Nat.reduceAdd, Nat.reduceMul, Nat.reduceSub, Nat.reduceLeDiff, reduceIte, reduceCtorEq, Try.results34]
      repeat refine gA ?_
      refine ⟨fun hc => ?_, fun hc => ?_⟩
      · replace hr := ifP1 hr hc
        obtain ⟨hg1, hr⟩ := of_guard1 hr
        obtain ⟨hg2, hr⟩ := of_guard1 hr
        repeat refine gA ?_
        refine ⟨fun hc => ?_, fun hc => ?_⟩
        · replace hr := ifP1 hr hc
          repeat refine gA ?_
          have hr := of_out0 hr
          obtain rfl := Option.some.inj hr
          (simp (maxDischargeDepth := 8) [go_sem])
        · replace hr := ifN1 hr hc
          repeat refine gA ?_
          refine S.sees [0, 1, 5] [] [] ?_ hr
          (simp (maxDischargeDepth := 8) [go_sem])
      · replace hr := ifN1 hr hc
        repeat refine gA ?_
        have hr := of_out0 hr
        repeat refine gA ?_
        obtain rfl := Option.some.inj hr
        (simp (maxDischargeDepth := 8) [go_sem])
theorem f34 : FnFact Try.prog 34 T34.sp := ⟨⟨Try.f34, Try.func34, by decide, rfl⟩, v34⟩

/- martensite/martensiteref03.SameBox -/
def r47 (a0_0 : List (Int)) (a0_1 : List (Int)) (a1_0 : List (Int)) (a1_1 : List (Int)) : Option (Bool) :=
  (r34 a0_0 a1_0).bind fun v1 =>
   if v1 = true → (r34 a0_1 a1_1).isSome = true then
    some (v1 && ((r34 a0_1 a1_1).getD default))
    else none
def T47 : TSpec ((List (Int)) × (List (Int)) × (List (Int)) × (List (Int))) where
  enc x := [.agg [encF 1 d_I x.1, encF 1 d_I x.2.1], .agg [encF 1 d_I x.2.2.1, encF 1 d_I x.2.2.2]]
  dec a := (decF g_I (aCell a 0 0), decF g_I (aCell a 0 1), decF g_I (aCell a 1 0), decF g_I (aCell a 1 1))
  pre x := (r47 x.1 x.2.1 x.2.2.1 x.2.2.2).isSome = true
  res x := [.c (.d (.bool ((r47 x.1 x.2.1 x.2.2.1 x.2.2.2).getD default)))]
  al := false
def tb47 : Fns := lk [(34, T34.sp)]
theorem tb47_ok : FnsOk Try.prog tb47 := .cons f34 (FnsOk.nil)
theorem tb47_34 : tb47 34 = some T34.sp := rfl
theorem v47 : Valid Try.prog 47 T47.sp := by
  refine valid_t (fn := Try.f47) (n := 17) ty_ok tb47_ok Try.func47 rfl Try.ntmps47 ?_
  rintro ⟨a0_0, a0_1, a1_0, a1_1⟩ hx
  obtain ⟨r, hr⟩ := Option.isSome_iff_exists.1 (show (r47 a0_0 a0_1 a1_0 a1_1).isSome = true from hx)
  have hres : T47.res (a0_0, a0_1, a1_0, a1_1) = [.c (.d (.bool r))] := by simp only [T47, hr, Option.getD_some]
  refine ⟨Nat.le_of_ble_eq_true rfl, fun stop S => ?_⟩
  rw [hres] at S
  unfold r47 at hr
  refine S.goB [] 1000 ?_
  simp (maxSteps := 10000000) only [go_sem, tb47_34, T34, T47, Option.map_some, Int.reduceToNat, Nat.reduceEqDiff, Nat.reduceLT, Nat.reduceAdd, Nat.reduceMul, Nat.reduceSub, Nat.reduceLeDiff, reduceIte, reduceCtorEq, Try.results47]
  obtain ⟨v1, hv1, hr⟩ := of_bind0 hr
  obtain ⟨hg2, hr⟩ := of_guard0 hr
  try simp only [hv1, Option.getD_some, Option.isSome_some, true_and, and_assoc]
  repeat (first | refine gG hg2 ?_ | refine gA ?_ | refine gB ?_)
  obtain rfl := Option.some.inj hr
  (simp (maxDischargeDepth := 8) [go_sem])
theorem f47 : FnFact Try.prog 47 T47.sp := ⟨⟨Try.f47, Try.func47, by decide, rfl⟩, v47⟩
end Go.Proofs.Ytcbiiijnaeibhaa

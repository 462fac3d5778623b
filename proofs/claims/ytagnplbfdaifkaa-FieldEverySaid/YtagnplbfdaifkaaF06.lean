/- Contracts of functions, written by wip/dec. -/
import Derived.Test.YtagnplbfdaifkaaF00
import Derived.Test.YtagnplbfdaifkaaF05
set_option linter.unusedVariables false
set_option linter.unusedSimpArgs false
set_option maxHeartbeats 4000000
set_option maxRecDepth 20000
namespace Go.Proofs.Ytagnplbfdaifkaa
open Go.Abs
/- martensite/martensitebase.Gcd -/
def b112_1 : (Int × Int) → Ctl (Int × Int) (Int) := fun s1 =>
  if (s1.2 != 0) = true then
   if s1.2 ≠ 0 then
    .next (s1.2, s1.1.tmod s1.2)
    else .out none
   else .out ((r131 s1.1).bind fun v2 =>
    some v2)
def r112 (a0 : Int) (a1 : Int) : Option (Int) :=
  iterC (b112_1) 1000000000 (a0, a1)
def T112 : TSpec (Int × Int) where
  enc x := [.c (.int .i64 x.1), .c (.int .i64 x.2)]
  dec a := (dInt (aCell a 0 0), dInt (aCell a 1 0))
  pre x := (r112 x.1 x.2).isSome = true
  res x := [.c (.d (.int .i64 ((r112 x.1 x.2).getD default)))]
  al := false
def tb112 : Fns := lk [(131, T131.sp)]
theorem tb112_ok : FnsOk Try.prog tb112 := .cons f131 (FnsOk.nil)
theorem tb112_131 : tb112 131 = some T131.sp := rfl
theorem v112 : Valid Try.prog 112 T112.sp := by
  refine valid_t (fn := Try.f112) (n := 13) ty_ok tb112_ok Try.func112 rfl Try.ntmps112 ?_
  rintro ⟨a0, a1⟩ hx
  obtain ⟨r, hr⟩ := Option.isSome_iff_exists.1 (show (r112 a0 a1).isSome = true from hx)
  have hres : T112.res (a0, a1) = [.c (.d (.int .i64 r))] := by simp only [T112, hr, Option.getD_some]
  refine ⟨Nat.le_of_ble_eq_true rfl, fun stop S => ?_⟩
  rw [hres] at S
  unfold r112 at hr
  refine S.goB [] 1000 ?_
  simp (maxSteps := 10000000) only [go_sem, tb112_131, T131, T112, Bool.not_true, Bool.not_false, Option.map_some, Int.reduceToNat, Nat.reduceEqDiff, Nat.reduceLT, Nat.reduceAdd, Nat.reduceMul, Nat.reduceSub, Nat.reduceLeDiff, reduceIte, reduceCtorEq, Try.results112]
  repeat refine gA ?_
  refine S.sees [0, 1] [] [] ?_ (Stop.iter S (fun s1 => ⟨[(0, .c (.d (.int .i64 s1.1))), (1, .c (.d (.int .i64 s1.2)))], [], []⟩) (b112_1) (fun q => q = r) hr rfl ?_)
  · (simp (maxDischargeDepth := 8) [go_sem, -List.drop_one])
  · intro s1 hr
    unfold b112_1 at hr
    refine S.goB [] 1000 ?_
    simp (maxSteps := 10000000) only [go_sem, tb112_131, T131, T112, Bool.not_true, Bool.not_false, Option.map_some, Int.reduceToNat, Nat.reduceEqDiff, Nat.reduceLT, Nat.reduceAdd, Nat.reduceMul, Nat.reduceSub, Nat.reduceLeDiff, reduceIte, reduceCtorEq, Try.results112]
    repeat refine gA ?_
    refine ⟨fun hc => ?_, fun hc => ?_⟩
    · replace hr := ifP1 hr hc
      obtain ⟨hg1, hr⟩ := of_guard1 hr
      repeat refine gA ?_
      refine S.sees [0, 1] [] [] ?_ hr
      (simp (maxDischargeDepth := 8) [go_sem, -List.drop_one])
    · replace hr := ifN1 hr hc
      repeat refine gA ?_
      have hr := of_out0 hr
      obtain ⟨v2, hv2, hr⟩ := of_bind0 hr
      try simp only [hv2, Option.getD_some, Option.isSome_some, true_and, and_assoc]
      repeat refine gA ?_
      obtain rfl := Option.some.inj hr
      (simp (maxDischargeDepth := 8) [go_sem, -List.drop_one])
theorem f112 : FnFact Try.prog 112 T112.sp := ⟨⟨Try.f112, Try.func112, by decide, rfl⟩, v112⟩

/- martensite/martensiteref02.Ratio -/
def r92 (a0_0 : Int) (a0_1 : Int) (a1_0 : Int) (a1_1 : Int) : Option (Int × Int × Int × Int) :=
  if ((a0_0 == 0) && (a0_1 == 0)) = true then
   some (0, 0, 1, 0)
   else (r112 a0_0 a0_1).bind fun v1 =>
    (r112 a1_0 a1_1).bind fun v2 =>
     (r112 v1 v2).bind fun v3 =>
      if ((decide (a1_0 < 0)) || ((a1_0 == 0) && (decide (a1_1 < 0)))) = true then
       if (IntKind.i64.wrap (0 - v3)) ≠ 0 then
        if (IntKind.i64.wrap (0 - v3)) ≠ 0 then
         if (IntKind.i64.wrap (0 - v3)) ≠ 0 then
          if (IntKind.i64.wrap (0 - v3)) ≠ 0 then
           some (IntKind.i64.wrap (a0_0.tdiv (IntKind.i64.wrap (0 - v3))), IntKind.i64.wrap (a0_1.tdiv (IntKind.i64.wrap (0 - v3))), IntKind.i64.wrap (a1_0.tdiv (IntKind.i64.wrap (0 - v3))), IntKind.i64.wrap (a1_1.tdiv (IntKind.i64.wrap (0 - v3))))
           else none
          else none
         else none
        else none
       else if v3 ≠ 0 then
        if v3 ≠ 0 then
         if v3 ≠ 0 then
          if v3 ≠ 0 then
           some (IntKind.i64.wrap (a0_0.tdiv v3), IntKind.i64.wrap (a0_1.tdiv v3), IntKind.i64.wrap (a1_0.tdiv v3), IntKind.i64.wrap (a1_1.tdiv v3))
           else none
          else none
         else none
        else none
def T92 : TSpec (Int × Int × Int × Int) where
  enc x := [.agg [.int .i64 x.1, .int .i64 x.2.1], .agg [.int .i64 x.2.2.1, .int .i64 x.2.2.2]]
  dec a := (dInt (aCell a 0 0), dInt (aCell a 0 1), dInt (aCell a 1 0), dInt (aCell a 1 1))
  pre x := (r92 x.1 x.2.1 x.2.2.1 x.2.2.2).isSome = true
  res x := [.agg [.d (.int .i64 (((r92 x.1 x.2.1 x.2.2.1 x.2.2.2).getD default).1)), .d (.int .i64 (((r92 x.1 x.2.1 x.2.2.1 x.2.2.2).getD default).2.1)), .d (.int .i64 (((r92 x.1 x.2.1 x.2.2.1 x.2.2.2).getD default).2.2.1)), .d (.int .i64 (((r92 x.1 x.2.1 x.2.2.1 x.2.2.2).getD default).2.2.2))]]
  al := false
def tb92 : Fns := lk [(112, T112.sp)]
theorem tb92_ok : FnsOk Try.prog tb92 := .cons f112 (FnsOk.nil)
theorem tb92_112 : tb92 112 = some T112.sp := rfl
theorem v92 : Valid Try.prog 92 T92.sp := by
  refine valid_t (fn := Try.f92) (n := 56) ty_ok tb92_ok Try.func92 rfl Try.ntmps92 ?_
  rintro ⟨a0_0, a0_1, a1_0, a1_1⟩ hx
  obtain ⟨r, hr⟩ := Option.isSome_iff_exists.1 (show (r92 a0_0 a0_1 a1_0 a1_1).isSome = true from hx)
  have hres : T92.res (a0_0, a0_1, a1_0, a1_1) = [.agg [.d (.int .i64 r.1), .d (.int .i64 r.2.1), .d (.int .i64 r.2.2.1), .d (.int .i64 r.2.2.2)]] := by simp only [T92, hr, Option.getD_some]
  refine ⟨Nat.le_of_ble_eq_true rfl, fun stop S => ?_⟩
  rw [hres] at S
  unfold r92 at hr
  refine S.goB [] 1000 ?_
  simp (maxSteps := 10000000) only [go_sem, tb92_112, T112, T92, Bool.not_true, Bool.not_false, Option.map_some, Int.reduceToNat, Nat.reduceEqDiff, Nat.reduceLT, Nat.reduceAdd, Nat.reduceMul, Nat.reduceSub, Nat.reduceLeDiff, reduceIte, reduceCtorEq, Try.results92]
  repeat refine gA ?_
  refine ⟨fun hc => ?_, fun hc => ?_⟩
  · replace hr := ifP hr hc
    repeat refine gA ?_
    obtain rfl := Option.some.inj hr
    (simp (maxDischargeDepth := 8) [go_sem, -List.drop_one])
  · replace hr := ifN hr hc
    obtain ⟨v1, hv1, hr⟩ := of_bind0 hr
    obtain ⟨v2, hv2, hr⟩ := of_bind0 hr
    obtain ⟨v3, hv3, hr⟩ := of_bind0 hr
    try simp only [hv1, hv2, hv3, Option.getD_some, Option.isSome_some, true_and, and_assoc]
    repeat (first | refine gA ?_ | refine gB ?_)
    refine ⟨fun hc => ?_, fun hc => ?_⟩
    · replace hr := ifP hr hc
      obtain ⟨hg4, hr⟩ := of_guard0 hr
      obtain ⟨hg5, hr⟩ := of_guard0 hr
      obtain ⟨hg6, hr⟩ := of_guard0 hr
      obtain ⟨hg7, hr⟩ := of_guard0 hr
      repeat refine gA ?_
      obtain rfl := Option.some.inj hr
      (simp (maxDischargeDepth := 8) [go_sem, -List.drop_one])
    · replace hr := ifN hr hc
      obtain ⟨hg8, hr⟩ := of_guard0 hr
      obtain ⟨hg9, hr⟩ := of_guard0 hr
      obtain ⟨hg10, hr⟩ := of_guard0 hr
      obtain ⟨hg11, hr⟩ := of_guard0 hr
      repeat refine gA ?_
      obtain rfl := Option.some.inj hr
      (simp (maxDischargeDepth := 8) [go_sem, -List.drop_one])
theorem f92 : FnFact Try.prog 92 T92.sp := ⟨⟨Try.f92, Try.func92, by decide, rfl⟩, v92⟩

/- martensite/martensiteref02.Impedance -/
def r23 (a0_0 : Int) (a0_1 : List (Int × Int × Int)) (a1_0 : Int) (a1_1 : List (Bool)) : Option (Int × Int × Int × Int) :=
  (r56 a0_0 a0_1 a1_0 a1_1).bind fun v1 =>
   if 0 ≤ 0 ∧ 0 < (v1.1.length : Int) then
    (r93 ((v1.1.getD 0 default).1) ((v1.1.getD 0 default).2) (IntKind.i64.wrap (a0_0 * a0_0))).bind fun v2 =>
     if 0 ≤ 0 ∧ 0 < (v1.2.length : Int) then
      (r92 v2.1 v2.2 ((v1.2.getD 0 default).1) ((v1.2.getD 0 default).2)).bind fun v3 =>
       some (v3.1, v3.2.1, v3.2.2.1, v3.2.2.2)
      else none
    else none
def T23 : TSpec (Int × (List (Int × Int × Int)) × Int × (List (Bool))) where
  enc x := [.agg [.int .i64 x.1, encF 3 d_III x.2.1], .agg [.int .i64 x.2.2.1, encF 1 d_B x.2.2.2]]
  dec a := (dInt (aCell a 0 0), decF g_III (aCell a 0 1), dInt (aCell a 1 0), decF g_B (aCell a 1 1))
  pre x := (r23 x.1 x.2.1 x.2.2.1 x.2.2.2).isSome = true
  res x := [.agg [.d (.int .i64 (((r23 x.1 x.2.1 x.2.2.1 x.2.2.2).getD default).1)), .d (.int .i64 (((r23 x.1 x.2.1 x.2.2.1 x.2.2.2).getD default).2.1)), .d (.int .i64 (((r23 x.1 x.2.1 x.2.2.1 x.2.2.2).getD default).2.2.1)), .d (.int .i64 (((r23 x.1 x.2.1 x.2.2.1 x.2.2.2).getD default).2.2.2))]]
  al := false
def tb23 : Fns := lk [(56, T56.sp), (92, T92.sp), (93, T93.sp)]
theorem tb23_ok : FnsOk Try.prog tb23 := .cons f56 (.cons f92 (.cons f93 (FnsOk.nil)))
theorem tb23_56 : tb23 56 = some T56.sp := rfl
theorem tb23_92 : tb23 92 = some T92.sp := rfl
theorem tb23_93 : tb23 93 = some T93.sp := rfl
theorem v23 : Valid Try.prog 23 T23.sp := by
  refine valid_t (fn := Try.f23) (n := 26) ty_ok tb23_ok Try.func23 rfl Try.ntmps23 ?_
  rintro ⟨a0_0, a0_1, a1_0, a1_1⟩ hx
  obtain ⟨r, hr⟩ := Option.isSome_iff_exists.1 (show (r23 a0_0 a0_1 a1_0 a1_1).isSome = true from hx)
  have hres : T23.res (a0_0, a0_1, a1_0, a1_1) = [.agg [.d (.int .i64 r.1), .d (.int .i64 r.2.1), .d (.int .i64 r.2.2.1), .d (.int .i64 r.2.2.2)]] := by simp only [T23, hr, Option.getD_some]
  refine ⟨Nat.le_of_ble_eq_true rfl, fun stop S => ?_⟩
  rw [hres] at S
  unfold r23 at hr
  refine S.goB [] 1000 ?_
  simp (maxSteps := 10000000) only [go_sem, tb23_56, T56, tb23_92, T92, tb23_93, T93, T23, Bool.not_true, Bool.not_false, Option.map_some, Int.reduceToNat, Nat.reduceEqDiff, Nat.reduceLT, Nat.reduceAdd, Nat.reduceMul, Nat.reduceSub, Nat.reduceLeDiff, reduceIte, reduceCtorEq, Try.results23]
  obtain ⟨v1, hv1, hr⟩ := of_bind0 hr
  obtain ⟨hg4, hr⟩ := of_guard0 hr
  obtain ⟨v2, hv2, hr⟩ := of_bind0 hr
  obtain ⟨hg5, hr⟩ := of_guard0 hr
  obtain ⟨v3, hv3, hr⟩ := of_bind0 hr
  try simp only [hv1, hv2, hv3, Option.getD_some, Option.isSome_some, true_and, and_assoc]
  repeat refine gA ?_
  obtain rfl := Option.some.inj hr
  (simp (maxDischargeDepth := 8) [go_sem, -List.drop_one])
theorem f23 : FnFact Try.prog 23 T23.sp := ⟨⟨Try.f23, Try.func23, by decide, rfl⟩, v23⟩

/- martensite/martensiteref02.ShellErr -/
def r24 (a0_0 : Int) (a0_1 : List (Int × Int × Int)) (a1 : Int) : Option (Int) :=
  (r33 a1 0 (IntKind.i64.wrap ((a0_1.length : Int) - 1))).bind fun v1 =>
   if (!v1) = true then
    some 6
    else some 0
def T24 : TSpec (Int × (List (Int × Int × Int)) × Int) where
  enc x := [.agg [.int .i64 x.1, encF 3 d_III x.2.1], .c (.int .i64 x.2.2)]
  dec a := (dInt (aCell a 0 0), decF g_III (aCell a 0 1), dInt (aCell a 1 0))
  pre x := (r24 x.1 x.2.1 x.2.2).isSome = true
  res x := [.c (.d (.int .i64 ((r24 x.1 x.2.1 x.2.2).getD default)))]
  al := false
def tb24 : Fns := lk [(33, T33.sp)]
theorem tb24_ok : FnsOk Try.prog tb24 := .cons f33 (FnsOk.nil)
theorem tb24_33 : tb24 33 = some T33.sp := rfl
theorem v24 : Valid Try.prog 24 T24.sp := by
  refine valid_t (fn := Try.f24) (n := 12) ty_ok tb24_ok Try.func24 rfl Try.ntmps24 ?_
  rintro ⟨a0_0, a0_1, a1⟩ hx
  obtain ⟨r, hr⟩ := Option.isSome_iff_exists.1 (show (r24 a0_0 a0_1 a1).isSome = true from hx)
  have hres : T24.res (a0_0, a0_1, a1) = [.c (.d (.int .i64 r))] := by simp only [T24, hr, Option.getD_some]
  refine ⟨Nat.le_of_ble_eq_true rfl, fun stop S => ?_⟩
  rw [hres] at S
  unfold r24 at hr
  refine S.goB [] 1000 ?_
  simp (maxSteps := 10000000) only [go_sem, tb24_33, T33, T24, Bool.not_true, Bool.not_false, Option.map_some, Int.reduceToNat, Nat.reduceEqDiff, Nat.reduceLT, Nat.reduceAdd, Nat.reduceMul, Nat.reduceSub, Nat.reduceLeDiff, reduceIte, reduceCtorEq, Try.results24]
  obtain ⟨v1, hv1, hr⟩ := of_bind0 hr
  try simp only [hv1, Option.getD_some, Option.isSome_some, true_and, and_assoc]
  repeat refine gA ?_
  refine ⟨fun hc => ?_, fun hc => ?_⟩
  · replace hr := ifP hr hc
    repeat refine gA ?_
    obtain rfl := Option.some.inj hr
    (simp (maxDischargeDepth := 8) [go_sem, -List.drop_one])
  · replace hr := ifN hr hc
    repeat refine gA ?_
    obtain rfl := Option.some.inj hr
    (simp (maxDischargeDepth := 8) [go_sem, -List.drop_one])
theorem f24 : FnFact Try.prog 24 T24.sp := ⟨⟨Try.f24, Try.func24, by decide, rfl⟩, v24⟩

/- martensite/martensitebase.GSub -/
def r35 (a0_0 : Int) (a0_1 : Int) (a1_0 : Int) (a1_1 : Int) : Option (Int × Int) :=
  some (IntKind.i64.wrap (a0_0 - a1_0), IntKind.i64.wrap (a0_1 - a1_1))
def T35 : TSpec (Int × Int × Int × Int) where
  enc x := [.agg [.int .i64 x.1, .int .i64 x.2.1], .agg [.int .i64 x.2.2.1, .int .i64 x.2.2.2]]
  dec a := (dInt (aCell a 0 0), dInt (aCell a 0 1), dInt (aCell a 1 0), dInt (aCell a 1 1))
  pre x := (r35 x.1 x.2.1 x.2.2.1 x.2.2.2).isSome = true
  res x := [.agg [.d (.int .i64 (((r35 x.1 x.2.1 x.2.2.1 x.2.2.2).getD default).1)), .d (.int .i64 (((r35 x.1 x.2.1 x.2.2.1 x.2.2.2).getD default).2))]]
  al := false
def tb35 : Fns := lk []
theorem tb35_ok : FnsOk Try.prog tb35 := FnsOk.nil
theorem v35 : Valid Try.prog 35 T35.sp := by
  refine valid_t (fn := Try.f35) (n := 16) ty_ok tb35_ok Try.func35 rfl Try.ntmps35 ?_
  rintro ⟨a0_0, a0_1, a1_0, a1_1⟩ hx
  obtain ⟨r, hr⟩ := Option.isSome_iff_exists.1 (show (r35 a0_0 a0_1 a1_0 a1_1).isSome = true from hx)
  have hres : T35.res (a0_0, a0_1, a1_0, a1_1) = [.agg [.d (.int .i64 r.1), .d (.int .i64 r.2)]] := by simp only [T35, hr, Option.getD_some]
  refine ⟨Nat.le_of_ble_eq_true rfl, fun stop S => ?_⟩
  rw [hres] at S
  unfold r35 at hr
  refine S.goB [] 1000 ?_
  simp (maxSteps := 10000000) only [go_sem, T35, Bool.not_true, Bool.not_false, Option.map_some, Int.reduceToNat, Nat.reduceEqDiff, Nat.reduceLT, Nat.reduceAdd, Nat.reduceMul, Nat.reduceSub, Nat.reduceLeDiff, reduceIte, reduceCtorEq, Try.results35]
  repeat refine gA ?_
  obtain rfl := Option.some.inj hr
  (simp (maxDischargeDepth := 8) [go_sem, -List.drop_one])
theorem f35 : FnFact Try.prog 35 T35.sp := ⟨⟨Try.f35, Try.func35, by decide, rfl⟩, v35⟩

/- martensite/martensiteref02.fromInput -/
def b94_1 (a0_1 : List (Int × Int × Int)) (v1 : (List (Int))) : ((List (Int × Int)) × Int × Int × Int × Int × Int) → Ctl ((List (Int × Int)) × Int × Int × Int × Int × Int) ((List (Int × Int))) := fun s1 =>
  if (decide (s1.2.1 < (a0_1.length : Int))) = true then
   bindC (r117 s1.2.2.2.2.1 s1.2.2.2.2.2) fun v2 =>
    if 0 ≤ s1.2.1 ∧ s1.2.1 < (v1.length : Int) then
     bindC (r93 v2.1 v2.2 (v1.getD s1.2.1.toNat default)) fun v3 =>
      bindC (r35 s1.2.2.1 s1.2.2.2.1 v3.1 v3.2) fun v4 =>
       if 0 ≤ s1.2.1 ∧ s1.2.1 < (a0_1.length : Int) then
        bindC (r93 v4.1 v4.2 ((a0_1.getD s1.2.1.toNat default).1)) fun v5 =>
         bindC (r35 s1.2.2.2.2.1 s1.2.2.2.2.2 v5.1 v5.2) fun v6 =>
          if (s1.1.length + 1) * 16 ≤ 140737488355328 ∧ s1.1.length + 1 ≤ 9223372036854775807 then
           .next (s1.1 ++ [(v4.1, v4.2)], IntKind.i64.wrap (s1.2.1 + 1), v4.1, v4.2, v6.1, v6.2)
           else .out none
        else .out none
     else .out none
   else .out (some s1.1)
def r94 (a0_0 : Int) (a0_1 : List (Int × Int × Int)) (a1_0 : Int) (a1_1 : List (Bool)) : Option ((List (Int × Int))) :=
  (r31 a0_0 a0_1 a1_0 a1_1).bind fun v1 =>
   iterC (b94_1 a0_1 v1) 1000000000 ([], 0, 0, 0, 1, 0)
def T94 : TSpec (Int × (List (Int × Int × Int)) × Int × (List (Bool))) where
  enc x := [.agg [.int .i64 x.1, encF 3 d_III x.2.1], .agg [.int .i64 x.2.2.1, encF 1 d_B x.2.2.2]]
  dec a := (dInt (aCell a 0 0), decF g_III (aCell a 0 1), dInt (aCell a 1 0), decF g_B (aCell a 1 1))
  pre x := (r94 x.1 x.2.1 x.2.2.1 x.2.2.2).isSome = true
  res x := [.c (.own (encF 2 d_II ((r94 x.1 x.2.1 x.2.2.1 x.2.2.2).getD default)))]
  al := false
def tb94 : Fns := lk [(31, T31.sp), (35, T35.sp), (93, T93.sp), (117, T117.sp)]
theorem tb94_ok : FnsOk Try.prog tb94 := .cons f31 (.cons f35 (.cons f93 (.cons f117 (FnsOk.nil))))
theorem tb94_31 : tb94 31 = some T31.sp := rfl
theorem tb94_35 : tb94 35 = some T35.sp := rfl
theorem tb94_93 : tb94 93 = some T93.sp := rfl
theorem tb94_117 : tb94 117 = some T117.sp := rfl
theorem v94 : Valid Try.prog 94 T94.sp := by
  refine valid_t (fn := Try.f94) (n := 45) ty_ok tb94_ok Try.func94 rfl Try.ntmps94 ?_
  rintro ⟨a0_0, a0_1, a1_0, a1_1⟩ hx
  obtain ⟨r, hr⟩ := Option.isSome_iff_exists.1 (show (r94 a0_0 a0_1 a1_0 a1_1).isSome = true from hx)
  have hres : T94.res (a0_0, a0_1, a1_0, a1_1) = [.c (.own (encF 2 d_II r))] := by simp only [T94, hr, Option.getD_some]
  refine ⟨Nat.le_of_ble_eq_true rfl, fun stop S => ?_⟩
  rw [hres] at S
  unfold r94 at hr
  refine S.goB [] 1000 ?_
  simp (maxSteps := 10000000) only [go_sem, tb94_31, T31, tb94_35, T35, tb94_93, T93, tb94_117, T117, T94, Bool.not_true, Bool.not_false, Option.map_some, Int.reduceToNat, Nat.reduceEqDiff, Nat.reduceLT, Nat.reduceAdd, Nat.reduceMul, Nat.reduceSub, Nat.reduceLeDiff, reduceIte, reduceCtorEq, Try.results94]
  obtain ⟨v1, hv1, hr⟩ := of_bind0 hr
  try simp only [hv1, Option.getD_some, Option.isSome_some, true_and, and_assoc]
  repeat refine gA ?_
  refine S.own0 8 1000800 2 rfl rfl ?_
  refine S.sees [2, 5, 6, 7, 8, 9] [(2, 2), (6, 6), (7, 7)] [(1000800, 1000800), (12, 12)] ?_ (Stop.iter S (fun s1 => ⟨[(2, .c (.ref 2 0)), (5, .c (.own 12)), (6, .c (.ref 6 0)), (7, .c (.ref 7 0)), (8, .c (.own 1000800)), (9, .c (.d (.int .i64 s1.2.1)))], [(2, [.d (.int .i64 a0_0), .d (encF 3 d_III a0_1)]), (6, [.d (.int .i64 s1.2.2.1), .d (.int .i64 s1.2.2.2.1)]), (7, [.d (.int .i64 s1.2.2.2.2.1), .d (.int .i64 s1.2.2.2.2.2)])], [(1000800, .owned (encF 2 d_II s1.1)), (12, .owned (encF 1 d_I v1))]⟩) (b94_1 a0_1 v1) (fun q => q = r) hr rfl ?_)
  · (simp (maxDischargeDepth := 8) [go_sem, -List.drop_one])
  · intro s1 hr
    unfold b94_1 at hr
    refine S.goB [] 1000 ?_
    simp (maxSteps := 10000000) only [go_sem, tb94_31, T31, tb94_35, T35, tb94_93, T93, tb94_117, T117, T94, Bool.not_true, Bool.not_false, Option.map_some, Int.reduceToNat, Nat.reduceEqDiff, Nat.reduceLT, Nat.reduceAdd, Nat.reduceMul, Nat.reduceSub, Nat.reduceLeDiff, reduceIte, reduceCtorEq, Try.results94]
    repeat refine gA ?_
    refine ⟨fun hc => ?_, fun hc => ?_⟩
    · replace hr := ifP1 hr hc
      obtain ⟨v2, hv2, hr⟩ := of_bind1 hr
      obtain ⟨hg7, hr⟩ := of_guard1 hr
      obtain ⟨v3, hv3, hr⟩ := of_bind1 hr
      obtain ⟨v4, hv4, hr⟩ := of_bind1 hr
      obtain ⟨hg8, hr⟩ := of_guard1 hr
      obtain ⟨v5, hv5, hr⟩ := of_bind1 hr
      obtain ⟨v6, hv6, hr⟩ := of_bind1 hr
      obtain ⟨hg9, hr⟩ := of_guard1 hr
      try simp only [hv2, hv3, hv4, hv5, hv6, Option.getD_some, Option.isSome_some, true_and, and_assoc]
      repeat refine gA ?_
      refine S.sees [2, 5, 6, 7, 8, 9] [(2, 2), (6, 6), (7, 7)] [(43, 1000800), (12, 12)] ?_ hr
      (simp (maxDischargeDepth := 8) [go_sem, -List.drop_one])
    · replace hr := ifN1 hr hc
      repeat refine gA ?_
      have hr := of_out0 hr
      repeat refine gA ?_
      obtain rfl := Option.some.inj hr
      (simp (maxDischargeDepth := 8) [go_sem, -List.drop_one])
theorem f94 : FnFact Try.prog 94 T94.sp := ⟨⟨Try.f94, Try.func94, by decide, rfl⟩, v94⟩

/- martensite/martensitebase.GMul -/
def r95 (a0_0 : Int) (a0_1 : Int) (a1_0 : Int) (a1_1 : Int) : Option (Int × Int) :=
  some (IntKind.i64.wrap ((IntKind.i64.wrap (a0_0 * a1_0)) - (IntKind.i64.wrap (a0_1 * a1_1))), IntKind.i64.wrap ((IntKind.i64.wrap (a0_0 * a1_1)) + (IntKind.i64.wrap (a0_1 * a1_0))))
def T95 : TSpec (Int × Int × Int × Int) where
  enc x := [.agg [.int .i64 x.1, .int .i64 x.2.1], .agg [.int .i64 x.2.2.1, .int .i64 x.2.2.2]]
  dec a := (dInt (aCell a 0 0), dInt (aCell a 0 1), dInt (aCell a 1 0), dInt (aCell a 1 1))
  pre x := (r95 x.1 x.2.1 x.2.2.1 x.2.2.2).isSome = true
  res x := [.agg [.d (.int .i64 (((r95 x.1 x.2.1 x.2.2.1 x.2.2.2).getD default).1)), .d (.int .i64 (((r95 x.1 x.2.1 x.2.2.1 x.2.2.2).getD default).2))]]
  al := false
def tb95 : Fns := lk []
theorem tb95_ok : FnsOk Try.prog tb95 := FnsOk.nil
theorem v95 : Valid Try.prog 95 T95.sp := by
  refine valid_t (fn := Try.f95) (n := 28) ty_ok tb95_ok Try.func95 rfl Try.ntmps95 ?_
  rintro ⟨a0_0, a0_1, a1_0, a1_1⟩ hx
  obtain ⟨r, hr⟩ := Option.isSome_iff_exists.1 (show (r95 a0_0 a0_1 a1_0 a1_1).isSome = true from hx)
  have hres : T95.res (a0_0, a0_1, a1_0, a1_1) = [.agg [.d (.int .i64 r.1), .d (.int .i64 r.2)]] := by simp only [T95, hr, Option.getD_some]
  refine ⟨Nat.le_of_ble_eq_true rfl, fun stop S => ?_⟩
  rw [hres] at S
  unfold r95 at hr
  refine S.goB [] 1000 ?_
  simp (maxSteps := 10000000) only [go_sem, T95, Bool.not_true, Bool.not_false, Option.map_some, Int.reduceToNat, Nat.reduceEqDiff, Nat.reduceLT, Nat.reduceAdd, Nat.reduceMul, Nat.reduceSub, Nat.reduceLeDiff, reduceIte, reduceCtorEq, Try.results95]
  repeat refine gA ?_
  obtain rfl := Option.some.inj hr
  (simp (maxDischargeDepth := 8) [go_sem, -List.drop_one])
theorem f95 : FnFact Try.prog 95 T95.sp := ⟨⟨Try.f95, Try.func95, by decide, rfl⟩, v95⟩

/- martensite/martensiteref02.Transfer -/
def r25 (a0_0 : Int) (a0_1 : List (Int × Int × Int)) (a1_0 : Int) (a1_1 : List (Bool)) (a2 : Int) (a3 : Int) : Option (Int × Int × Int × Int) :=
  (r56 a0_0 a0_1 a1_0 a1_1).bind fun v1 =>
   (r94 a0_0 a0_1 a1_0 a1_1).bind fun v2 =>
    if 0 ≤ (if a3 < a2 then a3 else a2) ∧ (if a3 < a2 then a3 else a2) < (v2.length : Int) then
     if 0 ≤ IntKind.i64.wrap ((if a2 < a3 then a3 else a2) + 1) ∧ IntKind.i64.wrap ((if a2 < a3 then a3 else a2) + 1) < (v1.1.length : Int) then
      (r95 ((v2.getD (if a3 < a2 then a3 else a2).toNat default).1) ((v2.getD (if a3 < a2 then a3 else a2).toNat default).2) ((v1.1.getD (IntKind.i64.wrap ((if a2 < a3 then a3 else a2) + 1)).toNat default).1) ((v1.1.getD (IntKind.i64.wrap ((if a2 < a3 then a3 else a2) + 1)).toNat default).2)).bind fun v3 =>
       (r93 v3.1 v3.2 (-1)).bind fun v4 =>
        if 0 ≤ 0 ∧ 0 < (v1.1.length : Int) then
         (r92 v4.1 v4.2 ((v1.1.getD 0 default).1) ((v1.1.getD 0 default).2)).bind fun v5 =>
          some (v5.1, v5.2.1, v5.2.2.1, v5.2.2.2)
         else none
      else none
     else none
def T25 : TSpec (Int × (List (Int × Int × Int)) × Int × (List (Bool)) × Int × Int) where
  enc x := [.agg [.int .i64 x.1, encF 3 d_III x.2.1], .agg [.int .i64 x.2.2.1, encF 1 d_B x.2.2.2.1], .c (.int .i64 x.2.2.2.2.1), .c (.int .i64 x.2.2.2.2.2)]
  dec a := (dInt (aCell a 0 0), decF g_III (aCell a 0 1), dInt (aCell a 1 0), decF g_B (aCell a 1 1), dInt (aCell a 2 0), dInt (aCell a 3 0))
  pre x := (r25 x.1 x.2.1 x.2.2.1 x.2.2.2.1 x.2.2.2.2.1 x.2.2.2.2.2).isSome = true
  res x := [.agg [.d (.int .i64 (((r25 x.1 x.2.1 x.2.2.1 x.2.2.2.1 x.2.2.2.2.1 x.2.2.2.2.2).getD default).1)), .d (.int .i64 (((r25 x.1 x.2.1 x.2.2.1 x.2.2.2.1 x.2.2.2.2.1 x.2.2.2.2.2).getD default).2.1)), .d (.int .i64 (((r25 x.1 x.2.1 x.2.2.1 x.2.2.2.1 x.2.2.2.2.1 x.2.2.2.2.2).getD default).2.2.1)), .d (.int .i64 (((r25 x.1 x.2.1 x.2.2.1 x.2.2.2.1 x.2.2.2.2.1 x.2.2.2.2.2).getD default).2.2.2))]]
  al := false
def tb25 : Fns := lk [(56, T56.sp), (92, T92.sp), (93, T93.sp), (94, T94.sp), (95, T95.sp)]
theorem tb25_ok : FnsOk Try.prog tb25 := .cons f56 (.cons f92 (.cons f93 (.cons f94 (.cons f95 (FnsOk.nil)))))
theorem tb25_56 : tb25 56 = some T56.sp := rfl
theorem tb25_92 : tb25 92 = some T92.sp := rfl
theorem tb25_93 : tb25 93 = some T93.sp := rfl
theorem tb25_94 : tb25 94 = some T94.sp := rfl
theorem tb25_95 : tb25 95 = some T95.sp := rfl
theorem v25 : Valid Try.prog 25 T25.sp := by
  refine valid_t (fn := Try.f25) (n := 42) ty_ok tb25_ok Try.func25 rfl Try.ntmps25 ?_
  rintro ⟨a0_0, a0_1, a1_0, a1_1, a2, a3⟩ hx
  obtain ⟨r, hr⟩ := Option.isSome_iff_exists.1 (show (r25 a0_0 a0_1 a1_0 a1_1 a2 a3).isSome = true from hx)
  have hres : T25.res (a0_0, a0_1, a1_0, a1_1, a2, a3) = [.agg [.d (.int .i64 r.1), .d (.int .i64 r.2.1), .d (.int .i64 r.2.2.1), .d (.int .i64 r.2.2.2)]] := by simp only [T25, hr, Option.getD_some]
  refine ⟨Nat.le_of_ble_eq_true rfl, fun stop S => ?_⟩
  rw [hres] at S
  unfold r25 at hr
  refine S.goB [] 1000 ?_
  simp (maxSteps := 10000000) only [go_sem, tb25_56, T56, tb25_92, T92, tb25_93, T93, tb25_94, T94, tb25_95, T95, T25, Bool.not_true, Bool.not_false, Option.map_some, Int.reduceToNat, Nat.reduceEqDiff, Nat.reduceLT, Nat.reduceAdd, Nat.reduceMul, Nat.reduceSub, Nat.reduceLeDiff, reduceIte, reduceCtorEq, Try.results25]
  obtain ⟨v1, hv1, hr⟩ := of_bind0 hr
  obtain ⟨v2, hv2, hr⟩ := of_bind0 hr
  obtain ⟨hg6, hr⟩ := of_guard0 hr
  obtain ⟨hg7, hr⟩ := of_guard0 hr
  obtain ⟨v3, hv3, hr⟩ := of_bind0 hr
  obtain ⟨v4, hv4, hr⟩ := of_bind0 hr
  obtain ⟨hg8, hr⟩ := of_guard0 hr
  obtain ⟨v5, hv5, hr⟩ := of_bind0 hr
  try simp only [hv1, hv2, hv3, hv4, hv5, Option.getD_some, Option.isSome_some, true_and, and_assoc]
  repeat refine gA ?_
  obtain rfl := Option.some.inj hr
  (simp (maxDischargeDepth := 8) [go_sem, -List.drop_one])
theorem f25 : FnFact Try.prog 25 T25.sp := ⟨⟨Try.f25, Try.func25, by decide, rfl⟩, v25⟩
end Go.Proofs.Ytagnplbfdaifkaa

/- Contracts of functions, written by wip/dec. -/
import Derived.Test.YtcbiiijnaeibhaaF00
import Derived.Test.YtcbiiijnaeibhaaF06
import Derived.Test.YtcbiiijnaeibhaaF10
set_option linter.unusedVariables false
set_option linter.unusedSimpArgs false
set_option maxHeartbeats 4000000
set_option maxRecDepth 20000
namespace Go.Proofs.Ytcbiiijnaeibhaa
open Go.Abs
/- martensite/martensiteref03.CopyDrive -/
def r65 (a0_0 : List (Int)) (a0_1 : Int) : Option ((List (Int)) × Int) :=
  (r19 a0_0).bind fun v1 =>
   some (v1, a0_1)
def T65 : TSpec ((List (Int)) × Int) where
  enc x := [.agg [encF 1 d_I x.1, .int .i64 x.2]]
  dec a := (decF g_I (aCell a 0 0), dInt (aCell a 0 1))
  pre x := (r65 x.1 x.2).isSome = true
  res x := [.agg [.own (encF 1 d_I (((r65 x.1 x.2).getD default).1)), .d (.int .i64 (((r65 x.1 x.2).getD default).2))]]
  al := false
def tb65 : Fns := lk [(19, T19.sp)]
theorem tb65_ok : FnsOk Try.prog tb65 := .cons f19 (FnsOk.nil)
theorem tb65_19 : tb65 19 = some T19.sp := rfl
theorem v65 : Valid Try.prog 65 T65.sp := by
  refine valid_t (fn := Try.f65) (n := 8) ty_ok tb65_ok Try.func65 rfl Try.ntmps65 ?_
  rintro ⟨a0_0, a0_1⟩ hx
  obtain ⟨r, hr⟩ := Option.isSome_iff_exists.1 (show (r65 a0_0 a0_1).isSome = true from hx)
  have hres : T65.res (a0_0, a0_1) = [.agg [.own (encF 1 d_I r.1), .d (.int .i64 r.2)]] := by simp only [T65, hr, Option.getD_some]
  refine ⟨Nat.le_of_ble_eq_true rfl, fun stop S => ?_⟩
  rw [hres] at S
  unfold r65 at hr
  refine S.goB [] 1000 ?_
  simp (maxSteps := 10000000) only [go_sem, tb65_19, T19, T65, Option.map_some, Int.reduceToNat, Nat.reduceEqDiff, Nat.reduceLT, Nat.reduceAdd, Nat.reduceMul, Nat.reduceSub, Nat.reduceLeDiff, reduceIte, reduceCtorEq, Try.results65]
  obtain ⟨v1, hv1, hr⟩ := of_bind0 hr
  try simp only [hv1, Option.getD_some, Option.isSome_some, true_and, and_assoc]
  repeat refine gA ?_
  obtain rfl := Option.some.inj hr
  (simp (maxDischargeDepth := 8) [go_sem])
theorem f65 : FnFact Try.prog 65 T65.sp := ⟨⟨Try.f65, Try.func65, by decide, rfl⟩, v65⟩

/- martensite/martensiteref03.CopyTask -/
def r20 (a0_0 : List (Int)) (a0_1 : Int) (a0_2 : Int) (a0_3 : Int) (a0_4 : Int) : Option ((List (Int)) × Int × Int × Int × Int) :=
  (r65 a0_0 a0_1).bind fun v1 =>
   some (v1.1, v1.2, a0_2, a0_3, a0_4)
def T20 : TSpec ((List (Int)) × Int × Int × Int × Int) where
  enc x := [.agg [encF 1 d_I x.1, .int .i64 x.2.1, .int .i64 x.2.2.1, .int .i64 x.2.2.2.1, .int .i64 x.2.2.2.2]]
  dec a := (decF g_I (aCell a 0 0), dInt (aCell a 0 1), dInt (aCell a 0 2), dInt (aCell a 0 3), dInt (aCell a 0 4))
  pre x := (r20 x.1 x.2.1 x.2.2.1 x.2.2.2.1 x.2.2.2.2).isSome = true
  res x := [.agg [.own (encF 1 d_I (((r20 x.1 x.2.1 x.2.2.1 x.2.2.2.1 x.2.2.2.2).getD default).1)), .d (.int .i64 (((r20 x.1 x.2.1 x.2.2.1 x.2.2.2.1 x.2.2.2.2).getD default).2.1)), .d (.int .i64 (((r20 x.1 x.2.1 x.2.2.1 x.2.2.2.1 x.2.2.2.2).getD default).2.2.1)), .d (.int .i64 (((r20 x.1 x.2.1 x.2.2.1 x.2.2.2.1 x.2.2.2.2).getD default).2.2.2.1)), .d (.int .i64 (((r20 x.1 x.2.1 x.2.2.1 x.2.2.2.1 x.2.2.2.2).getD default).2.2.2.2))]]
  al := false
def tb20 : Fns := lk [(65, T65.sp)]
theorem tb20_ok : FnsOk Try.prog tb20 := .cons f65 (FnsOk.nil)
theorem tb20_65 : tb20 65 = some T65.sp := rfl
theorem v20 : Valid Try.prog 20 T20.sp := by
  refine valid_t (fn := Try.f20) (n := 8) ty_ok tb20_ok Try.func20 rfl Try.ntmps20 ?_
  rintro ⟨a0_0, a0_1, a0_2, a0_3, a0_4⟩ hx
  obtain ⟨r, hr⟩ := Option.isSome_iff_exists.1 (show (r20 a0_0 a0_1 a0_2 a0_3 a0_4).isSome = true from hx)
  have hres : T20.res (a0_0, a0_1, a0_2, a0_3, a0_4) = [.agg [.own (encF 1 d_I r.1), .d (.int .i64 r.2.1), .d (.int .i64 r.2.2.1), .d (.int .i64 r.2.2.2.1), .d (.int .i64 r.2.2.2.2)]] := by simp only [T20, hr, Option.getD_some]
  refine ⟨Nat.le_of_ble_eq_true rfl, fun stop S => ?_⟩
  rw [hres] at S
  unfold r20 at hr
  refine S.goB [] 1000 ?_
  simp (maxSteps := 10000000) only [go_sem, tb20_65, T65, T20, Option.map_some, Int.reduceToNat, Nat.reduceEqDiff, Nat.reduceLT, Nat.reduceAdd, Nat.reduceMul, Nat.reduceSub, Nat.reduceLeDiff, reduceIte, reduceCtorEq, Try.results20]
  obtain ⟨v1, hv1, hr⟩ := of_bind0 hr
  try simp only [hv1, Option.getD_some, Option.isSome_some, true_and, and_assoc]
  repeat refine gA ?_
  obtain rfl := Option.some.inj hr
  (simp (maxDischargeDepth := 8) [go_sem])
theorem f20 : FnFact Try.prog 20 T20.sp := ⟨⟨Try.f20, Try.func20, by decide, rfl⟩, v20⟩

/- martensite/martensiteref03.SetupErr -/
def r45 (a0_0 : Int) (a0_1 : Int) (a0_2 : List (Int × Int)) (a0_3 : List ((List (Int × Int)))) : Option (Int) :=
  (r26 a0_0 a0_1 a0_2 a0_3).bind fun v1 =>
   some v1.2
def T45 : TSpec (Int × Int × (List (Int × Int)) × (List ((List (Int × Int))))) where
  enc x := [.agg [.int .i64 x.1, .int .i64 x.2.1, encF 2 d_II x.2.2.1, encF 1 d_LIIE x.2.2.2]]
  dec a := (dInt (aCell a 0 0), dInt (aCell a 0 1), decF g_II (aCell a 0 2), decF g_LIIE (aCell a 0 3))
  pre x := (r45 x.1 x.2.1 x.2.2.1 x.2.2.2).isSome = true
  res x := [.c (.d (.int .i64 ((r45 x.1 x.2.1 x.2.2.1 x.2.2.2).getD default)))]
  al := false
def tb45 : Fns := lk [(26, T26.sp)]
theorem tb45_ok : FnsOk Try.prog tb45 := .cons f26 (FnsOk.nil)
theorem tb45_26 : tb45 26 = some T26.sp := rfl
theorem v45 : Valid Try.prog 45 T45.sp := by
  refine valid_t (fn := Try.f45) (n := 11) ty_ok tb45_ok Try.func45 rfl Try.ntmps45 ?_
  rintro ⟨a0_0, a0_1, a0_2, a0_3⟩ hx
  obtain ⟨r, hr⟩ := Option.isSome_iff_exists.1 (show (r45 a0_0 a0_1 a0_2 a0_3).isSome = true from hx)
  have hres : T45.res (a0_0, a0_1, a0_2, a0_3) = [.c (.d (.int .i64 r))] := by simp only [T45, hr, Option.getD_some]
  refine ⟨Nat.le_of_ble_eq_true rfl, fun stop S => ?_⟩
  rw [hres] at S
  unfold r45 at hr
  refine S.goB [] 1000 ?_
  simp (maxSteps := 10000000) only [go_sem, tb45_26, T26, T45, Option.map_some, Int.reduceToNat, Nat.reduceEqDiff, Nat.reduceLT, Nat.reduceAdd, Nat.reduceMul, Nat.reduceSub, Nat.reduceLeDiff, reduceIte, reduceCtorEq, Try.results45]
  obtain ⟨v1, hv1, hr⟩ := of_bind0 hr
  try simp only [hv1, Option.getD_some, Option.isSome_some, true_and, and_assoc]
  repeat refine gA ?_
  obtain rfl := Option.some.inj hr
  (simp (maxDischargeDepth := 8) [go_sem])
theorem f45 : FnFact Try.prog 45 T45.sp := ⟨⟨Try.f45, Try.func45, by decide, rfl⟩, v45⟩

/- martensite/martensiteref03.StateErr -/
def r21 (a0_0 : Int) (a0_1 : Int) (a0_2 : List (Int × Int)) (a0_3 : List ((List (Int × Int)))) (a1 : List (Int)) : Option (Int) :=
  (r45 a0_0 a0_1 a0_2 a0_3).bind fun v1 =>
   if (v1 != 0) = true then
    some v1
    else (r27 a0_0 a0_1 a0_2 a0_3 a1).bind fun v2 =>
     some v2.2
def T21 : TSpec (Int × Int × (List (Int × Int)) × (List ((List (Int × Int)))) × (List (Int))) where
  enc x := [.agg [.int .i64 x.1, .int .i64 x.2.1, encF 2 d_II x.2.2.1, encF 1 d_LIIE x.2.2.2.1], .c (encF 1 d_I x.2.2.2.2)]
  dec a := (dInt (aCell a 0 0), dInt (aCell a 0 1), decF g_II (aCell a 0 2), decF g_LIIE (aCell a 0 3), decF g_I (aCell a 1 0))
  pre x := (r21 x.1 x.2.1 x.2.2.1 x.2.2.2.1 x.2.2.2.2).isSome = true
  res x := [.c (.d (.int .i64 ((r21 x.1 x.2.1 x.2.2.1 x.2.2.2.1 x.2.2.2.2).getD default)))]
  al := false
def tb21 : Fns := lk [(27, T27.sp), (45, T45.sp)]
theorem tb21_ok : FnsOk Try.prog tb21 := .cons f27 (.cons f45 (FnsOk.nil))
theorem tb21_27 : tb21 27 = some T27.sp := rfl
theorem tb21_45 : tb21 45 = some T45.sp := rfl
theorem v21 : Valid Try.prog 21 T21.sp := by
  refine valid_t (fn := Try.f21) (n := 20) ty_ok tb21_ok Try.func21 rfl Try.ntmps21 ?_
  rintro ⟨a0_0, a0_1, a0_2, a0_3, a1⟩ hx
  obtain ⟨r, hr⟩ := Option.isSome_iff_exists.1 (show (r21 a0_0 a0_1 a0_2 a0_3 a1).isSome = true from hx)
  have hres : T21.res (a0_0, a0_1, a0_2, a0_3, a1) = [.c (.d (.int .i64 r))] := by simp only [T21, hr, Option.getD_some]
  refine ⟨Nat.le_of_ble_eq_true rfl, fun stop S => ?_⟩
  rw [hres] at S
  unfold r21 at hr
  refine S.goB [] 1000 ?_
  simp (maxSteps := 10000000) only [go_sem, tb21_27, T27, tb21_45, T45, T21, Option.map_some, Int.reduceToNat, Nat.reduceEqDiff, Nat.reduceLT, Nat.reduceAdd, Nat.reduceMul, Nat.reduceSub, Nat.reduceLeDiff, reduceIte, reduceCtorEq, Try.results21]
  obtain ⟨v1, hv1, hr⟩ := of_bind0 hr
  try simp only [hv1, Option.getD_some, Option.isSome_some, true_and, and_assoc]
  repeat refine gA ?_
  refine ⟨fun hc => ?_, fun hc => ?_⟩
  · replace hr := ifP hr hc
    repeat refine gA ?_
    obtain rfl := Option.some.inj hr
    (simp (maxDischargeDepth := 8) [go_sem])
  · replace hr := ifN hr hc
    obtain ⟨v2, hv2, hr⟩ := of_bind0 hr
    try simp only [hv2, Option.getD_some, Option.isSome_some, true_and, and_assoc]
    repeat refine gA ?_
    obtain rfl := Option.some.inj hr
    (simp (maxDischargeDepth := 8) [go_sem])
theorem f21 : FnFact Try.prog 21 T21.sp := ⟨⟨Try.f21, Try.func21, by decide, rfl⟩, v21⟩

/- martensite/martensiteref03.LawErr -/
def r61 (a0_0 : Int) (a0_1 : Int) (a0_2 : List (Int × Int)) (a0_3 : List ((List (Int × Int)))) (a1 : Int) : Option (Int) :=
  (r59 a1 0 (IntKind.i64.wrap ((a0_3.length : Int) - 1))).bind fun v1 =>
   if (!v1) = true then
    some 6
    else some 0
def T61 : TSpec (Int × Int × (List (Int × Int)) × (List ((List (Int × Int)))) × Int) where
  enc x := [.agg [.int .i64 x.1, .int .i64 x.2.1, encF 2 d_II x.2.2.1, encF 1 d_LIIE x.2.2.2.1], .c (.int .i64 x.2.2.2.2)]
  dec a := (dInt (aCell a 0 0), dInt (aCell a 0 1), decF g_II (aCell a 0 2), decF g_LIIE (aCell a 0 3), dInt (aCell a 1 0))
  pre x := (r61 x.1 x.2.1 x.2.2.1 x.2.2.2.1 x.2.2.2.2).isSome = true
  res x := [.c (.d (.int .i64 ((r61 x.1 x.2.1 x.2.2.1 x.2.2.2.1 x.2.2.2.2).getD default)))]
  al := false
def tb61 : Fns := lk [(59, T59.sp)]
theorem tb61_ok : FnsOk Try.prog tb61 := .cons f59 (FnsOk.nil)
theorem tb61_59 : tb61 59 = some T59.sp := rfl
theorem v61 : Valid Try.prog 61 T61.sp := by
  refine valid_t (fn := Try.f61) (n := 12) ty_ok tb61_ok Try.func61 rfl Try.ntmps61 ?_
  rintro ⟨a0_0, a0_1, a0_2, a0_3, a1⟩ hx
  obtain ⟨r, hr⟩ := Option.isSome_iff_exists.1 (show (r61 a0_0 a0_1 a0_2 a0_3 a1).isSome = true from hx)
  have hres : T61.res (a0_0, a0_1, a0_2, a0_3, a1) = [.c (.d (.int .i64 r))] := by simp only [T61, hr, Option.getD_some]
  refine ⟨Nat.le_of_ble_eq_true rfl, fun stop S => ?_⟩
  rw [hres] at S
  unfold r61 at hr
  refine S.goB [] 1000 ?_
  simp (maxSteps := 10000000) only [go_sem, tb61_59, T59, T61, Option.map_some, Int.reduceToNat, Nat.reduceEqDiff, Nat.reduceLT, Nat.reduceAdd, Nat.reduceMul, Nat.reduceSub, Nat.reduceLeDiff, reduceIte, reduceCtorEq, Try.results61]
  obtain ⟨v1, hv1, hr⟩ := of_bind0 hr
  try simp only [hv1, Option.getD_some, Option.isSome_some, true_and, and_assoc]
  repeat refine gA ?_
  refine ⟨fun hc => ?_, fun hc => ?_⟩
  · replace hr := ifP hr hc
    repeat refine gA ?_
    obtain rfl := Option.some.inj hr
    (simp (maxDischargeDepth := 8) [go_sem])
  · replace hr := ifN hr hc
    repeat refine gA ?_
    obtain rfl := Option.some.inj hr
    (simp (maxDischargeDepth := 8) [go_sem])
theorem f61 : FnFact Try.prog 61 T61.sp := ⟨⟨Try.f61, Try.func61, by decide, rfl⟩, v61⟩

/- martensite/martensiteref03.DriveErr -/
def b70_1 (a0_0 : Int) (a0_1 : Int) (a0_2 : List (Int × Int)) (a0_3 : List ((List (Int × Int)))) (a1_0 : List (Int)) (a1_1 : Int) : (Int) → Ctl (Int) (Int) := fun s1 =>
  if (decide (s1 < (a1_0.length : Int))) = true then
   if 0 ≤ s1 ∧ s1 < (a1_0.length : Int) then
    bindC (r59 (a1_0.getD s1.toNat default) 0 10000) fun v1 =>
     if (!v1) = true then
      .out (some 2)
      else .next (IntKind.i64.wrap (s1 + 1))
    else .out none
   else .out ((r61 a0_0 a0_1 a0_2 a0_3 a1_1).bind fun v3 =>
    some v3)
def r70 (a0_0 : Int) (a0_1 : Int) (a0_2 : List (Int × Int)) (a0_3 : List ((List (Int × Int)))) (a1_0 : List (Int)) (a1_1 : Int) : Option (Int) :=
  if ((a1_0.length : Int) != a0_0) = true then
   some 10
   else iterC (b70_1 a0_0 a0_1 a0_2 a0_3 a1_0 a1_1) 1000000000 0
def T70 : TSpec (Int × Int × (List (Int × Int)) × (List ((List (Int × Int)))) × (List (Int)) × Int) where
  enc x := [.agg [.int .i64 x.1, .int .i64 x.2.1, encF 2 d_II x.2.2.1, encF 1 d_LIIE x.2.2.2.1], .agg [encF 1 d_I x.2.2.2.2.1, .int .i64 x.2.2.2.2.2]]
  dec a := (dInt (aCell a 0 0), dInt (aCell a 0 1), decF g_II (aCell a 0 2), decF g_LIIE (aCell a 0 3), decF g_I (aCell a 1 0), dInt (aCell a 1 1))
  pre x := (r70 x.1 x.2.1 x.2.2.1 x.2.2.2.1 x.2.2.2.2.1 x.2.2.2.2.2).isSome = true
  res x := [.c (.d (.int .i64 ((r70 x.1 x.2.1 x.2.2.1 x.2.2.2.1 x.2.2.2.2.1 x.2.2.2.2.2).getD default)))]
  al := false
def tb70 : Fns := lk [(59, T59.sp), (61, T61.sp)]
theorem tb70_ok : FnsOk Try.prog tb70 := .cons f59 (.cons f61 (FnsOk.nil))
theorem tb70_59 : tb70 59 = some T59.sp := rfl
theorem tb70_61 : tb70 61 = some T61.sp := rfl
theorem v70 : Valid Try.prog 70 T70.sp := by
  refine valid_t (fn := Try.f70) (n := 30) ty_ok tb70_ok Try.func70 rfl Try.ntmps70 ?_
  rintro ⟨a0_0, a0_1, a0_2, a0_3, a1_0, a1_1⟩ hx
  obtain ⟨r, hr⟩ := Option.isSome_iff_exists.1 (show (r70 a0_0 a0_1 a0_2 a0_3 a1_0 a1_1).isSome = true from hx)
  have hres : T70.res (a0_0, a0_1, a0_2, a0_3, a1_0, a1_1) = [.c (.d (.int .i64 r))] := by simp only [T70, hr, Option.getD_some]
  refine ⟨Nat.le_of_ble_eq_true rfl, fun stop S => ?_⟩
  rw [hres] at S
  unfold r70 at hr
  refine S.goB [] 1000 ?_
  simp (maxSteps := 10000000) only [go_sem, tb70_59, T59, tb70_61, T61, T70, Option.map_some, Int.reduceToNat, Nat.reduceEqDiff, Nat.reduceLT, Nat.reduceAdd, Nat.reduceMul, Nat.reduceSub, Nat.reduceLeDiff, reduceIte, reduceCtorEq, Try.results70]
  repeat refine gA ?_
  refine ⟨fun hc => ?_, fun hc => ?_⟩
  · replace hr := ifP hr hc
    repeat refine gA ?_
    obtain rfl := Option.some.inj hr
    (simp (maxDischargeDepth := 8) [go_sem])
  · replace hr := ifN hr hc
    repeat refine gA ?_
    refine S.sees [2, 3, 5] [(2, 2), (3, 3)] [] ?_ (Stop.iter S (fun s1 => ⟨[(2, .c (.ref 2 0)), (3, .c (.ref 3 0)), (5, .c (.d (.int .i64 s1)))], [(2, [.d (.int .i64 a0_0), .d (.int .i64 a0_1), .d (encF 2 d_II a0_2), .d (encF 1 d_LIIE a0_3)]), (3, [.d (encF 1 d_I a1_0), .d (.int .i64 a1_1)])], []⟩) (b70_1 a0_0 a0_1 a0_2 a0_3 a1_0 a1_1) (fun q => q = r) hr rfl ?_)
    · (simp (maxDischargeDepth := 8) [go_sem])
    · intro s1 hr
      unfold b70_1 at hr
      refine S.goB [] 1000 ?_
      simp (maxSteps := 10000000) only [go_sem, tb70_59, T59, tb70_61, T61, T70, Option.map_some, Int.reduceToNat, Nat.reduceEqDiff, Nat.reduceLT, Nat.reduceAdd, Nat.reduceMul, Nat.reduceSub, Nat.reduceLeDiff, reduceIte, reduceCtorEq, Try.results70]
      repeat refine gA ?_
      refine ⟨fun hc => ?_, fun hc => ?_⟩
      · replace hr := ifP1 hr hc
        obtain ⟨hg2, hr⟩ := of_guard1 hr
        obtain ⟨v1, hv1, hr⟩ := of_bind1 hr
        try simp only [hv1, Option.getD_some, Option.isSome_some, true_and, and_assoc]
        repeat refine gA ?_
        refine ⟨fun hc => ?_, fun hc => ?_⟩
        · replace hr := ifP1 hr hc
          repeat refine gA ?_
          have hr := of_out0 hr
          obtain rfl := Option.some.inj hr
          (simp (maxDischargeDepth := 8) [go_sem])
        · replace hr := ifN1 hr hc
          repeat refine gA ?_
          refine S.sees [2, 3, 5] [(2, 2), (3, 3)] [] ?_ hr
          (simp (maxDischargeDepth := 8) [go_sem])
      · replace hr := ifN1 hr hc
        repeat refine gA ?_
        have hr := of_out0 hr
        obtain ⟨v3, hv3, hr⟩ := of_bind0 hr
        try simp only [hv3, Option.getD_some, Option.isSome_some, true_and, and_assoc]
        repeat refine gA ?_
        obtain rfl := Option.some.inj hr
        (simp (maxDischargeDepth := 8) [go_sem])
theorem f70 : FnFact Try.prog 70 T70.sp := ⟨⟨Try.f70, Try.func70, by decide, rfl⟩, v70⟩

/- martensite/martensiteref03.KelvinErr -/
def r97 (a0 : Int) : Option (Int) :=
  (r103 a0).bind fun v1 =>
   if (!v1) = true then
    some 2
    else some 0
def T97 : TSpec (Int) where
  enc x := [.c (.int .i64 x)]
  dec a := dInt (aCell a 0 0)
  pre x := (r97 x).isSome = true
  res x := [.c (.d (.int .i64 ((r97 x).getD default)))]
  al := false
def tb97 : Fns := lk [(103, T103.sp)]
theorem tb97_ok : FnsOk Try.prog tb97 := .cons f103 (FnsOk.nil)
theorem tb97_103 : tb97 103 = some T103.sp := rfl
theorem v97 : Valid Try.prog 97 T97.sp := by
  refine valid_t (fn := Try.f97) (n := 6) ty_ok tb97_ok Try.func97 rfl Try.ntmps97 ?_
  rintro a0 hx
  obtain ⟨r, hr⟩ := Option.isSome_iff_exists.1 (show (r97 a0).isSome = true from hx)
  have hres : T97.res a0 = [.c (.d (.int .i64 r))] := by simp only [T97, hr, Option.getD_some]
  refine ⟨Nat.le_of_ble_eq_true rfl, fun stop S => ?_⟩
  rw [hres] at S
  unfold r97 at hr
  refine S.goB [] 1000 ?_
  simp (maxSteps := 10000000) only [go_sem, tb97_103, T103, T97, Option.map_some, Int.reduceToNat, Nat.reduceEqDiff, Nat.reduceLT, Nat.reduceAdd, Nat.reduceMul, Nat.reduceSub, Nat.reduceLeDiff, reduceIte, reduceCtorEq, Try.results97]
  obtain ⟨v1, hv1, hr⟩ := of_bind0 hr
  try simp only [hv1, Option.getD_some, Option.isSome_some, true_and, and_assoc]
  repeat refine gA ?_
  refine ⟨fun hc => ?_, fun hc => ?_⟩
  · replace hr := ifP hr hc
    repeat refine gA ?_
    obtain rfl := Option.some.inj hr
    (simp (maxDischargeDepth := 8) [go_sem])
  · replace hr := ifN hr hc
    repeat refine gA ?_
    obtain rfl := Option.some.inj hr
    (simp (maxDischargeDepth := 8) [go_sem])
theorem f97 : FnFact Try.prog 97 T97.sp := ⟨⟨Try.f97, Try.func97, by decide, rfl⟩, v97⟩

/- martensite/martensiteref03.TaskErr -/
def r22 (a0_0 : Int) (a0_1 : Int) (a0_2 : List (Int × Int)) (a0_3 : List ((List (Int × Int)))) (a1_0 : List (Int)) (a1_1 : Int) (a1_2 : Int) (a1_3 : Int) (a1_4 : Int) : Option (Int) :=
  (r70 a0_0 a0_1 a0_2 a0_3 a1_0 a1_1).bind fun v1 =>
   if (v1 != 0) = true then
    some v1
    else (r97 a1_2).bind fun v2 =>
     if (v2 != 0) = true then
      some v2
      else (r59 a1_3 1 a0_0).bind fun v3 =>
       if (!(!v3)) = true → (r59 a1_4 0 200).isSome = true then
        if ((!v3) || (!((r59 a1_4 0 200).getD default))) = true then
         some 2
         else some 0
        else none
def T22 : TSpec (Int × Int × (List (Int × Int)) × (List ((List (Int × Int)))) × (List (Int)) × Int × Int × Int × Int) where
  enc x := [.agg [.int .i64 x.1, .int .i64 x.2.1, encF 2 d_II x.2.2.1, encF 1 d_LIIE x.2.2.2.1], .agg [encF 1 d_I x.2.2.2.2.1, .int .i64 x.2.2.2.2.2.1, .int .i64 x.2.2.2.2.2.2.1, .int .i64 x.2.2.2.2.2.2.2.1, .int .i64 x.2.2.2.2.2.2.2.2]]
  dec a := (dInt (aCell a 0 0), dInt (aCell a 0 1), decF g_II (aCell a 0 2), decF g_LIIE (aCell a 0 3), decF g_I (aCell a 1 0), dInt (aCell a 1 1), dInt (aCell a 1 2), dInt (aCell a 1 3), dInt (aCell a 1 4))
  pre x := (r22 x.1 x.2.1 x.2.2.1 x.2.2.2.1 x.2.2.2.2.1 x.2.2.2.2.2.1 x.2.2.2.2.2.2.1 x.2.2.2.2.2.2.2.1 x.2.2.2.2.2.2.2.2).isSome = true
  res x := [.c (.d (.int .i64 ((r22 x.1 x.2.1 x.2.2.1 x.2.2.2.1 x.2.2.2.2.1 x.2.2.2.2.2.1 x.2.2.2.2.2.2.1 x.2.2.2.2.2.2.2.1 x.2.2.2.2.2.2.2.2).getD default)))]
  al := false
def tb22 : Fns := lk [(59, T59.sp), (70, T70.sp), (97, T97.sp)]
theorem tb22_ok : FnsOk Try.prog tb22 := .cons f59 (.cons f70 (.cons f97 (FnsOk.nil)))
theorem tb22_59 : tb22 59 = some T59.sp := rfl
theorem tb22_70 : tb22 70 = some T70.sp := rfl
theorem tb22_97 : tb22 97 = some T97.sp := rfl
theorem v22 : Valid Try.prog 22 T22.sp := by
  refine valid_t (fn := Try.f22) (n := 32) ty_ok tb22_ok Try.func22 rfl Try.ntmps22 ?_
  rintro ⟨a0_0, a0_1, a0_2, a0_3, a1_0, a1_1, a1_2, a1_3, a1_4⟩ hx
  obtain ⟨r, hr⟩ := Option.isSome_iff_exists.1 (show (r22 a0_0 a0_1 a0_2 a0_3 a1_0 a1_1 a1_2 a1_3 a1_4).isSome = true from hx)
  have hres : T22.res (a0_0, a0_1, a0_2, a0_3, a1_0, a1_1, a1_2, a1_3, a1_4) = [.c (.d (.int .i64 r))] := by simp only [T22, hr, Option.getD_some]
  refine ⟨Nat.le_of_ble_eq_true rfl, fun stop S => ?_⟩
  rw [hres] at S
  unfold r22 at hr
  refine S.goB [] 1000 ?_
  simp (maxSteps := 10000000) only [go_sem, tb22_59, T59, tb22_70, T70, tb22_97, T97, T22, Option.map_some, Int.reduceToNat, Nat.reduceEqDiff, Nat.reduceLT, Nat.reduceAdd, Nat.reduceMul, Nat.reduceSub, Nat.reduceLeDiff, reduceIte, reduceCtorEq, Try.results22]
  obtain ⟨v1, hv1, hr⟩ := of_bind0 hr
  try simp only [hv1, Option.getD_some, Option.isSome_some, true_and, and_assoc]
  repeat refine gA ?_
  refine ⟨fun hc => ?_, fun hc => ?_⟩
  · replace hr := ifP hr hc
    repeat refine gA ?_
    obtain rfl := Option.some.inj hr
    (simp (maxDischargeDepth := 8) [go_sem])
  · replace hr := ifN hr hc
    obtain ⟨v2, hv2, hr⟩ := of_bind0 hr
    try simp only [hv2, Option.getD_some, Option.isSome_some, true_and, and_assoc]
    repeat refine gA ?_
    refine ⟨fun hc => ?_, fun hc => ?_⟩
    · replace hr := ifP hr hc
      repeat refine gA ?_
      obtain rfl := Option.some.inj hr
      (simp (maxDischargeDepth := 8) [go_sem])
    · replace hr := ifN hr hc
      obtain ⟨v3, hv3, hr⟩ := of_bind0 hr
      obtain ⟨hg4, hr⟩ := of_guard0 hr
      try simp only [hv3, Option.getD_some, Option.isSome_some, true_and, and_assoc]
      repeat (first | refine gG hg4 ?_ | refine gA ?_ | refine gB ?_)
      refine ⟨fun hc => ?_, fun hc => ?_⟩
      · replace hr := ifP hr hc
        repeat refine gA ?_
        obtain rfl := Option.some.inj hr
        (simp (maxDischargeDepth := 8) [go_sem])
      · replace hr := ifN hr hc
        repeat refine gA ?_
        obtain rfl := Option.some.inj hr
        (simp (maxDischargeDepth := 8) [go_sem])
theorem f22 : FnFact Try.prog 22 T22.sp := ⟨⟨Try.f22, Try.func22, by decide, rfl⟩, v22⟩

/- martensite/martensiteref03.Kelvin -/
def b57_1 (a0_2 : List (Int × Int)) (a1 : Int) : (Int) → Ctl (Int) (Int × Int) := fun s1 =>
  if 0 ≤ s1 ∧ s1 < (a0_2.length : Int) then
   if (decide (((a0_2.getD s1.toNat default).1) < a1)) = true then
    .next (IntKind.i64.wrap (s1 + 1))
    else .out (if 0 ≤ IntKind.i64.wrap (s1 - 1) ∧ IntKind.i64.wrap (s1 - 1) < (a0_2.length : Int) then
     if 0 ≤ s1 ∧ s1 < (a0_2.length : Int) then
      some (IntKind.i64.wrap ((IntKind.i64.wrap (((a0_2.getD (IntKind.i64.wrap (s1 - 1)).toNat default).2) * (IntKind.i64.wrap (((a0_2.getD s1.toNat default).1) - ((a0_2.getD (IntKind.i64.wrap (s1 - 1)).toNat default).1))))) + (IntKind.i64.wrap ((IntKind.i64.wrap (((a0_2.getD s1.toNat default).2) - ((a0_2.getD (IntKind.i64.wrap (s1 - 1)).toNat default).2))) * (IntKind.i64.wrap (a1 - ((a0_2.getD (IntKind.i64.wrap (s1 - 1)).toNat default).1)))))), IntKind.i64.wrap (((a0_2.getD s1.toNat default).1) - ((a0_2.getD (IntKind.i64.wrap (s1 - 1)).toNat default).1)))
      else none
     else none)
   else .out none
def r57 (a0_0 : Int) (a0_1 : Int) (a0_2 : List (Int × Int)) (a0_3 : List ((List (Int × Int)))) (a1 : Int) : Option (Int × Int) :=
  iterC (b57_1 a0_2 a1) 1000000000 1
def T57 : TSpec (Int × Int × (List (Int × Int)) × (List ((List (Int × Int)))) × Int) where
  enc x := [.agg [.int .i64 x.1, .int .i64 x.2.1, encF 2 d_II x.2.2.1, encF 1 d_LIIE x.2.2.2.1], .c (.int .i64 x.2.2.2.2)]
  dec a := (dInt (aCell a 0 0), dInt (aCell a 0 1), decF g_II (aCell a 0 2), decF g_LIIE (aCell a 0 3), dInt (aCell a 1 0))
  pre x := (r57 x.1 x.2.1 x.2.2.1 x.2.2.2.1 x.2.2.2.2).isSome = true
  res x := [.c (.d (.int .i64 (((r57 x.1 x.2.1 x.2.2.1 x.2.2.2.1 x.2.2.2.2).getD default).1))), .c (.d (.int .i64 (((r57 x.1 x.2.1 x.2.2.1 x.2.2.2.1 x.2.2.2.2).getD default).2)))]
  al := false
def tb57 : Fns := lk []
theorem tb57_ok : FnsOk Try.prog tb57 := FnsOk.nil
theorem v57 : Valid Try.prog 57 T57.sp := by
  refine valid_t (fn := Try.f57) (n := 52) ty_ok tb57_ok Try.func57 rfl Try.ntmps57 ?_
  rintro ⟨a0_0, a0_1, a0_2, a0_3, a1⟩ hx
  obtain ⟨r, hr⟩ := Option.isSome_iff_exists.1 (show (r57 a0_0 a0_1 a0_2 a0_3 a1).isSome = true from hx)
  have hres : T57.res (a0_0, a0_1, a0_2, a0_3, a1) = [.c (.d (.int .i64 r.1)), .c (.d (.int .i64 r.2))] := by simp only [T57, hr, Option.getD_some]
  refine ⟨Nat.le_of_ble_eq_true rfl, fun stop S => ?_⟩
  rw [hres] at S
  unfold r57 at hr
  refine S.goB [] 1000 ?_
  simp (maxSteps := 10000000) only [go_sem, T57, Option.map_some, Int.reduceToNat, Nat.reduceEqDiff, Nat.reduceLT, Nat.reduceAdd, Nat.reduceMul, Nat.reduceSub, Nat.reduceLeDiff, reduceIte, reduceCtorEq, Try.results57]
  repeat refine gA ?_
  refine S.sees [1, 2, 6] [(2, 2)] [] ?_ (Stop.iter S (fun s1 => ⟨[(1, .c (.d (.int .i64 a1))), (2, .c (.ref 2 0)), (6, .c (.d (.int .i64 s1)))], [(2, [.d (.int .i64 a0_0), .d (.int .i64 a0_1), .d (encF 2 d_II a0_2), .d (encF 1 d_LIIE a0_3)])], []⟩) (b57_1 a0_2 a1) (fun q => q = r) hr rfl ?_)
  · (simp (maxDischargeDepth := 8) [go_sem])
  · intro s1 hr
    unfold b57_1 at hr
    refine S.goB [] 1000 ?_
    simp (maxSteps := 10000000) only [go_sem, T57, Option.map_some, Int.reduceToNat, Nat.reduceEqDiff, Nat.reduceLT, Nat.reduceAdd, Nat.reduceMul, Nat.reduceSub, Nat.reduceLeDiff, reduceIte, reduceCtorEq, Try.results57]
    obtain ⟨hg3, hr⟩ := of_guard1 hr
    repeat refine gA ?_
    refine ⟨fun hc => ?_, fun hc => ?_⟩
    · replace hr := ifP1 hr hc
      repeat refine gA ?_
      refine S.sees [1, 2, 6] [(2, 2)] [] ?_ hr
      (simp (maxDischargeDepth := 8) [go_sem])
    · replace hr := ifN1 hr hc
      repeat refine gA ?_
      have hr := of_out0 hr
      obtain ⟨hg1, hr⟩ := of_guard0 hr
      obtain ⟨hg2, hr⟩ := of_guard0 hr
      repeat refine gA ?_
      obtain rfl := Option.some.inj hr
      (simp (maxDischargeDepth := 8) [go_sem])
theorem f57 : FnFact Try.prog 57 T57.sp := ⟨⟨Try.f57, Try.func57, by decide, rfl⟩, v57⟩

/- martensite/martensiteref03.IsAbove -/
def r147 (a0_0 : Int) (a0_1 : Int) (a0_2 : List (Int × Int)) (a0_3 : List ((List (Int × Int)))) (a1 : Int) (a2 : Int) : Option (Bool) :=
  (r57 a0_0 a0_1 a0_2 a0_3 a1).bind fun v1 =>
   some (decide (v1.1 ≥ (IntKind.i64.wrap (a2 * v1.2))))
def T147 : TSpec (Int × Int × (List (Int × Int)) × (List ((List (Int × Int)))) × Int × Int) where
  enc x := [.agg [.int .i64 x.1, .int .i64 x.2.1, encF 2 d_II x.2.2.1, encF 1 d_LIIE x.2.2.2.1], .c (.int .i64 x.2.2.2.2.1), .c (.int .i64 x.2.2.2.2.2)]
  dec a := (dInt (aCell a 0 0), dInt (aCell a 0 1), decF g_II (aCell a 0 2), decF g_LIIE (aCell a 0 3), dInt (aCell a 1 0), dInt (aCell a 2 0))
  pre x := (r147 x.1 x.2.1 x.2.2.1 x.2.2.2.1 x.2.2.2.2.1 x.2.2.2.2.2).isSome = true
  res x := [.c (.d (.bool ((r147 x.1 x.2.1 x.2.2.1 x.2.2.2.1 x.2.2.2.2.1 x.2.2.2.2.2).getD default)))]
  al := false
def tb147 : Fns := lk [(57, T57.sp)]
theorem tb147_ok : FnsOk Try.prog tb147 := .cons f57 (FnsOk.nil)
theorem tb147_57 : tb147 57 = some T57.sp := rfl
theorem v147 : Valid Try.prog 147 T147.sp := by
  refine valid_t (fn := Try.f147) (n := 20) ty_ok tb147_ok Try.func147 rfl Try.ntmps147 ?_
  rintro ⟨a0_0, a0_1, a0_2, a0_3, a1, a2⟩ hx
  obtain ⟨r, hr⟩ := Option.isSome_iff_exists.1 (show (r147 a0_0 a0_1 a0_2 a0_3 a1 a2).isSome = true from hx)
  have hres : T147.res (a0_0, a0_1, a0_2, a0_3, a1, a2) = [.c (.d (.bool r))] := by simp only [T147, hr, Option.getD_some]
  refine ⟨Nat.le_of_ble_eq_true rfl, fun stop S => ?_⟩
  rw [hres] at S
  unfold r147 at hr
  refine S.goB [] 1000 ?_
  simp (maxSteps := 10000000) only [go_sem, tb147_57, T57, T147, Option.map_some, Int.reduceToNat, Nat.reduceEqDiff, Nat.reduceLT, Nat.reduceAdd, Nat.reduceMul, Nat.reduceSub, Nat.reduceLeDiff, reduceIte, reduceCtorEq, Try.results147]
  obtain ⟨v1, hv1, hr⟩ := of_bind0 hr
  try simp only [hv1, Option.getD_some, Option.isSome_some, true_and, and_assoc]
  repeat refine gA ?_
  obtain rfl := Option.some.inj hr
  (simp (maxDischargeDepth := 8) [go_sem])
theorem f147 : FnFact Try.prog 147 T147.sp := ⟨⟨Try.f147, Try.func147, by decide, rfl⟩, v147⟩

/- martensite/martensiteref03.Depth -/
def b98_1 (a0_0 : Int) (a0_1 : Int) (a0_2 : List (Int × Int)) (a0_3 : List ((List (Int × Int)))) (a1 : List (Int)) (a2 : Int) : (Int) → Ctl (Int) (Int) := fun s1 =>
  if (decide (s1 < (a1.length : Int))) = true → 0 ≤ s1 ∧ s1 < (a1.length : Int) then
   if (decide (s1 < (a1.length : Int))) = true → (r147 a0_0 a0_1 a0_2 a0_3 (a1.getD s1.toNat default) a2).isSome = true then
    if ((decide (s1 < (a1.length : Int))) && ((r147 a0_0 a0_1 a0_2 a0_3 (a1.getD s1.toNat default) a2).getD default)) = true then
     .next (IntKind.i64.wrap (s1 + 1))
     else .out (some s1)
    else .out none
   else .out none
def r98 (a0_0 : Int) (a0_1 : Int) (a0_2 : List (Int × Int)) (a0_3 : List ((List (Int × Int)))) (a1 : List (Int)) (a2 : Int) : Option (Int) :=
  iterC (b98_1 a0_0 a0_1 a0_2 a0_3 a1 a2) 1000000000 0
def T98 : TSpec (Int × Int × (List (Int × Int)) × (List ((List (Int × Int)))) × (List (Int)) × Int) where
  enc x := [.agg [.int .i64 x.1, .int .i64 x.2.1, encF 2 d_II x.2.2.1, encF 1 d_LIIE x.2.2.2.1], .c (encF 1 d_I x.2.2.2.2.1), .c (.int .i64 x.2.2.2.2.2)]
  dec a := (dInt (aCell a 0 0), dInt (aCell a 0 1), decF g_II (aCell a 0 2), decF g_LIIE (aCell a 0 3), decF g_I (aCell a 1 0), dInt (aCell a 2 0))
  pre x := (r98 x.1 x.2.1 x.2.2.1 x.2.2.2.1 x.2.2.2.2.1 x.2.2.2.2.2).isSome = true
  res x := [.c (.d (.int .i64 ((r98 x.1 x.2.1 x.2.2.1 x.2.2.2.1 x.2.2.2.2.1 x.2.2.2.2.2).getD default)))]
  al := false
def tb98 : Fns := lk [(147, T147.sp)]
theorem tb98_ok : FnsOk Try.prog tb98 := .cons f147 (FnsOk.nil)
theorem tb98_147 : tb98 147 = some T147.sp := rfl
theorem v98 : Valid Try.prog 98 T98.sp := by
  refine valid_t (fn := Try.f98) (n := 24) ty_ok tb98_ok Try.func98 rfl Try.ntmps98 ?_
  rintro ⟨a0_0, a0_1, a0_2, a0_3, a1, a2⟩ hx
  obtain ⟨r, hr⟩ := Option.isSome_iff_exists.1 (show (r98 a0_0 a0_1 a0_2 a0_3 a1 a2).isSome = true from hx)
  have hres : T98.res (a0_0, a0_1, a0_2, a0_3, a1, a2) = [.c (.d (.int .i64 r))] := by simp only [T98, hr, Option.getD_some]
  refine ⟨Nat.le_of_ble_eq_true rfl, fun stop S => ?_⟩
  rw [hres] at S
  unfold r98 at hr
  refine S.goB [] 1000 ?_
  simp (maxSteps := 10000000) only [go_sem, tb98_147, T147, T98, Option.map_some, Int.reduceToNat, Nat.reduceEqDiff, Nat.reduceLT, Nat.reduceAdd, Nat.reduceMul, Nat.reduceSub, Nat.reduceLeDiff, reduceIte, reduceCtorEq, Try.results98]
  repeat refine gA ?_
  refine S.sees [1, 2, 3, 7] [(3, 3)] [] ?_ (Stop.iter S (fun s1 => ⟨[(1, .c (.d (encF 1 d_I a1))), (2, .c (.d (.int .i64 a2))), (3, .c (.ref 3 0)), (7, .c (.d (.int .i64 s1)))], [(3, [.d (.int .i64 a0_0), .d (.int .i64 a0_1), .d (encF 2 d_II a0_2), .d (encF 1 d_LIIE a0_3)])], []⟩) (b98_1 a0_0 a0_1 a0_2 a0_3 a1 a2) (fun q => q = r) hr rfl ?_)
  · (simp (maxDischargeDepth := 8) [go_sem])
  · intro s1 hr
    unfold b98_1 at hr
    refine S.goB [] 1000 ?_
    simp (maxSteps := 10000000) only [go_sem, tb98_147, T147, T98, Option.map_some, Int.reduceToNat, Nat.reduceEqDiff, Nat.reduceLT, Nat.reduceAdd, Nat.reduceMul, Nat.reduceSub, Nat.reduceLeDiff, reduceIte, reduceCtorEq, Try.results98]
    obtain ⟨hg1, hr⟩ := of_guard1 hr
    obtain ⟨hg2, hr⟩ := of_guard1 hr
    repeat (first | refine gG hg1 ?_ | refine gG hg2 ?_ | refine gA ?_ | refine gB ?_)
    refine ⟨fun hc => ?_, fun hc => ?_⟩
    · replace hr := ifP1 hr hc
      repeat refine gA ?_
      refine S.sees [1, 2, 3, 7] [(3, 3)] [] ?_ hr
      (simp (maxDischargeDepth := 8) [go_sem])
    · replace hr := ifN1 hr hc
      repeat refine gA ?_
      have hr := of_out0 hr
      repeat refine gA ?_
      obtain rfl := Option.some.inj hr
      (simp (maxDischargeDepth := 8) [go_sem])
theorem f98 : FnFact Try.prog 98 T98.sp := ⟨⟨Try.f98, Try.func98, by decide, rfl⟩, v98⟩

/- martensite/martensitebase.Floor -/
def r129 (a0 : Int) (a1 : Int) : Option (Int) :=
  if a1 ≠ 0 then
   if a1 ≠ 0 then
    if (decide ((a0.tmod a1) < 0)) = true then
     some (IntKind.i64.wrap ((IntKind.i64.wrap (a0.tdiv a1)) - 1))
     else some (IntKind.i64.wrap (a0.tdiv a1))
    else none
   else none
def T129 : TSpec (Int × Int) where
  enc x := [.c (.int .i64 x.1), .c (.int .i64 x.2)]
  dec a := (dInt (aCell a 0 0), dInt (aCell a 1 0))
  pre x := (r129 x.1 x.2).isSome = true
  res x := [.c (.d (.int .i64 ((r129 x.1 x.2).getD default)))]
  al := false
def tb129 : Fns := lk []
theorem tb129_ok : FnsOk Try.prog tb129 := FnsOk.nil
theorem v129 : Valid Try.prog 129 T129.sp := by
  refine valid_t (fn := Try.f129) (n := 16) ty_ok tb129_ok Try.func129 rfl Try.ntmps129 ?_
  rintro ⟨a0, a1⟩ hx
  obtain ⟨r, hr⟩ := Option.isSome_iff_exists.1 (show (r129 a0 a1).isSome = true from hx)
  have hres : T129.res (a0, a1) = [.c (.d (.int .i64 r))] := by simp only [T129, hr, Option.getD_some]
  refine ⟨Nat.le_of_ble_eq_true rfl, fun stop S => ?_⟩
  rw [hres] at S
  unfold r129 at hr
  refine S.goB [] 1000 ?_
  simp (maxSteps := 10000000) only [go_sem, T129, Option.map_some, Int.reduceToNat, Nat.reduceEqDiff, Nat.reduceLT, Nat.reduceAdd, Nat.reduceMul, Nat.reduceSub, Nat.reduceLeDiff, reduceIte, reduceCtorEq, Try.results129]
  obtain ⟨hg1, hr⟩ := of_guard0 hr
  obtain ⟨hg2, hr⟩ := of_guard0 hr
  repeat refine gA ?_
  refine ⟨fun hc => ?_, fun hc => ?_⟩
  · replace hr := ifP hr hc
    repeat refine gA ?_
    obtain rfl := Option.some.inj hr
    (simp (maxDischargeDepth := 8) [go_sem])
  · replace hr := ifN hr hc
    repeat refine gA ?_
    obtain rfl := Option.some.inj hr
    (simp (maxDischargeDepth := 8) [go_sem])
theorem f129 : FnFact Try.prog 129 T129.sp := ⟨⟨Try.f129, Try.func129, by decide, rfl⟩, v129⟩

/- martensite/martensiteref03.exchanged -/
def r159 (a0_0 : Int) (a0_1 : Int) (a0_2 : List (Int × Int)) (a0_3 : List ((List (Int × Int)))) (a1 : Int) (a2 : Int) : Option (Int × Int) :=
  (r57 a0_0 a0_1 a0_2 a0_3 a1).bind fun v1 =>
   (r57 a0_0 a0_1 a0_2 a0_3 a2).bind fun v2 =>
    (r129 (IntKind.i64.wrap (a0_1 * (IntKind.i64.wrap ((IntKind.i64.wrap (v1.1 * v2.2)) - (IntKind.i64.wrap (v2.1 * v1.2)))))) (IntKind.i64.wrap ((IntKind.i64.wrap (1000 * v1.2)) * v2.2))).bind fun v3 =>
     some (IntKind.i64.wrap (a1 - v3), IntKind.i64.wrap (a2 + v3))
def T159 : TSpec (Int × Int × (List (Int × Int)) × (List ((List (Int × Int)))) × Int × Int) where
  enc x := [.agg [.int .i64 x.1, .int .i64 x.2.1, encF 2 d_II x.2.2.1, encF 1 d_LIIE x.2.2.2.1], .c (.int .i64 x.2.2.2.2.1), .c (.int .i64 x.2.2.2.2.2)]
  dec a := (dInt (aCell a 0 0), dInt (aCell a 0 1), decF g_II (aCell a 0 2), decF g_LIIE (aCell a 0 3), dInt (aCell a 1 0), dInt (aCell a 2 0))
  pre x := (r159 x.1 x.2.1 x.2.2.1 x.2.2.2.1 x.2.2.2.2.1 x.2.2.2.2.2).isSome = true
  res x := [.c (.d (.int .i64 (((r159 x.1 x.2.1 x.2.2.1 x.2.2.2.1 x.2.2.2.2.1 x.2.2.2.2.2).getD default).1))), .c (.d (.int .i64 (((r159 x.1 x.2.1 x.2.2.1 x.2.2.2.1 x.2.2.2.2.1 x.2.2.2.2.2).getD default).2)))]
  al := false
def tb159 : Fns := lk [(57, T57.sp), (129, T129.sp)]
theorem tb159_ok : FnsOk Try.prog tb159 := .cons f57 (.cons f129 (FnsOk.nil))
theorem tb159_57 : tb159 57 = some T57.sp := rfl
theorem tb159_129 : tb159 129 = some T129.sp := rfl
theorem v159 : Valid Try.prog 159 T159.sp := by
  refine valid_t (fn := Try.f159) (n := 46) ty_ok tb159_ok Try.func159 rfl Try.ntmps159 ?_
  rintro ⟨a0_0, a0_1, a0_2, a0_3, a1, a2⟩ hx
  obtain ⟨r, hr⟩ := Option.isSome_iff_exists.1 (show (r159 a0_0 a0_1 a0_2 a0_3 a1 a2).isSome = true from hx)
  have hres : T159.res (a0_0, a0_1, a0_2, a0_3, a1, a2) = [.c (.d (.int .i64 r.1)), .c (.d (.int .i64 r.2))] := by simp only [T159, hr, Option.getD_some]
  refine ⟨Nat.le_of_ble_eq_true rfl, fun stop S => ?_⟩
  rw [hres] at S
  unfold r159 at hr
  refine S.goB [] 1000 ?_
  simp (maxSteps := 10000000) only [go_sem, tb159_57, T57, tb159_129, T129, T159, Option.map_some, Int.reduceToNat, Nat.reduceEqDiff, Nat.reduceLT, Nat.reduceAdd, Nat.reduceMul, Nat.reduceSub, Nat.reduceLeDiff, reduceIte, reduceCtorEq, Try.results159]
  obtain ⟨v1, hv1, hr⟩ := of_bind0 hr
  obtain ⟨v2, hv2, hr⟩ := of_bind0 hr
  obtain ⟨v3, hv3, hr⟩ := of_bind0 hr
  try simp only [hv1, hv2, hv3, Option.getD_some, Option.isSome_some, true_and, and_assoc]
  repeat refine gA ?_
  obtain rfl := Option.some.inj hr
  (simp (maxDischargeDepth := 8) [go_sem])
theorem f159 : FnFact Try.prog 159 T159.sp := ⟨⟨Try.f159, Try.func159, by decide, rfl⟩, v159⟩

/- martensite/martensiteref03.Mixed -/
def b135_2 (a0_0 : Int) (a0_1 : Int) (a0_2 : List (Int × Int)) (a0_3 : List ((List (Int × Int)))) (s1 : Int × (List (Int))) : (Int × (List (Int))) → Ctl (Int × (List (Int))) (Ctl (Int × (List (Int))) ((List (Int)))) := fun s2 =>
  if (decide ((IntKind.i64.wrap (s2.1 + 1)) < (s2.2.length : Int))) = true then
   if 0 ≤ s2.1 ∧ s2.1 < (s2.2.length : Int) then
    if 0 ≤ IntKind.i64.wrap (s2.1 + 1) ∧ IntKind.i64.wrap (s2.1 + 1) < (s2.2.length : Int) then
     bindC (r159 a0_0 a0_1 a0_2 a0_3 (s2.2.getD s2.1.toNat default) (s2.2.getD (IntKind.i64.wrap (s2.1 + 1)).toNat default)) fun v2 =>
      if 0 ≤ s2.1 ∧ s2.1 < (s2.2.length : Int) then
       if 0 ≤ IntKind.i64.wrap (s2.1 + 1) ∧ IntKind.i64.wrap (s2.1 + 1) < (s2.2.length : Int) then
        .next (IntKind.i64.wrap (s2.1 + 2), (s2.2.set s2.1.toNat v2.1).set (IntKind.i64.wrap (s2.1 + 1)).toNat v2.2)
        else .out none
       else .out none
     else .out none
    else .out none
   else .out (some (.next (IntKind.i64.wrap (s1.1 + 1), s2.2)))
def b135_1 (a0_0 : Int) (a0_1 : Int) (a0_2 : List (Int × Int)) (a0_3 : List ((List (Int × Int)))) : (Int × (List (Int))) → Ctl (Int × (List (Int))) ((List (Int))) := fun s1 =>
  if (decide (s1.1 < 2)) = true then
   (iterC (b135_2 a0_0 a0_1 a0_2 a0_3 s1) 1000000000 (s1.1, s1.2)).getD (.out none)
   else .out (some s1.2)
def r135 (a0_0 : Int) (a0_1 : Int) (a0_2 : List (Int × Int)) (a0_3 : List ((List (Int × Int)))) (a1 : List (Int)) : Option ((List (Int))) :=
  (r19 a1).bind fun v1 =>
   iterC (b135_1 a0_0 a0_1 a0_2 a0_3) 1000000000 (0, v1)
def T135 : TSpec (Int × Int × (List (Int × Int)) × (List ((List (Int × Int)))) × (List (Int))) where
  enc x := [.agg [.int .i64 x.1, .int .i64 x.2.1, encF 2 d_II x.2.2.1, encF 1 d_LIIE x.2.2.2.1], .c (encF 1 d_I x.2.2.2.2)]
  dec a := (dInt (aCell a 0 0), dInt (aCell a 0 1), decF g_II (aCell a 0 2), decF g_LIIE (aCell a 0 3), decF g_I (aCell a 1 0))
  pre x := (r135 x.1 x.2.1 x.2.2.1 x.2.2.2.1 x.2.2.2.2).isSome = true
  res x := [.c (.own (encF 1 d_I ((r135 x.1 x.2.1 x.2.2.1 x.2.2.2.1 x.2.2.2.2).getD default)))]
  al := false
def tb135 : Fns := lk [(19, T19.sp), (159, T159.sp)]
theorem tb135_ok : FnsOk Try.prog tb135 := .cons f19 (.cons f159 (FnsOk.nil))
theorem tb135_19 : tb135 19 = some T19.sp := rfl
theorem tb135_159 : tb135 159 = some T159.sp := rfl
theorem v135 : Valid Try.prog 135 T135.sp := by
  refine valid_t (fn := Try.f135) (n := 44) ty_ok tb135_ok Try.func135 rfl Try.ntmps135 ?_
  rintro ⟨a0_0, a0_1, a0_2, a0_3, a1⟩ hx
  obtain ⟨r, hr⟩ := Option.isSome_iff_exists.1 (show (r135 a0_0 a0_1 a0_2 a0_3 a1).isSome = true from hx)
  have hres : T135.res (a0_0, a0_1, a0_2, a0_3, a1) = [.c (.own (encF 1 d_I r))] := by simp only [T135, hr, Option.getD_some]
  refine ⟨Nat.le_of_ble_eq_true rfl, fun stop S => ?_⟩
  rw [hres] at S
  unfold r135 at hr
  refine S.goB [] 1000 ?_
  simp (maxSteps := 10000000) only [go_sem, tb135_19, T19, tb135_159, T159, T135, Option.map_some, Int.reduceToNat, Nat.reduceEqDiff, Nat.reduceLT, Nat.reduceAdd, Nat.reduceMul, Nat.reduceSub, Nat.reduceLeDiff, reduceIte, reduceCtorEq, Try.results135]
  obtain ⟨v1, hv1, hr⟩ := of_bind0 hr
  try simp only [hv1, Option.getD_some, Option.isSome_some, true_and, and_assoc]
  repeat refine gA ?_
  refine S.sees [2, 5, 6] [(2, 2)] [(9, 9)] ?_ (Stop.iter S (fun s1 => ⟨[(2, .c (.ref 2 0)), (5, .c (.own 9)), (6, .c (.d (.int .i64 s1.1)))], [(2, [.d (.int .i64 a0_0), .d (.int .i64 a0_1), .d (encF 2 d_II a0_2), .d (encF 1 d_LIIE a0_3)])], [(9, .owned (encF 1 d_I s1.2))]⟩) (b135_1 a0_0 a0_1 a0_2 a0_3) (fun q => q = r) hr rfl ?_)
  · (simp (maxDischargeDepth := 8) [go_sem])
  · intro s1 hr
    unfold b135_1 at hr
    refine S.goB [] 1000 ?_
    simp (maxSteps := 10000000) only [go_sem, tb135_19, T19, tb135_159, T159, T135, Option.map_some, Int.reduceToNat, Nat.reduceEqDiff, Nat.reduceLT, Nat.reduceAdd, Nat.reduceMul, Nat.reduceSub, Nat.reduceLeDiff, reduceIte, reduceCtorEq, Try.results135]
    repeat refine gA ?_
    refine ⟨fun hc => ?_, fun hc => ?_⟩
    · replace hr := ifP1 hr hc
      repeat refine gA ?_
      obtain ⟨q2, hq, hr⟩ := of_iter1 hr
      refine S.sees [2, 5, 6, 7] [(2, 2)] [(9, 9)] ?_ (Stop.iter S (fun s2 => ⟨[(2, .c (.ref 2 0)), (5, .c (.own 9)), (6, .c (.d (.int .i64 s1.1))), (7, .c (.d (.int .i64 s2.1)))], [(2, [.d (.int .i64 a0_0), .d (.int .i64 a0_1), .d (encF 2 d_II a0_2), .d (encF 1 d_LIIE a0_3)])], [(9, .owned (encF 1 d_I s2.2))]⟩) (b135_2 a0_0 a0_1 a0_2 a0_3 s1) _ hq hr ?_)
      · (simp (maxDischargeDepth := 8) [go_sem])
      · intro s2 hr
        unfold b135_2 at hr
        refine S.goB [] 1000 ?_
        simp (maxSteps := 10000000) only [go_sem, tb135_19, T19, tb135_159, T159, T135, Option.map_some, Int.reduceToNat, Nat.reduceEqDiff, Nat.reduceLT, Nat.reduceAdd, Nat.reduceMul, Nat.reduceSub, Nat.reduceLeDiff, reduceIte, reduceCtorEq, Try.results135]
        repeat refine gA ?_
        refine ⟨fun hc => ?_, fun hc => ?_⟩
        · replace hr := ifP1 hr hc
          obtain ⟨hg3, hr⟩ := of_guard1 hr
          obtain ⟨hg4, hr⟩ := of_guard1 hr
          obtain ⟨v2, hv2, hr⟩ := of_bind1 hr
          obtain ⟨hg5, hr⟩ := of_guard1 hr
          obtain ⟨hg6, hr⟩ := of_guard1 hr
          try simp only [hv2, Option.getD_some, Option.isSome_some, true_and, and_assoc]
          repeat refine gA ?_
          refine S.sees [2, 5, 6, 7] [(2, 2)] [(9, 9)] ?_ hr
          (simp (maxDischargeDepth := 8) [go_sem])
        · replace hr := ifN1 hr hc
          repeat refine gA ?_
          replace hr := goodC_out hr
          repeat refine gA ?_
          refine S.sees [2, 5, 6] [(2, 2)] [(9, 9)] ?_ hr
          (simp (maxDischargeDepth := 8) [go_sem])
    · replace hr := ifN1 hr hc
      repeat refine gA ?_
      have hr := of_out0 hr
      repeat refine gA ?_
      obtain rfl := Option.some.inj hr
      (simp (maxDischargeDepth := 8) [go_sem])
theorem f135 : FnFact Try.prog 135 T135.sp := ⟨⟨Try.f135, Try.func135, by decide, rfl⟩, v135⟩

/- martensite/martensiteref03.Loss -/
def r62 (a0_0 : Int) (a0_1 : Int) (a0_2 : List (Int × Int)) (a0_3 : List ((List (Int × Int)))) (a1 : Int) (a2 : Int) : Option (Int) :=
  (r57 a0_0 a0_1 a0_2 a0_3 a2).bind fun v1 =>
   if 0 ≤ a1 ∧ a1 < (a0_3.length : Int) then
    (r131 (a0_3.getD a1.toNat default) v1.1 v1.2).bind fun v2 =>
     (r129 v2.1 v2.2).bind fun v3 =>
      some v3
    else none
def T62 : TSpec (Int × Int × (List (Int × Int)) × (List ((List (Int × Int)))) × Int × Int) where
  enc x := [.agg [.int .i64 x.1, .int .i64 x.2.1, encF 2 d_II x.2.2.1, encF 1 d_LIIE x.2.2.2.1], .c (.int .i64 x.2.2.2.2.1), .c (.int .i64 x.2.2.2.2.2)]
  dec a := (dInt (aCell a 0 0), dInt (aCell a 0 1), decF g_II (aCell a 0 2), decF g_LIIE (aCell a 0 3), dInt (aCell a 1 0), dInt (aCell a 2 0))
  pre x := (r62 x.1 x.2.1 x.2.2.1 x.2.2.2.1 x.2.2.2.2.1 x.2.2.2.2.2).isSome = true
  res x := [.c (.d (.int .i64 ((r62 x.1 x.2.1 x.2.2.1 x.2.2.2.1 x.2.2.2.2.1 x.2.2.2.2.2).getD default)))]
  al := false
def tb62 : Fns := lk [(57, T57.sp), (129, T129.sp), (131, T131.sp)]
theorem tb62_ok : FnsOk Try.prog tb62 := .cons f57 (.cons f129 (.cons f131 (FnsOk.nil)))
theorem tb62_57 : tb62 57 = some T57.sp := rfl
theorem tb62_129 : tb62 129 = some T129.sp := rfl
theorem tb62_131 : tb62 131 = some T131.sp := rfl
theorem v62 : Valid Try.prog 62 T62.sp := by
  refine valid_t (fn := Try.f62) (n := 31) ty_ok tb62_ok Try.func62 rfl Try.ntmps62 ?_
  rintro ⟨a0_0, a0_1, a0_2, a0_3, a1, a2⟩ hx
  obtain ⟨r, hr⟩ := Option.isSome_iff_exists.1 (show (r62 a0_0 a0_1 a0_2 a0_3 a1 a2).isSome = true from hx)
  have hres : T62.res (a0_0, a0_1, a0_2, a0_3, a1, a2) = [.c (.d (.int .i64 r))] := by simp only [T62, hr, Option.getD_some]
  refine ⟨Nat.le_of_ble_eq_true rfl, fun stop S => ?_⟩
  rw [hres] at S
  unfold r62 at hr
  refine S.goB [] 1000 ?_
  simp (maxSteps := 10000000) only [go_sem, tb62_57, T57, tb62_129, T129, tb62_131, T131, T62, Option.map_some, Int.reduceToNat, Nat.reduceEqDiff, Nat.reduceLT, Nat.reduceAdd, Nat.reduceMul, Nat.reduceSub, Nat.reduceLeDiff, reduceIte, reduceCtorEq, Try.results62]
  obtain ⟨v1, hv1, hr⟩ := of_bind0 hr
  obtain ⟨hg4, hr⟩ := of_guard0 hr
  obtain ⟨v2, hv2, hr⟩ := of_bind0 hr
  obtain ⟨v3, hv3, hr⟩ := of_bind0 hr
  try simp only [hv1, hv2, hv3, Option.getD_some, Option.isSome_some, true_and, and_assoc]
  repeat refine gA ?_
  obtain rfl := Option.some.inj hr
  (simp (maxDischargeDepth := 8) [go_sem])
theorem f62 : FnFact Try.prog 62 T62.sp := ⟨⟨Try.f62, Try.func62, by decide, rfl⟩, v62⟩

/- martensite/martensiteref03.Step -/
def b71_2 (a0_0 : Int) (a0_1 : Int) (a0_2 : List (Int × Int)) (a0_3 : List ((List (Int × Int)))) (v2 : Int) (s1 : Int × (List (Int))) : (Int) → Ctl (Int) ((List (Int)) × Int × Bool) := fun s2 =>
  if (decide (s2 < (s1.2.length : Int))) = true then
   if 0 ≤ s2 ∧ s2 < (s1.2.length : Int) then
    bindC (r56 a0_0 a0_1 a0_2 a0_3 (s1.2.getD s2.toNat default)) fun v6 =>
     if (!v6) = true then
      .out (some ([], 0, false))
      else .next (IntKind.i64.wrap (s2 + 1))
    else .out none
   else .out (some (s1.2, v2, true))
def b71_1 (a0_0 : Int) (a0_1 : Int) (a0_2 : List (Int × Int)) (a0_3 : List ((List (Int × Int)))) (a2 : List (Int)) (v2 : Int) : (Int × (List (Int))) → Ctl (Int × (List (Int))) ((List (Int)) × Int × Bool) := fun s1 =>
  if (decide (s1.1 < (s1.2.length : Int))) = true then
   if 0 ≤ s1.1 ∧ s1.1 < (s1.2.length : Int) then
    if 0 ≤ s1.1 ∧ s1.1 < (a2.length : Int) then
     if 0 ≤ s1.1 ∧ s1.1 < (s1.2.length : Int) then
      .next (IntKind.i64.wrap (s1.1 + 1), s1.2.set s1.1.toNat (IntKind.i64.wrap ((s1.2.getD s1.1.toNat default) + (a2.getD s1.1.toNat default))))
      else .out none
     else .out none
    else .out none
   else .out (iterC (b71_2 a0_0 a0_1 a0_2 a0_3 v2 s1) 1000000000 0)
def r71 (a0_0 : Int) (a0_1 : Int) (a0_2 : List (Int × Int)) (a0_3 : List ((List (Int × Int)))) (a1 : List (Int)) (a2 : List (Int)) (a3 : Int) : Option ((List (Int)) × Int × Bool) :=
  (r135 a0_0 a0_1 a0_2 a0_3 a1).bind fun v1 =>
   if 0 ≤ 0 ∧ 0 < (v1.length : Int) then
    (r62 a0_0 a0_1 a0_2 a0_3 a3 (v1.getD 0 default)).bind fun v2 =>
     if 0 ≤ 0 ∧ 0 < (v1.length : Int) then
      if 0 ≤ 0 ∧ 0 < (v1.length : Int) then
       iterC (b71_1 a0_0 a0_1 a0_2 a0_3 a2 v2) 1000000000 (0, v1.set 0 (IntKind.i64.wrap ((v1.getD 0 default) - v2)))
       else none
      else none
    else none
def T71 : TSpec (Int × Int × (List (Int × Int)) × (List ((List (Int × Int)))) × (List (Int)) × (List (Int)) × Int) where
  enc x := [.agg [.int .i64 x.1, .int .i64 x.2.1, encF 2 d_II x.2.2.1, encF 1 d_LIIE x.2.2.2.1], .c (encF 1 d_I x.2.2.2.2.1), .c (encF 1 d_I x.2.2.2.2.2.1), .c (.int .i64 x.2.2.2.2.2.2)]
  dec a := (dInt (aCell a 0 0), dInt (aCell a 0 1), decF g_II (aCell a 0 2), decF g_LIIE (aCell a 0 3), decF g_I (aCell a 1 0), decF g_I (aCell a 2 0), dInt (aCell a 3 0))
  pre x := (r71 x.1 x.2.1 x.2.2.1 x.2.2.2.1 x.2.2.2.2.1 x.2.2.2.2.2.1 x.2.2.2.2.2.2).isSome = true
  res x := [.c (.own (encF 1 d_I (((r71 x.1 x.2.1 x.2.2.1 x.2.2.2.1 x.2.2.2.2.1 x.2.2.2.2.2.1 x.2.2.2.2.2.2).getD default).1))), .c (.d (.int .i64 (((r71 x.1 x.2.1 x.2.2.1 x.2.2.2.1 x.2.2.2.2.1 x.2.2.2.2.2.1 x.2.2.2.2.2.2).getD default).2.1))), .c (.d (.bool (((r71 x.1 x.2.1 x.2.2.1 x.2.2.2.1 x.2.2.2.2.1 x.2.2.2.2.2.1 x.2.2.2.2.2.2).getD default).2.2)))]
  al := false
def tb71 : Fns := lk [(56, T56.sp), (62, T62.sp), (135, T135.sp)]
theorem tb71_ok : FnsOk Try.prog tb71 := .cons f56 (.cons f62 (.cons f135 (FnsOk.nil)))
theorem tb71_56 : tb71 56 = some T56.sp := rfl
theorem tb71_62 : tb71 62 = some T62.sp := rfl
theorem tb71_135 : tb71 135 = some T135.sp := rfl
theorem v71 : Valid Try.prog 71 T71.sp := by
  refine valid_t (fn := Try.f71) (n := 64) ty_ok tb71_ok Try.func71 rfl Try.ntmps71 ?_
  rintro ⟨a0_0, a0_1, a0_2, a0_3, a1, a2, a3⟩ hx
  obtain ⟨r, hr⟩ := Option.isSome_iff_exists.1 (show (r71 a0_0 a0_1 a0_2 a0_3 a1 a2 a3).isSome = true from hx)
  have hres : T71.res (a0_0, a0_1, a0_2, a0_3, a1, a2, a3) = [.c (.own (encF 1 d_I r.1)), .c (.d (.int .i64 r.2.1)), .c (.d (.bool r.2.2))] := by simp only [T71, hr, Option.getD_some]
  refine ⟨Nat.le_of_ble_eq_true rfl, fun stop S => ?_⟩
  rw [hres] at S
  unfold r71 at hr
  refine S.goB [] 1000 ?_
  simp (maxSteps := 10000000) only [go_sem, tb71_56, T56, tb71_62, T62, tb71_135, T135, T71, Option.map_some, Int.reduceToNat, Nat.reduceEqDiff, Nat.reduceLT, Nat.reduceAdd, Nat.reduceMul, Nat.reduceSub, Nat.reduceLeDiff, reduceIte, reduceCtorEq, Try.results71]
  obtain ⟨v1, hv1, hr⟩ := of_bind0 hr
  obtain ⟨hg8, hr⟩ := of_guard0 hr
  obtain ⟨v2, hv2, hr⟩ := of_bind0 hr
  obtain ⟨hg9, hr⟩ := of_guard0 hr
  obtain ⟨hg10, hr⟩ := of_guard0 hr
  try simp only [hv1, hv2, Option.getD_some, Option.isSome_some, true_and, and_assoc]
  repeat refine gA ?_
  refine S.sees [2, 4, 11, 12, 13] [(4, 4)] [(17, 17)] ?_ (Stop.iter S (fun s1 => ⟨[(2, .c (.d (encF 1 d_I a2))), (4, .c (.ref 4 0)), (11, .c (.own 17)), (12, .c (.d (.int .i64 v2))), (13, .c (.d (.int .i64 s1.1)))], [(4, [.d (.int .i64 a0_0), .d (.int .i64 a0_1), .d (encF 2 d_II a0_2), .d (encF 1 d_LIIE a0_3)])], [(17, .owned (encF 1 d_I s1.2))]⟩) (b71_1 a0_0 a0_1 a0_2 a0_3 a2 v2) (fun q => q = r) hr rfl ?_)
  · (simp (maxDischargeDepth := 8) [go_sem])
  · intro s1 hr
    unfold b71_1 at hr
    refine S.goB [] 1000 ?_
    simp (maxSteps := 10000000) only [go_sem, tb71_56, T56, tb71_62, T62, tb71_135, T135, T71, Option.map_some, Int.reduceToNat, Nat.reduceEqDiff, Nat.reduceLT, Nat.reduceAdd, Nat.reduceMul, Nat.reduceSub, Nat.reduceLeDiff, reduceIte, reduceCtorEq, Try.results71]
    repeat refine gA ?_
    refine ⟨fun hc => ?_, fun hc => ?_⟩
    · replace hr := ifP1 hr hc
      obtain ⟨hg3, hr⟩ := of_guard1 hr
      obtain ⟨hg4, hr⟩ := of_guard1 hr
      obtain ⟨hg5, hr⟩ := of_guard1 hr
      repeat refine gA ?_
      refine S.sees [2, 4, 11, 12, 13] [(4, 4)] [(17, 17)] ?_ hr
      (simp (maxDischargeDepth := 8) [go_sem])
    · replace hr := ifN1 hr hc
      repeat refine gA ?_
      have hr := of_out0 hr
      repeat refine gA ?_
      refine S.sees [4, 11, 12, 14] [(4, 4)] [(17, 17)] ?_ (Stop.iter S (fun s2 => ⟨[(4, .c (.ref 4 0)), (11, .c (.own 17)), (12, .c (.d (.int .i64 v2))), (14, .c (.d (.int .i64 s2)))], [(4, [.d (.int .i64 a0_0), .d (.int .i64 a0_1), .d (encF 2 d_II a0_2), .d (encF 1 d_LIIE a0_3)])], [(17, .owned (encF 1 d_I s1.2))]⟩) (b71_2 a0_0 a0_1 a0_2 a0_3 v2 s1) (fun q => q = r) hr rfl ?_)
      · (simp (maxDischargeDepth := 8) [go_sem])
      · intro s2 hr
        unfold b71_2 at hr
        refine S.goB [] 1000 ?_
        simp (maxSteps := 10000000) only [go_sem, tb71_56, T56, tb71_62, T62, tb71_135, T135, T71, Option.map_some, Int.reduceToNat, Nat.reduceEqDiff, Nat.reduceLT, Nat.reduceAdd, Nat.reduceMul, Nat.reduceSub, Nat.reduceLeDiff, reduceIte, reduceCtorEq, Try.results71]
        repeat refine gA ?_
        refine ⟨fun hc => ?_, fun hc => ?_⟩
        · replace hr := ifP1 hr hc
          obtain ⟨hg7, hr⟩ := of_guard1 hr
          obtain ⟨v6, hv6, hr⟩ := of_bind1 hr
          try simp only [hv6, Option.getD_some, Option.isSome_some, true_and, and_assoc]
          repeat refine gA ?_
          refine ⟨fun hc => ?_, fun hc => ?_⟩
          · replace hr := ifP1 hr hc
            repeat refine gA ?_
            have hr := of_out0 hr
            obtain rfl := Option.some.inj hr
            (simp (maxDischargeDepth := 8) [go_sem])
          · replace hr := ifN1 hr hc
            repeat refine gA ?_
            refine S.sees [4, 11, 12, 14] [(4, 4)] [(17, 17)] ?_ hr
            (simp (maxDischargeDepth := 8) [go_sem])
        · replace hr := ifN1 hr hc
          repeat refine gA ?_
          have hr := of_out0 hr
          repeat refine gA ?_
          obtain rfl := Option.some.inj hr
          (simp (maxDischargeDepth := 8) [go_sem])
theorem f71 : FnFact Try.prog 71 T71.sp := ⟨⟨Try.f71, Try.func71, by decide, rfl⟩, v71⟩
end Go.Proofs.Ytcbiiijnaeibhaa

/- Contracts of functions, written by wip/dec. -/
import Derived.Test.YtcbiiijnaeibhaaF00
import Derived.Test.YtcbiiijnaeibhaaF01
import Derived.Test.YtcbiiijnaeibhaaF04
set_option linter.unusedVariables false
set_option linter.unusedSimpArgs false
set_option maxHeartbeats 4000000
set_option maxRecDepth 20000
namespace Go.Proofs.Ytcbiiijnaeibhaa
open Go.Abs
/- martensite/martensitelaw03.short -/
def r28 (a0 : Int) : Option (Bool) :=
  some ((decide (a0 ≤ 20)) || ((decide (a0 > 200)) && (decide (a0 ≤ 202))))
def T28 : TSpec (Int) where
  enc x := [.c (.int .i64 x)]
  dec a := dInt (aCell a 0 0)
  pre x := (r28 x).isSome = true
  res x := [.c (.d (.bool ((r28 x).getD default)))]
  al := false
def tb28 : Fns := lk []
theorem tb28_ok : FnsOk Try.prog tb28 := FnsOk.nil
theorem v28 : Valid Try.prog 28 T28.sp := by
  refine valid_t (fn := Try.f28) (n := 13) ty_ok tb28_ok Try.func28 rfl Try.ntmps28 ?_
  rintro a0 hx
  obtain ⟨r, hr⟩ := Option.isSome_iff_exists.1 (show (r28 a0).isSome = true from hx)
  have hres : T28.res a0 = [.c (.d (.bool r))] := by simp only [T28, hr, Option.getD_some]
  refine ⟨Nat.le_of_ble_eq_true rfl, fun stop S => ?_⟩
  rw [hres] at S
  unfold r28 at hr
  refine S.goB [] 1000 ?_
  simp (maxSteps := 10000000) only [go_sem, T28, Option.map_some, Int.reduceToNat, Nat.reduceEqDiff, Nat.reduceLT, Nat.reduceAdd, Nat.reduceMul, Nat.reduceSub, Nat.reduceLeDiff, reduceIte, reduceCtorEq, Try.results28]
  repeat (first | refine gA ?_ | refine gB ?_)
  obtain rfl := Option.some.inj hr
  (simp (maxDischargeDepth := 8) [go_sem])
theorem f28 : FnFact Try.prog 28 T28.sp := ⟨⟨Try.f28, Try.func28, by decide, rfl⟩, v28⟩

/- martensite/martensitebase.CopyInts -/
def r19 (a0 : List (Int)) : Option ((List (Int))) :=
  if (0 + a0.length) * 8 ≤ 140737488355328 ∧ 0 + a0.length ≤ 9223372036854775807 then
   some a0
   else none
def T19 : TSpec ((List (Int))) where
  enc x := [.c (encF 1 d_I x)]
  dec a := decF g_I (aCell a 0 0)
  pre x := (r19 x).isSome = true
  res x := [.c (.own (encF 1 d_I ((r19 x).getD default)))]
  al := false
def tb19 : Fns := lk []
theorem tb19_ok : FnsOk Try.prog tb19 := FnsOk.nil
theorem v19 : Valid Try.prog 19 T19.sp := by
  refine valid_t (fn := Try.f19) (n := 6) ty_ok tb19_ok Try.func19 rfl Try.ntmps19 ?_
  rintro a0 hx
  obtain ⟨r, hr⟩ := Option.isSome_iff_exists.1 (show (r19 a0).isSome = true from hx)
  have hres : T19.res a0 = [.c (.own (encF 1 d_I r))] := by simp only [T19, hr, Option.getD_some]
  refine ⟨Nat.le_of_ble_eq_true rfl, fun stop S => ?_⟩
  rw [hres] at S
  unfold r19 at hr
  refine S.goB [] 1000 ?_
  simp (maxSteps := 10000000) only [go_sem, T19, Option.map_some, Int.reduceToNat, Nat.reduceEqDiff, Nat.reduceLT, Nat.reduceAdd, Nat.reduceMul, Nat.reduceSub, Nat.reduceLeDiff, reduceIte, reduceCtorEq, Try.results19]
  obtain ⟨hg1, hr⟩ := of_guard0 hr
  repeat refine gA ?_
  obtain rfl := Option.some.inj hr
  (simp (maxDischargeDepth := 8) [go_sem])
theorem f19 : FnFact Try.prog 19 T19.sp := ⟨⟨Try.f19, Try.func19, by decide, rfl⟩, v19⟩

/- martensite/heat.WaterRun$1 -/
def r107 (a0 : Int) : Option (Bool) :=
  (r108 a0).bind fun v1 =>
   some (!v1)
def T107 : TSpec (Int) where
  enc x := [.c (.int .i64 x)]
  dec a := dInt (aCell a 0 0)
  pre x := (r107 x).isSome = true
  res x := [.c (.d (.bool ((r107 x).getD default)))]
  al := false
def tb107 : Fns := lk [(108, T108.sp)]
theorem tb107_ok : FnsOk Try.prog tb107 := .cons f108 (FnsOk.nil)
theorem tb107_108 : tb107 108 = some T108.sp := rfl
theorem v107 : Valid Try.prog 107 T107.sp := by
  refine valid_t (fn := Try.f107) (n := 6) ty_ok tb107_ok Try.func107 rfl Try.ntmps107 ?_
  rintro a0 hx
  obtain ⟨r, hr⟩ := Option.isSome_iff_exists.1 (show (r107 a0).isSome = true from hx)
  have hres : T107.res a0 = [.c (.d (.bool r))] := by simp only [T107, hr, Option.getD_some]
  refine ⟨Nat.le_of_ble_eq_true rfl, fun stop S => ?_⟩
  rw [hres] at S
  unfold r107 at hr
  refine S.goB [] 1000 ?_
  simp (maxSteps := 10000000) only [go_sem, tb107_108, T108, T107, Option.map_some, Int.reduceToNat, Nat.reduceEqDiff, Nat.reduceLT, Nat.reduceAdd, Nat.reduceMul, Nat.reduceSub, Nat.reduceLeDiff, reduceIte, reduceCtorEq, Try.results107]
  obtain ⟨v1, hv1, hr⟩ := of_bind0 hr
  try simp only [hv1, Option.getD_some, Option.isSome_some, true_and, and_assoc]
  repeat refine gA ?_
  obtain rfl := Option.some.inj hr
  (simp (maxDischargeDepth := 8) [go_sem])
theorem f107 : FnFact Try.prog 107 T107.sp := ⟨⟨Try.f107, Try.func107, by decide, rfl⟩, v107⟩

/- slices.IndexFunc[[]int,int] -/
def b141e_1 (a0 : List (Int)) : (Int) → Ctl (Int) (Int) := fun s1 =>
  if (decide (s1 < (a0.length : Int))) = true then
   if 0 ≤ s1 ∧ s1 < (a0.length : Int) then
    bindC (r107 (a0.getD s1.toNat default)) fun v1 =>
     if v1 = true then
      .out (some s1)
      else .next (IntKind.i64.wrap (s1 + 1))
    else .out none
   else .out (some (-1))
def r141e (a0 : List (Int)) : Option (Int) :=
  iterC (b141e_1 a0) 1000000000 0
def T141e : TSpec ((List (Int))) where
  enc x := [.c (encF 1 d_I x), .clo 107 []]
  dec a := decF g_I (aCell a 0 0)
  pre x := (r141e x).isSome = true
  res x := [.c (.d (.int .i64 ((r141e x).getD default)))]
  al := false
def tb141e : Fns := lk [(107, T107.sp)]
theorem tb141e_ok : FnsOk Try.prog tb141e := .cons f107 (FnsOk.nil)
theorem tb141e_107 : tb141e 107 = some T107.sp := rfl
theorem v141e : Valid Try.prog 141 T141e.sp := by
  refine valid_t (fn := Try.f141) (n := 19) ty_ok tb141e_ok Try.func141 rfl Try.ntmps141 ?_
  rintro a0 hx
  obtain ⟨r, hr⟩ := Option.isSome_iff_exists.1 (show (r141e a0).isSome = true from hx)
  have hres : T141e.res a0 = [.c (.d (.int .i64 r))] := by simp only [T141e, hr, Option.getD_some]
  refine ⟨Nat.le_of_ble_eq_true rfl, fun stop S => ?_⟩
  rw [hres] at S
  unfold r141e at hr
  refine S.goB [] 1000 ?_
  simp (maxSteps := 10000000) only [go_sem, tb141e_107, T107, T141e, Option.map_some, Int.reduceToNat, Nat.reduceEqDiff, Nat.reduceLT, Nat.reduceAdd, Nat.reduceMul, Nat.reduceSub, Nat.reduceLeDiff, reduceIte, reduceCtorEq, Try.results141]
  repeat refine gA ?_
  refine S.sees [0, 1, 7, 8] [] [] ?_ (Stop.iter S (fun s1 => ⟨[(0, .c (.d (encF 1 d_I a0))), (1, .c (.clo 107 [])), (7, .c (.d (.int .i64 (a0.length : Int)))), (8, .c (.d (.int .i64 s1)))], [], []⟩) (b141e_1 a0) (fun q => q = r) hr rfl ?_)
  · (simp (maxDischargeDepth := 8) [go_sem])
  · intro s1 hr
    unfold b141e_1 at hr
    refine S.goB [] 1000 ?_
    simp (maxSteps := 10000000) only [go_sem, tb141e_107, T107, T141e, Option.map_some, Int.reduceToNat, Nat.reduceEqDiff, Nat.reduceLT, Nat.reduceAdd, Nat.reduceMul, Nat.reduceSub, Nat.reduceLeDiff, reduceIte, reduceCtorEq, Try.results141]
    repeat refine gA ?_
    refine ⟨fun hc => ?_, fun hc => ?_⟩
    · replace hr := ifP1 hr hc
      obtain ⟨hg2, hr⟩ := of_guard1 hr
      obtain ⟨v1, hv1, hr⟩ := of_bind1 hr
      try simp only [hv1, Option.getD_some, Option.isSome_some, true_and, and_assoc]
      repeat refine gA ?_
      refine ⟨fun hc => ?_, fun hc => ?_⟩
      · replace hr := ifP1 hr hc
        repeat refine gA ?_
        have hr := of_out0 hr
        obtain rfl := Option.some.inj hr
        (simp (maxDischargeDepth := 8) [go_sem])
      · replace hr := ifN1 hr hc
        repeat refine gA ?_
        refine S.sees [0, 1, 7, 8] [] [] ?_ hr
        (simp (maxDischargeDepth := 8) [go_sem])
    · replace hr := ifN1 hr hc
      repeat refine gA ?_
      have hr := of_out0 hr
      repeat refine gA ?_
      obtain rfl := Option.some.inj hr
      (simp (maxDischargeDepth := 8) [go_sem])
theorem f141e : FnFact Try.prog 141 T141e.sp := ⟨⟨Try.f141, Try.func141, by decide, rfl⟩, v141e⟩

/- slices.ContainsFunc[[]int,int] -/
def r106b (a0 : List (Int)) : Option (Bool) :=
  (r141e a0).bind fun v1 =>
   some (decide (v1 ≥ 0))
def T106b : TSpec ((List (Int))) where
  enc x := [.c (encF 1 d_I x), .clo 107 []]
  dec a := decF g_I (aCell a 0 0)
  pre x := (r106b x).isSome = true
  res x := [.c (.d (.bool ((r106b x).getD default)))]
  al := false
def tb106b : Fns := lk [(141, T141e.sp)]
theorem tb106b_ok : FnsOk Try.prog tb106b := .cons f141e (FnsOk.nil)
theorem tb106b_141 : tb106b 141 = some T141e.sp := rfl
theorem v106b : Valid Try.prog 106 T106b.sp := by
  refine valid_t (fn := Try.f106) (n := 9) ty_ok tb106b_ok Try.func106 rfl Try.ntmps106 ?_
  rintro a0 hx
  obtain ⟨r, hr⟩ := Option.isSome_iff_exists.1 (show (r106b a0).isSome = true from hx)
  have hres : T106b.res a0 = [.c (.d (.bool r))] := by simp only [T106b, hr, Option.getD_some]
  refine ⟨Nat.le_of_ble_eq_true rfl, fun stop S => ?_⟩
  rw [hres] at S
  unfold r106b at hr
  refine S.goB [] 1000 ?_
  simp (maxSteps := 10000000) only [go_sem, tb106b_141, T141e, T106b, Option.map_some, Int.reduceToNat, Nat.reduceEqDiff, Nat.reduceLT, Nat.reduceAdd, Nat.reduceMul, Nat.reduceSub, Nat.reduceLeDiff, reduceIte, reduceCtorEq, Try.results106]
  obtain ⟨v1, hv1, hr⟩ := of_bind0 hr
  try simp only [hv1, Option.getD_some, Option.isSome_some, true_and, and_assoc]
  repeat refine gA ?_
  obtain rfl := Option.some.inj hr
  (simp (maxDischargeDepth := 8) [go_sem])
theorem f106b : FnFact Try.prog 106 T106b.sp := ⟨⟨Try.f106, Try.func106, by decide, rfl⟩, v106b⟩

/- martensite/heat.WaterRun -/
def r29 (a0_0 : Int) (a0_1 : Int) (a0_2 : Int) (a1 : List (Int)) : Option ((List (Int)) × Int) :=
  (r106b a1).bind fun v1 =>
   (r32 a0_0 a0_1 a0_2).bind fun v2 =>
    (r94 (decide ((a1.length : Int) ≤ 200)) 8).bind fun v3 =>
     (r94 (!v1) 2).bind fun v4 =>
      (r91 [v2, v3, v4]).bind fun v5 =>
       if (v5 != 0) = true then
        some ([], v5)
        else (r109 a0_0 a0_1 a0_2 a1).bind fun v6 =>
         some (v6, 0)
def T29 : TSpec (Int × Int × Int × (List (Int))) where
  enc x := [.agg [.int .i64 x.1, .int .i64 x.2.1, .int .i64 x.2.2.1], .c (encF 1 d_I x.2.2.2)]
  dec a := (dInt (aCell a 0 0), dInt (aCell a 0 1), dInt (aCell a 0 2), decF g_I (aCell a 1 0))
  pre x := (r29 x.1 x.2.1 x.2.2.1 x.2.2.2).isSome = true
  res x := [.c (.own (encF 1 d_I (((r29 x.1 x.2.1 x.2.2.1 x.2.2.2).getD default).1))), .c (.d (.int .i64 (((r29 x.1 x.2.1 x.2.2.1 x.2.2.2).getD default).2)))]
  al := false
def tb29 : Fns := lk [(32, T32.sp), (91, T91.sp), (94, T94.sp), (106, T106b.sp), (109, T109.sp)]
theorem tb29_ok : FnsOk Try.prog tb29 := .cons f32 (.cons f91 (.cons f94 (.cons f106b (.cons f109 (FnsOk.nil)))))
theorem tb29_32 : tb29 32 = some T32.sp := rfl
theorem tb29_91 : tb29 91 = some T91.sp := rfl
theorem tb29_94 : tb29 94 = some T94.sp := rfl
theorem tb29_106 : tb29 106 = some T106b.sp := rfl
theorem tb29_109 : tb29 109 = some T109.sp := rfl
theorem v29 : Valid Try.prog 29 T29.sp := by
  refine valid_t (fn := Try.f29) (n := 27) ty_ok tb29_ok Try.func29 rfl Try.ntmps29 ?_
  rintro ⟨a0_0, a0_1, a0_2, a1⟩ hx
  obtain ⟨r, hr⟩ := Option.isSome_iff_exists.1 (show (r29 a0_0 a0_1 a0_2 a1).isSome = true from hx)
  have hres : T29.res (a0_0, a0_1, a0_2, a1) = [.c (.own (encF 1 d_I r.1)), .c (.d (.int .i64 r.2))] := by simp only [T29, hr, Option.getD_some]
  refine ⟨Nat.le_of_ble_eq_true rfl, fun stop S => ?_⟩
  rw [hres] at S
  unfold r29 at hr
  refine S.goB [] 1000 ?_
  simp (maxSteps := 10000000) only [go_sem, tb29_32, T32, tb29_91, T91, tb29_94, T94, tb29_106, T106b, tb29_109, T109, T29, Option.map_some, Int.reduceToNat, Nat.reduceEqDiff, Nat.reduceLT, Nat.reduceAdd, Nat.reduceMul, Nat.reduceSub, Nat.reduceLeDiff, reduceIte, reduceCtorEq, Try.results29]
  obtain ⟨v1, hv1, hr⟩ := of_bind0 hr
  obtain ⟨v2, hv2, hr⟩ := of_bind0 hr
  obtain ⟨v3, hv3, hr⟩ := of_bind0 hr
  obtain ⟨v4, hv4, hr⟩ := of_bind0 hr
  obtain ⟨v5, hv5, hr⟩ := of_bind0 hr
  try simp only [hv1, hv2, hv3, hv4, hv5, Option.getD_some, Option.isSome_some, true_and, and_assoc]
  repeat refine gA ?_
  refine ⟨fun hc => ?_, fun hc => ?_⟩
  · replace hr := ifP hr hc
    repeat refine gA ?_
    obtain rfl := Option.some.inj hr
    (simp (maxDischargeDepth := 8) [go_sem])
  · replace hr := ifN hr hc
    obtain ⟨v6, hv6, hr⟩ := of_bind0 hr
    try simp only [hv6, Option.getD_some, Option.isSome_some, true_and, and_assoc]
    repeat refine gA ?_
    obtain rfl := Option.some.inj hr
    (simp (maxDischargeDepth := 8) [go_sem])
theorem f29 : FnFact Try.prog 29 T29.sp := ⟨⟨Try.f29, Try.func29, by decide, rfl⟩, v29⟩

/- martensite/martensitebase.Within -/
def r59 (a0 : Int) (a1 : Int) (a2 : Int) : Option (Bool) :=
  some ((decide (a1 ≤ a0)) && (decide (a0 ≤ a2)))
def T59 : TSpec (Int × Int × Int) where
  enc x := [.c (.int .i64 x.1), .c (.int .i64 x.2.1), .c (.int .i64 x.2.2)]
  dec a := (dInt (aCell a 0 0), dInt (aCell a 1 0), dInt (aCell a 2 0))
  pre x := (r59 x.1 x.2.1 x.2.2).isSome = true
  res x := [.c (.d (.bool ((r59 x.1 x.2.1 x.2.2).getD default)))]
  al := false
def tb59 : Fns := lk []
theorem tb59_ok : FnsOk Try.prog tb59 := FnsOk.nil
theorem v59 : Valid Try.prog 59 T59.sp := by
  refine valid_t (fn := Try.f59) (n := 15) ty_ok tb59_ok Try.func59 rfl Try.ntmps59 ?_
  rintro ⟨a0, a1, a2⟩ hx
  obtain ⟨r, hr⟩ := Option.isSome_iff_exists.1 (show (r59 a0 a1 a2).isSome = true from hx)
  have hres : T59.res (a0, a1, a2) = [.c (.d (.bool r))] := by simp only [T59, hr, Option.getD_some]
  refine ⟨Nat.le_of_ble_eq_true rfl, fun stop S => ?_⟩
  rw [hres] at S
  unfold r59 at hr
  refine S.goB [] 1000 ?_
  simp (maxSteps := 10000000) only [go_sem, T59, Option.map_some, Int.reduceToNat, Nat.reduceEqDiff, Nat.reduceLT, Nat.reduceAdd, Nat.reduceMul, Nat.reduceSub, Nat.reduceLeDiff, reduceIte, reduceCtorEq, Try.results59]
  repeat (first | refine gA ?_ | refine gB ?_)
  obtain rfl := Option.some.inj hr
  (simp (maxDischargeDepth := 8) [go_sem])
theorem f59 : FnFact Try.prog 59 T59.sp := ⟨⟨Try.f59, Try.func59, by decide, rfl⟩, v59⟩

/- martensite/martensiteref03.WaterErr -/
def r31 (a0_0 : Int) (a0_1 : Int) (a0_2 : Int) : Option (Int) :=
  (r59 a0_0 0 1000000).bind fun v1 =>
   if (!(!v1)) = true → (r59 a0_1 0 1000000).isSome = true then
    if (!((!v1) || (!((r59 a0_1 0 1000000).getD default)))) = true → (r59 a0_2 0 1000000).isSome = true then
     if (((!v1) || (!((r59 a0_1 0 1000000).getD default))) || (!((r59 a0_2 0 1000000).getD default))) = true then
      some 2
      else if (decide (a0_0 ≥ a0_2)) = true then
       some 9
       else some 0
     else none
    else none
def T31 : TSpec (Int × Int × Int) where
  enc x := [.agg [.int .i64 x.1, .int .i64 x.2.1, .int .i64 x.2.2]]
  dec a := (dInt (aCell a 0 0), dInt (aCell a 0 1), dInt (aCell a 0 2))
  pre x := (r31 x.1 x.2.1 x.2.2).isSome = true
  res x := [.c (.d (.int .i64 ((r31 x.1 x.2.1 x.2.2).getD default)))]
  al := false
def tb31 : Fns := lk [(59, T59.sp)]
theorem tb31_ok : FnsOk Try.prog tb31 := .cons f59 (FnsOk.nil)
theorem tb31_59 : tb31 59 = some T59.sp := rfl
theorem v31 : Valid Try.prog 31 T31.sp := by
  refine valid_t (fn := Try.f31) (n := 24) ty_ok tb31_ok Try.func31 rfl Try.ntmps31 ?_
  rintro ⟨a0_0, a0_1, a0_2⟩ hx
  obtain ⟨r, hr⟩ := Option.isSome_iff_exists.1 (show (r31 a0_0 a0_1 a0_2).isSome = true from hx)
  have hres : T31.res (a0_0, a0_1, a0_2) = [.c (.d (.int .i64 r))] := by simp only [T31, hr, Option.getD_some]
  refine ⟨Nat.le_of_ble_eq_true rfl, fun stop S => ?_⟩
  rw [hres] at S
  unfold r31 at hr
  refine S.goB [] 1000 ?_
  simp (maxSteps := 10000000) only [go_sem, tb31_59, T59, T31, Option.map_some, Int.reduceToNat, Nat.reduceEqDiff, Nat.reduceLT, Nat.reduceAdd, Nat.reduceMul, Nat.reduceSub, Nat.reduceLeDiff, reduceIte, reduceCtorEq, Try.results31]
  obtain ⟨v1, hv1, hr⟩ := of_bind0 hr
  obtain ⟨hg2, hr⟩ := of_guard0 hr
  obtain ⟨hg3, hr⟩ := of_guard0 hr
  try simp only [hv1, Option.getD_some, Option.isSome_some, true_and, and_assoc]
  repeat (first | refine gG hg2 ?_ | refine gG hg3 ?_ | refine gA ?_ | refine gB ?_)
  refine ⟨fun hc => ?_, fun hc => ?_⟩
  · replace hr := ifP hr hc
    repeat refine gA ?_
    obtain rfl := Option.some.inj hr
    (simp (maxDischargeDepth := 8) [go_sem])
  · replace hr := ifN hr hc
    repeat refine gA ?_
    refine ⟨fun hc => ?_, fun hc => ?_⟩
    · replace hr := ifP hr hc
      repeat refine gA ?_
      obtain rfl := Option.some.inj hr
      (simp (maxDischargeDepth := 8) [go_sem])
    · replace hr := ifN hr hc
      repeat refine gA ?_
      obtain rfl := Option.some.inj hr
      (simp (maxDischargeDepth := 8) [go_sem])
theorem f31 : FnFact Try.prog 31 T31.sp := ⟨⟨Try.f31, Try.func31, by decide, rfl⟩, v31⟩

/- martensite/martensiteref03.FlowsErr -/
def b33_1 (a0 : List (Int)) : (Int) → Ctl (Int) (Int) := fun s1 =>
  if (decide (s1 < (a0.length : Int))) = true then
   if 0 ≤ s1 ∧ s1 < (a0.length : Int) then
    bindC (r59 (a0.getD s1.toNat default) 0 1000) fun v1 =>
     if (!v1) = true then
      .out (some 2)
      else .next (IntKind.i64.wrap (s1 + 1))
    else .out none
   else .out (some 0)
def r33 (a0 : List (Int)) : Option (Int) :=
  if (decide ((a0.length : Int) > 200)) = true then
   some 8
   else iterC (b33_1 a0) 1000000000 0
def T33 : TSpec ((List (Int))) where
  enc x := [.c (encF 1 d_I x)]
  dec a := decF g_I (aCell a 0 0)
  pre x := (r33 x).isSome = true
  res x := [.c (.d (.int .i64 ((r33 x).getD default)))]
  al := false
def tb33 : Fns := lk [(59, T59.sp)]
theorem tb33_ok : FnsOk Try.prog tb33 := .cons f59 (FnsOk.nil)
theorem tb33_59 : tb33 59 = some T59.sp := rfl
theorem v33 : Valid Try.prog 33 T33.sp := by
  refine valid_t (fn := Try.f33) (n := 19) ty_ok tb33_ok Try.func33 rfl Try.ntmps33 ?_
  rintro a0 hx
  obtain ⟨r, hr⟩ := Option.isSome_iff_exists.1 (show (r33 a0).isSome = true from hx)
  have hres : T33.res a0 = [.c (.d (.int .i64 r))] := by simp only [T33, hr, Option.getD_some]
  refine ⟨Nat.le_of_ble_eq_true rfl, fun stop S => ?_⟩
  rw [hres] at S
  unfold r33 at hr
  refine S.goB [] 1000 ?_
  simp (maxSteps := 10000000) only [go_sem, tb33_59, T59, T33, Option.map_some, Int.reduceToNat, Nat.reduceEqDiff, Nat.reduceLT, Nat.reduceAdd, Nat.reduceMul, Nat.reduceSub, Nat.reduceLeDiff, reduceIte, reduceCtorEq, Try.results33]
  repeat refine gA ?_
  refine ⟨fun hc => ?_, fun hc => ?_⟩
  · replace hr := ifP hr hc
    repeat refine gA ?_
    obtain rfl := Option.some.inj hr
    (simp (maxDischargeDepth := 8) [go_sem])
  · replace hr := ifN hr hc
    repeat refine gA ?_
    refine S.sees [0, 3] [] [] ?_ (Stop.iter S (fun s1 => ⟨[(0, .c (.d (encF 1 d_I a0))), (3, .c (.d (.int .i64 s1)))], [], []⟩) (b33_1 a0) (fun q => q = r) hr rfl ?_)
    · (simp (maxDischargeDepth := 8) [go_sem])
    · intro s1 hr
      unfold b33_1 at hr
      refine S.goB [] 1000 ?_
      simp (maxSteps := 10000000) only [go_sem, tb33_59, T59, T33, Option.map_some, Int.reduceToNat, Nat.reduceEqDiff, Nat.reduceLT, Nat.reduceAdd, Nat.reduceMul, Nat.reduceSub, Nat.reduceLeDiff, reduceIte, reduceCtorEq, Try.results33]
      repeat refine gA ?_
      refine ⟨fun hc => ?_, fun hc => ?_⟩
      · replace hr := ifP1 hr hc
        obtain ⟨hg2, hr⟩ := of_guard1 hr
        obtain ⟨v1, hv1, hr⟩ := of_bind1 hr
        try simp only [hv1, Option.getD_some, Option.isSome_some, true_and, and_assoc]
        repeat refine gA ?_
        refine ⟨fun hc => ?_, fun hc => ?_⟩
        · replace hr := ifP1 hr hc
          repeat refine gA ?_
          have hr := of_out0 hr
          obtain rfl := Option.some.inj hr
          (simp (maxDischargeDepth := 8) [go_sem])
        · replace hr := ifN1 hr hc
          repeat refine gA ?_
          refine S.sees [0, 3] [] [] ?_ hr
          (simp (maxDischargeDepth := 8) [go_sem])
      · replace hr := ifN1 hr hc
        repeat refine gA ?_
        have hr := of_out0 hr
        repeat refine gA ?_
        obtain rfl := Option.some.inj hr
        (simp (maxDischargeDepth := 8) [go_sem])
theorem f33 : FnFact Try.prog 33 T33.sp := ⟨⟨Try.f33, Try.func33, by decide, rfl⟩, v33⟩

/- martensite/martensiteref03.Water -/
def b35_1 (a0_1 : Int) (a1 : List (Int)) : ((List (Int)) × Int × Int) → Ctl ((List (Int)) × Int × Int) ((List (Int))) := fun s1 =>
  if (decide (s1.2.2 < (a1.length : Int))) = true then
   if 0 ≤ s1.2.2 ∧ s1.2.2 < (a1.length : Int) then
    if (s1.1.length + 1) * 8 ≤ 140737488355328 ∧ s1.1.length + 1 ≤ 9223372036854775807 then
     .next (s1.1 ++ [IntKind.i64.wrap ((IntKind.i64.wrap (s1.2.1 - (IntKind.i64.wrap ((IntKind.i64.wrap (s1.2.1 * (a1.getD s1.2.2.toNat default))).tdiv 1000)))) + a0_1)], IntKind.i64.wrap ((IntKind.i64.wrap (s1.2.1 - (IntKind.i64.wrap ((IntKind.i64.wrap (s1.2.1 * (a1.getD s1.2.2.toNat default))).tdiv 1000)))) + a0_1), IntKind.i64.wrap (s1.2.2 + 1))
     else .out none
    else .out none
   else .out (some s1.1)
def r35 (a0_0 : Int) (a0_1 : Int) (a0_2 : Int) (a1 : List (Int)) : Option ((List (Int))) :=
  iterC (b35_1 a0_1 a1) 1000000000 ([], a0_0, 0)
def T35 : TSpec (Int × Int × Int × (List (Int))) where
  enc x := [.agg [.int .i64 x.1, .int .i64 x.2.1, .int .i64 x.2.2.1], .c (encF 1 d_I x.2.2.2)]
  dec a := (dInt (aCell a 0 0), dInt (aCell a 0 1), dInt (aCell a 0 2), decF g_I (aCell a 1 0))
  pre x := (r35 x.1 x.2.1 x.2.2.1 x.2.2.2).isSome = true
  res x := [.c (.own (encF 1 d_I ((r35 x.1 x.2.1 x.2.2.1 x.2.2.2).getD default)))]
  al := false
def tb35 : Fns := lk []
theorem tb35_ok : FnsOk Try.prog tb35 := FnsOk.nil
theorem v35 : Valid Try.prog 35 T35.sp := by
  refine valid_t (fn := Try.f35) (n := 33) ty_ok tb35_ok Try.func35 rfl Try.ntmps35 ?_
  rintro ⟨a0_0, a0_1, a0_2, a1⟩ hx
  obtain ⟨r, hr⟩ := Option.isSome_iff_exists.1 (show (r35 a0_0 a0_1 a0_2 a1).isSome = true from hx)
  have hres : T35.res (a0_0, a0_1, a0_2, a1) = [.c (.own (encF 1 d_I r))] := by simp only [T35, hr, Option.getD_some]
  refine ⟨Nat.le_of_ble_eq_true rfl, fun stop S => ?_⟩
  rw [hres] at S
  unfold r35 at hr
  refine S.goB [] 1000 ?_
  simp (maxSteps := 10000000) only [go_sem, T35, Option.map_some, Int.reduceToNat, Nat.reduceEqDiff, Nat.reduceLT, Nat.reduceAdd, Nat.reduceMul, Nat.reduceSub, Nat.reduceLeDiff, reduceIte, reduceCtorEq, Try.results35]
  repeat refine gA ?_
  refine S.own0 5 1000500 1 rfl rfl ?_
  refine S.sees [1, 2, 5, 6, 7] [(2, 2)] [(1000500, 1000500)] ?_ (Stop.iter S (fun s1 => ⟨[(1, .c (.d (encF 1 d_I a1))), (2, .c (.ref 2 0)), (5, .c (.own 1000500)), (6, .c (.d (.int .i64 s1.2.1))), (7, .c (.d (.int .i64 s1.2.2)))], [(2, [.d (.int .i64 a0_0), .d (.int .i64 a0_1), .d (.int .i64 a0_2)])], [(1000500, .owned (encF 1 d_I s1.1))]⟩) (b35_1 a0_1 a1) (fun q => q = r) hr rfl ?_)
  · (simp (maxDischargeDepth := 8) [go_sem])
  · intro s1 hr
    unfold b35_1 at hr
    refine S.goB [] 1000 ?_
    simp (maxSteps := 10000000) only [go_sem, T35, Option.map_some, Int.reduceToNat, Nat.reduceEqDiff, Nat.reduceLT, Nat.reduceAdd, Nat.reduceMul, Nat.reduceSub, Nat.reduceLeDiff, reduceIte, reduceCtorEq, Try.results35]
    repeat refine gA ?_
    refine ⟨fun hc => ?_, fun hc => ?_⟩
    · replace hr := ifP1 hr hc
      obtain ⟨hg1, hr⟩ := of_guard1 hr
      obtain ⟨hg2, hr⟩ := of_guard1 hr
      repeat refine gA ?_
      refine S.sees [1, 2, 5, 6, 7] [(2, 2)] [(31, 1000500)] ?_ hr
      (simp (maxDischargeDepth := 8) [go_sem])
    · replace hr := ifN1 hr hc
      repeat refine gA ?_
      have hr := of_out0 hr
      repeat refine gA ?_
      obtain rfl := Option.some.inj hr
      (simp (maxDischargeDepth := 8) [go_sem])
theorem f35 : FnFact Try.prog 35 T35.sp := ⟨⟨Try.f35, Try.func35, by decide, rfl⟩, v35⟩

/- martensite/martensiteref03.RangesErr -/
def b36_1 (a0 : List (Int × Int)) : (Int) → Ctl (Int) (Int) := fun s1 =>
  if (decide (s1 < (a0.length : Int))) = true then
   if 0 ≤ s1 ∧ s1 < (a0.length : Int) then
    bindC (r59 ((a0.getD s1.toNat default).1) 0 1000) fun v1 =>
     if (!(!v1)) = true → 0 ≤ s1 ∧ s1 < (a0.length : Int) then
      if (!(!v1)) = true → (r59 ((a0.getD s1.toNat default).2) 0 1000).isSome = true then
       if ((!v1) || (!((r59 ((a0.getD s1.toNat default).2) 0 1000).getD default))) = true then
        .out (some 2)
        else if 0 ≤ s1 ∧ s1 < (a0.length : Int) then
         if 0 ≤ s1 ∧ s1 < (a0.length : Int) then
          if (decide (((a0.getD s1.toNat default).1) > ((a0.getD s1.toNat default).2))) = true then
           .out (some 9)
           else .next (IntKind.i64.wrap (s1 + 1))
          else .out none
         else .out none
       else .out none
      else .out none
    else .out none
   else .out (some 0)
def r36 (a0 : List (Int × Int)) : Option (Int) :=
  if (decide ((a0.length : Int) > 200)) = true then
   some 8
   else iterC (b36_1 a0) 1000000000 0
def T36 : TSpec ((List (Int × Int))) where
  enc x := [.c (encF 2 d_II x)]
  dec a := decF g_II (aCell a 0 0)
  pre x := (r36 x).isSome = true
  res x := [.c (.d (.int .i64 ((r36 x).getD default)))]
  al := false
def tb36 : Fns := lk [(59, T59.sp)]
theorem tb36_ok : FnsOk Try.prog tb36 := .cons f59 (FnsOk.nil)
theorem tb36_59 : tb36 59 = some T59.sp := rfl
theorem v36 : Valid Try.prog 36 T36.sp := by
  refine valid_t (fn := Try.f36) (n := 40) ty_ok tb36_ok Try.func36 rfl Try.ntmps36 ?_
  rintro a0 hx
  obtain ⟨r, hr⟩ := Option.isSome_iff_exists.1 (show (r36 a0).isSome = true from hx)
  have hres : T36.res a0 = [.c (.d (.int .i64 r))] := by simp only [T36, hr, Option.getD_some]
  refine ⟨Nat.le_of_ble_eq_true rfl, fun stop S => ?_⟩
  rw [hres] at S
  unfold r36 at hr
  refine S.goB [] 1000 ?_
  simp (maxSteps := 10000000) only [go_sem, tb36_59, T59, T36, Option.map_some, Int.reduceToNat, Nat.reduceEqDiff, Nat.reduceLT, Nat.reduceAdd, Nat.reduceMul, Nat.reduceSub, Nat.reduceLeDiff, reduceIte, reduceCtorEq, Try.results36]
  repeat refine gA ?_
  refine ⟨fun hc => ?_, fun hc => ?_⟩
  · replace hr := ifP hr hc
    repeat refine gA ?_
    obtain rfl := Option.some.inj hr
    (simp (maxDischargeDepth := 8) [go_sem])
  · replace hr := ifN hr hc
    repeat refine gA ?_
    refine S.sees [0, 3] [] [] ?_ (Stop.iter S (fun s1 => ⟨[(0, .c (.d (encF 2 d_II a0))), (3, .c (.d (.int .i64 s1)))], [], []⟩) (b36_1 a0) (fun q => q = r) hr rfl ?_)
    · (simp (maxDischargeDepth := 8) [go_sem])
    · intro s1 hr
      unfold b36_1 at hr
      refine S.goB [] 1000 ?_
      simp (maxSteps := 10000000) only [go_sem, tb36_59, T59, T36, Option.map_some, Int.reduceToNat, Nat.reduceEqDiff, Nat.reduceLT, Nat.reduceAdd, Nat.reduceMul, Nat.reduceSub, Nat.reduceLeDiff, reduceIte, reduceCtorEq, Try.results36]
      repeat refine gA ?_
      refine ⟨fun hc => ?_, fun hc => ?_⟩
      · replace hr := ifP1 hr hc
        obtain ⟨hg4, hr⟩ := of_guard1 hr
        obtain ⟨v1, hv1, hr⟩ := of_bind1 hr
        obtain ⟨hg5, hr⟩ := of_guard1 hr
        obtain ⟨hg6, hr⟩ := of_guard1 hr
        try simp only [hv1, Option.getD_some, Option.isSome_some, true_and, and_assoc]
        repeat (first | refine gG hg5 ?_ | refine gG hg6 ?_ | refine gA ?_ | refine gB ?_)
        refine ⟨fun hc => ?_, fun hc => ?_⟩
        · replace hr := ifP1 hr hc
          repeat refine gA ?_
          have hr := of_out0 hr
          obtain rfl := Option.some.inj hr
          (simp (maxDischargeDepth := 8) [go_sem])
        · replace hr := ifN1 hr hc
          obtain ⟨hg2, hr⟩ := of_guard1 hr
          obtain ⟨hg3, hr⟩ := of_guard1 hr
          repeat refine gA ?_
          refine ⟨fun hc => ?_, fun hc => ?_⟩
          · replace hr := ifP1 hr hc
            repeat refine gA ?_
            have hr := of_out0 hr
            obtain rfl := Option.some.inj hr
            (simp (maxDischargeDepth := 8) [go_sem])
          · replace hr := ifN1 hr hc
            repeat refine gA ?_
            refine S.sees [0, 3] [] [] ?_ hr
            (simp (maxDischargeDepth := 8) [go_sem])
      · replace hr := ifN1 hr hc
        repeat refine gA ?_
        have hr := of_out0 hr
        repeat refine gA ?_
        obtain rfl := Option.some.inj hr
        (simp (maxDischargeDepth := 8) [go_sem])
theorem f36 : FnFact Try.prog 36 T36.sp := ⟨⟨Try.f36, Try.func36, by decide, rfl⟩, v36⟩

/- martensite/martensiteref03.ends -/
def b113_1 (a0 : List (Int × Int)) (a1 : Bool) : ((List (Int)) × Int) → Ctl ((List (Int)) × Int) ((List (Int))) := fun s1 =>
  if (decide (s1.2 < (a0.length : Int))) = true then
   if a1 = true then
    if 0 ≤ s1.2 ∧ s1.2 < (a0.length : Int) then
     if (s1.1.length + 1) * 8 ≤ 140737488355328 ∧ s1.1.length + 1 ≤ 9223372036854775807 then
      .next (s1.1 ++ [(a0.getD s1.2.toNat default).2], IntKind.i64.wrap (s1.2 + 1))
      else .out none
     else .out none
    else if 0 ≤ s1.2 ∧ s1.2 < (a0.length : Int) then
     if (s1.1.length + 1) * 8 ≤ 140737488355328 ∧ s1.1.length + 1 ≤ 9223372036854775807 then
      .next (s1.1 ++ [(a0.getD s1.2.toNat default).1], IntKind.i64.wrap (s1.2 + 1))
      else .out none
     else .out none
   else .out (some s1.1)
def r113 (a0 : List (Int × Int)) (a1 : Bool) : Option ((List (Int))) :=
  iterC (b113_1 a0 a1) 1000000000 ([], 0)
def T113 : TSpec ((List (Int × Int)) × Bool) where
  enc x := [.c (encF 2 d_II x.1), .c (.bool x.2)]
  dec a := (decF g_II (aCell a 0 0), dBool (aCell a 1 0))
  pre x := (r113 x.1 x.2).isSome = true
  res x := [.c (.own (encF 1 d_I ((r113 x.1 x.2).getD default)))]
  al := false
def tb113 : Fns := lk []
theorem tb113_ok : FnsOk Try.prog tb113 := FnsOk.nil
theorem v113 : Valid Try.prog 113 T113.sp := by
  refine valid_t (fn := Try.f113) (n := 31) ty_ok tb113_ok Try.func113 rfl Try.ntmps113 ?_
  rintro ⟨a0, a1⟩ hx
  obtain ⟨r, hr⟩ := Option.isSome_iff_exists.1 (show (r113 a0 a1).isSome = true from hx)
  have hres : T113.res (a0, a1) = [.c (.own (encF 1 d_I r))] := by simp only [T113, hr, Option.getD_some]
  refine ⟨Nat.le_of_ble_eq_true rfl, fun stop S => ?_⟩
  rw [hres] at S
  unfold r113 at hr
  refine S.goB [] 1000 ?_
  simp (maxSteps := 10000000) only [go_sem, T113, Option.map_some, Int.reduceToNat, Nat.reduceEqDiff, Nat.reduceLT, Nat.reduceAdd, Nat.reduceMul, Nat.reduceSub, Nat.reduceLeDiff, reduceIte, reduceCtorEq, Try.results113]
  repeat refine gA ?_
  refine S.own0 5 1000500 1 rfl rfl ?_
  refine S.sees [0, 1, 5, 6] [] [(1000500, 1000500)] ?_ (Stop.iter S (fun s1 => ⟨[(0, .c (.d (encF 2 d_II a0))), (1, .c (.d (.bool a1))), (5, .c (.own 1000500)), (6, .c (.d (.int .i64 s1.2)))], [], [(1000500, .owned (encF 1 d_I s1.1))]⟩) (b113_1 a0 a1) (fun q => q = r) hr rfl ?_)
  · (simp (maxDischargeDepth := 8) [go_sem])
  · intro s1 hr
    unfold b113_1 at hr
    refine S.goB [] 1000 ?_
    simp (maxSteps := 10000000) only [go_sem, T113, Option.map_some, Int.reduceToNat, Nat.reduceEqDiff, Nat.reduceLT, Nat.reduceAdd, Nat.reduceMul, Nat.reduceSub, Nat.reduceLeDiff, reduceIte, reduceCtorEq, Try.results113]
    repeat refine gA ?_
    refine ⟨fun hc => ?_, fun hc => ?_⟩
    · replace hr := ifP1 hr hc
      repeat refine gA ?_
      refine ⟨fun hc => ?_, fun hc => ?_⟩
      · replace hr := ifP1 hr hc
        obtain ⟨hg1, hr⟩ := of_guard1 hr
        obtain ⟨hg2, hr⟩ := of_guard1 hr
        repeat refine gA ?_
        refine S.sees [0, 1, 5, 6] [] [(21, 1000500)] ?_ hr
        (simp (maxDischargeDepth := 8) [go_sem])
      · replace hr := ifN1 hr hc
        obtain ⟨hg3, hr⟩ := of_guard1 hr
        obtain ⟨hg4, hr⟩ := of_guard1 hr
        repeat refine gA ?_
        refine S.sees [0, 1, 5, 6] [] [(29, 1000500)] ?_ hr
        (simp (maxDischargeDepth := 8) [go_sem])
    · replace hr := ifN1 hr hc
      repeat refine gA ?_
      have hr := of_out0 hr
      repeat refine gA ?_
      obtain rfl := Option.some.inj hr
      (simp (maxDischargeDepth := 8) [go_sem])
theorem f113 : FnFact Try.prog 113 T113.sp := ⟨⟨Try.f113, Try.func113, by decide, rfl⟩, v113⟩

/- martensite/martensiteref03.BoilsAt -/
def b112_1 (a0_2 : Int) (a1 : List (Int)) (v1 : (List (Int))) : (Int) → Ctl (Int) (Int) := fun s1 =>
  if (decide (s1 < (v1.length : Int))) = true then
   if 0 ≤ s1 ∧ s1 < (v1.length : Int) then
    if (decide ((v1.getD s1.toNat default) ≥ a0_2)) = true then
     .out (some (IntKind.i64.wrap (s1 + 1)))
     else .next (IntKind.i64.wrap (s1 + 1))
    else .out none
   else .out (some (IntKind.i64.wrap ((a1.length : Int) + 1)))
def r112 (a0_0 : Int) (a0_1 : Int) (a0_2 : Int) (a1 : List (Int)) : Option (Int) :=
  (r35 a0_0 a0_1 a0_2 a1).bind fun v1 =>
   iterC (b112_1 a0_2 a1 v1) 1000000000 0
def T112 : TSpec (Int × Int × Int × (List (Int))) where
  enc x := [.agg [.int .i64 x.1, .int .i64 x.2.1, .int .i64 x.2.2.1], .c (encF 1 d_I x.2.2.2)]
  dec a := (dInt (aCell a 0 0), dInt (aCell a 0 1), dInt (aCell a 0 2), decF g_I (aCell a 1 0))
  pre x := (r112 x.1 x.2.1 x.2.2.1 x.2.2.2).isSome = true
  res x := [.c (.d (.int .i64 ((r112 x.1 x.2.1 x.2.2.1 x.2.2.2).getD default)))]
  al := false
def tb112 : Fns := lk [(35, T35.sp)]
theorem tb112_ok : FnsOk Try.prog tb112 := .cons f35 (FnsOk.nil)
theorem tb112_35 : tb112 35 = some T35.sp := rfl
theorem v112 : Valid Try.prog 112 T112.sp := by
  refine valid_t (fn := Try.f112) (n := 28) ty_ok tb112_ok Try.func112 rfl Try.ntmps112 ?_
  rintro ⟨a0_0, a0_1, a0_2, a1⟩ hx
  obtain ⟨r, hr⟩ := Option.isSome_iff_exists.1 (show (r112 a0_0 a0_1 a0_2 a1).isSome = true from hx)
  have hres : T112.res (a0_0, a0_1, a0_2, a1) = [.c (.d (.int .i64 r))] := by simp only [T112, hr, Option.getD_some]
  refine ⟨Nat.le_of_ble_eq_true rfl, fun stop S => ?_⟩
  rw [hres] at S
  unfold r112 at hr
  refine S.goB [] 1000 ?_
  simp (maxSteps := 10000000) only [go_sem, tb112_35, T35, T112, Option.map_some, Int.reduceToNat, Nat.reduceEqDiff, Nat.reduceLT, Nat.reduceAdd, Nat.reduceMul, Nat.reduceSub, Nat.reduceLeDiff, reduceIte, reduceCtorEq, Try.results112]
  obtain ⟨v1, hv1, hr⟩ := of_bind0 hr
  try simp only [hv1, Option.getD_some, Option.isSome_some, true_and, and_assoc]
  repeat refine gA ?_
  refine S.sees [1, 2, 5, 6] [(2, 2)] [(9, 9)] ?_ (Stop.iter S (fun s1 => ⟨[(1, .c (.d (encF 1 d_I a1))), (2, .c (.ref 2 0)), (5, .c (.own 9)), (6, .c (.d (.int .i64 s1)))], [(2, [.d (.int .i64 a0_0), .d (.int .i64 a0_1), .d (.int .i64 a0_2)])], [(9, .owned (encF 1 d_I v1))]⟩) (b112_1 a0_2 a1 v1) (fun q => q = r) hr rfl ?_)
  · (simp (maxDischargeDepth := 8) [go_sem])
  · intro s1 hr
    unfold b112_1 at hr
    refine S.goB [] 1000 ?_
    simp (maxSteps := 10000000) only [go_sem, tb112_35, T35, T112, Option.map_some, Int.reduceToNat, Nat.reduceEqDiff, Nat.reduceLT, Nat.reduceAdd, Nat.reduceMul, Nat.reduceSub, Nat.reduceLeDiff, reduceIte, reduceCtorEq, Try.results112]
    repeat refine gA ?_
    refine ⟨fun hc => ?_, fun hc => ?_⟩
    · replace hr := ifP1 hr hc
      obtain ⟨hg2, hr⟩ := of_guard1 hr
      repeat refine gA ?_
      refine ⟨fun hc => ?_, fun hc => ?_⟩
      · replace hr := ifP1 hr hc
        repeat refine gA ?_
        have hr := of_out0 hr
        obtain rfl := Option.some.inj hr
        (simp (maxDischargeDepth := 8) [go_sem])
      · replace hr := ifN1 hr hc
        repeat refine gA ?_
        refine S.sees [1, 2, 5, 6] [(2, 2)] [(9, 9)] ?_ hr
        (simp (maxDischargeDepth := 8) [go_sem])
    · replace hr := ifN1 hr hc
      repeat refine gA ?_
      have hr := of_out0 hr
      repeat refine gA ?_
      obtain rfl := Option.some.inj hr
      (simp (maxDischargeDepth := 8) [go_sem])
theorem f112 : FnFact Try.prog 112 T112.sp := ⟨⟨Try.f112, Try.func112, by decide, rfl⟩, v112⟩

/- martensite/martensiteref03.Boiling -/
def r37 (a0_0 : Int) (a0_1 : Int) (a0_2 : Int) (a1 : List (Int × Int)) : Option (Int × Int × Bool) :=
  (r113 a1 false).bind fun v1 =>
   (r112 a0_0 a0_1 a0_2 v1).bind fun v2 =>
    (r113 a1 true).bind fun v3 =>
     (r112 a0_0 a0_1 a0_2 v3).bind fun v4 =>
      some (v2, v4, decide (v2 ≤ (a1.length : Int)))
def T37 : TSpec (Int × Int × Int × (List (Int × Int))) where
  enc x := [.agg [.int .i64 x.1, .int .i64 x.2.1, .int .i64 x.2.2.1], .c (encF 2 d_II x.2.2.2)]
  dec a := (dInt (aCell a 0 0), dInt (aCell a 0 1), dInt (aCell a 0 2), decF g_II (aCell a 1 0))
  pre x := (r37 x.1 x.2.1 x.2.2.1 x.2.2.2).isSome = true
  res x := [.agg [.d (.int .i64 (((r37 x.1 x.2.1 x.2.2.1 x.2.2.2).getD default).1)), .d (.int .i64 (((r37 x.1 x.2.1 x.2.2.1 x.2.2.2).getD default).2.1))], .c (.d (.bool (((r37 x.1 x.2.1 x.2.2.1 x.2.2.2).getD default).2.2)))]
  al := false
def tb37 : Fns := lk [(112, T112.sp), (113, T113.sp)]
theorem tb37_ok : FnsOk Try.prog tb37 := .cons f112 (.cons f113 (FnsOk.nil))
theorem tb37_112 : tb37 112 = some T112.sp := rfl
theorem tb37_113 : tb37 113 = some T113.sp := rfl
theorem v37 : Valid Try.prog 37 T37.sp := by
  refine valid_t (fn := Try.f37) (n := 22) ty_ok tb37_ok Try.func37 rfl Try.ntmps37 ?_
  rintro ⟨a0_0, a0_1, a0_2, a1⟩ hx
  obtain ⟨r, hr⟩ := Option.isSome_iff_exists.1 (show (r37 a0_0 a0_1 a0_2 a1).isSome = true from hx)
  have hres : T37.res (a0_0, a0_1, a0_2, a1) = [.agg [.d (.int .i64 r.1), .d (.int .i64 r.2.1)], .c (.d (.bool r.2.2))] := by simp only [T37, hr, Option.getD_some]
  refine ⟨Nat.le_of_ble_eq_true rfl, fun stop S => ?_⟩
  rw [hres] at S
  unfold r37 at hr
  refine S.goB [] 1000 ?_
  simp (maxSteps := 10000000) only [go_sem, tb37_112, T112, tb37_113, T113, T37, Option.map_some, Int.reduceToNat, Nat.reduceEqDiff, Nat.reduceLT, Nat.reduceAdd, Nat.reduceMul, Nat.reduceSub, Nat.reduceLeDiff, reduceIte, reduceCtorEq, Try.results37]
  obtain ⟨v1, hv1, hr⟩ := of_bind0 hr
  obtain ⟨v2, hv2, hr⟩ := of_bind0 hr
  obtain ⟨v3, hv3, hr⟩ := of_bind0 hr
  obtain ⟨v4, hv4, hr⟩ := of_bind0 hr
  try simp only [hv1, hv2, hv3, hv4, Option.getD_some, Option.isSome_some, true_and, and_assoc]
  repeat refine gA ?_
  obtain rfl := Option.some.inj hr
  (simp (maxDischargeDepth := 8) [go_sem])
theorem f37 : FnFact Try.prog 37 T37.sp := ⟨⟨Try.f37, Try.func37, by decide, rfl⟩, v37⟩
end Go.Proofs.Ytcbiiijnaeibhaa

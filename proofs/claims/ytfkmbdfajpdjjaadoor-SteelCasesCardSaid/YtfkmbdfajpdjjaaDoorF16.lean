/- Contracts of functions, written by wip/dec. -/
import Derived.Test.YtfkmbdfajpdjjaaDoorF00
import Derived.Test.YtfkmbdfajpdjjaaDoorF06
set_option linter.unusedVariables false
set_option linter.unusedSimpArgs false
set_option maxHeartbeats 4000000
set_option maxRecDepth 20000
namespace Go.Proofs.YtfkmbdfajpdjjaaDoor
open Go.Abs
/- martensite/martensiteref04.CopyRanges -/
def r26 (a0 : List (Int × Int)) : Option ((List (Int × Int))) :=
  if (0 + a0.length) * 16 ≤ 140737488355328 ∧ 0 + a0.length ≤ 9223372036854775807 then
   some a0
   else none
def T26 : TSpec ((List (Int × Int))) where
  enc := fun x => [.c (encF 2 d_II x)]
  dec a := decF g_II (aCell a 0 0)
  pre := fun x => (r26 x).isSome = true
  res := fun x => [.c (.own (encF 2 d_II ((r26 x).getD default)))]
  al := false
theorem TP26 (c0 : D) : T26.sp.pre [.c c0] = (eqvArgs [.c c0] [.c (encF 2 d_II (decF g_II c0))] ∧ (r26 (decF g_II c0)).isSome = true) := (rfl)
theorem TR26 (c0 : D) : T26.sp.res [.c c0] = [.c (.own (encF 2 d_II ((r26 (decF g_II c0)).getD default)))] := (rfl)
theorem TA26 : T26.sp.alias = false := (rfl)
def tb26 : Fns := lk []
theorem tb26_ok : FnsOk Tryd.prog tb26 := FnsOk.nil
theorem v26 : Valid Tryd.prog 26 T26.sp := by
  refine valid_t (fn := Tryd.f26) (n := 6) ty_ok tb26_ok Tryd.func26 rfl Tryd.ntmps26 ?_
  rintro a0 hx
  obtain ⟨r, hr⟩ := Option.isSome_iff_exists.1 (show (r26 a0).isSome = true from hx)
  have hres : T26.res a0 = [.c (.own (encF 2 d_II r))] := by simp only [T26, hr, Option.getD_some]
  refine ⟨Nat.le_of_ble_eq_true rfl, fun stop S => ?_⟩
  rw [hres] at S
  unfold r26 at hr
  refine S.goB [] 1000 ?_
  simp (maxSteps := 10000000) only [go_sem, T26, Bool.not_true, Bool.not_false, Option.map_some, Int.reduceToNat, Nat.reduceEqDiff, Nat.reduceLT, Nat.reduceAdd, Nat.reduceMul, Nat.reduceSub, Nat.reduceLeDiff, reduceIte, reduceCtorEq, Tryd.results26]
  obtain ⟨hg1, hr⟩ := of_guard0 hr
  repeat refine gA ?_
  obtain rfl := Option.some.inj hr
  (simp (maxDischargeDepth := 8) [go_sem, -List.drop_one])
theorem f26 : FnFact Tryd.prog 26 T26.sp := ⟨⟨Tryd.f26, Tryd.func26, by decide, rfl⟩, v26⟩

/- martensite/martensiteref04.HardErr -/
def r83 (a0_0 : Int) (a0_1 : Int) : Option (Int) :=
  (r29 a0_0 0 2000).bind fun v1 =>
   if (!(!v1)) = true → (r29 a0_1 0 2000).isSome = true then
    if ((!v1) || (!((r29 a0_1 0 2000).getD default))) = true then
     some 2
     else if (decide (a0_0 > a0_1)) = true then
      some 9
      else some 0
    else none
def T83 : TSpec (Int × Int) where
  enc := fun ⟨a0_0, a0_1⟩ => [.agg [.int .i64 a0_0, .int .i64 a0_1]]
  dec a := (dInt (aCell a 0 0), dInt (aCell a 0 1))
  pre := fun ⟨a0_0, a0_1⟩ => (r83 a0_0 a0_1).isSome = true
  res := fun ⟨a0_0, a0_1⟩ => [.c (.d (.int .i64 ((r83 a0_0 a0_1).getD default)))]
  al := false
theorem TP83 (c0 c1 : D) : T83.sp.pre [.agg [c0, c1]] = (eqvArgs [.agg [c0, c1]] [.agg [.int .i64 (dInt c0), .int .i64 (dInt c1)]] ∧ (r83 (dInt c0) (dInt c1)).isSome = true) := (rfl)
theorem TR83 (c0 c1 : D) : T83.sp.res [.agg [c0, c1]] = [.c (.d (.int .i64 ((r83 (dInt c0) (dInt c1)).getD default)))] := (rfl)
theorem TA83 : T83.sp.alias = false := (rfl)
def tb83 : Fns := lk [(29, T29.sp)]
theorem tb83_ok : FnsOk Tryd.prog tb83 := .cons f29 (FnsOk.nil)
theorem tb83_29 : tb83 29 = some T29.sp := rfl
theorem v83 : Valid Tryd.prog 83 T83.sp := by
  refine valid_t (fn := Tryd.f83) (n := 18) ty_ok tb83_ok Tryd.func83 rfl Tryd.ntmps83 ?_
  rintro ⟨a0_0, a0_1⟩ hx
  obtain ⟨r, hr⟩ := Option.isSome_iff_exists.1 (show (r83 a0_0 a0_1).isSome = true from hx)
  have hres : T83.res (a0_0, a0_1) = [.c (.d (.int .i64 r))] := by simp only [T83, hr, Option.getD_some]
  refine ⟨Nat.le_of_ble_eq_true rfl, fun stop S => ?_⟩
  rw [hres] at S
  unfold r83 at hr
  refine S.goB [] 1000 ?_
  simp (maxSteps := 10000000) only [go_sem, tb83_29, TP29, TR29, TA29, T83, Bool.not_true, Bool.not_false, Option.map_some, Int.reduceToNat, Nat.reduceEqDiff, Nat.reduceLT, Nat.reduceAdd, Nat.reduceMul, Nat.reduceSub, Nat.reduceLeDiff, reduceIte, reduceCtorEq, Tryd.results83]
  obtain ⟨v1, hv1, hr⟩ := of_bind0 hr
  obtain ⟨hg2, hr⟩ := of_guard0 hr
  try simp only [hv1, Option.getD_some, Option.isSome_some, true_and, and_assoc]
  repeat (first | refine gG hg2 ?_ | refine gA ?_ | refine gB ?_)
  refine ⟨fun hc => ?_, fun hc => ?_⟩
  · replace hr := ifP hr hc
    repeat refine gA ?_
    obtain rfl := Option.some.inj hr
    (simp (maxDischargeDepth := 8) [go_sem, -List.drop_one])
  · replace hr := ifN hr hc
    repeat refine gA ?_
    refine ⟨fun hc => ?_, fun hc => ?_⟩
    · replace hr := ifP hr hc
      repeat refine gA ?_
      obtain rfl := Option.some.inj hr
      (simp (maxDischargeDepth := 8) [go_sem, -List.drop_one])
    · replace hr := ifN hr hc
      repeat refine gA ?_
      obtain rfl := Option.some.inj hr
      (simp (maxDischargeDepth := 8) [go_sem, -List.drop_one])
theorem f83 : FnFact Tryd.prog 83 T83.sp := ⟨⟨Tryd.f83, Tryd.func83, by decide, rfl⟩, v83⟩

/- martensite/martensiteref04.CaseErr -/
def b27_1 (a0 : List (Int × Int)) (a1 : Int) : (Int) → Ctl (Int) (Int) := fun s1 =>
  if (decide (s1 < (a0.length : Int))) = true then
   if 0 ≤ s1 ∧ s1 < (a0.length : Int) then
    bindC (r83 ((a0.getD s1.toNat default).1) ((a0.getD s1.toNat default).2)) fun v1 =>
     if (v1 != 0) = true then
      .out (some v1)
      else .next (IntKind.i64.wrap (s1 + 1))
    else .out none
   else .out ((r29 a1 0 2000).bind fun v3 =>
    if (!v3) = true then
     some 2
     else some 0)
def r27 (a0 : List (Int × Int)) (a1 : Int) : Option (Int) :=
  if (decide ((a0.length : Int) > 12)) = true then
   some 8
   else iterC (b27_1 a0 a1) 1000000000 0
def T27 : TSpec ((List (Int × Int)) × Int) where
  enc := fun ⟨a0, a1⟩ => [.c (encF 2 d_II a0), .c (.int .i64 a1)]
  dec a := (decF g_II (aCell a 0 0), dInt (aCell a 1 0))
  pre := fun ⟨a0, a1⟩ => (r27 a0 a1).isSome = true
  res := fun ⟨a0, a1⟩ => [.c (.d (.int .i64 ((r27 a0 a1).getD default)))]
  al := false
theorem TP27 (c0 c1 : D) : T27.sp.pre [.c c0, .c c1] = (eqvArgs [.c c0, .c c1] [.c (encF 2 d_II (decF g_II c0)), .c (.int .i64 (dInt c1))] ∧ (r27 (decF g_II c0) (dInt c1)).isSome = true) := (rfl)
theorem TR27 (c0 c1 : D) : T27.sp.res [.c c0, .c c1] = [.c (.d (.int .i64 ((r27 (decF g_II c0) (dInt c1)).getD default)))] := (rfl)
theorem TA27 : T27.sp.alias = false := (rfl)
def tb27 : Fns := lk [(29, T29.sp), (83, T83.sp)]
theorem tb27_ok : FnsOk Tryd.prog tb27 := .cons f29 (.cons f83 (FnsOk.nil))
theorem tb27_29 : tb27 29 = some T29.sp := rfl
theorem tb27_83 : tb27 83 = some T83.sp := rfl
theorem v27 : Valid Tryd.prog 27 T27.sp := by
  refine valid_t (fn := Tryd.f27) (n := 27) ty_ok tb27_ok Tryd.func27 rfl Tryd.ntmps27 ?_
  rintro ⟨a0, a1⟩ hx
  obtain ⟨r, hr⟩ := Option.isSome_iff_exists.1 (show (r27 a0 a1).isSome = true from hx)
  have hres : T27.res (a0, a1) = [.c (.d (.int .i64 r))] := by simp only [T27, hr, Option.getD_some]
  refine ⟨Nat.le_of_ble_eq_true rfl, fun stop S => ?_⟩
  rw [hres] at S
  unfold r27 at hr
  refine S.goB [] 1000 ?_
  simp (maxSteps := 10000000) only [go_sem, tb27_29, TP29, TR29, TA29, tb27_83, TP83, TR83, TA83, T27, Bool.not_true, Bool.not_false, Option.map_some, Int.reduceToNat, Nat.reduceEqDiff, Nat.reduceLT, Nat.reduceAdd, Nat.reduceMul, Nat.reduceSub, Nat.reduceLeDiff, reduceIte, reduceCtorEq, Tryd.results27]
  repeat refine gA ?_
  refine ⟨fun hc => ?_, fun hc => ?_⟩
  · replace hr := ifP hr hc
    repeat refine gA ?_
    obtain rfl := Option.some.inj hr
    (simp (maxDischargeDepth := 8) [go_sem, -List.drop_one])
  · replace hr := ifN hr hc
    repeat refine gA ?_
    refine S.sees [0, 1, 5] [] [] ?_ (Stop.iter S (fun s1 => ⟨[(0, .c (.d (encF 2 d_II a0))), (1, .c (.d (.int .i64 a1))), (5, .c (.d (.int .i64 s1)))], [], []⟩) (b27_1 a0 a1) (fun q => q = r) hr rfl ?_)
    · (simp (maxDischargeDepth := 8) [go_sem, -List.drop_one])
    · intro s1 hr
      unfold b27_1 at hr
      refine S.goB [] 1000 ?_
      simp (maxSteps := 10000000) only [go_sem, tb27_29, TP29, TR29, TA29, tb27_83, TP83, TR83, TA83, T27, Bool.not_true, Bool.not_false, Option.map_some, Int.reduceToNat, Nat.reduceEqDiff, Nat.reduceLT, Nat.reduceAdd, Nat.reduceMul, Nat.reduceSub, Nat.reduceLeDiff, reduceIte, reduceCtorEq, Tryd.results27]
      repeat refine gA ?_
      refine ⟨fun hc => ?_, fun hc => ?_⟩
      · replace hr := ifP1 hr hc
        obtain ⟨hg2, hr⟩ := of_guard1 hr
        obtain ⟨v1, hv1, hr⟩ := of_bind1 hr
        try simp only [hv1, Option.getD_some, Option.isSome_some, true_and, and_assoc]
        repeat refine gA ?_
        refine ⟨fun hc => ?_, fun hc => ?_⟩
        · replace hr := ifP1 hr hc
          repeat refine gA ?_
          have hr := of_out0 hr
          obtain rfl := Option.some.inj hr
          (simp (maxDischargeDepth := 8) [go_sem, -List.drop_one])
        · replace hr := ifN1 hr hc
          repeat refine gA ?_
          refine S.sees [0, 1, 5] [] [] ?_ hr
          (simp (maxDischargeDepth := 8) [go_sem, -List.drop_one])
      · replace hr := ifN1 hr hc
        repeat refine gA ?_
        have hr := of_out0 hr
        obtain ⟨v3, hv3, hr⟩ := of_bind0 hr
        try simp only [hv3, Option.getD_some, Option.isSome_some, true_and, and_assoc]
        repeat refine gA ?_
        refine ⟨fun hc => ?_, fun hc => ?_⟩
        · replace hr := ifP hr hc
          repeat refine gA ?_
          obtain rfl := Option.some.inj hr
          (simp (maxDischargeDepth := 8) [go_sem, -List.drop_one])
        · replace hr := ifN hr hc
          repeat refine gA ?_
          obtain rfl := Option.some.inj hr
          (simp (maxDischargeDepth := 8) [go_sem, -List.drop_one])
theorem f27 : FnFact Tryd.prog 27 T27.sp := ⟨⟨Tryd.f27, Tryd.func27, by decide, rfl⟩, v27⟩

/- martensite/martensiteref04.Case -/
def b28_2 (a0 : List (Int × Int)) (a1 : Int) (s1 : Int) : (Int) → Ctl (Int) (Int × Int) := fun s2 =>
  if (decide (s2 < (a0.length : Int))) = true → 0 ≤ s2 ∧ s2 < (a0.length : Int) then
   if ((decide (s2 < (a0.length : Int))) && (decide (((a0.getD s2.toNat default).2) ≥ a1))) = true then
    .next (IntKind.i64.wrap (s2 + 1))
    else .out (some (s1, s2))
   else .out none
def b28_1 (a0 : List (Int × Int)) (a1 : Int) : (Int) → Ctl (Int) (Int × Int) := fun s1 =>
  if (decide (s1 < (a0.length : Int))) = true → 0 ≤ s1 ∧ s1 < (a0.length : Int) then
   if ((decide (s1 < (a0.length : Int))) && (decide (((a0.getD s1.toNat default).1) ≥ a1))) = true then
    .next (IntKind.i64.wrap (s1 + 1))
    else .out (iterC (b28_2 a0 a1 s1) 1000000000 0)
   else .out none
def r28 (a0 : List (Int × Int)) (a1 : Int) : Option (Int × Int) :=
  iterC (b28_1 a0 a1) 1000000000 0
def T28 : TSpec ((List (Int × Int)) × Int) where
  enc := fun ⟨a0, a1⟩ => [.c (encF 2 d_II a0), .c (.int .i64 a1)]
  dec a := (decF g_II (aCell a 0 0), dInt (aCell a 1 0))
  pre := fun ⟨a0, a1⟩ => (r28 a0 a1).isSome = true
  res := fun ⟨a0, a1⟩ => [.agg [.d (.int .i64 (((r28 a0 a1).getD default).1)), .d (.int .i64 (((r28 a0 a1).getD default).2))]]
  al := false
theorem TP28 (c0 c1 : D) : T28.sp.pre [.c c0, .c c1] = (eqvArgs [.c c0, .c c1] [.c (encF 2 d_II (decF g_II c0)), .c (.int .i64 (dInt c1))] ∧ (r28 (decF g_II c0) (dInt c1)).isSome = true) := (rfl)
theorem TR28 (c0 c1 : D) : T28.sp.res [.c c0, .c c1] = [.agg [.d (.int .i64 (((r28 (decF g_II c0) (dInt c1)).getD default).1)), .d (.int .i64 (((r28 (decF g_II c0) (dInt c1)).getD default).2))]] := (rfl)
theorem TA28 : T28.sp.alias = false := (rfl)
def tb28 : Fns := lk []
theorem tb28_ok : FnsOk Tryd.prog tb28 := FnsOk.nil
theorem v28 : Valid Tryd.prog 28 T28.sp := by
  refine valid_t (fn := Tryd.f28) (n := 40) ty_ok tb28_ok Tryd.func28 rfl Tryd.ntmps28 ?_
  rintro ⟨a0, a1⟩ hx
  obtain ⟨r, hr⟩ := Option.isSome_iff_exists.1 (show (r28 a0 a1).isSome = true from hx)
  have hres : T28.res (a0, a1) = [.agg [.d (.int .i64 r.1), .d (.int .i64 r.2)]] := by simp only [T28, hr, Option.getD_some]
  refine ⟨Nat.le_of_ble_eq_true rfl, fun stop S => ?_⟩
  rw [hres] at S
  unfold r28 at hr
  refine S.goB [] 1000 ?_
  simp (maxSteps := 10000000) only [go_sem, T28, Bool.not_true, Bool.not_false, Option.map_some, Int.reduceToNat, Nat.reduceEqDiff, Nat.reduceLT, Nat.reduceAdd, Nat.reduceMul, Nat.reduceSub, Nat.reduceLeDiff, reduceIte, reduceCtorEq, Tryd.results28]
  repeat refine gA ?_
  refine S.sees [0, 1, 4, 5, 6] [(4, 4)] [] ?_ (Stop.iter S (fun s1 => ⟨[(0, .c (.d (encF 2 d_II a0))), (1, .c (.d (.int .i64 a1))), (4, .c (.ref 4 0)), (5, .c (.d (.int .i64 s1))), (6, .c (.d (.int .i64 0)))], [(4, [.d (.int .i64 0), .d (.int .i64 0)])], []⟩) (b28_1 a0 a1) (fun q => q = r) hr rfl ?_)
  · (simp (maxDischargeDepth := 8) [go_sem, -List.drop_one])
  · intro s1 hr
    unfold b28_1 at hr
    refine S.goB [] 1000 ?_
    simp (maxSteps := 10000000) only [go_sem, T28, Bool.not_true, Bool.not_false, Option.map_some, Int.reduceToNat, Nat.reduceEqDiff, Nat.reduceLT, Nat.reduceAdd, Nat.reduceMul, Nat.reduceSub, Nat.reduceLeDiff, reduceIte, reduceCtorEq, Tryd.results28]
    obtain ⟨hg2, hr⟩ := of_guard1 hr
    repeat (first | refine gG hg2 ?_ | refine gA ?_ | refine gB ?_)
    refine ⟨fun hc => ?_, fun hc => ?_⟩
    · replace hr := ifP1 hr hc
      repeat refine gA ?_
      refine S.sees [0, 1, 4, 5, 6] [(4, 4)] [] ?_ hr
      (simp (maxDischargeDepth := 8) [go_sem, -List.drop_one])
    · replace hr := ifN1 hr hc
      repeat refine gA ?_
      have hr := of_out0 hr
      repeat refine gA ?_
      refine S.sees [0, 1, 4, 5, 6] [(4, 4)] [] ?_ (Stop.iter S (fun s2 => ⟨[(0, .c (.d (encF 2 d_II a0))), (1, .c (.d (.int .i64 a1))), (4, .c (.ref 4 0)), (5, .c (.d (.int .i64 s1))), (6, .c (.d (.int .i64 s2)))], [(4, [.d (.int .i64 0), .d (.int .i64 0)])], []⟩) (b28_2 a0 a1 s1) (fun q => q = r) hr rfl ?_)
      · (simp (maxDischargeDepth := 8) [go_sem, -List.drop_one])
      · intro s2 hr
        unfold b28_2 at hr
        refine S.goB [] 1000 ?_
        simp (maxSteps := 10000000) only [go_sem, T28, Bool.not_true, Bool.not_false, Option.map_some, Int.reduceToNat, Nat.reduceEqDiff, Nat.reduceLT, Nat.reduceAdd, Nat.reduceMul, Nat.reduceSub, Nat.reduceLeDiff, reduceIte, reduceCtorEq, Tryd.results28]
        obtain ⟨hg1, hr⟩ := of_guard1 hr
        repeat (first | refine gG hg1 ?_ | refine gA ?_ | refine gB ?_)
        refine ⟨fun hc => ?_, fun hc => ?_⟩
        · replace hr := ifP1 hr hc
          repeat refine gA ?_
          refine S.sees [0, 1, 4, 5, 6] [(4, 4)] [] ?_ hr
          (simp (maxDischargeDepth := 8) [go_sem, -List.drop_one])
        · replace hr := ifN1 hr hc
          repeat refine gA ?_
          have hr := of_out0 hr
          repeat refine gA ?_
          obtain rfl := Option.some.inj hr
          (simp (maxDischargeDepth := 8) [go_sem, -List.drop_one])
theorem f28 : FnFact Tryd.prog 28 T28.sp := ⟨⟨Tryd.f28, Tryd.func28, by decide, rfl⟩, v28⟩
end Go.Proofs.YtfkmbdfajpdjjaaDoor

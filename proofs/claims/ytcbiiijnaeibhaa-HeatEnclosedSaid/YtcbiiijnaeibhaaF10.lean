/- Contracts of functions, written by wip/dec. -/
import Derived.Test.YtcbiiijnaeibhaaF00
import Derived.Test.YtcbiiijnaeibhaaF02
import Derived.Test.YtcbiiijnaeibhaaF06
set_option linter.unusedVariables false
set_option linter.unusedSimpArgs false
set_option maxHeartbeats 4000000
set_option maxRecDepth 20000
namespace Go.Proofs.Ytcbiiijnaeibhaa
open Go.Abs
/- martensite/martensitelaw03.Few -/
def b15_1 (a0_3 : List ((List (Int × Int)))) : (Int) → Ctl (Int) (Bool) := fun s1 =>
  if (decide (s1 < (a0_3.length : Int))) = true then
   if 0 ≤ s1 ∧ s1 < (a0_3.length : Int) then
    if (decide (((a0_3.getD s1.toNat default).length : Int) > 8)) = true then
     .out (some false)
     else .next (IntKind.i64.wrap (s1 + 1))
    else .out none
   else .out (some true)
def r15 (a0_0 : Int) (a0_1 : Int) (a0_2 : List (Int × Int)) (a0_3 : List ((List (Int × Int)))) : Option (Bool) :=
  if ((decide ((a0_2.length : Int) > 10)) || (decide ((a0_3.length : Int) > 6))) = true then
   some false
   else iterC (b15_1 a0_3) 1000000000 0
def T15 : TSpec (Int × Int × (List (Int × Int)) × (List ((List (Int × Int))))) where
  enc x := [.agg [.int .i64 x.1, .int .i64 x.2.1, encF 2 d_II x.2.2.1, encF 1 d_LIIE x.2.2.2]]
  dec a := (dInt (aCell a 0 0), dInt (aCell a 0 1), decF g_II (aCell a 0 2), decF g_LIIE (aCell a 0 3))
  pre x := (r15 x.1 x.2.1 x.2.2.1 x.2.2.2).isSome = true
  res x := [.c (.d (.bool ((r15 x.1 x.2.1 x.2.2.1 x.2.2.2).getD default)))]
  al := false
def tb15 : Fns := lk []
theorem tb15_ok : FnsOk Try.prog tb15 := FnsOk.nil
theorem v15 : Valid Try.prog 15 T15.sp := by
  refine valid_t (fn := Try.f15) (n := 28) ty_ok tb15_ok Try.func15 rfl Try.ntmps15 ?_
  rintro ⟨a0_0, a0_1, a0_2, a0_3⟩ hx
  obtain ⟨r, hr⟩ := Option.isSome_iff_exists.1 (show (r15 a0_0 a0_1 a0_2 a0_3).isSome = true from hx)
  have hres : T15.res (a0_0, a0_1, a0_2, a0_3) = [.c (.d (.bool r))] := by simp only [T15, hr, Option.getD_some]
  refine ⟨Nat.le_of_ble_eq_true rfl, fun stop S => ?_⟩
  rw [hres] at S
  unfold r15 at hr
  refine S.goB [] 1000 ?_
  simp (maxSteps := 10000000) only [go_sem, T15, Option.map_some, Int.reduceToNat, Nat.reduceEqDiff, Nat.reduceLT, Nat.reduceAdd, Nat.reduceMul, Nat.reduceSub, Nat.reduceLeDiff, reduceIte, reduceCtorEq, Try.results15]
  repeat (first | refine gA ?_ | refine gB ?_)
  refine ⟨fun hc => ?_, fun hc => ?_⟩
  · replace hr := ifP hr hc
    repeat refine gA ?_
    obtain rfl := Option.some.inj hr
    (simp (maxDischargeDepth := 8) [go_sem])
  · replace hr := ifN hr hc
    repeat refine gA ?_
    refine S.sees [1, 3] [(1, 1)] [] ?_ (Stop.iter S (fun s1 => ⟨[(1, .c (.ref 1 0)), (3, .c (.d (.int .i64 s1)))], [(1, [.d (.int .i64 a0_0), .d (.int .i64 a0_1), .d (encF 2 d_II a0_2), .d (encF 1 d_LIIE a0_3)])], []⟩) (b15_1 a0_3) (fun q => q = r) hr rfl ?_)
    · (simp (maxDischargeDepth := 8) [go_sem])
    · intro s1 hr
      unfold b15_1 at hr
      refine S.goB [] 1000 ?_
      simp (maxSteps := 10000000) only [go_sem, T15, Option.map_some, Int.reduceToNat, Nat.reduceEqDiff, Nat.reduceLT, Nat.reduceAdd, Nat.reduceMul, Nat.reduceSub, Nat.reduceLeDiff, reduceIte, reduceCtorEq, Try.results15]
      repeat refine gA ?_
      refine ⟨fun hc => ?_, fun hc => ?_⟩
      · replace hr := ifP1 hr hc
        obtain ⟨hg1, hr⟩ := of_guard1 hr
        repeat refine gA ?_
        refine ⟨fun hc => ?_, fun hc => ?_⟩
        · replace hr := ifP1 hr hc
          repeat refine gA ?_
          have hr := of_out0 hr
          obtain rfl := Option.some.inj hr
          (simp (maxDischargeDepth := 8) [go_sem])
        · replace hr := ifN1 hr hc
          repeat refine gA ?_
          refine S.sees [1, 3] [(1, 1)] [] ?_ hr
          (simp (maxDischargeDepth := 8) [go_sem])
      · replace hr := ifN1 hr hc
        repeat refine gA ?_
        have hr := of_out0 hr
        repeat refine gA ?_
        obtain rfl := Option.some.inj hr
        (simp (maxDischargeDepth := 8) [go_sem])
theorem f15 : FnFact Try.prog 15 T15.sp := ⟨⟨Try.f15, Try.func15, by decide, rfl⟩, v15⟩

/- martensite/martensitelaw03.few -/
def r16 (a0 : List (Int)) : Option (Bool) :=
  some (decide ((a0.length : Int) ≤ 14))
def T16 : TSpec ((List (Int))) where
  enc x := [.c (encF 1 d_I x)]
  dec a := decF g_I (aCell a 0 0)
  pre x := (r16 x).isSome = true
  res x := [.c (.d (.bool ((r16 x).getD default)))]
  al := false
def tb16 : Fns := lk []
theorem tb16_ok : FnsOk Try.prog tb16 := FnsOk.nil
theorem v16 : Valid Try.prog 16 T16.sp := by
  refine valid_t (fn := Try.f16) (n := 6) ty_ok tb16_ok Try.func16 rfl Try.ntmps16 ?_
  rintro a0 hx
  obtain ⟨r, hr⟩ := Option.isSome_iff_exists.1 (show (r16 a0).isSome = true from hx)
  have hres : T16.res a0 = [.c (.d (.bool r))] := by simp only [T16, hr, Option.getD_some]
  refine ⟨Nat.le_of_ble_eq_true rfl, fun stop S => ?_⟩
  rw [hres] at S
  unfold r16 at hr
  refine S.goB [] 1000 ?_
  simp (maxSteps := 10000000) only [go_sem, T16, Option.map_some, Int.reduceToNat, Nat.reduceEqDiff, Nat.reduceLT, Nat.reduceAdd, Nat.reduceMul, Nat.reduceSub, Nat.reduceLeDiff, reduceIte, reduceCtorEq, Try.results16]
  repeat refine gA ?_
  obtain rfl := Option.some.inj hr
  (simp (maxDischargeDepth := 8) [go_sem])
theorem f16 : FnFact Try.prog 16 T16.sp := ⟨⟨Try.f16, Try.func16, by decide, rfl⟩, v16⟩

/- martensite/martensiteref03.CopySetup -/
def b18_1 (a0_0 : Int) (a0_1 : Int) (a0_2 : List (Int × Int)) (a0_3 : List ((List (Int × Int)))) : (Int × (List ((List (Int × Int))))) → Ctl (Int × (List ((List (Int × Int))))) (Int × Int × (List (Int × Int)) × (List ((List (Int × Int))))) := fun s1 =>
  if (decide (s1.1 < (a0_3.length : Int))) = true then
   if 0 ≤ s1.1 ∧ s1.1 < (a0_3.length : Int) then
    if (0 + (a0_3.getD s1.1.toNat default).length) * 16 ≤ 140737488355328 ∧ 0 + (a0_3.getD s1.1.toNat default).length ≤ 9223372036854775807 then
     if (s1.2.length + 1) * 24 ≤ 140737488355328 ∧ s1.2.length + 1 ≤ 9223372036854775807 then
      .next (IntKind.i64.wrap (s1.1 + 1), s1.2 ++ [(a0_3.getD s1.1.toNat default)])
      else .out none
     else .out none
    else .out none
   else .out (some (a0_0, a0_1, a0_2, s1.2))
def r18 (a0_0 : Int) (a0_1 : Int) (a0_2 : List (Int × Int)) (a0_3 : List ((List (Int × Int)))) : Option (Int × Int × (List (Int × Int)) × (List ((List (Int × Int))))) :=
  if (0 + a0_2.length) * 16 ≤ 140737488355328 ∧ 0 + a0_2.length ≤ 9223372036854775807 then
   iterC (b18_1 a0_0 a0_1 a0_2 a0_3) 1000000000 (0, [])
   else none
def T18 : TSpec (Int × Int × (List (Int × Int)) × (List ((List (Int × Int))))) where
  enc x := [.agg [.int .i64 x.1, .int .i64 x.2.1, encF 2 d_II x.2.2.1, encF 1 d_LIIE x.2.2.2]]
  dec a := (dInt (aCell a 0 0), dInt (aCell a 0 1), decF g_II (aCell a 0 2), decF g_LIIE (aCell a 0 3))
  pre x := (r18 x.1 x.2.1 x.2.2.1 x.2.2.2).isSome = true
  res x := [.agg [.d (.int .i64 (((r18 x.1 x.2.1 x.2.2.1 x.2.2.2).getD default).1)), .d (.int .i64 (((r18 x.1 x.2.1 x.2.2.1 x.2.2.2).getD default).2.1)), .own (encF 2 d_II (((r18 x.1 x.2.1 x.2.2.1 x.2.2.2).getD default).2.2.1)), .own (encF 1 d_LIIE (((r18 x.1 x.2.1 x.2.2.1 x.2.2.2).getD default).2.2.2))]]
  al := true
def tb18 : Fns := lk []
theorem tb18_ok : FnsOk Try.prog tb18 := FnsOk.nil
theorem v18 : Valid Try.prog 18 T18.sp := by
  refine valid_t (fn := Try.f18) (n := 32) ty_ok tb18_ok Try.func18 rfl Try.ntmps18 ?_
  rintro ⟨a0_0, a0_1, a0_2, a0_3⟩ hx
  obtain ⟨r, hr⟩ := Option.isSome_iff_exists.1 (show (r18 a0_0 a0_1 a0_2 a0_3).isSome = true from hx)
  have hres : T18.res (a0_0, a0_1, a0_2, a0_3) = [.agg [.d (.int .i64 r.1), .d (.int .i64 r.2.1), .own (encF 2 d_II r.2.2.1), .own (encF 1 d_LIIE r.2.2.2)]] := by simp only [T18, hr, Option.getD_some]
  refine ⟨Nat.le_of_ble_eq_true rfl, fun stop S => ?_⟩
  rw [hres] at S
  unfold r18 at hr
  refine S.goB [] 1000 ?_
  simp (maxSteps := 10000000) only [go_sem, T18, Option.map_some, Int.reduceToNat, Nat.reduceEqDiff, Nat.reduceLT, Nat.reduceAdd, Nat.reduceMul, Nat.reduceSub, Nat.reduceLeDiff, reduceIte, reduceCtorEq, Try.results18]
  obtain ⟨hg4, hr⟩ := of_guard0 hr
  repeat refine gA ?_
  refine S.own0b 3 3 2000303 1 rfl rfl (Nat.le_of_ble_eq_true rfl) rfl ?_
  refine S.sees [1, 2, 3, 4] [(1, 1), (2, 2), (3, 3)] [(2000303, 2000303), (9, 9)] ?_ (Stop.iter S (fun s1 => ⟨[(1, .c (.ref 1 0)), (2, .c (.ref 2 0)), (3, .c (.ref 3 0)), (4, .c (.d (.int .i64 s1.1)))], [(1, [.d (.int .i64 a0_0), .d (.int .i64 a0_1), .d (encF 2 d_II a0_2), .d (encF 1 d_LIIE a0_3)]), (2, [.d (.int .i64 0), .d (.int .i64 0), .nils, .nils]), (3, [.d (.int .i64 a0_0), .d (.int .i64 a0_1), .own 9, .own 2000303])], [(2000303, .owned (encF 1 d_LIIE s1.2)), (9, .owned (encF 2 d_II a0_2))]⟩) (b18_1 a0_0 a0_1 a0_2 a0_3) (fun q => q = r) hr rfl ?_)
  · (simp (maxDischargeDepth := 8) [go_sem])
  · intro s1 hr
    unfold b18_1 at hr
    refine S.goB [] 1000 ?_
    simp (maxSteps := 10000000) only [go_sem, T18, Option.map_some, Int.reduceToNat, Nat.reduceEqDiff, Nat.reduceLT, Nat.reduceAdd, Nat.reduceMul, Nat.reduceSub, Nat.reduceLeDiff, reduceIte, reduceCtorEq, Try.results18]
    repeat refine gA ?_
    refine ⟨fun hc => ?_, fun hc => ?_⟩
    · replace hr := ifP1 hr hc
      obtain ⟨hg1, hr⟩ := of_guard1 hr
      obtain ⟨hg2, hr⟩ := of_guard1 hr
      obtain ⟨hg3, hr⟩ := of_guard1 hr
      repeat refine gA ?_
      refine S.sees [1, 2, 3, 4] [(1, 1), (2, 2), (3, 3)] [(29, 2000303), (9, 9)] ?_ hr
      (simp (maxDischargeDepth := 8) [go_sem])
    · replace hr := ifN1 hr hc
      repeat refine gA ?_
      have hr := of_out0 hr
      repeat refine gA ?_
      obtain rfl := Option.some.inj hr
      (simp (maxDischargeDepth := 8) [go_sem])
theorem f18 : FnFact Try.prog 18 T18.sp := ⟨⟨Try.f18, Try.func18, by decide, rfl⟩, v18⟩

/- martensite/heat.CheckState -/
def r25 (a0_0 : Int) (a0_1 : Int) (a0_2 : List (Int × Int)) (a0_3 : List ((List (Int × Int)))) (a1 : List (Int)) : Option (Int × Int) :=
  (r101 a0_0 a0_1 a0_2 a0_3).bind fun v1 =>
   if (v1.2.2.2.2.2.2 != 0) = true then
    some (0, v1.2.2.2.2.2.2)
    else (r102 v1.1 v1.2.1 v1.2.2.1 v1.2.2.2.1 v1.2.2.2.2.1 v1.2.2.2.2.2.1 a1).bind fun v2 =>
     some (v2.1, v2.2)
def T25 : TSpec (Int × Int × (List (Int × Int)) × (List ((List (Int × Int)))) × (List (Int))) where
  enc x := [.agg [.int .i64 x.1, .int .i64 x.2.1, encF 2 d_II x.2.2.1, encF 1 d_LIIE x.2.2.2.1], .c (encF 1 d_I x.2.2.2.2)]
  dec a := (dInt (aCell a 0 0), dInt (aCell a 0 1), decF g_II (aCell a 0 2), decF g_LIIE (aCell a 0 3), decF g_I (aCell a 1 0))
  pre x := (r25 x.1 x.2.1 x.2.2.1 x.2.2.2.1 x.2.2.2.2).isSome = true
  res x := [.c (.d (.int .i64 (((r25 x.1 x.2.1 x.2.2.1 x.2.2.2.1 x.2.2.2.2).getD default).1))), .c (.d (.int .i64 (((r25 x.1 x.2.1 x.2.2.1 x.2.2.2.1 x.2.2.2.2).getD default).2)))]
  al := false
def tb25 : Fns := lk [(101, T101.sp), (102, T102.sp)]
theorem tb25_ok : FnsOk Try.prog tb25 := .cons f101 (.cons f102 (FnsOk.nil))
theorem tb25_101 : tb25 101 = some T101.sp := rfl
theorem tb25_102 : tb25 102 = some T102.sp := rfl
theorem v25 : Valid Try.prog 25 T25.sp := by
  refine valid_t (fn := Try.f25) (n := 21) ty_ok tb25_ok Try.func25 rfl Try.ntmps25 ?_
  rintro ⟨a0_0, a0_1, a0_2, a0_3, a1⟩ hx
  obtain ⟨r, hr⟩ := Option.isSome_iff_exists.1 (show (r25 a0_0 a0_1 a0_2 a0_3 a1).isSome = true from hx)
  have hres : T25.res (a0_0, a0_1, a0_2, a0_3, a1) = [.c (.d (.int .i64 r.1)), .c (.d (.int .i64 r.2))] := by simp only [T25, hr, Option.getD_some]
  refine ⟨Nat.le_of_ble_eq_true rfl, fun stop S => ?_⟩
  rw [hres] at S
  unfold r25 at hr
  refine S.goB [] 1000 ?_
  simp (maxSteps := 10000000) only [go_sem, tb25_101, T101, tb25_102, T102, T25, Option.map_some, Int.reduceToNat, Nat.reduceEqDiff, Nat.reduceLT, Nat.reduceAdd, Nat.reduceMul, Nat.reduceSub, Nat.reduceLeDiff, reduceIte, reduceCtorEq, Try.results25]
  obtain ⟨v1, hv1, hr⟩ := of_bind0 hr
  try simp only [hv1, Option.getD_some, Option.isSome_some, true_and, and_assoc]
  repeat refine gA ?_
  refine ⟨fun hc => ?_, fun hc => ?_⟩
  · replace hr := ifP hr hc
    repeat refine gA ?_
    obtain rfl := Option.some.inj hr
    (simp (maxDischargeDepth := 8) [go_sem])
  · replace hr := ifN hr hc
    obtain ⟨v2, hv2, hr⟩ := of_bind0 hr
    try simp only [hv2, Option.getD_some, Option.isSome_some, true_and, and_assoc]
    repeat refine gA ?_
    obtain rfl := Option.some.inj hr
    (simp (maxDischargeDepth := 8) [go_sem])
theorem f25 : FnFact Try.prog 25 T25.sp := ⟨⟨Try.f25, Try.func25, by decide, rfl⟩, v25⟩

/- martensite/martensiteref03.IsKelvin -/
def r103 (a0 : Int) : Option (Bool) :=
  (r59 a0 200 3000).bind fun v1 =>
   some v1
def T103 : TSpec (Int) where
  enc x := [.c (.int .i64 x)]
  dec a := dInt (aCell a 0 0)
  pre x := (r103 x).isSome = true
  res x := [.c (.d (.bool ((r103 x).getD default)))]
  al := false
def tb103 : Fns := lk [(59, T59.sp)]
theorem tb103_ok : FnsOk Try.prog tb103 := .cons f59 (FnsOk.nil)
theorem tb103_59 : tb103 59 = some T59.sp := rfl
theorem v103 : Valid Try.prog 103 T103.sp := by
  refine valid_t (fn := Try.f103) (n := 5) ty_ok tb103_ok Try.func103 rfl Try.ntmps103 ?_
  rintro a0 hx
  obtain ⟨r, hr⟩ := Option.isSome_iff_exists.1 (show (r103 a0).isSome = true from hx)
  have hres : T103.res a0 = [.c (.d (.bool r))] := by simp only [T103, hr, Option.getD_some]
  refine ⟨Nat.le_of_ble_eq_true rfl, fun stop S => ?_⟩
  rw [hres] at S
  unfold r103 at hr
  refine S.goB [] 1000 ?_
  simp (maxSteps := 10000000) only [go_sem, tb103_59, T59, T103, Option.map_some, Int.reduceToNat, Nat.reduceEqDiff, Nat.reduceLT, Nat.reduceAdd, Nat.reduceMul, Nat.reduceSub, Nat.reduceLeDiff, reduceIte, reduceCtorEq, Try.results103]
  obtain ⟨v1, hv1, hr⟩ := of_bind0 hr
  try simp only [hv1, Option.getD_some, Option.isSome_some, true_and, and_assoc]
  repeat refine gA ?_
  obtain rfl := Option.some.inj hr
  (simp (maxDischargeDepth := 8) [go_sem])
theorem f103 : FnFact Try.prog 103 T103.sp := ⟨⟨Try.f103, Try.func103, by decide, rfl⟩, v103⟩

/- martensite/martensiteref03.lawErr -/
def b104_1 (a0 : List (Int × Int)) : (Int) → Ctl (Int) (Int) := fun s1 =>
  if (decide (s1 < (a0.length : Int))) = true then
   if 0 ≤ s1 ∧ s1 < (a0.length : Int) then
    bindC (r103 ((a0.getD s1.toNat default).1)) fun v1 =>
     if (!(!v1)) = true → 0 ≤ s1 ∧ s1 < (a0.length : Int) then
      if (!(!v1)) = true → (r59 ((a0.getD s1.toNat default).2) 0 1000).isSome = true then
       if ((!v1) || (!((r59 ((a0.getD s1.toNat default).2) 0 1000).getD default))) = true then
        .out (some 2)
        else if (decide (s1 > 0)) = true then
         if 0 ≤ s1 ∧ s1 < (a0.length : Int) then
          if 0 ≤ IntKind.i64.wrap (s1 - 1) ∧ IntKind.i64.wrap (s1 - 1) < (a0.length : Int) then
           if 0 ≤ s1 ∧ s1 < (a0.length : Int) then
            if 0 ≤ IntKind.i64.wrap (s1 - 1) ∧ IntKind.i64.wrap (s1 - 1) < (a0.length : Int) then
             if ((decide ((IntKind.i64.wrap (((a0.getD s1.toNat default).1) - ((a0.getD (IntKind.i64.wrap (s1 - 1)).toNat default).1))) ≤ 0)) || (decide ((IntKind.i64.wrap (((a0.getD s1.toNat default).2) - ((a0.getD (IntKind.i64.wrap (s1 - 1)).toNat default).2))) < 0))) = true then
              .out (some 9)
              else if (decide ((IntKind.i64.wrap (2 * (IntKind.i64.wrap (((a0.getD s1.toNat default).2) - ((a0.getD (IntKind.i64.wrap (s1 - 1)).toNat default).2))))) > (IntKind.i64.wrap (((a0.getD s1.toNat default).1) - ((a0.getD (IntKind.i64.wrap (s1 - 1)).toNat default).1))))) = true then
               .out (some 22)
               else .next (IntKind.i64.wrap (s1 + 1))
             else .out none
            else .out none
           else .out none
          else .out none
         else .next (IntKind.i64.wrap (s1 + 1))
       else .out none
      else .out none
    else .out none
   else .out (some 0)
def r104 (a0 : List (Int × Int)) : Option (Int) :=
  if (decide ((a0.length : Int) > 6)) = true then
   some 8
   else iterC (b104_1 a0) 1000000000 0
def T104 : TSpec ((List (Int × Int))) where
  enc x := [.c (encF 2 d_II x)]
  dec a := decF g_II (aCell a 0 0)
  pre x := (r104 x).isSome = true
  res x := [.c (.d (.int .i64 ((r104 x).getD default)))]
  al := false
def tb104 : Fns := lk [(59, T59.sp), (103, T103.sp)]
theorem tb104_ok : FnsOk Try.prog tb104 := .cons f59 (.cons f103 (FnsOk.nil))
theorem tb104_59 : tb104 59 = some T59.sp := rfl
theorem tb104_103 : tb104 103 = some T103.sp := rfl
theorem v104 : Valid Try.prog 104 T104.sp := by
  refine valid_t (fn := Try.f104) (n := 67) ty_ok tb104_ok Try.func104 rfl Try.ntmps104 ?_
  rintro a0 hx
  obtain ⟨r, hr⟩ := Option.isSome_iff_exists.1 (show (r104 a0).isSome = true from hx)
  have hres : T104.res a0 = [.c (.d (.int .i64 r))] := by simp only [T104, hr, Option.getD_some]
  refine ⟨Nat.le_of_ble_eq_true rfl, fun stop S => ?_⟩
  rw [hres] at S
  unfold r104 at hr
  refine S.goB [] 1000 ?_
  simp (maxSteps := 10000000) only [go_sem, tb104_59, T59, tb104_103, T103, T104, Option.map_some, Int.reduceToNat, Nat.reduceEqDiff, Nat.reduceLT, Nat.reduceAdd, Nat.reduceMul, Nat.reduceSub, Nat.reduceLeDiff, reduceIte, reduceCtorEq, Try.results104]
  repeat refine gA ?_
  refine ⟨fun hc => ?_, fun hc => ?_⟩
  · replace hr := ifP hr hc
    repeat refine gA ?_
    obtain rfl := Option.some.inj hr
    (simp (maxDischargeDepth := 8) [go_sem])
  · replace hr := ifN hr hc
    repeat refine gA ?_
    refine S.sees [0, 3] [] [] ?_ (Stop.iter S (fun s1 => ⟨[(0, .c (.d (encF 2 d_II a0))), (3, .c (.d (.int .i64 s1)))], [], []⟩) (b104_1 a0) (fun q => q = r) hr rfl ?_)
    · (simp (maxDischargeDepth := 8) [go_sem])
    · intro s1 hr
      unfold b104_1 at hr
      refine S.goB [] 1000 ?_
      simp (maxSteps := 10000000) only [go_sem, tb104_59, T59, tb104_103, T103, T104, Option.map_some, Int.reduceToNat, Nat.reduceEqDiff, Nat.reduceLT, Nat.reduceAdd, Nat.reduceMul, Nat.reduceSub, Nat.reduceLeDiff, reduceIte, reduceCtorEq, Try.results104]
      repeat refine gA ?_
      refine ⟨fun hc => ?_, fun hc => ?_⟩
      · replace hr := ifP1 hr hc
        obtain ⟨hg6, hr⟩ := of_guard1 hr
        obtain ⟨v1, hv1, hr⟩ := of_bind1 hr
        obtain ⟨hg7, hr⟩ := of_guard1 hr
        obtain ⟨hg8, hr⟩ := of_guard1 hr
        try simp only [hv1, Option.getD_some, Option.isSome_some, true_and, and_assoc]
        repeat (first | refine gG hg7 ?_ | refine gG hg8 ?_ | refine gA ?_ | refine gB ?_)
        refine ⟨fun hc => ?_, fun hc => ?_⟩
        · replace hr := ifP1 hr hc
          repeat refine gA ?_
          have hr := of_out0 hr
          obtain rfl := Option.some.inj hr
          (simp (maxDischargeDepth := 8) [go_sem])
        · replace hr := ifN1 hr hc
          repeat refine gA ?_
          refine ⟨fun hc => ?_, fun hc => ?_⟩
          · replace hr := ifP1 hr hc
            obtain ⟨hg2, hr⟩ := of_guard1 hr
            obtain ⟨hg3, hr⟩ := of_guard1 hr
            obtain ⟨hg4, hr⟩ := of_guard1 hr
            obtain ⟨hg5, hr⟩ := of_guard1 hr
            repeat (first | refine gA ?_ | refine gB ?_)
            refine ⟨fun hc => ?_, fun hc => ?_⟩
            · replace hr := ifP1 hr hc
              repeat refine gA ?_
              have hr := of_out0 hr
              obtain rfl := Option.some.inj hr
              (simp (maxDischargeDepth := 8) [go_sem])
            · replace hr := ifN1 hr hc
              repeat refine gA ?_
              refine ⟨fun hc => ?_, fun hc => ?_⟩
              · replace hr := ifP1 hr hc
                repeat refine gA ?_
                have hr := of_out0 hr
                obtain rfl := Option.some.inj hr
                (simp (maxDischargeDepth := 8) [go_sem])
              · replace hr := ifN1 hr hc
                repeat refine gA ?_
                refine S.sees [0, 3] [] [] ?_ hr
                (simp (maxDischargeDepth := 8) [go_sem])
          · replace hr := ifN1 hr hc
            repeat refine gA ?_
            refine S.sees [0, 3] [] [] ?_ hr
            (simp (maxDischargeDepth := 8) [go_sem])
      · replace hr := ifN1 hr hc
        repeat refine gA ?_
        have hr := of_out0 hr
        repeat refine gA ?_
        obtain rfl := Option.some.inj hr
        (simp (maxDischargeDepth := 8) [go_sem])
theorem f104 : FnFact Try.prog 104 T104.sp := ⟨⟨Try.f104, Try.func104, by decide, rfl⟩, v104⟩

/- martensite/martensiteref03.lossOf -/
def b131_1 (a0 : List (Int × Int)) (a1 : Int) (a2 : Int) : (Int) → Ctl (Int) (Int × Int) := fun s1 =>
  if (decide (s1 < (a0.length : Int))) = true then
   if 0 ≤ s1 ∧ s1 < (a0.length : Int) then
    if (decide (a1 ≤ (IntKind.i64.wrap (((a0.getD s1.toNat default).1) * a2)))) = true then
     if (s1 == 0) = true then
      if 0 ≤ 0 ∧ 0 < (a0.length : Int) then
       .out (some ((a0.getD 0 default).2, 1))
       else .out none
      else if 0 ≤ IntKind.i64.wrap (s1 - 1) ∧ IntKind.i64.wrap (s1 - 1) < (a0.length : Int) then
       if 0 ≤ s1 ∧ s1 < (a0.length : Int) then
        .out (some (IntKind.i64.wrap ((IntKind.i64.wrap (((a0.getD (IntKind.i64.wrap (s1 - 1)).toNat default).2) * (IntKind.i64.wrap ((IntKind.i64.wrap (((a0.getD s1.toNat default).1) - ((a0.getD (IntKind.i64.wrap (s1 - 1)).toNat default).1))) * a2)))) + (IntKind.i64.wrap ((IntKind.i64.wrap (((a0.getD s1.toNat default).2) - ((a0.getD (IntKind.i64.wrap (s1 - 1)).toNat default).2))) * (IntKind.i64.wrap (a1 - (IntKind.i64.wrap (((a0.getD (IntKind.i64.wrap (s1 - 1)).toNat default).1) * a2))))))), IntKind.i64.wrap ((IntKind.i64.wrap (((a0.getD s1.toNat default).1) - ((a0.getD (IntKind.i64.wrap (s1 - 1)).toNat default).1))) * a2)))
        else .out none
       else .out none
     else .next (IntKind.i64.wrap (s1 + 1))
    else .out none
   else .out (if 0 ≤ IntKind.i64.wrap ((a0.length : Int) - 1) ∧ IntKind.i64.wrap ((a0.length : Int) - 1) < (a0.length : Int) then
    some ((a0.getD (IntKind.i64.wrap ((a0.length : Int) - 1)).toNat default).2, 1)
    else none)
def r131 (a0 : List (Int × Int)) (a1 : Int) (a2 : Int) : Option (Int × Int) :=
  if ((a0.length : Int) == 0) = true then
   some (0, 1)
   else iterC (b131_1 a0 a1 a2) 1000000000 0
def T131 : TSpec ((List (Int × Int)) × Int × Int) where
  enc x := [.c (encF 2 d_II x.1), .c (.int .i64 x.2.1), .c (.int .i64 x.2.2)]
  dec a := (decF g_II (aCell a 0 0), dInt (aCell a 1 0), dInt (aCell a 2 0))
  pre x := (r131 x.1 x.2.1 x.2.2).isSome = true
  res x := [.c (.d (.int .i64 (((r131 x.1 x.2.1 x.2.2).getD default).1))), .c (.d (.int .i64 (((r131 x.1 x.2.1 x.2.2).getD default).2)))]
  al := false
def tb131 : Fns := lk []
theorem tb131_ok : FnsOk Try.prog tb131 := FnsOk.nil
theorem v131 : Valid Try.prog 131 T131.sp := by
  refine valid_t (fn := Try.f131) (n := 77) ty_ok tb131_ok Try.func131 rfl Try.ntmps131 ?_
  rintro ⟨a0, a1, a2⟩ hx
  obtain ⟨r, hr⟩ := Option.isSome_iff_exists.1 (show (r131 a0 a1 a2).isSome = true from hx)
  have hres : T131.res (a0, a1, a2) = [.c (.d (.int .i64 r.1)), .c (.d (.int .i64 r.2))] := by simp only [T131, hr, Option.getD_some]
  refine ⟨Nat.le_of_ble_eq_true rfl, fun stop S => ?_⟩
  rw [hres] at S
  unfold r131 at hr
  refine S.goB [] 1000 ?_
  simp (maxSteps := 10000000) only [go_sem, T131, Option.map_some, Int.reduceToNat, Nat.reduceEqDiff, Nat.reduceLT, Nat.reduceAdd, Nat.reduceMul, Nat.reduceSub, Nat.reduceLeDiff, reduceIte, reduceCtorEq, Try.results131]
  repeat refine gA ?_
  refine ⟨fun hc => ?_, fun hc => ?_⟩
  · replace hr := ifP hr hc
    repeat refine gA ?_
    obtain rfl := Option.some.inj hr
    (simp (maxDischargeDepth := 8) [go_sem])
  · replace hr := ifN hr hc
    repeat refine gA ?_
    refine S.sees [0, 1, 2, 8] [] [] ?_ (Stop.iter S (fun s1 => ⟨[(0, .c (.d (encF 2 d_II a0))), (1, .c (.d (.int .i64 a1))), (2, .c (.d (.int .i64 a2))), (8, .c (.d (.int .i64 s1)))], [], []⟩) (b131_1 a0 a1 a2) (fun q => q = r) hr rfl ?_)
    · (simp (maxDischargeDepth := 8) [go_sem])
    · intro s1 hr
      unfold b131_1 at hr
      refine S.goB [] 1000 ?_
      simp (maxSteps := 10000000) only [go_sem, T131, Option.map_some, Int.reduceToNat, Nat.reduceEqDiff, Nat.reduceLT, Nat.reduceAdd, Nat.reduceMul, Nat.reduceSub, Nat.reduceLeDiff, reduceIte, reduceCtorEq, Try.results131]
      repeat refine gA ?_
      refine ⟨fun hc => ?_, fun hc => ?_⟩
      · replace hr := ifP1 hr hc
        obtain ⟨hg4, hr⟩ := of_guard1 hr
        repeat refine gA ?_
        refine ⟨fun hc => ?_, fun hc => ?_⟩
        · replace hr := ifP1 hr hc
          repeat refine gA ?_
          refine ⟨fun hc => ?_, fun hc => ?_⟩
          · replace hr := ifP1 hr hc
            obtain ⟨hg1, hr⟩ := of_guard1 hr
            repeat refine gA ?_
            have hr := of_out0 hr
            obtain rfl := Option.some.inj hr
            (simp (maxDischargeDepth := 8) [go_sem])
          · replace hr := ifN1 hr hc
            obtain ⟨hg2, hr⟩ := of_guard1 hr
            obtain ⟨hg3, hr⟩ := of_guard1 hr
            repeat refine gA ?_
            have hr := of_out0 hr
            obtain rfl := Option.some.inj hr
            (simp (maxDischargeDepth := 8) [go_sem])
        · replace hr := ifN1 hr hc
          repeat refine gA ?_
          refine S.sees [0, 1, 2, 8] [] [] ?_ hr
          (simp (maxDischargeDepth := 8) [go_sem])
      · replace hr := ifN1 hr hc
        repeat refine gA ?_
        have hr := of_out0 hr
        obtain ⟨hg5, hr⟩ := of_guard0 hr
        repeat refine gA ?_
        obtain rfl := Option.some.inj hr
        (simp (maxDischargeDepth := 8) [go_sem])
theorem f131 : FnFact Try.prog 131 T131.sp := ⟨⟨Try.f131, Try.func131, by decide, rfl⟩, v131⟩

/- martensite/martensiteref03.isBelow -/
def b105_1 (a0 : List (Int × Int)) (a1 : List (Int × Int)) : (Int) → Ctl (Int) (Bool) := fun s1 =>
  if (decide (s1 < ((a0.length + a1.length) : Int))) = true then
   if 0 ≤ s1 ∧ s1 < ((a0.length + a1.length) : Int) then
    bindC (r131 a0 (((a0 ++ a1).getD s1.toNat default).1) 1) fun v1 =>
     if 0 ≤ s1 ∧ s1 < ((a0.length + a1.length) : Int) then
      bindC (r131 a1 (((a0 ++ a1).getD s1.toNat default).1) 1) fun v2 =>
       if (decide ((IntKind.i64.wrap (v1.1 * v2.2)) < (IntKind.i64.wrap (v2.1 * v1.2)))) = true then
        .out (some true)
        else .next (IntKind.i64.wrap (s1 + 1))
      else .out none
    else .out none
   else .out (some false)
def r105 (a0 : List (Int × Int)) (a1 : List (Int × Int)) : Option (Bool) :=
  if (0 + a0.length) * 16 ≤ 140737488355328 ∧ 0 + a0.length ≤ 9223372036854775807 then
   if (a0.length + a1.length) * 16 ≤ 140737488355328 ∧ a0.length + a1.length ≤ 9223372036854775807 then
    iterC (b105_1 a0 a1) 1000000000 0
    else none
   else none
def T105 : TSpec ((List (Int × Int)) × (List (Int × Int))) where
  enc x := [.c (encF 2 d_II x.1), .c (encF 2 d_II x.2)]
  dec a := (decF g_II (aCell a 0 0), decF g_II (aCell a 1 0))
  pre x := (r105 x.1 x.2).isSome = true
  res x := [.c (.d (.bool ((r105 x.1 x.2).getD default)))]
  al := false
def tb105 : Fns := lk [(131, T131.sp)]
theorem tb105_ok : FnsOk Try.prog tb105 := .cons f131 (FnsOk.nil)
theorem tb105_131 : tb105 131 = some T131.sp := rfl
theorem v105 : Valid Try.prog 105 T105.sp := by
  refine valid_t (fn := Try.f105) (n := 49) ty_ok tb105_ok Try.func105 rfl Try.ntmps105 ?_
  rintro ⟨a0, a1⟩ hx
  obtain ⟨r, hr⟩ := Option.isSome_iff_exists.1 (show (r105 a0 a1).isSome = true from hx)
  have hres : T105.res (a0, a1) = [.c (.d (.bool r))] := by simp only [T105, hr, Option.getD_some]
  refine ⟨Nat.le_of_ble_eq_true rfl, fun stop S => ?_⟩
  rw [hres] at S
  unfold r105 at hr
  refine S.goB [] 1000 ?_
  simp (maxSteps := 10000000) only [go_sem, tb105_131, T131, T105, Option.map_some, Int.reduceToNat, Nat.reduceEqDiff, Nat.reduceLT, Nat.reduceAdd, Nat.reduceMul, Nat.reduceSub, Nat.reduceLeDiff, reduceIte, reduceCtorEq, Try.results105]
  obtain ⟨hg5, hr⟩ := of_guard0 hr
  obtain ⟨hg6, hr⟩ := of_guard0 hr
  repeat refine gA ?_
  refine S.sees [0, 1, 5, 6] [] [(15, 15)] ?_ (Stop.iter S (fun s1 => ⟨[(0, .c (.d (encF 2 d_II a0))), (1, .c (.d (encF 2 d_II a1))), (5, .c (.own 15)), (6, .c (.d (.int .i64 s1)))], [], [(15, .owned (encF 2 d_II (a0 ++ a1)))]⟩) (b105_1 a0 a1) (fun q => q = r) hr rfl ?_)
  · (simp (maxDischargeDepth := 8) [go_sem])
  · intro s1 hr
    unfold b105_1 at hr
    refine S.goB [] 1000 ?_
    simp (maxSteps := 10000000) only [go_sem, tb105_131, T131, T105, Option.map_some, Int.reduceToNat, Nat.reduceEqDiff, Nat.reduceLT, Nat.reduceAdd, Nat.reduceMul, Nat.reduceSub, Nat.reduceLeDiff, reduceIte, reduceCtorEq, Try.results105]
    repeat refine gA ?_
    refine ⟨fun hc => ?_, fun hc => ?_⟩
    · replace hr := ifP1 hr hc
      obtain ⟨hg3, hr⟩ := of_guard1 hr
      obtain ⟨v1, hv1, hr⟩ := of_bind1 hr
      obtain ⟨hg4, hr⟩ := of_guard1 hr
      obtain ⟨v2, hv2, hr⟩ := of_bind1 hr
      try simp only [hv1, hv2, Option.getD_some, Option.isSome_some, true_and, and_assoc]
      repeat refine gA ?_
      refine ⟨fun hc => ?_, fun hc => ?_⟩
      · replace hr := ifP1 hr hc
        repeat refine gA ?_
        have hr := of_out0 hr
        obtain rfl := Option.some.inj hr
        (simp (maxDischargeDepth := 8) [go_sem])
      · replace hr := ifN1 hr hc
        repeat refine gA ?_
        refine S.sees [0, 1, 5, 6] [] [(15, 15)] ?_ hr
        (simp (maxDischargeDepth := 8) [go_sem])
    · replace hr := ifN1 hr hc
      repeat refine gA ?_
      have hr := of_out0 hr
      repeat refine gA ?_
      obtain rfl := Option.some.inj hr
      (simp (maxDischargeDepth := 8) [go_sem])
theorem f105 : FnFact Try.prog 105 T105.sp := ⟨⟨Try.f105, Try.func105, by decide, rfl⟩, v105⟩

/- martensite/martensiteref03.CheckSetup -/
def b26_2 (a0_3 : List ((List (Int × Int)))) : (Int) → Ctl (Int) (Int × Int) := fun s2 =>
  if (decide (s2 < (a0_3.length : Int))) = true then
   if 0 ≤ s2 ∧ s2 < (a0_3.length : Int) then
    bindC (r104 (a0_3.getD s2.toNat default)) fun v10 =>
     if (v10 != 0) = true then
      .out (some (s2, v10))
      else if (decide (s2 > 0)) = true → 0 ≤ s2 ∧ s2 < (a0_3.length : Int) then
       if (decide (s2 > 0)) = true → 0 ≤ IntKind.i64.wrap (s2 - 1) ∧ IntKind.i64.wrap (s2 - 1) < (a0_3.length : Int) then
        if (decide (s2 > 0)) = true → (r105 (a0_3.getD s2.toNat default) (a0_3.getD (IntKind.i64.wrap (s2 - 1)).toNat default)).isSome = true then
         if ((decide (s2 > 0)) && ((r105 (a0_3.getD s2.toNat default) (a0_3.getD (IntKind.i64.wrap (s2 - 1)).toNat default)).getD default)) = true then
          .out (some (s2, 13))
          else .next (IntKind.i64.wrap (s2 + 1))
         else .out none
        else .out none
       else .out none
    else .out none
   else .out (some (0, 0))
def b26_1 (a0_2 : List (Int × Int)) (a0_3 : List ((List (Int × Int)))) : (Int) → Ctl (Int) (Int × Int) := fun s1 =>
  if (decide (s1 < (a0_2.length : Int))) = true then
   if 0 ≤ s1 ∧ s1 < (a0_2.length : Int) then
    bindC (r59 ((a0_2.getD s1.toNat default).1) 0 1000000) fun v2 =>
     if (!(!v2)) = true → 0 ≤ s1 ∧ s1 < (a0_2.length : Int) then
      if (!(!v2)) = true → (r103 ((a0_2.getD s1.toNat default).2)).isSome = true then
       if ((!v2) || (!((r103 ((a0_2.getD s1.toNat default).2)).getD default))) = true then
        .out (some (s1, 2))
        else if (decide (s1 > 0)) = true then
         if 0 ≤ s1 ∧ s1 < (a0_2.length : Int) then
          if 0 ≤ IntKind.i64.wrap (s1 - 1) ∧ IntKind.i64.wrap (s1 - 1) < (a0_2.length : Int) then
           if 0 ≤ s1 ∧ s1 < (a0_2.length : Int) then
            if 0 ≤ IntKind.i64.wrap (s1 - 1) ∧ IntKind.i64.wrap (s1 - 1) < (a0_2.length : Int) then
             if ((decide ((IntKind.i64.wrap (((a0_2.getD s1.toNat default).1) - ((a0_2.getD (IntKind.i64.wrap (s1 - 1)).toNat default).1))) ≤ 0)) || (decide ((IntKind.i64.wrap (((a0_2.getD s1.toNat default).2) - ((a0_2.getD (IntKind.i64.wrap (s1 - 1)).toNat default).2))) ≤ 0))) = true then
              .out (some (s1, 9))
              else if (decide ((IntKind.i64.wrap (((a0_2.getD s1.toNat default).2) - ((a0_2.getD (IntKind.i64.wrap (s1 - 1)).toNat default).2))) > (IntKind.i64.wrap (((a0_2.getD s1.toNat default).1) - ((a0_2.getD (IntKind.i64.wrap (s1 - 1)).toNat default).1))))) = true then
               .out (some (s1, 22))
               else .next (IntKind.i64.wrap (s1 + 1))
             else .out none
            else .out none
           else .out none
          else .out none
         else .next (IntKind.i64.wrap (s1 + 1))
       else .out none
      else .out none
    else .out none
   else .out (if (decide ((a0_3.length : Int) > 4)) = true then
    some (0, 8)
    else iterC (b26_2 a0_3) 1000000000 0)
def r26 (a0_0 : Int) (a0_1 : Int) (a0_2 : List (Int × Int)) (a0_3 : List ((List (Int × Int)))) : Option (Int × Int) :=
  (r59 a0_0 1 12).bind fun v1 =>
   if (!(!v1)) = true → (r59 a0_1 0 500).isSome = true then
    if ((!v1) || (!((r59 a0_1 0 500).getD default))) = true then
     some (0, 2)
     else if (decide ((a0_2.length : Int) < 2)) = true then
      some (0, 10)
      else if (decide ((a0_2.length : Int) > 8)) = true then
       some (0, 8)
       else iterC (b26_1 a0_2 a0_3) 1000000000 0
    else none
def T26 : TSpec (Int × Int × (List (Int × Int)) × (List ((List (Int × Int))))) where
  enc x := [.agg [.int .i64 x.1, .int .i64 x.2.1, encF 2 d_II x.2.2.1, encF 1 d_LIIE x.2.2.2]]
  dec a := (dInt (aCell a 0 0), dInt (aCell a 0 1), decF g_II (aCell a 0 2), decF g_LIIE (aCell a 0 3))
  pre x := (r26 x.1 x.2.1 x.2.2.1 x.2.2.2).isSome = true
  res x := [.c (.d (.int .i64 (((r26 x.1 x.2.1 x.2.2.1 x.2.2.2).getD default).1))), .c (.d (.int .i64 (((r26 x.1 x.2.1 x.2.2.1 x.2.2.2).getD default).2)))]
  al := false
def tb26 : Fns := lk [(59, T59.sp), (103, T103.sp), (104, T104.sp), (105, T105.sp)]
theorem tb26_ok : FnsOk Try.prog tb26 := .cons f59 (.cons f103 (.cons f104 (.cons f105 (FnsOk.nil))))
theorem tb26_59 : tb26 59 = some T59.sp := rfl
theorem tb26_103 : tb26 103 = some T103.sp := rfl
theorem tb26_104 : tb26 104 = some T104.sp := rfl
theorem tb26_105 : tb26 105 = some T105.sp := rfl
theorem v26 : Valid Try.prog 26 T26.sp := by
  refine valid_t (fn := Try.f26) (n := 132) ty_ok tb26_ok Try.func26 rfl Try.ntmps26 ?_
  rintro ⟨a0_0, a0_1, a0_2, a0_3⟩ hx
  obtain ⟨r, hr⟩ := Option.isSome_iff_exists.1 (show (r26 a0_0 a0_1 a0_2 a0_3).isSome = true from hx)
  have hres : T26.res (a0_0, a0_1, a0_2, a0_3) = [.c (.d (.int .i64 r.1)), .c (.d (.int .i64 r.2))] := by simp only [T26, hr, Option.getD_some]
  refine ⟨Nat.le_of_ble_eq_true rfl, fun stop S => ?_⟩
  rw [hres] at S
  unfold r26 at hr
  refine S.goB [] 1000 ?_
  simp (maxSteps := 10000000) only [go_sem, tb26_59, T59, tb26_103, T103, tb26_104, T104, tb26_105, T105, T26, Option.map_some, Int.reduceToNat, Nat.reduceEqDiff, Nat.reduceLT, Nat.reduceAdd, Nat.reduceMul, Nat.reduceSub, Nat.reduceLeDiff, reduceIte, reduceCtorEq, Try.results26]
  obtain ⟨v1, hv1, hr⟩ := of_bind0 hr
  obtain ⟨hg15, hr⟩ := of_guard0 hr
  try simp only [hv1, Option.getD_some, Option.isSome_some, true_and, and_assoc]
  repeat (first | refine gG hg15 ?_ | refine gA ?_ | refine gB ?_)
  refine ⟨fun hc => ?_, fun hc => ?_⟩
  · replace hr := ifP hr hc
    repeat refine gA ?_
    obtain rfl := Option.some.inj hr
    (simp (maxDischargeDepth := 8) [go_sem])
  · replace hr := ifN hr hc
    repeat refine gA ?_
    refine ⟨fun hc => ?_, fun hc => ?_⟩
    · replace hr := ifP hr hc
      repeat refine gA ?_
      obtain rfl := Option.some.inj hr
      (simp (maxDischargeDepth := 8) [go_sem])
    · replace hr := ifN hr hc
      repeat refine gA ?_
      refine ⟨fun hc => ?_, fun hc => ?_⟩
      · replace hr := ifP hr hc
        repeat refine gA ?_
        obtain rfl := Option.some.inj hr
        (simp (maxDischargeDepth := 8) [go_sem])
      · replace hr := ifN hr hc
        repeat refine gA ?_
        refine S.sees [1, 4] [(1, 1)] [] ?_ (Stop.iter S (fun s1 => ⟨[(1, .c (.ref 1 0)), (4, .c (.d (.int .i64 s1)))], [(1, [.d (.int .i64 a0_0), .d (.int .i64 a0_1), .d (encF 2 d_II a0_2), .d (encF 1 d_LIIE a0_3)])], []⟩) (b26_1 a0_2 a0_3) (fun q => q = r) hr rfl ?_)
        · (simp (maxDischargeDepth := 8) [go_sem])
        · intro s1 hr
          unfold b26_1 at hr
          refine S.goB [] 1000 ?_
          simp (maxSteps := 10000000) only [go_sem, tb26_59, T59, tb26_103, T103, tb26_104, T104, tb26_105, T105, T26, Option.map_some, Int.reduceToNat, Nat.reduceEqDiff, Nat.reduceLT, Nat.reduceAdd, Nat.reduceMul, Nat.reduceSub, Nat.reduceLeDiff, reduceIte, reduceCtorEq, Try.results26]
          repeat refine gA ?_
          refine ⟨fun hc => ?_, fun hc => ?_⟩
          · replace hr := ifP1 hr hc
            obtain ⟨hg7, hr⟩ := of_guard1 hr
            obtain ⟨v2, hv2, hr⟩ := of_bind1 hr
            obtain ⟨hg8, hr⟩ := of_guard1 hr
            obtain ⟨hg9, hr⟩ := of_guard1 hr
            try simp only [hv2, Option.getD_some, Option.isSome_some, true_and, and_assoc]
            repeat (first | refine gG hg8 ?_ | refine gG hg9 ?_ | refine gA ?_ | refine gB ?_)
            refine ⟨fun hc => ?_, fun hc => ?_⟩
            · replace hr := ifP1 hr hc
              repeat refine gA ?_
              have hr := of_out0 hr
              obtain rfl := Option.some.inj hr
              (simp (maxDischargeDepth := 8) [go_sem])
            · replace hr := ifN1 hr hc
              repeat refine gA ?_
              refine ⟨fun hc => ?_, fun hc => ?_⟩
              · replace hr := ifP1 hr hc
                obtain ⟨hg3, hr⟩ := of_guard1 hr
                obtain ⟨hg4, hr⟩ := of_guard1 hr
                obtain ⟨hg5, hr⟩ := of_guard1 hr
                obtain ⟨hg6, hr⟩ := of_guard1 hr
                repeat (first | refine gA ?_ | refine gB ?_)
                refine ⟨fun hc => ?_, fun hc => ?_⟩
                · replace hr := ifP1 hr hc
                  repeat refine gA ?_
                  have hr := of_out0 hr
                  obtain rfl := Option.some.inj hr
                  (simp (maxDischargeDepth := 8) [go_sem])
                · replace hr := ifN1 hr hc
                  repeat refine gA ?_
                  refine ⟨fun hc => ?_, fun hc => ?_⟩
                  · replace hr := ifP1 hr hc
                    repeat refine gA ?_
                    have hr := of_out0 hr
                    obtain rfl := Option.some.inj hr
                    (simp (maxDischargeDepth := 8) [go_sem])
                  · replace hr := ifN1 hr hc
                    repeat refine gA ?_
                    refine S.sees [1, 4] [(1, 1)] [] ?_ hr
                    (simp (maxDischargeDepth := 8) [go_sem])
              · replace hr := ifN1 hr hc
                repeat refine gA ?_
                refine S.sees [1, 4] [(1, 1)] [] ?_ hr
                (simp (maxDischargeDepth := 8) [go_sem])
          · replace hr := ifN1 hr hc
            repeat refine gA ?_
            have hr := of_out0 hr
            repeat refine gA ?_
            refine ⟨fun hc => ?_, fun hc => ?_⟩
            · replace hr := ifP hr hc
              repeat refine gA ?_
              obtain rfl := Option.some.inj hr
              (simp (maxDischargeDepth := 8) [go_sem])
            · replace hr := ifN hr hc
              repeat refine gA ?_
              refine S.sees [1, 7] [(1, 1)] [] ?_ (Stop.iter S (fun s2 => ⟨[(1, .c (.ref 1 0)), (7, .c (.d (.int .i64 s2)))], [(1, [.d (.int .i64 a0_0), .d (.int .i64 a0_1), .d (encF 2 d_II a0_2), .d (encF 1 d_LIIE a0_3)])], []⟩) (b26_2 a0_3) (fun q => q = r) hr rfl ?_)
              · (simp (maxDischargeDepth := 8) [go_sem])
              · intro s2 hr
                unfold b26_2 at hr
                refine S.goB [] 1000 ?_
                simp (maxSteps := 10000000) only [go_sem, tb26_59, T59, tb26_103, T103, tb26_104, T104, tb26_105, T105, T26, Option.map_some, Int.reduceToNat, Nat.reduceEqDiff, Nat.reduceLT, Nat.reduceAdd, Nat.reduceMul, Nat.reduceSub, Nat.reduceLeDiff, reduceIte, reduceCtorEq, Try.results26]
                repeat refine gA ?_
                refine ⟨fun hc => ?_, fun hc => ?_⟩
                · replace hr := ifP1 hr hc
                  obtain ⟨hg14, hr⟩ := of_guard1 hr
                  obtain ⟨v10, hv10, hr⟩ := of_bind1 hr
                  try simp only [hv10, Option.getD_some, Option.isSome_some, true_and, and_assoc]
                  repeat refine gA ?_
                  refine ⟨fun hc => ?_, fun hc => ?_⟩
                  · replace hr := ifP1 hr hc
                    repeat refine gA ?_
                    have hr := of_out0 hr
                    obtain rfl := Option.some.inj hr
                    (simp (maxDischargeDepth := 8) [go_sem])
                  · replace hr := ifN1 hr hc
                    obtain ⟨hg11, hr⟩ := of_guard1 hr
                    obtain ⟨hg12, hr⟩ := of_guard1 hr
                    obtain ⟨hg13, hr⟩ := of_guard1 hr
                    repeat (first | refine gG hg11 ?_ | refine gG hg12 ?_ | refine gG hg13 ?_ | refine gA ?_ | refine gB ?_)
                    refine ⟨fun hc => ?_, fun hc => ?_⟩
                    · replace hr := ifP1 hr hc
                      repeat refine gA ?_
                      have hr := of_out0 hr
                      obtain rfl := Option.some.inj hr
                      (simp (maxDischargeDepth := 8) [go_sem])
                    · replace hr := ifN1 hr hc
                      repeat refine gA ?_
                      refine S.sees [1, 7] [(1, 1)] [] ?_ hr
                      (simp (maxDischargeDepth := 8) [go_sem])
                · replace hr := ifN1 hr hc
                  repeat refine gA ?_
                  have hr := of_out0 hr
                  repeat refine gA ?_
                  obtain rfl := Option.some.inj hr
                  (simp (maxDischargeDepth := 8) [go_sem])
theorem f26 : FnFact Try.prog 26 T26.sp := ⟨⟨Try.f26, Try.func26, by decide, rfl⟩, v26⟩

/- martensite/martensiteref03.InTable -/
def r56 (a0_0 : Int) (a0_1 : Int) (a0_2 : List (Int × Int)) (a0_3 : List ((List (Int × Int)))) (a1 : Int) : Option (Bool) :=
  if 0 ≤ 0 ∧ 0 < (a0_2.length : Int) then
   if 0 ≤ IntKind.i64.wrap ((a0_2.length : Int) - 1) ∧ IntKind.i64.wrap ((a0_2.length : Int) - 1) < (a0_2.length : Int) then
    (r59 a1 ((a0_2.getD 0 default).1) ((a0_2.getD (IntKind.i64.wrap ((a0_2.length : Int) - 1)).toNat default).1)).bind fun v1 =>
     some v1
    else none
   else none
def T56 : TSpec (Int × Int × (List (Int × Int)) × (List ((List (Int × Int)))) × Int) where
  enc x := [.agg [.int .i64 x.1, .int .i64 x.2.1, encF 2 d_II x.2.2.1, encF 1 d_LIIE x.2.2.2.1], .c (.int .i64 x.2.2.2.2)]
  dec a := (dInt (aCell a 0 0), dInt (aCell a 0 1), decF g_II (aCell a 0 2), decF g_LIIE (aCell a 0 3), dInt (aCell a 1 0))
  pre x := (r56 x.1 x.2.1 x.2.2.1 x.2.2.2.1 x.2.2.2.2).isSome = true
  res x := [.c (.d (.bool ((r56 x.1 x.2.1 x.2.2.1 x.2.2.2.1 x.2.2.2.2).getD default)))]
  al := false
def tb56 : Fns := lk [(59, T59.sp)]
theorem tb56_ok : FnsOk Try.prog tb56 := .cons f59 (FnsOk.nil)
theorem tb56_59 : tb56 59 = some T59.sp := rfl
theorem v56 : Valid Try.prog 56 T56.sp := by
  refine valid_t (fn := Try.f56) (n := 21) ty_ok tb56_ok Try.func56 rfl Try.ntmps56 ?_
  rintro ⟨a0_0, a0_1, a0_2, a0_3, a1⟩ hx
  obtain ⟨r, hr⟩ := Option.isSome_iff_exists.1 (show (r56 a0_0 a0_1 a0_2 a0_3 a1).isSome = true from hx)
  have hres : T56.res (a0_0, a0_1, a0_2, a0_3, a1) = [.c (.d (.bool r))] := by simp only [T56, hr, Option.getD_some]
  refine ⟨Nat.le_of_ble_eq_true rfl, fun stop S => ?_⟩
  rw [hres] at S
  unfold r56 at hr
  refine S.goB [] 1000 ?_
  simp (maxSteps := 10000000) only [go_sem, tb56_59, T59, T56, Option.map_some, Int.reduceToNat, Nat.reduceEqDiff, Nat.reduceLT, Nat.reduceAdd, Nat.reduceMul, Nat.reduceSub, Nat.reduceLeDiff, reduceIte, reduceCtorEq, Try.results56]
  obtain ⟨hg2, hr⟩ := of_guard0 hr
  obtain ⟨hg3, hr⟩ := of_guard0 hr
  obtain ⟨v1, hv1, hr⟩ := of_bind0 hr
  try simp only [hv1, Option.getD_some, Option.isSome_some, true_and, and_assoc]
  repeat refine gA ?_
  obtain rfl := Option.some.inj hr
  (simp (maxDischargeDepth := 8) [go_sem])
theorem f56 : FnFact Try.prog 56 T56.sp := ⟨⟨Try.f56, Try.func56, by decide, rfl⟩, v56⟩

/- martensite/martensiteref03.CheckState -/
def b27_1 (a0_0 : Int) (a0_1 : Int) (a0_2 : List (Int × Int)) (a0_3 : List ((List (Int × Int)))) (a1 : List (Int)) : (Int) → Ctl (Int) (Int × Int) := fun s1 =>
  if (decide (s1 < (a1.length : Int))) = true then
   if 0 ≤ s1 ∧ s1 < (a1.length : Int) then
    bindC (r56 a0_0 a0_1 a0_2 a0_3 (a1.getD s1.toNat default)) fun v1 =>
     if (!v1) = true then
      .out (some (s1, 2))
      else .next (IntKind.i64.wrap (s1 + 1))
    else .out none
   else .out (some (0, 0))
def r27 (a0_0 : Int) (a0_1 : Int) (a0_2 : List (Int × Int)) (a0_3 : List ((List (Int × Int)))) (a1 : List (Int)) : Option (Int × Int) :=
  if ((a1.length : Int) != a0_0) = true then
   some (0, 10)
   else iterC (b27_1 a0_0 a0_1 a0_2 a0_3 a1) 1000000000 0
def T27 : TSpec (Int × Int × (List (Int × Int)) × (List ((List (Int × Int)))) × (List (Int))) where
  enc x := [.agg [.int .i64 x.1, .int .i64 x.2.1, encF 2 d_II x.2.2.1, encF 1 d_LIIE x.2.2.2.1], .c (encF 1 d_I x.2.2.2.2)]
  dec a := (dInt (aCell a 0 0), dInt (aCell a 0 1), decF g_II (aCell a 0 2), decF g_LIIE (aCell a 0 3), decF g_I (aCell a 1 0))
  pre x := (r27 x.1 x.2.1 x.2.2.1 x.2.2.2.1 x.2.2.2.2).isSome = true
  res x := [.c (.d (.int .i64 (((r27 x.1 x.2.1 x.2.2.1 x.2.2.2.1 x.2.2.2.2).getD default).1))), .c (.d (.int .i64 (((r27 x.1 x.2.1 x.2.2.1 x.2.2.2.1 x.2.2.2.2).getD default).2)))]
  al := false
def tb27 : Fns := lk [(56, T56.sp)]
theorem tb27_ok : FnsOk Try.prog tb27 := .cons f56 (FnsOk.nil)
theorem tb27_56 : tb27 56 = some T56.sp := rfl
theorem v27 : Valid Try.prog 27 T27.sp := by
  refine valid_t (fn := Try.f27) (n := 26) ty_ok tb27_ok Try.func27 rfl Try.ntmps27 ?_
  rintro ⟨a0_0, a0_1, a0_2, a0_3, a1⟩ hx
  obtain ⟨r, hr⟩ := Option.isSome_iff_exists.1 (show (r27 a0_0 a0_1 a0_2 a0_3 a1).isSome = true from hx)
  have hres : T27.res (a0_0, a0_1, a0_2, a0_3, a1) = [.c (.d (.int .i64 r.1)), .c (.d (.int .i64 r.2))] := by simp only [T27, hr, Option.getD_some]
  refine ⟨Nat.le_of_ble_eq_true rfl, fun stop S => ?_⟩
  rw [hres] at S
  unfold r27 at hr
  refine S.goB [] 1000 ?_
  simp (maxSteps := 10000000) only [go_sem, tb27_56, T56, T27, Option.map_some, Int.reduceToNat, Nat.reduceEqDiff, Nat.reduceLT, Nat.reduceAdd, Nat.reduceMul, Nat.reduceSub, Nat.reduceLeDiff, reduceIte, reduceCtorEq, Try.results27]
  repeat refine gA ?_
  refine ⟨fun hc => ?_, fun hc => ?_⟩
  · replace hr := ifP hr hc
    repeat refine gA ?_
    obtain rfl := Option.some.inj hr
    (simp (maxDischargeDepth := 8) [go_sem])
  · replace hr := ifN hr hc
    repeat refine gA ?_
    refine S.sees [1, 2, 6] [(2, 2)] [] ?_ (Stop.iter S (fun s1 => ⟨[(1, .c (.d (encF 1 d_I a1))), (2, .c (.ref 2 0)), (6, .c (.d (.int .i64 s1)))], [(2, [.d (.int .i64 a0_0), .d (.int .i64 a0_1), .d (encF 2 d_II a0_2), .d (encF 1 d_LIIE a0_3)])], []⟩) (b27_1 a0_0 a0_1 a0_2 a0_3 a1) (fun q => q = r) hr rfl ?_)
    · (simp (maxDischargeDepth := 8) [go_sem])
    · intro s1 hr
      unfold b27_1 at hr
      refine S.goB [] 1000 ?_
      simp (maxSteps := 10000000) only [go_sem, tb27_56, T56, T27, Option.map_some, Int.reduceToNat, Nat.reduceEqDiff, Nat.reduceLT, Nat.reduceAdd, Nat.reduceMul, Nat.reduceSub, Nat.reduceLeDiff, reduceIte, reduceCtorEq, Try.results27]
      repeat refine gA ?_
      refine ⟨fun hc => ?_, fun hc => ?_⟩
      · replace hr := ifP1 hr hc
        obtain ⟨hg2, hr⟩ := of_guard1 hr
        obtain ⟨v1, hv1, hr⟩ := of_bind1 hr
        try simp only [hv1, Option.getD_some, Option.isSome_some, true_and, and_assoc]
        repeat refine gA ?_
        refine ⟨fun hc => ?_, fun hc => ?_⟩
        · replace hr := ifP1 hr hc
          repeat refine gA ?_
          have hr := of_out0 hr
          obtain rfl := Option.some.inj hr
          (simp (maxDischargeDepth := 8) [go_sem])
        · replace hr := ifN1 hr hc
          repeat refine gA ?_
          refine S.sees [1, 2, 6] [(2, 2)] [] ?_ hr
          (simp (maxDischargeDepth := 8) [go_sem])
      · replace hr := ifN1 hr hc
        repeat refine gA ?_
        have hr := of_out0 hr
        repeat refine gA ?_
        obtain rfl := Option.some.inj hr
        (simp (maxDischargeDepth := 8) [go_sem])
theorem f27 : FnFact Try.prog 27 T27.sp := ⟨⟨Try.f27, Try.func27, by decide, rfl⟩, v27⟩
end Go.Proofs.Ytcbiiijnaeibhaa

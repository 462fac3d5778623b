/- Contracts of functions, written by wip/dec. -/
import Derived.Test.YtcbiiijnaeibhaaGreatF00
import Derived.Test.YtcbiiijnaeibhaaGreatF01
import Derived.Test.YtcbiiijnaeibhaaGreatF02
import Derived.Test.YtcbiiijnaeibhaaGreatF03
set_option linter.unusedVariables false
set_option linter.unusedSimpArgs false
set_option maxHeartbeats 4000000
set_option maxRecDepth 20000
namespace Go.Proofs.YtcbiiijnaeibhaaGreat
open Go.Abs
/- martensite/martensitelaw03.Few -/
def b5_1 (a0_3 : List ((List (Int × Int)))) : (Int) → Ctl (Int) (Bool) := fun s1 =>
  if (decide (s1 < (a0_3.length : Int))) = true then
   if 0 ≤ s1 ∧ s1 < (a0_3.length : Int) then
    if (decide (((a0_3.getD s1.toNat default).length : Int) > 8)) = true then
     .out (some false)
     else .next (IntKind.i64.wrap (s1 + 1))
    else .out none
   else .out (some true)
def r5 (a0_0 : Int) (a0_1 : Int) (a0_2 : List (Int × Int)) (a0_3 : List ((List (Int × Int)))) : Option (Bool) :=
  if ((decide ((a0_2.length : Int) > 10)) || (decide ((a0_3.length : Int) > 6))) = true then
   some false
   else iterC (b5_1 a0_3) 1000000000 0
def T5 : TSpec (Int × Int × (List (Int × Int)) × (List ((List (Int × Int))))) where
  enc x := [.agg [.int .i64 x.1, .int .i64 x.2.1, encF 2 d_II x.2.2.1, encF 1 d_LIIE x.2.2.2]]
  dec a := (dInt (aCell a 0 0), dInt (aCell a 0 1), decF g_II (aCell a 0 2), decF g_LIIE (aCell a 0 3))
  pre x := (r5 x.1 x.2.1 x.2.2.1 x.2.2.2).isSome = true
  res x := [.c (.d (.bool ((r5 x.1 x.2.1 x.2.2.1 x.2.2.2).getD default)))]
  al := false
def tb5 : Fns := lk []
theorem tb5_ok : FnsOk Tryz.prog tb5 := FnsOk.nil
theorem v5 : Valid Tryz.prog 5 T5.sp := by
  refine valid_t (fn := Tryz.f5) (n := 28) ty_ok tb5_ok Tryz.func5 rfl Tryz.ntmps5 ?_
  rintro ⟨a0_0, a0_1, a0_2, a0_3⟩ hx
  obtain ⟨r, hr⟩ := Option.isSome_iff_exists.1 (show (r5 a0_0 a0_1 a0_2 a0_3).isSome = true from hx)
  have hres : T5.res (a0_0, a0_1, a0_2, a0_3) = [.c (.d (.bool r))] := by simp only [T5, hr, Option.getD_some]
  refine ⟨Nat.le_of_ble_eq_true rfl, fun stop S => ?_⟩
  rw [hres] at S
  unfold r5 at hr
  refine S.goB [] 1000 ?_
  simp (maxSteps := 10000000) only [go_sem, T5, Option.map_some, Int.reduceToNat, Nat.reduceEqDiff, Nat.reduceLT, Nat.reduceAdd, Nat.reduceMul, Nat.reduceSub, Nat.reduceLeDiff, reduceIte, reduceCtorEq, Tryz.results5]
  repeat (first | refine gA ?_ | refine gB ?_)
  refine ⟨fun hc => ?_, fun hc => ?_⟩
  · replace hr := ifP hr hc
    repeat refine gA ?_
    obtain rfl := Option.some.inj hr
    (simp (maxDischargeDepth := 8) [go_sem])
  · replace hr := ifN hr hc
    repeat refine gA ?_
    refine S.sees [1, 3] [(1, 1)] [] ?_ (Stop.iter S (fun s1 => ⟨[(1, .c (.ref 1 0)), (3, .c (.d (.int .i64 s1)))], [(1, [.d (.int .i64 a0_0), .d (.int .i64 a0_1), .d (encF 2 d_II a0_2), .d (encF 1 d_LIIE a0_3)])], []⟩) (b5_1 a0_3) (fun q => q = r) hr rfl ?_)
    · (simp (maxDischargeDepth := 8) [go_sem])
    · intro s1 hr
      unfold b5_1 at hr
      refine S.goB [] 1000 ?_
      simp (maxSteps := 10000000) only [go_sem, T5, Option.map_some, Int.reduceToNat, Nat.reduceEqDiff, Nat.reduceLT, Nat.reduceAdd, Nat.reduceMul, Nat.reduceSub, Nat.reduceLeDiff, reduceIte, reduceCtorEq, Tryz.results5]
      repeat refine gA ?_
      refine ⟨fun hc => ?_, fun hc => ?_⟩
      · replace hr := ifP1 hr hc
        obtain ⟨hg1, hr⟩ := of_guard1 hr
        repeat refine gA ?_
        refine ⟨fun hc => ?_, fun hc => ?_⟩
        · replace hr := ifP1 hr hc
          repeat refine gA ?_
          have hr := of_out0 hr
          obtain rfl := Option.some.inj hr
          (simp (maxDischargeDepth := 8) [go_sem])
        · replace hr := ifN1 hr hc
          repeat refine gA ?_
          refine S.sees [1, 3] [(1, 1)] [] ?_ hr
          (simp (maxDischargeDepth := 8) [go_sem])
      · replace hr := ifN1 hr hc
        repeat refine gA ?_
        have hr := of_out0 hr
        repeat refine gA ?_
        obtain rfl := Option.some.inj hr
        (simp (maxDischargeDepth := 8) [go_sem])
theorem f5 : FnFact Tryz.prog 5 T5.sp := ⟨⟨Tryz.f5, Tryz.func5, by decide, rfl⟩, v5⟩

/- martensite/martensitelaw03.few -/
def r6 (a0 : List (Int)) : Option (Bool) :=
  some (decide ((a0.length : Int) ≤ 14))
def T6 : TSpec ((List (Int))) where
  enc x := [.c (encF 1 d_I x)]
  dec a := decF g_I (aCell a 0 0)
  pre x := (r6 x).isSome = true
  res x := [.c (.d (.bool ((r6 x).getD default)))]
  al := false
def tb6 : Fns := lk []
theorem tb6_ok : FnsOk Tryz.prog tb6 := FnsOk.nil
theorem v6 : Valid Tryz.prog 6 T6.sp := by
  refine valid_t (fn := Tryz.f6) (n := 6) ty_ok tb6_ok Tryz.func6 rfl Tryz.ntmps6 ?_
  rintro a0 hx
  obtain ⟨r, hr⟩ := Option.isSome_iff_exists.1 (show (r6 a0).isSome = true from hx)
  have hres : T6.res a0 = [.c (.d (.bool r))] := by simp only [T6, hr, Option.getD_some]
  refine ⟨Nat.le_of_ble_eq_true rfl, fun stop S => ?_⟩
  rw [hres] at S
  unfold r6 at hr
  refine S.goB [] 1000 ?_
  simp (maxSteps := 10000000) only [go_sem, T6, Option.map_some, Int.reduceToNat, Nat.reduceEqDiff, Nat.reduceLT, Nat.reduceAdd, Nat.reduceMul, Nat.reduceSub, Nat.reduceLeDiff, reduceIte, reduceCtorEq, Tryz.results6]
  repeat refine gA ?_
  obtain rfl := Option.some.inj hr
  (simp (maxDischargeDepth := 8) [go_sem])
theorem f6 : FnFact Tryz.prog 6 T6.sp := ⟨⟨Tryz.f6, Tryz.func6, by decide, rfl⟩, v6⟩

/- martensite/martensitelaw03.short -/
def r30 (a0 : Int) : Option (Bool) :=
  some ((decide (a0 ≤ 20)) || ((decide (a0 > 200)) && (decide (a0 ≤ 202))))
def T30 : TSpec (Int) where
  enc x := [.c (.int .i64 x)]
  dec a := dInt (aCell a 0 0)
  pre x := (r30 x).isSome = true
  res x := [.c (.d (.bool ((r30 x).getD default)))]
  al := false
def tb30 : Fns := lk []
theorem tb30_ok : FnsOk Tryz.prog tb30 := FnsOk.nil
theorem v30 : Valid Tryz.prog 30 T30.sp := by
  refine valid_t (fn := Tryz.f30) (n := 13) ty_ok tb30_ok Tryz.func30 rfl Tryz.ntmps30 ?_
  rintro a0 hx
  obtain ⟨r, hr⟩ := Option.isSome_iff_exists.1 (show (r30 a0).isSome = true from hx)
  have hres : T30.res a0 = [.c (.d (.bool r))] := by simp only [T30, hr, Option.getD_some]
  refine ⟨Nat.le_of_ble_eq_true rfl, fun stop S => ?_⟩
  rw [hres] at S
  unfold r30 at hr
  refine S.goB [] 1000 ?_
  simp (maxSteps := 10000000) only [go_sem, T30, Option.map_some, Int.reduceToNat, Nat.reduceEqDiff, Nat.reduceLT, Nat.reduceAdd, Nat.reduceMul, Nat.reduceSub, Nat.reduceLeDiff, reduceIte, reduceCtorEq, Tryz.results30]
  repeat (first | refine gA ?_ | refine gB ?_)
  obtain rfl := Option.some.inj hr
  (simp (maxDischargeDepth := 8) [go_sem])
theorem f30 : FnFact Tryz.prog 30 T30.sp := ⟨⟨Tryz.f30, Tryz.func30, by decide, rfl⟩, v30⟩

/- martensite/martensitelaw03.spans -/
def b7_1 (a0 : List ((List (Int × Int)) × Int × Int)) : (Int) → Ctl (Int) (Bool) := fun s1 =>
  if (decide (s1 < (a0.length : Int))) = true then
   if 0 ≤ s1 ∧ s1 < (a0.length : Int) then
    if (decide ((((a0.getD s1.toNat default).1).length : Int) > 14)) = true then
     .out (some false)
     else .next (IntKind.i64.wrap (s1 + 1))
    else .out none
   else .out ((r30 (a0.length : Int)).bind fun v2 =>
    some v2)
def r7 (a0 : List ((List (Int × Int)) × Int × Int)) : Option (Bool) :=
  iterC (b7_1 a0) 10000000000000000000 0
def T7 : TSpec ((List ((List (Int × Int)) × Int × Int))) where
  enc x := [.c (encF 3 d_LIIEII x)]
  dec a := decF g_LIIEII (aCell a 0 0)
  pre x := (r7 x).isSome = true
  res x := [.c (.d (.bool ((r7 x).getD default)))]
  al := false
def tb7 : Fns := lk [(30, T30.sp)]
theorem tb7_ok : FnsOk Tryz.prog tb7 := .cons f30 (FnsOk.nil)
theorem tb7_30 : tb7 30 = some T30.sp := rfl
theorem v7 : Valid Tryz.prog 7 T7.sp := by
  refine valid_t (fn := Tryz.f7) (n := 20) ty_ok tb7_ok Tryz.func7 rfl Tryz.ntmps7 ?_
  rintro a0 hx
  obtain ⟨r, hr⟩ := Option.isSome_iff_exists.1 (show (r7 a0).isSome = true from hx)
  have hres : T7.res a0 = [.c (.d (.bool r))] := by simp only [T7, hr, Option.getD_some]
  refine ⟨Nat.le_of_ble_eq_true rfl, fun stop S => ?_⟩
  rw [hres] at S
  unfold r7 at hr
  refine S.goB [] 1000 ?_
  simp (maxSteps := 10000000) only [go_sem, tb7_30, T30, T7, Option.map_some, Int.reduceToNat, Nat.reduceEqDiff, Nat.reduceLT, Nat.reduceAdd, Nat.reduceMul, Nat.reduceSub, Nat.reduceLeDiff, reduceIte, reduceCtorEq, Tryz.results7]
  repeat refine gA ?_
  refine S.sees [0, 3] [] [] ?_ (Stop.iter S (fun s1 => ⟨[(0, .c (.d (encF 3 d_LIIEII a0))), (3, .c (.d (.int .i64 s1)))], [], []⟩) (b7_1 a0) (fun q => q = r) hr rfl ?_)
  · (simp (maxDischargeDepth := 8) [go_sem])
  · intro s1 hr
    unfold b7_1 at hr
    refine S.goB [] 1000 ?_
    simp (maxSteps := 10000000) only [go_sem, tb7_30, T30, T7, Option.map_some, Int.reduceToNat, Nat.reduceEqDiff, Nat.reduceLT, Nat.reduceAdd, Nat.reduceMul, Nat.reduceSub, Nat.reduceLeDiff, reduceIte, reduceCtorEq, Tryz.results7]
    repeat refine gA ?_
    refine ⟨fun hc => ?_, fun hc => ?_⟩
    · replace hr := ifP1 hr hc
      obtain ⟨hg1, hr⟩ := of_guard1 hr
      repeat refine gA ?_
      refine ⟨fun hc => ?_, fun hc => ?_⟩
      · replace hr := ifP1 hr hc
        repeat refine gA ?_
        have hr := of_out0 hr
        obtain rfl := Option.some.inj hr
        (simp (maxDischargeDepth := 8) [go_sem])
      · replace hr := ifN1 hr hc
        repeat refine gA ?_
        refine S.sees [0, 3] [] [] ?_ hr
        (simp (maxDischargeDepth := 8) [go_sem])
    · replace hr := ifN1 hr hc
      repeat refine gA ?_
      have hr := of_out0 hr
      obtain ⟨v2, hv2, hr⟩ := of_bind0 hr
      try simp only [hv2, Option.getD_some, Option.isSome_some, true_and, and_assoc]
      repeat refine gA ?_
      obtain rfl := Option.some.inj hr
      (simp (maxDischargeDepth := 8) [go_sem])
theorem f7 : FnFact Tryz.prog 7 T7.sp := ⟨⟨Tryz.f7, Tryz.func7, by decide, rfl⟩, v7⟩

/- martensite/martensiteref03.CopySetup -/
def b9_1 (a0_0 : Int) (a0_1 : Int) (a0_2 : List (Int × Int)) (a0_3 : List ((List (Int × Int)))) : (Int × (List ((List (Int × Int))))) → Ctl (Int × (List ((List (Int × Int))))) (Int × Int × (List (Int × Int)) × (List ((List (Int × Int))))) := fun s1 =>
  if (decide (s1.1 < (a0_3.length : Int))) = true then
   if 0 ≤ s1.1 ∧ s1.1 < (a0_3.length : Int) then
    if (0 + (a0_3.getD s1.1.toNat default).length) * 16 ≤ 140737488355328 ∧ 0 + (a0_3.getD s1.1.toNat default).length ≤ 9223372036854775807 then
     if (s1.2.length + 1) * 24 ≤ 140737488355328 ∧ s1.2.length + 1 ≤ 9223372036854775807 then
      .next (IntKind.i64.wrap (s1.1 + 1), s1.2 ++ [(a0_3.getD s1.1.toNat default)])
      else .out none
     else .out none
    else .out none
   else .out (some (a0_0, a0_1, a0_2, s1.2))
def r9 (a0_0 : Int) (a0_1 : Int) (a0_2 : List (Int × Int)) (a0_3 : List ((List (Int × Int)))) : Option (Int × Int × (List (Int × Int)) × (List ((List (Int × Int))))) :=
  if (0 + a0_2.length) * 16 ≤ 140737488355328 ∧ 0 + a0_2.length ≤ 9223372036854775807 then
   iterC (b9_1 a0_0 a0_1 a0_2 a0_3) 1000000000 (0, [])
   else none
def T9 : TSpec (Int × Int × (List (Int × Int)) × (List ((List (Int × Int))))) where
  enc x := [.agg [.int .i64 x.1, .int .i64 x.2.1, encF 2 d_II x.2.2.1, encF 1 d_LIIE x.2.2.2]]
  dec a := (dInt (aCell a 0 0), dInt (aCell a 0 1), decF g_II (aCell a 0 2), decF g_LIIE (aCell a 0 3))
  pre x := (r9 x.1 x.2.1 x.2.2.1 x.2.2.2).isSome = true
  res x := [.agg [.d (.int .i64 (((r9 x.1 x.2.1 x.2.2.1 x.2.2.2).getD default).1)), .d (.int .i64 (((r9 x.1 x.2.1 x.2.2.1 x.2.2.2).getD default).2.1)), .own (encF 2 d_II (((r9 x.1 x.2.1 x.2.2.1 x.2.2.2).getD default).2.2.1)), .own (encF 1 d_LIIE (((r9 x.1 x.2.1 x.2.2.1 x.2.2.2).getD default).2.2.2))]]
  al := true
def tb9 : Fns := lk []
theorem tb9_ok : FnsOk Tryz.prog tb9 := FnsOk.nil
theorem v9 : Valid Tryz.prog 9 T9.sp := by
  refine valid_t (fn := Tryz.f9) (n := 32) ty_ok tb9_ok Tryz.func9 rfl Tryz.ntmps9 ?_
  rintro ⟨a0_0, a0_1, a0_2, a0_3⟩ hx
  obtain ⟨r, hr⟩ := Option.isSome_iff_exists.1 (show (r9 a0_0 a0_1 a0_2 a0_3).isSome = true from hx)
  have hres : T9.res (a0_0, a0_1, a0_2, a0_3) = [.agg [.d (.int .i64 r.1), .d (.int .i64 r.2.1), .own (encF 2 d_II r.2.2.1), .own (encF 1 d_LIIE r.2.2.2)]] := by simp only [T9, hr, Option.getD_some]
  refine ⟨Nat.le_of_ble_eq_true rfl, fun stop S => ?_⟩
  rw [hres] at S
  unfold r9 at hr
  refine S.goB [] 1000 ?_
  simp (maxSteps := 10000000) only [go_sem, T9, Option.map_some, Int.reduceToNat, Nat.reduceEqDiff, Nat.reduceLT, Nat.reduceAdd, Nat.reduceMul, Nat.reduceSub, Nat.reduceLeDiff, reduceIte, reduceCtorEq, Tryz.results9]
  obtain ⟨hg4, hr⟩ := of_guard0 hr
  repeat refine gA ?_
  refine S.own0b 3 3 2000303 1 rfl rfl (Nat.le_of_ble_eq_true rfl) rfl ?_
  refine S.sees [1, 2, 3, 4] [(1, 1), (2, 2), (3, 3)] [(2000303, 2000303), (9, 9)] ?_ (Stop.iter S (fun s1 => ⟨[(1, .c (.ref 1 0)), (2, .c (.ref 2 0)), (3, .c (.ref 3 0)), (4, .c (.d (.int .i64 s1.1)))], [(1, [.d (.int .i64 a0_0), .d (.int .i64 a0_1), .d (encF 2 d_II a0_2), .d (encF 1 d_LIIE a0_3)]), (2, [.d (.int .i64 0), .d (.int .i64 0), .nils, .nils]), (3, [.d (.int .i64 a0_0), .d (.int .i64 a0_1), .own 9, .own 2000303])], [(2000303, .owned (encF 1 d_LIIE s1.2)), (9, .owned (encF 2 d_II a0_2))]⟩) (b9_1 a0_0 a0_1 a0_2 a0_3) (fun q => q = r) hr rfl ?_)
  · (simp (maxDischargeDepth := 8) [go_sem])
  · intro s1 hr
    unfold b9_1 at hr
    refine S.goB [] 1000 ?_
    simp (maxSteps := 10000000) only [go_sem, T9, Option.map_some, Int.reduceToNat, Nat.reduceEqDiff, Nat.reduceLT, Nat.reduceAdd, Nat.reduceMul, Nat.reduceSub, Nat.reduceLeDiff, reduceIte, reduceCtorEq, Tryz.results9]
    repeat refine gA ?_
    refine ⟨fun hc => ?_, fun hc => ?_⟩
    · replace hr := ifP1 hr hc
      obtain ⟨hg1, hr⟩ := of_guard1 hr
      obtain ⟨hg2, hr⟩ := of_guard1 hr
      obtain ⟨hg3, hr⟩ := of_guard1 hr
      repeat refine gA ?_
      refine S.sees [1, 2, 3, 4] [(1, 1), (2, 2), (3, 3)] [(29, 2000303), (9, 9)] ?_ hr
      (simp (maxDischargeDepth := 8) [go_sem])
    · replace hr := ifN1 hr hc
      repeat refine gA ?_
      have hr := of_out0 hr
      repeat refine gA ?_
      obtain rfl := Option.some.inj hr
      (simp (maxDischargeDepth := 8) [go_sem])
theorem f9 : FnFact Tryz.prog 9 T9.sp := ⟨⟨Tryz.f9, Tryz.func9, by decide, rfl⟩, v9⟩

/- martensite/martensitebase.CopyInts -/
def r10 (a0 : List (Int)) : Option ((List (Int))) :=
  if (0 + a0.length) * 8 ≤ 140737488355328 ∧ 0 + a0.length ≤ 9223372036854775807 then
   some a0
   else none
def T10 : TSpec ((List (Int))) where
  enc x := [.c (encF 1 d_I x)]
  dec a := decF g_I (aCell a 0 0)
  pre x := (r10 x).isSome = true
  res x := [.c (.own (encF 1 d_I ((r10 x).getD default)))]
  al := false
def tb10 : Fns := lk []
theorem tb10_ok : FnsOk Tryz.prog tb10 := FnsOk.nil
theorem v10 : Valid Tryz.prog 10 T10.sp := by
  refine valid_t (fn := Tryz.f10) (n := 6) ty_ok tb10_ok Tryz.func10 rfl Tryz.ntmps10 ?_
  rintro a0 hx
  obtain ⟨r, hr⟩ := Option.isSome_iff_exists.1 (show (r10 a0).isSome = true from hx)
  have hres : T10.res a0 = [.c (.own (encF 1 d_I r))] := by simp only [T10, hr, Option.getD_some]
  refine ⟨Nat.le_of_ble_eq_true rfl, fun stop S => ?_⟩
  rw [hres] at S
  unfold r10 at hr
  refine S.goB [] 1000 ?_
  simp (maxSteps := 10000000) only [go_sem, T10, Option.map_some, Int.reduceToNat, Nat.reduceEqDiff, Nat.reduceLT, Nat.reduceAdd, Nat.reduceMul, Nat.reduceSub, Nat.reduceLeDiff, reduceIte, reduceCtorEq, Tryz.results10]
  obtain ⟨hg1, hr⟩ := of_guard0 hr
  repeat refine gA ?_
  obtain rfl := Option.some.inj hr
  (simp (maxDischargeDepth := 8) [go_sem])
theorem f10 : FnFact Tryz.prog 10 T10.sp := ⟨⟨Tryz.f10, Tryz.func10, by decide, rfl⟩, v10⟩

/- martensite/martensiteref03.CopyBox -/
def r12 (a0_0 : List (Int)) (a0_1 : List (Int)) : Option ((List (Int)) × (List (Int))) :=
  (r10 a0_0).bind fun v1 =>
   (r10 a0_1).bind fun v2 =>
    some (v1, v2)
def T12 : TSpec ((List (Int)) × (List (Int))) where
  enc x := [.agg [encF 1 d_I x.1, encF 1 d_I x.2]]
  dec a := (decF g_I (aCell a 0 0), decF g_I (aCell a 0 1))
  pre x := (r12 x.1 x.2).isSome = true
  res x := [.agg [.own (encF 1 d_I (((r12 x.1 x.2).getD default).1)), .own (encF 1 d_I (((r12 x.1 x.2).getD default).2))]]
  al := false
def tb12 : Fns := lk [(10, T10.sp)]
theorem tb12_ok : FnsOk Tryz.prog tb12 := .cons f10 (FnsOk.nil)
theorem tb12_10 : tb12 10 = some T10.sp := rfl
theorem v12 : Valid Tryz.prog 12 T12.sp := by
  refine valid_t (fn := Tryz.f12) (n := 10) ty_ok tb12_ok Tryz.func12 rfl Tryz.ntmps12 ?_
  rintro ⟨a0_0, a0_1⟩ hx
  obtain ⟨r, hr⟩ := Option.isSome_iff_exists.1 (show (r12 a0_0 a0_1).isSome = true from hx)
  have hres : T12.res (a0_0, a0_1) = [.agg [.own (encF 1 d_I r.1), .own (encF 1 d_I r.2)]] := by simp only [T12, hr, Option.getD_some]
  refine ⟨Nat.le_of_ble_eq_true rfl, fun stop S => ?_⟩
  rw [hres] at S
  unfold r12 at hr
  refine S.goB [] 1000 ?_
  simp (maxSteps := 10000000) only [go_sem, tb12_10, T10, T12, Option.map_some, Int.reduceToNat, Nat.reduceEqDiff, Nat.reduceLT, Nat.reduceAdd, Nat.reduceMul, Nat.reduceSub, Nat.reduceLeDiff, reduceIte, reduceCtorEq, Tryz.results12]
  obtain ⟨v1, hv1, hr⟩ := of_bind0 hr
  obtain ⟨v2, hv2, hr⟩ := of_bind0 hr
  try simp only [hv1, hv2, Option.getD_some, Option.isSome_some, true_and, and_assoc]
  repeat refine gA ?_
  obtain rfl := Option.some.inj hr
  (simp (maxDischargeDepth := 8) [go_sem])
theorem f12 : FnFact Tryz.prog 12 T12.sp := ⟨⟨Tryz.f12, Tryz.func12, by decide, rfl⟩, v12⟩

/- martensite/martensiteref03.CopySpan -/
def r69 (a0_0 : List (Int × Int)) (a0_1 : Int) (a0_2 : Int) : Option ((List (Int × Int)) × Int × Int) :=
  if (0 + a0_0.length) * 16 ≤ 140737488355328 ∧ 0 + a0_0.length ≤ 9223372036854775807 then
   some (a0_0, a0_1, a0_2)
   else none
def T69 : TSpec ((List (Int × Int)) × Int × Int) where
  enc x := [.agg [encF 2 d_II x.1, .int .i64 x.2.1, .int .i64 x.2.2]]
  dec a := (decF g_II (aCell a 0 0), dInt (aCell a 0 1), dInt (aCell a 0 2))
  pre x := (r69 x.1 x.2.1 x.2.2).isSome = true
  res x := [.agg [.own (encF 2 d_II (((r69 x.1 x.2.1 x.2.2).getD default).1)), .d (.int .i64 (((r69 x.1 x.2.1 x.2.2).getD default).2.1)), .d (.int .i64 (((r69 x.1 x.2.1 x.2.2).getD default).2.2))]]
  al := false
def tb69 : Fns := lk []
theorem tb69_ok : FnsOk Tryz.prog tb69 := FnsOk.nil
theorem v69 : Valid Tryz.prog 69 T69.sp := by
  refine valid_t (fn := Tryz.f69) (n := 9) ty_ok tb69_ok Tryz.func69 rfl Tryz.ntmps69 ?_
  rintro ⟨a0_0, a0_1, a0_2⟩ hx
  obtain ⟨r, hr⟩ := Option.isSome_iff_exists.1 (show (r69 a0_0 a0_1 a0_2).isSome = true from hx)
  have hres : T69.res (a0_0, a0_1, a0_2) = [.agg [.own (encF 2 d_II r.1), .d (.int .i64 r.2.1), .d (.int .i64 r.2.2)]] := by simp only [T69, hr, Option.getD_some]
  refine ⟨Nat.le_of_ble_eq_true rfl, fun stop S => ?_⟩
  rw [hres] at S
  unfold r69 at hr
  refine S.goB [] 1000 ?_
  simp (maxSteps := 10000000) only [go_sem, T69, Option.map_some, Int.reduceToNat, Nat.reduceEqDiff, Nat.reduceLT, Nat.reduceAdd, Nat.reduceMul, Nat.reduceSub, Nat.reduceLeDiff, reduceIte, reduceCtorEq, Tryz.results69]
  obtain ⟨hg1, hr⟩ := of_guard0 hr
  repeat refine gA ?_
  obtain rfl := Option.some.inj hr
  (simp (maxDischargeDepth := 8) [go_sem])
theorem f69 : FnFact Tryz.prog 69 T69.sp := ⟨⟨Tryz.f69, Tryz.func69, by decide, rfl⟩, v69⟩

/- martensite/martensiteref03.CopySpans -/
def b38_1 (a0 : List ((List (Int × Int)) × Int × Int)) : ((List ((List (Int × Int)) × Int × Int)) × Int) → Ctl ((List ((List (Int × Int)) × Int × Int)) × Int) ((List ((List (Int × Int)) × Int × Int))) := fun s1 =>
  if (decide (s1.2 < (a0.length : Int))) = true then
   if 0 ≤ s1.2 ∧ s1.2 < (a0.length : Int) then
    bindC (r69 ((a0.getD s1.2.toNat default).1) ((a0.getD s1.2.toNat default).2.1) ((a0.getD s1.2.toNat default).2.2)) fun v1 =>
     if (s1.1.length + 1) * 40 ≤ 140737488355328 ∧ s1.1.length + 1 ≤ 9223372036854775807 then
      .next (s1.1 ++ [(v1.1, v1.2.1, v1.2.2)], IntKind.i64.wrap (s1.2 + 1))
      else .out none
    else .out none
   else .out (some s1.1)
def r38 (a0 : List ((List (Int × Int)) × Int × Int)) : Option ((List ((List (Int × Int)) × Int × Int))) :=
  iterC (b38_1 a0) 1000000000 ([], 0)
def T38 : TSpec ((List ((List (Int × Int)) × Int × Int))) where
  enc x := [.c (encF 3 d_LIIEII x)]
  dec a := decF g_LIIEII (aCell a 0 0)
  pre x := (r38 x).isSome = true
  res x := [.c (.own (encF 3 d_LIIEII ((r38 x).getD default)))]
  al := true
def tb38 : Fns := lk [(69, T69.sp)]
theorem tb38_ok : FnsOk Tryz.prog tb38 := .cons f69 (FnsOk.nil)
theorem tb38_69 : tb38 69 = some T69.sp := rfl
theorem v38 : Valid Tryz.prog 38 T38.sp := by
  refine valid_t (fn := Tryz.f38) (n := 20) ty_ok tb38_ok Tryz.func38 rfl Tryz.ntmps38 ?_
  rintro a0 hx
  obtain ⟨r, hr⟩ := Option.isSome_iff_exists.1 (show (r38 a0).isSome = true from hx)
  have hres : T38.res a0 = [.c (.own (encF 3 d_LIIEII r))] := by simp only [T38, hr, Option.getD_some]
  refine ⟨Nat.le_of_ble_eq_true rfl, fun stop S => ?_⟩
  rw [hres] at S
  unfold r38 at hr
  refine S.goB [] 1000 ?_
  simp (maxSteps := 10000000) only [go_sem, tb38_69, T69, T38, Option.map_some, Int.reduceToNat, Nat.reduceEqDiff, Nat.reduceLT, Nat.reduceAdd, Nat.reduceMul, Nat.reduceSub, Nat.reduceLeDiff, reduceIte, reduceCtorEq, Tryz.results38]
  repeat refine gA ?_
  refine S.own0 3 1000300 3 rfl rfl ?_
  refine S.sees [0, 3, 4] [] [(1000300, 1000300)] ?_ (Stop.iter S (fun s1 => ⟨[(0, .c (.d (encF 3 d_LIIEII a0))), (3, .c (.own 1000300)), (4, .c (.d (.int .i64 s1.2)))], [], [(1000300, .owned (encF 3 d_LIIEII s1.1))]⟩) (b38_1 a0) (fun q => q = r) hr rfl ?_)
  · (simp (maxDischargeDepth := 8) [go_sem])
  · intro s1 hr
    unfold b38_1 at hr
    refine S.goB [] 1000 ?_
    simp (maxSteps := 10000000) only [go_sem, tb38_69, T69, T38, Option.map_some, Int.reduceToNat, Nat.reduceEqDiff, Nat.reduceLT, Nat.reduceAdd, Nat.reduceMul, Nat.reduceSub, Nat.reduceLeDiff, reduceIte, reduceCtorEq, Tryz.results38]
    repeat refine gA ?_
    refine ⟨fun hc => ?_, fun hc => ?_⟩
    · replace hr := ifP1 hr hc
      obtain ⟨hg2, hr⟩ := of_guard1 hr
      obtain ⟨v1, hv1, hr⟩ := of_bind1 hr
      obtain ⟨hg3, hr⟩ := of_guard1 hr
      try simp only [hv1, Option.getD_some, Option.isSome_some, true_and, and_assoc]
      repeat refine gA ?_
      refine S.sees [0, 3, 4] [] [(18, 1000300)] ?_ hr
      (simp (maxDischargeDepth := 8) [go_sem])
    · replace hr := ifN1 hr hc
      repeat refine gA ?_
      have hr := of_out0 hr
      repeat refine gA ?_
      obtain rfl := Option.some.inj hr
      (simp (maxDischargeDepth := 8) [go_sem])
theorem f38 : FnFact Tryz.prog 38 T38.sp := ⟨⟨Tryz.f38, Tryz.func38, by decide, rfl⟩, v38⟩

/- martensite/martensiteref03.CopyHistory -/
def r13 (a0_0 : List ((List (Int × Int)) × Int × Int)) (a0_1 : Int) : Option ((List ((List (Int × Int)) × Int × Int)) × Int) :=
  (r38 a0_0).bind fun v1 =>
   some (v1, a0_1)
def T13 : TSpec ((List ((List (Int × Int)) × Int × Int)) × Int) where
  enc x := [.agg [encF 3 d_LIIEII x.1, .int .i64 x.2]]
  dec a := (decF g_LIIEII (aCell a 0 0), dInt (aCell a 0 1))
  pre x := (r13 x.1 x.2).isSome = true
  res x := [.agg [.own (encF 3 d_LIIEII (((r13 x.1 x.2).getD default).1)), .d (.int .i64 (((r13 x.1 x.2).getD default).2))]]
  al := true
def tb13 : Fns := lk [(38, T38.sp)]
theorem tb13_ok : FnsOk Tryz.prog tb13 := .cons f38 (FnsOk.nil)
theorem tb13_38 : tb13 38 = some T38.sp := rfl
theorem v13 : Valid Tryz.prog 13 T13.sp := by
  refine valid_t (fn := Tryz.f13) (n := 8) ty_ok tb13_ok Tryz.func13 rfl Tryz.ntmps13 ?_
  rintro ⟨a0_0, a0_1⟩ hx
  obtain ⟨r, hr⟩ := Option.isSome_iff_exists.1 (show (r13 a0_0 a0_1).isSome = true from hx)
  have hres : T13.res (a0_0, a0_1) = [.agg [.own (encF 3 d_LIIEII r.1), .d (.int .i64 r.2)]] := by simp only [T13, hr, Option.getD_some]
  refine ⟨Nat.le_of_ble_eq_true rfl, fun stop S => ?_⟩
  rw [hres] at S
  unfold r13 at hr
  refine S.goB [] 1000 ?_
  simp (maxSteps := 10000000) only [go_sem, tb13_38, T38, T13, Option.map_some, Int.reduceToNat, Nat.reduceEqDiff, Nat.reduceLT, Nat.reduceAdd, Nat.reduceMul, Nat.reduceSub, Nat.reduceLeDiff, reduceIte, reduceCtorEq, Tryz.results13]
  obtain ⟨v1, hv1, hr⟩ := of_bind0 hr
  try simp only [hv1, Option.getD_some, Option.isSome_some, true_and, and_assoc]
  repeat refine gA ?_
  obtain rfl := Option.some.inj hr
  (simp (maxDischargeDepth := 8) [go_sem])
theorem f13 : FnFact Tryz.prog 13 T13.sp := ⟨⟨Tryz.f13, Tryz.func13, by decide, rfl⟩, v13⟩

/- (martensite/heat.part).spansErr -/
def b67_1 (a0_0 : Int) (a0_1 : Int) (a0_2 : List (Int × Int)) (a0_3 : List ((List (Int × Int)))) (a0_4 : List (Int × Int)) (a0_5 : List ((List (Int × Int)))) (a1 : List ((List (Int × Int)) × Int × Int)) : (Int × Int) → Ctl (Int × Int) (Int) := fun s1 =>
  if (decide (s1.2 < (a1.length : Int))) = true then
   if 0 ≤ s1.2 ∧ s1.2 < (a1.length : Int) then
    bindC (r56 a0_0 a0_1 a0_2 a0_3 a0_4 a0_5 ((a1.getD s1.2.toNat default).1) ((a1.getD s1.2.toNat default).2.1) ((a1.getD s1.2.toNat default).2.2)) fun v2 =>
     bindC (r32 [s1.1, v2]) fun v3 =>
      .next (v3, IntKind.i64.wrap (s1.2 + 1))
    else .out none
   else .out (some s1.1)
def r67 (a0_0 : Int) (a0_1 : Int) (a0_2 : List (Int × Int)) (a0_3 : List ((List (Int × Int)))) (a0_4 : List (Int × Int)) (a0_5 : List ((List (Int × Int)))) (a1 : List ((List (Int × Int)) × Int × Int)) : Option (Int) :=
  (r58 (decide ((a1.length : Int) ≤ 200)) 8).bind fun v1 =>
   iterC (b67_1 a0_0 a0_1 a0_2 a0_3 a0_4 a0_5 a1) 1000000000 (v1, 0)
def T67 : TSpec (Int × Int × (List (Int × Int)) × (List ((List (Int × Int)))) × (List (Int × Int)) × (List ((List (Int × Int)))) × (List ((List (Int × Int)) × Int × Int))) where
  enc x := [.agg [.int .i64 x.1, .int .i64 x.2.1, encF 2 d_II x.2.2.1, encF 1 d_LIIE x.2.2.2.1, encF 2 d_II x.2.2.2.2.1, encF 1 d_LIIE x.2.2.2.2.2.1], .c (encF 3 d_LIIEII x.2.2.2.2.2.2)]
  dec a := (dInt (aCell a 0 0), dInt (aCell a 0 1), decF g_II (aCell a 0 2), decF g_LIIE (aCell a 0 3), decF g_II (aCell a 0 4), decF g_LIIE (aCell a 0 5), decF g_LIIEII (aCell a 1 0))
  pre x := (r67 x.1 x.2.1 x.2.2.1 x.2.2.2.1 x.2.2.2.2.1 x.2.2.2.2.2.1 x.2.2.2.2.2.2).isSome = true
  res x := [.c (.d (.int .i64 ((r67 x.1 x.2.1 x.2.2.1 x.2.2.2.1 x.2.2.2.2.1 x.2.2.2.2.2.1 x.2.2.2.2.2.2).getD default)))]
  al := false
def tb67 : Fns := lk [(32, T32.sp), (56, T56.sp), (58, T58.sp)]
theorem tb67_ok : FnsOk Tryz.prog tb67 := .cons f32 (.cons f56 (.cons f58 (FnsOk.nil)))
theorem tb67_32 : tb67 32 = some T32.sp := rfl
theorem tb67_56 : tb67 56 = some T56.sp := rfl
theorem tb67_58 : tb67 58 = some T58.sp := rfl
theorem v67 : Valid Tryz.prog 67 T67.sp := by
  refine valid_t (fn := Tryz.f67) (n := 26) ty_ok tb67_ok Tryz.func67 rfl Tryz.ntmps67 ?_
  rintro ⟨a0_0, a0_1, a0_2, a0_3, a0_4, a0_5, a1⟩ hx
  obtain ⟨r, hr⟩ := Option.isSome_iff_exists.1 (show (r67 a0_0 a0_1 a0_2 a0_3 a0_4 a0_5 a1).isSome = true from hx)
  have hres : T67.res (a0_0, a0_1, a0_2, a0_3, a0_4, a0_5, a1) = [.c (.d (.int .i64 r))] := by simp only [T67, hr, Option.getD_some]
  refine ⟨Nat.le_of_ble_eq_true rfl, fun stop S => ?_⟩
  rw [hres] at S
  unfold r67 at hr
  refine S.goB [] 1000 ?_
  simp (maxSteps := 10000000) only [go_sem, tb67_32, T32, tb67_56, T56, tb67_58, T58, T67, Option.map_some, Int.reduceToNat, Nat.reduceEqDiff, Nat.reduceLT, Nat.reduceAdd, Nat.reduceMul, Nat.reduceSub, Nat.reduceLeDiff, reduceIte, reduceCtorEq, Tryz.results67]
  obtain ⟨v1, hv1, hr⟩ := of_bind0 hr
  try simp only [hv1, Option.getD_some, Option.isSome_some, true_and, and_assoc]
  repeat refine gA ?_
  refine S.sees [2, 5, 12, 13, 14] [(2, 2)] [] ?_ (Stop.iter S (fun s1 => ⟨[(2, .c (.ref 2 0)), (5, .c (.d (.int .i64 s1.1))), (12, .c (.d (encF 3 d_LIIEII a1))), (13, .c (.d (.int .i64 (a1.length : Int)))), (14, .c (.d (.int .i64 s1.2)))], [(2, [.d (.int .i64 a0_0), .d (.int .i64 a0_1), .d (encF 2 d_II a0_2), .d (encF 1 d_LIIE a0_3), .d (encF 2 d_II a0_4), .d (encF 1 d_LIIE a0_5)])], []⟩) (b67_1 a0_0 a0_1 a0_2 a0_3 a0_4 a0_5 a1) (fun q => q = r) hr rfl ?_)
  · (simp (maxDischargeDepth := 8) [go_sem])
  · intro s1 hr
    unfold b67_1 at hr
    refine S.goB [] 1000 ?_
    simp (maxSteps := 10000000) only [go_sem, tb67_32, T32, tb67_56, T56, tb67_58, T58, T67, Option.map_some, Int.reduceToNat, Nat.reduceEqDiff, Nat.reduceLT, Nat.reduceAdd, Nat.reduceMul, Nat.reduceSub, Nat.reduceLeDiff, reduceIte, reduceCtorEq, Tryz.results67]
    repeat refine gA ?_
    refine ⟨fun hc => ?_, fun hc => ?_⟩
    · replace hr := ifP1 hr hc
      obtain ⟨hg4, hr⟩ := of_guard1 hr
      obtain ⟨v2, hv2, hr⟩ := of_bind1 hr
      obtain ⟨v3, hv3, hr⟩ := of_bind1 hr
      try simp only [hv2, hv3, Option.getD_some, Option.isSome_some, true_and, and_assoc]
      repeat refine gA ?_
      refine S.sees [2, 5, 12, 13, 14] [(2, 2)] [] ?_ hr
      (simp (maxDischargeDepth := 8) [go_sem])
    · replace hr := ifN1 hr hc
      repeat refine gA ?_
      have hr := of_out0 hr
      repeat refine gA ?_
      obtain rfl := Option.some.inj hr
      (simp (maxDischargeDepth := 8) [go_sem])
theorem f67 : FnFact Tryz.prog 67 T67.sp := ⟨⟨Tryz.f67, Tryz.func67, by decide, rfl⟩, v67⟩

/- martensite/heat.openHistory -/
def r35 (a0_0 : Int) (a0_1 : Int) (a0_2 : List (Int × Int)) (a0_3 : List ((List (Int × Int)))) (a1_0 : List (Int)) (a1_1 : List (Int)) (a2_0 : List ((List (Int × Int)) × Int × Int)) (a2_1 : Int) : Option (Int × Int × (List (Int × Int)) × (List ((List (Int × Int)))) × (List (Int × Int)) × (List ((List (Int × Int)))) × Int) :=
  (r55 a0_0 a0_1 a0_2 a0_3 a1_0 a1_1).bind fun v1 =>
   if (v1.2.2.2.2.2.2 == 0) = true then
    (r67 v1.1 v1.2.1 v1.2.2.1 v1.2.2.2.1 v1.2.2.2.2.1 v1.2.2.2.2.2.1 a2_0).bind fun v2 =>
     (r33 a2_1).bind fun v3 =>
      (r32 [v2, v3]).bind fun v4 =>
       some (v1.1, v1.2.1, v1.2.2.1, v1.2.2.2.1, v1.2.2.2.2.1, v1.2.2.2.2.2.1, v4)
    else some (v1.1, v1.2.1, v1.2.2.1, v1.2.2.2.1, v1.2.2.2.2.1, v1.2.2.2.2.2.1, v1.2.2.2.2.2.2)
def T35 : TSpec (Int × Int × (List (Int × Int)) × (List ((List (Int × Int)))) × (List (Int)) × (List (Int)) × (List ((List (Int × Int)) × Int × Int)) × Int) where
  enc x := [.agg [.int .i64 x.1, .int .i64 x.2.1, encF 2 d_II x.2.2.1, encF 1 d_LIIE x.2.2.2.1], .agg [encF 1 d_I x.2.2.2.2.1, encF 1 d_I x.2.2.2.2.2.1], .agg [encF 3 d_LIIEII x.2.2.2.2.2.2.1, .int .i64 x.2.2.2.2.2.2.2]]
  dec a := (dInt (aCell a 0 0), dInt (aCell a 0 1), decF g_II (aCell a 0 2), decF g_LIIE (aCell a 0 3), decF g_I (aCell a 1 0), decF g_I (aCell a 1 1), decF g_LIIEII (aCell a 2 0), dInt (aCell a 2 1))
  pre x := (r35 x.1 x.2.1 x.2.2.1 x.2.2.2.1 x.2.2.2.2.1 x.2.2.2.2.2.1 x.2.2.2.2.2.2.1 x.2.2.2.2.2.2.2).isSome = true
  res x := [.agg [.d (.int .i64 (((r35 x.1 x.2.1 x.2.2.1 x.2.2.2.1 x.2.2.2.2.1 x.2.2.2.2.2.1 x.2.2.2.2.2.2.1 x.2.2.2.2.2.2.2).getD default).1)), .d (.int .i64 (((r35 x.1 x.2.1 x.2.2.1 x.2.2.2.1 x.2.2.2.2.1 x.2.2.2.2.2.1 x.2.2.2.2.2.2.1 x.2.2.2.2.2.2.2).getD default).2.1)), .d (encF 2 d_II (((r35 x.1 x.2.1 x.2.2.1 x.2.2.2.1 x.2.2.2.2.1 x.2.2.2.2.2.1 x.2.2.2.2.2.2.1 x.2.2.2.2.2.2.2).getD default).2.2.1)), .d (encF 1 d_LIIE (((r35 x.1 x.2.1 x.2.2.1 x.2.2.2.1 x.2.2.2.2.1 x.2.2.2.2.2.1 x.2.2.2.2.2.2.1 x.2.2.2.2.2.2.2).getD default).2.2.2.1)), .own (encF 2 d_II (((r35 x.1 x.2.1 x.2.2.1 x.2.2.2.1 x.2.2.2.2.1 x.2.2.2.2.2.1 x.2.2.2.2.2.2.1 x.2.2.2.2.2.2.2).getD default).2.2.2.2.1)), .own (encF 1 d_LIIE (((r35 x.1 x.2.1 x.2.2.1 x.2.2.2.1 x.2.2.2.2.1 x.2.2.2.2.2.1 x.2.2.2.2.2.2.1 x.2.2.2.2.2.2.2).getD default).2.2.2.2.2.1))], .c (.d (.int .i64 (((r35 x.1 x.2.1 x.2.2.1 x.2.2.2.1 x.2.2.2.2.1 x.2.2.2.2.2.1 x.2.2.2.2.2.2.1 x.2.2.2.2.2.2.2).getD default).2.2.2.2.2.2)))]
  al := true
def tb35 : Fns := lk [(32, T32.sp), (33, T33.sp), (55, T55.sp), (67, T67.sp)]
theorem tb35_ok : FnsOk Tryz.prog tb35 := .cons f32 (.cons f33 (.cons f55 (.cons f67 (FnsOk.nil))))
theorem tb35_32 : tb35 32 = some T32.sp := rfl
theorem tb35_33 : tb35 33 = some T33.sp := rfl
theorem tb35_55 : tb35 55 = some T55.sp := rfl
theorem tb35_67 : tb35 67 = some T67.sp := rfl
theorem v35 : Valid Tryz.prog 35 T35.sp := by
  refine valid_t (fn := Tryz.f35) (n := 29) ty_ok tb35_ok Tryz.func35 rfl Tryz.ntmps35 ?_
  rintro ⟨a0_0, a0_1, a0_2, a0_3, a1_0, a1_1, a2_0, a2_1⟩ hx
  obtain ⟨r, hr⟩ := Option.isSome_iff_exists.1 (show (r35 a0_0 a0_1 a0_2 a0_3 a1_0 a1_1 a2_0 a2_1).isSome = true from hx)
  have hres : T35.res (a0_0, a0_1, a0_2, a0_3, a1_0, a1_1, a2_0, a2_1) = [.agg [.d (.int .i64 r.1), .d (.int .i64 r.2.1), .d (encF 2 d_II r.2.2.1), .d (encF 1 d_LIIE r.2.2.2.1), .own (encF 2 d_II r.2.2.2.2.1), .own (encF 1 d_LIIE r.2.2.2.2.2.1)], .c (.d (.int .i64 r.2.2.2.2.2.2))] := by simp only [T35, hr, Option.getD_some]
  refine ⟨Nat.le_of_ble_eq_true rfl, fun stop S => ?_⟩
  rw [hres] at S
  unfold r35 at hr
  refine S.goB [] 1000 ?_
  simp (maxSteps := 10000000) only [go_sem, tb35_32, T32, tb35_33, T33, tb35_55, T55, tb35_67, T67, T35, Option.map_some, Int.reduceToNat, Nat.reduceEqDiff, Nat.reduceLT, Nat.reduceAdd, Nat.reduceMul, Nat.reduceSub, Nat.reduceLeDiff, reduceIte, reduceCtorEq, Tryz.results35]
  obtain ⟨v1, hv1, hr⟩ := of_bind0 hr
  try simp only [hv1, Option.getD_some, Option.isSome_some, true_and, and_assoc]
  repeat refine gA ?_
  refine ⟨fun hc => ?_, fun hc => ?_⟩
  · replace hr := ifP hr hc
    obtain ⟨v2, hv2, hr⟩ := of_bind0 hr
    obtain ⟨v3, hv3, hr⟩ := of_bind0 hr
    obtain ⟨v4, hv4, hr⟩ := of_bind0 hr
    try simp only [hv2, hv3, hv4, Option.getD_some, Option.isSome_some, true_and, and_assoc]
    repeat refine gA ?_
    obtain rfl := Option.some.inj hr
    (simp (maxDischargeDepth := 8) [go_sem])
  · replace hr := ifN hr hc
    repeat refine gA ?_
    obtain rfl := Option.some.inj hr
    (simp (maxDischargeDepth := 8) [go_sem])
theorem f35 : FnFact Tryz.prog 35 T35.sp := ⟨⟨Tryz.f35, Tryz.func35, by decide, rfl⟩, v35⟩

/- (martensite/heat.part).boxes -/
def b36_1 (a0_0 : Int) (a0_1 : Int) (a0_2 : List (Int × Int)) (a0_3 : List ((List (Int × Int)))) (a0_4 : List (Int × Int)) (a0_5 : List ((List (Int × Int)))) (a2 : List ((List (Int × Int)) × Int × Int)) : ((List ((List (Int)) × (List (Int)))) × Int × (List (Int)) × (List (Int))) → Ctl ((List ((List (Int)) × (List (Int)))) × Int × (List (Int)) × (List (Int))) ((List ((List (Int)) × (List (Int)))) × Int) := fun s1 =>
  if (decide (s1.2.1 < (a2.length : Int))) = true then
   if 0 ≤ s1.2.1 ∧ s1.2.1 < (a2.length : Int) then
    bindC (r42 a0_0 a0_1 a0_2 a0_3 a0_4 a0_5 s1.2.2.1 s1.2.2.2 ((a2.getD s1.2.1.toNat default).1) ((a2.getD s1.2.1.toNat default).2.1) ((a2.getD s1.2.1.toNat default).2.2)) fun v1 =>
     if (v1.2.2 != 0) = true then
      .out (some ([], v1.2.2))
      else if (s1.1.length + 1) * 48 ≤ 140737488355328 ∧ s1.1.length + 1 ≤ 9223372036854775807 then
       .next (s1.1 ++ [(v1.1, v1.2.1)], IntKind.i64.wrap (s1.2.1 + 1), v1.1, v1.2.1)
       else .out none
    else .out none
   else .out (some (s1.1, 0))
def r36 (a0_0 : Int) (a0_1 : Int) (a0_2 : List (Int × Int)) (a0_3 : List ((List (Int × Int)))) (a0_4 : List (Int × Int)) (a0_5 : List ((List (Int × Int)))) (a1_0 : List (Int)) (a1_1 : List (Int)) (a2 : List ((List (Int × Int)) × Int × Int)) : Option ((List ((List (Int)) × (List (Int)))) × Int) :=
  iterC (b36_1 a0_0 a0_1 a0_2 a0_3 a0_4 a0_5 a2) 1000000000 ([], 0, a1_0, a1_1)
def T36 : TSpec (Int × Int × (List (Int × Int)) × (List ((List (Int × Int)))) × (List (Int × Int)) × (List ((List (Int × Int)))) × (List (Int)) × (List (Int)) × (List ((List (Int × Int)) × Int × Int))) where
  enc x := [.agg [.int .i64 x.1, .int .i64 x.2.1, encF 2 d_II x.2.2.1, encF 1 d_LIIE x.2.2.2.1, encF 2 d_II x.2.2.2.2.1, encF 1 d_LIIE x.2.2.2.2.2.1], .agg [encF 1 d_I x.2.2.2.2.2.2.1, encF 1 d_I x.2.2.2.2.2.2.2.1], .c (encF 3 d_LIIEII x.2.2.2.2.2.2.2.2)]
  dec a := (dInt (aCell a 0 0), dInt (aCell a 0 1), decF g_II (aCell a 0 2), decF g_LIIE (aCell a 0 3), decF g_II (aCell a 0 4), decF g_LIIE (aCell a 0 5), decF g_I (aCell a 1 0), decF g_I (aCell a 1 1), decF g_LIIEII (aCell a 2 0))
  pre x := (r36 x.1 x.2.1 x.2.2.1 x.2.2.2.1 x.2.2.2.2.1 x.2.2.2.2.2.1 x.2.2.2.2.2.2.1 x.2.2.2.2.2.2.2.1 x.2.2.2.2.2.2.2.2).isSome = true
  res x := [.c (.own (encF 2 d_LIELIE (((r36 x.1 x.2.1 x.2.2.1 x.2.2.2.1 x.2.2.2.2.1 x.2.2.2.2.2.1 x.2.2.2.2.2.2.1 x.2.2.2.2.2.2.2.1 x.2.2.2.2.2.2.2.2).getD default).1))), .c (.d (.int .i64 (((r36 x.1 x.2.1 x.2.2.1 x.2.2.2.1 x.2.2.2.2.1 x.2.2.2.2.2.1 x.2.2.2.2.2.2.1 x.2.2.2.2.2.2.2.1 x.2.2.2.2.2.2.2.2).getD default).2)))]
  al := true
def tb36 : Fns := lk [(42, T42.sp)]
theorem tb36_ok : FnsOk Tryz.prog tb36 := .cons f42 (FnsOk.nil)
theorem tb36_42 : tb36 42 = some T42.sp := rfl
theorem v36 : Valid Tryz.prog 36 T36.sp := by
  refine valid_t (fn := Tryz.f36) (n := 36) ty_ok tb36_ok Tryz.func36 rfl Tryz.ntmps36 ?_
  rintro ⟨a0_0, a0_1, a0_2, a0_3, a0_4, a0_5, a1_0, a1_1, a2⟩ hx
  obtain ⟨r, hr⟩ := Option.isSome_iff_exists.1 (show (r36 a0_0 a0_1 a0_2 a0_3 a0_4 a0_5 a1_0 a1_1 a2).isSome = true from hx)
  have hres : T36.res (a0_0, a0_1, a0_2, a0_3, a0_4, a0_5, a1_0, a1_1, a2) = [.c (.own (encF 2 d_LIELIE r.1)), .c (.d (.int .i64 r.2))] := by simp only [T36, hr, Option.getD_some]
  refine ⟨Nat.le_of_ble_eq_true rfl, fun stop S => ?_⟩
  rw [hres] at S
  unfold r36 at hr
  refine S.goB [] 1000 ?_
  simp (maxSteps := 10000000) only [go_sem, tb36_42, T42, T36, Option.map_some, Int.reduceToNat, Nat.reduceEqDiff, Nat.reduceLT, Nat.reduceAdd, Nat.reduceMul, Nat.reduceSub, Nat.reduceLeDiff, reduceIte, reduceCtorEq, Tryz.results36]
  repeat refine gA ?_
  refine S.own0 8 1000800 2 rfl rfl ?_
  refine S.sees [3, 4, 8, 13, 14, 15] [(3, 3), (4, 4)] [(1000800, 1000800)] ?_ (Stop.iter S (fun s1 => ⟨[(3, .c (.ref 3 0)), (4, .c (.ref 4 0)), (8, .c (.own 1000800)), (13, .c (.d (encF 3 d_LIIEII a2))), (14, .c (.d (.int .i64 (a2.length : Int)))), (15, .c (.d (.int .i64 s1.2.1)))], [(3, [.d (.int .i64 a0_0), .d (.int .i64 a0_1), .d (encF 2 d_II a0_2), .d (encF 1 d_LIIE a0_3), .d (encF 2 d_II a0_4), .d (encF 1 d_LIIE a0_5)]), (4, [.d (encF 1 d_I s1.2.2.1), .d (encF 1 d_I s1.2.2.2)])], [(1000800, .owned (encF 2 d_LIELIE s1.1))]⟩) (b36_1 a0_0 a0_1 a0_2 a0_3 a0_4 a0_5 a2) (fun q => q = r) hr rfl ?_)
  · (simp (maxDischargeDepth := 8) [go_sem])
  · intro s1 hr
    unfold b36_1 at hr
    refine S.goB [] 1000 ?_
    simp (maxSteps := 10000000) only [go_sem, tb36_42, T42, T36, Option.map_some, Int.reduceToNat, Nat.reduceEqDiff, Nat.reduceLT, Nat.reduceAdd, Nat.reduceMul, Nat.reduceSub, Nat.reduceLeDiff, reduceIte, reduceCtorEq, Tryz.results36]
    repeat refine gA ?_
    refine ⟨fun hc => ?_, fun hc => ?_⟩
    · replace hr := ifP1 hr hc
      obtain ⟨hg3, hr⟩ := of_guard1 hr
      obtain ⟨v1, hv1, hr⟩ := of_bind1 hr
      try simp only [hv1, Option.getD_some, Option.isSome_some, true_and, and_assoc]
      repeat refine gA ?_
      refine ⟨fun hc => ?_, fun hc => ?_⟩
      · replace hr := ifP1 hr hc
        repeat refine gA ?_
        have hr := of_out0 hr
        obtain rfl := Option.some.inj hr
        (simp (maxDischargeDepth := 8) [go_sem])
      · replace hr := ifN1 hr hc
        obtain ⟨hg2, hr⟩ := of_guard1 hr
        repeat refine gA ?_
        refine S.sees [3, 4, 8, 13, 14, 15] [(3, 3), (4, 4)] [(33, 1000800)] ?_ hr
        (simp (maxDischargeDepth := 8) [go_sem])
    · replace hr := ifN1 hr hc
      repeat refine gA ?_
      have hr := of_out0 hr
      repeat refine gA ?_
      obtain rfl := Option.some.inj hr
      (simp (maxDischargeDepth := 8) [go_sem])
theorem f36 : FnFact Tryz.prog 36 T36.sp := ⟨⟨Tryz.f36, Tryz.func36, by decide, rfl⟩, v36⟩

/- martensite/heat.peaks -/
def b37_2 (a1 : List ((List (Int)))) (s1 : Int × (List (Int))) : (Int × (List (Int))) → Ctl (Int × (List (Int))) (Ctl (Int × (List (Int))) ((List (Int)))) := fun s2 =>
  if (decide (s2.1 < ((a1.getD s1.1.toNat default).length : Int))) = true then
   if 0 ≤ s2.1 ∧ s2.1 < ((a1.getD s1.1.toNat default).length : Int) then
    if 0 ≤ s2.1 ∧ s2.1 < (s2.2.length : Int) then
     if 0 ≤ s2.1 ∧ s2.1 < (s2.2.length : Int) then
      .next (IntKind.i64.wrap (s2.1 + 1), s2.2.set s2.1.toNat (if (s2.2.getD s2.1.toNat default) < ((a1.getD s1.1.toNat default).getD s2.1.toNat default) then ((a1.getD s1.1.toNat default).getD s2.1.toNat default) else (s2.2.getD s2.1.toNat default)))
      else .out none
     else .out none
    else .out none
   else .out (some (.next (IntKind.i64.wrap (s1.1 + 1), s2.2)))
def b37_1 (a1 : List ((List (Int)))) : (Int × (List (Int))) → Ctl (Int × (List (Int))) ((List (Int))) := fun s1 =>
  if (decide (s1.1 < (a1.length : Int))) = true then
   if 0 ≤ s1.1 ∧ s1.1 < (a1.length : Int) then
    (iterC (b37_2 a1 s1) 1000000000 (0, s1.2)).getD (.out none)
    else .out none
   else .out (some s1.2)
def r37 (a0 : List (Int)) (a1 : List ((List (Int)))) : Option ((List (Int))) :=
  (r68 a0).bind fun v1 =>
   iterC (b37_1 a1) 1000000000 (0, v1)
def T37 : TSpec ((List (Int)) × (List ((List (Int))))) where
  enc x := [.c (encF 1 d_I x.1), .c (encF 1 d_LIE x.2)]
  dec a := (decF g_I (aCell a 0 0), decF g_LIE (aCell a 1 0))
  pre x := (r37 x.1 x.2).isSome = true
  res x := [.c (.own (encF 1 d_I ((r37 x.1 x.2).getD default)))]
  al := false
def tb37 : Fns := lk [(68, T68.sp)]
theorem tb37_ok : FnsOk Tryz.prog tb37 := .cons f68 (FnsOk.nil)
theorem tb37_68 : tb37 68 = some T68.sp := rfl
theorem v37 : Valid Tryz.prog 37 T37.sp := by
  refine valid_t (fn := Tryz.f37) (n := 37) ty_ok tb37_ok Tryz.func37 rfl Tryz.ntmps37 ?_
  rintro ⟨a0, a1⟩ hx
  obtain ⟨r, hr⟩ := Option.isSome_iff_exists.1 (show (r37 a0 a1).isSome = true from hx)
  have hres : T37.res (a0, a1) = [.c (.own (encF 1 d_I r))] := by simp only [T37, hr, Option.getD_some]
  refine ⟨Nat.le_of_ble_eq_true rfl, fun stop S => ?_⟩
  rw [hres] at S
  unfold r37 at hr
  refine S.goB [] 1000 ?_
  simp (maxSteps := 10000000) only [go_sem, tb37_68, T68, T37, Option.map_some, Int.reduceToNat, Nat.reduceEqDiff, Nat.reduceLT, Nat.reduceAdd, Nat.reduceMul, Nat.reduceSub, Nat.reduceLeDiff, reduceIte, reduceCtorEq, Tryz.results37]
  obtain ⟨v1, hv1, hr⟩ := of_bind0 hr
  try simp only [hv1, Option.getD_some, Option.isSome_some, true_and, and_assoc]
  repeat refine gA ?_
  refine S.sees [5, 12, 13, 14] [] [(11, 11)] ?_ (Stop.iter S (fun s1 => ⟨[(5, .c (.own 11)), (12, .c (.d (encF 1 d_LIE a1))), (13, .c (.d (.int .i64 (a1.length : Int)))), (14, .c (.d (.int .i64 s1.1)))], [], [(11, .owned (encF 1 d_I s1.2))]⟩) (b37_1 a1) (fun q => q = r) hr rfl ?_)
  · (simp (maxDischargeDepth := 8) [go_sem])
  · intro s1 hr
    unfold b37_1 at hr
    refine S.goB [] 1000 ?_
    simp (maxSteps := 10000000) only [go_sem, tb37_68, T68, T37, Option.map_some, Int.reduceToNat, Nat.reduceEqDiff, Nat.reduceLT, Nat.reduceAdd, Nat.reduceMul, Nat.reduceSub, Nat.reduceLeDiff, reduceIte, reduceCtorEq, Tryz.results37]
    repeat refine gA ?_
    refine ⟨fun hc => ?_, fun hc => ?_⟩
    · replace hr := ifP1 hr hc
      obtain ⟨hg5, hr⟩ := of_guard1 hr
      repeat refine gA ?_
      obtain ⟨q2, hq, hr⟩ := of_iter1 hr
      refine S.sees [5, 12, 13, 14, 18, 19, 20] [] [(11, 11)] ?_ (Stop.iter S (fun s2 => ⟨[(5, .c (.own 11)), (12, .c (.d (encF 1 d_LIE a1))), (13, .c (.d (.int .i64 (a1.length : Int)))), (14, .c (.d (.int .i64 s1.1))), (18, .c (.d (encF 1 d_I (a1.getD s1.1.toNat default)))), (19, .c (.d (.int .i64 ((a1.getD s1.1.toNat default).length : Int)))), (20, .c (.d (.int .i64 s2.1)))], [], [(11, .owned (encF 1 d_I s2.2))]⟩) (b37_2 a1 s1) _ hq hr ?_)
      · (simp (maxDischargeDepth := 8) [go_sem])
      · intro s2 hr
        unfold b37_2 at hr
        refine S.goB [] 1000 ?_
        simp (maxSteps := 10000000) only [go_sem, tb37_68, T68, T37, Option.map_some, Int.reduceToNat, Nat.reduceEqDiff, Nat.reduceLT, Nat.reduceAdd, Nat.reduceMul, Nat.reduceSub, Nat.reduceLeDiff, reduceIte, reduceCtorEq, Tryz.results37]
        repeat refine gA ?_
        refine ⟨fun hc => ?_, fun hc => ?_⟩
        · replace hr := ifP1 hr hc
          obtain ⟨hg2, hr⟩ := of_guard1 hr
          obtain ⟨hg3, hr⟩ := of_guard1 hr
          obtain ⟨hg4, hr⟩ := of_guard1 hr
          repeat refine gA ?_
          refine S.sees [5, 12, 13, 14, 18, 19, 20] [] [(11, 11)] ?_ hr
          (simp (maxDischargeDepth := 8) [go_sem])
        · replace hr := ifN1 hr hc
          repeat refine gA ?_
          replace hr := goodC_out hr
          repeat refine gA ?_
          refine S.sees [5, 12, 13, 14] [] [(11, 11)] ?_ hr
          (simp (maxDischargeDepth := 8) [go_sem])
    · replace hr := ifN1 hr hc
      repeat refine gA ?_
      have hr := of_out0 hr
      repeat refine gA ?_
      obtain rfl := Option.some.inj hr
      (simp (maxDischargeDepth := 8) [go_sem])
theorem f37 : FnFact Tryz.prog 37 T37.sp := ⟨⟨Tryz.f37, Tryz.func37, by decide, rfl⟩, v37⟩

/- martensite/heat.DepthsOf -/
def b11_1 (a1_0 : List (Int)) (a1_1 : List (Int)) (a2_1 : Int) (v1 : Int × Int × (List (Int × Int)) × (List ((List (Int × Int)))) × (List (Int × Int)) × (List ((List (Int × Int)))) × Int) (v2 : (List ((List (Int)) × (List (Int)))) × Int) : ((List ((List (Int)))) × (List ((List (Int)))) × Int) → Ctl ((List ((List (Int)))) × (List ((List (Int)))) × Int) (Int × Int × Int) := fun s1 =>
  if (decide (s1.2.2 < (v2.1.length : Int))) = true then
   if 0 ≤ s1.2.2 ∧ s1.2.2 < (v2.1.length : Int) then
    if (s1.1.length + 1) * 24 ≤ 140737488355328 ∧ s1.1.length + 1 ≤ 9223372036854775807 then
     if (s1.2.1.length + 1) * 24 ≤ 140737488355328 ∧ s1.2.1.length + 1 ≤ 9223372036854775807 then
      .next (s1.1 ++ [(v2.1.getD s1.2.2.toNat default).1], s1.2.1 ++ [(v2.1.getD s1.2.2.toNat default).2], IntKind.i64.wrap (s1.2.2 + 1))
      else .out none
     else .out none
    else .out none
   else .out ((r37 a1_0 s1.1).bind fun v6 =>
    (r34 v1.1 v1.2.1 v1.2.2.1 v1.2.2.2.1 v1.2.2.2.2.1 v1.2.2.2.2.2.1 v6 a2_1).bind fun v7 =>
     (r37 a1_1 s1.2.1).bind fun v8 =>
      (r34 v1.1 v1.2.1 v1.2.2.1 v1.2.2.2.1 v1.2.2.2.2.1 v1.2.2.2.2.2.1 v8 a2_1).bind fun v9 =>
       some (v7, v9, 0))
def r11 (a0_0 : Int) (a0_1 : Int) (a0_2 : List (Int × Int)) (a0_3 : List ((List (Int × Int)))) (a1_0 : List (Int)) (a1_1 : List (Int)) (a2_0 : List ((List (Int × Int)) × Int × Int)) (a2_1 : Int) : Option (Int × Int × Int) :=
  (r35 a0_0 a0_1 a0_2 a0_3 a1_0 a1_1 a2_0 a2_1).bind fun v1 =>
   if (v1.2.2.2.2.2.2 != 0) = true then
    some (0, 0, v1.2.2.2.2.2.2)
    else (r36 v1.1 v1.2.1 v1.2.2.1 v1.2.2.2.1 v1.2.2.2.2.1 v1.2.2.2.2.2.1 a1_0 a1_1 a2_0).bind fun v2 =>
     if (v2.2 != 0) = true then
      some (0, 0, v2.2)
      else iterC (b11_1 a1_0 a1_1 a2_1 v1 v2) 1000000000 ([], [], 0)
def T11 : TSpec (Int × Int × (List (Int × Int)) × (List ((List (Int × Int)))) × (List (Int)) × (List (Int)) × (List ((List (Int × Int)) × Int × Int)) × Int) where
  enc x := [.agg [.int .i64 x.1, .int .i64 x.2.1, encF 2 d_II x.2.2.1, encF 1 d_LIIE x.2.2.2.1], .agg [encF 1 d_I x.2.2.2.2.1, encF 1 d_I x.2.2.2.2.2.1], .agg [encF 3 d_LIIEII x.2.2.2.2.2.2.1, .int .i64 x.2.2.2.2.2.2.2]]
  dec a := (dInt (aCell a 0 0), dInt (aCell a 0 1), decF g_II (aCell a 0 2), decF g_LIIE (aCell a 0 3), decF g_I (aCell a 1 0), decF g_I (aCell a 1 1), decF g_LIIEII (aCell a 2 0), dInt (aCell a 2 1))
  pre x := (r11 x.1 x.2.1 x.2.2.1 x.2.2.2.1 x.2.2.2.2.1 x.2.2.2.2.2.1 x.2.2.2.2.2.2.1 x.2.2.2.2.2.2.2).isSome = true
  res x := [.agg [.d (.int .i64 (((r11 x.1 x.2.1 x.2.2.1 x.2.2.2.1 x.2.2.2.2.1 x.2.2.2.2.2.1 x.2.2.2.2.2.2.1 x.2.2.2.2.2.2.2).getD default).1)), .d (.int .i64 (((r11 x.1 x.2.1 x.2.2.1 x.2.2.2.1 x.2.2.2.2.1 x.2.2.2.2.2.1 x.2.2.2.2.2.2.1 x.2.2.2.2.2.2.2).getD default).2.1))], .c (.d (.int .i64 (((r11 x.1 x.2.1 x.2.2.1 x.2.2.2.1 x.2.2.2.2.1 x.2.2.2.2.2.1 x.2.2.2.2.2.2.1 x.2.2.2.2.2.2.2).getD default).2.2)))]
  al := false
def tb11 : Fns := lk [(34, T34.sp), (35, T35.sp), (36, T36.sp), (37, T37.sp)]
theorem tb11_ok : FnsOk Tryz.prog tb11 := .cons f34 (.cons f35 (.cons f36 (.cons f37 (FnsOk.nil))))
theorem tb11_34 : tb11 34 = some T34.sp := rfl
theorem tb11_35 : tb11 35 = some T35.sp := rfl
theorem tb11_36 : tb11 36 = some T36.sp := rfl
theorem tb11_37 : tb11 37 = some T37.sp := rfl
theorem v11 : Valid Tryz.prog 11 T11.sp := by
  refine valid_t (fn := Tryz.f11) (n := 72) ty_ok tb11_ok Tryz.func11 rfl Tryz.ntmps11 ?_
  rintro ⟨a0_0, a0_1, a0_2, a0_3, a1_0, a1_1, a2_0, a2_1⟩ hx
  obtain ⟨r, hr⟩ := Option.isSome_iff_exists.1 (show (r11 a0_0 a0_1 a0_2 a0_3 a1_0 a1_1 a2_0 a2_1).isSome = true from hx)
  have hres : T11.res (a0_0, a0_1, a0_2, a0_3, a1_0, a1_1, a2_0, a2_1) = [.agg [.d (.int .i64 r.1), .d (.int .i64 r.2.1)], .c (.d (.int .i64 r.2.2))] := by simp only [T11, hr, Option.getD_some]
  refine ⟨Nat.le_of_ble_eq_true rfl, fun stop S => ?_⟩
  rw [hres] at S
  unfold r11 at hr
  refine S.goB [] 1000 ?_
  simp (maxSteps := 10000000) only [go_sem, tb11_34, T34, tb11_35, T35, tb11_36, T36, tb11_37, T37, T11, Option.map_some, Int.reduceToNat, Nat.reduceEqDiff, Nat.reduceLT, Nat.reduceAdd, Nat.reduceMul, Nat.reduceSub, Nat.reduceLeDiff, reduceIte, reduceCtorEq, Tryz.results11]
  obtain ⟨v1, hv1, hr⟩ := of_bind0 hr
  try simp only [hv1, Option.getD_some, Option.isSome_some, true_and, and_assoc]
  repeat refine gA ?_
  refine ⟨fun hc => ?_, fun hc => ?_⟩
  · replace hr := ifP hr hc
    repeat refine gA ?_
    obtain rfl := Option.some.inj hr
    (simp (maxDischargeDepth := 8) [go_sem])
  · replace hr := ifN hr hc
    obtain ⟨v2, hv2, hr⟩ := of_bind0 hr
    try simp only [hv2, Option.getD_some, Option.isSome_some, true_and, and_assoc]
    repeat refine gA ?_
    refine ⟨fun hc => ?_, fun hc => ?_⟩
    · replace hr := ifP hr hc
      repeat refine gA ?_
      obtain rfl := Option.some.inj hr
      (simp (maxDischargeDepth := 8) [go_sem])
    · replace hr := ifN hr hc
      repeat refine gA ?_
      refine S.own0 11 1001100 1 rfl rfl ?_
      refine S.own0 12 1001200 1 rfl rfl ?_
      refine S.sees [4, 5, 6, 8, 11, 12, 38, 39, 40] [(4, 4), (5, 5), (6, 6), (8, 8)] [(1001100, 1001100), (1001200, 1001200), (31, 31), (19, 19), (10019, 10019)] ?_ (Stop.iter S (fun s1 => ⟨[(4, .c (.ref 4 0)), (5, .c (.ref 5 0)), (6, .c (.ref 6 0)), (8, .c (.ref 8 0)), (11, .c (.own 1001100)), (12, .c (.own 1001200)), (38, .c (.own 31)), (39, .c (.d (.int .i64 (v2.1.length : Int)))), (40, .c (.d (.int .i64 s1.2.2)))], [(4, [.d (encF 1 d_I a1_0), .d (encF 1 d_I a1_1)]), (5, [.d (encF 3 d_LIIEII a2_0), .d (.int .i64 a2_1)]), (6, [.d (.int .i64 0), .d (.int .i64 0)]), (8, [.d (.int .i64 v1.1), .d (.int .i64 v1.2.1), .d (encF 2 d_II v1.2.2.1), .d (encF 1 d_LIIE v1.2.2.2.1), .own 19, .own 10019])], [(1001100, .owned (encF 1 d_LIE s1.1)), (1001200, .owned (encF 1 d_LIE s1.2.1)), (31, .owned (encF 2 d_LIELIE v2.1)), (19, .shared (encF 2 d_II v1.2.2.2.2.1)), (10019, .shared (encF 1 d_LIIE v1.2.2.2.2.2.1))]⟩) (b11_1 a1_0 a1_1 a2_1 v1 v2) (fun q => q = r) hr rfl ?_)
      · (simp (maxDischargeDepth := 8) [go_sem])
      · intro s1 hr
        unfold b11_1 at hr
        refine S.goB [] 1000 ?_
        simp (maxSteps := 10000000) only [go_sem, tb11_34, T34, tb11_35, T35, tb11_36, T36, tb11_37, T37, T11, Option.map_some, Int.reduceToNat, Nat.reduceEqDiff, Nat.reduceLT, Nat.reduceAdd, Nat.reduceMul, Nat.reduceSub, Nat.reduceLeDiff, reduceIte, reduceCtorEq, Tryz.results11]
        repeat refine gA ?_
        refine ⟨fun hc => ?_, fun hc => ?_⟩
        · replace hr := ifP1 hr hc
          obtain ⟨hg3, hr⟩ := of_guard1 hr
          obtain ⟨hg4, hr⟩ := of_guard1 hr
          obtain ⟨hg5, hr⟩ := of_guard1 hr
          repeat refine gA ?_
          refine S.sees [4, 5, 6, 8, 11, 12, 38, 39, 40] [(4, 4), (5, 5), (6, 6), (8, 8)] [(48, 1001100), (53, 1001200), (31, 31), (19, 19), (10019, 10019)] ?_ hr
          (simp (maxDischargeDepth := 8) [go_sem])
        · replace hr := ifN1 hr hc
          repeat refine gA ?_
          have hr := of_out0 hr
          obtain ⟨v6, hv6, hr⟩ := of_bind0 hr
          obtain ⟨v7, hv7, hr⟩ := of_bind0 hr
          obtain ⟨v8, hv8, hr⟩ := of_bind0 hr
          obtain ⟨v9, hv9, hr⟩ := of_bind0 hr
          try simp only [hv6, hv7, hv8, hv9, Option.getD_some, Option.isSome_some, true_and, and_assoc]
          repeat refine gA ?_
          obtain rfl := Option.some.inj hr
          (simp (maxDischargeDepth := 8) [go_sem])
theorem f11 : FnFact Tryz.prog 11 T11.sp := ⟨⟨Tryz.f11, Tryz.func11, by decide, rfl⟩, v11⟩

/- martensite/heat.WithinLimit$1 -/
def r39 (a0 : Int) (a1_0 : Int) (a1_1 : Int) (a1_2 : List (Int × Int)) (a1_3 : List ((List (Int × Int)))) (a1_4 : List (Int × Int)) (a1_5 : List ((List (Int × Int)))) (a2_0 : List ((List (Int × Int)) × Int × Int)) (a2_1 : Int) : Option (Bool) :=
  (r40 a1_0 a1_1 a1_2 a1_3 a1_4 a1_5 a0 a2_1).bind fun v1 =>
   some (decide (v1 > 0))
def T39 : TSpec (Int × Int × Int × (List (Int × Int)) × (List ((List (Int × Int)))) × (List (Int × Int)) × (List ((List (Int × Int)))) × (List ((List (Int × Int)) × Int × Int)) × Int) where
  enc x := [.c (.int .i64 x.1), .ptr [.int .i64 x.2.1, .int .i64 x.2.2.1, encF 2 d_II x.2.2.2.1, encF 1 d_LIIE x.2.2.2.2.1, encF 2 d_II x.2.2.2.2.2.1, encF 1 d_LIIE x.2.2.2.2.2.2.1], .ptr [encF 3 d_LIIEII x.2.2.2.2.2.2.2.1, .int .i64 x.2.2.2.2.2.2.2.2]]
  dec a := (dInt (aCell a 0 0), dInt (aCell a 1 0), dInt (aCell a 1 1), decF g_II (aCell a 1 2), decF g_LIIE (aCell a 1 3), decF g_II (aCell a 1 4), decF g_LIIE (aCell a 1 5), decF g_LIIEII (aCell a 2 0), dInt (aCell a 2 1))
  pre x := (r39 x.1 x.2.1 x.2.2.1 x.2.2.2.1 x.2.2.2.2.1 x.2.2.2.2.2.1 x.2.2.2.2.2.2.1 x.2.2.2.2.2.2.2.1 x.2.2.2.2.2.2.2.2).isSome = true
  res x := [.c (.d (.bool ((r39 x.1 x.2.1 x.2.2.1 x.2.2.2.1 x.2.2.2.2.1 x.2.2.2.2.2.1 x.2.2.2.2.2.2.1 x.2.2.2.2.2.2.2.1 x.2.2.2.2.2.2.2.2).getD default)))]
  al := false
def tb39 : Fns := lk [(40, T40.sp)]
theorem tb39_ok : FnsOk Tryz.prog tb39 := .cons f40 (FnsOk.nil)
theorem tb39_40 : tb39 40 = some T40.sp := rfl
theorem v39 : Valid Tryz.prog 39 T39.sp := by
  refine valid_t (fn := Tryz.f39) (n := 11) ty_ok tb39_ok Tryz.func39 rfl Tryz.ntmps39 ?_
  rintro ⟨a0, a1_0, a1_1, a1_2, a1_3, a1_4, a1_5, a2_0, a2_1⟩ hx
  obtain ⟨r, hr⟩ := Option.isSome_iff_exists.1 (show (r39 a0 a1_0 a1_1 a1_2 a1_3 a1_4 a1_5 a2_0 a2_1).isSome = true from hx)
  have hres : T39.res (a0, a1_0, a1_1, a1_2, a1_3, a1_4, a1_5, a2_0, a2_1) = [.c (.d (.bool r))] := by simp only [T39, hr, Option.getD_some]
  refine ⟨Nat.le_of_ble_eq_true rfl, fun stop S => ?_⟩
  rw [hres] at S
  unfold r39 at hr
  refine S.goB [] 1000 ?_
  simp (maxSteps := 10000000) only [go_sem, tb39_40, T40, T39, Option.map_some, Int.reduceToNat, Nat.reduceEqDiff, Nat.reduceLT, Nat.reduceAdd, Nat.reduceMul, Nat.reduceSub, Nat.reduceLeDiff, reduceIte, reduceCtorEq, Tryz.results39]
  obtain ⟨v1, hv1, hr⟩ := of_bind0 hr
  try simp only [hv1, Option.getD_some, Option.isSome_some, true_and, and_assoc]
  repeat refine gA ?_
  obtain rfl := Option.some.inj hr
  (simp (maxDischargeDepth := 8) [go_sem])
theorem f39 : FnFact Tryz.prog 39 T39.sp := ⟨⟨Tryz.f39, Tryz.func39, by decide, rfl⟩, v39⟩
end Go.Proofs.YtcbiiijnaeibhaaGreat

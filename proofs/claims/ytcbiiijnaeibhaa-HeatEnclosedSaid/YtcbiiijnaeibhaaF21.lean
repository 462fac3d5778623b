/- Contracts of functions, written by wip/dec. -/
import Derived.Test.YtcbiiijnaeibhaaF00
import Derived.Test.YtcbiiijnaeibhaaF02
import Derived.Test.YtcbiiijnaeibhaaF04
import Derived.Test.YtcbiiijnaeibhaaF06
import Derived.Test.YtcbiiijnaeibhaaF12
import Derived.Test.YtcbiiijnaeibhaaF19
set_option linter.unusedVariables false
set_option linter.unusedSimpArgs false
set_option maxHeartbeats 4000000
set_option maxRecDepth 20000
namespace Go.Proofs.Ytcbiiijnaeibhaa
open Go.Abs
/- martensite/heat.peaks -/
def b134_2 (a1 : List ((List (Int)))) (s1 : Int × (List (Int))) : (Int × (List (Int))) → Ctl (Int × (List (Int))) (Ctl (Int × (List (Int))) ((List (Int)))) := fun s2 =>
  if (decide (s2.1 < ((a1.getD s1.1.toNat default).length : Int))) = true then
   if 0 ≤ s2.1 ∧ s2.1 < ((a1.getD s1.1.toNat default).length : Int) then
    if 0 ≤ s2.1 ∧ s2.1 < (s2.2.length : Int) then
     if 0 ≤ s2.1 ∧ s2.1 < (s2.2.length : Int) then
      .next (IntKind.i64.wrap (s2.1 + 1), s2.2.set s2.1.toNat (if (s2.2.getD s2.1.toNat default) < ((a1.getD s1.1.toNat default).getD s2.1.toNat default) then ((a1.getD s1.1.toNat default).getD s2.1.toNat default) else (s2.2.getD s2.1.toNat default)))
      else .out none
     else .out none
    else .out none
   else .out (some (.next (IntKind.i64.wrap (s1.1 + 1), s2.2)))
def b134_1 (a1 : List ((List (Int)))) : (Int × (List (Int))) → Ctl (Int × (List (Int))) ((List (Int))) := fun s1 =>
  if (decide (s1.1 < (a1.length : Int))) = true then
   if 0 ≤ s1.1 ∧ s1.1 < (a1.length : Int) then
    (iterC (b134_2 a1 s1) 1000000000 (0, s1.2)).getD (.out none)
    else .out none
   else .out (some s1.2)
def r134 (a0 : List (Int)) (a1 : List ((List (Int)))) : Option ((List (Int))) :=
  (r144 a0).bind fun v1 =>
   iterC (b134_1 a1) 1000000000 (0, v1)
def T134 : TSpec ((List (Int)) × (List ((List (Int))))) where
  enc x := [.c (encF 1 d_I x.1), .c (encF 1 d_LIE x.2)]
  dec a := (decF g_I (aCell a 0 0), decF g_LIE (aCell a 1 0))
  pre x := (r134 x.1 x.2).isSome = true
  res x := [.c (.own (encF 1 d_I ((r134 x.1 x.2).getD default)))]
  al := false
def tb134 : Fns := lk [(144, T144.sp)]
theorem tb134_ok : FnsOk Try.prog tb134 := .cons f144 (FnsOk.nil)
theorem tb134_144 : tb134 144 = some T144.sp := rfl
theorem v134 : Valid Try.prog 134 T134.sp := by
  refine valid_t (fn := Try.f134) (n := 37) ty_ok tb134_ok Try.func134 rfl Try.ntmps134 ?_
  rintro ⟨a0, a1⟩ hx
  obtain ⟨r, hr⟩ := Option.isSome_iff_exists.1 (show (r134 a0 a1).isSome = true from hx)
  have hres : T134.res (a0, a1) = [.c (.own (encF 1 d_I r))] := by simp only [T134, hr, Option.getD_some]
  refine ⟨Nat.le_of_ble_eq_true rfl, fun stop S => ?_⟩
  rw [hres] at S
  unfold r134 at hr
  refine S.goB [] 1000 ?_
  simp (maxSteps := 10000000) only [go_sem, tb134_144, T144, T134, Option.map_some, Int.reduceToNat, Nat.reduceEqDiff, Nat.reduceLT, Nat.reduceAdd, Nat.reduceMul, Nat.reduceSub, Nat.reduceLeDiff, reduceIte, reduceCtorEq, Try.results134]
  obtain ⟨v1, hv1, hr⟩ := of_bind0 hr
  try simp only [hv1, Option.getD_some, Option.isSome_some, true_and, and_assoc]
  repeat refine gA ?_
  refine S.sees [5, 12, 13, 14] [] [(11, 11)] ?_ (Stop.iter S (fun s1 => ⟨[(5, .c (.own 11)), (12, .c (.d (encF 1 d_LIE a1))), (13, .c (.d (.int .i64 (a1.length : Int)))), (14, .c (.d (.int .i64 s1.1)))], [], [(11, .owned (encF 1 d_I s1.2))]⟩) (b134_1 a1) (fun q => q = r) hr rfl ?_)
  · (simp (maxDischargeDepth := 8) [go_sem])
  · intro s1 hr
    unfold b134_1 at hr
    refine S.goB [] 1000 ?_
    simp (maxSteps := 10000000) only [go_sem, tb134_144, T144, T134, Option.map_some, Int.reduceToNat, Nat.reduceEqDiff, Nat.reduceLT, Nat.reduceAdd, Nat.reduceMul, Nat.reduceSub, Nat.reduceLeDiff, reduceIte, reduceCtorEq, Try.results134]
    repeat refine gA ?_
    refine ⟨fun hc => ?_, fun hc => ?_⟩
    · replace hr := ifP1 hr hc
      obtain ⟨hg5, hr⟩ := of_guard1 hr
      repeat refine gA ?_
      obtain ⟨q2, hq, hr⟩ := of_iter1 hr
      refine S.sees [5, 12, 13, 14, 18, 19, 20] [] [(11, 11)] ?_ (Stop.iter S (fun s2 => ⟨[(5, .c (.own 11)), (12, .c (.d (encF 1 d_LIE a1))), (13, .c (.d (.int .i64 (a1.length : Int)))), (14, .c (.d (.int .i64 s1.1))), (18, .c (.d (encF 1 d_I (a1.getD s1.1.toNat default)))), (19, .c (.d (.int .i64 ((a1.getD s1.1.toNat default).length : Int)))), (20, .c (.d (.int .i64 s2.1)))], [], [(11, .owned (encF 1 d_I s2.2))]⟩) (b134_2 a1 s1) _ hq hr ?_)
      · (simp (maxDischargeDepth := 8) [go_sem])
      · intro s2 hr
        unfold b134_2 at hr
        refine S.goB [] 1000 ?_
        simp (maxSteps := 10000000) only [go_sem, tb134_144, T144, T134, Option.map_some, Int.reduceToNat, Nat.reduceEqDiff, Nat.reduceLT, Nat.reduceAdd, Nat.reduceMul, Nat.reduceSub, Nat.reduceLeDiff, reduceIte, reduceCtorEq, Try.results134]
        repeat refine gA ?_
        refine ⟨fun hc => ?_, fun hc => ?_⟩
        · replace hr := ifP1 hr hc
          obtain ⟨hg2, hr⟩ := of_guard1 hr
          obtain ⟨hg3, hr⟩ := of_guard1 hr
          obtain ⟨hg4, hr⟩ := of_guard1 hr
          repeat refine gA ?_
          refine S.sees [5, 12, 13, 14, 18, 19, 20] [] [(11, 11)] ?_ hr
          (simp (maxDischargeDepth := 8) [go_sem])
        · replace hr := ifN1 hr hc
          repeat refine gA ?_
          replace hr := goodC_out hr
          repeat refine gA ?_
          refine S.sees [5, 12, 13, 14] [] [(11, 11)] ?_ hr
          (simp (maxDischargeDepth := 8) [go_sem])
    · replace hr := ifN1 hr hc
      repeat refine gA ?_
      have hr := of_out0 hr
      repeat refine gA ?_
      obtain rfl := Option.some.inj hr
      (simp (maxDischargeDepth := 8) [go_sem])
theorem f134 : FnFact Try.prog 134 T134.sp := ⟨⟨Try.f134, Try.func134, by decide, rfl⟩, v134⟩

/- martensite/heat.PeaksOf -/
def r69 (a0_0 : Int) (a0_1 : Int) (a0_2 : List (Int × Int)) (a0_3 : List ((List (Int × Int)))) (a1 : List (Int)) (a2 : List ((List (Int)) × Int)) : Option ((List (Int)) × Int) :=
  (r132 a0_0 a0_1 a0_2 a0_3 a1 a2).bind fun v1 =>
   if (v1.2.2 != 0) = true then
    some ([], v1.2.2)
    else (r134 a1 v1.1).bind fun v2 =>
     some (v2, 0)
def T69 : TSpec (Int × Int × (List (Int × Int)) × (List ((List (Int × Int)))) × (List (Int)) × (List ((List (Int)) × Int))) where
  enc x := [.agg [.int .i64 x.1, .int .i64 x.2.1, encF 2 d_II x.2.2.1, encF 1 d_LIIE x.2.2.2.1], .c (encF 1 d_I x.2.2.2.2.1), .c (encF 2 d_LIEI x.2.2.2.2.2)]
  dec a := (dInt (aCell a 0 0), dInt (aCell a 0 1), decF g_II (aCell a 0 2), decF g_LIIE (aCell a 0 3), decF g_I (aCell a 1 0), decF g_LIEI (aCell a 2 0))
  pre x := (r69 x.1 x.2.1 x.2.2.1 x.2.2.2.1 x.2.2.2.2.1 x.2.2.2.2.2).isSome = true
  res x := [.c (.own (encF 1 d_I (((r69 x.1 x.2.1 x.2.2.1 x.2.2.2.1 x.2.2.2.2.1 x.2.2.2.2.2).getD default).1))), .c (.d (.int .i64 (((r69 x.1 x.2.1 x.2.2.1 x.2.2.2.1 x.2.2.2.2.1 x.2.2.2.2.2).getD default).2)))]
  al := false
def tb69 : Fns := lk [(132, T132.sp), (134, T134.sp)]
theorem tb69_ok : FnsOk Try.prog tb69 := .cons f132 (.cons f134 (FnsOk.nil))
theorem tb69_132 : tb69 132 = some T132.sp := rfl
theorem tb69_134 : tb69 134 = some T134.sp := rfl
theorem v69 : Valid Try.prog 69 T69.sp := by
  refine valid_t (fn := Try.f69) (n := 25) ty_ok tb69_ok Try.func69 rfl Try.ntmps69 ?_
  rintro ⟨a0_0, a0_1, a0_2, a0_3, a1, a2⟩ hx
  obtain ⟨r, hr⟩ := Option.isSome_iff_exists.1 (show (r69 a0_0 a0_1 a0_2 a0_3 a1 a2).isSome = true from hx)
  have hres : T69.res (a0_0, a0_1, a0_2, a0_3, a1, a2) = [.c (.own (encF 1 d_I r.1)), .c (.d (.int .i64 r.2))] := by simp only [T69, hr, Option.getD_some]
  refine ⟨Nat.le_of_ble_eq_true rfl, fun stop S => ?_⟩
  rw [hres] at S
  unfold r69 at hr
  refine S.goB [] 1000 ?_
  simp (maxSteps := 10000000) only [go_sem, tb69_132, T132, tb69_134, T134, T69, Option.map_some, Int.reduceToNat, Nat.reduceEqDiff, Nat.reduceLT, Nat.reduceAdd, Nat.reduceMul, Nat.reduceSub, Nat.reduceLeDiff, reduceIte, reduceCtorEq, Try.results69]
  obtain ⟨v1, hv1, hr⟩ := of_bind0 hr
  try simp only [hv1, Option.getD_some, Option.isSome_some, true_and, and_assoc]
  repeat refine gA ?_
  refine ⟨fun hc => ?_, fun hc => ?_⟩
  · replace hr := ifP hr hc
    repeat refine gA ?_
    obtain rfl := Option.some.inj hr
    (simp (maxDischargeDepth := 8) [go_sem])
  · replace hr := ifN hr hc
    obtain ⟨v2, hv2, hr⟩ := of_bind0 hr
    try simp only [hv2, Option.getD_some, Option.isSome_some, true_and, and_assoc]
    repeat refine gA ?_
    obtain rfl := Option.some.inj hr
    (simp (maxDischargeDepth := 8) [go_sem])
theorem f69 : FnFact Try.prog 69 T69.sp := ⟨⟨Try.f69, Try.func69, by decide, rfl⟩, v69⟩

/- martensite/martensiteref03.Run -/
def b73_1 (a0_0 : Int) (a0_1 : Int) (a0_2 : List (Int × Int)) (a0_3 : List ((List (Int × Int)))) (a2 : List ((List (Int)) × Int)) : ((List (Int)) × (List ((List (Int)))) × Int × Int) → Ctl ((List (Int)) × (List ((List (Int)))) × Int × Int) ((List ((List (Int)))) × Int × Bool) := fun s1 =>
  if (decide (s1.2.2.2 < (a2.length : Int))) = true then
   if 0 ≤ s1.2.2.2 ∧ s1.2.2.2 < (a2.length : Int) then
    if 0 ≤ s1.2.2.2 ∧ s1.2.2.2 < (a2.length : Int) then
     bindC (r71 a0_0 a0_1 a0_2 a0_3 s1.1 ((a2.getD s1.2.2.2.toNat default).1) ((a2.getD s1.2.2.2.toNat default).2)) fun v1 =>
      if (!v1.2.2) = true then
       .out (some ([], 0, false))
       else if (s1.2.1.length + 1) * 24 ≤ 140737488355328 ∧ s1.2.1.length + 1 ≤ 9223372036854775807 then
        .next (v1.1, s1.2.1 ++ [v1.1], IntKind.i64.wrap (s1.2.2.1 + v1.2.1), IntKind.i64.wrap (s1.2.2.2 + 1))
        else .out none
     else .out none
    else .out none
   else .out (some (s1.2.1, s1.2.2.1, true))
def r73 (a0_0 : Int) (a0_1 : Int) (a0_2 : List (Int × Int)) (a0_3 : List ((List (Int × Int)))) (a1 : List (Int)) (a2 : List ((List (Int)) × Int)) : Option ((List ((List (Int)))) × Int × Bool) :=
  iterC (b73_1 a0_0 a0_1 a0_2 a0_3 a2) 1000000000 (a1, [], 0, 0)
def T73 : TSpec (Int × Int × (List (Int × Int)) × (List ((List (Int × Int)))) × (List (Int)) × (List ((List (Int)) × Int))) where
  enc x := [.agg [.int .i64 x.1, .int .i64 x.2.1, encF 2 d_II x.2.2.1, encF 1 d_LIIE x.2.2.2.1], .c (encF 1 d_I x.2.2.2.2.1), .c (encF 2 d_LIEI x.2.2.2.2.2)]
  dec a := (dInt (aCell a 0 0), dInt (aCell a 0 1), decF g_II (aCell a 0 2), decF g_LIIE (aCell a 0 3), decF g_I (aCell a 1 0), decF g_LIEI (aCell a 2 0))
  pre x := (r73 x.1 x.2.1 x.2.2.1 x.2.2.2.1 x.2.2.2.2.1 x.2.2.2.2.2).isSome = true
  res x := [.c (.own (encF 1 d_LIE (((r73 x.1 x.2.1 x.2.2.1 x.2.2.2.1 x.2.2.2.2.1 x.2.2.2.2.2).getD default).1))), .c (.d (.int .i64 (((r73 x.1 x.2.1 x.2.2.1 x.2.2.2.1 x.2.2.2.2.1 x.2.2.2.2.2).getD default).2.1))), .c (.d (.bool (((r73 x.1 x.2.1 x.2.2.1 x.2.2.2.1 x.2.2.2.2.1 x.2.2.2.2.2).getD default).2.2)))]
  al := true
def tb73 : Fns := lk [(71, T71.sp)]
theorem tb73_ok : FnsOk Try.prog tb73 := .cons f71 (FnsOk.nil)
theorem tb73_71 : tb73 71 = some T71.sp := rfl
theorem v73 : Valid Try.prog 73 T73.sp := by
  refine valid_t (fn := Try.f73) (n := 50) ty_ok tb73_ok Try.func73 rfl Try.ntmps73 ?_
  rintro ⟨a0_0, a0_1, a0_2, a0_3, a1, a2⟩ hx
  obtain ⟨r, hr⟩ := Option.isSome_iff_exists.1 (show (r73 a0_0 a0_1 a0_2 a0_3 a1 a2).isSome = true from hx)
  have hres : T73.res (a0_0, a0_1, a0_2, a0_3, a1, a2) = [.c (.own (encF 1 d_LIE r.1)), .c (.d (.int .i64 r.2.1)), .c (.d (.bool r.2.2))] := by simp only [T73, hr, Option.getD_some]
  refine ⟨Nat.le_of_ble_eq_true rfl, fun stop S => ?_⟩
  rw [hres] at S
  unfold r73 at hr
  refine S.goB [] 1000 ?_
  simp (maxSteps := 10000000) only [go_sem, tb73_71, T71, T73, Option.map_some, Int.reduceToNat, Nat.reduceEqDiff, Nat.reduceLT, Nat.reduceAdd, Nat.reduceMul, Nat.reduceSub, Nat.reduceLeDiff, reduceIte, reduceCtorEq, Try.results73]
  repeat refine gA ?_
  refine S.own0 9 1000900 1 rfl rfl ?_
  refine S.sees [1, 2, 3, 9, 10, 11] [(3, 3)] [(1000900, 1000900)] ?_ (Stop.iter S (fun s1 => ⟨[(1, .c (.d (encF 1 d_I s1.1))), (2, .c (.d (encF 2 d_LIEI a2))), (3, .c (.ref 3 0)), (9, .c (.own 1000900)), (10, .c (.d (.int .i64 s1.2.2.1))), (11, .c (.d (.int .i64 s1.2.2.2)))], [(3, [.d (.int .i64 a0_0), .d (.int .i64 a0_1), .d (encF 2 d_II a0_2), .d (encF 1 d_LIIE a0_3)])], [(1000900, .owned (encF 1 d_LIE s1.2.1))]⟩) (b73_1 a0_0 a0_1 a0_2 a0_3 a2) (fun q => q = r) hr rfl ?_)
  · (simp (maxDischargeDepth := 8) [go_sem])
  · intro s1 hr
    unfold b73_1 at hr
    refine S.goB [] 1000 ?_
    simp (maxSteps := 10000000) only [go_sem, tb73_71, T71, T73, Option.map_some, Int.reduceToNat, Nat.reduceEqDiff, Nat.reduceLT, Nat.reduceAdd, Nat.reduceMul, Nat.reduceSub, Nat.reduceLeDiff, reduceIte, reduceCtorEq, Try.results73]
    repeat refine gA ?_
    refine ⟨fun hc => ?_, fun hc => ?_⟩
    · replace hr := ifP1 hr hc
      obtain ⟨hg3, hr⟩ := of_guard1 hr
      obtain ⟨hg4, hr⟩ := of_guard1 hr
      obtain ⟨v1, hv1, hr⟩ := of_bind1 hr
      try simp only [hv1, Option.getD_some, Option.isSome_some, true_and, and_assoc]
      repeat refine gA ?_
      refine ⟨fun hc => ?_, fun hc => ?_⟩
      · replace hr := ifP1 hr hc
        repeat refine gA ?_
        have hr := of_out0 hr
        obtain rfl := Option.some.inj hr
        (simp (maxDischargeDepth := 8) [go_sem])
      · replace hr := ifN1 hr hc
        obtain ⟨hg2, hr⟩ := of_guard1 hr
        repeat refine gA ?_
        refine S.sees [1, 2, 3, 9, 10, 11] [(3, 3)] [(43, 1000900)] ?_ hr
        (simp (maxDischargeDepth := 8) [go_sem])
    · replace hr := ifN1 hr hc
      repeat refine gA ?_
      have hr := of_out0 hr
      repeat refine gA ?_
      obtain rfl := Option.some.inj hr
      (simp (maxDischargeDepth := 8) [go_sem])
theorem f73 : FnFact Try.prog 73 T73.sp := ⟨⟨Try.f73, Try.func73, by decide, rfl⟩, v73⟩

/- martensite/martensiteref03.Balance -/
def b74_1 (a2 : List ((List (Int)) × Int)) (v1 : (List ((List (Int)))) × Int × Bool) (v2 : Int) : (Int × Int × Int) → Ctl (Int × Int × Int) (Int × Int × Int × Int × Bool) := fun s1 =>
  if (decide (s1.1 < (a2.length : Int))) = true then
   if 0 ≤ s1.1 ∧ s1.1 < (a2.length : Int) then
    bindC (r79 ((a2.getD s1.1.toNat default).1)) fun v3 =>
     if 0 ≤ s1.1 ∧ s1.1 < (v1.1.length : Int) then
      bindC (r79 (v1.1.getD s1.1.toNat default)) fun v4 =>
       .next (IntKind.i64.wrap (s1.1 + 1), IntKind.i64.wrap (s1.2.1 + v3), v4)
      else .out none
    else .out none
   else .out (some (v2, s1.2.1, v1.2.1, s1.2.2, true))
def r74 (a0_0 : Int) (a0_1 : Int) (a0_2 : List (Int × Int)) (a0_3 : List ((List (Int × Int)))) (a1 : List (Int)) (a2 : List ((List (Int)) × Int)) : Option (Int × Int × Int × Int × Bool) :=
  (r73 a0_0 a0_1 a0_2 a0_3 a1 a2).bind fun v1 =>
   if (!v1.2.2) = true then
    some (0, 0, 0, 0, false)
    else (r79 a1).bind fun v2 =>
     iterC (b74_1 a2 v1 v2) 1000000000 (0, 0, v2)
def T74 : TSpec (Int × Int × (List (Int × Int)) × (List ((List (Int × Int)))) × (List (Int)) × (List ((List (Int)) × Int))) where
  enc x := [.agg [.int .i64 x.1, .int .i64 x.2.1, encF 2 d_II x.2.2.1, encF 1 d_LIIE x.2.2.2.1], .c (encF 1 d_I x.2.2.2.2.1), .c (encF 2 d_LIEI x.2.2.2.2.2)]
  dec a := (dInt (aCell a 0 0), dInt (aCell a 0 1), decF g_II (aCell a 0 2), decF g_LIIE (aCell a 0 3), decF g_I (aCell a 1 0), decF g_LIEI (aCell a 2 0))
  pre x := (r74 x.1 x.2.1 x.2.2.1 x.2.2.2.1 x.2.2.2.2.1 x.2.2.2.2.2).isSome = true
  res x := [.agg [.d (.int .i64 (((r74 x.1 x.2.1 x.2.2.1 x.2.2.2.1 x.2.2.2.2.1 x.2.2.2.2.2).getD default).1)), .d (.int .i64 (((r74 x.1 x.2.1 x.2.2.1 x.2.2.2.1 x.2.2.2.2.1 x.2.2.2.2.2).getD default).2.1)), .d (.int .i64 (((r74 x.1 x.2.1 x.2.2.1 x.2.2.2.1 x.2.2.2.2.1 x.2.2.2.2.2).getD default).2.2.1)), .d (.int .i64 (((r74 x.1 x.2.1 x.2.2.1 x.2.2.2.1 x.2.2.2.2.1 x.2.2.2.2.2).getD default).2.2.2.1))], .c (.d (.bool (((r74 x.1 x.2.1 x.2.2.1 x.2.2.2.1 x.2.2.2.2.1 x.2.2.2.2.2).getD default).2.2.2.2)))]
  al := false
def tb74 : Fns := lk [(73, T73.sp), (79, T79.sp)]
theorem tb74_ok : FnsOk Try.prog tb74 := .cons f73 (.cons f79 (FnsOk.nil))
theorem tb74_73 : tb74 73 = some T73.sp := rfl
theorem tb74_79 : tb74 79 = some T79.sp := rfl
theorem v74 : Valid Try.prog 74 T74.sp := by
  refine valid_t (fn := Try.f74) (n := 53) ty_ok tb74_ok Try.func74 rfl Try.ntmps74 ?_
  rintro ⟨a0_0, a0_1, a0_2, a0_3, a1, a2⟩ hx
  obtain ⟨r, hr⟩ := Option.isSome_iff_exists.1 (show (r74 a0_0 a0_1 a0_2 a0_3 a1 a2).isSome = true from hx)
  have hres : T74.res (a0_0, a0_1, a0_2, a0_3, a1, a2) = [.agg [.d (.int .i64 r.1), .d (.int .i64 r.2.1), .d (.int .i64 r.2.2.1), .d (.int .i64 r.2.2.2.1)], .c (.d (.bool r.2.2.2.2))] := by simp only [T74, hr, Option.getD_some]
  refine ⟨Nat.le_of_ble_eq_true rfl, fun stop S => ?_⟩
  rw [hres] at S
  unfold r74 at hr
  refine S.goB [] 1000 ?_
  simp (maxSteps := 10000000) only [go_sem, tb74_73, T73, tb74_79, T79, T74, Option.map_some, Int.reduceToNat, Nat.reduceEqDiff, Nat.reduceLT, Nat.reduceAdd, Nat.reduceMul, Nat.reduceSub, Nat.reduceLeDiff, reduceIte, reduceCtorEq, Try.results74]
  obtain ⟨v1, hv1, hr⟩ := of_bind0 hr
  try simp only [hv1, Option.getD_some, Option.isSome_some, true_and, and_assoc]
  repeat refine gA ?_
  refine ⟨fun hc => ?_, fun hc => ?_⟩
  · replace hr := ifP hr hc
    repeat refine gA ?_
    obtain rfl := Option.some.inj hr
    (simp (maxDischargeDepth := 8) [go_sem])
  · replace hr := ifN hr hc
    obtain ⟨v2, hv2, hr⟩ := of_bind0 hr
    try simp only [hv2, Option.getD_some, Option.isSome_some, true_and, and_assoc]
    repeat refine gA ?_
    refine S.sees [2, 6, 8, 11, 12] [(6, 6), (11, 11)] [(17, 17)] ?_ (Stop.iter S (fun s1 => ⟨[(2, .c (.d (encF 2 d_LIEI a2))), (6, .c (.ref 6 0)), (8, .c (.own 17)), (11, .c (.ref 11 0)), (12, .c (.d (.int .i64 s1.1)))], [(6, [.d (.int .i64 0), .d (.int .i64 0), .d (.int .i64 0), .d (.int .i64 0)]), (11, [.d (.int .i64 v2), .d (.int .i64 s1.2.1), .d (.int .i64 v1.2.1), .d (.int .i64 s1.2.2)])], [(17, .owned (encF 1 d_LIE v1.1))]⟩) (b74_1 a2 v1 v2) (fun q => q = r) hr rfl ?_)
    · (simp (maxDischargeDepth := 8) [go_sem])
    · intro s1 hr
      unfold b74_1 at hr
      refine S.goB [] 1000 ?_
      simp (maxSteps := 10000000) only [go_sem, tb74_73, T73, tb74_79, T79, T74, Option.map_some, Int.reduceToNat, Nat.reduceEqDiff, Nat.reduceLT, Nat.reduceAdd, Nat.reduceMul, Nat.reduceSub, Nat.reduceLeDiff, reduceIte, reduceCtorEq, Try.results74]
      repeat refine gA ?_
      refine ⟨fun hc => ?_, fun hc => ?_⟩
      · replace hr := ifP1 hr hc
        obtain ⟨hg5, hr⟩ := of_guard1 hr
        obtain ⟨v3, hv3, hr⟩ := of_bind1 hr
        obtain ⟨hg6, hr⟩ := of_guard1 hr
        obtain ⟨v4, hv4, hr⟩ := of_bind1 hr
        try simp only [hv3, hv4, Option.getD_some, Option.isSome_some, true_and, and_assoc]
        repeat refine gA ?_
        refine S.sees [2, 6, 8, 11, 12] [(6, 6), (11, 11)] [(17, 17)] ?_ hr
        (simp (maxDischargeDepth := 8) [go_sem])
      · replace hr := ifN1 hr hc
        repeat refine gA ?_
        have hr := of_out0 hr
        repeat refine gA ?_
        obtain rfl := Option.some.inj hr
        (simp (maxDischargeDepth := 8) [go_sem])
theorem f74 : FnFact Try.prog 74 T74.sp := ⟨⟨Try.f74, Try.func74, by decide, rfl⟩, v74⟩

/- martensite/martensiteref03.maxima -/
def b136_1 (a0 : List (Int)) (a1 : List (Int)) : ((List (Int)) × Int) → Ctl ((List (Int)) × Int) ((List (Int))) := fun s1 =>
  if (decide (s1.2 < (a0.length : Int))) = true then
   if 0 ≤ s1.2 ∧ s1.2 < (a0.length : Int) then
    if 0 ≤ s1.2 ∧ s1.2 < (a1.length : Int) then
     if (s1.1.length + 1) * 8 ≤ 140737488355328 ∧ s1.1.length + 1 ≤ 9223372036854775807 then
      .next (s1.1 ++ [if (a0.getD s1.2.toNat default) < (a1.getD s1.2.toNat default) then (a1.getD s1.2.toNat default) else (a0.getD s1.2.toNat default)], IntKind.i64.wrap (s1.2 + 1))
      else .out none
     else .out none
    else .out none
   else .out (some s1.1)
def r136 (a0 : List (Int)) (a1 : List (Int)) : Option ((List (Int))) :=
  iterC (b136_1 a0 a1) 1000000000 ([], 0)
def T136 : TSpec ((List (Int)) × (List (Int))) where
  enc x := [.c (encF 1 d_I x.1), .c (encF 1 d_I x.2)]
  dec a := (decF g_I (aCell a 0 0), decF g_I (aCell a 1 0))
  pre x := (r136 x.1 x.2).isSome = true
  res x := [.c (.own (encF 1 d_I ((r136 x.1 x.2).getD default)))]
  al := false
def tb136 : Fns := lk []
theorem tb136_ok : FnsOk Try.prog tb136 := FnsOk.nil
theorem v136 : Valid Try.prog 136 T136.sp := by
  refine valid_t (fn := Try.f136) (n := 26) ty_ok tb136_ok Try.func136 rfl Try.ntmps136 ?_
  rintro ⟨a0, a1⟩ hx
  obtain ⟨r, hr⟩ := Option.isSome_iff_exists.1 (show (r136 a0 a1).isSome = true from hx)
  have hres : T136.res (a0, a1) = [.c (.own (encF 1 d_I r))] := by simp only [T136, hr, Option.getD_some]
  refine ⟨Nat.le_of_ble_eq_true rfl, fun stop S => ?_⟩
  rw [hres] at S
  unfold r136 at hr
  refine S.goB [] 1000 ?_
  simp (maxSteps := 10000000) only [go_sem, T136, Option.map_some, Int.reduceToNat, Nat.reduceEqDiff, Nat.reduceLT, Nat.reduceAdd, Nat.reduceMul, Nat.reduceSub, Nat.reduceLeDiff, reduceIte, reduceCtorEq, Try.results136]
  repeat refine gA ?_
  refine S.own0 5 1000500 1 rfl rfl ?_
  refine S.sees [0, 1, 5, 6] [] [(1000500, 1000500)] ?_ (Stop.iter S (fun s1 => ⟨[(0, .c (.d (encF 1 d_I a0))), (1, .c (.d (encF 1 d_I a1))), (5, .c (.own 1000500)), (6, .c (.d (.int .i64 s1.2)))], [], [(1000500, .owned (encF 1 d_I s1.1))]⟩) (b136_1 a0 a1) (fun q => q = r) hr rfl ?_)
  · (simp (maxDischargeDepth := 8) [go_sem])
  · intro s1 hr
    unfold b136_1 at hr
    refine S.goB [] 1000 ?_
    simp (maxSteps := 10000000) only [go_sem, T136, Option.map_some, Int.reduceToNat, Nat.reduceEqDiff, Nat.reduceLT, Nat.reduceAdd, Nat.reduceMul, Nat.reduceSub, Nat.reduceLeDiff, reduceIte, reduceCtorEq, Try.results136]
    repeat refine gA ?_
    refine ⟨fun hc => ?_, fun hc => ?_⟩
    · replace hr := ifP1 hr hc
      obtain ⟨hg1, hr⟩ := of_guard1 hr
      obtain ⟨hg2, hr⟩ := of_guard1 hr
      obtain ⟨hg3, hr⟩ := of_guard1 hr
      repeat refine gA ?_
      refine S.sees [0, 1, 5, 6] [] [(24, 1000500)] ?_ hr
      (simp (maxDischargeDepth := 8) [go_sem])
    · replace hr := ifN1 hr hc
      repeat refine gA ?_
      have hr := of_out0 hr
      repeat refine gA ?_
      obtain rfl := Option.some.inj hr
      (simp (maxDischargeDepth := 8) [go_sem])
theorem f136 : FnFact Try.prog 136 T136.sp := ⟨⟨Try.f136, Try.func136, by decide, rfl⟩, v136⟩

/- martensite/martensiteref03.Peaks -/
def b75_1 (v1 : (List ((List (Int)))) × Int × Bool) : (Int × (List (Int))) → Ctl (Int × (List (Int))) ((List (Int)) × Bool) := fun s1 =>
  if (decide (s1.1 < (v1.1.length : Int))) = true then
   if 0 ≤ s1.1 ∧ s1.1 < (v1.1.length : Int) then
    bindC (r136 s1.2 (v1.1.getD s1.1.toNat default)) fun v3 =>
     .next (IntKind.i64.wrap (s1.1 + 1), v3)
    else .out none
   else .out (some (s1.2, true))
def r75 (a0_0 : Int) (a0_1 : Int) (a0_2 : List (Int × Int)) (a0_3 : List ((List (Int × Int)))) (a1 : List (Int)) (a2 : List ((List (Int)) × Int)) : Option ((List (Int)) × Bool) :=
  (r73 a0_0 a0_1 a0_2 a0_3 a1 a2).bind fun v1 =>
   if (!v1.2.2) = true then
    some ([], false)
    else (r19 a1).bind fun v2 =>
     iterC (b75_1 v1) 1000000000 (0, v2)
def T75 : TSpec (Int × Int × (List (Int × Int)) × (List ((List (Int × Int)))) × (List (Int)) × (List ((List (Int)) × Int))) where
  enc x := [.agg [.int .i64 x.1, .int .i64 x.2.1, encF 2 d_II x.2.2.1, encF 1 d_LIIE x.2.2.2.1], .c (encF 1 d_I x.2.2.2.2.1), .c (encF 2 d_LIEI x.2.2.2.2.2)]
  dec a := (dInt (aCell a 0 0), dInt (aCell a 0 1), decF g_II (aCell a 0 2), decF g_LIIE (aCell a 0 3), decF g_I (aCell a 1 0), decF g_LIEI (aCell a 2 0))
  pre x := (r75 x.1 x.2.1 x.2.2.1 x.2.2.2.1 x.2.2.2.2.1 x.2.2.2.2.2).isSome = true
  res x := [.c (.own (encF 1 d_I (((r75 x.1 x.2.1 x.2.2.1 x.2.2.2.1 x.2.2.2.2.1 x.2.2.2.2.2).getD default).1))), .c (.d (.bool (((r75 x.1 x.2.1 x.2.2.1 x.2.2.2.1 x.2.2.2.2.1 x.2.2.2.2.2).getD default).2)))]
  al := false
def tb75 : Fns := lk [(19, T19.sp), (73, T73.sp), (136, T136.sp)]
theorem tb75_ok : FnsOk Try.prog tb75 := .cons f19 (.cons f73 (.cons f136 (FnsOk.nil)))
theorem tb75_19 : tb75 19 = some T19.sp := rfl
theorem tb75_73 : tb75 73 = some T73.sp := rfl
theorem tb75_136 : tb75 136 = some T136.sp := rfl
theorem v75 : Valid Try.prog 75 T75.sp := by
  refine valid_t (fn := Try.f75) (n := 38) ty_ok tb75_ok Try.func75 rfl Try.ntmps75 ?_
  rintro ⟨a0_0, a0_1, a0_2, a0_3, a1, a2⟩ hx
  obtain ⟨r, hr⟩ := Option.isSome_iff_exists.1 (show (r75 a0_0 a0_1 a0_2 a0_3 a1 a2).isSome = true from hx)
  have hres : T75.res (a0_0, a0_1, a0_2, a0_3, a1, a2) = [.c (.own (encF 1 d_I r.1)), .c (.d (.bool r.2))] := by simp only [T75, hr, Option.getD_some]
  refine ⟨Nat.le_of_ble_eq_true rfl, fun stop S => ?_⟩
  rw [hres] at S
  unfold r75 at hr
  refine S.goB [] 1000 ?_
  simp (maxSteps := 10000000) only [go_sem, tb75_19, T19, tb75_73, T73, tb75_136, T136, T75, Option.map_some, Int.reduceToNat, Nat.reduceEqDiff, Nat.reduceLT, Nat.reduceAdd, Nat.reduceMul, Nat.reduceSub, Nat.reduceLeDiff, reduceIte, reduceCtorEq, Try.results75]
  obtain ⟨v1, hv1, hr⟩ := of_bind0 hr
  try simp only [hv1, Option.getD_some, Option.isSome_some, true_and, and_assoc]
  repeat refine gA ?_
  refine ⟨fun hc => ?_, fun hc => ?_⟩
  · replace hr := ifP hr hc
    repeat refine gA ?_
    obtain rfl := Option.some.inj hr
    (simp (maxDischargeDepth := 8) [go_sem])
  · replace hr := ifN hr hc
    obtain ⟨v2, hv2, hr⟩ := of_bind0 hr
    try simp only [hv2, Option.getD_some, Option.isSome_some, true_and, and_assoc]
    repeat refine gA ?_
    refine S.sees [8, 11, 12] [] [(17, 17), (24, 24)] ?_ (Stop.iter S (fun s1 => ⟨[(8, .c (.own 17)), (11, .c (.own 24)), (12, .c (.d (.int .i64 s1.1)))], [], [(17, .owned (encF 1 d_LIE v1.1)), (24, .owned (encF 1 d_I s1.2))]⟩) (b75_1 v1) (fun q => q = r) hr rfl ?_)
    · (simp (maxDischargeDepth := 8) [go_sem])
    · intro s1 hr
      unfold b75_1 at hr
      refine S.goB [] 1000 ?_
      simp (maxSteps := 10000000) only [go_sem, tb75_19, T19, tb75_73, T73, tb75_136, T136, T75, Option.map_some, Int.reduceToNat, Nat.reduceEqDiff, Nat.reduceLT, Nat.reduceAdd, Nat.reduceMul, Nat.reduceSub, Nat.reduceLeDiff, reduceIte, reduceCtorEq, Try.results75]
      repeat refine gA ?_
      refine ⟨fun hc => ?_, fun hc => ?_⟩
      · replace hr := ifP1 hr hc
        obtain ⟨hg4, hr⟩ := of_guard1 hr
        obtain ⟨v3, hv3, hr⟩ := of_bind1 hr
        try simp only [hv3, Option.getD_some, Option.isSome_some, true_and, and_assoc]
        repeat refine gA ?_
        refine S.sees [8, 11, 12] [] [(17, 17), (36, 24)] ?_ hr
        (simp (maxDischargeDepth := 8) [go_sem])
      · replace hr := ifN1 hr hc
        repeat refine gA ?_
        have hr := of_out0 hr
        repeat refine gA ?_
        obtain rfl := Option.some.inj hr
        (simp (maxDischargeDepth := 8) [go_sem])
theorem f75 : FnFact Try.prog 75 T75.sp := ⟨⟨Try.f75, Try.func75, by decide, rfl⟩, v75⟩

/- martensite/martensiteref03.SameRun -/
def b76_1 (a0 : List ((List (Int)))) (a1 : List ((List (Int)))) : (Int) → Ctl (Int) (Bool) := fun s1 =>
  if (decide (s1 < (a0.length : Int))) = true then
   if 0 ≤ s1 ∧ s1 < (a0.length : Int) then
    if 0 ≤ s1 ∧ s1 < (a1.length : Int) then
     bindC (r34 (a0.getD s1.toNat default) (a1.getD s1.toNat default)) fun v1 =>
      if (!v1) = true then
       .out (some false)
       else .next (IntKind.i64.wrap (s1 + 1))
     else .out none
    else .out none
   else .out (some true)
def r76 (a0 : List ((List (Int)))) (a1 : List ((List (Int)))) : Option (Bool) :=
  if ((a0.length : Int) != (a1.length : Int)) = true then
   some false
   else iterC (b76_1 a0 a1) 1000000000 0
def T76 : TSpec ((List ((List (Int)))) × (List ((List (Int))))) where
  enc x := [.c (encF 1 d_LIE x.1), .c (encF 1 d_LIE x.2)]
  dec a := (decF g_LIE (aCell a 0 0), decF g_LIE (aCell a 1 0))
  pre x := (r76 x.1 x.2).isSome = true
  res x := [.c (.d (.bool ((r76 x.1 x.2).getD default)))]
  al := false
def tb76 : Fns := lk [(34, T34.sp)]
theorem tb76_ok : FnsOk Try.prog tb76 := .cons f34 (FnsOk.nil)
theorem tb76_34 : tb76 34 = some T34.sp := rfl
theorem v76 : Valid Try.prog 76 T76.sp := by
  refine valid_t (fn := Try.f76) (n := 27) ty_ok tb76_ok Try.func76 rfl Try.ntmps76 ?_
  rintro ⟨a0, a1⟩ hx
  obtain ⟨r, hr⟩ := Option.isSome_iff_exists.1 (show (r76 a0 a1).isSome = true from hx)
  have hres : T76.res (a0, a1) = [.c (.d (.bool r))] := by simp only [T76, hr, Option.getD_some]
  refine ⟨Nat.le_of_ble_eq_true rfl, fun stop S => ?_⟩
  rw [hres] at S
  unfold r76 at hr
  refine S.goB [] 1000 ?_
  simp (maxSteps := 10000000) only [go_sem, tb76_34, T34, T76, Option.map_some, Int.reduceToNat, Nat.reduceEqDiff, Nat.reduceLT, Nat.reduceAdd, Nat.reduceMul, Nat.reduceSub, Nat.reduceLeDiff, reduceIte, reduceCtorEq, Try.results76]
  repeat refine gA ?_
  refine ⟨fun hc => ?_, fun hc => ?_⟩
  · replace hr := ifP hr hc
    repeat refine gA ?_
    obtain rfl := Option.some.inj hr
    (simp (maxDischargeDepth := 8) [go_sem])
  · replace hr := ifN hr hc
    repeat refine gA ?_
    refine S.sees [0, 1, 5] [] [] ?_ (Stop.iter S (fun s1 => ⟨[(0, .c (.d (encF 1 d_LIE a0))), (1, .c (.d (encF 1 d_LIE a1))), (5, .c (.d (.int .i64 s1)))], [], []⟩) (b76_1 a0 a1) (fun q => q = r) hr rfl ?_)
    · (simp (maxDischargeDepth := 8) [go_sem])
    · intro s1 hr
      unfold b76_1 at hr
      refine S.goB [] 1000 ?_
      simp (maxSteps := 10000000) only [go_sem, tb76_34, T34, T76, Option.map_some, Int.reduceToNat, Nat.reduceEqDiff, Nat.reduceLT, Nat.reduceAdd, Nat.reduceMul, Nat.reduceSub, Nat.reduceLeDiff, reduceIte, reduceCtorEq, Try.results76]
      repeat refine gA ?_
      refine ⟨fun hc => ?_, fun hc => ?_⟩
      · replace hr := ifP1 hr hc
        obtain ⟨hg2, hr⟩ := of_guard1 hr
        obtain ⟨hg3, hr⟩ := of_guard1 hr
        obtain ⟨v1, hv1, hr⟩ := of_bind1 hr
        try simp only [hv1, Option.getD_some, Option.isSome_some, true_and, and_assoc]
        repeat refine gA ?_
        refine ⟨fun hc => ?_, fun hc => ?_⟩
        · replace hr := ifP1 hr hc
          repeat refine gA ?_
          have hr := of_out0 hr
          obtain rfl := Option.some.inj hr
          (simp (maxDischargeDepth := 8) [go_sem])
        · replace hr := ifN1 hr hc
          repeat refine gA ?_
          refine S.sees [0, 1, 5] [] [] ?_ hr
          (simp (maxDischargeDepth := 8) [go_sem])
      · replace hr := ifN1 hr hc
        repeat refine gA ?_
        have hr := of_out0 hr
        repeat refine gA ?_
        obtain rfl := Option.some.inj hr
        (simp (maxDischargeDepth := 8) [go_sem])
theorem f76 : FnFact Try.prog 76 T76.sp := ⟨⟨Try.f76, Try.func76, by decide, rfl⟩, v76⟩
end Go.Proofs.Ytcbiiijnaeibhaa

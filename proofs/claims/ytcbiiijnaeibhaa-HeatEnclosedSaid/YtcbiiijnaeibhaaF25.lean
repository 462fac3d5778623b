/- Contracts of functions, written by wip/dec. -/
import Derived.Test.YtcbiiijnaeibhaaF00
import Derived.Test.YtcbiiijnaeibhaaF01
import Derived.Test.YtcbiiijnaeibhaaF03
import Derived.Test.YtcbiiijnaeibhaaF08
import Derived.Test.YtcbiiijnaeibhaaF12
import Derived.Test.YtcbiiijnaeibhaaF21
import Derived.Test.YtcbiiijnaeibhaaF23
set_option linter.unusedVariables false
set_option linter.unusedSimpArgs false
set_option maxHeartbeats 4000000
set_option maxRecDepth 20000
namespace Go.Proofs.Ytcbiiijnaeibhaa
open Go.Abs
/- martensite/martensiteref03.BoxErr -/
def r82 (a0_0 : Int) (a0_1 : Int) (a0_2 : List (Int × Int)) (a0_3 : List ((List (Int × Int)))) (a1_0 : List (Int)) (a1_1 : List (Int)) : Option (Int) :=
  (r45 a0_0 a0_1 a0_2 a0_3).bind fun v1 =>
   if (v1 != 0) = true then
    some v1
    else (r46 a0_0 a0_1 a0_2 a0_3 a1_0 a1_1).bind fun v2 =>
     some v2.2
def T82 : TSpec (Int × Int × (List (Int × Int)) × (List ((List (Int × Int)))) × (List (Int)) × (List (Int))) where
  enc x := [.agg [.int .i64 x.1, .int .i64 x.2.1, encF 2 d_II x.2.2.1, encF 1 d_LIIE x.2.2.2.1], .agg [encF 1 d_I x.2.2.2.2.1, encF 1 d_I x.2.2.2.2.2]]
  dec a := (dInt (aCell a 0 0), dInt (aCell a 0 1), decF g_II (aCell a 0 2), decF g_LIIE (aCell a 0 3), decF g_I (aCell a 1 0), decF g_I (aCell a 1 1))
  pre x := (r82 x.1 x.2.1 x.2.2.1 x.2.2.2.1 x.2.2.2.2.1 x.2.2.2.2.2).isSome = true
  res x := [.c (.d (.int .i64 ((r82 x.1 x.2.1 x.2.2.1 x.2.2.2.1 x.2.2.2.2.1 x.2.2.2.2.2).getD default)))]
  al := false
def tb82 : Fns := lk [(45, T45.sp), (46, T46.sp)]
theorem tb82_ok : FnsOk Try.prog tb82 := .cons f45 (.cons f46 (FnsOk.nil))
theorem tb82_45 : tb82 45 = some T45.sp := rfl
theorem tb82_46 : tb82 46 = some T46.sp := rfl
theorem v82 : Valid Try.prog 82 T82.sp := by
  refine valid_t (fn := Try.f82) (n := 20) ty_ok tb82_ok Try.func82 rfl Try.ntmps82 ?_
  rintro ⟨a0_0, a0_1, a0_2, a0_3, a1_0, a1_1⟩ hx
  obtain ⟨r, hr⟩ := Option.isSome_iff_exists.1 (show (r82 a0_0 a0_1 a0_2 a0_3 a1_0 a1_1).isSome = true from hx)
  have hres : T82.res (a0_0, a0_1, a0_2, a0_3, a1_0, a1_1) = [.c (.d (.int .i64 r))] := by simp only [T82, hr, Option.getD_some]
  refine ⟨Nat.le_of_ble_eq_true rfl, fun stop S => ?_⟩
  rw [hres] at S
  unfold r82 at hr
  refine S.goB [] 1000 ?_
  simp (maxSteps := 10000000) only [go_sem, tb82_45, T45, tb82_46, T46, T82, Option.map_some, Int.reduceToNat, Nat.reduceEqDiff, Nat.reduceLT, Nat.reduceAdd, Nat.reduceMul, Nat.reduceSub, Nat.reduceLeDiff, reduceIte, reduceCtorEq, Try.results82]
  obtain ⟨v1, hv1, hr⟩ := of_bind0 hr
  try simp only [hv1, Option.getD_some, Option.isSome_some, true_and, and_assoc]
  repeat refine gA ?_
  refine ⟨fun hc => ?_, fun hc => ?_⟩
  · replace hr := ifP hr hc
    repeat refine gA ?_
    obtain rfl := Option.some.inj hr
    (simp (maxDischargeDepth := 8) [go_sem])
  · replace hr := ifN hr hc
    obtain ⟨v2, hv2, hr⟩ := of_bind0 hr
    try simp only [hv2, Option.getD_some, Option.isSome_some, true_and, and_assoc]
    repeat refine gA ?_
    obtain rfl := Option.some.inj hr
    (simp (maxDischargeDepth := 8) [go_sem])
theorem f82 : FnFact Try.prog 82 T82.sp := ⟨⟨Try.f82, Try.func82, by decide, rfl⟩, v82⟩

/- martensite/martensiteref03.HistoryErr -/
def r83 (a0_0 : Int) (a0_1 : Int) (a0_2 : List (Int × Int)) (a0_3 : List ((List (Int × Int)))) (a1_0 : List ((List (Int × Int)) × Int × Int)) (a1_1 : Int) : Option (Int) :=
  (r50 a0_0 a0_1 a0_2 a0_3 a1_0).bind fun v1 =>
   if (v1 != 0) = true then
    some v1
    else (r97 a1_1).bind fun v2 =>
     some v2
def T83 : TSpec (Int × Int × (List (Int × Int)) × (List ((List (Int × Int)))) × (List ((List (Int × Int)) × Int × Int)) × Int) where
  enc x := [.agg [.int .i64 x.1, .int .i64 x.2.1, encF 2 d_II x.2.2.1, encF 1 d_LIIE x.2.2.2.1], .agg [encF 3 d_LIIEII x.2.2.2.2.1, .int .i64 x.2.2.2.2.2]]
  dec a := (dInt (aCell a 0 0), dInt (aCell a 0 1), decF g_II (aCell a 0 2), decF g_LIIE (aCell a 0 3), decF g_LIIEII (aCell a 1 0), dInt (aCell a 1 1))
  pre x := (r83 x.1 x.2.1 x.2.2.1 x.2.2.2.1 x.2.2.2.2.1 x.2.2.2.2.2).isSome = true
  res x := [.c (.d (.int .i64 ((r83 x.1 x.2.1 x.2.2.1 x.2.2.2.1 x.2.2.2.2.1 x.2.2.2.2.2).getD default)))]
  al := false
def tb83 : Fns := lk [(50, T50.sp), (97, T97.sp)]
theorem tb83_ok : FnsOk Try.prog tb83 := .cons f50 (.cons f97 (FnsOk.nil))
theorem tb83_50 : tb83 50 = some T50.sp := rfl
theorem tb83_97 : tb83 97 = some T97.sp := rfl
theorem v83 : Valid Try.prog 83 T83.sp := by
  refine valid_t (fn := Try.f83) (n := 16) ty_ok tb83_ok Try.func83 rfl Try.ntmps83 ?_
  rintro ⟨a0_0, a0_1, a0_2, a0_3, a1_0, a1_1⟩ hx
  obtain ⟨r, hr⟩ := Option.isSome_iff_exists.1 (show (r83 a0_0 a0_1 a0_2 a0_3 a1_0 a1_1).isSome = true from hx)
  have hres : T83.res (a0_0, a0_1, a0_2, a0_3, a1_0, a1_1) = [.c (.d (.int .i64 r))] := by simp only [T83, hr, Option.getD_some]
  refine ⟨Nat.le_of_ble_eq_true rfl, fun stop S => ?_⟩
  rw [hres] at S
  unfold r83 at hr
  refine S.goB [] 1000 ?_
  simp (maxSteps := 10000000) only [go_sem, tb83_50, T50, tb83_97, T97, T83, Option.map_some, Int.reduceToNat, Nat.reduceEqDiff, Nat.reduceLT, Nat.reduceAdd, Nat.reduceMul, Nat.reduceSub, Nat.reduceLeDiff, reduceIte, reduceCtorEq, Try.results83]
  obtain ⟨v1, hv1, hr⟩ := of_bind0 hr
  try simp only [hv1, Option.getD_some, Option.isSome_some, true_and, and_assoc]
  repeat refine gA ?_
  refine ⟨fun hc => ?_, fun hc => ?_⟩
  · replace hr := ifP hr hc
    repeat refine gA ?_
    obtain rfl := Option.some.inj hr
    (simp (maxDischargeDepth := 8) [go_sem])
  · replace hr := ifN hr hc
    obtain ⟨v2, hv2, hr⟩ := of_bind0 hr
    try simp only [hv2, Option.getD_some, Option.isSome_some, true_and, and_assoc]
    repeat refine gA ?_
    obtain rfl := Option.some.inj hr
    (simp (maxDischargeDepth := 8) [go_sem])
theorem f83 : FnFact Try.prog 83 T83.sp := ⟨⟨Try.f83, Try.func83, by decide, rfl⟩, v83⟩

/- martensite/martensiteref03.CopyHistory -/
def r85 (a0_0 : List ((List (Int × Int)) × Int × Int)) (a0_1 : Int) : Option ((List ((List (Int × Int)) × Int × Int)) × Int) :=
  (r44 a0_0).bind fun v1 =>
   some (v1, a0_1)
def T85 : TSpec ((List ((List (Int × Int)) × Int × Int)) × Int) where
  enc x := [.agg [encF 3 d_LIIEII x.1, .int .i64 x.2]]
  dec a := (decF g_LIIEII (aCell a 0 0), dInt (aCell a 0 1))
  pre x := (r85 x.1 x.2).isSome = true
  res x := [.agg [.own (encF 3 d_LIIEII (((r85 x.1 x.2).getD default).1)), .d (.int .i64 (((r85 x.1 x.2).getD default).2))]]
  al := true
def tb85 : Fns := lk [(44, T44.sp)]
theorem tb85_ok : FnsOk Try.prog tb85 := .cons f44 (FnsOk.nil)
theorem tb85_44 : tb85 44 = some T44.sp := rfl
theorem v85 : Valid Try.prog 85 T85.sp := by
  refine valid_t (fn := Try.f85) (n := 8) ty_ok tb85_ok Try.func85 rfl Try.ntmps85 ?_
  rintro ⟨a0_0, a0_1⟩ hx
  obtain ⟨r, hr⟩ := Option.isSome_iff_exists.1 (show (r85 a0_0 a0_1).isSome = true from hx)
  have hres : T85.res (a0_0, a0_1) = [.agg [.own (encF 3 d_LIIEII r.1), .d (.int .i64 r.2)]] := by simp only [T85, hr, Option.getD_some]
  refine ⟨Nat.le_of_ble_eq_true rfl, fun stop S => ?_⟩
  rw [hres] at S
  unfold r85 at hr
  refine S.goB [] 1000 ?_
  simp (maxSteps := 10000000) only [go_sem, tb85_44, T44, T85, Option.map_some, Int.reduceToNat, Nat.reduceEqDiff, Nat.reduceLT, Nat.reduceAdd, Nat.reduceMul, Nat.reduceSub, Nat.reduceLeDiff, reduceIte, reduceCtorEq, Try.results85]
  obtain ⟨v1, hv1, hr⟩ := of_bind0 hr
  try simp only [hv1, Option.getD_some, Option.isSome_some, true_and, and_assoc]
  repeat refine gA ?_
  obtain rfl := Option.some.inj hr
  (simp (maxDischargeDepth := 8) [go_sem])
theorem f85 : FnFact Try.prog 85 T85.sp := ⟨⟨Try.f85, Try.func85, by decide, rfl⟩, v85⟩

/- martensite/heat.openHistory -/
def r137 (a0_0 : Int) (a0_1 : Int) (a0_2 : List (Int × Int)) (a0_3 : List ((List (Int × Int)))) (a1_0 : List (Int)) (a1_1 : List (Int)) (a2_0 : List ((List (Int × Int)) × Int × Int)) (a2_1 : Int) : Option (Int × Int × (List (Int × Int)) × (List ((List (Int × Int)))) × (List (Int × Int)) × (List ((List (Int × Int)))) × Int) :=
  (r115 a0_0 a0_1 a0_2 a0_3 a1_0 a1_1).bind fun v1 =>
   if (v1.2.2.2.2.2.2 == 0) = true then
    (r118 v1.1 v1.2.1 v1.2.2.1 v1.2.2.2.1 v1.2.2.2.2.1 v1.2.2.2.2.2.1 a2_0).bind fun v2 =>
     (r93 a2_1).bind fun v3 =>
      (r91 [v2, v3]).bind fun v4 =>
       some (v1.1, v1.2.1, v1.2.2.1, v1.2.2.2.1, v1.2.2.2.2.1, v1.2.2.2.2.2.1, v4)
    else some (v1.1, v1.2.1, v1.2.2.1, v1.2.2.2.1, v1.2.2.2.2.1, v1.2.2.2.2.2.1, v1.2.2.2.2.2.2)
def T137 : TSpec (Int × Int × (List (Int × Int)) × (List ((List (Int × Int)))) × (List (Int)) × (List (Int)) × (List ((List (Int × Int)) × Int × Int)) × Int) where
  enc x := [.agg [.int .i64 x.1, .int .i64 x.2.1, encF 2 d_II x.2.2.1, encF 1 d_LIIE x.2.2.2.1], .agg [encF 1 d_I x.2.2.2.2.1, encF 1 d_I x.2.2.2.2.2.1], .agg [encF 3 d_LIIEII x.2.2.2.2.2.2.1, .int .i64 x.2.2.2.2.2.2.2]]
  dec a := (dInt (aCell a 0 0), dInt (aCell a 0 1), decF g_II (aCell a 0 2), decF g_LIIE (aCell a 0 3), decF g_I (aCell a 1 0), decF g_I (aCell a 1 1), decF g_LIIEII (aCell a 2 0), dInt (aCell a 2 1))
  pre x := (r137 x.1 x.2.1 x.2.2.1 x.2.2.2.1 x.2.2.2.2.1 x.2.2.2.2.2.1 x.2.2.2.2.2.2.1 x.2.2.2.2.2.2.2).isSome = true
  res x := [.agg [.d (.int .i64 (((r137 x.1 x.2.1 x.2.2.1 x.2.2.2.1 x.2.2.2.2.1 x.2.2.2.2.2.1 x.2.2.2.2.2.2.1 x.2.2.2.2.2.2.2).getD default).1)), .d (.int .i64 (((r137 x.1 x.2.1 x.2.2.1 x.2.2.2.1 x.2.2.2.2.1 x.2.2.2.2.2.1 x.2.2.2.2.2.2.1 x.2.2.2.2.2.2.2).getD default).2.1)), .d (encF 2 d_II (((r137 x.1 x.2.1 x.2.2.1 x.2.2.2.1 x.2.2.2.2.1 x.2.2.2.2.2.1 x.2.2.2.2.2.2.1 x.2.2.2.2.2.2.2).getD default).2.2.1)), .d (encF 1 d_LIIE (((r137 x.1 x.2.1 x.2.2.1 x.2.2.2.1 x.2.2.2.2.1 x.2.2.2.2.2.1 x.2.2.2.2.2.2.1 x.2.2.2.2.2.2.2).getD default).2.2.2.1)), .own (encF 2 d_II (((r137 x.1 x.2.1 x.2.2.1 x.2.2.2.1 x.2.2.2.2.1 x.2.2.2.2.2.1 x.2.2.2.2.2.2.1 x.2.2.2.2.2.2.2).getD default).2.2.2.2.1)), .own (encF 1 d_LIIE (((r137 x.1 x.2.1 x.2.2.1 x.2.2.2.1 x.2.2.2.2.1 x.2.2.2.2.2.1 x.2.2.2.2.2.2.1 x.2.2.2.2.2.2.2).getD default).2.2.2.2.2.1))], .c (.d (.int .i64 (((r137 x.1 x.2.1 x.2.2.1 x.2.2.2.1 x.2.2.2.2.1 x.2.2.2.2.2.1 x.2.2.2.2.2.2.1 x.2.2.2.2.2.2.2).getD default).2.2.2.2.2.2)))]
  al := true
def tb137 : Fns := lk [(91, T91.sp), (93, T93.sp), (115, T115.sp), (118, T118.sp)]
theorem tb137_ok : FnsOk Try.prog tb137 := .cons f91 (.cons f93 (.cons f115 (.cons f118 (FnsOk.nil))))
theorem tb137_91 : tb137 91 = some T91.sp := rfl
theorem tb137_93 : tb137 93 = some T93.sp := rfl
theorem tb137_115 : tb137 115 = some T115.sp := rfl
theorem tb137_118 : tb137 118 = some T118.sp := rfl
theorem v137 : Valid Try.prog 137 T137.sp := by
  refine valid_t (fn := Try.f137) (n := 29) ty_ok tb137_ok Try.func137 rfl Try.ntmps137 ?_
  rintro ⟨a0_0, a0_1, a0_2, a0_3, a1_0, a1_1, a2_0, a2_1⟩ hx
  obtain ⟨r, hr⟩ := Option.isSome_iff_exists.1 (show (r137 a0_0 a0_1 a0_2 a0_3 a1_0 a1_1 a2_0 a2_1).isSome = true from hx)
  have hres : T137.res (a0_0, a0_1, a0_2, a0_3, a1_0, a1_1, a2_0, a2_1) = [.agg [.d (.int .i64 r.1), .d (.int .i64 r.2.1), .d (encF 2 d_II r.2.2.1), .d (encF 1 d_LIIE r.2.2.2.1), .own (encF 2 d_II r.2.2.2.2.1), .own (encF 1 d_LIIE r.2.2.2.2.2.1)], .c (.d (.int .i64 r.2.2.2.2.2.2))] := by simp only [T137, hr, Option.getD_some]
  refine ⟨Nat.le_of_ble_eq_true rfl, fun stop S => ?_⟩
  rw [hres] at S
  unfold r137 at hr
  refine S.goB [] 1000 ?_
  simp (maxSteps := 10000000) only [go_sem, tb137_91, T91, tb137_93, T93, tb137_115, T115, tb137_118, T118, T137, Option.map_some, Int.reduceToNat, Nat.reduceEqDiff, Nat.reduceLT, Nat.reduceAdd, Nat.reduceMul, Nat.reduceSub, Nat.reduceLeDiff, reduceIte, reduceCtorEq, Try.results137]
  obtain ⟨v1, hv1, hr⟩ := of_bind0 hr
  try simp only [hv1, Option.getD_some, Option.isSome_some, true_and, and_assoc]
  repeat refine gA ?_
  refine ⟨fun hc => ?_, fun hc => ?_⟩
  · replace hr := ifP hr hc
    obtain ⟨v2, hv2, hr⟩ := of_bind0 hr
    obtain ⟨v3, hv3, hr⟩ := of_bind0 hr
    obtain ⟨v4, hv4, hr⟩ := of_bind0 hr
    try simp only [hv2, hv3, hv4, Option.getD_some, Option.isSome_some, true_and, and_assoc]
    repeat refine gA ?_
    obtain rfl := Option.some.inj hr
    (simp (maxDischargeDepth := 8) [go_sem])
  · replace hr := ifN hr hc
    repeat refine gA ?_
    obtain rfl := Option.some.inj hr
    (simp (maxDischargeDepth := 8) [go_sem])
theorem f137 : FnFact Try.prog 137 T137.sp := ⟨⟨Try.f137, Try.func137, by decide, rfl⟩, v137⟩

/- martensite/heat.DepthsOf -/
def b84_1 (a1_0 : List (Int)) (a1_1 : List (Int)) (a2_1 : Int) (v1 : Int × Int × (List (Int × Int)) × (List ((List (Int × Int)))) × (List (Int × Int)) × (List ((List (Int × Int)))) × Int) (v2 : (List ((List (Int)) × (List (Int)))) × Int) : ((List ((List (Int)))) × (List ((List (Int)))) × Int) → Ctl ((List ((List (Int)))) × (List ((List (Int)))) × Int) (Int × Int × Int) := fun s1 =>
  if (decide (s1.2.2 < (v2.1.length : Int))) = true then
   if 0 ≤ s1.2.2 ∧ s1.2.2 < (v2.1.length : Int) then
    if (s1.1.length + 1) * 24 ≤ 140737488355328 ∧ s1.1.length + 1 ≤ 9223372036854775807 then
     if (s1.2.1.length + 1) * 24 ≤ 140737488355328 ∧ s1.2.1.length + 1 ≤ 9223372036854775807 then
      .next (s1.1 ++ [(v2.1.getD s1.2.2.toNat default).1], s1.2.1 ++ [(v2.1.getD s1.2.2.toNat default).2], IntKind.i64.wrap (s1.2.2 + 1))
      else .out none
     else .out none
    else .out none
   else .out ((r134 a1_0 s1.1).bind fun v6 =>
    (r95 v1.1 v1.2.1 v1.2.2.1 v1.2.2.2.1 v1.2.2.2.2.1 v1.2.2.2.2.2.1 v6 a2_1).bind fun v7 =>
     (r134 a1_1 s1.2.1).bind fun v8 =>
      (r95 v1.1 v1.2.1 v1.2.2.1 v1.2.2.2.1 v1.2.2.2.2.1 v1.2.2.2.2.2.1 v8 a2_1).bind fun v9 =>
       some (v7, v9, 0))
def r84 (a0_0 : Int) (a0_1 : Int) (a0_2 : List (Int × Int)) (a0_3 : List ((List (Int × Int)))) (a1_0 : List (Int)) (a1_1 : List (Int)) (a2_0 : List ((List (Int × Int)) × Int × Int)) (a2_1 : Int) : Option (Int × Int × Int) :=
  (r137 a0_0 a0_1 a0_2 a0_3 a1_0 a1_1 a2_0 a2_1).bind fun v1 =>
   if (v1.2.2.2.2.2.2 != 0) = true then
    some (0, 0, v1.2.2.2.2.2.2)
    else (r119 v1.1 v1.2.1 v1.2.2.1 v1.2.2.2.1 v1.2.2.2.2.1 v1.2.2.2.2.2.1 a1_0 a1_1 a2_0).bind fun v2 =>
     if (v2.2 != 0) = true then
      some (0, 0, v2.2)
      else iterC (b84_1 a1_0 a1_1 a2_1 v1 v2) 1000000000 ([], [], 0)
def T84 : TSpec (Int × Int × (List (Int × Int)) × (List ((List (Int × Int)))) × (List (Int)) × (List (Int)) × (List ((List (Int × Int)) × Int × Int)) × Int) where
  enc x := [.agg [.int .i64 x.1, .int .i64 x.2.1, encF 2 d_II x.2.2.1, encF 1 d_LIIE x.2.2.2.1], .agg [encF 1 d_I x.2.2.2.2.1, encF 1 d_I x.2.2.2.2.2.1], .agg [encF 3 d_LIIEII x.2.2.2.2.2.2.1, .int .i64 x.2.2.2.2.2.2.2]]
  dec a := (dInt (aCell a 0 0), dInt (aCell a 0 1), decF g_II (aCell a 0 2), decF g_LIIE (aCell a 0 3), decF g_I (aCell a 1 0), decF g_I (aCell a 1 1), decF g_LIIEII (aCell a 2 0), dInt (aCell a 2 1))
  pre x := (r84 x.1 x.2.1 x.2.2.1 x.2.2.2.1 x.2.2.2.2.1 x.2.2.2.2.2.1 x.2.2.2.2.2.2.1 x.2.2.2.2.2.2.2).isSome = true
  res x := [.agg [.d (.int .i64 (((r84 x.1 x.2.1 x.2.2.1 x.2.2.2.1 x.2.2.2.2.1 x.2.2.2.2.2.1 x.2.2.2.2.2.2.1 x.2.2.2.2.2.2.2).getD default).1)), .d (.int .i64 (((r84 x.1 x.2.1 x.2.2.1 x.2.2.2.1 x.2.2.2.2.1 x.2.2.2.2.2.1 x.2.2.2.2.2.2.1 x.2.2.2.2.2.2.2).getD default).2.1))], .c (.d (.int .i64 (((r84 x.1 x.2.1 x.2.2.1 x.2.2.2.1 x.2.2.2.2.1 x.2.2.2.2.2.1 x.2.2.2.2.2.2.1 x.2.2.2.2.2.2.2).getD default).2.2)))]
  al := false
def tb84 : Fns := lk [(95, T95.sp), (119, T119.sp), (134, T134.sp), (137, T137.sp)]
theorem tb84_ok : FnsOk Try.prog tb84 := .cons f95 (.cons f119 (.cons f134 (.cons f137 (FnsOk.nil))))
theorem tb84_95 : tb84 95 = some T95.sp := rfl
theorem tb84_119 : tb84 119 = some T119.sp := rfl
theorem tb84_134 : tb84 134 = some T134.sp := rfl
theorem tb84_137 : tb84 137 = some T137.sp := rfl
theorem v84 : Valid Try.prog 84 T84.sp := by
  refine valid_t (fn := Try.f84) (n := 72) ty_ok tb84_ok Try.func84 rfl Try.ntmps84 ?_
  rintro ⟨a0_0, a0_1, a0_2, a0_3, a1_0, a1_1, a2_0, a2_1⟩ hx
  obtain ⟨r, hr⟩ := Option.isSome_iff_exists.1 (show (r84 a0_0 a0_1 a0_2 a0_3 a1_0 a1_1 a2_0 a2_1).isSome = true from hx)
  have hres : T84.res (a0_0, a0_1, a0_2, a0_3, a1_0, a1_1, a2_0, a2_1) = [.agg [.d (.int .i64 r.1), .d (.int .i64 r.2.1)], .c (.d (.int .i64 r.2.2))] := by simp only [T84, hr, Option.getD_some]
  refine ⟨Nat.le_of_ble_eq_true rfl, fun stop S => ?_⟩
  rw [hres] at S
  unfold r84 at hr
  refine S.goB [] 1000 ?_
  simp (maxSteps := 10000000) only [go_sem, tb84_95, T95, tb84_119, T119, tb84_134, T134, tb84_137, T137, T84, Option.map_some, Int.reduceToNat, Nat.reduceEqDiff, Nat.reduceLT, Nat.reduceAdd, Nat.reduceMul, Nat.reduceSub, Nat.reduceLeDiff, reduceIte, reduceCtorEq, Try.results84]
  obtain ⟨v1, hv1, hr⟩ := of_bind0 hr
  try simp only [hv1, Option.getD_some, Option.isSome_some, true_and, and_assoc]
  repeat refine gA ?_
  refine ⟨fun hc => ?_, fun hc => ?_⟩
  · replace hr := ifP hr hc
    repeat refine gA ?_
    obtain rfl := Option.some.inj hr
    (simp (maxDischargeDepth := 8) [go_sem])
  · replace hr := ifN hr hc
    obtain ⟨v2, hv2, hr⟩ := of_bind0 hr
    try simp only [hv2, Option.getD_some, Option.isSome_some, true_and, and_assoc]
    repeat refine gA ?_
    refine ⟨fun hc => ?_, fun hc => ?_⟩
    · replace hr := ifP hr hc
      repeat refine gA ?_
      obtain rfl := Option.some.inj hr
      (simp (maxDischargeDepth := 8) [go_sem])
    · replace hr := ifN hr hc
      repeat refine gA ?_
      refine S.own0 11 1001100 1 rfl rfl ?_
      refine S.own0 12 1001200 1 rfl rfl ?_
      refine S.sees [4, 5, 6, 8, 11, 12, 38, 39, 40] [(4, 4), (5, 5), (6, 6), (8, 8)] [(1001100, 1001100), (1001200, 1001200), (31, 31), (19, 19), (10019, 10019)] ?_ (Stop.iter S (fun s1 => ⟨[(4, .c (.ref 4 0)), (5, .c (.ref 5 0)), (6, .c (.ref 6 0)), (8, .c (.ref 8 0)), (11, .c (.own 1001100)), (12, .c (.own 1001200)), (38, .c (.own 31)), (39, .c (.d (.int .i64 (v2.1.length : Int)))), (40, .c (.d (.int .i64 s1.2.2)))], [(4, [.d (encF 1 d_I a1_0), .d (encF 1 d_I a1_1)]), (5, [.d (encF 3 d_LIIEII a2_0), .d (.int .i64 a2_1)]), (6, [.d (.int .i64 0), .d (.int .i64 0)]), (8, [.d (.int .i64 v1.1), .d (.int .i64 v1.2.1), .d (encF 2 d_II v1.2.2.1), .d (encF 1 d_LIIE v1.2.2.2.1), .own 19, .own 10019])], [(1001100, .owned (encF 1 d_LIE s1.1)), (1001200, .owned (encF 1 d_LIE s1.2.1)), (31, .owned (encF 2 d_LIELIE v2.1)), (19, .shared (encF 2 d_II v1.2.2.2.2.1)), (10019, .shared (encF 1 d_LIIE v1.2.2.2.2.2.1))]⟩) (b84_1 a1_0 a1_1 a2_1 v1 v2) (fun q => q = r) hr rfl ?_)
      · (simp (maxDischargeDepth := 8) [go_sem])
      · intro s1 hr
        unfold b84_1 at hr
        refine S.goB [] 1000 ?_
        simp (maxSteps := 10000000) only [go_sem, tb84_95, T95, tb84_119, T119, tb84_134, T134, tb84_137, T137, T84, Option.map_some, Int.reduceToNat, Nat.reduceEqDiff, Nat.reduceLT, Nat.reduceAdd, Nat.reduceMul, Nat.reduceSub, Nat.reduceLeDiff, reduceIte, reduceCtorEq, Try.results84]
        repeat refine gA ?_
        refine ⟨fun hc => ?_, fun hc => ?_⟩
        · replace hr := ifP1 hr hc
          obtain ⟨hg3, hr⟩ := of_guard1 hr
          obtain ⟨hg4, hr⟩ := of_guard1 hr
          obtain ⟨hg5, hr⟩ := of_guard1 hr
          repeat refine gA ?_
          refine S.sees [4, 5, 6, 8, 11, 12, 38, 39, 40] [(4, 4), (5, 5), (6, 6), (8, 8)] [(48, 1001100), (53, 1001200), (31, 31), (19, 19), (10019, 10019)] ?_ hr
          (simp (maxDischargeDepth := 8) [go_sem])
        · replace hr := ifN1 hr hc
          repeat refine gA ?_
          have hr := of_out0 hr
          obtain ⟨v6, hv6, hr⟩ := of_bind0 hr
          obtain ⟨v7, hv7, hr⟩ := of_bind0 hr
          obtain ⟨v8, hv8, hr⟩ := of_bind0 hr
          obtain ⟨v9, hv9, hr⟩ := of_bind0 hr
          try simp only [hv6, hv7, hv8, hv9, Option.getD_some, Option.isSome_some, true_and, and_assoc]
          repeat refine gA ?_
          obtain rfl := Option.some.inj hr
          (simp (maxDischargeDepth := 8) [go_sem])
theorem f84 : FnFact Try.prog 84 T84.sp := ⟨⟨Try.f84, Try.func84, by decide, rfl⟩, v84⟩

/- (martensite/martensitelaw03.Picked).pick -/
def r86 (a0_0 : List ((List (Int × Int)) × Int × Int)) (a0_1 : Int) (a0_2 : List (Int)) (a1 : Int) (a2_0 : Int) (a2_1 : Int) : Option (Int) :=
  (r78 a1 (a0_2.length : Int)).bind fun v1 =>
   if 0 ≤ v1 ∧ v1 < (a0_2.length : Int) then
    (r78 (a0_2.getD v1.toNat default) (IntKind.i64.wrap ((IntKind.i64.wrap (a2_1 - a2_0)) + 1))).bind fun v2 =>
     some (IntKind.i64.wrap (a2_0 + v2))
    else none
def T86 : TSpec ((List ((List (Int × Int)) × Int × Int)) × Int × (List (Int)) × Int × Int × Int) where
  enc x := [.agg [encF 3 d_LIIEII x.1, .int .i64 x.2.1, encF 1 d_I x.2.2.1], .c (.int .i64 x.2.2.2.1), .agg [.int .i64 x.2.2.2.2.1, .int .i64 x.2.2.2.2.2]]
  dec a := (decF g_LIIEII (aCell a 0 0), dInt (aCell a 0 1), decF g_I (aCell a 0 2), dInt (aCell a 1 0), dInt (aCell a 2 0), dInt (aCell a 2 1))
  pre x := (r86 x.1 x.2.1 x.2.2.1 x.2.2.2.1 x.2.2.2.2.1 x.2.2.2.2.2).isSome = true
  res x := [.c (.d (.int .i64 ((r86 x.1 x.2.1 x.2.2.1 x.2.2.2.1 x.2.2.2.2.1 x.2.2.2.2.2).getD default)))]
  al := false
def tb86 : Fns := lk [(78, T78.sp)]
theorem tb86_ok : FnsOk Try.prog tb86 := .cons f78 (FnsOk.nil)
theorem tb86_78 : tb86 78 = some T78.sp := rfl
theorem v86 : Valid Try.prog 86 T86.sp := by
  refine valid_t (fn := Try.f86) (n := 26) ty_ok tb86_ok Try.func86 rfl Try.ntmps86 ?_
  rintro ⟨a0_0, a0_1, a0_2, a1, a2_0, a2_1⟩ hx
  obtain ⟨r, hr⟩ := Option.isSome_iff_exists.1 (show (r86 a0_0 a0_1 a0_2 a1 a2_0 a2_1).isSome = true from hx)
  have hres : T86.res (a0_0, a0_1, a0_2, a1, a2_0, a2_1) = [.c (.d (.int .i64 r))] := by simp only [T86, hr, Option.getD_some]
  refine ⟨Nat.le_of_ble_eq_true rfl, fun stop S => ?_⟩
  rw [hres] at S
  unfold r86 at hr
  refine S.goB [] 1000 ?_
  simp (maxSteps := 10000000) only [go_sem, tb86_78, T78, T86, Option.map_some, Int.reduceToNat, Nat.reduceEqDiff, Nat.reduceLT, Nat.reduceAdd, Nat.reduceMul, Nat.reduceSub, Nat.reduceLeDiff, reduceIte, reduceCtorEq, Try.results86]
  obtain ⟨v1, hv1, hr⟩ := of_bind0 hr
  obtain ⟨hg3, hr⟩ := of_guard0 hr
  obtain ⟨v2, hv2, hr⟩ := of_bind0 hr
  try simp only [hv1, hv2, Option.getD_some, Option.isSome_some, true_and, and_assoc]
  repeat refine gA ?_
  obtain rfl := Option.some.inj hr
  (simp (maxDischargeDepth := 8) [go_sem])
theorem f86 : FnFact Try.prog 86 T86.sp := ⟨⟨Try.f86, Try.func86, by decide, rfl⟩, v86⟩
end Go.Proofs.Ytcbiiijnaeibhaa

/- Contracts of functions, written by wip/dec. -/
import Derived.Test.YtcbiiijnaeibhaaC00
import Derived.Test.YtcbiiijnaeibhaaC01
import Derived.Test.YtcbiiijnaeibhaaC03
import Derived.Test.YtcbiiijnaeibhaaC04
set_option linter.unusedVariables false
set_option linter.unusedSimpArgs false
set_option maxHeartbeats 4000000
set_option maxRecDepth 8000
namespace Go.Proofs.Ytcbiiijnaeibhaa
open Go.Abs
/- martensite/heat.drives -/
def b153_1 (a0_0 : List (Int × Int)) (a0_1 : Int) (a0_2 : Int) : (Int × (List (Int)) × (List (Int))) → Ctl (Int × (List (Int)) × (List (Int))) ((List (Int)) × Int × (List (Int)) × Int) := fun s1 =>
  if (decide (s1.1 < (a0_0.length : Int))) = true then
   if 0 ≤ s1.1 ∧ s1.1 < (a0_0.length : Int) then
    if (s1.2.1.length + 1) * 8 ≤ 140737488355328 ∧ s1.2.1.length + 1 ≤ 9223372036854775807 then
     if (s1.2.2.length + 1) * 8 ≤ 140737488355328 ∧ s1.2.2.length + 1 ≤ 9223372036854775807 then
      .next (IntKind.i64.wrap (s1.1 + 1), s1.2.1 ++ [(a0_0.getD s1.1.toNat default).1], s1.2.2 ++ [(a0_0.getD s1.1.toNat default).2])
      else .out none
     else .out none
    else .out none
   else .out (some (s1.2.1, a0_2, s1.2.2, a0_1))
def r153 (a0_0 : List (Int × Int)) (a0_1 : Int) (a0_2 : Int) : Option ((List (Int)) × Int × (List (Int)) × Int) :=
  iterC (b153_1 a0_0 a0_1 a0_2) 1000000000 (0, [], [])
def T153 : TSpec ((List (Int × Int)) × Int × Int) where
  enc x := [.agg [encF 2 d_II x.1, .int .i64 x.2.1, .int .i64 x.2.2]]
  dec a := (decF g_II (aCell a 0 0), dInt (aCell a 0 1), dInt (aCell a 0 2))
  pre x := (r153 x.1 x.2.1 x.2.2).isSome = true
  res x := [.agg [.own (encF 1 d_I (((r153 x.1 x.2.1 x.2.2).getD default).1)), .d (.int .i64 (((r153 x.1 x.2.1 x.2.2).getD default).2.1))], .agg [.own (encF 1 d_I (((r153 x.1 x.2.1 x.2.2).getD default).2.2.1)), .d (.int .i64 (((r153 x.1 x.2.1 x.2.2).getD default).2.2.2))]]
  al := false
def tb153 : Fns := lk []
theorem tb153_ok : FnsOk Try.prog tb153 := FnsOk.nil
theorem v153 : Valid Try.prog 153 T153.sp := by
  refine valid_t (fn := Try.f153) (n := 38) ty_ok tb153_ok Try.func153 rfl Try.ntmps153 ?_
  rintro ⟨a0_0, a0_1, a0_2⟩ hx
  obtain ⟨r, hr⟩ := Option.isSome_iff_exists.1 (show (r153 a0_0 a0_1 a0_2).isSome = true from hx)
  have hres : T153.res (a0_0, a0_1, a0_2) = [.agg [.own (encF 1 d_I r.1), .d (.int .i64 r.2.1)], .agg [.own (encF 1 d_I r.2.2.1), .d (.int .i64 r.2.2.2)]] := by simp only [T153, hr, Option.getD_some]
  refine ⟨Nat.le_of_ble_eq_true rfl, fun stop S => ?_⟩
  rw [hres] at S
  unfold r153 at hr
  refine S.goB [] 1000 ?_
  simp (maxSteps := 10000000) only [go_sem, T153, Option.map_some, Int.reduceToNat, Nat.reduceEqDiff, Nat.reduceLT, Nat.reduceAdd, Nat.reduceMul, Nat.reduceSub, Nat.reduceLeDiff, reduceIte, reduceCtorEq, Try.results153]
  repeat (refine And.intro ?_ ?_; focus (first | assumption | decide +kernel | omega | (show Eqv _ _; (simp (maxDischargeDepth := 8) [go_sem]))))
  refine S.own0b 2 0 2000200 1 rfl rfl (Nat.le_of_ble_eq_true rfl) rfl ?_
  refine S.own0b 3 0 2000300 1 rfl rfl (Nat.le_of_ble_eq_true rfl) rfl ?_
  refine S.sees [2, 3, 15, 16, 17] [(2, 2), (3, 3)] [(2000200, 2000200), (2000300, 2000300)] ?_ (Stop.iter S (fun s1 => ⟨[(2, .c (.ref 2 0)), (3, .c (.ref 3 0)), (15, .c (.d (encF 2 d_II a0_0))), (16, .c (.d (.int .i64 (a0_0.length : Int)))), (17, .c (.d (.int .i64 s1.1)))], [(2, [.own 2000200, .d (.int .i64 a0_2)]), (3, [.own 2000300, .d (.int .i64 a0_1)])], [(2000200, .owned (encF 1 d_I s1.2.1)), (2000300, .owned (encF 1 d_I s1.2.2))]⟩) (b153_1 a0_0 a0_1 a0_2) (fun q => q = r) hr rfl ?_)
  · (simp (maxDischargeDepth := 8) [go_sem])
  · intro s1 hr
    unfold b153_1 at hr
    refine S.goB [] 1000 ?_
    simp (maxSteps := 10000000) only [go_sem, T153, Option.map_some, Int.reduceToNat, Nat.reduceEqDiff, Nat.reduceLT, Nat.reduceAdd, Nat.reduceMul, Nat.reduceSub, Nat.reduceLeDiff, reduceIte, reduceCtorEq, Try.results153]
    repeat (refine And.intro ?_ ?_; focus (first | assumption | decide +kernel | omega | (show Eqv _ _; (simp (maxDischargeDepth := 8) [go_sem]))))
    refine ⟨fun hc => ?_, fun hc => ?_⟩
    · rw [if_pos (by first | exact hc | (rw [hc]; rfl) | simpa using hc | (simp at hc ⊢; omega) | simp_all)] at hr
      obtain ⟨hg1, hr⟩ := of_guard1 hr
      obtain ⟨hg2, hr⟩ := of_guard1 hr
      obtain ⟨hg3, hr⟩ := of_guard1 hr
      repeat (refine And.intro ?_ ?_; focus (first | assumption | decide +kernel | omega | (show Eqv _ _; (simp (maxDischargeDepth := 8) [go_sem]))))
      refine S.sees [2, 3, 15, 16, 17] [(2, 2), (3, 3)] [(26, 2000200), (32, 2000300)] ?_ hr
      (simp (maxDischargeDepth := 8) [go_sem])
    · rw [if_neg (by first | exact hc | (rw [hc]; rfl) | simpa using hc | (simp at hc ⊢; omega) | simp_all)] at hr
      repeat (refine And.intro ?_ ?_; focus (first | assumption | decide +kernel | omega | (show Eqv _ _; (simp (maxDischargeDepth := 8) [go_sem]))))
      have hr := of_out0 hr
      repeat (refine And.intro ?_ ?_; focus (first | assumption | decide +kernel | omega | (show Eqv _ _; (simp (maxDischargeDepth := 8) [go_sem]))))
      obtain rfl := Option.some.inj hr
      (simp (maxDischargeDepth := 8) [go_sem])
theorem f153 : FnFact Try.prog 153 T153.sp := ⟨⟨Try.f153, Try.func153, by decide, rfl⟩, v153⟩

/- (martensite/heat.part).boxStep -/
def r117 (a0_0 : Int) (a0_1 : Int) (a0_2 : List (Int × Int)) (a0_3 : List ((List (Int × Int)))) (a0_4 : List (Int × Int)) (a0_5 : List ((List (Int × Int)))) (a1_0 : List (Int)) (a1_1 : List (Int)) (a2_0 : List (Int × Int)) (a2_1 : Int) (a2_2 : Int) : Option ((List (Int)) × (List (Int)) × Int) :=
  (r153 a2_0 a2_1 a2_2).bind fun v1 =>
   (r96 a0_0 a0_1 a0_2 a0_3 a0_4 a0_5 a1_0 v1.1 v1.2.1).bind fun v2 =>
    (r96 a0_0 a0_1 a0_2 a0_3 a0_4 a0_5 a1_1 v1.2.2.1 v1.2.2.2).bind fun v3 =>
     (r91 [v2.2.2, v3.2.2]).bind fun v4 =>
      if (v4 != 0) = true then
       some ([], [], v4)
       else some (v2.1, v3.1, 0)
def T117 : TSpec (Int × Int × (List (Int × Int)) × (List ((List (Int × Int)))) × (List (Int × Int)) × (List ((List (Int × Int)))) × (List (Int)) × (List (Int)) × (List (Int × Int)) × Int × Int) where
  enc x := [.agg [.int .i64 x.1, .int .i64 x.2.1, encF 2 d_II x.2.2.1, encF 1 d_LIIE x.2.2.2.1, encF 2 d_II x.2.2.2.2.1, encF 1 d_LIIE x.2.2.2.2.2.1], .agg [encF 1 d_I x.2.2.2.2.2.2.1, encF 1 d_I x.2.2.2.2.2.2.2.1], .agg [encF 2 d_II x.2.2.2.2.2.2.2.2.1, .int .i64 x.2.2.2.2.2.2.2.2.2.1, .int .i64 x.2.2.2.2.2.2.2.2.2.2]]
  dec a := (dInt (aCell a 0 0), dInt (aCell a 0 1), decF g_II (aCell a 0 2), decF g_LIIE (aCell a 0 3), decF g_II (aCell a 0 4), decF g_LIIE (aCell a 0 5), decF g_I (aCell a 1 0), decF g_I (aCell a 1 1), decF g_II (aCell a 2 0), dInt (aCell a 2 1), dInt (aCell a 2 2))
  pre x := (r117 x.1 x.2.1 x.2.2.1 x.2.2.2.1 x.2.2.2.2.1 x.2.2.2.2.2.1 x.2.2.2.2.2.2.1 x.2.2.2.2.2.2.2.1 x.2.2.2.2.2.2.2.2.1 x.2.2.2.2.2.2.2.2.2.1 x.2.2.2.2.2.2.2.2.2.2).isSome = true
  res x := [.agg [.own (encF 1 d_I (((r117 x.1 x.2.1 x.2.2.1 x.2.2.2.1 x.2.2.2.2.1 x.2.2.2.2.2.1 x.2.2.2.2.2.2.1 x.2.2.2.2.2.2.2.1 x.2.2.2.2.2.2.2.2.1 x.2.2.2.2.2.2.2.2.2.1 x.2.2.2.2.2.2.2.2.2.2).getD default).1)), .own (encF 1 d_I (((r117 x.1 x.2.1 x.2.2.1 x.2.2.2.1 x.2.2.2.2.1 x.2.2.2.2.2.1 x.2.2.2.2.2.2.1 x.2.2.2.2.2.2.2.1 x.2.2.2.2.2.2.2.2.1 x.2.2.2.2.2.2.2.2.2.1 x.2.2.2.2.2.2.2.2.2.2).getD default).2.1))], .c (.d (.int .i64 (((r117 x.1 x.2.1 x.2.2.1 x.2.2.2.1 x.2.2.2.2.1 x.2.2.2.2.2.1 x.2.2.2.2.2.2.1 x.2.2.2.2.2.2.2.1 x.2.2.2.2.2.2.2.2.1 x.2.2.2.2.2.2.2.2.2.1 x.2.2.2.2.2.2.2.2.2.2).getD default).2.2)))]
  al := false
def tb117 : Fns := lk [(91, T91.sp), (96, T96.sp), (153, T153.sp)]
theorem tb117_ok : FnsOk Try.prog tb117 := .cons f91 (.cons f96 (.cons f153 (FnsOk.nil)))
theorem tb117_91 : tb117 91 = some T91.sp := rfl
theorem tb117_96 : tb117 96 = some T96.sp := rfl
theorem tb117_153 : tb117 153 = some T153.sp := rfl
theorem v117 : Valid Try.prog 117 T117.sp := by
  refine valid_t (fn := Try.f117) (n := 50) ty_ok tb117_ok Try.func117 rfl Try.ntmps117 ?_
  rintro ⟨a0_0, a0_1, a0_2, a0_3, a0_4, a0_5, a1_0, a1_1, a2_0, a2_1, a2_2⟩ hx
  obtain ⟨r, hr⟩ := Option.isSome_iff_exists.1 (show (r117 a0_0 a0_1 a0_2 a0_3 a0_4 a0_5 a1_0 a1_1 a2_0 a2_1 a2_2).isSome = true from hx)
  have hres : T117.res (a0_0, a0_1, a0_2, a0_3, a0_4, a0_5, a1_0, a1_1, a2_0, a2_1, a2_2) = [.agg [.own (encF 1 d_I r.1), .own (encF 1 d_I r.2.1)], .c (.d (.int .i64 r.2.2))] := by simp only [T117, hr, Option.getD_some]
  refine ⟨Nat.le_of_ble_eq_true rfl, fun stop S => ?_⟩
  rw [hres] at S
  unfold r117 at hr
  refine S.goB [] 1000 ?_
  simp (maxSteps := 10000000) only [go_sem, tb117_91, T91, tb117_96, T96, tb117_153, T153, T117, Option.map_some, Int.reduceToNat, Nat.reduceEqDiff, Nat.reduceLT, Nat.reduceAdd, Nat.reduceMul, Nat.reduceSub, Nat.reduceLeDiff, reduceIte, reduceCtorEq, Try.results117]
  obtain ⟨v1, hv1, hr⟩ := of_bind0 hr
  obtain ⟨v2, hv2, hr⟩ := of_bind0 hr
  obtain ⟨v3, hv3, hr⟩ := of_bind0 hr
  obtain ⟨v4, hv4, hr⟩ := of_bind0 hr
  try simp only [hv1, hv2, hv3, hv4, Option.getD_some, Option.isSome_some, true_and, and_assoc]
  repeat (refine And.intro ?_ ?_; focus (first | assumption | decide +kernel | omega | (show Eqv _ _; (simp (maxDischargeDepth := 8) [go_sem]))))
  refine ⟨fun hc => ?_, fun hc => ?_⟩
  · rw [if_pos (by first | exact hc | (rw [hc]; rfl) | simpa using hc | (simp at hc ⊢; omega) | simp_all)] at hr
    repeat (refine And.intro ?_ ?_; focus (first | assumption | decide +kernel | omega | (show Eqv _ _; (simp (maxDischargeDepth := 8) [go_sem]))))
    obtain rfl := Option.some.inj hr
    (simp (maxDischargeDepth := 8) [go_sem])
  · rw [if_neg (by first | exact hc | (rw [hc]; rfl) | simpa using hc | (simp at hc ⊢; omega) | simp_all)] at hr
    repeat (refine And.intro ?_ ?_; focus (first | assumption | decide +kernel | omega | (show Eqv _ _; (simp (maxDischargeDepth := 8) [go_sem]))))
    obtain rfl := Option.some.inj hr
    (simp (maxDischargeDepth := 8) [go_sem])
theorem f117 : FnFact Try.prog 117 T117.sp := ⟨⟨Try.f117, Try.func117, by decide, rfl⟩, v117⟩

/- martensite/heat.BoxStep -/
def r41 (a0_0 : Int) (a0_1 : Int) (a0_2 : List (Int × Int)) (a0_3 : List ((List (Int × Int)))) (a1_0 : List (Int)) (a1_1 : List (Int)) (a2_0 : List (Int × Int)) (a2_1 : Int) (a2_2 : Int) : Option ((List (Int)) × (List (Int)) × Int) :=
  (r115 a0_0 a0_1 a0_2 a0_3 a1_0 a1_1).bind fun v1 =>
   if (v1.2.2.2.2.2.2 == 0) = true then
    (r116 v1.1 v1.2.1 v1.2.2.1 v1.2.2.2.1 v1.2.2.2.2.1 v1.2.2.2.2.2.1 a2_0 a2_1 a2_2).bind fun v2 =>
     if (v2 != 0) = true then
      some ([], [], v2)
      else (r117 v1.1 v1.2.1 v1.2.2.1 v1.2.2.2.1 v1.2.2.2.2.1 v1.2.2.2.2.2.1 a1_0 a1_1 a2_0 a2_1 a2_2).bind fun v3 =>
       some (v3.1, v3.2.1, v3.2.2)
    else if (v1.2.2.2.2.2.2 != 0) = true then
     some ([], [], v1.2.2.2.2.2.2)
     else (r117 v1.1 v1.2.1 v1.2.2.1 v1.2.2.2.1 v1.2.2.2.2.1 v1.2.2.2.2.2.1 a1_0 a1_1 a2_0 a2_1 a2_2).bind fun v4 =>
      some (v4.1, v4.2.1, v4.2.2)
def T41 : TSpec (Int × Int × (List (Int × Int)) × (List ((List (Int × Int)))) × (List (Int)) × (List (Int)) × (List (Int × Int)) × Int × Int) where
  enc x := [.agg [.int .i64 x.1, .int .i64 x.2.1, encF 2 d_II x.2.2.1, encF 1 d_LIIE x.2.2.2.1], .agg [encF 1 d_I x.2.2.2.2.1, encF 1 d_I x.2.2.2.2.2.1], .agg [encF 2 d_II x.2.2.2.2.2.2.1, .int .i64 x.2.2.2.2.2.2.2.1, .int .i64 x.2.2.2.2.2.2.2.2]]
  dec a := (dInt (aCell a 0 0), dInt (aCell a 0 1), decF g_II (aCell a 0 2), decF g_LIIE (aCell a 0 3), decF g_I (aCell a 1 0), decF g_I (aCell a 1 1), decF g_II (aCell a 2 0), dInt (aCell a 2 1), dInt (aCell a 2 2))
  pre x := (r41 x.1 x.2.1 x.2.2.1 x.2.2.2.1 x.2.2.2.2.1 x.2.2.2.2.2.1 x.2.2.2.2.2.2.1 x.2.2.2.2.2.2.2.1 x.2.2.2.2.2.2.2.2).isSome = true
  res x := [.agg [.own (encF 1 d_I (((r41 x.1 x.2.1 x.2.2.1 x.2.2.2.1 x.2.2.2.2.1 x.2.2.2.2.2.1 x.2.2.2.2.2.2.1 x.2.2.2.2.2.2.2.1 x.2.2.2.2.2.2.2.2).getD default).1)), .own (encF 1 d_I (((r41 x.1 x.2.1 x.2.2.1 x.2.2.2.1 x.2.2.2.2.1 x.2.2.2.2.2.1 x.2.2.2.2.2.2.1 x.2.2.2.2.2.2.2.1 x.2.2.2.2.2.2.2.2).getD default).2.1))], .c (.d (.int .i64 (((r41 x.1 x.2.1 x.2.2.1 x.2.2.2.1 x.2.2.2.2.1 x.2.2.2.2.2.1 x.2.2.2.2.2.2.1 x.2.2.2.2.2.2.2.1 x.2.2.2.2.2.2.2.2).getD default).2.2)))]
  al := false
def tb41 : Fns := lk [(115, T115.sp), (116, T116.sp), (117, T117.sp)]
theorem tb41_ok : FnsOk Try.prog tb41 := .cons f115 (.cons f116 (.cons f117 (FnsOk.nil)))
theorem tb41_115 : tb41 115 = some T115.sp := rfl
theorem tb41_116 : tb41 116 = some T116.sp := rfl
theorem tb41_117 : tb41 117 = some T117.sp := rfl
theorem v41 : Valid Try.prog 41 T41.sp := by
  refine valid_t (fn := Try.f41) (n := 31) ty_ok tb41_ok Try.func41 rfl Try.ntmps41 ?_
  rintro ⟨a0_0, a0_1, a0_2, a0_3, a1_0, a1_1, a2_0, a2_1, a2_2⟩ hx
  obtain ⟨r, hr⟩ := Option.isSome_iff_exists.1 (show (r41 a0_0 a0_1 a0_2 a0_3 a1_0 a1_1 a2_0 a2_1 a2_2).isSome = true from hx)
  have hres : T41.res (a0_0, a0_1, a0_2, a0_3, a1_0, a1_1, a2_0, a2_1, a2_2) = [.agg [.own (encF 1 d_I r.1), .own (encF 1 d_I r.2.1)], .c (.d (.int .i64 r.2.2))] := by simp only [T41, hr, Option.getD_some]
  refine ⟨Nat.le_of_ble_eq_true rfl, fun stop S => ?_⟩
  rw [hres] at S
  unfold r41 at hr
  refine S.goB [] 1000 ?_
  simp (maxSteps := 10000000) only [go_sem, tb41_115, T115, tb41_116, T116, tb41_117, T117, T41, Option.map_some, Int.reduceToNat, Nat.reduceEqDiff, Nat.reduceLT, Nat.reduceAdd, Nat.reduceMul, Nat.reduceSub, Nat.reduceLeDiff, reduceIte, reduceCtorEq, Try.results41]
  obtain ⟨v1, hv1, hr⟩ := of_bind0 hr
  try simp only [hv1, Option.getD_some, Option.isSome_some, true_and, and_assoc]
  repeat (refine And.intro ?_ ?_; focus (first | assumption | decide +kernel | omega | (show Eqv _ _; (simp (maxDischargeDepth := 8) [go_sem]))))
  refine ⟨fun hc => ?_, fun hc => ?_⟩
  · rw [if_pos (by first | exact hc | (rw [hc]; rfl) | simpa using hc | (simp at hc ⊢; omega) | simp_all)] at hr
    obtain ⟨v2, hv2, hr⟩ := of_bind0 hr
    try simp only [hv2, Option.getD_some, Option.isSome_some, true_and, and_assoc]
    repeat (refine And.intro ?_ ?_; focus (first | assumption | decide +kernel | omega | (show Eqv _ _; (simp (maxDischargeDepth := 8) [go_sem]))))
    refine ⟨fun hc => ?_, fun hc => ?_⟩
    · rw [if_pos (by first | exact hc | (rw [hc]; rfl) | simpa using hc | (simp at hc ⊢; omega) | simp_all)] at hr
      repeat (refine And.intro ?_ ?_; focus (first | assumption | decide +kernel | omega | (show Eqv _ _; (simp (maxDischargeDepth := 8) [go_sem]))))
      obtain rfl := Option.some.inj hr
      (simp (maxDischargeDepth := 8) [go_sem])
    · rw [if_neg (by first | exact hc | (rw [hc]; rfl) | simpa using hc | (simp at hc ⊢; omega) | simp_all)] at hr
      obtain ⟨v3, hv3, hr⟩ := of_bind0 hr
      try simp only [hv3, Option.getD_some, Option.isSome_some, true_and, and_assoc]
      repeat (refine And.intro ?_ ?_; focus (first | assumption | decide +kernel | omega | (show Eqv _ _; (simp (maxDischargeDepth := 8) [go_sem]))))
      obtain rfl := Option.some.inj hr
      (simp (maxDischargeDepth := 8) [go_sem])
  · rw [if_neg (by first | exact hc | (rw [hc]; rfl) | simpa using hc | (simp at hc ⊢; omega) | simp_all)] at hr
    repeat (refine And.intro ?_ ?_; focus (first | assumption | decide +kernel | omega | (show Eqv _ _; (simp (maxDischargeDepth := 8) [go_sem]))))
    refine ⟨fun hc => ?_, fun hc => ?_⟩
    · rw [if_pos (by first | exact hc | (rw [hc]; rfl) | simpa using hc | (simp at hc ⊢; omega) | simp_all)] at hr
      repeat (refine And.intro ?_ ?_; focus (first | assumption | decide +kernel | omega | (show Eqv _ _; (simp (maxDischargeDepth := 8) [go_sem]))))
      obtain rfl := Option.some.inj hr
      (simp (maxDischargeDepth := 8) [go_sem])
    · rw [if_neg (by first | exact hc | (rw [hc]; rfl) | simpa using hc | (simp at hc ⊢; omega) | simp_all)] at hr
      obtain ⟨v4, hv4, hr⟩ := of_bind0 hr
      try simp only [hv4, Option.getD_some, Option.isSome_some, true_and, and_assoc]
      repeat (refine And.intro ?_ ?_; focus (first | assumption | decide +kernel | omega | (show Eqv _ _; (simp (maxDischargeDepth := 8) [go_sem]))))
      obtain rfl := Option.some.inj hr
      (simp (maxDischargeDepth := 8) [go_sem])
theorem f41 : FnFact Try.prog 41 T41.sp := ⟨⟨Try.f41, Try.func41, by decide, rfl⟩, v41⟩

/- martensite/heat.kelvinErr -/
def r93 (a0 : Int) : Option (Int) :=
  (r140 a0).bind fun v1 =>
   (r94 v1 2).bind fun v2 =>
    some v2
def T93 : TSpec (Int) where
  enc x := [.c (.int .i64 x)]
  dec a := dInt (aCell a 0 0)
  pre x := (r93 x).isSome = true
  res x := [.c (.d (.int .i64 ((r93 x).getD default)))]
  al := false
def tb93 : Fns := lk [(94, T94.sp), (140, T140.sp)]
theorem tb93_ok : FnsOk Try.prog tb93 := .cons f94 (.cons f140 (FnsOk.nil))
theorem tb93_94 : tb93 94 = some T94.sp := rfl
theorem tb93_140 : tb93 140 = some T140.sp := rfl
theorem v93 : Valid Try.prog 93 T93.sp := by
  refine valid_t (fn := Try.f93) (n := 6) ty_ok tb93_ok Try.func93 rfl Try.ntmps93 ?_
  rintro a0 hx
  obtain ⟨r, hr⟩ := Option.isSome_iff_exists.1 (show (r93 a0).isSome = true from hx)
  have hres : T93.res a0 = [.c (.d (.int .i64 r))] := by simp only [T93, hr, Option.getD_some]
  refine ⟨Nat.le_of_ble_eq_true rfl, fun stop S => ?_⟩
  rw [hres] at S
  unfold r93 at hr
  refine S.goB [] 1000 ?_
  simp (maxSteps := 10000000) only [go_sem, tb93_94, T94, tb93_140, T140, T93, Option.map_some, Int.reduceToNat, Nat.reduceEqDiff, Nat.reduceLT, Nat.reduceAdd, Nat.reduceMul, Nat.reduceSub, Nat.reduceLeDiff, reduceIte, reduceCtorEq, Try.results93]
  obtain ⟨v1, hv1, hr⟩ := of_bind0 hr
  obtain ⟨v2, hv2, hr⟩ := of_bind0 hr
  try simp only [hv1, hv2, Option.getD_some, Option.isSome_some, true_and, and_assoc]
  repeat (refine And.intro ?_ ?_; focus (first | assumption | decide +kernel | omega | (show Eqv _ _; (simp (maxDischargeDepth := 8) [go_sem]))))
  obtain rfl := Option.some.inj hr
  (simp (maxDischargeDepth := 8) [go_sem])
theorem f93 : FnFact Try.prog 93 T93.sp := ⟨⟨Try.f93, Try.func93, by decide, rfl⟩, v93⟩

/- (martensite/heat.part).compared -/
def r143 (a0_0 : Int) (a0_1 : Int) (a0_2 : List (Int × Int)) (a0_3 : List ((List (Int × Int)))) (a0_4 : List (Int × Int)) (a0_5 : List ((List (Int × Int)))) (a1 : Int) (a2 : Int) : Option (Int) :=
  (r121 a0_0 a0_1 a0_2 a0_3 a0_4 a0_5 a1).bind fun v1 =>
   some (IntKind.i64.wrap (v1.1 - (IntKind.i64.wrap (a2 * v1.2))))
def T143 : TSpec (Int × Int × (List (Int × Int)) × (List ((List (Int × Int)))) × (List (Int × Int)) × (List ((List (Int × Int)))) × Int × Int) where
  enc x := [.agg [.int .i64 x.1, .int .i64 x.2.1, encF 2 d_II x.2.2.1, encF 1 d_LIIE x.2.2.2.1, encF 2 d_II x.2.2.2.2.1, encF 1 d_LIIE x.2.2.2.2.2.1], .c (.int .i64 x.2.2.2.2.2.2.1), .c (.int .i64 x.2.2.2.2.2.2.2)]
  dec a := (dInt (aCell a 0 0), dInt (aCell a 0 1), decF g_II (aCell a 0 2), decF g_LIIE (aCell a 0 3), decF g_II (aCell a 0 4), decF g_LIIE (aCell a 0 5), dInt (aCell a 1 0), dInt (aCell a 2 0))
  pre x := (r143 x.1 x.2.1 x.2.2.1 x.2.2.2.1 x.2.2.2.2.1 x.2.2.2.2.2.1 x.2.2.2.2.2.2.1 x.2.2.2.2.2.2.2).isSome = true
  res x := [.c (.d (.int .i64 ((r143 x.1 x.2.1 x.2.2.1 x.2.2.2.1 x.2.2.2.2.1 x.2.2.2.2.2.1 x.2.2.2.2.2.2.1 x.2.2.2.2.2.2.2).getD default)))]
  al := false
def tb143 : Fns := lk [(121, T121.sp)]
theorem tb143_ok : FnsOk Try.prog tb143 := .cons f121 (FnsOk.nil)
theorem tb143_121 : tb143 121 = some T121.sp := rfl
theorem v143 : Valid Try.prog 143 T143.sp := by
  refine valid_t (fn := Try.f143) (n := 18) ty_ok tb143_ok Try.func143 rfl Try.ntmps143 ?_
  rintro ⟨a0_0, a0_1, a0_2, a0_3, a0_4, a0_5, a1, a2⟩ hx
  obtain ⟨r, hr⟩ := Option.isSome_iff_exists.1 (show (r143 a0_0 a0_1 a0_2 a0_3 a0_4 a0_5 a1 a2).isSome = true from hx)
  have hres : T143.res (a0_0, a0_1, a0_2, a0_3, a0_4, a0_5, a1, a2) = [.c (.d (.int .i64 r))] := by simp only [T143, hr, Option.getD_some]
  refine ⟨Nat.le_of_ble_eq_true rfl, fun stop S => ?_⟩
  rw [hres] at S
  unfold r143 at hr
  refine S.goB [] 1000 ?_
  simp (maxSteps := 10000000) only [go_sem, tb143_121, T121, T143, Option.map_some, Int.reduceToNat, Nat.reduceEqDiff, Nat.reduceLT, Nat.reduceAdd, Nat.reduceMul, Nat.reduceSub, Nat.reduceLeDiff, reduceIte, reduceCtorEq, Try.results143]
  obtain ⟨v1, hv1, hr⟩ := of_bind0 hr
  try simp only [hv1, Option.getD_some, Option.isSome_some, true_and, and_assoc]
  repeat (refine And.intro ?_ ?_; focus (first | assumption | decide +kernel | omega | (show Eqv _ _; (simp (maxDischargeDepth := 8) [go_sem]))))
  obtain rfl := Option.some.inj hr
  (simp (maxDischargeDepth := 8) [go_sem])
theorem f143 : FnFact Try.prog 143 T143.sp := ⟨⟨Try.f143, Try.func143, by decide, rfl⟩, v143⟩

/- (martensite/heat.part).depth$1 -/
def r142 (a0 : Int) (a1_0 : Int) (a1_1 : Int) (a1_2 : List (Int × Int)) (a1_3 : List ((List (Int × Int)))) (a1_4 : List (Int × Int)) (a1_5 : List ((List (Int × Int)))) (a2_0 : Int) : Option (Bool) :=
  (r143 a1_0 a1_1 a1_2 a1_3 a1_4 a1_5 a0 a2_0).bind fun v1 =>
   some (decide (v1 < 0))
def T142 : TSpec (Int × Int × Int × (List (Int × Int)) × (List ((List (Int × Int)))) × (List (Int × Int)) × (List ((List (Int × Int)))) × Int) where
  enc x := [.c (.int .i64 x.1), .ptr [.int .i64 x.2.1, .int .i64 x.2.2.1, encF 2 d_II x.2.2.2.1, encF 1 d_LIIE x.2.2.2.2.1, encF 2 d_II x.2.2.2.2.2.1, encF 1 d_LIIE x.2.2.2.2.2.2.1], .ptr [.int .i64 x.2.2.2.2.2.2.2]]
  dec a := (dInt (aCell a 0 0), dInt (aCell a 1 0), dInt (aCell a 1 1), decF g_II (aCell a 1 2), decF g_LIIE (aCell a 1 3), decF g_II (aCell a 1 4), decF g_LIIE (aCell a 1 5), dInt (aCell a 2 0))
  pre x := (r142 x.1 x.2.1 x.2.2.1 x.2.2.2.1 x.2.2.2.2.1 x.2.2.2.2.2.1 x.2.2.2.2.2.2.1 x.2.2.2.2.2.2.2).isSome = true
  res x := [.c (.d (.bool ((r142 x.1 x.2.1 x.2.2.1 x.2.2.2.1 x.2.2.2.2.1 x.2.2.2.2.2.1 x.2.2.2.2.2.2.1 x.2.2.2.2.2.2.2).getD default)))]
  al := false
def tb142 : Fns := lk [(143, T143.sp)]
theorem tb142_ok : FnsOk Try.prog tb142 := .cons f143 (FnsOk.nil)
theorem tb142_143 : tb142 143 = some T143.sp := rfl
theorem v142 : Valid Try.prog 142 T142.sp := by
  refine valid_t (fn := Try.f142) (n := 10) ty_ok tb142_ok Try.func142 rfl Try.ntmps142 ?_
  rintro ⟨a0, a1_0, a1_1, a1_2, a1_3, a1_4, a1_5, a2_0⟩ hx
  obtain ⟨r, hr⟩ := Option.isSome_iff_exists.1 (show (r142 a0 a1_0 a1_1 a1_2 a1_3 a1_4 a1_5 a2_0).isSome = true from hx)
  have hres : T142.res (a0, a1_0, a1_1, a1_2, a1_3, a1_4, a1_5, a2_0) = [.c (.d (.bool r))] := by simp only [T142, hr, Option.getD_some]
  refine ⟨Nat.le_of_ble_eq_true rfl, fun stop S => ?_⟩
  rw [hres] at S
  unfold r142 at hr
  refine S.goB [] 1000 ?_
  simp (maxSteps := 10000000) only [go_sem, tb142_143, T143, T142, Option.map_some, Int.reduceToNat, Nat.reduceEqDiff, Nat.reduceLT, Nat.reduceAdd, Nat.reduceMul, Nat.reduceSub, Nat.reduceLeDiff, reduceIte, reduceCtorEq, Try.results142]
  obtain ⟨v1, hv1, hr⟩ := of_bind0 hr
  try simp only [hv1, Option.getD_some, Option.isSome_some, true_and, and_assoc]
  repeat (refine And.intro ?_ ?_; focus (first | assumption | decide +kernel | omega | (show Eqv _ _; (simp (maxDischargeDepth := 8) [go_sem]))))
  obtain rfl := Option.some.inj hr
  (simp (maxDischargeDepth := 8) [go_sem])
theorem f142 : FnFact Try.prog 142 T142.sp := ⟨⟨Try.f142, Try.func142, by decide, rfl⟩, v142⟩

/- slices.IndexFunc[[]int,int] -/
def b141c_1 (a0 : List (Int)) (a1_0_0 : Int) (a1_0_1 : Int) (a1_0_2 : List (Int × Int)) (a1_0_3 : List ((List (Int × Int)))) (a1_0_4 : List (Int × Int)) (a1_0_5 : List ((List (Int × Int)))) (a1_1_0 : Int) : (Int) → Ctl (Int) (Int) := fun s1 =>
  if (decide (s1 < (a0.length : Int))) = true then
   if 0 ≤ s1 ∧ s1 < (a0.length : Int) then
    bindC (r142 (a0.getD s1.toNat default) a1_0_0 a1_0_1 a1_0_2 a1_0_3 a1_0_4 a1_0_5 a1_1_0) fun v1 =>
     if v1 = true then
      .out (some s1)
      else .next (IntKind.i64.wrap (s1 + 1))
    else .out none
   else .out (some (-1))
def r141c (a0 : List (Int)) (a1_0_0 : Int) (a1_0_1 : Int) (a1_0_2 : List (Int × Int)) (a1_0_3 : List ((List (Int × Int)))) (a1_0_4 : List (Int × Int)) (a1_0_5 : List ((List (Int × Int)))) (a1_1_0 : Int) : Option (Int) :=
  iterC (b141c_1 a0 a1_0_0 a1_0_1 a1_0_2 a1_0_3 a1_0_4 a1_0_5 a1_1_0) 1000000000 0
def T141c : TSpec ((List (Int)) × Int × Int × (List (Int × Int)) × (List ((List (Int × Int)))) × (List (Int × Int)) × (List ((List (Int × Int)))) × Int) where
  enc x := [.c (encF 1 d_I x.1), .clo 142 [[.int .i64 x.2.1, .int .i64 x.2.2.1, encF 2 d_II x.2.2.2.1, encF 1 d_LIIE x.2.2.2.2.1, encF 2 d_II x.2.2.2.2.2.1, encF 1 d_LIIE x.2.2.2.2.2.2.1], [.int .i64 x.2.2.2.2.2.2.2]]]
  dec a := (decF g_I (aCell a 0 0), dInt (aCell a 1 0), dInt (aCell a 1 1), decF g_II (aCell a 1 2), decF g_LIIE (aCell a 1 3), decF g_II (aCell a 1 4), decF g_LIIE (aCell a 1 5), dInt (aCell a 1 6))
  pre x := (r141c x.1 x.2.1 x.2.2.1 x.2.2.2.1 x.2.2.2.2.1 x.2.2.2.2.2.1 x.2.2.2.2.2.2.1 x.2.2.2.2.2.2.2).isSome = true
  res x := [.c (.d (.int .i64 ((r141c x.1 x.2.1 x.2.2.1 x.2.2.2.1 x.2.2.2.2.1 x.2.2.2.2.2.1 x.2.2.2.2.2.2.1 x.2.2.2.2.2.2.2).getD default)))]
  al := false
def tb141c : Fns := lk [(142, T142.sp)]
theorem tb141c_ok : FnsOk Try.prog tb141c := .cons f142 (FnsOk.nil)
theorem tb141c_142 : tb141c 142 = some T142.sp := rfl
theorem v141c : Valid Try.prog 141 T141c.sp := by
  refine valid_t (fn := Try.f141) (n := 19) ty_ok tb141c_ok Try.func141 rfl Try.ntmps141 ?_
  rintro ⟨a0, a1_0_0, a1_0_1, a1_0_2, a1_0_3, a1_0_4, a1_0_5, a1_1_0⟩ hx
  obtain ⟨r, hr⟩ := Option.isSome_iff_exists.1 (show (r141c a0 a1_0_0 a1_0_1 a1_0_2 a1_0_3 a1_0_4 a1_0_5 a1_1_0).isSome = true from hx)
  have hres : T141c.res (a0, a1_0_0, a1_0_1, a1_0_2, a1_0_3, a1_0_4, a1_0_5, a1_1_0) = [.c (.d (.int .i64 r))] := by simp only [T141c, hr, Option.getD_some]
  refine ⟨Nat.le_of_ble_eq_true rfl, fun stop S => ?_⟩
  rw [hres] at S
  unfold r141c at hr
  refine S.goB [] 1000 ?_
  simp (maxSteps := 10000000) only [go_sem, tb141c_142, T142, T141c, Option.map_some, Int.reduceToNat, Nat.reduceEqDiff, Nat.reduceLT, Nat.reduceAdd, Nat.reduceMul, Nat.reduceSub, Nat.reduceLeDiff, reduceIte, reduceCtorEq, Try.results141]
  repeat (refine And.intro ?_ ?_; focus (first | assumption | decide +kernel | omega | (show Eqv _ _; (simp (maxDischargeDepth := 8) [go_sem]))))
  refine S.sees [0, 1, 7, 8] [] [] ?_ (Stop.iter S (fun s1 => ⟨[(0, .c (.d (encF 1 d_I a0))), (1, .c (.clo 142 [.sptr [.int .i64 a1_0_0, .int .i64 a1_0_1, encF 2 d_II a1_0_2, encF 1 d_LIIE a1_0_3, encF 2 d_II a1_0_4, encF 1 d_LIIE a1_0_5] 0, .sptr [.int .i64 a1_1_0] 0])), (7, .c (.d (.int .i64 (a0.length : Int)))), (8, .c (.d (.int .i64 s1)))], [], []⟩) (b141c_1 a0 a1_0_0 a1_0_1 a1_0_2 a1_0_3 a1_0_4 a1_0_5 a1_1_0) (fun q => q = r) hr rfl ?_)
  · (simp (maxDischargeDepth := 8) [go_sem])
  · intro s1 hr
    unfold b141c_1 at hr
    refine S.goB [] 1000 ?_
    simp (maxSteps := 10000000) only [go_sem, tb141c_142, T142, T141c, Option.map_some, Int.reduceToNat, Nat.reduceEqDiff, Nat.reduceLT, Nat.reduceAdd, Nat.reduceMul, Nat.reduceSub, Nat.reduceLeDiff, reduceIte, reduceCtorEq, Try.results141]
    repeat (refine And.intro ?_ ?_; focus (first | assumption | decide +kernel | omega | (show Eqv _ _; (simp (maxDischargeDepth := 8) [go_sem]))))
    refine ⟨fun hc => ?_, fun hc => ?_⟩
    · rw [if_pos (by first | exact hc | (rw [hc]; rfl) | simpa using hc | (simp at hc ⊢; omega) | simp_all)] at hr
      obtain ⟨hg2, hr⟩ := of_guard1 hr
      obtain ⟨v1, hv1, hr⟩ := of_bind1 hr
      try simp only [hv1, Option.getD_some, Option.isSome_some, true_and, and_assoc]
      repeat (refine And.intro ?_ ?_; focus (first | assumption | decide +kernel | omega | (show Eqv _ _; (simp (maxDischargeDepth := 8) [go_sem]))))
      refine ⟨fun hc => ?_, fun hc => ?_⟩
      · rw [if_pos (by first | exact hc | (rw [hc]; rfl) | simpa using hc | (simp at hc ⊢; omega) | simp_all)] at hr
        repeat (refine And.intro ?_ ?_; focus (first | assumption | decide +kernel | omega | (show Eqv _ _; (simp (maxDischargeDepth := 8) [go_sem]))))
        have hr := of_out0 hr
        obtain rfl := Option.some.inj hr
        (simp (maxDischargeDepth := 8) [go_sem])
      · rw [if_neg (by first | exact hc | (rw [hc]; rfl) | simpa using hc | (simp at hc ⊢; omega) | simp_all)] at hr
        repeat (refine And.intro ?_ ?_; focus (first | assumption | decide +kernel | omega | (show Eqv _ _; (simp (maxDischargeDepth := 8) [go_sem]))))
        refine S.sees [0, 1, 7, 8] [] [] ?_ hr
        (simp (maxDischargeDepth := 8) [go_sem])
    · rw [if_neg (by first | exact hc | (rw [hc]; rfl) | simpa using hc | (simp at hc ⊢; omega) | simp_all)] at hr
      repeat (refine And.intro ?_ ?_; focus (first | assumption | decide +kernel | omega | (show Eqv _ _; (simp (maxDischargeDepth := 8) [go_sem]))))
      have hr := of_out0 hr
      repeat (refine And.intro ?_ ?_; focus (first | assumption | decide +kernel | omega | (show Eqv _ _; (simp (maxDischargeDepth := 8) [go_sem]))))
      obtain rfl := Option.some.inj hr
      (simp (maxDischargeDepth := 8) [go_sem])
theorem f141c : FnFact Try.prog 141 T141c.sp := ⟨⟨Try.f141, Try.func141, by decide, rfl⟩, v141c⟩

/- (martensite/heat.part).depth -/
def r95 (a0_0 : Int) (a0_1 : Int) (a0_2 : List (Int × Int)) (a0_3 : List ((List (Int × Int)))) (a0_4 : List (Int × Int)) (a0_5 : List ((List (Int × Int)))) (a1 : List (Int)) (a2 : Int) : Option (Int) :=
  (r141c a1 a0_0 a0_1 a0_2 a0_3 a0_4 a0_5 a2).bind fun v1 =>
   if (decide (v1 < 0)) = true then
    some (a1.length : Int)
    else some v1
def T95 : TSpec (Int × Int × (List (Int × Int)) × (List ((List (Int × Int)))) × (List (Int × Int)) × (List ((List (Int × Int)))) × (List (Int)) × Int) where
  enc x := [.agg [.int .i64 x.1, .int .i64 x.2.1, encF 2 d_II x.2.2.1, encF 1 d_LIIE x.2.2.2.1, encF 2 d_II x.2.2.2.2.1, encF 1 d_LIIE x.2.2.2.2.2.1], .c (encF 1 d_I x.2.2.2.2.2.2.1), .c (.int .i64 x.2.2.2.2.2.2.2)]
  dec a := (dInt (aCell a 0 0), dInt (aCell a 0 1), decF g_II (aCell a 0 2), decF g_LIIE (aCell a 0 3), decF g_II (aCell a 0 4), decF g_LIIE (aCell a 0 5), decF g_I (aCell a 1 0), dInt (aCell a 2 0))
  pre x := (r95 x.1 x.2.1 x.2.2.1 x.2.2.2.1 x.2.2.2.2.1 x.2.2.2.2.2.1 x.2.2.2.2.2.2.1 x.2.2.2.2.2.2.2).isSome = true
  res x := [.c (.d (.int .i64 ((r95 x.1 x.2.1 x.2.2.1 x.2.2.2.1 x.2.2.2.2.1 x.2.2.2.2.2.1 x.2.2.2.2.2.2.1 x.2.2.2.2.2.2.2).getD default)))]
  al := false
def tb95 : Fns := lk [(141, T141c.sp)]
theorem tb95_ok : FnsOk Try.prog tb95 := .cons f141c (FnsOk.nil)
theorem tb95_141 : tb95 141 = some T141c.sp := rfl
theorem v95 : Valid Try.prog 95 T95.sp := by
  refine valid_t (fn := Try.f95) (n := 16) ty_ok tb95_ok Try.func95 rfl Try.ntmps95 ?_
  rintro ⟨a0_0, a0_1, a0_2, a0_3, a0_4, a0_5, a1, a2⟩ hx
  obtain ⟨r, hr⟩ := Option.isSome_iff_exists.1 (show (r95 a0_0 a0_1 a0_2 a0_3 a0_4 a0_5 a1 a2).isSome = true from hx)
  have hres : T95.res (a0_0, a0_1, a0_2, a0_3, a0_4, a0_5, a1, a2) = [.c (.d (.int .i64 r))] := by simp only [T95, hr, Option.getD_some]
  refine ⟨Nat.le_of_ble_eq_true rfl, fun stop S => ?_⟩
  rw [hres] at S
  unfold r95 at hr
  refine S.goB [] 1000 ?_
  simp (maxSteps := 10000000) only [go_sem, tb95_141, T141c, T95, Option.map_some, Int.reduceToNat, Nat.reduceEqDiff, Nat.reduceLT, Nat.reduceAdd, Nat.reduceMul, Nat.reduceSub, Nat.reduceLeDiff, reduceIte, reduceCtorEq, Try.results95]
  obtain ⟨v1, hv1, hr⟩ := of_bind0 hr
  try simp only [hv1, Option.getD_some, Option.isSome_some, true_and, and_assoc]
  repeat (refine And.intro ?_ ?_; focus (first | assumption | decide +kernel | omega | (show Eqv _ _; (simp (maxDischargeDepth := 8) [go_sem]))))
  refine ⟨fun hc => ?_, fun hc => ?_⟩
  · rw [if_pos (by first | exact hc | (rw [hc]; rfl) | simpa using hc | (simp at hc ⊢; omega) | simp_all)] at hr
    repeat (refine And.intro ?_ ?_; focus (first | assumption | decide +kernel | omega | (show Eqv _ _; (simp (maxDischargeDepth := 8) [go_sem]))))
    obtain rfl := Option.some.inj hr
    (simp (maxDischargeDepth := 8) [go_sem])
  · rw [if_neg (by first | exact hc | (rw [hc]; rfl) | simpa using hc | (simp at hc ⊢; omega) | simp_all)] at hr
    repeat (refine And.intro ?_ ?_; focus (first | assumption | decide +kernel | omega | (show Eqv _ _; (simp (maxDischargeDepth := 8) [go_sem]))))
    obtain rfl := Option.some.inj hr
    (simp (maxDischargeDepth := 8) [go_sem])
theorem f95 : FnFact Try.prog 95 T95.sp := ⟨⟨Try.f95, Try.func95, by decide, rfl⟩, v95⟩

/- martensite/heat.DepthAbove -/
def r77 (a0_0 : Int) (a0_1 : Int) (a0_2 : List (Int × Int)) (a0_3 : List ((List (Int × Int)))) (a1 : List (Int)) (a2 : Int) : Option (Int × Int) :=
  (r89 a0_0 a0_1 a0_2 a0_3 a1).bind fun v1 =>
   (r93 a2).bind fun v2 =>
    (r91 [v1.2.2.2.2.2.2, v2]).bind fun v3 =>
     if (v3 != 0) = true then
      some (0, v3)
      else (r95 v1.1 v1.2.1 v1.2.2.1 v1.2.2.2.1 v1.2.2.2.2.1 v1.2.2.2.2.2.1 a1 a2).bind fun v4 =>
       some (v4, 0)
def T77 : TSpec (Int × Int × (List (Int × Int)) × (List ((List (Int × Int)))) × (List (Int)) × Int) where
  enc x := [.agg [.int .i64 x.1, .int .i64 x.2.1, encF 2 d_II x.2.2.1, encF 1 d_LIIE x.2.2.2.1], .c (encF 1 d_I x.2.2.2.2.1), .c (.int .i64 x.2.2.2.2.2)]
  dec a := (dInt (aCell a 0 0), dInt (aCell a 0 1), decF g_II (aCell a 0 2), decF g_LIIE (aCell a 0 3), decF g_I (aCell a 1 0), dInt (aCell a 2 0))
  pre x := (r77 x.1 x.2.1 x.2.2.1 x.2.2.2.1 x.2.2.2.2.1 x.2.2.2.2.2).isSome = true
  res x := [.c (.d (.int .i64 (((r77 x.1 x.2.1 x.2.2.1 x.2.2.2.1 x.2.2.2.2.1 x.2.2.2.2.2).getD default).1))), .c (.d (.int .i64 (((r77 x.1 x.2.1 x.2.2.1 x.2.2.2.1 x.2.2.2.2.1 x.2.2.2.2.2).getD default).2)))]
  al := false
def tb77 : Fns := lk [(89, T89.sp), (91, T91.sp), (93, T93.sp), (95, T95.sp)]
theorem tb77_ok : FnsOk Try.prog tb77 := .cons f89 (.cons f91 (.cons f93 (.cons f95 (FnsOk.nil))))
theorem tb77_89 : tb77 89 = some T89.sp := rfl
theorem tb77_91 : tb77 91 = some T91.sp := rfl
theorem tb77_93 : tb77 93 = some T93.sp := rfl
theorem tb77_95 : tb77 95 = some T95.sp := rfl
theorem v77 : Valid Try.prog 77 T77.sp := by
  refine valid_t (fn := Try.f77) (n := 28) ty_ok tb77_ok Try.func77 rfl Try.ntmps77 ?_
  rintro ⟨a0_0, a0_1, a0_2, a0_3, a1, a2⟩ hx
  obtain ⟨r, hr⟩ := Option.isSome_iff_exists.1 (show (r77 a0_0 a0_1 a0_2 a0_3 a1 a2).isSome = true from hx)
  have hres : T77.res (a0_0, a0_1, a0_2, a0_3, a1, a2) = [.c (.d (.int .i64 r.1)), .c (.d (.int .i64 r.2))] := by simp only [T77, hr, Option.getD_some]
  refine ⟨Nat.le_of_ble_eq_true rfl, fun stop S => ?_⟩
  rw [hres] at S
  unfold r77 at hr
  refine S.goB [] 1000 ?_
  simp (maxSteps := 10000000) only [go_sem, tb77_89, T89, tb77_91, T91, tb77_93, T93, tb77_95, T95, T77, Option.map_some, Int.reduceToNat, Nat.reduceEqDiff, Nat.reduceLT, Nat.reduceAdd, Nat.reduceMul, Nat.reduceSub, Nat.reduceLeDiff, reduceIte, reduceCtorEq, Try.results77]
  obtain ⟨v1, hv1, hr⟩ := of_bind0 hr
  obtain ⟨v2, hv2, hr⟩ := of_bind0 hr
  obtain ⟨v3, hv3, hr⟩ := of_bind0 hr
  try simp only [hv1, hv2, hv3, Option.getD_some, Option.isSome_some, true_and, and_assoc]
  repeat (refine And.intro ?_ ?_; focus (first | assumption | decide +kernel | omega | (show Eqv _ _; (simp (maxDischargeDepth := 8) [go_sem]))))
  refine ⟨fun hc => ?_, fun hc => ?_⟩
  · rw [if_pos (by first | exact hc | (rw [hc]; rfl) | simpa using hc | (simp at hc ⊢; omega) | simp_all)] at hr
    repeat (refine And.intro ?_ ?_; focus (first | assumption | decide +kernel | omega | (show Eqv _ _; (simp (maxDischargeDepth := 8) [go_sem]))))
    obtain rfl := Option.some.inj hr
    (simp (maxDischargeDepth := 8) [go_sem])
  · rw [if_neg (by first | exact hc | (rw [hc]; rfl) | simpa using hc | (simp at hc ⊢; omega) | simp_all)] at hr
    obtain ⟨v4, hv4, hr⟩ := of_bind0 hr
    try simp only [hv4, Option.getD_some, Option.isSome_some, true_and, and_assoc]
    repeat (refine And.intro ?_ ?_; focus (first | assumption | decide +kernel | omega | (show Eqv _ _; (simp (maxDischargeDepth := 8) [go_sem]))))
    obtain rfl := Option.some.inj hr
    (simp (maxDischargeDepth := 8) [go_sem])
theorem f77 : FnFact Try.prog 77 T77.sp := ⟨⟨Try.f77, Try.func77, by decide, rfl⟩, v77⟩

/- martensite/heat.ShortestTo -/
def b17_1 (a2_0 : List (Int)) (a2_1 : Int) (a2_2 : Int) (a2_3 : Int) (a2_4 : Int) (v1 : Int × Int × (List (Int × Int)) × (List ((List (Int × Int)))) × (List (Int × Int)) × (List ((List (Int × Int)))) × Int) : ((List (Int)) × Int × Int) → Ctl ((List (Int)) × Int × Int) (Int × Int) := fun s1 =>
  if (s1.2.1 == 0) = true then
   bindC (r95 v1.1 v1.2.1 v1.2.2.1 v1.2.2.2.1 v1.2.2.2.2.1 v1.2.2.2.2.2.1 s1.1 a2_2) fun v7 =>
    if (decide (v7 ≥ a2_3)) = true then
     .out (some (s1.2.2, 0))
     else if (s1.2.2 == a2_4) = true then
      .out (some (0, 12))
      else bindC (r96 v1.1 v1.2.1 v1.2.2.1 v1.2.2.2.1 v1.2.2.2.2.1 v1.2.2.2.2.2.1 s1.1 a2_0 a2_1) fun v8 =>
       .next (v8.1, v8.2.2, IntKind.i64.wrap (s1.2.2 + 1))
   else .out (some (0, s1.2.1))
def b17_2 (a2_0 : List (Int)) (a2_1 : Int) (a2_2 : Int) (a2_3 : Int) (a2_4 : Int) (v1 : Int × Int × (List (Int × Int)) × (List ((List (Int × Int)))) × (List (Int × Int)) × (List ((List (Int × Int)))) × Int) : ((List (Int)) × Int × Int) → Ctl ((List (Int)) × Int × Int) (Int × Int) := fun s2 =>
  if (s2.2.1 == 0) = true then
   bindC (r95 v1.1 v1.2.1 v1.2.2.1 v1.2.2.2.1 v1.2.2.2.2.1 v1.2.2.2.2.2.1 s2.1 a2_2) fun v10 =>
    if (decide (v10 ≥ a2_3)) = true then
     .out (some (s2.2.2, 0))
     else if (s2.2.2 == a2_4) = true then
      .out (some (0, 12))
      else bindC (r96 v1.1 v1.2.1 v1.2.2.1 v1.2.2.2.1 v1.2.2.2.2.1 v1.2.2.2.2.2.1 s2.1 a2_0 a2_1) fun v11 =>
       .next (v11.1, v11.2.2, IntKind.i64.wrap (s2.2.2 + 1))
   else .out (some (0, s2.2.1))
def r17 (a0_0 : Int) (a0_1 : Int) (a0_2 : List (Int × Int)) (a0_3 : List ((List (Int × Int)))) (a1 : List (Int)) (a2_0 : List (Int)) (a2_1 : Int) (a2_2 : Int) (a2_3 : Int) (a2_4 : Int) : Option (Int × Int) :=
  (r89 a0_0 a0_1 a0_2 a0_3 a1).bind fun v1 =>
   if (v1.2.2.2.2.2.2 == 0) = true then
    (r90 a2_3 1 v1.1).bind fun v2 =>
     if v2 = true → (r90 a2_4 0 200).isSome = true then
      (r92 v1.1 v1.2.1 v1.2.2.1 v1.2.2.2.1 v1.2.2.2.2.1 v1.2.2.2.2.2.1 a2_0 a2_1).bind fun v3 =>
       (r93 a2_2).bind fun v4 =>
        (r94 (v2 && ((r90 a2_4 0 200).getD default)) 2).bind fun v5 =>
         (r91 [v3, v4, v5]).bind fun v6 =>
          iterC (b17_1 a2_0 a2_1 a2_2 a2_3 a2_4 v1) 1000000000 (a1, v6, 0)
      else none
    else iterC (b17_2 a2_0 a2_1 a2_2 a2_3 a2_4 v1) 1000000000 (a1, v1.2.2.2.2.2.2, 0)
def T17 : TSpec (Int × Int × (List (Int × Int)) × (List ((List (Int × Int)))) × (List (Int)) × (List (Int)) × Int × Int × Int × Int) where
  enc x := [.agg [.int .i64 x.1, .int .i64 x.2.1, encF 2 d_II x.2.2.1, encF 1 d_LIIE x.2.2.2.1], .c (encF 1 d_I x.2.2.2.2.1), .agg [encF 1 d_I x.2.2.2.2.2.1, .int .i64 x.2.2.2.2.2.2.1, .int .i64 x.2.2.2.2.2.2.2.1, .int .i64 x.2.2.2.2.2.2.2.2.1, .int .i64 x.2.2.2.2.2.2.2.2.2]]
  dec a := (dInt (aCell a 0 0), dInt (aCell a 0 1), decF g_II (aCell a 0 2), decF g_LIIE (aCell a 0 3), decF g_I (aCell a 1 0), decF g_I (aCell a 2 0), dInt (aCell a 2 1), dInt (aCell a 2 2), dInt (aCell a 2 3), dInt (aCell a 2 4))
  pre x := (r17 x.1 x.2.1 x.2.2.1 x.2.2.2.1 x.2.2.2.2.1 x.2.2.2.2.2.1 x.2.2.2.2.2.2.1 x.2.2.2.2.2.2.2.1 x.2.2.2.2.2.2.2.2.1 x.2.2.2.2.2.2.2.2.2).isSome = true
  res x := [.c (.d (.int .i64 (((r17 x.1 x.2.1 x.2.2.1 x.2.2.2.1 x.2.2.2.2.1 x.2.2.2.2.2.1 x.2.2.2.2.2.2.1 x.2.2.2.2.2.2.2.1 x.2.2.2.2.2.2.2.2.1 x.2.2.2.2.2.2.2.2.2).getD default).1))), .c (.d (.int .i64 (((r17 x.1 x.2.1 x.2.2.1 x.2.2.2.1 x.2.2.2.2.1 x.2.2.2.2.2.1 x.2.2.2.2.2.2.1 x.2.2.2.2.2.2.2.1 x.2.2.2.2.2.2.2.2.1 x.2.2.2.2.2.2.2.2.2).getD default).2)))]
  al := false
def tb17 : Fns := lk [(89, T89.sp), (90, T90.sp), (91, T91.sp), (92, T92.sp), (93, T93.sp), (94, T94.sp), (95, T95.sp), (96, T96.sp)]
theorem tb17_ok : FnsOk Try.prog tb17 := .cons f89 (.cons f90 (.cons f91 (.cons f92 (.cons f93 (.cons f94 (.cons f95 (.cons f96 (FnsOk.nil))))))))
theorem tb17_89 : tb17 89 = some T89.sp := rfl
theorem tb17_90 : tb17 90 = some T90.sp := rfl
theorem tb17_91 : tb17 91 = some T91.sp := rfl
theorem tb17_92 : tb17 92 = some T92.sp := rfl
theorem tb17_93 : tb17 93 = some T93.sp := rfl
theorem tb17_94 : tb17 94 = some T94.sp := rfl
theorem tb17_95 : tb17 95 = some T95.sp := rfl
theorem tb17_96 : tb17 96 = some T96.sp := rfl
theorem v17 : Valid Try.prog 17 T17.sp := by
  refine valid_t (fn := Try.f17) (n := 69) ty_ok tb17_ok Try.func17 rfl Try.ntmps17 ?_
  rintro ⟨a0_0, a0_1, a0_2, a0_3, a1, a2_0, a2_1, a2_2, a2_3, a2_4⟩ hx
  obtain ⟨r, hr⟩ := Option.isSome_iff_exists.1 (show (r17 a0_0 a0_1 a0_2 a0_3 a1 a2_0 a2_1 a2_2 a2_3 a2_4).isSome = true from hx)
  have hres : T17.res (a0_0, a0_1, a0_2, a0_3, a1, a2_0, a2_1, a2_2, a2_3, a2_4) = [.c (.d (.int .i64 r.1)), .c (.d (.int .i64 r.2))] := by simp only [T17, hr, Option.getD_some]
  refine ⟨Nat.le_of_ble_eq_true rfl, fun stop S => ?_⟩
  rw [hres] at S
  unfold r17 at hr
  refine S.goB [] 1000 ?_
  simp (maxSteps := 10000000) only [go_sem, tb17_89, T89, tb17_90, T90, tb17_91, T91, tb17_92, T92, tb17_93, T93, tb17_94, T94, tb17_95, T95, tb17_96, T96, T17, Option.map_some, Int.reduceToNat, Nat.reduceEqDiff, Nat.reduceLT, Nat.reduceAdd, Nat.reduceMul, Nat.reduceSub, Nat.reduceLeDiff, reduceIte, reduceCtorEq, Try.results17]
  obtain ⟨v1, hv1, hr⟩ := of_bind0 hr
  try simp only [hv1, Option.getD_some, Option.isSome_some, true_and, and_assoc]
  repeat (refine And.intro ?_ ?_; focus (first | assumption | decide +kernel | omega | (show Eqv _ _; (simp (maxDischargeDepth := 8) [go_sem]))))
  refine ⟨fun hc => ?_, fun hc => ?_⟩
  · rw [if_pos (by first | exact hc | (rw [hc]; rfl) | simpa using hc | (simp at hc ⊢; omega) | simp_all)] at hr
    obtain ⟨v2, hv2, hr⟩ := of_bind0 hr
    obtain ⟨hg9, hr⟩ := of_guard0 hr
    obtain ⟨v3, hv3, hr⟩ := of_bind0 hr
    obtain ⟨v4, hv4, hr⟩ := of_bind0 hr
    obtain ⟨v5, hv5, hr⟩ := of_bind0 hr
    obtain ⟨v6, hv6, hr⟩ := of_bind0 hr
    try simp only [hv2, hv3, hv4, hv5, hv6, Option.getD_some, Option.isSome_some, true_and, and_assoc]
    repeat (refine And.intro ?_ ?_; focus (first | assumption | decide +kernel | omega | (show Eqv _ _; (simp (maxDischargeDepth := 8) [go_sem])) | (intro hq; first | exact hg9 (by first | exact hq | (rw [hq]; rfl) | simpa using hq) | (have h9 := hg9 (by first | exact hq | (rw [hq]; rfl) | simpa using hq); first | omega | (simpa using h9)) | exact hq.1 | exact hq) | (simp +contextual; done)))
    refine S.sees [1, 5, 8, 9, 11] [(5, 5), (8, 8)] [(15, 15), (10015, 10015)] ?_ (Stop.iter S (fun s1 => ⟨[(1, .c (.d (encF 1 d_I s1.1))), (5, .c (.ref 5 0)), (8, .c (.ref 8 0)), (9, .c (.d (.int .i64 s1.2.1))), (11, .c (.d (.int .i64 s1.2.2)))], [(5, [.d (encF 1 d_I a2_0), .d (.int .i64 a2_1), .d (.int .i64 a2_2), .d (.int .i64 a2_3), .d (.int .i64 a2_4)]), (8, [.d (.int .i64 v1.1), .d (.int .i64 v1.2.1), .d (encF 2 d_II v1.2.2.1), .d (encF 1 d_LIIE v1.2.2.2.1), .own 15, .own 10015])], [(15, .owned (encF 2 d_II v1.2.2.2.2.1)), (10015, .owned (encF 1 d_LIIE v1.2.2.2.2.2.1))]⟩) (b17_1 a2_0 a2_1 a2_2 a2_3 a2_4 v1) (fun q => q = r) hr rfl ?_)
    · (simp (maxDischargeDepth := 8) [go_sem])
    · intro s1 hr
      unfold b17_1 at hr
      refine S.goB [] 1000 ?_
      simp (maxSteps := 10000000) only [go_sem, tb17_89, T89, tb17_90, T90, tb17_91, T91, tb17_92, T92, tb17_93, T93, tb17_94, T94, tb17_95, T95, tb17_96, T96, T17, Option.map_some, Int.reduceToNat, Nat.reduceEqDiff, Nat.reduceLT, Nat.reduceAdd, Nat.reduceMul, Nat.reduceSub, Nat.reduceLeDiff, reduceIte, reduceCtorEq, Try.results17]
      repeat (refine And.intro ?_ ?_; focus (first | assumption | decide +kernel | omega | (show Eqv _ _; (simp (maxDischargeDepth := 8) [go_sem]))))
      refine ⟨fun hc => ?_, fun hc => ?_⟩
      · rw [if_pos (by first | exact hc | (rw [hc]; rfl) | simpa using hc | (simp at hc ⊢; omega) | simp_all)] at hr
        obtain ⟨v7, hv7, hr⟩ := of_bind1 hr
        try simp only [hv7, Option.getD_some, Option.isSome_some, true_and, and_assoc]
        repeat (refine And.intro ?_ ?_; focus (first | assumption | decide +kernel | omega | (show Eqv _ _; (simp (maxDischargeDepth := 8) [go_sem]))))
        refine ⟨fun hc => ?_, fun hc => ?_⟩
        · rw [if_pos (by first | exact hc | (rw [hc]; rfl) | simpa using hc | (simp at hc ⊢; omega) | simp_all)] at hr
          repeat (refine And.intro ?_ ?_; focus (first | assumption | decide +kernel | omega | (show Eqv _ _; (simp (maxDischargeDepth := 8) [go_sem]))))
          have hr := of_out0 hr
          obtain rfl := Option.some.inj hr
          (simp (maxDischargeDepth := 8) [go_sem])
        · rw [if_neg (by first | exact hc | (rw [hc]; rfl) | simpa using hc | (simp at hc ⊢; omega) | simp_all)] at hr
          repeat (refine And.intro ?_ ?_; focus (first | assumption | decide +kernel | omega | (show Eqv _ _; (simp (maxDischargeDepth := 8) [go_sem]))))
          refine ⟨fun hc => ?_, fun hc => ?_⟩
          · rw [if_pos (by first | exact hc | (rw [hc]; rfl) | simpa using hc | (simp at hc ⊢; omega) | simp_all)] at hr
            repeat (refine And.intro ?_ ?_; focus (first | assumption | decide +kernel | omega | (show Eqv _ _; (simp (maxDischargeDepth := 8) [go_sem]))))
            have hr := of_out0 hr
            obtain rfl := Option.some.inj hr
            (simp (maxDischargeDepth := 8) [go_sem])
          · rw [if_neg (by first | exact hc | (rw [hc]; rfl) | simpa using hc | (simp at hc ⊢; omega) | simp_all)] at hr
            obtain ⟨v8, hv8, hr⟩ := of_bind1 hr
            try simp only [hv8, Option.getD_some, Option.isSome_some, true_and, and_assoc]
            repeat (refine And.intro ?_ ?_; focus (first | assumption | decide +kernel | omega | (show Eqv _ _; (simp (maxDischargeDepth := 8) [go_sem]))))
            refine S.share 64 rfl ?_
            refine S.sees [1, 5, 8, 9, 11] [(5, 5), (8, 8)] [(15, 15), (10015, 10015)] ?_ hr
            (simp (maxDischargeDepth := 8) [go_sem])
      · rw [if_neg (by first | exact hc | (rw [hc]; rfl) | simpa using hc | (simp at hc ⊢; omega) | simp_all)] at hr
        repeat (refine And.intro ?_ ?_; focus (first | assumption | decide +kernel | omega | (show Eqv _ _; (simp (maxDischargeDepth := 8) [go_sem]))))
        have hr := of_out0 hr
        repeat (refine And.intro ?_ ?_; focus (first | assumption | decide +kernel | omega | (show Eqv _ _; (simp (maxDischargeDepth := 8) [go_sem]))))
        obtain rfl := Option.some.inj hr
        (simp (maxDischargeDepth := 8) [go_sem])
  · rw [if_neg (by first | exact hc | (rw [hc]; rfl) | simpa using hc | (simp at hc ⊢; omega) | simp_all)] at hr
    repeat (refine And.intro ?_ ?_; focus (first | assumption | decide +kernel | omega | (show Eqv _ _; (simp (maxDischargeDepth := 8) [go_sem]))))
    refine S.sees [1, 5, 8, 9, 11] [(5, 5), (8, 8)] [(15, 15), (10015, 10015)] ?_ (Stop.iter S (fun s2 => ⟨[(1, .c (.d (encF 1 d_I s2.1))), (5, .c (.ref 5 0)), (8, .c (.ref 8 0)), (9, .c (.d (.int .i64 s2.2.1))), (11, .c (.d (.int .i64 s2.2.2)))], [(5, [.d (encF 1 d_I a2_0), .d (.int .i64 a2_1), .d (.int .i64 a2_2), .d (.int .i64 a2_3), .d (.int .i64 a2_4)]), (8, [.d (.int .i64 v1.1), .d (.int .i64 v1.2.1), .d (encF 2 d_II v1.2.2.1), .d (encF 1 d_LIIE v1.2.2.2.1), .own 15, .own 10015])], [(15, .owned (encF 2 d_II v1.2.2.2.2.1)), (10015, .owned (encF 1 d_LIIE v1.2.2.2.2.2.1))]⟩) (b17_2 a2_0 a2_1 a2_2 a2_3 a2_4 v1) (fun q => q = r) hr rfl ?_)
    · (simp (maxDischargeDepth := 8) [go_sem])
    · intro s2 hr
      unfold b17_2 at hr
      refine S.goB [] 1000 ?_
      simp (maxSteps := 10000000) only [go_sem, tb17_89, T89, tb17_90, T90, tb17_91, T91, tb17_92, T92, tb17_93, T93, tb17_94, T94, tb17_95, T95, tb17_96, T96, T17, Option.map_some, Int.reduceToNat, Nat.reduceEqDiff, Nat.reduceLT, Nat.reduceAdd, Nat.reduceMul, Nat.reduceSub, Nat.reduceLeDiff, reduceIte, reduceCtorEq, Try.results17]
      repeat (refine And.intro ?_ ?_; focus (first | assumption | decide +kernel | omega | (show Eqv _ _; (simp (maxDischargeDepth := 8) [go_sem]))))
      refine ⟨fun hc => ?_, fun hc => ?_⟩
      · rw [if_pos (by first | exact hc | (rw [hc]; rfl) | simpa using hc | (simp at hc ⊢; omega) | simp_all)] at hr
        obtain ⟨v10, hv10, hr⟩ := of_bind1 hr
        try simp only [hv10, Option.getD_some, Option.isSome_some, true_and, and_assoc]
        repeat (refine And.intro ?_ ?_; focus (first | assumption | decide +kernel | omega | (show Eqv _ _; (simp (maxDischargeDepth := 8) [go_sem]))))
        refine ⟨fun hc => ?_, fun hc => ?_⟩
        · rw [if_pos (by first | exact hc | (rw [hc]; rfl) | simpa using hc | (simp at hc ⊢; omega) | simp_all)] at hr
          repeat (refine And.intro ?_ ?_; focus (first | assumption | decide +kernel | omega | (show Eqv _ _; (simp (maxDischargeDepth := 8) [go_sem]))))
          have hr := of_out0 hr
          obtain rfl := Option.some.inj hr
          (simp (maxDischargeDepth := 8) [go_sem])
        · rw [if_neg (by first | exact hc | (rw [hc]; rfl) | simpa using hc | (simp at hc ⊢; omega) | simp_all)] at hr
          repeat (refine And.intro ?_ ?_; focus (first | assumption | decide +kernel | omega | (show Eqv _ _; (simp (maxDischargeDepth := 8) [go_sem]))))
          refine ⟨fun hc => ?_, fun hc => ?_⟩
          · rw [if_pos (by first | exact hc | (rw [hc]; rfl) | simpa using hc | (simp at hc ⊢; omega) | simp_all)] at hr
            repeat (refine And.intro ?_ ?_; focus (first | assumption | decide +kernel | omega | (show Eqv _ _; (simp (maxDischargeDepth := 8) [go_sem]))))
            have hr := of_out0 hr
            obtain rfl := Option.some.inj hr
            (simp (maxDischargeDepth := 8) [go_sem])
          · rw [if_neg (by first | exact hc | (rw [hc]; rfl) | simpa using hc | (simp at hc ⊢; omega) | simp_all)] at hr
            obtain ⟨v11, hv11, hr⟩ := of_bind1 hr
            try simp only [hv11, Option.getD_some, Option.isSome_some, true_and, and_assoc]
            repeat (refine And.intro ?_ ?_; focus (first | assumption | decide +kernel | omega | (show Eqv _ _; (simp (maxDischargeDepth := 8) [go_sem]))))
            refine S.share 64 rfl ?_
            refine S.sees [1, 5, 8, 9, 11] [(5, 5), (8, 8)] [(15, 15), (10015, 10015)] ?_ hr
            (simp (maxDischargeDepth := 8) [go_sem])
      · rw [if_neg (by first | exact hc | (rw [hc]; rfl) | simpa using hc | (simp at hc ⊢; omega) | simp_all)] at hr
        repeat (refine And.intro ?_ ?_; focus (first | assumption | decide +kernel | omega | (show Eqv _ _; (simp (maxDischargeDepth := 8) [go_sem]))))
        have hr := of_out0 hr
        repeat (refine And.intro ?_ ?_; focus (first | assumption | decide +kernel | omega | (show Eqv _ _; (simp (maxDischargeDepth := 8) [go_sem]))))
        obtain rfl := Option.some.inj hr
        (simp (maxDischargeDepth := 8) [go_sem])
theorem f17 : FnFact Try.prog 17 T17.sp := ⟨⟨Try.f17, Try.func17, by decide, rfl⟩, v17⟩
end Go.Proofs.Ytcbiiijnaeibhaa

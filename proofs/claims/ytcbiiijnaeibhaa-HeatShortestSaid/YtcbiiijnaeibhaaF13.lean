/- Contracts of functions, written by wip/dec. -/
import Derived.Test.YtcbiiijnaeibhaaF00
import Derived.Test.YtcbiiijnaeibhaaF12
set_option linter.unusedVariables false
set_option linter.unusedSimpArgs false
set_option maxHeartbeats 4000000
set_option maxRecDepth 20000
namespace Go.Proofs.Ytcbiiijnaeibhaa
open Go.Abs
/- martensite/martensiteref03.Shortest -/
def b23_1 (a0_0 : Int) (a0_1 : Int) (a0_2 : List (Int × Int)) (a0_3 : List ((List (Int × Int)))) (a2_0 : List (Int)) (a2_1 : Int) (a2_2 : Int) (a2_3 : Int) (a2_4 : Int) : ((List (Int)) × Int) → Ctl ((List (Int)) × Int) (Int × Int) := fun s1 =>
  bindC (r98 a0_0 a0_1 a0_2 a0_3 s1.1 a2_2) fun v1 =>
   if (decide (v1 ≥ a2_3)) = true then
    .out (some (s1.2, 0))
    else if (s1.2 == a2_4) = true then
     .out (some (0, 12))
     else bindC (r71 a0_0 a0_1 a0_2 a0_3 s1.1 a2_0 a2_1) fun v2 =>
      if (!v2.2.2) = true then
       .out (some (0, 22))
       else .next (v2.1, IntKind.i64.wrap (s1.2 + 1))
def r23 (a0_0 : Int) (a0_1 : Int) (a0_2 : List (Int × Int)) (a0_3 : List ((List (Int × Int)))) (a1 : List (Int)) (a2_0 : List (Int)) (a2_1 : Int) (a2_2 : Int) (a2_3 : Int) (a2_4 : Int) : Option (Int × Int) :=
  iterC (b23_1 a0_0 a0_1 a0_2 a0_3 a2_0 a2_1 a2_2 a2_3 a2_4) 1000000000 (a1, 0)
def T23 : TSpec (Int × Int × (List (Int × Int)) × (List ((List (Int × Int)))) × (List (Int)) × (List (Int)) × Int × Int × Int × Int) where
  enc x := [.agg [.int .i64 x.1, .int .i64 x.2.1, encF 2 d_II x.2.2.1, encF 1 d_LIIE x.2.2.2.1], .c (encF 1 d_I x.2.2.2.2.1), .agg [encF 1 d_I x.2.2.2.2.2.1, .int .i64 x.2.2.2.2.2.2.1, .int .i64 x.2.2.2.2.2.2.2.1, .int .i64 x.2.2.2.2.2.2.2.2.1, .int .i64 x.2.2.2.2.2.2.2.2.2]]
  dec a := (dInt (aCell a 0 0), dInt (aCell a 0 1), decF g_II (aCell a 0 2), decF g_LIIE (aCell a 0 3), decF g_I (aCell a 1 0), decF g_I (aCell a 2 0), dInt (aCell a 2 1), dInt (aCell a 2 2), dInt (aCell a 2 3), dInt (aCell a 2 4))
  pre x := (r23 x.1 x.2.1 x.2.2.1 x.2.2.2.1 x.2.2.2.2.1 x.2.2.2.2.2.1 x.2.2.2.2.2.2.1 x.2.2.2.2.2.2.2.1 x.2.2.2.2.2.2.2.2.1 x.2.2.2.2.2.2.2.2.2).isSome = true
  res x := [.c (.d (.int .i64 (((r23 x.1 x.2.1 x.2.2.1 x.2.2.2.1 x.2.2.2.2.1 x.2.2.2.2.2.1 x.2.2.2.2.2.2.1 x.2.2.2.2.2.2.2.1 x.2.2.2.2.2.2.2.2.1 x.2.2.2.2.2.2.2.2.2).getD default).1))), .c (.d (.int .i64 (((r23 x.1 x.2.1 x.2.2.1 x.2.2.2.1 x.2.2.2.2.1 x.2.2.2.2.2.1 x.2.2.2.2.2.2.1 x.2.2.2.2.2.2.2.1 x.2.2.2.2.2.2.2.2.1 x.2.2.2.2.2.2.2.2.2).getD default).2)))]
  al := false
def tb23 : Fns := lk [(71, T71.sp), (98, T98.sp)]
theorem tb23_ok : FnsOk Try.prog tb23 := .cons f71 (.cons f98 (FnsOk.nil))
theorem tb23_71 : tb23 71 = some T71.sp := rfl
theorem tb23_98 : tb23 98 = some T98.sp := rfl
theorem v23 : Valid Try.prog 23 T23.sp := by
  refine valid_t (fn := Try.f23) (n := 43) ty_ok tb23_ok Try.func23 rfl Try.ntmps23 ?_
  rintro ⟨a0_0, a0_1, a0_2, a0_3, a1, a2_0, a2_1, a2_2, a2_3, a2_4⟩ hx
  obtain ⟨r, hr⟩ := Option.isSome_iff_exists.1 (show (r23 a0_0 a0_1 a0_2 a0_3 a1 a2_0 a2_1 a2_2 a2_3 a2_4).isSome = true from hx)
  have hres : T23.res (a0_0, a0_1, a0_2, a0_3, a1, a2_0, a2_1, a2_2, a2_3, a2_4) = [.c (.d (.int .i64 r.1)), .c (.d (.int .i64 r.2))] := by simp only [T23, hr, Option.getD_some]
  refine ⟨Nat.le_of_ble_eq_true rfl, fun stop S => ?_⟩
  rw [hres] at S
  unfold r23 at hr
  refine S.goB [] 1000 ?_
  simp (maxSteps := 10000000) only [go_sem, tb23_71, T71, tb23_98, T98, T23, Option.map_some, Int.reduceToNat, Nat.reduceEqDiff, Nat.reduceLT, Nat.reduceAdd, Nat.reduceMul, Nat.reduceSub, Nat.reduceLeDiff, reduceIte, reduceCtorEq, Try.results23]
  repeat (refine And.intro ?_ ?_; focus (first | assumption | decide +kernel | (show _ ≠ _; omega) | ((fail_if_success intro _); omega) | (show Eqv _ _; (simp (maxDischargeDepth := 8) [go_sem]))))
  refine S.sees [1, 3, 5, 8] [(3, 3), (5, 5)] [] ?_ (Stop.iter S (fun s1 => ⟨[(1, .c (.d (encF 1 d_I s1.1))), (3, .c (.ref 3 0)), (5, .c (.ref 5 0)), (8, .c (.d (.int .i64 s1.2)))], [(3, [.d (.int .i64 a0_0), .d (.int .i64 a0_1), .d (encF 2 d_II a0_2), .d (encF 1 d_LIIE a0_3)]), (5, [.d (encF 1 d_I a2_0), .d (.int .i64 a2_1), .d (.int .i64 a2_2), .d (.int .i64 a2_3), .d (.int .i64 a2_4)])], []⟩) (b23_1 a0_0 a0_1 a0_2 a0_3 a2_0 a2_1 a2_2 a2_3 a2_4) (fun q => q = r) hr rfl ?_)
  · (simp (maxDischargeDepth := 8) [go_sem])
  · intro s1 hr
    unfold b23_1 at hr
    refine S.goB [] 1000 ?_
    simp (maxSteps := 10000000) only [go_sem, tb23_71, T71, tb23_98, T98, T23, Option.map_some, Int.reduceToNat, Nat.reduceEqDiff, Nat.reduceLT, Nat.reduceAdd, Nat.reduceMul, Nat.reduceSub, Nat.reduceLeDiff, reduceIte, reduceCtorEq, Try.results23]
    obtain ⟨v1, hv1, hr⟩ := of_bind1 hr
    try simp only [hv1, Option.getD_some, Option.isSome_some, true_and, and_assoc]
    repeat (refine And.intro ?_ ?_; focus (first | assumption | decide +kernel | (show _ ≠ _; omega) | ((fail_if_success intro _); omega) | (show Eqv _ _; (simp (maxDischargeDepth := 8) [go_sem]))))
    refine ⟨fun hc => ?_, fun hc => ?_⟩
    · rw [if_pos (by first | exact hc | (rw [hc]; rfl) | simpa using hc | (simp at hc ⊢; omega) | simp_all)] at hr
      repeat (refine And.intro ?_ ?_; focus (first | assumption | decide +kernel | (show _ ≠ _; omega) | ((fail_if_success intro _); omega) | (show Eqv _ _; (simp (maxDischargeDepth := 8) [go_sem]))))
      have hr := of_out0 hr
      obtain rfl := Option.some.inj hr
      (simp (maxDischargeDepth := 8) [go_sem])
    · rw [if_neg (by first | exact hc | (rw [hc]; rfl) | simpa using hc | (simp at hc ⊢; omega) | simp_all)] at hr
      repeat (refine And.intro ?_ ?_; focus (first | assumption | decide +kernel | (show _ ≠ _; omega) | ((fail_if_success intro _); omega) | (show Eqv _ _; (simp (maxDischargeDepth := 8) [go_sem]))))
      refine ⟨fun hc => ?_, fun hc => ?_⟩
      · rw [if_pos (by first | exact hc | (rw [hc]; rfl) | simpa using hc | (simp at hc ⊢; omega) | simp_all)] at hr
        repeat (refine And.intro ?_ ?_; focus (first | assumption | decide +kernel | (show _ ≠ _; omega) | ((fail_if_success intro _); omega) | (show Eqv _ _; (simp (maxDischargeDepth := 8) [go_sem]))))
        have hr := of_out0 hr
        obtain rfl := Option.some.inj hr
        (simp (maxDischargeDepth := 8) [go_sem])
      · rw [if_neg (by first | exact hc | (rw [hc]; rfl) | simpa using hc | (simp at hc ⊢; omega) | simp_all)] at hr
        obtain ⟨v2, hv2, hr⟩ := of_bind1 hr
        try simp only [hv2, Option.getD_some, Option.isSome_some, true_and, and_assoc]
        repeat (refine And.intro ?_ ?_; focus (first | assumption | decide +kernel | (show _ ≠ _; omega) | ((fail_if_success intro _); omega) | (show Eqv _ _; (simp (maxDischargeDepth := 8) [go_sem]))))
        refine ⟨fun hc => ?_, fun hc => ?_⟩
        · rw [if_pos (by first | exact hc | (rw [hc]; rfl) | simpa using hc | (simp at hc ⊢; omega) | simp_all)] at hr
          repeat (refine And.intro ?_ ?_; focus (first | assumption | decide +kernel | (show _ ≠ _; omega) | ((fail_if_success intro _); omega) | (show Eqv _ _; (simp (maxDischargeDepth := 8) [go_sem]))))
          have hr := of_out0 hr
          obtain rfl := Option.some.inj hr
          (simp (maxDischargeDepth := 8) [go_sem])
        · rw [if_neg (by first | exact hc | (rw [hc]; rfl) | simpa using hc | (simp at hc ⊢; omega) | simp_all)] at hr
          repeat (refine And.intro ?_ ?_; focus (first | assumption | decide +kernel | (show _ ≠ _; omega) | ((fail_if_success intro _); omega) | (show Eqv _ _; (simp (maxDischargeDepth := 8) [go_sem]))))
          refine S.share 36 rfl ?_
          refine S.sees [1, 3, 5, 8] [(3, 3), (5, 5)] [] ?_ hr
          (simp (maxDischargeDepth := 8) [go_sem])
theorem f23 : FnFact Try.prog 23 T23.sp := ⟨⟨Try.f23, Try.func23, by decide, rfl⟩, v23⟩
end Go.Proofs.Ytcbiiijnaeibhaa

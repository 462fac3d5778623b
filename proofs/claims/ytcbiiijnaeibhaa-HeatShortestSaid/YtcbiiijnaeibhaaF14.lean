/- Contracts of functions, written by wip/dec. -/
import Derived.Test.YtcbiiijnaeibhaaF00
import Derived.Test.YtcbiiijnaeibhaaF04
import Derived.Test.YtcbiiijnaeibhaaF05
import Derived.Test.YtcbiiijnaeibhaaF06
import Derived.Test.YtcbiiijnaeibhaaF10
import Derived.Test.YtcbiiijnaeibhaaF12
import Derived.Test.YtcbiiijnaeibhaaF13
set_option linter.unusedVariables false
set_option linter.unusedSimpArgs false
set_option maxHeartbeats 4000000
set_option maxRecDepth 20000
namespace Go.Proofs.Ytcbiiijnaeibhaa
open Go.Abs
/- martensite/martensitelaw03.HeatTimes -/
def r3 (a0_0 : Int) (a0_1 : Int) (a0_2 : List (Int × Int)) (a0_3 : List ((List (Int × Int)))) (a1 : List (Int)) (a2_0 : List (Int)) (a2_1 : Int) (a2_2 : Int) (a2_3 : Int) (a2_4 : Int) : Option (Bool) :=
  (r14).bind fun v1 =>
   if (!v1) = true then
    some false
    else (r15 a0_0 a0_1 a0_2 a0_3).bind fun v2 =>
     if (!(!v2)) = true → (r16 a1).isSome = true then
      if (!((!v2) || (!((r16 a1).getD default)))) = true → (r16 a2_0).isSome = true then
       if ((((!v2) || (!((r16 a1).getD default))) || (!((r16 a2_0).getD default))) || ((decide (a2_4 > 40)) && (decide (a2_4 ≤ 200)))) = true then
        some true
        else (r18 a0_0 a0_1 a0_2 a0_3).bind fun v3 =>
         (r19 a1).bind fun v4 =>
          (r20 a2_0 a2_1 a2_2 a2_3 a2_4).bind fun v5 =>
           (r17 v3.1 v3.2.1 v3.2.2.1 v3.2.2.2 v4 v5.1 v5.2.1 v5.2.2.1 v5.2.2.2.1 v5.2.2.2.2).bind fun v6 =>
            (r21 a0_0 a0_1 a0_2 a0_3 a1).bind fun v7 =>
             if (v7 == 0) = true then
              (r22 a0_0 a0_1 a0_2 a0_3 a2_0 a2_1 a2_2 a2_3 a2_4).bind fun v8 =>
               if (v8 != 0) = true then
                some ((v6.2 == v8) && (v6.1 == 0))
                else (r23 a0_0 a0_1 a0_2 a0_3 a1 a2_0 a2_1 a2_2 a2_3 a2_4).bind fun v9 =>
                 some ((v6.2 == v9.2) && (v6.1 == v9.1))
              else if (v7 != 0) = true then
               some ((v6.2 == v7) && (v6.1 == 0))
               else (r23 a0_0 a0_1 a0_2 a0_3 a1 a2_0 a2_1 a2_2 a2_3 a2_4).bind fun v10 =>
                some ((v6.2 == v10.2) && (v6.1 == v10.1))
       else none
      else none
def T3 : TSpec (Int × Int × (List (Int × Int)) × (List ((List (Int × Int)))) × (List (Int)) × (List (Int)) × Int × Int × Int × Int) where
  enc x := [.agg [.int .i64 x.1, .int .i64 x.2.1, encF 2 d_II x.2.2.1, encF 1 d_LIIE x.2.2.2.1], .c (encF 1 d_I x.2.2.2.2.1), .agg [encF 1 d_I x.2.2.2.2.2.1, .int .i64 x.2.2.2.2.2.2.1, .int .i64 x.2.2.2.2.2.2.2.1, .int .i64 x.2.2.2.2.2.2.2.2.1, .int .i64 x.2.2.2.2.2.2.2.2.2]]
  dec a := (dInt (aCell a 0 0), dInt (aCell a 0 1), decF g_II (aCell a 0 2), decF g_LIIE (aCell a 0 3), decF g_I (aCell a 1 0), decF g_I (aCell a 2 0), dInt (aCell a 2 1), dInt (aCell a 2 2), dInt (aCell a 2 3), dInt (aCell a 2 4))
  pre x := (r3 x.1 x.2.1 x.2.2.1 x.2.2.2.1 x.2.2.2.2.1 x.2.2.2.2.2.1 x.2.2.2.2.2.2.1 x.2.2.2.2.2.2.2.1 x.2.2.2.2.2.2.2.2.1 x.2.2.2.2.2.2.2.2.2).isSome = true
  res x := [.c (.d (.bool ((r3 x.1 x.2.1 x.2.2.1 x.2.2.2.1 x.2.2.2.2.1 x.2.2.2.2.2.1 x.2.2.2.2.2.2.1 x.2.2.2.2.2.2.2.1 x.2.2.2.2.2.2.2.2.1 x.2.2.2.2.2.2.2.2.2).getD default)))]
  al := false
def tb3 : Fns := lk [(14, T14.sp), (15, T15.sp), (16, T16.sp), (17, T17.sp), (18, T18.sp), (19, T19.sp), (20, T20.sp), (21, T21.sp), (22, T22.sp), (23, T23.sp)]
theorem tb3_ok : FnsOk Try.prog tb3 := .cons f14 (.cons f15 (.cons f16 (.cons f17 (.cons f18 (.cons f19 (.cons f20 (.cons f21 (.cons f22 (.cons f23 (FnsOk.nil))))))))))
theorem tb3_14 : tb3 14 = some T14.sp := rfl
theorem tb3_15 : tb3 15 = some T15.sp := rfl
theorem tb3_16 : tb3 16 = some T16.sp := rfl
theorem tb3_17 : tb3 17 = some T17.sp := rfl
theorem tb3_18 : tb3 18 = some T18.sp := rfl
theorem tb3_19 : tb3 19 = some T19.sp := rfl
theorem tb3_20 : tb3 20 = some T20.sp := rfl
theorem tb3_21 : tb3 21 = some T21.sp := rfl
theorem tb3_22 : tb3 22 = some T22.sp := rfl
theorem tb3_23 : tb3 23 = some T23.sp := rfl
theorem v3 : Valid Try.prog 3 T3.sp := by
  refine valid_t (fn := Try.f3) (n := 80) ty_ok tb3_ok Try.func3 rfl Try.ntmps3 ?_
  rintro ⟨a0_0, a0_1, a0_2, a0_3, a1, a2_0, a2_1, a2_2, a2_3, a2_4⟩ hx
  obtain ⟨r, hr⟩ := Option.isSome_iff_exists.1 (show (r3 a0_0 a0_1 a0_2 a0_3 a1 a2_0 a2_1 a2_2 a2_3 a2_4).isSome = true from hx)
  have hres : T3.res (a0_0, a0_1, a0_2, a0_3, a1, a2_0, a2_1, a2_2, a2_3, a2_4) = [.c (.d (.bool r))] := by simp only [T3, hr, Option.getD_some]
  refine ⟨Nat.le_of_ble_eq_true rfl, fun stop S => ?_⟩
  rw [hres] at S
  unfold r3 at hr
  refine S.goB [] 1000 ?_
  simp (maxSteps := 10000000) only [go_sem, tb3_14, T14, tb3_15, T15, tb3_16, T16, tb3_17, T17, tb3_18, T18, tb3_19, T19, tb3_20, T20, tb3_21, T21, tb3_22, T22, tb3_23, T23, T3, Option.map_some, Int.reduceToNat, Nat.reduceEqDiff, Nat.reduceLT, Nat.reduceAdd, Nat.reduceMul, Nat.reduceSub, Nat.reduceLeDiff, reduceIte, reduceCtorEq, Try.results3]
  obtain ⟨v1, hv1, hr⟩ := of_bind0 hr
  try simp only [hv1, Option.getD_some, Option.isSome_some, true_and, and_assoc]
  repeat (refine And.intro ?_ ?_; focus (first | assumption | decide +kernel | (show _ ≠ _; omega) | ((fail_if_success intro _); omega) | (show Eqv _ _; (simp (maxDischargeDepth := 8) [go_sem]))))
  refine ⟨fun hc => ?_, fun hc => ?_⟩
  · rw [if_pos (by first | exact hc | (rw [hc]; rfl) | simpa using hc | (simp at hc ⊢; omega) | simp_all)] at hr
    repeat (refine And.intro ?_ ?_; focus (first | assumption | decide +kernel | (show _ ≠ _; omega) | ((fail_if_success intro _); omega) | (show Eqv _ _; (simp (maxDischargeDepth := 8) [go_sem]))))
    obtain rfl := Option.some.inj hr
    (simp (maxDischargeDepth := 8) [go_sem])
  · rw [if_neg (by first | exact hc | (rw [hc]; rfl) | simpa using hc | (simp at hc ⊢; omega) | simp_all)] at hr
    obtain ⟨v2, hv2, hr⟩ := of_bind0 hr
    obtain ⟨hg11, hr⟩ := of_guard0 hr
    obtain ⟨hg12, hr⟩ := of_guard0 hr
    try simp only [hv2, Option.getD_some, Option.isSome_some, true_and, and_assoc]
    repeat (refine And.intro ?_ ?_; focus (first | assumption | decide +kernel | (show _ ≠ _; omega) | ((fail_if_success intro _); omega) | (show Eqv _ _; (simp (maxDischargeDepth := 8) [go_sem])) | (intro hq; first | exact hg11 (by first | exact hq | (rw [hq]; rfl) | simpa using hq) | (have h9 := hg11 (by first | exact hq | (rw [hq]; rfl) | simpa using hq); first | omega | (simpa using h9)) | exact hg12 (by first | exact hq | (rw [hq]; rfl) | simpa using hq) | (have h9 := hg12 (by first | exact hq | (rw [hq]; rfl) | simpa using hq); first | omega | (simpa using h9)) | exact hq.1 | exact hq) | (intro hq; exact ⟨hq, fun h2 => by rw [hq]; simp [h2]⟩) | (simp +contextual; done)))
    refine ⟨fun hc => ?_, fun hc => ?_⟩
    · rw [if_pos (by first | exact hc | (rw [hc]; rfl) | simpa using hc | (simp at hc ⊢; omega) | simp_all)] at hr
      repeat (refine And.intro ?_ ?_; focus (first | assumption | decide +kernel | (show _ ≠ _; omega) | ((fail_if_success intro _); omega) | (show Eqv _ _; (simp (maxDischargeDepth := 8) [go_sem]))))
      obtain rfl := Option.some.inj hr
      (simp (maxDischargeDepth := 8) [go_sem])
    · rw [if_neg (by first | exact hc | (rw [hc]; rfl) | simpa using hc | (simp at hc ⊢; omega) | simp_all)] at hr
      obtain ⟨v3, hv3, hr⟩ := of_bind0 hr
      obtain ⟨v4, hv4, hr⟩ := of_bind0 hr
      obtain ⟨v5, hv5, hr⟩ := of_bind0 hr
      obtain ⟨v6, hv6, hr⟩ := of_bind0 hr
      obtain ⟨v7, hv7, hr⟩ := of_bind0 hr
      try simp only [hv3, hv4, hv5, hv6, hv7, Option.getD_some, Option.isSome_some, true_and, and_assoc]
      repeat (refine And.intro ?_ ?_; focus (first | assumption | decide +kernel | (show _ ≠ _; omega) | ((fail_if_success intro _); omega) | (show Eqv _ _; (simp (maxDischargeDepth := 8) [go_sem]))))
      refine ⟨fun hc => ?_, fun hc => ?_⟩
      · rw [if_pos (by first | exact hc | (rw [hc]; rfl) | simpa using hc | (simp at hc ⊢; omega) | simp_all)] at hr
        obtain ⟨v8, hv8, hr⟩ := of_bind0 hr
        try simp only [hv8, Option.getD_some, Option.isSome_some, true_and, and_assoc]
        repeat (refine And.intro ?_ ?_; focus (first | assumption | decide +kernel | (show _ ≠ _; omega) | ((fail_if_success intro _); omega) | (show Eqv _ _; (simp (maxDischargeDepth := 8) [go_sem]))))
        refine ⟨fun hc => ?_, fun hc => ?_⟩
        · rw [if_pos (by first | exact hc | (rw [hc]; rfl) | simpa using hc | (simp at hc ⊢; omega) | simp_all)] at hr
          repeat (refine And.intro ?_ ?_; focus (first | assumption | decide +kernel | (show _ ≠ _; omega) | ((fail_if_success intro _); omega) | (show Eqv _ _; (simp (maxDischargeDepth := 8) [go_sem])) | (intro hq; first | exact hq.1 | exact hq) | (intro hq; exact ⟨hq, fun h2 => by rw [hq]; simp [h2]⟩) | (simp +contextual; done)))
          obtain rfl := Option.some.inj hr
          (simp (maxDischargeDepth := 8) [go_sem])
        · rw [if_neg (by first | exact hc | (rw [hc]; rfl) | simpa using hc | (simp at hc ⊢; omega) | simp_all)] at hr
          obtain ⟨v9, hv9, hr⟩ := of_bind0 hr
          try simp only [hv9, Option.getD_some, Option.isSome_some, true_and, and_assoc]
          repeat (refine And.intro ?_ ?_; focus (first | assumption | decide +kernel | (show _ ≠ _; omega) | ((fail_if_success intro _); omega) | (show Eqv _ _; (simp (maxDischargeDepth := 8) [go_sem])) | (intro hq; first | exact hq.1 | exact hq) | (intro hq; exact ⟨hq, fun h2 => by rw [hq]; simp [h2]⟩) | (simp +contextual; done)))
          obtain rfl := Option.some.inj hr
          (simp (maxDischargeDepth := 8) [go_sem])
      · rw [if_neg (by first | exact hc | (rw [hc]; rfl) | simpa using hc | (simp at hc ⊢; omega) | simp_all)] at hr
        repeat (refine And.intro ?_ ?_; focus (first | assumption | decide +kernel | (show _ ≠ _; omega) | ((fail_if_success intro _); omega) | (show Eqv _ _; (simp (maxDischargeDepth := 8) [go_sem]))))
        refine ⟨fun hc => ?_, fun hc => ?_⟩
        · rw [if_pos (by first | exact hc | (rw [hc]; rfl) | simpa using hc | (simp at hc ⊢; omega) | simp_all)] at hr
          repeat (refine And.intro ?_ ?_; focus (first | assumption | decide +kernel | (show _ ≠ _; omega) | ((fail_if_success intro _); omega) | (show Eqv _ _; (simp (maxDischargeDepth := 8) [go_sem])) | (intro hq; first | exact hq.1 | exact hq) | (intro hq; exact ⟨hq, fun h2 => by rw [hq]; simp [h2]⟩) | (simp +contextual; done)))
          obtain rfl := Option.some.inj hr
          (simp (maxDischargeDepth := 8) [go_sem])
        · rw [if_neg (by first | exact hc | (rw [hc]; rfl) | simpa using hc | (simp at hc ⊢; omega) | simp_all)] at hr
          obtain ⟨v10, hv10, hr⟩ := of_bind0 hr
          try simp only [hv10, Option.getD_some, Option.isSome_some, true_and, and_assoc]
          repeat (refine And.intro ?_ ?_; focus (first | assumption | decide +kernel | (show _ ≠ _; omega) | ((fail_if_success intro _); omega) | (show Eqv _ _; (simp (maxDischargeDepth := 8) [go_sem])) | (intro hq; first | exact hq.1 | exact hq) | (intro hq; exact ⟨hq, fun h2 => by rw [hq]; simp [h2]⟩) | (simp +contextual; done)))
          obtain rfl := Option.some.inj hr
          (simp (maxDischargeDepth := 8) [go_sem])
theorem f3 : FnFact Try.prog 3 T3.sp := ⟨⟨Try.f3, Try.func3, by decide, rfl⟩, v3⟩
end Go.Proofs.Ytcbiiijnaeibhaa

/- Contracts of functions, written by wip/dec. -/
import Derived.Test.YtcbiiijnaeibhaaF00
import Derived.Test.YtcbiiijnaeibhaaF04
import Derived.Test.YtcbiiijnaeibhaaF05
import Derived.Test.YtcbiiijnaeibhaaF06
set_option linter.unusedVariables false
set_option linter.unusedSimpArgs false
set_option maxHeartbeats 4000000
set_option maxRecDepth 20000
namespace Go.Proofs.Ytcbiiijnaeibhaa
open Go.Abs
/- martensite/martensitelaw03.HeatWaters -/
def r5 (a0_0 : Int) (a0_1 : Int) (a0_2 : Int) (a1 : List (Int)) (a2 : List (Int × Int)) : Option (Bool) :=
  (r14).bind fun v1 =>
   if (!v1) = true then
    some false
    else (r28 (a1.length : Int)).bind fun v2 =>
     if (!(!v2)) = true → (r28 (a2.length : Int)).isSome = true then
      if ((!v2) || (!((r28 (a2.length : Int)).getD default))) = true then
       some true
       else (r19 a1).bind fun v3 =>
        (r29 a0_0 a0_1 a0_2 v3).bind fun v4 =>
         if (0 + a2.length) * 16 ≤ 140737488355328 ∧ 0 + a2.length ≤ 9223372036854775807 then
          (r30 a0_0 a0_1 a0_2 a2).bind fun v5 =>
           (r31 a0_0 a0_1 a0_2).bind fun v6 =>
            (r32 a0_0 a0_1 a0_2).bind fun v7 =>
             if (v7 != v6) = true then
              some false
              else if (v6 != 0) = true then
               some ((((v4.2 == v6) && (v5.2.2 == v6)) && ((v4.1.length : Int) == 0)) && ((v5.1 == 0) && (v5.2.1 == 0)))
               else (r33 a1).bind fun v8 =>
                if (((!((v8 != 0) && ((v4.2 != v8) || ((v4.1.length : Int) != 0)))) && (v8 == 0)) && (!(v4.2 != 0))) = true → (r35 a0_0 a0_1 a0_2 a1).isSome = true then
                 if (((!((v8 != 0) && ((v4.2 != v8) || ((v4.1.length : Int) != 0)))) && (v8 == 0)) && (!(v4.2 != 0))) = true → (r34 v4.1 ((r35 a0_0 a0_1 a0_2 a1).getD default)).isSome = true then
                  if (((v8 != 0) && ((v4.2 != v8) || ((v4.1.length : Int) != 0))) || ((v8 == 0) && ((v4.2 != 0) || (!((r34 v4.1 ((r35 a0_0 a0_1 a0_2 a1).getD default)).getD default))))) = true then
                   some false
                   else (r36 a2).bind fun v9 =>
                    if (v9 != 0) = true then
                     some ((v5.2.2 == v9) && ((v5.1 == 0) && (v5.2.1 == 0)))
                     else (r37 a0_0 a0_1 a0_2 a2).bind fun v10 =>
                      if (!v10.2.2) = true then
                       some ((v5.2.2 == 12) && ((v5.1 == 0) && (v5.2.1 == 0)))
                       else some ((v5.2.2 == 0) && ((v5.1 == v10.1) && (v5.2.1 == v10.2.1)))
                  else none
                 else none
          else none
      else none
def T5 : TSpec (Int × Int × Int × (List (Int)) × (List (Int × Int))) where
  enc x := [.agg [.int .i64 x.1, .int .i64 x.2.1, .int .i64 x.2.2.1], .c (encF 1 d_I x.2.2.2.1), .c (encF 2 d_II x.2.2.2.2)]
  dec a := (dInt (aCell a 0 0), dInt (aCell a 0 1), dInt (aCell a 0 2), decF g_I (aCell a 1 0), decF g_II (aCell a 2 0))
  pre x := (r5 x.1 x.2.1 x.2.2.1 x.2.2.2.1 x.2.2.2.2).isSome = true
  res x := [.c (.d (.bool ((r5 x.1 x.2.1 x.2.2.1 x.2.2.2.1 x.2.2.2.2).getD default)))]
  al := false
def tb5 : Fns := lk [(14, T14.sp), (19, T19.sp), (28, T28.sp), (29, T29.sp), (30, T30.sp), (31, T31.sp), (32, T32.sp), (33, T33.sp), (34, T34.sp), (35, T35.sp), (36, T36.sp), (37, T37.sp)]
theorem tb5_ok : FnsOk Try.prog tb5 := .cons f14 (.cons f19 (.cons f28 (.cons f29 (.cons f30 (.cons f31 (.cons f32 (.cons f33 (.cons f34 (.cons f35 (.cons f36 (.cons f37 (FnsOk.nil))))))))))))
theorem tb5_14 : tb5 14 = some T14.sp := rfl
theorem tb5_19 : tb5 19 = some T19.sp := rfl
theorem tb5_28 : tb5 28 = some T28.sp := rfl
theorem tb5_29 : tb5 29 = some T29.sp := rfl
theorem tb5_30 : tb5 30 = some T30.sp := rfl
theorem tb5_31 : tb5 31 = some T31.sp := rfl
theorem tb5_32 : tb5 32 = some T32.sp := rfl
theorem tb5_33 : tb5 33 = some T33.sp := rfl
theorem tb5_34 : tb5 34 = some T34.sp := rfl
theorem tb5_35 : tb5 35 = some T35.sp := rfl
theorem tb5_36 : tb5 36 = some T36.sp := rfl
theorem tb5_37 : tb5 37 = some T37.sp := rfl
theorem v5 : Valid Try.prog 5 T5.sp := by
  refine valid_t (fn := Try.f5) (n := 131) ty_ok tb5_ok Try.func5 rfl Try.ntmps5 ?_
  rintro ⟨a0_0, a0_1, a0_2, a1, a2⟩ hx
  obtain ⟨r, hr⟩ := Option.isSome_iff_exists.1 (show (r5 a0_0 a0_1 a0_2 a1 a2).isSome = true from hx)
  have hres : T5.res (a0_0, a0_1, a0_2, a1, a2) = [.c (.d (.bool r))] := by simp only [T5, hr, Option.getD_some]
  refine ⟨Nat.le_of_ble_eq_true rfl, fun stop S => ?_⟩
  rw [hres] at S
  unfold r5 at hr
  refine S.goB [] 1000 ?_
  simp (maxSteps := 10000000) only [go_sem, tb5_14, T14, tb5_19, T19, tb5_28, T28, tb5_29, T29, tb5_30, T30, tb5_31, T31, tb5_32, T32, tb5_33, T33, tb5_34, T34, tb5_35, T35, tb5_36, T36, tb5_37, T37, T5, Option.map_some, Int.reduceToNat, Nat.reduceEqDiff, Nat.reduceLT, Nat.reduceAdd, Nat.reduceMul, Nat.reduceSub, Nat.reduceLeDiff, reduceIte, reduceCtorEq, Try.results5]
  obtain ⟨v1, hv1, hr⟩ := of_bind0 hr
  try simp only [hv1, Option.getD_some, Option.isSome_some, true_and, and_assoc]
  repeat (refine And.intro ?_ ?_; focus (first | assumption | decide +kernel | (show _ ≠ _; omega) | ((fail_if_success intro _); omega) | (show Eqv _ _; (simp (maxDischargeDepth := 8) [go_sem]))))
  refine ⟨fun hc => ?_, fun hc => ?_⟩
  · rw [if_pos (by first | exact hc | (rw [hc]; rfl) | simpa using hc | (simp at hc ⊢; omega) | simp_all)] at hr
    repeat (refine And.intro ?_ ?_; focus (first | assumption | decide +kernel | (show _ ≠ _; omega) | ((fail_if_success intro _); omega) | (show Eqv _ _; (simp (maxDischargeDepth := 8) [go_sem]))))
    obtain rfl := Option.some.inj hr
    (simp (maxDischargeDepth := 8) [go_sem])
  · rw [if_neg (by first | exact hc | (rw [hc]; rfl) | simpa using hc | (simp at hc ⊢; omega) | simp_all)] at hr
    obtain ⟨v2, hv2, hr⟩ := of_bind0 hr
    obtain ⟨hg14, hr⟩ := of_guard0 hr
    try simp only [hv2, Option.getD_some, Option.isSome_some, true_and, and_assoc]
    repeat (refine And.intro ?_ ?_; focus (first | assumption | decide +kernel | (show _ ≠ _; omega) | ((fail_if_success intro _); omega) | (show Eqv _ _; (simp (maxDischargeDepth := 8) [go_sem])) | (intro hq; first | exact hg14 (by first | exact hq | (rw [hq]; rfl) | simpa using hq) | (have h9 := hg14 (by first | exact hq | (rw [hq]; rfl) | simpa using hq); first | omega | (simpa using h9)) | exact hq.1 | exact hq) | (intro hq; exact ⟨hq, fun h2 => by rw [hq]; simp [h2]⟩) | (simp +contextual; done)))
    refine ⟨fun hc => ?_, fun hc => ?_⟩
    · rw [if_pos (by first | exact hc | (rw [hc]; rfl) | simpa using hc | (simp at hc ⊢; omega) | simp_all)] at hr
      repeat (refine And.intro ?_ ?_; focus (first | assumption | decide +kernel | (show _ ≠ _; omega) | ((fail_if_success intro _); omega) | (show Eqv _ _; (simp (maxDischargeDepth := 8) [go_sem]))))
      obtain rfl := Option.some.inj hr
      (simp (maxDischargeDepth := 8) [go_sem])
    · rw [if_neg (by first | exact hc | (rw [hc]; rfl) | simpa using hc | (simp at hc ⊢; omega) | simp_all)] at hr
      obtain ⟨v3, hv3, hr⟩ := of_bind0 hr
      obtain ⟨v4, hv4, hr⟩ := of_bind0 hr
      obtain ⟨hg13, hr⟩ := of_guard0 hr
      obtain ⟨v5, hv5, hr⟩ := of_bind0 hr
      obtain ⟨v6, hv6, hr⟩ := of_bind0 hr
      obtain ⟨v7, hv7, hr⟩ := of_bind0 hr
      try simp only [hv3, hv4, hv5, hv6, hv7, Option.getD_some, Option.isSome_some, true_and, and_assoc]
      repeat (refine And.intro ?_ ?_; focus (first | assumption | decide +kernel | (show _ ≠ _; omega) | ((fail_if_success intro _); omega) | (show Eqv _ _; (simp (maxDischargeDepth := 8) [go_sem]))))
      refine ⟨fun hc => ?_, fun hc => ?_⟩
      · rw [if_pos (by first | exact hc | (rw [hc]; rfl) | simpa using hc | (simp at hc ⊢; omega) | simp_all)] at hr
        repeat (refine And.intro ?_ ?_; focus (first | assumption | decide +kernel | (show _ ≠ _; omega) | ((fail_if_success intro _); omega) | (show Eqv _ _; (simp (maxDischargeDepth := 8) [go_sem]))))
        obtain rfl := Option.some.inj hr
        (simp (maxDischargeDepth := 8) [go_sem])
      · rw [if_neg (by first | exact hc | (rw [hc]; rfl) | simpa using hc | (simp at hc ⊢; omega) | simp_all)] at hr
        repeat (refine And.intro ?_ ?_; focus (first | assumption | decide +kernel | (show _ ≠ _; omega) | ((fail_if_success intro _); omega) | (show Eqv _ _; (simp (maxDischargeDepth := 8) [go_sem]))))
        refine ⟨fun hc => ?_, fun hc => ?_⟩
        · rw [if_pos (by first | exact hc | (rw [hc]; rfl) | simpa using hc | (simp at hc ⊢; omega) | simp_all)] at hr
          repeat (refine And.intro ?_ ?_; focus (first | assumption | decide +kernel | (show _ ≠ _; omega) | ((fail_if_success intro _); omega) | (show Eqv _ _; (simp (maxDischargeDepth := 8) [go_sem])) | (intro hq; first | exact hq.1 | exact hq) | (intro hq; exact ⟨hq, fun h2 => by rw [hq]; simp [h2]⟩) | (simp +contextual; done)))
          obtain rfl := Option.some.inj hr
          (simp (maxDischargeDepth := 8) [go_sem])
        · rw [if_neg (by first | exact hc | (rw [hc]; rfl) | simpa using hc | (simp at hc ⊢; omega) | simp_all)] at hr
          obtain ⟨v8, hv8, hr⟩ := of_bind0 hr
          obtain ⟨hg11, hr⟩ := of_guard0 hr
          obtain ⟨hg12, hr⟩ := of_guard0 hr
          try simp only [hv8, Option.getD_some, Option.isSome_some, true_and, and_assoc]
          repeat (refine And.intro ?_ ?_; focus (first | assumption | decide +kernel | (show _ ≠ _; omega) | ((fail_if_success intro _); omega) | (show Eqv _ _; (simp (maxDischargeDepth := 8) [go_sem])) | (intro hq; first | exact hg11 (by first | exact hq | (rw [hq]; rfl) | simpa using hq) | (have h9 := hg11 (by first | exact hq | (rw [hq]; rfl) | simpa using hq); first | omega | (simpa using h9)) | exact hg12 (by first | exact hq | (rw [hq]; rfl) | simpa using hq) | (have h9 := hg12 (by first | exact hq | (rw [hq]; rfl) | simpa using hq); first | omega | (simpa using h9)) | exact hq.1 | exact hq) | (intro hq; exact ⟨hq, fun h2 => by rw [hq]; simp [h2]⟩) | (simp +contextual; done)))
          refine ⟨fun hc => ?_, fun hc => ?_⟩
          · rw [if_pos (by first | exact hc | (rw [hc]; rfl) | simpa using hc | (simp at hc ⊢; omega) | simp_all)] at hr
            repeat (refine And.intro ?_ ?_; focus (first | assumption | decide +kernel | (show _ ≠ _; omega) | ((fail_if_success intro _); omega) | (show Eqv _ _; (simp (maxDischargeDepth := 8) [go_sem]))))
            obtain rfl := Option.some.inj hr
            (simp (maxDischargeDepth := 8) [go_sem])
          · rw [if_neg (by first | exact hc | (rw [hc]; rfl) | simpa using hc | (simp at hc ⊢; omega) | simp_all)] at hr
            obtain ⟨v9, hv9, hr⟩ := of_bind0 hr
            try simp only [hv9, Option.getD_some, Option.isSome_some, true_and, and_assoc]
            repeat (refine And.intro ?_ ?_; focus (first | assumption | decide +kernel | (show _ ≠ _; omega) | ((fail_if_success intro _); omega) | (show Eqv _ _; (simp (maxDischargeDepth := 8) [go_sem]))))
            refine ⟨fun hc => ?_, fun hc => ?_⟩
            · rw [if_pos (by first | exact hc | (rw [hc]; rfl) | simpa using hc | (simp at hc ⊢; omega) | simp_all)] at hr
              repeat (refine And.intro ?_ ?_; focus (first | assumption | decide +kernel | (show _ ≠ _; omega) | ((fail_if_success intro _); omega) | (show Eqv _ _; (simp (maxDischargeDepth := 8) [go_sem])) | (intro hq; first | exact hq.1 | exact hq) | (intro hq; exact ⟨hq, fun h2 => by rw [hq]; simp [h2]⟩) | (simp +contextual; done)))
              obtain rfl := Option.some.inj hr
              (simp (maxDischargeDepth := 8) [go_sem])
            · rw [if_neg (by first | exact hc | (rw [hc]; rfl) | simpa using hc | (simp at hc ⊢; omega) | simp_all)] at hr
              obtain ⟨v10, hv10, hr⟩ := of_bind0 hr
              try simp only [hv10, Option.getD_some, Option.isSome_some, true_and, and_assoc]
              repeat (refine And.intro ?_ ?_; focus (first | assumption | decide +kernel | (show _ ≠ _; omega) | ((fail_if_success intro _); omega) | (show Eqv _ _; (simp (maxDischargeDepth := 8) [go_sem]))))
              refine ⟨fun hc => ?_, fun hc => ?_⟩
              · rw [if_pos (by first | exact hc | (rw [hc]; rfl) | simpa using hc | (simp at hc ⊢; omega) | simp_all)] at hr
                repeat (refine And.intro ?_ ?_; focus (first | assumption | decide +kernel | (show _ ≠ _; omega) | ((fail_if_success intro _); omega) | (show Eqv _ _; (simp (maxDischargeDepth := 8) [go_sem])) | (intro hq; first | exact hq.1 | exact hq) | (intro hq; exact ⟨hq, fun h2 => by rw [hq]; simp [h2]⟩) | (simp +contextual; done)))
                obtain rfl := Option.some.inj hr
                (simp (maxDischargeDepth := 8) [go_sem])
              · rw [if_neg (by first | exact hc | (rw [hc]; rfl) | simpa using hc | (simp at hc ⊢; omega) | simp_all)] at hr
                repeat (refine And.intro ?_ ?_; focus (first | assumption | decide +kernel | (show _ ≠ _; omega) | ((fail_if_success intro _); omega) | (show Eqv _ _; (simp (maxDischargeDepth := 8) [go_sem])) | (intro hq; first | exact hq.1 | exact hq) | (intro hq; exact ⟨hq, fun h2 => by rw [hq]; simp [h2]⟩) | (simp +contextual; done)))
                obtain rfl := Option.some.inj hr
                (simp (maxDischargeDepth := 8) [go_sem])
theorem f5 : FnFact Try.prog 5 T5.sp := ⟨⟨Try.f5, Try.func5, by decide, rfl⟩, v5⟩
end Go.Proofs.Ytcbiiijnaeibhaa

/- Contracts of functions, written by wip/dec. -/
import Derived.Test.YtcbiiijnaeibhaaF00
import Derived.Test.YtcbiiijnaeibhaaF03
import Derived.Test.YtcbiiijnaeibhaaF04
import Derived.Test.YtcbiiijnaeibhaaF05
import Derived.Test.YtcbiiijnaeibhaaF06
import Derived.Test.YtcbiiijnaeibhaaF10
import Derived.Test.YtcbiiijnaeibhaaF12
set_option linter.unusedVariables false
set_option linter.unusedSimpArgs false
set_option maxHeartbeats 4000000
set_option maxRecDepth 20000
namespace Go.Proofs.Ytcbiiijnaeibhaa
open Go.Abs
/- martensite/martensitelaw03.HeatShortest -/
def b10_2 (a0_0 : Int) (a0_1 : Int) (a0_2 : List (Int × Int)) (a0_3 : List ((List (Int × Int)))) (a1 : List (Int)) (v6 : Int × Int) (v10 : (List (Int)) × Int × Int × Int × Int) : (Int × (List (Int))) → Ctl (Int × (List (Int))) (Bool) := fun s2 =>
  if (decide (s2.1 < (s2.2.length : Int))) = true then
   if 0 ≤ s2.1 ∧ s2.1 < (s2.2.length : Int) then
    if 0 ≤ s2.1 ∧ s2.1 < (s2.2.length : Int) then
     .next (IntKind.i64.wrap (s2.1 + 1), s2.2.set s2.1.toNat (if IntKind.i64.wrap ((s2.2.getD s2.1.toNat default) + 1) < 10000 then IntKind.i64.wrap ((s2.2.getD s2.1.toNat default) + 1) else 10000))
     else .out none
    else .out none
   else .out ((r18 a0_0 a0_1 a0_2 a0_3).bind fun v13 =>
    (r19 a1).bind fun v14 =>
     (r17 v13.1 v13.2.1 v13.2.2.1 v13.2.2.2 v14 s2.2 v10.2.1 v10.2.2.1 v10.2.2.2.1 v10.2.2.2.2).bind fun v15 =>
      some (((v15.2 == 0) && (decide (v15.1 ≤ v6.1))) || (v15.2 == 22)))
def b10_3 (a0_0 : Int) (a0_1 : Int) (a0_2 : List (Int × Int)) (a0_3 : List ((List (Int × Int)))) (a1 : List (Int)) (v6 : Int × Int) (v21 : (List (Int)) × Int × Int × Int × Int) : (Int × (List (Int))) → Ctl (Int × (List (Int))) (Bool) := fun s3 =>
  if (decide (s3.1 < (s3.2.length : Int))) = true then
   if 0 ≤ s3.1 ∧ s3.1 < (s3.2.length : Int) then
    if 0 ≤ s3.1 ∧ s3.1 < (s3.2.length : Int) then
     .next (IntKind.i64.wrap (s3.1 + 1), s3.2.set s3.1.toNat (if IntKind.i64.wrap ((s3.2.getD s3.1.toNat default) + 1) < 10000 then IntKind.i64.wrap ((s3.2.getD s3.1.toNat default) + 1) else 10000))
     else .out none
    else .out none
   else .out ((r18 a0_0 a0_1 a0_2 a0_3).bind fun v24 =>
    (r19 a1).bind fun v25 =>
     (r17 v24.1 v24.2.1 v24.2.2.1 v24.2.2.2 v25 s3.2 v21.2.1 v21.2.2.1 v21.2.2.2.1 v21.2.2.2.2).bind fun v26 =>
      some (((v26.2 == 0) && (decide (v26.1 ≤ v6.1))) || (v26.2 == 22)))
def b10_1 (a0_0 : Int) (a0_1 : Int) (a0_2 : List (Int × Int)) (a0_3 : List ((List (Int × Int)))) (a1 : List (Int)) (a2_0 : List (Int)) (a2_1 : Int) (a2_2 : Int) (a2_3 : Int) (a2_4 : Int) (v6 : Int × Int) : (Int × (List (Int))) → Ctl (Int × (List (Int))) (Bool) := fun s1 =>
  if (decide (s1.1 ≤ a2_4)) = true then
   bindC (r18 a0_0 a0_1 a0_2 a0_3) fun v7 =>
    bindC (r19 s1.2) fun v8 =>
     bindC (r77 v7.1 v7.2.1 v7.2.2.1 v7.2.2.2 v8 a2_2) fun v9 =>
      if (v9.2 != 0) = true then
       .out (some false)
       else if (decide (v9.1 ≥ a2_3)) = true then
        if ((v6.2 != 0) || (v6.1 != s1.1)) = true then
         .out (some false)
         else .out ((r20 a2_0 a2_1 a2_2 a2_3 a2_4).bind fun v10 =>
          iterC (b10_2 a0_0 a0_1 a0_2 a0_3 a1 v6 v10) 1000000000 (0, v10.1))
        else if (s1.1 == a2_4) = true then
         .out (some (v6.2 == 12))
         else bindC (r65 a2_0 a2_1) fun v16 =>
          bindC (r64 v7.1 v7.2.1 v7.2.2.1 v7.2.2.2 s1.2 v16.1 v16.2) fun v17 =>
           if (v17.2 == 22) = true then
            .out (some (v6.2 == 22))
            else if (!(v17.2 != 0)) = true → (r16 v17.1).isSome = true then
             if (!((v17.2 != 0) || (!((r16 v17.1).getD default)))) = true → (r21 a0_0 a0_1 a0_2 a0_3 v17.1).isSome = true then
              if (((v17.2 != 0) || (!((r16 v17.1).getD default))) || (((r21 a0_0 a0_1 a0_2 a0_3 v17.1).getD default) != 0)) = true then
               .out (some false)
               else bindC (r19 v17.1) fun v18 =>
                .next (IntKind.i64.wrap (s1.1 + 1), v18)
              else .out none
             else .out none
   else .out ((r20 a2_0 a2_1 a2_2 a2_3 a2_4).bind fun v21 =>
    iterC (b10_3 a0_0 a0_1 a0_2 a0_3 a1 v6 v21) 1000000000 (0, v21.1))
def r10 (a0_0 : Int) (a0_1 : Int) (a0_2 : List (Int × Int)) (a0_3 : List ((List (Int × Int)))) (a1 : List (Int)) (a2_0 : List (Int)) (a2_1 : Int) (a2_2 : Int) (a2_3 : Int) (a2_4 : Int) : Option (Bool) :=
  (r14).bind fun v1 =>
   if (!v1) = true then
    some false
    else (r15 a0_0 a0_1 a0_2 a0_3).bind fun v2 =>
     if (!(!v2)) = true → (r16 a1).isSome = true then
      if (!((!v2) || (!((r16 a1).getD default)))) = true → (r16 a2_0).isSome = true then
       if (!(((!v2) || (!((r16 a1).getD default))) || (!((r16 a2_0).getD default)))) = true → (r21 a0_0 a0_1 a0_2 a0_3 a1).isSome = true then
        if (!((((!v2) || (!((r16 a1).getD default))) || (!((r16 a2_0).getD default))) || (((r21 a0_0 a0_1 a0_2 a0_3 a1).getD default) != 0))) = true → (r22 a0_0 a0_1 a0_2 a0_3 a2_0 a2_1 a2_2 a2_3 a2_4).isSome = true then
         if ((((((!v2) || (!((r16 a1).getD default))) || (!((r16 a2_0).getD default))) || (((r21 a0_0 a0_1 a0_2 a0_3 a1).getD default) != 0)) || (((r22 a0_0 a0_1 a0_2 a0_3 a2_0 a2_1 a2_2 a2_3 a2_4).getD default) != 0)) || (decide (a2_4 > 40))) = true then
          some true
          else (r18 a0_0 a0_1 a0_2 a0_3).bind fun v3 =>
           (r19 a1).bind fun v4 =>
            (r20 a2_0 a2_1 a2_2 a2_3 a2_4).bind fun v5 =>
             (r17 v3.1 v3.2.1 v3.2.2.1 v3.2.2.2 v4 v5.1 v5.2.1 v5.2.2.1 v5.2.2.2.1 v5.2.2.2.2).bind fun v6 =>
              if (!((((v6.2 != 0) && (v6.2 != 12)) && (v6.2 != 22)) || ((v6.2 != 0) && (v6.1 != 0)))) = true → (r59 v6.1 0 a2_4).isSome = true then
               if (((((v6.2 != 0) && (v6.2 != 12)) && (v6.2 != 22)) || ((v6.2 != 0) && (v6.1 != 0))) || (!((r59 v6.1 0 a2_4).getD default))) = true then
                some false
                else iterC (b10_1 a0_0 a0_1 a0_2 a0_3 a1 a2_0 a2_1 a2_2 a2_3 a2_4 v6) 1000000000 (0, v4)
               else none
         else none
        else none
       else none
      else none
def T10 : TSpec (Int × Int × (List (Int × Int)) × (List ((List (Int × Int)))) × (List (Int)) × (List (Int)) × Int × Int × Int × Int) where
  enc x := [.agg [.int .i64 x.1, .int .i64 x.2.1, encF 2 d_II x.2.2.1, encF 1 d_LIIE x.2.2.2.1], .c (encF 1 d_I x.2.2.2.2.1), .agg [encF 1 d_I x.2.2.2.2.2.1, .int .i64 x.2.2.2.2.2.2.1, .int .i64 x.2.2.2.2.2.2.2.1, .int .i64 x.2.2.2.2.2.2.2.2.1, .int .i64 x.2.2.2.2.2.2.2.2.2]]
  dec a := (dInt (aCell a 0 0), dInt (aCell a 0 1), decF g_II (aCell a 0 2), decF g_LIIE (aCell a 0 3), decF g_I (aCell a 1 0), decF g_I (aCell a 2 0), dInt (aCell a 2 1), dInt (aCell a 2 2), dInt (aCell a 2 3), dInt (aCell a 2 4))
  pre x := (r10 x.1 x.2.1 x.2.2.1 x.2.2.2.1 x.2.2.2.2.1 x.2.2.2.2.2.1 x.2.2.2.2.2.2.1 x.2.2.2.2.2.2.2.1 x.2.2.2.2.2.2.2.2.1 x.2.2.2.2.2.2.2.2.2).isSome = true
  res x := [.c (.d (.bool ((r10 x.1 x.2.1 x.2.2.1 x.2.2.2.1 x.2.2.2.2.1 x.2.2.2.2.2.1 x.2.2.2.2.2.2.1 x.2.2.2.2.2.2.2.1 x.2.2.2.2.2.2.2.2.1 x.2.2.2.2.2.2.2.2.2).getD default)))]
  al := false
def tb10 : Fns := lk [(14, T14.sp), (15, T15.sp), (16, T16.sp), (17, T17.sp), (18, T18.sp), (19, T19.sp), (20, T20.sp), (21, T21.sp), (22, T22.sp), (59, T59.sp), (64, T64.sp), (65, T65.sp), (77, T77.sp)]
theorem tb10_ok : FnsOk Try.prog tb10 := .cons f14 (.cons f15 (.cons f16 (.cons f17 (.cons f18 (.cons f19 (.cons f20 (.cons f21 (.cons f22 (.cons f59 (.cons f64 (.cons f65 (.cons f77 (FnsOk.nil)))))))))))))
theorem tb10_14 : tb10 14 = some T14.sp := rfl
theorem tb10_15 : tb10 15 = some T15.sp := rfl
theorem tb10_16 : tb10 16 = some T16.sp := rfl
theorem tb10_17 : tb10 17 = some T17.sp := rfl
theorem tb10_18 : tb10 18 = some T18.sp := rfl
theorem tb10_19 : tb10 19 = some T19.sp := rfl
theorem tb10_20 : tb10 20 = some T20.sp := rfl
theorem tb10_21 : tb10 21 = some T21.sp := rfl
theorem tb10_22 : tb10 22 = some T22.sp := rfl
theorem tb10_59 : tb10 59 = some T59.sp := rfl
theorem tb10_64 : tb10 64 = some T64.sp := rfl
theorem tb10_65 : tb10 65 = some T65.sp := rfl
theorem tb10_77 : tb10 77 = some T77.sp := rfl
theorem v10 : Valid Try.prog 10 T10.sp := by
  refine valid_t (fn := Try.f10) (n := 197) ty_ok tb10_ok Try.func10 rfl Try.ntmps10 ?_
  rintro ⟨a0_0, a0_1, a0_2, a0_3, a1, a2_0, a2_1, a2_2, a2_3, a2_4⟩ hx
  obtain ⟨r, hr⟩ := Option.isSome_iff_exists.1 (show (r10 a0_0 a0_1 a0_2 a0_3 a1 a2_0 a2_1 a2_2 a2_3 a2_4).isSome = true from hx)
  have hres : T10.res (a0_0, a0_1, a0_2, a0_3, a1, a2_0, a2_1, a2_2, a2_3, a2_4) = [.c (.d (.bool r))] := by simp only [T10, hr, Option.getD_some]
  refine ⟨Nat.le_of_ble_eq_true rfl, fun stop S => ?_⟩
  rw [hres] at S
  unfold r10 at hr
  refine S.goB [] 1000 ?_
  simp (maxSteps := 10000000) only [go_sem, tb10_14, T14, tb10_15, T15, tb10_16, T16, tb10_17, T17, tb10_18, T18, tb10_19, T19, tb10_20, T20, tb10_21, T21, tb10_22, T22, tb10_59, T59, tb10_64, T64, tb10_65, T65, tb10_77, T77, T10, Option.map_some, Int.reduceToNat, Nat.reduceEqDiff, Nat.reduceLT, Nat.reduceAdd, Nat.reduceMul, Nat.reduceSub, Nat.reduceLeDiff, reduceIte, reduceCtorEq, Try.results10]
  obtain ⟨v1, hv1, hr⟩ := of_bind0 hr
  try simp only [hv1, Option.getD_some, Option.isSome_some, true_and, and_assoc]
  repeat (refine And.intro ?_ ?_; focus (first | assumption | decide +kernel | (show _ ≠ _; omega) | ((fail_if_success intro _); omega) | (show Eqv _ _; (simp (maxDischargeDepth := 8) [go_sem]))))
  refine ⟨fun hc => ?_, fun hc => ?_⟩
  · rw [if_pos (by first | exact hc | (rw [hc]; rfl) | simpa using hc | (simp at hc ⊢; omega) | simp_all)] at hr
    repeat (refine And.intro ?_ ?_; focus (first | assumption | decide +kernel | (show _ ≠ _; omega) | ((fail_if_success intro _); omega) | (show Eqv _ _; (simp (maxDischargeDepth := 8) [go_sem]))))
    obtain rfl := Option.some.inj hr
    (simp (maxDischargeDepth := 8) [go_sem])
  · rw [if_neg (by first | exact hc | (rw [hc]; rfl) | simpa using hc | (simp at hc ⊢; omega) | simp_all)] at hr
    obtain ⟨v2, hv2, hr⟩ := of_bind0 hr
    obtain ⟨hg28, hr⟩ := of_guard0 hr
    obtain ⟨hg29, hr⟩ := of_guard0 hr
    obtain ⟨hg30, hr⟩ := of_guard0 hr
    obtain ⟨hg31, hr⟩ := of_guard0 hr
    try simp only [hv2, Option.getD_some, Option.isSome_some, true_and, and_assoc]
    repeat (refine And.intro ?_ ?_; focus (first | assumption | decide +kernel | (show _ ≠ _; omega) | ((fail_if_success intro _); omega) | (show Eqv _ _; (simp (maxDischargeDepth := 8) [go_sem])) | (intro hq; first | exact hg28 (by first | exact hq | (rw [hq]; rfl) | simpa using hq) | (have h9 := hg28 (by first | exact hq | (rw [hq]; rfl) | simpa using hq); first | omega | (simpa using h9)) | exact hg29 (by first | exact hq | (rw [hq]; rfl) | simpa using hq) | (have h9 := hg29 (by first | exact hq | (rw [hq]; rfl) | simpa using hq); first | omega | (simpa using h9)) | exact hg30 (by first | exact hq | (rw [hq]; rfl) | simpa using hq) | (have h9 := hg30 (by first | exact hq | (rw [hq]; rfl) | simpa using hq); first | omega | (simpa using h9)) | exact hg31 (by first | exact hq | (rw [hq]; rfl) | simpa using hq) | (have h9 := hg31 (by first | exact hq | (rw [hq]; rfl) | simpa using hq); first | omega | (simpa using h9)) | exact hq.1 | exact hq) | (intro hq; exact ⟨hq, fun h2 => by rw [hq]; simp [h2]⟩) | (simp +contextual; done)))
    refine ⟨fun hc => ?_, fun hc => ?_⟩
    · rw [if_pos (by first | exact hc | (rw [hc]; rfl) | simpa using hc | (simp at hc ⊢; omega) | simp_all)] at hr
      repeat (refine And.intro ?_ ?_; focus (first | assumption | decide +kernel | (show _ ≠ _; omega) | ((fail_if_success intro _); omega) | (show Eqv _ _; (simp (maxDischargeDepth := 8) [go_sem]))))
      obtain rfl := Option.some.inj hr
      (simp (maxDischargeDepth := 8) [go_sem])
    · rw [if_neg (by first | exact hc | (rw [hc]; rfl) | simpa using hc | (simp at hc ⊢; omega) | simp_all)] at hr
      obtain ⟨v3, hv3, hr⟩ := of_bind0 hr
      obtain ⟨v4, hv4, hr⟩ := of_bind0 hr
      obtain ⟨v5, hv5, hr⟩ := of_bind0 hr
      obtain ⟨v6, hv6, hr⟩ := of_bind0 hr
      obtain ⟨hg27, hr⟩ := of_guard0 hr
      try simp only [hv3, hv4, hv5, hv6, Option.getD_some, Option.isSome_some, true_and, and_assoc]
      repeat (refine And.intro ?_ ?_; focus (first | assumption | decide +kernel | (show _ ≠ _; omega) | ((fail_if_success intro _); omega) | (show Eqv _ _; (simp (maxDischargeDepth := 8) [go_sem])) | (intro hq; first | exact hg27 (by first | exact hq | (rw [hq]; rfl) | simpa using hq) | (have h9 := hg27 (by first | exact hq | (rw [hq]; rfl) | simpa using hq); first | omega | (simpa using h9)) | exact hq.1 | exact hq) | (intro hq; exact ⟨hq, fun h2 => by rw [hq]; simp [h2]⟩) | (simp +contextual; done)))
      refine ⟨fun hc => ?_, fun hc => ?_⟩
      · rw [if_pos (by first | exact hc | (rw [hc]; rfl) | simpa using hc | (simp at hc ⊢; omega) | simp_all)] at hr
        repeat (refine And.intro ?_ ?_; focus (first | assumption | decide +kernel | (show _ ≠ _; omega) | ((fail_if_success intro _); omega) | (show Eqv _ _; (simp (maxDischargeDepth := 8) [go_sem]))))
        obtain rfl := Option.some.inj hr
        (simp (maxDischargeDepth := 8) [go_sem])
      · rw [if_neg (by first | exact hc | (rw [hc]; rfl) | simpa using hc | (simp at hc ⊢; omega) | simp_all)] at hr
        repeat (refine And.intro ?_ ?_; focus (first | assumption | decide +kernel | (show _ ≠ _; omega) | ((fail_if_success intro _); omega) | (show Eqv _ _; (simp (maxDischargeDepth := 8) [go_sem]))))
        refine S.sees [1, 3, 5, 7, 8, 9, 10] [(3, 3), (5, 5)] [(89, 89)] ?_ (Stop.iter S (fun s1 => ⟨[(1, .c (.d (encF 1 d_I a1))), (3, .c (.ref 3 0)), (5, .c (.ref 5 0)), (7, .c (.d (.int .i64 v6.1))), (8, .c (.d (.int .i64 v6.2))), (9, .c (.own 89)), (10, .c (.d (.int .i64 s1.1)))], [(3, [.d (.int .i64 a0_0), .d (.int .i64 a0_1), .d (encF 2 d_II a0_2), .d (encF 1 d_LIIE a0_3)]), (5, [.d (encF 1 d_I a2_0), .d (.int .i64 a2_1), .d (.int .i64 a2_2), .d (.int .i64 a2_3), .d (.int .i64 a2_4)])], [(89, .owned (encF 1 d_I s1.2))]⟩) (b10_1 a0_0 a0_1 a0_2 a0_3 a1 a2_0 a2_1 a2_2 a2_3 a2_4 v6) (fun q => q = r) hr rfl ?_)
        · (simp (maxDischargeDepth := 8) [go_sem])
        · intro s1 hr
          unfold b10_1 at hr
          refine S.goB [] 1000 ?_
          simp (maxSteps := 10000000) only [go_sem, tb10_14, T14, tb10_15, T15, tb10_16, T16, tb10_17, T17, tb10_18, T18, tb10_19, T19, tb10_20, T20, tb10_21, T21, tb10_22, T22, tb10_59, T59, tb10_64, T64, tb10_65, T65, tb10_77, T77, T10, Option.map_some, Int.reduceToNat, Nat.reduceEqDiff, Nat.reduceLT, Nat.reduceAdd, Nat.reduceMul, Nat.reduceSub, Nat.reduceLeDiff, reduceIte, reduceCtorEq, Try.results10]
          repeat (refine And.intro ?_ ?_; focus (first | assumption | decide +kernel | (show _ ≠ _; omega) | ((fail_if_success intro _); omega) | (show Eqv _ _; (simp (maxDischargeDepth := 8) [go_sem]))))
          refine ⟨fun hc => ?_, fun hc => ?_⟩
          · rw [if_pos (by first | exact hc | (rw [hc]; rfl) | simpa using hc | (simp at hc ⊢; omega) | simp_all)] at hr
            obtain ⟨v7, hv7, hr⟩ := of_bind1 hr
            obtain ⟨v8, hv8, hr⟩ := of_bind1 hr
            obtain ⟨v9, hv9, hr⟩ := of_bind1 hr
            try simp only [hv7, hv8, hv9, Option.getD_some, Option.isSome_some, true_and, and_assoc]
            repeat (refine And.intro ?_ ?_; focus (first | assumption | decide +kernel | (show _ ≠ _; omega) | ((fail_if_success intro _); omega) | (show Eqv _ _; (simp (maxDischargeDepth := 8) [go_sem]))))
            refine ⟨fun hc => ?_, fun hc => ?_⟩
            · rw [if_pos (by first | exact hc | (rw [hc]; rfl) | simpa using hc | (simp at hc ⊢; omega) | simp_all)] at hr
              repeat (refine And.intro ?_ ?_; focus (first | assumption | decide +kernel | (show _ ≠ _; omega) | ((fail_if_success intro _); omega) | (show Eqv _ _; (simp (maxDischargeDepth := 8) [go_sem]))))
              have hr := of_out0 hr
              obtain rfl := Option.some.inj hr
              (simp (maxDischargeDepth := 8) [go_sem])
            · rw [if_neg (by first | exact hc | (rw [hc]; rfl) | simpa using hc | (simp at hc ⊢; omega) | simp_all)] at hr
              repeat (refine And.intro ?_ ?_; focus (first | assumption | decide +kernel | (show _ ≠ _; omega) | ((fail_if_success intro _); omega) | (show Eqv _ _; (simp (maxDischargeDepth := 8) [go_sem]))))
              refine ⟨fun hc => ?_, fun hc => ?_⟩
              · rw [if_pos (by first | exact hc | (rw [hc]; rfl) | simpa using hc | (simp at hc ⊢; omega) | simp_all)] at hr
                repeat (refine And.intro ?_ ?_; focus (first | assumption | decide +kernel | (show _ ≠ _; omega) | ((fail_if_success intro _); omega) | (show Eqv _ _; (simp (maxDischargeDepth := 8) [go_sem])) | (intro hq; first | exact hq.1 | exact hq) | (intro hq; exact ⟨hq, fun h2 => by rw [hq]; simp [h2]⟩) | (simp +contextual; done)))
                refine ⟨fun hc => ?_, fun hc => ?_⟩
                · rw [if_pos (by first | exact hc | (rw [hc]; rfl) | simpa using hc | (simp at hc ⊢; omega) | simp_all)] at hr
                  repeat (refine And.intro ?_ ?_; focus (first | assumption | decide +kernel | (show _ ≠ _; omega) | ((fail_if_success intro _); omega) | (show Eqv _ _; (simp (maxDischargeDepth := 8) [go_sem]))))
                  have hr := of_out0 hr
                  obtain rfl := Option.some.inj hr
                  (simp (maxDischargeDepth := 8) [go_sem])
                · rw [if_neg (by first | exact hc | (rw [hc]; rfl) | simpa using hc | (simp at hc ⊢; omega) | simp_all)] at hr
                  repeat (refine And.intro ?_ ?_; focus (first | assumption | decide +kernel | (show _ ≠ _; omega) | ((fail_if_success intro _); omega) | (show Eqv _ _; (simp (maxDischargeDepth := 8) [go_sem]))))
                  have hr := of_out0 hr
                  obtain ⟨v10, hv10, hr⟩ := of_bind0 hr
                  try simp only [hv10, Option.getD_some, Option.isSome_some, true_and, and_assoc]
                  repeat (refine And.intro ?_ ?_; focus (first | assumption | decide +kernel | (show _ ≠ _; omega) | ((fail_if_success intro _); omega) | (show Eqv _ _; (simp (maxDischargeDepth := 8) [go_sem]))))
                  refine S.sees [1, 3, 7, 15, 16] [(3, 3), (15, 15)] [(155, 155)] ?_ (Stop.iter S (fun s2 => ⟨[(1, .c (.d (encF 1 d_I a1))), (3, .c (.ref 3 0)), (7, .c (.d (.int .i64 v6.1))), (15, .c (.ref 15 0)), (16, .c (.d (.int .i64 s2.1)))], [(3, [.d (.int .i64 a0_0), .d (.int .i64 a0_1), .d (encF 2 d_II a0_2), .d (encF 1 d_LIIE a0_3)]), (15, [.own 155, .d (.int .i64 v10.2.1), .d (.int .i64 v10.2.2.1), .d (.int .i64 v10.2.2.2.1), .d (.int .i64 v10.2.2.2.2)])], [(155, .owned (encF 1 d_I s2.2))]⟩) (b10_2 a0_0 a0_1 a0_2 a0_3 a1 v6 v10) (fun q => q = r) hr rfl ?_)
                  · (simp (maxDischargeDepth := 8) [go_sem])
                  · intro s2 hr
                    unfold b10_2 at hr
                    refine S.goB [] 1000 ?_
                    simp (maxSteps := 10000000) only [go_sem, tb10_14, T14, tb10_15, T15, tb10_16, T16, tb10_17, T17, tb10_18, T18, tb10_19, T19, tb10_20, T20, tb10_21, T21, tb10_22, T22, tb10_59, T59, tb10_64, T64, tb10_65, T65, tb10_77, T77, T10, Option.map_some, Int.reduceToNat, Nat.reduceEqDiff, Nat.reduceLT, Nat.reduceAdd, Nat.reduceMul, Nat.reduceSub, Nat.reduceLeDiff, reduceIte, reduceCtorEq, Try.results10]
                    repeat (refine And.intro ?_ ?_; focus (first | assumption | decide +kernel | (show _ ≠ _; omega) | ((fail_if_success intro _); omega) | (show Eqv _ _; (simp (maxDischargeDepth := 8) [go_sem]))))
                    refine ⟨fun hc => ?_, fun hc => ?_⟩
                    · rw [if_pos (by first | exact hc | (rw [hc]; rfl) | simpa using hc | (simp at hc ⊢; omega) | simp_all)] at hr
                      obtain ⟨hg11, hr⟩ := of_guard1 hr
                      obtain ⟨hg12, hr⟩ := of_guard1 hr
                      repeat (refine And.intro ?_ ?_; focus (first | assumption | decide +kernel | (show _ ≠ _; omega) | ((fail_if_success intro _); omega) | (show Eqv _ _; (simp (maxDischargeDepth := 8) [go_sem]))))
                      refine S.sees [1, 3, 7, 15, 16] [(3, 3), (15, 15)] [(155, 155)] ?_ hr
                      (simp (maxDischargeDepth := 8) [go_sem])
                    · rw [if_neg (by first | exact hc | (rw [hc]; rfl) | simpa using hc | (simp at hc ⊢; omega) | simp_all)] at hr
                      repeat (refine And.intro ?_ ?_; focus (first | assumption | decide +kernel | (show _ ≠ _; omega) | ((fail_if_success intro _); omega) | (show Eqv _ _; (simp (maxDischargeDepth := 8) [go_sem]))))
                      have hr := of_out0 hr
                      obtain ⟨v13, hv13, hr⟩ := of_bind0 hr
                      obtain ⟨v14, hv14, hr⟩ := of_bind0 hr
                      obtain ⟨v15, hv15, hr⟩ := of_bind0 hr
                      try simp only [hv13, hv14, hv15, Option.getD_some, Option.isSome_some, true_and, and_assoc]
                      repeat (refine And.intro ?_ ?_; focus (first | assumption | decide +kernel | (show _ ≠ _; omega) | ((fail_if_success intro _); omega) | (show Eqv _ _; (simp (maxDischargeDepth := 8) [go_sem])) | (intro hq; first | exact hq.1 | exact hq) | (intro hq; exact ⟨hq, fun h2 => by rw [hq]; simp [h2]⟩) | (simp +contextual; done)))
                      obtain rfl := Option.some.inj hr
                      (simp (maxDischargeDepth := 8) [go_sem])
              · rw [if_neg (by first | exact hc | (rw [hc]; rfl) | simpa using hc | (simp at hc ⊢; omega) | simp_all)] at hr
                repeat (refine And.intro ?_ ?_; focus (first | assumption | decide +kernel | (show _ ≠ _; omega) | ((fail_if_success intro _); omega) | (show Eqv _ _; (simp (maxDischargeDepth := 8) [go_sem]))))
                refine ⟨fun hc => ?_, fun hc => ?_⟩
                · rw [if_pos (by first | exact hc | (rw [hc]; rfl) | simpa using hc | (simp at hc ⊢; omega) | simp_all)] at hr
                  repeat (refine And.intro ?_ ?_; focus (first | assumption | decide +kernel | (show _ ≠ _; omega) | ((fail_if_success intro _); omega) | (show Eqv _ _; (simp (maxDischargeDepth := 8) [go_sem]))))
                  have hr := of_out0 hr
                  obtain rfl := Option.some.inj hr
                  (simp (maxDischargeDepth := 8) [go_sem])
                · rw [if_neg (by first | exact hc | (rw [hc]; rfl) | simpa using hc | (simp at hc ⊢; omega) | simp_all)] at hr
                  obtain ⟨v16, hv16, hr⟩ := of_bind1 hr
                  obtain ⟨v17, hv17, hr⟩ := of_bind1 hr
                  try simp only [hv16, hv17, Option.getD_some, Option.isSome_some, true_and, and_assoc]
                  repeat (refine And.intro ?_ ?_; focus (first | assumption | decide +kernel | (show _ ≠ _; omega) | ((fail_if_success intro _); omega) | (show Eqv _ _; (simp (maxDischargeDepth := 8) [go_sem]))))
                  refine ⟨fun hc => ?_, fun hc => ?_⟩
                  · rw [if_pos (by first | exact hc | (rw [hc]; rfl) | simpa using hc | (simp at hc ⊢; omega) | simp_all)] at hr
                    repeat (refine And.intro ?_ ?_; focus (first | assumption | decide +kernel | (show _ ≠ _; omega) | ((fail_if_success intro _); omega) | (show Eqv _ _; (simp (maxDischargeDepth := 8) [go_sem]))))
                    have hr := of_out0 hr
                    obtain rfl := Option.some.inj hr
                    (simp (maxDischargeDepth := 8) [go_sem])
                  · rw [if_neg (by first | exact hc | (rw [hc]; rfl) | simpa using hc | (simp at hc ⊢; omega) | simp_all)] at hr
                    obtain ⟨hg19, hr⟩ := of_guard1 hr
                    obtain ⟨hg20, hr⟩ := of_guard1 hr
                    repeat (refine And.intro ?_ ?_; focus (first | assumption | decide +kernel | (show _ ≠ _; omega) | ((fail_if_success intro _); omega) | (show Eqv _ _; (simp (maxDischargeDepth := 8) [go_sem])) | (intro hq; first | exact hg19 (by first | exact hq | (rw [hq]; rfl) | simpa using hq) | (have h9 := hg19 (by first | exact hq | (rw [hq]; rfl) | simpa using hq); first | omega | (simpa using h9)) | exact hg20 (by first | exact hq | (rw [hq]; rfl) | simpa using hq) | (have h9 := hg20 (by first | exact hq | (rw [hq]; rfl) | simpa using hq); first | omega | (simpa using h9)) | exact hq.1 | exact hq) | (intro hq; exact ⟨hq, fun h2 => by rw [hq]; simp [h2]⟩) | (simp +contextual; done)))
                    refine ⟨fun hc => ?_, fun hc => ?_⟩
                    · rw [if_pos (by first | exact hc | (rw [hc]; rfl) | simpa using hc | (simp at hc ⊢; omega) | simp_all)] at hr
                      repeat (refine And.intro ?_ ?_; focus (first | assumption | decide +kernel | (show _ ≠ _; omega) | ((fail_if_success intro _); omega) | (show Eqv _ _; (simp (maxDischargeDepth := 8) [go_sem]))))
                      have hr := of_out0 hr
                      obtain rfl := Option.some.inj hr
                      (simp (maxDischargeDepth := 8) [go_sem])
                    · rw [if_neg (by first | exact hc | (rw [hc]; rfl) | simpa using hc | (simp at hc ⊢; omega) | simp_all)] at hr
                      obtain ⟨v18, hv18, hr⟩ := of_bind1 hr
                      try simp only [hv18, Option.getD_some, Option.isSome_some, true_and, and_assoc]
                      repeat (refine And.intro ?_ ?_; focus (first | assumption | decide +kernel | (show _ ≠ _; omega) | ((fail_if_success intro _); omega) | (show Eqv _ _; (simp (maxDischargeDepth := 8) [go_sem]))))
                      refine S.sees [1, 3, 5, 7, 8, 9, 10] [(3, 3), (5, 5)] [(153, 89)] ?_ hr
                      (simp (maxDischargeDepth := 8) [go_sem])
          · rw [if_neg (by first | exact hc | (rw [hc]; rfl) | simpa using hc | (simp at hc ⊢; omega) | simp_all)] at hr
            repeat (refine And.intro ?_ ?_; focus (first | assumption | decide +kernel | (show _ ≠ _; omega) | ((fail_if_success intro _); omega) | (show Eqv _ _; (simp (maxDischargeDepth := 8) [go_sem]))))
            have hr := of_out0 hr
            obtain ⟨v21, hv21, hr⟩ := of_bind0 hr
            try simp only [hv21, Option.getD_some, Option.isSome_some, true_and, and_assoc]
            repeat (refine And.intro ?_ ?_; focus (first | assumption | decide +kernel | (show _ ≠ _; omega) | ((fail_if_success intro _); omega) | (show Eqv _ _; (simp (maxDischargeDepth := 8) [go_sem]))))
            refine S.sees [1, 3, 7, 15, 16] [(3, 3), (15, 15)] [(155, 155)] ?_ (Stop.iter S (fun s3 => ⟨[(1, .c (.d (encF 1 d_I a1))), (3, .c (.ref 3 0)), (7, .c (.d (.int .i64 v6.1))), (15, .c (.ref 15 0)), (16, .c (.d (.int .i64 s3.1)))], [(3, [.d (.int .i64 a0_0), .d (.int .i64 a0_1), .d (encF 2 d_II a0_2), .d (encF 1 d_LIIE a0_3)]), (15, [.own 155, .d (.int .i64 v21.2.1), .d (.int .i64 v21.2.2.1), .d (.int .i64 v21.2.2.2.1), .d (.int .i64 v21.2.2.2.2)])], [(155, .owned (encF 1 d_I s3.2))]⟩) (b10_3 a0_0 a0_1 a0_2 a0_3 a1 v6 v21) (fun q => q = r) hr rfl ?_)
            · (simp (maxDischargeDepth := 8) [go_sem])
            · intro s3 hr
              unfold b10_3 at hr
              refine S.goB [] 1000 ?_
              simp (maxSteps := 10000000) only [go_sem, tb10_14, T14, tb10_15, T15, tb10_16, T16, tb10_17, T17, tb10_18, T18, tb10_19, T19, tb10_20, T20, tb10_21, T21, tb10_22, T22, tb10_59, T59, tb10_64, T64, tb10_65, T65, tb10_77, T77, T10, Option.map_some, Int.reduceToNat, Nat.reduceEqDiff, Nat.reduceLT, Nat.reduceAdd, Nat.reduceMul, Nat.reduceSub, Nat.reduceLeDiff, reduceIte, reduceCtorEq, Try.results10]
              repeat (refine And.intro ?_ ?_; focus (first | assumption | decide +kernel | (show _ ≠ _; omega) | ((fail_if_success intro _); omega) | (show Eqv _ _; (simp (maxDischargeDepth := 8) [go_sem]))))
              refine ⟨fun hc => ?_, fun hc => ?_⟩
              · rw [if_pos (by first | exact hc | (rw [hc]; rfl) | simpa using hc | (simp at hc ⊢; omega) | simp_all)] at hr
                obtain ⟨hg22, hr⟩ := of_guard1 hr
                obtain ⟨hg23, hr⟩ := of_guard1 hr
                repeat (refine And.intro ?_ ?_; focus (first | assumption | decide +kernel | (show _ ≠ _; omega) | ((fail_if_success intro _); omega) | (show Eqv _ _; (simp (maxDischargeDepth := 8) [go_sem]))))
                refine S.sees [1, 3, 7, 15, 16] [(3, 3), (15, 15)] [(155, 155)] ?_ hr
                (simp (maxDischargeDepth := 8) [go_sem])
              · rw [if_neg (by first | exact hc | (rw [hc]; rfl) | simpa using hc | (simp at hc ⊢; omega) | simp_all)] at hr
                repeat (refine And.intro ?_ ?_; focus (first | assumption | decide +kernel | (show _ ≠ _; omega) | ((fail_if_success intro _); omega) | (show Eqv _ _; (simp (maxDischargeDepth := 8) [go_sem]))))
                have hr := of_out0 hr
                obtain ⟨v24, hv24, hr⟩ := of_bind0 hr
                obtain ⟨v25, hv25, hr⟩ := of_bind0 hr
                obtain ⟨v26, hv26, hr⟩ := of_bind0 hr
                try simp only [hv24, hv25, hv26, Option.getD_some, Option.isSome_some, true_and, and_assoc]
                repeat (refine And.intro ?_ ?_; focus (first | assumption | decide +kernel | (show _ ≠ _; omega) | ((fail_if_success intro _); omega) | (show Eqv _ _; (simp (maxDischargeDepth := 8) [go_sem])) | (intro hq; first | exact hq.1 | exact hq) | (intro hq; exact ⟨hq, fun h2 => by rw [hq]; simp [h2]⟩) | (simp +contextual; done)))
                obtain rfl := Option.some.inj hr
                (simp (maxDischargeDepth := 8) [go_sem])
theorem f10 : FnFact Try.prog 10 T10.sp := ⟨⟨Try.f10, Try.func10, by decide, rfl⟩, v10⟩
end Go.Proofs.Ytcbiiijnaeibhaa

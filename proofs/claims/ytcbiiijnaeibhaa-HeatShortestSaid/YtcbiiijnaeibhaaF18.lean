/- Contracts of functions, written by wip/dec. -/
import Derived.Test.YtcbiiijnaeibhaaF00
import Derived.Test.YtcbiiijnaeibhaaF03
import Derived.Test.YtcbiiijnaeibhaaF05
import Derived.Test.YtcbiiijnaeibhaaF06
import Derived.Test.YtcbiiijnaeibhaaF10
import Derived.Test.YtcbiiijnaeibhaaF12
set_option linter.unusedVariables false
set_option linter.unusedSimpArgs false
set_option maxHeartbeats 4000000
set_option maxRecDepth 20000
namespace Go.Proofs.Ytcbiiijnaeibhaa
open Go.Abs
/- martensite/martensitelaw03.HeatOrdered -/
def b9_2 (v16 : (List (Int)) × Int) (v17 : (List (Int)) × Int) : (Int) → Ctl (Int) (Bool) := fun s2 =>
  if (decide (s2 < (v16.1.length : Int))) = true then
   if 0 ≤ s2 ∧ s2 < (v16.1.length : Int) then
    if 0 ≤ s2 ∧ s2 < (v17.1.length : Int) then
     if (decide ((v16.1.getD s2.toNat default) > (v17.1.getD s2.toNat default))) = true then
      .out (some false)
      else .next (IntKind.i64.wrap (s2 + 1))
     else .out none
    else .out none
   else .out (some true)
def b9_1 (a0_0 : Int) (a0_1 : Int) (a0_2 : List (Int × Int)) (a0_3 : List ((List (Int × Int)))) (a1_0 : List (Int)) (a1_1 : List (Int)) (a2_0 : List (Int)) (a2_1 : Int) (a2_3 : Int) : (Int × (List (Int)) × (List (Int))) → Ctl (Int × (List (Int)) × (List (Int))) (Bool) := fun s1 =>
  if (decide (s1.1 < (s1.2.1.length : Int))) = true then
   if 0 ≤ s1.1 ∧ s1.1 < (a1_1.length : Int) then
    bindC (r59 (a1_1.getD s1.1.toNat default) 0 1000000) fun v5 =>
     if (!v5) = true then
      .out (some true)
      else if 0 ≤ s1.1 ∧ s1.1 < (s1.2.1.length : Int) then
       if 0 ≤ s1.1 ∧ s1.1 < (a1_1.length : Int) then
        if 0 ≤ s1.1 ∧ s1.1 < (s1.2.2.length : Int) then
         if 0 ≤ s1.1 ∧ s1.1 < (a2_0.length : Int) then
          if 0 ≤ s1.1 ∧ s1.1 < (s1.2.1.length : Int) then
           if 0 ≤ s1.1 ∧ s1.1 < (s1.2.2.length : Int) then
            .next (IntKind.i64.wrap (s1.1 + 1), s1.2.1.set s1.1.toNat (if IntKind.i64.wrap ((s1.2.1.getD s1.1.toNat default) + (a1_1.getD s1.1.toNat default)) < (a0_2.getD (IntKind.i64.wrap ((a0_2.length : Int) - 1)).toNat default).1 then IntKind.i64.wrap ((s1.2.1.getD s1.1.toNat default) + (a1_1.getD s1.1.toNat default)) else (a0_2.getD (IntKind.i64.wrap ((a0_2.length : Int) - 1)).toNat default).1), s1.2.2.set s1.1.toNat (if (s1.2.2.getD s1.1.toNat default) < (a2_0.getD s1.1.toNat default) then (a2_0.getD s1.1.toNat default) else (s1.2.2.getD s1.1.toNat default)))
            else .out none
           else .out none
          else .out none
         else .out none
        else .out none
       else .out none
    else .out none
   else .out ((r18 a0_0 a0_1 a0_2 a0_3).bind fun v13 =>
    (r19 a1_0).bind fun v14 =>
     (r65 a2_0 a2_1).bind fun v15 =>
      (r64 v13.1 v13.2.1 v13.2.2.1 v13.2.2.2 v14 v15.1 v15.2).bind fun v16 =>
       (r64 v13.1 v13.2.1 v13.2.2.1 v13.2.2.2 s1.2.1 s1.2.2 a2_3).bind fun v17 =>
        if ((v16.2 != 0) || (v17.2 != 0)) = true then
         some (((v16.2 == 0) || (v16.2 == 22)) && ((v17.2 == 0) || (v17.2 == 22)))
         else if (((v16.1.length : Int) != a0_0) || ((v17.1.length : Int) != a0_0)) = true then
          some false
          else iterC (b9_2 v16 v17) 1000000000 0)
def r9 (a0_0 : Int) (a0_1 : Int) (a0_2 : List (Int × Int)) (a0_3 : List ((List (Int × Int)))) (a1_0 : List (Int)) (a1_1 : List (Int)) (a2_0 : List (Int)) (a2_1 : Int) (a2_2 : List (Int)) (a2_3 : Int) : Option (Bool) :=
  (r14).bind fun v1 =>
   if (!v1) = true then
    some false
    else (r15 a0_0 a0_1 a0_2 a0_3).bind fun v2 =>
     if (!(!v2)) = true → (r16 a1_0).isSome = true then
      if (!(((!v2) || (!((r16 a1_0).getD default))) || ((a1_1.length : Int) != (a1_0.length : Int)))) = true → (r16 a2_0).isSome = true then
       if (!((((!v2) || (!((r16 a1_0).getD default))) || ((a1_1.length : Int) != (a1_0.length : Int))) || (!((r16 a2_0).getD default)))) = true → (r16 a2_2).isSome = true then
        if (!(((((!v2) || (!((r16 a1_0).getD default))) || ((a1_1.length : Int) != (a1_0.length : Int))) || (!((r16 a2_0).getD default))) || (!((r16 a2_2).getD default)))) = true → (r21 a0_0 a0_1 a0_2 a0_3 a1_0).isSome = true then
         if (!((((((!v2) || (!((r16 a1_0).getD default))) || ((a1_1.length : Int) != (a1_0.length : Int))) || (!((r16 a2_0).getD default))) || (!((r16 a2_2).getD default))) || (((r21 a0_0 a0_1 a0_2 a0_3 a1_0).getD default) != 0))) = true → (r70 a0_0 a0_1 a0_2 a0_3 a2_0 a2_1).isSome = true then
          if (!(((((((!v2) || (!((r16 a1_0).getD default))) || ((a1_1.length : Int) != (a1_0.length : Int))) || (!((r16 a2_0).getD default))) || (!((r16 a2_2).getD default))) || (((r21 a0_0 a0_1 a0_2 a0_3 a1_0).getD default) != 0)) || (((r70 a0_0 a0_1 a0_2 a0_3 a2_0 a2_1).getD default) != 0))) = true → (r70 a0_0 a0_1 a0_2 a0_3 a2_2 a2_3).isSome = true then
           if (((((((((!v2) || (!((r16 a1_0).getD default))) || ((a1_1.length : Int) != (a1_0.length : Int))) || (!((r16 a2_0).getD default))) || (!((r16 a2_2).getD default))) || (((r21 a0_0 a0_1 a0_2 a0_3 a1_0).getD default) != 0)) || (((r70 a0_0 a0_1 a0_2 a0_3 a2_0 a2_1).getD default) != 0)) || (((r70 a0_0 a0_1 a0_2 a0_3 a2_2 a2_3).getD default) != 0)) || (decide (a2_3 > a2_1))) = true then
            some true
            else if 0 ≤ IntKind.i64.wrap ((a0_2.length : Int) - 1) ∧ IntKind.i64.wrap ((a0_2.length : Int) - 1) < (a0_2.length : Int) then
             (r19 a1_0).bind fun v3 =>
              (r19 a2_2).bind fun v4 =>
               iterC (b9_1 a0_0 a0_1 a0_2 a0_3 a1_0 a1_1 a2_0 a2_1 a2_3) 1000000000 (0, v3, v4)
             else none
           else none
          else none
         else none
        else none
       else none
      else none
def T9 : TSpec (Int × Int × (List (Int × Int)) × (List ((List (Int × Int)))) × (List (Int)) × (List (Int)) × (List (Int)) × Int × (List (Int)) × Int) where
  enc x := [.agg [.int .i64 x.1, .int .i64 x.2.1, encF 2 d_II x.2.2.1, encF 1 d_LIIE x.2.2.2.1], .agg [encF 1 d_I x.2.2.2.2.1, encF 1 d_I x.2.2.2.2.2.1], .agg [encF 1 d_I x.2.2.2.2.2.2.1, .int .i64 x.2.2.2.2.2.2.2.1, encF 1 d_I x.2.2.2.2.2.2.2.2.1, .int .i64 x.2.2.2.2.2.2.2.2.2]]
  dec a := (dInt (aCell a 0 0), dInt (aCell a 0 1), decF g_II (aCell a 0 2), decF g_LIIE (aCell a 0 3), decF g_I (aCell a 1 0), decF g_I (aCell a 1 1), decF g_I (aCell a 2 0), dInt (aCell a 2 1), decF g_I (aCell a 2 2), dInt (aCell a 2 3))
  pre x := (r9 x.1 x.2.1 x.2.2.1 x.2.2.2.1 x.2.2.2.2.1 x.2.2.2.2.2.1 x.2.2.2.2.2.2.1 x.2.2.2.2.2.2.2.1 x.2.2.2.2.2.2.2.2.1 x.2.2.2.2.2.2.2.2.2).isSome = true
  res x := [.c (.d (.bool ((r9 x.1 x.2.1 x.2.2.1 x.2.2.2.1 x.2.2.2.2.1 x.2.2.2.2.2.1 x.2.2.2.2.2.2.1 x.2.2.2.2.2.2.2.1 x.2.2.2.2.2.2.2.2.1 x.2.2.2.2.2.2.2.2.2).getD default)))]
  al := false
def tb9 : Fns := lk [(14, T14.sp), (15, T15.sp), (16, T16.sp), (18, T18.sp), (19, T19.sp), (21, T21.sp), (59, T59.sp), (64, T64.sp), (65, T65.sp), (70, T70.sp)]
theorem tb9_ok : FnsOk Try.prog tb9 := .cons f14 (.cons f15 (.cons f16 (.cons f18 (.cons f19 (.cons f21 (.cons f59 (.cons f64 (.cons f65 (.cons f70 (FnsOk.nil))))))))))
theorem tb9_14 : tb9 14 = some T14.sp := rfl
theorem tb9_15 : tb9 15 = some T15.sp := rfl
theorem tb9_16 : tb9 16 = some T16.sp := rfl
theorem tb9_18 : tb9 18 = some T18.sp := rfl
theorem tb9_19 : tb9 19 = some T19.sp := rfl
theorem tb9_21 : tb9 21 = some T21.sp := rfl
theorem tb9_59 : tb9 59 = some T59.sp := rfl
theorem tb9_64 : tb9 64 = some T64.sp := rfl
theorem tb9_65 : tb9 65 = some T65.sp := rfl
theorem tb9_70 : tb9 70 = some T70.sp := rfl
theorem v9 : Valid Try.prog 9 T9.sp := by
  refine valid_t (fn := Try.f9) (n := 209) ty_ok tb9_ok Try.func9 rfl Try.ntmps9 ?_
  rintro ⟨a0_0, a0_1, a0_2, a0_3, a1_0, a1_1, a2_0, a2_1, a2_2, a2_3⟩ hx
  obtain ⟨r, hr⟩ := Option.isSome_iff_exists.1 (show (r9 a0_0 a0_1 a0_2 a0_3 a1_0 a1_1 a2_0 a2_1 a2_2 a2_3).isSome = true from hx)
  have hres : T9.res (a0_0, a0_1, a0_2, a0_3, a1_0, a1_1, a2_0, a2_1, a2_2, a2_3) = [.c (.d (.bool r))] := by simp only [T9, hr, Option.getD_some]
  refine ⟨Nat.le_of_ble_eq_true rfl, fun stop S => ?_⟩
  rw [hres] at S
  unfold r9 at hr
  refine S.goB [] 1000 ?_
  simp (maxSteps := 10000000) only [go_sem, tb9_14, T14, tb9_15, T15, tb9_16, T16, tb9_18, T18, tb9_19, T19, tb9_21, T21, tb9_59, T59, tb9_64, T64, tb9_65, T65, tb9_70, T70, T9, Option.map_some, Int.reduceToNat, Nat.reduceEqDiff, Nat.reduceLT, Nat.reduceAdd, Nat.reduceMul, Nat.reduceSub, Nat.reduceLeDiff, reduceIte, reduceCtorEq, Try.results9]
  obtain ⟨v1, hv1, hr⟩ := of_bind0 hr
  try simp only [hv1, Option.getD_some, Option.isSome_some, true_and, and_assoc]
  repeat (refine And.intro ?_ ?_; focus (first | assumption | decide +kernel | (show _ ≠ _; omega) | ((fail_if_success intro _); omega) | (show Eqv _ _; (simp (maxDischargeDepth := 8) [go_sem]))))
  refine ⟨fun hc => ?_, fun hc => ?_⟩
  · rw [if_pos (by first | exact hc | (rw [hc]; rfl) | simpa using hc | (simp at hc ⊢; omega) | simp_all)] at hr
    repeat (refine And.intro ?_ ?_; focus (first | assumption | decide +kernel | (show _ ≠ _; omega) | ((fail_if_success intro _); omega) | (show Eqv _ _; (simp (maxDischargeDepth := 8) [go_sem]))))
    obtain rfl := Option.some.inj hr
    (simp (maxDischargeDepth := 8) [go_sem])
  · rw [if_neg (by first | exact hc | (rw [hc]; rfl) | simpa using hc | (simp at hc ⊢; omega) | simp_all)] at hr
    obtain ⟨v2, hv2, hr⟩ := of_bind0 hr
    obtain ⟨hg21, hr⟩ := of_guard0 hr
    obtain ⟨hg22, hr⟩ := of_guard0 hr
    obtain ⟨hg23, hr⟩ := of_guard0 hr
    obtain ⟨hg24, hr⟩ := of_guard0 hr
    obtain ⟨hg25, hr⟩ := of_guard0 hr
    obtain ⟨hg26, hr⟩ := of_guard0 hr
    try simp only [hv2, Option.getD_some, Option.isSome_some, true_and, and_assoc]
    repeat (refine And.intro ?_ ?_; focus (first | assumption | decide +kernel | (show _ ≠ _; omega) | ((fail_if_success intro _); omega) | (show Eqv _ _; (simp (maxDischargeDepth := 8) [go_sem])) | (intro hq; first | exact hg21 (by first | exact hq | (rw [hq]; rfl) | simpa using hq) | (have h9 := hg21 (by first | exact hq | (rw [hq]; rfl) | simpa using hq); first | omega | (simpa using h9)) | exact hg22 (by first | exact hq | (rw [hq]; rfl) | simpa using hq) | (have h9 := hg22 (by first | exact hq | (rw [hq]; rfl) | simpa using hq); first | omega | (simpa using h9)) | exact hg23 (by first | exact hq | (rw [hq]; rfl) | simpa using hq) | (have h9 := hg23 (by first | exact hq | (rw [hq]; rfl) | simpa using hq); first | omega | (simpa using h9)) | exact hg24 (by first | exact hq | (rw [hq]; rfl) | simpa using hq) | (have h9 := hg24 (by first | exact hq | (rw [hq]; rfl) | simpa using hq); first | omega | (simpa using h9)) | exact hg25 (by first | exact hq | (rw [hq]; rfl) | simpa using hq) | (have h9 := hg25 (by first | exact hq | (rw [hq]; rfl) | simpa using hq); first | omega | (simpa using h9)) | exact hg26 (by first | exact hq | (rw [hq]; rfl) | simpa using hq) | (have h9 := hg26 (by first | exact hq | (rw [hq]; rfl) | simpa using hq); first | omega | (simpa using h9)) | exact hq.1 | exact hq) | (intro hq; exact ⟨hq, fun h2 => by rw [hq]; simp [h2]⟩) | (simp +contextual; done)))
    refine ⟨fun hc => ?_, fun hc => ?_⟩
    · rw [if_pos (by first | exact hc | (rw [hc]; rfl) | simpa using hc | (simp at hc ⊢; omega) | simp_all)] at hr
      repeat (refine And.intro ?_ ?_; focus (first | assumption | decide +kernel | (show _ ≠ _; omega) | ((fail_if_success intro _); omega) | (show Eqv _ _; (simp (maxDischargeDepth := 8) [go_sem]))))
      obtain rfl := Option.some.inj hr
      (simp (maxDischargeDepth := 8) [go_sem])
    · rw [if_neg (by first | exact hc | (rw [hc]; rfl) | simpa using hc | (simp at hc ⊢; omega) | simp_all)] at hr
      obtain ⟨hg20, hr⟩ := of_guard0 hr
      obtain ⟨v3, hv3, hr⟩ := of_bind0 hr
      obtain ⟨v4, hv4, hr⟩ := of_bind0 hr
      try simp only [hv3, hv4, Option.getD_some, Option.isSome_some, true_and, and_assoc]
      repeat (refine And.intro ?_ ?_; focus (first | assumption | decide +kernel | (show _ ≠ _; omega) | ((fail_if_success intro _); omega) | (show Eqv _ _; (simp (maxDischargeDepth := 8) [go_sem]))))
      refine S.sees [3, 4, 5, 7, 8, 9, 10] [(3, 3), (4, 4), (5, 5)] [(91, 91), (95, 95)] ?_ (Stop.iter S (fun s1 => ⟨[(3, .c (.ref 3 0)), (4, .c (.ref 4 0)), (5, .c (.ref 5 0)), (7, .c (.d (.int .i64 ((a0_2.getD (IntKind.i64.wrap ((a0_2.length : Int) - 1)).toNat default).1)))), (8, .c (.own 91)), (9, .c (.own 95)), (10, .c (.d (.int .i64 s1.1)))], [(3, [.d (.int .i64 a0_0), .d (.int .i64 a0_1), .d (encF 2 d_II a0_2), .d (encF 1 d_LIIE a0_3)]), (4, [.d (encF 1 d_I a1_0), .d (encF 1 d_I a1_1)]), (5, [.d (encF 1 d_I a2_0), .d (.int .i64 a2_1), .d (encF 1 d_I a2_2), .d (.int .i64 a2_3)])], [(91, .owned (encF 1 d_I s1.2.1)), (95, .owned (encF 1 d_I s1.2.2))]⟩) (b9_1 a0_0 a0_1 a0_2 a0_3 a1_0 a1_1 a2_0 a2_1 a2_3) (fun q => q = r) hr rfl ?_)
      · (simp (maxDischargeDepth := 8) [go_sem])
      · intro s1 hr
        unfold b9_1 at hr
        refine S.goB [] 1000 ?_
        simp (maxSteps := 10000000) only [go_sem, tb9_14, T14, tb9_15, T15, tb9_16, T16, tb9_18, T18, tb9_19, T19, tb9_21, T21, tb9_59, T59, tb9_64, T64, tb9_65, T65, tb9_70, T70, T9, Option.map_some, Int.reduceToNat, Nat.reduceEqDiff, Nat.reduceLT, Nat.reduceAdd, Nat.reduceMul, Nat.reduceSub, Nat.reduceLeDiff, reduceIte, reduceCtorEq, Try.results9]
        repeat (refine And.intro ?_ ?_; focus (first | assumption | decide +kernel | (show _ ≠ _; omega) | ((fail_if_success intro _); omega) | (show Eqv _ _; (simp (maxDischargeDepth := 8) [go_sem]))))
        refine ⟨fun hc => ?_, fun hc => ?_⟩
        · rw [if_pos (by first | exact hc | (rw [hc]; rfl) | simpa using hc | (simp at hc ⊢; omega) | simp_all)] at hr
          obtain ⟨hg12, hr⟩ := of_guard1 hr
          obtain ⟨v5, hv5, hr⟩ := of_bind1 hr
          try simp only [hv5, Option.getD_some, Option.isSome_some, true_and, and_assoc]
          repeat (refine And.intro ?_ ?_; focus (first | assumption | decide +kernel | (show _ ≠ _; omega) | ((fail_if_success intro _); omega) | (show Eqv _ _; (simp (maxDischargeDepth := 8) [go_sem]))))
          refine ⟨fun hc => ?_, fun hc => ?_⟩
          · rw [if_pos (by first | exact hc | (rw [hc]; rfl) | simpa using hc | (simp at hc ⊢; omega) | simp_all)] at hr
            repeat (refine And.intro ?_ ?_; focus (first | assumption | decide +kernel | (show _ ≠ _; omega) | ((fail_if_success intro _); omega) | (show Eqv _ _; (simp (maxDischargeDepth := 8) [go_sem]))))
            have hr := of_out0 hr
            obtain rfl := Option.some.inj hr
            (simp (maxDischargeDepth := 8) [go_sem])
          · rw [if_neg (by first | exact hc | (rw [hc]; rfl) | simpa using hc | (simp at hc ⊢; omega) | simp_all)] at hr
            obtain ⟨hg6, hr⟩ := of_guard1 hr
            obtain ⟨hg7, hr⟩ := of_guard1 hr
            obtain ⟨hg8, hr⟩ := of_guard1 hr
            obtain ⟨hg9, hr⟩ := of_guard1 hr
            obtain ⟨hg10, hr⟩ := of_guard1 hr
            obtain ⟨hg11, hr⟩ := of_guard1 hr
            repeat (refine And.intro ?_ ?_; focus (first | assumption | decide +kernel | (show _ ≠ _; omega) | ((fail_if_success intro _); omega) | (show Eqv _ _; (simp (maxDischargeDepth := 8) [go_sem]))))
            refine S.sees [3, 4, 5, 7, 8, 9, 10] [(3, 3), (4, 4), (5, 5)] [(91, 91), (95, 95)] ?_ hr
            (simp (maxDischargeDepth := 8) [go_sem])
        · rw [if_neg (by first | exact hc | (rw [hc]; rfl) | simpa using hc | (simp at hc ⊢; omega) | simp_all)] at hr
          repeat (refine And.intro ?_ ?_; focus (first | assumption | decide +kernel | (show _ ≠ _; omega) | ((fail_if_success intro _); omega) | (show Eqv _ _; (simp (maxDischargeDepth := 8) [go_sem]))))
          have hr := of_out0 hr
          obtain ⟨v13, hv13, hr⟩ := of_bind0 hr
          obtain ⟨v14, hv14, hr⟩ := of_bind0 hr
          obtain ⟨v15, hv15, hr⟩ := of_bind0 hr
          obtain ⟨v16, hv16, hr⟩ := of_bind0 hr
          obtain ⟨v17, hv17, hr⟩ := of_bind0 hr
          try simp only [hv13, hv14, hv15, hv16, hv17, Option.getD_some, Option.isSome_some, true_and, and_assoc]
          repeat (refine And.intro ?_ ?_; focus (first | assumption | decide +kernel | (show _ ≠ _; omega) | ((fail_if_success intro _); omega) | (show Eqv _ _; (simp (maxDischargeDepth := 8) [go_sem])) | (intro hq; first | exact hq.1 | exact hq) | (intro hq; exact ⟨hq, fun h2 => by rw [hq]; simp [h2]⟩) | (simp +contextual; done)))
          refine ⟨fun hc => ?_, fun hc => ?_⟩
          · rw [if_pos (by first | exact hc | (rw [hc]; rfl) | simpa using hc | (simp at hc ⊢; omega) | simp_all)] at hr
            repeat (refine And.intro ?_ ?_; focus (first | assumption | decide +kernel | (show _ ≠ _; omega) | ((fail_if_success intro _); omega) | (show Eqv _ _; (simp (maxDischargeDepth := 8) [go_sem])) | (intro hq; first | exact hq.1 | exact hq) | (intro hq; exact ⟨hq, fun h2 => by rw [hq]; simp [h2]⟩) | (simp +contextual; done)))
            obtain rfl := Option.some.inj hr
            (simp (maxDischargeDepth := 8) [go_sem])
          · rw [if_neg (by first | exact hc | (rw [hc]; rfl) | simpa using hc | (simp at hc ⊢; omega) | simp_all)] at hr
            repeat (refine And.intro ?_ ?_; focus (first | assumption | decide +kernel | (show _ ≠ _; omega) | ((fail_if_success intro _); omega) | (show Eqv _ _; (simp (maxDischargeDepth := 8) [go_sem])) | (intro hq; first | exact hq.1 | exact hq) | (intro hq; exact ⟨hq, fun h2 => by rw [hq]; simp [h2]⟩) | (simp +contextual; done)))
            refine ⟨fun hc => ?_, fun hc => ?_⟩
            · rw [if_pos (by first | exact hc | (rw [hc]; rfl) | simpa using hc | (simp at hc ⊢; omega) | simp_all)] at hr
              repeat (refine And.intro ?_ ?_; focus (first | assumption | decide +kernel | (show _ ≠ _; omega) | ((fail_if_success intro _); omega) | (show Eqv _ _; (simp (maxDischargeDepth := 8) [go_sem]))))
              obtain rfl := Option.some.inj hr
              (simp (maxDischargeDepth := 8) [go_sem])
            · rw [if_neg (by first | exact hc | (rw [hc]; rfl) | simpa using hc | (simp at hc ⊢; omega) | simp_all)] at hr
              repeat (refine And.intro ?_ ?_; focus (first | assumption | decide +kernel | (show _ ≠ _; omega) | ((fail_if_success intro _); omega) | (show Eqv _ _; (simp (maxDischargeDepth := 8) [go_sem]))))
              refine S.sees [11, 13, 15] [] [(147, 147), (159, 159)] ?_ (Stop.iter S (fun s2 => ⟨[(11, .c (.own 147)), (13, .c (.own 159)), (15, .c (.d (.int .i64 s2)))], [], [(147, .owned (encF 1 d_I v16.1)), (159, .owned (encF 1 d_I v17.1))]⟩) (b9_2 v16 v17) (fun q => q = r) hr rfl ?_)
              · (simp (maxDischargeDepth := 8) [go_sem])
              · intro s2 hr
                unfold b9_2 at hr
                refine S.goB [] 1000 ?_
                simp (maxSteps := 10000000) only [go_sem, tb9_14, T14, tb9_15, T15, tb9_16, T16, tb9_18, T18, tb9_19, T19, tb9_21, T21, tb9_59, T59, tb9_64, T64, tb9_65, T65, tb9_70, T70, T9, Option.map_some, Int.reduceToNat, Nat.reduceEqDiff, Nat.reduceLT, Nat.reduceAdd, Nat.reduceMul, Nat.reduceSub, Nat.reduceLeDiff, reduceIte, reduceCtorEq, Try.results9]
                repeat (refine And.intro ?_ ?_; focus (first | assumption | decide +kernel | (show _ ≠ _; omega) | ((fail_if_success intro _); omega) | (show Eqv _ _; (simp (maxDischargeDepth := 8) [go_sem]))))
                refine ⟨fun hc => ?_, fun hc => ?_⟩
                · rw [if_pos (by first | exact hc | (rw [hc]; rfl) | simpa using hc | (simp at hc ⊢; omega) | simp_all)] at hr
                  obtain ⟨hg18, hr⟩ := of_guard1 hr
                  obtain ⟨hg19, hr⟩ := of_guard1 hr
                  repeat (refine And.intro ?_ ?_; focus (first | assumption | decide +kernel | (show _ ≠ _; omega) | ((fail_if_success intro _); omega) | (show Eqv _ _; (simp (maxDischargeDepth := 8) [go_sem]))))
                  refine ⟨fun hc => ?_, fun hc => ?_⟩
                  · rw [if_pos (by first | exact hc | (rw [hc]; rfl) | simpa using hc | (simp at hc ⊢; omega) | simp_all)] at hr
                    repeat (refine And.intro ?_ ?_; focus (first | assumption | decide +kernel | (show _ ≠ _; omega) | ((fail_if_success intro _); omega) | (show Eqv _ _; (simp (maxDischargeDepth := 8) [go_sem]))))
                    have hr := of_out0 hr
                    obtain rfl := Option.some.inj hr
                    (simp (maxDischargeDepth := 8) [go_sem])
                  · rw [if_neg (by first | exact hc | (rw [hc]; rfl) | simpa using hc | (simp at hc ⊢; omega) | simp_all)] at hr
                    repeat (refine And.intro ?_ ?_; focus (first | assumption | decide +kernel | (show _ ≠ _; omega) | ((fail_if_success intro _); omega) | (show Eqv _ _; (simp (maxDischargeDepth := 8) [go_sem]))))
                    refine S.sees [11, 13, 15] [] [(147, 147), (159, 159)] ?_ hr
                    (simp (maxDischargeDepth := 8) [go_sem])
                · rw [if_neg (by first | exact hc | (rw [hc]; rfl) | simpa using hc | (simp at hc ⊢; omega) | simp_all)] at hr
                  repeat (refine And.intro ?_ ?_; focus (first | assumption | decide +kernel | (show _ ≠ _; omega) | ((fail_if_success intro _); omega) | (show Eqv _ _; (simp (maxDischargeDepth := 8) [go_sem]))))
                  have hr := of_out0 hr
                  repeat (refine And.intro ?_ ?_; focus (first | assumption | decide +kernel | (show _ ≠ _; omega) | ((fail_if_success intro _); omega) | (show Eqv _ _; (simp (maxDischargeDepth := 8) [go_sem]))))
                  obtain rfl := Option.some.inj hr
                  (simp (maxDischargeDepth := 8) [go_sem])
theorem f9 : FnFact Try.prog 9 T9.sp := ⟨⟨Try.f9, Try.func9, by decide, rfl⟩, v9⟩
end Go.Proofs.Ytcbiiijnaeibhaa

/- Contracts of functions, written by wip/dec. -/
import Derived.Test.YtcbiiijnaeibhaaF00
import Derived.Test.YtcbiiijnaeibhaaF04
import Derived.Test.YtcbiiijnaeibhaaF05
import Derived.Test.YtcbiiijnaeibhaaF06
import Derived.Test.YtcbiiijnaeibhaaF08
set_option linter.unusedVariables false
set_option linter.unusedSimpArgs false
set_option maxHeartbeats 4000000
set_option maxRecDepth 20000
namespace Go.Proofs.Ytcbiiijnaeibhaa
open Go.Abs
/- martensite/martensitelaw03.HeatBoils -/
def b11_2 (a0_2 : Int) (v2 : Int × Int × Int) (v11 : (List (Int)) × Int) : (Int × Int) → Ctl (Int × Int) (Bool) := fun s2 =>
  if (decide (s2.2 ≥ 0)) = true then
   if 0 ≤ s2.2 ∧ s2.2 < (v11.1.length : Int) then
    if (decide ((v11.1.getD s2.2.toNat default) ≥ a0_2)) = true then
     .next (IntKind.i64.wrap (s2.2 + 1), IntKind.i64.wrap (s2.2 - 1))
     else .next (s2.1, IntKind.i64.wrap (s2.2 - 1))
    else .out none
   else .out (if (v2.2.2 == 12) = true then
    some (s2.1 == (IntKind.i64.wrap ((v11.1.length : Int) + 1)))
    else (r59 s2.1 v2.1 v2.2.1).bind fun v13 =>
     some v13)
def b11_1 (a0_0 : Int) (a0_1 : Int) (a0_2 : Int) (a1 : List (Int × Int)) (a2 : List (Int)) (v2 : Int × Int × Int) : ((List (Int)) × Int) → Ctl ((List (Int)) × Int) (Bool) := fun s1 =>
  if (decide (s1.2 < (a1.length : Int))) = true then
   if 0 ≤ s1.2 ∧ s1.2 < (a1.length : Int) then
    bindC (r78 s1.2 (a2.length : Int)) fun v3 =>
     if 0 ≤ v3 ∧ v3 < (a2.length : Int) then
      if 0 ≤ s1.2 ∧ s1.2 < (a1.length : Int) then
       if 0 ≤ s1.2 ∧ s1.2 < (a1.length : Int) then
        bindC (r78 (a2.getD v3.toNat default) (IntKind.i64.wrap ((IntKind.i64.wrap (((a1.getD s1.2.toNat default).2) - ((a1.getD s1.2.toNat default).1))) + 1))) fun v4 =>
         if (s1.1.length + 1) * 8 ≤ 140737488355328 ∧ s1.1.length + 1 ≤ 9223372036854775807 then
          .next (s1.1 ++ [IntKind.i64.wrap (((a1.getD s1.2.toNat default).1) + v4)], IntKind.i64.wrap (s1.2 + 1))
          else .out none
        else .out none
       else .out none
      else .out none
    else .out none
   else .out ((r19 s1.1).bind fun v10 =>
    (r29 a0_0 a0_1 a0_2 v10).bind fun v11 =>
     if (((v11.2 != 0) || ((v11.1.length : Int) != (s1.1.length : Int))) || ((v2.2.2 != 0) && (v2.2.2 != 12))) = true then
      some false
      else iterC (b11_2 a0_2 v2 v11) 1000000000 (IntKind.i64.wrap ((v11.1.length : Int) + 1), IntKind.i64.wrap ((v11.1.length : Int) - 1)))
def r11 (a0_0 : Int) (a0_1 : Int) (a0_2 : Int) (a1 : List (Int × Int)) (a2 : List (Int)) : Option (Bool) :=
  (r14).bind fun v1 =>
   if (!v1) = true then
    some false
    else if (!(((decide ((a1.length : Int) > 20)) || ((a2.length : Int) == 0)) || (decide ((a2.length : Int) > 40)))) = true → (r31 a0_0 a0_1 a0_2).isSome = true then
     if (!((((decide ((a1.length : Int) > 20)) || ((a2.length : Int) == 0)) || (decide ((a2.length : Int) > 40))) || (((r31 a0_0 a0_1 a0_2).getD default) != 0))) = true → (r36 a1).isSome = true then
      if (((((decide ((a1.length : Int) > 20)) || ((a2.length : Int) == 0)) || (decide ((a2.length : Int) > 40))) || (((r31 a0_0 a0_1 a0_2).getD default) != 0)) || (((r36 a1).getD default) != 0)) = true then
       some true
       else if (0 + a1.length) * 16 ≤ 140737488355328 ∧ 0 + a1.length ≤ 9223372036854775807 then
        (r30 a0_0 a0_1 a0_2 a1).bind fun v2 =>
         iterC (b11_1 a0_0 a0_1 a0_2 a1 a2 v2) 1000000000 ([], 0)
        else none
      else none
     else none
def T11 : TSpec (Int × Int × Int × (List (Int × Int)) × (List (Int))) where
  enc x := [.agg [.int .i64 x.1, .int .i64 x.2.1, .int .i64 x.2.2.1], .c (encF 2 d_II x.2.2.2.1), .c (encF 1 d_I x.2.2.2.2)]
  dec a := (dInt (aCell a 0 0), dInt (aCell a 0 1), dInt (aCell a 0 2), decF g_II (aCell a 1 0), decF g_I (aCell a 2 0))
  pre x := (r11 x.1 x.2.1 x.2.2.1 x.2.2.2.1 x.2.2.2.2).isSome = true
  res x := [.c (.d (.bool ((r11 x.1 x.2.1 x.2.2.1 x.2.2.2.1 x.2.2.2.2).getD default)))]
  al := false
def tb11 : Fns := lk [(14, T14.sp), (19, T19.sp), (29, T29.sp), (30, T30.sp), (31, T31.sp), (36, T36.sp), (59, T59.sp), (78, T78.sp)]
theorem tb11_ok : FnsOk Try.prog tb11 := .cons f14 (.cons f19 (.cons f29 (.cons f30 (.cons f31 (.cons f36 (.cons f59 (.cons f78 (FnsOk.nil))))))))
theorem tb11_14 : tb11 14 = some T14.sp := rfl
theorem tb11_19 : tb11 19 = some T19.sp := rfl
theorem tb11_29 : tb11 29 = some T29.sp := rfl
theorem tb11_30 : tb11 30 = some T30.sp := rfl
theorem tb11_31 : tb11 31 = some T31.sp := rfl
theorem tb11_36 : tb11 36 = some T36.sp := rfl
theorem tb11_59 : tb11 59 = some T59.sp := rfl
theorem tb11_78 : tb11 78 = some T78.sp := rfl
theorem v11 : Valid Try.prog 11 T11.sp := by
  refine valid_t (fn := Try.f11) (n := 139) ty_ok tb11_ok Try.func11 rfl Try.ntmps11 ?_
  rintro ⟨a0_0, a0_1, a0_2, a1, a2⟩ hx
  obtain ⟨r, hr⟩ := Option.isSome_iff_exists.1 (show (r11 a0_0 a0_1 a0_2 a1 a2).isSome = true from hx)
  have hres : T11.res (a0_0, a0_1, a0_2, a1, a2) = [.c (.d (.bool r))] := by simp only [T11, hr, Option.getD_some]
  refine ⟨Nat.le_of_ble_eq_true rfl, fun stop S => ?_⟩
  rw [hres] at S
  unfold r11 at hr
  refine S.goB [] 1000 ?_
  simp (maxSteps := 10000000) only [go_sem, tb11_14, T14, tb11_19, T19, tb11_29, T29, tb11_30, T30, tb11_31, T31, tb11_36, T36, tb11_59, T59, tb11_78, T78, T11, Option.map_some, Int.reduceToNat, Nat.reduceEqDiff, Nat.reduceLT, Nat.reduceAdd, Nat.reduceMul, Nat.reduceSub, Nat.reduceLeDiff, reduceIte, reduceCtorEq, Try.results11]
  obtain ⟨v1, hv1, hr⟩ := of_bind0 hr
  try simp only [hv1, Option.getD_some, Option.isSome_some, true_and, and_assoc]
  repeat (refine And.intro ?_ ?_; focus (first | assumption | decide +kernel | (show _ ≠ _; omega) | ((fail_if_success intro _); omega) | (show Eqv _ _; (simp (maxDischargeDepth := 8) [go_sem]))))
  refine ⟨fun hc => ?_, fun hc => ?_⟩
  · rw [if_pos (by first | exact hc | (rw [hc]; rfl) | simpa using hc | (simp at hc ⊢; omega) | simp_all)] at hr
    repeat (refine And.intro ?_ ?_; focus (first | assumption | decide +kernel | (show _ ≠ _; omega) | ((fail_if_success intro _); omega) | (show Eqv _ _; (simp (maxDischargeDepth := 8) [go_sem]))))
    obtain rfl := Option.some.inj hr
    (simp (maxDischargeDepth := 8) [go_sem])
  · rw [if_neg (by first | exact hc | (rw [hc]; rfl) | simpa using hc | (simp at hc ⊢; omega) | simp_all)] at hr
    obtain ⟨hg15, hr⟩ := of_guard0 hr
    obtain ⟨hg16, hr⟩ := of_guard0 hr
    repeat (refine And.intro ?_ ?_; focus (first | assumption | decide +kernel | (show _ ≠ _; omega) | ((fail_if_success intro _); omega) | (show Eqv _ _; (simp (maxDischargeDepth := 8) [go_sem])) | (intro hq; first | exact hg15 (by first | exact hq | (rw [hq]; rfl) | simpa using hq) | (have h9 := hg15 (by first | exact hq | (rw [hq]; rfl) | simpa using hq); first | omega | (simpa using h9)) | exact hg16 (by first | exact hq | (rw [hq]; rfl) | simpa using hq) | (have h9 := hg16 (by first | exact hq | (rw [hq]; rfl) | simpa using hq); first | omega | (simpa using h9)) | exact hq.1 | exact hq) | (intro hq; exact ⟨hq, fun h2 => by rw [hq]; simp [h2]⟩) | (simp +contextual; done)))
    refine ⟨fun hc => ?_, fun hc => ?_⟩
    · rw [if_pos (by first | exact hc | (rw [hc]; rfl) | simpa using hc | (simp at hc ⊢; omega) | simp_all)] at hr
      repeat (refine And.intro ?_ ?_; focus (first | assumption | decide +kernel | (show _ ≠ _; omega) | ((fail_if_success intro _); omega) | (show Eqv _ _; (simp (maxDischargeDepth := 8) [go_sem]))))
      obtain rfl := Option.some.inj hr
      (simp (maxDischargeDepth := 8) [go_sem])
    · rw [if_neg (by first | exact hc | (rw [hc]; rfl) | simpa using hc | (simp at hc ⊢; omega) | simp_all)] at hr
      obtain ⟨hg14, hr⟩ := of_guard0 hr
      obtain ⟨v2, hv2, hr⟩ := of_bind0 hr
      try simp only [hv2, Option.getD_some, Option.isSome_some, true_and, and_assoc]
      repeat (refine And.intro ?_ ?_; focus (first | assumption | decide +kernel | (show _ ≠ _; omega) | ((fail_if_success intro _); omega) | (show Eqv _ _; (simp (maxDischargeDepth := 8) [go_sem]))))
      refine S.own0 9 1000900 1 rfl rfl ?_
      refine S.sees [1, 2, 3, 7, 8, 9, 10] [(3, 3), (7, 7)] [(1000900, 1000900)] ?_ (Stop.iter S (fun s1 => ⟨[(1, .c (.d (encF 2 d_II a1))), (2, .c (.d (encF 1 d_I a2))), (3, .c (.ref 3 0)), (7, .c (.ref 7 0)), (8, .c (.d (.int .i64 v2.2.2))), (9, .c (.own 1000900)), (10, .c (.d (.int .i64 s1.2)))], [(3, [.d (.int .i64 a0_0), .d (.int .i64 a0_1), .d (.int .i64 a0_2)]), (7, [.d (.int .i64 v2.1), .d (.int .i64 v2.2.1)])], [(1000900, .owned (encF 1 d_I s1.1))]⟩) (b11_1 a0_0 a0_1 a0_2 a1 a2 v2) (fun q => q = r) hr rfl ?_)
      · (simp (maxDischargeDepth := 8) [go_sem])
      · intro s1 hr
        unfold b11_1 at hr
        refine S.goB [] 1000 ?_
        simp (maxSteps := 10000000) only [go_sem, tb11_14, T14, tb11_19, T19, tb11_29, T29, tb11_30, T30, tb11_31, T31, tb11_36, T36, tb11_59, T59, tb11_78, T78, T11, Option.map_some, Int.reduceToNat, Nat.reduceEqDiff, Nat.reduceLT, Nat.reduceAdd, Nat.reduceMul, Nat.reduceSub, Nat.reduceLeDiff, reduceIte, reduceCtorEq, Try.results11]
        repeat (refine And.intro ?_ ?_; focus (first | assumption | decide +kernel | (show _ ≠ _; omega) | ((fail_if_success intro _); omega) | (show Eqv _ _; (simp (maxDischargeDepth := 8) [go_sem]))))
        refine ⟨fun hc => ?_, fun hc => ?_⟩
        · rw [if_pos (by first | exact hc | (rw [hc]; rfl) | simpa using hc | (simp at hc ⊢; omega) | simp_all)] at hr
          obtain ⟨hg5, hr⟩ := of_guard1 hr
          obtain ⟨v3, hv3, hr⟩ := of_bind1 hr
          obtain ⟨hg6, hr⟩ := of_guard1 hr
          obtain ⟨hg7, hr⟩ := of_guard1 hr
          obtain ⟨hg8, hr⟩ := of_guard1 hr
          obtain ⟨v4, hv4, hr⟩ := of_bind1 hr
          obtain ⟨hg9, hr⟩ := of_guard1 hr
          try simp only [hv3, hv4, Option.getD_some, Option.isSome_some, true_and, and_assoc]
          repeat (refine And.intro ?_ ?_; focus (first | assumption | decide +kernel | (show _ ≠ _; omega) | ((fail_if_success intro _); omega) | (show Eqv _ _; (simp (maxDischargeDepth := 8) [go_sem]))))
          refine S.sees [1, 2, 3, 7, 8, 9, 10] [(3, 3), (7, 7)] [(82, 1000900)] ?_ hr
          (simp (maxDischargeDepth := 8) [go_sem])
        · rw [if_neg (by first | exact hc | (rw [hc]; rfl) | simpa using hc | (simp at hc ⊢; omega) | simp_all)] at hr
          repeat (refine And.intro ?_ ?_; focus (first | assumption | decide +kernel | (show _ ≠ _; omega) | ((fail_if_success intro _); omega) | (show Eqv _ _; (simp (maxDischargeDepth := 8) [go_sem]))))
          have hr := of_out0 hr
          obtain ⟨v10, hv10, hr⟩ := of_bind0 hr
          obtain ⟨v11, hv11, hr⟩ := of_bind0 hr
          try simp only [hv10, hv11, Option.getD_some, Option.isSome_some, true_and, and_assoc]
          repeat (refine And.intro ?_ ?_; focus (first | assumption | decide +kernel | (show _ ≠ _; omega) | ((fail_if_success intro _); omega) | (show Eqv _ _; (simp (maxDischargeDepth := 8) [go_sem])) | (intro hq; first | exact hq.1 | exact hq) | (intro hq; exact ⟨hq, fun h2 => by rw [hq]; simp [h2]⟩) | (simp +contextual; done)))
          refine ⟨fun hc => ?_, fun hc => ?_⟩
          · rw [if_pos (by first | exact hc | (rw [hc]; rfl) | simpa using hc | (simp at hc ⊢; omega) | simp_all)] at hr
            repeat (refine And.intro ?_ ?_; focus (first | assumption | decide +kernel | (show _ ≠ _; omega) | ((fail_if_success intro _); omega) | (show Eqv _ _; (simp (maxDischargeDepth := 8) [go_sem]))))
            obtain rfl := Option.some.inj hr
            (simp (maxDischargeDepth := 8) [go_sem])
          · rw [if_neg (by first | exact hc | (rw [hc]; rfl) | simpa using hc | (simp at hc ⊢; omega) | simp_all)] at hr
            repeat (refine And.intro ?_ ?_; focus (first | assumption | decide +kernel | (show _ ≠ _; omega) | ((fail_if_success intro _); omega) | (show Eqv _ _; (simp (maxDischargeDepth := 8) [go_sem]))))
            refine S.sees [3, 7, 8, 11, 13, 14] [(3, 3), (7, 7)] [(87, 87)] ?_ (Stop.iter S (fun s2 => ⟨[(3, .c (.ref 3 0)), (7, .c (.ref 7 0)), (8, .c (.d (.int .i64 v2.2.2))), (11, .c (.own 87)), (13, .c (.d (.int .i64 s2.1))), (14, .c (.d (.int .i64 s2.2)))], [(3, [.d (.int .i64 a0_0), .d (.int .i64 a0_1), .d (.int .i64 a0_2)]), (7, [.d (.int .i64 v2.1), .d (.int .i64 v2.2.1)])], [(87, .owned (encF 1 d_I v11.1))]⟩) (b11_2 a0_2 v2 v11) (fun q => q = r) hr rfl ?_)
            · (simp (maxDischargeDepth := 8) [go_sem])
            · intro s2 hr
              unfold b11_2 at hr
              refine S.goB [] 1000 ?_
              simp (maxSteps := 10000000) only [go_sem, tb11_14, T14, tb11_19, T19, tb11_29, T29, tb11_30, T30, tb11_31, T31, tb11_36, T36, tb11_59, T59, tb11_78, T78, T11, Option.map_some, Int.reduceToNat, Nat.reduceEqDiff, Nat.reduceLT, Nat.reduceAdd, Nat.reduceMul, Nat.reduceSub, Nat.reduceLeDiff, reduceIte, reduceCtorEq, Try.results11]
              repeat (refine And.intro ?_ ?_; focus (first | assumption | decide +kernel | (show _ ≠ _; omega) | ((fail_if_success intro _); omega) | (show Eqv _ _; (simp (maxDischargeDepth := 8) [go_sem]))))
              refine ⟨fun hc => ?_, fun hc => ?_⟩
              · rw [if_pos (by first | exact hc | (rw [hc]; rfl) | simpa using hc | (simp at hc ⊢; omega) | simp_all)] at hr
                obtain ⟨hg12, hr⟩ := of_guard1 hr
                repeat (refine And.intro ?_ ?_; focus (first | assumption | decide +kernel | (show _ ≠ _; omega) | ((fail_if_success intro _); omega) | (show Eqv _ _; (simp (maxDischargeDepth := 8) [go_sem]))))
                refine ⟨fun hc => ?_, fun hc => ?_⟩
                · rw [if_pos (by first | exact hc | (rw [hc]; rfl) | simpa using hc | (simp at hc ⊢; omega) | simp_all)] at hr
                  repeat (refine And.intro ?_ ?_; focus (first | assumption | decide +kernel | (show _ ≠ _; omega) | ((fail_if_success intro _); omega) | (show Eqv _ _; (simp (maxDischargeDepth := 8) [go_sem]))))
                  refine S.sees [3, 7, 8, 11, 13, 14] [(3, 3), (7, 7)] [(87, 87)] ?_ hr
                  (simp (maxDischargeDepth := 8) [go_sem])
                · rw [if_neg (by first | exact hc | (rw [hc]; rfl) | simpa using hc | (simp at hc ⊢; omega) | simp_all)] at hr
                  repeat (refine And.intro ?_ ?_; focus (first | assumption | decide +kernel | (show _ ≠ _; omega) | ((fail_if_success intro _); omega) | (show Eqv _ _; (simp (maxDischargeDepth := 8) [go_sem]))))
                  refine S.sees [3, 7, 8, 11, 13, 14] [(3, 3), (7, 7)] [(87, 87)] ?_ hr
                  (simp (maxDischargeDepth := 8) [go_sem])
              · rw [if_neg (by first | exact hc | (rw [hc]; rfl) | simpa using hc | (simp at hc ⊢; omega) | simp_all)] at hr
                repeat (refine And.intro ?_ ?_; focus (first | assumption | decide +kernel | (show _ ≠ _; omega) | ((fail_if_success intro _); omega) | (show Eqv _ _; (simp (maxDischargeDepth := 8) [go_sem]))))
                have hr := of_out0 hr
                repeat (refine And.intro ?_ ?_; focus (first | assumption | decide +kernel | (show _ ≠ _; omega) | ((fail_if_success intro _); omega) | (show Eqv _ _; (simp (maxDischargeDepth := 8) [go_sem]))))
                refine ⟨fun hc => ?_, fun hc => ?_⟩
                · rw [if_pos (by first | exact hc | (rw [hc]; rfl) | simpa using hc | (simp at hc ⊢; omega) | simp_all)] at hr
                  repeat (refine And.intro ?_ ?_; focus (first | assumption | decide +kernel | (show _ ≠ _; omega) | ((fail_if_success intro _); omega) | (show Eqv _ _; (simp (maxDischargeDepth := 8) [go_sem]))))
                  obtain rfl := Option.some.inj hr
                  (simp (maxDischargeDepth := 8) [go_sem])
                · rw [if_neg (by first | exact hc | (rw [hc]; rfl) | simpa using hc | (simp at hc ⊢; omega) | simp_all)] at hr
                  obtain ⟨v13, hv13, hr⟩ := of_bind0 hr
                  try simp only [hv13, Option.getD_some, Option.isSome_some, true_and, and_assoc]
                  repeat (refine And.intro ?_ ?_; focus (first | assumption | decide +kernel | (show _ ≠ _; omega) | ((fail_if_success intro _); omega) | (show Eqv _ _; (simp (maxDischargeDepth := 8) [go_sem]))))
                  obtain rfl := Option.some.inj hr
                  (simp (maxDischargeDepth := 8) [go_sem])
theorem f11 : FnFact Try.prog 11 T11.sp := ⟨⟨Try.f11, Try.func11, by decide, rfl⟩, v11⟩
end Go.Proofs.Ytcbiiijnaeibhaa

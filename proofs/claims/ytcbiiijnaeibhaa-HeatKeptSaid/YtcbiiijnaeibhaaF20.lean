/- Contracts of functions, written by wip/dec. -/
import Derived.Test.YtcbiiijnaeibhaaAbsChk
import Derived.Test.YtcbiiijnaeibhaaF00
import Derived.Test.YtcbiiijnaeibhaaF03
import Derived.Test.YtcbiiijnaeibhaaF04
import Derived.Test.YtcbiiijnaeibhaaF05
import Derived.Test.YtcbiiijnaeibhaaF06
import Derived.Test.YtcbiiijnaeibhaaF10
import Derived.Test.YtcbiiijnaeibhaaF12
import Derived.Test.YtcbiiijnaeibhaaF19
set_option linter.unusedVariables false
set_option linter.unusedSimpArgs false
set_option maxHeartbeats 4000000
set_option maxRecDepth 20000
namespace Go.Proofs.Ytcbiiijnaeibhaa
open Go.Abs
/- martensite/martensitelaw03.HeatKept -/
def b12_1 (a0_0 : Int) (a0_1 : Int) (a0_2 : List (Int × Int)) (a0_3 : List ((List (Int × Int)))) (a1 : List (Int)) (a2 : List ((List (Int)) × Int)) (v6 : Int × Int × Int × Int × Int) (v7 : (List ((List (Int)))) × Int) : (Int × Int × (List (Int))) → Ctl (Int × Int × (List (Int))) (Bool) := fun s1 =>
  if (decide (s1.2.1 < (a2.length : Int))) = true then
   bindC (r18 a0_0 a0_1 a0_2 a0_3) fun v8 =>
    if 0 ≤ s1.2.1 ∧ s1.2.1 < (a2.length : Int) then
     bindC (r65 ((a2.getD s1.2.1.toNat default).1) ((a2.getD s1.2.1.toNat default).2)) fun v9 =>
      bindC (r64 v8.1 v8.2.1 v8.2.2.1 v8.2.2.2 s1.2.2 v9.1 v9.2) fun v10 =>
       if (v10.2 == 22) = true then
        .out (some (v6.2.2.2.2 == 22))
        else if (((!((v10.2 != 0) || ((v10.1.length : Int) != a0_0))) && (v6.2.2.2.2 == 0)) && (!(decide (s1.2.1 ≥ (v7.1.length : Int))))) = true → 0 ≤ s1.2.1 ∧ s1.2.1 < (v7.1.length : Int) then
         if (((!((v10.2 != 0) || ((v10.1.length : Int) != a0_0))) && (v6.2.2.2.2 == 0)) && (!(decide (s1.2.1 ≥ (v7.1.length : Int))))) = true → (r34 (v7.1.getD s1.2.1.toNat default) v10.1).isSome = true then
          if (((v10.2 != 0) || ((v10.1.length : Int) != a0_0)) || ((v6.2.2.2.2 == 0) && ((decide (s1.2.1 ≥ (v7.1.length : Int))) || (!((r34 (v7.1.getD s1.2.1.toNat default) v10.1).getD default))))) = true then
           .out (some false)
           else if 0 ≤ s1.2.1 ∧ s1.2.1 < (a2.length : Int) then
            bindC (r79 ((a2.getD s1.2.1.toNat default).1)) fun v11 =>
             bindC (r79 s1.2.2) fun v12 =>
              bindC (r79 v10.1) fun v13 =>
               bindC (r59 (IntKind.i64.wrap ((IntKind.i64.wrap (v12 + v11)) - v13)) 0 1000) fun v14 =>
                if (!(!v14)) = true → 0 ≤ s1.2.1 ∧ s1.2.1 < (a2.length : Int) then
                 if (!(!v14)) = true → 0 ≤ (a2.getD s1.2.1.toNat default).2 ∧ (a2.getD s1.2.1.toNat default).2 < (a0_3.length : Int) then
                  if (!(!v14)) = true → (r80 (a0_3.getD ((a2.getD s1.2.1.toNat default).2).toNat default)).isSome = true then
                   if ((!v14) || (((r80 (a0_3.getD ((a2.getD s1.2.1.toNat default).2).toNat default)).getD default) && ((IntKind.i64.wrap ((IntKind.i64.wrap (v12 + v11)) - v13)) != 0))) = true then
                    .out (some false)
                    else if ((v11 == 0) && ((IntKind.i64.wrap ((IntKind.i64.wrap (v12 + v11)) - v13)) == 0)) = true → (r81 v10.1 s1.2.2).isSome = true then
                     if (((v11 == 0) && ((IntKind.i64.wrap ((IntKind.i64.wrap (v12 + v11)) - v13)) == 0)) && (!((r81 v10.1 s1.2.2).getD default))) = true then
                      .out (some false)
                      else bindC (r19 v10.1) fun v15 =>
                       .next (IntKind.i64.wrap (s1.1 + v11), IntKind.i64.wrap (s1.2.1 + 1), v15)
                     else .out none
                   else .out none
                  else .out none
                 else .out none
            else .out none
          else .out none
         else .out none
     else .out none
   else .out (if ((v6.2.2.2.2 == 0) && ((v7.1.length : Int) == (a2.length : Int))) = true → (r79 a1).isSome = true then
    if ((((v6.2.2.2.2 == 0) && ((v7.1.length : Int) == (a2.length : Int))) && (v6.1 == ((r79 a1).getD default))) && (v6.2.1 == s1.1)) = true → (r79 s1.2.2).isSome = true then
     if (((((v6.2.2.2.2 == 0) && ((v7.1.length : Int) == (a2.length : Int))) && (v6.1 == ((r79 a1).getD default))) && (v6.2.1 == s1.1)) && (v6.2.2.2.1 == ((r79 s1.2.2).getD default))) = true → (r59 v6.2.2.1 0 (IntKind.i64.wrap ((a2.length : Int) * 1000))).isSome = true then
      some (((((((v6.2.2.2.2 == 0) && ((v7.1.length : Int) == (a2.length : Int))) && (v6.1 == ((r79 a1).getD default))) && (v6.2.1 == s1.1)) && (v6.2.2.2.1 == ((r79 s1.2.2).getD default))) && ((r59 v6.2.2.1 0 (IntKind.i64.wrap ((a2.length : Int) * 1000))).getD default)) && ((IntKind.i64.wrap (v6.1 + v6.2.1)) == (IntKind.i64.wrap (v6.2.2.1 + v6.2.2.2.1))))
      else none
     else none
    else none)
def r12 (a0_0 : Int) (a0_1 : Int) (a0_2 : List (Int × Int)) (a0_3 : List ((List (Int × Int)))) (a1 : List (Int)) (a2 : List ((List (Int)) × Int)) : Option (Bool) :=
  (r14).bind fun v1 =>
   if (!v1) = true then
    some false
    else (r15 a0_0 a0_1 a0_2 a0_3).bind fun v2 =>
     if (!(!v2)) = true → (r16 a1).isSome = true then
      if (!((!v2) || (!((r16 a1).getD default)))) = true → (r63 a2).isSome = true then
       if (!(((!v2) || (!((r16 a1).getD default))) || (!((r63 a2).getD default)))) = true → (r21 a0_0 a0_1 a0_2 a0_3 a1).isSome = true then
        if (!((((!v2) || (!((r16 a1).getD default))) || (!((r63 a2).getD default))) || (((r21 a0_0 a0_1 a0_2 a0_3 a1).getD default) != 0))) = true → (r72 a0_0 a0_1 a0_2 a0_3 a2).isSome = true then
         if (((((!v2) || (!((r16 a1).getD default))) || (!((r63 a2).getD default))) || (((r21 a0_0 a0_1 a0_2 a0_3 a1).getD default) != 0)) || (((r72 a0_0 a0_1 a0_2 a0_3 a2).getD default) != 0)) = true then
          some true
          else (r18 a0_0 a0_1 a0_2 a0_3).bind fun v3 =>
           (r19 a1).bind fun v4 =>
            (r67 a2).bind fun v5 =>
             (r68 v3.1 v3.2.1 v3.2.2.1 v3.2.2.2 v4 v5).bind fun v6 =>
              (r66 v3.1 v3.2.1 v3.2.2.1 v3.2.2.2 v4 v5).bind fun v7 =>
               if ((v6.2.2.2.2 != v7.2) || ((v6.2.2.2.2 != 0) && (v6.2.2.2.2 != 22))) = true then
                some false
                else iterC (b12_1 a0_0 a0_1 a0_2 a0_3 a1 a2 v6 v7) 1000000000 (0, 0, v4)
         else none
        else none
       else none
      else none
def T12 : TSpec (Int × Int × (List (Int × Int)) × (List ((List (Int × Int)))) × (List (Int)) × (List ((List (Int)) × Int))) where
  enc x := [.agg [.int .i64 x.1, .int .i64 x.2.1, encF 2 d_II x.2.2.1, encF 1 d_LIIE x.2.2.2.1], .c (encF 1 d_I x.2.2.2.2.1), .c (encF 2 d_LIEI x.2.2.2.2.2)]
  dec a := (dInt (aCell a 0 0), dInt (aCell a 0 1), decF g_II (aCell a 0 2), decF g_LIIE (aCell a 0 3), decF g_I (aCell a 1 0), decF g_LIEI (aCell a 2 0))
  pre x := (r12 x.1 x.2.1 x.2.2.1 x.2.2.2.1 x.2.2.2.2.1 x.2.2.2.2.2).isSome = true
  res x := [.c (.d (.bool ((r12 x.1 x.2.1 x.2.2.1 x.2.2.2.1 x.2.2.2.2.1 x.2.2.2.2.2).getD default)))]
  al := false
def tb12 : Fns := lk [(14, T14.sp), (15, T15.sp), (16, T16.sp), (18, T18.sp), (19, T19.sp), (21, T21.sp), (34, T34.sp), (59, T59.sp), (63, T63.sp), (64, T64.sp), (65, T65.sp), (66, T66.sp), (67, T67.sp), (68, T68.sp), (72, T72.sp), (79, T79.sp), (80, T80.sp), (81, T81.sp)]
theorem tb12_ok : FnsOk Try.prog tb12 := .cons f14 (.cons f15 (.cons f16 (.cons f18 (.cons f19 (.cons f21 (.cons f34 (.cons f59 (.cons f63 (.cons f64 (.cons f65 (.cons f66 (.cons f67 (.cons f68 (.cons f72 (.cons f79 (.cons f80 (.cons f81 (FnsOk.nil))))))))))))))))))
theorem tb12_14 : tb12 14 = some T14.sp := rfl
theorem tb12_15 : tb12 15 = some T15.sp := rfl
theorem tb12_16 : tb12 16 = some T16.sp := rfl
theorem tb12_18 : tb12 18 = some T18.sp := rfl
theorem tb12_19 : tb12 19 = some T19.sp := rfl
theorem tb12_21 : tb12 21 = some T21.sp := rfl
theorem tb12_34 : tb12 34 = some T34.sp := rfl
theorem tb12_59 : tb12 59 = some T59.sp := rfl
theorem tb12_63 : tb12 63 = some T63.sp := rfl
theorem tb12_64 : tb12 64 = some T64.sp := rfl
theorem tb12_65 : tb12 65 = some T65.sp := rfl
theorem tb12_66 : tb12 66 = some T66.sp := rfl
theorem tb12_67 : tb12 67 = some T67.sp := rfl
theorem tb12_68 : tb12 68 = some T68.sp := rfl
theorem tb12_72 : tb12 72 = some T72.sp := rfl
theorem tb12_79 : tb12 79 = some T79.sp := rfl
theorem tb12_80 : tb12 80 = some T80.sp := rfl
theorem tb12_81 : tb12 81 = some T81.sp := rfl
theorem v12 : Valid Try.prog 12 T12.sp := by
  refine valid_t (fn := Try.f12) (n := 227) ty_ok tb12_ok Try.func12 rfl Try.ntmps12 ?_
  rintro ⟨a0_0, a0_1, a0_2, a0_3, a1, a2⟩ hx
  obtain ⟨r, hr⟩ := Option.isSome_iff_exists.1 (show (r12 a0_0 a0_1 a0_2 a0_3 a1 a2).isSome = true from hx)
  have hres : T12.res (a0_0, a0_1, a0_2, a0_3, a1, a2) = [.c (.d (.bool r))] := by simp only [T12, hr, Option.getD_some]
  refine ⟨Nat.le_of_ble_eq_true rfl, fun stop S => ?_⟩
  rw [hres] at S
  unfold r12 at hr
  refine S.goB [] 1000 ?_
  simp (maxSteps := 10000000) only [go_sem, tb12_14, T14, tb12_15, T15, tb12_16, T16, tb12_18, T18, tb12_19, T19, tb12_21, T21, tb12_34, T34, tb12_59, T59, tb12_63, T63, tb12_64, T64, tb12_65, T65, tb12_66, T66, tb12_67, T67, tb12_68, T68, tb12_72, T72, tb12_79, T79, tb12_80, T80, tb12_81, T81, T12, Option.map_some, Int.reduceToNat, Nat.reduceEqDiff, Nat.reduceLT, Nat.reduceAdd, Nat.reduceMul, Nat.reduceSub, Nat.reduceLeDiff, reduceIte, reduceCtorEq, Try.results12]
  obtain ⟨v1, hv1, hr⟩ := of_bind0 hr
  try simp only [hv1, Option.getD_some, Option.isSome_some, true_and, and_assoc]
  repeat (refine And.intro ?_ ?_; focus (first | (refine chk_of3 ?_; decide +kernel) | assumption | decide +kernel | (show _ ≠ _; omega) | ((fail_if_success intro _); omega) | (show Eqv _ _; (simp (maxDischargeDepth := 8) [go_sem]))))
  refine ⟨fun hc => ?_, fun hc => ?_⟩
  · rw [if_pos (by first | exact hc | (rw [hc]; rfl) | simpa using hc | (simp at hc ⊢; omega) | simp_all)] at hr
    repeat (refine And.intro ?_ ?_; focus (first | (refine chk_of3 ?_; decide +kernel) | assumption | decide +kernel | (show _ ≠ _; omega) | ((fail_if_success intro _); omega) | (show Eqv _ _; (simp (maxDischargeDepth := 8) [go_sem]))))
    obtain rfl := Option.some.inj hr
    (simp (maxDischargeDepth := 8) [go_sem])
  · rw [if_neg (by first | exact hc | (rw [hc]; rfl) | simpa using hc | (simp at hc ⊢; omega) | simp_all)] at hr
    obtain ⟨v2, hv2, hr⟩ := of_bind0 hr
    obtain ⟨hg27, hr⟩ := of_guard0 hr
    obtain ⟨hg28, hr⟩ := of_guard0 hr
    obtain ⟨hg29, hr⟩ := of_guard0 hr
    obtain ⟨hg30, hr⟩ := of_guard0 hr
    try simp only [hv2, Option.getD_some, Option.isSome_some, true_and, and_assoc]
    repeat (refine And.intro ?_ ?_; focus (first | exact hg27 | exact hg28 | exact hg29 | exact hg30 | (refine chk_of3 ?_; decide +kernel) | assumption | decide +kernel | (show _ ≠ _; omega) | ((fail_if_success intro _); omega) | (show Eqv _ _; (simp (maxDischargeDepth := 8) [go_sem])) | (intro hq; first | exact hg27 (by first | exact hq | (rw [hq]; rfl) | simpa using hq) | (have h9 := hg27 (by first | exact hq | (rw [hq]; rfl) | simpa using hq); first | omega | (simpa using h9)) | exact hg28 (by first | exact hq | (rw [hq]; rfl) | simpa using hq) | (have h9 := hg28 (by first | exact hq | (rw [hq]; rfl) | simpa using hq); first | omega | (simpa using h9)) | exact hg29 (by first | exact hq | (rw [hq]; rfl) | simpa using hq) | (have h9 := hg29 (by first | exact hq | (rw [hq]; rfl) | simpa using hq); first | omega | (simpa using h9)) | exact hg30 (by first | exact hq | (rw [hq]; rfl) | simpa using hq) | (have h9 := hg30 (by first | exact hq | (rw [hq]; rfl) | simpa using hq); first | omega | (simpa using h9)) | exact hq.1 | exact hq) | (intro hq; refine ⟨hq, ?_⟩; intro h2; first | (rw [hq]; simp [h2]; done) | (simp_all; done)) | (simp +contextual; done)))
    refine ⟨fun hc => ?_, fun hc => ?_⟩
    · rw [if_pos (by first | exact hc | (rw [hc]; rfl) | simpa using hc | (simp at hc ⊢; omega) | simp_all)] at hr
      repeat (refine And.intro ?_ ?_; focus (first | (refine chk_of3 ?_; decide +kernel) | assumption | decide +kernel | (show _ ≠ _; omega) | ((fail_if_success intro _); omega) | (show Eqv _ _; (simp (maxDischargeDepth := 8) [go_sem]))))
      obtain rfl := Option.some.inj hr
      (simp (maxDischargeDepth := 8) [go_sem])
    · rw [if_neg (by first | exact hc | (rw [hc]; rfl) | simpa using hc | (simp at hc ⊢; omega) | simp_all)] at hr
      obtain ⟨v3, hv3, hr⟩ := of_bind0 hr
      obtain ⟨v4, hv4, hr⟩ := of_bind0 hr
      obtain ⟨v5, hv5, hr⟩ := of_bind0 hr
      obtain ⟨v6, hv6, hr⟩ := of_bind0 hr
      obtain ⟨v7, hv7, hr⟩ := of_bind0 hr
      try simp only [hv3, hv4, hv5, hv6, hv7, Option.getD_some, Option.isSome_some, true_and, and_assoc]
      repeat (refine And.intro ?_ ?_; focus (first | (refine chk_of3 ?_; decide +kernel) | assumption | decide +kernel | (show _ ≠ _; omega) | ((fail_if_success intro _); omega) | (show Eqv _ _; (simp (maxDischargeDepth := 8) [go_sem])) | (intro hq; first | exact hq.1 | exact hq) | (intro hq; refine ⟨hq, ?_⟩; intro h2; first | (rw [hq]; simp [h2]; done) | (simp_all; done)) | (simp +contextual; done)))
      refine ⟨fun hc => ?_, fun hc => ?_⟩
      · rw [if_pos (by first | exact hc | (rw [hc]; rfl) | simpa using hc | (simp at hc ⊢; omega) | simp_all)] at hr
        repeat (refine And.intro ?_ ?_; focus (first | (refine chk_of3 ?_; decide +kernel) | assumption | decide +kernel | (show _ ≠ _; omega) | ((fail_if_success intro _); omega) | (show Eqv _ _; (simp (maxDischargeDepth := 8) [go_sem]))))
        obtain rfl := Option.some.inj hr
        (simp (maxDischargeDepth := 8) [go_sem])
      · rw [if_neg (by first | exact hc | (rw [hc]; rfl) | simpa using hc | (simp at hc ⊢; omega) | simp_all)] at hr
        repeat (refine And.intro ?_ ?_; focus (first | (refine chk_of3 ?_; decide +kernel) | assumption | decide +kernel | (show _ ≠ _; omega) | ((fail_if_success intro _); omega) | (show Eqv _ _; (simp (maxDischargeDepth := 8) [go_sem]))))
        refine S.sees [1, 2, 3, 7, 8, 9, 11, 12, 13] [(3, 3), (7, 7)] [(62, 62), (77, 77)] ?_ (Stop.iter S (fun s1 => ⟨[(1, .c (.d (encF 1 d_I a1))), (2, .c (.d (encF 2 d_LIEI a2))), (3, .c (.ref 3 0)), (7, .c (.ref 7 0)), (8, .c (.d (.int .i64 v6.2.2.2.2))), (9, .c (.own 62)), (11, .c (.own 77)), (12, .c (.d (.int .i64 s1.1))), (13, .c (.d (.int .i64 s1.2.1)))], [(3, [.d (.int .i64 a0_0), .d (.int .i64 a0_1), .d (encF 2 d_II a0_2), .d (encF 1 d_LIIE a0_3)]), (7, [.d (.int .i64 v6.1), .d (.int .i64 v6.2.1), .d (.int .i64 v6.2.2.1), .d (.int .i64 v6.2.2.2.1)])], [(62, .owned (encF 1 d_LIE v7.1)), (77, .owned (encF 1 d_I s1.2.2))]⟩) (b12_1 a0_0 a0_1 a0_2 a0_3 a1 a2 v6 v7) (fun q => q = r) hr rfl ?_)
        · (simp (maxDischargeDepth := 8) [go_sem])
        · intro s1 hr
          unfold b12_1 at hr
          refine S.goB [] 1000 ?_
          simp (maxSteps := 10000000) only [go_sem, tb12_14, T14, tb12_15, T15, tb12_16, T16, tb12_18, T18, tb12_19, T19, tb12_21, T21, tb12_34, T34, tb12_59, T59, tb12_63, T63, tb12_64, T64, tb12_65, T65, tb12_66, T66, tb12_67, T67, tb12_68, T68, tb12_72, T72, tb12_79, T79, tb12_80, T80, tb12_81, T81, T12, Option.map_some, Int.reduceToNat, Nat.reduceEqDiff, Nat.reduceLT, Nat.reduceAdd, Nat.reduceMul, Nat.reduceSub, Nat.reduceLeDiff, reduceIte, reduceCtorEq, Try.results12]
          repeat (refine And.intro ?_ ?_; focus (first | (refine chk_of3 ?_; decide +kernel) | assumption | decide +kernel | (show _ ≠ _; omega) | ((fail_if_success intro _); omega) | (show Eqv _ _; (simp (maxDischargeDepth := 8) [go_sem]))))
          refine ⟨fun hc => ?_, fun hc => ?_⟩
          · rw [if_pos (by first | exact hc | (rw [hc]; rfl) | simpa using hc | (simp at hc ⊢; omega) | simp_all)] at hr
            obtain ⟨v8, hv8, hr⟩ := of_bind1 hr
            obtain ⟨hg23, hr⟩ := of_guard1 hr
            obtain ⟨v9, hv9, hr⟩ := of_bind1 hr
            obtain ⟨v10, hv10, hr⟩ := of_bind1 hr
            try simp only [hv8, hv9, hv10, Option.getD_some, Option.isSome_some, true_and, and_assoc]
            repeat (refine And.intro ?_ ?_; focus (first | (refine chk_of3 ?_; decide +kernel) | assumption | decide +kernel | (show _ ≠ _; omega) | ((fail_if_success intro _); omega) | (show Eqv _ _; (simp (maxDischargeDepth := 8) [go_sem]))))
            refine ⟨fun hc => ?_, fun hc => ?_⟩
            · rw [if_pos (by first | exact hc | (rw [hc]; rfl) | simpa using hc | (simp at hc ⊢; omega) | simp_all)] at hr
              repeat (refine And.intro ?_ ?_; focus (first | (refine chk_of3 ?_; decide +kernel) | assumption | decide +kernel | (show _ ≠ _; omega) | ((fail_if_success intro _); omega) | (show Eqv _ _; (simp (maxDischargeDepth := 8) [go_sem]))))
              have hr := of_out0 hr
              obtain rfl := Option.some.inj hr
              (simp (maxDischargeDepth := 8) [go_sem])
            · rw [if_neg (by first | exact hc | (rw [hc]; rfl) | simpa using hc | (simp at hc ⊢; omega) | simp_all)] at hr
              obtain ⟨hg21, hr⟩ := of_guard1 hr
              obtain ⟨hg22, hr⟩ := of_guard1 hr
              repeat (refine And.intro ?_ ?_; focus (first | exact hg21 | exact hg22 | (refine chk_of3 ?_; decide +kernel) | assumption | decide +kernel | (show _ ≠ _; omega) | ((fail_if_success intro _); omega) | (show Eqv _ _; (simp (maxDischargeDepth := 8) [go_sem])) | (intro hq; first | exact hg21 (by first | exact hq | (rw [hq]; rfl) | simpa using hq) | (have h9 := hg21 (by first | exact hq | (rw [hq]; rfl) | simpa using hq); first | omega | (simpa using h9)) | exact hg22 (by first | exact hq | (rw [hq]; rfl) | simpa using hq) | (have h9 := hg22 (by first | exact hq | (rw [hq]; rfl) | simpa using hq); first | omega | (simpa using h9)) | exact hq.1 | exact hq) | (intro hq; refine ⟨hq, ?_⟩; intro h2; first | (rw [hq]; simp [h2]; done) | (simp_all; done)) | (simp +contextual; done)))
              refine ⟨fun hc => ?_, fun hc => ?_⟩
              · rw [if_pos (by first | exact hc | (rw [hc]; rfl) | simpa using hc | (simp at hc ⊢; omega) | simp_all)] at hr
                repeat (refine And.intro ?_ ?_; focus (first | (refine chk_of3 ?_; decide +kernel) | assumption | decide +kernel | (show _ ≠ _; omega) | ((fail_if_success intro _); omega) | (show Eqv _ _; (simp (maxDischargeDepth := 8) [go_sem]))))
                have hr := of_out0 hr
                obtain rfl := Option.some.inj hr
                (simp (maxDischargeDepth := 8) [go_sem])
              · rw [if_neg (by first | exact hc | (rw [hc]; rfl) | simpa using hc | (simp at hc ⊢; omega) | simp_all)] at hr
                obtain ⟨hg17, hr⟩ := of_guard1 hr
                obtain ⟨v11, hv11, hr⟩ := of_bind1 hr
                obtain ⟨v12, hv12, hr⟩ := of_bind1 hr
                obtain ⟨v13, hv13, hr⟩ := of_bind1 hr
                obtain ⟨v14, hv14, hr⟩ := of_bind1 hr
                obtain ⟨hg18, hr⟩ := of_guard1 hr
                obtain ⟨hg19, hr⟩ := of_guard1 hr
                obtain ⟨hg20, hr⟩ := of_guard1 hr
                try simp only [hv11, hv12, hv13, hv14, Option.getD_some, Option.isSome_some, true_and, and_assoc]
                repeat (refine And.intro ?_ ?_; focus (first | exact hg18 | exact hg19 | exact hg20 | (refine chk_of3 ?_; decide +kernel) | assumption | decide +kernel | (show _ ≠ _; omega) | ((fail_if_success intro _); omega) | (show Eqv _ _; (simp (maxDischargeDepth := 8) [go_sem])) | (intro hq; first | exact hg18 (by first | exact hq | (rw [hq]; rfl) | simpa using hq) | (have h9 := hg18 (by first | exact hq | (rw [hq]; rfl) | simpa using hq); first | omega | (simpa using h9)) | exact hg19 (by first | exact hq | (rw [hq]; rfl) | simpa using hq) | (have h9 := hg19 (by first | exact hq | (rw [hq]; rfl) | simpa using hq); first | omega | (simpa using h9)) | exact hg20 (by first | exact hq | (rw [hq]; rfl) | simpa using hq) | (have h9 := hg20 (by first | exact hq | (rw [hq]; rfl) | simpa using hq); first | omega | (simpa using h9)) | exact hq.1 | exact hq) | (intro hq; refine ⟨hq, ?_⟩; intro h2; first | (rw [hq]; simp [h2]; done) | (simp_all; done)) | (simp +contextual; done)))
                refine ⟨fun hc => ?_, fun hc => ?_⟩
                · rw [if_pos (by first | exact hc | (rw [hc]; rfl) | simpa using hc | (simp at hc ⊢; omega) | simp_all)] at hr
                  repeat (refine And.intro ?_ ?_; focus (first | (refine chk_of3 ?_; decide +kernel) | assumption | decide +kernel | (show _ ≠ _; omega) | ((fail_if_success intro _); omega) | (show Eqv _ _; (simp (maxDischargeDepth := 8) [go_sem]))))
                  have hr := of_out0 hr
                  obtain rfl := Option.some.inj hr
                  (simp (maxDischargeDepth := 8) [go_sem])
                · rw [if_neg (by first | exact hc | (rw [hc]; rfl) | simpa using hc | (simp at hc ⊢; omega) | simp_all)] at hr
                  obtain ⟨hg16, hr⟩ := of_guard1 hr
                  repeat (refine And.intro ?_ ?_; focus (first | exact hg16 | (refine chk_of3 ?_; decide +kernel) | assumption | decide +kernel | (show _ ≠ _; omega) | ((fail_if_success intro _); omega) | (show Eqv _ _; (simp (maxDischargeDepth := 8) [go_sem])) | (intro hq; first | exact hg16 (by first | exact hq | (rw [hq]; rfl) | simpa using hq) | (have h9 := hg16 (by first | exact hq | (rw [hq]; rfl) | simpa using hq); first | omega | (simpa using h9)) | exact hq.1 | exact hq) | (intro hq; refine ⟨hq, ?_⟩; intro h2; first | (rw [hq]; simp [h2]; done) | (simp_all; done)) | (simp +contextual; done)))
                  refine ⟨fun hc => ?_, fun hc => ?_⟩
                  · rw [if_pos (by first | exact hc | (rw [hc]; rfl) | simpa using hc | (simp at hc ⊢; omega) | simp_all)] at hr
                    repeat (refine And.intro ?_ ?_; focus (first | (refine chk_of3 ?_; decide +kernel) | assumption | decide +kernel | (show _ ≠ _; omega) | ((fail_if_success intro _); omega) | (show Eqv _ _; (simp (maxDischargeDepth := 8) [go_sem]))))
                    have hr := of_out0 hr
                    obtain rfl := Option.some.inj hr
                    (simp (maxDischargeDepth := 8) [go_sem])
                  · rw [if_neg (by first | exact hc | (rw [hc]; rfl) | simpa using hc | (simp at hc ⊢; omega) | simp_all)] at hr
                    obtain ⟨v15, hv15, hr⟩ := of_bind1 hr
                    try simp only [hv15, Option.getD_some, Option.isSome_some, true_and, and_assoc]
                    repeat (refine And.intro ?_ ?_; focus (first | (refine chk_of3 ?_; decide +kernel) | assumption | decide +kernel | (show _ ≠ _; omega) | ((fail_if_success intro _); omega) | (show Eqv _ _; (simp (maxDischargeDepth := 8) [go_sem]))))
                    refine S.sees [1, 2, 3, 7, 8, 9, 11, 12, 13] [(3, 3), (7, 7)] [(62, 62), (173, 77)] ?_ hr
                    (simp (maxDischargeDepth := 8) [go_sem])
          · rw [if_neg (by first | exact hc | (rw [hc]; rfl) | simpa using hc | (simp at hc ⊢; omega) | simp_all)] at hr
            repeat (refine And.intro ?_ ?_; focus (first | (refine chk_of3 ?_; decide +kernel) | assumption | decide +kernel | (show _ ≠ _; omega) | ((fail_if_success intro _); omega) | (show Eqv _ _; (simp (maxDischargeDepth := 8) [go_sem]))))
            have hr := of_out0 hr
            obtain ⟨hg24, hr⟩ := of_guard0 hr
            obtain ⟨hg25, hr⟩ := of_guard0 hr
            obtain ⟨hg26, hr⟩ := of_guard0 hr
            repeat (refine And.intro ?_ ?_; focus (first | exact hg24 | exact hg25 | exact hg26 | (refine chk_of3 ?_; decide +kernel) | assumption | decide +kernel | (show _ ≠ _; omega) | ((fail_if_success intro _); omega) | (show Eqv _ _; (simp (maxDischargeDepth := 8) [go_sem])) | (intro hq; first | exact hg24 (by first | exact hq | (rw [hq]; rfl) | simpa using hq) | (have h9 := hg24 (by first | exact hq | (rw [hq]; rfl) | simpa using hq); first | omega | (simpa using h9)) | exact hg25 (by first | exact hq | (rw [hq]; rfl) | simpa using hq) | (have h9 := hg25 (by first | exact hq | (rw [hq]; rfl) | simpa using hq); first | omega | (simpa using h9)) | exact hg26 (by first | exact hq | (rw [hq]; rfl) | simpa using hq) | (have h9 := hg26 (by first | exact hq | (rw [hq]; rfl) | simpa using hq); first | omega | (simpa using h9)) | exact hq.1 | exact hq) | (intro hq; refine ⟨hq, ?_⟩; intro h2; first | (rw [hq]; simp [h2]; done) | (simp_all; done)) | (simp +contextual; done)))
            obtain rfl := Option.some.inj hr
            (simp (maxDischargeDepth := 8) [go_sem])
theorem f12 : FnFact Try.prog 12 T12.sp := ⟨⟨Try.f12, Try.func12, by decide, rfl⟩, v12⟩
end Go.Proofs.Ytcbiiijnaeibhaa

/- Contracts of functions, written by wip/dec. -/
import Derived.Test.YtcbiiijnaeibhaaF00
import Derived.Test.YtcbiiijnaeibhaaF05
import Derived.Test.YtcbiiijnaeibhaaF06
import Derived.Test.YtcbiiijnaeibhaaF10
import Derived.Test.YtcbiiijnaeibhaaF12
import Derived.Test.YtcbiiijnaeibhaaF15
set_option linter.unusedVariables false
set_option linter.unusedSimpArgs false
set_option maxHeartbeats 4000000
set_option maxRecDepth 20000
namespace Go.Proofs.Ytcbiiijnaeibhaa
open Go.Abs
/- martensite/martensitelaw03.HeatTables -/
def r7 (a0_0 : Int) (a0_1 : Int) (a0_2 : List (Int × Int)) (a0_3 : List ((List (Int × Int)))) (a1_0 : Int) (a1_1 : Int) (a1_2 : Int) : Option (Bool) :=
  (r14).bind fun v1 =>
   if (!v1) = true then
    some false
    else (r15 a0_0 a0_1 a0_2 a0_3).bind fun v2 =>
     if (!v2) = true then
      some true
      else (r18 a0_0 a0_1 a0_2 a0_3).bind fun v3 =>
       (r53 v3.1 v3.2.1 v3.2.2.1 v3.2.2.2 a1_0).bind fun v4 =>
        (r54 v3.1 v3.2.1 v3.2.2.1 v3.2.2.2 a1_1).bind fun v5 =>
         (r55 v3.1 v3.2.1 v3.2.2.1 v3.2.2.2 a1_2 a1_0).bind fun v6 =>
          (r45 a0_0 a0_1 a0_2 a0_3).bind fun v7 =>
           if (v7 != 0) = true then
            some ((((((v4.2.2 == v7) && (v5.2.2 == v7)) && (v6.2 == v7)) && ((v4.1 == 0) && (v4.2.1 == 0))) && ((v5.1 == 0) && (v5.2.1 == 0))) && (v6.1 == 0))
            else (r56 a0_0 a0_1 a0_2 a0_3 a1_0).bind fun v8 =>
             if v8 = true then
              (r57 a0_0 a0_1 a0_2 a0_3 a1_0).bind fun v9 =>
               if (!(v4.2.2 != 0)) = true → (r58 v9.1 v9.2).isSome = true then
                if ((v4.2.2 != 0) || (!((v4.1 == ((r58 v9.1 v9.2).getD default).1) && (v4.2.1 == ((r58 v9.1 v9.2).getD default).2)))) = true then
                 some false
                 else if 0 ≤ 0 ∧ 0 < (a0_2.length : Int) then
                  if 0 ≤ IntKind.i64.wrap ((a0_2.length : Int) - 1) ∧ IntKind.i64.wrap ((a0_2.length : Int) - 1) < (a0_2.length : Int) then
                   (r59 a1_1 ((a0_2.getD 0 default).2) ((a0_2.getD (IntKind.i64.wrap ((a0_2.length : Int) - 1)).toNat default).2)).bind fun v10 =>
                    if (!v10) = true then
                     if ((v5.2.2 != 2) || (!((v5.1 == 0) && (v5.2.1 == 0)))) = true then
                      some false
                      else (r61 a0_0 a0_1 a0_2 a0_3 a1_2).bind fun v11 =>
                       if ((v11 == 0) && (!v8)) = true then
                        if (2 != 0) = true then
                         some ((v6.2 == 2) && (v6.1 == 0))
                         else if (v6.2 == 0) = true → (r62 a0_0 a0_1 a0_2 a0_3 a1_2 a1_0).isSome = true then
                          some ((v6.2 == 0) && (v6.1 == ((r62 a0_0 a0_1 a0_2 a0_3 a1_2 a1_0).getD default)))
                          else none
                        else if (v11 != 0) = true then
                         some ((v6.2 == v11) && (v6.1 == 0))
                         else if (v6.2 == 0) = true → (r62 a0_0 a0_1 a0_2 a0_3 a1_2 a1_0).isSome = true then
                          some ((v6.2 == 0) && (v6.1 == ((r62 a0_0 a0_1 a0_2 a0_3 a1_2 a1_0).getD default)))
                          else none
                     else if (!(v5.2.2 != 0)) = true → (r60 a0_0 a0_1 a0_2 a0_3 a1_1).isSome = true then
                      if ((v5.2.2 != 0) || (!((v5.1 == ((r60 a0_0 a0_1 a0_2 a0_3 a1_1).getD default).1) && (v5.2.1 == ((r60 a0_0 a0_1 a0_2 a0_3 a1_1).getD default).2)))) = true then
                       some false
                       else (r61 a0_0 a0_1 a0_2 a0_3 a1_2).bind fun v14 =>
                        if ((v14 == 0) && (!v8)) = true then
                         if (2 != 0) = true then
                          some ((v6.2 == 2) && (v6.1 == 0))
                          else if (v6.2 == 0) = true → (r62 a0_0 a0_1 a0_2 a0_3 a1_2 a1_0).isSome = true then
                           some ((v6.2 == 0) && (v6.1 == ((r62 a0_0 a0_1 a0_2 a0_3 a1_2 a1_0).getD default)))
                           else none
                         else if (v14 != 0) = true then
                          some ((v6.2 == v14) && (v6.1 == 0))
                          else if (v6.2 == 0) = true → (r62 a0_0 a0_1 a0_2 a0_3 a1_2 a1_0).isSome = true then
                           some ((v6.2 == 0) && (v6.1 == ((r62 a0_0 a0_1 a0_2 a0_3 a1_2 a1_0).getD default)))
                           else none
                      else none
                   else none
                  else none
                else none
              else if ((v4.2.2 != 2) || (!((v4.1 == 0) && (v4.2.1 == 0)))) = true then
               some false
               else if 0 ≤ 0 ∧ 0 < (a0_2.length : Int) then
                if 0 ≤ IntKind.i64.wrap ((a0_2.length : Int) - 1) ∧ IntKind.i64.wrap ((a0_2.length : Int) - 1) < (a0_2.length : Int) then
                 (r59 a1_1 ((a0_2.getD 0 default).2) ((a0_2.getD (IntKind.i64.wrap ((a0_2.length : Int) - 1)).toNat default).2)).bind fun v21 =>
                  if (!v21) = true then
                   if ((v5.2.2 != 2) || (!((v5.1 == 0) && (v5.2.1 == 0)))) = true then
                    some false
                    else (r61 a0_0 a0_1 a0_2 a0_3 a1_2).bind fun v22 =>
                     if ((v22 == 0) && (!v8)) = true then
                      if (2 != 0) = true then
                       some ((v6.2 == 2) && (v6.1 == 0))
                       else if (v6.2 == 0) = true → (r62 a0_0 a0_1 a0_2 a0_3 a1_2 a1_0).isSome = true then
                        some ((v6.2 == 0) && (v6.1 == ((r62 a0_0 a0_1 a0_2 a0_3 a1_2 a1_0).getD default)))
                        else none
                      else if (v22 != 0) = true then
                       some ((v6.2 == v22) && (v6.1 == 0))
                       else if (v6.2 == 0) = true → (r62 a0_0 a0_1 a0_2 a0_3 a1_2 a1_0).isSome = true then
                        some ((v6.2 == 0) && (v6.1 == ((r62 a0_0 a0_1 a0_2 a0_3 a1_2 a1_0).getD default)))
                        else none
                   else if (!(v5.2.2 != 0)) = true → (r60 a0_0 a0_1 a0_2 a0_3 a1_1).isSome = true then
                    if ((v5.2.2 != 0) || (!((v5.1 == ((r60 a0_0 a0_1 a0_2 a0_3 a1_1).getD default).1) && (v5.2.1 == ((r60 a0_0 a0_1 a0_2 a0_3 a1_1).getD default).2)))) = true then
                     some false
                     else (r61 a0_0 a0_1 a0_2 a0_3 a1_2).bind fun v25 =>
                      if ((v25 == 0) && (!v8)) = true then
                       if (2 != 0) = true then
                        some ((v6.2 == 2) && (v6.1 == 0))
                        else if (v6.2 == 0) = true → (r62 a0_0 a0_1 a0_2 a0_3 a1_2 a1_0).isSome = true then
                         some ((v6.2 == 0) && (v6.1 == ((r62 a0_0 a0_1 a0_2 a0_3 a1_2 a1_0).getD default)))
                         else none
                       else if (v25 != 0) = true then
                        some ((v6.2 == v25) && (v6.1 == 0))
                        else if (v6.2 == 0) = true → (r62 a0_0 a0_1 a0_2 a0_3 a1_2 a1_0).isSome = true then
                         some ((v6.2 == 0) && (v6.1 == ((r62 a0_0 a0_1 a0_2 a0_3 a1_2 a1_0).getD default)))
                         else none
                    else none
                 else none
                else none
def T7 : TSpec (Int × Int × (List (Int × Int)) × (List ((List (Int × Int)))) × Int × Int × Int) where
  enc x := [.agg [.int .i64 x.1, .int .i64 x.2.1, encF 2 d_II x.2.2.1, encF 1 d_LIIE x.2.2.2.1], .agg [.int .i64 x.2.2.2.2.1, .int .i64 x.2.2.2.2.2.1, .int .i64 x.2.2.2.2.2.2]]
  dec a := (dInt (aCell a 0 0), dInt (aCell a 0 1), decF g_II (aCell a 0 2), decF g_LIIE (aCell a 0 3), dInt (aCell a 1 0), dInt (aCell a 1 1), dInt (aCell a 1 2))
  pre x := (r7 x.1 x.2.1 x.2.2.1 x.2.2.2.1 x.2.2.2.2.1 x.2.2.2.2.2.1 x.2.2.2.2.2.2).isSome = true
  res x := [.c (.d (.bool ((r7 x.1 x.2.1 x.2.2.1 x.2.2.2.1 x.2.2.2.2.1 x.2.2.2.2.2.1 x.2.2.2.2.2.2).getD default)))]
  al := false
def tb7 : Fns := lk [(14, T14.sp), (15, T15.sp), (18, T18.sp), (45, T45.sp), (53, T53.sp), (54, T54.sp), (55, T55.sp), (56, T56.sp), (57, T57.sp), (58, T58.sp), (59, T59.sp), (60, T60.sp), (61, T61.sp), (62, T62.sp)]
theorem tb7_ok : FnsOk Try.prog tb7 := .cons f14 (.cons f15 (.cons f18 (.cons f45 (.cons f53 (.cons f54 (.cons f55 (.cons f56 (.cons f57 (.cons f58 (.cons f59 (.cons f60 (.cons f61 (.cons f62 (FnsOk.nil))))))))))))))
theorem tb7_14 : tb7 14 = some T14.sp := rfl
theorem tb7_15 : tb7 15 = some T15.sp := rfl
theorem tb7_18 : tb7 18 = some T18.sp := rfl
theorem tb7_45 : tb7 45 = some T45.sp := rfl
theorem tb7_53 : tb7 53 = some T53.sp := rfl
theorem tb7_54 : tb7 54 = some T54.sp := rfl
theorem tb7_55 : tb7 55 = some T55.sp := rfl
theorem tb7_56 : tb7 56 = some T56.sp := rfl
theorem tb7_57 : tb7 57 = some T57.sp := rfl
theorem tb7_58 : tb7 58 = some T58.sp := rfl
theorem tb7_59 : tb7 59 = some T59.sp := rfl
theorem tb7_60 : tb7 60 = some T60.sp := rfl
theorem tb7_61 : tb7 61 = some T61.sp := rfl
theorem tb7_62 : tb7 62 = some T62.sp := rfl
theorem v7 : Valid Try.prog 7 T7.sp := by
  refine valid_t (fn := Try.f7) (n := 170) ty_ok tb7_ok Try.func7 rfl Try.ntmps7 ?_
  rintro ⟨a0_0, a0_1, a0_2, a0_3, a1_0, a1_1, a1_2⟩ hx
  obtain ⟨r, hr⟩ := Option.isSome_iff_exists.1 (show (r7 a0_0 a0_1 a0_2 a0_3 a1_0 a1_1 a1_2).isSome = true from hx)
  have hres : T7.res (a0_0, a0_1, a0_2, a0_3, a1_0, a1_1, a1_2) = [.c (.d (.bool r))] := by simp only [T7, hr, Option.getD_some]
  refine ⟨Nat.le_of_ble_eq_true rfl, fun stop S => ?_⟩
  rw [hres] at S
  unfold r7 at hr
  refine S.goB [] 1000 ?_
  simp (maxSteps := 10000000) only [go_sem, tb7_14, T14, tb7_15, T15, tb7_18, T18, tb7_45, T45, tb7_53, T53, tb7_54, T54, tb7_55, T55, tb7_56, T56, tb7_57, T57, tb7_58, T58, tb7_59, T59, tb7_60, T60, tb7_61, T61, tb7_62, T62, T7, Option.map_some, Int.reduceToNat, Nat.reduceEqDiff, Nat.reduceLT, Nat.reduceAdd, Nat.reduceMul, Nat.reduceSub, Nat.reduceLeDiff, reduceIte, reduceCtorEq, Try.results7]
  obtain ⟨v1, hv1, hr⟩ := of_bind0 hr
  try simp only [hv1, Option.getD_some, Option.isSome_some, true_and, and_assoc]
  repeat (refine And.intro ?_ ?_; focus (first | assumption | decide +kernel | (show _ ≠ _; omega) | ((fail_if_success intro _); omega) | (show Eqv _ _; (simp (maxDischargeDepth := 8) [go_sem]))))
  refine ⟨fun hc => ?_, fun hc => ?_⟩
  · rw [if_pos (by first | exact hc | (rw [hc]; rfl) | (revert hc; simp; done) | simpa using hc | (simp at hc ⊢; omega) | simp_all)] at hr
    repeat (refine And.intro ?_ ?_; focus (first | assumption | decide +kernel | (show _ ≠ _; omega) | ((fail_if_success intro _); omega) | (show Eqv _ _; (simp (maxDischargeDepth := 8) [go_sem]))))
    obtain rfl := Option.some.inj hr
    (simp (maxDischargeDepth := 8) [go_sem])
  · rw [if_neg (by first | exact hc | (rw [hc]; rfl) | (revert hc; simp; done) | simpa using hc | (simp at hc ⊢; omega) | simp_all)] at hr
    obtain ⟨v2, hv2, hr⟩ := of_bind0 hr
    try simp only [hv2, Option.getD_some, Option.isSome_some, true_and, and_assoc]
    repeat (refine And.intro ?_ ?_; focus (first | assumption | decide +kernel | (show _ ≠ _; omega) | ((fail_if_success intro _); omega) | (show Eqv _ _; (simp (maxDischargeDepth := 8) [go_sem]))))
    refine ⟨fun hc => ?_, fun hc => ?_⟩
    · rw [if_pos (by first | exact hc | (rw [hc]; rfl) | (revert hc; simp; done) | simpa using hc | (simp at hc ⊢; omega) | simp_all)] at hr
      repeat (refine And.intro ?_ ?_; focus (first | assumption | decide +kernel | (show _ ≠ _; omega) | ((fail_if_success intro _); omega) | (show Eqv _ _; (simp (maxDischargeDepth := 8) [go_sem]))))
      obtain rfl := Option.some.inj hr
      (simp (maxDischargeDepth := 8) [go_sem])
    · rw [if_neg (by first | exact hc | (rw [hc]; rfl) | (revert hc; simp; done) | simpa using hc | (simp at hc ⊢; omega) | simp_all)] at hr
      obtain ⟨v3, hv3, hr⟩ := of_bind0 hr
      obtain ⟨v4, hv4, hr⟩ := of_bind0 hr
      obtain ⟨v5, hv5, hr⟩ := of_bind0 hr
      obtain ⟨v6, hv6, hr⟩ := of_bind0 hr
      obtain ⟨v7, hv7, hr⟩ := of_bind0 hr
      try simp only [hv3, hv4, hv5, hv6, hv7, Option.getD_some, Option.isSome_some, true_and, and_assoc]
      repeat (refine And.intro ?_ ?_; focus (first | assumption | decide +kernel | (show _ ≠ _; omega) | ((fail_if_success intro _); omega) | (show Eqv _ _; (simp (maxDischargeDepth := 8) [go_sem]))))
      refine ⟨fun hc => ?_, fun hc => ?_⟩
      · rw [if_pos (by first | exact hc | (rw [hc]; rfl) | (revert hc; simp; done) | simpa using hc | (simp at hc ⊢; omega) | simp_all)] at hr
        repeat (refine And.intro ?_ ?_; focus (first | assumption | decide +kernel | (show _ ≠ _; omega) | ((fail_if_success intro _); omega) | (show Eqv _ _; (simp (maxDischargeDepth := 8) [go_sem])) | (intro hq; first | exact hq.1 | exact hq) | (intro hq; exact ⟨hq, fun h2 => by rw [hq]; simp [h2]⟩) | (simp +contextual; done)))
        obtain rfl := Option.some.inj hr
        (simp (maxDischargeDepth := 8) [go_sem])
      · rw [if_neg (by first | exact hc | (rw [hc]; rfl) | (revert hc; simp; done) | simpa using hc | (simp at hc ⊢; omega) | simp_all)] at hr
        obtain ⟨v8, hv8, hr⟩ := of_bind0 hr
        try simp only [hv8, Option.getD_some, Option.isSome_some, true_and, and_assoc]
        repeat (refine And.intro ?_ ?_; focus (first | assumption | decide +kernel | (show _ ≠ _; omega) | ((fail_if_success intro _); omega) | (show Eqv _ _; (simp (maxDischargeDepth := 8) [go_sem]))))
        refine ⟨fun hc => ?_, fun hc => ?_⟩
        · rw [if_pos (by first | exact hc | (rw [hc]; rfl) | (revert hc; simp; done) | simpa using hc | (simp at hc ⊢; omega) | simp_all)] at hr
          obtain ⟨v9, hv9, hr⟩ := of_bind0 hr
          obtain ⟨hg20, hr⟩ := of_guard0 hr
          try simp only [hv9, Option.getD_some, Option.isSome_some, true_and, and_assoc]
          repeat (refine And.intro ?_ ?_; focus (first | assumption | decide +kernel | (show _ ≠ _; omega) | ((fail_if_success intro _); omega) | (show Eqv _ _; (simp (maxDischargeDepth := 8) [go_sem])) | (intro hq; first | exact hg20 (by first | exact hq | (rw [hq]; rfl) | simpa using hq) | (have h9 := hg20 (by first | exact hq | (rw [hq]; rfl) | simpa using hq); first | omega | (simpa using h9)) | exact hq.1 | exact hq) | (intro hq; exact ⟨hq, fun h2 => by rw [hq]; simp [h2]⟩) | (simp +contextual; done)))
          refine ⟨fun hc => ?_, fun hc => ?_⟩
          · rw [if_pos (by first | exact hc | (rw [hc]; rfl) | (revert hc; simp; done) | simpa using hc | (simp at hc ⊢; omega) | simp_all)] at hr
            repeat (refine And.intro ?_ ?_; focus (first | assumption | decide +kernel | (show _ ≠ _; omega) | ((fail_if_success intro _); omega) | (show Eqv _ _; (simp (maxDischargeDepth := 8) [go_sem]))))
            obtain rfl := Option.some.inj hr
            (simp (maxDischargeDepth := 8) [go_sem])
          · rw [if_neg (by first | exact hc | (rw [hc]; rfl) | (revert hc; simp; done) | simpa using hc | (simp at hc ⊢; omega) | simp_all)] at hr
            obtain ⟨hg18, hr⟩ := of_guard0 hr
            obtain ⟨hg19, hr⟩ := of_guard0 hr
            obtain ⟨v10, hv10, hr⟩ := of_bind0 hr
            try simp only [hv10, Option.getD_some, Option.isSome_some, true_and, and_assoc]
            repeat (refine And.intro ?_ ?_; focus (first | assumption | decide +kernel | (show _ ≠ _; omega) | ((fail_if_success intro _); omega) | (show Eqv _ _; (simp (maxDischargeDepth := 8) [go_sem]))))
            refine ⟨fun hc => ?_, fun hc => ?_⟩
            · rw [if_pos (by first | exact hc | (rw [hc]; rfl) | (revert hc; simp; done) | simpa using hc | (simp at hc ⊢; omega) | simp_all)] at hr
              repeat (refine And.intro ?_ ?_; focus (first | assumption | decide +kernel | (show _ ≠ _; omega) | ((fail_if_success intro _); omega) | (show Eqv _ _; (simp (maxDischargeDepth := 8) [go_sem])) | (intro hq; first | exact hq.1 | exact hq) | (intro hq; exact ⟨hq, fun h2 => by rw [hq]; simp [h2]⟩) | (simp +contextual; done)))
              refine ⟨fun hc => ?_, fun hc => ?_⟩
              · rw [if_pos (by first | exact hc | (rw [hc]; rfl) | (revert hc; simp; done) | simpa using hc | (simp at hc ⊢; omega) | simp_all)] at hr
                repeat (refine And.intro ?_ ?_; focus (first | assumption | decide +kernel | (show _ ≠ _; omega) | ((fail_if_success intro _); omega) | (show Eqv _ _; (simp (maxDischargeDepth := 8) [go_sem]))))
                obtain rfl := Option.some.inj hr
                (simp (maxDischargeDepth := 8) [go_sem])
              · rw [if_neg (by first | exact hc | (rw [hc]; rfl) | (revert hc; simp; done) | simpa using hc | (simp at hc ⊢; omega) | simp_all)] at hr
                obtain ⟨v11, hv11, hr⟩ := of_bind0 hr
                try simp only [hv11, Option.getD_some, Option.isSome_some, true_and, and_assoc]
                repeat (refine And.intro ?_ ?_; focus (first | assumption | decide +kernel | (show _ ≠ _; omega) | ((fail_if_success intro _); omega) | (show Eqv _ _; (simp (maxDischargeDepth := 8) [go_sem])) | (intro hq; first | exact hq.1 | exact hq) | (intro hq; exact ⟨hq, fun h2 => by rw [hq]; simp [h2]⟩) | (simp +contextual; done)))
                refine ⟨fun hc => ?_, fun hc => ?_⟩
                · rw [if_pos (by first | exact hc | (rw [hc]; rfl) | (revert hc; simp; done) | simpa using hc | (simp at hc ⊢; omega) | simp_all)] at hr
                  repeat (refine And.intro ?_ ?_; focus (first | assumption | decide +kernel | (show _ ≠ _; omega) | ((fail_if_success intro _); omega) | (show Eqv _ _; (simp (maxDischargeDepth := 8) [go_sem]))))
                  refine ⟨fun hc => ?_, fun hc => ?_⟩
                  · rw [if_pos (by first | exact hc | (rw [hc]; rfl) | (revert hc; simp; done) | simpa using hc | (simp at hc ⊢; omega) | simp_all)] at hr
                    repeat (refine And.intro ?_ ?_; focus (first | assumption | decide +kernel | (show _ ≠ _; omega) | ((fail_if_success intro _); omega) | (show Eqv _ _; (simp (maxDischargeDepth := 8) [go_sem])) | (intro hq; first | exact hq.1 | exact hq) | (intro hq; exact ⟨hq, fun h2 => by rw [hq]; simp [h2]⟩) | (simp +contextual; done)))
                    obtain rfl := Option.some.inj hr
                    (simp (maxDischargeDepth := 8) [go_sem])
                  · rw [if_neg (by first | exact hc | (rw [hc]; rfl) | (revert hc; simp; done) | simpa using hc | (simp at hc ⊢; omega) | simp_all)] at hr
                    obtain ⟨hg12, hr⟩ := of_guard0 hr
                    repeat (refine And.intro ?_ ?_; focus (first | assumption | decide +kernel | (show _ ≠ _; omega) | ((fail_if_success intro _); omega) | (show Eqv _ _; (simp (maxDischargeDepth := 8) [go_sem])) | (intro hq; first | exact hg12 (by first | exact hq | (rw [hq]; rfl) | simpa using hq) | (have h9 := hg12 (by first | exact hq | (rw [hq]; rfl) | simpa using hq); first | omega | (simpa using h9)) | exact hq.1 | exact hq) | (intro hq; exact ⟨hq, fun h2 => by rw [hq]; simp [h2]⟩) | (simp +contextual; done)))
                    obtain rfl := Option.some.inj hr
                    (simp (maxDischargeDepth := 8) [go_sem])
                · rw [if_neg (by first | exact hc | (rw [hc]; rfl) | (revert hc; simp; done) | simpa using hc | (simp at hc ⊢; omega) | simp_all)] at hr
                  repeat (refine And.intro ?_ ?_; focus (first | assumption | decide +kernel | (show _ ≠ _; omega) | ((fail_if_success intro _); omega) | (show Eqv _ _; (simp (maxDischargeDepth := 8) [go_sem]))))
                  refine ⟨fun hc => ?_, fun hc => ?_⟩
                  · rw [if_pos (by first | exact hc | (rw [hc]; rfl) | (revert hc; simp; done) | simpa using hc | (simp at hc ⊢; omega) | simp_all)] at hr
                    repeat (refine And.intro ?_ ?_; focus (first | assumption | decide +kernel | (show _ ≠ _; omega) | ((fail_if_success intro _); omega) | (show Eqv _ _; (simp (maxDischargeDepth := 8) [go_sem])) | (intro hq; first | exact hq.1 | exact hq) | (intro hq; exact ⟨hq, fun h2 => by rw [hq]; simp [h2]⟩) | (simp +contextual; done)))
                    obtain rfl := Option.some.inj hr
                    (simp (maxDischargeDepth := 8) [go_sem])
                  · rw [if_neg (by first | exact hc | (rw [hc]; rfl) | (revert hc; simp; done) | simpa using hc | (simp at hc ⊢; omega) | simp_all)] at hr
                    obtain ⟨hg13, hr⟩ := of_guard0 hr
                    repeat (refine And.intro ?_ ?_; focus (first | assumption | decide +kernel | (show _ ≠ _; omega) | ((fail_if_success intro _); omega) | (show Eqv _ _; (simp (maxDischargeDepth := 8) [go_sem])) | (intro hq; first | exact hg13 (by first | exact hq | (rw [hq]; rfl) | simpa using hq) | (have h9 := hg13 (by first | exact hq | (rw [hq]; rfl) | simpa using hq); first | omega | (simpa using h9)) | exact hq.1 | exact hq) | (intro hq; exact ⟨hq, fun h2 => by rw [hq]; simp [h2]⟩) | (simp +contextual; done)))
                    obtain rfl := Option.some.inj hr
                    (simp (maxDischargeDepth := 8) [go_sem])
            · rw [if_neg (by first | exact hc | (rw [hc]; rfl) | (revert hc; simp; done) | simpa using hc | (simp at hc ⊢; omega) | simp_all)] at hr
              obtain ⟨hg17, hr⟩ := of_guard0 hr
              repeat (refine And.intro ?_ ?_; focus (first | assumption | decide +kernel | (show _ ≠ _; omega) | ((fail_if_success intro _); omega) | (show Eqv _ _; (simp (maxDischargeDepth := 8) [go_sem])) | (intro hq; first | exact hg17 (by first | exact hq | (rw [hq]; rfl) | simpa using hq) | (have h9 := hg17 (by first | exact hq | (rw [hq]; rfl) | simpa using hq); first | omega | (simpa using h9)) | exact hq.1 | exact hq) | (intro hq; exact ⟨hq, fun h2 => by rw [hq]; simp [h2]⟩) | (simp +contextual; done)))
              refine ⟨fun hc => ?_, fun hc => ?_⟩
              · rw [if_pos (by first | exact hc | (rw [hc]; rfl) | (revert hc; simp; done) | simpa using hc | (simp at hc ⊢; omega) | simp_all)] at hr
                repeat (refine And.intro ?_ ?_; focus (first | assumption | decide +kernel | (show _ ≠ _; omega) | ((fail_if_success intro _); omega) | (show Eqv _ _; (simp (maxDischargeDepth := 8) [go_sem]))))
                obtain rfl := Option.some.inj hr
                (simp (maxDischargeDepth := 8) [go_sem])
              · rw [if_neg (by first | exact hc | (rw [hc]; rfl) | (revert hc; simp; done) | simpa using hc | (simp at hc ⊢; omega) | simp_all)] at hr
                obtain ⟨v14, hv14, hr⟩ := of_bind0 hr
                try simp only [hv14, Option.getD_some, Option.isSome_some, true_and, and_assoc]
                repeat (refine And.intro ?_ ?_; focus (first | assumption | decide +kernel | (show _ ≠ _; omega) | ((fail_if_success intro _); omega) | (show Eqv _ _; (simp (maxDischargeDepth := 8) [go_sem])) | (intro hq; first | exact hq.1 | exact hq) | (intro hq; exact ⟨hq, fun h2 => by rw [hq]; simp [h2]⟩) | (simp +contextual; done)))
                refine ⟨fun hc => ?_, fun hc => ?_⟩
                · rw [if_pos (by first | exact hc | (rw [hc]; rfl) | (revert hc; simp; done) | simpa using hc | (simp at hc ⊢; omega) | simp_all)] at hr
                  repeat (refine And.intro ?_ ?_; focus (first | assumption | decide +kernel | (show _ ≠ _; omega) | ((fail_if_success intro _); omega) | (show Eqv _ _; (simp (maxDischargeDepth := 8) [go_sem]))))
                  refine ⟨fun hc => ?_, fun hc => ?_⟩
                  · rw [if_pos (by first | exact hc | (rw [hc]; rfl) | (revert hc; simp; done) | simpa using hc | (simp at hc ⊢; omega) | simp_all)] at hr
                    repeat (refine And.intro ?_ ?_; focus (first | assumption | decide +kernel | (show _ ≠ _; omega) | ((fail_if_success intro _); omega) | (show Eqv _ _; (simp (maxDischargeDepth := 8) [go_sem])) | (intro hq; first | exact hq.1 | exact hq) | (intro hq; exact ⟨hq, fun h2 => by rw [hq]; simp [h2]⟩) | (simp +contextual; done)))
                    obtain rfl := Option.some.inj hr
                    (simp (maxDischargeDepth := 8) [go_sem])
                  · rw [if_neg (by first | exact hc | (rw [hc]; rfl) | (revert hc; simp; done) | simpa using hc | (simp at hc ⊢; omega) | simp_all)] at hr
                    obtain ⟨hg15, hr⟩ := of_guard0 hr
                    repeat (refine And.intro ?_ ?_; focus (first | assumption | decide +kernel | (show _ ≠ _; omega) | ((fail_if_success intro _); omega) | (show Eqv _ _; (simp (maxDischargeDepth := 8) [go_sem])) | (intro hq; first | exact hg15 (by first | exact hq | (rw [hq]; rfl) | simpa using hq) | (have h9 := hg15 (by first | exact hq | (rw [hq]; rfl) | simpa using hq); first | omega | (simpa using h9)) | exact hq.1 | exact hq) | (intro hq; exact ⟨hq, fun h2 => by rw [hq]; simp [h2]⟩) | (simp +contextual; done)))
                    obtain rfl := Option.some.inj hr
                    (simp (maxDischargeDepth := 8) [go_sem])
                · rw [if_neg (by first | exact hc | (rw [hc]; rfl) | (revert hc; simp; done) | simpa using hc | (simp at hc ⊢; omega) | simp_all)] at hr
                  repeat (refine And.intro ?_ ?_; focus (first | assumption | decide +kernel | (show _ ≠ _; omega) | ((fail_if_success intro _); omega) | (show Eqv _ _; (simp (maxDischargeDepth := 8) [go_sem]))))
                  refine ⟨fun hc => ?_, fun hc => ?_⟩
                  · rw [if_pos (by first | exact hc | (rw [hc]; rfl) | (revert hc; simp; done) | simpa using hc | (simp at hc ⊢; omega) | simp_all)] at hr
                    repeat (refine And.intro ?_ ?_; focus (first | assumption | decide +kernel | (show _ ≠ _; omega) | ((fail_if_success intro _); omega) | (show Eqv _ _; (simp (maxDischargeDepth := 8) [go_sem])) | (intro hq; first | exact hq.1 | exact hq) | (intro hq; exact ⟨hq, fun h2 => by rw [hq]; simp [h2]⟩) | (simp +contextual; done)))
                    obtain rfl := Option.some.inj hr
                    (simp (maxDischargeDepth := 8) [go_sem])
                  · rw [if_neg (by first | exact hc | (rw [hc]; rfl) | (revert hc; simp; done) | simpa using hc | (simp at hc ⊢; omega) | simp_all)] at hr
                    obtain ⟨hg16, hr⟩ := of_guard0 hr
                    repeat (refine And.intro ?_ ?_; focus (first | assumption | decide +kernel | (show _ ≠ _; omega) | ((fail_if_success intro _); omega) | (show Eqv _ _; (simp (maxDischargeDepth := 8) [go_sem])) | (intro hq; first | exact hg16 (by first | exact hq | (rw [hq]; rfl) | simpa using hq) | (have h9 := hg16 (by first | exact hq | (rw [hq]; rfl) | simpa using hq); first | omega | (simpa using h9)) | exact hq.1 | exact hq) | (intro hq; exact ⟨hq, fun h2 => by rw [hq]; simp [h2]⟩) | (simp +contextual; done)))
                    obtain rfl := Option.some.inj hr
                    (simp (maxDischargeDepth := 8) [go_sem])
        · rw [if_neg (by first | exact hc | (rw [hc]; rfl) | (revert hc; simp; done) | simpa using hc | (simp at hc ⊢; omega) | simp_all)] at hr
          repeat (refine And.intro ?_ ?_; focus (first | assumption | decide +kernel | (show _ ≠ _; omega) | ((fail_if_success intro _); omega) | (show Eqv _ _; (simp (maxDischargeDepth := 8) [go_sem])) | (intro hq; first | exact hq.1 | exact hq) | (intro hq; exact ⟨hq, fun h2 => by rw [hq]; simp [h2]⟩) | (simp +contextual; done)))
          refine ⟨fun hc => ?_, fun hc => ?_⟩
          · rw [if_pos (by first | exact hc | (rw [hc]; rfl) | (revert hc; simp; done) | simpa using hc | (simp at hc ⊢; omega) | simp_all)] at hr
            repeat (refine And.intro ?_ ?_; focus (first | assumption | decide +kernel | (show _ ≠ _; omega) | ((fail_if_success intro _); omega) | (show Eqv _ _; (simp (maxDischargeDepth := 8) [go_sem]))))
            obtain rfl := Option.some.inj hr
            (simp (maxDischargeDepth := 8) [go_sem])
          · rw [if_neg (by first | exact hc | (rw [hc]; rfl) | (revert hc; simp; done) | simpa using hc | (simp at hc ⊢; omega) | simp_all)] at hr
            obtain ⟨hg29, hr⟩ := of_guard0 hr
            obtain ⟨hg30, hr⟩ := of_guard0 hr
            obtain ⟨v21, hv21, hr⟩ := of_bind0 hr
            try simp only [hv21, Option.getD_some, Option.isSome_some, true_and, and_assoc]
            repeat (refine And.intro ?_ ?_; focus (first | assumption | decide +kernel | (show _ ≠ _; omega) | ((fail_if_success intro _); omega) | (show Eqv _ _; (simp (maxDischargeDepth := 8) [go_sem]))))
            refine ⟨fun hc => ?_, fun hc => ?_⟩
            · rw [if_pos (by first | exact hc | (rw [hc]; rfl) | (revert hc; simp; done) | simpa using hc | (simp at hc ⊢; omega) | simp_all)] at hr
              repeat (refine And.intro ?_ ?_; focus (first | assumption | decide +kernel | (show _ ≠ _; omega) | ((fail_if_success intro _); omega) | (show Eqv _ _; (simp (maxDischargeDepth := 8) [go_sem])) | (intro hq; first | exact hq.1 | exact hq) | (intro hq; exact ⟨hq, fun h2 => by rw [hq]; simp [h2]⟩) | (simp +contextual; done)))
              refine ⟨fun hc => ?_, fun hc => ?_⟩
              · rw [if_pos (by first | exact hc | (rw [hc]; rfl) | (revert hc; simp; done) | simpa using hc | (simp at hc ⊢; omega) | simp_all)] at hr
                repeat (refine And.intro ?_ ?_; focus (first | assumption | decide +kernel | (show _ ≠ _; omega) | ((fail_if_success intro _); omega) | (show Eqv _ _; (simp (maxDischargeDepth := 8) [go_sem]))))
                obtain rfl := Option.some.inj hr
                (simp (maxDischargeDepth := 8) [go_sem])
              · rw [if_neg (by first | exact hc | (rw [hc]; rfl) | (revert hc; simp; done) | simpa using hc | (simp at hc ⊢; omega) | simp_all)] at hr
                obtain ⟨v22, hv22, hr⟩ := of_bind0 hr
                try simp only [hv22, Option.getD_some, Option.isSome_some, true_and, and_assoc]
                repeat (refine And.intro ?_ ?_; focus (first | assumption | decide +kernel | (show _ ≠ _; omega) | ((fail_if_success intro _); omega) | (show Eqv _ _; (simp (maxDischargeDepth := 8) [go_sem])) | (intro hq; first | exact hq.1 | exact hq) | (intro hq; exact ⟨hq, fun h2 => by rw [hq]; simp [h2]⟩) | (simp +contextual; done)))
                refine ⟨fun hc => ?_, fun hc => ?_⟩
                · rw [if_pos (by first | exact hc | (rw [hc]; rfl) | (revert hc; simp; done) | simpa using hc | (simp at hc ⊢; omega) | simp_all)] at hr
                  repeat (refine And.intro ?_ ?_; focus (first | assumption | decide +kernel | (show _ ≠ _; omega) | ((fail_if_success intro _); omega) | (show Eqv _ _; (simp (maxDischargeDepth := 8) [go_sem]))))
                  refine ⟨fun hc => ?_, fun hc => ?_⟩
                  · rw [if_pos (by first | exact hc | (rw [hc]; rfl) | (revert hc; simp; done) | simpa using hc | (simp at hc ⊢; omega) | simp_all)] at hr
                    repeat (refine And.intro ?_ ?_; focus (first | assumption | decide +kernel | (show _ ≠ _; omega) | ((fail_if_success intro _); omega) | (show Eqv _ _; (simp (maxDischargeDepth := 8) [go_sem])) | (intro hq; first | exact hq.1 | exact hq) | (intro hq; exact ⟨hq, fun h2 => by rw [hq]; simp [h2]⟩) | (simp +contextual; done)))
                    obtain rfl := Option.some.inj hr
                    (simp (maxDischargeDepth := 8) [go_sem])
                  · rw [if_neg (by first | exact hc | (rw [hc]; rfl) | (revert hc; simp; done) | simpa using hc | (simp at hc ⊢; omega) | simp_all)] at hr
                    obtain ⟨hg23, hr⟩ := of_guard0 hr
                    repeat (refine And.intro ?_ ?_; focus (first | assumption | decide +kernel | (show _ ≠ _; omega) | ((fail_if_success intro _); omega) | (show Eqv _ _; (simp (maxDischargeDepth := 8) [go_sem])) | (intro hq; first | exact hg23 (by first | exact hq | (rw [hq]; rfl) | simpa using hq) | (have h9 := hg23 (by first | exact hq | (rw [hq]; rfl) | simpa using hq); first | omega | (simpa using h9)) | exact hq.1 | exact hq) | (intro hq; exact ⟨hq, fun h2 => by rw [hq]; simp [h2]⟩) | (simp +contextual; done)))
                    obtain rfl := Option.some.inj hr
                    (simp (maxDischargeDepth := 8) [go_sem])
                · rw [if_neg (by first | exact hc | (rw [hc]; rfl) | (revert hc; simp; done) | simpa using hc | (simp at hc ⊢; omega) | simp_all)] at hr
                  repeat (refine And.intro ?_ ?_; focus (first | assumption | decide +kernel | (show _ ≠ _; omega) | ((fail_if_success intro _); omega) | (show Eqv _ _; (simp (maxDischargeDepth := 8) [go_sem]))))
                  refine ⟨fun hc => ?_, fun hc => ?_⟩
                  · rw [if_pos (by first | exact hc | (rw [hc]; rfl) | (revert hc; simp; done) | simpa using hc | (simp at hc ⊢; omega) | simp_all)] at hr
                    repeat (refine And.intro ?_ ?_; focus (first | assumption | decide +kernel | (show _ ≠ _; omega) | ((fail_if_success intro _); omega) | (show Eqv _ _; (simp (maxDischargeDepth := 8) [go_sem])) | (intro hq; first | exact hq.1 | exact hq) | (intro hq; exact ⟨hq, fun h2 => by rw [hq]; simp [h2]⟩) | (simp +contextual; done)))
                    obtain rfl := Option.some.inj hr
                    (simp (maxDischargeDepth := 8) [go_sem])
                  · rw [if_neg (by first | exact hc | (rw [hc]; rfl) | (revert hc; simp; done) | simpa using hc | (simp at hc ⊢; omega) | simp_all)] at hr
                    obtain ⟨hg24, hr⟩ := of_guard0 hr
                    repeat (refine And.intro ?_ ?_; focus (first | assumption | decide +kernel | (show _ ≠ _; omega) | ((fail_if_success intro _); omega) | (show Eqv _ _; (simp (maxDischargeDepth := 8) [go_sem])) | (intro hq; first | exact hg24 (by first | exact hq | (rw [hq]; rfl) | simpa using hq) | (have h9 := hg24 (by first | exact hq | (rw [hq]; rfl) | simpa using hq); first | omega | (simpa using h9)) | exact hq.1 | exact hq) | (intro hq; exact ⟨hq, fun h2 => by rw [hq]; simp [h2]⟩) | (simp +contextual; done)))
                    obtain rfl := Option.some.inj hr
                    (simp (maxDischargeDepth := 8) [go_sem])
            · rw [if_neg (by first | exact hc | (rw [hc]; rfl) | (revert hc; simp; done) | simpa using hc | (simp at hc ⊢; omega) | simp_all)] at hr
              obtain ⟨hg28, hr⟩ := of_guard0 hr
              repeat (refine And.intro ?_ ?_; focus (first | assumption | decide +kernel | (show _ ≠ _; omega) | ((fail_if_success intro _); omega) | (show Eqv _ _; (simp (maxDischargeDepth := 8) [go_sem])) | (intro hq; first | exact hg28 (by first | exact hq | (rw [hq]; rfl) | simpa using hq) | (have h9 := hg28 (by first | exact hq | (rw [hq]; rfl) | simpa using hq); first | omega | (simpa using h9)) | exact hq.1 | exact hq) | (intro hq; exact ⟨hq, fun h2 => by rw [hq]; simp [h2]⟩) | (simp +contextual; done)))
              refine ⟨fun hc => ?_, fun hc => ?_⟩
              · rw [if_pos (by first | exact hc | (rw [hc]; rfl) | (revert hc; simp; done) | simpa using hc | (simp at hc ⊢; omega) | simp_all)] at hr
                repeat (refine And.intro ?_ ?_; focus (first | assumption | decide +kernel | (show _ ≠ _; omega) | ((fail_if_success intro _); omega) | (show Eqv _ _; (simp (maxDischargeDepth := 8) [go_sem]))))
                obtain rfl := Option.some.inj hr
                (simp (maxDischargeDepth := 8) [go_sem])
              · rw [if_neg (by first | exact hc | (rw [hc]; rfl) | (revert hc; simp; done) | simpa using hc | (simp at hc ⊢; omega) | simp_all)] at hr
                obtain ⟨v25, hv25, hr⟩ := of_bind0 hr
                try simp only [hv25, Option.getD_some, Option.isSome_some, true_and, and_assoc]
                repeat (refine And.intro ?_ ?_; focus (first | assumption | decide +kernel | (show _ ≠ _; omega) | ((fail_if_success intro _); omega) | (show Eqv _ _; (simp (maxDischargeDepth := 8) [go_sem])) | (intro hq; first | exact hq.1 | exact hq) | (intro hq; exact ⟨hq, fun h2 => by rw [hq]; simp [h2]⟩) | (simp +contextual; done)))
                refine ⟨fun hc => ?_, fun hc => ?_⟩
                · rw [if_pos (by first | exact hc | (rw [hc]; rfl) | (revert hc; simp; done) | simpa using hc | (simp at hc ⊢; omega) | simp_all)] at hr
                  repeat (refine And.intro ?_ ?_; focus (first | assumption | decide +kernel | (show _ ≠ _; omega) | ((fail_if_success intro _); omega) | (show Eqv _ _; (simp (maxDischargeDepth := 8) [go_sem]))))
                  refine ⟨fun hc => ?_, fun hc => ?_⟩
                  · rw [if_pos (by first | exact hc | (rw [hc]; rfl) | (revert hc; simp; done) | simpa using hc | (simp at hc ⊢; omega) | simp_all)] at hr
                    repeat (refine And.intro ?_ ?_; focus (first | assumption | decide +kernel | (show _ ≠ _; omega) | ((fail_if_success intro _); omega) | (show Eqv _ _; (simp (maxDischargeDepth := 8) [go_sem])) | (intro hq; first | exact hq.1 | exact hq) | (intro hq; exact ⟨hq, fun h2 => by rw [hq]; simp [h2]⟩) | (simp +contextual; done)))
                    obtain rfl := Option.some.inj hr
                    (simp (maxDischargeDepth := 8) [go_sem])
                  · rw [if_neg (by first | exact hc | (rw [hc]; rfl) | (revert hc; simp; done) | simpa using hc | (simp at hc ⊢; omega) | simp_all)] at hr
                    obtain ⟨hg26, hr⟩ := of_guard0 hr
                    repeat (refine And.intro ?_ ?_; focus (first | assumption | decide +kernel | (show _ ≠ _; omega) | ((fail_if_success intro _); omega) | (show Eqv _ _; (simp (maxDischargeDepth := 8) [go_sem])) | (intro hq; first | exact hg26 (by first | exact hq | (rw [hq]; rfl) | simpa using hq) | (have h9 := hg26 (by first | exact hq | (rw [hq]; rfl) | simpa using hq); first | omega | (simpa using h9)) | exact hq.1 | exact hq) | (intro hq; exact ⟨hq, fun h2 => by rw [hq]; simp [h2]⟩) | (simp +contextual; done)))
                    obtain rfl := Option.some.inj hr
                    (simp (maxDischargeDepth := 8) [go_sem])
                · rw [if_neg (by first | exact hc | (rw [hc]; rfl) | (revert hc; simp; done) | simpa using hc | (simp at hc ⊢; omega) | simp_all)] at hr
                  repeat (refine And.intro ?_ ?_; focus (first | assumption | decide +kernel | (show _ ≠ _; omega) | ((fail_if_success intro _); omega) | (show Eqv _ _; (simp (maxDischargeDepth := 8) [go_sem]))))
                  refine ⟨fun hc => ?_, fun hc => ?_⟩
                  · rw [if_pos (by first | exact hc | (rw [hc]; rfl) | (revert hc; simp; done) | simpa using hc | (simp at hc ⊢; omega) | simp_all)] at hr
                    repeat (refine And.intro ?_ ?_; focus (first | assumption | decide +kernel | (show _ ≠ _; omega) | ((fail_if_success intro _); omega) | (show Eqv _ _; (simp (maxDischargeDepth := 8) [go_sem])) | (intro hq; first | exact hq.1 | exact hq) | (intro hq; exact ⟨hq, fun h2 => by rw [hq]; simp [h2]⟩) | (simp +contextual; done)))
                    obtain rfl := Option.some.inj hr
                    (simp (maxDischargeDepth := 8) [go_sem])
                  · rw [if_neg (by first | exact hc | (rw [hc]; rfl) | (revert hc; simp; done) | simpa using hc | (simp at hc ⊢; omega) | simp_all)] at hr
                    obtain ⟨hg27, hr⟩ := of_guard0 hr
                    repeat (refine And.intro ?_ ?_; focus (first | assumption | decide +kernel | (show _ ≠ _; omega) | ((fail_if_success intro _); omega) | (show Eqv _ _; (simp (maxDischargeDepth := 8) [go_sem])) | (intro hq; first | exact hg27 (by first | exact hq | (rw [hq]; rfl) | simpa using hq) | (have h9 := hg27 (by first | exact hq | (rw [hq]; rfl) | simpa using hq); first | omega | (simpa using h9)) | exact hq.1 | exact hq) | (intro hq; exact ⟨hq, fun h2 => by rw [hq]; simp [h2]⟩) | (simp +contextual; done)))
                    obtain rfl := Option.some.inj hr
                    (simp (maxDischargeDepth := 8) [go_sem])
theorem f7 : FnFact Try.prog 7 T7.sp := ⟨⟨Try.f7, Try.func7, by decide, rfl⟩, v7⟩
end Go.Proofs.Ytcbiiijnaeibhaa

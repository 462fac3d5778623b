/- Contracts of functions, written by wip/dec. -/
import Derived.Test.YtcbiiijnaeibhaaGreatF00
import Derived.Test.YtcbiiijnaeibhaaGreatF04
import Derived.Test.YtcbiiijnaeibhaaGreatF05
import Derived.Test.YtcbiiijnaeibhaaGreatF06
import Derived.Test.YtcbiiijnaeibhaaGreatF07
import Derived.Test.YtcbiiijnaeibhaaGreatF08
import Derived.Test.YtcbiiijnaeibhaaGreatF09
set_option linter.unusedVariables false
set_option linter.unusedSimpArgs false
set_option maxHeartbeats 4000000
set_option maxRecDepth 20000
namespace Go.Proofs.YtcbiiijnaeibhaaGreat
open Go.Abs
/- martensite/martensitelaw03.HeatDepths -/
def r3 (a0_0 : Int) (a0_1 : Int) (a0_2 : List (Int × Int)) (a0_3 : List ((List (Int × Int)))) (a1_0 : List (Int)) (a1_1 : List (Int)) (a2_0 : List ((List (Int × Int)) × Int × Int)) (a2_1 : Int) : Option (Bool) :=
  (r4).bind fun v1 =>
   if (!v1) = true then
    some false
    else (r5 a0_0 a0_1 a0_2 a0_3).bind fun v2 =>
     if (!(!v2)) = true → (r6 a1_0).isSome = true then
      if (!((!v2) || (!((r6 a1_0).getD default)))) = true → (r6 a1_1).isSome = true then
       if (!(((!v2) || (!((r6 a1_0).getD default))) || (!((r6 a1_1).getD default)))) = true → (r7 a2_0).isSome = true then
        if ((((!v2) || (!((r6 a1_0).getD default))) || (!((r6 a1_1).getD default))) || (!((r7 a2_0).getD default))) = true then
         some true
         else (r9 a0_0 a0_1 a0_2 a0_3).bind fun v3 =>
          (r10 a1_0).bind fun v4 =>
           (r8 v3.1 v3.2.1 v3.2.2.1 v3.2.2.2 v4 a2_1).bind fun v5 =>
            (r12 a1_0 a1_1).bind fun v6 =>
             (r13 a2_0 a2_1).bind fun v7 =>
              (r11 v3.1 v3.2.1 v3.2.2.1 v3.2.2.2 v6.1 v6.2 v7.1 v7.2).bind fun v8 =>
               (r14 v3.1 v3.2.1 v3.2.2.1 v3.2.2.2 v6.1 v6.2 v7.1 v7.2).bind fun v9 =>
                (r15 a0_0 a0_1 a0_2 a0_3 a1_0).bind fun v10 =>
                 if (v10 == 0) = true then
                  (r16 a2_1).bind fun v11 =>
                   if (((!((v11 != 0) && ((v5.2 != v11) || (v5.1 != 0)))) && (v11 == 0)) && (!(v5.2 != 0))) = true → (r17 a0_0 a0_1 a0_2 a0_3 a1_0 a2_1).isSome = true then
                    if (((v11 != 0) && ((v5.2 != v11) || (v5.1 != 0))) || ((v11 == 0) && ((v5.2 != 0) || (v5.1 != ((r17 a0_0 a0_1 a0_2 a0_3 a1_0 a2_1).getD default))))) = true then
                     some false
                     else (r18 a0_0 a0_1 a0_2 a0_3 a1_0 a1_1).bind fun v12 =>
                      if (v12 == 0) = true then
                       (r19 a0_0 a0_1 a0_2 a0_3 a2_0 a2_1).bind fun v13 =>
                        if (v13 != 0) = true then
                         some ((((v8.2.2 == v13) && (v9.2 == v13)) && ((v8.1 == 0) && (v8.2.1 == 0))) && (v9.1 == 0))
                         else (r20 a0_0 a0_1 a0_2 a0_3 a1_0 a1_1 a2_0 a2_1).bind fun v14 =>
                          if (((!v14.2.2) && ((v8.2.2 != 22) || (!((v8.1 == 0) && (v8.2.1 == 0))))) || (v14.2.2 && ((v8.2.2 != 0) || (!((v8.1 == v14.1) && (v8.2.1 == v14.2.1)))))) = true then
                           some false
                           else (r21 a0_0 a0_1 a0_2 a0_3 a1_0 a1_1 a2_0 a2_1).bind fun v15 =>
                            some ((v9.2 == v15.2) && (v9.1 == v15.1))
                       else if (v12 != 0) = true then
                        some ((((v8.2.2 == v12) && (v9.2 == v12)) && ((v8.1 == 0) && (v8.2.1 == 0))) && (v9.1 == 0))
                        else (r20 a0_0 a0_1 a0_2 a0_3 a1_0 a1_1 a2_0 a2_1).bind fun v16 =>
                         if (((!v16.2.2) && ((v8.2.2 != 22) || (!((v8.1 == 0) && (v8.2.1 == 0))))) || (v16.2.2 && ((v8.2.2 != 0) || (!((v8.1 == v16.1) && (v8.2.1 == v16.2.1)))))) = true then
                          some false
                          else (r21 a0_0 a0_1 a0_2 a0_3 a1_0 a1_1 a2_0 a2_1).bind fun v17 =>
                           some ((v9.2 == v17.2) && (v9.1 == v17.1))
                    else none
                  else if (((!((v10 != 0) && ((v5.2 != v10) || (v5.1 != 0)))) && (v10 == 0)) && (!(v5.2 != 0))) = true → (r17 a0_0 a0_1 a0_2 a0_3 a1_0 a2_1).isSome = true then
                   if (((v10 != 0) && ((v5.2 != v10) || (v5.1 != 0))) || ((v10 == 0) && ((v5.2 != 0) || (v5.1 != ((r17 a0_0 a0_1 a0_2 a0_3 a1_0 a2_1).getD default))))) = true then
                    some false
                    else (r18 a0_0 a0_1 a0_2 a0_3 a1_0 a1_1).bind fun v19 =>
                     if (v19 == 0) = true then
                      (r19 a0_0 a0_1 a0_2 a0_3 a2_0 a2_1).bind fun v20 =>
                       if (v20 != 0) = true then
                        some ((((v8.2.2 == v20) && (v9.2 == v20)) && ((v8.1 == 0) && (v8.2.1 == 0))) && (v9.1 == 0))
                        else (r20 a0_0 a0_1 a0_2 a0_3 a1_0 a1_1 a2_0 a2_1).bind fun v21 =>
                         if (((!v21.2.2) && ((v8.2.2 != 22) || (!((v8.1 == 0) && (v8.2.1 == 0))))) || (v21.2.2 && ((v8.2.2 != 0) || (!((v8.1 == v21.1) && (v8.2.1 == v21.2.1)))))) = true then
                          some false
                          else (r21 a0_0 a0_1 a0_2 a0_3 a1_0 a1_1 a2_0 a2_1).bind fun v22 =>
                           some ((v9.2 == v22.2) && (v9.1 == v22.1))
                      else if (v19 != 0) = true then
                       some ((((v8.2.2 == v19) && (v9.2 == v19)) && ((v8.1 == 0) && (v8.2.1 == 0))) && (v9.1 == 0))
                       else (r20 a0_0 a0_1 a0_2 a0_3 a1_0 a1_1 a2_0 a2_1).bind fun v23 =>
                        if (((!v23.2.2) && ((v8.2.2 != 22) || (!((v8.1 == 0) && (v8.2.1 == 0))))) || (v23.2.2 && ((v8.2.2 != 0) || (!((v8.1 == v23.1) && (v8.2.1 == v23.2.1)))))) = true then
                         some false
                         else (r21 a0_0 a0_1 a0_2 a0_3 a1_0 a1_1 a2_0 a2_1).bind fun v24 =>
                          some ((v9.2 == v24.2) && (v9.1 == v24.1))
                   else none
        else none
       else none
      else none
def T3 : TSpec (Int × Int × (List (Int × Int)) × (List ((List (Int × Int)))) × (List (Int)) × (List (Int)) × (List ((List (Int × Int)) × Int × Int)) × Int) where
  enc x := [.agg [.int .i64 x.1, .int .i64 x.2.1, encF 2 d_II x.2.2.1, encF 1 d_LIIE x.2.2.2.1], .agg [encF 1 d_I x.2.2.2.2.1, encF 1 d_I x.2.2.2.2.2.1], .agg [encF 3 d_LIIEII x.2.2.2.2.2.2.1, .int .i64 x.2.2.2.2.2.2.2]]
  dec a := (dInt (aCell a 0 0), dInt (aCell a 0 1), decF g_II (aCell a 0 2), decF g_LIIE (aCell a 0 3), decF g_I (aCell a 1 0), decF g_I (aCell a 1 1), decF g_LIIEII (aCell a 2 0), dInt (aCell a 2 1))
  pre x := (r3 x.1 x.2.1 x.2.2.1 x.2.2.2.1 x.2.2.2.2.1 x.2.2.2.2.2.1 x.2.2.2.2.2.2.1 x.2.2.2.2.2.2.2).isSome = true
  res x := [.c (.d (.bool ((r3 x.1 x.2.1 x.2.2.1 x.2.2.2.1 x.2.2.2.2.1 x.2.2.2.2.2.1 x.2.2.2.2.2.2.1 x.2.2.2.2.2.2.2).getD default)))]
  al := false
def tb3 : Fns := lk [(4, T4.sp), (5, T5.sp), (6, T6.sp), (7, T7.sp), (8, T8.sp), (9, T9.sp), (10, T10.sp), (11, T11.sp), (12, T12.sp), (13, T13.sp), (14, T14.sp), (15, T15.sp), (16, T16.sp), (17, T17.sp), (18, T18.sp), (19, T19.sp), (20, T20.sp), (21, T21.sp)]
theorem tb3_ok : FnsOk Tryz.prog tb3 := .cons f4 (.cons f5 (.cons f6 (.cons f7 (.cons f8 (.cons f9 (.cons f10 (.cons f11 (.cons f12 (.cons f13 (.cons f14 (.cons f15 (.cons f16 (.cons f17 (.cons f18 (.cons f19 (.cons f20 (.cons f21 (FnsOk.nil))))))))))))))))))
theorem tb3_4 : tb3 4 = some T4.sp := rfl
theorem tb3_5 : tb3 5 = some T5.sp := rfl
theorem tb3_6 : tb3 6 = some T6.sp := rfl
theorem tb3_7 : tb3 7 = some T7.sp := rfl
theorem tb3_8 : tb3 8 = some T8.sp := rfl
theorem tb3_9 : tb3 9 = some T9.sp := rfl
theorem tb3_10 : tb3 10 = some T10.sp := rfl
theorem tb3_11 : tb3 11 = some T11.sp := rfl
theorem tb3_12 : tb3 12 = some T12.sp := rfl
theorem tb3_13 : tb3 13 = some T13.sp := rfl
theorem tb3_14 : tb3 14 = some T14.sp := rfl
theorem tb3_15 : tb3 15 = some T15.sp := rfl
theorem tb3_16 : tb3 16 = some T16.sp := rfl
theorem tb3_17 : tb3 17 = some T17.sp := rfl
theorem tb3_18 : tb3 18 = some T18.sp := rfl
theorem tb3_19 : tb3 19 = some T19.sp := rfl
theorem tb3_20 : tb3 20 = some T20.sp := rfl
theorem tb3_21 : tb3 21 = some T21.sp := rfl
theorem v3 : Valid Tryz.prog 3 T3.sp := by
  refine valid_t (fn := Tryz.f3) (n := 181) ty_ok tb3_ok Tryz.func3 rfl Tryz.ntmps3 ?_
  rintro ⟨a0_0, a0_1, a0_2, a0_3, a1_0, a1_1, a2_0, a2_1⟩ hx
  obtain ⟨r, hr⟩ := Option.isSome_iff_exists.1 (show (r3 a0_0 a0_1 a0_2 a0_3 a1_0 a1_1 a2_0 a2_1).isSome = true from hx)
  have hres : T3.res (a0_0, a0_1, a0_2, a0_3, a1_0, a1_1, a2_0, a2_1) = [.c (.d (.bool r))] := by simp only [T3, hr, Option.getD_some]
  refine ⟨Nat.le_of_ble_eq_true rfl, fun stop S => ?_⟩
  rw [hres] at S
  unfold r3 at hr
  refine S.goB [] 1000 ?_
  simp (maxSteps := 10000000) only [go_sem, tb3_4, T4, tb3_5, T5, tb3_6, T6, tb3_7, T7, tb3_8, T8, tb3_9, T9, tb3_10, T10, tb3_11, T11, tb3_12, T12, tb3_13, T13, tb3_14, T14, tb3_15, T15, tb3_16, T16, tb3_17, T17, tb3_18, T18, tb3_19, T19, tb3_20, T20, tb3_21, T21, T3, Option.map_some, Int.reduceToNat, Nat.reduceEqDiff, Nat.reduceLT, Nat.reduceAdd, Nat.reduceMul, Nat.reduceSub, Nat.reduceLeDiff, reduceIte, reduceCtorEq, Tryz.results3]
  obtain ⟨v1, hv1, hr⟩ := of_bind0 hr
  try simp only [hv1, Option.getD_some, Option.isSome_some, true_and, and_assoc]
  repeat refine gA ?_
  refine ⟨fun hc => ?_, fun hc => ?_⟩
  · replace hr := ifP hr hc
    repeat refine gA ?_
    obtain rfl := Option.some.inj hr
    (simp (maxDischargeDepth := 8) [go_sem])
  · replace hr := ifN hr hc
    obtain ⟨v2, hv2, hr⟩ := of_bind0 hr
    obtain ⟨hg26, hr⟩ := of_guard0 hr
    obtain ⟨hg27, hr⟩ := of_guard0 hr
    obtain ⟨hg28, hr⟩ := of_guard0 hr
    try simp only [hv2, Option.getD_some, Option.isSome_some, true_and, and_assoc]
    repeat (first | refine gG hg26 ?_ | refine gG hg27 ?_ | refine gG hg28 ?_ | refine gA ?_ | refine gB ?_)
    refine ⟨fun hc => ?_, fun hc => ?_⟩
    · replace hr := ifP hr hc
      repeat refine gA ?_
      obtain rfl := Option.some.inj hr
      (simp (maxDischargeDepth := 8) [go_sem])
    · replace hr := ifN hr hc
      obtain ⟨v3, hv3, hr⟩ := of_bind0 hr
      obtain ⟨v4, hv4, hr⟩ := of_bind0 hr
      obtain ⟨v5, hv5, hr⟩ := of_bind0 hr
      obtain ⟨v6, hv6, hr⟩ := of_bind0 hr
      obtain ⟨v7, hv7, hr⟩ := of_bind0 hr
      obtain ⟨v8, hv8, hr⟩ := of_bind0 hr
      obtain ⟨v9, hv9, hr⟩ := of_bind0 hr
      obtain ⟨v10, hv10, hr⟩ := of_bind0 hr
      try simp only [hv3, hv4, hv5, hv6, hv7, hv8, hv9, hv10, Option.getD_some, Option.isSome_some, true_and, and_assoc]
      repeat refine gA ?_
      refine ⟨fun hc => ?_, fun hc => ?_⟩
      · replace hr := ifP hr hc
        obtain ⟨v11, hv11, hr⟩ := of_bind0 hr
        obtain ⟨hg18, hr⟩ := of_guard0 hr
        try simp only [hv11, Option.getD_some, Option.isSome_some, true_and, and_assoc]
        repeat (first | refine gG hg18 ?_ | refine gA ?_ | refine gB ?_)
        refine ⟨fun hc => ?_, fun hc => ?_⟩
        · replace hr := ifP hr hc
          repeat refine gA ?_
          obtain rfl := Option.some.inj hr
          (simp (maxDischargeDepth := 8) [go_sem])
        · replace hr := ifN hr hc
          obtain ⟨v12, hv12, hr⟩ := of_bind0 hr
          try simp only [hv12, Option.getD_some, Option.isSome_some, true_and, and_assoc]
          repeat refine gA ?_
          refine ⟨fun hc => ?_, fun hc => ?_⟩
          · replace hr := ifP hr hc
            obtain ⟨v13, hv13, hr⟩ := of_bind0 hr
            try simp only [hv13, Option.getD_some, Option.isSome_some, true_and, and_assoc]
            repeat refine gA ?_
            refine ⟨fun hc => ?_, fun hc => ?_⟩
            · replace hr := ifP hr hc
              repeat (first | refine gA ?_ | refine gB ?_)
              obtain rfl := Option.some.inj hr
              (simp (maxDischargeDepth := 8) [go_sem])
            · replace hr := ifN hr hc
              obtain ⟨v14, hv14, hr⟩ := of_bind0 hr
              try simp only [hv14, Option.getD_some, Option.isSome_some, true_and, and_assoc]
              repeat (first | refine gA ?_ | refine gB ?_)
              refine ⟨fun hc => ?_, fun hc => ?_⟩
              · replace hr := ifP hr hc
                repeat refine gA ?_
                obtain rfl := Option.some.inj hr
                (simp (maxDischargeDepth := 8) [go_sem])
              · replace hr := ifN hr hc
                obtain ⟨v15, hv15, hr⟩ := of_bind0 hr
                try simp only [hv15, Option.getD_some, Option.isSome_some, true_and, and_assoc]
                repeat (first | refine gA ?_ | refine gB ?_)
                obtain rfl := Option.some.inj hr
                (simp (maxDischargeDepth := 8) [go_sem])
          · replace hr := ifN hr hc
            repeat refine gA ?_
            refine ⟨fun hc => ?_, fun hc => ?_⟩
            · replace hr := ifP hr hc
              repeat (first | refine gA ?_ | refine gB ?_)
              obtain rfl := Option.some.inj hr
              (simp (maxDischargeDepth := 8) [go_sem])
            · replace hr := ifN hr hc
              obtain ⟨v16, hv16, hr⟩ := of_bind0 hr
              try simp only [hv16, Option.getD_some, Option.isSome_some, true_and, and_assoc]
              repeat (first | refine gA ?_ | refine gB ?_)
              refine ⟨fun hc => ?_, fun hc => ?_⟩
              · replace hr := ifP hr hc
                repeat refine gA ?_
                obtain rfl := Option.some.inj hr
                (simp (maxDischargeDepth := 8) [go_sem])
              · replace hr := ifN hr hc
                obtain ⟨v17, hv17, hr⟩ := of_bind0 hr
                try simp only [hv17, Option.getD_some, Option.isSome_some, true_and, and_assoc]
                repeat (first | refine gA ?_ | refine gB ?_)
                obtain rfl := Option.some.inj hr
                (simp (maxDischargeDepth := 8) [go_sem])
      · replace hr := ifN hr hc
        obtain ⟨hg25, hr⟩ := of_guard0 hr
        repeat (first | refine gG hg25 ?_ | refine gA ?_ | refine gB ?_)
        refine ⟨fun hc => ?_, fun hc => ?_⟩
        · replace hr := ifP hr hc
          repeat refine gA ?_
          obtain rfl := Option.some.inj hr
          (simp (maxDischargeDepth := 8) [go_sem])
        · replace hr := ifN hr hc
          obtain ⟨v19, hv19, hr⟩ := of_bind0 hr
          try simp only [hv19, Option.getD_some, Option.isSome_some, true_and, and_assoc]
          repeat refine gA ?_
          refine ⟨fun hc => ?_, fun hc => ?_⟩
          · replace hr := ifP hr hc
            obtain ⟨v20, hv20, hr⟩ := of_bind0 hr
            try simp only [hv20, Option.getD_some, Option.isSome_some, true_and, and_assoc]
            repeat refine gA ?_
            refine ⟨fun hc => ?_, fun hc => ?_⟩
            · replace hr := ifP hr hc
              repeat (first | refine gA ?_ | refine gB ?_)
              obtain rfl := Option.some.inj hr
              (simp (maxDischargeDepth := 8) [go_sem])
            · replace hr := ifN hr hc
              obtain ⟨v21, hv21, hr⟩ := of_bind0 hr
              try simp only [hv21, Option.getD_some, Option.isSome_some, true_and, and_assoc]
              repeat (first | refine gA ?_ | refine gB ?_)
              refine ⟨fun hc => ?_, fun hc => ?_⟩
              · replace hr := ifP hr hc
                repeat refine gA ?_
                obtain rfl := Option.some.inj hr
                (simp (maxDischargeDepth := 8) [go_sem])
              · replace hr := ifN hr hc
                obtain ⟨v22, hv22, hr⟩ := of_bind0 hr
                try simp only [hv22, Option.getD_some, Option.isSome_some, true_and, and_assoc]
                repeat (first | refine gA ?_ | refine gB ?_)
                obtain rfl := Option.some.inj hr
                (simp (maxDischargeDepth := 8) [go_sem])
          · replace hr := ifN hr hc
            repeat refine gA ?_
            refine ⟨fun hc => ?_, fun hc => ?_⟩
            · replace hr := ifP hr hc
              repeat (first | refine gA ?_ | refine gB ?_)
              obtain rfl := Option.some.inj hr
              (simp (maxDischargeDepth := 8) [go_sem])
            · replace hr := ifN hr hc
              obtain ⟨v23, hv23, hr⟩ := of_bind0 hr
              try simp only [hv23, Option.getD_some, Option.isSome_some, true_and, and_assoc]
              repeat (first | refine gA ?_ | refine gB ?_)
              refine ⟨fun hc => ?_, fun hc => ?_⟩
              · replace hr := ifP hr hc
                repeat refine gA ?_
                obtain rfl := Option.some.inj hr
                (simp (maxDischargeDepth := 8) [go_sem])
              · replace hr := ifN hr hc
                obtain ⟨v24, hv24, hr⟩ := of_bind0 hr
                try simp only [hv24, Option.getD_some, Option.isSome_some, true_and, and_assoc]
                repeat (first | refine gA ?_ | refine gB ?_)
                obtain rfl := Option.some.inj hr
                (simp (maxDischargeDepth := 8) [go_sem])
theorem f3 : FnFact Tryz.prog 3 T3.sp := ⟨⟨Tryz.f3, Tryz.func3, by decide, rfl⟩, v3⟩
end Go.Proofs.YtcbiiijnaeibhaaGreat

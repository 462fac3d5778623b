/- Contracts of functions, written by wip/dec. -/
import Derived.Test.YtagnplbfdaifkaaF00
import Derived.Test.YtagnplbfdaifkaaF02
import Derived.Test.YtagnplbfdaifkaaF04
import Derived.Test.YtagnplbfdaifkaaF05
import Derived.Test.YtagnplbfdaifkaaF06
set_option linter.unusedVariables false
set_option linter.unusedSimpArgs false
set_option maxHeartbeats 4000000
set_option maxRecDepth 20000
namespace Go.Proofs.Ytagnplbfdaifkaa
open Go.Abs
/- martensite/martensitelaw02.FieldImpedances -/
def r3 (a0_0 : Int) (a0_1 : List (Int × Int × Int)) (a1_0 : Int) (a1_1 : List (Bool)) (a2_0 : Int) (a2_1 : Int) : Option (Bool) :=
  (r15).bind fun v1 =>
   if (!v1) = true then
    some false
    else (r16 a0_0 a0_1).bind fun v2 =>
     if (!(!v2)) = true → (r17 a1_0 a1_1).isSome = true then
      if ((!v2) || (!((r17 a1_0 a1_1).getD default))) = true then
       some true
       else (r19 a0_0 a0_1).bind fun v3 =>
        (r20 a1_0 a1_1).bind fun v4 =>
         (r18 v3.1 v3.2 v4.1 v4.2).bind fun v5 =>
          (r21 v3.1 v3.2 v4.1 v4.2 a2_0 a2_1).bind fun v6 =>
           (r22 a0_0 a0_1 a1_0 a1_1).bind fun v7 =>
            if (v7 != 0) = true then
             some ((((v5.2.2.2.2 == v7) && (v6.2.2.2.2 == v7)) && ((v5.1 == 0) && ((v5.2.1 == 0) && ((v5.2.2.1 == 0) && (v5.2.2.2.1 == 0))))) && ((v6.1 == 0) && ((v6.2.1 == 0) && ((v6.2.2.1 == 0) && (v6.2.2.2.1 == 0)))))
             else if (!(v5.2.2.2.2 != 0)) = true → (r23 a0_0 a0_1 a1_0 a1_1).isSome = true then
              if ((v5.2.2.2.2 != 0) || (!((v5.1 == ((r23 a0_0 a0_1 a1_0 a1_1).getD default).1) && ((v5.2.1 == ((r23 a0_0 a0_1 a1_0 a1_1).getD default).2.1) && ((v5.2.2.1 == ((r23 a0_0 a0_1 a1_0 a1_1).getD default).2.2.1) && (v5.2.2.2.1 == ((r23 a0_0 a0_1 a1_0 a1_1).getD default).2.2.2)))))) = true then
               some false
               else (r24 a0_0 a0_1 a2_0).bind fun v8 =>
                if (!(v8 != 0)) = true → (r24 a0_0 a0_1 a2_1).isSome = true then
                 if ((v8 != 0) || (((r24 a0_0 a0_1 a2_1).getD default) != 0)) = true then
                  some ((v6.2.2.2.2 == 6) && ((v6.1 == 0) && ((v6.2.1 == 0) && ((v6.2.2.1 == 0) && (v6.2.2.2.1 == 0)))))
                  else if (v6.2.2.2.2 == 0) = true → (r25 a0_0 a0_1 a1_0 a1_1 a2_0 a2_1).isSome = true then
                   some ((v6.2.2.2.2 == 0) && ((v6.1 == ((r25 a0_0 a0_1 a1_0 a1_1 a2_0 a2_1).getD default).1) && ((v6.2.1 == ((r25 a0_0 a0_1 a1_0 a1_1 a2_0 a2_1).getD default).2.1) && ((v6.2.2.1 == ((r25 a0_0 a0_1 a1_0 a1_1 a2_0 a2_1).getD default).2.2.1) && (v6.2.2.2.1 == ((r25 a0_0 a0_1 a1_0 a1_1 a2_0 a2_1).getD default).2.2.2)))))
                   else none
                 else none
              else none
      else none
def T3 : TSpec (Int × (List (Int × Int × Int)) × Int × (List (Bool)) × Int × Int) where
  enc x := [.agg [.int .i64 x.1, encF 3 d_III x.2.1], .agg [.int .i64 x.2.2.1, encF 1 d_B x.2.2.2.1], .agg [.int .i64 x.2.2.2.2.1, .int .i64 x.2.2.2.2.2]]
  dec a := (dInt (aCell a 0 0), decF g_III (aCell a 0 1), dInt (aCell a 1 0), decF g_B (aCell a 1 1), dInt (aCell a 2 0), dInt (aCell a 2 1))
  pre x := (r3 x.1 x.2.1 x.2.2.1 x.2.2.2.1 x.2.2.2.2.1 x.2.2.2.2.2).isSome = true
  res x := [.c (.d (.bool ((r3 x.1 x.2.1 x.2.2.1 x.2.2.2.1 x.2.2.2.2.1 x.2.2.2.2.2).getD default)))]
  al := false
def tb3 : Fns := lk [(15, T15.sp), (16, T16.sp), (17, T17.sp), (18, T18.sp), (19, T19.sp), (20, T20.sp), (21, T21.sp), (22, T22.sp), (23, T23.sp), (24, T24.sp), (25, T25.sp)]
theorem tb3_ok : FnsOk Try.prog tb3 := .cons f15 (.cons f16 (.cons f17 (.cons f18 (.cons f19 (.cons f20 (.cons f21 (.cons f22 (.cons f23 (.cons f24 (.cons f25 (FnsOk.nil)))))))))))
theorem tb3_15 : tb3 15 = some T15.sp := rfl
theorem tb3_16 : tb3 16 = some T16.sp := rfl
theorem tb3_17 : tb3 17 = some T17.sp := rfl
theorem tb3_18 : tb3 18 = some T18.sp := rfl
theorem tb3_19 : tb3 19 = some T19.sp := rfl
theorem tb3_20 : tb3 20 = some T20.sp := rfl
theorem tb3_21 : tb3 21 = some T21.sp := rfl
theorem tb3_22 : tb3 22 = some T22.sp := rfl
theorem tb3_23 : tb3 23 = some T23.sp := rfl
theorem tb3_24 : tb3 24 = some T24.sp := rfl
theorem tb3_25 : tb3 25 = some T25.sp := rfl
theorem v3 : Valid Try.prog 3 T3.sp := by
  refine valid_t (fn := Try.f3) (n := 103) ty_ok tb3_ok Try.func3 rfl Try.ntmps3 ?_
  rintro ⟨a0_0, a0_1, a1_0, a1_1, a2_0, a2_1⟩ hx
  obtain ⟨r, hr⟩ := Option.isSome_iff_exists.1 (show (r3 a0_0 a0_1 a1_0 a1_1 a2_0 a2_1).isSome = true from hx)
  have hres : T3.res (a0_0, a0_1, a1_0, a1_1, a2_0, a2_1) = [.c (.d (.bool r))] := by simp only [T3, hr, Option.getD_some]
  refine ⟨Nat.le_of_ble_eq_true rfl, fun stop S => ?_⟩
  rw [hres] at S
  unfold r3 at hr
  refine S.goB [] 1000 ?_
  simp (maxSteps := 10000000) only [go_sem, tb3_15, T15, tb3_16, T16, tb3_17, T17, tb3_18, T18, tb3_19, T19, tb3_20, T20, tb3_21, T21, tb3_22, T22, tb3_23, T23, tb3_24, T24, tb3_25, T25, T3, Bool.not_true, Bool.not_false, Option.map_some, Int.reduceToNat, Nat.reduceEqDiff, Nat.reduceLT, Nat.reduceAdd, Nat.reduceMul, Nat.reduceSub, Nat.reduceLeDiff, reduceIte, reduceCtorEq, Try.results3]
  obtain ⟨v1, hv1, hr⟩ := of_bind0 hr
  try simp only [hv1, Option.getD_some, Option.isSome_some, true_and, and_assoc]
  repeat refine gA ?_
  refine ⟨fun hc => ?_, fun hc => ?_⟩
  · replace hr := ifP hr hc
    repeat refine gA ?_
    obtain rfl := Option.some.inj hr
    (simp (maxDischargeDepth := 8) [go_sem, -List.drop_one])
  · replace hr := ifN hr hc
    obtain ⟨v2, hv2, hr⟩ := of_bind0 hr
    obtain ⟨hg12, hr⟩ := of_guard0 hr
    try simp only [hv2, Option.getD_some, Option.isSome_some, true_and, and_assoc]
    repeat (first | refine gG hg12 ?_ | refine gA ?_ | refine gB ?_)
    refine ⟨fun hc => ?_, fun hc => ?_⟩
    · replace hr := ifP hr hc
      repeat refine gA ?_
      obtain rfl := Option.some.inj hr
      (simp (maxDischargeDepth := 8) [go_sem, -List.drop_one])
    · replace hr := ifN hr hc
      obtain ⟨v3, hv3, hr⟩ := of_bind0 hr
      obtain ⟨v4, hv4, hr⟩ := of_bind0 hr
      obtain ⟨v5, hv5, hr⟩ := of_bind0 hr
      obtain ⟨v6, hv6, hr⟩ := of_bind0 hr
      obtain ⟨v7, hv7, hr⟩ := of_bind0 hr
      try simp only [hv3, hv4, hv5, hv6, hv7, Option.getD_some, Option.isSome_some, true_and, and_assoc]
      repeat refine gA ?_
      refine ⟨fun hc => ?_, fun hc => ?_⟩
      · replace hr := ifP hr hc
        repeat (first | refine gA ?_ | refine gB ?_)
        obtain rfl := Option.some.inj hr
        (simp (maxDischargeDepth := 8) [go_sem, -List.drop_one])
      · replace hr := ifN hr hc
        obtain ⟨hg11, hr⟩ := of_guard0 hr
        repeat (first | refine gG hg11 ?_ | refine gA ?_ | refine gB ?_)
        refine ⟨fun hc => ?_, fun hc => ?_⟩
        · replace hr := ifP hr hc
          repeat refine gA ?_
          obtain rfl := Option.some.inj hr
          (simp (maxDischargeDepth := 8) [go_sem, -List.drop_one])
        · replace hr := ifN hr hc
          obtain ⟨v8, hv8, hr⟩ := of_bind0 hr
          obtain ⟨hg10, hr⟩ := of_guard0 hr
          try simp only [hv8, Option.getD_some, Option.isSome_some, true_and, and_assoc]
          repeat (first | refine gG hg10 ?_ | refine gA ?_ | refine gB ?_)
          refine ⟨fun hc => ?_, fun hc => ?_⟩
          · replace hr := ifP hr hc
            repeat (first | refine gA ?_ | refine gB ?_)
            obtain rfl := Option.some.inj hr
            (simp (maxDischargeDepth := 8) [go_sem, -List.drop_one])
          · replace hr := ifN hr hc
            obtain ⟨hg9, hr⟩ := of_guard0 hr
            repeat (first | refine gG hg9 ?_ | refine gA ?_ | refine gB ?_)
            obtain rfl := Option.some.inj hr
            (simp (maxDischargeDepth := 8) [go_sem, -List.drop_one])
theorem f3 : FnFact Try.prog 3 T3.sp := ⟨⟨Try.f3, Try.func3, by decide, rfl⟩, v3⟩
end Go.Proofs.Ytagnplbfdaifkaa

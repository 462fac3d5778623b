/- Contracts of functions, written by wip/dec. -/
import Derived.Test.YtagnplbfdaifkaaF00
import Derived.Test.YtagnplbfdaifkaaF01
import Derived.Test.YtagnplbfdaifkaaF03
import Derived.Test.YtagnplbfdaifkaaF04
import Derived.Test.YtagnplbfdaifkaaF05
import Derived.Test.YtagnplbfdaifkaaF08
set_option linter.unusedVariables false
set_option linter.unusedSimpArgs false
set_option maxHeartbeats 4000000
set_option maxRecDepth 20000
namespace Go.Proofs.Ytagnplbfdaifkaa
open Go.Abs
/- martensite/martensitelaw02.FieldLadders -/
def r4 (a0_0 : Int) (a0_1 : List (Int × Int × Int)) (a1_0 : Int) (a1_1 : List (Bool)) : Option (Bool) :=
  (r15).bind fun v1 =>
   if (!v1) = true then
    some false
    else (r16 a0_0 a0_1).bind fun v2 =>
     if (!(!v2)) = true → (r17 a1_0 a1_1).isSome = true then
      if ((!v2) || (!((r17 a1_0 a1_1).getD default))) = true then
       some true
       else (r19 a0_0 a0_1).bind fun v3 =>
        (r26 v3.1 v3.2).bind fun v4 =>
         (r20 a1_0 a1_1).bind fun v5 =>
          (r27 v3.1 v3.2 v5.1 v5.2).bind fun v6 =>
           (r28 v3.1 v3.2 v5.1 v5.2).bind fun v7 =>
            (r29 a0_0 a0_1).bind fun v8 =>
             if ((v4.2 != v8.2) || (v4.1 != v8.1)) = true then
              some false
              else (r22 a0_0 a0_1 a1_0 a1_1).bind fun v9 =>
               if (v9 != 0) = true then
                some (((v6 == v9) && (v7.2 == v9)) && ((v7.1.length : Int) == 0))
                else if ((v6 == 0) && (v7.2 == 0)) = true → (r31 a0_0 a0_1 a1_0 a1_1).isSome = true then
                 if ((v6 == 0) && (v7.2 == 0)) = true → (r30 v7.1 ((r31 a0_0 a0_1 a1_0 a1_1).getD default)).isSome = true then
                  some (((v6 == 0) && (v7.2 == 0)) && ((r30 v7.1 ((r31 a0_0 a0_1 a1_0 a1_1).getD default)).getD default))
                  else none
                 else none
      else none
def T4 : TSpec (Int × (List (Int × Int × Int)) × Int × (List (Bool))) where
  enc x := [.agg [.int .i64 x.1, encF 3 d_III x.2.1], .agg [.int .i64 x.2.2.1, encF 1 d_B x.2.2.2]]
  dec a := (dInt (aCell a 0 0), decF g_III (aCell a 0 1), dInt (aCell a 1 0), decF g_B (aCell a 1 1))
  pre x := (r4 x.1 x.2.1 x.2.2.1 x.2.2.2).isSome = true
  res x := [.c (.d (.bool ((r4 x.1 x.2.1 x.2.2.1 x.2.2.2).getD default)))]
  al := false
def tb4 : Fns := lk [(15, T15.sp), (16, T16.sp), (17, T17.sp), (19, T19.sp), (20, T20.sp), (22, T22.sp), (26, T26.sp), (27, T27.sp), (28, T28.sp), (29, T29.sp), (30, T30.sp), (31, T31.sp)]
theorem tb4_ok : FnsOk Try.prog tb4 := .cons f15 (.cons f16 (.cons f17 (.cons f19 (.cons f20 (.cons f22 (.cons f26 (.cons f27 (.cons f28 (.cons f29 (.cons f30 (.cons f31 (FnsOk.nil))))))))))))
theorem tb4_15 : tb4 15 = some T15.sp := rfl
theorem tb4_16 : tb4 16 = some T16.sp := rfl
theorem tb4_17 : tb4 17 = some T17.sp := rfl
theorem tb4_19 : tb4 19 = some T19.sp := rfl
theorem tb4_20 : tb4 20 = some T20.sp := rfl
theorem tb4_22 : tb4 22 = some T22.sp := rfl
theorem tb4_26 : tb4 26 = some T26.sp := rfl
theorem tb4_27 : tb4 27 = some T27.sp := rfl
theorem tb4_28 : tb4 28 = some T28.sp := rfl
theorem tb4_29 : tb4 29 = some T29.sp := rfl
theorem tb4_30 : tb4 30 = some T30.sp := rfl
theorem tb4_31 : tb4 31 = some T31.sp := rfl
theorem v4 : Valid Try.prog 4 T4.sp := by
  refine valid_t (fn := Try.f4) (n := 85) ty_ok tb4_ok Try.func4 rfl Try.ntmps4 ?_
  rintro ⟨a0_0, a0_1, a1_0, a1_1⟩ hx
  obtain ⟨r, hr⟩ := Option.isSome_iff_exists.1 (show (r4 a0_0 a0_1 a1_0 a1_1).isSome = true from hx)
  have hres : T4.res (a0_0, a0_1, a1_0, a1_1) = [.c (.d (.bool r))] := by simp only [T4, hr, Option.getD_some]
  refine ⟨Nat.le_of_ble_eq_true rfl, fun stop S => ?_⟩
  rw [hres] at S
  unfold r4 at hr
  refine S.goB [] 1000 ?_
  simp (maxSteps := 10000000) only [go_sem, tb4_15, T15, tb4_16, T16, tb4_17, T17, tb4_19, T19, tb4_20, T20, tb4_22, T22, tb4_26, T26, tb4_27, T27, tb4_28, T28, tb4_29, T29, tb4_30, T30, tb4_31, T31, T4, Bool.not_true, Bool.not_false, Option.map_some, Int.reduceToNat, Nat.reduceEqDiff, Nat.reduceLT, Nat.reduceAdd, Nat.reduceMul, Nat.reduceSub, Nat.reduceLeDiff, reduceIte, reduceCtorEq, Try.results4]
  obtain ⟨v1, hv1, hr⟩ := of_bind0 hr
  try simp only [hv1, Option.getD_some, Option.isSome_some, true_and, and_assoc]
  repeat refine gA ?_
  refine ⟨fun hc => ?_, fun hc => ?_⟩
  · replace hr := ifP hr hc
    repeat refine gA ?_
    obtain rfl := Option.some.inj hr
    (simp (maxDischargeDepth := 8) [go_sem, -List.drop_one])
  · replace hr := ifN hr hc
    obtain ⟨v2, hv2, hr⟩ := of_bind0 hr
    obtain ⟨hg12, hr⟩ := of_guard0 hr
    try simp only [hv2, Option.getD_some, Option.isSome_some, true_and, and_assoc]
    repeat (first | refine gG hg12 ?_ | refine gA ?_ | refine gB ?_)
    refine ⟨fun hc => ?_, fun hc => ?_⟩
    · replace hr := ifP hr hc
      repeat refine gA ?_
      obtain rfl := Option.some.inj hr
      (simp (maxDischargeDepth := 8) [go_sem, -List.drop_one])
    · replace hr := ifN hr hc
      obtain ⟨v3, hv3, hr⟩ := of_bind0 hr
      obtain ⟨v4, hv4, hr⟩ := of_bind0 hr
      obtain ⟨v5, hv5, hr⟩ := of_bind0 hr
      obtain ⟨v6, hv6, hr⟩ := of_bind0 hr
      obtain ⟨v7, hv7, hr⟩ := of_bind0 hr
      obtain ⟨v8, hv8, hr⟩ := of_bind0 hr
      try simp only [hv3, hv4, hv5, hv6, hv7, hv8, Option.getD_some, Option.isSome_some, true_and, and_assoc]
      repeat (first | refine gA ?_ | refine gB ?_)
      refine ⟨fun hc => ?_, fun hc => ?_⟩
      · replace hr := ifP hr hc
        repeat refine gA ?_
        obtain rfl := Option.some.inj hr
        (simp (maxDischargeDepth := 8) [go_sem, -List.drop_one])
      · replace hr := ifN hr hc
        obtain ⟨v9, hv9, hr⟩ := of_bind0 hr
        try simp only [hv9, Option.getD_some, Option.isSome_some, true_and, and_assoc]
        repeat refine gA ?_
        refine ⟨fun hc => ?_, fun hc => ?_⟩
        · replace hr := ifP hr hc
          repeat (first | refine gA ?_ | refine gB ?_)
          obtain rfl := Option.some.inj hr
          (simp (maxDischargeDepth := 8) [go_sem, -List.drop_one])
        · replace hr := ifN hr hc
          obtain ⟨hg10, hr⟩ := of_guard0 hr
          obtain ⟨hg11, hr⟩ := of_guard0 hr
          repeat (first | refine gG hg10 ?_ | refine gG hg11 ?_ | refine gA ?_ | refine gB ?_)
          obtain rfl := Option.some.inj hr
          (simp (maxDischargeDepth := 8) [go_sem, -List.drop_one])
theorem f4 : FnFact Try.prog 4 T4.sp := ⟨⟨Try.f4, Try.func4, by decide, rfl⟩, v4⟩
end Go.Proofs.Ytagnplbfdaifkaa

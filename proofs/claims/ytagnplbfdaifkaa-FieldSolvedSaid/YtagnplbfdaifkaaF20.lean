/- Contracts of functions, written by wip/dec. -/
import Derived.Test.YtagnplbfdaifkaaF00
import Derived.Test.YtagnplbfdaifkaaF02
import Derived.Test.YtagnplbfdaifkaaF03
import Derived.Test.YtagnplbfdaifkaaF04
import Derived.Test.YtagnplbfdaifkaaF05
import Derived.Test.YtagnplbfdaifkaaF19
set_option linter.unusedVariables false
set_option linter.unusedSimpArgs false
set_option maxHeartbeats 4000000
set_option maxRecDepth 20000
namespace Go.Proofs.Ytagnplbfdaifkaa
open Go.Abs
/- martensite/martensitelaw02.FieldSolved -/
def r10 (a0_0 : Int) (a0_1 : List (Int × Int × Int)) (a1_0 : Int) (a1_1 : List (Bool)) (a2 : List (Int × Int)) : Option (Bool) :=
  (r15).bind fun v1 =>
   if (!v1) = true then
    some false
    else (r16 a0_0 a0_1).bind fun v2 =>
     if (!(!v2)) = true → (r17 a1_0 a1_1).isSome = true then
      if (((!v2) || (!((r17 a1_0 a1_1).getD default))) || (decide ((a2.length : Int) > 8))) = true then
       some true
       else (r19 a0_0 a0_1).bind fun v3 =>
        (r20 a1_0 a1_1).bind fun v4 =>
         (r32 v3.1 v3.2 v4.1 v4.2).bind fun v5 =>
          (r53 v3.1 v3.2 v4.1 v4.2).bind fun v6 =>
           (r55 a2).bind fun v7 =>
            (r54 v3.1 v3.2 v4.1 v4.2 v7).bind fun v8 =>
             (r22 a0_0 a0_1 a1_0 a1_1).bind fun v9 =>
              if (v9 != 0) = true then
               some (((((v5.2 == v9) && (v6.2 == v9)) && (v8.2 == v9)) && ((IntKind.i64.wrap ((v5.1.length : Int) + (v6.1.length : Int))) == 0)) && (v8.1 == 0))
               else (r56 a0_0 a0_1 a1_0 a1_1).bind fun v10 =>
                (r57 a0_0 a0_1 a1_0 a1_1 a2).bind fun v11 =>
                 if (v5.2 == 0) = true → (r58 v5.1 v10.1).isSome = true then
                  if (((v5.2 == 0) && ((r58 v5.1 v10.1).getD default)) && (v6.2 == 0)) = true → (r58 v6.1 v10.2).isSome = true then
                   some ((((((v5.2 == 0) && ((r58 v5.1 v10.1).getD default)) && (v6.2 == 0)) && ((r58 v6.1 v10.2).getD default)) && (v8.2 == v11.2)) && (v8.1 == v11.1))
                   else none
                  else none
      else none
def T10 : TSpec (Int × (List (Int × Int × Int)) × Int × (List (Bool)) × (List (Int × Int))) where
  enc x := [.agg [.int .i64 x.1, encF 3 d_III x.2.1], .agg [.int .i64 x.2.2.1, encF 1 d_B x.2.2.2.1], .c (encF 2 d_II x.2.2.2.2)]
  dec a := (dInt (aCell a 0 0), decF g_III (aCell a 0 1), dInt (aCell a 1 0), decF g_B (aCell a 1 1), decF g_II (aCell a 2 0))
  pre x := (r10 x.1 x.2.1 x.2.2.1 x.2.2.2.1 x.2.2.2.2).isSome = true
  res x := [.c (.d (.bool ((r10 x.1 x.2.1 x.2.2.1 x.2.2.2.1 x.2.2.2.2).getD default)))]
  al := false
def tb10 : Fns := lk [(15, T15.sp), (16, T16.sp), (17, T17.sp), (19, T19.sp), (20, T20.sp), (22, T22.sp), (32, T32.sp), (53, T53.sp), (54, T54.sp), (55, T55.sp), (56, T56.sp), (57, T57.sp), (58, T58.sp)]
theorem tb10_ok : FnsOk Try.prog tb10 := .cons f15 (.cons f16 (.cons f17 (.cons f19 (.cons f20 (.cons f22 (.cons f32 (.cons f53 (.cons f54 (.cons f55 (.cons f56 (.cons f57 (.cons f58 (FnsOk.nil)))))))))))))
theorem tb10_15 : tb10 15 = some T15.sp := rfl
theorem tb10_16 : tb10 16 = some T16.sp := rfl
theorem tb10_17 : tb10 17 = some T17.sp := rfl
theorem tb10_19 : tb10 19 = some T19.sp := rfl
theorem tb10_20 : tb10 20 = some T20.sp := rfl
theorem tb10_22 : tb10 22 = some T22.sp := rfl
theorem tb10_32 : tb10 32 = some T32.sp := rfl
theorem tb10_53 : tb10 53 = some T53.sp := rfl
theorem tb10_54 : tb10 54 = some T54.sp := rfl
theorem tb10_55 : tb10 55 = some T55.sp := rfl
theorem tb10_56 : tb10 56 = some T56.sp := rfl
theorem tb10_57 : tb10 57 = some T57.sp := rfl
theorem tb10_58 : tb10 58 = some T58.sp := rfl
theorem v10 : Valid Try.prog 10 T10.sp := by
  refine valid_t (fn := Try.f10) (n := 128) ty_ok tb10_ok Try.func10 rfl Try.ntmps10 ?_
  rintro ⟨a0_0, a0_1, a1_0, a1_1, a2⟩ hx
  obtain ⟨r, hr⟩ := Option.isSome_iff_exists.1 (show (r10 a0_0 a0_1 a1_0 a1_1 a2).isSome = true from hx)
  have hres : T10.res (a0_0, a0_1, a1_0, a1_1, a2) = [.c (.d (.bool r))] := by simp only [T10, hr, Option.getD_some]
  refine ⟨Nat.le_of_ble_eq_true rfl, fun stop S => ?_⟩
  rw [hres] at S
  unfold r10 at hr
  refine S.goB [] 1000 ?_
  simp (maxSteps := 10000000) only [go_sem, tb10_15, T15, tb10_16, T16, tb10_17, T17, tb10_19, T19, tb10_20, T20, tb10_22, T22, tb10_32, T32, tb10_53, T53, tb10_54, T54, tb10_55, T55, tb10_56, T56, tb10_57, T57, tb10_58, T58, T10, Bool.not_true, Bool.not_false, Option.map_some, Int.reduceToNat, Nat.reduceEqDiff, Nat.reduceLT, Nat.reduceAdd, Nat.reduceMul, Nat.reduceSub, Nat.reduceLeDiff, reduceIte, reduceCtorEq, Try.results10]
  obtain ⟨v1, hv1, hr⟩ := of_bind0 hr
  try simp only [hv1, Option.getD_some, Option.isSome_some, true_and, and_assoc]
  repeat refine gA ?_
  refine ⟨fun hc => ?_, fun hc => ?_⟩
  · replace hr := ifP hr hc
    repeat refine gA ?_
    obtain rfl := Option.some.inj hr
    (simp (maxDischargeDepth := 8) [go_sem, -List.drop_one])
  · replace hr := ifN hr hc
    obtain ⟨v2, hv2, hr⟩ := of_bind0 hr
    obtain ⟨hg14, hr⟩ := of_guard0 hr
    try simp only [hv2, Option.getD_some, Option.isSome_some, true_and, and_assoc]
    repeat (first | refine gG hg14 ?_ | refine gA ?_ | refine gB ?_)
    refine ⟨fun hc => ?_, fun hc => ?_⟩
    · replace hr := ifP hr hc
      repeat refine gA ?_
      obtain rfl := Option.some.inj hr
      (simp (maxDischargeDepth := 8) [go_sem, -List.drop_one])
    · replace hr := ifN hr hc
      obtain ⟨v3, hv3, hr⟩ := of_bind0 hr
      obtain ⟨v4, hv4, hr⟩ := of_bind0 hr
      obtain ⟨v5, hv5, hr⟩ := of_bind0 hr
      obtain ⟨v6, hv6, hr⟩ := of_bind0 hr
      obtain ⟨v7, hv7, hr⟩ := of_bind0 hr
      obtain ⟨v8, hv8, hr⟩ := of_bind0 hr
      obtain ⟨v9, hv9, hr⟩ := of_bind0 hr
      try simp only [hv3, hv4, hv5, hv6, hv7, hv8, hv9, Option.getD_some, Option.isSome_some, true_and, and_assoc]
      repeat refine gA ?_
      refine ⟨fun hc => ?_, fun hc => ?_⟩
      · replace hr := ifP hr hc
        repeat (first | refine gA ?_ | refine gB ?_)
        obtain rfl := Option.some.inj hr
        (simp (maxDischargeDepth := 8) [go_sem, -List.drop_one])
      · replace hr := ifN hr hc
        obtain ⟨v10, hv10, hr⟩ := of_bind0 hr
        obtain ⟨v11, hv11, hr⟩ := of_bind0 hr
        obtain ⟨hg12, hr⟩ := of_guard0 hr
        obtain ⟨hg13, hr⟩ := of_guard0 hr
        try simp only [hv10, hv11, Option.getD_some, Option.isSome_some, true_and, and_assoc]
        repeat (first | refine gG hg12 ?_ | refine gG hg13 ?_ | refine gA ?_ | refine gB ?_)
        obtain rfl := Option.some.inj hr
        (simp (maxDischargeDepth := 8) [go_sem, -List.drop_one])
theorem f10 : FnFact Try.prog 10 T10.sp := ⟨⟨Try.f10, Try.func10, by decide, rfl⟩, v10⟩
end Go.Proofs.Ytagnplbfdaifkaa

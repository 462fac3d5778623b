/- Contracts of functions, written by wip/dec. -/
import Derived.Test.YtagnplbfdaifkaaF00
import Derived.Test.YtagnplbfdaifkaaF04
import Derived.Test.YtagnplbfdaifkaaF05
import Derived.Test.YtagnplbfdaifkaaF12
import Derived.Test.YtagnplbfdaifkaaF24
set_option linter.unusedVariables false
set_option linter.unusedSimpArgs false
set_option maxHeartbeats 4000000
set_option maxRecDepth 20000
namespace Go.Proofs.Ytagnplbfdaifkaa
open Go.Abs
/- martensite/martensitelaw02.FieldClasses -/
def r11 (a0_0 : Int) (a0_1 : List (Int × Int × Int)) (a0_2 : List (Int × Int)) (a1_0 : Int) (a1_1 : List (Bool)) (a2 : Int) : Option (Bool) :=
  (r15).bind fun v1 =>
   if (!v1) = true then
    some false
    else (r16 a0_0 a0_1).bind fun v2 =>
     if (!(!v2)) = true → (r17 a1_0 a1_1).isSome = true then
      if (((!v2) || (!((r17 a1_0 a1_1).getD default))) || (decide ((a0_2.length : Int) > 6))) = true then
       some true
       else (r60 a0_0 a0_1 a0_2).bind fun v3 =>
        (r59 v3.1 v3.2.1 v3.2.2).bind fun v4 =>
         (r20 a1_0 a1_1).bind fun v5 =>
          (r61 v3.1 v3.2.1 v3.2.2 v5.1 v5.2 a2).bind fun v6 =>
           (r62 a0_0 a0_1 a0_2).bind fun v7 =>
            if ((v4.2 != v7.2) || (v4.1 != v7.1)) = true then
             some false
             else if (v7.2 == 0) = true then
              (r63 a0_0 a0_1 a1_0 a1_1).bind fun v8 =>
               if (v8 == 0) = true then
                (r37 a2).bind fun v9 =>
                 if (v9 != 0) = true then
                  some ((v6.2 == v9) && ((v6.1.length : Int) == 0))
                  else if (v6.2 == 0) = true → (r65 a0_0 a0_1 a0_2 a1_0 a1_1 a2).isSome = true then
                   if (v6.2 == 0) = true → (r64 v6.1 ((r65 a0_0 a0_1 a0_2 a1_0 a1_1 a2).getD default)).isSome = true then
                    some ((v6.2 == 0) && ((r64 v6.1 ((r65 a0_0 a0_1 a0_2 a1_0 a1_1 a2).getD default)).getD default))
                    else none
                   else none
                else if (v8 != 0) = true then
                 some ((v6.2 == v8) && ((v6.1.length : Int) == 0))
                 else if (v6.2 == 0) = true → (r65 a0_0 a0_1 a0_2 a1_0 a1_1 a2).isSome = true then
                  if (v6.2 == 0) = true → (r64 v6.1 ((r65 a0_0 a0_1 a0_2 a1_0 a1_1 a2).getD default)).isSome = true then
                   some ((v6.2 == 0) && ((r64 v6.1 ((r65 a0_0 a0_1 a0_2 a1_0 a1_1 a2).getD default)).getD default))
                   else none
                  else none
              else if (v7.2 == 0) = true then
               (r37 a2).bind fun v14 =>
                if (v14 != 0) = true then
                 some ((v6.2 == v14) && ((v6.1.length : Int) == 0))
                 else if (v6.2 == 0) = true → (r65 a0_0 a0_1 a0_2 a1_0 a1_1 a2).isSome = true then
                  if (v6.2 == 0) = true → (r64 v6.1 ((r65 a0_0 a0_1 a0_2 a1_0 a1_1 a2).getD default)).isSome = true then
                   some ((v6.2 == 0) && ((r64 v6.1 ((r65 a0_0 a0_1 a0_2 a1_0 a1_1 a2).getD default)).getD default))
                   else none
                  else none
               else if (v7.2 != 0) = true then
                some ((v6.2 == v7.2) && ((v6.1.length : Int) == 0))
                else if (v6.2 == 0) = true → (r65 a0_0 a0_1 a0_2 a1_0 a1_1 a2).isSome = true then
                 if (v6.2 == 0) = true → (r64 v6.1 ((r65 a0_0 a0_1 a0_2 a1_0 a1_1 a2).getD default)).isSome = true then
                  some ((v6.2 == 0) && ((r64 v6.1 ((r65 a0_0 a0_1 a0_2 a1_0 a1_1 a2).getD default)).getD default))
                  else none
                 else none
      else none
def T11 : TSpec (Int × (List (Int × Int × Int)) × (List (Int × Int)) × Int × (List (Bool)) × Int) where
  enc x := [.agg [.int .i64 x.1, encF 3 d_III x.2.1, encF 2 d_II x.2.2.1], .agg [.int .i64 x.2.2.2.1, encF 1 d_B x.2.2.2.2.1], .c (.int .i64 x.2.2.2.2.2)]
  dec a := (dInt (aCell a 0 0), decF g_III (aCell a 0 1), decF g_II (aCell a 0 2), dInt (aCell a 1 0), decF g_B (aCell a 1 1), dInt (aCell a 2 0))
  pre x := (r11 x.1 x.2.1 x.2.2.1 x.2.2.2.1 x.2.2.2.2.1 x.2.2.2.2.2).isSome = true
  res x := [.c (.d (.bool ((r11 x.1 x.2.1 x.2.2.1 x.2.2.2.1 x.2.2.2.2.1 x.2.2.2.2.2).getD default)))]
  al := false
def tb11 : Fns := lk [(15, T15.sp), (16, T16.sp), (17, T17.sp), (20, T20.sp), (37, T37.sp), (59, T59.sp), (60, T60.sp), (61, T61.sp), (62, T62.sp), (63, T63.sp), (64, T64.sp), (65, T65.sp)]
theorem tb11_ok : FnsOk Try.prog tb11 := .cons f15 (.cons f16 (.cons f17 (.cons f20 (.cons f37 (.cons f59 (.cons f60 (.cons f61 (.cons f62 (.cons f63 (.cons f64 (.cons f65 (FnsOk.nil))))))))))))
theorem tb11_15 : tb11 15 = some T15.sp := rfl
theorem tb11_16 : tb11 16 = some T16.sp := rfl
theorem tb11_17 : tb11 17 = some T17.sp := rfl
theorem tb11_20 : tb11 20 = some T20.sp := rfl
theorem tb11_37 : tb11 37 = some T37.sp := rfl
theorem tb11_59 : tb11 59 = some T59.sp := rfl
theorem tb11_60 : tb11 60 = some T60.sp := rfl
theorem tb11_61 : tb11 61 = some T61.sp := rfl
theorem tb11_62 : tb11 62 = some T62.sp := rfl
theorem tb11_63 : tb11 63 = some T63.sp := rfl
theorem tb11_64 : tb11 64 = some T64.sp := rfl
theorem tb11_65 : tb11 65 = some T65.sp := rfl
theorem v11 : Valid Try.prog 11 T11.sp := by
  refine valid_t (fn := Try.f11) (n := 88) ty_ok tb11_ok Try.func11 rfl Try.ntmps11 ?_
  rintro ⟨a0_0, a0_1, a0_2, a1_0, a1_1, a2⟩ hx
  obtain ⟨r, hr⟩ := Option.isSome_iff_exists.1 (show (r11 a0_0 a0_1 a0_2 a1_0 a1_1 a2).isSome = true from hx)
  have hres : T11.res (a0_0, a0_1, a0_2, a1_0, a1_1, a2) = [.c (.d (.bool r))] := by simp only [T11, hr, Option.getD_some]
  refine ⟨Nat.le_of_ble_eq_true rfl, fun stop S => ?_⟩
  rw [hres] at S
  unfold r11 at hr
  refine S.goB [] 1000 ?_
  simp (maxSteps := 10000000) only [go_sem, tb11_15, T15, tb11_16, T16, tb11_17, T17, tb11_20, T20, tb11_37, T37, tb11_59, T59, tb11_60, T60, tb11_61, T61, tb11_62, T62, tb11_63, T63, tb11_64, T64, tb11_65, T65, T11, Bool.not_true, Bool.not_false, Option.map_some, Int.reduceToNat, Nat.reduceEqDiff, Nat.reduceLT, Nat.reduceAdd, Nat.reduceMul, Nat.reduceSub, Nat.reduceLeDiff, reduceIte, reduceCtorEq, Try.results11]
  obtain ⟨v1, hv1, hr⟩ := of_bind0 hr
  try simp only [hv1, Option.getD_some, Option.isSome_some, true_and, and_assoc]
  repeat refine gA ?_
  refine ⟨fun hc => ?_, fun hc => ?_⟩
  · replace hr := ifP hr hc
    repeat refine gA ?_
    obtain rfl := Option.some.inj hr
    (simp (maxDischargeDepth := 8) [go_sem, -List.drop_one])
  · replace hr := ifN hr hc
    obtain ⟨v2, hv2, hr⟩ := of_bind0 hr
    obtain ⟨hg19, hr⟩ := of_guard0 hr
    try simp only [hv2, Option.getD_some, Option.isSome_some, true_and, and_assoc]
    repeat (first | refine gG hg19 ?_ | refine gA ?_ | refine gB ?_)
    refine ⟨fun hc => ?_, fun hc => ?_⟩
    · replace hr := ifP hr hc
      repeat refine gA ?_
      obtain rfl := Option.some.inj hr
      (simp (maxDischargeDepth := 8) [go_sem, -List.drop_one])
    · replace hr := ifN hr hc
      obtain ⟨v3, hv3, hr⟩ := of_bind0 hr
      obtain ⟨v4, hv4, hr⟩ := of_bind0 hr
      obtain ⟨v5, hv5, hr⟩ := of_bind0 hr
      obtain ⟨v6, hv6, hr⟩ := of_bind0 hr
      obtain ⟨v7, hv7, hr⟩ := of_bind0 hr
      try simp only [hv3, hv4, hv5, hv6, hv7, Option.getD_some, Option.isSome_some, true_and, and_assoc]
      repeat (first | refine gA ?_ | refine gB ?_)
      refine ⟨fun hc => ?_, fun hc => ?_⟩
      · replace hr := ifP hr hc
        repeat refine gA ?_
        obtain rfl := Option.some.inj hr
        (simp (maxDischargeDepth := 8) [go_sem, -List.drop_one])
      · replace hr := ifN hr hc
        repeat refine gA ?_
        refine ⟨fun hc => ?_, fun hc => ?_⟩
        · replace hr := ifP hr hc
          obtain ⟨v8, hv8, hr⟩ := of_bind0 hr
          try simp only [hv8, Option.getD_some, Option.isSome_some, true_and, and_assoc]
          repeat refine gA ?_
          refine ⟨fun hc => ?_, fun hc => ?_⟩
          · replace hr := ifP hr hc
            obtain ⟨v9, hv9, hr⟩ := of_bind0 hr
            try simp only [hv9, Option.getD_some, Option.isSome_some, true_and, and_assoc]
            repeat refine gA ?_
            refine ⟨fun hc => ?_, fun hc => ?_⟩
            · replace hr := ifP hr hc
              repeat (first | refine gA ?_ | refine gB ?_)
              obtain rfl := Option.some.inj hr
              (simp (maxDischargeDepth := 8) [go_sem, -List.drop_one])
            · replace hr := ifN hr hc
              obtain ⟨hg10, hr⟩ := of_guard0 hr
              obtain ⟨hg11, hr⟩ := of_guard0 hr
              repeat (first | refine gG hg10 ?_ | refine gG hg11 ?_ | refine gA ?_ | refine gB ?_)
              obtain rfl := Option.some.inj hr
              (simp (maxDischargeDepth := 8) [go_sem, -List.drop_one])
          · replace hr := ifN hr hc
            repeat refine gA ?_
            refine ⟨fun hc => ?_, fun hc => ?_⟩
            · replace hr := ifP hr hc
              repeat (first | refine gA ?_ | refine gB ?_)
              obtain rfl := Option.some.inj hr
              (simp (maxDischargeDepth := 8) [go_sem, -List.drop_one])
            · replace hr := ifN hr hc
              obtain ⟨hg12, hr⟩ := of_guard0 hr
              obtain ⟨hg13, hr⟩ := of_guard0 hr
              repeat (first | refine gG hg12 ?_ | refine gG hg13 ?_ | refine gA ?_ | refine gB ?_)
              obtain rfl := Option.some.inj hr
              (simp (maxDischargeDepth := 8) [go_sem, -List.drop_one])
        · replace hr := ifN hr hc
          repeat refine gA ?_
          refine ⟨fun hc => ?_, fun hc => ?_⟩
          · replace hr := ifP hr hc
            obtain ⟨v14, hv14, hr⟩ := of_bind0 hr
            try simp only [hv14, Option.getD_some, Option.isSome_some, true_and, and_assoc]
            repeat refine gA ?_
            refine ⟨fun hc => ?_, fun hc => ?_⟩
            · replace hr := ifP hr hc
              repeat (first | refine gA ?_ | refine gB ?_)
              obtain rfl := Option.some.inj hr
              (simp (maxDischargeDepth := 8) [go_sem, -List.drop_one])
            · replace hr := ifN hr hc
              obtain ⟨hg15, hr⟩ := of_guard0 hr
              obtain ⟨hg16, hr⟩ := of_guard0 hr
              repeat (first | refine gG hg15 ?_ | refine gG hg16 ?_ | refine gA ?_ | refine gB ?_)
              obtain rfl := Option.some.inj hr
              (simp (maxDischargeDepth := 8) [go_sem, -List.drop_one])
          · replace hr := ifN hr hc
            repeat refine gA ?_
            refine ⟨fun hc => ?_, fun hc => ?_⟩
            · replace hr := ifP hr hc
              repeat (first | refine gA ?_ | refine gB ?_)
              obtain rfl := Option.some.inj hr
              (simp (maxDischargeDepth := 8) [go_sem, -List.drop_one])
            · replace hr := ifN hr hc
              obtain ⟨hg17, hr⟩ := of_guard0 hr
              obtain ⟨hg18, hr⟩ := of_guard0 hr
              repeat (first | refine gG hg17 ?_ | refine gG hg18 ?_ | refine gA ?_ | refine gB ?_)
              obtain rfl := Option.some.inj hr
              (simp (maxDischargeDepth := 8) [go_sem, -List.drop_one])
theorem f11 : FnFact Try.prog 11 T11.sp := ⟨⟨Try.f11, Try.func11, by decide, rfl⟩, v11⟩
end Go.Proofs.Ytagnplbfdaifkaa

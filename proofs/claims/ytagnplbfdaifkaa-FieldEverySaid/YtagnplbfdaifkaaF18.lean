/- Contracts of functions, written by wip/dec. -/
import Derived.Test.YtagnplbfdaifkaaF00
import Derived.Test.YtagnplbfdaifkaaF02
import Derived.Test.YtagnplbfdaifkaaF03
import Derived.Test.YtagnplbfdaifkaaF04
import Derived.Test.YtagnplbfdaifkaaF05
import Derived.Test.YtagnplbfdaifkaaF06
import Derived.Test.YtagnplbfdaifkaaF10
import Derived.Test.YtagnplbfdaifkaaF12
import Derived.Test.YtagnplbfdaifkaaF17
set_option linter.unusedVariables false
set_option linter.unusedSimpArgs false
set_option maxHeartbeats 4000000
set_option maxRecDepth 20000
namespace Go.Proofs.Ytagnplbfdaifkaa
open Go.Abs
/- martensite/martensitelaw02.FieldPowers -/
def r9 (a0_0 : Int) (a0_1 : List (Int × Int × Int)) (a1_0 : Int) (a1_1 : List (Bool)) (a2_0 : Int) (a2_1 : Int) (a2_2 : Int) : Option (Bool) :=
  (r15).bind fun v1 =>
   if (!v1) = true then
    some false
    else (r16 a0_0 a0_1).bind fun v2 =>
     if (!(!v2)) = true → (r17 a1_0 a1_1).isSome = true then
      if ((!v2) || (!((r17 a1_0 a1_1).getD default))) = true then
       some true
       else (r19 a0_0 a0_1).bind fun v3 =>
        (r20 a1_0 a1_1).bind fun v4 =>
         (r36 v3.1 v3.2 v4.1 v4.2).bind fun v5 =>
          (r46 v3.1 v3.2 v4.1 v4.2 a2_0).bind fun v6 =>
           (r38 v3.1 v3.2 v4.1 v4.2 a2_1).bind fun v7 =>
            (r39 v3.1 v3.2 v4.1 v4.2 a2_2).bind fun v8 =>
             (r22 a0_0 a0_1 a1_0 a1_1).bind fun v9 =>
              if (v9 != 0) = true then
               some (((((((v5.2 == v9) && (v6.2.2 == v9)) && (v7.2 == v9)) && (v8.2 == v9)) && ((IntKind.i64.wrap ((v5.1.length : Int) + (v7.1.length : Int))) == 0)) && ((v6.1 == 0) && (v6.2.1 == 0))) && (v8.1 == 0))
               else (r47 a0_0 a0_1 a1_0 a1_1).bind fun v10 =>
                if (!(v5.2 != 0)) = true → (r30 v5.1 v10).isSome = true then
                 if ((v5.2 != 0) || (!((r30 v5.1 v10).getD default))) = true then
                  some false
                  else (r24 a0_0 a0_1 a2_0).bind fun v11 =>
                   if (v11 != 0) = true then
                    if ((v6.2.2 != v11) || (!((v6.1 == 0) && (v6.2.1 == 0)))) = true then
                     some false
                     else (r37 a2_1).bind fun v12 =>
                      if (((!((v12 != 0) && ((v7.2 != v12) || ((v7.1.length : Int) != 0)))) && (v12 == 0)) && (!(v7.2 != 0))) = true → (r51 a0_0 a0_1 a1_0 a1_1 a2_1).isSome = true then
                       if (((!((v12 != 0) && ((v7.2 != v12) || ((v7.1.length : Int) != 0)))) && (v12 == 0)) && (!(v7.2 != 0))) = true → (r30 v7.1 ((r51 a0_0 a0_1 a1_0 a1_1 a2_1).getD default)).isSome = true then
                        if (((v12 != 0) && ((v7.2 != v12) || ((v7.1.length : Int) != 0))) || ((v12 == 0) && ((v7.2 != 0) || (!((r30 v7.1 ((r51 a0_0 a0_1 a1_0 a1_1 a2_1).getD default)).getD default))))) = true then
                         some false
                         else (r33 a2_2 1 100).bind fun v13 =>
                          if (!v13) = true then
                           some ((v8.2 == 2) && (v8.1 == 0))
                           else if (v8.2 == 0) = true → (r52 a0_0 a0_1 a1_0 a1_1 a2_2).isSome = true then
                            some ((v8.2 == 0) && (v8.1 == ((r52 a0_0 a0_1 a1_0 a1_1 a2_2).getD default)))
                            else none
                        else none
                       else none
                    else if 0 ≤ a2_0 ∧ a2_0 < (v10.length : Int) then
                     (r49 v10).bind fun v17 =>
                      (r48 (v10.getD a2_0.toNat default) v17).bind fun v18 =>
                       (r50 v18.1 v18.2).bind fun v19 =>
                        if ((v19 && ((v6.2.2 != 0) || (!((v6.1 == v18.1) && (v6.2.1 == v18.2))))) || ((!v19) && ((v6.2.2 != 8) || (!((v6.1 == 0) && (v6.2.1 == 0)))))) = true then
                         some false
                         else (r37 a2_1).bind fun v20 =>
                          if (((!((v20 != 0) && ((v7.2 != v20) || ((v7.1.length : Int) != 0)))) && (v20 == 0)) && (!(v7.2 != 0))) = true → (r51 a0_0 a0_1 a1_0 a1_1 a2_1).isSome = true then
                           if (((!((v20 != 0) && ((v7.2 != v20) || ((v7.1.length : Int) != 0)))) && (v20 == 0)) && (!(v7.2 != 0))) = true → (r30 v7.1 ((r51 a0_0 a0_1 a1_0 a1_1 a2_1).getD default)).isSome = true then
                            if (((v20 != 0) && ((v7.2 != v20) || ((v7.1.length : Int) != 0))) || ((v20 == 0) && ((v7.2 != 0) || (!((r30 v7.1 ((r51 a0_0 a0_1 a1_0 a1_1 a2_1).getD default)).getD default))))) = true then
                             some false
                             else (r33 a2_2 1 100).bind fun v21 =>
                              if (!v21) = true then
                               some ((v8.2 == 2) && (v8.1 == 0))
                               else if (v8.2 == 0) = true → (r52 a0_0 a0_1 a1_0 a1_1 a2_2).isSome = true then
                                some ((v8.2 == 0) && (v8.1 == ((r52 a0_0 a0_1 a1_0 a1_1 a2_2).getD default)))
                                else none
                            else none
                           else none
                     else none
                 else none
      else none
def T9 : TSpec (Int × (List (Int × Int × Int)) × Int × (List (Bool)) × Int × Int × Int) where
  enc x := [.agg [.int .i64 x.1, encF 3 d_III x.2.1], .agg [.int .i64 x.2.2.1, encF 1 d_B x.2.2.2.1], .agg [.int .i64 x.2.2.2.2.1, .int .i64 x.2.2.2.2.2.1, .int .i64 x.2.2.2.2.2.2]]
  dec a := (dInt (aCell a 0 0), decF g_III (aCell a 0 1), dInt (aCell a 1 0), decF g_B (aCell a 1 1), dInt (aCell a 2 0), dInt (aCell a 2 1), dInt (aCell a 2 2))
  pre x := (r9 x.1 x.2.1 x.2.2.1 x.2.2.2.1 x.2.2.2.2.1 x.2.2.2.2.2.1 x.2.2.2.2.2.2).isSome = true
  res x := [.c (.d (.bool ((r9 x.1 x.2.1 x.2.2.1 x.2.2.2.1 x.2.2.2.2.1 x.2.2.2.2.2.1 x.2.2.2.2.2.2).getD default)))]
  al := false
def tb9 : Fns := lk [(15, T15.sp), (16, T16.sp), (17, T17.sp), (19, T19.sp), (20, T20.sp), (22, T22.sp), (24, T24.sp), (30, T30.sp), (33, T33.sp), (36, T36.sp), (37, T37.sp), (38, T38.sp), (39, T39.sp), (46, T46.sp), (47, T47.sp), (48, T48.sp), (49, T49.sp), (50, T50.sp), (51, T51.sp), (52, T52.sp)]
theorem tb9_ok : FnsOk Try.prog tb9 := .cons f15 (.cons f16 (.cons f17 (.cons f19 (.cons f20 (.cons f22 (.cons f24 (.cons f30 (.cons f33 (.cons f36 (.cons f37 (.cons f38 (.cons f39 (.cons f46 (.cons f47 (.cons f48 (.cons f49 (.cons f50 (.cons f51 (.cons f52 (FnsOk.nil))))))))))))))))))))
theorem tb9_15 : tb9 15 = some T15.sp := rfl
theorem tb9_16 : tb9 16 = some T16.sp := rfl
theorem tb9_17 : tb9 17 = some T17.sp := rfl
theorem tb9_19 : tb9 19 = some T19.sp := rfl
theorem tb9_20 : tb9 20 = some T20.sp := rfl
theorem tb9_22 : tb9 22 = some T22.sp := rfl
theorem tb9_24 : tb9 24 = some T24.sp := rfl
theorem tb9_30 : tb9 30 = some T30.sp := rfl
theorem tb9_33 : tb9 33 = some T33.sp := rfl
theorem tb9_36 : tb9 36 = some T36.sp := rfl
theorem tb9_37 : tb9 37 = some T37.sp := rfl
theorem tb9_38 : tb9 38 = some T38.sp := rfl
theorem tb9_39 : tb9 39 = some T39.sp := rfl
theorem tb9_46 : tb9 46 = some T46.sp := rfl
theorem tb9_47 : tb9 47 = some T47.sp := rfl
theorem tb9_48 : tb9 48 = some T48.sp := rfl
theorem tb9_49 : tb9 49 = some T49.sp := rfl
theorem tb9_50 : tb9 50 = some T50.sp := rfl
theorem tb9_51 : tb9 51 = some T51.sp := rfl
theorem tb9_52 : tb9 52 = some T52.sp := rfl
theorem v9 : Valid Try.prog 9 T9.sp := by
  refine valid_t (fn := Try.f9) (n := 220) ty_ok tb9_ok Try.func9 rfl Try.ntmps9 ?_
  rintro ⟨a0_0, a0_1, a1_0, a1_1, a2_0, a2_1, a2_2⟩ hx
  obtain ⟨r, hr⟩ := Option.isSome_iff_exists.1 (show (r9 a0_0 a0_1 a1_0 a1_1 a2_0 a2_1 a2_2).isSome = true from hx)
  have hres : T9.res (a0_0, a0_1, a1_0, a1_1, a2_0, a2_1, a2_2) = [.c (.d (.bool r))] := by simp only [T9, hr, Option.getD_some]
  refine ⟨Nat.le_of_ble_eq_true rfl, fun stop S => ?_⟩
  rw [hres] at S
  unfold r9 at hr
  refine S.goB [] 1000 ?_
  simp (maxSteps := 10000000) only [go_sem, tb9_15, T15, tb9_16, T16, tb9_17, T17, tb9_19, T19, tb9_20, T20, tb9_22, T22, tb9_24, T24, tb9_30, T30, tb9_33, T33, tb9_36, T36, tb9_37, T37, tb9_38, T38, tb9_39, T39, tb9_46, T46, tb9_47, T47, tb9_48, T48, tb9_49, T49, tb9_50, T50, tb9_51, T51, tb9_52, T52, T9, Bool.not_true, Bool.not_false, Option.map_some, Int.reduceToNat, Nat.reduceEqDiff, Nat.reduceLT, Nat.reduceAdd, Nat.reduceMul, Nat.reduceSub, Nat.reduceLeDiff, reduceIte, reduceCtorEq, Try.results9]
  obtain ⟨v1, hv1, hr⟩ := of_bind0 hr
  try simp only [hv1, Option.getD_some, Option.isSome_some, true_and, and_assoc]
  repeat refine gA ?_
  refine ⟨fun hc => ?_, fun hc => ?_⟩
  · replace hr := ifP hr hc
    repeat refine gA ?_
    obtain rfl := Option.some.inj hr
    (simp (maxDischargeDepth := 8) [go_sem, -List.drop_one])
  · replace hr := ifN hr hc
    obtain ⟨v2, hv2, hr⟩ := of_bind0 hr
    obtain ⟨hg27, hr⟩ := of_guard0 hr
    try simp only [hv2, Option.getD_some, Option.isSome_some, true_and, and_assoc]
    repeat (first | refine gG hg27 ?_ | refine gA ?_ | refine gB ?_)
    refine ⟨fun hc => ?_, fun hc => ?_⟩
    · replace hr := ifP hr hc
      repeat refine gA ?_
      obtain rfl := Option.some.inj hr
      (simp (maxDischargeDepth := 8) [go_sem, -List.drop_one])
    · replace hr := ifN hr hc
      obtain ⟨v3, hv3, hr⟩ := of_bind0 hr
      obtain ⟨v4, hv4, hr⟩ := of_bind0 hr
      obtain ⟨v5, hv5, hr⟩ := of_bind0 hr
      obtain ⟨v6, hv6, hr⟩ := of_bind0 hr
      obtain ⟨v7, hv7, hr⟩ := of_bind0 hr
      obtain ⟨v8, hv8, hr⟩ := of_bind0 hr
      obtain ⟨v9, hv9, hr⟩ := of_bind0 hr
      try simp only [hv3, hv4, hv5, hv6, hv7, hv8, hv9, Option.getD_some, Option.isSome_some, true_and, and_assoc]
      repeat refine gA ?_
      refine ⟨fun hc => ?_, fun hc => ?_⟩
      · replace hr := ifP hr hc
        repeat (first | refine gA ?_ | refine gB ?_)
        obtain rfl := Option.some.inj hr
        (simp (maxDischargeDepth := 8) [go_sem, -List.drop_one])
      · replace hr := ifN hr hc
        obtain ⟨v10, hv10, hr⟩ := of_bind0 hr
        obtain ⟨hg26, hr⟩ := of_guard0 hr
        try simp only [hv10, Option.getD_some, Option.isSome_some, true_and, and_assoc]
        repeat (first | refine gG hg26 ?_ | refine gA ?_ | refine gB ?_)
        refine ⟨fun hc => ?_, fun hc => ?_⟩
        · replace hr := ifP hr hc
          repeat refine gA ?_
          obtain rfl := Option.some.inj hr
          (simp (maxDischargeDepth := 8) [go_sem, -List.drop_one])
        · replace hr := ifN hr hc
          obtain ⟨v11, hv11, hr⟩ := of_bind0 hr
          try simp only [hv11, Option.getD_some, Option.isSome_some, true_and, and_assoc]
          repeat refine gA ?_
          refine ⟨fun hc => ?_, fun hc => ?_⟩
          · replace hr := ifP hr hc
            repeat (first | refine gA ?_ | refine gB ?_)
            refine ⟨fun hc => ?_, fun hc => ?_⟩
            · replace hr := ifP hr hc
              repeat refine gA ?_
              obtain rfl := Option.some.inj hr
              (simp (maxDischargeDepth := 8) [go_sem, -List.drop_one])
            · replace hr := ifN hr hc
              obtain ⟨v12, hv12, hr⟩ := of_bind0 hr
              obtain ⟨hg15, hr⟩ := of_guard0 hr
              obtain ⟨hg16, hr⟩ := of_guard0 hr
              try simp only [hv12, Option.getD_some, Option.isSome_some, true_and, and_assoc]
              repeat (first | refine gG hg15 ?_ | refine gG hg16 ?_ | refine gA ?_ | refine gB ?_)
              refine ⟨fun hc => ?_, fun hc => ?_⟩
              · replace hr := ifP hr hc
                repeat refine gA ?_
                obtain rfl := Option.some.inj hr
                (simp (maxDischargeDepth := 8) [go_sem, -List.drop_one])
              · replace hr := ifN hr hc
                obtain ⟨v13, hv13, hr⟩ := of_bind0 hr
                try simp only [hv13, Option.getD_some, Option.isSome_some, true_and, and_assoc]
                repeat refine gA ?_
                refine ⟨fun hc => ?_, fun hc => ?_⟩
                · replace hr := ifP hr hc
                  repeat (first | refine gA ?_ | refine gB ?_)
                  obtain rfl := Option.some.inj hr
                  (simp (maxDischargeDepth := 8) [go_sem, -List.drop_one])
                · replace hr := ifN hr hc
                  obtain ⟨hg14, hr⟩ := of_guard0 hr
                  repeat (first | refine gG hg14 ?_ | refine gA ?_ | refine gB ?_)
                  obtain rfl := Option.some.inj hr
                  (simp (maxDischargeDepth := 8) [go_sem, -List.drop_one])
          · replace hr := ifN hr hc
            obtain ⟨hg25, hr⟩ := of_guard0 hr
            obtain ⟨v17, hv17, hr⟩ := of_bind0 hr
            obtain ⟨v18, hv18, hr⟩ := of_bind0 hr
            obtain ⟨v19, hv19, hr⟩ := of_bind0 hr
            try simp only [hv17, hv18, hv19, Option.getD_some, Option.isSome_some, true_and, and_assoc]
            repeat (first | refine gA ?_ | refine gB ?_)
            refine ⟨fun hc => ?_, fun hc => ?_⟩
            · replace hr := ifP hr hc
              repeat refine gA ?_
              obtain rfl := Option.some.inj hr
              (simp (maxDischargeDepth := 8) [go_sem, -List.drop_one])
            · replace hr := ifN hr hc
              obtain ⟨v20, hv20, hr⟩ := of_bind0 hr
              obtain ⟨hg23, hr⟩ := of_guard0 hr
              obtain ⟨hg24, hr⟩ := of_guard0 hr
              try simp only [hv20, Option.getD_some, Option.isSome_some, true_and, and_assoc]
              repeat (first | refine gG hg23 ?_ | refine gG hg24 ?_ | refine gA ?_ | refine gB ?_)
              refine ⟨fun hc => ?_, fun hc => ?_⟩
              · replace hr := ifP hr hc
                repeat refine gA ?_
                obtain rfl := Option.some.inj hr
                (simp (maxDischargeDepth := 8) [go_sem, -List.drop_one])
              · replace hr := ifN hr hc
                obtain ⟨v21, hv21, hr⟩ := of_bind0 hr
                try simp only [hv21, Option.getD_some, Option.isSome_some, true_and, and_assoc]
                repeat refine gA ?_
                refine ⟨fun hc => ?_, fun hc => ?_⟩
                · replace hr := ifP hr hc
                  repeat (first | refine gA ?_ | refine gB ?_)
                  obtain rfl := Option.some.inj hr
                  (simp (maxDischargeDepth := 8) [go_sem, -List.drop_one])
                · replace hr := ifN hr hc
                  obtain ⟨hg22, hr⟩ := of_guard0 hr
                  repeat (first | refine gG hg22 ?_ | refine gA ?_ | refine gB ?_)
                  obtain rfl := Option.some.inj hr
                  (simp (maxDischargeDepth := 8) [go_sem, -List.drop_one])
theorem f9 : FnFact Try.prog 9 T9.sp := ⟨⟨Try.f9, Try.func9, by decide, rfl⟩, v9⟩
end Go.Proofs.Ytagnplbfdaifkaa

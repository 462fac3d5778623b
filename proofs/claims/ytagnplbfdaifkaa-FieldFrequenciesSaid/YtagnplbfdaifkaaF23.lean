/- Contracts of functions, written by wip/dec. -/
import Derived.Test.YtagnplbfdaifkaaF00
import Derived.Test.YtagnplbfdaifkaaF02
import Derived.Test.YtagnplbfdaifkaaF03
import Derived.Test.YtagnplbfdaifkaaF04
import Derived.Test.YtagnplbfdaifkaaF05
import Derived.Test.YtagnplbfdaifkaaF12
import Derived.Test.YtagnplbfdaifkaaF22
set_option linter.unusedVariables false
set_option linter.unusedSimpArgs false
set_option maxHeartbeats 4000000
set_option maxRecDepth 20000
namespace Go.Proofs.Ytagnplbfdaifkaa
open Go.Abs
/- martensite/martensitelaw02.FieldFrequencies -/
def r14 (a0_0 : Int) (a0_1 : List (Int × Int × Int)) (a1_0 : Int) (a1_1 : List (Bool)) (a1_2 : Int) (a1_3 : List (Bool)) (a2_0 : Int) (a2_1 : Int) (a2_2 : Int) (a2_3 : Int) (a2_4 : Int) (a2_5 : List (Int × Int)) : Option (Bool) :=
  (r15).bind fun v1 =>
   if (!v1) = true then
    some false
    else (r16 a0_0 a0_1).bind fun v2 =>
     if (!(!v2)) = true → (r17 a1_0 a1_1).isSome = true then
      if (!((!v2) || (!((r17 a1_0 a1_1).getD default)))) = true → (r17 a1_2 a1_3).isSome = true then
       if (((((!v2) || (!((r17 a1_0 a1_1).getD default))) || (!((r17 a1_2 a1_3).getD default))) || (decide ((a2_5.length : Int) > 6))) || ((decide (a2_4 > 150)) && (decide (a2_4 ≤ 100000)))) = true then
        some true
        else (r19 a0_0 a0_1).bind fun v3 =>
         (r69 a1_1).bind fun v4 =>
          (r68 v3.1 v3.2 v4 a2_0 a2_1).bind fun v5 =>
           (r71 a1_0 a1_1 a1_2 a1_3).bind fun v6 =>
            (r70 v3.1 v3.2 v6.1 v6.2.1 v6.2.2.1 v6.2.2.2 a2_2 a2_3).bind fun v7 =>
             (r73 a2_4 a2_5).bind fun v8 =>
              (r72 v3.1 v3.2 v6.1 v6.2.1 v6.2.2.1 v6.2.2.2 v8.1 v8.2).bind fun v9 =>
               (r74 a0_0 a0_1).bind fun v10 =>
                if (v10 == 0) = true then
                 (r75 a0_0 a0_1 a1_1 a2_0 a2_1).bind fun v11 =>
                  if (v11 != 0) = true then
                   if ((v5.2 != v11) || (v5.1 != 0)) = true then
                    some false
                    else (r77 a0_0 a0_1 a1_0 a1_1 a1_2 a1_3).bind fun v12 =>
                     if (v12 != 0) = true then
                      some ((((v7.2 == v12) && (v9.2 == v12)) && ((v7.1.length : Int) == 0)) && (v9.1 == 0))
                      else (r37 a2_2).bind fun v13 =>
                       if (!(v13 != 0)) = true → (r37 a2_3).isSome = true then
                        if ((v13 != 0) || (((r37 a2_3).getD default) != 0)) = true then
                         if ((v7.2 != 2) || ((v7.1.length : Int) != 0)) = true then
                          some false
                          else (r79 a0_0 a0_1 a2_4 a2_5).bind fun v14 =>
                           if (v14 != 0) = true then
                            some ((v9.2 == v14) && (v9.1 == 0))
                            else (r80 a0_0 a0_1 a1_0 a1_1 a1_2 a1_3 a2_4 a2_5).bind fun v15 =>
                             some (((v15.2 && (v9.2 == 0)) && (v9.1 == v15.1)) || (((!v15.2) && (v9.2 == 12)) && (v9.1 == 0)))
                         else if (!(v7.2 != 0)) = true → (r78 a0_0 a0_1 a1_0 a1_1 a1_2 a1_3 a2_2 a2_3).isSome = true then
                          if (!(v7.2 != 0)) = true → (r30 v7.1 ((r78 a0_0 a0_1 a1_0 a1_1 a1_2 a1_3 a2_2 a2_3).getD default)).isSome = true then
                           if ((v7.2 != 0) || (!((r30 v7.1 ((r78 a0_0 a0_1 a1_0 a1_1 a1_2 a1_3 a2_2 a2_3).getD default)).getD default))) = true then
                            some false
                            else (r79 a0_0 a0_1 a2_4 a2_5).bind fun v16 =>
                             if (v16 != 0) = true then
                              some ((v9.2 == v16) && (v9.1 == 0))
                              else (r80 a0_0 a0_1 a1_0 a1_1 a1_2 a1_3 a2_4 a2_5).bind fun v17 =>
                               some (((v17.2 && (v9.2 == 0)) && (v9.1 == v17.1)) || (((!v17.2) && (v9.2 == 12)) && (v9.1 == 0)))
                           else none
                          else none
                        else none
                   else (r76 a0_0 a0_1 a1_1 a2_0 a2_1).bind fun v21 =>
                    if ((v21.2 && ((v5.2 != 0) || (v5.1 != v21.1))) || ((!v21.2) && ((v5.2 != 12) || (v5.1 != 0)))) = true then
                     some false
                     else (r77 a0_0 a0_1 a1_0 a1_1 a1_2 a1_3).bind fun v22 =>
                      if (v22 != 0) = true then
                       some ((((v7.2 == v22) && (v9.2 == v22)) && ((v7.1.length : Int) == 0)) && (v9.1 == 0))
                       else (r37 a2_2).bind fun v23 =>
                        if (!(v23 != 0)) = true → (r37 a2_3).isSome = true then
                         if ((v23 != 0) || (((r37 a2_3).getD default) != 0)) = true then
                          if ((v7.2 != 2) || ((v7.1.length : Int) != 0)) = true then
                           some false
                           else (r79 a0_0 a0_1 a2_4 a2_5).bind fun v24 =>
                            if (v24 != 0) = true then
                             some ((v9.2 == v24) && (v9.1 == 0))
                             else (r80 a0_0 a0_1 a1_0 a1_1 a1_2 a1_3 a2_4 a2_5).bind fun v25 =>
                              some (((v25.2 && (v9.2 == 0)) && (v9.1 == v25.1)) || (((!v25.2) && (v9.2 == 12)) && (v9.1 == 0)))
                          else if (!(v7.2 != 0)) = true → (r78 a0_0 a0_1 a1_0 a1_1 a1_2 a1_3 a2_2 a2_3).isSome = true then
                           if (!(v7.2 != 0)) = true → (r30 v7.1 ((r78 a0_0 a0_1 a1_0 a1_1 a1_2 a1_3 a2_2 a2_3).getD default)).isSome = true then
                            if ((v7.2 != 0) || (!((r30 v7.1 ((r78 a0_0 a0_1 a1_0 a1_1 a1_2 a1_3 a2_2 a2_3).getD default)).getD default))) = true then
                             some false
                             else (r79 a0_0 a0_1 a2_4 a2_5).bind fun v26 =>
                              if (v26 != 0) = true then
                               some ((v9.2 == v26) && (v9.1 == 0))
                               else (r80 a0_0 a0_1 a1_0 a1_1 a1_2 a1_3 a2_4 a2_5).bind fun v27 =>
                                some (((v27.2 && (v9.2 == 0)) && (v9.1 == v27.1)) || (((!v27.2) && (v9.2 == 12)) && (v9.1 == 0)))
                            else none
                           else none
                         else none
                 else if (v10 != 0) = true then
                  if ((v5.2 != v10) || (v5.1 != 0)) = true then
                   some false
                   else (r77 a0_0 a0_1 a1_0 a1_1 a1_2 a1_3).bind fun v31 =>
                    if (v31 != 0) = true then
                     some ((((v7.2 == v31) && (v9.2 == v31)) && ((v7.1.length : Int) == 0)) && (v9.1 == 0))
                     else (r37 a2_2).bind fun v32 =>
                      if (!(v32 != 0)) = true → (r37 a2_3).isSome = true then
                       if ((v32 != 0) || (((r37 a2_3).getD default) != 0)) = true then
                        if ((v7.2 != 2) || ((v7.1.length : Int) != 0)) = true then
                         some false
                         else (r79 a0_0 a0_1 a2_4 a2_5).bind fun v33 =>
                          if (v33 != 0) = true then
                           some ((v9.2 == v33) && (v9.1 == 0))
                           else (r80 a0_0 a0_1 a1_0 a1_1 a1_2 a1_3 a2_4 a2_5).bind fun v34 =>
                            some (((v34.2 && (v9.2 == 0)) && (v9.1 == v34.1)) || (((!v34.2) && (v9.2 == 12)) && (v9.1 == 0)))
                        else if (!(v7.2 != 0)) = true → (r78 a0_0 a0_1 a1_0 a1_1 a1_2 a1_3 a2_2 a2_3).isSome = true then
                         if (!(v7.2 != 0)) = true → (r30 v7.1 ((r78 a0_0 a0_1 a1_0 a1_1 a1_2 a1_3 a2_2 a2_3).getD default)).isSome = true then
                          if ((v7.2 != 0) || (!((r30 v7.1 ((r78 a0_0 a0_1 a1_0 a1_1 a1_2 a1_3 a2_2 a2_3).getD default)).getD default))) = true then
                           some false
                           else (r79 a0_0 a0_1 a2_4 a2_5).bind fun v35 =>
                            if (v35 != 0) = true then
                             some ((v9.2 == v35) && (v9.1 == 0))
                             else (r80 a0_0 a0_1 a1_0 a1_1 a1_2 a1_3 a2_4 a2_5).bind fun v36 =>
                              some (((v36.2 && (v9.2 == 0)) && (v9.1 == v36.1)) || (((!v36.2) && (v9.2 == 12)) && (v9.1 == 0)))
                          else none
                         else none
                       else none
                  else (r76 a0_0 a0_1 a1_1 a2_0 a2_1).bind fun v40 =>
                   if ((v40.2 && ((v5.2 != 0) || (v5.1 != v40.1))) || ((!v40.2) && ((v5.2 != 12) || (v5.1 != 0)))) = true then
                    some false
                    else (r77 a0_0 a0_1 a1_0 a1_1 a1_2 a1_3).bind fun v41 =>
                     if (v41 != 0) = true then
                      some ((((v7.2 == v41) && (v9.2 == v41)) && ((v7.1.length : Int) == 0)) && (v9.1 == 0))
                      else (r37 a2_2).bind fun v42 =>
                       if (!(v42 != 0)) = true → (r37 a2_3).isSome = true then
                        if ((v42 != 0) || (((r37 a2_3).getD default) != 0)) = true then
                         if ((v7.2 != 2) || ((v7.1.length : Int) != 0)) = true then
                          some false
                          else (r79 a0_0 a0_1 a2_4 a2_5).bind fun v43 =>
                           if (v43 != 0) = true then
                            some ((v9.2 == v43) && (v9.1 == 0))
                            else (r80 a0_0 a0_1 a1_0 a1_1 a1_2 a1_3 a2_4 a2_5).bind fun v44 =>
                             some (((v44.2 && (v9.2 == 0)) && (v9.1 == v44.1)) || (((!v44.2) && (v9.2 == 12)) && (v9.1 == 0)))
                         else if (!(v7.2 != 0)) = true → (r78 a0_0 a0_1 a1_0 a1_1 a1_2 a1_3 a2_2 a2_3).isSome = true then
                          if (!(v7.2 != 0)) = true → (r30 v7.1 ((r78 a0_0 a0_1 a1_0 a1_1 a1_2 a1_3 a2_2 a2_3).getD default)).isSome = true then
                           if ((v7.2 != 0) || (!((r30 v7.1 ((r78 a0_0 a0_1 a1_0 a1_1 a1_2 a1_3 a2_2 a2_3).getD default)).getD default))) = true then
                            some false
                            else (r79 a0_0 a0_1 a2_4 a2_5).bind fun v45 =>
                             if (v45 != 0) = true then
                              some ((v9.2 == v45) && (v9.1 == 0))
                              else (r80 a0_0 a0_1 a1_0 a1_1 a1_2 a1_3 a2_4 a2_5).bind fun v46 =>
                               some (((v46.2 && (v9.2 == 0)) && (v9.1 == v46.1)) || (((!v46.2) && (v9.2 == 12)) && (v9.1 == 0)))
                           else none
                          else none
                        else none
       else none
      else none
def T14 : TSpec (Int × (List (Int × Int × Int)) × Int × (List (Bool)) × Int × (List (Bool)) × Int × Int × Int × Int × Int × (List (Int × Int))) where
  enc x := [.agg [.int .i64 x.1, encF 3 d_III x.2.1], .agg [.int .i64 x.2.2.1, encF 1 d_B x.2.2.2.1, .int .i64 x.2.2.2.2.1, encF 1 d_B x.2.2.2.2.2.1], .agg [.int .i64 x.2.2.2.2.2.2.1, .int .i64 x.2.2.2.2.2.2.2.1, .int .i64 x.2.2.2.2.2.2.2.2.1, .int .i64 x.2.2.2.2.2.2.2.2.2.1, .int .i64 x.2.2.2.2.2.2.2.2.2.2.1, encF 2 d_II x.2.2.2.2.2.2.2.2.2.2.2]]
  dec a := (dInt (aCell a 0 0), decF g_III (aCell a 0 1), dInt (aCell a 1 0), decF g_B (aCell a 1 1), dInt (aCell a 1 2), decF g_B (aCell a 1 3), dInt (aCell a 2 0), dInt (aCell a 2 1), dInt (aCell a 2 2), dInt (aCell a 2 3), dInt (aCell a 2 4), decF g_II (aCell a 2 5))
  pre x := (r14 x.1 x.2.1 x.2.2.1 x.2.2.2.1 x.2.2.2.2.1 x.2.2.2.2.2.1 x.2.2.2.2.2.2.1 x.2.2.2.2.2.2.2.1 x.2.2.2.2.2.2.2.2.1 x.2.2.2.2.2.2.2.2.2.1 x.2.2.2.2.2.2.2.2.2.2.1 x.2.2.2.2.2.2.2.2.2.2.2).isSome = true
  res x := [.c (.d (.bool ((r14 x.1 x.2.1 x.2.2.1 x.2.2.2.1 x.2.2.2.2.1 x.2.2.2.2.2.1 x.2.2.2.2.2.2.1 x.2.2.2.2.2.2.2.1 x.2.2.2.2.2.2.2.2.1 x.2.2.2.2.2.2.2.2.2.1 x.2.2.2.2.2.2.2.2.2.2.1 x.2.2.2.2.2.2.2.2.2.2.2).getD default)))]
  al := false
def tb14 : Fns := lk [(15, T15.sp), (16, T16.sp), (17, T17.sp), (19, T19.sp), (30, T30.sp), (37, T37.sp), (68, T68.sp), (69, T69.sp), (70, T70.sp), (71, T71.sp), (72, T72.sp), (73, T73.sp), (74, T74.sp), (75, T75.sp), (76, T76.sp), (77, T77.sp), (78, T78.sp), (79, T79.sp), (80, T80.sp)]
theorem tb14_ok : FnsOk Try.prog tb14 := .cons f15 (.cons f16 (.cons f17 (.cons f19 (.cons f30 (.cons f37 (.cons f68 (.cons f69 (.cons f70 (.cons f71 (.cons f72 (.cons f73 (.cons f74 (.cons f75 (.cons f76 (.cons f77 (.cons f78 (.cons f79 (.cons f80 (FnsOk.nil)))))))))))))))))))
theorem tb14_15 : tb14 15 = some T15.sp := rfl
theorem tb14_16 : tb14 16 = some T16.sp := rfl
theorem tb14_17 : tb14 17 = some T17.sp := rfl
theorem tb14_19 : tb14 19 = some T19.sp := rfl
theorem tb14_30 : tb14 30 = some T30.sp := rfl
theorem tb14_37 : tb14 37 = some T37.sp := rfl
theorem tb14_68 : tb14 68 = some T68.sp := rfl
theorem tb14_69 : tb14 69 = some T69.sp := rfl
theorem tb14_70 : tb14 70 = some T70.sp := rfl
theorem tb14_71 : tb14 71 = some T71.sp := rfl
theorem tb14_72 : tb14 72 = some T72.sp := rfl
theorem tb14_73 : tb14 73 = some T73.sp := rfl
theorem tb14_74 : tb14 74 = some T74.sp := rfl
theorem tb14_75 : tb14 75 = some T75.sp := rfl
theorem tb14_76 : tb14 76 = some T76.sp := rfl
theorem tb14_77 : tb14 77 = some T77.sp := rfl
theorem tb14_78 : tb14 78 = some T78.sp := rfl
theorem tb14_79 : tb14 79 = some T79.sp := rfl
theorem tb14_80 : tb14 80 = some T80.sp := rfl
theorem v14 : Valid Try.prog 14 T14.sp := by
  refine valid_t (fn := Try.f14) (n := 235) ty_ok tb14_ok Try.func14 rfl Try.ntmps14 ?_
  rintro ⟨a0_0, a0_1, a1_0, a1_1, a1_2, a1_3, a2_0, a2_1, a2_2, a2_3, a2_4, a2_5⟩ hx
  obtain ⟨r, hr⟩ := Option.isSome_iff_exists.1 (show (r14 a0_0 a0_1 a1_0 a1_1 a1_2 a1_3 a2_0 a2_1 a2_2 a2_3 a2_4 a2_5).isSome = true from hx)
  have hres : T14.res (a0_0, a0_1, a1_0, a1_1, a1_2, a1_3, a2_0, a2_1, a2_2, a2_3, a2_4, a2_5) = [.c (.d (.bool r))] := by simp only [T14, hr, Option.getD_some]
  refine ⟨Nat.le_of_ble_eq_true rfl, fun stop S => ?_⟩
  rw [hres] at S
  unfold r14 at hr
  refine S.goB [] 1000 ?_
  simp (maxSteps := 10000000) only [go_sem, tb14_15, T15, tb14_16, T16, tb14_17, T17, tb14_19, T19, tb14_30, T30, tb14_37, T37, tb14_68, T68, tb14_69, T69, tb14_70, T70, tb14_71, T71, tb14_72, T72, tb14_73, T73, tb14_74, T74, tb14_75, T75, tb14_76, T76, tb14_77, T77, tb14_78, T78, tb14_79, T79, tb14_80, T80, T14, Bool.not_true, Bool.not_false, Option.map_some, Int.reduceToNat, Nat.reduceEqDiff, Nat.reduceLT, Nat.reduceAdd, Nat.reduceMul, Nat.reduceSub, Nat.reduceLeDiff, reduceIte, reduceCtorEq, Try.results14]
  obtain ⟨v1, hv1, hr⟩ := of_bind0 hr
  try simp only [hv1, Option.getD_some, Option.isSome_some, true_and, and_assoc]
  repeat refine gA ?_
  refine ⟨fun hc => ?_, fun hc => ?_⟩
  · replace hr := ifP hr hc
    repeat refine gA ?_
    obtain rfl := Option.some.inj hr
    (simp (maxDischargeDepth := 8) [go_sem, -List.drop_one])
  · replace hr := ifN hr hc
    obtain ⟨v2, hv2, hr⟩ := of_bind0 hr
    obtain ⟨hg50, hr⟩ := of_guard0 hr
    obtain ⟨hg51, hr⟩ := of_guard0 hr
    try simp only [hv2, Option.getD_some, Option.isSome_some, true_and, and_assoc]
    repeat (first | refine gG hg50 ?_ | refine gG hg51 ?_ | refine gA ?_ | refine gB ?_)
    refine ⟨fun hc => ?_, fun hc => ?_⟩
    · replace hr := ifP hr hc
      repeat refine gA ?_
      obtain rfl := Option.some.inj hr
      (simp (maxDischargeDepth := 8) [go_sem, -List.drop_one])
    · replace hr := ifN hr hc
      obtain ⟨v3, hv3, hr⟩ := of_bind0 hr
      obtain ⟨v4, hv4, hr⟩ := of_bind0 hr
      obtain ⟨v5, hv5, hr⟩ := of_bind0 hr
      obtain ⟨v6, hv6, hr⟩ := of_bind0 hr
      obtain ⟨v7, hv7, hr⟩ := of_bind0 hr
      obtain ⟨v8, hv8, hr⟩ := of_bind0 hr
      obtain ⟨v9, hv9, hr⟩ := of_bind0 hr
      obtain ⟨v10, hv10, hr⟩ := of_bind0 hr
      try simp only [hv3, hv4, hv5, hv6, hv7, hv8, hv9, hv10, Option.getD_some, Option.isSome_some, true_and, and_assoc]
      repeat refine gA ?_
      refine ⟨fun hc => ?_, fun hc => ?_⟩
      · replace hr := ifP hr hc
        obtain ⟨v11, hv11, hr⟩ := of_bind0 hr
        try simp only [hv11, Option.getD_some, Option.isSome_some, true_and, and_assoc]
        repeat refine gA ?_
        refine ⟨fun hc => ?_, fun hc => ?_⟩
        · replace hr := ifP hr hc
          repeat (first | refine gA ?_ | refine gB ?_)
          refine ⟨fun hc => ?_, fun hc => ?_⟩
          · replace hr := ifP hr hc
            repeat refine gA ?_
            obtain rfl := Option.some.inj hr
            (simp (maxDischargeDepth := 8) [go_sem, -List.drop_one])
          · replace hr := ifN hr hc
            obtain ⟨v12, hv12, hr⟩ := of_bind0 hr
            try simp only [hv12, Option.getD_some, Option.isSome_some, true_and, and_assoc]
            repeat refine gA ?_
            refine ⟨fun hc => ?_, fun hc => ?_⟩
            · replace hr := ifP hr hc
              repeat (first | refine gA ?_ | refine gB ?_)
              obtain rfl := Option.some.inj hr
              (simp (maxDischargeDepth := 8) [go_sem, -List.drop_one])
            · replace hr := ifN hr hc
              obtain ⟨v13, hv13, hr⟩ := of_bind0 hr
              obtain ⟨hg20, hr⟩ := of_guard0 hr
              try simp only [hv13, Option.getD_some, Option.isSome_some, true_and, and_assoc]
              repeat (first | refine gG hg20 ?_ | refine gA ?_ | refine gB ?_)
              refine ⟨fun hc => ?_, fun hc => ?_⟩
              · replace hr := ifP hr hc
                repeat (first | refine gA ?_ | refine gB ?_)
                refine ⟨fun hc => ?_, fun hc => ?_⟩
                · replace hr := ifP hr hc
                  repeat refine gA ?_
                  obtain rfl := Option.some.inj hr
                  (simp (maxDischargeDepth := 8) [go_sem, -List.drop_one])
                · replace hr := ifN hr hc
                  obtain ⟨v14, hv14, hr⟩ := of_bind0 hr
                  try simp only [hv14, Option.getD_some, Option.isSome_some, true_and, and_assoc]
                  repeat refine gA ?_
                  refine ⟨fun hc => ?_, fun hc => ?_⟩
                  · replace hr := ifP hr hc
                    repeat (first | refine gA ?_ | refine gB ?_)
                    obtain rfl := Option.some.inj hr
                    (simp (maxDischargeDepth := 8) [go_sem, -List.drop_one])
                  · replace hr := ifN hr hc
                    obtain ⟨v15, hv15, hr⟩ := of_bind0 hr
                    try simp only [hv15, Option.getD_some, Option.isSome_some, true_and, and_assoc]
                    repeat (first | refine gA ?_ | refine gB ?_)
                    obtain rfl := Option.some.inj hr
                    (simp (maxDischargeDepth := 8) [go_sem, -List.drop_one])
              · replace hr := ifN hr hc
                obtain ⟨hg18, hr⟩ := of_guard0 hr
                obtain ⟨hg19, hr⟩ := of_guard0 hr
                repeat (first | refine gG hg18 ?_ | refine gG hg19 ?_ | refine gA ?_ | refine gB ?_)
                refine ⟨fun hc => ?_, fun hc => ?_⟩
                · replace hr := ifP hr hc
                  repeat refine gA ?_
                  obtain rfl := Option.some.inj hr
                  (simp (maxDischargeDepth := 8) [go_sem, -List.drop_one])
                · replace hr := ifN hr hc
                  obtain ⟨v16, hv16, hr⟩ := of_bind0 hr
                  try simp only [hv16, Option.getD_some, Option.isSome_some, true_and, and_assoc]
                  repeat refine gA ?_
                  refine ⟨fun hc => ?_, fun hc => ?_⟩
                  · replace hr := ifP hr hc
                    repeat (first | refine gA ?_ | refine gB ?_)
                    obtain rfl := Option.some.inj hr
                    (simp (maxDischargeDepth := 8) [go_sem, -List.drop_one])
                  · replace hr := ifN hr hc
                    obtain ⟨v17, hv17, hr⟩ := of_bind0 hr
                    try simp only [hv17, Option.getD_some, Option.isSome_some, true_and, and_assoc]
                    repeat (first | refine gA ?_ | refine gB ?_)
                    obtain rfl := Option.some.inj hr
                    (simp (maxDischargeDepth := 8) [go_sem, -List.drop_one])
        · replace hr := ifN hr hc
          obtain ⟨v21, hv21, hr⟩ := of_bind0 hr
          try simp only [hv21, Option.getD_some, Option.isSome_some, true_and, and_assoc]
          repeat (first | refine gA ?_ | refine gB ?_)
          refine ⟨fun hc => ?_, fun hc => ?_⟩
          · replace hr := ifP hr hc
            repeat refine gA ?_
            obtain rfl := Option.some.inj hr
            (simp (maxDischargeDepth := 8) [go_sem, -List.drop_one])
          · replace hr := ifN hr hc
            obtain ⟨v22, hv22, hr⟩ := of_bind0 hr
            try simp only [hv22, Option.getD_some, Option.isSome_some, true_and, and_assoc]
            repeat refine gA ?_
            refine ⟨fun hc => ?_, fun hc => ?_⟩
            · replace hr := ifP hr hc
              repeat (first | refine gA ?_ | refine gB ?_)
              obtain rfl := Option.some.inj hr
              (simp (maxDischargeDepth := 8) [go_sem, -List.drop_one])
            · replace hr := ifN hr hc
              obtain ⟨v23, hv23, hr⟩ := of_bind0 hr
              obtain ⟨hg30, hr⟩ := of_guard0 hr
              try simp only [hv23, Option.getD_some, Option.isSome_some, true_and, and_assoc]
              repeat (first | refine gG hg30 ?_ | refine gA ?_ | refine gB ?_)
              refine ⟨fun hc => ?_, fun hc => ?_⟩
              · replace hr := ifP hr hc
                repeat (first | refine gA ?_ | refine gB ?_)
                refine ⟨fun hc => ?_, fun hc => ?_⟩
                · replace hr := ifP hr hc
                  repeat refine gA ?_
                  obtain rfl := Option.some.inj hr
                  (simp (maxDischargeDepth := 8) [go_sem, -List.drop_one])
                · replace hr := ifN hr hc
                  obtain ⟨v24, hv24, hr⟩ := of_bind0 hr
                  try simp only [hv24, Option.getD_some, Option.isSome_some, true_and, and_assoc]
                  repeat refine gA ?_
                  refine ⟨fun hc => ?_, fun hc => ?_⟩
                  · replace hr := ifP hr hc
                    repeat (first | refine gA ?_ | refine gB ?_)
                    obtain rfl := Option.some.inj hr
                    (simp (maxDischargeDepth := 8) [go_sem, -List.drop_one])
                  · replace hr := ifN hr hc
                    obtain ⟨v25, hv25, hr⟩ := of_bind0 hr
                    try simp only [hv25, Option.getD_some, Option.isSome_some, true_and, and_assoc]
                    repeat (first | refine gA ?_ | refine gB ?_)
                    obtain rfl := Option.some.inj hr
                    (simp (maxDischargeDepth := 8) [go_sem, -List.drop_one])
              · replace hr := ifN hr hc
                obtain ⟨hg28, hr⟩ := of_guard0 hr
                obtain ⟨hg29, hr⟩ := of_guard0 hr
                repeat (first | refine gG hg28 ?_ | refine gG hg29 ?_ | refine gA ?_ | refine gB ?_)
                refine ⟨fun hc => ?_, fun hc => ?_⟩
                · replace hr := ifP hr hc
                  repeat refine gA ?_
                  obtain rfl := Option.some.inj hr
                  (simp (maxDischargeDepth := 8) [go_sem, -List.drop_one])
                · replace hr := ifN hr hc
                  obtain ⟨v26, hv26, hr⟩ := of_bind0 hr
                  try simp only [hv26, Option.getD_some, Option.isSome_some, true_and, and_assoc]
                  repeat refine gA ?_
                  refine ⟨fun hc => ?_, fun hc => ?_⟩
                  · replace hr := ifP hr hc
                    repeat (first | refine gA ?_ | refine gB ?_)
                    obtain rfl := Option.some.inj hr
                    (simp (maxDischargeDepth := 8) [go_sem, -List.drop_one])
                  · replace hr := ifN hr hc
                    obtain ⟨v27, hv27, hr⟩ := of_bind0 hr
                    try simp only [hv27, Option.getD_some, Option.isSome_some, true_and, and_assoc]
                    repeat (first | refine gA ?_ | refine gB ?_)
                    obtain rfl := Option.some.inj hr
                    (simp (maxDischargeDepth := 8) [go_sem, -List.drop_one])
      · replace hr := ifN hr hc
        repeat refine gA ?_
        refine ⟨fun hc => ?_, fun hc => ?_⟩
        · replace hr := ifP hr hc
          repeat (first | refine gA ?_ | refine gB ?_)
          refine ⟨fun hc => ?_, fun hc => ?_⟩
          · replace hr := ifP hr hc
            repeat refine gA ?_
            obtain rfl := Option.some.inj hr
            (simp (maxDischargeDepth := 8) [go_sem, -List.drop_one])
          · replace hr := ifN hr hc
            obtain ⟨v31, hv31, hr⟩ := of_bind0 hr
            try simp only [hv31, Option.getD_some, Option.isSome_some, true_and, and_assoc]
            repeat refine gA ?_
            refine ⟨fun hc => ?_, fun hc => ?_⟩
            · replace hr := ifP hr hc
              repeat (first | refine gA ?_ | refine gB ?_)
              obtain rfl := Option.some.inj hr
              (simp (maxDischargeDepth := 8) [go_sem, -List.drop_one])
            · replace hr := ifN hr hc
              obtain ⟨v32, hv32, hr⟩ := of_bind0 hr
              obtain ⟨hg39, hr⟩ := of_guard0 hr
              try simp only [hv32, Option.getD_some, Option.isSome_some, true_and, and_assoc]
              repeat (first | refine gG hg39 ?_ | refine gA ?_ | refine gB ?_)
              refine ⟨fun hc => ?_, fun hc => ?_⟩
              · replace hr := ifP hr hc
                repeat (first | refine gA ?_ | refine gB ?_)
                refine ⟨fun hc => ?_, fun hc => ?_⟩
                · replace hr := ifP hr hc
                  repeat refine gA ?_
                  obtain rfl := Option.some.inj hr
                  (simp (maxDischargeDepth := 8) [go_sem, -List.drop_one])
                · replace hr := ifN hr hc
                  obtain ⟨v33, hv33, hr⟩ := of_bind0 hr
                  try simp only [hv33, Option.getD_some, Option.isSome_some, true_and, and_assoc]
                  repeat refine gA ?_
                  refine ⟨fun hc => ?_, fun hc => ?_⟩
                  · replace hr := ifP hr hc
                    repeat (first | refine gA ?_ | refine gB ?_)
                    obtain rfl := Option.some.inj hr
                    (simp (maxDischargeDepth := 8) [go_sem, -List.drop_one])
                  · replace hr := ifN hr hc
                    obtain ⟨v34, hv34, hr⟩ := of_bind0 hr
                    try simp only [hv34, Option.getD_some, Option.isSome_some, true_and, and_assoc]
                    repeat (first | refine gA ?_ | refine gB ?_)
                    obtain rfl := Option.some.inj hr
                    (simp (maxDischargeDepth := 8) [go_sem, -List.drop_one])
              · replace hr := ifN hr hc
                obtain ⟨hg37, hr⟩ := of_guard0 hr
                obtain ⟨hg38, hr⟩ := of_guard0 hr
                repeat (first | refine gG hg37 ?_ | refine gG hg38 ?_ | refine gA ?_ | refine gB ?_)
                refine ⟨fun hc => ?_, fun hc => ?_⟩
                · replace hr := ifP hr hc
                  repeat refine gA ?_
                  obtain rfl := Option.some.inj hr
                  (simp (maxDischargeDepth := 8) [go_sem, -List.drop_one])
                · replace hr := ifN hr hc
                  obtain ⟨v35, hv35, hr⟩ := of_bind0 hr
                  try simp only [hv35, Option.getD_some, Option.isSome_some, true_and, and_assoc]
                  repeat refine gA ?_
                  refine ⟨fun hc => ?_, fun hc => ?_⟩
                  · replace hr := ifP hr hc
                    repeat (first | refine gA ?_ | refine gB ?_)
                    obtain rfl := Option.some.inj hr
                    (simp (maxDischargeDepth := 8) [go_sem, -List.drop_one])
                  · replace hr := ifN hr hc
                    obtain ⟨v36, hv36, hr⟩ := of_bind0 hr
                    try simp only [hv36, Option.getD_some, Option.isSome_some, true_and, and_assoc]
                    repeat (first | refine gA ?_ | refine gB ?_)
                    obtain rfl := Option.some.inj hr
                    (simp (maxDischargeDepth := 8) [go_sem, -List.drop_one])
        · replace hr := ifN hr hc
          obtain ⟨v40, hv40, hr⟩ := of_bind0 hr
          try simp only [hv40, Option.getD_some, Option.isSome_some, true_and, and_assoc]
          repeat (first | refine gA ?_ | refine gB ?_)
          refine ⟨fun hc => ?_, fun hc => ?_⟩
          · replace hr := ifP hr hc
            repeat refine gA ?_
            obtain rfl := Option.some.inj hr
            (simp (maxDischargeDepth := 8) [go_sem, -List.drop_one])
          · replace hr := ifN hr hc
            obtain ⟨v41, hv41, hr⟩ := of_bind0 hr
            try simp only [hv41, Option.getD_some, Option.isSome_some, true_and, and_assoc]
            repeat refine gA ?_
            refine ⟨fun hc => ?_, fun hc => ?_⟩
            · replace hr := ifP hr hc
              repeat (first | refine gA ?_ | refine gB ?_)
              obtain rfl := Option.some.inj hr
              (simp (maxDischargeDepth := 8) [go_sem, -List.drop_one])
            · replace hr := ifN hr hc
              obtain ⟨v42, hv42, hr⟩ := of_bind0 hr
              obtain ⟨hg49, hr⟩ := of_guard0 hr
              try simp only [hv42, Option.getD_some, Option.isSome_some, true_and, and_assoc]
              repeat (first | refine gG hg49 ?_ | refine gA ?_ | refine gB ?_)
              refine ⟨fun hc => ?_, fun hc => ?_⟩
              · replace hr := ifP hr hc
                repeat (first | refine gA ?_ | refine gB ?_)
                refine ⟨fun hc => ?_, fun hc => ?_⟩
                · replace hr := ifP hr hc
                  repeat refine gA ?_
                  obtain rfl := Option.some.inj hr
                  (simp (maxDischargeDepth := 8) [go_sem, -List.drop_one])
                · replace hr := ifN hr hc
                  obtain ⟨v43, hv43, hr⟩ := of_bind0 hr
                  try simp only [hv43, Option.getD_some, Option.isSome_some, true_and, and_assoc]
                  repeat refine gA ?_
                  refine ⟨fun hc => ?_, fun hc => ?_⟩
                  · replace hr := ifP hr hc
                    repeat (first | refine gA ?_ | refine gB ?_)
                    obtain rfl := Option.some.inj hr
                    (simp (maxDischargeDepth := 8) [go_sem, -List.drop_one])
                  · replace hr := ifN hr hc
                    obtain ⟨v44, hv44, hr⟩ := of_bind0 hr
                    try simp only [hv44, Option.getD_some, Option.isSome_some, true_and, and_assoc]
                    repeat (first | refine gA ?_ | refine gB ?_)
                    obtain rfl := Option.some.inj hr
                    (simp (maxDischargeDepth := 8) [go_sem, -List.drop_one])
              · replace hr := ifN hr hc
                obtain ⟨hg47, hr⟩ := of_guard0 hr
                obtain ⟨hg48, hr⟩ := of_guard0 hr
                repeat (first | refine gG hg47 ?_ | refine gG hg48 ?_ | refine gA ?_ | refine gB ?_)
                refine ⟨fun hc => ?_, fun hc => ?_⟩
                · replace hr := ifP hr hc
                  repeat refine gA ?_
                  obtain rfl := Option.some.inj hr
                  (simp (maxDischargeDepth := 8) [go_sem, -List.drop_one])
                · replace hr := ifN hr hc
                  obtain ⟨v45, hv45, hr⟩ := of_bind0 hr
                  try simp only [hv45, Option.getD_some, Option.isSome_some, true_and, and_assoc]
                  repeat refine gA ?_
                  refine ⟨fun hc => ?_, fun hc => ?_⟩
                  · replace hr := ifP hr hc
                    repeat (first | refine gA ?_ | refine gB ?_)
                    obtain rfl := Option.some.inj hr
                    (simp (maxDischargeDepth := 8) [go_sem, -List.drop_one])
                  · replace hr := ifN hr hc
                    obtain ⟨v46, hv46, hr⟩ := of_bind0 hr
                    try simp only [hv46, Option.getD_some, Option.isSome_some, true_and, and_assoc]
                    repeat (first | refine gA ?_ | refine gB ?_)
                    obtain rfl := Option.some.inj hr
                    (simp (maxDischargeDepth := 8) [go_sem, -List.drop_one])
theorem f14 : FnFact Try.prog 14 T14.sp := ⟨⟨Try.f14, Try.func14, by decide, rfl⟩, v14⟩
end Go.Proofs.Ytagnplbfdaifkaa

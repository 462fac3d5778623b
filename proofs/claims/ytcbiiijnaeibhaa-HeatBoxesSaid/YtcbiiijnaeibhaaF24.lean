/- Contracts of functions, written by wip/dec. -/
import Derived.Test.YtcbiiijnaeibhaaF00
import Derived.Test.YtcbiiijnaeibhaaF03
import Derived.Test.YtcbiiijnaeibhaaF04
import Derived.Test.YtcbiiijnaeibhaaF05
import Derived.Test.YtcbiiijnaeibhaaF10
import Derived.Test.YtcbiiijnaeibhaaF12
import Derived.Test.YtcbiiijnaeibhaaF23
set_option linter.unusedVariables false
set_option linter.unusedSimpArgs false
set_option maxHeartbeats 4000000
set_option maxRecDepth 20000
namespace Go.Proofs.Ytcbiiijnaeibhaa
open Go.Abs
/- martensite/martensitelaw03.HeatBoxes -/
def r6 (a0_0 : Int) (a0_1 : Int) (a0_2 : List (Int × Int)) (a0_3 : List ((List (Int × Int)))) (a1_0 : List (Int)) (a1_1 : List (Int)) (a2 : List ((List (Int × Int)) × Int × Int)) : Option (Bool) :=
  (r14).bind fun v1 =>
   if (!v1) = true then
    some false
    else (r15 a0_0 a0_1 a0_2 a0_3).bind fun v2 =>
     if (!(!v2)) = true → (r16 a1_0).isSome = true then
      if (!((!v2) || (!((r16 a1_0).getD default)))) = true → (r16 a1_1).isSome = true then
       if (!(((!v2) || (!((r16 a1_0).getD default))) || (!((r16 a1_1).getD default)))) = true → (r38 a2).isSome = true then
        if ((((!v2) || (!((r16 a1_0).getD default))) || (!((r16 a1_1).getD default))) || (!((r38 a2).getD default))) = true then
         some true
         else if (decide ((a2.length : Int) > 0)) = true then
          if 0 ≤ 0 ∧ 0 < (a2.length : Int) then
           (r18 a0_0 a0_1 a0_2 a0_3).bind fun v3 =>
            (r40 a1_0 a1_1).bind fun v4 =>
             (r39 v3.1 v3.2.1 v3.2.2.1 v3.2.2.2 v4.1 v4.2).bind fun v5 =>
              (r42 ((a2.getD 0 default).1) ((a2.getD 0 default).2.1) ((a2.getD 0 default).2.2)).bind fun v6 =>
               (r41 v3.1 v3.2.1 v3.2.2.1 v3.2.2.2 v4.1 v4.2 v6.1 v6.2.1 v6.2.2).bind fun v7 =>
                (r44 a2).bind fun v8 =>
                 (r43 v3.1 v3.2.1 v3.2.2.1 v3.2.2.2 v4.1 v4.2 v8).bind fun v9 =>
                  (r45 a0_0 a0_1 a0_2 a0_3).bind fun v10 =>
                   if (v10 == 0) = true then
                    (r46 a0_0 a0_1 a0_2 a0_3 a1_0 a1_1).bind fun v11 =>
                     if ((v5.2 != v11.2) || (v5.1 != v11.1)) = true then
                      some false
                      else if (v11.2 != 0) = true then
                       if ((v7.2.2 == v11.2) && (v9.2 == v11.2)) = true → (r47 v7.1 v7.2.1 [] []).isSome = true then
                        some ((((v7.2.2 == v11.2) && (v9.2 == v11.2)) && ((r47 v7.1 v7.2.1 [] []).getD default)) && ((v9.1.length : Int) == 0))
                        else none
                       else (r48 a0_0 a0_1 a0_2 a0_3 ((a2.getD 0 default).1) ((a2.getD 0 default).2.1) ((a2.getD 0 default).2.2)).bind fun v13 =>
                        if (v13 != 0) = true then
                         if (!(v7.2.2 != v13)) = true → (r47 v7.1 v7.2.1 [] []).isSome = true then
                          if ((v7.2.2 != v13) || (!((r47 v7.1 v7.2.1 [] []).getD default))) = true then
                           some false
                           else (r50 a0_0 a0_1 a0_2 a0_3 a2).bind fun v14 =>
                            if (v14 != 0) = true then
                             some ((v9.2 == v14) && ((v9.1.length : Int) == 0))
                             else (r51 a0_0 a0_1 a0_2 a0_3 a1_0 a1_1 a2).bind fun v15 =>
                              if (!v15.2) = true then
                               some ((v9.2 == 22) && ((v9.1.length : Int) == 0))
                               else if (v9.2 == 0) = true → (r52 v9.1 v15.1).isSome = true then
                                some ((v9.2 == 0) && ((r52 v9.1 v15.1).getD default))
                                else none
                          else none
                         else (r49 a0_0 a0_1 a0_2 a0_3 a1_0 a1_1 ((a2.getD 0 default).1) ((a2.getD 0 default).2.1) ((a2.getD 0 default).2.2)).bind fun v18 =>
                          if ((!v18.2.2) && (!(v7.2.2 != 22))) = true → (r47 v7.1 v7.2.1 [] []).isSome = true then
                           if (((!((!v18.2.2) && ((v7.2.2 != 22) || (!((r47 v7.1 v7.2.1 [] []).getD default))))) && v18.2.2) && (!(v7.2.2 != 0))) = true → (r47 v7.1 v7.2.1 v18.1 v18.2.1).isSome = true then
                            if (((!v18.2.2) && ((v7.2.2 != 22) || (!((r47 v7.1 v7.2.1 [] []).getD default)))) || (v18.2.2 && ((v7.2.2 != 0) || (!((r47 v7.1 v7.2.1 v18.1 v18.2.1).getD default))))) = true then
                             some false
                             else (r50 a0_0 a0_1 a0_2 a0_3 a2).bind fun v19 =>
                              if (v19 != 0) = true then
                               some ((v9.2 == v19) && ((v9.1.length : Int) == 0))
                               else (r51 a0_0 a0_1 a0_2 a0_3 a1_0 a1_1 a2).bind fun v20 =>
                                if (!v20.2) = true then
                                 some ((v9.2 == 22) && ((v9.1.length : Int) == 0))
                                 else if (v9.2 == 0) = true → (r52 v9.1 v20.1).isSome = true then
                                  some ((v9.2 == 0) && ((r52 v9.1 v20.1).getD default))
                                  else none
                            else none
                           else none
                    else if ((v5.2 != v10) || (v5.1 != 0)) = true then
                     some false
                     else if (v10 != 0) = true then
                      if ((v7.2.2 == v10) && (v9.2 == v10)) = true → (r47 v7.1 v7.2.1 [] []).isSome = true then
                       some ((((v7.2.2 == v10) && (v9.2 == v10)) && ((r47 v7.1 v7.2.1 [] []).getD default)) && ((v9.1.length : Int) == 0))
                       else none
                      else (r48 a0_0 a0_1 a0_2 a0_3 ((a2.getD 0 default).1) ((a2.getD 0 default).2.1) ((a2.getD 0 default).2.2)).bind fun v25 =>
                       if (v25 != 0) = true then
                        if (!(v7.2.2 != v25)) = true → (r47 v7.1 v7.2.1 [] []).isSome = true then
                         if ((v7.2.2 != v25) || (!((r47 v7.1 v7.2.1 [] []).getD default))) = true then
                          some false
                          else (r50 a0_0 a0_1 a0_2 a0_3 a2).bind fun v26 =>
                           if (v26 != 0) = true then
                            some ((v9.2 == v26) && ((v9.1.length : Int) == 0))
                            else (r51 a0_0 a0_1 a0_2 a0_3 a1_0 a1_1 a2).bind fun v27 =>
                             if (!v27.2) = true then
                              some ((v9.2 == 22) && ((v9.1.length : Int) == 0))
                              else if (v9.2 == 0) = true → (r52 v9.1 v27.1).isSome = true then
                               some ((v9.2 == 0) && ((r52 v9.1 v27.1).getD default))
                               else none
                         else none
                        else (r49 a0_0 a0_1 a0_2 a0_3 a1_0 a1_1 ((a2.getD 0 default).1) ((a2.getD 0 default).2.1) ((a2.getD 0 default).2.2)).bind fun v30 =>
                         if ((!v30.2.2) && (!(v7.2.2 != 22))) = true → (r47 v7.1 v7.2.1 [] []).isSome = true then
                          if (((!((!v30.2.2) && ((v7.2.2 != 22) || (!((r47 v7.1 v7.2.1 [] []).getD default))))) && v30.2.2) && (!(v7.2.2 != 0))) = true → (r47 v7.1 v7.2.1 v30.1 v30.2.1).isSome = true then
                           if (((!v30.2.2) && ((v7.2.2 != 22) || (!((r47 v7.1 v7.2.1 [] []).getD default)))) || (v30.2.2 && ((v7.2.2 != 0) || (!((r47 v7.1 v7.2.1 v30.1 v30.2.1).getD default))))) = true then
                            some false
                            else (r50 a0_0 a0_1 a0_2 a0_3 a2).bind fun v31 =>
                             if (v31 != 0) = true then
                              some ((v9.2 == v31) && ((v9.1.length : Int) == 0))
                              else (r51 a0_0 a0_1 a0_2 a0_3 a1_0 a1_1 a2).bind fun v32 =>
                               if (!v32.2) = true then
                                some ((v9.2 == 22) && ((v9.1.length : Int) == 0))
                                else if (v9.2 == 0) = true → (r52 v9.1 v32.1).isSome = true then
                                 some ((v9.2 == 0) && ((r52 v9.1 v32.1).getD default))
                                 else none
                           else none
                          else none
           else none
          else (r18 a0_0 a0_1 a0_2 a0_3).bind fun v37 =>
           (r40 a1_0 a1_1).bind fun v38 =>
            (r39 v37.1 v37.2.1 v37.2.2.1 v37.2.2.2 v38.1 v38.2).bind fun v39 =>
             (r42 [] 0 0).bind fun v40 =>
              (r41 v37.1 v37.2.1 v37.2.2.1 v37.2.2.2 v38.1 v38.2 v40.1 v40.2.1 v40.2.2).bind fun v41 =>
               (r44 a2).bind fun v42 =>
                (r43 v37.1 v37.2.1 v37.2.2.1 v37.2.2.2 v38.1 v38.2 v42).bind fun v43 =>
                 (r45 a0_0 a0_1 a0_2 a0_3).bind fun v44 =>
                  if (v44 == 0) = true then
                   (r46 a0_0 a0_1 a0_2 a0_3 a1_0 a1_1).bind fun v45 =>
                    if ((v39.2 != v45.2) || (v39.1 != v45.1)) = true then
                     some false
                     else if (v45.2 != 0) = true then
                      if ((v41.2.2 == v45.2) && (v43.2 == v45.2)) = true → (r47 v41.1 v41.2.1 [] []).isSome = true then
                       some ((((v41.2.2 == v45.2) && (v43.2 == v45.2)) && ((r47 v41.1 v41.2.1 [] []).getD default)) && ((v43.1.length : Int) == 0))
                       else none
                      else (r48 a0_0 a0_1 a0_2 a0_3 [] 0 0).bind fun v47 =>
                       if (v47 != 0) = true then
                        if (!(v41.2.2 != v47)) = true → (r47 v41.1 v41.2.1 [] []).isSome = true then
                         if ((v41.2.2 != v47) || (!((r47 v41.1 v41.2.1 [] []).getD default))) = true then
                          some false
                          else (r50 a0_0 a0_1 a0_2 a0_3 a2).bind fun v48 =>
                           if (v48 != 0) = true then
                            some ((v43.2 == v48) && ((v43.1.length : Int) == 0))
                            else (r51 a0_0 a0_1 a0_2 a0_3 a1_0 a1_1 a2).bind fun v49 =>
                             if (!v49.2) = true then
                              some ((v43.2 == 22) && ((v43.1.length : Int) == 0))
                              else if (v43.2 == 0) = true → (r52 v43.1 v49.1).isSome = true then
                               some ((v43.2 == 0) && ((r52 v43.1 v49.1).getD default))
                               else none
                         else none
                        else (r49 a0_0 a0_1 a0_2 a0_3 a1_0 a1_1 [] 0 0).bind fun v52 =>
                         if ((!v52.2.2) && (!(v41.2.2 != 22))) = true → (r47 v41.1 v41.2.1 [] []).isSome = true then
                          if (((!((!v52.2.2) && ((v41.2.2 != 22) || (!((r47 v41.1 v41.2.1 [] []).getD default))))) && v52.2.2) && (!(v41.2.2 != 0))) = true → (r47 v41.1 v41.2.1 v52.1 v52.2.1).isSome = true then
                           if (((!v52.2.2) && ((v41.2.2 != 22) || (!((r47 v41.1 v41.2.1 [] []).getD default)))) || (v52.2.2 && ((v41.2.2 != 0) || (!((r47 v41.1 v41.2.1 v52.1 v52.2.1).getD default))))) = true then
                            some false
                            else (r50 a0_0 a0_1 a0_2 a0_3 a2).bind fun v53 =>
                             if (v53 != 0) = true then
                              some ((v43.2 == v53) && ((v43.1.length : Int) == 0))
                              else (r51 a0_0 a0_1 a0_2 a0_3 a1_0 a1_1 a2).bind fun v54 =>
                               if (!v54.2) = true then
                                some ((v43.2 == 22) && ((v43.1.length : Int) == 0))
                                else if (v43.2 == 0) = true → (r52 v43.1 v54.1).isSome = true then
                                 some ((v43.2 == 0) && ((r52 v43.1 v54.1).getD default))
                                 else none
                           else none
                          else none
                   else if ((v39.2 != v44) || (v39.1 != 0)) = true then
                    some false
                    else if (v44 != 0) = true then
                     if ((v41.2.2 == v44) && (v43.2 == v44)) = true → (r47 v41.1 v41.2.1 [] []).isSome = true then
                      some ((((v41.2.2 == v44) && (v43.2 == v44)) && ((r47 v41.1 v41.2.1 [] []).getD default)) && ((v43.1.length : Int) == 0))
                      else none
                     else (r48 a0_0 a0_1 a0_2 a0_3 [] 0 0).bind fun v59 =>
                      if (v59 != 0) = true then
                       if (!(v41.2.2 != v59)) = true → (r47 v41.1 v41.2.1 [] []).isSome = true then
                        if ((v41.2.2 != v59) || (!((r47 v41.1 v41.2.1 [] []).getD default))) = true then
                         some false
                         else (r50 a0_0 a0_1 a0_2 a0_3 a2).bind fun v60 =>
                          if (v60 != 0) = true then
                           some ((v43.2 == v60) && ((v43.1.length : Int) == 0))
                           else (r51 a0_0 a0_1 a0_2 a0_3 a1_0 a1_1 a2).bind fun v61 =>
                            if (!v61.2) = true then
                             some ((v43.2 == 22) && ((v43.1.length : Int) == 0))
                             else if (v43.2 == 0) = true → (r52 v43.1 v61.1).isSome = true then
                              some ((v43.2 == 0) && ((r52 v43.1 v61.1).getD default))
                              else none
                        else none
                       else (r49 a0_0 a0_1 a0_2 a0_3 a1_0 a1_1 [] 0 0).bind fun v64 =>
                        if ((!v64.2.2) && (!(v41.2.2 != 22))) = true → (r47 v41.1 v41.2.1 [] []).isSome = true then
                         if (((!((!v64.2.2) && ((v41.2.2 != 22) || (!((r47 v41.1 v41.2.1 [] []).getD default))))) && v64.2.2) && (!(v41.2.2 != 0))) = true → (r47 v41.1 v41.2.1 v64.1 v64.2.1).isSome = true then
                          if (((!v64.2.2) && ((v41.2.2 != 22) || (!((r47 v41.1 v41.2.1 [] []).getD default)))) || (v64.2.2 && ((v41.2.2 != 0) || (!((r47 v41.1 v41.2.1 v64.1 v64.2.1).getD default))))) = true then
                           some false
                           else (r50 a0_0 a0_1 a0_2 a0_3 a2).bind fun v65 =>
                            if (v65 != 0) = true then
                             some ((v43.2 == v65) && ((v43.1.length : Int) == 0))
                             else (r51 a0_0 a0_1 a0_2 a0_3 a1_0 a1_1 a2).bind fun v66 =>
                              if (!v66.2) = true then
                               some ((v43.2 == 22) && ((v43.1.length : Int) == 0))
                               else if (v43.2 == 0) = true → (r52 v43.1 v66.1).isSome = true then
                                some ((v43.2 == 0) && ((r52 v43.1 v66.1).getD default))
                                else none
                          else none
                         else none
        else none
       else none
      else none
def T6 : TSpec (Int × Int × (List (Int × Int)) × (List ((List (Int × Int)))) × (List (Int)) × (List (Int)) × (List ((List (Int × Int)) × Int × Int))) where
  enc x := [.agg [.int .i64 x.1, .int .i64 x.2.1, encF 2 d_II x.2.2.1, encF 1 d_LIIE x.2.2.2.1], .agg [encF 1 d_I x.2.2.2.2.1, encF 1 d_I x.2.2.2.2.2.1], .c (encF 3 d_LIIEII x.2.2.2.2.2.2)]
  dec a := (dInt (aCell a 0 0), dInt (aCell a 0 1), decF g_II (aCell a 0 2), decF g_LIIE (aCell a 0 3), decF g_I (aCell a 1 0), decF g_I (aCell a 1 1), decF g_LIIEII (aCell a 2 0))
  pre x := (r6 x.1 x.2.1 x.2.2.1 x.2.2.2.1 x.2.2.2.2.1 x.2.2.2.2.2.1 x.2.2.2.2.2.2).isSome = true
  res x := [.c (.d (.bool ((r6 x.1 x.2.1 x.2.2.1 x.2.2.2.1 x.2.2.2.2.1 x.2.2.2.2.2.1 x.2.2.2.2.2.2).getD default)))]
  al := false
def tb6 : Fns := lk [(14, T14.sp), (15, T15.sp), (16, T16.sp), (18, T18.sp), (38, T38.sp), (39, T39.sp), (40, T40.sp), (41, T41.sp), (42, T42.sp), (43, T43.sp), (44, T44.sp), (45, T45.sp), (46, T46.sp), (47, T47.sp), (48, T48.sp), (49, T49.sp), (50, T50.sp), (51, T51.sp), (52, T52.sp)]
theorem tb6_ok : FnsOk Try.prog tb6 := .cons f14 (.cons f15 (.cons f16 (.cons f18 (.cons f38 (.cons f39 (.cons f40 (.cons f41 (.cons f42 (.cons f43 (.cons f44 (.cons f45 (.cons f46 (.cons f47 (.cons f48 (.cons f49 (.cons f50 (.cons f51 (.cons f52 (FnsOk.nil)))))))))))))))))))
theorem tb6_14 : tb6 14 = some T14.sp := rfl
theorem tb6_15 : tb6 15 = some T15.sp := rfl
theorem tb6_16 : tb6 16 = some T16.sp := rfl
theorem tb6_18 : tb6 18 = some T18.sp := rfl
theorem tb6_38 : tb6 38 = some T38.sp := rfl
theorem tb6_39 : tb6 39 = some T39.sp := rfl
theorem tb6_40 : tb6 40 = some T40.sp := rfl
theorem tb6_41 : tb6 41 = some T41.sp := rfl
theorem tb6_42 : tb6 42 = some T42.sp := rfl
theorem tb6_43 : tb6 43 = some T43.sp := rfl
theorem tb6_44 : tb6 44 = some T44.sp := rfl
theorem tb6_45 : tb6 45 = some T45.sp := rfl
theorem tb6_46 : tb6 46 = some T46.sp := rfl
theorem tb6_47 : tb6 47 = some T47.sp := rfl
theorem tb6_48 : tb6 48 = some T48.sp := rfl
theorem tb6_49 : tb6 49 = some T49.sp := rfl
theorem tb6_50 : tb6 50 = some T50.sp := rfl
theorem tb6_51 : tb6 51 = some T51.sp := rfl
theorem tb6_52 : tb6 52 = some T52.sp := rfl
theorem v6 : Valid Try.prog 6 T6.sp := by
  refine valid_t (fn := Try.f6) (n := 196) ty_ok tb6_ok Try.func6 rfl Try.ntmps6 ?_
  rintro ⟨a0_0, a0_1, a0_2, a0_3, a1_0, a1_1, a2⟩ hx
  obtain ⟨r, hr⟩ := Option.isSome_iff_exists.1 (show (r6 a0_0 a0_1 a0_2 a0_3 a1_0 a1_1 a2).isSome = true from hx)
  have hres : T6.res (a0_0, a0_1, a0_2, a0_3, a1_0, a1_1, a2) = [.c (.d (.bool r))] := by simp only [T6, hr, Option.getD_some]
  refine ⟨Nat.le_of_ble_eq_true rfl, fun stop S => ?_⟩
  rw [hres] at S
  unfold r6 at hr
  refine S.goB [] 1000 ?_
  simp (maxSteps := 10000000) only [go_sem, tb6_14, T14, tb6_15, T15, tb6_16, T16, tb6_18, T18, tb6_38, T38, tb6_39, T39, tb6_40, T40, tb6_41, T41, tb6_42, T42, tb6_43, T43, tb6_44, T44, tb6_45, T45, tb6_46, T46, tb6_47, T47, tb6_48, T48, tb6_49, T49, tb6_50, T50, tb6_51, T51, tb6_52, T52, T6, Option.map_some, Int.reduceToNat, Nat.reduceEqDiff, Nat.reduceLT, Nat.reduceAdd, Nat.reduceMul, Nat.reduceSub, Nat.reduceLeDiff, reduceIte, reduceCtorEq, Try.results6]
  obtain ⟨v1, hv1, hr⟩ := of_bind0 hr
  try simp only [hv1, Option.getD_some, Option.isSome_some, true_and, and_assoc]
  repeat (refine And.intro ?_ ?_; focus (first | assumption | decide +kernel | (show _ ≠ _; omega) | ((fail_if_success intro _); omega) | (show Eqv _ _; (simp (maxDischargeDepth := 8) [go_sem]))))
  refine ⟨fun hc => ?_, fun hc => ?_⟩
  · rw [if_pos (by first | exact hc | (rw [hc]; rfl) | simpa using hc | (simp at hc ⊢; omega) | simp_all)] at hr
    repeat (refine And.intro ?_ ?_; focus (first | assumption | decide +kernel | (show _ ≠ _; omega) | ((fail_if_success intro _); omega) | (show Eqv _ _; (simp (maxDischargeDepth := 8) [go_sem]))))
    obtain rfl := Option.some.inj hr
    (simp (maxDischargeDepth := 8) [go_sem])
  · rw [if_neg (by first | exact hc | (rw [hc]; rfl) | simpa using hc | (simp at hc ⊢; omega) | simp_all)] at hr
    obtain ⟨v2, hv2, hr⟩ := of_bind0 hr
    obtain ⟨hg70, hr⟩ := of_guard0 hr
    obtain ⟨hg71, hr⟩ := of_guard0 hr
    obtain ⟨hg72, hr⟩ := of_guard0 hr
    try simp only [hv2, Option.getD_some, Option.isSome_some, true_and, and_assoc]
    repeat (refine And.intro ?_ ?_; focus (first | assumption | decide +kernel | (show _ ≠ _; omega) | ((fail_if_success intro _); omega) | (show Eqv _ _; (simp (maxDischargeDepth := 8) [go_sem])) | (intro hq; first | exact hg70 (by first | exact hq | (rw [hq]; rfl) | simpa using hq) | (have h9 := hg70 (by first | exact hq | (rw [hq]; rfl) | simpa using hq); first | omega | (simpa using h9)) | exact hg71 (by first | exact hq | (rw [hq]; rfl) | simpa using hq) | (have h9 := hg71 (by first | exact hq | (rw [hq]; rfl) | simpa using hq); first | omega | (simpa using h9)) | exact hg72 (by first | exact hq | (rw [hq]; rfl) | simpa using hq) | (have h9 := hg72 (by first | exact hq | (rw [hq]; rfl) | simpa using hq); first | omega | (simpa using h9)) | exact hq.1 | exact hq) | (intro hq; exact ⟨hq, fun h2 => by rw [hq]; simp [h2]⟩) | (simp +contextual; done)))
    refine ⟨fun hc => ?_, fun hc => ?_⟩
    · rw [if_pos (by first | exact hc | (rw [hc]; rfl) | simpa using hc | (simp at hc ⊢; omega) | simp_all)] at hr
      repeat (refine And.intro ?_ ?_; focus (first | assumption | decide +kernel | (show _ ≠ _; omega) | ((fail_if_success intro _); omega) | (show Eqv _ _; (simp (maxDischargeDepth := 8) [go_sem]))))
      obtain rfl := Option.some.inj hr
      (simp (maxDischargeDepth := 8) [go_sem])
    · rw [if_neg (by first | exact hc | (rw [hc]; rfl) | simpa using hc | (simp at hc ⊢; omega) | simp_all)] at hr
      repeat (refine And.intro ?_ ?_; focus (first | assumption | decide +kernel | (show _ ≠ _; omega) | ((fail_if_success intro _); omega) | (show Eqv _ _; (simp (maxDischargeDepth := 8) [go_sem]))))
      refine ⟨fun hc => ?_, fun hc => ?_⟩
      · rw [if_pos (by first | exact hc | (rw [hc]; rfl) | simpa using hc | (simp at hc ⊢; omega) | simp_all)] at hr
        obtain ⟨hg36, hr⟩ := of_guard0 hr
        obtain ⟨v3, hv3, hr⟩ := of_bind0 hr
        obtain ⟨v4, hv4, hr⟩ := of_bind0 hr
        obtain ⟨v5, hv5, hr⟩ := of_bind0 hr
        obtain ⟨v6, hv6, hr⟩ := of_bind0 hr
        obtain ⟨v7, hv7, hr⟩ := of_bind0 hr
        obtain ⟨v8, hv8, hr⟩ := of_bind0 hr
        obtain ⟨v9, hv9, hr⟩ := of_bind0 hr
        obtain ⟨v10, hv10, hr⟩ := of_bind0 hr
        try simp only [hv3, hv4, hv5, hv6, hv7, hv8, hv9, hv10, Option.getD_some, Option.isSome_some, true_and, and_assoc]
        repeat (refine And.intro ?_ ?_; focus (first | assumption | decide +kernel | (show _ ≠ _; omega) | ((fail_if_success intro _); omega) | (show Eqv _ _; (simp (maxDischargeDepth := 8) [go_sem]))))
        refine ⟨fun hc => ?_, fun hc => ?_⟩
        · rw [if_pos (by first | exact hc | (rw [hc]; rfl) | simpa using hc | (simp at hc ⊢; omega) | simp_all)] at hr
          obtain ⟨v11, hv11, hr⟩ := of_bind0 hr
          try simp only [hv11, Option.getD_some, Option.isSome_some, true_and, and_assoc]
          repeat (refine And.intro ?_ ?_; focus (first | assumption | decide +kernel | (show _ ≠ _; omega) | ((fail_if_success intro _); omega) | (show Eqv _ _; (simp (maxDischargeDepth := 8) [go_sem])) | (intro hq; first | exact hq.1 | exact hq) | (intro hq; exact ⟨hq, fun h2 => by rw [hq]; simp [h2]⟩) | (simp +contextual; done)))
          refine ⟨fun hc => ?_, fun hc => ?_⟩
          · rw [if_pos (by first | exact hc | (rw [hc]; rfl) | simpa using hc | (simp at hc ⊢; omega) | simp_all)] at hr
            repeat (refine And.intro ?_ ?_; focus (first | assumption | decide +kernel | (show _ ≠ _; omega) | ((fail_if_success intro _); omega) | (show Eqv _ _; (simp (maxDischargeDepth := 8) [go_sem]))))
            obtain rfl := Option.some.inj hr
            (simp (maxDischargeDepth := 8) [go_sem])
          · rw [if_neg (by first | exact hc | (rw [hc]; rfl) | simpa using hc | (simp at hc ⊢; omega) | simp_all)] at hr
            repeat (refine And.intro ?_ ?_; focus (first | assumption | decide +kernel | (show _ ≠ _; omega) | ((fail_if_success intro _); omega) | (show Eqv _ _; (simp (maxDischargeDepth := 8) [go_sem]))))
            refine ⟨fun hc => ?_, fun hc => ?_⟩
            · rw [if_pos (by first | exact hc | (rw [hc]; rfl) | simpa using hc | (simp at hc ⊢; omega) | simp_all)] at hr
              obtain ⟨hg12, hr⟩ := of_guard0 hr
              repeat (refine And.intro ?_ ?_; focus (first | assumption | decide +kernel | (show _ ≠ _; omega) | ((fail_if_success intro _); omega) | (show Eqv _ _; (simp (maxDischargeDepth := 8) [go_sem])) | (intro hq; first | exact hg12 (by first | exact hq | (rw [hq]; rfl) | simpa using hq) | (have h9 := hg12 (by first | exact hq | (rw [hq]; rfl) | simpa using hq); first | omega | (simpa using h9)) | exact hq.1 | exact hq) | (intro hq; exact ⟨hq, fun h2 => by rw [hq]; simp [h2]⟩) | (simp +contextual; done)))
              obtain rfl := Option.some.inj hr
              (simp (maxDischargeDepth := 8) [go_sem])
            · rw [if_neg (by first | exact hc | (rw [hc]; rfl) | simpa using hc | (simp at hc ⊢; omega) | simp_all)] at hr
              obtain ⟨v13, hv13, hr⟩ := of_bind0 hr
              try simp only [hv13, Option.getD_some, Option.isSome_some, true_and, and_assoc]
              repeat (refine And.intro ?_ ?_; focus (first | assumption | decide +kernel | (show _ ≠ _; omega) | ((fail_if_success intro _); omega) | (show Eqv _ _; (simp (maxDischargeDepth := 8) [go_sem]))))
              refine ⟨fun hc => ?_, fun hc => ?_⟩
              · rw [if_pos (by first | exact hc | (rw [hc]; rfl) | simpa using hc | (simp at hc ⊢; omega) | simp_all)] at hr
                obtain ⟨hg17, hr⟩ := of_guard0 hr
                repeat (refine And.intro ?_ ?_; focus (first | assumption | decide +kernel | (show _ ≠ _; omega) | ((fail_if_success intro _); omega) | (show Eqv _ _; (simp (maxDischargeDepth := 8) [go_sem])) | (intro hq; first | exact hg17 (by first | exact hq | (rw [hq]; rfl) | simpa using hq) | (have h9 := hg17 (by first | exact hq | (rw [hq]; rfl) | simpa using hq); first | omega | (simpa using h9)) | exact hq.1 | exact hq) | (intro hq; exact ⟨hq, fun h2 => by rw [hq]; simp [h2]⟩) | (simp +contextual; done)))
                refine ⟨fun hc => ?_, fun hc => ?_⟩
                · rw [if_pos (by first | exact hc | (rw [hc]; rfl) | simpa using hc | (simp at hc ⊢; omega) | simp_all)] at hr
                  repeat (refine And.intro ?_ ?_; focus (first | assumption | decide +kernel | (show _ ≠ _; omega) | ((fail_if_success intro _); omega) | (show Eqv _ _; (simp (maxDischargeDepth := 8) [go_sem]))))
                  obtain rfl := Option.some.inj hr
                  (simp (maxDischargeDepth := 8) [go_sem])
                · rw [if_neg (by first | exact hc | (rw [hc]; rfl) | simpa using hc | (simp at hc ⊢; omega) | simp_all)] at hr
                  obtain ⟨v14, hv14, hr⟩ := of_bind0 hr
                  try simp only [hv14, Option.getD_some, Option.isSome_some, true_and, and_assoc]
                  repeat (refine And.intro ?_ ?_; focus (first | assumption | decide +kernel | (show _ ≠ _; omega) | ((fail_if_success intro _); omega) | (show Eqv _ _; (simp (maxDischargeDepth := 8) [go_sem]))))
                  refine ⟨fun hc => ?_, fun hc => ?_⟩
                  · rw [if_pos (by first | exact hc | (rw [hc]; rfl) | simpa using hc | (simp at hc ⊢; omega) | simp_all)] at hr
                    repeat (refine And.intro ?_ ?_; focus (first | assumption | decide +kernel | (show _ ≠ _; omega) | ((fail_if_success intro _); omega) | (show Eqv _ _; (simp (maxDischargeDepth := 8) [go_sem])) | (intro hq; first | exact hq.1 | exact hq) | (intro hq; exact ⟨hq, fun h2 => by rw [hq]; simp [h2]⟩) | (simp +contextual; done)))
                    obtain rfl := Option.some.inj hr
                    (simp (maxDischargeDepth := 8) [go_sem])
                  · rw [if_neg (by first | exact hc | (rw [hc]; rfl) | simpa using hc | (simp at hc ⊢; omega) | simp_all)] at hr
                    obtain ⟨v15, hv15, hr⟩ := of_bind0 hr
                    try simp only [hv15, Option.getD_some, Option.isSome_some, true_and, and_assoc]
                    repeat (refine And.intro ?_ ?_; focus (first | assumption | decide +kernel | (show _ ≠ _; omega) | ((fail_if_success intro _); omega) | (show Eqv _ _; (simp (maxDischargeDepth := 8) [go_sem]))))
                    refine ⟨fun hc => ?_, fun hc => ?_⟩
                    · rw [if_pos (by first | exact hc | (rw [hc]; rfl) | simpa using hc | (simp at hc ⊢; omega) | simp_all)] at hr
                      repeat (refine And.intro ?_ ?_; focus (first | assumption | decide +kernel | (show _ ≠ _; omega) | ((fail_if_success intro _); omega) | (show Eqv _ _; (simp (maxDischargeDepth := 8) [go_sem])) | (intro hq; first | exact hq.1 | exact hq) | (intro hq; exact ⟨hq, fun h2 => by rw [hq]; simp [h2]⟩) | (simp +contextual; done)))
                      obtain rfl := Option.some.inj hr
                      (simp (maxDischargeDepth := 8) [go_sem])
                    · rw [if_neg (by first | exact hc | (rw [hc]; rfl) | simpa using hc | (simp at hc ⊢; omega) | simp_all)] at hr
                      obtain ⟨hg16, hr⟩ := of_guard0 hr
                      repeat (refine And.intro ?_ ?_; focus (first | assumption | decide +kernel | (show _ ≠ _; omega) | ((fail_if_success intro _); omega) | (show Eqv _ _; (simp (maxDischargeDepth := 8) [go_sem])) | (intro hq; first | exact hg16 (by first | exact hq | (rw [hq]; rfl) | simpa using hq) | (have h9 := hg16 (by first | exact hq | (rw [hq]; rfl) | simpa using hq); first | omega | (simpa using h9)) | exact hq.1 | exact hq) | (intro hq; exact ⟨hq, fun h2 => by rw [hq]; simp [h2]⟩) | (simp +contextual; done)))
                      obtain rfl := Option.some.inj hr
                      (simp (maxDischargeDepth := 8) [go_sem])
              · rw [if_neg (by first | exact hc | (rw [hc]; rfl) | simpa using hc | (simp at hc ⊢; omega) | simp_all)] at hr
                obtain ⟨v18, hv18, hr⟩ := of_bind0 hr
                obtain ⟨hg22, hr⟩ := of_guard0 hr
                obtain ⟨hg23, hr⟩ := of_guard0 hr
                try simp only [hv18, Option.getD_some, Option.isSome_some, true_and, and_assoc]
                repeat (refine And.intro ?_ ?_; focus (first | assumption | decide +kernel | (show _ ≠ _; omega) | ((fail_if_success intro _); omega) | (show Eqv _ _; (simp (maxDischargeDepth := 8) [go_sem])) | (intro hq; first | exact hg22 (by first | exact hq | (rw [hq]; rfl) | simpa using hq) | (have h9 := hg22 (by first | exact hq | (rw [hq]; rfl) | simpa using hq); first | omega | (simpa using h9)) | exact hg23 (by first | exact hq | (rw [hq]; rfl) | simpa using hq) | (have h9 := hg23 (by first | exact hq | (rw [hq]; rfl) | simpa using hq); first | omega | (simpa using h9)) | exact hq.1 | exact hq) | (intro hq; exact ⟨hq, fun h2 => by rw [hq]; simp [h2]⟩) | (simp +contextual; done)))
                refine ⟨fun hc => ?_, fun hc => ?_⟩
                · rw [if_pos (by first | exact hc | (rw [hc]; rfl) | simpa using hc | (simp at hc ⊢; omega) | simp_all)] at hr
                  repeat (refine And.intro ?_ ?_; focus (first | assumption | decide +kernel | (show _ ≠ _; omega) | ((fail_if_success intro _); omega) | (show Eqv _ _; (simp (maxDischargeDepth := 8) [go_sem]))))
                  obtain rfl := Option.some.inj hr
                  (simp (maxDischargeDepth := 8) [go_sem])
                · rw [if_neg (by first | exact hc | (rw [hc]; rfl) | simpa using hc | (simp at hc ⊢; omega) | simp_all)] at hr
                  obtain ⟨v19, hv19, hr⟩ := of_bind0 hr
                  try simp only [hv19, Option.getD_some, Option.isSome_some, true_and, and_assoc]
                  repeat (refine And.intro ?_ ?_; focus (first | assumption | decide +kernel | (show _ ≠ _; omega) | ((fail_if_success intro _); omega) | (show Eqv _ _; (simp (maxDischargeDepth := 8) [go_sem]))))
                  refine ⟨fun hc => ?_, fun hc => ?_⟩
                  · rw [if_pos (by first | exact hc | (rw [hc]; rfl) | simpa using hc | (simp at hc ⊢; omega) | simp_all)] at hr
                    repeat (refine And.intro ?_ ?_; focus (first | assumption | decide +kernel | (show _ ≠ _; omega) | ((fail_if_success intro _); omega) | (show Eqv _ _; (simp (maxDischargeDepth := 8) [go_sem])) | (intro hq; first | exact hq.1 | exact hq) | (intro hq; exact ⟨hq, fun h2 => by rw [hq]; simp [h2]⟩) | (simp +contextual; done)))
                    obtain rfl := Option.some.inj hr
                    (simp (maxDischargeDepth := 8) [go_sem])
                  · rw [if_neg (by first | exact hc | (rw [hc]; rfl) | simpa using hc | (simp at hc ⊢; omega) | simp_all)] at hr
                    obtain ⟨v20, hv20, hr⟩ := of_bind0 hr
                    try simp only [hv20, Option.getD_some, Option.isSome_some, true_and, and_assoc]
                    repeat (refine And.intro ?_ ?_; focus (first | assumption | decide +kernel | (show _ ≠ _; omega) | ((fail_if_success intro _); omega) | (show Eqv _ _; (simp (maxDischargeDepth := 8) [go_sem]))))
                    refine ⟨fun hc => ?_, fun hc => ?_⟩
                    · rw [if_pos (by first | exact hc | (rw [hc]; rfl) | simpa using hc | (simp at hc ⊢; omega) | simp_all)] at hr
                      repeat (refine And.intro ?_ ?_; focus (first | assumption | decide +kernel | (show _ ≠ _; omega) | ((fail_if_success intro _); omega) | (show Eqv _ _; (simp (maxDischargeDepth := 8) [go_sem])) | (intro hq; first | exact hq.1 | exact hq) | (intro hq; exact ⟨hq, fun h2 => by rw [hq]; simp [h2]⟩) | (simp +contextual; done)))
                      obtain rfl := Option.some.inj hr
                      (simp (maxDischargeDepth := 8) [go_sem])
                    · rw [if_neg (by first | exact hc | (rw [hc]; rfl) | simpa using hc | (simp at hc ⊢; omega) | simp_all)] at hr
                      obtain ⟨hg21, hr⟩ := of_guard0 hr
                      repeat (refine And.intro ?_ ?_; focus (first | assumption | decide +kernel | (show _ ≠ _; omega) | ((fail_if_success intro _); omega) | (show Eqv _ _; (simp (maxDischargeDepth := 8) [go_sem])) | (intro hq; first | exact hg21 (by first | exact hq | (rw [hq]; rfl) | simpa using hq) | (have h9 := hg21 (by first | exact hq | (rw [hq]; rfl) | simpa using hq); first | omega | (simpa using h9)) | exact hq.1 | exact hq) | (intro hq; exact ⟨hq, fun h2 => by rw [hq]; simp [h2]⟩) | (simp +contextual; done)))
                      obtain rfl := Option.some.inj hr
                      (simp (maxDischargeDepth := 8) [go_sem])
        · rw [if_neg (by first | exact hc | (rw [hc]; rfl) | simpa using hc | (simp at hc ⊢; omega) | simp_all)] at hr
          repeat (refine And.intro ?_ ?_; focus (first | assumption | decide +kernel | (show _ ≠ _; omega) | ((fail_if_success intro _); omega) | (show Eqv _ _; (simp (maxDischargeDepth := 8) [go_sem])) | (intro hq; first | exact hq.1 | exact hq) | (intro hq; exact ⟨hq, fun h2 => by rw [hq]; simp [h2]⟩) | (simp +contextual; done)))
          refine ⟨fun hc => ?_, fun hc => ?_⟩
          · rw [if_pos (by first | exact hc | (rw [hc]; rfl) | simpa using hc | (simp at hc ⊢; omega) | simp_all)] at hr
            repeat (refine And.intro ?_ ?_; focus (first | assumption | decide +kernel | (show _ ≠ _; omega) | ((fail_if_success intro _); omega) | (show Eqv _ _; (simp (maxDischargeDepth := 8) [go_sem]))))
            obtain rfl := Option.some.inj hr
            (simp (maxDischargeDepth := 8) [go_sem])
          · rw [if_neg (by first | exact hc | (rw [hc]; rfl) | simpa using hc | (simp at hc ⊢; omega) | simp_all)] at hr
            repeat (refine And.intro ?_ ?_; focus (first | assumption | decide +kernel | (show _ ≠ _; omega) | ((fail_if_success intro _); omega) | (show Eqv _ _; (simp (maxDischargeDepth := 8) [go_sem]))))
            refine ⟨fun hc => ?_, fun hc => ?_⟩
            · rw [if_pos (by first | exact hc | (rw [hc]; rfl) | simpa using hc | (simp at hc ⊢; omega) | simp_all)] at hr
              obtain ⟨hg24, hr⟩ := of_guard0 hr
              repeat (refine And.intro ?_ ?_; focus (first | assumption | decide +kernel | (show _ ≠ _; omega) | ((fail_if_success intro _); omega) | (show Eqv _ _; (simp (maxDischargeDepth := 8) [go_sem])) | (intro hq; first | exact hg24 (by first | exact hq | (rw [hq]; rfl) | simpa using hq) | (have h9 := hg24 (by first | exact hq | (rw [hq]; rfl) | simpa using hq); first | omega | (simpa using h9)) | exact hq.1 | exact hq) | (intro hq; exact ⟨hq, fun h2 => by rw [hq]; simp [h2]⟩) | (simp +contextual; done)))
              obtain rfl := Option.some.inj hr
              (simp (maxDischargeDepth := 8) [go_sem])
            · rw [if_neg (by first | exact hc | (rw [hc]; rfl) | simpa using hc | (simp at hc ⊢; omega) | simp_all)] at hr
              obtain ⟨v25, hv25, hr⟩ := of_bind0 hr
              try simp only [hv25, Option.getD_some, Option.isSome_some, true_and, and_assoc]
              repeat (refine And.intro ?_ ?_; focus (first | assumption | decide +kernel | (show _ ≠ _; omega) | ((fail_if_success intro _); omega) | (show Eqv _ _; (simp (maxDischargeDepth := 8) [go_sem]))))
              refine ⟨fun hc => ?_, fun hc => ?_⟩
              · rw [if_pos (by first | exact hc | (rw [hc]; rfl) | simpa using hc | (simp at hc ⊢; omega) | simp_all)] at hr
                obtain ⟨hg29, hr⟩ := of_guard0 hr
                repeat (refine And.intro ?_ ?_; focus (first | assumption | decide +kernel | (show _ ≠ _; omega) | ((fail_if_success intro _); omega) | (show Eqv _ _; (simp (maxDischargeDepth := 8) [go_sem])) | (intro hq; first | exact hg29 (by first | exact hq | (rw [hq]; rfl) | simpa using hq) | (have h9 := hg29 (by first | exact hq | (rw [hq]; rfl) | simpa using hq); first | omega | (simpa using h9)) | exact hq.1 | exact hq) | (intro hq; exact ⟨hq, fun h2 => by rw [hq]; simp [h2]⟩) | (simp +contextual; done)))
                refine ⟨fun hc => ?_, fun hc => ?_⟩
                · rw [if_pos (by first | exact hc | (rw [hc]; rfl) | simpa using hc | (simp at hc ⊢; omega) | simp_all)] at hr
                  repeat (refine And.intro ?_ ?_; focus (first | assumption | decide +kernel | (show _ ≠ _; omega) | ((fail_if_success intro _); omega) | (show Eqv _ _; (simp (maxDischargeDepth := 8) [go_sem]))))
                  obtain rfl := Option.some.inj hr
                  (simp (maxDischargeDepth := 8) [go_sem])
                · rw [if_neg (by first | exact hc | (rw [hc]; rfl) | simpa using hc | (simp at hc ⊢; omega) | simp_all)] at hr
                  obtain ⟨v26, hv26, hr⟩ := of_bind0 hr
                  try simp only [hv26, Option.getD_some, Option.isSome_some, true_and, and_assoc]
                  repeat (refine And.intro ?_ ?_; focus (first | assumption | decide +kernel | (show _ ≠ _; omega) | ((fail_if_success intro _); omega) | (show Eqv _ _; (simp (maxDischargeDepth := 8) [go_sem]))))
                  refine ⟨fun hc => ?_, fun hc => ?_⟩
                  · rw [if_pos (by first | exact hc | (rw [hc]; rfl) | simpa using hc | (simp at hc ⊢; omega) | simp_all)] at hr
                    repeat (refine And.intro ?_ ?_; focus (first | assumption | decide +kernel | (show _ ≠ _; omega) | ((fail_if_success intro _); omega) | (show Eqv _ _; (simp (maxDischargeDepth := 8) [go_sem])) | (intro hq; first | exact hq.1 | exact hq) | (intro hq; exact ⟨hq, fun h2 => by rw [hq]; simp [h2]⟩) | (simp +contextual; done)))
                    obtain rfl := Option.some.inj hr
                    (simp (maxDischargeDepth := 8) [go_sem])
                  · rw [if_neg (by first | exact hc | (rw [hc]; rfl) | simpa using hc | (simp at hc ⊢; omega) | simp_all)] at hr
                    obtain ⟨v27, hv27, hr⟩ := of_bind0 hr
                    try simp only [hv27, Option.getD_some, Option.isSome_some, true_and, and_assoc]
                    repeat (refine And.intro ?_ ?_; focus (first | assumption | decide +kernel | (show _ ≠ _; omega) | ((fail_if_success intro _); omega) | (show Eqv _ _; (simp (maxDischargeDepth := 8) [go_sem]))))
                    refine ⟨fun hc => ?_, fun hc => ?_⟩
                    · rw [if_pos (by first | exact hc | (rw [hc]; rfl) | simpa using hc | (simp at hc ⊢; omega) | simp_all)] at hr
                      repeat (refine And.intro ?_ ?_; focus (first | assumption | decide +kernel | (show _ ≠ _; omega) | ((fail_if_success intro _); omega) | (show Eqv _ _; (simp (maxDischargeDepth := 8) [go_sem])) | (intro hq; first | exact hq.1 | exact hq) | (intro hq; exact ⟨hq, fun h2 => by rw [hq]; simp [h2]⟩) | (simp +contextual; done)))
                      obtain rfl := Option.some.inj hr
                      (simp (maxDischargeDepth := 8) [go_sem])
                    · rw [if_neg (by first | exact hc | (rw [hc]; rfl) | simpa using hc | (simp at hc ⊢; omega) | simp_all)] at hr
                      obtain ⟨hg28, hr⟩ := of_guard0 hr
                      repeat (refine And.intro ?_ ?_; focus (first | assumption | decide +kernel | (show _ ≠ _; omega) | ((fail_if_success intro _); omega) | (show Eqv _ _; (simp (maxDischargeDepth := 8) [go_sem])) | (intro hq; first | exact hg28 (by first | exact hq | (rw [hq]; rfl) | simpa using hq) | (have h9 := hg28 (by first | exact hq | (rw [hq]; rfl) | simpa using hq); first | omega | (simpa using h9)) | exact hq.1 | exact hq) | (intro hq; exact ⟨hq, fun h2 => by rw [hq]; simp [h2]⟩) | (simp +contextual; done)))
                      obtain rfl := Option.some.inj hr
                      (simp (maxDischargeDepth := 8) [go_sem])
              · rw [if_neg (by first | exact hc | (rw [hc]; rfl) | simpa using hc | (simp at hc ⊢; omega) | simp_all)] at hr
                obtain ⟨v30, hv30, hr⟩ := of_bind0 hr
                obtain ⟨hg34, hr⟩ := of_guard0 hr
                obtain ⟨hg35, hr⟩ := of_guard0 hr
                try simp only [hv30, Option.getD_some, Option.isSome_some, true_and, and_assoc]
                repeat (refine And.intro ?_ ?_; focus (first | assumption | decide +kernel | (show _ ≠ _; omega) | ((fail_if_success intro _); omega) | (show Eqv _ _; (simp (maxDischargeDepth := 8) [go_sem])) | (intro hq; first | exact hg34 (by first | exact hq | (rw [hq]; rfl) | simpa using hq) | (have h9 := hg34 (by first | exact hq | (rw [hq]; rfl) | simpa using hq); first | omega | (simpa using h9)) | exact hg35 (by first | exact hq | (rw [hq]; rfl) | simpa using hq) | (have h9 := hg35 (by first | exact hq | (rw [hq]; rfl) | simpa using hq); first | omega | (simpa using h9)) | exact hq.1 | exact hq) | (intro hq; exact ⟨hq, fun h2 => by rw [hq]; simp [h2]⟩) | (simp +contextual; done)))
                refine ⟨fun hc => ?_, fun hc => ?_⟩
                · rw [if_pos (by first | exact hc | (rw [hc]; rfl) | simpa using hc | (simp at hc ⊢; omega) | simp_all)] at hr
                  repeat (refine And.intro ?_ ?_; focus (first | assumption | decide +kernel | (show _ ≠ _; omega) | ((fail_if_success intro _); omega) | (show Eqv _ _; (simp (maxDischargeDepth := 8) [go_sem]))))
                  obtain rfl := Option.some.inj hr
                  (simp (maxDischargeDepth := 8) [go_sem])
                · rw [if_neg (by first | exact hc | (rw [hc]; rfl) | simpa using hc | (simp at hc ⊢; omega) | simp_all)] at hr
                  obtain ⟨v31, hv31, hr⟩ := of_bind0 hr
                  try simp only [hv31, Option.getD_some, Option.isSome_some, true_and, and_assoc]
                  repeat (refine And.intro ?_ ?_; focus (first | assumption | decide +kernel | (show _ ≠ _; omega) | ((fail_if_success intro _); omega) | (show Eqv _ _; (simp (maxDischargeDepth := 8) [go_sem]))))
                  refine ⟨fun hc => ?_, fun hc => ?_⟩
                  · rw [if_pos (by first | exact hc | (rw [hc]; rfl) | simpa using hc | (simp at hc ⊢; omega) | simp_all)] at hr
                    repeat (refine And.intro ?_ ?_; focus (first | assumption | decide +kernel | (show _ ≠ _; omega) | ((fail_if_success intro _); omega) | (show Eqv _ _; (simp (maxDischargeDepth := 8) [go_sem])) | (intro hq; first | exact hq.1 | exact hq) | (intro hq; exact ⟨hq, fun h2 => by rw [hq]; simp [h2]⟩) | (simp +contextual; done)))
                    obtain rfl := Option.some.inj hr
                    (simp (maxDischargeDepth := 8) [go_sem])
                  · rw [if_neg (by first | exact hc | (rw [hc]; rfl) | simpa using hc | (simp at hc ⊢; omega) | simp_all)] at hr
                    obtain ⟨v32, hv32, hr⟩ := of_bind0 hr
                    try simp only [hv32, Option.getD_some, Option.isSome_some, true_and, and_assoc]
                    repeat (refine And.intro ?_ ?_; focus (first | assumption | decide +kernel | (show _ ≠ _; omega) | ((fail_if_success intro _); omega) | (show Eqv _ _; (simp (maxDischargeDepth := 8) [go_sem]))))
                    refine ⟨fun hc => ?_, fun hc => ?_⟩
                    · rw [if_pos (by first | exact hc | (rw [hc]; rfl) | simpa using hc | (simp at hc ⊢; omega) | simp_all)] at hr
                      repeat (refine And.intro ?_ ?_; focus (first | assumption | decide +kernel | (show _ ≠ _; omega) | ((fail_if_success intro _); omega) | (show Eqv _ _; (simp (maxDischargeDepth := 8) [go_sem])) | (intro hq; first | exact hq.1 | exact hq) | (intro hq; exact ⟨hq, fun h2 => by rw [hq]; simp [h2]⟩) | (simp +contextual; done)))
                      obtain rfl := Option.some.inj hr
                      (simp (maxDischargeDepth := 8) [go_sem])
                    · rw [if_neg (by first | exact hc | (rw [hc]; rfl) | simpa using hc | (simp at hc ⊢; omega) | simp_all)] at hr
                      obtain ⟨hg33, hr⟩ := of_guard0 hr
                      repeat (refine And.intro ?_ ?_; focus (first | assumption | decide +kernel | (show _ ≠ _; omega) | ((fail_if_success intro _); omega) | (show Eqv _ _; (simp (maxDischargeDepth := 8) [go_sem])) | (intro hq; first | exact hg33 (by first | exact hq | (rw [hq]; rfl) | simpa using hq) | (have h9 := hg33 (by first | exact hq | (rw [hq]; rfl) | simpa using hq); first | omega | (simpa using h9)) | exact hq.1 | exact hq) | (intro hq; exact ⟨hq, fun h2 => by rw [hq]; simp [h2]⟩) | (simp +contextual; done)))
                      obtain rfl := Option.some.inj hr
                      (simp (maxDischargeDepth := 8) [go_sem])
      · rw [if_neg (by first | exact hc | (rw [hc]; rfl) | simpa using hc | (simp at hc ⊢; omega) | simp_all)] at hr
        obtain ⟨v37, hv37, hr⟩ := of_bind0 hr
        obtain ⟨v38, hv38, hr⟩ := of_bind0 hr
        obtain ⟨v39, hv39, hr⟩ := of_bind0 hr
        obtain ⟨v40, hv40, hr⟩ := of_bind0 hr
        obtain ⟨v41, hv41, hr⟩ := of_bind0 hr
        obtain ⟨v42, hv42, hr⟩ := of_bind0 hr
        obtain ⟨v43, hv43, hr⟩ := of_bind0 hr
        obtain ⟨v44, hv44, hr⟩ := of_bind0 hr
        try simp only [hv37, hv38, hv39, hv40, hv41, hv42, hv43, hv44, Option.getD_some, Option.isSome_some, true_and, and_assoc]
        repeat (refine And.intro ?_ ?_; focus (first | assumption | decide +kernel | (show _ ≠ _; omega) | ((fail_if_success intro _); omega) | (show Eqv _ _; (simp (maxDischargeDepth := 8) [go_sem]))))
        refine ⟨fun hc => ?_, fun hc => ?_⟩
        · rw [if_pos (by first | exact hc | (rw [hc]; rfl) | simpa using hc | (simp at hc ⊢; omega) | simp_all)] at hr
          obtain ⟨v45, hv45, hr⟩ := of_bind0 hr
          try simp only [hv45, Option.getD_some, Option.isSome_some, true_and, and_assoc]
          repeat (refine And.intro ?_ ?_; focus (first | assumption | decide +kernel | (show _ ≠ _; omega) | ((fail_if_success intro _); omega) | (show Eqv _ _; (simp (maxDischargeDepth := 8) [go_sem])) | (intro hq; first | exact hq.1 | exact hq) | (intro hq; exact ⟨hq, fun h2 => by rw [hq]; simp [h2]⟩) | (simp +contextual; done)))
          refine ⟨fun hc => ?_, fun hc => ?_⟩
          · rw [if_pos (by first | exact hc | (rw [hc]; rfl) | simpa using hc | (simp at hc ⊢; omega) | simp_all)] at hr
            repeat (refine And.intro ?_ ?_; focus (first | assumption | decide +kernel | (show _ ≠ _; omega) | ((fail_if_success intro _); omega) | (show Eqv _ _; (simp (maxDischargeDepth := 8) [go_sem]))))
            obtain rfl := Option.some.inj hr
            (simp (maxDischargeDepth := 8) [go_sem])
          · rw [if_neg (by first | exact hc | (rw [hc]; rfl) | simpa using hc | (simp at hc ⊢; omega) | simp_all)] at hr
            repeat (refine And.intro ?_ ?_; focus (first | assumption | decide +kernel | (show _ ≠ _; omega) | ((fail_if_success intro _); omega) | (show Eqv _ _; (simp (maxDischargeDepth := 8) [go_sem]))))
            refine ⟨fun hc => ?_, fun hc => ?_⟩
            · rw [if_pos (by first | exact hc | (rw [hc]; rfl) | simpa using hc | (simp at hc ⊢; omega) | simp_all)] at hr
              obtain ⟨hg46, hr⟩ := of_guard0 hr
              repeat (refine And.intro ?_ ?_; focus (first | assumption | decide +kernel | (show _ ≠ _; omega) | ((fail_if_success intro _); omega) | (show Eqv _ _; (simp (maxDischargeDepth := 8) [go_sem])) | (intro hq; first | exact hg46 (by first | exact hq | (rw [hq]; rfl) | simpa using hq) | (have h9 := hg46 (by first | exact hq | (rw [hq]; rfl) | simpa using hq); first | omega | (simpa using h9)) | exact hq.1 | exact hq) | (intro hq; exact ⟨hq, fun h2 => by rw [hq]; simp [h2]⟩) | (simp +contextual; done)))
              obtain rfl := Option.some.inj hr
              (simp (maxDischargeDepth := 8) [go_sem])
            · rw [if_neg (by first | exact hc | (rw [hc]; rfl) | simpa using hc | (simp at hc ⊢; omega) | simp_all)] at hr
              obtain ⟨v47, hv47, hr⟩ := of_bind0 hr
              try simp only [hv47, Option.getD_some, Option.isSome_some, true_and, and_assoc]
              repeat (refine And.intro ?_ ?_; focus (first | assumption | decide +kernel | (show _ ≠ _; omega) | ((fail_if_success intro _); omega) | (show Eqv _ _; (simp (maxDischargeDepth := 8) [go_sem]))))
              refine ⟨fun hc => ?_, fun hc => ?_⟩
              · rw [if_pos (by first | exact hc | (rw [hc]; rfl) | simpa using hc | (simp at hc ⊢; omega) | simp_all)] at hr
                obtain ⟨hg51, hr⟩ := of_guard0 hr
                repeat (refine And.intro ?_ ?_; focus (first | assumption | decide +kernel | (show _ ≠ _; omega) | ((fail_if_success intro _); omega) | (show Eqv _ _; (simp (maxDischargeDepth := 8) [go_sem])) | (intro hq; first | exact hg51 (by first | exact hq | (rw [hq]; rfl) | simpa using hq) | (have h9 := hg51 (by first | exact hq | (rw [hq]; rfl) | simpa using hq); first | omega | (simpa using h9)) | exact hq.1 | exact hq) | (intro hq; exact ⟨hq, fun h2 => by rw [hq]; simp [h2]⟩) | (simp +contextual; done)))
                refine ⟨fun hc => ?_, fun hc => ?_⟩
                · rw [if_pos (by first | exact hc | (rw [hc]; rfl) | simpa using hc | (simp at hc ⊢; omega) | simp_all)] at hr
                  repeat (refine And.intro ?_ ?_; focus (first | assumption | decide +kernel | (show _ ≠ _; omega) | ((fail_if_success intro _); omega) | (show Eqv _ _; (simp (maxDischargeDepth := 8) [go_sem]))))
                  obtain rfl := Option.some.inj hr
                  (simp (maxDischargeDepth := 8) [go_sem])
                · rw [if_neg (by first | exact hc | (rw [hc]; rfl) | simpa using hc | (simp at hc ⊢; omega) | simp_all)] at hr
                  obtain ⟨v48, hv48, hr⟩ := of_bind0 hr
                  try simp only [hv48, Option.getD_some, Option.isSome_some, true_and, and_assoc]
                  repeat (refine And.intro ?_ ?_; focus (first | assumption | decide +kernel | (show _ ≠ _; omega) | ((fail_if_success intro _); omega) | (show Eqv _ _; (simp (maxDischargeDepth := 8) [go_sem]))))
                  refine ⟨fun hc => ?_, fun hc => ?_⟩
                  · rw [if_pos (by first | exact hc | (rw [hc]; rfl) | simpa using hc | (simp at hc ⊢; omega) | simp_all)] at hr
                    repeat (refine And.intro ?_ ?_; focus (first | assumption | decide +kernel | (show _ ≠ _; omega) | ((fail_if_success intro _); omega) | (show Eqv _ _; (simp (maxDischargeDepth := 8) [go_sem])) | (intro hq; first | exact hq.1 | exact hq) | (intro hq; exact ⟨hq, fun h2 => by rw [hq]; simp [h2]⟩) | (simp +contextual; done)))
                    obtain rfl := Option.some.inj hr
                    (simp (maxDischargeDepth := 8) [go_sem])
                  · rw [if_neg (by first | exact hc | (rw [hc]; rfl) | simpa using hc | (simp at hc ⊢; omega) | simp_all)] at hr
                    obtain ⟨v49, hv49, hr⟩ := of_bind0 hr
                    try simp only [hv49, Option.getD_some, Option.isSome_some, true_and, and_assoc]
                    repeat (refine And.intro ?_ ?_; focus (first | assumption | decide +kernel | (show _ ≠ _; omega) | ((fail_if_success intro _); omega) | (show Eqv _ _; (simp (maxDischargeDepth := 8) [go_sem]))))
                    refine ⟨fun hc => ?_, fun hc => ?_⟩
                    · rw [if_pos (by first | exact hc | (rw [hc]; rfl) | simpa using hc | (simp at hc ⊢; omega) | simp_all)] at hr
                      repeat (refine And.intro ?_ ?_; focus (first | assumption | decide +kernel | (show _ ≠ _; omega) | ((fail_if_success intro _); omega) | (show Eqv _ _; (simp (maxDischargeDepth := 8) [go_sem])) | (intro hq; first | exact hq.1 | exact hq) | (intro hq; exact ⟨hq, fun h2 => by rw [hq]; simp [h2]⟩) | (simp +contextual; done)))
                      obtain rfl := Option.some.inj hr
                      (simp (maxDischargeDepth := 8) [go_sem])
                    · rw [if_neg (by first | exact hc | (rw [hc]; rfl) | simpa using hc | (simp at hc ⊢; omega) | simp_all)] at hr
                      obtain ⟨hg50, hr⟩ := of_guard0 hr
                      repeat (refine And.intro ?_ ?_; focus (first | assumption | decide +kernel | (show _ ≠ _; omega) | ((fail_if_success intro _); omega) | (show Eqv _ _; (simp (maxDischargeDepth := 8) [go_sem])) | (intro hq; first | exact hg50 (by first | exact hq | (rw [hq]; rfl) | simpa using hq) | (have h9 := hg50 (by first | exact hq | (rw [hq]; rfl) | simpa using hq); first | omega | (simpa using h9)) | exact hq.1 | exact hq) | (intro hq; exact ⟨hq, fun h2 => by rw [hq]; simp [h2]⟩) | (simp +contextual; done)))
                      obtain rfl := Option.some.inj hr
                      (simp (maxDischargeDepth := 8) [go_sem])
              · rw [if_neg (by first | exact hc | (rw [hc]; rfl) | simpa using hc | (simp at hc ⊢; omega) | simp_all)] at hr
                obtain ⟨v52, hv52, hr⟩ := of_bind0 hr
                obtain ⟨hg56, hr⟩ := of_guard0 hr
                obtain ⟨hg57, hr⟩ := of_guard0 hr
                try simp only [hv52, Option.getD_some, Option.isSome_some, true_and, and_assoc]
                repeat (refine And.intro ?_ ?_; focus (first | assumption | decide +kernel | (show _ ≠ _; omega) | ((fail_if_success intro _); omega) | (show Eqv _ _; (simp (maxDischargeDepth := 8) [go_sem])) | (intro hq; first | exact hg56 (by first | exact hq | (rw [hq]; rfl) | simpa using hq) | (have h9 := hg56 (by first | exact hq | (rw [hq]; rfl) | simpa using hq); first | omega | (simpa using h9)) | exact hg57 (by first | exact hq | (rw [hq]; rfl) | simpa using hq) | (have h9 := hg57 (by first | exact hq | (rw [hq]; rfl) | simpa using hq); first | omega | (simpa using h9)) | exact hq.1 | exact hq) | (intro hq; exact ⟨hq, fun h2 => by rw [hq]; simp [h2]⟩) | (simp +contextual; done)))
                refine ⟨fun hc => ?_, fun hc => ?_⟩
                · rw [if_pos (by first | exact hc | (rw [hc]; rfl) | simpa using hc | (simp at hc ⊢; omega) | simp_all)] at hr
                  repeat (refine And.intro ?_ ?_; focus (first | assumption | decide +kernel | (show _ ≠ _; omega) | ((fail_if_success intro _); omega) | (show Eqv _ _; (simp (maxDischargeDepth := 8) [go_sem]))))
                  obtain rfl := Option.some.inj hr
                  (simp (maxDischargeDepth := 8) [go_sem])
                · rw [if_neg (by first | exact hc | (rw [hc]; rfl) | simpa using hc | (simp at hc ⊢; omega) | simp_all)] at hr
                  obtain ⟨v53, hv53, hr⟩ := of_bind0 hr
                  try simp only [hv53, Option.getD_some, Option.isSome_some, true_and, and_assoc]
                  repeat (refine And.intro ?_ ?_; focus (first | assumption | decide +kernel | (show _ ≠ _; omega) | ((fail_if_success intro _); omega) | (show Eqv _ _; (simp (maxDischargeDepth := 8) [go_sem]))))
                  refine ⟨fun hc => ?_, fun hc => ?_⟩
                  · rw [if_pos (by first | exact hc | (rw [hc]; rfl) | simpa using hc | (simp at hc ⊢; omega) | simp_all)] at hr
                    repeat (refine And.intro ?_ ?_; focus (first | assumption | decide +kernel | (show _ ≠ _; omega) | ((fail_if_success intro _); omega) | (show Eqv _ _; (simp (maxDischargeDepth := 8) [go_sem])) | (intro hq; first | exact hq.1 | exact hq) | (intro hq; exact ⟨hq, fun h2 => by rw [hq]; simp [h2]⟩) | (simp +contextual; done)))
                    obtain rfl := Option.some.inj hr
                    (simp (maxDischargeDepth := 8) [go_sem])
                  · rw [if_neg (by first | exact hc | (rw [hc]; rfl) | simpa using hc | (simp at hc ⊢; omega) | simp_all)] at hr
                    obtain ⟨v54, hv54, hr⟩ := of_bind0 hr
                    try simp only [hv54, Option.getD_some, Option.isSome_some, true_and, and_assoc]
                    repeat (refine And.intro ?_ ?_; focus (first | assumption | decide +kernel | (show _ ≠ _; omega) | ((fail_if_success intro _); omega) | (show Eqv _ _; (simp (maxDischargeDepth := 8) [go_sem]))))
                    refine ⟨fun hc => ?_, fun hc => ?_⟩
                    · rw [if_pos (by first | exact hc | (rw [hc]; rfl) | simpa using hc | (simp at hc ⊢; omega) | simp_all)] at hr
                      repeat (refine And.intro ?_ ?_; focus (first | assumption | decide +kernel | (show _ ≠ _; omega) | ((fail_if_success intro _); omega) | (show Eqv _ _; (simp (maxDischargeDepth := 8) [go_sem])) | (intro hq; first | exact hq.1 | exact hq) | (intro hq; exact ⟨hq, fun h2 => by rw [hq]; simp [h2]⟩) | (simp +contextual; done)))
                      obtain rfl := Option.some.inj hr
                      (simp (maxDischargeDepth := 8) [go_sem])
                    · rw [if_neg (by first | exact hc | (rw [hc]; rfl) | simpa using hc | (simp at hc ⊢; omega) | simp_all)] at hr
                      obtain ⟨hg55, hr⟩ := of_guard0 hr
                      repeat (refine And.intro ?_ ?_; focus (first | assumption | decide +kernel | (show _ ≠ _; omega) | ((fail_if_success intro _); omega) | (show Eqv _ _; (simp (maxDischargeDepth := 8) [go_sem])) | (intro hq; first | exact hg55 (by first | exact hq | (rw [hq]; rfl) | simpa using hq) | (have h9 := hg55 (by first | exact hq | (rw [hq]; rfl) | simpa using hq); first | omega | (simpa using h9)) | exact hq.1 | exact hq) | (intro hq; exact ⟨hq, fun h2 => by rw [hq]; simp [h2]⟩) | (simp +contextual; done)))
                      obtain rfl := Option.some.inj hr
                      (simp (maxDischargeDepth := 8) [go_sem])
        · rw [if_neg (by first | exact hc | (rw [hc]; rfl) | simpa using hc | (simp at hc ⊢; omega) | simp_all)] at hr
          repeat (refine And.intro ?_ ?_; focus (first | assumption | decide +kernel | (show _ ≠ _; omega) | ((fail_if_success intro _); omega) | (show Eqv _ _; (simp (maxDischargeDepth := 8) [go_sem])) | (intro hq; first | exact hq.1 | exact hq) | (intro hq; exact ⟨hq, fun h2 => by rw [hq]; simp [h2]⟩) | (simp +contextual; done)))
          refine ⟨fun hc => ?_, fun hc => ?_⟩
          · rw [if_pos (by first | exact hc | (rw [hc]; rfl) | simpa using hc | (simp at hc ⊢; omega) | simp_all)] at hr
            repeat (refine And.intro ?_ ?_; focus (first | assumption | decide +kernel | (show _ ≠ _; omega) | ((fail_if_success intro _); omega) | (show Eqv _ _; (simp (maxDischargeDepth := 8) [go_sem]))))
            obtain rfl := Option.some.inj hr
            (simp (maxDischargeDepth := 8) [go_sem])
          · rw [if_neg (by first | exact hc | (rw [hc]; rfl) | simpa using hc | (simp at hc ⊢; omega) | simp_all)] at hr
            repeat (refine And.intro ?_ ?_; focus (first | assumption | decide +kernel | (show _ ≠ _; omega) | ((fail_if_success intro _); omega) | (show Eqv _ _; (simp (maxDischargeDepth := 8) [go_sem]))))
            refine ⟨fun hc => ?_, fun hc => ?_⟩
            · rw [if_pos (by first | exact hc | (rw [hc]; rfl) | simpa using hc | (simp at hc ⊢; omega) | simp_all)] at hr
              obtain ⟨hg58, hr⟩ := of_guard0 hr
              repeat (refine And.intro ?_ ?_; focus (first | assumption | decide +kernel | (show _ ≠ _; omega) | ((fail_if_success intro _); omega) | (show Eqv _ _; (simp (maxDischargeDepth := 8) [go_sem])) | (intro hq; first | exact hg58 (by first | exact hq | (rw [hq]; rfl) | simpa using hq) | (have h9 := hg58 (by first | exact hq | (rw [hq]; rfl) | simpa using hq); first | omega | (simpa using h9)) | exact hq.1 | exact hq) | (intro hq; exact ⟨hq, fun h2 => by rw [hq]; simp [h2]⟩) | (simp +contextual; done)))
              obtain rfl := Option.some.inj hr
              (simp (maxDischargeDepth := 8) [go_sem])
            · rw [if_neg (by first | exact hc | (rw [hc]; rfl) | simpa using hc | (simp at hc ⊢; omega) | simp_all)] at hr
              obtain ⟨v59, hv59, hr⟩ := of_bind0 hr
              try simp only [hv59, Option.getD_some, Option.isSome_some, true_and, and_assoc]
              repeat (refine And.intro ?_ ?_; focus (first | assumption | decide +kernel | (show _ ≠ _; omega) | ((fail_if_success intro _); omega) | (show Eqv _ _; (simp (maxDischargeDepth := 8) [go_sem]))))
              refine ⟨fun hc => ?_, fun hc => ?_⟩
              · rw [if_pos (by first | exact hc | (rw [hc]; rfl) | simpa using hc | (simp at hc ⊢; omega) | simp_all)] at hr
                obtain ⟨hg63, hr⟩ := of_guard0 hr
                repeat (refine And.intro ?_ ?_; focus (first | assumption | decide +kernel | (show _ ≠ _; omega) | ((fail_if_success intro _); omega) | (show Eqv _ _; (simp (maxDischargeDepth := 8) [go_sem])) | (intro hq; first | exact hg63 (by first | exact hq | (rw [hq]; rfl) | simpa using hq) | (have h9 := hg63 (by first | exact hq | (rw [hq]; rfl) | simpa using hq); first | omega | (simpa using h9)) | exact hq.1 | exact hq) | (intro hq; exact ⟨hq, fun h2 => by rw [hq]; simp [h2]⟩) | (simp +contextual; done)))
                refine ⟨fun hc => ?_, fun hc => ?_⟩
                · rw [if_pos (by first | exact hc | (rw [hc]; rfl) | simpa using hc | (simp at hc ⊢; omega) | simp_all)] at hr
                  repeat (refine And.intro ?_ ?_; focus (first | assumption | decide +kernel | (show _ ≠ _; omega) | ((fail_if_success intro _); omega) | (show Eqv _ _; (simp (maxDischargeDepth := 8) [go_sem]))))
                  obtain rfl := Option.some.inj hr
                  (simp (maxDischargeDepth := 8) [go_sem])
                · rw [if_neg (by first | exact hc | (rw [hc]; rfl) | simpa using hc | (simp at hc ⊢; omega) | simp_all)] at hr
                  obtain ⟨v60, hv60, hr⟩ := of_bind0 hr
                  try simp only [hv60, Option.getD_some, Option.isSome_some, true_and, and_assoc]
                  repeat (refine And.intro ?_ ?_; focus (first | assumption | decide +kernel | (show _ ≠ _; omega) | ((fail_if_success intro _); omega) | (show Eqv _ _; (simp (maxDischargeDepth := 8) [go_sem]))))
                  refine ⟨fun hc => ?_, fun hc => ?_⟩
                  · rw [if_pos (by first | exact hc | (rw [hc]; rfl) | simpa using hc | (simp at hc ⊢; omega) | simp_all)] at hr
                    repeat (refine And.intro ?_ ?_; focus (first | assumption | decide +kernel | (show _ ≠ _; omega) | ((fail_if_success intro _); omega) | (show Eqv _ _; (simp (maxDischargeDepth := 8) [go_sem])) | (intro hq; first | exact hq.1 | exact hq) | (intro hq; exact ⟨hq, fun h2 => by rw [hq]; simp [h2]⟩) | (simp +contextual; done)))
                    obtain rfl := Option.some.inj hr
                    (simp (maxDischargeDepth := 8) [go_sem])
                  · rw [if_neg (by first | exact hc | (rw [hc]; rfl) | simpa using hc | (simp at hc ⊢; omega) | simp_all)] at hr
                    obtain ⟨v61, hv61, hr⟩ := of_bind0 hr
                    try simp only [hv61, Option.getD_some, Option.isSome_some, true_and, and_assoc]
                    repeat (refine And.intro ?_ ?_; focus (first | assumption | decide +kernel | (show _ ≠ _; omega) | ((fail_if_success intro _); omega) | (show Eqv _ _; (simp (maxDischargeDepth := 8) [go_sem]))))
                    refine ⟨fun hc => ?_, fun hc => ?_⟩
                    · rw [if_pos (by first | exact hc | (rw [hc]; rfl) | simpa using hc | (simp at hc ⊢; omega) | simp_all)] at hr
                      repeat (refine And.intro ?_ ?_; focus (first | assumption | decide +kernel | (show _ ≠ _; omega) | ((fail_if_success intro _); omega) | (show Eqv _ _; (simp (maxDischargeDepth := 8) [go_sem])) | (intro hq; first | exact hq.1 | exact hq) | (intro hq; exact ⟨hq, fun h2 => by rw [hq]; simp [h2]⟩) | (simp +contextual; done)))
                      obtain rfl := Option.some.inj hr
                      (simp (maxDischargeDepth := 8) [go_sem])
                    · rw [if_neg (by first | exact hc | (rw [hc]; rfl) | simpa using hc | (simp at hc ⊢; omega) | simp_all)] at hr
                      obtain ⟨hg62, hr⟩ := of_guard0 hr
                      repeat (refine And.intro ?_ ?_; focus (first | assumption | decide +kernel | (show _ ≠ _; omega) | ((fail_if_success intro _); omega) | (show Eqv _ _; (simp (maxDischargeDepth := 8) [go_sem])) | (intro hq; first | exact hg62 (by first | exact hq | (rw [hq]; rfl) | simpa using hq) | (have h9 := hg62 (by first | exact hq | (rw [hq]; rfl) | simpa using hq); first | omega | (simpa using h9)) | exact hq.1 | exact hq) | (intro hq; exact ⟨hq, fun h2 => by rw [hq]; simp [h2]⟩) | (simp +contextual; done)))
                      obtain rfl := Option.some.inj hr
                      (simp (maxDischargeDepth := 8) [go_sem])
              · rw [if_neg (by first | exact hc | (rw [hc]; rfl) | simpa using hc | (simp at hc ⊢; omega) | simp_all)] at hr
                obtain ⟨v64, hv64, hr⟩ := of_bind0 hr
                obtain ⟨hg68, hr⟩ := of_guard0 hr
                obtain ⟨hg69, hr⟩ := of_guard0 hr
                try simp only [hv64, Option.getD_some, Option.isSome_some, true_and, and_assoc]
                repeat (refine And.intro ?_ ?_; focus (first | assumption | decide +kernel | (show _ ≠ _; omega) | ((fail_if_success intro _); omega) | (show Eqv _ _; (simp (maxDischargeDepth := 8) [go_sem])) | (intro hq; first | exact hg68 (by first | exact hq | (rw [hq]; rfl) | simpa using hq) | (have h9 := hg68 (by first | exact hq | (rw [hq]; rfl) | simpa using hq); first | omega | (simpa using h9)) | exact hg69 (by first | exact hq | (rw [hq]; rfl) | simpa using hq) | (have h9 := hg69 (by first | exact hq | (rw [hq]; rfl) | simpa using hq); first | omega | (simpa using h9)) | exact hq.1 | exact hq) | (intro hq; exact ⟨hq, fun h2 => by rw [hq]; simp [h2]⟩) | (simp +contextual; done)))
                refine ⟨fun hc => ?_, fun hc => ?_⟩
                · rw [if_pos (by first | exact hc | (rw [hc]; rfl) | simpa using hc | (simp at hc ⊢; omega) | simp_all)] at hr
                  repeat (refine And.intro ?_ ?_; focus (first | assumption | decide +kernel | (show _ ≠ _; omega) | ((fail_if_success intro _); omega) | (show Eqv _ _; (simp (maxDischargeDepth := 8) [go_sem]))))
                  obtain rfl := Option.some.inj hr
                  (simp (maxDischargeDepth := 8) [go_sem])
                · rw [if_neg (by first | exact hc | (rw [hc]; rfl) | simpa using hc | (simp at hc ⊢; omega) | simp_all)] at hr
                  obtain ⟨v65, hv65, hr⟩ := of_bind0 hr
                  try simp only [hv65, Option.getD_some, Option.isSome_some, true_and, and_assoc]
                  repeat (refine And.intro ?_ ?_; focus (first | assumption | decide +kernel | (show _ ≠ _; omega) | ((fail_if_success intro _); omega) | (show Eqv _ _; (simp (maxDischargeDepth := 8) [go_sem]))))
                  refine ⟨fun hc => ?_, fun hc => ?_⟩
                  · rw [if_pos (by first | exact hc | (rw [hc]; rfl) | simpa using hc | (simp at hc ⊢; omega) | simp_all)] at hr
                    repeat (refine And.intro ?_ ?_; focus (first | assumption | decide +kernel | (show _ ≠ _; omega) | ((fail_if_success intro _); omega) | (show Eqv _ _; (simp (maxDischargeDepth := 8) [go_sem])) | (intro hq; first | exact hq.1 | exact hq) | (intro hq; exact ⟨hq, fun h2 => by rw [hq]; simp [h2]⟩) | (simp +contextual; done)))
                    obtain rfl := Option.some.inj hr
                    (simp (maxDischargeDepth := 8) [go_sem])
                  · rw [if_neg (by first | exact hc | (rw [hc]; rfl) | simpa using hc | (simp at hc ⊢; omega) | simp_all)] at hr
                    obtain ⟨v66, hv66, hr⟩ := of_bind0 hr
                    try simp only [hv66, Option.getD_some, Option.isSome_some, true_and, and_assoc]
                    repeat (refine And.intro ?_ ?_; focus (first | assumption | decide +kernel | (show _ ≠ _; omega) | ((fail_if_success intro _); omega) | (show Eqv _ _; (simp (maxDischargeDepth := 8) [go_sem]))))
                    refine ⟨fun hc => ?_, fun hc => ?_⟩
                    · rw [if_pos (by first | exact hc | (rw [hc]; rfl) | simpa using hc | (simp at hc ⊢; omega) | simp_all)] at hr
                      repeat (refine And.intro ?_ ?_; focus (first | assumption | decide +kernel | (show _ ≠ _; omega) | ((fail_if_success intro _); omega) | (show Eqv _ _; (simp (maxDischargeDepth := 8) [go_sem])) | (intro hq; first | exact hq.1 | exact hq) | (intro hq; exact ⟨hq, fun h2 => by rw [hq]; simp [h2]⟩) | (simp +contextual; done)))
                      obtain rfl := Option.some.inj hr
                      (simp (maxDischargeDepth := 8) [go_sem])
                    · rw [if_neg (by first | exact hc | (rw [hc]; rfl) | simpa using hc | (simp at hc ⊢; omega) | simp_all)] at hr
                      obtain ⟨hg67, hr⟩ := of_guard0 hr
                      repeat (refine And.intro ?_ ?_; focus (first | assumption | decide +kernel | (show _ ≠ _; omega) | ((fail_if_success intro _); omega) | (show Eqv _ _; (simp (maxDischargeDepth := 8) [go_sem])) | (intro hq; first | exact hg67 (by first | exact hq | (rw [hq]; rfl) | simpa using hq) | (have h9 := hg67 (by first | exact hq | (rw [hq]; rfl) | simpa using hq); first | omega | (simpa using h9)) | exact hq.1 | exact hq) | (intro hq; exact ⟨hq, fun h2 => by rw [hq]; simp [h2]⟩) | (simp +contextual; done)))
                      obtain rfl := Option.some.inj hr
                      (simp (maxDischargeDepth := 8) [go_sem])
theorem f6 : FnFact Try.prog 6 T6.sp := ⟨⟨Try.f6, Try.func6, by decide, rfl⟩, v6⟩
end Go.Proofs.Ytcbiiijnaeibhaa

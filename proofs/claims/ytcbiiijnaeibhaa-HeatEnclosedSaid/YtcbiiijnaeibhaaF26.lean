/- Contracts of functions, written by wip/dec. -/
import Derived.Test.YtcbiiijnaeibhaaF00
import Derived.Test.YtcbiiijnaeibhaaF03
import Derived.Test.YtcbiiijnaeibhaaF04
import Derived.Test.YtcbiiijnaeibhaaF05
import Derived.Test.YtcbiiijnaeibhaaF06
import Derived.Test.YtcbiiijnaeibhaaF10
import Derived.Test.YtcbiiijnaeibhaaF12
import Derived.Test.YtcbiiijnaeibhaaF21
import Derived.Test.YtcbiiijnaeibhaaF23
import Derived.Test.YtcbiiijnaeibhaaF25
set_option linter.unusedVariables false
set_option linter.unusedSimpArgs false
set_option maxHeartbeats 4000000
set_option maxRecDepth 20000
namespace Go.Proofs.Ytcbiiijnaeibhaa
open Go.Abs
/- martensite/martensitelaw03.HeatEnclosed -/
def b13_4 (a0_0 : Int) (v6 : (List ((List (Int)) × (List (Int)))) × Int) (s2 : Int × (List ((List (Int)) × Int)) × Int × (List (Int))) (s3 : Int × Int × (List (Int))) (v18 : Int) (v21 : (List (Int)) × Int) : (Int) → Ctl (Int) (Ctl (Int × (List ((List (Int)) × Int)) × Int × (List (Int))) (Bool)) := fun s4 =>
  if (decide (s4 < a0_0)) = true then
   if 0 ≤ s4 ∧ s4 < (v21.1.length : Int) then
    if 0 ≤ s2.2.2.1 ∧ s2.2.2.1 < (v6.1.length : Int) then
     if 0 ≤ s4 ∧ s4 < (((v6.1.getD s2.2.2.1.toNat default).1).length : Int) then
      if 0 ≤ s2.2.2.1 ∧ s2.2.2.1 < (v6.1.length : Int) then
       if 0 ≤ s4 ∧ s4 < (((v6.1.getD s2.2.2.1.toNat default).2).length : Int) then
        bindC (r59 (v21.1.getD s4.toNat default) (((v6.1.getD s2.2.2.1.toNat default).1).getD s4.toNat default) (((v6.1.getD s2.2.2.1.toNat default).2).getD s4.toNat default)) fun v22 =>
         if (!v22) = true then
          .out (some (.out (some false)))
          else .next (IntKind.i64.wrap (s4 + 1))
        else .out none
       else .out none
      else .out none
     else .out none
    else .out none
   else .out (some (bindC (r19 v21.1) fun v28 =>
    .next (s3.1, s2.2.1 ++ [(s3.2.2, v18)], IntKind.i64.wrap (s2.2.2.1 + 1), v28)))
def b13_3 (a0_0 : Int) (a0_1 : Int) (a0_2 : List (Int × Int)) (a0_3 : List ((List (Int × Int)))) (a2_0 : List ((List (Int × Int)) × Int × Int)) (a2_1 : Int) (a2_2 : List (Int)) (v6 : (List ((List (Int)) × (List (Int)))) × Int) (s2 : Int × (List ((List (Int)) × Int)) × Int × (List (Int))) : (Int × Int × (List (Int))) → Ctl (Int × Int × (List (Int))) (Ctl (Int × (List ((List (Int)) × Int)) × Int × (List (Int))) (Bool)) := fun s3 =>
  if (decide (s3.2.1 < a0_0)) = true then
   if 0 ≤ s2.2.2.1 ∧ s2.2.2.1 < (a2_0.length : Int) then
    if 0 ≤ s3.2.1 ∧ s3.2.1 < (((a2_0.getD s2.2.2.1.toNat default).1).length : Int) then
     bindC (r86 a2_0 a2_1 a2_2 s3.1 ((((a2_0.getD s2.2.2.1.toNat default).1).getD s3.2.1.toNat default).1) ((((a2_0.getD s2.2.2.1.toNat default).1).getD s3.2.1.toNat default).2)) fun v14 =>
      if (s3.2.2.length + 1) * 8 ≤ 140737488355328 ∧ s3.2.2.length + 1 ≤ 9223372036854775807 then
       .next (IntKind.i64.wrap (s3.1 + 1), IntKind.i64.wrap (s3.2.1 + 1), s3.2.2 ++ [v14])
       else .out none
     else .out none
    else .out none
   else .out (some (if 0 ≤ s2.2.2.1 ∧ s2.2.2.1 < (a2_0.length : Int) then
    bindC (r86 a2_0 a2_1 a2_2 s3.1 ((a2_0.getD s2.2.2.1.toNat default).2.1) ((a2_0.getD s2.2.2.1.toNat default).2.2)) fun v18 =>
     if (s2.2.1.length + 1) * 32 ≤ 140737488355328 ∧ s2.2.1.length + 1 ≤ 9223372036854775807 then
      bindC (r18 a0_0 a0_1 a0_2 a0_3) fun v19 =>
       bindC (r65 s3.2.2 v18) fun v20 =>
        bindC (r64 v19.1 v19.2.1 v19.2.2.1 v19.2.2.2 s2.2.2.2 v20.1 v20.2) fun v21 =>
         if (!(((v21.2 != 0) || (decide (s2.2.2.1 ≥ (v6.1.length : Int)))) || ((v21.1.length : Int) != a0_0))) = true → 0 ≤ s2.2.2.1 ∧ s2.2.2.1 < (v6.1.length : Int) then
          if (!((((v21.2 != 0) || (decide (s2.2.2.1 ≥ (v6.1.length : Int)))) || ((v21.1.length : Int) != a0_0)) || ((((v6.1.getD s2.2.2.1.toNat default).1).length : Int) != a0_0))) = true → 0 ≤ s2.2.2.1 ∧ s2.2.2.1 < (v6.1.length : Int) then
           if (((((v21.2 != 0) || (decide (s2.2.2.1 ≥ (v6.1.length : Int)))) || ((v21.1.length : Int) != a0_0)) || ((((v6.1.getD s2.2.2.1.toNat default).1).length : Int) != a0_0)) || ((((v6.1.getD s2.2.2.1.toNat default).2).length : Int) != a0_0)) = true then
            .out (some false)
            else (iterC (b13_4 a0_0 v6 s2 s3 v18 v21) 1000000000 0).getD (.out none)
           else .out none
          else .out none
      else .out none
    else .out none))
def b13_2 (a0_0 : Int) (a0_1 : Int) (a0_2 : List (Int × Int)) (a0_3 : List ((List (Int × Int)))) (a2_0 : List ((List (Int × Int)) × Int × Int)) (a2_1 : Int) (a2_2 : List (Int)) (v6 : (List ((List (Int)) × (List (Int)))) × Int) (v8 : Int × Int × Int) (v13 : (List (Int))) : (Int × (List ((List (Int)) × Int)) × Int × (List (Int))) → Ctl (Int × (List ((List (Int)) × Int)) × Int × (List (Int))) (Bool) := fun s2 =>
  if (decide (s2.2.2.1 < (a2_0.length : Int))) = true then
   (iterC (b13_3 a0_0 a0_1 a0_2 a0_3 a2_0 a2_1 a2_2 v6 s2) 1000000000 (s2.1, 0, [])).getD (.out none)
   else .out ((r18 a0_0 a0_1 a0_2 a0_3).bind fun v33 =>
    (r69 v33.1 v33.2.1 v33.2.2.1 v33.2.2.2 v13 s2.2.1).bind fun v34 =>
     if (((v8.2.2 != 0) || (v34.2 != 0)) || ((v34.1.length : Int) != a0_0)) = true then
      some false
      else (r27 a0_0 a0_1 a0_2 a0_3 v34.1).bind fun v35 =>
       if (v35.2 != 0) = true then
        some false
        else (r19 v34.1).bind fun v36 =>
         (r77 v33.1 v33.2.1 v33.2.2.1 v33.2.2.2 v36 a2_1).bind fun v37 =>
          if (v37.2 == 0) = true → (r59 v37.1 v8.1 v8.2.1).isSome = true then
           some ((v37.2 == 0) && ((r59 v37.1 v8.1 v8.2.1).getD default))
           else none)
def b13_1 (a0_0 : Int) (a0_1 : Int) (a0_2 : List (Int × Int)) (a0_3 : List ((List (Int × Int)))) (a1_0 : List (Int)) (a1_1 : List (Int)) (a2_0 : List ((List (Int × Int)) × Int × Int)) (a2_1 : Int) (a2_2 : List (Int)) (v6 : (List ((List (Int)) × (List (Int)))) × Int) (v8 : Int × Int × Int) : (Int × (List (Int)) × Int) → Ctl (Int × (List (Int)) × Int) (Bool) := fun s1 =>
  if (decide (s1.2.2 < a0_0)) = true then
   if 0 ≤ s1.2.2 ∧ s1.2.2 < (a1_0.length : Int) then
    if 0 ≤ s1.2.2 ∧ s1.2.2 < (a1_1.length : Int) then
     bindC (r86 a2_0 a2_1 a2_2 s1.1 (a1_0.getD s1.2.2.toNat default) (a1_1.getD s1.2.2.toNat default)) fun v9 =>
      if (s1.2.1.length + 1) * 8 ≤ 140737488355328 ∧ s1.2.1.length + 1 ≤ 9223372036854775807 then
       .next (IntKind.i64.wrap (s1.1 + 1), s1.2.1 ++ [v9], IntKind.i64.wrap (s1.2.2 + 1))
       else .out none
     else .out none
    else .out none
   else .out ((r19 s1.2.1).bind fun v13 =>
    iterC (b13_2 a0_0 a0_1 a0_2 a0_3 a2_0 a2_1 a2_2 v6 v8 v13) 1000000000 (s1.1, [], 0, s1.2.1))
def r13 (a0_0 : Int) (a0_1 : Int) (a0_2 : List (Int × Int)) (a0_3 : List ((List (Int × Int)))) (a1_0 : List (Int)) (a1_1 : List (Int)) (a2_0 : List ((List (Int × Int)) × Int × Int)) (a2_1 : Int) (a2_2 : List (Int)) : Option (Bool) :=
  (r14).bind fun v1 =>
   if (!v1) = true then
    some false
    else (r15 a0_0 a0_1 a0_2 a0_3).bind fun v2 =>
     if (!(!v2)) = true → (r16 a1_0).isSome = true then
      if (!((!v2) || (!((r16 a1_0).getD default)))) = true → (r16 a1_1).isSome = true then
       if (!(((!v2) || (!((r16 a1_0).getD default))) || (!((r16 a1_1).getD default)))) = true → (r38 a2_0).isSome = true then
        if (!((((!v2) || (!((r16 a1_0).getD default))) || (!((r16 a1_1).getD default))) || (!((r38 a2_0).getD default)))) = true → (r82 a0_0 a0_1 a0_2 a0_3 a1_0 a1_1).isSome = true then
         if (!(((((!v2) || (!((r16 a1_0).getD default))) || (!((r16 a1_1).getD default))) || (!((r38 a2_0).getD default))) || (((r82 a0_0 a0_1 a0_2 a0_3 a1_0 a1_1).getD default) != 0))) = true → (r83 a0_0 a0_1 a0_2 a0_3 a2_0 a2_1).isSome = true then
          if ((((((((!v2) || (!((r16 a1_0).getD default))) || (!((r16 a1_1).getD default))) || (!((r38 a2_0).getD default))) || (((r82 a0_0 a0_1 a0_2 a0_3 a1_0 a1_1).getD default) != 0)) || (((r83 a0_0 a0_1 a0_2 a0_3 a2_0 a2_1).getD default) != 0)) || ((a2_2.length : Int) == 0)) || (decide ((a2_2.length : Int) > 100))) = true then
           some true
           else (r18 a0_0 a0_1 a0_2 a0_3).bind fun v3 =>
            (r40 a1_0 a1_1).bind fun v4 =>
             (r44 a2_0).bind fun v5 =>
              (r43 v3.1 v3.2.1 v3.2.2.1 v3.2.2.2 v4.1 v4.2 v5).bind fun v6 =>
               (r85 a2_0 a2_1).bind fun v7 =>
                (r84 v3.1 v3.2.1 v3.2.2.1 v3.2.2.2 v4.1 v4.2 v7.1 v7.2).bind fun v8 =>
                 if (v6.2 != 0) = true then
                  some ((v6.2 == 22) && (v8.2.2 == 22))
                  else iterC (b13_1 a0_0 a0_1 a0_2 a0_3 a1_0 a1_1 a2_0 a2_1 a2_2 v6 v8) 1000000000 (0, [], 0)
          else none
         else none
        else none
       else none
      else none
def T13 : TSpec (Int × Int × (List (Int × Int)) × (List ((List (Int × Int)))) × (List (Int)) × (List (Int)) × (List ((List (Int × Int)) × Int × Int)) × Int × (List (Int))) where
  enc x := [.agg [.int .i64 x.1, .int .i64 x.2.1, encF 2 d_II x.2.2.1, encF 1 d_LIIE x.2.2.2.1], .agg [encF 1 d_I x.2.2.2.2.1, encF 1 d_I x.2.2.2.2.2.1], .agg [encF 3 d_LIIEII x.2.2.2.2.2.2.1, .int .i64 x.2.2.2.2.2.2.2.1, encF 1 d_I x.2.2.2.2.2.2.2.2]]
  dec a := (dInt (aCell a 0 0), dInt (aCell a 0 1), decF g_II (aCell a 0 2), decF g_LIIE (aCell a 0 3), decF g_I (aCell a 1 0), decF g_I (aCell a 1 1), decF g_LIIEII (aCell a 2 0), dInt (aCell a 2 1), decF g_I (aCell a 2 2))
  pre x := (r13 x.1 x.2.1 x.2.2.1 x.2.2.2.1 x.2.2.2.2.1 x.2.2.2.2.2.1 x.2.2.2.2.2.2.1 x.2.2.2.2.2.2.2.1 x.2.2.2.2.2.2.2.2).isSome = true
  res x := [.c (.d (.bool ((r13 x.1 x.2.1 x.2.2.1 x.2.2.2.1 x.2.2.2.2.1 x.2.2.2.2.2.1 x.2.2.2.2.2.2.1 x.2.2.2.2.2.2.2.1 x.2.2.2.2.2.2.2.2).getD default)))]
  al := false
def tb13 : Fns := lk [(14, T14.sp), (15, T15.sp), (16, T16.sp), (18, T18.sp), (19, T19.sp), (27, T27.sp), (38, T38.sp), (40, T40.sp), (43, T43.sp), (44, T44.sp), (59, T59.sp), (64, T64.sp), (65, T65.sp), (69, T69.sp), (77, T77.sp), (82, T82.sp), (83, T83.sp), (84, T84.sp), (85, T85.sp), (86, T86.sp)]
theorem tb13_ok : FnsOk Try.prog tb13 := .cons f14 (.cons f15 (.cons f16 (.cons f18 (.cons f19 (.cons f27 (.cons f38 (.cons f40 (.cons f43 (.cons f44 (.cons f59 (.cons f64 (.cons f65 (.cons f69 (.cons f77 (.cons f82 (.cons f83 (.cons f84 (.cons f85 (.cons f86 (FnsOk.nil))))))))))))))))))))
theorem tb13_14 : tb13 14 = some T14.sp := rfl
theorem tb13_15 : tb13 15 = some T15.sp := rfl
theorem tb13_16 : tb13 16 = some T16.sp := rfl
theorem tb13_18 : tb13 18 = some T18.sp := rfl
theorem tb13_19 : tb13 19 = some T19.sp := rfl
theorem tb13_27 : tb13 27 = some T27.sp := rfl
theorem tb13_38 : tb13 38 = some T38.sp := rfl
theorem tb13_40 : tb13 40 = some T40.sp := rfl
theorem tb13_43 : tb13 43 = some T43.sp := rfl
theorem tb13_44 : tb13 44 = some T44.sp := rfl
theorem tb13_59 : tb13 59 = some T59.sp := rfl
theorem tb13_64 : tb13 64 = some T64.sp := rfl
theorem tb13_65 : tb13 65 = some T65.sp := rfl
theorem tb13_69 : tb13 69 = some T69.sp := rfl
theorem tb13_77 : tb13 77 = some T77.sp := rfl
theorem tb13_82 : tb13 82 = some T82.sp := rfl
theorem tb13_83 : tb13 83 = some T83.sp := rfl
theorem tb13_84 : tb13 84 = some T84.sp := rfl
theorem tb13_85 : tb13 85 = some T85.sp := rfl
theorem tb13_86 : tb13 86 = some T86.sp := rfl
theorem v13 : Valid Try.prog 13 T13.sp := by
  refine valid_t (fn := Try.f13) (n := 310) ty_ok tb13_ok Try.func13 rfl Try.ntmps13 ?_
  rintro ⟨a0_0, a0_1, a0_2, a0_3, a1_0, a1_1, a2_0, a2_1, a2_2⟩ hx
  obtain ⟨r, hr⟩ := Option.isSome_iff_exists.1 (show (r13 a0_0 a0_1 a0_2 a0_3 a1_0 a1_1 a2_0 a2_1 a2_2).isSome = true from hx)
  have hres : T13.res (a0_0, a0_1, a0_2, a0_3, a1_0, a1_1, a2_0, a2_1, a2_2) = [.c (.d (.bool r))] := by simp only [T13, hr, Option.getD_some]
  refine ⟨Nat.le_of_ble_eq_true rfl, fun stop S => ?_⟩
  rw [hres] at S
  unfold r13 at hr
  refine S.goB [] 1000 ?_
  simp (maxSteps := 10000000) only [go_sem, tb13_14, T14, tb13_15, T15, tb13_16, T16, tb13_18, T18, tb13_19, T19, tb13_27, T27, tb13_38, T38, tb13_40, T40, tb13_43, T43, tb13_44, T44, tb13_59, T59, tb13_64, T64, tb13_65, T65, tb13_69, T69, tb13_77, T77, tb13_82, T82, tb13_83, T83, tb13_84, T84, tb13_85, T85, tb13_86, T86, T13, Option.map_some, Int.reduceToNat, Nat.reduceEqDiff, Nat.reduceLT, Nat.reduceAdd, Nat.reduceMul, Nat.reduceSub, Nat.reduceLeDiff, reduceIte, reduceCtorEq, Try.results13]
  obtain ⟨v1, hv1, hr⟩ := of_bind0 hr
  try simp only [hv1, Option.getD_some, Option.isSome_some, true_and, and_assoc]
  repeat refine gA ?_
  refine ⟨fun hc => ?_, fun hc => ?_⟩
  · replace hr := ifP hr hc
    repeat refine gA ?_
    obtain rfl := Option.some.inj hr
    (simp (maxDischargeDepth := 8) [go_sem])
  · replace hr := ifN hr hc
    obtain ⟨v2, hv2, hr⟩ := of_bind0 hr
    obtain ⟨hg39, hr⟩ := of_guard0 hr
    obtain ⟨hg40, hr⟩ := of_guard0 hr
    obtain ⟨hg41, hr⟩ := of_guard0 hr
    obtain ⟨hg42, hr⟩ := of_guard0 hr
    obtain ⟨hg43, hr⟩ := of_guard0 hr
    try simp only [hv2, Option.getD_some, Option.isSome_some, true_and, and_assoc]
    repeat (first | refine gG hg39 ?_ | refine gG hg40 ?_ | refine gG hg41 ?_ | refine gG hg42 ?_ | refine gG hg43 ?_ | refine gA ?_ | refine gB ?_)
    refine ⟨fun hc => ?_, fun hc => ?_⟩
    · replace hr := ifP hr hc
      repeat refine gA ?_
      obtain rfl := Option.some.inj hr
      (simp (maxDischargeDepth := 8) [go_sem])
    · replace hr := ifN hr hc
      obtain ⟨v3, hv3, hr⟩ := of_bind0 hr
      obtain ⟨v4, hv4, hr⟩ := of_bind0 hr
      obtain ⟨v5, hv5, hr⟩ := of_bind0 hr
      obtain ⟨v6, hv6, hr⟩ := of_bind0 hr
      obtain ⟨v7, hv7, hr⟩ := of_bind0 hr
      obtain ⟨v8, hv8, hr⟩ := of_bind0 hr
      try simp only [hv3, hv4, hv5, hv6, hv7, hv8, Option.getD_some, Option.isSome_some, true_and, and_assoc]
      repeat refine gA ?_
      refine ⟨fun hc => ?_, fun hc => ?_⟩
      · replace hr := ifP hr hc
        repeat (first | refine gA ?_ | refine gB ?_)
        obtain rfl := Option.some.inj hr
        (simp (maxDischargeDepth := 8) [go_sem])
      · replace hr := ifN hr hc
        repeat refine gA ?_
        refine S.own0 12 1001200 1 rfl rfl ?_
        refine S.sees [3, 4, 5, 7, 9, 10, 11, 12, 13] [(3, 3), (4, 4), (5, 5), (9, 9)] [(1001200, 1001200), (86, 86)] ?_ (Stop.iter S (fun s1 => ⟨[(3, .c (.ref 3 0)), (4, .c (.ref 4 0)), (5, .c (.ref 5 0)), (7, .c (.own 86)), (9, .c (.ref 9 0)), (10, .c (.d (.int .i64 v8.2.2))), (11, .c (.d (.int .i64 s1.1))), (12, .c (.own 1001200)), (13, .c (.d (.int .i64 s1.2.2)))], [(3, [.d (.int .i64 a0_0), .d (.int .i64 a0_1), .d (encF 2 d_II a0_2), .d (encF 1 d_LIIE a0_3)]), (4, [.d (encF 1 d_I a1_0), .d (encF 1 d_I a1_1)]), (5, [.d (encF 3 d_LIIEII a2_0), .d (.int .i64 a2_1), .d (encF 1 d_I a2_2)]), (9, [.d (.int .i64 v8.1), .d (.int .i64 v8.2.1)])], [(1001200, .owned (encF 1 d_I s1.2.1)), (86, .owned (encF 2 d_LIELIE v6.1))]⟩) (b13_1 a0_0 a0_1 a0_2 a0_3 a1_0 a1_1 a2_0 a2_1 a2_2 v6 v8) (fun q => q = r) hr rfl ?_)
        · (simp (maxDischargeDepth := 8) [go_sem])
        · intro s1 hr
          unfold b13_1 at hr
          refine S.goB [] 1000 ?_
          simp (maxSteps := 10000000) only [go_sem, tb13_14, T14, tb13_15, T15, tb13_16, T16, tb13_18, T18, tb13_19, T19, tb13_27, T27, tb13_38, T38, tb13_40, T40, tb13_43, T43, tb13_44, T44, tb13_59, T59, tb13_64, T64, tb13_65, T65, tb13_69, T69, tb13_77, T77, tb13_82, T82, tb13_83, T83, tb13_84, T84, tb13_85, T85, tb13_86, T86, T13, Option.map_some, Int.reduceToNat, Nat.reduceEqDiff, Nat.reduceLT, Nat.reduceAdd, Nat.reduceMul, Nat.reduceSub, Nat.reduceLeDiff, reduceIte, reduceCtorEq, Try.results13]
          repeat refine gA ?_
          refine ⟨fun hc => ?_, fun hc => ?_⟩
          · replace hr := ifP1 hr hc
            obtain ⟨hg10, hr⟩ := of_guard1 hr
            obtain ⟨hg11, hr⟩ := of_guard1 hr
            obtain ⟨v9, hv9, hr⟩ := of_bind1 hr
            obtain ⟨hg12, hr⟩ := of_guard1 hr
            try simp only [hv9, Option.getD_some, Option.isSome_some, true_and, and_assoc]
            repeat refine gA ?_
            refine S.sees [3, 4, 5, 7, 9, 10, 11, 12, 13] [(3, 3), (4, 4), (5, 5), (9, 9)] [(130, 1001200), (86, 86)] ?_ hr
            (simp (maxDischargeDepth := 8) [go_sem])
          · replace hr := ifN1 hr hc
            repeat refine gA ?_
            have hr := of_out0 hr
            obtain ⟨v13, hv13, hr⟩ := of_bind0 hr
            try simp only [hv13, Option.getD_some, Option.isSome_some, true_and, and_assoc]
            repeat refine gA ?_
            refine S.own0 15 1001500 2 rfl rfl ?_
            refine S.sees [3, 5, 7, 9, 10, 11, 12, 14, 15, 16] [(3, 3), (5, 5), (9, 9)] [(1001500, 1001500), (86, 86), (1001200, 1001200), (134, 134)] ?_ (Stop.iter S (fun s2 => ⟨[(3, .c (.ref 3 0)), (5, .c (.ref 5 0)), (7, .c (.own 86)), (9, .c (.ref 9 0)), (10, .c (.d (.int .i64 v8.2.2))), (11, .c (.d (.int .i64 s2.1))), (12, .c (.own 1001200)), (14, .c (.own 134)), (15, .c (.own 1001500)), (16, .c (.d (.int .i64 s2.2.2.1)))], [(3, [.d (.int .i64 a0_0), .d (.int .i64 a0_1), .d (encF 2 d_II a0_2), .d (encF 1 d_LIIE a0_3)]), (5, [.d (encF 3 d_LIIEII a2_0), .d (.int .i64 a2_1), .d (encF 1 d_I a2_2)]), (9, [.d (.int .i64 v8.1), .d (.int .i64 v8.2.1)])], [(1001500, .owned (encF 2 d_LIEI s2.2.1)), (86, .owned (encF 2 d_LIELIE v6.1)), (1001200, .owned (encF 1 d_I s2.2.2.2)), (134, .owned (encF 1 d_I v13))]⟩) (b13_2 a0_0 a0_1 a0_2 a0_3 a2_0 a2_1 a2_2 v6 v8 v13) (fun q => q = r) hr rfl ?_)
            · (simp (maxDischargeDepth := 8) [go_sem])
            · intro s2 hr
              unfold b13_2 at hr
              refine S.goB [] 1000 ?_
              simp (maxSteps := 10000000) only [go_sem, tb13_14, T14, tb13_15, T15, tb13_16, T16, tb13_18, T18, tb13_19, T19, tb13_27, T27, tb13_38, T38, tb13_40, T40, tb13_43, T43, tb13_44, T44, tb13_59, T59, tb13_64, T64, tb13_65, T65, tb13_69, T69, tb13_77, T77, tb13_82, T82, tb13_83, T83, tb13_84, T84, tb13_85, T85, tb13_86, T86, T13, Option.map_some, Int.reduceToNat, Nat.reduceEqDiff, Nat.reduceLT, Nat.reduceAdd, Nat.reduceMul, Nat.reduceSub, Nat.reduceLeDiff, reduceIte, reduceCtorEq, Try.results13]
              repeat refine gA ?_
              refine ⟨fun hc => ?_, fun hc => ?_⟩
              · replace hr := ifP1 hr hc
                repeat refine gA ?_
                refine S.own0b 17 0 2001700 1 rfl rfl (Nat.le_of_ble_eq_true rfl) rfl ?_
                obtain ⟨q3, hq, hr⟩ := of_iter1 hr
                refine S.sees [3, 5, 7, 9, 10, 11, 12, 14, 15, 16, 17, 18] [(3, 3), (5, 5), (9, 9), (17, 17)] [(2001700, 2001700), (86, 86), (1001200, 1001200), (134, 134), (1001500, 1001500)] ?_ (Stop.iter S (fun s3 => ⟨[(3, .c (.ref 3 0)), (5, .c (.ref 5 0)), (7, .c (.own 86)), (9, .c (.ref 9 0)), (10, .c (.d (.int .i64 v8.2.2))), (11, .c (.d (.int .i64 s3.1))), (12, .c (.own 1001200)), (14, .c (.own 134)), (15, .c (.own 1001500)), (16, .c (.d (.int .i64 s2.2.2.1))), (17, .c (.ref 17 0)), (18, .c (.d (.int .i64 s3.2.1)))], [(3, [.d (.int .i64 a0_0), .d (.int .i64 a0_1), .d (encF 2 d_II a0_2), .d (encF 1 d_LIIE a0_3)]), (5, [.d (encF 3 d_LIIEII a2_0), .d (.int .i64 a2_1), .d (encF 1 d_I a2_2)]), (9, [.d (.int .i64 v8.1), .d (.int .i64 v8.2.1)]), (17, [.own 2001700, .d (.int .i64 0)])], [(2001700, .owned (encF 1 d_I s3.2.2)), (86, .owned (encF 2 d_LIELIE v6.1)), (1001200, .owned (encF 1 d_I s2.2.2.2)), (134, .owned (encF 1 d_I v13)), (1001500, .owned (encF 2 d_LIEI s2.2.1))]⟩) (b13_3 a0_0 a0_1 a0_2 a0_3 a2_0 a2_1 a2_2 v6 s2) _ hq hr ?_)
                · (simp (maxDischargeDepth := 8) [go_sem])
                · intro s3 hr
                  unfold b13_3 at hr
                  refine S.goB [] 1000 ?_
                  simp (maxSteps := 10000000) only [go_sem, tb13_14, T14, tb13_15, T15, tb13_16, T16, tb13_18, T18, tb13_19, T19, tb13_27, T27, tb13_38, T38, tb13_40, T40, tb13_43, T43, tb13_44, T44, tb13_59, T59, tb13_64, T64, tb13_65, T65, tb13_69, T69, tb13_77, T77, tb13_82, T82, tb13_83, T83, tb13_84, T84, tb13_85, T85, tb13_86, T86, T13, Option.map_some, Int.reduceToNat, Nat.reduceEqDiff, Nat.reduceLT, Nat.reduceAdd, Nat.reduceMul, Nat.reduceSub, Nat.reduceLeDiff, reduceIte, reduceCtorEq, Try.results13]
                  repeat refine gA ?_
                  refine ⟨fun hc => ?_, fun hc => ?_⟩
                  · replace hr := ifP1 hr hc
                    obtain ⟨hg15, hr⟩ := of_guard1 hr
                    obtain ⟨hg16, hr⟩ := of_guard1 hr
                    obtain ⟨v14, hv14, hr⟩ := of_bind1 hr
                    obtain ⟨hg17, hr⟩ := of_guard1 hr
                    try simp only [hv14, Option.getD_some, Option.isSome_some, true_and, and_assoc]
                    repeat refine gA ?_
                    refine S.sees [3, 5, 7, 9, 10, 11, 12, 14, 15, 16, 17, 18] [(3, 3), (5, 5), (9, 9), (17, 17)] [(165, 2001700), (86, 86), (1001200, 1001200), (134, 134), (1001500, 1001500)] ?_ hr
                    (simp (maxDischargeDepth := 8) [go_sem])
                  · replace hr := ifN1 hr hc
                    repeat refine gA ?_
                    replace hr := goodC_out hr
                    obtain ⟨hg29, hr⟩ := of_guard1 hr
                    obtain ⟨v18, hv18, hr⟩ := of_bind1 hr
                    obtain ⟨hg30, hr⟩ := of_guard1 hr
                    obtain ⟨v19, hv19, hr⟩ := of_bind1 hr
                    obtain ⟨v20, hv20, hr⟩ := of_bind1 hr
                    obtain ⟨v21, hv21, hr⟩ := of_bind1 hr
                    obtain ⟨hg31, hr⟩ := of_guard1 hr
                    obtain ⟨hg32, hr⟩ := of_guard1 hr
                    try simp only [hv18, hv19, hv20, hv21, Option.getD_some, Option.isSome_some, true_and, and_assoc]
                    repeat (first | refine gG hg31 ?_ | refine gG hg32 ?_ | refine gA ?_ | refine gB ?_)
                    refine ⟨fun hc => ?_, fun hc => ?_⟩
                    · replace hr := ifP1 hr hc
                      repeat refine gA ?_
                      have hr := of_out0 hr
                      obtain rfl := Option.some.inj hr
                      (simp (maxDischargeDepth := 8) [go_sem])
                    · replace hr := ifN1 hr hc
                      repeat refine gA ?_
                      obtain ⟨q4, hq, hr⟩ := of_iter1 hr
                      refine S.sees [3, 5, 7, 9, 10, 11, 14, 15, 16, 19, 21] [(3, 3), (5, 5), (9, 9)] [(86, 86), (134, 134), (183, 183), (190, 190)] ?_ (Stop.iter S (fun s4 => ⟨[(3, .c (.ref 3 0)), (5, .c (.ref 5 0)), (7, .c (.own 86)), (9, .c (.ref 9 0)), (10, .c (.d (.int .i64 v8.2.2))), (11, .c (.d (.int .i64 s3.1))), (14, .c (.own 134)), (15, .c (.own 183)), (16, .c (.d (.int .i64 s2.2.2.1))), (19, .c (.own 190)), (21, .c (.d (.int .i64 s4)))], [(3, [.d (.int .i64 a0_0), .d (.int .i64 a0_1), .d (encF 2 d_II a0_2), .d (encF 1 d_LIIE a0_3)]), (5, [.d (encF 3 d_LIIEII a2_0), .d (.int .i64 a2_1), .d (encF 1 d_I a2_2)]), (9, [.d (.int .i64 v8.1), .d (.int .i64 v8.2.1)])], [(86, .owned (encF 2 d_LIELIE v6.1)), (134, .owned (encF 1 d_I v13)), (183, .owned (encF 2 d_LIEI (s2.2.1 ++ [(s3.2.2, v18)]))), (190, .owned (encF 1 d_I v21.1))]⟩) (b13_4 a0_0 v6 s2 s3 v18 v21) _ hq hr ?_)
                      · (simp (maxDischargeDepth := 8) [go_sem])
                      · intro s4 hr
                        unfold b13_4 at hr
                        refine S.goB [] 1000 ?_
                        simp (maxSteps := 10000000) only [go_sem, tb13_14, T14, tb13_15, T15, tb13_16, T16, tb13_18, T18, tb13_19, T19, tb13_27, T27, tb13_38, T38, tb13_40, T40, tb13_43, T43, tb13_44, T44, tb13_59, T59, tb13_64, T64, tb13_65, T65, tb13_69, T69, tb13_77, T77, tb13_82, T82, tb13_83, T83, tb13_84, T84, tb13_85, T85, tb13_86, T86, T13, Option.map_some, Int.reduceToNat, Nat.reduceEqDiff, Nat.reduceLT, Nat.reduceAdd, Nat.reduceMul, Nat.reduceSub, Nat.reduceLeDiff, reduceIte, reduceCtorEq, Try.results13]
                        repeat refine gA ?_
                        refine ⟨fun hc => ?_, fun hc => ?_⟩
                        · replace hr := ifP1 hr hc
                          obtain ⟨hg23, hr⟩ := of_guard1 hr
                          obtain ⟨hg24, hr⟩ := of_guard1 hr
                          obtain ⟨hg25, hr⟩ := of_guard1 hr
                          obtain ⟨hg26, hr⟩ := of_guard1 hr
                          obtain ⟨hg27, hr⟩ := of_guard1 hr
                          obtain ⟨v22, hv22, hr⟩ := of_bind1 hr
                          try simp only [hv22, Option.getD_some, Option.isSome_some, true_and, and_assoc]
                          repeat refine gA ?_
                          refine ⟨fun hc => ?_, fun hc => ?_⟩
                          · replace hr := ifP1 hr hc
                            repeat refine gA ?_
                            replace hr := goodC_out hr
                            have hr := of_out0 hr
                            obtain rfl := Option.some.inj hr
                            (simp (maxDischargeDepth := 8) [go_sem])
                          · replace hr := ifN1 hr hc
                            repeat refine gA ?_
                            refine S.sees [3, 5, 7, 9, 10, 11, 14, 15, 16, 19, 21] [(3, 3), (5, 5), (9, 9)] [(86, 86), (134, 134), (183, 183), (190, 190)] ?_ hr
                            (simp (maxDischargeDepth := 8) [go_sem])
                        · replace hr := ifN1 hr hc
                          repeat refine gA ?_
                          replace hr := goodC_out hr
                          obtain ⟨v28, hv28, hr⟩ := of_bind1 hr
                          try simp only [hv28, Option.getD_some, Option.isSome_some, true_and, and_assoc]
                          repeat refine gA ?_
                          refine S.sees [3, 5, 7, 9, 10, 11, 12, 14, 15, 16] [(3, 3), (5, 5), (9, 9)] [(183, 1001500), (86, 86), (259, 1001200), (134, 134)] ?_ hr
                          (simp (maxDischargeDepth := 8) [go_sem])
              · replace hr := ifN1 hr hc
                repeat refine gA ?_
                have hr := of_out0 hr
                obtain ⟨v33, hv33, hr⟩ := of_bind0 hr
                obtain ⟨v34, hv34, hr⟩ := of_bind0 hr
                try simp only [hv33, hv34, Option.getD_some, Option.isSome_some, true_and, and_assoc]
                repeat (first | refine gA ?_ | refine gB ?_)
                refine ⟨fun hc => ?_, fun hc => ?_⟩
                · replace hr := ifP hr hc
                  repeat refine gA ?_
                  obtain rfl := Option.some.inj hr
                  (simp (maxDischargeDepth := 8) [go_sem])
                · replace hr := ifN hr hc
                  obtain ⟨v35, hv35, hr⟩ := of_bind0 hr
                  try simp only [hv35, Option.getD_some, Option.isSome_some, true_and, and_assoc]
                  repeat refine gA ?_
                  refine ⟨fun hc => ?_, fun hc => ?_⟩
                  · replace hr := ifP hr hc
                    repeat refine gA ?_
                    obtain rfl := Option.some.inj hr
                    (simp (maxDischargeDepth := 8) [go_sem])
                  · replace hr := ifN hr hc
                    obtain ⟨v36, hv36, hr⟩ := of_bind0 hr
                    obtain ⟨v37, hv37, hr⟩ := of_bind0 hr
                    obtain ⟨hg38, hr⟩ := of_guard0 hr
                    try simp only [hv36, hv37, Option.getD_some, Option.isSome_some, true_and, and_assoc]
                    repeat (first | refine gG hg38 ?_ | refine gA ?_ | refine gB ?_)
                    obtain rfl := Option.some.inj hr
                    (simp (maxDischargeDepth := 8) [go_sem])
theorem f13 : FnFact Try.prog 13 T13.sp := ⟨⟨Try.f13, Try.func13, by decide, rfl⟩, v13⟩
end Go.Proofs.Ytcbiiijnaeibhaa

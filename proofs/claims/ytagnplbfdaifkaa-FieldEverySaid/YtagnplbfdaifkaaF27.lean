/- Contracts of functions, written by wip/dec. -/
import Derived.Test.YtagnplbfdaifkaaF00
import Derived.Test.YtagnplbfdaifkaaF02
import Derived.Test.YtagnplbfdaifkaaF04
import Derived.Test.YtagnplbfdaifkaaF05
import Derived.Test.YtagnplbfdaifkaaF12
import Derived.Test.YtagnplbfdaifkaaF24
import Derived.Test.YtagnplbfdaifkaaF26
set_option linter.unusedVariables false
set_option linter.unusedSimpArgs false
set_option maxHeartbeats 4000000
set_option maxRecDepth 20000
namespace Go.Proofs.Ytagnplbfdaifkaa
open Go.Abs
/- martensite/martensitelaw02.FieldEvery -/
def b12_2 (v40 : (List (Int)) × Int) (v42 : (List (Int × Int)) × Int) (v43 : (List (Int × Int)) × Int) : (Int) → Ctl (Int) (Bool) := fun s2 =>
  if (decide (s2 < (v40.1.length : Int))) = true then
   if 0 ≤ s2 ∧ s2 < (v40.1.length : Int) then
    if 0 ≤ s2 ∧ s2 < (v42.1.length : Int) then
     if 0 ≤ s2 ∧ s2 < (v42.1.length : Int) then
      bindC (r33 (v40.1.getD s2.toNat default) ((v42.1.getD s2.toNat default).1) ((v42.1.getD s2.toNat default).2)) fun v44 =>
       if (!(!v44)) = true → 0 ≤ s2 ∧ s2 < (v43.1.length : Int) then
        if (!(!v44)) = true → 0 ≤ s2 ∧ s2 < (v40.1.length : Int) then
         if (!(!v44)) = true → 0 ≤ s2 ∧ s2 < (v40.1.length : Int) then
          if ((!v44) || (!(((v43.1.getD s2.toNat default).1 == (v40.1.getD s2.toNat default)) && ((v43.1.getD s2.toNat default).2 == (v40.1.getD s2.toNat default))))) = true then
           .out (some false)
           else .next (IntKind.i64.wrap (s2 + 1))
          else .out none
         else .out none
        else .out none
      else .out none
     else .out none
    else .out none
   else .out (some true)
def b12_1 (a0_0 : Int) (a0_1 : List (Int × Int × Int)) (a0_2 : List (Int × Int)) (a1_0 : Int) (a1_1 : List (Bool)) (a2_0 : Int) (a2_1 : Int) (a2_2 : Int) (a2_3 : Int) (a2_4 : Int) (v3 : Int × (List (Int × Int × Int))) : (Int × (List (Int × Int)) × (List (Int × Int × Int))) → Ctl (Int × (List (Int × Int)) × (List (Int × Int × Int))) (Bool) := fun s1 =>
  if (decide (s1.1 < (s1.2.2.length : Int))) = true then
   if s1.1 = 0 then
    if 0 ≤ 0 ∧ 0 < (a0_2.length : Int) then
     if 0 ≤ 0 ∧ 0 < (a0_2.length : Int) then
      if 0 ≤ 0 ∧ 0 < (a0_2.length : Int) then
       bindC (r67 a2_0 (IntKind.i64.wrap ((IntKind.i64.wrap (((a0_2.getD 0 default).2) - ((a0_2.getD 0 default).1))) + 1))) fun v33 =>
        if 0 ≤ 0 ∧ 0 < (s1.2.2.length : Int) then
         if (s1.2.1.length + 1) * 16 ≤ 140737488355328 ∧ s1.2.1.length + 1 ≤ 9223372036854775807 then
          .next (IntKind.i64.wrap (0 + 1), s1.2.1 ++ [(IntKind.i64.wrap (((a0_2.getD 0 default).1) + v33), IntKind.i64.wrap (((a0_2.getD 0 default).1) + v33))], s1.2.2.set 0 (IntKind.i64.wrap (((a0_2.getD 0 default).1) + v33), (s1.2.2.getD 0 default).2.1, (s1.2.2.getD 0 default).2.2))
          else .out none
         else .out none
       else .out none
      else .out none
     else .out none
    else if s1.1 = 1 then
     if 0 ≤ 1 ∧ 1 < (a0_2.length : Int) then
      if 0 ≤ 1 ∧ 1 < (a0_2.length : Int) then
       if 0 ≤ 1 ∧ 1 < (a0_2.length : Int) then
        bindC (r67 a2_1 (IntKind.i64.wrap ((IntKind.i64.wrap (((a0_2.getD 1 default).2) - ((a0_2.getD 1 default).1))) + 1))) fun v26 =>
         if 0 ≤ 1 ∧ 1 < (s1.2.2.length : Int) then
          if (s1.2.1.length + 1) * 16 ≤ 140737488355328 ∧ s1.2.1.length + 1 ≤ 9223372036854775807 then
           .next (IntKind.i64.wrap (1 + 1), s1.2.1 ++ [(IntKind.i64.wrap (((a0_2.getD 1 default).1) + v26), IntKind.i64.wrap (((a0_2.getD 1 default).1) + v26))], s1.2.2.set 1 (IntKind.i64.wrap (((a0_2.getD 1 default).1) + v26), (s1.2.2.getD 1 default).2.1, (s1.2.2.getD 1 default).2.2))
           else .out none
          else .out none
        else .out none
       else .out none
      else .out none
     else if s1.1 = 2 then
      if 0 ≤ 2 ∧ 2 < (a0_2.length : Int) then
       if 0 ≤ 2 ∧ 2 < (a0_2.length : Int) then
        if 0 ≤ 2 ∧ 2 < (a0_2.length : Int) then
         bindC (r67 a2_2 (IntKind.i64.wrap ((IntKind.i64.wrap (((a0_2.getD 2 default).2) - ((a0_2.getD 2 default).1))) + 1))) fun v19 =>
          if 0 ≤ 2 ∧ 2 < (s1.2.2.length : Int) then
           if (s1.2.1.length + 1) * 16 ≤ 140737488355328 ∧ s1.2.1.length + 1 ≤ 9223372036854775807 then
            .next (IntKind.i64.wrap (2 + 1), s1.2.1 ++ [(IntKind.i64.wrap (((a0_2.getD 2 default).1) + v19), IntKind.i64.wrap (((a0_2.getD 2 default).1) + v19))], s1.2.2.set 2 (IntKind.i64.wrap (((a0_2.getD 2 default).1) + v19), (s1.2.2.getD 2 default).2.1, (s1.2.2.getD 2 default).2.2))
            else .out none
           else .out none
         else .out none
        else .out none
       else .out none
      else if s1.1 = 3 then
       if 0 ≤ 3 ∧ 3 < (a0_2.length : Int) then
        if 0 ≤ 3 ∧ 3 < (a0_2.length : Int) then
         if 0 ≤ 3 ∧ 3 < (a0_2.length : Int) then
          bindC (r67 a2_3 (IntKind.i64.wrap ((IntKind.i64.wrap (((a0_2.getD 3 default).2) - ((a0_2.getD 3 default).1))) + 1))) fun v12 =>
           if 0 ≤ 3 ∧ 3 < (s1.2.2.length : Int) then
            if (s1.2.1.length + 1) * 16 ≤ 140737488355328 ∧ s1.2.1.length + 1 ≤ 9223372036854775807 then
             .next (IntKind.i64.wrap (3 + 1), s1.2.1 ++ [(IntKind.i64.wrap (((a0_2.getD 3 default).1) + v12), IntKind.i64.wrap (((a0_2.getD 3 default).1) + v12))], s1.2.2.set 3 (IntKind.i64.wrap (((a0_2.getD 3 default).1) + v12), (s1.2.2.getD 3 default).2.1, (s1.2.2.getD 3 default).2.2))
             else .out none
            else .out none
          else .out none
         else .out none
        else .out none
       else if s1.1 = 4 then
        if 0 ≤ 4 ∧ 4 < (a0_2.length : Int) then
         if 0 ≤ 4 ∧ 4 < (a0_2.length : Int) then
          if 0 ≤ 4 ∧ 4 < (a0_2.length : Int) then
           bindC (r67 a2_4 (IntKind.i64.wrap ((IntKind.i64.wrap (((a0_2.getD 4 default).2) - ((a0_2.getD 4 default).1))) + 1))) fun v5 =>
            if 0 ≤ 4 ∧ 4 < (s1.2.2.length : Int) then
             if (s1.2.1.length + 1) * 16 ≤ 140737488355328 ∧ s1.2.1.length + 1 ≤ 9223372036854775807 then
              .next (IntKind.i64.wrap (4 + 1), s1.2.1 ++ [(IntKind.i64.wrap (((a0_2.getD 4 default).1) + v5), IntKind.i64.wrap (((a0_2.getD 4 default).1) + v5))], s1.2.2.set 4 (IntKind.i64.wrap (((a0_2.getD 4 default).1) + v5), (s1.2.2.getD 4 default).2.1, (s1.2.2.getD 4 default).2.2))
              else .out none
             else .out none
           else .out none
          else .out none
         else .out none
        else .out none
   else .out ((r20 a1_0 a1_1).bind fun v39 =>
    (r38 v3.1 s1.2.2 v39.1 v39.2 a2_4).bind fun v40 =>
     (r60 a0_0 a0_1 a0_2).bind fun v41 =>
      (r61 v41.1 v41.2.1 v41.2.2 v39.1 v39.2 a2_4).bind fun v42 =>
       (r61 v3.1 v3.2 s1.2.1 v39.1 v39.2 a2_4).bind fun v43 =>
        if ((((((v40.2 != 0) || (v42.2 != 0)) || (v43.2 != 0)) || ((v40.1.length : Int) != (a0_2.length : Int))) || ((v42.1.length : Int) != (v40.1.length : Int))) || ((v43.1.length : Int) != (v40.1.length : Int))) = true then
         some false
         else iterC (b12_2 v40 v42 v43) 1000000000 0)
def r12 (a0_0 : Int) (a0_1 : List (Int × Int × Int)) (a0_2 : List (Int × Int)) (a1_0 : Int) (a1_1 : List (Bool)) (a2_0 : Int) (a2_1 : Int) (a2_2 : Int) (a2_3 : Int) (a2_4 : Int) : Option (Bool) :=
  (r15).bind fun v1 =>
   if (!v1) = true then
    some false
    else (r66 a0_0 a0_1 a0_2).bind fun v2 =>
     if (!(v2 != 0)) = true → (r63 a0_0 a0_1 a1_0 a1_1).isSome = true then
      if (!((v2 != 0) || (((r63 a0_0 a0_1 a1_0 a1_1).getD default) != 0))) = true → (r37 a2_4).isSome = true then
       if (((v2 != 0) || (((r63 a0_0 a0_1 a1_0 a1_1).getD default) != 0)) || (((r37 a2_4).getD default) != 0)) = true then
        some true
        else (r19 a0_0 a0_1).bind fun v3 =>
         iterC (b12_1 a0_0 a0_1 a0_2 a1_0 a1_1 a2_0 a2_1 a2_2 a2_3 a2_4 v3) 1000000000 (0, [], v3.2)
       else none
      else none
def T12 : TSpec (Int × (List (Int × Int × Int)) × (List (Int × Int)) × Int × (List (Bool)) × Int × Int × Int × Int × Int) where
  enc x := [.agg [.int .i64 x.1, encF 3 d_III x.2.1, encF 2 d_II x.2.2.1], .agg [.int .i64 x.2.2.2.1, encF 1 d_B x.2.2.2.2.1], .agg [.int .i64 x.2.2.2.2.2.1, .int .i64 x.2.2.2.2.2.2.1, .int .i64 x.2.2.2.2.2.2.2.1, .int .i64 x.2.2.2.2.2.2.2.2.1, .int .i64 x.2.2.2.2.2.2.2.2.2]]
  dec a := (dInt (aCell a 0 0), decF g_III (aCell a 0 1), decF g_II (aCell a 0 2), dInt (aCell a 1 0), decF g_B (aCell a 1 1), dInt (aCell a 2 0), dInt (aCell a 2 1), dInt (aCell a 2 2), dInt (aCell a 2 3), dInt (aCell a 2 4))
  pre x := (r12 x.1 x.2.1 x.2.2.1 x.2.2.2.1 x.2.2.2.2.1 x.2.2.2.2.2.1 x.2.2.2.2.2.2.1 x.2.2.2.2.2.2.2.1 x.2.2.2.2.2.2.2.2.1 x.2.2.2.2.2.2.2.2.2).isSome = true
  res x := [.c (.d (.bool ((r12 x.1 x.2.1 x.2.2.1 x.2.2.2.1 x.2.2.2.2.1 x.2.2.2.2.2.1 x.2.2.2.2.2.2.1 x.2.2.2.2.2.2.2.1 x.2.2.2.2.2.2.2.2.1 x.2.2.2.2.2.2.2.2.2).getD default)))]
  al := false
def tb12 : Fns := lk [(15, T15.sp), (19, T19.sp), (20, T20.sp), (33, T33.sp), (37, T37.sp), (38, T38.sp), (60, T60.sp), (61, T61.sp), (63, T63.sp), (66, T66.sp), (67, T67.sp)]
theorem tb12_ok : FnsOk Try.prog tb12 := .cons f15 (.cons f19 (.cons f20 (.cons f33 (.cons f37 (.cons f38 (.cons f60 (.cons f61 (.cons f63 (.cons f66 (.cons f67 (FnsOk.nil)))))))))))
theorem tb12_15 : tb12 15 = some T15.sp := rfl
theorem tb12_19 : tb12 19 = some T19.sp := rfl
theorem tb12_20 : tb12 20 = some T20.sp := rfl
theorem tb12_33 : tb12 33 = some T33.sp := rfl
theorem tb12_37 : tb12 37 = some T37.sp := rfl
theorem tb12_38 : tb12 38 = some T38.sp := rfl
theorem tb12_60 : tb12 60 = some T60.sp := rfl
theorem tb12_61 : tb12 61 = some T61.sp := rfl
theorem tb12_63 : tb12 63 = some T63.sp := rfl
theorem tb12_66 : tb12 66 = some T66.sp := rfl
theorem tb12_67 : tb12 67 = some T67.sp := rfl
theorem v12 : Valid Try.prog 12 T12.sp := by
  refine valid_t (fn := Try.f12) (n := 186) ty_ok tb12_ok Try.func12 rfl Try.ntmps12 ?_
  rintro ⟨a0_0, a0_1, a0_2, a1_0, a1_1, a2_0, a2_1, a2_2, a2_3, a2_4⟩ hx
  obtain ⟨r, hr⟩ := Option.isSome_iff_exists.1 (show (r12 a0_0 a0_1 a0_2 a1_0 a1_1 a2_0 a2_1 a2_2 a2_3 a2_4).isSome = true from hx)
  have hres : T12.res (a0_0, a0_1, a0_2, a1_0, a1_1, a2_0, a2_1, a2_2, a2_3, a2_4) = [.c (.d (.bool r))] := by simp only [T12, hr, Option.getD_some]
  refine ⟨Nat.le_of_ble_eq_true rfl, fun stop S => ?_⟩
  rw [hres] at S
  unfold r12 at hr
  refine S.goB [11] 1000 ?_
  simp (maxSteps := 10000000) only [go_sem, tb12_15, T15, tb12_19, T19, tb12_20, T20, tb12_33, T33, tb12_37, T37, tb12_38, T38, tb12_60, T60, tb12_61, T61, tb12_63, T63, tb12_66, T66, tb12_67, T67, T12, Bool.not_true, Bool.not_false, Option.map_some, Int.reduceToNat, Nat.reduceEqDiff, Nat.reduceLT, Nat.reduceAdd, Nat.reduceMul, Nat.reduceSub, Nat.reduceLeDiff, reduceIte, reduceCtorEq, Try.results12]
  obtain ⟨v1, hv1, hr⟩ := of_bind0 hr
  try simp only [hv1, Option.getD_some, Option.isSome_some, true_and, and_assoc]
  repeat refine gA ?_
  refine ⟨fun hc => ?_, fun hc => ?_⟩
  · replace hr := ifP hr hc
    repeat refine gA ?_
    obtain rfl := Option.some.inj hr
    (simp (maxDischargeDepth := 8) [go_sem, -List.drop_one])
  · replace hr := ifN hr hc
    obtain ⟨v2, hv2, hr⟩ := of_bind0 hr
    obtain ⟨hg51, hr⟩ := of_guard0 hr
    obtain ⟨hg52, hr⟩ := of_guard0 hr
    try simp only [hv2, Option.getD_some, Option.isSome_some, true_and, and_assoc]
    repeat (first | refine gG hg51 ?_ | refine gG hg52 ?_ | refine gA ?_ | refine gB ?_)
    refine ⟨fun hc => ?_, fun hc => ?_⟩
    · replace hr := ifP hr hc
      repeat refine gA ?_
      obtain rfl := Option.some.inj hr
      (simp (maxDischargeDepth := 8) [go_sem, -List.drop_one])
    · replace hr := ifN hr hc
      obtain ⟨v3, hv3, hr⟩ := of_bind0 hr
      try simp only [hv3, Option.getD_some, Option.isSome_some, true_and, and_assoc]
      repeat refine gA ?_
      refine S.own0b 9 2 2000902 2 rfl rfl (Nat.le_of_ble_eq_true rfl) rfl ?_
      refine S.sees [3, 4, 5, 7, 8, 9, 10] [(3, 3), (4, 4), (5, 5), (8, 8), (9, 9)] [(2000902, 2000902), (40, 40), (43, 43)] ?_ (Stop.iter S (fun s1 => ⟨[(3, .c (.ref 3 0)), (4, .c (.ref 4 0)), (5, .c (.ref 5 0)), (7, .c (.d (.int .i64 a2_4))), (8, .c (.ref 8 0)), (9, .c (.ref 9 0)), (10, .c (.d (.int .i64 s1.1)))], [(3, [.d (.int .i64 a0_0), .d (encF 3 d_III a0_1), .d (encF 2 d_II a0_2)]), (4, [.d (.int .i64 a1_0), .d (encF 1 d_B a1_1)]), (5, [.d (.int .i64 a2_0), .d (.int .i64 a2_1), .d (.int .i64 a2_2), .d (.int .i64 a2_3), .d (.int .i64 a2_4)]), (8, [.d (.int .i64 v3.1), .own 40]), (9, [.d (.int .i64 v3.1), .own 43, .own 2000902])], [(2000902, .owned (encF 2 d_II s1.2.1)), (40, .owned (encF 3 d_III s1.2.2)), (43, .owned (encF 3 d_III v3.2))]⟩) (b12_1 a0_0 a0_1 a0_2 a1_0 a1_1 a2_0 a2_1 a2_2 a2_3 a2_4 v3) (fun q => q = r) hr rfl ?_)
      · (simp (maxDischargeDepth := 8) [go_sem, -List.drop_one])
      · intro s1 hr
        unfold b12_1 at hr
        refine S.goB [11] 1000 ?_
        simp (maxSteps := 10000000) only [go_sem, tb12_15, T15, tb12_19, T19, tb12_20, T20, tb12_33, T33, tb12_37, T37, tb12_38, T38, tb12_60, T60, tb12_61, T61, tb12_63, T63, tb12_66, T66, tb12_67, T67, T12, Bool.not_true, Bool.not_false, Option.map_some, Int.reduceToNat, Nat.reduceEqDiff, Nat.reduceLT, Nat.reduceAdd, Nat.reduceMul, Nat.reduceSub, Nat.reduceLeDiff, reduceIte, reduceCtorEq, Try.results12]
        repeat refine gA ?_
        refine ⟨fun hc => ?_, fun hc => ?_⟩
        · replace hr := ifP1 hr hc
          repeat refine gA ?_
          by_cases hs32 : s1.1 = 0
          · rw [if_pos hs32] at hr
            simp only [hs32]
            refine S.goB [] 1000 ?_
            simp (maxSteps := 10000000) only [go_sem, tb12_15, T15, tb12_19, T19, tb12_20, T20, tb12_33, T33, tb12_37, T37, tb12_38, T38, tb12_60, T60, tb12_61, T61, tb12_63, T63, tb12_66, T66, tb12_67, T67, T12, Bool.not_true, Bool.not_false, Option.map_some, Int.reduceToNat, Nat.reduceEqDiff, Nat.reduceLT, Nat.reduceAdd, Nat.reduceMul, Nat.reduceSub, Nat.reduceLeDiff, reduceIte, reduceCtorEq, Try.results12]
            obtain ⟨hg36, hr⟩ := of_guard1 hr
            obtain ⟨hg37, hr⟩ := of_guard1 hr
            obtain ⟨hg38, hr⟩ := of_guard1 hr
            obtain ⟨v33, hv33, hr⟩ := of_bind1 hr
            try simp only [hv33, Option.getD_some, Option.isSome_some, true_and, and_assoc]
            repeat refine gA ?_
            obtain ⟨hg34, hr⟩ := of_guard1 hr
            obtain ⟨hg35, hr⟩ := of_guard1 hr
            repeat refine gA ?_
            refine S.sees [3, 4, 5, 7, 8, 9, 10] [(3, 3), (4, 4), (5, 5), (8, 8), (9, 9)] [(89, 2000902), (40, 40), (43, 43)] ?_ hr
            (simp (maxDischargeDepth := 8) [go_sem, -List.drop_one])
          · rw [if_neg hs32] at hr
            by_cases hs25 : s1.1 = 1
            · rw [if_pos hs25] at hr
              simp only [hs25]
              refine S.goB [] 1000 ?_
              simp (maxSteps := 10000000) only [go_sem, tb12_15, T15, tb12_19, T19, tb12_20, T20, tb12_33, T33, tb12_37, T37, tb12_38, T38, tb12_60, T60, tb12_61, T61, tb12_63, T63, tb12_66, T66, tb12_67, T67, T12, Bool.not_true, Bool.not_false, Option.map_some, Int.reduceToNat, Nat.reduceEqDiff, Nat.reduceLT, Nat.reduceAdd, Nat.reduceMul, Nat.reduceSub, Nat.reduceLeDiff, reduceIte, reduceCtorEq, Try.results12]
              obtain ⟨hg29, hr⟩ := of_guard1 hr
              obtain ⟨hg30, hr⟩ := of_guard1 hr
              obtain ⟨hg31, hr⟩ := of_guard1 hr
              obtain ⟨v26, hv26, hr⟩ := of_bind1 hr
              try simp only [hv26, Option.getD_some, Option.isSome_some, true_and, and_assoc]
              repeat refine gA ?_
              obtain ⟨hg27, hr⟩ := of_guard1 hr
              obtain ⟨hg28, hr⟩ := of_guard1 hr
              repeat refine gA ?_
              refine S.sees [3, 4, 5, 7, 8, 9, 10] [(3, 3), (4, 4), (5, 5), (8, 8), (9, 9)] [(89, 2000902), (40, 40), (43, 43)] ?_ hr
              (simp (maxDischargeDepth := 8) [go_sem, -List.drop_one])
            · rw [if_neg hs25] at hr
              by_cases hs18 : s1.1 = 2
              · rw [if_pos hs18] at hr
                simp only [hs18]
                refine S.goB [] 1000 ?_
                simp (maxSteps := 10000000) only [go_sem, tb12_15, T15, tb12_19, T19, tb12_20, T20, tb12_33, T33, tb12_37, T37, tb12_38, T38, tb12_60, T60, tb12_61, T61, tb12_63, T63, tb12_66, T66, tb12_67, T67, T12, Bool.not_true, Bool.not_false, Option.map_some, Int.reduceToNat, Nat.reduceEqDiff, Nat.reduceLT, Nat.reduceAdd, Nat.reduceMul, Nat.reduceSub, Nat.reduceLeDiff, reduceIte, reduceCtorEq, Try.results12]
                obtain ⟨hg22, hr⟩ := of_guard1 hr
                obtain ⟨hg23, hr⟩ := of_guard1 hr
                obtain ⟨hg24, hr⟩ := of_guard1 hr
                obtain ⟨v19, hv19, hr⟩ := of_bind1 hr
                try simp only [hv19, Option.getD_some, Option.isSome_some, true_and, and_assoc]
                repeat refine gA ?_
                obtain ⟨hg20, hr⟩ := of_guard1 hr
                obtain ⟨hg21, hr⟩ := of_guard1 hr
                repeat refine gA ?_
                refine S.sees [3, 4, 5, 7, 8, 9, 10] [(3, 3), (4, 4), (5, 5), (8, 8), (9, 9)] [(89, 2000902), (40, 40), (43, 43)] ?_ hr
                (simp (maxDischargeDepth := 8) [go_sem, -List.drop_one])
              · rw [if_neg hs18] at hr
                by_cases hs11 : s1.1 = 3
                · rw [if_pos hs11] at hr
                  simp only [hs11]
                  refine S.goB [] 1000 ?_
                  simp (maxSteps := 10000000) only [go_sem, tb12_15, T15, tb12_19, T19, tb12_20, T20, tb12_33, T33, tb12_37, T37, tb12_38, T38, tb12_60, T60, tb12_61, T61, tb12_63, T63, tb12_66, T66, tb12_67, T67, T12, Bool.not_true, Bool.not_false, Option.map_some, Int.reduceToNat, Nat.reduceEqDiff, Nat.reduceLT, Nat.reduceAdd, Nat.reduceMul, Nat.reduceSub, Nat.reduceLeDiff, reduceIte, reduceCtorEq, Try.results12]
                  obtain ⟨hg15, hr⟩ := of_guard1 hr
                  obtain ⟨hg16, hr⟩ := of_guard1 hr
                  obtain ⟨hg17, hr⟩ := of_guard1 hr
                  obtain ⟨v12, hv12, hr⟩ := of_bind1 hr
                  try simp only [hv12, Option.getD_some, Option.isSome_some, true_and, and_assoc]
                  repeat refine gA ?_
                  obtain ⟨hg13, hr⟩ := of_guard1 hr
                  obtain ⟨hg14, hr⟩ := of_guard1 hr
                  repeat refine gA ?_
                  refine S.sees [3, 4, 5, 7, 8, 9, 10] [(3, 3), (4, 4), (5, 5), (8, 8), (9, 9)] [(89, 2000902), (40, 40), (43, 43)] ?_ hr
                  (simp (maxDischargeDepth := 8) [go_sem, -List.drop_one])
                · rw [if_neg hs11] at hr
                  by_cases hs4 : s1.1 = 4
                  · rw [if_pos hs4] at hr
                    simp only [hs4]
                    refine S.goB [] 1000 ?_
                    simp (maxSteps := 10000000) only [go_sem, tb12_15, T15, tb12_19, T19, tb12_20, T20, tb12_33, T33, tb12_37, T37, tb12_38, T38, tb12_60, T60, tb12_61, T61, tb12_63, T63, tb12_66, T66, tb12_67, T67, T12, Bool.not_true, Bool.not_false, Option.map_some, Int.reduceToNat, Nat.reduceEqDiff, Nat.reduceLT, Nat.reduceAdd, Nat.reduceMul, Nat.reduceSub, Nat.reduceLeDiff, reduceIte, reduceCtorEq, Try.results12]
                    obtain ⟨hg8, hr⟩ := of_guard1 hr
                    obtain ⟨hg9, hr⟩ := of_guard1 hr
                    obtain ⟨hg10, hr⟩ := of_guard1 hr
                    obtain ⟨v5, hv5, hr⟩ := of_bind1 hr
                    try simp only [hv5, Option.getD_some, Option.isSome_some, true_and, and_assoc]
                    repeat refine gA ?_
                    obtain ⟨hg6, hr⟩ := of_guard1 hr
                    obtain ⟨hg7, hr⟩ := of_guard1 hr
                    repeat refine gA ?_
                    refine S.sees [3, 4, 5, 7, 8, 9, 10] [(3, 3), (4, 4), (5, 5), (8, 8), (9, 9)] [(89, 2000902), (40, 40), (43, 43)] ?_ hr
                    (simp (maxDischargeDepth := 8) [go_sem, -List.drop_one])
                  · rw [if_neg hs4] at hr
                    first | cases hr | exact hr.elim
        · replace hr := ifN1 hr hc
          repeat refine gA ?_
          have hr := of_out0 hr
          obtain ⟨v39, hv39, hr⟩ := of_bind0 hr
          obtain ⟨v40, hv40, hr⟩ := of_bind0 hr
          obtain ⟨v41, hv41, hr⟩ := of_bind0 hr
          obtain ⟨v42, hv42, hr⟩ := of_bind0 hr
          obtain ⟨v43, hv43, hr⟩ := of_bind0 hr
          try simp only [hv39, hv40, hv41, hv42, hv43, Option.getD_some, Option.isSome_some, true_and, and_assoc]
          repeat (first | refine gA ?_ | refine gB ?_)
          refine ⟨fun hc => ?_, fun hc => ?_⟩
          · replace hr := ifP hr hc
            repeat refine gA ?_
            obtain rfl := Option.some.inj hr
            (simp (maxDischargeDepth := 8) [go_sem, -List.drop_one])
          · replace hr := ifN hr hc
            repeat refine gA ?_
            refine S.sees [12, 14, 16, 18] [] [(96, 96), (105, 105), (113, 113)] ?_ (Stop.iter S (fun s2 => ⟨[(12, .c (.own 96)), (14, .c (.own 105)), (16, .c (.own 113)), (18, .c (.d (.int .i64 s2)))], [], [(96, .owned (encF 1 d_I v40.1)), (105, .owned (encF 2 d_II v42.1)), (113, .owned (encF 2 d_II v43.1))]⟩) (b12_2 v40 v42 v43) (fun q => q = r) hr rfl ?_)
            · (simp (maxDischargeDepth := 8) [go_sem, -List.drop_one])
            · intro s2 hr
              unfold b12_2 at hr
              refine S.goB [11] 1000 ?_
              simp (maxSteps := 10000000) only [go_sem, tb12_15, T15, tb12_19, T19, tb12_20, T20, tb12_33, T33, tb12_37, T37, tb12_38, T38, tb12_60, T60, tb12_61, T61, tb12_63, T63, tb12_66, T66, tb12_67, T67, T12, Bool.not_true, Bool.not_false, Option.map_some, Int.reduceToNat, Nat.reduceEqDiff, Nat.reduceLT, Nat.reduceAdd, Nat.reduceMul, Nat.reduceSub, Nat.reduceLeDiff, reduceIte, reduceCtorEq, Try.results12]
              repeat refine gA ?_
              refine ⟨fun hc => ?_, fun hc => ?_⟩
              · replace hr := ifP1 hr hc
                obtain ⟨hg45, hr⟩ := of_guard1 hr
                obtain ⟨hg46, hr⟩ := of_guard1 hr
                obtain ⟨hg47, hr⟩ := of_guard1 hr
                obtain ⟨v44, hv44, hr⟩ := of_bind1 hr
                obtain ⟨hg48, hr⟩ := of_guard1 hr
                obtain ⟨hg49, hr⟩ := of_guard1 hr
                obtain ⟨hg50, hr⟩ := of_guard1 hr
                try simp only [hv44, Option.getD_some, Option.isSome_some, true_and, and_assoc]
                repeat (first | refine gG hg48 ?_ | refine gG hg49 ?_ | refine gG hg50 ?_ | refine gA ?_ | refine gB ?_)
                refine ⟨fun hc => ?_, fun hc => ?_⟩
                · replace hr := ifP1 hr hc
                  repeat refine gA ?_
                  have hr := of_out0 hr
                  obtain rfl := Option.some.inj hr
                  (simp (maxDischargeDepth := 8) [go_sem, -List.drop_one])
                · replace hr := ifN1 hr hc
                  repeat refine gA ?_
                  refine S.sees [12, 14, 16, 18] [] [(96, 96), (105, 105), (113, 113)] ?_ hr
                  (simp (maxDischargeDepth := 8) [go_sem, -List.drop_one])
              · replace hr := ifN1 hr hc
                repeat refine gA ?_
                have hr := of_out0 hr
                repeat refine gA ?_
                obtain rfl := Option.some.inj hr
                (simp (maxDischargeDepth := 8) [go_sem, -List.drop_one])
theorem f12 : FnFact Try.prog 12 T12.sp := ⟨⟨Try.f12, Try.func12, by decide, rfl⟩, v12⟩
end Go.Proofs.Ytagnplbfdaifkaa

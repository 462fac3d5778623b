/- Contracts of functions, written by wip/dec. -/
import Derived.Test.YtagnplbfdaifkaaF00
import Derived.Test.YtagnplbfdaifkaaF02
import Derived.Test.YtagnplbfdaifkaaF04
import Derived.Test.YtagnplbfdaifkaaF05
import Derived.Test.YtagnplbfdaifkaaF10
import Derived.Test.YtagnplbfdaifkaaF12
set_option linter.unusedVariables false
set_option linter.unusedSimpArgs false
set_option maxHeartbeats 4000000
set_option maxRecDepth 20000
namespace Go.Proofs.Ytagnplbfdaifkaa
open Go.Abs
/- martensite/martensitelaw02.FieldWhole -/
def b7_2 (a2_0 : Int) (v5 : (List (Int)) × Int) (v6 : (List (Int)) × Int) (s1 : Int × Int × Int) : (Int) → Ctl (Int) (Bool) := fun s2 =>
  if (decide (s2 < (v5.1.length : Int))) = true then
   if 0 ≤ s2 ∧ s2 < (v6.1.length : Int) then
    if 0 ≤ s2 ∧ s2 < (v5.1.length : Int) then
     bindC (r40 (IntKind.i64.wrap ((v6.1.getD s2.toNat default) - 1)) 1 (IntKind.i64.wrap (a2_0 * (v5.1.getD s2.toNat default))) s1.1) fun v16 =>
      if (!(decide (v16 ≥ 0))) = true → 0 ≤ s2 ∧ s2 < (v6.1.length : Int) then
       if (!(decide (v16 ≥ 0))) = true → 0 ≤ s2 ∧ s2 < (v5.1.length : Int) then
        if (!(decide (v16 ≥ 0))) = true → (r40 (IntKind.i64.wrap ((v6.1.getD s2.toNat default) + 1)) 1 (IntKind.i64.wrap (a2_0 * (v5.1.getD s2.toNat default))) s1.1).isSome = true then
         if ((decide (v16 ≥ 0)) || (decide (((r40 (IntKind.i64.wrap ((v6.1.getD s2.toNat default) + 1)) 1 (IntKind.i64.wrap (a2_0 * (v5.1.getD s2.toNat default))) s1.1).getD default) ≤ 0))) = true then
          .out (some false)
          else .next (IntKind.i64.wrap (s2 + 1))
         else .out none
        else .out none
       else .out none
     else .out none
    else .out none
   else .out (some true)
def b7_1 (a2_0 : Int) (v5 : (List (Int)) × Int) (v6 : (List (Int)) × Int) : (Int × Int × Int) → Ctl (Int × Int × Int) (Bool) := fun s1 =>
  if (decide (s1.2.2 < (v5.1.length : Int))) = true then
   if 0 ≤ s1.2.2 ∧ s1.2.2 < (v5.1.length : Int) then
    bindC (r33 (v5.1.getD s1.2.2.toNat default) 0 35184372088832) fun v10 =>
     if (!(!v10)) = true → 0 ≤ s1.2.2 ∧ s1.2.2 < (v6.1.length : Int) then
      if (!(!v10)) = true → (r33 (v6.1.getD s1.2.2.toNat default) 0 a2_0).isSome = true then
       if ((!v10) || (!((r33 (v6.1.getD s1.2.2.toNat default) 0 a2_0).getD default))) = true then
        .out (some false)
        else if 0 ≤ s1.2.2 ∧ s1.2.2 < (v5.1.length : Int) then
         if 0 ≤ s1.2.2 ∧ s1.2.2 < (v6.1.length : Int) then
          .next (IntKind.i64.wrap (s1.1 + (v5.1.getD s1.2.2.toNat default)), IntKind.i64.wrap (s1.2.1 + (v6.1.getD s1.2.2.toNat default)), IntKind.i64.wrap (s1.2.2 + 1))
          else .out none
         else .out none
       else .out none
      else .out none
    else .out none
   else .out (if ((s1.2.1 != a2_0) || (decide (s1.1 ≤ 0))) = true then
    some false
    else iterC (b7_2 a2_0 v5 v6 s1) 1000000000 0)
def r7 (a0_0 : Int) (a0_1 : List (Int × Int × Int)) (a1_0 : Int) (a1_1 : List (Bool)) (a2_0 : Int) (a2_1 : Int) (a2_2 : Int) : Option (Bool) :=
  (r15).bind fun v1 =>
   if (!v1) = true then
    some false
    else (r22 a0_0 a0_1 a1_0 a1_1).bind fun v2 =>
     if (!(v2 != 0)) = true → (r37 a2_0).isSome = true then
      if (!((v2 != 0) || (((r37 a2_0).getD default) != 0))) = true → (r33 a2_1 1 100).isSome = true then
       if (!(((v2 != 0) || (((r37 a2_0).getD default) != 0)) || (!((r33 a2_1 1 100).getD default)))) = true → (r33 a2_2 a2_1 100).isSome = true then
        if ((((v2 != 0) || (((r37 a2_0).getD default) != 0)) || (!((r33 a2_1 1 100).getD default))) || (!((r33 a2_2 a2_1 100).getD default))) = true then
         some true
         else (r19 a0_0 a0_1).bind fun v3 =>
          (r20 a1_0 a1_1).bind fun v4 =>
           (r36 v3.1 v3.2 v4.1 v4.2).bind fun v5 =>
            (r38 v3.1 v3.2 v4.1 v4.2 a2_0).bind fun v6 =>
             (r39 v3.1 v3.2 v4.1 v4.2 a2_1).bind fun v7 =>
              (r39 v3.1 v3.2 v4.1 v4.2 a2_2).bind fun v8 =>
               (r39 v3.1 v3.2 v4.1 v4.2 100).bind fun v9 =>
                if (((((((((((v5.2 != 0) || (v6.2 != 0)) || (v7.2 != 0)) || (v8.2 != 0)) || (v9.2 != 0)) || ((v5.1.length : Int) != (a0_1.length : Int))) || ((v6.1.length : Int) != (a0_1.length : Int))) || (decide (v7.1 < 1))) || (decide (v7.1 > v8.1))) || (decide (v8.1 > v9.1))) || (v9.1 != (a0_1.length : Int))) = true then
                 some false
                 else iterC (b7_1 a2_0 v5 v6) 1000000000 (0, 0, 0)
        else none
       else none
      else none
def T7 : TSpec (Int × (List (Int × Int × Int)) × Int × (List (Bool)) × Int × Int × Int) where
  enc x := [.agg [.int .i64 x.1, encF 3 d_III x.2.1], .agg [.int .i64 x.2.2.1, encF 1 d_B x.2.2.2.1], .agg [.int .i64 x.2.2.2.2.1, .int .i64 x.2.2.2.2.2.1, .int .i64 x.2.2.2.2.2.2]]
  dec a := (dInt (aCell a 0 0), decF g_III (aCell a 0 1), dInt (aCell a 1 0), decF g_B (aCell a 1 1), dInt (aCell a 2 0), dInt (aCell a 2 1), dInt (aCell a 2 2))
  pre x := (r7 x.1 x.2.1 x.2.2.1 x.2.2.2.1 x.2.2.2.2.1 x.2.2.2.2.2.1 x.2.2.2.2.2.2).isSome = true
  res x := [.c (.d (.bool ((r7 x.1 x.2.1 x.2.2.1 x.2.2.2.1 x.2.2.2.2.1 x.2.2.2.2.2.1 x.2.2.2.2.2.2).getD default)))]
  al := false
def tb7 : Fns := lk [(15, T15.sp), (19, T19.sp), (20, T20.sp), (22, T22.sp), (33, T33.sp), (36, T36.sp), (37, T37.sp), (38, T38.sp), (39, T39.sp), (40, T40.sp)]
theorem tb7_ok : FnsOk Try.prog tb7 := .cons f15 (.cons f19 (.cons f20 (.cons f22 (.cons f33 (.cons f36 (.cons f37 (.cons f38 (.cons f39 (.cons f40 (FnsOk.nil))))))))))
theorem tb7_15 : tb7 15 = some T15.sp := rfl
theorem tb7_19 : tb7 19 = some T19.sp := rfl
theorem tb7_20 : tb7 20 = some T20.sp := rfl
theorem tb7_22 : tb7 22 = some T22.sp := rfl
theorem tb7_33 : tb7 33 = some T33.sp := rfl
theorem tb7_36 : tb7 36 = some T36.sp := rfl
theorem tb7_37 : tb7 37 = some T37.sp := rfl
theorem tb7_38 : tb7 38 = some T38.sp := rfl
theorem tb7_39 : tb7 39 = some T39.sp := rfl
theorem tb7_40 : tb7 40 = some T40.sp := rfl
theorem v7 : Valid Try.prog 7 T7.sp := by
  refine valid_t (fn := Try.f7) (n := 226) ty_ok tb7_ok Try.func7 rfl Try.ntmps7 ?_
  rintro ⟨a0_0, a0_1, a1_0, a1_1, a2_0, a2_1, a2_2⟩ hx
  obtain ⟨r, hr⟩ := Option.isSome_iff_exists.1 (show (r7 a0_0 a0_1 a1_0 a1_1 a2_0 a2_1 a2_2).isSome = true from hx)
  have hres : T7.res (a0_0, a0_1, a1_0, a1_1, a2_0, a2_1, a2_2) = [.c (.d (.bool r))] := by simp only [T7, hr, Option.getD_some]
  refine ⟨Nat.le_of_ble_eq_true rfl, fun stop S => ?_⟩
  rw [hres] at S
  unfold r7 at hr
  refine S.goB [] 1000 ?_
  simp (maxSteps := 10000000) only [go_sem, tb7_15, T15, tb7_19, T19, tb7_20, T20, tb7_22, T22, tb7_33, T33, tb7_36, T36, tb7_37, T37, tb7_38, T38, tb7_39, T39, tb7_40, T40, T7, Bool.not_true, Bool.not_false, Option.map_some, Int.reduceToNat, Nat.reduceEqDiff, Nat.reduceLT, Nat.reduceAdd, Nat.reduceMul, Nat.reduceSub, Nat.reduceLeDiff, reduceIte, reduceCtorEq, Try.results7]
  obtain ⟨v1, hv1, hr⟩ := of_bind0 hr
  try simp only [hv1, Option.getD_some, Option.isSome_some, true_and, and_assoc]
  repeat refine gA ?_
  refine ⟨fun hc => ?_, fun hc => ?_⟩
  · replace hr := ifP hr hc
    repeat refine gA ?_
    obtain rfl := Option.some.inj hr
    (simp (maxDischargeDepth := 8) [go_sem, -List.drop_one])
  · replace hr := ifN hr hc
    obtain ⟨v2, hv2, hr⟩ := of_bind0 hr
    obtain ⟨hg22, hr⟩ := of_guard0 hr
    obtain ⟨hg23, hr⟩ := of_guard0 hr
    obtain ⟨hg24, hr⟩ := of_guard0 hr
    try simp only [hv2, Option.getD_some, Option.isSome_some, true_and, and_assoc]
    repeat (first | refine gG hg22 ?_ | refine gG hg23 ?_ | refine gG hg24 ?_ | refine gA ?_ | refine gB ?_)
    refine ⟨fun hc => ?_, fun hc => ?_⟩
    · replace hr := ifP hr hc
      repeat refine gA ?_
      obtain rfl := Option.some.inj hr
      (simp (maxDischargeDepth := 8) [go_sem, -List.drop_one])
    · replace hr := ifN hr hc
      obtain ⟨v3, hv3, hr⟩ := of_bind0 hr
      obtain ⟨v4, hv4, hr⟩ := of_bind0 hr
      obtain ⟨v5, hv5, hr⟩ := of_bind0 hr
      obtain ⟨v6, hv6, hr⟩ := of_bind0 hr
      obtain ⟨v7, hv7, hr⟩ := of_bind0 hr
      obtain ⟨v8, hv8, hr⟩ := of_bind0 hr
      obtain ⟨v9, hv9, hr⟩ := of_bind0 hr
      try simp only [hv3, hv4, hv5, hv6, hv7, hv8, hv9, Option.getD_some, Option.isSome_some, true_and, and_assoc]
      repeat (first | refine gA ?_ | refine gB ?_)
      refine ⟨fun hc => ?_, fun hc => ?_⟩
      · replace hr := ifP hr hc
        repeat refine gA ?_
        obtain rfl := Option.some.inj hr
        (simp (maxDischargeDepth := 8) [go_sem, -List.drop_one])
      · replace hr := ifN hr hc
        repeat refine gA ?_
        refine S.sees [7, 10, 12, 20, 21, 22] [] [(57, 57), (66, 66)] ?_ (Stop.iter S (fun s1 => ⟨[(7, .c (.d (.int .i64 a2_0))), (10, .c (.own 57)), (12, .c (.own 66)), (20, .c (.d (.int .i64 s1.1))), (21, .c (.d (.int .i64 s1.2.1))), (22, .c (.d (.int .i64 s1.2.2)))], [], [(57, .owned (encF 1 d_I v5.1)), (66, .owned (encF 1 d_I v6.1))]⟩) (b7_1 a2_0 v5 v6) (fun q => q = r) hr rfl ?_)
        · (simp (maxDischargeDepth := 8) [go_sem, -List.drop_one])
        · intro s1 hr
          unfold b7_1 at hr
          refine S.goB [] 1000 ?_
          simp (maxSteps := 10000000) only [go_sem, tb7_15, T15, tb7_19, T19, tb7_20, T20, tb7_22, T22, tb7_33, T33, tb7_36, T36, tb7_37, T37, tb7_38, T38, tb7_39, T39, tb7_40, T40, T7, Bool.not_true, Bool.not_false, Option.map_some, Int.reduceToNat, Nat.reduceEqDiff, Nat.reduceLT, Nat.reduceAdd, Nat.reduceMul, Nat.reduceSub, Nat.reduceLeDiff, reduceIte, reduceCtorEq, Try.results7]
          repeat refine gA ?_
          refine ⟨fun hc => ?_, fun hc => ?_⟩
          · replace hr := ifP1 hr hc
            obtain ⟨hg13, hr⟩ := of_guard1 hr
            obtain ⟨v10, hv10, hr⟩ := of_bind1 hr
            obtain ⟨hg14, hr⟩ := of_guard1 hr
            obtain ⟨hg15, hr⟩ := of_guard1 hr
            try simp only [hv10, Option.getD_some, Option.isSome_some, true_and, and_assoc]
            repeat (first | refine gG hg14 ?_ | refine gG hg15 ?_ | refine gA ?_ | refine gB ?_)
            refine ⟨fun hc => ?_, fun hc => ?_⟩
            · replace hr := ifP1 hr hc
              repeat refine gA ?_
              have hr := of_out0 hr
              obtain rfl := Option.some.inj hr
              (simp (maxDischargeDepth := 8) [go_sem, -List.drop_one])
            · replace hr := ifN1 hr hc
              obtain ⟨hg11, hr⟩ := of_guard1 hr
              obtain ⟨hg12, hr⟩ := of_guard1 hr
              repeat refine gA ?_
              refine S.sees [7, 10, 12, 20, 21, 22] [] [(57, 57), (66, 66)] ?_ hr
              (simp (maxDischargeDepth := 8) [go_sem, -List.drop_one])
          · replace hr := ifN1 hr hc
            repeat refine gA ?_
            have hr := of_out0 hr
            repeat (first | refine gA ?_ | refine gB ?_)
            refine ⟨fun hc => ?_, fun hc => ?_⟩
            · replace hr := ifP hr hc
              repeat refine gA ?_
              obtain rfl := Option.some.inj hr
              (simp (maxDischargeDepth := 8) [go_sem, -List.drop_one])
            · replace hr := ifN hr hc
              repeat refine gA ?_
              refine S.sees [7, 10, 12, 20, 23] [] [(57, 57), (66, 66)] ?_ (Stop.iter S (fun s2 => ⟨[(7, .c (.d (.int .i64 a2_0))), (10, .c (.own 57)), (12, .c (.own 66)), (20, .c (.d (.int .i64 s1.1))), (23, .c (.d (.int .i64 s2)))], [], [(57, .owned (encF 1 d_I v5.1)), (66, .owned (encF 1 d_I v6.1))]⟩) (b7_2 a2_0 v5 v6 s1) (fun q => q = r) hr rfl ?_)
              · (simp (maxDischargeDepth := 8) [go_sem, -List.drop_one])
              · intro s2 hr
                unfold b7_2 at hr
                refine S.goB [] 1000 ?_
                simp (maxSteps := 10000000) only [go_sem, tb7_15, T15, tb7_19, T19, tb7_20, T20, tb7_22, T22, tb7_33, T33, tb7_36, T36, tb7_37, T37, tb7_38, T38, tb7_39, T39, tb7_40, T40, T7, Bool.not_true, Bool.not_false, Option.map_some, Int.reduceToNat, Nat.reduceEqDiff, Nat.reduceLT, Nat.reduceAdd, Nat.reduceMul, Nat.reduceSub, Nat.reduceLeDiff, reduceIte, reduceCtorEq, Try.results7]
                repeat refine gA ?_
                refine ⟨fun hc => ?_, fun hc => ?_⟩
                · replace hr := ifP1 hr hc
                  obtain ⟨hg17, hr⟩ := of_guard1 hr
                  obtain ⟨hg18, hr⟩ := of_guard1 hr
                  obtain ⟨v16, hv16, hr⟩ := of_bind1 hr
                  obtain ⟨hg19, hr⟩ := of_guard1 hr
                  obtain ⟨hg20, hr⟩ := of_guard1 hr
                  obtain ⟨hg21, hr⟩ := of_guard1 hr
                  try simp only [hv16, Option.getD_some, Option.isSome_some, true_and, and_assoc]
                  repeat (first | refine gG hg19 ?_ | refine gG hg20 ?_ | refine gG hg21 ?_ | refine gA ?_ | refine gB ?_)
                  refine ⟨fun hc => ?_, fun hc => ?_⟩
                  · replace hr := ifP1 hr hc
                    repeat refine gA ?_
                    have hr := of_out0 hr
                    obtain rfl := Option.some.inj hr
                    (simp (maxDischargeDepth := 8) [go_sem, -List.drop_one])
                  · replace hr := ifN1 hr hc
                    repeat refine gA ?_
                    refine S.sees [7, 10, 12, 20, 23] [] [(57, 57), (66, 66)] ?_ hr
                    (simp (maxDischargeDepth := 8) [go_sem, -List.drop_one])
                · replace hr := ifN1 hr hc
                  repeat refine gA ?_
                  have hr := of_out0 hr
                  repeat refine gA ?_
                  obtain rfl := Option.some.inj hr
                  (simp (maxDischargeDepth := 8) [go_sem, -List.drop_one])
theorem f7 : FnFact Try.prog 7 T7.sp := ⟨⟨Try.f7, Try.func7, by decide, rfl⟩, v7⟩
end Go.Proofs.Ytagnplbfdaifkaa

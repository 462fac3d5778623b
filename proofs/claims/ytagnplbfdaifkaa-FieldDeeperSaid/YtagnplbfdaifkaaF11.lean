/- Contracts of functions, written by wip/dec. -/
import Derived.Test.YtagnplbfdaifkaaF00
import Derived.Test.YtagnplbfdaifkaaF04
import Derived.Test.YtagnplbfdaifkaaF05
import Derived.Test.YtagnplbfdaifkaaF10
set_option linter.unusedVariables false
set_option linter.unusedSimpArgs false
set_option maxHeartbeats 4000000
set_option maxRecDepth 20000
namespace Go.Proofs.Ytagnplbfdaifkaa
open Go.Abs
/- martensite/martensitelaw02.FieldDeeper -/
def b6_2 (v8 : (List (Int)) × Int) : (Int) → Ctl (Int) (Bool) := fun s2 =>
  if (decide (s2 < (v8.1.length : Int))) = true then
   if 0 ≤ s2 ∧ s2 < (v8.1.length : Int) then
    if 0 ≤ IntKind.i64.wrap (s2 - 1) ∧ IntKind.i64.wrap (s2 - 1) < (v8.1.length : Int) then
     if (decide ((v8.1.getD s2.toNat default) > (v8.1.getD (IntKind.i64.wrap (s2 - 1)).toNat default))) = true then
      .out (some false)
      else .next (IntKind.i64.wrap (s2 + 1))
     else .out none
    else .out none
   else .out (some true)
def b6_1 (a1_0 : Int) (a1_1 : List (Bool)) (v3 : Int × (List (Int × Int × Int))) : (Int × (List (Int × Int × Int))) → Ctl (Int × (List (Int × Int × Int))) (Bool) := fun s1 =>
  if (decide (s1.1 < (s1.2.length : Int))) = true then
   if 0 ≤ 0 ∧ 0 < (s1.2.length : Int) then
    if 0 ≤ s1.1 ∧ s1.1 < (s1.2.length : Int) then
     .next (IntKind.i64.wrap (s1.1 + 1), s1.2.set s1.1.toNat ((s1.2.getD 0 default).1, (s1.2.getD s1.1.toNat default).2.1, (s1.2.getD s1.1.toNat default).2.2))
     else .out none
    else .out none
   else .out ((r19 v3.1 s1.2).bind fun v6 =>
    (r20 a1_0 a1_1).bind fun v7 =>
     (r36 v6.1 v6.2 v7.1 v7.2).bind fun v8 =>
      if ((v8.2 != 0) || ((v8.1.length : Int) != (s1.2.length : Int))) = true then
       some false
       else iterC (b6_2 v8) 1000000000 1)
def r6 (a0_0 : Int) (a0_1 : List (Int × Int × Int)) (a1_0 : Int) (a1_1 : List (Bool)) : Option (Bool) :=
  (r15).bind fun v1 =>
   if (!v1) = true then
    some false
    else (r22 a0_0 a0_1 a1_0 a1_1).bind fun v2 =>
     if (v2 != 0) = true then
      some true
      else (r19 a0_0 a0_1).bind fun v3 =>
       iterC (b6_1 a1_0 a1_1 v3) 1000000000 (0, v3.2)
def T6 : TSpec (Int × (List (Int × Int × Int)) × Int × (List (Bool))) where
  enc x := [.agg [.int .i64 x.1, encF 3 d_III x.2.1], .agg [.int .i64 x.2.2.1, encF 1 d_B x.2.2.2]]
  dec a := (dInt (aCell a 0 0), decF g_III (aCell a 0 1), dInt (aCell a 1 0), decF g_B (aCell a 1 1))
  pre x := (r6 x.1 x.2.1 x.2.2.1 x.2.2.2).isSome = true
  res x := [.c (.d (.bool ((r6 x.1 x.2.1 x.2.2.1 x.2.2.2).getD default)))]
  al := false
def tb6 : Fns := lk [(15, T15.sp), (19, T19.sp), (20, T20.sp), (22, T22.sp), (36, T36.sp)]
theorem tb6_ok : FnsOk Try.prog tb6 := .cons f15 (.cons f19 (.cons f20 (.cons f22 (.cons f36 (FnsOk.nil)))))
theorem tb6_15 : tb6 15 = some T15.sp := rfl
theorem tb6_19 : tb6 19 = some T19.sp := rfl
theorem tb6_20 : tb6 20 = some T20.sp := rfl
theorem tb6_22 : tb6 22 = some T22.sp := rfl
theorem tb6_36 : tb6 36 = some T36.sp := rfl
theorem v6 : Valid Try.prog 6 T6.sp := by
  refine valid_t (fn := Try.f6) (n := 69) ty_ok tb6_ok Try.func6 rfl Try.ntmps6 ?_
  rintro ⟨a0_0, a0_1, a1_0, a1_1⟩ hx
  obtain ⟨r, hr⟩ := Option.isSome_iff_exists.1 (show (r6 a0_0 a0_1 a1_0 a1_1).isSome = true from hx)
  have hres : T6.res (a0_0, a0_1, a1_0, a1_1) = [.c (.d (.bool r))] := by simp only [T6, hr, Option.getD_some]
  refine ⟨Nat.le_of_ble_eq_true rfl, fun stop S => ?_⟩
  rw [hres] at S
  unfold r6 at hr
  refine S.goB [] 1000 ?_
  simp (maxSteps := 10000000) only [go_sem, tb6_15, T15, tb6_19, T19, tb6_20, T20, tb6_22, T22, tb6_36, T36, T6, Bool.not_true, Bool.not_false, Option.map_some, Int.reduceToNat, Nat.reduceEqDiff, Nat.reduceLT, Nat.reduceAdd, Nat.reduceMul, Nat.reduceSub, Nat.reduceLeDiff, reduceIte, reduceCtorEq, Try.results6]
  obtain ⟨v1, hv1, hr⟩ := of_bind0 hr
  try simp only [hv1, Option.getD_some, Option.isSome_some, true_and, and_assoc]
  repeat refine gA ?_
  refine ⟨fun hc => ?_, fun hc => ?_⟩
  · replace hr := ifP hr hc
    repeat refine gA ?_
    obtain rfl := Option.some.inj hr
    (simp (maxDischargeDepth := 8) [go_sem, -List.drop_one])
  · replace hr := ifN hr hc
    obtain ⟨v2, hv2, hr⟩ := of_bind0 hr
    try simp only [hv2, Option.getD_some, Option.isSome_some, true_and, and_assoc]
    repeat refine gA ?_
    refine ⟨fun hc => ?_, fun hc => ?_⟩
    · replace hr := ifP hr hc
      repeat refine gA ?_
      obtain rfl := Option.some.inj hr
      (simp (maxDischargeDepth := 8) [go_sem, -List.drop_one])
    · replace hr := ifN hr hc
      obtain ⟨v3, hv3, hr⟩ := of_bind0 hr
      try simp only [hv3, Option.getD_some, Option.isSome_some, true_and, and_assoc]
      repeat refine gA ?_
      refine S.sees [3, 5, 6] [(3, 3), (5, 5)] [(17, 17)] ?_ (Stop.iter S (fun s1 => ⟨[(3, .c (.ref 3 0)), (5, .c (.ref 5 0)), (6, .c (.d (.int .i64 s1.1)))], [(3, [.d (.int .i64 a1_0), .d (encF 1 d_B a1_1)]), (5, [.d (.int .i64 v3.1), .own 17])], [(17, .owned (encF 3 d_III s1.2))]⟩) (b6_1 a1_0 a1_1 v3) (fun q => q = r) hr rfl ?_)
      · (simp (maxDischargeDepth := 8) [go_sem, -List.drop_one])
      · intro s1 hr
        unfold b6_1 at hr
        refine S.goB [] 1000 ?_
        simp (maxSteps := 10000000) only [go_sem, tb6_15, T15, tb6_19, T19, tb6_20, T20, tb6_22, T22, tb6_36, T36, T6, Bool.not_true, Bool.not_false, Option.map_some, Int.reduceToNat, Nat.reduceEqDiff, Nat.reduceLT, Nat.reduceAdd, Nat.reduceMul, Nat.reduceSub, Nat.reduceLeDiff, reduceIte, reduceCtorEq, Try.results6]
        repeat refine gA ?_
        refine ⟨fun hc => ?_, fun hc => ?_⟩
        · replace hr := ifP1 hr hc
          obtain ⟨hg4, hr⟩ := of_guard1 hr
          obtain ⟨hg5, hr⟩ := of_guard1 hr
          repeat refine gA ?_
          refine S.sees [3, 5, 6] [(3, 3), (5, 5)] [(17, 17)] ?_ hr
          (simp (maxDischargeDepth := 8) [go_sem, -List.drop_one])
        · replace hr := ifN1 hr hc
          repeat refine gA ?_
          have hr := of_out0 hr
          obtain ⟨v6, hv6, hr⟩ := of_bind0 hr
          obtain ⟨v7, hv7, hr⟩ := of_bind0 hr
          obtain ⟨v8, hv8, hr⟩ := of_bind0 hr
          try simp only [hv6, hv7, hv8, Option.getD_some, Option.isSome_some, true_and, and_assoc]
          repeat (first | refine gA ?_ | refine gB ?_)
          refine ⟨fun hc => ?_, fun hc => ?_⟩
          · replace hr := ifP hr hc
            repeat refine gA ?_
            obtain rfl := Option.some.inj hr
            (simp (maxDischargeDepth := 8) [go_sem, -List.drop_one])
          · replace hr := ifN hr hc
            repeat refine gA ?_
            refine S.sees [7, 9] [] [(40, 40)] ?_ (Stop.iter S (fun s2 => ⟨[(7, .c (.own 40)), (9, .c (.d (.int .i64 s2)))], [], [(40, .owned (encF 1 d_I v8.1))]⟩) (b6_2 v8) (fun q => q = r) hr rfl ?_)
            · (simp (maxDischargeDepth := 8) [go_sem, -List.drop_one])
            · intro s2 hr
              unfold b6_2 at hr
              refine S.goB [] 1000 ?_
              simp (maxSteps := 10000000) only [go_sem, tb6_15, T15, tb6_19, T19, tb6_20, T20, tb6_22, T22, tb6_36, T36, T6, Bool.not_true, Bool.not_false, Option.map_some, Int.reduceToNat, Nat.reduceEqDiff, Nat.reduceLT, Nat.reduceAdd, Nat.reduceMul, Nat.reduceSub, Nat.reduceLeDiff, reduceIte, reduceCtorEq, Try.results6]
              repeat refine gA ?_
              refine ⟨fun hc => ?_, fun hc => ?_⟩
              · replace hr := ifP1 hr hc
                obtain ⟨hg9, hr⟩ := of_guard1 hr
                obtain ⟨hg10, hr⟩ := of_guard1 hr
                repeat refine gA ?_
                refine ⟨fun hc => ?_, fun hc => ?_⟩
                · replace hr := ifP1 hr hc
                  repeat refine gA ?_
                  have hr := of_out0 hr
                  obtain rfl := Option.some.inj hr
                  (simp (maxDischargeDepth := 8) [go_sem, -List.drop_one])
                · replace hr := ifN1 hr hc
                  repeat refine gA ?_
                  refine S.sees [7, 9] [] [(40, 40)] ?_ hr
                  (simp (maxDischargeDepth := 8) [go_sem, -List.drop_one])
              · replace hr := ifN1 hr hc
                repeat refine gA ?_
                have hr := of_out0 hr
                repeat refine gA ?_
                obtain rfl := Option.some.inj hr
                (simp (maxDischargeDepth := 8) [go_sem, -List.drop_one])
theorem f6 : FnFact Try.prog 6 T6.sp := ⟨⟨Try.f6, Try.func6, by decide, rfl⟩, v6⟩
end Go.Proofs.Ytagnplbfdaifkaa

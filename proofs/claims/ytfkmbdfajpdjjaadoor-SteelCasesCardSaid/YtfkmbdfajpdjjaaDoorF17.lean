/- Contracts of functions, written by wip/dec. -/
import Derived.Test.YtfkmbdfajpdjjaaDoorF00
import Derived.Test.YtfkmbdfajpdjjaaDoorF04
import Derived.Test.YtfkmbdfajpdjjaaDoorF05
import Derived.Test.YtfkmbdfajpdjjaaDoorF06
import Derived.Test.YtfkmbdfajpdjjaaDoorF16
set_option linter.unusedVariables false
set_option linter.unusedSimpArgs false
set_option maxHeartbeats 4000000
set_option maxRecDepth 20000
namespace Go.Proofs.YtfkmbdfajpdjjaaDoor
open Go.Abs
/- martensite/martensitelaw04.SteelCases -/
def r5 (a0 : List (Int × Int)) (a1 : Int) (a2 : Int) : Option (Bool) :=
  (r12).bind fun v1 =>
   if (!v1) = true then
    some false
    else if (decide ((a0.length : Int) > 14)) = true then
     some true
     else (r26 a0).bind fun v2 =>
      (r25 v2 a1).bind fun v3 =>
       (r27 a0 a1).bind fun v4 =>
        if (v4 != 0) = true then
         some ((v3.2.2 == v4) && ((v3.1 == 0) && (v3.2.1 == 0)))
         else if (!(v3.2.2 != 0)) = true → (r28 a0 a1).isSome = true then
          if ((v3.2.2 != 0) || (!((v3.1 == ((r28 a0 a1).getD default).1) && (v3.2.1 == ((r28 a0 a1).getD default).2)))) = true then
           some false
           else (r29 a2 0 2000).bind fun v5 =>
            if (!(!v5)) = true → (r27 a0 (IntKind.i64.wrap (a1 + a2))).isSome = true then
             if ((!v5) || (((r27 a0 (IntKind.i64.wrap (a1 + a2))).getD default) != 0)) = true then
              some true
              else (r25 v2 (IntKind.i64.wrap (a1 + a2))).bind fun v6 =>
               some ((((v6.2.2 == 0) && (decide (v6.1 ≤ v3.1))) && (decide (v6.2.1 ≤ v3.2.1))) && (decide (v3.1 ≤ v3.2.1)))
             else none
          else none
def T5 : TSpec ((List (Int × Int)) × Int × Int) where
  enc := fun ⟨a0, a1, a2⟩ => [.c (encF 2 d_II a0), .c (.int .i64 a1), .c (.int .i64 a2)]
  dec a := (decF g_II (aCell a 0 0), dInt (aCell a 1 0), dInt (aCell a 2 0))
  pre := fun ⟨a0, a1, a2⟩ => (r5 a0 a1 a2).isSome = true
  res := fun ⟨a0, a1, a2⟩ => [.c (.d (.bool ((r5 a0 a1 a2).getD default)))]
  al := false
theorem TP5 (c0 c1 c2 : D) : T5.sp.pre [.c c0, .c c1, .c c2] = (eqvArgs [.c c0, .c c1, .c c2] [.c (encF 2 d_II (decF g_II c0)), .c (.int .i64 (dInt c1)), .c (.int .i64 (dInt c2))] ∧ (r5 (decF g_II c0) (dInt c1) (dInt c2)).isSome = true) := (rfl)
theorem TR5 (c0 c1 c2 : D) : T5.sp.res [.c c0, .c c1, .c c2] = [.c (.d (.bool ((r5 (decF g_II c0) (dInt c1) (dInt c2)).getD default)))] := (rfl)
theorem TA5 : T5.sp.alias = false := (rfl)
def tb5 : Fns := lk [(12, T12.sp), (25, T25.sp), (26, T26.sp), (27, T27.sp), (28, T28.sp), (29, T29.sp)]
theorem tb5_ok : FnsOk Tryd.prog tb5 := .cons f12 (.cons f25 (.cons f26 (.cons f27 (.cons f28 (.cons f29 (FnsOk.nil))))))
theorem tb5_12 : tb5 12 = some T12.sp := rfl
theorem tb5_25 : tb5 25 = some T25.sp := rfl
theorem tb5_26 : tb5 26 = some T26.sp := rfl
theorem tb5_27 : tb5 27 = some T27.sp := rfl
theorem tb5_28 : tb5 28 = some T28.sp := rfl
theorem tb5_29 : tb5 29 = some T29.sp := rfl
theorem v5 : Valid Tryd.prog 5 T5.sp := by
  refine valid_t (fn := Tryd.f5) (n := 89) ty_ok tb5_ok Tryd.func5 rfl Tryd.ntmps5 ?_
  rintro ⟨a0, a1, a2⟩ hx
  obtain ⟨r, hr⟩ := Option.isSome_iff_exists.1 (show (r5 a0 a1 a2).isSome = true from hx)
  have hres : T5.res (a0, a1, a2) = [.c (.d (.bool r))] := by simp only [T5, hr, Option.getD_some]
  refine ⟨Nat.le_of_ble_eq_true rfl, fun stop S => ?_⟩
  rw [hres] at S
  unfold r5 at hr
  refine S.goB [] 1000 ?_
  simp (maxSteps := 10000000) only [go_sem, tb5_12, TP12, TR12, TA12, tb5_25, TP25, TR25, TA25, tb5_26, TP26, TR26, TA26, tb5_27, TP27, TR27, TA27, tb5_28, TP28, TR28, TA28, tb5_29, TP29, TR29, TA29, T5, Bool.not_true, Bool.not_false, Option.map_some, Int.reduceToNat, Nat.reduceEqDiff, Nat.reduceLT, Nat.reduceAdd, Nat.reduceMul, Nat.reduceSub, Nat.reduceLeDiff, reduceIte, reduceCtorEq, Tryd.results5]
  obtain ⟨v1, hv1, hr⟩ := of_bind0 hr
  try simp only [hv1, Option.getD_some, Option.isSome_some, true_and, and_assoc]
  repeat refine gA ?_
  refine ⟨fun hc => ?_, fun hc => ?_⟩
  · replace hr := ifP hr hc
    repeat refine gA ?_
    obtain rfl := Option.some.inj hr
    (simp (maxDischargeDepth := 8) [go_sem, -List.drop_one])
  · replace hr := ifN hr hc
    repeat refine gA ?_
    refine ⟨fun hc => ?_, fun hc => ?_⟩
    · replace hr := ifP hr hc
      repeat refine gA ?_
      obtain rfl := Option.some.inj hr
      (simp (maxDischargeDepth := 8) [go_sem, -List.drop_one])
    · replace hr := ifN hr hc
      obtain ⟨v2, hv2, hr⟩ := of_bind0 hr
      obtain ⟨v3, hv3, hr⟩ := of_bind0 hr
      obtain ⟨v4, hv4, hr⟩ := of_bind0 hr
      try simp only [hv2, hv3, hv4, Option.getD_some, Option.isSome_some, true_and, and_assoc]
      repeat refine gA ?_
      refine ⟨fun hc => ?_, fun hc => ?_⟩
      · replace hr := ifP hr hc
        repeat (first | refine gA ?_ | refine gB ?_)
        obtain rfl := Option.some.inj hr
        (simp (maxDischargeDepth := 8) [go_sem, -List.drop_one])
      · replace hr := ifN hr hc
        obtain ⟨hg8, hr⟩ := of_guard0 hr
        repeat (first | refine gG hg8 ?_ | refine gA ?_ | refine gB ?_)
        refine ⟨fun hc => ?_, fun hc => ?_⟩
        · replace hr := ifP hr hc
          repeat refine gA ?_
          obtain rfl := Option.some.inj hr
          (simp (maxDischargeDepth := 8) [go_sem, -List.drop_one])
        · replace hr := ifN hr hc
          obtain ⟨v5, hv5, hr⟩ := of_bind0 hr
          obtain ⟨hg7, hr⟩ := of_guard0 hr
          try simp only [hv5, Option.getD_some, Option.isSome_some, true_and, and_assoc]
          repeat (first | refine gG hg7 ?_ | refine gA ?_ | refine gB ?_)
          refine ⟨fun hc => ?_, fun hc => ?_⟩
          · replace hr := ifP hr hc
            repeat refine gA ?_
            obtain rfl := Option.some.inj hr
            (simp (maxDischargeDepth := 8) [go_sem, -List.drop_one])
          · replace hr := ifN hr hc
            obtain ⟨v6, hv6, hr⟩ := of_bind0 hr
            try simp only [hv2, hv6, Option.getD_some, Option.isSome_some, true_and, and_assoc]
            repeat (first | refine gA ?_ | refine gB ?_)
            obtain rfl := Option.some.inj hr
            (simp (maxDischargeDepth := 8) [go_sem, -List.drop_one])
theorem f5 : FnFact Tryd.prog 5 T5.sp := ⟨⟨Tryd.f5, Tryd.func5, by decide, rfl⟩, v5⟩
end Go.Proofs.YtfkmbdfajpdjjaaDoor

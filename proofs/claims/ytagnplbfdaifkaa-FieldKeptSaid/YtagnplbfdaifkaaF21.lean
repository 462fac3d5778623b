/- Contracts of functions, written by wip/dec. -/
import Derived.Test.YtagnplbfdaifkaaF00
import Derived.Test.YtagnplbfdaifkaaF02
import Derived.Test.YtagnplbfdaifkaaF03
import Derived.Test.YtagnplbfdaifkaaF04
import Derived.Test.YtagnplbfdaifkaaF05
import Derived.Test.YtagnplbfdaifkaaF10
import Derived.Test.YtagnplbfdaifkaaF19
set_option linter.unusedVariables false
set_option linter.unusedSimpArgs false
set_option maxHeartbeats 4000000
set_option maxRecDepth 20000
namespace Go.Proofs.Ytagnplbfdaifkaa
open Go.Abs
/- martensite/martensitelaw02.FieldKept -/
def b13_1 (v5 : (List (Int × Int)) × Int) (v6 : (List (Int × Int)) × Int) (v7 : (List (Int)) × Int) : (Int × Int) → Ctl (Int × Int) (Bool) := fun s1 =>
  if (decide (s1.2 < (v7.1.length : Int))) = true then
   if 0 ≤ s1.2 ∧ s1.2 < (v7.1.length : Int) then
    bindC (r33 (v7.1.getD s1.2.toNat default) 0 576460752303423488) fun v12 =>
     if (!v12) = true then
      .out (some false)
      else if 0 ≤ s1.2 ∧ s1.2 < (v7.1.length : Int) then
       .next (IntKind.i64.wrap (s1.1 + (v7.1.getD s1.2.toNat default)), IntKind.i64.wrap (s1.2 + 1))
       else .out none
    else .out none
   else .out (if 0 ≤ 0 ∧ 0 < (v5.1.length : Int) then
    if 0 ≤ 0 ∧ 0 < (v6.1.length : Int) then
     if 0 ≤ 0 ∧ 0 < (v5.1.length : Int) then
      if 0 ≤ 0 ∧ 0 < (v6.1.length : Int) then
       some (s1.1 == (IntKind.i64.wrap ((IntKind.i64.wrap (((v5.1.getD 0 default).1) * ((v6.1.getD 0 default).1))) + (IntKind.i64.wrap (((v5.1.getD 0 default).2) * ((v6.1.getD 0 default).2))))))
       else none
      else none
     else none
    else none)
def r13 (a0_0 : Int) (a0_1 : List (Int × Int × Int)) (a1_0 : Int) (a1_1 : List (Bool)) (a2 : List (Int × Int)) : Option (Bool) :=
  (r15).bind fun v1 =>
   if (!v1) = true then
    some false
    else (r22 a0_0 a0_1 a1_0 a1_1).bind fun v2 =>
     if ((v2 != 0) || (decide ((a2.length : Int) > 8))) = true then
      some true
      else (r19 a0_0 a0_1).bind fun v3 =>
       (r20 a1_0 a1_1).bind fun v4 =>
        (r32 v3.1 v3.2 v4.1 v4.2).bind fun v5 =>
         (r53 v3.1 v3.2 v4.1 v4.2).bind fun v6 =>
          (r36 v3.1 v3.2 v4.1 v4.2).bind fun v7 =>
           if ((((((v5.2 != 0) || (v6.2 != 0)) || (v7.2 != 0)) || ((v5.1.length : Int) != (IntKind.i64.wrap ((a0_1.length : Int) + 1)))) || ((v6.1.length : Int) != (a0_1.length : Int))) || ((v7.1.length : Int) != (a0_1.length : Int))) = true then
            some false
            else (r55 v5.1).bind fun v8 =>
             (r54 v3.1 v3.2 v4.1 v4.2 v8).bind fun v9 =>
              (r55 a2).bind fun v10 =>
               (r54 v3.1 v3.2 v4.1 v4.2 v10).bind fun v11 =>
                if (!((v9.2 != 0) || (v9.1 != 0))) = true → (r58 v5.1 a2).isSome = true then
                 if (!(((v9.2 != 0) || (v9.1 != 0)) || (!((v11.2 == 0) == ((r58 v5.1 a2).getD default))))) = true → 0 ≤ 0 ∧ 0 < (v5.1.length : Int) then
                  if (!(((v9.2 != 0) || (v9.1 != 0)) || (!((v11.2 == 0) == ((r58 v5.1 a2).getD default))))) = true → (r33 ((v5.1.getD 0 default).1) (-1073741824) 1073741824).isSome = true then
                   if (!((((v9.2 != 0) || (v9.1 != 0)) || (!((v11.2 == 0) == ((r58 v5.1 a2).getD default)))) || (!((r33 ((v5.1.getD 0 default).1) (-1073741824) 1073741824).getD default)))) = true → 0 ≤ 0 ∧ 0 < (v5.1.length : Int) then
                    if (!((((v9.2 != 0) || (v9.1 != 0)) || (!((v11.2 == 0) == ((r58 v5.1 a2).getD default)))) || (!((r33 ((v5.1.getD 0 default).1) (-1073741824) 1073741824).getD default)))) = true → (r33 ((v5.1.getD 0 default).2) (-1073741824) 1073741824).isSome = true then
                     if (!(((((v9.2 != 0) || (v9.1 != 0)) || (!((v11.2 == 0) == ((r58 v5.1 a2).getD default)))) || (!((r33 ((v5.1.getD 0 default).1) (-1073741824) 1073741824).getD default))) || (!((r33 ((v5.1.getD 0 default).2) (-1073741824) 1073741824).getD default)))) = true → 0 ≤ 0 ∧ 0 < (v6.1.length : Int) then
                      if (!(((((v9.2 != 0) || (v9.1 != 0)) || (!((v11.2 == 0) == ((r58 v5.1 a2).getD default)))) || (!((r33 ((v5.1.getD 0 default).1) (-1073741824) 1073741824).getD default))) || (!((r33 ((v5.1.getD 0 default).2) (-1073741824) 1073741824).getD default)))) = true → (r33 ((v6.1.getD 0 default).1) (-1073741824) 1073741824).isSome = true then
                       if (!((((((v9.2 != 0) || (v9.1 != 0)) || (!((v11.2 == 0) == ((r58 v5.1 a2).getD default)))) || (!((r33 ((v5.1.getD 0 default).1) (-1073741824) 1073741824).getD default))) || (!((r33 ((v5.1.getD 0 default).2) (-1073741824) 1073741824).getD default))) || (!((r33 ((v6.1.getD 0 default).1) (-1073741824) 1073741824).getD default)))) = true → 0 ≤ 0 ∧ 0 < (v6.1.length : Int) then
                        if (!((((((v9.2 != 0) || (v9.1 != 0)) || (!((v11.2 == 0) == ((r58 v5.1 a2).getD default)))) || (!((r33 ((v5.1.getD 0 default).1) (-1073741824) 1073741824).getD default))) || (!((r33 ((v5.1.getD 0 default).2) (-1073741824) 1073741824).getD default))) || (!((r33 ((v6.1.getD 0 default).1) (-1073741824) 1073741824).getD default)))) = true → (r33 ((v6.1.getD 0 default).2) (-1073741824) 1073741824).isSome = true then
                         if (((((((v9.2 != 0) || (v9.1 != 0)) || (!((v11.2 == 0) == ((r58 v5.1 a2).getD default)))) || (!((r33 ((v5.1.getD 0 default).1) (-1073741824) 1073741824).getD default))) || (!((r33 ((v5.1.getD 0 default).2) (-1073741824) 1073741824).getD default))) || (!((r33 ((v6.1.getD 0 default).1) (-1073741824) 1073741824).getD default))) || (!((r33 ((v6.1.getD 0 default).2) (-1073741824) 1073741824).getD default))) = true then
                          some false
                          else iterC (b13_1 v5 v6 v7) 1000000000 (0, 0)
                         else none
                        else none
                       else none
                      else none
                     else none
                    else none
                   else none
                  else none
                 else none
def T13 : TSpec (Int × (List (Int × Int × Int)) × Int × (List (Bool)) × (List (Int × Int))) where
  enc x := [.agg [.int .i64 x.1, encF 3 d_III x.2.1], .agg [.int .i64 x.2.2.1, encF 1 d_B x.2.2.2.1], .c (encF 2 d_II x.2.2.2.2)]
  dec a := (dInt (aCell a 0 0), decF g_III (aCell a 0 1), dInt (aCell a 1 0), decF g_B (aCell a 1 1), decF g_II (aCell a 2 0))
  pre x := (r13 x.1 x.2.1 x.2.2.1 x.2.2.2.1 x.2.2.2.2).isSome = true
  res x := [.c (.d (.bool ((r13 x.1 x.2.1 x.2.2.1 x.2.2.2.1 x.2.2.2.2).getD default)))]
  al := false
def tb13 : Fns := lk [(15, T15.sp), (19, T19.sp), (20, T20.sp), (22, T22.sp), (32, T32.sp), (33, T33.sp), (36, T36.sp), (53, T53.sp), (54, T54.sp), (55, T55.sp), (58, T58.sp)]
theorem tb13_ok : FnsOk Try.prog tb13 := .cons f15 (.cons f19 (.cons f20 (.cons f22 (.cons f32 (.cons f33 (.cons f36 (.cons f53 (.cons f54 (.cons f55 (.cons f58 (FnsOk.nil)))))))))))
theorem tb13_15 : tb13 15 = some T15.sp := rfl
theorem tb13_19 : tb13 19 = some T19.sp := rfl
theorem tb13_20 : tb13 20 = some T20.sp := rfl
theorem tb13_22 : tb13 22 = some T22.sp := rfl
theorem tb13_32 : tb13 32 = some T32.sp := rfl
theorem tb13_33 : tb13 33 = some T33.sp := rfl
theorem tb13_36 : tb13 36 = some T36.sp := rfl
theorem tb13_53 : tb13 53 = some T53.sp := rfl
theorem tb13_54 : tb13 54 = some T54.sp := rfl
theorem tb13_55 : tb13 55 = some T55.sp := rfl
theorem tb13_58 : tb13 58 = some T58.sp := rfl
theorem v13 : Valid Try.prog 13 T13.sp := by
  refine valid_t (fn := Try.f13) (n := 194) ty_ok tb13_ok Try.func13 rfl Try.ntmps13 ?_
  rintro ⟨a0_0, a0_1, a1_0, a1_1, a2⟩ hx
  obtain ⟨r, hr⟩ := Option.isSome_iff_exists.1 (show (r13 a0_0 a0_1 a1_0 a1_1 a2).isSome = true from hx)
  have hres : T13.res (a0_0, a0_1, a1_0, a1_1, a2) = [.c (.d (.bool r))] := by simp only [T13, hr, Option.getD_some]
  refine ⟨Nat.le_of_ble_eq_true rfl, fun stop S => ?_⟩
  rw [hres] at S
  unfold r13 at hr
  refine S.goB [] 1000 ?_
  simp (maxSteps := 10000000) only [go_sem, tb13_15, T15, tb13_19, T19, tb13_20, T20, tb13_22, T22, tb13_32, T32, tb13_33, T33, tb13_36, T36, tb13_53, T53, tb13_54, T54, tb13_55, T55, tb13_58, T58, T13, Bool.not_true, Bool.not_false, Option.map_some, Int.reduceToNat, Nat.reduceEqDiff, Nat.reduceLT, Nat.reduceAdd, Nat.reduceMul, Nat.reduceSub, Nat.reduceLeDiff, reduceIte, reduceCtorEq, Try.results13]
  obtain ⟨v1, hv1, hr⟩ := of_bind0 hr
  try simp only [hv1, Option.getD_some, Option.isSome_some, true_and, and_assoc]
  repeat refine gA ?_
  refine ⟨fun hc => ?_, fun hc => ?_⟩
  · replace hr := ifP hr hc
    repeat refine gA ?_
    obtain rfl := Option.some.inj hr
    (simp (maxDischargeDepth := 8) [go_sem, -List.drop_one])
  · replace hr := ifN hr hc
    obtain ⟨v2, hv2, hr⟩ := of_bind0 hr
    try simp only [hv2, Option.getD_some, Option.isSome_some, true_and, and_assoc]
    repeat (first | refine gA ?_ | refine gB ?_)
    refine ⟨fun hc => ?_, fun hc => ?_⟩
    · replace hr := ifP hr hc
      repeat refine gA ?_
      obtain rfl := Option.some.inj hr
      (simp (maxDischargeDepth := 8) [go_sem, -List.drop_one])
    · replace hr := ifN hr hc
      obtain ⟨v3, hv3, hr⟩ := of_bind0 hr
      obtain ⟨v4, hv4, hr⟩ := of_bind0 hr
      obtain ⟨v5, hv5, hr⟩ := of_bind0 hr
      obtain ⟨v6, hv6, hr⟩ := of_bind0 hr
      obtain ⟨v7, hv7, hr⟩ := of_bind0 hr
      try simp only [hv3, hv4, hv5, hv6, hv7, Option.getD_some, Option.isSome_some, true_and, and_assoc]
      repeat (first | refine gA ?_ | refine gB ?_)
      refine ⟨fun hc => ?_, fun hc => ?_⟩
      · replace hr := ifP hr hc
        repeat refine gA ?_
        obtain rfl := Option.some.inj hr
        (simp (maxDischargeDepth := 8) [go_sem, -List.drop_one])
      · replace hr := ifN hr hc
        obtain ⟨v8, hv8, hr⟩ := of_bind0 hr
        obtain ⟨v9, hv9, hr⟩ := of_bind0 hr
        obtain ⟨v10, hv10, hr⟩ := of_bind0 hr
        obtain ⟨v11, hv11, hr⟩ := of_bind0 hr
        obtain ⟨hg19, hr⟩ := of_guard0 hr
        obtain ⟨hg20, hr⟩ := of_guard0 hr
        obtain ⟨hg21, hr⟩ := of_guard0 hr
        obtain ⟨hg22, hr⟩ := of_guard0 hr
        obtain ⟨hg23, hr⟩ := of_guard0 hr
        obtain ⟨hg24, hr⟩ := of_guard0 hr
        obtain ⟨hg25, hr⟩ := of_guard0 hr
        obtain ⟨hg26, hr⟩ := of_guard0 hr
        obtain ⟨hg27, hr⟩ := of_guard0 hr
        try simp only [hv8, hv9, hv10, hv11, Option.getD_some, Option.isSome_some, true_and, and_assoc]
        repeat (first | refine gG hg19 ?_ | refine gG hg20 ?_ | refine gG hg21 ?_ | refine gG hg22 ?_ | refine gG hg23 ?_ | refine gG hg24 ?_ | refine gG hg25 ?_ | refine gG hg26 ?_ | refine gG hg27 ?_ | refine gA ?_ | refine gB ?_)
        refine ⟨fun hc => ?_, fun hc => ?_⟩
        · replace hr := ifP hr hc
          repeat refine gA ?_
          obtain rfl := Option.some.inj hr
          (simp (maxDischargeDepth := 8) [go_sem, -List.drop_one])
        · replace hr := ifN hr hc
          repeat refine gA ?_
          refine S.sees [7, 9, 11, 17, 18] [] [(35, 35), (43, 43), (51, 51)] ?_ (Stop.iter S (fun s1 => ⟨[(7, .c (.own 35)), (9, .c (.own 43)), (11, .c (.own 51)), (17, .c (.d (.int .i64 s1.1))), (18, .c (.d (.int .i64 s1.2)))], [], [(35, .owned (encF 2 d_II v5.1)), (43, .owned (encF 2 d_II v6.1)), (51, .owned (encF 1 d_I v7.1))]⟩) (b13_1 v5 v6 v7) (fun q => q = r) hr rfl ?_)
          · (simp (maxDischargeDepth := 8) [go_sem, -List.drop_one])
          · intro s1 hr
            unfold b13_1 at hr
            refine S.goB [] 1000 ?_
            simp (maxSteps := 10000000) only [go_sem, tb13_15, T15, tb13_19, T19, tb13_20, T20, tb13_22, T22, tb13_32, T32, tb13_33, T33, tb13_36, T36, tb13_53, T53, tb13_54, T54, tb13_55, T55, tb13_58, T58, T13, Bool.not_true, Bool.not_false, Option.map_some, Int.reduceToNat, Nat.reduceEqDiff, Nat.reduceLT, Nat.reduceAdd, Nat.reduceMul, Nat.reduceSub, Nat.reduceLeDiff, reduceIte, reduceCtorEq, Try.results13]
            repeat refine gA ?_
            refine ⟨fun hc => ?_, fun hc => ?_⟩
            · replace hr := ifP1 hr hc
              obtain ⟨hg14, hr⟩ := of_guard1 hr
              obtain ⟨v12, hv12, hr⟩ := of_bind1 hr
              try simp only [hv12, Option.getD_some, Option.isSome_some, true_and, and_assoc]
              repeat refine gA ?_
              refine ⟨fun hc => ?_, fun hc => ?_⟩
              · replace hr := ifP1 hr hc
                repeat refine gA ?_
                have hr := of_out0 hr
                obtain rfl := Option.some.inj hr
                (simp (maxDischargeDepth := 8) [go_sem, -List.drop_one])
              · replace hr := ifN1 hr hc
                obtain ⟨hg13, hr⟩ := of_guard1 hr
                repeat refine gA ?_
                refine S.sees [7, 9, 11, 17, 18] [] [(35, 35), (43, 43), (51, 51)] ?_ hr
                (simp (maxDischargeDepth := 8) [go_sem, -List.drop_one])
            · replace hr := ifN1 hr hc
              repeat refine gA ?_
              have hr := of_out0 hr
              obtain ⟨hg15, hr⟩ := of_guard0 hr
              obtain ⟨hg16, hr⟩ := of_guard0 hr
              obtain ⟨hg17, hr⟩ := of_guard0 hr
              obtain ⟨hg18, hr⟩ := of_guard0 hr
              repeat refine gA ?_
              obtain rfl := Option.some.inj hr
              (simp (maxDischargeDepth := 8) [go_sem, -List.drop_one])
theorem f13 : FnFact Try.prog 13 T13.sp := ⟨⟨Try.f13, Try.func13, by decide, rfl⟩, v13⟩
end Go.Proofs.Ytagnplbfdaifkaa

/- Contracts of functions, written by wip/dec. -/
import Derived.Test.YtagnplbfdaifkaaF00
import Derived.Test.YtagnplbfdaifkaaF02
import Derived.Test.YtagnplbfdaifkaaF04
import Derived.Test.YtagnplbfdaifkaaF05
import Derived.Test.YtagnplbfdaifkaaF06
import Derived.Test.YtagnplbfdaifkaaF08
set_option linter.unusedVariables false
set_option linter.unusedSimpArgs false
set_option maxHeartbeats 4000000
set_option maxRecDepth 20000
namespace Go.Proofs.Ytagnplbfdaifkaa
open Go.Abs
/- martensite/martensitelaw02.FieldReciprocal -/
def b5_2 (a0_1 : List (Int × Int × Int)) (a2 : Int) (v5 : (List (Int × Int)) × Int) (v6 : (List (Int)) × Int) (s1 : (List (Int × Int)) × Int) : (Int × Int × Int) → Ctl (Int × Int × Int) (Bool) := fun s2 =>
  if (decide (s2.1 ≥ 0)) = true then
   if 0 ≤ s2.1 ∧ s2.1 < (a0_1.length : Int) then
    if 0 ≤ s2.1 ∧ s2.1 < (s1.1.length : Int) then
     if 0 ≤ s2.1 ∧ s2.1 < (s1.1.length : Int) then
      bindC (r34 s2.2.1 s2.2.2 (IntKind.i64.wrap (((a0_1.getD s2.1.toNat default).1) * ((s1.1.getD s2.1.toNat default).1))) (IntKind.i64.wrap (((a0_1.getD s2.1.toNat default).1) * ((s1.1.getD s2.1.toNat default).2)))) fun v38 =>
       if (s2.1 == a2) = true then
        if 0 ≤ 0 ∧ 0 < (v5.1.length : Int) then
         bindC (r35 v38.1 v38.2 ((v5.1.getD 0 default).1) ((v5.1.getD 0 default).2)) fun v39 =>
          if (decide (s2.1 > 0)) = true then
           if 0 ≤ IntKind.i64.wrap (s2.1 - 1) ∧ IntKind.i64.wrap (s2.1 - 1) < (s1.1.length : Int) then
            if 0 ≤ s2.1 ∧ s2.1 < (s1.1.length : Int) then
             bindC (r35 ((s1.1.getD (IntKind.i64.wrap (s2.1 - 1)).toNat default).1) ((s1.1.getD (IntKind.i64.wrap (s2.1 - 1)).toNat default).2) ((s1.1.getD s2.1.toNat default).1) ((s1.1.getD s2.1.toNat default).2)) fun v40 =>
              if 0 ≤ s2.1 ∧ s2.1 < (v6.1.length : Int) then
               if 0 ≤ s2.1 ∧ s2.1 < (v6.1.length : Int) then
                if (!((v40.1 == IntKind.i64.wrap ((IntKind.i64.wrap (0 - (v6.1.getD s2.1.toNat default))) * v39.2)) && (v40.2 == IntKind.i64.wrap ((v6.1.getD s2.1.toNat default) * v39.1)))) = true then
                 .out (some false)
                 else .next (IntKind.i64.wrap (s2.1 - 1), v39.1, v39.2)
                else .out none
               else .out none
             else .out none
            else .out none
           else if 0 ≤ s2.1 ∧ s2.1 < (s1.1.length : Int) then
            bindC (r35 0 0 ((s1.1.getD s2.1.toNat default).1) ((s1.1.getD s2.1.toNat default).2)) fun v45 =>
             if 0 ≤ s2.1 ∧ s2.1 < (v6.1.length : Int) then
              if 0 ≤ s2.1 ∧ s2.1 < (v6.1.length : Int) then
               if (!((v45.1 == IntKind.i64.wrap ((IntKind.i64.wrap (0 - (v6.1.getD s2.1.toNat default))) * v39.2)) && (v45.2 == IntKind.i64.wrap ((v6.1.getD s2.1.toNat default) * v39.1)))) = true then
                .out (some false)
                else .next (IntKind.i64.wrap (s2.1 - 1), v39.1, v39.2)
               else .out none
              else .out none
            else .out none
         else .out none
        else if (decide (s2.1 > 0)) = true then
         if 0 ≤ IntKind.i64.wrap (s2.1 - 1) ∧ IntKind.i64.wrap (s2.1 - 1) < (s1.1.length : Int) then
          if 0 ≤ s2.1 ∧ s2.1 < (s1.1.length : Int) then
           bindC (r35 ((s1.1.getD (IntKind.i64.wrap (s2.1 - 1)).toNat default).1) ((s1.1.getD (IntKind.i64.wrap (s2.1 - 1)).toNat default).2) ((s1.1.getD s2.1.toNat default).1) ((s1.1.getD s2.1.toNat default).2)) fun v50 =>
            if 0 ≤ s2.1 ∧ s2.1 < (v6.1.length : Int) then
             if 0 ≤ s2.1 ∧ s2.1 < (v6.1.length : Int) then
              if (!((v50.1 == IntKind.i64.wrap ((IntKind.i64.wrap (0 - (v6.1.getD s2.1.toNat default))) * v38.2)) && (v50.2 == IntKind.i64.wrap ((v6.1.getD s2.1.toNat default) * v38.1)))) = true then
               .out (some false)
               else .next (IntKind.i64.wrap (s2.1 - 1), v38.1, v38.2)
              else .out none
             else .out none
           else .out none
          else .out none
         else if 0 ≤ s2.1 ∧ s2.1 < (s1.1.length : Int) then
          bindC (r35 0 0 ((s1.1.getD s2.1.toNat default).1) ((s1.1.getD s2.1.toNat default).2)) fun v55 =>
           if 0 ≤ s2.1 ∧ s2.1 < (v6.1.length : Int) then
            if 0 ≤ s2.1 ∧ s2.1 < (v6.1.length : Int) then
             if (!((v55.1 == IntKind.i64.wrap ((IntKind.i64.wrap (0 - (v6.1.getD s2.1.toNat default))) * v38.2)) && (v55.2 == IntKind.i64.wrap ((v6.1.getD s2.1.toNat default) * v38.1)))) = true then
              .out (some false)
              else .next (IntKind.i64.wrap (s2.1 - 1), v38.1, v38.2)
             else .out none
            else .out none
          else .out none
      else .out none
     else .out none
    else .out none
   else .out (some true)
def b5_1 (a0_0 : Int) (a0_1 : List (Int × Int × Int)) (a1_0 : Int) (a1_1 : List (Bool)) (a2 : Int) (v5 : (List (Int × Int)) × Int) (v6 : (List (Int)) × Int) : ((List (Int × Int)) × Int) → Ctl ((List (Int × Int)) × Int) (Bool) := fun s1 =>
  if (decide (s1.2 < (a0_1.length : Int))) = true then
   bindC (r19 a0_0 a0_1) fun v7 =>
    bindC (r20 a1_0 a1_1) fun v8 =>
     bindC (r21 v7.1 v7.2 v8.1 v8.2 a2 s1.2) fun v9 =>
      bindC (r21 v7.1 v7.2 v8.1 v8.2 s1.2 a2) fun v10 =>
       if (!(((v9.2.2.2.2 != 0) || (v10.2.2.2.2 != 0)) || (!((v9.1 == v10.1) && ((v9.2.1 == v10.2.1) && ((v9.2.2.1 == v10.2.2.1) && (v9.2.2.2.1 == v10.2.2.2.1))))))) = true → (r33 v9.1 (-1099511627776) 1099511627776).isSome = true then
        if (!((((v9.2.2.2.2 != 0) || (v10.2.2.2.2 != 0)) || (!((v9.1 == v10.1) && ((v9.2.1 == v10.2.1) && ((v9.2.2.1 == v10.2.2.1) && (v9.2.2.2.1 == v10.2.2.2.1)))))) || (!((r33 v9.1 (-1099511627776) 1099511627776).getD default)))) = true → (r33 v9.2.1 (-1099511627776) 1099511627776).isSome = true then
         if (((((v9.2.2.2.2 != 0) || (v10.2.2.2.2 != 0)) || (!((v9.1 == v10.1) && ((v9.2.1 == v10.2.1) && ((v9.2.2.1 == v10.2.2.1) && (v9.2.2.2.1 == v10.2.2.2.1)))))) || (!((r33 v9.1 (-1099511627776) 1099511627776).getD default))) || (!((r33 v9.2.1 (-1099511627776) 1099511627776).getD default))) = true then
          .out (some false)
          else if (v9.2.2.1 != 0) = true then
           if 0 ≤ 0 ∧ 0 < (v5.1.length : Int) then
            if v9.2.2.1 ≠ 0 then
             bindC (r33 (IntKind.i64.wrap (((v5.1.getD 0 default).1).tdiv v9.2.2.1)) (-1073741824) 1073741824) fun v11 =>
              if (!(!v11)) = true → (r33 v9.2.2.1 (-1073741824) 1073741824).isSome = true then
               if (!((!v11) || (!((r33 v9.2.2.1 (-1073741824) 1073741824).getD default)))) = true → (r33 v9.2.2.2.1 (-1073741824) 1073741824).isSome = true then
                if (!(((!v11) || (!((r33 v9.2.2.1 (-1073741824) 1073741824).getD default))) || (!((r33 v9.2.2.2.1 (-1073741824) 1073741824).getD default)))) = true → 0 ≤ 0 ∧ 0 < (v5.1.length : Int) then
                 if ((((!v11) || (!((r33 v9.2.2.1 (-1073741824) 1073741824).getD default))) || (!((r33 v9.2.2.2.1 (-1073741824) 1073741824).getD default))) || (!((IntKind.i64.wrap ((IntKind.i64.wrap (((v5.1.getD 0 default).1).tdiv v9.2.2.1)) * v9.2.2.1) == (v5.1.getD 0 default).1) && (IntKind.i64.wrap ((IntKind.i64.wrap (((v5.1.getD 0 default).1).tdiv v9.2.2.1)) * v9.2.2.2.1) == (v5.1.getD 0 default).2)))) = true then
                  .out (some false)
                  else bindC (r33 (IntKind.i64.wrap ((IntKind.i64.wrap (((v5.1.getD 0 default).1).tdiv v9.2.2.1)) * v9.1)) (-1125899906842624) 1125899906842624) fun v12 =>
                   if (!(!v12)) = true → (r33 (IntKind.i64.wrap ((IntKind.i64.wrap (((v5.1.getD 0 default).1).tdiv v9.2.2.1)) * v9.2.1)) (-1125899906842624) 1125899906842624).isSome = true then
                    if ((!v12) || (!((r33 (IntKind.i64.wrap ((IntKind.i64.wrap (((v5.1.getD 0 default).1).tdiv v9.2.2.1)) * v9.2.1)) (-1125899906842624) 1125899906842624).getD default))) = true then
                     .out (some false)
                     else if (s1.1.length + 1) * 16 ≤ 140737488355328 ∧ s1.1.length + 1 ≤ 9223372036854775807 then
                      .next (s1.1 ++ [(IntKind.i64.wrap ((IntKind.i64.wrap (((v5.1.getD 0 default).1).tdiv v9.2.2.1)) * v9.1), IntKind.i64.wrap ((IntKind.i64.wrap (((v5.1.getD 0 default).1).tdiv v9.2.2.1)) * v9.2.1))], IntKind.i64.wrap (s1.2 + 1))
                      else .out none
                    else .out none
                 else .out none
                else .out none
               else .out none
             else .out none
            else .out none
           else if (v9.2.2.2.1 != 0) = true then
            if 0 ≤ 0 ∧ 0 < (v5.1.length : Int) then
             if v9.2.2.2.1 ≠ 0 then
              bindC (r33 (IntKind.i64.wrap (((v5.1.getD 0 default).2).tdiv v9.2.2.2.1)) (-1073741824) 1073741824) fun v20 =>
               if (!(!v20)) = true → (r33 v9.2.2.1 (-1073741824) 1073741824).isSome = true then
                if (!((!v20) || (!((r33 v9.2.2.1 (-1073741824) 1073741824).getD default)))) = true → (r33 v9.2.2.2.1 (-1073741824) 1073741824).isSome = true then
                 if (!(((!v20) || (!((r33 v9.2.2.1 (-1073741824) 1073741824).getD default))) || (!((r33 v9.2.2.2.1 (-1073741824) 1073741824).getD default)))) = true → 0 ≤ 0 ∧ 0 < (v5.1.length : Int) then
                  if ((((!v20) || (!((r33 v9.2.2.1 (-1073741824) 1073741824).getD default))) || (!((r33 v9.2.2.2.1 (-1073741824) 1073741824).getD default))) || (!((IntKind.i64.wrap ((IntKind.i64.wrap (((v5.1.getD 0 default).2).tdiv v9.2.2.2.1)) * v9.2.2.1) == (v5.1.getD 0 default).1) && (IntKind.i64.wrap ((IntKind.i64.wrap (((v5.1.getD 0 default).2).tdiv v9.2.2.2.1)) * v9.2.2.2.1) == (v5.1.getD 0 default).2)))) = true then
                   .out (some false)
                   else bindC (r33 (IntKind.i64.wrap ((IntKind.i64.wrap (((v5.1.getD 0 default).2).tdiv v9.2.2.2.1)) * v9.1)) (-1125899906842624) 1125899906842624) fun v21 =>
                    if (!(!v21)) = true → (r33 (IntKind.i64.wrap ((IntKind.i64.wrap (((v5.1.getD 0 default).2).tdiv v9.2.2.2.1)) * v9.2.1)) (-1125899906842624) 1125899906842624).isSome = true then
                     if ((!v21) || (!((r33 (IntKind.i64.wrap ((IntKind.i64.wrap (((v5.1.getD 0 default).2).tdiv v9.2.2.2.1)) * v9.2.1)) (-1125899906842624) 1125899906842624).getD default))) = true then
                      .out (some false)
                      else if (s1.1.length + 1) * 16 ≤ 140737488355328 ∧ s1.1.length + 1 ≤ 9223372036854775807 then
                       .next (s1.1 ++ [(IntKind.i64.wrap ((IntKind.i64.wrap (((v5.1.getD 0 default).2).tdiv v9.2.2.2.1)) * v9.1), IntKind.i64.wrap ((IntKind.i64.wrap (((v5.1.getD 0 default).2).tdiv v9.2.2.2.1)) * v9.2.1))], IntKind.i64.wrap (s1.2 + 1))
                       else .out none
                     else .out none
                  else .out none
                 else .out none
                else .out none
              else .out none
             else .out none
            else bindC (r33 0 (-1073741824) 1073741824) fun v29 =>
             if (!(!v29)) = true → (r33 v9.2.2.1 (-1073741824) 1073741824).isSome = true then
              if (!((!v29) || (!((r33 v9.2.2.1 (-1073741824) 1073741824).getD default)))) = true → (r33 v9.2.2.2.1 (-1073741824) 1073741824).isSome = true then
               if (!(((!v29) || (!((r33 v9.2.2.1 (-1073741824) 1073741824).getD default))) || (!((r33 v9.2.2.2.1 (-1073741824) 1073741824).getD default)))) = true → 0 ≤ 0 ∧ 0 < (v5.1.length : Int) then
                if ((((!v29) || (!((r33 v9.2.2.1 (-1073741824) 1073741824).getD default))) || (!((r33 v9.2.2.2.1 (-1073741824) 1073741824).getD default))) || (!((IntKind.i64.wrap (0 * v9.2.2.1) == (v5.1.getD 0 default).1) && (IntKind.i64.wrap (0 * v9.2.2.2.1) == (v5.1.getD 0 default).2)))) = true then
                 .out (some false)
                 else bindC (r33 (IntKind.i64.wrap (0 * v9.1)) (-1125899906842624) 1125899906842624) fun v30 =>
                  if (!(!v30)) = true → (r33 (IntKind.i64.wrap (0 * v9.2.1)) (-1125899906842624) 1125899906842624).isSome = true then
                   if ((!v30) || (!((r33 (IntKind.i64.wrap (0 * v9.2.1)) (-1125899906842624) 1125899906842624).getD default))) = true then
                    .out (some false)
                    else if (s1.1.length + 1) * 16 ≤ 140737488355328 ∧ s1.1.length + 1 ≤ 9223372036854775807 then
                     .next (s1.1 ++ [(IntKind.i64.wrap (0 * v9.1), IntKind.i64.wrap (0 * v9.2.1))], IntKind.i64.wrap (s1.2 + 1))
                     else .out none
                   else .out none
                else .out none
               else .out none
              else .out none
         else .out none
        else .out none
   else .out (iterC (b5_2 a0_1 a2 v5 v6 s1) 1000000000 (IntKind.i64.wrap ((a0_1.length : Int) - 1), 0, 0))
def r5 (a0_0 : Int) (a0_1 : List (Int × Int × Int)) (a1_0 : Int) (a1_1 : List (Bool)) (a2 : Int) : Option (Bool) :=
  (r15).bind fun v1 =>
   if (!v1) = true then
    some false
    else (r22 a0_0 a0_1 a1_0 a1_1).bind fun v2 =>
     if (!(v2 != 0)) = true → (r24 a0_0 a0_1 a2).isSome = true then
      if ((v2 != 0) || (((r24 a0_0 a0_1 a2).getD default) != 0)) = true then
       some true
       else (r19 a0_0 a0_1).bind fun v3 =>
        (r20 a1_0 a1_1).bind fun v4 =>
         (r32 v3.1 v3.2 v4.1 v4.2).bind fun v5 =>
          (r28 v3.1 v3.2 v4.1 v4.2).bind fun v6 =>
           if (!((((v5.2 != 0) || (v6.2 != 0)) || ((v5.1.length : Int) != (IntKind.i64.wrap ((a0_1.length : Int) + 1)))) || ((v6.1.length : Int) != (a0_1.length : Int)))) = true → 0 ≤ 0 ∧ 0 < (v5.1.length : Int) then
            if (((((v5.2 != 0) || (v6.2 != 0)) || ((v5.1.length : Int) != (IntKind.i64.wrap ((a0_1.length : Int) + 1)))) || ((v6.1.length : Int) != (a0_1.length : Int))) || (((v5.1.getD 0 default).1 == 0) && ((v5.1.getD 0 default).2 == 0))) = true then
             some false
             else iterC (b5_1 a0_0 a0_1 a1_0 a1_1 a2 v5 v6) 1000000000 ([], 0)
            else none
      else none
def T5 : TSpec (Int × (List (Int × Int × Int)) × Int × (List (Bool)) × Int) where
  enc x := [.agg [.int .i64 x.1, encF 3 d_III x.2.1], .agg [.int .i64 x.2.2.1, encF 1 d_B x.2.2.2.1], .c (.int .i64 x.2.2.2.2)]
  dec a := (dInt (aCell a 0 0), decF g_III (aCell a 0 1), dInt (aCell a 1 0), decF g_B (aCell a 1 1), dInt (aCell a 2 0))
  pre x := (r5 x.1 x.2.1 x.2.2.1 x.2.2.2.1 x.2.2.2.2).isSome = true
  res x := [.c (.d (.bool ((r5 x.1 x.2.1 x.2.2.1 x.2.2.2.1 x.2.2.2.2).getD default)))]
  al := false
def tb5 : Fns := lk [(15, T15.sp), (19, T19.sp), (20, T20.sp), (21, T21.sp), (22, T22.sp), (24, T24.sp), (28, T28.sp), (32, T32.sp), (33, T33.sp), (34, T34.sp), (35, T35.sp)]
theorem tb5_ok : FnsOk Try.prog tb5 := .cons f15 (.cons f19 (.cons f20 (.cons f21 (.cons f22 (.cons f24 (.cons f28 (.cons f32 (.cons f33 (.cons f34 (.cons f35 (FnsOk.nil)))))))))))
theorem tb5_15 : tb5 15 = some T15.sp := rfl
theorem tb5_19 : tb5 19 = some T19.sp := rfl
theorem tb5_20 : tb5 20 = some T20.sp := rfl
theorem tb5_21 : tb5 21 = some T21.sp := rfl
theorem tb5_22 : tb5 22 = some T22.sp := rfl
theorem tb5_24 : tb5 24 = some T24.sp := rfl
theorem tb5_28 : tb5 28 = some T28.sp := rfl
theorem tb5_32 : tb5 32 = some T32.sp := rfl
theorem tb5_33 : tb5 33 = some T33.sp := rfl
theorem tb5_34 : tb5 34 = some T34.sp := rfl
theorem tb5_35 : tb5 35 = some T35.sp := rfl
theorem v5 : Valid Try.prog 5 T5.sp := by
  refine valid_t (fn := Try.f5) (n := 284) ty_ok tb5_ok Try.func5 rfl Try.ntmps5 ?_
  rintro ⟨a0_0, a0_1, a1_0, a1_1, a2⟩ hx
  obtain ⟨r, hr⟩ := Option.isSome_iff_exists.1 (show (r5 a0_0 a0_1 a1_0 a1_1 a2).isSome = true from hx)
  have hres : T5.res (a0_0, a0_1, a1_0, a1_1, a2) = [.c (.d (.bool r))] := by simp only [T5, hr, Option.getD_some]
  refine ⟨Nat.le_of_ble_eq_true rfl, fun stop S => ?_⟩
  rw [hres] at S
  unfold r5 at hr
  refine S.goB [] 1000 ?_
  simp (maxSteps := 10000000) only [go_sem, tb5_15, T15, tb5_19, T19, tb5_20, T20, tb5_21, T21, tb5_22, T22, tb5_24, T24, tb5_28, T28, tb5_32, T32, tb5_33, T33, tb5_34, T34, tb5_35, T35, T5, Bool.not_true, Bool.not_false, Option.map_some, Int.reduceToNat, Nat.reduceEqDiff, Nat.reduceLT, Nat.reduceAdd, Nat.reduceMul, Nat.reduceSub, Nat.reduceLeDiff, reduceIte, reduceCtorEq, Try.results5]
  obtain ⟨v1, hv1, hr⟩ := of_bind0 hr
  try simp only [hv1, Option.getD_some, Option.isSome_some, true_and, and_assoc]
  repeat refine gA ?_
  refine ⟨fun hc => ?_, fun hc => ?_⟩
  · replace hr := ifP hr hc
    repeat refine gA ?_
    obtain rfl := Option.some.inj hr
    (simp (maxDischargeDepth := 8) [go_sem, -List.drop_one])
  · replace hr := ifN hr hc
    obtain ⟨v2, hv2, hr⟩ := of_bind0 hr
    obtain ⟨hg63, hr⟩ := of_guard0 hr
    try simp only [hv2, Option.getD_some, Option.isSome_some, true_and, and_assoc]
    repeat (first | refine gG hg63 ?_ | refine gA ?_ | refine gB ?_)
    refine ⟨fun hc => ?_, fun hc => ?_⟩
    · replace hr := ifP hr hc
      repeat refine gA ?_
      obtain rfl := Option.some.inj hr
      (simp (maxDischargeDepth := 8) [go_sem, -List.drop_one])
    · replace hr := ifN hr hc
      obtain ⟨v3, hv3, hr⟩ := of_bind0 hr
      obtain ⟨v4, hv4, hr⟩ := of_bind0 hr
      obtain ⟨v5, hv5, hr⟩ := of_bind0 hr
      obtain ⟨v6, hv6, hr⟩ := of_bind0 hr
      obtain ⟨hg62, hr⟩ := of_guard0 hr
      try simp only [hv3, hv4, hv5, hv6, Option.getD_some, Option.isSome_some, true_and, and_assoc]
      repeat (first | refine gG hg62 ?_ | refine gA ?_ | refine gB ?_)
      refine ⟨fun hc => ?_, fun hc => ?_⟩
      · replace hr := ifP hr hc
        repeat refine gA ?_
        obtain rfl := Option.some.inj hr
        (simp (maxDischargeDepth := 8) [go_sem, -List.drop_one])
      · replace hr := ifN hr hc
        repeat refine gA ?_
        refine S.own0 12 1001200 2 rfl rfl ?_
        refine S.sees [2, 3, 4, 7, 8, 10, 12, 13] [(3, 3), (4, 4)] [(1001200, 1001200), (44, 44), (52, 52)] ?_ (Stop.iter S (fun s1 => ⟨[(2, .c (.d (.int .i64 a2))), (3, .c (.ref 3 0)), (4, .c (.ref 4 0)), (7, .c (.d (.int .i64 (a0_1.length : Int)))), (8, .c (.own 44)), (10, .c (.own 52)), (12, .c (.own 1001200)), (13, .c (.d (.int .i64 s1.2)))], [(3, [.d (.int .i64 a0_0), .d (encF 3 d_III a0_1)]), (4, [.d (.int .i64 a1_0), .d (encF 1 d_B a1_1)])], [(1001200, .owned (encF 2 d_II s1.1)), (44, .owned (encF 2 d_II v5.1)), (52, .owned (encF 1 d_I v6.1))]⟩) (b5_1 a0_0 a0_1 a1_0 a1_1 a2 v5 v6) (fun q => q = r) hr rfl ?_)
        · (simp (maxDischargeDepth := 8) [go_sem, -List.drop_one])
        · intro s1 hr
          unfold b5_1 at hr
          refine S.goB [] 1000 ?_
          simp (maxSteps := 10000000) only [go_sem, tb5_15, T15, tb5_19, T19, tb5_20, T20, tb5_21, T21, tb5_22, T22, tb5_24, T24, tb5_28, T28, tb5_32, T32, tb5_33, T33, tb5_34, T34, tb5_35, T35, T5, Bool.not_true, Bool.not_false, Option.map_some, Int.reduceToNat, Nat.reduceEqDiff, Nat.reduceLT, Nat.reduceAdd, Nat.reduceMul, Nat.reduceSub, Nat.reduceLeDiff, reduceIte, reduceCtorEq, Try.results5]
          repeat refine gA ?_
          refine ⟨fun hc => ?_, fun hc => ?_⟩
          · replace hr := ifP1 hr hc
            obtain ⟨v7, hv7, hr⟩ := of_bind1 hr
            obtain ⟨v8, hv8, hr⟩ := of_bind1 hr
            obtain ⟨v9, hv9, hr⟩ := of_bind1 hr
            obtain ⟨v10, hv10, hr⟩ := of_bind1 hr
            obtain ⟨hg36, hr⟩ := of_guard1 hr
            obtain ⟨hg37, hr⟩ := of_guard1 hr
            try simp only [hv7, hv8, hv9, hv10, Option.getD_some, Option.isSome_some, true_and, and_assoc]
            repeat (first | refine gG hg36 ?_ | refine gG hg37 ?_ | refine gA ?_ | refine gB ?_)
            refine ⟨fun hc => ?_, fun hc => ?_⟩
            · replace hr := ifP1 hr hc
              repeat refine gA ?_
              have hr := of_out0 hr
              obtain rfl := Option.some.inj hr
              (simp (maxDischargeDepth := 8) [go_sem, -List.drop_one])
            · replace hr := ifN1 hr hc
              repeat refine gA ?_
              refine ⟨fun hc => ?_, fun hc => ?_⟩
              · replace hr := ifP1 hr hc
                obtain ⟨hg15, hr⟩ := of_guard1 hr
                obtain ⟨hg16, hr⟩ := of_guard1 hr
                obtain ⟨v11, hv11, hr⟩ := of_bind1 hr
                obtain ⟨hg17, hr⟩ := of_guard1 hr
                obtain ⟨hg18, hr⟩ := of_guard1 hr
                obtain ⟨hg19, hr⟩ := of_guard1 hr
                try simp only [hv11, Option.getD_some, Option.isSome_some, true_and, and_assoc]
                repeat (first | refine gG hg17 ?_ | refine gG hg18 ?_ | refine gG hg19 ?_ | refine gA ?_ | refine gB ?_)
                refine ⟨fun hc => ?_, fun hc => ?_⟩
                · replace hr := ifP1 hr hc
                  repeat refine gA ?_
                  have hr := of_out0 hr
                  obtain rfl := Option.some.inj hr
                  (simp (maxDischargeDepth := 8) [go_sem, -List.drop_one])
                · replace hr := ifN1 hr hc
                  obtain ⟨v12, hv12, hr⟩ := of_bind1 hr
                  obtain ⟨hg14, hr⟩ := of_guard1 hr
                  try simp only [hv12, Option.getD_some, Option.isSome_some, true_and, and_assoc]
                  repeat (first | refine gG hg14 ?_ | refine gA ?_ | refine gB ?_)
                  refine ⟨fun hc => ?_, fun hc => ?_⟩
                  · replace hr := ifP1 hr hc
                    repeat refine gA ?_
                    have hr := of_out0 hr
                    obtain rfl := Option.some.inj hr
                    (simp (maxDischargeDepth := 8) [go_sem, -List.drop_one])
                  · replace hr := ifN1 hr hc
                    obtain ⟨hg13, hr⟩ := of_guard1 hr
                    repeat refine gA ?_
                    refine S.sees [2, 3, 4, 7, 8, 10, 12, 13] [(3, 3), (4, 4)] [(215, 1001200), (44, 44), (52, 52)] ?_ hr
                    (simp (maxDischargeDepth := 8) [go_sem, -List.drop_one])
              · replace hr := ifN1 hr hc
                repeat refine gA ?_
                refine ⟨fun hc => ?_, fun hc => ?_⟩
                · replace hr := ifP1 hr hc
                  obtain ⟨hg24, hr⟩ := of_guard1 hr
                  obtain ⟨hg25, hr⟩ := of_guard1 hr
                  obtain ⟨v20, hv20, hr⟩ := of_bind1 hr
                  obtain ⟨hg26, hr⟩ := of_guard1 hr
                  obtain ⟨hg27, hr⟩ := of_guard1 hr
                  obtain ⟨hg28, hr⟩ := of_guard1 hr
                  try simp only [hv20, Option.getD_some, Option.isSome_some, true_and, and_assoc]
                  repeat (first | refine gG hg26 ?_ | refine gG hg27 ?_ | refine gG hg28 ?_ | refine gA ?_ | refine gB ?_)
                  refine ⟨fun hc => ?_, fun hc => ?_⟩
                  · replace hr := ifP1 hr hc
                    repeat refine gA ?_
                    have hr := of_out0 hr
                    obtain rfl := Option.some.inj hr
                    (simp (maxDischargeDepth := 8) [go_sem, -List.drop_one])
                  · replace hr := ifN1 hr hc
                    obtain ⟨v21, hv21, hr⟩ := of_bind1 hr
                    obtain ⟨hg23, hr⟩ := of_guard1 hr
                    try simp only [hv21, Option.getD_some, Option.isSome_some, true_and, and_assoc]
                    repeat (first | refine gG hg23 ?_ | refine gA ?_ | refine gB ?_)
                    refine ⟨fun hc => ?_, fun hc => ?_⟩
                    · replace hr := ifP1 hr hc
                      repeat refine gA ?_
                      have hr := of_out0 hr
                      obtain rfl := Option.some.inj hr
                      (simp (maxDischargeDepth := 8) [go_sem, -List.drop_one])
                    · replace hr := ifN1 hr hc
                      obtain ⟨hg22, hr⟩ := of_guard1 hr
                      repeat refine gA ?_
                      refine S.sees [2, 3, 4, 7, 8, 10, 12, 13] [(3, 3), (4, 4)] [(215, 1001200), (44, 44), (52, 52)] ?_ hr
                      (simp (maxDischargeDepth := 8) [go_sem, -List.drop_one])
                · replace hr := ifN1 hr hc
                  obtain ⟨v29, hv29, hr⟩ := of_bind1 hr
                  obtain ⟨hg33, hr⟩ := of_guard1 hr
                  obtain ⟨hg34, hr⟩ := of_guard1 hr
                  obtain ⟨hg35, hr⟩ := of_guard1 hr
                  try simp only [hv29, Option.getD_some, Option.isSome_some, true_and, and_assoc]
                  repeat (first | refine gG hg33 ?_ | refine gG hg34 ?_ | refine gG hg35 ?_ | refine gA ?_ | refine gB ?_)
                  refine ⟨fun hc => ?_, fun hc => ?_⟩
                  · replace hr := ifP1 hr hc
                    repeat refine gA ?_
                    have hr := of_out0 hr
                    obtain rfl := Option.some.inj hr
                    (simp (maxDischargeDepth := 8) [go_sem, -List.drop_one])
                  · replace hr := ifN1 hr hc
                    obtain ⟨v30, hv30, hr⟩ := of_bind1 hr
                    obtain ⟨hg32, hr⟩ := of_guard1 hr
                    try simp only [hv30, Option.getD_some, Option.isSome_some, true_and, and_assoc]
                    repeat (first | refine gG hg32 ?_ | refine gA ?_ | refine gB ?_)
                    refine ⟨fun hc => ?_, fun hc => ?_⟩
                    · replace hr := ifP1 hr hc
                      repeat refine gA ?_
                      have hr := of_out0 hr
                      obtain rfl := Option.some.inj hr
                      (simp (maxDischargeDepth := 8) [go_sem, -List.drop_one])
                    · replace hr := ifN1 hr hc
                      obtain ⟨hg31, hr⟩ := of_guard1 hr
                      repeat refine gA ?_
                      refine S.sees [2, 3, 4, 7, 8, 10, 12, 13] [(3, 3), (4, 4)] [(215, 1001200), (44, 44), (52, 52)] ?_ hr
                      (simp (maxDischargeDepth := 8) [go_sem, -List.drop_one])
          · replace hr := ifN1 hr hc
            repeat refine gA ?_
            have hr := of_out0 hr
            repeat refine gA ?_
            refine S.sees [2, 3, 8, 10, 12, 20, 21] [(3, 3), (20, 20)] [(44, 44), (52, 52), (1001200, 1001200)] ?_ (Stop.iter S (fun s2 => ⟨[(2, .c (.d (.int .i64 a2))), (3, .c (.ref 3 0)), (8, .c (.own 44)), (10, .c (.own 52)), (12, .c (.own 1001200)), (20, .c (.ref 20 0)), (21, .c (.d (.int .i64 s2.1)))], [(3, [.d (.int .i64 a0_0), .d (encF 3 d_III a0_1)]), (20, [.d (.int .i64 s2.2.1), .d (.int .i64 s2.2.2)])], [(44, .owned (encF 2 d_II v5.1)), (52, .owned (encF 1 d_I v6.1)), (1001200, .owned (encF 2 d_II s1.1))]⟩) (b5_2 a0_1 a2 v5 v6 s1) (fun q => q = r) hr rfl ?_)
            · (simp (maxDischargeDepth := 8) [go_sem, -List.drop_one])
            · intro s2 hr
              unfold b5_2 at hr
              refine S.goB [] 1000 ?_
              simp (maxSteps := 10000000) only [go_sem, tb5_15, T15, tb5_19, T19, tb5_20, T20, tb5_21, T21, tb5_22, T22, tb5_24, T24, tb5_28, T28, tb5_32, T32, tb5_33, T33, tb5_34, T34, tb5_35, T35, T5, Bool.not_true, Bool.not_false, Option.map_some, Int.reduceToNat, Nat.reduceEqDiff, Nat.reduceLT, Nat.reduceAdd, Nat.reduceMul, Nat.reduceSub, Nat.reduceLeDiff, reduceIte, reduceCtorEq, Try.results5]
              repeat refine gA ?_
              refine ⟨fun hc => ?_, fun hc => ?_⟩
              · replace hr := ifP1 hr hc
                obtain ⟨hg59, hr⟩ := of_guard1 hr
                obtain ⟨hg60, hr⟩ := of_guard1 hr
                obtain ⟨hg61, hr⟩ := of_guard1 hr
                obtain ⟨v38, hv38, hr⟩ := of_bind1 hr
                try simp only [hv38, Option.getD_some, Option.isSome_some, true_and, and_assoc]
                repeat refine gA ?_
                refine ⟨fun hc => ?_, fun hc => ?_⟩
                · replace hr := ifP1 hr hc
                  obtain ⟨hg49, hr⟩ := of_guard1 hr
                  obtain ⟨v39, hv39, hr⟩ := of_bind1 hr
                  try simp only [hv39, Option.getD_some, Option.isSome_some, true_and, and_assoc]
                  repeat refine gA ?_
                  refine ⟨fun hc => ?_, fun hc => ?_⟩
                  · replace hr := ifP1 hr hc
                    obtain ⟨hg41, hr⟩ := of_guard1 hr
                    obtain ⟨hg42, hr⟩ := of_guard1 hr
                    obtain ⟨v40, hv40, hr⟩ := of_bind1 hr
                    obtain ⟨hg43, hr⟩ := of_guard1 hr
                    obtain ⟨hg44, hr⟩ := of_guard1 hr
                    try simp only [hv40, Option.getD_some, Option.isSome_some, true_and, and_assoc]
                    repeat refine gA ?_
                    refine ⟨fun hc => ?_, fun hc => ?_⟩
                    · replace hr := ifP1 hr hc
                      repeat refine gA ?_
                      have hr := of_out0 hr
                      obtain rfl := Option.some.inj hr
                      (simp (maxDischargeDepth := 8) [go_sem, -List.drop_one])
                    · replace hr := ifN1 hr hc
                      repeat refine gA ?_
                      refine S.sees [2, 3, 8, 10, 12, 20, 21] [(3, 3), (20, 20)] [(44, 44), (52, 52), (1001200, 1001200)] ?_ hr
                      (simp (maxDischargeDepth := 8) [go_sem, -List.drop_one])
                  · replace hr := ifN1 hr hc
                    obtain ⟨hg46, hr⟩ := of_guard1 hr
                    obtain ⟨v45, hv45, hr⟩ := of_bind1 hr
                    obtain ⟨hg47, hr⟩ := of_guard1 hr
                    obtain ⟨hg48, hr⟩ := of_guard1 hr
                    try simp only [hv45, Option.getD_some, Option.isSome_some, true_and, and_assoc]
                    repeat refine gA ?_
                    refine ⟨fun hc => ?_, fun hc => ?_⟩
                    · replace hr := ifP1 hr hc
                      repeat refine gA ?_
                      have hr := of_out0 hr
                      obtain rfl := Option.some.inj hr
                      (simp (maxDischargeDepth := 8) [go_sem, -List.drop_one])
                    · replace hr := ifN1 hr hc
                      repeat refine gA ?_
                      refine S.sees [2, 3, 8, 10, 12, 20, 21] [(3, 3), (20, 20)] [(44, 44), (52, 52), (1001200, 1001200)] ?_ hr
                      (simp (maxDischargeDepth := 8) [go_sem, -List.drop_one])
                · replace hr := ifN1 hr hc
                  repeat refine gA ?_
                  refine ⟨fun hc => ?_, fun hc => ?_⟩
                  · replace hr := ifP1 hr hc
                    obtain ⟨hg51, hr⟩ := of_guard1 hr
                    obtain ⟨hg52, hr⟩ := of_guard1 hr
                    obtain ⟨v50, hv50, hr⟩ := of_bind1 hr
                    obtain ⟨hg53, hr⟩ := of_guard1 hr
                    obtain ⟨hg54, hr⟩ := of_guard1 hr
                    try simp only [hv50, Option.getD_some, Option.isSome_some, true_and, and_assoc]
                    repeat refine gA ?_
                    refine ⟨fun hc => ?_, fun hc => ?_⟩
                    · replace hr := ifP1 hr hc
                      repeat refine gA ?_
                      have hr := of_out0 hr
                      obtain rfl := Option.some.inj hr
                      (simp (maxDischargeDepth := 8) [go_sem, -List.drop_one])
                    · replace hr := ifN1 hr hc
                      repeat refine gA ?_
                      refine S.sees [2, 3, 8, 10, 12, 20, 21] [(3, 3), (20, 20)] [(44, 44), (52, 52), (1001200, 1001200)] ?_ hr
                      (simp (maxDischargeDepth := 8) [go_sem, -List.drop_one])
                  · replace hr := ifN1 hr hc
                    obtain ⟨hg56, hr⟩ := of_guard1 hr
                    obtain ⟨v55, hv55, hr⟩ := of_bind1 hr
                    obtain ⟨hg57, hr⟩ := of_guard1 hr
                    obtain ⟨hg58, hr⟩ := of_guard1 hr
                    try simp only [hv55, Option.getD_some, Option.isSome_some, true_and, and_assoc]
                    repeat refine gA ?_
                    refine ⟨fun hc => ?_, fun hc => ?_⟩
                    · replace hr := ifP1 hr hc
                      repeat refine gA ?_
                      have hr := of_out0 hr
                      obtain rfl := Option.some.inj hr
                      (simp (maxDischargeDepth := 8) [go_sem, -List.drop_one])
                    · replace hr := ifN1 hr hc
                      repeat refine gA ?_
                      refine S.sees [2, 3, 8, 10, 12, 20, 21] [(3, 3), (20, 20)] [(44, 44), (52, 52), (1001200, 1001200)] ?_ hr
                      (simp (maxDischargeDepth := 8) [go_sem, -List.drop_one])
              · replace hr := ifN1 hr hc
                repeat refine gA ?_
                have hr := of_out0 hr
                repeat refine gA ?_
                obtain rfl := Option.some.inj hr
                (simp (maxDischargeDepth := 8) [go_sem, -List.drop_one])
theorem f5 : FnFact Try.prog 5 T5.sp := ⟨⟨Try.f5, Try.func5, by decide, rfl⟩, v5⟩
end Go.Proofs.Ytagnplbfdaifkaa

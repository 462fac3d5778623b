/- Contracts of functions, written by wip/dec. -/
import Derived.Test.YtfkmbdfajpdjjaaGreatDoorF00
import Derived.Test.YtfkmbdfajpdjjaaGreatDoorF05
import Derived.Test.YtfkmbdfajpdjjaaGreatDoorF06
import Derived.Test.YtfkmbdfajpdjjaaGreatDoorF08
import Derived.Test.YtfkmbdfajpdjjaaGreatDoorF12
set_option linter.unusedVariables false
set_option linter.unusedSimpArgs false
set_option maxHeartbeats 4000000
set_option maxRecDepth 20000
namespace Go.Proofs.YtfkmbdfajpdjjaaGreatDoor
open Go.Abs

theorem stop_join3 {σ : Type} {k : List K} {stop : List K → St → Prop} (head : σ → St) (R : σ → Prop) {goal : Prop} (main : (∀ s, R s → stop k (head s)) → goal) (j : ∀ s, R s → stop k (head s)) : goal := main j
/- martensite/martensitelaw04.SteelCurves -/
def j3_3 (x1 : List (Int × Int × Int × Int)) (x2 : List (Int × Int × Int × Int × Int)) (x3 : List (Int × Int × Int)) (x4 : List (Int × Int)) (x5 : Int) (x6 : Int) (x7 : Int) (x8 : Int) (x0 : List ((List (Int)))) (s2 : Int) (v12 : Int × Int) : (Int) → Ctl (Int) (Bool) := fun s3 =>
  if (((!((s3 != 0) && ((v12.2 != s3) || (v12.1 != 0)))) && (s3 == 0)) && (!(v12.2 != 0))) = true → 0 ≤ s2 ∧ s2 < (x0.length : Int) then
   if (((!((s3 != 0) && ((v12.2 != s3) || (v12.1 != 0)))) && (s3 == 0)) && (!(v12.2 != 0))) = true → (r15 x1 x2 x3 x4 x5 x6 x7 x8 (x0.getD s2.toNat default)).isSome = true then
    if (((s3 != 0) && ((v12.2 != s3) || (v12.1 != 0))) || ((s3 == 0) && ((v12.2 != 0) || (v12.1 != ((r15 x1 x2 x3 x4 x5 x6 x7 x8 (x0.getD s2.toNat default)).getD default))))) = true then
     .out (some false)
     else .next (IntKind.i64.wrap (s2 + 1))
    else .out none
   else .out none
def j3_5 (x1 : List (Int × Int × Int × Int)) (x2 : List (Int × Int × Int × Int × Int)) (x3 : List (Int × Int × Int)) (x4 : List (Int × Int)) (x5 : Int) (x6 : Int) (x7 : Int) (x8 : Int) (x9 : Int) (x10 : Int) (x11 : Int) (x12 : Int) (x13 : Int) (x14 : Int) (x15 : Int) (x0 : List ((List (Int)))) (x16 : Int) (x17 : Int) (v8 : (List (Int)) × Int) : (Int) → Option (Bool) := fun s5 =>
  if (s5 != 0) = true then
   some ((v8.2 == s5) && ((v8.1.length : Int) == 0))
   else if (v8.2 == 0) = true → (r19 x1 x2 x3 x4 x5 x6 x7 x8 x9 x10 x11 x12 x13 x14 x15 x0 x16 x17).isSome = true then
    if (v8.2 == 0) = true → (r18 v8.1 ((r19 x1 x2 x3 x4 x5 x6 x7 x8 x9 x10 x11 x12 x13 x14 x15 x0 x16 x17).getD default)).isSome = true then
     some ((v8.2 == 0) && ((r18 v8.1 ((r19 x1 x2 x3 x4 x5 x6 x7 x8 x9 x10 x11 x12 x13 x14 x15 x0 x16 x17).getD default)).getD default))
     else none
    else none
def j3_4 (x1 : List (Int × Int × Int × Int)) (x2 : List (Int × Int × Int × Int × Int)) (x3 : List (Int × Int × Int)) (x4 : List (Int × Int)) (x5 : Int) (x6 : Int) (x7 : Int) (x8 : Int) (x9 : Int) (x10 : Int) (x11 : Int) (x12 : Int) (x13 : Int) (x14 : Int) (x15 : Int) (x0 : List ((List (Int)))) (x16 : Int) (x17 : Int) (v8 : (List (Int)) × Int) : (Int) → Option (Bool) := fun s4 =>
  if (s4 == 0) = true then
   (r17 x0 x16 x17).bind fun v20 =>
    j3_5 x1 x2 x3 x4 x5 x6 x7 x8 x9 x10 x11 x12 x13 x14 x15 x0 x16 x17 v8 v20
   else j3_5 x1 x2 x3 x4 x5 x6 x7 x8 x9 x10 x11 x12 x13 x14 x15 x0 x16 x17 v8 s4
def b3_2 (x1 : List (Int × Int × Int × Int)) (x2 : List (Int × Int × Int × Int × Int)) (x3 : List (Int × Int × Int)) (x4 : List (Int × Int)) (x5 : Int) (x6 : Int) (x7 : Int) (x8 : Int) (x9 : Int) (x10 : Int) (x11 : Int) (x12 : Int) (x13 : Int) (x14 : Int) (x15 : Int) (x0 : List ((List (Int)))) (x16 : Int) (x17 : Int) (v8 : (List (Int)) × Int) (v9 : Int) : (Int) → Ctl (Int) (Bool) := fun s2 =>
  if (decide (s2 < (x0.length : Int))) = true then
   bindC (r9 x1 x2 x3 x4 x5 x6 x7 x8) fun v10 =>
    if 0 ≤ s2 ∧ s2 < (x0.length : Int) then
     bindC (r13 (x0.getD s2.toNat default)) fun v11 =>
      bindC (r12 v10.1 v10.2.1 v10.2.2.1 v10.2.2.2.1 v10.2.2.2.2.1 v10.2.2.2.2.2.1 v10.2.2.2.2.2.2.1 v10.2.2.2.2.2.2.2 v11) fun v12 =>
       if (v9 == 0) = true then
        if 0 ≤ s2 ∧ s2 < (x0.length : Int) then
         bindC (r14 (x0.getD s2.toNat default)) fun v15 =>
          j3_3 x1 x2 x3 x4 x5 x6 x7 x8 x0 s2 v12 v15
         else .out none
        else j3_3 x1 x2 x3 x4 x5 x6 x7 x8 x0 s2 v12 v9
     else .out none
   else .out (if (v9 == 0) = true then
    (r16 x9 x10 x11 x12 x13 x14 x15).bind fun v21 =>
     j3_4 x1 x2 x3 x4 x5 x6 x7 x8 x9 x10 x11 x12 x13 x14 x15 x0 x16 x17 v8 v21
    else j3_4 x1 x2 x3 x4 x5 x6 x7 x8 x9 x10 x11 x12 x13 x14 x15 x0 x16 x17 v8 v9)
def b3_1 (x1 : List (Int × Int × Int × Int)) (x2 : List (Int × Int × Int × Int × Int)) (x3 : List (Int × Int × Int)) (x4 : List (Int × Int)) (x5 : Int) (x6 : Int) (x7 : Int) (x8 : Int) (x9 : Int) (x10 : Int) (x11 : Int) (x12 : Int) (x13 : Int) (x14 : Int) (x15 : Int) (x0 : List ((List (Int)))) (x16 : Int) (x17 : Int) : (Int) → Ctl (Int) (Bool) := fun s1 =>
  if (decide (s1 < (x0.length : Int))) = true then
   if 0 ≤ s1 ∧ s1 < (x0.length : Int) then
    if (decide (((x0.getD s1.toNat default).length : Int) > 20)) = true → 0 ≤ s1 ∧ s1 < (x0.length : Int) then
     if ((decide (((x0.getD s1.toNat default).length : Int) > 20)) && (!(decide (((x0.getD s1.toNat default).length : Int) ≤ 200)))) = true → 0 ≤ s1 ∧ s1 < (x0.length : Int) then
      if ((decide (((x0.getD s1.toNat default).length : Int) > 20)) && ((decide (((x0.getD s1.toNat default).length : Int) ≤ 200)) || (decide (((x0.getD s1.toNat default).length : Int) > 202)))) = true then
       .out (some true)
       else .next (IntKind.i64.wrap (s1 + 1))
      else .out none
     else .out none
    else .out none
   else .out ((r9 x1 x2 x3 x4 x5 x6 x7 x8).bind fun v6 =>
    (r10 x0 x16 x17).bind fun v7 =>
     (r8 v6.1 v6.2.1 v6.2.2.1 v6.2.2.2.1 v6.2.2.2.2.1 v6.2.2.2.2.2.1 v6.2.2.2.2.2.2.1 v6.2.2.2.2.2.2.2 x9 x10 x11 x12 x13 x14 x15 v7.1 v7.2.1 v7.2.2).bind fun v8 =>
      (r11 x1 x2 x3 x4 x5 x6 x7 x8).bind fun v9 =>
       iterC (b3_2 x1 x2 x3 x4 x5 x6 x7 x8 x9 x10 x11 x12 x13 x14 x15 x0 x16 x17 v8 v9) 1000000000 0)
def r3 (x1 : List (Int × Int × Int × Int)) (x2 : List (Int × Int × Int × Int × Int)) (x3 : List (Int × Int × Int)) (x4 : List (Int × Int)) (x5 : Int) (x6 : Int) (x7 : Int) (x8 : Int) (x9 : Int) (x10 : Int) (x11 : Int) (x12 : Int) (x13 : Int) (x14 : Int) (x15 : Int) (x0 : List ((List (Int)))) (x16 : Int) (x17 : Int) : Option (Bool) :=
  (r6).bind fun v1 =>
   if (!v1) = true then
    some false
    else (r7 x1 x2 x3 x4 x5 x6 x7 x8).bind fun v2 =>
     if (((!v2) || ((decide ((x0.length : Int) > 6)) && (decide ((x0.length : Int) ≤ 12)))) || (decide ((x0.length : Int) > 14))) = true then
      some true
      else iterC (b3_1 x1 x2 x3 x4 x5 x6 x7 x8 x9 x10 x11 x12 x13 x14 x15 x0 x16 x17) 1000000000 0
def T3 : TSpec qA47 := mkT qE47 qd47 (fun ⟨x1, x2, x3, x4, x5, x6, x7, x8, x9, x10, x11, x12, x13, x14, x15, x0, x16, x17⟩ => r3 x1 x2 x3 x4 x5 x6 x7 x8 x9 x10 x11 x12 x13 x14 x15 x0 x16 x17) qu3 false
theorem TP3 (c0 c1 c2 c3 c4 c5 c6 c7 c8 c9 c10 c11 c12 c13 c14 c15 c16 c17 : D) : T3.sp.pre [.agg [c0, c1, c2, c3, c4, c5, c6, c7], .agg [c8, c9, c10, c11, c12, c13, c14], .agg [c15, c16, c17]] = (eqvArgs (qt47 c0 c1 c2 c3 c4 c5 c6 c7 c8 c9 c10 c11 c12 c13 c14 c15 c16 c17) (qp47 qw47 c0 c1 c2 c3 c4 c5 c6 c7 c8 c9 c10 c11 c12 c13 c14 c15 c16 c17) ∧ (qp47 r3 c0 c1 c2 c3 c4 c5 c6 c7 c8 c9 c10 c11 c12 c13 c14 c15 c16 c17).isSome = true) := (rfl)
theorem TR3 (c0 c1 c2 c3 c4 c5 c6 c7 c8 c9 c10 c11 c12 c13 c14 c15 c16 c17 : D) : T3.sp.res [.agg [c0, c1, c2, c3, c4, c5, c6, c7], .agg [c8, c9, c10, c11, c12, c13, c14], .agg [c15, c16, c17]] = qu3 ((qp47 r3 c0 c1 c2 c3 c4 c5 c6 c7 c8 c9 c10 c11 c12 c13 c14 c15 c16 c17).getD default) := (rfl)
theorem TA3 : T3.sp.alias = false := (rfl)
def tb3 : Fns := lk [(6, T6.sp), (7, T7.sp), (8, T8.sp), (9, T9.sp), (10, T10.sp), (11, T11.sp), (12, T12.sp), (13, T13.sp), (14, T14.sp), (15, T15.sp), (16, T16.sp), (17, T17.sp), (18, T18.sp), (19, T19.sp)]
theorem tb3_ok : FnsOk Tryz.prog tb3 := .cons f6 (.cons f7 (.cons f8 (.cons f9 (.cons f10 (.cons f11 (.cons f12 (.cons f13 (.cons f14 (.cons f15 (.cons f16 (.cons f17 (.cons f18 (.cons f19 (FnsOk.nil))))))))))))))
theorem tb3_6 : tb3 6 = some T6.sp := rfl
theorem tb3_7 : tb3 7 = some T7.sp := rfl
theorem tb3_8 : tb3 8 = some T8.sp := rfl
theorem tb3_9 : tb3 9 = some T9.sp := rfl
theorem tb3_10 : tb3 10 = some T10.sp := rfl
theorem tb3_11 : tb3 11 = some T11.sp := rfl
theorem tb3_12 : tb3 12 = some T12.sp := rfl
theorem tb3_13 : tb3 13 = some T13.sp := rfl
theorem tb3_14 : tb3 14 = some T14.sp := rfl
theorem tb3_15 : tb3 15 = some T15.sp := rfl
theorem tb3_16 : tb3 16 = some T16.sp := rfl
theorem tb3_17 : tb3 17 = some T17.sp := rfl
theorem tb3_18 : tb3 18 = some T18.sp := rfl
theorem tb3_19 : tb3 19 = some T19.sp := rfl
attribute [go_sem] TP3 TR3 TA3
section
attribute [local go_sem] T3 tb3_6 tb3_7 tb3_8 tb3_9 tb3_10 tb3_11 tb3_12 tb3_13 tb3_14 tb3_15 tb3_16 tb3_17 tb3_18 tb3_19 Tryz.results3
theorem v3 : Valid Tryz.prog 3 T3.sp := by
 refine valid_t (fn := Tryz.f3) (n := 167) ty_ok tb3_ok Tryz.func3 rfl Tryz.ntmps3 ?_
 rintro ⟨x1, x2, x3, x4, x5, x6, x7, x8, x9, x10, x11, x12, x13, x14, x15, x0, x16, x17⟩ hx
 obtain ⟨r, hr⟩ := oE (show (r3 x1 x2 x3 x4 x5 x6 x7 x8 x9 x10 x11 x12 x13 x14 x15 x0 x16 x17).isSome = true from hx)
 have hres : T3.res (x1, x2, x3, x4, x5, x6, x7, x8, x9, x10, x11, x12, x13, x14, x15, x0, x16, x17) = qu3 r := by simp only [T3, mkT, hr, oG]
 refine ⟨nL rfl, fun stop S => ?_⟩
 rw [hres] at S
 unfold r3 at hr
 refine S.gx [4, 7, 9, 14, 19, 20, 23, 25] ?_
 obtain ⟨v1, hv1, hr⟩ := of_bind0 hr
 try simp only [hv1, oG, oI, true_and, and_assoc]
 repeat refine gA ?_
 refine ⟨?_, ?_⟩ <;> intro hc
 ·have hr := ifP hr hc
  repeat refine gA ?_
  cases hr
  exact lf
 ·have hr := ifN hr hc
  obtain ⟨v2, hv2, hr⟩ := of_bind0 hr
  try simp only [hv2, oG, oI, true_and, and_assoc]
  repeat (first | refine gA ?_ | refine gB ?_)
  refine ⟨?_, ?_⟩ <;> intro hc
  ·have hr := ifP hr hc
   repeat refine gA ?_
   refine S.prune [] ?_
   refine S.gx [7, 9, 14, 19, 20, 23, 25] ?_
   repeat refine gA ?_
   cases hr
   exact lf
  ·have hr := ifN hr hc
   repeat refine gA ?_
   refine S.sees [3, 4, 5, 7] [(3, 3), (4, 4), (5, 5)] [] ?_ (Stop.iter S (fun s1 => ⟨[(3, .c (.ref 3 0)), (4, .c (.ref 4 0)), (5, .c (.ref 5 0)), (7, .c (.d (.int .i64 s1)))], [(3, [.d (encF 4 d_IIII x1), .d (encF 5 d_IIIII x2), .d (encF 3 d_III x3), .d (encF 2 d_II x4), .d (.int .i64 x5), .d (.int .i64 x6), .d (.int .i64 x7), .d (.int .i64 x8)]), (4, [.d (.int .i64 x9), .d (.int .i64 x10), .d (.int .i64 x11), .d (.int .i64 x12), .d (.int .i64 x13), .d (.int .i64 x14), .d (.int .i64 x15)]), (5, [.d (encF 1 d_LIE x0), .d (.int .i64 x16), .d (.int .i64 x17)])], []⟩) (b3_1 x1 x2 x3 x4 x5 x6 x7 x8 x9 x10 x11 x12 x13 x14 x15 x0 x16 x17) (fun q => q = r) hr rfl ?_)
   ·exact lf
   ·intro s1 hr
    unfold b3_1 at hr
    refine S.gx [4, 7, 9, 14, 19, 20, 23, 25] ?_
    repeat refine gA ?_
    refine ⟨?_, ?_⟩ <;> intro hc
    ·have hr := ifP1 hr hc
     obtain ⟨hg3, hr⟩ := of_guard1 hr
     obtain ⟨hg4, hr⟩ := of_guard1 hr
     obtain ⟨hg5, hr⟩ := of_guard1 hr
     repeat (first | refine gG hg4 ?_ | refine gG hg5 ?_ | refine gA ?_ | refine gB ?_)
     refine ⟨?_, ?_⟩ <;> intro hc
     ·have hr := ifP1 hr hc
      repeat refine gA ?_
      refine S.prune [] ?_
      refine S.gx [4, 7, 14, 19, 20, 23, 25] ?_
      repeat refine gA ?_
      have hr := of_out0 hr
      cases hr
      exact lf
     ·have hr := ifN1 hr hc
      repeat refine gA ?_
      refine S.prune [3, 4, 5, 7] ?_
      refine S.gx [4, 9, 14, 19, 20, 23, 25] ?_
      repeat refine gA ?_
      refine S.sees [3, 4, 5, 7] [(3, 3), (4, 4), (5, 5)] [] ?_ hr
      exact lf
    ·have hr := ifN1 hr hc
     repeat refine gA ?_
     have hr := of_out0 hr
     obtain ⟨v6, hv6, hr⟩ := of_bind0 hr
     obtain ⟨v7, hv7, hr⟩ := of_bind0 hr
     obtain ⟨v8, hv8, hr⟩ := of_bind0 hr
     obtain ⟨v9, hv9, hr⟩ := of_bind0 hr
     try simp only [hv6, hv7, hv8, hv9, Option.getD_some, Option.isSome_some, true_and, and_assoc]
     repeat refine gA ?_
     refine S.sees [3, 4, 5, 8, 9, 10, 11] [(3, 3), (4, 4), (5, 5)] [(76, 76)] ?_ (Stop.iter S (fun s2 => ⟨[(3, .c (.ref 3 0)), (4, .c (.ref 4 0)), (5, .c (.ref 5 0)), (8, .c (.own 76)), (9, .c (.d (.int .i64 v8.2))), (10, .c (.d (.int .i64 v9))), (11, .c (.d (.int .i64 s2)))], [(3, [.d (encF 4 d_IIII x1), .d (encF 5 d_IIIII x2), .d (encF 3 d_III x3), .d (encF 2 d_II x4), .d (.int .i64 x5), .d (.int .i64 x6), .d (.int .i64 x7), .d (.int .i64 x8)]), (4, [.d (.int .i64 x9), .d (.int .i64 x10), .d (.int .i64 x11), .d (.int .i64 x12), .d (.int .i64 x13), .d (.int .i64 x14), .d (.int .i64 x15)]), (5, [.d (encF 1 d_LIE x0), .d (.int .i64 x16), .d (.int .i64 x17)])], [(76, .owned (encF 1 d_I v8.1))]⟩) (b3_2 x1 x2 x3 x4 x5 x6 x7 x8 x9 x10 x11 x12 x13 x14 x15 x0 x16 x17 v8 v9) (fun q => q = r) hr rfl ?_)
     ·exact lf
     ·intro s2 hr
      unfold b3_2 at hr
      refine S.gx [4, 7, 9, 14, 19, 20, 23, 25] ?_
      repeat refine gA ?_
      refine ⟨?_, ?_⟩ <;> intro hc
      ·have hr := ifP1 hr hc
       obtain ⟨v10, hv10, hr⟩ := of_bind1 hr
       obtain ⟨hg17, hr⟩ := of_guard1 hr
       obtain ⟨v11, hv11, hr⟩ := of_bind1 hr
       obtain ⟨v12, hv12, hr⟩ := of_bind1 hr
       try simp only [hv10, hv11, hv12, Option.getD_some, Option.isSome_some, true_and, and_assoc]
       repeat refine gA ?_
       apply stop_join3 (stop := stop) (fun s3 => ⟨[(3, .c (.ref 3 0)), (4, .c (.ref 4 0)), (5, .c (.ref 5 0)), (8, .c (.own 76)), (9, .c (.d (.int .i64 v8.2))), (10, .c (.d (.int .i64 v9))), (11, .c (.d (.int .i64 s2))), (12, .c (.d (.int .i64 v12.1))), (13, .c (.d (.int .i64 v12.2))), (14, .c (.d (.int .i64 s3)))], [(3, [.d (encF 4 d_IIII x1), .d (encF 5 d_IIIII x2), .d (encF 3 d_III x3), .d (encF 2 d_II x4), .d (.int .i64 x5), .d (.int .i64 x6), .d (.int .i64 x7), .d (.int .i64 x8)]), (4, [.d (.int .i64 x9), .d (.int .i64 x10), .d (.int .i64 x11), .d (.int .i64 x12), .d (.int .i64 x13), .d (.int .i64 x14), .d (.int .i64 x15)]), (5, [.d (encF 1 d_LIE x0), .d (.int .i64 x16), .d (.int .i64 x17)])], [(76, .owned (encF 1 d_I v8.1))]⟩) (fun s3 => goodC _ _ (j3_3 x1 x2 x3 x4 x5 x6 x7 x8 x0 s2 v12 s3))
       ·intro J3
        refine ⟨?_, ?_⟩ <;> intro hc
        ·have hr := ifP1 hr hc
         obtain ⟨hg16, hr⟩ := of_guard1 hr
         obtain ⟨v15, hv15, hr⟩ := of_bind1 hr
         try simp only [hv15, oG, oI, true_and, and_assoc]
         repeat refine gA ?_
         refine S.sees [3, 4, 5, 8, 9, 10, 11, 12, 13, 14] [(3, 3), (4, 4), (5, 5)] [(76, 76)] ?_ (J3 _ hr)
         exact lf
        ·have hr := ifN1 hr hc
         repeat refine gA ?_
         refine S.sees [3, 4, 5, 8, 9, 10, 11, 12, 13, 14] [(3, 3), (4, 4), (5, 5)] [(76, 76)] ?_ (J3 _ hr)
         exact lf
       ·intro s3 hr
        unfold j3_3 at hr
        refine S.gx [4, 7, 9, 14, 19, 20, 23, 25] ?_
        repeat refine gA ?_
        refine S.gx [4, 7, 9, 14, 20, 23, 25] ?_
        obtain ⟨hg13, hr⟩ := of_guard1 hr
        obtain ⟨hg14, hr⟩ := of_guard1 hr
        repeat (first | refine gG hg13 ?_ | refine gG hg14 ?_ | refine gA ?_ | refine gB ?_)
        repeat refine gA ?_
        refine ⟨?_, ?_⟩ <;> intro hc
        ·have hr := ifP1 hr hc
         repeat refine gA ?_
         refine S.prune [] ?_
         refine S.gx [4, 7, 9, 14, 19, 23, 25] ?_
         repeat refine gA ?_
         have hr := of_out0 hr
         cases hr
         exact lf
        ·have hr := ifN1 hr hc
         repeat refine gA ?_
         refine S.prune [3, 4, 5, 8, 9, 10, 11] ?_
         refine S.gx [4, 7, 9, 19, 20, 23, 25] ?_
         repeat refine gA ?_
         refine S.sees [3, 4, 5, 8, 9, 10, 11] [(3, 3), (4, 4), (5, 5)] [(76, 76)] ?_ hr
         exact lf
      ·have hr := ifN1 hr hc
       repeat refine gA ?_
       have hr := of_out0 hr
       repeat refine gA ?_
       apply stop_join3 (stop := stop) (fun s4 => ⟨[(3, .c (.ref 3 0)), (4, .c (.ref 4 0)), (5, .c (.ref 5 0)), (8, .c (.own 76)), (9, .c (.d (.int .i64 v8.2))), (10, .c (.d (.int .i64 s4)))], [(3, [.d (encF 4 d_IIII x1), .d (encF 5 d_IIIII x2), .d (encF 3 d_III x3), .d (encF 2 d_II x4), .d (.int .i64 x5), .d (.int .i64 x6), .d (.int .i64 x7), .d (.int .i64 x8)]), (4, [.d (.int .i64 x9), .d (.int .i64 x10), .d (.int .i64 x11), .d (.int .i64 x12), .d (.int .i64 x13), .d (.int .i64 x14), .d (.int .i64 x15)]), (5, [.d (encF 1 d_LIE x0), .d (.int .i64 x16), .d (.int .i64 x17)])], [(76, .owned (encF 1 d_I v8.1))]⟩) (fun s4 => j3_4 x1 x2 x3 x4 x5 x6 x7 x8 x9 x10 x11 x12 x13 x14 x15 x0 x16 x17 v8 s4 = some r)
       ·intro J4
        refine ⟨?_, ?_⟩ <;> intro hc
        ·have hr := ifP hr hc
         obtain ⟨v21, hv21, hr⟩ := of_bind0 hr
         try simp only [hv21, oG, oI, true_and, and_assoc]
         repeat refine gA ?_
         refine S.sees [3, 4, 5, 8, 9, 10] [(3, 3), (4, 4), (5, 5)] [(76, 76)] ?_ (J4 _ hr)
         exact lf
        ·have hr := ifN hr hc
         repeat refine gA ?_
         refine S.sees [3, 4, 5, 8, 9, 10] [(3, 3), (4, 4), (5, 5)] [(76, 76)] ?_ (J4 _ hr)
         exact lf
       ·intro s4 hr
        unfold j3_4 at hr
        refine S.gx [4, 7, 9, 14, 19, 20, 23, 25] ?_
        repeat refine gA ?_
        refine S.gx [4, 7, 9, 14, 19, 20, 25] ?_
        repeat refine gA ?_
        apply stop_join3 (stop := stop) (fun s5 => ⟨[(3, .c (.ref 3 0)), (4, .c (.ref 4 0)), (5, .c (.ref 5 0)), (8, .c (.own 76)), (9, .c (.d (.int .i64 v8.2))), (10, .c (.d (.int .i64 s5)))], [(3, [.d (encF 4 d_IIII x1), .d (encF 5 d_IIIII x2), .d (encF 3 d_III x3), .d (encF 2 d_II x4), .d (.int .i64 x5), .d (.int .i64 x6), .d (.int .i64 x7), .d (.int .i64 x8)]), (4, [.d (.int .i64 x9), .d (.int .i64 x10), .d (.int .i64 x11), .d (.int .i64 x12), .d (.int .i64 x13), .d (.int .i64 x14), .d (.int .i64 x15)]), (5, [.d (encF 1 d_LIE x0), .d (.int .i64 x16), .d (.int .i64 x17)])], [(76, .owned (encF 1 d_I v8.1))]⟩) (fun s5 => j3_5 x1 x2 x3 x4 x5 x6 x7 x8 x9 x10 x11 x12 x13 x14 x15 x0 x16 x17 v8 s5 = some r)
        ·intro J5
         refine ⟨?_, ?_⟩ <;> intro hc
         ·have hr := ifP hr hc
          obtain ⟨v20, hv20, hr⟩ := of_bind0 hr
          try simp only [hv20, oG, oI, true_and, and_assoc]
          repeat refine gA ?_
          refine S.sees [3, 4, 5, 8, 9, 10] [(3, 3), (4, 4), (5, 5)] [(76, 76)] ?_ (J5 _ hr)
          exact lf
         ·have hr := ifN hr hc
          repeat refine gA ?_
          refine S.sees [3, 4, 5, 8, 9, 10] [(3, 3), (4, 4), (5, 5)] [(76, 76)] ?_ (J5 _ hr)
          exact lf
        ·intro s5 hr
         unfold j3_5 at hr
         refine S.gx [4, 7, 9, 14, 19, 20, 23, 25] ?_
         repeat refine gA ?_
         refine S.gx [4, 7, 9, 14, 19, 20, 23] ?_
         repeat refine gA ?_
         refine ⟨?_, ?_⟩ <;> intro hc
         ·have hr := ifP hr hc
          repeat (first | refine gA ?_ | refine gB ?_)
          cases hr
          exact lf
         ·have hr := ifN hr hc
          obtain ⟨hg18, hr⟩ := of_guard0 hr
          obtain ⟨hg19, hr⟩ := of_guard0 hr
          repeat (first | refine gG hg18 ?_ | refine gG hg19 ?_ | refine gA ?_ | refine gB ?_)
          cases hr
          exact lf
theorem f3 : FnFact Tryz.prog 3 T3.sp := ⟨⟨Tryz.f3, Tryz.func3, by decide, rfl⟩, v3⟩
end
end Go.Proofs.YtfkmbdfajpdjjaaGreatDoor

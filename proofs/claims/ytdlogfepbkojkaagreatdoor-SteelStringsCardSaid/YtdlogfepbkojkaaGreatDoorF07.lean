/- Contracts of functions, written by wip/dec. -/
import Derived.Test.YtdlogfepbkojkaaGreatDoorF00
import Derived.Test.YtdlogfepbkojkaaGreatDoorF04
import Derived.Test.YtdlogfepbkojkaaGreatDoorF05
import Derived.Test.YtdlogfepbkojkaaGreatDoorF06
set_option linter.unusedVariables false
set_option linter.unusedSimpArgs false
set_option maxHeartbeats 4000000
set_option maxRecDepth 20000
namespace Go.Proofs.YtdlogfepbkojkaaGreatDoor
open Go.Abs
abbrev qA37 := (List (Int × Int × Int × Int)) × (List (Int × Int × Int × Int × Int)) × (List (Int × Int × Int)) × (List (Int × Int)) × Int × Int × Int × Int × Int × Int × Int × Int × Int × Int × Int × ByteArray
def qw37 (a0 : List (Int × Int × Int × Int)) (a1 : List (Int × Int × Int × Int × Int)) (a2 : List (Int × Int × Int)) (a3 : List (Int × Int)) (a4 : Int) (a5 : Int) (a6 : Int) (a7 : Int) (a8 : Int) (a9 : Int) (a10 : Int) (a11 : Int) (a12 : Int) (a13 : Int) (a14 : Int) (a15 : ByteArray) : List Arg := [.agg [encF 4 d_IIII a0, encF 5 d_IIIII a1, encF 3 d_III a2, encF 2 d_II a3, .int .i64 a4, .int .i64 a5, .int .i64 a6, .int .i64 a7], .agg [.int .i64 a8, .int .i64 a9, .int .i64 a10, .int .i64 a11, .int .i64 a12, .int .i64 a13, .int .i64 a14], .c (.str a15)]
def qE37 : qA37 → List Arg := fun ⟨a0, a1, a2, a3, a4, a5, a6, a7, a8, a9, a10, a11, a12, a13, a14, a15⟩ => qw37 a0 a1 a2 a3 a4 a5 a6 a7 a8 a9 a10 a11 a12 a13 a14 a15
def qd37 (a : List Arg) : qA37 := (decF g_IIII (aCell a 0 0), decF g_IIIII (aCell a 0 1), decF g_III (aCell a 0 2), decF g_II (aCell a 0 3), dInt (aCell a 0 4), dInt (aCell a 0 5), dInt (aCell a 0 6), dInt (aCell a 0 7), dInt (aCell a 1 0), dInt (aCell a 1 1), dInt (aCell a 1 2), dInt (aCell a 1 3), dInt (aCell a 1 4), dInt (aCell a 1 5), dInt (aCell a 1 6), dStr (aCell a 2 0))
def qp37 {β : Type} (f : (List (Int × Int × Int × Int)) → (List (Int × Int × Int × Int × Int)) → (List (Int × Int × Int)) → (List (Int × Int)) → Int → Int → Int → Int → Int → Int → Int → Int → Int → Int → Int → ByteArray → β) (c0 c1 c2 c3 c4 c5 c6 c7 c8 c9 c10 c11 c12 c13 c14 c15 : D) : β := f (decF g_IIII c0) (decF g_IIIII c1) (decF g_III c2) (decF g_II c3) (dInt c4) (dInt c5) (dInt c6) (dInt c7) (dInt c8) (dInt c9) (dInt c10) (dInt c11) (dInt c12) (dInt c13) (dInt c14) (dStr c15)
def qt37 (c0 c1 c2 c3 c4 c5 c6 c7 c8 c9 c10 c11 c12 c13 c14 c15 : D) : List Arg := [.agg [c0, c1, c2, c3, c4, c5, c6, c7], .agg [c8, c9, c10, c11, c12, c13, c14], .c c15]
attribute [go_sem] qw37 qp37 qt37 qE37
/- martensite/martensitelaw04.SteelStrings -/
def r3 (x7 : List (Int × Int × Int × Int)) (x8 : List (Int × Int × Int × Int × Int)) (x9 : List (Int × Int × Int)) (x10 : List (Int × Int)) (x11 : Int) (x12 : Int) (x13 : Int) (x14 : Int) (x0 : Int) (x1 : Int) (x2 : Int) (x3 : Int) (x4 : Int) (x5 : Int) (x6 : Int) (a2 : ByteArray) : Option (Bool) :=
  (r4).bind fun v1 =>
   if (!v1) = true then
    some false
    else (r5 x7 x8 x9 x10 x11 x12 x13 x14).bind fun v2 =>
     if ((!v2) || (decide ((a2.size : Int) > 200))) = true then
      some true
      else (r7 x7 x8 x9 x10 x11 x12 x13 x14).bind fun v3 =>
       (r6 v3.1 v3.2.1 v3.2.2.1 v3.2.2.2.1 v3.2.2.2.2.1 v3.2.2.2.2.2.1 v3.2.2.2.2.2.2.1 v3.2.2.2.2.2.2.2).bind fun v4 =>
        (r8 x0 x1 x2 x3 x4 x5 x6).bind fun v5 =>
         (r9 a2).bind fun v6 =>
          (r10 a2).bind fun v7 =>
           (r11 a2).bind fun v8 =>
            (r12 a2).bind fun v9 =>
             (r13 x7 x8 x9 x10 x11 x12 x13 x14).bind fun v10 =>
              if (!(!(decide (v4 = v10)))) = true → (r14 x0 x1 x2 x3 x4 x5 x6).isSome = true then
               if (!(((!(decide (v4 = v10))) || (!(decide (v5 = ((r14 x0 x1 x2 x3 x4 x5 x6).getD default))))) || (v6.2.2.2.2.2.2.2.2 != v8.2.2.2.2.2.2.2.2))) = true → (r15 v6.1 v6.2.1 v6.2.2.1 v6.2.2.2.1 v6.2.2.2.2.1 v6.2.2.2.2.2.1 v6.2.2.2.2.2.2.1 v6.2.2.2.2.2.2.2.1 v8.1 v8.2.1 v8.2.2.1 v8.2.2.2.1 v8.2.2.2.2.1 v8.2.2.2.2.2.1 v8.2.2.2.2.2.2.1 v8.2.2.2.2.2.2.2.1).isSome = true then
                if ((((((!(decide (v4 = v10))) || (!(decide (v5 = ((r14 x0 x1 x2 x3 x4 x5 x6).getD default))))) || (v6.2.2.2.2.2.2.2.2 != v8.2.2.2.2.2.2.2.2)) || (!((r15 v6.1 v6.2.1 v6.2.2.1 v6.2.2.2.1 v6.2.2.2.2.1 v6.2.2.2.2.2.1 v6.2.2.2.2.2.2.1 v6.2.2.2.2.2.2.2.1 v8.1 v8.2.1 v8.2.2.1 v8.2.2.2.1 v8.2.2.2.2.1 v8.2.2.2.2.2.1 v8.2.2.2.2.2.2.1 v8.2.2.2.2.2.2.2.1).getD default))) || (v7.2.2.2.2.2.2.2 != v9.2.2.2.2.2.2.2)) || (!((v7.1 == v9.1) && ((v7.2.1 == v9.2.1) && ((v7.2.2.1 == v9.2.2.1) && ((v7.2.2.2.1 == v9.2.2.2.1) && ((v7.2.2.2.2.1 == v9.2.2.2.2.1) && ((v7.2.2.2.2.2.1 == v9.2.2.2.2.2.1) && (v7.2.2.2.2.2.2.1 == v9.2.2.2.2.2.2.1))))))))) = true then
                 some false
                 else (r16 x7 x8 x9 x10 x11 x12 x13 x14).bind fun v11 =>
                  if (v11 == 0) = true then
                   (r9 v4).bind fun v12 =>
                    if (!(v12.2.2.2.2.2.2.2.2 != 0)) = true → (r15 v12.1 v12.2.1 v12.2.2.1 v12.2.2.2.1 v12.2.2.2.2.1 v12.2.2.2.2.2.1 v12.2.2.2.2.2.2.1 v12.2.2.2.2.2.2.2.1 x7 x8 x9 x10 x11 x12 x13 x14).isSome = true then
                     if ((v12.2.2.2.2.2.2.2.2 != 0) || (!((r15 v12.1 v12.2.1 v12.2.2.1 v12.2.2.2.1 v12.2.2.2.2.1 v12.2.2.2.2.2.1 v12.2.2.2.2.2.2.1 v12.2.2.2.2.2.2.2.1 x7 x8 x9 x10 x11 x12 x13 x14).getD default))) = true then
                      some false
                      else (r17 x0 x1 x2 x3 x4 x5 x6).bind fun v13 =>
                       if (v13 != 0) = true then
                        some true
                        else (r10 v5).bind fun v14 =>
                         some ((v14.2.2.2.2.2.2.2 == 0) && ((v14.1 == x0) && ((v14.2.1 == x1) && ((v14.2.2.1 == x2) && ((v14.2.2.2.1 == x3) && ((v14.2.2.2.2.1 == x4) && ((v14.2.2.2.2.2.1 == x5) && (v14.2.2.2.2.2.2.1 == x6))))))))
                     else none
                   else (r17 x0 x1 x2 x3 x4 x5 x6).bind fun v16 =>
                    if (v16 != 0) = true then
                     some true
                     else (r10 v5).bind fun v17 =>
                      some ((v17.2.2.2.2.2.2.2 == 0) && ((v17.1 == x0) && ((v17.2.1 == x1) && ((v17.2.2.1 == x2) && ((v17.2.2.2.1 == x3) && ((v17.2.2.2.2.1 == x4) && ((v17.2.2.2.2.2.1 == x5) && (v17.2.2.2.2.2.2.1 == x6))))))))
                else none
               else none
def T3 : TSpec qA37 := mkT qE37 qd37 (fun ⟨x7, x8, x9, x10, x11, x12, x13, x14, x0, x1, x2, x3, x4, x5, x6, a2⟩ => r3 x7 x8 x9 x10 x11 x12 x13 x14 x0 x1 x2 x3 x4 x5 x6 a2) qu3 false
theorem TP3 (c0 c1 c2 c3 c4 c5 c6 c7 c8 c9 c10 c11 c12 c13 c14 c15 : D) : T3.sp.pre [.agg [c0, c1, c2, c3, c4, c5, c6, c7], .agg [c8, c9, c10, c11, c12, c13, c14], .c c15] = (eqvArgs (qt37 c0 c1 c2 c3 c4 c5 c6 c7 c8 c9 c10 c11 c12 c13 c14 c15) (qp37 qw37 c0 c1 c2 c3 c4 c5 c6 c7 c8 c9 c10 c11 c12 c13 c14 c15) ∧ (qp37 r3 c0 c1 c2 c3 c4 c5 c6 c7 c8 c9 c10 c11 c12 c13 c14 c15).isSome = true) := (rfl)
theorem TR3 (c0 c1 c2 c3 c4 c5 c6 c7 c8 c9 c10 c11 c12 c13 c14 c15 : D) : T3.sp.res [.agg [c0, c1, c2, c3, c4, c5, c6, c7], .agg [c8, c9, c10, c11, c12, c13, c14], .c c15] = qu3 ((qp37 r3 c0 c1 c2 c3 c4 c5 c6 c7 c8 c9 c10 c11 c12 c13 c14 c15).getD default) := (rfl)
theorem TA3 : T3.sp.alias = false := (rfl)
def tb3 : Fns := lk [(4, T4.sp), (5, T5.sp), (6, T6.sp), (7, T7.sp), (8, T8.sp), (9, T9.sp), (10, T10.sp), (11, T11.sp), (12, T12.sp), (13, T13.sp), (14, T14.sp), (15, T15.sp), (16, T16.sp), (17, T17.sp)]
theorem tb3_ok : FnsOk Tryz.prog tb3 := .cons f4 (.cons f5 (.cons f6 (.cons f7 (.cons f8 (.cons f9 (.cons f10 (.cons f11 (.cons f12 (.cons f13 (.cons f14 (.cons f15 (.cons f16 (.cons f17 (FnsOk.nil))))))))))))))
theorem tb3_4 : tb3 4 = some T4.sp := rfl
theorem tb3_5 : tb3 5 = some T5.sp := rfl
theorem tb3_6 : tb3 6 = some T6.sp := rfl
theorem tb3_7 : tb3 7 = some T7.sp := rfl
theorem tb3_8 : tb3 8 = some T8.sp := rfl
theorem tb3_9 : tb3 9 = some T9.sp := rfl
theorem tb3_10 : tb3 10 = some T10.sp := rfl
theorem tb3_11 : tb3 11 = some T11.sp := rfl
theorem tb3_12 : tb3 12 = some T12.sp := rfl
theorem tb3_13 : tb3 13 = some T13.sp := rfl
theorem tb3_14 : tb3 14 = some T14.sp := rfl
theorem tb3_15 : tb3 15 = some T15.sp := rfl
theorem tb3_16 : tb3 16 = some T16.sp := rfl
theorem tb3_17 : tb3 17 = some T17.sp := rfl
attribute [go_sem] TP3 TR3 TA3
section
attribute [local go_sem] T3 tb3_4 tb3_5 tb3_6 tb3_7 tb3_8 tb3_9 tb3_10 tb3_11 tb3_12 tb3_13 tb3_14 tb3_15 tb3_16 tb3_17 Tryz.results3
theorem v3 : Valid Tryz.prog 3 T3.sp := by
 refine valid_t (fn := Tryz.f3) (n := 118) ty_ok tb3_ok Tryz.func3 rfl Tryz.ntmps3 ?_
 rintro ⟨x7, x8, x9, x10, x11, x12, x13, x14, x0, x1, x2, x3, x4, x5, x6, a2⟩ hx
 obtain ⟨r, hr⟩ := oE (show (r3 x7 x8 x9 x10 x11 x12 x13 x14 x0 x1 x2 x3 x4 x5 x6 a2).isSome = true from hx)
 have hres : T3.res (x7, x8, x9, x10, x11, x12, x13, x14, x0, x1, x2, x3, x4, x5, x6, a2) = qu3 r := by simp only [T3, mkT, hr, oG]
 refine ⟨nL rfl, fun stop S => ?_⟩
 rw [hres] at S
 unfold r3 at hr
 refine S.gx [9, 11, 12] ?_
 obtain ⟨v1, hv1, hr⟩ := of_bind0 hr
 try simp only [hv1, oG, oI, true_and, and_assoc]
 repeat refine gA ?_
 refine ⟨?_, ?_⟩ <;> intro hc
 ·have hr := ifP hr hc
  repeat refine gA ?_
  cases hr
  exact lf
 ·have hr := ifN hr hc
  obtain ⟨v2, hv2, hr⟩ := of_bind0 hr
  try simp only [hv2, oG, oI, true_and, and_assoc]
  repeat (first | refine gA ?_ | refine gB ?_)
  refine ⟨?_, ?_⟩ <;> intro hc
  ·have hr := ifP hr hc
   repeat refine gA ?_
   cases hr
   exact lf
  ·have hr := ifN hr hc
   obtain ⟨v3, hv3, hr⟩ := of_bind0 hr
   obtain ⟨v4, hv4, hr⟩ := of_bind0 hr
   obtain ⟨v5, hv5, hr⟩ := of_bind0 hr
   obtain ⟨v6, hv6, hr⟩ := of_bind0 hr
   obtain ⟨v7, hv7, hr⟩ := of_bind0 hr
   obtain ⟨v8, hv8, hr⟩ := of_bind0 hr
   try simp only [hv3, hv4, hv5, hv6, hv7, hv8, Option.getD_some, Option.isSome_some, true_and, and_assoc]
   repeat refine gA ?_
   refine S.prune [2, 3, 4, 7, 8, 9, 10, 11, 12, 13, 14] ?_
   refine S.gx [11, 12] ?_
   obtain ⟨v9, hv9, hr⟩ := of_bind0 hr
   try simp only [hv9, oG, oI, true_and, and_assoc]
   repeat refine gA ?_
   obtain ⟨v10, hv10, hr⟩ := of_bind0 hr
   obtain ⟨hg18, hr⟩ := of_guard0 hr
   obtain ⟨hg19, hr⟩ := of_guard0 hr
   try simp only [hv10, oG, oI, true_and, and_assoc]
   repeat (first | refine gG hg18 ?_ | refine gG hg19 ?_ | refine gA ?_ | refine gB ?_)
   refine ⟨?_, ?_⟩ <;> intro hc
   ·have hr := ifP hr hc
    repeat refine gA ?_
    refine S.prune [] ?_
    refine S.gx [9, 12] ?_
    repeat refine gA ?_
    cases hr
    exact lf
   ·have hr := ifN hr hc
    repeat refine gA ?_
    refine S.prune [3, 4, 7, 8] ?_
    refine S.gx [9, 11] ?_
    obtain ⟨v11, hv11, hr⟩ := of_bind0 hr
    try simp only [hv11, oG, oI, true_and, and_assoc]
    repeat refine gA ?_
    refine ⟨?_, ?_⟩ <;> intro hc
    ·have hr := ifP hr hc
     obtain ⟨v12, hv12, hr⟩ := of_bind0 hr
     obtain ⟨hg15, hr⟩ := of_guard0 hr
     try simp only [hv12, oG, oI, true_and, and_assoc]
     repeat (first | refine gG hg15 ?_ | refine gA ?_ | refine gB ?_)
     refine ⟨?_, ?_⟩ <;> intro hc
     ·have hr := ifP hr hc
      repeat refine gA ?_
      cases hr
      exact lf
     ·have hr := ifN hr hc
      obtain ⟨v13, hv13, hr⟩ := of_bind0 hr
      try simp only [hv13, oG, oI, true_and, and_assoc]
      repeat refine gA ?_
      refine ⟨?_, ?_⟩ <;> intro hc
      ·have hr := ifP hr hc
       repeat refine gA ?_
       cases hr
       exact lf
      ·have hr := ifN hr hc
       obtain ⟨v14, hv14, hr⟩ := of_bind0 hr
       try simp only [hv14, oG, oI, true_and, and_assoc]
       repeat (first | refine gA ?_ | refine gB ?_)
       cases hr
       exact lf
    ·have hr := ifN hr hc
     obtain ⟨v16, hv16, hr⟩ := of_bind0 hr
     try simp only [hv16, oG, oI, true_and, and_assoc]
     repeat refine gA ?_
     refine ⟨?_, ?_⟩ <;> intro hc
     ·have hr := ifP hr hc
      repeat refine gA ?_
      cases hr
      exact lf
     ·have hr := ifN hr hc
      obtain ⟨v17, hv17, hr⟩ := of_bind0 hr
      try simp only [hv17, oG, oI, true_and, and_assoc]
      repeat (first | refine gA ?_ | refine gB ?_)
      cases hr
      exact lf
theorem f3 : FnFact Tryz.prog 3 T3.sp := ⟨⟨Tryz.f3, Tryz.func3, by decide, rfl⟩, v3⟩
end
end Go.Proofs.YtdlogfepbkojkaaGreatDoor

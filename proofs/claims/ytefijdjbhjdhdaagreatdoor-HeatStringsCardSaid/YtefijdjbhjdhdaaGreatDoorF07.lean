/- Contracts of functions, written by wip/dec. -/
import Derived.Test.YtefijdjbhjdhdaaGreatDoorF00
import Derived.Test.YtefijdjbhjdhdaaGreatDoorF04
import Derived.Test.YtefijdjbhjdhdaaGreatDoorF05
import Derived.Test.YtefijdjbhjdhdaaGreatDoorF06
set_option linter.unusedVariables false
set_option linter.unusedSimpArgs false
set_option maxHeartbeats 4000000
set_option maxRecDepth 20000
namespace Go.Proofs.YtefijdjbhjdhdaaGreatDoor
open Go.Abs
abbrev qA49 := Int × Int × (List (Int × Int)) × (List ((List (Int × Int)))) × ByteArray
def qw49 (a0 : Int) (a1 : Int) (a2 : List (Int × Int)) (a3 : List ((List (Int × Int)))) (a4 : ByteArray) : List Arg := [.agg [.int .i64 a0, .int .i64 a1, encF 2 d_II a2, encF 1 d_LIIE a3], .c (.str a4)]
def qE49 : qA49 → List Arg := fun ⟨a0, a1, a2, a3, a4⟩ => qw49 a0 a1 a2 a3 a4
def qd49 (a : List Arg) : qA49 := (dInt (aCell a 0 0), dInt (aCell a 0 1), decF g_II (aCell a 0 2), decF g_LIIE (aCell a 0 3), dStr (aCell a 1 0))
def qp49 {β : Type} (f : Int → Int → (List (Int × Int)) → (List ((List (Int × Int)))) → ByteArray → β) (c0 c1 c2 c3 c4 : D) : β := f (dInt c0) (dInt c1) (decF g_II c2) (decF g_LIIE c3) (dStr c4)
def qt49 (c0 c1 c2 c3 c4 : D) : List Arg := [.agg [c0, c1, c2, c3], .c c4]
attribute [go_sem] qw49 qp49 qt49 qE49
/- martensite/martensitelaw03.HeatStrings -/
def r3 (x0 : Int) (x1 : Int) (x2 : List (Int × Int)) (x3 : List ((List (Int × Int)))) (a1 : ByteArray) : Option (Bool) :=
  (r4).bind fun v1 =>
   if (!v1) = true then
    some false
    else (r5 x0 x1 x2 x3).bind fun v2 =>
     if ((!v2) || (decide ((a1.size : Int) > 200))) = true then
      some true
      else (r7 x0 x1 x2 x3).bind fun v3 =>
       (r6 v3.1 v3.2.1 v3.2.2.1 v3.2.2.2).bind fun v4 =>
        (r8 a1).bind fun v5 =>
         (r9 a1).bind fun v6 =>
          (r10 x0 x1 x2 x3).bind fun v7 =>
           if (!((!(decide (v4 = v7))) || (v5.2.2.2.2 != v6.2.2.2.2))) = true → (r11 v5.1 v5.2.1 v5.2.2.1 v5.2.2.2.1 v6.1 v6.2.1 v6.2.2.1 v6.2.2.2.1).isSome = true then
            if (((!(decide (v4 = v7))) || (v5.2.2.2.2 != v6.2.2.2.2)) || (!((r11 v5.1 v5.2.1 v5.2.2.1 v5.2.2.2.1 v6.1 v6.2.1 v6.2.2.1 v6.2.2.2.1).getD default))) = true then
             some false
             else (r12 x0 x1 x2 x3).bind fun v8 =>
              if (v8 != 0) = true then
               some true
               else (r8 v4).bind fun v9 =>
                if (v9.2.2.2.2 == 0) = true → (r11 v9.1 v9.2.1 v9.2.2.1 v9.2.2.2.1 x0 x1 x2 x3).isSome = true then
                 some ((v9.2.2.2.2 == 0) && ((r11 v9.1 v9.2.1 v9.2.2.1 v9.2.2.2.1 x0 x1 x2 x3).getD default))
                 else none
            else none
def T3 : TSpec qA49 := mkT qE49 qd49 (fun ⟨x0, x1, x2, x3, a1⟩ => r3 x0 x1 x2 x3 a1) qu1 false
theorem TP3 (c0 c1 c2 c3 c4 : D) : T3.sp.pre [.agg [c0, c1, c2, c3], .c c4] = (eqvArgs (qt49 c0 c1 c2 c3 c4) (qp49 qw49 c0 c1 c2 c3 c4) ∧ (qp49 r3 c0 c1 c2 c3 c4).isSome = true) := (rfl)
theorem TR3 (c0 c1 c2 c3 c4 : D) : T3.sp.res [.agg [c0, c1, c2, c3], .c c4] = qu1 ((qp49 r3 c0 c1 c2 c3 c4).getD default) := (rfl)
theorem TA3 : T3.sp.alias = false := (rfl)
def tb3 : Fns := lk [(4, T4.sp), (5, T5.sp), (6, T6.sp), (7, T7.sp), (8, T8.sp), (9, T9.sp), (10, T10.sp), (11, T11.sp), (12, T12.sp)]
theorem tb3_ok : FnsOk Tryz.prog tb3 := .cons f4 (.cons f5 (.cons f6 (.cons f7 (.cons f8 (.cons f9 (.cons f10 (.cons f11 (.cons f12 (FnsOk.nil)))))))))
theorem tb3_4 : tb3 4 = some T4.sp := rfl
theorem tb3_5 : tb3 5 = some T5.sp := rfl
theorem tb3_6 : tb3 6 = some T6.sp := rfl
theorem tb3_7 : tb3 7 = some T7.sp := rfl
theorem tb3_8 : tb3 8 = some T8.sp := rfl
theorem tb3_9 : tb3 9 = some T9.sp := rfl
theorem tb3_10 : tb3 10 = some T10.sp := rfl
theorem tb3_11 : tb3 11 = some T11.sp := rfl
theorem tb3_12 : tb3 12 = some T12.sp := rfl
attribute [go_sem] TP3 TR3 TA3
section
attribute [local go_sem] T3 tb3_4 tb3_5 tb3_6 tb3_7 tb3_8 tb3_9 tb3_10 tb3_11 tb3_12 Tryz.results3
theorem v3 : Valid Tryz.prog 3 T3.sp := by
 refine valid_t (fn := Tryz.f3) (n := 65) ty_ok tb3_ok Tryz.func3 rfl Tryz.ntmps3 ?_
 rintro ⟨x0, x1, x2, x3, a1⟩ hx
 obtain ⟨r, hr⟩ := oE (show (r3 x0 x1 x2 x3 a1).isSome = true from hx)
 have hres : T3.res (x0, x1, x2, x3, a1) = qu1 r := by simp only [T3, mkT, hr, oG]
 refine ⟨nL rfl, fun stop S => ?_⟩
 rw [hres] at S
 unfold r3 at hr
 refine S.gx [9, 10] ?_
 obtain ⟨v1, hv1, hr⟩ := of_bind0 hr
 try simp only [hv1, oG, oI, true_and, and_assoc]
 repeat refine gA ?_
 refine ⟨?_, ?_⟩ <;> intro hc
 ·have hr := ifP hr hc
  repeat refine gA ?_
  cases hr
  exact lf
 ·have hr := ifN hr hc
  obtain ⟨v2, hv2, hr⟩ := of_bind0 hr
  try simp only [hv2, oG, oI, true_and, and_assoc]
  repeat (first | refine gA ?_ | refine gB ?_)
  refine ⟨?_, ?_⟩ <;> intro hc
  ·have hr := ifP hr hc
   repeat refine gA ?_
   cases hr
   exact lf
  ·have hr := ifN hr hc
   obtain ⟨v3, hv3, hr⟩ := of_bind0 hr
   obtain ⟨v4, hv4, hr⟩ := of_bind0 hr
   obtain ⟨v5, hv5, hr⟩ := of_bind0 hr
   obtain ⟨v6, hv6, hr⟩ := of_bind0 hr
   obtain ⟨v7, hv7, hr⟩ := of_bind0 hr
   obtain ⟨hg11, hr⟩ := of_guard0 hr
   try simp only [hv3, hv4, hv5, hv6, hv7, Option.getD_some, Option.isSome_some, true_and, and_assoc]
   repeat (first | refine gG hg11 ?_ | refine gA ?_ | refine gB ?_)
   refine ⟨?_, ?_⟩ <;> intro hc
   ·have hr := ifP hr hc
    repeat refine gA ?_
    refine S.prune [] ?_
    refine S.gx [10] ?_
    repeat refine gA ?_
    cases hr
    exact lf
   ·have hr := ifN hr hc
    repeat refine gA ?_
    refine S.prune [2, 5] ?_
    refine S.gx [9] ?_
    obtain ⟨v8, hv8, hr⟩ := of_bind0 hr
    try simp only [hv8, oG, oI, true_and, and_assoc]
    repeat refine gA ?_
    refine ⟨?_, ?_⟩ <;> intro hc
    ·have hr := ifP hr hc
     repeat refine gA ?_
     cases hr
     exact lf
    ·have hr := ifN hr hc
     obtain ⟨v9, hv9, hr⟩ := of_bind0 hr
     obtain ⟨hg10, hr⟩ := of_guard0 hr
     try simp only [hv9, oG, oI, true_and, and_assoc]
     repeat (first | refine gG hg10 ?_ | refine gA ?_ | refine gB ?_)
     cases hr
     exact lf
theorem f3 : FnFact Tryz.prog 3 T3.sp := ⟨⟨Tryz.f3, Tryz.func3, by decide, rfl⟩, v3⟩
end
end Go.Proofs.YtefijdjbhjdhdaaGreatDoor

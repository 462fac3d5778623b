/- Contracts of functions, written by wip/dec. -/
import Derived.Test.YtfmjhllkheapeaaF00
import Derived.Test.YtfmjhllkheapeaaF02
import Derived.Test.YtfmjhllkheapeaaF03
import Derived.Test.YtfmjhllkheapeaaF04
set_option linter.unusedVariables false
set_option linter.unusedSimpArgs false
set_option maxHeartbeats 4000000
set_option maxRecDepth 20000
namespace Go.Proofs.Ytfmjhllkheapeaa
open Go.Abs
abbrev qA24 := Int × Int × Int × Int × Int
def qw24 (a0 : Int) (a1 : Int) (a2 : Int) (a3 : Int) (a4 : Int) : List Arg := [.agg [.int .i64 a0, .int .i64 a1, .int .i64 a2], .c (.int .i64 a3), .c (.int .i64 a4)]
def qE24 : qA24 → List Arg := fun ⟨a0, a1, a2, a3, a4⟩ => qw24 a0 a1 a2 a3 a4
def qd24 (a : List Arg) : qA24 := (dInt (aCell a 0 0), dInt (aCell a 0 1), dInt (aCell a 0 2), dInt (aCell a 1 0), dInt (aCell a 2 0))
def qp24 {β : Type} (f : Int → Int → Int → Int → Int → β) (c0 c1 c2 c3 c4 : D) : β := f (dInt c0) (dInt c1) (dInt c2) (dInt c3) (dInt c4)
def qt24 (c0 c1 c2 c3 c4 : D) : List Arg := [.agg [c0, c1, c2], .c c3, .c c4]
attribute [go_sem] qw24 qp24 qt24 qE24
theorem stop_join3 {σ : Type} {k : List K} {stop : List K → St → Prop} (head : σ → St) (R : σ → Prop) {goal : Prop} (main : (∀ s, R s → stop k (head s)) → goal) (j : ∀ s, R s → stop k (head s)) : goal := main j
/- martensite/martensitetop.TopInspectPartByPart -/
def b3_4 (x0 : Int) (a1 : Int) (a2 : Int) (v8 : Int × Int) : (Int) → Ctl (Int) (Bool) := fun s4 =>
  if (decide (s4 ≤ x0)) = true then
   bindC (r8 x0 s4 0 a1) fun v9 =>
    if (!(v9.2.2 != 0)) = true → (r10 v9.1 v9.2.1).isSome = true then
     if (((v9.2.2 != 0) || (!((r10 v9.1 v9.2.1).getD default))) || (!((decide ((IntKind.i64.wrap (1000 * v9.1)) ≤ (IntKind.i64.wrap (a2 * v9.2.1)))) == (decide (s4 ≥ v8.1))))) = true then
      .out (some false)
      else .next (IntKind.i64.wrap (s4 + 1))
     else .out none
   else .out (some true)
def j3_3 (x0 : Int) (x1 : Int) (a1 : Int) (a2 : Int) : (Unit) → Option (Bool) := fun s3 =>
  (r8 x0 x0 x1 a1).bind fun v7 =>
   if (!(v7.2.2 != 0)) = true → (r18 0).isSome = true then
    if ((!(v7.2.2 != 0)) && (!((v7.1 == ((r18 0).getD default).1) && (v7.2.1 == ((r18 0).getD default).2)))) = true → (r18 1).isSome = true then
     if (!((v7.2.2 != 0) || ((!((v7.1 == ((r18 0).getD default).1) && (v7.2.1 == ((r18 0).getD default).2))) && (!((v7.1 == ((r18 1).getD default).1) && (v7.2.1 == ((r18 1).getD default).2)))))) = true → (r18 1).isSome = true then
      if (((v7.2.2 != 0) || ((!((v7.1 == ((r18 0).getD default).1) && (v7.2.1 == ((r18 0).getD default).2))) && (!((v7.1 == ((r18 1).getD default).1) && (v7.2.1 == ((r18 1).getD default).2))))) || (!(((v7.1 == ((r18 1).getD default).1) && (v7.2.1 == ((r18 1).getD default).2)) == (decide (a1 ≤ x1))))) = true then
       some false
       else (r19 x0 a1 a2).bind fun v8 =>
        if (v8.2 != 0) = true then
         some ((v8.2 == 12) && (a1 == 0))
         else iterC (b3_4 x0 a1 a2 v8) 1000000000 1
      else none
     else none
    else none
def j3_2 (x0 : Int) (x2 : Int) (x1 : Int) (a1 : Int) (a2 : Int) (v3 : Int × Int × Int) : (Int × (List (Int)) × Int × (List (Int))) → Option (Bool) := fun s2 =>
  (r15 v3.1 v3.2.1).bind fun v5 =>
   (r16 s2.1 s2.2.1 s2.2.2.1 s2.2.2.2 v5.1 v5.2.1 v5.2.2.1 v5.2.2.2).bind fun v6 =>
    if (v6 != 0) = true then
     some false
     else if (decide (x2 < x0)) = true then
      (r8 x0 (IntKind.i64.wrap (x2 + 1)) x1 a1).bind fun v14 =>
       if (!(v14.2.2 != 0)) = true → (r10 v14.1 v14.2.1).isSome = true then
        if (!((v14.2.2 != 0) || (!((r10 v14.1 v14.2.1).getD default)))) = true → (r17 v14.1 v14.2.1 v3.1 v3.2.1).isSome = true then
         if (((v14.2.2 != 0) || (!((r10 v14.1 v14.2.1).getD default))) || (decide (((r17 v14.1 v14.2.1 v3.1 v3.2.1).getD default) > 0))) = true then
          some false
          else j3_3 x0 x1 a1 a2 ()
         else none
        else none
      else j3_3 x0 x1 a1 a2 ()
def j3_1 (x0 : Int) (x2 : Int) (x1 : Int) (a1 : Int) (a2 : Int) (v3 : Int × Int × Int) : (Int × (List (Int)) × Int × (List (Int))) → Option (Bool) := fun s1 =>
  if ((decide (a1 > 0)) && (decide (x1 > 0))) = true then
   (r8 (IntKind.i64.wrap (x0 - 1)) (IntKind.i64.wrap (x2 - 1)) (IntKind.i64.wrap (x1 - 1)) (IntKind.i64.wrap (a1 - 1))).bind fun v17 =>
    if (!(v17.2.2 != 0)) = true → (r9 v17.1 v17.2.1).isSome = true then
     if (!((v17.2.2 != 0) || (!((r9 v17.1 v17.2.1).getD default)))) = true → (r10 v17.1 v17.2.1).isSome = true then
      if (((v17.2.2 != 0) || (!((r9 v17.1 v17.2.1).getD default))) || (!((r10 v17.1 v17.2.1).getD default))) = true then
       some false
       else (r14 a1 x0).bind fun v18 =>
        (r15 v17.1 v17.2.1).bind fun v19 =>
         (r13 v18.1 v18.2.1 v18.2.2.1 v18.2.2.2 v19.1 v19.2.1 v19.2.2.1 v19.2.2.2).bind fun v20 =>
          (r12 s1.1 s1.2.1 s1.2.2.1 s1.2.2.2 v20.1 v20.2.1 v20.2.2.1 v20.2.2.2).bind fun v21 =>
           j3_2 x0 x2 x1 a1 a2 v3 (v21.1, v21.2.1, v21.2.2.1, v21.2.2.2)
      else none
     else none
   else j3_2 x0 x2 x1 a1 a2 v3 (s1.1, s1.2.1, s1.2.2.1, s1.2.2.2)
def r3 (x0 : Int) (x2 : Int) (x1 : Int) (a1 : Int) (a2 : Int) : Option (Bool) :=
  (r4).bind fun v1 =>
   if (!v1) = true then
    some false
    else (r5 x0 x2 x1).bind fun v2 =>
     if (!(v2 != 0)) = true → (r6 a1 x0).isSome = true then
      if (!((v2 != 0) || (((r6 a1 x0).getD default) != 0))) = true → (r7 a2).isSome = true then
       if ((((v2 != 0) || (((r6 a1 x0).getD default) != 0)) || (((r7 a2).getD default) != 0)) || (decide (x2 < 2))) = true then
        some true
        else (r8 x0 x2 x1 a1).bind fun v3 =>
         if (!(v3.2.2 != 0)) = true → (r9 v3.1 v3.2.1).isSome = true then
          if (!((v3.2.2 != 0) || (!((r9 v3.1 v3.2.1).getD default)))) = true → (r10 v3.1 v3.2.1).isSome = true then
           if (((v3.2.2 != 0) || (!((r9 v3.1 v3.2.1).getD default))) || (!((r10 v3.1 v3.2.1).getD default))) = true then
            some false
            else (r11 0).bind fun v4 =>
             if (decide (a1 < x0)) = true then
              (r8 (IntKind.i64.wrap (x0 - 1)) (IntKind.i64.wrap (x2 - 1)) (if IntKind.i64.wrap (x2 - 1) < x1 then IntKind.i64.wrap (x2 - 1) else x1) a1).bind fun v24 =>
               if (!(v24.2.2 != 0)) = true → (r9 v24.1 v24.2.1).isSome = true then
                if (!((v24.2.2 != 0) || (!((r9 v24.1 v24.2.1).getD default)))) = true → (r10 v24.1 v24.2.1).isSome = true then
                 if (((v24.2.2 != 0) || (!((r9 v24.1 v24.2.1).getD default))) || (!((r10 v24.1 v24.2.1).getD default))) = true then
                  some false
                  else (r14 (IntKind.i64.wrap (x0 - a1)) x0).bind fun v25 =>
                   (r15 v24.1 v24.2.1).bind fun v26 =>
                    (r13 v25.1 v25.2.1 v25.2.2.1 v25.2.2.2 v26.1 v26.2.1 v26.2.2.1 v26.2.2.2).bind fun v27 =>
                     (r12 v4.1 v4.2.1 v4.2.2.1 v4.2.2.2 v27.1 v27.2.1 v27.2.2.1 v27.2.2.2).bind fun v28 =>
                      j3_1 x0 x2 x1 a1 a2 v3 (v28.1, v28.2.1, v28.2.2.1, v28.2.2.2)
                 else none
                else none
              else j3_1 x0 x2 x1 a1 a2 v3 (v4.1, v4.2.1, v4.2.2.1, v4.2.2.2)
           else none
          else none
       else none
      else none
def T3 : TSpec qA24 := mkT qE24 qd24 (fun ⟨x0, x2, x1, a1, a2⟩ => r3 x0 x2 x1 a1 a2) qu2 false
theorem TP3 (c0 c1 c2 c3 c4 : D) : T3.sp.pre [.agg [c0, c1, c2], .c c3, .c c4] = (eqvArgs (qt24 c0 c1 c2 c3 c4) (qp24 qw24 c0 c1 c2 c3 c4) ∧ (qp24 r3 c0 c1 c2 c3 c4).isSome = true) := (rfl)
theorem TR3 (c0 c1 c2 c3 c4 : D) : T3.sp.res [.agg [c0, c1, c2], .c c3, .c c4] = qu2 ((qp24 r3 c0 c1 c2 c3 c4).getD default) := (rfl)
theorem TA3 : T3.sp.alias = false := (rfl)
def tb3 : Fns := lk [(4, T4.sp), (5, T5.sp), (6, T6.sp), (7, T7.sp), (8, T8.sp), (9, T9.sp), (10, T10.sp), (11, T11.sp), (12, T12.sp), (13, T13.sp), (14, T14.sp), (15, T15.sp), (16, T16.sp), (17, T17.sp), (18, T18.sp), (19, T19.sp)]
theorem tb3_ok : FnsOk Try.prog tb3 := .cons f4 (.cons f5 (.cons f6 (.cons f7 (.cons f8 (.cons f9 (.cons f10 (.cons f11 (.cons f12 (.cons f13 (.cons f14 (.cons f15 (.cons f16 (.cons f17 (.cons f18 (.cons f19 (FnsOk.nil))))))))))))))))
theorem tb3_4 : tb3 4 = some T4.sp := rfl
theorem tb3_5 : tb3 5 = some T5.sp := rfl
theorem tb3_6 : tb3 6 = some T6.sp := rfl
theorem tb3_7 : tb3 7 = some T7.sp := rfl
theorem tb3_8 : tb3 8 = some T8.sp := rfl
theorem tb3_9 : tb3 9 = some T9.sp := rfl
theorem tb3_10 : tb3 10 = some T10.sp := rfl
theorem tb3_11 : tb3 11 = some T11.sp := rfl
theorem tb3_12 : tb3 12 = some T12.sp := rfl
theorem tb3_13 : tb3 13 = some T13.sp := rfl
theorem tb3_14 : tb3 14 = some T14.sp := rfl
theorem tb3_15 : tb3 15 = some T15.sp := rfl
theorem tb3_16 : tb3 16 = some T16.sp := rfl
theorem tb3_17 : tb3 17 = some T17.sp := rfl
theorem tb3_18 : tb3 18 = some T18.sp := rfl
theorem tb3_19 : tb3 19 = some T19.sp := rfl
attribute [go_sem] TP3 TR3 TA3
section
attribute [local go_sem] T3 tb3_4 tb3_5 tb3_6 tb3_7 tb3_8 tb3_9 tb3_10 tb3_11 tb3_12 tb3_13 tb3_14 tb3_15 tb3_16 tb3_17 tb3_18 tb3_19 Try.results3
theorem v3 : Valid Try.prog 3 T3.sp := by
 refine valid_t (fn := Try.f3) (n := 276) ty_ok tb3_ok Try.func3 rfl Try.ntmps3 ?_
 rintro ⟨x0, x2, x1, a1, a2⟩ hx
 obtain ⟨r, hr⟩ := oE (show (r3 x0 x2 x1 a1 a2).isSome = true from hx)
 have hres : T3.res (x0, x2, x1, a1, a2) = qu2 r := by simp only [T3, mkT, hr, oG]
 refine ⟨nL rfl, fun stop S => ?_⟩
 rw [hres] at S
 unfold r3 at hr
 refine S.gx [6, 11, 14, 17, 18, 19, 24, 25, 27, 28, 33, 36] ?_
 obtain ⟨v1, hv1, hr⟩ := of_bind0 hr
 try simp only [hv1, oG, oI, true_and, and_assoc]
 repeat refine gA ?_
 refine ⟨?_, ?_⟩ <;> intro hc
 ·have hr := ifP hr hc
  repeat refine gA ?_
  cases hr
  exact lf
 ·have hr := ifN hr hc
  obtain ⟨v2, hv2, hr⟩ := of_bind0 hr
  obtain ⟨hg33, hr⟩ := of_guard0 hr
  obtain ⟨hg34, hr⟩ := of_guard0 hr
  try simp only [hv2, oG, oI, true_and, and_assoc]
  repeat (first | refine gG hg33 ?_ | refine gG hg34 ?_ | refine gA ?_ | refine gB ?_)
  refine ⟨?_, ?_⟩ <;> intro hc
  ·have hr := ifP hr hc
   repeat refine gA ?_
   cases hr
   exact lf
  ·have hr := ifN hr hc
   obtain ⟨v3, hv3, hr⟩ := of_bind0 hr
   try simp only [hv3, oG, oI, true_and, and_assoc]
   repeat refine gA ?_
   refine S.prune [1, 2, 3, 7, 8] ?_
   refine S.gx [11, 14, 17, 18, 19, 24, 25, 27, 28, 33, 36] ?_
   obtain ⟨hg31, hr⟩ := of_guard0 hr
   obtain ⟨hg32, hr⟩ := of_guard0 hr
   repeat (first | refine gG hg31 ?_ | refine gG hg32 ?_ | refine gA ?_ | refine gB ?_)
   repeat refine gA ?_
   refine ⟨?_, ?_⟩ <;> intro hc
   ·have hr := ifP hr hc
    repeat refine gA ?_
    cases hr
    exact lf
   ·have hr := ifN hr hc
    obtain ⟨v4, hv4, hr⟩ := of_bind0 hr
    try simp only [hv4, oG, oI, true_and, and_assoc]
    repeat refine gA ?_
    apply stop_join3 (stop := stop) (fun s1 => ⟨[(1, .c (.d (.int .i64 a1))), (2, .c (.d (.int .i64 a2))), (3, .c (.ref 3 0)), (7, .c (.ref 7 0)), (9, .c (.ref 9 0))], [(3, [.d (.int .i64 x0), .d (.int .i64 x2), .d (.int .i64 x1)]), (7, [.d (.int .i64 v3.1), .d (.int .i64 v3.2.1)]), (9, [.d (.int .i64 s1.1), .d (encF 1 d_I s1.2.1), .d (.int .i64 s1.2.2.1), .d (encF 1 d_I s1.2.2.2)])], []⟩) (fun s1 => j3_1 x0 x2 x1 a1 a2 v3 s1 = some r)
    ·intro J1
     refine ⟨?_, ?_⟩ <;> intro hc
     ·have hr := ifP hr hc
      obtain ⟨v24, hv24, hr⟩ := of_bind0 hr
      try simp only [hv24, oG, oI, true_and, and_assoc]
      repeat refine gA ?_
      refine S.prune [1, 2, 3, 7, 9, 10, 11] ?_
      refine S.gx [6, 14, 17, 18, 19, 24, 25, 27, 28, 33, 36] ?_
      obtain ⟨hg29, hr⟩ := of_guard0 hr
      obtain ⟨hg30, hr⟩ := of_guard0 hr
      repeat (first | refine gG hg29 ?_ | refine gG hg30 ?_ | refine gA ?_ | refine gB ?_)
      repeat refine gA ?_
      refine ⟨?_, ?_⟩ <;> intro hc
      ·have hr := ifP hr hc
       repeat refine gA ?_
       cases hr
       exact lf
      ·have hr := ifN hr hc
       obtain ⟨v25, hv25, hr⟩ := of_bind0 hr
       obtain ⟨v26, hv26, hr⟩ := of_bind0 hr
       obtain ⟨v27, hv27, hr⟩ := of_bind0 hr
       obtain ⟨v28, hv28, hr⟩ := of_bind0 hr
       try simp only [hv25, hv26, hv27, hv28, Option.getD_some, Option.isSome_some, true_and, and_assoc]
       repeat refine gA ?_
       refine S.sees [1, 2, 3, 7, 9] [(3, 3), (7, 7), (9, 9)] [] ?_ (J1 _ hr)
       exact lf
     ·have hr := ifN hr hc
      repeat refine gA ?_
      refine S.sees [1, 2, 3, 7, 9] [(3, 3), (7, 7), (9, 9)] [] ?_ (J1 _ hr)
      exact lf
    ·intro s1 hr
     unfold j3_1 at hr
     refine S.gx [6, 11, 14, 17, 18, 19, 24, 25, 27, 28, 33, 36] ?_
     repeat refine gA ?_
     refine S.gx [6, 11, 17, 18, 19, 24, 25, 27, 28, 33, 36] ?_
     repeat (first | refine gA ?_ | refine gB ?_)
     repeat refine gA ?_
     apply stop_join3 (stop := stop) (fun s2 => ⟨[(1, .c (.d (.int .i64 a1))), (2, .c (.d (.int .i64 a2))), (3, .c (.ref 3 0)), (7, .c (.ref 7 0)), (9, .c (.ref 9 0))], [(3, [.d (.int .i64 x0), .d (.int .i64 x2), .d (.int .i64 x1)]), (7, [.d (.int .i64 v3.1), .d (.int .i64 v3.2.1)]), (9, [.d (.int .i64 s2.1), .d (encF 1 d_I s2.2.1), .d (.int .i64 s2.2.2.1), .d (encF 1 d_I s2.2.2.2)])], []⟩) (fun s2 => j3_2 x0 x2 x1 a1 a2 v3 s2 = some r)
     ·intro J2
      refine ⟨?_, ?_⟩ <;> intro hc
      ·have hr := ifP hr hc
       obtain ⟨v17, hv17, hr⟩ := of_bind0 hr
       obtain ⟨hg22, hr⟩ := of_guard0 hr
       obtain ⟨hg23, hr⟩ := of_guard0 hr
       try simp only [hv17, oG, oI, true_and, and_assoc]
       repeat (first | refine gG hg22 ?_ | refine gG hg23 ?_ | refine gA ?_ | refine gB ?_)
       refine ⟨?_, ?_⟩ <;> intro hc
       ·have hr := ifP hr hc
        repeat refine gA ?_
        refine S.prune [] ?_
        refine S.gx [6, 11, 14, 18, 19, 24, 25, 27, 28, 33, 36] ?_
        repeat refine gA ?_
        cases hr
        exact lf
       ·have hr := ifN hr hc
        repeat refine gA ?_
        refine S.prune [1, 2, 3, 7, 9, 12] ?_
        refine S.gx [6, 11, 14, 17, 19, 24, 25, 27, 28, 33, 36] ?_
        obtain ⟨v18, hv18, hr⟩ := of_bind0 hr
        obtain ⟨v19, hv19, hr⟩ := of_bind0 hr
        obtain ⟨v20, hv20, hr⟩ := of_bind0 hr
        obtain ⟨v21, hv21, hr⟩ := of_bind0 hr
        try simp only [hv18, hv19, hv20, hv21, Option.getD_some, Option.isSome_some, true_and, and_assoc]
        repeat refine gA ?_
        refine S.sees [1, 2, 3, 7, 9] [(3, 3), (7, 7), (9, 9)] [] ?_ (J2 _ hr)
        exact lf
      ·have hr := ifN hr hc
       repeat refine gA ?_
       refine S.sees [1, 2, 3, 7, 9] [(3, 3), (7, 7), (9, 9)] [] ?_ (J2 _ hr)
       exact lf
     ·intro s2 hr
      unfold j3_2 at hr
      refine S.gx [6, 11, 14, 17, 18, 19, 24, 25, 27, 28, 33, 36] ?_
      repeat refine gA ?_
      refine S.gx [6, 11, 14, 17, 18, 24, 25, 27, 28, 33, 36] ?_
      obtain ⟨v5, hv5, hr⟩ := of_bind0 hr
      obtain ⟨v6, hv6, hr⟩ := of_bind0 hr
      try simp only [hv5, hv6, Option.getD_some, Option.isSome_some, true_and, and_assoc]
      repeat refine gA ?_
      refine ⟨?_, ?_⟩ <;> intro hc
      ·have hr := ifP hr hc
       repeat refine gA ?_
       cases hr
       exact lf
      ·have hr := ifN hr hc
       repeat refine gA ?_
       apply stop_join3 (stop := stop) (fun s3 => ⟨[(1, .c (.d (.int .i64 a1))), (2, .c (.d (.int .i64 a2))), (3, .c (.ref 3 0))], [(3, [.d (.int .i64 x0), .d (.int .i64 x2), .d (.int .i64 x1)])], []⟩) (fun s3 => j3_3 x0 x1 a1 a2 s3 = some r)
       ·intro J3
        refine ⟨?_, ?_⟩ <;> intro hc
        ·have hr := ifP hr hc
         obtain ⟨v14, hv14, hr⟩ := of_bind0 hr
         obtain ⟨hg15, hr⟩ := of_guard0 hr
         obtain ⟨hg16, hr⟩ := of_guard0 hr
         try simp only [hv14, oG, oI, true_and, and_assoc]
         repeat (first | refine gG hg15 ?_ | refine gG hg16 ?_ | refine gA ?_ | refine gB ?_)
         refine ⟨?_, ?_⟩ <;> intro hc
         ·have hr := ifP hr hc
          repeat refine gA ?_
          refine S.prune [] ?_
          refine S.gx [6, 11, 14, 17, 18, 19, 25, 27, 28, 33, 36] ?_
          repeat refine gA ?_
          cases hr
          exact lf
         ·have hr := ifN hr hc
          repeat refine gA ?_
          refine S.sees [1, 2, 3] [(3, 3)] [] ?_ (J3 _ hr)
          exact lf
        ·have hr := ifN hr hc
         repeat refine gA ?_
         refine S.sees [1, 2, 3] [(3, 3)] [] ?_ (J3 _ hr)
         exact lf
       ·intro s3 hr
        unfold j3_3 at hr
        refine S.gx [6, 11, 14, 17, 18, 19, 24, 25, 27, 28, 33, 36] ?_
        repeat refine gA ?_
        refine S.gx [6, 11, 14, 17, 18, 19, 24, 27, 28, 33, 36] ?_
        obtain ⟨v7, hv7, hr⟩ := of_bind0 hr
        try simp only [hv7, oG, oI, true_and, and_assoc]
        repeat refine gA ?_
        obtain ⟨hg11, hr⟩ := of_guard0 hr
        obtain ⟨hg12, hr⟩ := of_guard0 hr
        obtain ⟨hg13, hr⟩ := of_guard0 hr
        repeat (first | refine gG hg11 ?_ | refine gG hg12 ?_ | refine gG hg13 ?_ | refine gA ?_ | refine gB ?_)
        refine ⟨?_, ?_⟩ <;> intro hc
        ·have hr := ifP hr hc
         repeat refine gA ?_
         refine S.prune [] ?_
         refine S.gx [6, 11, 14, 17, 18, 19, 24, 25, 28, 33, 36] ?_
         repeat refine gA ?_
         cases hr
         exact lf
        ·have hr := ifN hr hc
         repeat refine gA ?_
         refine S.prune [1, 2, 3] ?_
         refine S.gx [6, 11, 14, 17, 18, 19, 24, 25, 27, 33, 36] ?_
         obtain ⟨v8, hv8, hr⟩ := of_bind0 hr
         try simp only [hv8, oG, oI, true_and, and_assoc]
         repeat refine gA ?_
         refine ⟨?_, ?_⟩ <;> intro hc
         ·have hr := ifP hr hc
          repeat (first | refine gA ?_ | refine gB ?_)
          cases hr
          exact lf
         ·have hr := ifN hr hc
          repeat refine gA ?_
          refine S.sees [1, 2, 3, 18, 20] [(3, 3)] [] ?_ (Stop.iter S (fun s4 => ⟨[(1, .c (.d (.int .i64 a1))), (2, .c (.d (.int .i64 a2))), (3, .c (.ref 3 0)), (18, .c (.d (.int .i64 v8.1))), (20, .c (.d (.int .i64 s4)))], [(3, [.d (.int .i64 x0), .d (.int .i64 x2), .d (.int .i64 x1)])], []⟩) (b3_4 x0 a1 a2 v8) (fun q => q = r) hr rfl ?_)
          ·exact lf
          ·intro s4 hr
           unfold b3_4 at hr
           refine S.gx [6, 11, 14, 17, 18, 19, 24, 25, 27, 28, 33, 36] ?_
           repeat refine gA ?_
           refine ⟨?_, ?_⟩ <;> intro hc
           ·have hr := ifP1 hr hc
            obtain ⟨v9, hv9, hr⟩ := of_bind1 hr
            obtain ⟨hg10, hr⟩ := of_guard1 hr
            try simp only [hv9, oG, oI, true_and, and_assoc]
            repeat (first | refine gG hg10 ?_ | refine gA ?_ | refine gB ?_)
            refine ⟨?_, ?_⟩ <;> intro hc
            ·have hr := ifP1 hr hc
             repeat refine gA ?_
             refine S.prune [] ?_
             refine S.gx [6, 11, 14, 17, 18, 19, 24, 25, 27, 28, 33] ?_
             repeat refine gA ?_
             have hr := of_out0 hr
             cases hr
             exact lf
            ·have hr := ifN1 hr hc
             repeat refine gA ?_
             refine S.prune [1, 2, 3, 18, 20] ?_
             refine S.gx [6, 11, 14, 17, 18, 19, 24, 25, 27, 28, 36] ?_
             repeat refine gA ?_
             refine S.sees [1, 2, 3, 18, 20] [(3, 3)] [] ?_ hr
             exact lf
           ·have hr := ifN1 hr hc
            repeat refine gA ?_
            have hr := of_out0 hr
            repeat refine gA ?_
            cases hr
            exact lf
theorem f3 : FnFact Try.prog 3 T3.sp := ⟨⟨Try.f3, Try.func3, by decide, rfl⟩, v3⟩
end
end Go.Proofs.Ytfmjhllkheapeaa

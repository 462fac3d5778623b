/- Contracts of functions, written by wip/dec. -/
import Derived.Test.YthldpejmofhaoaaGreatDoorF00
import Derived.Test.YthldpejmofhaoaaGreatDoorF03
import Derived.Test.YthldpejmofhaoaaGreatDoorF04
import Derived.Test.YthldpejmofhaoaaGreatDoorF05
import Derived.Test.YthldpejmofhaoaaGreatDoorF06
import Derived.Test.YthldpejmofhaoaaGreatDoorF07
set_option linter.unusedVariables false
set_option linter.unusedSimpArgs false
set_option maxHeartbeats 4000000
set_option maxRecDepth 20000
namespace Go.Proofs.YthldpejmofhaoaaGreatDoor
open Go.Abs
section
variable {β : Type} [Inhabited β] (u : β → List RV) (al : Bool)
abbrev qF60 (β : Type) := Int → Int → L_II → L_LIIE → L_I → L_I → Int → Int → Int → Int → Int → Int → Int → β
def qw60 (a0 a1 : Int) (a2 : L_II) (a3 : L_LIIE) (a4 a5 : L_I) (a6 a7 a8 a9 a10 a11 a12 : Int) : List Arg := [.agg [.int .i64 a0, .int .i64 a1, encF 2 d_II a2, encF 1 d_LIIE a3], .c (encF 1 d_I a4), .agg [encF 1 d_I a5, .int .i64 a6, .int .i64 a7, .int .i64 a8, .int .i64 a9, .int .i64 a10, .int .i64 a11, .int .i64 a12]]
def qd60 (a : List Arg) := (dInt (aCell a 0 0), dInt (aCell a 0 1), decF g_II (aCell a 0 2), decF g_LIIE (aCell a 0 3), decF g_I (aCell a 1 0), decF g_I (aCell a 2 0), dInt (aCell a 2 1), dInt (aCell a 2 2), dInt (aCell a 2 3), dInt (aCell a 2 4), dInt (aCell a 2 5), dInt (aCell a 2 6), dInt (aCell a 2 7))
def qp60 {β : Type} (f : qF60 β) (c0 c1 c2 c3 c4 c5 c6 c7 c8 c9 c10 c11 c12 : D) := f (dInt c0) (dInt c1) (decF g_II c2) (decF g_LIIE c3) (decF g_I c4) (decF g_I c5) (dInt c6) (dInt c7) (dInt c8) (dInt c9) (dInt c10) (dInt c11) (dInt c12)
abbrev qt60 (c0 c1 c2 c3 c4 c5 c6 c7 c8 c9 c10 c11 c12 : D) : List Arg := [.agg [c0, c1, c2, c3], .c c4, .agg [c5, c6, c7, c8, c9, c10, c11, c12]]
def qT60 (r : qF60 (Option β)) := mkT (u13 qw60) qd60 (u13 r) u al
theorem qP60 (r : qF60 (Option β)) (c0 c1 c2 c3 c4 c5 c6 c7 c8 c9 c10 c11 c12 : D) : PT (qT60 u al r).sp u (qt60 c0 c1 c2 c3 c4 c5 c6 c7 c8 c9 c10 c11 c12) (qp60 qw60 c0 c1 c2 c3 c4 c5 c6 c7 c8 c9 c10 c11 c12) (qp60 r c0 c1 c2 c3 c4 c5 c6 c7 c8 c9 c10 c11 c12) := ⟨rfl, rfl⟩
theorem qa60 (r : qF60 (Option β)) : (qT60 u al r).sp.alias = al := rfl
attribute [go_sem] qw60 qp60 qt60 qP60 qa60
end
/- martensite/martensitetop.TopHeatKept -/
def b3_3 (x0 x1 : Int) (x2 : L_II) (x3 : L_LIIE) (a1 x4 : L_I) (x6 x7 x8 x5 x9 x10 x11 : Int) (s2 : (List (L_I × Int)) × Int) (v16 : L_LIEI) (v26 : L_LIE × Int) : Bd (Int × Int) Bool := fun s3 =>
  if (decide (s3.2 < (v26.1.length : Int))) = true then
   if 0 ≤ s3.2 ∧ s3.2 < (v26.1.length : Int) then
    if (!(((v26.1.getD s3.2.toNat default).length : Int) != x0)) = true → 0 ≤ s3.2 ∧ s3.2 < (v26.1.length : Int) then
     if (!(((v26.1.getD s3.2.toNat default).length : Int) != x0)) = true → (r23 (v26.1.getD s3.2.toNat default)).isSome = true then
      if ((((v26.1.getD s3.2.toNat default).length : Int) != x0) || (decide (((r23 (v26.1.getD s3.2.toNat default)).getD default) > s3.1))) = true then
       .out (some false)
       else if 0 ≤ s3.2 ∧ s3.2 < (v26.1.length : Int) then
        bindC (r23 (v26.1.getD s3.2.toNat default)) fun v28 =>
         .next (v28, IntKind.i64.wrap (s3.2 + 1))
        else .out none
      else .out none
     else .out none
    else .out none
   else .out ((r24 x0 x1 x2 x3 a1 (v16 ++ s2.1) x4 x6 x7 x8 x5 x9 x10 x11).bind fun v33 =>
    some v33)
def b3_4 (x0 x1 : Int) (x2 : L_II) (x3 : L_LIIE) (a1 x4 : L_I) (x6 x7 x8 x5 x9 x10 x11 : Int) (s2 : (List (L_I × Int)) × Int) (v16 : L_LIEI) (v43 : L_LIE × Int) : Bd (Int × Int) Bool := fun s4 =>
  if (decide (s4.2 < (v43.1.length : Int))) = true then
   if 0 ≤ s4.2 ∧ s4.2 < (v43.1.length : Int) then
    if (!(((v43.1.getD s4.2.toNat default).length : Int) != x0)) = true → 0 ≤ s4.2 ∧ s4.2 < (v43.1.length : Int) then
     if (!(((v43.1.getD s4.2.toNat default).length : Int) != x0)) = true → (r23 (v43.1.getD s4.2.toNat default)).isSome = true then
      if ((((v43.1.getD s4.2.toNat default).length : Int) != x0) || (decide (((r23 (v43.1.getD s4.2.toNat default)).getD default) > s4.1))) = true then
       .out (some false)
       else if 0 ≤ s4.2 ∧ s4.2 < (v43.1.length : Int) then
        bindC (r23 (v43.1.getD s4.2.toNat default)) fun v45 =>
         .next (v45, IntKind.i64.wrap (s4.2 + 1))
        else .out none
      else .out none
     else .out none
    else .out none
   else .out ((r24 x0 x1 x2 x3 a1 (v16 ++ s2.1) x4 x6 x7 x8 x5 x9 x10 x11).bind fun v50 =>
    some v50)
def b3_2 (x0 x1 : Int) (x2 : L_II) (x3 : L_LIIE) (a1 x4 : L_I) (x6 x7 x8 x5 x9 x10 x11 : Int) (v8 : Int × Int) (s1 : (List (L_I × Int)) × Int) : Bd ((List (L_I × Int)) × Int) Bool := fun s2 =>
  if (decide (s2.2 < x10)) = true then
   if 0 ≤ x0 ∧ x0 ≤ x0 ∧ x0 ≤ 9223372036854775807 ∧ 8 * x0 ≤ 281474976710656 then
    if (s2.1.length + 1) * 32 ≤ 140737488355328 ∧ s2.1.length + 1 ≤ 9223372036854775807 then
     .next (s2.1 ++ [(List.replicate x0.toNat 0, x9)], IntKind.i64.wrap (s2.2 + 1))
     else .out none
    else .out none
   else .out ((r14 x0 x1 x2 x3).bind fun v14 =>
    (r17 a1).bind fun v15 =>
     (r21 s1.1).bind fun v16 =>
      (r20 v14.1 v14.2.1 v14.2.2.1 v14.2.2.2 v15 v16).bind fun v17 =>
       (r22 v14.1 v14.2.1 v14.2.2.1 v14.2.2.2 v15 v16).bind fun v18 =>
        if (((v17.2.2.2.2 != 0) || (v18.2 != 0)) || ((v18.1.length : Int) != v8.1)) = true then
         some false
         else if (decide (v8.1 > 0)) = true then
          if 0 ≤ IntKind.i64.wrap (v8.1 - 1) ∧ IntKind.i64.wrap (v8.1 - 1) < (v18.1.length : Int) then
           (r17 (v18.1.getD (IntKind.i64.wrap (v8.1 - 1)).toNat default)).bind fun v19 =>
            (r11 (v19.length : Int) x0 x0).bind fun v20 =>
             if (!(!v20)) = true → (r8 x0 x1 x2 x3 v19).isSome = true then
              if ((!v20) || (((r8 x0 x1 x2 x3 v19).getD default) != 0)) = true then
               some false
               else if (v16.length + s2.1.length) * 32 ≤ 140737488355328 ∧ v16.length + s2.1.length ≤ 9223372036854775807 then
                (r17 v19).bind fun v21 =>
                 (r21 s2.1).bind fun v22 =>
                  (r20 v14.1 v14.2.1 v14.2.2.1 v14.2.2.2 v21 v22).bind fun v23 =>
                   (r21 (v16 ++ s2.1)).bind fun v24 =>
                    (r20 v14.1 v14.2.1 v14.2.2.1 v14.2.2.2 v15 v24).bind fun v25 =>
                     if (v23.2.2.2.2 != v25.2.2.2.2) = true then
                      some false
                      else if (v23.2.2.2.2 != 0) = true then
                       some (v23.2.2.2.2 == 22)
                       else if ((((((v17.2.2.2.1 != v23.1) || (v17.2.1 != v25.2.1)) || (v23.2.1 != 0)) || ((IntKind.i64.wrap (v17.2.2.1 + v23.2.2.1)) != v25.2.2.1)) || (v25.2.2.2.1 != v23.2.2.2.1)) || ((IntKind.i64.wrap (v25.1 + v25.2.1)) != (IntKind.i64.wrap (v25.2.2.1 + v25.2.2.2.1)))) = true then
                        some false
                        else (r22 v14.1 v14.2.1 v14.2.2.1 v14.2.2.2 v21 v22).bind fun v26 =>
                         if ((v26.2 != 0) || ((v26.1.length : Int) != (s2.1.length : Int))) = true then
                          some false
                          else (r23 v19).bind fun v27 =>
                           iterC (b3_3 x0 x1 x2 x3 a1 x4 x6 x7 x8 x5 x9 x10 x11 s2 v16 v26) 1000000000 (v27, 0)
                else none
              else none
           else none
          else (r11 (v15.length : Int) x0 x0).bind fun v37 =>
           if (!(!v37)) = true → (r8 x0 x1 x2 x3 v15).isSome = true then
            if ((!v37) || (((r8 x0 x1 x2 x3 v15).getD default) != 0)) = true then
             some false
             else if (v16.length + s2.1.length) * 32 ≤ 140737488355328 ∧ v16.length + s2.1.length ≤ 9223372036854775807 then
              (r17 v15).bind fun v38 =>
               (r21 s2.1).bind fun v39 =>
                (r20 v14.1 v14.2.1 v14.2.2.1 v14.2.2.2 v38 v39).bind fun v40 =>
                 (r21 (v16 ++ s2.1)).bind fun v41 =>
                  (r20 v14.1 v14.2.1 v14.2.2.1 v14.2.2.2 v15 v41).bind fun v42 =>
                   if (v40.2.2.2.2 != v42.2.2.2.2) = true then
                    some false
                    else if (v40.2.2.2.2 != 0) = true then
                     some (v40.2.2.2.2 == 22)
                     else if ((((((v17.2.2.2.1 != v40.1) || (v17.2.1 != v42.2.1)) || (v40.2.1 != 0)) || ((IntKind.i64.wrap (v17.2.2.1 + v40.2.2.1)) != v42.2.2.1)) || (v42.2.2.2.1 != v40.2.2.2.1)) || ((IntKind.i64.wrap (v42.1 + v42.2.1)) != (IntKind.i64.wrap (v42.2.2.1 + v42.2.2.2.1)))) = true then
                      some false
                      else (r22 v14.1 v14.2.1 v14.2.2.1 v14.2.2.2 v38 v39).bind fun v43 =>
                       if ((v43.2 != 0) || ((v43.1.length : Int) != (s2.1.length : Int))) = true then
                        some false
                        else (r23 v15).bind fun v44 =>
                         iterC (b3_4 x0 x1 x2 x3 a1 x4 x6 x7 x8 x5 x9 x10 x11 s2 v16 v43) 1000000000 (v44, 0)
              else none
            else none)
def b3_1 (x0 x1 : Int) (x2 : L_II) (x3 : L_LIIE) (a1 x4 : L_I) (x6 x7 x8 x5 x9 x10 x11 : Int) (v8 : Int × Int) : Bd ((List (L_I × Int)) × Int) Bool := fun s1 =>
  if (decide (s1.2 < v8.1)) = true then
   bindC (r19 x4 x6) fun v10 =>
    if (s1.1.length + 1) * 32 ≤ 140737488355328 ∧ s1.1.length + 1 ≤ 9223372036854775807 then
     .next (s1.1 ++ [(v10.1, v10.2)], IntKind.i64.wrap (s1.2 + 1))
     else .out none
   else .out (iterC (b3_2 x0 x1 x2 x3 a1 x4 x6 x7 x8 x5 x9 x10 x11 v8 s1) 1000000000 ([], 0))
def r3 (x0 x1 : Int) (x2 : L_II) (x3 : L_LIIE) (a1 x4 : L_I) (x6 x7 x8 x5 x9 x10 x11 : Int) : Option (Bool) :=
  (r6).bind fun v1 =>
   if (!v1) = true then
    some false
    else (r7 x0 x1 x2 x3).bind fun v2 =>
     if (!(((!v2) || (decide ((a1.length : Int) > 12))) || (decide ((x4.length : Int) > 12)))) = true → (r8 x0 x1 x2 x3 a1).isSome = true then
      if (!((((!v2) || (decide ((a1.length : Int) > 12))) || (decide ((x4.length : Int) > 12))) || (((r8 x0 x1 x2 x3 a1).getD default) != 0))) = true → (r9 x0 x1 x2 x3 x4 x6 x7 x8 x5).isSome = true then
       if (!((((((!v2) || (decide ((a1.length : Int) > 12))) || (decide ((x4.length : Int) > 12))) || (((r8 x0 x1 x2 x3 a1).getD default) != 0)) || (((r9 x0 x1 x2 x3 x4 x6 x7 x8 x5).getD default) != 0)) || (decide (x5 > 20)))) = true → (r10 x0 x1 x2 x3 x9).isSome = true then
        if (!(((((((!v2) || (decide ((a1.length : Int) > 12))) || (decide ((x4.length : Int) > 12))) || (((r8 x0 x1 x2 x3 a1).getD default) != 0)) || (((r9 x0 x1 x2 x3 x4 x6 x7 x8 x5).getD default) != 0)) || (decide (x5 > 20))) || (((r10 x0 x1 x2 x3 x9).getD default) != 0))) = true → (r11 x10 0 10).isSome = true then
         if (!((((((((!v2) || (decide ((a1.length : Int) > 12))) || (decide ((x4.length : Int) > 12))) || (((r8 x0 x1 x2 x3 a1).getD default) != 0)) || (((r9 x0 x1 x2 x3 x4 x6 x7 x8 x5).getD default) != 0)) || (decide (x5 > 20))) || (((r10 x0 x1 x2 x3 x9).getD default) != 0)) || (!((r11 x10 0 10).getD default)))) = true → (r11 x11 0 1000).isSome = true then
          if (((((((((!v2) || (decide ((a1.length : Int) > 12))) || (decide ((x4.length : Int) > 12))) || (((r8 x0 x1 x2 x3 a1).getD default) != 0)) || (((r9 x0 x1 x2 x3 x4 x6 x7 x8 x5).getD default) != 0)) || (decide (x5 > 20))) || (((r10 x0 x1 x2 x3 x9).getD default) != 0)) || (!((r11 x10 0 10).getD default))) || (!((r11 x11 0 1000).getD default))) = true then
           some true
           else (r14 x0 x1 x2 x3).bind fun v3 =>
            (r13 v3.1 v3.2.1 v3.2.2.1 v3.2.2.2).bind fun v4 =>
             (r12 v4).bind fun v5 =>
              if (!(v5.2.2.2.2 != 0)) = true → (r15 v5.1 v5.2.1 v5.2.2.1 v5.2.2.2.1 x0 x1 x2 x3).isSome = true then
               if ((v5.2.2.2.2 != 0) || (!((r15 v5.1 v5.2.1 v5.2.2.1 v5.2.2.2.1 x0 x1 x2 x3).getD default))) = true then
                some false
                else (r17 a1).bind fun v6 =>
                 (r18 x4 x6 x7 x8 x5).bind fun v7 =>
                  (r16 v3.1 v3.2.1 v3.2.2.1 v3.2.2.2 v6 v7.1 v7.2.1 v7.2.2.1 v7.2.2.2.1 v7.2.2.2.2).bind fun v8 =>
                   if (v8.2 != 0) = true then
                    some ((v8.2 == 12) || (v8.2 == 22))
                    else (r11 v8.1 0 x5).bind fun v9 =>
                     if (!v9) = true then
                      some false
                      else iterC (b3_1 x0 x1 x2 x3 a1 x4 x6 x7 x8 x5 x9 x10 x11 v8) 1000000000 ([], 0)
               else none
          else none
         else none
        else none
       else none
      else none
def T3 := qT60 qu1 false r3
attribute [go_sem] T3
def tb3 : Fns := lk [(6, T6.sp), (7, T7.sp), (8, T8.sp), (9, T9.sp), (10, T10.sp), (11, T11.sp), (12, T12.sp), (13, T13.sp), (14, T14.sp), (15, T15.sp), (16, T16.sp), (17, T17.sp), (18, T18.sp), (19, T19.sp), (20, T20.sp), (21, T21.sp), (22, T22.sp), (23, T23.sp), (24, T24.sp)]
theorem tb3_ok : FnsOk Tryz.prog tb3 := .cons f6 (.cons f7 (.cons f8 (.cons f9 (.cons f10 (.cons f11 (.cons f12 (.cons f13 (.cons f14 (.cons f15 (.cons f16 (.cons f17 (.cons f18 (.cons f19 (.cons f20 (.cons f21 (.cons f22 (.cons f23 (.cons f24 .nil))))))))))))))))))
theorem tk3 : tb3 6 = some T6.sp ∧ tb3 7 = some T7.sp ∧ tb3 8 = some T8.sp ∧ tb3 9 = some T9.sp ∧ tb3 10 = some T10.sp ∧ tb3 11 = some T11.sp ∧ tb3 12 = some T12.sp ∧ tb3 13 = some T13.sp ∧ tb3 14 = some T14.sp ∧ tb3 15 = some T15.sp ∧ tb3 16 = some T16.sp ∧ tb3 17 = some T17.sp ∧ tb3 18 = some T18.sp ∧ tb3 19 = some T19.sp ∧ tb3 20 = some T20.sp ∧ tb3 21 = some T21.sp ∧ tb3 22 = some T22.sp ∧ tb3 23 = some T23.sp ∧ tb3 24 = some T24.sp := ⟨rfl, rfl, rfl, rfl, rfl, rfl, rfl, rfl, rfl, rfl, rfl, rfl, rfl, rfl, rfl, rfl, rfl, rfl, rfl⟩
section
attribute [local go_sem] tk3 Tryz.results3
theorem f3 : FnFact Tryz.prog 3 T3.sp := by
  refine valid_m ty_ok tb3_ok Tryz.func3 rfl Tryz.ntmps3 fun ⟨x0, x1, x2, x3, a1, x4, x6, x7, x8, x5, x9, x10, x11⟩ r hr => ⟨nL rfl, fun stop S => ?_⟩
  replace hr : r3 x0 x1 x2 x3 a1 x4 x6 x7 x8 x5 x9 x10 x11 = some r := hr
  unfold r3 at hr
  refine S.gx [4, 5, 10, 11, 25, 26, 30, 32, 35, 37, 39, 40] ?_
  obtain ⟨v1, hv1, hr⟩ := of_bind0 hr
  refine gb hv1 ?_
  refine iW hr (fun hc hr => D0 hr) fun hc hr => ?_
  obtain ⟨v2, hv2, hr⟩ := of_bind0 hr
  obtain ⟨hg54, hr⟩ := of_guard0 hr
  obtain ⟨hg55, hr⟩ := of_guard0 hr
  obtain ⟨hg56, hr⟩ := of_guard0 hr
  obtain ⟨hg57, hr⟩ := of_guard0 hr
  obtain ⟨hg58, hr⟩ := of_guard0 hr
  try simp only [hv2, oG, oI, true_and, and_assoc]
  repeat (first | refine gG hg54 ?_ | refine gG hg55 ?_ | refine gG hg56 ?_ | refine gG hg57 ?_ | refine gG hg58 ?_ | refine gA ?_ | refine gB ?_)
  refine iW hr (fun hc hr => ?_) fun hc hr => ?_
  · refine gr ?_
    refine S.prune [] ?_
    refine S.gx [5, 10, 11, 25, 26, 30, 32, 35, 37, 39, 40] ?_
    exact D0 hr
  · refine gr ?_
    refine S.prune [1, 3, 5] ?_
    refine S.gx [4, 10, 11, 25, 26, 30, 32, 35, 37, 39, 40] ?_
    obtain ⟨v3, hv3, hr⟩ := of_bind0 hr
    obtain ⟨v4, hv4, hr⟩ := of_bind0 hr
    obtain ⟨v5, hv5, hr⟩ := of_bind0 hr
    refine gb hv3 ?_
    refine gb hv4 ?_
    refine gb hv5 ?_
    obtain ⟨hg53, hr⟩ := of_guard0 hr
    repeat (first | refine gG hg53 ?_ | refine gA ?_ | refine gB ?_)
    refine iW hr (fun hc hr => D0 hr) fun hc hr => ?_
    obtain ⟨v6, hv6, hr⟩ := of_bind0 hr
    obtain ⟨v7, hv7, hr⟩ := of_bind0 hr
    obtain ⟨v8, hv8, hr⟩ := of_bind0 hr
    refine gb hv3 ?_
    refine gb hv6 ?_
    refine gb hv7 ?_
    refine gb hv8 ?_
    refine iW hr (fun hc hr => ?_) fun hc hr => ?_
    · refine gr ?_
      refine S.prune [10] ?_
      refine S.gx [4, 5, 11, 25, 26, 30, 32, 35, 37, 39, 40] ?_
      repeat (first | refine gA ?_ | refine gB ?_)
      exact D0 hr
    · refine gr ?_
      refine S.prune [1, 3, 5, 9] ?_
      refine S.gx [4, 5, 10, 25, 26, 30, 32, 35, 37, 39, 40] ?_
      obtain ⟨v9, hv9, hr⟩ := of_bind0 hr
      refine gb hv9 ?_
      refine gr ?_
      refine iW hr (fun hc hr => D0 hr) fun hc hr => ?_
      refine gr ?_
      refine S.own0 11 1001100 2 rfl rfl ?_
      refine S.sees [1, 3, 5, 9, 11, 12, 13] [(3, 3), (5, 5)] [(1001100, 1001100)] ?_ (Stop.iter S (fun s1 => ⟨[(1, .c (.d (encF 1 d_I a1))), (3, .c (.ref 3 0)), (5, .c (.ref 5 0)), (9, .c (.d (.int .i64 v8.1))), (11, .c (.own 1001100)), (12, .c (.nils)), (13, .c (.d (.int .i64 s1.2)))], [(3, [.d (.int .i64 x0), .d (.int .i64 x1), .d (encF 2 d_II x2), .d (encF 1 d_LIIE x3)]), (5, [.d (encF 1 d_I x4), .d (.int .i64 x6), .d (.int .i64 x7), .d (.int .i64 x8), .d (.int .i64 x5), .d (.int .i64 x9), .d (.int .i64 x10), .d (.int .i64 x11)])], [(1001100, .owned (encF 2 d_LIEI s1.1))]⟩) (b3_1 x0 x1 x2 x3 a1 x4 x6 x7 x8 x5 x9 x10 x11 v8) (fun q => q = r) hr rfl ?_)
      · exact lf
      · intro s1 hr
        unfold b3_1 at hr
        refine S.gx [4, 5, 10, 11, 25, 26, 30, 32, 35, 37, 39, 40] ?_
        refine gr ?_
        refine iW1 hr (fun hc hr => D1 (S.ss [1, 3, 5, 9, 11, 12, 13] [(3, 3), (5, 5)] [(136, 1001100)]) hr) fun hc hr => ?_
        refine gr ?_
        have hr := of_out0 hr
        refine gr ?_
        refine S.own0 12 1001200 2 rfl rfl ?_
        refine S.sees [1, 3, 5, 9, 11, 12, 14] [(3, 3), (5, 5)] [(1001200, 1001200), (1001100, 1001100)] ?_ (Stop.iter S (fun s2 => ⟨[(1, .c (.d (encF 1 d_I a1))), (3, .c (.ref 3 0)), (5, .c (.ref 5 0)), (9, .c (.d (.int .i64 v8.1))), (11, .c (.own 1001100)), (12, .c (.own 1001200)), (14, .c (.d (.int .i64 s2.2)))], [(3, [.d (.int .i64 x0), .d (.int .i64 x1), .d (encF 2 d_II x2), .d (encF 1 d_LIIE x3)]), (5, [.d (encF 1 d_I x4), .d (.int .i64 x6), .d (.int .i64 x7), .d (.int .i64 x8), .d (.int .i64 x5), .d (.int .i64 x9), .d (.int .i64 x10), .d (.int .i64 x11)])], [(1001200, .owned (encF 2 d_LIEI s2.1)), (1001100, .owned (encF 2 d_LIEI s1.1))]⟩) (b3_2 x0 x1 x2 x3 a1 x4 x6 x7 x8 x5 x9 x10 x11 v8 s1) (fun q => q = r) hr rfl ?_)
        · exact lf
        · intro s2 hr
          unfold b3_2 at hr
          refine S.gx [4, 5, 10, 11, 25, 26, 30, 32, 35, 37, 39, 40] ?_
          refine gr ?_
          refine iW1 hr (fun hc hr => D1 (S.ss [1, 3, 5, 9, 11, 12, 14] [(3, 3), (5, 5)] [(151, 1001200), (1001100, 1001100)]) hr) fun hc hr => ?_
          refine gr ?_
          have hr := of_out0 hr
          obtain ⟨v14, hv14, hr⟩ := of_bind0 hr
          obtain ⟨v15, hv15, hr⟩ := of_bind0 hr
          obtain ⟨v16, hv16, hr⟩ := of_bind0 hr
          obtain ⟨v17, hv17, hr⟩ := of_bind0 hr
          obtain ⟨v18, hv18, hr⟩ := of_bind0 hr
          try simp only [hv14, hv15, hv16, hv17, hv18, Option.getD_some, Option.isSome_some, true_and, and_assoc]
          repeat (first | refine gA ?_ | refine gB ?_)
          refine iW hr (fun hc hr => ?_) fun hc hr => ?_
          · refine gr ?_
            refine S.prune [] ?_
            refine S.gx [4, 5, 10, 11, 26, 30, 32, 35, 37, 39, 40] ?_
            exact D0 hr
          · refine gr ?_
            refine S.prune [1, 3, 5, 9, 11, 12, 15, 17] ?_
            refine S.gx [4, 5, 10, 11, 25, 30, 32, 35, 37, 39, 40] ?_
            refine gb hv15 ?_
            refine gr ?_
            refine iW hr (fun hc hr => ?_) fun hc hr => ?_
            · obtain ⟨hg35, hr⟩ := of_guard0 hr
              obtain ⟨v19, hv19, hr⟩ := of_bind0 hr
              obtain ⟨v20, hv20, hr⟩ := of_bind0 hr
              obtain ⟨hg36, hr⟩ := of_guard0 hr
              try simp only [hv19, hv20, Option.getD_some, Option.isSome_some, true_and, and_assoc]
              repeat (first | refine gG hg36 ?_ | refine gA ?_ | refine gB ?_)
              refine iW hr (fun hc hr => ?_) fun hc hr => ?_
              · refine gr ?_
                refine S.prune [] ?_
                refine S.gx [4, 5, 10, 11, 25, 26, 32, 35, 37, 39, 40] ?_
                exact D0 hr
              · obtain ⟨hg34, hr⟩ := of_guard0 hr
                refine gb hv16 ?_
                refine S.prune [1, 3, 5, 12, 15, 19, 20] ?_
                refine S.gx [4, 5, 10, 11, 25, 26, 30, 35, 37, 39, 40] ?_
                obtain ⟨v21, hv21, hr⟩ := of_bind0 hr
                obtain ⟨v22, hv22, hr⟩ := of_bind0 hr
                obtain ⟨v23, hv23, hr⟩ := of_bind0 hr
                refine gb hv14 ?_
                refine gb hv21 ?_
                refine gb hv22 ?_
                refine gb hv23 ?_
                obtain ⟨v24, hv24, hr⟩ := of_bind0 hr
                obtain ⟨v25, hv25, hr⟩ := of_bind0 hr
                refine gb hv14 ?_
                refine gb hv15 ?_
                refine gb hv24 ?_
                refine gb hv25 ?_
                refine iW hr (fun hc hr => ?_) fun hc hr => ?_
                · refine gr ?_
                  refine S.prune [] ?_
                  refine S.gx [4, 5, 10, 11, 25, 26, 30, 32, 37, 39, 40] ?_
                  exact D0 hr
                · refine gr ?_
                  refine iW hr (fun hc hr => ?_) fun hc hr => ?_
                  · refine gr ?_
                    refine S.prune [22] ?_
                    refine S.gx [4, 5, 10, 11, 25, 26, 30, 32, 35, 39, 40] ?_
                    exact D0 hr
                  · repeat (first | refine gA ?_ | refine gB ?_)
                    refine iW hr (fun hc hr => ?_) fun hc hr => ?_
                    · refine gr ?_
                      refine S.prune [] ?_
                      refine S.gx [4, 5, 10, 11, 25, 26, 30, 32, 35, 37, 40] ?_
                      exact D0 hr
                    · refine gr ?_
                      refine S.prune [1, 3, 5, 12, 19, 20] ?_
                      refine S.gx [4, 5, 10, 11, 25, 26, 30, 32, 35, 37, 39] ?_
                      obtain ⟨v26, hv26, hr⟩ := of_bind0 hr
                      refine gb hv14 ?_
                      refine gb hv21 ?_
                      refine gb hv22 ?_
                      refine gb hv26 ?_
                      repeat (first | refine gA ?_ | refine gB ?_)
                      refine iW hr (fun hc hr => D0 hr) fun hc hr => ?_
                      obtain ⟨v27, hv27, hr⟩ := of_bind0 hr
                      refine gb hv27 ?_
                      refine S.sees [1, 3, 5, 20, 25, 27, 28] [(3, 3), (5, 5)] [(211, 211), (293, 293)] ?_ (Stop.iter S (fun s3 => ⟨[(1, .c (.d (encF 1 d_I a1))), (3, .c (.ref 3 0)), (5, .c (.ref 5 0)), (20, .c (.own 211)), (25, .c (.own 293)), (27, .c (.d (.int .i64 s3.1))), (28, .c (.d (.int .i64 s3.2)))], [(3, [.d (.int .i64 x0), .d (.int .i64 x1), .d (encF 2 d_II x2), .d (encF 1 d_LIIE x3)]), (5, [.d (encF 1 d_I x4), .d (.int .i64 x6), .d (.int .i64 x7), .d (.int .i64 x8), .d (.int .i64 x5), .d (.int .i64 x9), .d (.int .i64 x10), .d (.int .i64 x11)])], [(211, .shared (encF 2 d_LIEI (v16 ++ s2.1))), (293, .owned (encF 1 d_LIE v26.1))]⟩) (b3_3 x0 x1 x2 x3 a1 x4 x6 x7 x8 x5 x9 x10 x11 s2 v16 v26) (fun q => q = r) hr rfl ?_)
                      · exact lf
                      · intro s3 hr
                        unfold b3_3 at hr
                        refine S.gx [4, 5, 10, 11, 25, 26, 30, 32, 35, 37, 39, 40] ?_
                        refine gr ?_
                        refine iW1 hr (fun hc hr => ?_) fun hc hr => D0 hr
                        obtain ⟨hg30, hr⟩ := of_guard1 hr
                        obtain ⟨hg31, hr⟩ := of_guard1 hr
                        obtain ⟨hg32, hr⟩ := of_guard1 hr
                        repeat (first | refine gG hg31 ?_ | refine gG hg32 ?_ | refine gA ?_ | refine gB ?_)
                        exact D1 (S.ss [1, 3, 5, 20, 25, 27, 28] [(3, 3), (5, 5)] [(211, 211), (293, 293)]) hr
            · obtain ⟨v37, hv37, hr⟩ := of_bind0 hr
              obtain ⟨hg52, hr⟩ := of_guard0 hr
              try simp only [hv37, oG, oI, true_and, and_assoc]
              repeat (first | refine gG hg52 ?_ | refine gA ?_ | refine gB ?_)
              refine iW hr (fun hc hr => ?_) fun hc hr => ?_
              · refine gr ?_
                refine S.prune [] ?_
                refine S.gx [4, 5, 10, 11, 25, 26, 32, 35, 37, 39, 40] ?_
                exact D0 hr
              · obtain ⟨hg51, hr⟩ := of_guard0 hr
                refine gb hv16 ?_
                refine S.prune [1, 3, 5, 12, 15, 19, 20] ?_
                refine S.gx [4, 5, 10, 11, 25, 26, 30, 35, 37, 39, 40] ?_
                obtain ⟨v38, hv38, hr⟩ := of_bind0 hr
                obtain ⟨v39, hv39, hr⟩ := of_bind0 hr
                obtain ⟨v40, hv40, hr⟩ := of_bind0 hr
                refine gb hv14 ?_
                refine gb hv38 ?_
                refine gb hv39 ?_
                refine gb hv40 ?_
                obtain ⟨v41, hv41, hr⟩ := of_bind0 hr
                obtain ⟨v42, hv42, hr⟩ := of_bind0 hr
                refine gb hv14 ?_
                refine gb hv15 ?_
                refine gb hv41 ?_
                refine gb hv42 ?_
                refine iW hr (fun hc hr => ?_) fun hc hr => ?_
                · refine gr ?_
                  refine S.prune [] ?_
                  refine S.gx [4, 5, 10, 11, 25, 26, 30, 32, 37, 39, 40] ?_
                  exact D0 hr
                · refine gr ?_
                  refine iW hr (fun hc hr => ?_) fun hc hr => ?_
                  · refine gr ?_
                    refine S.prune [22] ?_
                    refine S.gx [4, 5, 10, 11, 25, 26, 30, 32, 35, 39, 40] ?_
                    exact D0 hr
                  · repeat (first | refine gA ?_ | refine gB ?_)
                    refine iW hr (fun hc hr => ?_) fun hc hr => ?_
                    · refine gr ?_
                      refine S.prune [] ?_
                      refine S.gx [4, 5, 10, 11, 25, 26, 30, 32, 35, 37, 40] ?_
                      exact D0 hr
                    · refine gr ?_
                      refine S.prune [1, 3, 5, 12, 19, 20] ?_
                      refine S.gx [4, 5, 10, 11, 25, 26, 30, 32, 35, 37, 39] ?_
                      obtain ⟨v43, hv43, hr⟩ := of_bind0 hr
                      refine gb hv14 ?_
                      refine gb hv38 ?_
                      refine gb hv39 ?_
                      refine gb hv43 ?_
                      repeat (first | refine gA ?_ | refine gB ?_)
                      refine iW hr (fun hc hr => D0 hr) fun hc hr => ?_
                      obtain ⟨v44, hv44, hr⟩ := of_bind0 hr
                      refine gb hv44 ?_
                      refine S.sees [1, 3, 5, 20, 25, 27, 28] [(3, 3), (5, 5)] [(211, 211), (293, 293)] ?_ (Stop.iter S (fun s4 => ⟨[(1, .c (.d (encF 1 d_I a1))), (3, .c (.ref 3 0)), (5, .c (.ref 5 0)), (20, .c (.own 211)), (25, .c (.own 293)), (27, .c (.d (.int .i64 s4.1))), (28, .c (.d (.int .i64 s4.2)))], [(3, [.d (.int .i64 x0), .d (.int .i64 x1), .d (encF 2 d_II x2), .d (encF 1 d_LIIE x3)]), (5, [.d (encF 1 d_I x4), .d (.int .i64 x6), .d (.int .i64 x7), .d (.int .i64 x8), .d (.int .i64 x5), .d (.int .i64 x9), .d (.int .i64 x10), .d (.int .i64 x11)])], [(211, .shared (encF 2 d_LIEI (v16 ++ s2.1))), (293, .owned (encF 1 d_LIE v43.1))]⟩) (b3_4 x0 x1 x2 x3 a1 x4 x6 x7 x8 x5 x9 x10 x11 s2 v16 v43) (fun q => q = r) hr rfl ?_)
                      · exact lf
                      · intro s4 hr
                        unfold b3_4 at hr
                        refine S.gx [4, 5, 10, 11, 25, 26, 30, 32, 35, 37, 39, 40] ?_
                        refine gr ?_
                        refine iW1 hr (fun hc hr => ?_) fun hc hr => D0 hr
                        obtain ⟨hg47, hr⟩ := of_guard1 hr
                        obtain ⟨hg48, hr⟩ := of_guard1 hr
                        obtain ⟨hg49, hr⟩ := of_guard1 hr
                        repeat (first | refine gG hg48 ?_ | refine gG hg49 ?_ | refine gA ?_ | refine gB ?_)
                        exact D1 (S.ss [1, 3, 5, 20, 25, 27, 28] [(3, 3), (5, 5)] [(211, 211), (293, 293)]) hr
end
end Go.Proofs.YthldpejmofhaoaaGreatDoor

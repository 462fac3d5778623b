/- Contracts of functions, written by wip/dec. -/
import Derived.Test.YtfkmbdfajpdjjaaDoorF00
import Derived.Test.YtfkmbdfajpdjjaaDoorF01
import Derived.Test.YtfkmbdfajpdjjaaDoorF02
import Derived.Test.YtfkmbdfajpdjjaaDoorF03
set_option linter.unusedVariables false
set_option linter.unusedSimpArgs false
set_option maxHeartbeats 4000000
set_option maxRecDepth 20000
namespace Go.Proofs.YtfkmbdfajpdjjaaDoor
open Go.Abs
abbrev qA28 := (List (Int × Int)) × Int
def qw28 (a0 : List (Int × Int)) (a1 : Int) : List Arg := [.c (encF 2 d_II a0), .c (.int .i64 a1)]
def qE28 : qA28 → List Arg := fun ⟨a0, a1⟩ => qw28 a0 a1
def qd28 (a : List Arg) : qA28 := (decF g_II (aCell a 0 0), dInt (aCell a 1 0))
def qp28 {β : Type} (f : (List (Int × Int)) → Int → β) (c0 c1 : D) : β := f (decF g_II c0) (dInt c1)
def qt28 (c0 c1 : D) : List Arg := [.c c0, .c c1]
attribute [go_sem] qw28 qp28 qt28 qE28
/- martensite/steel.BandOf -/
def r58 (x0 : List (Int × Int × Int × Int)) (x1 : List (Int × Int × Int × Int × Int)) (x2 : List (Int × Int × Int)) (x3 : List (Int × Int)) (x4 : Int) (x5 : Int) (x6 : Int) (x7 : Int) (x8 : Int) (x9 : Int) (x10 : Int) (x11 : Int) (x12 : Int) (x13 : Int) (x14 : Int) (x15 : Int) (x16 : Int) (x17 : Int) (x18 : Int) (x19 : Int) (x20 : Int) (x21 : Int) : Option (Int × Int × Int) :=
  (r73 x0 x1 x2 x3 x4 x5 x6 x7).bind fun v1 =>
   (r102 x8 x9 x10 x11 x12 x13 x14 x15 x16 x17 x18 x19 x20 x21).bind fun v2 =>
    (r67 [v1, v2]).bind fun v3 =>
     if (v3 != 0) = true then
      some (0, 0, v3)
      else (r105 x0 x1 x2 x3 x4 x5 x6 x7 x8 x9 x10 x11 x12 x13 x14 x15 x16 x17 x18 x19 x20 x21).bind fun v4 =>
       some (v4.1, v4.2, 0)
def T58 : TSpec qA27 := mkT qE27 qd27 (fun ⟨x0, x1, x2, x3, x4, x5, x6, x7, x8, x9, x10, x11, x12, x13, x14, x15, x16, x17, x18, x19, x20, x21⟩ => r58 x0 x1 x2 x3 x4 x5 x6 x7 x8 x9 x10 x11 x12 x13 x14 x15 x16 x17 x18 x19 x20 x21) qu14 false
theorem TP58 (c0 c1 c2 c3 c4 c5 c6 c7 c8 c9 c10 c11 c12 c13 c14 c15 c16 c17 c18 c19 c20 c21 : D) : T58.sp.pre [.agg [c0, c1, c2, c3, c4, c5, c6, c7], .agg [c8, c9, c10, c11, c12, c13, c14, c15, c16, c17, c18, c19, c20, c21]] = (eqvArgs (qt27 c0 c1 c2 c3 c4 c5 c6 c7 c8 c9 c10 c11 c12 c13 c14 c15 c16 c17 c18 c19 c20 c21) (qp27 qw27 c0 c1 c2 c3 c4 c5 c6 c7 c8 c9 c10 c11 c12 c13 c14 c15 c16 c17 c18 c19 c20 c21) ∧ (qp27 r58 c0 c1 c2 c3 c4 c5 c6 c7 c8 c9 c10 c11 c12 c13 c14 c15 c16 c17 c18 c19 c20 c21).isSome = true) := (rfl)
theorem TR58 (c0 c1 c2 c3 c4 c5 c6 c7 c8 c9 c10 c11 c12 c13 c14 c15 c16 c17 c18 c19 c20 c21 : D) : T58.sp.res [.agg [c0, c1, c2, c3, c4, c5, c6, c7], .agg [c8, c9, c10, c11, c12, c13, c14, c15, c16, c17, c18, c19, c20, c21]] = qu14 ((qp27 r58 c0 c1 c2 c3 c4 c5 c6 c7 c8 c9 c10 c11 c12 c13 c14 c15 c16 c17 c18 c19 c20 c21).getD default) := (rfl)
theorem TA58 : T58.sp.alias = false := (rfl)
def tb58 : Fns := lk [(67, T67.sp), (73, T73.sp), (102, T102.sp), (105, T105.sp)]
theorem tb58_ok : FnsOk Tryd.prog tb58 := .cons f67 (.cons f73 (.cons f102 (.cons f105 (FnsOk.nil))))
theorem tb58_67 : tb58 67 = some T67.sp := rfl
theorem tb58_73 : tb58 73 = some T73.sp := rfl
theorem tb58_102 : tb58 102 = some T102.sp := rfl
theorem tb58_105 : tb58 105 = some T105.sp := rfl
attribute [go_sem] TP58 TR58 TA58
section
attribute [local go_sem] T58 tb58_67 tb58_73 tb58_102 tb58_105 Tryd.results58
theorem v58 : Valid Tryd.prog 58 T58.sp := by
 refine valid_t (fn := Tryd.f58) (n := 21) ty_ok tb58_ok Tryd.func58 rfl Tryd.ntmps58 ?_
 rintro ⟨x0, x1, x2, x3, x4, x5, x6, x7, x8, x9, x10, x11, x12, x13, x14, x15, x16, x17, x18, x19, x20, x21⟩ hx
 obtain ⟨r, hr⟩ := oE (show (r58 x0 x1 x2 x3 x4 x5 x6 x7 x8 x9 x10 x11 x12 x13 x14 x15 x16 x17 x18 x19 x20 x21).isSome = true from hx)
 have hres : T58.res (x0, x1, x2, x3, x4, x5, x6, x7, x8, x9, x10, x11, x12, x13, x14, x15, x16, x17, x18, x19, x20, x21) = qu14 r := by simp only [T58, mkT, hr, oG]
 refine ⟨nL rfl, fun stop S => ?_⟩
 rw [hres] at S
 unfold r58 at hr
 refine S.gx [] ?_
 obtain ⟨v1, hv1, hr⟩ := of_bind0 hr
 obtain ⟨v2, hv2, hr⟩ := of_bind0 hr
 obtain ⟨v3, hv3, hr⟩ := of_bind0 hr
 try simp only [hv1, hv2, hv3, Option.getD_some, Option.isSome_some, true_and, and_assoc]
 repeat refine gA ?_
 refine ⟨?_, ?_⟩ <;> intro hc
 ·have hr := ifP hr hc
  repeat refine gA ?_
  cases hr
  exact lf
 ·have hr := ifN hr hc
  obtain ⟨v4, hv4, hr⟩ := of_bind0 hr
  try simp only [hv4, oG, oI, true_and, and_assoc]
  repeat refine gA ?_
  cases hr
  exact lf
theorem f58 : FnFact Tryd.prog 58 T58.sp := ⟨⟨Tryd.f58, Tryd.func58, by decide, rfl⟩, v58⟩
end

/- martensite/steel.isHard -/
def r77 (a0 : Int) : Option (Bool) :=
  (r66 a0 0 2000).bind fun v1 =>
   some v1
def T77 : TSpec qA3 := mkT qE3 qd3 r77 qu3 false
theorem TP77 (c0 : D) : T77.sp.pre [.c c0] = (eqvArgs (qt3 c0) (qp3 qw3 c0) ∧ (qp3 r77 c0).isSome = true) := (rfl)
theorem TR77 (c0 : D) : T77.sp.res [.c c0] = qu3 ((qp3 r77 c0).getD default) := (rfl)
theorem TA77 : T77.sp.alias = false := (rfl)
def tb77 : Fns := lk [(66, T66.sp)]
theorem tb77_ok : FnsOk Tryd.prog tb77 := .cons f66 (FnsOk.nil)
theorem tb77_66 : tb77 66 = some T66.sp := rfl
attribute [go_sem] TP77 TR77 TA77
section
attribute [local go_sem] T77 tb77_66 Tryd.results77
theorem v77 : Valid Tryd.prog 77 T77.sp := by
 refine valid_t (fn := Tryd.f77) (n := 5) ty_ok tb77_ok Tryd.func77 rfl Tryd.ntmps77 ?_
 rintro a0 hx
 obtain ⟨r, hr⟩ := oE (show (r77 a0).isSome = true from hx)
 have hres : T77.res a0 = qu3 r := by simp only [T77, mkT, hr, oG]
 refine ⟨nL rfl, fun stop S => ?_⟩
 rw [hres] at S
 unfold r77 at hr
 refine S.gx [] ?_
 obtain ⟨v1, hv1, hr⟩ := of_bind0 hr
 try simp only [hv1, oG, oI, true_and, and_assoc]
 repeat refine gA ?_
 cases hr
 exact lf
theorem f77 : FnFact Tryd.prog 77 T77.sp := ⟨⟨Tryd.f77, Tryd.func77, by decide, rfl⟩, v77⟩
end

/- martensite/steel.hardErr -/
def r76 (x1 : Int) (x0 : Int) : Option (Int) :=
  (r77 x1).bind fun v1 =>
   if v1 = true → (r77 x0).isSome = true then
    (r68 (v1 && ((r77 x0).getD default)) 2).bind fun v2 =>
     (r68 (decide (x1 ≤ x0)) 9).bind fun v3 =>
      (r67 [v2, v3]).bind fun v4 =>
       some v4
    else none
def T76 : TSpec qA4 := mkT qE4 qd4 (fun ⟨x1, x0⟩ => r76 x1 x0) qu4 false
theorem TP76 (c0 c1 : D) : T76.sp.pre [.agg [c0, c1]] = (eqvArgs (qt4 c0 c1) (qp4 qw4 c0 c1) ∧ (qp4 r76 c0 c1).isSome = true) := (rfl)
theorem TR76 (c0 c1 : D) : T76.sp.res [.agg [c0, c1]] = qu4 ((qp4 r76 c0 c1).getD default) := (rfl)
theorem TA76 : T76.sp.alias = false := (rfl)
def tb76 : Fns := lk [(67, T67.sp), (68, T68.sp), (77, T77.sp)]
theorem tb76_ok : FnsOk Tryd.prog tb76 := .cons f67 (.cons f68 (.cons f77 (FnsOk.nil)))
theorem tb76_67 : tb76 67 = some T67.sp := rfl
theorem tb76_68 : tb76 68 = some T68.sp := rfl
theorem tb76_77 : tb76 77 = some T77.sp := rfl
attribute [go_sem] TP76 TR76 TA76
section
attribute [local go_sem] T76 tb76_67 tb76_68 tb76_77 Tryd.results76
theorem v76 : Valid Tryd.prog 76 T76.sp := by
 refine valid_t (fn := Tryd.f76) (n := 20) ty_ok tb76_ok Tryd.func76 rfl Tryd.ntmps76 ?_
 rintro ⟨x1, x0⟩ hx
 obtain ⟨r, hr⟩ := oE (show (r76 x1 x0).isSome = true from hx)
 have hres : T76.res (x1, x0) = qu4 r := by simp only [T76, mkT, hr, oG]
 refine ⟨nL rfl, fun stop S => ?_⟩
 rw [hres] at S
 unfold r76 at hr
 refine S.gx [] ?_
 obtain ⟨v1, hv1, hr⟩ := of_bind0 hr
 obtain ⟨hg5, hr⟩ := of_guard0 hr
 obtain ⟨v2, hv2, hr⟩ := of_bind0 hr
 obtain ⟨v3, hv3, hr⟩ := of_bind0 hr
 obtain ⟨v4, hv4, hr⟩ := of_bind0 hr
 try simp only [hv1, hv2, hv3, hv4, Option.getD_some, Option.isSome_some, true_and, and_assoc]
 repeat (first | refine gG hg5 ?_ | refine gA ?_ | refine gB ?_)
 cases hr
 exact lf
theorem f76 : FnFact Tryd.prog 76 T76.sp := ⟨⟨Tryd.f76, Tryd.func76, by decide, rfl⟩, v76⟩
end

/- martensite/steel.CaseDepth$2 -/
def r81 (x0 : Int) (x1 : Int) : Option (Int) :=
  some x0
def T81 : TSpec qA4 := mkT qE4 qd4 (fun ⟨x0, x1⟩ => r81 x0 x1) qu4 false
theorem TP81 (c0 c1 : D) : T81.sp.pre [.agg [c0, c1]] = (eqvArgs (qt4 c0 c1) (qp4 qw4 c0 c1) ∧ (qp4 r81 c0 c1).isSome = true) := (rfl)
theorem TR81 (c0 c1 : D) : T81.sp.res [.agg [c0, c1]] = qu4 ((qp4 r81 c0 c1).getD default) := (rfl)
theorem TA81 : T81.sp.alias = false := (rfl)
def tb81 : Fns := lk []
theorem tb81_ok : FnsOk Tryd.prog tb81 := FnsOk.nil
attribute [go_sem] TP81 TR81 TA81
section
attribute [local go_sem] T81 Tryd.results81
theorem v81 : Valid Tryd.prog 81 T81.sp := by
 refine valid_t (fn := Tryd.f81) (n := 5) ty_ok tb81_ok Tryd.func81 rfl Tryd.ntmps81 ?_
 rintro ⟨x0, x1⟩ hx
 obtain ⟨r, hr⟩ := oE (show (r81 x0 x1).isSome = true from hx)
 have hres : T81.res (x0, x1) = qu4 r := by simp only [T81, mkT, hr, oG]
 refine ⟨nL rfl, fun stop S => ?_⟩
 rw [hres] at S
 unfold r81 at hr
 refine S.gx [] ?_
 repeat refine gA ?_
 cases hr
 exact lf
theorem f81 : FnFact Tryd.prog 81 T81.sp := ⟨⟨Tryd.f81, Tryd.func81, by decide, rfl⟩, v81⟩
end

/- martensite/steel.CaseDepth$3 -/
def r82 (x1 : Int) (x0 : Int) : Option (Int) :=
  some x0
def T82 : TSpec qA4 := mkT qE4 qd4 (fun ⟨x1, x0⟩ => r82 x1 x0) qu4 false
theorem TP82 (c0 c1 : D) : T82.sp.pre [.agg [c0, c1]] = (eqvArgs (qt4 c0 c1) (qp4 qw4 c0 c1) ∧ (qp4 r82 c0 c1).isSome = true) := (rfl)
theorem TR82 (c0 c1 : D) : T82.sp.res [.agg [c0, c1]] = qu4 ((qp4 r82 c0 c1).getD default) := (rfl)
theorem TA82 : T82.sp.alias = false := (rfl)
def tb82 : Fns := lk []
theorem tb82_ok : FnsOk Tryd.prog tb82 := FnsOk.nil
attribute [go_sem] TP82 TR82 TA82
section
attribute [local go_sem] T82 Tryd.results82
theorem v82 : Valid Tryd.prog 82 T82.sp := by
 refine valid_t (fn := Tryd.f82) (n := 5) ty_ok tb82_ok Tryd.func82 rfl Tryd.ntmps82 ?_
 rintro ⟨x1, x0⟩ hx
 obtain ⟨r, hr⟩ := oE (show (r82 x1 x0).isSome = true from hx)
 have hres : T82.res (x1, x0) = qu4 r := by simp only [T82, mkT, hr, oG]
 refine ⟨nL rfl, fun stop S => ?_⟩
 rw [hres] at S
 unfold r82 at hr
 refine S.gx [] ?_
 repeat refine gA ?_
 cases hr
 exact lf
theorem f82 : FnFact Tryd.prog 82 T82.sp := ⟨⟨Tryd.f82, Tryd.func82, by decide, rfl⟩, v82⟩
end

/- martensite/steel.CaseDepth -/
def b25_3 (a0 : List (Int × Int)) (a1 : Int) (s2 : Int) : (Int) → Ctl (Int) (Int × Int × Int) := fun s3 =>
  if (decide (s3 < (a0.length : Int))) = true then
   if 0 ≤ s3 ∧ s3 < (a0.length : Int) then
    bindC (r82 ((a0.getD s3.toNat default).1) ((a0.getD s3.toNat default).2)) fun v9 =>
     if (decide (v9 < a1)) = true then
      .out (if (decide (s3 ≥ 0)) = true then
       some (s2, s3, 0)
       else some (s2, (a0.length : Int), 0))
      else .next (IntKind.i64.wrap (s3 + 1))
    else .out none
   else .out (if (decide ((-1) ≥ 0)) = true then
    some (s2, (-1), 0)
    else some (s2, (a0.length : Int), 0))
def b25_4 (a0 : List (Int × Int)) (a1 : Int) : (Int) → Ctl (Int) (Int × Int × Int) := fun s4 =>
  if (decide (s4 < (a0.length : Int))) = true then
   if 0 ≤ s4 ∧ s4 < (a0.length : Int) then
    bindC (r82 ((a0.getD s4.toNat default).1) ((a0.getD s4.toNat default).2)) fun v11 =>
     if (decide (v11 < a1)) = true then
      .out (if (decide (s4 ≥ 0)) = true then
       some ((a0.length : Int), s4, 0)
       else some ((a0.length : Int), (a0.length : Int), 0))
      else .next (IntKind.i64.wrap (s4 + 1))
    else .out none
   else .out (if (decide ((-1) ≥ 0)) = true then
    some ((a0.length : Int), (-1), 0)
    else some ((a0.length : Int), (a0.length : Int), 0))
def b25_5 (a0 : List (Int × Int)) (a1 : Int) : (Int) → Ctl (Int) (Int × Int × Int) := fun s5 =>
  if (decide (s5 < (a0.length : Int))) = true then
   if 0 ≤ s5 ∧ s5 < (a0.length : Int) then
    bindC (r82 ((a0.getD s5.toNat default).1) ((a0.getD s5.toNat default).2)) fun v14 =>
     if (decide (v14 < a1)) = true then
      .out (if (decide (s5 ≥ 0)) = true then
       some ((-1), s5, 0)
       else some ((-1), (a0.length : Int), 0))
      else .next (IntKind.i64.wrap (s5 + 1))
    else .out none
   else .out (if (decide ((-1) ≥ 0)) = true then
    some ((-1), (-1), 0)
    else some ((-1), (a0.length : Int), 0))
def b25_6 (a0 : List (Int × Int)) (a1 : Int) : (Int) → Ctl (Int) (Int × Int × Int) := fun s6 =>
  if (decide (s6 < (a0.length : Int))) = true then
   if 0 ≤ s6 ∧ s6 < (a0.length : Int) then
    bindC (r82 ((a0.getD s6.toNat default).1) ((a0.getD s6.toNat default).2)) fun v16 =>
     if (decide (v16 < a1)) = true then
      .out (if (decide (s6 ≥ 0)) = true then
       some ((a0.length : Int), s6, 0)
       else some ((a0.length : Int), (a0.length : Int), 0))
      else .next (IntKind.i64.wrap (s6 + 1))
    else .out none
   else .out (if (decide ((-1) ≥ 0)) = true then
    some ((a0.length : Int), (-1), 0)
    else some ((a0.length : Int), (a0.length : Int), 0))
def b25_2 (a0 : List (Int × Int)) (a1 : Int) : (Int) → Ctl (Int) (Int × Int × Int) := fun s2 =>
  if (decide (s2 < (a0.length : Int))) = true then
   if 0 ≤ s2 ∧ s2 < (a0.length : Int) then
    bindC (r81 ((a0.getD s2.toNat default).1) ((a0.getD s2.toNat default).2)) fun v8 =>
     if (decide (v8 < a1)) = true then
      .out (if (decide (s2 ≥ 0)) = true then
       iterC (b25_3 a0 a1 s2) 1000000000 0
       else iterC (b25_4 a0 a1) 1000000000 0)
      else .next (IntKind.i64.wrap (s2 + 1))
    else .out none
   else .out (if (decide ((-1) ≥ 0)) = true then
    iterC (b25_5 a0 a1) 1000000000 0
    else iterC (b25_6 a0 a1) 1000000000 0)
def b25_1 (a0 : List (Int × Int)) (a1 : Int) : (Int × Int) → Ctl (Int × Int) (Int × Int × Int) := fun s1 =>
  if (decide (s1.2 < (a0.length : Int))) = true then
   if 0 ≤ s1.2 ∧ s1.2 < (a0.length : Int) then
    bindC (r76 ((a0.getD s1.2.toNat default).1) ((a0.getD s1.2.toNat default).2)) fun v2 =>
     bindC (r67 [s1.1, v2]) fun v3 =>
      .next (v3, IntKind.i64.wrap (s1.2 + 1))
    else .out none
   else .out ((r77 a1).bind fun v5 =>
    (r68 v5 2).bind fun v6 =>
     (r67 [s1.1, v6]).bind fun v7 =>
      if (v7 != 0) = true then
       some (0, 0, v7)
       else iterC (b25_2 a0 a1) 1000000000 0)
def r25 (a0 : List (Int × Int)) (a1 : Int) : Option (Int × Int × Int) :=
  (r68 (decide ((a0.length : Int) ≤ 12)) 8).bind fun v1 =>
   iterC (b25_1 a0 a1) 1000000000 (v1, 0)
def T25 : TSpec qA28 := mkT qE28 qd28 (fun ⟨a0, a1⟩ => r25 a0 a1) qu14 false
theorem TP25 (c0 c1 : D) : T25.sp.pre [.c c0, .c c1] = (eqvArgs (qt28 c0 c1) (qp28 qw28 c0 c1) ∧ (qp28 r25 c0 c1).isSome = true) := (rfl)
theorem TR25 (c0 c1 : D) : T25.sp.res [.c c0, .c c1] = qu14 ((qp28 r25 c0 c1).getD default) := (rfl)
theorem TA25 : T25.sp.alias = false := (rfl)
def tb25 : Fns := lk [(67, T67.sp), (68, T68.sp), (76, T76.sp), (77, T77.sp), (81, T81.sp), (82, T82.sp)]
theorem tb25_ok : FnsOk Tryd.prog tb25 := .cons f67 (.cons f68 (.cons f76 (.cons f77 (.cons f81 (.cons f82 (FnsOk.nil))))))
theorem tb25_67 : tb25 67 = some T67.sp := rfl
theorem tb25_68 : tb25 68 = some T68.sp := rfl
theorem tb25_76 : tb25 76 = some T76.sp := rfl
theorem tb25_77 : tb25 77 = some T77.sp := rfl
theorem tb25_81 : tb25 81 = some T81.sp := rfl
theorem tb25_82 : tb25 82 = some T82.sp := rfl
attribute [go_sem] TP25 TR25 TA25
section
attribute [local go_sem] T25 tb25_67 tb25_68 tb25_76 tb25_77 tb25_81 tb25_82 Tryd.results25 Tryd.results78 Tryd.results79 Tryd.results80
theorem v25 : Valid Tryd.prog 25 T25.sp := by
 refine valid_t (fn := Tryd.f25) (n := 42) ty_ok tb25_ok Tryd.func25 rfl Tryd.ntmps25 ?_
 rintro ⟨a0, a1⟩ hx
 obtain ⟨r, hr⟩ := oE (show (r25 a0 a1).isSome = true from hx)
 have hres : T25.res (a0, a1) = qu14 r := by simp only [T25, mkT, hr, oG]
 refine ⟨nL rfl, fun stop S => ?_⟩
 rw [hres] at S
 unfold r25 at hr
 refine S.gx [11] ?_
 obtain ⟨v1, hv1, hr⟩ := of_bind0 hr
 try simp only [hv1, oG, oI, true_and, and_assoc]
 repeat refine gA ?_
 refine S.sees [2, 3, 4, 6, 14, 15, 16] [(2, 2), (3, 3), (4, 4)] [] ?_ (Stop.iter S (fun s1 => ⟨[(2, .c (.ref 2 0)), (3, .c (.ref 3 0)), (4, .c (.ref 4 0)), (6, .c (.d (.int .i64 s1.1))), (14, .c (.d (encF 2 d_II a0))), (15, .c (.d (.int .i64 (a0.length : Int)))), (16, .c (.d (.int .i64 s1.2)))], [(2, [.d (encF 2 d_II a0)]), (3, [.d (.int .i64 a1)]), (4, [.d (.int .i64 0), .d (.int .i64 0)])], []⟩) (b25_1 a0 a1) (fun q => q = r) hr rfl ?_)
 ·exact lf
 ·intro s1 hr
  unfold b25_1 at hr
  refine S.gx [11] ?_
  repeat refine gA ?_
  refine ⟨?_, ?_⟩ <;> intro hc
  ·have hr := ifP1 hr hc
   obtain ⟨hg4, hr⟩ := of_guard1 hr
   obtain ⟨v2, hv2, hr⟩ := of_bind1 hr
   obtain ⟨v3, hv3, hr⟩ := of_bind1 hr
   try simp only [hv2, hv3, Option.getD_some, Option.isSome_some, true_and, and_assoc]
   repeat refine gA ?_
   refine S.sees [2, 3, 4, 6, 14, 15, 16] [(2, 2), (3, 3), (4, 4)] [] ?_ hr
   exact lf
  ·have hr := ifN1 hr hc
   repeat refine gA ?_
   have hr := of_out0 hr
   obtain ⟨v5, hv5, hr⟩ := of_bind0 hr
   obtain ⟨v6, hv6, hr⟩ := of_bind0 hr
   obtain ⟨v7, hv7, hr⟩ := of_bind0 hr
   try simp only [hv5, hv6, hv7, Option.getD_some, Option.isSome_some, true_and, and_assoc]
   repeat refine gA ?_
   refine ⟨?_, ?_⟩ <;> intro hc
   ·have hr := ifP hr hc
    repeat refine gA ?_
    cases hr
    exact lf
   ·have hr := ifN hr hc
    repeat refine gA ?_
    refine S.reg0 ?_
    refine S.opsTo 0 1 (nL rfl) (nL rfl) ?_
    refine gs ?_
    repeat refine gA ?_
    refine S.inlO 1 [4, 9] [.ref 2 0, .ref 3 0] Tryd.func78 (by decide) rfl Tryd.ntmps78 (fun cx e => drawn_ok ty_ok tb25_ok cx e) (some 38) rfl rfl rfl rfl (nL rfl) (nL rfl) ?_
    refine gs ?_
    repeat refine gA ?_
    intro stop1 S1
    refine S1.gx [1] ?_
    repeat refine gA ?_
    refine S1.inl 2 [1] [] Tryd.func79 (by decide) rfl Tryd.ntmps79 (fun cx e => drawn_ok ty_ok tb25_ok cx e) (some 8) rfl rfl rfl rfl (nL rfl) (nL rfl) ?_
    refine gs ?_
    repeat refine gA ?_
    intro stop2 S2
    refine S2.gx [4] ?_
    repeat refine gA ?_
    refine S2.sees [0, 1, 7, 8] [(100003, 100003), (3, 3), (2, 2), (4, 4)] [] ?_ (Stop.iter S2 (fun s2 => ⟨[(0, .c (.d (encF 2 d_II a0))), (1, .c (.clo 80 [.ref 100003 0, .ref 3 0])), (7, .c (.d (.int .i64 (a0.length : Int)))), (8, .c (.d (.int .i64 s2)))], [(100003, [.clo 81 []]), (3, [.d (.int .i64 a1)]), (2, [.d (encF 2 d_II a0)]), (4, [.d (.int .i64 0), .d (.int .i64 0)])], []⟩) (b25_2 a0 a1) (fun q => q = r) hr rfl ?_)
    ·exact lf
    ·intro s2 hr
     unfold b25_2 at hr
     refine S2.gx [4] ?_
     repeat refine gA ?_
     refine ⟨?_, ?_⟩ <;> intro hc
     ·have hr := ifP1 hr hc
      repeat refine gA ?_
      refine S2.inl 5 [0, 1, 5, 7, 8] [.ref 100003 0, .ref 3 0] Tryd.func80 (by decide) rfl Tryd.ntmps80 (fun cx e => drawn_ok ty_ok tb25_ok cx e) (some 16) rfl rfl rfl rfl (nL rfl) (nL rfl) ?_
      refine gs ?_
      obtain ⟨hg13, hr⟩ := of_guard1 hr
      repeat refine gA ?_
      intro stop3 S3
      refine S3.gx [1] ?_
      repeat refine gA ?_
      refine S3.gx [] ?_
      obtain ⟨v8, hv8, hr⟩ := of_bind1 hr
      try simp only [hv8, oG, oI, true_and, and_assoc]
      repeat refine gA ?_
      refine S2.gx [4] ?_
      repeat refine gA ?_
      refine ⟨?_, ?_⟩ <;> intro hc
      ·have hr := ifP1 hr hc
       repeat refine gA ?_
       have hr := of_out0 hr
       repeat refine gA ?_
       refine S1.gx [1] ?_
       repeat refine gA ?_
       refine ⟨?_, ?_⟩ <;> intro hc
       ·have hr := ifP hr hc
        repeat refine gA ?_
        refine S.opsTo 2 3 (nL rfl) (nL rfl) ?_
        refine gs ?_
        repeat refine gA ?_
        refine S.inlO 3 [4, 38] [.ref 2 0, .ref 3 0] Tryd.func78 (by decide) rfl Tryd.ntmps78 (fun cx e => drawn_ok ty_ok tb25_ok cx e) (some 40) rfl rfl rfl rfl (nL rfl) (nL rfl) ?_
        refine gs ?_
        repeat refine gA ?_
        intro stop1 S1
        refine S1.gx [1] ?_
        repeat refine gA ?_
        refine S1.inl 2 [1] [] Tryd.func79 (by decide) rfl Tryd.ntmps79 (fun cx e => drawn_ok ty_ok tb25_ok cx e) (some 8) rfl rfl rfl rfl (nL rfl) (nL rfl) ?_
        refine gs ?_
        repeat refine gA ?_
        intro stop2 S2
        refine S2.gx [4] ?_
        repeat refine gA ?_
        refine S2.sees [0, 1, 7, 8] [(300003, 300003), (3, 3), (2, 2), (4, 4)] [] ?_ (Stop.iter S2 (fun s3 => ⟨[(0, .c (.d (encF 2 d_II a0))), (1, .c (.clo 80 [.ref 300003 0, .ref 3 0])), (7, .c (.d (.int .i64 (a0.length : Int)))), (8, .c (.d (.int .i64 s3)))], [(300003, [.clo 82 []]), (3, [.d (.int .i64 a1)]), (2, [.d (encF 2 d_II a0)]), (4, [.d (.int .i64 0), .d (.int .i64 0)])], []⟩) (b25_3 a0 a1 s2) (fun q => q = r) hr rfl ?_)
        ·exact lf
        ·intro s3 hr
         unfold b25_3 at hr
         refine S2.gx [4] ?_
         repeat refine gA ?_
         refine ⟨?_, ?_⟩ <;> intro hc
         ·have hr := ifP1 hr hc
          repeat refine gA ?_
          refine S2.inl 5 [0, 1, 5, 7, 8] [.ref 300003 0, .ref 3 0] Tryd.func80 (by decide) rfl Tryd.ntmps80 (fun cx e => drawn_ok ty_ok tb25_ok cx e) (some 16) rfl rfl rfl rfl (nL rfl) (nL rfl) ?_
          refine gs ?_
          obtain ⟨hg10, hr⟩ := of_guard1 hr
          repeat refine gA ?_
          intro stop3 S3
          refine S3.gx [1] ?_
          repeat refine gA ?_
          refine S3.gx [] ?_
          obtain ⟨v9, hv9, hr⟩ := of_bind1 hr
          try simp only [hv9, oG, oI, true_and, and_assoc]
          repeat refine gA ?_
          refine S2.gx [4] ?_
          repeat refine gA ?_
          refine ⟨?_, ?_⟩ <;> intro hc
          ·have hr := ifP1 hr hc
           repeat refine gA ?_
           have hr := of_out0 hr
           repeat refine gA ?_
           refine S1.gx [1] ?_
           repeat refine gA ?_
           refine ⟨?_, ?_⟩ <;> intro hc
           ·have hr := ifP hr hc
            repeat refine gA ?_
            refine S.gx [11] ?_
            repeat refine gA ?_
            cases hr
            exact lf
           ·have hr := ifN hr hc
            repeat refine gA ?_
            refine S.gx [11] ?_
            repeat refine gA ?_
            cases hr
            exact lf
          ·have hr := ifN1 hr hc
           repeat refine gA ?_
           refine S2.sees [0, 1, 7, 8] [(300003, 300003), (3, 3), (2, 2), (4, 4)] [] ?_ hr
           exact lf
         ·have hr := ifN1 hr hc
          repeat refine gA ?_
          have hr := of_out0 hr
          repeat refine gA ?_
          refine S1.gx [1] ?_
          repeat refine gA ?_
          refine ⟨?_, ?_⟩ <;> intro hc
          ·have hr := ifP hr hc
           repeat refine gA ?_
           refine S.gx [11] ?_
           repeat refine gA ?_
           cases hr
           exact lf
          ·have hr := ifN hr hc
           repeat refine gA ?_
           refine S.gx [11] ?_
           repeat refine gA ?_
           cases hr
           exact lf
       ·have hr := ifN hr hc
        repeat refine gA ?_
        refine S.opsTo 2 3 (nL rfl) (nL rfl) ?_
        refine gs ?_
        repeat refine gA ?_
        refine S.inlO 3 [4, 38] [.ref 2 0, .ref 3 0] Tryd.func78 (by decide) rfl Tryd.ntmps78 (fun cx e => drawn_ok ty_ok tb25_ok cx e) (some 40) rfl rfl rfl rfl (nL rfl) (nL rfl) ?_
        refine gs ?_
        repeat refine gA ?_
        intro stop1 S1
        refine S1.gx [1] ?_
        repeat refine gA ?_
        refine S1.inl 2 [1] [] Tryd.func79 (by decide) rfl Tryd.ntmps79 (fun cx e => drawn_ok ty_ok tb25_ok cx e) (some 8) rfl rfl rfl rfl (nL rfl) (nL rfl) ?_
        refine gs ?_
        repeat refine gA ?_
        intro stop2 S2
        refine S2.gx [4] ?_
        repeat refine gA ?_
        refine S2.sees [0, 1, 7, 8] [(300003, 300003), (3, 3), (2, 2), (4, 4)] [] ?_ (Stop.iter S2 (fun s4 => ⟨[(0, .c (.d (encF 2 d_II a0))), (1, .c (.clo 80 [.ref 300003 0, .ref 3 0])), (7, .c (.d (.int .i64 (a0.length : Int)))), (8, .c (.d (.int .i64 s4)))], [(300003, [.clo 82 []]), (3, [.d (.int .i64 a1)]), (2, [.d (encF 2 d_II a0)]), (4, [.d (.int .i64 0), .d (.int .i64 0)])], []⟩) (b25_4 a0 a1) (fun q => q = r) hr rfl ?_)
        ·exact lf
        ·intro s4 hr
         unfold b25_4 at hr
         refine S2.gx [4] ?_
         repeat refine gA ?_
         refine ⟨?_, ?_⟩ <;> intro hc
         ·have hr := ifP1 hr hc
          repeat refine gA ?_
          refine S2.inl 5 [0, 1, 5, 7, 8] [.ref 300003 0, .ref 3 0] Tryd.func80 (by decide) rfl Tryd.ntmps80 (fun cx e => drawn_ok ty_ok tb25_ok cx e) (some 16) rfl rfl rfl rfl (nL rfl) (nL rfl) ?_
          refine gs ?_
          obtain ⟨hg12, hr⟩ := of_guard1 hr
          repeat refine gA ?_
          intro stop3 S3
          refine S3.gx [1] ?_
          repeat refine gA ?_
          refine S3.gx [] ?_
          obtain ⟨v11, hv11, hr⟩ := of_bind1 hr
          try simp only [hv11, oG, oI, true_and, and_assoc]
          repeat refine gA ?_
          refine S2.gx [4] ?_
          repeat refine gA ?_
          refine ⟨?_, ?_⟩ <;> intro hc
          ·have hr := ifP1 hr hc
           repeat refine gA ?_
           have hr := of_out0 hr
           repeat refine gA ?_
           refine S1.gx [1] ?_
           repeat refine gA ?_
           refine ⟨?_, ?_⟩ <;> intro hc
           ·have hr := ifP hr hc
            repeat refine gA ?_
            refine S.gx [11] ?_
            repeat refine gA ?_
            cases hr
            exact lf
           ·have hr := ifN hr hc
            repeat refine gA ?_
            refine S.gx [11] ?_
            repeat refine gA ?_
            cases hr
            exact lf
          ·have hr := ifN1 hr hc
           repeat refine gA ?_
           refine S2.sees [0, 1, 7, 8] [(300003, 300003), (3, 3), (2, 2), (4, 4)] [] ?_ hr
           exact lf
         ·have hr := ifN1 hr hc
          repeat refine gA ?_
          have hr := of_out0 hr
          repeat refine gA ?_
          refine S1.gx [1] ?_
          repeat refine gA ?_
          refine ⟨?_, ?_⟩ <;> intro hc
          ·have hr := ifP hr hc
           repeat refine gA ?_
           refine S.gx [11] ?_
           repeat refine gA ?_
           cases hr
           exact lf
          ·have hr := ifN hr hc
           repeat refine gA ?_
           refine S.gx [11] ?_
           repeat refine gA ?_
           cases hr
           exact lf
      ·have hr := ifN1 hr hc
       repeat refine gA ?_
       refine S2.sees [0, 1, 7, 8] [(100003, 100003), (3, 3), (2, 2), (4, 4)] [] ?_ hr
       exact lf
     ·have hr := ifN1 hr hc
      repeat refine gA ?_
      have hr := of_out0 hr
      repeat refine gA ?_
      refine S1.gx [1] ?_
      repeat refine gA ?_
      refine ⟨?_, ?_⟩ <;> intro hc
      ·have hr := ifP hr hc
       repeat refine gA ?_
       refine S.opsTo 2 3 (nL rfl) (nL rfl) ?_
       refine gs ?_
       repeat refine gA ?_
       refine S.inlO 3 [4, 38] [.ref 2 0, .ref 3 0] Tryd.func78 (by decide) rfl Tryd.ntmps78 (fun cx e => drawn_ok ty_ok tb25_ok cx e) (some 40) rfl rfl rfl rfl (nL rfl) (nL rfl) ?_
       refine gs ?_
       repeat refine gA ?_
       intro stop1 S1
       refine S1.gx [1] ?_
       repeat refine gA ?_
       refine S1.inl 2 [1] [] Tryd.func79 (by decide) rfl Tryd.ntmps79 (fun cx e => drawn_ok ty_ok tb25_ok cx e) (some 8) rfl rfl rfl rfl (nL rfl) (nL rfl) ?_
       refine gs ?_
       repeat refine gA ?_
       intro stop2 S2
       refine S2.gx [4] ?_
       repeat refine gA ?_
       refine S2.sees [0, 1, 7, 8] [(200003, 200003), (3, 3), (2, 2), (4, 4)] [] ?_ (Stop.iter S2 (fun s5 => ⟨[(0, .c (.d (encF 2 d_II a0))), (1, .c (.clo 80 [.ref 200003 0, .ref 3 0])), (7, .c (.d (.int .i64 (a0.length : Int)))), (8, .c (.d (.int .i64 s5)))], [(200003, [.clo 82 []]), (3, [.d (.int .i64 a1)]), (2, [.d (encF 2 d_II a0)]), (4, [.d (.int .i64 0), .d (.int .i64 0)])], []⟩) (b25_5 a0 a1) (fun q => q = r) hr rfl ?_)
       ·exact lf
       ·intro s5 hr
        unfold b25_5 at hr
        refine S2.gx [4] ?_
        repeat refine gA ?_
        refine ⟨?_, ?_⟩ <;> intro hc
        ·have hr := ifP1 hr hc
         repeat refine gA ?_
         refine S2.inl 5 [0, 1, 5, 7, 8] [.ref 200003 0, .ref 3 0] Tryd.func80 (by decide) rfl Tryd.ntmps80 (fun cx e => drawn_ok ty_ok tb25_ok cx e) (some 16) rfl rfl rfl rfl (nL rfl) (nL rfl) ?_
         refine gs ?_
         obtain ⟨hg15, hr⟩ := of_guard1 hr
         repeat refine gA ?_
         intro stop3 S3
         refine S3.gx [1] ?_
         repeat refine gA ?_
         refine S3.gx [] ?_
         obtain ⟨v14, hv14, hr⟩ := of_bind1 hr
         try simp only [hv14, oG, oI, true_and, and_assoc]
         repeat refine gA ?_
         refine S2.gx [4] ?_
         repeat refine gA ?_
         refine ⟨?_, ?_⟩ <;> intro hc
         ·have hr := ifP1 hr hc
          repeat refine gA ?_
          have hr := of_out0 hr
          repeat refine gA ?_
          refine S1.gx [1] ?_
          repeat refine gA ?_
          refine ⟨?_, ?_⟩ <;> intro hc
          ·have hr := ifP hr hc
           repeat refine gA ?_
           refine S.gx [11] ?_
           repeat refine gA ?_
           cases hr
           exact lf
          ·have hr := ifN hr hc
           repeat refine gA ?_
           refine S.gx [11] ?_
           repeat refine gA ?_
           cases hr
           exact lf
         ·have hr := ifN1 hr hc
          repeat refine gA ?_
          refine S2.sees [0, 1, 7, 8] [(200003, 200003), (3, 3), (2, 2), (4, 4)] [] ?_ hr
          exact lf
        ·have hr := ifN1 hr hc
         repeat refine gA ?_
         have hr := of_out0 hr
         repeat refine gA ?_
         refine S1.gx [1] ?_
         repeat refine gA ?_
         refine ⟨?_, ?_⟩ <;> intro hc
         ·have hr := ifP hr hc
          repeat refine gA ?_
          refine S.gx [11] ?_
          repeat refine gA ?_
          cases hr
          exact lf
         ·have hr := ifN hr hc
          repeat refine gA ?_
          refine S.gx [11] ?_
          repeat refine gA ?_
          cases hr
          exact lf
      ·have hr := ifN hr hc
       repeat refine gA ?_
       refine S.opsTo 2 3 (nL rfl) (nL rfl) ?_
       refine gs ?_
       repeat refine gA ?_
       refine S.inlO 3 [4, 38] [.ref 2 0, .ref 3 0] Tryd.func78 (by decide) rfl Tryd.ntmps78 (fun cx e => drawn_ok ty_ok tb25_ok cx e) (some 40) rfl rfl rfl rfl (nL rfl) (nL rfl) ?_
       refine gs ?_
       repeat refine gA ?_
       intro stop1 S1
       refine S1.gx [1] ?_
       repeat refine gA ?_
       refine S1.inl 2 [1] [] Tryd.func79 (by decide) rfl Tryd.ntmps79 (fun cx e => drawn_ok ty_ok tb25_ok cx e) (some 8) rfl rfl rfl rfl (nL rfl) (nL rfl) ?_
       refine gs ?_
       repeat refine gA ?_
       intro stop2 S2
       refine S2.gx [4] ?_
       repeat refine gA ?_
       refine S2.sees [0, 1, 7, 8] [(200003, 200003), (3, 3), (2, 2), (4, 4)] [] ?_ (Stop.iter S2 (fun s6 => ⟨[(0, .c (.d (encF 2 d_II a0))), (1, .c (.clo 80 [.ref 200003 0, .ref 3 0])), (7, .c (.d (.int .i64 (a0.length : Int)))), (8, .c (.d (.int .i64 s6)))], [(200003, [.clo 82 []]), (3, [.d (.int .i64 a1)]), (2, [.d (encF 2 d_II a0)]), (4, [.d (.int .i64 0), .d (.int .i64 0)])], []⟩) (b25_6 a0 a1) (fun q => q = r) hr rfl ?_)
       ·exact lf
       ·intro s6 hr
        unfold b25_6 at hr
        refine S2.gx [4] ?_
        repeat refine gA ?_
        refine ⟨?_, ?_⟩ <;> intro hc
        ·have hr := ifP1 hr hc
         repeat refine gA ?_
         refine S2.inl 5 [0, 1, 5, 7, 8] [.ref 200003 0, .ref 3 0] Tryd.func80 (by decide) rfl Tryd.ntmps80 (fun cx e => drawn_ok ty_ok tb25_ok cx e) (some 16) rfl rfl rfl rfl (nL rfl) (nL rfl) ?_
         refine gs ?_
         obtain ⟨hg17, hr⟩ := of_guard1 hr
         repeat refine gA ?_
         intro stop3 S3
         refine S3.gx [1] ?_
         repeat refine gA ?_
         refine S3.gx [] ?_
         obtain ⟨v16, hv16, hr⟩ := of_bind1 hr
         try simp only [hv16, oG, oI, true_and, and_assoc]
         repeat refine gA ?_
         refine S2.gx [4] ?_
         repeat refine gA ?_
         refine ⟨?_, ?_⟩ <;> intro hc
         ·have hr := ifP1 hr hc
          repeat refine gA ?_
          have hr := of_out0 hr
          repeat refine gA ?_
          refine S1.gx [1] ?_
          repeat refine gA ?_
          refine ⟨?_, ?_⟩ <;> intro hc
          ·have hr := ifP hr hc
           repeat refine gA ?_
           refine S.gx [11] ?_
           repeat refine gA ?_
           cases hr
           exact lf
          ·have hr := ifN hr hc
           repeat refine gA ?_
           refine S.gx [11] ?_
           repeat refine gA ?_
           cases hr
           exact lf
         ·have hr := ifN1 hr hc
          repeat refine gA ?_
          refine S2.sees [0, 1, 7, 8] [(200003, 200003), (3, 3), (2, 2), (4, 4)] [] ?_ hr
          exact lf
        ·have hr := ifN1 hr hc
         repeat refine gA ?_
         have hr := of_out0 hr
         repeat refine gA ?_
         refine S1.gx [1] ?_
         repeat refine gA ?_
         refine ⟨?_, ?_⟩ <;> intro hc
         ·have hr := ifP hr hc
          repeat refine gA ?_
          refine S.gx [11] ?_
          repeat refine gA ?_
          cases hr
          exact lf
         ·have hr := ifN hr hc
          repeat refine gA ?_
          refine S.gx [11] ?_
          repeat refine gA ?_
          cases hr
          exact lf
theorem f25 : FnFact Tryd.prog 25 T25.sp := ⟨⟨Tryd.f25, Tryd.func25, by decide, rfl⟩, v25⟩
end
end Go.Proofs.YtfkmbdfajpdjjaaDoor

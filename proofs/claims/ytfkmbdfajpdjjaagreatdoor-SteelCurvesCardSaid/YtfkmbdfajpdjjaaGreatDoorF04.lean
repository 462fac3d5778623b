/- Contracts of functions, written by wip/dec. -/
import Derived.Test.YtfkmbdfajpdjjaaGreatDoorF00
import Derived.Test.YtfkmbdfajpdjjaaGreatDoorF01
import Derived.Test.YtfkmbdfajpdjjaaGreatDoorF02
import Derived.Test.YtfkmbdfajpdjjaaGreatDoorF03
set_option linter.unusedVariables false
set_option linter.unusedSimpArgs false
set_option maxHeartbeats 4000000
set_option maxRecDepth 20000
namespace Go.Proofs.YtfkmbdfajpdjjaaGreatDoor
open Go.Abs
abbrev qA28 := (List (Int × Int)) × Int
def qw28 (a0 : List (Int × Int)) (a1 : Int) : List Arg := [.c (encF 2 d_II a0), .c (.int .i64 a1)]
def qE28 : qA28 → List Arg := fun ⟨a0, a1⟩ => qw28 a0 a1
def qd28 (a : List Arg) : qA28 := (decF g_II (aCell a 0 0), dInt (aCell a 1 0))
def qp28 {β : Type} (f : (List (Int × Int)) → Int → β) (c0 c1 : D) : β := f (decF g_II c0) (dInt c1)
def qt28 (c0 c1 : D) : List Arg := [.c c0, .c c1]
attribute [go_sem] qw28 qp28 qt28 qE28
def qu14 (v : Int × Int × Int) : List RV := [.agg [.d (.int .i64 v.1), .d (.int .i64 v.2.1)], .c (.d (.int .i64 v.2.2))]
attribute [go_sem] qu14
/- martensite/steel.BandOf -/
def r32 (x0 : List (Int × Int × Int × Int)) (x1 : List (Int × Int × Int × Int × Int)) (x2 : List (Int × Int × Int)) (x3 : List (Int × Int)) (x4 : Int) (x5 : Int) (x6 : Int) (x7 : Int) (x8 : Int) (x9 : Int) (x10 : Int) (x11 : Int) (x12 : Int) (x13 : Int) (x14 : Int) (x15 : Int) (x16 : Int) (x17 : Int) (x18 : Int) (x19 : Int) (x20 : Int) (x21 : Int) : Option (Int × Int × Int) :=
  (r46 x0 x1 x2 x3 x4 x5 x6 x7).bind fun v1 =>
   (r33 x8 x9 x10 x11 x12 x13 x14 x15 x16 x17 x18 x19 x20 x21).bind fun v2 =>
    (r45 [v1, v2]).bind fun v3 =>
     if (v3 != 0) = true then
      some (0, 0, v3)
      else (r53 x0 x1 x2 x3 x4 x5 x6 x7 x8 x9 x10 x11 x12 x13 x14 x15 x16 x17 x18 x19 x20 x21).bind fun v4 =>
       some (v4.1, v4.2, 0)
def T32 : TSpec qA27 := mkT qE27 qd27 (fun ⟨x0, x1, x2, x3, x4, x5, x6, x7, x8, x9, x10, x11, x12, x13, x14, x15, x16, x17, x18, x19, x20, x21⟩ => r32 x0 x1 x2 x3 x4 x5 x6 x7 x8 x9 x10 x11 x12 x13 x14 x15 x16 x17 x18 x19 x20 x21) qu14 false
theorem TP32 (c0 c1 c2 c3 c4 c5 c6 c7 c8 c9 c10 c11 c12 c13 c14 c15 c16 c17 c18 c19 c20 c21 : D) : T32.sp.pre [.agg [c0, c1, c2, c3, c4, c5, c6, c7], .agg [c8, c9, c10, c11, c12, c13, c14, c15, c16, c17, c18, c19, c20, c21]] = (eqvArgs (qt27 c0 c1 c2 c3 c4 c5 c6 c7 c8 c9 c10 c11 c12 c13 c14 c15 c16 c17 c18 c19 c20 c21) (qp27 qw27 c0 c1 c2 c3 c4 c5 c6 c7 c8 c9 c10 c11 c12 c13 c14 c15 c16 c17 c18 c19 c20 c21) ∧ (qp27 r32 c0 c1 c2 c3 c4 c5 c6 c7 c8 c9 c10 c11 c12 c13 c14 c15 c16 c17 c18 c19 c20 c21).isSome = true) := (rfl)
theorem TR32 (c0 c1 c2 c3 c4 c5 c6 c7 c8 c9 c10 c11 c12 c13 c14 c15 c16 c17 c18 c19 c20 c21 : D) : T32.sp.res [.agg [c0, c1, c2, c3, c4, c5, c6, c7], .agg [c8, c9, c10, c11, c12, c13, c14, c15, c16, c17, c18, c19, c20, c21]] = qu14 ((qp27 r32 c0 c1 c2 c3 c4 c5 c6 c7 c8 c9 c10 c11 c12 c13 c14 c15 c16 c17 c18 c19 c20 c21).getD default) := (rfl)
theorem TA32 : T32.sp.alias = false := (rfl)
def tb32 : Fns := lk [(33, T33.sp), (45, T45.sp), (46, T46.sp), (53, T53.sp)]
theorem tb32_ok : FnsOk Tryz.prog tb32 := .cons f33 (.cons f45 (.cons f46 (.cons f53 (FnsOk.nil))))
theorem tb32_33 : tb32 33 = some T33.sp := rfl
theorem tb32_45 : tb32 45 = some T45.sp := rfl
theorem tb32_46 : tb32 46 = some T46.sp := rfl
theorem tb32_53 : tb32 53 = some T53.sp := rfl
attribute [go_sem] TP32 TR32 TA32
section
attribute [local go_sem] T32 tb32_33 tb32_45 tb32_46 tb32_53 Tryz.results32
theorem v32 : Valid Tryz.prog 32 T32.sp := by
 refine valid_t (fn := Tryz.f32) (n := 21) ty_ok tb32_ok Tryz.func32 rfl Tryz.ntmps32 ?_
 rintro ⟨x0, x1, x2, x3, x4, x5, x6, x7, x8, x9, x10, x11, x12, x13, x14, x15, x16, x17, x18, x19, x20, x21⟩ hx
 obtain ⟨r, hr⟩ := oE (show (r32 x0 x1 x2 x3 x4 x5 x6 x7 x8 x9 x10 x11 x12 x13 x14 x15 x16 x17 x18 x19 x20 x21).isSome = true from hx)
 have hres : T32.res (x0, x1, x2, x3, x4, x5, x6, x7, x8, x9, x10, x11, x12, x13, x14, x15, x16, x17, x18, x19, x20, x21) = qu14 r := by simp only [T32, mkT, hr, oG]
 refine ⟨nL rfl, fun stop S => ?_⟩
 rw [hres] at S
 unfold r32 at hr
 refine S.gx [] ?_
 obtain ⟨v1, hv1, hr⟩ := of_bind0 hr
 obtain ⟨v2, hv2, hr⟩ := of_bind0 hr
 obtain ⟨v3, hv3, hr⟩ := of_bind0 hr
 try simp only [hv1, hv2, hv3, Option.getD_some, Option.isSome_some, true_and, and_assoc]
 repeat refine gA ?_
 refine ⟨?_, ?_⟩ <;> intro hc
 ·have hr := ifP hr hc
  repeat refine gA ?_
  cases hr
  exact lf
 ·have hr := ifN hr hc
  obtain ⟨v4, hv4, hr⟩ := of_bind0 hr
  try simp only [hv4, oG, oI, true_and, and_assoc]
  repeat refine gA ?_
  cases hr
  exact lf
theorem f32 : FnFact Tryz.prog 32 T32.sp := ⟨⟨Tryz.f32, Tryz.func32, by decide, rfl⟩, v32⟩
end

/- martensite/steel.isHard -/
def r75 (a0 : Int) : Option (Bool) :=
  (r66 a0 0 2000).bind fun v1 =>
   some v1
def T75 : TSpec qA3 := mkT qE3 qd3 r75 qu3 false
theorem TP75 (c0 : D) : T75.sp.pre [.c c0] = (eqvArgs (qt3 c0) (qp3 qw3 c0) ∧ (qp3 r75 c0).isSome = true) := (rfl)
theorem TR75 (c0 : D) : T75.sp.res [.c c0] = qu3 ((qp3 r75 c0).getD default) := (rfl)
theorem TA75 : T75.sp.alias = false := (rfl)
def tb75 : Fns := lk [(66, T66.sp)]
theorem tb75_ok : FnsOk Tryz.prog tb75 := .cons f66 (FnsOk.nil)
theorem tb75_66 : tb75 66 = some T66.sp := rfl
attribute [go_sem] TP75 TR75 TA75
section
attribute [local go_sem] T75 tb75_66 Tryz.results75
theorem v75 : Valid Tryz.prog 75 T75.sp := by
 refine valid_t (fn := Tryz.f75) (n := 5) ty_ok tb75_ok Tryz.func75 rfl Tryz.ntmps75 ?_
 rintro a0 hx
 obtain ⟨r, hr⟩ := oE (show (r75 a0).isSome = true from hx)
 have hres : T75.res a0 = qu3 r := by simp only [T75, mkT, hr, oG]
 refine ⟨nL rfl, fun stop S => ?_⟩
 rw [hres] at S
 unfold r75 at hr
 refine S.gx [] ?_
 obtain ⟨v1, hv1, hr⟩ := of_bind0 hr
 try simp only [hv1, oG, oI, true_and, and_assoc]
 repeat refine gA ?_
 cases hr
 exact lf
theorem f75 : FnFact Tryz.prog 75 T75.sp := ⟨⟨Tryz.f75, Tryz.func75, by decide, rfl⟩, v75⟩
end

/- martensite/steel.hardErr -/
def r50 (x1 : Int) (x0 : Int) : Option (Int) :=
  (r75 x1).bind fun v1 =>
   if v1 = true → (r75 x0).isSome = true then
    (r48 (v1 && ((r75 x0).getD default)) 2).bind fun v2 =>
     (r48 (decide (x1 ≤ x0)) 9).bind fun v3 =>
      (r45 [v2, v3]).bind fun v4 =>
       some v4
    else none
def T50 : TSpec qA4 := mkT qE4 qd4 (fun ⟨x1, x0⟩ => r50 x1 x0) qu4 false
theorem TP50 (c0 c1 : D) : T50.sp.pre [.agg [c0, c1]] = (eqvArgs (qt4 c0 c1) (qp4 qw4 c0 c1) ∧ (qp4 r50 c0 c1).isSome = true) := (rfl)
theorem TR50 (c0 c1 : D) : T50.sp.res [.agg [c0, c1]] = qu4 ((qp4 r50 c0 c1).getD default) := (rfl)
theorem TA50 : T50.sp.alias = false := (rfl)
def tb50 : Fns := lk [(45, T45.sp), (48, T48.sp), (75, T75.sp)]
theorem tb50_ok : FnsOk Tryz.prog tb50 := .cons f45 (.cons f48 (.cons f75 (FnsOk.nil)))
theorem tb50_45 : tb50 45 = some T45.sp := rfl
theorem tb50_48 : tb50 48 = some T48.sp := rfl
theorem tb50_75 : tb50 75 = some T75.sp := rfl
attribute [go_sem] TP50 TR50 TA50
section
attribute [local go_sem] T50 tb50_45 tb50_48 tb50_75 Tryz.results50
theorem v50 : Valid Tryz.prog 50 T50.sp := by
 refine valid_t (fn := Tryz.f50) (n := 20) ty_ok tb50_ok Tryz.func50 rfl Tryz.ntmps50 ?_
 rintro ⟨x1, x0⟩ hx
 obtain ⟨r, hr⟩ := oE (show (r50 x1 x0).isSome = true from hx)
 have hres : T50.res (x1, x0) = qu4 r := by simp only [T50, mkT, hr, oG]
 refine ⟨nL rfl, fun stop S => ?_⟩
 rw [hres] at S
 unfold r50 at hr
 refine S.gx [] ?_
 obtain ⟨v1, hv1, hr⟩ := of_bind0 hr
 obtain ⟨hg5, hr⟩ := of_guard0 hr
 obtain ⟨v2, hv2, hr⟩ := of_bind0 hr
 obtain ⟨v3, hv3, hr⟩ := of_bind0 hr
 obtain ⟨v4, hv4, hr⟩ := of_bind0 hr
 try simp only [hv1, hv2, hv3, hv4, Option.getD_some, Option.isSome_some, true_and, and_assoc]
 repeat (first | refine gG hg5 ?_ | refine gA ?_ | refine gB ?_)
 cases hr
 exact lf
theorem f50 : FnFact Tryz.prog 50 T50.sp := ⟨⟨Tryz.f50, Tryz.func50, by decide, rfl⟩, v50⟩
end

/- martensite/steel.CaseDepth$2 -/
def r79 (x0 : Int) (x1 : Int) : Option (Int) :=
  some x0
def T79 : TSpec qA4 := mkT qE4 qd4 (fun ⟨x0, x1⟩ => r79 x0 x1) qu4 false
theorem TP79 (c0 c1 : D) : T79.sp.pre [.agg [c0, c1]] = (eqvArgs (qt4 c0 c1) (qp4 qw4 c0 c1) ∧ (qp4 r79 c0 c1).isSome = true) := (rfl)
theorem TR79 (c0 c1 : D) : T79.sp.res [.agg [c0, c1]] = qu4 ((qp4 r79 c0 c1).getD default) := (rfl)
theorem TA79 : T79.sp.alias = false := (rfl)
def tb79 : Fns := lk []
theorem tb79_ok : FnsOk Tryz.prog tb79 := FnsOk.nil
attribute [go_sem] TP79 TR79 TA79
section
attribute [local go_sem] T79 Tryz.results79
theorem v79 : Valid Tryz.prog 79 T79.sp := by
 refine valid_t (fn := Tryz.f79) (n := 5) ty_ok tb79_ok Tryz.func79 rfl Tryz.ntmps79 ?_
 rintro ⟨x0, x1⟩ hx
 obtain ⟨r, hr⟩ := oE (show (r79 x0 x1).isSome = true from hx)
 have hres : T79.res (x0, x1) = qu4 r := by simp only [T79, mkT, hr, oG]
 refine ⟨nL rfl, fun stop S => ?_⟩
 rw [hres] at S
 unfold r79 at hr
 refine S.gx [] ?_
 repeat refine gA ?_
 cases hr
 exact lf
theorem f79 : FnFact Tryz.prog 79 T79.sp := ⟨⟨Tryz.f79, Tryz.func79, by decide, rfl⟩, v79⟩
end

/- martensite/steel.CaseDepth$3 -/
def r80 (x1 : Int) (x0 : Int) : Option (Int) :=
  some x0
def T80 : TSpec qA4 := mkT qE4 qd4 (fun ⟨x1, x0⟩ => r80 x1 x0) qu4 false
theorem TP80 (c0 c1 : D) : T80.sp.pre [.agg [c0, c1]] = (eqvArgs (qt4 c0 c1) (qp4 qw4 c0 c1) ∧ (qp4 r80 c0 c1).isSome = true) := (rfl)
theorem TR80 (c0 c1 : D) : T80.sp.res [.agg [c0, c1]] = qu4 ((qp4 r80 c0 c1).getD default) := (rfl)
theorem TA80 : T80.sp.alias = false := (rfl)
def tb80 : Fns := lk []
theorem tb80_ok : FnsOk Tryz.prog tb80 := FnsOk.nil
attribute [go_sem] TP80 TR80 TA80
section
attribute [local go_sem] T80 Tryz.results80
theorem v80 : Valid Tryz.prog 80 T80.sp := by
 refine valid_t (fn := Tryz.f80) (n := 5) ty_ok tb80_ok Tryz.func80 rfl Tryz.ntmps80 ?_
 rintro ⟨x1, x0⟩ hx
 obtain ⟨r, hr⟩ := oE (show (r80 x1 x0).isSome = true from hx)
 have hres : T80.res (x1, x0) = qu4 r := by simp only [T80, mkT, hr, oG]
 refine ⟨nL rfl, fun stop S => ?_⟩
 rw [hres] at S
 unfold r80 at hr
 refine S.gx [] ?_
 repeat refine gA ?_
 cases hr
 exact lf
theorem f80 : FnFact Tryz.prog 80 T80.sp := ⟨⟨Tryz.f80, Tryz.func80, by decide, rfl⟩, v80⟩
end

/- martensite/steel.CaseDepth -/
def b44_3 (a0 : List (Int × Int)) (a1 : Int) (s2 : Int) : (Int) → Ctl (Int) (Int × Int × Int) := fun s3 =>
  if (decide (s3 < (a0.length : Int))) = true then
   if 0 ≤ s3 ∧ s3 < (a0.length : Int) then
    bindC (r80 ((a0.getD s3.toNat default).1) ((a0.getD s3.toNat default).2)) fun v9 =>
     if (decide (v9 < a1)) = true then
      .out (if (decide (s3 ≥ 0)) = true then
       some (s2, s3, 0)
       else some (s2, (a0.length : Int), 0))
      else .next (IntKind.i64.wrap (s3 + 1))
    else .out none
   else .out (if (decide ((-1) ≥ 0)) = true then
    some (s2, (-1), 0)
    else some (s2, (a0.length : Int), 0))
def b44_4 (a0 : List (Int × Int)) (a1 : Int) : (Int) → Ctl (Int) (Int × Int × Int) := fun s4 =>
  if (decide (s4 < (a0.length : Int))) = true then
   if 0 ≤ s4 ∧ s4 < (a0.length : Int) then
    bindC (r80 ((a0.getD s4.toNat default).1) ((a0.getD s4.toNat default).2)) fun v11 =>
     if (decide (v11 < a1)) = true then
      .out (if (decide (s4 ≥ 0)) = true then
       some ((a0.length : Int), s4, 0)
       else some ((a0.length : Int), (a0.length : Int), 0))
      else .next (IntKind.i64.wrap (s4 + 1))
    else .out none
   else .out (if (decide ((-1) ≥ 0)) = true then
    some ((a0.length : Int), (-1), 0)
    else some ((a0.length : Int), (a0.length : Int), 0))
def b44_5 (a0 : List (Int × Int)) (a1 : Int) : (Int) → Ctl (Int) (Int × Int × Int) := fun s5 =>
  if (decide (s5 < (a0.length : Int))) = true then
   if 0 ≤ s5 ∧ s5 < (a0.length : Int) then
    bindC (r80 ((a0.getD s5.toNat default).1) ((a0.getD s5.toNat default).2)) fun v14 =>
     if (decide (v14 < a1)) = true then
      .out (if (decide (s5 ≥ 0)) = true then
       some ((-1), s5, 0)
       else some ((-1), (a0.length : Int), 0))
      else .next (IntKind.i64.wrap (s5 + 1))
    else .out none
   else .out (if (decide ((-1) ≥ 0)) = true then
    some ((-1), (-1), 0)
    else some ((-1), (a0.length : Int), 0))
def b44_6 (a0 : List (Int × Int)) (a1 : Int) : (Int) → Ctl (Int) (Int × Int × Int) := fun s6 =>
  if (decide (s6 < (a0.length : Int))) = true then
   if 0 ≤ s6 ∧ s6 < (a0.length : Int) then
    bindC (r80 ((a0.getD s6.toNat default).1) ((a0.getD s6.toNat default).2)) fun v16 =>
     if (decide (v16 < a1)) = true then
      .out (if (decide (s6 ≥ 0)) = true then
       some ((a0.length : Int), s6, 0)
       else some ((a0.length : Int), (a0.length : Int), 0))
      else .next (IntKind.i64.wrap (s6 + 1))
    else .out none
   else .out (if (decide ((-1) ≥ 0)) = true then
    some ((a0.length : Int), (-1), 0)
    else some ((a0.length : Int), (a0.length : Int), 0))
def b44_2 (a0 : List (Int × Int)) (a1 : Int) : (Int) → Ctl (Int) (Int × Int × Int) := fun s2 =>
  if (decide (s2 < (a0.length : Int))) = true then
   if 0 ≤ s2 ∧ s2 < (a0.length : Int) then
    bindC (r79 ((a0.getD s2.toNat default).1) ((a0.getD s2.toNat default).2)) fun v8 =>
     if (decide (v8 < a1)) = true then
      .out (if (decide (s2 ≥ 0)) = true then
       iterC (b44_3 a0 a1 s2) 1000000000 0
       else iterC (b44_4 a0 a1) 1000000000 0)
      else .next (IntKind.i64.wrap (s2 + 1))
    else .out none
   else .out (if (decide ((-1) ≥ 0)) = true then
    iterC (b44_5 a0 a1) 1000000000 0
    else iterC (b44_6 a0 a1) 1000000000 0)
def b44_1 (a0 : List (Int × Int)) (a1 : Int) : (Int × Int) → Ctl (Int × Int) (Int × Int × Int) := fun s1 =>
  if (decide (s1.2 < (a0.length : Int))) = true then
   if 0 ≤ s1.2 ∧ s1.2 < (a0.length : Int) then
    bindC (r50 ((a0.getD s1.2.toNat default).1) ((a0.getD s1.2.toNat default).2)) fun v2 =>
     bindC (r45 [s1.1, v2]) fun v3 =>
      .next (v3, IntKind.i64.wrap (s1.2 + 1))
    else .out none
   else .out ((r75 a1).bind fun v5 =>
    (r48 v5 2).bind fun v6 =>
     (r45 [s1.1, v6]).bind fun v7 =>
      if (v7 != 0) = true then
       some (0, 0, v7)
       else iterC (b44_2 a0 a1) 1000000000 0)
def r44 (a0 : List (Int × Int)) (a1 : Int) : Option (Int × Int × Int) :=
  (r48 (decide ((a0.length : Int) ≤ 12)) 8).bind fun v1 =>
   iterC (b44_1 a0 a1) 1000000000 (v1, 0)
def T44 : TSpec qA28 := mkT qE28 qd28 (fun ⟨a0, a1⟩ => r44 a0 a1) qu14 false
theorem TP44 (c0 c1 : D) : T44.sp.pre [.c c0, .c c1] = (eqvArgs (qt28 c0 c1) (qp28 qw28 c0 c1) ∧ (qp28 r44 c0 c1).isSome = true) := (rfl)
theorem TR44 (c0 c1 : D) : T44.sp.res [.c c0, .c c1] = qu14 ((qp28 r44 c0 c1).getD default) := (rfl)
theorem TA44 : T44.sp.alias = false := (rfl)
def tb44 : Fns := lk [(45, T45.sp), (48, T48.sp), (50, T50.sp), (75, T75.sp), (79, T79.sp), (80, T80.sp)]
theorem tb44_ok : FnsOk Tryz.prog tb44 := .cons f45 (.cons f48 (.cons f50 (.cons f75 (.cons f79 (.cons f80 (FnsOk.nil))))))
theorem tb44_45 : tb44 45 = some T45.sp := rfl
theorem tb44_48 : tb44 48 = some T48.sp := rfl
theorem tb44_50 : tb44 50 = some T50.sp := rfl
theorem tb44_75 : tb44 75 = some T75.sp := rfl
theorem tb44_79 : tb44 79 = some T79.sp := rfl
theorem tb44_80 : tb44 80 = some T80.sp := rfl
attribute [go_sem] TP44 TR44 TA44
section
attribute [local go_sem] T44 tb44_45 tb44_48 tb44_50 tb44_75 tb44_79 tb44_80 Tryz.results44 Tryz.results76 Tryz.results77 Tryz.results78
theorem v44 : Valid Tryz.prog 44 T44.sp := by
 refine valid_t (fn := Tryz.f44) (n := 42) ty_ok tb44_ok Tryz.func44 rfl Tryz.ntmps44 ?_
 rintro ⟨a0, a1⟩ hx
 obtain ⟨r, hr⟩ := oE (show (r44 a0 a1).isSome = true from hx)
 have hres : T44.res (a0, a1) = qu14 r := by simp only [T44, mkT, hr, oG]
 refine ⟨nL rfl, fun stop S => ?_⟩
 rw [hres] at S
 unfold r44 at hr
 refine S.gx [11] ?_
 obtain ⟨v1, hv1, hr⟩ := of_bind0 hr
 try simp only [hv1, oG, oI, true_and, and_assoc]
 repeat refine gA ?_
 refine S.sees [2, 3, 4, 6, 14, 15, 16] [(2, 2), (3, 3), (4, 4)] [] ?_ (Stop.iter S (fun s1 => ⟨[(2, .c (.ref 2 0)), (3, .c (.ref 3 0)), (4, .c (.ref 4 0)), (6, .c (.d (.int .i64 s1.1))), (14, .c (.d (encF 2 d_II a0))), (15, .c (.d (.int .i64 (a0.length : Int)))), (16, .c (.d (.int .i64 s1.2)))], [(2, [.d (encF 2 d_II a0)]), (3, [.d (.int .i64 a1)]), (4, [.d (.int .i64 0), .d (.int .i64 0)])], []⟩) (b44_1 a0 a1) (fun q => q = r) hr rfl ?_)
 ·exact lf
 ·intro s1 hr
  unfold b44_1 at hr
  refine S.gx [11] ?_
  repeat refine gA ?_
  refine ⟨?_, ?_⟩ <;> intro hc
  ·have hr := ifP1 hr hc
   obtain ⟨hg4, hr⟩ := of_guard1 hr
   obtain ⟨v2, hv2, hr⟩ := of_bind1 hr
   obtain ⟨v3, hv3, hr⟩ := of_bind1 hr
   try simp only [hv2, hv3, Option.getD_some, Option.isSome_some, true_and, and_assoc]
   repeat refine gA ?_
   refine S.sees [2, 3, 4, 6, 14, 15, 16] [(2, 2), (3, 3), (4, 4)] [] ?_ hr
   exact lf
  ·have hr := ifN1 hr hc
   repeat refine gA ?_
   have hr := of_out0 hr
   obtain ⟨v5, hv5, hr⟩ := of_bind0 hr
   obtain ⟨v6, hv6, hr⟩ := of_bind0 hr
   obtain ⟨v7, hv7, hr⟩ := of_bind0 hr
   try simp only [hv5, hv6, hv7, Option.getD_some, Option.isSome_some, true_and, and_assoc]
   repeat refine gA ?_
   refine ⟨?_, ?_⟩ <;> intro hc
   ·have hr := ifP hr hc
    repeat refine gA ?_
    cases hr
    exact lf
   ·have hr := ifN hr hc
    repeat refine gA ?_
    refine S.reg0 ?_
    refine S.opsTo 0 1 (nL rfl) (nL rfl) ?_
    refine gs ?_
    repeat refine gA ?_
    refine S.inlO 1 [4, 9] [.ref 2 0, .ref 3 0] Tryz.func76 (by decide) rfl Tryz.ntmps76 (fun cx e => drawn_ok ty_ok tb44_ok cx e) (some 38) rfl rfl rfl rfl (nL rfl) (nL rfl) ?_
    refine gs ?_
    repeat refine gA ?_
    intro stop1 S1
    refine S1.gx [1] ?_
    repeat refine gA ?_
    refine S1.inl 2 [1] [] Tryz.func77 (by decide) rfl Tryz.ntmps77 (fun cx e => drawn_ok ty_ok tb44_ok cx e) (some 8) rfl rfl rfl rfl (nL rfl) (nL rfl) ?_
    refine gs ?_
    repeat refine gA ?_
    intro stop2 S2
    refine S2.gx [4] ?_
    repeat refine gA ?_
    refine S2.sees [0, 1, 7, 8] [(100003, 100003), (3, 3), (2, 2), (4, 4)] [] ?_ (Stop.iter S2 (fun s2 => ⟨[(0, .c (.d (encF 2 d_II a0))), (1, .c (.clo 78 [.ref 100003 0, .ref 3 0])), (7, .c (.d (.int .i64 (a0.length : Int)))), (8, .c (.d (.int .i64 s2)))], [(100003, [.clo 79 []]), (3, [.d (.int .i64 a1)]), (2, [.d (encF 2 d_II a0)]), (4, [.d (.int .i64 0), .d (.int .i64 0)])], []⟩) (b44_2 a0 a1) (fun q => q = r) hr rfl ?_)
    ·exact lf
    ·intro s2 hr
     unfold b44_2 at hr
     refine S2.gx [4] ?_
     repeat refine gA ?_
     refine ⟨?_, ?_⟩ <;> intro hc
     ·have hr := ifP1 hr hc
      repeat refine gA ?_
      refine S2.inl 5 [0, 1, 5, 7, 8] [.ref 100003 0, .ref 3 0] Tryz.func78 (by decide) rfl Tryz.ntmps78 (fun cx e => drawn_ok ty_ok tb44_ok cx e) (some 16) rfl rfl rfl rfl (nL rfl) (nL rfl) ?_
      refine gs ?_
      obtain ⟨hg13, hr⟩ := of_guard1 hr
      repeat refine gA ?_
      intro stop3 S3
      refine S3.gx [1] ?_
      repeat refine gA ?_
      refine S3.gx [] ?_
      obtain ⟨v8, hv8, hr⟩ := of_bind1 hr
      try simp only [hv8, oG, oI, true_and, and_assoc]
      repeat refine gA ?_
      refine S2.gx [4] ?_
      repeat refine gA ?_
      refine ⟨?_, ?_⟩ <;> intro hc
      ·have hr := ifP1 hr hc
       repeat refine gA ?_
       have hr := of_out0 hr
       repeat refine gA ?_
       refine S1.gx [1] ?_
       repeat refine gA ?_
       refine ⟨?_, ?_⟩ <;> intro hc
       ·have hr := ifP hr hc
        repeat refine gA ?_
        refine S.opsTo 2 3 (nL rfl) (nL rfl) ?_
        refine gs ?_
        repeat refine gA ?_
        refine S.inlO 3 [4, 38] [.ref 2 0, .ref 3 0] Tryz.func76 (by decide) rfl Tryz.ntmps76 (fun cx e => drawn_ok ty_ok tb44_ok cx e) (some 40) rfl rfl rfl rfl (nL rfl) (nL rfl) ?_
        refine gs ?_
        repeat refine gA ?_
        intro stop1 S1
        refine S1.gx [1] ?_
        repeat refine gA ?_
        refine S1.inl 2 [1] [] Tryz.func77 (by decide) rfl Tryz.ntmps77 (fun cx e => drawn_ok ty_ok tb44_ok cx e) (some 8) rfl rfl rfl rfl (nL rfl) (nL rfl) ?_
        refine gs ?_
        repeat refine gA ?_
        intro stop2 S2
        refine S2.gx [4] ?_
        repeat refine gA ?_
        refine S2.sees [0, 1, 7, 8] [(300003, 300003), (3, 3), (2, 2), (4, 4)] [] ?_ (Stop.iter S2 (fun s3 => ⟨[(0, .c (.d (encF 2 d_II a0))), (1, .c (.clo 78 [.ref 300003 0, .ref 3 0])), (7, .c (.d (.int .i64 (a0.length : Int)))), (8, .c (.d (.int .i64 s3)))], [(300003, [.clo 80 []]), (3, [.d (.int .i64 a1)]), (2, [.d (encF 2 d_II a0)]), (4, [.d (.int .i64 0), .d (.int .i64 0)])], []⟩) (b44_3 a0 a1 s2) (fun q => q = r) hr rfl ?_)
        ·exact lf
        ·intro s3 hr
         unfold b44_3 at hr
         refine S2.gx [4] ?_
         repeat refine gA ?_
         refine ⟨?_, ?_⟩ <;> intro hc
         ·have hr := ifP1 hr hc
          repeat refine gA ?_
          refine S2.inl 5 [0, 1, 5, 7, 8] [.ref 300003 0, .ref 3 0] Tryz.func78 (by decide) rfl Tryz.ntmps78 (fun cx e => drawn_ok ty_ok tb44_ok cx e) (some 16) rfl rfl rfl rfl (nL rfl) (nL rfl) ?_
          refine gs ?_
          obtain ⟨hg10, hr⟩ := of_guard1 hr
          repeat refine gA ?_
          intro stop3 S3
          refine S3.gx [1] ?_
          repeat refine gA ?_
          refine S3.gx [] ?_
          obtain ⟨v9, hv9, hr⟩ := of_bind1 hr
          try simp only [hv9, oG, oI, true_and, and_assoc]
          repeat refine gA ?_
          refine S2.gx [4] ?_
          repeat refine gA ?_
          refine ⟨?_, ?_⟩ <;> intro hc
          ·have hr := ifP1 hr hc
           repeat refine gA ?_
           have hr := of_out0 hr
           repeat refine gA ?_
           refine S1.gx [1] ?_
           repeat refine gA ?_
           refine ⟨?_, ?_⟩ <;> intro hc
           ·have hr := ifP hr hc
            repeat refine gA ?_
            refine S.gx [11] ?_
            repeat refine gA ?_
            cases hr
            exact lf
           ·have hr := ifN hr hc
            repeat refine gA ?_
            refine S.gx [11] ?_
            repeat refine gA ?_
            cases hr
            exact lf
          ·have hr := ifN1 hr hc
           repeat refine gA ?_
           refine S2.sees [0, 1, 7, 8] [(300003, 300003), (3, 3), (2, 2), (4, 4)] [] ?_ hr
           exact lf
         ·have hr := ifN1 hr hc
          repeat refine gA ?_
          have hr := of_out0 hr
          repeat refine gA ?_
          refine S1.gx [1] ?_
          repeat refine gA ?_
          refine ⟨?_, ?_⟩ <;> intro hc
          ·have hr := ifP hr hc
           repeat refine gA ?_
           refine S.gx [11] ?_
           repeat refine gA ?_
           cases hr
           exact lf
          ·have hr := ifN hr hc
           repeat refine gA ?_
           refine S.gx [11] ?_
           repeat refine gA ?_
           cases hr
           exact lf
       ·have hr := ifN hr hc
        repeat refine gA ?_
        refine S.opsTo 2 3 (nL rfl) (nL rfl) ?_
        refine gs ?_
        repeat refine gA ?_
        refine S.inlO 3 [4, 38] [.ref 2 0, .ref 3 0] Tryz.func76 (by decide) rfl Tryz.ntmps76 (fun cx e => drawn_ok ty_ok tb44_ok cx e) (some 40) rfl rfl rfl rfl (nL rfl) (nL rfl) ?_
        refine gs ?_
        repeat refine gA ?_
        intro stop1 S1
        refine S1.gx [1] ?_
        repeat refine gA ?_
        refine S1.inl 2 [1] [] Tryz.func77 (by decide) rfl Tryz.ntmps77 (fun cx e => drawn_ok ty_ok tb44_ok cx e) (some 8) rfl rfl rfl rfl (nL rfl) (nL rfl) ?_
        refine gs ?_
        repeat refine gA ?_
        intro stop2 S2
        refine S2.gx [4] ?_
        repeat refine gA ?_
        refine S2.sees [0, 1, 7, 8] [(300003, 300003), (3, 3), (2, 2), (4, 4)] [] ?_ (Stop.iter S2 (fun s4 => ⟨[(0, .c (.d (encF 2 d_II a0))), (1, .c (.clo 78 [.ref 300003 0, .ref 3 0])), (7, .c (.d (.int .i64 (a0.length : Int)))), (8, .c (.d (.int .i64 s4)))], [(300003, [.clo 80 []]), (3, [.d (.int .i64 a1)]), (2, [.d (encF 2 d_II a0)]), (4, [.d (.int .i64 0), .d (.int .i64 0)])], []⟩) (b44_4 a0 a1) (fun q => q = r) hr rfl ?_)
        ·exact lf
        ·intro s4 hr
         unfold b44_4 at hr
         refine S2.gx [4] ?_
         repeat refine gA ?_
         refine ⟨?_, ?_⟩ <;> intro hc
         ·have hr := ifP1 hr hc
          repeat refine gA ?_
          refine S2.inl 5 [0, 1, 5, 7, 8] [.ref 300003 0, .ref 3 0] Tryz.func78 (by decide) rfl Tryz.ntmps78 (fun cx e => drawn_ok ty_ok tb44_ok cx e) (some 16) rfl rfl rfl rfl (nL rfl) (nL rfl) ?_
          refine gs ?_
          obtain ⟨hg12, hr⟩ := of_guard1 hr
          repeat refine gA ?_
          intro stop3 S3
          refine S3.gx [1] ?_
          repeat refine gA ?_
          refine S3.gx [] ?_
          obtain ⟨v11, hv11, hr⟩ := of_bind1 hr
          try simp only [hv11, oG, oI, true_and, and_assoc]
          repeat refine gA ?_
          refine S2.gx [4] ?_
          repeat refine gA ?_
          refine ⟨?_, ?_⟩ <;> intro hc
          ·have hr := ifP1 hr hc
           repeat refine gA ?_
           have hr := of_out0 hr
           repeat refine gA ?_
           refine S1.gx [1] ?_
           repeat refine gA ?_
           refine ⟨?_, ?_⟩ <;> intro hc
           ·have hr := ifP hr hc
            repeat refine gA ?_
            refine S.gx [11] ?_
            repeat refine gA ?_
            cases hr
            exact lf
           ·have hr := ifN hr hc
            repeat refine gA ?_
            refine S.gx [11] ?_
            repeat refine gA ?_
            cases hr
            exact lf
          ·have hr := ifN1 hr hc
           repeat refine gA ?_
           refine S2.sees [0, 1, 7, 8] [(300003, 300003), (3, 3), (2, 2), (4, 4)] [] ?_ hr
           exact lf
         ·have hr := ifN1 hr hc
          repeat refine gA ?_
          have hr := of_out0 hr
          repeat refine gA ?_
          refine S1.gx [1] ?_
          repeat refine gA ?_
          refine ⟨?_, ?_⟩ <;> intro hc
          ·have hr := ifP hr hc
           repeat refine gA ?_
           refine S.gx [11] ?_
           repeat refine gA ?_
           cases hr
           exact lf
          ·have hr := ifN hr hc
           repeat refine gA ?_
           refine S.gx [11] ?_
           repeat refine gA ?_
           cases hr
           exact lf
      ·have hr := ifN1 hr hc
       repeat refine gA ?_
       refine S2.sees [0, 1, 7, 8] [(100003, 100003), (3, 3), (2, 2), (4, 4)] [] ?_ hr
       exact lf
     ·have hr := ifN1 hr hc
      repeat refine gA ?_
      have hr := of_out0 hr
      repeat refine gA ?_
      refine S1.gx [1] ?_
      repeat refine gA ?_
      refine ⟨?_, ?_⟩ <;> intro hc
      ·have hr := ifP hr hc
       repeat refine gA ?_
       refine S.opsTo 2 3 (nL rfl) (nL rfl) ?_
       refine gs ?_
       repeat refine gA ?_
       refine S.inlO 3 [4, 38] [.ref 2 0, .ref 3 0] Tryz.func76 (by decide) rfl Tryz.ntmps76 (fun cx e => drawn_ok ty_ok tb44_ok cx e) (some 40) rfl rfl rfl rfl (nL rfl) (nL rfl) ?_
       refine gs ?_
       repeat refine gA ?_
       intro stop1 S1
       refine S1.gx [1] ?_
       repeat refine gA ?_
       refine S1.inl 2 [1] [] Tryz.func77 (by decide) rfl Tryz.ntmps77 (fun cx e => drawn_ok ty_ok tb44_ok cx e) (some 8) rfl rfl rfl rfl (nL rfl) (nL rfl) ?_
       refine gs ?_
       repeat refine gA ?_
       intro stop2 S2
       refine S2.gx [4] ?_
       repeat refine gA ?_
       refine S2.sees [0, 1, 7, 8] [(200003, 200003), (3, 3), (2, 2), (4, 4)] [] ?_ (Stop.iter S2 (fun s5 => ⟨[(0, .c (.d (encF 2 d_II a0))), (1, .c (.clo 78 [.ref 200003 0, .ref 3 0])), (7, .c (.d (.int .i64 (a0.length : Int)))), (8, .c (.d (.int .i64 s5)))], [(200003, [.clo 80 []]), (3, [.d (.int .i64 a1)]), (2, [.d (encF 2 d_II a0)]), (4, [.d (.int .i64 0), .d (.int .i64 0)])], []⟩) (b44_5 a0 a1) (fun q => q = r) hr rfl ?_)
       ·exact lf
       ·intro s5 hr
        unfold b44_5 at hr
        refine S2.gx [4] ?_
        repeat refine gA ?_
        refine ⟨?_, ?_⟩ <;> intro hc
        ·have hr := ifP1 hr hc
         repeat refine gA ?_
         refine S2.inl 5 [0, 1, 5, 7, 8] [.ref 200003 0, .ref 3 0] Tryz.func78 (by decide) rfl Tryz.ntmps78 (fun cx e => drawn_ok ty_ok tb44_ok cx e) (some 16) rfl rfl rfl rfl (nL rfl) (nL rfl) ?_
         refine gs ?_
         obtain ⟨hg15, hr⟩ := of_guard1 hr
         repeat refine gA ?_
         intro stop3 S3
         refine S3.gx [1] ?_
         repeat refine gA ?_
         refine S3.gx [] ?_
         obtain ⟨v14, hv14, hr⟩ := of_bind1 hr
         try simp only [hv14, oG, oI, true_and, and_assoc]
         repeat refine gA ?_
         refine S2.gx [4] ?_
         repeat refine gA ?_
         refine ⟨?_, ?_⟩ <;> intro hc
         ·have hr := ifP1 hr hc
          repeat refine gA ?_
          have hr := of_out0 hr
          repeat refine gA ?_
          refine S1.gx [1] ?_
          repeat refine gA ?_
          refine ⟨?_, ?_⟩ <;> intro hc
          ·have hr := ifP hr hc
           repeat refine gA ?_
           refine S.gx [11] ?_
           repeat refine gA ?_
           cases hr
           exact lf
          ·have hr := ifN hr hc
           repeat refine gA ?_
           refine S.gx [11] ?_
           repeat refine gA ?_
           cases hr
           exact lf
         ·have hr := ifN1 hr hc
          repeat refine gA ?_
          refine S2.sees [0, 1, 7, 8] [(200003, 200003), (3, 3), (2, 2), (4, 4)] [] ?_ hr
          exact lf
        ·have hr := ifN1 hr hc
         repeat refine gA ?_
         have hr := of_out0 hr
         repeat refine gA ?_
         refine S1.gx [1] ?_
         repeat refine gA ?_
         refine ⟨?_, ?_⟩ <;> intro hc
         ·have hr := ifP hr hc
          repeat refine gA ?_
          refine S.gx [11] ?_
          repeat refine gA ?_
          cases hr
          exact lf
         ·have hr := ifN hr hc
          repeat refine gA ?_
          refine S.gx [11] ?_
          repeat refine gA ?_
          cases hr
          exact lf
      ·have hr := ifN hr hc
       repeat refine gA ?_
       refine S.opsTo 2 3 (nL rfl) (nL rfl) ?_
       refine gs ?_
       repeat refine gA ?_
       refine S.inlO 3 [4, 38] [.ref 2 0, .ref 3 0] Tryz.func76 (by decide) rfl Tryz.ntmps76 (fun cx e => drawn_ok ty_ok tb44_ok cx e) (some 40) rfl rfl rfl rfl (nL rfl) (nL rfl) ?_
       refine gs ?_
       repeat refine gA ?_
       intro stop1 S1
       refine S1.gx [1] ?_
       repeat refine gA ?_
       refine S1.inl 2 [1] [] Tryz.func77 (by decide) rfl Tryz.ntmps77 (fun cx e => drawn_ok ty_ok tb44_ok cx e) (some 8) rfl rfl rfl rfl (nL rfl) (nL rfl) ?_
       refine gs ?_
       repeat refine gA ?_
       intro stop2 S2
       refine S2.gx [4] ?_
       repeat refine gA ?_
       refine S2.sees [0, 1, 7, 8] [(200003, 200003), (3, 3), (2, 2), (4, 4)] [] ?_ (Stop.iter S2 (fun s6 => ⟨[(0, .c (.d (encF 2 d_II a0))), (1, .c (.clo 78 [.ref 200003 0, .ref 3 0])), (7, .c (.d (.int .i64 (a0.length : Int)))), (8, .c (.d (.int .i64 s6)))], [(200003, [.clo 80 []]), (3, [.d (.int .i64 a1)]), (2, [.d (encF 2 d_II a0)]), (4, [.d (.int .i64 0), .d (.int .i64 0)])], []⟩) (b44_6 a0 a1) (fun q => q = r) hr rfl ?_)
       ·exact lf
       ·intro s6 hr
        unfold b44_6 at hr
        refine S2.gx [4] ?_
        repeat refine gA ?_
        refine ⟨?_, ?_⟩ <;> intro hc
        ·have hr := ifP1 hr hc
         repeat refine gA ?_
         refine S2.inl 5 [0, 1, 5, 7, 8] [.ref 200003 0, .ref 3 0] Tryz.func78 (by decide) rfl Tryz.ntmps78 (fun cx e => drawn_ok ty_ok tb44_ok cx e) (some 16) rfl rfl rfl rfl (nL rfl) (nL rfl) ?_
         refine gs ?_
         obtain ⟨hg17, hr⟩ := of_guard1 hr
         repeat refine gA ?_
         intro stop3 S3
         refine S3.gx [1] ?_
         repeat refine gA ?_
         refine S3.gx [] ?_
         obtain ⟨v16, hv16, hr⟩ := of_bind1 hr
         try simp only [hv16, oG, oI, true_and, and_assoc]
         repeat refine gA ?_
         refine S2.gx [4] ?_
         repeat refine gA ?_
         refine ⟨?_, ?_⟩ <;> intro hc
         ·have hr := ifP1 hr hc
          repeat refine gA ?_
          have hr := of_out0 hr
          repeat refine gA ?_
          refine S1.gx [1] ?_
          repeat refine gA ?_
          refine ⟨?_, ?_⟩ <;> intro hc
          ·have hr := ifP hr hc
           repeat refine gA ?_
           refine S.gx [11] ?_
           repeat refine gA ?_
           cases hr
           exact lf
          ·have hr := ifN hr hc
           repeat refine gA ?_
           refine S.gx [11] ?_
           repeat refine gA ?_
           cases hr
           exact lf
         ·have hr := ifN1 hr hc
          repeat refine gA ?_
          refine S2.sees [0, 1, 7, 8] [(200003, 200003), (3, 3), (2, 2), (4, 4)] [] ?_ hr
          exact lf
        ·have hr := ifN1 hr hc
         repeat refine gA ?_
         have hr := of_out0 hr
         repeat refine gA ?_
         refine S1.gx [1] ?_
         repeat refine gA ?_
         refine ⟨?_, ?_⟩ <;> intro hc
         ·have hr := ifP hr hc
          repeat refine gA ?_
          refine S.gx [11] ?_
          repeat refine gA ?_
          cases hr
          exact lf
         ·have hr := ifN hr hc
          repeat refine gA ?_
          refine S.gx [11] ?_
          repeat refine gA ?_
          cases hr
          exact lf
theorem f44 : FnFact Tryz.prog 44 T44.sp := ⟨⟨Tryz.f44, Tryz.func44, by decide, rfl⟩, v44⟩
end
end Go.Proofs.YtfkmbdfajpdjjaaGreatDoor

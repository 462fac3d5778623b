/- Contracts of functions, written by wip/dec. -/
import Derived.Test.YtfkmbdfajpdjjaaGreatDoorF00
import Derived.Test.YtfkmbdfajpdjjaaGreatDoorF07
set_option linter.unusedVariables false
set_option linter.unusedSimpArgs false
set_option maxHeartbeats 4000000
set_option maxRecDepth 20000
namespace Go.Proofs.YtfkmbdfajpdjjaaGreatDoor
open Go.Abs
abbrev qA40 := Int × Int × Int × Int × Int × Int × Int × Int × Int × Int × Int × Int × Int × Int × Int × Int × Int × Int × Int × Int × Int × Int
def qw40 (a0 : Int) (a1 : Int) (a2 : Int) (a3 : Int) (a4 : Int) (a5 : Int) (a6 : Int) (a7 : Int) (a8 : Int) (a9 : Int) (a10 : Int) (a11 : Int) (a12 : Int) (a13 : Int) (a14 : Int) (a15 : Int) (a16 : Int) (a17 : Int) (a18 : Int) (a19 : Int) (a20 : Int) (a21 : Int) : List Arg := [.agg [.int .i64 a0, .int .i64 a1, .int .i64 a2, .int .i64 a3, .int .i64 a4, .int .i64 a5, .int .i64 a6, .int .i64 a7, .int .i64 a8, .int .i64 a9, .int .i64 a10, .int .i64 a11, .int .i64 a12, .int .i64 a13], .agg [.int .i64 a14, .int .i64 a15, .int .i64 a16, .int .i64 a17], .agg [.int .i64 a18, .int .i64 a19, .int .i64 a20, .int .i64 a21]]
def qE40 : qA40 → List Arg := fun ⟨a0, a1, a2, a3, a4, a5, a6, a7, a8, a9, a10, a11, a12, a13, a14, a15, a16, a17, a18, a19, a20, a21⟩ => qw40 a0 a1 a2 a3 a4 a5 a6 a7 a8 a9 a10 a11 a12 a13 a14 a15 a16 a17 a18 a19 a20 a21
def qd40 (a : List Arg) : qA40 := (dInt (aCell a 0 0), dInt (aCell a 0 1), dInt (aCell a 0 2), dInt (aCell a 0 3), dInt (aCell a 0 4), dInt (aCell a 0 5), dInt (aCell a 0 6), dInt (aCell a 0 7), dInt (aCell a 0 8), dInt (aCell a 0 9), dInt (aCell a 0 10), dInt (aCell a 0 11), dInt (aCell a 0 12), dInt (aCell a 0 13), dInt (aCell a 1 0), dInt (aCell a 1 1), dInt (aCell a 1 2), dInt (aCell a 1 3), dInt (aCell a 2 0), dInt (aCell a 2 1), dInt (aCell a 2 2), dInt (aCell a 2 3))
def qp40 {β : Type} (f : Int → Int → Int → Int → Int → Int → Int → Int → Int → Int → Int → Int → Int → Int → Int → Int → Int → Int → Int → Int → Int → Int → β) (c0 c1 c2 c3 c4 c5 c6 c7 c8 c9 c10 c11 c12 c13 c14 c15 c16 c17 c18 c19 c20 c21 : D) : β := f (dInt c0) (dInt c1) (dInt c2) (dInt c3) (dInt c4) (dInt c5) (dInt c6) (dInt c7) (dInt c8) (dInt c9) (dInt c10) (dInt c11) (dInt c12) (dInt c13) (dInt c14) (dInt c15) (dInt c16) (dInt c17) (dInt c18) (dInt c19) (dInt c20) (dInt c21)
def qt40 (c0 c1 c2 c3 c4 c5 c6 c7 c8 c9 c10 c11 c12 c13 c14 c15 c16 c17 c18 c19 c20 c21 : D) : List Arg := [.agg [c0, c1, c2, c3, c4, c5, c6, c7, c8, c9, c10, c11, c12, c13], .agg [c14, c15, c16, c17], .agg [c18, c19, c20, c21]]
attribute [go_sem] qw40 qp40 qt40 qE40
abbrev qA41 := Int × Int × Int × Int
def qw41 (a0 : Int) (a1 : Int) (a2 : Int) (a3 : Int) : List Arg := [.agg [.int .i64 a0, .int .i64 a1], .agg [.int .i64 a2, .int .i64 a3]]
def qE41 : qA41 → List Arg := fun ⟨a0, a1, a2, a3⟩ => qw41 a0 a1 a2 a3
def qd41 (a : List Arg) : qA41 := (dInt (aCell a 0 0), dInt (aCell a 0 1), dInt (aCell a 1 0), dInt (aCell a 1 1))
def qp41 {β : Type} (f : Int → Int → Int → Int → β) (c0 c1 c2 c3 : D) : β := f (dInt c0) (dInt c1) (dInt c2) (dInt c3)
def qt41 (c0 c1 c2 c3 : D) : List Arg := [.agg [c0, c1], .agg [c2, c3]]
attribute [go_sem] qw41 qp41 qt41 qE41
/- martensite/martensiteref04.RulesErr -/
def r11 (x0 : List (Int × Int × Int × Int)) (x1 : List (Int × Int × Int × Int × Int)) (x2 : List (Int × Int × Int)) (x3 : List (Int × Int)) (x4 : Int) (x5 : Int) (x6 : Int) (x7 : Int) : Option (Int) :=
  (r54 x0 x1 x2 x3 x4 x5 x6 x7).bind fun v1 =>
   some v1.2
def T11 : TSpec qA1 := mkT qE1 qd1 (fun ⟨x0, x1, x2, x3, x4, x5, x6, x7⟩ => r11 x0 x1 x2 x3 x4 x5 x6 x7) qu4 false
theorem TP11 (c0 c1 c2 c3 c4 c5 c6 c7 : D) : T11.sp.pre [.agg [c0, c1, c2, c3, c4, c5, c6, c7]] = (eqvArgs (qt1 c0 c1 c2 c3 c4 c5 c6 c7) (qp1 qw1 c0 c1 c2 c3 c4 c5 c6 c7) ∧ (qp1 r11 c0 c1 c2 c3 c4 c5 c6 c7).isSome = true) := (rfl)
theorem TR11 (c0 c1 c2 c3 c4 c5 c6 c7 : D) : T11.sp.res [.agg [c0, c1, c2, c3, c4, c5, c6, c7]] = qu4 ((qp1 r11 c0 c1 c2 c3 c4 c5 c6 c7).getD default) := (rfl)
theorem TA11 : T11.sp.alias = false := (rfl)
def tb11 : Fns := lk [(54, T54.sp)]
theorem tb11_ok : FnsOk Tryz.prog tb11 := .cons f54 (FnsOk.nil)
theorem tb11_54 : tb11 54 = some T54.sp := rfl
attribute [go_sem] TP11 TR11 TA11
section
attribute [local go_sem] T11 tb11_54 Tryz.results11
theorem v11 : Valid Tryz.prog 11 T11.sp := by
 refine valid_t (fn := Tryz.f11) (n := 11) ty_ok tb11_ok Tryz.func11 rfl Tryz.ntmps11 ?_
 rintro ⟨x0, x1, x2, x3, x4, x5, x6, x7⟩ hx
 obtain ⟨r, hr⟩ := oE (show (r11 x0 x1 x2 x3 x4 x5 x6 x7).isSome = true from hx)
 have hres : T11.res (x0, x1, x2, x3, x4, x5, x6, x7) = qu4 r := by simp only [T11, mkT, hr, oG]
 refine ⟨nL rfl, fun stop S => ?_⟩
 rw [hres] at S
 unfold r11 at hr
 refine S.gx [] ?_
 obtain ⟨v1, hv1, hr⟩ := of_bind0 hr
 try simp only [hv1, oG, oI, true_and, and_assoc]
 repeat refine gA ?_
 cases hr
 exact lf
theorem f11 : FnFact Tryz.prog 11 T11.sp := ⟨⟨Tryz.f11, Tryz.func11, by decide, rfl⟩, v11⟩
end

/- martensite/martensiteref04.hardness -/
def r69 (x4 : List (Int × Int × Int × Int)) (x5 : List (Int × Int × Int × Int × Int)) (x6 : List (Int × Int × Int)) (x7 : List (Int × Int)) (x2 : Int) (x3 : Int) (x0 : Int) (x1 : Int) (a1 : Int) : Option (Int × Int × Int × Int) :=
  some (x2, x3, x0, (if x0 < IntKind.i64.wrap (x1 - a1) then IntKind.i64.wrap (x1 - a1) else x0))
def T69 : TSpec qA14 := mkT qE14 qd14 (fun ⟨x4, x5, x6, x7, x2, x3, x0, x1, a1⟩ => r69 x4 x5 x6 x7 x2 x3 x0 x1 a1) qu11 false
theorem TP69 (c0 c1 c2 c3 c4 c5 c6 c7 c8 : D) : T69.sp.pre [.agg [c0, c1, c2, c3, c4, c5, c6, c7], .c c8] = (eqvArgs (qt14 c0 c1 c2 c3 c4 c5 c6 c7 c8) (qp14 qw14 c0 c1 c2 c3 c4 c5 c6 c7 c8) ∧ (qp14 r69 c0 c1 c2 c3 c4 c5 c6 c7 c8).isSome = true) := (rfl)
theorem TR69 (c0 c1 c2 c3 c4 c5 c6 c7 c8 : D) : T69.sp.res [.agg [c0, c1, c2, c3, c4, c5, c6, c7], .c c8] = qu11 ((qp14 r69 c0 c1 c2 c3 c4 c5 c6 c7 c8).getD default) := (rfl)
theorem TA69 : T69.sp.alias = false := (rfl)
def tb69 : Fns := lk []
theorem tb69_ok : FnsOk Tryz.prog tb69 := FnsOk.nil
attribute [go_sem] TP69 TR69 TA69
section
attribute [local go_sem] T69 Tryz.results69
theorem v69 : Valid Tryz.prog 69 T69.sp := by
 refine valid_t (fn := Tryz.f69) (n := 24) ty_ok tb69_ok Tryz.func69 rfl Tryz.ntmps69 ?_
 rintro ⟨x4, x5, x6, x7, x2, x3, x0, x1, a1⟩ hx
 obtain ⟨r, hr⟩ := oE (show (r69 x4 x5 x6 x7 x2 x3 x0 x1 a1).isSome = true from hx)
 have hres : T69.res (x4, x5, x6, x7, x2, x3, x0, x1, a1) = qu11 r := by simp only [T69, mkT, hr, oG]
 refine ⟨nL rfl, fun stop S => ?_⟩
 rw [hres] at S
 unfold r69 at hr
 refine S.gx [] ?_
 repeat refine gA ?_
 cases hr
 exact lf
theorem f69 : FnFact Tryz.prog 69 T69.sp := ⟨⟨Tryz.f69, Tryz.func69, by decide, rfl⟩, v69⟩
end

/- martensite/martensiteref04.extreme -/
def b68_2 (x0 : Int) (x4 : Int) (x1 : Int) (x5 : Int) (x2 : Int) (x6 : Int) (x3 : Int) (x7 : Int) (x8 : Int) (x9 : Int) (x10 : Int) (x11 : Int) : (Int × Int × Int × Int × Int × Int × Int) → Ctl (Int × Int × Int × Int × Int × Int × Int) (Int) := fun s2 =>
  if (decide (s2.2.2.1 < 4)) = true then
   if s2.2.2.1 = 0 then
    if s2.2.2.2.1 = 0 then
     .next (IntKind.i64.wrap (s2.1 - (if IntKind.i64.wrap (x4 - x0) < s2.1 then IntKind.i64.wrap (x4 - x0) else s2.1)), IntKind.i64.wrap (s2.2.1 + (IntKind.i64.wrap ((if IntKind.i64.wrap (x4 - x0) < s2.1 then IntKind.i64.wrap (x4 - x0) else s2.1) * x8))), IntKind.i64.wrap (0 + 1), 0, s2.2.2.2.2.1, s2.2.2.2.2.2.1, s2.2.2.2.2.2.2)
     else if s2.2.2.2.1 = 1 then
      .next (IntKind.i64.wrap (s2.1 - (if IntKind.i64.wrap (x5 - x1) < s2.1 then IntKind.i64.wrap (x5 - x1) else s2.1)), IntKind.i64.wrap (s2.2.1 + (IntKind.i64.wrap ((if IntKind.i64.wrap (x5 - x1) < s2.1 then IntKind.i64.wrap (x5 - x1) else s2.1) * x9))), IntKind.i64.wrap (0 + 1), 1, s2.2.2.2.2.1, s2.2.2.2.2.2.1, s2.2.2.2.2.2.2)
      else if s2.2.2.2.1 = 2 then
       .next (IntKind.i64.wrap (s2.1 - (if IntKind.i64.wrap (x6 - x2) < s2.1 then IntKind.i64.wrap (x6 - x2) else s2.1)), IntKind.i64.wrap (s2.2.1 + (IntKind.i64.wrap ((if IntKind.i64.wrap (x6 - x2) < s2.1 then IntKind.i64.wrap (x6 - x2) else s2.1) * x10))), IntKind.i64.wrap (0 + 1), 2, s2.2.2.2.2.1, s2.2.2.2.2.2.1, s2.2.2.2.2.2.2)
       else if s2.2.2.2.1 = 3 then
        .next (IntKind.i64.wrap (s2.1 - (if IntKind.i64.wrap (x7 - x3) < s2.1 then IntKind.i64.wrap (x7 - x3) else s2.1)), IntKind.i64.wrap (s2.2.1 + (IntKind.i64.wrap ((if IntKind.i64.wrap (x7 - x3) < s2.1 then IntKind.i64.wrap (x7 - x3) else s2.1) * x11))), IntKind.i64.wrap (0 + 1), 3, s2.2.2.2.2.1, s2.2.2.2.2.2.1, s2.2.2.2.2.2.2)
        else .out none
    else if s2.2.2.1 = 1 then
     if s2.2.2.2.2.1 = 0 then
      .next (IntKind.i64.wrap (s2.1 - (if IntKind.i64.wrap (x4 - x0) < s2.1 then IntKind.i64.wrap (x4 - x0) else s2.1)), IntKind.i64.wrap (s2.2.1 + (IntKind.i64.wrap ((if IntKind.i64.wrap (x4 - x0) < s2.1 then IntKind.i64.wrap (x4 - x0) else s2.1) * x8))), IntKind.i64.wrap (1 + 1), s2.2.2.2.1, 0, s2.2.2.2.2.2.1, s2.2.2.2.2.2.2)
      else if s2.2.2.2.2.1 = 1 then
       .next (IntKind.i64.wrap (s2.1 - (if IntKind.i64.wrap (x5 - x1) < s2.1 then IntKind.i64.wrap (x5 - x1) else s2.1)), IntKind.i64.wrap (s2.2.1 + (IntKind.i64.wrap ((if IntKind.i64.wrap (x5 - x1) < s2.1 then IntKind.i64.wrap (x5 - x1) else s2.1) * x9))), IntKind.i64.wrap (1 + 1), s2.2.2.2.1, 1, s2.2.2.2.2.2.1, s2.2.2.2.2.2.2)
       else if s2.2.2.2.2.1 = 2 then
        .next (IntKind.i64.wrap (s2.1 - (if IntKind.i64.wrap (x6 - x2) < s2.1 then IntKind.i64.wrap (x6 - x2) else s2.1)), IntKind.i64.wrap (s2.2.1 + (IntKind.i64.wrap ((if IntKind.i64.wrap (x6 - x2) < s2.1 then IntKind.i64.wrap (x6 - x2) else s2.1) * x10))), IntKind.i64.wrap (1 + 1), s2.2.2.2.1, 2, s2.2.2.2.2.2.1, s2.2.2.2.2.2.2)
        else if s2.2.2.2.2.1 = 3 then
         .next (IntKind.i64.wrap (s2.1 - (if IntKind.i64.wrap (x7 - x3) < s2.1 then IntKind.i64.wrap (x7 - x3) else s2.1)), IntKind.i64.wrap (s2.2.1 + (IntKind.i64.wrap ((if IntKind.i64.wrap (x7 - x3) < s2.1 then IntKind.i64.wrap (x7 - x3) else s2.1) * x11))), IntKind.i64.wrap (1 + 1), s2.2.2.2.1, 3, s2.2.2.2.2.2.1, s2.2.2.2.2.2.2)
         else .out none
     else if s2.2.2.1 = 2 then
      if s2.2.2.2.2.2.1 = 0 then
       .next (IntKind.i64.wrap (s2.1 - (if IntKind.i64.wrap (x4 - x0) < s2.1 then IntKind.i64.wrap (x4 - x0) else s2.1)), IntKind.i64.wrap (s2.2.1 + (IntKind.i64.wrap ((if IntKind.i64.wrap (x4 - x0) < s2.1 then IntKind.i64.wrap (x4 - x0) else s2.1) * x8))), IntKind.i64.wrap (2 + 1), s2.2.2.2.1, s2.2.2.2.2.1, 0, s2.2.2.2.2.2.2)
       else if s2.2.2.2.2.2.1 = 1 then
        .next (IntKind.i64.wrap (s2.1 - (if IntKind.i64.wrap (x5 - x1) < s2.1 then IntKind.i64.wrap (x5 - x1) else s2.1)), IntKind.i64.wrap (s2.2.1 + (IntKind.i64.wrap ((if IntKind.i64.wrap (x5 - x1) < s2.1 then IntKind.i64.wrap (x5 - x1) else s2.1) * x9))), IntKind.i64.wrap (2 + 1), s2.2.2.2.1, s2.2.2.2.2.1, 1, s2.2.2.2.2.2.2)
        else if s2.2.2.2.2.2.1 = 2 then
         .next (IntKind.i64.wrap (s2.1 - (if IntKind.i64.wrap (x6 - x2) < s2.1 then IntKind.i64.wrap (x6 - x2) else s2.1)), IntKind.i64.wrap (s2.2.1 + (IntKind.i64.wrap ((if IntKind.i64.wrap (x6 - x2) < s2.1 then IntKind.i64.wrap (x6 - x2) else s2.1) * x10))), IntKind.i64.wrap (2 + 1), s2.2.2.2.1, s2.2.2.2.2.1, 2, s2.2.2.2.2.2.2)
         else if s2.2.2.2.2.2.1 = 3 then
          .next (IntKind.i64.wrap (s2.1 - (if IntKind.i64.wrap (x7 - x3) < s2.1 then IntKind.i64.wrap (x7 - x3) else s2.1)), IntKind.i64.wrap (s2.2.1 + (IntKind.i64.wrap ((if IntKind.i64.wrap (x7 - x3) < s2.1 then IntKind.i64.wrap (x7 - x3) else s2.1) * x11))), IntKind.i64.wrap (2 + 1), s2.2.2.2.1, s2.2.2.2.2.1, 3, s2.2.2.2.2.2.2)
          else .out none
      else if s2.2.2.1 = 3 then
       if s2.2.2.2.2.2.2 = 0 then
        .next (IntKind.i64.wrap (s2.1 - (if IntKind.i64.wrap (x4 - x0) < s2.1 then IntKind.i64.wrap (x4 - x0) else s2.1)), IntKind.i64.wrap (s2.2.1 + (IntKind.i64.wrap ((if IntKind.i64.wrap (x4 - x0) < s2.1 then IntKind.i64.wrap (x4 - x0) else s2.1) * x8))), IntKind.i64.wrap (3 + 1), s2.2.2.2.1, s2.2.2.2.2.1, s2.2.2.2.2.2.1, 0)
        else if s2.2.2.2.2.2.2 = 1 then
         .next (IntKind.i64.wrap (s2.1 - (if IntKind.i64.wrap (x5 - x1) < s2.1 then IntKind.i64.wrap (x5 - x1) else s2.1)), IntKind.i64.wrap (s2.2.1 + (IntKind.i64.wrap ((if IntKind.i64.wrap (x5 - x1) < s2.1 then IntKind.i64.wrap (x5 - x1) else s2.1) * x9))), IntKind.i64.wrap (3 + 1), s2.2.2.2.1, s2.2.2.2.2.1, s2.2.2.2.2.2.1, 1)
         else if s2.2.2.2.2.2.2 = 2 then
          .next (IntKind.i64.wrap (s2.1 - (if IntKind.i64.wrap (x6 - x2) < s2.1 then IntKind.i64.wrap (x6 - x2) else s2.1)), IntKind.i64.wrap (s2.2.1 + (IntKind.i64.wrap ((if IntKind.i64.wrap (x6 - x2) < s2.1 then IntKind.i64.wrap (x6 - x2) else s2.1) * x10))), IntKind.i64.wrap (3 + 1), s2.2.2.2.1, s2.2.2.2.2.1, s2.2.2.2.2.2.1, 2)
          else if s2.2.2.2.2.2.2 = 3 then
           .next (IntKind.i64.wrap (s2.1 - (if IntKind.i64.wrap (x7 - x3) < s2.1 then IntKind.i64.wrap (x7 - x3) else s2.1)), IntKind.i64.wrap (s2.2.1 + (IntKind.i64.wrap ((if IntKind.i64.wrap (x7 - x3) < s2.1 then IntKind.i64.wrap (x7 - x3) else s2.1) * x11))), IntKind.i64.wrap (3 + 1), s2.2.2.2.1, s2.2.2.2.2.1, s2.2.2.2.2.2.1, 3)
           else .out none
       else .out none
   else .out (some (IntKind.i64.wrap (s2.2.1.tdiv 1000000)))
def b68_1 (x0 : Int) (x4 : Int) (x1 : Int) (x5 : Int) (x2 : Int) (x6 : Int) (x3 : Int) (x7 : Int) (x8 : Int) (x9 : Int) (x10 : Int) (x11 : Int) (x12 : Int) (x13 : Int) (x14 : Int) (x15 : Int) : (Int × Int × Int) → Ctl (Int × Int × Int) (Int) := fun s1 =>
  if (decide (s1.2.2 < 4)) = true then
   if s1.2.2 = 0 then
    .next (IntKind.i64.wrap (s1.1 - x0), IntKind.i64.wrap (s1.2.1 + (IntKind.i64.wrap (x0 * x8))), IntKind.i64.wrap (0 + 1))
    else if s1.2.2 = 1 then
     .next (IntKind.i64.wrap (s1.1 - x1), IntKind.i64.wrap (s1.2.1 + (IntKind.i64.wrap (x1 * x9))), IntKind.i64.wrap (1 + 1))
     else if s1.2.2 = 2 then
      .next (IntKind.i64.wrap (s1.1 - x2), IntKind.i64.wrap (s1.2.1 + (IntKind.i64.wrap (x2 * x10))), IntKind.i64.wrap (2 + 1))
      else if s1.2.2 = 3 then
       .next (IntKind.i64.wrap (s1.1 - x3), IntKind.i64.wrap (s1.2.1 + (IntKind.i64.wrap (x3 * x11))), IntKind.i64.wrap (3 + 1))
       else .out none
   else .out (iterC (b68_2 x0 x4 x1 x5 x2 x6 x3 x7 x8 x9 x10 x11) 1000000000 (s1.1, s1.2.1, 0, x12, x13, x14, x15))
def r68 (x0 : Int) (x4 : Int) (x1 : Int) (x5 : Int) (x2 : Int) (x6 : Int) (x3 : Int) (x7 : Int) (x16 : Int) (x17 : Int) (x18 : Int) (x19 : Int) (x20 : Int) (x21 : Int) (x8 : Int) (x9 : Int) (x10 : Int) (x11 : Int) (x12 : Int) (x13 : Int) (x14 : Int) (x15 : Int) : Option (Int) :=
  iterC (b68_1 x0 x4 x1 x5 x2 x6 x3 x7 x8 x9 x10 x11 x12 x13 x14 x15) 1000000000 (1000000, 0, 0)
def T68 : TSpec qA40 := mkT qE40 qd40 (fun ⟨x0, x4, x1, x5, x2, x6, x3, x7, x16, x17, x18, x19, x20, x21, x8, x9, x10, x11, x12, x13, x14, x15⟩ => r68 x0 x4 x1 x5 x2 x6 x3 x7 x16 x17 x18 x19 x20 x21 x8 x9 x10 x11 x12 x13 x14 x15) qu4 false
theorem TP68 (c0 c1 c2 c3 c4 c5 c6 c7 c8 c9 c10 c11 c12 c13 c14 c15 c16 c17 c18 c19 c20 c21 : D) : T68.sp.pre [.agg [c0, c1, c2, c3, c4, c5, c6, c7, c8, c9, c10, c11, c12, c13], .agg [c14, c15, c16, c17], .agg [c18, c19, c20, c21]] = (eqvArgs (qt40 c0 c1 c2 c3 c4 c5 c6 c7 c8 c9 c10 c11 c12 c13 c14 c15 c16 c17 c18 c19 c20 c21) (qp40 qw40 c0 c1 c2 c3 c4 c5 c6 c7 c8 c9 c10 c11 c12 c13 c14 c15 c16 c17 c18 c19 c20 c21) ∧ (qp40 r68 c0 c1 c2 c3 c4 c5 c6 c7 c8 c9 c10 c11 c12 c13 c14 c15 c16 c17 c18 c19 c20 c21).isSome = true) := (rfl)
theorem TR68 (c0 c1 c2 c3 c4 c5 c6 c7 c8 c9 c10 c11 c12 c13 c14 c15 c16 c17 c18 c19 c20 c21 : D) : T68.sp.res [.agg [c0, c1, c2, c3, c4, c5, c6, c7, c8, c9, c10, c11, c12, c13], .agg [c14, c15, c16, c17], .agg [c18, c19, c20, c21]] = qu4 ((qp40 r68 c0 c1 c2 c3 c4 c5 c6 c7 c8 c9 c10 c11 c12 c13 c14 c15 c16 c17 c18 c19 c20 c21).getD default) := (rfl)
theorem TA68 : T68.sp.alias = false := (rfl)
def tb68 : Fns := lk []
theorem tb68_ok : FnsOk Tryz.prog tb68 := FnsOk.nil
attribute [go_sem] TP68 TR68 TA68
section
attribute [local go_sem] T68 Tryz.results68
theorem v68 : Valid Tryz.prog 68 T68.sp := by
 refine valid_t (fn := Tryz.f68) (n := 73) ty_ok tb68_ok Tryz.func68 rfl Tryz.ntmps68 ?_
 rintro ⟨x0, x4, x1, x5, x2, x6, x3, x7, x16, x17, x18, x19, x20, x21, x8, x9, x10, x11, x12, x13, x14, x15⟩ hx
 obtain ⟨r, hr⟩ := oE (show (r68 x0 x4 x1 x5 x2 x6 x3 x7 x16 x17 x18 x19 x20 x21 x8 x9 x10 x11 x12 x13 x14 x15).isSome = true from hx)
 have hres : T68.res (x0, x4, x1, x5, x2, x6, x3, x7, x16, x17, x18, x19, x20, x21, x8, x9, x10, x11, x12, x13, x14, x15) = qu4 r := by simp only [T68, mkT, hr, oG]
 refine ⟨nL rfl, fun stop S => ?_⟩
 rw [hres] at S
 unfold r68 at hr
 refine S.gx [6, 10, 11] ?_
 repeat refine gA ?_
 refine S.sees [4, 5, 7, 8, 9, 10] [(4, 4), (5, 5), (7, 7)] [] ?_ (Stop.iter S (fun s1 => ⟨[(4, .c (.ref 4 0)), (5, .c (.ref 5 0)), (7, .c (.ref 7 0)), (8, .c (.d (.int .i64 s1.1))), (9, .c (.d (.int .i64 s1.2.1))), (10, .c (.d (.int .i64 s1.2.2)))], [(4, [.d (.int .i64 x8), .d (.int .i64 x9), .d (.int .i64 x10), .d (.int .i64 x11)]), (5, [.d (.int .i64 x12), .d (.int .i64 x13), .d (.int .i64 x14), .d (.int .i64 x15)]), (7, [.d (.int .i64 x0), .d (.int .i64 x4), .d (.int .i64 x1), .d (.int .i64 x5), .d (.int .i64 x2), .d (.int .i64 x6), .d (.int .i64 x3), .d (.int .i64 x7)])], []⟩) (b68_1 x0 x4 x1 x5 x2 x6 x3 x7 x8 x9 x10 x11 x12 x13 x14 x15) (fun q => q = r) hr rfl ?_)
 ·exact lf
 ·intro s1 hr
  unfold b68_1 at hr
  refine S.gx [6, 10, 11] ?_
  repeat refine gA ?_
  refine ⟨?_, ?_⟩ <;> intro hc
  ·have hr := ifP1 hr hc
   repeat refine gA ?_
   by_cases hs4 : s1.2.2 = 0
   ·rw [if_pos hs4] at hr
    simp only [hs4]
    refine S.gx [10, 11] ?_
    repeat refine gA ?_
    refine S.sees [4, 5, 7, 8, 9, 10] [(4, 4), (5, 5), (7, 7)] [] ?_ hr
    exact lf
   ·rw [if_neg hs4] at hr
    by_cases hs3 : s1.2.2 = 1
    ·rw [if_pos hs3] at hr
     simp only [hs3]
     refine S.gx [10, 11] ?_
     repeat refine gA ?_
     refine S.sees [4, 5, 7, 8, 9, 10] [(4, 4), (5, 5), (7, 7)] [] ?_ hr
     exact lf
    ·rw [if_neg hs3] at hr
     by_cases hs2 : s1.2.2 = 2
     ·rw [if_pos hs2] at hr
      simp only [hs2]
      refine S.gx [10, 11] ?_
      repeat refine gA ?_
      refine S.sees [4, 5, 7, 8, 9, 10] [(4, 4), (5, 5), (7, 7)] [] ?_ hr
      exact lf
     ·rw [if_neg hs2] at hr
      by_cases hs1 : s1.2.2 = 3
      ·rw [if_pos hs1] at hr
       simp only [hs1]
       refine S.gx [10, 11] ?_
       repeat refine gA ?_
       refine S.sees [4, 5, 7, 8, 9, 10] [(4, 4), (5, 5), (7, 7)] [] ?_ hr
       exact lf
      ·rw [if_neg hs1] at hr
       first | cases hr | exact hr.elim
  ·have hr := ifN1 hr hc
   repeat refine gA ?_
   have hr := of_out0 hr
   repeat refine gA ?_
   refine S.sees [4, 5, 7, 8, 9, 11] [(4, 4), (5, 5), (7, 7)] [] ?_ (Stop.iter S (fun s2 => ⟨[(4, .c (.ref 4 0)), (5, .c (.ref 5 0)), (7, .c (.ref 7 0)), (8, .c (.d (.int .i64 s2.1))), (9, .c (.d (.int .i64 s2.2.1))), (11, .c (.d (.int .i64 s2.2.2.1)))], [(4, [.d (.int .i64 x8), .d (.int .i64 x9), .d (.int .i64 x10), .d (.int .i64 x11)]), (5, [.d (.int .i64 s2.2.2.2.1), .d (.int .i64 s2.2.2.2.2.1), .d (.int .i64 s2.2.2.2.2.2.1), .d (.int .i64 s2.2.2.2.2.2.2)]), (7, [.d (.int .i64 x0), .d (.int .i64 x4), .d (.int .i64 x1), .d (.int .i64 x5), .d (.int .i64 x2), .d (.int .i64 x6), .d (.int .i64 x3), .d (.int .i64 x7)])], []⟩) (b68_2 x0 x4 x1 x5 x2 x6 x3 x7 x8 x9 x10 x11) (fun q => q = r) hr rfl ?_)
   ·exact lf
   ·intro s2 hr
    unfold b68_2 at hr
    refine S.gx [6, 10, 11] ?_
    repeat refine gA ?_
    refine ⟨?_, ?_⟩ <;> intro hc
    ·have hr := ifP1 hr hc
     repeat refine gA ?_
     by_cases hs20 : s2.2.2.1 = 0
     ·rw [if_pos hs20] at hr
      simp only [hs20]
      refine S.gx [6, 11] ?_
      repeat refine gA ?_
      by_cases hs24 : s2.2.2.2.1 = 0
      ·rw [if_pos hs24] at hr
       simp only [hs24]
       refine S.gx [6, 10] ?_
       repeat refine gA ?_
       refine S.sees [4, 5, 7, 8, 9, 11] [(4, 4), (5, 5), (7, 7)] [] ?_ hr
       exact lf
      ·rw [if_neg hs24] at hr
       by_cases hs23 : s2.2.2.2.1 = 1
       ·rw [if_pos hs23] at hr
        simp only [hs23]
        refine S.gx [6, 10] ?_
        repeat refine gA ?_
        refine S.sees [4, 5, 7, 8, 9, 11] [(4, 4), (5, 5), (7, 7)] [] ?_ hr
        exact lf
       ·rw [if_neg hs23] at hr
        by_cases hs22 : s2.2.2.2.1 = 2
        ·rw [if_pos hs22] at hr
         simp only [hs22]
         refine S.gx [6, 10] ?_
         repeat refine gA ?_
         refine S.sees [4, 5, 7, 8, 9, 11] [(4, 4), (5, 5), (7, 7)] [] ?_ hr
         exact lf
        ·rw [if_neg hs22] at hr
         by_cases hs21 : s2.2.2.2.1 = 3
         ·rw [if_pos hs21] at hr
          simp only [hs21]
          refine S.gx [6, 10] ?_
          repeat refine gA ?_
          refine S.sees [4, 5, 7, 8, 9, 11] [(4, 4), (5, 5), (7, 7)] [] ?_ hr
          exact lf
         ·rw [if_neg hs21] at hr
          first | cases hr | exact hr.elim
     ·rw [if_neg hs20] at hr
      by_cases hs15 : s2.2.2.1 = 1
      ·rw [if_pos hs15] at hr
       simp only [hs15]
       refine S.gx [6, 11] ?_
       repeat refine gA ?_
       by_cases hs19 : s2.2.2.2.2.1 = 0
       ·rw [if_pos hs19] at hr
        simp only [hs19]
        refine S.gx [6, 10] ?_
        repeat refine gA ?_
        refine S.sees [4, 5, 7, 8, 9, 11] [(4, 4), (5, 5), (7, 7)] [] ?_ hr
        exact lf
       ·rw [if_neg hs19] at hr
        by_cases hs18 : s2.2.2.2.2.1 = 1
        ·rw [if_pos hs18] at hr
         simp only [hs18]
         refine S.gx [6, 10] ?_
         repeat refine gA ?_
         refine S.sees [4, 5, 7, 8, 9, 11] [(4, 4), (5, 5), (7, 7)] [] ?_ hr
         exact lf
        ·rw [if_neg hs18] at hr
         by_cases hs17 : s2.2.2.2.2.1 = 2
         ·rw [if_pos hs17] at hr
          simp only [hs17]
          refine S.gx [6, 10] ?_
          repeat refine gA ?_
          refine S.sees [4, 5, 7, 8, 9, 11] [(4, 4), (5, 5), (7, 7)] [] ?_ hr
          exact lf
         ·rw [if_neg hs17] at hr
          by_cases hs16 : s2.2.2.2.2.1 = 3
          ·rw [if_pos hs16] at hr
           simp only [hs16]
           refine S.gx [6, 10] ?_
           repeat refine gA ?_
           refine S.sees [4, 5, 7, 8, 9, 11] [(4, 4), (5, 5), (7, 7)] [] ?_ hr
           exact lf
          ·rw [if_neg hs16] at hr
           first | cases hr | exact hr.elim
      ·rw [if_neg hs15] at hr
       by_cases hs10 : s2.2.2.1 = 2
       ·rw [if_pos hs10] at hr
        simp only [hs10]
        refine S.gx [6, 11] ?_
        repeat refine gA ?_
        by_cases hs14 : s2.2.2.2.2.2.1 = 0
        ·rw [if_pos hs14] at hr
         simp only [hs14]
         refine S.gx [6, 10] ?_
         repeat refine gA ?_
         refine S.sees [4, 5, 7, 8, 9, 11] [(4, 4), (5, 5), (7, 7)] [] ?_ hr
         exact lf
        ·rw [if_neg hs14] at hr
         by_cases hs13 : s2.2.2.2.2.2.1 = 1
         ·rw [if_pos hs13] at hr
          simp only [hs13]
          refine S.gx [6, 10] ?_
          repeat refine gA ?_
          refine S.sees [4, 5, 7, 8, 9, 11] [(4, 4), (5, 5), (7, 7)] [] ?_ hr
          exact lf
         ·rw [if_neg hs13] at hr
          by_cases hs12 : s2.2.2.2.2.2.1 = 2
          ·rw [if_pos hs12] at hr
           simp only [hs12]
           refine S.gx [6, 10] ?_
           repeat refine gA ?_
           refine S.sees [4, 5, 7, 8, 9, 11] [(4, 4), (5, 5), (7, 7)] [] ?_ hr
           exact lf
          ·rw [if_neg hs12] at hr
           by_cases hs11 : s2.2.2.2.2.2.1 = 3
           ·rw [if_pos hs11] at hr
            simp only [hs11]
            refine S.gx [6, 10] ?_
            repeat refine gA ?_
            refine S.sees [4, 5, 7, 8, 9, 11] [(4, 4), (5, 5), (7, 7)] [] ?_ hr
            exact lf
           ·rw [if_neg hs11] at hr
            first | cases hr | exact hr.elim
       ·rw [if_neg hs10] at hr
        by_cases hs5 : s2.2.2.1 = 3
        ·rw [if_pos hs5] at hr
         simp only [hs5]
         refine S.gx [6, 11] ?_
         repeat refine gA ?_
         by_cases hs9 : s2.2.2.2.2.2.2 = 0
         ·rw [if_pos hs9] at hr
          simp only [hs9]
          refine S.gx [6, 10] ?_
          repeat refine gA ?_
          refine S.sees [4, 5, 7, 8, 9, 11] [(4, 4), (5, 5), (7, 7)] [] ?_ hr
          exact lf
         ·rw [if_neg hs9] at hr
          by_cases hs8 : s2.2.2.2.2.2.2 = 1
          ·rw [if_pos hs8] at hr
           simp only [hs8]
           refine S.gx [6, 10] ?_
           repeat refine gA ?_
           refine S.sees [4, 5, 7, 8, 9, 11] [(4, 4), (5, 5), (7, 7)] [] ?_ hr
           exact lf
          ·rw [if_neg hs8] at hr
           by_cases hs7 : s2.2.2.2.2.2.2 = 2
           ·rw [if_pos hs7] at hr
            simp only [hs7]
            refine S.gx [6, 10] ?_
            repeat refine gA ?_
            refine S.sees [4, 5, 7, 8, 9, 11] [(4, 4), (5, 5), (7, 7)] [] ?_ hr
            exact lf
           ·rw [if_neg hs7] at hr
            by_cases hs6 : s2.2.2.2.2.2.2 = 3
            ·rw [if_pos hs6] at hr
             simp only [hs6]
             refine S.gx [6, 10] ?_
             repeat refine gA ?_
             refine S.sees [4, 5, 7, 8, 9, 11] [(4, 4), (5, 5), (7, 7)] [] ?_ hr
             exact lf
            ·rw [if_neg hs6] at hr
             first | cases hr | exact hr.elim
        ·rw [if_neg hs5] at hr
         first | cases hr | exact hr.elim
    ·have hr := ifN1 hr hc
     repeat refine gA ?_
     have hr := of_out0 hr
     repeat refine gA ?_
     cases hr
     exact lf
theorem f68 : FnFact Tryz.prog 68 T68.sp := ⟨⟨Tryz.f68, Tryz.func68, by decide, rfl⟩, v68⟩
end

/- martensite/martensiteref04.Band -/
def r34 (x2 : List (Int × Int × Int × Int)) (x3 : List (Int × Int × Int × Int × Int)) (x4 : List (Int × Int × Int)) (x5 : List (Int × Int)) (x6 : Int) (x7 : Int) (x8 : Int) (x9 : Int) (x10 : Int) (x11 : Int) (x12 : Int) (x13 : Int) (x14 : Int) (x15 : Int) (x16 : Int) (x17 : Int) (x18 : Int) (x19 : Int) (x20 : Int) (x21 : Int) (x0 : Int) (x1 : Int) : Option (Int × Int) :=
  (r69 x2 x3 x4 x5 x6 x7 x8 x9 x1).bind fun v1 =>
   (r68 x10 x11 x12 x13 x14 x15 x16 x17 x18 x19 x20 x21 x0 x1 v1.1 v1.2.1 v1.2.2.1 v1.2.2.2 0 1 2 3).bind fun v2 =>
    (r69 x2 x3 x4 x5 x6 x7 x8 x9 x0).bind fun v3 =>
     (r68 x10 x11 x12 x13 x14 x15 x16 x17 x18 x19 x20 x21 x0 x1 v3.1 v3.2.1 v3.2.2.1 v3.2.2.2 3 2 1 0).bind fun v4 =>
      some (v2, v4)
def T34 : TSpec qA27 := mkT qE27 qd27 (fun ⟨x2, x3, x4, x5, x6, x7, x8, x9, x10, x11, x12, x13, x14, x15, x16, x17, x18, x19, x20, x21, x0, x1⟩ => r34 x2 x3 x4 x5 x6 x7 x8 x9 x10 x11 x12 x13 x14 x15 x16 x17 x18 x19 x20 x21 x0 x1) qu13 false
theorem TP34 (c0 c1 c2 c3 c4 c5 c6 c7 c8 c9 c10 c11 c12 c13 c14 c15 c16 c17 c18 c19 c20 c21 : D) : T34.sp.pre [.agg [c0, c1, c2, c3, c4, c5, c6, c7], .agg [c8, c9, c10, c11, c12, c13, c14, c15, c16, c17, c18, c19, c20, c21]] = (eqvArgs (qt27 c0 c1 c2 c3 c4 c5 c6 c7 c8 c9 c10 c11 c12 c13 c14 c15 c16 c17 c18 c19 c20 c21) (qp27 qw27 c0 c1 c2 c3 c4 c5 c6 c7 c8 c9 c10 c11 c12 c13 c14 c15 c16 c17 c18 c19 c20 c21) ∧ (qp27 r34 c0 c1 c2 c3 c4 c5 c6 c7 c8 c9 c10 c11 c12 c13 c14 c15 c16 c17 c18 c19 c20 c21).isSome = true) := (rfl)
theorem TR34 (c0 c1 c2 c3 c4 c5 c6 c7 c8 c9 c10 c11 c12 c13 c14 c15 c16 c17 c18 c19 c20 c21 : D) : T34.sp.res [.agg [c0, c1, c2, c3, c4, c5, c6, c7], .agg [c8, c9, c10, c11, c12, c13, c14, c15, c16, c17, c18, c19, c20, c21]] = qu13 ((qp27 r34 c0 c1 c2 c3 c4 c5 c6 c7 c8 c9 c10 c11 c12 c13 c14 c15 c16 c17 c18 c19 c20 c21).getD default) := (rfl)
theorem TA34 : T34.sp.alias = false := (rfl)
def tb34 : Fns := lk [(68, T68.sp), (69, T69.sp)]
theorem tb34_ok : FnsOk Tryz.prog tb34 := .cons f68 (.cons f69 (FnsOk.nil))
theorem tb34_68 : tb34 68 = some T68.sp := rfl
theorem tb34_69 : tb34 69 = some T69.sp := rfl
attribute [go_sem] TP34 TR34 TA34
section
attribute [local go_sem] T34 tb34_68 tb34_69 Tryz.results34
theorem v34 : Valid Tryz.prog 34 T34.sp := by
 refine valid_t (fn := Tryz.f34) (n := 22) ty_ok tb34_ok Tryz.func34 rfl Tryz.ntmps34 ?_
 rintro ⟨x2, x3, x4, x5, x6, x7, x8, x9, x10, x11, x12, x13, x14, x15, x16, x17, x18, x19, x20, x21, x0, x1⟩ hx
 obtain ⟨r, hr⟩ := oE (show (r34 x2 x3 x4 x5 x6 x7 x8 x9 x10 x11 x12 x13 x14 x15 x16 x17 x18 x19 x20 x21 x0 x1).isSome = true from hx)
 have hres : T34.res (x2, x3, x4, x5, x6, x7, x8, x9, x10, x11, x12, x13, x14, x15, x16, x17, x18, x19, x20, x21, x0, x1) = qu13 r := by simp only [T34, mkT, hr, oG]
 refine ⟨nL rfl, fun stop S => ?_⟩
 rw [hres] at S
 unfold r34 at hr
 refine S.gx [] ?_
 obtain ⟨v1, hv1, hr⟩ := of_bind0 hr
 obtain ⟨v2, hv2, hr⟩ := of_bind0 hr
 obtain ⟨v3, hv3, hr⟩ := of_bind0 hr
 obtain ⟨v4, hv4, hr⟩ := of_bind0 hr
 try simp only [hv1, hv2, hv3, hv4, Option.getD_some, Option.isSome_some, true_and, and_assoc]
 repeat refine gA ?_
 cases hr
 exact lf
theorem f34 : FnFact Tryz.prog 34 T34.sp := ⟨⟨Tryz.f34, Tryz.func34, by decide, rfl⟩, v34⟩
end

/- martensite/martensiteref04.RangeErr -/
def r35 (x1 : Int) (x0 : Int) : Option (Int) :=
  (r70 x1).bind fun v1 =>
   if (!(!v1)) = true → (r70 x0).isSome = true then
    if ((!v1) || (!((r70 x0).getD default))) = true then
     some 2
     else if (decide (x1 > x0)) = true then
      some 9
      else if (decide ((IntKind.i64.wrap (x0 - x1)) > 50)) = true then
       some 8
       else some 0
    else none
def T35 : TSpec qA4 := mkT qE4 qd4 (fun ⟨x1, x0⟩ => r35 x1 x0) qu4 false
theorem TP35 (c0 c1 : D) : T35.sp.pre [.agg [c0, c1]] = (eqvArgs (qt4 c0 c1) (qp4 qw4 c0 c1) ∧ (qp4 r35 c0 c1).isSome = true) := (rfl)
theorem TR35 (c0 c1 : D) : T35.sp.res [.agg [c0, c1]] = qu4 ((qp4 r35 c0 c1).getD default) := (rfl)
theorem TA35 : T35.sp.alias = false := (rfl)
def tb35 : Fns := lk [(70, T70.sp)]
theorem tb35_ok : FnsOk Tryz.prog tb35 := .cons f70 (FnsOk.nil)
theorem tb35_70 : tb35 70 = some T70.sp := rfl
attribute [go_sem] TP35 TR35 TA35
section
attribute [local go_sem] T35 tb35_70 Tryz.results35
theorem v35 : Valid Tryz.prog 35 T35.sp := by
 refine valid_t (fn := Tryz.f35) (n := 24) ty_ok tb35_ok Tryz.func35 rfl Tryz.ntmps35 ?_
 rintro ⟨x1, x0⟩ hx
 obtain ⟨r, hr⟩ := oE (show (r35 x1 x0).isSome = true from hx)
 have hres : T35.res (x1, x0) = qu4 r := by simp only [T35, mkT, hr, oG]
 refine ⟨nL rfl, fun stop S => ?_⟩
 rw [hres] at S
 unfold r35 at hr
 refine S.gx [] ?_
 obtain ⟨v1, hv1, hr⟩ := of_bind0 hr
 obtain ⟨hg2, hr⟩ := of_guard0 hr
 try simp only [hv1, oG, oI, true_and, and_assoc]
 repeat (first | refine gG hg2 ?_ | refine gA ?_ | refine gB ?_)
 refine ⟨?_, ?_⟩ <;> intro hc
 ·have hr := ifP hr hc
  repeat refine gA ?_
  cases hr
  exact lf
 ·have hr := ifN hr hc
  repeat refine gA ?_
  refine ⟨?_, ?_⟩ <;> intro hc
  ·have hr := ifP hr hc
   repeat refine gA ?_
   cases hr
   exact lf
  ·have hr := ifN hr hc
   repeat refine gA ?_
   refine ⟨?_, ?_⟩ <;> intro hc
   ·have hr := ifP hr hc
    repeat refine gA ?_
    cases hr
    exact lf
   ·have hr := ifN hr hc
    repeat refine gA ?_
    cases hr
    exact lf
theorem f35 : FnFact Tryz.prog 35 T35.sp := ⟨⟨Tryz.f35, Tryz.func35, by decide, rfl⟩, v35⟩
end

/- martensite/martensiteref04.HeatAt -/
def b101_1 (x0 : List (Int × Int × Int × Int)) (a1 : Int) : (Int × Int) → Ctl (Int × Int) (Int) := fun s1 =>
  if (decide (s1.2 < (x0.length : Int))) = true then
   if 0 ≤ s1.2 ∧ s1.2 < (x0.length : Int) then
    if (decide (((x0.getD s1.2.toNat default).1) ≤ a1)) = true then
     .next (s1.2, IntKind.i64.wrap (s1.2 + 1))
     else .next (s1.1, IntKind.i64.wrap (s1.2 + 1))
    else .out none
   else .out (some s1.1)
def r101 (x0 : List (Int × Int × Int × Int)) (x1 : List (Int × Int × Int × Int × Int)) (x2 : List (Int × Int × Int)) (x3 : List (Int × Int)) (x4 : Int) (x5 : Int) (x6 : Int) (x7 : Int) (a1 : Int) : Option (Int) :=
  iterC (b101_1 x0 a1) 1000000000 ((-1), 0)
def T101 : TSpec qA14 := mkT qE14 qd14 (fun ⟨x0, x1, x2, x3, x4, x5, x6, x7, a1⟩ => r101 x0 x1 x2 x3 x4 x5 x6 x7 a1) qu4 false
theorem TP101 (c0 c1 c2 c3 c4 c5 c6 c7 c8 : D) : T101.sp.pre [.agg [c0, c1, c2, c3, c4, c5, c6, c7], .c c8] = (eqvArgs (qt14 c0 c1 c2 c3 c4 c5 c6 c7 c8) (qp14 qw14 c0 c1 c2 c3 c4 c5 c6 c7 c8) ∧ (qp14 r101 c0 c1 c2 c3 c4 c5 c6 c7 c8).isSome = true) := (rfl)
theorem TR101 (c0 c1 c2 c3 c4 c5 c6 c7 c8 : D) : T101.sp.res [.agg [c0, c1, c2, c3, c4, c5, c6, c7], .c c8] = qu4 ((qp14 r101 c0 c1 c2 c3 c4 c5 c6 c7 c8).getD default) := (rfl)
theorem TA101 : T101.sp.alias = false := (rfl)
def tb101 : Fns := lk []
theorem tb101_ok : FnsOk Tryz.prog tb101 := FnsOk.nil
attribute [go_sem] TP101 TR101 TA101
section
attribute [local go_sem] T101 Tryz.results101
theorem v101 : Valid Tryz.prog 101 T101.sp := by
 refine valid_t (fn := Tryz.f101) (n := 24) ty_ok tb101_ok Tryz.func101 rfl Tryz.ntmps101 ?_
 rintro ⟨x0, x1, x2, x3, x4, x5, x6, x7, a1⟩ hx
 obtain ⟨r, hr⟩ := oE (show (r101 x0 x1 x2 x3 x4 x5 x6 x7 a1).isSome = true from hx)
 have hres : T101.res (x0, x1, x2, x3, x4, x5, x6, x7, a1) = qu4 r := by simp only [T101, mkT, hr, oG]
 refine ⟨nL rfl, fun stop S => ?_⟩
 rw [hres] at S
 unfold r101 at hr
 refine S.gx [] ?_
 repeat refine gA ?_
 refine S.sees [1, 2, 5, 6] [(2, 2)] [] ?_ (Stop.iter S (fun s1 => ⟨[(1, .c (.d (.int .i64 a1))), (2, .c (.ref 2 0)), (5, .c (.d (.int .i64 s1.1))), (6, .c (.d (.int .i64 s1.2)))], [(2, [.d (encF 4 d_IIII x0), .d (encF 5 d_IIIII x1), .d (encF 3 d_III x2), .d (encF 2 d_II x3), .d (.int .i64 x4), .d (.int .i64 x5), .d (.int .i64 x6), .d (.int .i64 x7)])], []⟩) (b101_1 x0 a1) (fun q => q = r) hr rfl ?_)
 ·exact lf
 ·intro s1 hr
  unfold b101_1 at hr
  refine S.gx [] ?_
  repeat refine gA ?_
  refine ⟨?_, ?_⟩ <;> intro hc
  ·have hr := ifP1 hr hc
   obtain ⟨hg1, hr⟩ := of_guard1 hr
   repeat refine gA ?_
   refine ⟨?_, ?_⟩ <;> intro hc
   ·have hr := ifP1 hr hc
    repeat refine gA ?_
    refine S.sees [1, 2, 5, 6] [(2, 2)] [] ?_ hr
    exact lf
   ·have hr := ifN1 hr hc
    repeat refine gA ?_
    refine S.sees [1, 2, 5, 6] [(2, 2)] [] ?_ hr
    exact lf
  ·have hr := ifN1 hr hc
   repeat refine gA ?_
   have hr := of_out0 hr
   repeat refine gA ?_
   cases hr
   exact lf
theorem f101 : FnFact Tryz.prog 101 T101.sp := ⟨⟨Tryz.f101, Tryz.func101, by decide, rfl⟩, v101⟩
end

/- martensite/martensiteref04.CoolAt -/
def b102_1 (x0 : List (Int × Int × Int × Int × Int)) (a1 : Int) : (Int) → Ctl (Int) (Int) := fun s1 =>
  if (decide (s1 < (x0.length : Int))) = true then
   if 0 ≤ s1 ∧ s1 < (x0.length : Int) then
    if (decide (((x0.getD s1.toNat default).1) ≥ a1)) = true then
     .out (some s1)
     else .next (IntKind.i64.wrap (s1 + 1))
    else .out none
   else .out (some (-1))
def r102 (x1 : List (Int × Int × Int × Int)) (x0 : List (Int × Int × Int × Int × Int)) (x2 : List (Int × Int × Int)) (x3 : List (Int × Int)) (x4 : Int) (x5 : Int) (x6 : Int) (x7 : Int) (a1 : Int) : Option (Int) :=
  iterC (b102_1 x0 a1) 1000000000 0
def T102 : TSpec qA14 := mkT qE14 qd14 (fun ⟨x1, x0, x2, x3, x4, x5, x6, x7, a1⟩ => r102 x1 x0 x2 x3 x4 x5 x6 x7 a1) qu4 false
theorem TP102 (c0 c1 c2 c3 c4 c5 c6 c7 c8 : D) : T102.sp.pre [.agg [c0, c1, c2, c3, c4, c5, c6, c7], .c c8] = (eqvArgs (qt14 c0 c1 c2 c3 c4 c5 c6 c7 c8) (qp14 qw14 c0 c1 c2 c3 c4 c5 c6 c7 c8) ∧ (qp14 r102 c0 c1 c2 c3 c4 c5 c6 c7 c8).isSome = true) := (rfl)
theorem TR102 (c0 c1 c2 c3 c4 c5 c6 c7 c8 : D) : T102.sp.res [.agg [c0, c1, c2, c3, c4, c5, c6, c7], .c c8] = qu4 ((qp14 r102 c0 c1 c2 c3 c4 c5 c6 c7 c8).getD default) := (rfl)
theorem TA102 : T102.sp.alias = false := (rfl)
def tb102 : Fns := lk []
theorem tb102_ok : FnsOk Tryz.prog tb102 := FnsOk.nil
attribute [go_sem] TP102 TR102 TA102
section
attribute [local go_sem] T102 Tryz.results102
theorem v102 : Valid Tryz.prog 102 T102.sp := by
 refine valid_t (fn := Tryz.f102) (n := 22) ty_ok tb102_ok Tryz.func102 rfl Tryz.ntmps102 ?_
 rintro ⟨x1, x0, x2, x3, x4, x5, x6, x7, a1⟩ hx
 obtain ⟨r, hr⟩ := oE (show (r102 x1 x0 x2 x3 x4 x5 x6 x7 a1).isSome = true from hx)
 have hres : T102.res (x1, x0, x2, x3, x4, x5, x6, x7, a1) = qu4 r := by simp only [T102, mkT, hr, oG]
 refine ⟨nL rfl, fun stop S => ?_⟩
 rw [hres] at S
 unfold r102 at hr
 refine S.gx [] ?_
 repeat refine gA ?_
 refine S.sees [1, 2, 5] [(2, 2)] [] ?_ (Stop.iter S (fun s1 => ⟨[(1, .c (.d (.int .i64 a1))), (2, .c (.ref 2 0)), (5, .c (.d (.int .i64 s1)))], [(2, [.d (encF 4 d_IIII x1), .d (encF 5 d_IIIII x0), .d (encF 3 d_III x2), .d (encF 2 d_II x3), .d (.int .i64 x4), .d (.int .i64 x5), .d (.int .i64 x6), .d (.int .i64 x7)])], []⟩) (b102_1 x0 a1) (fun q => q = r) hr rfl ?_)
 ·exact lf
 ·intro s1 hr
  unfold b102_1 at hr
  refine S.gx [] ?_
  repeat refine gA ?_
  refine ⟨?_, ?_⟩ <;> intro hc
  ·have hr := ifP1 hr hc
   obtain ⟨hg1, hr⟩ := of_guard1 hr
   repeat refine gA ?_
   refine ⟨?_, ?_⟩ <;> intro hc
   ·have hr := ifP1 hr hc
    repeat refine gA ?_
    have hr := of_out0 hr
    cases hr
    exact lf
   ·have hr := ifN1 hr hc
    repeat refine gA ?_
    refine S.sees [1, 2, 5] [(2, 2)] [] ?_ hr
    exact lf
  ·have hr := ifN1 hr hc
   repeat refine gA ?_
   have hr := of_out0 hr
   repeat refine gA ?_
   cases hr
   exact lf
theorem f102 : FnFact Tryz.prog 102 T102.sp := ⟨⟨Tryz.f102, Tryz.func102, by decide, rfl⟩, v102⟩
end

/- martensite/martensiteref04.ColdAt -/
def b103_1 (x0 : List (Int × Int × Int)) (a1 : Int) : (Int) → Ctl (Int) (Int) := fun s1 =>
  if (decide (s1 < (x0.length : Int))) = true then
   if 0 ≤ s1 ∧ s1 < (x0.length : Int) then
    if (decide (((x0.getD s1.toNat default).1) ≥ a1)) = true then
     .out (some s1)
     else .next (IntKind.i64.wrap (s1 + 1))
    else .out none
   else .out (some (-1))
def r103 (x1 : List (Int × Int × Int × Int)) (x2 : List (Int × Int × Int × Int × Int)) (x0 : List (Int × Int × Int)) (x3 : List (Int × Int)) (x4 : Int) (x5 : Int) (x6 : Int) (x7 : Int) (a1 : Int) : Option (Int) :=
  iterC (b103_1 x0 a1) 1000000000 0
def T103 : TSpec qA14 := mkT qE14 qd14 (fun ⟨x1, x2, x0, x3, x4, x5, x6, x7, a1⟩ => r103 x1 x2 x0 x3 x4 x5 x6 x7 a1) qu4 false
theorem TP103 (c0 c1 c2 c3 c4 c5 c6 c7 c8 : D) : T103.sp.pre [.agg [c0, c1, c2, c3, c4, c5, c6, c7], .c c8] = (eqvArgs (qt14 c0 c1 c2 c3 c4 c5 c6 c7 c8) (qp14 qw14 c0 c1 c2 c3 c4 c5 c6 c7 c8) ∧ (qp14 r103 c0 c1 c2 c3 c4 c5 c6 c7 c8).isSome = true) := (rfl)
theorem TR103 (c0 c1 c2 c3 c4 c5 c6 c7 c8 : D) : T103.sp.res [.agg [c0, c1, c2, c3, c4, c5, c6, c7], .c c8] = qu4 ((qp14 r103 c0 c1 c2 c3 c4 c5 c6 c7 c8).getD default) := (rfl)
theorem TA103 : T103.sp.alias = false := (rfl)
def tb103 : Fns := lk []
theorem tb103_ok : FnsOk Tryz.prog tb103 := FnsOk.nil
attribute [go_sem] TP103 TR103 TA103
section
attribute [local go_sem] T103 Tryz.results103
theorem v103 : Valid Tryz.prog 103 T103.sp := by
 refine valid_t (fn := Tryz.f103) (n := 22) ty_ok tb103_ok Tryz.func103 rfl Tryz.ntmps103 ?_
 rintro ⟨x1, x2, x0, x3, x4, x5, x6, x7, a1⟩ hx
 obtain ⟨r, hr⟩ := oE (show (r103 x1 x2 x0 x3 x4 x5 x6 x7 a1).isSome = true from hx)
 have hres : T103.res (x1, x2, x0, x3, x4, x5, x6, x7, a1) = qu4 r := by simp only [T103, mkT, hr, oG]
 refine ⟨nL rfl, fun stop S => ?_⟩
 rw [hres] at S
 unfold r103 at hr
 refine S.gx [] ?_
 repeat refine gA ?_
 refine S.sees [1, 2, 5] [(2, 2)] [] ?_ (Stop.iter S (fun s1 => ⟨[(1, .c (.d (.int .i64 a1))), (2, .c (.ref 2 0)), (5, .c (.d (.int .i64 s1)))], [(2, [.d (encF 4 d_IIII x1), .d (encF 5 d_IIIII x2), .d (encF 3 d_III x0), .d (encF 2 d_II x3), .d (.int .i64 x4), .d (.int .i64 x5), .d (.int .i64 x6), .d (.int .i64 x7)])], []⟩) (b103_1 x0 a1) (fun q => q = r) hr rfl ?_)
 ·exact lf
 ·intro s1 hr
  unfold b103_1 at hr
  refine S.gx [] ?_
  repeat refine gA ?_
  refine ⟨?_, ?_⟩ <;> intro hc
  ·have hr := ifP1 hr hc
   obtain ⟨hg1, hr⟩ := of_guard1 hr
   repeat refine gA ?_
   refine ⟨?_, ?_⟩ <;> intro hc
   ·have hr := ifP1 hr hc
    repeat refine gA ?_
    have hr := of_out0 hr
    cases hr
    exact lf
   ·have hr := ifN1 hr hc
    repeat refine gA ?_
    refine S.sees [1, 2, 5] [(2, 2)] [] ?_ hr
    exact lf
  ·have hr := ifN1 hr hc
   repeat refine gA ?_
   have hr := of_out0 hr
   repeat refine gA ?_
   cases hr
   exact lf
theorem f103 : FnFact Tryz.prog 103 T103.sp := ⟨⟨Tryz.f103, Tryz.func103, by decide, rfl⟩, v103⟩
end

/- martensite/martensiteref04.martensite -/
def r104 (a0 : Int) (a1 : Int) (a2 : Int) : Option (Int) :=
  some (if a1 < IntKind.i64.wrap ((IntKind.i64.wrap ((IntKind.i64.wrap (a0 + a1)) * a2)).tdiv 1000000) then IntKind.i64.wrap ((IntKind.i64.wrap ((IntKind.i64.wrap (a0 + a1)) * a2)).tdiv 1000000) else a1)
def T104 : TSpec qA2 := mkT qE2 qd2 (fun ⟨a0, a1, a2⟩ => r104 a0 a1 a2) qu4 false
theorem TP104 (c0 c1 c2 : D) : T104.sp.pre [.c c0, .c c1, .c c2] = (eqvArgs (qt2 c0 c1 c2) (qp2 qw2 c0 c1 c2) ∧ (qp2 r104 c0 c1 c2).isSome = true) := (rfl)
theorem TR104 (c0 c1 c2 : D) : T104.sp.res [.c c0, .c c1, .c c2] = qu4 ((qp2 r104 c0 c1 c2).getD default) := (rfl)
theorem TA104 : T104.sp.alias = false := (rfl)
def tb104 : Fns := lk []
theorem tb104_ok : FnsOk Tryz.prog tb104 := FnsOk.nil
attribute [go_sem] TP104 TR104 TA104
section
attribute [local go_sem] T104 Tryz.results104
theorem v104 : Valid Tryz.prog 104 T104.sp := by
 refine valid_t (fn := Tryz.f104) (n := 15) ty_ok tb104_ok Tryz.func104 rfl Tryz.ntmps104 ?_
 rintro ⟨a0, a1, a2⟩ hx
 obtain ⟨r, hr⟩ := oE (show (r104 a0 a1 a2).isSome = true from hx)
 have hres : T104.res (a0, a1, a2) = qu4 r := by simp only [T104, mkT, hr, oG]
 refine ⟨nL rfl, fun stop S => ?_⟩
 rw [hres] at S
 unfold r104 at hr
 refine S.gx [] ?_
 repeat refine gA ?_
 cases hr
 exact lf
theorem f104 : FnFact Tryz.prog 104 T104.sp := ⟨⟨Tryz.f104, Tryz.func104, by decide, rfl⟩, v104⟩
end

/- martensite/martensiteref04.TemperAt -/
def b105_1 (x0 : List (Int × Int)) (a1 : Int) : (Int × Int) → Ctl (Int × Int) (Int) := fun s1 =>
  if (decide (s1.2 < (x0.length : Int))) = true then
   if 0 ≤ s1.2 ∧ s1.2 < (x0.length : Int) then
    if (decide (((x0.getD s1.2.toNat default).1) ≤ a1)) = true then
     .next (s1.2, IntKind.i64.wrap (s1.2 + 1))
     else .next (s1.1, IntKind.i64.wrap (s1.2 + 1))
    else .out none
   else .out (some s1.1)
def r105 (x1 : List (Int × Int × Int × Int)) (x2 : List (Int × Int × Int × Int × Int)) (x3 : List (Int × Int × Int)) (x0 : List (Int × Int)) (x4 : Int) (x5 : Int) (x6 : Int) (x7 : Int) (a1 : Int) : Option (Int) :=
  iterC (b105_1 x0 a1) 1000000000 ((-1), 0)
def T105 : TSpec qA14 := mkT qE14 qd14 (fun ⟨x1, x2, x3, x0, x4, x5, x6, x7, a1⟩ => r105 x1 x2 x3 x0 x4 x5 x6 x7 a1) qu4 false
theorem TP105 (c0 c1 c2 c3 c4 c5 c6 c7 c8 : D) : T105.sp.pre [.agg [c0, c1, c2, c3, c4, c5, c6, c7], .c c8] = (eqvArgs (qt14 c0 c1 c2 c3 c4 c5 c6 c7 c8) (qp14 qw14 c0 c1 c2 c3 c4 c5 c6 c7 c8) ∧ (qp14 r105 c0 c1 c2 c3 c4 c5 c6 c7 c8).isSome = true) := (rfl)
theorem TR105 (c0 c1 c2 c3 c4 c5 c6 c7 c8 : D) : T105.sp.res [.agg [c0, c1, c2, c3, c4, c5, c6, c7], .c c8] = qu4 ((qp14 r105 c0 c1 c2 c3 c4 c5 c6 c7 c8).getD default) := (rfl)
theorem TA105 : T105.sp.alias = false := (rfl)
def tb105 : Fns := lk []
theorem tb105_ok : FnsOk Tryz.prog tb105 := FnsOk.nil
attribute [go_sem] TP105 TR105 TA105
section
attribute [local go_sem] T105 Tryz.results105
theorem v105 : Valid Tryz.prog 105 T105.sp := by
 refine valid_t (fn := Tryz.f105) (n := 24) ty_ok tb105_ok Tryz.func105 rfl Tryz.ntmps105 ?_
 rintro ⟨x1, x2, x3, x0, x4, x5, x6, x7, a1⟩ hx
 obtain ⟨r, hr⟩ := oE (show (r105 x1 x2 x3 x0 x4 x5 x6 x7 a1).isSome = true from hx)
 have hres : T105.res (x1, x2, x3, x0, x4, x5, x6, x7, a1) = qu4 r := by simp only [T105, mkT, hr, oG]
 refine ⟨nL rfl, fun stop S => ?_⟩
 rw [hres] at S
 unfold r105 at hr
 refine S.gx [] ?_
 repeat refine gA ?_
 refine S.sees [1, 2, 5, 6] [(2, 2)] [] ?_ (Stop.iter S (fun s1 => ⟨[(1, .c (.d (.int .i64 a1))), (2, .c (.ref 2 0)), (5, .c (.d (.int .i64 s1.1))), (6, .c (.d (.int .i64 s1.2)))], [(2, [.d (encF 4 d_IIII x1), .d (encF 5 d_IIIII x2), .d (encF 3 d_III x3), .d (encF 2 d_II x0), .d (.int .i64 x4), .d (.int .i64 x5), .d (.int .i64 x6), .d (.int .i64 x7)])], []⟩) (b105_1 x0 a1) (fun q => q = r) hr rfl ?_)
 ·exact lf
 ·intro s1 hr
  unfold b105_1 at hr
  refine S.gx [] ?_
  repeat refine gA ?_
  refine ⟨?_, ?_⟩ <;> intro hc
  ·have hr := ifP1 hr hc
   obtain ⟨hg1, hr⟩ := of_guard1 hr
   repeat refine gA ?_
   refine ⟨?_, ?_⟩ <;> intro hc
   ·have hr := ifP1 hr hc
    repeat refine gA ?_
    refine S.sees [1, 2, 5, 6] [(2, 2)] [] ?_ hr
    exact lf
   ·have hr := ifN1 hr hc
    repeat refine gA ?_
    refine S.sees [1, 2, 5, 6] [(2, 2)] [] ?_ hr
    exact lf
  ·have hr := ifN1 hr hc
   repeat refine gA ?_
   have hr := of_out0 hr
   repeat refine gA ?_
   cases hr
   exact lf
theorem f105 : FnFact Tryz.prog 105 T105.sp := ⟨⟨Tryz.f105, Tryz.func105, by decide, rfl⟩, v105⟩
end

theorem stop_join71 {σ : Type} {k : List K} {stop : List K → St → Prop} (head : σ → St) (R : σ → Prop) {goal : Prop} (main : (∀ s, R s → stop k (head s)) → goal) (j : ∀ s, R s → stop k (head s)) : goal := main j
/- martensite/martensiteref04.boxAt -/
def j71_2 (x0 : List (Int × Int × Int × Int)) (x1 : Int) (x2 : Int) (x7 : Int) (x6 : Int) (x3 : Int) (x4 : Int) (v1 : Int) (s1 : Int) : (Int) → Option (Int × Int × Int × Int × Int × Int × Int × Int × Int × Int × Int × Int × Int × Int) := fun s2 =>
  some ((if 0 < IntKind.i64.wrap ((if IntKind.i64.wrap ((IntKind.i64.wrap (x1 + x7)) + x3) < 1000000 then IntKind.i64.wrap ((IntKind.i64.wrap (x1 + x7)) + x3) else 1000000) - ((x0.getD v1.toNat default).2.2.1)) then IntKind.i64.wrap ((if IntKind.i64.wrap ((IntKind.i64.wrap (x1 + x7)) + x3) < 1000000 then IntKind.i64.wrap ((IntKind.i64.wrap (x1 + x7)) + x3) else 1000000) - ((x0.getD v1.toNat default).2.2.1)) else 0), (if 0 < IntKind.i64.wrap ((if IntKind.i64.wrap ((IntKind.i64.wrap (x2 + x6)) + x4) < 1000000 then IntKind.i64.wrap ((IntKind.i64.wrap (x2 + x6)) + x4) else 1000000) - ((x0.getD v1.toNat default).2.1)) then IntKind.i64.wrap ((if IntKind.i64.wrap ((IntKind.i64.wrap (x2 + x6)) + x4) < 1000000 then IntKind.i64.wrap ((IntKind.i64.wrap (x2 + x6)) + x4) else 1000000) - ((x0.getD v1.toNat default).2.1)) else 0), IntKind.i64.wrap (1000000 - (if 0 < IntKind.i64.wrap ((if IntKind.i64.wrap ((IntKind.i64.wrap (x2 + x6)) + x4) < 1000000 then IntKind.i64.wrap ((IntKind.i64.wrap (x2 + x6)) + x4) else 1000000) - ((x0.getD v1.toNat default).2.1)) then IntKind.i64.wrap ((if IntKind.i64.wrap ((IntKind.i64.wrap (x2 + x6)) + x4) < 1000000 then IntKind.i64.wrap ((IntKind.i64.wrap (x2 + x6)) + x4) else 1000000) - ((x0.getD v1.toNat default).2.1)) else 0)), IntKind.i64.wrap (1000000 - (if 0 < IntKind.i64.wrap ((if IntKind.i64.wrap ((IntKind.i64.wrap (x1 + x7)) + x3) < 1000000 then IntKind.i64.wrap ((IntKind.i64.wrap (x1 + x7)) + x3) else 1000000) - ((x0.getD v1.toNat default).2.2.1)) then IntKind.i64.wrap ((if IntKind.i64.wrap ((IntKind.i64.wrap (x1 + x7)) + x3) < 1000000 then IntKind.i64.wrap ((IntKind.i64.wrap (x1 + x7)) + x3) else 1000000) - ((x0.getD v1.toNat default).2.2.1)) else 0)), 0, 0, 0, 0, 0, 0, s1, s2, 0, 0)
def j71_1 (x0 : List (Int × Int × Int × Int)) (x1 : Int) (x2 : Int) (x7 : Int) (x6 : Int) (x3 : Int) (x4 : Int) (x9 : Int) (v1 : Int) : (Int) → Option (Int × Int × Int × Int × Int × Int × Int × Int × Int × Int × Int × Int × Int × Int) := fun s1 =>
  if (decide ((IntKind.i64.wrap (1000000 - (if 0 < IntKind.i64.wrap ((if IntKind.i64.wrap ((IntKind.i64.wrap (x1 + x7)) + x3) < 1000000 then IntKind.i64.wrap ((IntKind.i64.wrap (x1 + x7)) + x3) else 1000000) - ((x0.getD v1.toNat default).2.2.1)) then IntKind.i64.wrap ((if IntKind.i64.wrap ((IntKind.i64.wrap (x1 + x7)) + x3) < 1000000 then IntKind.i64.wrap ((IntKind.i64.wrap (x1 + x7)) + x3) else 1000000) - ((x0.getD v1.toNat default).2.2.1)) else 0))) > 0)) = true then
   if 0 ≤ v1 ∧ v1 < (x0.length : Int) then
    j71_2 x0 x1 x2 x7 x6 x3 x4 v1 s1 (if IntKind.i64.wrap (x9 + ((x0.getD v1.toNat default).2.2.2)) < 100000 then IntKind.i64.wrap (x9 + ((x0.getD v1.toNat default).2.2.2)) else 100000)
    else none
   else j71_2 x0 x1 x2 x7 x6 x3 x4 v1 s1 x9
def j71_4 (x0 : List (Int × Int × Int × Int)) (x5 : List (Int × Int × Int × Int × Int)) (x10 : List (Int × Int × Int)) (x8 : List (Int × Int)) (x11 : Int) (x12 : Int) (x13 : Int) (x14 : Int) (x1 : Int) (x2 : Int) (x15 : Int) (x9 : Int) (x16 : Int) (x17 : Int) (a2 : Int) (s3 : Int × Int × Int × Int × Int × Int) : (Int × Int × Int × Int) → Option (Int × Int × Int × Int × Int × Int × Int × Int × Int × Int × Int × Int × Int × Int) := fun s4 =>
  (r105 x0 x5 x10 x8 x11 x12 x13 x14 a2).bind fun v7 =>
   if (decide (v7 ≥ 0)) = true then
    if 0 ≤ v7 ∧ v7 < (x8.length : Int) then
     if 0 ≤ v7 ∧ v7 < (x8.length : Int) then
      some (x1, x2, s4.1, s4.2.1, s3.2.2.1, s3.2.2.2.1, s4.2.2.1, s4.2.2.2, s3.2.2.2.2.1, s3.2.2.2.2.2, x15, x9, (if IntKind.i64.wrap (x16 + ((x8.getD v7.toNat default).2)) < 1000000 then IntKind.i64.wrap (x16 + ((x8.getD v7.toNat default).2)) else 1000000), (if IntKind.i64.wrap (x17 + ((x8.getD v7.toNat default).2)) < 1000000 then IntKind.i64.wrap (x17 + ((x8.getD v7.toNat default).2)) else 1000000))
      else none
     else none
    else some (x1, x2, s4.1, s4.2.1, s3.2.2.1, s3.2.2.2.1, s4.2.2.1, s4.2.2.2, s3.2.2.2.2.1, s3.2.2.2.2.2, x15, x9, x16, x17)
def j71_3 (x0 : List (Int × Int × Int × Int)) (x5 : List (Int × Int × Int × Int × Int)) (x10 : List (Int × Int × Int)) (x8 : List (Int × Int)) (x11 : Int) (x12 : Int) (x13 : Int) (x14 : Int) (x1 : Int) (x2 : Int) (x3 : Int) (x4 : Int) (x15 : Int) (x9 : Int) (x16 : Int) (x17 : Int) (a2 : Int) : (Int × Int × Int × Int × Int × Int) → Option (Int × Int × Int × Int × Int × Int × Int × Int × Int × Int × Int × Int × Int × Int) := fun s3 =>
  (r103 x0 x5 x10 x8 x11 x12 x13 x14 a2).bind fun v6 =>
   if (decide (v6 ≥ 0)) = true then
    if 0 ≤ v6 ∧ v6 < (x10.length : Int) then
     (r104 s3.1 x3 ((x10.getD v6.toNat default).2.1)).bind fun v10 =>
      (r104 s3.2.1 x4 ((x10.getD v6.toNat default).2.2)).bind fun v11 =>
       (r104 s3.1 x3 ((x10.getD v6.toNat default).2.2)).bind fun v12 =>
        (r104 s3.2.1 x4 ((x10.getD v6.toNat default).2.1)).bind fun v13 =>
         j71_4 x0 x5 x10 x8 x11 x12 x13 x14 x1 x2 x15 x9 x16 x17 a2 s3 (IntKind.i64.wrap ((IntKind.i64.wrap (s3.1 + x3)) - v12), IntKind.i64.wrap ((IntKind.i64.wrap (s3.2.1 + x4)) - v13), v10, (if v11 < 1000000 then v11 else 1000000))
     else none
    else j71_4 x0 x5 x10 x8 x11 x12 x13 x14 x1 x2 x15 x9 x16 x17 a2 s3 (s3.1, s3.2.1, x3, x4)
def j71_5 (x0 : List (Int × Int × Int × Int)) (x5 : List (Int × Int × Int × Int × Int)) (x10 : List (Int × Int × Int)) (x8 : List (Int × Int)) (x11 : Int) (x12 : Int) (x13 : Int) (x14 : Int) (x1 : Int) (x2 : Int) (x19 : Int) (x18 : Int) (x7 : Int) (x6 : Int) (x3 : Int) (x4 : Int) (x20 : Int) (x21 : Int) (x15 : Int) (x9 : Int) (x16 : Int) (x17 : Int) (a2 : Int) (v5 : Int) : (Int) → Option (Int × Int × Int × Int × Int × Int × Int × Int × Int × Int × Int × Int × Int × Int) := fun s5 =>
  if ((if IntKind.i64.wrap (x21 + ((x5.getD v5.toNat default).2.2.1)) < 1000000 then IntKind.i64.wrap (x21 + ((x5.getD v5.toNat default).2.2.1)) else 1000000) == 1000000) = true then
   j71_3 x0 x5 x10 x8 x11 x12 x13 x14 x1 x2 x3 x4 x15 x9 x16 x17 a2 ((if 0 < IntKind.i64.wrap (x19 - ((x5.getD v5.toNat default).2.2.2.2)) then IntKind.i64.wrap (x19 - ((x5.getD v5.toNat default).2.2.2.2)) else 0), (if 0 < IntKind.i64.wrap (x18 - s5) then IntKind.i64.wrap (x18 - s5) else 0), IntKind.i64.wrap (x7 + (if s5 < x19 then s5 else x19)), (if IntKind.i64.wrap (x6 + (if (x5.getD v5.toNat default).2.2.2.2 < x18 then (x5.getD v5.toNat default).2.2.2.2 else x18)) < 1000000 then IntKind.i64.wrap (x6 + (if (x5.getD v5.toNat default).2.2.2.2 < x18 then (x5.getD v5.toNat default).2.2.2.2 else x18)) else 1000000), (if IntKind.i64.wrap (x20 + ((x5.getD v5.toNat default).2.1)) < 1000000 then IntKind.i64.wrap (x20 + ((x5.getD v5.toNat default).2.1)) else 1000000), (if IntKind.i64.wrap (x21 + ((x5.getD v5.toNat default).2.2.1)) < 1000000 then IntKind.i64.wrap (x21 + ((x5.getD v5.toNat default).2.2.1)) else 1000000))
   else j71_3 x0 x5 x10 x8 x11 x12 x13 x14 x1 x2 x3 x4 x15 x9 x16 x17 a2 ((if 0 < IntKind.i64.wrap (x19 - 0) then IntKind.i64.wrap (x19 - 0) else 0), (if 0 < IntKind.i64.wrap (x18 - s5) then IntKind.i64.wrap (x18 - s5) else 0), IntKind.i64.wrap (x7 + (if s5 < x19 then s5 else x19)), (if IntKind.i64.wrap (x6 + (if 0 < x18 then 0 else x18)) < 1000000 then IntKind.i64.wrap (x6 + (if 0 < x18 then 0 else x18)) else 1000000), (if IntKind.i64.wrap (x20 + ((x5.getD v5.toNat default).2.1)) < 1000000 then IntKind.i64.wrap (x20 + ((x5.getD v5.toNat default).2.1)) else 1000000), (if IntKind.i64.wrap (x21 + ((x5.getD v5.toNat default).2.2.1)) < 1000000 then IntKind.i64.wrap (x21 + ((x5.getD v5.toNat default).2.2.1)) else 1000000))
def r71 (x0 : List (Int × Int × Int × Int)) (x5 : List (Int × Int × Int × Int × Int)) (x10 : List (Int × Int × Int)) (x8 : List (Int × Int)) (x11 : Int) (x12 : Int) (x13 : Int) (x14 : Int) (x1 : Int) (x2 : Int) (x19 : Int) (x18 : Int) (x7 : Int) (x6 : Int) (x3 : Int) (x4 : Int) (x20 : Int) (x21 : Int) (x15 : Int) (x9 : Int) (x16 : Int) (x17 : Int) (a2 : Int) : Option (Int × Int × Int × Int × Int × Int × Int × Int × Int × Int × Int × Int × Int × Int) :=
  (r101 x0 x5 x10 x8 x11 x12 x13 x14 a2).bind fun v1 =>
   if (decide (v1 ≥ 0)) = true then
    if 0 ≤ v1 ∧ v1 < (x0.length : Int) then
     if (decide ((IntKind.i64.wrap (1000000 - (if 0 < IntKind.i64.wrap ((if IntKind.i64.wrap ((IntKind.i64.wrap (x2 + x6)) + x4) < 1000000 then IntKind.i64.wrap ((IntKind.i64.wrap (x2 + x6)) + x4) else 1000000) - ((x0.getD v1.toNat default).2.1)) then IntKind.i64.wrap ((if IntKind.i64.wrap ((IntKind.i64.wrap (x2 + x6)) + x4) < 1000000 then IntKind.i64.wrap ((IntKind.i64.wrap (x2 + x6)) + x4) else 1000000) - ((x0.getD v1.toNat default).2.1)) else 0))) > 0)) = true then
      if 0 ≤ v1 ∧ v1 < (x0.length : Int) then
       j71_1 x0 x1 x2 x7 x6 x3 x4 x9 v1 (if IntKind.i64.wrap (x15 + ((x0.getD v1.toNat default).2.2.2)) < 100000 then IntKind.i64.wrap (x15 + ((x0.getD v1.toNat default).2.2.2)) else 100000)
       else none
      else j71_1 x0 x1 x2 x7 x6 x3 x4 x9 v1 x15
     else none
    else (r102 x0 x5 x10 x8 x11 x12 x13 x14 a2).bind fun v5 =>
     if (decide (v5 ≥ 0)) = true then
      if 0 ≤ v5 ∧ v5 < (x5.length : Int) then
       if 0 ≤ v5 ∧ v5 < (x5.length : Int) then
        if ((if IntKind.i64.wrap (x20 + ((x5.getD v5.toNat default).2.1)) < 1000000 then IntKind.i64.wrap (x20 + ((x5.getD v5.toNat default).2.1)) else 1000000) == 1000000) = true then
         j71_5 x0 x5 x10 x8 x11 x12 x13 x14 x1 x2 x19 x18 x7 x6 x3 x4 x20 x21 x15 x9 x16 x17 a2 v5 ((x5.getD v5.toNat default).2.2.2.1)
         else j71_5 x0 x5 x10 x8 x11 x12 x13 x14 x1 x2 x19 x18 x7 x6 x3 x4 x20 x21 x15 x9 x16 x17 a2 v5 0
        else none
       else none
      else j71_3 x0 x5 x10 x8 x11 x12 x13 x14 x1 x2 x3 x4 x15 x9 x16 x17 a2 (x19, x18, x7, x6, x20, x21)
def T71 : TSpec qA34 := mkT qE34 qd34 (fun ⟨x0, x5, x10, x8, x11, x12, x13, x14, x1, x2, x19, x18, x7, x6, x3, x4, x20, x21, x15, x9, x16, x17, a2⟩ => r71 x0 x5 x10 x8 x11 x12 x13 x14 x1 x2 x19 x18 x7 x6 x3 x4 x20 x21 x15 x9 x16 x17 a2) qu15 false
theorem TP71 (c0 c1 c2 c3 c4 c5 c6 c7 c8 c9 c10 c11 c12 c13 c14 c15 c16 c17 c18 c19 c20 c21 c22 : D) : T71.sp.pre [.agg [c0, c1, c2, c3, c4, c5, c6, c7], .agg [c8, c9, c10, c11, c12, c13, c14, c15, c16, c17, c18, c19, c20, c21], .c c22] = (eqvArgs (qt34 c0 c1 c2 c3 c4 c5 c6 c7 c8 c9 c10 c11 c12 c13 c14 c15 c16 c17 c18 c19 c20 c21 c22) (qp34 qw34 c0 c1 c2 c3 c4 c5 c6 c7 c8 c9 c10 c11 c12 c13 c14 c15 c16 c17 c18 c19 c20 c21 c22) ∧ (qp34 r71 c0 c1 c2 c3 c4 c5 c6 c7 c8 c9 c10 c11 c12 c13 c14 c15 c16 c17 c18 c19 c20 c21 c22).isSome = true) := (rfl)
theorem TR71 (c0 c1 c2 c3 c4 c5 c6 c7 c8 c9 c10 c11 c12 c13 c14 c15 c16 c17 c18 c19 c20 c21 c22 : D) : T71.sp.res [.agg [c0, c1, c2, c3, c4, c5, c6, c7], .agg [c8, c9, c10, c11, c12, c13, c14, c15, c16, c17, c18, c19, c20, c21], .c c22] = qu15 ((qp34 r71 c0 c1 c2 c3 c4 c5 c6 c7 c8 c9 c10 c11 c12 c13 c14 c15 c16 c17 c18 c19 c20 c21 c22).getD default) := (rfl)
theorem TA71 : T71.sp.alias = false := (rfl)
def tb71 : Fns := lk [(101, T101.sp), (102, T102.sp), (103, T103.sp), (104, T104.sp), (105, T105.sp)]
theorem tb71_ok : FnsOk Tryz.prog tb71 := .cons f101 (.cons f102 (.cons f103 (.cons f104 (.cons f105 (FnsOk.nil)))))
theorem tb71_101 : tb71 101 = some T101.sp := rfl
theorem tb71_102 : tb71 102 = some T102.sp := rfl
theorem tb71_103 : tb71 103 = some T103.sp := rfl
theorem tb71_104 : tb71 104 = some T104.sp := rfl
theorem tb71_105 : tb71 105 = some T105.sp := rfl
attribute [go_sem] TP71 TR71 TA71
section
attribute [local go_sem] T71 tb71_101 tb71_102 tb71_103 tb71_104 tb71_105 Tryz.results71
theorem v71 : Valid Tryz.prog 71 T71.sp := by
 refine valid_t (fn := Tryz.f71) (n := 291) ty_ok tb71_ok Tryz.func71 rfl Tryz.ntmps71 ?_
 rintro ⟨x0, x5, x10, x8, x11, x12, x13, x14, x1, x2, x19, x18, x7, x6, x3, x4, x20, x21, x15, x9, x16, x17, a2⟩ hx
 obtain ⟨r, hr⟩ := oE (show (r71 x0 x5 x10 x8 x11 x12 x13 x14 x1 x2 x19 x18 x7 x6 x3 x4 x20 x21 x15 x9 x16 x17 a2).isSome = true from hx)
 have hres : T71.res (x0, x5, x10, x8, x11, x12, x13, x14, x1, x2, x19, x18, x7, x6, x3, x4, x20, x21, x15, x9, x16, x17, a2) = qu15 r := by simp only [T71, mkT, hr, oG]
 refine ⟨nL rfl, fun stop S => ?_⟩
 rw [hres] at S
 unfold r71 at hr
 refine S.gx [6, 9, 10, 12, 17, 20, 23, 24, 28, 29, 32] ?_
 obtain ⟨v1, hv1, hr⟩ := of_bind0 hr
 try simp only [hv1, oG, oI, true_and, and_assoc]
 repeat refine gA ?_
 refine ⟨?_, ?_⟩ <;> intro hc
 ·have hr := ifP hr hc
  obtain ⟨hg4, hr⟩ := of_guard0 hr
  repeat refine gA ?_
  refine S.prune [3, 4, 6, 7, 8, 9, 10] ?_
  refine S.gx [9, 10, 12, 17, 20, 23, 24, 28, 29, 32] ?_
  repeat refine gA ?_
  apply stop_join71 (stop := stop) (fun s1 => ⟨[(3, .c (.ref 3 0)), (6, .c (.ref 6 0)), (7, .c (.d (.int .i64 v1))), (11, .c (.ref 11 0))], [(3, [.d (encF 4 d_IIII x0), .d (encF 5 d_IIIII x5), .d (encF 3 d_III x10), .d (encF 2 d_II x8), .d (.int .i64 x11), .d (.int .i64 x12), .d (.int .i64 x13), .d (.int .i64 x14)]), (6, [.d (.int .i64 0), .d (.int .i64 0), .d (.int .i64 0), .d (.int .i64 0), .d (.int .i64 0), .d (.int .i64 0), .d (.int .i64 0), .d (.int .i64 0), .d (.int .i64 0), .d (.int .i64 0), .d (.int .i64 0), .d (.int .i64 0), .d (.int .i64 0), .d (.int .i64 0)]), (11, [.d (.int .i64 (if 0 < IntKind.i64.wrap ((if IntKind.i64.wrap ((IntKind.i64.wrap (x1 + x7)) + x3) < 1000000 then IntKind.i64.wrap ((IntKind.i64.wrap (x1 + x7)) + x3) else 1000000) - ((x0.getD v1.toNat default).2.2.1)) then IntKind.i64.wrap ((if IntKind.i64.wrap ((IntKind.i64.wrap (x1 + x7)) + x3) < 1000000 then IntKind.i64.wrap ((IntKind.i64.wrap (x1 + x7)) + x3) else 1000000) - ((x0.getD v1.toNat default).2.2.1)) else 0)), .d (.int .i64 (if 0 < IntKind.i64.wrap ((if IntKind.i64.wrap ((IntKind.i64.wrap (x2 + x6)) + x4) < 1000000 then IntKind.i64.wrap ((IntKind.i64.wrap (x2 + x6)) + x4) else 1000000) - ((x0.getD v1.toNat default).2.1)) then IntKind.i64.wrap ((if IntKind.i64.wrap ((IntKind.i64.wrap (x2 + x6)) + x4) < 1000000 then IntKind.i64.wrap ((IntKind.i64.wrap (x2 + x6)) + x4) else 1000000) - ((x0.getD v1.toNat default).2.1)) else 0)), .d (.int .i64 (IntKind.i64.wrap (1000000 - (if 0 < IntKind.i64.wrap ((if IntKind.i64.wrap ((IntKind.i64.wrap (x2 + x6)) + x4) < 1000000 then IntKind.i64.wrap ((IntKind.i64.wrap (x2 + x6)) + x4) else 1000000) - ((x0.getD v1.toNat default).2.1)) then IntKind.i64.wrap ((if IntKind.i64.wrap ((IntKind.i64.wrap (x2 + x6)) + x4) < 1000000 then IntKind.i64.wrap ((IntKind.i64.wrap (x2 + x6)) + x4) else 1000000) - ((x0.getD v1.toNat default).2.1)) else 0)))), .d (.int .i64 (IntKind.i64.wrap (1000000 - (if 0 < IntKind.i64.wrap ((if IntKind.i64.wrap ((IntKind.i64.wrap (x1 + x7)) + x3) < 1000000 then IntKind.i64.wrap ((IntKind.i64.wrap (x1 + x7)) + x3) else 1000000) - ((x0.getD v1.toNat default).2.2.1)) then IntKind.i64.wrap ((if IntKind.i64.wrap ((IntKind.i64.wrap (x1 + x7)) + x3) < 1000000 then IntKind.i64.wrap ((IntKind.i64.wrap (x1 + x7)) + x3) else 1000000) - ((x0.getD v1.toNat default).2.2.1)) else 0)))), .d (.int .i64 0), .d (.int .i64 0), .d (.int .i64 0), .d (.int .i64 0), .d (.int .i64 0), .d (.int .i64 0), .d (.int .i64 s1), .d (.int .i64 x9), .d (.int .i64 0), .d (.int .i64 0)])], []⟩) (fun s1 => j71_1 x0 x1 x2 x7 x6 x3 x4 x9 v1 s1 = some r)
  ·intro J1
   refine ⟨?_, ?_⟩ <;> intro hc
   ·have hr := ifP hr hc
    repeat refine gA ?_
    refine S.prune [3, 6, 7, 11] ?_
    refine S.gx [6, 10, 12, 17, 20, 23, 24, 28, 29, 32] ?_
    obtain ⟨hg3, hr⟩ := of_guard0 hr
    repeat refine gA ?_
    refine S.sees [3, 6, 7, 11] [(3, 3), (6, 6), (11, 11)] [] ?_ (J1 _ hr)
    exact lf
   ·have hr := ifN hr hc
    repeat refine gA ?_
    refine S.sees [3, 6, 7, 11] [(3, 3), (6, 6), (11, 11)] [] ?_ (J1 _ hr)
    exact lf
  ·intro s1 hr
   unfold j71_1 at hr
   refine S.gx [6, 9, 10, 12, 17, 20, 23, 24, 28, 29, 32] ?_
   repeat refine gA ?_
   refine S.gx [6, 9, 12, 17, 20, 23, 24, 28, 29, 32] ?_
   repeat refine gA ?_
   apply stop_join71 (stop := stop) (fun s2 => ⟨[(6, .c (.ref 6 0)), (11, .c (.ref 11 0))], [(6, [.d (.int .i64 0), .d (.int .i64 0), .d (.int .i64 0), .d (.int .i64 0), .d (.int .i64 0), .d (.int .i64 0), .d (.int .i64 0), .d (.int .i64 0), .d (.int .i64 0), .d (.int .i64 0), .d (.int .i64 0), .d (.int .i64 0), .d (.int .i64 0), .d (.int .i64 0)]), (11, [.d (.int .i64 (if 0 < IntKind.i64.wrap ((if IntKind.i64.wrap ((IntKind.i64.wrap (x1 + x7)) + x3) < 1000000 then IntKind.i64.wrap ((IntKind.i64.wrap (x1 + x7)) + x3) else 1000000) - ((x0.getD v1.toNat default).2.2.1)) then IntKind.i64.wrap ((if IntKind.i64.wrap ((IntKind.i64.wrap (x1 + x7)) + x3) < 1000000 then IntKind.i64.wrap ((IntKind.i64.wrap (x1 + x7)) + x3) else 1000000) - ((x0.getD v1.toNat default).2.2.1)) else 0)), .d (.int .i64 (if 0 < IntKind.i64.wrap ((if IntKind.i64.wrap ((IntKind.i64.wrap (x2 + x6)) + x4) < 1000000 then IntKind.i64.wrap ((IntKind.i64.wrap (x2 + x6)) + x4) else 1000000) - ((x0.getD v1.toNat default).2.1)) then IntKind.i64.wrap ((if IntKind.i64.wrap ((IntKind.i64.wrap (x2 + x6)) + x4) < 1000000 then IntKind.i64.wrap ((IntKind.i64.wrap (x2 + x6)) + x4) else 1000000) - ((x0.getD v1.toNat default).2.1)) else 0)), .d (.int .i64 (IntKind.i64.wrap (1000000 - (if 0 < IntKind.i64.wrap ((if IntKind.i64.wrap ((IntKind.i64.wrap (x2 + x6)) + x4) < 1000000 then IntKind.i64.wrap ((IntKind.i64.wrap (x2 + x6)) + x4) else 1000000) - ((x0.getD v1.toNat default).2.1)) then IntKind.i64.wrap ((if IntKind.i64.wrap ((IntKind.i64.wrap (x2 + x6)) + x4) < 1000000 then IntKind.i64.wrap ((IntKind.i64.wrap (x2 + x6)) + x4) else 1000000) - ((x0.getD v1.toNat default).2.1)) else 0)))), .d (.int .i64 (IntKind.i64.wrap (1000000 - (if 0 < IntKind.i64.wrap ((if IntKind.i64.wrap ((IntKind.i64.wrap (x1 + x7)) + x3) < 1000000 then IntKind.i64.wrap ((IntKind.i64.wrap (x1 + x7)) + x3) else 1000000) - ((x0.getD v1.toNat default).2.2.1)) then IntKind.i64.wrap ((if IntKind.i64.wrap ((IntKind.i64.wrap (x1 + x7)) + x3) < 1000000 then IntKind.i64.wrap ((IntKind.i64.wrap (x1 + x7)) + x3) else 1000000) - ((x0.getD v1.toNat default).2.2.1)) else 0)))), .d (.int .i64 0), .d (.int .i64 0), .d (.int .i64 0), .d (.int .i64 0), .d (.int .i64 0), .d (.int .i64 0), .d (.int .i64 s1), .d (.int .i64 s2), .d (.int .i64 0), .d (.int .i64 0)])], []⟩) (fun s2 => j71_2 x0 x1 x2 x7 x6 x3 x4 v1 s1 s2 = some r)
   ·intro J2
    refine ⟨?_, ?_⟩ <;> intro hc
    ·have hr := ifP hr hc
     obtain ⟨hg2, hr⟩ := of_guard0 hr
     repeat refine gA ?_
     refine S.sees [6, 11] [(6, 6), (11, 11)] [] ?_ (J2 _ hr)
     exact lf
    ·have hr := ifN hr hc
     repeat refine gA ?_
     refine S.sees [6, 11] [(6, 6), (11, 11)] [] ?_ (J2 _ hr)
     exact lf
   ·intro s2 hr
    unfold j71_2 at hr
    refine S.gx [6, 9, 10, 12, 17, 20, 23, 24, 28, 29, 32] ?_
    repeat refine gA ?_
    refine S.gx [6, 9, 10, 17, 20, 23, 24, 28, 29, 32] ?_
    repeat refine gA ?_
    cases hr
    exact lf
 ·have hr := ifN hr hc
  obtain ⟨v5, hv5, hr⟩ := of_bind0 hr
  try simp only [hv5, oG, oI, true_and, and_assoc]
  repeat refine gA ?_
  apply stop_join71 (stop := stop) (fun s3 => ⟨[(2, .c (.d (.int .i64 a2))), (3, .c (.ref 3 0)), (4, .c (.ref 4 0)), (6, .c (.ref 6 0))], [(3, [.d (encF 4 d_IIII x0), .d (encF 5 d_IIIII x5), .d (encF 3 d_III x10), .d (encF 2 d_II x8), .d (.int .i64 x11), .d (.int .i64 x12), .d (.int .i64 x13), .d (.int .i64 x14)]), (4, [.d (.int .i64 x1), .d (.int .i64 x2), .d (.int .i64 s3.1), .d (.int .i64 s3.2.1), .d (.int .i64 s3.2.2.1), .d (.int .i64 s3.2.2.2.1), .d (.int .i64 x3), .d (.int .i64 x4), .d (.int .i64 s3.2.2.2.2.1), .d (.int .i64 s3.2.2.2.2.2), .d (.int .i64 x15), .d (.int .i64 x9), .d (.int .i64 x16), .d (.int .i64 x17)]), (6, [.d (.int .i64 0), .d (.int .i64 0), .d (.int .i64 0), .d (.int .i64 0), .d (.int .i64 0), .d (.int .i64 0), .d (.int .i64 0), .d (.int .i64 0), .d (.int .i64 0), .d (.int .i64 0), .d (.int .i64 0), .d (.int .i64 0), .d (.int .i64 0), .d (.int .i64 0)])], []⟩) (fun s3 => j71_3 x0 x5 x10 x8 x11 x12 x13 x14 x1 x2 x3 x4 x15 x9 x16 x17 a2 s3 = some r)
  ·intro J3
   refine ⟨?_, ?_⟩ <;> intro hc
   ·have hr := ifP hr hc
    obtain ⟨hg15, hr⟩ := of_guard0 hr
    obtain ⟨hg16, hr⟩ := of_guard0 hr
    repeat refine gA ?_
    refine S.prune [2, 3, 4, 6, 14] ?_
    refine S.gx [6, 9, 10, 12, 20, 23, 24, 28, 29, 32] ?_
    repeat refine gA ?_
    apply stop_join71 (stop := stop) (fun s5 => ⟨[(2, .c (.d (.int .i64 a2))), (3, .c (.ref 3 0)), (4, .c (.ref 4 0)), (6, .c (.ref 6 0)), (14, .c (.ref 14 0)), (15, .c (.ref 15 0))], [(3, [.d (encF 4 d_IIII x0), .d (encF 5 d_IIIII x5), .d (encF 3 d_III x10), .d (encF 2 d_II x8), .d (.int .i64 x11), .d (.int .i64 x12), .d (.int .i64 x13), .d (.int .i64 x14)]), (4, [.d (.int .i64 x1), .d (.int .i64 x2), .d (.int .i64 x19), .d (.int .i64 x18), .d (.int .i64 x7), .d (.int .i64 x6), .d (.int .i64 x3), .d (.int .i64 x4), .d (.int .i64 (if IntKind.i64.wrap (x20 + ((x5.getD v5.toNat default).2.1)) < 1000000 then IntKind.i64.wrap (x20 + ((x5.getD v5.toNat default).2.1)) else 1000000)), .d (.int .i64 (if IntKind.i64.wrap (x21 + ((x5.getD v5.toNat default).2.2.1)) < 1000000 then IntKind.i64.wrap (x21 + ((x5.getD v5.toNat default).2.2.1)) else 1000000)), .d (.int .i64 x15), .d (.int .i64 x9), .d (.int .i64 x16), .d (.int .i64 x17)]), (6, [.d (.int .i64 0), .d (.int .i64 0), .d (.int .i64 0), .d (.int .i64 0), .d (.int .i64 0), .d (.int .i64 0), .d (.int .i64 0), .d (.int .i64 0), .d (.int .i64 0), .d (.int .i64 0), .d (.int .i64 0), .d (.int .i64 0), .d (.int .i64 0), .d (.int .i64 0)]), (14, [.d (.int .i64 ((x5.getD v5.toNat default).2.2.2.1)), .d (.int .i64 ((x5.getD v5.toNat default).2.2.2.2))]), (15, [.d (.int .i64 s5), .d (.int .i64 0)])], []⟩) (fun s5 => j71_5 x0 x5 x10 x8 x11 x12 x13 x14 x1 x2 x19 x18 x7 x6 x3 x4 x20 x21 x15 x9 x16 x17 a2 v5 s5 = some r)
    ·intro J5
     refine ⟨?_, ?_⟩ <;> intro hc
     ·have hr := ifP hr hc
      repeat refine gA ?_
      refine S.sees [2, 3, 4, 6, 14, 15] [(3, 3), (4, 4), (6, 6), (14, 14), (15, 15)] [] ?_ (J5 _ hr)
      exact lf
     ·have hr := ifN hr hc
      repeat refine gA ?_
      refine S.sees [2, 3, 4, 6, 14, 15] [(3, 3), (4, 4), (6, 6), (14, 14), (15, 15)] [] ?_ (J5 _ hr)
      exact lf
    ·intro s5 hr
     unfold j71_5 at hr
     refine S.gx [6, 9, 10, 12, 17, 20, 23, 24, 28, 29, 32] ?_
     repeat refine gA ?_
     refine S.gx [6, 9, 10, 12, 17, 23, 24, 28, 29, 32] ?_
     repeat refine gA ?_
     refine ⟨?_, ?_⟩ <;> intro hc
     ·have hr := ifP hr hc
      repeat refine gA ?_
      refine S.prune [2, 3, 4, 6, 15] ?_
      refine S.gx [6, 9, 10, 12, 17, 20, 24, 28, 29, 32] ?_
      repeat refine gA ?_
      refine S.sees [2, 3, 4, 6] [(3, 3), (4, 4), (6, 6)] [] ?_ (J3 _ hr)
      exact lf
     ·have hr := ifN hr hc
      repeat refine gA ?_
      refine S.prune [2, 3, 4, 6, 15] ?_
      refine S.gx [6, 9, 10, 12, 17, 20, 24, 28, 29, 32] ?_
      repeat refine gA ?_
      refine S.sees [2, 3, 4, 6] [(3, 3), (4, 4), (6, 6)] [] ?_ (J3 _ hr)
      exact lf
   ·have hr := ifN hr hc
    repeat refine gA ?_
    refine S.sees [2, 3, 4, 6] [(3, 3), (4, 4), (6, 6)] [] ?_ (J3 _ hr)
    exact lf
  ·intro s3 hr
   unfold j71_3 at hr
   refine S.gx [6, 9, 10, 12, 17, 20, 23, 24, 28, 29, 32] ?_
   repeat refine gA ?_
   refine S.gx [6, 9, 10, 12, 17, 20, 23, 28, 29, 32] ?_
   obtain ⟨v6, hv6, hr⟩ := of_bind0 hr
   try simp only [hv6, oG, oI, true_and, and_assoc]
   repeat refine gA ?_
   apply stop_join71 (stop := stop) (fun s4 => ⟨[(2, .c (.d (.int .i64 a2))), (3, .c (.ref 3 0)), (4, .c (.ref 4 0)), (6, .c (.ref 6 0))], [(3, [.d (encF 4 d_IIII x0), .d (encF 5 d_IIIII x5), .d (encF 3 d_III x10), .d (encF 2 d_II x8), .d (.int .i64 x11), .d (.int .i64 x12), .d (.int .i64 x13), .d (.int .i64 x14)]), (4, [.d (.int .i64 x1), .d (.int .i64 x2), .d (.int .i64 s4.1), .d (.int .i64 s4.2.1), .d (.int .i64 s3.2.2.1), .d (.int .i64 s3.2.2.2.1), .d (.int .i64 s4.2.2.1), .d (.int .i64 s4.2.2.2), .d (.int .i64 s3.2.2.2.2.1), .d (.int .i64 s3.2.2.2.2.2), .d (.int .i64 x15), .d (.int .i64 x9), .d (.int .i64 x16), .d (.int .i64 x17)]), (6, [.d (.int .i64 0), .d (.int .i64 0), .d (.int .i64 0), .d (.int .i64 0), .d (.int .i64 0), .d (.int .i64 0), .d (.int .i64 0), .d (.int .i64 0), .d (.int .i64 0), .d (.int .i64 0), .d (.int .i64 0), .d (.int .i64 0), .d (.int .i64 0), .d (.int .i64 0)])], []⟩) (fun s4 => j71_4 x0 x5 x10 x8 x11 x12 x13 x14 x1 x2 x15 x9 x16 x17 a2 s3 s4 = some r)
   ·intro J4
    refine ⟨?_, ?_⟩ <;> intro hc
    ·have hr := ifP hr hc
     obtain ⟨hg14, hr⟩ := of_guard0 hr
     obtain ⟨v10, hv10, hr⟩ := of_bind0 hr
     obtain ⟨v11, hv11, hr⟩ := of_bind0 hr
     try simp only [hv10, hv11, Option.getD_some, Option.isSome_some, true_and, and_assoc]
     repeat refine gA ?_
     refine S.prune [2, 3, 4, 6, 17, 18, 19] ?_
     refine S.gx [6, 9, 10, 12, 17, 20, 23, 24, 29, 32] ?_
     obtain ⟨v12, hv12, hr⟩ := of_bind0 hr
     obtain ⟨v13, hv13, hr⟩ := of_bind0 hr
     try simp only [hv12, hv13, Option.getD_some, Option.isSome_some, true_and, and_assoc]
     repeat refine gA ?_
     refine S.sees [2, 3, 4, 6] [(3, 3), (4, 4), (6, 6)] [] ?_ (J4 _ hr)
     exact lf
    ·have hr := ifN hr hc
     repeat refine gA ?_
     refine S.sees [2, 3, 4, 6] [(3, 3), (4, 4), (6, 6)] [] ?_ (J4 _ hr)
     exact lf
   ·intro s4 hr
    unfold j71_4 at hr
    refine S.gx [6, 9, 10, 12, 17, 20, 23, 24, 28, 29, 32] ?_
    repeat refine gA ?_
    refine S.gx [6, 9, 10, 12, 17, 20, 23, 24, 28, 32] ?_
    obtain ⟨v7, hv7, hr⟩ := of_bind0 hr
    try simp only [hv7, oG, oI, true_and, and_assoc]
    repeat refine gA ?_
    refine ⟨?_, ?_⟩ <;> intro hc
    ·have hr := ifP hr hc
     obtain ⟨hg8, hr⟩ := of_guard0 hr
     obtain ⟨hg9, hr⟩ := of_guard0 hr
     repeat refine gA ?_
     refine S.prune [4, 6] ?_
     refine S.gx [6, 9, 10, 12, 17, 20, 23, 24, 28, 29] ?_
     repeat refine gA ?_
     cases hr
     exact lf
    ·have hr := ifN hr hc
     repeat refine gA ?_
     refine S.prune [4, 6] ?_
     refine S.gx [6, 9, 10, 12, 17, 20, 23, 24, 28, 29] ?_
     repeat refine gA ?_
     cases hr
     exact lf
theorem f71 : FnFact Tryz.prog 71 T71.sp := ⟨⟨Tryz.f71, Tryz.func71, by decide, rfl⟩, v71⟩
end

/- martensite/martensiteref04.hull -/
def r72 (x0 : Int) (x1 : Int) (x2 : Int) (x3 : Int) : Option (Int × Int) :=
  some ((if x2 < x0 then x2 else x0), (if x1 < x3 then x3 else x1))
def T72 : TSpec qA41 := mkT qE41 qd41 (fun ⟨x0, x1, x2, x3⟩ => r72 x0 x1 x2 x3) qu13 false
theorem TP72 (c0 c1 c2 c3 : D) : T72.sp.pre [.agg [c0, c1], .agg [c2, c3]] = (eqvArgs (qt41 c0 c1 c2 c3) (qp41 qw41 c0 c1 c2 c3) ∧ (qp41 r72 c0 c1 c2 c3).isSome = true) := (rfl)
theorem TR72 (c0 c1 c2 c3 : D) : T72.sp.res [.agg [c0, c1], .agg [c2, c3]] = qu13 ((qp41 r72 c0 c1 c2 c3).getD default) := (rfl)
theorem TA72 : T72.sp.alias = false := (rfl)
def tb72 : Fns := lk []
theorem tb72_ok : FnsOk Tryz.prog tb72 := FnsOk.nil
attribute [go_sem] TP72 TR72 TA72
section
attribute [local go_sem] T72 Tryz.results72
theorem v72 : Valid Tryz.prog 72 T72.sp := by
 refine valid_t (fn := Tryz.f72) (n := 16) ty_ok tb72_ok Tryz.func72 rfl Tryz.ntmps72 ?_
 rintro ⟨x0, x1, x2, x3⟩ hx
 obtain ⟨r, hr⟩ := oE (show (r72 x0 x1 x2 x3).isSome = true from hx)
 have hres : T72.res (x0, x1, x2, x3) = qu13 r := by simp only [T72, mkT, hr, oG]
 refine ⟨nL rfl, fun stop S => ?_⟩
 rw [hres] at S
 unfold r72 at hr
 refine S.gx [] ?_
 repeat refine gA ?_
 cases hr
 exact lf
theorem f72 : FnFact Tryz.prog 72 T72.sp := ⟨⟨Tryz.f72, Tryz.func72, by decide, rfl⟩, v72⟩
end

/- martensite/martensiteref04.BoxStep -/
def b36_1 (x0 : List (Int × Int × Int × Int)) (x1 : List (Int × Int × Int × Int × Int)) (x2 : List (Int × Int × Int)) (x3 : List (Int × Int)) (x4 : Int) (x5 : Int) (x6 : Int) (x7 : Int) (x8 : Int) (x9 : Int) (x10 : Int) (x11 : Int) (x12 : Int) (x13 : Int) (x14 : Int) (x15 : Int) (x16 : Int) (x17 : Int) (x18 : Int) (x19 : Int) (x20 : Int) (x21 : Int) (x22 : Int) : (Int × Int × Int × Int × Int × Int × Int × Int × Int × Int × Int × Int × Int × Int × Int) → Ctl (Int × Int × Int × Int × Int × Int × Int × Int × Int × Int × Int × Int × Int × Int × Int) (Int × Int × Int × Int × Int × Int × Int × Int × Int × Int × Int × Int × Int × Int) := fun s1 =>
  if (decide (s1.1 ≤ x22)) = true then
   bindC (r71 x0 x1 x2 x3 x4 x5 x6 x7 x8 x9 x10 x11 x12 x13 x14 x15 x16 x17 x18 x19 x20 x21 s1.1) fun v2 =>
    bindC (r72 s1.2.1 s1.2.2.1 v2.1 v2.2.1) fun v3 =>
     bindC (r72 s1.2.2.2.1 s1.2.2.2.2.1 v2.2.2.1 v2.2.2.2.1) fun v4 =>
      bindC (r72 s1.2.2.2.2.2.1 s1.2.2.2.2.2.2.1 v2.2.2.2.2.1 v2.2.2.2.2.2.1) fun v5 =>
       bindC (r72 s1.2.2.2.2.2.2.2.1 s1.2.2.2.2.2.2.2.2.1 v2.2.2.2.2.2.2.1 v2.2.2.2.2.2.2.2.1) fun v6 =>
        bindC (r72 s1.2.2.2.2.2.2.2.2.2.1 s1.2.2.2.2.2.2.2.2.2.2.1 v2.2.2.2.2.2.2.2.2.1 v2.2.2.2.2.2.2.2.2.2.1) fun v7 =>
         bindC (r72 s1.2.2.2.2.2.2.2.2.2.2.2.1 s1.2.2.2.2.2.2.2.2.2.2.2.2.1 v2.2.2.2.2.2.2.2.2.2.2.1 v2.2.2.2.2.2.2.2.2.2.2.2.1) fun v8 =>
          bindC (r72 s1.2.2.2.2.2.2.2.2.2.2.2.2.2.1 s1.2.2.2.2.2.2.2.2.2.2.2.2.2.2 v2.2.2.2.2.2.2.2.2.2.2.2.2.1 v2.2.2.2.2.2.2.2.2.2.2.2.2.2) fun v9 =>
           .next (IntKind.i64.wrap (s1.1 + 1), v3.1, v3.2, v4.1, v4.2, v5.1, v5.2, v6.1, v6.2, v7.1, v7.2, v8.1, v8.2, v9.1, v9.2)
   else .out (some (s1.2.1, s1.2.2.1, s1.2.2.2.1, s1.2.2.2.2.1, s1.2.2.2.2.2.1, s1.2.2.2.2.2.2.1, s1.2.2.2.2.2.2.2.1, s1.2.2.2.2.2.2.2.2.1, s1.2.2.2.2.2.2.2.2.2.1, s1.2.2.2.2.2.2.2.2.2.2.1, s1.2.2.2.2.2.2.2.2.2.2.2.1, s1.2.2.2.2.2.2.2.2.2.2.2.2.1, s1.2.2.2.2.2.2.2.2.2.2.2.2.2.1, s1.2.2.2.2.2.2.2.2.2.2.2.2.2.2))
def r36 (x0 : List (Int × Int × Int × Int)) (x1 : List (Int × Int × Int × Int × Int)) (x2 : List (Int × Int × Int)) (x3 : List (Int × Int)) (x4 : Int) (x5 : Int) (x6 : Int) (x7 : Int) (x8 : Int) (x9 : Int) (x10 : Int) (x11 : Int) (x12 : Int) (x13 : Int) (x14 : Int) (x15 : Int) (x16 : Int) (x17 : Int) (x18 : Int) (x19 : Int) (x20 : Int) (x21 : Int) (x23 : Int) (x22 : Int) : Option (Int × Int × Int × Int × Int × Int × Int × Int × Int × Int × Int × Int × Int × Int) :=
  (r71 x0 x1 x2 x3 x4 x5 x6 x7 x8 x9 x10 x11 x12 x13 x14 x15 x16 x17 x18 x19 x20 x21 x23).bind fun v1 =>
   iterC (b36_1 x0 x1 x2 x3 x4 x5 x6 x7 x8 x9 x10 x11 x12 x13 x14 x15 x16 x17 x18 x19 x20 x21 x22) 1000000000 (IntKind.i64.wrap (x23 + 1), v1.1, v1.2.1, v1.2.2.1, v1.2.2.2.1, v1.2.2.2.2.1, v1.2.2.2.2.2.1, v1.2.2.2.2.2.2.1, v1.2.2.2.2.2.2.2.1, v1.2.2.2.2.2.2.2.2.1, v1.2.2.2.2.2.2.2.2.2.1, v1.2.2.2.2.2.2.2.2.2.2.1, v1.2.2.2.2.2.2.2.2.2.2.2.1, v1.2.2.2.2.2.2.2.2.2.2.2.2.1, v1.2.2.2.2.2.2.2.2.2.2.2.2.2)
def T36 : TSpec qA36 := mkT qE36 qd36 (fun ⟨x0, x1, x2, x3, x4, x5, x6, x7, x8, x9, x10, x11, x12, x13, x14, x15, x16, x17, x18, x19, x20, x21, x23, x22⟩ => r36 x0 x1 x2 x3 x4 x5 x6 x7 x8 x9 x10 x11 x12 x13 x14 x15 x16 x17 x18 x19 x20 x21 x23 x22) qu15 false
theorem TP36 (c0 c1 c2 c3 c4 c5 c6 c7 c8 c9 c10 c11 c12 c13 c14 c15 c16 c17 c18 c19 c20 c21 c22 c23 : D) : T36.sp.pre [.agg [c0, c1, c2, c3, c4, c5, c6, c7], .agg [c8, c9, c10, c11, c12, c13, c14, c15, c16, c17, c18, c19, c20, c21], .agg [c22, c23]] = (eqvArgs (qt36 c0 c1 c2 c3 c4 c5 c6 c7 c8 c9 c10 c11 c12 c13 c14 c15 c16 c17 c18 c19 c20 c21 c22 c23) (qp36 qw36 c0 c1 c2 c3 c4 c5 c6 c7 c8 c9 c10 c11 c12 c13 c14 c15 c16 c17 c18 c19 c20 c21 c22 c23) ∧ (qp36 r36 c0 c1 c2 c3 c4 c5 c6 c7 c8 c9 c10 c11 c12 c13 c14 c15 c16 c17 c18 c19 c20 c21 c22 c23).isSome = true) := (rfl)
theorem TR36 (c0 c1 c2 c3 c4 c5 c6 c7 c8 c9 c10 c11 c12 c13 c14 c15 c16 c17 c18 c19 c20 c21 c22 c23 : D) : T36.sp.res [.agg [c0, c1, c2, c3, c4, c5, c6, c7], .agg [c8, c9, c10, c11, c12, c13, c14, c15, c16, c17, c18, c19, c20, c21], .agg [c22, c23]] = qu15 ((qp36 r36 c0 c1 c2 c3 c4 c5 c6 c7 c8 c9 c10 c11 c12 c13 c14 c15 c16 c17 c18 c19 c20 c21 c22 c23).getD default) := (rfl)
theorem TA36 : T36.sp.alias = false := (rfl)
def tb36 : Fns := lk [(71, T71.sp), (72, T72.sp)]
theorem tb36_ok : FnsOk Tryz.prog tb36 := .cons f71 (.cons f72 (FnsOk.nil))
theorem tb36_71 : tb36 71 = some T71.sp := rfl
theorem tb36_72 : tb36 72 = some T72.sp := rfl
attribute [go_sem] TP36 TR36 TA36
section
attribute [local go_sem] T36 tb36_71 tb36_72 Tryz.results36
theorem v36 : Valid Tryz.prog 36 T36.sp := by
 refine valid_t (fn := Tryz.f36) (n := 65) ty_ok tb36_ok Tryz.func36 rfl Tryz.ntmps36 ?_
 rintro ⟨x0, x1, x2, x3, x4, x5, x6, x7, x8, x9, x10, x11, x12, x13, x14, x15, x16, x17, x18, x19, x20, x21, x23, x22⟩ hx
 obtain ⟨r, hr⟩ := oE (show (r36 x0 x1 x2 x3 x4 x5 x6 x7 x8 x9 x10 x11 x12 x13 x14 x15 x16 x17 x18 x19 x20 x21 x23 x22).isSome = true from hx)
 have hres : T36.res (x0, x1, x2, x3, x4, x5, x6, x7, x8, x9, x10, x11, x12, x13, x14, x15, x16, x17, x18, x19, x20, x21, x23, x22) = qu15 r := by simp only [T36, mkT, hr, oG]
 refine ⟨nL rfl, fun stop S => ?_⟩
 rw [hres] at S
 unfold r36 at hr
 refine S.gx [4] ?_
 obtain ⟨v1, hv1, hr⟩ := of_bind0 hr
 try simp only [hv1, oG, oI, true_and, and_assoc]
 repeat refine gA ?_
 refine S.sees [3, 4, 5, 6, 7, 8] [(3, 3), (4, 4), (5, 5), (6, 6), (7, 7)] [] ?_ (Stop.iter S (fun s1 => ⟨[(3, .c (.ref 3 0)), (4, .c (.ref 4 0)), (5, .c (.ref 5 0)), (6, .c (.ref 6 0)), (7, .c (.ref 7 0)), (8, .c (.d (.int .i64 s1.1)))], [(3, [.d (encF 4 d_IIII x0), .d (encF 5 d_IIIII x1), .d (encF 3 d_III x2), .d (encF 2 d_II x3), .d (.int .i64 x4), .d (.int .i64 x5), .d (.int .i64 x6), .d (.int .i64 x7)]), (4, [.d (.int .i64 x8), .d (.int .i64 x9), .d (.int .i64 x10), .d (.int .i64 x11), .d (.int .i64 x12), .d (.int .i64 x13), .d (.int .i64 x14), .d (.int .i64 x15), .d (.int .i64 x16), .d (.int .i64 x17), .d (.int .i64 x18), .d (.int .i64 x19), .d (.int .i64 x20), .d (.int .i64 x21)]), (5, [.d (.int .i64 x23), .d (.int .i64 x22)]), (6, [.d (.int .i64 0), .d (.int .i64 0), .d (.int .i64 0), .d (.int .i64 0), .d (.int .i64 0), .d (.int .i64 0), .d (.int .i64 0), .d (.int .i64 0), .d (.int .i64 0), .d (.int .i64 0), .d (.int .i64 0), .d (.int .i64 0), .d (.int .i64 0), .d (.int .i64 0)]), (7, [.d (.int .i64 s1.2.1), .d (.int .i64 s1.2.2.1), .d (.int .i64 s1.2.2.2.1), .d (.int .i64 s1.2.2.2.2.1), .d (.int .i64 s1.2.2.2.2.2.1), .d (.int .i64 s1.2.2.2.2.2.2.1), .d (.int .i64 s1.2.2.2.2.2.2.2.1), .d (.int .i64 s1.2.2.2.2.2.2.2.2.1), .d (.int .i64 s1.2.2.2.2.2.2.2.2.2.1), .d (.int .i64 s1.2.2.2.2.2.2.2.2.2.2.1), .d (.int .i64 s1.2.2.2.2.2.2.2.2.2.2.2.1), .d (.int .i64 s1.2.2.2.2.2.2.2.2.2.2.2.2.1), .d (.int .i64 s1.2.2.2.2.2.2.2.2.2.2.2.2.2.1), .d (.int .i64 s1.2.2.2.2.2.2.2.2.2.2.2.2.2.2)])], []⟩) (b36_1 x0 x1 x2 x3 x4 x5 x6 x7 x8 x9 x10 x11 x12 x13 x14 x15 x16 x17 x18 x19 x20 x21 x22) (fun q => q = r) hr rfl ?_)
 ·exact lf
 ·intro s1 hr
  unfold b36_1 at hr
  refine S.gx [4] ?_
  repeat refine gA ?_
  refine ⟨?_, ?_⟩ <;> intro hc
  ·have hr := ifP1 hr hc
   obtain ⟨v2, hv2, hr⟩ := of_bind1 hr
   obtain ⟨v3, hv3, hr⟩ := of_bind1 hr
   obtain ⟨v4, hv4, hr⟩ := of_bind1 hr
   obtain ⟨v5, hv5, hr⟩ := of_bind1 hr
   obtain ⟨v6, hv6, hr⟩ := of_bind1 hr
   obtain ⟨v7, hv7, hr⟩ := of_bind1 hr
   obtain ⟨v8, hv8, hr⟩ := of_bind1 hr
   obtain ⟨v9, hv9, hr⟩ := of_bind1 hr
   try simp only [hv2, hv3, hv4, hv5, hv6, hv7, hv8, hv9, Option.getD_some, Option.isSome_some, true_and, and_assoc]
   repeat refine gA ?_
   refine S.prune [3, 4, 5, 6, 7, 8] ?_
   refine S.gx [] ?_
   repeat refine gA ?_
   refine S.sees [3, 4, 5, 6, 7, 8] [(3, 3), (4, 4), (5, 5), (6, 6), (7, 7)] [] ?_ hr
   exact lf
  ·have hr := ifN1 hr hc
   repeat refine gA ?_
   have hr := of_out0 hr
   repeat refine gA ?_
   cases hr
   exact lf
theorem f36 : FnFact Tryz.prog 36 T36.sp := ⟨⟨Tryz.f36, Tryz.func36, by decide, rfl⟩, v36⟩
end

/- martensite/martensiteref04.RangesErr -/
def b37_1 (a0 : List (Int × Int)) : (Int) → Ctl (Int) (Int) := fun s1 =>
  if (decide (s1 < (a0.length : Int))) = true then
   if 0 ≤ s1 ∧ s1 < (a0.length : Int) then
    bindC (r35 ((a0.getD s1.toNat default).1) ((a0.getD s1.toNat default).2)) fun v1 =>
     if (v1 != 0) = true then
      .out (some v1)
      else .next (IntKind.i64.wrap (s1 + 1))
    else .out none
   else .out (some 0)
def r37 (a0 : List (Int × Int)) : Option (Int) :=
  if (decide ((a0.length : Int) > 200)) = true then
   some 8
   else iterC (b37_1 a0) 1000000000 0
def T37 : TSpec qA37 := mkT qE37 qd37 r37 qu4 false
theorem TP37 (c0 : D) : T37.sp.pre [.c c0] = (eqvArgs (qt37 c0) (qp37 qw37 c0) ∧ (qp37 r37 c0).isSome = true) := (rfl)
theorem TR37 (c0 : D) : T37.sp.res [.c c0] = qu4 ((qp37 r37 c0).getD default) := (rfl)
theorem TA37 : T37.sp.alias = false := (rfl)
def tb37 : Fns := lk [(35, T35.sp)]
theorem tb37_ok : FnsOk Tryz.prog tb37 := .cons f35 (FnsOk.nil)
theorem tb37_35 : tb37 35 = some T35.sp := rfl
attribute [go_sem] TP37 TR37 TA37
section
attribute [local go_sem] T37 tb37_35 Tryz.results37
theorem v37 : Valid Tryz.prog 37 T37.sp := by
 refine valid_t (fn := Tryz.f37) (n := 22) ty_ok tb37_ok Tryz.func37 rfl Tryz.ntmps37 ?_
 rintro a0 hx
 obtain ⟨r, hr⟩ := oE (show (r37 a0).isSome = true from hx)
 have hres : T37.res a0 = qu4 r := by simp only [T37, mkT, hr, oG]
 refine ⟨nL rfl, fun stop S => ?_⟩
 rw [hres] at S
 unfold r37 at hr
 refine S.gx [] ?_
 repeat refine gA ?_
 refine ⟨?_, ?_⟩ <;> intro hc
 ·have hr := ifP hr hc
  repeat refine gA ?_
  cases hr
  exact lf
 ·have hr := ifN hr hc
  repeat refine gA ?_
  refine S.sees [0, 3] [] [] ?_ (Stop.iter S (fun s1 => ⟨[(0, .c (.d (encF 2 d_II a0))), (3, .c (.d (.int .i64 s1)))], [], []⟩) (b37_1 a0) (fun q => q = r) hr rfl ?_)
  ·exact lf
  ·intro s1 hr
   unfold b37_1 at hr
   refine S.gx [] ?_
   repeat refine gA ?_
   refine ⟨?_, ?_⟩ <;> intro hc
   ·have hr := ifP1 hr hc
    obtain ⟨hg2, hr⟩ := of_guard1 hr
    obtain ⟨v1, hv1, hr⟩ := of_bind1 hr
    try simp only [hv1, oG, oI, true_and, and_assoc]
    repeat refine gA ?_
    refine ⟨?_, ?_⟩ <;> intro hc
    ·have hr := ifP1 hr hc
     repeat refine gA ?_
     have hr := of_out0 hr
     cases hr
     exact lf
    ·have hr := ifN1 hr hc
     repeat refine gA ?_
     refine S.sees [0, 3] [] [] ?_ hr
     exact lf
   ·have hr := ifN1 hr hc
    repeat refine gA ?_
    have hr := of_out0 hr
    repeat refine gA ?_
    cases hr
    exact lf
theorem f37 : FnFact Tryz.prog 37 T37.sp := ⟨⟨Tryz.f37, Tryz.func37, by decide, rfl⟩, v37⟩
end

/- martensite/martensiteref04.BoxRun -/
def b38_1 (x0 : List (Int × Int × Int × Int)) (x1 : List (Int × Int × Int × Int × Int)) (x2 : List (Int × Int × Int)) (x3 : List (Int × Int)) (x4 : Int) (x5 : Int) (x6 : Int) (x7 : Int) (a2 : List (Int × Int)) : (Int × Int × Int × Int × Int × Int × Int × Int × Int × Int × Int × Int × Int × Int × Int) → Ctl (Int × Int × Int × Int × Int × Int × Int × Int × Int × Int × Int × Int × Int × Int × Int) (Int × Int × Int × Int × Int × Int × Int × Int × Int × Int × Int × Int × Int × Int) := fun s1 =>
  if (decide (s1.1 < (a2.length : Int))) = true then
   if 0 ≤ s1.1 ∧ s1.1 < (a2.length : Int) then
    bindC (r36 x0 x1 x2 x3 x4 x5 x6 x7 s1.2.1 s1.2.2.1 s1.2.2.2.1 s1.2.2.2.2.1 s1.2.2.2.2.2.1 s1.2.2.2.2.2.2.1 s1.2.2.2.2.2.2.2.1 s1.2.2.2.2.2.2.2.2.1 s1.2.2.2.2.2.2.2.2.2.1 s1.2.2.2.2.2.2.2.2.2.2.1 s1.2.2.2.2.2.2.2.2.2.2.2.1 s1.2.2.2.2.2.2.2.2.2.2.2.2.1 s1.2.2.2.2.2.2.2.2.2.2.2.2.2.1 s1.2.2.2.2.2.2.2.2.2.2.2.2.2.2 ((a2.getD s1.1.toNat default).1) ((a2.getD s1.1.toNat default).2)) fun v1 =>
     .next (IntKind.i64.wrap (s1.1 + 1), v1.1, v1.2.1, v1.2.2.1, v1.2.2.2.1, v1.2.2.2.2.1, v1.2.2.2.2.2.1, v1.2.2.2.2.2.2.1, v1.2.2.2.2.2.2.2.1, v1.2.2.2.2.2.2.2.2.1, v1.2.2.2.2.2.2.2.2.2.1, v1.2.2.2.2.2.2.2.2.2.2.1, v1.2.2.2.2.2.2.2.2.2.2.2.1, v1.2.2.2.2.2.2.2.2.2.2.2.2.1, v1.2.2.2.2.2.2.2.2.2.2.2.2.2)
    else .out none
   else .out (some (s1.2.1, s1.2.2.1, s1.2.2.2.1, s1.2.2.2.2.1, s1.2.2.2.2.2.1, s1.2.2.2.2.2.2.1, s1.2.2.2.2.2.2.2.1, s1.2.2.2.2.2.2.2.2.1, s1.2.2.2.2.2.2.2.2.2.1, s1.2.2.2.2.2.2.2.2.2.2.1, s1.2.2.2.2.2.2.2.2.2.2.2.1, s1.2.2.2.2.2.2.2.2.2.2.2.2.1, s1.2.2.2.2.2.2.2.2.2.2.2.2.2.1, s1.2.2.2.2.2.2.2.2.2.2.2.2.2.2))
def r38 (x0 : List (Int × Int × Int × Int)) (x1 : List (Int × Int × Int × Int × Int)) (x2 : List (Int × Int × Int)) (x3 : List (Int × Int)) (x4 : Int) (x5 : Int) (x6 : Int) (x7 : Int) (x8 : Int) (x9 : Int) (x10 : Int) (x11 : Int) (x12 : Int) (x13 : Int) (x14 : Int) (x15 : Int) (x16 : Int) (x17 : Int) (x18 : Int) (x19 : Int) (x20 : Int) (x21 : Int) (a2 : List (Int × Int)) : Option (Int × Int × Int × Int × Int × Int × Int × Int × Int × Int × Int × Int × Int × Int) :=
  iterC (b38_1 x0 x1 x2 x3 x4 x5 x6 x7 a2) 1000000000 (0, x8, x9, x10, x11, x12, x13, x14, x15, x16, x17, x18, x19, x20, x21)
def T38 : TSpec qA38 := mkT qE38 qd38 (fun ⟨x0, x1, x2, x3, x4, x5, x6, x7, x8, x9, x10, x11, x12, x13, x14, x15, x16, x17, x18, x19, x20, x21, a2⟩ => r38 x0 x1 x2 x3 x4 x5 x6 x7 x8 x9 x10 x11 x12 x13 x14 x15 x16 x17 x18 x19 x20 x21 a2) qu15 false
theorem TP38 (c0 c1 c2 c3 c4 c5 c6 c7 c8 c9 c10 c11 c12 c13 c14 c15 c16 c17 c18 c19 c20 c21 c22 : D) : T38.sp.pre [.agg [c0, c1, c2, c3, c4, c5, c6, c7], .agg [c8, c9, c10, c11, c12, c13, c14, c15, c16, c17, c18, c19, c20, c21], .c c22] = (eqvArgs (qt38 c0 c1 c2 c3 c4 c5 c6 c7 c8 c9 c10 c11 c12 c13 c14 c15 c16 c17 c18 c19 c20 c21 c22) (qp38 qw38 c0 c1 c2 c3 c4 c5 c6 c7 c8 c9 c10 c11 c12 c13 c14 c15 c16 c17 c18 c19 c20 c21 c22) ∧ (qp38 r38 c0 c1 c2 c3 c4 c5 c6 c7 c8 c9 c10 c11 c12 c13 c14 c15 c16 c17 c18 c19 c20 c21 c22).isSome = true) := (rfl)
theorem TR38 (c0 c1 c2 c3 c4 c5 c6 c7 c8 c9 c10 c11 c12 c13 c14 c15 c16 c17 c18 c19 c20 c21 c22 : D) : T38.sp.res [.agg [c0, c1, c2, c3, c4, c5, c6, c7], .agg [c8, c9, c10, c11, c12, c13, c14, c15, c16, c17, c18, c19, c20, c21], .c c22] = qu15 ((qp38 r38 c0 c1 c2 c3 c4 c5 c6 c7 c8 c9 c10 c11 c12 c13 c14 c15 c16 c17 c18 c19 c20 c21 c22).getD default) := (rfl)
theorem TA38 : T38.sp.alias = false := (rfl)
def tb38 : Fns := lk [(36, T36.sp)]
theorem tb38_ok : FnsOk Tryz.prog tb38 := .cons f36 (FnsOk.nil)
theorem tb38_36 : tb38 36 = some T36.sp := rfl
attribute [go_sem] TP38 TR38 TA38
section
attribute [local go_sem] T38 tb38_36 Tryz.results38
theorem v38 : Valid Tryz.prog 38 T38.sp := by
 refine valid_t (fn := Tryz.f38) (n := 22) ty_ok tb38_ok Tryz.func38 rfl Tryz.ntmps38 ?_
 rintro ⟨x0, x1, x2, x3, x4, x5, x6, x7, x8, x9, x10, x11, x12, x13, x14, x15, x16, x17, x18, x19, x20, x21, a2⟩ hx
 obtain ⟨r, hr⟩ := oE (show (r38 x0 x1 x2 x3 x4 x5 x6 x7 x8 x9 x10 x11 x12 x13 x14 x15 x16 x17 x18 x19 x20 x21 a2).isSome = true from hx)
 have hres : T38.res (x0, x1, x2, x3, x4, x5, x6, x7, x8, x9, x10, x11, x12, x13, x14, x15, x16, x17, x18, x19, x20, x21, a2) = qu15 r := by simp only [T38, mkT, hr, oG]
 refine ⟨nL rfl, fun stop S => ?_⟩
 rw [hres] at S
 unfold r38 at hr
 refine S.gx [] ?_
 repeat refine gA ?_
 refine S.sees [2, 3, 4, 6, 7] [(3, 3), (4, 4), (6, 6)] [] ?_ (Stop.iter S (fun s1 => ⟨[(2, .c (.d (encF 2 d_II a2))), (3, .c (.ref 3 0)), (4, .c (.ref 4 0)), (6, .c (.ref 6 0)), (7, .c (.d (.int .i64 s1.1)))], [(3, [.d (encF 4 d_IIII x0), .d (encF 5 d_IIIII x1), .d (encF 3 d_III x2), .d (encF 2 d_II x3), .d (.int .i64 x4), .d (.int .i64 x5), .d (.int .i64 x6), .d (.int .i64 x7)]), (4, [.d (.int .i64 s1.2.1), .d (.int .i64 s1.2.2.1), .d (.int .i64 s1.2.2.2.1), .d (.int .i64 s1.2.2.2.2.1), .d (.int .i64 s1.2.2.2.2.2.1), .d (.int .i64 s1.2.2.2.2.2.2.1), .d (.int .i64 s1.2.2.2.2.2.2.2.1), .d (.int .i64 s1.2.2.2.2.2.2.2.2.1), .d (.int .i64 s1.2.2.2.2.2.2.2.2.2.1), .d (.int .i64 s1.2.2.2.2.2.2.2.2.2.2.1), .d (.int .i64 s1.2.2.2.2.2.2.2.2.2.2.2.1), .d (.int .i64 s1.2.2.2.2.2.2.2.2.2.2.2.2.1), .d (.int .i64 s1.2.2.2.2.2.2.2.2.2.2.2.2.2.1), .d (.int .i64 s1.2.2.2.2.2.2.2.2.2.2.2.2.2.2)]), (6, [.d (.int .i64 0), .d (.int .i64 0), .d (.int .i64 0), .d (.int .i64 0), .d (.int .i64 0), .d (.int .i64 0), .d (.int .i64 0), .d (.int .i64 0), .d (.int .i64 0), .d (.int .i64 0), .d (.int .i64 0), .d (.int .i64 0), .d (.int .i64 0), .d (.int .i64 0)])], []⟩) (b38_1 x0 x1 x2 x3 x4 x5 x6 x7 a2) (fun q => q = r) hr rfl ?_)
 ·exact lf
 ·intro s1 hr
  unfold b38_1 at hr
  refine S.gx [] ?_
  repeat refine gA ?_
  refine ⟨?_, ?_⟩ <;> intro hc
  ·have hr := ifP1 hr hc
   obtain ⟨hg2, hr⟩ := of_guard1 hr
   obtain ⟨v1, hv1, hr⟩ := of_bind1 hr
   try simp only [hv1, oG, oI, true_and, and_assoc]
   repeat refine gA ?_
   refine S.sees [2, 3, 4, 6, 7] [(3, 3), (4, 4), (6, 6)] [] ?_ hr
   exact lf
  ·have hr := ifN1 hr hc
   repeat refine gA ?_
   have hr := of_out0 hr
   repeat refine gA ?_
   cases hr
   exact lf
theorem f38 : FnFact Tryz.prog 38 T38.sp := ⟨⟨Tryz.f38, Tryz.func38, by decide, rfl⟩, v38⟩
end
end Go.Proofs.YtfkmbdfajpdjjaaGreatDoor

/- Contracts of functions, written by wip/dec. -/
import Derived.Test.YtkhfaooknmoboaaGreatDoorF00
import Derived.Test.YtkhfaooknmoboaaGreatDoorF01
set_option linter.unusedVariables false
set_option linter.unusedSimpArgs false
set_option maxHeartbeats 4000000
set_option maxRecDepth 20000
namespace Go.Proofs.YtkhfaooknmoboaaGreatDoor
open Go.Abs
abbrev qA10 := (List (Int)) × (List (Int))
def qw10 (a0 : List (Int)) (a1 : List (Int)) : List Arg := [.agg [encF 1 d_I a0, encF 1 d_I a1]]
def qE10 : qA10 → List Arg := fun ⟨a0, a1⟩ => qw10 a0 a1
def qd10 (a : List Arg) : qA10 := (decF g_I (aCell a 0 0), decF g_I (aCell a 0 1))
def qp10 {β : Type} (f : (List (Int)) → (List (Int)) → β) (c0 c1 : D) : β := f (decF g_I c0) (decF g_I c1)
def qt10 (c0 c1 : D) : List Arg := [.agg [c0, c1]]
attribute [go_sem] qw10 qp10 qt10 qE10
abbrev qA11 := (List (Int)) × (List (Int)) × Int
def qw11 (a0 : List (Int)) (a1 : List (Int)) (a2 : Int) : List Arg := [.agg [encF 1 d_I a0, encF 1 d_I a1], .c (.int .i64 a2)]
def qE11 : qA11 → List Arg := fun ⟨a0, a1, a2⟩ => qw11 a0 a1 a2
def qd11 (a : List Arg) : qA11 := (decF g_I (aCell a 0 0), decF g_I (aCell a 0 1), dInt (aCell a 1 0))
def qp11 {β : Type} (f : (List (Int)) → (List (Int)) → Int → β) (c0 c1 c2 : D) : β := f (decF g_I c0) (decF g_I c1) (dInt c2)
def qt11 (c0 c1 c2 : D) : List Arg := [.agg [c0, c1], .c c2]
attribute [go_sem] qw11 qp11 qt11 qE11
abbrev qA12 := Int × (List (Int × Int × Int)) × Int × (List (Bool)) × Int
def qw12 (a0 : Int) (a1 : List (Int × Int × Int)) (a2 : Int) (a3 : List (Bool)) (a4 : Int) : List Arg := [.agg [.int .i64 a0, encF 3 d_III a1], .agg [.int .i64 a2, encF 1 d_B a3], .c (.int .i64 a4)]
def qE12 : qA12 → List Arg := fun ⟨a0, a1, a2, a3, a4⟩ => qw12 a0 a1 a2 a3 a4
def qd12 (a : List Arg) : qA12 := (dInt (aCell a 0 0), decF g_III (aCell a 0 1), dInt (aCell a 1 0), decF g_B (aCell a 1 1), dInt (aCell a 2 0))
def qp12 {β : Type} (f : Int → (List (Int × Int × Int)) → Int → (List (Bool)) → Int → β) (c0 c1 c2 c3 c4 : D) : β := f (dInt c0) (decF g_III c1) (dInt c2) (decF g_B c3) (dInt c4)
def qt12 (c0 c1 c2 c3 c4 : D) : List Arg := [.agg [c0, c1], .agg [c2, c3], .c c4]
attribute [go_sem] qw12 qp12 qt12 qE12
abbrev qA13 := Int × Int × Int
def qw13 (a0 : Int) (a1 : Int) (a2 : Int) : List Arg := [.agg [.int .i64 a0, .int .i64 a1], .ptr [.int .i64 a2]]
def qE13 : qA13 → List Arg := fun ⟨a0, a1, a2⟩ => qw13 a0 a1 a2
def qd13 (a : List Arg) : qA13 := (dInt (aCell a 0 0), dInt (aCell a 0 1), dInt (aCell a 1 0))
def qp13 {β : Type} (f : Int → Int → Int → β) (c0 c1 c2 : D) : β := f (dInt c0) (dInt c1) (dInt c2)
def qt13 (c0 c1 c2 : D) : List Arg := [.agg [c0, c1], .ptr [c2]]
attribute [go_sem] qw13 qp13 qt13 qE13
abbrev qA14 := Int × (List (Int × Int × Int)) × Int
def qw14 (a0 : Int) (a1 : List (Int × Int × Int)) (a2 : Int) : List Arg := [.agg [.int .i64 a0, encF 3 d_III a1], .c (.int .i64 a2)]
def qE14 : qA14 → List Arg := fun ⟨a0, a1, a2⟩ => qw14 a0 a1 a2
def qd14 (a : List Arg) : qA14 := (dInt (aCell a 0 0), decF g_III (aCell a 0 1), dInt (aCell a 1 0))
def qp14 {β : Type} (f : Int → (List (Int × Int × Int)) → Int → β) (c0 c1 c2 : D) : β := f (dInt c0) (decF g_III c1) (dInt c2)
def qt14 (c0 c1 c2 : D) : List Arg := [.agg [c0, c1], .c c2]
attribute [go_sem] qw14 qp14 qt14 qE14
abbrev qA15 := Int × (List (Int × Int × Int)) × Int × (List (Bool)) × Int × Int
def qw15 (a0 : Int) (a1 : List (Int × Int × Int)) (a2 : Int) (a3 : List (Bool)) (a4 : Int) (a5 : Int) : List Arg := [.agg [.int .i64 a0, encF 3 d_III a1], .agg [.int .i64 a2, encF 1 d_B a3], .agg [.int .i64 a4, .int .i64 a5]]
def qE15 : qA15 → List Arg := fun ⟨a0, a1, a2, a3, a4, a5⟩ => qw15 a0 a1 a2 a3 a4 a5
def qd15 (a : List Arg) : qA15 := (dInt (aCell a 0 0), decF g_III (aCell a 0 1), dInt (aCell a 1 0), decF g_B (aCell a 1 1), dInt (aCell a 2 0), dInt (aCell a 2 1))
def qp15 {β : Type} (f : Int → (List (Int × Int × Int)) → Int → (List (Bool)) → Int → Int → β) (c0 c1 c2 c3 c4 c5 : D) : β := f (dInt c0) (decF g_III c1) (dInt c2) (decF g_B c3) (dInt c4) (dInt c5)
def qt15 (c0 c1 c2 c3 c4 c5 : D) : List Arg := [.agg [c0, c1], .agg [c2, c3], .agg [c4, c5]]
attribute [go_sem] qw15 qp15 qt15 qE15
abbrev qA16 := Int × (List (Int × Int × Int)) × (List (Bool)) × Int × Int
def qw16 (a0 : Int) (a1 : List (Int × Int × Int)) (a2 : List (Bool)) (a3 : Int) (a4 : Int) : List Arg := [.agg [.int .i64 a0, encF 3 d_III a1], .c (encF 1 d_B a2), .agg [.int .i64 a3, .int .i64 a4]]
def qE16 : qA16 → List Arg := fun ⟨a0, a1, a2, a3, a4⟩ => qw16 a0 a1 a2 a3 a4
def qd16 (a : List Arg) : qA16 := (dInt (aCell a 0 0), decF g_III (aCell a 0 1), decF g_B (aCell a 1 0), dInt (aCell a 2 0), dInt (aCell a 2 1))
def qp16 {β : Type} (f : Int → (List (Int × Int × Int)) → (List (Bool)) → Int → Int → β) (c0 c1 c2 c3 c4 : D) : β := f (dInt c0) (decF g_III c1) (decF g_B c2) (dInt c3) (dInt c4)
def qt16 (c0 c1 c2 c3 c4 : D) : List Arg := [.agg [c0, c1], .c c2, .agg [c3, c4]]
attribute [go_sem] qw16 qp16 qt16 qE16
def qu9 (v : (List (Int × Int)) × (List (Int × Int))) : List RV := [.c (.own (encF 2 d_II v.1)), .c (.own (encF 2 d_II v.2))]
attribute [go_sem] qu9
def qu10 (v : (List (Int × Int)) × Int) : List RV := [.c (.own (encF 2 d_II v.1)), .c (.d (.int .i64 v.2))]
attribute [go_sem] qu10
def qu11 (v : (List (Int)) × Int) : List RV := [.c (.own (encF 1 d_I v.1)), .c (.d (.int .i64 v.2))]
attribute [go_sem] qu11
def qu12 (v : (List (Int))) : List RV := [.c (.own (encF 1 d_I v))]
attribute [go_sem] qu12
def qu13 (v : Int × Int × Int × Int) : List RV := [.agg [.d (.int .i64 v.1), .d (.int .i64 v.2.1), .d (.int .i64 v.2.2.1), .d (.int .i64 v.2.2.2)]]
attribute [go_sem] qu13
def qu14 (v : Int × Int × Int × Int × Int) : List RV := [.agg [.d (.int .i64 v.1), .d (.int .i64 v.2.1), .d (.int .i64 v.2.2.1), .d (.int .i64 v.2.2.2.1)], .c (.d (.int .i64 v.2.2.2.2))]
attribute [go_sem] qu14
/- (martensite/field.ladder).solved -/
def b32_1 (x0 : List (Int)) (x1 : List (Int)) : (Int × Int × Int × (List (Int × Int)) × (List (Int × Int))) → Ctl (Int × Int × Int × (List (Int × Int)) × (List (Int × Int))) ((List (Int × Int)) × (List (Int × Int))) := fun s1 =>
  if (decide (s1.1 ≥ 0)) = true then
   if 0 ≤ s1.1 ∧ s1.1 < (s1.2.2.2.1.length : Int) then
    if 0 ≤ IntKind.i64.wrap (s1.1 + 1) ∧ IntKind.i64.wrap (s1.1 + 1) < (s1.2.2.2.2.length : Int) then
     bindC (r60 x0 x1 s1.1 ((s1.2.2.2.2.getD (IntKind.i64.wrap (s1.1 + 1)).toNat default).1) ((s1.2.2.2.2.getD (IntKind.i64.wrap (s1.1 + 1)).toNat default).2) s1.2.1 s1.2.2.1) fun v1 =>
      if 0 ≤ s1.1 ∧ s1.1 < (s1.2.2.2.1.length : Int) then
       if 0 ≤ s1.1 ∧ s1.1 < (s1.2.2.2.2.length : Int) then
        if 0 ≤ s1.1 ∧ s1.1 < (s1.2.2.2.1.length : Int) then
         .next (IntKind.i64.wrap (s1.1 - 1), v1.1, v1.2.1, s1.2.2.2.1.set s1.1.toNat (v1.1, v1.2.1), s1.2.2.2.2.set s1.1.toNat (v1.2.2.1, v1.2.2.2))
         else .out none
        else .out none
       else .out none
     else .out none
    else .out none
   else .out (some (s1.2.2.2.2, s1.2.2.2.1))
def r32 (x0 : List (Int)) (x1 : List (Int)) : Option ((List (Int × Int)) × (List (Int × Int))) :=
  if 0 ≤ IntKind.i64.wrap ((x0.length : Int) + 1) ∧ IntKind.i64.wrap ((x0.length : Int) + 1) ≤ IntKind.i64.wrap ((x0.length : Int) + 1) ∧ IntKind.i64.wrap ((x0.length : Int) + 1) ≤ 9223372036854775807 ∧ 16 * (IntKind.i64.wrap ((x0.length : Int) + 1)) ≤ 281474976710656 then
   if 0 ≤ (x0.length : Int) ∧ (x0.length : Int) ≤ (x0.length : Int) ∧ (x0.length : Int) ≤ 9223372036854775807 ∧ 16 * (x0.length : Int) ≤ 281474976710656 then
    if 0 ≤ (x0.length : Int) ∧ (x0.length : Int) < ((IntKind.i64.wrap ((x0.length : Int) + 1)).toNat : Int) then
     iterC (b32_1 x0 x1) 1000000000 (IntKind.i64.wrap (((x0.length : Int).toNat : Int) - 1), 0, 0, List.replicate (x0.length : Int).toNat (0, 0), (List.replicate (IntKind.i64.wrap ((x0.length : Int) + 1)).toNat (0, 0)).set x0.length (1, 0))
     else none
    else none
   else none
def T32 : TSpec qA10 := mkT qE10 qd10 (fun ⟨x0, x1⟩ => r32 x0 x1) qu9 false
theorem TP32 (c0 c1 : D) : T32.sp.pre [.agg [c0, c1]] = (eqvArgs (qt10 c0 c1) (qp10 qw10 c0 c1) ∧ (qp10 r32 c0 c1).isSome = true) := (rfl)
theorem TR32 (c0 c1 : D) : T32.sp.res [.agg [c0, c1]] = qu9 ((qp10 r32 c0 c1).getD default) := (rfl)
theorem TA32 : T32.sp.alias = false := (rfl)
def tb32 : Fns := lk [(60, T60.sp)]
theorem tb32_ok : FnsOk Tryz.prog tb32 := .cons f60 (FnsOk.nil)
theorem tb32_60 : tb32 60 = some T60.sp := rfl
attribute [go_sem] TP32 TR32 TA32
section
attribute [local go_sem] T32 tb32_60 Tryz.results32 Tryz.results59 Tryz.results76
theorem v32 : Valid Tryz.prog 32 T32.sp := by
 refine valid_t (fn := Tryz.f32) (n := 47) ty_ok tb32_ok Tryz.func32 rfl Tryz.ntmps32 ?_
 rintro ⟨x0, x1⟩ hx
 obtain ⟨r, hr⟩ := oE (show (r32 x0 x1).isSome = true from hx)
 have hres : T32.res (x0, x1) = qu9 r := by simp only [T32, mkT, hr, oG]
 refine ⟨nL rfl, fun stop S => ?_⟩
 rw [hres] at S
 unfold r32 at hr
 refine S.gx [5] ?_
 obtain ⟨hg7, hr⟩ := of_guard0 hr
 obtain ⟨hg8, hr⟩ := of_guard0 hr
 obtain ⟨hg9, hr⟩ := of_guard0 hr
 repeat refine gA ?_
 refine S.inl 1 [1, 2, 3, 5] [] Tryz.func59 (by decide) rfl Tryz.ntmps59 (fun cx e => drawn_ok ty_ok tb32_ok cx e) (some 20) rfl rfl rfl rfl (nL rfl) (nL rfl) ?_
 refine gs ?_
 repeat refine gA ?_
 intro stop1 S1
 refine S1.gx [] ?_
 repeat refine gA ?_
 refine S.gx [5] ?_
 repeat refine gA ?_
 refine S.range [1, 2, 3, 5] Tryz.func76 (by decide) rfl Tryz.ntmps76 Tryz.results76 (fun cx e => drawn_ok ty_ok tb32_ok cx e) (fun cx e => drawn_ok ty_ok tb32_ok cx e) (by decide) rfl rfl (nL rfl) ?_
 intro l1 stop1 stopJ1 S1 SJ1 Y1
 refine S1.gx [3] ?_
 repeat refine gA ?_
 refine S1.sees [0, 1, 3] [(100001, 100001), (1, 1), (2, 2), (3, 3), (5, 5)] [(14, 14), (12, 12)] ?_ (Stop.iter S1 (fun s1 => ⟨[(0, .c (.yld l1)), (1, .c (.ref 100001 0)), (3, .c (.d (.int .i64 s1.1)))], [(100001, [.own 14]), (1, [.d (encF 1 d_I x0), .d (encF 1 d_I x1)]), (2, [.own 12]), (3, [.own 14]), (5, [.d (.int .i64 s1.2.1), .d (.int .i64 s1.2.2.1)])], [(14, .owned (encF 2 d_II s1.2.2.2.1)), (12, .owned (encF 2 d_II s1.2.2.2.2))]⟩) (b32_1 x0 x1) (fun q => q = r) hr rfl ?_)
 ·exact lf
 ·intro s1 hr
  unfold b32_1 at hr
  refine S1.gx [3] ?_
  repeat refine gA ?_
  refine ⟨?_, ?_⟩ <;> intro hc
  ·have hr := ifP1 hr hc
   repeat refine gA ?_
   refine Y1 6 [0, 1, 3] (some 17) rfl rfl rfl rfl (nL rfl) (by rfl) ?_
   refine gs ?_
   obtain ⟨hg6, hr⟩ := of_guard1 hr
   repeat refine gA ?_
   intro stopA2 SA2
   refine SA2.gx [] ?_
   repeat refine gA ?_
   intro stop2 S2
   refine S2.gx [5] ?_
   obtain ⟨hg2, hr⟩ := of_guard1 hr
   obtain ⟨v1, hv1, hr⟩ := of_bind1 hr
   obtain ⟨hg3, hr⟩ := of_guard1 hr
   obtain ⟨hg4, hr⟩ := of_guard1 hr
   obtain ⟨hg5, hr⟩ := of_guard1 hr
   try simp only [hv1, oG, oI, true_and, and_assoc]
   repeat refine gA ?_
   refine S1.gx [3] ?_
   repeat refine gA ?_
   refine S1.sees [0, 1, 3] [(100001, 100001), (1, 1), (2, 2), (3, 3), (5, 5)] [(14, 14), (12, 12)] ?_ hr
   exact lf
  ·have hr := ifN1 hr hc
   repeat refine gA ?_
   have hr := of_out0 hr
   repeat refine gA ?_
   refine S.gx [5] ?_
   repeat refine gA ?_
   cases hr
   exact lf
theorem f32 : FnFact Tryz.prog 32 T32.sp := ⟨⟨Tryz.f32, Tryz.func32, by decide, rfl⟩, v32⟩
end

/- martensite/field.VoltagesOf -/
def r13 (x0 : Int) (x1 : List (Int × Int × Int)) (x2 : Int) (x3 : List (Bool)) : Option ((List (Int × Int)) × Int) :=
  (r31 x0 x1 x2 x3).bind fun v1 =>
   if (v1.2.2 != 0) = true then
    some ([], v1.2.2)
    else (r32 v1.1 v1.2.1).bind fun v2 =>
     some (v2.1, 0)
def T13 : TSpec qA6 := mkT qE6 qd6 (fun ⟨x0, x1, x2, x3⟩ => r13 x0 x1 x2 x3) qu10 false
theorem TP13 (c0 c1 c2 c3 : D) : T13.sp.pre [.agg [c0, c1], .agg [c2, c3]] = (eqvArgs (qt6 c0 c1 c2 c3) (qp6 qw6 c0 c1 c2 c3) ∧ (qp6 r13 c0 c1 c2 c3).isSome = true) := (rfl)
theorem TR13 (c0 c1 c2 c3 : D) : T13.sp.res [.agg [c0, c1], .agg [c2, c3]] = qu10 ((qp6 r13 c0 c1 c2 c3).getD default) := (rfl)
theorem TA13 : T13.sp.alias = false := (rfl)
def tb13 : Fns := lk [(31, T31.sp), (32, T32.sp)]
theorem tb13_ok : FnsOk Tryz.prog tb13 := .cons f31 (.cons f32 (FnsOk.nil))
theorem tb13_31 : tb13 31 = some T31.sp := rfl
theorem tb13_32 : tb13 32 = some T32.sp := rfl
attribute [go_sem] TP13 TR13 TA13
section
attribute [local go_sem] T13 tb13_31 tb13_32 Tryz.results13
theorem v13 : Valid Tryz.prog 13 T13.sp := by
 refine valid_t (fn := Tryz.f13) (n := 25) ty_ok tb13_ok Tryz.func13 rfl Tryz.ntmps13 ?_
 rintro ⟨x0, x1, x2, x3⟩ hx
 obtain ⟨r, hr⟩ := oE (show (r13 x0 x1 x2 x3).isSome = true from hx)
 have hres : T13.res (x0, x1, x2, x3) = qu10 r := by simp only [T13, mkT, hr, oG]
 refine ⟨nL rfl, fun stop S => ?_⟩
 rw [hres] at S
 unfold r13 at hr
 refine S.gx [] ?_
 obtain ⟨v1, hv1, hr⟩ := of_bind0 hr
 try simp only [hv1, oG, oI, true_and, and_assoc]
 repeat refine gA ?_
 refine ⟨?_, ?_⟩ <;> intro hc
 ·have hr := ifP hr hc
  repeat refine gA ?_
  cases hr
  exact lf
 ·have hr := ifN hr hc
  obtain ⟨v2, hv2, hr⟩ := of_bind0 hr
  try simp only [hv2, oG, oI, true_and, and_assoc]
  repeat refine gA ?_
  cases hr
  exact lf
theorem f13 : FnFact Tryz.prog 13 T13.sp := ⟨⟨Tryz.f13, Tryz.func13, by decide, rfl⟩, v13⟩
end

/- martensite/field.totalErr -/
def r34 (a0 : Int) : Option (Int) :=
  (r44 a0 0 100000).bind fun v1 =>
   (r42 v1 2).bind fun v2 =>
    some v2
def T34 : TSpec qA4 := mkT qE4 qd4 r34 qu3 false
theorem TP34 (c0 : D) : T34.sp.pre [.c c0] = (eqvArgs (qt4 c0) (qp4 qw4 c0) ∧ (qp4 r34 c0).isSome = true) := (rfl)
theorem TR34 (c0 : D) : T34.sp.res [.c c0] = qu3 ((qp4 r34 c0).getD default) := (rfl)
theorem TA34 : T34.sp.alias = false := (rfl)
def tb34 : Fns := lk [(42, T42.sp), (44, T44.sp)]
theorem tb34_ok : FnsOk Tryz.prog tb34 := .cons f42 (.cons f44 (FnsOk.nil))
theorem tb34_42 : tb34 42 = some T42.sp := rfl
theorem tb34_44 : tb34 44 = some T44.sp := rfl
attribute [go_sem] TP34 TR34 TA34
section
attribute [local go_sem] T34 tb34_42 tb34_44 Tryz.results34
theorem v34 : Valid Tryz.prog 34 T34.sp := by
 refine valid_t (fn := Tryz.f34) (n := 6) ty_ok tb34_ok Tryz.func34 rfl Tryz.ntmps34 ?_
 rintro a0 hx
 obtain ⟨r, hr⟩ := oE (show (r34 a0).isSome = true from hx)
 have hres : T34.res a0 = qu3 r := by simp only [T34, mkT, hr, oG]
 refine ⟨nL rfl, fun stop S => ?_⟩
 rw [hres] at S
 unfold r34 at hr
 refine S.gx [] ?_
 obtain ⟨v1, hv1, hr⟩ := of_bind0 hr
 obtain ⟨v2, hv2, hr⟩ := of_bind0 hr
 try simp only [hv1, hv2, Option.getD_some, Option.isSome_some, true_and, and_assoc]
 repeat refine gA ?_
 cases hr
 exact lf
theorem f34 : FnFact Tryz.prog 34 T34.sp := ⟨⟨Tryz.f34, Tryz.func34, by decide, rfl⟩, v34⟩
end

/- (martensite/field.ladder).all -/
def b61_1 (x0 : List (Int)) (v1 : (List (Int × Int)) × (List (Int × Int))) : (Int × Int × (List (Int)) × Int) → Ctl (Int × Int × (List (Int)) × Int) ((List (Int)) × Int) := fun s1 =>
  if (decide (s1.2.1 < (((v1.1.length - 1) : Nat) : Int))) = true then
   if 0 ≤ s1.2.1 ∧ s1.2.1 < ((((v1.1.drop 1).take (v1.1.length - 1)).length : Nat) : Int) then
    if 0 ≤ s1.2.1 ∧ s1.2.1 < (x0.length : Int) then
     if (s1.2.2.1.length + 1) * 8 ≤ 140737488355328 ∧ s1.2.2.1.length + 1 ≤ 9223372036854775807 then
      .next (IntKind.i64.wrap (s1.1 + (IntKind.i64.wrap ((x0.getD s1.2.1.toNat default) * (IntKind.i64.wrap ((IntKind.i64.wrap (((((v1.1.drop 1).take (v1.1.length - 1)).getD s1.2.1.toNat default).1) * ((((v1.1.drop 1).take (v1.1.length - 1)).getD s1.2.1.toNat default).1))) + (IntKind.i64.wrap (((((v1.1.drop 1).take (v1.1.length - 1)).getD s1.2.1.toNat default).2) * ((((v1.1.drop 1).take (v1.1.length - 1)).getD s1.2.1.toNat default).2)))))))), IntKind.i64.wrap (s1.2.1 + 1), s1.2.2.1 ++ [IntKind.i64.wrap ((x0.getD s1.2.1.toNat default) * (IntKind.i64.wrap ((IntKind.i64.wrap (((((v1.1.drop 1).take (v1.1.length - 1)).getD s1.2.1.toNat default).1) * ((((v1.1.drop 1).take (v1.1.length - 1)).getD s1.2.1.toNat default).1))) + (IntKind.i64.wrap (((((v1.1.drop 1).take (v1.1.length - 1)).getD s1.2.1.toNat default).2) * ((((v1.1.drop 1).take (v1.1.length - 1)).getD s1.2.1.toNat default).2))))))], IntKind.i64.wrap (s1.1 + (IntKind.i64.wrap ((x0.getD s1.2.1.toNat default) * (IntKind.i64.wrap ((IntKind.i64.wrap (((((v1.1.drop 1).take (v1.1.length - 1)).getD s1.2.1.toNat default).1) * ((((v1.1.drop 1).take (v1.1.length - 1)).getD s1.2.1.toNat default).1))) + (IntKind.i64.wrap (((((v1.1.drop 1).take (v1.1.length - 1)).getD s1.2.1.toNat default).2) * ((((v1.1.drop 1).take (v1.1.length - 1)).getD s1.2.1.toNat default).2)))))))))
      else .out none
     else .out none
    else .out none
   else .out (some (s1.2.2.1, s1.2.2.2))
def r61 (x0 : List (Int)) (x1 : List (Int)) : Option ((List (Int)) × Int) :=
  (r32 x0 x1).bind fun v1 =>
   if 0 ≤ 1 ∧ 1 ≤ (v1.1.length : Int) ∧ (v1.1.length : Int) ≤ (v1.1.length : Int) then
    iterC (b61_1 x0 v1) 1000000000 (0, 0, [], 0)
    else none
def T61 : TSpec qA10 := mkT qE10 qd10 (fun ⟨x0, x1⟩ => r61 x0 x1) qu11 false
theorem TP61 (c0 c1 : D) : T61.sp.pre [.agg [c0, c1]] = (eqvArgs (qt10 c0 c1) (qp10 qw10 c0 c1) ∧ (qp10 r61 c0 c1).isSome = true) := (rfl)
theorem TR61 (c0 c1 : D) : T61.sp.res [.agg [c0, c1]] = qu11 ((qp10 r61 c0 c1).getD default) := (rfl)
theorem TA61 : T61.sp.alias = false := (rfl)
def tb61 : Fns := lk [(32, T32.sp)]
theorem tb61_ok : FnsOk Tryz.prog tb61 := .cons f32 (FnsOk.nil)
theorem tb61_32 : tb61 32 = some T32.sp := rfl
theorem lt61_0 : (IntKind.i64.wrap (0 + 1)) = 1 := by first | rfl | decide | simp
attribute [go_sem] TP61 TR61 TA61
section
attribute [local go_sem] T61 tb61_32 Tryz.results61 Tryz.results62 lt61_0
theorem v61 : Valid Tryz.prog 61 T61.sp := by
 refine valid_t (fn := Tryz.f61) (n := 19) ty_ok tb61_ok Tryz.func61 rfl Tryz.ntmps61 ?_
 rintro ⟨x0, x1⟩ hx
 obtain ⟨r, hr⟩ := oE (show (r61 x0 x1).isSome = true from hx)
 have hres : T61.res (x0, x1) = qu11 r := by simp only [T61, mkT, hr, oG]
 refine ⟨nL rfl, fun stop S => ?_⟩
 rw [hres] at S
 unfold r61 at hr
 refine S.gx [3] ?_
 repeat refine gA ?_
 refine S.bound 1 8 9 rfl rfl rfl rfl (nL rfl) ?_
 refine gs ?_
 repeat refine gA ?_
 refine S.gx [3] ?_
 repeat refine gA ?_
 refine S.range [4, 5] Tryz.func62 (by decide) rfl Tryz.ntmps62 Tryz.results62 (fun cx e => drawn_ok ty_ok tb61_ok cx e) (fun cx e => drawn_ok ty_ok tb61_ok cx e) (by decide) rfl rfl (nL rfl) ?_
 intro l1 stop1 stopJ1 S1 SJ1 Y1
 refine S1.gx [8] ?_
 obtain ⟨v1, hv1, hr⟩ := of_bind0 hr
 obtain ⟨hg5, hr⟩ := of_guard0 hr
 have hi6 : Nonempty (PLift (v1.1.length ≤ v1.1.length)) := ⟨⟨by omega⟩⟩
 try simp only [decF_subE0]
 try simp only [decF_subE, dec_I, dec_III, dec_LIIIE, dec_B, dec_LBE, dec_LIE, dec_II, dec_LIIE, hv1, Option.getD_some, Option.isSome_some, true_and, and_assoc]
 repeat refine gA ?_
 refine S1.own0b 4 0 2000400 1 rfl rfl (nL rfl) rfl ?_
 refine S1.sees [1, 2, 6, 16, 17, 18] [(2, 2), (4, 4), (5, 5)] [(2000400, 2000400)] ?_ (Stop.iter S1 (fun s1 => ⟨[(1, .c (.yld l1)), (2, .c (.ref 2 0)), (6, .c (.d (.int .i64 s1.1))), (16, .c (.d (encF 2 d_II ((v1.1.drop 1).take (v1.1.length - 1))))), (17, .c (.d (.int .i64 (((v1.1.length - 1) : Nat) : Int)))), (18, .c (.d (.int .i64 s1.2.1)))], [(2, [.d (encF 1 d_I x0), .d (encF 1 d_I x1)]), (4, [.own 2000400]), (5, [.d (.int .i64 s1.2.2.2)])], [(2000400, .owned (encF 1 d_I s1.2.2.1))]⟩) (b61_1 x0 v1) (fun q => q = r) hr rfl ?_)
 ·exact lf
 ·intro s1 hr
  unfold b61_1 at hr
  refine S1.gx [8] ?_
  repeat refine gA ?_
  refine ⟨?_, ?_⟩ <;> intro hc
  ·have hr := ifP1 hr hc
   obtain ⟨hg3, hr⟩ := of_guard1 hr
   obtain ⟨hg4, hr⟩ := of_guard1 hr
   repeat refine gA ?_
   refine Y1 3 [1, 2, 6, 16, 17, 18] (some 46) rfl rfl rfl rfl (nL rfl) (by rfl) ?_
   refine gs ?_
   repeat refine gA ?_
   intro stopA2 SA2
   refine SA2.gx [] ?_
   repeat refine gA ?_
   intro stop2 S2
   refine S2.gx [3] ?_
   obtain ⟨hg2, hr⟩ := of_guard1 hr
   repeat refine gA ?_
   refine S1.gx [8] ?_
   repeat refine gA ?_
   refine S1.sees [1, 2, 6, 16, 17, 18] [(2, 2), (4, 4), (5, 5)] [(15, 2000400)] ?_ hr
   exact lf
  ·have hr := ifN1 hr hc
   repeat refine gA ?_
   have hr := of_out0 hr
   repeat refine gA ?_
   refine S.gx [3] ?_
   repeat refine gA ?_
   cases hr
   exact lf
theorem f61 : FnFact Tryz.prog 61 T61.sp := ⟨⟨Tryz.f61, Tryz.func61, by decide, rfl⟩, v61⟩
end

/- (martensite/field.ladder).watts -/
def b35_1 (x0 : List (Int)) (a1 : Int) (v1 : (List (Int)) × Int) (v2 : (List (Int × Int)) × (List (Int × Int))) : (Int × Int × (List (Int)) × Int) → Ctl (Int × Int × (List (Int)) × Int) ((List (Int))) := fun s1 =>
  if (decide (s1.2.1 < (((v2.1.length - 1) : Nat) : Int))) = true then
   if 0 ≤ s1.2.1 ∧ s1.2.1 < ((((v2.1.drop 1).take (v2.1.length - 1)).length : Nat) : Int) then
    if 0 ≤ s1.2.1 ∧ s1.2.1 < (x0.length : Int) then
     if v1.2 ≠ 0 then
      if (s1.2.2.1.length + 1) * 8 ≤ 140737488355328 ∧ s1.2.2.1.length + 1 ≤ 9223372036854775807 then
       .next (IntKind.i64.wrap (s1.1 + (IntKind.i64.wrap ((x0.getD s1.2.1.toNat default) * (IntKind.i64.wrap ((IntKind.i64.wrap (((((v2.1.drop 1).take (v2.1.length - 1)).getD s1.2.1.toNat default).1) * ((((v2.1.drop 1).take (v2.1.length - 1)).getD s1.2.1.toNat default).1))) + (IntKind.i64.wrap (((((v2.1.drop 1).take (v2.1.length - 1)).getD s1.2.1.toNat default).2) * ((((v2.1.drop 1).take (v2.1.length - 1)).getD s1.2.1.toNat default).2)))))))), IntKind.i64.wrap (s1.2.1 + 1), s1.2.2.1 ++ [IntKind.i64.wrap ((IntKind.i64.wrap ((IntKind.i64.wrap (a1 * (IntKind.i64.wrap (s1.1 + (IntKind.i64.wrap ((x0.getD s1.2.1.toNat default) * (IntKind.i64.wrap ((IntKind.i64.wrap (((((v2.1.drop 1).take (v2.1.length - 1)).getD s1.2.1.toNat default).1) * ((((v2.1.drop 1).take (v2.1.length - 1)).getD s1.2.1.toNat default).1))) + (IntKind.i64.wrap (((((v2.1.drop 1).take (v2.1.length - 1)).getD s1.2.1.toNat default).2) * ((((v2.1.drop 1).take (v2.1.length - 1)).getD s1.2.1.toNat default).2))))))))))).tdiv v1.2)) - s1.2.2.2)], IntKind.i64.wrap ((IntKind.i64.wrap (a1 * (IntKind.i64.wrap (s1.1 + (IntKind.i64.wrap ((x0.getD s1.2.1.toNat default) * (IntKind.i64.wrap ((IntKind.i64.wrap (((((v2.1.drop 1).take (v2.1.length - 1)).getD s1.2.1.toNat default).1) * ((((v2.1.drop 1).take (v2.1.length - 1)).getD s1.2.1.toNat default).1))) + (IntKind.i64.wrap (((((v2.1.drop 1).take (v2.1.length - 1)).getD s1.2.1.toNat default).2) * ((((v2.1.drop 1).take (v2.1.length - 1)).getD s1.2.1.toNat default).2))))))))))).tdiv v1.2))
       else .out none
      else .out none
     else .out none
    else .out none
   else .out (some s1.2.2.1)
def r35 (x0 : List (Int)) (x1 : List (Int)) (a1 : Int) : Option ((List (Int))) :=
  (r61 x0 x1).bind fun v1 =>
   (r32 x0 x1).bind fun v2 =>
    if 0 ≤ 1 ∧ 1 ≤ (v2.1.length : Int) ∧ (v2.1.length : Int) ≤ (v2.1.length : Int) then
     iterC (b35_1 x0 a1 v1 v2) 1000000000 (0, 0, [], 0)
     else none
def T35 : TSpec qA11 := mkT qE11 qd11 (fun ⟨x0, x1, a1⟩ => r35 x0 x1 a1) qu12 false
theorem TP35 (c0 c1 c2 : D) : T35.sp.pre [.agg [c0, c1], .c c2] = (eqvArgs (qt11 c0 c1 c2) (qp11 qw11 c0 c1 c2) ∧ (qp11 r35 c0 c1 c2).isSome = true) := (rfl)
theorem TR35 (c0 c1 c2 : D) : T35.sp.res [.agg [c0, c1], .c c2] = qu12 ((qp11 r35 c0 c1 c2).getD default) := (rfl)
theorem TA35 : T35.sp.alias = false := (rfl)
def tb35 : Fns := lk [(32, T32.sp), (61, T61.sp)]
theorem tb35_ok : FnsOk Tryz.prog tb35 := .cons f32 (.cons f61 (FnsOk.nil))
theorem tb35_32 : tb35 32 = some T32.sp := rfl
theorem tb35_61 : tb35 61 = some T61.sp := rfl
theorem lt35_0 : (IntKind.i64.wrap (0 + 1)) = 1 := by first | rfl | decide | simp
attribute [go_sem] TP35 TR35 TA35
section
attribute [local go_sem] T35 tb35_32 tb35_61 Tryz.results35 Tryz.results62 lt35_0
theorem v35 : Valid Tryz.prog 35 T35.sp := by
 refine valid_t (fn := Tryz.f35) (n := 34) ty_ok tb35_ok Tryz.func35 rfl Tryz.ntmps35 ?_
 rintro ⟨x0, x1, a1⟩ hx
 obtain ⟨r, hr⟩ := oE (show (r35 x0 x1 a1).isSome = true from hx)
 have hres : T35.res (x0, x1, a1) = qu12 r := by simp only [T35, mkT, hr, oG]
 refine ⟨nL rfl, fun stop S => ?_⟩
 rw [hres] at S
 unfold r35 at hr
 refine S.gx [4] ?_
 obtain ⟨v1, hv1, hr⟩ := of_bind0 hr
 try simp only [hv1, oG, oI, true_and, and_assoc]
 repeat refine gA ?_
 refine S.bound 1 17 18 rfl rfl rfl rfl (nL rfl) ?_
 refine gs ?_
 repeat refine gA ?_
 refine S.gx [4] ?_
 repeat refine gA ?_
 refine S.range [3, 6, 7, 8] Tryz.func62 (by decide) rfl Tryz.ntmps62 Tryz.results62 (fun cx e => drawn_ok ty_ok tb35_ok cx e) (fun cx e => drawn_ok ty_ok tb35_ok cx e) (by decide) rfl rfl (nL rfl) ?_
 intro l1 stop1 stopJ1 S1 SJ1 Y1
 refine S1.gx [8] ?_
 obtain ⟨v2, hv2, hr⟩ := of_bind0 hr
 obtain ⟨hg7, hr⟩ := of_guard0 hr
 have hi8 : Nonempty (PLift (v2.1.length ≤ v2.1.length)) := ⟨⟨by omega⟩⟩
 try simp only [decF_subE0]
 try simp only [decF_subE, dec_I, dec_III, dec_LIIIE, dec_B, dec_LBE, dec_LIE, dec_II, dec_LIIE, hv2, Option.getD_some, Option.isSome_some, true_and, and_assoc]
 repeat refine gA ?_
 refine S1.own0b 7 0 2000700 1 rfl rfl (nL rfl) rfl ?_
 refine S1.sees [1, 2, 6, 16, 17, 18] [(100002, 100002), (3, 3), (6, 6), (7, 7), (8, 8)] [(2000700, 2000700)] ?_ (Stop.iter S1 (fun s1 => ⟨[(1, .c (.yld l1)), (2, .c (.ref 100002 0)), (6, .c (.d (.int .i64 s1.1))), (16, .c (.d (encF 2 d_II ((v2.1.drop 1).take (v2.1.length - 1))))), (17, .c (.d (.int .i64 (((v2.1.length - 1) : Nat) : Int)))), (18, .c (.d (.int .i64 s1.2.1)))], [(100002, [.d (encF 1 d_I x0), .d (encF 1 d_I x1)]), (3, [.d (.int .i64 a1)]), (6, [.d (.int .i64 v1.2)]), (7, [.own 2000700]), (8, [.d (.int .i64 s1.2.2.2)])], [(2000700, .owned (encF 1 d_I s1.2.2.1))]⟩) (b35_1 x0 a1 v1 v2) (fun q => q = r) hr rfl ?_)
 ·exact lf
 ·intro s1 hr
  unfold b35_1 at hr
  refine S1.gx [8] ?_
  repeat refine gA ?_
  refine ⟨?_, ?_⟩ <;> intro hc
  ·have hr := ifP1 hr hc
   obtain ⟨hg5, hr⟩ := of_guard1 hr
   obtain ⟨hg6, hr⟩ := of_guard1 hr
   repeat refine gA ?_
   refine Y1 3 [1, 2, 6, 16, 17, 18] (some 46) rfl rfl rfl rfl (nL rfl) (by rfl) ?_
   refine gs ?_
   repeat refine gA ?_
   intro stopA2 SA2
   refine SA2.gx [] ?_
   repeat refine gA ?_
   intro stop2 S2
   refine S2.gx [4] ?_
   obtain ⟨hg3, hr⟩ := of_guard1 hr
   obtain ⟨hg4, hr⟩ := of_guard1 hr
   repeat refine gA ?_
   refine S1.gx [8] ?_
   repeat refine gA ?_
   refine S1.sees [1, 2, 6, 16, 17, 18] [(100002, 100002), (3, 3), (6, 6), (7, 7), (8, 8)] [(31, 2000700)] ?_ hr
   exact lf
  ·have hr := ifN1 hr hc
   repeat refine gA ?_
   have hr := of_out0 hr
   repeat refine gA ?_
   refine S.gx [4] ?_
   repeat refine gA ?_
   cases hr
   exact lf
theorem f35 : FnFact Tryz.prog 35 T35.sp := ⟨⟨Tryz.f35, Tryz.func35, by decide, rfl⟩, v35⟩
end

/- martensite/field.WattsIn -/
def r16 (x0 : Int) (x1 : List (Int × Int × Int)) (x2 : Int) (x3 : List (Bool)) (a2 : Int) : Option ((List (Int)) × Int) :=
  (r31 x0 x1 x2 x3).bind fun v1 =>
   (r34 a2).bind fun v2 =>
    (r33 [v1.2.2, v2]).bind fun v3 =>
     if (v3 != 0) = true then
      some ([], v3)
      else (r35 v1.1 v1.2.1 a2).bind fun v4 =>
       some (v4, 0)
def T16 : TSpec qA12 := mkT qE12 qd12 (fun ⟨x0, x1, x2, x3, a2⟩ => r16 x0 x1 x2 x3 a2) qu11 false
theorem TP16 (c0 c1 c2 c3 c4 : D) : T16.sp.pre [.agg [c0, c1], .agg [c2, c3], .c c4] = (eqvArgs (qt12 c0 c1 c2 c3 c4) (qp12 qw12 c0 c1 c2 c3 c4) ∧ (qp12 r16 c0 c1 c2 c3 c4).isSome = true) := (rfl)
theorem TR16 (c0 c1 c2 c3 c4 : D) : T16.sp.res [.agg [c0, c1], .agg [c2, c3], .c c4] = qu11 ((qp12 r16 c0 c1 c2 c3 c4).getD default) := (rfl)
theorem TA16 : T16.sp.alias = false := (rfl)
def tb16 : Fns := lk [(31, T31.sp), (33, T33.sp), (34, T34.sp), (35, T35.sp)]
theorem tb16_ok : FnsOk Tryz.prog tb16 := .cons f31 (.cons f33 (.cons f34 (.cons f35 (FnsOk.nil))))
theorem tb16_31 : tb16 31 = some T31.sp := rfl
theorem tb16_33 : tb16 33 = some T33.sp := rfl
theorem tb16_34 : tb16 34 = some T34.sp := rfl
theorem tb16_35 : tb16 35 = some T35.sp := rfl
attribute [go_sem] TP16 TR16 TA16
section
attribute [local go_sem] T16 tb16_31 tb16_33 tb16_34 tb16_35 Tryz.results16
theorem v16 : Valid Tryz.prog 16 T16.sp := by
 refine valid_t (fn := Tryz.f16) (n := 27) ty_ok tb16_ok Tryz.func16 rfl Tryz.ntmps16 ?_
 rintro ⟨x0, x1, x2, x3, a2⟩ hx
 obtain ⟨r, hr⟩ := oE (show (r16 x0 x1 x2 x3 a2).isSome = true from hx)
 have hres : T16.res (x0, x1, x2, x3, a2) = qu11 r := by simp only [T16, mkT, hr, oG]
 refine ⟨nL rfl, fun stop S => ?_⟩
 rw [hres] at S
 unfold r16 at hr
 refine S.gx [] ?_
 obtain ⟨v1, hv1, hr⟩ := of_bind0 hr
 obtain ⟨v2, hv2, hr⟩ := of_bind0 hr
 obtain ⟨v3, hv3, hr⟩ := of_bind0 hr
 try simp only [hv1, hv2, hv3, Option.getD_some, Option.isSome_some, true_and, and_assoc]
 repeat refine gA ?_
 refine ⟨?_, ?_⟩ <;> intro hc
 ·have hr := ifP hr hc
  repeat refine gA ?_
  cases hr
  exact lf
 ·have hr := ifN hr hc
  obtain ⟨v4, hv4, hr⟩ := of_bind0 hr
  try simp only [hv4, oG, oI, true_and, and_assoc]
  repeat refine gA ?_
  cases hr
  exact lf
theorem f16 : FnFact Tryz.prog 16 T16.sp := ⟨⟨Tryz.f16, Tryz.func16, by decide, rfl⟩, v16⟩
end

/- martensite/field.divisor -/
def b63_2 (s1 : Int × Int) : (Int × Int) → Ctl (Int × Int) (Ctl (Int × Int) (Int)) := fun s2 =>
  if (s2.2 != 0) = true then
   if s2.2 ≠ 0 then
    .next (s2.2, s2.1.tmod s2.2)
    else .out none
   else .out (some (.next (s2.1, IntKind.i64.wrap (s1.2 + 1))))
def b63_1 (a0 : List (Int)) : (Int × Int) → Ctl (Int × Int) (Int) := fun s1 =>
  if (decide (s1.2 < (a0.length : Int))) = true then
   if 0 ≤ s1.2 ∧ s1.2 < (a0.length : Int) then
    (iterC (b63_2 s1) 1000000000 (s1.1, (a0.getD s1.2.toNat default))).getD (.out none)
    else .out none
   else .out (some (if s1.1 < IntKind.i64.wrap (0 - s1.1) then IntKind.i64.wrap (0 - s1.1) else s1.1))
def r63 (a0 : List (Int)) : Option (Int) :=
  iterC (b63_1 a0) 1000000000 (0, 0)
def T63 : TSpec qA3 := mkT qE3 qd3 r63 qu3 false
theorem TP63 (c0 : D) : T63.sp.pre [.c c0] = (eqvArgs (qt3 c0) (qp3 qw3 c0) ∧ (qp3 r63 c0).isSome = true) := (rfl)
theorem TR63 (c0 : D) : T63.sp.res [.c c0] = qu3 ((qp3 r63 c0).getD default) := (rfl)
theorem TA63 : T63.sp.alias = false := (rfl)
def tb63 : Fns := lk []
theorem tb63_ok : FnsOk Tryz.prog tb63 := FnsOk.nil
theorem lt63_0 : (IntKind.i64.wrap (0 + 1)) = 1 := by first | rfl | decide | simp
attribute [go_sem] TP63 TR63 TA63
section
attribute [local go_sem] T63 Tryz.results63 lt63_0
theorem v63 : Valid Tryz.prog 63 T63.sp := by
 refine valid_t (fn := Tryz.f63) (n := 23) ty_ok tb63_ok Tryz.func63 rfl Tryz.ntmps63 ?_
 rintro a0 hx
 obtain ⟨r, hr⟩ := oE (show (r63 a0).isSome = true from hx)
 have hres : T63.res a0 = qu3 r := by simp only [T63, mkT, hr, oG]
 refine ⟨nL rfl, fun stop S => ?_⟩
 rw [hres] at S
 unfold r63 at hr
 refine S.gx [] ?_
 repeat refine gA ?_
 refine S.sees [3, 6, 7, 8] [] [] ?_ (Stop.iter S (fun s1 => ⟨[(3, .c (.d (.int .i64 s1.1))), (6, .c (.d (encF 1 d_I a0))), (7, .c (.d (.int .i64 (a0.length : Int)))), (8, .c (.d (.int .i64 s1.2)))], [], []⟩) (b63_1 a0) (fun q => q = r) hr rfl ?_)
 ·exact lf
 ·intro s1 hr
  unfold b63_1 at hr
  refine S.gx [] ?_
  repeat refine gA ?_
  refine ⟨?_, ?_⟩ <;> intro hc
  ·have hr := ifP1 hr hc
   obtain ⟨hg2, hr⟩ := of_guard1 hr
   repeat refine gA ?_
   obtain ⟨q2, hq, hr⟩ := of_iter1 hr
   refine S.sees [3, 5, 6, 7, 8] [] [] ?_ (Stop.iter S (fun s2 => ⟨[(3, .c (.d (.int .i64 s2.1))), (5, .c (.d (.int .i64 s2.2))), (6, .c (.d (encF 1 d_I a0))), (7, .c (.d (.int .i64 (a0.length : Int)))), (8, .c (.d (.int .i64 s1.2)))], [], []⟩) (b63_2 s1) _ hq hr ?_)
   ·exact lf
   ·intro s2 hr
    unfold b63_2 at hr
    refine S.gx [] ?_
    repeat refine gA ?_
    refine ⟨?_, ?_⟩ <;> intro hc
    ·have hr := ifP1 hr hc
     obtain ⟨hg1, hr⟩ := of_guard1 hr
     repeat refine gA ?_
     refine S.sees [3, 5, 6, 7, 8] [] [] ?_ hr
     exact lf
    ·have hr := ifN1 hr hc
     repeat refine gA ?_
     replace hr := goodC_out hr
     repeat refine gA ?_
     refine S.sees [3, 6, 7, 8] [] [] ?_ hr
     exact lf
  ·have hr := ifN1 hr hc
   repeat refine gA ?_
   have hr := of_out0 hr
   repeat refine gA ?_
   cases hr
   exact lf
theorem f63 : FnFact Tryz.prog 63 T63.sp := ⟨⟨Tryz.f63, Tryz.func63, by decide, rfl⟩, v63⟩
end

/- martensite/field.reduced$1 -/
def r64 (x1 : Int) (x2 : Int) (x0 : Int) : Option (Int × Int) :=
  if x0 ≠ 0 then
   if x0 ≠ 0 then
    some (IntKind.i64.wrap (x1.tdiv x0), IntKind.i64.wrap (x2.tdiv x0))
    else none
   else none
def T64 : TSpec qA13 := mkT qE13 qd13 (fun ⟨x1, x2, x0⟩ => r64 x1 x2 x0) qu7 false
theorem TP64 (c0 c1 c2 : D) : T64.sp.pre [.agg [c0, c1], .ptr [c2]] = (eqvArgs (qt13 c0 c1 c2) (qp13 qw13 c0 c1 c2) ∧ (qp13 r64 c0 c1 c2).isSome = true) := (rfl)
theorem TR64 (c0 c1 c2 : D) : T64.sp.res [.agg [c0, c1], .ptr [c2]] = qu7 ((qp13 r64 c0 c1 c2).getD default) := (rfl)
theorem TA64 : T64.sp.alias = false := (rfl)
def tb64 : Fns := lk []
theorem tb64_ok : FnsOk Tryz.prog tb64 := FnsOk.nil
attribute [go_sem] TP64 TR64 TA64
section
attribute [local go_sem] T64 Tryz.results64
theorem v64 : Valid Tryz.prog 64 T64.sp := by
 refine valid_t (fn := Tryz.f64) (n := 13) ty_ok tb64_ok Tryz.func64 rfl Tryz.ntmps64 ?_
 rintro ⟨x1, x2, x0⟩ hx
 obtain ⟨r, hr⟩ := oE (show (r64 x1 x2 x0).isSome = true from hx)
 have hres : T64.res (x1, x2, x0) = qu7 r := by simp only [T64, mkT, hr, oG]
 refine ⟨nL rfl, fun stop S => ?_⟩
 rw [hres] at S
 unfold r64 at hr
 refine S.gx [] ?_
 obtain ⟨hg1, hr⟩ := of_guard0 hr
 obtain ⟨hg2, hr⟩ := of_guard0 hr
 repeat refine gA ?_
 cases hr
 exact lf
theorem f64 : FnFact Tryz.prog 64 T64.sp := ⟨⟨Tryz.f64, Tryz.func64, by decide, rfl⟩, v64⟩
end

/- martensite/field.reduced -/
def r36 (x1 : Int) (x2 : Int) (x0 : Int) (x3 : Int) : Option (Int × Int × Int × Int) :=
  if ((x1 == 0) && (x2 == 0)) = true then
   some (0, 0, 1, 0)
   else (r63 [x1, x2, x0, x3]).bind fun v1 =>
    if ((decide (x0 < 0)) || ((x0 == 0) && (decide (x3 < 0)))) = true then
     (r64 x1 x2 (IntKind.i64.wrap (0 - v1))).bind fun v2 =>
      (r64 x0 x3 (IntKind.i64.wrap (0 - v1))).bind fun v3 =>
       some (v2.1, v2.2, v3.1, v3.2)
     else (r64 x1 x2 v1).bind fun v4 =>
      (r64 x0 x3 v1).bind fun v5 =>
       some (v4.1, v4.2, v5.1, v5.2)
def T36 : TSpec qA8 := mkT qE8 qd8 (fun ⟨x1, x2, x0, x3⟩ => r36 x1 x2 x0 x3) qu13 false
theorem TP36 (c0 c1 c2 c3 : D) : T36.sp.pre [.agg [c0, c1], .agg [c2, c3]] = (eqvArgs (qt8 c0 c1 c2 c3) (qp8 qw8 c0 c1 c2 c3) ∧ (qp8 r36 c0 c1 c2 c3).isSome = true) := (rfl)
theorem TR36 (c0 c1 c2 c3 : D) : T36.sp.res [.agg [c0, c1], .agg [c2, c3]] = qu13 ((qp8 r36 c0 c1 c2 c3).getD default) := (rfl)
theorem TA36 : T36.sp.alias = false := (rfl)
def tb36 : Fns := lk [(63, T63.sp), (64, T64.sp)]
theorem tb36_ok : FnsOk Tryz.prog tb36 := .cons f63 (.cons f64 (FnsOk.nil))
theorem tb36_63 : tb36 63 = some T63.sp := rfl
theorem tb36_64 : tb36 64 = some T64.sp := rfl
attribute [go_sem] TP36 TR36 TA36
section
attribute [local go_sem] T36 tb36_63 tb36_64 Tryz.results36
theorem v36 : Valid Tryz.prog 36 T36.sp := by
 refine valid_t (fn := Tryz.f36) (n := 45) ty_ok tb36_ok Tryz.func36 rfl Tryz.ntmps36 ?_
 rintro ⟨x1, x2, x0, x3⟩ hx
 obtain ⟨r, hr⟩ := oE (show (r36 x1 x2 x0 x3).isSome = true from hx)
 have hres : T36.res (x1, x2, x0, x3) = qu13 r := by simp only [T36, mkT, hr, oG]
 refine ⟨nL rfl, fun stop S => ?_⟩
 rw [hres] at S
 unfold r36 at hr
 refine S.gx [] ?_
 repeat refine gA ?_
 refine ⟨?_, ?_⟩ <;> intro hc
 ·have hr := ifP hr hc
  repeat refine gA ?_
  cases hr
  exact lf
 ·have hr := ifN hr hc
  obtain ⟨v1, hv1, hr⟩ := of_bind0 hr
  try simp only [hv1, oG, oI, true_and, and_assoc]
  repeat (first | refine gA ?_ | refine gB ?_)
  refine ⟨?_, ?_⟩ <;> intro hc
  ·have hr := ifP hr hc
   obtain ⟨v2, hv2, hr⟩ := of_bind0 hr
   obtain ⟨v3, hv3, hr⟩ := of_bind0 hr
   try simp only [hv2, hv3, Option.getD_some, Option.isSome_some, true_and, and_assoc]
   repeat refine gA ?_
   cases hr
   exact lf
  ·have hr := ifN hr hc
   obtain ⟨v4, hv4, hr⟩ := of_bind0 hr
   obtain ⟨v5, hv5, hr⟩ := of_bind0 hr
   try simp only [hv4, hv5, Option.getD_some, Option.isSome_some, true_and, and_assoc]
   repeat refine gA ?_
   cases hr
   exact lf
theorem f36 : FnFact Tryz.prog 36 T36.sp := ⟨⟨Tryz.f36, Tryz.func36, by decide, rfl⟩, v36⟩
end

/- martensite/field.ImpedanceOf -/
def r17 (x0 : Int) (x1 : List (Int × Int × Int)) (x2 : Int) (x3 : List (Bool)) : Option (Int × Int × Int × Int × Int) :=
  (r31 x0 x1 x2 x3).bind fun v1 =>
   if (v1.2.2 != 0) = true then
    some (0, 0, 0, 0, v1.2.2)
    else (r32 v1.1 v1.2.1).bind fun v2 =>
     if 0 ≤ 0 ∧ 0 < (v2.1.length : Int) then
      (r37 ((v2.1.getD 0 default).1) ((v2.1.getD 0 default).2) (IntKind.i64.wrap (x0 * x0))).bind fun v3 =>
       if 0 ≤ 0 ∧ 0 < (v2.2.length : Int) then
        (r36 v3.1 v3.2 ((v2.2.getD 0 default).1) ((v2.2.getD 0 default).2)).bind fun v4 =>
         some (v4.1, v4.2.1, v4.2.2.1, v4.2.2.2, 0)
        else none
      else none
def T17 : TSpec qA6 := mkT qE6 qd6 (fun ⟨x0, x1, x2, x3⟩ => r17 x0 x1 x2 x3) qu14 false
theorem TP17 (c0 c1 c2 c3 : D) : T17.sp.pre [.agg [c0, c1], .agg [c2, c3]] = (eqvArgs (qt6 c0 c1 c2 c3) (qp6 qw6 c0 c1 c2 c3) ∧ (qp6 r17 c0 c1 c2 c3).isSome = true) := (rfl)
theorem TR17 (c0 c1 c2 c3 : D) : T17.sp.res [.agg [c0, c1], .agg [c2, c3]] = qu14 ((qp6 r17 c0 c1 c2 c3).getD default) := (rfl)
theorem TA17 : T17.sp.alias = false := (rfl)
def tb17 : Fns := lk [(31, T31.sp), (32, T32.sp), (36, T36.sp), (37, T37.sp)]
theorem tb17_ok : FnsOk Tryz.prog tb17 := .cons f31 (.cons f32 (.cons f36 (.cons f37 (FnsOk.nil))))
theorem tb17_31 : tb17 31 = some T31.sp := rfl
theorem tb17_32 : tb17 32 = some T32.sp := rfl
theorem tb17_36 : tb17 36 = some T36.sp := rfl
theorem tb17_37 : tb17 37 = some T37.sp := rfl
attribute [go_sem] TP17 TR17 TA17
section
attribute [local go_sem] T17 tb17_31 tb17_32 tb17_36 tb17_37 Tryz.results17
theorem v17 : Valid Tryz.prog 17 T17.sp := by
 refine valid_t (fn := Tryz.f17) (n := 38) ty_ok tb17_ok Tryz.func17 rfl Tryz.ntmps17 ?_
 rintro ⟨x0, x1, x2, x3⟩ hx
 obtain ⟨r, hr⟩ := oE (show (r17 x0 x1 x2 x3).isSome = true from hx)
 have hres : T17.res (x0, x1, x2, x3) = qu14 r := by simp only [T17, mkT, hr, oG]
 refine ⟨nL rfl, fun stop S => ?_⟩
 rw [hres] at S
 unfold r17 at hr
 refine S.gx [] ?_
 obtain ⟨v1, hv1, hr⟩ := of_bind0 hr
 try simp only [hv1, oG, oI, true_and, and_assoc]
 repeat refine gA ?_
 refine ⟨?_, ?_⟩ <;> intro hc
 ·have hr := ifP hr hc
  repeat refine gA ?_
  cases hr
  exact lf
 ·have hr := ifN hr hc
  obtain ⟨v2, hv2, hr⟩ := of_bind0 hr
  obtain ⟨hg5, hr⟩ := of_guard0 hr
  obtain ⟨v3, hv3, hr⟩ := of_bind0 hr
  obtain ⟨hg6, hr⟩ := of_guard0 hr
  obtain ⟨v4, hv4, hr⟩ := of_bind0 hr
  try simp only [hv2, hv3, hv4, Option.getD_some, Option.isSome_some, true_and, and_assoc]
  repeat refine gA ?_
  cases hr
  exact lf
theorem f17 : FnFact Tryz.prog 17 T17.sp := ⟨⟨Tryz.f17, Tryz.func17, by decide, rfl⟩, v17⟩
end

/- martensite/field.shellErr -/
def r38 (x1 : Int) (x0 : List (Int × Int × Int)) (a1 : Int) : Option (Int) :=
  (r44 a1 0 (IntKind.i64.wrap ((x0.length : Int) - 1))).bind fun v1 =>
   (r42 v1 6).bind fun v2 =>
    some v2
def T38 : TSpec qA14 := mkT qE14 qd14 (fun ⟨x1, x0, a1⟩ => r38 x1 x0 a1) qu3 false
theorem TP38 (c0 c1 c2 : D) : T38.sp.pre [.agg [c0, c1], .c c2] = (eqvArgs (qt14 c0 c1 c2) (qp14 qw14 c0 c1 c2) ∧ (qp14 r38 c0 c1 c2).isSome = true) := (rfl)
theorem TR38 (c0 c1 c2 : D) : T38.sp.res [.agg [c0, c1], .c c2] = qu3 ((qp14 r38 c0 c1 c2).getD default) := (rfl)
theorem TA38 : T38.sp.alias = false := (rfl)
def tb38 : Fns := lk [(42, T42.sp), (44, T44.sp)]
theorem tb38_ok : FnsOk Tryz.prog tb38 := .cons f42 (.cons f44 (FnsOk.nil))
theorem tb38_42 : tb38 42 = some T42.sp := rfl
theorem tb38_44 : tb38 44 = some T44.sp := rfl
attribute [go_sem] TP38 TR38 TA38
section
attribute [local go_sem] T38 tb38_42 tb38_44 Tryz.results38
theorem v38 : Valid Tryz.prog 38 T38.sp := by
 refine valid_t (fn := Tryz.f38) (n := 12) ty_ok tb38_ok Tryz.func38 rfl Tryz.ntmps38 ?_
 rintro ⟨x1, x0, a1⟩ hx
 obtain ⟨r, hr⟩ := oE (show (r38 x1 x0 a1).isSome = true from hx)
 have hres : T38.res (x1, x0, a1) = qu3 r := by simp only [T38, mkT, hr, oG]
 refine ⟨nL rfl, fun stop S => ?_⟩
 rw [hres] at S
 unfold r38 at hr
 refine S.gx [] ?_
 obtain ⟨v1, hv1, hr⟩ := of_bind0 hr
 obtain ⟨v2, hv2, hr⟩ := of_bind0 hr
 try simp only [hv1, hv2, Option.getD_some, Option.isSome_some, true_and, and_assoc]
 repeat refine gA ?_
 cases hr
 exact lf
theorem f38 : FnFact Tryz.prog 38 T38.sp := ⟨⟨Tryz.f38, Tryz.func38, by decide, rfl⟩, v38⟩
end

/- martensite/field.times -/
def r41 (x0 : Int) (x1 : Int) (x2 : Int) (x3 : Int) : Option (Int × Int) :=
  some (IntKind.i64.wrap ((IntKind.i64.wrap (x0 * x2)) - (IntKind.i64.wrap (x1 * x3))), IntKind.i64.wrap ((IntKind.i64.wrap (x0 * x3)) + (IntKind.i64.wrap (x1 * x2))))
def T41 : TSpec qA8 := mkT qE8 qd8 (fun ⟨x0, x1, x2, x3⟩ => r41 x0 x1 x2 x3) qu7 false
theorem TP41 (c0 c1 c2 c3 : D) : T41.sp.pre [.agg [c0, c1], .agg [c2, c3]] = (eqvArgs (qt8 c0 c1 c2 c3) (qp8 qw8 c0 c1 c2 c3) ∧ (qp8 r41 c0 c1 c2 c3).isSome = true) := (rfl)
theorem TR41 (c0 c1 c2 c3 : D) : T41.sp.res [.agg [c0, c1], .agg [c2, c3]] = qu7 ((qp8 r41 c0 c1 c2 c3).getD default) := (rfl)
theorem TA41 : T41.sp.alias = false := (rfl)
def tb41 : Fns := lk []
theorem tb41_ok : FnsOk Tryz.prog tb41 := FnsOk.nil
attribute [go_sem] TP41 TR41 TA41
section
attribute [local go_sem] T41 Tryz.results41
theorem v41 : Valid Tryz.prog 41 T41.sp := by
 refine valid_t (fn := Tryz.f41) (n := 28) ty_ok tb41_ok Tryz.func41 rfl Tryz.ntmps41 ?_
 rintro ⟨x0, x1, x2, x3⟩ hx
 obtain ⟨r, hr⟩ := oE (show (r41 x0 x1 x2 x3).isSome = true from hx)
 have hres : T41.res (x0, x1, x2, x3) = qu7 r := by simp only [T41, mkT, hr, oG]
 refine ⟨nL rfl, fun stop S => ?_⟩
 rw [hres] at S
 unfold r41 at hr
 refine S.gx [] ?_
 repeat refine gA ?_
 cases hr
 exact lf
theorem f41 : FnFact Tryz.prog 41 T41.sp := ⟨⟨Tryz.f41, Tryz.func41, by decide, rfl⟩, v41⟩
end

/- martensite/field.TransferOf -/
def b18_1 (x0 : Int) (x1 : Int) (v1 : (List (Int)) × (List (Int)) × Int) : (Int × Int × Int × Int × Int) → Ctl (Int × Int × Int × Int × Int) (Int × Int × Int × Int × Int) := fun s1 =>
  if (decide (s1.1 < (IntKind.i64.wrap ((if x1 < x0 then x1 else x0) + 1)))) = true then
   if 0 ≤ s1.1 ∧ s1.1 < (v1.2.1.length : Int) then
    bindC (r40 s1.2.2.2.1 s1.2.2.2.2 (IntKind.i64.wrap (0 - (v1.2.1.getD s1.1.toNat default)))) fun v5 =>
     bindC (r39 s1.2.1 s1.2.2.1 v5.1 v5.2) fun v6 =>
      if (decide (s1.1 < (if x1 < x0 then x1 else x0))) = true then
       if 0 ≤ s1.1 ∧ s1.1 < (v1.1.length : Int) then
        bindC (r37 v6.1 v6.2 (IntKind.i64.wrap (0 - (v1.1.getD s1.1.toNat default)))) fun v7 =>
         bindC (r39 s1.2.2.2.1 s1.2.2.2.2 v7.1 v7.2) fun v8 =>
          .next (IntKind.i64.wrap (s1.1 + 1), v6.1, v6.2, v8.1, v8.2)
        else .out none
       else .next (IntKind.i64.wrap (s1.1 + 1), v6.1, v6.2, s1.2.2.2.1, s1.2.2.2.2)
    else .out none
   else .out ((r32 v1.1 v1.2.1).bind fun v11 =>
    if 0 ≤ IntKind.i64.wrap ((if x0 < x1 then x1 else x0) + 1) ∧ IntKind.i64.wrap ((if x0 < x1 then x1 else x0) + 1) < (v11.1.length : Int) then
     (r41 s1.2.1 s1.2.2.1 ((v11.1.getD (IntKind.i64.wrap ((if x0 < x1 then x1 else x0) + 1)).toNat default).1) ((v11.1.getD (IntKind.i64.wrap ((if x0 < x1 then x1 else x0) + 1)).toNat default).2)).bind fun v12 =>
      (r37 v12.1 v12.2 (-1)).bind fun v13 =>
       if 0 ≤ 0 ∧ 0 < (v11.1.length : Int) then
        (r36 v13.1 v13.2 ((v11.1.getD 0 default).1) ((v11.1.getD 0 default).2)).bind fun v14 =>
         some (v14.1, v14.2.1, v14.2.2.1, v14.2.2.2, 0)
        else none
     else none)
def r18 (x2 : Int) (x3 : List (Int × Int × Int)) (x4 : Int) (x5 : List (Bool)) (x0 : Int) (x1 : Int) : Option (Int × Int × Int × Int × Int) :=
  (r31 x2 x3 x4 x5).bind fun v1 =>
   (r38 x2 x3 x0).bind fun v2 =>
    (r38 x2 x3 x1).bind fun v3 =>
     (r33 [v1.2.2, v2, v3]).bind fun v4 =>
      if (v4 != 0) = true then
       some (0, 0, 0, 0, v4)
       else iterC (b18_1 x0 x1 v1) 1000000000 (0, 0, 0, 1, 0)
def T18 : TSpec qA15 := mkT qE15 qd15 (fun ⟨x2, x3, x4, x5, x0, x1⟩ => r18 x2 x3 x4 x5 x0 x1) qu14 false
theorem TP18 (c0 c1 c2 c3 c4 c5 : D) : T18.sp.pre [.agg [c0, c1], .agg [c2, c3], .agg [c4, c5]] = (eqvArgs (qt15 c0 c1 c2 c3 c4 c5) (qp15 qw15 c0 c1 c2 c3 c4 c5) ∧ (qp15 r18 c0 c1 c2 c3 c4 c5).isSome = true) := (rfl)
theorem TR18 (c0 c1 c2 c3 c4 c5 : D) : T18.sp.res [.agg [c0, c1], .agg [c2, c3], .agg [c4, c5]] = qu14 ((qp15 r18 c0 c1 c2 c3 c4 c5).getD default) := (rfl)
theorem TA18 : T18.sp.alias = false := (rfl)
def tb18 : Fns := lk [(31, T31.sp), (32, T32.sp), (33, T33.sp), (36, T36.sp), (37, T37.sp), (38, T38.sp), (39, T39.sp), (40, T40.sp), (41, T41.sp)]
theorem tb18_ok : FnsOk Tryz.prog tb18 := .cons f31 (.cons f32 (.cons f33 (.cons f36 (.cons f37 (.cons f38 (.cons f39 (.cons f40 (.cons f41 (FnsOk.nil)))))))))
theorem tb18_31 : tb18 31 = some T31.sp := rfl
theorem tb18_32 : tb18 32 = some T32.sp := rfl
theorem tb18_33 : tb18 33 = some T33.sp := rfl
theorem tb18_36 : tb18 36 = some T36.sp := rfl
theorem tb18_37 : tb18 37 = some T37.sp := rfl
theorem tb18_38 : tb18 38 = some T38.sp := rfl
theorem tb18_39 : tb18 39 = some T39.sp := rfl
theorem tb18_40 : tb18 40 = some T40.sp := rfl
theorem tb18_41 : tb18 41 = some T41.sp := rfl
theorem lt18_0 : (IntKind.i64.wrap (0 + 1)) = 1 := by first | rfl | decide | simp
attribute [go_sem] TP18 TR18 TA18
section
attribute [local go_sem] T18 tb18_31 tb18_32 tb18_33 tb18_36 tb18_37 tb18_38 tb18_39 tb18_40 tb18_41 Tryz.results18 lt18_0
theorem v18 : Valid Tryz.prog 18 T18.sp := by
 refine valid_t (fn := Tryz.f18) (n := 95) ty_ok tb18_ok Tryz.func18 rfl Tryz.ntmps18 ?_
 rintro ⟨x2, x3, x4, x5, x0, x1⟩ hx
 obtain ⟨r, hr⟩ := oE (show (r18 x2 x3 x4 x5 x0 x1).isSome = true from hx)
 have hres : T18.res (x2, x3, x4, x5, x0, x1) = qu14 r := by simp only [T18, mkT, hr, oG]
 refine ⟨nL rfl, fun stop S => ?_⟩
 rw [hres] at S
 unfold r18 at hr
 refine S.gx [] ?_
 obtain ⟨v1, hv1, hr⟩ := of_bind0 hr
 obtain ⟨v2, hv2, hr⟩ := of_bind0 hr
 obtain ⟨v3, hv3, hr⟩ := of_bind0 hr
 obtain ⟨v4, hv4, hr⟩ := of_bind0 hr
 try simp only [hv1, hv2, hv3, hv4, Option.getD_some, Option.isSome_some, true_and, and_assoc]
 repeat refine gA ?_
 refine ⟨?_, ?_⟩ <;> intro hc
 ·have hr := ifP hr hc
  repeat refine gA ?_
  cases hr
  exact lf
 ·have hr := ifN hr hc
  repeat refine gA ?_
  refine S.sees [6, 8, 10, 11, 12, 13, 50, 51] [(6, 6), (8, 8), (12, 12), (13, 13)] [(20, 20), (10020, 10020)] ?_ (Stop.iter S (fun s1 => ⟨[(6, .c (.ref 6 0)), (8, .c (.ref 8 0)), (10, .c (.d (.int .i64 (if x1 < x0 then x1 else x0)))), (11, .c (.d (.int .i64 (if x0 < x1 then x1 else x0)))), (12, .c (.ref 12 0)), (13, .c (.ref 13 0)), (50, .c (.d (.int .i64 (IntKind.i64.wrap ((if x1 < x0 then x1 else x0) + 1))))), (51, .c (.d (.int .i64 s1.1)))], [(6, [.d (.int .i64 0), .d (.int .i64 0), .d (.int .i64 0), .d (.int .i64 0)]), (8, [.own 20, .own 10020]), (12, [.d (.int .i64 s1.2.1), .d (.int .i64 s1.2.2.1)]), (13, [.d (.int .i64 s1.2.2.2.1), .d (.int .i64 s1.2.2.2.2)])], [(20, .owned (encF 1 d_I v1.1)), (10020, .owned (encF 1 d_I v1.2.1))]⟩) (b18_1 x0 x1 v1) (fun q => q = r) hr rfl ?_)
  ·exact lf
  ·intro s1 hr
   unfold b18_1 at hr
   refine S.gx [] ?_
   repeat refine gA ?_
   refine ⟨?_, ?_⟩ <;> intro hc
   ·have hr := ifP1 hr hc
    obtain ⟨hg10, hr⟩ := of_guard1 hr
    obtain ⟨v5, hv5, hr⟩ := of_bind1 hr
    obtain ⟨v6, hv6, hr⟩ := of_bind1 hr
    try simp only [hv5, hv6, Option.getD_some, Option.isSome_some, true_and, and_assoc]
    repeat refine gA ?_
    refine ⟨?_, ?_⟩ <;> intro hc
    ·have hr := ifP1 hr hc
     obtain ⟨hg9, hr⟩ := of_guard1 hr
     obtain ⟨v7, hv7, hr⟩ := of_bind1 hr
     obtain ⟨v8, hv8, hr⟩ := of_bind1 hr
     try simp only [hv7, hv8, Option.getD_some, Option.isSome_some, true_and, and_assoc]
     repeat refine gA ?_
     refine S.sees [6, 8, 10, 11, 12, 13, 50, 51] [(6, 6), (8, 8), (12, 12), (13, 13)] [(20, 20), (10020, 10020)] ?_ hr
     exact lf
    ·have hr := ifN1 hr hc
     repeat refine gA ?_
     refine S.sees [6, 8, 10, 11, 12, 13, 50, 51] [(6, 6), (8, 8), (12, 12), (13, 13)] [(20, 20), (10020, 10020)] ?_ hr
     exact lf
   ·have hr := ifN1 hr hc
    repeat refine gA ?_
    have hr := of_out0 hr
    obtain ⟨v11, hv11, hr⟩ := of_bind0 hr
    obtain ⟨hg15, hr⟩ := of_guard0 hr
    obtain ⟨v12, hv12, hr⟩ := of_bind0 hr
    obtain ⟨v13, hv13, hr⟩ := of_bind0 hr
    obtain ⟨hg16, hr⟩ := of_guard0 hr
    obtain ⟨v14, hv14, hr⟩ := of_bind0 hr
    try simp only [hv11, hv12, hv13, hv14, Option.getD_some, Option.isSome_some, true_and, and_assoc]
    repeat refine gA ?_
    cases hr
    exact lf
theorem f18 : FnFact Tryz.prog 18 T18.sp := ⟨⟨Tryz.f18, Tryz.func18, by decide, rfl⟩, v18⟩
end

/- martensite/field.percentErr -/
def r43 (a0 : Int) : Option (Int) :=
  (r44 a0 1 100).bind fun v1 =>
   (r42 v1 2).bind fun v2 =>
    some v2
def T43 : TSpec qA4 := mkT qE4 qd4 r43 qu3 false
theorem TP43 (c0 : D) : T43.sp.pre [.c c0] = (eqvArgs (qt4 c0) (qp4 qw4 c0) ∧ (qp4 r43 c0).isSome = true) := (rfl)
theorem TR43 (c0 : D) : T43.sp.res [.c c0] = qu3 ((qp4 r43 c0).getD default) := (rfl)
theorem TA43 : T43.sp.alias = false := (rfl)
def tb43 : Fns := lk [(42, T42.sp), (44, T44.sp)]
theorem tb43_ok : FnsOk Tryz.prog tb43 := .cons f42 (.cons f44 (FnsOk.nil))
theorem tb43_42 : tb43 42 = some T42.sp := rfl
theorem tb43_44 : tb43 44 = some T44.sp := rfl
attribute [go_sem] TP43 TR43 TA43
section
attribute [local go_sem] T43 tb43_42 tb43_44 Tryz.results43
theorem v43 : Valid Tryz.prog 43 T43.sp := by
 refine valid_t (fn := Tryz.f43) (n := 6) ty_ok tb43_ok Tryz.func43 rfl Tryz.ntmps43 ?_
 rintro a0 hx
 obtain ⟨r, hr⟩ := oE (show (r43 a0).isSome = true from hx)
 have hres : T43.res a0 = qu3 r := by simp only [T43, mkT, hr, oG]
 refine ⟨nL rfl, fun stop S => ?_⟩
 rw [hres] at S
 unfold r43 at hr
 refine S.gx [] ?_
 obtain ⟨v1, hv1, hr⟩ := of_bind0 hr
 obtain ⟨v2, hv2, hr⟩ := of_bind0 hr
 try simp only [hv1, hv2, Option.getD_some, Option.isSome_some, true_and, and_assoc]
 repeat refine gA ?_
 cases hr
 exact lf
theorem f43 : FnFact Tryz.prog 43 T43.sp := ⟨⟨Tryz.f43, Tryz.func43, by decide, rfl⟩, v43⟩
end

/- (martensite/field.ladder).depth -/
def b46_1 (x0 : List (Int)) (a1 : Int) (v1 : (List (Int)) × Int) (v2 : (List (Int × Int)) × (List (Int × Int))) : (Int × Int × Int) → Ctl (Int × Int × Int) (Int) := fun s1 =>
  if (decide (s1.2.1 < (((v2.1.length - 1) : Nat) : Int))) = true then
   if 0 ≤ s1.2.1 ∧ s1.2.1 < ((((v2.1.drop 1).take (v2.1.length - 1)).length : Nat) : Int) then
    if 0 ≤ s1.2.1 ∧ s1.2.1 < (x0.length : Int) then
     if (decide ((IntKind.i64.wrap (100 * (IntKind.i64.wrap (s1.1 + (IntKind.i64.wrap ((x0.getD s1.2.1.toNat default) * (IntKind.i64.wrap ((IntKind.i64.wrap (((((v2.1.drop 1).take (v2.1.length - 1)).getD s1.2.1.toNat default).1) * ((((v2.1.drop 1).take (v2.1.length - 1)).getD s1.2.1.toNat default).1))) + (IntKind.i64.wrap (((((v2.1.drop 1).take (v2.1.length - 1)).getD s1.2.1.toNat default).2) * ((((v2.1.drop 1).take (v2.1.length - 1)).getD s1.2.1.toNat default).2))))))))))) ≥ (IntKind.i64.wrap (a1 * v1.2)))) = true then
      .out (some (IntKind.i64.wrap (s1.2.2 + 1)))
      else .next (IntKind.i64.wrap (s1.1 + (IntKind.i64.wrap ((x0.getD s1.2.1.toNat default) * (IntKind.i64.wrap ((IntKind.i64.wrap (((((v2.1.drop 1).take (v2.1.length - 1)).getD s1.2.1.toNat default).1) * ((((v2.1.drop 1).take (v2.1.length - 1)).getD s1.2.1.toNat default).1))) + (IntKind.i64.wrap (((((v2.1.drop 1).take (v2.1.length - 1)).getD s1.2.1.toNat default).2) * ((((v2.1.drop 1).take (v2.1.length - 1)).getD s1.2.1.toNat default).2)))))))), IntKind.i64.wrap (s1.2.1 + 1), IntKind.i64.wrap (s1.2.2 + 1))
     else .out none
    else .out none
   else .out (some s1.2.2)
def r46 (x0 : List (Int)) (x1 : List (Int)) (a1 : Int) : Option (Int) :=
  (r61 x0 x1).bind fun v1 =>
   (r32 x0 x1).bind fun v2 =>
    if 0 ≤ 1 ∧ 1 ≤ (v2.1.length : Int) ∧ (v2.1.length : Int) ≤ (v2.1.length : Int) then
     iterC (b46_1 x0 a1 v1 v2) 1000000000 (0, 0, 0)
     else none
def T46 : TSpec qA11 := mkT qE11 qd11 (fun ⟨x0, x1, a1⟩ => r46 x0 x1 a1) qu3 false
theorem TP46 (c0 c1 c2 : D) : T46.sp.pre [.agg [c0, c1], .c c2] = (eqvArgs (qt11 c0 c1 c2) (qp11 qw11 c0 c1 c2) ∧ (qp11 r46 c0 c1 c2).isSome = true) := (rfl)
theorem TR46 (c0 c1 c2 : D) : T46.sp.res [.agg [c0, c1], .c c2] = qu3 ((qp11 r46 c0 c1 c2).getD default) := (rfl)
theorem TA46 : T46.sp.alias = false := (rfl)
def tb46 : Fns := lk [(32, T32.sp), (61, T61.sp)]
theorem tb46_ok : FnsOk Tryz.prog tb46 := .cons f32 (.cons f61 (FnsOk.nil))
theorem tb46_32 : tb46 32 = some T32.sp := rfl
theorem tb46_61 : tb46 61 = some T61.sp := rfl
theorem lt46_0 : (IntKind.i64.wrap (0 + 1)) = 1 := by first | rfl | decide | simp
attribute [go_sem] TP46 TR46 TA46
section
attribute [local go_sem] T46 tb46_32 tb46_61 Tryz.results46 Tryz.results62 lt46_0
theorem v46 : Valid Tryz.prog 46 T46.sp := by
 refine valid_t (fn := Tryz.f46) (n := 28) ty_ok tb46_ok Tryz.func46 rfl Tryz.ntmps46 ?_
 rintro ⟨x0, x1, a1⟩ hx
 obtain ⟨r, hr⟩ := oE (show (r46 x0 x1 a1).isSome = true from hx)
 have hres : T46.res (x0, x1, a1) = qu3 r := by simp only [T46, mkT, hr, oG]
 refine ⟨nL rfl, fun stop S => ?_⟩
 rw [hres] at S
 unfold r46 at hr
 refine S.gx [3] ?_
 obtain ⟨v1, hv1, hr⟩ := of_bind0 hr
 try simp only [hv1, oG, oI, true_and, and_assoc]
 repeat refine gA ?_
 refine S.bound 1 15 16 rfl rfl rfl rfl (nL rfl) ?_
 refine gs ?_
 repeat refine gA ?_
 refine S.gx [3] ?_
 repeat refine gA ?_
 refine S.range [3, 6, 7] Tryz.func62 (by decide) rfl Tryz.ntmps62 Tryz.results62 (fun cx e => drawn_ok ty_ok tb46_ok cx e) (fun cx e => drawn_ok ty_ok tb46_ok cx e) (by decide) rfl rfl (nL rfl) ?_
 intro l1 stop1 stopJ1 S1 SJ1 Y1
 refine S1.gx [8] ?_
 obtain ⟨v2, hv2, hr⟩ := of_bind0 hr
 obtain ⟨hg5, hr⟩ := of_guard0 hr
 have hi6 : Nonempty (PLift (v2.1.length ≤ v2.1.length)) := ⟨⟨by omega⟩⟩
 try simp only [decF_subE0]
 try simp only [decF_subE, dec_I, dec_III, dec_LIIIE, dec_B, dec_LBE, dec_LIE, dec_II, dec_LIIE, hv2, Option.getD_some, Option.isSome_some, true_and, and_assoc]
 repeat refine gA ?_
 refine S1.sees [1, 2, 6, 16, 17, 18] [(100002, 100002), (3, 3), (6, 6), (7, 7)] [] ?_ (Stop.iter S1 (fun s1 => ⟨[(1, .c (.yld l1)), (2, .c (.ref 100002 0)), (6, .c (.d (.int .i64 s1.1))), (16, .c (.d (encF 2 d_II ((v2.1.drop 1).take (v2.1.length - 1))))), (17, .c (.d (.int .i64 (((v2.1.length - 1) : Nat) : Int)))), (18, .c (.d (.int .i64 s1.2.1)))], [(100002, [.d (encF 1 d_I x0), .d (encF 1 d_I x1)]), (3, [.d (.int .i64 a1)]), (6, [.d (.int .i64 v1.2)]), (7, [.d (.int .i64 s1.2.2)])], []⟩) (b46_1 x0 a1 v1 v2) (fun q => q = r) hr rfl ?_)
 ·exact lf
 ·intro s1 hr
  unfold b46_1 at hr
  refine S1.gx [8] ?_
  repeat refine gA ?_
  refine ⟨?_, ?_⟩ <;> intro hc
  ·have hr := ifP1 hr hc
   obtain ⟨hg3, hr⟩ := of_guard1 hr
   obtain ⟨hg4, hr⟩ := of_guard1 hr
   repeat refine gA ?_
   refine Y1 3 [1, 2, 6, 16, 17, 18] (some 46) rfl rfl rfl rfl (nL rfl) (by rfl) ?_
   refine gs ?_
   repeat refine gA ?_
   intro stopA2 SA2
   refine SA2.gx [] ?_
   repeat refine gA ?_
   intro stop2 S2
   refine S2.gx [3] ?_
   repeat refine gA ?_
   refine ⟨?_, ?_⟩ <;> intro hc
   ·have hr := ifP1 hr hc
    repeat refine gA ?_
    refine (SJ1 (.exit 0)).gx [8] ?_
    repeat refine gA ?_
    have hr := of_out0 hr
    repeat refine gA ?_
    refine S.gx [3] ?_
    repeat refine gA ?_
    cases hr
    exact lf
   ·have hr := ifN1 hr hc
    repeat refine gA ?_
    refine S1.gx [8] ?_
    repeat refine gA ?_
    refine S1.sees [1, 2, 6, 16, 17, 18] [(100002, 100002), (3, 3), (6, 6), (7, 7)] [] ?_ hr
    exact lf
  ·have hr := ifN1 hr hc
   repeat refine gA ?_
   have hr := of_out0 hr
   repeat refine gA ?_
   refine S.gx [3] ?_
   repeat refine gA ?_
   cases hr
   exact lf
theorem f46 : FnFact Tryz.prog 46 T46.sp := ⟨⟨Tryz.f46, Tryz.func46, by decide, rfl⟩, v46⟩
end

/- martensite/field.FrequencyFor -/
def b19_1 (x1 : Int) (x0 : List (Int × Int × Int)) (a1 : List (Bool)) (x2 : Int) (x3 : Int) : (Int) → Ctl (Int) (Int × Int) := fun s1 =>
  if (decide (s1 ≤ 8)) = true then
   bindC (r45 x1 x0 s1 a1) fun v7 =>
    bindC (r46 v7.1 v7.2 x2) fun v8 =>
     if (decide (v8 ≤ x3)) = true then
      .out (some (s1, 0))
      else .next (IntKind.i64.wrap (s1 + 1))
   else .out (some (0, 12))
def r19 (x1 : Int) (x0 : List (Int × Int × Int)) (a1 : List (Bool)) (x2 : Int) (x3 : Int) : Option (Int × Int) :=
  (r26 x1 x0).bind fun v1 =>
   (r42 ((a1.length : Int) == (x0.length : Int)) 10).bind fun v2 =>
    (r43 x2).bind fun v3 =>
     (r44 x3 1 (x0.length : Int)).bind fun v4 =>
      (r42 v4 2).bind fun v5 =>
       (r33 [v1, v2, v3, v5]).bind fun v6 =>
        if (v6 != 0) = true then
         some (0, v6)
         else iterC (b19_1 x1 x0 a1 x2 x3) 1000000000 1
def T19 : TSpec qA16 := mkT qE16 qd16 (fun ⟨x1, x0, a1, x2, x3⟩ => r19 x1 x0 a1 x2 x3) qu4 false
theorem TP19 (c0 c1 c2 c3 c4 : D) : T19.sp.pre [.agg [c0, c1], .c c2, .agg [c3, c4]] = (eqvArgs (qt16 c0 c1 c2 c3 c4) (qp16 qw16 c0 c1 c2 c3 c4) ∧ (qp16 r19 c0 c1 c2 c3 c4).isSome = true) := (rfl)
theorem TR19 (c0 c1 c2 c3 c4 : D) : T19.sp.res [.agg [c0, c1], .c c2, .agg [c3, c4]] = qu4 ((qp16 r19 c0 c1 c2 c3 c4).getD default) := (rfl)
theorem TA19 : T19.sp.alias = false := (rfl)
def tb19 : Fns := lk [(26, T26.sp), (33, T33.sp), (42, T42.sp), (43, T43.sp), (44, T44.sp), (45, T45.sp), (46, T46.sp)]
theorem tb19_ok : FnsOk Tryz.prog tb19 := .cons f26 (.cons f33 (.cons f42 (.cons f43 (.cons f44 (.cons f45 (.cons f46 (FnsOk.nil)))))))
theorem tb19_26 : tb19 26 = some T26.sp := rfl
theorem tb19_33 : tb19 33 = some T33.sp := rfl
theorem tb19_42 : tb19 42 = some T42.sp := rfl
theorem tb19_43 : tb19 43 = some T43.sp := rfl
theorem tb19_44 : tb19 44 = some T44.sp := rfl
theorem tb19_45 : tb19 45 = some T45.sp := rfl
theorem tb19_46 : tb19 46 = some T46.sp := rfl
theorem lt19_0 : (decide ((1 : Int) ≤ 8)) = true := by first | rfl | decide | simp
theorem lt19_1 : (IntKind.i64.wrap (1 + 1)) = 2 := by first | rfl | decide | simp
attribute [go_sem] TP19 TR19 TA19
section
attribute [local go_sem] T19 tb19_26 tb19_33 tb19_42 tb19_43 tb19_44 tb19_45 tb19_46 Tryz.results19 lt19_0 lt19_1
theorem v19 : Valid Tryz.prog 19 T19.sp := by
 refine valid_t (fn := Tryz.f19) (n := 50) ty_ok tb19_ok Tryz.func19 rfl Tryz.ntmps19 ?_
 rintro ⟨x1, x0, a1, x2, x3⟩ hx
 obtain ⟨r, hr⟩ := oE (show (r19 x1 x0 a1 x2 x3).isSome = true from hx)
 have hres : T19.res (x1, x0, a1, x2, x3) = qu4 r := by simp only [T19, mkT, hr, oG]
 refine ⟨nL rfl, fun stop S => ?_⟩
 rw [hres] at S
 unfold r19 at hr
 refine S.gx [] ?_
 obtain ⟨v1, hv1, hr⟩ := of_bind0 hr
 obtain ⟨v2, hv2, hr⟩ := of_bind0 hr
 obtain ⟨v3, hv3, hr⟩ := of_bind0 hr
 obtain ⟨v4, hv4, hr⟩ := of_bind0 hr
 obtain ⟨v5, hv5, hr⟩ := of_bind0 hr
 obtain ⟨v6, hv6, hr⟩ := of_bind0 hr
 try simp only [hv1, hv2, hv3, hv4, hv5, hv6, Option.getD_some, Option.isSome_some, true_and, and_assoc]
 repeat refine gA ?_
 refine ⟨?_, ?_⟩ <;> intro hc
 ·have hr := ifP hr hc
  repeat refine gA ?_
  cases hr
  exact lf
 ·have hr := ifN hr hc
  repeat refine gA ?_
  refine S.sees [1, 3, 5, 9] [(3, 3), (5, 5)] [] ?_ (Stop.iter S (fun s1 => ⟨[(1, .c (.d (encF 1 d_B a1))), (3, .c (.ref 3 0)), (5, .c (.ref 5 0)), (9, .c (.d (.int .i64 s1)))], [(3, [.d (.int .i64 x1), .d (encF 3 d_III x0)]), (5, [.d (.int .i64 x2), .d (.int .i64 x3)])], []⟩) (b19_1 x1 x0 a1 x2 x3) (fun q => q = r) hr rfl ?_)
  ·exact lf
  ·intro s1 hr
   unfold b19_1 at hr
   refine S.gx [] ?_
   repeat refine gA ?_
   refine ⟨?_, ?_⟩ <;> intro hc
   ·have hr := ifP1 hr hc
    obtain ⟨v7, hv7, hr⟩ := of_bind1 hr
    obtain ⟨v8, hv8, hr⟩ := of_bind1 hr
    try simp only [hv7, hv8, Option.getD_some, Option.isSome_some, true_and, and_assoc]
    repeat refine gA ?_
    refine ⟨?_, ?_⟩ <;> intro hc
    ·have hr := ifP1 hr hc
     repeat refine gA ?_
     have hr := of_out0 hr
     cases hr
     exact lf
    ·have hr := ifN1 hr hc
     repeat refine gA ?_
     refine S.sees [1, 3, 5, 9] [(3, 3), (5, 5)] [] ?_ hr
     exact lf
   ·have hr := ifN1 hr hc
    repeat refine gA ?_
    have hr := of_out0 hr
    repeat refine gA ?_
    cases hr
    exact lf
theorem f19 : FnFact Tryz.prog 19 T19.sp := ⟨⟨Tryz.f19, Tryz.func19, by decide, rfl⟩, v19⟩
end
end Go.Proofs.YtkhfaooknmoboaaGreatDoor

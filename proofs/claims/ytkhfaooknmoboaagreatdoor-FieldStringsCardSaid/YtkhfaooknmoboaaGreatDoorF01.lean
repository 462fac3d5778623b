/- Contracts of functions, written by wip/dec. -/
import Derived.Test.YtkhfaooknmoboaaGreatDoorF00
set_option linter.unusedVariables false
set_option linter.unusedSimpArgs false
set_option maxHeartbeats 4000000
set_option maxRecDepth 20000
namespace Go.Proofs.YtkhfaooknmoboaaGreatDoor
open Go.Abs
abbrev qA2 := Bool × Int
def qw2 (a0 : Bool) (a1 : Int) : List Arg := [.c (.bool a0), .c (.int .i64 a1)]
def qE2 : qA2 → List Arg := fun ⟨a0, a1⟩ => qw2 a0 a1
def qd2 (a : List Arg) : qA2 := (dBool (aCell a 0 0), dInt (aCell a 1 0))
def qp2 {β : Type} (f : Bool → Int → β) (c0 c1 : D) : β := f (dBool c0) (dInt c1)
def qt2 (c0 c1 : D) : List Arg := [.c c0, .c c1]
attribute [go_sem] qw2 qp2 qt2 qE2
abbrev qA7 := Int × Int × Int
def qw7 (a0 : Int) (a1 : Int) (a2 : Int) : List Arg := [.agg [.int .i64 a0, .int .i64 a1], .c (.int .i64 a2)]
def qE7 : qA7 → List Arg := fun ⟨a0, a1, a2⟩ => qw7 a0 a1 a2
def qd7 (a : List Arg) : qA7 := (dInt (aCell a 0 0), dInt (aCell a 0 1), dInt (aCell a 1 0))
def qp7 {β : Type} (f : Int → Int → Int → β) (c0 c1 c2 : D) : β := f (dInt c0) (dInt c1) (dInt c2)
def qt7 (c0 c1 c2 : D) : List Arg := [.agg [c0, c1], .c c2]
attribute [go_sem] qw7 qp7 qt7 qE7
abbrev qA9 := (List (Int)) × (List (Int)) × Int × Int × Int × Int × Int
def qw9 (a0 : List (Int)) (a1 : List (Int)) (a2 : Int) (a3 : Int) (a4 : Int) (a5 : Int) (a6 : Int) : List Arg := [.agg [encF 1 d_I a0, encF 1 d_I a1], .c (.int .i64 a2), .agg [.int .i64 a3, .int .i64 a4], .agg [.int .i64 a5, .int .i64 a6]]
def qE9 : qA9 → List Arg := fun ⟨a0, a1, a2, a3, a4, a5, a6⟩ => qw9 a0 a1 a2 a3 a4 a5 a6
def qd9 (a : List Arg) : qA9 := (decF g_I (aCell a 0 0), decF g_I (aCell a 0 1), dInt (aCell a 1 0), dInt (aCell a 2 0), dInt (aCell a 2 1), dInt (aCell a 3 0), dInt (aCell a 3 1))
def qp9 {β : Type} (f : (List (Int)) → (List (Int)) → Int → Int → Int → Int → Int → β) (c0 c1 c2 c3 c4 c5 c6 : D) : β := f (decF g_I c0) (decF g_I c1) (dInt c2) (dInt c3) (dInt c4) (dInt c5) (dInt c6)
def qt9 (c0 c1 c2 c3 c4 c5 c6 : D) : List Arg := [.agg [c0, c1], .c c2, .agg [c3, c4], .agg [c5, c6]]
attribute [go_sem] qw9 qp9 qt9 qE9
def qu1 (v : Int × (List (Bool))) : List RV := [.agg [.d (.int .i64 v.1), .own (encF 1 d_B v.2)]]
attribute [go_sem] qu1
def qu5 (v : (List (Int)) × (List (Int))) : List RV := [.agg [.own (encF 1 d_I v.1), .own (encF 1 d_I v.2)]]
attribute [go_sem] qu5
def qu6 (v : (List (Int)) × (List (Int)) × Int) : List RV := [.agg [.own (encF 1 d_I v.1), .own (encF 1 d_I v.2.1)], .c (.d (.int .i64 v.2.2))]
attribute [go_sem] qu6
def qu8 (v : Int × Int × Int × Int) : List RV := [.agg [.d (.int .i64 v.1), .d (.int .i64 v.2.1)], .agg [.d (.int .i64 v.2.2.1), .d (.int .i64 v.2.2.2)]]
attribute [go_sem] qu8
/- martensite/martensitelaw02.Ladder -/
def r14 : Option (Int × (List (Int × Int × Int))) :=
  some (2, [(1, 2, 1), (1, 1, 1)])
def T14 : TSpec qA0 := mkT qE0 qd0 (fun _ => r14) qu0 false
theorem TP14 : T14.sp.pre [] = (eqvArgs (qt0 ) (qp0 qw0 ) ∧ (qp0 r14).isSome = true) := (rfl)
theorem TR14 : T14.sp.res [] = qu0 ((qp0 r14).getD default) := (rfl)
theorem TA14 : T14.sp.alias = false := (rfl)
def tb14 : Fns := lk []
theorem tb14_ok : FnsOk Tryz.prog tb14 := FnsOk.nil
attribute [go_sem] TP14 TR14 TA14
section
attribute [local go_sem] T14 Tryz.results14
theorem v14 : Valid Tryz.prog 14 T14.sp := by
 refine valid_t (fn := Tryz.f14) (n := 5) ty_ok tb14_ok Tryz.func14 rfl Tryz.ntmps14 ?_
 intro _ hx
 obtain ⟨r, hr⟩ := oE (show (r14).isSome = true from hx)
 have hres : T14.res () = qu0 r := by simp only [T14, mkT, hr, oG]
 refine ⟨nL rfl, fun stop S => ?_⟩
 rw [hres] at S
 unfold r14 at hr
 refine S.gx [] ?_
 repeat refine gA ?_
 cases hr
 exact lf
theorem f14 : FnFact Tryz.prog 14 T14.sp := ⟨⟨Tryz.f14, Tryz.func14, by decide, rfl⟩, v14⟩
end

/- martensite/martensitelaw02.Drive -/
def r15 : Option (Int × (List (Bool))) :=
  some (1, [false, false])
def T15 : TSpec qA0 := mkT qE0 qd0 (fun _ => r15) qu1 false
theorem TP15 : T15.sp.pre [] = (eqvArgs (qt0 ) (qp0 qw0 ) ∧ (qp0 r15).isSome = true) := (rfl)
theorem TR15 : T15.sp.res [] = qu1 ((qp0 r15).getD default) := (rfl)
theorem TA15 : T15.sp.alias = false := (rfl)
def tb15 : Fns := lk []
theorem tb15_ok : FnsOk Tryz.prog tb15 := FnsOk.nil
attribute [go_sem] TP15 TR15 TA15
section
attribute [local go_sem] T15 Tryz.results15
theorem v15 : Valid Tryz.prog 15 T15.sp := by
 refine valid_t (fn := Tryz.f15) (n := 3) ty_ok tb15_ok Tryz.func15 rfl Tryz.ntmps15 ?_
 intro _ hx
 obtain ⟨r, hr⟩ := oE (show (r15).isSome = true from hx)
 have hres : T15.res () = qu1 r := by simp only [T15, mkT, hr, oG]
 refine ⟨nL rfl, fun stop S => ?_⟩
 rw [hres] at S
 unfold r15 at hr
 refine S.gx [] ?_
 repeat refine gA ?_
 cases hr
 exact lf
theorem f15 : FnFact Tryz.prog 15 T15.sp := ⟨⟨Tryz.f15, Tryz.func15, by decide, rfl⟩, v15⟩
end

/- martensite/field.within -/
def r44 (a0 : Int) (a1 : Int) (a2 : Int) : Option (Bool) :=
  some ((decide (a1 ≤ a0)) && (decide (a0 ≤ a2)))
def T44 : TSpec qA1 := mkT qE1 qd1 (fun ⟨a0, a1, a2⟩ => r44 a0 a1 a2) qu2 false
theorem TP44 (c0 c1 c2 : D) : T44.sp.pre [.c c0, .c c1, .c c2] = (eqvArgs (qt1 c0 c1 c2) (qp1 qw1 c0 c1 c2) ∧ (qp1 r44 c0 c1 c2).isSome = true) := (rfl)
theorem TR44 (c0 c1 c2 : D) : T44.sp.res [.c c0, .c c1, .c c2] = qu2 ((qp1 r44 c0 c1 c2).getD default) := (rfl)
theorem TA44 : T44.sp.alias = false := (rfl)
def tb44 : Fns := lk []
theorem tb44_ok : FnsOk Tryz.prog tb44 := FnsOk.nil
attribute [go_sem] TP44 TR44 TA44
section
attribute [local go_sem] T44 Tryz.results44
theorem v44 : Valid Tryz.prog 44 T44.sp := by
 refine valid_t (fn := Tryz.f44) (n := 15) ty_ok tb44_ok Tryz.func44 rfl Tryz.ntmps44 ?_
 rintro ⟨a0, a1, a2⟩ hx
 obtain ⟨r, hr⟩ := oE (show (r44 a0 a1 a2).isSome = true from hx)
 have hres : T44.res (a0, a1, a2) = qu2 r := by simp only [T44, mkT, hr, oG]
 refine ⟨nL rfl, fun stop S => ?_⟩
 rw [hres] at S
 unfold r44 at hr
 refine S.gx [] ?_
 repeat (first | refine gA ?_ | refine gB ?_)
 cases hr
 exact lf
theorem f44 : FnFact Tryz.prog 44 T44.sp := ⟨⟨Tryz.f44, Tryz.func44, by decide, rfl⟩, v44⟩
end

/- martensite/field.unless -/
def r42 (a0 : Bool) (a1 : Int) : Option (Int) :=
  if a0 = true then
   some 0
   else some a1
def T42 : TSpec qA2 := mkT qE2 qd2 (fun ⟨a0, a1⟩ => r42 a0 a1) qu3 false
theorem TP42 (c0 c1 : D) : T42.sp.pre [.c c0, .c c1] = (eqvArgs (qt2 c0 c1) (qp2 qw2 c0 c1) ∧ (qp2 r42 c0 c1).isSome = true) := (rfl)
theorem TR42 (c0 c1 : D) : T42.sp.res [.c c0, .c c1] = qu3 ((qp2 r42 c0 c1).getD default) := (rfl)
theorem TA42 : T42.sp.alias = false := (rfl)
def tb42 : Fns := lk []
theorem tb42_ok : FnsOk Tryz.prog tb42 := FnsOk.nil
attribute [go_sem] TP42 TR42 TA42
section
attribute [local go_sem] T42 Tryz.results42
theorem v42 : Valid Tryz.prog 42 T42.sp := by
 refine valid_t (fn := Tryz.f42) (n := 7) ty_ok tb42_ok Tryz.func42 rfl Tryz.ntmps42 ?_
 rintro ⟨a0, a1⟩ hx
 obtain ⟨r, hr⟩ := oE (show (r42 a0 a1).isSome = true from hx)
 have hres : T42.res (a0, a1) = qu3 r := by simp only [T42, mkT, hr, oG]
 refine ⟨nL rfl, fun stop S => ?_⟩
 rw [hres] at S
 unfold r42 at hr
 refine S.gx [] ?_
 repeat refine gA ?_
 refine ⟨?_, ?_⟩ <;> intro hc
 ·have hr := ifP hr hc
  repeat refine gA ?_
  cases hr
  exact lf
 ·have hr := ifN hr hc
  repeat refine gA ?_
  cases hr
  exact lf
theorem f42 : FnFact Tryz.prog 42 T42.sp := ⟨⟨Tryz.f42, Tryz.func42, by decide, rfl⟩, v42⟩
end

/- martensite/field.first -/
def b33_1 (a0 : List (Int)) : (Int) → Ctl (Int) (Int) := fun s1 =>
  if (decide (s1 < (a0.length : Int))) = true then
   if 0 ≤ s1 ∧ s1 < (a0.length : Int) then
    if ((a0.getD s1.toNat default) != 0) = true then
     .out (some (a0.getD s1.toNat default))
     else .next (IntKind.i64.wrap (s1 + 1))
    else .out none
   else .out (some 0)
def r33 (a0 : List (Int)) : Option (Int) :=
  iterC (b33_1 a0) 1000000000 0
def T33 : TSpec qA3 := mkT qE3 qd3 r33 qu3 false
theorem TP33 (c0 : D) : T33.sp.pre [.c c0] = (eqvArgs (qt3 c0) (qp3 qw3 c0) ∧ (qp3 r33 c0).isSome = true) := (rfl)
theorem TR33 (c0 : D) : T33.sp.res [.c c0] = qu3 ((qp3 r33 c0).getD default) := (rfl)
theorem TA33 : T33.sp.alias = false := (rfl)
def tb33 : Fns := lk []
theorem tb33_ok : FnsOk Tryz.prog tb33 := FnsOk.nil
theorem lt33_0 : (IntKind.i64.wrap (0 + 1)) = 1 := by first | rfl | decide | simp
attribute [go_sem] TP33 TR33 TA33
section
attribute [local go_sem] T33 Tryz.results33 lt33_0
theorem v33 : Valid Tryz.prog 33 T33.sp := by
 refine valid_t (fn := Tryz.f33) (n := 15) ty_ok tb33_ok Tryz.func33 rfl Tryz.ntmps33 ?_
 rintro a0 hx
 obtain ⟨r, hr⟩ := oE (show (r33 a0).isSome = true from hx)
 have hres : T33.res a0 = qu3 r := by simp only [T33, mkT, hr, oG]
 refine ⟨nL rfl, fun stop S => ?_⟩
 rw [hres] at S
 unfold r33 at hr
 refine S.gx [] ?_
 repeat refine gA ?_
 refine S.sees [5, 6, 7] [] [] ?_ (Stop.iter S (fun s1 => ⟨[(5, .c (.d (encF 1 d_I a0))), (6, .c (.d (.int .i64 (a0.length : Int)))), (7, .c (.d (.int .i64 s1)))], [], []⟩) (b33_1 a0) (fun q => q = r) hr rfl ?_)
 ·exact lf
 ·intro s1 hr
  unfold b33_1 at hr
  refine S.gx [] ?_
  repeat refine gA ?_
  refine ⟨?_, ?_⟩ <;> intro hc
  ·have hr := ifP1 hr hc
   obtain ⟨hg1, hr⟩ := of_guard1 hr
   repeat refine gA ?_
   refine ⟨?_, ?_⟩ <;> intro hc
   ·have hr := ifP1 hr hc
    repeat refine gA ?_
    have hr := of_out0 hr
    cases hr
    exact lf
   ·have hr := ifN1 hr hc
    repeat refine gA ?_
    refine S.sees [5, 6, 7] [] [] ?_ hr
    exact lf
  ·have hr := ifN1 hr hc
   repeat refine gA ?_
   have hr := of_out0 hr
   repeat refine gA ?_
   cases hr
   exact lf
theorem f33 : FnFact Tryz.prog 33 T33.sp := ⟨⟨Tryz.f33, Tryz.func33, by decide, rfl⟩, v33⟩
end

/- martensite/field.CheckLadder$1 -/
def r74 (a0 : Int) : Option (Bool) :=
  (r44 a0 1 4).bind fun v1 =>
   some v1
def T74 : TSpec qA4 := mkT qE4 qd4 r74 qu2 false
theorem TP74 (c0 : D) : T74.sp.pre [.c c0] = (eqvArgs (qt4 c0) (qp4 qw4 c0) ∧ (qp4 r74 c0).isSome = true) := (rfl)
theorem TR74 (c0 : D) : T74.sp.res [.c c0] = qu2 ((qp4 r74 c0).getD default) := (rfl)
theorem TA74 : T74.sp.alias = false := (rfl)
def tb74 : Fns := lk [(44, T44.sp)]
theorem tb74_ok : FnsOk Tryz.prog tb74 := .cons f44 (FnsOk.nil)
theorem tb74_44 : tb74 44 = some T44.sp := rfl
attribute [go_sem] TP74 TR74 TA74
section
attribute [local go_sem] T74 tb74_44 Tryz.results74
theorem v74 : Valid Tryz.prog 74 T74.sp := by
 refine valid_t (fn := Tryz.f74) (n := 5) ty_ok tb74_ok Tryz.func74 rfl Tryz.ntmps74 ?_
 rintro a0 hx
 obtain ⟨r, hr⟩ := oE (show (r74 a0).isSome = true from hx)
 have hres : T74.res a0 = qu2 r := by simp only [T74, mkT, hr, oG]
 refine ⟨nL rfl, fun stop S => ?_⟩
 rw [hres] at S
 unfold r74 at hr
 refine S.gx [] ?_
 obtain ⟨v1, hv1, hr⟩ := of_bind0 hr
 try simp only [hv1, oG, oI, true_and, and_assoc]
 repeat refine gA ?_
 cases hr
 exact lf
theorem f74 : FnFact Tryz.prog 74 T74.sp := ⟨⟨Tryz.f74, Tryz.func74, by decide, rfl⟩, v74⟩
end

/- martensite/field.CheckLadder -/
def b54_1 (x0 : List (Int × Int × Int)) : (Int) → Ctl (Int) (Int × Int) := fun s1 =>
  if (decide (s1 < (x0.length : Int))) = true then
   if 0 ≤ s1 ∧ s1 < (x0.length : Int) then
    bindC (r44 ((x0.getD s1.toNat default).1) 1 4) fun v6 =>
     if v6 = true → (r74 ((x0.getD s1.toNat default).2.1)).isSome = true then
      if (v6 && ((r74 ((x0.getD s1.toNat default).2.1)).getD default)) = true → (r74 ((x0.getD s1.toNat default).2.2)).isSome = true then
       bindC (r42 ((v6 && ((r74 ((x0.getD s1.toNat default).2.1)).getD default)) && ((r74 ((x0.getD s1.toNat default).2.2)).getD default)) 2) fun v7 =>
        bindC (r42 (decide (((x0.getD s1.toNat default).2.2) ≤ ((x0.getD s1.toNat default).2.1))) 9) fun v8 =>
         bindC (r33 [v7, v8]) fun v9 =>
          if (v9 != 0) = true then
           .out (some (s1, v9))
           else .next (IntKind.i64.wrap (s1 + 1))
       else .out none
      else .out none
    else .out none
   else .out (some (0, 0))
def r54 (x1 : Int) (x0 : List (Int × Int × Int)) : Option (Int × Int) :=
  (r44 x1 1 20).bind fun v1 =>
   (r42 v1 2).bind fun v2 =>
    (r42 (decide ((x0.length : Int) > 0)) 10).bind fun v3 =>
     (r42 (decide ((x0.length : Int) ≤ 4)) 8).bind fun v4 =>
      (r33 [v2, v3, v4]).bind fun v5 =>
       if (v5 != 0) = true then
        some (0, v5)
        else iterC (b54_1 x0) 1000000000 0
def T54 : TSpec qA5 := mkT qE5 qd5 (fun ⟨x1, x0⟩ => r54 x1 x0) qu4 false
theorem TP54 (c0 c1 : D) : T54.sp.pre [.agg [c0, c1]] = (eqvArgs (qt5 c0 c1) (qp5 qw5 c0 c1) ∧ (qp5 r54 c0 c1).isSome = true) := (rfl)
theorem TR54 (c0 c1 : D) : T54.sp.res [.agg [c0, c1]] = qu4 ((qp5 r54 c0 c1).getD default) := (rfl)
theorem TA54 : T54.sp.alias = false := (rfl)
def tb54 : Fns := lk [(33, T33.sp), (42, T42.sp), (44, T44.sp), (74, T74.sp)]
theorem tb54_ok : FnsOk Tryz.prog tb54 := .cons f33 (.cons f42 (.cons f44 (.cons f74 (FnsOk.nil))))
theorem tb54_33 : tb54 33 = some T33.sp := rfl
theorem tb54_42 : tb54 42 = some T42.sp := rfl
theorem tb54_44 : tb54 44 = some T44.sp := rfl
theorem tb54_74 : tb54 74 = some T74.sp := rfl
theorem lt54_0 : (IntKind.i64.wrap (0 + 1)) = 1 := by first | rfl | decide | simp
attribute [go_sem] TP54 TR54 TA54
section
attribute [local go_sem] T54 tb54_33 tb54_42 tb54_44 tb54_74 Tryz.results54 lt54_0
theorem v54 : Valid Tryz.prog 54 T54.sp := by
 refine valid_t (fn := Tryz.f54) (n := 67) ty_ok tb54_ok Tryz.func54 rfl Tryz.ntmps54 ?_
 rintro ⟨x1, x0⟩ hx
 obtain ⟨r, hr⟩ := oE (show (r54 x1 x0).isSome = true from hx)
 have hres : T54.res (x1, x0) = qu4 r := by simp only [T54, mkT, hr, oG]
 refine ⟨nL rfl, fun stop S => ?_⟩
 rw [hres] at S
 unfold r54 at hr
 refine S.gx [] ?_
 obtain ⟨v1, hv1, hr⟩ := of_bind0 hr
 obtain ⟨v2, hv2, hr⟩ := of_bind0 hr
 obtain ⟨v3, hv3, hr⟩ := of_bind0 hr
 obtain ⟨v4, hv4, hr⟩ := of_bind0 hr
 obtain ⟨v5, hv5, hr⟩ := of_bind0 hr
 try simp only [hv1, hv2, hv3, hv4, hv5, Option.getD_some, Option.isSome_some, true_and, and_assoc]
 repeat refine gA ?_
 refine ⟨?_, ?_⟩ <;> intro hc
 ·have hr := ifP hr hc
  repeat refine gA ?_
  cases hr
  exact lf
 ·have hr := ifN hr hc
  repeat refine gA ?_
  refine S.sees [5, 30, 31, 32] [] [] ?_ (Stop.iter S (fun s1 => ⟨[(5, .c (.clo 74 [])), (30, .c (.d (encF 3 d_III x0))), (31, .c (.d (.int .i64 (x0.length : Int)))), (32, .c (.d (.int .i64 s1)))], [], []⟩) (b54_1 x0) (fun q => q = r) hr rfl ?_)
  ·exact lf
  ·intro s1 hr
   unfold b54_1 at hr
   refine S.gx [] ?_
   repeat refine gA ?_
   refine ⟨?_, ?_⟩ <;> intro hc
   ·have hr := ifP1 hr hc
    obtain ⟨hg10, hr⟩ := of_guard1 hr
    obtain ⟨v6, hv6, hr⟩ := of_bind1 hr
    obtain ⟨hg11, hr⟩ := of_guard1 hr
    obtain ⟨hg12, hr⟩ := of_guard1 hr
    obtain ⟨v7, hv7, hr⟩ := of_bind1 hr
    obtain ⟨v8, hv8, hr⟩ := of_bind1 hr
    obtain ⟨v9, hv9, hr⟩ := of_bind1 hr
    try simp only [hv6, hv7, hv8, hv9, Option.getD_some, Option.isSome_some, true_and, and_assoc]
    repeat (first | refine gG hg11 ?_ | refine gG hg12 ?_ | refine gA ?_ | refine gB ?_)
    refine ⟨?_, ?_⟩ <;> intro hc
    ·have hr := ifP1 hr hc
     repeat refine gA ?_
     have hr := of_out0 hr
     cases hr
     exact lf
    ·have hr := ifN1 hr hc
     repeat refine gA ?_
     refine S.sees [5, 30, 31, 32] [] [] ?_ hr
     exact lf
   ·have hr := ifN1 hr hc
    repeat refine gA ?_
    have hr := of_out0 hr
    repeat refine gA ?_
    cases hr
    exact lf
theorem f54 : FnFact Tryz.prog 54 T54.sp := ⟨⟨Tryz.f54, Tryz.func54, by decide, rfl⟩, v54⟩
end

/- martensite/field.ladderErr -/
def r26 (x0 : Int) (x1 : List (Int × Int × Int)) : Option (Int) :=
  (r54 x0 x1).bind fun v1 =>
   some v1.2
def T26 : TSpec qA5 := mkT qE5 qd5 (fun ⟨x0, x1⟩ => r26 x0 x1) qu3 false
theorem TP26 (c0 c1 : D) : T26.sp.pre [.agg [c0, c1]] = (eqvArgs (qt5 c0 c1) (qp5 qw5 c0 c1) ∧ (qp5 r26 c0 c1).isSome = true) := (rfl)
theorem TR26 (c0 c1 : D) : T26.sp.res [.agg [c0, c1]] = qu3 ((qp5 r26 c0 c1).getD default) := (rfl)
theorem TA26 : T26.sp.alias = false := (rfl)
def tb26 : Fns := lk [(54, T54.sp)]
theorem tb26_ok : FnsOk Tryz.prog tb26 := .cons f54 (FnsOk.nil)
theorem tb26_54 : tb26 54 = some T54.sp := rfl
attribute [go_sem] TP26 TR26 TA26
section
attribute [local go_sem] T26 tb26_54 Tryz.results26
theorem v26 : Valid Tryz.prog 26 T26.sp := by
 refine valid_t (fn := Tryz.f26) (n := 11) ty_ok tb26_ok Tryz.func26 rfl Tryz.ntmps26 ?_
 rintro ⟨x0, x1⟩ hx
 obtain ⟨r, hr⟩ := oE (show (r26 x0 x1).isSome = true from hx)
 have hres : T26.res (x0, x1) = qu3 r := by simp only [T26, mkT, hr, oG]
 refine ⟨nL rfl, fun stop S => ?_⟩
 rw [hres] at S
 unfold r26 at hr
 refine S.gx [] ?_
 obtain ⟨v1, hv1, hr⟩ := of_bind0 hr
 try simp only [hv1, oG, oI, true_and, and_assoc]
 repeat refine gA ?_
 cases hr
 exact lf
theorem f26 : FnFact Tryz.prog 26 T26.sp := ⟨⟨Tryz.f26, Tryz.func26, by decide, rfl⟩, v26⟩
end

/- martensite/field.driveErr -/
def r75 (x3 : Int) (x0 : List (Int × Int × Int)) (x1 : Int) (x2 : List (Bool)) : Option (Int) :=
  (r44 x1 1 8).bind fun v1 =>
   (r42 v1 2).bind fun v2 =>
    (r42 ((x2.length : Int) == (x0.length : Int)) 10).bind fun v3 =>
     (r33 [v2, v3]).bind fun v4 =>
      some v4
def T75 : TSpec qA6 := mkT qE6 qd6 (fun ⟨x3, x0, x1, x2⟩ => r75 x3 x0 x1 x2) qu3 false
theorem TP75 (c0 c1 c2 c3 : D) : T75.sp.pre [.agg [c0, c1], .agg [c2, c3]] = (eqvArgs (qt6 c0 c1 c2 c3) (qp6 qw6 c0 c1 c2 c3) ∧ (qp6 r75 c0 c1 c2 c3).isSome = true) := (rfl)
theorem TR75 (c0 c1 c2 c3 : D) : T75.sp.res [.agg [c0, c1], .agg [c2, c3]] = qu3 ((qp6 r75 c0 c1 c2 c3).getD default) := (rfl)
theorem TA75 : T75.sp.alias = false := (rfl)
def tb75 : Fns := lk [(33, T33.sp), (42, T42.sp), (44, T44.sp)]
theorem tb75_ok : FnsOk Tryz.prog tb75 := .cons f33 (.cons f42 (.cons f44 (FnsOk.nil)))
theorem tb75_33 : tb75 33 = some T33.sp := rfl
theorem tb75_42 : tb75 42 = some T42.sp := rfl
theorem tb75_44 : tb75 44 = some T44.sp := rfl
attribute [go_sem] TP75 TR75 TA75
section
attribute [local go_sem] T75 tb75_33 tb75_42 tb75_44 Tryz.results75
theorem v75 : Valid Tryz.prog 75 T75.sp := by
 refine valid_t (fn := Tryz.f75) (n := 19) ty_ok tb75_ok Tryz.func75 rfl Tryz.ntmps75 ?_
 rintro ⟨x3, x0, x1, x2⟩ hx
 obtain ⟨r, hr⟩ := oE (show (r75 x3 x0 x1 x2).isSome = true from hx)
 have hres : T75.res (x3, x0, x1, x2) = qu3 r := by simp only [T75, mkT, hr, oG]
 refine ⟨nL rfl, fun stop S => ?_⟩
 rw [hres] at S
 unfold r75 at hr
 refine S.gx [] ?_
 obtain ⟨v1, hv1, hr⟩ := of_bind0 hr
 obtain ⟨v2, hv2, hr⟩ := of_bind0 hr
 obtain ⟨v3, hv3, hr⟩ := of_bind0 hr
 obtain ⟨v4, hv4, hr⟩ := of_bind0 hr
 try simp only [hv1, hv2, hv3, hv4, Option.getD_some, Option.isSome_some, true_and, and_assoc]
 repeat refine gA ?_
 cases hr
 exact lf
theorem f75 : FnFact Tryz.prog 75 T75.sp := ⟨⟨Tryz.f75, Tryz.func75, by decide, rfl⟩, v75⟩
end

/- martensite/field.CheckDrive -/
def r58 (x0 : Int) (x1 : List (Int × Int × Int)) (x2 : Int) (x3 : List (Bool)) : Option (Int) :=
  (r26 x0 x1).bind fun v1 =>
   (r75 x0 x1 x2 x3).bind fun v2 =>
    (r33 [v1, v2]).bind fun v3 =>
     some v3
def T58 : TSpec qA6 := mkT qE6 qd6 (fun ⟨x0, x1, x2, x3⟩ => r58 x0 x1 x2 x3) qu3 false
theorem TP58 (c0 c1 c2 c3 : D) : T58.sp.pre [.agg [c0, c1], .agg [c2, c3]] = (eqvArgs (qt6 c0 c1 c2 c3) (qp6 qw6 c0 c1 c2 c3) ∧ (qp6 r58 c0 c1 c2 c3).isSome = true) := (rfl)
theorem TR58 (c0 c1 c2 c3 : D) : T58.sp.res [.agg [c0, c1], .agg [c2, c3]] = qu3 ((qp6 r58 c0 c1 c2 c3).getD default) := (rfl)
theorem TA58 : T58.sp.alias = false := (rfl)
def tb58 : Fns := lk [(26, T26.sp), (33, T33.sp), (75, T75.sp)]
theorem tb58_ok : FnsOk Tryz.prog tb58 := .cons f26 (.cons f33 (.cons f75 (FnsOk.nil)))
theorem tb58_26 : tb58 26 = some T26.sp := rfl
theorem tb58_33 : tb58 33 = some T33.sp := rfl
theorem tb58_75 : tb58 75 = some T75.sp := rfl
attribute [go_sem] TP58 TR58 TA58
section
attribute [local go_sem] T58 tb58_26 tb58_33 tb58_75 Tryz.results58
theorem v58 : Valid Tryz.prog 58 T58.sp := by
 refine valid_t (fn := Tryz.f58) (n := 12) ty_ok tb58_ok Tryz.func58 rfl Tryz.ntmps58 ?_
 rintro ⟨x0, x1, x2, x3⟩ hx
 obtain ⟨r, hr⟩ := oE (show (r58 x0 x1 x2 x3).isSome = true from hx)
 have hres : T58.res (x0, x1, x2, x3) = qu3 r := by simp only [T58, mkT, hr, oG]
 refine ⟨nL rfl, fun stop S => ?_⟩
 rw [hres] at S
 unfold r58 at hr
 refine S.gx [] ?_
 obtain ⟨v1, hv1, hr⟩ := of_bind0 hr
 obtain ⟨v2, hv2, hr⟩ := of_bind0 hr
 obtain ⟨v3, hv3, hr⟩ := of_bind0 hr
 try simp only [hv1, hv2, hv3, Option.getD_some, Option.isSome_some, true_and, and_assoc]
 repeat refine gA ?_
 cases hr
 exact lf
theorem f58 : FnFact Tryz.prog 58 T58.sp := ⟨⟨Tryz.f58, Tryz.func58, by decide, rfl⟩, v58⟩
end

/- martensite/field.driven -/
def b45_1 (x0 : List (Int × Int × Int)) (x1 : Int) (x2 : List (Bool)) : (Int × (List (Int)) × (List (Int))) → Ctl (Int × (List (Int)) × (List (Int))) ((List (Int)) × (List (Int))) := fun s1 =>
  if (decide (s1.1 < (x0.length : Int))) = true then
   if 0 ≤ s1.1 ∧ s1.1 < (x0.length : Int) then
    if 0 ≤ s1.1 ∧ s1.1 < (x2.length : Int) then
     if (x2.getD s1.1.toNat default) = true then
      if (s1.2.1.length + 1) * 8 ≤ 140737488355328 ∧ s1.2.1.length + 1 ≤ 9223372036854775807 then
       if (s1.2.2.length + 1) * 8 ≤ 140737488355328 ∧ s1.2.2.length + 1 ≤ 9223372036854775807 then
        .next (IntKind.i64.wrap (s1.1 + 1), s1.2.1 ++ [(x0.getD s1.1.toNat default).1], s1.2.2 ++ [IntKind.i64.wrap (x1 * ((x0.getD s1.1.toNat default).2.2))])
        else .out none
       else .out none
      else if (s1.2.1.length + 1) * 8 ≤ 140737488355328 ∧ s1.2.1.length + 1 ≤ 9223372036854775807 then
       if (s1.2.2.length + 1) * 8 ≤ 140737488355328 ∧ s1.2.2.length + 1 ≤ 9223372036854775807 then
        .next (IntKind.i64.wrap (s1.1 + 1), s1.2.1 ++ [(x0.getD s1.1.toNat default).1], s1.2.2 ++ [IntKind.i64.wrap (x1 * ((x0.getD s1.1.toNat default).2.1))])
        else .out none
       else .out none
     else .out none
    else .out none
   else .out (some (s1.2.1, s1.2.2))
def r45 (x3 : Int) (x0 : List (Int × Int × Int)) (x1 : Int) (x2 : List (Bool)) : Option ((List (Int)) × (List (Int))) :=
  iterC (b45_1 x0 x1 x2) 1000000000 (0, [], [])
def T45 : TSpec qA6 := mkT qE6 qd6 (fun ⟨x3, x0, x1, x2⟩ => r45 x3 x0 x1 x2) qu5 false
theorem TP45 (c0 c1 c2 c3 : D) : T45.sp.pre [.agg [c0, c1], .agg [c2, c3]] = (eqvArgs (qt6 c0 c1 c2 c3) (qp6 qw6 c0 c1 c2 c3) ∧ (qp6 r45 c0 c1 c2 c3).isSome = true) := (rfl)
theorem TR45 (c0 c1 c2 c3 : D) : T45.sp.res [.agg [c0, c1], .agg [c2, c3]] = qu5 ((qp6 r45 c0 c1 c2 c3).getD default) := (rfl)
theorem TA45 : T45.sp.alias = false := (rfl)
def tb45 : Fns := lk []
theorem tb45_ok : FnsOk Tryz.prog tb45 := FnsOk.nil
theorem lt45_0 : (IntKind.i64.wrap (0 + 1)) = 1 := by first | rfl | decide | simp
attribute [go_sem] TP45 TR45 TA45
section
attribute [local go_sem] T45 Tryz.results45 lt45_0
theorem v45 : Valid Tryz.prog 45 T45.sp := by
 refine valid_t (fn := Tryz.f45) (n := 44) ty_ok tb45_ok Tryz.func45 rfl Tryz.ntmps45 ?_
 rintro ⟨x3, x0, x1, x2⟩ hx
 obtain ⟨r, hr⟩ := oE (show (r45 x3 x0 x1 x2).isSome = true from hx)
 have hres : T45.res (x3, x0, x1, x2) = qu5 r := by simp only [T45, mkT, hr, oG]
 refine ⟨nL rfl, fun stop S => ?_⟩
 rw [hres] at S
 unfold r45 at hr
 refine S.gx [] ?_
 repeat refine gA ?_
 refine S.own0b 5 0 2000500 1 rfl rfl (nL rfl) rfl ?_
 refine S.own0b 5 1 2000501 1 rfl rfl (nL rfl) rfl ?_
 refine S.sees [3, 4, 5, 10, 11, 12] [(3, 3), (4, 4), (5, 5)] [(2000500, 2000500), (2000501, 2000501)] ?_ (Stop.iter S (fun s1 => ⟨[(3, .c (.ref 3 0)), (4, .c (.ref 4 0)), (5, .c (.ref 5 0)), (10, .c (.d (encF 3 d_III x0))), (11, .c (.d (.int .i64 (x0.length : Int)))), (12, .c (.d (.int .i64 s1.1)))], [(3, [.d (.int .i64 x1), .d (encF 1 d_B x2)]), (4, [.nils, .nils]), (5, [.own 2000500, .own 2000501])], [(2000500, .owned (encF 1 d_I s1.2.1)), (2000501, .owned (encF 1 d_I s1.2.2))]⟩) (b45_1 x0 x1 x2) (fun q => q = r) hr rfl ?_)
 ·exact lf
 ·intro s1 hr
  unfold b45_1 at hr
  refine S.gx [] ?_
  repeat refine gA ?_
  refine ⟨?_, ?_⟩ <;> intro hc
  ·have hr := ifP1 hr hc
   obtain ⟨hg5, hr⟩ := of_guard1 hr
   obtain ⟨hg6, hr⟩ := of_guard1 hr
   repeat refine gA ?_
   refine ⟨?_, ?_⟩ <;> intro hc
   ·have hr := ifP1 hr hc
    obtain ⟨hg1, hr⟩ := of_guard1 hr
    obtain ⟨hg2, hr⟩ := of_guard1 hr
    repeat refine gA ?_
    refine S.sees [3, 4, 5, 10, 11, 12] [(3, 3), (4, 4), (5, 5)] [(31, 2000500), (40, 2000501)] ?_ hr
    exact lf
   ·have hr := ifN1 hr hc
    obtain ⟨hg3, hr⟩ := of_guard1 hr
    obtain ⟨hg4, hr⟩ := of_guard1 hr
    repeat refine gA ?_
    refine S.sees [3, 4, 5, 10, 11, 12] [(3, 3), (4, 4), (5, 5)] [(31, 2000500), (40, 2000501)] ?_ hr
    exact lf
  ·have hr := ifN1 hr hc
   repeat refine gA ?_
   have hr := of_out0 hr
   repeat refine gA ?_
   cases hr
   exact lf
theorem f45 : FnFact Tryz.prog 45 T45.sp := ⟨⟨Tryz.f45, Tryz.func45, by decide, rfl⟩, v45⟩
end

/- martensite/field.open -/
def r31 (x0 : Int) (x1 : List (Int × Int × Int)) (x2 : Int) (x3 : List (Bool)) : Option ((List (Int)) × (List (Int)) × Int) :=
  (r58 x0 x1 x2 x3).bind fun v1 =>
   if (v1 != 0) = true then
    some ([], [], v1)
    else (r45 x0 x1 x2 x3).bind fun v2 =>
     some (v2.1, v2.2, 0)
def T31 : TSpec qA6 := mkT qE6 qd6 (fun ⟨x0, x1, x2, x3⟩ => r31 x0 x1 x2 x3) qu6 false
theorem TP31 (c0 c1 c2 c3 : D) : T31.sp.pre [.agg [c0, c1], .agg [c2, c3]] = (eqvArgs (qt6 c0 c1 c2 c3) (qp6 qw6 c0 c1 c2 c3) ∧ (qp6 r31 c0 c1 c2 c3).isSome = true) := (rfl)
theorem TR31 (c0 c1 c2 c3 : D) : T31.sp.res [.agg [c0, c1], .agg [c2, c3]] = qu6 ((qp6 r31 c0 c1 c2 c3).getD default) := (rfl)
theorem TA31 : T31.sp.alias = false := (rfl)
def tb31 : Fns := lk [(45, T45.sp), (58, T58.sp)]
theorem tb31_ok : FnsOk Tryz.prog tb31 := .cons f45 (.cons f58 (FnsOk.nil))
theorem tb31_45 : tb31 45 = some T45.sp := rfl
theorem tb31_58 : tb31 58 = some T58.sp := rfl
attribute [go_sem] TP31 TR31 TA31
section
attribute [local go_sem] T31 tb31_45 tb31_58 Tryz.results31
theorem v31 : Valid Tryz.prog 31 T31.sp := by
 refine valid_t (fn := Tryz.f31) (n := 17) ty_ok tb31_ok Tryz.func31 rfl Tryz.ntmps31 ?_
 rintro ⟨x0, x1, x2, x3⟩ hx
 obtain ⟨r, hr⟩ := oE (show (r31 x0 x1 x2 x3).isSome = true from hx)
 have hres : T31.res (x0, x1, x2, x3) = qu6 r := by simp only [T31, mkT, hr, oG]
 refine ⟨nL rfl, fun stop S => ?_⟩
 rw [hres] at S
 unfold r31 at hr
 refine S.gx [] ?_
 obtain ⟨v1, hv1, hr⟩ := of_bind0 hr
 try simp only [hv1, oG, oI, true_and, and_assoc]
 repeat refine gA ?_
 refine ⟨?_, ?_⟩ <;> intro hc
 ·have hr := ifP hr hc
  repeat refine gA ?_
  cases hr
  exact lf
 ·have hr := ifN hr hc
  obtain ⟨v2, hv2, hr⟩ := of_bind0 hr
  try simp only [hv2, oG, oI, true_and, and_assoc]
  repeat refine gA ?_
  cases hr
  exact lf
theorem f31 : FnFact Tryz.prog 31 T31.sp := ⟨⟨Tryz.f31, Tryz.func31, by decide, rfl⟩, v31⟩
end

/- martensite/field.scaled -/
def r37 (x0 : Int) (x1 : Int) (a1 : Int) : Option (Int × Int) :=
  some (IntKind.i64.wrap (a1 * x0), IntKind.i64.wrap (a1 * x1))
def T37 : TSpec qA7 := mkT qE7 qd7 (fun ⟨x0, x1, a1⟩ => r37 x0 x1 a1) qu7 false
theorem TP37 (c0 c1 c2 : D) : T37.sp.pre [.agg [c0, c1], .c c2] = (eqvArgs (qt7 c0 c1 c2) (qp7 qw7 c0 c1 c2) ∧ (qp7 r37 c0 c1 c2).isSome = true) := (rfl)
theorem TR37 (c0 c1 c2 : D) : T37.sp.res [.agg [c0, c1], .c c2] = qu7 ((qp7 r37 c0 c1 c2).getD default) := (rfl)
theorem TA37 : T37.sp.alias = false := (rfl)
def tb37 : Fns := lk []
theorem tb37_ok : FnsOk Tryz.prog tb37 := FnsOk.nil
attribute [go_sem] TP37 TR37 TA37
section
attribute [local go_sem] T37 Tryz.results37
theorem v37 : Valid Tryz.prog 37 T37.sp := by
 refine valid_t (fn := Tryz.f37) (n := 14) ty_ok tb37_ok Tryz.func37 rfl Tryz.ntmps37 ?_
 rintro ⟨x0, x1, a1⟩ hx
 obtain ⟨r, hr⟩ := oE (show (r37 x0 x1 a1).isSome = true from hx)
 have hres : T37.res (x0, x1, a1) = qu7 r := by simp only [T37, mkT, hr, oG]
 refine ⟨nL rfl, fun stop S => ?_⟩
 rw [hres] at S
 unfold r37 at hr
 refine S.gx [] ?_
 repeat refine gA ?_
 cases hr
 exact lf
theorem f37 : FnFact Tryz.prog 37 T37.sp := ⟨⟨Tryz.f37, Tryz.func37, by decide, rfl⟩, v37⟩
end

/- martensite/field.plus -/
def r39 (x0 : Int) (x1 : Int) (x2 : Int) (x3 : Int) : Option (Int × Int) :=
  some (IntKind.i64.wrap (x0 + x2), IntKind.i64.wrap (x1 + x3))
def T39 : TSpec qA8 := mkT qE8 qd8 (fun ⟨x0, x1, x2, x3⟩ => r39 x0 x1 x2 x3) qu7 false
theorem TP39 (c0 c1 c2 c3 : D) : T39.sp.pre [.agg [c0, c1], .agg [c2, c3]] = (eqvArgs (qt8 c0 c1 c2 c3) (qp8 qw8 c0 c1 c2 c3) ∧ (qp8 r39 c0 c1 c2 c3).isSome = true) := (rfl)
theorem TR39 (c0 c1 c2 c3 : D) : T39.sp.res [.agg [c0, c1], .agg [c2, c3]] = qu7 ((qp8 r39 c0 c1 c2 c3).getD default) := (rfl)
theorem TA39 : T39.sp.alias = false := (rfl)
def tb39 : Fns := lk []
theorem tb39_ok : FnsOk Tryz.prog tb39 := FnsOk.nil
attribute [go_sem] TP39 TR39 TA39
section
attribute [local go_sem] T39 Tryz.results39
theorem v39 : Valid Tryz.prog 39 T39.sp := by
 refine valid_t (fn := Tryz.f39) (n := 16) ty_ok tb39_ok Tryz.func39 rfl Tryz.ntmps39 ?_
 rintro ⟨x0, x1, x2, x3⟩ hx
 obtain ⟨r, hr⟩ := oE (show (r39 x0 x1 x2 x3).isSome = true from hx)
 have hres : T39.res (x0, x1, x2, x3) = qu7 r := by simp only [T39, mkT, hr, oG]
 refine ⟨nL rfl, fun stop S => ?_⟩
 rw [hres] at S
 unfold r39 at hr
 refine S.gx [] ?_
 repeat refine gA ?_
 cases hr
 exact lf
theorem f39 : FnFact Tryz.prog 39 T39.sp := ⟨⟨Tryz.f39, Tryz.func39, by decide, rfl⟩, v39⟩
end

/- martensite/field.turned -/
def r40 (x0 : Int) (x1 : Int) (a1 : Int) : Option (Int × Int) :=
  some (IntKind.i64.wrap ((IntKind.i64.wrap (0 - a1)) * x1), IntKind.i64.wrap (a1 * x0))
def T40 : TSpec qA7 := mkT qE7 qd7 (fun ⟨x0, x1, a1⟩ => r40 x0 x1 a1) qu7 false
theorem TP40 (c0 c1 c2 : D) : T40.sp.pre [.agg [c0, c1], .c c2] = (eqvArgs (qt7 c0 c1 c2) (qp7 qw7 c0 c1 c2) ∧ (qp7 r40 c0 c1 c2).isSome = true) := (rfl)
theorem TR40 (c0 c1 c2 : D) : T40.sp.res [.agg [c0, c1], .c c2] = qu7 ((qp7 r40 c0 c1 c2).getD default) := (rfl)
theorem TA40 : T40.sp.alias = false := (rfl)
def tb40 : Fns := lk []
theorem tb40_ok : FnsOk Tryz.prog tb40 := FnsOk.nil
attribute [go_sem] TP40 TR40 TA40
section
attribute [local go_sem] T40 Tryz.results40
theorem v40 : Valid Tryz.prog 40 T40.sp := by
 refine valid_t (fn := Tryz.f40) (n := 15) ty_ok tb40_ok Tryz.func40 rfl Tryz.ntmps40 ?_
 rintro ⟨x0, x1, a1⟩ hx
 obtain ⟨r, hr⟩ := oE (show (r40 x0 x1 a1).isSome = true from hx)
 have hres : T40.res (x0, x1, a1) = qu7 r := by simp only [T40, mkT, hr, oG]
 refine ⟨nL rfl, fun stop S => ?_⟩
 rw [hres] at S
 unfold r40 at hr
 refine S.gx [] ?_
 repeat refine gA ?_
 cases hr
 exact lf
theorem f40 : FnFact Tryz.prog 40 T40.sp := ⟨⟨Tryz.f40, Tryz.func40, by decide, rfl⟩, v40⟩
end

/- (martensite/field.ladder).before -/
def r60 (x0 : List (Int)) (x1 : List (Int)) (a1 : Int) (x2 : Int) (x3 : Int) (x4 : Int) (x5 : Int) : Option (Int × Int × Int × Int) :=
  if 0 ≤ a1 ∧ a1 < (x0.length : Int) then
   (r37 x2 x3 (x0.getD a1.toNat default)).bind fun v1 =>
    (r39 x4 x5 v1.1 v1.2).bind fun v2 =>
     if 0 ≤ a1 ∧ a1 < (x1.length : Int) then
      (r40 v2.1 v2.2 (x1.getD a1.toNat default)).bind fun v3 =>
       (r39 x2 x3 v3.1 v3.2).bind fun v4 =>
        some (v2.1, v2.2, v4.1, v4.2)
      else none
   else none
def T60 : TSpec qA9 := mkT qE9 qd9 (fun ⟨x0, x1, a1, x2, x3, x4, x5⟩ => r60 x0 x1 a1 x2 x3 x4 x5) qu8 false
theorem TP60 (c0 c1 c2 c3 c4 c5 c6 : D) : T60.sp.pre [.agg [c0, c1], .c c2, .agg [c3, c4], .agg [c5, c6]] = (eqvArgs (qt9 c0 c1 c2 c3 c4 c5 c6) (qp9 qw9 c0 c1 c2 c3 c4 c5 c6) ∧ (qp9 r60 c0 c1 c2 c3 c4 c5 c6).isSome = true) := (rfl)
theorem TR60 (c0 c1 c2 c3 c4 c5 c6 : D) : T60.sp.res [.agg [c0, c1], .c c2, .agg [c3, c4], .agg [c5, c6]] = qu8 ((qp9 r60 c0 c1 c2 c3 c4 c5 c6).getD default) := (rfl)
theorem TA60 : T60.sp.alias = false := (rfl)
def tb60 : Fns := lk [(37, T37.sp), (39, T39.sp), (40, T40.sp)]
theorem tb60_ok : FnsOk Tryz.prog tb60 := .cons f37 (.cons f39 (.cons f40 (FnsOk.nil)))
theorem tb60_37 : tb60 37 = some T37.sp := rfl
theorem tb60_39 : tb60 39 = some T39.sp := rfl
theorem tb60_40 : tb60 40 = some T40.sp := rfl
attribute [go_sem] TP60 TR60 TA60
section
attribute [local go_sem] T60 tb60_37 tb60_39 tb60_40 Tryz.results60
theorem v60 : Valid Tryz.prog 60 T60.sp := by
 refine valid_t (fn := Tryz.f60) (n := 29) ty_ok tb60_ok Tryz.func60 rfl Tryz.ntmps60 ?_
 rintro ⟨x0, x1, a1, x2, x3, x4, x5⟩ hx
 obtain ⟨r, hr⟩ := oE (show (r60 x0 x1 a1 x2 x3 x4 x5).isSome = true from hx)
 have hres : T60.res (x0, x1, a1, x2, x3, x4, x5) = qu8 r := by simp only [T60, mkT, hr, oG]
 refine ⟨nL rfl, fun stop S => ?_⟩
 rw [hres] at S
 unfold r60 at hr
 refine S.gx [] ?_
 obtain ⟨hg5, hr⟩ := of_guard0 hr
 obtain ⟨v1, hv1, hr⟩ := of_bind0 hr
 obtain ⟨v2, hv2, hr⟩ := of_bind0 hr
 obtain ⟨hg6, hr⟩ := of_guard0 hr
 obtain ⟨v3, hv3, hr⟩ := of_bind0 hr
 obtain ⟨v4, hv4, hr⟩ := of_bind0 hr
 try simp only [hv1, hv2, hv3, hv4, Option.getD_some, Option.isSome_some, true_and, and_assoc]
 repeat refine gA ?_
 cases hr
 exact lf
theorem f60 : FnFact Tryz.prog 60 T60.sp := ⟨⟨Tryz.f60, Tryz.func60, by decide, rfl⟩, v60⟩
end
end Go.Proofs.YtkhfaooknmoboaaGreatDoor

/- Contracts of functions, written by wip/dec. -/
import Derived.Test.YtkhfaooknmoboaaGreatDoorF00
import Derived.Test.YtkhfaooknmoboaaGreatDoorF01
import Derived.Test.YtkhfaooknmoboaaGreatDoorF02
set_option linter.unusedVariables false
set_option linter.unusedSimpArgs false
set_option maxHeartbeats 4000000
set_option maxRecDepth 20000
namespace Go.Proofs.YtkhfaooknmoboaaGreatDoor
open Go.Abs
abbrev qA17 := (List (Int × Int)) × (List (Int × Int))
def qw17 (a0 : List (Int × Int)) (a1 : List (Int × Int)) : List Arg := [.c (encF 2 d_II a0), .c (encF 2 d_II a1)]
def qE17 : qA17 → List Arg := fun ⟨a0, a1⟩ => qw17 a0 a1
def qd17 (a : List Arg) : qA17 := (decF g_II (aCell a 0 0), decF g_II (aCell a 1 0))
def qp17 {β : Type} (f : (List (Int × Int)) → (List (Int × Int)) → β) (c0 c1 : D) : β := f (decF g_II c0) (decF g_II c1)
def qt17 (c0 c1 : D) : List Arg := [.c c0, .c c1]
attribute [go_sem] qw17 qp17 qt17 qE17
abbrev qA18 := (List (Int)) × (List (Int))
def qw18 (a0 : List (Int)) (a1 : List (Int)) : List Arg := [.c (encF 1 d_I a0), .c (encF 1 d_I a1)]
def qE18 : qA18 → List Arg := fun ⟨a0, a1⟩ => qw18 a0 a1
def qd18 (a : List Arg) : qA18 := (decF g_I (aCell a 0 0), decF g_I (aCell a 1 0))
def qp18 {β : Type} (f : (List (Int)) → (List (Int)) → β) (c0 c1 : D) : β := f (decF g_I c0) (decF g_I c1)
def qt18 (c0 c1 : D) : List Arg := [.c c0, .c c1]
attribute [go_sem] qw18 qp18 qt18 qE18
abbrev qA19 := (List (ByteArray)) × ByteArray
def qw19 (a0 : List (ByteArray)) (a1 : ByteArray) : List Arg := [.c (encF 1 d_S a0), .c (.str a1)]
def qE19 : qA19 → List Arg := fun ⟨a0, a1⟩ => qw19 a0 a1
def qd19 (a : List Arg) : qA19 := (decF g_S (aCell a 0 0), dStr (aCell a 1 0))
def qp19 {β : Type} (f : (List (ByteArray)) → ByteArray → β) (c0 c1 : D) : β := f (decF g_S c0) (dStr c1)
def qt19 (c0 c1 : D) : List Arg := [.c c0, .c c1]
attribute [go_sem] qw19 qp19 qt19 qE19
abbrev qA20 := ByteArray × ByteArray
def qw20 (a0 : ByteArray) (a1 : ByteArray) : List Arg := [.c (.str a0), .c (.str a1)]
def qE20 : qA20 → List Arg := fun ⟨a0, a1⟩ => qw20 a0 a1
def qd20 (a : List Arg) : qA20 := (dStr (aCell a 0 0), dStr (aCell a 1 0))
def qp20 {β : Type} (f : ByteArray → ByteArray → β) (c0 c1 : D) : β := f (dStr c0) (dStr c1)
def qt20 (c0 c1 : D) : List Arg := [.c c0, .c c1]
attribute [go_sem] qw20 qp20 qt20 qE20
abbrev qA22 := ByteArray × Int
def qw22 (a0 : ByteArray) (a1 : Int) : List Arg := [.c (.str a0), .c (.int .i64 a1)]
def qE22 : qA22 → List Arg := fun ⟨a0, a1⟩ => qw22 a0 a1
def qd22 (a : List Arg) : qA22 := (dStr (aCell a 0 0), dInt (aCell a 1 0))
def qp22 {β : Type} (f : ByteArray → Int → β) (c0 c1 : D) : β := f (dStr c0) (dInt c1)
def qt22 (c0 c1 : D) : List Arg := [.c c0, .c c1]
attribute [go_sem] qw22 qp22 qt22 qE22
abbrev qA23 := ByteArray × Int
def qw23 (a0 : ByteArray) (a1 : Int) : List Arg := [.c (.str a0), .c (.int .u8 a1)]
def qE23 : qA23 → List Arg := fun ⟨a0, a1⟩ => qw23 a0 a1
def qd23 (a : List Arg) : qA23 := (dStr (aCell a 0 0), dInt (aCell a 1 0))
def qp23 {β : Type} (f : ByteArray → Int → β) (c0 c1 : D) : β := f (dStr c0) (dInt c1)
def qt23 (c0 c1 : D) : List Arg := [.c c0, .c c1]
attribute [go_sem] qw23 qp23 qt23 qE23
def qu16 (v : (List (ByteArray))) : List RV := [.c (.own (encF 1 d_S v))]
attribute [go_sem] qu16
def qu17 (v : Int × Bool) : List RV := [.c (.d (.int .i64 v.1)), .c (.d (.err v.2))]
attribute [go_sem] qu17
def qu18 (v : (List (Int)) × Bool) : List RV := [.c (.own (encF 1 d_I v.1)), .c (.d (.bool v.2))]
attribute [go_sem] qu18
def qu20 (v : Int × Bool) : List RV := [.c (.d (.int .i64 v.1)), .c (.d (.bool v.2))]
attribute [go_sem] qu20
/- martensite/martensitebase.Gausses -/
def b20_1 (a0 : List (Int × Int)) (a1 : List (Int × Int)) : (Int) → Ctl (Int) (Bool) := fun s1 =>
  if (decide (s1 < (a0.length : Int))) = true then
   if 0 ≤ s1 ∧ s1 < (a0.length : Int) then
    if 0 ≤ s1 ∧ s1 < (a1.length : Int) then
     if (!(((a0.getD s1.toNat default).1 == (a1.getD s1.toNat default).1) && ((a0.getD s1.toNat default).2 == (a1.getD s1.toNat default).2))) = true then
      .out (some false)
      else .next (IntKind.i64.wrap (s1 + 1))
     else .out none
    else .out none
   else .out (some true)
def r20 (a0 : List (Int × Int)) (a1 : List (Int × Int)) : Option (Bool) :=
  if ((a0.length : Int) != (a1.length : Int)) = true then
   some false
   else iterC (b20_1 a0 a1) 1000000000 0
def T20 : TSpec qA17 := mkT qE17 qd17 (fun ⟨a0, a1⟩ => r20 a0 a1) qu2 false
theorem TP20 (c0 c1 : D) : T20.sp.pre [.c c0, .c c1] = (eqvArgs (qt17 c0 c1) (qp17 qw17 c0 c1) ∧ (qp17 r20 c0 c1).isSome = true) := (rfl)
theorem TR20 (c0 c1 : D) : T20.sp.res [.c c0, .c c1] = qu2 ((qp17 r20 c0 c1).getD default) := (rfl)
theorem TA20 : T20.sp.alias = false := (rfl)
def tb20 : Fns := lk []
theorem tb20_ok : FnsOk Tryz.prog tb20 := FnsOk.nil
theorem lt20_0 : (IntKind.i64.wrap (0 + 1)) = 1 := by first | rfl | decide | simp
attribute [go_sem] TP20 TR20 TA20
section
attribute [local go_sem] T20 Tryz.results20 lt20_0
theorem v20 : Valid Tryz.prog 20 T20.sp := by
 refine valid_t (fn := Tryz.f20) (n := 26) ty_ok tb20_ok Tryz.func20 rfl Tryz.ntmps20 ?_
 rintro ⟨a0, a1⟩ hx
 obtain ⟨r, hr⟩ := oE (show (r20 a0 a1).isSome = true from hx)
 have hres : T20.res (a0, a1) = qu2 r := by simp only [T20, mkT, hr, oG]
 refine ⟨nL rfl, fun stop S => ?_⟩
 rw [hres] at S
 unfold r20 at hr
 refine S.gx [] ?_
 repeat refine gA ?_
 refine ⟨?_, ?_⟩ <;> intro hc
 ·have hr := ifP hr hc
  repeat refine gA ?_
  cases hr
  exact lf
 ·have hr := ifN hr hc
  repeat refine gA ?_
  refine S.sees [0, 1, 5] [] [] ?_ (Stop.iter S (fun s1 => ⟨[(0, .c (.d (encF 2 d_II a0))), (1, .c (.d (encF 2 d_II a1))), (5, .c (.d (.int .i64 s1)))], [], []⟩) (b20_1 a0 a1) (fun q => q = r) hr rfl ?_)
  ·exact lf
  ·intro s1 hr
   unfold b20_1 at hr
   refine S.gx [] ?_
   repeat refine gA ?_
   refine ⟨?_, ?_⟩ <;> intro hc
   ·have hr := ifP1 hr hc
    obtain ⟨hg1, hr⟩ := of_guard1 hr
    obtain ⟨hg2, hr⟩ := of_guard1 hr
    repeat refine gA ?_
    refine ⟨?_, ?_⟩ <;> intro hc
    ·have hr := ifP1 hr hc
     repeat refine gA ?_
     have hr := of_out0 hr
     cases hr
     exact lf
    ·have hr := ifN1 hr hc
     repeat refine gA ?_
     refine S.sees [0, 1, 5] [] [] ?_ hr
     exact lf
   ·have hr := ifN1 hr hc
    repeat refine gA ?_
    have hr := of_out0 hr
    repeat refine gA ?_
    cases hr
    exact lf
theorem f20 : FnFact Tryz.prog 20 T20.sp := ⟨⟨Tryz.f20, Tryz.func20, by decide, rfl⟩, v20⟩
end

/- martensite/martensitebase.Ints -/
def b21_1 (a0 : List (Int)) (a1 : List (Int)) : (Int) → Ctl (Int) (Bool) := fun s1 =>
  if (decide (s1 < (a0.length : Int))) = true then
   if 0 ≤ s1 ∧ s1 < (a0.length : Int) then
    if 0 ≤ s1 ∧ s1 < (a1.length : Int) then
     if ((a0.getD s1.toNat default) != (a1.getD s1.toNat default)) = true then
      .out (some false)
      else .next (IntKind.i64.wrap (s1 + 1))
     else .out none
    else .out none
   else .out (some true)
def r21 (a0 : List (Int)) (a1 : List (Int)) : Option (Bool) :=
  if ((a0.length : Int) != (a1.length : Int)) = true then
   some false
   else iterC (b21_1 a0 a1) 1000000000 0
def T21 : TSpec qA18 := mkT qE18 qd18 (fun ⟨a0, a1⟩ => r21 a0 a1) qu2 false
theorem TP21 (c0 c1 : D) : T21.sp.pre [.c c0, .c c1] = (eqvArgs (qt18 c0 c1) (qp18 qw18 c0 c1) ∧ (qp18 r21 c0 c1).isSome = true) := (rfl)
theorem TR21 (c0 c1 : D) : T21.sp.res [.c c0, .c c1] = qu2 ((qp18 r21 c0 c1).getD default) := (rfl)
theorem TA21 : T21.sp.alias = false := (rfl)
def tb21 : Fns := lk []
theorem tb21_ok : FnsOk Tryz.prog tb21 := FnsOk.nil
theorem lt21_0 : (IntKind.i64.wrap (0 + 1)) = 1 := by first | rfl | decide | simp
attribute [go_sem] TP21 TR21 TA21
section
attribute [local go_sem] T21 Tryz.results21 lt21_0
theorem v21 : Valid Tryz.prog 21 T21.sp := by
 refine valid_t (fn := Tryz.f21) (n := 26) ty_ok tb21_ok Tryz.func21 rfl Tryz.ntmps21 ?_
 rintro ⟨a0, a1⟩ hx
 obtain ⟨r, hr⟩ := oE (show (r21 a0 a1).isSome = true from hx)
 have hres : T21.res (a0, a1) = qu2 r := by simp only [T21, mkT, hr, oG]
 refine ⟨nL rfl, fun stop S => ?_⟩
 rw [hres] at S
 unfold r21 at hr
 refine S.gx [] ?_
 repeat refine gA ?_
 refine ⟨?_, ?_⟩ <;> intro hc
 ·have hr := ifP hr hc
  repeat refine gA ?_
  cases hr
  exact lf
 ·have hr := ifN hr hc
  repeat refine gA ?_
  refine S.sees [0, 1, 5] [] [] ?_ (Stop.iter S (fun s1 => ⟨[(0, .c (.d (encF 1 d_I a0))), (1, .c (.d (encF 1 d_I a1))), (5, .c (.d (.int .i64 s1)))], [], []⟩) (b21_1 a0 a1) (fun q => q = r) hr rfl ?_)
  ·exact lf
  ·intro s1 hr
   unfold b21_1 at hr
   refine S.gx [] ?_
   repeat refine gA ?_
   refine ⟨?_, ?_⟩ <;> intro hc
   ·have hr := ifP1 hr hc
    obtain ⟨hg1, hr⟩ := of_guard1 hr
    obtain ⟨hg2, hr⟩ := of_guard1 hr
    repeat refine gA ?_
    refine ⟨?_, ?_⟩ <;> intro hc
    ·have hr := ifP1 hr hc
     repeat refine gA ?_
     have hr := of_out0 hr
     cases hr
     exact lf
    ·have hr := ifN1 hr hc
     repeat refine gA ?_
     refine S.sees [0, 1, 5] [] [] ?_ hr
     exact lf
   ·have hr := ifN1 hr hc
    repeat refine gA ?_
    have hr := of_out0 hr
    repeat refine gA ?_
    cases hr
    exact lf
theorem f21 : FnFact Tryz.prog 21 T21.sp := ⟨⟨Tryz.f21, Tryz.func21, by decide, rfl⟩, v21⟩
end

/- martensite/martensitelaw02.awake -/
def r4 : Option (Bool) :=
  (r14).bind fun v1 =>
   (r15).bind fun v2 =>
    (r13 v1.1 v1.2 v2.1 v2.2).bind fun v3 =>
     (r16 v1.1 v1.2 v2.1 v2.2 100).bind fun v4 =>
      (r17 v1.1 v1.2 v2.1 v2.2).bind fun v5 =>
       (r18 v1.1 v1.2 v2.1 v2.2 0 1).bind fun v6 =>
        (r19 v1.1 v1.2 [false, false] 70 1).bind fun v7 =>
         if (v3.2 == 0) = true → (r20 v3.1 [((-1), 5), (1, 1), (1, 0)]).isSome = true then
          if (((v3.2 == 0) && ((r20 v3.1 [((-1), 5), (1, 1), (1, 0)]).getD default)) && (v4.2 == 0)) = true → (r21 v4.1 [66, 34]).isSome = true then
           some ((((((((((v3.2 == 0) && ((r20 v3.1 [((-1), 5), (1, 1), (1, 0)]).getD default)) && (v4.2 == 0)) && ((r21 v4.1 [66, 34]).getD default)) && (v5.2.2.2.2 == 0)) && ((v5.1 == (-4)) && ((v5.2.1 == 20) && ((v5.2.2.1 == 2) && (v5.2.2.2.1 == 1))))) && (v6.2.2.2.2 == 0)) && ((v6.1 == 0) && ((v6.2.1 == (-2)) && ((v6.2.2.1 == 1) && (v6.2.2.2.1 == (-5)))))) && (v7.2 == 0)) && (v7.1 == 2))
           else none
          else none
def T4 : TSpec qA0 := mkT qE0 qd0 (fun _ => r4) qu2 false
theorem TP4 : T4.sp.pre [] = (eqvArgs (qt0 ) (qp0 qw0 ) ∧ (qp0 r4).isSome = true) := (rfl)
theorem TR4 : T4.sp.res [] = qu2 ((qp0 r4).getD default) := (rfl)
theorem TA4 : T4.sp.alias = false := (rfl)
def tb4 : Fns := lk [(13, T13.sp), (14, T14.sp), (15, T15.sp), (16, T16.sp), (17, T17.sp), (18, T18.sp), (19, T19.sp), (20, T20.sp), (21, T21.sp)]
theorem tb4_ok : FnsOk Tryz.prog tb4 := .cons f13 (.cons f14 (.cons f15 (.cons f16 (.cons f17 (.cons f18 (.cons f19 (.cons f20 (.cons f21 (FnsOk.nil)))))))))
theorem tb4_13 : tb4 13 = some T13.sp := rfl
theorem tb4_14 : tb4 14 = some T14.sp := rfl
theorem tb4_15 : tb4 15 = some T15.sp := rfl
theorem tb4_16 : tb4 16 = some T16.sp := rfl
theorem tb4_17 : tb4 17 = some T17.sp := rfl
theorem tb4_18 : tb4 18 = some T18.sp := rfl
theorem tb4_19 : tb4 19 = some T19.sp := rfl
theorem tb4_20 : tb4 20 = some T20.sp := rfl
theorem tb4_21 : tb4 21 = some T21.sp := rfl
attribute [go_sem] TP4 TR4 TA4
section
attribute [local go_sem] T4 tb4_13 tb4_14 tb4_15 tb4_16 tb4_17 tb4_18 tb4_19 tb4_20 tb4_21 Tryz.results4
theorem v4 : Valid Tryz.prog 4 T4.sp := by
 refine valid_t (fn := Tryz.f4) (n := 92) ty_ok tb4_ok Tryz.func4 rfl Tryz.ntmps4 ?_
 intro _ hx
 obtain ⟨r, hr⟩ := oE (show (r4).isSome = true from hx)
 have hres : T4.res () = qu2 r := by simp only [T4, mkT, hr, oG]
 refine ⟨nL rfl, fun stop S => ?_⟩
 rw [hres] at S
 unfold r4 at hr
 refine S.gx [] ?_
 obtain ⟨v1, hv1, hr⟩ := of_bind0 hr
 obtain ⟨v2, hv2, hr⟩ := of_bind0 hr
 obtain ⟨v3, hv3, hr⟩ := of_bind0 hr
 obtain ⟨v4, hv4, hr⟩ := of_bind0 hr
 obtain ⟨v5, hv5, hr⟩ := of_bind0 hr
 obtain ⟨v6, hv6, hr⟩ := of_bind0 hr
 obtain ⟨v7, hv7, hr⟩ := of_bind0 hr
 obtain ⟨hg8, hr⟩ := of_guard0 hr
 obtain ⟨hg9, hr⟩ := of_guard0 hr
 try simp only [hv1, hv2, hv3, hv4, hv5, hv6, hv7, Option.getD_some, Option.isSome_some, true_and, and_assoc]
 repeat (first | refine gG hg8 ?_ | refine gG hg9 ?_ | refine gA ?_ | refine gB ?_)
 cases hr
 exact lf
theorem f4 : FnFact Tryz.prog 4 T4.sp := ⟨⟨Tryz.f4, Tryz.func4, by decide, rfl⟩, v4⟩
end

/- martensite/martensitelaw02.few -/
def r5 (x1 : Int) (x0 : List (Int × Int × Int)) : Option (Bool) :=
  some (decide ((x0.length : Int) ≤ 6))
def T5 : TSpec qA5 := mkT qE5 qd5 (fun ⟨x1, x0⟩ => r5 x1 x0) qu2 false
theorem TP5 (c0 c1 : D) : T5.sp.pre [.agg [c0, c1]] = (eqvArgs (qt5 c0 c1) (qp5 qw5 c0 c1) ∧ (qp5 r5 c0 c1).isSome = true) := (rfl)
theorem TR5 (c0 c1 : D) : T5.sp.res [.agg [c0, c1]] = qu2 ((qp5 r5 c0 c1).getD default) := (rfl)
theorem TA5 : T5.sp.alias = false := (rfl)
def tb5 : Fns := lk []
theorem tb5_ok : FnsOk Tryz.prog tb5 := FnsOk.nil
attribute [go_sem] TP5 TR5 TA5
section
attribute [local go_sem] T5 Tryz.results5
theorem v5 : Valid Tryz.prog 5 T5.sp := by
 refine valid_t (fn := Tryz.f5) (n := 7) ty_ok tb5_ok Tryz.func5 rfl Tryz.ntmps5 ?_
 rintro ⟨x1, x0⟩ hx
 obtain ⟨r, hr⟩ := oE (show (r5 x1 x0).isSome = true from hx)
 have hres : T5.res (x1, x0) = qu2 r := by simp only [T5, mkT, hr, oG]
 refine ⟨nL rfl, fun stop S => ?_⟩
 rw [hres] at S
 unfold r5 at hr
 refine S.gx [] ?_
 repeat refine gA ?_
 cases hr
 exact lf
theorem f5 : FnFact Tryz.prog 5 T5.sp := ⟨⟨Tryz.f5, Tryz.func5, by decide, rfl⟩, v5⟩
end

/- martensite/martensiteref02.CopyLadder -/
def r7 (x1 : Int) (x0 : List (Int × Int × Int)) : Option (Int × (List (Int × Int × Int))) :=
  if (0 + x0.length) * 24 ≤ 140737488355328 ∧ 0 + x0.length ≤ 9223372036854775807 then
   some (x1, x0)
   else none
def T7 : TSpec qA5 := mkT qE5 qd5 (fun ⟨x1, x0⟩ => r7 x1 x0) qu0 false
theorem TP7 (c0 c1 : D) : T7.sp.pre [.agg [c0, c1]] = (eqvArgs (qt5 c0 c1) (qp5 qw5 c0 c1) ∧ (qp5 r7 c0 c1).isSome = true) := (rfl)
theorem TR7 (c0 c1 : D) : T7.sp.res [.agg [c0, c1]] = qu0 ((qp5 r7 c0 c1).getD default) := (rfl)
theorem TA7 : T7.sp.alias = false := (rfl)
def tb7 : Fns := lk []
theorem tb7_ok : FnsOk Tryz.prog tb7 := FnsOk.nil
attribute [go_sem] TP7 TR7 TA7
section
attribute [local go_sem] T7 Tryz.results7
theorem v7 : Valid Tryz.prog 7 T7.sp := by
 refine valid_t (fn := Tryz.f7) (n := 9) ty_ok tb7_ok Tryz.func7 rfl Tryz.ntmps7 ?_
 rintro ⟨x1, x0⟩ hx
 obtain ⟨r, hr⟩ := oE (show (r7 x1 x0).isSome = true from hx)
 have hres : T7.res (x1, x0) = qu0 r := by simp only [T7, mkT, hr, oG]
 refine ⟨nL rfl, fun stop S => ?_⟩
 rw [hres] at S
 unfold r7 at hr
 refine S.gx [] ?_
 obtain ⟨hg1, hr⟩ := of_guard0 hr
 repeat refine gA ?_
 cases hr
 exact lf
theorem f7 : FnFact Tryz.prog 7 T7.sp := ⟨⟨Tryz.f7, Tryz.func7, by decide, rfl⟩, v7⟩
end

/- strconv.Itoa -/
def r22 (a0 : Int) : Option (ByteArray) :=
  itoaV a0
def T22 : TSpec qA4 := mkT qE4 qd4 r22 qu15 false
theorem TP22 (c0 : D) : T22.sp.pre [.c c0] = (eqvArgs (qt4 c0) (qp4 qw4 c0) ∧ (qp4 r22 c0).isSome = true) := (rfl)
theorem TR22 (c0 : D) : T22.sp.res [.c c0] = qu15 ((qp4 r22 c0).getD default) := (rfl)
theorem TA22 : T22.sp.alias = false := (rfl)
attribute [go_sem] TP22 TR22 TA22
theorem v22 : Valid Tryz.prog 22 T22.sp := lib_Itoa (fun _ => rfl) (fun _ => rfl) (fun _ => rfl) rfl
theorem f22 : FnFact Tryz.prog 22 T22.sp := ⟨⟨Tryz.f22, Tryz.func22, by decide, rfl⟩, v22⟩

/- strings.Join -/
def r23 (a0 : List (ByteArray)) (a1 : ByteArray) : Option (ByteArray) :=
  joinV a0 a1
def T23 : TSpec qA19 := mkT qE19 qd19 (fun ⟨a0, a1⟩ => r23 a0 a1) qu15 false
theorem TP23 (c0 c1 : D) : T23.sp.pre [.c c0, .c c1] = (eqvArgs (qt19 c0 c1) (qp19 qw19 c0 c1) ∧ (qp19 r23 c0 c1).isSome = true) := (rfl)
theorem TR23 (c0 c1 : D) : T23.sp.res [.c c0, .c c1] = qu15 ((qp19 r23 c0 c1).getD default) := (rfl)
theorem TA23 : T23.sp.alias = false := (rfl)
attribute [go_sem] TP23 TR23 TA23
theorem v23 : Valid Tryz.prog 23 T23.sp := lib_Join (fun _ => rfl) (fun _ => rfl) (fun _ => rfl) rfl
theorem f23 : FnFact Tryz.prog 23 T23.sp := ⟨⟨Tryz.f23, Tryz.func23, by decide, rfl⟩, v23⟩

/- martensite/field.FormatLadder -/
def b6_2 (x0 : List (Int × Int × Int)) (s1 : Int × (List (ByteArray))) : ((List (ByteArray)) × Int) → Ctl ((List (ByteArray)) × Int) (Ctl (Int × (List (ByteArray))) (ByteArray)) := fun s2 =>
  if (decide (s2.2 < 3)) = true then
   if s2.2 = 0 then
    bindC (r22 ((x0.getD s1.1.toNat default).1)) fun v9 =>
     if (s2.1.length + 1) * 16 ≤ 140737488355328 ∧ s2.1.length + 1 ≤ 9223372036854775807 then
      .next (s2.1 ++ [v9], 1)
      else .out none
    else if s2.2 = 1 then
     bindC (r22 ((x0.getD s1.1.toNat default).2.1)) fun v6 =>
      if (s2.1.length + 1) * 16 ≤ 140737488355328 ∧ s2.1.length + 1 ≤ 9223372036854775807 then
       .next (s2.1 ++ [v6], 2)
       else .out none
     else if s2.2 = 2 then
      bindC (r22 ((x0.getD s1.1.toNat default).2.2)) fun v3 =>
       if (s2.1.length + 1) * 16 ≤ 140737488355328 ∧ s2.1.length + 1 ≤ 9223372036854775807 then
        .next (s2.1 ++ [v3], 3)
        else .out none
      else .out none
   else .out (some (bindC (r23 s2.1 (⟨#[32]⟩ : ByteArray)) fun v11 =>
    if (s1.2.length + 1) * 16 ≤ 140737488355328 ∧ s1.2.length + 1 ≤ 9223372036854775807 then
     .next (IntKind.i64.wrap (s1.1 + 1), s1.2 ++ [v11])
     else .out none))
def b6_1 (x0 : List (Int × Int × Int)) : (Int × (List (ByteArray))) → Ctl (Int × (List (ByteArray))) (ByteArray) := fun s1 =>
  if (decide (s1.1 < (x0.length : Int))) = true then
   if 0 ≤ s1.1 ∧ s1.1 < (x0.length : Int) then
    (iterC (b6_2 x0 s1) 1000000000 ([], 0)).getD (.out none)
    else .out none
   else .out ((r23 s1.2 (⟨#[59]⟩ : ByteArray)).bind fun v14 =>
    some v14)
def r6 (x1 : Int) (x0 : List (Int × Int × Int)) : Option (ByteArray) :=
  (r22 x1).bind fun v1 =>
   iterC (b6_1 x0) 1000000000 (0, [v1])
def T6 : TSpec qA5 := mkT qE5 qd5 (fun ⟨x1, x0⟩ => r6 x1 x0) qu15 false
theorem TP6 (c0 c1 : D) : T6.sp.pre [.agg [c0, c1]] = (eqvArgs (qt5 c0 c1) (qp5 qw5 c0 c1) ∧ (qp5 r6 c0 c1).isSome = true) := (rfl)
theorem TR6 (c0 c1 : D) : T6.sp.res [.agg [c0, c1]] = qu15 ((qp5 r6 c0 c1).getD default) := (rfl)
theorem TA6 : T6.sp.alias = false := (rfl)
def tb6 : Fns := lk [(22, T22.sp), (23, T23.sp)]
theorem tb6_ok : FnsOk Tryz.prog tb6 := .cons f22 (.cons f23 (FnsOk.nil))
theorem tb6_22 : tb6 22 = some T22.sp := rfl
theorem tb6_23 : tb6 23 = some T23.sp := rfl
theorem lt6_0 : (decide ((0 : Int) < 3)) = true := by first | rfl | decide | simp
theorem lt6_1 : (IntKind.i64.wrap (0 + 1)) = 1 := by first | rfl | decide | simp
theorem lt6_2 : (((2 : Int) = 0 ∨ (0 : Int) < 2)) = True := by first | rfl | decide | simp
theorem lt6_3 : (IntKind.i64.wrap (2 + 1)) = 3 := by first | rfl | decide | simp
theorem lt6_4 : (((1 : Int) = 0 ∨ (0 : Int) < 1)) = True := by first | rfl | decide | simp
theorem lt6_5 : (IntKind.i64.wrap (1 + 1)) = 2 := by first | rfl | decide | simp
attribute [go_sem] TP6 TR6 TA6
section
attribute [local go_sem] T6 tb6_22 tb6_23 Tryz.results6 lt6_0 lt6_1 lt6_2 lt6_3 lt6_4 lt6_5
theorem v6 : Valid Tryz.prog 6 T6.sp := by
 refine valid_t (fn := Tryz.f6) (n := 44) ty_ok tb6_ok Tryz.func6 rfl Tryz.ntmps6 ?_
 rintro ⟨x1, x0⟩ hx
 obtain ⟨r, hr⟩ := oE (show (r6 x1 x0).isSome = true from hx)
 have hres : T6.res (x1, x0) = qu15 r := by simp only [T6, mkT, hr, oG]
 refine ⟨nL rfl, fun stop S => ?_⟩
 rw [hres] at S
 unfold r6 at hr
 refine S.gx [8] ?_
 obtain ⟨v1, hv1, hr⟩ := of_bind0 hr
 try simp only [hv1, oG, oI, true_and, and_assoc]
 repeat refine gA ?_
 refine S.sees [3, 14, 15, 16] [] [(12, 12)] ?_ (Stop.iter S (fun s1 => ⟨[(3, .c (.own 12)), (14, .c (.d (encF 3 d_III x0))), (15, .c (.d (.int .i64 (x0.length : Int)))), (16, .c (.d (.int .i64 s1.1)))], [], [(12, .owned (encF 1 d_S s1.2))]⟩) (b6_1 x0) (fun q => q = r) hr rfl ?_)
 ·exact lf
 ·intro s1 hr
  unfold b6_1 at hr
  refine S.gx [8] ?_
  repeat refine gA ?_
  refine ⟨?_, ?_⟩ <;> intro hc
  ·have hr := ifP1 hr hc
   obtain ⟨hg13, hr⟩ := of_guard1 hr
   repeat refine gA ?_
   refine S.own0 6 1000600 1 rfl rfl ?_
   obtain ⟨q2, hq, hr⟩ := of_iter1 hr
   refine S.sees [3, 6, 14, 15, 16, 26, 27] [] [(1000600, 1000600), (12, 12)] ?_ (Stop.iter S (fun s2 => ⟨[(3, .c (.own 12)), (6, .c (.own 1000600)), (14, .c (.d (encF 3 d_III x0))), (15, .c (.d (.int .i64 (x0.length : Int)))), (16, .c (.d (.int .i64 s1.1))), (26, .agg [.d (.int .i64 ((x0.getD s1.1.toNat default).1)), .d (.int .i64 ((x0.getD s1.1.toNat default).2.1)), .d (.int .i64 ((x0.getD s1.1.toNat default).2.2))]), (27, .c (.d (.int .i64 s2.2)))], [], [(1000600, .owned (encF 1 d_S s2.1)), (12, .owned (encF 1 d_S s1.2))]⟩) (b6_2 x0 s1) _ hq hr ?_)
   ·exact lf
   ·intro s2 hr
    unfold b6_2 at hr
    refine S.gx [8] ?_
    repeat refine gA ?_
    refine ⟨?_, ?_⟩ <;> intro hc
    ·have hr := ifP1 hr hc
     repeat refine gA ?_
     by_cases hs8 : s2.2 = 0
     ·rw [if_pos hs8] at hr
      simp only [hs8]
      refine S.gx [] ?_
      repeat refine gA ?_
      obtain ⟨v9, hv9, hr⟩ := of_bind1 hr
      obtain ⟨hg10, hr⟩ := of_guard1 hr
      try simp only [hv9, oG, oI, true_and, and_assoc]
      repeat refine gA ?_
      refine S.sees [3, 6, 14, 15, 16, 26, 27] [] [(34, 1000600), (12, 12)] ?_ hr
      exact lf
     ·rw [if_neg hs8] at hr
      by_cases hs5 : s2.2 = 1
      ·rw [if_pos hs5] at hr
       simp only [hs5]
       refine S.gx [] ?_
       repeat refine gA ?_
       obtain ⟨v6, hv6, hr⟩ := of_bind1 hr
       obtain ⟨hg7, hr⟩ := of_guard1 hr
       try simp only [hv6, oG, oI, true_and, and_assoc]
       repeat refine gA ?_
       refine S.sees [3, 6, 14, 15, 16, 26, 27] [] [(34, 1000600), (12, 12)] ?_ hr
       exact lf
      ·rw [if_neg hs5] at hr
       by_cases hs2 : s2.2 = 2
       ·rw [if_pos hs2] at hr
        simp only [hs2]
        refine S.gx [] ?_
        repeat refine gA ?_
        obtain ⟨v3, hv3, hr⟩ := of_bind1 hr
        obtain ⟨hg4, hr⟩ := of_guard1 hr
        try simp only [hv3, oG, oI, true_and, and_assoc]
        repeat refine gA ?_
        refine S.sees [3, 6, 14, 15, 16, 26, 27] [] [(34, 1000600), (12, 12)] ?_ hr
        exact lf
       ·rw [if_neg hs2] at hr
        first | cases hr | exact hr.elim
    ·have hr := ifN1 hr hc
     repeat refine gA ?_
     replace hr := goodC_out hr
     obtain ⟨v11, hv11, hr⟩ := of_bind1 hr
     obtain ⟨hg12, hr⟩ := of_guard1 hr
     try simp only [hv11, oG, oI, true_and, and_assoc]
     repeat refine gA ?_
     refine S.sees [3, 14, 15, 16] [] [(40, 12)] ?_ hr
     exact lf
  ·have hr := ifN1 hr hc
   repeat refine gA ?_
   have hr := of_out0 hr
   obtain ⟨v14, hv14, hr⟩ := of_bind0 hr
   try simp only [hv14, oG, oI, true_and, and_assoc]
   repeat refine gA ?_
   cases hr
   exact lf
theorem f6 : FnFact Tryz.prog 6 T6.sp := ⟨⟨Tryz.f6, Tryz.func6, by decide, rfl⟩, v6⟩
end

/- strings.Split -/
def r24 (a0 : ByteArray) (a1 : ByteArray) : Option ((List (ByteArray))) :=
  splitV a0 a1
def T24 : TSpec qA20 := mkT qE20 qd20 (fun ⟨a0, a1⟩ => r24 a0 a1) qu16 false
theorem TP24 (c0 c1 : D) : T24.sp.pre [.c c0, .c c1] = (eqvArgs (qt20 c0 c1) (qp20 qw20 c0 c1) ∧ (qp20 r24 c0 c1).isSome = true) := (rfl)
theorem TR24 (c0 c1 : D) : T24.sp.res [.c c0, .c c1] = qu16 ((qp20 r24 c0 c1).getD default) := (rfl)
theorem TA24 : T24.sp.alias = false := (rfl)
attribute [go_sem] TP24 TR24 TA24
theorem v24 : Valid Tryz.prog 24 T24.sp := lib_Split (fun _ => rfl) (fun _ => rfl) (fun _ => rfl) rfl
theorem f24 : FnFact Tryz.prog 24 T24.sp := ⟨⟨Tryz.f24, Tryz.func24, by decide, rfl⟩, v24⟩

/- strings.Index -/
def r70 (a0 : ByteArray) (a1 : ByteArray) : Option (Int) :=
  indexV a0 a1
def T70 : TSpec qA20 := mkT qE20 qd20 (fun ⟨a0, a1⟩ => r70 a0 a1) qu3 false
theorem TP70 (c0 c1 : D) : T70.sp.pre [.c c0, .c c1] = (eqvArgs (qt20 c0 c1) (qp20 qw20 c0 c1) ∧ (qp20 r70 c0 c1).isSome = true) := (rfl)
theorem TR70 (c0 c1 : D) : T70.sp.res [.c c0, .c c1] = qu3 ((qp20 r70 c0 c1).getD default) := (rfl)
theorem TA70 : T70.sp.alias = false := (rfl)
attribute [go_sem] TP70 TR70 TA70
theorem v70 : Valid Tryz.prog 70 T70.sp := lib_Index (fun _ => rfl) (fun _ => rfl) (fun _ => rfl) rfl
theorem f70 : FnFact Tryz.prog 70 T70.sp := ⟨⟨Tryz.f70, Tryz.func70, by decide, rfl⟩, v70⟩

/- strconv.Atoi -/
def r53 (a0 : ByteArray) : Option (Int × Bool) :=
  atoiV a0
def T53 : TSpec qA21 := mkT qE21 qd21 r53 qu17 false
theorem TP53 (c0 : D) : T53.sp.pre [.c c0] = (eqvArgs (qt21 c0) (qp21 qw21 c0) ∧ (qp21 r53 c0).isSome = true) := (rfl)
theorem TR53 (c0 : D) : T53.sp.res [.c c0] = qu17 ((qp21 r53 c0).getD default) := (rfl)
theorem TA53 : T53.sp.alias = false := (rfl)
attribute [go_sem] TP53 TR53 TA53
theorem v53 : Valid Tryz.prog 53 T53.sp := lib_Atoi (fun _ => rfl) (fun _ => rfl) (fun _ => rfl) rfl
theorem f53 : FnFact Tryz.prog 53 T53.sp := ⟨⟨Tryz.f53, Tryz.func53, by decide, rfl⟩, v53⟩

/- martensite/field.numbers -/
def b25_1 (a1 : Int) : (ByteArray × (List (Int))) → Ctl (ByteArray × (List (Int))) ((List (Int)) × Bool) := fun s1 =>
  bindC (r70 s1.1 (⟨#[32]⟩ : ByteArray)) fun v1 =>
   if (decide (v1 < 0)) = true then
    .out ((r53 s1.1).bind fun v2 =>
     if (!(v2.2 || (decide (v2.1 < 0)))) = true → (r22 v2.1).isSome = true then
      if (((v2.2 || (decide (v2.1 < 0))) || (!(decide (((r22 v2.1).getD default) = s1.1)))) || (decide ((s1.1.size : Int) > 3))) = true then
       some ([], false)
       else if (s1.2.length + 1) * 8 ≤ 140737488355328 ∧ s1.2.length + 1 ≤ 9223372036854775807 then
        some (s1.2 ++ [v2.1], ((s1.2.length + 1) : Int) == a1)
        else none
      else none)
    else if 0 ≤ 0 ∧ 0 ≤ IntKind.i64.wrap (v1 + 0) ∧ IntKind.i64.wrap (v1 + 0) ≤ (s1.1.size : Int) then
     bindC (r53 (s1.1.extract 0 (IntKind.i64.wrap (v1 + 0)).toNat)) fun v5 =>
      if (!(v5.2 || (decide (v5.1 < 0)))) = true → (r22 v5.1).isSome = true then
       if (((v5.2 || (decide (v5.1 < 0))) || (!(decide (((r22 v5.1).getD default) = (s1.1.extract 0 (IntKind.i64.wrap (v1 + 0)).toNat))))) || (decide (((s1.1.extract 0 (IntKind.i64.wrap (v1 + 0)).toNat).size : Int) > 3))) = true then
        .out (some ([], false))
        else if (s1.2.length + 1) * 8 ≤ 140737488355328 ∧ s1.2.length + 1 ≤ 9223372036854775807 then
         if 0 ≤ IntKind.i64.wrap (v1 + 1) ∧ IntKind.i64.wrap (v1 + 1) ≤ (s1.1.size : Int) ∧ (s1.1.size : Int) ≤ (s1.1.size : Int) then
          .next (s1.1.extract (IntKind.i64.wrap (v1 + 1)).toNat s1.1.size, s1.2 ++ [v5.1])
          else .out none
         else .out none
       else .out none
     else .out none
def r25 (a0 : ByteArray) (a1 : Int) : Option ((List (Int)) × Bool) :=
  iterC (b25_1 a1) 1000000000 (a0, [])
def T25 : TSpec qA22 := mkT qE22 qd22 (fun ⟨a0, a1⟩ => r25 a0 a1) qu18 false
theorem TP25 (c0 c1 : D) : T25.sp.pre [.c c0, .c c1] = (eqvArgs (qt22 c0 c1) (qp22 qw22 c0 c1) ∧ (qp22 r25 c0 c1).isSome = true) := (rfl)
theorem TR25 (c0 c1 : D) : T25.sp.res [.c c0, .c c1] = qu18 ((qp22 r25 c0 c1).getD default) := (rfl)
theorem TA25 : T25.sp.alias = false := (rfl)
def tb25 : Fns := lk [(22, T22.sp), (53, T53.sp), (70, T70.sp)]
theorem tb25_ok : FnsOk Tryz.prog tb25 := .cons f22 (.cons f53 (.cons f70 (FnsOk.nil)))
theorem tb25_22 : tb25 22 = some T22.sp := rfl
theorem tb25_53 : tb25 53 = some T53.sp := rfl
theorem tb25_70 : tb25 70 = some T70.sp := rfl
theorem lt25_0 : (((#[32] : Array UInt8).size : Int)) = 1 := by first | rfl | decide | simp
theorem lt25_1 : ((((1 : Int)) == 0)) = false := by first | rfl | decide | simp
attribute [go_sem] TP25 TR25 TA25
section
attribute [local go_sem] T25 tb25_22 tb25_53 tb25_70 Tryz.results25 Tryz.results52 Tryz.results71 Tryz.results87 lt25_0 lt25_1
theorem v25 : Valid Tryz.prog 25 T25.sp := by
 refine valid_t (fn := Tryz.f25) (n := 44) ty_ok tb25_ok Tryz.func25 rfl Tryz.ntmps25 ?_
 rintro ⟨a0, a1⟩ hx
 obtain ⟨r, hr⟩ := oE (show (r25 a0 a1).isSome = true from hx)
 have hres : T25.res (a0, a1) = qu18 r := by simp only [T25, mkT, hr, oG]
 refine ⟨nL rfl, fun stop S => ?_⟩
 rw [hres] at S
 unfold r25 at hr
 refine S.gx [2] ?_
 repeat refine gA ?_
 refine S.inl 1 [1, 4, 5, 6] [] Tryz.func52 (by decide) rfl Tryz.ntmps52 (fun cx e => drawn_ok ty_ok tb25_ok cx e) (some 11) rfl rfl rfl rfl (nL rfl) (nL rfl) ?_
 refine gs ?_
 repeat refine gA ?_
 intro stop1 S1
 refine S1.gx [1] ?_
 repeat refine gA ?_
 refine S1.inl 2 [] [] Tryz.func71 (by decide) rfl Tryz.ntmps71 (fun cx e => drawn_ok ty_ok tb25_ok cx e) (some 7) rfl rfl rfl rfl (nL rfl) (nL rfl) ?_
 refine gs ?_
 repeat refine gA ?_
 intro stop2 S2
 refine S2.gx [] ?_
 repeat refine gA ?_
 refine S1.gx [1] ?_
 repeat refine gA ?_
 refine S.gx [2] ?_
 repeat refine gA ?_
 refine S.range [1, 4, 5, 6] Tryz.func87 (by decide) rfl Tryz.ntmps87 Tryz.results87 (fun cx e => drawn_ok ty_ok tb25_ok cx e) (fun cx e => drawn_ok ty_ok tb25_ok cx e) (by decide) rfl rfl (nL rfl) ?_
 intro l1 stop1 stopJ1 S1 SJ1 Y1
 refine S1.gx [3, 8, 10] ?_
 repeat refine gA ?_
 refine S1.own0b 6 0 2000600 1 rfl rfl (nL rfl) rfl ?_
 refine S1.sees [0, 1, 2, 3] [(100004, 100004), (3, 3), (100005, 100005), (4, 4), (5, 5), (6, 6)] [(2000600, 2000600)] ?_ (Stop.iter S1 (fun s1 => ⟨[(0, .c (.yld l1)), (1, .c (.ref 100004 0)), (2, .c (.ref 3 0)), (3, .c (.ref 100005 0))], [(100004, [.d (.str (⟨#[32]⟩ : ByteArray))]), (3, [.d (.str s1.1)]), (100005, [.d (.int .i64 0)]), (4, [.nils]), (5, [.d (.bool false)]), (6, [.own 2000600])], [(2000600, .owned (encF 1 d_I s1.2))]⟩) (b25_1 a1) (fun q => q = r) hr rfl ?_)
 ·exact lf
 ·intro s1 hr
  unfold b25_1 at hr
  refine S1.gx [3, 8, 10] ?_
  obtain ⟨v1, hv1, hr⟩ := of_bind1 hr
  try simp only [hv1, oG, oI, true_and, and_assoc]
  repeat refine gA ?_
  refine ⟨?_, ?_⟩ <;> intro hc
  ·have hr := ifP1 hr hc
   repeat refine gA ?_
   have hr := of_out0 hr
   repeat refine gA ?_
   refine Y1 2 [] (some 51) rfl rfl rfl rfl (nL rfl) (by rfl) ?_
   refine gs ?_
   repeat refine gA ?_
   intro stopA2 SA2
   refine SA2.gx [] ?_
   repeat refine gA ?_
   intro stop2 S2
   refine S2.gx [2] ?_
   obtain ⟨v2, hv2, hr⟩ := of_bind0 hr
   obtain ⟨hg4, hr⟩ := of_guard0 hr
   try simp only [hv2, oG, oI, true_and, and_assoc]
   repeat (first | refine gG hg4 ?_ | refine gA ?_ | refine gB ?_)
   refine ⟨?_, ?_⟩ <;> intro hc
   ·have hr := ifP hr hc
    repeat refine gA ?_
    refine (SJ1 .ret).gx [3, 8, 10] ?_
    repeat refine gA ?_
    refine S.gx [2] ?_
    repeat refine gA ?_
    cases hr
    exact lf
   ·have hr := ifN hr hc
    obtain ⟨hg3, hr⟩ := of_guard0 hr
    repeat refine gA ?_
    refine S1.gx [3, 8, 10] ?_
    repeat refine gA ?_
    refine S.gx [2] ?_
    repeat refine gA ?_
    cases hr
    exact lf
  ·have hr := ifN1 hr hc
   obtain ⟨hg9, hr⟩ := of_guard1 hr
   repeat refine gA ?_
   refine Y1 2 [0, 1, 2, 3, 7] (some 41) rfl rfl rfl rfl (nL rfl) (by rfl) ?_
   refine gs ?_
   repeat refine gA ?_
   intro stopA2 SA2
   refine SA2.gx [] ?_
   repeat refine gA ?_
   intro stop2 S2
   refine S2.gx [2] ?_
   obtain ⟨v5, hv5, hr⟩ := of_bind1 hr
   obtain ⟨hg8, hr⟩ := of_guard1 hr
   try simp only [hv5, oG, oI, true_and, and_assoc]
   repeat (first | refine gG hg8 ?_ | refine gA ?_ | refine gB ?_)
   refine ⟨?_, ?_⟩ <;> intro hc
   ·have hr := ifP1 hr hc
    repeat refine gA ?_
    refine (SJ1 .ret).gx [3, 8, 10] ?_
    repeat refine gA ?_
    have hr := of_out0 hr
    repeat refine gA ?_
    refine S.gx [2] ?_
    repeat refine gA ?_
    cases hr
    exact lf
   ·have hr := ifN1 hr hc
    obtain ⟨hg7, hr⟩ := of_guard1 hr
    repeat refine gA ?_
    refine S1.gx [3, 8, 10] ?_
    obtain ⟨hg6, hr⟩ := of_guard1 hr
    repeat refine gA ?_
    refine S1.sees [0, 1, 2, 3] [(100004, 100004), (3, 3), (100005, 100005), (4, 4), (5, 5), (6, 6)] [(38, 2000600)] ?_ hr
    exact lf
theorem f25 : FnFact Tryz.prog 25 T25.sp := ⟨⟨Tryz.f25, Tryz.func25, by decide, rfl⟩, v25⟩
end

/- martensite/field.ParseLadder -/
def b8_1 (v1 : (List (ByteArray))) : (Int × Int × (List (Int × Int × Int))) → Ctl (Int × Int × (List (Int × Int × Int))) (Int × (List (Int × Int × Int)) × Int) := fun s1 =>
  if (decide (s1.1 < (v1.length : Int))) = true then
   if 0 ≤ s1.1 ∧ s1.1 < (v1.length : Int) then
    if (s1.1 == 0) = true then
     bindC (r25 (v1.getD s1.1.toNat default) 1) fun v2 =>
      if (!v2.2) = true then
       .out (some (0, [], 7))
       else if (s1.1 == 0) = true then
        if 0 ≤ 0 ∧ 0 < (v2.1.length : Int) then
         .next (IntKind.i64.wrap (s1.1 + 1), (v2.1.getD 0 default), s1.2.2)
         else .out none
        else if 0 ≤ 0 ∧ 0 < (v2.1.length : Int) then
         if 0 ≤ 1 ∧ 1 < (v2.1.length : Int) then
          if 0 ≤ 2 ∧ 2 < (v2.1.length : Int) then
           if (s1.2.2.length + 1) * 24 ≤ 140737488355328 ∧ s1.2.2.length + 1 ≤ 9223372036854775807 then
            .next (IntKind.i64.wrap (s1.1 + 1), s1.2.1, s1.2.2 ++ [((v2.1.getD 0 default), (v2.1.getD 1 default), (v2.1.getD 2 default))])
            else .out none
           else .out none
          else .out none
         else .out none
     else bindC (r25 (v1.getD s1.1.toNat default) 3) fun v8 =>
      if (!v8.2) = true then
       .out (some (0, [], 7))
       else if (s1.1 == 0) = true then
        if 0 ≤ 0 ∧ 0 < (v8.1.length : Int) then
         .next (IntKind.i64.wrap (s1.1 + 1), (v8.1.getD 0 default), s1.2.2)
         else .out none
        else if 0 ≤ 0 ∧ 0 < (v8.1.length : Int) then
         if 0 ≤ 1 ∧ 1 < (v8.1.length : Int) then
          if 0 ≤ 2 ∧ 2 < (v8.1.length : Int) then
           if (s1.2.2.length + 1) * 24 ≤ 140737488355328 ∧ s1.2.2.length + 1 ≤ 9223372036854775807 then
            .next (IntKind.i64.wrap (s1.1 + 1), s1.2.1, s1.2.2 ++ [((v8.1.getD 0 default), (v8.1.getD 1 default), (v8.1.getD 2 default))])
            else .out none
           else .out none
          else .out none
         else .out none
    else .out none
   else .out ((r26 s1.2.1 s1.2.2).bind fun v15 =>
    if (v15 != 0) = true then
     some (0, [], v15)
     else some (s1.2.1, s1.2.2, 0))
def r8 (a0 : ByteArray) : Option (Int × (List (Int × Int × Int)) × Int) :=
  if (decide ((a0.size : Int) > 60000)) = true then
   some (0, [], 8)
   else (r24 a0 (⟨#[59]⟩ : ByteArray)).bind fun v1 =>
    iterC (b8_1 v1) 1000000000 (0, 0, [])
def T8 : TSpec qA21 := mkT qE21 qd21 r8 qu19 false
theorem TP8 (c0 : D) : T8.sp.pre [.c c0] = (eqvArgs (qt21 c0) (qp21 qw21 c0) ∧ (qp21 r8 c0).isSome = true) := (rfl)
theorem TR8 (c0 : D) : T8.sp.res [.c c0] = qu19 ((qp21 r8 c0).getD default) := (rfl)
theorem TA8 : T8.sp.alias = false := (rfl)
def tb8 : Fns := lk [(24, T24.sp), (25, T25.sp), (26, T26.sp)]
theorem tb8_ok : FnsOk Tryz.prog tb8 := .cons f24 (.cons f25 (.cons f26 (FnsOk.nil)))
theorem tb8_24 : tb8 24 = some T24.sp := rfl
theorem tb8_25 : tb8 25 = some T25.sp := rfl
theorem tb8_26 : tb8 26 = some T26.sp := rfl
theorem lt8_0 : ((((0 : Int)) == 0)) = true := by first | rfl | decide | simp
theorem lt8_1 : (IntKind.i64.wrap (0 + 1)) = 1 := by first | rfl | decide | simp
attribute [go_sem] TP8 TR8 TA8
section
attribute [local go_sem] T8 tb8_24 tb8_25 tb8_26 Tryz.results8 lt8_0 lt8_1
theorem v8 : Valid Tryz.prog 8 T8.sp := by
 refine valid_t (fn := Tryz.f8) (n := 65) ty_ok tb8_ok Tryz.func8 rfl Tryz.ntmps8 ?_
 rintro a0 hx
 obtain ⟨r, hr⟩ := oE (show (r8 a0).isSome = true from hx)
 have hres : T8.res a0 = qu19 r := by simp only [T8, mkT, hr, oG]
 refine ⟨nL rfl, fun stop S => ?_⟩
 rw [hres] at S
 unfold r8 at hr
 refine S.gx [] ?_
 repeat refine gA ?_
 refine ⟨?_, ?_⟩ <;> intro hc
 ·have hr := ifP hr hc
  repeat refine gA ?_
  cases hr
  exact lf
 ·have hr := ifN hr hc
  obtain ⟨v1, hv1, hr⟩ := of_bind0 hr
  try simp only [hv1, oG, oI, true_and, and_assoc]
  repeat refine gA ?_
  refine S.own0b 4 1 2000401 3 rfl rfl (nL rfl) rfl ?_
  refine S.sees [2, 4, 16, 17, 18] [(2, 2), (4, 4)] [(2000401, 2000401), (16, 16)] ?_ (Stop.iter S (fun s1 => ⟨[(2, .c (.ref 2 0)), (4, .c (.ref 4 0)), (16, .c (.own 16)), (17, .c (.d (.int .i64 (v1.length : Int)))), (18, .c (.d (.int .i64 s1.1)))], [(2, [.d (.int .i64 0), .nils]), (4, [.d (.int .i64 s1.2.1), .own 2000401])], [(2000401, .owned (encF 3 d_III s1.2.2)), (16, .owned (encF 1 d_S v1))]⟩) (b8_1 v1) (fun q => q = r) hr rfl ?_)
  ·exact lf
  ·intro s1 hr
   unfold b8_1 at hr
   refine S.gx [] ?_
   repeat refine gA ?_
   refine ⟨?_, ?_⟩ <;> intro hc
   ·have hr := ifP1 hr hc
    obtain ⟨hg14, hr⟩ := of_guard1 hr
    repeat refine gA ?_
    refine ⟨?_, ?_⟩ <;> intro hc
    ·have hr := ifP1 hr hc
     obtain ⟨v2, hv2, hr⟩ := of_bind1 hr
     try simp only [hv2, oG, oI, true_and, and_assoc]
     repeat refine gA ?_
     refine ⟨?_, ?_⟩ <;> intro hc
     ·have hr := ifP1 hr hc
      repeat refine gA ?_
      have hr := of_out0 hr
      cases hr
      exact lf
     ·have hr := ifN1 hr hc
      repeat refine gA ?_
      refine ⟨?_, ?_⟩ <;> intro hc
      ·have hr := ifP1 hr hc
       obtain ⟨hg3, hr⟩ := of_guard1 hr
       repeat refine gA ?_
       refine S.sees [2, 4, 16, 17, 18] [(2, 2), (4, 4)] [(2000401, 2000401), (16, 16)] ?_ hr
       exact lf
      ·have hr := ifN1 hr hc
       obtain ⟨hg4, hr⟩ := of_guard1 hr
       obtain ⟨hg5, hr⟩ := of_guard1 hr
       obtain ⟨hg6, hr⟩ := of_guard1 hr
       obtain ⟨hg7, hr⟩ := of_guard1 hr
       repeat refine gA ?_
       refine S.sees [2, 4, 16, 17, 18] [(2, 2), (4, 4)] [(44, 2000401), (16, 16)] ?_ hr
       exact lf
    ·have hr := ifN1 hr hc
     obtain ⟨v8, hv8, hr⟩ := of_bind1 hr
     try simp only [hv8, oG, oI, true_and, and_assoc]
     repeat refine gA ?_
     refine ⟨?_, ?_⟩ <;> intro hc
     ·have hr := ifP1 hr hc
      repeat refine gA ?_
      have hr := of_out0 hr
      cases hr
      exact lf
     ·have hr := ifN1 hr hc
      repeat refine gA ?_
      refine ⟨?_, ?_⟩ <;> intro hc
      ·have hr := ifP1 hr hc
       obtain ⟨hg9, hr⟩ := of_guard1 hr
       repeat refine gA ?_
       refine S.sees [2, 4, 16, 17, 18] [(2, 2), (4, 4)] [(2000401, 2000401), (16, 16)] ?_ hr
       exact lf
      ·have hr := ifN1 hr hc
       obtain ⟨hg10, hr⟩ := of_guard1 hr
       obtain ⟨hg11, hr⟩ := of_guard1 hr
       obtain ⟨hg12, hr⟩ := of_guard1 hr
       obtain ⟨hg13, hr⟩ := of_guard1 hr
       repeat refine gA ?_
       refine S.sees [2, 4, 16, 17, 18] [(2, 2), (4, 4)] [(44, 2000401), (16, 16)] ?_ hr
       exact lf
   ·have hr := ifN1 hr hc
    repeat refine gA ?_
    have hr := of_out0 hr
    obtain ⟨v15, hv15, hr⟩ := of_bind0 hr
    try simp only [hv15, oG, oI, true_and, and_assoc]
    repeat refine gA ?_
    refine ⟨?_, ?_⟩ <;> intro hc
    ·have hr := ifP hr hc
     repeat refine gA ?_
     cases hr
     exact lf
    ·have hr := ifN hr hc
     repeat refine gA ?_
     cases hr
     exact lf
theorem f8 : FnFact Tryz.prog 8 T8.sp := ⟨⟨Tryz.f8, Tryz.func8, by decide, rfl⟩, v8⟩
end

/- martensite/martensitebase.Cut -/
def b27_1 (a0 : ByteArray) (a1 : Int) : ((List (ByteArray)) × Int × Int) → Ctl ((List (ByteArray)) × Int × Int) ((List (ByteArray))) := fun s1 =>
  if (decide (s1.2.2 < (a0.size : Int))) = true then
   if 0 ≤ s1.2.2 ∧ s1.2.2 < (a0.size : Int) then
    if ((byteAt a0 s1.2.2.toNat) == a1) = true then
     if 0 ≤ s1.2.1 ∧ s1.2.1 ≤ s1.2.2 ∧ s1.2.2 ≤ (a0.size : Int) then
      if (s1.1.length + 1) * 16 ≤ 140737488355328 ∧ s1.1.length + 1 ≤ 9223372036854775807 then
       .next (s1.1 ++ [a0.extract s1.2.1.toNat s1.2.2.toNat], IntKind.i64.wrap (s1.2.2 + 1), IntKind.i64.wrap (s1.2.2 + 1))
       else .out none
      else .out none
     else .next (s1.1, s1.2.1, IntKind.i64.wrap (s1.2.2 + 1))
    else .out none
   else .out (if 0 ≤ s1.2.1 ∧ s1.2.1 ≤ (a0.size : Int) ∧ (a0.size : Int) ≤ (a0.size : Int) then
    if (s1.1.length + 1) * 16 ≤ 140737488355328 ∧ s1.1.length + 1 ≤ 9223372036854775807 then
     some (s1.1 ++ [a0.extract s1.2.1.toNat a0.size])
     else none
    else none)
def r27 (a0 : ByteArray) (a1 : Int) : Option ((List (ByteArray))) :=
  iterC (b27_1 a0 a1) 1000000000 ([], 0, 0)
def T27 : TSpec qA23 := mkT qE23 qd23 (fun ⟨a0, a1⟩ => r27 a0 a1) qu16 false
theorem TP27 (c0 c1 : D) : T27.sp.pre [.c c0, .c c1] = (eqvArgs (qt23 c0 c1) (qp23 qw23 c0 c1) ∧ (qp23 r27 c0 c1).isSome = true) := (rfl)
theorem TR27 (c0 c1 : D) : T27.sp.res [.c c0, .c c1] = qu16 ((qp23 r27 c0 c1).getD default) := (rfl)
theorem TA27 : T27.sp.alias = false := (rfl)
def tb27 : Fns := lk []
theorem tb27_ok : FnsOk Tryz.prog tb27 := FnsOk.nil
theorem lt27_0 : (IntKind.i64.wrap (0 + 1)) = 1 := by first | rfl | decide | simp
attribute [go_sem] TP27 TR27 TA27
section
attribute [local go_sem] T27 Tryz.results27 lt27_0
theorem v27 : Valid Tryz.prog 27 T27.sp := by
 refine valid_t (fn := Tryz.f27) (n := 34) ty_ok tb27_ok Tryz.func27 rfl Tryz.ntmps27 ?_
 rintro ⟨a0, a1⟩ hx
 obtain ⟨r, hr⟩ := oE (show (r27 a0 a1).isSome = true from hx)
 have hres : T27.res (a0, a1) = qu16 r := by simp only [T27, mkT, hr, oG]
 refine ⟨nL rfl, fun stop S => ?_⟩
 rw [hres] at S
 unfold r27 at hr
 refine S.gx [] ?_
 repeat refine gA ?_
 refine S.own0 5 1000500 1 rfl rfl ?_
 refine S.sees [0, 1, 5, 6, 7] [] [(1000500, 1000500)] ?_ (Stop.iter S (fun s1 => ⟨[(0, .c (.d (.str a0))), (1, .c (.d (.int .u8 a1))), (5, .c (.own 1000500)), (6, .c (.d (.int .i64 s1.2.1))), (7, .c (.d (.int .i64 s1.2.2)))], [], [(1000500, .owned (encF 1 d_S s1.1))]⟩) (b27_1 a0 a1) (fun q => q = r) hr rfl ?_)
 ·exact lf
 ·intro s1 hr
  unfold b27_1 at hr
  refine S.gx [] ?_
  repeat refine gA ?_
  refine ⟨?_, ?_⟩ <;> intro hc
  ·have hr := ifP1 hr hc
   obtain ⟨hg3, hr⟩ := of_guard1 hr
   repeat refine gA ?_
   refine ⟨?_, ?_⟩ <;> intro hc
   ·have hr := ifP1 hr hc
    obtain ⟨hg1, hr⟩ := of_guard1 hr
    obtain ⟨hg2, hr⟩ := of_guard1 hr
    repeat refine gA ?_
    refine S.sees [0, 1, 5, 6, 7] [] [(25, 1000500)] ?_ hr
    exact lf
   ·have hr := ifN1 hr hc
    repeat refine gA ?_
    refine S.sees [0, 1, 5, 6, 7] [] [(1000500, 1000500)] ?_ hr
    exact lf
  ·have hr := ifN1 hr hc
   repeat refine gA ?_
   have hr := of_out0 hr
   obtain ⟨hg4, hr⟩ := of_guard0 hr
   obtain ⟨hg5, hr⟩ := of_guard0 hr
   repeat refine gA ?_
   cases hr
   exact lf
theorem f27 : FnFact Tryz.prog 27 T27.sp := ⟨⟨Tryz.f27, Tryz.func27, by decide, rfl⟩, v27⟩
end

/- martensite/martensitebase.Number -/
def b55_1 (a0 : ByteArray) : (Int × Int) → Ctl (Int × Int) (Int × Bool) := fun s1 =>
  if (decide (s1.2 < (a0.size : Int))) = true then
   if 0 ≤ s1.2 ∧ s1.2 < (a0.size : Int) then
    if (!(decide ((byteAt a0 s1.2.toNat) < 48))) = true → 0 ≤ s1.2 ∧ s1.2 < (a0.size : Int) then
     if ((decide ((byteAt a0 s1.2.toNat) < 48)) || (decide ((byteAt a0 s1.2.toNat) > 57))) = true then
      .out (some (0, false))
      else if 0 ≤ s1.2 ∧ s1.2 < (a0.size : Int) then
       .next (IntKind.i64.wrap ((IntKind.i64.wrap (10 * s1.1)) + (IntKind.i64.wrap (IntKind.u8.wrap ((byteAt a0 s1.2.toNat) - 48)))), IntKind.i64.wrap (s1.2 + 1))
       else .out none
     else .out none
    else .out none
   else .out (some (IntKind.i64.wrap (0 - s1.1), true))
def b55_2 (a0 : ByteArray) : (Int × Int) → Ctl (Int × Int) (Int × Bool) := fun s2 =>
  if (decide (s2.2 < (a0.size : Int))) = true then
   if 0 ≤ s2.2 ∧ s2.2 < (a0.size : Int) then
    if (!(decide ((byteAt a0 s2.2.toNat) < 48))) = true → 0 ≤ s2.2 ∧ s2.2 < (a0.size : Int) then
     if ((decide ((byteAt a0 s2.2.toNat) < 48)) || (decide ((byteAt a0 s2.2.toNat) > 57))) = true then
      .out (some (0, false))
      else if 0 ≤ s2.2 ∧ s2.2 < (a0.size : Int) then
       .next (IntKind.i64.wrap ((IntKind.i64.wrap (10 * s2.1)) + (IntKind.i64.wrap (IntKind.u8.wrap ((byteAt a0 s2.2.toNat) - 48)))), IntKind.i64.wrap (s2.2 + 1))
       else .out none
     else .out none
    else .out none
   else .out (some (s2.1, true))
def r55 (a0 : ByteArray) (a1 : Int) : Option (Int × Bool) :=
  if (decide ((a0.size : Int) > 0)) = true → 0 ≤ 0 ∧ 0 < (a0.size : Int) then
   if ((decide ((a0.size : Int) > 0)) && ((byteAt a0 0) == 45)) = true then
    if (!(((a0.size : Int) == 1) || (decide ((IntKind.i64.wrap ((a0.size : Int) - 1)) > a1)))) = true → 0 ≤ 1 ∧ 1 < (a0.size : Int) then
     if ((((a0.size : Int) == 1) || (decide ((IntKind.i64.wrap ((a0.size : Int) - 1)) > a1))) || (((byteAt a0 1) == 48) && (decide ((a0.size : Int) > 1)))) = true then
      some (0, false)
      else iterC (b55_1 a0) 1000000000 (0, 1)
     else none
    else if (!(((a0.size : Int) == 0) || (decide ((IntKind.i64.wrap ((a0.size : Int) - 0)) > a1)))) = true → 0 ≤ 0 ∧ 0 < (a0.size : Int) then
     if ((((a0.size : Int) == 0) || (decide ((IntKind.i64.wrap ((a0.size : Int) - 0)) > a1))) || (((byteAt a0 0) == 48) && (decide ((a0.size : Int) > 1)))) = true then
      some (0, false)
      else iterC (b55_2 a0) 1000000000 (0, 0)
     else none
   else none
def T55 : TSpec qA22 := mkT qE22 qd22 (fun ⟨a0, a1⟩ => r55 a0 a1) qu20 false
theorem TP55 (c0 c1 : D) : T55.sp.pre [.c c0, .c c1] = (eqvArgs (qt22 c0 c1) (qp22 qw22 c0 c1) ∧ (qp22 r55 c0 c1).isSome = true) := (rfl)
theorem TR55 (c0 c1 : D) : T55.sp.res [.c c0, .c c1] = qu20 ((qp22 r55 c0 c1).getD default) := (rfl)
theorem TA55 : T55.sp.alias = false := (rfl)
def tb55 : Fns := lk []
theorem tb55_ok : FnsOk Tryz.prog tb55 := FnsOk.nil
theorem lt55_0 : (IntKind.i64.wrap (1 + 1)) = 2 := by first | rfl | decide | simp
theorem lt55_1 : ((((1 : Int)) == 1)) = true := by first | rfl | decide | simp
theorem lt55_2 : (IntKind.i64.wrap (0 + 1)) = 1 := by first | rfl | decide | simp
theorem lt55_3 : ((((0 : Int)) == 1)) = false := by first | rfl | decide | simp
attribute [go_sem] TP55 TR55 TA55
section
attribute [local go_sem] T55 Tryz.results55 lt55_0 lt55_1 lt55_2 lt55_3
theorem v55 : Valid Tryz.prog 55 T55.sp := by
 refine valid_t (fn := Tryz.f55) (n := 70) ty_ok tb55_ok Tryz.func55 rfl Tryz.ntmps55 ?_
 rintro ⟨a0, a1⟩ hx
 obtain ⟨r, hr⟩ := oE (show (r55 a0 a1).isSome = true from hx)
 have hres : T55.res (a0, a1) = qu20 r := by simp only [T55, mkT, hr, oG]
 refine ⟨nL rfl, fun stop S => ?_⟩
 rw [hres] at S
 unfold r55 at hr
 refine S.gx [] ?_
 obtain ⟨hg9, hr⟩ := of_guard0 hr
 repeat (first | refine gG hg9 ?_ | refine gA ?_ | refine gB ?_)
 refine ⟨?_, ?_⟩ <;> intro hc
 ·have hr := ifP hr hc
  obtain ⟨hg4, hr⟩ := of_guard0 hr
  repeat (first | refine gG hg4 ?_ | refine gA ?_ | refine gB ?_)
  refine ⟨?_, ?_⟩ <;> intro hc
  ·have hr := ifP hr hc
   repeat refine gA ?_
   cases hr
   exact lf
  ·have hr := ifN hr hc
   repeat refine gA ?_
   refine S.sees [0, 6, 7, 8] [] [] ?_ (Stop.iter S (fun s1 => ⟨[(0, .c (.d (.str a0))), (6, .c (.d (.int .i64 1))), (7, .c (.d (.int .i64 s1.1))), (8, .c (.d (.int .i64 s1.2)))], [], []⟩) (b55_1 a0) (fun q => q = r) hr rfl ?_)
   ·exact lf
   ·intro s1 hr
    unfold b55_1 at hr
    refine S.gx [] ?_
    repeat refine gA ?_
    refine ⟨?_, ?_⟩ <;> intro hc
    ·have hr := ifP1 hr hc
     obtain ⟨hg2, hr⟩ := of_guard1 hr
     obtain ⟨hg3, hr⟩ := of_guard1 hr
     repeat (first | refine gG hg3 ?_ | refine gA ?_ | refine gB ?_)
     refine ⟨?_, ?_⟩ <;> intro hc
     ·have hr := ifP1 hr hc
      repeat refine gA ?_
      have hr := of_out0 hr
      cases hr
      exact lf
     ·have hr := ifN1 hr hc
      obtain ⟨hg1, hr⟩ := of_guard1 hr
      repeat refine gA ?_
      refine S.sees [0, 6, 7, 8] [] [] ?_ hr
      exact lf
    ·have hr := ifN1 hr hc
     repeat refine gA ?_
     have hr := of_out0 hr
     repeat refine gA ?_
     cases hr
     exact lf
 ·have hr := ifN hr hc
  obtain ⟨hg8, hr⟩ := of_guard0 hr
  repeat (first | refine gG hg8 ?_ | refine gA ?_ | refine gB ?_)
  refine ⟨?_, ?_⟩ <;> intro hc
  ·have hr := ifP hr hc
   repeat refine gA ?_
   cases hr
   exact lf
  ·have hr := ifN hr hc
   repeat refine gA ?_
   refine S.sees [0, 6, 7, 8] [] [] ?_ (Stop.iter S (fun s2 => ⟨[(0, .c (.d (.str a0))), (6, .c (.d (.int .i64 0))), (7, .c (.d (.int .i64 s2.1))), (8, .c (.d (.int .i64 s2.2)))], [], []⟩) (b55_2 a0) (fun q => q = r) hr rfl ?_)
   ·exact lf
   ·intro s2 hr
    unfold b55_2 at hr
    refine S.gx [] ?_
    repeat refine gA ?_
    refine ⟨?_, ?_⟩ <;> intro hc
    ·have hr := ifP1 hr hc
     obtain ⟨hg6, hr⟩ := of_guard1 hr
     obtain ⟨hg7, hr⟩ := of_guard1 hr
     repeat (first | refine gG hg7 ?_ | refine gA ?_ | refine gB ?_)
     refine ⟨?_, ?_⟩ <;> intro hc
     ·have hr := ifP1 hr hc
      repeat refine gA ?_
      have hr := of_out0 hr
      cases hr
      exact lf
     ·have hr := ifN1 hr hc
      obtain ⟨hg5, hr⟩ := of_guard1 hr
      repeat refine gA ?_
      refine S.sees [0, 6, 7, 8] [] [] ?_ hr
      exact lf
    ·have hr := ifN1 hr hc
     repeat refine gA ?_
     have hr := of_out0 hr
     repeat refine gA ?_
     cases hr
     exact lf
theorem f55 : FnFact Tryz.prog 55 T55.sp := ⟨⟨Tryz.f55, Tryz.func55, by decide, rfl⟩, v55⟩
end

/- martensite/martensiteref02.parse -/
def b28_1 (a1 : Int) (v1 : (List (ByteArray))) : ((List (Int)) × Int) → Ctl ((List (Int)) × Int) ((List (Int)) × Bool) := fun s1 =>
  if (decide (s1.2 < a1)) = true then
   if 0 ≤ s1.2 ∧ s1.2 < (v1.length : Int) then
    bindC (r55 (v1.getD s1.2.toNat default) 3) fun v2 =>
     if (!(!v2.2)) = true → 0 ≤ s1.2 ∧ s1.2 < (v1.length : Int) then
      if (!(!v2.2)) = true → 0 ≤ 0 ∧ 0 < ((v1.getD s1.2.toNat default).size : Int) then
       if ((!v2.2) || ((byteAt (v1.getD s1.2.toNat default) 0) == 45)) = true then
        .out (some ([], false))
        else if (s1.1.length + 1) * 8 ≤ 140737488355328 ∧ s1.1.length + 1 ≤ 9223372036854775807 then
         .next (s1.1 ++ [v2.1], IntKind.i64.wrap (s1.2 + 1))
         else .out none
       else .out none
      else .out none
    else .out none
   else .out (some (s1.1, true))
def r28 (a0 : ByteArray) (a1 : Int) : Option ((List (Int)) × Bool) :=
  (r27 a0 32).bind fun v1 =>
   if ((v1.length : Int) != a1) = true then
    some ([], false)
    else iterC (b28_1 a1 v1) 1000000000 ([], 0)
def T28 : TSpec qA22 := mkT qE22 qd22 (fun ⟨a0, a1⟩ => r28 a0 a1) qu18 false
theorem TP28 (c0 c1 : D) : T28.sp.pre [.c c0, .c c1] = (eqvArgs (qt22 c0 c1) (qp22 qw22 c0 c1) ∧ (qp22 r28 c0 c1).isSome = true) := (rfl)
theorem TR28 (c0 c1 : D) : T28.sp.res [.c c0, .c c1] = qu18 ((qp22 r28 c0 c1).getD default) := (rfl)
theorem TA28 : T28.sp.alias = false := (rfl)
def tb28 : Fns := lk [(27, T27.sp), (55, T55.sp)]
theorem tb28_ok : FnsOk Tryz.prog tb28 := .cons f27 (.cons f55 (FnsOk.nil))
theorem tb28_27 : tb28 27 = some T27.sp := rfl
theorem tb28_55 : tb28 55 = some T55.sp := rfl
theorem lt28_0 : (IntKind.i64.wrap (0 + 1)) = 1 := by first | rfl | decide | simp
attribute [go_sem] TP28 TR28 TA28
section
attribute [local go_sem] T28 tb28_27 tb28_55 Tryz.results28 lt28_0
theorem v28 : Valid Tryz.prog 28 T28.sp := by
 refine valid_t (fn := Tryz.f28) (n := 45) ty_ok tb28_ok Tryz.func28 rfl Tryz.ntmps28 ?_
 rintro ⟨a0, a1⟩ hx
 obtain ⟨r, hr⟩ := oE (show (r28 a0 a1).isSome = true from hx)
 have hres : T28.res (a0, a1) = qu18 r := by simp only [T28, mkT, hr, oG]
 refine ⟨nL rfl, fun stop S => ?_⟩
 rw [hres] at S
 unfold r28 at hr
 refine S.gx [] ?_
 obtain ⟨v1, hv1, hr⟩ := of_bind0 hr
 try simp only [hv1, oG, oI, true_and, and_assoc]
 repeat refine gA ?_
 refine ⟨?_, ?_⟩ <;> intro hc
 ·have hr := ifP hr hc
  repeat refine gA ?_
  cases hr
  exact lf
 ·have hr := ifN hr hc
  repeat refine gA ?_
  refine S.own0 7 1000700 1 rfl rfl ?_
  refine S.sees [1, 6, 7, 8] [] [(1000700, 1000700), (12, 12)] ?_ (Stop.iter S (fun s1 => ⟨[(1, .c (.d (.int .i64 a1))), (6, .c (.own 12)), (7, .c (.own 1000700)), (8, .c (.d (.int .i64 s1.2)))], [], [(1000700, .owned (encF 1 d_I s1.1)), (12, .owned (encF 1 d_S v1))]⟩) (b28_1 a1 v1) (fun q => q = r) hr rfl ?_)
  ·exact lf
  ·intro s1 hr
   unfold b28_1 at hr
   refine S.gx [] ?_
   repeat refine gA ?_
   refine ⟨?_, ?_⟩ <;> intro hc
   ·have hr := ifP1 hr hc
    obtain ⟨hg4, hr⟩ := of_guard1 hr
    obtain ⟨v2, hv2, hr⟩ := of_bind1 hr
    obtain ⟨hg5, hr⟩ := of_guard1 hr
    obtain ⟨hg6, hr⟩ := of_guard1 hr
    try simp only [hv2, oG, oI, true_and, and_assoc]
    repeat (first | refine gG hg5 ?_ | refine gG hg6 ?_ | refine gA ?_ | refine gB ?_)
    refine ⟨?_, ?_⟩ <;> intro hc
    ·have hr := ifP1 hr hc
     repeat refine gA ?_
     have hr := of_out0 hr
     cases hr
     exact lf
    ·have hr := ifN1 hr hc
     obtain ⟨hg3, hr⟩ := of_guard1 hr
     repeat refine gA ?_
     refine S.sees [1, 6, 7, 8] [] [(43, 1000700), (12, 12)] ?_ hr
     exact lf
   ·have hr := ifN1 hr hc
    repeat refine gA ?_
    have hr := of_out0 hr
    repeat refine gA ?_
    cases hr
    exact lf
theorem f28 : FnFact Tryz.prog 28 T28.sp := ⟨⟨Tryz.f28, Tryz.func28, by decide, rfl⟩, v28⟩
end
end Go.Proofs.YtkhfaooknmoboaaGreatDoor

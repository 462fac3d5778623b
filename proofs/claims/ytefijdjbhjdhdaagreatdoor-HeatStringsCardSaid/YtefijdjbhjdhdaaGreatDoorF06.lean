/- Contracts of functions, written by wip/dec. -/
import Derived.Test.YtefijdjbhjdhdaaGreatDoorF00
import Derived.Test.YtefijdjbhjdhdaaGreatDoorF05
set_option linter.unusedVariables false
set_option linter.unusedSimpArgs false
set_option maxHeartbeats 4000000
set_option maxRecDepth 20000
namespace Go.Proofs.YtefijdjbhjdhdaaGreatDoor
open Go.Abs
abbrev qA47 := (List (Int × Int)) × Int × Int
def qw47 (a0 : List (Int × Int)) (a1 : Int) (a2 : Int) : List Arg := [.c (encF 2 d_II a0), .c (.int .i64 a1), .c (.int .i64 a2)]
def qE47 : qA47 → List Arg := fun ⟨a0, a1, a2⟩ => qw47 a0 a1 a2
def qd47 (a : List Arg) : qA47 := (decF g_II (aCell a 0 0), dInt (aCell a 1 0), dInt (aCell a 2 0))
def qp47 {β : Type} (f : (List (Int × Int)) → Int → Int → β) (c0 c1 c2 : D) : β := f (decF g_II c0) (dInt c1) (dInt c2)
def qt47 (c0 c1 c2 : D) : List Arg := [.c c0, .c c1, .c c2]
attribute [go_sem] qw47 qp47 qt47 qE47
abbrev qA48 := Int × Int × (List (Int × Int)) × (List ((List (Int × Int)))) × Int × Int × (List (Int × Int)) × (List ((List (Int × Int))))
def qw48 (a0 : Int) (a1 : Int) (a2 : List (Int × Int)) (a3 : List ((List (Int × Int)))) (a4 : Int) (a5 : Int) (a6 : List (Int × Int)) (a7 : List ((List (Int × Int)))) : List Arg := [.agg [.int .i64 a0, .int .i64 a1, encF 2 d_II a2, encF 1 d_LIIE a3], .agg [.int .i64 a4, .int .i64 a5, encF 2 d_II a6, encF 1 d_LIIE a7]]
def qE48 : qA48 → List Arg := fun ⟨a0, a1, a2, a3, a4, a5, a6, a7⟩ => qw48 a0 a1 a2 a3 a4 a5 a6 a7
def qd48 (a : List Arg) : qA48 := (dInt (aCell a 0 0), dInt (aCell a 0 1), decF g_II (aCell a 0 2), decF g_LIIE (aCell a 0 3), dInt (aCell a 1 0), dInt (aCell a 1 1), decF g_II (aCell a 1 2), decF g_LIIE (aCell a 1 3))
def qp48 {β : Type} (f : Int → Int → (List (Int × Int)) → (List ((List (Int × Int)))) → Int → Int → (List (Int × Int)) → (List ((List (Int × Int)))) → β) (c0 c1 c2 c3 c4 c5 c6 c7 : D) : β := f (dInt c0) (dInt c1) (decF g_II c2) (decF g_LIIE c3) (dInt c4) (dInt c5) (decF g_II c6) (decF g_LIIE c7)
def qt48 (c0 c1 c2 c3 c4 c5 c6 c7 : D) : List Arg := [.agg [c0, c1, c2, c3], .agg [c4, c5, c6, c7]]
attribute [go_sem] qw48 qp48 qt48 qE48
/- martensite/martensiteref03.two -/
def r33 (a0 : ByteArray) : Option (Int × Int × Bool) :=
  (r32 a0 32).bind fun v1 =>
   if ((v1.length : Int) != 2) = true then
    some (0, 0, false)
    else if 0 ≤ 0 ∧ 0 < (v1.length : Int) then
     (r62 (v1.getD 0 default) 7).bind fun v2 =>
      if 0 ≤ 1 ∧ 1 < (v1.length : Int) then
       (r62 (v1.getD 1 default) 7).bind fun v3 =>
        if (!((!v2.2) || (!v3.2))) = true → 0 ≤ 0 ∧ 0 < (v1.length : Int) then
         if (!((!v2.2) || (!v3.2))) = true → 0 ≤ 0 ∧ 0 < ((v1.getD 0 default).size : Int) then
          if (!(((!v2.2) || (!v3.2)) || ((byteAt (v1.getD 0 default) 0) == 45))) = true → 0 ≤ 1 ∧ 1 < (v1.length : Int) then
           if (!(((!v2.2) || (!v3.2)) || ((byteAt (v1.getD 0 default) 0) == 45))) = true → 0 ≤ 0 ∧ 0 < ((v1.getD 1 default).size : Int) then
            if ((((!v2.2) || (!v3.2)) || ((byteAt (v1.getD 0 default) 0) == 45)) || ((byteAt (v1.getD 1 default) 0) == 45)) = true then
             some (0, 0, false)
             else some (v2.1, v3.1, true)
            else none
           else none
          else none
         else none
       else none
     else none
def T33 : TSpec qA44 := mkT qE44 qd44 r33 qu18 false
theorem TP33 (c0 : D) : T33.sp.pre [.c c0] = (eqvArgs (qt44 c0) (qp44 qw44 c0) ∧ (qp44 r33 c0).isSome = true) := (rfl)
theorem TR33 (c0 : D) : T33.sp.res [.c c0] = qu18 ((qp44 r33 c0).getD default) := (rfl)
theorem TA33 : T33.sp.alias = false := (rfl)
def tb33 : Fns := lk [(32, T32.sp), (62, T62.sp)]
theorem tb33_ok : FnsOk Tryz.prog tb33 := .cons f32 (.cons f62 (FnsOk.nil))
theorem tb33_32 : tb33 32 = some T32.sp := rfl
theorem tb33_62 : tb33 62 = some T62.sp := rfl
attribute [go_sem] TP33 TR33 TA33
section
attribute [local go_sem] T33 tb33_32 tb33_62 Tryz.results33
theorem v33 : Valid Tryz.prog 33 T33.sp := by
 refine valid_t (fn := Tryz.f33) (n := 53) ty_ok tb33_ok Tryz.func33 rfl Tryz.ntmps33 ?_
 rintro a0 hx
 obtain ⟨r, hr⟩ := oE (show (r33 a0).isSome = true from hx)
 have hres : T33.res a0 = qu18 r := by simp only [T33, mkT, hr, oG]
 refine ⟨nL rfl, fun stop S => ?_⟩
 rw [hres] at S
 unfold r33 at hr
 refine S.gx [7, 8] ?_
 obtain ⟨v1, hv1, hr⟩ := of_bind0 hr
 try simp only [hv1, oG, oI, true_and, and_assoc]
 repeat refine gA ?_
 refine ⟨?_, ?_⟩ <;> intro hc
 ·have hr := ifP hr hc
  repeat refine gA ?_
  cases hr
  exact lf
 ·have hr := ifN hr hc
  obtain ⟨hg4, hr⟩ := of_guard0 hr
  obtain ⟨v2, hv2, hr⟩ := of_bind0 hr
  obtain ⟨hg5, hr⟩ := of_guard0 hr
  obtain ⟨v3, hv3, hr⟩ := of_bind0 hr
  obtain ⟨hg6, hr⟩ := of_guard0 hr
  obtain ⟨hg7, hr⟩ := of_guard0 hr
  obtain ⟨hg8, hr⟩ := of_guard0 hr
  obtain ⟨hg9, hr⟩ := of_guard0 hr
  try simp only [hv2, hv3, Option.getD_some, Option.isSome_some, true_and, and_assoc]
  repeat (first | refine gG hg6 ?_ | refine gG hg7 ?_ | refine gG hg8 ?_ | refine gG hg9 ?_ | refine gA ?_ | refine gB ?_)
  refine ⟨?_, ?_⟩ <;> intro hc
  ·have hr := ifP hr hc
   repeat refine gA ?_
   refine S.prune [2] ?_
   refine S.gx [8] ?_
   repeat refine gA ?_
   cases hr
   exact lf
  ·have hr := ifN hr hc
   repeat refine gA ?_
   refine S.prune [2, 5, 7] ?_
   refine S.gx [7] ?_
   repeat refine gA ?_
   cases hr
   exact lf
theorem f33 : FnFact Tryz.prog 33 T33.sp := ⟨⟨Tryz.f33, Tryz.func33, by decide, rfl⟩, v33⟩
end

/- martensite/martensiteref03.list -/
def b34_1 (v1 : (List (ByteArray))) : ((List (Int × Int)) × Int) → Ctl ((List (Int × Int)) × Int) ((List (Int × Int)) × Bool) := fun s1 =>
  if (decide (s1.2 < (v1.length : Int))) = true then
   if 0 ≤ s1.2 ∧ s1.2 < (v1.length : Int) then
    bindC (r33 (v1.getD s1.2.toNat default)) fun v2 =>
     if (!v2.2.2) = true then
      .out (some ([], false))
      else if (s1.1.length + 1) * 16 ≤ 140737488355328 ∧ s1.1.length + 1 ≤ 9223372036854775807 then
       .next (s1.1 ++ [(v2.1, v2.2.1)], IntKind.i64.wrap (s1.2 + 1))
       else .out none
    else .out none
   else .out (some (s1.1, true))
def r34 (a0 : ByteArray) : Option ((List (Int × Int)) × Bool) :=
  if (decide (a0 = (⟨#[]⟩ : ByteArray))) = true then
   some ([], true)
   else (r32 a0 44).bind fun v1 =>
    iterC (b34_1 v1) 1000000000 ([], 0)
def T34 : TSpec qA44 := mkT qE44 qd44 r34 qu20 false
theorem TP34 (c0 : D) : T34.sp.pre [.c c0] = (eqvArgs (qt44 c0) (qp44 qw44 c0) ∧ (qp44 r34 c0).isSome = true) := (rfl)
theorem TR34 (c0 : D) : T34.sp.res [.c c0] = qu20 ((qp44 r34 c0).getD default) := (rfl)
theorem TA34 : T34.sp.alias = false := (rfl)
def tb34 : Fns := lk [(32, T32.sp), (33, T33.sp)]
theorem tb34_ok : FnsOk Tryz.prog tb34 := .cons f32 (.cons f33 (FnsOk.nil))
theorem tb34_32 : tb34 32 = some T32.sp := rfl
theorem tb34_33 : tb34 33 = some T33.sp := rfl
theorem lt34_0 : (IntKind.i64.wrap (0 + 1)) = 1 := by first | rfl | decide | simp
attribute [go_sem] TP34 TR34 TA34
section
attribute [local go_sem] T34 tb34_32 tb34_33 Tryz.results34 lt34_0
theorem v34 : Valid Tryz.prog 34 T34.sp := by
 refine valid_t (fn := Tryz.f34) (n := 34) ty_ok tb34_ok Tryz.func34 rfl Tryz.ntmps34 ?_
 rintro a0 hx
 obtain ⟨r, hr⟩ := oE (show (r34 a0).isSome = true from hx)
 have hres : T34.res a0 = qu20 r := by simp only [T34, mkT, hr, oG]
 refine ⟨nL rfl, fun stop S => ?_⟩
 rw [hres] at S
 unfold r34 at hr
 refine S.gx [] ?_
 repeat refine gA ?_
 refine ⟨?_, ?_⟩ <;> intro hc
 ·have hr := ifP hr hc
  repeat refine gA ?_
  cases hr
  exact lf
 ·have hr := ifN hr hc
  obtain ⟨v1, hv1, hr⟩ := of_bind0 hr
  try simp only [hv1, oG, oI, true_and, and_assoc]
  repeat refine gA ?_
  refine S.own0 5 1000500 2 rfl rfl ?_
  refine S.sees [4, 5, 6] [] [(1000500, 1000500), (12, 12)] ?_ (Stop.iter S (fun s1 => ⟨[(4, .c (.own 12)), (5, .c (.own 1000500)), (6, .c (.d (.int .i64 s1.2)))], [], [(1000500, .owned (encF 2 d_II s1.1)), (12, .owned (encF 1 d_S v1))]⟩) (b34_1 v1) (fun q => q = r) hr rfl ?_)
  ·exact lf
  ·intro s1 hr
   unfold b34_1 at hr
   refine S.gx [] ?_
   repeat refine gA ?_
   refine ⟨?_, ?_⟩ <;> intro hc
   ·have hr := ifP1 hr hc
    obtain ⟨hg4, hr⟩ := of_guard1 hr
    obtain ⟨v2, hv2, hr⟩ := of_bind1 hr
    try simp only [hv2, oG, oI, true_and, and_assoc]
    repeat refine gA ?_
    refine ⟨?_, ?_⟩ <;> intro hc
    ·have hr := ifP1 hr hc
     repeat refine gA ?_
     have hr := of_out0 hr
     cases hr
     exact lf
    ·have hr := ifN1 hr hc
     obtain ⟨hg3, hr⟩ := of_guard1 hr
     repeat refine gA ?_
     refine S.sees [4, 5, 6] [] [(32, 1000500), (12, 12)] ?_ hr
     exact lf
   ·have hr := ifN1 hr hc
    repeat refine gA ?_
    have hr := of_out0 hr
    repeat refine gA ?_
    cases hr
    exact lf
theorem f34 : FnFact Tryz.prog 34 T34.sp := ⟨⟨Tryz.f34, Tryz.func34, by decide, rfl⟩, v34⟩
end

/- martensite/martensitebase.Within -/
def r64 (a0 : Int) (a1 : Int) (a2 : Int) : Option (Bool) :=
  some ((decide (a1 ≤ a0)) && (decide (a0 ≤ a2)))
def T64 : TSpec qA1 := mkT qE1 qd1 (fun ⟨a0, a1, a2⟩ => r64 a0 a1 a2) qu1 false
theorem TP64 (c0 c1 c2 : D) : T64.sp.pre [.c c0, .c c1, .c c2] = (eqvArgs (qt1 c0 c1 c2) (qp1 qw1 c0 c1 c2) ∧ (qp1 r64 c0 c1 c2).isSome = true) := (rfl)
theorem TR64 (c0 c1 c2 : D) : T64.sp.res [.c c0, .c c1, .c c2] = qu1 ((qp1 r64 c0 c1 c2).getD default) := (rfl)
theorem TA64 : T64.sp.alias = false := (rfl)
def tb64 : Fns := lk []
theorem tb64_ok : FnsOk Tryz.prog tb64 := FnsOk.nil
attribute [go_sem] TP64 TR64 TA64
section
attribute [local go_sem] T64 Tryz.results64
theorem v64 : Valid Tryz.prog 64 T64.sp := by
 refine valid_t (fn := Tryz.f64) (n := 15) ty_ok tb64_ok Tryz.func64 rfl Tryz.ntmps64 ?_
 rintro ⟨a0, a1, a2⟩ hx
 obtain ⟨r, hr⟩ := oE (show (r64 a0 a1 a2).isSome = true from hx)
 have hres : T64.res (a0, a1, a2) = qu1 r := by simp only [T64, mkT, hr, oG]
 refine ⟨nL rfl, fun stop S => ?_⟩
 rw [hres] at S
 unfold r64 at hr
 refine S.gx [] ?_
 repeat (first | refine gA ?_ | refine gB ?_)
 cases hr
 exact lf
theorem f64 : FnFact Tryz.prog 64 T64.sp := ⟨⟨Tryz.f64, Tryz.func64, by decide, rfl⟩, v64⟩
end

/- martensite/martensiteref03.IsKelvin -/
def r65 (a0 : Int) : Option (Bool) :=
  (r64 a0 200 3000).bind fun v1 =>
   some v1
def T65 : TSpec qA4 := mkT qE4 qd4 r65 qu1 false
theorem TP65 (c0 : D) : T65.sp.pre [.c c0] = (eqvArgs (qt4 c0) (qp4 qw4 c0) ∧ (qp4 r65 c0).isSome = true) := (rfl)
theorem TR65 (c0 : D) : T65.sp.res [.c c0] = qu1 ((qp4 r65 c0).getD default) := (rfl)
theorem TA65 : T65.sp.alias = false := (rfl)
def tb65 : Fns := lk [(64, T64.sp)]
theorem tb65_ok : FnsOk Tryz.prog tb65 := .cons f64 (FnsOk.nil)
theorem tb65_64 : tb65 64 = some T64.sp := rfl
attribute [go_sem] TP65 TR65 TA65
section
attribute [local go_sem] T65 tb65_64 Tryz.results65
theorem v65 : Valid Tryz.prog 65 T65.sp := by
 refine valid_t (fn := Tryz.f65) (n := 5) ty_ok tb65_ok Tryz.func65 rfl Tryz.ntmps65 ?_
 rintro a0 hx
 obtain ⟨r, hr⟩ := oE (show (r65 a0).isSome = true from hx)
 have hres : T65.res a0 = qu1 r := by simp only [T65, mkT, hr, oG]
 refine ⟨nL rfl, fun stop S => ?_⟩
 rw [hres] at S
 unfold r65 at hr
 refine S.gx [] ?_
 obtain ⟨v1, hv1, hr⟩ := of_bind0 hr
 try simp only [hv1, oG, oI, true_and, and_assoc]
 repeat refine gA ?_
 cases hr
 exact lf
theorem f65 : FnFact Tryz.prog 65 T65.sp := ⟨⟨Tryz.f65, Tryz.func65, by decide, rfl⟩, v65⟩
end

/- martensite/martensiteref03.lawErr -/
def b66_1 (a0 : List (Int × Int)) : (Int) → Ctl (Int) (Int) := fun s1 =>
  if (decide (s1 < (a0.length : Int))) = true then
   if 0 ≤ s1 ∧ s1 < (a0.length : Int) then
    bindC (r65 ((a0.getD s1.toNat default).1)) fun v1 =>
     if (!(!v1)) = true → 0 ≤ s1 ∧ s1 < (a0.length : Int) then
      if (!(!v1)) = true → (r64 ((a0.getD s1.toNat default).2) 0 1000).isSome = true then
       if ((!v1) || (!((r64 ((a0.getD s1.toNat default).2) 0 1000).getD default))) = true then
        .out (some 2)
        else if (decide (s1 > 0)) = true then
         if 0 ≤ s1 ∧ s1 < (a0.length : Int) then
          if 0 ≤ IntKind.i64.wrap (s1 - 1) ∧ IntKind.i64.wrap (s1 - 1) < (a0.length : Int) then
           if 0 ≤ s1 ∧ s1 < (a0.length : Int) then
            if 0 ≤ IntKind.i64.wrap (s1 - 1) ∧ IntKind.i64.wrap (s1 - 1) < (a0.length : Int) then
             if ((decide ((IntKind.i64.wrap (((a0.getD s1.toNat default).1) - ((a0.getD (IntKind.i64.wrap (s1 - 1)).toNat default).1))) ≤ 0)) || (decide ((IntKind.i64.wrap (((a0.getD s1.toNat default).2) - ((a0.getD (IntKind.i64.wrap (s1 - 1)).toNat default).2))) < 0))) = true then
              .out (some 9)
              else if (decide ((IntKind.i64.wrap (2 * (IntKind.i64.wrap (((a0.getD s1.toNat default).2) - ((a0.getD (IntKind.i64.wrap (s1 - 1)).toNat default).2))))) > (IntKind.i64.wrap (((a0.getD s1.toNat default).1) - ((a0.getD (IntKind.i64.wrap (s1 - 1)).toNat default).1))))) = true then
               .out (some 22)
               else .next (IntKind.i64.wrap (s1 + 1))
             else .out none
            else .out none
           else .out none
          else .out none
         else .next (IntKind.i64.wrap (s1 + 1))
       else .out none
      else .out none
    else .out none
   else .out (some 0)
def r66 (a0 : List (Int × Int)) : Option (Int) :=
  if (decide ((a0.length : Int) > 6)) = true then
   some 8
   else iterC (b66_1 a0) 1000000000 0
def T66 : TSpec qA5 := mkT qE5 qd5 r66 qu2 false
theorem TP66 (c0 : D) : T66.sp.pre [.c c0] = (eqvArgs (qt5 c0) (qp5 qw5 c0) ∧ (qp5 r66 c0).isSome = true) := (rfl)
theorem TR66 (c0 : D) : T66.sp.res [.c c0] = qu2 ((qp5 r66 c0).getD default) := (rfl)
theorem TA66 : T66.sp.alias = false := (rfl)
def tb66 : Fns := lk [(64, T64.sp), (65, T65.sp)]
theorem tb66_ok : FnsOk Tryz.prog tb66 := .cons f64 (.cons f65 (FnsOk.nil))
theorem tb66_64 : tb66 64 = some T64.sp := rfl
theorem tb66_65 : tb66 65 = some T65.sp := rfl
theorem lt66_0 : (decide ((0 : Int) > 0)) = false := by first | rfl | decide | simp
theorem lt66_1 : (IntKind.i64.wrap (0 + 1)) = 1 := by first | rfl | decide | simp
attribute [go_sem] TP66 TR66 TA66
section
attribute [local go_sem] T66 tb66_64 tb66_65 Tryz.results66 lt66_0 lt66_1
theorem v66 : Valid Tryz.prog 66 T66.sp := by
 refine valid_t (fn := Tryz.f66) (n := 67) ty_ok tb66_ok Tryz.func66 rfl Tryz.ntmps66 ?_
 rintro a0 hx
 obtain ⟨r, hr⟩ := oE (show (r66 a0).isSome = true from hx)
 have hres : T66.res a0 = qu2 r := by simp only [T66, mkT, hr, oG]
 refine ⟨nL rfl, fun stop S => ?_⟩
 rw [hres] at S
 unfold r66 at hr
 refine S.gx [10] ?_
 repeat refine gA ?_
 refine ⟨?_, ?_⟩ <;> intro hc
 ·have hr := ifP hr hc
  repeat refine gA ?_
  cases hr
  exact lf
 ·have hr := ifN hr hc
  repeat refine gA ?_
  refine S.sees [0, 3] [] [] ?_ (Stop.iter S (fun s1 => ⟨[(0, .c (.d (encF 2 d_II a0))), (3, .c (.d (.int .i64 s1)))], [], []⟩) (b66_1 a0) (fun q => q = r) hr rfl ?_)
  ·exact lf
  ·intro s1 hr
   unfold b66_1 at hr
   refine S.gx [10] ?_
   repeat refine gA ?_
   refine ⟨?_, ?_⟩ <;> intro hc
   ·have hr := ifP1 hr hc
    obtain ⟨hg6, hr⟩ := of_guard1 hr
    obtain ⟨v1, hv1, hr⟩ := of_bind1 hr
    obtain ⟨hg7, hr⟩ := of_guard1 hr
    obtain ⟨hg8, hr⟩ := of_guard1 hr
    try simp only [hv1, oG, oI, true_and, and_assoc]
    repeat (first | refine gG hg7 ?_ | refine gG hg8 ?_ | refine gA ?_ | refine gB ?_)
    refine ⟨?_, ?_⟩ <;> intro hc
    ·have hr := ifP1 hr hc
     repeat refine gA ?_
     have hr := of_out0 hr
     cases hr
     exact lf
    ·have hr := ifN1 hr hc
     repeat refine gA ?_
     refine ⟨?_, ?_⟩ <;> intro hc
     ·have hr := ifP1 hr hc
      obtain ⟨hg2, hr⟩ := of_guard1 hr
      obtain ⟨hg3, hr⟩ := of_guard1 hr
      obtain ⟨hg4, hr⟩ := of_guard1 hr
      obtain ⟨hg5, hr⟩ := of_guard1 hr
      repeat refine gA ?_
      refine S.prune [0, 3, 4, 5] ?_
      refine S.gx [] ?_
      repeat (first | refine gA ?_ | refine gB ?_)
      repeat refine gA ?_
      refine ⟨?_, ?_⟩ <;> intro hc
      ·have hr := ifP1 hr hc
       repeat refine gA ?_
       have hr := of_out0 hr
       cases hr
       exact lf
      ·have hr := ifN1 hr hc
       repeat refine gA ?_
       refine ⟨?_, ?_⟩ <;> intro hc
       ·have hr := ifP1 hr hc
        repeat refine gA ?_
        have hr := of_out0 hr
        cases hr
        exact lf
       ·have hr := ifN1 hr hc
        repeat refine gA ?_
        refine S.sees [0, 3] [] [] ?_ hr
        exact lf
     ·have hr := ifN1 hr hc
      repeat refine gA ?_
      refine S.sees [0, 3] [] [] ?_ hr
      exact lf
   ·have hr := ifN1 hr hc
    repeat refine gA ?_
    have hr := of_out0 hr
    repeat refine gA ?_
    cases hr
    exact lf
theorem f66 : FnFact Tryz.prog 66 T66.sp := ⟨⟨Tryz.f66, Tryz.func66, by decide, rfl⟩, v66⟩
end

/- martensite/martensiteref03.lossOf -/
def b99_1 (a0 : List (Int × Int)) (a1 : Int) (a2 : Int) : (Int) → Ctl (Int) (Int × Int) := fun s1 =>
  if (decide (s1 < (a0.length : Int))) = true then
   if 0 ≤ s1 ∧ s1 < (a0.length : Int) then
    if (decide (a1 ≤ (IntKind.i64.wrap (((a0.getD s1.toNat default).1) * a2)))) = true then
     if (s1 == 0) = true then
      if 0 ≤ 0 ∧ 0 < (a0.length : Int) then
       .out (some ((a0.getD 0 default).2, 1))
       else .out none
      else if 0 ≤ IntKind.i64.wrap (s1 - 1) ∧ IntKind.i64.wrap (s1 - 1) < (a0.length : Int) then
       if 0 ≤ s1 ∧ s1 < (a0.length : Int) then
        .out (some (IntKind.i64.wrap ((IntKind.i64.wrap (((a0.getD (IntKind.i64.wrap (s1 - 1)).toNat default).2) * (IntKind.i64.wrap ((IntKind.i64.wrap (((a0.getD s1.toNat default).1) - ((a0.getD (IntKind.i64.wrap (s1 - 1)).toNat default).1))) * a2)))) + (IntKind.i64.wrap ((IntKind.i64.wrap (((a0.getD s1.toNat default).2) - ((a0.getD (IntKind.i64.wrap (s1 - 1)).toNat default).2))) * (IntKind.i64.wrap (a1 - (IntKind.i64.wrap (((a0.getD (IntKind.i64.wrap (s1 - 1)).toNat default).1) * a2))))))), IntKind.i64.wrap ((IntKind.i64.wrap (((a0.getD s1.toNat default).1) - ((a0.getD (IntKind.i64.wrap (s1 - 1)).toNat default).1))) * a2)))
        else .out none
       else .out none
     else .next (IntKind.i64.wrap (s1 + 1))
    else .out none
   else .out (if 0 ≤ IntKind.i64.wrap ((a0.length : Int) - 1) ∧ IntKind.i64.wrap ((a0.length : Int) - 1) < (a0.length : Int) then
    some ((a0.getD (IntKind.i64.wrap ((a0.length : Int) - 1)).toNat default).2, 1)
    else none)
def r99 (a0 : List (Int × Int)) (a1 : Int) (a2 : Int) : Option (Int × Int) :=
  if ((a0.length : Int) == 0) = true then
   some (0, 1)
   else iterC (b99_1 a0 a1 a2) 1000000000 0
def T99 : TSpec qA47 := mkT qE47 qd47 (fun ⟨a0, a1, a2⟩ => r99 a0 a1 a2) qu3 false
theorem TP99 (c0 c1 c2 : D) : T99.sp.pre [.c c0, .c c1, .c c2] = (eqvArgs (qt47 c0 c1 c2) (qp47 qw47 c0 c1 c2) ∧ (qp47 r99 c0 c1 c2).isSome = true) := (rfl)
theorem TR99 (c0 c1 c2 : D) : T99.sp.res [.c c0, .c c1, .c c2] = qu3 ((qp47 r99 c0 c1 c2).getD default) := (rfl)
theorem TA99 : T99.sp.alias = false := (rfl)
def tb99 : Fns := lk []
theorem tb99_ok : FnsOk Tryz.prog tb99 := FnsOk.nil
theorem lt99_0 : ((((0 : Int)) == 0)) = true := by first | rfl | decide | simp
theorem lt99_1 : (IntKind.i64.wrap (0 + 1)) = 1 := by first | rfl | decide | simp
attribute [go_sem] TP99 TR99 TA99
section
attribute [local go_sem] T99 Tryz.results99 lt99_0 lt99_1
theorem v99 : Valid Tryz.prog 99 T99.sp := by
 refine valid_t (fn := Tryz.f99) (n := 77) ty_ok tb99_ok Tryz.func99 rfl Tryz.ntmps99 ?_
 rintro ⟨a0, a1, a2⟩ hx
 obtain ⟨r, hr⟩ := oE (show (r99 a0 a1 a2).isSome = true from hx)
 have hres : T99.res (a0, a1, a2) = qu3 r := by simp only [T99, mkT, hr, oG]
 refine ⟨nL rfl, fun stop S => ?_⟩
 rw [hres] at S
 unfold r99 at hr
 refine S.gx [11] ?_
 repeat refine gA ?_
 refine ⟨?_, ?_⟩ <;> intro hc
 ·have hr := ifP hr hc
  repeat refine gA ?_
  cases hr
  exact lf
 ·have hr := ifN hr hc
  repeat refine gA ?_
  refine S.sees [0, 1, 2, 8] [] [] ?_ (Stop.iter S (fun s1 => ⟨[(0, .c (.d (encF 2 d_II a0))), (1, .c (.d (.int .i64 a1))), (2, .c (.d (.int .i64 a2))), (8, .c (.d (.int .i64 s1)))], [], []⟩) (b99_1 a0 a1 a2) (fun q => q = r) hr rfl ?_)
  ·exact lf
  ·intro s1 hr
   unfold b99_1 at hr
   refine S.gx [11] ?_
   repeat refine gA ?_
   refine ⟨?_, ?_⟩ <;> intro hc
   ·have hr := ifP1 hr hc
    obtain ⟨hg4, hr⟩ := of_guard1 hr
    repeat refine gA ?_
    refine ⟨?_, ?_⟩ <;> intro hc
    ·have hr := ifP1 hr hc
     repeat refine gA ?_
     refine ⟨?_, ?_⟩ <;> intro hc
     ·have hr := ifP1 hr hc
      obtain ⟨hg1, hr⟩ := of_guard1 hr
      repeat refine gA ?_
      have hr := of_out0 hr
      cases hr
      exact lf
     ·have hr := ifN1 hr hc
      obtain ⟨hg2, hr⟩ := of_guard1 hr
      obtain ⟨hg3, hr⟩ := of_guard1 hr
      repeat refine gA ?_
      refine S.prune [1, 2, 9, 10, 11] ?_
      refine S.gx [] ?_
      repeat refine gA ?_
      have hr := of_out0 hr
      cases hr
      exact lf
    ·have hr := ifN1 hr hc
     repeat refine gA ?_
     refine S.sees [0, 1, 2, 8] [] [] ?_ hr
     exact lf
   ·have hr := ifN1 hr hc
    repeat refine gA ?_
    have hr := of_out0 hr
    obtain ⟨hg5, hr⟩ := of_guard0 hr
    repeat refine gA ?_
    cases hr
    exact lf
theorem f99 : FnFact Tryz.prog 99 T99.sp := ⟨⟨Tryz.f99, Tryz.func99, by decide, rfl⟩, v99⟩
end

/- martensite/martensiteref03.isBelow -/
def b67_1 (a0 : List (Int × Int)) (a1 : List (Int × Int)) : (Int) → Ctl (Int) (Bool) := fun s1 =>
  if (decide (s1 < ((a0 ++ a1).length : Int))) = true then
   if 0 ≤ s1 ∧ s1 < ((a0 ++ a1).length : Int) then
    bindC (r99 a0 (((a0 ++ a1).getD s1.toNat default).1) 1) fun v1 =>
     if 0 ≤ s1 ∧ s1 < ((a0 ++ a1).length : Int) then
      bindC (r99 a1 (((a0 ++ a1).getD s1.toNat default).1) 1) fun v2 =>
       if (decide ((IntKind.i64.wrap (v1.1 * v2.2)) < (IntKind.i64.wrap (v2.1 * v1.2)))) = true then
        .out (some true)
        else .next (IntKind.i64.wrap (s1 + 1))
      else .out none
    else .out none
   else .out (some false)
def r67 (a0 : List (Int × Int)) (a1 : List (Int × Int)) : Option (Bool) :=
  if (0 + a0.length) * 16 ≤ 140737488355328 ∧ 0 + a0.length ≤ 9223372036854775807 then
   if (a0.length + a1.length) * 16 ≤ 140737488355328 ∧ a0.length + a1.length ≤ 9223372036854775807 then
    iterC (b67_1 a0 a1) 1000000000 0
    else none
   else none
def T67 : TSpec qA11 := mkT qE11 qd11 (fun ⟨a0, a1⟩ => r67 a0 a1) qu1 false
theorem TP67 (c0 c1 : D) : T67.sp.pre [.c c0, .c c1] = (eqvArgs (qt11 c0 c1) (qp11 qw11 c0 c1) ∧ (qp11 r67 c0 c1).isSome = true) := (rfl)
theorem TR67 (c0 c1 : D) : T67.sp.res [.c c0, .c c1] = qu1 ((qp11 r67 c0 c1).getD default) := (rfl)
theorem TA67 : T67.sp.alias = false := (rfl)
def tb67 : Fns := lk [(99, T99.sp)]
theorem tb67_ok : FnsOk Tryz.prog tb67 := .cons f99 (FnsOk.nil)
theorem tb67_99 : tb67 99 = some T99.sp := rfl
theorem lt67_0 : (IntKind.i64.wrap (0 + 1)) = 1 := by first | rfl | decide | simp
attribute [go_sem] TP67 TR67 TA67
section
attribute [local go_sem] T67 tb67_99 Tryz.results67 lt67_0
theorem v67 : Valid Tryz.prog 67 T67.sp := by
 refine valid_t (fn := Tryz.f67) (n := 49) ty_ok tb67_ok Tryz.func67 rfl Tryz.ntmps67 ?_
 rintro ⟨a0, a1⟩ hx
 obtain ⟨r, hr⟩ := oE (show (r67 a0 a1).isSome = true from hx)
 have hres : T67.res (a0, a1) = qu1 r := by simp only [T67, mkT, hr, oG]
 refine ⟨nL rfl, fun stop S => ?_⟩
 rw [hres] at S
 unfold r67 at hr
 refine S.gx [4, 8] ?_
 obtain ⟨hg5, hr⟩ := of_guard0 hr
 obtain ⟨hg6, hr⟩ := of_guard0 hr
 repeat refine gA ?_
 refine S.sees [0, 1, 5, 6] [] [(15, 15)] ?_ (Stop.iter S (fun s1 => ⟨[(0, .c (.d (encF 2 d_II a0))), (1, .c (.d (encF 2 d_II a1))), (5, .c (.own 15)), (6, .c (.d (.int .i64 s1)))], [], [(15, .owned (encF 2 d_II (a0 ++ a1)))]⟩) (b67_1 a0 a1) (fun q => q = r) hr rfl ?_)
 ·exact lf
 ·intro s1 hr
  unfold b67_1 at hr
  refine S.gx [4, 8] ?_
  repeat refine gA ?_
  refine ⟨?_, ?_⟩ <;> intro hc
  ·have hr := ifP1 hr hc
   obtain ⟨hg3, hr⟩ := of_guard1 hr
   obtain ⟨v1, hv1, hr⟩ := of_bind1 hr
   obtain ⟨hg4, hr⟩ := of_guard1 hr
   obtain ⟨v2, hv2, hr⟩ := of_bind1 hr
   try simp only [hv1, hv2, Option.getD_some, Option.isSome_some, true_and, and_assoc]
   repeat refine gA ?_
   refine ⟨?_, ?_⟩ <;> intro hc
   ·have hr := ifP1 hr hc
    repeat refine gA ?_
    refine S.prune [] ?_
    refine S.gx [4] ?_
    repeat refine gA ?_
    have hr := of_out0 hr
    cases hr
    exact lf
   ·have hr := ifN1 hr hc
    repeat refine gA ?_
    refine S.prune [0, 1, 5, 6] ?_
    refine S.gx [8] ?_
    repeat refine gA ?_
    refine S.sees [0, 1, 5, 6] [] [(15, 15)] ?_ hr
    exact lf
  ·have hr := ifN1 hr hc
   repeat refine gA ?_
   have hr := of_out0 hr
   repeat refine gA ?_
   cases hr
   exact lf
theorem f67 : FnFact Tryz.prog 67 T67.sp := ⟨⟨Tryz.f67, Tryz.func67, by decide, rfl⟩, v67⟩
end

/- martensite/martensiteref03.CheckSetup -/
def b37_2 (x1 : List ((List (Int × Int)))) : (Int) → Ctl (Int) (Int × Int) := fun s2 =>
  if (decide (s2 < (x1.length : Int))) = true then
   if 0 ≤ s2 ∧ s2 < (x1.length : Int) then
    bindC (r66 (x1.getD s2.toNat default)) fun v10 =>
     if (v10 != 0) = true then
      .out (some (s2, v10))
      else if (decide (s2 > 0)) = true → 0 ≤ s2 ∧ s2 < (x1.length : Int) then
       if (decide (s2 > 0)) = true → 0 ≤ IntKind.i64.wrap (s2 - 1) ∧ IntKind.i64.wrap (s2 - 1) < (x1.length : Int) then
        if (decide (s2 > 0)) = true → (r67 (x1.getD s2.toNat default) (x1.getD (IntKind.i64.wrap (s2 - 1)).toNat default)).isSome = true then
         if ((decide (s2 > 0)) && ((r67 (x1.getD s2.toNat default) (x1.getD (IntKind.i64.wrap (s2 - 1)).toNat default)).getD default)) = true then
          .out (some (s2, 13))
          else .next (IntKind.i64.wrap (s2 + 1))
         else .out none
        else .out none
       else .out none
    else .out none
   else .out (some (0, 0))
def b37_1 (x0 : List (Int × Int)) (x1 : List ((List (Int × Int)))) : (Int) → Ctl (Int) (Int × Int) := fun s1 =>
  if (decide (s1 < (x0.length : Int))) = true then
   if 0 ≤ s1 ∧ s1 < (x0.length : Int) then
    bindC (r64 ((x0.getD s1.toNat default).1) 0 1000000) fun v2 =>
     if (!(!v2)) = true → 0 ≤ s1 ∧ s1 < (x0.length : Int) then
      if (!(!v2)) = true → (r65 ((x0.getD s1.toNat default).2)).isSome = true then
       if ((!v2) || (!((r65 ((x0.getD s1.toNat default).2)).getD default))) = true then
        .out (some (s1, 2))
        else if (decide (s1 > 0)) = true then
         if 0 ≤ s1 ∧ s1 < (x0.length : Int) then
          if 0 ≤ IntKind.i64.wrap (s1 - 1) ∧ IntKind.i64.wrap (s1 - 1) < (x0.length : Int) then
           if 0 ≤ s1 ∧ s1 < (x0.length : Int) then
            if 0 ≤ IntKind.i64.wrap (s1 - 1) ∧ IntKind.i64.wrap (s1 - 1) < (x0.length : Int) then
             if ((decide ((IntKind.i64.wrap (((x0.getD s1.toNat default).1) - ((x0.getD (IntKind.i64.wrap (s1 - 1)).toNat default).1))) ≤ 0)) || (decide ((IntKind.i64.wrap (((x0.getD s1.toNat default).2) - ((x0.getD (IntKind.i64.wrap (s1 - 1)).toNat default).2))) ≤ 0))) = true then
              .out (some (s1, 9))
              else if (decide ((IntKind.i64.wrap (((x0.getD s1.toNat default).2) - ((x0.getD (IntKind.i64.wrap (s1 - 1)).toNat default).2))) > (IntKind.i64.wrap (((x0.getD s1.toNat default).1) - ((x0.getD (IntKind.i64.wrap (s1 - 1)).toNat default).1))))) = true then
               .out (some (s1, 22))
               else .next (IntKind.i64.wrap (s1 + 1))
             else .out none
            else .out none
           else .out none
          else .out none
         else .next (IntKind.i64.wrap (s1 + 1))
       else .out none
      else .out none
    else .out none
   else .out (if (decide ((x1.length : Int) > 4)) = true then
    some (0, 8)
    else iterC (b37_2 x1) 1000000000 0)
def r37 (x3 : Int) (x2 : Int) (x0 : List (Int × Int)) (x1 : List ((List (Int × Int)))) : Option (Int × Int) :=
  (r64 x3 1 12).bind fun v1 =>
   if (!(!v1)) = true → (r64 x2 0 500).isSome = true then
    if ((!v1) || (!((r64 x2 0 500).getD default))) = true then
     some (0, 2)
     else if (decide ((x0.length : Int) < 2)) = true then
      some (0, 10)
      else if (decide ((x0.length : Int) > 8)) = true then
       some (0, 8)
       else iterC (b37_1 x0 x1) 1000000000 0
    else none
def T37 : TSpec qA12 := mkT qE12 qd12 (fun ⟨x3, x2, x0, x1⟩ => r37 x3 x2 x0 x1) qu3 false
theorem TP37 (c0 c1 c2 c3 : D) : T37.sp.pre [.agg [c0, c1, c2, c3]] = (eqvArgs (qt12 c0 c1 c2 c3) (qp12 qw12 c0 c1 c2 c3) ∧ (qp12 r37 c0 c1 c2 c3).isSome = true) := (rfl)
theorem TR37 (c0 c1 c2 c3 : D) : T37.sp.res [.agg [c0, c1, c2, c3]] = qu3 ((qp12 r37 c0 c1 c2 c3).getD default) := (rfl)
theorem TA37 : T37.sp.alias = false := (rfl)
def tb37 : Fns := lk [(64, T64.sp), (65, T65.sp), (66, T66.sp), (67, T67.sp)]
theorem tb37_ok : FnsOk Tryz.prog tb37 := .cons f64 (.cons f65 (.cons f66 (.cons f67 (FnsOk.nil))))
theorem tb37_64 : tb37 64 = some T64.sp := rfl
theorem tb37_65 : tb37 65 = some T65.sp := rfl
theorem tb37_66 : tb37 66 = some T66.sp := rfl
theorem tb37_67 : tb37 67 = some T67.sp := rfl
theorem lt37_0 : (decide ((0 : Int) > 0)) = false := by first | rfl | decide | simp
theorem lt37_1 : (IntKind.i64.wrap (0 + 1)) = 1 := by first | rfl | decide | simp
attribute [go_sem] TP37 TR37 TA37
section
attribute [local go_sem] T37 tb37_64 tb37_65 tb37_66 tb37_67 Tryz.results37 lt37_0 lt37_1
theorem v37 : Valid Tryz.prog 37 T37.sp := by
 refine valid_t (fn := Tryz.f37) (n := 132) ty_ok tb37_ok Tryz.func37 rfl Tryz.ntmps37 ?_
 rintro ⟨x3, x2, x0, x1⟩ hx
 obtain ⟨r, hr⟩ := oE (show (r37 x3 x2 x0 x1).isSome = true from hx)
 have hres : T37.res (x3, x2, x0, x1) = qu3 r := by simp only [T37, mkT, hr, oG]
 refine ⟨nL rfl, fun stop S => ?_⟩
 rw [hres] at S
 unfold r37 at hr
 refine S.gx [14, 22, 27] ?_
 obtain ⟨v1, hv1, hr⟩ := of_bind0 hr
 obtain ⟨hg15, hr⟩ := of_guard0 hr
 try simp only [hv1, oG, oI, true_and, and_assoc]
 repeat (first | refine gG hg15 ?_ | refine gA ?_ | refine gB ?_)
 refine ⟨?_, ?_⟩ <;> intro hc
 ·have hr := ifP hr hc
  repeat refine gA ?_
  cases hr
  exact lf
 ·have hr := ifN hr hc
  repeat refine gA ?_
  refine ⟨?_, ?_⟩ <;> intro hc
  ·have hr := ifP hr hc
   repeat refine gA ?_
   cases hr
   exact lf
  ·have hr := ifN hr hc
   repeat refine gA ?_
   refine ⟨?_, ?_⟩ <;> intro hc
   ·have hr := ifP hr hc
    repeat refine gA ?_
    cases hr
    exact lf
   ·have hr := ifN hr hc
    repeat refine gA ?_
    refine S.sees [1, 4] [(1, 1)] [] ?_ (Stop.iter S (fun s1 => ⟨[(1, .c (.ref 1 0)), (4, .c (.d (.int .i64 s1)))], [(1, [.d (.int .i64 x3), .d (.int .i64 x2), .d (encF 2 d_II x0), .d (encF 1 d_LIIE x1)])], []⟩) (b37_1 x0 x1) (fun q => q = r) hr rfl ?_)
    ·exact lf
    ·intro s1 hr
     unfold b37_1 at hr
     refine S.gx [14, 22, 27] ?_
     repeat refine gA ?_
     refine ⟨?_, ?_⟩ <;> intro hc
     ·have hr := ifP1 hr hc
      obtain ⟨hg7, hr⟩ := of_guard1 hr
      obtain ⟨v2, hv2, hr⟩ := of_bind1 hr
      obtain ⟨hg8, hr⟩ := of_guard1 hr
      obtain ⟨hg9, hr⟩ := of_guard1 hr
      try simp only [hv2, oG, oI, true_and, and_assoc]
      repeat (first | refine gG hg8 ?_ | refine gG hg9 ?_ | refine gA ?_ | refine gB ?_)
      refine ⟨?_, ?_⟩ <;> intro hc
      ·have hr := ifP1 hr hc
       repeat refine gA ?_
       have hr := of_out0 hr
       cases hr
       exact lf
      ·have hr := ifN1 hr hc
       repeat refine gA ?_
       refine ⟨?_, ?_⟩ <;> intro hc
       ·have hr := ifP1 hr hc
        obtain ⟨hg3, hr⟩ := of_guard1 hr
        obtain ⟨hg4, hr⟩ := of_guard1 hr
        obtain ⟨hg5, hr⟩ := of_guard1 hr
        obtain ⟨hg6, hr⟩ := of_guard1 hr
        repeat refine gA ?_
        refine S.prune [1, 4, 5, 6] ?_
        refine S.gx [22, 27] ?_
        repeat (first | refine gA ?_ | refine gB ?_)
        repeat refine gA ?_
        refine ⟨?_, ?_⟩ <;> intro hc
        ·have hr := ifP1 hr hc
         repeat refine gA ?_
         have hr := of_out0 hr
         cases hr
         exact lf
        ·have hr := ifN1 hr hc
         repeat refine gA ?_
         refine ⟨?_, ?_⟩ <;> intro hc
         ·have hr := ifP1 hr hc
          repeat refine gA ?_
          have hr := of_out0 hr
          cases hr
          exact lf
         ·have hr := ifN1 hr hc
          repeat refine gA ?_
          refine S.sees [1, 4] [(1, 1)] [] ?_ hr
          exact lf
       ·have hr := ifN1 hr hc
        repeat refine gA ?_
        refine S.sees [1, 4] [(1, 1)] [] ?_ hr
        exact lf
     ·have hr := ifN1 hr hc
      repeat refine gA ?_
      have hr := of_out0 hr
      repeat refine gA ?_
      refine ⟨?_, ?_⟩ <;> intro hc
      ·have hr := ifP hr hc
       repeat refine gA ?_
       cases hr
       exact lf
      ·have hr := ifN hr hc
       repeat refine gA ?_
       refine S.sees [1, 7] [(1, 1)] [] ?_ (Stop.iter S (fun s2 => ⟨[(1, .c (.ref 1 0)), (7, .c (.d (.int .i64 s2)))], [(1, [.d (.int .i64 x3), .d (.int .i64 x2), .d (encF 2 d_II x0), .d (encF 1 d_LIIE x1)])], []⟩) (b37_2 x1) (fun q => q = r) hr rfl ?_)
       ·exact lf
       ·intro s2 hr
        unfold b37_2 at hr
        refine S.gx [14, 22, 27] ?_
        repeat refine gA ?_
        refine ⟨?_, ?_⟩ <;> intro hc
        ·have hr := ifP1 hr hc
         obtain ⟨hg14, hr⟩ := of_guard1 hr
         obtain ⟨v10, hv10, hr⟩ := of_bind1 hr
         try simp only [hv10, oG, oI, true_and, and_assoc]
         repeat refine gA ?_
         refine ⟨?_, ?_⟩ <;> intro hc
         ·have hr := ifP1 hr hc
          repeat refine gA ?_
          have hr := of_out0 hr
          cases hr
          exact lf
         ·have hr := ifN1 hr hc
          obtain ⟨hg11, hr⟩ := of_guard1 hr
          obtain ⟨hg12, hr⟩ := of_guard1 hr
          obtain ⟨hg13, hr⟩ := of_guard1 hr
          repeat (first | refine gG hg11 ?_ | refine gG hg12 ?_ | refine gG hg13 ?_ | refine gA ?_ | refine gB ?_)
          refine ⟨?_, ?_⟩ <;> intro hc
          ·have hr := ifP1 hr hc
           repeat refine gA ?_
           refine S.prune [7] ?_
           refine S.gx [14, 22] ?_
           repeat refine gA ?_
           have hr := of_out0 hr
           cases hr
           exact lf
          ·have hr := ifN1 hr hc
           repeat refine gA ?_
           refine S.prune [1, 7] ?_
           refine S.gx [14, 27] ?_
           repeat refine gA ?_
           refine S.sees [1, 7] [(1, 1)] [] ?_ hr
           exact lf
        ·have hr := ifN1 hr hc
         repeat refine gA ?_
         have hr := of_out0 hr
         repeat refine gA ?_
         cases hr
         exact lf
theorem f37 : FnFact Tryz.prog 37 T37.sp := ⟨⟨Tryz.f37, Tryz.func37, by decide, rfl⟩, v37⟩
end

/- martensite/martensiteref03.SetupErr -/
def r12 (x0 : Int) (x1 : Int) (x2 : List (Int × Int)) (x3 : List ((List (Int × Int)))) : Option (Int) :=
  (r37 x0 x1 x2 x3).bind fun v1 =>
   some v1.2
def T12 : TSpec qA12 := mkT qE12 qd12 (fun ⟨x0, x1, x2, x3⟩ => r12 x0 x1 x2 x3) qu2 false
theorem TP12 (c0 c1 c2 c3 : D) : T12.sp.pre [.agg [c0, c1, c2, c3]] = (eqvArgs (qt12 c0 c1 c2 c3) (qp12 qw12 c0 c1 c2 c3) ∧ (qp12 r12 c0 c1 c2 c3).isSome = true) := (rfl)
theorem TR12 (c0 c1 c2 c3 : D) : T12.sp.res [.agg [c0, c1, c2, c3]] = qu2 ((qp12 r12 c0 c1 c2 c3).getD default) := (rfl)
theorem TA12 : T12.sp.alias = false := (rfl)
def tb12 : Fns := lk [(37, T37.sp)]
theorem tb12_ok : FnsOk Tryz.prog tb12 := .cons f37 (FnsOk.nil)
theorem tb12_37 : tb12 37 = some T37.sp := rfl
attribute [go_sem] TP12 TR12 TA12
section
attribute [local go_sem] T12 tb12_37 Tryz.results12
theorem v12 : Valid Tryz.prog 12 T12.sp := by
 refine valid_t (fn := Tryz.f12) (n := 11) ty_ok tb12_ok Tryz.func12 rfl Tryz.ntmps12 ?_
 rintro ⟨x0, x1, x2, x3⟩ hx
 obtain ⟨r, hr⟩ := oE (show (r12 x0 x1 x2 x3).isSome = true from hx)
 have hres : T12.res (x0, x1, x2, x3) = qu2 r := by simp only [T12, mkT, hr, oG]
 refine ⟨nL rfl, fun stop S => ?_⟩
 rw [hres] at S
 unfold r12 at hr
 refine S.gx [] ?_
 obtain ⟨v1, hv1, hr⟩ := of_bind0 hr
 try simp only [hv1, oG, oI, true_and, and_assoc]
 repeat refine gA ?_
 cases hr
 exact lf
theorem f12 : FnFact Tryz.prog 12 T12.sp := ⟨⟨Tryz.f12, Tryz.func12, by decide, rfl⟩, v12⟩
end

/- martensite/martensiteref03.ParseSetup -/
def b9_2 (s1 : Int × (List (Int × Int)) × (List ((List (Int × Int))))) (v3 : (List (Int × Int)) × Bool) : ((List (Int × Int)) × Int × (List (Int × Int))) → Ctl ((List (Int × Int)) × Int × (List (Int × Int))) (Ctl (Int × (List (Int × Int)) × (List ((List (Int × Int))))) (Int × Int × (List (Int × Int)) × (List ((List (Int × Int)))) × Int)) := fun s2 =>
  if (decide (s2.2.1 < (v3.1.length : Int))) = true then
   if (s1.1 == 1) = true then
    if 0 ≤ s2.2.1 ∧ s2.2.1 < (v3.1.length : Int) then
     if 0 ≤ s2.2.1 ∧ s2.2.1 < (v3.1.length : Int) then
      if (s2.2.2.length + 1) * 16 ≤ 140737488355328 ∧ s2.2.2.length + 1 ≤ 9223372036854775807 then
       .next (s2.1, IntKind.i64.wrap (s2.2.1 + 1), s2.2.2 ++ [((v3.1.getD s2.2.1.toNat default).1, (v3.1.getD s2.2.1.toNat default).2)])
       else .out none
      else .out none
     else .out none
    else if 0 ≤ s2.2.1 ∧ s2.2.1 < (v3.1.length : Int) then
     if 0 ≤ s2.2.1 ∧ s2.2.1 < (v3.1.length : Int) then
      if (s2.1.length + 1) * 16 ≤ 140737488355328 ∧ s2.1.length + 1 ≤ 9223372036854775807 then
       .next (s2.1 ++ [((v3.1.getD s2.2.1.toNat default).1, (v3.1.getD s2.2.1.toNat default).2)], IntKind.i64.wrap (s2.2.1 + 1), s2.2.2)
       else .out none
      else .out none
     else .out none
   else .out (some (if (decide (s1.1 > 1)) = true then
    if (s1.2.2.length + 1) * 24 ≤ 140737488355328 ∧ s1.2.2.length + 1 ≤ 9223372036854775807 then
     .next (IntKind.i64.wrap (s1.1 + 1), s2.2.2, s1.2.2 ++ [s2.1])
     else .out none
    else .next (IntKind.i64.wrap (s1.1 + 1), s2.2.2, s1.2.2)))
def b9_1 (v1 : (List (ByteArray))) (v2 : Int × Int × Bool) : (Int × (List (Int × Int)) × (List ((List (Int × Int))))) → Ctl (Int × (List (Int × Int)) × (List ((List (Int × Int))))) (Int × Int × (List (Int × Int)) × (List ((List (Int × Int)))) × Int) := fun s1 =>
  if (decide (s1.1 < (v1.length : Int))) = true then
   if 0 ≤ s1.1 ∧ s1.1 < (v1.length : Int) then
    bindC (r34 (v1.getD s1.1.toNat default)) fun v3 =>
     if (!v3.2) = true then
      .out (some (0, 0, [], [], 7))
      else (iterC (b9_2 s1 v3) 1000000000 ([], 0, s1.2.1)).getD (.out none)
    else .out none
   else .out ((r12 v2.1 v2.2.1 s1.2.1 s1.2.2).bind fun v12 =>
    if (v12 != 0) = true then
     some (0, 0, [], [], v12)
     else some (v2.1, v2.2.1, s1.2.1, s1.2.2, 0))
def r9 (a0 : ByteArray) : Option (Int × Int × (List (Int × Int)) × (List ((List (Int × Int)))) × Int) :=
  if (decide ((a0.size : Int) > 60000)) = true then
   some (0, 0, [], [], 8)
   else (r32 a0 59).bind fun v1 =>
    if (decide ((v1.length : Int) < 2)) = true then
     some (0, 0, [], [], 7)
     else if 0 ≤ 0 ∧ 0 < (v1.length : Int) then
      (r33 (v1.getD 0 default)).bind fun v2 =>
       if (!v2.2.2) = true then
        some (0, 0, [], [], 7)
        else iterC (b9_1 v1 v2) 1000000000 (1, [], [])
      else none
def T9 : TSpec qA44 := mkT qE44 qd44 r9 qu21 true
theorem TP9 (c0 : D) : T9.sp.pre [.c c0] = (eqvArgs (qt44 c0) (qp44 qw44 c0) ∧ (qp44 r9 c0).isSome = true) := (rfl)
theorem TR9 (c0 : D) : T9.sp.res [.c c0] = qu21 ((qp44 r9 c0).getD default) := (rfl)
theorem TA9 : T9.sp.alias = true := (rfl)
def tb9 : Fns := lk [(12, T12.sp), (32, T32.sp), (33, T33.sp), (34, T34.sp)]
theorem tb9_ok : FnsOk Tryz.prog tb9 := .cons f12 (.cons f32 (.cons f33 (.cons f34 (FnsOk.nil))))
theorem tb9_12 : tb9 12 = some T12.sp := rfl
theorem tb9_32 : tb9 32 = some T32.sp := rfl
theorem tb9_33 : tb9 33 = some T33.sp := rfl
theorem tb9_34 : tb9 34 = some T34.sp := rfl
theorem lt9_0 : ((((1 : Int)) == 1)) = true := by first | rfl | decide | simp
theorem lt9_1 : (IntKind.i64.wrap (0 + 1)) = 1 := by first | rfl | decide | simp
theorem lt9_2 : (decide ((1 : Int) > 1)) = false := by first | rfl | decide | simp
theorem lt9_3 : (IntKind.i64.wrap (1 + 1)) = 2 := by first | rfl | decide | simp
attribute [go_sem] TP9 TR9 TA9
section
attribute [local go_sem] T9 tb9_12 tb9_32 tb9_33 tb9_34 Tryz.results9 lt9_0 lt9_1 lt9_2 lt9_3
theorem v9 : Valid Tryz.prog 9 T9.sp := by
 refine valid_t (fn := Tryz.f9) (n := 109) ty_ok tb9_ok Tryz.func9 rfl Tryz.ntmps9 ?_
 rintro a0 hx
 obtain ⟨r, hr⟩ := oE (show (r9 a0).isSome = true from hx)
 have hres : T9.res a0 = qu21 r := by simp only [T9, mkT, hr, oG]
 refine ⟨nL rfl, fun stop S => ?_⟩
 rw [hres] at S
 unfold r9 at hr
 refine S.gx [] ?_
 repeat refine gA ?_
 refine ⟨?_, ?_⟩ <;> intro hc
 ·have hr := ifP hr hc
  repeat refine gA ?_
  cases hr
  exact lf
 ·have hr := ifN hr hc
  obtain ⟨v1, hv1, hr⟩ := of_bind0 hr
  try simp only [hv1, oG, oI, true_and, and_assoc]
  repeat refine gA ?_
  refine ⟨?_, ?_⟩ <;> intro hc
  ·have hr := ifP hr hc
   repeat refine gA ?_
   cases hr
   exact lf
  ·have hr := ifN hr hc
   obtain ⟨hg13, hr⟩ := of_guard0 hr
   obtain ⟨v2, hv2, hr⟩ := of_bind0 hr
   try simp only [hv2, oG, oI, true_and, and_assoc]
   repeat refine gA ?_
   refine ⟨?_, ?_⟩ <;> intro hc
   ·have hr := ifP hr hc
    repeat refine gA ?_
    cases hr
    exact lf
   ·have hr := ifN hr hc
    repeat refine gA ?_
    refine S.own0b 7 2 2000702 2 rfl rfl (nL rfl) rfl ?_
    refine S.own0b 7 3 2000703 1 rfl rfl (nL rfl) rfl ?_
    refine S.sees [2, 4, 7, 8] [(2, 2), (7, 7)] [(2000702, 2000702), (2000703, 2000703), (19, 19)] ?_ (Stop.iter S (fun s1 => ⟨[(2, .c (.ref 2 0)), (4, .c (.own 19)), (7, .c (.ref 7 0)), (8, .c (.d (.int .i64 s1.1)))], [(2, [.d (.int .i64 0), .d (.int .i64 0), .nils, .nils]), (7, [.d (.int .i64 v2.1), .d (.int .i64 v2.2.1), .own 2000702, .own 2000703])], [(2000702, .owned (encF 2 d_II s1.2.1)), (2000703, .owned (encF 1 d_LIIE s1.2.2)), (19, .owned (encF 1 d_S v1))]⟩) (b9_1 v1 v2) (fun q => q = r) hr rfl ?_)
    ·exact lf
    ·intro s1 hr
     unfold b9_1 at hr
     refine S.gx [] ?_
     repeat refine gA ?_
     refine ⟨?_, ?_⟩ <;> intro hc
     ·have hr := ifP1 hr hc
      obtain ⟨hg11, hr⟩ := of_guard1 hr
      obtain ⟨v3, hv3, hr⟩ := of_bind1 hr
      try simp only [hv3, oG, oI, true_and, and_assoc]
      repeat refine gA ?_
      refine ⟨?_, ?_⟩ <;> intro hc
      ·have hr := ifP1 hr hc
       repeat refine gA ?_
       have hr := of_out0 hr
       cases hr
       exact lf
      ·have hr := ifN1 hr hc
       repeat refine gA ?_
       refine S.own0 11 1001100 2 rfl rfl ?_
       obtain ⟨q2, hq, hr⟩ := of_iter1 hr
       refine S.sees [2, 4, 7, 8, 9, 11, 12] [(2, 2), (7, 7)] [(1001100, 1001100), (19, 19), (50, 50), (2000702, 2000702), (2000703, 2000703)] ?_ (Stop.iter S (fun s2 => ⟨[(2, .c (.ref 2 0)), (4, .c (.own 19)), (7, .c (.ref 7 0)), (8, .c (.d (.int .i64 s1.1))), (9, .c (.own 50)), (11, .c (.own 1001100)), (12, .c (.d (.int .i64 s2.2.1)))], [(2, [.d (.int .i64 0), .d (.int .i64 0), .nils, .nils]), (7, [.d (.int .i64 v2.1), .d (.int .i64 v2.2.1), .own 2000702, .own 2000703])], [(1001100, .owned (encF 2 d_II s2.1)), (19, .owned (encF 1 d_S v1)), (50, .owned (encF 2 d_II v3.1)), (2000702, .owned (encF 2 d_II s2.2.2)), (2000703, .owned (encF 1 d_LIIE s1.2.2))]⟩) (b9_2 s1 v3) _ hq hr ?_)
       ·exact lf
       ·intro s2 hr
        unfold b9_2 at hr
        refine S.gx [] ?_
        repeat refine gA ?_
        refine ⟨?_, ?_⟩ <;> intro hc
        ·have hr := ifP1 hr hc
         repeat refine gA ?_
         refine ⟨?_, ?_⟩ <;> intro hc
         ·have hr := ifP1 hr hc
          obtain ⟨hg4, hr⟩ := of_guard1 hr
          obtain ⟨hg5, hr⟩ := of_guard1 hr
          obtain ⟨hg6, hr⟩ := of_guard1 hr
          repeat refine gA ?_
          refine S.sees [2, 4, 7, 8, 9, 11, 12] [(2, 2), (7, 7)] [(1001100, 1001100), (19, 19), (50, 50), (78, 2000702), (2000703, 2000703)] ?_ hr
          exact lf
         ·have hr := ifN1 hr hc
          obtain ⟨hg7, hr⟩ := of_guard1 hr
          obtain ⟨hg8, hr⟩ := of_guard1 hr
          obtain ⟨hg9, hr⟩ := of_guard1 hr
          repeat refine gA ?_
          refine S.sees [2, 4, 7, 8, 9, 11, 12] [(2, 2), (7, 7)] [(93, 1001100), (19, 19), (50, 50), (2000702, 2000702), (2000703, 2000703)] ?_ hr
          exact lf
        ·have hr := ifN1 hr hc
         repeat refine gA ?_
         replace hr := goodC_out hr
         repeat refine gA ?_
         refine ⟨?_, ?_⟩ <;> intro hc
         ·have hr := ifP1 hr hc
          obtain ⟨hg10, hr⟩ := of_guard1 hr
          repeat refine gA ?_
          refine S.sees [2, 4, 7, 8] [(2, 2), (7, 7)] [(2000702, 2000702), (100, 2000703), (19, 19)] ?_ hr
          exact lf
         ·have hr := ifN1 hr hc
          repeat refine gA ?_
          refine S.sees [2, 4, 7, 8] [(2, 2), (7, 7)] [(2000702, 2000702), (2000703, 2000703), (19, 19)] ?_ hr
          exact lf
     ·have hr := ifN1 hr hc
      repeat refine gA ?_
      have hr := of_out0 hr
      obtain ⟨v12, hv12, hr⟩ := of_bind0 hr
      try simp only [hv12, oG, oI, true_and, and_assoc]
      repeat refine gA ?_
      refine ⟨?_, ?_⟩ <;> intro hc
      ·have hr := ifP hr hc
       repeat refine gA ?_
       cases hr
       exact lf
      ·have hr := ifN hr hc
       repeat refine gA ?_
       cases hr
       exact lf
theorem f9 : FnFact Tryz.prog 9 T9.sp := ⟨⟨Tryz.f9, Tryz.func9, by decide, rfl⟩, v9⟩
end

/- martensite/martensitebase.Size -/
def r63 (a0 : Int) : Option (Int) :=
  some (if a0 < IntKind.i64.wrap (0 - a0) then IntKind.i64.wrap (0 - a0) else a0)
def T63 : TSpec qA4 := mkT qE4 qd4 r63 qu2 false
theorem TP63 (c0 : D) : T63.sp.pre [.c c0] = (eqvArgs (qt4 c0) (qp4 qw4 c0) ∧ (qp4 r63 c0).isSome = true) := (rfl)
theorem TR63 (c0 : D) : T63.sp.res [.c c0] = qu2 ((qp4 r63 c0).getD default) := (rfl)
theorem TA63 : T63.sp.alias = false := (rfl)
def tb63 : Fns := lk []
theorem tb63_ok : FnsOk Tryz.prog tb63 := FnsOk.nil
attribute [go_sem] TP63 TR63 TA63
section
attribute [local go_sem] T63 Tryz.results63
theorem v63 : Valid Tryz.prog 63 T63.sp := by
 refine valid_t (fn := Tryz.f63) (n := 7) ty_ok tb63_ok Tryz.func63 rfl Tryz.ntmps63 ?_
 rintro a0 hx
 obtain ⟨r, hr⟩ := oE (show (r63 a0).isSome = true from hx)
 have hres : T63.res a0 = qu2 r := by simp only [T63, mkT, hr, oG]
 refine ⟨nL rfl, fun stop S => ?_⟩
 rw [hres] at S
 unfold r63 at hr
 refine S.gx [] ?_
 repeat refine gA ?_
 cases hr
 exact lf
theorem f63 : FnFact Tryz.prog 63 T63.sp := ⟨⟨Tryz.f63, Tryz.func63, by decide, rfl⟩, v63⟩
end

/- martensite/martensitebase.Decimal -/
def b35_1 : (Int × ByteArray) → Ctl (Int × ByteArray) (ByteArray) := fun s1 =>
  if (s1.1 != 0) = true then
   bindC (r63 (s1.1.tmod 10)) fun v1 =>
    if (#[UInt8.ofNat (IntKind.u8.wrap (IntKind.i64.wrap (48 + v1))).toNat] : Array UInt8).size + s1.2.size ≤ 9223372036854775807 then
     .next (IntKind.i64.wrap (s1.1.tdiv 10), (⟨#[UInt8.ofNat (IntKind.u8.wrap (IntKind.i64.wrap (48 + v1))).toNat]⟩ : ByteArray) ++ s1.2)
     else .out none
   else .out (if (#[45] : Array UInt8).size + s1.2.size ≤ 9223372036854775807 then
    some ((⟨#[45]⟩ : ByteArray) ++ s1.2)
    else none)
def b35_2 : (Int × ByteArray) → Ctl (Int × ByteArray) (ByteArray) := fun s2 =>
  if (s2.1 != 0) = true then
   bindC (r63 (s2.1.tmod 10)) fun v4 =>
    if (#[UInt8.ofNat (IntKind.u8.wrap (IntKind.i64.wrap (48 + v4))).toNat] : Array UInt8).size + s2.2.size ≤ 9223372036854775807 then
     .next (IntKind.i64.wrap (s2.1.tdiv 10), (⟨#[UInt8.ofNat (IntKind.u8.wrap (IntKind.i64.wrap (48 + v4))).toNat]⟩ : ByteArray) ++ s2.2)
     else .out none
   else .out (if (#[] : Array UInt8).size + s2.2.size ≤ 9223372036854775807 then
    some ((⟨#[]⟩ : ByteArray) ++ s2.2)
    else none)
def r35 (a0 : Int) : Option (ByteArray) :=
  if (a0 == 0) = true then
   some (⟨#[48]⟩ : ByteArray)
   else if (decide (a0 < 0)) = true then
    iterC (b35_1) 1000000000 (a0, (⟨#[]⟩ : ByteArray))
    else iterC (b35_2) 1000000000 (a0, (⟨#[]⟩ : ByteArray))
def T35 : TSpec qA4 := mkT qE4 qd4 r35 qu15 false
theorem TP35 (c0 : D) : T35.sp.pre [.c c0] = (eqvArgs (qt4 c0) (qp4 qw4 c0) ∧ (qp4 r35 c0).isSome = true) := (rfl)
theorem TR35 (c0 : D) : T35.sp.res [.c c0] = qu15 ((qp4 r35 c0).getD default) := (rfl)
theorem TA35 : T35.sp.alias = false := (rfl)
def tb35 : Fns := lk [(63, T63.sp)]
theorem tb35_ok : FnsOk Tryz.prog tb35 := .cons f63 (FnsOk.nil)
theorem tb35_63 : tb35 63 = some T63.sp := rfl
attribute [go_sem] TP35 TR35 TA35
section
attribute [local go_sem] T35 tb35_63 Tryz.results35
theorem v35 : Valid Tryz.prog 35 T35.sp := by
 refine valid_t (fn := Tryz.f35) (n := 27) ty_ok tb35_ok Tryz.func35 rfl Tryz.ntmps35 ?_
 rintro a0 hx
 obtain ⟨r, hr⟩ := oE (show (r35 a0).isSome = true from hx)
 have hres : T35.res a0 = qu15 r := by simp only [T35, mkT, hr, oG]
 refine ⟨nL rfl, fun stop S => ?_⟩
 rw [hres] at S
 unfold r35 at hr
 refine S.gx [] ?_
 repeat refine gA ?_
 refine ⟨?_, ?_⟩ <;> intro hc
 ·have hr := ifP hr hc
  repeat refine gA ?_
  cases hr
  exact lf
 ·have hr := ifN hr hc
  repeat refine gA ?_
  refine ⟨?_, ?_⟩ <;> intro hc
  ·have hr := ifP hr hc
   repeat refine gA ?_
   refine S.sees [0, 3, 4] [] [] ?_ (Stop.iter S (fun s1 => ⟨[(0, .c (.d (.int .i64 s1.1))), (3, .c (.d (.str s1.2))), (4, .c (.d (.str (⟨#[45]⟩ : ByteArray))))], [], []⟩) (b35_1) (fun q => q = r) hr rfl ?_)
   ·exact lf
   ·intro s1 hr
    unfold b35_1 at hr
    refine S.gx [] ?_
    repeat refine gA ?_
    refine ⟨?_, ?_⟩ <;> intro hc
    ·have hr := ifP1 hr hc
     obtain ⟨v1, hv1, hr⟩ := of_bind1 hr
     obtain ⟨hg2, hr⟩ := of_guard1 hr
     try simp only [hv1, oG, oI, true_and, and_assoc]
     repeat refine gA ?_
     refine S.sees [0, 3, 4] [] [] ?_ hr
     exact lf
    ·have hr := ifN1 hr hc
     repeat refine gA ?_
     have hr := of_out0 hr
     obtain ⟨hg3, hr⟩ := of_guard0 hr
     repeat refine gA ?_
     cases hr
     exact lf
  ·have hr := ifN hr hc
   repeat refine gA ?_
   refine S.sees [0, 3, 4] [] [] ?_ (Stop.iter S (fun s2 => ⟨[(0, .c (.d (.int .i64 s2.1))), (3, .c (.d (.str s2.2))), (4, .c (.d (.str (⟨#[]⟩ : ByteArray))))], [], []⟩) (b35_2) (fun q => q = r) hr rfl ?_)
   ·exact lf
   ·intro s2 hr
    unfold b35_2 at hr
    refine S.gx [] ?_
    repeat refine gA ?_
    refine ⟨?_, ?_⟩ <;> intro hc
    ·have hr := ifP1 hr hc
     obtain ⟨v4, hv4, hr⟩ := of_bind1 hr
     obtain ⟨hg5, hr⟩ := of_guard1 hr
     try simp only [hv4, oG, oI, true_and, and_assoc]
     repeat refine gA ?_
     refine S.sees [0, 3, 4] [] [] ?_ hr
     exact lf
    ·have hr := ifN1 hr hc
     repeat refine gA ?_
     have hr := of_out0 hr
     obtain ⟨hg6, hr⟩ := of_guard0 hr
     repeat refine gA ?_
     cases hr
     exact lf
theorem f35 : FnFact Tryz.prog 35 T35.sp := ⟨⟨Tryz.f35, Tryz.func35, by decide, rfl⟩, v35⟩
end

/- martensite/martensiteref03.pairs -/
def b36_1 (a0 : List (Int × Int)) : (ByteArray × Int) → Ctl (ByteArray × Int) (ByteArray) := fun s1 =>
  if (decide (s1.2 < (a0.length : Int))) = true then
   if (decide (s1.2 > 0)) = true then
    if s1.1.size + (#[44] : Array UInt8).size ≤ 9223372036854775807 then
     if 0 ≤ s1.2 ∧ s1.2 < (a0.length : Int) then
      bindC (r35 ((a0.getD s1.2.toNat default).1)) fun v1 =>
       if s1.1.size + (#[44] : Array UInt8).size + v1.size ≤ 9223372036854775807 then
        if s1.1.size + (#[44] : Array UInt8).size + v1.size + (#[32] : Array UInt8).size ≤ 9223372036854775807 then
         if 0 ≤ s1.2 ∧ s1.2 < (a0.length : Int) then
          bindC (r35 ((a0.getD s1.2.toNat default).2)) fun v2 =>
           if s1.1.size + (#[44] : Array UInt8).size + v1.size + (#[32] : Array UInt8).size + v2.size ≤ 9223372036854775807 then
            .next ((((s1.1 ++ (⟨#[44]⟩ : ByteArray)) ++ v1) ++ (⟨#[32]⟩ : ByteArray)) ++ v2, IntKind.i64.wrap (s1.2 + 1))
            else .out none
          else .out none
         else .out none
        else .out none
      else .out none
     else .out none
    else if 0 ≤ s1.2 ∧ s1.2 < (a0.length : Int) then
     bindC (r35 ((a0.getD s1.2.toNat default).1)) fun v9 =>
      if s1.1.size + v9.size ≤ 9223372036854775807 then
       if s1.1.size + v9.size + (#[32] : Array UInt8).size ≤ 9223372036854775807 then
        if 0 ≤ s1.2 ∧ s1.2 < (a0.length : Int) then
         bindC (r35 ((a0.getD s1.2.toNat default).2)) fun v10 =>
          if s1.1.size + v9.size + (#[32] : Array UInt8).size + v10.size ≤ 9223372036854775807 then
           .next (((s1.1 ++ v9) ++ (⟨#[32]⟩ : ByteArray)) ++ v10, IntKind.i64.wrap (s1.2 + 1))
           else .out none
         else .out none
        else .out none
       else .out none
     else .out none
   else .out (some s1.1)
def r36 (a0 : List (Int × Int)) : Option (ByteArray) :=
  iterC (b36_1 a0) 1000000000 ((⟨#[]⟩ : ByteArray), 0)
def T36 : TSpec qA5 := mkT qE5 qd5 r36 qu15 false
theorem TP36 (c0 : D) : T36.sp.pre [.c c0] = (eqvArgs (qt5 c0) (qp5 qw5 c0) ∧ (qp5 r36 c0).isSome = true) := (rfl)
theorem TR36 (c0 : D) : T36.sp.res [.c c0] = qu15 ((qp5 r36 c0).getD default) := (rfl)
theorem TA36 : T36.sp.alias = false := (rfl)
def tb36 : Fns := lk [(35, T35.sp)]
theorem tb36_ok : FnsOk Tryz.prog tb36 := .cons f35 (FnsOk.nil)
theorem tb36_35 : tb36 35 = some T35.sp := rfl
theorem lt36_0 : (decide ((0 : Int) > 0)) = false := by first | rfl | decide | simp
theorem lt36_1 : (IntKind.i64.wrap (0 + 1)) = 1 := by first | rfl | decide | simp
attribute [go_sem] TP36 TR36 TA36
section
attribute [local go_sem] T36 tb36_35 Tryz.results36 lt36_0 lt36_1
theorem v36 : Valid Tryz.prog 36 T36.sp := by
 refine valid_t (fn := Tryz.f36) (n := 32) ty_ok tb36_ok Tryz.func36 rfl Tryz.ntmps36 ?_
 rintro a0 hx
 obtain ⟨r, hr⟩ := oE (show (r36 a0).isSome = true from hx)
 have hres : T36.res a0 = qu15 r := by simp only [T36, mkT, hr, oG]
 refine ⟨nL rfl, fun stop S => ?_⟩
 rw [hres] at S
 unfold r36 at hr
 refine S.gx [] ?_
 repeat refine gA ?_
 refine S.sees [0, 3, 4] [] [] ?_ (Stop.iter S (fun s1 => ⟨[(0, .c (.d (encF 2 d_II a0))), (3, .c (.d (.str s1.1))), (4, .c (.d (.int .i64 s1.2)))], [], []⟩) (b36_1 a0) (fun q => q = r) hr rfl ?_)
 ·exact lf
 ·intro s1 hr
  unfold b36_1 at hr
  refine S.gx [] ?_
  repeat refine gA ?_
  refine ⟨?_, ?_⟩ <;> intro hc
  ·have hr := ifP1 hr hc
   repeat refine gA ?_
   refine ⟨?_, ?_⟩ <;> intro hc
   ·have hr := ifP1 hr hc
    obtain ⟨hg3, hr⟩ := of_guard1 hr
    obtain ⟨hg4, hr⟩ := of_guard1 hr
    obtain ⟨v1, hv1, hr⟩ := of_bind1 hr
    obtain ⟨hg5, hr⟩ := of_guard1 hr
    obtain ⟨hg6, hr⟩ := of_guard1 hr
    obtain ⟨hg7, hr⟩ := of_guard1 hr
    obtain ⟨v2, hv2, hr⟩ := of_bind1 hr
    obtain ⟨hg8, hr⟩ := of_guard1 hr
    try simp only [hv1, hv2, Option.getD_some, Option.isSome_some, true_and, and_assoc]
    repeat refine gA ?_
    refine S.sees [0, 3, 4] [] [] ?_ hr
    exact lf
   ·have hr := ifN1 hr hc
    obtain ⟨hg11, hr⟩ := of_guard1 hr
    obtain ⟨v9, hv9, hr⟩ := of_bind1 hr
    obtain ⟨hg12, hr⟩ := of_guard1 hr
    obtain ⟨hg13, hr⟩ := of_guard1 hr
    obtain ⟨hg14, hr⟩ := of_guard1 hr
    obtain ⟨v10, hv10, hr⟩ := of_bind1 hr
    obtain ⟨hg15, hr⟩ := of_guard1 hr
    try simp only [hv9, hv10, Option.getD_some, Option.isSome_some, true_and, and_assoc]
    repeat refine gA ?_
    refine S.sees [0, 3, 4] [] [] ?_ hr
    exact lf
  ·have hr := ifN1 hr hc
   repeat refine gA ?_
   have hr := of_out0 hr
   repeat refine gA ?_
   cases hr
   exact lf
theorem f36 : FnFact Tryz.prog 36 T36.sp := ⟨⟨Tryz.f36, Tryz.func36, by decide, rfl⟩, v36⟩
end

/- martensite/martensiteref03.FormatSetup -/
def b10_3 (x0 : List ((List (Int × Int)))) (s2 : ByteArray × Int) : ((List (Int × Int)) × Int) → Ctl ((List (Int × Int)) × Int) (Ctl (ByteArray × Int) (ByteArray)) := fun s3 =>
  if 0 ≤ s2.2 ∧ s2.2 < (x0.length : Int) then
   if (decide (s3.2 < ((x0.getD s2.2.toNat default).length : Int))) = true then
    if 0 ≤ s2.2 ∧ s2.2 < (x0.length : Int) then
     if 0 ≤ s3.2 ∧ s3.2 < ((x0.getD s2.2.toNat default).length : Int) then
      if 0 ≤ s2.2 ∧ s2.2 < (x0.length : Int) then
       if 0 ≤ s3.2 ∧ s3.2 < ((x0.getD s2.2.toNat default).length : Int) then
        if (s3.1.length + 1) * 16 ≤ 140737488355328 ∧ s3.1.length + 1 ≤ 9223372036854775807 then
         .next (s3.1 ++ [(((x0.getD s2.2.toNat default).getD s3.2.toNat default).1, ((x0.getD s2.2.toNat default).getD s3.2.toNat default).2)], IntKind.i64.wrap (s3.2 + 1))
         else .out none
        else .out none
       else .out none
      else .out none
     else .out none
    else .out (some (if s2.1.size + (#[59] : Array UInt8).size ≤ 9223372036854775807 then
     bindC (r36 s3.1) fun v12 =>
      if s2.1.size + (#[59] : Array UInt8).size + v12.size ≤ 9223372036854775807 then
       .next ((s2.1 ++ (⟨#[59]⟩ : ByteArray)) ++ v12, IntKind.i64.wrap (s2.2 + 1))
       else .out none
     else .out none))
   else .out none
def b10_2 (x0 : List ((List (Int × Int)))) : (ByteArray × Int) → Ctl (ByteArray × Int) (ByteArray) := fun s2 =>
  if (decide (s2.2 < (x0.length : Int))) = true then
   (iterC (b10_3 x0 s2) 1000000000 ([], 0)).getD (.out none)
   else .out (some s2.1)
def b10_1 (x2 : Int) (x3 : Int) (x1 : List (Int × Int)) (x0 : List ((List (Int × Int)))) : ((List (Int × Int)) × Int) → Ctl ((List (Int × Int)) × Int) (ByteArray) := fun s1 =>
  if (decide (s1.2 < (x1.length : Int))) = true then
   if 0 ≤ s1.2 ∧ s1.2 < (x1.length : Int) then
    if 0 ≤ s1.2 ∧ s1.2 < (x1.length : Int) then
     if (s1.1.length + 1) * 16 ≤ 140737488355328 ∧ s1.1.length + 1 ≤ 9223372036854775807 then
      .next (s1.1 ++ [((x1.getD s1.2.toNat default).1, (x1.getD s1.2.toNat default).2)], IntKind.i64.wrap (s1.2 + 1))
      else .out none
     else .out none
    else .out none
   else .out ((r35 x2).bind fun v4 =>
    if v4.size + (#[32] : Array UInt8).size ≤ 9223372036854775807 then
     (r35 x3).bind fun v5 =>
      if v4.size + (#[32] : Array UInt8).size + v5.size ≤ 9223372036854775807 then
       if v4.size + (#[32] : Array UInt8).size + v5.size + (#[59] : Array UInt8).size ≤ 9223372036854775807 then
        (r36 s1.1).bind fun v6 =>
         if v4.size + (#[32] : Array UInt8).size + v5.size + (#[59] : Array UInt8).size + v6.size ≤ 9223372036854775807 then
          iterC (b10_2 x0) 1000000000 ((((v4 ++ (⟨#[32]⟩ : ByteArray)) ++ v5) ++ (⟨#[59]⟩ : ByteArray)) ++ v6, 0)
          else none
        else none
       else none
     else none)
def r10 (x2 : Int) (x3 : Int) (x1 : List (Int × Int)) (x0 : List ((List (Int × Int)))) : Option (ByteArray) :=
  iterC (b10_1 x2 x3 x1 x0) 1000000000 ([], 0)
def T10 : TSpec qA12 := mkT qE12 qd12 (fun ⟨x2, x3, x1, x0⟩ => r10 x2 x3 x1 x0) qu15 false
theorem TP10 (c0 c1 c2 c3 : D) : T10.sp.pre [.agg [c0, c1, c2, c3]] = (eqvArgs (qt12 c0 c1 c2 c3) (qp12 qw12 c0 c1 c2 c3) ∧ (qp12 r10 c0 c1 c2 c3).isSome = true) := (rfl)
theorem TR10 (c0 c1 c2 c3 : D) : T10.sp.res [.agg [c0, c1, c2, c3]] = qu15 ((qp12 r10 c0 c1 c2 c3).getD default) := (rfl)
theorem TA10 : T10.sp.alias = false := (rfl)
def tb10 : Fns := lk [(35, T35.sp), (36, T36.sp)]
theorem tb10_ok : FnsOk Tryz.prog tb10 := .cons f35 (.cons f36 (FnsOk.nil))
theorem tb10_35 : tb10 35 = some T35.sp := rfl
theorem tb10_36 : tb10 36 = some T36.sp := rfl
theorem lt10_0 : (IntKind.i64.wrap (0 + 1)) = 1 := by first | rfl | decide | simp
attribute [go_sem] TP10 TR10 TA10
section
attribute [local go_sem] T10 tb10_35 tb10_36 Tryz.results10 lt10_0
theorem v10 : Valid Tryz.prog 10 T10.sp := by
 refine valid_t (fn := Tryz.f10) (n := 89) ty_ok tb10_ok Tryz.func10 rfl Tryz.ntmps10 ?_
 rintro ⟨x2, x3, x1, x0⟩ hx
 obtain ⟨r, hr⟩ := oE (show (r10 x2 x3 x1 x0).isSome = true from hx)
 have hres : T10.res (x2, x3, x1, x0) = qu15 r := by simp only [T10, mkT, hr, oG]
 refine ⟨nL rfl, fun stop S => ?_⟩
 rw [hres] at S
 unfold r10 at hr
 refine S.gx [13] ?_
 repeat refine gA ?_
 refine S.own0 3 1000300 2 rfl rfl ?_
 refine S.sees [1, 3, 4] [(1, 1)] [(1000300, 1000300)] ?_ (Stop.iter S (fun s1 => ⟨[(1, .c (.ref 1 0)), (3, .c (.own 1000300)), (4, .c (.d (.int .i64 s1.2)))], [(1, [.d (.int .i64 x2), .d (.int .i64 x3), .d (encF 2 d_II x1), .d (encF 1 d_LIIE x0)])], [(1000300, .owned (encF 2 d_II s1.1))]⟩) (b10_1 x2 x3 x1 x0) (fun q => q = r) hr rfl ?_)
 ·exact lf
 ·intro s1 hr
  unfold b10_1 at hr
  refine S.gx [13] ?_
  repeat refine gA ?_
  refine ⟨?_, ?_⟩ <;> intro hc
  ·have hr := ifP1 hr hc
   obtain ⟨hg1, hr⟩ := of_guard1 hr
   obtain ⟨hg2, hr⟩ := of_guard1 hr
   obtain ⟨hg3, hr⟩ := of_guard1 hr
   repeat refine gA ?_
   refine S.sees [1, 3, 4] [(1, 1)] [(31, 1000300)] ?_ hr
   exact lf
  ·have hr := ifN1 hr hc
   repeat refine gA ?_
   have hr := of_out0 hr
   obtain ⟨v4, hv4, hr⟩ := of_bind0 hr
   obtain ⟨hg16, hr⟩ := of_guard0 hr
   obtain ⟨v5, hv5, hr⟩ := of_bind0 hr
   obtain ⟨hg17, hr⟩ := of_guard0 hr
   obtain ⟨hg18, hr⟩ := of_guard0 hr
   obtain ⟨v6, hv6, hr⟩ := of_bind0 hr
   obtain ⟨hg19, hr⟩ := of_guard0 hr
   try simp only [hv4, hv5, hv6, Option.getD_some, Option.isSome_some, true_and, and_assoc]
   repeat refine gA ?_
   refine S.sees [1, 5, 6] [(1, 1)] [] ?_ (Stop.iter S (fun s2 => ⟨[(1, .c (.ref 1 0)), (5, .c (.d (.str s2.1))), (6, .c (.d (.int .i64 s2.2)))], [(1, [.d (.int .i64 x2), .d (.int .i64 x3), .d (encF 2 d_II x1), .d (encF 1 d_LIIE x0)])], []⟩) (b10_2 x0) (fun q => q = r) hr rfl ?_)
   ·exact lf
   ·intro s2 hr
    unfold b10_2 at hr
    refine S.gx [13] ?_
    repeat refine gA ?_
    refine ⟨?_, ?_⟩ <;> intro hc
    ·have hr := ifP1 hr hc
     repeat refine gA ?_
     refine S.own0 7 1000700 2 rfl rfl ?_
     obtain ⟨q3, hq, hr⟩ := of_iter1 hr
     refine S.sees [1, 5, 6, 7, 8] [(1, 1)] [(1000700, 1000700)] ?_ (Stop.iter S (fun s3 => ⟨[(1, .c (.ref 1 0)), (5, .c (.d (.str s2.1))), (6, .c (.d (.int .i64 s2.2))), (7, .c (.own 1000700)), (8, .c (.d (.int .i64 s3.2)))], [(1, [.d (.int .i64 x2), .d (.int .i64 x3), .d (encF 2 d_II x1), .d (encF 1 d_LIIE x0)])], [(1000700, .owned (encF 2 d_II s3.1))]⟩) (b10_3 x0 s2) _ hq hr ?_)
     ·exact lf
     ·intro s3 hr
      unfold b10_3 at hr
      refine S.gx [13] ?_
      obtain ⟨hg15, hr⟩ := of_guard1 hr
      repeat refine gA ?_
      refine ⟨?_, ?_⟩ <;> intro hc
      ·have hr := ifP1 hr hc
       obtain ⟨hg7, hr⟩ := of_guard1 hr
       obtain ⟨hg8, hr⟩ := of_guard1 hr
       obtain ⟨hg9, hr⟩ := of_guard1 hr
       obtain ⟨hg10, hr⟩ := of_guard1 hr
       obtain ⟨hg11, hr⟩ := of_guard1 hr
       repeat refine gA ?_
       refine S.prune [1, 5, 6, 7, 8] ?_
       refine S.gx [] ?_
       repeat refine gA ?_
       refine S.sees [1, 5, 6, 7, 8] [(1, 1)] [(82, 1000700)] ?_ hr
       exact lf
      ·have hr := ifN1 hr hc
       repeat refine gA ?_
       replace hr := goodC_out hr
       obtain ⟨hg13, hr⟩ := of_guard1 hr
       obtain ⟨v12, hv12, hr⟩ := of_bind1 hr
       obtain ⟨hg14, hr⟩ := of_guard1 hr
       try simp only [hv12, oG, oI, true_and, and_assoc]
       repeat refine gA ?_
       refine S.sees [1, 5, 6] [(1, 1)] [] ?_ hr
       exact lf
    ·have hr := ifN1 hr hc
     repeat refine gA ?_
     have hr := of_out0 hr
     repeat refine gA ?_
     cases hr
     exact lf
theorem f10 : FnFact Tryz.prog 10 T10.sp := ⟨⟨Tryz.f10, Tryz.func10, by decide, rfl⟩, v10⟩
end

/- martensite/martensiteref03.SameSetup -/
def b11_3 (x0 : List ((List (Int × Int)))) (x1 : List ((List (Int × Int)))) (s2 : Int) : (Int) → Ctl (Int) (Ctl (Int) (Bool)) := fun s3 =>
  if 0 ≤ s2 ∧ s2 < (x0.length : Int) then
   if (decide (s3 < ((x0.getD s2.toNat default).length : Int))) = true then
    if 0 ≤ s2 ∧ s2 < (x0.length : Int) then
     if 0 ≤ s3 ∧ s3 < ((x0.getD s2.toNat default).length : Int) then
      if 0 ≤ s2 ∧ s2 < (x1.length : Int) then
       if 0 ≤ s3 ∧ s3 < ((x1.getD s2.toNat default).length : Int) then
        if (!((((x0.getD s2.toNat default).getD s3.toNat default).1 == ((x1.getD s2.toNat default).getD s3.toNat default).1) && (((x0.getD s2.toNat default).getD s3.toNat default).2 == ((x1.getD s2.toNat default).getD s3.toNat default).2))) = true then
         .out (some (.out (some false)))
         else .next (IntKind.i64.wrap (s3 + 1))
        else .out none
       else .out none
      else .out none
     else .out none
    else .out (some (.next (IntKind.i64.wrap (s2 + 1))))
   else .out none
def b11_2 (x0 : List ((List (Int × Int)))) (x1 : List ((List (Int × Int)))) : (Int) → Ctl (Int) (Bool) := fun s2 =>
  if (decide (s2 < (x0.length : Int))) = true then
   if 0 ≤ s2 ∧ s2 < (x0.length : Int) then
    if 0 ≤ s2 ∧ s2 < (x1.length : Int) then
     if (((x0.getD s2.toNat default).length : Int) != ((x1.getD s2.toNat default).length : Int)) = true then
      .out (some false)
      else (iterC (b11_3 x0 x1 s2) 1000000000 0).getD (.out none)
     else .out none
    else .out none
   else .out (some true)
def b11_1 (x2 : List (Int × Int)) (x0 : List ((List (Int × Int)))) (x3 : List (Int × Int)) (x1 : List ((List (Int × Int)))) : (Int) → Ctl (Int) (Bool) := fun s1 =>
  if (decide (s1 < (x2.length : Int))) = true then
   if 0 ≤ s1 ∧ s1 < (x2.length : Int) then
    if 0 ≤ s1 ∧ s1 < (x3.length : Int) then
     if (!(((x2.getD s1.toNat default).1 == (x3.getD s1.toNat default).1) && ((x2.getD s1.toNat default).2 == (x3.getD s1.toNat default).2))) = true then
      .out (some false)
      else .next (IntKind.i64.wrap (s1 + 1))
     else .out none
    else .out none
   else .out (iterC (b11_2 x0 x1) 1000000000 0)
def r11 (x4 : Int) (x5 : Int) (x2 : List (Int × Int)) (x0 : List ((List (Int × Int)))) (x6 : Int) (x7 : Int) (x3 : List (Int × Int)) (x1 : List ((List (Int × Int)))) : Option (Bool) :=
  if ((((x4 != x6) || (x5 != x7)) || ((x2.length : Int) != (x3.length : Int))) || ((x0.length : Int) != (x1.length : Int))) = true then
   some false
   else iterC (b11_1 x2 x0 x3 x1) 1000000000 0
def T11 : TSpec qA48 := mkT qE48 qd48 (fun ⟨x4, x5, x2, x0, x6, x7, x3, x1⟩ => r11 x4 x5 x2 x0 x6 x7 x3 x1) qu1 false
theorem TP11 (c0 c1 c2 c3 c4 c5 c6 c7 : D) : T11.sp.pre [.agg [c0, c1, c2, c3], .agg [c4, c5, c6, c7]] = (eqvArgs (qt48 c0 c1 c2 c3 c4 c5 c6 c7) (qp48 qw48 c0 c1 c2 c3 c4 c5 c6 c7) ∧ (qp48 r11 c0 c1 c2 c3 c4 c5 c6 c7).isSome = true) := (rfl)
theorem TR11 (c0 c1 c2 c3 c4 c5 c6 c7 : D) : T11.sp.res [.agg [c0, c1, c2, c3], .agg [c4, c5, c6, c7]] = qu1 ((qp48 r11 c0 c1 c2 c3 c4 c5 c6 c7).getD default) := (rfl)
theorem TA11 : T11.sp.alias = false := (rfl)
def tb11 : Fns := lk []
theorem tb11_ok : FnsOk Tryz.prog tb11 := FnsOk.nil
theorem lt11_0 : (IntKind.i64.wrap (0 + 1)) = 1 := by first | rfl | decide | simp
attribute [go_sem] TP11 TR11 TA11
section
attribute [local go_sem] T11 Tryz.results11 lt11_0
theorem v11 : Valid Tryz.prog 11 T11.sp := by
 refine valid_t (fn := Tryz.f11) (n := 103) ty_ok tb11_ok Tryz.func11 rfl Tryz.ntmps11 ?_
 rintro ⟨x4, x5, x2, x0, x6, x7, x3, x1⟩ hx
 obtain ⟨r, hr⟩ := oE (show (r11 x4 x5 x2 x0 x6 x7 x3 x1).isSome = true from hx)
 have hres : T11.res (x4, x5, x2, x0, x6, x7, x3, x1) = qu1 r := by simp only [T11, mkT, hr, oG]
 refine ⟨nL rfl, fun stop S => ?_⟩
 rw [hres] at S
 unfold r11 at hr
 refine S.gx [2, 3] ?_
 repeat (first | refine gA ?_ | refine gB ?_)
 refine ⟨?_, ?_⟩ <;> intro hc
 ·have hr := ifP hr hc
  repeat refine gA ?_
  refine S.prune [] ?_
  refine S.gx [3] ?_
  repeat refine gA ?_
  cases hr
  exact lf
 ·have hr := ifN hr hc
  repeat refine gA ?_
  refine S.prune [2, 3] ?_
  refine S.gx [2] ?_
  repeat refine gA ?_
  refine S.sees [2, 3, 5] [(2, 2), (3, 3)] [] ?_ (Stop.iter S (fun s1 => ⟨[(2, .c (.ref 2 0)), (3, .c (.ref 3 0)), (5, .c (.d (.int .i64 s1)))], [(2, [.d (.int .i64 x4), .d (.int .i64 x5), .d (encF 2 d_II x2), .d (encF 1 d_LIIE x0)]), (3, [.d (.int .i64 x6), .d (.int .i64 x7), .d (encF 2 d_II x3), .d (encF 1 d_LIIE x1)])], []⟩) (b11_1 x2 x0 x3 x1) (fun q => q = r) hr rfl ?_)
  ·exact lf
  ·intro s1 hr
   unfold b11_1 at hr
   refine S.gx [2, 3] ?_
   repeat refine gA ?_
   refine ⟨?_, ?_⟩ <;> intro hc
   ·have hr := ifP1 hr hc
    obtain ⟨hg1, hr⟩ := of_guard1 hr
    obtain ⟨hg2, hr⟩ := of_guard1 hr
    repeat refine gA ?_
    refine ⟨?_, ?_⟩ <;> intro hc
    ·have hr := ifP1 hr hc
     repeat refine gA ?_
     have hr := of_out0 hr
     cases hr
     exact lf
    ·have hr := ifN1 hr hc
     repeat refine gA ?_
     refine S.sees [2, 3, 5] [(2, 2), (3, 3)] [] ?_ hr
     exact lf
   ·have hr := ifN1 hr hc
    repeat refine gA ?_
    have hr := of_out0 hr
    repeat refine gA ?_
    refine S.sees [2, 3, 6] [(2, 2), (3, 3)] [] ?_ (Stop.iter S (fun s2 => ⟨[(2, .c (.ref 2 0)), (3, .c (.ref 3 0)), (6, .c (.d (.int .i64 s2)))], [(2, [.d (.int .i64 x4), .d (.int .i64 x5), .d (encF 2 d_II x2), .d (encF 1 d_LIIE x0)]), (3, [.d (.int .i64 x6), .d (.int .i64 x7), .d (encF 2 d_II x3), .d (encF 1 d_LIIE x1)])], []⟩) (b11_2 x0 x1) (fun q => q = r) hr rfl ?_)
    ·exact lf
    ·intro s2 hr
     unfold b11_2 at hr
     refine S.gx [2, 3] ?_
     repeat refine gA ?_
     refine ⟨?_, ?_⟩ <;> intro hc
     ·have hr := ifP1 hr hc
      obtain ⟨hg8, hr⟩ := of_guard1 hr
      obtain ⟨hg9, hr⟩ := of_guard1 hr
      repeat refine gA ?_
      refine ⟨?_, ?_⟩ <;> intro hc
      ·have hr := ifP1 hr hc
       repeat refine gA ?_
       have hr := of_out0 hr
       cases hr
       exact lf
      ·have hr := ifN1 hr hc
       repeat refine gA ?_
       obtain ⟨q3, hq, hr⟩ := of_iter1 hr
       refine S.sees [2, 3, 6, 7] [(2, 2), (3, 3)] [] ?_ (Stop.iter S (fun s3 => ⟨[(2, .c (.ref 2 0)), (3, .c (.ref 3 0)), (6, .c (.d (.int .i64 s2))), (7, .c (.d (.int .i64 s3)))], [(2, [.d (.int .i64 x4), .d (.int .i64 x5), .d (encF 2 d_II x2), .d (encF 1 d_LIIE x0)]), (3, [.d (.int .i64 x6), .d (.int .i64 x7), .d (encF 2 d_II x3), .d (encF 1 d_LIIE x1)])], []⟩) (b11_3 x0 x1 s2) _ hq hr ?_)
       ·exact lf
       ·intro s3 hr
        unfold b11_3 at hr
        refine S.gx [2, 3] ?_
        obtain ⟨hg7, hr⟩ := of_guard1 hr
        repeat refine gA ?_
        refine ⟨?_, ?_⟩ <;> intro hc
        ·have hr := ifP1 hr hc
         obtain ⟨hg3, hr⟩ := of_guard1 hr
         obtain ⟨hg4, hr⟩ := of_guard1 hr
         obtain ⟨hg5, hr⟩ := of_guard1 hr
         obtain ⟨hg6, hr⟩ := of_guard1 hr
         repeat refine gA ?_
         refine ⟨?_, ?_⟩ <;> intro hc
         ·have hr := ifP1 hr hc
          repeat refine gA ?_
          replace hr := goodC_out hr
          have hr := of_out0 hr
          cases hr
          exact lf
         ·have hr := ifN1 hr hc
          repeat refine gA ?_
          refine S.sees [2, 3, 6, 7] [(2, 2), (3, 3)] [] ?_ hr
          exact lf
        ·have hr := ifN1 hr hc
         repeat refine gA ?_
         replace hr := goodC_out hr
         repeat refine gA ?_
         refine S.sees [2, 3, 6] [(2, 2), (3, 3)] [] ?_ hr
         exact lf
     ·have hr := ifN1 hr hc
      repeat refine gA ?_
      have hr := of_out0 hr
      repeat refine gA ?_
      cases hr
      exact lf
theorem f11 : FnFact Tryz.prog 11 T11.sp := ⟨⟨Tryz.f11, Tryz.func11, by decide, rfl⟩, v11⟩
end
end Go.Proofs.YtefijdjbhjdhdaaGreatDoor

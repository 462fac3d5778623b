/- Contracts of functions, written by wip/dec. -/
import Derived.Test.YtdlogfepbkojkaaGreatDoorF00
import Derived.Test.YtdlogfepbkojkaaGreatDoorF05
set_option linter.unusedVariables false
set_option linter.unusedSimpArgs false
set_option maxHeartbeats 4000000
set_option maxRecDepth 20000
namespace Go.Proofs.YtdlogfepbkojkaaGreatDoor
open Go.Abs
abbrev qA35 := (List ((List (Int))))
def qw35 (a0 : List ((List (Int)))) : List Arg := [.c (encF 1 d_LIE a0)]
def qE35 : qA35 → List Arg := qw35
def qd35 (a : List Arg) : qA35 := decF g_LIE (aCell a 0 0)
def qp35 {β : Type} (f : (List ((List (Int)))) → β) (c0 : D) : β := f (decF g_LIE c0)
def qt35 (c0 : D) : List Arg := [.c c0]
attribute [go_sem] qw35 qp35 qt35 qE35
abbrev qA36 := (List (Int × Int × Int × Int)) × (List (Int × Int × Int × Int × Int)) × (List (Int × Int × Int)) × (List (Int × Int)) × Int × Int × Int × Int × (List (Int × Int × Int × Int)) × (List (Int × Int × Int × Int × Int)) × (List (Int × Int × Int)) × (List (Int × Int)) × Int × Int × Int × Int
def qw36 (a0 : List (Int × Int × Int × Int)) (a1 : List (Int × Int × Int × Int × Int)) (a2 : List (Int × Int × Int)) (a3 : List (Int × Int)) (a4 : Int) (a5 : Int) (a6 : Int) (a7 : Int) (a8 : List (Int × Int × Int × Int)) (a9 : List (Int × Int × Int × Int × Int)) (a10 : List (Int × Int × Int)) (a11 : List (Int × Int)) (a12 : Int) (a13 : Int) (a14 : Int) (a15 : Int) : List Arg := [.agg [encF 4 d_IIII a0, encF 5 d_IIIII a1, encF 3 d_III a2, encF 2 d_II a3, .int .i64 a4, .int .i64 a5, .int .i64 a6, .int .i64 a7], .agg [encF 4 d_IIII a8, encF 5 d_IIIII a9, encF 3 d_III a10, encF 2 d_II a11, .int .i64 a12, .int .i64 a13, .int .i64 a14, .int .i64 a15]]
def qE36 : qA36 → List Arg := fun ⟨a0, a1, a2, a3, a4, a5, a6, a7, a8, a9, a10, a11, a12, a13, a14, a15⟩ => qw36 a0 a1 a2 a3 a4 a5 a6 a7 a8 a9 a10 a11 a12 a13 a14 a15
def qd36 (a : List Arg) : qA36 := (decF g_IIII (aCell a 0 0), decF g_IIIII (aCell a 0 1), decF g_III (aCell a 0 2), decF g_II (aCell a 0 3), dInt (aCell a 0 4), dInt (aCell a 0 5), dInt (aCell a 0 6), dInt (aCell a 0 7), decF g_IIII (aCell a 1 0), decF g_IIIII (aCell a 1 1), decF g_III (aCell a 1 2), decF g_II (aCell a 1 3), dInt (aCell a 1 4), dInt (aCell a 1 5), dInt (aCell a 1 6), dInt (aCell a 1 7))
def qp36 {β : Type} (f : (List (Int × Int × Int × Int)) → (List (Int × Int × Int × Int × Int)) → (List (Int × Int × Int)) → (List (Int × Int)) → Int → Int → Int → Int → (List (Int × Int × Int × Int)) → (List (Int × Int × Int × Int × Int)) → (List (Int × Int × Int)) → (List (Int × Int)) → Int → Int → Int → Int → β) (c0 c1 c2 c3 c4 c5 c6 c7 c8 c9 c10 c11 c12 c13 c14 c15 : D) : β := f (decF g_IIII c0) (decF g_IIIII c1) (decF g_III c2) (decF g_II c3) (dInt c4) (dInt c5) (dInt c6) (dInt c7) (decF g_IIII c8) (decF g_IIIII c9) (decF g_III c10) (decF g_II c11) (dInt c12) (dInt c13) (dInt c14) (dInt c15)
def qt36 (c0 c1 c2 c3 c4 c5 c6 c7 c8 c9 c10 c11 c12 c13 c14 c15 : D) : List Arg := [.agg [c0, c1, c2, c3, c4, c5, c6, c7], .agg [c8, c9, c10, c11, c12, c13, c14, c15]]
attribute [go_sem] qw36 qp36 qt36 qE36
/- martensite/martensiteref04.StateErr -/
def b17_1 (x0 : Int) (x1 : Int) (x2 : Int) (x3 : Int) (x4 : Int) (x6 : Int) (x5 : Int) : (Int) → Ctl (Int) (Int) := fun s1 =>
  if (decide (s1 < (([x0, x1, x2, x3, x4]).length : Int))) = true then
   if 0 ≤ s1 ∧ s1 < (([x0, x1, x2, x3, x4]).length : Int) then
    bindC (r43 (([x0, x1, x2, x3, x4]).getD s1.toNat default) 0 1000000) fun v1 =>
     if (!v1) = true then
      .out (some 2)
      else .next (IntKind.i64.wrap (s1 + 1))
    else .out none
   else .out ((r43 x6 0 100000).bind fun v3 =>
    if (!(!v3)) = true → (r43 x5 0 1000000).isSome = true then
     if ((!v3) || (!((r43 x5 0 1000000).getD default))) = true then
      some 2
      else if ((IntKind.i64.wrap ((IntKind.i64.wrap ((IntKind.i64.wrap (x0 + x1)) + x2)) + x3)) != 1000000) = true then
       some 3
       else some 0
     else none)
def r17 (x0 : Int) (x1 : Int) (x2 : Int) (x3 : Int) (x4 : Int) (x6 : Int) (x5 : Int) : Option (Int) :=
  iterC (b17_1 x0 x1 x2 x3 x4 x6 x5) 1000000000 0
def T17 : TSpec qA10 := mkT qE10 qd10 (fun ⟨x0, x1, x2, x3, x4, x6, x5⟩ => r17 x0 x1 x2 x3 x4 x6 x5) qu4 false
theorem TP17 (c0 c1 c2 c3 c4 c5 c6 : D) : T17.sp.pre [.agg [c0, c1, c2, c3, c4, c5, c6]] = (eqvArgs (qt10 c0 c1 c2 c3 c4 c5 c6) (qp10 qw10 c0 c1 c2 c3 c4 c5 c6) ∧ (qp10 r17 c0 c1 c2 c3 c4 c5 c6).isSome = true) := (rfl)
theorem TR17 (c0 c1 c2 c3 c4 c5 c6 : D) : T17.sp.res [.agg [c0, c1, c2, c3, c4, c5, c6]] = qu4 ((qp10 r17 c0 c1 c2 c3 c4 c5 c6).getD default) := (rfl)
theorem TA17 : T17.sp.alias = false := (rfl)
def tb17 : Fns := lk [(43, T43.sp)]
theorem tb17_ok : FnsOk Tryz.prog tb17 := .cons f43 (FnsOk.nil)
theorem tb17_43 : tb17 43 = some T43.sp := rfl
theorem lt17_0 : (IntKind.i64.wrap (0 + 1)) = 1 := by first | rfl | decide | simp
attribute [go_sem] TP17 TR17 TA17
section
attribute [local go_sem] T17 tb17_43 Tryz.results17 lt17_0
theorem v17 : Valid Tryz.prog 17 T17.sp := by
 refine valid_t (fn := Tryz.f17) (n := 50) ty_ok tb17_ok Tryz.func17 rfl Tryz.ntmps17 ?_
 rintro ⟨x0, x1, x2, x3, x4, x6, x5⟩ hx
 obtain ⟨r, hr⟩ := oE (show (r17 x0 x1 x2 x3 x4 x6 x5).isSome = true from hx)
 have hres : T17.res (x0, x1, x2, x3, x4, x6, x5) = qu4 r := by simp only [T17, mkT, hr, oG]
 refine ⟨nL rfl, fun stop S => ?_⟩
 rw [hres] at S
 unfold r17 at hr
 refine S.gx [] ?_
 repeat refine gA ?_
 refine S.sees [1, 3, 4] [(1, 1)] [(15, 15)] ?_ (Stop.iter S (fun s1 => ⟨[(1, .c (.ref 1 0)), (3, .c (.own 15)), (4, .c (.d (.int .i64 s1)))], [(1, [.d (.int .i64 x0), .d (.int .i64 x1), .d (.int .i64 x2), .d (.int .i64 x3), .d (.int .i64 x4), .d (.int .i64 x6), .d (.int .i64 x5)])], [(15, .owned (encF 1 d_I ([x0, x1, x2, x3, x4])))]⟩) (b17_1 x0 x1 x2 x3 x4 x6 x5) (fun q => q = r) hr rfl ?_)
 ·exact lf
 ·intro s1 hr
  unfold b17_1 at hr
  refine S.gx [] ?_
  repeat refine gA ?_
  refine ⟨?_, ?_⟩ <;> intro hc
  ·have hr := ifP1 hr hc
   obtain ⟨hg2, hr⟩ := of_guard1 hr
   obtain ⟨v1, hv1, hr⟩ := of_bind1 hr
   try simp only [hv1, oG, oI, true_and, and_assoc]
   repeat refine gA ?_
   refine ⟨?_, ?_⟩ <;> intro hc
   ·have hr := ifP1 hr hc
    repeat refine gA ?_
    have hr := of_out0 hr
    cases hr
    exact lf
   ·have hr := ifN1 hr hc
    repeat refine gA ?_
    refine S.sees [1, 3, 4] [(1, 1)] [(15, 15)] ?_ hr
    exact lf
  ·have hr := ifN1 hr hc
   repeat refine gA ?_
   have hr := of_out0 hr
   obtain ⟨v3, hv3, hr⟩ := of_bind0 hr
   obtain ⟨hg4, hr⟩ := of_guard0 hr
   try simp only [hv3, oG, oI, true_and, and_assoc]
   repeat (first | refine gG hg4 ?_ | refine gA ?_ | refine gB ?_)
   refine ⟨?_, ?_⟩ <;> intro hc
   ·have hr := ifP hr hc
    repeat refine gA ?_
    cases hr
    exact lf
   ·have hr := ifN hr hc
    repeat refine gA ?_
    refine ⟨?_, ?_⟩ <;> intro hc
    ·have hr := ifP hr hc
     repeat refine gA ?_
     cases hr
     exact lf
    ·have hr := ifN hr hc
     repeat refine gA ?_
     cases hr
     exact lf
theorem f17 : FnFact Tryz.prog 17 T17.sp := ⟨⟨Tryz.f17, Tryz.func17, by decide, rfl⟩, v17⟩
end

/- martensite/martensiteref04.ParseState -/
def r12 (a0 : ByteArray) : Option (Int × Int × Int × Int × Int × Int × Int × Int) :=
  (r39 a0 7).bind fun v1 =>
   if (!v1.2) = true then
    some (0, 0, 0, 0, 0, 0, 0, 7)
    else if 0 ≤ 0 ∧ 0 < (v1.1.length : Int) then
     if 0 ≤ 1 ∧ 1 < (v1.1.length : Int) then
      if 0 ≤ 2 ∧ 2 < (v1.1.length : Int) then
       if 0 ≤ 3 ∧ 3 < (v1.1.length : Int) then
        if 0 ≤ 4 ∧ 4 < (v1.1.length : Int) then
         if 0 ≤ 5 ∧ 5 < (v1.1.length : Int) then
          if 0 ≤ 6 ∧ 6 < (v1.1.length : Int) then
           (r17 (v1.1.getD 0 default) (v1.1.getD 1 default) (v1.1.getD 2 default) (v1.1.getD 3 default) (v1.1.getD 4 default) (v1.1.getD 5 default) (v1.1.getD 6 default)).bind fun v2 =>
            if (v2 != 0) = true then
             some (0, 0, 0, 0, 0, 0, 0, v2)
             else some ((v1.1.getD 0 default), (v1.1.getD 1 default), (v1.1.getD 2 default), (v1.1.getD 3 default), (v1.1.getD 4 default), (v1.1.getD 5 default), (v1.1.getD 6 default), 0)
           else none
          else none
         else none
        else none
       else none
      else none
     else none
def T12 : TSpec qA31 := mkT qE31 qd31 r12 qu10 false
theorem TP12 (c0 : D) : T12.sp.pre [.c c0] = (eqvArgs (qt31 c0) (qp31 qw31 c0) ∧ (qp31 r12 c0).isSome = true) := (rfl)
theorem TR12 (c0 : D) : T12.sp.res [.c c0] = qu10 ((qp31 r12 c0).getD default) := (rfl)
theorem TA12 : T12.sp.alias = false := (rfl)
def tb12 : Fns := lk [(17, T17.sp), (39, T39.sp)]
theorem tb12_ok : FnsOk Tryz.prog tb12 := .cons f17 (.cons f39 (FnsOk.nil))
theorem tb12_17 : tb12 17 = some T17.sp := rfl
theorem tb12_39 : tb12 39 = some T39.sp := rfl
attribute [go_sem] TP12 TR12 TA12
section
attribute [local go_sem] T12 tb12_17 tb12_39 Tryz.results12
theorem v12 : Valid Tryz.prog 12 T12.sp := by
 refine valid_t (fn := Tryz.f12) (n := 45) ty_ok tb12_ok Tryz.func12 rfl Tryz.ntmps12 ?_
 rintro a0 hx
 obtain ⟨r, hr⟩ := oE (show (r12 a0).isSome = true from hx)
 have hres : T12.res a0 = qu10 r := by simp only [T12, mkT, hr, oG]
 refine ⟨nL rfl, fun stop S => ?_⟩
 rw [hres] at S
 unfold r12 at hr
 refine S.gx [5] ?_
 obtain ⟨v1, hv1, hr⟩ := of_bind0 hr
 try simp only [hv1, oG, oI, true_and, and_assoc]
 repeat refine gA ?_
 refine ⟨?_, ?_⟩ <;> intro hc
 ·have hr := ifP hr hc
  repeat refine gA ?_
  cases hr
  exact lf
 ·have hr := ifN hr hc
  obtain ⟨hg3, hr⟩ := of_guard0 hr
  obtain ⟨hg4, hr⟩ := of_guard0 hr
  obtain ⟨hg5, hr⟩ := of_guard0 hr
  obtain ⟨hg6, hr⟩ := of_guard0 hr
  obtain ⟨hg7, hr⟩ := of_guard0 hr
  obtain ⟨hg8, hr⟩ := of_guard0 hr
  obtain ⟨hg9, hr⟩ := of_guard0 hr
  repeat refine gA ?_
  refine S.prune [2, 6] ?_
  refine S.gx [] ?_
  obtain ⟨v2, hv2, hr⟩ := of_bind0 hr
  try simp only [hv2, oG, oI, true_and, and_assoc]
  repeat refine gA ?_
  refine ⟨?_, ?_⟩ <;> intro hc
  ·have hr := ifP hr hc
   repeat refine gA ?_
   cases hr
   exact lf
  ·have hr := ifN hr hc
   repeat refine gA ?_
   cases hr
   exact lf
theorem f12 : FnFact Tryz.prog 12 T12.sp := ⟨⟨Tryz.f12, Tryz.func12, by decide, rfl⟩, v12⟩
end

/- martensite/martensitebase.Size -/
def r93 (a0 : Int) : Option (Int) :=
  some (if a0 < IntKind.i64.wrap (0 - a0) then IntKind.i64.wrap (0 - a0) else a0)
def T93 : TSpec qA3 := mkT qE3 qd3 r93 qu4 false
theorem TP93 (c0 : D) : T93.sp.pre [.c c0] = (eqvArgs (qt3 c0) (qp3 qw3 c0) ∧ (qp3 r93 c0).isSome = true) := (rfl)
theorem TR93 (c0 : D) : T93.sp.res [.c c0] = qu4 ((qp3 r93 c0).getD default) := (rfl)
theorem TA93 : T93.sp.alias = false := (rfl)
def tb93 : Fns := lk []
theorem tb93_ok : FnsOk Tryz.prog tb93 := FnsOk.nil
attribute [go_sem] TP93 TR93 TA93
section
attribute [local go_sem] T93 Tryz.results93
theorem v93 : Valid Tryz.prog 93 T93.sp := by
 refine valid_t (fn := Tryz.f93) (n := 7) ty_ok tb93_ok Tryz.func93 rfl Tryz.ntmps93 ?_
 rintro a0 hx
 obtain ⟨r, hr⟩ := oE (show (r93 a0).isSome = true from hx)
 have hres : T93.res a0 = qu4 r := by simp only [T93, mkT, hr, oG]
 refine ⟨nL rfl, fun stop S => ?_⟩
 rw [hres] at S
 unfold r93 at hr
 refine S.gx [] ?_
 repeat refine gA ?_
 cases hr
 exact lf
theorem f93 : FnFact Tryz.prog 93 T93.sp := ⟨⟨Tryz.f93, Tryz.func93, by decide, rfl⟩, v93⟩
end

/- martensite/martensitebase.Decimal -/
def b70_1 : (Int × ByteArray) → Ctl (Int × ByteArray) (ByteArray) := fun s1 =>
  if (s1.1 != 0) = true then
   bindC (r93 (s1.1.tmod 10)) fun v1 =>
    if (#[UInt8.ofNat (IntKind.u8.wrap (IntKind.i64.wrap (48 + v1))).toNat] : Array UInt8).size + s1.2.size ≤ 9223372036854775807 then
     .next (IntKind.i64.wrap (s1.1.tdiv 10), (⟨#[UInt8.ofNat (IntKind.u8.wrap (IntKind.i64.wrap (48 + v1))).toNat]⟩ : ByteArray) ++ s1.2)
     else .out none
   else .out (if (#[45] : Array UInt8).size + s1.2.size ≤ 9223372036854775807 then
    some ((⟨#[45]⟩ : ByteArray) ++ s1.2)
    else none)
def b70_2 : (Int × ByteArray) → Ctl (Int × ByteArray) (ByteArray) := fun s2 =>
  if (s2.1 != 0) = true then
   bindC (r93 (s2.1.tmod 10)) fun v4 =>
    if (#[UInt8.ofNat (IntKind.u8.wrap (IntKind.i64.wrap (48 + v4))).toNat] : Array UInt8).size + s2.2.size ≤ 9223372036854775807 then
     .next (IntKind.i64.wrap (s2.1.tdiv 10), (⟨#[UInt8.ofNat (IntKind.u8.wrap (IntKind.i64.wrap (48 + v4))).toNat]⟩ : ByteArray) ++ s2.2)
     else .out none
   else .out (if (#[] : Array UInt8).size + s2.2.size ≤ 9223372036854775807 then
    some ((⟨#[]⟩ : ByteArray) ++ s2.2)
    else none)
def r70 (a0 : Int) : Option (ByteArray) :=
  if (a0 == 0) = true then
   some (⟨#[48]⟩ : ByteArray)
   else if (decide (a0 < 0)) = true then
    iterC (b70_1) 1000000000 (a0, (⟨#[]⟩ : ByteArray))
    else iterC (b70_2) 1000000000 (a0, (⟨#[]⟩ : ByteArray))
def T70 : TSpec qA3 := mkT qE3 qd3 r70 qu15 false
theorem TP70 (c0 : D) : T70.sp.pre [.c c0] = (eqvArgs (qt3 c0) (qp3 qw3 c0) ∧ (qp3 r70 c0).isSome = true) := (rfl)
theorem TR70 (c0 : D) : T70.sp.res [.c c0] = qu15 ((qp3 r70 c0).getD default) := (rfl)
theorem TA70 : T70.sp.alias = false := (rfl)
def tb70 : Fns := lk [(93, T93.sp)]
theorem tb70_ok : FnsOk Tryz.prog tb70 := .cons f93 (FnsOk.nil)
theorem tb70_93 : tb70 93 = some T93.sp := rfl
attribute [go_sem] TP70 TR70 TA70
section
attribute [local go_sem] T70 tb70_93 Tryz.results70
theorem v70 : Valid Tryz.prog 70 T70.sp := by
 refine valid_t (fn := Tryz.f70) (n := 27) ty_ok tb70_ok Tryz.func70 rfl Tryz.ntmps70 ?_
 rintro a0 hx
 obtain ⟨r, hr⟩ := oE (show (r70 a0).isSome = true from hx)
 have hres : T70.res a0 = qu15 r := by simp only [T70, mkT, hr, oG]
 refine ⟨nL rfl, fun stop S => ?_⟩
 rw [hres] at S
 unfold r70 at hr
 refine S.gx [] ?_
 repeat refine gA ?_
 refine ⟨?_, ?_⟩ <;> intro hc
 ·have hr := ifP hr hc
  repeat refine gA ?_
  cases hr
  exact lf
 ·have hr := ifN hr hc
  repeat refine gA ?_
  refine ⟨?_, ?_⟩ <;> intro hc
  ·have hr := ifP hr hc
   repeat refine gA ?_
   refine S.sees [0, 3, 4] [] [] ?_ (Stop.iter S (fun s1 => ⟨[(0, .c (.d (.int .i64 s1.1))), (3, .c (.d (.str s1.2))), (4, .c (.d (.str (⟨#[45]⟩ : ByteArray))))], [], []⟩) (b70_1) (fun q => q = r) hr rfl ?_)
   ·exact lf
   ·intro s1 hr
    unfold b70_1 at hr
    refine S.gx [] ?_
    repeat refine gA ?_
    refine ⟨?_, ?_⟩ <;> intro hc
    ·have hr := ifP1 hr hc
     obtain ⟨v1, hv1, hr⟩ := of_bind1 hr
     obtain ⟨hg2, hr⟩ := of_guard1 hr
     try simp only [hv1, oG, oI, true_and, and_assoc]
     repeat refine gA ?_
     refine S.sees [0, 3, 4] [] [] ?_ hr
     exact lf
    ·have hr := ifN1 hr hc
     repeat refine gA ?_
     have hr := of_out0 hr
     obtain ⟨hg3, hr⟩ := of_guard0 hr
     repeat refine gA ?_
     cases hr
     exact lf
  ·have hr := ifN hr hc
   repeat refine gA ?_
   refine S.sees [0, 3, 4] [] [] ?_ (Stop.iter S (fun s2 => ⟨[(0, .c (.d (.int .i64 s2.1))), (3, .c (.d (.str s2.2))), (4, .c (.d (.str (⟨#[]⟩ : ByteArray))))], [], []⟩) (b70_2) (fun q => q = r) hr rfl ?_)
   ·exact lf
   ·intro s2 hr
    unfold b70_2 at hr
    refine S.gx [] ?_
    repeat refine gA ?_
    refine ⟨?_, ?_⟩ <;> intro hc
    ·have hr := ifP1 hr hc
     obtain ⟨v4, hv4, hr⟩ := of_bind1 hr
     obtain ⟨hg5, hr⟩ := of_guard1 hr
     try simp only [hv4, oG, oI, true_and, and_assoc]
     repeat refine gA ?_
     refine S.sees [0, 3, 4] [] [] ?_ hr
     exact lf
    ·have hr := ifN1 hr hc
     repeat refine gA ?_
     have hr := of_out0 hr
     obtain ⟨hg6, hr⟩ := of_guard0 hr
     repeat refine gA ?_
     cases hr
     exact lf
theorem f70 : FnFact Tryz.prog 70 T70.sp := ⟨⟨Tryz.f70, Tryz.func70, by decide, rfl⟩, v70⟩
end

/- martensite/martensiteref04.numbers -/
def b41_1 (a0 : List (Int)) : (ByteArray × Int) → Ctl (ByteArray × Int) (ByteArray) := fun s1 =>
  if (decide (s1.2 < (a0.length : Int))) = true then
   if (decide (s1.2 > 0)) = true then
    if s1.1.size + (#[32] : Array UInt8).size ≤ 9223372036854775807 then
     if 0 ≤ s1.2 ∧ s1.2 < (a0.length : Int) then
      bindC (r70 (a0.getD s1.2.toNat default)) fun v1 =>
       if s1.1.size + (#[32] : Array UInt8).size + v1.size ≤ 9223372036854775807 then
        .next ((s1.1 ++ (⟨#[32]⟩ : ByteArray)) ++ v1, IntKind.i64.wrap (s1.2 + 1))
        else .out none
      else .out none
     else .out none
    else if 0 ≤ s1.2 ∧ s1.2 < (a0.length : Int) then
     bindC (r70 (a0.getD s1.2.toNat default)) fun v5 =>
      if s1.1.size + v5.size ≤ 9223372036854775807 then
       .next (s1.1 ++ v5, IntKind.i64.wrap (s1.2 + 1))
       else .out none
     else .out none
   else .out (some s1.1)
def r41 (a0 : List (Int)) : Option (ByteArray) :=
  iterC (b41_1 a0) 1000000000 ((⟨#[]⟩ : ByteArray), 0)
def T41 : TSpec qA6 := mkT qE6 qd6 r41 qu15 false
theorem TP41 (c0 : D) : T41.sp.pre [.c c0] = (eqvArgs (qt6 c0) (qp6 qw6 c0) ∧ (qp6 r41 c0).isSome = true) := (rfl)
theorem TR41 (c0 : D) : T41.sp.res [.c c0] = qu15 ((qp6 r41 c0).getD default) := (rfl)
theorem TA41 : T41.sp.alias = false := (rfl)
def tb41 : Fns := lk [(70, T70.sp)]
theorem tb41_ok : FnsOk Tryz.prog tb41 := .cons f70 (FnsOk.nil)
theorem tb41_70 : tb41 70 = some T70.sp := rfl
theorem lt41_0 : (decide ((0 : Int) > 0)) = false := by first | rfl | decide | simp
theorem lt41_1 : (IntKind.i64.wrap (0 + 1)) = 1 := by first | rfl | decide | simp
attribute [go_sem] TP41 TR41 TA41
section
attribute [local go_sem] T41 tb41_70 Tryz.results41 lt41_0 lt41_1
theorem v41 : Valid Tryz.prog 41 T41.sp := by
 refine valid_t (fn := Tryz.f41) (n := 23) ty_ok tb41_ok Tryz.func41 rfl Tryz.ntmps41 ?_
 rintro a0 hx
 obtain ⟨r, hr⟩ := oE (show (r41 a0).isSome = true from hx)
 have hres : T41.res a0 = qu15 r := by simp only [T41, mkT, hr, oG]
 refine ⟨nL rfl, fun stop S => ?_⟩
 rw [hres] at S
 unfold r41 at hr
 refine S.gx [] ?_
 repeat refine gA ?_
 refine S.sees [0, 3, 4] [] [] ?_ (Stop.iter S (fun s1 => ⟨[(0, .c (.d (encF 1 d_I a0))), (3, .c (.d (.str s1.1))), (4, .c (.d (.int .i64 s1.2)))], [], []⟩) (b41_1 a0) (fun q => q = r) hr rfl ?_)
 ·exact lf
 ·intro s1 hr
  unfold b41_1 at hr
  refine S.gx [] ?_
  repeat refine gA ?_
  refine ⟨?_, ?_⟩ <;> intro hc
  ·have hr := ifP1 hr hc
   repeat refine gA ?_
   refine ⟨?_, ?_⟩ <;> intro hc
   ·have hr := ifP1 hr hc
    obtain ⟨hg2, hr⟩ := of_guard1 hr
    obtain ⟨hg3, hr⟩ := of_guard1 hr
    obtain ⟨v1, hv1, hr⟩ := of_bind1 hr
    obtain ⟨hg4, hr⟩ := of_guard1 hr
    try simp only [hv1, oG, oI, true_and, and_assoc]
    repeat refine gA ?_
    refine S.sees [0, 3, 4] [] [] ?_ hr
    exact lf
   ·have hr := ifN1 hr hc
    obtain ⟨hg6, hr⟩ := of_guard1 hr
    obtain ⟨v5, hv5, hr⟩ := of_bind1 hr
    obtain ⟨hg7, hr⟩ := of_guard1 hr
    try simp only [hv5, oG, oI, true_and, and_assoc]
    repeat refine gA ?_
    refine S.sees [0, 3, 4] [] [] ?_ hr
    exact lf
  ·have hr := ifN1 hr hc
   repeat refine gA ?_
   have hr := of_out0 hr
   repeat refine gA ?_
   cases hr
   exact lf
theorem f41 : FnFact Tryz.prog 41 T41.sp := ⟨⟨Tryz.f41, Tryz.func41, by decide, rfl⟩, v41⟩
end

/- martensite/martensiteref04.knots -/
def b40_1 (a0 : List ((List (Int)))) : (ByteArray × Int) → Ctl (ByteArray × Int) (ByteArray) := fun s1 =>
  if (decide (s1.2 < (a0.length : Int))) = true then
   if (decide (s1.2 > 0)) = true then
    if s1.1.size + (#[59] : Array UInt8).size ≤ 9223372036854775807 then
     if 0 ≤ s1.2 ∧ s1.2 < (a0.length : Int) then
      bindC (r41 (a0.getD s1.2.toNat default)) fun v1 =>
       if s1.1.size + (#[59] : Array UInt8).size + v1.size ≤ 9223372036854775807 then
        .next ((s1.1 ++ (⟨#[59]⟩ : ByteArray)) ++ v1, IntKind.i64.wrap (s1.2 + 1))
        else .out none
      else .out none
     else .out none
    else if 0 ≤ s1.2 ∧ s1.2 < (a0.length : Int) then
     bindC (r41 (a0.getD s1.2.toNat default)) fun v5 =>
      if s1.1.size + v5.size ≤ 9223372036854775807 then
       .next (s1.1 ++ v5, IntKind.i64.wrap (s1.2 + 1))
       else .out none
     else .out none
   else .out (some s1.1)
def r40 (a0 : List ((List (Int)))) : Option (ByteArray) :=
  iterC (b40_1 a0) 1000000000 ((⟨#[]⟩ : ByteArray), 0)
def T40 : TSpec qA35 := mkT qE35 qd35 r40 qu15 false
theorem TP40 (c0 : D) : T40.sp.pre [.c c0] = (eqvArgs (qt35 c0) (qp35 qw35 c0) ∧ (qp35 r40 c0).isSome = true) := (rfl)
theorem TR40 (c0 : D) : T40.sp.res [.c c0] = qu15 ((qp35 r40 c0).getD default) := (rfl)
theorem TA40 : T40.sp.alias = false := (rfl)
def tb40 : Fns := lk [(41, T41.sp)]
theorem tb40_ok : FnsOk Tryz.prog tb40 := .cons f41 (FnsOk.nil)
theorem tb40_41 : tb40 41 = some T41.sp := rfl
theorem lt40_0 : (decide ((0 : Int) > 0)) = false := by first | rfl | decide | simp
theorem lt40_1 : (IntKind.i64.wrap (0 + 1)) = 1 := by first | rfl | decide | simp
attribute [go_sem] TP40 TR40 TA40
section
attribute [local go_sem] T40 tb40_41 Tryz.results40 lt40_0 lt40_1
theorem v40 : Valid Tryz.prog 40 T40.sp := by
 refine valid_t (fn := Tryz.f40) (n := 23) ty_ok tb40_ok Tryz.func40 rfl Tryz.ntmps40 ?_
 rintro a0 hx
 obtain ⟨r, hr⟩ := oE (show (r40 a0).isSome = true from hx)
 have hres : T40.res a0 = qu15 r := by simp only [T40, mkT, hr, oG]
 refine ⟨nL rfl, fun stop S => ?_⟩
 rw [hres] at S
 unfold r40 at hr
 refine S.gx [] ?_
 repeat refine gA ?_
 refine S.sees [0, 3, 4] [] [] ?_ (Stop.iter S (fun s1 => ⟨[(0, .c (.d (encF 1 d_LIE a0))), (3, .c (.d (.str s1.1))), (4, .c (.d (.int .i64 s1.2)))], [], []⟩) (b40_1 a0) (fun q => q = r) hr rfl ?_)
 ·exact lf
 ·intro s1 hr
  unfold b40_1 at hr
  refine S.gx [] ?_
  repeat refine gA ?_
  refine ⟨?_, ?_⟩ <;> intro hc
  ·have hr := ifP1 hr hc
   repeat refine gA ?_
   refine ⟨?_, ?_⟩ <;> intro hc
   ·have hr := ifP1 hr hc
    obtain ⟨hg2, hr⟩ := of_guard1 hr
    obtain ⟨hg3, hr⟩ := of_guard1 hr
    obtain ⟨v1, hv1, hr⟩ := of_bind1 hr
    obtain ⟨hg4, hr⟩ := of_guard1 hr
    try simp only [hv1, oG, oI, true_and, and_assoc]
    repeat refine gA ?_
    refine S.sees [0, 3, 4] [] [] ?_ hr
    exact lf
   ·have hr := ifN1 hr hc
    obtain ⟨hg6, hr⟩ := of_guard1 hr
    obtain ⟨v5, hv5, hr⟩ := of_bind1 hr
    obtain ⟨hg7, hr⟩ := of_guard1 hr
    try simp only [hv5, oG, oI, true_and, and_assoc]
    repeat refine gA ?_
    refine S.sees [0, 3, 4] [] [] ?_ hr
    exact lf
  ·have hr := ifN1 hr hc
   repeat refine gA ?_
   have hr := of_out0 hr
   repeat refine gA ?_
   cases hr
   exact lf
theorem f40 : FnFact Tryz.prog 40 T40.sp := ⟨⟨Tryz.f40, Tryz.func40, by decide, rfl⟩, v40⟩
end

/- martensite/martensiteref04.FormatRules -/
def b13_4 (x0 : List (Int × Int)) (x3 : Int) (x4 : Int) (x5 : Int) (x6 : Int) (s1 : (List ((List (Int)))) × Int) (s2 : (List ((List (Int)))) × Int) (s3 : (List ((List (Int)))) × Int) : ((List ((List (Int)))) × Int) → Ctl ((List ((List (Int)))) × Int) (ByteArray) := fun s4 =>
  if (decide (s4.2 < (x0.length : Int))) = true then
   if 0 ≤ s4.2 ∧ s4.2 < (x0.length : Int) then
    if 0 ≤ s4.2 ∧ s4.2 < (x0.length : Int) then
     if (s4.1.length + 1) * 24 ≤ 140737488355328 ∧ s4.1.length + 1 ≤ 9223372036854775807 then
      .next (s4.1 ++ [[(x0.getD s4.2.toNat default).1, (x0.getD s4.2.toNat default).2]], IntKind.i64.wrap (s4.2 + 1))
      else .out none
     else .out none
    else .out none
   else .out ((r40 s1.1).bind fun v19 =>
    if v19.size + (#[47] : Array UInt8).size ≤ 9223372036854775807 then
     (r40 s2.1).bind fun v20 =>
      if v19.size + (#[47] : Array UInt8).size + v20.size ≤ 9223372036854775807 then
       if v19.size + (#[47] : Array UInt8).size + v20.size + (#[47] : Array UInt8).size ≤ 9223372036854775807 then
        (r40 s3.1).bind fun v21 =>
         if v19.size + (#[47] : Array UInt8).size + v20.size + (#[47] : Array UInt8).size + v21.size ≤ 9223372036854775807 then
          if v19.size + (#[47] : Array UInt8).size + v20.size + (#[47] : Array UInt8).size + v21.size + (#[47] : Array UInt8).size ≤ 9223372036854775807 then
           (r40 s4.1).bind fun v22 =>
            if v19.size + (#[47] : Array UInt8).size + v20.size + (#[47] : Array UInt8).size + v21.size + (#[47] : Array UInt8).size + v22.size ≤ 9223372036854775807 then
             if v19.size + (#[47] : Array UInt8).size + v20.size + (#[47] : Array UInt8).size + v21.size + (#[47] : Array UInt8).size + v22.size + (#[47] : Array UInt8).size ≤ 9223372036854775807 then
              (r41 [x3, x4, x5, x6]).bind fun v23 =>
               if v19.size + (#[47] : Array UInt8).size + v20.size + (#[47] : Array UInt8).size + v21.size + (#[47] : Array UInt8).size + v22.size + (#[47] : Array UInt8).size + v23.size ≤ 9223372036854775807 then
                some ((((((((v19 ++ (⟨#[47]⟩ : ByteArray)) ++ v20) ++ (⟨#[47]⟩ : ByteArray)) ++ v21) ++ (⟨#[47]⟩ : ByteArray)) ++ v22) ++ (⟨#[47]⟩ : ByteArray)) ++ v23)
                else none
              else none
             else none
           else none
          else none
        else none
       else none
     else none)
def b13_3 (x2 : List (Int × Int × Int)) (x0 : List (Int × Int)) (x3 : Int) (x4 : Int) (x5 : Int) (x6 : Int) (s1 : (List ((List (Int)))) × Int) (s2 : (List ((List (Int)))) × Int) : ((List ((List (Int)))) × Int) → Ctl ((List ((List (Int)))) × Int) (ByteArray) := fun s3 =>
  if (decide (s3.2 < (x2.length : Int))) = true then
   if 0 ≤ s3.2 ∧ s3.2 < (x2.length : Int) then
    if 0 ≤ s3.2 ∧ s3.2 < (x2.length : Int) then
     if 0 ≤ s3.2 ∧ s3.2 < (x2.length : Int) then
      if (s3.1.length + 1) * 24 ≤ 140737488355328 ∧ s3.1.length + 1 ≤ 9223372036854775807 then
       .next (s3.1 ++ [[(x2.getD s3.2.toNat default).1, (x2.getD s3.2.toNat default).2.1, (x2.getD s3.2.toNat default).2.2]], IntKind.i64.wrap (s3.2 + 1))
       else .out none
      else .out none
     else .out none
    else .out none
   else .out (iterC (b13_4 x0 x3 x4 x5 x6 s1 s2 s3) 1000000000 ([], 0))
def b13_2 (x1 : List (Int × Int × Int × Int × Int)) (x2 : List (Int × Int × Int)) (x0 : List (Int × Int)) (x3 : Int) (x4 : Int) (x5 : Int) (x6 : Int) (s1 : (List ((List (Int)))) × Int) : ((List ((List (Int)))) × Int) → Ctl ((List ((List (Int)))) × Int) (ByteArray) := fun s2 =>
  if (decide (s2.2 < (x1.length : Int))) = true then
   if 0 ≤ s2.2 ∧ s2.2 < (x1.length : Int) then
    if 0 ≤ s2.2 ∧ s2.2 < (x1.length : Int) then
     if 0 ≤ s2.2 ∧ s2.2 < (x1.length : Int) then
      if 0 ≤ s2.2 ∧ s2.2 < (x1.length : Int) then
       if 0 ≤ s2.2 ∧ s2.2 < (x1.length : Int) then
        if (s2.1.length + 1) * 24 ≤ 140737488355328 ∧ s2.1.length + 1 ≤ 9223372036854775807 then
         .next (s2.1 ++ [[(x1.getD s2.2.toNat default).1, (x1.getD s2.2.toNat default).2.1, (x1.getD s2.2.toNat default).2.2.1, (x1.getD s2.2.toNat default).2.2.2.1, (x1.getD s2.2.toNat default).2.2.2.2]], IntKind.i64.wrap (s2.2 + 1))
         else .out none
        else .out none
       else .out none
      else .out none
     else .out none
    else .out none
   else .out (iterC (b13_3 x2 x0 x3 x4 x5 x6 s1 s2) 1000000000 ([], 0))
def b13_1 (x7 : List (Int × Int × Int × Int)) (x1 : List (Int × Int × Int × Int × Int)) (x2 : List (Int × Int × Int)) (x0 : List (Int × Int)) (x3 : Int) (x4 : Int) (x5 : Int) (x6 : Int) : ((List ((List (Int)))) × Int) → Ctl ((List ((List (Int)))) × Int) (ByteArray) := fun s1 =>
  if (decide (s1.2 < (x7.length : Int))) = true then
   if 0 ≤ s1.2 ∧ s1.2 < (x7.length : Int) then
    if 0 ≤ s1.2 ∧ s1.2 < (x7.length : Int) then
     if 0 ≤ s1.2 ∧ s1.2 < (x7.length : Int) then
      if 0 ≤ s1.2 ∧ s1.2 < (x7.length : Int) then
       if (s1.1.length + 1) * 24 ≤ 140737488355328 ∧ s1.1.length + 1 ≤ 9223372036854775807 then
        .next (s1.1 ++ [[(x7.getD s1.2.toNat default).1, (x7.getD s1.2.toNat default).2.1, (x7.getD s1.2.toNat default).2.2.1, (x7.getD s1.2.toNat default).2.2.2]], IntKind.i64.wrap (s1.2 + 1))
        else .out none
       else .out none
      else .out none
     else .out none
    else .out none
   else .out (iterC (b13_2 x1 x2 x0 x3 x4 x5 x6 s1) 1000000000 ([], 0))
def r13 (x7 : List (Int × Int × Int × Int)) (x1 : List (Int × Int × Int × Int × Int)) (x2 : List (Int × Int × Int)) (x0 : List (Int × Int)) (x3 : Int) (x4 : Int) (x5 : Int) (x6 : Int) : Option (ByteArray) :=
  iterC (b13_1 x7 x1 x2 x0 x3 x4 x5 x6) 1000000000 ([], 0)
def T13 : TSpec qA1 := mkT qE1 qd1 (fun ⟨x7, x1, x2, x0, x3, x4, x5, x6⟩ => r13 x7 x1 x2 x0 x3 x4 x5 x6) qu15 false
theorem TP13 (c0 c1 c2 c3 c4 c5 c6 c7 : D) : T13.sp.pre [.agg [c0, c1, c2, c3, c4, c5, c6, c7]] = (eqvArgs (qt1 c0 c1 c2 c3 c4 c5 c6 c7) (qp1 qw1 c0 c1 c2 c3 c4 c5 c6 c7) ∧ (qp1 r13 c0 c1 c2 c3 c4 c5 c6 c7).isSome = true) := (rfl)
theorem TR13 (c0 c1 c2 c3 c4 c5 c6 c7 : D) : T13.sp.res [.agg [c0, c1, c2, c3, c4, c5, c6, c7]] = qu15 ((qp1 r13 c0 c1 c2 c3 c4 c5 c6 c7).getD default) := (rfl)
theorem TA13 : T13.sp.alias = false := (rfl)
def tb13 : Fns := lk [(40, T40.sp), (41, T41.sp)]
theorem tb13_ok : FnsOk Tryz.prog tb13 := .cons f40 (.cons f41 (FnsOk.nil))
theorem tb13_40 : tb13 40 = some T40.sp := rfl
theorem tb13_41 : tb13 41 = some T41.sp := rfl
theorem lt13_0 : (IntKind.i64.wrap (0 + 1)) = 1 := by first | rfl | decide | simp
attribute [go_sem] TP13 TR13 TA13
section
attribute [local go_sem] T13 tb13_40 tb13_41 Tryz.results13 lt13_0
theorem v13 : Valid Tryz.prog 13 T13.sp := by
 refine valid_t (fn := Tryz.f13) (n := 166) ty_ok tb13_ok Tryz.func13 rfl Tryz.ntmps13 ?_
 rintro ⟨x7, x1, x2, x0, x3, x4, x5, x6⟩ hx
 obtain ⟨r, hr⟩ := oE (show (r13 x7 x1 x2 x0 x3 x4 x5 x6).isSome = true from hx)
 have hres : T13.res (x7, x1, x2, x0, x3, x4, x5, x6) = qu15 r := by simp only [T13, mkT, hr, oG]
 refine ⟨nL rfl, fun stop S => ?_⟩
 rw [hres] at S
 unfold r13 at hr
 refine S.gx [4, 8] ?_
 repeat refine gA ?_
 refine S.own0 3 1000300 1 rfl rfl ?_
 refine S.sees [1, 3, 4, 5, 6, 7] [(1, 1)] [(1000300, 1000300)] ?_ (Stop.iter S (fun s1 => ⟨[(1, .c (.ref 1 0)), (3, .c (.own 1000300)), (4, .c (.nils)), (5, .c (.nils)), (6, .c (.nils)), (7, .c (.d (.int .i64 s1.2)))], [(1, [.d (encF 4 d_IIII x7), .d (encF 5 d_IIIII x1), .d (encF 3 d_III x2), .d (encF 2 d_II x0), .d (.int .i64 x3), .d (.int .i64 x4), .d (.int .i64 x5), .d (.int .i64 x6)])], [(1000300, .owned (encF 1 d_LIE s1.1))]⟩) (b13_1 x7 x1 x2 x0 x3 x4 x5 x6) (fun q => q = r) hr rfl ?_)
 ·exact lf
 ·intro s1 hr
  unfold b13_1 at hr
  refine S.gx [4, 8] ?_
  repeat refine gA ?_
  refine ⟨?_, ?_⟩ <;> intro hc
  ·have hr := ifP1 hr hc
   obtain ⟨hg1, hr⟩ := of_guard1 hr
   obtain ⟨hg2, hr⟩ := of_guard1 hr
   obtain ⟨hg3, hr⟩ := of_guard1 hr
   obtain ⟨hg4, hr⟩ := of_guard1 hr
   obtain ⟨hg5, hr⟩ := of_guard1 hr
   repeat refine gA ?_
   refine S.prune [1, 3, 4, 5, 6, 7] ?_
   refine S.gx [8] ?_
   repeat refine gA ?_
   refine S.sees [1, 3, 4, 5, 6, 7] [(1, 1)] [(47, 1000300)] ?_ hr
   exact lf
  ·have hr := ifN1 hr hc
   repeat refine gA ?_
   have hr := of_out0 hr
   repeat refine gA ?_
   refine S.own0 4 1000400 1 rfl rfl ?_
   refine S.sees [1, 3, 4, 5, 6, 8] [(1, 1)] [(1000400, 1000400), (1000300, 1000300)] ?_ (Stop.iter S (fun s2 => ⟨[(1, .c (.ref 1 0)), (3, .c (.own 1000300)), (4, .c (.own 1000400)), (5, .c (.nils)), (6, .c (.nils)), (8, .c (.d (.int .i64 s2.2)))], [(1, [.d (encF 4 d_IIII x7), .d (encF 5 d_IIIII x1), .d (encF 3 d_III x2), .d (encF 2 d_II x0), .d (.int .i64 x3), .d (.int .i64 x4), .d (.int .i64 x5), .d (.int .i64 x6)])], [(1000400, .owned (encF 1 d_LIE s2.1)), (1000300, .owned (encF 1 d_LIE s1.1))]⟩) (b13_2 x1 x2 x0 x3 x4 x5 x6 s1) (fun q => q = r) hr rfl ?_)
   ·exact lf
   ·intro s2 hr
    unfold b13_2 at hr
    refine S.gx [4, 8] ?_
    repeat refine gA ?_
    refine ⟨?_, ?_⟩ <;> intro hc
    ·have hr := ifP1 hr hc
     obtain ⟨hg6, hr⟩ := of_guard1 hr
     obtain ⟨hg7, hr⟩ := of_guard1 hr
     obtain ⟨hg8, hr⟩ := of_guard1 hr
     obtain ⟨hg9, hr⟩ := of_guard1 hr
     obtain ⟨hg10, hr⟩ := of_guard1 hr
     obtain ⟨hg11, hr⟩ := of_guard1 hr
     repeat refine gA ?_
     refine S.prune [1, 3, 4, 5, 6, 8] ?_
     refine S.gx [4] ?_
     repeat refine gA ?_
     refine S.sees [1, 3, 4, 5, 6, 8] [(1, 1)] [(92, 1000400), (1000300, 1000300)] ?_ hr
     exact lf
    ·have hr := ifN1 hr hc
     repeat refine gA ?_
     have hr := of_out0 hr
     repeat refine gA ?_
     refine S.own0 5 1000500 1 rfl rfl ?_
     refine S.sees [1, 3, 4, 5, 6, 9] [(1, 1)] [(1000500, 1000500), (1000300, 1000300), (1000400, 1000400)] ?_ (Stop.iter S (fun s3 => ⟨[(1, .c (.ref 1 0)), (3, .c (.own 1000300)), (4, .c (.own 1000400)), (5, .c (.own 1000500)), (6, .c (.nils)), (9, .c (.d (.int .i64 s3.2)))], [(1, [.d (encF 4 d_IIII x7), .d (encF 5 d_IIIII x1), .d (encF 3 d_III x2), .d (encF 2 d_II x0), .d (.int .i64 x3), .d (.int .i64 x4), .d (.int .i64 x5), .d (.int .i64 x6)])], [(1000500, .owned (encF 1 d_LIE s3.1)), (1000300, .owned (encF 1 d_LIE s1.1)), (1000400, .owned (encF 1 d_LIE s2.1))]⟩) (b13_3 x2 x0 x3 x4 x5 x6 s1 s2) (fun q => q = r) hr rfl ?_)
     ·exact lf
     ·intro s3 hr
      unfold b13_3 at hr
      refine S.gx [4, 8] ?_
      repeat refine gA ?_
      refine ⟨?_, ?_⟩ <;> intro hc
      ·have hr := ifP1 hr hc
       obtain ⟨hg12, hr⟩ := of_guard1 hr
       obtain ⟨hg13, hr⟩ := of_guard1 hr
       obtain ⟨hg14, hr⟩ := of_guard1 hr
       obtain ⟨hg15, hr⟩ := of_guard1 hr
       repeat refine gA ?_
       refine S.sees [1, 3, 4, 5, 6, 9] [(1, 1)] [(123, 1000500), (1000300, 1000300), (1000400, 1000400)] ?_ hr
       exact lf
      ·have hr := ifN1 hr hc
       repeat refine gA ?_
       have hr := of_out0 hr
       repeat refine gA ?_
       refine S.own0 6 1000600 1 rfl rfl ?_
       refine S.sees [1, 3, 4, 5, 6, 10] [(1, 1)] [(1000600, 1000600), (1000300, 1000300), (1000400, 1000400), (1000500, 1000500)] ?_ (Stop.iter S (fun s4 => ⟨[(1, .c (.ref 1 0)), (3, .c (.own 1000300)), (4, .c (.own 1000400)), (5, .c (.own 1000500)), (6, .c (.own 1000600)), (10, .c (.d (.int .i64 s4.2)))], [(1, [.d (encF 4 d_IIII x7), .d (encF 5 d_IIIII x1), .d (encF 3 d_III x2), .d (encF 2 d_II x0), .d (.int .i64 x3), .d (.int .i64 x4), .d (.int .i64 x5), .d (.int .i64 x6)])], [(1000600, .owned (encF 1 d_LIE s4.1)), (1000300, .owned (encF 1 d_LIE s1.1)), (1000400, .owned (encF 1 d_LIE s2.1)), (1000500, .owned (encF 1 d_LIE s3.1))]⟩) (b13_4 x0 x3 x4 x5 x6 s1 s2 s3) (fun q => q = r) hr rfl ?_)
       ·exact lf
       ·intro s4 hr
        unfold b13_4 at hr
        refine S.gx [4, 8] ?_
        repeat refine gA ?_
        refine ⟨?_, ?_⟩ <;> intro hc
        ·have hr := ifP1 hr hc
         obtain ⟨hg16, hr⟩ := of_guard1 hr
         obtain ⟨hg17, hr⟩ := of_guard1 hr
         obtain ⟨hg18, hr⟩ := of_guard1 hr
         repeat refine gA ?_
         refine S.sees [1, 3, 4, 5, 6, 10] [(1, 1)] [(146, 1000600), (1000300, 1000300), (1000400, 1000400), (1000500, 1000500)] ?_ hr
         exact lf
        ·have hr := ifN1 hr hc
         repeat refine gA ?_
         have hr := of_out0 hr
         obtain ⟨v19, hv19, hr⟩ := of_bind0 hr
         obtain ⟨hg24, hr⟩ := of_guard0 hr
         obtain ⟨v20, hv20, hr⟩ := of_bind0 hr
         obtain ⟨hg25, hr⟩ := of_guard0 hr
         obtain ⟨hg26, hr⟩ := of_guard0 hr
         obtain ⟨v21, hv21, hr⟩ := of_bind0 hr
         obtain ⟨hg27, hr⟩ := of_guard0 hr
         obtain ⟨hg28, hr⟩ := of_guard0 hr
         obtain ⟨v22, hv22, hr⟩ := of_bind0 hr
         obtain ⟨hg29, hr⟩ := of_guard0 hr
         obtain ⟨hg30, hr⟩ := of_guard0 hr
         obtain ⟨v23, hv23, hr⟩ := of_bind0 hr
         obtain ⟨hg31, hr⟩ := of_guard0 hr
         try simp only [hv19, hv20, hv21, hv22, hv23, Option.getD_some, Option.isSome_some, true_and, and_assoc]
         repeat refine gA ?_
         cases hr
         exact lf
theorem f13 : FnFact Tryz.prog 13 T13.sp := ⟨⟨Tryz.f13, Tryz.func13, by decide, rfl⟩, v13⟩
end

/- martensite/martensiteref04.FormatState -/
def r14 (x0 : Int) (x1 : Int) (x2 : Int) (x3 : Int) (x4 : Int) (x5 : Int) (x6 : Int) : Option (ByteArray) :=
  (r41 [x0, x1, x2, x3, x4, x5, x6]).bind fun v1 =>
   some v1
def T14 : TSpec qA10 := mkT qE10 qd10 (fun ⟨x0, x1, x2, x3, x4, x5, x6⟩ => r14 x0 x1 x2 x3 x4 x5 x6) qu15 false
theorem TP14 (c0 c1 c2 c3 c4 c5 c6 : D) : T14.sp.pre [.agg [c0, c1, c2, c3, c4, c5, c6]] = (eqvArgs (qt10 c0 c1 c2 c3 c4 c5 c6) (qp10 qw10 c0 c1 c2 c3 c4 c5 c6) ∧ (qp10 r14 c0 c1 c2 c3 c4 c5 c6).isSome = true) := (rfl)
theorem TR14 (c0 c1 c2 c3 c4 c5 c6 : D) : T14.sp.res [.agg [c0, c1, c2, c3, c4, c5, c6]] = qu15 ((qp10 r14 c0 c1 c2 c3 c4 c5 c6).getD default) := (rfl)
theorem TA14 : T14.sp.alias = false := (rfl)
def tb14 : Fns := lk [(41, T41.sp)]
theorem tb14_ok : FnsOk Tryz.prog tb14 := .cons f41 (FnsOk.nil)
theorem tb14_41 : tb14 41 = some T41.sp := rfl
attribute [go_sem] TP14 TR14 TA14
section
attribute [local go_sem] T14 tb14_41 Tryz.results14
theorem v14 : Valid Tryz.prog 14 T14.sp := by
 refine valid_t (fn := Tryz.f14) (n := 19) ty_ok tb14_ok Tryz.func14 rfl Tryz.ntmps14 ?_
 rintro ⟨x0, x1, x2, x3, x4, x5, x6⟩ hx
 obtain ⟨r, hr⟩ := oE (show (r14 x0 x1 x2 x3 x4 x5 x6).isSome = true from hx)
 have hres : T14.res (x0, x1, x2, x3, x4, x5, x6) = qu15 r := by simp only [T14, mkT, hr, oG]
 refine ⟨nL rfl, fun stop S => ?_⟩
 rw [hres] at S
 unfold r14 at hr
 refine S.gx [] ?_
 obtain ⟨v1, hv1, hr⟩ := of_bind0 hr
 try simp only [hv1, oG, oI, true_and, and_assoc]
 repeat refine gA ?_
 cases hr
 exact lf
theorem f14 : FnFact Tryz.prog 14 T14.sp := ⟨⟨Tryz.f14, Tryz.func14, by decide, rfl⟩, v14⟩
end

/- martensite/martensiteref04.SameRules -/
def b15_4 (x0 : List (Int × Int)) (x1 : List (Int × Int)) : (Int) → Ctl (Int) (Bool) := fun s4 =>
  if (decide (s4 < (x0.length : Int))) = true then
   if 0 ≤ s4 ∧ s4 < (x0.length : Int) then
    if 0 ≤ s4 ∧ s4 < (x1.length : Int) then
     if (!(((x0.getD s4.toNat default).1 == (x1.getD s4.toNat default).1) && ((x0.getD s4.toNat default).2 == (x1.getD s4.toNat default).2))) = true then
      .out (some false)
      else .next (IntKind.i64.wrap (s4 + 1))
     else .out none
    else .out none
   else .out (some true)
def b15_3 (x2 : List (Int × Int × Int)) (x0 : List (Int × Int)) (x3 : List (Int × Int × Int)) (x1 : List (Int × Int)) : (Int) → Ctl (Int) (Bool) := fun s3 =>
  if (decide (s3 < (x2.length : Int))) = true then
   if 0 ≤ s3 ∧ s3 < (x2.length : Int) then
    if 0 ≤ s3 ∧ s3 < (x3.length : Int) then
     if (!(((x2.getD s3.toNat default).1 == (x3.getD s3.toNat default).1) && (((x2.getD s3.toNat default).2.1 == (x3.getD s3.toNat default).2.1) && ((x2.getD s3.toNat default).2.2 == (x3.getD s3.toNat default).2.2)))) = true then
      .out (some false)
      else .next (IntKind.i64.wrap (s3 + 1))
     else .out none
    else .out none
   else .out (iterC (b15_4 x0 x1) 1000000000 0)
def b15_2 (x4 : List (Int × Int × Int × Int × Int)) (x2 : List (Int × Int × Int)) (x0 : List (Int × Int)) (x5 : List (Int × Int × Int × Int × Int)) (x3 : List (Int × Int × Int)) (x1 : List (Int × Int)) : (Int) → Ctl (Int) (Bool) := fun s2 =>
  if (decide (s2 < (x4.length : Int))) = true then
   if 0 ≤ s2 ∧ s2 < (x4.length : Int) then
    if 0 ≤ s2 ∧ s2 < (x5.length : Int) then
     if (!(((x4.getD s2.toNat default).1 == (x5.getD s2.toNat default).1) && (((x4.getD s2.toNat default).2.1 == (x5.getD s2.toNat default).2.1) && (((x4.getD s2.toNat default).2.2.1 == (x5.getD s2.toNat default).2.2.1) && (((x4.getD s2.toNat default).2.2.2.1 == (x5.getD s2.toNat default).2.2.2.1) && ((x4.getD s2.toNat default).2.2.2.2 == (x5.getD s2.toNat default).2.2.2.2)))))) = true then
      .out (some false)
      else .next (IntKind.i64.wrap (s2 + 1))
     else .out none
    else .out none
   else .out (iterC (b15_3 x2 x0 x3 x1) 1000000000 0)
def b15_1 (x6 : List (Int × Int × Int × Int)) (x4 : List (Int × Int × Int × Int × Int)) (x2 : List (Int × Int × Int)) (x0 : List (Int × Int)) (x7 : List (Int × Int × Int × Int)) (x5 : List (Int × Int × Int × Int × Int)) (x3 : List (Int × Int × Int)) (x1 : List (Int × Int)) : (Int) → Ctl (Int) (Bool) := fun s1 =>
  if (decide (s1 < (x6.length : Int))) = true then
   if 0 ≤ s1 ∧ s1 < (x6.length : Int) then
    if 0 ≤ s1 ∧ s1 < (x7.length : Int) then
     if (!(((x6.getD s1.toNat default).1 == (x7.getD s1.toNat default).1) && (((x6.getD s1.toNat default).2.1 == (x7.getD s1.toNat default).2.1) && (((x6.getD s1.toNat default).2.2.1 == (x7.getD s1.toNat default).2.2.1) && ((x6.getD s1.toNat default).2.2.2 == (x7.getD s1.toNat default).2.2.2))))) = true then
      .out (some false)
      else .next (IntKind.i64.wrap (s1 + 1))
     else .out none
    else .out none
   else .out (iterC (b15_2 x4 x2 x0 x5 x3 x1) 1000000000 0)
def r15 (x6 : List (Int × Int × Int × Int)) (x4 : List (Int × Int × Int × Int × Int)) (x2 : List (Int × Int × Int)) (x0 : List (Int × Int)) (x8 : Int) (x9 : Int) (x10 : Int) (x11 : Int) (x7 : List (Int × Int × Int × Int)) (x5 : List (Int × Int × Int × Int × Int)) (x3 : List (Int × Int × Int)) (x1 : List (Int × Int)) (x12 : Int) (x13 : Int) (x14 : Int) (x15 : Int) : Option (Bool) :=
  if ((((((x6.length : Int) != (x7.length : Int)) || ((x4.length : Int) != (x5.length : Int))) || ((x2.length : Int) != (x3.length : Int))) || ((x0.length : Int) != (x1.length : Int))) || (!((x8 == x12) && ((x9 == x13) && ((x10 == x14) && (x11 == x15)))))) = true then
   some false
   else iterC (b15_1 x6 x4 x2 x0 x7 x5 x3 x1) 1000000000 0
def T15 : TSpec qA36 := mkT qE36 qd36 (fun ⟨x6, x4, x2, x0, x8, x9, x10, x11, x7, x5, x3, x1, x12, x13, x14, x15⟩ => r15 x6 x4 x2 x0 x8 x9 x10 x11 x7 x5 x3 x1 x12 x13 x14 x15) qu3 false
theorem TP15 (c0 c1 c2 c3 c4 c5 c6 c7 c8 c9 c10 c11 c12 c13 c14 c15 : D) : T15.sp.pre [.agg [c0, c1, c2, c3, c4, c5, c6, c7], .agg [c8, c9, c10, c11, c12, c13, c14, c15]] = (eqvArgs (qt36 c0 c1 c2 c3 c4 c5 c6 c7 c8 c9 c10 c11 c12 c13 c14 c15) (qp36 qw36 c0 c1 c2 c3 c4 c5 c6 c7 c8 c9 c10 c11 c12 c13 c14 c15) ∧ (qp36 r15 c0 c1 c2 c3 c4 c5 c6 c7 c8 c9 c10 c11 c12 c13 c14 c15).isSome = true) := (rfl)
theorem TR15 (c0 c1 c2 c3 c4 c5 c6 c7 c8 c9 c10 c11 c12 c13 c14 c15 : D) : T15.sp.res [.agg [c0, c1, c2, c3, c4, c5, c6, c7], .agg [c8, c9, c10, c11, c12, c13, c14, c15]] = qu3 ((qp36 r15 c0 c1 c2 c3 c4 c5 c6 c7 c8 c9 c10 c11 c12 c13 c14 c15).getD default) := (rfl)
theorem TA15 : T15.sp.alias = false := (rfl)
def tb15 : Fns := lk []
theorem tb15_ok : FnsOk Tryz.prog tb15 := FnsOk.nil
theorem lt15_0 : (IntKind.i64.wrap (0 + 1)) = 1 := by first | rfl | decide | simp
attribute [go_sem] TP15 TR15 TA15
section
attribute [local go_sem] T15 Tryz.results15 lt15_0
theorem v15 : Valid Tryz.prog 15 T15.sp := by
 refine valid_t (fn := Tryz.f15) (n := 122) ty_ok tb15_ok Tryz.func15 rfl Tryz.ntmps15 ?_
 rintro ⟨x6, x4, x2, x0, x8, x9, x10, x11, x7, x5, x3, x1, x12, x13, x14, x15⟩ hx
 obtain ⟨r, hr⟩ := oE (show (r15 x6 x4 x2 x0 x8 x9 x10 x11 x7 x5 x3 x1 x12 x13 x14 x15).isSome = true from hx)
 have hres : T15.res (x6, x4, x2, x0, x8, x9, x10, x11, x7, x5, x3, x1, x12, x13, x14, x15) = qu3 r := by simp only [T15, mkT, hr, oG]
 refine ⟨nL rfl, fun stop S => ?_⟩
 rw [hres] at S
 unfold r15 at hr
 refine S.gx [2, 3] ?_
 repeat (first | refine gA ?_ | refine gB ?_)
 refine ⟨?_, ?_⟩ <;> intro hc
 ·have hr := ifP hr hc
  repeat refine gA ?_
  refine S.prune [] ?_
  refine S.gx [3] ?_
  repeat refine gA ?_
  cases hr
  exact lf
 ·have hr := ifN hr hc
  repeat refine gA ?_
  refine S.prune [2, 3] ?_
  refine S.gx [2] ?_
  repeat refine gA ?_
  refine S.sees [2, 3, 5] [(2, 2), (3, 3)] [] ?_ (Stop.iter S (fun s1 => ⟨[(2, .c (.ref 2 0)), (3, .c (.ref 3 0)), (5, .c (.d (.int .i64 s1)))], [(2, [.d (encF 4 d_IIII x6), .d (encF 5 d_IIIII x4), .d (encF 3 d_III x2), .d (encF 2 d_II x0), .d (.int .i64 x8), .d (.int .i64 x9), .d (.int .i64 x10), .d (.int .i64 x11)]), (3, [.d (encF 4 d_IIII x7), .d (encF 5 d_IIIII x5), .d (encF 3 d_III x3), .d (encF 2 d_II x1), .d (.int .i64 x12), .d (.int .i64 x13), .d (.int .i64 x14), .d (.int .i64 x15)])], []⟩) (b15_1 x6 x4 x2 x0 x7 x5 x3 x1) (fun q => q = r) hr rfl ?_)
  ·exact lf
  ·intro s1 hr
   unfold b15_1 at hr
   refine S.gx [2, 3] ?_
   repeat refine gA ?_
   refine ⟨?_, ?_⟩ <;> intro hc
   ·have hr := ifP1 hr hc
    obtain ⟨hg1, hr⟩ := of_guard1 hr
    obtain ⟨hg2, hr⟩ := of_guard1 hr
    repeat refine gA ?_
    refine ⟨?_, ?_⟩ <;> intro hc
    ·have hr := ifP1 hr hc
     repeat refine gA ?_
     have hr := of_out0 hr
     cases hr
     exact lf
    ·have hr := ifN1 hr hc
     repeat refine gA ?_
     refine S.sees [2, 3, 5] [(2, 2), (3, 3)] [] ?_ hr
     exact lf
   ·have hr := ifN1 hr hc
    repeat refine gA ?_
    have hr := of_out0 hr
    repeat refine gA ?_
    refine S.sees [2, 3, 6] [(2, 2), (3, 3)] [] ?_ (Stop.iter S (fun s2 => ⟨[(2, .c (.ref 2 0)), (3, .c (.ref 3 0)), (6, .c (.d (.int .i64 s2)))], [(2, [.d (encF 4 d_IIII x6), .d (encF 5 d_IIIII x4), .d (encF 3 d_III x2), .d (encF 2 d_II x0), .d (.int .i64 x8), .d (.int .i64 x9), .d (.int .i64 x10), .d (.int .i64 x11)]), (3, [.d (encF 4 d_IIII x7), .d (encF 5 d_IIIII x5), .d (encF 3 d_III x3), .d (encF 2 d_II x1), .d (.int .i64 x12), .d (.int .i64 x13), .d (.int .i64 x14), .d (.int .i64 x15)])], []⟩) (b15_2 x4 x2 x0 x5 x3 x1) (fun q => q = r) hr rfl ?_)
    ·exact lf
    ·intro s2 hr
     unfold b15_2 at hr
     refine S.gx [2, 3] ?_
     repeat refine gA ?_
     refine ⟨?_, ?_⟩ <;> intro hc
     ·have hr := ifP1 hr hc
      obtain ⟨hg3, hr⟩ := of_guard1 hr
      obtain ⟨hg4, hr⟩ := of_guard1 hr
      repeat refine gA ?_
      refine ⟨?_, ?_⟩ <;> intro hc
      ·have hr := ifP1 hr hc
       repeat refine gA ?_
       have hr := of_out0 hr
       cases hr
       exact lf
      ·have hr := ifN1 hr hc
       repeat refine gA ?_
       refine S.sees [2, 3, 6] [(2, 2), (3, 3)] [] ?_ hr
       exact lf
     ·have hr := ifN1 hr hc
      repeat refine gA ?_
      have hr := of_out0 hr
      repeat refine gA ?_
      refine S.sees [2, 3, 7] [(2, 2), (3, 3)] [] ?_ (Stop.iter S (fun s3 => ⟨[(2, .c (.ref 2 0)), (3, .c (.ref 3 0)), (7, .c (.d (.int .i64 s3)))], [(2, [.d (encF 4 d_IIII x6), .d (encF 5 d_IIIII x4), .d (encF 3 d_III x2), .d (encF 2 d_II x0), .d (.int .i64 x8), .d (.int .i64 x9), .d (.int .i64 x10), .d (.int .i64 x11)]), (3, [.d (encF 4 d_IIII x7), .d (encF 5 d_IIIII x5), .d (encF 3 d_III x3), .d (encF 2 d_II x1), .d (.int .i64 x12), .d (.int .i64 x13), .d (.int .i64 x14), .d (.int .i64 x15)])], []⟩) (b15_3 x2 x0 x3 x1) (fun q => q = r) hr rfl ?_)
      ·exact lf
      ·intro s3 hr
       unfold b15_3 at hr
       refine S.gx [2, 3] ?_
       repeat refine gA ?_
       refine ⟨?_, ?_⟩ <;> intro hc
       ·have hr := ifP1 hr hc
        obtain ⟨hg5, hr⟩ := of_guard1 hr
        obtain ⟨hg6, hr⟩ := of_guard1 hr
        repeat refine gA ?_
        refine ⟨?_, ?_⟩ <;> intro hc
        ·have hr := ifP1 hr hc
         repeat refine gA ?_
         have hr := of_out0 hr
         cases hr
         exact lf
        ·have hr := ifN1 hr hc
         repeat refine gA ?_
         refine S.sees [2, 3, 7] [(2, 2), (3, 3)] [] ?_ hr
         exact lf
       ·have hr := ifN1 hr hc
        repeat refine gA ?_
        have hr := of_out0 hr
        repeat refine gA ?_
        refine S.sees [2, 3, 8] [(2, 2), (3, 3)] [] ?_ (Stop.iter S (fun s4 => ⟨[(2, .c (.ref 2 0)), (3, .c (.ref 3 0)), (8, .c (.d (.int .i64 s4)))], [(2, [.d (encF 4 d_IIII x6), .d (encF 5 d_IIIII x4), .d (encF 3 d_III x2), .d (encF 2 d_II x0), .d (.int .i64 x8), .d (.int .i64 x9), .d (.int .i64 x10), .d (.int .i64 x11)]), (3, [.d (encF 4 d_IIII x7), .d (encF 5 d_IIIII x5), .d (encF 3 d_III x3), .d (encF 2 d_II x1), .d (.int .i64 x12), .d (.int .i64 x13), .d (.int .i64 x14), .d (.int .i64 x15)])], []⟩) (b15_4 x0 x1) (fun q => q = r) hr rfl ?_)
        ·exact lf
        ·intro s4 hr
         unfold b15_4 at hr
         refine S.gx [2, 3] ?_
         repeat refine gA ?_
         refine ⟨?_, ?_⟩ <;> intro hc
         ·have hr := ifP1 hr hc
          obtain ⟨hg7, hr⟩ := of_guard1 hr
          obtain ⟨hg8, hr⟩ := of_guard1 hr
          repeat refine gA ?_
          refine ⟨?_, ?_⟩ <;> intro hc
          ·have hr := ifP1 hr hc
           repeat refine gA ?_
           have hr := of_out0 hr
           cases hr
           exact lf
          ·have hr := ifN1 hr hc
           repeat refine gA ?_
           refine S.sees [2, 3, 8] [(2, 2), (3, 3)] [] ?_ hr
           exact lf
         ·have hr := ifN1 hr hc
          repeat refine gA ?_
          have hr := of_out0 hr
          repeat refine gA ?_
          cases hr
          exact lf
theorem f15 : FnFact Tryz.prog 15 T15.sp := ⟨⟨Tryz.f15, Tryz.func15, by decide, rfl⟩, v15⟩
end
end Go.Proofs.YtdlogfepbkojkaaGreatDoor

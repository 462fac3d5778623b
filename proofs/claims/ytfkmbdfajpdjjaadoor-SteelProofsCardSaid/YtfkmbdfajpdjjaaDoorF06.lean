/- Contracts of functions, written by wip/dec. -/
import Derived.Test.YtfkmbdfajpdjjaaDoorF00
import Derived.Test.YtfkmbdfajpdjjaaDoorF01
set_option linter.unusedVariables false
set_option linter.unusedSimpArgs false
set_option maxHeartbeats 4000000
set_option maxRecDepth 20000
namespace Go.Proofs.YtfkmbdfajpdjjaaDoor
open Go.Abs
abbrev qA30 := ByteArray × Int × Int × ByteArray × Int × Int
def qw30 (a0 : ByteArray) (a1 : Int) (a2 : Int) (a3 : ByteArray) (a4 : Int) (a5 : Int) : List Arg := [.agg [.str a0, .int .i64 a1, .int .i64 a2], .ptr [.str a3, .int .i64 a4, .int .i64 a5]]
def qE30 : qA30 → List Arg := fun ⟨a0, a1, a2, a3, a4, a5⟩ => qw30 a0 a1 a2 a3 a4 a5
def qd30 (a : List Arg) : qA30 := (dStr (aCell a 0 0), dInt (aCell a 0 1), dInt (aCell a 0 2), dStr (aCell a 1 0), dInt (aCell a 1 1), dInt (aCell a 1 2))
def qp30 {β : Type} (f : ByteArray → Int → Int → ByteArray → Int → Int → β) (c0 c1 c2 c3 c4 c5 : D) : β := f (dStr c0) (dInt c1) (dInt c2) (dStr c3) (dInt c4) (dInt c5)
def qt30 (c0 c1 c2 c3 c4 c5 : D) : List Arg := [.agg [c0, c1, c2], .ptr [c3, c4, c5]]
attribute [go_sem] qw30 qp30 qt30 qE30
abbrev qA31 := (List (ByteArray × Int × Int)) × ByteArray × Int × Int
def qw31 (a0 : List (ByteArray × Int × Int)) (a1 : ByteArray) (a2 : Int) (a3 : Int) : List Arg := [.c (encF 3 d_SII a0), .clo 122 [[.str a1, .int .i64 a2, .int .i64 a3]]]
def qE31 : qA31 → List Arg := fun ⟨a0, a1, a2, a3⟩ => qw31 a0 a1 a2 a3
def qd31 (a : List Arg) : qA31 := (decF g_SII (aCell a 0 0), dStr (aCell a 1 0), dInt (aCell a 1 1), dInt (aCell a 1 2))
def qp31 {β : Type} (f : (List (ByteArray × Int × Int)) → ByteArray → Int → Int → β) (c0 c1 c2 c3 : D) : β := f (decF g_SII c0) (dStr c1) (dInt c2) (dInt c3)
def qt31 (c0 c1 c2 c3 : D) : List Arg := [.c c0, .clo 122 [[c1, c2, c3]]]
attribute [go_sem] qw31 qp31 qt31 qE31
abbrev qA32 := ByteArray
def qw32 (a0 : ByteArray) : List Arg := [.c (.str a0)]
def qE32 : qA32 → List Arg := qw32
def qd32 (a : List Arg) : qA32 := dStr (aCell a 0 0)
def qp32 {β : Type} (f : ByteArray → β) (c0 : D) : β := f (dStr c0)
def qt32 (c0 : D) : List Arg := [.c c0]
attribute [go_sem] qw32 qp32 qt32 qE32
def qu15 (v : (List (ByteArray × Int × Int))) : List RV := [.c (.own (encF 3 d_SII v))]
attribute [go_sem] qu15
def qu16 (v : ByteArray × ByteArray × Int) : List RV := [.agg [.d (.str v.1), .d (.str v.2.1)], .c (.d (.int .i64 v.2.2))]
attribute [go_sem] qu16
def qu17 (v : Int × Int × Bool) : List RV := [.agg [.d (.int .i64 v.1), .d (.int .i64 v.2.1)], .c (.d (.bool v.2.2))]
attribute [go_sem] qu17
def qu18 (v : ByteArray × ByteArray × Bool) : List RV := [.agg [.d (.str v.1), .d (.str v.2.1)], .c (.d (.bool v.2.2))]
attribute [go_sem] qu18
/- martensite/martensiteref04.CopyEvidence -/
def r47 (a0 : List (ByteArray × Int × Int)) : Option ((List (ByteArray × Int × Int))) :=
  if (0 + a0.length) * 32 ≤ 140737488355328 ∧ 0 + a0.length ≤ 9223372036854775807 then
   some a0
   else none
def T47 : TSpec qA29 := mkT qE29 qd29 r47 qu15 false
theorem TP47 (c0 : D) : T47.sp.pre [.c c0] = (eqvArgs (qt29 c0) (qp29 qw29 c0) ∧ (qp29 r47 c0).isSome = true) := (rfl)
theorem TR47 (c0 : D) : T47.sp.res [.c c0] = qu15 ((qp29 r47 c0).getD default) := (rfl)
theorem TA47 : T47.sp.alias = false := (rfl)
def tb47 : Fns := lk []
theorem tb47_ok : FnsOk Tryd.prog tb47 := FnsOk.nil
attribute [go_sem] TP47 TR47 TA47
section
attribute [local go_sem] T47 Tryd.results47
theorem v47 : Valid Tryd.prog 47 T47.sp := by
 refine valid_t (fn := Tryd.f47) (n := 6) ty_ok tb47_ok Tryd.func47 rfl Tryd.ntmps47 ?_
 rintro a0 hx
 obtain ⟨r, hr⟩ := oE (show (r47 a0).isSome = true from hx)
 have hres : T47.res a0 = qu15 r := by simp only [T47, mkT, hr, oG]
 refine ⟨nL rfl, fun stop S => ?_⟩
 rw [hres] at S
 unfold r47 at hr
 refine S.gx [] ?_
 obtain ⟨hg1, hr⟩ := of_guard0 hr
 repeat refine gA ?_
 cases hr
 exact lf
theorem f47 : FnFact Tryd.prog 47 T47.sp := ⟨⟨Tryd.f47, Tryd.func47, by decide, rfl⟩, v47⟩
end

/- martensite/steel.evidenceErr$2 -/
def r122 (x0 : ByteArray) (x2 : Int) (x3 : Int) (x1 : ByteArray) (x4 : Int) (x5 : Int) : Option (Bool) :=
  some (decide (x0 = x1))
def T122 : TSpec qA30 := mkT qE30 qd30 (fun ⟨x0, x2, x3, x1, x4, x5⟩ => r122 x0 x2 x3 x1 x4 x5) qu3 false
theorem TP122 (c0 c1 c2 c3 c4 c5 : D) : T122.sp.pre [.agg [c0, c1, c2], .ptr [c3, c4, c5]] = (eqvArgs (qt30 c0 c1 c2 c3 c4 c5) (qp30 qw30 c0 c1 c2 c3 c4 c5) ∧ (qp30 r122 c0 c1 c2 c3 c4 c5).isSome = true) := (rfl)
theorem TR122 (c0 c1 c2 c3 c4 c5 : D) : T122.sp.res [.agg [c0, c1, c2], .ptr [c3, c4, c5]] = qu3 ((qp30 r122 c0 c1 c2 c3 c4 c5).getD default) := (rfl)
theorem TA122 : T122.sp.alias = false := (rfl)
def tb122 : Fns := lk []
theorem tb122_ok : FnsOk Tryd.prog tb122 := FnsOk.nil
attribute [go_sem] TP122 TR122 TA122
section
attribute [local go_sem] T122 Tryd.results122
theorem v122 : Valid Tryd.prog 122 T122.sp := by
 refine valid_t (fn := Tryd.f122) (n := 9) ty_ok tb122_ok Tryd.func122 rfl Tryd.ntmps122 ?_
 rintro ⟨x0, x2, x3, x1, x4, x5⟩ hx
 obtain ⟨r, hr⟩ := oE (show (r122 x0 x2 x3 x1 x4 x5).isSome = true from hx)
 have hres : T122.res (x0, x2, x3, x1, x4, x5) = qu3 r := by simp only [T122, mkT, hr, oG]
 refine ⟨nL rfl, fun stop S => ?_⟩
 rw [hres] at S
 unfold r122 at hr
 refine S.gx [] ?_
 repeat refine gA ?_
 cases hr
 exact lf
theorem f122 : FnFact Tryd.prog 122 T122.sp := ⟨⟨Tryd.f122, Tryd.func122, by decide, rfl⟩, v122⟩
end

/- slices.IndexFunc[[]martensite/api.SteelEvidence,martensite/api.SteelEvidence] -/
def b139_1 (a0 : List (ByteArray × Int × Int)) (x0 : ByteArray) (x1 : Int) (x2 : Int) : (Int) → Ctl (Int) (Int) := fun s1 =>
  if (decide (s1 < (a0.length : Int))) = true then
   if 0 ≤ s1 ∧ s1 < (a0.length : Int) then
    bindC (r122 ((a0.getD s1.toNat default).1) ((a0.getD s1.toNat default).2.1) ((a0.getD s1.toNat default).2.2) x0 x1 x2) fun v1 =>
     if v1 = true then
      .out (some s1)
      else .next (IntKind.i64.wrap (s1 + 1))
    else .out none
   else .out (some (-1))
def r139 (a0 : List (ByteArray × Int × Int)) (x0 : ByteArray) (x1 : Int) (x2 : Int) : Option (Int) :=
  iterC (b139_1 a0 x0 x1 x2) 1000000000 0
def T139 : TSpec qA31 := mkT qE31 qd31 (fun ⟨a0, x0, x1, x2⟩ => r139 a0 x0 x1 x2) qu4 false
theorem TP139 (c0 c1 c2 c3 : D) : T139.sp.pre [.c c0, .clo 122 [[c1, c2, c3]]] = (eqvArgs (qt31 c0 c1 c2 c3) (qp31 qw31 c0 c1 c2 c3) ∧ (qp31 r139 c0 c1 c2 c3).isSome = true) := (rfl)
theorem TR139 (c0 c1 c2 c3 : D) : T139.sp.res [.c c0, .clo 122 [[c1, c2, c3]]] = qu4 ((qp31 r139 c0 c1 c2 c3).getD default) := (rfl)
theorem TA139 : T139.sp.alias = false := (rfl)
def tb139 : Fns := lk [(122, T122.sp)]
theorem tb139_ok : FnsOk Tryd.prog tb139 := .cons f122 (FnsOk.nil)
theorem tb139_122 : tb139 122 = some T122.sp := rfl
attribute [go_sem] TP139 TR139 TA139
section
attribute [local go_sem] T139 tb139_122 Tryd.results139
theorem v139 : Valid Tryd.prog 139 T139.sp := by
 refine valid_t (fn := Tryd.f139) (n := 19) ty_ok tb139_ok Tryd.func139 rfl Tryd.ntmps139 ?_
 rintro ⟨a0, x0, x1, x2⟩ hx
 obtain ⟨r, hr⟩ := oE (show (r139 a0 x0 x1 x2).isSome = true from hx)
 have hres : T139.res (a0, x0, x1, x2) = qu4 r := by simp only [T139, mkT, hr, oG]
 refine ⟨nL rfl, fun stop S => ?_⟩
 rw [hres] at S
 unfold r139 at hr
 refine S.gx [] ?_
 repeat refine gA ?_
 refine S.sees [0, 1, 7, 8] [] [] ?_ (Stop.iter S (fun s1 => ⟨[(0, .c (.d (encF 3 d_SII a0))), (1, .c (.clo 122 [.sptr [.str x0, .int .i64 x1, .int .i64 x2] 0])), (7, .c (.d (.int .i64 (a0.length : Int)))), (8, .c (.d (.int .i64 s1)))], [], []⟩) (b139_1 a0 x0 x1 x2) (fun q => q = r) hr rfl ?_)
 ·exact lf
 ·intro s1 hr
  unfold b139_1 at hr
  refine S.gx [] ?_
  repeat refine gA ?_
  refine ⟨?_, ?_⟩ <;> intro hc
  ·have hr := ifP1 hr hc
   obtain ⟨hg2, hr⟩ := of_guard1 hr
   obtain ⟨v1, hv1, hr⟩ := of_bind1 hr
   try simp only [hv1, oG, oI, true_and, and_assoc]
   repeat refine gA ?_
   refine ⟨?_, ?_⟩ <;> intro hc
   ·have hr := ifP1 hr hc
    repeat refine gA ?_
    have hr := of_out0 hr
    cases hr
    exact lf
   ·have hr := ifN1 hr hc
    repeat refine gA ?_
    refine S.sees [0, 1, 7, 8] [] [] ?_ hr
    exact lf
  ·have hr := ifN1 hr hc
   repeat refine gA ?_
   have hr := of_out0 hr
   repeat refine gA ?_
   cases hr
   exact lf
theorem f139 : FnFact Tryd.prog 139 T139.sp := ⟨⟨Tryd.f139, Tryd.func139, by decide, rfl⟩, v139⟩
end

/- slices.ContainsFunc[[]martensite/api.SteelEvidence,martensite/api.SteelEvidence] -/
def r121 (a0 : List (ByteArray × Int × Int)) (x0 : ByteArray) (x1 : Int) (x2 : Int) : Option (Bool) :=
  (r139 a0 x0 x1 x2).bind fun v1 =>
   some (decide (v1 ≥ 0))
def T121 : TSpec qA31 := mkT qE31 qd31 (fun ⟨a0, x0, x1, x2⟩ => r121 a0 x0 x1 x2) qu3 false
theorem TP121 (c0 c1 c2 c3 : D) : T121.sp.pre [.c c0, .clo 122 [[c1, c2, c3]]] = (eqvArgs (qt31 c0 c1 c2 c3) (qp31 qw31 c0 c1 c2 c3) ∧ (qp31 r121 c0 c1 c2 c3).isSome = true) := (rfl)
theorem TR121 (c0 c1 c2 c3 : D) : T121.sp.res [.c c0, .clo 122 [[c1, c2, c3]]] = qu3 ((qp31 r121 c0 c1 c2 c3).getD default) := (rfl)
theorem TA121 : T121.sp.alias = false := (rfl)
def tb121 : Fns := lk [(139, T139.sp)]
theorem tb121_ok : FnsOk Tryd.prog tb121 := .cons f139 (FnsOk.nil)
theorem tb121_139 : tb121 139 = some T139.sp := rfl
attribute [go_sem] TP121 TR121 TA121
section
attribute [local go_sem] T121 tb121_139 Tryd.results121
theorem v121 : Valid Tryd.prog 121 T121.sp := by
 refine valid_t (fn := Tryd.f121) (n := 9) ty_ok tb121_ok Tryd.func121 rfl Tryd.ntmps121 ?_
 rintro ⟨a0, x0, x1, x2⟩ hx
 obtain ⟨r, hr⟩ := oE (show (r121 a0 x0 x1 x2).isSome = true from hx)
 have hres : T121.res (a0, x0, x1, x2) = qu3 r := by simp only [T121, mkT, hr, oG]
 refine ⟨nL rfl, fun stop S => ?_⟩
 rw [hres] at S
 unfold r121 at hr
 refine S.gx [] ?_
 obtain ⟨v1, hv1, hr⟩ := of_bind0 hr
 try simp only [hv1, oG, oI, true_and, and_assoc]
 repeat refine gA ?_
 cases hr
 exact lf
theorem f121 : FnFact Tryd.prog 121 T121.sp := ⟨⟨Tryd.f121, Tryd.func121, by decide, rfl⟩, v121⟩
end

/- martensite/steel.isName -/
def b93_1 (a0 : ByteArray) : (Int) → Ctl (Int) (Bool) := fun s1 =>
  if (decide (s1 < (a0.size : Int))) = true then
   if 0 ≤ s1 ∧ s1 < (a0.size : Int) then
    bindC (r66 (IntKind.i64.wrap (byteAt a0 s1.toNat)) 97 122) fun v1 =>
     if (!v1) = true → (r66 (IntKind.i64.wrap (byteAt a0 s1.toNat)) 65 90).isSome = true then
      if (((!(v1 || ((r66 (IntKind.i64.wrap (byteAt a0 s1.toNat)) 65 90).getD default))) && (!(s1 == 0))) && ((IntKind.i64.wrap (byteAt a0 s1.toNat)) != 45)) = true → (r66 (IntKind.i64.wrap (byteAt a0 s1.toNat)) 48 57).isSome = true then
       if ((!(v1 || ((r66 (IntKind.i64.wrap (byteAt a0 s1.toNat)) 65 90).getD default))) && ((s1 == 0) || (((IntKind.i64.wrap (byteAt a0 s1.toNat)) != 45) && (!((r66 (IntKind.i64.wrap (byteAt a0 s1.toNat)) 48 57).getD default))))) = true then
        .out (some false)
        else .next (IntKind.i64.wrap (s1 + 1))
       else .out none
      else .out none
    else .out none
   else .out ((r66 (a0.size : Int) 1 12).bind fun v5 =>
    some v5)
def r93 (a0 : ByteArray) : Option (Bool) :=
  iterC (b93_1 a0) 10000000000000000000 0
def T93 : TSpec qA32 := mkT qE32 qd32 r93 qu3 false
theorem TP93 (c0 : D) : T93.sp.pre [.c c0] = (eqvArgs (qt32 c0) (qp32 qw32 c0) ∧ (qp32 r93 c0).isSome = true) := (rfl)
theorem TR93 (c0 : D) : T93.sp.res [.c c0] = qu3 ((qp32 r93 c0).getD default) := (rfl)
theorem TA93 : T93.sp.alias = false := (rfl)
def tb93 : Fns := lk [(66, T66.sp)]
theorem tb93_ok : FnsOk Tryd.prog tb93 := .cons f66 (FnsOk.nil)
theorem tb93_66 : tb93 66 = some T66.sp := rfl
attribute [go_sem] TP93 TR93 TA93
section
attribute [local go_sem] T93 tb93_66 Tryd.results93
theorem v93 : Valid Tryd.prog 93 T93.sp := by
 refine valid_t (fn := Tryd.f93) (n := 40) ty_ok tb93_ok Tryd.func93 rfl Tryd.ntmps93 ?_
 rintro a0 hx
 obtain ⟨r, hr⟩ := oE (show (r93 a0).isSome = true from hx)
 have hres : T93.res a0 = qu3 r := by simp only [T93, mkT, hr, oG]
 refine ⟨nL rfl, fun stop S => ?_⟩
 rw [hres] at S
 unfold r93 at hr
 refine S.gx [7, 8] ?_
 repeat refine gA ?_
 refine S.sees [0, 7, 8] [] [] ?_ (Stop.iter S (fun s1 => ⟨[(0, .c (.d (.str a0))), (7, .c (.d (.int .i64 (a0.size : Int)))), (8, .c (.d (.int .i64 s1)))], [], []⟩) (b93_1 a0) (fun q => q = r) hr rfl ?_)
 ·exact lf
 ·intro s1 hr
  unfold b93_1 at hr
  refine S.gx [7, 8] ?_
  repeat refine gA ?_
  refine ⟨?_, ?_⟩ <;> intro hc
  ·have hr := ifP1 hr hc
   obtain ⟨hg2, hr⟩ := of_guard1 hr
   obtain ⟨v1, hv1, hr⟩ := of_bind1 hr
   obtain ⟨hg3, hr⟩ := of_guard1 hr
   obtain ⟨hg4, hr⟩ := of_guard1 hr
   try simp only [hv1, oG, oI, true_and, and_assoc]
   repeat (first | refine gG hg3 ?_ | refine gG hg4 ?_ | refine gA ?_ | refine gB ?_)
   refine ⟨?_, ?_⟩ <;> intro hc
   ·have hr := ifP1 hr hc
    repeat refine gA ?_
    refine S.prune [] ?_
    refine S.gx [8] ?_
    repeat refine gA ?_
    have hr := of_out0 hr
    cases hr
    exact lf
   ·have hr := ifN1 hr hc
    repeat refine gA ?_
    refine S.prune [0, 7, 8] ?_
    refine S.gx [7] ?_
    repeat refine gA ?_
    refine S.sees [0, 7, 8] [] [] ?_ hr
    exact lf
  ·have hr := ifN1 hr hc
   repeat refine gA ?_
   have hr := of_out0 hr
   obtain ⟨v5, hv5, hr⟩ := of_bind0 hr
   try simp only [hv5, oG, oI, true_and, and_assoc]
   repeat refine gA ?_
   cases hr
   exact lf
theorem f93 : FnFact Tryd.prog 93 T93.sp := ⟨⟨Tryd.f93, Tryd.func93, by decide, rfl⟩, v93⟩
end

/- martensite/steel.evidenceErr$1 -/
def r120 (a0 : Int) : Option (Bool) :=
  (r66 a0 0 3000).bind fun v1 =>
   some v1
def T120 : TSpec qA3 := mkT qE3 qd3 r120 qu3 false
theorem TP120 (c0 : D) : T120.sp.pre [.c c0] = (eqvArgs (qt3 c0) (qp3 qw3 c0) ∧ (qp3 r120 c0).isSome = true) := (rfl)
theorem TR120 (c0 : D) : T120.sp.res [.c c0] = qu3 ((qp3 r120 c0).getD default) := (rfl)
theorem TA120 : T120.sp.alias = false := (rfl)
def tb120 : Fns := lk [(66, T66.sp)]
theorem tb120_ok : FnsOk Tryd.prog tb120 := .cons f66 (FnsOk.nil)
theorem tb120_66 : tb120 66 = some T66.sp := rfl
attribute [go_sem] TP120 TR120 TA120
section
attribute [local go_sem] T120 tb120_66 Tryd.results120
theorem v120 : Valid Tryd.prog 120 T120.sp := by
 refine valid_t (fn := Tryd.f120) (n := 5) ty_ok tb120_ok Tryd.func120 rfl Tryd.ntmps120 ?_
 rintro a0 hx
 obtain ⟨r, hr⟩ := oE (show (r120 a0).isSome = true from hx)
 have hres : T120.res a0 = qu3 r := by simp only [T120, mkT, hr, oG]
 refine ⟨nL rfl, fun stop S => ?_⟩
 rw [hres] at S
 unfold r120 at hr
 refine S.gx [] ?_
 obtain ⟨v1, hv1, hr⟩ := of_bind0 hr
 try simp only [hv1, oG, oI, true_and, and_assoc]
 repeat refine gA ?_
 cases hr
 exact lf
theorem f120 : FnFact Tryd.prog 120 T120.sp := ⟨⟨Tryd.f120, Tryd.func120, by decide, rfl⟩, v120⟩
end

/- martensite/steel.evidenceErr -/
def b98_1 (a0 : List (ByteArray × Int × Int)) : (Int) → Ctl (Int) (Int) := fun s1 =>
  if (decide (s1 < (a0.length : Int))) = true then
   if 0 ≤ s1 ∧ s1 < (a0.length : Int) then
    if 0 ≤ 0 ∧ 0 ≤ s1 ∧ s1 ≤ (a0.length : Int) then
     bindC (r121 (a0.take s1.toNat) ((a0.getD s1.toNat default).1) ((a0.getD s1.toNat default).2.1) ((a0.getD s1.toNat default).2.2)) fun v4 =>
      bindC (r93 ((a0.getD s1.toNat default).1)) fun v5 =>
       bindC (r68 v5 4) fun v6 =>
        bindC (r68 (!v4) 5) fun v7 =>
         bindC (r120 ((a0.getD s1.toNat default).2.1)) fun v8 =>
          if v8 = true → (r120 ((a0.getD s1.toNat default).2.2)).isSome = true then
           bindC (r68 (v8 && ((r120 ((a0.getD s1.toNat default).2.2)).getD default)) 2) fun v9 =>
            bindC (r68 (decide (((a0.getD s1.toNat default).2.1) ≤ ((a0.getD s1.toNat default).2.2))) 9) fun v10 =>
             bindC (r67 [v6, v7, v9, v10]) fun v11 =>
              if (v11 != 0) = true then
               .out (some v11)
               else .next (IntKind.i64.wrap (s1 + 1))
           else .out none
     else .out none
    else .out none
   else .out (some 0)
def r98 (a0 : List (ByteArray × Int × Int)) : Option (Int) :=
  (r68 (decide ((a0.length : Int) > 0)) 10).bind fun v1 =>
   (r68 (decide ((a0.length : Int) ≤ 12)) 8).bind fun v2 =>
    (r67 [v1, v2]).bind fun v3 =>
     if (v3 != 0) = true then
      some v3
      else iterC (b98_1 a0) 1000000000 0
def T98 : TSpec qA29 := mkT qE29 qd29 r98 qu4 false
theorem TP98 (c0 : D) : T98.sp.pre [.c c0] = (eqvArgs (qt29 c0) (qp29 qw29 c0) ∧ (qp29 r98 c0).isSome = true) := (rfl)
theorem TR98 (c0 : D) : T98.sp.res [.c c0] = qu4 ((qp29 r98 c0).getD default) := (rfl)
theorem TA98 : T98.sp.alias = false := (rfl)
def tb98 : Fns := lk [(67, T67.sp), (68, T68.sp), (93, T93.sp), (120, T120.sp), (121, T121.sp)]
theorem tb98_ok : FnsOk Tryd.prog tb98 := .cons f67 (.cons f68 (.cons f93 (.cons f120 (.cons f121 (FnsOk.nil)))))
theorem tb98_67 : tb98 67 = some T67.sp := rfl
theorem tb98_68 : tb98 68 = some T68.sp := rfl
theorem tb98_93 : tb98 93 = some T93.sp := rfl
theorem tb98_120 : tb98 120 = some T120.sp := rfl
theorem tb98_121 : tb98 121 = some T121.sp := rfl
attribute [go_sem] TP98 TR98 TA98
section
attribute [local go_sem] T98 tb98_67 tb98_68 tb98_93 tb98_120 tb98_121 Tryd.results98
theorem v98 : Valid Tryd.prog 98 T98.sp := by
 refine valid_t (fn := Tryd.f98) (n := 68) ty_ok tb98_ok Tryd.func98 rfl Tryd.ntmps98 ?_
 rintro a0 hx
 obtain ⟨r, hr⟩ := oE (show (r98 a0).isSome = true from hx)
 have hres : T98.res a0 = qu4 r := by simp only [T98, mkT, hr, oG]
 refine ⟨nL rfl, fun stop S => ?_⟩
 rw [hres] at S
 unfold r98 at hr
 refine S.gx [10] ?_
 obtain ⟨v1, hv1, hr⟩ := of_bind0 hr
 obtain ⟨v2, hv2, hr⟩ := of_bind0 hr
 obtain ⟨v3, hv3, hr⟩ := of_bind0 hr
 try simp only [hv1, hv2, hv3, Option.getD_some, Option.isSome_some, true_and, and_assoc]
 repeat refine gA ?_
 refine ⟨?_, ?_⟩ <;> intro hc
 ·have hr := ifP hr hc
  repeat refine gA ?_
  cases hr
  exact lf
 ·have hr := ifN hr hc
  repeat refine gA ?_
  refine S.sees [0, 4, 22, 23, 24] [] [] ?_ (Stop.iter S (fun s1 => ⟨[(0, .c (.d (encF 3 d_SII a0))), (4, .c (.clo 120 [])), (22, .c (.d (encF 3 d_SII a0))), (23, .c (.d (.int .i64 (a0.length : Int)))), (24, .c (.d (.int .i64 s1)))], [], []⟩) (b98_1 a0) (fun q => q = r) hr rfl ?_)
  ·exact lf
  ·intro s1 hr
   unfold b98_1 at hr
   refine S.gx [10] ?_
   repeat refine gA ?_
   refine ⟨?_, ?_⟩ <;> intro hc
   ·have hr := ifP1 hr hc
    obtain ⟨hg12, hr⟩ := of_guard1 hr
    obtain ⟨hg13, hr⟩ := of_guard1 hr
    have hi14 : Nonempty (PLift (s1.toNat ≤ a0.length)) := ⟨⟨by omega⟩⟩
    obtain ⟨v4, hv4, hr⟩ := of_bind1 hr
    obtain ⟨v5, hv5, hr⟩ := of_bind1 hr
    obtain ⟨v6, hv6, hr⟩ := of_bind1 hr
    obtain ⟨v7, hv7, hr⟩ := of_bind1 hr
    obtain ⟨v8, hv8, hr⟩ := of_bind1 hr
    obtain ⟨hg15, hr⟩ := of_guard1 hr
    obtain ⟨v9, hv9, hr⟩ := of_bind1 hr
    obtain ⟨v10, hv10, hr⟩ := of_bind1 hr
    obtain ⟨v11, hv11, hr⟩ := of_bind1 hr
    try simp only [decF_subE0]
    try simp only [decF_subE, dec_IIII, dec_LIIIIE, dec_IIIII, dec_LIIIIIE, dec_III, dec_LIIIE, dec_II, dec_LIIE, dec_I, dec_ILIIEI, dec_LILIIEIE, dec_B, dec_LIE, dec_SII, dec_LSIIE, dec_S, hv4, hv5, hv6, hv7, hv8, hv9, hv10, hv11, Option.getD_some, Option.isSome_some, true_and, and_assoc]
    repeat (first | refine gG hg15 ?_ | refine gA ?_ | refine gB ?_)
    refine S.prune [0, 4, 8, 22, 23, 24] ?_
    refine S.gx [] ?_
    repeat refine gA ?_
    refine ⟨?_, ?_⟩ <;> intro hc
    ·have hr := ifP1 hr hc
     repeat refine gA ?_
     have hr := of_out0 hr
     cases hr
     exact lf
    ·have hr := ifN1 hr hc
     repeat refine gA ?_
     refine S.sees [0, 4, 22, 23, 24] [] [] ?_ hr
     exact lf
   ·have hr := ifN1 hr hc
    repeat refine gA ?_
    have hr := of_out0 hr
    repeat refine gA ?_
    cases hr
    exact lf
theorem f98 : FnFact Tryd.prog 98 T98.sp := ⟨⟨Tryd.f98, Tryd.func98, by decide, rfl⟩, v98⟩
end

/- martensite/steel.AgreedOf -/
def b46_1 (a0 : List (ByteArray × Int × Int)) : (Int × Int × Int) → Ctl (Int × Int × Int) (Int × Int × Int) := fun s1 =>
  if (decide (s1.1 < (((a0.length - 1) : Nat) : Int))) = true then
   if 0 ≤ s1.1 ∧ s1.1 < ((((a0.drop 1).take (a0.length - 1)).length : Nat) : Int) then
    .next (IntKind.i64.wrap (s1.1 + 1), (if s1.2.1 < (((a0.drop 1).take (a0.length - 1)).getD s1.1.toNat default).2.1 then (((a0.drop 1).take (a0.length - 1)).getD s1.1.toNat default).2.1 else s1.2.1), (if (((a0.drop 1).take (a0.length - 1)).getD s1.1.toNat default).2.2 < s1.2.2 then (((a0.drop 1).take (a0.length - 1)).getD s1.1.toNat default).2.2 else s1.2.2))
    else .out none
   else .out (if (decide (s1.2.1 > s1.2.2)) = true then
    some (0, 0, 13)
    else some (s1.2.1, s1.2.2, 0))
def r46 (a0 : List (ByteArray × Int × Int)) : Option (Int × Int × Int) :=
  (r98 a0).bind fun v1 =>
   if (v1 != 0) = true then
    some (0, 0, v1)
    else if 0 ≤ 0 ∧ 0 < (a0.length : Int) then
     if 0 ≤ 1 ∧ 1 ≤ (a0.length : Int) ∧ (a0.length : Int) ≤ (a0.length : Int) then
      iterC (b46_1 a0) 1000000000 (0, (a0.getD 0 default).2.1, (a0.getD 0 default).2.2)
      else none
     else none
def T46 : TSpec qA29 := mkT qE29 qd29 r46 qu14 false
theorem TP46 (c0 : D) : T46.sp.pre [.c c0] = (eqvArgs (qt29 c0) (qp29 qw29 c0) ∧ (qp29 r46 c0).isSome = true) := (rfl)
theorem TR46 (c0 : D) : T46.sp.res [.c c0] = qu14 ((qp29 r46 c0).getD default) := (rfl)
theorem TA46 : T46.sp.alias = false := (rfl)
def tb46 : Fns := lk [(98, T98.sp)]
theorem tb46_ok : FnsOk Tryd.prog tb46 := .cons f98 (FnsOk.nil)
theorem tb46_98 : tb46 98 = some T98.sp := rfl
attribute [go_sem] TP46 TR46 TA46
section
attribute [local go_sem] T46 tb46_98 Tryd.results46
theorem v46 : Valid Tryd.prog 46 T46.sp := by
 refine valid_t (fn := Tryd.f46) (n := 46) ty_ok tb46_ok Tryd.func46 rfl Tryd.ntmps46 ?_
 rintro a0 hx
 obtain ⟨r, hr⟩ := oE (show (r46 a0).isSome = true from hx)
 have hres : T46.res a0 = qu14 r := by simp only [T46, mkT, hr, oG]
 refine ⟨nL rfl, fun stop S => ?_⟩
 rw [hres] at S
 unfold r46 at hr
 refine S.gx [] ?_
 obtain ⟨v1, hv1, hr⟩ := of_bind0 hr
 try simp only [hv1, oG, oI, true_and, and_assoc]
 repeat refine gA ?_
 refine ⟨?_, ?_⟩ <;> intro hc
 ·have hr := ifP hr hc
  repeat refine gA ?_
  cases hr
  exact lf
 ·have hr := ifN hr hc
  obtain ⟨hg3, hr⟩ := of_guard0 hr
  obtain ⟨hg4, hr⟩ := of_guard0 hr
  have hi5 : Nonempty (PLift (a0.length ≤ a0.length)) := ⟨⟨by omega⟩⟩
  try simp only [decF_subE0]
  try simp only [decF_subE, dec_IIII, dec_LIIIIE, dec_IIIII, dec_LIIIIIE, dec_III, dec_LIIIE, dec_II, dec_LIIE, dec_I, dec_ILIIEI, dec_LILIIEIE, dec_B, dec_LIE, dec_SII, dec_LSIIE, dec_S, Option.getD_some, Option.isSome_some, true_and, and_assoc]
  repeat refine gA ?_
  refine S.sees [2, 5, 19, 20, 21] [(2, 2), (5, 5)] [] ?_ (Stop.iter S (fun s1 => ⟨[(2, .c (.ref 2 0)), (5, .c (.ref 5 0)), (19, .c (.d (encF 3 d_SII ((a0.drop 1).take (a0.length - 1))))), (20, .c (.d (.int .i64 (((a0.length - 1) : Nat) : Int)))), (21, .c (.d (.int .i64 s1.1)))], [(2, [.d (.int .i64 0), .d (.int .i64 0)]), (5, [.d (.int .i64 s1.2.1), .d (.int .i64 s1.2.2)])], []⟩) (b46_1 a0) (fun q => q = r) hr rfl ?_)
  ·exact lf
  ·intro s1 hr
   unfold b46_1 at hr
   refine S.gx [] ?_
   repeat refine gA ?_
   refine ⟨?_, ?_⟩ <;> intro hc
   ·have hr := ifP1 hr hc
    obtain ⟨hg2, hr⟩ := of_guard1 hr
    repeat refine gA ?_
    refine S.sees [2, 5, 19, 20, 21] [(2, 2), (5, 5)] [] ?_ hr
    exact lf
   ·have hr := ifN1 hr hc
    repeat refine gA ?_
    have hr := of_out0 hr
    repeat refine gA ?_
    refine ⟨?_, ?_⟩ <;> intro hc
    ·have hr := ifP hr hc
     repeat refine gA ?_
     cases hr
     exact lf
    ·have hr := ifN hr hc
     repeat refine gA ?_
     cases hr
     exact lf
theorem f46 : FnFact Tryd.prog 46 T46.sp := ⟨⟨Tryd.f46, Tryd.func46, by decide, rfl⟩, v46⟩
end

/- martensite/steel.Contradicting -/
def b48_2 (a0 : List (ByteArray × Int × Int)) (s1 : Int) : (Int) → Ctl (Int) (Ctl (Int) (ByteArray × ByteArray × Int)) := fun s2 =>
  if (decide (s2 < (((a0.length - (IntKind.i64.wrap (s1 + 1)).toNat) : Nat) : Int))) = true then
   if 0 ≤ s2 ∧ s2 < ((((a0.drop (IntKind.i64.wrap (s1 + 1)).toNat).take (a0.length - (IntKind.i64.wrap (s1 + 1)).toNat)).length : Nat) : Int) then
    if (decide ((if (a0.getD s1.toNat default).2.1 < (((a0.drop (IntKind.i64.wrap (s1 + 1)).toNat).take (a0.length - (IntKind.i64.wrap (s1 + 1)).toNat)).getD s2.toNat default).2.1 then (((a0.drop (IntKind.i64.wrap (s1 + 1)).toNat).take (a0.length - (IntKind.i64.wrap (s1 + 1)).toNat)).getD s2.toNat default).2.1 else (a0.getD s1.toNat default).2.1) > (if (((a0.drop (IntKind.i64.wrap (s1 + 1)).toNat).take (a0.length - (IntKind.i64.wrap (s1 + 1)).toNat)).getD s2.toNat default).2.2 < (a0.getD s1.toNat default).2.2 then (((a0.drop (IntKind.i64.wrap (s1 + 1)).toNat).take (a0.length - (IntKind.i64.wrap (s1 + 1)).toNat)).getD s2.toNat default).2.2 else (a0.getD s1.toNat default).2.2))) = true then
     .out (some (.out (some ((a0.getD s1.toNat default).1, (((a0.drop (IntKind.i64.wrap (s1 + 1)).toNat).take (a0.length - (IntKind.i64.wrap (s1 + 1)).toNat)).getD s2.toNat default).1, 0))))
     else .next (IntKind.i64.wrap (s2 + 1))
    else .out none
   else .out (some (.next (IntKind.i64.wrap (s1 + 1))))
def b48_1 (a0 : List (ByteArray × Int × Int)) : (Int) → Ctl (Int) (ByteArray × ByteArray × Int) := fun s1 =>
  if (decide (s1 < (a0.length : Int))) = true then
   if 0 ≤ s1 ∧ s1 < (a0.length : Int) then
    if 0 ≤ IntKind.i64.wrap (s1 + 1) ∧ IntKind.i64.wrap (s1 + 1) ≤ (a0.length : Int) ∧ (a0.length : Int) ≤ (a0.length : Int) then
     (iterC (b48_2 a0 s1) 1000000000 0).getD (.out none)
     else .out none
    else .out none
   else .out (some (ByteArray.empty, ByteArray.empty, 12))
def r48 (a0 : List (ByteArray × Int × Int)) : Option (ByteArray × ByteArray × Int) :=
  (r98 a0).bind fun v1 =>
   if (v1 != 0) = true then
    some (ByteArray.empty, ByteArray.empty, v1)
    else iterC (b48_1 a0) 1000000000 0
def T48 : TSpec qA29 := mkT qE29 qd29 r48 qu16 false
theorem TP48 (c0 : D) : T48.sp.pre [.c c0] = (eqvArgs (qt29 c0) (qp29 qw29 c0) ∧ (qp29 r48 c0).isSome = true) := (rfl)
theorem TR48 (c0 : D) : T48.sp.res [.c c0] = qu16 ((qp29 r48 c0).getD default) := (rfl)
theorem TA48 : T48.sp.alias = false := (rfl)
def tb48 : Fns := lk [(98, T98.sp)]
theorem tb48_ok : FnsOk Tryd.prog tb48 := .cons f98 (FnsOk.nil)
theorem tb48_98 : tb48 98 = some T98.sp := rfl
attribute [go_sem] TP48 TR48 TA48
section
attribute [local go_sem] T48 tb48_98 Tryd.results48 Tryd.results99 Tryd.results123
theorem v48 : Valid Tryd.prog 48 T48.sp := by
 refine valid_t (fn := Tryd.f48) (n := 38) ty_ok tb48_ok Tryd.func48 rfl Tryd.ntmps48 ?_
 rintro a0 hx
 obtain ⟨r, hr⟩ := oE (show (r48 a0).isSome = true from hx)
 have hres : T48.res a0 = qu16 r := by simp only [T48, mkT, hr, oG]
 refine ⟨nL rfl, fun stop S => ?_⟩
 rw [hres] at S
 unfold r48 at hr
 refine S.gx [4] ?_
 obtain ⟨v1, hv1, hr⟩ := of_bind0 hr
 try simp only [hv1, oG, oI, true_and, and_assoc]
 repeat refine gA ?_
 refine ⟨?_, ?_⟩ <;> intro hc
 ·have hr := ifP hr hc
  repeat refine gA ?_
  cases hr
  exact lf
 ·have hr := ifN hr hc
  repeat refine gA ?_
  refine S.inl 1 [2, 3] [] Tryd.func99 (by decide) rfl Tryd.ntmps99 (fun cx e => drawn_ok ty_ok tb48_ok cx e) (some 14) rfl rfl rfl rfl (nL rfl) (nL rfl) ?_
  refine gs ?_
  repeat refine gA ?_
  intro stop1 S1
  refine S1.gx [] ?_
  repeat refine gA ?_
  refine S.gx [4] ?_
  repeat refine gA ?_
  refine S.range [2, 3] Tryd.func123 (by decide) rfl Tryd.ntmps123 Tryd.results123 (fun cx e => drawn_ok ty_ok tb48_ok cx e) (fun cx e => drawn_ok ty_ok tb48_ok cx e) (by decide) rfl rfl (nL rfl) ?_
  intro l1 stop1 stopJ1 S1 SJ1 Y1
  refine S1.gx [6] ?_
  repeat refine gA ?_
  refine S1.sees [0, 1, 7, 8, 9] [(1, 1), (2, 2), (3, 3)] [] ?_ (Stop.iter S1 (fun s1 => ⟨[(0, .c (.yld l1)), (1, .c (.ref 1 0)), (7, .c (.d (encF 3 d_SII a0))), (8, .c (.d (.int .i64 (a0.length : Int)))), (9, .c (.d (.int .i64 s1)))], [(1, [.d (encF 3 d_SII a0)]), (2, [.d (.str ByteArray.empty), .d (.str ByteArray.empty)]), (3, [.d (.int .i64 0)])], []⟩) (b48_1 a0) (fun q => q = r) hr rfl ?_)
  ·exact lf
  ·intro s1 hr
   unfold b48_1 at hr
   refine S1.gx [6] ?_
   repeat refine gA ?_
   refine ⟨?_, ?_⟩ <;> intro hc
   ·have hr := ifP1 hr hc
    obtain ⟨hg3, hr⟩ := of_guard1 hr
    obtain ⟨hg4, hr⟩ := of_guard1 hr
    have hi5 : Nonempty (PLift (a0.length ≤ a0.length)) := ⟨⟨by omega⟩⟩
    try simp only [decF_subE0]
    try simp only [decF_subE, dec_IIII, dec_LIIIIE, dec_IIIII, dec_LIIIIIE, dec_III, dec_LIIIE, dec_II, dec_LIIE, dec_I, dec_ILIIEI, dec_LILIIEIE, dec_B, dec_LIE, dec_SII, dec_LSIIE, dec_S, Option.getD_some, Option.isSome_some, true_and, and_assoc]
    repeat refine gA ?_
    obtain ⟨q2, hq, hr⟩ := of_iter1 hr
    refine S1.sees [0, 1, 4, 7, 8, 9, 17, 18, 19] [(1, 1), (4, 4), (2, 2), (3, 3)] [] ?_ (Stop.iter S1 (fun s2 => ⟨[(0, .c (.yld l1)), (1, .c (.ref 1 0)), (4, .c (.ref 4 0)), (7, .c (.d (encF 3 d_SII a0))), (8, .c (.d (.int .i64 (a0.length : Int)))), (9, .c (.d (.int .i64 s1))), (17, .c (.d (encF 3 d_SII ((a0.drop (IntKind.i64.wrap (s1 + 1)).toNat).take (a0.length - (IntKind.i64.wrap (s1 + 1)).toNat))))), (18, .c (.d (.int .i64 (((a0.length - (IntKind.i64.wrap (s1 + 1)).toNat) : Nat) : Int)))), (19, .c (.d (.int .i64 s2)))], [(1, [.d (encF 3 d_SII a0)]), (4, [.d (.str ((a0.getD s1.toNat default).1)), .d (.int .i64 ((a0.getD s1.toNat default).2.1)), .d (.int .i64 ((a0.getD s1.toNat default).2.2))]), (2, [.d (.str ByteArray.empty), .d (.str ByteArray.empty)]), (3, [.d (.int .i64 0)])], []⟩) (b48_2 a0 s1) _ hq hr ?_)
    ·exact lf
    ·intro s2 hr
     unfold b48_2 at hr
     refine S1.gx [6] ?_
     repeat refine gA ?_
     refine ⟨?_, ?_⟩ <;> intro hc
     ·have hr := ifP1 hr hc
      obtain ⟨hg2, hr⟩ := of_guard1 hr
      repeat refine gA ?_
      refine Y1 3 [0, 1, 4, 7, 8, 9, 17, 18, 19] (some 26) rfl rfl rfl rfl (nL rfl) (by rfl) ?_
      refine gs ?_
      repeat refine gA ?_
      intro stopA2 SA2
      refine SA2.gx [] ?_
      repeat refine gA ?_
      intro stop2 S2
      refine S2.gx [4] ?_
      repeat refine gA ?_
      refine ⟨?_, ?_⟩ <;> intro hc
      ·have hr := ifP1 hr hc
       repeat refine gA ?_
       refine (SJ1 .ret).gx [6] ?_
       repeat refine gA ?_
       replace hr := goodC_out hr
       have hr := of_out0 hr
       repeat refine gA ?_
       refine S.gx [4] ?_
       repeat refine gA ?_
       cases hr
       exact lf
      ·have hr := ifN1 hr hc
       repeat refine gA ?_
       refine S1.gx [6] ?_
       repeat refine gA ?_
       refine S1.sees [0, 1, 4, 7, 8, 9, 17, 18, 19] [(1, 1), (4, 4), (2, 2), (3, 3)] [] ?_ hr
       exact lf
     ·have hr := ifN1 hr hc
      repeat refine gA ?_
      replace hr := goodC_out hr
      repeat refine gA ?_
      refine S1.sees [0, 1, 7, 8, 9] [(1, 1), (2, 2), (3, 3)] [] ?_ hr
      exact lf
   ·have hr := ifN1 hr hc
    repeat refine gA ?_
    have hr := of_out0 hr
    repeat refine gA ?_
    refine S.gx [4] ?_
    repeat refine gA ?_
    cases hr
    exact lf
theorem f48 : FnFact Tryd.prog 48 T48.sp := ⟨⟨Tryd.f48, Tryd.func48, by decide, rfl⟩, v48⟩
end

/- martensite/martensitebase.IsName -/
def b95_1 (a0 : ByteArray) : (Int) → Ctl (Int) (Bool) := fun s1 =>
  if (decide (s1 < (a0.size : Int))) = true then
   if 0 ≤ s1 ∧ s1 < (a0.size : Int) then
    if ((!(((decide ((byteAt a0 s1.toNat) ≥ 97)) && (decide ((byteAt a0 s1.toNat) ≤ 122))) || ((decide ((byteAt a0 s1.toNat) ≥ 65)) && (decide ((byteAt a0 s1.toNat) ≤ 90))))) && ((s1 == 0) || (((byteAt a0 s1.toNat) != 45) && ((decide ((byteAt a0 s1.toNat) < 48)) || (decide ((byteAt a0 s1.toNat) > 57)))))) = true then
     .out (some false)
     else .next (IntKind.i64.wrap (s1 + 1))
    else .out none
   else .out (some true)
def r95 (a0 : ByteArray) : Option (Bool) :=
  if ((decide ((a0.size : Int) < 1)) || (decide ((a0.size : Int) > 12))) = true then
   some false
   else iterC (b95_1 a0) 1000000000 0
def T95 : TSpec qA32 := mkT qE32 qd32 r95 qu3 false
theorem TP95 (c0 : D) : T95.sp.pre [.c c0] = (eqvArgs (qt32 c0) (qp32 qw32 c0) ∧ (qp32 r95 c0).isSome = true) := (rfl)
theorem TR95 (c0 : D) : T95.sp.res [.c c0] = qu3 ((qp32 r95 c0).getD default) := (rfl)
theorem TA95 : T95.sp.alias = false := (rfl)
def tb95 : Fns := lk []
theorem tb95_ok : FnsOk Tryd.prog tb95 := FnsOk.nil
attribute [go_sem] TP95 TR95 TA95
section
attribute [local go_sem] T95 Tryd.results95
theorem v95 : Valid Tryd.prog 95 T95.sp := by
 refine valid_t (fn := Tryd.f95) (n := 55) ty_ok tb95_ok Tryd.func95 rfl Tryd.ntmps95 ?_
 rintro a0 hx
 obtain ⟨r, hr⟩ := oE (show (r95 a0).isSome = true from hx)
 have hres : T95.res a0 = qu3 r := by simp only [T95, mkT, hr, oG]
 refine ⟨nL rfl, fun stop S => ?_⟩
 rw [hres] at S
 unfold r95 at hr
 refine S.gx [5, 9] ?_
 repeat (first | refine gA ?_ | refine gB ?_)
 refine ⟨?_, ?_⟩ <;> intro hc
 ·have hr := ifP hr hc
  repeat refine gA ?_
  cases hr
  exact lf
 ·have hr := ifN hr hc
  repeat refine gA ?_
  refine S.sees [0, 3] [] [] ?_ (Stop.iter S (fun s1 => ⟨[(0, .c (.d (.str a0))), (3, .c (.d (.int .i64 s1)))], [], []⟩) (b95_1 a0) (fun q => q = r) hr rfl ?_)
  ·exact lf
  ·intro s1 hr
   unfold b95_1 at hr
   refine S.gx [5, 9] ?_
   repeat refine gA ?_
   refine ⟨?_, ?_⟩ <;> intro hc
   ·have hr := ifP1 hr hc
    obtain ⟨hg1, hr⟩ := of_guard1 hr
    repeat (first | refine gA ?_ | refine gB ?_)
    refine ⟨?_, ?_⟩ <;> intro hc
    ·have hr := ifP1 hr hc
     repeat refine gA ?_
     refine S.prune [] ?_
     refine S.gx [5] ?_
     repeat refine gA ?_
     have hr := of_out0 hr
     cases hr
     exact lf
    ·have hr := ifN1 hr hc
     repeat refine gA ?_
     refine S.prune [0, 3] ?_
     refine S.gx [9] ?_
     repeat refine gA ?_
     refine S.sees [0, 3] [] [] ?_ hr
     exact lf
   ·have hr := ifN1 hr hc
    repeat refine gA ?_
    have hr := of_out0 hr
    repeat refine gA ?_
    cases hr
    exact lf
theorem f95 : FnFact Tryd.prog 95 T95.sp := ⟨⟨Tryd.f95, Tryd.func95, by decide, rfl⟩, v95⟩
end

/- martensite/martensitebase.Within -/
def r29 (a0 : Int) (a1 : Int) (a2 : Int) : Option (Bool) :=
  some ((decide (a1 ≤ a0)) && (decide (a0 ≤ a2)))
def T29 : TSpec qA2 := mkT qE2 qd2 (fun ⟨a0, a1, a2⟩ => r29 a0 a1 a2) qu3 false
theorem TP29 (c0 c1 c2 : D) : T29.sp.pre [.c c0, .c c1, .c c2] = (eqvArgs (qt2 c0 c1 c2) (qp2 qw2 c0 c1 c2) ∧ (qp2 r29 c0 c1 c2).isSome = true) := (rfl)
theorem TR29 (c0 c1 c2 : D) : T29.sp.res [.c c0, .c c1, .c c2] = qu3 ((qp2 r29 c0 c1 c2).getD default) := (rfl)
theorem TA29 : T29.sp.alias = false := (rfl)
def tb29 : Fns := lk []
theorem tb29_ok : FnsOk Tryd.prog tb29 := FnsOk.nil
attribute [go_sem] TP29 TR29 TA29
section
attribute [local go_sem] T29 Tryd.results29
theorem v29 : Valid Tryd.prog 29 T29.sp := by
 refine valid_t (fn := Tryd.f29) (n := 15) ty_ok tb29_ok Tryd.func29 rfl Tryd.ntmps29 ?_
 rintro ⟨a0, a1, a2⟩ hx
 obtain ⟨r, hr⟩ := oE (show (r29 a0 a1 a2).isSome = true from hx)
 have hres : T29.res (a0, a1, a2) = qu3 r := by simp only [T29, mkT, hr, oG]
 refine ⟨nL rfl, fun stop S => ?_⟩
 rw [hres] at S
 unfold r29 at hr
 refine S.gx [] ?_
 repeat (first | refine gA ?_ | refine gB ?_)
 cases hr
 exact lf
theorem f29 : FnFact Tryd.prog 29 T29.sp := ⟨⟨Tryd.f29, Tryd.func29, by decide, rfl⟩, v29⟩
end

/- martensite/martensiteref04.EvidenceErr -/
def b49_2 (a0 : List (ByteArray × Int × Int)) (s1 : Int) : (Int) → Ctl (Int) (Ctl (Int) (Int)) := fun s2 =>
  if (decide (s2 < s1)) = true then
   if 0 ≤ s2 ∧ s2 < (a0.length : Int) then
    if 0 ≤ s1 ∧ s1 < (a0.length : Int) then
     if (decide (((a0.getD s2.toNat default).1) = ((a0.getD s1.toNat default).1))) = true then
      .out (some (.out (some 5)))
      else .next (IntKind.i64.wrap (s2 + 1))
     else .out none
    else .out none
   else .out (some (if 0 ≤ s1 ∧ s1 < (a0.length : Int) then
    bindC (r29 ((a0.getD s1.toNat default).2.1) 0 3000) fun v4 =>
     if (!(!v4)) = true → 0 ≤ s1 ∧ s1 < (a0.length : Int) then
      if (!(!v4)) = true → (r29 ((a0.getD s1.toNat default).2.2) 0 3000).isSome = true then
       if ((!v4) || (!((r29 ((a0.getD s1.toNat default).2.2) 0 3000).getD default))) = true then
        .out (some 2)
        else if 0 ≤ s1 ∧ s1 < (a0.length : Int) then
         if 0 ≤ s1 ∧ s1 < (a0.length : Int) then
          if (decide (((a0.getD s1.toNat default).2.1) > ((a0.getD s1.toNat default).2.2))) = true then
           .out (some 9)
           else .next (IntKind.i64.wrap (s1 + 1))
          else .out none
         else .out none
       else .out none
      else .out none
    else .out none))
def b49_1 (a0 : List (ByteArray × Int × Int)) : (Int) → Ctl (Int) (Int) := fun s1 =>
  if (decide (s1 < (a0.length : Int))) = true then
   if 0 ≤ s1 ∧ s1 < (a0.length : Int) then
    bindC (r95 ((a0.getD s1.toNat default).1)) fun v1 =>
     if (!v1) = true then
      .out (some 4)
      else (iterC (b49_2 a0 s1) 1000000000 0).getD (.out none)
    else .out none
   else .out (some 0)
def r49 (a0 : List (ByteArray × Int × Int)) : Option (Int) :=
  if ((a0.length : Int) == 0) = true then
   some 10
   else if (decide ((a0.length : Int) > 12)) = true then
    some 8
    else iterC (b49_1 a0) 1000000000 0
def T49 : TSpec qA29 := mkT qE29 qd29 r49 qu4 false
theorem TP49 (c0 : D) : T49.sp.pre [.c c0] = (eqvArgs (qt29 c0) (qp29 qw29 c0) ∧ (qp29 r49 c0).isSome = true) := (rfl)
theorem TR49 (c0 : D) : T49.sp.res [.c c0] = qu4 ((qp29 r49 c0).getD default) := (rfl)
theorem TA49 : T49.sp.alias = false := (rfl)
def tb49 : Fns := lk [(29, T29.sp), (95, T95.sp)]
theorem tb49_ok : FnsOk Tryd.prog tb49 := .cons f29 (.cons f95 (FnsOk.nil))
theorem tb49_29 : tb49 29 = some T29.sp := rfl
theorem tb49_95 : tb49 95 = some T95.sp := rfl
attribute [go_sem] TP49 TR49 TA49
section
attribute [local go_sem] T49 tb49_29 tb49_95 Tryd.results49
theorem v49 : Valid Tryd.prog 49 T49.sp := by
 refine valid_t (fn := Tryd.f49) (n := 71) ty_ok tb49_ok Tryd.func49 rfl Tryd.ntmps49 ?_
 rintro a0 hx
 obtain ⟨r, hr⟩ := oE (show (r49 a0).isSome = true from hx)
 have hres : T49.res a0 = qu4 r := by simp only [T49, mkT, hr, oG]
 refine ⟨nL rfl, fun stop S => ?_⟩
 rw [hres] at S
 unfold r49 at hr
 refine S.gx [7, 18] ?_
 repeat refine gA ?_
 refine ⟨?_, ?_⟩ <;> intro hc
 ·have hr := ifP hr hc
  repeat refine gA ?_
  cases hr
  exact lf
 ·have hr := ifN hr hc
  repeat refine gA ?_
  refine ⟨?_, ?_⟩ <;> intro hc
  ·have hr := ifP hr hc
   repeat refine gA ?_
   cases hr
   exact lf
  ·have hr := ifN hr hc
   repeat refine gA ?_
   refine S.sees [0, 3] [] [] ?_ (Stop.iter S (fun s1 => ⟨[(0, .c (.d (encF 3 d_SII a0))), (3, .c (.d (.int .i64 s1)))], [], []⟩) (b49_1 a0) (fun q => q = r) hr rfl ?_)
   ·exact lf
   ·intro s1 hr
    unfold b49_1 at hr
    refine S.gx [7, 18] ?_
    repeat refine gA ?_
    refine ⟨?_, ?_⟩ <;> intro hc
    ·have hr := ifP1 hr hc
     obtain ⟨hg10, hr⟩ := of_guard1 hr
     obtain ⟨v1, hv1, hr⟩ := of_bind1 hr
     try simp only [hv1, oG, oI, true_and, and_assoc]
     repeat refine gA ?_
     refine ⟨?_, ?_⟩ <;> intro hc
     ·have hr := ifP1 hr hc
      repeat refine gA ?_
      have hr := of_out0 hr
      cases hr
      exact lf
     ·have hr := ifN1 hr hc
      repeat refine gA ?_
      obtain ⟨q2, hq, hr⟩ := of_iter1 hr
      refine S.sees [0, 3, 4] [] [] ?_ (Stop.iter S (fun s2 => ⟨[(0, .c (.d (encF 3 d_SII a0))), (3, .c (.d (.int .i64 s1))), (4, .c (.d (.int .i64 s2)))], [], []⟩) (b49_2 a0 s1) _ hq hr ?_)
      ·exact lf
      ·intro s2 hr
       unfold b49_2 at hr
       refine S.gx [7, 18] ?_
       repeat refine gA ?_
       refine ⟨?_, ?_⟩ <;> intro hc
       ·have hr := ifP1 hr hc
        obtain ⟨hg2, hr⟩ := of_guard1 hr
        obtain ⟨hg3, hr⟩ := of_guard1 hr
        repeat refine gA ?_
        refine ⟨?_, ?_⟩ <;> intro hc
        ·have hr := ifP1 hr hc
         repeat refine gA ?_
         replace hr := goodC_out hr
         have hr := of_out0 hr
         cases hr
         exact lf
        ·have hr := ifN1 hr hc
         repeat refine gA ?_
         refine S.sees [0, 3, 4] [] [] ?_ hr
         exact lf
       ·have hr := ifN1 hr hc
        repeat refine gA ?_
        replace hr := goodC_out hr
        obtain ⟨hg7, hr⟩ := of_guard1 hr
        obtain ⟨v4, hv4, hr⟩ := of_bind1 hr
        obtain ⟨hg8, hr⟩ := of_guard1 hr
        obtain ⟨hg9, hr⟩ := of_guard1 hr
        try simp only [hv4, oG, oI, true_and, and_assoc]
        repeat (first | refine gG hg8 ?_ | refine gG hg9 ?_ | refine gA ?_ | refine gB ?_)
        refine ⟨?_, ?_⟩ <;> intro hc
        ·have hr := ifP1 hr hc
         repeat refine gA ?_
         have hr := of_out0 hr
         cases hr
         exact lf
        ·have hr := ifN1 hr hc
         obtain ⟨hg5, hr⟩ := of_guard1 hr
         obtain ⟨hg6, hr⟩ := of_guard1 hr
         repeat refine gA ?_
         refine ⟨?_, ?_⟩ <;> intro hc
         ·have hr := ifP1 hr hc
          repeat refine gA ?_
          refine S.prune [] ?_
          refine S.gx [7] ?_
          repeat refine gA ?_
          have hr := of_out0 hr
          cases hr
          exact lf
         ·have hr := ifN1 hr hc
          repeat refine gA ?_
          refine S.prune [0, 3] ?_
          refine S.gx [18] ?_
          repeat refine gA ?_
          refine S.sees [0, 3] [] [] ?_ hr
          exact lf
    ·have hr := ifN1 hr hc
     repeat refine gA ?_
     have hr := of_out0 hr
     repeat refine gA ?_
     cases hr
     exact lf
theorem f49 : FnFact Tryd.prog 49 T49.sp := ⟨⟨Tryd.f49, Tryd.func49, by decide, rfl⟩, v49⟩
end

/- martensite/martensiteref04.Agreed -/
def b50_1 (a0 : List (ByteArray × Int × Int)) : (Int × Int × Int) → Ctl (Int × Int × Int) (Int × Int × Bool) := fun s1 =>
  if (decide (s1.1 < (a0.length : Int))) = true then
   if 0 ≤ s1.1 ∧ s1.1 < (a0.length : Int) then
    if 0 ≤ s1.1 ∧ s1.1 < (a0.length : Int) then
     .next (IntKind.i64.wrap (s1.1 + 1), (if s1.2.1 < (a0.getD s1.1.toNat default).2.1 then (a0.getD s1.1.toNat default).2.1 else s1.2.1), (if (a0.getD s1.1.toNat default).2.2 < s1.2.2 then (a0.getD s1.1.toNat default).2.2 else s1.2.2))
     else .out none
    else .out none
   else .out (some (s1.2.1, s1.2.2, decide (s1.2.1 ≤ s1.2.2)))
def r50 (a0 : List (ByteArray × Int × Int)) : Option (Int × Int × Bool) :=
  if 0 ≤ 0 ∧ 0 < (a0.length : Int) then
   iterC (b50_1 a0) 1000000000 (0, (a0.getD 0 default).2.1, (a0.getD 0 default).2.2)
   else none
def T50 : TSpec qA29 := mkT qE29 qd29 r50 qu17 false
theorem TP50 (c0 : D) : T50.sp.pre [.c c0] = (eqvArgs (qt29 c0) (qp29 qw29 c0) ∧ (qp29 r50 c0).isSome = true) := (rfl)
theorem TR50 (c0 : D) : T50.sp.res [.c c0] = qu17 ((qp29 r50 c0).getD default) := (rfl)
theorem TA50 : T50.sp.alias = false := (rfl)
def tb50 : Fns := lk []
theorem tb50_ok : FnsOk Tryd.prog tb50 := FnsOk.nil
attribute [go_sem] TP50 TR50 TA50
section
attribute [local go_sem] T50 Tryd.results50
theorem v50 : Valid Tryd.prog 50 T50.sp := by
 refine valid_t (fn := Tryd.f50) (n := 41) ty_ok tb50_ok Tryd.func50 rfl Tryd.ntmps50 ?_
 rintro a0 hx
 obtain ⟨r, hr⟩ := oE (show (r50 a0).isSome = true from hx)
 have hres : T50.res a0 = qu17 r := by simp only [T50, mkT, hr, oG]
 refine ⟨nL rfl, fun stop S => ?_⟩
 rw [hres] at S
 unfold r50 at hr
 refine S.gx [] ?_
 obtain ⟨hg3, hr⟩ := of_guard0 hr
 repeat refine gA ?_
 refine S.sees [0, 2, 4, 5] [(2, 2), (4, 4)] [] ?_ (Stop.iter S (fun s1 => ⟨[(0, .c (.d (encF 3 d_SII a0))), (2, .c (.ref 2 0)), (4, .c (.ref 4 0)), (5, .c (.d (.int .i64 s1.1)))], [(2, [.d (.int .i64 0), .d (.int .i64 0)]), (4, [.d (.int .i64 s1.2.1), .d (.int .i64 s1.2.2)])], []⟩) (b50_1 a0) (fun q => q = r) hr rfl ?_)
 ·exact lf
 ·intro s1 hr
  unfold b50_1 at hr
  refine S.gx [] ?_
  repeat refine gA ?_
  refine ⟨?_, ?_⟩ <;> intro hc
  ·have hr := ifP1 hr hc
   obtain ⟨hg1, hr⟩ := of_guard1 hr
   obtain ⟨hg2, hr⟩ := of_guard1 hr
   repeat refine gA ?_
   refine S.sees [0, 2, 4, 5] [(2, 2), (4, 4)] [] ?_ hr
   exact lf
  ·have hr := ifN1 hr hc
   repeat refine gA ?_
   have hr := of_out0 hr
   repeat refine gA ?_
   cases hr
   exact lf
theorem f50 : FnFact Tryd.prog 50 T50.sp := ⟨⟨Tryd.f50, Tryd.func50, by decide, rfl⟩, v50⟩
end

/- martensite/martensiteref04.Pair -/
def b51_2 (a0 : List (ByteArray × Int × Int)) (s1 : Int) : (Int) → Ctl (Int) (Ctl (Int) (ByteArray × ByteArray × Bool)) := fun s2 =>
  if (decide (s2 < (a0.length : Int))) = true then
   if 0 ≤ s1 ∧ s1 < (a0.length : Int) then
    if 0 ≤ s2 ∧ s2 < (a0.length : Int) then
     if 0 ≤ s1 ∧ s1 < (a0.length : Int) then
      if 0 ≤ s2 ∧ s2 < (a0.length : Int) then
       if (decide ((if (a0.getD s1.toNat default).2.1 < (a0.getD s2.toNat default).2.1 then (a0.getD s2.toNat default).2.1 else (a0.getD s1.toNat default).2.1) > (if (a0.getD s2.toNat default).2.2 < (a0.getD s1.toNat default).2.2 then (a0.getD s2.toNat default).2.2 else (a0.getD s1.toNat default).2.2))) = true then
        if 0 ≤ s1 ∧ s1 < (a0.length : Int) then
         if 0 ≤ s2 ∧ s2 < (a0.length : Int) then
          .out (some (.out (some ((a0.getD s1.toNat default).1, (a0.getD s2.toNat default).1, true))))
          else .out none
         else .out none
        else .next (IntKind.i64.wrap (s2 + 1))
       else .out none
      else .out none
     else .out none
    else .out none
   else .out (some (.next (IntKind.i64.wrap (s1 + 1))))
def b51_1 (a0 : List (ByteArray × Int × Int)) : (Int) → Ctl (Int) (ByteArray × ByteArray × Bool) := fun s1 =>
  if (decide (s1 < (a0.length : Int))) = true then
   (iterC (b51_2 a0 s1) 1000000000 (IntKind.i64.wrap (s1 + 1))).getD (.out none)
   else .out (some (ByteArray.empty, ByteArray.empty, false))
def r51 (a0 : List (ByteArray × Int × Int)) : Option (ByteArray × ByteArray × Bool) :=
  iterC (b51_1 a0) 1000000000 0
def T51 : TSpec qA29 := mkT qE29 qd29 r51 qu18 false
theorem TP51 (c0 : D) : T51.sp.pre [.c c0] = (eqvArgs (qt29 c0) (qp29 qw29 c0) ∧ (qp29 r51 c0).isSome = true) := (rfl)
theorem TR51 (c0 : D) : T51.sp.res [.c c0] = qu18 ((qp29 r51 c0).getD default) := (rfl)
theorem TA51 : T51.sp.alias = false := (rfl)
def tb51 : Fns := lk []
theorem tb51_ok : FnsOk Tryd.prog tb51 := FnsOk.nil
attribute [go_sem] TP51 TR51 TA51
section
attribute [local go_sem] T51 Tryd.results51
theorem v51 : Valid Tryd.prog 51 T51.sp := by
 refine valid_t (fn := Tryd.f51) (n := 59) ty_ok tb51_ok Tryd.func51 rfl Tryd.ntmps51 ?_
 rintro a0 hx
 obtain ⟨r, hr⟩ := oE (show (r51 a0).isSome = true from hx)
 have hres : T51.res a0 = qu18 r := by simp only [T51, mkT, hr, oG]
 refine ⟨nL rfl, fun stop S => ?_⟩
 rw [hres] at S
 unfold r51 at hr
 refine S.gx [6, 8] ?_
 repeat refine gA ?_
 refine S.sees [0, 2, 4] [(2, 2)] [] ?_ (Stop.iter S (fun s1 => ⟨[(0, .c (.d (encF 3 d_SII a0))), (2, .c (.ref 2 0)), (4, .c (.d (.int .i64 s1)))], [(2, [.d (.str ByteArray.empty), .d (.str ByteArray.empty)])], []⟩) (b51_1 a0) (fun q => q = r) hr rfl ?_)
 ·exact lf
 ·intro s1 hr
  unfold b51_1 at hr
  refine S.gx [6, 8] ?_
  repeat refine gA ?_
  refine ⟨?_, ?_⟩ <;> intro hc
  ·have hr := ifP1 hr hc
   repeat refine gA ?_
   obtain ⟨q2, hq, hr⟩ := of_iter1 hr
   refine S.sees [0, 2, 4, 5] [(2, 2)] [] ?_ (Stop.iter S (fun s2 => ⟨[(0, .c (.d (encF 3 d_SII a0))), (2, .c (.ref 2 0)), (4, .c (.d (.int .i64 s1))), (5, .c (.d (.int .i64 s2)))], [(2, [.d (.str ByteArray.empty), .d (.str ByteArray.empty)])], []⟩) (b51_2 a0 s1) _ hq hr ?_)
   ·exact lf
   ·intro s2 hr
    unfold b51_2 at hr
    refine S.gx [6, 8] ?_
    repeat refine gA ?_
    refine ⟨?_, ?_⟩ <;> intro hc
    ·have hr := ifP1 hr hc
     obtain ⟨hg3, hr⟩ := of_guard1 hr
     obtain ⟨hg4, hr⟩ := of_guard1 hr
     obtain ⟨hg5, hr⟩ := of_guard1 hr
     obtain ⟨hg6, hr⟩ := of_guard1 hr
     repeat refine gA ?_
     refine ⟨?_, ?_⟩ <;> intro hc
     ·have hr := ifP1 hr hc
      repeat refine gA ?_
      refine S.prune [0, 2, 4, 5] ?_
      refine S.gx [6] ?_
      obtain ⟨hg1, hr⟩ := of_guard1 hr
      obtain ⟨hg2, hr⟩ := of_guard1 hr
      repeat refine gA ?_
      replace hr := goodC_out hr
      have hr := of_out0 hr
      cases hr
      exact lf
     ·have hr := ifN1 hr hc
      repeat refine gA ?_
      refine S.prune [0, 2, 4, 5] ?_
      refine S.gx [8] ?_
      repeat refine gA ?_
      refine S.sees [0, 2, 4, 5] [(2, 2)] [] ?_ hr
      exact lf
    ·have hr := ifN1 hr hc
     repeat refine gA ?_
     replace hr := goodC_out hr
     repeat refine gA ?_
     refine S.sees [0, 2, 4] [(2, 2)] [] ?_ hr
     exact lf
  ·have hr := ifN1 hr hc
   repeat refine gA ?_
   have hr := of_out0 hr
   repeat refine gA ?_
   cases hr
   exact lf
theorem f51 : FnFact Tryd.prog 51 T51.sp := ⟨⟨Tryd.f51, Tryd.func51, by decide, rfl⟩, v51⟩
end
end Go.Proofs.YtfkmbdfajpdjjaaDoor

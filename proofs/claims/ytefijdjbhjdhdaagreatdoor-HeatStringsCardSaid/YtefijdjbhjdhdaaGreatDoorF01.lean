/- Contracts of functions, written by wip/dec. -/
import Derived.Test.YtefijdjbhjdhdaaGreatDoorF00
set_option linter.unusedVariables false
set_option linter.unusedSimpArgs false
set_option maxHeartbeats 4000000
set_option maxRecDepth 20000
namespace Go.Proofs.YtefijdjbhjdhdaaGreatDoor
open Go.Abs
abbrev qA2 := Bool × Int
def qw2 (a0 : Bool) (a1 : Int) : List Arg := [.c (.bool a0), .c (.int .i64 a1)]
def qE2 : qA2 → List Arg := fun ⟨a0, a1⟩ => qw2 a0 a1
def qd2 (a : List Arg) : qA2 := (dBool (aCell a 0 0), dInt (aCell a 1 0))
def qp2 {β : Type} (f : Bool → Int → β) (c0 c1 : D) : β := f (dBool c0) (dInt c1)
def qt2 (c0 c1 : D) : List Arg := [.c c0, .c c1]
attribute [go_sem] qw2 qp2 qt2 qE2
abbrev qA3 := (List (Int))
def qw3 (a0 : List (Int)) : List Arg := [.c (encF 1 d_I a0)]
def qE3 : qA3 → List Arg := qw3
def qd3 (a : List Arg) : qA3 := decF g_I (aCell a 0 0)
def qp3 {β : Type} (f : (List (Int)) → β) (c0 : D) : β := f (decF g_I c0)
def qt3 (c0 : D) : List Arg := [.c c0]
attribute [go_sem] qw3 qp3 qt3 qE3
abbrev qA6 := (List ((List (Int × Int))))
def qw6 (a0 : List ((List (Int × Int)))) : List Arg := [.c (encF 1 d_LIIE a0)]
def qE6 : qA6 → List Arg := qw6
def qd6 (a : List Arg) : qA6 := decF g_LIIE (aCell a 0 0)
def qp6 {β : Type} (f : (List ((List (Int × Int)))) → β) (c0 : D) : β := f (decF g_LIIE c0)
def qt6 (c0 : D) : List Arg := [.c c0]
attribute [go_sem] qw6 qp6 qt6 qE6
abbrev qA8 := Int × Int × Int × Int
def qw8 (a0 : Int) (a1 : Int) (a2 : Int) (a3 : Int) : List Arg := [.agg [.int .i64 a0, .int .i64 a1], .agg [.int .i64 a2, .int .i64 a3]]
def qE8 : qA8 → List Arg := fun ⟨a0, a1, a2, a3⟩ => qw8 a0 a1 a2 a3
def qd8 (a : List Arg) : qA8 := (dInt (aCell a 0 0), dInt (aCell a 0 1), dInt (aCell a 1 0), dInt (aCell a 1 1))
def qp8 {β : Type} (f : Int → Int → Int → Int → β) (c0 c1 c2 c3 : D) : β := f (dInt c0) (dInt c1) (dInt c2) (dInt c3)
def qt8 (c0 c1 c2 c3 : D) : List Arg := [.agg [c0, c1], .agg [c2, c3]]
attribute [go_sem] qw8 qp8 qt8 qE8
abbrev qA9 := (List (Int × Int)) × Int × Int
def qw9 (a0 : List (Int × Int)) (a1 : Int) (a2 : Int) : List Arg := [.c (encF 2 d_II a0), .agg [.int .i64 a1, .int .i64 a2], .clo 121 []]
def qE9 : qA9 → List Arg := fun ⟨a0, a1, a2⟩ => qw9 a0 a1 a2
def qd9 (a : List Arg) : qA9 := (decF g_II (aCell a 0 0), dInt (aCell a 1 0), dInt (aCell a 1 1))
def qp9 {β : Type} (f : (List (Int × Int)) → Int → Int → β) (c0 c1 c2 : D) : β := f (decF g_II c0) (dInt c1) (dInt c2)
def qt9 (c0 c1 c2 : D) : List Arg := [.c c0, .agg [c1, c2], .clo 121 []]
attribute [go_sem] qw9 qp9 qt9 qE9
abbrev qA10 := (List (Int × Int)) × Int × Int
def qw10 (a0 : List (Int × Int)) (a1 : Int) (a2 : Int) : List Arg := [.c (encF 2 d_II a0), .agg [.int .i64 a1, .int .i64 a2]]
def qE10 : qA10 → List Arg := fun ⟨a0, a1, a2⟩ => qw10 a0 a1 a2
def qd10 (a : List Arg) : qA10 := (decF g_II (aCell a 0 0), dInt (aCell a 1 0), dInt (aCell a 1 1))
def qp10 {β : Type} (f : (List (Int × Int)) → Int → Int → β) (c0 c1 c2 : D) : β := f (decF g_II c0) (dInt c1) (dInt c2)
def qt10 (c0 c1 c2 : D) : List Arg := [.c c0, .agg [c1, c2]]
attribute [go_sem] qw10 qp10 qt10 qE10
def qu4 (v : (List (Int × Int))) : List RV := [.c (.own (encF 2 d_II v))]
attribute [go_sem] qu4
/- martensite/martensitelaw03.Setup -/
def r14 : Option (Int × Int × (List (Int × Int)) × (List ((List (Int × Int))))) :=
  some (3, 500, [(0, 300), (1000, 800), (3000, 1300)], [[(300, 0)], [(300, 0), (1300, 400)]])
def T14 : TSpec qA0 := mkT qE0 qd0 (fun _ => r14) qu0 true
theorem TP14 : T14.sp.pre [] = (eqvArgs (qt0 ) (qp0 qw0 ) ∧ (qp0 r14).isSome = true) := (rfl)
theorem TR14 : T14.sp.res [] = qu0 ((qp0 r14).getD default) := (rfl)
theorem TA14 : T14.sp.alias = true := (rfl)
def tb14 : Fns := lk []
theorem tb14_ok : FnsOk Tryz.prog tb14 := FnsOk.nil
attribute [go_sem] TP14 TR14 TA14
section
attribute [local go_sem] T14 Tryz.results14
theorem v14 : Valid Tryz.prog 14 T14.sp := by
 refine valid_t (fn := Tryz.f14) (n := 12) ty_ok tb14_ok Tryz.func14 rfl Tryz.ntmps14 ?_
 intro _ hx
 obtain ⟨r, hr⟩ := oE (show (r14).isSome = true from hx)
 have hres : T14.res () = qu0 r := by simp only [T14, mkT, hr, oG]
 refine ⟨nL rfl, fun stop S => ?_⟩
 rw [hres] at S
 unfold r14 at hr
 refine S.gx [] ?_
 repeat refine gA ?_
 cases hr
 exact lf
theorem f14 : FnFact Tryz.prog 14 T14.sp := ⟨⟨Tryz.f14, Tryz.func14, by decide, rfl⟩, v14⟩
end

/- martensite/heat.within -/
def r47 (a0 : Int) (a1 : Int) (a2 : Int) : Option (Bool) :=
  some ((decide (a1 ≤ a0)) && (decide (a0 ≤ a2)))
def T47 : TSpec qA1 := mkT qE1 qd1 (fun ⟨a0, a1, a2⟩ => r47 a0 a1 a2) qu1 false
theorem TP47 (c0 c1 c2 : D) : T47.sp.pre [.c c0, .c c1, .c c2] = (eqvArgs (qt1 c0 c1 c2) (qp1 qw1 c0 c1 c2) ∧ (qp1 r47 c0 c1 c2).isSome = true) := (rfl)
theorem TR47 (c0 c1 c2 : D) : T47.sp.res [.c c0, .c c1, .c c2] = qu1 ((qp1 r47 c0 c1 c2).getD default) := (rfl)
theorem TA47 : T47.sp.alias = false := (rfl)
def tb47 : Fns := lk []
theorem tb47_ok : FnsOk Tryz.prog tb47 := FnsOk.nil
attribute [go_sem] TP47 TR47 TA47
section
attribute [local go_sem] T47 Tryz.results47
theorem v47 : Valid Tryz.prog 47 T47.sp := by
 refine valid_t (fn := Tryz.f47) (n := 15) ty_ok tb47_ok Tryz.func47 rfl Tryz.ntmps47 ?_
 rintro ⟨a0, a1, a2⟩ hx
 obtain ⟨r, hr⟩ := oE (show (r47 a0 a1 a2).isSome = true from hx)
 have hres : T47.res (a0, a1, a2) = qu1 r := by simp only [T47, mkT, hr, oG]
 refine ⟨nL rfl, fun stop S => ?_⟩
 rw [hres] at S
 unfold r47 at hr
 refine S.gx [] ?_
 repeat (first | refine gA ?_ | refine gB ?_)
 cases hr
 exact lf
theorem f47 : FnFact Tryz.prog 47 T47.sp := ⟨⟨Tryz.f47, Tryz.func47, by decide, rfl⟩, v47⟩
end

/- martensite/heat.unless -/
def r48 (a0 : Bool) (a1 : Int) : Option (Int) :=
  if a0 = true then
   some 0
   else some a1
def T48 : TSpec qA2 := mkT qE2 qd2 (fun ⟨a0, a1⟩ => r48 a0 a1) qu2 false
theorem TP48 (c0 c1 : D) : T48.sp.pre [.c c0, .c c1] = (eqvArgs (qt2 c0 c1) (qp2 qw2 c0 c1) ∧ (qp2 r48 c0 c1).isSome = true) := (rfl)
theorem TR48 (c0 c1 : D) : T48.sp.res [.c c0, .c c1] = qu2 ((qp2 r48 c0 c1).getD default) := (rfl)
theorem TA48 : T48.sp.alias = false := (rfl)
def tb48 : Fns := lk []
theorem tb48_ok : FnsOk Tryz.prog tb48 := FnsOk.nil
attribute [go_sem] TP48 TR48 TA48
section
attribute [local go_sem] T48 Tryz.results48
theorem v48 : Valid Tryz.prog 48 T48.sp := by
 refine valid_t (fn := Tryz.f48) (n := 7) ty_ok tb48_ok Tryz.func48 rfl Tryz.ntmps48 ?_
 rintro ⟨a0, a1⟩ hx
 obtain ⟨r, hr⟩ := oE (show (r48 a0 a1).isSome = true from hx)
 have hres : T48.res (a0, a1) = qu2 r := by simp only [T48, mkT, hr, oG]
 refine ⟨nL rfl, fun stop S => ?_⟩
 rw [hres] at S
 unfold r48 at hr
 refine S.gx [] ?_
 repeat refine gA ?_
 refine ⟨?_, ?_⟩ <;> intro hc
 ·have hr := ifP hr hc
  repeat refine gA ?_
  cases hr
  exact lf
 ·have hr := ifN hr hc
  repeat refine gA ?_
  cases hr
  exact lf
theorem f48 : FnFact Tryz.prog 48 T48.sp := ⟨⟨Tryz.f48, Tryz.func48, by decide, rfl⟩, v48⟩
end

/- martensite/heat.first -/
def b44_1 (a0 : List (Int)) : (Int) → Ctl (Int) (Int) := fun s1 =>
  if (decide (s1 < (a0.length : Int))) = true then
   if 0 ≤ s1 ∧ s1 < (a0.length : Int) then
    if ((a0.getD s1.toNat default) != 0) = true then
     .out (some (a0.getD s1.toNat default))
     else .next (IntKind.i64.wrap (s1 + 1))
    else .out none
   else .out (some 0)
def r44 (a0 : List (Int)) : Option (Int) :=
  iterC (b44_1 a0) 1000000000 0
def T44 : TSpec qA3 := mkT qE3 qd3 r44 qu2 false
theorem TP44 (c0 : D) : T44.sp.pre [.c c0] = (eqvArgs (qt3 c0) (qp3 qw3 c0) ∧ (qp3 r44 c0).isSome = true) := (rfl)
theorem TR44 (c0 : D) : T44.sp.res [.c c0] = qu2 ((qp3 r44 c0).getD default) := (rfl)
theorem TA44 : T44.sp.alias = false := (rfl)
def tb44 : Fns := lk []
theorem tb44_ok : FnsOk Tryz.prog tb44 := FnsOk.nil
theorem lt44_0 : (IntKind.i64.wrap (0 + 1)) = 1 := by first | rfl | decide | simp
attribute [go_sem] TP44 TR44 TA44
section
attribute [local go_sem] T44 Tryz.results44 lt44_0
theorem v44 : Valid Tryz.prog 44 T44.sp := by
 refine valid_t (fn := Tryz.f44) (n := 15) ty_ok tb44_ok Tryz.func44 rfl Tryz.ntmps44 ?_
 rintro a0 hx
 obtain ⟨r, hr⟩ := oE (show (r44 a0).isSome = true from hx)
 have hres : T44.res a0 = qu2 r := by simp only [T44, mkT, hr, oG]
 refine ⟨nL rfl, fun stop S => ?_⟩
 rw [hres] at S
 unfold r44 at hr
 refine S.gx [] ?_
 repeat refine gA ?_
 refine S.sees [5, 6, 7] [] [] ?_ (Stop.iter S (fun s1 => ⟨[(5, .c (.d (encF 1 d_I a0))), (6, .c (.d (.int .i64 (a0.length : Int)))), (7, .c (.d (.int .i64 s1)))], [], []⟩) (b44_1 a0) (fun q => q = r) hr rfl ?_)
 ·exact lf
 ·intro s1 hr
  unfold b44_1 at hr
  refine S.gx [] ?_
  repeat refine gA ?_
  refine ⟨?_, ?_⟩ <;> intro hc
  ·have hr := ifP1 hr hc
   obtain ⟨hg1, hr⟩ := of_guard1 hr
   repeat refine gA ?_
   refine ⟨?_, ?_⟩ <;> intro hc
   ·have hr := ifP1 hr hc
    repeat refine gA ?_
    have hr := of_out0 hr
    cases hr
    exact lf
   ·have hr := ifN1 hr hc
    repeat refine gA ?_
    refine S.sees [5, 6, 7] [] [] ?_ hr
    exact lf
  ·have hr := ifN1 hr hc
   repeat refine gA ?_
   have hr := of_out0 hr
   repeat refine gA ?_
   cases hr
   exact lf
theorem f44 : FnFact Tryz.prog 44 T44.sp := ⟨⟨Tryz.f44, Tryz.func44, by decide, rfl⟩, v44⟩
end

/- martensite/heat.isKelvin -/
def r81 (a0 : Int) : Option (Bool) :=
  (r47 a0 200 3000).bind fun v1 =>
   some v1
def T81 : TSpec qA4 := mkT qE4 qd4 r81 qu1 false
theorem TP81 (c0 : D) : T81.sp.pre [.c c0] = (eqvArgs (qt4 c0) (qp4 qw4 c0) ∧ (qp4 r81 c0).isSome = true) := (rfl)
theorem TR81 (c0 : D) : T81.sp.res [.c c0] = qu1 ((qp4 r81 c0).getD default) := (rfl)
theorem TA81 : T81.sp.alias = false := (rfl)
def tb81 : Fns := lk [(47, T47.sp)]
theorem tb81_ok : FnsOk Tryz.prog tb81 := .cons f47 (FnsOk.nil)
theorem tb81_47 : tb81 47 = some T47.sp := rfl
attribute [go_sem] TP81 TR81 TA81
section
attribute [local go_sem] T81 tb81_47 Tryz.results81
theorem v81 : Valid Tryz.prog 81 T81.sp := by
 refine valid_t (fn := Tryz.f81) (n := 5) ty_ok tb81_ok Tryz.func81 rfl Tryz.ntmps81 ?_
 rintro a0 hx
 obtain ⟨r, hr⟩ := oE (show (r81 a0).isSome = true from hx)
 have hres : T81.res a0 = qu1 r := by simp only [T81, mkT, hr, oG]
 refine ⟨nL rfl, fun stop S => ?_⟩
 rw [hres] at S
 unfold r81 at hr
 refine S.gx [] ?_
 obtain ⟨v1, hv1, hr⟩ := of_bind0 hr
 try simp only [hv1, oG, oI, true_and, and_assoc]
 repeat refine gA ?_
 cases hr
 exact lf
theorem f81 : FnFact Tryz.prog 81 T81.sp := ⟨⟨Tryz.f81, Tryz.func81, by decide, rfl⟩, v81⟩
end

/- martensite/heat.knotsErr -/
def b60_1 (a0 : List (Int × Int)) : (Int) → Ctl (Int) (Int × Int) := fun s1 =>
  if (decide (s1 < (a0.length : Int))) = true then
   if 0 ≤ s1 ∧ s1 < (a0.length : Int) then
    bindC (r47 ((a0.getD s1.toNat default).1) 0 1000000) fun v4 =>
     if v4 = true → (r81 ((a0.getD s1.toNat default).2)).isSome = true then
      bindC (r48 (v4 && ((r81 ((a0.getD s1.toNat default).2)).getD default)) 2) fun v5 =>
       if ((v5 == 0) && (decide (s1 > 0))) = true then
        if 0 ≤ IntKind.i64.wrap (s1 - 1) ∧ IntKind.i64.wrap (s1 - 1) < (a0.length : Int) then
         if 0 ≤ IntKind.i64.wrap (s1 - 1) ∧ IntKind.i64.wrap (s1 - 1) < (a0.length : Int) then
          bindC (r48 ((decide ((IntKind.i64.wrap (((a0.getD s1.toNat default).1) - ((a0.getD (IntKind.i64.wrap (s1 - 1)).toNat default).1))) > 0)) && (decide ((IntKind.i64.wrap (((a0.getD s1.toNat default).2) - ((a0.getD (IntKind.i64.wrap (s1 - 1)).toNat default).2))) > 0))) 9) fun v6 =>
           bindC (r48 (decide ((IntKind.i64.wrap (((a0.getD s1.toNat default).2) - ((a0.getD (IntKind.i64.wrap (s1 - 1)).toNat default).2))) ≤ (IntKind.i64.wrap (((a0.getD s1.toNat default).1) - ((a0.getD (IntKind.i64.wrap (s1 - 1)).toNat default).1))))) 22) fun v7 =>
            bindC (r44 [v6, v7]) fun v8 =>
             if (v8 != 0) = true then
              .out (some (s1, v8))
              else .next (IntKind.i64.wrap (s1 + 1))
          else .out none
         else .out none
        else if (v5 != 0) = true then
         .out (some (s1, v5))
         else .next (IntKind.i64.wrap (s1 + 1))
      else .out none
    else .out none
   else .out (some (0, 0))
def r60 (a0 : List (Int × Int)) : Option (Int × Int) :=
  (r48 (decide ((a0.length : Int) ≥ 2)) 10).bind fun v1 =>
   (r48 (decide ((a0.length : Int) ≤ 8)) 8).bind fun v2 =>
    (r44 [v1, v2]).bind fun v3 =>
     if (v3 != 0) = true then
      some (0, v3)
      else iterC (b60_1 a0) 1000000000 0
def T60 : TSpec qA5 := mkT qE5 qd5 r60 qu3 false
theorem TP60 (c0 : D) : T60.sp.pre [.c c0] = (eqvArgs (qt5 c0) (qp5 qw5 c0) ∧ (qp5 r60 c0).isSome = true) := (rfl)
theorem TR60 (c0 : D) : T60.sp.res [.c c0] = qu3 ((qp5 r60 c0).getD default) := (rfl)
theorem TA60 : T60.sp.alias = false := (rfl)
def tb60 : Fns := lk [(44, T44.sp), (47, T47.sp), (48, T48.sp), (81, T81.sp)]
theorem tb60_ok : FnsOk Tryz.prog tb60 := .cons f44 (.cons f47 (.cons f48 (.cons f81 (FnsOk.nil))))
theorem tb60_44 : tb60 44 = some T44.sp := rfl
theorem tb60_47 : tb60 47 = some T47.sp := rfl
theorem tb60_48 : tb60 48 = some T48.sp := rfl
theorem tb60_81 : tb60 81 = some T81.sp := rfl
theorem lt60_0 : (decide ((0 : Int) > 0)) = false := by first | rfl | decide | simp
theorem lt60_1 : (IntKind.i64.wrap (0 + 1)) = 1 := by first | rfl | decide | simp
attribute [go_sem] TP60 TR60 TA60
section
attribute [local go_sem] T60 tb60_44 tb60_47 tb60_48 tb60_81 Tryz.results60 lt60_0 lt60_1
theorem v60 : Valid Tryz.prog 60 T60.sp := by
 refine valid_t (fn := Tryz.f60) (n := 81) ty_ok tb60_ok Tryz.func60 rfl Tryz.ntmps60 ?_
 rintro a0 hx
 obtain ⟨r, hr⟩ := oE (show (r60 a0).isSome = true from hx)
 have hres : T60.res a0 = qu3 r := by simp only [T60, mkT, hr, oG]
 refine ⟨nL rfl, fun stop S => ?_⟩
 rw [hres] at S
 unfold r60 at hr
 refine S.gx [10] ?_
 obtain ⟨v1, hv1, hr⟩ := of_bind0 hr
 obtain ⟨v2, hv2, hr⟩ := of_bind0 hr
 obtain ⟨v3, hv3, hr⟩ := of_bind0 hr
 try simp only [hv1, hv2, hv3, Option.getD_some, Option.isSome_some, true_and, and_assoc]
 repeat refine gA ?_
 refine ⟨?_, ?_⟩ <;> intro hc
 ·have hr := ifP hr hc
  repeat refine gA ?_
  cases hr
  exact lf
 ·have hr := ifN hr hc
  repeat refine gA ?_
  refine S.sees [0, 23, 24, 25] [] [] ?_ (Stop.iter S (fun s1 => ⟨[(0, .c (.d (encF 2 d_II a0))), (23, .c (.d (encF 2 d_II a0))), (24, .c (.d (.int .i64 (a0.length : Int)))), (25, .c (.d (.int .i64 s1)))], [], []⟩) (b60_1 a0) (fun q => q = r) hr rfl ?_)
  ·exact lf
  ·intro s1 hr
   unfold b60_1 at hr
   refine S.gx [10] ?_
   repeat refine gA ?_
   refine ⟨?_, ?_⟩ <;> intro hc
   ·have hr := ifP1 hr hc
    obtain ⟨hg11, hr⟩ := of_guard1 hr
    obtain ⟨v4, hv4, hr⟩ := of_bind1 hr
    obtain ⟨hg12, hr⟩ := of_guard1 hr
    obtain ⟨v5, hv5, hr⟩ := of_bind1 hr
    try simp only [hv4, hv5, Option.getD_some, Option.isSome_some, true_and, and_assoc]
    repeat (first | refine gG hg12 ?_ | refine gA ?_ | refine gB ?_)
    refine ⟨?_, ?_⟩ <;> intro hc
    ·have hr := ifP1 hr hc
     obtain ⟨hg9, hr⟩ := of_guard1 hr
     obtain ⟨hg10, hr⟩ := of_guard1 hr
     repeat refine gA ?_
     refine S.prune [0, 5, 8, 9, 23, 24, 25] ?_
     refine S.gx [] ?_
     obtain ⟨v6, hv6, hr⟩ := of_bind1 hr
     obtain ⟨v7, hv7, hr⟩ := of_bind1 hr
     obtain ⟨v8, hv8, hr⟩ := of_bind1 hr
     try simp only [hv6, hv7, hv8, Option.getD_some, Option.isSome_some, true_and, and_assoc]
     repeat (first | refine gA ?_ | refine gB ?_)
     repeat refine gA ?_
     refine ⟨?_, ?_⟩ <;> intro hc
     ·have hr := ifP1 hr hc
      repeat refine gA ?_
      have hr := of_out0 hr
      cases hr
      exact lf
     ·have hr := ifN1 hr hc
      repeat refine gA ?_
      refine S.sees [0, 23, 24, 25] [] [] ?_ hr
      exact lf
    ·have hr := ifN1 hr hc
     repeat refine gA ?_
     refine ⟨?_, ?_⟩ <;> intro hc
     ·have hr := ifP1 hr hc
      repeat refine gA ?_
      have hr := of_out0 hr
      cases hr
      exact lf
     ·have hr := ifN1 hr hc
      repeat refine gA ?_
      refine S.sees [0, 23, 24, 25] [] [] ?_ hr
      exact lf
   ·have hr := ifN1 hr hc
    repeat refine gA ?_
    have hr := of_out0 hr
    repeat refine gA ?_
    cases hr
    exact lf
theorem f60 : FnFact Tryz.prog 60 T60.sp := ⟨⟨Tryz.f60, Tryz.func60, by decide, rfl⟩, v60⟩
end

/- martensite/heat.points -/
def b25_1 (a0 : List (Int × Int)) : ((List (Int × Int)) × Int) → Ctl ((List (Int × Int)) × Int) ((List (Int × Int))) := fun s1 =>
  if (decide (s1.2 < (a0.length : Int))) = true then
   if 0 ≤ s1.2 ∧ s1.2 < (a0.length : Int) then
    if (s1.1.length + 1) * 16 ≤ 140737488355328 ∧ s1.1.length + 1 ≤ 9223372036854775807 then
     .next (s1.1 ++ [((a0.getD s1.2.toNat default).1, (a0.getD s1.2.toNat default).2)], IntKind.i64.wrap (s1.2 + 1))
     else .out none
    else .out none
   else .out (some s1.1)
def r25 (a0 : List (Int × Int)) : Option ((List (Int × Int))) :=
  iterC (b25_1 a0) 1000000000 ([], 0)
def T25 : TSpec qA5 := mkT qE5 qd5 r25 qu4 false
theorem TP25 (c0 : D) : T25.sp.pre [.c c0] = (eqvArgs (qt5 c0) (qp5 qw5 c0) ∧ (qp5 r25 c0).isSome = true) := (rfl)
theorem TR25 (c0 : D) : T25.sp.res [.c c0] = qu4 ((qp5 r25 c0).getD default) := (rfl)
theorem TA25 : T25.sp.alias = false := (rfl)
def tb25 : Fns := lk []
theorem tb25_ok : FnsOk Tryz.prog tb25 := FnsOk.nil
theorem lt25_0 : (IntKind.i64.wrap (0 + 1)) = 1 := by first | rfl | decide | simp
attribute [go_sem] TP25 TR25 TA25
section
attribute [local go_sem] T25 Tryz.results25 lt25_0
theorem v25 : Valid Tryz.prog 25 T25.sp := by
 refine valid_t (fn := Tryz.f25) (n := 22) ty_ok tb25_ok Tryz.func25 rfl Tryz.ntmps25 ?_
 rintro a0 hx
 obtain ⟨r, hr⟩ := oE (show (r25 a0).isSome = true from hx)
 have hres : T25.res a0 = qu4 r := by simp only [T25, mkT, hr, oG]
 refine ⟨nL rfl, fun stop S => ?_⟩
 rw [hres] at S
 unfold r25 at hr
 refine S.gx [] ?_
 repeat refine gA ?_
 refine S.own0 3 1000300 2 rfl rfl ?_
 refine S.sees [3, 6, 7, 8] [] [(1000300, 1000300)] ?_ (Stop.iter S (fun s1 => ⟨[(3, .c (.own 1000300)), (6, .c (.d (encF 2 d_II a0))), (7, .c (.d (.int .i64 (a0.length : Int)))), (8, .c (.d (.int .i64 s1.2)))], [], [(1000300, .owned (encF 2 d_II s1.1))]⟩) (b25_1 a0) (fun q => q = r) hr rfl ?_)
 ·exact lf
 ·intro s1 hr
  unfold b25_1 at hr
  refine S.gx [] ?_
  repeat refine gA ?_
  refine ⟨?_, ?_⟩ <;> intro hc
  ·have hr := ifP1 hr hc
   obtain ⟨hg1, hr⟩ := of_guard1 hr
   obtain ⟨hg2, hr⟩ := of_guard1 hr
   repeat refine gA ?_
   refine S.sees [3, 6, 7, 8] [] [(19, 1000300)] ?_ hr
   exact lf
  ·have hr := ifN1 hr hc
   repeat refine gA ?_
   have hr := of_out0 hr
   repeat refine gA ?_
   cases hr
   exact lf
theorem f25 : FnFact Tryz.prog 25 T25.sp := ⟨⟨Tryz.f25, Tryz.func25, by decide, rfl⟩, v25⟩
end

/- slices.Grow on nil -/
theorem grow119w (w : World) (m : Nat) (h0 : 0 < m) (h1 : m ≤ 1000000) :
    Calls Tryz.prog 119 #[.slice none 0 0, .int .i64 (m : Int)] w fun e w' => ∃ v, e = .returned v ∧ ∃ cap c, v = .slice (some ⟨w.heap.size, 0, none⟩) 0 cap ∧ w' = w.drew.alloc (.cells c 76) ∧ c.size = cap * 2 := by
  have hbytes : Tryz.t76.bytes = 16 := rfl
  have hns : Builtin.nextslicecap m 0 = m := nextslicecap_zero h0
  go_enter Tryz.func119, Tryz.ntmps119
  go_wp2
  all_goals try (exfalso; simp only [hbytes, hns] at *; omega)
  all_goals go_ret
  refine ⟨_, rfl, _, rfl, _, rfl, ?_⟩
  have hcap := grownCap_ge w m 0 76
  simp only [grownCap] at hcap
  simp [Builtin.zeroCells]
  omega
theorem grow119z (w : World) :
    Calls Tryz.prog 119 #[.slice none 0 0, .int .i64 0] w fun e w' => ∃ v, e = .returned v ∧ v = .slice none 0 0 ∧ w' = w := by
  go_enter Tryz.func119, Tryz.ntmps119
  go_wp2
  all_goals go_ret
  exact ⟨_, rfl, rfl, rfl⟩
theorem grow119 (n : Int) (h0 : 0 ≤ n) (h1 : n ≤ 1000000) (w : World) : Calls Tryz.prog 119 #[.slice none 0 0, .int .i64 n] w fun e w' => ∃ v, e = .returned v ∧ GrowPost 2 w w' v := by
  obtain ⟨m, rfl⟩ : ∃ m : Nat, n = m := ⟨n.toNat, by omega⟩
  rcases Nat.eq_zero_or_pos m with rfl | hm
  · refine (grow119z w).mono ?_
    rintro e w' ⟨v, rfl, rfl, rfl⟩
    exact ⟨_, rfl, .refl _, Nat.le_refl _, fun _ _ => rfl, .inl rfl⟩
  · refine (grow119w w m hm (by omega)).mono ?_
    rintro e w' ⟨v, rfl, cap, c, rfl, rfl, hc⟩
    have hh : (w.drew.alloc (.cells c 76)).heap = w.heap.push (.cells c 76 (0, 0)) := rfl
    refine ⟨_, rfl, ⟨rfl, rfl, rfl⟩, by rw [hh, Array.size_push]; exact Nat.le_succ _, fun B hB => ?_, .inr ⟨_, cap, c, _, rfl, Nat.le_refl _, by rw [hh, Array.size_push]; exact Nat.lt_succ_self _, by rw [hh, Array.getElem?_push_size], hc⟩⟩
    rw [hh, Array.getElem?_push, if_neg (Nat.ne_of_lt hB)]

/- slices.Concat[[]martensite/heat.pair,martensite/heat.pair] -/
def b97_2 (a0 : List ((List (Int × Int)))) : (Int × (List (Int × Int))) → Ctl (Int × (List (Int × Int))) ((List (Int × Int))) := fun s2 =>
  if (decide (s2.1 < (a0.length : Int))) = true then
   if 0 ≤ s2.1 ∧ s2.1 < (a0.length : Int) then
    if (s2.2.length + (a0.getD s2.1.toNat default).length) * 16 ≤ 140737488355328 ∧ s2.2.length + (a0.getD s2.1.toNat default).length ≤ 9223372036854775807 then
     .next (IntKind.i64.wrap (s2.1 + 1), s2.2 ++ (a0.getD s2.1.toNat default))
     else .out none
    else .out none
   else .out (some s2.2)
def b97_1 (a0 : List ((List (Int × Int)))) : (Int × Int) → Ctl (Int × Int) ((List (Int × Int))) := fun s1 =>
  if (decide (s1.2 < (a0.length : Int))) = true then
   if 0 ≤ s1.2 ∧ s1.2 < (a0.length : Int) then
    if (decide ((IntKind.i64.wrap (s1.1 + ((a0.getD s1.2.toNat default).length : Int))) < 0)) = true then
     .out none
     else .next (IntKind.i64.wrap (s1.1 + ((a0.getD s1.2.toNat default).length : Int)), IntKind.i64.wrap (s1.2 + 1))
    else .out none
   else .out (if 0 ≤ s1.1 ∧ s1.1 ≤ 1000000 then
    iterC (b97_2 a0) 1000000000 (0, ([] : List (Int × Int)))
    else none)
def r97 (a0 : List ((List (Int × Int)))) : Option ((List (Int × Int))) :=
  iterC (b97_1 a0) 1000000000 (0, 0)
def T97 : TSpec qA6 := mkT qE6 qd6 r97 qu4 false
theorem TP97 (c0 : D) : T97.sp.pre [.c c0] = (eqvArgs (qt6 c0) (qp6 qw6 c0) ∧ (qp6 r97 c0).isSome = true) := (rfl)
theorem TR97 (c0 : D) : T97.sp.res [.c c0] = qu4 ((qp6 r97 c0).getD default) := (rfl)
theorem TA97 : T97.sp.alias = false := (rfl)
def tb97 : Fns := lk []
theorem tb97_ok : FnsOk Tryz.prog tb97 := FnsOk.nil
theorem lt97_0 : (IntKind.i64.wrap (0 + 1)) = 1 := by first | rfl | decide | simp
attribute [go_sem] TP97 TR97 TA97
section
attribute [local go_sem] T97 Tryz.results97 lt97_0
theorem v97 : Valid Tryz.prog 97 T97.sp := by
 refine valid_t (fn := Tryz.f97) (n := 36) ty_ok tb97_ok Tryz.func97 rfl Tryz.ntmps97 ?_
 rintro a0 hx
 obtain ⟨r, hr⟩ := oE (show (r97 a0).isSome = true from hx)
 have hres : T97.res a0 = qu4 r := by simp only [T97, mkT, hr, oG]
 refine ⟨nL rfl, fun stop S => ?_⟩
 rw [hres] at S
 unfold r97 at hr
 refine S.gx [9] ?_
 repeat refine gA ?_
 refine S.sees [0, 3, 9, 10, 11] [] [] ?_ (Stop.iter S (fun s1 => ⟨[(0, .c (.d (encF 1 d_LIIE a0))), (3, .c (.d (.int .i64 s1.1))), (9, .c (.d (encF 1 d_LIIE a0))), (10, .c (.d (.int .i64 (a0.length : Int)))), (11, .c (.d (.int .i64 s1.2)))], [], []⟩) (b97_1 a0) (fun q => q = r) hr rfl ?_)
 ·exact lf
 ·intro s1 hr
  unfold b97_1 at hr
  refine S.gx [9] ?_
  repeat refine gA ?_
  refine ⟨?_, ?_⟩ <;> intro hc
  ·have hr := ifP1 hr hc
   obtain ⟨hg1, hr⟩ := of_guard1 hr
   repeat refine gA ?_
   refine ⟨?_, ?_⟩ <;> intro hc
   ·have hr := ifP1 hr hc
    repeat refine gA ?_
    first | cases hr | exact hr.elim
   ·have hr := ifN1 hr hc
    repeat refine gA ?_
    refine S.sees [0, 3, 9, 10, 11] [] [] ?_ hr
    exact lf
  ·have hr := ifN1 hr hc
   repeat refine gA ?_
   have hr := of_out0 hr
   repeat refine gA ?_
   obtain ⟨hg2, hr⟩ := of_guard0 hr
   repeat refine gA ?_
   refine S.callGrow 1 23 24 3000024 2 rfl rfl rfl rfl (by decide) Tryz.func119 (by decide) rfl (grow119 _ hg2.1 hg2.2) ?_
   refine gs ?_
   repeat refine gA ?_
   refine S.gx [9] ?_
   repeat refine gA ?_
   refine S.sees [6, 25, 26, 27] [] [(3000024, 3000024)] ?_ (Stop.iter S (fun s2 => ⟨[(6, .c (.own 3000024)), (25, .c (.d (encF 1 d_LIIE a0))), (26, .c (.d (.int .i64 (a0.length : Int)))), (27, .c (.d (.int .i64 s2.1)))], [], [(3000024, .owned (encF 2 d_II s2.2))]⟩) (b97_2 a0) (fun q => q = r) hr rfl ?_)
   ·exact lf
   ·intro s2 hr
    unfold b97_2 at hr
    refine S.gx [9] ?_
    repeat refine gA ?_
    refine ⟨?_, ?_⟩ <;> intro hc
    ·have hr := ifP1 hr hc
     obtain ⟨hg3, hr⟩ := of_guard1 hr
     obtain ⟨hg4, hr⟩ := of_guard1 hr
     repeat refine gA ?_
     refine S.sees [6, 25, 26, 27] [] [(33, 3000024)] ?_ hr
     exact lf
    ·have hr := ifN1 hr hc
     repeat refine gA ?_
     have hr := of_out0 hr
     repeat refine gA ?_
     cases hr
     exact lf
theorem f97 : FnFact Tryz.prog 97 T97.sp := ⟨⟨Tryz.f97, Tryz.func97, by decide, rfl⟩, v97⟩
end

/- cmp.isNaN[int] -/
def r136 (a0 : Int) : Option (Bool) :=
  some (a0 != a0)
def T136 : TSpec qA4 := mkT qE4 qd4 r136 qu1 false
theorem TP136 (c0 : D) : T136.sp.pre [.c c0] = (eqvArgs (qt4 c0) (qp4 qw4 c0) ∧ (qp4 r136 c0).isSome = true) := (rfl)
theorem TR136 (c0 : D) : T136.sp.res [.c c0] = qu1 ((qp4 r136 c0).getD default) := (rfl)
theorem TA136 : T136.sp.alias = false := (rfl)
def tb136 : Fns := lk []
theorem tb136_ok : FnsOk Tryz.prog tb136 := FnsOk.nil
attribute [go_sem] TP136 TR136 TA136
section
attribute [local go_sem] T136 Tryz.results136
theorem v136 : Valid Tryz.prog 136 T136.sp := by
 refine valid_t (fn := Tryz.f136) (n := 6) ty_ok tb136_ok Tryz.func136 rfl Tryz.ntmps136 ?_
 rintro a0 hx
 obtain ⟨r, hr⟩ := oE (show (r136 a0).isSome = true from hx)
 have hres : T136.res a0 = qu1 r := by simp only [T136, mkT, hr, oG]
 refine ⟨nL rfl, fun stop S => ?_⟩
 rw [hres] at S
 unfold r136 at hr
 refine S.gx [] ?_
 repeat refine gA ?_
 cases hr
 exact lf
theorem f136 : FnFact Tryz.prog 136 T136.sp := ⟨⟨Tryz.f136, Tryz.func136, by decide, rfl⟩, v136⟩
end

/- cmp.Compare[int] -/
def r122 (a0 : Int) (a1 : Int) : Option (Int) :=
  (r136 a0).bind fun v1 =>
   (r136 a1).bind fun v2 =>
    if v1 = true then
     if v2 = true then
      some 0
      else some (-1)
     else if v2 = true then
      some 1
      else if (decide (a0 < a1)) = true then
       some (-1)
       else if (decide (a0 > a1)) = true then
        some 1
        else some 0
def T122 : TSpec qA7 := mkT qE7 qd7 (fun ⟨a0, a1⟩ => r122 a0 a1) qu2 false
theorem TP122 (c0 c1 : D) : T122.sp.pre [.c c0, .c c1] = (eqvArgs (qt7 c0 c1) (qp7 qw7 c0 c1) ∧ (qp7 r122 c0 c1).isSome = true) := (rfl)
theorem TR122 (c0 c1 : D) : T122.sp.res [.c c0, .c c1] = qu2 ((qp7 r122 c0 c1).getD default) := (rfl)
theorem TA122 : T122.sp.alias = false := (rfl)
def tb122 : Fns := lk [(136, T136.sp)]
theorem tb122_ok : FnsOk Tryz.prog tb122 := .cons f136 (FnsOk.nil)
theorem tb122_136 : tb122 136 = some T136.sp := rfl
attribute [go_sem] TP122 TR122 TA122
section
attribute [local go_sem] T122 tb122_136 Tryz.results122
theorem v122 : Valid Tryz.prog 122 T122.sp := by
 refine valid_t (fn := Tryz.f122) (n := 20) ty_ok tb122_ok Tryz.func122 rfl Tryz.ntmps122 ?_
 rintro ⟨a0, a1⟩ hx
 obtain ⟨r, hr⟩ := oE (show (r122 a0 a1).isSome = true from hx)
 have hres : T122.res (a0, a1) = qu2 r := by simp only [T122, mkT, hr, oG]
 refine ⟨nL rfl, fun stop S => ?_⟩
 rw [hres] at S
 unfold r122 at hr
 refine S.gx [] ?_
 obtain ⟨v1, hv1, hr⟩ := of_bind0 hr
 obtain ⟨v2, hv2, hr⟩ := of_bind0 hr
 try simp only [hv1, hv2, Option.getD_some, Option.isSome_some, true_and, and_assoc]
 repeat refine gA ?_
 refine ⟨?_, ?_⟩ <;> intro hc
 ·have hr := ifP hr hc
  repeat refine gA ?_
  refine ⟨?_, ?_⟩ <;> intro hc
  ·have hr := ifP hr hc
   repeat refine gA ?_
   cases hr
   exact lf
  ·have hr := ifN hr hc
   repeat refine gA ?_
   cases hr
   exact lf
 ·have hr := ifN hr hc
  repeat refine gA ?_
  refine ⟨?_, ?_⟩ <;> intro hc
  ·have hr := ifP hr hc
   repeat refine gA ?_
   cases hr
   exact lf
  ·have hr := ifN hr hc
   repeat refine gA ?_
   refine ⟨?_, ?_⟩ <;> intro hc
   ·have hr := ifP hr hc
    repeat refine gA ?_
    cases hr
    exact lf
   ·have hr := ifN hr hc
    repeat refine gA ?_
    refine ⟨?_, ?_⟩ <;> intro hc
    ·have hr := ifP hr hc
     repeat refine gA ?_
     cases hr
     exact lf
    ·have hr := ifN hr hc
     repeat refine gA ?_
     cases hr
     exact lf
theorem f122 : FnFact Tryz.prog 122 T122.sp := ⟨⟨Tryz.f122, Tryz.func122, by decide, rfl⟩, v122⟩
end

/- martensite/heat.between$1 -/
def r121 (x0 : Int) (x3 : Int) (x1 : Int) (x2 : Int) : Option (Int) :=
  (r122 (IntKind.i64.wrap (x0 * x2)) x1).bind fun v1 =>
   some v1
def T121 : TSpec qA8 := mkT qE8 qd8 (fun ⟨x0, x3, x1, x2⟩ => r121 x0 x3 x1 x2) qu2 false
theorem TP121 (c0 c1 c2 c3 : D) : T121.sp.pre [.agg [c0, c1], .agg [c2, c3]] = (eqvArgs (qt8 c0 c1 c2 c3) (qp8 qw8 c0 c1 c2 c3) ∧ (qp8 r121 c0 c1 c2 c3).isSome = true) := (rfl)
theorem TR121 (c0 c1 c2 c3 : D) : T121.sp.res [.agg [c0, c1], .agg [c2, c3]] = qu2 ((qp8 r121 c0 c1 c2 c3).getD default) := (rfl)
theorem TA121 : T121.sp.alias = false := (rfl)
def tb121 : Fns := lk [(122, T122.sp)]
theorem tb121_ok : FnsOk Tryz.prog tb121 := .cons f122 (FnsOk.nil)
theorem tb121_122 : tb121 122 = some T122.sp := rfl
attribute [go_sem] TP121 TR121 TA121
section
attribute [local go_sem] T121 tb121_122 Tryz.results121
theorem v121 : Valid Tryz.prog 121 T121.sp := by
 refine valid_t (fn := Tryz.f121) (n := 13) ty_ok tb121_ok Tryz.func121 rfl Tryz.ntmps121 ?_
 rintro ⟨x0, x3, x1, x2⟩ hx
 obtain ⟨r, hr⟩ := oE (show (r121 x0 x3 x1 x2).isSome = true from hx)
 have hres : T121.res (x0, x3, x1, x2) = qu2 r := by simp only [T121, mkT, hr, oG]
 refine ⟨nL rfl, fun stop S => ?_⟩
 rw [hres] at S
 unfold r121 at hr
 refine S.gx [] ?_
 obtain ⟨v1, hv1, hr⟩ := of_bind0 hr
 try simp only [hv1, oG, oI, true_and, and_assoc]
 repeat refine gA ?_
 cases hr
 exact lf
theorem f121 : FnFact Tryz.prog 121 T121.sp := ⟨⟨Tryz.f121, Tryz.func121, by decide, rfl⟩, v121⟩
end

/- slices.BinarySearchFunc[[]martensite/heat.pair,martensite/heat.pair,martensite/heat.ratio] -/
def b120_1 (a0 : List (Int × Int)) (x0 : Int) (x1 : Int) : (Int × Int) → Ctl (Int × Int) (Int × Bool) := fun s1 =>
  if (decide (s1.1 < s1.2)) = true then
   if 0 ≤ IntKind.i64.wrap ((IntKind.u64.wrap (IntKind.i64.wrap (s1.1 + s1.2))) / 2 ^ 1) ∧ IntKind.i64.wrap ((IntKind.u64.wrap (IntKind.i64.wrap (s1.1 + s1.2))) / 2 ^ 1) < (a0.length : Int) then
    bindC (r121 ((a0.getD (IntKind.i64.wrap ((IntKind.u64.wrap (IntKind.i64.wrap (s1.1 + s1.2))) / 2 ^ 1)).toNat default).1) ((a0.getD (IntKind.i64.wrap ((IntKind.u64.wrap (IntKind.i64.wrap (s1.1 + s1.2))) / 2 ^ 1)).toNat default).2) x0 x1) fun v1 =>
     if (decide (v1 < 0)) = true then
      .next (IntKind.i64.wrap ((IntKind.i64.wrap ((IntKind.u64.wrap (IntKind.i64.wrap (s1.1 + s1.2))) / 2 ^ 1)) + 1), s1.2)
      else .next (s1.1, IntKind.i64.wrap ((IntKind.u64.wrap (IntKind.i64.wrap (s1.1 + s1.2))) / 2 ^ 1))
    else .out none
   else .out (if (decide (s1.1 < (a0.length : Int))) = true → 0 ≤ s1.1 ∧ s1.1 < (a0.length : Int) then
    if (decide (s1.1 < (a0.length : Int))) = true → (r121 ((a0.getD s1.1.toNat default).1) ((a0.getD s1.1.toNat default).2) x0 x1).isSome = true then
     some (s1.1, (decide (s1.1 < (a0.length : Int))) && (((r121 ((a0.getD s1.1.toNat default).1) ((a0.getD s1.1.toNat default).2) x0 x1).getD default) == 0))
     else none
    else none)
def r120 (a0 : List (Int × Int)) (x0 : Int) (x1 : Int) : Option (Int × Bool) :=
  iterC (b120_1 a0 x0 x1) 1000000000 (0, (a0.length : Int))
def T120 : TSpec qA9 := mkT qE9 qd9 (fun ⟨a0, x0, x1⟩ => r120 a0 x0 x1) qu5 false
theorem TP120 (c0 c1 c2 : D) : T120.sp.pre [.c c0, .agg [c1, c2], .clo 121 []] = (eqvArgs (qt9 c0 c1 c2) (qp9 qw9 c0 c1 c2) ∧ (qp9 r120 c0 c1 c2).isSome = true) := (rfl)
theorem TR120 (c0 c1 c2 : D) : T120.sp.res [.c c0, .agg [c1, c2], .clo 121 []] = qu5 ((qp9 r120 c0 c1 c2).getD default) := (rfl)
theorem TA120 : T120.sp.alias = false := (rfl)
def tb120 : Fns := lk [(121, T121.sp)]
theorem tb120_ok : FnsOk Tryz.prog tb120 := .cons f121 (FnsOk.nil)
theorem tb120_121 : tb120 121 = some T121.sp := rfl
attribute [go_sem] TP120 TR120 TA120
section
attribute [local go_sem] T120 tb120_121 Tryz.results120
theorem v120 : Valid Tryz.prog 120 T120.sp := by
 refine valid_t (fn := Tryz.f120) (n := 49) ty_ok tb120_ok Tryz.func120 rfl Tryz.ntmps120 ?_
 rintro ⟨a0, x0, x1⟩ hx
 obtain ⟨r, hr⟩ := oE (show (r120 a0 x0 x1).isSome = true from hx)
 have hres : T120.res (a0, x0, x1) = qu5 r := by simp only [T120, mkT, hr, oG]
 refine ⟨nL rfl, fun stop S => ?_⟩
 rw [hres] at S
 unfold r120 at hr
 refine S.gx [] ?_
 repeat refine gA ?_
 refine S.sees [0, 2, 4, 8, 9, 10] [(4, 4)] [] ?_ (Stop.iter S (fun s1 => ⟨[(0, .c (.d (encF 2 d_II a0))), (2, .c (.clo 121 [])), (4, .c (.ref 4 0)), (8, .c (.d (.int .i64 (a0.length : Int)))), (9, .c (.d (.int .i64 s1.1))), (10, .c (.d (.int .i64 s1.2)))], [(4, [.d (.int .i64 x0), .d (.int .i64 x1)])], []⟩) (b120_1 a0 x0 x1) (fun q => q = r) hr rfl ?_)
 ·exact lf
 ·intro s1 hr
  unfold b120_1 at hr
  refine S.gx [] ?_
  repeat refine gA ?_
  refine ⟨?_, ?_⟩ <;> intro hc
  ·have hr := ifP1 hr hc
   obtain ⟨hg2, hr⟩ := of_guard1 hr
   obtain ⟨v1, hv1, hr⟩ := of_bind1 hr
   try simp only [hv1, oG, oI, true_and, and_assoc]
   repeat refine gA ?_
   refine ⟨?_, ?_⟩ <;> intro hc
   ·have hr := ifP1 hr hc
    repeat refine gA ?_
    refine S.sees [0, 2, 4, 8, 9, 10] [(4, 4)] [] ?_ hr
    exact lf
   ·have hr := ifN1 hr hc
    repeat refine gA ?_
    refine S.sees [0, 2, 4, 8, 9, 10] [(4, 4)] [] ?_ hr
    exact lf
  ·have hr := ifN1 hr hc
   repeat refine gA ?_
   have hr := of_out0 hr
   obtain ⟨hg3, hr⟩ := of_guard0 hr
   obtain ⟨hg4, hr⟩ := of_guard0 hr
   repeat (first | refine gG hg3 ?_ | refine gG hg4 ?_ | refine gA ?_ | refine gB ?_)
   cases hr
   exact lf
theorem f120 : FnFact Tryz.prog 120 T120.sp := ⟨⟨Tryz.f120, Tryz.func120, by decide, rfl⟩, v120⟩
end

/- martensite/heat.between -/
def r98 (a0 : List (Int × Int)) (x1 : Int) (x0 : Int) : Option (Int × Int) :=
  (r120 a0 x1 x0).bind fun v1 =>
   if ((a0.length : Int) == 0) = true then
    some (0, 1)
    else if (v1.1 == 0) = true then
     if 0 ≤ 0 ∧ 0 < (a0.length : Int) then
      some ((a0.getD 0 default).2, 1)
      else none
     else if (v1.1 == (a0.length : Int)) = true then
      if 0 ≤ IntKind.i64.wrap (v1.1 - 1) ∧ IntKind.i64.wrap (v1.1 - 1) < (a0.length : Int) then
       some ((a0.getD (IntKind.i64.wrap (v1.1 - 1)).toNat default).2, 1)
       else none
      else if 0 ≤ IntKind.i64.wrap (v1.1 - 1) ∧ IntKind.i64.wrap (v1.1 - 1) < (a0.length : Int) then
       if 0 ≤ v1.1 ∧ v1.1 < (a0.length : Int) then
        some (IntKind.i64.wrap ((IntKind.i64.wrap (((a0.getD (IntKind.i64.wrap (v1.1 - 1)).toNat default).2) * (IntKind.i64.wrap ((IntKind.i64.wrap (((a0.getD v1.1.toNat default).1) - ((a0.getD (IntKind.i64.wrap (v1.1 - 1)).toNat default).1))) * x0)))) + (IntKind.i64.wrap ((IntKind.i64.wrap (((a0.getD v1.1.toNat default).2) - ((a0.getD (IntKind.i64.wrap (v1.1 - 1)).toNat default).2))) * (IntKind.i64.wrap (x1 - (IntKind.i64.wrap (((a0.getD (IntKind.i64.wrap (v1.1 - 1)).toNat default).1) * x0))))))), IntKind.i64.wrap ((IntKind.i64.wrap (((a0.getD v1.1.toNat default).1) - ((a0.getD (IntKind.i64.wrap (v1.1 - 1)).toNat default).1))) * x0))
        else none
       else none
def T98 : TSpec qA10 := mkT qE10 qd10 (fun ⟨a0, x1, x0⟩ => r98 a0 x1 x0) qu6 false
theorem TP98 (c0 c1 c2 : D) : T98.sp.pre [.c c0, .agg [c1, c2]] = (eqvArgs (qt10 c0 c1 c2) (qp10 qw10 c0 c1 c2) ∧ (qp10 r98 c0 c1 c2).isSome = true) := (rfl)
theorem TR98 (c0 c1 c2 : D) : T98.sp.res [.c c0, .agg [c1, c2]] = qu6 ((qp10 r98 c0 c1 c2).getD default) := (rfl)
theorem TA98 : T98.sp.alias = false := (rfl)
def tb98 : Fns := lk [(120, T120.sp)]
theorem tb98_ok : FnsOk Tryz.prog tb98 := .cons f120 (FnsOk.nil)
theorem tb98_120 : tb98 120 = some T120.sp := rfl
attribute [go_sem] TP98 TR98 TA98
section
attribute [local go_sem] T98 tb98_120 Tryz.results98
theorem v98 : Valid Tryz.prog 98 T98.sp := by
 refine valid_t (fn := Tryz.f98) (n := 79) ty_ok tb98_ok Tryz.func98 rfl Tryz.ntmps98 ?_
 rintro ⟨a0, x1, x0⟩ hx
 obtain ⟨r, hr⟩ := oE (show (r98 a0 x1 x0).isSome = true from hx)
 have hres : T98.res (a0, x1, x0) = qu6 r := by simp only [T98, mkT, hr, oG]
 refine ⟨nL rfl, fun stop S => ?_⟩
 rw [hres] at S
 unfold r98 at hr
 refine S.gx [9] ?_
 obtain ⟨v1, hv1, hr⟩ := of_bind0 hr
 try simp only [hv1, oG, oI, true_and, and_assoc]
 repeat refine gA ?_
 refine ⟨?_, ?_⟩ <;> intro hc
 ·have hr := ifP hr hc
  repeat refine gA ?_
  cases hr
  exact lf
 ·have hr := ifN hr hc
  repeat refine gA ?_
  refine ⟨?_, ?_⟩ <;> intro hc
  ·have hr := ifP hr hc
   obtain ⟨hg2, hr⟩ := of_guard0 hr
   repeat refine gA ?_
   cases hr
   exact lf
  ·have hr := ifN hr hc
   repeat refine gA ?_
   refine ⟨?_, ?_⟩ <;> intro hc
   ·have hr := ifP hr hc
    obtain ⟨hg3, hr⟩ := of_guard0 hr
    repeat refine gA ?_
    cases hr
    exact lf
   ·have hr := ifN hr hc
    obtain ⟨hg4, hr⟩ := of_guard0 hr
    obtain ⟨hg5, hr⟩ := of_guard0 hr
    repeat refine gA ?_
    refine S.prune [3, 4, 7, 8] ?_
    refine S.gx [] ?_
    repeat refine gA ?_
    cases hr
    exact lf
theorem f98 : FnFact Tryz.prog 98 T98.sp := ⟨⟨Tryz.f98, Tryz.func98, by decide, rfl⟩, v98⟩
end

/- martensite/heat.lawErr -/
def b61_2 (v10 : (List (Int × Int))) (v11 : (List (Int × Int))) (v12 : (List (Int × Int))) : (Int) → Ctl (Int) (Int) := fun s2 =>
  if (decide (s2 < (v12.length : Int))) = true then
   if 0 ≤ s2 ∧ s2 < (v12.length : Int) then
    bindC (r98 v10 ((v12.getD s2.toNat default).1) 1) fun v13 =>
     bindC (r98 v11 ((v12.getD s2.toNat default).1) 1) fun v14 =>
      if (decide ((IntKind.i64.wrap (v13.1 * v14.2)) < (IntKind.i64.wrap (v14.1 * v13.2)))) = true then
       .out (some 13)
       else .next (IntKind.i64.wrap (s2 + 1))
    else .out none
   else .out (some 0)
def b61_1 (a0 : List (Int × Int)) (a1 : List (Int × Int)) : (Int) → Ctl (Int) (Int) := fun s1 =>
  if (decide (s1 < (a0.length : Int))) = true then
   if 0 ≤ s1 ∧ s1 < (a0.length : Int) then
    bindC (r81 ((a0.getD s1.toNat default).1)) fun v1 =>
     if v1 = true → (r47 ((a0.getD s1.toNat default).2) 0 1000).isSome = true then
      bindC (r48 (v1 && ((r47 ((a0.getD s1.toNat default).2) 0 1000).getD default)) 2) fun v2 =>
       if ((v2 == 0) && (decide (s1 > 0))) = true then
        if 0 ≤ IntKind.i64.wrap (s1 - 1) ∧ IntKind.i64.wrap (s1 - 1) < (a0.length : Int) then
         if 0 ≤ IntKind.i64.wrap (s1 - 1) ∧ IntKind.i64.wrap (s1 - 1) < (a0.length : Int) then
          bindC (r48 ((decide ((IntKind.i64.wrap (((a0.getD s1.toNat default).1) - ((a0.getD (IntKind.i64.wrap (s1 - 1)).toNat default).1))) > 0)) && (decide ((IntKind.i64.wrap (((a0.getD s1.toNat default).2) - ((a0.getD (IntKind.i64.wrap (s1 - 1)).toNat default).2))) ≥ 0))) 9) fun v3 =>
           bindC (r48 (decide ((IntKind.i64.wrap (2 * (IntKind.i64.wrap (((a0.getD s1.toNat default).2) - ((a0.getD (IntKind.i64.wrap (s1 - 1)).toNat default).2))))) ≤ (IntKind.i64.wrap (((a0.getD s1.toNat default).1) - ((a0.getD (IntKind.i64.wrap (s1 - 1)).toNat default).1))))) 22) fun v4 =>
            bindC (r44 [v3, v4]) fun v5 =>
             if (v5 != 0) = true then
              .out (some v5)
              else .next (IntKind.i64.wrap (s1 + 1))
          else .out none
         else .out none
        else if (v2 != 0) = true then
         .out (some v2)
         else .next (IntKind.i64.wrap (s1 + 1))
      else .out none
    else .out none
   else .out ((r25 a0).bind fun v10 =>
    (r25 a1).bind fun v11 =>
     (r97 [v10, v11]).bind fun v12 =>
      iterC (b61_2 v10 v11 v12) 1000000000 0)
def r61 (a0 : List (Int × Int)) (a1 : List (Int × Int)) : Option (Int) :=
  if (decide ((a0.length : Int) > 6)) = true then
   some 8
   else iterC (b61_1 a0 a1) 1000000000 0
def T61 : TSpec qA11 := mkT qE11 qd11 (fun ⟨a0, a1⟩ => r61 a0 a1) qu2 false
theorem TP61 (c0 c1 : D) : T61.sp.pre [.c c0, .c c1] = (eqvArgs (qt11 c0 c1) (qp11 qw11 c0 c1) ∧ (qp11 r61 c0 c1).isSome = true) := (rfl)
theorem TR61 (c0 c1 : D) : T61.sp.res [.c c0, .c c1] = qu2 ((qp11 r61 c0 c1).getD default) := (rfl)
theorem TA61 : T61.sp.alias = false := (rfl)
def tb61 : Fns := lk [(25, T25.sp), (44, T44.sp), (47, T47.sp), (48, T48.sp), (81, T81.sp), (97, T97.sp), (98, T98.sp)]
theorem tb61_ok : FnsOk Tryz.prog tb61 := .cons f25 (.cons f44 (.cons f47 (.cons f48 (.cons f81 (.cons f97 (.cons f98 (FnsOk.nil)))))))
theorem tb61_25 : tb61 25 = some T25.sp := rfl
theorem tb61_44 : tb61 44 = some T44.sp := rfl
theorem tb61_47 : tb61 47 = some T47.sp := rfl
theorem tb61_48 : tb61 48 = some T48.sp := rfl
theorem tb61_81 : tb61 81 = some T81.sp := rfl
theorem tb61_97 : tb61 97 = some T97.sp := rfl
theorem tb61_98 : tb61 98 = some T98.sp := rfl
theorem lt61_0 : (decide ((0 : Int) > 0)) = false := by first | rfl | decide | simp
theorem lt61_1 : (IntKind.i64.wrap (0 + 1)) = 1 := by first | rfl | decide | simp
attribute [go_sem] TP61 TR61 TA61
section
attribute [local go_sem] T61 tb61_25 tb61_44 tb61_47 tb61_48 tb61_81 tb61_97 tb61_98 Tryz.results61 lt61_0 lt61_1
theorem v61 : Valid Tryz.prog 61 T61.sp := by
 refine valid_t (fn := Tryz.f61) (n := 112) ty_ok tb61_ok Tryz.func61 rfl Tryz.ntmps61 ?_
 rintro ⟨a0, a1⟩ hx
 obtain ⟨r, hr⟩ := oE (show (r61 a0 a1).isSome = true from hx)
 have hres : T61.res (a0, a1) = qu2 r := by simp only [T61, mkT, hr, oG]
 refine ⟨nL rfl, fun stop S => ?_⟩
 rw [hres] at S
 unfold r61 at hr
 refine S.gx [9, 20] ?_
 repeat refine gA ?_
 refine ⟨?_, ?_⟩ <;> intro hc
 ·have hr := ifP hr hc
  repeat refine gA ?_
  cases hr
  exact lf
 ·have hr := ifN hr hc
  repeat refine gA ?_
  refine S.sees [0, 1, 20, 21, 22] [] [] ?_ (Stop.iter S (fun s1 => ⟨[(0, .c (.d (encF 2 d_II a0))), (1, .c (.d (encF 2 d_II a1))), (20, .c (.d (encF 2 d_II a0))), (21, .c (.d (.int .i64 (a0.length : Int)))), (22, .c (.d (.int .i64 s1)))], [], []⟩) (b61_1 a0 a1) (fun q => q = r) hr rfl ?_)
  ·exact lf
  ·intro s1 hr
   unfold b61_1 at hr
   refine S.gx [9, 20] ?_
   repeat refine gA ?_
   refine ⟨?_, ?_⟩ <;> intro hc
   ·have hr := ifP1 hr hc
    obtain ⟨hg8, hr⟩ := of_guard1 hr
    obtain ⟨v1, hv1, hr⟩ := of_bind1 hr
    obtain ⟨hg9, hr⟩ := of_guard1 hr
    obtain ⟨v2, hv2, hr⟩ := of_bind1 hr
    try simp only [hv1, hv2, Option.getD_some, Option.isSome_some, true_and, and_assoc]
    repeat (first | refine gG hg9 ?_ | refine gA ?_ | refine gB ?_)
    refine ⟨?_, ?_⟩ <;> intro hc
    ·have hr := ifP1 hr hc
     obtain ⟨hg6, hr⟩ := of_guard1 hr
     obtain ⟨hg7, hr⟩ := of_guard1 hr
     repeat refine gA ?_
     refine S.prune [0, 1, 8, 9, 20, 21, 22] ?_
     refine S.gx [20] ?_
     obtain ⟨v3, hv3, hr⟩ := of_bind1 hr
     obtain ⟨v4, hv4, hr⟩ := of_bind1 hr
     obtain ⟨v5, hv5, hr⟩ := of_bind1 hr
     try simp only [hv3, hv4, hv5, Option.getD_some, Option.isSome_some, true_and, and_assoc]
     repeat (first | refine gA ?_ | refine gB ?_)
     repeat refine gA ?_
     refine ⟨?_, ?_⟩ <;> intro hc
     ·have hr := ifP1 hr hc
      repeat refine gA ?_
      have hr := of_out0 hr
      cases hr
      exact lf
     ·have hr := ifN1 hr hc
      repeat refine gA ?_
      refine S.sees [0, 1, 20, 21, 22] [] [] ?_ hr
      exact lf
    ·have hr := ifN1 hr hc
     repeat refine gA ?_
     refine ⟨?_, ?_⟩ <;> intro hc
     ·have hr := ifP1 hr hc
      repeat refine gA ?_
      have hr := of_out0 hr
      cases hr
      exact lf
     ·have hr := ifN1 hr hc
      repeat refine gA ?_
      refine S.sees [0, 1, 20, 21, 22] [] [] ?_ hr
      exact lf
   ·have hr := ifN1 hr hc
    repeat refine gA ?_
    have hr := of_out0 hr
    obtain ⟨v10, hv10, hr⟩ := of_bind0 hr
    obtain ⟨v11, hv11, hr⟩ := of_bind0 hr
    obtain ⟨v12, hv12, hr⟩ := of_bind0 hr
    try simp only [hv10, hv11, hv12, Option.getD_some, Option.isSome_some, true_and, and_assoc]
    repeat refine gA ?_
    refine S.sees [10, 11, 85, 86, 87] [] [(79, 79), (81, 81), (85, 85)] ?_ (Stop.iter S (fun s2 => ⟨[(10, .c (.own 79)), (11, .c (.own 81)), (85, .c (.own 85)), (86, .c (.d (.int .i64 (v12.length : Int)))), (87, .c (.d (.int .i64 s2)))], [], [(79, .shared (encF 2 d_II v10)), (81, .shared (encF 2 d_II v11)), (85, .owned (encF 2 d_II v12))]⟩) (b61_2 v10 v11 v12) (fun q => q = r) hr rfl ?_)
    ·exact lf
    ·intro s2 hr
     unfold b61_2 at hr
     refine S.gx [9, 20] ?_
     repeat refine gA ?_
     refine ⟨?_, ?_⟩ <;> intro hc
     ·have hr := ifP1 hr hc
      obtain ⟨hg15, hr⟩ := of_guard1 hr
      obtain ⟨v13, hv13, hr⟩ := of_bind1 hr
      obtain ⟨v14, hv14, hr⟩ := of_bind1 hr
      try simp only [hv13, hv14, Option.getD_some, Option.isSome_some, true_and, and_assoc]
      repeat refine gA ?_
      refine ⟨?_, ?_⟩ <;> intro hc
      ·have hr := ifP1 hr hc
       repeat refine gA ?_
       refine S.prune [] ?_
       refine S.gx [9] ?_
       repeat refine gA ?_
       have hr := of_out0 hr
       cases hr
       exact lf
      ·have hr := ifN1 hr hc
       repeat refine gA ?_
       refine S.sees [10, 11, 85, 86, 87] [] [(79, 79), (81, 81), (85, 85)] ?_ hr
       exact lf
     ·have hr := ifN1 hr hc
      repeat refine gA ?_
      have hr := of_out0 hr
      repeat refine gA ?_
      cases hr
      exact lf
theorem f61 : FnFact Tryz.prog 61 T61.sp := ⟨⟨Tryz.f61, Tryz.func61, by decide, rfl⟩, v61⟩
end

/- martensite/heat.CheckSetup -/
def b31_1 (x0 : List ((List (Int × Int)))) : ((List (Int × Int)) × Int) → Ctl ((List (Int × Int)) × Int) (Int × Int) := fun s1 =>
  if (decide (s1.2 < (x0.length : Int))) = true then
   if 0 ≤ s1.2 ∧ s1.2 < (x0.length : Int) then
    bindC (r61 (x0.getD s1.2.toNat default) s1.1) fun v3 =>
     if (v3 != 0) = true then
      .out (some (s1.2, v3))
      else .next ((x0.getD s1.2.toNat default), IntKind.i64.wrap (s1.2 + 1))
    else .out none
   else .out (some (0, 0))
def r31 (x2 : Int) (x1 : Int) (x3 : List (Int × Int)) (x0 : List ((List (Int × Int)))) : Option (Int × Int) :=
  (r47 x2 1 12).bind fun v1 =>
   if (!(!v1)) = true → (r47 x1 0 500).isSome = true then
    if ((!v1) || (!((r47 x1 0 500).getD default))) = true then
     some (0, 2)
     else (r60 x3).bind fun v2 =>
      if (v2.2 != 0) = true then
       some (v2.1, v2.2)
       else if (decide ((x0.length : Int) > 4)) = true then
        some (0, 8)
        else iterC (b31_1 x0) 1000000000 ([], 0)
    else none
def T31 : TSpec qA12 := mkT qE12 qd12 (fun ⟨x2, x1, x3, x0⟩ => r31 x2 x1 x3 x0) qu3 false
theorem TP31 (c0 c1 c2 c3 : D) : T31.sp.pre [.agg [c0, c1, c2, c3]] = (eqvArgs (qt12 c0 c1 c2 c3) (qp12 qw12 c0 c1 c2 c3) ∧ (qp12 r31 c0 c1 c2 c3).isSome = true) := (rfl)
theorem TR31 (c0 c1 c2 c3 : D) : T31.sp.res [.agg [c0, c1, c2, c3]] = qu3 ((qp12 r31 c0 c1 c2 c3).getD default) := (rfl)
theorem TA31 : T31.sp.alias = false := (rfl)
def tb31 : Fns := lk [(47, T47.sp), (60, T60.sp), (61, T61.sp)]
theorem tb31_ok : FnsOk Tryz.prog tb31 := .cons f47 (.cons f60 (.cons f61 (FnsOk.nil)))
theorem tb31_47 : tb31 47 = some T47.sp := rfl
theorem tb31_60 : tb31 60 = some T60.sp := rfl
theorem tb31_61 : tb31 61 = some T61.sp := rfl
theorem lt31_0 : (IntKind.i64.wrap (0 + 1)) = 1 := by first | rfl | decide | simp
attribute [go_sem] TP31 TR31 TA31
section
attribute [local go_sem] T31 tb31_47 tb31_60 tb31_61 Tryz.results31 lt31_0
theorem v31 : Valid Tryz.prog 31 T31.sp := by
 refine valid_t (fn := Tryz.f31) (n := 51) ty_ok tb31_ok Tryz.func31 rfl Tryz.ntmps31 ?_
 rintro ⟨x2, x1, x3, x0⟩ hx
 obtain ⟨r, hr⟩ := oE (show (r31 x2 x1 x3 x0).isSome = true from hx)
 have hres : T31.res (x2, x1, x3, x0) = qu3 r := by simp only [T31, mkT, hr, oG]
 refine ⟨nL rfl, fun stop S => ?_⟩
 rw [hres] at S
 unfold r31 at hr
 refine S.gx [] ?_
 obtain ⟨v1, hv1, hr⟩ := of_bind0 hr
 obtain ⟨hg5, hr⟩ := of_guard0 hr
 try simp only [hv1, oG, oI, true_and, and_assoc]
 repeat (first | refine gG hg5 ?_ | refine gA ?_ | refine gB ?_)
 refine ⟨?_, ?_⟩ <;> intro hc
 ·have hr := ifP hr hc
  repeat refine gA ?_
  cases hr
  exact lf
 ·have hr := ifN hr hc
  obtain ⟨v2, hv2, hr⟩ := of_bind0 hr
  try simp only [hv2, oG, oI, true_and, and_assoc]
  repeat refine gA ?_
  refine ⟨?_, ?_⟩ <;> intro hc
  ·have hr := ifP hr hc
   repeat refine gA ?_
   cases hr
   exact lf
  ·have hr := ifN hr hc
   repeat refine gA ?_
   refine ⟨?_, ?_⟩ <;> intro hc
   ·have hr := ifP hr hc
    repeat refine gA ?_
    cases hr
    exact lf
   ·have hr := ifN hr hc
    repeat refine gA ?_
    refine S.sees [6, 35, 36, 37] [] [] ?_ (Stop.iter S (fun s1 => ⟨[(6, .c (.d (encF 2 d_II s1.1))), (35, .c (.d (encF 1 d_LIIE x0))), (36, .c (.d (.int .i64 (x0.length : Int)))), (37, .c (.d (.int .i64 s1.2)))], [], []⟩) (b31_1 x0) (fun q => q = r) hr rfl ?_)
    ·exact lf
    ·intro s1 hr
     unfold b31_1 at hr
     refine S.gx [] ?_
     repeat refine gA ?_
     refine ⟨?_, ?_⟩ <;> intro hc
     ·have hr := ifP1 hr hc
      obtain ⟨hg4, hr⟩ := of_guard1 hr
      obtain ⟨v3, hv3, hr⟩ := of_bind1 hr
      try simp only [hv3, oG, oI, true_and, and_assoc]
      repeat refine gA ?_
      refine ⟨?_, ?_⟩ <;> intro hc
      ·have hr := ifP1 hr hc
       repeat refine gA ?_
       have hr := of_out0 hr
       cases hr
       exact lf
      ·have hr := ifN1 hr hc
       repeat refine gA ?_
       refine S.sees [6, 35, 36, 37] [] [] ?_ hr
       exact lf
     ·have hr := ifN1 hr hc
      repeat refine gA ?_
      have hr := of_out0 hr
      repeat refine gA ?_
      cases hr
      exact lf
theorem f31 : FnFact Tryz.prog 31 T31.sp := ⟨⟨Tryz.f31, Tryz.func31, by decide, rfl⟩, v31⟩
end

/- martensite/heat.pairs -/
def b24_1 (a0 : List (Int × Int)) : ((List (Int × Int)) × Int) → Ctl ((List (Int × Int)) × Int) ((List (Int × Int))) := fun s1 =>
  if (decide (s1.2 < (a0.length : Int))) = true then
   if 0 ≤ s1.2 ∧ s1.2 < (a0.length : Int) then
    if (s1.1.length + 1) * 16 ≤ 140737488355328 ∧ s1.1.length + 1 ≤ 9223372036854775807 then
     .next (s1.1 ++ [((a0.getD s1.2.toNat default).1, (a0.getD s1.2.toNat default).2)], IntKind.i64.wrap (s1.2 + 1))
     else .out none
    else .out none
   else .out (some s1.1)
def r24 (a0 : List (Int × Int)) : Option ((List (Int × Int))) :=
  iterC (b24_1 a0) 1000000000 ([], 0)
def T24 : TSpec qA5 := mkT qE5 qd5 r24 qu4 false
theorem TP24 (c0 : D) : T24.sp.pre [.c c0] = (eqvArgs (qt5 c0) (qp5 qw5 c0) ∧ (qp5 r24 c0).isSome = true) := (rfl)
theorem TR24 (c0 : D) : T24.sp.res [.c c0] = qu4 ((qp5 r24 c0).getD default) := (rfl)
theorem TA24 : T24.sp.alias = false := (rfl)
def tb24 : Fns := lk []
theorem tb24_ok : FnsOk Tryz.prog tb24 := FnsOk.nil
theorem lt24_0 : (IntKind.i64.wrap (0 + 1)) = 1 := by first | rfl | decide | simp
attribute [go_sem] TP24 TR24 TA24
section
attribute [local go_sem] T24 Tryz.results24 lt24_0
theorem v24 : Valid Tryz.prog 24 T24.sp := by
 refine valid_t (fn := Tryz.f24) (n := 22) ty_ok tb24_ok Tryz.func24 rfl Tryz.ntmps24 ?_
 rintro a0 hx
 obtain ⟨r, hr⟩ := oE (show (r24 a0).isSome = true from hx)
 have hres : T24.res a0 = qu4 r := by simp only [T24, mkT, hr, oG]
 refine ⟨nL rfl, fun stop S => ?_⟩
 rw [hres] at S
 unfold r24 at hr
 refine S.gx [] ?_
 repeat refine gA ?_
 refine S.own0 3 1000300 2 rfl rfl ?_
 refine S.sees [3, 6, 7, 8] [] [(1000300, 1000300)] ?_ (Stop.iter S (fun s1 => ⟨[(3, .c (.own 1000300)), (6, .c (.d (encF 2 d_II a0))), (7, .c (.d (.int .i64 (a0.length : Int)))), (8, .c (.d (.int .i64 s1.2)))], [], [(1000300, .owned (encF 2 d_II s1.1))]⟩) (b24_1 a0) (fun q => q = r) hr rfl ?_)
 ·exact lf
 ·intro s1 hr
  unfold b24_1 at hr
  refine S.gx [] ?_
  repeat refine gA ?_
  refine ⟨?_, ?_⟩ <;> intro hc
  ·have hr := ifP1 hr hc
   obtain ⟨hg1, hr⟩ := of_guard1 hr
   obtain ⟨hg2, hr⟩ := of_guard1 hr
   repeat refine gA ?_
   refine S.sees [3, 6, 7, 8] [] [(19, 1000300)] ?_ hr
   exact lf
  ·have hr := ifN1 hr hc
   repeat refine gA ?_
   have hr := of_out0 hr
   repeat refine gA ?_
   cases hr
   exact lf
theorem f24 : FnFact Tryz.prog 24 T24.sp := ⟨⟨Tryz.f24, Tryz.func24, by decide, rfl⟩, v24⟩
end
end Go.Proofs.YtefijdjbhjdhdaaGreatDoor

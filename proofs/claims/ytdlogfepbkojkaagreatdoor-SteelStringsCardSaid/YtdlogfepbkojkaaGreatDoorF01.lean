/- Contracts of functions, written by wip/dec. -/
import Derived.Test.YtdlogfepbkojkaaGreatDoorF00
set_option linter.unusedVariables false
set_option linter.unusedSimpArgs false
set_option maxHeartbeats 4000000
set_option maxRecDepth 20000
namespace Go.Proofs.YtdlogfepbkojkaaGreatDoor
open Go.Abs
abbrev qA5 := Bool × Int
def qw5 (a0 : Bool) (a1 : Int) : List Arg := [.c (.bool a0), .c (.int .i64 a1)]
def qE5 : qA5 → List Arg := fun ⟨a0, a1⟩ => qw5 a0 a1
def qd5 (a : List Arg) : qA5 := (dBool (aCell a 0 0), dInt (aCell a 1 0))
def qp5 {β : Type} (f : Bool → Int → β) (c0 c1 : D) : β := f (dBool c0) (dInt c1)
def qt5 (c0 c1 : D) : List Arg := [.c c0, .c c1]
attribute [go_sem] qw5 qp5 qt5 qE5
abbrev qA7 := Int × (List (Int × Int)) × Int × (Option (Int × (List (Int × Int)) × Int)) × Int
def qw7 (a0 : Int) (a1 : List (Int × Int)) (a2 : Int) (a3 : Option (Int × (List (Int × Int)) × Int)) (a4 : Int) : List Arg := [.agg [.int .i64 a0, encF 2 d_II a1, .int .i64 a2], .c (encP d_ILIIEI a3), .c (.int .i64 a4)]
def qE7 : qA7 → List Arg := fun ⟨a0, a1, a2, a3, a4⟩ => qw7 a0 a1 a2 a3 a4
def qd7 (a : List Arg) : qA7 := (dInt (aCell a 0 0), decF g_II (aCell a 0 1), dInt (aCell a 0 2), decP g_ILIIEI (aCell a 1 0), dInt (aCell a 2 0))
def qp7 {β : Type} (f : Int → (List (Int × Int)) → Int → (Option (Int × (List (Int × Int)) × Int)) → Int → β) (c0 c1 c2 c3 c4 : D) : β := f (dInt c0) (decF g_II c1) (dInt c2) (decP g_ILIIEI c3) (dInt c4)
def qt7 (c0 c1 c2 c3 c4 : D) : List Arg := [.agg [c0, c1, c2], .c c3, .c c4]
attribute [go_sem] qw7 qp7 qt7 qE7
abbrev qA8 := (List (Int))
def qw8 (a0 : List (Int)) : List Arg := [.c (encF 1 d_I a0), .clo 89 []]
def qE8 : qA8 → List Arg := qw8
def qd8 (a : List Arg) : qA8 := decF g_I (aCell a 0 0)
def qp8 {β : Type} (f : (List (Int)) → β) (c0 : D) : β := f (decF g_I c0)
def qt8 (c0 : D) : List Arg := [.c c0, .clo 89 []]
attribute [go_sem] qw8 qp8 qt8 qE8
abbrev qA9 := Int × Int
def qw9 (a0 : Int) (a1 : Int) : List Arg := [.c (.int .i64 a0), .c (.int .i64 a1)]
def qE9 : qA9 → List Arg := fun ⟨a0, a1⟩ => qw9 a0 a1
def qd9 (a : List Arg) : qA9 := (dInt (aCell a 0 0), dInt (aCell a 1 0))
def qp9 {β : Type} (f : Int → Int → β) (c0 c1 : D) : β := f (dInt c0) (dInt c1)
def qt9 (c0 c1 : D) : List Arg := [.c c0, .c c1]
attribute [go_sem] qw9 qp9 qt9 qE9
def qu2 (v : (List (Int × (List (Int × Int)) × Int)) × (List (Int × (List (Int × Int)) × Int)) × (List (Int × (List (Int × Int)) × Int)) × (List (Int × (List (Int × Int)) × Int))) : List RV := [.agg [.own (encF 3 d_ILIIEI v.1), .own (encF 3 d_ILIIEI v.2.1), .own (encF 3 d_ILIIEI v.2.2.1), .own (encF 3 d_ILIIEI v.2.2.2)]]
attribute [go_sem] qu2
/- martensite/martensitelaw04.Rules -/
def r19 : Option ((List (Int × Int × Int × Int)) × (List (Int × Int × Int × Int × Int)) × (List (Int × Int × Int)) × (List (Int × Int)) × Int × Int × Int × Int) :=
  some ([(1000, 200000, 400000, 10), (1200, 500000, 600000, 30)], [(600, 0, 0, 0, 0), (800, 200000, 500000, 50000, 100000)], [(300, 900000, 950000), (500, 100000, 300000)], [(400, 5)], 200, 250, 400, 800)
def T19 : TSpec qA0 := mkT qE0 qd0 (fun _ => r19) qu0 false
theorem TP19 : T19.sp.pre [] = (eqvArgs (qt0 ) (qp0 qw0 ) ∧ (qp0 r19).isSome = true) := (rfl)
theorem TR19 : T19.sp.res [] = qu0 ((qp0 r19).getD default) := (rfl)
theorem TA19 : T19.sp.alias = false := (rfl)
def tb19 : Fns := lk []
theorem tb19_ok : FnsOk Tryz.prog tb19 := FnsOk.nil
attribute [go_sem] TP19 TR19 TA19
section
attribute [local go_sem] T19 Tryz.results19
theorem v19 : Valid Tryz.prog 19 T19.sp := by
 refine valid_t (fn := Tryz.f19) (n := 20) ty_ok tb19_ok Tryz.func19 rfl Tryz.ntmps19 ?_
 intro _ hx
 obtain ⟨r, hr⟩ := oE (show (r19).isSome = true from hx)
 have hres : T19.res () = qu0 r := by simp only [T19, mkT, hr, oG]
 refine ⟨nL rfl, fun stop S => ?_⟩
 rw [hres] at S
 unfold r19 at hr
 refine S.gx [] ?_
 repeat refine gA ?_
 cases hr
 exact lf
theorem f19 : FnFact Tryz.prog 19 T19.sp := ⟨⟨Tryz.f19, Tryz.func19, by decide, rfl⟩, v19⟩
end

/- martensite/martensitelaw04.Parent -/
def r20 : Option (Int × Int × Int × Int × Int × Int × Int) :=
  some (1000000, 0, 0, 0, 0, 0, 0)
def T20 : TSpec qA0 := mkT qE0 qd0 (fun _ => r20) qu1 false
theorem TP20 : T20.sp.pre [] = (eqvArgs (qt0 ) (qp0 qw0 ) ∧ (qp0 r20).isSome = true) := (rfl)
theorem TR20 : T20.sp.res [] = qu1 ((qp0 r20).getD default) := (rfl)
theorem TA20 : T20.sp.alias = false := (rfl)
def tb20 : Fns := lk []
theorem tb20_ok : FnsOk Tryz.prog tb20 := FnsOk.nil
attribute [go_sem] TP20 TR20 TA20
section
attribute [local go_sem] T20 Tryz.results20
theorem v20 : Valid Tryz.prog 20 T20.sp := by
 refine valid_t (fn := Tryz.f20) (n := 2) ty_ok tb20_ok Tryz.func20 rfl Tryz.ntmps20 ?_
 intro _ hx
 obtain ⟨r, hr⟩ := oE (show (r20).isSome = true from hx)
 have hres : T20.res () = qu1 r := by simp only [T20, mkT, hr, oG]
 refine ⟨nL rfl, fun stop S => ?_⟩
 rw [hres] at S
 unfold r20 at hr
 refine S.gx [] ?_
 repeat refine gA ?_
 cases hr
 exact lf
theorem f20 : FnFact Tryz.prog 20 T20.sp := ⟨⟨Tryz.f20, Tryz.func20, by decide, rfl⟩, v20⟩
end

/- martensite/steel.kinds -/
def b87_4 (x0 : List (Int × Int)) (s1 : Int × (List (Int × (List (Int × Int)) × Int))) (s2 : Int × (List (Int × (List (Int × Int)) × Int))) (s3 : Int × (List (Int × (List (Int × Int)) × Int))) : (Int × (List (Int × (List (Int × Int)) × Int))) → Ctl (Int × (List (Int × (List (Int × Int)) × Int))) ((List (Int × (List (Int × Int)) × Int)) × (List (Int × (List (Int × Int)) × Int)) × (List (Int × (List (Int × Int)) × Int)) × (List (Int × (List (Int × Int)) × Int))) := fun s4 =>
  if (decide (s4.1 < (x0.length : Int))) = true then
   if 0 ≤ s4.1 ∧ s4.1 < (x0.length : Int) then
    if (s4.2.length + 1) * 40 ≤ 140737488355328 ∧ s4.2.length + 1 ≤ 9223372036854775807 then
     .next (IntKind.i64.wrap (s4.1 + 1), s4.2 ++ [((x0.getD s4.1.toNat default).1, [], (x0.getD s4.1.toNat default).2)])
     else .out none
    else .out none
   else .out (some (s1.2, s2.2, s3.2, s4.2))
def b87_3 (x1 : List (Int × Int × Int)) (x0 : List (Int × Int)) (s1 : Int × (List (Int × (List (Int × Int)) × Int))) (s2 : Int × (List (Int × (List (Int × Int)) × Int))) : (Int × (List (Int × (List (Int × Int)) × Int))) → Ctl (Int × (List (Int × (List (Int × Int)) × Int))) ((List (Int × (List (Int × Int)) × Int)) × (List (Int × (List (Int × Int)) × Int)) × (List (Int × (List (Int × Int)) × Int)) × (List (Int × (List (Int × Int)) × Int))) := fun s3 =>
  if (decide (s3.1 < (x1.length : Int))) = true then
   if 0 ≤ s3.1 ∧ s3.1 < (x1.length : Int) then
    if (s3.2.length + 1) * 40 ≤ 140737488355328 ∧ s3.2.length + 1 ≤ 9223372036854775807 then
     .next (IntKind.i64.wrap (s3.1 + 1), s3.2 ++ [((x1.getD s3.1.toNat default).1, [((x1.getD s3.1.toNat default).2.1, (x1.getD s3.1.toNat default).2.2)], 0)])
     else .out none
    else .out none
   else .out (iterC (b87_4 x0 s1 s2 s3) 1000000000 (0, []))
def b87_2 (x2 : List (Int × Int × Int × Int × Int)) (x1 : List (Int × Int × Int)) (x0 : List (Int × Int)) (s1 : Int × (List (Int × (List (Int × Int)) × Int))) : (Int × (List (Int × (List (Int × Int)) × Int))) → Ctl (Int × (List (Int × (List (Int × Int)) × Int))) ((List (Int × (List (Int × Int)) × Int)) × (List (Int × (List (Int × Int)) × Int)) × (List (Int × (List (Int × Int)) × Int)) × (List (Int × (List (Int × Int)) × Int))) := fun s2 =>
  if (decide (s2.1 < (x2.length : Int))) = true then
   if 0 ≤ s2.1 ∧ s2.1 < (x2.length : Int) then
    if (s2.2.length + 1) * 40 ≤ 140737488355328 ∧ s2.2.length + 1 ≤ 9223372036854775807 then
     .next (IntKind.i64.wrap (s2.1 + 1), s2.2 ++ [((x2.getD s2.1.toNat default).1, [((x2.getD s2.1.toNat default).2.1, (x2.getD s2.1.toNat default).2.2.1), ((x2.getD s2.1.toNat default).2.2.2.1, (x2.getD s2.1.toNat default).2.2.2.2)], 0)])
     else .out none
    else .out none
   else .out (iterC (b87_3 x1 x0 s1 s2) 1000000000 (0, []))
def b87_1 (x3 : List (Int × Int × Int × Int)) (x2 : List (Int × Int × Int × Int × Int)) (x1 : List (Int × Int × Int)) (x0 : List (Int × Int)) : (Int × (List (Int × (List (Int × Int)) × Int))) → Ctl (Int × (List (Int × (List (Int × Int)) × Int))) ((List (Int × (List (Int × Int)) × Int)) × (List (Int × (List (Int × Int)) × Int)) × (List (Int × (List (Int × Int)) × Int)) × (List (Int × (List (Int × Int)) × Int))) := fun s1 =>
  if (decide (s1.1 < (x3.length : Int))) = true then
   if 0 ≤ s1.1 ∧ s1.1 < (x3.length : Int) then
    if (s1.2.length + 1) * 40 ≤ 140737488355328 ∧ s1.2.length + 1 ≤ 9223372036854775807 then
     .next (IntKind.i64.wrap (s1.1 + 1), s1.2 ++ [((x3.getD s1.1.toNat default).1, [((x3.getD s1.1.toNat default).2.1, (x3.getD s1.1.toNat default).2.2.1)], (x3.getD s1.1.toNat default).2.2.2)])
     else .out none
    else .out none
   else .out (iterC (b87_2 x2 x1 x0 s1) 1000000000 (0, []))
def r87 (x3 : List (Int × Int × Int × Int)) (x2 : List (Int × Int × Int × Int × Int)) (x1 : List (Int × Int × Int)) (x0 : List (Int × Int)) (x4 : Int) (x5 : Int) (x6 : Int) (x7 : Int) : Option ((List (Int × (List (Int × Int)) × Int)) × (List (Int × (List (Int × Int)) × Int)) × (List (Int × (List (Int × Int)) × Int)) × (List (Int × (List (Int × Int)) × Int))) :=
  iterC (b87_1 x3 x2 x1 x0) 1000000000 (0, [])
def T87 : TSpec qA1 := mkT qE1 qd1 (fun ⟨x3, x2, x1, x0, x4, x5, x6, x7⟩ => r87 x3 x2 x1 x0 x4 x5 x6 x7) qu2 true
theorem TP87 (c0 c1 c2 c3 c4 c5 c6 c7 : D) : T87.sp.pre [.agg [c0, c1, c2, c3, c4, c5, c6, c7]] = (eqvArgs (qt1 c0 c1 c2 c3 c4 c5 c6 c7) (qp1 qw1 c0 c1 c2 c3 c4 c5 c6 c7) ∧ (qp1 r87 c0 c1 c2 c3 c4 c5 c6 c7).isSome = true) := (rfl)
theorem TR87 (c0 c1 c2 c3 c4 c5 c6 c7 : D) : T87.sp.res [.agg [c0, c1, c2, c3, c4, c5, c6, c7]] = qu2 ((qp1 r87 c0 c1 c2 c3 c4 c5 c6 c7).getD default) := (rfl)
theorem TA87 : T87.sp.alias = true := (rfl)
def tb87 : Fns := lk []
theorem tb87_ok : FnsOk Tryz.prog tb87 := FnsOk.nil
theorem lt87_0 : (IntKind.i64.wrap (0 + 1)) = 1 := by first | rfl | decide | simp
attribute [go_sem] TP87 TR87 TA87
section
attribute [local go_sem] T87 Tryz.results87 lt87_0
theorem v87 : Valid Tryz.prog 87 T87.sp := by
 refine valid_t (fn := Tryz.f87) (n := 92) ty_ok tb87_ok Tryz.func87 rfl Tryz.ntmps87 ?_
 rintro ⟨x3, x2, x1, x0, x4, x5, x6, x7⟩ hx
 obtain ⟨r, hr⟩ := oE (show (r87 x3 x2 x1 x0 x4 x5 x6 x7).isSome = true from hx)
 have hres : T87.res (x3, x2, x1, x0, x4, x5, x6, x7) = qu2 r := by simp only [T87, mkT, hr, oG]
 refine ⟨nL rfl, fun stop S => ?_⟩
 rw [hres] at S
 unfold r87 at hr
 refine S.gx [] ?_
 repeat refine gA ?_
 refine S.own0b 3 0 2000300 3 rfl rfl (nL rfl) rfl ?_
 refine S.sees [1, 2, 3, 13, 14, 15] [(1, 1), (2, 2), (3, 3)] [(2000300, 2000300)] ?_ (Stop.iter S (fun s1 => ⟨[(1, .c (.ref 1 0)), (2, .c (.ref 2 0)), (3, .c (.ref 3 0)), (13, .c (.d (encF 4 d_IIII x3))), (14, .c (.d (.int .i64 (x3.length : Int)))), (15, .c (.d (.int .i64 s1.1)))], [(1, [.d (encF 4 d_IIII x3), .d (encF 5 d_IIIII x2), .d (encF 3 d_III x1), .d (encF 2 d_II x0), .d (.int .i64 x4), .d (.int .i64 x5), .d (.int .i64 x6), .d (.int .i64 x7)]), (2, [.nils, .nils, .nils, .nils]), (3, [.own 2000300, .nils, .nils, .nils])], [(2000300, .owned (encF 3 d_ILIIEI s1.2))]⟩) (b87_1 x3 x2 x1 x0) (fun q => q = r) hr rfl ?_)
 ·exact lf
 ·intro s1 hr
  unfold b87_1 at hr
  refine S.gx [] ?_
  repeat refine gA ?_
  refine ⟨?_, ?_⟩ <;> intro hc
  ·have hr := ifP1 hr hc
   obtain ⟨hg1, hr⟩ := of_guard1 hr
   obtain ⟨hg2, hr⟩ := of_guard1 hr
   repeat refine gA ?_
   refine S.sees [1, 2, 3, 13, 14, 15] [(1, 1), (2, 2), (3, 3)] [(30, 2000300)] ?_ hr
   exact lf
  ·have hr := ifN1 hr hc
   repeat refine gA ?_
   have hr := of_out0 hr
   repeat refine gA ?_
   refine S.own0b 3 1 2000301 3 rfl rfl (nL rfl) rfl ?_
   refine S.sees [1, 2, 3, 34, 35, 36] [(1, 1), (2, 2), (3, 3)] [(2000301, 2000301), (2000300, 2000300)] ?_ (Stop.iter S (fun s2 => ⟨[(1, .c (.ref 1 0)), (2, .c (.ref 2 0)), (3, .c (.ref 3 0)), (34, .c (.d (encF 5 d_IIIII x2))), (35, .c (.d (.int .i64 (x2.length : Int)))), (36, .c (.d (.int .i64 s2.1)))], [(1, [.d (encF 4 d_IIII x3), .d (encF 5 d_IIIII x2), .d (encF 3 d_III x1), .d (encF 2 d_II x0), .d (.int .i64 x4), .d (.int .i64 x5), .d (.int .i64 x6), .d (.int .i64 x7)]), (2, [.nils, .nils, .nils, .nils]), (3, [.own 2000300, .own 2000301, .nils, .nils])], [(2000301, .owned (encF 3 d_ILIIEI s2.2)), (2000300, .owned (encF 3 d_ILIIEI s1.2))]⟩) (b87_2 x2 x1 x0 s1) (fun q => q = r) hr rfl ?_)
   ·exact lf
   ·intro s2 hr
    unfold b87_2 at hr
    refine S.gx [] ?_
    repeat refine gA ?_
    refine ⟨?_, ?_⟩ <;> intro hc
    ·have hr := ifP1 hr hc
     obtain ⟨hg3, hr⟩ := of_guard1 hr
     obtain ⟨hg4, hr⟩ := of_guard1 hr
     repeat refine gA ?_
     refine S.sees [1, 2, 3, 34, 35, 36] [(1, 1), (2, 2), (3, 3)] [(51, 2000301), (2000300, 2000300)] ?_ hr
     exact lf
    ·have hr := ifN1 hr hc
     repeat refine gA ?_
     have hr := of_out0 hr
     repeat refine gA ?_
     refine S.own0b 3 2 2000302 3 rfl rfl (nL rfl) rfl ?_
     refine S.sees [1, 2, 3, 55, 56, 57] [(1, 1), (2, 2), (3, 3)] [(2000302, 2000302), (2000300, 2000300), (2000301, 2000301)] ?_ (Stop.iter S (fun s3 => ⟨[(1, .c (.ref 1 0)), (2, .c (.ref 2 0)), (3, .c (.ref 3 0)), (55, .c (.d (encF 3 d_III x1))), (56, .c (.d (.int .i64 (x1.length : Int)))), (57, .c (.d (.int .i64 s3.1)))], [(1, [.d (encF 4 d_IIII x3), .d (encF 5 d_IIIII x2), .d (encF 3 d_III x1), .d (encF 2 d_II x0), .d (.int .i64 x4), .d (.int .i64 x5), .d (.int .i64 x6), .d (.int .i64 x7)]), (2, [.nils, .nils, .nils, .nils]), (3, [.own 2000300, .own 2000301, .own 2000302, .nils])], [(2000302, .owned (encF 3 d_ILIIEI s3.2)), (2000300, .owned (encF 3 d_ILIIEI s1.2)), (2000301, .owned (encF 3 d_ILIIEI s2.2))]⟩) (b87_3 x1 x0 s1 s2) (fun q => q = r) hr rfl ?_)
     ·exact lf
     ·intro s3 hr
      unfold b87_3 at hr
      refine S.gx [] ?_
      repeat refine gA ?_
      refine ⟨?_, ?_⟩ <;> intro hc
      ·have hr := ifP1 hr hc
       obtain ⟨hg5, hr⟩ := of_guard1 hr
       obtain ⟨hg6, hr⟩ := of_guard1 hr
       repeat refine gA ?_
       refine S.sees [1, 2, 3, 55, 56, 57] [(1, 1), (2, 2), (3, 3)] [(70, 2000302), (2000300, 2000300), (2000301, 2000301)] ?_ hr
       exact lf
      ·have hr := ifN1 hr hc
       repeat refine gA ?_
       have hr := of_out0 hr
       repeat refine gA ?_
       refine S.own0b 3 3 2000303 3 rfl rfl (nL rfl) rfl ?_
       refine S.sees [2, 3, 74, 75, 76] [(2, 2), (3, 3)] [(2000303, 2000303), (2000300, 2000300), (2000301, 2000301), (2000302, 2000302)] ?_ (Stop.iter S (fun s4 => ⟨[(2, .c (.ref 2 0)), (3, .c (.ref 3 0)), (74, .c (.d (encF 2 d_II x0))), (75, .c (.d (.int .i64 (x0.length : Int)))), (76, .c (.d (.int .i64 s4.1)))], [(2, [.nils, .nils, .nils, .nils]), (3, [.own 2000300, .own 2000301, .own 2000302, .own 2000303])], [(2000303, .owned (encF 3 d_ILIIEI s4.2)), (2000300, .owned (encF 3 d_ILIIEI s1.2)), (2000301, .owned (encF 3 d_ILIIEI s2.2)), (2000302, .owned (encF 3 d_ILIIEI s3.2))]⟩) (b87_4 x0 s1 s2 s3) (fun q => q = r) hr rfl ?_)
       ·exact lf
       ·intro s4 hr
        unfold b87_4 at hr
        refine S.gx [] ?_
        repeat refine gA ?_
        refine ⟨?_, ?_⟩ <;> intro hc
        ·have hr := ifP1 hr hc
         obtain ⟨hg7, hr⟩ := of_guard1 hr
         obtain ⟨hg8, hr⟩ := of_guard1 hr
         repeat refine gA ?_
         refine S.sees [2, 3, 74, 75, 76] [(2, 2), (3, 3)] [(88, 2000303), (2000300, 2000300), (2000301, 2000301), (2000302, 2000302)] ?_ hr
         exact lf
        ·have hr := ifN1 hr hc
         repeat refine gA ?_
         have hr := of_out0 hr
         repeat refine gA ?_
         cases hr
         exact lf
theorem f87 : FnFact Tryz.prog 87 T87.sp := ⟨⟨Tryz.f87, Tryz.func87, by decide, rfl⟩, v87⟩
end

/- martensite/steel.within -/
def r68 (a0 : Int) (a1 : Int) (a2 : Int) : Option (Bool) :=
  some ((decide (a1 ≤ a0)) && (decide (a0 ≤ a2)))
def T68 : TSpec qA2 := mkT qE2 qd2 (fun ⟨a0, a1, a2⟩ => r68 a0 a1 a2) qu3 false
theorem TP68 (c0 c1 c2 : D) : T68.sp.pre [.c c0, .c c1, .c c2] = (eqvArgs (qt2 c0 c1 c2) (qp2 qw2 c0 c1 c2) ∧ (qp2 r68 c0 c1 c2).isSome = true) := (rfl)
theorem TR68 (c0 c1 c2 : D) : T68.sp.res [.c c0, .c c1, .c c2] = qu3 ((qp2 r68 c0 c1 c2).getD default) := (rfl)
theorem TA68 : T68.sp.alias = false := (rfl)
def tb68 : Fns := lk []
theorem tb68_ok : FnsOk Tryz.prog tb68 := FnsOk.nil
attribute [go_sem] TP68 TR68 TA68
section
attribute [local go_sem] T68 Tryz.results68
theorem v68 : Valid Tryz.prog 68 T68.sp := by
 refine valid_t (fn := Tryz.f68) (n := 15) ty_ok tb68_ok Tryz.func68 rfl Tryz.ntmps68 ?_
 rintro ⟨a0, a1, a2⟩ hx
 obtain ⟨r, hr⟩ := oE (show (r68 a0 a1 a2).isSome = true from hx)
 have hres : T68.res (a0, a1, a2) = qu3 r := by simp only [T68, mkT, hr, oG]
 refine ⟨nL rfl, fun stop S => ?_⟩
 rw [hres] at S
 unfold r68 at hr
 refine S.gx [] ?_
 repeat (first | refine gA ?_ | refine gB ?_)
 cases hr
 exact lf
theorem f68 : FnFact Tryz.prog 68 T68.sp := ⟨⟨Tryz.f68, Tryz.func68, by decide, rfl⟩, v68⟩
end

/- martensite/steel.isShare -/
def r67 (a0 : Int) : Option (Bool) :=
  (r68 a0 0 1000000).bind fun v1 =>
   some v1
def T67 : TSpec qA3 := mkT qE3 qd3 r67 qu3 false
theorem TP67 (c0 : D) : T67.sp.pre [.c c0] = (eqvArgs (qt3 c0) (qp3 qw3 c0) ∧ (qp3 r67 c0).isSome = true) := (rfl)
theorem TR67 (c0 : D) : T67.sp.res [.c c0] = qu3 ((qp3 r67 c0).getD default) := (rfl)
theorem TA67 : T67.sp.alias = false := (rfl)
def tb67 : Fns := lk [(68, T68.sp)]
theorem tb67_ok : FnsOk Tryz.prog tb67 := .cons f68 (FnsOk.nil)
theorem tb67_68 : tb67 68 = some T68.sp := rfl
attribute [go_sem] TP67 TR67 TA67
section
attribute [local go_sem] T67 tb67_68 Tryz.results67
theorem v67 : Valid Tryz.prog 67 T67.sp := by
 refine valid_t (fn := Tryz.f67) (n := 5) ty_ok tb67_ok Tryz.func67 rfl Tryz.ntmps67 ?_
 rintro a0 hx
 obtain ⟨r, hr⟩ := oE (show (r67 a0).isSome = true from hx)
 have hres : T67.res a0 = qu3 r := by simp only [T67, mkT, hr, oG]
 refine ⟨nL rfl, fun stop S => ?_⟩
 rw [hres] at S
 unfold r67 at hr
 refine S.gx [] ?_
 obtain ⟨v1, hv1, hr⟩ := of_bind0 hr
 try simp only [hv1, oG, oI, true_and, and_assoc]
 repeat refine gA ?_
 cases hr
 exact lf
theorem f67 : FnFact Tryz.prog 67 T67.sp := ⟨⟨Tryz.f67, Tryz.func67, by decide, rfl⟩, v67⟩
end

/- martensite/steel.knotErr$1 -/
def r112 (x1 : Int) (x0 : Int) : Option (Bool) :=
  (r67 x1).bind fun v1 =>
   if (!(!v1)) = true → (r67 x0).isSome = true then
    some ((!v1) || (!((r67 x0).getD default)))
    else none
def T112 : TSpec qA4 := mkT qE4 qd4 (fun ⟨x1, x0⟩ => r112 x1 x0) qu3 false
theorem TP112 (c0 c1 : D) : T112.sp.pre [.agg [c0, c1]] = (eqvArgs (qt4 c0 c1) (qp4 qw4 c0 c1) ∧ (qp4 r112 c0 c1).isSome = true) := (rfl)
theorem TR112 (c0 c1 : D) : T112.sp.res [.agg [c0, c1]] = qu3 ((qp4 r112 c0 c1).getD default) := (rfl)
theorem TA112 : T112.sp.alias = false := (rfl)
def tb112 : Fns := lk [(67, T67.sp)]
theorem tb112_ok : FnsOk Tryz.prog tb112 := .cons f67 (FnsOk.nil)
theorem tb112_67 : tb112 67 = some T67.sp := rfl
attribute [go_sem] TP112 TR112 TA112
section
attribute [local go_sem] T112 tb112_67 Tryz.results112
theorem v112 : Valid Tryz.prog 112 T112.sp := by
 refine valid_t (fn := Tryz.f112) (n := 13) ty_ok tb112_ok Tryz.func112 rfl Tryz.ntmps112 ?_
 rintro ⟨x1, x0⟩ hx
 obtain ⟨r, hr⟩ := oE (show (r112 x1 x0).isSome = true from hx)
 have hres : T112.res (x1, x0) = qu3 r := by simp only [T112, mkT, hr, oG]
 refine ⟨nL rfl, fun stop S => ?_⟩
 rw [hres] at S
 unfold r112 at hr
 refine S.gx [] ?_
 obtain ⟨v1, hv1, hr⟩ := of_bind0 hr
 obtain ⟨hg2, hr⟩ := of_guard0 hr
 try simp only [hv1, oG, oI, true_and, and_assoc]
 repeat (first | refine gG hg2 ?_ | refine gA ?_ | refine gB ?_)
 cases hr
 exact lf
theorem f112 : FnFact Tryz.prog 112 T112.sp := ⟨⟨Tryz.f112, Tryz.func112, by decide, rfl⟩, v112⟩
end

/- martensite/steel.knotErr$2 -/
def r113 (x0 : Int) (x1 : Int) : Option (Bool) :=
  some (decide (x0 > x1))
def T113 : TSpec qA4 := mkT qE4 qd4 (fun ⟨x0, x1⟩ => r113 x0 x1) qu3 false
theorem TP113 (c0 c1 : D) : T113.sp.pre [.agg [c0, c1]] = (eqvArgs (qt4 c0 c1) (qp4 qw4 c0 c1) ∧ (qp4 r113 c0 c1).isSome = true) := (rfl)
theorem TR113 (c0 c1 : D) : T113.sp.res [.agg [c0, c1]] = qu3 ((qp4 r113 c0 c1).getD default) := (rfl)
theorem TA113 : T113.sp.alias = false := (rfl)
def tb113 : Fns := lk []
theorem tb113_ok : FnsOk Tryz.prog tb113 := FnsOk.nil
attribute [go_sem] TP113 TR113 TA113
section
attribute [local go_sem] T113 Tryz.results113
theorem v113 : Valid Tryz.prog 113 T113.sp := by
 refine valid_t (fn := Tryz.f113) (n := 8) ty_ok tb113_ok Tryz.func113 rfl Tryz.ntmps113 ?_
 rintro ⟨x0, x1⟩ hx
 obtain ⟨r, hr⟩ := oE (show (r113 x0 x1).isSome = true from hx)
 have hres : T113.res (x0, x1) = qu3 r := by simp only [T113, mkT, hr, oG]
 refine ⟨nL rfl, fun stop S => ?_⟩
 rw [hres] at S
 unfold r113 at hr
 refine S.gx [] ?_
 repeat refine gA ?_
 cases hr
 exact lf
theorem f113 : FnFact Tryz.prog 113 T113.sp := ⟨⟨Tryz.f113, Tryz.func113, by decide, rfl⟩, v113⟩
end

/- martensite/steel.isKelvin -/
def r74 (a0 : Int) : Option (Bool) :=
  (r68 a0 1 3000).bind fun v1 =>
   some v1
def T74 : TSpec qA3 := mkT qE3 qd3 r74 qu3 false
theorem TP74 (c0 : D) : T74.sp.pre [.c c0] = (eqvArgs (qt3 c0) (qp3 qw3 c0) ∧ (qp3 r74 c0).isSome = true) := (rfl)
theorem TR74 (c0 : D) : T74.sp.res [.c c0] = qu3 ((qp3 r74 c0).getD default) := (rfl)
theorem TA74 : T74.sp.alias = false := (rfl)
def tb74 : Fns := lk [(68, T68.sp)]
theorem tb74_ok : FnsOk Tryz.prog tb74 := .cons f68 (FnsOk.nil)
theorem tb74_68 : tb74 68 = some T68.sp := rfl
attribute [go_sem] TP74 TR74 TA74
section
attribute [local go_sem] T74 tb74_68 Tryz.results74
theorem v74 : Valid Tryz.prog 74 T74.sp := by
 refine valid_t (fn := Tryz.f74) (n := 5) ty_ok tb74_ok Tryz.func74 rfl Tryz.ntmps74 ?_
 rintro a0 hx
 obtain ⟨r, hr⟩ := oE (show (r74 a0).isSome = true from hx)
 have hres : T74.res a0 = qu3 r := by simp only [T74, mkT, hr, oG]
 refine ⟨nL rfl, fun stop S => ?_⟩
 rw [hres] at S
 unfold r74 at hr
 refine S.gx [] ?_
 obtain ⟨v1, hv1, hr⟩ := of_bind0 hr
 try simp only [hv1, oG, oI, true_and, and_assoc]
 repeat refine gA ?_
 cases hr
 exact lf
theorem f74 : FnFact Tryz.prog 74 T74.sp := ⟨⟨Tryz.f74, Tryz.func74, by decide, rfl⟩, v74⟩
end

/- martensite/steel.unless -/
def r51 (a0 : Bool) (a1 : Int) : Option (Int) :=
  if a0 = true then
   some 0
   else some a1
def T51 : TSpec qA5 := mkT qE5 qd5 (fun ⟨a0, a1⟩ => r51 a0 a1) qu4 false
theorem TP51 (c0 c1 : D) : T51.sp.pre [.c c0, .c c1] = (eqvArgs (qt5 c0 c1) (qp5 qw5 c0 c1) ∧ (qp5 r51 c0 c1).isSome = true) := (rfl)
theorem TR51 (c0 c1 : D) : T51.sp.res [.c c0, .c c1] = qu4 ((qp5 r51 c0 c1).getD default) := (rfl)
theorem TA51 : T51.sp.alias = false := (rfl)
def tb51 : Fns := lk []
theorem tb51_ok : FnsOk Tryz.prog tb51 := FnsOk.nil
attribute [go_sem] TP51 TR51 TA51
section
attribute [local go_sem] T51 Tryz.results51
theorem v51 : Valid Tryz.prog 51 T51.sp := by
 refine valid_t (fn := Tryz.f51) (n := 7) ty_ok tb51_ok Tryz.func51 rfl Tryz.ntmps51 ?_
 rintro ⟨a0, a1⟩ hx
 obtain ⟨r, hr⟩ := oE (show (r51 a0 a1).isSome = true from hx)
 have hres : T51.res (a0, a1) = qu4 r := by simp only [T51, mkT, hr, oG]
 refine ⟨nL rfl, fun stop S => ?_⟩
 rw [hres] at S
 unfold r51 at hr
 refine S.gx [] ?_
 repeat refine gA ?_
 refine ⟨?_, ?_⟩ <;> intro hc
 ·have hr := ifP hr hc
  repeat refine gA ?_
  cases hr
  exact lf
 ·have hr := ifN hr hc
  repeat refine gA ?_
  cases hr
  exact lf
theorem f51 : FnFact Tryz.prog 51 T51.sp := ⟨⟨Tryz.f51, Tryz.func51, by decide, rfl⟩, v51⟩
end

/- martensite/steel.first -/
def b44_1 (a0 : List (Int)) : (Int) → Ctl (Int) (Int) := fun s1 =>
  if (decide (s1 < (a0.length : Int))) = true then
   if 0 ≤ s1 ∧ s1 < (a0.length : Int) then
    if ((a0.getD s1.toNat default) != 0) = true then
     .out (some (a0.getD s1.toNat default))
     else .next (IntKind.i64.wrap (s1 + 1))
    else .out none
   else .out (some 0)
def r44 (a0 : List (Int)) : Option (Int) :=
  iterC (b44_1 a0) 1000000000 0
def T44 : TSpec qA6 := mkT qE6 qd6 r44 qu4 false
theorem TP44 (c0 : D) : T44.sp.pre [.c c0] = (eqvArgs (qt6 c0) (qp6 qw6 c0) ∧ (qp6 r44 c0).isSome = true) := (rfl)
theorem TR44 (c0 : D) : T44.sp.res [.c c0] = qu4 ((qp6 r44 c0).getD default) := (rfl)
theorem TA44 : T44.sp.alias = false := (rfl)
def tb44 : Fns := lk []
theorem tb44_ok : FnsOk Tryz.prog tb44 := FnsOk.nil
theorem lt44_0 : (IntKind.i64.wrap (0 + 1)) = 1 := by first | rfl | decide | simp
attribute [go_sem] TP44 TR44 TA44
section
attribute [local go_sem] T44 Tryz.results44 lt44_0
theorem v44 : Valid Tryz.prog 44 T44.sp := by
 refine valid_t (fn := Tryz.f44) (n := 15) ty_ok tb44_ok Tryz.func44 rfl Tryz.ntmps44 ?_
 rintro a0 hx
 obtain ⟨r, hr⟩ := oE (show (r44 a0).isSome = true from hx)
 have hres : T44.res a0 = qu4 r := by simp only [T44, mkT, hr, oG]
 refine ⟨nL rfl, fun stop S => ?_⟩
 rw [hres] at S
 unfold r44 at hr
 refine S.gx [] ?_
 repeat refine gA ?_
 refine S.sees [5, 6, 7] [] [] ?_ (Stop.iter S (fun s1 => ⟨[(5, .c (.d (encF 1 d_I a0))), (6, .c (.d (.int .i64 (a0.length : Int)))), (7, .c (.d (.int .i64 s1)))], [], []⟩) (b44_1 a0) (fun q => q = r) hr rfl ?_)
 ·exact lf
 ·intro s1 hr
  unfold b44_1 at hr
  refine S.gx [] ?_
  repeat refine gA ?_
  refine ⟨?_, ?_⟩ <;> intro hc
  ·have hr := ifP1 hr hc
   obtain ⟨hg1, hr⟩ := of_guard1 hr
   repeat refine gA ?_
   refine ⟨?_, ?_⟩ <;> intro hc
   ·have hr := ifP1 hr hc
    repeat refine gA ?_
    have hr := of_out0 hr
    cases hr
    exact lf
   ·have hr := ifN1 hr hc
    repeat refine gA ?_
    refine S.sees [5, 6, 7] [] [] ?_ hr
    exact lf
  ·have hr := ifN1 hr hc
   repeat refine gA ?_
   have hr := of_out0 hr
   repeat refine gA ?_
   cases hr
   exact lf
theorem f44 : FnFact Tryz.prog 44 T44.sp := ⟨⟨Tryz.f44, Tryz.func44, by decide, rfl⟩, v44⟩
end

/- martensite/steel.knotErr -/
def b88_2 (x1 : Int) (x0 : List (Int × Int)) (x2 : Int) (a1 : Option (Int × (List (Int × Int)) × Int)) (a2 : Int) (s1 : Int) : (Int) → Ctl (Int) (Int) := fun s2 =>
  if (decide (s2 < (x0.length : Int))) = true then
   if 0 ≤ s2 ∧ s2 < (x0.length : Int) then
    bindC (r113 ((x0.getD s2.toNat default).1) ((x0.getD s2.toNat default).2)) fun v2 =>
     if v2 = true then
      .out ((r74 x1).bind fun v3 =>
       if (v3 && (!(decide (s1 ≥ 0)))) = true → (r67 x2).isSome = true then
        (r51 ((v3 && (!(decide (s1 ≥ 0)))) && ((r67 x2).getD default)) 2).bind fun v4 =>
         (r51 (!(decide (s2 ≥ 0))) 3).bind fun v5 =>
          (r44 [v4, v5]).bind fun v6 =>
           if ((v6 != 0) || (!a1.isSome)) = true then
            some v6
            else if a1.isSome = true then
             if a1.isSome = true then
              if (a2 != 0) = true then
               if 0 ≤ 0 ∧ 0 < (x0.length : Int) then
                if a1.isSome = true then
                 if a1.isSome = true then
                  if 0 ≤ 0 ∧ 0 < (((a1.getD default).2.1).length : Int) then
                   (r51 (((decide (x1 > ((a1.getD default).1))) && (decide ((IntKind.i64.wrap (a2 * ((x0.getD 0 default).1))) ≥ (IntKind.i64.wrap (a2 * ((((a1.getD default).2.1).getD 0 default).1)))))) && (decide ((IntKind.i64.wrap (a2 * ((x0.getD 0 default).2))) ≥ (IntKind.i64.wrap (a2 * ((((a1.getD default).2.1).getD 0 default).2)))))) 9).bind fun v7 =>
                    some v7
                   else none
                  else none
                 else none
                else none
               else (r51 (decide (x1 > ((a1.getD default).1))) 9).bind fun v12 =>
                some v12
              else none
             else none
        else none)
      else .next (IntKind.i64.wrap (s2 + 1))
    else .out none
   else .out ((r74 x1).bind fun v17 =>
    if (v17 && (!(decide (s1 ≥ 0)))) = true → (r67 x2).isSome = true then
     (r51 ((v17 && (!(decide (s1 ≥ 0)))) && ((r67 x2).getD default)) 2).bind fun v18 =>
      (r51 (!(decide ((-1) ≥ 0))) 3).bind fun v19 =>
       (r44 [v18, v19]).bind fun v20 =>
        if ((v20 != 0) || (!a1.isSome)) = true then
         some v20
         else if a1.isSome = true then
          if a1.isSome = true then
           if (a2 != 0) = true then
            if 0 ≤ 0 ∧ 0 < (x0.length : Int) then
             if a1.isSome = true then
              if a1.isSome = true then
               if 0 ≤ 0 ∧ 0 < (((a1.getD default).2.1).length : Int) then
                (r51 (((decide (x1 > ((a1.getD default).1))) && (decide ((IntKind.i64.wrap (a2 * ((x0.getD 0 default).1))) ≥ (IntKind.i64.wrap (a2 * ((((a1.getD default).2.1).getD 0 default).1)))))) && (decide ((IntKind.i64.wrap (a2 * ((x0.getD 0 default).2))) ≥ (IntKind.i64.wrap (a2 * ((((a1.getD default).2.1).getD 0 default).2)))))) 9).bind fun v21 =>
                 some v21
                else none
               else none
              else none
             else none
            else (r51 (decide (x1 > ((a1.getD default).1))) 9).bind fun v26 =>
             some v26
           else none
          else none
     else none)
def b88_3 (x1 : Int) (x0 : List (Int × Int)) (x2 : Int) (a1 : Option (Int × (List (Int × Int)) × Int)) (a2 : Int) : (Int) → Ctl (Int) (Int) := fun s3 =>
  if (decide (s3 < (x0.length : Int))) = true then
   if 0 ≤ s3 ∧ s3 < (x0.length : Int) then
    bindC (r113 ((x0.getD s3.toNat default).1) ((x0.getD s3.toNat default).2)) fun v31 =>
     if v31 = true then
      .out ((r74 x1).bind fun v32 =>
       if (v32 && (!(decide ((-1) ≥ 0)))) = true → (r67 x2).isSome = true then
        (r51 ((v32 && (!(decide ((-1) ≥ 0)))) && ((r67 x2).getD default)) 2).bind fun v33 =>
         (r51 (!(decide (s3 ≥ 0))) 3).bind fun v34 =>
          (r44 [v33, v34]).bind fun v35 =>
           if ((v35 != 0) || (!a1.isSome)) = true then
            some v35
            else if a1.isSome = true then
             if a1.isSome = true then
              if (a2 != 0) = true then
               if 0 ≤ 0 ∧ 0 < (x0.length : Int) then
                if a1.isSome = true then
                 if a1.isSome = true then
                  if 0 ≤ 0 ∧ 0 < (((a1.getD default).2.1).length : Int) then
                   (r51 (((decide (x1 > ((a1.getD default).1))) && (decide ((IntKind.i64.wrap (a2 * ((x0.getD 0 default).1))) ≥ (IntKind.i64.wrap (a2 * ((((a1.getD default).2.1).getD 0 default).1)))))) && (decide ((IntKind.i64.wrap (a2 * ((x0.getD 0 default).2))) ≥ (IntKind.i64.wrap (a2 * ((((a1.getD default).2.1).getD 0 default).2)))))) 9).bind fun v36 =>
                    some v36
                   else none
                  else none
                 else none
                else none
               else (r51 (decide (x1 > ((a1.getD default).1))) 9).bind fun v41 =>
                some v41
              else none
             else none
        else none)
      else .next (IntKind.i64.wrap (s3 + 1))
    else .out none
   else .out ((r74 x1).bind fun v46 =>
    if (v46 && (!(decide ((-1) ≥ 0)))) = true → (r67 x2).isSome = true then
     (r51 ((v46 && (!(decide ((-1) ≥ 0)))) && ((r67 x2).getD default)) 2).bind fun v47 =>
      (r51 (!(decide ((-1) ≥ 0))) 3).bind fun v48 =>
       (r44 [v47, v48]).bind fun v49 =>
        if ((v49 != 0) || (!a1.isSome)) = true then
         some v49
         else if a1.isSome = true then
          if a1.isSome = true then
           if (a2 != 0) = true then
            if 0 ≤ 0 ∧ 0 < (x0.length : Int) then
             if a1.isSome = true then
              if a1.isSome = true then
               if 0 ≤ 0 ∧ 0 < (((a1.getD default).2.1).length : Int) then
                (r51 (((decide (x1 > ((a1.getD default).1))) && (decide ((IntKind.i64.wrap (a2 * ((x0.getD 0 default).1))) ≥ (IntKind.i64.wrap (a2 * ((((a1.getD default).2.1).getD 0 default).1)))))) && (decide ((IntKind.i64.wrap (a2 * ((x0.getD 0 default).2))) ≥ (IntKind.i64.wrap (a2 * ((((a1.getD default).2.1).getD 0 default).2)))))) 9).bind fun v50 =>
                 some v50
                else none
               else none
              else none
             else none
            else (r51 (decide (x1 > ((a1.getD default).1))) 9).bind fun v55 =>
             some v55
           else none
          else none
     else none)
def b88_1 (x1 : Int) (x0 : List (Int × Int)) (x2 : Int) (a1 : Option (Int × (List (Int × Int)) × Int)) (a2 : Int) : (Int) → Ctl (Int) (Int) := fun s1 =>
  if (decide (s1 < (x0.length : Int))) = true then
   if 0 ≤ s1 ∧ s1 < (x0.length : Int) then
    bindC (r112 ((x0.getD s1.toNat default).1) ((x0.getD s1.toNat default).2)) fun v1 =>
     if v1 = true then
      .out (iterC (b88_2 x1 x0 x2 a1 a2 s1) 1000000000 0)
      else .next (IntKind.i64.wrap (s1 + 1))
    else .out none
   else .out (iterC (b88_3 x1 x0 x2 a1 a2) 1000000000 0)
def r88 (x1 : Int) (x0 : List (Int × Int)) (x2 : Int) (a1 : Option (Int × (List (Int × Int)) × Int)) (a2 : Int) : Option (Int) :=
  iterC (b88_1 x1 x0 x2 a1 a2) 1000000000 0
def T88 : TSpec qA7 := mkT qE7 qd7 (fun ⟨x1, x0, x2, a1, a2⟩ => r88 x1 x0 x2 a1 a2) qu4 false
theorem TP88 (c0 c1 c2 c3 c4 : D) : T88.sp.pre [.agg [c0, c1, c2], .c c3, .c c4] = (eqvArgs (qt7 c0 c1 c2 c3 c4) (qp7 qw7 c0 c1 c2 c3 c4) ∧ (qp7 r88 c0 c1 c2 c3 c4).isSome = true) := (rfl)
theorem TR88 (c0 c1 c2 c3 c4 : D) : T88.sp.res [.agg [c0, c1, c2], .c c3, .c c4] = qu4 ((qp7 r88 c0 c1 c2 c3 c4).getD default) := (rfl)
theorem TA88 : T88.sp.alias = false := (rfl)
def tb88 : Fns := lk [(44, T44.sp), (51, T51.sp), (67, T67.sp), (74, T74.sp), (112, T112.sp), (113, T113.sp)]
theorem tb88_ok : FnsOk Tryz.prog tb88 := .cons f44 (.cons f51 (.cons f67 (.cons f74 (.cons f112 (.cons f113 (FnsOk.nil))))))
theorem tb88_44 : tb88 44 = some T44.sp := rfl
theorem tb88_51 : tb88 51 = some T51.sp := rfl
theorem tb88_67 : tb88 67 = some T67.sp := rfl
theorem tb88_74 : tb88 74 = some T74.sp := rfl
theorem tb88_112 : tb88 112 = some T112.sp := rfl
theorem tb88_113 : tb88 113 = some T113.sp := rfl
theorem lt88_0 : (decide ((0 : Int) ≥ 0)) = true := by first | rfl | decide | simp
theorem lt88_1 : (IntKind.i64.wrap (0 + 1)) = 1 := by first | rfl | decide | simp
attribute [go_sem] TP88 TR88 TA88
section
attribute [local go_sem] T88 tb88_44 tb88_51 tb88_67 tb88_74 tb88_112 tb88_113 Tryz.results88 Tryz.results55 Tryz.results111 lt88_0 lt88_1
theorem v88 : Valid Tryz.prog 88 T88.sp := by
 refine valid_t (fn := Tryz.f88) (n := 88) ty_ok tb88_ok Tryz.func88 rfl Tryz.ntmps88 ?_
 rintro ⟨x1, x0, x2, a1, a2⟩ hx
 obtain ⟨r, hr⟩ := oE (show (r88 x1 x0 x2 a1 a2).isSome = true from hx)
 have hres : T88.res (x1, x0, x2, a1, a2) = qu4 r := by simp only [T88, mkT, hr, oG]
 refine ⟨nL rfl, fun stop S => ?_⟩
 rw [hres] at S
 unfold r88 at hr
 refine S.gx [1, 2, 5, 7, 10] ?_
 repeat refine gA ?_
 refine S.inl 2 [1, 2, 3] [] Tryz.func111 (by decide) rfl Tryz.ntmps111 (fun cx e => drawn_ok ty_ok tb88_ok cx e) (some 15) rfl rfl rfl rfl (nL rfl) (nL rfl) ?_
 refine gs ?_
 repeat refine gA ?_
 intro stop1 S1
 refine S1.gx [1] ?_
 repeat refine gA ?_
 refine S1.inl 2 [4] [] Tryz.func55 (by decide) rfl Tryz.ntmps55 (fun cx e => drawn_ok ty_ok tb88_ok cx e) (some 7) rfl rfl rfl rfl (nL rfl) (nL rfl) ?_
 refine gs ?_
 repeat refine gA ?_
 intro stop2 S2
 refine S2.gx [4] ?_
 repeat refine gA ?_
 refine S2.sees [0, 1, 7, 8] [(3, 3)] [] ?_ (Stop.iter S2 (fun s1 => ⟨[(0, .c (.d (encF 2 d_II x0))), (1, .c (.clo 112 [])), (7, .c (.d (.int .i64 (x0.length : Int)))), (8, .c (.d (.int .i64 s1)))], [(3, [.d (.int .i64 x1), .d (encF 2 d_II x0), .d (.int .i64 x2)])], []⟩) (b88_1 x1 x0 x2 a1 a2) (fun q => q = r) hr rfl ?_)
 ·exact lf
 ·intro s1 hr
  unfold b88_1 at hr
  refine S2.gx [4] ?_
  repeat refine gA ?_
  refine ⟨?_, ?_⟩ <;> intro hc
  ·have hr := ifP1 hr hc
   repeat refine gA ?_
   refine S2.gx [] ?_
   obtain ⟨hg30, hr⟩ := of_guard1 hr
   obtain ⟨v1, hv1, hr⟩ := of_bind1 hr
   try simp only [hv1, oG, oI, true_and, and_assoc]
   repeat refine gA ?_
   refine ⟨?_, ?_⟩ <;> intro hc
   ·have hr := ifP1 hr hc
    repeat refine gA ?_
    have hr := of_out0 hr
    repeat refine gA ?_
    refine S1.gx [1] ?_
    repeat refine gA ?_
    refine S.gx [1, 2, 5, 7, 10] ?_
    repeat refine gA ?_
    refine S.inl 2 [1, 2, 3, 7] [] Tryz.func111 (by decide) rfl Tryz.ntmps111 (fun cx e => drawn_ok ty_ok tb88_ok cx e) (some 18) rfl rfl rfl rfl (nL rfl) (nL rfl) ?_
    refine gs ?_
    repeat refine gA ?_
    intro stop1 S1
    refine S1.gx [1] ?_
    repeat refine gA ?_
    refine S1.inl 2 [4] [] Tryz.func55 (by decide) rfl Tryz.ntmps55 (fun cx e => drawn_ok ty_ok tb88_ok cx e) (some 7) rfl rfl rfl rfl (nL rfl) (nL rfl) ?_
    refine gs ?_
    repeat refine gA ?_
    intro stop2 S2
    refine S2.gx [4] ?_
    repeat refine gA ?_
    refine S2.sees [0, 1, 7, 8] [(3, 3)] [] ?_ (Stop.iter S2 (fun s2 => ⟨[(0, .c (.d (encF 2 d_II x0))), (1, .c (.clo 113 [])), (7, .c (.d (.int .i64 (x0.length : Int)))), (8, .c (.d (.int .i64 s2)))], [(3, [.d (.int .i64 x1), .d (encF 2 d_II x0), .d (.int .i64 x2)])], []⟩) (b88_2 x1 x0 x2 a1 a2 s1) (fun q => q = r) hr rfl ?_)
    ·exact lf
    ·intro s2 hr
     unfold b88_2 at hr
     refine S2.gx [4] ?_
     repeat refine gA ?_
     refine ⟨?_, ?_⟩ <;> intro hc
     ·have hr := ifP1 hr hc
      repeat refine gA ?_
      refine S2.gx [] ?_
      obtain ⟨hg16, hr⟩ := of_guard1 hr
      obtain ⟨v2, hv2, hr⟩ := of_bind1 hr
      try simp only [hv2, oG, oI, true_and, and_assoc]
      repeat refine gA ?_
      refine ⟨?_, ?_⟩ <;> intro hc
      ·have hr := ifP1 hr hc
       repeat refine gA ?_
       have hr := of_out0 hr
       repeat refine gA ?_
       refine S1.gx [1] ?_
       repeat refine gA ?_
       refine S.gx [1, 2, 5, 7, 10] ?_
       obtain ⟨v3, hv3, hr⟩ := of_bind0 hr
       obtain ⟨hg15, hr⟩ := of_guard0 hr
       obtain ⟨v4, hv4, hr⟩ := of_bind0 hr
       obtain ⟨v5, hv5, hr⟩ := of_bind0 hr
       obtain ⟨v6, hv6, hr⟩ := of_bind0 hr
       try simp only [hv3, hv4, hv5, hv6, Option.getD_some, Option.isSome_some, true_and, and_assoc]
       repeat (first | refine gG hg15 ?_ | refine gA ?_ | refine gB ?_)
       refine ⟨?_, ?_⟩ <;> intro hc
       ·have hr := ifP hr hc
        repeat refine gA ?_
        refine S.prune [9] ?_
        refine S.gx [1, 2, 7, 10] ?_
        repeat refine gA ?_
        cases hr
        exact lf
       ·have hr := ifN hr hc
        obtain ⟨hg13, hr⟩ := of_guard0 hr
        obtain ⟨hg14, hr⟩ := of_guard0 hr
        repeat refine gA ?_
        refine S.prune [1, 2, 3, 10] ?_
        refine S.gx [1, 2, 5, 10] ?_
        repeat refine gA ?_
        refine ⟨?_, ?_⟩ <;> intro hc
        ·have hr := ifP hr hc
         obtain ⟨hg8, hr⟩ := of_guard0 hr
         obtain ⟨hg9, hr⟩ := of_guard0 hr
         obtain ⟨hg10, hr⟩ := of_guard0 hr
         obtain ⟨hg11, hr⟩ := of_guard0 hr
         repeat (first | refine gA ?_ | refine gB ?_)
         refine S.prune [10] ?_
         refine S.gx [1, 2, 5, 7] ?_
         obtain ⟨v7, hv7, hr⟩ := of_bind0 hr
         try simp only [hv7, oG, oI, true_and, and_assoc]
         repeat refine gA ?_
         cases hr
         exact lf
        ·have hr := ifN hr hc
         repeat refine gA ?_
         refine S.prune [10] ?_
         refine S.gx [1, 2, 5, 7] ?_
         obtain ⟨v12, hv12, hr⟩ := of_bind0 hr
         try simp only [hv12, oG, oI, true_and, and_assoc]
         repeat refine gA ?_
         cases hr
         exact lf
      ·have hr := ifN1 hr hc
       repeat refine gA ?_
       refine S2.sees [0, 1, 7, 8] [(3, 3)] [] ?_ hr
       exact lf
     ·have hr := ifN1 hr hc
      repeat refine gA ?_
      have hr := of_out0 hr
      repeat refine gA ?_
      refine S1.gx [1] ?_
      repeat refine gA ?_
      refine S.gx [1, 2, 5, 7, 10] ?_
      obtain ⟨v17, hv17, hr⟩ := of_bind0 hr
      obtain ⟨hg29, hr⟩ := of_guard0 hr
      obtain ⟨v18, hv18, hr⟩ := of_bind0 hr
      obtain ⟨v19, hv19, hr⟩ := of_bind0 hr
      obtain ⟨v20, hv20, hr⟩ := of_bind0 hr
      try simp only [hv17, hv18, hv19, hv20, Option.getD_some, Option.isSome_some, true_and, and_assoc]
      repeat (first | refine gG hg29 ?_ | refine gA ?_ | refine gB ?_)
      refine ⟨?_, ?_⟩ <;> intro hc
      ·have hr := ifP hr hc
       repeat refine gA ?_
       refine S.prune [9] ?_
       refine S.gx [1, 2, 7, 10] ?_
       repeat refine gA ?_
       cases hr
       exact lf
      ·have hr := ifN hr hc
       obtain ⟨hg27, hr⟩ := of_guard0 hr
       obtain ⟨hg28, hr⟩ := of_guard0 hr
       repeat refine gA ?_
       refine S.prune [1, 2, 3, 10] ?_
       refine S.gx [1, 2, 5, 10] ?_
       repeat refine gA ?_
       refine ⟨?_, ?_⟩ <;> intro hc
       ·have hr := ifP hr hc
        obtain ⟨hg22, hr⟩ := of_guard0 hr
        obtain ⟨hg23, hr⟩ := of_guard0 hr
        obtain ⟨hg24, hr⟩ := of_guard0 hr
        obtain ⟨hg25, hr⟩ := of_guard0 hr
        repeat (first | refine gA ?_ | refine gB ?_)
        refine S.prune [10] ?_
        refine S.gx [1, 2, 5, 7] ?_
        obtain ⟨v21, hv21, hr⟩ := of_bind0 hr
        try simp only [hv21, oG, oI, true_and, and_assoc]
        repeat refine gA ?_
        cases hr
        exact lf
       ·have hr := ifN hr hc
        repeat refine gA ?_
        refine S.prune [10] ?_
        refine S.gx [1, 2, 5, 7] ?_
        obtain ⟨v26, hv26, hr⟩ := of_bind0 hr
        try simp only [hv26, oG, oI, true_and, and_assoc]
        repeat refine gA ?_
        cases hr
        exact lf
   ·have hr := ifN1 hr hc
    repeat refine gA ?_
    refine S2.sees [0, 1, 7, 8] [(3, 3)] [] ?_ hr
    exact lf
  ·have hr := ifN1 hr hc
   repeat refine gA ?_
   have hr := of_out0 hr
   repeat refine gA ?_
   refine S1.gx [1] ?_
   repeat refine gA ?_
   refine S.gx [1, 2, 5, 7, 10] ?_
   repeat refine gA ?_
   refine S.inl 2 [1, 2, 3, 7] [] Tryz.func111 (by decide) rfl Tryz.ntmps111 (fun cx e => drawn_ok ty_ok tb88_ok cx e) (some 18) rfl rfl rfl rfl (nL rfl) (nL rfl) ?_
   refine gs ?_
   repeat refine gA ?_
   intro stop1 S1
   refine S1.gx [1] ?_
   repeat refine gA ?_
   refine S1.inl 2 [4] [] Tryz.func55 (by decide) rfl Tryz.ntmps55 (fun cx e => drawn_ok ty_ok tb88_ok cx e) (some 7) rfl rfl rfl rfl (nL rfl) (nL rfl) ?_
   refine gs ?_
   repeat refine gA ?_
   intro stop2 S2
   refine S2.gx [4] ?_
   repeat refine gA ?_
   refine S2.sees [0, 1, 7, 8] [(3, 3)] [] ?_ (Stop.iter S2 (fun s3 => ⟨[(0, .c (.d (encF 2 d_II x0))), (1, .c (.clo 113 [])), (7, .c (.d (.int .i64 (x0.length : Int)))), (8, .c (.d (.int .i64 s3)))], [(3, [.d (.int .i64 x1), .d (encF 2 d_II x0), .d (.int .i64 x2)])], []⟩) (b88_3 x1 x0 x2 a1 a2) (fun q => q = r) hr rfl ?_)
   ·exact lf
   ·intro s3 hr
    unfold b88_3 at hr
    refine S2.gx [4] ?_
    repeat refine gA ?_
    refine ⟨?_, ?_⟩ <;> intro hc
    ·have hr := ifP1 hr hc
     repeat refine gA ?_
     refine S2.gx [] ?_
     obtain ⟨hg45, hr⟩ := of_guard1 hr
     obtain ⟨v31, hv31, hr⟩ := of_bind1 hr
     try simp only [hv31, oG, oI, true_and, and_assoc]
     repeat refine gA ?_
     refine ⟨?_, ?_⟩ <;> intro hc
     ·have hr := ifP1 hr hc
      repeat refine gA ?_
      have hr := of_out0 hr
      repeat refine gA ?_
      refine S1.gx [1] ?_
      repeat refine gA ?_
      refine S.gx [1, 2, 5, 7, 10] ?_
      obtain ⟨v32, hv32, hr⟩ := of_bind0 hr
      obtain ⟨hg44, hr⟩ := of_guard0 hr
      obtain ⟨v33, hv33, hr⟩ := of_bind0 hr
      obtain ⟨v34, hv34, hr⟩ := of_bind0 hr
      obtain ⟨v35, hv35, hr⟩ := of_bind0 hr
      try simp only [hv32, hv33, hv34, hv35, Option.getD_some, Option.isSome_some, true_and, and_assoc]
      repeat (first | refine gG hg44 ?_ | refine gA ?_ | refine gB ?_)
      refine ⟨?_, ?_⟩ <;> intro hc
      ·have hr := ifP hr hc
       repeat refine gA ?_
       refine S.prune [9] ?_
       refine S.gx [1, 2, 7, 10] ?_
       repeat refine gA ?_
       cases hr
       exact lf
      ·have hr := ifN hr hc
       obtain ⟨hg42, hr⟩ := of_guard0 hr
       obtain ⟨hg43, hr⟩ := of_guard0 hr
       repeat refine gA ?_
       refine S.prune [1, 2, 3, 10] ?_
       refine S.gx [1, 2, 5, 10] ?_
       repeat refine gA ?_
       refine ⟨?_, ?_⟩ <;> intro hc
       ·have hr := ifP hr hc
        obtain ⟨hg37, hr⟩ := of_guard0 hr
        obtain ⟨hg38, hr⟩ := of_guard0 hr
        obtain ⟨hg39, hr⟩ := of_guard0 hr
        obtain ⟨hg40, hr⟩ := of_guard0 hr
        repeat (first | refine gA ?_ | refine gB ?_)
        refine S.prune [10] ?_
        refine S.gx [1, 2, 5, 7] ?_
        obtain ⟨v36, hv36, hr⟩ := of_bind0 hr
        try simp only [hv36, oG, oI, true_and, and_assoc]
        repeat refine gA ?_
        cases hr
        exact lf
       ·have hr := ifN hr hc
        repeat refine gA ?_
        refine S.prune [10] ?_
        refine S.gx [1, 2, 5, 7] ?_
        obtain ⟨v41, hv41, hr⟩ := of_bind0 hr
        try simp only [hv41, oG, oI, true_and, and_assoc]
        repeat refine gA ?_
        cases hr
        exact lf
     ·have hr := ifN1 hr hc
      repeat refine gA ?_
      refine S2.sees [0, 1, 7, 8] [(3, 3)] [] ?_ hr
      exact lf
    ·have hr := ifN1 hr hc
     repeat refine gA ?_
     have hr := of_out0 hr
     repeat refine gA ?_
     refine S1.gx [1] ?_
     repeat refine gA ?_
     refine S.gx [1, 2, 5, 7, 10] ?_
     obtain ⟨v46, hv46, hr⟩ := of_bind0 hr
     obtain ⟨hg58, hr⟩ := of_guard0 hr
     obtain ⟨v47, hv47, hr⟩ := of_bind0 hr
     obtain ⟨v48, hv48, hr⟩ := of_bind0 hr
     obtain ⟨v49, hv49, hr⟩ := of_bind0 hr
     try simp only [hv46, hv47, hv48, hv49, Option.getD_some, Option.isSome_some, true_and, and_assoc]
     repeat (first | refine gG hg58 ?_ | refine gA ?_ | refine gB ?_)
     refine ⟨?_, ?_⟩ <;> intro hc
     ·have hr := ifP hr hc
      repeat refine gA ?_
      refine S.prune [9] ?_
      refine S.gx [1, 2, 7, 10] ?_
      repeat refine gA ?_
      cases hr
      exact lf
     ·have hr := ifN hr hc
      obtain ⟨hg56, hr⟩ := of_guard0 hr
      obtain ⟨hg57, hr⟩ := of_guard0 hr
      repeat refine gA ?_
      refine S.prune [1, 2, 3, 10] ?_
      refine S.gx [1, 2, 5, 10] ?_
      repeat refine gA ?_
      refine ⟨?_, ?_⟩ <;> intro hc
      ·have hr := ifP hr hc
       obtain ⟨hg51, hr⟩ := of_guard0 hr
       obtain ⟨hg52, hr⟩ := of_guard0 hr
       obtain ⟨hg53, hr⟩ := of_guard0 hr
       obtain ⟨hg54, hr⟩ := of_guard0 hr
       repeat (first | refine gA ?_ | refine gB ?_)
       refine S.prune [10] ?_
       refine S.gx [1, 2, 5, 7] ?_
       obtain ⟨v50, hv50, hr⟩ := of_bind0 hr
       try simp only [hv50, oG, oI, true_and, and_assoc]
       repeat refine gA ?_
       cases hr
       exact lf
      ·have hr := ifN hr hc
       repeat refine gA ?_
       refine S.prune [10] ?_
       refine S.gx [1, 2, 5, 7] ?_
       obtain ⟨v55, hv55, hr⟩ := of_bind0 hr
       try simp only [hv55, oG, oI, true_and, and_assoc]
       repeat refine gA ?_
       cases hr
       exact lf
theorem f88 : FnFact Tryz.prog 88 T88.sp := ⟨⟨Tryz.f88, Tryz.func88, by decide, rfl⟩, v88⟩
end

/- martensite/steel.CheckRules$1 -/
def r89 (a0 : Int) : Option (Bool) :=
  (r68 a0 0 2000).bind fun v1 =>
   some (!v1)
def T89 : TSpec qA3 := mkT qE3 qd3 r89 qu3 false
theorem TP89 (c0 : D) : T89.sp.pre [.c c0] = (eqvArgs (qt3 c0) (qp3 qw3 c0) ∧ (qp3 r89 c0).isSome = true) := (rfl)
theorem TR89 (c0 : D) : T89.sp.res [.c c0] = qu3 ((qp3 r89 c0).getD default) := (rfl)
theorem TA89 : T89.sp.alias = false := (rfl)
def tb89 : Fns := lk [(68, T68.sp)]
theorem tb89_ok : FnsOk Tryz.prog tb89 := .cons f68 (FnsOk.nil)
theorem tb89_68 : tb89 68 = some T68.sp := rfl
attribute [go_sem] TP89 TR89 TA89
section
attribute [local go_sem] T89 tb89_68 Tryz.results89
theorem v89 : Valid Tryz.prog 89 T89.sp := by
 refine valid_t (fn := Tryz.f89) (n := 6) ty_ok tb89_ok Tryz.func89 rfl Tryz.ntmps89 ?_
 rintro a0 hx
 obtain ⟨r, hr⟩ := oE (show (r89 a0).isSome = true from hx)
 have hres : T89.res a0 = qu3 r := by simp only [T89, mkT, hr, oG]
 refine ⟨nL rfl, fun stop S => ?_⟩
 rw [hres] at S
 unfold r89 at hr
 refine S.gx [] ?_
 obtain ⟨v1, hv1, hr⟩ := of_bind0 hr
 try simp only [hv1, oG, oI, true_and, and_assoc]
 repeat refine gA ?_
 cases hr
 exact lf
theorem f89 : FnFact Tryz.prog 89 T89.sp := ⟨⟨Tryz.f89, Tryz.func89, by decide, rfl⟩, v89⟩
end

/- slices.IndexFunc[[]int,int] -/
def b96_1 (a0 : List (Int)) : (Int) → Ctl (Int) (Int) := fun s1 =>
  if (decide (s1 < (a0.length : Int))) = true then
   if 0 ≤ s1 ∧ s1 < (a0.length : Int) then
    bindC (r89 (a0.getD s1.toNat default)) fun v1 =>
     if v1 = true then
      .out (some s1)
      else .next (IntKind.i64.wrap (s1 + 1))
    else .out none
   else .out (some (-1))
def r96 (a0 : List (Int)) : Option (Int) :=
  iterC (b96_1 a0) 1000000000 0
def T96 : TSpec qA8 := mkT qE8 qd8 r96 qu4 false
theorem TP96 (c0 : D) : T96.sp.pre [.c c0, .clo 89 []] = (eqvArgs (qt8 c0) (qp8 qw8 c0) ∧ (qp8 r96 c0).isSome = true) := (rfl)
theorem TR96 (c0 : D) : T96.sp.res [.c c0, .clo 89 []] = qu4 ((qp8 r96 c0).getD default) := (rfl)
theorem TA96 : T96.sp.alias = false := (rfl)
def tb96 : Fns := lk [(89, T89.sp)]
theorem tb96_ok : FnsOk Tryz.prog tb96 := .cons f89 (FnsOk.nil)
theorem tb96_89 : tb96 89 = some T89.sp := rfl
theorem lt96_0 : (IntKind.i64.wrap (0 + 1)) = 1 := by first | rfl | decide | simp
attribute [go_sem] TP96 TR96 TA96
section
attribute [local go_sem] T96 tb96_89 Tryz.results96 lt96_0
theorem v96 : Valid Tryz.prog 96 T96.sp := by
 refine valid_t (fn := Tryz.f96) (n := 19) ty_ok tb96_ok Tryz.func96 rfl Tryz.ntmps96 ?_
 rintro a0 hx
 obtain ⟨r, hr⟩ := oE (show (r96 a0).isSome = true from hx)
 have hres : T96.res a0 = qu4 r := by simp only [T96, mkT, hr, oG]
 refine ⟨nL rfl, fun stop S => ?_⟩
 rw [hres] at S
 unfold r96 at hr
 refine S.gx [] ?_
 repeat refine gA ?_
 refine S.sees [0, 1, 7, 8] [] [] ?_ (Stop.iter S (fun s1 => ⟨[(0, .c (.d (encF 1 d_I a0))), (1, .c (.clo 89 [])), (7, .c (.d (.int .i64 (a0.length : Int)))), (8, .c (.d (.int .i64 s1)))], [], []⟩) (b96_1 a0) (fun q => q = r) hr rfl ?_)
 ·exact lf
 ·intro s1 hr
  unfold b96_1 at hr
  refine S.gx [] ?_
  repeat refine gA ?_
  refine ⟨?_, ?_⟩ <;> intro hc
  ·have hr := ifP1 hr hc
   obtain ⟨hg2, hr⟩ := of_guard1 hr
   obtain ⟨v1, hv1, hr⟩ := of_bind1 hr
   try simp only [hv1, oG, oI, true_and, and_assoc]
   repeat refine gA ?_
   refine ⟨?_, ?_⟩ <;> intro hc
   ·have hr := ifP1 hr hc
    repeat refine gA ?_
    have hr := of_out0 hr
    cases hr
    exact lf
   ·have hr := ifN1 hr hc
    repeat refine gA ?_
    refine S.sees [0, 1, 7, 8] [] [] ?_ hr
    exact lf
  ·have hr := ifN1 hr hc
   repeat refine gA ?_
   have hr := of_out0 hr
   repeat refine gA ?_
   cases hr
   exact lf
theorem f96 : FnFact Tryz.prog 96 T96.sp := ⟨⟨Tryz.f96, Tryz.func96, by decide, rfl⟩, v96⟩
end

/- slices.ContainsFunc[[]int,int] -/
def r72 (a0 : List (Int)) : Option (Bool) :=
  (r96 a0).bind fun v1 =>
   some (decide (v1 ≥ 0))
def T72 : TSpec qA8 := mkT qE8 qd8 r72 qu3 false
theorem TP72 (c0 : D) : T72.sp.pre [.c c0, .clo 89 []] = (eqvArgs (qt8 c0) (qp8 qw8 c0) ∧ (qp8 r72 c0).isSome = true) := (rfl)
theorem TR72 (c0 : D) : T72.sp.res [.c c0, .clo 89 []] = qu3 ((qp8 r72 c0).getD default) := (rfl)
theorem TA72 : T72.sp.alias = false := (rfl)
def tb72 : Fns := lk [(96, T96.sp)]
theorem tb72_ok : FnsOk Tryz.prog tb72 := .cons f96 (FnsOk.nil)
theorem tb72_96 : tb72 96 = some T96.sp := rfl
attribute [go_sem] TP72 TR72 TA72
section
attribute [local go_sem] T72 tb72_96 Tryz.results72
theorem v72 : Valid Tryz.prog 72 T72.sp := by
 refine valid_t (fn := Tryz.f72) (n := 9) ty_ok tb72_ok Tryz.func72 rfl Tryz.ntmps72 ?_
 rintro a0 hx
 obtain ⟨r, hr⟩ := oE (show (r72 a0).isSome = true from hx)
 have hres : T72.res a0 = qu3 r := by simp only [T72, mkT, hr, oG]
 refine ⟨nL rfl, fun stop S => ?_⟩
 rw [hres] at S
 unfold r72 at hr
 refine S.gx [] ?_
 obtain ⟨v1, hv1, hr⟩ := of_bind0 hr
 try simp only [hv1, oG, oI, true_and, and_assoc]
 repeat refine gA ?_
 cases hr
 exact lf
theorem f72 : FnFact Tryz.prog 72 T72.sp := ⟨⟨Tryz.f72, Tryz.func72, by decide, rfl⟩, v72⟩
end

/- cmp.isNaN[int] -/
def r137 (a0 : Int) : Option (Bool) :=
  some (a0 != a0)
def T137 : TSpec qA3 := mkT qE3 qd3 r137 qu3 false
theorem TP137 (c0 : D) : T137.sp.pre [.c c0] = (eqvArgs (qt3 c0) (qp3 qw3 c0) ∧ (qp3 r137 c0).isSome = true) := (rfl)
theorem TR137 (c0 : D) : T137.sp.res [.c c0] = qu3 ((qp3 r137 c0).getD default) := (rfl)
theorem TA137 : T137.sp.alias = false := (rfl)
def tb137 : Fns := lk []
theorem tb137_ok : FnsOk Tryz.prog tb137 := FnsOk.nil
attribute [go_sem] TP137 TR137 TA137
section
attribute [local go_sem] T137 Tryz.results137
theorem v137 : Valid Tryz.prog 137 T137.sp := by
 refine valid_t (fn := Tryz.f137) (n := 6) ty_ok tb137_ok Tryz.func137 rfl Tryz.ntmps137 ?_
 rintro a0 hx
 obtain ⟨r, hr⟩ := oE (show (r137 a0).isSome = true from hx)
 have hres : T137.res a0 = qu3 r := by simp only [T137, mkT, hr, oG]
 refine ⟨nL rfl, fun stop S => ?_⟩
 rw [hres] at S
 unfold r137 at hr
 refine S.gx [] ?_
 repeat refine gA ?_
 cases hr
 exact lf
theorem f137 : FnFact Tryz.prog 137 T137.sp := ⟨⟨Tryz.f137, Tryz.func137, by decide, rfl⟩, v137⟩
end

/- cmp.Less[int] -/
def r114 (a0 : Int) (a1 : Int) : Option (Bool) :=
  (r137 a0).bind fun v1 =>
   if v1 = true → (r137 a1).isSome = true then
    some ((v1 && (!((r137 a1).getD default))) || (decide (a0 < a1)))
    else none
def T114 : TSpec qA9 := mkT qE9 qd9 (fun ⟨a0, a1⟩ => r114 a0 a1) qu3 false
theorem TP114 (c0 c1 : D) : T114.sp.pre [.c c0, .c c1] = (eqvArgs (qt9 c0 c1) (qp9 qw9 c0 c1) ∧ (qp9 r114 c0 c1).isSome = true) := (rfl)
theorem TR114 (c0 c1 : D) : T114.sp.res [.c c0, .c c1] = qu3 ((qp9 r114 c0 c1).getD default) := (rfl)
theorem TA114 : T114.sp.alias = false := (rfl)
def tb114 : Fns := lk [(137, T137.sp)]
theorem tb114_ok : FnsOk Tryz.prog tb114 := .cons f137 (FnsOk.nil)
theorem tb114_137 : tb114 137 = some T137.sp := rfl
attribute [go_sem] TP114 TR114 TA114
section
attribute [local go_sem] T114 tb114_137 Tryz.results114
theorem v114 : Valid Tryz.prog 114 T114.sp := by
 refine valid_t (fn := Tryz.f114) (n := 17) ty_ok tb114_ok Tryz.func114 rfl Tryz.ntmps114 ?_
 rintro ⟨a0, a1⟩ hx
 obtain ⟨r, hr⟩ := oE (show (r114 a0 a1).isSome = true from hx)
 have hres : T114.res (a0, a1) = qu3 r := by simp only [T114, mkT, hr, oG]
 refine ⟨nL rfl, fun stop S => ?_⟩
 rw [hres] at S
 unfold r114 at hr
 refine S.gx [] ?_
 obtain ⟨v1, hv1, hr⟩ := of_bind0 hr
 obtain ⟨hg2, hr⟩ := of_guard0 hr
 try simp only [hv1, oG, oI, true_and, and_assoc]
 repeat (first | refine gG hg2 ?_ | refine gA ?_ | refine gB ?_)
 cases hr
 exact lf
theorem f114 : FnFact Tryz.prog 114 T114.sp := ⟨⟨Tryz.f114, Tryz.func114, by decide, rfl⟩, v114⟩
end
end Go.Proofs.YtdlogfepbkojkaaGreatDoor

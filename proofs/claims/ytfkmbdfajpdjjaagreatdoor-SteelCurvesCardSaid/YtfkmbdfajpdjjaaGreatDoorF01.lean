/- Contracts of functions, written by wip/dec. -/
import Derived.Test.YtfkmbdfajpdjjaaGreatDoorF00
set_option linter.unusedVariables false
set_option linter.unusedSimpArgs false
set_option maxHeartbeats 4000000
set_option maxRecDepth 20000
namespace Go.Proofs.YtfkmbdfajpdjjaaGreatDoor
open Go.Abs
abbrev qA5 := Bool × Int
def qw5 (a0 : Bool) (a1 : Int) : List Arg := [.c (.bool a0), .c (.int .i64 a1)]
def qE5 : qA5 → List Arg := fun ⟨a0, a1⟩ => qw5 a0 a1
def qd5 (a : List Arg) : qA5 := (dBool (aCell a 0 0), dInt (aCell a 1 0))
def qp5 {β : Type} (f : Bool → Int → β) (c0 c1 : D) : β := f (dBool c0) (dInt c1)
def qt5 (c0 c1 : D) : List Arg := [.c c0, .c c1]
attribute [go_sem] qw5 qp5 qt5 qE5
abbrev qA7 := Int × (List (Int × Int)) × Int × (Option (Int × (List (Int × Int)) × Int)) × Int
def qw7 (a0 : Int) (a1 : List (Int × Int)) (a2 : Int) (a3 : Option (Int × (List (Int × Int)) × Int)) (a4 : Int) : List Arg := [.agg [.int .i64 a0, encF 2 d_II a1, .int .i64 a2], .c (encP d_ILIIEI a3), .c (.int .i64 a4)]
def qE7 : qA7 → List Arg := fun ⟨a0, a1, a2, a3, a4⟩ => qw7 a0 a1 a2 a3 a4
def qd7 (a : List Arg) : qA7 := (dInt (aCell a 0 0), decF g_II (aCell a 0 1), dInt (aCell a 0 2), decP g_ILIIEI (aCell a 1 0), dInt (aCell a 2 0))
def qp7 {β : Type} (f : Int → (List (Int × Int)) → Int → (Option (Int × (List (Int × Int)) × Int)) → Int → β) (c0 c1 c2 c3 c4 : D) : β := f (dInt c0) (decF g_II c1) (dInt c2) (decP g_ILIIEI c3) (dInt c4)
def qt7 (c0 c1 c2 c3 c4 : D) : List Arg := [.agg [c0, c1, c2], .c c3, .c c4]
attribute [go_sem] qw7 qp7 qt7 qE7
abbrev qA8 := (List (Int))
def qw8 (a0 : List (Int)) : List Arg := [.c (encF 1 d_I a0), .clo 109 []]
def qE8 : qA8 → List Arg := qw8
def qd8 (a : List Arg) : qA8 := decF g_I (aCell a 0 0)
def qp8 {β : Type} (f : (List (Int)) → β) (c0 : D) : β := f (decF g_I c0)
def qt8 (c0 : D) : List Arg := [.c c0, .clo 109 []]
attribute [go_sem] qw8 qp8 qt8 qE8
abbrev qA9 := Int × Int
def qw9 (a0 : Int) (a1 : Int) : List Arg := [.c (.int .i64 a0), .c (.int .i64 a1)]
def qE9 : qA9 → List Arg := fun ⟨a0, a1⟩ => qw9 a0 a1
def qd9 (a : List Arg) : qA9 := (dInt (aCell a 0 0), dInt (aCell a 1 0))
def qp9 {β : Type} (f : Int → Int → β) (c0 c1 : D) : β := f (dInt c0) (dInt c1)
def qt9 (c0 c1 : D) : List Arg := [.c c0, .c c1]
attribute [go_sem] qw9 qp9 qt9 qE9
def qu2 (v : (List (Int × (List (Int × Int)) × Int)) × (List (Int × (List (Int × Int)) × Int)) × (List (Int × (List (Int × Int)) × Int)) × (List (Int × (List (Int × Int)) × Int))) : List RV := [.agg [.own (encF 3 d_ILIIEI v.1), .own (encF 3 d_ILIIEI v.2.1), .own (encF 3 d_ILIIEI v.2.2.1), .own (encF 3 d_ILIIEI v.2.2.2)]]
attribute [go_sem] qu2
/- martensite/martensitelaw04.Rules -/
def r40 : Option ((List (Int × Int × Int × Int)) × (List (Int × Int × Int × Int × Int)) × (List (Int × Int × Int)) × (List (Int × Int)) × Int × Int × Int × Int) :=
  some ([(1000, 200000, 400000, 10), (1200, 500000, 600000, 30)], [(600, 0, 0, 0, 0), (800, 200000, 500000, 50000, 100000)], [(300, 900000, 950000), (500, 100000, 300000)], [(400, 5)], 200, 250, 400, 800)
def T40 : TSpec qA0 := mkT qE0 qd0 (fun _ => r40) qu0 false
theorem TP40 : T40.sp.pre [] = (eqvArgs (qt0 ) (qp0 qw0 ) ∧ (qp0 r40).isSome = true) := (rfl)
theorem TR40 : T40.sp.res [] = qu0 ((qp0 r40).getD default) := (rfl)
theorem TA40 : T40.sp.alias = false := (rfl)
def tb40 : Fns := lk []
theorem tb40_ok : FnsOk Tryz.prog tb40 := FnsOk.nil
attribute [go_sem] TP40 TR40 TA40
section
attribute [local go_sem] T40 Tryz.results40
theorem v40 : Valid Tryz.prog 40 T40.sp := by
 refine valid_t (fn := Tryz.f40) (n := 20) ty_ok tb40_ok Tryz.func40 rfl Tryz.ntmps40 ?_
 intro _ hx
 obtain ⟨r, hr⟩ := oE (show (r40).isSome = true from hx)
 have hres : T40.res () = qu0 r := by simp only [T40, mkT, hr, oG]
 refine ⟨nL rfl, fun stop S => ?_⟩
 rw [hres] at S
 unfold r40 at hr
 refine S.gx [] ?_
 repeat refine gA ?_
 cases hr
 exact lf
theorem f40 : FnFact Tryz.prog 40 T40.sp := ⟨⟨Tryz.f40, Tryz.func40, by decide, rfl⟩, v40⟩
end

/- martensite/martensitelaw04.Parent -/
def r41 : Option (Int × Int × Int × Int × Int × Int × Int) :=
  some (1000000, 0, 0, 0, 0, 0, 0)
def T41 : TSpec qA0 := mkT qE0 qd0 (fun _ => r41) qu1 false
theorem TP41 : T41.sp.pre [] = (eqvArgs (qt0 ) (qp0 qw0 ) ∧ (qp0 r41).isSome = true) := (rfl)
theorem TR41 : T41.sp.res [] = qu1 ((qp0 r41).getD default) := (rfl)
theorem TA41 : T41.sp.alias = false := (rfl)
def tb41 : Fns := lk []
theorem tb41_ok : FnsOk Tryz.prog tb41 := FnsOk.nil
attribute [go_sem] TP41 TR41 TA41
section
attribute [local go_sem] T41 Tryz.results41
theorem v41 : Valid Tryz.prog 41 T41.sp := by
 refine valid_t (fn := Tryz.f41) (n := 2) ty_ok tb41_ok Tryz.func41 rfl Tryz.ntmps41 ?_
 intro _ hx
 obtain ⟨r, hr⟩ := oE (show (r41).isSome = true from hx)
 have hres : T41.res () = qu1 r := by simp only [T41, mkT, hr, oG]
 refine ⟨nL rfl, fun stop S => ?_⟩
 rw [hres] at S
 unfold r41 at hr
 refine S.gx [] ?_
 repeat refine gA ?_
 cases hr
 exact lf
theorem f41 : FnFact Tryz.prog 41 T41.sp := ⟨⟨Tryz.f41, Tryz.func41, by decide, rfl⟩, v41⟩
end

/- martensite/steel.kinds -/
def b107_4 (x0 : List (Int × Int)) (s1 : Int × (List (Int × (List (Int × Int)) × Int))) (s2 : Int × (List (Int × (List (Int × Int)) × Int))) (s3 : Int × (List (Int × (List (Int × Int)) × Int))) : (Int × (List (Int × (List (Int × Int)) × Int))) → Ctl (Int × (List (Int × (List (Int × Int)) × Int))) ((List (Int × (List (Int × Int)) × Int)) × (List (Int × (List (Int × Int)) × Int)) × (List (Int × (List (Int × Int)) × Int)) × (List (Int × (List (Int × Int)) × Int))) := fun s4 =>
  if (decide (s4.1 < (x0.length : Int))) = true then
   if 0 ≤ s4.1 ∧ s4.1 < (x0.length : Int) then
    if (s4.2.length + 1) * 40 ≤ 140737488355328 ∧ s4.2.length + 1 ≤ 9223372036854775807 then
     .next (IntKind.i64.wrap (s4.1 + 1), s4.2 ++ [((x0.getD s4.1.toNat default).1, [], (x0.getD s4.1.toNat default).2)])
     else .out none
    else .out none
   else .out (some (s1.2, s2.2, s3.2, s4.2))
def b107_3 (x1 : List (Int × Int × Int)) (x0 : List (Int × Int)) (s1 : Int × (List (Int × (List (Int × Int)) × Int))) (s2 : Int × (List (Int × (List (Int × Int)) × Int))) : (Int × (List (Int × (List (Int × Int)) × Int))) → Ctl (Int × (List (Int × (List (Int × Int)) × Int))) ((List (Int × (List (Int × Int)) × Int)) × (List (Int × (List (Int × Int)) × Int)) × (List (Int × (List (Int × Int)) × Int)) × (List (Int × (List (Int × Int)) × Int))) := fun s3 =>
  if (decide (s3.1 < (x1.length : Int))) = true then
   if 0 ≤ s3.1 ∧ s3.1 < (x1.length : Int) then
    if (s3.2.length + 1) * 40 ≤ 140737488355328 ∧ s3.2.length + 1 ≤ 9223372036854775807 then
     .next (IntKind.i64.wrap (s3.1 + 1), s3.2 ++ [((x1.getD s3.1.toNat default).1, [((x1.getD s3.1.toNat default).2.1, (x1.getD s3.1.toNat default).2.2)], 0)])
     else .out none
    else .out none
   else .out (iterC (b107_4 x0 s1 s2 s3) 1000000000 (0, []))
def b107_2 (x2 : List (Int × Int × Int × Int × Int)) (x1 : List (Int × Int × Int)) (x0 : List (Int × Int)) (s1 : Int × (List (Int × (List (Int × Int)) × Int))) : (Int × (List (Int × (List (Int × Int)) × Int))) → Ctl (Int × (List (Int × (List (Int × Int)) × Int))) ((List (Int × (List (Int × Int)) × Int)) × (List (Int × (List (Int × Int)) × Int)) × (List (Int × (List (Int × Int)) × Int)) × (List (Int × (List (Int × Int)) × Int))) := fun s2 =>
  if (decide (s2.1 < (x2.length : Int))) = true then
   if 0 ≤ s2.1 ∧ s2.1 < (x2.length : Int) then
    if (s2.2.length + 1) * 40 ≤ 140737488355328 ∧ s2.2.length + 1 ≤ 9223372036854775807 then
     .next (IntKind.i64.wrap (s2.1 + 1), s2.2 ++ [((x2.getD s2.1.toNat default).1, [((x2.getD s2.1.toNat default).2.1, (x2.getD s2.1.toNat default).2.2.1), ((x2.getD s2.1.toNat default).2.2.2.1, (x2.getD s2.1.toNat default).2.2.2.2)], 0)])
     else .out none
    else .out none
   else .out (iterC (b107_3 x1 x0 s1 s2) 1000000000 (0, []))
def b107_1 (x3 : List (Int × Int × Int × Int)) (x2 : List (Int × Int × Int × Int × Int)) (x1 : List (Int × Int × Int)) (x0 : List (Int × Int)) : (Int × (List (Int × (List (Int × Int)) × Int))) → Ctl (Int × (List (Int × (List (Int × Int)) × Int))) ((List (Int × (List (Int × Int)) × Int)) × (List (Int × (List (Int × Int)) × Int)) × (List (Int × (List (Int × Int)) × Int)) × (List (Int × (List (Int × Int)) × Int))) := fun s1 =>
  if (decide (s1.1 < (x3.length : Int))) = true then
   if 0 ≤ s1.1 ∧ s1.1 < (x3.length : Int) then
    if (s1.2.length + 1) * 40 ≤ 140737488355328 ∧ s1.2.length + 1 ≤ 9223372036854775807 then
     .next (IntKind.i64.wrap (s1.1 + 1), s1.2 ++ [((x3.getD s1.1.toNat default).1, [((x3.getD s1.1.toNat default).2.1, (x3.getD s1.1.toNat default).2.2.1)], (x3.getD s1.1.toNat default).2.2.2)])
     else .out none
    else .out none
   else .out (iterC (b107_2 x2 x1 x0 s1) 1000000000 (0, []))
def r107 (x3 : List (Int × Int × Int × Int)) (x2 : List (Int × Int × Int × Int × Int)) (x1 : List (Int × Int × Int)) (x0 : List (Int × Int)) (x4 : Int) (x5 : Int) (x6 : Int) (x7 : Int) : Option ((List (Int × (List (Int × Int)) × Int)) × (List (Int × (List (Int × Int)) × Int)) × (List (Int × (List (Int × Int)) × Int)) × (List (Int × (List (Int × Int)) × Int))) :=
  iterC (b107_1 x3 x2 x1 x0) 1000000000 (0, [])
def T107 : TSpec qA1 := mkT qE1 qd1 (fun ⟨x3, x2, x1, x0, x4, x5, x6, x7⟩ => r107 x3 x2 x1 x0 x4 x5 x6 x7) qu2 true
theorem TP107 (c0 c1 c2 c3 c4 c5 c6 c7 : D) : T107.sp.pre [.agg [c0, c1, c2, c3, c4, c5, c6, c7]] = (eqvArgs (qt1 c0 c1 c2 c3 c4 c5 c6 c7) (qp1 qw1 c0 c1 c2 c3 c4 c5 c6 c7) ∧ (qp1 r107 c0 c1 c2 c3 c4 c5 c6 c7).isSome = true) := (rfl)
theorem TR107 (c0 c1 c2 c3 c4 c5 c6 c7 : D) : T107.sp.res [.agg [c0, c1, c2, c3, c4, c5, c6, c7]] = qu2 ((qp1 r107 c0 c1 c2 c3 c4 c5 c6 c7).getD default) := (rfl)
theorem TA107 : T107.sp.alias = true := (rfl)
def tb107 : Fns := lk []
theorem tb107_ok : FnsOk Tryz.prog tb107 := FnsOk.nil
attribute [go_sem] TP107 TR107 TA107
section
attribute [local go_sem] T107 Tryz.results107
theorem v107 : Valid Tryz.prog 107 T107.sp := by
 refine valid_t (fn := Tryz.f107) (n := 92) ty_ok tb107_ok Tryz.func107 rfl Tryz.ntmps107 ?_
 rintro ⟨x3, x2, x1, x0, x4, x5, x6, x7⟩ hx
 obtain ⟨r, hr⟩ := oE (show (r107 x3 x2 x1 x0 x4 x5 x6 x7).isSome = true from hx)
 have hres : T107.res (x3, x2, x1, x0, x4, x5, x6, x7) = qu2 r := by simp only [T107, mkT, hr, oG]
 refine ⟨nL rfl, fun stop S => ?_⟩
 rw [hres] at S
 unfold r107 at hr
 refine S.gx [] ?_
 repeat refine gA ?_
 refine S.own0b 3 0 2000300 3 rfl rfl (nL rfl) rfl ?_
 refine S.sees [1, 2, 3, 13, 14, 15] [(1, 1), (2, 2), (3, 3)] [(2000300, 2000300)] ?_ (Stop.iter S (fun s1 => ⟨[(1, .c (.ref 1 0)), (2, .c (.ref 2 0)), (3, .c (.ref 3 0)), (13, .c (.d (encF 4 d_IIII x3))), (14, .c (.d (.int .i64 (x3.length : Int)))), (15, .c (.d (.int .i64 s1.1)))], [(1, [.d (encF 4 d_IIII x3), .d (encF 5 d_IIIII x2), .d (encF 3 d_III x1), .d (encF 2 d_II x0), .d (.int .i64 x4), .d (.int .i64 x5), .d (.int .i64 x6), .d (.int .i64 x7)]), (2, [.nils, .nils, .nils, .nils]), (3, [.own 2000300, .nils, .nils, .nils])], [(2000300, .owned (encF 3 d_ILIIEI s1.2))]⟩) (b107_1 x3 x2 x1 x0) (fun q => q = r) hr rfl ?_)
 ·exact lf
 ·intro s1 hr
  unfold b107_1 at hr
  refine S.gx [] ?_
  repeat refine gA ?_
  refine ⟨?_, ?_⟩ <;> intro hc
  ·have hr := ifP1 hr hc
   obtain ⟨hg1, hr⟩ := of_guard1 hr
   obtain ⟨hg2, hr⟩ := of_guard1 hr
   repeat refine gA ?_
   refine S.sees [1, 2, 3, 13, 14, 15] [(1, 1), (2, 2), (3, 3)] [(30, 2000300)] ?_ hr
   exact lf
  ·have hr := ifN1 hr hc
   repeat refine gA ?_
   have hr := of_out0 hr
   repeat refine gA ?_
   refine S.own0b 3 1 2000301 3 rfl rfl (nL rfl) rfl ?_
   refine S.sees [1, 2, 3, 34, 35, 36] [(1, 1), (2, 2), (3, 3)] [(2000301, 2000301), (2000300, 2000300)] ?_ (Stop.iter S (fun s2 => ⟨[(1, .c (.ref 1 0)), (2, .c (.ref 2 0)), (3, .c (.ref 3 0)), (34, .c (.d (encF 5 d_IIIII x2))), (35, .c (.d (.int .i64 (x2.length : Int)))), (36, .c (.d (.int .i64 s2.1)))], [(1, [.d (encF 4 d_IIII x3), .d (encF 5 d_IIIII x2), .d (encF 3 d_III x1), .d (encF 2 d_II x0), .d (.int .i64 x4), .d (.int .i64 x5), .d (.int .i64 x6), .d (.int .i64 x7)]), (2, [.nils, .nils, .nils, .nils]), (3, [.own 2000300, .own 2000301, .nils, .nils])], [(2000301, .owned (encF 3 d_ILIIEI s2.2)), (2000300, .owned (encF 3 d_ILIIEI s1.2))]⟩) (b107_2 x2 x1 x0 s1) (fun q => q = r) hr rfl ?_)
   ·exact lf
   ·intro s2 hr
    unfold b107_2 at hr
    refine S.gx [] ?_
    repeat refine gA ?_
    refine ⟨?_, ?_⟩ <;> intro hc
    ·have hr := ifP1 hr hc
     obtain ⟨hg3, hr⟩ := of_guard1 hr
     obtain ⟨hg4, hr⟩ := of_guard1 hr
     repeat refine gA ?_
     refine S.sees [1, 2, 3, 34, 35, 36] [(1, 1), (2, 2), (3, 3)] [(51, 2000301), (2000300, 2000300)] ?_ hr
     exact lf
    ·have hr := ifN1 hr hc
     repeat refine gA ?_
     have hr := of_out0 hr
     repeat refine gA ?_
     refine S.own0b 3 2 2000302 3 rfl rfl (nL rfl) rfl ?_
     refine S.sees [1, 2, 3, 55, 56, 57] [(1, 1), (2, 2), (3, 3)] [(2000302, 2000302), (2000300, 2000300), (2000301, 2000301)] ?_ (Stop.iter S (fun s3 => ⟨[(1, .c (.ref 1 0)), (2, .c (.ref 2 0)), (3, .c (.ref 3 0)), (55, .c (.d (encF 3 d_III x1))), (56, .c (.d (.int .i64 (x1.length : Int)))), (57, .c (.d (.int .i64 s3.1)))], [(1, [.d (encF 4 d_IIII x3), .d (encF 5 d_IIIII x2), .d (encF 3 d_III x1), .d (encF 2 d_II x0), .d (.int .i64 x4), .d (.int .i64 x5), .d (.int .i64 x6), .d (.int .i64 x7)]), (2, [.nils, .nils, .nils, .nils]), (3, [.own 2000300, .own 2000301, .own 2000302, .nils])], [(2000302, .owned (encF 3 d_ILIIEI s3.2)), (2000300, .owned (encF 3 d_ILIIEI s1.2)), (2000301, .owned (encF 3 d_ILIIEI s2.2))]⟩) (b107_3 x1 x0 s1 s2) (fun q => q = r) hr rfl ?_)
     ·exact lf
     ·intro s3 hr
      unfold b107_3 at hr
      refine S.gx [] ?_
      repeat refine gA ?_
      refine ⟨?_, ?_⟩ <;> intro hc
      ·have hr := ifP1 hr hc
       obtain ⟨hg5, hr⟩ := of_guard1 hr
       obtain ⟨hg6, hr⟩ := of_guard1 hr
       repeat refine gA ?_
       refine S.sees [1, 2, 3, 55, 56, 57] [(1, 1), (2, 2), (3, 3)] [(70, 2000302), (2000300, 2000300), (2000301, 2000301)] ?_ hr
       exact lf
      ·have hr := ifN1 hr hc
       repeat refine gA ?_
       have hr := of_out0 hr
       repeat refine gA ?_
       refine S.own0b 3 3 2000303 3 rfl rfl (nL rfl) rfl ?_
       refine S.sees [2, 3, 74, 75, 76] [(2, 2), (3, 3)] [(2000303, 2000303), (2000300, 2000300), (2000301, 2000301), (2000302, 2000302)] ?_ (Stop.iter S (fun s4 => ⟨[(2, .c (.ref 2 0)), (3, .c (.ref 3 0)), (74, .c (.d (encF 2 d_II x0))), (75, .c (.d (.int .i64 (x0.length : Int)))), (76, .c (.d (.int .i64 s4.1)))], [(2, [.nils, .nils, .nils, .nils]), (3, [.own 2000300, .own 2000301, .own 2000302, .own 2000303])], [(2000303, .owned (encF 3 d_ILIIEI s4.2)), (2000300, .owned (encF 3 d_ILIIEI s1.2)), (2000301, .owned (encF 3 d_ILIIEI s2.2)), (2000302, .owned (encF 3 d_ILIIEI s3.2))]⟩) (b107_4 x0 s1 s2 s3) (fun q => q = r) hr rfl ?_)
       ·exact lf
       ·intro s4 hr
        unfold b107_4 at hr
        refine S.gx [] ?_
        repeat refine gA ?_
        refine ⟨?_, ?_⟩ <;> intro hc
        ·have hr := ifP1 hr hc
         obtain ⟨hg7, hr⟩ := of_guard1 hr
         obtain ⟨hg8, hr⟩ := of_guard1 hr
         repeat refine gA ?_
         refine S.sees [2, 3, 74, 75, 76] [(2, 2), (3, 3)] [(88, 2000303), (2000300, 2000300), (2000301, 2000301), (2000302, 2000302)] ?_ hr
         exact lf
        ·have hr := ifN1 hr hc
         repeat refine gA ?_
         have hr := of_out0 hr
         repeat refine gA ?_
         cases hr
         exact lf
theorem f107 : FnFact Tryz.prog 107 T107.sp := ⟨⟨Tryz.f107, Tryz.func107, by decide, rfl⟩, v107⟩
end

/- martensite/steel.within -/
def r66 (a0 : Int) (a1 : Int) (a2 : Int) : Option (Bool) :=
  some ((decide (a1 ≤ a0)) && (decide (a0 ≤ a2)))
def T66 : TSpec qA2 := mkT qE2 qd2 (fun ⟨a0, a1, a2⟩ => r66 a0 a1 a2) qu3 false
theorem TP66 (c0 c1 c2 : D) : T66.sp.pre [.c c0, .c c1, .c c2] = (eqvArgs (qt2 c0 c1 c2) (qp2 qw2 c0 c1 c2) ∧ (qp2 r66 c0 c1 c2).isSome = true) := (rfl)
theorem TR66 (c0 c1 c2 : D) : T66.sp.res [.c c0, .c c1, .c c2] = qu3 ((qp2 r66 c0 c1 c2).getD default) := (rfl)
theorem TA66 : T66.sp.alias = false := (rfl)
def tb66 : Fns := lk []
theorem tb66_ok : FnsOk Tryz.prog tb66 := FnsOk.nil
attribute [go_sem] TP66 TR66 TA66
section
attribute [local go_sem] T66 Tryz.results66
theorem v66 : Valid Tryz.prog 66 T66.sp := by
 refine valid_t (fn := Tryz.f66) (n := 15) ty_ok tb66_ok Tryz.func66 rfl Tryz.ntmps66 ?_
 rintro ⟨a0, a1, a2⟩ hx
 obtain ⟨r, hr⟩ := oE (show (r66 a0 a1 a2).isSome = true from hx)
 have hres : T66.res (a0, a1, a2) = qu3 r := by simp only [T66, mkT, hr, oG]
 refine ⟨nL rfl, fun stop S => ?_⟩
 rw [hres] at S
 unfold r66 at hr
 refine S.gx [] ?_
 repeat (first | refine gA ?_ | refine gB ?_)
 cases hr
 exact lf
theorem f66 : FnFact Tryz.prog 66 T66.sp := ⟨⟨Tryz.f66, Tryz.func66, by decide, rfl⟩, v66⟩
end

/- martensite/steel.isShare -/
def r82 (a0 : Int) : Option (Bool) :=
  (r66 a0 0 1000000).bind fun v1 =>
   some v1
def T82 : TSpec qA3 := mkT qE3 qd3 r82 qu3 false
theorem TP82 (c0 : D) : T82.sp.pre [.c c0] = (eqvArgs (qt3 c0) (qp3 qw3 c0) ∧ (qp3 r82 c0).isSome = true) := (rfl)
theorem TR82 (c0 : D) : T82.sp.res [.c c0] = qu3 ((qp3 r82 c0).getD default) := (rfl)
theorem TA82 : T82.sp.alias = false := (rfl)
def tb82 : Fns := lk [(66, T66.sp)]
theorem tb82_ok : FnsOk Tryz.prog tb82 := .cons f66 (FnsOk.nil)
theorem tb82_66 : tb82 66 = some T66.sp := rfl
attribute [go_sem] TP82 TR82 TA82
section
attribute [local go_sem] T82 tb82_66 Tryz.results82
theorem v82 : Valid Tryz.prog 82 T82.sp := by
 refine valid_t (fn := Tryz.f82) (n := 5) ty_ok tb82_ok Tryz.func82 rfl Tryz.ntmps82 ?_
 rintro a0 hx
 obtain ⟨r, hr⟩ := oE (show (r82 a0).isSome = true from hx)
 have hres : T82.res a0 = qu3 r := by simp only [T82, mkT, hr, oG]
 refine ⟨nL rfl, fun stop S => ?_⟩
 rw [hres] at S
 unfold r82 at hr
 refine S.gx [] ?_
 obtain ⟨v1, hv1, hr⟩ := of_bind0 hr
 try simp only [hv1, oG, oI, true_and, and_assoc]
 repeat refine gA ?_
 cases hr
 exact lf
theorem f82 : FnFact Tryz.prog 82 T82.sp := ⟨⟨Tryz.f82, Tryz.func82, by decide, rfl⟩, v82⟩
end

/- martensite/steel.knotErr$1 -/
def r128 (x1 : Int) (x0 : Int) : Option (Bool) :=
  (r82 x1).bind fun v1 =>
   if (!(!v1)) = true → (r82 x0).isSome = true then
    some ((!v1) || (!((r82 x0).getD default)))
    else none
def T128 : TSpec qA4 := mkT qE4 qd4 (fun ⟨x1, x0⟩ => r128 x1 x0) qu3 false
theorem TP128 (c0 c1 : D) : T128.sp.pre [.agg [c0, c1]] = (eqvArgs (qt4 c0 c1) (qp4 qw4 c0 c1) ∧ (qp4 r128 c0 c1).isSome = true) := (rfl)
theorem TR128 (c0 c1 : D) : T128.sp.res [.agg [c0, c1]] = qu3 ((qp4 r128 c0 c1).getD default) := (rfl)
theorem TA128 : T128.sp.alias = false := (rfl)
def tb128 : Fns := lk [(82, T82.sp)]
theorem tb128_ok : FnsOk Tryz.prog tb128 := .cons f82 (FnsOk.nil)
theorem tb128_82 : tb128 82 = some T82.sp := rfl
attribute [go_sem] TP128 TR128 TA128
section
attribute [local go_sem] T128 tb128_82 Tryz.results128
theorem v128 : Valid Tryz.prog 128 T128.sp := by
 refine valid_t (fn := Tryz.f128) (n := 13) ty_ok tb128_ok Tryz.func128 rfl Tryz.ntmps128 ?_
 rintro ⟨x1, x0⟩ hx
 obtain ⟨r, hr⟩ := oE (show (r128 x1 x0).isSome = true from hx)
 have hres : T128.res (x1, x0) = qu3 r := by simp only [T128, mkT, hr, oG]
 refine ⟨nL rfl, fun stop S => ?_⟩
 rw [hres] at S
 unfold r128 at hr
 refine S.gx [] ?_
 obtain ⟨v1, hv1, hr⟩ := of_bind0 hr
 obtain ⟨hg2, hr⟩ := of_guard0 hr
 try simp only [hv1, oG, oI, true_and, and_assoc]
 repeat (first | refine gG hg2 ?_ | refine gA ?_ | refine gB ?_)
 cases hr
 exact lf
theorem f128 : FnFact Tryz.prog 128 T128.sp := ⟨⟨Tryz.f128, Tryz.func128, by decide, rfl⟩, v128⟩
end

/- martensite/steel.knotErr$2 -/
def r129 (x0 : Int) (x1 : Int) : Option (Bool) :=
  some (decide (x0 > x1))
def T129 : TSpec qA4 := mkT qE4 qd4 (fun ⟨x0, x1⟩ => r129 x0 x1) qu3 false
theorem TP129 (c0 c1 : D) : T129.sp.pre [.agg [c0, c1]] = (eqvArgs (qt4 c0 c1) (qp4 qw4 c0 c1) ∧ (qp4 r129 c0 c1).isSome = true) := (rfl)
theorem TR129 (c0 c1 : D) : T129.sp.res [.agg [c0, c1]] = qu3 ((qp4 r129 c0 c1).getD default) := (rfl)
theorem TA129 : T129.sp.alias = false := (rfl)
def tb129 : Fns := lk []
theorem tb129_ok : FnsOk Tryz.prog tb129 := FnsOk.nil
attribute [go_sem] TP129 TR129 TA129
section
attribute [local go_sem] T129 Tryz.results129
theorem v129 : Valid Tryz.prog 129 T129.sp := by
 refine valid_t (fn := Tryz.f129) (n := 8) ty_ok tb129_ok Tryz.func129 rfl Tryz.ntmps129 ?_
 rintro ⟨x0, x1⟩ hx
 obtain ⟨r, hr⟩ := oE (show (r129 x0 x1).isSome = true from hx)
 have hres : T129.res (x0, x1) = qu3 r := by simp only [T129, mkT, hr, oG]
 refine ⟨nL rfl, fun stop S => ?_⟩
 rw [hres] at S
 unfold r129 at hr
 refine S.gx [] ?_
 repeat refine gA ?_
 cases hr
 exact lf
theorem f129 : FnFact Tryz.prog 129 T129.sp := ⟨⟨Tryz.f129, Tryz.func129, by decide, rfl⟩, v129⟩
end

/- martensite/steel.isKelvin -/
def r85 (a0 : Int) : Option (Bool) :=
  (r66 a0 1 3000).bind fun v1 =>
   some v1
def T85 : TSpec qA3 := mkT qE3 qd3 r85 qu3 false
theorem TP85 (c0 : D) : T85.sp.pre [.c c0] = (eqvArgs (qt3 c0) (qp3 qw3 c0) ∧ (qp3 r85 c0).isSome = true) := (rfl)
theorem TR85 (c0 : D) : T85.sp.res [.c c0] = qu3 ((qp3 r85 c0).getD default) := (rfl)
theorem TA85 : T85.sp.alias = false := (rfl)
def tb85 : Fns := lk [(66, T66.sp)]
theorem tb85_ok : FnsOk Tryz.prog tb85 := .cons f66 (FnsOk.nil)
theorem tb85_66 : tb85 66 = some T66.sp := rfl
attribute [go_sem] TP85 TR85 TA85
section
attribute [local go_sem] T85 tb85_66 Tryz.results85
theorem v85 : Valid Tryz.prog 85 T85.sp := by
 refine valid_t (fn := Tryz.f85) (n := 5) ty_ok tb85_ok Tryz.func85 rfl Tryz.ntmps85 ?_
 rintro a0 hx
 obtain ⟨r, hr⟩ := oE (show (r85 a0).isSome = true from hx)
 have hres : T85.res a0 = qu3 r := by simp only [T85, mkT, hr, oG]
 refine ⟨nL rfl, fun stop S => ?_⟩
 rw [hres] at S
 unfold r85 at hr
 refine S.gx [] ?_
 obtain ⟨v1, hv1, hr⟩ := of_bind0 hr
 try simp only [hv1, oG, oI, true_and, and_assoc]
 repeat refine gA ?_
 cases hr
 exact lf
theorem f85 : FnFact Tryz.prog 85 T85.sp := ⟨⟨Tryz.f85, Tryz.func85, by decide, rfl⟩, v85⟩
end

/- martensite/steel.unless -/
def r48 (a0 : Bool) (a1 : Int) : Option (Int) :=
  if a0 = true then
   some 0
   else some a1
def T48 : TSpec qA5 := mkT qE5 qd5 (fun ⟨a0, a1⟩ => r48 a0 a1) qu4 false
theorem TP48 (c0 c1 : D) : T48.sp.pre [.c c0, .c c1] = (eqvArgs (qt5 c0 c1) (qp5 qw5 c0 c1) ∧ (qp5 r48 c0 c1).isSome = true) := (rfl)
theorem TR48 (c0 c1 : D) : T48.sp.res [.c c0, .c c1] = qu4 ((qp5 r48 c0 c1).getD default) := (rfl)
theorem TA48 : T48.sp.alias = false := (rfl)
def tb48 : Fns := lk []
theorem tb48_ok : FnsOk Tryz.prog tb48 := FnsOk.nil
attribute [go_sem] TP48 TR48 TA48
section
attribute [local go_sem] T48 Tryz.results48
theorem v48 : Valid Tryz.prog 48 T48.sp := by
 refine valid_t (fn := Tryz.f48) (n := 7) ty_ok tb48_ok Tryz.func48 rfl Tryz.ntmps48 ?_
 rintro ⟨a0, a1⟩ hx
 obtain ⟨r, hr⟩ := oE (show (r48 a0 a1).isSome = true from hx)
 have hres : T48.res (a0, a1) = qu4 r := by simp only [T48, mkT, hr, oG]
 refine ⟨nL rfl, fun stop S => ?_⟩
 rw [hres] at S
 unfold r48 at hr
 refine S.gx [] ?_
 repeat refine gA ?_
 refine ⟨?_, ?_⟩ <;> intro hc
 ·have hr := ifP hr hc
  repeat refine gA ?_
  cases hr
  exact lf
 ·have hr := ifN hr hc
  repeat refine gA ?_
  cases hr
  exact lf
theorem f48 : FnFact Tryz.prog 48 T48.sp := ⟨⟨Tryz.f48, Tryz.func48, by decide, rfl⟩, v48⟩
end

/- martensite/steel.first -/
def b45_1 (a0 : List (Int)) : (Int) → Ctl (Int) (Int) := fun s1 =>
  if (decide (s1 < (a0.length : Int))) = true then
   if 0 ≤ s1 ∧ s1 < (a0.length : Int) then
    if ((a0.getD s1.toNat default) != 0) = true then
     .out (some (a0.getD s1.toNat default))
     else .next (IntKind.i64.wrap (s1 + 1))
    else .out none
   else .out (some 0)
def r45 (a0 : List (Int)) : Option (Int) :=
  iterC (b45_1 a0) 1000000000 0
def T45 : TSpec qA6 := mkT qE6 qd6 r45 qu4 false
theorem TP45 (c0 : D) : T45.sp.pre [.c c0] = (eqvArgs (qt6 c0) (qp6 qw6 c0) ∧ (qp6 r45 c0).isSome = true) := (rfl)
theorem TR45 (c0 : D) : T45.sp.res [.c c0] = qu4 ((qp6 r45 c0).getD default) := (rfl)
theorem TA45 : T45.sp.alias = false := (rfl)
def tb45 : Fns := lk []
theorem tb45_ok : FnsOk Tryz.prog tb45 := FnsOk.nil
attribute [go_sem] TP45 TR45 TA45
section
attribute [local go_sem] T45 Tryz.results45
theorem v45 : Valid Tryz.prog 45 T45.sp := by
 refine valid_t (fn := Tryz.f45) (n := 15) ty_ok tb45_ok Tryz.func45 rfl Tryz.ntmps45 ?_
 rintro a0 hx
 obtain ⟨r, hr⟩ := oE (show (r45 a0).isSome = true from hx)
 have hres : T45.res a0 = qu4 r := by simp only [T45, mkT, hr, oG]
 refine ⟨nL rfl, fun stop S => ?_⟩
 rw [hres] at S
 unfold r45 at hr
 refine S.gx [] ?_
 repeat refine gA ?_
 refine S.sees [5, 6, 7] [] [] ?_ (Stop.iter S (fun s1 => ⟨[(5, .c (.d (encF 1 d_I a0))), (6, .c (.d (.int .i64 (a0.length : Int)))), (7, .c (.d (.int .i64 s1)))], [], []⟩) (b45_1 a0) (fun q => q = r) hr rfl ?_)
 ·exact lf
 ·intro s1 hr
  unfold b45_1 at hr
  refine S.gx [] ?_
  repeat refine gA ?_
  refine ⟨?_, ?_⟩ <;> intro hc
  ·have hr := ifP1 hr hc
   obtain ⟨hg1, hr⟩ := of_guard1 hr
   repeat refine gA ?_
   refine ⟨?_, ?_⟩ <;> intro hc
   ·have hr := ifP1 hr hc
    repeat refine gA ?_
    have hr := of_out0 hr
    cases hr
    exact lf
   ·have hr := ifN1 hr hc
    repeat refine gA ?_
    refine S.sees [5, 6, 7] [] [] ?_ hr
    exact lf
  ·have hr := ifN1 hr hc
   repeat refine gA ?_
   have hr := of_out0 hr
   repeat refine gA ?_
   cases hr
   exact lf
theorem f45 : FnFact Tryz.prog 45 T45.sp := ⟨⟨Tryz.f45, Tryz.func45, by decide, rfl⟩, v45⟩
end

/- martensite/steel.knotErr -/
def b108_2 (x1 : Int) (x0 : List (Int × Int)) (x2 : Int) (a1 : Option (Int × (List (Int × Int)) × Int)) (a2 : Int) (s1 : Int) : (Int) → Ctl (Int) (Int) := fun s2 =>
  if (decide (s2 < (x0.length : Int))) = true then
   if 0 ≤ s2 ∧ s2 < (x0.length : Int) then
    bindC (r129 ((x0.getD s2.toNat default).1) ((x0.getD s2.toNat default).2)) fun v2 =>
     if v2 = true then
      .out ((r85 x1).bind fun v3 =>
       if (v3 && (!(decide (s1 ≥ 0)))) = true → (r82 x2).isSome = true then
        (r48 ((v3 && (!(decide (s1 ≥ 0)))) && ((r82 x2).getD default)) 2).bind fun v4 =>
         (r48 (!(decide (s2 ≥ 0))) 3).bind fun v5 =>
          (r45 [v4, v5]).bind fun v6 =>
           if ((v6 != 0) || (!a1.isSome)) = true then
            some v6
            else if a1.isSome = true then
             if a1.isSome = true then
              if (a2 != 0) = true then
               if 0 ≤ 0 ∧ 0 < (x0.length : Int) then
                if a1.isSome = true then
                 if a1.isSome = true then
                  if 0 ≤ 0 ∧ 0 < (((a1.getD default).2.1).length : Int) then
                   (r48 (((decide (x1 > ((a1.getD default).1))) && (decide ((IntKind.i64.wrap (a2 * ((x0.getD 0 default).1))) ≥ (IntKind.i64.wrap (a2 * ((((a1.getD default).2.1).getD 0 default).1)))))) && (decide ((IntKind.i64.wrap (a2 * ((x0.getD 0 default).2))) ≥ (IntKind.i64.wrap (a2 * ((((a1.getD default).2.1).getD 0 default).2)))))) 9).bind fun v7 =>
                    some v7
                   else none
                  else none
                 else none
                else none
               else (r48 (decide (x1 > ((a1.getD default).1))) 9).bind fun v12 =>
                some v12
              else none
             else none
        else none)
      else .next (IntKind.i64.wrap (s2 + 1))
    else .out none
   else .out ((r85 x1).bind fun v17 =>
    if (v17 && (!(decide (s1 ≥ 0)))) = true → (r82 x2).isSome = true then
     (r48 ((v17 && (!(decide (s1 ≥ 0)))) && ((r82 x2).getD default)) 2).bind fun v18 =>
      (r48 (!(decide ((-1) ≥ 0))) 3).bind fun v19 =>
       (r45 [v18, v19]).bind fun v20 =>
        if ((v20 != 0) || (!a1.isSome)) = true then
         some v20
         else if a1.isSome = true then
          if a1.isSome = true then
           if (a2 != 0) = true then
            if 0 ≤ 0 ∧ 0 < (x0.length : Int) then
             if a1.isSome = true then
              if a1.isSome = true then
               if 0 ≤ 0 ∧ 0 < (((a1.getD default).2.1).length : Int) then
                (r48 (((decide (x1 > ((a1.getD default).1))) && (decide ((IntKind.i64.wrap (a2 * ((x0.getD 0 default).1))) ≥ (IntKind.i64.wrap (a2 * ((((a1.getD default).2.1).getD 0 default).1)))))) && (decide ((IntKind.i64.wrap (a2 * ((x0.getD 0 default).2))) ≥ (IntKind.i64.wrap (a2 * ((((a1.getD default).2.1).getD 0 default).2)))))) 9).bind fun v21 =>
                 some v21
                else none
               else none
              else none
             else none
            else (r48 (decide (x1 > ((a1.getD default).1))) 9).bind fun v26 =>
             some v26
           else none
          else none
     else none)
def b108_3 (x1 : Int) (x0 : List (Int × Int)) (x2 : Int) (a1 : Option (Int × (List (Int × Int)) × Int)) (a2 : Int) : (Int) → Ctl (Int) (Int) := fun s3 =>
  if (decide (s3 < (x0.length : Int))) = true then
   if 0 ≤ s3 ∧ s3 < (x0.length : Int) then
    bindC (r129 ((x0.getD s3.toNat default).1) ((x0.getD s3.toNat default).2)) fun v31 =>
     if v31 = true then
      .out ((r85 x1).bind fun v32 =>
       if (v32 && (!(decide ((-1) ≥ 0)))) = true → (r82 x2).isSome = true then
        (r48 ((v32 && (!(decide ((-1) ≥ 0)))) && ((r82 x2).getD default)) 2).bind fun v33 =>
         (r48 (!(decide (s3 ≥ 0))) 3).bind fun v34 =>
          (r45 [v33, v34]).bind fun v35 =>
           if ((v35 != 0) || (!a1.isSome)) = true then
            some v35
            else if a1.isSome = true then
             if a1.isSome = true then
              if (a2 != 0) = true then
               if 0 ≤ 0 ∧ 0 < (x0.length : Int) then
                if a1.isSome = true then
                 if a1.isSome = true then
                  if 0 ≤ 0 ∧ 0 < (((a1.getD default).2.1).length : Int) then
                   (r48 (((decide (x1 > ((a1.getD default).1))) && (decide ((IntKind.i64.wrap (a2 * ((x0.getD 0 default).1))) ≥ (IntKind.i64.wrap (a2 * ((((a1.getD default).2.1).getD 0 default).1)))))) && (decide ((IntKind.i64.wrap (a2 * ((x0.getD 0 default).2))) ≥ (IntKind.i64.wrap (a2 * ((((a1.getD default).2.1).getD 0 default).2)))))) 9).bind fun v36 =>
                    some v36
                   else none
                  else none
                 else none
                else none
               else (r48 (decide (x1 > ((a1.getD default).1))) 9).bind fun v41 =>
                some v41
              else none
             else none
        else none)
      else .next (IntKind.i64.wrap (s3 + 1))
    else .out none
   else .out ((r85 x1).bind fun v46 =>
    if (v46 && (!(decide ((-1) ≥ 0)))) = true → (r82 x2).isSome = true then
     (r48 ((v46 && (!(decide ((-1) ≥ 0)))) && ((r82 x2).getD default)) 2).bind fun v47 =>
      (r48 (!(decide ((-1) ≥ 0))) 3).bind fun v48 =>
       (r45 [v47, v48]).bind fun v49 =>
        if ((v49 != 0) || (!a1.isSome)) = true then
         some v49
         else if a1.isSome = true then
          if a1.isSome = true then
           if (a2 != 0) = true then
            if 0 ≤ 0 ∧ 0 < (x0.length : Int) then
             if a1.isSome = true then
              if a1.isSome = true then
               if 0 ≤ 0 ∧ 0 < (((a1.getD default).2.1).length : Int) then
                (r48 (((decide (x1 > ((a1.getD default).1))) && (decide ((IntKind.i64.wrap (a2 * ((x0.getD 0 default).1))) ≥ (IntKind.i64.wrap (a2 * ((((a1.getD default).2.1).getD 0 default).1)))))) && (decide ((IntKind.i64.wrap (a2 * ((x0.getD 0 default).2))) ≥ (IntKind.i64.wrap (a2 * ((((a1.getD default).2.1).getD 0 default).2)))))) 9).bind fun v50 =>
                 some v50
                else none
               else none
              else none
             else none
            else (r48 (decide (x1 > ((a1.getD default).1))) 9).bind fun v55 =>
             some v55
           else none
          else none
     else none)
def b108_1 (x1 : Int) (x0 : List (Int × Int)) (x2 : Int) (a1 : Option (Int × (List (Int × Int)) × Int)) (a2 : Int) : (Int) → Ctl (Int) (Int) := fun s1 =>
  if (decide (s1 < (x0.length : Int))) = true then
   if 0 ≤ s1 ∧ s1 < (x0.length : Int) then
    bindC (r128 ((x0.getD s1.toNat default).1) ((x0.getD s1.toNat default).2)) fun v1 =>
     if v1 = true then
      .out (iterC (b108_2 x1 x0 x2 a1 a2 s1) 1000000000 0)
      else .next (IntKind.i64.wrap (s1 + 1))
    else .out none
   else .out (iterC (b108_3 x1 x0 x2 a1 a2) 1000000000 0)
def r108 (x1 : Int) (x0 : List (Int × Int)) (x2 : Int) (a1 : Option (Int × (List (Int × Int)) × Int)) (a2 : Int) : Option (Int) :=
  iterC (b108_1 x1 x0 x2 a1 a2) 1000000000 0
def T108 : TSpec qA7 := mkT qE7 qd7 (fun ⟨x1, x0, x2, a1, a2⟩ => r108 x1 x0 x2 a1 a2) qu4 false
theorem TP108 (c0 c1 c2 c3 c4 : D) : T108.sp.pre [.agg [c0, c1, c2], .c c3, .c c4] = (eqvArgs (qt7 c0 c1 c2 c3 c4) (qp7 qw7 c0 c1 c2 c3 c4) ∧ (qp7 r108 c0 c1 c2 c3 c4).isSome = true) := (rfl)
theorem TR108 (c0 c1 c2 c3 c4 : D) : T108.sp.res [.agg [c0, c1, c2], .c c3, .c c4] = qu4 ((qp7 r108 c0 c1 c2 c3 c4).getD default) := (rfl)
theorem TA108 : T108.sp.alias = false := (rfl)
def tb108 : Fns := lk [(45, T45.sp), (48, T48.sp), (82, T82.sp), (85, T85.sp), (128, T128.sp), (129, T129.sp)]
theorem tb108_ok : FnsOk Tryz.prog tb108 := .cons f45 (.cons f48 (.cons f82 (.cons f85 (.cons f128 (.cons f129 (FnsOk.nil))))))
theorem tb108_45 : tb108 45 = some T45.sp := rfl
theorem tb108_48 : tb108 48 = some T48.sp := rfl
theorem tb108_82 : tb108 82 = some T82.sp := rfl
theorem tb108_85 : tb108 85 = some T85.sp := rfl
theorem tb108_128 : tb108 128 = some T128.sp := rfl
theorem tb108_129 : tb108 129 = some T129.sp := rfl
attribute [go_sem] TP108 TR108 TA108
section
attribute [local go_sem] T108 tb108_45 tb108_48 tb108_82 tb108_85 tb108_128 tb108_129 Tryz.results108 Tryz.results77 Tryz.results127
theorem v108 : Valid Tryz.prog 108 T108.sp := by
 refine valid_t (fn := Tryz.f108) (n := 88) ty_ok tb108_ok Tryz.func108 rfl Tryz.ntmps108 ?_
 rintro ⟨x1, x0, x2, a1, a2⟩ hx
 obtain ⟨r, hr⟩ := oE (show (r108 x1 x0 x2 a1 a2).isSome = true from hx)
 have hres : T108.res (x1, x0, x2, a1, a2) = qu4 r := by simp only [T108, mkT, hr, oG]
 refine ⟨nL rfl, fun stop S => ?_⟩
 rw [hres] at S
 unfold r108 at hr
 refine S.gx [1, 2, 5, 7, 10] ?_
 repeat refine gA ?_
 refine S.inl 2 [1, 2, 3] [] Tryz.func127 (by decide) rfl Tryz.ntmps127 (fun cx e => drawn_ok ty_ok tb108_ok cx e) (some 15) rfl rfl rfl rfl (nL rfl) (nL rfl) ?_
 refine gs ?_
 repeat refine gA ?_
 intro stop1 S1
 refine S1.gx [1] ?_
 repeat refine gA ?_
 refine S1.inl 2 [4] [] Tryz.func77 (by decide) rfl Tryz.ntmps77 (fun cx e => drawn_ok ty_ok tb108_ok cx e) (some 7) rfl rfl rfl rfl (nL rfl) (nL rfl) ?_
 refine gs ?_
 repeat refine gA ?_
 intro stop2 S2
 refine S2.gx [4] ?_
 repeat refine gA ?_
 refine S2.sees [0, 1, 7, 8] [(3, 3)] [] ?_ (Stop.iter S2 (fun s1 => ⟨[(0, .c (.d (encF 2 d_II x0))), (1, .c (.clo 128 [])), (7, .c (.d (.int .i64 (x0.length : Int)))), (8, .c (.d (.int .i64 s1)))], [(3, [.d (.int .i64 x1), .d (encF 2 d_II x0), .d (.int .i64 x2)])], []⟩) (b108_1 x1 x0 x2 a1 a2) (fun q => q = r) hr rfl ?_)
 ·exact lf
 ·intro s1 hr
  unfold b108_1 at hr
  refine S2.gx [4] ?_
  repeat refine gA ?_
  refine ⟨?_, ?_⟩ <;> intro hc
  ·have hr := ifP1 hr hc
   repeat refine gA ?_
   refine S2.gx [] ?_
   obtain ⟨hg30, hr⟩ := of_guard1 hr
   obtain ⟨v1, hv1, hr⟩ := of_bind1 hr
   try simp only [hv1, oG, oI, true_and, and_assoc]
   repeat refine gA ?_
   refine ⟨?_, ?_⟩ <;> intro hc
   ·have hr := ifP1 hr hc
    repeat refine gA ?_
    have hr := of_out0 hr
    repeat refine gA ?_
    refine S1.gx [1] ?_
    repeat refine gA ?_
    refine S.gx [1, 2, 5, 7, 10] ?_
    repeat refine gA ?_
    refine S.inl 2 [1, 2, 3, 7] [] Tryz.func127 (by decide) rfl Tryz.ntmps127 (fun cx e => drawn_ok ty_ok tb108_ok cx e) (some 18) rfl rfl rfl rfl (nL rfl) (nL rfl) ?_
    refine gs ?_
    repeat refine gA ?_
    intro stop1 S1
    refine S1.gx [1] ?_
    repeat refine gA ?_
    refine S1.inl 2 [4] [] Tryz.func77 (by decide) rfl Tryz.ntmps77 (fun cx e => drawn_ok ty_ok tb108_ok cx e) (some 7) rfl rfl rfl rfl (nL rfl) (nL rfl) ?_
    refine gs ?_
    repeat refine gA ?_
    intro stop2 S2
    refine S2.gx [4] ?_
    repeat refine gA ?_
    refine S2.sees [0, 1, 7, 8] [(3, 3)] [] ?_ (Stop.iter S2 (fun s2 => ⟨[(0, .c (.d (encF 2 d_II x0))), (1, .c (.clo 129 [])), (7, .c (.d (.int .i64 (x0.length : Int)))), (8, .c (.d (.int .i64 s2)))], [(3, [.d (.int .i64 x1), .d (encF 2 d_II x0), .d (.int .i64 x2)])], []⟩) (b108_2 x1 x0 x2 a1 a2 s1) (fun q => q = r) hr rfl ?_)
    ·exact lf
    ·intro s2 hr
     unfold b108_2 at hr
     refine S2.gx [4] ?_
     repeat refine gA ?_
     refine ⟨?_, ?_⟩ <;> intro hc
     ·have hr := ifP1 hr hc
      repeat refine gA ?_
      refine S2.gx [] ?_
      obtain ⟨hg16, hr⟩ := of_guard1 hr
      obtain ⟨v2, hv2, hr⟩ := of_bind1 hr
      try simp only [hv2, oG, oI, true_and, and_assoc]
      repeat refine gA ?_
      refine ⟨?_, ?_⟩ <;> intro hc
      ·have hr := ifP1 hr hc
       repeat refine gA ?_
       have hr := of_out0 hr
       repeat refine gA ?_
       refine S1.gx [1] ?_
       repeat refine gA ?_
       refine S.gx [1, 2, 5, 7, 10] ?_
       obtain ⟨v3, hv3, hr⟩ := of_bind0 hr
       obtain ⟨hg15, hr⟩ := of_guard0 hr
       obtain ⟨v4, hv4, hr⟩ := of_bind0 hr
       obtain ⟨v5, hv5, hr⟩ := of_bind0 hr
       obtain ⟨v6, hv6, hr⟩ := of_bind0 hr
       try simp only [hv3, hv4, hv5, hv6, Option.getD_some, Option.isSome_some, true_and, and_assoc]
       repeat (first | refine gG hg15 ?_ | refine gA ?_ | refine gB ?_)
       refine ⟨?_, ?_⟩ <;> intro hc
       ·have hr := ifP hr hc
        repeat refine gA ?_
        refine S.prune [9] ?_
        refine S.gx [1, 2, 7, 10] ?_
        repeat refine gA ?_
        cases hr
        exact lf
       ·have hr := ifN hr hc
        obtain ⟨hg13, hr⟩ := of_guard0 hr
        obtain ⟨hg14, hr⟩ := of_guard0 hr
        repeat refine gA ?_
        refine S.prune [1, 2, 3, 10] ?_
        refine S.gx [1, 2, 5, 10] ?_
        repeat refine gA ?_
        refine ⟨?_, ?_⟩ <;> intro hc
        ·have hr := ifP hr hc
         obtain ⟨hg8, hr⟩ := of_guard0 hr
         obtain ⟨hg9, hr⟩ := of_guard0 hr
         obtain ⟨hg10, hr⟩ := of_guard0 hr
         obtain ⟨hg11, hr⟩ := of_guard0 hr
         repeat (first | refine gA ?_ | refine gB ?_)
         refine S.prune [10] ?_
         refine S.gx [1, 2, 5, 7] ?_
         obtain ⟨v7, hv7, hr⟩ := of_bind0 hr
         try simp only [hv7, oG, oI, true_and, and_assoc]
         repeat refine gA ?_
         cases hr
         exact lf
        ·have hr := ifN hr hc
         repeat refine gA ?_
         refine S.prune [10] ?_
         refine S.gx [1, 2, 5, 7] ?_
         obtain ⟨v12, hv12, hr⟩ := of_bind0 hr
         try simp only [hv12, oG, oI, true_and, and_assoc]
         repeat refine gA ?_
         cases hr
         exact lf
      ·have hr := ifN1 hr hc
       repeat refine gA ?_
       refine S2.sees [0, 1, 7, 8] [(3, 3)] [] ?_ hr
       exact lf
     ·have hr := ifN1 hr hc
      repeat refine gA ?_
      have hr := of_out0 hr
      repeat refine gA ?_
      refine S1.gx [1] ?_
      repeat refine gA ?_
      refine S.gx [1, 2, 5, 7, 10] ?_
      obtain ⟨v17, hv17, hr⟩ := of_bind0 hr
      obtain ⟨hg29, hr⟩ := of_guard0 hr
      obtain ⟨v18, hv18, hr⟩ := of_bind0 hr
      obtain ⟨v19, hv19, hr⟩ := of_bind0 hr
      obtain ⟨v20, hv20, hr⟩ := of_bind0 hr
      try simp only [hv17, hv18, hv19, hv20, Option.getD_some, Option.isSome_some, true_and, and_assoc]
      repeat (first | refine gG hg29 ?_ | refine gA ?_ | refine gB ?_)
      refine ⟨?_, ?_⟩ <;> intro hc
      ·have hr := ifP hr hc
       repeat refine gA ?_
       refine S.prune [9] ?_
       refine S.gx [1, 2, 7, 10] ?_
       repeat refine gA ?_
       cases hr
       exact lf
      ·have hr := ifN hr hc
       obtain ⟨hg27, hr⟩ := of_guard0 hr
       obtain ⟨hg28, hr⟩ := of_guard0 hr
       repeat refine gA ?_
       refine S.prune [1, 2, 3, 10] ?_
       refine S.gx [1, 2, 5, 10] ?_
       repeat refine gA ?_
       refine ⟨?_, ?_⟩ <;> intro hc
       ·have hr := ifP hr hc
        obtain ⟨hg22, hr⟩ := of_guard0 hr
        obtain ⟨hg23, hr⟩ := of_guard0 hr
        obtain ⟨hg24, hr⟩ := of_guard0 hr
        obtain ⟨hg25, hr⟩ := of_guard0 hr
        repeat (first | refine gA ?_ | refine gB ?_)
        refine S.prune [10] ?_
        refine S.gx [1, 2, 5, 7] ?_
        obtain ⟨v21, hv21, hr⟩ := of_bind0 hr
        try simp only [hv21, oG, oI, true_and, and_assoc]
        repeat refine gA ?_
        cases hr
        exact lf
       ·have hr := ifN hr hc
        repeat refine gA ?_
        refine S.prune [10] ?_
        refine S.gx [1, 2, 5, 7] ?_
        obtain ⟨v26, hv26, hr⟩ := of_bind0 hr
        try simp only [hv26, oG, oI, true_and, and_assoc]
        repeat refine gA ?_
        cases hr
        exact lf
   ·have hr := ifN1 hr hc
    repeat refine gA ?_
    refine S2.sees [0, 1, 7, 8] [(3, 3)] [] ?_ hr
    exact lf
  ·have hr := ifN1 hr hc
   repeat refine gA ?_
   have hr := of_out0 hr
   repeat refine gA ?_
   refine S1.gx [1] ?_
   repeat refine gA ?_
   refine S.gx [1, 2, 5, 7, 10] ?_
   repeat refine gA ?_
   refine S.inl 2 [1, 2, 3, 7] [] Tryz.func127 (by decide) rfl Tryz.ntmps127 (fun cx e => drawn_ok ty_ok tb108_ok cx e) (some 18) rfl rfl rfl rfl (nL rfl) (nL rfl) ?_
   refine gs ?_
   repeat refine gA ?_
   intro stop1 S1
   refine S1.gx [1] ?_
   repeat refine gA ?_
   refine S1.inl 2 [4] [] Tryz.func77 (by decide) rfl Tryz.ntmps77 (fun cx e => drawn_ok ty_ok tb108_ok cx e) (some 7) rfl rfl rfl rfl (nL rfl) (nL rfl) ?_
   refine gs ?_
   repeat refine gA ?_
   intro stop2 S2
   refine S2.gx [4] ?_
   repeat refine gA ?_
   refine S2.sees [0, 1, 7, 8] [(3, 3)] [] ?_ (Stop.iter S2 (fun s3 => ⟨[(0, .c (.d (encF 2 d_II x0))), (1, .c (.clo 129 [])), (7, .c (.d (.int .i64 (x0.length : Int)))), (8, .c (.d (.int .i64 s3)))], [(3, [.d (.int .i64 x1), .d (encF 2 d_II x0), .d (.int .i64 x2)])], []⟩) (b108_3 x1 x0 x2 a1 a2) (fun q => q = r) hr rfl ?_)
   ·exact lf
   ·intro s3 hr
    unfold b108_3 at hr
    refine S2.gx [4] ?_
    repeat refine gA ?_
    refine ⟨?_, ?_⟩ <;> intro hc
    ·have hr := ifP1 hr hc
     repeat refine gA ?_
     refine S2.gx [] ?_
     obtain ⟨hg45, hr⟩ := of_guard1 hr
     obtain ⟨v31, hv31, hr⟩ := of_bind1 hr
     try simp only [hv31, oG, oI, true_and, and_assoc]
     repeat refine gA ?_
     refine ⟨?_, ?_⟩ <;> intro hc
     ·have hr := ifP1 hr hc
      repeat refine gA ?_
      have hr := of_out0 hr
      repeat refine gA ?_
      refine S1.gx [1] ?_
      repeat refine gA ?_
      refine S.gx [1, 2, 5, 7, 10] ?_
      obtain ⟨v32, hv32, hr⟩ := of_bind0 hr
      obtain ⟨hg44, hr⟩ := of_guard0 hr
      obtain ⟨v33, hv33, hr⟩ := of_bind0 hr
      obtain ⟨v34, hv34, hr⟩ := of_bind0 hr
      obtain ⟨v35, hv35, hr⟩ := of_bind0 hr
      try simp only [hv32, hv33, hv34, hv35, Option.getD_some, Option.isSome_some, true_and, and_assoc]
      repeat (first | refine gG hg44 ?_ | refine gA ?_ | refine gB ?_)
      refine ⟨?_, ?_⟩ <;> intro hc
      ·have hr := ifP hr hc
       repeat refine gA ?_
       refine S.prune [9] ?_
       refine S.gx [1, 2, 7, 10] ?_
       repeat refine gA ?_
       cases hr
       exact lf
      ·have hr := ifN hr hc
       obtain ⟨hg42, hr⟩ := of_guard0 hr
       obtain ⟨hg43, hr⟩ := of_guard0 hr
       repeat refine gA ?_
       refine S.prune [1, 2, 3, 10] ?_
       refine S.gx [1, 2, 5, 10] ?_
       repeat refine gA ?_
       refine ⟨?_, ?_⟩ <;> intro hc
       ·have hr := ifP hr hc
        obtain ⟨hg37, hr⟩ := of_guard0 hr
        obtain ⟨hg38, hr⟩ := of_guard0 hr
        obtain ⟨hg39, hr⟩ := of_guard0 hr
        obtain ⟨hg40, hr⟩ := of_guard0 hr
        repeat (first | refine gA ?_ | refine gB ?_)
        refine S.prune [10] ?_
        refine S.gx [1, 2, 5, 7] ?_
        obtain ⟨v36, hv36, hr⟩ := of_bind0 hr
        try simp only [hv36, oG, oI, true_and, and_assoc]
        repeat refine gA ?_
        cases hr
        exact lf
       ·have hr := ifN hr hc
        repeat refine gA ?_
        refine S.prune [10] ?_
        refine S.gx [1, 2, 5, 7] ?_
        obtain ⟨v41, hv41, hr⟩ := of_bind0 hr
        try simp only [hv41, oG, oI, true_and, and_assoc]
        repeat refine gA ?_
        cases hr
        exact lf
     ·have hr := ifN1 hr hc
      repeat refine gA ?_
      refine S2.sees [0, 1, 7, 8] [(3, 3)] [] ?_ hr
      exact lf
    ·have hr := ifN1 hr hc
     repeat refine gA ?_
     have hr := of_out0 hr
     repeat refine gA ?_
     refine S1.gx [1] ?_
     repeat refine gA ?_
     refine S.gx [1, 2, 5, 7, 10] ?_
     obtain ⟨v46, hv46, hr⟩ := of_bind0 hr
     obtain ⟨hg58, hr⟩ := of_guard0 hr
     obtain ⟨v47, hv47, hr⟩ := of_bind0 hr
     obtain ⟨v48, hv48, hr⟩ := of_bind0 hr
     obtain ⟨v49, hv49, hr⟩ := of_bind0 hr
     try simp only [hv46, hv47, hv48, hv49, Option.getD_some, Option.isSome_some, true_and, and_assoc]
     repeat (first | refine gG hg58 ?_ | refine gA ?_ | refine gB ?_)
     refine ⟨?_, ?_⟩ <;> intro hc
     ·have hr := ifP hr hc
      repeat refine gA ?_
      refine S.prune [9] ?_
      refine S.gx [1, 2, 7, 10] ?_
      repeat refine gA ?_
      cases hr
      exact lf
     ·have hr := ifN hr hc
      obtain ⟨hg56, hr⟩ := of_guard0 hr
      obtain ⟨hg57, hr⟩ := of_guard0 hr
      repeat refine gA ?_
      refine S.prune [1, 2, 3, 10] ?_
      refine S.gx [1, 2, 5, 10] ?_
      repeat refine gA ?_
      refine ⟨?_, ?_⟩ <;> intro hc
      ·have hr := ifP hr hc
       obtain ⟨hg51, hr⟩ := of_guard0 hr
       obtain ⟨hg52, hr⟩ := of_guard0 hr
       obtain ⟨hg53, hr⟩ := of_guard0 hr
       obtain ⟨hg54, hr⟩ := of_guard0 hr
       repeat (first | refine gA ?_ | refine gB ?_)
       refine S.prune [10] ?_
       refine S.gx [1, 2, 5, 7] ?_
       obtain ⟨v50, hv50, hr⟩ := of_bind0 hr
       try simp only [hv50, oG, oI, true_and, and_assoc]
       repeat refine gA ?_
       cases hr
       exact lf
      ·have hr := ifN hr hc
       repeat refine gA ?_
       refine S.prune [10] ?_
       refine S.gx [1, 2, 5, 7] ?_
       obtain ⟨v55, hv55, hr⟩ := of_bind0 hr
       try simp only [hv55, oG, oI, true_and, and_assoc]
       repeat refine gA ?_
       cases hr
       exact lf
theorem f108 : FnFact Tryz.prog 108 T108.sp := ⟨⟨Tryz.f108, Tryz.func108, by decide, rfl⟩, v108⟩
end

/- martensite/steel.CheckRules$1 -/
def r109 (a0 : Int) : Option (Bool) :=
  (r66 a0 0 2000).bind fun v1 =>
   some (!v1)
def T109 : TSpec qA3 := mkT qE3 qd3 r109 qu3 false
theorem TP109 (c0 : D) : T109.sp.pre [.c c0] = (eqvArgs (qt3 c0) (qp3 qw3 c0) ∧ (qp3 r109 c0).isSome = true) := (rfl)
theorem TR109 (c0 : D) : T109.sp.res [.c c0] = qu3 ((qp3 r109 c0).getD default) := (rfl)
theorem TA109 : T109.sp.alias = false := (rfl)
def tb109 : Fns := lk [(66, T66.sp)]
theorem tb109_ok : FnsOk Tryz.prog tb109 := .cons f66 (FnsOk.nil)
theorem tb109_66 : tb109 66 = some T66.sp := rfl
attribute [go_sem] TP109 TR109 TA109
section
attribute [local go_sem] T109 tb109_66 Tryz.results109
theorem v109 : Valid Tryz.prog 109 T109.sp := by
 refine valid_t (fn := Tryz.f109) (n := 6) ty_ok tb109_ok Tryz.func109 rfl Tryz.ntmps109 ?_
 rintro a0 hx
 obtain ⟨r, hr⟩ := oE (show (r109 a0).isSome = true from hx)
 have hres : T109.res a0 = qu3 r := by simp only [T109, mkT, hr, oG]
 refine ⟨nL rfl, fun stop S => ?_⟩
 rw [hres] at S
 unfold r109 at hr
 refine S.gx [] ?_
 obtain ⟨v1, hv1, hr⟩ := of_bind0 hr
 try simp only [hv1, oG, oI, true_and, and_assoc]
 repeat refine gA ?_
 cases hr
 exact lf
theorem f109 : FnFact Tryz.prog 109 T109.sp := ⟨⟨Tryz.f109, Tryz.func109, by decide, rfl⟩, v109⟩
end

/- slices.IndexFunc[[]int,int] -/
def b111_1 (a0 : List (Int)) : (Int) → Ctl (Int) (Int) := fun s1 =>
  if (decide (s1 < (a0.length : Int))) = true then
   if 0 ≤ s1 ∧ s1 < (a0.length : Int) then
    bindC (r109 (a0.getD s1.toNat default)) fun v1 =>
     if v1 = true then
      .out (some s1)
      else .next (IntKind.i64.wrap (s1 + 1))
    else .out none
   else .out (some (-1))
def r111 (a0 : List (Int)) : Option (Int) :=
  iterC (b111_1 a0) 1000000000 0
def T111 : TSpec qA8 := mkT qE8 qd8 r111 qu4 false
theorem TP111 (c0 : D) : T111.sp.pre [.c c0, .clo 109 []] = (eqvArgs (qt8 c0) (qp8 qw8 c0) ∧ (qp8 r111 c0).isSome = true) := (rfl)
theorem TR111 (c0 : D) : T111.sp.res [.c c0, .clo 109 []] = qu4 ((qp8 r111 c0).getD default) := (rfl)
theorem TA111 : T111.sp.alias = false := (rfl)
def tb111 : Fns := lk [(109, T109.sp)]
theorem tb111_ok : FnsOk Tryz.prog tb111 := .cons f109 (FnsOk.nil)
theorem tb111_109 : tb111 109 = some T109.sp := rfl
attribute [go_sem] TP111 TR111 TA111
section
attribute [local go_sem] T111 tb111_109 Tryz.results111
theorem v111 : Valid Tryz.prog 111 T111.sp := by
 refine valid_t (fn := Tryz.f111) (n := 19) ty_ok tb111_ok Tryz.func111 rfl Tryz.ntmps111 ?_
 rintro a0 hx
 obtain ⟨r, hr⟩ := oE (show (r111 a0).isSome = true from hx)
 have hres : T111.res a0 = qu4 r := by simp only [T111, mkT, hr, oG]
 refine ⟨nL rfl, fun stop S => ?_⟩
 rw [hres] at S
 unfold r111 at hr
 refine S.gx [] ?_
 repeat refine gA ?_
 refine S.sees [0, 1, 7, 8] [] [] ?_ (Stop.iter S (fun s1 => ⟨[(0, .c (.d (encF 1 d_I a0))), (1, .c (.clo 109 [])), (7, .c (.d (.int .i64 (a0.length : Int)))), (8, .c (.d (.int .i64 s1)))], [], []⟩) (b111_1 a0) (fun q => q = r) hr rfl ?_)
 ·exact lf
 ·intro s1 hr
  unfold b111_1 at hr
  refine S.gx [] ?_
  repeat refine gA ?_
  refine ⟨?_, ?_⟩ <;> intro hc
  ·have hr := ifP1 hr hc
   obtain ⟨hg2, hr⟩ := of_guard1 hr
   obtain ⟨v1, hv1, hr⟩ := of_bind1 hr
   try simp only [hv1, oG, oI, true_and, and_assoc]
   repeat refine gA ?_
   refine ⟨?_, ?_⟩ <;> intro hc
   ·have hr := ifP1 hr hc
    repeat refine gA ?_
    have hr := of_out0 hr
    cases hr
    exact lf
   ·have hr := ifN1 hr hc
    repeat refine gA ?_
    refine S.sees [0, 1, 7, 8] [] [] ?_ hr
    exact lf
  ·have hr := ifN1 hr hc
   repeat refine gA ?_
   have hr := of_out0 hr
   repeat refine gA ?_
   cases hr
   exact lf
theorem f111 : FnFact Tryz.prog 111 T111.sp := ⟨⟨Tryz.f111, Tryz.func111, by decide, rfl⟩, v111⟩
end

/- slices.ContainsFunc[[]int,int] -/
def r83 (a0 : List (Int)) : Option (Bool) :=
  (r111 a0).bind fun v1 =>
   some (decide (v1 ≥ 0))
def T83 : TSpec qA8 := mkT qE8 qd8 r83 qu3 false
theorem TP83 (c0 : D) : T83.sp.pre [.c c0, .clo 109 []] = (eqvArgs (qt8 c0) (qp8 qw8 c0) ∧ (qp8 r83 c0).isSome = true) := (rfl)
theorem TR83 (c0 : D) : T83.sp.res [.c c0, .clo 109 []] = qu3 ((qp8 r83 c0).getD default) := (rfl)
theorem TA83 : T83.sp.alias = false := (rfl)
def tb83 : Fns := lk [(111, T111.sp)]
theorem tb83_ok : FnsOk Tryz.prog tb83 := .cons f111 (FnsOk.nil)
theorem tb83_111 : tb83 111 = some T111.sp := rfl
attribute [go_sem] TP83 TR83 TA83
section
attribute [local go_sem] T83 tb83_111 Tryz.results83
theorem v83 : Valid Tryz.prog 83 T83.sp := by
 refine valid_t (fn := Tryz.f83) (n := 9) ty_ok tb83_ok Tryz.func83 rfl Tryz.ntmps83 ?_
 rintro a0 hx
 obtain ⟨r, hr⟩ := oE (show (r83 a0).isSome = true from hx)
 have hres : T83.res a0 = qu3 r := by simp only [T83, mkT, hr, oG]
 refine ⟨nL rfl, fun stop S => ?_⟩
 rw [hres] at S
 unfold r83 at hr
 refine S.gx [] ?_
 obtain ⟨v1, hv1, hr⟩ := of_bind0 hr
 try simp only [hv1, oG, oI, true_and, and_assoc]
 repeat refine gA ?_
 cases hr
 exact lf
theorem f83 : FnFact Tryz.prog 83 T83.sp := ⟨⟨Tryz.f83, Tryz.func83, by decide, rfl⟩, v83⟩
end

/- cmp.isNaN[int] -/
def r135 (a0 : Int) : Option (Bool) :=
  some (a0 != a0)
def T135 : TSpec qA3 := mkT qE3 qd3 r135 qu3 false
theorem TP135 (c0 : D) : T135.sp.pre [.c c0] = (eqvArgs (qt3 c0) (qp3 qw3 c0) ∧ (qp3 r135 c0).isSome = true) := (rfl)
theorem TR135 (c0 : D) : T135.sp.res [.c c0] = qu3 ((qp3 r135 c0).getD default) := (rfl)
theorem TA135 : T135.sp.alias = false := (rfl)
def tb135 : Fns := lk []
theorem tb135_ok : FnsOk Tryz.prog tb135 := FnsOk.nil
attribute [go_sem] TP135 TR135 TA135
section
attribute [local go_sem] T135 Tryz.results135
theorem v135 : Valid Tryz.prog 135 T135.sp := by
 refine valid_t (fn := Tryz.f135) (n := 6) ty_ok tb135_ok Tryz.func135 rfl Tryz.ntmps135 ?_
 rintro a0 hx
 obtain ⟨r, hr⟩ := oE (show (r135 a0).isSome = true from hx)
 have hres : T135.res a0 = qu3 r := by simp only [T135, mkT, hr, oG]
 refine ⟨nL rfl, fun stop S => ?_⟩
 rw [hres] at S
 unfold r135 at hr
 refine S.gx [] ?_
 repeat refine gA ?_
 cases hr
 exact lf
theorem f135 : FnFact Tryz.prog 135 T135.sp := ⟨⟨Tryz.f135, Tryz.func135, by decide, rfl⟩, v135⟩
end

/- cmp.Less[int] -/
def r130 (a0 : Int) (a1 : Int) : Option (Bool) :=
  (r135 a0).bind fun v1 =>
   if v1 = true → (r135 a1).isSome = true then
    some ((v1 && (!((r135 a1).getD default))) || (decide (a0 < a1)))
    else none
def T130 : TSpec qA9 := mkT qE9 qd9 (fun ⟨a0, a1⟩ => r130 a0 a1) qu3 false
theorem TP130 (c0 c1 : D) : T130.sp.pre [.c c0, .c c1] = (eqvArgs (qt9 c0 c1) (qp9 qw9 c0 c1) ∧ (qp9 r130 c0 c1).isSome = true) := (rfl)
theorem TR130 (c0 c1 : D) : T130.sp.res [.c c0, .c c1] = qu3 ((qp9 r130 c0 c1).getD default) := (rfl)
theorem TA130 : T130.sp.alias = false := (rfl)
def tb130 : Fns := lk [(135, T135.sp)]
theorem tb130_ok : FnsOk Tryz.prog tb130 := .cons f135 (FnsOk.nil)
theorem tb130_135 : tb130 135 = some T135.sp := rfl
attribute [go_sem] TP130 TR130 TA130
section
attribute [local go_sem] T130 tb130_135 Tryz.results130
theorem v130 : Valid Tryz.prog 130 T130.sp := by
 refine valid_t (fn := Tryz.f130) (n := 17) ty_ok tb130_ok Tryz.func130 rfl Tryz.ntmps130 ?_
 rintro ⟨a0, a1⟩ hx
 obtain ⟨r, hr⟩ := oE (show (r130 a0 a1).isSome = true from hx)
 have hres : T130.res (a0, a1) = qu3 r := by simp only [T130, mkT, hr, oG]
 refine ⟨nL rfl, fun stop S => ?_⟩
 rw [hres] at S
 unfold r130 at hr
 refine S.gx [] ?_
 obtain ⟨v1, hv1, hr⟩ := of_bind0 hr
 obtain ⟨hg2, hr⟩ := of_guard0 hr
 try simp only [hv1, oG, oI, true_and, and_assoc]
 repeat (first | refine gG hg2 ?_ | refine gA ?_ | refine gB ?_)
 cases hr
 exact lf
theorem f130 : FnFact Tryz.prog 130 T130.sp := ⟨⟨Tryz.f130, Tryz.func130, by decide, rfl⟩, v130⟩
end
end Go.Proofs.YtfkmbdfajpdjjaaGreatDoor

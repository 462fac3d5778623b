/- Contracts of functions, written by wip/dec. -/
import Derived.Test.YtfkmbdfajpdjjaaDoorF00
set_option linter.unusedVariables false
set_option linter.unusedSimpArgs false
set_option maxHeartbeats 4000000
set_option maxRecDepth 20000
namespace Go.Proofs.YtfkmbdfajpdjjaaDoor
open Go.Abs
abbrev qA5 := Bool × Int
def qw5 (a0 : Bool) (a1 : Int) : List Arg := [.c (.bool a0), .c (.int .i64 a1)]
def qE5 : qA5 → List Arg := fun ⟨a0, a1⟩ => qw5 a0 a1
def qd5 (a : List Arg) : qA5 := (dBool (aCell a 0 0), dInt (aCell a 1 0))
def qp5 {β : Type} (f : Bool → Int → β) (c0 c1 : D) : β := f (dBool c0) (dInt c1)
def qt5 (c0 c1 : D) : List Arg := [.c c0, .c c1]
attribute [go_sem] qw5 qp5 qt5 qE5
abbrev qA7 := Int × (List (Int × Int)) × Int × (Option (Int × (List (Int × Int)) × Int)) × Int
def qw7 (a0 : Int) (a1 : List (Int × Int)) (a2 : Int) (a3 : Option (Int × (List (Int × Int)) × Int)) (a4 : Int) : List Arg := [.agg [.int .i64 a0, encF 2 d_II a1, .int .i64 a2], .c (encP d_ILIIEI a3), .c (.int .i64 a4)]
def qE7 : qA7 → List Arg := fun ⟨a0, a1, a2, a3, a4⟩ => qw7 a0 a1 a2 a3 a4
def qd7 (a : List Arg) : qA7 := (dInt (aCell a 0 0), decF g_II (aCell a 0 1), dInt (aCell a 0 2), decP g_ILIIEI (aCell a 1 0), dInt (aCell a 2 0))
def qp7 {β : Type} (f : Int → (List (Int × Int)) → Int → (Option (Int × (List (Int × Int)) × Int)) → Int → β) (c0 c1 c2 c3 c4 : D) : β := f (dInt c0) (decF g_II c1) (dInt c2) (decP g_ILIIEI c3) (dInt c4)
def qt7 (c0 c1 c2 c3 c4 : D) : List Arg := [.agg [c0, c1, c2], .c c3, .c c4]
attribute [go_sem] qw7 qp7 qt7 qE7
abbrev qA8 := (List (Int))
def qw8 (a0 : List (Int)) : List Arg := [.c (encF 1 d_I a0), .clo 65 []]
def qE8 : qA8 → List Arg := qw8
def qd8 (a : List Arg) : qA8 := decF g_I (aCell a 0 0)
def qp8 {β : Type} (f : (List (Int)) → β) (c0 : D) : β := f (decF g_I c0)
def qt8 (c0 : D) : List Arg := [.c c0, .clo 65 []]
attribute [go_sem] qw8 qp8 qt8 qE8
abbrev qA9 := Int × Int
def qw9 (a0 : Int) (a1 : Int) : List Arg := [.c (.int .i64 a0), .c (.int .i64 a1)]
def qE9 : qA9 → List Arg := fun ⟨a0, a1⟩ => qw9 a0 a1
def qd9 (a : List Arg) : qA9 := (dInt (aCell a 0 0), dInt (aCell a 1 0))
def qp9 {β : Type} (f : Int → Int → β) (c0 c1 : D) : β := f (dInt c0) (dInt c1)
def qt9 (c0 c1 : D) : List Arg := [.c c0, .c c1]
attribute [go_sem] qw9 qp9 qt9 qE9
def qu0 (v : (List (Int × Int × Int × Int)) × (List (Int × Int × Int × Int × Int)) × (List (Int × Int × Int)) × (List (Int × Int)) × Int × Int × Int × Int) : List RV := [.agg [.own (encF 4 d_IIII v.1), .own (encF 5 d_IIIII v.2.1), .own (encF 3 d_III v.2.2.1), .own (encF 2 d_II v.2.2.2.1), .d (.int .i64 v.2.2.2.2.1), .d (.int .i64 v.2.2.2.2.2.1), .d (.int .i64 v.2.2.2.2.2.2.1), .d (.int .i64 v.2.2.2.2.2.2.2)]]
attribute [go_sem] qu0
def qu2 (v : (List (Int × (List (Int × Int)) × Int)) × (List (Int × (List (Int × Int)) × Int)) × (List (Int × (List (Int × Int)) × Int)) × (List (Int × (List (Int × Int)) × Int))) : List RV := [.agg [.own (encF 3 d_ILIIEI v.1), .own (encF 3 d_ILIIEI v.2.1), .own (encF 3 d_ILIIEI v.2.2.1), .own (encF 3 d_ILIIEI v.2.2.2)]]
attribute [go_sem] qu2
/- martensite/martensitelaw04.Rules -/
def r59 : Option ((List (Int × Int × Int × Int)) × (List (Int × Int × Int × Int × Int)) × (List (Int × Int × Int)) × (List (Int × Int)) × Int × Int × Int × Int) :=
  some ([(1000, 200000, 400000, 10), (1200, 500000, 600000, 30)], [(600, 0, 0, 0, 0), (800, 200000, 500000, 50000, 100000)], [(300, 900000, 950000), (500, 100000, 300000)], [(400, 5)], 200, 250, 400, 800)
def T59 : TSpec qA0 := mkT qE0 qd0 (fun _ => r59) qu0 false
theorem TP59 : T59.sp.pre [] = (eqvArgs (qt0 ) (qp0 qw0 ) ∧ (qp0 r59).isSome = true) := (rfl)
theorem TR59 : T59.sp.res [] = qu0 ((qp0 r59).getD default) := (rfl)
theorem TA59 : T59.sp.alias = false := (rfl)
def tb59 : Fns := lk []
theorem tb59_ok : FnsOk Tryd.prog tb59 := FnsOk.nil
attribute [go_sem] TP59 TR59 TA59
section
attribute [local go_sem] T59 Tryd.results59
theorem v59 : Valid Tryd.prog 59 T59.sp := by
 refine valid_t (fn := Tryd.f59) (n := 20) ty_ok tb59_ok Tryd.func59 rfl Tryd.ntmps59 ?_
 intro _ hx
 obtain ⟨r, hr⟩ := oE (show (r59).isSome = true from hx)
 have hres : T59.res () = qu0 r := by simp only [T59, mkT, hr, oG]
 refine ⟨nL rfl, fun stop S => ?_⟩
 rw [hres] at S
 unfold r59 at hr
 refine S.gx [] ?_
 repeat refine gA ?_
 cases hr
 exact lf
theorem f59 : FnFact Tryd.prog 59 T59.sp := ⟨⟨Tryd.f59, Tryd.func59, by decide, rfl⟩, v59⟩
end

/- martensite/martensitelaw04.Parent -/
def r60 : Option (Int × Int × Int × Int × Int × Int × Int) :=
  some (1000000, 0, 0, 0, 0, 0, 0)
def T60 : TSpec qA0 := mkT qE0 qd0 (fun _ => r60) qu1 false
theorem TP60 : T60.sp.pre [] = (eqvArgs (qt0 ) (qp0 qw0 ) ∧ (qp0 r60).isSome = true) := (rfl)
theorem TR60 : T60.sp.res [] = qu1 ((qp0 r60).getD default) := (rfl)
theorem TA60 : T60.sp.alias = false := (rfl)
def tb60 : Fns := lk []
theorem tb60_ok : FnsOk Tryd.prog tb60 := FnsOk.nil
attribute [go_sem] TP60 TR60 TA60
section
attribute [local go_sem] T60 Tryd.results60
theorem v60 : Valid Tryd.prog 60 T60.sp := by
 refine valid_t (fn := Tryd.f60) (n := 2) ty_ok tb60_ok Tryd.func60 rfl Tryd.ntmps60 ?_
 intro _ hx
 obtain ⟨r, hr⟩ := oE (show (r60).isSome = true from hx)
 have hres : T60.res () = qu1 r := by simp only [T60, mkT, hr, oG]
 refine ⟨nL rfl, fun stop S => ?_⟩
 rw [hres] at S
 unfold r60 at hr
 refine S.gx [] ?_
 repeat refine gA ?_
 cases hr
 exact lf
theorem f60 : FnFact Tryd.prog 60 T60.sp := ⟨⟨Tryd.f60, Tryd.func60, by decide, rfl⟩, v60⟩
end

/- martensite/steel.kinds -/
def b62_4 (x0 : List (Int × Int)) (s1 : Int × (List (Int × (List (Int × Int)) × Int))) (s2 : Int × (List (Int × (List (Int × Int)) × Int))) (s3 : Int × (List (Int × (List (Int × Int)) × Int))) : (Int × (List (Int × (List (Int × Int)) × Int))) → Ctl (Int × (List (Int × (List (Int × Int)) × Int))) ((List (Int × (List (Int × Int)) × Int)) × (List (Int × (List (Int × Int)) × Int)) × (List (Int × (List (Int × Int)) × Int)) × (List (Int × (List (Int × Int)) × Int))) := fun s4 =>
  if (decide (s4.1 < (x0.length : Int))) = true then
   if 0 ≤ s4.1 ∧ s4.1 < (x0.length : Int) then
    if (s4.2.length + 1) * 40 ≤ 140737488355328 ∧ s4.2.length + 1 ≤ 9223372036854775807 then
     .next (IntKind.i64.wrap (s4.1 + 1), s4.2 ++ [((x0.getD s4.1.toNat default).1, [], (x0.getD s4.1.toNat default).2)])
     else .out none
    else .out none
   else .out (some (s1.2, s2.2, s3.2, s4.2))
def b62_3 (x1 : List (Int × Int × Int)) (x0 : List (Int × Int)) (s1 : Int × (List (Int × (List (Int × Int)) × Int))) (s2 : Int × (List (Int × (List (Int × Int)) × Int))) : (Int × (List (Int × (List (Int × Int)) × Int))) → Ctl (Int × (List (Int × (List (Int × Int)) × Int))) ((List (Int × (List (Int × Int)) × Int)) × (List (Int × (List (Int × Int)) × Int)) × (List (Int × (List (Int × Int)) × Int)) × (List (Int × (List (Int × Int)) × Int))) := fun s3 =>
  if (decide (s3.1 < (x1.length : Int))) = true then
   if 0 ≤ s3.1 ∧ s3.1 < (x1.length : Int) then
    if (s3.2.length + 1) * 40 ≤ 140737488355328 ∧ s3.2.length + 1 ≤ 9223372036854775807 then
     .next (IntKind.i64.wrap (s3.1 + 1), s3.2 ++ [((x1.getD s3.1.toNat default).1, [((x1.getD s3.1.toNat default).2.1, (x1.getD s3.1.toNat default).2.2)], 0)])
     else .out none
    else .out none
   else .out (iterC (b62_4 x0 s1 s2 s3) 1000000000 (0, []))
def b62_2 (x2 : List (Int × Int × Int × Int × Int)) (x1 : List (Int × Int × Int)) (x0 : List (Int × Int)) (s1 : Int × (List (Int × (List (Int × Int)) × Int))) : (Int × (List (Int × (List (Int × Int)) × Int))) → Ctl (Int × (List (Int × (List (Int × Int)) × Int))) ((List (Int × (List (Int × Int)) × Int)) × (List (Int × (List (Int × Int)) × Int)) × (List (Int × (List (Int × Int)) × Int)) × (List (Int × (List (Int × Int)) × Int))) := fun s2 =>
  if (decide (s2.1 < (x2.length : Int))) = true then
   if 0 ≤ s2.1 ∧ s2.1 < (x2.length : Int) then
    if (s2.2.length + 1) * 40 ≤ 140737488355328 ∧ s2.2.length + 1 ≤ 9223372036854775807 then
     .next (IntKind.i64.wrap (s2.1 + 1), s2.2 ++ [((x2.getD s2.1.toNat default).1, [((x2.getD s2.1.toNat default).2.1, (x2.getD s2.1.toNat default).2.2.1), ((x2.getD s2.1.toNat default).2.2.2.1, (x2.getD s2.1.toNat default).2.2.2.2)], 0)])
     else .out none
    else .out none
   else .out (iterC (b62_3 x1 x0 s1 s2) 1000000000 (0, []))
def b62_1 (x3 : List (Int × Int × Int × Int)) (x2 : List (Int × Int × Int × Int × Int)) (x1 : List (Int × Int × Int)) (x0 : List (Int × Int)) : (Int × (List (Int × (List (Int × Int)) × Int))) → Ctl (Int × (List (Int × (List (Int × Int)) × Int))) ((List (Int × (List (Int × Int)) × Int)) × (List (Int × (List (Int × Int)) × Int)) × (List (Int × (List (Int × Int)) × Int)) × (List (Int × (List (Int × Int)) × Int))) := fun s1 =>
  if (decide (s1.1 < (x3.length : Int))) = true then
   if 0 ≤ s1.1 ∧ s1.1 < (x3.length : Int) then
    if (s1.2.length + 1) * 40 ≤ 140737488355328 ∧ s1.2.length + 1 ≤ 9223372036854775807 then
     .next (IntKind.i64.wrap (s1.1 + 1), s1.2 ++ [((x3.getD s1.1.toNat default).1, [((x3.getD s1.1.toNat default).2.1, (x3.getD s1.1.toNat default).2.2.1)], (x3.getD s1.1.toNat default).2.2.2)])
     else .out none
    else .out none
   else .out (iterC (b62_2 x2 x1 x0 s1) 1000000000 (0, []))
def r62 (x3 : List (Int × Int × Int × Int)) (x2 : List (Int × Int × Int × Int × Int)) (x1 : List (Int × Int × Int)) (x0 : List (Int × Int)) (x4 : Int) (x5 : Int) (x6 : Int) (x7 : Int) : Option ((List (Int × (List (Int × Int)) × Int)) × (List (Int × (List (Int × Int)) × Int)) × (List (Int × (List (Int × Int)) × Int)) × (List (Int × (List (Int × Int)) × Int))) :=
  iterC (b62_1 x3 x2 x1 x0) 1000000000 (0, [])
def T62 : TSpec qA1 := mkT qE1 qd1 (fun ⟨x3, x2, x1, x0, x4, x5, x6, x7⟩ => r62 x3 x2 x1 x0 x4 x5 x6 x7) qu2 true
theorem TP62 (c0 c1 c2 c3 c4 c5 c6 c7 : D) : T62.sp.pre [.agg [c0, c1, c2, c3, c4, c5, c6, c7]] = (eqvArgs (qt1 c0 c1 c2 c3 c4 c5 c6 c7) (qp1 qw1 c0 c1 c2 c3 c4 c5 c6 c7) ∧ (qp1 r62 c0 c1 c2 c3 c4 c5 c6 c7).isSome = true) := (rfl)
theorem TR62 (c0 c1 c2 c3 c4 c5 c6 c7 : D) : T62.sp.res [.agg [c0, c1, c2, c3, c4, c5, c6, c7]] = qu2 ((qp1 r62 c0 c1 c2 c3 c4 c5 c6 c7).getD default) := (rfl)
theorem TA62 : T62.sp.alias = true := (rfl)
def tb62 : Fns := lk []
theorem tb62_ok : FnsOk Tryd.prog tb62 := FnsOk.nil
attribute [go_sem] TP62 TR62 TA62
section
attribute [local go_sem] T62 Tryd.results62
theorem v62 : Valid Tryd.prog 62 T62.sp := by
 refine valid_t (fn := Tryd.f62) (n := 92) ty_ok tb62_ok Tryd.func62 rfl Tryd.ntmps62 ?_
 rintro ⟨x3, x2, x1, x0, x4, x5, x6, x7⟩ hx
 obtain ⟨r, hr⟩ := oE (show (r62 x3 x2 x1 x0 x4 x5 x6 x7).isSome = true from hx)
 have hres : T62.res (x3, x2, x1, x0, x4, x5, x6, x7) = qu2 r := by simp only [T62, mkT, hr, oG]
 refine ⟨nL rfl, fun stop S => ?_⟩
 rw [hres] at S
 unfold r62 at hr
 refine S.gx [] ?_
 repeat refine gA ?_
 refine S.own0b 3 0 2000300 3 rfl rfl (nL rfl) rfl ?_
 refine S.sees [1, 2, 3, 13, 14, 15] [(1, 1), (2, 2), (3, 3)] [(2000300, 2000300)] ?_ (Stop.iter S (fun s1 => ⟨[(1, .c (.ref 1 0)), (2, .c (.ref 2 0)), (3, .c (.ref 3 0)), (13, .c (.d (encF 4 d_IIII x3))), (14, .c (.d (.int .i64 (x3.length : Int)))), (15, .c (.d (.int .i64 s1.1)))], [(1, [.d (encF 4 d_IIII x3), .d (encF 5 d_IIIII x2), .d (encF 3 d_III x1), .d (encF 2 d_II x0), .d (.int .i64 x4), .d (.int .i64 x5), .d (.int .i64 x6), .d (.int .i64 x7)]), (2, [.nils, .nils, .nils, .nils]), (3, [.own 2000300, .nils, .nils, .nils])], [(2000300, .owned (encF 3 d_ILIIEI s1.2))]⟩) (b62_1 x3 x2 x1 x0) (fun q => q = r) hr rfl ?_)
 ·exact lf
 ·intro s1 hr
  unfold b62_1 at hr
  refine S.gx [] ?_
  repeat refine gA ?_
  refine ⟨?_, ?_⟩ <;> intro hc
  ·have hr := ifP1 hr hc
   obtain ⟨hg1, hr⟩ := of_guard1 hr
   obtain ⟨hg2, hr⟩ := of_guard1 hr
   repeat refine gA ?_
   refine S.sees [1, 2, 3, 13, 14, 15] [(1, 1), (2, 2), (3, 3)] [(30, 2000300)] ?_ hr
   exact lf
  ·have hr := ifN1 hr hc
   repeat refine gA ?_
   have hr := of_out0 hr
   repeat refine gA ?_
   refine S.own0b 3 1 2000301 3 rfl rfl (nL rfl) rfl ?_
   refine S.sees [1, 2, 3, 34, 35, 36] [(1, 1), (2, 2), (3, 3)] [(2000301, 2000301), (2000300, 2000300)] ?_ (Stop.iter S (fun s2 => ⟨[(1, .c (.ref 1 0)), (2, .c (.ref 2 0)), (3, .c (.ref 3 0)), (34, .c (.d (encF 5 d_IIIII x2))), (35, .c (.d (.int .i64 (x2.length : Int)))), (36, .c (.d (.int .i64 s2.1)))], [(1, [.d (encF 4 d_IIII x3), .d (encF 5 d_IIIII x2), .d (encF 3 d_III x1), .d (encF 2 d_II x0), .d (.int .i64 x4), .d (.int .i64 x5), .d (.int .i64 x6), .d (.int .i64 x7)]), (2, [.nils, .nils, .nils, .nils]), (3, [.own 2000300, .own 2000301, .nils, .nils])], [(2000301, .owned (encF 3 d_ILIIEI s2.2)), (2000300, .owned (encF 3 d_ILIIEI s1.2))]⟩) (b62_2 x2 x1 x0 s1) (fun q => q = r) hr rfl ?_)
   ·exact lf
   ·intro s2 hr
    unfold b62_2 at hr
    refine S.gx [] ?_
    repeat refine gA ?_
    refine ⟨?_, ?_⟩ <;> intro hc
    ·have hr := ifP1 hr hc
     obtain ⟨hg3, hr⟩ := of_guard1 hr
     obtain ⟨hg4, hr⟩ := of_guard1 hr
     repeat refine gA ?_
     refine S.sees [1, 2, 3, 34, 35, 36] [(1, 1), (2, 2), (3, 3)] [(51, 2000301), (2000300, 2000300)] ?_ hr
     exact lf
    ·have hr := ifN1 hr hc
     repeat refine gA ?_
     have hr := of_out0 hr
     repeat refine gA ?_
     refine S.own0b 3 2 2000302 3 rfl rfl (nL rfl) rfl ?_
     refine S.sees [1, 2, 3, 55, 56, 57] [(1, 1), (2, 2), (3, 3)] [(2000302, 2000302), (2000300, 2000300), (2000301, 2000301)] ?_ (Stop.iter S (fun s3 => ⟨[(1, .c (.ref 1 0)), (2, .c (.ref 2 0)), (3, .c (.ref 3 0)), (55, .c (.d (encF 3 d_III x1))), (56, .c (.d (.int .i64 (x1.length : Int)))), (57, .c (.d (.int .i64 s3.1)))], [(1, [.d (encF 4 d_IIII x3), .d (encF 5 d_IIIII x2), .d (encF 3 d_III x1), .d (encF 2 d_II x0), .d (.int .i64 x4), .d (.int .i64 x5), .d (.int .i64 x6), .d (.int .i64 x7)]), (2, [.nils, .nils, .nils, .nils]), (3, [.own 2000300, .own 2000301, .own 2000302, .nils])], [(2000302, .owned (encF 3 d_ILIIEI s3.2)), (2000300, .owned (encF 3 d_ILIIEI s1.2)), (2000301, .owned (encF 3 d_ILIIEI s2.2))]⟩) (b62_3 x1 x0 s1 s2) (fun q => q = r) hr rfl ?_)
     ·exact lf
     ·intro s3 hr
      unfold b62_3 at hr
      refine S.gx [] ?_
      repeat refine gA ?_
      refine ⟨?_, ?_⟩ <;> intro hc
      ·have hr := ifP1 hr hc
       obtain ⟨hg5, hr⟩ := of_guard1 hr
       obtain ⟨hg6, hr⟩ := of_guard1 hr
       repeat refine gA ?_
       refine S.sees [1, 2, 3, 55, 56, 57] [(1, 1), (2, 2), (3, 3)] [(70, 2000302), (2000300, 2000300), (2000301, 2000301)] ?_ hr
       exact lf
      ·have hr := ifN1 hr hc
       repeat refine gA ?_
       have hr := of_out0 hr
       repeat refine gA ?_
       refine S.own0b 3 3 2000303 3 rfl rfl (nL rfl) rfl ?_
       refine S.sees [2, 3, 74, 75, 76] [(2, 2), (3, 3)] [(2000303, 2000303), (2000300, 2000300), (2000301, 2000301), (2000302, 2000302)] ?_ (Stop.iter S (fun s4 => ⟨[(2, .c (.ref 2 0)), (3, .c (.ref 3 0)), (74, .c (.d (encF 2 d_II x0))), (75, .c (.d (.int .i64 (x0.length : Int)))), (76, .c (.d (.int .i64 s4.1)))], [(2, [.nils, .nils, .nils, .nils]), (3, [.own 2000300, .own 2000301, .own 2000302, .own 2000303])], [(2000303, .owned (encF 3 d_ILIIEI s4.2)), (2000300, .owned (encF 3 d_ILIIEI s1.2)), (2000301, .owned (encF 3 d_ILIIEI s2.2)), (2000302, .owned (encF 3 d_ILIIEI s3.2))]⟩) (b62_4 x0 s1 s2 s3) (fun q => q = r) hr rfl ?_)
       ·exact lf
       ·intro s4 hr
        unfold b62_4 at hr
        refine S.gx [] ?_
        repeat refine gA ?_
        refine ⟨?_, ?_⟩ <;> intro hc
        ·have hr := ifP1 hr hc
         obtain ⟨hg7, hr⟩ := of_guard1 hr
         obtain ⟨hg8, hr⟩ := of_guard1 hr
         repeat refine gA ?_
         refine S.sees [2, 3, 74, 75, 76] [(2, 2), (3, 3)] [(88, 2000303), (2000300, 2000300), (2000301, 2000301), (2000302, 2000302)] ?_ hr
         exact lf
        ·have hr := ifN1 hr hc
         repeat refine gA ?_
         have hr := of_out0 hr
         repeat refine gA ?_
         cases hr
         exact lf
theorem f62 : FnFact Tryd.prog 62 T62.sp := ⟨⟨Tryd.f62, Tryd.func62, by decide, rfl⟩, v62⟩
end

/- martensite/steel.within -/
def r66 (a0 : Int) (a1 : Int) (a2 : Int) : Option (Bool) :=
  some ((decide (a1 ≤ a0)) && (decide (a0 ≤ a2)))
def T66 : TSpec qA2 := mkT qE2 qd2 (fun ⟨a0, a1, a2⟩ => r66 a0 a1 a2) qu3 false
theorem TP66 (c0 c1 c2 : D) : T66.sp.pre [.c c0, .c c1, .c c2] = (eqvArgs (qt2 c0 c1 c2) (qp2 qw2 c0 c1 c2) ∧ (qp2 r66 c0 c1 c2).isSome = true) := (rfl)
theorem TR66 (c0 c1 c2 : D) : T66.sp.res [.c c0, .c c1, .c c2] = qu3 ((qp2 r66 c0 c1 c2).getD default) := (rfl)
theorem TA66 : T66.sp.alias = false := (rfl)
def tb66 : Fns := lk []
theorem tb66_ok : FnsOk Tryd.prog tb66 := FnsOk.nil
attribute [go_sem] TP66 TR66 TA66
section
attribute [local go_sem] T66 Tryd.results66
theorem v66 : Valid Tryd.prog 66 T66.sp := by
 refine valid_t (fn := Tryd.f66) (n := 15) ty_ok tb66_ok Tryd.func66 rfl Tryd.ntmps66 ?_
 rintro ⟨a0, a1, a2⟩ hx
 obtain ⟨r, hr⟩ := oE (show (r66 a0 a1 a2).isSome = true from hx)
 have hres : T66.res (a0, a1, a2) = qu3 r := by simp only [T66, mkT, hr, oG]
 refine ⟨nL rfl, fun stop S => ?_⟩
 rw [hres] at S
 unfold r66 at hr
 refine S.gx [] ?_
 repeat (first | refine gA ?_ | refine gB ?_)
 cases hr
 exact lf
theorem f66 : FnFact Tryd.prog 66 T66.sp := ⟨⟨Tryd.f66, Tryd.func66, by decide, rfl⟩, v66⟩
end

/- martensite/steel.isShare -/
def r71 (a0 : Int) : Option (Bool) :=
  (r66 a0 0 1000000).bind fun v1 =>
   some v1
def T71 : TSpec qA3 := mkT qE3 qd3 r71 qu3 false
theorem TP71 (c0 : D) : T71.sp.pre [.c c0] = (eqvArgs (qt3 c0) (qp3 qw3 c0) ∧ (qp3 r71 c0).isSome = true) := (rfl)
theorem TR71 (c0 : D) : T71.sp.res [.c c0] = qu3 ((qp3 r71 c0).getD default) := (rfl)
theorem TA71 : T71.sp.alias = false := (rfl)
def tb71 : Fns := lk [(66, T66.sp)]
theorem tb71_ok : FnsOk Tryd.prog tb71 := .cons f66 (FnsOk.nil)
theorem tb71_66 : tb71 66 = some T66.sp := rfl
attribute [go_sem] TP71 TR71 TA71
section
attribute [local go_sem] T71 tb71_66 Tryd.results71
theorem v71 : Valid Tryd.prog 71 T71.sp := by
 refine valid_t (fn := Tryd.f71) (n := 5) ty_ok tb71_ok Tryd.func71 rfl Tryd.ntmps71 ?_
 rintro a0 hx
 obtain ⟨r, hr⟩ := oE (show (r71 a0).isSome = true from hx)
 have hres : T71.res a0 = qu3 r := by simp only [T71, mkT, hr, oG]
 refine ⟨nL rfl, fun stop S => ?_⟩
 rw [hres] at S
 unfold r71 at hr
 refine S.gx [] ?_
 obtain ⟨v1, hv1, hr⟩ := of_bind0 hr
 try simp only [hv1, oG, oI, true_and, and_assoc]
 repeat refine gA ?_
 cases hr
 exact lf
theorem f71 : FnFact Tryd.prog 71 T71.sp := ⟨⟨Tryd.f71, Tryd.func71, by decide, rfl⟩, v71⟩
end

/- martensite/steel.knotErr$1 -/
def r107 (x1 : Int) (x0 : Int) : Option (Bool) :=
  (r71 x1).bind fun v1 =>
   if (!(!v1)) = true → (r71 x0).isSome = true then
    some ((!v1) || (!((r71 x0).getD default)))
    else none
def T107 : TSpec qA4 := mkT qE4 qd4 (fun ⟨x1, x0⟩ => r107 x1 x0) qu3 false
theorem TP107 (c0 c1 : D) : T107.sp.pre [.agg [c0, c1]] = (eqvArgs (qt4 c0 c1) (qp4 qw4 c0 c1) ∧ (qp4 r107 c0 c1).isSome = true) := (rfl)
theorem TR107 (c0 c1 : D) : T107.sp.res [.agg [c0, c1]] = qu3 ((qp4 r107 c0 c1).getD default) := (rfl)
theorem TA107 : T107.sp.alias = false := (rfl)
def tb107 : Fns := lk [(71, T71.sp)]
theorem tb107_ok : FnsOk Tryd.prog tb107 := .cons f71 (FnsOk.nil)
theorem tb107_71 : tb107 71 = some T71.sp := rfl
attribute [go_sem] TP107 TR107 TA107
section
attribute [local go_sem] T107 tb107_71 Tryd.results107
theorem v107 : Valid Tryd.prog 107 T107.sp := by
 refine valid_t (fn := Tryd.f107) (n := 13) ty_ok tb107_ok Tryd.func107 rfl Tryd.ntmps107 ?_
 rintro ⟨x1, x0⟩ hx
 obtain ⟨r, hr⟩ := oE (show (r107 x1 x0).isSome = true from hx)
 have hres : T107.res (x1, x0) = qu3 r := by simp only [T107, mkT, hr, oG]
 refine ⟨nL rfl, fun stop S => ?_⟩
 rw [hres] at S
 unfold r107 at hr
 refine S.gx [] ?_
 obtain ⟨v1, hv1, hr⟩ := of_bind0 hr
 obtain ⟨hg2, hr⟩ := of_guard0 hr
 try simp only [hv1, oG, oI, true_and, and_assoc]
 repeat (first | refine gG hg2 ?_ | refine gA ?_ | refine gB ?_)
 cases hr
 exact lf
theorem f107 : FnFact Tryd.prog 107 T107.sp := ⟨⟨Tryd.f107, Tryd.func107, by decide, rfl⟩, v107⟩
end

/- martensite/steel.knotErr$2 -/
def r108 (x0 : Int) (x1 : Int) : Option (Bool) :=
  some (decide (x0 > x1))
def T108 : TSpec qA4 := mkT qE4 qd4 (fun ⟨x0, x1⟩ => r108 x0 x1) qu3 false
theorem TP108 (c0 c1 : D) : T108.sp.pre [.agg [c0, c1]] = (eqvArgs (qt4 c0 c1) (qp4 qw4 c0 c1) ∧ (qp4 r108 c0 c1).isSome = true) := (rfl)
theorem TR108 (c0 c1 : D) : T108.sp.res [.agg [c0, c1]] = qu3 ((qp4 r108 c0 c1).getD default) := (rfl)
theorem TA108 : T108.sp.alias = false := (rfl)
def tb108 : Fns := lk []
theorem tb108_ok : FnsOk Tryd.prog tb108 := FnsOk.nil
attribute [go_sem] TP108 TR108 TA108
section
attribute [local go_sem] T108 Tryd.results108
theorem v108 : Valid Tryd.prog 108 T108.sp := by
 refine valid_t (fn := Tryd.f108) (n := 8) ty_ok tb108_ok Tryd.func108 rfl Tryd.ntmps108 ?_
 rintro ⟨x0, x1⟩ hx
 obtain ⟨r, hr⟩ := oE (show (r108 x0 x1).isSome = true from hx)
 have hres : T108.res (x0, x1) = qu3 r := by simp only [T108, mkT, hr, oG]
 refine ⟨nL rfl, fun stop S => ?_⟩
 rw [hres] at S
 unfold r108 at hr
 refine S.gx [] ?_
 repeat refine gA ?_
 cases hr
 exact lf
theorem f108 : FnFact Tryd.prog 108 T108.sp := ⟨⟨Tryd.f108, Tryd.func108, by decide, rfl⟩, v108⟩
end

/- martensite/steel.isKelvin -/
def r109 (a0 : Int) : Option (Bool) :=
  (r66 a0 1 3000).bind fun v1 =>
   some v1
def T109 : TSpec qA3 := mkT qE3 qd3 r109 qu3 false
theorem TP109 (c0 : D) : T109.sp.pre [.c c0] = (eqvArgs (qt3 c0) (qp3 qw3 c0) ∧ (qp3 r109 c0).isSome = true) := (rfl)
theorem TR109 (c0 : D) : T109.sp.res [.c c0] = qu3 ((qp3 r109 c0).getD default) := (rfl)
theorem TA109 : T109.sp.alias = false := (rfl)
def tb109 : Fns := lk [(66, T66.sp)]
theorem tb109_ok : FnsOk Tryd.prog tb109 := .cons f66 (FnsOk.nil)
theorem tb109_66 : tb109 66 = some T66.sp := rfl
attribute [go_sem] TP109 TR109 TA109
section
attribute [local go_sem] T109 tb109_66 Tryd.results109
theorem v109 : Valid Tryd.prog 109 T109.sp := by
 refine valid_t (fn := Tryd.f109) (n := 5) ty_ok tb109_ok Tryd.func109 rfl Tryd.ntmps109 ?_
 rintro a0 hx
 obtain ⟨r, hr⟩ := oE (show (r109 a0).isSome = true from hx)
 have hres : T109.res a0 = qu3 r := by simp only [T109, mkT, hr, oG]
 refine ⟨nL rfl, fun stop S => ?_⟩
 rw [hres] at S
 unfold r109 at hr
 refine S.gx [] ?_
 obtain ⟨v1, hv1, hr⟩ := of_bind0 hr
 try simp only [hv1, oG, oI, true_and, and_assoc]
 repeat refine gA ?_
 cases hr
 exact lf
theorem f109 : FnFact Tryd.prog 109 T109.sp := ⟨⟨Tryd.f109, Tryd.func109, by decide, rfl⟩, v109⟩
end

/- martensite/steel.unless -/
def r68 (a0 : Bool) (a1 : Int) : Option (Int) :=
  if a0 = true then
   some 0
   else some a1
def T68 : TSpec qA5 := mkT qE5 qd5 (fun ⟨a0, a1⟩ => r68 a0 a1) qu4 false
theorem TP68 (c0 c1 : D) : T68.sp.pre [.c c0, .c c1] = (eqvArgs (qt5 c0 c1) (qp5 qw5 c0 c1) ∧ (qp5 r68 c0 c1).isSome = true) := (rfl)
theorem TR68 (c0 c1 : D) : T68.sp.res [.c c0, .c c1] = qu4 ((qp5 r68 c0 c1).getD default) := (rfl)
theorem TA68 : T68.sp.alias = false := (rfl)
def tb68 : Fns := lk []
theorem tb68_ok : FnsOk Tryd.prog tb68 := FnsOk.nil
attribute [go_sem] TP68 TR68 TA68
section
attribute [local go_sem] T68 Tryd.results68
theorem v68 : Valid Tryd.prog 68 T68.sp := by
 refine valid_t (fn := Tryd.f68) (n := 7) ty_ok tb68_ok Tryd.func68 rfl Tryd.ntmps68 ?_
 rintro ⟨a0, a1⟩ hx
 obtain ⟨r, hr⟩ := oE (show (r68 a0 a1).isSome = true from hx)
 have hres : T68.res (a0, a1) = qu4 r := by simp only [T68, mkT, hr, oG]
 refine ⟨nL rfl, fun stop S => ?_⟩
 rw [hres] at S
 unfold r68 at hr
 refine S.gx [] ?_
 repeat refine gA ?_
 refine ⟨?_, ?_⟩ <;> intro hc
 ·have hr := ifP hr hc
  repeat refine gA ?_
  cases hr
  exact lf
 ·have hr := ifN hr hc
  repeat refine gA ?_
  cases hr
  exact lf
theorem f68 : FnFact Tryd.prog 68 T68.sp := ⟨⟨Tryd.f68, Tryd.func68, by decide, rfl⟩, v68⟩
end

/- martensite/steel.first -/
def b67_1 (a0 : List (Int)) : (Int) → Ctl (Int) (Int) := fun s1 =>
  if (decide (s1 < (a0.length : Int))) = true then
   if 0 ≤ s1 ∧ s1 < (a0.length : Int) then
    if ((a0.getD s1.toNat default) != 0) = true then
     .out (some (a0.getD s1.toNat default))
     else .next (IntKind.i64.wrap (s1 + 1))
    else .out none
   else .out (some 0)
def r67 (a0 : List (Int)) : Option (Int) :=
  iterC (b67_1 a0) 1000000000 0
def T67 : TSpec qA6 := mkT qE6 qd6 r67 qu4 false
theorem TP67 (c0 : D) : T67.sp.pre [.c c0] = (eqvArgs (qt6 c0) (qp6 qw6 c0) ∧ (qp6 r67 c0).isSome = true) := (rfl)
theorem TR67 (c0 : D) : T67.sp.res [.c c0] = qu4 ((qp6 r67 c0).getD default) := (rfl)
theorem TA67 : T67.sp.alias = false := (rfl)
def tb67 : Fns := lk []
theorem tb67_ok : FnsOk Tryd.prog tb67 := FnsOk.nil
attribute [go_sem] TP67 TR67 TA67
section
attribute [local go_sem] T67 Tryd.results67
theorem v67 : Valid Tryd.prog 67 T67.sp := by
 refine valid_t (fn := Tryd.f67) (n := 15) ty_ok tb67_ok Tryd.func67 rfl Tryd.ntmps67 ?_
 rintro a0 hx
 obtain ⟨r, hr⟩ := oE (show (r67 a0).isSome = true from hx)
 have hres : T67.res a0 = qu4 r := by simp only [T67, mkT, hr, oG]
 refine ⟨nL rfl, fun stop S => ?_⟩
 rw [hres] at S
 unfold r67 at hr
 refine S.gx [] ?_
 repeat refine gA ?_
 refine S.sees [5, 6, 7] [] [] ?_ (Stop.iter S (fun s1 => ⟨[(5, .c (.d (encF 1 d_I a0))), (6, .c (.d (.int .i64 (a0.length : Int)))), (7, .c (.d (.int .i64 s1)))], [], []⟩) (b67_1 a0) (fun q => q = r) hr rfl ?_)
 ·exact lf
 ·intro s1 hr
  unfold b67_1 at hr
  refine S.gx [] ?_
  repeat refine gA ?_
  refine ⟨?_, ?_⟩ <;> intro hc
  ·have hr := ifP1 hr hc
   obtain ⟨hg1, hr⟩ := of_guard1 hr
   repeat refine gA ?_
   refine ⟨?_, ?_⟩ <;> intro hc
   ·have hr := ifP1 hr hc
    repeat refine gA ?_
    have hr := of_out0 hr
    cases hr
    exact lf
   ·have hr := ifN1 hr hc
    repeat refine gA ?_
    refine S.sees [5, 6, 7] [] [] ?_ hr
    exact lf
  ·have hr := ifN1 hr hc
   repeat refine gA ?_
   have hr := of_out0 hr
   repeat refine gA ?_
   cases hr
   exact lf
theorem f67 : FnFact Tryd.prog 67 T67.sp := ⟨⟨Tryd.f67, Tryd.func67, by decide, rfl⟩, v67⟩
end

/- martensite/steel.knotErr -/
def b63_2 (x1 : Int) (x0 : List (Int × Int)) (x2 : Int) (a1 : Option (Int × (List (Int × Int)) × Int)) (a2 : Int) (s1 : Int) : (Int) → Ctl (Int) (Int) := fun s2 =>
  if (decide (s2 < (x0.length : Int))) = true then
   if 0 ≤ s2 ∧ s2 < (x0.length : Int) then
    bindC (r108 ((x0.getD s2.toNat default).1) ((x0.getD s2.toNat default).2)) fun v2 =>
     if v2 = true then
      .out ((r109 x1).bind fun v3 =>
       if (v3 && (!(decide (s1 ≥ 0)))) = true → (r71 x2).isSome = true then
        (r68 ((v3 && (!(decide (s1 ≥ 0)))) && ((r71 x2).getD default)) 2).bind fun v4 =>
         (r68 (!(decide (s2 ≥ 0))) 3).bind fun v5 =>
          (r67 [v4, v5]).bind fun v6 =>
           if ((v6 != 0) || (!a1.isSome)) = true then
            some v6
            else if a1.isSome = true then
             if a1.isSome = true then
              if (a2 != 0) = true then
               if 0 ≤ 0 ∧ 0 < (x0.length : Int) then
                if a1.isSome = true then
                 if a1.isSome = true then
                  if 0 ≤ 0 ∧ 0 < (((a1.getD default).2.1).length : Int) then
                   (r68 (((decide (x1 > ((a1.getD default).1))) && (decide ((IntKind.i64.wrap (a2 * ((x0.getD 0 default).1))) ≥ (IntKind.i64.wrap (a2 * ((((a1.getD default).2.1).getD 0 default).1)))))) && (decide ((IntKind.i64.wrap (a2 * ((x0.getD 0 default).2))) ≥ (IntKind.i64.wrap (a2 * ((((a1.getD default).2.1).getD 0 default).2)))))) 9).bind fun v7 =>
                    some v7
                   else none
                  else none
                 else none
                else none
               else (r68 (decide (x1 > ((a1.getD default).1))) 9).bind fun v12 =>
                some v12
              else none
             else none
        else none)
      else .next (IntKind.i64.wrap (s2 + 1))
    else .out none
   else .out ((r109 x1).bind fun v17 =>
    if (v17 && (!(decide (s1 ≥ 0)))) = true → (r71 x2).isSome = true then
     (r68 ((v17 && (!(decide (s1 ≥ 0)))) && ((r71 x2).getD default)) 2).bind fun v18 =>
      (r68 (!(decide ((-1) ≥ 0))) 3).bind fun v19 =>
       (r67 [v18, v19]).bind fun v20 =>
        if ((v20 != 0) || (!a1.isSome)) = true then
         some v20
         else if a1.isSome = true then
          if a1.isSome = true then
           if (a2 != 0) = true then
            if 0 ≤ 0 ∧ 0 < (x0.length : Int) then
             if a1.isSome = true then
              if a1.isSome = true then
               if 0 ≤ 0 ∧ 0 < (((a1.getD default).2.1).length : Int) then
                (r68 (((decide (x1 > ((a1.getD default).1))) && (decide ((IntKind.i64.wrap (a2 * ((x0.getD 0 default).1))) ≥ (IntKind.i64.wrap (a2 * ((((a1.getD default).2.1).getD 0 default).1)))))) && (decide ((IntKind.i64.wrap (a2 * ((x0.getD 0 default).2))) ≥ (IntKind.i64.wrap (a2 * ((((a1.getD default).2.1).getD 0 default).2)))))) 9).bind fun v21 =>
                 some v21
                else none
               else none
              else none
             else none
            else (r68 (decide (x1 > ((a1.getD default).1))) 9).bind fun v26 =>
             some v26
           else none
          else none
     else none)
def b63_3 (x1 : Int) (x0 : List (Int × Int)) (x2 : Int) (a1 : Option (Int × (List (Int × Int)) × Int)) (a2 : Int) : (Int) → Ctl (Int) (Int) := fun s3 =>
  if (decide (s3 < (x0.length : Int))) = true then
   if 0 ≤ s3 ∧ s3 < (x0.length : Int) then
    bindC (r108 ((x0.getD s3.toNat default).1) ((x0.getD s3.toNat default).2)) fun v31 =>
     if v31 = true then
      .out ((r109 x1).bind fun v32 =>
       if (v32 && (!(decide ((-1) ≥ 0)))) = true → (r71 x2).isSome = true then
        (r68 ((v32 && (!(decide ((-1) ≥ 0)))) && ((r71 x2).getD default)) 2).bind fun v33 =>
         (r68 (!(decide (s3 ≥ 0))) 3).bind fun v34 =>
          (r67 [v33, v34]).bind fun v35 =>
           if ((v35 != 0) || (!a1.isSome)) = true then
            some v35
            else if a1.isSome = true then
             if a1.isSome = true then
              if (a2 != 0) = true then
               if 0 ≤ 0 ∧ 0 < (x0.length : Int) then
                if a1.isSome = true then
                 if a1.isSome = true then
                  if 0 ≤ 0 ∧ 0 < (((a1.getD default).2.1).length : Int) then
                   (r68 (((decide (x1 > ((a1.getD default).1))) && (decide ((IntKind.i64.wrap (a2 * ((x0.getD 0 default).1))) ≥ (IntKind.i64.wrap (a2 * ((((a1.getD default).2.1).getD 0 default).1)))))) && (decide ((IntKind.i64.wrap (a2 * ((x0.getD 0 default).2))) ≥ (IntKind.i64.wrap (a2 * ((((a1.getD default).2.1).getD 0 default).2)))))) 9).bind fun v36 =>
                    some v36
                   else none
                  else none
                 else none
                else none
               else (r68 (decide (x1 > ((a1.getD default).1))) 9).bind fun v41 =>
                some v41
              else none
             else none
        else none)
      else .next (IntKind.i64.wrap (s3 + 1))
    else .out none
   else .out ((r109 x1).bind fun v46 =>
    if (v46 && (!(decide ((-1) ≥ 0)))) = true → (r71 x2).isSome = true then
     (r68 ((v46 && (!(decide ((-1) ≥ 0)))) && ((r71 x2).getD default)) 2).bind fun v47 =>
      (r68 (!(decide ((-1) ≥ 0))) 3).bind fun v48 =>
       (r67 [v47, v48]).bind fun v49 =>
        if ((v49 != 0) || (!a1.isSome)) = true then
         some v49
         else if a1.isSome = true then
          if a1.isSome = true then
           if (a2 != 0) = true then
            if 0 ≤ 0 ∧ 0 < (x0.length : Int) then
             if a1.isSome = true then
              if a1.isSome = true then
               if 0 ≤ 0 ∧ 0 < (((a1.getD default).2.1).length : Int) then
                (r68 (((decide (x1 > ((a1.getD default).1))) && (decide ((IntKind.i64.wrap (a2 * ((x0.getD 0 default).1))) ≥ (IntKind.i64.wrap (a2 * ((((a1.getD default).2.1).getD 0 default).1)))))) && (decide ((IntKind.i64.wrap (a2 * ((x0.getD 0 default).2))) ≥ (IntKind.i64.wrap (a2 * ((((a1.getD default).2.1).getD 0 default).2)))))) 9).bind fun v50 =>
                 some v50
                else none
               else none
              else none
             else none
            else (r68 (decide (x1 > ((a1.getD default).1))) 9).bind fun v55 =>
             some v55
           else none
          else none
     else none)
def b63_1 (x1 : Int) (x0 : List (Int × Int)) (x2 : Int) (a1 : Option (Int × (List (Int × Int)) × Int)) (a2 : Int) : (Int) → Ctl (Int) (Int) := fun s1 =>
  if (decide (s1 < (x0.length : Int))) = true then
   if 0 ≤ s1 ∧ s1 < (x0.length : Int) then
    bindC (r107 ((x0.getD s1.toNat default).1) ((x0.getD s1.toNat default).2)) fun v1 =>
     if v1 = true then
      .out (iterC (b63_2 x1 x0 x2 a1 a2 s1) 1000000000 0)
      else .next (IntKind.i64.wrap (s1 + 1))
    else .out none
   else .out (iterC (b63_3 x1 x0 x2 a1 a2) 1000000000 0)
def r63 (x1 : Int) (x0 : List (Int × Int)) (x2 : Int) (a1 : Option (Int × (List (Int × Int)) × Int)) (a2 : Int) : Option (Int) :=
  iterC (b63_1 x1 x0 x2 a1 a2) 1000000000 0
def T63 : TSpec qA7 := mkT qE7 qd7 (fun ⟨x1, x0, x2, a1, a2⟩ => r63 x1 x0 x2 a1 a2) qu4 false
theorem TP63 (c0 c1 c2 c3 c4 : D) : T63.sp.pre [.agg [c0, c1, c2], .c c3, .c c4] = (eqvArgs (qt7 c0 c1 c2 c3 c4) (qp7 qw7 c0 c1 c2 c3 c4) ∧ (qp7 r63 c0 c1 c2 c3 c4).isSome = true) := (rfl)
theorem TR63 (c0 c1 c2 c3 c4 : D) : T63.sp.res [.agg [c0, c1, c2], .c c3, .c c4] = qu4 ((qp7 r63 c0 c1 c2 c3 c4).getD default) := (rfl)
theorem TA63 : T63.sp.alias = false := (rfl)
def tb63 : Fns := lk [(67, T67.sp), (68, T68.sp), (71, T71.sp), (107, T107.sp), (108, T108.sp), (109, T109.sp)]
theorem tb63_ok : FnsOk Tryd.prog tb63 := .cons f67 (.cons f68 (.cons f71 (.cons f107 (.cons f108 (.cons f109 (FnsOk.nil))))))
theorem tb63_67 : tb63 67 = some T67.sp := rfl
theorem tb63_68 : tb63 68 = some T68.sp := rfl
theorem tb63_71 : tb63 71 = some T71.sp := rfl
theorem tb63_107 : tb63 107 = some T107.sp := rfl
theorem tb63_108 : tb63 108 = some T108.sp := rfl
theorem tb63_109 : tb63 109 = some T109.sp := rfl
attribute [go_sem] TP63 TR63 TA63
section
attribute [local go_sem] T63 tb63_67 tb63_68 tb63_71 tb63_107 tb63_108 tb63_109 Tryd.results63 Tryd.results79 Tryd.results106
theorem v63 : Valid Tryd.prog 63 T63.sp := by
 refine valid_t (fn := Tryd.f63) (n := 88) ty_ok tb63_ok Tryd.func63 rfl Tryd.ntmps63 ?_
 rintro ⟨x1, x0, x2, a1, a2⟩ hx
 obtain ⟨r, hr⟩ := oE (show (r63 x1 x0 x2 a1 a2).isSome = true from hx)
 have hres : T63.res (x1, x0, x2, a1, a2) = qu4 r := by simp only [T63, mkT, hr, oG]
 refine ⟨nL rfl, fun stop S => ?_⟩
 rw [hres] at S
 unfold r63 at hr
 refine S.gx [1, 2, 5, 7, 10] ?_
 repeat refine gA ?_
 refine S.inl 2 [1, 2, 3] [] Tryd.func106 (by decide) rfl Tryd.ntmps106 (fun cx e => drawn_ok ty_ok tb63_ok cx e) (some 15) rfl rfl rfl rfl (nL rfl) (nL rfl) ?_
 refine gs ?_
 repeat refine gA ?_
 intro stop1 S1
 refine S1.gx [1] ?_
 repeat refine gA ?_
 refine S1.inl 2 [4] [] Tryd.func79 (by decide) rfl Tryd.ntmps79 (fun cx e => drawn_ok ty_ok tb63_ok cx e) (some 7) rfl rfl rfl rfl (nL rfl) (nL rfl) ?_
 refine gs ?_
 repeat refine gA ?_
 intro stop2 S2
 refine S2.gx [4] ?_
 repeat refine gA ?_
 refine S2.sees [0, 1, 7, 8] [(3, 3)] [] ?_ (Stop.iter S2 (fun s1 => ⟨[(0, .c (.d (encF 2 d_II x0))), (1, .c (.clo 107 [])), (7, .c (.d (.int .i64 (x0.length : Int)))), (8, .c (.d (.int .i64 s1)))], [(3, [.d (.int .i64 x1), .d (encF 2 d_II x0), .d (.int .i64 x2)])], []⟩) (b63_1 x1 x0 x2 a1 a2) (fun q => q = r) hr rfl ?_)
 ·exact lf
 ·intro s1 hr
  unfold b63_1 at hr
  refine S2.gx [4] ?_
  repeat refine gA ?_
  refine ⟨?_, ?_⟩ <;> intro hc
  ·have hr := ifP1 hr hc
   repeat refine gA ?_
   refine S2.gx [] ?_
   obtain ⟨hg30, hr⟩ := of_guard1 hr
   obtain ⟨v1, hv1, hr⟩ := of_bind1 hr
   try simp only [hv1, oG, oI, true_and, and_assoc]
   repeat refine gA ?_
   refine ⟨?_, ?_⟩ <;> intro hc
   ·have hr := ifP1 hr hc
    repeat refine gA ?_
    have hr := of_out0 hr
    repeat refine gA ?_
    refine S1.gx [1] ?_
    repeat refine gA ?_
    refine S.gx [1, 2, 5, 7, 10] ?_
    repeat refine gA ?_
    refine S.inl 2 [1, 2, 3, 7] [] Tryd.func106 (by decide) rfl Tryd.ntmps106 (fun cx e => drawn_ok ty_ok tb63_ok cx e) (some 18) rfl rfl rfl rfl (nL rfl) (nL rfl) ?_
    refine gs ?_
    repeat refine gA ?_
    intro stop1 S1
    refine S1.gx [1] ?_
    repeat refine gA ?_
    refine S1.inl 2 [4] [] Tryd.func79 (by decide) rfl Tryd.ntmps79 (fun cx e => drawn_ok ty_ok tb63_ok cx e) (some 7) rfl rfl rfl rfl (nL rfl) (nL rfl) ?_
    refine gs ?_
    repeat refine gA ?_
    intro stop2 S2
    refine S2.gx [4] ?_
    repeat refine gA ?_
    refine S2.sees [0, 1, 7, 8] [(3, 3)] [] ?_ (Stop.iter S2 (fun s2 => ⟨[(0, .c (.d (encF 2 d_II x0))), (1, .c (.clo 108 [])), (7, .c (.d (.int .i64 (x0.length : Int)))), (8, .c (.d (.int .i64 s2)))], [(3, [.d (.int .i64 x1), .d (encF 2 d_II x0), .d (.int .i64 x2)])], []⟩) (b63_2 x1 x0 x2 a1 a2 s1) (fun q => q = r) hr rfl ?_)
    ·exact lf
    ·intro s2 hr
     unfold b63_2 at hr
     refine S2.gx [4] ?_
     repeat refine gA ?_
     refine ⟨?_, ?_⟩ <;> intro hc
     ·have hr := ifP1 hr hc
      repeat refine gA ?_
      refine S2.gx [] ?_
      obtain ⟨hg16, hr⟩ := of_guard1 hr
      obtain ⟨v2, hv2, hr⟩ := of_bind1 hr
      try simp only [hv2, oG, oI, true_and, and_assoc]
      repeat refine gA ?_
      refine ⟨?_, ?_⟩ <;> intro hc
      ·have hr := ifP1 hr hc
       repeat refine gA ?_
       have hr := of_out0 hr
       repeat refine gA ?_
       refine S1.gx [1] ?_
       repeat refine gA ?_
       refine S.gx [1, 2, 5, 7, 10] ?_
       obtain ⟨v3, hv3, hr⟩ := of_bind0 hr
       obtain ⟨hg15, hr⟩ := of_guard0 hr
       obtain ⟨v4, hv4, hr⟩ := of_bind0 hr
       obtain ⟨v5, hv5, hr⟩ := of_bind0 hr
       obtain ⟨v6, hv6, hr⟩ := of_bind0 hr
       try simp only [hv3, hv4, hv5, hv6, Option.getD_some, Option.isSome_some, true_and, and_assoc]
       repeat (first | refine gG hg15 ?_ | refine gA ?_ | refine gB ?_)
       refine ⟨?_, ?_⟩ <;> intro hc
       ·have hr := ifP hr hc
        repeat refine gA ?_
        refine S.prune [9] ?_
        refine S.gx [1, 2, 7, 10] ?_
        repeat refine gA ?_
        cases hr
        exact lf
       ·have hr := ifN hr hc
        obtain ⟨hg13, hr⟩ := of_guard0 hr
        obtain ⟨hg14, hr⟩ := of_guard0 hr
        repeat refine gA ?_
        refine S.prune [1, 2, 3, 10] ?_
        refine S.gx [1, 2, 5, 10] ?_
        repeat refine gA ?_
        refine ⟨?_, ?_⟩ <;> intro hc
        ·have hr := ifP hr hc
         obtain ⟨hg8, hr⟩ := of_guard0 hr
         obtain ⟨hg9, hr⟩ := of_guard0 hr
         obtain ⟨hg10, hr⟩ := of_guard0 hr
         obtain ⟨hg11, hr⟩ := of_guard0 hr
         repeat (first | refine gA ?_ | refine gB ?_)
         refine S.prune [10] ?_
         refine S.gx [1, 2, 5, 7] ?_
         obtain ⟨v7, hv7, hr⟩ := of_bind0 hr
         try simp only [hv7, oG, oI, true_and, and_assoc]
         repeat refine gA ?_
         cases hr
         exact lf
        ·have hr := ifN hr hc
         repeat refine gA ?_
         refine S.prune [10] ?_
         refine S.gx [1, 2, 5, 7] ?_
         obtain ⟨v12, hv12, hr⟩ := of_bind0 hr
         try simp only [hv12, oG, oI, true_and, and_assoc]
         repeat refine gA ?_
         cases hr
         exact lf
      ·have hr := ifN1 hr hc
       repeat refine gA ?_
       refine S2.sees [0, 1, 7, 8] [(3, 3)] [] ?_ hr
       exact lf
     ·have hr := ifN1 hr hc
      repeat refine gA ?_
      have hr := of_out0 hr
      repeat refine gA ?_
      refine S1.gx [1] ?_
      repeat refine gA ?_
      refine S.gx [1, 2, 5, 7, 10] ?_
      obtain ⟨v17, hv17, hr⟩ := of_bind0 hr
      obtain ⟨hg29, hr⟩ := of_guard0 hr
      obtain ⟨v18, hv18, hr⟩ := of_bind0 hr
      obtain ⟨v19, hv19, hr⟩ := of_bind0 hr
      obtain ⟨v20, hv20, hr⟩ := of_bind0 hr
      try simp only [hv17, hv18, hv19, hv20, Option.getD_some, Option.isSome_some, true_and, and_assoc]
      repeat (first | refine gG hg29 ?_ | refine gA ?_ | refine gB ?_)
      refine ⟨?_, ?_⟩ <;> intro hc
      ·have hr := ifP hr hc
       repeat refine gA ?_
       refine S.prune [9] ?_
       refine S.gx [1, 2, 7, 10] ?_
       repeat refine gA ?_
       cases hr
       exact lf
      ·have hr := ifN hr hc
       obtain ⟨hg27, hr⟩ := of_guard0 hr
       obtain ⟨hg28, hr⟩ := of_guard0 hr
       repeat refine gA ?_
       refine S.prune [1, 2, 3, 10] ?_
       refine S.gx [1, 2, 5, 10] ?_
       repeat refine gA ?_
       refine ⟨?_, ?_⟩ <;> intro hc
       ·have hr := ifP hr hc
        obtain ⟨hg22, hr⟩ := of_guard0 hr
        obtain ⟨hg23, hr⟩ := of_guard0 hr
        obtain ⟨hg24, hr⟩ := of_guard0 hr
        obtain ⟨hg25, hr⟩ := of_guard0 hr
        repeat (first | refine gA ?_ | refine gB ?_)
        refine S.prune [10] ?_
        refine S.gx [1, 2, 5, 7] ?_
        obtain ⟨v21, hv21, hr⟩ := of_bind0 hr
        try simp only [hv21, oG, oI, true_and, and_assoc]
        repeat refine gA ?_
        cases hr
        exact lf
       ·have hr := ifN hr hc
        repeat refine gA ?_
        refine S.prune [10] ?_
        refine S.gx [1, 2, 5, 7] ?_
        obtain ⟨v26, hv26, hr⟩ := of_bind0 hr
        try simp only [hv26, oG, oI, true_and, and_assoc]
        repeat refine gA ?_
        cases hr
        exact lf
   ·have hr := ifN1 hr hc
    repeat refine gA ?_
    refine S2.sees [0, 1, 7, 8] [(3, 3)] [] ?_ hr
    exact lf
  ·have hr := ifN1 hr hc
   repeat refine gA ?_
   have hr := of_out0 hr
   repeat refine gA ?_
   refine S1.gx [1] ?_
   repeat refine gA ?_
   refine S.gx [1, 2, 5, 7, 10] ?_
   repeat refine gA ?_
   refine S.inl 2 [1, 2, 3, 7] [] Tryd.func106 (by decide) rfl Tryd.ntmps106 (fun cx e => drawn_ok ty_ok tb63_ok cx e) (some 18) rfl rfl rfl rfl (nL rfl) (nL rfl) ?_
   refine gs ?_
   repeat refine gA ?_
   intro stop1 S1
   refine S1.gx [1] ?_
   repeat refine gA ?_
   refine S1.inl 2 [4] [] Tryd.func79 (by decide) rfl Tryd.ntmps79 (fun cx e => drawn_ok ty_ok tb63_ok cx e) (some 7) rfl rfl rfl rfl (nL rfl) (nL rfl) ?_
   refine gs ?_
   repeat refine gA ?_
   intro stop2 S2
   refine S2.gx [4] ?_
   repeat refine gA ?_
   refine S2.sees [0, 1, 7, 8] [(3, 3)] [] ?_ (Stop.iter S2 (fun s3 => ⟨[(0, .c (.d (encF 2 d_II x0))), (1, .c (.clo 108 [])), (7, .c (.d (.int .i64 (x0.length : Int)))), (8, .c (.d (.int .i64 s3)))], [(3, [.d (.int .i64 x1), .d (encF 2 d_II x0), .d (.int .i64 x2)])], []⟩) (b63_3 x1 x0 x2 a1 a2) (fun q => q = r) hr rfl ?_)
   ·exact lf
   ·intro s3 hr
    unfold b63_3 at hr
    refine S2.gx [4] ?_
    repeat refine gA ?_
    refine ⟨?_, ?_⟩ <;> intro hc
    ·have hr := ifP1 hr hc
     repeat refine gA ?_
     refine S2.gx [] ?_
     obtain ⟨hg45, hr⟩ := of_guard1 hr
     obtain ⟨v31, hv31, hr⟩ := of_bind1 hr
     try simp only [hv31, oG, oI, true_and, and_assoc]
     repeat refine gA ?_
     refine ⟨?_, ?_⟩ <;> intro hc
     ·have hr := ifP1 hr hc
      repeat refine gA ?_
      have hr := of_out0 hr
      repeat refine gA ?_
      refine S1.gx [1] ?_
      repeat refine gA ?_
      refine S.gx [1, 2, 5, 7, 10] ?_
      obtain ⟨v32, hv32, hr⟩ := of_bind0 hr
      obtain ⟨hg44, hr⟩ := of_guard0 hr
      obtain ⟨v33, hv33, hr⟩ := of_bind0 hr
      obtain ⟨v34, hv34, hr⟩ := of_bind0 hr
      obtain ⟨v35, hv35, hr⟩ := of_bind0 hr
      try simp only [hv32, hv33, hv34, hv35, Option.getD_some, Option.isSome_some, true_and, and_assoc]
      repeat (first | refine gG hg44 ?_ | refine gA ?_ | refine gB ?_)
      refine ⟨?_, ?_⟩ <;> intro hc
      ·have hr := ifP hr hc
       repeat refine gA ?_
       refine S.prune [9] ?_
       refine S.gx [1, 2, 7, 10] ?_
       repeat refine gA ?_
       cases hr
       exact lf
      ·have hr := ifN hr hc
       obtain ⟨hg42, hr⟩ := of_guard0 hr
       obtain ⟨hg43, hr⟩ := of_guard0 hr
       repeat refine gA ?_
       refine S.prune [1, 2, 3, 10] ?_
       refine S.gx [1, 2, 5, 10] ?_
       repeat refine gA ?_
       refine ⟨?_, ?_⟩ <;> intro hc
       ·have hr := ifP hr hc
        obtain ⟨hg37, hr⟩ := of_guard0 hr
        obtain ⟨hg38, hr⟩ := of_guard0 hr
        obtain ⟨hg39, hr⟩ := of_guard0 hr
        obtain ⟨hg40, hr⟩ := of_guard0 hr
        repeat (first | refine gA ?_ | refine gB ?_)
        refine S.prune [10] ?_
        refine S.gx [1, 2, 5, 7] ?_
        obtain ⟨v36, hv36, hr⟩ := of_bind0 hr
        try simp only [hv36, oG, oI, true_and, and_assoc]
        repeat refine gA ?_
        cases hr
        exact lf
       ·have hr := ifN hr hc
        repeat refine gA ?_
        refine S.prune [10] ?_
        refine S.gx [1, 2, 5, 7] ?_
        obtain ⟨v41, hv41, hr⟩ := of_bind0 hr
        try simp only [hv41, oG, oI, true_and, and_assoc]
        repeat refine gA ?_
        cases hr
        exact lf
     ·have hr := ifN1 hr hc
      repeat refine gA ?_
      refine S2.sees [0, 1, 7, 8] [(3, 3)] [] ?_ hr
      exact lf
    ·have hr := ifN1 hr hc
     repeat refine gA ?_
     have hr := of_out0 hr
     repeat refine gA ?_
     refine S1.gx [1] ?_
     repeat refine gA ?_
     refine S.gx [1, 2, 5, 7, 10] ?_
     obtain ⟨v46, hv46, hr⟩ := of_bind0 hr
     obtain ⟨hg58, hr⟩ := of_guard0 hr
     obtain ⟨v47, hv47, hr⟩ := of_bind0 hr
     obtain ⟨v48, hv48, hr⟩ := of_bind0 hr
     obtain ⟨v49, hv49, hr⟩ := of_bind0 hr
     try simp only [hv46, hv47, hv48, hv49, Option.getD_some, Option.isSome_some, true_and, and_assoc]
     repeat (first | refine gG hg58 ?_ | refine gA ?_ | refine gB ?_)
     refine ⟨?_, ?_⟩ <;> intro hc
     ·have hr := ifP hr hc
      repeat refine gA ?_
      refine S.prune [9] ?_
      refine S.gx [1, 2, 7, 10] ?_
      repeat refine gA ?_
      cases hr
      exact lf
     ·have hr := ifN hr hc
      obtain ⟨hg56, hr⟩ := of_guard0 hr
      obtain ⟨hg57, hr⟩ := of_guard0 hr
      repeat refine gA ?_
      refine S.prune [1, 2, 3, 10] ?_
      refine S.gx [1, 2, 5, 10] ?_
      repeat refine gA ?_
      refine ⟨?_, ?_⟩ <;> intro hc
      ·have hr := ifP hr hc
       obtain ⟨hg51, hr⟩ := of_guard0 hr
       obtain ⟨hg52, hr⟩ := of_guard0 hr
       obtain ⟨hg53, hr⟩ := of_guard0 hr
       obtain ⟨hg54, hr⟩ := of_guard0 hr
       repeat (first | refine gA ?_ | refine gB ?_)
       refine S.prune [10] ?_
       refine S.gx [1, 2, 5, 7] ?_
       obtain ⟨v50, hv50, hr⟩ := of_bind0 hr
       try simp only [hv50, oG, oI, true_and, and_assoc]
       repeat refine gA ?_
       cases hr
       exact lf
      ·have hr := ifN hr hc
       repeat refine gA ?_
       refine S.prune [10] ?_
       refine S.gx [1, 2, 5, 7] ?_
       obtain ⟨v55, hv55, hr⟩ := of_bind0 hr
       try simp only [hv55, oG, oI, true_and, and_assoc]
       repeat refine gA ?_
       cases hr
       exact lf
theorem f63 : FnFact Tryd.prog 63 T63.sp := ⟨⟨Tryd.f63, Tryd.func63, by decide, rfl⟩, v63⟩
end

/- martensite/steel.CheckRules$1 -/
def r65 (a0 : Int) : Option (Bool) :=
  (r66 a0 0 2000).bind fun v1 =>
   some (!v1)
def T65 : TSpec qA3 := mkT qE3 qd3 r65 qu3 false
theorem TP65 (c0 : D) : T65.sp.pre [.c c0] = (eqvArgs (qt3 c0) (qp3 qw3 c0) ∧ (qp3 r65 c0).isSome = true) := (rfl)
theorem TR65 (c0 : D) : T65.sp.res [.c c0] = qu3 ((qp3 r65 c0).getD default) := (rfl)
theorem TA65 : T65.sp.alias = false := (rfl)
def tb65 : Fns := lk [(66, T66.sp)]
theorem tb65_ok : FnsOk Tryd.prog tb65 := .cons f66 (FnsOk.nil)
theorem tb65_66 : tb65 66 = some T66.sp := rfl
attribute [go_sem] TP65 TR65 TA65
section
attribute [local go_sem] T65 tb65_66 Tryd.results65
theorem v65 : Valid Tryd.prog 65 T65.sp := by
 refine valid_t (fn := Tryd.f65) (n := 6) ty_ok tb65_ok Tryd.func65 rfl Tryd.ntmps65 ?_
 rintro a0 hx
 obtain ⟨r, hr⟩ := oE (show (r65 a0).isSome = true from hx)
 have hres : T65.res a0 = qu3 r := by simp only [T65, mkT, hr, oG]
 refine ⟨nL rfl, fun stop S => ?_⟩
 rw [hres] at S
 unfold r65 at hr
 refine S.gx [] ?_
 obtain ⟨v1, hv1, hr⟩ := of_bind0 hr
 try simp only [hv1, oG, oI, true_and, and_assoc]
 repeat refine gA ?_
 cases hr
 exact lf
theorem f65 : FnFact Tryd.prog 65 T65.sp := ⟨⟨Tryd.f65, Tryd.func65, by decide, rfl⟩, v65⟩
end

/- slices.IndexFunc[[]int,int] -/
def b110_1 (a0 : List (Int)) : (Int) → Ctl (Int) (Int) := fun s1 =>
  if (decide (s1 < (a0.length : Int))) = true then
   if 0 ≤ s1 ∧ s1 < (a0.length : Int) then
    bindC (r65 (a0.getD s1.toNat default)) fun v1 =>
     if v1 = true then
      .out (some s1)
      else .next (IntKind.i64.wrap (s1 + 1))
    else .out none
   else .out (some (-1))
def r110 (a0 : List (Int)) : Option (Int) :=
  iterC (b110_1 a0) 1000000000 0
def T110 : TSpec qA8 := mkT qE8 qd8 r110 qu4 false
theorem TP110 (c0 : D) : T110.sp.pre [.c c0, .clo 65 []] = (eqvArgs (qt8 c0) (qp8 qw8 c0) ∧ (qp8 r110 c0).isSome = true) := (rfl)
theorem TR110 (c0 : D) : T110.sp.res [.c c0, .clo 65 []] = qu4 ((qp8 r110 c0).getD default) := (rfl)
theorem TA110 : T110.sp.alias = false := (rfl)
def tb110 : Fns := lk [(65, T65.sp)]
theorem tb110_ok : FnsOk Tryd.prog tb110 := .cons f65 (FnsOk.nil)
theorem tb110_65 : tb110 65 = some T65.sp := rfl
attribute [go_sem] TP110 TR110 TA110
section
attribute [local go_sem] T110 tb110_65 Tryd.results110
theorem v110 : Valid Tryd.prog 110 T110.sp := by
 refine valid_t (fn := Tryd.f110) (n := 19) ty_ok tb110_ok Tryd.func110 rfl Tryd.ntmps110 ?_
 rintro a0 hx
 obtain ⟨r, hr⟩ := oE (show (r110 a0).isSome = true from hx)
 have hres : T110.res a0 = qu4 r := by simp only [T110, mkT, hr, oG]
 refine ⟨nL rfl, fun stop S => ?_⟩
 rw [hres] at S
 unfold r110 at hr
 refine S.gx [] ?_
 repeat refine gA ?_
 refine S.sees [0, 1, 7, 8] [] [] ?_ (Stop.iter S (fun s1 => ⟨[(0, .c (.d (encF 1 d_I a0))), (1, .c (.clo 65 [])), (7, .c (.d (.int .i64 (a0.length : Int)))), (8, .c (.d (.int .i64 s1)))], [], []⟩) (b110_1 a0) (fun q => q = r) hr rfl ?_)
 ·exact lf
 ·intro s1 hr
  unfold b110_1 at hr
  refine S.gx [] ?_
  repeat refine gA ?_
  refine ⟨?_, ?_⟩ <;> intro hc
  ·have hr := ifP1 hr hc
   obtain ⟨hg2, hr⟩ := of_guard1 hr
   obtain ⟨v1, hv1, hr⟩ := of_bind1 hr
   try simp only [hv1, oG, oI, true_and, and_assoc]
   repeat refine gA ?_
   refine ⟨?_, ?_⟩ <;> intro hc
   ·have hr := ifP1 hr hc
    repeat refine gA ?_
    have hr := of_out0 hr
    cases hr
    exact lf
   ·have hr := ifN1 hr hc
    repeat refine gA ?_
    refine S.sees [0, 1, 7, 8] [] [] ?_ hr
    exact lf
  ·have hr := ifN1 hr hc
   repeat refine gA ?_
   have hr := of_out0 hr
   repeat refine gA ?_
   cases hr
   exact lf
theorem f110 : FnFact Tryd.prog 110 T110.sp := ⟨⟨Tryd.f110, Tryd.func110, by decide, rfl⟩, v110⟩
end

/- slices.ContainsFunc[[]int,int] -/
def r64 (a0 : List (Int)) : Option (Bool) :=
  (r110 a0).bind fun v1 =>
   some (decide (v1 ≥ 0))
def T64 : TSpec qA8 := mkT qE8 qd8 r64 qu3 false
theorem TP64 (c0 : D) : T64.sp.pre [.c c0, .clo 65 []] = (eqvArgs (qt8 c0) (qp8 qw8 c0) ∧ (qp8 r64 c0).isSome = true) := (rfl)
theorem TR64 (c0 : D) : T64.sp.res [.c c0, .clo 65 []] = qu3 ((qp8 r64 c0).getD default) := (rfl)
theorem TA64 : T64.sp.alias = false := (rfl)
def tb64 : Fns := lk [(110, T110.sp)]
theorem tb64_ok : FnsOk Tryd.prog tb64 := .cons f110 (FnsOk.nil)
theorem tb64_110 : tb64 110 = some T110.sp := rfl
attribute [go_sem] TP64 TR64 TA64
section
attribute [local go_sem] T64 tb64_110 Tryd.results64
theorem v64 : Valid Tryd.prog 64 T64.sp := by
 refine valid_t (fn := Tryd.f64) (n := 9) ty_ok tb64_ok Tryd.func64 rfl Tryd.ntmps64 ?_
 rintro a0 hx
 obtain ⟨r, hr⟩ := oE (show (r64 a0).isSome = true from hx)
 have hres : T64.res a0 = qu3 r := by simp only [T64, mkT, hr, oG]
 refine ⟨nL rfl, fun stop S => ?_⟩
 rw [hres] at S
 unfold r64 at hr
 refine S.gx [] ?_
 obtain ⟨v1, hv1, hr⟩ := of_bind0 hr
 try simp only [hv1, oG, oI, true_and, and_assoc]
 repeat refine gA ?_
 cases hr
 exact lf
theorem f64 : FnFact Tryd.prog 64 T64.sp := ⟨⟨Tryd.f64, Tryd.func64, by decide, rfl⟩, v64⟩
end

/- cmp.isNaN[int] -/
def r130 (a0 : Int) : Option (Bool) :=
  some (a0 != a0)
def T130 : TSpec qA3 := mkT qE3 qd3 r130 qu3 false
theorem TP130 (c0 : D) : T130.sp.pre [.c c0] = (eqvArgs (qt3 c0) (qp3 qw3 c0) ∧ (qp3 r130 c0).isSome = true) := (rfl)
theorem TR130 (c0 : D) : T130.sp.res [.c c0] = qu3 ((qp3 r130 c0).getD default) := (rfl)
theorem TA130 : T130.sp.alias = false := (rfl)
def tb130 : Fns := lk []
theorem tb130_ok : FnsOk Tryd.prog tb130 := FnsOk.nil
attribute [go_sem] TP130 TR130 TA130
section
attribute [local go_sem] T130 Tryd.results130
theorem v130 : Valid Tryd.prog 130 T130.sp := by
 refine valid_t (fn := Tryd.f130) (n := 6) ty_ok tb130_ok Tryd.func130 rfl Tryd.ntmps130 ?_
 rintro a0 hx
 obtain ⟨r, hr⟩ := oE (show (r130 a0).isSome = true from hx)
 have hres : T130.res a0 = qu3 r := by simp only [T130, mkT, hr, oG]
 refine ⟨nL rfl, fun stop S => ?_⟩
 rw [hres] at S
 unfold r130 at hr
 refine S.gx [] ?_
 repeat refine gA ?_
 cases hr
 exact lf
theorem f130 : FnFact Tryd.prog 130 T130.sp := ⟨⟨Tryd.f130, Tryd.func130, by decide, rfl⟩, v130⟩
end

/- cmp.Less[int] -/
def r111 (a0 : Int) (a1 : Int) : Option (Bool) :=
  (r130 a0).bind fun v1 =>
   if v1 = true → (r130 a1).isSome = true then
    some ((v1 && (!((r130 a1).getD default))) || (decide (a0 < a1)))
    else none
def T111 : TSpec qA9 := mkT qE9 qd9 (fun ⟨a0, a1⟩ => r111 a0 a1) qu3 false
theorem TP111 (c0 c1 : D) : T111.sp.pre [.c c0, .c c1] = (eqvArgs (qt9 c0 c1) (qp9 qw9 c0 c1) ∧ (qp9 r111 c0 c1).isSome = true) := (rfl)
theorem TR111 (c0 c1 : D) : T111.sp.res [.c c0, .c c1] = qu3 ((qp9 r111 c0 c1).getD default) := (rfl)
theorem TA111 : T111.sp.alias = false := (rfl)
def tb111 : Fns := lk [(130, T130.sp)]
theorem tb111_ok : FnsOk Tryd.prog tb111 := .cons f130 (FnsOk.nil)
theorem tb111_130 : tb111 130 = some T130.sp := rfl
attribute [go_sem] TP111 TR111 TA111
section
attribute [local go_sem] T111 tb111_130 Tryd.results111
theorem v111 : Valid Tryd.prog 111 T111.sp := by
 refine valid_t (fn := Tryd.f111) (n := 17) ty_ok tb111_ok Tryd.func111 rfl Tryd.ntmps111 ?_
 rintro ⟨a0, a1⟩ hx
 obtain ⟨r, hr⟩ := oE (show (r111 a0 a1).isSome = true from hx)
 have hres : T111.res (a0, a1) = qu3 r := by simp only [T111, mkT, hr, oG]
 refine ⟨nL rfl, fun stop S => ?_⟩
 rw [hres] at S
 unfold r111 at hr
 refine S.gx [] ?_
 obtain ⟨v1, hv1, hr⟩ := of_bind0 hr
 obtain ⟨hg2, hr⟩ := of_guard0 hr
 try simp only [hv1, oG, oI, true_and, and_assoc]
 repeat (first | refine gG hg2 ?_ | refine gA ?_ | refine gB ?_)
 cases hr
 exact lf
theorem f111 : FnFact Tryd.prog 111 T111.sp := ⟨⟨Tryd.f111, Tryd.func111, by decide, rfl⟩, v111⟩
end
end Go.Proofs.YtfkmbdfajpdjjaaDoor

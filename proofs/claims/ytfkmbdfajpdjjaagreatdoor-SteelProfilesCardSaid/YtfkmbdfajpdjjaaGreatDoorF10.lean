/- Contracts of functions, written by wip/dec. -/
import Derived.Test.YtfkmbdfajpdjjaaGreatDoorF00
import Derived.Test.YtfkmbdfajpdjjaaGreatDoorF01
import Derived.Test.YtfkmbdfajpdjjaaGreatDoorF02
import Derived.Test.YtfkmbdfajpdjjaaGreatDoorF03
import Derived.Test.YtfkmbdfajpdjjaaGreatDoorF07
import Derived.Test.YtfkmbdfajpdjjaaGreatDoorF08
set_option linter.unusedVariables false
set_option linter.unusedSimpArgs false
set_option maxHeartbeats 4000000
set_option maxRecDepth 20000
namespace Go.Proofs.YtfkmbdfajpdjjaaGreatDoor
open Go.Abs
abbrev qA43 := (List ((List (Int × Int))))
def qw43 (a0 : List ((List (Int × Int)))) : List Arg := [.c (encF 1 d_LIIE a0)]
def qE43 : qA43 → List Arg := qw43
def qd43 (a : List Arg) : qA43 := decF g_LIIE (aCell a 0 0)
def qp43 {β : Type} (f : (List ((List (Int × Int)))) → β) (c0 : D) : β := f (decF g_LIIE c0)
def qt43 (c0 : D) : List Arg := [.c c0]
attribute [go_sem] qw43 qp43 qt43 qE43
abbrev qA45 := (List (Int × Int)) × (List (Int × Int))
def qw45 (a0 : List (Int × Int)) (a1 : List (Int × Int)) : List Arg := [.c (encF 2 d_II a0), .c (encF 2 d_II a1)]
def qE45 : qA45 → List Arg := fun ⟨a0, a1⟩ => qw45 a0 a1
def qd45 (a : List Arg) : qA45 := (decF g_II (aCell a 0 0), decF g_II (aCell a 1 0))
def qp45 {β : Type} (f : (List (Int × Int)) → (List (Int × Int)) → β) (c0 c1 : D) : β := f (decF g_II c0) (decF g_II c1)
def qt45 (c0 c1 : D) : List Arg := [.c c0, .c c1]
attribute [go_sem] qw45 qp45 qt45 qE45
def qu18 (v : (List ((List (Int × Int))))) : List RV := [.c (.own (encF 1 d_LIIE v))]
attribute [go_sem] qu18
def qu19 (v : (List (Int × Int)) × Int) : List RV := [.c (.own (encF 2 d_II v.1)), .c (.d (.int .i64 v.2))]
attribute [go_sem] qu19
/- martensite/martensiteref04.CopyCurves -/
def b21_1 (a0 : List ((List (Int × Int)))) : ((List ((List (Int × Int)))) × Int) → Ctl ((List ((List (Int × Int)))) × Int) ((List ((List (Int × Int))))) := fun s1 =>
  if (decide (s1.2 < (a0.length : Int))) = true then
   if 0 ≤ s1.2 ∧ s1.2 < (a0.length : Int) then
    bindC (r31 (a0.getD s1.2.toNat default)) fun v1 =>
     if (s1.1.length + 1) * 24 ≤ 140737488355328 ∧ s1.1.length + 1 ≤ 9223372036854775807 then
      .next (s1.1 ++ [v1], IntKind.i64.wrap (s1.2 + 1))
      else .out none
    else .out none
   else .out (some s1.1)
def r21 (a0 : List ((List (Int × Int)))) : Option ((List ((List (Int × Int))))) :=
  iterC (b21_1 a0) 1000000000 ([], 0)
def T21 : TSpec qA43 := mkT qE43 qd43 r21 qu18 true
theorem TP21 (c0 : D) : T21.sp.pre [.c c0] = (eqvArgs (qt43 c0) (qp43 qw43 c0) ∧ (qp43 r21 c0).isSome = true) := (rfl)
theorem TR21 (c0 : D) : T21.sp.res [.c c0] = qu18 ((qp43 r21 c0).getD default) := (rfl)
theorem TA21 : T21.sp.alias = true := (rfl)
def tb21 : Fns := lk [(31, T31.sp)]
theorem tb21_ok : FnsOk Tryz.prog tb21 := .cons f31 (FnsOk.nil)
theorem tb21_31 : tb21 31 = some T31.sp := rfl
attribute [go_sem] TP21 TR21 TA21
section
attribute [local go_sem] T21 tb21_31 Tryz.results21
theorem v21 : Valid Tryz.prog 21 T21.sp := by
  refine valid_t (fn := Tryz.f21) (n := 20) ty_ok tb21_ok Tryz.func21 rfl Tryz.ntmps21 ?_
  rintro a0 hx
  obtain ⟨r, hr⟩ := Option.isSome_iff_exists.1 (show (r21 a0).isSome = true from hx)
  have hres : T21.res a0 = qu18 r := by simp only [T21, mkT, hr, Option.getD_some]
  refine ⟨Nat.le_of_ble_eq_true rfl, fun stop S => ?_⟩
  rw [hres] at S
  unfold r21 at hr
  refine S.gx [] ?_
  repeat refine gA ?_
  refine S.own0 3 1000300 1 rfl rfl ?_
  refine S.sees [0, 3, 4] [] [(1000300, 1000300)] ?_ (Stop.iter S (fun s1 => ⟨[(0, .c (.d (encF 1 d_LIIE a0))), (3, .c (.own 1000300)), (4, .c (.d (.int .i64 s1.2)))], [], [(1000300, .owned (encF 1 d_LIIE s1.1))]⟩) (b21_1 a0) (fun q => q = r) hr rfl ?_)
  · exact lf
  · intro s1 hr
    unfold b21_1 at hr
    refine S.gx [] ?_
    repeat refine gA ?_
    refine ⟨fun hc => ?_, fun hc => ?_⟩
    · replace hr := ifP1 hr hc
      obtain ⟨hg2, hr⟩ := of_guard1 hr
      obtain ⟨v1, hv1, hr⟩ := of_bind1 hr
      obtain ⟨hg3, hr⟩ := of_guard1 hr
      try simp only [hv1, Option.getD_some, Option.isSome_some, true_and, and_assoc]
      repeat refine gA ?_
      refine S.sees [0, 3, 4] [] [(18, 1000300)] ?_ hr
      exact lf
    · replace hr := ifN1 hr hc
      repeat refine gA ?_
      have hr := of_out0 hr
      repeat refine gA ?_
      obtain rfl := Option.some.inj hr
      exact lf
theorem f21 : FnFact Tryz.prog 21 T21.sp := ⟨⟨Tryz.f21, Tryz.func21, by decide, rfl⟩, v21⟩
end

/- martensite/steel.ProfileOf -/
def b20_2 (a0_0 : List (Int × Int × Int × Int)) (a0_1 : List (Int × Int × Int × Int × Int)) (a0_2 : List (Int × Int × Int)) (a0_3 : List (Int × Int)) (a0_4 : Int) (a0_5 : Int) (a0_6 : Int) (a0_7 : Int) (a1_0 : Int) (a1_1 : Int) (a1_2 : Int) (a1_3 : Int) (a1_4 : Int) (a1_5 : Int) (a1_6 : Int) (a1_7 : Int) (a1_8 : Int) (a1_9 : Int) (a1_10 : Int) (a1_11 : Int) (a1_12 : Int) (a1_13 : Int) (a2 : List ((List (Int × Int)))) : ((List (Int × Int)) × Int) → Ctl ((List (Int × Int)) × Int) ((List (Int × Int)) × Int) := fun s2 =>
  if (decide (s2.2 < (a2.length : Int))) = true then
   if 0 ≤ s2.2 ∧ s2.2 < (a2.length : Int) then
    bindC (r62 a0_0 a0_1 a0_2 a0_3 a0_4 a0_5 a0_6 a0_7 a1_0 a1_1 a1_2 a1_3 a1_4 a1_5 a1_6 a1_7 a1_8 a1_9 a1_10 a1_11 a1_12 a1_13 (a2.getD s2.2.toNat default)) fun v8 =>
     bindC (r53 a0_0 a0_1 a0_2 a0_3 a0_4 a0_5 a0_6 a0_7 v8.1 v8.2.1 v8.2.2.1 v8.2.2.2.1 v8.2.2.2.2.1 v8.2.2.2.2.2.1 v8.2.2.2.2.2.2.1 v8.2.2.2.2.2.2.2.1 v8.2.2.2.2.2.2.2.2.1 v8.2.2.2.2.2.2.2.2.2.1 v8.2.2.2.2.2.2.2.2.2.2.1 v8.2.2.2.2.2.2.2.2.2.2.2.1 v8.2.2.2.2.2.2.2.2.2.2.2.2.1 v8.2.2.2.2.2.2.2.2.2.2.2.2.2) fun v9 =>
      if (s2.1.length + 1) * 16 ≤ 140737488355328 ∧ s2.1.length + 1 ≤ 9223372036854775807 then
       .next (s2.1 ++ [(v9.1, v9.2)], IntKind.i64.wrap (s2.2 + 1))
       else .out none
    else .out none
   else .out (some (s2.1, 0))
def b20_1 (a0_0 : List (Int × Int × Int × Int)) (a0_1 : List (Int × Int × Int × Int × Int)) (a0_2 : List (Int × Int × Int)) (a0_3 : List (Int × Int)) (a0_4 : Int) (a0_5 : Int) (a0_6 : Int) (a0_7 : Int) (a1_0 : Int) (a1_1 : Int) (a1_2 : Int) (a1_3 : Int) (a1_4 : Int) (a1_5 : Int) (a1_6 : Int) (a1_7 : Int) (a1_8 : Int) (a1_9 : Int) (a1_10 : Int) (a1_11 : Int) (a1_12 : Int) (a1_13 : Int) (a2 : List ((List (Int × Int)))) : (Int × Int) → Ctl (Int × Int) ((List (Int × Int)) × Int) := fun s1 =>
  if (decide (s1.2 < (a2.length : Int))) = true then
   if 0 ≤ s1.2 ∧ s1.2 < (a2.length : Int) then
    bindC (r61 (a2.getD s1.2.toNat default)) fun v5 =>
     bindC (r45 [s1.1, v5]) fun v6 =>
      .next (v6, IntKind.i64.wrap (s1.2 + 1))
    else .out none
   else .out (if (s1.1 != 0) = true then
    some ([], s1.1)
    else iterC (b20_2 a0_0 a0_1 a0_2 a0_3 a0_4 a0_5 a0_6 a0_7 a1_0 a1_1 a1_2 a1_3 a1_4 a1_5 a1_6 a1_7 a1_8 a1_9 a1_10 a1_11 a1_12 a1_13 a2) 1000000000 ([], 0))
def r20 (a0_0 : List (Int × Int × Int × Int)) (a0_1 : List (Int × Int × Int × Int × Int)) (a0_2 : List (Int × Int × Int)) (a0_3 : List (Int × Int)) (a0_4 : Int) (a0_5 : Int) (a0_6 : Int) (a0_7 : Int) (a1_0 : Int) (a1_1 : Int) (a1_2 : Int) (a1_3 : Int) (a1_4 : Int) (a1_5 : Int) (a1_6 : Int) (a1_7 : Int) (a1_8 : Int) (a1_9 : Int) (a1_10 : Int) (a1_11 : Int) (a1_12 : Int) (a1_13 : Int) (a2 : List ((List (Int × Int)))) : Option ((List (Int × Int)) × Int) :=
  (r46 a0_0 a0_1 a0_2 a0_3 a0_4 a0_5 a0_6 a0_7).bind fun v1 =>
   (r33 a1_0 a1_1 a1_2 a1_3 a1_4 a1_5 a1_6 a1_7 a1_8 a1_9 a1_10 a1_11 a1_12 a1_13).bind fun v2 =>
    (r48 (decide ((a2.length : Int) ≤ 12)) 8).bind fun v3 =>
     (r45 [v1, v2, v3]).bind fun v4 =>
      iterC (b20_1 a0_0 a0_1 a0_2 a0_3 a0_4 a0_5 a0_6 a0_7 a1_0 a1_1 a1_2 a1_3 a1_4 a1_5 a1_6 a1_7 a1_8 a1_9 a1_10 a1_11 a1_12 a1_13 a2) 1000000000 (v4, 0)
def T20 : TSpec qA44 := mkT qE44 qd44 (fun ⟨a0_0, a0_1, a0_2, a0_3, a0_4, a0_5, a0_6, a0_7, a1_0, a1_1, a1_2, a1_3, a1_4, a1_5, a1_6, a1_7, a1_8, a1_9, a1_10, a1_11, a1_12, a1_13, a2⟩ => r20 a0_0 a0_1 a0_2 a0_3 a0_4 a0_5 a0_6 a0_7 a1_0 a1_1 a1_2 a1_3 a1_4 a1_5 a1_6 a1_7 a1_8 a1_9 a1_10 a1_11 a1_12 a1_13 a2) qu19 false
theorem TP20 (c0 c1 c2 c3 c4 c5 c6 c7 c8 c9 c10 c11 c12 c13 c14 c15 c16 c17 c18 c19 c20 c21 c22 : D) : T20.sp.pre [.agg [c0, c1, c2, c3, c4, c5, c6, c7], .agg [c8, c9, c10, c11, c12, c13, c14, c15, c16, c17, c18, c19, c20, c21], .c c22] = (eqvArgs (qt44 c0 c1 c2 c3 c4 c5 c6 c7 c8 c9 c10 c11 c12 c13 c14 c15 c16 c17 c18 c19 c20 c21 c22) (qp44 qw44 c0 c1 c2 c3 c4 c5 c6 c7 c8 c9 c10 c11 c12 c13 c14 c15 c16 c17 c18 c19 c20 c21 c22) ∧ (qp44 r20 c0 c1 c2 c3 c4 c5 c6 c7 c8 c9 c10 c11 c12 c13 c14 c15 c16 c17 c18 c19 c20 c21 c22).isSome = true) := (rfl)
theorem TR20 (c0 c1 c2 c3 c4 c5 c6 c7 c8 c9 c10 c11 c12 c13 c14 c15 c16 c17 c18 c19 c20 c21 c22 : D) : T20.sp.res [.agg [c0, c1, c2, c3, c4, c5, c6, c7], .agg [c8, c9, c10, c11, c12, c13, c14, c15, c16, c17, c18, c19, c20, c21], .c c22] = qu19 ((qp44 r20 c0 c1 c2 c3 c4 c5 c6 c7 c8 c9 c10 c11 c12 c13 c14 c15 c16 c17 c18 c19 c20 c21 c22).getD default) := (rfl)
theorem TA20 : T20.sp.alias = false := (rfl)
def tb20 : Fns := lk [(33, T33.sp), (45, T45.sp), (46, T46.sp), (48, T48.sp), (53, T53.sp), (61, T61.sp), (62, T62.sp)]
theorem tb20_ok : FnsOk Tryz.prog tb20 := .cons f33 (.cons f45 (.cons f46 (.cons f48 (.cons f53 (.cons f61 (.cons f62 (FnsOk.nil)))))))
theorem tb20_33 : tb20 33 = some T33.sp := rfl
theorem tb20_45 : tb20 45 = some T45.sp := rfl
theorem tb20_46 : tb20 46 = some T46.sp := rfl
theorem tb20_48 : tb20 48 = some T48.sp := rfl
theorem tb20_53 : tb20 53 = some T53.sp := rfl
theorem tb20_61 : tb20 61 = some T61.sp := rfl
theorem tb20_62 : tb20 62 = some T62.sp := rfl
attribute [go_sem] TP20 TR20 TA20
section
attribute [local go_sem] T20 tb20_33 tb20_45 tb20_46 tb20_48 tb20_53 tb20_61 tb20_62 Tryz.results20
theorem v20 : Valid Tryz.prog 20 T20.sp := by
  refine valid_t (fn := Tryz.f20) (n := 58) ty_ok tb20_ok Tryz.func20 rfl Tryz.ntmps20 ?_
  rintro ⟨a0_0, a0_1, a0_2, a0_3, a0_4, a0_5, a0_6, a0_7, a1_0, a1_1, a1_2, a1_3, a1_4, a1_5, a1_6, a1_7, a1_8, a1_9, a1_10, a1_11, a1_12, a1_13, a2⟩ hx
  obtain ⟨r, hr⟩ := Option.isSome_iff_exists.1 (show (r20 a0_0 a0_1 a0_2 a0_3 a0_4 a0_5 a0_6 a0_7 a1_0 a1_1 a1_2 a1_3 a1_4 a1_5 a1_6 a1_7 a1_8 a1_9 a1_10 a1_11 a1_12 a1_13 a2).isSome = true from hx)
  have hres : T20.res (a0_0, a0_1, a0_2, a0_3, a0_4, a0_5, a0_6, a0_7, a1_0, a1_1, a1_2, a1_3, a1_4, a1_5, a1_6, a1_7, a1_8, a1_9, a1_10, a1_11, a1_12, a1_13, a2) = qu19 r := by simp only [T20, mkT, hr, Option.getD_some]
  refine ⟨Nat.le_of_ble_eq_true rfl, fun stop S => ?_⟩
  rw [hres] at S
  unfold r20 at hr
  refine S.gx [] ?_
  obtain ⟨v1, hv1, hr⟩ := of_bind0 hr
  obtain ⟨v2, hv2, hr⟩ := of_bind0 hr
  obtain ⟨v3, hv3, hr⟩ := of_bind0 hr
  obtain ⟨v4, hv4, hr⟩ := of_bind0 hr
  try simp only [hv1, hv2, hv3, hv4, Option.getD_some, Option.isSome_some, true_and, and_assoc]
  repeat refine gA ?_
  refine S.sees [2, 3, 4, 8, 24, 25, 26] [(3, 3), (4, 4)] [] ?_ (Stop.iter S (fun s1 => ⟨[(2, .c (.d (encF 1 d_LIIE a2))), (3, .c (.ref 3 0)), (4, .c (.ref 4 0)), (8, .c (.d (.int .i64 s1.1))), (24, .c (.d (encF 1 d_LIIE a2))), (25, .c (.d (.int .i64 (a2.length : Int)))), (26, .c (.d (.int .i64 s1.2)))], [(3, [.d (encF 4 d_IIII a0_0), .d (encF 5 d_IIIII a0_1), .d (encF 3 d_III a0_2), .d (encF 2 d_II a0_3), .d (.int .i64 a0_4), .d (.int .i64 a0_5), .d (.int .i64 a0_6), .d (.int .i64 a0_7)]), (4, [.d (.int .i64 a1_0), .d (.int .i64 a1_1), .d (.int .i64 a1_2), .d (.int .i64 a1_3), .d (.int .i64 a1_4), .d (.int .i64 a1_5), .d (.int .i64 a1_6), .d (.int .i64 a1_7), .d (.int .i64 a1_8), .d (.int .i64 a1_9), .d (.int .i64 a1_10), .d (.int .i64 a1_11), .d (.int .i64 a1_12), .d (.int .i64 a1_13)])], []⟩) (b20_1 a0_0 a0_1 a0_2 a0_3 a0_4 a0_5 a0_6 a0_7 a1_0 a1_1 a1_2 a1_3 a1_4 a1_5 a1_6 a1_7 a1_8 a1_9 a1_10 a1_11 a1_12 a1_13 a2) (fun q => q = r) hr rfl ?_)
  · exact lf
  · intro s1 hr
    unfold b20_1 at hr
    refine S.gx [] ?_
    repeat refine gA ?_
    refine ⟨fun hc => ?_, fun hc => ?_⟩
    · replace hr := ifP1 hr hc
      obtain ⟨hg7, hr⟩ := of_guard1 hr
      obtain ⟨v5, hv5, hr⟩ := of_bind1 hr
      obtain ⟨v6, hv6, hr⟩ := of_bind1 hr
      try simp only [hv5, hv6, Option.getD_some, Option.isSome_some, true_and, and_assoc]
      repeat refine gA ?_
      refine S.sees [2, 3, 4, 8, 24, 25, 26] [(3, 3), (4, 4)] [] ?_ hr
      exact lf
    · replace hr := ifN1 hr hc
      repeat refine gA ?_
      have hr := of_out0 hr
      repeat refine gA ?_
      refine ⟨fun hc => ?_, fun hc => ?_⟩
      · replace hr := ifP hr hc
        repeat refine gA ?_
        obtain rfl := Option.some.inj hr
        exact lf
      · replace hr := ifN hr hc
        repeat refine gA ?_
        refine S.own0 11 1001100 2 rfl rfl ?_
        refine S.sees [3, 4, 11, 39, 40, 41] [(3, 3), (4, 4)] [(1001100, 1001100)] ?_ (Stop.iter S (fun s2 => ⟨[(3, .c (.ref 3 0)), (4, .c (.ref 4 0)), (11, .c (.own 1001100)), (39, .c (.d (encF 1 d_LIIE a2))), (40, .c (.d (.int .i64 (a2.length : Int)))), (41, .c (.d (.int .i64 s2.2)))], [(3, [.d (encF 4 d_IIII a0_0), .d (encF 5 d_IIIII a0_1), .d (encF 3 d_III a0_2), .d (encF 2 d_II a0_3), .d (.int .i64 a0_4), .d (.int .i64 a0_5), .d (.int .i64 a0_6), .d (.int .i64 a0_7)]), (4, [.d (.int .i64 a1_0), .d (.int .i64 a1_1), .d (.int .i64 a1_2), .d (.int .i64 a1_3), .d (.int .i64 a1_4), .d (.int .i64 a1_5), .d (.int .i64 a1_6), .d (.int .i64 a1_7), .d (.int .i64 a1_8), .d (.int .i64 a1_9), .d (.int .i64 a1_10), .d (.int .i64 a1_11), .d (.int .i64 a1_12), .d (.int .i64 a1_13)])], [(1001100, .owned (encF 2 d_II s2.1))]⟩) (b20_2 a0_0 a0_1 a0_2 a0_3 a0_4 a0_5 a0_6 a0_7 a1_0 a1_1 a1_2 a1_3 a1_4 a1_5 a1_6 a1_7 a1_8 a1_9 a1_10 a1_11 a1_12 a1_13 a2) (fun q => q = r) hr rfl ?_)
        · exact lf
        · intro s2 hr
          unfold b20_2 at hr
          refine S.gx [] ?_
          repeat refine gA ?_
          refine ⟨fun hc => ?_, fun hc => ?_⟩
          · replace hr := ifP1 hr hc
            obtain ⟨hg10, hr⟩ := of_guard1 hr
            obtain ⟨v8, hv8, hr⟩ := of_bind1 hr
            obtain ⟨v9, hv9, hr⟩ := of_bind1 hr
            obtain ⟨hg11, hr⟩ := of_guard1 hr
            try simp only [hv8, hv9, Option.getD_some, Option.isSome_some, true_and, and_assoc]
            repeat refine gA ?_
            refine S.sees [3, 4, 11, 39, 40, 41] [(3, 3), (4, 4)] [(55, 1001100)] ?_ hr
            exact lf
          · replace hr := ifN1 hr hc
            repeat refine gA ?_
            have hr := of_out0 hr
            repeat refine gA ?_
            obtain rfl := Option.some.inj hr
            exact lf
theorem f20 : FnFact Tryz.prog 20 T20.sp := ⟨⟨Tryz.f20, Tryz.func20, by decide, rfl⟩, v20⟩
end

/- martensite/martensiteref04.ProfileErr -/
def b23_1 (a0 : List ((List (Int × Int)))) : (Int) → Ctl (Int) (Int) := fun s1 =>
  if (decide (s1 < (a0.length : Int))) = true then
   if 0 ≤ s1 ∧ s1 < (a0.length : Int) then
    bindC (r37 (a0.getD s1.toNat default)) fun v1 =>
     if (v1 != 0) = true then
      .out (some v1)
      else .next (IntKind.i64.wrap (s1 + 1))
    else .out none
   else .out (some 0)
def r23 (a0 : List ((List (Int × Int)))) : Option (Int) :=
  if (decide ((a0.length : Int) > 12)) = true then
   some 8
   else iterC (b23_1 a0) 1000000000 0
def T23 : TSpec qA43 := mkT qE43 qd43 r23 qu4 false
theorem TP23 (c0 : D) : T23.sp.pre [.c c0] = (eqvArgs (qt43 c0) (qp43 qw43 c0) ∧ (qp43 r23 c0).isSome = true) := (rfl)
theorem TR23 (c0 : D) : T23.sp.res [.c c0] = qu4 ((qp43 r23 c0).getD default) := (rfl)
theorem TA23 : T23.sp.alias = false := (rfl)
def tb23 : Fns := lk [(37, T37.sp)]
theorem tb23_ok : FnsOk Tryz.prog tb23 := .cons f37 (FnsOk.nil)
theorem tb23_37 : tb23 37 = some T37.sp := rfl
attribute [go_sem] TP23 TR23 TA23
section
attribute [local go_sem] T23 tb23_37 Tryz.results23
theorem v23 : Valid Tryz.prog 23 T23.sp := by
  refine valid_t (fn := Tryz.f23) (n := 22) ty_ok tb23_ok Tryz.func23 rfl Tryz.ntmps23 ?_
  rintro a0 hx
  obtain ⟨r, hr⟩ := Option.isSome_iff_exists.1 (show (r23 a0).isSome = true from hx)
  have hres : T23.res a0 = qu4 r := by simp only [T23, mkT, hr, Option.getD_some]
  refine ⟨Nat.le_of_ble_eq_true rfl, fun stop S => ?_⟩
  rw [hres] at S
  unfold r23 at hr
  refine S.gx [] ?_
  repeat refine gA ?_
  refine ⟨fun hc => ?_, fun hc => ?_⟩
  · replace hr := ifP hr hc
    repeat refine gA ?_
    obtain rfl := Option.some.inj hr
    exact lf
  · replace hr := ifN hr hc
    repeat refine gA ?_
    refine S.sees [0, 3] [] [] ?_ (Stop.iter S (fun s1 => ⟨[(0, .c (.d (encF 1 d_LIIE a0))), (3, .c (.d (.int .i64 s1)))], [], []⟩) (b23_1 a0) (fun q => q = r) hr rfl ?_)
    · exact lf
    · intro s1 hr
      unfold b23_1 at hr
      refine S.gx [] ?_
      repeat refine gA ?_
      refine ⟨fun hc => ?_, fun hc => ?_⟩
      · replace hr := ifP1 hr hc
        obtain ⟨hg2, hr⟩ := of_guard1 hr
        obtain ⟨v1, hv1, hr⟩ := of_bind1 hr
        try simp only [hv1, Option.getD_some, Option.isSome_some, true_and, and_assoc]
        repeat refine gA ?_
        refine ⟨fun hc => ?_, fun hc => ?_⟩
        · replace hr := ifP1 hr hc
          repeat refine gA ?_
          have hr := of_out0 hr
          obtain rfl := Option.some.inj hr
          exact lf
        · replace hr := ifN1 hr hc
          repeat refine gA ?_
          refine S.sees [0, 3] [] [] ?_ hr
          exact lf
      · replace hr := ifN1 hr hc
        repeat refine gA ?_
        have hr := of_out0 hr
        repeat refine gA ?_
        obtain rfl := Option.some.inj hr
        exact lf
theorem f23 : FnFact Tryz.prog 23 T23.sp := ⟨⟨Tryz.f23, Tryz.func23, by decide, rfl⟩, v23⟩
end

/- martensite/martensiteref04.Profile -/
def b25_1 (a0_0 : List (Int × Int × Int × Int)) (a0_1 : List (Int × Int × Int × Int × Int)) (a0_2 : List (Int × Int × Int)) (a0_3 : List (Int × Int)) (a0_4 : Int) (a0_5 : Int) (a0_6 : Int) (a0_7 : Int) (a1_0 : Int) (a1_1 : Int) (a1_2 : Int) (a1_3 : Int) (a1_4 : Int) (a1_5 : Int) (a1_6 : Int) (a1_7 : Int) (a1_8 : Int) (a1_9 : Int) (a1_10 : Int) (a1_11 : Int) (a1_12 : Int) (a1_13 : Int) (a2 : List ((List (Int × Int)))) : ((List (Int × Int)) × Int) → Ctl ((List (Int × Int)) × Int) ((List (Int × Int))) := fun s1 =>
  if (decide (s1.2 < (a2.length : Int))) = true then
   if 0 ≤ s1.2 ∧ s1.2 < (a2.length : Int) then
    bindC (r38 a0_0 a0_1 a0_2 a0_3 a0_4 a0_5 a0_6 a0_7 a1_0 a1_1 a1_2 a1_3 a1_4 a1_5 a1_6 a1_7 a1_8 a1_9 a1_10 a1_11 a1_12 a1_13 (a2.getD s1.2.toNat default)) fun v1 =>
     bindC (r34 a0_0 a0_1 a0_2 a0_3 a0_4 a0_5 a0_6 a0_7 v1.1 v1.2.1 v1.2.2.1 v1.2.2.2.1 v1.2.2.2.2.1 v1.2.2.2.2.2.1 v1.2.2.2.2.2.2.1 v1.2.2.2.2.2.2.2.1 v1.2.2.2.2.2.2.2.2.1 v1.2.2.2.2.2.2.2.2.2.1 v1.2.2.2.2.2.2.2.2.2.2.1 v1.2.2.2.2.2.2.2.2.2.2.2.1 v1.2.2.2.2.2.2.2.2.2.2.2.2.1 v1.2.2.2.2.2.2.2.2.2.2.2.2.2) fun v2 =>
      if (s1.1.length + 1) * 16 ≤ 140737488355328 ∧ s1.1.length + 1 ≤ 9223372036854775807 then
       .next (s1.1 ++ [(v2.1, v2.2)], IntKind.i64.wrap (s1.2 + 1))
       else .out none
    else .out none
   else .out (some s1.1)
def r25 (a0_0 : List (Int × Int × Int × Int)) (a0_1 : List (Int × Int × Int × Int × Int)) (a0_2 : List (Int × Int × Int)) (a0_3 : List (Int × Int)) (a0_4 : Int) (a0_5 : Int) (a0_6 : Int) (a0_7 : Int) (a1_0 : Int) (a1_1 : Int) (a1_2 : Int) (a1_3 : Int) (a1_4 : Int) (a1_5 : Int) (a1_6 : Int) (a1_7 : Int) (a1_8 : Int) (a1_9 : Int) (a1_10 : Int) (a1_11 : Int) (a1_12 : Int) (a1_13 : Int) (a2 : List ((List (Int × Int)))) : Option ((List (Int × Int))) :=
  iterC (b25_1 a0_0 a0_1 a0_2 a0_3 a0_4 a0_5 a0_6 a0_7 a1_0 a1_1 a1_2 a1_3 a1_4 a1_5 a1_6 a1_7 a1_8 a1_9 a1_10 a1_11 a1_12 a1_13 a2) 1000000000 ([], 0)
def T25 : TSpec qA44 := mkT qE44 qd44 (fun ⟨a0_0, a0_1, a0_2, a0_3, a0_4, a0_5, a0_6, a0_7, a1_0, a1_1, a1_2, a1_3, a1_4, a1_5, a1_6, a1_7, a1_8, a1_9, a1_10, a1_11, a1_12, a1_13, a2⟩ => r25 a0_0 a0_1 a0_2 a0_3 a0_4 a0_5 a0_6 a0_7 a1_0 a1_1 a1_2 a1_3 a1_4 a1_5 a1_6 a1_7 a1_8 a1_9 a1_10 a1_11 a1_12 a1_13 a2) qu17 false
theorem TP25 (c0 c1 c2 c3 c4 c5 c6 c7 c8 c9 c10 c11 c12 c13 c14 c15 c16 c17 c18 c19 c20 c21 c22 : D) : T25.sp.pre [.agg [c0, c1, c2, c3, c4, c5, c6, c7], .agg [c8, c9, c10, c11, c12, c13, c14, c15, c16, c17, c18, c19, c20, c21], .c c22] = (eqvArgs (qt44 c0 c1 c2 c3 c4 c5 c6 c7 c8 c9 c10 c11 c12 c13 c14 c15 c16 c17 c18 c19 c20 c21 c22) (qp44 qw44 c0 c1 c2 c3 c4 c5 c6 c7 c8 c9 c10 c11 c12 c13 c14 c15 c16 c17 c18 c19 c20 c21 c22) ∧ (qp44 r25 c0 c1 c2 c3 c4 c5 c6 c7 c8 c9 c10 c11 c12 c13 c14 c15 c16 c17 c18 c19 c20 c21 c22).isSome = true) := (rfl)
theorem TR25 (c0 c1 c2 c3 c4 c5 c6 c7 c8 c9 c10 c11 c12 c13 c14 c15 c16 c17 c18 c19 c20 c21 c22 : D) : T25.sp.res [.agg [c0, c1, c2, c3, c4, c5, c6, c7], .agg [c8, c9, c10, c11, c12, c13, c14, c15, c16, c17, c18, c19, c20, c21], .c c22] = qu17 ((qp44 r25 c0 c1 c2 c3 c4 c5 c6 c7 c8 c9 c10 c11 c12 c13 c14 c15 c16 c17 c18 c19 c20 c21 c22).getD default) := (rfl)
theorem TA25 : T25.sp.alias = false := (rfl)
def tb25 : Fns := lk [(34, T34.sp), (38, T38.sp)]
theorem tb25_ok : FnsOk Tryz.prog tb25 := .cons f34 (.cons f38 (FnsOk.nil))
theorem tb25_34 : tb25 34 = some T34.sp := rfl
theorem tb25_38 : tb25 38 = some T38.sp := rfl
attribute [go_sem] TP25 TR25 TA25
section
attribute [local go_sem] T25 tb25_34 tb25_38 Tryz.results25
theorem v25 : Valid Tryz.prog 25 T25.sp := by
  refine valid_t (fn := Tryz.f25) (n := 28) ty_ok tb25_ok Tryz.func25 rfl Tryz.ntmps25 ?_
  rintro ⟨a0_0, a0_1, a0_2, a0_3, a0_4, a0_5, a0_6, a0_7, a1_0, a1_1, a1_2, a1_3, a1_4, a1_5, a1_6, a1_7, a1_8, a1_9, a1_10, a1_11, a1_12, a1_13, a2⟩ hx
  obtain ⟨r, hr⟩ := Option.isSome_iff_exists.1 (show (r25 a0_0 a0_1 a0_2 a0_3 a0_4 a0_5 a0_6 a0_7 a1_0 a1_1 a1_2 a1_3 a1_4 a1_5 a1_6 a1_7 a1_8 a1_9 a1_10 a1_11 a1_12 a1_13 a2).isSome = true from hx)
  have hres : T25.res (a0_0, a0_1, a0_2, a0_3, a0_4, a0_5, a0_6, a0_7, a1_0, a1_1, a1_2, a1_3, a1_4, a1_5, a1_6, a1_7, a1_8, a1_9, a1_10, a1_11, a1_12, a1_13, a2) = qu17 r := by simp only [T25, mkT, hr, Option.getD_some]
  refine ⟨Nat.le_of_ble_eq_true rfl, fun stop S => ?_⟩
  rw [hres] at S
  unfold r25 at hr
  refine S.gx [] ?_
  repeat refine gA ?_
  refine S.own0 7 1000700 2 rfl rfl ?_
  refine S.sees [2, 3, 4, 7, 8] [(3, 3), (4, 4)] [(1000700, 1000700)] ?_ (Stop.iter S (fun s1 => ⟨[(2, .c (.d (encF 1 d_LIIE a2))), (3, .c (.ref 3 0)), (4, .c (.ref 4 0)), (7, .c (.own 1000700)), (8, .c (.d (.int .i64 s1.2)))], [(3, [.d (encF 4 d_IIII a0_0), .d (encF 5 d_IIIII a0_1), .d (encF 3 d_III a0_2), .d (encF 2 d_II a0_3), .d (.int .i64 a0_4), .d (.int .i64 a0_5), .d (.int .i64 a0_6), .d (.int .i64 a0_7)]), (4, [.d (.int .i64 a1_0), .d (.int .i64 a1_1), .d (.int .i64 a1_2), .d (.int .i64 a1_3), .d (.int .i64 a1_4), .d (.int .i64 a1_5), .d (.int .i64 a1_6), .d (.int .i64 a1_7), .d (.int .i64 a1_8), .d (.int .i64 a1_9), .d (.int .i64 a1_10), .d (.int .i64 a1_11), .d (.int .i64 a1_12), .d (.int .i64 a1_13)])], [(1000700, .owned (encF 2 d_II s1.1))]⟩) (b25_1 a0_0 a0_1 a0_2 a0_3 a0_4 a0_5 a0_6 a0_7 a1_0 a1_1 a1_2 a1_3 a1_4 a1_5 a1_6 a1_7 a1_8 a1_9 a1_10 a1_11 a1_12 a1_13 a2) (fun q => q = r) hr rfl ?_)
  · exact lf
  · intro s1 hr
    unfold b25_1 at hr
    refine S.gx [] ?_
    repeat refine gA ?_
    refine ⟨fun hc => ?_, fun hc => ?_⟩
    · replace hr := ifP1 hr hc
      obtain ⟨hg3, hr⟩ := of_guard1 hr
      obtain ⟨v1, hv1, hr⟩ := of_bind1 hr
      obtain ⟨v2, hv2, hr⟩ := of_bind1 hr
      obtain ⟨hg4, hr⟩ := of_guard1 hr
      try simp only [hv1, hv2, Option.getD_some, Option.isSome_some, true_and, and_assoc]
      repeat refine gA ?_
      refine S.sees [2, 3, 4, 7, 8] [(3, 3), (4, 4)] [(26, 1000700)] ?_ hr
      exact lf
    · replace hr := ifN1 hr hc
      repeat refine gA ?_
      have hr := of_out0 hr
      repeat refine gA ?_
      obtain rfl := Option.some.inj hr
      exact lf
theorem f25 : FnFact Tryz.prog 25 T25.sp := ⟨⟨Tryz.f25, Tryz.func25, by decide, rfl⟩, v25⟩
end

/- martensite/martensitebase.Ranges -/
def b24_1 (a0 : List (Int × Int)) (a1 : List (Int × Int)) : (Int) → Ctl (Int) (Bool) := fun s1 =>
  if (decide (s1 < (a0.length : Int))) = true then
   if 0 ≤ s1 ∧ s1 < (a0.length : Int) then
    if 0 ≤ s1 ∧ s1 < (a1.length : Int) then
     if (!(((a0.getD s1.toNat default).1 == (a1.getD s1.toNat default).1) && ((a0.getD s1.toNat default).2 == (a1.getD s1.toNat default).2))) = true then
      .out (some false)
      else .next (IntKind.i64.wrap (s1 + 1))
     else .out none
    else .out none
   else .out (some true)
def r24 (a0 : List (Int × Int)) (a1 : List (Int × Int)) : Option (Bool) :=
  if ((a0.length : Int) != (a1.length : Int)) = true then
   some false
   else iterC (b24_1 a0 a1) 1000000000 0
def T24 : TSpec qA45 := mkT qE45 qd45 (fun ⟨a0, a1⟩ => r24 a0 a1) qu3 false
theorem TP24 (c0 c1 : D) : T24.sp.pre [.c c0, .c c1] = (eqvArgs (qt45 c0 c1) (qp45 qw45 c0 c1) ∧ (qp45 r24 c0 c1).isSome = true) := (rfl)
theorem TR24 (c0 c1 : D) : T24.sp.res [.c c0, .c c1] = qu3 ((qp45 r24 c0 c1).getD default) := (rfl)
theorem TA24 : T24.sp.alias = false := (rfl)
def tb24 : Fns := lk []
theorem tb24_ok : FnsOk Tryz.prog tb24 := FnsOk.nil
attribute [go_sem] TP24 TR24 TA24
section
attribute [local go_sem] T24 Tryz.results24
theorem v24 : Valid Tryz.prog 24 T24.sp := by
  refine valid_t (fn := Tryz.f24) (n := 26) ty_ok tb24_ok Tryz.func24 rfl Tryz.ntmps24 ?_
  rintro ⟨a0, a1⟩ hx
  obtain ⟨r, hr⟩ := Option.isSome_iff_exists.1 (show (r24 a0 a1).isSome = true from hx)
  have hres : T24.res (a0, a1) = qu3 r := by simp only [T24, mkT, hr, Option.getD_some]
  refine ⟨Nat.le_of_ble_eq_true rfl, fun stop S => ?_⟩
  rw [hres] at S
  unfold r24 at hr
  refine S.gx [] ?_
  repeat refine gA ?_
  refine ⟨fun hc => ?_, fun hc => ?_⟩
  · replace hr := ifP hr hc
    repeat refine gA ?_
    obtain rfl := Option.some.inj hr
    exact lf
  · replace hr := ifN hr hc
    repeat refine gA ?_
    refine S.sees [0, 1, 5] [] [] ?_ (Stop.iter S (fun s1 => ⟨[(0, .c (.d (encF 2 d_II a0))), (1, .c (.d (encF 2 d_II a1))), (5, .c (.d (.int .i64 s1)))], [], []⟩) (b24_1 a0 a1) (fun q => q = r) hr rfl ?_)
    · exact lf
    · intro s1 hr
      unfold b24_1 at hr
      refine S.gx [] ?_
      repeat refine gA ?_
      refine ⟨fun hc => ?_, fun hc => ?_⟩
      · replace hr := ifP1 hr hc
        obtain ⟨hg1, hr⟩ := of_guard1 hr
        obtain ⟨hg2, hr⟩ := of_guard1 hr
        repeat refine gA ?_
        refine ⟨fun hc => ?_, fun hc => ?_⟩
        · replace hr := ifP1 hr hc
          repeat refine gA ?_
          have hr := of_out0 hr
          obtain rfl := Option.some.inj hr
          exact lf
        · replace hr := ifN1 hr hc
          repeat refine gA ?_
          refine S.sees [0, 1, 5] [] [] ?_ hr
          exact lf
      · replace hr := ifN1 hr hc
        repeat refine gA ?_
        have hr := of_out0 hr
        repeat refine gA ?_
        obtain rfl := Option.some.inj hr
        exact lf
theorem f24 : FnFact Tryz.prog 24 T24.sp := ⟨⟨Tryz.f24, Tryz.func24, by decide, rfl⟩, v24⟩
end
end Go.Proofs.YtfkmbdfajpdjjaaGreatDoor

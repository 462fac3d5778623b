/- Contracts of functions, written by wip/dec. -/
import Derived.Test.YtfkmbdfajpdjjaaDoorF00
import Derived.Test.YtfkmbdfajpdjjaaDoorF01
import Derived.Test.YtfkmbdfajpdjjaaDoorF02
import Derived.Test.YtfkmbdfajpdjjaaDoorF03
import Derived.Test.YtfkmbdfajpdjjaaDoorF06
import Derived.Test.YtfkmbdfajpdjjaaDoorF10
set_option linter.unusedVariables false
set_option linter.unusedSimpArgs false
set_option maxHeartbeats 4000000
set_option maxRecDepth 20000
namespace Go.Proofs.YtfkmbdfajpdjjaaDoor
open Go.Abs
/- martensite/martensiteref04.RangeErr -/
def r100 (a0_0 : Int) (a0_1 : Int) : Option (Int) :=
  (r87 a0_0).bind fun v1 =>
   if (!(!v1)) = true → (r87 a0_1).isSome = true then
    if ((!v1) || (!((r87 a0_1).getD default))) = true then
     some 2
     else if (decide (a0_0 > a0_1)) = true then
      some 9
      else if (decide ((IntKind.i64.wrap (a0_1 - a0_0)) > 50)) = true then
       some 8
       else some 0
    else none
def w100 (a0_0 : Int) (a0_1 : Int) : List Arg := [.agg [.int .i64 a0_0, .int .i64 a0_1]]
def u100 (v : Int) : List RV := [.c (.d (.int .i64 v))]
def T100 : TSpec (Int × Int) where
  enc := fun ⟨a0_0, a0_1⟩ => w100 a0_0 a0_1
  dec a := (dInt (aCell a 0 0), dInt (aCell a 0 1))
  pre := fun ⟨a0_0, a0_1⟩ => (r100 a0_0 a0_1).isSome = true
  res := fun ⟨a0_0, a0_1⟩ => u100 ((r100 a0_0 a0_1).getD default)
  al := false
theorem TP100 (c0 c1 : D) : T100.sp.pre [.agg [c0, c1]] = (eqvArgs [.agg [c0, c1]] (w100 (dInt c0) (dInt c1)) ∧ (r100 (dInt c0) (dInt c1)).isSome = true) := (rfl)
theorem TR100 (c0 c1 : D) : T100.sp.res [.agg [c0, c1]] = u100 ((r100 (dInt c0) (dInt c1)).getD default) := (rfl)
theorem TA100 : T100.sp.alias = false := (rfl)
def tb100 : Fns := lk [(87, T87.sp)]
theorem tb100_ok : FnsOk Tryd.prog tb100 := .cons f87 (FnsOk.nil)
theorem tb100_87 : tb100 87 = some T87.sp := rfl
attribute [go_sem] TP100 TR100 TA100 w100 u100
section
attribute [local go_sem] T100 tb100_87 Tryd.results100
theorem v100 : Valid Tryd.prog 100 T100.sp := by
  refine valid_t (fn := Tryd.f100) (n := 24) ty_ok tb100_ok Tryd.func100 rfl Tryd.ntmps100 ?_
  rintro ⟨a0_0, a0_1⟩ hx
  obtain ⟨r, hr⟩ := Option.isSome_iff_exists.1 (show (r100 a0_0 a0_1).isSome = true from hx)
  have hres : T100.res (a0_0, a0_1) = u100 r := by simp only [T100, hr, Option.getD_some]
  refine ⟨Nat.le_of_ble_eq_true rfl, fun stop S => ?_⟩
  rw [hres] at S
  unfold r100 at hr
  refine S.gx [] ?_
  obtain ⟨v1, hv1, hr⟩ := of_bind0 hr
  obtain ⟨hg2, hr⟩ := of_guard0 hr
  try simp only [hv1, Option.getD_some, Option.isSome_some, true_and, and_assoc]
  repeat (first | refine gG hg2 ?_ | refine gA ?_ | refine gB ?_)
  refine ⟨fun hc => ?_, fun hc => ?_⟩
  · replace hr := ifP hr hc
    repeat refine gA ?_
    obtain rfl := Option.some.inj hr
    exact lf
  · replace hr := ifN hr hc
    repeat refine gA ?_
    refine ⟨fun hc => ?_, fun hc => ?_⟩
    · replace hr := ifP hr hc
      repeat refine gA ?_
      obtain rfl := Option.some.inj hr
      exact lf
    · replace hr := ifN hr hc
      repeat refine gA ?_
      refine ⟨fun hc => ?_, fun hc => ?_⟩
      · replace hr := ifP hr hc
        repeat refine gA ?_
        obtain rfl := Option.some.inj hr
        exact lf
      · replace hr := ifN hr hc
        repeat refine gA ?_
        obtain rfl := Option.some.inj hr
        exact lf
theorem f100 : FnFact Tryd.prog 100 T100.sp := ⟨⟨Tryd.f100, Tryd.func100, by decide, rfl⟩, v100⟩
end

/- martensite/martensiteref04.RangesErr -/
def b52_1 (a0 : List (Int × Int)) : (Int) → Ctl (Int) (Int) := fun s1 =>
  if (decide (s1 < (a0.length : Int))) = true then
   if 0 ≤ s1 ∧ s1 < (a0.length : Int) then
    bindC (r100 ((a0.getD s1.toNat default).1) ((a0.getD s1.toNat default).2)) fun v1 =>
     if (v1 != 0) = true then
      .out (some v1)
      else .next (IntKind.i64.wrap (s1 + 1))
    else .out none
   else .out (some 0)
def r52 (a0 : List (Int × Int)) : Option (Int) :=
  if (decide ((a0.length : Int) > 200)) = true then
   some 8
   else iterC (b52_1 a0) 1000000000 0
def w52 (x : List (Int × Int)) : List Arg := [.c (encF 2 d_II x)]
def u52 (v : Int) : List RV := [.c (.d (.int .i64 v))]
def T52 : TSpec ((List (Int × Int))) where
  enc := fun x => w52 x
  dec a := decF g_II (aCell a 0 0)
  pre := fun x => (r52 x).isSome = true
  res := fun x => u52 ((r52 x).getD default)
  al := false
theorem TP52 (c0 : D) : T52.sp.pre [.c c0] = (eqvArgs [.c c0] (w52 (decF g_II c0)) ∧ (r52 (decF g_II c0)).isSome = true) := (rfl)
theorem TR52 (c0 : D) : T52.sp.res [.c c0] = u52 ((r52 (decF g_II c0)).getD default) := (rfl)
theorem TA52 : T52.sp.alias = false := (rfl)
def tb52 : Fns := lk [(100, T100.sp)]
theorem tb52_ok : FnsOk Tryd.prog tb52 := .cons f100 (FnsOk.nil)
theorem tb52_100 : tb52 100 = some T100.sp := rfl
attribute [go_sem] TP52 TR52 TA52 w52 u52
section
attribute [local go_sem] T52 tb52_100 Tryd.results52
theorem v52 : Valid Tryd.prog 52 T52.sp := by
  refine valid_t (fn := Tryd.f52) (n := 22) ty_ok tb52_ok Tryd.func52 rfl Tryd.ntmps52 ?_
  rintro a0 hx
  obtain ⟨r, hr⟩ := Option.isSome_iff_exists.1 (show (r52 a0).isSome = true from hx)
  have hres : T52.res a0 = u52 r := by simp only [T52, hr, Option.getD_some]
  refine ⟨Nat.le_of_ble_eq_true rfl, fun stop S => ?_⟩
  rw [hres] at S
  unfold r52 at hr
  refine S.gx [] ?_
  repeat refine gA ?_
  refine ⟨fun hc => ?_, fun hc => ?_⟩
  · replace hr := ifP hr hc
    repeat refine gA ?_
    obtain rfl := Option.some.inj hr
    exact lf
  · replace hr := ifN hr hc
    repeat refine gA ?_
    refine S.sees [0, 3] [] [] ?_ (Stop.iter S (fun s1 => ⟨[(0, .c (.d (encF 2 d_II a0))), (3, .c (.d (.int .i64 s1)))], [], []⟩) (b52_1 a0) (fun q => q = r) hr rfl ?_)
    · exact lf
    · intro s1 hr
      unfold b52_1 at hr
      refine S.gx [] ?_
      repeat refine gA ?_
      refine ⟨fun hc => ?_, fun hc => ?_⟩
      · replace hr := ifP1 hr hc
        obtain ⟨hg2, hr⟩ := of_guard1 hr
        obtain ⟨v1, hv1, hr⟩ := of_bind1 hr
        try simp only [hv1, Option.getD_some, Option.isSome_some, true_and, and_assoc]
        repeat refine gA ?_
        refine ⟨fun hc => ?_, fun hc => ?_⟩
        · replace hr := ifP1 hr hc
          repeat refine gA ?_
          have hr := of_out0 hr
          obtain rfl := Option.some.inj hr
          exact lf
        · replace hr := ifN1 hr hc
          repeat refine gA ?_
          refine S.sees [0, 3] [] [] ?_ hr
          exact lf
      · replace hr := ifN1 hr hc
        repeat refine gA ?_
        have hr := of_out0 hr
        repeat refine gA ?_
        obtain rfl := Option.some.inj hr
        exact lf
theorem f52 : FnFact Tryd.prog 52 T52.sp := ⟨⟨Tryd.f52, Tryd.func52, by decide, rfl⟩, v52⟩
end

/- martensite/steel.boxOf$1 -/
def r124 (a0 : Int) : Option (Int × Int) :=
  some (a0, a0)
def w124 (x : Int) : List Arg := [.c (.int .i64 x)]
def u124 (v : Int × Int) : List RV := [.agg [.d (.int .i64 v.1), .d (.int .i64 v.2)]]
def T124 : TSpec (Int) where
  enc := fun x => w124 x
  dec a := dInt (aCell a 0 0)
  pre := fun x => (r124 x).isSome = true
  res := fun x => u124 ((r124 x).getD default)
  al := false
theorem TP124 (c0 : D) : T124.sp.pre [.c c0] = (eqvArgs [.c c0] (w124 (dInt c0)) ∧ (r124 (dInt c0)).isSome = true) := (rfl)
theorem TR124 (c0 : D) : T124.sp.res [.c c0] = u124 ((r124 (dInt c0)).getD default) := (rfl)
theorem TA124 : T124.sp.alias = false := (rfl)
def tb124 : Fns := lk []
theorem tb124_ok : FnsOk Tryd.prog tb124 := FnsOk.nil
attribute [go_sem] TP124 TR124 TA124 w124 u124
section
attribute [local go_sem] T124 Tryd.results124
theorem v124 : Valid Tryd.prog 124 T124.sp := by
  refine valid_t (fn := Tryd.f124) (n := 6) ty_ok tb124_ok Tryd.func124 rfl Tryd.ntmps124 ?_
  rintro a0 hx
  obtain ⟨r, hr⟩ := Option.isSome_iff_exists.1 (show (r124 a0).isSome = true from hx)
  have hres : T124.res a0 = u124 r := by simp only [T124, hr, Option.getD_some]
  refine ⟨Nat.le_of_ble_eq_true rfl, fun stop S => ?_⟩
  rw [hres] at S
  unfold r124 at hr
  refine S.gx [] ?_
  repeat refine gA ?_
  obtain rfl := Option.some.inj hr
  exact lf
theorem f124 : FnFact Tryd.prog 124 T124.sp := ⟨⟨Tryd.f124, Tryd.func124, by decide, rfl⟩, v124⟩
end

/- martensite/steel.boxOf -/
def r101 (a0_0 : Int) (a0_1 : Int) (a0_2 : Int) (a0_3 : Int) (a0_4 : Int) (a0_5 : Int) (a0_6 : Int) : Option (Int × Int × Int × Int × Int × Int × Int × Int × Int × Int × Int × Int × Int × Int) :=
  (r124 a0_0).bind fun v1 =>
   (r124 a0_1).bind fun v2 =>
    (r124 a0_2).bind fun v3 =>
     (r124 a0_3).bind fun v4 =>
      (r124 a0_4).bind fun v5 =>
       (r124 a0_5).bind fun v6 =>
        (r124 a0_6).bind fun v7 =>
         some (v1.1, v1.2, v2.1, v2.2, v3.1, v3.2, v4.1, v4.2, v5.1, v5.2, v6.1, v6.2, v7.1, v7.2)
def w101 (a0_0 : Int) (a0_1 : Int) (a0_2 : Int) (a0_3 : Int) (a0_4 : Int) (a0_5 : Int) (a0_6 : Int) : List Arg := [.agg [.int .i64 a0_0, .int .i64 a0_1, .int .i64 a0_2, .int .i64 a0_3, .int .i64 a0_4, .int .i64 a0_5, .int .i64 a0_6]]
def u101 (v : Int × Int × Int × Int × Int × Int × Int × Int × Int × Int × Int × Int × Int × Int) : List RV := [.agg [.d (.int .i64 v.1), .d (.int .i64 v.2.1), .d (.int .i64 v.2.2.1), .d (.int .i64 v.2.2.2.1), .d (.int .i64 v.2.2.2.2.1), .d (.int .i64 v.2.2.2.2.2.1), .d (.int .i64 v.2.2.2.2.2.2.1), .d (.int .i64 v.2.2.2.2.2.2.2.1), .d (.int .i64 v.2.2.2.2.2.2.2.2.1), .d (.int .i64 v.2.2.2.2.2.2.2.2.2.1), .d (.int .i64 v.2.2.2.2.2.2.2.2.2.2.1), .d (.int .i64 v.2.2.2.2.2.2.2.2.2.2.2.1), .d (.int .i64 v.2.2.2.2.2.2.2.2.2.2.2.2.1), .d (.int .i64 v.2.2.2.2.2.2.2.2.2.2.2.2.2)]]
def T101 : TSpec (Int × Int × Int × Int × Int × Int × Int) where
  enc := fun ⟨a0_0, a0_1, a0_2, a0_3, a0_4, a0_5, a0_6⟩ => w101 a0_0 a0_1 a0_2 a0_3 a0_4 a0_5 a0_6
  dec a := (dInt (aCell a 0 0), dInt (aCell a 0 1), dInt (aCell a 0 2), dInt (aCell a 0 3), dInt (aCell a 0 4), dInt (aCell a 0 5), dInt (aCell a 0 6))
  pre := fun ⟨a0_0, a0_1, a0_2, a0_3, a0_4, a0_5, a0_6⟩ => (r101 a0_0 a0_1 a0_2 a0_3 a0_4 a0_5 a0_6).isSome = true
  res := fun ⟨a0_0, a0_1, a0_2, a0_3, a0_4, a0_5, a0_6⟩ => u101 ((r101 a0_0 a0_1 a0_2 a0_3 a0_4 a0_5 a0_6).getD default)
  al := false
theorem TP101 (c0 c1 c2 c3 c4 c5 c6 : D) : T101.sp.pre [.agg [c0, c1, c2, c3, c4, c5, c6]] = (eqvArgs [.agg [c0, c1, c2, c3, c4, c5, c6]] (w101 (dInt c0) (dInt c1) (dInt c2) (dInt c3) (dInt c4) (dInt c5) (dInt c6)) ∧ (r101 (dInt c0) (dInt c1) (dInt c2) (dInt c3) (dInt c4) (dInt c5) (dInt c6)).isSome = true) := (rfl)
theorem TR101 (c0 c1 c2 c3 c4 c5 c6 : D) : T101.sp.res [.agg [c0, c1, c2, c3, c4, c5, c6]] = u101 ((r101 (dInt c0) (dInt c1) (dInt c2) (dInt c3) (dInt c4) (dInt c5) (dInt c6)).getD default) := (rfl)
theorem TA101 : T101.sp.alias = false := (rfl)
def tb101 : Fns := lk [(124, T124.sp)]
theorem tb101_ok : FnsOk Tryd.prog tb101 := .cons f124 (FnsOk.nil)
theorem tb101_124 : tb101 124 = some T124.sp := rfl
attribute [go_sem] TP101 TR101 TA101 w101 u101
section
attribute [local go_sem] T101 tb101_124 Tryd.results101
theorem v101 : Valid Tryd.prog 101 T101.sp := by
  refine valid_t (fn := Tryd.f101) (n := 33) ty_ok tb101_ok Tryd.func101 rfl Tryd.ntmps101 ?_
  rintro ⟨a0_0, a0_1, a0_2, a0_3, a0_4, a0_5, a0_6⟩ hx
  obtain ⟨r, hr⟩ := Option.isSome_iff_exists.1 (show (r101 a0_0 a0_1 a0_2 a0_3 a0_4 a0_5 a0_6).isSome = true from hx)
  have hres : T101.res (a0_0, a0_1, a0_2, a0_3, a0_4, a0_5, a0_6) = u101 r := by simp only [T101, hr, Option.getD_some]
  refine ⟨Nat.le_of_ble_eq_true rfl, fun stop S => ?_⟩
  rw [hres] at S
  unfold r101 at hr
  refine S.gx [] ?_
  obtain ⟨v1, hv1, hr⟩ := of_bind0 hr
  obtain ⟨v2, hv2, hr⟩ := of_bind0 hr
  obtain ⟨v3, hv3, hr⟩ := of_bind0 hr
  obtain ⟨v4, hv4, hr⟩ := of_bind0 hr
  obtain ⟨v5, hv5, hr⟩ := of_bind0 hr
  obtain ⟨v6, hv6, hr⟩ := of_bind0 hr
  obtain ⟨v7, hv7, hr⟩ := of_bind0 hr
  try simp only [hv1, hv2, hv3, hv4, hv5, hv6, hv7, Option.getD_some, Option.isSome_some, true_and, and_assoc]
  repeat refine gA ?_
  obtain rfl := Option.some.inj hr
  exact lf
theorem f101 : FnFact Tryd.prog 101 T101.sp := ⟨⟨Tryd.f101, Tryd.func101, by decide, rfl⟩, v101⟩
end

/- martensite/steel.BoxOf -/
def r53 (a0_0 : Int) (a0_1 : Int) (a0_2 : Int) (a0_3 : Int) (a0_4 : Int) (a0_5 : Int) (a0_6 : Int) : Option (Int × Int × Int × Int × Int × Int × Int × Int × Int × Int × Int × Int × Int × Int × Int) :=
  (r17 a0_0 a0_1 a0_2 a0_3 a0_4 a0_5 a0_6).bind fun v1 =>
   if (v1 != 0) = true then
    some (0, 0, 0, 0, 0, 0, 0, 0, 0, 0, 0, 0, 0, 0, v1)
    else (r101 a0_0 a0_1 a0_2 a0_3 a0_4 a0_5 a0_6).bind fun v2 =>
     some (v2.1, v2.2.1, v2.2.2.1, v2.2.2.2.1, v2.2.2.2.2.1, v2.2.2.2.2.2.1, v2.2.2.2.2.2.2.1, v2.2.2.2.2.2.2.2.1, v2.2.2.2.2.2.2.2.2.1, v2.2.2.2.2.2.2.2.2.2.1, v2.2.2.2.2.2.2.2.2.2.2.1, v2.2.2.2.2.2.2.2.2.2.2.2.1, v2.2.2.2.2.2.2.2.2.2.2.2.2.1, v2.2.2.2.2.2.2.2.2.2.2.2.2.2, 0)
def w53 (a0_0 : Int) (a0_1 : Int) (a0_2 : Int) (a0_3 : Int) (a0_4 : Int) (a0_5 : Int) (a0_6 : Int) : List Arg := [.agg [.int .i64 a0_0, .int .i64 a0_1, .int .i64 a0_2, .int .i64 a0_3, .int .i64 a0_4, .int .i64 a0_5, .int .i64 a0_6]]
def u53 (v : Int × Int × Int × Int × Int × Int × Int × Int × Int × Int × Int × Int × Int × Int × Int) : List RV := [.agg [.d (.int .i64 v.1), .d (.int .i64 v.2.1), .d (.int .i64 v.2.2.1), .d (.int .i64 v.2.2.2.1), .d (.int .i64 v.2.2.2.2.1), .d (.int .i64 v.2.2.2.2.2.1), .d (.int .i64 v.2.2.2.2.2.2.1), .d (.int .i64 v.2.2.2.2.2.2.2.1), .d (.int .i64 v.2.2.2.2.2.2.2.2.1), .d (.int .i64 v.2.2.2.2.2.2.2.2.2.1), .d (.int .i64 v.2.2.2.2.2.2.2.2.2.2.1), .d (.int .i64 v.2.2.2.2.2.2.2.2.2.2.2.1), .d (.int .i64 v.2.2.2.2.2.2.2.2.2.2.2.2.1), .d (.int .i64 v.2.2.2.2.2.2.2.2.2.2.2.2.2.1)], .c (.d (.int .i64 v.2.2.2.2.2.2.2.2.2.2.2.2.2.2))]
def T53 : TSpec (Int × Int × Int × Int × Int × Int × Int) where
  enc := fun ⟨a0_0, a0_1, a0_2, a0_3, a0_4, a0_5, a0_6⟩ => w53 a0_0 a0_1 a0_2 a0_3 a0_4 a0_5 a0_6
  dec a := (dInt (aCell a 0 0), dInt (aCell a 0 1), dInt (aCell a 0 2), dInt (aCell a 0 3), dInt (aCell a 0 4), dInt (aCell a 0 5), dInt (aCell a 0 6))
  pre := fun ⟨a0_0, a0_1, a0_2, a0_3, a0_4, a0_5, a0_6⟩ => (r53 a0_0 a0_1 a0_2 a0_3 a0_4 a0_5 a0_6).isSome = true
  res := fun ⟨a0_0, a0_1, a0_2, a0_3, a0_4, a0_5, a0_6⟩ => u53 ((r53 a0_0 a0_1 a0_2 a0_3 a0_4 a0_5 a0_6).getD default)
  al := false
theorem TP53 (c0 c1 c2 c3 c4 c5 c6 : D) : T53.sp.pre [.agg [c0, c1, c2, c3, c4, c5, c6]] = (eqvArgs [.agg [c0, c1, c2, c3, c4, c5, c6]] (w53 (dInt c0) (dInt c1) (dInt c2) (dInt c3) (dInt c4) (dInt c5) (dInt c6)) ∧ (r53 (dInt c0) (dInt c1) (dInt c2) (dInt c3) (dInt c4) (dInt c5) (dInt c6)).isSome = true) := (rfl)
theorem TR53 (c0 c1 c2 c3 c4 c5 c6 : D) : T53.sp.res [.agg [c0, c1, c2, c3, c4, c5, c6]] = u53 ((r53 (dInt c0) (dInt c1) (dInt c2) (dInt c3) (dInt c4) (dInt c5) (dInt c6)).getD default) := (rfl)
theorem TA53 : T53.sp.alias = false := (rfl)
def tb53 : Fns := lk [(17, T17.sp), (101, T101.sp)]
theorem tb53_ok : FnsOk Tryd.prog tb53 := .cons f17 (.cons f101 (FnsOk.nil))
theorem tb53_17 : tb53 17 = some T17.sp := rfl
theorem tb53_101 : tb53 101 = some T101.sp := rfl
attribute [go_sem] TP53 TR53 TA53 w53 u53
section
attribute [local go_sem] T53 tb53_17 tb53_101 Tryd.results53
theorem v53 : Valid Tryd.prog 53 T53.sp := by
  refine valid_t (fn := Tryd.f53) (n := 13) ty_ok tb53_ok Tryd.func53 rfl Tryd.ntmps53 ?_
  rintro ⟨a0_0, a0_1, a0_2, a0_3, a0_4, a0_5, a0_6⟩ hx
  obtain ⟨r, hr⟩ := Option.isSome_iff_exists.1 (show (r53 a0_0 a0_1 a0_2 a0_3 a0_4 a0_5 a0_6).isSome = true from hx)
  have hres : T53.res (a0_0, a0_1, a0_2, a0_3, a0_4, a0_5, a0_6) = u53 r := by simp only [T53, hr, Option.getD_some]
  refine ⟨Nat.le_of_ble_eq_true rfl, fun stop S => ?_⟩
  rw [hres] at S
  unfold r53 at hr
  refine S.gx [] ?_
  obtain ⟨v1, hv1, hr⟩ := of_bind0 hr
  try simp only [hv1, Option.getD_some, Option.isSome_some, true_and, and_assoc]
  repeat refine gA ?_
  refine ⟨fun hc => ?_, fun hc => ?_⟩
  · replace hr := ifP hr hc
    repeat refine gA ?_
    obtain rfl := Option.some.inj hr
    exact lf
  · replace hr := ifN hr hc
    obtain ⟨v2, hv2, hr⟩ := of_bind0 hr
    try simp only [hv2, Option.getD_some, Option.isSome_some, true_and, and_assoc]
    repeat refine gA ?_
    obtain rfl := Option.some.inj hr
    exact lf
theorem f53 : FnFact Tryd.prog 53 T53.sp := ⟨⟨Tryd.f53, Tryd.func53, by decide, rfl⟩, v53⟩
end

/- martensite/martensitebase.Mod -/
def r54 (a0 : Int) (a1 : Int) : Option (Int) :=
  if a1 ≠ 0 then
   if (decide ((a0.tmod a1) < 0)) = true then
    some (IntKind.i64.wrap ((a0.tmod a1) + a1))
    else some (a0.tmod a1)
   else none
def w54 (a0 : Int) (a1 : Int) : List Arg := [.c (.int .i64 a0), .c (.int .i64 a1)]
def u54 (v : Int) : List RV := [.c (.d (.int .i64 v))]
def T54 : TSpec (Int × Int) where
  enc := fun ⟨a0, a1⟩ => w54 a0 a1
  dec a := (dInt (aCell a 0 0), dInt (aCell a 1 0))
  pre := fun ⟨a0, a1⟩ => (r54 a0 a1).isSome = true
  res := fun ⟨a0, a1⟩ => u54 ((r54 a0 a1).getD default)
  al := false
theorem TP54 (c0 c1 : D) : T54.sp.pre [.c c0, .c c1] = (eqvArgs [.c c0, .c c1] (w54 (dInt c0) (dInt c1)) ∧ (r54 (dInt c0) (dInt c1)).isSome = true) := (rfl)
theorem TR54 (c0 c1 : D) : T54.sp.res [.c c0, .c c1] = u54 ((r54 (dInt c0) (dInt c1)).getD default) := (rfl)
theorem TA54 : T54.sp.alias = false := (rfl)
def tb54 : Fns := lk []
theorem tb54_ok : FnsOk Tryd.prog tb54 := FnsOk.nil
attribute [go_sem] TP54 TR54 TA54 w54 u54
section
attribute [local go_sem] T54 Tryd.results54
theorem v54 : Valid Tryd.prog 54 T54.sp := by
  refine valid_t (fn := Tryd.f54) (n := 14) ty_ok tb54_ok Tryd.func54 rfl Tryd.ntmps54 ?_
  rintro ⟨a0, a1⟩ hx
  obtain ⟨r, hr⟩ := Option.isSome_iff_exists.1 (show (r54 a0 a1).isSome = true from hx)
  have hres : T54.res (a0, a1) = u54 r := by simp only [T54, hr, Option.getD_some]
  refine ⟨Nat.le_of_ble_eq_true rfl, fun stop S => ?_⟩
  rw [hres] at S
  unfold r54 at hr
  refine S.gx [] ?_
  obtain ⟨hg1, hr⟩ := of_guard0 hr
  repeat refine gA ?_
  refine ⟨fun hc => ?_, fun hc => ?_⟩
  · replace hr := ifP hr hc
    repeat refine gA ?_
    obtain rfl := Option.some.inj hr
    exact lf
  · replace hr := ifN hr hc
    repeat refine gA ?_
    obtain rfl := Option.some.inj hr
    exact lf
theorem f54 : FnFact Tryd.prog 54 T54.sp := ⟨⟨Tryd.f54, Tryd.func54, by decide, rfl⟩, v54⟩
end

/- martensite/steel.kelvinsErr -/
def r103 (a0_0 : Int) (a0_1 : Int) : Option (Int) :=
  (r84 a0_0).bind fun v1 =>
   (r84 a0_1).bind fun v2 =>
    (r68 (decide (a0_0 ≤ a0_1)) 9).bind fun v3 =>
     (r67 [v1, v2, v3]).bind fun v4 =>
      if (v4 != 0) = true then
       some v4
       else (r68 (decide ((IntKind.i64.wrap (a0_1 - a0_0)) ≤ 50)) 8).bind fun v5 =>
        some v5
def w103 (a0_0 : Int) (a0_1 : Int) : List Arg := [.agg [.int .i64 a0_0, .int .i64 a0_1]]
def u103 (v : Int) : List RV := [.c (.d (.int .i64 v))]
def T103 : TSpec (Int × Int) where
  enc := fun ⟨a0_0, a0_1⟩ => w103 a0_0 a0_1
  dec a := (dInt (aCell a 0 0), dInt (aCell a 0 1))
  pre := fun ⟨a0_0, a0_1⟩ => (r103 a0_0 a0_1).isSome = true
  res := fun ⟨a0_0, a0_1⟩ => u103 ((r103 a0_0 a0_1).getD default)
  al := false
theorem TP103 (c0 c1 : D) : T103.sp.pre [.agg [c0, c1]] = (eqvArgs [.agg [c0, c1]] (w103 (dInt c0) (dInt c1)) ∧ (r103 (dInt c0) (dInt c1)).isSome = true) := (rfl)
theorem TR103 (c0 c1 : D) : T103.sp.res [.agg [c0, c1]] = u103 ((r103 (dInt c0) (dInt c1)).getD default) := (rfl)
theorem TA103 : T103.sp.alias = false := (rfl)
def tb103 : Fns := lk [(67, T67.sp), (68, T68.sp), (84, T84.sp)]
theorem tb103_ok : FnsOk Tryd.prog tb103 := .cons f67 (.cons f68 (.cons f84 (FnsOk.nil)))
theorem tb103_67 : tb103 67 = some T67.sp := rfl
theorem tb103_68 : tb103 68 = some T68.sp := rfl
theorem tb103_84 : tb103 84 = some T84.sp := rfl
attribute [go_sem] TP103 TR103 TA103 w103 u103
section
attribute [local go_sem] T103 tb103_67 tb103_68 tb103_84 Tryd.results103
theorem v103 : Valid Tryd.prog 103 T103.sp := by
  refine valid_t (fn := Tryd.f103) (n := 28) ty_ok tb103_ok Tryd.func103 rfl Tryd.ntmps103 ?_
  rintro ⟨a0_0, a0_1⟩ hx
  obtain ⟨r, hr⟩ := Option.isSome_iff_exists.1 (show (r103 a0_0 a0_1).isSome = true from hx)
  have hres : T103.res (a0_0, a0_1) = u103 r := by simp only [T103, hr, Option.getD_some]
  refine ⟨Nat.le_of_ble_eq_true rfl, fun stop S => ?_⟩
  rw [hres] at S
  unfold r103 at hr
  refine S.gx [] ?_
  obtain ⟨v1, hv1, hr⟩ := of_bind0 hr
  obtain ⟨v2, hv2, hr⟩ := of_bind0 hr
  obtain ⟨v3, hv3, hr⟩ := of_bind0 hr
  obtain ⟨v4, hv4, hr⟩ := of_bind0 hr
  try simp only [hv1, hv2, hv3, hv4, Option.getD_some, Option.isSome_some, true_and, and_assoc]
  repeat refine gA ?_
  refine ⟨fun hc => ?_, fun hc => ?_⟩
  · replace hr := ifP hr hc
    repeat refine gA ?_
    obtain rfl := Option.some.inj hr
    exact lf
  · replace hr := ifN hr hc
    obtain ⟨v5, hv5, hr⟩ := of_bind0 hr
    try simp only [hv5, Option.getD_some, Option.isSome_some, true_and, and_assoc]
    repeat refine gA ?_
    obtain rfl := Option.some.inj hr
    exact lf
theorem f103 : FnFact Tryd.prog 103 T103.sp := ⟨⟨Tryd.f103, Tryd.func103, by decide, rfl⟩, v103⟩
end

/- martensite/steel.whole -/
def r148 (a0 : Int) : Option (Int) :=
  some (if 1000000 < a0 then 1000000 else a0)
def w148 (x : Int) : List Arg := [.c (.int .i64 x)]
def u148 (v : Int) : List RV := [.c (.d (.int .i64 v))]
def T148 : TSpec (Int) where
  enc := fun x => w148 x
  dec a := dInt (aCell a 0 0)
  pre := fun x => (r148 x).isSome = true
  res := fun x => u148 ((r148 x).getD default)
  al := false
theorem TP148 (c0 : D) : T148.sp.pre [.c c0] = (eqvArgs [.c c0] (w148 (dInt c0)) ∧ (r148 (dInt c0)).isSome = true) := (rfl)
theorem TR148 (c0 : D) : T148.sp.res [.c c0] = u148 ((r148 (dInt c0)).getD default) := (rfl)
theorem TA148 : T148.sp.alias = false := (rfl)
def tb148 : Fns := lk []
theorem tb148_ok : FnsOk Tryd.prog tb148 := FnsOk.nil
attribute [go_sem] TP148 TR148 TA148 w148 u148
section
attribute [local go_sem] T148 Tryd.results148
theorem v148 : Valid Tryd.prog 148 T148.sp := by
  refine valid_t (fn := Tryd.f148) (n := 5) ty_ok tb148_ok Tryd.func148 rfl Tryd.ntmps148 ?_
  rintro a0 hx
  obtain ⟨r, hr⟩ := Option.isSome_iff_exists.1 (show (r148 a0).isSome = true from hx)
  have hres : T148.res a0 = u148 r := by simp only [T148, hr, Option.getD_some]
  refine ⟨Nat.le_of_ble_eq_true rfl, fun stop S => ?_⟩
  rw [hres] at S
  unfold r148 at hr
  refine S.gx [] ?_
  repeat refine gA ?_
  obtain rfl := Option.some.inj hr
  exact lf
theorem f148 : FnFact Tryd.prog 148 T148.sp := ⟨⟨Tryd.f148, Tryd.func148, by decide, rfl⟩, v148⟩
end

/- martensite/steel.hot$1 -/
def r149 (a0 : Int) (a1 : Int) (a2_0 : Int) (a2_1 : Int) (a2_2 : Int) (a2_3 : Int) : Option (Int) :=
  if (decide (a1 > 0)) = true then
   some (if 100000 < IntKind.i64.wrap (a0 + a2_3) then 100000 else IntKind.i64.wrap (a0 + a2_3))
   else some (if 100000 < a0 then 100000 else a0)
def w149 (a0 : Int) (a1 : Int) (a2_0 : Int) (a2_1 : Int) (a2_2 : Int) (a2_3 : Int) : List Arg := [.c (.int .i64 a0), .c (.int .i64 a1), .ptr [.int .i64 a2_0, .int .i64 a2_1, .int .i64 a2_2, .int .i64 a2_3]]
def u149 (v : Int) : List RV := [.c (.d (.int .i64 v))]
def T149 : TSpec (Int × Int × Int × Int × Int × Int) where
  enc := fun ⟨a0, a1, a2_0, a2_1, a2_2, a2_3⟩ => w149 a0 a1 a2_0 a2_1 a2_2 a2_3
  dec a := (dInt (aCell a 0 0), dInt (aCell a 1 0), dInt (aCell a 2 0), dInt (aCell a 2 1), dInt (aCell a 2 2), dInt (aCell a 2 3))
  pre := fun ⟨a0, a1, a2_0, a2_1, a2_2, a2_3⟩ => (r149 a0 a1 a2_0 a2_1 a2_2 a2_3).isSome = true
  res := fun ⟨a0, a1, a2_0, a2_1, a2_2, a2_3⟩ => u149 ((r149 a0 a1 a2_0 a2_1 a2_2 a2_3).getD default)
  al := false
theorem TP149 (c0 c1 c2 c3 c4 c5 : D) : T149.sp.pre [.c c0, .c c1, .ptr [c2, c3, c4, c5]] = (eqvArgs [.c c0, .c c1, .ptr [c2, c3, c4, c5]] (w149 (dInt c0) (dInt c1) (dInt c2) (dInt c3) (dInt c4) (dInt c5)) ∧ (r149 (dInt c0) (dInt c1) (dInt c2) (dInt c3) (dInt c4) (dInt c5)).isSome = true) := (rfl)
theorem TR149 (c0 c1 c2 c3 c4 c5 : D) : T149.sp.res [.c c0, .c c1, .ptr [c2, c3, c4, c5]] = u149 ((r149 (dInt c0) (dInt c1) (dInt c2) (dInt c3) (dInt c4) (dInt c5)).getD default) := (rfl)
theorem TA149 : T149.sp.alias = false := (rfl)
def tb149 : Fns := lk []
theorem tb149_ok : FnsOk Tryd.prog tb149 := FnsOk.nil
attribute [go_sem] TP149 TR149 TA149 w149 u149
section
attribute [local go_sem] T149 Tryd.results149
theorem v149 : Valid Tryd.prog 149 T149.sp := by
  refine valid_t (fn := Tryd.f149) (n := 14) ty_ok tb149_ok Tryd.func149 rfl Tryd.ntmps149 ?_
  rintro ⟨a0, a1, a2_0, a2_1, a2_2, a2_3⟩ hx
  obtain ⟨r, hr⟩ := Option.isSome_iff_exists.1 (show (r149 a0 a1 a2_0 a2_1 a2_2 a2_3).isSome = true from hx)
  have hres : T149.res (a0, a1, a2_0, a2_1, a2_2, a2_3) = u149 r := by simp only [T149, hr, Option.getD_some]
  refine ⟨Nat.le_of_ble_eq_true rfl, fun stop S => ?_⟩
  rw [hres] at S
  unfold r149 at hr
  refine S.gx [] ?_
  repeat refine gA ?_
  refine ⟨fun hc => ?_, fun hc => ?_⟩
  · replace hr := ifP hr hc
    repeat refine gA ?_
    obtain rfl := Option.some.inj hr
    exact lf
  · replace hr := ifN hr hc
    repeat refine gA ?_
    obtain rfl := Option.some.inj hr
    exact lf
theorem f149 : FnFact Tryd.prog 149 T149.sp := ⟨⟨Tryd.f149, Tryd.func149, by decide, rfl⟩, v149⟩
end

/- martensite/steel.hot -/
def r140 (a0_0 : Int) (a0_1 : Int) (a0_2 : Int) (a0_3 : Int) (a0_4 : Int) (a0_5 : Int) (a0_6 : Int) (a0_7 : Int) (a0_8 : Int) (a0_9 : Int) (a0_10 : Int) (a0_11 : Int) (a0_12 : Int) (a0_13 : Int) (a1_0 : Int) (a1_1 : Int) (a1_2 : Int) (a1_3 : Int) : Option (Int × Int × Int × Int × Int × Int × Int × Int × Int × Int × Int × Int × Int × Int) :=
  (r148 (IntKind.i64.wrap ((IntKind.i64.wrap (a0_0 + a0_4)) + a0_6))).bind fun v1 =>
   (r148 (IntKind.i64.wrap ((IntKind.i64.wrap (a0_1 + a0_5)) + a0_7))).bind fun v2 =>
    (r149 a0_10 (IntKind.i64.wrap (1000000 - (if 0 < IntKind.i64.wrap (v2 - a1_1) then IntKind.i64.wrap (v2 - a1_1) else 0))) a1_0 a1_1 a1_2 a1_3).bind fun v3 =>
     (r149 a0_11 (IntKind.i64.wrap (1000000 - (if 0 < IntKind.i64.wrap (v1 - a1_2) then IntKind.i64.wrap (v1 - a1_2) else 0))) a1_0 a1_1 a1_2 a1_3).bind fun v4 =>
      some ((if 0 < IntKind.i64.wrap (v1 - a1_2) then IntKind.i64.wrap (v1 - a1_2) else 0), (if 0 < IntKind.i64.wrap (v2 - a1_1) then IntKind.i64.wrap (v2 - a1_1) else 0), IntKind.i64.wrap (1000000 - (if 0 < IntKind.i64.wrap (v2 - a1_1) then IntKind.i64.wrap (v2 - a1_1) else 0)), IntKind.i64.wrap (1000000 - (if 0 < IntKind.i64.wrap (v1 - a1_2) then IntKind.i64.wrap (v1 - a1_2) else 0)), 0, 0, 0, 0, 0, 0, v3, v4, 0, 0)
def w140 (a0_0 : Int) (a0_1 : Int) (a0_2 : Int) (a0_3 : Int) (a0_4 : Int) (a0_5 : Int) (a0_6 : Int) (a0_7 : Int) (a0_8 : Int) (a0_9 : Int) (a0_10 : Int) (a0_11 : Int) (a0_12 : Int) (a0_13 : Int) (a1_0 : Int) (a1_1 : Int) (a1_2 : Int) (a1_3 : Int) : List Arg := [.agg [.int .i64 a0_0, .int .i64 a0_1, .int .i64 a0_2, .int .i64 a0_3, .int .i64 a0_4, .int .i64 a0_5, .int .i64 a0_6, .int .i64 a0_7, .int .i64 a0_8, .int .i64 a0_9, .int .i64 a0_10, .int .i64 a0_11, .int .i64 a0_12, .int .i64 a0_13], .agg [.int .i64 a1_0, .int .i64 a1_1, .int .i64 a1_2, .int .i64 a1_3]]
def u140 (v : Int × Int × Int × Int × Int × Int × Int × Int × Int × Int × Int × Int × Int × Int) : List RV := [.agg [.d (.int .i64 v.1), .d (.int .i64 v.2.1), .d (.int .i64 v.2.2.1), .d (.int .i64 v.2.2.2.1), .d (.int .i64 v.2.2.2.2.1), .d (.int .i64 v.2.2.2.2.2.1), .d (.int .i64 v.2.2.2.2.2.2.1), .d (.int .i64 v.2.2.2.2.2.2.2.1), .d (.int .i64 v.2.2.2.2.2.2.2.2.1), .d (.int .i64 v.2.2.2.2.2.2.2.2.2.1), .d (.int .i64 v.2.2.2.2.2.2.2.2.2.2.1), .d (.int .i64 v.2.2.2.2.2.2.2.2.2.2.2.1), .d (.int .i64 v.2.2.2.2.2.2.2.2.2.2.2.2.1), .d (.int .i64 v.2.2.2.2.2.2.2.2.2.2.2.2.2)]]
def T140 : TSpec (Int × Int × Int × Int × Int × Int × Int × Int × Int × Int × Int × Int × Int × Int × Int × Int × Int × Int) where
  enc := fun ⟨a0_0, a0_1, a0_2, a0_3, a0_4, a0_5, a0_6, a0_7, a0_8, a0_9, a0_10, a0_11, a0_12, a0_13, a1_0, a1_1, a1_2, a1_3⟩ => w140 a0_0 a0_1 a0_2 a0_3 a0_4 a0_5 a0_6 a0_7 a0_8 a0_9 a0_10 a0_11 a0_12 a0_13 a1_0 a1_1 a1_2 a1_3
  dec a := (dInt (aCell a 0 0), dInt (aCell a 0 1), dInt (aCell a 0 2), dInt (aCell a 0 3), dInt (aCell a 0 4), dInt (aCell a 0 5), dInt (aCell a 0 6), dInt (aCell a 0 7), dInt (aCell a 0 8), dInt (aCell a 0 9), dInt (aCell a 0 10), dInt (aCell a 0 11), dInt (aCell a 0 12), dInt (aCell a 0 13), dInt (aCell a 1 0), dInt (aCell a 1 1), dInt (aCell a 1 2), dInt (aCell a 1 3))
  pre := fun ⟨a0_0, a0_1, a0_2, a0_3, a0_4, a0_5, a0_6, a0_7, a0_8, a0_9, a0_10, a0_11, a0_12, a0_13, a1_0, a1_1, a1_2, a1_3⟩ => (r140 a0_0 a0_1 a0_2 a0_3 a0_4 a0_5 a0_6 a0_7 a0_8 a0_9 a0_10 a0_11 a0_12 a0_13 a1_0 a1_1 a1_2 a1_3).isSome = true
  res := fun ⟨a0_0, a0_1, a0_2, a0_3, a0_4, a0_5, a0_6, a0_7, a0_8, a0_9, a0_10, a0_11, a0_12, a0_13, a1_0, a1_1, a1_2, a1_3⟩ => u140 ((r140 a0_0 a0_1 a0_2 a0_3 a0_4 a0_5 a0_6 a0_7 a0_8 a0_9 a0_10 a0_11 a0_12 a0_13 a1_0 a1_1 a1_2 a1_3).getD default)
  al := false
theorem TP140 (c0 c1 c2 c3 c4 c5 c6 c7 c8 c9 c10 c11 c12 c13 c14 c15 c16 c17 : D) : T140.sp.pre [.agg [c0, c1, c2, c3, c4, c5, c6, c7, c8, c9, c10, c11, c12, c13], .agg [c14, c15, c16, c17]] = (eqvArgs [.agg [c0, c1, c2, c3, c4, c5, c6, c7, c8, c9, c10, c11, c12, c13], .agg [c14, c15, c16, c17]] (w140 (dInt c0) (dInt c1) (dInt c2) (dInt c3) (dInt c4) (dInt c5) (dInt c6) (dInt c7) (dInt c8) (dInt c9) (dInt c10) (dInt c11) (dInt c12) (dInt c13) (dInt c14) (dInt c15) (dInt c16) (dInt c17)) ∧ (r140 (dInt c0) (dInt c1) (dInt c2) (dInt c3) (dInt c4) (dInt c5) (dInt c6) (dInt c7) (dInt c8) (dInt c9) (dInt c10) (dInt c11) (dInt c12) (dInt c13) (dInt c14) (dInt c15) (dInt c16) (dInt c17)).isSome = true) := (rfl)
theorem TR140 (c0 c1 c2 c3 c4 c5 c6 c7 c8 c9 c10 c11 c12 c13 c14 c15 c16 c17 : D) : T140.sp.res [.agg [c0, c1, c2, c3, c4, c5, c6, c7, c8, c9, c10, c11, c12, c13], .agg [c14, c15, c16, c17]] = u140 ((r140 (dInt c0) (dInt c1) (dInt c2) (dInt c3) (dInt c4) (dInt c5) (dInt c6) (dInt c7) (dInt c8) (dInt c9) (dInt c10) (dInt c11) (dInt c12) (dInt c13) (dInt c14) (dInt c15) (dInt c16) (dInt c17)).getD default) := (rfl)
theorem TA140 : T140.sp.alias = false := (rfl)
def tb140 : Fns := lk [(148, T148.sp), (149, T149.sp)]
theorem tb140_ok : FnsOk Tryd.prog tb140 := .cons f148 (.cons f149 (FnsOk.nil))
theorem tb140_148 : tb140 148 = some T148.sp := rfl
theorem tb140_149 : tb140 149 = some T149.sp := rfl
attribute [go_sem] TP140 TR140 TA140 w140 u140
section
attribute [local go_sem] T140 tb140_148 tb140_149 Tryd.results140
theorem v140 : Valid Tryd.prog 140 T140.sp := by
  refine valid_t (fn := Tryd.f140) (n := 82) ty_ok tb140_ok Tryd.func140 rfl Tryd.ntmps140 ?_
  rintro ⟨a0_0, a0_1, a0_2, a0_3, a0_4, a0_5, a0_6, a0_7, a0_8, a0_9, a0_10, a0_11, a0_12, a0_13, a1_0, a1_1, a1_2, a1_3⟩ hx
  obtain ⟨r, hr⟩ := Option.isSome_iff_exists.1 (show (r140 a0_0 a0_1 a0_2 a0_3 a0_4 a0_5 a0_6 a0_7 a0_8 a0_9 a0_10 a0_11 a0_12 a0_13 a1_0 a1_1 a1_2 a1_3).isSome = true from hx)
  have hres : T140.res (a0_0, a0_1, a0_2, a0_3, a0_4, a0_5, a0_6, a0_7, a0_8, a0_9, a0_10, a0_11, a0_12, a0_13, a1_0, a1_1, a1_2, a1_3) = u140 r := by simp only [T140, hr, Option.getD_some]
  refine ⟨Nat.le_of_ble_eq_true rfl, fun stop S => ?_⟩
  rw [hres] at S
  unfold r140 at hr
  refine S.gx [3, 7] ?_
  obtain ⟨v1, hv1, hr⟩ := of_bind0 hr
  obtain ⟨v2, hv2, hr⟩ := of_bind0 hr
  try simp only [hv1, hv2, Option.getD_some, Option.isSome_some, true_and, and_assoc]
  repeat refine gA ?_
  refine S.prune [2, 3, 4, 5, 6] ?_
  refine S.gx [7] ?_
  repeat refine gA ?_
  obtain ⟨v3, hv3, hr⟩ := of_bind0 hr
  obtain ⟨v4, hv4, hr⟩ := of_bind0 hr
  try simp only [hv3, hv4, Option.getD_some, Option.isSome_some, true_and, and_assoc]
  repeat refine gA ?_
  refine S.prune [4, 6] ?_
  refine S.gx [3] ?_
  repeat refine gA ?_
  repeat refine gA ?_
  obtain rfl := Option.some.inj hr
  exact lf
theorem f140 : FnFact Tryd.prog 140 T140.sp := ⟨⟨Tryd.f140, Tryd.func140, by decide, rfl⟩, v140⟩
end

/- martensite/steel.cooled -/
def r141 (a0_0 : Int) (a0_1 : Int) (a0_2 : Int) (a0_3 : Int) (a0_4 : Int) (a0_5 : Int) (a0_6 : Int) (a0_7 : Int) (a0_8 : Int) (a0_9 : Int) (a0_10 : Int) (a0_11 : Int) (a0_12 : Int) (a0_13 : Int) (a1_0 : Int) (a1_1 : Int) (a1_2 : Int) (a1_3 : Int) (a1_4 : Int) : Option (Int × Int × Int × Int × Int × Int × Int × Int × Int × Int × Int × Int × Int × Int) :=
  (r148 (IntKind.i64.wrap (a0_8 + a1_1))).bind fun v1 =>
   (r148 (IntKind.i64.wrap (a0_9 + a1_2))).bind fun v2 =>
    if (v1 == 1000000) = true then
     if (v2 == 1000000) = true then
      (r148 (IntKind.i64.wrap (a0_5 + (if a1_4 < a0_3 then a1_4 else a0_3)))).bind fun v3 =>
       some (a0_0, a0_1, (if 0 < IntKind.i64.wrap (a0_2 - a1_4) then IntKind.i64.wrap (a0_2 - a1_4) else 0), (if 0 < IntKind.i64.wrap (a0_3 - a1_3) then IntKind.i64.wrap (a0_3 - a1_3) else 0), IntKind.i64.wrap (a0_4 + (if a1_3 < a0_2 then a1_3 else a0_2)), v3, a0_6, a0_7, v1, v2, a0_10, a0_11, a0_12, a0_13)
      else (r148 (IntKind.i64.wrap (a0_5 + (if 0 < a0_3 then 0 else a0_3)))).bind fun v4 =>
       some (a0_0, a0_1, (if 0 < IntKind.i64.wrap (a0_2 - 0) then IntKind.i64.wrap (a0_2 - 0) else 0), (if 0 < IntKind.i64.wrap (a0_3 - a1_3) then IntKind.i64.wrap (a0_3 - a1_3) else 0), IntKind.i64.wrap (a0_4 + (if a1_3 < a0_2 then a1_3 else a0_2)), v4, a0_6, a0_7, v1, v2, a0_10, a0_11, a0_12, a0_13)
     else if (v2 == 1000000) = true then
      (r148 (IntKind.i64.wrap (a0_5 + (if a1_4 < a0_3 then a1_4 else a0_3)))).bind fun v5 =>
       some (a0_0, a0_1, (if 0 < IntKind.i64.wrap (a0_2 - a1_4) then IntKind.i64.wrap (a0_2 - a1_4) else 0), (if 0 < IntKind.i64.wrap (a0_3 - 0) then IntKind.i64.wrap (a0_3 - 0) else 0), IntKind.i64.wrap (a0_4 + (if 0 < a0_2 then 0 else a0_2)), v5, a0_6, a0_7, v1, v2, a0_10, a0_11, a0_12, a0_13)
      else (r148 (IntKind.i64.wrap (a0_5 + (if 0 < a0_3 then 0 else a0_3)))).bind fun v6 =>
       some (a0_0, a0_1, (if 0 < IntKind.i64.wrap (a0_2 - 0) then IntKind.i64.wrap (a0_2 - 0) else 0), (if 0 < IntKind.i64.wrap (a0_3 - 0) then IntKind.i64.wrap (a0_3 - 0) else 0), IntKind.i64.wrap (a0_4 + (if 0 < a0_2 then 0 else a0_2)), v6, a0_6, a0_7, v1, v2, a0_10, a0_11, a0_12, a0_13)
def w141 (a0_0 : Int) (a0_1 : Int) (a0_2 : Int) (a0_3 : Int) (a0_4 : Int) (a0_5 : Int) (a0_6 : Int) (a0_7 : Int) (a0_8 : Int) (a0_9 : Int) (a0_10 : Int) (a0_11 : Int) (a0_12 : Int) (a0_13 : Int) (a1_0 : Int) (a1_1 : Int) (a1_2 : Int) (a1_3 : Int) (a1_4 : Int) : List Arg := [.agg [.int .i64 a0_0, .int .i64 a0_1, .int .i64 a0_2, .int .i64 a0_3, .int .i64 a0_4, .int .i64 a0_5, .int .i64 a0_6, .int .i64 a0_7, .int .i64 a0_8, .int .i64 a0_9, .int .i64 a0_10, .int .i64 a0_11, .int .i64 a0_12, .int .i64 a0_13], .agg [.int .i64 a1_0, .int .i64 a1_1, .int .i64 a1_2, .int .i64 a1_3, .int .i64 a1_4]]
def u141 (v : Int × Int × Int × Int × Int × Int × Int × Int × Int × Int × Int × Int × Int × Int) : List RV := [.agg [.d (.int .i64 v.1), .d (.int .i64 v.2.1), .d (.int .i64 v.2.2.1), .d (.int .i64 v.2.2.2.1), .d (.int .i64 v.2.2.2.2.1), .d (.int .i64 v.2.2.2.2.2.1), .d (.int .i64 v.2.2.2.2.2.2.1), .d (.int .i64 v.2.2.2.2.2.2.2.1), .d (.int .i64 v.2.2.2.2.2.2.2.2.1), .d (.int .i64 v.2.2.2.2.2.2.2.2.2.1), .d (.int .i64 v.2.2.2.2.2.2.2.2.2.2.1), .d (.int .i64 v.2.2.2.2.2.2.2.2.2.2.2.1), .d (.int .i64 v.2.2.2.2.2.2.2.2.2.2.2.2.1), .d (.int .i64 v.2.2.2.2.2.2.2.2.2.2.2.2.2)]]
def T141 : TSpec (Int × Int × Int × Int × Int × Int × Int × Int × Int × Int × Int × Int × Int × Int × Int × Int × Int × Int × Int) where
  enc := fun ⟨a0_0, a0_1, a0_2, a0_3, a0_4, a0_5, a0_6, a0_7, a0_8, a0_9, a0_10, a0_11, a0_12, a0_13, a1_0, a1_1, a1_2, a1_3, a1_4⟩ => w141 a0_0 a0_1 a0_2 a0_3 a0_4 a0_5 a0_6 a0_7 a0_8 a0_9 a0_10 a0_11 a0_12 a0_13 a1_0 a1_1 a1_2 a1_3 a1_4
  dec a := (dInt (aCell a 0 0), dInt (aCell a 0 1), dInt (aCell a 0 2), dInt (aCell a 0 3), dInt (aCell a 0 4), dInt (aCell a 0 5), dInt (aCell a 0 6), dInt (aCell a 0 7), dInt (aCell a 0 8), dInt (aCell a 0 9), dInt (aCell a 0 10), dInt (aCell a 0 11), dInt (aCell a 0 12), dInt (aCell a 0 13), dInt (aCell a 1 0), dInt (aCell a 1 1), dInt (aCell a 1 2), dInt (aCell a 1 3), dInt (aCell a 1 4))
  pre := fun ⟨a0_0, a0_1, a0_2, a0_3, a0_4, a0_5, a0_6, a0_7, a0_8, a0_9, a0_10, a0_11, a0_12, a0_13, a1_0, a1_1, a1_2, a1_3, a1_4⟩ => (r141 a0_0 a0_1 a0_2 a0_3 a0_4 a0_5 a0_6 a0_7 a0_8 a0_9 a0_10 a0_11 a0_12 a0_13 a1_0 a1_1 a1_2 a1_3 a1_4).isSome = true
  res := fun ⟨a0_0, a0_1, a0_2, a0_3, a0_4, a0_5, a0_6, a0_7, a0_8, a0_9, a0_10, a0_11, a0_12, a0_13, a1_0, a1_1, a1_2, a1_3, a1_4⟩ => u141 ((r141 a0_0 a0_1 a0_2 a0_3 a0_4 a0_5 a0_6 a0_7 a0_8 a0_9 a0_10 a0_11 a0_12 a0_13 a1_0 a1_1 a1_2 a1_3 a1_4).getD default)
  al := false
theorem TP141 (c0 c1 c2 c3 c4 c5 c6 c7 c8 c9 c10 c11 c12 c13 c14 c15 c16 c17 c18 : D) : T141.sp.pre [.agg [c0, c1, c2, c3, c4, c5, c6, c7, c8, c9, c10, c11, c12, c13], .agg [c14, c15, c16, c17, c18]] = (eqvArgs [.agg [c0, c1, c2, c3, c4, c5, c6, c7, c8, c9, c10, c11, c12, c13], .agg [c14, c15, c16, c17, c18]] (w141 (dInt c0) (dInt c1) (dInt c2) (dInt c3) (dInt c4) (dInt c5) (dInt c6) (dInt c7) (dInt c8) (dInt c9) (dInt c10) (dInt c11) (dInt c12) (dInt c13) (dInt c14) (dInt c15) (dInt c16) (dInt c17) (dInt c18)) ∧ (r141 (dInt c0) (dInt c1) (dInt c2) (dInt c3) (dInt c4) (dInt c5) (dInt c6) (dInt c7) (dInt c8) (dInt c9) (dInt c10) (dInt c11) (dInt c12) (dInt c13) (dInt c14) (dInt c15) (dInt c16) (dInt c17) (dInt c18)).isSome = true) := (rfl)
theorem TR141 (c0 c1 c2 c3 c4 c5 c6 c7 c8 c9 c10 c11 c12 c13 c14 c15 c16 c17 c18 : D) : T141.sp.res [.agg [c0, c1, c2, c3, c4, c5, c6, c7, c8, c9, c10, c11, c12, c13], .agg [c14, c15, c16, c17, c18]] = u141 ((r141 (dInt c0) (dInt c1) (dInt c2) (dInt c3) (dInt c4) (dInt c5) (dInt c6) (dInt c7) (dInt c8) (dInt c9) (dInt c10) (dInt c11) (dInt c12) (dInt c13) (dInt c14) (dInt c15) (dInt c16) (dInt c17) (dInt c18)).getD default) := (rfl)
theorem TA141 : T141.sp.alias = false := (rfl)
def tb141 : Fns := lk [(148, T148.sp)]
theorem tb141_ok : FnsOk Tryd.prog tb141 := .cons f148 (FnsOk.nil)
theorem tb141_148 : tb141 148 = some T148.sp := rfl
attribute [go_sem] TP141 TR141 TA141 w141 u141
section
attribute [local go_sem] T141 tb141_148 Tryd.results141
theorem v141 : Valid Tryd.prog 141 T141.sp := by
  refine valid_t (fn := Tryd.f141) (n := 79) ty_ok tb141_ok Tryd.func141 rfl Tryd.ntmps141 ?_
  rintro ⟨a0_0, a0_1, a0_2, a0_3, a0_4, a0_5, a0_6, a0_7, a0_8, a0_9, a0_10, a0_11, a0_12, a0_13, a1_0, a1_1, a1_2, a1_3, a1_4⟩ hx
  obtain ⟨r, hr⟩ := Option.isSome_iff_exists.1 (show (r141 a0_0 a0_1 a0_2 a0_3 a0_4 a0_5 a0_6 a0_7 a0_8 a0_9 a0_10 a0_11 a0_12 a0_13 a1_0 a1_1 a1_2 a1_3 a1_4).isSome = true from hx)
  have hres : T141.res (a0_0, a0_1, a0_2, a0_3, a0_4, a0_5, a0_6, a0_7, a0_8, a0_9, a0_10, a0_11, a0_12, a0_13, a1_0, a1_1, a1_2, a1_3, a1_4) = u141 r := by simp only [T141, hr, Option.getD_some]
  refine ⟨Nat.le_of_ble_eq_true rfl, fun stop S => ?_⟩
  rw [hres] at S
  unfold r141 at hr
  refine S.gx [6, 7, 10] ?_
  obtain ⟨v1, hv1, hr⟩ := of_bind0 hr
  obtain ⟨v2, hv2, hr⟩ := of_bind0 hr
  try simp only [hv1, hv2, Option.getD_some, Option.isSome_some, true_and, and_assoc]
  repeat refine gA ?_
  refine ⟨fun hc => ?_, fun hc => ?_⟩
  · replace hr := ifP hr hc
    repeat refine gA ?_
    refine ⟨fun hc => ?_, fun hc => ?_⟩
    · replace hr := ifP hr hc
      repeat refine gA ?_
      refine S.prune [2, 3, 4, 5] ?_
      refine S.gx [7, 10] ?_
      repeat refine gA ?_
      repeat refine gA ?_
      refine S.prune [2, 4, 5] ?_
      refine S.gx [6, 10] ?_
      repeat refine gA ?_
      obtain ⟨v3, hv3, hr⟩ := of_bind0 hr
      try simp only [hv3, Option.getD_some, Option.isSome_some, true_and, and_assoc]
      repeat refine gA ?_
      refine S.prune [2, 4] ?_
      refine S.gx [6, 7] ?_
      repeat refine gA ?_
      repeat refine gA ?_
      obtain rfl := Option.some.inj hr
      exact lf
    · replace hr := ifN hr hc
      repeat refine gA ?_
      refine S.prune [2, 4, 5] ?_
      refine S.gx [6, 10] ?_
      repeat refine gA ?_
      obtain ⟨v4, hv4, hr⟩ := of_bind0 hr
      try simp only [hv4, Option.getD_some, Option.isSome_some, true_and, and_assoc]
      repeat refine gA ?_
      refine S.prune [2, 4] ?_
      refine S.gx [6, 7] ?_
      repeat refine gA ?_
      repeat refine gA ?_
      obtain rfl := Option.some.inj hr
      exact lf
  · replace hr := ifN hr hc
    repeat refine gA ?_
    refine ⟨fun hc => ?_, fun hc => ?_⟩
    · replace hr := ifP hr hc
      repeat refine gA ?_
      refine S.prune [2, 3, 4, 5] ?_
      refine S.gx [7, 10] ?_
      repeat refine gA ?_
      repeat refine gA ?_
      refine S.prune [2, 4, 5] ?_
      refine S.gx [6, 10] ?_
      repeat refine gA ?_
      obtain ⟨v5, hv5, hr⟩ := of_bind0 hr
      try simp only [hv5, Option.getD_some, Option.isSome_some, true_and, and_assoc]
      repeat refine gA ?_
      refine S.prune [2, 4] ?_
      refine S.gx [6, 7] ?_
      repeat refine gA ?_
      repeat refine gA ?_
      obtain rfl := Option.some.inj hr
      exact lf
    · replace hr := ifN hr hc
      repeat refine gA ?_
      refine S.prune [2, 4, 5] ?_
      refine S.gx [6, 10] ?_
      repeat refine gA ?_
      obtain ⟨v6, hv6, hr⟩ := of_bind0 hr
      try simp only [hv6, Option.getD_some, Option.isSome_some, true_and, and_assoc]
      repeat refine gA ?_
      refine S.prune [2, 4] ?_
      refine S.gx [6, 7] ?_
      repeat refine gA ?_
      repeat refine gA ?_
      obtain rfl := Option.some.inj hr
      exact lf
theorem f141 : FnFact Tryd.prog 141 T141.sp := ⟨⟨Tryd.f141, Tryd.func141, by decide, rfl⟩, v141⟩
end

/- martensite/steel.quenched$1 -/
def r150 (a0 : Int) (a1 : Int) (a2 : Int) : Option (Int) :=
  (r118 a0 a1 a2).bind fun v1 =>
   some (IntKind.i64.wrap ((IntKind.i64.wrap (a0 + a1)) - v1))
def w150 (a0 : Int) (a1 : Int) (a2 : Int) : List Arg := [.c (.int .i64 a0), .c (.int .i64 a1), .c (.int .i64 a2)]
def u150 (v : Int) : List RV := [.c (.d (.int .i64 v))]
def T150 : TSpec (Int × Int × Int) where
  enc := fun ⟨a0, a1, a2⟩ => w150 a0 a1 a2
  dec a := (dInt (aCell a 0 0), dInt (aCell a 1 0), dInt (aCell a 2 0))
  pre := fun ⟨a0, a1, a2⟩ => (r150 a0 a1 a2).isSome = true
  res := fun ⟨a0, a1, a2⟩ => u150 ((r150 a0 a1 a2).getD default)
  al := false
theorem TP150 (c0 c1 c2 : D) : T150.sp.pre [.c c0, .c c1, .c c2] = (eqvArgs [.c c0, .c c1, .c c2] (w150 (dInt c0) (dInt c1) (dInt c2)) ∧ (r150 (dInt c0) (dInt c1) (dInt c2)).isSome = true) := (rfl)
theorem TR150 (c0 c1 c2 : D) : T150.sp.res [.c c0, .c c1, .c c2] = u150 ((r150 (dInt c0) (dInt c1) (dInt c2)).getD default) := (rfl)
theorem TA150 : T150.sp.alias = false := (rfl)
def tb150 : Fns := lk [(118, T118.sp)]
theorem tb150_ok : FnsOk Tryd.prog tb150 := .cons f118 (FnsOk.nil)
theorem tb150_118 : tb150 118 = some T118.sp := rfl
attribute [go_sem] TP150 TR150 TA150 w150 u150
section
attribute [local go_sem] T150 tb150_118 Tryd.results150
theorem v150 : Valid Tryd.prog 150 T150.sp := by
  refine valid_t (fn := Tryd.f150) (n := 15) ty_ok tb150_ok Tryd.func150 rfl Tryd.ntmps150 ?_
  rintro ⟨a0, a1, a2⟩ hx
  obtain ⟨r, hr⟩ := Option.isSome_iff_exists.1 (show (r150 a0 a1 a2).isSome = true from hx)
  have hres : T150.res (a0, a1, a2) = u150 r := by simp only [T150, hr, Option.getD_some]
  refine ⟨Nat.le_of_ble_eq_true rfl, fun stop S => ?_⟩
  rw [hres] at S
  unfold r150 at hr
  refine S.gx [] ?_
  obtain ⟨v1, hv1, hr⟩ := of_bind0 hr
  try simp only [hv1, Option.getD_some, Option.isSome_some, true_and, and_assoc]
  repeat refine gA ?_
  obtain rfl := Option.some.inj hr
  exact lf
theorem f150 : FnFact Tryd.prog 150 T150.sp := ⟨⟨Tryd.f150, Tryd.func150, by decide, rfl⟩, v150⟩
end

/- martensite/steel.quenched -/
def r142 (a0_0 : Int) (a0_1 : Int) (a0_2 : Int) (a0_3 : Int) (a0_4 : Int) (a0_5 : Int) (a0_6 : Int) (a0_7 : Int) (a0_8 : Int) (a0_9 : Int) (a0_10 : Int) (a0_11 : Int) (a0_12 : Int) (a0_13 : Int) (a1_0 : Int) (a1_1 : Int) (a1_2 : Int) : Option (Int × Int × Int × Int × Int × Int × Int × Int × Int × Int × Int × Int × Int × Int) :=
  (r118 a0_2 a0_6 a1_1).bind fun v1 =>
   (r118 a0_3 a0_7 a1_2).bind fun v2 =>
    (r148 v2).bind fun v3 =>
     (r150 a0_2 a0_6 a1_2).bind fun v4 =>
      (r150 a0_3 a0_7 a1_1).bind fun v5 =>
       some (a0_0, a0_1, v4, v5, a0_4, a0_5, v1, v3, a0_8, a0_9, a0_10, a0_11, a0_12, a0_13)
def w142 (a0_0 : Int) (a0_1 : Int) (a0_2 : Int) (a0_3 : Int) (a0_4 : Int) (a0_5 : Int) (a0_6 : Int) (a0_7 : Int) (a0_8 : Int) (a0_9 : Int) (a0_10 : Int) (a0_11 : Int) (a0_12 : Int) (a0_13 : Int) (a1_0 : Int) (a1_1 : Int) (a1_2 : Int) : List Arg := [.agg [.int .i64 a0_0, .int .i64 a0_1, .int .i64 a0_2, .int .i64 a0_3, .int .i64 a0_4, .int .i64 a0_5, .int .i64 a0_6, .int .i64 a0_7, .int .i64 a0_8, .int .i64 a0_9, .int .i64 a0_10, .int .i64 a0_11, .int .i64 a0_12, .int .i64 a0_13], .agg [.int .i64 a1_0, .int .i64 a1_1, .int .i64 a1_2]]
def u142 (v : Int × Int × Int × Int × Int × Int × Int × Int × Int × Int × Int × Int × Int × Int) : List RV := [.agg [.d (.int .i64 v.1), .d (.int .i64 v.2.1), .d (.int .i64 v.2.2.1), .d (.int .i64 v.2.2.2.1), .d (.int .i64 v.2.2.2.2.1), .d (.int .i64 v.2.2.2.2.2.1), .d (.int .i64 v.2.2.2.2.2.2.1), .d (.int .i64 v.2.2.2.2.2.2.2.1), .d (.int .i64 v.2.2.2.2.2.2.2.2.1), .d (.int .i64 v.2.2.2.2.2.2.2.2.2.1), .d (.int .i64 v.2.2.2.2.2.2.2.2.2.2.1), .d (.int .i64 v.2.2.2.2.2.2.2.2.2.2.2.1), .d (.int .i64 v.2.2.2.2.2.2.2.2.2.2.2.2.1), .d (.int .i64 v.2.2.2.2.2.2.2.2.2.2.2.2.2)]]
def T142 : TSpec (Int × Int × Int × Int × Int × Int × Int × Int × Int × Int × Int × Int × Int × Int × Int × Int × Int) where
  enc := fun ⟨a0_0, a0_1, a0_2, a0_3, a0_4, a0_5, a0_6, a0_7, a0_8, a0_9, a0_10, a0_11, a0_12, a0_13, a1_0, a1_1, a1_2⟩ => w142 a0_0 a0_1 a0_2 a0_3 a0_4 a0_5 a0_6 a0_7 a0_8 a0_9 a0_10 a0_11 a0_12 a0_13 a1_0 a1_1 a1_2
  dec a := (dInt (aCell a 0 0), dInt (aCell a 0 1), dInt (aCell a 0 2), dInt (aCell a 0 3), dInt (aCell a 0 4), dInt (aCell a 0 5), dInt (aCell a 0 6), dInt (aCell a 0 7), dInt (aCell a 0 8), dInt (aCell a 0 9), dInt (aCell a 0 10), dInt (aCell a 0 11), dInt (aCell a 0 12), dInt (aCell a 0 13), dInt (aCell a 1 0), dInt (aCell a 1 1), dInt (aCell a 1 2))
  pre := fun ⟨a0_0, a0_1, a0_2, a0_3, a0_4, a0_5, a0_6, a0_7, a0_8, a0_9, a0_10, a0_11, a0_12, a0_13, a1_0, a1_1, a1_2⟩ => (r142 a0_0 a0_1 a0_2 a0_3 a0_4 a0_5 a0_6 a0_7 a0_8 a0_9 a0_10 a0_11 a0_12 a0_13 a1_0 a1_1 a1_2).isSome = true
  res := fun ⟨a0_0, a0_1, a0_2, a0_3, a0_4, a0_5, a0_6, a0_7, a0_8, a0_9, a0_10, a0_11, a0_12, a0_13, a1_0, a1_1, a1_2⟩ => u142 ((r142 a0_0 a0_1 a0_2 a0_3 a0_4 a0_5 a0_6 a0_7 a0_8 a0_9 a0_10 a0_11 a0_12 a0_13 a1_0 a1_1 a1_2).getD default)
  al := false
theorem TP142 (c0 c1 c2 c3 c4 c5 c6 c7 c8 c9 c10 c11 c12 c13 c14 c15 c16 : D) : T142.sp.pre [.agg [c0, c1, c2, c3, c4, c5, c6, c7, c8, c9, c10, c11, c12, c13], .agg [c14, c15, c16]] = (eqvArgs [.agg [c0, c1, c2, c3, c4, c5, c6, c7, c8, c9, c10, c11, c12, c13], .agg [c14, c15, c16]] (w142 (dInt c0) (dInt c1) (dInt c2) (dInt c3) (dInt c4) (dInt c5) (dInt c6) (dInt c7) (dInt c8) (dInt c9) (dInt c10) (dInt c11) (dInt c12) (dInt c13) (dInt c14) (dInt c15) (dInt c16)) ∧ (r142 (dInt c0) (dInt c1) (dInt c2) (dInt c3) (dInt c4) (dInt c5) (dInt c6) (dInt c7) (dInt c8) (dInt c9) (dInt c10) (dInt c11) (dInt c12) (dInt c13) (dInt c14) (dInt c15) (dInt c16)).isSome = true) := (rfl)
theorem TR142 (c0 c1 c2 c3 c4 c5 c6 c7 c8 c9 c10 c11 c12 c13 c14 c15 c16 : D) : T142.sp.res [.agg [c0, c1, c2, c3, c4, c5, c6, c7, c8, c9, c10, c11, c12, c13], .agg [c14, c15, c16]] = u142 ((r142 (dInt c0) (dInt c1) (dInt c2) (dInt c3) (dInt c4) (dInt c5) (dInt c6) (dInt c7) (dInt c8) (dInt c9) (dInt c10) (dInt c11) (dInt c12) (dInt c13) (dInt c14) (dInt c15) (dInt c16)).getD default) := (rfl)
theorem TA142 : T142.sp.alias = false := (rfl)
def tb142 : Fns := lk [(118, T118.sp), (148, T148.sp), (150, T150.sp)]
theorem tb142_ok : FnsOk Tryd.prog tb142 := .cons f118 (.cons f148 (.cons f150 (FnsOk.nil)))
theorem tb142_118 : tb142 118 = some T118.sp := rfl
theorem tb142_148 : tb142 148 = some T148.sp := rfl
theorem tb142_150 : tb142 150 = some T150.sp := rfl
attribute [go_sem] TP142 TR142 TA142 w142 u142
section
attribute [local go_sem] T142 tb142_118 tb142_148 tb142_150 Tryd.results142
theorem v142 : Valid Tryd.prog 142 T142.sp := by
  refine valid_t (fn := Tryd.f142) (n := 52) ty_ok tb142_ok Tryd.func142 rfl Tryd.ntmps142 ?_
  rintro ⟨a0_0, a0_1, a0_2, a0_3, a0_4, a0_5, a0_6, a0_7, a0_8, a0_9, a0_10, a0_11, a0_12, a0_13, a1_0, a1_1, a1_2⟩ hx
  obtain ⟨r, hr⟩ := Option.isSome_iff_exists.1 (show (r142 a0_0 a0_1 a0_2 a0_3 a0_4 a0_5 a0_6 a0_7 a0_8 a0_9 a0_10 a0_11 a0_12 a0_13 a1_0 a1_1 a1_2).isSome = true from hx)
  have hres : T142.res (a0_0, a0_1, a0_2, a0_3, a0_4, a0_5, a0_6, a0_7, a0_8, a0_9, a0_10, a0_11, a0_12, a0_13, a1_0, a1_1, a1_2) = u142 r := by simp only [T142, hr, Option.getD_some]
  refine ⟨Nat.le_of_ble_eq_true rfl, fun stop S => ?_⟩
  rw [hres] at S
  unfold r142 at hr
  refine S.gx [5] ?_
  obtain ⟨v1, hv1, hr⟩ := of_bind0 hr
  obtain ⟨v2, hv2, hr⟩ := of_bind0 hr
  obtain ⟨v3, hv3, hr⟩ := of_bind0 hr
  obtain ⟨v4, hv4, hr⟩ := of_bind0 hr
  obtain ⟨v5, hv5, hr⟩ := of_bind0 hr
  try simp only [hv1, hv2, hv3, hv4, hv5, Option.getD_some, Option.isSome_some, true_and, and_assoc]
  repeat refine gA ?_
  refine S.prune [2, 4] ?_
  refine S.gx [] ?_
  repeat refine gA ?_
  repeat refine gA ?_
  obtain rfl := Option.some.inj hr
  exact lf
theorem f142 : FnFact Tryd.prog 142 T142.sp := ⟨⟨Tryd.f142, Tryd.func142, by decide, rfl⟩, v142⟩
end

/- (martensite/steel.rules).boxStep$1 -/
def r143 (a0 : Int) (a1_0 : Option (Int × Int)) : Option (Int) :=
  if a1_0.isSome = true then
   if a1_0.isSome = true then
    some (if 1000000 < IntKind.i64.wrap (a0 + ((a1_0.getD default).2)) then 1000000 else IntKind.i64.wrap (a0 + ((a1_0.getD default).2)))
    else none
   else none
def w143 (a0 : Int) (a1_0 : Option (Int × Int)) : List Arg := [.c (.int .i64 a0), .ptr [encP d_II a1_0]]
def u143 (v : Int) : List RV := [.c (.d (.int .i64 v))]
def T143 : TSpec (Int × (Option (Int × Int))) where
  enc := fun ⟨a0, a1_0⟩ => w143 a0 a1_0
  dec a := (dInt (aCell a 0 0), decP g_II (aCell a 1 0))
  pre := fun ⟨a0, a1_0⟩ => (r143 a0 a1_0).isSome = true
  res := fun ⟨a0, a1_0⟩ => u143 ((r143 a0 a1_0).getD default)
  al := false
theorem TP143 (c0 c1 : D) : T143.sp.pre [.c c0, .ptr [c1]] = (eqvArgs [.c c0, .ptr [c1]] (w143 (dInt c0) (decP g_II c1)) ∧ (r143 (dInt c0) (decP g_II c1)).isSome = true) := (rfl)
theorem TR143 (c0 c1 : D) : T143.sp.res [.c c0, .ptr [c1]] = u143 ((r143 (dInt c0) (decP g_II c1)).getD default) := (rfl)
theorem TA143 : T143.sp.alias = false := (rfl)
def tb143 : Fns := lk []
theorem tb143_ok : FnsOk Tryd.prog tb143 := FnsOk.nil
attribute [go_sem] TP143 TR143 TA143 w143 u143
section
attribute [local go_sem] T143 Tryd.results143
theorem v143 : Valid Tryd.prog 143 T143.sp := by
  refine valid_t (fn := Tryd.f143) (n := 11) ty_ok tb143_ok Tryd.func143 rfl Tryd.ntmps143 ?_
  rintro ⟨a0, a1_0⟩ hx
  obtain ⟨r, hr⟩ := Option.isSome_iff_exists.1 (show (r143 a0 a1_0).isSome = true from hx)
  have hres : T143.res (a0, a1_0) = u143 r := by simp only [T143, hr, Option.getD_some]
  refine ⟨Nat.le_of_ble_eq_true rfl, fun stop S => ?_⟩
  rw [hres] at S
  unfold r143 at hr
  refine S.gx [] ?_
  obtain ⟨hg1, hr⟩ := of_guard0 hr
  obtain ⟨hg2, hr⟩ := of_guard0 hr
  repeat refine gA ?_
  obtain rfl := Option.some.inj hr
  exact lf
theorem f143 : FnFact Tryd.prog 143 T143.sp := ⟨⟨Tryd.f143, Tryd.func143, by decide, rfl⟩, v143⟩
end

theorem stop_join127 {σ : Type} {k : List K} {stop : List K → St → Prop} (head : σ → St) (R : σ → Prop) {goal : Prop} (main : (∀ s, R s → stop k (head s)) → goal) (j : ∀ s, R s → stop k (head s)) : goal := main j
/- (martensite/steel.rules).boxStep -/
def j127_2 (a0_0 : List (Int × Int × Int × Int)) (a0_1 : List (Int × Int × Int × Int × Int)) (a0_2 : List (Int × Int × Int)) (a0_3 : List (Int × Int)) (a0_4 : Int) (a0_5 : Int) (a0_6 : Int) (a0_7 : Int) (a2 : Int) : (Int × Int × Int × Int × Int × Int × Int × Int × Int × Int × Int × Int × Int × Int) → Option (Int × Int × Int × Int × Int × Int × Int × Int × Int × Int × Int × Int × Int × Int) := fun s2 =>
  (r119 a0_0 a0_1 a0_2 a0_3 a0_4 a0_5 a0_6 a0_7 a2).bind fun v13 =>
   if v13.isSome = true then
    (r143 s2.2.2.2.2.2.2.2.2.2.2.2.2.1 v13).bind fun v14 =>
     (r143 s2.2.2.2.2.2.2.2.2.2.2.2.2.2 v13).bind fun v15 =>
      some (s2.1, s2.2.1, s2.2.2.1, s2.2.2.2.1, s2.2.2.2.2.1, s2.2.2.2.2.2.1, s2.2.2.2.2.2.2.1, s2.2.2.2.2.2.2.2.1, s2.2.2.2.2.2.2.2.2.1, s2.2.2.2.2.2.2.2.2.2.1, s2.2.2.2.2.2.2.2.2.2.2.1, s2.2.2.2.2.2.2.2.2.2.2.2.1, v14, v15)
    else some (s2.1, s2.2.1, s2.2.2.1, s2.2.2.2.1, s2.2.2.2.2.1, s2.2.2.2.2.2.1, s2.2.2.2.2.2.2.1, s2.2.2.2.2.2.2.2.1, s2.2.2.2.2.2.2.2.2.1, s2.2.2.2.2.2.2.2.2.2.1, s2.2.2.2.2.2.2.2.2.2.2.1, s2.2.2.2.2.2.2.2.2.2.2.2.1, s2.2.2.2.2.2.2.2.2.2.2.2.2.1, s2.2.2.2.2.2.2.2.2.2.2.2.2.2)
def j127_1 (a0_0 : List (Int × Int × Int × Int)) (a0_1 : List (Int × Int × Int × Int × Int)) (a0_2 : List (Int × Int × Int)) (a0_3 : List (Int × Int)) (a0_4 : Int) (a0_5 : Int) (a0_6 : Int) (a0_7 : Int) (a2 : Int) : (Int × Int × Int × Int × Int × Int × Int × Int × Int × Int × Int × Int × Int × Int) → Option (Int × Int × Int × Int × Int × Int × Int × Int × Int × Int × Int × Int × Int × Int) := fun s1 =>
  (r117 a0_0 a0_1 a0_2 a0_3 a0_4 a0_5 a0_6 a0_7 a2).bind fun v9 =>
   if v9.isSome = true then
    if v9.isSome = true then
     if v9.isSome = true then
      (r142 s1.1 s1.2.1 s1.2.2.1 s1.2.2.2.1 s1.2.2.2.2.1 s1.2.2.2.2.2.1 s1.2.2.2.2.2.2.1 s1.2.2.2.2.2.2.2.1 s1.2.2.2.2.2.2.2.2.1 s1.2.2.2.2.2.2.2.2.2.1 s1.2.2.2.2.2.2.2.2.2.2.1 s1.2.2.2.2.2.2.2.2.2.2.2.1 s1.2.2.2.2.2.2.2.2.2.2.2.2.1 s1.2.2.2.2.2.2.2.2.2.2.2.2.2 ((v9.getD default).1) ((v9.getD default).2.1) ((v9.getD default).2.2)).bind fun v10 =>
       j127_2 a0_0 a0_1 a0_2 a0_3 a0_4 a0_5 a0_6 a0_7 a2 (v10.1, v10.2.1, v10.2.2.1, v10.2.2.2.1, v10.2.2.2.2.1, v10.2.2.2.2.2.1, v10.2.2.2.2.2.2.1, v10.2.2.2.2.2.2.2.1, v10.2.2.2.2.2.2.2.2.1, v10.2.2.2.2.2.2.2.2.2.1, v10.2.2.2.2.2.2.2.2.2.2.1, v10.2.2.2.2.2.2.2.2.2.2.2.1, v10.2.2.2.2.2.2.2.2.2.2.2.2.1, v10.2.2.2.2.2.2.2.2.2.2.2.2.2)
      else none
     else none
    else j127_2 a0_0 a0_1 a0_2 a0_3 a0_4 a0_5 a0_6 a0_7 a2 (s1.1, s1.2.1, s1.2.2.1, s1.2.2.2.1, s1.2.2.2.2.1, s1.2.2.2.2.2.1, s1.2.2.2.2.2.2.1, s1.2.2.2.2.2.2.2.1, s1.2.2.2.2.2.2.2.2.1, s1.2.2.2.2.2.2.2.2.2.1, s1.2.2.2.2.2.2.2.2.2.2.1, s1.2.2.2.2.2.2.2.2.2.2.2.1, s1.2.2.2.2.2.2.2.2.2.2.2.2.1, s1.2.2.2.2.2.2.2.2.2.2.2.2.2)
def r127 (a0_0 : List (Int × Int × Int × Int)) (a0_1 : List (Int × Int × Int × Int × Int)) (a0_2 : List (Int × Int × Int)) (a0_3 : List (Int × Int)) (a0_4 : Int) (a0_5 : Int) (a0_6 : Int) (a0_7 : Int) (a1_0 : Int) (a1_1 : Int) (a1_2 : Int) (a1_3 : Int) (a1_4 : Int) (a1_5 : Int) (a1_6 : Int) (a1_7 : Int) (a1_8 : Int) (a1_9 : Int) (a1_10 : Int) (a1_11 : Int) (a1_12 : Int) (a1_13 : Int) (a2 : Int) : Option (Int × Int × Int × Int × Int × Int × Int × Int × Int × Int × Int × Int × Int × Int) :=
  (r114 a0_0 a0_1 a0_2 a0_3 a0_4 a0_5 a0_6 a0_7 a2).bind fun v1 =>
   if v1.isSome = true then
    if v1.isSome = true then
     if v1.isSome = true then
      (r140 a1_0 a1_1 a1_2 a1_3 a1_4 a1_5 a1_6 a1_7 a1_8 a1_9 a1_10 a1_11 a1_12 a1_13 ((v1.getD default).1) ((v1.getD default).2.1) ((v1.getD default).2.2.1) ((v1.getD default).2.2.2)).bind fun v2 =>
       some (v2.1, v2.2.1, v2.2.2.1, v2.2.2.2.1, v2.2.2.2.2.1, v2.2.2.2.2.2.1, v2.2.2.2.2.2.2.1, v2.2.2.2.2.2.2.2.1, v2.2.2.2.2.2.2.2.2.1, v2.2.2.2.2.2.2.2.2.2.1, v2.2.2.2.2.2.2.2.2.2.2.1, v2.2.2.2.2.2.2.2.2.2.2.2.1, v2.2.2.2.2.2.2.2.2.2.2.2.2.1, v2.2.2.2.2.2.2.2.2.2.2.2.2.2)
      else none
     else none
    else (r116 a0_0 a0_1 a0_2 a0_3 a0_4 a0_5 a0_6 a0_7 a2).bind fun v5 =>
     if v5.isSome = true then
      if v5.isSome = true then
       if v5.isSome = true then
        (r141 a1_0 a1_1 a1_2 a1_3 a1_4 a1_5 a1_6 a1_7 a1_8 a1_9 a1_10 a1_11 a1_12 a1_13 ((v5.getD default).1) ((v5.getD default).2.1) ((v5.getD default).2.2.1) ((v5.getD default).2.2.2.1) ((v5.getD default).2.2.2.2)).bind fun v6 =>
         j127_1 a0_0 a0_1 a0_2 a0_3 a0_4 a0_5 a0_6 a0_7 a2 (v6.1, v6.2.1, v6.2.2.1, v6.2.2.2.1, v6.2.2.2.2.1, v6.2.2.2.2.2.1, v6.2.2.2.2.2.2.1, v6.2.2.2.2.2.2.2.1, v6.2.2.2.2.2.2.2.2.1, v6.2.2.2.2.2.2.2.2.2.1, v6.2.2.2.2.2.2.2.2.2.2.1, v6.2.2.2.2.2.2.2.2.2.2.2.1, v6.2.2.2.2.2.2.2.2.2.2.2.2.1, v6.2.2.2.2.2.2.2.2.2.2.2.2.2)
        else none
       else none
      else j127_1 a0_0 a0_1 a0_2 a0_3 a0_4 a0_5 a0_6 a0_7 a2 (a1_0, a1_1, a1_2, a1_3, a1_4, a1_5, a1_6, a1_7, a1_8, a1_9, a1_10, a1_11, a1_12, a1_13)
def w127 (a0_0 : List (Int × Int × Int × Int)) (a0_1 : List (Int × Int × Int × Int × Int)) (a0_2 : List (Int × Int × Int)) (a0_3 : List (Int × Int)) (a0_4 : Int) (a0_5 : Int) (a0_6 : Int) (a0_7 : Int) (a1_0 : Int) (a1_1 : Int) (a1_2 : Int) (a1_3 : Int) (a1_4 : Int) (a1_5 : Int) (a1_6 : Int) (a1_7 : Int) (a1_8 : Int) (a1_9 : Int) (a1_10 : Int) (a1_11 : Int) (a1_12 : Int) (a1_13 : Int) (a2 : Int) : List Arg := [.agg [encF 4 d_IIII a0_0, encF 5 d_IIIII a0_1, encF 3 d_III a0_2, encF 2 d_II a0_3, .int .i64 a0_4, .int .i64 a0_5, .int .i64 a0_6, .int .i64 a0_7], .agg [.int .i64 a1_0, .int .i64 a1_1, .int .i64 a1_2, .int .i64 a1_3, .int .i64 a1_4, .int .i64 a1_5, .int .i64 a1_6, .int .i64 a1_7, .int .i64 a1_8, .int .i64 a1_9, .int .i64 a1_10, .int .i64 a1_11, .int .i64 a1_12, .int .i64 a1_13], .c (.int .i64 a2)]
def u127 (v : Int × Int × Int × Int × Int × Int × Int × Int × Int × Int × Int × Int × Int × Int) : List RV := [.agg [.d (.int .i64 v.1), .d (.int .i64 v.2.1), .d (.int .i64 v.2.2.1), .d (.int .i64 v.2.2.2.1), .d (.int .i64 v.2.2.2.2.1), .d (.int .i64 v.2.2.2.2.2.1), .d (.int .i64 v.2.2.2.2.2.2.1), .d (.int .i64 v.2.2.2.2.2.2.2.1), .d (.int .i64 v.2.2.2.2.2.2.2.2.1), .d (.int .i64 v.2.2.2.2.2.2.2.2.2.1), .d (.int .i64 v.2.2.2.2.2.2.2.2.2.2.1), .d (.int .i64 v.2.2.2.2.2.2.2.2.2.2.2.1), .d (.int .i64 v.2.2.2.2.2.2.2.2.2.2.2.2.1), .d (.int .i64 v.2.2.2.2.2.2.2.2.2.2.2.2.2)]]
def T127 : TSpec ((List (Int × Int × Int × Int)) × (List (Int × Int × Int × Int × Int)) × (List (Int × Int × Int)) × (List (Int × Int)) × Int × Int × Int × Int × Int × Int × Int × Int × Int × Int × Int × Int × Int × Int × Int × Int × Int × Int × Int) where
  enc := fun ⟨a0_0, a0_1, a0_2, a0_3, a0_4, a0_5, a0_6, a0_7, a1_0, a1_1, a1_2, a1_3, a1_4, a1_5, a1_6, a1_7, a1_8, a1_9, a1_10, a1_11, a1_12, a1_13, a2⟩ => w127 a0_0 a0_1 a0_2 a0_3 a0_4 a0_5 a0_6 a0_7 a1_0 a1_1 a1_2 a1_3 a1_4 a1_5 a1_6 a1_7 a1_8 a1_9 a1_10 a1_11 a1_12 a1_13 a2
  dec a := (decF g_IIII (aCell a 0 0), decF g_IIIII (aCell a 0 1), decF g_III (aCell a 0 2), decF g_II (aCell a 0 3), dInt (aCell a 0 4), dInt (aCell a 0 5), dInt (aCell a 0 6), dInt (aCell a 0 7), dInt (aCell a 1 0), dInt (aCell a 1 1), dInt (aCell a 1 2), dInt (aCell a 1 3), dInt (aCell a 1 4), dInt (aCell a 1 5), dInt (aCell a 1 6), dInt (aCell a 1 7), dInt (aCell a 1 8), dInt (aCell a 1 9), dInt (aCell a 1 10), dInt (aCell a 1 11), dInt (aCell a 1 12), dInt (aCell a 1 13), dInt (aCell a 2 0))
  pre := fun ⟨a0_0, a0_1, a0_2, a0_3, a0_4, a0_5, a0_6, a0_7, a1_0, a1_1, a1_2, a1_3, a1_4, a1_5, a1_6, a1_7, a1_8, a1_9, a1_10, a1_11, a1_12, a1_13, a2⟩ => (r127 a0_0 a0_1 a0_2 a0_3 a0_4 a0_5 a0_6 a0_7 a1_0 a1_1 a1_2 a1_3 a1_4 a1_5 a1_6 a1_7 a1_8 a1_9 a1_10 a1_11 a1_12 a1_13 a2).isSome = true
  res := fun ⟨a0_0, a0_1, a0_2, a0_3, a0_4, a0_5, a0_6, a0_7, a1_0, a1_1, a1_2, a1_3, a1_4, a1_5, a1_6, a1_7, a1_8, a1_9, a1_10, a1_11, a1_12, a1_13, a2⟩ => u127 ((r127 a0_0 a0_1 a0_2 a0_3 a0_4 a0_5 a0_6 a0_7 a1_0 a1_1 a1_2 a1_3 a1_4 a1_5 a1_6 a1_7 a1_8 a1_9 a1_10 a1_11 a1_12 a1_13 a2).getD default)
  al := false
theorem TP127 (c0 c1 c2 c3 c4 c5 c6 c7 c8 c9 c10 c11 c12 c13 c14 c15 c16 c17 c18 c19 c20 c21 c22 : D) : T127.sp.pre [.agg [c0, c1, c2, c3, c4, c5, c6, c7], .agg [c8, c9, c10, c11, c12, c13, c14, c15, c16, c17, c18, c19, c20, c21], .c c22] = (eqvArgs [.agg [c0, c1, c2, c3, c4, c5, c6, c7], .agg [c8, c9, c10, c11, c12, c13, c14, c15, c16, c17, c18, c19, c20, c21], .c c22] (w127 (decF g_IIII c0) (decF g_IIIII c1) (decF g_III c2) (decF g_II c3) (dInt c4) (dInt c5) (dInt c6) (dInt c7) (dInt c8) (dInt c9) (dInt c10) (dInt c11) (dInt c12) (dInt c13) (dInt c14) (dInt c15) (dInt c16) (dInt c17) (dInt c18) (dInt c19) (dInt c20) (dInt c21) (dInt c22)) ∧ (r127 (decF g_IIII c0) (decF g_IIIII c1) (decF g_III c2) (decF g_II c3) (dInt c4) (dInt c5) (dInt c6) (dInt c7) (dInt c8) (dInt c9) (dInt c10) (dInt c11) (dInt c12) (dInt c13) (dInt c14) (dInt c15) (dInt c16) (dInt c17) (dInt c18) (dInt c19) (dInt c20) (dInt c21) (dInt c22)).isSome = true) := (rfl)
theorem TR127 (c0 c1 c2 c3 c4 c5 c6 c7 c8 c9 c10 c11 c12 c13 c14 c15 c16 c17 c18 c19 c20 c21 c22 : D) : T127.sp.res [.agg [c0, c1, c2, c3, c4, c5, c6, c7], .agg [c8, c9, c10, c11, c12, c13, c14, c15, c16, c17, c18, c19, c20, c21], .c c22] = u127 ((r127 (decF g_IIII c0) (decF g_IIIII c1) (decF g_III c2) (decF g_II c3) (dInt c4) (dInt c5) (dInt c6) (dInt c7) (dInt c8) (dInt c9) (dInt c10) (dInt c11) (dInt c12) (dInt c13) (dInt c14) (dInt c15) (dInt c16) (dInt c17) (dInt c18) (dInt c19) (dInt c20) (dInt c21) (dInt c22)).getD default) := (rfl)
theorem TA127 : T127.sp.alias = false := (rfl)
def tb127 : Fns := lk [(114, T114.sp), (116, T116.sp), (117, T117.sp), (119, T119.sp), (140, T140.sp), (141, T141.sp), (142, T142.sp), (143, T143.sp)]
theorem tb127_ok : FnsOk Tryd.prog tb127 := .cons f114 (.cons f116 (.cons f117 (.cons f119 (.cons f140 (.cons f141 (.cons f142 (.cons f143 (FnsOk.nil))))))))
theorem tb127_114 : tb127 114 = some T114.sp := rfl
theorem tb127_116 : tb127 116 = some T116.sp := rfl
theorem tb127_117 : tb127 117 = some T117.sp := rfl
theorem tb127_119 : tb127 119 = some T119.sp := rfl
theorem tb127_140 : tb127 140 = some T140.sp := rfl
theorem tb127_141 : tb127 141 = some T141.sp := rfl
theorem tb127_142 : tb127 142 = some T142.sp := rfl
theorem tb127_143 : tb127 143 = some T143.sp := rfl
attribute [go_sem] TP127 TR127 TA127 w127 u127
section
attribute [local go_sem] T127 tb127_114 tb127_116 tb127_117 tb127_119 tb127_140 tb127_141 tb127_142 tb127_143 Tryd.results127
theorem v127 : Valid Tryd.prog 127 T127.sp := by
  refine valid_t (fn := Tryd.f127) (n := 61) ty_ok tb127_ok Tryd.func127 rfl Tryd.ntmps127 ?_
  rintro ⟨a0_0, a0_1, a0_2, a0_3, a0_4, a0_5, a0_6, a0_7, a1_0, a1_1, a1_2, a1_3, a1_4, a1_5, a1_6, a1_7, a1_8, a1_9, a1_10, a1_11, a1_12, a1_13, a2⟩ hx
  obtain ⟨r, hr⟩ := Option.isSome_iff_exists.1 (show (r127 a0_0 a0_1 a0_2 a0_3 a0_4 a0_5 a0_6 a0_7 a1_0 a1_1 a1_2 a1_3 a1_4 a1_5 a1_6 a1_7 a1_8 a1_9 a1_10 a1_11 a1_12 a1_13 a2).isSome = true from hx)
  have hres : T127.res (a0_0, a0_1, a0_2, a0_3, a0_4, a0_5, a0_6, a0_7, a1_0, a1_1, a1_2, a1_3, a1_4, a1_5, a1_6, a1_7, a1_8, a1_9, a1_10, a1_11, a1_12, a1_13, a2) = u127 r := by simp only [T127, hr, Option.getD_some]
  refine ⟨Nat.le_of_ble_eq_true rfl, fun stop S => ?_⟩
  rw [hres] at S
  unfold r127 at hr
  refine S.gx [7, 10] ?_
  obtain ⟨v1, hv1, hr⟩ := of_bind0 hr
  try simp only [hv1, Option.getD_some, Option.isSome_some, true_and, and_assoc]
  repeat refine gA ?_
  refine ⟨fun hc => ?_, fun hc => ?_⟩
  · replace hr := ifP hr hc
    obtain ⟨hg3, hr⟩ := of_guard0 hr
    obtain ⟨hg4, hr⟩ := of_guard0 hr
    obtain ⟨v2, hv2, hr⟩ := of_bind0 hr
    try simp only [hv2, Option.getD_some, Option.isSome_some, true_and, and_assoc]
    repeat refine gA ?_
    obtain rfl := Option.some.inj hr
    exact lf
  · replace hr := ifN hr hc
    obtain ⟨v5, hv5, hr⟩ := of_bind0 hr
    try simp only [hv5, Option.getD_some, Option.isSome_some, true_and, and_assoc]
    repeat refine gA ?_
    apply stop_join127 (stop := stop) (fun s1 => ⟨[(2, .c (.d (.int .i64 a2))), (3, .c (.ref 3 0)), (4, .c (.ref 4 0)), (6, .c (.ref 6 0))], [(3, [.d (encF 4 d_IIII a0_0), .d (encF 5 d_IIIII a0_1), .d (encF 3 d_III a0_2), .d (encF 2 d_II a0_3), .d (.int .i64 a0_4), .d (.int .i64 a0_5), .d (.int .i64 a0_6), .d (.int .i64 a0_7)]), (4, [.d (.int .i64 s1.1), .d (.int .i64 s1.2.1), .d (.int .i64 s1.2.2.1), .d (.int .i64 s1.2.2.2.1), .d (.int .i64 s1.2.2.2.2.1), .d (.int .i64 s1.2.2.2.2.2.1), .d (.int .i64 s1.2.2.2.2.2.2.1), .d (.int .i64 s1.2.2.2.2.2.2.2.1), .d (.int .i64 s1.2.2.2.2.2.2.2.2.1), .d (.int .i64 s1.2.2.2.2.2.2.2.2.2.1), .d (.int .i64 s1.2.2.2.2.2.2.2.2.2.2.1), .d (.int .i64 s1.2.2.2.2.2.2.2.2.2.2.2.1), .d (.int .i64 s1.2.2.2.2.2.2.2.2.2.2.2.2.1), .d (.int .i64 s1.2.2.2.2.2.2.2.2.2.2.2.2.2)]), (6, [.d (.int .i64 0), .d (.int .i64 0), .d (.int .i64 0), .d (.int .i64 0), .d (.int .i64 0), .d (.int .i64 0), .d (.int .i64 0), .d (.int .i64 0), .d (.int .i64 0), .d (.int .i64 0), .d (.int .i64 0), .d (.int .i64 0), .d (.int .i64 0), .d (.int .i64 0)])], []⟩) (fun s1 => j127_1 a0_0 a0_1 a0_2 a0_3 a0_4 a0_5 a0_6 a0_7 a2 s1 = some r)
    · intro J1
      refine ⟨fun hc => ?_, fun hc => ?_⟩
      · replace hr := ifP hr hc
        obtain ⟨hg7, hr⟩ := of_guard0 hr
        obtain ⟨hg8, hr⟩ := of_guard0 hr
        obtain ⟨v6, hv6, hr⟩ := of_bind0 hr
        try simp only [hv6, Option.getD_some, Option.isSome_some, true_and, and_assoc]
        repeat refine gA ?_
        refine S.sees [2, 3, 4, 6] [(3, 3), (4, 4), (6, 6)] [] ?_ (J1 _ hr)
        exact lf
      · replace hr := ifN hr hc
        repeat refine gA ?_
        refine S.sees [2, 3, 4, 6] [(3, 3), (4, 4), (6, 6)] [] ?_ (J1 _ hr)
        exact lf
    · intro s1 hr
      unfold j127_1 at hr
      refine S.gx [7, 10] ?_
      repeat refine gA ?_
      refine S.gx [10] ?_
      obtain ⟨v9, hv9, hr⟩ := of_bind0 hr
      try simp only [hv9, Option.getD_some, Option.isSome_some, true_and, and_assoc]
      repeat refine gA ?_
      repeat refine gA ?_
      apply stop_join127 (stop := stop) (fun s2 => ⟨[(2, .c (.d (.int .i64 a2))), (3, .c (.ref 3 0)), (4, .c (.ref 4 0)), (6, .c (.ref 6 0))], [(3, [.d (encF 4 d_IIII a0_0), .d (encF 5 d_IIIII a0_1), .d (encF 3 d_III a0_2), .d (encF 2 d_II a0_3), .d (.int .i64 a0_4), .d (.int .i64 a0_5), .d (.int .i64 a0_6), .d (.int .i64 a0_7)]), (4, [.d (.int .i64 s2.1), .d (.int .i64 s2.2.1), .d (.int .i64 s2.2.2.1), .d (.int .i64 s2.2.2.2.1), .d (.int .i64 s2.2.2.2.2.1), .d (.int .i64 s2.2.2.2.2.2.1), .d (.int .i64 s2.2.2.2.2.2.2.1), .d (.int .i64 s2.2.2.2.2.2.2.2.1), .d (.int .i64 s2.2.2.2.2.2.2.2.2.1), .d (.int .i64 s2.2.2.2.2.2.2.2.2.2.1), .d (.int .i64 s2.2.2.2.2.2.2.2.2.2.2.1), .d (.int .i64 s2.2.2.2.2.2.2.2.2.2.2.2.1), .d (.int .i64 s2.2.2.2.2.2.2.2.2.2.2.2.2.1), .d (.int .i64 s2.2.2.2.2.2.2.2.2.2.2.2.2.2)]), (6, [.d (.int .i64 0), .d (.int .i64 0), .d (.int .i64 0), .d (.int .i64 0), .d (.int .i64 0), .d (.int .i64 0), .d (.int .i64 0), .d (.int .i64 0), .d (.int .i64 0), .d (.int .i64 0), .d (.int .i64 0), .d (.int .i64 0), .d (.int .i64 0), .d (.int .i64 0)])], []⟩) (fun s2 => j127_2 a0_0 a0_1 a0_2 a0_3 a0_4 a0_5 a0_6 a0_7 a2 s2 = some r)
      · intro J2
        refine ⟨fun hc => ?_, fun hc => ?_⟩
        · replace hr := ifP hr hc
          obtain ⟨hg11, hr⟩ := of_guard0 hr
          obtain ⟨hg12, hr⟩ := of_guard0 hr
          obtain ⟨v10, hv10, hr⟩ := of_bind0 hr
          try simp only [hv10, Option.getD_some, Option.isSome_some, true_and, and_assoc]
          repeat refine gA ?_
          refine S.sees [2, 3, 4, 6] [(3, 3), (4, 4), (6, 6)] [] ?_ (J2 _ hr)
          exact lf
        · replace hr := ifN hr hc
          repeat refine gA ?_
          refine S.sees [2, 3, 4, 6] [(3, 3), (4, 4), (6, 6)] [] ?_ (J2 _ hr)
          exact lf
      · intro s2 hr
        unfold j127_2 at hr
        refine S.gx [7, 10] ?_
        repeat refine gA ?_
        refine S.gx [7] ?_
        obtain ⟨v13, hv13, hr⟩ := of_bind0 hr
        try simp only [hv13, Option.getD_some, Option.isSome_some, true_and, and_assoc]
        repeat refine gA ?_
        repeat refine gA ?_
        refine ⟨fun hc => ?_, fun hc => ?_⟩
        · replace hr := ifP hr hc
          obtain ⟨v14, hv14, hr⟩ := of_bind0 hr
          obtain ⟨v15, hv15, hr⟩ := of_bind0 hr
          try simp only [hv14, hv15, Option.getD_some, Option.isSome_some, true_and, and_assoc]
          repeat refine gA ?_
          obtain rfl := Option.some.inj hr
          exact lf
        · replace hr := ifN hr hc
          repeat refine gA ?_
          obtain rfl := Option.some.inj hr
          exact lf
theorem f127 : FnFact Tryd.prog 127 T127.sp := ⟨⟨Tryd.f127, Tryd.func127, by decide, rfl⟩, v127⟩
end

/- martensite/steel.hull -/
def r128 (a0_0 : Int) (a0_1 : Int) (a0_2 : Int) (a0_3 : Int) (a0_4 : Int) (a0_5 : Int) (a0_6 : Int) (a0_7 : Int) (a0_8 : Int) (a0_9 : Int) (a0_10 : Int) (a0_11 : Int) (a0_12 : Int) (a0_13 : Int) (a1_0 : Int) (a1_1 : Int) (a1_2 : Int) (a1_3 : Int) (a1_4 : Int) (a1_5 : Int) (a1_6 : Int) (a1_7 : Int) (a1_8 : Int) (a1_9 : Int) (a1_10 : Int) (a1_11 : Int) (a1_12 : Int) (a1_13 : Int) : Option (Int × Int × Int × Int × Int × Int × Int × Int × Int × Int × Int × Int × Int × Int) :=
  some ((if a1_0 < a0_0 then a1_0 else a0_0), (if a0_1 < a1_1 then a1_1 else a0_1), (if a1_2 < a0_2 then a1_2 else a0_2), (if a0_3 < a1_3 then a1_3 else a0_3), (if a1_4 < a0_4 then a1_4 else a0_4), (if a0_5 < a1_5 then a1_5 else a0_5), (if a1_6 < a0_6 then a1_6 else a0_6), (if a0_7 < a1_7 then a1_7 else a0_7), (if a1_8 < a0_8 then a1_8 else a0_8), (if a0_9 < a1_9 then a1_9 else a0_9), (if a1_10 < a0_10 then a1_10 else a0_10), (if a0_11 < a1_11 then a1_11 else a0_11), (if a1_12 < a0_12 then a1_12 else a0_12), (if a0_13 < a1_13 then a1_13 else a0_13))
def w128 (a0_0 : Int) (a0_1 : Int) (a0_2 : Int) (a0_3 : Int) (a0_4 : Int) (a0_5 : Int) (a0_6 : Int) (a0_7 : Int) (a0_8 : Int) (a0_9 : Int) (a0_10 : Int) (a0_11 : Int) (a0_12 : Int) (a0_13 : Int) (a1_0 : Int) (a1_1 : Int) (a1_2 : Int) (a1_3 : Int) (a1_4 : Int) (a1_5 : Int) (a1_6 : Int) (a1_7 : Int) (a1_8 : Int) (a1_9 : Int) (a1_10 : Int) (a1_11 : Int) (a1_12 : Int) (a1_13 : Int) : List Arg := [.agg [.int .i64 a0_0, .int .i64 a0_1, .int .i64 a0_2, .int .i64 a0_3, .int .i64 a0_4, .int .i64 a0_5, .int .i64 a0_6, .int .i64 a0_7, .int .i64 a0_8, .int .i64 a0_9, .int .i64 a0_10, .int .i64 a0_11, .int .i64 a0_12, .int .i64 a0_13], .agg [.int .i64 a1_0, .int .i64 a1_1, .int .i64 a1_2, .int .i64 a1_3, .int .i64 a1_4, .int .i64 a1_5, .int .i64 a1_6, .int .i64 a1_7, .int .i64 a1_8, .int .i64 a1_9, .int .i64 a1_10, .int .i64 a1_11, .int .i64 a1_12, .int .i64 a1_13]]
def u128 (v : Int × Int × Int × Int × Int × Int × Int × Int × Int × Int × Int × Int × Int × Int) : List RV := [.agg [.d (.int .i64 v.1), .d (.int .i64 v.2.1), .d (.int .i64 v.2.2.1), .d (.int .i64 v.2.2.2.1), .d (.int .i64 v.2.2.2.2.1), .d (.int .i64 v.2.2.2.2.2.1), .d (.int .i64 v.2.2.2.2.2.2.1), .d (.int .i64 v.2.2.2.2.2.2.2.1), .d (.int .i64 v.2.2.2.2.2.2.2.2.1), .d (.int .i64 v.2.2.2.2.2.2.2.2.2.1), .d (.int .i64 v.2.2.2.2.2.2.2.2.2.2.1), .d (.int .i64 v.2.2.2.2.2.2.2.2.2.2.2.1), .d (.int .i64 v.2.2.2.2.2.2.2.2.2.2.2.2.1), .d (.int .i64 v.2.2.2.2.2.2.2.2.2.2.2.2.2)]]
def T128 : TSpec (Int × Int × Int × Int × Int × Int × Int × Int × Int × Int × Int × Int × Int × Int × Int × Int × Int × Int × Int × Int × Int × Int × Int × Int × Int × Int × Int × Int) where
  enc := fun ⟨a0_0, a0_1, a0_2, a0_3, a0_4, a0_5, a0_6, a0_7, a0_8, a0_9, a0_10, a0_11, a0_12, a0_13, a1_0, a1_1, a1_2, a1_3, a1_4, a1_5, a1_6, a1_7, a1_8, a1_9, a1_10, a1_11, a1_12, a1_13⟩ => w128 a0_0 a0_1 a0_2 a0_3 a0_4 a0_5 a0_6 a0_7 a0_8 a0_9 a0_10 a0_11 a0_12 a0_13 a1_0 a1_1 a1_2 a1_3 a1_4 a1_5 a1_6 a1_7 a1_8 a1_9 a1_10 a1_11 a1_12 a1_13
  dec a := (dInt (aCell a 0 0), dInt (aCell a 0 1), dInt (aCell a 0 2), dInt (aCell a 0 3), dInt (aCell a 0 4), dInt (aCell a 0 5), dInt (aCell a 0 6), dInt (aCell a 0 7), dInt (aCell a 0 8), dInt (aCell a 0 9), dInt (aCell a 0 10), dInt (aCell a 0 11), dInt (aCell a 0 12), dInt (aCell a 0 13), dInt (aCell a 1 0), dInt (aCell a 1 1), dInt (aCell a 1 2), dInt (aCell a 1 3), dInt (aCell a 1 4), dInt (aCell a 1 5), dInt (aCell a 1 6), dInt (aCell a 1 7), dInt (aCell a 1 8), dInt (aCell a 1 9), dInt (aCell a 1 10), dInt (aCell a 1 11), dInt (aCell a 1 12), dInt (aCell a 1 13))
  pre := fun ⟨a0_0, a0_1, a0_2, a0_3, a0_4, a0_5, a0_6, a0_7, a0_8, a0_9, a0_10, a0_11, a0_12, a0_13, a1_0, a1_1, a1_2, a1_3, a1_4, a1_5, a1_6, a1_7, a1_8, a1_9, a1_10, a1_11, a1_12, a1_13⟩ => (r128 a0_0 a0_1 a0_2 a0_3 a0_4 a0_5 a0_6 a0_7 a0_8 a0_9 a0_10 a0_11 a0_12 a0_13 a1_0 a1_1 a1_2 a1_3 a1_4 a1_5 a1_6 a1_7 a1_8 a1_9 a1_10 a1_11 a1_12 a1_13).isSome = true
  res := fun ⟨a0_0, a0_1, a0_2, a0_3, a0_4, a0_5, a0_6, a0_7, a0_8, a0_9, a0_10, a0_11, a0_12, a0_13, a1_0, a1_1, a1_2, a1_3, a1_4, a1_5, a1_6, a1_7, a1_8, a1_9, a1_10, a1_11, a1_12, a1_13⟩ => u128 ((r128 a0_0 a0_1 a0_2 a0_3 a0_4 a0_5 a0_6 a0_7 a0_8 a0_9 a0_10 a0_11 a0_12 a0_13 a1_0 a1_1 a1_2 a1_3 a1_4 a1_5 a1_6 a1_7 a1_8 a1_9 a1_10 a1_11 a1_12 a1_13).getD default)
  al := false
theorem TP128 (c0 c1 c2 c3 c4 c5 c6 c7 c8 c9 c10 c11 c12 c13 c14 c15 c16 c17 c18 c19 c20 c21 c22 c23 c24 c25 c26 c27 : D) : T128.sp.pre [.agg [c0, c1, c2, c3, c4, c5, c6, c7, c8, c9, c10, c11, c12, c13], .agg [c14, c15, c16, c17, c18, c19, c20, c21, c22, c23, c24, c25, c26, c27]] = (eqvArgs [.agg [c0, c1, c2, c3, c4, c5, c6, c7, c8, c9, c10, c11, c12, c13], .agg [c14, c15, c16, c17, c18, c19, c20, c21, c22, c23, c24, c25, c26, c27]] (w128 (dInt c0) (dInt c1) (dInt c2) (dInt c3) (dInt c4) (dInt c5) (dInt c6) (dInt c7) (dInt c8) (dInt c9) (dInt c10) (dInt c11) (dInt c12) (dInt c13) (dInt c14) (dInt c15) (dInt c16) (dInt c17) (dInt c18) (dInt c19) (dInt c20) (dInt c21) (dInt c22) (dInt c23) (dInt c24) (dInt c25) (dInt c26) (dInt c27)) ∧ (r128 (dInt c0) (dInt c1) (dInt c2) (dInt c3) (dInt c4) (dInt c5) (dInt c6) (dInt c7) (dInt c8) (dInt c9) (dInt c10) (dInt c11) (dInt c12) (dInt c13) (dInt c14) (dInt c15) (dInt c16) (dInt c17) (dInt c18) (dInt c19) (dInt c20) (dInt c21) (dInt c22) (dInt c23) (dInt c24) (dInt c25) (dInt c26) (dInt c27)).isSome = true) := (rfl)
theorem TR128 (c0 c1 c2 c3 c4 c5 c6 c7 c8 c9 c10 c11 c12 c13 c14 c15 c16 c17 c18 c19 c20 c21 c22 c23 c24 c25 c26 c27 : D) : T128.sp.res [.agg [c0, c1, c2, c3, c4, c5, c6, c7, c8, c9, c10, c11, c12, c13], .agg [c14, c15, c16, c17, c18, c19, c20, c21, c22, c23, c24, c25, c26, c27]] = u128 ((r128 (dInt c0) (dInt c1) (dInt c2) (dInt c3) (dInt c4) (dInt c5) (dInt c6) (dInt c7) (dInt c8) (dInt c9) (dInt c10) (dInt c11) (dInt c12) (dInt c13) (dInt c14) (dInt c15) (dInt c16) (dInt c17) (dInt c18) (dInt c19) (dInt c20) (dInt c21) (dInt c22) (dInt c23) (dInt c24) (dInt c25) (dInt c26) (dInt c27)).getD default) := (rfl)
theorem TA128 : T128.sp.alias = false := (rfl)
def tb128 : Fns := lk []
theorem tb128_ok : FnsOk Tryd.prog tb128 := FnsOk.nil
theorem lt128_0 : (decide ((0 : Int) < 7)) = true := by first | rfl | decide | simp
theorem lt128_1 : (IntKind.i64.wrap (0 + 1)) = 1 := by first | rfl | decide | simp
theorem lt128_2 : (decide ((1 : Int) < 7)) = true := by first | rfl | decide | simp
theorem lt128_3 : (((1 : Int) = 0 ∨ (0 : Int) < 1)) = True := by first | rfl | decide | simp
theorem lt128_4 : (IntKind.i64.wrap (1 + 1)) = 2 := by first | rfl | decide | simp
theorem lt128_5 : (decide ((2 : Int) < 7)) = true := by first | rfl | decide | simp
theorem lt128_6 : (((2 : Int) = 0 ∨ (0 : Int) < 2)) = True := by first | rfl | decide | simp
theorem lt128_7 : (IntKind.i64.wrap (2 + 1)) = 3 := by first | rfl | decide | simp
theorem lt128_8 : (decide ((3 : Int) < 7)) = true := by first | rfl | decide | simp
theorem lt128_9 : (((3 : Int) = 0 ∨ (0 : Int) < 3)) = True := by first | rfl | decide | simp
theorem lt128_10 : (IntKind.i64.wrap (3 + 1)) = 4 := by first | rfl | decide | simp
theorem lt128_11 : (decide ((4 : Int) < 7)) = true := by first | rfl | decide | simp
theorem lt128_12 : (((4 : Int) = 0 ∨ (0 : Int) < 4)) = True := by first | rfl | decide | simp
theorem lt128_13 : (IntKind.i64.wrap (4 + 1)) = 5 := by first | rfl | decide | simp
theorem lt128_14 : (decide ((5 : Int) < 7)) = true := by first | rfl | decide | simp
theorem lt128_15 : (((5 : Int) = 0 ∨ (0 : Int) < 5)) = True := by first | rfl | decide | simp
theorem lt128_16 : (IntKind.i64.wrap (5 + 1)) = 6 := by first | rfl | decide | simp
theorem lt128_17 : (decide ((6 : Int) < 7)) = true := by first | rfl | decide | simp
theorem lt128_18 : (((6 : Int) = 0 ∨ (0 : Int) < 6)) = True := by first | rfl | decide | simp
theorem lt128_19 : (IntKind.i64.wrap (6 + 1)) = 7 := by first | rfl | decide | simp
theorem lt128_20 : (decide ((7 : Int) < 7)) = false := by first | rfl | decide | simp
attribute [go_sem] TP128 TR128 TA128 w128 u128
section
attribute [local go_sem] T128 Tryd.results128 Tryd.results125 lt128_0 lt128_1 lt128_2 lt128_3 lt128_4 lt128_5 lt128_6 lt128_7 lt128_8 lt128_9 lt128_10 lt128_11 lt128_12 lt128_13 lt128_14 lt128_15 lt128_16 lt128_17 lt128_18 lt128_19 lt128_20
theorem v128 : Valid Tryd.prog 128 T128.sp := by
  refine valid_t (fn := Tryd.f128) (n := 41) ty_ok tb128_ok Tryd.func128 rfl Tryd.ntmps128 ?_
  rintro ⟨a0_0, a0_1, a0_2, a0_3, a0_4, a0_5, a0_6, a0_7, a0_8, a0_9, a0_10, a0_11, a0_12, a0_13, a1_0, a1_1, a1_2, a1_3, a1_4, a1_5, a1_6, a1_7, a1_8, a1_9, a1_10, a1_11, a1_12, a1_13⟩ hx
  obtain ⟨r, hr⟩ := Option.isSome_iff_exists.1 (show (r128 a0_0 a0_1 a0_2 a0_3 a0_4 a0_5 a0_6 a0_7 a0_8 a0_9 a0_10 a0_11 a0_12 a0_13 a1_0 a1_1 a1_2 a1_3 a1_4 a1_5 a1_6 a1_7 a1_8 a1_9 a1_10 a1_11 a1_12 a1_13).isSome = true from hx)
  have hres : T128.res (a0_0, a0_1, a0_2, a0_3, a0_4, a0_5, a0_6, a0_7, a0_8, a0_9, a0_10, a0_11, a0_12, a0_13, a1_0, a1_1, a1_2, a1_3, a1_4, a1_5, a1_6, a1_7, a1_8, a1_9, a1_10, a1_11, a1_12, a1_13) = u128 r := by simp only [T128, hr, Option.getD_some]
  refine ⟨Nat.le_of_ble_eq_true rfl, fun stop S => ?_⟩
  rw [hres] at S
  unfold r128 at hr
  refine S.gx [1, 2, 6] ?_
  repeat refine gA ?_
  refine S.inl 0 [2, 4] [] Tryd.func125 (by decide) rfl Tryd.ntmps125 (fun cx e => drawn_ok ty_ok tb128_ok cx e) (some 8) rfl rfl rfl rfl (Nat.le_of_ble_eq_true rfl) (Nat.le_of_ble_eq_true rfl) ?_
  refine gs ?_
  repeat refine gA ?_
  intro stop1 S1
  refine S1.gx [] ?_
  repeat refine gA ?_
  repeat refine gA ?_
  refine S.gx [1, 2, 6] ?_
  repeat refine gA ?_
  refine S.inl 0 [2, 4, 5] [] Tryd.func125 (by decide) rfl Tryd.ntmps125 (fun cx e => drawn_ok ty_ok tb128_ok cx e) (some 9) rfl rfl rfl rfl (Nat.le_of_ble_eq_true rfl) (Nat.le_of_ble_eq_true rfl) ?_
  refine gs ?_
  repeat refine gA ?_
  intro stop1 S1
  refine S1.gx [] ?_
  repeat refine gA ?_
  repeat refine gA ?_
  refine S.gx [1, 2, 6] ?_
  repeat refine gA ?_
  refine S.lp ?_
  refine S.gx [1, 2, 6] ?_
  repeat refine gA ?_
  refine S.prune [2, 4, 5, 9, 10] ?_
  refine S.gx [1, 2] ?_
  repeat refine gA ?_
  repeat refine gA ?_
  refine S.lp ?_
  refine S.gx [1, 2, 6] ?_
  repeat refine gA ?_
  refine S.prune [2, 4, 5, 9, 10] ?_
  refine S.gx [1, 2] ?_
  repeat refine gA ?_
  repeat refine gA ?_
  refine S.lp ?_
  refine S.gx [1, 2, 6] ?_
  repeat refine gA ?_
  refine S.prune [2, 4, 5, 9, 10] ?_
  refine S.gx [1, 2] ?_
  repeat refine gA ?_
  repeat refine gA ?_
  refine S.lp ?_
  refine S.gx [1, 2, 6] ?_
  repeat refine gA ?_
  refine S.prune [2, 4, 5, 9, 10] ?_
  refine S.gx [1, 2] ?_
  repeat refine gA ?_
  repeat refine gA ?_
  refine S.lp ?_
  refine S.gx [1, 2, 6] ?_
  repeat refine gA ?_
  refine S.prune [2, 4, 5, 9, 10] ?_
  refine S.gx [1, 2] ?_
  repeat refine gA ?_
  repeat refine gA ?_
  refine S.lp ?_
  refine S.gx [1, 2, 6] ?_
  repeat refine gA ?_
  refine S.prune [2, 4, 5, 9, 10] ?_
  refine S.gx [1, 2] ?_
  repeat refine gA ?_
  repeat refine gA ?_
  refine S.lp ?_
  refine S.gx [1, 2, 6] ?_
  repeat refine gA ?_
  refine S.prune [2, 4, 5, 9, 10] ?_
  refine S.gx [1, 2] ?_
  repeat refine gA ?_
  repeat refine gA ?_
  refine S.lp ?_
  refine S.gx [1, 2, 6] ?_
  repeat refine gA ?_
  obtain rfl := Option.some.inj hr
  exact lf
theorem f128 : FnFact Tryd.prog 128 T128.sp := ⟨⟨Tryd.f128, Tryd.func128, by decide, rfl⟩, v128⟩
end
end Go.Proofs.YtfkmbdfajpdjjaaDoor

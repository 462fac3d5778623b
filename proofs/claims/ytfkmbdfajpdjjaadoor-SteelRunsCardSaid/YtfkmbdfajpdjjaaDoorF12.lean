/- Contracts of functions, written by wip/dec. -/
import Derived.Test.YtfkmbdfajpdjjaaDoorF00
set_option linter.unusedVariables false
set_option linter.unusedSimpArgs false
set_option maxHeartbeats 4000000
set_option maxRecDepth 20000
namespace Go.Proofs.YtfkmbdfajpdjjaaDoor
open Go.Abs
/- martensite/martensiteref04.HeatAt -/
def b33_1 (a0_0 : List (Int × Int × Int × Int)) (a1 : Int) : (Int × Int) → Ctl (Int × Int) (Int) := fun s1 =>
  if (decide (s1.2 < (a0_0.length : Int))) = true then
   if 0 ≤ s1.2 ∧ s1.2 < (a0_0.length : Int) then
    if (decide (((a0_0.getD s1.2.toNat default).1) ≤ a1)) = true then
     .next (s1.2, IntKind.i64.wrap (s1.2 + 1))
     else .next (s1.1, IntKind.i64.wrap (s1.2 + 1))
    else .out none
   else .out (some s1.1)
def r33 (a0_0 : List (Int × Int × Int × Int)) (a0_1 : List (Int × Int × Int × Int × Int)) (a0_2 : List (Int × Int × Int)) (a0_3 : List (Int × Int)) (a0_4 : Int) (a0_5 : Int) (a0_6 : Int) (a0_7 : Int) (a1 : Int) : Option (Int) :=
  iterC (b33_1 a0_0 a1) 1000000000 ((-1), 0)
def T33 : TSpec ((List (Int × Int × Int × Int)) × (List (Int × Int × Int × Int × Int)) × (List (Int × Int × Int)) × (List (Int × Int)) × Int × Int × Int × Int × Int) where
  enc := fun ⟨a0_0, a0_1, a0_2, a0_3, a0_4, a0_5, a0_6, a0_7, a1⟩ => [.agg [encF 4 d_IIII a0_0, encF 5 d_IIIII a0_1, encF 3 d_III a0_2, encF 2 d_II a0_3, .int .i64 a0_4, .int .i64 a0_5, .int .i64 a0_6, .int .i64 a0_7], .c (.int .i64 a1)]
  dec a := (decF g_IIII (aCell a 0 0), decF g_IIIII (aCell a 0 1), decF g_III (aCell a 0 2), decF g_II (aCell a 0 3), dInt (aCell a 0 4), dInt (aCell a 0 5), dInt (aCell a 0 6), dInt (aCell a 0 7), dInt (aCell a 1 0))
  pre := fun ⟨a0_0, a0_1, a0_2, a0_3, a0_4, a0_5, a0_6, a0_7, a1⟩ => (r33 a0_0 a0_1 a0_2 a0_3 a0_4 a0_5 a0_6 a0_7 a1).isSome = true
  res := fun ⟨a0_0, a0_1, a0_2, a0_3, a0_4, a0_5, a0_6, a0_7, a1⟩ => [.c (.d (.int .i64 ((r33 a0_0 a0_1 a0_2 a0_3 a0_4 a0_5 a0_6 a0_7 a1).getD default)))]
  al := false
theorem TP33 (c0 c1 c2 c3 c4 c5 c6 c7 c8 : D) : T33.sp.pre [.agg [c0, c1, c2, c3, c4, c5, c6, c7], .c c8] = (eqvArgs [.agg [c0, c1, c2, c3, c4, c5, c6, c7], .c c8] [.agg [encF 4 d_IIII (decF g_IIII c0), encF 5 d_IIIII (decF g_IIIII c1), encF 3 d_III (decF g_III c2), encF 2 d_II (decF g_II c3), .int .i64 (dInt c4), .int .i64 (dInt c5), .int .i64 (dInt c6), .int .i64 (dInt c7)], .c (.int .i64 (dInt c8))] ∧ (r33 (decF g_IIII c0) (decF g_IIIII c1) (decF g_III c2) (decF g_II c3) (dInt c4) (dInt c5) (dInt c6) (dInt c7) (dInt c8)).isSome = true) := (rfl)
theorem TR33 (c0 c1 c2 c3 c4 c5 c6 c7 c8 : D) : T33.sp.res [.agg [c0, c1, c2, c3, c4, c5, c6, c7], .c c8] = [.c (.d (.int .i64 ((r33 (decF g_IIII c0) (decF g_IIIII c1) (decF g_III c2) (decF g_II c3) (dInt c4) (dInt c5) (dInt c6) (dInt c7) (dInt c8)).getD default)))] := (rfl)
theorem TA33 : T33.sp.alias = false := (rfl)
def tb33 : Fns := lk []
theorem tb33_ok : FnsOk Tryd.prog tb33 := FnsOk.nil
attribute [go_sem] TP33 TR33 TA33
section
attribute [local go_sem] T33 Tryd.results33
theorem v33 : Valid Tryd.prog 33 T33.sp := by
  refine valid_t (fn := Tryd.f33) (n := 24) ty_ok tb33_ok Tryd.func33 rfl Tryd.ntmps33 ?_
  rintro ⟨a0_0, a0_1, a0_2, a0_3, a0_4, a0_5, a0_6, a0_7, a1⟩ hx
  obtain ⟨r, hr⟩ := Option.isSome_iff_exists.1 (show (r33 a0_0 a0_1 a0_2 a0_3 a0_4 a0_5 a0_6 a0_7 a1).isSome = true from hx)
  have hres : T33.res (a0_0, a0_1, a0_2, a0_3, a0_4, a0_5, a0_6, a0_7, a1) = [.c (.d (.int .i64 r))] := by simp only [T33, hr, Option.getD_some]
  refine ⟨Nat.le_of_ble_eq_true rfl, fun stop S => ?_⟩
  rw [hres] at S
  unfold r33 at hr
  refine S.gx [] ?_
  repeat refine gA ?_
  refine S.sees [1, 2, 5, 6] [(2, 2)] [] ?_ (Stop.iter S (fun s1 => ⟨[(1, .c (.d (.int .i64 a1))), (2, .c (.ref 2 0)), (5, .c (.d (.int .i64 s1.1))), (6, .c (.d (.int .i64 s1.2)))], [(2, [.d (encF 4 d_IIII a0_0), .d (encF 5 d_IIIII a0_1), .d (encF 3 d_III a0_2), .d (encF 2 d_II a0_3), .d (.int .i64 a0_4), .d (.int .i64 a0_5), .d (.int .i64 a0_6), .d (.int .i64 a0_7)])], []⟩) (b33_1 a0_0 a1) (fun q => q = r) hr rfl ?_)
  · exact lf
  · intro s1 hr
    unfold b33_1 at hr
    refine S.gx [] ?_
    repeat refine gA ?_
    refine ⟨fun hc => ?_, fun hc => ?_⟩
    · replace hr := ifP1 hr hc
      obtain ⟨hg1, hr⟩ := of_guard1 hr
      repeat refine gA ?_
      refine ⟨fun hc => ?_, fun hc => ?_⟩
      · replace hr := ifP1 hr hc
        repeat refine gA ?_
        refine S.sees [1, 2, 5, 6] [(2, 2)] [] ?_ hr
        exact lf
      · replace hr := ifN1 hr hc
        repeat refine gA ?_
        refine S.sees [1, 2, 5, 6] [(2, 2)] [] ?_ hr
        exact lf
    · replace hr := ifN1 hr hc
      repeat refine gA ?_
      have hr := of_out0 hr
      repeat refine gA ?_
      obtain rfl := Option.some.inj hr
      exact lf
theorem f33 : FnFact Tryd.prog 33 T33.sp := ⟨⟨Tryd.f33, Tryd.func33, by decide, rfl⟩, v33⟩
end

/- martensite/martensiteref04.CoolAt -/
def b34_1 (a0_1 : List (Int × Int × Int × Int × Int)) (a1 : Int) : (Int) → Ctl (Int) (Int) := fun s1 =>
  if (decide (s1 < (a0_1.length : Int))) = true then
   if 0 ≤ s1 ∧ s1 < (a0_1.length : Int) then
    if (decide (((a0_1.getD s1.toNat default).1) ≥ a1)) = true then
     .out (some s1)
     else .next (IntKind.i64.wrap (s1 + 1))
    else .out none
   else .out (some (-1))
def r34 (a0_0 : List (Int × Int × Int × Int)) (a0_1 : List (Int × Int × Int × Int × Int)) (a0_2 : List (Int × Int × Int)) (a0_3 : List (Int × Int)) (a0_4 : Int) (a0_5 : Int) (a0_6 : Int) (a0_7 : Int) (a1 : Int) : Option (Int) :=
  iterC (b34_1 a0_1 a1) 1000000000 0
def T34 : TSpec ((List (Int × Int × Int × Int)) × (List (Int × Int × Int × Int × Int)) × (List (Int × Int × Int)) × (List (Int × Int)) × Int × Int × Int × Int × Int) where
  enc := fun ⟨a0_0, a0_1, a0_2, a0_3, a0_4, a0_5, a0_6, a0_7, a1⟩ => [.agg [encF 4 d_IIII a0_0, encF 5 d_IIIII a0_1, encF 3 d_III a0_2, encF 2 d_II a0_3, .int .i64 a0_4, .int .i64 a0_5, .int .i64 a0_6, .int .i64 a0_7], .c (.int .i64 a1)]
  dec a := (decF g_IIII (aCell a 0 0), decF g_IIIII (aCell a 0 1), decF g_III (aCell a 0 2), decF g_II (aCell a 0 3), dInt (aCell a 0 4), dInt (aCell a 0 5), dInt (aCell a 0 6), dInt (aCell a 0 7), dInt (aCell a 1 0))
  pre := fun ⟨a0_0, a0_1, a0_2, a0_3, a0_4, a0_5, a0_6, a0_7, a1⟩ => (r34 a0_0 a0_1 a0_2 a0_3 a0_4 a0_5 a0_6 a0_7 a1).isSome = true
  res := fun ⟨a0_0, a0_1, a0_2, a0_3, a0_4, a0_5, a0_6, a0_7, a1⟩ => [.c (.d (.int .i64 ((r34 a0_0 a0_1 a0_2 a0_3 a0_4 a0_5 a0_6 a0_7 a1).getD default)))]
  al := false
theorem TP34 (c0 c1 c2 c3 c4 c5 c6 c7 c8 : D) : T34.sp.pre [.agg [c0, c1, c2, c3, c4, c5, c6, c7], .c c8] = (eqvArgs [.agg [c0, c1, c2, c3, c4, c5, c6, c7], .c c8] [.agg [encF 4 d_IIII (decF g_IIII c0), encF 5 d_IIIII (decF g_IIIII c1), encF 3 d_III (decF g_III c2), encF 2 d_II (decF g_II c3), .int .i64 (dInt c4), .int .i64 (dInt c5), .int .i64 (dInt c6), .int .i64 (dInt c7)], .c (.int .i64 (dInt c8))] ∧ (r34 (decF g_IIII c0) (decF g_IIIII c1) (decF g_III c2) (decF g_II c3) (dInt c4) (dInt c5) (dInt c6) (dInt c7) (dInt c8)).isSome = true) := (rfl)
theorem TR34 (c0 c1 c2 c3 c4 c5 c6 c7 c8 : D) : T34.sp.res [.agg [c0, c1, c2, c3, c4, c5, c6, c7], .c c8] = [.c (.d (.int .i64 ((r34 (decF g_IIII c0) (decF g_IIIII c1) (decF g_III c2) (decF g_II c3) (dInt c4) (dInt c5) (dInt c6) (dInt c7) (dInt c8)).getD default)))] := (rfl)
theorem TA34 : T34.sp.alias = false := (rfl)
def tb34 : Fns := lk []
theorem tb34_ok : FnsOk Tryd.prog tb34 := FnsOk.nil
attribute [go_sem] TP34 TR34 TA34
section
attribute [local go_sem] T34 Tryd.results34
theorem v34 : Valid Tryd.prog 34 T34.sp := by
  refine valid_t (fn := Tryd.f34) (n := 22) ty_ok tb34_ok Tryd.func34 rfl Tryd.ntmps34 ?_
  rintro ⟨a0_0, a0_1, a0_2, a0_3, a0_4, a0_5, a0_6, a0_7, a1⟩ hx
  obtain ⟨r, hr⟩ := Option.isSome_iff_exists.1 (show (r34 a0_0 a0_1 a0_2 a0_3 a0_4 a0_5 a0_6 a0_7 a1).isSome = true from hx)
  have hres : T34.res (a0_0, a0_1, a0_2, a0_3, a0_4, a0_5, a0_6, a0_7, a1) = [.c (.d (.int .i64 r))] := by simp only [T34, hr, Option.getD_some]
  refine ⟨Nat.le_of_ble_eq_true rfl, fun stop S => ?_⟩
  rw [hres] at S
  unfold r34 at hr
  refine S.gx [] ?_
  repeat refine gA ?_
  refine S.sees [1, 2, 5] [(2, 2)] [] ?_ (Stop.iter S (fun s1 => ⟨[(1, .c (.d (.int .i64 a1))), (2, .c (.ref 2 0)), (5, .c (.d (.int .i64 s1)))], [(2, [.d (encF 4 d_IIII a0_0), .d (encF 5 d_IIIII a0_1), .d (encF 3 d_III a0_2), .d (encF 2 d_II a0_3), .d (.int .i64 a0_4), .d (.int .i64 a0_5), .d (.int .i64 a0_6), .d (.int .i64 a0_7)])], []⟩) (b34_1 a0_1 a1) (fun q => q = r) hr rfl ?_)
  · exact lf
  · intro s1 hr
    unfold b34_1 at hr
    refine S.gx [] ?_
    repeat refine gA ?_
    refine ⟨fun hc => ?_, fun hc => ?_⟩
    · replace hr := ifP1 hr hc
      obtain ⟨hg1, hr⟩ := of_guard1 hr
      repeat refine gA ?_
      refine ⟨fun hc => ?_, fun hc => ?_⟩
      · replace hr := ifP1 hr hc
        repeat refine gA ?_
        have hr := of_out0 hr
        obtain rfl := Option.some.inj hr
        exact lf
      · replace hr := ifN1 hr hc
        repeat refine gA ?_
        refine S.sees [1, 2, 5] [(2, 2)] [] ?_ hr
        exact lf
    · replace hr := ifN1 hr hc
      repeat refine gA ?_
      have hr := of_out0 hr
      repeat refine gA ?_
      obtain rfl := Option.some.inj hr
      exact lf
theorem f34 : FnFact Tryd.prog 34 T34.sp := ⟨⟨Tryd.f34, Tryd.func34, by decide, rfl⟩, v34⟩
end

/- martensite/martensiteref04.ColdAt -/
def b35_1 (a0_2 : List (Int × Int × Int)) (a1 : Int) : (Int) → Ctl (Int) (Int) := fun s1 =>
  if (decide (s1 < (a0_2.length : Int))) = true then
   if 0 ≤ s1 ∧ s1 < (a0_2.length : Int) then
    if (decide (((a0_2.getD s1.toNat default).1) ≥ a1)) = true then
     .out (some s1)
     else .next (IntKind.i64.wrap (s1 + 1))
    else .out none
   else .out (some (-1))
def r35 (a0_0 : List (Int × Int × Int × Int)) (a0_1 : List (Int × Int × Int × Int × Int)) (a0_2 : List (Int × Int × Int)) (a0_3 : List (Int × Int)) (a0_4 : Int) (a0_5 : Int) (a0_6 : Int) (a0_7 : Int) (a1 : Int) : Option (Int) :=
  iterC (b35_1 a0_2 a1) 1000000000 0
def T35 : TSpec ((List (Int × Int × Int × Int)) × (List (Int × Int × Int × Int × Int)) × (List (Int × Int × Int)) × (List (Int × Int)) × Int × Int × Int × Int × Int) where
  enc := fun ⟨a0_0, a0_1, a0_2, a0_3, a0_4, a0_5, a0_6, a0_7, a1⟩ => [.agg [encF 4 d_IIII a0_0, encF 5 d_IIIII a0_1, encF 3 d_III a0_2, encF 2 d_II a0_3, .int .i64 a0_4, .int .i64 a0_5, .int .i64 a0_6, .int .i64 a0_7], .c (.int .i64 a1)]
  dec a := (decF g_IIII (aCell a 0 0), decF g_IIIII (aCell a 0 1), decF g_III (aCell a 0 2), decF g_II (aCell a 0 3), dInt (aCell a 0 4), dInt (aCell a 0 5), dInt (aCell a 0 6), dInt (aCell a 0 7), dInt (aCell a 1 0))
  pre := fun ⟨a0_0, a0_1, a0_2, a0_3, a0_4, a0_5, a0_6, a0_7, a1⟩ => (r35 a0_0 a0_1 a0_2 a0_3 a0_4 a0_5 a0_6 a0_7 a1).isSome = true
  res := fun ⟨a0_0, a0_1, a0_2, a0_3, a0_4, a0_5, a0_6, a0_7, a1⟩ => [.c (.d (.int .i64 ((r35 a0_0 a0_1 a0_2 a0_3 a0_4 a0_5 a0_6 a0_7 a1).getD default)))]
  al := false
theorem TP35 (c0 c1 c2 c3 c4 c5 c6 c7 c8 : D) : T35.sp.pre [.agg [c0, c1, c2, c3, c4, c5, c6, c7], .c c8] = (eqvArgs [.agg [c0, c1, c2, c3, c4, c5, c6, c7], .c c8] [.agg [encF 4 d_IIII (decF g_IIII c0), encF 5 d_IIIII (decF g_IIIII c1), encF 3 d_III (decF g_III c2), encF 2 d_II (decF g_II c3), .int .i64 (dInt c4), .int .i64 (dInt c5), .int .i64 (dInt c6), .int .i64 (dInt c7)], .c (.int .i64 (dInt c8))] ∧ (r35 (decF g_IIII c0) (decF g_IIIII c1) (decF g_III c2) (decF g_II c3) (dInt c4) (dInt c5) (dInt c6) (dInt c7) (dInt c8)).isSome = true) := (rfl)
theorem TR35 (c0 c1 c2 c3 c4 c5 c6 c7 c8 : D) : T35.sp.res [.agg [c0, c1, c2, c3, c4, c5, c6, c7], .c c8] = [.c (.d (.int .i64 ((r35 (decF g_IIII c0) (decF g_IIIII c1) (decF g_III c2) (decF g_II c3) (dInt c4) (dInt c5) (dInt c6) (dInt c7) (dInt c8)).getD default)))] := (rfl)
theorem TA35 : T35.sp.alias = false := (rfl)
def tb35 : Fns := lk []
theorem tb35_ok : FnsOk Tryd.prog tb35 := FnsOk.nil
attribute [go_sem] TP35 TR35 TA35
section
attribute [local go_sem] T35 Tryd.results35
theorem v35 : Valid Tryd.prog 35 T35.sp := by
  refine valid_t (fn := Tryd.f35) (n := 22) ty_ok tb35_ok Tryd.func35 rfl Tryd.ntmps35 ?_
  rintro ⟨a0_0, a0_1, a0_2, a0_3, a0_4, a0_5, a0_6, a0_7, a1⟩ hx
  obtain ⟨r, hr⟩ := Option.isSome_iff_exists.1 (show (r35 a0_0 a0_1 a0_2 a0_3 a0_4 a0_5 a0_6 a0_7 a1).isSome = true from hx)
  have hres : T35.res (a0_0, a0_1, a0_2, a0_3, a0_4, a0_5, a0_6, a0_7, a1) = [.c (.d (.int .i64 r))] := by simp only [T35, hr, Option.getD_some]
  refine ⟨Nat.le_of_ble_eq_true rfl, fun stop S => ?_⟩
  rw [hres] at S
  unfold r35 at hr
  refine S.gx [] ?_
  repeat refine gA ?_
  refine S.sees [1, 2, 5] [(2, 2)] [] ?_ (Stop.iter S (fun s1 => ⟨[(1, .c (.d (.int .i64 a1))), (2, .c (.ref 2 0)), (5, .c (.d (.int .i64 s1)))], [(2, [.d (encF 4 d_IIII a0_0), .d (encF 5 d_IIIII a0_1), .d (encF 3 d_III a0_2), .d (encF 2 d_II a0_3), .d (.int .i64 a0_4), .d (.int .i64 a0_5), .d (.int .i64 a0_6), .d (.int .i64 a0_7)])], []⟩) (b35_1 a0_2 a1) (fun q => q = r) hr rfl ?_)
  · exact lf
  · intro s1 hr
    unfold b35_1 at hr
    refine S.gx [] ?_
    repeat refine gA ?_
    refine ⟨fun hc => ?_, fun hc => ?_⟩
    · replace hr := ifP1 hr hc
      obtain ⟨hg1, hr⟩ := of_guard1 hr
      repeat refine gA ?_
      refine ⟨fun hc => ?_, fun hc => ?_⟩
      · replace hr := ifP1 hr hc
        repeat refine gA ?_
        have hr := of_out0 hr
        obtain rfl := Option.some.inj hr
        exact lf
      · replace hr := ifN1 hr hc
        repeat refine gA ?_
        refine S.sees [1, 2, 5] [(2, 2)] [] ?_ hr
        exact lf
    · replace hr := ifN1 hr hc
      repeat refine gA ?_
      have hr := of_out0 hr
      repeat refine gA ?_
      obtain rfl := Option.some.inj hr
      exact lf
theorem f35 : FnFact Tryd.prog 35 T35.sp := ⟨⟨Tryd.f35, Tryd.func35, by decide, rfl⟩, v35⟩
end
end Go.Proofs.YtfkmbdfajpdjjaaDoor

/- Contracts of functions, written by wip/dec. -/
import Derived.Test.YtfkmbdfajpdjjaaDoorF00
import Derived.Test.YtfkmbdfajpdjjaaDoorF06
set_option linter.unusedVariables false
set_option linter.unusedSimpArgs false
set_option maxHeartbeats 4000000
set_option maxRecDepth 20000
namespace Go.Proofs.YtfkmbdfajpdjjaaDoor
open Go.Abs
/- martensite/martensiteref04.RulesErr -/
def r21 (a0_0 : List (Int × Int × Int × Int)) (a0_1 : List (Int × Int × Int × Int × Int)) (a0_2 : List (Int × Int × Int)) (a0_3 : List (Int × Int)) (a0_4 : Int) (a0_5 : Int) (a0_6 : Int) (a0_7 : Int) : Option (Int) :=
  (r16 a0_0 a0_1 a0_2 a0_3 a0_4 a0_5 a0_6 a0_7).bind fun v1 =>
   some v1.2
def w21 (a0_0 : List (Int × Int × Int × Int)) (a0_1 : List (Int × Int × Int × Int × Int)) (a0_2 : List (Int × Int × Int)) (a0_3 : List (Int × Int)) (a0_4 : Int) (a0_5 : Int) (a0_6 : Int) (a0_7 : Int) : List Arg := [.agg [encF 4 d_IIII a0_0, encF 5 d_IIIII a0_1, encF 3 d_III a0_2, encF 2 d_II a0_3, .int .i64 a0_4, .int .i64 a0_5, .int .i64 a0_6, .int .i64 a0_7]]
def u21 (v : Int) : List RV := [.c (.d (.int .i64 v))]
def T21 : TSpec ((List (Int × Int × Int × Int)) × (List (Int × Int × Int × Int × Int)) × (List (Int × Int × Int)) × (List (Int × Int)) × Int × Int × Int × Int) where
  enc := fun ⟨a0_0, a0_1, a0_2, a0_3, a0_4, a0_5, a0_6, a0_7⟩ => w21 a0_0 a0_1 a0_2 a0_3 a0_4 a0_5 a0_6 a0_7
  dec a := (decF g_IIII (aCell a 0 0), decF g_IIIII (aCell a 0 1), decF g_III (aCell a 0 2), decF g_II (aCell a 0 3), dInt (aCell a 0 4), dInt (aCell a 0 5), dInt (aCell a 0 6), dInt (aCell a 0 7))
  pre := fun ⟨a0_0, a0_1, a0_2, a0_3, a0_4, a0_5, a0_6, a0_7⟩ => (r21 a0_0 a0_1 a0_2 a0_3 a0_4 a0_5 a0_6 a0_7).isSome = true
  res := fun ⟨a0_0, a0_1, a0_2, a0_3, a0_4, a0_5, a0_6, a0_7⟩ => u21 ((r21 a0_0 a0_1 a0_2 a0_3 a0_4 a0_5 a0_6 a0_7).getD default)
  al := false
theorem TP21 (c0 c1 c2 c3 c4 c5 c6 c7 : D) : T21.sp.pre [.agg [c0, c1, c2, c3, c4, c5, c6, c7]] = (eqvArgs [.agg [c0, c1, c2, c3, c4, c5, c6, c7]] (w21 (decF g_IIII c0) (decF g_IIIII c1) (decF g_III c2) (decF g_II c3) (dInt c4) (dInt c5) (dInt c6) (dInt c7)) ∧ (r21 (decF g_IIII c0) (decF g_IIIII c1) (decF g_III c2) (decF g_II c3) (dInt c4) (dInt c5) (dInt c6) (dInt c7)).isSome = true) := (rfl)
theorem TR21 (c0 c1 c2 c3 c4 c5 c6 c7 : D) : T21.sp.res [.agg [c0, c1, c2, c3, c4, c5, c6, c7]] = u21 ((r21 (decF g_IIII c0) (decF g_IIIII c1) (decF g_III c2) (decF g_II c3) (dInt c4) (dInt c5) (dInt c6) (dInt c7)).getD default) := (rfl)
theorem TA21 : T21.sp.alias = false := (rfl)
def tb21 : Fns := lk [(16, T16.sp)]
theorem tb21_ok : FnsOk Tryd.prog tb21 := .cons f16 (FnsOk.nil)
theorem tb21_16 : tb21 16 = some T16.sp := rfl
attribute [go_sem] TP21 TR21 TA21 w21 u21
section
attribute [local go_sem] T21 tb21_16 Tryd.results21
theorem v21 : Valid Tryd.prog 21 T21.sp := by
  refine valid_t (fn := Tryd.f21) (n := 11) ty_ok tb21_ok Tryd.func21 rfl Tryd.ntmps21 ?_
  rintro ⟨a0_0, a0_1, a0_2, a0_3, a0_4, a0_5, a0_6, a0_7⟩ hx
  obtain ⟨r, hr⟩ := Option.isSome_iff_exists.1 (show (r21 a0_0 a0_1 a0_2 a0_3 a0_4 a0_5 a0_6 a0_7).isSome = true from hx)
  have hres : T21.res (a0_0, a0_1, a0_2, a0_3, a0_4, a0_5, a0_6, a0_7) = u21 r := by simp only [T21, hr, Option.getD_some]
  refine ⟨Nat.le_of_ble_eq_true rfl, fun stop S => ?_⟩
  rw [hres] at S
  unfold r21 at hr
  refine S.gx [] ?_
  obtain ⟨v1, hv1, hr⟩ := of_bind0 hr
  try simp only [hv1, Option.getD_some, Option.isSome_some, true_and, and_assoc]
  repeat refine gA ?_
  obtain rfl := Option.some.inj hr
  exact lf
theorem f21 : FnFact Tryd.prog 21 T21.sp := ⟨⟨Tryd.f21, Tryd.func21, by decide, rfl⟩, v21⟩
end

/- martensite/martensiteref04.KelvinErr -/
def r32 (a0 : Int) : Option (Int) :=
  (r87 a0).bind fun v1 =>
   if (!v1) = true then
    some 2
    else some 0
def w32 (x : Int) : List Arg := [.c (.int .i64 x)]
def u32 (v : Int) : List RV := [.c (.d (.int .i64 v))]
def T32 : TSpec (Int) where
  enc := fun x => w32 x
  dec a := dInt (aCell a 0 0)
  pre := fun x => (r32 x).isSome = true
  res := fun x => u32 ((r32 x).getD default)
  al := false
theorem TP32 (c0 : D) : T32.sp.pre [.c c0] = (eqvArgs [.c c0] (w32 (dInt c0)) ∧ (r32 (dInt c0)).isSome = true) := (rfl)
theorem TR32 (c0 : D) : T32.sp.res [.c c0] = u32 ((r32 (dInt c0)).getD default) := (rfl)
theorem TA32 : T32.sp.alias = false := (rfl)
def tb32 : Fns := lk [(87, T87.sp)]
theorem tb32_ok : FnsOk Tryd.prog tb32 := .cons f87 (FnsOk.nil)
theorem tb32_87 : tb32 87 = some T87.sp := rfl
attribute [go_sem] TP32 TR32 TA32 w32 u32
section
attribute [local go_sem] T32 tb32_87 Tryd.results32
theorem v32 : Valid Tryd.prog 32 T32.sp := by
  refine valid_t (fn := Tryd.f32) (n := 6) ty_ok tb32_ok Tryd.func32 rfl Tryd.ntmps32 ?_
  rintro a0 hx
  obtain ⟨r, hr⟩ := Option.isSome_iff_exists.1 (show (r32 a0).isSome = true from hx)
  have hres : T32.res a0 = u32 r := by simp only [T32, hr, Option.getD_some]
  refine ⟨Nat.le_of_ble_eq_true rfl, fun stop S => ?_⟩
  rw [hres] at S
  unfold r32 at hr
  refine S.gx [] ?_
  obtain ⟨v1, hv1, hr⟩ := of_bind0 hr
  try simp only [hv1, Option.getD_some, Option.isSome_some, true_and, and_assoc]
  repeat refine gA ?_
  refine ⟨fun hc => ?_, fun hc => ?_⟩
  · replace hr := ifP hr hc
    repeat refine gA ?_
    obtain rfl := Option.some.inj hr
    exact lf
  · replace hr := ifN hr hc
    repeat refine gA ?_
    obtain rfl := Option.some.inj hr
    exact lf
theorem f32 : FnFact Tryd.prog 32 T32.sp := ⟨⟨Tryd.f32, Tryd.func32, by decide, rfl⟩, v32⟩
end

/- martensite/martensiteref04.CurveErr -/
def b22_1 (a0 : List (Int)) : (Int) → Ctl (Int) (Int) := fun s1 =>
  if (decide (s1 < (a0.length : Int))) = true then
   if 0 ≤ s1 ∧ s1 < (a0.length : Int) then
    bindC (r32 (a0.getD s1.toNat default)) fun v1 =>
     if (v1 != 0) = true then
      .out (some v1)
      else .next (IntKind.i64.wrap (s1 + 1))
    else .out none
   else .out (some 0)
def r22 (a0 : List (Int)) : Option (Int) :=
  if (decide ((a0.length : Int) > 200)) = true then
   some 8
   else iterC (b22_1 a0) 1000000000 0
def w22 (x : List (Int)) : List Arg := [.c (encF 1 d_I x)]
def u22 (v : Int) : List RV := [.c (.d (.int .i64 v))]
def T22 : TSpec ((List (Int))) where
  enc := fun x => w22 x
  dec a := decF g_I (aCell a 0 0)
  pre := fun x => (r22 x).isSome = true
  res := fun x => u22 ((r22 x).getD default)
  al := false
theorem TP22 (c0 : D) : T22.sp.pre [.c c0] = (eqvArgs [.c c0] (w22 (decF g_I c0)) ∧ (r22 (decF g_I c0)).isSome = true) := (rfl)
theorem TR22 (c0 : D) : T22.sp.res [.c c0] = u22 ((r22 (decF g_I c0)).getD default) := (rfl)
theorem TA22 : T22.sp.alias = false := (rfl)
def tb22 : Fns := lk [(32, T32.sp)]
theorem tb22_ok : FnsOk Tryd.prog tb22 := .cons f32 (FnsOk.nil)
theorem tb22_32 : tb22 32 = some T32.sp := rfl
attribute [go_sem] TP22 TR22 TA22 w22 u22
section
attribute [local go_sem] T22 tb22_32 Tryd.results22
theorem v22 : Valid Tryd.prog 22 T22.sp := by
  refine valid_t (fn := Tryd.f22) (n := 22) ty_ok tb22_ok Tryd.func22 rfl Tryd.ntmps22 ?_
  rintro a0 hx
  obtain ⟨r, hr⟩ := Option.isSome_iff_exists.1 (show (r22 a0).isSome = true from hx)
  have hres : T22.res a0 = u22 r := by simp only [T22, hr, Option.getD_some]
  refine ⟨Nat.le_of_ble_eq_true rfl, fun stop S => ?_⟩
  rw [hres] at S
  unfold r22 at hr
  refine S.gx [] ?_
  repeat refine gA ?_
  refine ⟨fun hc => ?_, fun hc => ?_⟩
  · replace hr := ifP hr hc
    repeat refine gA ?_
    obtain rfl := Option.some.inj hr
    exact lf
  · replace hr := ifN hr hc
    repeat refine gA ?_
    refine S.sees [0, 3] [] [] ?_ (Stop.iter S (fun s1 => ⟨[(0, .c (.d (encF 1 d_I a0))), (3, .c (.d (.int .i64 s1)))], [], []⟩) (b22_1 a0) (fun q => q = r) hr rfl ?_)
    · exact lf
    · intro s1 hr
      unfold b22_1 at hr
      refine S.gx [] ?_
      repeat refine gA ?_
      refine ⟨fun hc => ?_, fun hc => ?_⟩
      · replace hr := ifP1 hr hc
        obtain ⟨hg2, hr⟩ := of_guard1 hr
        obtain ⟨v1, hv1, hr⟩ := of_bind1 hr
        try simp only [hv1, Option.getD_some, Option.isSome_some, true_and, and_assoc]
        repeat refine gA ?_
        refine ⟨fun hc => ?_, fun hc => ?_⟩
        · replace hr := ifP1 hr hc
          repeat refine gA ?_
          have hr := of_out0 hr
          obtain rfl := Option.some.inj hr
          exact lf
        · replace hr := ifN1 hr hc
          repeat refine gA ?_
          refine S.sees [0, 3] [] [] ?_ hr
          exact lf
      · replace hr := ifN1 hr hc
        repeat refine gA ?_
        have hr := of_out0 hr
        repeat refine gA ?_
        obtain rfl := Option.some.inj hr
        exact lf
theorem f22 : FnFact Tryd.prog 22 T22.sp := ⟨⟨Tryd.f22, Tryd.func22, by decide, rfl⟩, v22⟩
end

/- martensite/martensitebase.CopyInts -/
def r24 (a0 : List (Int)) : Option ((List (Int))) :=
  if (0 + a0.length) * 8 ≤ 140737488355328 ∧ 0 + a0.length ≤ 9223372036854775807 then
   some a0
   else none
def w24 (x : List (Int)) : List Arg := [.c (encF 1 d_I x)]
def u24 (v : (List (Int))) : List RV := [.c (.own (encF 1 d_I v))]
def T24 : TSpec ((List (Int))) where
  enc := fun x => w24 x
  dec a := decF g_I (aCell a 0 0)
  pre := fun x => (r24 x).isSome = true
  res := fun x => u24 ((r24 x).getD default)
  al := false
theorem TP24 (c0 : D) : T24.sp.pre [.c c0] = (eqvArgs [.c c0] (w24 (decF g_I c0)) ∧ (r24 (decF g_I c0)).isSome = true) := (rfl)
theorem TR24 (c0 : D) : T24.sp.res [.c c0] = u24 ((r24 (decF g_I c0)).getD default) := (rfl)
theorem TA24 : T24.sp.alias = false := (rfl)
def tb24 : Fns := lk []
theorem tb24_ok : FnsOk Tryd.prog tb24 := FnsOk.nil
attribute [go_sem] TP24 TR24 TA24 w24 u24
section
attribute [local go_sem] T24 Tryd.results24
theorem v24 : Valid Tryd.prog 24 T24.sp := by
  refine valid_t (fn := Tryd.f24) (n := 6) ty_ok tb24_ok Tryd.func24 rfl Tryd.ntmps24 ?_
  rintro a0 hx
  obtain ⟨r, hr⟩ := Option.isSome_iff_exists.1 (show (r24 a0).isSome = true from hx)
  have hres : T24.res a0 = u24 r := by simp only [T24, hr, Option.getD_some]
  refine ⟨Nat.le_of_ble_eq_true rfl, fun stop S => ?_⟩
  rw [hres] at S
  unfold r24 at hr
  refine S.gx [] ?_
  obtain ⟨hg1, hr⟩ := of_guard0 hr
  repeat refine gA ?_
  obtain rfl := Option.some.inj hr
  exact lf
theorem f24 : FnFact Tryd.prog 24 T24.sp := ⟨⟨Tryd.f24, Tryd.func24, by decide, rfl⟩, v24⟩
end
end Go.Proofs.YtfkmbdfajpdjjaaDoor

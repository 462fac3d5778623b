/- Contracts of functions, written by wip/dec. -/
import Derived.Test.YtfkmbdfajpdjjaaDoorF00
set_option linter.unusedVariables false
set_option linter.unusedSimpArgs false
set_option maxHeartbeats 4000000
set_option maxRecDepth 20000
namespace Go.Proofs.YtfkmbdfajpdjjaaDoor
open Go.Abs
/- martensite/martensitelaw04.Few -/
def r13 (a0_0 : List (Int × Int × Int × Int)) (a0_1 : List (Int × Int × Int × Int × Int)) (a0_2 : List (Int × Int × Int)) (a0_3 : List (Int × Int)) (a0_4 : Int) (a0_5 : Int) (a0_6 : Int) (a0_7 : Int) : Option (Bool) :=
  some ((((decide ((a0_0.length : Int) ≤ 10)) && (decide ((a0_1.length : Int) ≤ 10))) && (decide ((a0_2.length : Int) ≤ 10))) && (decide ((a0_3.length : Int) ≤ 10)))
def w13 (a0_0 : List (Int × Int × Int × Int)) (a0_1 : List (Int × Int × Int × Int × Int)) (a0_2 : List (Int × Int × Int)) (a0_3 : List (Int × Int)) (a0_4 : Int) (a0_5 : Int) (a0_6 : Int) (a0_7 : Int) : List Arg := [.agg [encF 4 d_IIII a0_0, encF 5 d_IIIII a0_1, encF 3 d_III a0_2, encF 2 d_II a0_3, .int .i64 a0_4, .int .i64 a0_5, .int .i64 a0_6, .int .i64 a0_7]]
def u13 (v : Bool) : List RV := [.c (.d (.bool v))]
def T13 : TSpec ((List (Int × Int × Int × Int)) × (List (Int × Int × Int × Int × Int)) × (List (Int × Int × Int)) × (List (Int × Int)) × Int × Int × Int × Int) where
  enc := fun ⟨a0_0, a0_1, a0_2, a0_3, a0_4, a0_5, a0_6, a0_7⟩ => w13 a0_0 a0_1 a0_2 a0_3 a0_4 a0_5 a0_6 a0_7
  dec a := (decF g_IIII (aCell a 0 0), decF g_IIIII (aCell a 0 1), decF g_III (aCell a 0 2), decF g_II (aCell a 0 3), dInt (aCell a 0 4), dInt (aCell a 0 5), dInt (aCell a 0 6), dInt (aCell a 0 7))
  pre := fun ⟨a0_0, a0_1, a0_2, a0_3, a0_4, a0_5, a0_6, a0_7⟩ => (r13 a0_0 a0_1 a0_2 a0_3 a0_4 a0_5 a0_6 a0_7).isSome = true
  res := fun ⟨a0_0, a0_1, a0_2, a0_3, a0_4, a0_5, a0_6, a0_7⟩ => u13 ((r13 a0_0 a0_1 a0_2 a0_3 a0_4 a0_5 a0_6 a0_7).getD default)
  al := false
theorem TP13 (c0 c1 c2 c3 c4 c5 c6 c7 : D) : T13.sp.pre [.agg [c0, c1, c2, c3, c4, c5, c6, c7]] = (eqvArgs [.agg [c0, c1, c2, c3, c4, c5, c6, c7]] (w13 (decF g_IIII c0) (decF g_IIIII c1) (decF g_III c2) (decF g_II c3) (dInt c4) (dInt c5) (dInt c6) (dInt c7)) ∧ (r13 (decF g_IIII c0) (decF g_IIIII c1) (decF g_III c2) (decF g_II c3) (dInt c4) (dInt c5) (dInt c6) (dInt c7)).isSome = true) := (rfl)
theorem TR13 (c0 c1 c2 c3 c4 c5 c6 c7 : D) : T13.sp.res [.agg [c0, c1, c2, c3, c4, c5, c6, c7]] = u13 ((r13 (decF g_IIII c0) (decF g_IIIII c1) (decF g_III c2) (decF g_II c3) (dInt c4) (dInt c5) (dInt c6) (dInt c7)).getD default) := (rfl)
theorem TA13 : T13.sp.alias = false := (rfl)
def tb13 : Fns := lk []
theorem tb13_ok : FnsOk Tryd.prog tb13 := FnsOk.nil
attribute [go_sem] TP13 TR13 TA13 w13 u13
section
attribute [local go_sem] T13 Tryd.results13
theorem v13 : Valid Tryd.prog 13 T13.sp := by
  refine valid_t (fn := Tryd.f13) (n := 25) ty_ok tb13_ok Tryd.func13 rfl Tryd.ntmps13 ?_
  rintro ⟨a0_0, a0_1, a0_2, a0_3, a0_4, a0_5, a0_6, a0_7⟩ hx
  obtain ⟨r, hr⟩ := Option.isSome_iff_exists.1 (show (r13 a0_0 a0_1 a0_2 a0_3 a0_4 a0_5 a0_6 a0_7).isSome = true from hx)
  have hres : T13.res (a0_0, a0_1, a0_2, a0_3, a0_4, a0_5, a0_6, a0_7) = u13 r := by simp only [T13, hr, Option.getD_some]
  refine ⟨Nat.le_of_ble_eq_true rfl, fun stop S => ?_⟩
  rw [hres] at S
  unfold r13 at hr
  refine S.gx [] ?_
  repeat (first | refine gA ?_ | refine gB ?_)
  obtain rfl := Option.some.inj hr
  exact lf
theorem f13 : FnFact Tryd.prog 13 T13.sp := ⟨⟨Tryd.f13, Tryd.func13, by decide, rfl⟩, v13⟩
end

/- martensite/martensiteref04.CopyRules -/
def r15 (a0_0 : List (Int × Int × Int × Int)) (a0_1 : List (Int × Int × Int × Int × Int)) (a0_2 : List (Int × Int × Int)) (a0_3 : List (Int × Int)) (a0_4 : Int) (a0_5 : Int) (a0_6 : Int) (a0_7 : Int) : Option ((List (Int × Int × Int × Int)) × (List (Int × Int × Int × Int × Int)) × (List (Int × Int × Int)) × (List (Int × Int)) × Int × Int × Int × Int) :=
  if (0 + a0_0.length) * 32 ≤ 140737488355328 ∧ 0 + a0_0.length ≤ 9223372036854775807 then
   if (0 + a0_1.length) * 40 ≤ 140737488355328 ∧ 0 + a0_1.length ≤ 9223372036854775807 then
    if (0 + a0_2.length) * 24 ≤ 140737488355328 ∧ 0 + a0_2.length ≤ 9223372036854775807 then
     if (0 + a0_3.length) * 16 ≤ 140737488355328 ∧ 0 + a0_3.length ≤ 9223372036854775807 then
      some (a0_0, a0_1, a0_2, a0_3, a0_4, a0_5, a0_6, a0_7)
      else none
     else none
    else none
   else none
def w15 (a0_0 : List (Int × Int × Int × Int)) (a0_1 : List (Int × Int × Int × Int × Int)) (a0_2 : List (Int × Int × Int)) (a0_3 : List (Int × Int)) (a0_4 : Int) (a0_5 : Int) (a0_6 : Int) (a0_7 : Int) : List Arg := [.agg [encF 4 d_IIII a0_0, encF 5 d_IIIII a0_1, encF 3 d_III a0_2, encF 2 d_II a0_3, .int .i64 a0_4, .int .i64 a0_5, .int .i64 a0_6, .int .i64 a0_7]]
def u15 (v : (List (Int × Int × Int × Int)) × (List (Int × Int × Int × Int × Int)) × (List (Int × Int × Int)) × (List (Int × Int)) × Int × Int × Int × Int) : List RV := [.agg [.own (encF 4 d_IIII v.1), .own (encF 5 d_IIIII v.2.1), .own (encF 3 d_III v.2.2.1), .own (encF 2 d_II v.2.2.2.1), .d (.int .i64 v.2.2.2.2.1), .d (.int .i64 v.2.2.2.2.2.1), .d (.int .i64 v.2.2.2.2.2.2.1), .d (.int .i64 v.2.2.2.2.2.2.2)]]
def T15 : TSpec ((List (Int × Int × Int × Int)) × (List (Int × Int × Int × Int × Int)) × (List (Int × Int × Int)) × (List (Int × Int)) × Int × Int × Int × Int) where
  enc := fun ⟨a0_0, a0_1, a0_2, a0_3, a0_4, a0_5, a0_6, a0_7⟩ => w15 a0_0 a0_1 a0_2 a0_3 a0_4 a0_5 a0_6 a0_7
  dec a := (decF g_IIII (aCell a 0 0), decF g_IIIII (aCell a 0 1), decF g_III (aCell a 0 2), decF g_II (aCell a 0 3), dInt (aCell a 0 4), dInt (aCell a 0 5), dInt (aCell a 0 6), dInt (aCell a 0 7))
  pre := fun ⟨a0_0, a0_1, a0_2, a0_3, a0_4, a0_5, a0_6, a0_7⟩ => (r15 a0_0 a0_1 a0_2 a0_3 a0_4 a0_5 a0_6 a0_7).isSome = true
  res := fun ⟨a0_0, a0_1, a0_2, a0_3, a0_4, a0_5, a0_6, a0_7⟩ => u15 ((r15 a0_0 a0_1 a0_2 a0_3 a0_4 a0_5 a0_6 a0_7).getD default)
  al := false
theorem TP15 (c0 c1 c2 c3 c4 c5 c6 c7 : D) : T15.sp.pre [.agg [c0, c1, c2, c3, c4, c5, c6, c7]] = (eqvArgs [.agg [c0, c1, c2, c3, c4, c5, c6, c7]] (w15 (decF g_IIII c0) (decF g_IIIII c1) (decF g_III c2) (decF g_II c3) (dInt c4) (dInt c5) (dInt c6) (dInt c7)) ∧ (r15 (decF g_IIII c0) (decF g_IIIII c1) (decF g_III c2) (decF g_II c3) (dInt c4) (dInt c5) (dInt c6) (dInt c7)).isSome = true) := (rfl)
theorem TR15 (c0 c1 c2 c3 c4 c5 c6 c7 : D) : T15.sp.res [.agg [c0, c1, c2, c3, c4, c5, c6, c7]] = u15 ((r15 (decF g_IIII c0) (decF g_IIIII c1) (decF g_III c2) (decF g_II c3) (dInt c4) (dInt c5) (dInt c6) (dInt c7)).getD default) := (rfl)
theorem TA15 : T15.sp.alias = false := (rfl)
def tb15 : Fns := lk []
theorem tb15_ok : FnsOk Tryd.prog tb15 := FnsOk.nil
attribute [go_sem] TP15 TR15 TA15 w15 u15
section
attribute [local go_sem] T15 Tryd.results15
theorem v15 : Valid Tryd.prog 15 T15.sp := by
  refine valid_t (fn := Tryd.f15) (n := 24) ty_ok tb15_ok Tryd.func15 rfl Tryd.ntmps15 ?_
  rintro ⟨a0_0, a0_1, a0_2, a0_3, a0_4, a0_5, a0_6, a0_7⟩ hx
  obtain ⟨r, hr⟩ := Option.isSome_iff_exists.1 (show (r15 a0_0 a0_1 a0_2 a0_3 a0_4 a0_5 a0_6 a0_7).isSome = true from hx)
  have hres : T15.res (a0_0, a0_1, a0_2, a0_3, a0_4, a0_5, a0_6, a0_7) = u15 r := by simp only [T15, hr, Option.getD_some]
  refine ⟨Nat.le_of_ble_eq_true rfl, fun stop S => ?_⟩
  rw [hres] at S
  unfold r15 at hr
  refine S.gx [] ?_
  obtain ⟨hg1, hr⟩ := of_guard0 hr
  obtain ⟨hg2, hr⟩ := of_guard0 hr
  obtain ⟨hg3, hr⟩ := of_guard0 hr
  obtain ⟨hg4, hr⟩ := of_guard0 hr
  repeat refine gA ?_
  obtain rfl := Option.some.inj hr
  exact lf
theorem f15 : FnFact Tryd.prog 15 T15.sp := ⟨⟨Tryd.f15, Tryd.func15, by decide, rfl⟩, v15⟩
end

/- martensite/martensitebase.Within -/
def r29 (a0 : Int) (a1 : Int) (a2 : Int) : Option (Bool) :=
  some ((decide (a1 ≤ a0)) && (decide (a0 ≤ a2)))
def w29 (a0 : Int) (a1 : Int) (a2 : Int) : List Arg := [.c (.int .i64 a0), .c (.int .i64 a1), .c (.int .i64 a2)]
def u29 (v : Bool) : List RV := [.c (.d (.bool v))]
def T29 : TSpec (Int × Int × Int) where
  enc := fun ⟨a0, a1, a2⟩ => w29 a0 a1 a2
  dec a := (dInt (aCell a 0 0), dInt (aCell a 1 0), dInt (aCell a 2 0))
  pre := fun ⟨a0, a1, a2⟩ => (r29 a0 a1 a2).isSome = true
  res := fun ⟨a0, a1, a2⟩ => u29 ((r29 a0 a1 a2).getD default)
  al := false
theorem TP29 (c0 c1 c2 : D) : T29.sp.pre [.c c0, .c c1, .c c2] = (eqvArgs [.c c0, .c c1, .c c2] (w29 (dInt c0) (dInt c1) (dInt c2)) ∧ (r29 (dInt c0) (dInt c1) (dInt c2)).isSome = true) := (rfl)
theorem TR29 (c0 c1 c2 : D) : T29.sp.res [.c c0, .c c1, .c c2] = u29 ((r29 (dInt c0) (dInt c1) (dInt c2)).getD default) := (rfl)
theorem TA29 : T29.sp.alias = false := (rfl)
def tb29 : Fns := lk []
theorem tb29_ok : FnsOk Tryd.prog tb29 := FnsOk.nil
attribute [go_sem] TP29 TR29 TA29 w29 u29
section
attribute [local go_sem] T29 Tryd.results29
theorem v29 : Valid Tryd.prog 29 T29.sp := by
  refine valid_t (fn := Tryd.f29) (n := 15) ty_ok tb29_ok Tryd.func29 rfl Tryd.ntmps29 ?_
  rintro ⟨a0, a1, a2⟩ hx
  obtain ⟨r, hr⟩ := Option.isSome_iff_exists.1 (show (r29 a0 a1 a2).isSome = true from hx)
  have hres : T29.res (a0, a1, a2) = u29 r := by simp only [T29, hr, Option.getD_some]
  refine ⟨Nat.le_of_ble_eq_true rfl, fun stop S => ?_⟩
  rw [hres] at S
  unfold r29 at hr
  refine S.gx [] ?_
  repeat (first | refine gA ?_ | refine gB ?_)
  obtain rfl := Option.some.inj hr
  exact lf
theorem f29 : FnFact Tryd.prog 29 T29.sp := ⟨⟨Tryd.f29, Tryd.func29, by decide, rfl⟩, v29⟩
end

/- martensite/martensiteref04.IsKelvin -/
def r87 (a0 : Int) : Option (Bool) :=
  (r29 a0 1 3000).bind fun v1 =>
   some v1
def w87 (x : Int) : List Arg := [.c (.int .i64 x)]
def u87 (v : Bool) : List RV := [.c (.d (.bool v))]
def T87 : TSpec (Int) where
  enc := fun x => w87 x
  dec a := dInt (aCell a 0 0)
  pre := fun x => (r87 x).isSome = true
  res := fun x => u87 ((r87 x).getD default)
  al := false
theorem TP87 (c0 : D) : T87.sp.pre [.c c0] = (eqvArgs [.c c0] (w87 (dInt c0)) ∧ (r87 (dInt c0)).isSome = true) := (rfl)
theorem TR87 (c0 : D) : T87.sp.res [.c c0] = u87 ((r87 (dInt c0)).getD default) := (rfl)
theorem TA87 : T87.sp.alias = false := (rfl)
def tb87 : Fns := lk [(29, T29.sp)]
theorem tb87_ok : FnsOk Tryd.prog tb87 := .cons f29 (FnsOk.nil)
theorem tb87_29 : tb87 29 = some T29.sp := rfl
attribute [go_sem] TP87 TR87 TA87 w87 u87
section
attribute [local go_sem] T87 tb87_29 Tryd.results87
theorem v87 : Valid Tryd.prog 87 T87.sp := by
  refine valid_t (fn := Tryd.f87) (n := 5) ty_ok tb87_ok Tryd.func87 rfl Tryd.ntmps87 ?_
  rintro a0 hx
  obtain ⟨r, hr⟩ := Option.isSome_iff_exists.1 (show (r87 a0).isSome = true from hx)
  have hres : T87.res a0 = u87 r := by simp only [T87, hr, Option.getD_some]
  refine ⟨Nat.le_of_ble_eq_true rfl, fun stop S => ?_⟩
  rw [hres] at S
  unfold r87 at hr
  refine S.gx [] ?_
  obtain ⟨v1, hv1, hr⟩ := of_bind0 hr
  try simp only [hv1, Option.getD_some, Option.isSome_some, true_and, and_assoc]
  repeat refine gA ?_
  obtain rfl := Option.some.inj hr
  exact lf
theorem f87 : FnFact Tryd.prog 87 T87.sp := ⟨⟨Tryd.f87, Tryd.func87, by decide, rfl⟩, v87⟩
end

/- martensite/martensiteref04.part -/
def r112 (a0_0 : Int) (a0_1 : Int) : Option (Bool) :=
  (r29 a0_0 0 1000000).bind fun v1 =>
   if v1 = true → (r29 a0_1 0 1000000).isSome = true then
    some (v1 && ((r29 a0_1 0 1000000).getD default))
    else none
def w112 (a0_0 : Int) (a0_1 : Int) : List Arg := [.agg [.int .i64 a0_0, .int .i64 a0_1]]
def u112 (v : Bool) : List RV := [.c (.d (.bool v))]
def T112 : TSpec (Int × Int) where
  enc := fun ⟨a0_0, a0_1⟩ => w112 a0_0 a0_1
  dec a := (dInt (aCell a 0 0), dInt (aCell a 0 1))
  pre := fun ⟨a0_0, a0_1⟩ => (r112 a0_0 a0_1).isSome = true
  res := fun ⟨a0_0, a0_1⟩ => u112 ((r112 a0_0 a0_1).getD default)
  al := false
theorem TP112 (c0 c1 : D) : T112.sp.pre [.agg [c0, c1]] = (eqvArgs [.agg [c0, c1]] (w112 (dInt c0) (dInt c1)) ∧ (r112 (dInt c0) (dInt c1)).isSome = true) := (rfl)
theorem TR112 (c0 c1 : D) : T112.sp.res [.agg [c0, c1]] = u112 ((r112 (dInt c0) (dInt c1)).getD default) := (rfl)
theorem TA112 : T112.sp.alias = false := (rfl)
def tb112 : Fns := lk [(29, T29.sp)]
theorem tb112_ok : FnsOk Tryd.prog tb112 := .cons f29 (FnsOk.nil)
theorem tb112_29 : tb112 29 = some T29.sp := rfl
attribute [go_sem] TP112 TR112 TA112 w112 u112
section
attribute [local go_sem] T112 tb112_29 Tryd.results112
theorem v112 : Valid Tryd.prog 112 T112.sp := by
  refine valid_t (fn := Tryd.f112) (n := 11) ty_ok tb112_ok Tryd.func112 rfl Tryd.ntmps112 ?_
  rintro ⟨a0_0, a0_1⟩ hx
  obtain ⟨r, hr⟩ := Option.isSome_iff_exists.1 (show (r112 a0_0 a0_1).isSome = true from hx)
  have hres : T112.res (a0_0, a0_1) = u112 r := by simp only [T112, hr, Option.getD_some]
  refine ⟨Nat.le_of_ble_eq_true rfl, fun stop S => ?_⟩
  rw [hres] at S
  unfold r112 at hr
  refine S.gx [] ?_
  obtain ⟨v1, hv1, hr⟩ := of_bind0 hr
  obtain ⟨hg2, hr⟩ := of_guard0 hr
  try simp only [hv1, Option.getD_some, Option.isSome_some, true_and, and_assoc]
  repeat (first | refine gG hg2 ?_ | refine gA ?_ | refine gB ?_)
  obtain rfl := Option.some.inj hr
  exact lf
theorem f112 : FnFact Tryd.prog 112 T112.sp := ⟨⟨Tryd.f112, Tryd.func112, by decide, rfl⟩, v112⟩
end

/- martensite/martensiteref04.knot -/
def b70_2 (a0 : Int) (a1 : Int) (a2 : List (Int × Int)) (a4 : Bool) : (Int) → Ctl (Int) (Int) := fun s2 =>
  if (decide (s2 < (a2.length : Int))) = true then
   if 0 ≤ s2 ∧ s2 < (a2.length : Int) then
    if 0 ≤ s2 ∧ s2 < (a2.length : Int) then
     if (decide (((a2.getD s2.toNat default).1) > ((a2.getD s2.toNat default).2))) = true then
      .out (some 3)
      else .next (IntKind.i64.wrap (s2 + 1))
     else .out none
    else .out none
   else .out (if ((decide (a0 ≤ a1)) || (!a4)) = true then
    some 9
    else some 0)
def b70_1 (a0 : Int) (a1 : Int) (a2 : List (Int × Int)) (a4 : Bool) : (Bool × Int) → Ctl (Bool × Int) (Int) := fun s1 =>
  if (decide (s1.2 < (a2.length : Int))) = true then
   if s1.1 = true → 0 ≤ s1.2 ∧ s1.2 < (a2.length : Int) then
    if s1.1 = true → (r112 ((a2.getD s1.2.toNat default).1) ((a2.getD s1.2.toNat default).2)).isSome = true then
     .next (s1.1 && ((r112 ((a2.getD s1.2.toNat default).1) ((a2.getD s1.2.toNat default).2)).getD default), IntKind.i64.wrap (s1.2 + 1))
     else .out none
    else .out none
   else .out (if (!s1.1) = true then
    some 2
    else iterC (b70_2 a0 a1 a2 a4) 1000000000 0)
def r70 (a0 : Int) (a1 : Int) (a2 : List (Int × Int)) (a3 : Int) (a4 : Bool) : Option (Int) :=
  (r87 a0).bind fun v1 =>
   if v1 = true → (r29 a3 0 1000000).isSome = true then
    iterC (b70_1 a0 a1 a2 a4) 1000000000 (v1 && ((r29 a3 0 1000000).getD default), 0)
    else none
def w70 (a0 : Int) (a1 : Int) (a2 : List (Int × Int)) (a3 : Int) (a4 : Bool) : List Arg := [.c (.int .i64 a0), .c (.int .i64 a1), .c (encF 2 d_II a2), .c (.int .i64 a3), .c (.bool a4)]
def u70 (v : Int) : List RV := [.c (.d (.int .i64 v))]
def T70 : TSpec (Int × Int × (List (Int × Int)) × Int × Bool) where
  enc := fun ⟨a0, a1, a2, a3, a4⟩ => w70 a0 a1 a2 a3 a4
  dec a := (dInt (aCell a 0 0), dInt (aCell a 1 0), decF g_II (aCell a 2 0), dInt (aCell a 3 0), dBool (aCell a 4 0))
  pre := fun ⟨a0, a1, a2, a3, a4⟩ => (r70 a0 a1 a2 a3 a4).isSome = true
  res := fun ⟨a0, a1, a2, a3, a4⟩ => u70 ((r70 a0 a1 a2 a3 a4).getD default)
  al := false
theorem TP70 (c0 c1 c2 c3 c4 : D) : T70.sp.pre [.c c0, .c c1, .c c2, .c c3, .c c4] = (eqvArgs [.c c0, .c c1, .c c2, .c c3, .c c4] (w70 (dInt c0) (dInt c1) (decF g_II c2) (dInt c3) (dBool c4)) ∧ (r70 (dInt c0) (dInt c1) (decF g_II c2) (dInt c3) (dBool c4)).isSome = true) := (rfl)
theorem TR70 (c0 c1 c2 c3 c4 : D) : T70.sp.res [.c c0, .c c1, .c c2, .c c3, .c c4] = u70 ((r70 (dInt c0) (dInt c1) (decF g_II c2) (dInt c3) (dBool c4)).getD default) := (rfl)
theorem TA70 : T70.sp.alias = false := (rfl)
def tb70 : Fns := lk [(29, T29.sp), (87, T87.sp), (112, T112.sp)]
theorem tb70_ok : FnsOk Tryd.prog tb70 := .cons f29 (.cons f87 (.cons f112 (FnsOk.nil)))
theorem tb70_29 : tb70 29 = some T29.sp := rfl
theorem tb70_87 : tb70 87 = some T87.sp := rfl
theorem tb70_112 : tb70 112 = some T112.sp := rfl
attribute [go_sem] TP70 TR70 TA70 w70 u70
section
attribute [local go_sem] T70 tb70_29 tb70_87 tb70_112 Tryd.results70
theorem v70 : Valid Tryd.prog 70 T70.sp := by
  refine valid_t (fn := Tryd.f70) (n := 60) ty_ok tb70_ok Tryd.func70 rfl Tryd.ntmps70 ?_
  rintro ⟨a0, a1, a2, a3, a4⟩ hx
  obtain ⟨r, hr⟩ := Option.isSome_iff_exists.1 (show (r70 a0 a1 a2 a3 a4).isSome = true from hx)
  have hres : T70.res (a0, a1, a2, a3, a4) = u70 r := by simp only [T70, hr, Option.getD_some]
  refine ⟨Nat.le_of_ble_eq_true rfl, fun stop S => ?_⟩
  rw [hres] at S
  unfold r70 at hr
  refine S.gx [] ?_
  obtain ⟨v1, hv1, hr⟩ := of_bind0 hr
  obtain ⟨hg6, hr⟩ := of_guard0 hr
  try simp only [hv1, Option.getD_some, Option.isSome_some, true_and, and_assoc]
  repeat (first | refine gG hg6 ?_ | refine gA ?_ | refine gB ?_)
  refine S.sees [0, 1, 2, 4, 11, 12] [] [] ?_ (Stop.iter S (fun s1 => ⟨[(0, .c (.d (.int .i64 a0))), (1, .c (.d (.int .i64 a1))), (2, .c (.d (encF 2 d_II a2))), (4, .c (.d (.bool a4))), (11, .c (.d (.bool s1.1))), (12, .c (.d (.int .i64 s1.2)))], [], []⟩) (b70_1 a0 a1 a2 a4) (fun q => q = r) hr rfl ?_)
  · exact lf
  · intro s1 hr
    unfold b70_1 at hr
    refine S.gx [] ?_
    repeat refine gA ?_
    refine ⟨fun hc => ?_, fun hc => ?_⟩
    · replace hr := ifP1 hr hc
      obtain ⟨hg2, hr⟩ := of_guard1 hr
      obtain ⟨hg3, hr⟩ := of_guard1 hr
      repeat (first | refine gG hg2 ?_ | refine gG hg3 ?_ | refine gA ?_ | refine gB ?_)
      refine S.sees [0, 1, 2, 4, 11, 12] [] [] ?_ hr
      exact lf
    · replace hr := ifN1 hr hc
      repeat refine gA ?_
      have hr := of_out0 hr
      repeat refine gA ?_
      refine ⟨fun hc => ?_, fun hc => ?_⟩
      · replace hr := ifP hr hc
        repeat refine gA ?_
        obtain rfl := Option.some.inj hr
        exact lf
      · replace hr := ifN hr hc
        repeat refine gA ?_
        refine S.sees [0, 1, 2, 4, 13] [] [] ?_ (Stop.iter S (fun s2 => ⟨[(0, .c (.d (.int .i64 a0))), (1, .c (.d (.int .i64 a1))), (2, .c (.d (encF 2 d_II a2))), (4, .c (.d (.bool a4))), (13, .c (.d (.int .i64 s2)))], [], []⟩) (b70_2 a0 a1 a2 a4) (fun q => q = r) hr rfl ?_)
        · exact lf
        · intro s2 hr
          unfold b70_2 at hr
          refine S.gx [] ?_
          repeat refine gA ?_
          refine ⟨fun hc => ?_, fun hc => ?_⟩
          · replace hr := ifP1 hr hc
            obtain ⟨hg4, hr⟩ := of_guard1 hr
            obtain ⟨hg5, hr⟩ := of_guard1 hr
            repeat refine gA ?_
            refine ⟨fun hc => ?_, fun hc => ?_⟩
            · replace hr := ifP1 hr hc
              repeat refine gA ?_
              have hr := of_out0 hr
              obtain rfl := Option.some.inj hr
              exact lf
            · replace hr := ifN1 hr hc
              repeat refine gA ?_
              refine S.sees [0, 1, 2, 4, 13] [] [] ?_ hr
              exact lf
          · replace hr := ifN1 hr hc
            repeat refine gA ?_
            have hr := of_out0 hr
            repeat (first | refine gA ?_ | refine gB ?_)
            refine ⟨fun hc => ?_, fun hc => ?_⟩
            · replace hr := ifP hr hc
              repeat refine gA ?_
              obtain rfl := Option.some.inj hr
              exact lf
            · replace hr := ifN hr hc
              repeat refine gA ?_
              obtain rfl := Option.some.inj hr
              exact lf
theorem f70 : FnFact Tryd.prog 70 T70.sp := ⟨⟨Tryd.f70, Tryd.func70, by decide, rfl⟩, v70⟩
end

/- martensite/martensiteref04.CheckRules -/
def b16_4 (a0_0 : List (Int × Int × Int × Int)) (a0_3 : List (Int × Int)) (a0_4 : Int) (a0_5 : Int) (a0_6 : Int) (a0_7 : Int) (s2 : Int × Int) (s3 : Int × Int) : (Int × Int) → Ctl (Int × Int) (Int × Int) := fun s4 =>
  if (decide (s4.2 < (a0_3.length : Int))) = true then
   if 0 ≤ s4.2 ∧ s4.2 < (a0_3.length : Int) then
    if 0 ≤ s4.2 ∧ s4.2 < (a0_3.length : Int) then
     bindC (r70 ((a0_3.getD s4.2.toNat default).1) s4.1 [] ((a0_3.getD s4.2.toNat default).2) true) fun v14 =>
      if (v14 != 0) = true then
       .out (some (s4.2, v14))
       else if 0 ≤ s4.2 ∧ s4.2 < (a0_3.length : Int) then
        .next ((a0_3.getD s4.2.toNat default).1, IntKind.i64.wrap (s4.2 + 1))
        else .out none
     else .out none
    else .out none
   else .out (if (decide ((a0_0.length : Int) > 0)) = true → 0 ≤ 0 ∧ 0 < (a0_0.length : Int) then
    if ((decide ((a0_0.length : Int) > 0)) && (decide ((if (if s2.1 < s3.1 then s3.1 else s2.1) < s4.1 then s4.1 else (if s2.1 < s3.1 then s3.1 else s2.1)) ≥ ((a0_0.getD 0 default).1)))) = true then
     some (0, 13)
     else (r29 a0_4 0 2000).bind fun v18 =>
      if (!v18) = true then
       some (0, 2)
       else (r29 a0_5 0 2000).bind fun v19 =>
        if (!v19) = true then
         some (0, 2)
         else (r29 a0_6 0 2000).bind fun v20 =>
          if (!v20) = true then
           some (0, 2)
           else (r29 a0_7 0 2000).bind fun v21 =>
            if (!v21) = true then
             some (0, 2)
             else if (decide (a0_5 < a0_4)) = true then
              some (0, 9)
              else if (decide (a0_6 < a0_5)) = true then
               some (0, 9)
               else if (decide (a0_7 < a0_6)) = true then
                some (0, 9)
                else some (0, 0)
    else none)
def b16_3 (a0_0 : List (Int × Int × Int × Int)) (a0_2 : List (Int × Int × Int)) (a0_3 : List (Int × Int)) (a0_4 : Int) (a0_5 : Int) (a0_6 : Int) (a0_7 : Int) (s2 : Int × Int) : (Int × Int) → Ctl (Int × Int) (Int × Int) := fun s3 =>
  if (decide (s3.2 < (a0_2.length : Int))) = true then
   if 0 ≤ s3.2 ∧ s3.2 < (a0_2.length : Int) then
    if (!(s3.2 == 0)) = true → 0 ≤ IntKind.i64.wrap (s3.2 - 1) ∧ IntKind.i64.wrap (s3.2 - 1) < (a0_2.length : Int) then
     if ((!(s3.2 == 0)) && (decide (((a0_2.getD s3.2.toNat default).2.1) ≤ ((a0_2.getD (IntKind.i64.wrap (s3.2 - 1)).toNat default).2.1)))) = true → 0 ≤ IntKind.i64.wrap (s3.2 - 1) ∧ IntKind.i64.wrap (s3.2 - 1) < (a0_2.length : Int) then
      bindC (r70 ((a0_2.getD s3.2.toNat default).1) s3.1 [((a0_2.getD s3.2.toNat default).2.1, (a0_2.getD s3.2.toNat default).2.2)] 0 ((s3.2 == 0) || ((decide (((a0_2.getD s3.2.toNat default).2.1) ≤ ((a0_2.getD (IntKind.i64.wrap (s3.2 - 1)).toNat default).2.1))) && (decide (((a0_2.getD s3.2.toNat default).2.2) ≤ ((a0_2.getD (IntKind.i64.wrap (s3.2 - 1)).toNat default).2.2)))))) fun v10 =>
       if (v10 != 0) = true then
        .out (some (s3.2, v10))
        else .next ((a0_2.getD s3.2.toNat default).1, IntKind.i64.wrap (s3.2 + 1))
      else .out none
     else .out none
    else .out none
   else .out (iterC (b16_4 a0_0 a0_3 a0_4 a0_5 a0_6 a0_7 s2 s3) 1000000000 ((-1), 0))
def b16_2 (a0_0 : List (Int × Int × Int × Int)) (a0_1 : List (Int × Int × Int × Int × Int)) (a0_2 : List (Int × Int × Int)) (a0_3 : List (Int × Int)) (a0_4 : Int) (a0_5 : Int) (a0_6 : Int) (a0_7 : Int) : (Int × Int) → Ctl (Int × Int) (Int × Int) := fun s2 =>
  if (decide (s2.2 < (a0_1.length : Int))) = true then
   if 0 ≤ s2.2 ∧ s2.2 < (a0_1.length : Int) then
    if 0 ≤ s2.2 ∧ s2.2 < (a0_1.length : Int) then
     if 0 ≤ s2.2 ∧ s2.2 < (a0_1.length : Int) then
      bindC (r70 ((a0_1.getD s2.2.toNat default).1) s2.1 [((a0_1.getD s2.2.toNat default).2.1, (a0_1.getD s2.2.toNat default).2.2.1), ((a0_1.getD s2.2.toNat default).2.2.2.1, (a0_1.getD s2.2.toNat default).2.2.2.2)] 0 true) fun v5 =>
       if (v5 != 0) = true then
        .out (some (s2.2, v5))
        else if 0 ≤ s2.2 ∧ s2.2 < (a0_1.length : Int) then
         .next ((a0_1.getD s2.2.toNat default).1, IntKind.i64.wrap (s2.2 + 1))
         else .out none
      else .out none
     else .out none
    else .out none
   else .out (iterC (b16_3 a0_0 a0_2 a0_3 a0_4 a0_5 a0_6 a0_7 s2) 1000000000 ((-1), 0))
def b16_1 (a0_0 : List (Int × Int × Int × Int)) (a0_1 : List (Int × Int × Int × Int × Int)) (a0_2 : List (Int × Int × Int)) (a0_3 : List (Int × Int)) (a0_4 : Int) (a0_5 : Int) (a0_6 : Int) (a0_7 : Int) : (Int × Int) → Ctl (Int × Int) (Int × Int) := fun s1 =>
  if (decide (s1.2 < (a0_0.length : Int))) = true then
   if 0 ≤ s1.2 ∧ s1.2 < (a0_0.length : Int) then
    if (!(s1.2 == 0)) = true → 0 ≤ IntKind.i64.wrap (s1.2 - 1) ∧ IntKind.i64.wrap (s1.2 - 1) < (a0_0.length : Int) then
     if ((!(s1.2 == 0)) && (decide (((a0_0.getD s1.2.toNat default).2.1) ≥ ((a0_0.getD (IntKind.i64.wrap (s1.2 - 1)).toNat default).2.1)))) = true → 0 ≤ IntKind.i64.wrap (s1.2 - 1) ∧ IntKind.i64.wrap (s1.2 - 1) < (a0_0.length : Int) then
      bindC (r70 ((a0_0.getD s1.2.toNat default).1) s1.1 [((a0_0.getD s1.2.toNat default).2.1, (a0_0.getD s1.2.toNat default).2.2.1)] ((a0_0.getD s1.2.toNat default).2.2.2) ((s1.2 == 0) || ((decide (((a0_0.getD s1.2.toNat default).2.1) ≥ ((a0_0.getD (IntKind.i64.wrap (s1.2 - 1)).toNat default).2.1))) && (decide (((a0_0.getD s1.2.toNat default).2.2.1) ≥ ((a0_0.getD (IntKind.i64.wrap (s1.2 - 1)).toNat default).2.2.1)))))) fun v1 =>
       if (v1 != 0) = true then
        .out (some (s1.2, v1))
        else .next ((a0_0.getD s1.2.toNat default).1, IntKind.i64.wrap (s1.2 + 1))
      else .out none
     else .out none
    else .out none
   else .out (iterC (b16_2 a0_0 a0_1 a0_2 a0_3 a0_4 a0_5 a0_6 a0_7) 1000000000 ((-1), 0))
def r16 (a0_0 : List (Int × Int × Int × Int)) (a0_1 : List (Int × Int × Int × Int × Int)) (a0_2 : List (Int × Int × Int)) (a0_3 : List (Int × Int)) (a0_4 : Int) (a0_5 : Int) (a0_6 : Int) (a0_7 : Int) : Option (Int × Int) :=
  if ((((decide ((a0_0.length : Int) > 8)) || (decide ((a0_1.length : Int) > 8))) || (decide ((a0_2.length : Int) > 8))) || (decide ((a0_3.length : Int) > 8))) = true then
   some (0, 8)
   else iterC (b16_1 a0_0 a0_1 a0_2 a0_3 a0_4 a0_5 a0_6 a0_7) 1000000000 ((-1), 0)
def w16 (a0_0 : List (Int × Int × Int × Int)) (a0_1 : List (Int × Int × Int × Int × Int)) (a0_2 : List (Int × Int × Int)) (a0_3 : List (Int × Int)) (a0_4 : Int) (a0_5 : Int) (a0_6 : Int) (a0_7 : Int) : List Arg := [.agg [encF 4 d_IIII a0_0, encF 5 d_IIIII a0_1, encF 3 d_III a0_2, encF 2 d_II a0_3, .int .i64 a0_4, .int .i64 a0_5, .int .i64 a0_6, .int .i64 a0_7]]
def u16 (v : Int × Int) : List RV := [.c (.d (.int .i64 v.1)), .c (.d (.int .i64 v.2))]
def T16 : TSpec ((List (Int × Int × Int × Int)) × (List (Int × Int × Int × Int × Int)) × (List (Int × Int × Int)) × (List (Int × Int)) × Int × Int × Int × Int) where
  enc := fun ⟨a0_0, a0_1, a0_2, a0_3, a0_4, a0_5, a0_6, a0_7⟩ => w16 a0_0 a0_1 a0_2 a0_3 a0_4 a0_5 a0_6 a0_7
  dec a := (decF g_IIII (aCell a 0 0), decF g_IIIII (aCell a 0 1), decF g_III (aCell a 0 2), decF g_II (aCell a 0 3), dInt (aCell a 0 4), dInt (aCell a 0 5), dInt (aCell a 0 6), dInt (aCell a 0 7))
  pre := fun ⟨a0_0, a0_1, a0_2, a0_3, a0_4, a0_5, a0_6, a0_7⟩ => (r16 a0_0 a0_1 a0_2 a0_3 a0_4 a0_5 a0_6 a0_7).isSome = true
  res := fun ⟨a0_0, a0_1, a0_2, a0_3, a0_4, a0_5, a0_6, a0_7⟩ => u16 ((r16 a0_0 a0_1 a0_2 a0_3 a0_4 a0_5 a0_6 a0_7).getD default)
  al := false
theorem TP16 (c0 c1 c2 c3 c4 c5 c6 c7 : D) : T16.sp.pre [.agg [c0, c1, c2, c3, c4, c5, c6, c7]] = (eqvArgs [.agg [c0, c1, c2, c3, c4, c5, c6, c7]] (w16 (decF g_IIII c0) (decF g_IIIII c1) (decF g_III c2) (decF g_II c3) (dInt c4) (dInt c5) (dInt c6) (dInt c7)) ∧ (r16 (decF g_IIII c0) (decF g_IIIII c1) (decF g_III c2) (decF g_II c3) (dInt c4) (dInt c5) (dInt c6) (dInt c7)).isSome = true) := (rfl)
theorem TR16 (c0 c1 c2 c3 c4 c5 c6 c7 : D) : T16.sp.res [.agg [c0, c1, c2, c3, c4, c5, c6, c7]] = u16 ((r16 (decF g_IIII c0) (decF g_IIIII c1) (decF g_III c2) (decF g_II c3) (dInt c4) (dInt c5) (dInt c6) (dInt c7)).getD default) := (rfl)
theorem TA16 : T16.sp.alias = false := (rfl)
def tb16 : Fns := lk [(29, T29.sp), (70, T70.sp)]
theorem tb16_ok : FnsOk Tryd.prog tb16 := .cons f29 (.cons f70 (FnsOk.nil))
theorem tb16_29 : tb16 29 = some T29.sp := rfl
theorem tb16_70 : tb16 70 = some T70.sp := rfl
theorem lt16_0 : ((((0 : Int)) == 0)) = true := by first | rfl | decide | simp
theorem lt16_1 : (IntKind.i64.wrap (0 + 1)) = 1 := by first | rfl | decide | simp
theorem lt16_2 : (decide ((0 : Int) < 4)) = true := by first | rfl | decide | simp
theorem lt16_3 : (decide ((1 : Int) < 4)) = true := by first | rfl | decide | simp
theorem lt16_4 : (IntKind.i64.wrap (1 + 1)) = 2 := by first | rfl | decide | simp
theorem lt16_5 : (decide ((2 : Int) < 4)) = true := by first | rfl | decide | simp
theorem lt16_6 : (IntKind.i64.wrap (2 + 1)) = 3 := by first | rfl | decide | simp
theorem lt16_7 : (decide ((3 : Int) < 4)) = true := by first | rfl | decide | simp
theorem lt16_8 : (IntKind.i64.wrap (3 + 1)) = 4 := by first | rfl | decide | simp
theorem lt16_9 : (decide ((4 : Int) < 4)) = false := by first | rfl | decide | simp
theorem lt16_10 : (IntKind.i64.wrap (1 - 1)) = 0 := by first | rfl | decide | simp
theorem lt16_11 : (IntKind.i64.wrap (2 - 1)) = 1 := by first | rfl | decide | simp
theorem lt16_12 : (IntKind.i64.wrap (3 - 1)) = 2 := by first | rfl | decide | simp
attribute [go_sem] TP16 TR16 TA16 w16 u16
section
attribute [local go_sem] T16 tb16_29 tb16_70 Tryd.results16 lt16_0 lt16_1 lt16_2 lt16_3 lt16_4 lt16_5 lt16_6 lt16_7 lt16_8 lt16_9 lt16_10 lt16_11 lt16_12
theorem v16 : Valid Tryd.prog 16 T16.sp := by
  refine valid_t (fn := Tryd.f16) (n := 269) ty_ok tb16_ok Tryd.func16 rfl Tryd.ntmps16 ?_
  rintro ⟨a0_0, a0_1, a0_2, a0_3, a0_4, a0_5, a0_6, a0_7⟩ hx
  obtain ⟨r, hr⟩ := Option.isSome_iff_exists.1 (show (r16 a0_0 a0_1 a0_2 a0_3 a0_4 a0_5 a0_6 a0_7).isSome = true from hx)
  have hres : T16.res (a0_0, a0_1, a0_2, a0_3, a0_4, a0_5, a0_6, a0_7) = u16 r := by simp only [T16, hr, Option.getD_some]
  refine ⟨Nat.le_of_ble_eq_true rfl, fun stop S => ?_⟩
  rw [hres] at S
  unfold r16 at hr
  refine S.gx [9, 19, 20, 28, 46, 48] ?_
  repeat (first | refine gA ?_ | refine gB ?_)
  refine ⟨fun hc => ?_, fun hc => ?_⟩
  · replace hr := ifP hr hc
    repeat refine gA ?_
    obtain rfl := Option.some.inj hr
    exact lf
  · replace hr := ifN hr hc
    repeat refine gA ?_
    refine S.sees [1, 4, 5] [(1, 1)] [] ?_ (Stop.iter S (fun s1 => ⟨[(1, .c (.ref 1 0)), (4, .c (.d (.int .i64 s1.1))), (5, .c (.d (.int .i64 s1.2)))], [(1, [.d (encF 4 d_IIII a0_0), .d (encF 5 d_IIIII a0_1), .d (encF 3 d_III a0_2), .d (encF 2 d_II a0_3), .d (.int .i64 a0_4), .d (.int .i64 a0_5), .d (.int .i64 a0_6), .d (.int .i64 a0_7)])], []⟩) (b16_1 a0_0 a0_1 a0_2 a0_3 a0_4 a0_5 a0_6 a0_7) (fun q => q = r) hr rfl ?_)
    · exact lf
    · intro s1 hr
      unfold b16_1 at hr
      refine S.gx [9, 19, 20, 28, 46, 48] ?_
      repeat refine gA ?_
      refine ⟨fun hc => ?_, fun hc => ?_⟩
      · replace hr := ifP1 hr hc
        obtain ⟨hg2, hr⟩ := of_guard1 hr
        obtain ⟨hg3, hr⟩ := of_guard1 hr
        obtain ⟨hg4, hr⟩ := of_guard1 hr
        repeat (first | refine gG hg3 ?_ | refine gG hg4 ?_ | refine gA ?_ | refine gB ?_)
        refine S.prune [1, 4, 5, 6, 7] ?_
        refine S.gx [19, 20, 28, 46, 48] ?_
        obtain ⟨v1, hv1, hr⟩ := of_bind1 hr
        try simp only [hv1, Option.getD_some, Option.isSome_some, true_and, and_assoc]
        repeat refine gA ?_
        repeat refine gA ?_
        refine ⟨fun hc => ?_, fun hc => ?_⟩
        · replace hr := ifP1 hr hc
          repeat refine gA ?_
          have hr := of_out0 hr
          obtain rfl := Option.some.inj hr
          exact lf
        · replace hr := ifN1 hr hc
          repeat refine gA ?_
          refine S.sees [1, 4, 5] [(1, 1)] [] ?_ hr
          exact lf
      · replace hr := ifN1 hr hc
        repeat refine gA ?_
        have hr := of_out0 hr
        repeat refine gA ?_
        refine S.sees [1, 4, 9] [(1, 1)] [] ?_ (Stop.iter S (fun s2 => ⟨[(1, .c (.ref 1 0)), (4, .c (.d (.int .i64 s2.1))), (9, .c (.d (.int .i64 s2.2)))], [(1, [.d (encF 4 d_IIII a0_0), .d (encF 5 d_IIIII a0_1), .d (encF 3 d_III a0_2), .d (encF 2 d_II a0_3), .d (.int .i64 a0_4), .d (.int .i64 a0_5), .d (.int .i64 a0_6), .d (.int .i64 a0_7)])], []⟩) (b16_2 a0_0 a0_1 a0_2 a0_3 a0_4 a0_5 a0_6 a0_7) (fun q => q = r) hr rfl ?_)
        · exact lf
        · intro s2 hr
          unfold b16_2 at hr
          refine S.gx [9, 19, 20, 28, 46, 48] ?_
          repeat refine gA ?_
          refine ⟨fun hc => ?_, fun hc => ?_⟩
          · replace hr := ifP1 hr hc
            obtain ⟨hg7, hr⟩ := of_guard1 hr
            obtain ⟨hg8, hr⟩ := of_guard1 hr
            obtain ⟨hg9, hr⟩ := of_guard1 hr
            obtain ⟨v5, hv5, hr⟩ := of_bind1 hr
            try simp only [hv5, Option.getD_some, Option.isSome_some, true_and, and_assoc]
            repeat refine gA ?_
            refine ⟨fun hc => ?_, fun hc => ?_⟩
            · replace hr := ifP1 hr hc
              repeat refine gA ?_
              refine S.prune [9, 10] ?_
              refine S.gx [9, 20, 28, 46, 48] ?_
              repeat refine gA ?_
              repeat refine gA ?_
              have hr := of_out0 hr
              obtain rfl := Option.some.inj hr
              exact lf
            · replace hr := ifN1 hr hc
              repeat refine gA ?_
              refine S.prune [1, 9] ?_
              refine S.gx [9, 19, 28, 46, 48] ?_
              obtain ⟨hg6, hr⟩ := of_guard1 hr
              repeat refine gA ?_
              repeat refine gA ?_
              refine S.sees [1, 4, 9] [(1, 1)] [] ?_ hr
              exact lf
          · replace hr := ifN1 hr hc
            repeat refine gA ?_
            have hr := of_out0 hr
            repeat refine gA ?_
            refine S.sees [1, 4, 11, 12] [(1, 1)] [] ?_ (Stop.iter S (fun s3 => ⟨[(1, .c (.ref 1 0)), (4, .c (.d (.int .i64 s3.1))), (11, .c (.d (.int .i64 s2.1))), (12, .c (.d (.int .i64 s3.2)))], [(1, [.d (encF 4 d_IIII a0_0), .d (encF 5 d_IIIII a0_1), .d (encF 3 d_III a0_2), .d (encF 2 d_II a0_3), .d (.int .i64 a0_4), .d (.int .i64 a0_5), .d (.int .i64 a0_6), .d (.int .i64 a0_7)])], []⟩) (b16_3 a0_0 a0_2 a0_3 a0_4 a0_5 a0_6 a0_7 s2) (fun q => q = r) hr rfl ?_)
            · exact lf
            · intro s3 hr
              unfold b16_3 at hr
              refine S.gx [9, 19, 20, 28, 46, 48] ?_
              repeat refine gA ?_
              refine ⟨fun hc => ?_, fun hc => ?_⟩
              · replace hr := ifP1 hr hc
                obtain ⟨hg11, hr⟩ := of_guard1 hr
                obtain ⟨hg12, hr⟩ := of_guard1 hr
                obtain ⟨hg13, hr⟩ := of_guard1 hr
                repeat (first | refine gG hg12 ?_ | refine gG hg13 ?_ | refine gA ?_ | refine gB ?_)
                refine S.prune [1, 4, 11, 12, 13, 14] ?_
                refine S.gx [9, 19, 20, 46, 48] ?_
                obtain ⟨v10, hv10, hr⟩ := of_bind1 hr
                try simp only [hv10, Option.getD_some, Option.isSome_some, true_and, and_assoc]
                repeat refine gA ?_
                repeat refine gA ?_
                refine ⟨fun hc => ?_, fun hc => ?_⟩
                · replace hr := ifP1 hr hc
                  repeat refine gA ?_
                  have hr := of_out0 hr
                  obtain rfl := Option.some.inj hr
                  exact lf
                · replace hr := ifN1 hr hc
                  repeat refine gA ?_
                  refine S.sees [1, 4, 11, 12] [(1, 1)] [] ?_ hr
                  exact lf
              · replace hr := ifN1 hr hc
                repeat refine gA ?_
                have hr := of_out0 hr
                repeat refine gA ?_
                refine S.sees [1, 4, 11, 16] [(1, 1)] [] ?_ (Stop.iter S (fun s4 => ⟨[(1, .c (.ref 1 0)), (4, .c (.d (.int .i64 s4.1))), (11, .c (.d (.int .i64 (if s2.1 < s3.1 then s3.1 else s2.1)))), (16, .c (.d (.int .i64 s4.2)))], [(1, [.d (encF 4 d_IIII a0_0), .d (encF 5 d_IIIII a0_1), .d (encF 3 d_III a0_2), .d (encF 2 d_II a0_3), .d (.int .i64 a0_4), .d (.int .i64 a0_5), .d (.int .i64 a0_6), .d (.int .i64 a0_7)])], []⟩) (b16_4 a0_0 a0_3 a0_4 a0_5 a0_6 a0_7 s2 s3) (fun q => q = r) hr rfl ?_)
                · exact lf
                · intro s4 hr
                  unfold b16_4 at hr
                  refine S.gx [9, 19, 20, 28, 46, 48] ?_
                  repeat refine gA ?_
                  refine ⟨fun hc => ?_, fun hc => ?_⟩
                  · replace hr := ifP1 hr hc
                    obtain ⟨hg16, hr⟩ := of_guard1 hr
                    obtain ⟨hg17, hr⟩ := of_guard1 hr
                    obtain ⟨v14, hv14, hr⟩ := of_bind1 hr
                    try simp only [hv14, Option.getD_some, Option.isSome_some, true_and, and_assoc]
                    repeat refine gA ?_
                    refine ⟨fun hc => ?_, fun hc => ?_⟩
                    · replace hr := ifP1 hr hc
                      repeat refine gA ?_
                      have hr := of_out0 hr
                      obtain rfl := Option.some.inj hr
                      exact lf
                    · replace hr := ifN1 hr hc
                      obtain ⟨hg15, hr⟩ := of_guard1 hr
                      repeat refine gA ?_
                      refine S.sees [1, 4, 11, 16] [(1, 1)] [] ?_ hr
                      exact lf
                  · replace hr := ifN1 hr hc
                    repeat refine gA ?_
                    have hr := of_out0 hr
                    obtain ⟨hg22, hr⟩ := of_guard0 hr
                    repeat (first | refine gG hg22 ?_ | refine gA ?_ | refine gB ?_)
                    refine ⟨fun hc => ?_, fun hc => ?_⟩
                    · replace hr := ifP hr hc
                      repeat refine gA ?_
                      obtain rfl := Option.some.inj hr
                      exact lf
                    · replace hr := ifN hr hc
                      repeat refine gA ?_
                      refine S.lp ?_
                      refine S.gx [9, 19, 20, 28, 46, 48] ?_
                      obtain ⟨v18, hv18, hr⟩ := of_bind0 hr
                      try simp only [hv18, Option.getD_some, Option.isSome_some, true_and, and_assoc]
                      repeat refine gA ?_
                      refine ⟨fun hc => ?_, fun hc => ?_⟩
                      · replace hr := ifP hr hc
                        repeat refine gA ?_
                        refine S.prune [] ?_
                        refine S.gx [9, 19, 20, 28, 46] ?_
                        repeat refine gA ?_
                        repeat refine gA ?_
                        obtain rfl := Option.some.inj hr
                        exact lf
                      · replace hr := ifN hr hc
                        repeat refine gA ?_
                        refine S.prune [1, 18] ?_
                        refine S.gx [9, 19, 20, 28, 48] ?_
                        repeat refine gA ?_
                        repeat refine gA ?_
                        refine S.lp ?_
                        refine S.gx [9, 19, 20, 28, 46, 48] ?_
                        obtain ⟨v19, hv19, hr⟩ := of_bind0 hr
                        try simp only [hv19, Option.getD_some, Option.isSome_some, true_and, and_assoc]
                        repeat refine gA ?_
                        refine ⟨fun hc => ?_, fun hc => ?_⟩
                        · replace hr := ifP hr hc
                          repeat refine gA ?_
                          refine S.prune [] ?_
                          refine S.gx [9, 19, 20, 28, 46] ?_
                          repeat refine gA ?_
                          repeat refine gA ?_
                          obtain rfl := Option.some.inj hr
                          exact lf
                        · replace hr := ifN hr hc
                          repeat refine gA ?_
                          refine S.prune [1, 18] ?_
                          refine S.gx [9, 19, 20, 28, 48] ?_
                          repeat refine gA ?_
                          repeat refine gA ?_
                          refine S.lp ?_
                          refine S.gx [9, 19, 20, 28, 46, 48] ?_
                          obtain ⟨v20, hv20, hr⟩ := of_bind0 hr
                          try simp only [hv20, Option.getD_some, Option.isSome_some, true_and, and_assoc]
                          repeat refine gA ?_
                          refine ⟨fun hc => ?_, fun hc => ?_⟩
                          · replace hr := ifP hr hc
                            repeat refine gA ?_
                            refine S.prune [] ?_
                            refine S.gx [9, 19, 20, 28, 46] ?_
                            repeat refine gA ?_
                            repeat refine gA ?_
                            obtain rfl := Option.some.inj hr
                            exact lf
                          · replace hr := ifN hr hc
                            repeat refine gA ?_
                            refine S.prune [1, 18] ?_
                            refine S.gx [9, 19, 20, 28, 48] ?_
                            repeat refine gA ?_
                            repeat refine gA ?_
                            refine S.lp ?_
                            refine S.gx [9, 19, 20, 28, 46, 48] ?_
                            obtain ⟨v21, hv21, hr⟩ := of_bind0 hr
                            try simp only [hv21, Option.getD_some, Option.isSome_some, true_and, and_assoc]
                            repeat refine gA ?_
                            refine ⟨fun hc => ?_, fun hc => ?_⟩
                            · replace hr := ifP hr hc
                              repeat refine gA ?_
                              refine S.prune [] ?_
                              refine S.gx [9, 19, 20, 28, 46] ?_
                              repeat refine gA ?_
                              repeat refine gA ?_
                              obtain rfl := Option.some.inj hr
                              exact lf
                            · replace hr := ifN hr hc
                              repeat refine gA ?_
                              refine S.prune [1, 18] ?_
                              refine S.gx [9, 19, 20, 28, 48] ?_
                              repeat refine gA ?_
                              repeat refine gA ?_
                              refine S.lp ?_
                              refine S.gx [9, 19, 20, 28, 46, 48] ?_
                              repeat refine gA ?_
                              refine S.lp ?_
                              refine S.gx [9, 19, 20, 28, 46, 48] ?_
                              repeat refine gA ?_
                              refine ⟨fun hc => ?_, fun hc => ?_⟩
                              · replace hr := ifP hr hc
                                repeat refine gA ?_
                                obtain rfl := Option.some.inj hr
                                exact lf
                              · replace hr := ifN hr hc
                                repeat refine gA ?_
                                refine S.lp ?_
                                refine S.gx [9, 19, 20, 28, 46, 48] ?_
                                repeat refine gA ?_
                                refine ⟨fun hc => ?_, fun hc => ?_⟩
                                · replace hr := ifP hr hc
                                  repeat refine gA ?_
                                  obtain rfl := Option.some.inj hr
                                  exact lf
                                · replace hr := ifN hr hc
                                  repeat refine gA ?_
                                  refine S.lp ?_
                                  refine S.gx [9, 19, 20, 28, 46, 48] ?_
                                  repeat refine gA ?_
                                  refine ⟨fun hc => ?_, fun hc => ?_⟩
                                  · replace hr := ifP hr hc
                                    repeat refine gA ?_
                                    obtain rfl := Option.some.inj hr
                                    exact lf
                                  · replace hr := ifN hr hc
                                    repeat refine gA ?_
                                    refine S.lp ?_
                                    refine S.gx [9, 19, 20, 28, 46, 48] ?_
                                    repeat refine gA ?_
                                    obtain rfl := Option.some.inj hr
                                    exact lf
theorem f16 : FnFact Tryd.prog 16 T16.sp := ⟨⟨Tryd.f16, Tryd.func16, by decide, rfl⟩, v16⟩
end

/- martensite/martensiteref04.StateErr -/
def b18_1 (a0_0 : Int) (a0_1 : Int) (a0_2 : Int) (a0_3 : Int) (a0_4 : Int) (a0_5 : Int) (a0_6 : Int) : (Int) → Ctl (Int) (Int) := fun s1 =>
  if (decide (s1 < (([a0_0, a0_1, a0_2, a0_3, a0_4]).length : Int))) = true then
   if 0 ≤ s1 ∧ s1 < (([a0_0, a0_1, a0_2, a0_3, a0_4]).length : Int) then
    bindC (r29 (([a0_0, a0_1, a0_2, a0_3, a0_4]).getD s1.toNat default) 0 1000000) fun v1 =>
     if (!v1) = true then
      .out (some 2)
      else .next (IntKind.i64.wrap (s1 + 1))
    else .out none
   else .out ((r29 a0_5 0 100000).bind fun v3 =>
    if (!(!v3)) = true → (r29 a0_6 0 1000000).isSome = true then
     if ((!v3) || (!((r29 a0_6 0 1000000).getD default))) = true then
      some 2
      else if ((IntKind.i64.wrap ((IntKind.i64.wrap ((IntKind.i64.wrap (a0_0 + a0_1)) + a0_2)) + a0_3)) != 1000000) = true then
       some 3
       else some 0
     else none)
def r18 (a0_0 : Int) (a0_1 : Int) (a0_2 : Int) (a0_3 : Int) (a0_4 : Int) (a0_5 : Int) (a0_6 : Int) : Option (Int) :=
  iterC (b18_1 a0_0 a0_1 a0_2 a0_3 a0_4 a0_5 a0_6) 1000000000 0
def w18 (a0_0 : Int) (a0_1 : Int) (a0_2 : Int) (a0_3 : Int) (a0_4 : Int) (a0_5 : Int) (a0_6 : Int) : List Arg := [.agg [.int .i64 a0_0, .int .i64 a0_1, .int .i64 a0_2, .int .i64 a0_3, .int .i64 a0_4, .int .i64 a0_5, .int .i64 a0_6]]
def u18 (v : Int) : List RV := [.c (.d (.int .i64 v))]
def T18 : TSpec (Int × Int × Int × Int × Int × Int × Int) where
  enc := fun ⟨a0_0, a0_1, a0_2, a0_3, a0_4, a0_5, a0_6⟩ => w18 a0_0 a0_1 a0_2 a0_3 a0_4 a0_5 a0_6
  dec a := (dInt (aCell a 0 0), dInt (aCell a 0 1), dInt (aCell a 0 2), dInt (aCell a 0 3), dInt (aCell a 0 4), dInt (aCell a 0 5), dInt (aCell a 0 6))
  pre := fun ⟨a0_0, a0_1, a0_2, a0_3, a0_4, a0_5, a0_6⟩ => (r18 a0_0 a0_1 a0_2 a0_3 a0_4 a0_5 a0_6).isSome = true
  res := fun ⟨a0_0, a0_1, a0_2, a0_3, a0_4, a0_5, a0_6⟩ => u18 ((r18 a0_0 a0_1 a0_2 a0_3 a0_4 a0_5 a0_6).getD default)
  al := false
theorem TP18 (c0 c1 c2 c3 c4 c5 c6 : D) : T18.sp.pre [.agg [c0, c1, c2, c3, c4, c5, c6]] = (eqvArgs [.agg [c0, c1, c2, c3, c4, c5, c6]] (w18 (dInt c0) (dInt c1) (dInt c2) (dInt c3) (dInt c4) (dInt c5) (dInt c6)) ∧ (r18 (dInt c0) (dInt c1) (dInt c2) (dInt c3) (dInt c4) (dInt c5) (dInt c6)).isSome = true) := (rfl)
theorem TR18 (c0 c1 c2 c3 c4 c5 c6 : D) : T18.sp.res [.agg [c0, c1, c2, c3, c4, c5, c6]] = u18 ((r18 (dInt c0) (dInt c1) (dInt c2) (dInt c3) (dInt c4) (dInt c5) (dInt c6)).getD default) := (rfl)
theorem TA18 : T18.sp.alias = false := (rfl)
def tb18 : Fns := lk [(29, T29.sp)]
theorem tb18_ok : FnsOk Tryd.prog tb18 := .cons f29 (FnsOk.nil)
theorem tb18_29 : tb18 29 = some T29.sp := rfl
attribute [go_sem] TP18 TR18 TA18 w18 u18
section
attribute [local go_sem] T18 tb18_29 Tryd.results18
theorem v18 : Valid Tryd.prog 18 T18.sp := by
  refine valid_t (fn := Tryd.f18) (n := 50) ty_ok tb18_ok Tryd.func18 rfl Tryd.ntmps18 ?_
  rintro ⟨a0_0, a0_1, a0_2, a0_3, a0_4, a0_5, a0_6⟩ hx
  obtain ⟨r, hr⟩ := Option.isSome_iff_exists.1 (show (r18 a0_0 a0_1 a0_2 a0_3 a0_4 a0_5 a0_6).isSome = true from hx)
  have hres : T18.res (a0_0, a0_1, a0_2, a0_3, a0_4, a0_5, a0_6) = u18 r := by simp only [T18, hr, Option.getD_some]
  refine ⟨Nat.le_of_ble_eq_true rfl, fun stop S => ?_⟩
  rw [hres] at S
  unfold r18 at hr
  refine S.gx [] ?_
  repeat refine gA ?_
  refine S.sees [1, 3, 4] [(1, 1)] [(15, 15)] ?_ (Stop.iter S (fun s1 => ⟨[(1, .c (.ref 1 0)), (3, .c (.own 15)), (4, .c (.d (.int .i64 s1)))], [(1, [.d (.int .i64 a0_0), .d (.int .i64 a0_1), .d (.int .i64 a0_2), .d (.int .i64 a0_3), .d (.int .i64 a0_4), .d (.int .i64 a0_5), .d (.int .i64 a0_6)])], [(15, .owned (encF 1 d_I ([a0_0, a0_1, a0_2, a0_3, a0_4])))]⟩) (b18_1 a0_0 a0_1 a0_2 a0_3 a0_4 a0_5 a0_6) (fun q => q = r) hr rfl ?_)
  · exact lf
  · intro s1 hr
    unfold b18_1 at hr
    refine S.gx [] ?_
    repeat refine gA ?_
    refine ⟨fun hc => ?_, fun hc => ?_⟩
    · replace hr := ifP1 hr hc
      obtain ⟨hg2, hr⟩ := of_guard1 hr
      obtain ⟨v1, hv1, hr⟩ := of_bind1 hr
      try simp only [hv1, Option.getD_some, Option.isSome_some, true_and, and_assoc]
      repeat refine gA ?_
      refine ⟨fun hc => ?_, fun hc => ?_⟩
      · replace hr := ifP1 hr hc
        repeat refine gA ?_
        have hr := of_out0 hr
        obtain rfl := Option.some.inj hr
        exact lf
      · replace hr := ifN1 hr hc
        repeat refine gA ?_
        refine S.sees [1, 3, 4] [(1, 1)] [(15, 15)] ?_ hr
        exact lf
    · replace hr := ifN1 hr hc
      repeat refine gA ?_
      have hr := of_out0 hr
      obtain ⟨v3, hv3, hr⟩ := of_bind0 hr
      obtain ⟨hg4, hr⟩ := of_guard0 hr
      try simp only [hv3, Option.getD_some, Option.isSome_some, true_and, and_assoc]
      repeat (first | refine gG hg4 ?_ | refine gA ?_ | refine gB ?_)
      refine ⟨fun hc => ?_, fun hc => ?_⟩
      · replace hr := ifP hr hc
        repeat refine gA ?_
        obtain rfl := Option.some.inj hr
        exact lf
      · replace hr := ifN hr hc
        repeat refine gA ?_
        refine ⟨fun hc => ?_, fun hc => ?_⟩
        · replace hr := ifP hr hc
          repeat refine gA ?_
          obtain rfl := Option.some.inj hr
          exact lf
        · replace hr := ifN hr hc
          repeat refine gA ?_
          obtain rfl := Option.some.inj hr
          exact lf
theorem f18 : FnFact Tryd.prog 18 T18.sp := ⟨⟨Tryd.f18, Tryd.func18, by decide, rfl⟩, v18⟩
end

/- martensite/martensiteref04.PickErr -/
def r20 (a0_0 : Int) (a0_1 : Int) (a0_2 : Int) : Option (Int) :=
  (r29 a0_0 0 1000).bind fun v1 =>
   if (!(!v1)) = true → (r29 a0_1 0 1000).isSome = true then
    if (!((!v1) || (!((r29 a0_1 0 1000).getD default)))) = true → (r29 a0_2 0 1000).isSome = true then
     if (((!v1) || (!((r29 a0_1 0 1000).getD default))) || (!((r29 a0_2 0 1000).getD default))) = true then
      some 2
      else some 0
     else none
    else none
def w20 (a0_0 : Int) (a0_1 : Int) (a0_2 : Int) : List Arg := [.agg [.int .i64 a0_0, .int .i64 a0_1, .int .i64 a0_2]]
def u20 (v : Int) : List RV := [.c (.d (.int .i64 v))]
def T20 : TSpec (Int × Int × Int) where
  enc := fun ⟨a0_0, a0_1, a0_2⟩ => w20 a0_0 a0_1 a0_2
  dec a := (dInt (aCell a 0 0), dInt (aCell a 0 1), dInt (aCell a 0 2))
  pre := fun ⟨a0_0, a0_1, a0_2⟩ => (r20 a0_0 a0_1 a0_2).isSome = true
  res := fun ⟨a0_0, a0_1, a0_2⟩ => u20 ((r20 a0_0 a0_1 a0_2).getD default)
  al := false
theorem TP20 (c0 c1 c2 : D) : T20.sp.pre [.agg [c0, c1, c2]] = (eqvArgs [.agg [c0, c1, c2]] (w20 (dInt c0) (dInt c1) (dInt c2)) ∧ (r20 (dInt c0) (dInt c1) (dInt c2)).isSome = true) := (rfl)
theorem TR20 (c0 c1 c2 : D) : T20.sp.res [.agg [c0, c1, c2]] = u20 ((r20 (dInt c0) (dInt c1) (dInt c2)).getD default) := (rfl)
theorem TA20 : T20.sp.alias = false := (rfl)
def tb20 : Fns := lk [(29, T29.sp)]
theorem tb20_ok : FnsOk Tryd.prog tb20 := .cons f29 (FnsOk.nil)
theorem tb20_29 : tb20 29 = some T29.sp := rfl
attribute [go_sem] TP20 TR20 TA20 w20 u20
section
attribute [local go_sem] T20 tb20_29 Tryd.results20
theorem v20 : Valid Tryd.prog 20 T20.sp := by
  refine valid_t (fn := Tryd.f20) (n := 19) ty_ok tb20_ok Tryd.func20 rfl Tryd.ntmps20 ?_
  rintro ⟨a0_0, a0_1, a0_2⟩ hx
  obtain ⟨r, hr⟩ := Option.isSome_iff_exists.1 (show (r20 a0_0 a0_1 a0_2).isSome = true from hx)
  have hres : T20.res (a0_0, a0_1, a0_2) = u20 r := by simp only [T20, hr, Option.getD_some]
  refine ⟨Nat.le_of_ble_eq_true rfl, fun stop S => ?_⟩
  rw [hres] at S
  unfold r20 at hr
  refine S.gx [] ?_
  obtain ⟨v1, hv1, hr⟩ := of_bind0 hr
  obtain ⟨hg2, hr⟩ := of_guard0 hr
  obtain ⟨hg3, hr⟩ := of_guard0 hr
  try simp only [hv1, Option.getD_some, Option.isSome_some, true_and, and_assoc]
  repeat (first | refine gG hg2 ?_ | refine gG hg3 ?_ | refine gA ?_ | refine gB ?_)
  refine ⟨fun hc => ?_, fun hc => ?_⟩
  · replace hr := ifP hr hc
    repeat refine gA ?_
    obtain rfl := Option.some.inj hr
    exact lf
  · replace hr := ifN hr hc
    repeat refine gA ?_
    obtain rfl := Option.some.inj hr
    exact lf
theorem f20 : FnFact Tryd.prog 20 T20.sp := ⟨⟨Tryd.f20, Tryd.func20, by decide, rfl⟩, v20⟩
end
end Go.Proofs.YtfkmbdfajpdjjaaDoor

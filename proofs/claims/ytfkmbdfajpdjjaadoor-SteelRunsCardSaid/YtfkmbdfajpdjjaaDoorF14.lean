/- Contracts of functions, written by wip/dec. -/
import Derived.Test.YtfkmbdfajpdjjaaDoorF00
import Derived.Test.YtfkmbdfajpdjjaaDoorF03
import Derived.Test.YtfkmbdfajpdjjaaDoorF12
set_option linter.unusedVariables false
set_option linter.unusedSimpArgs false
set_option maxHeartbeats 4000000
set_option maxRecDepth 20000
namespace Go.Proofs.YtfkmbdfajpdjjaaDoor
open Go.Abs
/- martensite/martensitelaw04.short -/
def r36 (a0 : Int) : Option (Bool) :=
  some ((decide (a0 ≤ 30)) || ((decide (a0 > 200)) && (decide (a0 ≤ 202))))
def T36 : TSpec (Int) where
  enc := fun x => [.c (.int .i64 x)]
  dec a := dInt (aCell a 0 0)
  pre := fun x => (r36 x).isSome = true
  res := fun x => [.c (.d (.bool ((r36 x).getD default)))]
  al := false
theorem TP36 (c0 : D) : T36.sp.pre [.c c0] = (eqvArgs [.c c0] [.c (.int .i64 (dInt c0))] ∧ (r36 (dInt c0)).isSome = true) := (rfl)
theorem TR36 (c0 : D) : T36.sp.res [.c c0] = [.c (.d (.bool ((r36 (dInt c0)).getD default)))] := (rfl)
theorem TA36 : T36.sp.alias = false := (rfl)
def tb36 : Fns := lk []
theorem tb36_ok : FnsOk Tryd.prog tb36 := FnsOk.nil
attribute [go_sem] TP36 TR36 TA36
section
attribute [local go_sem] T36 Tryd.results36
theorem v36 : Valid Tryd.prog 36 T36.sp := by
  refine valid_t (fn := Tryd.f36) (n := 13) ty_ok tb36_ok Tryd.func36 rfl Tryd.ntmps36 ?_
  rintro a0 hx
  obtain ⟨r, hr⟩ := Option.isSome_iff_exists.1 (show (r36 a0).isSome = true from hx)
  have hres : T36.res a0 = [.c (.d (.bool r))] := by simp only [T36, hr, Option.getD_some]
  refine ⟨Nat.le_of_ble_eq_true rfl, fun stop S => ?_⟩
  rw [hres] at S
  unfold r36 at hr
  refine S.gx [] ?_
  repeat (first | refine gA ?_ | refine gB ?_)
  obtain rfl := Option.some.inj hr
  exact lf
theorem f36 : FnFact Tryd.prog 36 T36.sp := ⟨⟨Tryd.f36, Tryd.func36, by decide, rfl⟩, v36⟩
end

/- martensite/steel.GrainsOf -/
def r37 (a0_0 : List (Int × Int × Int × Int)) (a0_1 : List (Int × Int × Int × Int × Int)) (a0_2 : List (Int × Int × Int)) (a0_3 : List (Int × Int)) (a0_4 : Int) (a0_5 : Int) (a0_6 : Int) (a0_7 : Int) (a1_0 : Int) (a1_1 : Int) (a1_2 : Int) (a1_3 : Int) (a1_4 : Int) (a1_5 : Int) (a1_6 : Int) (a2 : List (Int)) : Option (Int × Int) :=
  (r23 a0_0 a0_1 a0_2 a0_3 a0_4 a0_5 a0_6 a0_7 a1_0 a1_1 a1_2 a1_3 a1_4 a1_5 a1_6 a2 1000 1000 1000).bind fun v1 =>
   some (v1.2.2.2.2.2.1, v1.2.2.2.2.2.2.2)
def T37 : TSpec ((List (Int × Int × Int × Int)) × (List (Int × Int × Int × Int × Int)) × (List (Int × Int × Int)) × (List (Int × Int)) × Int × Int × Int × Int × Int × Int × Int × Int × Int × Int × Int × (List (Int))) where
  enc := fun ⟨a0_0, a0_1, a0_2, a0_3, a0_4, a0_5, a0_6, a0_7, a1_0, a1_1, a1_2, a1_3, a1_4, a1_5, a1_6, a2⟩ => [.agg [encF 4 d_IIII a0_0, encF 5 d_IIIII a0_1, encF 3 d_III a0_2, encF 2 d_II a0_3, .int .i64 a0_4, .int .i64 a0_5, .int .i64 a0_6, .int .i64 a0_7], .agg [.int .i64 a1_0, .int .i64 a1_1, .int .i64 a1_2, .int .i64 a1_3, .int .i64 a1_4, .int .i64 a1_5, .int .i64 a1_6], .c (encF 1 d_I a2)]
  dec a := (decF g_IIII (aCell a 0 0), decF g_IIIII (aCell a 0 1), decF g_III (aCell a 0 2), decF g_II (aCell a 0 3), dInt (aCell a 0 4), dInt (aCell a 0 5), dInt (aCell a 0 6), dInt (aCell a 0 7), dInt (aCell a 1 0), dInt (aCell a 1 1), dInt (aCell a 1 2), dInt (aCell a 1 3), dInt (aCell a 1 4), dInt (aCell a 1 5), dInt (aCell a 1 6), decF g_I (aCell a 2 0))
  pre := fun ⟨a0_0, a0_1, a0_2, a0_3, a0_4, a0_5, a0_6, a0_7, a1_0, a1_1, a1_2, a1_3, a1_4, a1_5, a1_6, a2⟩ => (r37 a0_0 a0_1 a0_2 a0_3 a0_4 a0_5 a0_6 a0_7 a1_0 a1_1 a1_2 a1_3 a1_4 a1_5 a1_6 a2).isSome = true
  res := fun ⟨a0_0, a0_1, a0_2, a0_3, a0_4, a0_5, a0_6, a0_7, a1_0, a1_1, a1_2, a1_3, a1_4, a1_5, a1_6, a2⟩ => [.c (.d (.int .i64 (((r37 a0_0 a0_1 a0_2 a0_3 a0_4 a0_5 a0_6 a0_7 a1_0 a1_1 a1_2 a1_3 a1_4 a1_5 a1_6 a2).getD default).1))), .c (.d (.int .i64 (((r37 a0_0 a0_1 a0_2 a0_3 a0_4 a0_5 a0_6 a0_7 a1_0 a1_1 a1_2 a1_3 a1_4 a1_5 a1_6 a2).getD default).2)))]
  al := false
theorem TP37 (c0 c1 c2 c3 c4 c5 c6 c7 c8 c9 c10 c11 c12 c13 c14 c15 : D) : T37.sp.pre [.agg [c0, c1, c2, c3, c4, c5, c6, c7], .agg [c8, c9, c10, c11, c12, c13, c14], .c c15] = (eqvArgs [.agg [c0, c1, c2, c3, c4, c5, c6, c7], .agg [c8, c9, c10, c11, c12, c13, c14], .c c15] [.agg [encF 4 d_IIII (decF g_IIII c0), encF 5 d_IIIII (decF g_IIIII c1), encF 3 d_III (decF g_III c2), encF 2 d_II (decF g_II c3), .int .i64 (dInt c4), .int .i64 (dInt c5), .int .i64 (dInt c6), .int .i64 (dInt c7)], .agg [.int .i64 (dInt c8), .int .i64 (dInt c9), .int .i64 (dInt c10), .int .i64 (dInt c11), .int .i64 (dInt c12), .int .i64 (dInt c13), .int .i64 (dInt c14)], .c (encF 1 d_I (decF g_I c15))] ∧ (r37 (decF g_IIII c0) (decF g_IIIII c1) (decF g_III c2) (decF g_II c3) (dInt c4) (dInt c5) (dInt c6) (dInt c7) (dInt c8) (dInt c9) (dInt c10) (dInt c11) (dInt c12) (dInt c13) (dInt c14) (decF g_I c15)).isSome = true) := (rfl)
theorem TR37 (c0 c1 c2 c3 c4 c5 c6 c7 c8 c9 c10 c11 c12 c13 c14 c15 : D) : T37.sp.res [.agg [c0, c1, c2, c3, c4, c5, c6, c7], .agg [c8, c9, c10, c11, c12, c13, c14], .c c15] = [.c (.d (.int .i64 (((r37 (decF g_IIII c0) (decF g_IIIII c1) (decF g_III c2) (decF g_II c3) (dInt c4) (dInt c5) (dInt c6) (dInt c7) (dInt c8) (dInt c9) (dInt c10) (dInt c11) (dInt c12) (dInt c13) (dInt c14) (decF g_I c15)).getD default).1))), .c (.d (.int .i64 (((r37 (decF g_IIII c0) (decF g_IIIII c1) (decF g_III c2) (decF g_II c3) (dInt c4) (dInt c5) (dInt c6) (dInt c7) (dInt c8) (dInt c9) (dInt c10) (dInt c11) (dInt c12) (dInt c13) (dInt c14) (decF g_I c15)).getD default).2)))] := (rfl)
theorem TA37 : T37.sp.alias = false := (rfl)
def tb37 : Fns := lk [(23, T23.sp)]
theorem tb37_ok : FnsOk Tryd.prog tb37 := .cons f23 (FnsOk.nil)
theorem tb37_23 : tb37 23 = some T23.sp := rfl
attribute [go_sem] TP37 TR37 TA37
section
attribute [local go_sem] T37 tb37_23 Tryd.results37
theorem v37 : Valid Tryd.prog 37 T37.sp := by
  refine valid_t (fn := Tryd.f37) (n := 24) ty_ok tb37_ok Tryd.func37 rfl Tryd.ntmps37 ?_
  rintro ⟨a0_0, a0_1, a0_2, a0_3, a0_4, a0_5, a0_6, a0_7, a1_0, a1_1, a1_2, a1_3, a1_4, a1_5, a1_6, a2⟩ hx
  obtain ⟨r, hr⟩ := Option.isSome_iff_exists.1 (show (r37 a0_0 a0_1 a0_2 a0_3 a0_4 a0_5 a0_6 a0_7 a1_0 a1_1 a1_2 a1_3 a1_4 a1_5 a1_6 a2).isSome = true from hx)
  have hres : T37.res (a0_0, a0_1, a0_2, a0_3, a0_4, a0_5, a0_6, a0_7, a1_0, a1_1, a1_2, a1_3, a1_4, a1_5, a1_6, a2) = [.c (.d (.int .i64 r.1)), .c (.d (.int .i64 r.2))] := by simp only [T37, hr, Option.getD_some]
  refine ⟨Nat.le_of_ble_eq_true rfl, fun stop S => ?_⟩
  rw [hres] at S
  unfold r37 at hr
  refine S.gx [] ?_
  obtain ⟨v1, hv1, hr⟩ := of_bind0 hr
  try simp only [hv1, Option.getD_some, Option.isSome_some, true_and, and_assoc]
  repeat refine gA ?_
  obtain rfl := Option.some.inj hr
  exact lf
theorem f37 : FnFact Tryd.prog 37 T37.sp := ⟨⟨Tryd.f37, Tryd.func37, by decide, rfl⟩, v37⟩
end

/- martensite/martensiteref04.hardness -/
def r88 (a0_0 : List (Int × Int × Int × Int)) (a0_1 : List (Int × Int × Int × Int × Int)) (a0_2 : List (Int × Int × Int)) (a0_3 : List (Int × Int)) (a0_4 : Int) (a0_5 : Int) (a0_6 : Int) (a0_7 : Int) (a1 : Int) : Option (Int × Int × Int × Int) :=
  some (a0_4, a0_5, a0_6, (if a0_6 < IntKind.i64.wrap (a0_7 - a1) then IntKind.i64.wrap (a0_7 - a1) else a0_6))
def T88 : TSpec ((List (Int × Int × Int × Int)) × (List (Int × Int × Int × Int × Int)) × (List (Int × Int × Int)) × (List (Int × Int)) × Int × Int × Int × Int × Int) where
  enc := fun ⟨a0_0, a0_1, a0_2, a0_3, a0_4, a0_5, a0_6, a0_7, a1⟩ => [.agg [encF 4 d_IIII a0_0, encF 5 d_IIIII a0_1, encF 3 d_III a0_2, encF 2 d_II a0_3, .int .i64 a0_4, .int .i64 a0_5, .int .i64 a0_6, .int .i64 a0_7], .c (.int .i64 a1)]
  dec a := (decF g_IIII (aCell a 0 0), decF g_IIIII (aCell a 0 1), decF g_III (aCell a 0 2), decF g_II (aCell a 0 3), dInt (aCell a 0 4), dInt (aCell a 0 5), dInt (aCell a 0 6), dInt (aCell a 0 7), dInt (aCell a 1 0))
  pre := fun ⟨a0_0, a0_1, a0_2, a0_3, a0_4, a0_5, a0_6, a0_7, a1⟩ => (r88 a0_0 a0_1 a0_2 a0_3 a0_4 a0_5 a0_6 a0_7 a1).isSome = true
  res := fun ⟨a0_0, a0_1, a0_2, a0_3, a0_4, a0_5, a0_6, a0_7, a1⟩ => [.agg [.d (.int .i64 (((r88 a0_0 a0_1 a0_2 a0_3 a0_4 a0_5 a0_6 a0_7 a1).getD default).1)), .d (.int .i64 (((r88 a0_0 a0_1 a0_2 a0_3 a0_4 a0_5 a0_6 a0_7 a1).getD default).2.1)), .d (.int .i64 (((r88 a0_0 a0_1 a0_2 a0_3 a0_4 a0_5 a0_6 a0_7 a1).getD default).2.2.1)), .d (.int .i64 (((r88 a0_0 a0_1 a0_2 a0_3 a0_4 a0_5 a0_6 a0_7 a1).getD default).2.2.2))]]
  al := false
theorem TP88 (c0 c1 c2 c3 c4 c5 c6 c7 c8 : D) : T88.sp.pre [.agg [c0, c1, c2, c3, c4, c5, c6, c7], .c c8] = (eqvArgs [.agg [c0, c1, c2, c3, c4, c5, c6, c7], .c c8] [.agg [encF 4 d_IIII (decF g_IIII c0), encF 5 d_IIIII (decF g_IIIII c1), encF 3 d_III (decF g_III c2), encF 2 d_II (decF g_II c3), .int .i64 (dInt c4), .int .i64 (dInt c5), .int .i64 (dInt c6), .int .i64 (dInt c7)], .c (.int .i64 (dInt c8))] ∧ (r88 (decF g_IIII c0) (decF g_IIIII c1) (decF g_III c2) (decF g_II c3) (dInt c4) (dInt c5) (dInt c6) (dInt c7) (dInt c8)).isSome = true) := (rfl)
theorem TR88 (c0 c1 c2 c3 c4 c5 c6 c7 c8 : D) : T88.sp.res [.agg [c0, c1, c2, c3, c4, c5, c6, c7], .c c8] = [.agg [.d (.int .i64 (((r88 (decF g_IIII c0) (decF g_IIIII c1) (decF g_III c2) (decF g_II c3) (dInt c4) (dInt c5) (dInt c6) (dInt c7) (dInt c8)).getD default).1)), .d (.int .i64 (((r88 (decF g_IIII c0) (decF g_IIIII c1) (decF g_III c2) (decF g_II c3) (dInt c4) (dInt c5) (dInt c6) (dInt c7) (dInt c8)).getD default).2.1)), .d (.int .i64 (((r88 (decF g_IIII c0) (decF g_IIIII c1) (decF g_III c2) (decF g_II c3) (dInt c4) (dInt c5) (dInt c6) (dInt c7) (dInt c8)).getD default).2.2.1)), .d (.int .i64 (((r88 (decF g_IIII c0) (decF g_IIIII c1) (decF g_III c2) (decF g_II c3) (dInt c4) (dInt c5) (dInt c6) (dInt c7) (dInt c8)).getD default).2.2.2))]] := (rfl)
theorem TA88 : T88.sp.alias = false := (rfl)
def tb88 : Fns := lk []
theorem tb88_ok : FnsOk Tryd.prog tb88 := FnsOk.nil
attribute [go_sem] TP88 TR88 TA88
section
attribute [local go_sem] T88 Tryd.results88
theorem v88 : Valid Tryd.prog 88 T88.sp := by
  refine valid_t (fn := Tryd.f88) (n := 24) ty_ok tb88_ok Tryd.func88 rfl Tryd.ntmps88 ?_
  rintro ⟨a0_0, a0_1, a0_2, a0_3, a0_4, a0_5, a0_6, a0_7, a1⟩ hx
  obtain ⟨r, hr⟩ := Option.isSome_iff_exists.1 (show (r88 a0_0 a0_1 a0_2 a0_3 a0_4 a0_5 a0_6 a0_7 a1).isSome = true from hx)
  have hres : T88.res (a0_0, a0_1, a0_2, a0_3, a0_4, a0_5, a0_6, a0_7, a1) = [.agg [.d (.int .i64 r.1), .d (.int .i64 r.2.1), .d (.int .i64 r.2.2.1), .d (.int .i64 r.2.2.2)]] := by simp only [T88, hr, Option.getD_some]
  refine ⟨Nat.le_of_ble_eq_true rfl, fun stop S => ?_⟩
  rw [hres] at S
  unfold r88 at hr
  refine S.gx [] ?_
  repeat refine gA ?_
  obtain rfl := Option.some.inj hr
  exact lf
theorem f88 : FnFact Tryd.prog 88 T88.sp := ⟨⟨Tryd.f88, Tryd.func88, by decide, rfl⟩, v88⟩
end

/- martensite/martensiteref04.Hardness -/
def r38 (a0_0 : List (Int × Int × Int × Int)) (a0_1 : List (Int × Int × Int × Int × Int)) (a0_2 : List (Int × Int × Int)) (a0_3 : List (Int × Int)) (a0_4 : Int) (a0_5 : Int) (a0_6 : Int) (a0_7 : Int) (a1_0 : Int) (a1_1 : Int) (a1_2 : Int) (a1_3 : Int) (a1_4 : Int) (a1_5 : Int) (a1_6 : Int) : Option (Int) :=
  (r88 a0_0 a0_1 a0_2 a0_3 a0_4 a0_5 a0_6 a0_7 a1_6).bind fun v1 =>
   some (IntKind.i64.wrap ((IntKind.i64.wrap ((IntKind.i64.wrap ((IntKind.i64.wrap ((IntKind.i64.wrap (a1_0 * v1.1)) + (IntKind.i64.wrap (a1_1 * v1.2.1)))) + (IntKind.i64.wrap (a1_2 * v1.2.2.1)))) + (IntKind.i64.wrap (a1_3 * v1.2.2.2)))).tdiv 1000000))
def T38 : TSpec ((List (Int × Int × Int × Int)) × (List (Int × Int × Int × Int × Int)) × (List (Int × Int × Int)) × (List (Int × Int)) × Int × Int × Int × Int × Int × Int × Int × Int × Int × Int × Int) where
  enc := fun ⟨a0_0, a0_1, a0_2, a0_3, a0_4, a0_5, a0_6, a0_7, a1_0, a1_1, a1_2, a1_3, a1_4, a1_5, a1_6⟩ => [.agg [encF 4 d_IIII a0_0, encF 5 d_IIIII a0_1, encF 3 d_III a0_2, encF 2 d_II a0_3, .int .i64 a0_4, .int .i64 a0_5, .int .i64 a0_6, .int .i64 a0_7], .agg [.int .i64 a1_0, .int .i64 a1_1, .int .i64 a1_2, .int .i64 a1_3, .int .i64 a1_4, .int .i64 a1_5, .int .i64 a1_6]]
  dec a := (decF g_IIII (aCell a 0 0), decF g_IIIII (aCell a 0 1), decF g_III (aCell a 0 2), decF g_II (aCell a 0 3), dInt (aCell a 0 4), dInt (aCell a 0 5), dInt (aCell a 0 6), dInt (aCell a 0 7), dInt (aCell a 1 0), dInt (aCell a 1 1), dInt (aCell a 1 2), dInt (aCell a 1 3), dInt (aCell a 1 4), dInt (aCell a 1 5), dInt (aCell a 1 6))
  pre := fun ⟨a0_0, a0_1, a0_2, a0_3, a0_4, a0_5, a0_6, a0_7, a1_0, a1_1, a1_2, a1_3, a1_4, a1_5, a1_6⟩ => (r38 a0_0 a0_1 a0_2 a0_3 a0_4 a0_5 a0_6 a0_7 a1_0 a1_1 a1_2 a1_3 a1_4 a1_5 a1_6).isSome = true
  res := fun ⟨a0_0, a0_1, a0_2, a0_3, a0_4, a0_5, a0_6, a0_7, a1_0, a1_1, a1_2, a1_3, a1_4, a1_5, a1_6⟩ => [.c (.d (.int .i64 ((r38 a0_0 a0_1 a0_2 a0_3 a0_4 a0_5 a0_6 a0_7 a1_0 a1_1 a1_2 a1_3 a1_4 a1_5 a1_6).getD default)))]
  al := false
theorem TP38 (c0 c1 c2 c3 c4 c5 c6 c7 c8 c9 c10 c11 c12 c13 c14 : D) : T38.sp.pre [.agg [c0, c1, c2, c3, c4, c5, c6, c7], .agg [c8, c9, c10, c11, c12, c13, c14]] = (eqvArgs [.agg [c0, c1, c2, c3, c4, c5, c6, c7], .agg [c8, c9, c10, c11, c12, c13, c14]] [.agg [encF 4 d_IIII (decF g_IIII c0), encF 5 d_IIIII (decF g_IIIII c1), encF 3 d_III (decF g_III c2), encF 2 d_II (decF g_II c3), .int .i64 (dInt c4), .int .i64 (dInt c5), .int .i64 (dInt c6), .int .i64 (dInt c7)], .agg [.int .i64 (dInt c8), .int .i64 (dInt c9), .int .i64 (dInt c10), .int .i64 (dInt c11), .int .i64 (dInt c12), .int .i64 (dInt c13), .int .i64 (dInt c14)]] ∧ (r38 (decF g_IIII c0) (decF g_IIIII c1) (decF g_III c2) (decF g_II c3) (dInt c4) (dInt c5) (dInt c6) (dInt c7) (dInt c8) (dInt c9) (dInt c10) (dInt c11) (dInt c12) (dInt c13) (dInt c14)).isSome = true) := (rfl)
theorem TR38 (c0 c1 c2 c3 c4 c5 c6 c7 c8 c9 c10 c11 c12 c13 c14 : D) : T38.sp.res [.agg [c0, c1, c2, c3, c4, c5, c6, c7], .agg [c8, c9, c10, c11, c12, c13, c14]] = [.c (.d (.int .i64 ((r38 (decF g_IIII c0) (decF g_IIIII c1) (decF g_III c2) (decF g_II c3) (dInt c4) (dInt c5) (dInt c6) (dInt c7) (dInt c8) (dInt c9) (dInt c10) (dInt c11) (dInt c12) (dInt c13) (dInt c14)).getD default)))] := (rfl)
theorem TA38 : T38.sp.alias = false := (rfl)
def tb38 : Fns := lk [(88, T88.sp)]
theorem tb38_ok : FnsOk Tryd.prog tb38 := .cons f88 (FnsOk.nil)
theorem tb38_88 : tb38 88 = some T88.sp := rfl
attribute [go_sem] TP38 TR38 TA38
section
attribute [local go_sem] T38 tb38_88 Tryd.results38
theorem v38 : Valid Tryd.prog 38 T38.sp := by
  refine valid_t (fn := Tryd.f38) (n := 34) ty_ok tb38_ok Tryd.func38 rfl Tryd.ntmps38 ?_
  rintro ⟨a0_0, a0_1, a0_2, a0_3, a0_4, a0_5, a0_6, a0_7, a1_0, a1_1, a1_2, a1_3, a1_4, a1_5, a1_6⟩ hx
  obtain ⟨r, hr⟩ := Option.isSome_iff_exists.1 (show (r38 a0_0 a0_1 a0_2 a0_3 a0_4 a0_5 a0_6 a0_7 a1_0 a1_1 a1_2 a1_3 a1_4 a1_5 a1_6).isSome = true from hx)
  have hres : T38.res (a0_0, a0_1, a0_2, a0_3, a0_4, a0_5, a0_6, a0_7, a1_0, a1_1, a1_2, a1_3, a1_4, a1_5, a1_6) = [.c (.d (.int .i64 r))] := by simp only [T38, hr, Option.getD_some]
  refine ⟨Nat.le_of_ble_eq_true rfl, fun stop S => ?_⟩
  rw [hres] at S
  unfold r38 at hr
  refine S.gx [] ?_
  obtain ⟨v1, hv1, hr⟩ := of_bind0 hr
  try simp only [hv1, Option.getD_some, Option.isSome_some, true_and, and_assoc]
  repeat refine gA ?_
  obtain rfl := Option.some.inj hr
  exact lf
theorem f38 : FnFact Tryd.prog 38 T38.sp := ⟨⟨Tryd.f38, Tryd.func38, by decide, rfl⟩, v38⟩
end

/- martensite/martensiteref04.picked -/
def r89 (a0_0 : Int) (a0_1 : Int) (a1 : Int) : Option (Int) :=
  some (IntKind.i64.wrap (a0_0 + (IntKind.i64.wrap ((IntKind.i64.wrap ((IntKind.i64.wrap (a0_1 - a0_0)) * a1)).tdiv 1000))))
def T89 : TSpec (Int × Int × Int) where
  enc := fun ⟨a0_0, a0_1, a1⟩ => [.agg [.int .i64 a0_0, .int .i64 a0_1], .c (.int .i64 a1)]
  dec a := (dInt (aCell a 0 0), dInt (aCell a 0 1), dInt (aCell a 1 0))
  pre := fun ⟨a0_0, a0_1, a1⟩ => (r89 a0_0 a0_1 a1).isSome = true
  res := fun ⟨a0_0, a0_1, a1⟩ => [.c (.d (.int .i64 ((r89 a0_0 a0_1 a1).getD default)))]
  al := false
theorem TP89 (c0 c1 c2 : D) : T89.sp.pre [.agg [c0, c1], .c c2] = (eqvArgs [.agg [c0, c1], .c c2] [.agg [.int .i64 (dInt c0), .int .i64 (dInt c1)], .c (.int .i64 (dInt c2))] ∧ (r89 (dInt c0) (dInt c1) (dInt c2)).isSome = true) := (rfl)
theorem TR89 (c0 c1 c2 : D) : T89.sp.res [.agg [c0, c1], .c c2] = [.c (.d (.int .i64 ((r89 (dInt c0) (dInt c1) (dInt c2)).getD default)))] := (rfl)
theorem TA89 : T89.sp.alias = false := (rfl)
def tb89 : Fns := lk []
theorem tb89_ok : FnsOk Tryd.prog tb89 := FnsOk.nil
attribute [go_sem] TP89 TR89 TA89
section
attribute [local go_sem] T89 Tryd.results89
theorem v89 : Valid Tryd.prog 89 T89.sp := by
  refine valid_t (fn := Tryd.f89) (n := 16) ty_ok tb89_ok Tryd.func89 rfl Tryd.ntmps89 ?_
  rintro ⟨a0_0, a0_1, a1⟩ hx
  obtain ⟨r, hr⟩ := Option.isSome_iff_exists.1 (show (r89 a0_0 a0_1 a1).isSome = true from hx)
  have hres : T89.res (a0_0, a0_1, a1) = [.c (.d (.int .i64 r))] := by simp only [T89, hr, Option.getD_some]
  refine ⟨Nat.le_of_ble_eq_true rfl, fun stop S => ?_⟩
  rw [hres] at S
  unfold r89 at hr
  refine S.gx [] ?_
  repeat refine gA ?_
  obtain rfl := Option.some.inj hr
  exact lf
theorem f89 : FnFact Tryd.prog 89 T89.sp := ⟨⟨Tryd.f89, Tryd.func89, by decide, rfl⟩, v89⟩
end

/- martensite/martensiteref04.martensite -/
def r90 (a0 : Int) (a1 : Int) (a2 : Int) : Option (Int) :=
  some (if a1 < IntKind.i64.wrap ((IntKind.i64.wrap ((IntKind.i64.wrap (a0 + a1)) * a2)).tdiv 1000000) then IntKind.i64.wrap ((IntKind.i64.wrap ((IntKind.i64.wrap (a0 + a1)) * a2)).tdiv 1000000) else a1)
def T90 : TSpec (Int × Int × Int) where
  enc := fun ⟨a0, a1, a2⟩ => [.c (.int .i64 a0), .c (.int .i64 a1), .c (.int .i64 a2)]
  dec a := (dInt (aCell a 0 0), dInt (aCell a 1 0), dInt (aCell a 2 0))
  pre := fun ⟨a0, a1, a2⟩ => (r90 a0 a1 a2).isSome = true
  res := fun ⟨a0, a1, a2⟩ => [.c (.d (.int .i64 ((r90 a0 a1 a2).getD default)))]
  al := false
theorem TP90 (c0 c1 c2 : D) : T90.sp.pre [.c c0, .c c1, .c c2] = (eqvArgs [.c c0, .c c1, .c c2] [.c (.int .i64 (dInt c0)), .c (.int .i64 (dInt c1)), .c (.int .i64 (dInt c2))] ∧ (r90 (dInt c0) (dInt c1) (dInt c2)).isSome = true) := (rfl)
theorem TR90 (c0 c1 c2 : D) : T90.sp.res [.c c0, .c c1, .c c2] = [.c (.d (.int .i64 ((r90 (dInt c0) (dInt c1) (dInt c2)).getD default)))] := (rfl)
theorem TA90 : T90.sp.alias = false := (rfl)
def tb90 : Fns := lk []
theorem tb90_ok : FnsOk Tryd.prog tb90 := FnsOk.nil
attribute [go_sem] TP90 TR90 TA90
section
attribute [local go_sem] T90 Tryd.results90
theorem v90 : Valid Tryd.prog 90 T90.sp := by
  refine valid_t (fn := Tryd.f90) (n := 15) ty_ok tb90_ok Tryd.func90 rfl Tryd.ntmps90 ?_
  rintro ⟨a0, a1, a2⟩ hx
  obtain ⟨r, hr⟩ := Option.isSome_iff_exists.1 (show (r90 a0 a1 a2).isSome = true from hx)
  have hres : T90.res (a0, a1, a2) = [.c (.d (.int .i64 r))] := by simp only [T90, hr, Option.getD_some]
  refine ⟨Nat.le_of_ble_eq_true rfl, fun stop S => ?_⟩
  rw [hres] at S
  unfold r90 at hr
  refine S.gx [] ?_
  repeat refine gA ?_
  obtain rfl := Option.some.inj hr
  exact lf
theorem f90 : FnFact Tryd.prog 90 T90.sp := ⟨⟨Tryd.f90, Tryd.func90, by decide, rfl⟩, v90⟩
end

/- martensite/martensiteref04.TemperAt -/
def b91_1 (a0_3 : List (Int × Int)) (a1 : Int) : (Int × Int) → Ctl (Int × Int) (Int) := fun s1 =>
  if (decide (s1.2 < (a0_3.length : Int))) = true then
   if 0 ≤ s1.2 ∧ s1.2 < (a0_3.length : Int) then
    if (decide (((a0_3.getD s1.2.toNat default).1) ≤ a1)) = true then
     .next (s1.2, IntKind.i64.wrap (s1.2 + 1))
     else .next (s1.1, IntKind.i64.wrap (s1.2 + 1))
    else .out none
   else .out (some s1.1)
def r91 (a0_0 : List (Int × Int × Int × Int)) (a0_1 : List (Int × Int × Int × Int × Int)) (a0_2 : List (Int × Int × Int)) (a0_3 : List (Int × Int)) (a0_4 : Int) (a0_5 : Int) (a0_6 : Int) (a0_7 : Int) (a1 : Int) : Option (Int) :=
  iterC (b91_1 a0_3 a1) 1000000000 ((-1), 0)
def T91 : TSpec ((List (Int × Int × Int × Int)) × (List (Int × Int × Int × Int × Int)) × (List (Int × Int × Int)) × (List (Int × Int)) × Int × Int × Int × Int × Int) where
  enc := fun ⟨a0_0, a0_1, a0_2, a0_3, a0_4, a0_5, a0_6, a0_7, a1⟩ => [.agg [encF 4 d_IIII a0_0, encF 5 d_IIIII a0_1, encF 3 d_III a0_2, encF 2 d_II a0_3, .int .i64 a0_4, .int .i64 a0_5, .int .i64 a0_6, .int .i64 a0_7], .c (.int .i64 a1)]
  dec a := (decF g_IIII (aCell a 0 0), decF g_IIIII (aCell a 0 1), decF g_III (aCell a 0 2), decF g_II (aCell a 0 3), dInt (aCell a 0 4), dInt (aCell a 0 5), dInt (aCell a 0 6), dInt (aCell a 0 7), dInt (aCell a 1 0))
  pre := fun ⟨a0_0, a0_1, a0_2, a0_3, a0_4, a0_5, a0_6, a0_7, a1⟩ => (r91 a0_0 a0_1 a0_2 a0_3 a0_4 a0_5 a0_6 a0_7 a1).isSome = true
  res := fun ⟨a0_0, a0_1, a0_2, a0_3, a0_4, a0_5, a0_6, a0_7, a1⟩ => [.c (.d (.int .i64 ((r91 a0_0 a0_1 a0_2 a0_3 a0_4 a0_5 a0_6 a0_7 a1).getD default)))]
  al := false
theorem TP91 (c0 c1 c2 c3 c4 c5 c6 c7 c8 : D) : T91.sp.pre [.agg [c0, c1, c2, c3, c4, c5, c6, c7], .c c8] = (eqvArgs [.agg [c0, c1, c2, c3, c4, c5, c6, c7], .c c8] [.agg [encF 4 d_IIII (decF g_IIII c0), encF 5 d_IIIII (decF g_IIIII c1), encF 3 d_III (decF g_III c2), encF 2 d_II (decF g_II c3), .int .i64 (dInt c4), .int .i64 (dInt c5), .int .i64 (dInt c6), .int .i64 (dInt c7)], .c (.int .i64 (dInt c8))] ∧ (r91 (decF g_IIII c0) (decF g_IIIII c1) (decF g_III c2) (decF g_II c3) (dInt c4) (dInt c5) (dInt c6) (dInt c7) (dInt c8)).isSome = true) := (rfl)
theorem TR91 (c0 c1 c2 c3 c4 c5 c6 c7 c8 : D) : T91.sp.res [.agg [c0, c1, c2, c3, c4, c5, c6, c7], .c c8] = [.c (.d (.int .i64 ((r91 (decF g_IIII c0) (decF g_IIIII c1) (decF g_III c2) (decF g_II c3) (dInt c4) (dInt c5) (dInt c6) (dInt c7) (dInt c8)).getD default)))] := (rfl)
theorem TA91 : T91.sp.alias = false := (rfl)
def tb91 : Fns := lk []
theorem tb91_ok : FnsOk Tryd.prog tb91 := FnsOk.nil
attribute [go_sem] TP91 TR91 TA91
section
attribute [local go_sem] T91 Tryd.results91
theorem v91 : Valid Tryd.prog 91 T91.sp := by
  refine valid_t (fn := Tryd.f91) (n := 24) ty_ok tb91_ok Tryd.func91 rfl Tryd.ntmps91 ?_
  rintro ⟨a0_0, a0_1, a0_2, a0_3, a0_4, a0_5, a0_6, a0_7, a1⟩ hx
  obtain ⟨r, hr⟩ := Option.isSome_iff_exists.1 (show (r91 a0_0 a0_1 a0_2 a0_3 a0_4 a0_5 a0_6 a0_7 a1).isSome = true from hx)
  have hres : T91.res (a0_0, a0_1, a0_2, a0_3, a0_4, a0_5, a0_6, a0_7, a1) = [.c (.d (.int .i64 r))] := by simp only [T91, hr, Option.getD_some]
  refine ⟨Nat.le_of_ble_eq_true rfl, fun stop S => ?_⟩
  rw [hres] at S
  unfold r91 at hr
  refine S.gx [] ?_
  repeat refine gA ?_
  refine S.sees [1, 2, 5, 6] [(2, 2)] [] ?_ (Stop.iter S (fun s1 => ⟨[(1, .c (.d (.int .i64 a1))), (2, .c (.ref 2 0)), (5, .c (.d (.int .i64 s1.1))), (6, .c (.d (.int .i64 s1.2)))], [(2, [.d (encF 4 d_IIII a0_0), .d (encF 5 d_IIIII a0_1), .d (encF 3 d_III a0_2), .d (encF 2 d_II a0_3), .d (.int .i64 a0_4), .d (.int .i64 a0_5), .d (.int .i64 a0_6), .d (.int .i64 a0_7)])], []⟩) (b91_1 a0_3 a1) (fun q => q = r) hr rfl ?_)
  · exact lf
  · intro s1 hr
    unfold b91_1 at hr
    refine S.gx [] ?_
    repeat refine gA ?_
    refine ⟨fun hc => ?_, fun hc => ?_⟩
    · replace hr := ifP1 hr hc
      obtain ⟨hg1, hr⟩ := of_guard1 hr
      repeat refine gA ?_
      refine ⟨fun hc => ?_, fun hc => ?_⟩
      · replace hr := ifP1 hr hc
        repeat refine gA ?_
        refine S.sees [1, 2, 5, 6] [(2, 2)] [] ?_ hr
        exact lf
      · replace hr := ifN1 hr hc
        repeat refine gA ?_
        refine S.sees [1, 2, 5, 6] [(2, 2)] [] ?_ hr
        exact lf
    · replace hr := ifN1 hr hc
      repeat refine gA ?_
      have hr := of_out0 hr
      repeat refine gA ?_
      obtain rfl := Option.some.inj hr
      exact lf
theorem f91 : FnFact Tryd.prog 91 T91.sp := ⟨⟨Tryd.f91, Tryd.func91, by decide, rfl⟩, v91⟩
end

theorem stop_join39 {σ : Type} {k : List K} {stop : List K → St → Prop} (head : σ → St) (R : σ → Prop) {goal : Prop} (main : (∀ s, R s → stop k (head s)) → goal) (j : ∀ s, R s → stop k (head s)) : goal := main j
/- martensite/martensiteref04.Step -/
def j39_1 (a1_0 : Int) (a1_1 : Int) (a1_2 : Int) (a1_3 : Int) (v2 : Int) : (Int) → Option (Int × Int × Int × Int × Int × Int × Int) := fun s1 =>
  some (IntKind.i64.wrap ((IntKind.i64.wrap ((IntKind.i64.wrap (a1_0 + a1_2)) + a1_3)) - (if v2 < IntKind.i64.wrap ((IntKind.i64.wrap (a1_0 + a1_2)) + a1_3) then v2 else IntKind.i64.wrap ((IntKind.i64.wrap (a1_0 + a1_2)) + a1_3))), IntKind.i64.wrap (a1_1 + (if v2 < IntKind.i64.wrap ((IntKind.i64.wrap (a1_0 + a1_2)) + a1_3) then v2 else IntKind.i64.wrap ((IntKind.i64.wrap (a1_0 + a1_2)) + a1_3))), 0, 0, 0, s1, 0)
def j39_3 (a0_0 : List (Int × Int × Int × Int)) (a0_1 : List (Int × Int × Int × Int × Int)) (a0_2 : List (Int × Int × Int)) (a0_3 : List (Int × Int)) (a0_4 : Int) (a0_5 : Int) (a0_6 : Int) (a0_7 : Int) (a1_0 : Int) (a1_5 : Int) (a1_6 : Int) (a2 : Int) (s2 : Int × Int × Int) : (Int × Int) → Option (Int × Int × Int × Int × Int × Int × Int) := fun s3 =>
  (r91 a0_0 a0_1 a0_2 a0_3 a0_4 a0_5 a0_6 a0_7 a2).bind fun v14 =>
   if (decide (v14 ≥ 0)) = true then
    if 0 ≤ v14 ∧ v14 < (a0_3.length : Int) then
     some (a1_0, s3.1, s2.2.1, s3.2, s2.2.2, a1_5, (if IntKind.i64.wrap (a1_6 + ((a0_3.getD v14.toNat default).2)) < 1000000 then IntKind.i64.wrap (a1_6 + ((a0_3.getD v14.toNat default).2)) else 1000000))
     else none
    else some (a1_0, s3.1, s2.2.1, s3.2, s2.2.2, a1_5, a1_6)
def j39_2 (a0_0 : List (Int × Int × Int × Int)) (a0_1 : List (Int × Int × Int × Int × Int)) (a0_2 : List (Int × Int × Int)) (a0_3 : List (Int × Int)) (a0_4 : Int) (a0_5 : Int) (a0_6 : Int) (a0_7 : Int) (a1_0 : Int) (a1_3 : Int) (a1_5 : Int) (a1_6 : Int) (a2 : Int) (a3_2 : Int) : (Int × Int × Int) → Option (Int × Int × Int × Int × Int × Int × Int) := fun s2 =>
  (r35 a0_0 a0_1 a0_2 a0_3 a0_4 a0_5 a0_6 a0_7 a2).bind fun v10 =>
   if (decide (v10 ≥ 0)) = true then
    if 0 ≤ v10 ∧ v10 < (a0_2.length : Int) then
     (r89 ((a0_2.getD v10.toNat default).2.1) ((a0_2.getD v10.toNat default).2.2) a3_2).bind fun v11 =>
      (r90 s2.1 a1_3 v11).bind fun v12 =>
       j39_3 a0_0 a0_1 a0_2 a0_3 a0_4 a0_5 a0_6 a0_7 a1_0 a1_5 a1_6 a2 s2 (IntKind.i64.wrap ((IntKind.i64.wrap (s2.1 + a1_3)) - v12), v12)
     else none
    else j39_3 a0_0 a0_1 a0_2 a0_3 a0_4 a0_5 a0_6 a0_7 a1_0 a1_5 a1_6 a2 s2 (s2.1, a1_3)
def r39 (a0_0 : List (Int × Int × Int × Int)) (a0_1 : List (Int × Int × Int × Int × Int)) (a0_2 : List (Int × Int × Int)) (a0_3 : List (Int × Int)) (a0_4 : Int) (a0_5 : Int) (a0_6 : Int) (a0_7 : Int) (a1_0 : Int) (a1_1 : Int) (a1_2 : Int) (a1_3 : Int) (a1_4 : Int) (a1_5 : Int) (a1_6 : Int) (a2 : Int) (a3_0 : Int) (a3_1 : Int) (a3_2 : Int) : Option (Int × Int × Int × Int × Int × Int × Int) :=
  (r33 a0_0 a0_1 a0_2 a0_3 a0_4 a0_5 a0_6 a0_7 a2).bind fun v1 =>
   if (decide (v1 ≥ 0)) = true then
    if 0 ≤ v1 ∧ v1 < (a0_0.length : Int) then
     (r89 ((a0_0.getD v1.toNat default).2.1) ((a0_0.getD v1.toNat default).2.2.1) a3_0).bind fun v2 =>
      if (decide ((IntKind.i64.wrap (a1_1 + (if v2 < IntKind.i64.wrap ((IntKind.i64.wrap (a1_0 + a1_2)) + a1_3) then v2 else IntKind.i64.wrap ((IntKind.i64.wrap (a1_0 + a1_2)) + a1_3)))) > 0)) = true then
       if 0 ≤ v1 ∧ v1 < (a0_0.length : Int) then
        j39_1 a1_0 a1_1 a1_2 a1_3 v2 (if IntKind.i64.wrap (a1_5 + ((a0_0.getD v1.toNat default).2.2.2)) < 100000 then IntKind.i64.wrap (a1_5 + ((a0_0.getD v1.toNat default).2.2.2)) else 100000)
        else none
       else j39_1 a1_0 a1_1 a1_2 a1_3 v2 a1_5
     else none
    else (r34 a0_0 a0_1 a0_2 a0_3 a0_4 a0_5 a0_6 a0_7 a2).bind fun v5 =>
     if (decide (v5 ≥ 0)) = true then
      if 0 ≤ v5 ∧ v5 < (a0_1.length : Int) then
       (r89 ((a0_1.getD v5.toNat default).2.1) ((a0_1.getD v5.toNat default).2.2.1) a3_1).bind fun v6 =>
        if ((if IntKind.i64.wrap (a1_4 + v6) < 1000000 then IntKind.i64.wrap (a1_4 + v6) else 1000000) == 1000000) = true then
         if 0 ≤ v5 ∧ v5 < (a0_1.length : Int) then
          (r89 ((a0_1.getD v5.toNat default).2.2.2.1) ((a0_1.getD v5.toNat default).2.2.2.2) a3_1).bind fun v7 =>
           j39_2 a0_0 a0_1 a0_2 a0_3 a0_4 a0_5 a0_6 a0_7 a1_0 a1_3 a1_5 a1_6 a2 a3_2 (IntKind.i64.wrap (a1_1 - (if v7 < a1_1 then v7 else a1_1)), IntKind.i64.wrap (a1_2 + (if v7 < a1_1 then v7 else a1_1)), (if IntKind.i64.wrap (a1_4 + v6) < 1000000 then IntKind.i64.wrap (a1_4 + v6) else 1000000))
          else none
         else j39_2 a0_0 a0_1 a0_2 a0_3 a0_4 a0_5 a0_6 a0_7 a1_0 a1_3 a1_5 a1_6 a2 a3_2 (a1_1, a1_2, (if IntKind.i64.wrap (a1_4 + v6) < 1000000 then IntKind.i64.wrap (a1_4 + v6) else 1000000))
       else none
      else j39_2 a0_0 a0_1 a0_2 a0_3 a0_4 a0_5 a0_6 a0_7 a1_0 a1_3 a1_5 a1_6 a2 a3_2 (a1_1, a1_2, a1_4)
def T39 : TSpec ((List (Int × Int × Int × Int)) × (List (Int × Int × Int × Int × Int)) × (List (Int × Int × Int)) × (List (Int × Int)) × Int × Int × Int × Int × Int × Int × Int × Int × Int × Int × Int × Int × Int × Int × Int) where
  enc := fun ⟨a0_0, a0_1, a0_2, a0_3, a0_4, a0_5, a0_6, a0_7, a1_0, a1_1, a1_2, a1_3, a1_4, a1_5, a1_6, a2, a3_0, a3_1, a3_2⟩ => [.agg [encF 4 d_IIII a0_0, encF 5 d_IIIII a0_1, encF 3 d_III a0_2, encF 2 d_II a0_3, .int .i64 a0_4, .int .i64 a0_5, .int .i64 a0_6, .int .i64 a0_7], .agg [.int .i64 a1_0, .int .i64 a1_1, .int .i64 a1_2, .int .i64 a1_3, .int .i64 a1_4, .int .i64 a1_5, .int .i64 a1_6], .c (.int .i64 a2), .agg [.int .i64 a3_0, .int .i64 a3_1, .int .i64 a3_2]]
  dec a := (decF g_IIII (aCell a 0 0), decF g_IIIII (aCell a 0 1), decF g_III (aCell a 0 2), decF g_II (aCell a 0 3), dInt (aCell a 0 4), dInt (aCell a 0 5), dInt (aCell a 0 6), dInt (aCell a 0 7), dInt (aCell a 1 0), dInt (aCell a 1 1), dInt (aCell a 1 2), dInt (aCell a 1 3), dInt (aCell a 1 4), dInt (aCell a 1 5), dInt (aCell a 1 6), dInt (aCell a 2 0), dInt (aCell a 3 0), dInt (aCell a 3 1), dInt (aCell a 3 2))
  pre := fun ⟨a0_0, a0_1, a0_2, a0_3, a0_4, a0_5, a0_6, a0_7, a1_0, a1_1, a1_2, a1_3, a1_4, a1_5, a1_6, a2, a3_0, a3_1, a3_2⟩ => (r39 a0_0 a0_1 a0_2 a0_3 a0_4 a0_5 a0_6 a0_7 a1_0 a1_1 a1_2 a1_3 a1_4 a1_5 a1_6 a2 a3_0 a3_1 a3_2).isSome = true
  res := fun ⟨a0_0, a0_1, a0_2, a0_3, a0_4, a0_5, a0_6, a0_7, a1_0, a1_1, a1_2, a1_3, a1_4, a1_5, a1_6, a2, a3_0, a3_1, a3_2⟩ => [.agg [.d (.int .i64 (((r39 a0_0 a0_1 a0_2 a0_3 a0_4 a0_5 a0_6 a0_7 a1_0 a1_1 a1_2 a1_3 a1_4 a1_5 a1_6 a2 a3_0 a3_1 a3_2).getD default).1)), .d (.int .i64 (((r39 a0_0 a0_1 a0_2 a0_3 a0_4 a0_5 a0_6 a0_7 a1_0 a1_1 a1_2 a1_3 a1_4 a1_5 a1_6 a2 a3_0 a3_1 a3_2).getD default).2.1)), .d (.int .i64 (((r39 a0_0 a0_1 a0_2 a0_3 a0_4 a0_5 a0_6 a0_7 a1_0 a1_1 a1_2 a1_3 a1_4 a1_5 a1_6 a2 a3_0 a3_1 a3_2).getD default).2.2.1)), .d (.int .i64 (((r39 a0_0 a0_1 a0_2 a0_3 a0_4 a0_5 a0_6 a0_7 a1_0 a1_1 a1_2 a1_3 a1_4 a1_5 a1_6 a2 a3_0 a3_1 a3_2).getD default).2.2.2.1)), .d (.int .i64 (((r39 a0_0 a0_1 a0_2 a0_3 a0_4 a0_5 a0_6 a0_7 a1_0 a1_1 a1_2 a1_3 a1_4 a1_5 a1_6 a2 a3_0 a3_1 a3_2).getD default).2.2.2.2.1)), .d (.int .i64 (((r39 a0_0 a0_1 a0_2 a0_3 a0_4 a0_5 a0_6 a0_7 a1_0 a1_1 a1_2 a1_3 a1_4 a1_5 a1_6 a2 a3_0 a3_1 a3_2).getD default).2.2.2.2.2.1)), .d (.int .i64 (((r39 a0_0 a0_1 a0_2 a0_3 a0_4 a0_5 a0_6 a0_7 a1_0 a1_1 a1_2 a1_3 a1_4 a1_5 a1_6 a2 a3_0 a3_1 a3_2).getD default).2.2.2.2.2.2))]]
  al := false
theorem TP39 (c0 c1 c2 c3 c4 c5 c6 c7 c8 c9 c10 c11 c12 c13 c14 c15 c16 c17 c18 : D) : T39.sp.pre [.agg [c0, c1, c2, c3, c4, c5, c6, c7], .agg [c8, c9, c10, c11, c12, c13, c14], .c c15, .agg [c16, c17, c18]] = (eqvArgs [.agg [c0, c1, c2, c3, c4, c5, c6, c7], .agg [c8, c9, c10, c11, c12, c13, c14], .c c15, .agg [c16, c17, c18]] [.agg [encF 4 d_IIII (decF g_IIII c0), encF 5 d_IIIII (decF g_IIIII c1), encF 3 d_III (decF g_III c2), encF 2 d_II (decF g_II c3), .int .i64 (dInt c4), .int .i64 (dInt c5), .int .i64 (dInt c6), .int .i64 (dInt c7)], .agg [.int .i64 (dInt c8), .int .i64 (dInt c9), .int .i64 (dInt c10), .int .i64 (dInt c11), .int .i64 (dInt c12), .int .i64 (dInt c13), .int .i64 (dInt c14)], .c (.int .i64 (dInt c15)), .agg [.int .i64 (dInt c16), .int .i64 (dInt c17), .int .i64 (dInt c18)]] ∧ (r39 (decF g_IIII c0) (decF g_IIIII c1) (decF g_III c2) (decF g_II c3) (dInt c4) (dInt c5) (dInt c6) (dInt c7) (dInt c8) (dInt c9) (dInt c10) (dInt c11) (dInt c12) (dInt c13) (dInt c14) (dInt c15) (dInt c16) (dInt c17) (dInt c18)).isSome = true) := (rfl)
theorem TR39 (c0 c1 c2 c3 c4 c5 c6 c7 c8 c9 c10 c11 c12 c13 c14 c15 c16 c17 c18 : D) : T39.sp.res [.agg [c0, c1, c2, c3, c4, c5, c6, c7], .agg [c8, c9, c10, c11, c12, c13, c14], .c c15, .agg [c16, c17, c18]] = [.agg [.d (.int .i64 (((r39 (decF g_IIII c0) (decF g_IIIII c1) (decF g_III c2) (decF g_II c3) (dInt c4) (dInt c5) (dInt c6) (dInt c7) (dInt c8) (dInt c9) (dInt c10) (dInt c11) (dInt c12) (dInt c13) (dInt c14) (dInt c15) (dInt c16) (dInt c17) (dInt c18)).getD default).1)), .d (.int .i64 (((r39 (decF g_IIII c0) (decF g_IIIII c1) (decF g_III c2) (decF g_II c3) (dInt c4) (dInt c5) (dInt c6) (dInt c7) (dInt c8) (dInt c9) (dInt c10) (dInt c11) (dInt c12) (dInt c13) (dInt c14) (dInt c15) (dInt c16) (dInt c17) (dInt c18)).getD default).2.1)), .d (.int .i64 (((r39 (decF g_IIII c0) (decF g_IIIII c1) (decF g_III c2) (decF g_II c3) (dInt c4) (dInt c5) (dInt c6) (dInt c7) (dInt c8) (dInt c9) (dInt c10) (dInt c11) (dInt c12) (dInt c13) (dInt c14) (dInt c15) (dInt c16) (dInt c17) (dInt c18)).getD default).2.2.1)), .d (.int .i64 (((r39 (decF g_IIII c0) (decF g_IIIII c1) (decF g_III c2) (decF g_II c3) (dInt c4) (dInt c5) (dInt c6) (dInt c7) (dInt c8) (dInt c9) (dInt c10) (dInt c11) (dInt c12) (dInt c13) (dInt c14) (dInt c15) (dInt c16) (dInt c17) (dInt c18)).getD default).2.2.2.1)), .d (.int .i64 (((r39 (decF g_IIII c0) (decF g_IIIII c1) (decF g_III c2) (decF g_II c3) (dInt c4) (dInt c5) (dInt c6) (dInt c7) (dInt c8) (dInt c9) (dInt c10) (dInt c11) (dInt c12) (dInt c13) (dInt c14) (dInt c15) (dInt c16) (dInt c17) (dInt c18)).getD default).2.2.2.2.1)), .d (.int .i64 (((r39 (decF g_IIII c0) (decF g_IIIII c1) (decF g_III c2) (decF g_II c3) (dInt c4) (dInt c5) (dInt c6) (dInt c7) (dInt c8) (dInt c9) (dInt c10) (dInt c11) (dInt c12) (dInt c13) (dInt c14) (dInt c15) (dInt c16) (dInt c17) (dInt c18)).getD default).2.2.2.2.2.1)), .d (.int .i64 (((r39 (decF g_IIII c0) (decF g_IIIII c1) (decF g_III c2) (decF g_II c3) (dInt c4) (dInt c5) (dInt c6) (dInt c7) (dInt c8) (dInt c9) (dInt c10) (dInt c11) (dInt c12) (dInt c13) (dInt c14) (dInt c15) (dInt c16) (dInt c17) (dInt c18)).getD default).2.2.2.2.2.2))]] := (rfl)
theorem TA39 : T39.sp.alias = false := (rfl)
def tb39 : Fns := lk [(33, T33.sp), (34, T34.sp), (35, T35.sp), (89, T89.sp), (90, T90.sp), (91, T91.sp)]
theorem tb39_ok : FnsOk Tryd.prog tb39 := .cons f33 (.cons f34 (.cons f35 (.cons f89 (.cons f90 (.cons f91 (FnsOk.nil))))))
theorem tb39_33 : tb39 33 = some T33.sp := rfl
theorem tb39_34 : tb39 34 = some T34.sp := rfl
theorem tb39_35 : tb39 35 = some T35.sp := rfl
theorem tb39_89 : tb39 89 = some T89.sp := rfl
theorem tb39_90 : tb39 90 = some T90.sp := rfl
theorem tb39_91 : tb39 91 = some T91.sp := rfl
attribute [go_sem] TP39 TR39 TA39
section
attribute [local go_sem] T39 tb39_33 tb39_34 tb39_35 tb39_89 tb39_90 tb39_91 Tryd.results39
theorem v39 : Valid Tryd.prog 39 T39.sp := by
  refine valid_t (fn := Tryd.f39) (n := 161) ty_ok tb39_ok Tryd.func39 rfl Tryd.ntmps39 ?_
  rintro ⟨a0_0, a0_1, a0_2, a0_3, a0_4, a0_5, a0_6, a0_7, a1_0, a1_1, a1_2, a1_3, a1_4, a1_5, a1_6, a2, a3_0, a3_1, a3_2⟩ hx
  obtain ⟨r, hr⟩ := Option.isSome_iff_exists.1 (show (r39 a0_0 a0_1 a0_2 a0_3 a0_4 a0_5 a0_6 a0_7 a1_0 a1_1 a1_2 a1_3 a1_4 a1_5 a1_6 a2 a3_0 a3_1 a3_2).isSome = true from hx)
  have hres : T39.res (a0_0, a0_1, a0_2, a0_3, a0_4, a0_5, a0_6, a0_7, a1_0, a1_1, a1_2, a1_3, a1_4, a1_5, a1_6, a2, a3_0, a3_1, a3_2) = [.agg [.d (.int .i64 r.1), .d (.int .i64 r.2.1), .d (.int .i64 r.2.2.1), .d (.int .i64 r.2.2.2.1), .d (.int .i64 r.2.2.2.2.1), .d (.int .i64 r.2.2.2.2.2.1), .d (.int .i64 r.2.2.2.2.2.2)]] := by simp only [T39, hr, Option.getD_some]
  refine ⟨Nat.le_of_ble_eq_true rfl, fun stop S => ?_⟩
  rw [hres] at S
  unfold r39 at hr
  refine S.gx [5, 8, 13, 15, 19] ?_
  obtain ⟨v1, hv1, hr⟩ := of_bind0 hr
  try simp only [hv1, Option.getD_some, Option.isSome_some, true_and, and_assoc]
  repeat refine gA ?_
  refine ⟨fun hc => ?_, fun hc => ?_⟩
  · replace hr := ifP hr hc
    obtain ⟨hg4, hr⟩ := of_guard0 hr
    obtain ⟨v2, hv2, hr⟩ := of_bind0 hr
    try simp only [hv2, Option.getD_some, Option.isSome_some, true_and, and_assoc]
    repeat refine gA ?_
    refine S.prune [4, 5, 8, 9, 10] ?_
    refine S.gx [8, 13, 15, 19] ?_
    repeat refine gA ?_
    repeat refine gA ?_
    apply stop_join39 (stop := stop) (fun s1 => ⟨[(5, .c (.ref 5 0)), (8, .c (.ref 8 0))], [(5, [.d (.int .i64 (IntKind.i64.wrap ((IntKind.i64.wrap ((IntKind.i64.wrap (a1_0 + a1_2)) + a1_3)) - (if v2 < IntKind.i64.wrap ((IntKind.i64.wrap (a1_0 + a1_2)) + a1_3) then v2 else IntKind.i64.wrap ((IntKind.i64.wrap (a1_0 + a1_2)) + a1_3))))), .d (.int .i64 (IntKind.i64.wrap (a1_1 + (if v2 < IntKind.i64.wrap ((IntKind.i64.wrap (a1_0 + a1_2)) + a1_3) then v2 else IntKind.i64.wrap ((IntKind.i64.wrap (a1_0 + a1_2)) + a1_3))))), .d (.int .i64 0), .d (.int .i64 0), .d (.int .i64 0), .d (.int .i64 s1), .d (.int .i64 0)]), (8, [.d (.int .i64 0), .d (.int .i64 0), .d (.int .i64 0), .d (.int .i64 0), .d (.int .i64 0), .d (.int .i64 0), .d (.int .i64 0)])], []⟩) (fun s1 => j39_1 a1_0 a1_1 a1_2 a1_3 v2 s1 = some r)
    · intro J1
      refine ⟨fun hc => ?_, fun hc => ?_⟩
      · replace hr := ifP hr hc
        obtain ⟨hg3, hr⟩ := of_guard0 hr
        repeat refine gA ?_
        refine S.sees [5, 8] [(5, 5), (8, 8)] [] ?_ (J1 _ hr)
        exact lf
      · replace hr := ifN hr hc
        repeat refine gA ?_
        refine S.sees [5, 8] [(5, 5), (8, 8)] [] ?_ (J1 _ hr)
        exact lf
    · intro s1 hr
      unfold j39_1 at hr
      refine S.gx [5, 8, 13, 15, 19] ?_
      repeat refine gA ?_
      refine S.gx [5, 13, 15, 19] ?_
      repeat refine gA ?_
      repeat refine gA ?_
      obtain rfl := Option.some.inj hr
      exact lf
  · replace hr := ifN hr hc
    obtain ⟨v5, hv5, hr⟩ := of_bind0 hr
    try simp only [hv5, Option.getD_some, Option.isSome_some, true_and, and_assoc]
    repeat refine gA ?_
    apply stop_join39 (stop := stop) (fun s2 => ⟨[(2, .c (.d (.int .i64 a2))), (4, .c (.ref 4 0)), (5, .c (.ref 5 0)), (7, .c (.ref 7 0)), (8, .c (.ref 8 0))], [(4, [.d (encF 4 d_IIII a0_0), .d (encF 5 d_IIIII a0_1), .d (encF 3 d_III a0_2), .d (encF 2 d_II a0_3), .d (.int .i64 a0_4), .d (.int .i64 a0_5), .d (.int .i64 a0_6), .d (.int .i64 a0_7)]), (5, [.d (.int .i64 a1_0), .d (.int .i64 s2.1), .d (.int .i64 s2.2.1), .d (.int .i64 a1_3), .d (.int .i64 s2.2.2), .d (.int .i64 a1_5), .d (.int .i64 a1_6)]), (7, [.d (.int .i64 a3_0), .d (.int .i64 a3_1), .d (.int .i64 a3_2)]), (8, [.d (.int .i64 0), .d (.int .i64 0), .d (.int .i64 0), .d (.int .i64 0), .d (.int .i64 0), .d (.int .i64 0), .d (.int .i64 0)])], []⟩) (fun s2 => j39_2 a0_0 a0_1 a0_2 a0_3 a0_4 a0_5 a0_6 a0_7 a1_0 a1_3 a1_5 a1_6 a2 a3_2 s2 = some r)
    · intro J2
      refine ⟨fun hc => ?_, fun hc => ?_⟩
      · replace hr := ifP hr hc
        obtain ⟨hg9, hr⟩ := of_guard0 hr
        obtain ⟨v6, hv6, hr⟩ := of_bind0 hr
        try simp only [hv6, Option.getD_some, Option.isSome_some, true_and, and_assoc]
        repeat refine gA ?_
        refine ⟨fun hc => ?_, fun hc => ?_⟩
        · replace hr := ifP hr hc
          repeat refine gA ?_
          refine S.prune [2, 4, 5, 7, 8, 11] ?_
          refine S.gx [5, 8, 15, 19] ?_
          obtain ⟨hg8, hr⟩ := of_guard0 hr
          obtain ⟨v7, hv7, hr⟩ := of_bind0 hr
          try simp only [hv7, Option.getD_some, Option.isSome_some, true_and, and_assoc]
          repeat refine gA ?_
          repeat refine gA ?_
          refine S.sees [2, 4, 5, 7, 8] [(4, 4), (5, 5), (7, 7), (8, 8)] [] ?_ (J2 _ hr)
          exact lf
        · replace hr := ifN hr hc
          repeat refine gA ?_
          refine S.sees [2, 4, 5, 7, 8] [(4, 4), (5, 5), (7, 7), (8, 8)] [] ?_ (J2 _ hr)
          exact lf
      · replace hr := ifN hr hc
        repeat refine gA ?_
        refine S.sees [2, 4, 5, 7, 8] [(4, 4), (5, 5), (7, 7), (8, 8)] [] ?_ (J2 _ hr)
        exact lf
    · intro s2 hr
      unfold j39_2 at hr
      refine S.gx [5, 8, 13, 15, 19] ?_
      repeat refine gA ?_
      refine S.gx [5, 8, 13, 19] ?_
      obtain ⟨v10, hv10, hr⟩ := of_bind0 hr
      try simp only [hv10, Option.getD_some, Option.isSome_some, true_and, and_assoc]
      repeat refine gA ?_
      repeat refine gA ?_
      apply stop_join39 (stop := stop) (fun s3 => ⟨[(2, .c (.d (.int .i64 a2))), (4, .c (.ref 4 0)), (5, .c (.ref 5 0)), (8, .c (.ref 8 0))], [(4, [.d (encF 4 d_IIII a0_0), .d (encF 5 d_IIIII a0_1), .d (encF 3 d_III a0_2), .d (encF 2 d_II a0_3), .d (.int .i64 a0_4), .d (.int .i64 a0_5), .d (.int .i64 a0_6), .d (.int .i64 a0_7)]), (5, [.d (.int .i64 a1_0), .d (.int .i64 s3.1), .d (.int .i64 s2.2.1), .d (.int .i64 s3.2), .d (.int .i64 s2.2.2), .d (.int .i64 a1_5), .d (.int .i64 a1_6)]), (8, [.d (.int .i64 0), .d (.int .i64 0), .d (.int .i64 0), .d (.int .i64 0), .d (.int .i64 0), .d (.int .i64 0), .d (.int .i64 0)])], []⟩) (fun s3 => j39_3 a0_0 a0_1 a0_2 a0_3 a0_4 a0_5 a0_6 a0_7 a1_0 a1_5 a1_6 a2 s2 s3 = some r)
      · intro J3
        refine ⟨fun hc => ?_, fun hc => ?_⟩
        · replace hr := ifP hr hc
          obtain ⟨hg13, hr⟩ := of_guard0 hr
          obtain ⟨v11, hv11, hr⟩ := of_bind0 hr
          obtain ⟨v12, hv12, hr⟩ := of_bind0 hr
          try simp only [hv11, hv12, Option.getD_some, Option.isSome_some, true_and, and_assoc]
          repeat refine gA ?_
          refine S.sees [2, 4, 5, 8] [(4, 4), (5, 5), (8, 8)] [] ?_ (J3 _ hr)
          exact lf
        · replace hr := ifN hr hc
          repeat refine gA ?_
          refine S.sees [2, 4, 5, 8] [(4, 4), (5, 5), (8, 8)] [] ?_ (J3 _ hr)
          exact lf
      · intro s3 hr
        unfold j39_3 at hr
        refine S.gx [5, 8, 13, 15, 19] ?_
        repeat refine gA ?_
        refine S.gx [5, 8, 13, 15] ?_
        obtain ⟨v14, hv14, hr⟩ := of_bind0 hr
        try simp only [hv14, Option.getD_some, Option.isSome_some, true_and, and_assoc]
        repeat refine gA ?_
        repeat refine gA ?_
        refine ⟨fun hc => ?_, fun hc => ?_⟩
        · replace hr := ifP hr hc
          obtain ⟨hg15, hr⟩ := of_guard0 hr
          repeat refine gA ?_
          obtain rfl := Option.some.inj hr
          exact lf
        · replace hr := ifN hr hc
          repeat refine gA ?_
          obtain rfl := Option.some.inj hr
          exact lf
theorem f39 : FnFact Tryd.prog 39 T39.sp := ⟨⟨Tryd.f39, Tryd.func39, by decide, rfl⟩, v39⟩
end

/- martensite/martensiteref04.Run -/
def b40_1 (a0_0 : List (Int × Int × Int × Int)) (a0_1 : List (Int × Int × Int × Int × Int)) (a0_2 : List (Int × Int × Int)) (a0_3 : List (Int × Int)) (a0_4 : Int) (a0_5 : Int) (a0_6 : Int) (a0_7 : Int) (a2 : List (Int)) (a3_0 : Int) (a3_1 : Int) (a3_2 : Int) : (Int × Int × Int × Int × Int × Int × Int × Int) → Ctl (Int × Int × Int × Int × Int × Int × Int × Int) (Int × Int × Int × Int × Int × Int × Int) := fun s1 =>
  if (decide (s1.1 < (a2.length : Int))) = true then
   if 0 ≤ s1.1 ∧ s1.1 < (a2.length : Int) then
    bindC (r39 a0_0 a0_1 a0_2 a0_3 a0_4 a0_5 a0_6 a0_7 s1.2.1 s1.2.2.1 s1.2.2.2.1 s1.2.2.2.2.1 s1.2.2.2.2.2.1 s1.2.2.2.2.2.2.1 s1.2.2.2.2.2.2.2 (a2.getD s1.1.toNat default) a3_0 a3_1 a3_2) fun v1 =>
     .next (IntKind.i64.wrap (s1.1 + 1), v1.1, v1.2.1, v1.2.2.1, v1.2.2.2.1, v1.2.2.2.2.1, v1.2.2.2.2.2.1, v1.2.2.2.2.2.2)
    else .out none
   else .out (some (s1.2.1, s1.2.2.1, s1.2.2.2.1, s1.2.2.2.2.1, s1.2.2.2.2.2.1, s1.2.2.2.2.2.2.1, s1.2.2.2.2.2.2.2))
def r40 (a0_0 : List (Int × Int × Int × Int)) (a0_1 : List (Int × Int × Int × Int × Int)) (a0_2 : List (Int × Int × Int)) (a0_3 : List (Int × Int)) (a0_4 : Int) (a0_5 : Int) (a0_6 : Int) (a0_7 : Int) (a1_0 : Int) (a1_1 : Int) (a1_2 : Int) (a1_3 : Int) (a1_4 : Int) (a1_5 : Int) (a1_6 : Int) (a2 : List (Int)) (a3_0 : Int) (a3_1 : Int) (a3_2 : Int) : Option (Int × Int × Int × Int × Int × Int × Int) :=
  iterC (b40_1 a0_0 a0_1 a0_2 a0_3 a0_4 a0_5 a0_6 a0_7 a2 a3_0 a3_1 a3_2) 1000000000 (0, a1_0, a1_1, a1_2, a1_3, a1_4, a1_5, a1_6)
def T40 : TSpec ((List (Int × Int × Int × Int)) × (List (Int × Int × Int × Int × Int)) × (List (Int × Int × Int)) × (List (Int × Int)) × Int × Int × Int × Int × Int × Int × Int × Int × Int × Int × Int × (List (Int)) × Int × Int × Int) where
  enc := fun ⟨a0_0, a0_1, a0_2, a0_3, a0_4, a0_5, a0_6, a0_7, a1_0, a1_1, a1_2, a1_3, a1_4, a1_5, a1_6, a2, a3_0, a3_1, a3_2⟩ => [.agg [encF 4 d_IIII a0_0, encF 5 d_IIIII a0_1, encF 3 d_III a0_2, encF 2 d_II a0_3, .int .i64 a0_4, .int .i64 a0_5, .int .i64 a0_6, .int .i64 a0_7], .agg [.int .i64 a1_0, .int .i64 a1_1, .int .i64 a1_2, .int .i64 a1_3, .int .i64 a1_4, .int .i64 a1_5, .int .i64 a1_6], .c (encF 1 d_I a2), .agg [.int .i64 a3_0, .int .i64 a3_1, .int .i64 a3_2]]
  dec a := (decF g_IIII (aCell a 0 0), decF g_IIIII (aCell a 0 1), decF g_III (aCell a 0 2), decF g_II (aCell a 0 3), dInt (aCell a 0 4), dInt (aCell a 0 5), dInt (aCell a 0 6), dInt (aCell a 0 7), dInt (aCell a 1 0), dInt (aCell a 1 1), dInt (aCell a 1 2), dInt (aCell a 1 3), dInt (aCell a 1 4), dInt (aCell a 1 5), dInt (aCell a 1 6), decF g_I (aCell a 2 0), dInt (aCell a 3 0), dInt (aCell a 3 1), dInt (aCell a 3 2))
  pre := fun ⟨a0_0, a0_1, a0_2, a0_3, a0_4, a0_5, a0_6, a0_7, a1_0, a1_1, a1_2, a1_3, a1_4, a1_5, a1_6, a2, a3_0, a3_1, a3_2⟩ => (r40 a0_0 a0_1 a0_2 a0_3 a0_4 a0_5 a0_6 a0_7 a1_0 a1_1 a1_2 a1_3 a1_4 a1_5 a1_6 a2 a3_0 a3_1 a3_2).isSome = true
  res := fun ⟨a0_0, a0_1, a0_2, a0_3, a0_4, a0_5, a0_6, a0_7, a1_0, a1_1, a1_2, a1_3, a1_4, a1_5, a1_6, a2, a3_0, a3_1, a3_2⟩ => [.agg [.d (.int .i64 (((r40 a0_0 a0_1 a0_2 a0_3 a0_4 a0_5 a0_6 a0_7 a1_0 a1_1 a1_2 a1_3 a1_4 a1_5 a1_6 a2 a3_0 a3_1 a3_2).getD default).1)), .d (.int .i64 (((r40 a0_0 a0_1 a0_2 a0_3 a0_4 a0_5 a0_6 a0_7 a1_0 a1_1 a1_2 a1_3 a1_4 a1_5 a1_6 a2 a3_0 a3_1 a3_2).getD default).2.1)), .d (.int .i64 (((r40 a0_0 a0_1 a0_2 a0_3 a0_4 a0_5 a0_6 a0_7 a1_0 a1_1 a1_2 a1_3 a1_4 a1_5 a1_6 a2 a3_0 a3_1 a3_2).getD default).2.2.1)), .d (.int .i64 (((r40 a0_0 a0_1 a0_2 a0_3 a0_4 a0_5 a0_6 a0_7 a1_0 a1_1 a1_2 a1_3 a1_4 a1_5 a1_6 a2 a3_0 a3_1 a3_2).getD default).2.2.2.1)), .d (.int .i64 (((r40 a0_0 a0_1 a0_2 a0_3 a0_4 a0_5 a0_6 a0_7 a1_0 a1_1 a1_2 a1_3 a1_4 a1_5 a1_6 a2 a3_0 a3_1 a3_2).getD default).2.2.2.2.1)), .d (.int .i64 (((r40 a0_0 a0_1 a0_2 a0_3 a0_4 a0_5 a0_6 a0_7 a1_0 a1_1 a1_2 a1_3 a1_4 a1_5 a1_6 a2 a3_0 a3_1 a3_2).getD default).2.2.2.2.2.1)), .d (.int .i64 (((r40 a0_0 a0_1 a0_2 a0_3 a0_4 a0_5 a0_6 a0_7 a1_0 a1_1 a1_2 a1_3 a1_4 a1_5 a1_6 a2 a3_0 a3_1 a3_2).getD default).2.2.2.2.2.2))]]
  al := false
theorem TP40 (c0 c1 c2 c3 c4 c5 c6 c7 c8 c9 c10 c11 c12 c13 c14 c15 c16 c17 c18 : D) : T40.sp.pre [.agg [c0, c1, c2, c3, c4, c5, c6, c7], .agg [c8, c9, c10, c11, c12, c13, c14], .c c15, .agg [c16, c17, c18]] = (eqvArgs [.agg [c0, c1, c2, c3, c4, c5, c6, c7], .agg [c8, c9, c10, c11, c12, c13, c14], .c c15, .agg [c16, c17, c18]] [.agg [encF 4 d_IIII (decF g_IIII c0), encF 5 d_IIIII (decF g_IIIII c1), encF 3 d_III (decF g_III c2), encF 2 d_II (decF g_II c3), .int .i64 (dInt c4), .int .i64 (dInt c5), .int .i64 (dInt c6), .int .i64 (dInt c7)], .agg [.int .i64 (dInt c8), .int .i64 (dInt c9), .int .i64 (dInt c10), .int .i64 (dInt c11), .int .i64 (dInt c12), .int .i64 (dInt c13), .int .i64 (dInt c14)], .c (encF 1 d_I (decF g_I c15)), .agg [.int .i64 (dInt c16), .int .i64 (dInt c17), .int .i64 (dInt c18)]] ∧ (r40 (decF g_IIII c0) (decF g_IIIII c1) (decF g_III c2) (decF g_II c3) (dInt c4) (dInt c5) (dInt c6) (dInt c7) (dInt c8) (dInt c9) (dInt c10) (dInt c11) (dInt c12) (dInt c13) (dInt c14) (decF g_I c15) (dInt c16) (dInt c17) (dInt c18)).isSome = true) := (rfl)
theorem TR40 (c0 c1 c2 c3 c4 c5 c6 c7 c8 c9 c10 c11 c12 c13 c14 c15 c16 c17 c18 : D) : T40.sp.res [.agg [c0, c1, c2, c3, c4, c5, c6, c7], .agg [c8, c9, c10, c11, c12, c13, c14], .c c15, .agg [c16, c17, c18]] = [.agg [.d (.int .i64 (((r40 (decF g_IIII c0) (decF g_IIIII c1) (decF g_III c2) (decF g_II c3) (dInt c4) (dInt c5) (dInt c6) (dInt c7) (dInt c8) (dInt c9) (dInt c10) (dInt c11) (dInt c12) (dInt c13) (dInt c14) (decF g_I c15) (dInt c16) (dInt c17) (dInt c18)).getD default).1)), .d (.int .i64 (((r40 (decF g_IIII c0) (decF g_IIIII c1) (decF g_III c2) (decF g_II c3) (dInt c4) (dInt c5) (dInt c6) (dInt c7) (dInt c8) (dInt c9) (dInt c10) (dInt c11) (dInt c12) (dInt c13) (dInt c14) (decF g_I c15) (dInt c16) (dInt c17) (dInt c18)).getD default).2.1)), .d (.int .i64 (((r40 (decF g_IIII c0) (decF g_IIIII c1) (decF g_III c2) (decF g_II c3) (dInt c4) (dInt c5) (dInt c6) (dInt c7) (dInt c8) (dInt c9) (dInt c10) (dInt c11) (dInt c12) (dInt c13) (dInt c14) (decF g_I c15) (dInt c16) (dInt c17) (dInt c18)).getD default).2.2.1)), .d (.int .i64 (((r40 (decF g_IIII c0) (decF g_IIIII c1) (decF g_III c2) (decF g_II c3) (dInt c4) (dInt c5) (dInt c6) (dInt c7) (dInt c8) (dInt c9) (dInt c10) (dInt c11) (dInt c12) (dInt c13) (dInt c14) (decF g_I c15) (dInt c16) (dInt c17) (dInt c18)).getD default).2.2.2.1)), .d (.int .i64 (((r40 (decF g_IIII c0) (decF g_IIIII c1) (decF g_III c2) (decF g_II c3) (dInt c4) (dInt c5) (dInt c6) (dInt c7) (dInt c8) (dInt c9) (dInt c10) (dInt c11) (dInt c12) (dInt c13) (dInt c14) (decF g_I c15) (dInt c16) (dInt c17) (dInt c18)).getD default).2.2.2.2.1)), .d (.int .i64 (((r40 (decF g_IIII c0) (decF g_IIIII c1) (decF g_III c2) (decF g_II c3) (dInt c4) (dInt c5) (dInt c6) (dInt c7) (dInt c8) (dInt c9) (dInt c10) (dInt c11) (dInt c12) (dInt c13) (dInt c14) (decF g_I c15) (dInt c16) (dInt c17) (dInt c18)).getD default).2.2.2.2.2.1)), .d (.int .i64 (((r40 (decF g_IIII c0) (decF g_IIIII c1) (decF g_III c2) (decF g_II c3) (dInt c4) (dInt c5) (dInt c6) (dInt c7) (dInt c8) (dInt c9) (dInt c10) (dInt c11) (dInt c12) (dInt c13) (dInt c14) (decF g_I c15) (dInt c16) (dInt c17) (dInt c18)).getD default).2.2.2.2.2.2))]] := (rfl)
theorem TA40 : T40.sp.alias = false := (rfl)
def tb40 : Fns := lk [(39, T39.sp)]
theorem tb40_ok : FnsOk Tryd.prog tb40 := .cons f39 (FnsOk.nil)
theorem tb40_39 : tb40 39 = some T39.sp := rfl
attribute [go_sem] TP40 TR40 TA40
section
attribute [local go_sem] T40 tb40_39 Tryd.results40
theorem v40 : Valid Tryd.prog 40 T40.sp := by
  refine valid_t (fn := Tryd.f40) (n := 25) ty_ok tb40_ok Tryd.func40 rfl Tryd.ntmps40 ?_
  rintro ⟨a0_0, a0_1, a0_2, a0_3, a0_4, a0_5, a0_6, a0_7, a1_0, a1_1, a1_2, a1_3, a1_4, a1_5, a1_6, a2, a3_0, a3_1, a3_2⟩ hx
  obtain ⟨r, hr⟩ := Option.isSome_iff_exists.1 (show (r40 a0_0 a0_1 a0_2 a0_3 a0_4 a0_5 a0_6 a0_7 a1_0 a1_1 a1_2 a1_3 a1_4 a1_5 a1_6 a2 a3_0 a3_1 a3_2).isSome = true from hx)
  have hres : T40.res (a0_0, a0_1, a0_2, a0_3, a0_4, a0_5, a0_6, a0_7, a1_0, a1_1, a1_2, a1_3, a1_4, a1_5, a1_6, a2, a3_0, a3_1, a3_2) = [.agg [.d (.int .i64 r.1), .d (.int .i64 r.2.1), .d (.int .i64 r.2.2.1), .d (.int .i64 r.2.2.2.1), .d (.int .i64 r.2.2.2.2.1), .d (.int .i64 r.2.2.2.2.2.1), .d (.int .i64 r.2.2.2.2.2.2)]] := by simp only [T40, hr, Option.getD_some]
  refine ⟨Nat.le_of_ble_eq_true rfl, fun stop S => ?_⟩
  rw [hres] at S
  unfold r40 at hr
  refine S.gx [] ?_
  repeat refine gA ?_
  refine S.sees [2, 4, 5, 7, 8, 9] [(4, 4), (5, 5), (7, 7), (8, 8)] [] ?_ (Stop.iter S (fun s1 => ⟨[(2, .c (.d (encF 1 d_I a2))), (4, .c (.ref 4 0)), (5, .c (.ref 5 0)), (7, .c (.ref 7 0)), (8, .c (.ref 8 0)), (9, .c (.d (.int .i64 s1.1)))], [(4, [.d (encF 4 d_IIII a0_0), .d (encF 5 d_IIIII a0_1), .d (encF 3 d_III a0_2), .d (encF 2 d_II a0_3), .d (.int .i64 a0_4), .d (.int .i64 a0_5), .d (.int .i64 a0_6), .d (.int .i64 a0_7)]), (5, [.d (.int .i64 s1.2.1), .d (.int .i64 s1.2.2.1), .d (.int .i64 s1.2.2.2.1), .d (.int .i64 s1.2.2.2.2.1), .d (.int .i64 s1.2.2.2.2.2.1), .d (.int .i64 s1.2.2.2.2.2.2.1), .d (.int .i64 s1.2.2.2.2.2.2.2)]), (7, [.d (.int .i64 a3_0), .d (.int .i64 a3_1), .d (.int .i64 a3_2)]), (8, [.d (.int .i64 0), .d (.int .i64 0), .d (.int .i64 0), .d (.int .i64 0), .d (.int .i64 0), .d (.int .i64 0), .d (.int .i64 0)])], []⟩) (b40_1 a0_0 a0_1 a0_2 a0_3 a0_4 a0_5 a0_6 a0_7 a2 a3_0 a3_1 a3_2) (fun q => q = r) hr rfl ?_)
  · exact lf
  · intro s1 hr
    unfold b40_1 at hr
    refine S.gx [] ?_
    repeat refine gA ?_
    refine ⟨fun hc => ?_, fun hc => ?_⟩
    · replace hr := ifP1 hr hc
      obtain ⟨hg2, hr⟩ := of_guard1 hr
      obtain ⟨v1, hv1, hr⟩ := of_bind1 hr
      try simp only [hv1, Option.getD_some, Option.isSome_some, true_and, and_assoc]
      repeat refine gA ?_
      refine S.sees [2, 4, 5, 7, 8, 9] [(4, 4), (5, 5), (7, 7), (8, 8)] [] ?_ hr
      exact lf
    · replace hr := ifN1 hr hc
      repeat refine gA ?_
      have hr := of_out0 hr
      repeat refine gA ?_
      obtain rfl := Option.some.inj hr
      exact lf
theorem f40 : FnFact Tryd.prog 40 T40.sp := ⟨⟨Tryd.f40, Tryd.func40, by decide, rfl⟩, v40⟩
end
end Go.Proofs.YtfkmbdfajpdjjaaDoor

/- Contracts of functions, written by wip/dec. -/
import Derived.Test.YtfkmbdfajpdjjaaDoorF00
import Derived.Test.YtfkmbdfajpdjjaaDoorF01
import Derived.Test.YtfkmbdfajpdjjaaDoorF02
import Derived.Test.YtfkmbdfajpdjjaaDoorF03
set_option linter.unusedVariables false
set_option linter.unusedSimpArgs false
set_option maxHeartbeats 4000000
set_option maxRecDepth 20000
namespace Go.Proofs.YtfkmbdfajpdjjaaDoor
open Go.Abs
/- martensite/steel.kelvinErr -/
def r84 (a0 : Int) : Option (Int) :=
  (r109 a0).bind fun v1 =>
   (r68 v1 2).bind fun v2 =>
    some v2
def w84 (x : Int) : List Arg := [.c (.int .i64 x)]
def u84 (v : Int) : List RV := [.c (.d (.int .i64 v))]
def T84 : TSpec (Int) where
  enc := fun x => w84 x
  dec a := dInt (aCell a 0 0)
  pre := fun x => (r84 x).isSome = true
  res := fun x => u84 ((r84 x).getD default)
  al := false
theorem TP84 (c0 : D) : T84.sp.pre [.c c0] = (eqvArgs [.c c0] (w84 (dInt c0)) ∧ (r84 (dInt c0)).isSome = true) := (rfl)
theorem TR84 (c0 : D) : T84.sp.res [.c c0] = u84 ((r84 (dInt c0)).getD default) := (rfl)
theorem TA84 : T84.sp.alias = false := (rfl)
def tb84 : Fns := lk [(68, T68.sp), (109, T109.sp)]
theorem tb84_ok : FnsOk Tryd.prog tb84 := .cons f68 (.cons f109 (FnsOk.nil))
theorem tb84_68 : tb84 68 = some T68.sp := rfl
theorem tb84_109 : tb84 109 = some T109.sp := rfl
attribute [go_sem] TP84 TR84 TA84 w84 u84
section
attribute [local go_sem] T84 tb84_68 tb84_109 Tryd.results84
theorem v84 : Valid Tryd.prog 84 T84.sp := by
  refine valid_t (fn := Tryd.f84) (n := 6) ty_ok tb84_ok Tryd.func84 rfl Tryd.ntmps84 ?_
  rintro a0 hx
  obtain ⟨r, hr⟩ := Option.isSome_iff_exists.1 (show (r84 a0).isSome = true from hx)
  have hres : T84.res a0 = u84 r := by simp only [T84, hr, Option.getD_some]
  refine ⟨Nat.le_of_ble_eq_true rfl, fun stop S => ?_⟩
  rw [hres] at S
  unfold r84 at hr
  refine S.gx [] ?_
  obtain ⟨v1, hv1, hr⟩ := of_bind0 hr
  obtain ⟨v2, hv2, hr⟩ := of_bind0 hr
  try simp only [hv1, hv2, Option.getD_some, Option.isSome_some, true_and, and_assoc]
  repeat refine gA ?_
  obtain rfl := Option.some.inj hr
  exact lf
theorem f84 : FnFact Tryd.prog 84 T84.sp := ⟨⟨Tryd.f84, Tryd.func84, by decide, rfl⟩, v84⟩
end

/- martensite/steel.Stepped -/
def r30 (a0_0 : List (Int × Int × Int × Int)) (a0_1 : List (Int × Int × Int × Int × Int)) (a0_2 : List (Int × Int × Int)) (a0_3 : List (Int × Int)) (a0_4 : Int) (a0_5 : Int) (a0_6 : Int) (a0_7 : Int) (a1_0 : Int) (a1_1 : Int) (a1_2 : Int) (a1_3 : Int) (a1_4 : Int) (a1_5 : Int) (a1_6 : Int) (a2_0 : Int) (a2_1 : Int) (a2_2 : Int) (a2_3 : Int) : Option (Int × Int × Int × Int × Int × Int × Int × Int) :=
  (r73 a0_0 a0_1 a0_2 a0_3 a0_4 a0_5 a0_6 a0_7).bind fun v1 =>
   (r17 a1_0 a1_1 a1_2 a1_3 a1_4 a1_5 a1_6).bind fun v2 =>
    (r84 a2_0).bind fun v3 =>
     (r19 a2_1 a2_2 a2_3).bind fun v4 =>
      (r67 [v1, v2, v3, v4]).bind fun v5 =>
       if (v5 != 0) = true then
        some (0, 0, 0, 0, 0, 0, 0, v5)
        else (r85 a0_0 a0_1 a0_2 a0_3 a0_4 a0_5 a0_6 a0_7 a1_0 a1_1 a1_2 a1_3 a1_4 a1_5 a1_6 a2_0 a2_1 a2_2 a2_3).bind fun v6 =>
         some (v6.1, v6.2.1, v6.2.2.1, v6.2.2.2.1, v6.2.2.2.2.1, v6.2.2.2.2.2.1, v6.2.2.2.2.2.2, 0)
def w30 (a0_0 : List (Int × Int × Int × Int)) (a0_1 : List (Int × Int × Int × Int × Int)) (a0_2 : List (Int × Int × Int)) (a0_3 : List (Int × Int)) (a0_4 : Int) (a0_5 : Int) (a0_6 : Int) (a0_7 : Int) (a1_0 : Int) (a1_1 : Int) (a1_2 : Int) (a1_3 : Int) (a1_4 : Int) (a1_5 : Int) (a1_6 : Int) (a2_0 : Int) (a2_1 : Int) (a2_2 : Int) (a2_3 : Int) : List Arg := [.agg [encF 4 d_IIII a0_0, encF 5 d_IIIII a0_1, encF 3 d_III a0_2, encF 2 d_II a0_3, .int .i64 a0_4, .int .i64 a0_5, .int .i64 a0_6, .int .i64 a0_7], .agg [.int .i64 a1_0, .int .i64 a1_1, .int .i64 a1_2, .int .i64 a1_3, .int .i64 a1_4, .int .i64 a1_5, .int .i64 a1_6], .agg [.int .i64 a2_0, .int .i64 a2_1, .int .i64 a2_2, .int .i64 a2_3]]
def u30 (v : Int × Int × Int × Int × Int × Int × Int × Int) : List RV := [.agg [.d (.int .i64 v.1), .d (.int .i64 v.2.1), .d (.int .i64 v.2.2.1), .d (.int .i64 v.2.2.2.1), .d (.int .i64 v.2.2.2.2.1), .d (.int .i64 v.2.2.2.2.2.1), .d (.int .i64 v.2.2.2.2.2.2.1)], .c (.d (.int .i64 v.2.2.2.2.2.2.2))]
def T30 : TSpec ((List (Int × Int × Int × Int)) × (List (Int × Int × Int × Int × Int)) × (List (Int × Int × Int)) × (List (Int × Int)) × Int × Int × Int × Int × Int × Int × Int × Int × Int × Int × Int × Int × Int × Int × Int) where
  enc := fun ⟨a0_0, a0_1, a0_2, a0_3, a0_4, a0_5, a0_6, a0_7, a1_0, a1_1, a1_2, a1_3, a1_4, a1_5, a1_6, a2_0, a2_1, a2_2, a2_3⟩ => w30 a0_0 a0_1 a0_2 a0_3 a0_4 a0_5 a0_6 a0_7 a1_0 a1_1 a1_2 a1_3 a1_4 a1_5 a1_6 a2_0 a2_1 a2_2 a2_3
  dec a := (decF g_IIII (aCell a 0 0), decF g_IIIII (aCell a 0 1), decF g_III (aCell a 0 2), decF g_II (aCell a 0 3), dInt (aCell a 0 4), dInt (aCell a 0 5), dInt (aCell a 0 6), dInt (aCell a 0 7), dInt (aCell a 1 0), dInt (aCell a 1 1), dInt (aCell a 1 2), dInt (aCell a 1 3), dInt (aCell a 1 4), dInt (aCell a 1 5), dInt (aCell a 1 6), dInt (aCell a 2 0), dInt (aCell a 2 1), dInt (aCell a 2 2), dInt (aCell a 2 3))
  pre := fun ⟨a0_0, a0_1, a0_2, a0_3, a0_4, a0_5, a0_6, a0_7, a1_0, a1_1, a1_2, a1_3, a1_4, a1_5, a1_6, a2_0, a2_1, a2_2, a2_3⟩ => (r30 a0_0 a0_1 a0_2 a0_3 a0_4 a0_5 a0_6 a0_7 a1_0 a1_1 a1_2 a1_3 a1_4 a1_5 a1_6 a2_0 a2_1 a2_2 a2_3).isSome = true
  res := fun ⟨a0_0, a0_1, a0_2, a0_3, a0_4, a0_5, a0_6, a0_7, a1_0, a1_1, a1_2, a1_3, a1_4, a1_5, a1_6, a2_0, a2_1, a2_2, a2_3⟩ => u30 ((r30 a0_0 a0_1 a0_2 a0_3 a0_4 a0_5 a0_6 a0_7 a1_0 a1_1 a1_2 a1_3 a1_4 a1_5 a1_6 a2_0 a2_1 a2_2 a2_3).getD default)
  al := false
theorem TP30 (c0 c1 c2 c3 c4 c5 c6 c7 c8 c9 c10 c11 c12 c13 c14 c15 c16 c17 c18 : D) : T30.sp.pre [.agg [c0, c1, c2, c3, c4, c5, c6, c7], .agg [c8, c9, c10, c11, c12, c13, c14], .agg [c15, c16, c17, c18]] = (eqvArgs [.agg [c0, c1, c2, c3, c4, c5, c6, c7], .agg [c8, c9, c10, c11, c12, c13, c14], .agg [c15, c16, c17, c18]] (w30 (decF g_IIII c0) (decF g_IIIII c1) (decF g_III c2) (decF g_II c3) (dInt c4) (dInt c5) (dInt c6) (dInt c7) (dInt c8) (dInt c9) (dInt c10) (dInt c11) (dInt c12) (dInt c13) (dInt c14) (dInt c15) (dInt c16) (dInt c17) (dInt c18)) ∧ (r30 (decF g_IIII c0) (decF g_IIIII c1) (decF g_III c2) (decF g_II c3) (dInt c4) (dInt c5) (dInt c6) (dInt c7) (dInt c8) (dInt c9) (dInt c10) (dInt c11) (dInt c12) (dInt c13) (dInt c14) (dInt c15) (dInt c16) (dInt c17) (dInt c18)).isSome = true) := (rfl)
theorem TR30 (c0 c1 c2 c3 c4 c5 c6 c7 c8 c9 c10 c11 c12 c13 c14 c15 c16 c17 c18 : D) : T30.sp.res [.agg [c0, c1, c2, c3, c4, c5, c6, c7], .agg [c8, c9, c10, c11, c12, c13, c14], .agg [c15, c16, c17, c18]] = u30 ((r30 (decF g_IIII c0) (decF g_IIIII c1) (decF g_III c2) (decF g_II c3) (dInt c4) (dInt c5) (dInt c6) (dInt c7) (dInt c8) (dInt c9) (dInt c10) (dInt c11) (dInt c12) (dInt c13) (dInt c14) (dInt c15) (dInt c16) (dInt c17) (dInt c18)).getD default) := (rfl)
theorem TA30 : T30.sp.alias = false := (rfl)
def tb30 : Fns := lk [(17, T17.sp), (19, T19.sp), (67, T67.sp), (73, T73.sp), (84, T84.sp), (85, T85.sp)]
theorem tb30_ok : FnsOk Tryd.prog tb30 := .cons f17 (.cons f19 (.cons f67 (.cons f73 (.cons f84 (.cons f85 (FnsOk.nil))))))
theorem tb30_17 : tb30 17 = some T17.sp := rfl
theorem tb30_19 : tb30 19 = some T19.sp := rfl
theorem tb30_67 : tb30 67 = some T67.sp := rfl
theorem tb30_73 : tb30 73 = some T73.sp := rfl
theorem tb30_84 : tb30 84 = some T84.sp := rfl
theorem tb30_85 : tb30 85 = some T85.sp := rfl
attribute [go_sem] TP30 TR30 TA30 w30 u30
section
attribute [local go_sem] T30 tb30_17 tb30_19 tb30_67 tb30_73 tb30_84 tb30_85 Tryd.results30
theorem v30 : Valid Tryd.prog 30 T30.sp := by
  refine valid_t (fn := Tryd.f30) (n := 33) ty_ok tb30_ok Tryd.func30 rfl Tryd.ntmps30 ?_
  rintro ⟨a0_0, a0_1, a0_2, a0_3, a0_4, a0_5, a0_6, a0_7, a1_0, a1_1, a1_2, a1_3, a1_4, a1_5, a1_6, a2_0, a2_1, a2_2, a2_3⟩ hx
  obtain ⟨r, hr⟩ := Option.isSome_iff_exists.1 (show (r30 a0_0 a0_1 a0_2 a0_3 a0_4 a0_5 a0_6 a0_7 a1_0 a1_1 a1_2 a1_3 a1_4 a1_5 a1_6 a2_0 a2_1 a2_2 a2_3).isSome = true from hx)
  have hres : T30.res (a0_0, a0_1, a0_2, a0_3, a0_4, a0_5, a0_6, a0_7, a1_0, a1_1, a1_2, a1_3, a1_4, a1_5, a1_6, a2_0, a2_1, a2_2, a2_3) = u30 r := by simp only [T30, hr, Option.getD_some]
  refine ⟨Nat.le_of_ble_eq_true rfl, fun stop S => ?_⟩
  rw [hres] at S
  unfold r30 at hr
  refine S.gx [] ?_
  obtain ⟨v1, hv1, hr⟩ := of_bind0 hr
  obtain ⟨v2, hv2, hr⟩ := of_bind0 hr
  obtain ⟨v3, hv3, hr⟩ := of_bind0 hr
  obtain ⟨v4, hv4, hr⟩ := of_bind0 hr
  obtain ⟨v5, hv5, hr⟩ := of_bind0 hr
  try simp only [hv1, hv2, hv3, hv4, hv5, Option.getD_some, Option.isSome_some, true_and, and_assoc]
  repeat refine gA ?_
  refine ⟨fun hc => ?_, fun hc => ?_⟩
  · replace hr := ifP hr hc
    repeat refine gA ?_
    obtain rfl := Option.some.inj hr
    exact lf
  · replace hr := ifN hr hc
    obtain ⟨v6, hv6, hr⟩ := of_bind0 hr
    try simp only [hv6, Option.getD_some, Option.isSome_some, true_and, and_assoc]
    repeat refine gA ?_
    obtain rfl := Option.some.inj hr
    exact lf
theorem f30 : FnFact Tryd.prog 30 T30.sp := ⟨⟨Tryd.f30, Tryd.func30, by decide, rfl⟩, v30⟩
end
end Go.Proofs.YtfkmbdfajpdjjaaDoor

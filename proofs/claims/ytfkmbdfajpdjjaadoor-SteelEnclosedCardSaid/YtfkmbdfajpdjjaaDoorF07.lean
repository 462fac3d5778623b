/- Contracts of functions, written by wip/dec. -/
import Derived.Test.YtfkmbdfajpdjjaaDoorF00
import Derived.Test.YtfkmbdfajpdjjaaDoorF02
import Derived.Test.YtfkmbdfajpdjjaaDoorF05
import Derived.Test.YtfkmbdfajpdjjaaDoorF06
set_option linter.unusedVariables false
set_option linter.unusedSimpArgs false
set_option maxHeartbeats 4000000
set_option maxRecDepth 20000
namespace Go.Proofs.YtfkmbdfajpdjjaaDoor
open Go.Abs
/- martensite/martensitelaw04.SteelRuled -/
def r3 (a0_0 : List (Int × Int × Int × Int)) (a0_1 : List (Int × Int × Int × Int × Int)) (a0_2 : List (Int × Int × Int)) (a0_3 : List (Int × Int)) (a0_4 : Int) (a0_5 : Int) (a0_6 : Int) (a0_7 : Int) (a1_0 : Int) (a1_1 : Int) (a1_2 : Int) (a1_3 : Int) (a1_4 : Int) (a1_5 : Int) (a1_6 : Int) (a2_0 : Int) (a2_1 : Int) (a2_2 : Int) : Option (Bool) :=
  (r12).bind fun v1 =>
   if (!v1) = true then
    some false
    else (r13 a0_0 a0_1 a0_2 a0_3 a0_4 a0_5 a0_6 a0_7).bind fun v2 =>
     if (!v2) = true then
      some true
      else (r15 a0_0 a0_1 a0_2 a0_3 a0_4 a0_5 a0_6 a0_7).bind fun v3 =>
       (r14 v3.1 v3.2.1 v3.2.2.1 v3.2.2.2.1 v3.2.2.2.2.1 v3.2.2.2.2.2.1 v3.2.2.2.2.2.2.1 v3.2.2.2.2.2.2.2).bind fun v4 =>
        (r16 a0_0 a0_1 a0_2 a0_3 a0_4 a0_5 a0_6 a0_7).bind fun v5 =>
         if ((v4.2 == v5.2) && (v4.1 == v5.1)) = true → (r17 a1_0 a1_1 a1_2 a1_3 a1_4 a1_5 a1_6).isSome = true then
          if ((v4.2 == v5.2) && (v4.1 == v5.1)) = true → (r18 a1_0 a1_1 a1_2 a1_3 a1_4 a1_5 a1_6).isSome = true then
           if (((v4.2 == v5.2) && (v4.1 == v5.1)) && (((r17 a1_0 a1_1 a1_2 a1_3 a1_4 a1_5 a1_6).getD default) == ((r18 a1_0 a1_1 a1_2 a1_3 a1_4 a1_5 a1_6).getD default))) = true → (r19 a2_0 a2_1 a2_2).isSome = true then
            if (((v4.2 == v5.2) && (v4.1 == v5.1)) && (((r17 a1_0 a1_1 a1_2 a1_3 a1_4 a1_5 a1_6).getD default) == ((r18 a1_0 a1_1 a1_2 a1_3 a1_4 a1_5 a1_6).getD default))) = true → (r20 a2_0 a2_1 a2_2).isSome = true then
             some ((((v4.2 == v5.2) && (v4.1 == v5.1)) && (((r17 a1_0 a1_1 a1_2 a1_3 a1_4 a1_5 a1_6).getD default) == ((r18 a1_0 a1_1 a1_2 a1_3 a1_4 a1_5 a1_6).getD default))) && (((r19 a2_0 a2_1 a2_2).getD default) == ((r20 a2_0 a2_1 a2_2).getD default)))
             else none
            else none
           else none
          else none
def w3 (a0_0 : List (Int × Int × Int × Int)) (a0_1 : List (Int × Int × Int × Int × Int)) (a0_2 : List (Int × Int × Int)) (a0_3 : List (Int × Int)) (a0_4 : Int) (a0_5 : Int) (a0_6 : Int) (a0_7 : Int) (a1_0 : Int) (a1_1 : Int) (a1_2 : Int) (a1_3 : Int) (a1_4 : Int) (a1_5 : Int) (a1_6 : Int) (a2_0 : Int) (a2_1 : Int) (a2_2 : Int) : List Arg := [.agg [encF 4 d_IIII a0_0, encF 5 d_IIIII a0_1, encF 3 d_III a0_2, encF 2 d_II a0_3, .int .i64 a0_4, .int .i64 a0_5, .int .i64 a0_6, .int .i64 a0_7], .agg [.int .i64 a1_0, .int .i64 a1_1, .int .i64 a1_2, .int .i64 a1_3, .int .i64 a1_4, .int .i64 a1_5, .int .i64 a1_6], .agg [.int .i64 a2_0, .int .i64 a2_1, .int .i64 a2_2]]
def u3 (v : Bool) : List RV := [.c (.d (.bool v))]
def T3 : TSpec ((List (Int × Int × Int × Int)) × (List (Int × Int × Int × Int × Int)) × (List (Int × Int × Int)) × (List (Int × Int)) × Int × Int × Int × Int × Int × Int × Int × Int × Int × Int × Int × Int × Int × Int) where
  enc := fun ⟨a0_0, a0_1, a0_2, a0_3, a0_4, a0_5, a0_6, a0_7, a1_0, a1_1, a1_2, a1_3, a1_4, a1_5, a1_6, a2_0, a2_1, a2_2⟩ => w3 a0_0 a0_1 a0_2 a0_3 a0_4 a0_5 a0_6 a0_7 a1_0 a1_1 a1_2 a1_3 a1_4 a1_5 a1_6 a2_0 a2_1 a2_2
  dec a := (decF g_IIII (aCell a 0 0), decF g_IIIII (aCell a 0 1), decF g_III (aCell a 0 2), decF g_II (aCell a 0 3), dInt (aCell a 0 4), dInt (aCell a 0 5), dInt (aCell a 0 6), dInt (aCell a 0 7), dInt (aCell a 1 0), dInt (aCell a 1 1), dInt (aCell a 1 2), dInt (aCell a 1 3), dInt (aCell a 1 4), dInt (aCell a 1 5), dInt (aCell a 1 6), dInt (aCell a 2 0), dInt (aCell a 2 1), dInt (aCell a 2 2))
  pre := fun ⟨a0_0, a0_1, a0_2, a0_3, a0_4, a0_5, a0_6, a0_7, a1_0, a1_1, a1_2, a1_3, a1_4, a1_5, a1_6, a2_0, a2_1, a2_2⟩ => (r3 a0_0 a0_1 a0_2 a0_3 a0_4 a0_5 a0_6 a0_7 a1_0 a1_1 a1_2 a1_3 a1_4 a1_5 a1_6 a2_0 a2_1 a2_2).isSome = true
  res := fun ⟨a0_0, a0_1, a0_2, a0_3, a0_4, a0_5, a0_6, a0_7, a1_0, a1_1, a1_2, a1_3, a1_4, a1_5, a1_6, a2_0, a2_1, a2_2⟩ => u3 ((r3 a0_0 a0_1 a0_2 a0_3 a0_4 a0_5 a0_6 a0_7 a1_0 a1_1 a1_2 a1_3 a1_4 a1_5 a1_6 a2_0 a2_1 a2_2).getD default)
  al := false
theorem TP3 (c0 c1 c2 c3 c4 c5 c6 c7 c8 c9 c10 c11 c12 c13 c14 c15 c16 c17 : D) : T3.sp.pre [.agg [c0, c1, c2, c3, c4, c5, c6, c7], .agg [c8, c9, c10, c11, c12, c13, c14], .agg [c15, c16, c17]] = (eqvArgs [.agg [c0, c1, c2, c3, c4, c5, c6, c7], .agg [c8, c9, c10, c11, c12, c13, c14], .agg [c15, c16, c17]] (w3 (decF g_IIII c0) (decF g_IIIII c1) (decF g_III c2) (decF g_II c3) (dInt c4) (dInt c5) (dInt c6) (dInt c7) (dInt c8) (dInt c9) (dInt c10) (dInt c11) (dInt c12) (dInt c13) (dInt c14) (dInt c15) (dInt c16) (dInt c17)) ∧ (r3 (decF g_IIII c0) (decF g_IIIII c1) (decF g_III c2) (decF g_II c3) (dInt c4) (dInt c5) (dInt c6) (dInt c7) (dInt c8) (dInt c9) (dInt c10) (dInt c11) (dInt c12) (dInt c13) (dInt c14) (dInt c15) (dInt c16) (dInt c17)).isSome = true) := (rfl)
theorem TR3 (c0 c1 c2 c3 c4 c5 c6 c7 c8 c9 c10 c11 c12 c13 c14 c15 c16 c17 : D) : T3.sp.res [.agg [c0, c1, c2, c3, c4, c5, c6, c7], .agg [c8, c9, c10, c11, c12, c13, c14], .agg [c15, c16, c17]] = u3 ((r3 (decF g_IIII c0) (decF g_IIIII c1) (decF g_III c2) (decF g_II c3) (dInt c4) (dInt c5) (dInt c6) (dInt c7) (dInt c8) (dInt c9) (dInt c10) (dInt c11) (dInt c12) (dInt c13) (dInt c14) (dInt c15) (dInt c16) (dInt c17)).getD default) := (rfl)
theorem TA3 : T3.sp.alias = false := (rfl)
def tb3 : Fns := lk [(12, T12.sp), (13, T13.sp), (14, T14.sp), (15, T15.sp), (16, T16.sp), (17, T17.sp), (18, T18.sp), (19, T19.sp), (20, T20.sp)]
theorem tb3_ok : FnsOk Tryd.prog tb3 := .cons f12 (.cons f13 (.cons f14 (.cons f15 (.cons f16 (.cons f17 (.cons f18 (.cons f19 (.cons f20 (FnsOk.nil)))))))))
theorem tb3_12 : tb3 12 = some T12.sp := rfl
theorem tb3_13 : tb3 13 = some T13.sp := rfl
theorem tb3_14 : tb3 14 = some T14.sp := rfl
theorem tb3_15 : tb3 15 = some T15.sp := rfl
theorem tb3_16 : tb3 16 = some T16.sp := rfl
theorem tb3_17 : tb3 17 = some T17.sp := rfl
theorem tb3_18 : tb3 18 = some T18.sp := rfl
theorem tb3_19 : tb3 19 = some T19.sp := rfl
theorem tb3_20 : tb3 20 = some T20.sp := rfl
attribute [go_sem] TP3 TR3 TA3 w3 u3
section
attribute [local go_sem] T3 tb3_12 tb3_13 tb3_14 tb3_15 tb3_16 tb3_17 tb3_18 tb3_19 tb3_20 Tryd.results3
theorem v3 : Valid Tryd.prog 3 T3.sp := by
  refine valid_t (fn := Tryd.f3) (n := 49) ty_ok tb3_ok Tryd.func3 rfl Tryd.ntmps3 ?_
  rintro ⟨a0_0, a0_1, a0_2, a0_3, a0_4, a0_5, a0_6, a0_7, a1_0, a1_1, a1_2, a1_3, a1_4, a1_5, a1_6, a2_0, a2_1, a2_2⟩ hx
  obtain ⟨r, hr⟩ := Option.isSome_iff_exists.1 (show (r3 a0_0 a0_1 a0_2 a0_3 a0_4 a0_5 a0_6 a0_7 a1_0 a1_1 a1_2 a1_3 a1_4 a1_5 a1_6 a2_0 a2_1 a2_2).isSome = true from hx)
  have hres : T3.res (a0_0, a0_1, a0_2, a0_3, a0_4, a0_5, a0_6, a0_7, a1_0, a1_1, a1_2, a1_3, a1_4, a1_5, a1_6, a2_0, a2_1, a2_2) = u3 r := by simp only [T3, hr, Option.getD_some]
  refine ⟨Nat.le_of_ble_eq_true rfl, fun stop S => ?_⟩
  rw [hres] at S
  unfold r3 at hr
  refine S.gx [] ?_
  obtain ⟨v1, hv1, hr⟩ := of_bind0 hr
  try simp only [hv1, Option.getD_some, Option.isSome_some, true_and, and_assoc]
  repeat refine gA ?_
  refine ⟨fun hc => ?_, fun hc => ?_⟩
  · replace hr := ifP hr hc
    repeat refine gA ?_
    obtain rfl := Option.some.inj hr
    exact lf
  · replace hr := ifN hr hc
    obtain ⟨v2, hv2, hr⟩ := of_bind0 hr
    try simp only [hv2, Option.getD_some, Option.isSome_some, true_and, and_assoc]
    repeat refine gA ?_
    refine ⟨fun hc => ?_, fun hc => ?_⟩
    · replace hr := ifP hr hc
      repeat refine gA ?_
      obtain rfl := Option.some.inj hr
      exact lf
    · replace hr := ifN hr hc
      obtain ⟨v3, hv3, hr⟩ := of_bind0 hr
      obtain ⟨v4, hv4, hr⟩ := of_bind0 hr
      obtain ⟨v5, hv5, hr⟩ := of_bind0 hr
      obtain ⟨hg6, hr⟩ := of_guard0 hr
      obtain ⟨hg7, hr⟩ := of_guard0 hr
      obtain ⟨hg8, hr⟩ := of_guard0 hr
      obtain ⟨hg9, hr⟩ := of_guard0 hr
      try simp only [hv3, hv4, hv5, Option.getD_some, Option.isSome_some, true_and, and_assoc]
      repeat (first | refine gG hg6 ?_ | refine gG hg7 ?_ | refine gG hg8 ?_ | refine gG hg9 ?_ | refine gA ?_ | refine gB ?_)
      obtain rfl := Option.some.inj hr
      exact lf
theorem f3 : FnFact Tryd.prog 3 T3.sp := ⟨⟨Tryd.f3, Tryd.func3, by decide, rfl⟩, v3⟩
end
end Go.Proofs.YtfkmbdfajpdjjaaDoor

/- Contracts of functions, written by wip/dec. -/
import Derived.Test.YtfkmbdfajpdjjaaDoorF00
import Derived.Test.YtfkmbdfajpdjjaaDoorF03
import Derived.Test.YtfkmbdfajpdjjaaDoorF05
import Derived.Test.YtfkmbdfajpdjjaaDoorF06
import Derived.Test.YtfkmbdfajpdjjaaDoorF08
set_option linter.unusedVariables false
set_option linter.unusedSimpArgs false
set_option maxHeartbeats 4000000
set_option maxRecDepth 20000
namespace Go.Proofs.YtfkmbdfajpdjjaaDoor
open Go.Abs
/- martensite/martensitelaw04.SteelFaster -/
def b4_1 (a0_0 : List (Int × Int × Int × Int)) (a0_1 : List (Int × Int × Int × Int × Int)) (a0_2 : List (Int × Int × Int)) (a0_3 : List (Int × Int)) (a0_4 : Int) (a0_5 : Int) (a0_6 : Int) (a0_7 : Int) (a1_0 : Int) (a1_1 : Int) (a1_2 : Int) (a1_3 : Int) (a1_4 : Int) (a1_5 : Int) (a1_6 : Int) (a2_0 : List (Int)) (a2_1 : Int) (a2_2 : Int) (a2_3 : Int) (a2_4 : Int) (a2_5 : Int) (a2_6 : Int) : (Bool × Bool × Int) → Ctl (Bool × Bool × Int) (Bool) := fun s1 =>
  if (decide (s1.2.2 < (a2_0.length : Int))) = true then
   if (decide ((a0_0.length : Int) > 0)) = true → 0 ≤ s1.2.2 ∧ s1.2.2 < (a2_0.length : Int) then
    if (decide ((a0_0.length : Int) > 0)) = true → 0 ≤ 0 ∧ 0 < (a0_0.length : Int) then
     .next (s1.1 && ((decide ((a0_0.length : Int) > 0)) && (decide ((a2_0.getD s1.2.2.toNat default) ≥ ((a0_0.getD 0 default).1)))), s1.2.1 && (!((decide ((a0_0.length : Int) > 0)) && (decide ((a2_0.getD s1.2.2.toNat default) ≥ ((a0_0.getD 0 default).1))))), IntKind.i64.wrap (s1.2.2 + 1))
     else .out none
    else .out none
   else .out ((r15 a0_0 a0_1 a0_2 a0_3 a0_4 a0_5 a0_6 a0_7).bind fun v5 =>
    (r24 a2_0).bind fun v6 =>
     (r23 v5.1 v5.2.1 v5.2.2.1 v5.2.2.2.1 v5.2.2.2.2.1 v5.2.2.2.2.2.1 v5.2.2.2.2.2.2.1 v5.2.2.2.2.2.2.2 a1_0 a1_1 a1_2 a1_3 a1_4 a1_5 a1_6 v6 a2_1 a2_2 a2_3).bind fun v7 =>
      (r23 v5.1 v5.2.1 v5.2.2.1 v5.2.2.2.1 v5.2.2.2.2.1 v5.2.2.2.2.2.1 v5.2.2.2.2.2.2.1 v5.2.2.2.2.2.2.2 a1_0 a1_1 a1_2 a1_3 a1_4 a1_5 a1_6 v6 a2_4 a2_5 a2_6).bind fun v8 =>
       if ((v7.2.2.2.2.2.2.2 != 0) || (v8.2.2.2.2.2.2.2 != 0)) = true then
        some false
        else if (s1.1 && (((decide (a2_1 ≤ a2_4)) && (decide (v7.2.1 > v8.2.1))) || ((decide (a2_1 ≥ a2_4)) && (decide (v7.2.1 < v8.2.1))))) = true then
         some false
         else some ((!s1.2.1) || (((decide (a2_3 > a2_6)) || (decide (v7.2.2.2.1 ≤ v8.2.2.2.1))) && ((decide (a2_3 < a2_6)) || (decide (v7.2.2.2.1 ≥ v8.2.2.2.1))))))
def r4 (a0_0 : List (Int × Int × Int × Int)) (a0_1 : List (Int × Int × Int × Int × Int)) (a0_2 : List (Int × Int × Int)) (a0_3 : List (Int × Int)) (a0_4 : Int) (a0_5 : Int) (a0_6 : Int) (a0_7 : Int) (a1_0 : Int) (a1_1 : Int) (a1_2 : Int) (a1_3 : Int) (a1_4 : Int) (a1_5 : Int) (a1_6 : Int) (a2_0 : List (Int)) (a2_1 : Int) (a2_2 : Int) (a2_3 : Int) (a2_4 : Int) (a2_5 : Int) (a2_6 : Int) : Option (Bool) :=
  (r12).bind fun v1 =>
   if (!v1) = true then
    some false
    else (r13 a0_0 a0_1 a0_2 a0_3 a0_4 a0_5 a0_6 a0_7).bind fun v2 =>
     if (!((!v2) || (decide ((a2_0.length : Int) > 30)))) = true → (r21 a0_0 a0_1 a0_2 a0_3 a0_4 a0_5 a0_6 a0_7).isSome = true then
      if (!(((!v2) || (decide ((a2_0.length : Int) > 30))) || (((r21 a0_0 a0_1 a0_2 a0_3 a0_4 a0_5 a0_6 a0_7).getD default) != 0))) = true → (r18 a1_0 a1_1 a1_2 a1_3 a1_4 a1_5 a1_6).isSome = true then
       if (!((((!v2) || (decide ((a2_0.length : Int) > 30))) || (((r21 a0_0 a0_1 a0_2 a0_3 a0_4 a0_5 a0_6 a0_7).getD default) != 0)) || (((r18 a1_0 a1_1 a1_2 a1_3 a1_4 a1_5 a1_6).getD default) != 0))) = true → (r22 a2_0).isSome = true then
        if (!(((((!v2) || (decide ((a2_0.length : Int) > 30))) || (((r21 a0_0 a0_1 a0_2 a0_3 a0_4 a0_5 a0_6 a0_7).getD default) != 0)) || (((r18 a1_0 a1_1 a1_2 a1_3 a1_4 a1_5 a1_6).getD default) != 0)) || (((r22 a2_0).getD default) != 0))) = true → (r20 a2_1 a2_2 a2_3).isSome = true then
         if (!((((((!v2) || (decide ((a2_0.length : Int) > 30))) || (((r21 a0_0 a0_1 a0_2 a0_3 a0_4 a0_5 a0_6 a0_7).getD default) != 0)) || (((r18 a1_0 a1_1 a1_2 a1_3 a1_4 a1_5 a1_6).getD default) != 0)) || (((r22 a2_0).getD default) != 0)) || (((r20 a2_1 a2_2 a2_3).getD default) != 0))) = true → (r20 a2_4 a2_5 a2_6).isSome = true then
          if (((((((!v2) || (decide ((a2_0.length : Int) > 30))) || (((r21 a0_0 a0_1 a0_2 a0_3 a0_4 a0_5 a0_6 a0_7).getD default) != 0)) || (((r18 a1_0 a1_1 a1_2 a1_3 a1_4 a1_5 a1_6).getD default) != 0)) || (((r22 a2_0).getD default) != 0)) || (((r20 a2_1 a2_2 a2_3).getD default) != 0)) || (((r20 a2_4 a2_5 a2_6).getD default) != 0)) = true then
           some true
           else iterC (b4_1 a0_0 a0_1 a0_2 a0_3 a0_4 a0_5 a0_6 a0_7 a1_0 a1_1 a1_2 a1_3 a1_4 a1_5 a1_6 a2_0 a2_1 a2_2 a2_3 a2_4 a2_5 a2_6) 1000000000 (true, (a0_1.length : Int) == 0, 0)
          else none
         else none
        else none
       else none
      else none
def T4 : TSpec ((List (Int × Int × Int × Int)) × (List (Int × Int × Int × Int × Int)) × (List (Int × Int × Int)) × (List (Int × Int)) × Int × Int × Int × Int × Int × Int × Int × Int × Int × Int × Int × (List (Int)) × Int × Int × Int × Int × Int × Int) where
  enc := fun ⟨a0_0, a0_1, a0_2, a0_3, a0_4, a0_5, a0_6, a0_7, a1_0, a1_1, a1_2, a1_3, a1_4, a1_5, a1_6, a2_0, a2_1, a2_2, a2_3, a2_4, a2_5, a2_6⟩ => [.agg [encF 4 d_IIII a0_0, encF 5 d_IIIII a0_1, encF 3 d_III a0_2, encF 2 d_II a0_3, .int .i64 a0_4, .int .i64 a0_5, .int .i64 a0_6, .int .i64 a0_7], .agg [.int .i64 a1_0, .int .i64 a1_1, .int .i64 a1_2, .int .i64 a1_3, .int .i64 a1_4, .int .i64 a1_5, .int .i64 a1_6], .agg [encF 1 d_I a2_0, .int .i64 a2_1, .int .i64 a2_2, .int .i64 a2_3, .int .i64 a2_4, .int .i64 a2_5, .int .i64 a2_6]]
  dec a := (decF g_IIII (aCell a 0 0), decF g_IIIII (aCell a 0 1), decF g_III (aCell a 0 2), decF g_II (aCell a 0 3), dInt (aCell a 0 4), dInt (aCell a 0 5), dInt (aCell a 0 6), dInt (aCell a 0 7), dInt (aCell a 1 0), dInt (aCell a 1 1), dInt (aCell a 1 2), dInt (aCell a 1 3), dInt (aCell a 1 4), dInt (aCell a 1 5), dInt (aCell a 1 6), decF g_I (aCell a 2 0), dInt (aCell a 2 1), dInt (aCell a 2 2), dInt (aCell a 2 3), dInt (aCell a 2 4), dInt (aCell a 2 5), dInt (aCell a 2 6))
  pre := fun ⟨a0_0, a0_1, a0_2, a0_3, a0_4, a0_5, a0_6, a0_7, a1_0, a1_1, a1_2, a1_3, a1_4, a1_5, a1_6, a2_0, a2_1, a2_2, a2_3, a2_4, a2_5, a2_6⟩ => (r4 a0_0 a0_1 a0_2 a0_3 a0_4 a0_5 a0_6 a0_7 a1_0 a1_1 a1_2 a1_3 a1_4 a1_5 a1_6 a2_0 a2_1 a2_2 a2_3 a2_4 a2_5 a2_6).isSome = true
  res := fun ⟨a0_0, a0_1, a0_2, a0_3, a0_4, a0_5, a0_6, a0_7, a1_0, a1_1, a1_2, a1_3, a1_4, a1_5, a1_6, a2_0, a2_1, a2_2, a2_3, a2_4, a2_5, a2_6⟩ => [.c (.d (.bool ((r4 a0_0 a0_1 a0_2 a0_3 a0_4 a0_5 a0_6 a0_7 a1_0 a1_1 a1_2 a1_3 a1_4 a1_5 a1_6 a2_0 a2_1 a2_2 a2_3 a2_4 a2_5 a2_6).getD default)))]
  al := false
theorem TP4 (c0 c1 c2 c3 c4 c5 c6 c7 c8 c9 c10 c11 c12 c13 c14 c15 c16 c17 c18 c19 c20 c21 : D) : T4.sp.pre [.agg [c0, c1, c2, c3, c4, c5, c6, c7], .agg [c8, c9, c10, c11, c12, c13, c14], .agg [c15, c16, c17, c18, c19, c20, c21]] = (eqvArgs [.agg [c0, c1, c2, c3, c4, c5, c6, c7], .agg [c8, c9, c10, c11, c12, c13, c14], .agg [c15, c16, c17, c18, c19, c20, c21]] [.agg [encF 4 d_IIII (decF g_IIII c0), encF 5 d_IIIII (decF g_IIIII c1), encF 3 d_III (decF g_III c2), encF 2 d_II (decF g_II c3), .int .i64 (dInt c4), .int .i64 (dInt c5), .int .i64 (dInt c6), .int .i64 (dInt c7)], .agg [.int .i64 (dInt c8), .int .i64 (dInt c9), .int .i64 (dInt c10), .int .i64 (dInt c11), .int .i64 (dInt c12), .int .i64 (dInt c13), .int .i64 (dInt c14)], .agg [encF 1 d_I (decF g_I c15), .int .i64 (dInt c16), .int .i64 (dInt c17), .int .i64 (dInt c18), .int .i64 (dInt c19), .int .i64 (dInt c20), .int .i64 (dInt c21)]] ∧ (r4 (decF g_IIII c0) (decF g_IIIII c1) (decF g_III c2) (decF g_II c3) (dInt c4) (dInt c5) (dInt c6) (dInt c7) (dInt c8) (dInt c9) (dInt c10) (dInt c11) (dInt c12) (dInt c13) (dInt c14) (decF g_I c15) (dInt c16) (dInt c17) (dInt c18) (dInt c19) (dInt c20) (dInt c21)).isSome = true) := (rfl)
theorem TR4 (c0 c1 c2 c3 c4 c5 c6 c7 c8 c9 c10 c11 c12 c13 c14 c15 c16 c17 c18 c19 c20 c21 : D) : T4.sp.res [.agg [c0, c1, c2, c3, c4, c5, c6, c7], .agg [c8, c9, c10, c11, c12, c13, c14], .agg [c15, c16, c17, c18, c19, c20, c21]] = [.c (.d (.bool ((r4 (decF g_IIII c0) (decF g_IIIII c1) (decF g_III c2) (decF g_II c3) (dInt c4) (dInt c5) (dInt c6) (dInt c7) (dInt c8) (dInt c9) (dInt c10) (dInt c11) (dInt c12) (dInt c13) (dInt c14) (decF g_I c15) (dInt c16) (dInt c17) (dInt c18) (dInt c19) (dInt c20) (dInt c21)).getD default)))] := (rfl)
theorem TA4 : T4.sp.alias = false := (rfl)
def tb4 : Fns := lk [(12, T12.sp), (13, T13.sp), (15, T15.sp), (18, T18.sp), (20, T20.sp), (21, T21.sp), (22, T22.sp), (23, T23.sp), (24, T24.sp)]
theorem tb4_ok : FnsOk Tryd.prog tb4 := .cons f12 (.cons f13 (.cons f15 (.cons f18 (.cons f20 (.cons f21 (.cons f22 (.cons f23 (.cons f24 (FnsOk.nil)))))))))
theorem tb4_12 : tb4 12 = some T12.sp := rfl
theorem tb4_13 : tb4 13 = some T13.sp := rfl
theorem tb4_15 : tb4 15 = some T15.sp := rfl
theorem tb4_18 : tb4 18 = some T18.sp := rfl
theorem tb4_20 : tb4 20 = some T20.sp := rfl
theorem tb4_21 : tb4 21 = some T21.sp := rfl
theorem tb4_22 : tb4 22 = some T22.sp := rfl
theorem tb4_23 : tb4 23 = some T23.sp := rfl
theorem tb4_24 : tb4 24 = some T24.sp := rfl
attribute [go_sem] TP4 TR4 TA4
section
attribute [local go_sem] T4 tb4_12 tb4_13 tb4_15 tb4_18 tb4_20 tb4_21 tb4_22 tb4_23 tb4_24 Tryd.results4
theorem v4 : Valid Tryd.prog 4 T4.sp := by
  refine valid_t (fn := Tryd.f4) (n := 190) ty_ok tb4_ok Tryd.func4 rfl Tryd.ntmps4 ?_
  rintro ⟨a0_0, a0_1, a0_2, a0_3, a0_4, a0_5, a0_6, a0_7, a1_0, a1_1, a1_2, a1_3, a1_4, a1_5, a1_6, a2_0, a2_1, a2_2, a2_3, a2_4, a2_5, a2_6⟩ hx
  obtain ⟨r, hr⟩ := Option.isSome_iff_exists.1 (show (r4 a0_0 a0_1 a0_2 a0_3 a0_4 a0_5 a0_6 a0_7 a1_0 a1_1 a1_2 a1_3 a1_4 a1_5 a1_6 a2_0 a2_1 a2_2 a2_3 a2_4 a2_5 a2_6).isSome = true from hx)
  have hres : T4.res (a0_0, a0_1, a0_2, a0_3, a0_4, a0_5, a0_6, a0_7, a1_0, a1_1, a1_2, a1_3, a1_4, a1_5, a1_6, a2_0, a2_1, a2_2, a2_3, a2_4, a2_5, a2_6) = [.c (.d (.bool r))] := by simp only [T4, hr, Option.getD_some]
  refine ⟨Nat.le_of_ble_eq_true rfl, fun stop S => ?_⟩
  rw [hres] at S
  unfold r4 at hr
  refine S.gx [4, 5, 8, 13, 16, 17] ?_
  obtain ⟨v1, hv1, hr⟩ := of_bind0 hr
  try simp only [hv1, Option.getD_some, Option.isSome_some, true_and, and_assoc]
  repeat refine gA ?_
  refine ⟨fun hc => ?_, fun hc => ?_⟩
  · replace hr := ifP hr hc
    repeat refine gA ?_
    obtain rfl := Option.some.inj hr
    exact lf
  · replace hr := ifN hr hc
    obtain ⟨v2, hv2, hr⟩ := of_bind0 hr
    obtain ⟨hg9, hr⟩ := of_guard0 hr
    obtain ⟨hg10, hr⟩ := of_guard0 hr
    obtain ⟨hg11, hr⟩ := of_guard0 hr
    obtain ⟨hg12, hr⟩ := of_guard0 hr
    obtain ⟨hg13, hr⟩ := of_guard0 hr
    try simp only [hv2, Option.getD_some, Option.isSome_some, true_and, and_assoc]
    repeat (first | refine gG hg9 ?_ | refine gG hg10 ?_ | refine gG hg11 ?_ | refine gG hg12 ?_ | refine gG hg13 ?_ | refine gA ?_ | refine gB ?_)
    refine ⟨fun hc => ?_, fun hc => ?_⟩
    · replace hr := ifP hr hc
      repeat refine gA ?_
      refine S.prune [] ?_
      refine S.gx [5, 8, 13, 16, 17] ?_
      repeat refine gA ?_
      repeat refine gA ?_
      obtain rfl := Option.some.inj hr
      exact lf
    · replace hr := ifN hr hc
      repeat refine gA ?_
      refine S.prune [3, 4, 5] ?_
      refine S.gx [4, 8, 13, 16, 17] ?_
      repeat refine gA ?_
      repeat refine gA ?_
      refine S.sees [3, 4, 5, 7, 8, 9] [(3, 3), (4, 4), (5, 5)] [] ?_ (Stop.iter S (fun s1 => ⟨[(3, .c (.ref 3 0)), (4, .c (.ref 4 0)), (5, .c (.ref 5 0)), (7, .c (.d (.bool s1.1))), (8, .c (.d (.bool s1.2.1))), (9, .c (.d (.int .i64 s1.2.2)))], [(3, [.d (encF 4 d_IIII a0_0), .d (encF 5 d_IIIII a0_1), .d (encF 3 d_III a0_2), .d (encF 2 d_II a0_3), .d (.int .i64 a0_4), .d (.int .i64 a0_5), .d (.int .i64 a0_6), .d (.int .i64 a0_7)]), (4, [.d (.int .i64 a1_0), .d (.int .i64 a1_1), .d (.int .i64 a1_2), .d (.int .i64 a1_3), .d (.int .i64 a1_4), .d (.int .i64 a1_5), .d (.int .i64 a1_6)]), (5, [.d (encF 1 d_I a2_0), .d (.int .i64 a2_1), .d (.int .i64 a2_2), .d (.int .i64 a2_3), .d (.int .i64 a2_4), .d (.int .i64 a2_5), .d (.int .i64 a2_6)])], []⟩) (b4_1 a0_0 a0_1 a0_2 a0_3 a0_4 a0_5 a0_6 a0_7 a1_0 a1_1 a1_2 a1_3 a1_4 a1_5 a1_6 a2_0 a2_1 a2_2 a2_3 a2_4 a2_5 a2_6) (fun q => q = r) hr rfl ?_)
      · exact lf
      · intro s1 hr
        unfold b4_1 at hr
        refine S.gx [4, 5, 8, 13, 16, 17] ?_
        repeat refine gA ?_
        refine ⟨fun hc => ?_, fun hc => ?_⟩
        · replace hr := ifP1 hr hc
          obtain ⟨hg3, hr⟩ := of_guard1 hr
          obtain ⟨hg4, hr⟩ := of_guard1 hr
          repeat (first | refine gG hg3 ?_ | refine gG hg4 ?_ | refine gA ?_ | refine gB ?_)
          refine S.prune [3, 4, 5, 7, 8, 9] ?_
          refine S.gx [4, 5, 13, 16, 17] ?_
          repeat refine gA ?_
          repeat refine gA ?_
          refine S.sees [3, 4, 5, 7, 8, 9] [(3, 3), (4, 4), (5, 5)] [] ?_ hr
          exact lf
        · replace hr := ifN1 hr hc
          repeat refine gA ?_
          have hr := of_out0 hr
          obtain ⟨v5, hv5, hr⟩ := of_bind0 hr
          obtain ⟨v6, hv6, hr⟩ := of_bind0 hr
          obtain ⟨v7, hv7, hr⟩ := of_bind0 hr
          obtain ⟨v8, hv8, hr⟩ := of_bind0 hr
          try simp only [hv5, hv6, hv7, hv8, Option.getD_some, Option.isSome_some, true_and, and_assoc]
          repeat refine gA ?_
          refine S.prune [5, 7, 8, 11, 12, 13, 14] ?_
          refine S.gx [4, 5, 8, 16, 17] ?_
          repeat (first | refine gA ?_ | refine gB ?_)
          repeat refine gA ?_
          refine ⟨fun hc => ?_, fun hc => ?_⟩
          · replace hr := ifP hr hc
            repeat refine gA ?_
            obtain rfl := Option.some.inj hr
            exact lf
          · replace hr := ifN hr hc
            repeat (first | refine gA ?_ | refine gB ?_)
            refine ⟨fun hc => ?_, fun hc => ?_⟩
            · replace hr := ifP hr hc
              repeat refine gA ?_
              refine S.prune [] ?_
              refine S.gx [4, 5, 8, 13, 17] ?_
              repeat refine gA ?_
              repeat refine gA ?_
              obtain rfl := Option.some.inj hr
              exact lf
            · replace hr := ifN hr hc
              repeat refine gA ?_
              refine S.prune [5, 8, 11, 13] ?_
              refine S.gx [4, 5, 8, 13, 16] ?_
              repeat (first | refine gA ?_ | refine gB ?_)
              repeat refine gA ?_
              obtain rfl := Option.some.inj hr
              exact lf
theorem f4 : FnFact Tryd.prog 4 T4.sp := ⟨⟨Tryd.f4, Tryd.func4, by decide, rfl⟩, v4⟩
end
end Go.Proofs.YtfkmbdfajpdjjaaDoor

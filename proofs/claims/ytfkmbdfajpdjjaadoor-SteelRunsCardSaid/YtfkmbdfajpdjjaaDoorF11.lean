/- Contracts of functions, written by wip/dec. -/
import Derived.Test.YtfkmbdfajpdjjaaDoorF00
import Derived.Test.YtfkmbdfajpdjjaaDoorF03
import Derived.Test.YtfkmbdfajpdjjaaDoorF05
import Derived.Test.YtfkmbdfajpdjjaaDoorF06
import Derived.Test.YtfkmbdfajpdjjaaDoorF08
import Derived.Test.YtfkmbdfajpdjjaaDoorF10
set_option linter.unusedVariables false
set_option linter.unusedSimpArgs false
set_option maxHeartbeats 4000000
set_option maxRecDepth 20000
namespace Go.Proofs.YtfkmbdfajpdjjaaDoor
open Go.Abs
/- martensite/martensitelaw04.SteelShares -/
def b6_1 (a0_0 : List (Int × Int × Int × Int)) (a0_1 : List (Int × Int × Int × Int × Int)) (a0_2 : List (Int × Int × Int)) (a0_3 : List (Int × Int)) (a0_4 : Int) (a0_5 : Int) (a0_6 : Int) (a0_7 : Int) (a2_0 : List (Int)) (a2_1 : Int) (a2_2 : Int) (a2_3 : Int) : (Int × Int × Int × Int × Int × Int × Int × Int) → Ctl (Int × Int × Int × Int × Int × Int × Int × Int) (Bool) := fun s1 =>
  if (decide (s1.1 < (a2_0.length : Int))) = true then
   bindC (r15 a0_0 a0_1 a0_2 a0_3 a0_4 a0_5 a0_6 a0_7) fun v3 =>
    if 0 ≤ s1.1 ∧ s1.1 < (a2_0.length : Int) then
     bindC (r30 v3.1 v3.2.1 v3.2.2.1 v3.2.2.2.1 v3.2.2.2.2.1 v3.2.2.2.2.2.1 v3.2.2.2.2.2.2.1 v3.2.2.2.2.2.2.2 s1.2.1 s1.2.2.1 s1.2.2.2.1 s1.2.2.2.2.1 s1.2.2.2.2.2.1 s1.2.2.2.2.2.2.1 s1.2.2.2.2.2.2.2 (a2_0.getD s1.1.toNat default) a2_1 a2_2 a2_3) fun v4 =>
      if (!(v4.2.2.2.2.2.2.2 != 0)) = true → (r18 v4.1 v4.2.1 v4.2.2.1 v4.2.2.2.1 v4.2.2.2.2.1 v4.2.2.2.2.2.1 v4.2.2.2.2.2.2.1).isSome = true then
       if ((v4.2.2.2.2.2.2.2 != 0) || (((r18 v4.1 v4.2.1 v4.2.2.1 v4.2.2.2.1 v4.2.2.2.2.1 v4.2.2.2.2.2.1 v4.2.2.2.2.2.2.1).getD default) != 0)) = true then
        .out (some false)
        else if (decide ((a0_0.length : Int) > 0)) = true → 0 ≤ s1.1 ∧ s1.1 < (a2_0.length : Int) then
         if (decide ((a0_0.length : Int) > 0)) = true → 0 ≤ 0 ∧ 0 < (a0_0.length : Int) then
          if ((decide ((a0_0.length : Int) > 0)) && (decide ((a2_0.getD s1.1.toNat default) ≥ ((a0_0.getD 0 default).1)))) = true then
           if ((((decide (v4.2.1 < s1.2.2.1)) || (v4.2.2.1 != 0)) || (v4.2.2.2.1 != 0)) || (decide (v4.2.2.2.2.2.1 < s1.2.2.2.2.2.2.1))) = true then
            .out (some false)
            else bindC (r31 v3.1 v3.2.1 v3.2.2.1 v3.2.2.2.1 v3.2.2.2.2.1 v3.2.2.2.2.2.1 v3.2.2.2.2.2.2.1 v3.2.2.2.2.2.2.2 v4.1 v4.2.1 v4.2.2.1 v4.2.2.2.1 v4.2.2.2.2.1 v4.2.2.2.2.2.1 v4.2.2.2.2.2.2.1) fun v5 =>
             if (!(v5.2 != 0)) = true → (r29 v5.1 a0_4 a0_7).isSome = true then
              if ((v5.2 != 0) || (!((r29 v5.1 a0_4 a0_7).getD default))) = true then
               .out (some false)
               else .next (IntKind.i64.wrap (s1.1 + 1), v4.1, v4.2.1, v4.2.2.1, v4.2.2.2.1, v4.2.2.2.2.1, v4.2.2.2.2.2.1, v4.2.2.2.2.2.2.1)
              else .out none
           else if (((((v4.1 != s1.2.1) || (decide (v4.2.2.2.1 < s1.2.2.2.2.1))) || (decide (v4.2.2.1 < s1.2.2.2.1))) || (v4.2.2.2.2.2.1 != s1.2.2.2.2.2.2.1)) || (decide (v4.2.2.2.2.2.2.1 < s1.2.2.2.2.2.2.2))) = true then
            .out (some false)
            else bindC (r31 v3.1 v3.2.1 v3.2.2.1 v3.2.2.2.1 v3.2.2.2.2.1 v3.2.2.2.2.2.1 v3.2.2.2.2.2.2.1 v3.2.2.2.2.2.2.2 v4.1 v4.2.1 v4.2.2.1 v4.2.2.2.1 v4.2.2.2.2.1 v4.2.2.2.2.2.1 v4.2.2.2.2.2.2.1) fun v7 =>
             if (!(v7.2 != 0)) = true → (r29 v7.1 a0_4 a0_7).isSome = true then
              if ((v7.2 != 0) || (!((r29 v7.1 a0_4 a0_7).getD default))) = true then
               .out (some false)
               else .next (IntKind.i64.wrap (s1.1 + 1), v4.1, v4.2.1, v4.2.2.1, v4.2.2.2.1, v4.2.2.2.2.1, v4.2.2.2.2.2.1, v4.2.2.2.2.2.2.1)
              else .out none
          else .out none
         else .out none
       else .out none
     else .out none
   else .out (some true)
def r6 (a0_0 : List (Int × Int × Int × Int)) (a0_1 : List (Int × Int × Int × Int × Int)) (a0_2 : List (Int × Int × Int)) (a0_3 : List (Int × Int)) (a0_4 : Int) (a0_5 : Int) (a0_6 : Int) (a0_7 : Int) (a1_0 : Int) (a1_1 : Int) (a1_2 : Int) (a1_3 : Int) (a1_4 : Int) (a1_5 : Int) (a1_6 : Int) (a2_0 : List (Int)) (a2_1 : Int) (a2_2 : Int) (a2_3 : Int) : Option (Bool) :=
  (r12).bind fun v1 =>
   if (!v1) = true then
    some false
    else (r13 a0_0 a0_1 a0_2 a0_3 a0_4 a0_5 a0_6 a0_7).bind fun v2 =>
     if (!((!v2) || (decide ((a2_0.length : Int) > 30)))) = true → (r21 a0_0 a0_1 a0_2 a0_3 a0_4 a0_5 a0_6 a0_7).isSome = true then
      if (!(((!v2) || (decide ((a2_0.length : Int) > 30))) || (((r21 a0_0 a0_1 a0_2 a0_3 a0_4 a0_5 a0_6 a0_7).getD default) != 0))) = true → (r18 a1_0 a1_1 a1_2 a1_3 a1_4 a1_5 a1_6).isSome = true then
       if (!((((!v2) || (decide ((a2_0.length : Int) > 30))) || (((r21 a0_0 a0_1 a0_2 a0_3 a0_4 a0_5 a0_6 a0_7).getD default) != 0)) || (((r18 a1_0 a1_1 a1_2 a1_3 a1_4 a1_5 a1_6).getD default) != 0))) = true → (r22 a2_0).isSome = true then
        if (!(((((!v2) || (decide ((a2_0.length : Int) > 30))) || (((r21 a0_0 a0_1 a0_2 a0_3 a0_4 a0_5 a0_6 a0_7).getD default) != 0)) || (((r18 a1_0 a1_1 a1_2 a1_3 a1_4 a1_5 a1_6).getD default) != 0)) || (((r22 a2_0).getD default) != 0))) = true → (r20 a2_1 a2_2 a2_3).isSome = true then
         if ((((((!v2) || (decide ((a2_0.length : Int) > 30))) || (((r21 a0_0 a0_1 a0_2 a0_3 a0_4 a0_5 a0_6 a0_7).getD default) != 0)) || (((r18 a1_0 a1_1 a1_2 a1_3 a1_4 a1_5 a1_6).getD default) != 0)) || (((r22 a2_0).getD default) != 0)) || (((r20 a2_1 a2_2 a2_3).getD default) != 0)) = true then
          some true
          else iterC (b6_1 a0_0 a0_1 a0_2 a0_3 a0_4 a0_5 a0_6 a0_7 a2_0 a2_1 a2_2 a2_3) 1000000000 (0, a1_0, a1_1, a1_2, a1_3, a1_4, a1_5, a1_6)
         else none
        else none
       else none
      else none
def T6 : TSpec ((List (Int × Int × Int × Int)) × (List (Int × Int × Int × Int × Int)) × (List (Int × Int × Int)) × (List (Int × Int)) × Int × Int × Int × Int × Int × Int × Int × Int × Int × Int × Int × (List (Int)) × Int × Int × Int) where
  enc := fun ⟨a0_0, a0_1, a0_2, a0_3, a0_4, a0_5, a0_6, a0_7, a1_0, a1_1, a1_2, a1_3, a1_4, a1_5, a1_6, a2_0, a2_1, a2_2, a2_3⟩ => [.agg [encF 4 d_IIII a0_0, encF 5 d_IIIII a0_1, encF 3 d_III a0_2, encF 2 d_II a0_3, .int .i64 a0_4, .int .i64 a0_5, .int .i64 a0_6, .int .i64 a0_7], .agg [.int .i64 a1_0, .int .i64 a1_1, .int .i64 a1_2, .int .i64 a1_3, .int .i64 a1_4, .int .i64 a1_5, .int .i64 a1_6], .agg [encF 1 d_I a2_0, .int .i64 a2_1, .int .i64 a2_2, .int .i64 a2_3]]
  dec a := (decF g_IIII (aCell a 0 0), decF g_IIIII (aCell a 0 1), decF g_III (aCell a 0 2), decF g_II (aCell a 0 3), dInt (aCell a 0 4), dInt (aCell a 0 5), dInt (aCell a 0 6), dInt (aCell a 0 7), dInt (aCell a 1 0), dInt (aCell a 1 1), dInt (aCell a 1 2), dInt (aCell a 1 3), dInt (aCell a 1 4), dInt (aCell a 1 5), dInt (aCell a 1 6), decF g_I (aCell a 2 0), dInt (aCell a 2 1), dInt (aCell a 2 2), dInt (aCell a 2 3))
  pre := fun ⟨a0_0, a0_1, a0_2, a0_3, a0_4, a0_5, a0_6, a0_7, a1_0, a1_1, a1_2, a1_3, a1_4, a1_5, a1_6, a2_0, a2_1, a2_2, a2_3⟩ => (r6 a0_0 a0_1 a0_2 a0_3 a0_4 a0_5 a0_6 a0_7 a1_0 a1_1 a1_2 a1_3 a1_4 a1_5 a1_6 a2_0 a2_1 a2_2 a2_3).isSome = true
  res := fun ⟨a0_0, a0_1, a0_2, a0_3, a0_4, a0_5, a0_6, a0_7, a1_0, a1_1, a1_2, a1_3, a1_4, a1_5, a1_6, a2_0, a2_1, a2_2, a2_3⟩ => [.c (.d (.bool ((r6 a0_0 a0_1 a0_2 a0_3 a0_4 a0_5 a0_6 a0_7 a1_0 a1_1 a1_2 a1_3 a1_4 a1_5 a1_6 a2_0 a2_1 a2_2 a2_3).getD default)))]
  al := false
theorem TP6 (c0 c1 c2 c3 c4 c5 c6 c7 c8 c9 c10 c11 c12 c13 c14 c15 c16 c17 c18 : D) : T6.sp.pre [.agg [c0, c1, c2, c3, c4, c5, c6, c7], .agg [c8, c9, c10, c11, c12, c13, c14], .agg [c15, c16, c17, c18]] = (eqvArgs [.agg [c0, c1, c2, c3, c4, c5, c6, c7], .agg [c8, c9, c10, c11, c12, c13, c14], .agg [c15, c16, c17, c18]] [.agg [encF 4 d_IIII (decF g_IIII c0), encF 5 d_IIIII (decF g_IIIII c1), encF 3 d_III (decF g_III c2), encF 2 d_II (decF g_II c3), .int .i64 (dInt c4), .int .i64 (dInt c5), .int .i64 (dInt c6), .int .i64 (dInt c7)], .agg [.int .i64 (dInt c8), .int .i64 (dInt c9), .int .i64 (dInt c10), .int .i64 (dInt c11), .int .i64 (dInt c12), .int .i64 (dInt c13), .int .i64 (dInt c14)], .agg [encF 1 d_I (decF g_I c15), .int .i64 (dInt c16), .int .i64 (dInt c17), .int .i64 (dInt c18)]] ∧ (r6 (decF g_IIII c0) (decF g_IIIII c1) (decF g_III c2) (decF g_II c3) (dInt c4) (dInt c5) (dInt c6) (dInt c7) (dInt c8) (dInt c9) (dInt c10) (dInt c11) (dInt c12) (dInt c13) (dInt c14) (decF g_I c15) (dInt c16) (dInt c17) (dInt c18)).isSome = true) := (rfl)
theorem TR6 (c0 c1 c2 c3 c4 c5 c6 c7 c8 c9 c10 c11 c12 c13 c14 c15 c16 c17 c18 : D) : T6.sp.res [.agg [c0, c1, c2, c3, c4, c5, c6, c7], .agg [c8, c9, c10, c11, c12, c13, c14], .agg [c15, c16, c17, c18]] = [.c (.d (.bool ((r6 (decF g_IIII c0) (decF g_IIIII c1) (decF g_III c2) (decF g_II c3) (dInt c4) (dInt c5) (dInt c6) (dInt c7) (dInt c8) (dInt c9) (dInt c10) (dInt c11) (dInt c12) (dInt c13) (dInt c14) (decF g_I c15) (dInt c16) (dInt c17) (dInt c18)).getD default)))] := (rfl)
theorem TA6 : T6.sp.alias = false := (rfl)
def tb6 : Fns := lk [(12, T12.sp), (13, T13.sp), (15, T15.sp), (18, T18.sp), (20, T20.sp), (21, T21.sp), (22, T22.sp), (29, T29.sp), (30, T30.sp), (31, T31.sp)]
theorem tb6_ok : FnsOk Tryd.prog tb6 := .cons f12 (.cons f13 (.cons f15 (.cons f18 (.cons f20 (.cons f21 (.cons f22 (.cons f29 (.cons f30 (.cons f31 (FnsOk.nil))))))))))
theorem tb6_12 : tb6 12 = some T12.sp := rfl
theorem tb6_13 : tb6 13 = some T13.sp := rfl
theorem tb6_15 : tb6 15 = some T15.sp := rfl
theorem tb6_18 : tb6 18 = some T18.sp := rfl
theorem tb6_20 : tb6 20 = some T20.sp := rfl
theorem tb6_21 : tb6 21 = some T21.sp := rfl
theorem tb6_22 : tb6 22 = some T22.sp := rfl
theorem tb6_29 : tb6 29 = some T29.sp := rfl
theorem tb6_30 : tb6 30 = some T30.sp := rfl
theorem tb6_31 : tb6 31 = some T31.sp := rfl
attribute [go_sem] TP6 TR6 TA6
section
attribute [local go_sem] T6 tb6_12 tb6_13 tb6_15 tb6_18 tb6_20 tb6_21 tb6_22 tb6_29 tb6_30 tb6_31 Tryd.results6
theorem v6 : Valid Tryd.prog 6 T6.sp := by
  refine valid_t (fn := Tryd.f6) (n := 167) ty_ok tb6_ok Tryd.func6 rfl Tryd.ntmps6 ?_
  rintro ⟨a0_0, a0_1, a0_2, a0_3, a0_4, a0_5, a0_6, a0_7, a1_0, a1_1, a1_2, a1_3, a1_4, a1_5, a1_6, a2_0, a2_1, a2_2, a2_3⟩ hx
  obtain ⟨r, hr⟩ := Option.isSome_iff_exists.1 (show (r6 a0_0 a0_1 a0_2 a0_3 a0_4 a0_5 a0_6 a0_7 a1_0 a1_1 a1_2 a1_3 a1_4 a1_5 a1_6 a2_0 a2_1 a2_2 a2_3).isSome = true from hx)
  have hres : T6.res (a0_0, a0_1, a0_2, a0_3, a0_4, a0_5, a0_6, a0_7, a1_0, a1_1, a1_2, a1_3, a1_4, a1_5, a1_6, a2_0, a2_1, a2_2, a2_3) = [.c (.d (.bool r))] := by simp only [T6, hr, Option.getD_some]
  refine ⟨Nat.le_of_ble_eq_true rfl, fun stop S => ?_⟩
  rw [hres] at S
  unfold r6 at hr
  refine S.gx [4, 5, 10, 12, 14, 15, 16, 18, 19] ?_
  obtain ⟨v1, hv1, hr⟩ := of_bind0 hr
  try simp only [hv1, Option.getD_some, Option.isSome_some, true_and, and_assoc]
  repeat refine gA ?_
  refine ⟨fun hc => ?_, fun hc => ?_⟩
  · replace hr := ifP hr hc
    repeat refine gA ?_
    obtain rfl := Option.some.inj hr
    exact lf
  · replace hr := ifN hr hc
    obtain ⟨v2, hv2, hr⟩ := of_bind0 hr
    obtain ⟨hg13, hr⟩ := of_guard0 hr
    obtain ⟨hg14, hr⟩ := of_guard0 hr
    obtain ⟨hg15, hr⟩ := of_guard0 hr
    obtain ⟨hg16, hr⟩ := of_guard0 hr
    try simp only [hv2, Option.getD_some, Option.isSome_some, true_and, and_assoc]
    repeat (first | refine gG hg13 ?_ | refine gG hg14 ?_ | refine gG hg15 ?_ | refine gG hg16 ?_ | refine gA ?_ | refine gB ?_)
    refine ⟨fun hc => ?_, fun hc => ?_⟩
    · replace hr := ifP hr hc
      repeat refine gA ?_
      refine S.prune [] ?_
      refine S.gx [5, 10, 12, 14, 15, 16, 18, 19] ?_
      repeat refine gA ?_
      repeat refine gA ?_
      obtain rfl := Option.some.inj hr
      exact lf
    · replace hr := ifN hr hc
      repeat refine gA ?_
      refine S.prune [3, 4, 5] ?_
      refine S.gx [4, 10, 12, 14, 15, 16, 18, 19] ?_
      repeat refine gA ?_
      repeat refine gA ?_
      refine S.sees [3, 4, 5, 7] [(3, 3), (4, 4), (5, 5)] [] ?_ (Stop.iter S (fun s1 => ⟨[(3, .c (.ref 3 0)), (4, .c (.ref 4 0)), (5, .c (.ref 5 0)), (7, .c (.d (.int .i64 s1.1)))], [(3, [.d (encF 4 d_IIII a0_0), .d (encF 5 d_IIIII a0_1), .d (encF 3 d_III a0_2), .d (encF 2 d_II a0_3), .d (.int .i64 a0_4), .d (.int .i64 a0_5), .d (.int .i64 a0_6), .d (.int .i64 a0_7)]), (4, [.d (.int .i64 s1.2.1), .d (.int .i64 s1.2.2.1), .d (.int .i64 s1.2.2.2.1), .d (.int .i64 s1.2.2.2.2.1), .d (.int .i64 s1.2.2.2.2.2.1), .d (.int .i64 s1.2.2.2.2.2.2.1), .d (.int .i64 s1.2.2.2.2.2.2.2)]), (5, [.d (encF 1 d_I a2_0), .d (.int .i64 a2_1), .d (.int .i64 a2_2), .d (.int .i64 a2_3)])], []⟩) (b6_1 a0_0 a0_1 a0_2 a0_3 a0_4 a0_5 a0_6 a0_7 a2_0 a2_1 a2_2 a2_3) (fun q => q = r) hr rfl ?_)
      · exact lf
      · intro s1 hr
        unfold b6_1 at hr
        refine S.gx [4, 5, 10, 12, 14, 15, 16, 18, 19] ?_
        repeat refine gA ?_
        refine ⟨fun hc => ?_, fun hc => ?_⟩
        · replace hr := ifP1 hr hc
          obtain ⟨v3, hv3, hr⟩ := of_bind1 hr
          obtain ⟨hg11, hr⟩ := of_guard1 hr
          obtain ⟨v4, hv4, hr⟩ := of_bind1 hr
          obtain ⟨hg12, hr⟩ := of_guard1 hr
          try simp only [hv3, hv4, Option.getD_some, Option.isSome_some, true_and, and_assoc]
          repeat (first | refine gG hg12 ?_ | refine gA ?_ | refine gB ?_)
          refine ⟨fun hc => ?_, fun hc => ?_⟩
          · replace hr := ifP1 hr hc
            repeat refine gA ?_
            refine S.prune [] ?_
            refine S.gx [4, 5, 12, 14, 15, 16, 18, 19] ?_
            repeat refine gA ?_
            repeat refine gA ?_
            have hr := of_out0 hr
            obtain rfl := Option.some.inj hr
            exact lf
          · replace hr := ifN1 hr hc
            obtain ⟨hg9, hr⟩ := of_guard1 hr
            obtain ⟨hg10, hr⟩ := of_guard1 hr
            repeat (first | refine gG hg9 ?_ | refine gG hg10 ?_ | refine gA ?_ | refine gB ?_)
            refine ⟨fun hc => ?_, fun hc => ?_⟩
            · replace hr := ifP1 hr hc
              repeat refine gA ?_
              refine S.prune [3, 4, 5, 7, 8] ?_
              refine S.gx [4, 5, 10, 14, 15, 16, 18, 19] ?_
              repeat (first | refine gA ?_ | refine gB ?_)
              repeat refine gA ?_
              refine ⟨fun hc => ?_, fun hc => ?_⟩
              · replace hr := ifP1 hr hc
                repeat refine gA ?_
                have hr := of_out0 hr
                obtain rfl := Option.some.inj hr
                exact lf
              · replace hr := ifN1 hr hc
                repeat refine gA ?_
                refine S.prune [3, 4, 5, 7, 8] ?_
                refine S.gx [4, 5, 10, 12, 14, 15, 18, 19] ?_
                obtain ⟨v5, hv5, hr⟩ := of_bind1 hr
                try simp only [hv3, hv5, Option.getD_some, Option.isSome_some, true_and, and_assoc]
                repeat refine gA ?_
                obtain ⟨hg6, hr⟩ := of_guard1 hr
                repeat (first | refine gG hg6 ?_ | refine gA ?_ | refine gB ?_)
                refine ⟨fun hc => ?_, fun hc => ?_⟩
                · replace hr := ifP1 hr hc
                  repeat refine gA ?_
                  refine S.prune [] ?_
                  refine S.gx [4, 5, 10, 12, 14, 15, 16, 19] ?_
                  repeat refine gA ?_
                  repeat refine gA ?_
                  have hr := of_out0 hr
                  obtain rfl := Option.some.inj hr
                  exact lf
                · replace hr := ifN1 hr hc
                  repeat refine gA ?_
                  refine S.prune [3, 4, 5, 7, 8] ?_
                  refine S.gx [4, 5, 10, 12, 14, 15, 16, 18] ?_
                  repeat refine gA ?_
                  repeat refine gA ?_
                  refine S.sees [3, 4, 5, 7] [(3, 3), (4, 4), (5, 5)] [] ?_ hr
                  exact lf
            · replace hr := ifN1 hr hc
              repeat refine gA ?_
              refine S.prune [3, 4, 5, 7, 8] ?_
              refine S.gx [4, 5, 10, 12, 15, 16, 18, 19] ?_
              repeat (first | refine gA ?_ | refine gB ?_)
              repeat refine gA ?_
              refine ⟨fun hc => ?_, fun hc => ?_⟩
              · replace hr := ifP1 hr hc
                repeat refine gA ?_
                refine S.prune [] ?_
                refine S.gx [4, 5, 10, 12, 14, 16, 18, 19] ?_
                repeat refine gA ?_
                repeat refine gA ?_
                have hr := of_out0 hr
                obtain rfl := Option.some.inj hr
                exact lf
              · replace hr := ifN1 hr hc
                repeat refine gA ?_
                refine S.prune [3, 4, 5, 7, 8] ?_
                refine S.gx [4, 5, 10, 12, 14, 15, 18, 19] ?_
                obtain ⟨v7, hv7, hr⟩ := of_bind1 hr
                try simp only [hv3, hv7, Option.getD_some, Option.isSome_some, true_and, and_assoc]
                repeat refine gA ?_
                obtain ⟨hg8, hr⟩ := of_guard1 hr
                repeat (first | refine gG hg8 ?_ | refine gA ?_ | refine gB ?_)
                refine ⟨fun hc => ?_, fun hc => ?_⟩
                · replace hr := ifP1 hr hc
                  repeat refine gA ?_
                  refine S.prune [] ?_
                  refine S.gx [4, 5, 10, 12, 14, 15, 16, 19] ?_
                  repeat refine gA ?_
                  repeat refine gA ?_
                  have hr := of_out0 hr
                  obtain rfl := Option.some.inj hr
                  exact lf
                · replace hr := ifN1 hr hc
                  repeat refine gA ?_
                  refine S.prune [3, 4, 5, 7, 8] ?_
                  refine S.gx [4, 5, 10, 12, 14, 15, 16, 18] ?_
                  repeat refine gA ?_
                  repeat refine gA ?_
                  refine S.sees [3, 4, 5, 7] [(3, 3), (4, 4), (5, 5)] [] ?_ hr
                  exact lf
        · replace hr := ifN1 hr hc
          repeat refine gA ?_
          have hr := of_out0 hr
          repeat refine gA ?_
          obtain rfl := Option.some.inj hr
          exact lf
theorem f6 : FnFact Tryd.prog 6 T6.sp := ⟨⟨Tryd.f6, Tryd.func6, by decide, rfl⟩, v6⟩
end
end Go.Proofs.YtfkmbdfajpdjjaaDoor

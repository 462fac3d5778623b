/- Contracts of functions, written by wip/dec. -/
import Derived.Test.YtfkmbdfajpdjjaaDoorF00
import Derived.Test.YtfkmbdfajpdjjaaDoorF03
import Derived.Test.YtfkmbdfajpdjjaaDoorF05
import Derived.Test.YtfkmbdfajpdjjaaDoorF06
import Derived.Test.YtfkmbdfajpdjjaaDoorF08
import Derived.Test.YtfkmbdfajpdjjaaDoorF10
import Derived.Test.YtfkmbdfajpdjjaaDoorF12
set_option linter.unusedVariables false
set_option linter.unusedSimpArgs false
set_option maxHeartbeats 4000000
set_option maxRecDepth 20000
namespace Go.Proofs.YtfkmbdfajpdjjaaDoor
open Go.Abs
/- martensite/martensitelaw04.SteelTempered -/
def b7_1 (a0_0 : List (Int × Int × Int × Int)) (a0_1 : List (Int × Int × Int × Int × Int)) (a0_2 : List (Int × Int × Int)) (a0_3 : List (Int × Int)) (a0_4 : Int) (a0_5 : Int) (a0_6 : Int) (a0_7 : Int) (a2_0 : Int) (a2_1 : Int) : (Int × Int × Int × Int × Int × Int × Int × Int × Int) → Ctl (Int × Int × Int × Int × Int × Int × Int × Int × Int) (Bool) := fun s1 =>
  if (decide (s1.2.1 < a2_1)) = true then
   bindC (r15 a0_0 a0_1 a0_2 a0_3 a0_4 a0_5 a0_6 a0_7) fun v5 =>
    bindC (r30 v5.1 v5.2.1 v5.2.2.1 v5.2.2.2.1 v5.2.2.2.2.1 v5.2.2.2.2.2.1 v5.2.2.2.2.2.2.1 v5.2.2.2.2.2.2.2 s1.2.2.1 s1.2.2.2.1 s1.2.2.2.2.1 s1.2.2.2.2.2.1 s1.2.2.2.2.2.2.1 s1.2.2.2.2.2.2.2.1 s1.2.2.2.2.2.2.2.2 a2_0 0 0 0) fun v6 =>
     if (!(((((v6.2.2.2.2.2.2.2 != 0) || (v6.1 != s1.2.2.1)) || (v6.2.1 != s1.2.2.2.1)) || (v6.2.2.1 != s1.2.2.2.2.1)) || (v6.2.2.2.1 != s1.2.2.2.2.2.1))) = true → (r18 v6.1 v6.2.1 v6.2.2.1 v6.2.2.2.1 v6.2.2.2.2.1 v6.2.2.2.2.2.1 v6.2.2.2.2.2.2.1).isSome = true then
      if ((((((v6.2.2.2.2.2.2.2 != 0) || (v6.1 != s1.2.2.1)) || (v6.2.1 != s1.2.2.2.1)) || (v6.2.2.1 != s1.2.2.2.2.1)) || (v6.2.2.2.1 != s1.2.2.2.2.2.1)) || (((r18 v6.1 v6.2.1 v6.2.2.1 v6.2.2.2.1 v6.2.2.2.2.1 v6.2.2.2.2.2.1 v6.2.2.2.2.2.2.1).getD default) != 0)) = true then
       .out (some false)
       else bindC (r31 v5.1 v5.2.1 v5.2.2.1 v5.2.2.2.1 v5.2.2.2.2.1 v5.2.2.2.2.2.1 v5.2.2.2.2.2.2.1 v5.2.2.2.2.2.2.2 v6.1 v6.2.1 v6.2.2.1 v6.2.2.2.1 v6.2.2.2.2.1 v6.2.2.2.2.2.1 v6.2.2.2.2.2.2.1) fun v7 =>
        if ((v7.2 != 0) || (decide (v7.1 > s1.1))) = true then
         .out (some false)
         else .next (v7.1, IntKind.i64.wrap (s1.2.1 + 1), v6.1, v6.2.1, v6.2.2.1, v6.2.2.2.1, v6.2.2.2.2.1, v6.2.2.2.2.2.1, v6.2.2.2.2.2.2.1)
      else .out none
   else .out (some true)
def r7 (a0_0 : List (Int × Int × Int × Int)) (a0_1 : List (Int × Int × Int × Int × Int)) (a0_2 : List (Int × Int × Int)) (a0_3 : List (Int × Int)) (a0_4 : Int) (a0_5 : Int) (a0_6 : Int) (a0_7 : Int) (a1_0 : Int) (a1_1 : Int) (a1_2 : Int) (a1_3 : Int) (a1_4 : Int) (a1_5 : Int) (a1_6 : Int) (a2_0 : Int) (a2_1 : Int) : Option (Bool) :=
  (r12).bind fun v1 =>
   if (!v1) = true then
    some false
    else (r13 a0_0 a0_1 a0_2 a0_3 a0_4 a0_5 a0_6 a0_7).bind fun v2 =>
     if (!(!v2)) = true → (r21 a0_0 a0_1 a0_2 a0_3 a0_4 a0_5 a0_6 a0_7).isSome = true then
      if (!((!v2) || (((r21 a0_0 a0_1 a0_2 a0_3 a0_4 a0_5 a0_6 a0_7).getD default) != 0))) = true → (r18 a1_0 a1_1 a1_2 a1_3 a1_4 a1_5 a1_6).isSome = true then
       if (!(((!v2) || (((r21 a0_0 a0_1 a0_2 a0_3 a0_4 a0_5 a0_6 a0_7).getD default) != 0)) || (((r18 a1_0 a1_1 a1_2 a1_3 a1_4 a1_5 a1_6).getD default) != 0))) = true → (r32 a2_0).isSome = true then
        if (!((((!v2) || (((r21 a0_0 a0_1 a0_2 a0_3 a0_4 a0_5 a0_6 a0_7).getD default) != 0)) || (((r18 a1_0 a1_1 a1_2 a1_3 a1_4 a1_5 a1_6).getD default) != 0)) || (((r32 a2_0).getD default) != 0))) = true → (r29 a2_1 0 30).isSome = true then
         if (!(((((!v2) || (((r21 a0_0 a0_1 a0_2 a0_3 a0_4 a0_5 a0_6 a0_7).getD default) != 0)) || (((r18 a1_0 a1_1 a1_2 a1_3 a1_4 a1_5 a1_6).getD default) != 0)) || (((r32 a2_0).getD default) != 0)) || (!((r29 a2_1 0 30).getD default)))) = true → (r33 a0_0 a0_1 a0_2 a0_3 a0_4 a0_5 a0_6 a0_7 a2_0).isSome = true then
          if (!((((((!v2) || (((r21 a0_0 a0_1 a0_2 a0_3 a0_4 a0_5 a0_6 a0_7).getD default) != 0)) || (((r18 a1_0 a1_1 a1_2 a1_3 a1_4 a1_5 a1_6).getD default) != 0)) || (((r32 a2_0).getD default) != 0)) || (!((r29 a2_1 0 30).getD default))) || (decide (((r33 a0_0 a0_1 a0_2 a0_3 a0_4 a0_5 a0_6 a0_7 a2_0).getD default) ≥ 0)))) = true → (r34 a0_0 a0_1 a0_2 a0_3 a0_4 a0_5 a0_6 a0_7 a2_0).isSome = true then
           if (!(((((((!v2) || (((r21 a0_0 a0_1 a0_2 a0_3 a0_4 a0_5 a0_6 a0_7).getD default) != 0)) || (((r18 a1_0 a1_1 a1_2 a1_3 a1_4 a1_5 a1_6).getD default) != 0)) || (((r32 a2_0).getD default) != 0)) || (!((r29 a2_1 0 30).getD default))) || (decide (((r33 a0_0 a0_1 a0_2 a0_3 a0_4 a0_5 a0_6 a0_7 a2_0).getD default) ≥ 0))) || (decide (((r34 a0_0 a0_1 a0_2 a0_3 a0_4 a0_5 a0_6 a0_7 a2_0).getD default) ≥ 0)))) = true → (r35 a0_0 a0_1 a0_2 a0_3 a0_4 a0_5 a0_6 a0_7 a2_0).isSome = true then
            if ((((((((!v2) || (((r21 a0_0 a0_1 a0_2 a0_3 a0_4 a0_5 a0_6 a0_7).getD default) != 0)) || (((r18 a1_0 a1_1 a1_2 a1_3 a1_4 a1_5 a1_6).getD default) != 0)) || (((r32 a2_0).getD default) != 0)) || (!((r29 a2_1 0 30).getD default))) || (decide (((r33 a0_0 a0_1 a0_2 a0_3 a0_4 a0_5 a0_6 a0_7 a2_0).getD default) ≥ 0))) || (decide (((r34 a0_0 a0_1 a0_2 a0_3 a0_4 a0_5 a0_6 a0_7 a2_0).getD default) ≥ 0))) || (decide (((r35 a0_0 a0_1 a0_2 a0_3 a0_4 a0_5 a0_6 a0_7 a2_0).getD default) ≥ 0))) = true then
             some true
             else (r15 a0_0 a0_1 a0_2 a0_3 a0_4 a0_5 a0_6 a0_7).bind fun v3 =>
              (r31 v3.1 v3.2.1 v3.2.2.1 v3.2.2.2.1 v3.2.2.2.2.1 v3.2.2.2.2.2.1 v3.2.2.2.2.2.2.1 v3.2.2.2.2.2.2.2 a1_0 a1_1 a1_2 a1_3 a1_4 a1_5 a1_6).bind fun v4 =>
               if (v4.2 != 0) = true then
                some false
                else iterC (b7_1 a0_0 a0_1 a0_2 a0_3 a0_4 a0_5 a0_6 a0_7 a2_0 a2_1) 1000000000 (v4.1, 0, a1_0, a1_1, a1_2, a1_3, a1_4, a1_5, a1_6)
            else none
           else none
          else none
         else none
        else none
       else none
      else none
def T7 : TSpec ((List (Int × Int × Int × Int)) × (List (Int × Int × Int × Int × Int)) × (List (Int × Int × Int)) × (List (Int × Int)) × Int × Int × Int × Int × Int × Int × Int × Int × Int × Int × Int × Int × Int) where
  enc := fun ⟨a0_0, a0_1, a0_2, a0_3, a0_4, a0_5, a0_6, a0_7, a1_0, a1_1, a1_2, a1_3, a1_4, a1_5, a1_6, a2_0, a2_1⟩ => [.agg [encF 4 d_IIII a0_0, encF 5 d_IIIII a0_1, encF 3 d_III a0_2, encF 2 d_II a0_3, .int .i64 a0_4, .int .i64 a0_5, .int .i64 a0_6, .int .i64 a0_7], .agg [.int .i64 a1_0, .int .i64 a1_1, .int .i64 a1_2, .int .i64 a1_3, .int .i64 a1_4, .int .i64 a1_5, .int .i64 a1_6], .agg [.int .i64 a2_0, .int .i64 a2_1]]
  dec a := (decF g_IIII (aCell a 0 0), decF g_IIIII (aCell a 0 1), decF g_III (aCell a 0 2), decF g_II (aCell a 0 3), dInt (aCell a 0 4), dInt (aCell a 0 5), dInt (aCell a 0 6), dInt (aCell a 0 7), dInt (aCell a 1 0), dInt (aCell a 1 1), dInt (aCell a 1 2), dInt (aCell a 1 3), dInt (aCell a 1 4), dInt (aCell a 1 5), dInt (aCell a 1 6), dInt (aCell a 2 0), dInt (aCell a 2 1))
  pre := fun ⟨a0_0, a0_1, a0_2, a0_3, a0_4, a0_5, a0_6, a0_7, a1_0, a1_1, a1_2, a1_3, a1_4, a1_5, a1_6, a2_0, a2_1⟩ => (r7 a0_0 a0_1 a0_2 a0_3 a0_4 a0_5 a0_6 a0_7 a1_0 a1_1 a1_2 a1_3 a1_4 a1_5 a1_6 a2_0 a2_1).isSome = true
  res := fun ⟨a0_0, a0_1, a0_2, a0_3, a0_4, a0_5, a0_6, a0_7, a1_0, a1_1, a1_2, a1_3, a1_4, a1_5, a1_6, a2_0, a2_1⟩ => [.c (.d (.bool ((r7 a0_0 a0_1 a0_2 a0_3 a0_4 a0_5 a0_6 a0_7 a1_0 a1_1 a1_2 a1_3 a1_4 a1_5 a1_6 a2_0 a2_1).getD default)))]
  al := false
theorem TP7 (c0 c1 c2 c3 c4 c5 c6 c7 c8 c9 c10 c11 c12 c13 c14 c15 c16 : D) : T7.sp.pre [.agg [c0, c1, c2, c3, c4, c5, c6, c7], .agg [c8, c9, c10, c11, c12, c13, c14], .agg [c15, c16]] = (eqvArgs [.agg [c0, c1, c2, c3, c4, c5, c6, c7], .agg [c8, c9, c10, c11, c12, c13, c14], .agg [c15, c16]] [.agg [encF 4 d_IIII (decF g_IIII c0), encF 5 d_IIIII (decF g_IIIII c1), encF 3 d_III (decF g_III c2), encF 2 d_II (decF g_II c3), .int .i64 (dInt c4), .int .i64 (dInt c5), .int .i64 (dInt c6), .int .i64 (dInt c7)], .agg [.int .i64 (dInt c8), .int .i64 (dInt c9), .int .i64 (dInt c10), .int .i64 (dInt c11), .int .i64 (dInt c12), .int .i64 (dInt c13), .int .i64 (dInt c14)], .agg [.int .i64 (dInt c15), .int .i64 (dInt c16)]] ∧ (r7 (decF g_IIII c0) (decF g_IIIII c1) (decF g_III c2) (decF g_II c3) (dInt c4) (dInt c5) (dInt c6) (dInt c7) (dInt c8) (dInt c9) (dInt c10) (dInt c11) (dInt c12) (dInt c13) (dInt c14) (dInt c15) (dInt c16)).isSome = true) := (rfl)
theorem TR7 (c0 c1 c2 c3 c4 c5 c6 c7 c8 c9 c10 c11 c12 c13 c14 c15 c16 : D) : T7.sp.res [.agg [c0, c1, c2, c3, c4, c5, c6, c7], .agg [c8, c9, c10, c11, c12, c13, c14], .agg [c15, c16]] = [.c (.d (.bool ((r7 (decF g_IIII c0) (decF g_IIIII c1) (decF g_III c2) (decF g_II c3) (dInt c4) (dInt c5) (dInt c6) (dInt c7) (dInt c8) (dInt c9) (dInt c10) (dInt c11) (dInt c12) (dInt c13) (dInt c14) (dInt c15) (dInt c16)).getD default)))] := (rfl)
theorem TA7 : T7.sp.alias = false := (rfl)
def tb7 : Fns := lk [(12, T12.sp), (13, T13.sp), (15, T15.sp), (18, T18.sp), (21, T21.sp), (29, T29.sp), (30, T30.sp), (31, T31.sp), (32, T32.sp), (33, T33.sp), (34, T34.sp), (35, T35.sp)]
theorem tb7_ok : FnsOk Tryd.prog tb7 := .cons f12 (.cons f13 (.cons f15 (.cons f18 (.cons f21 (.cons f29 (.cons f30 (.cons f31 (.cons f32 (.cons f33 (.cons f34 (.cons f35 (FnsOk.nil))))))))))))
theorem tb7_12 : tb7 12 = some T12.sp := rfl
theorem tb7_13 : tb7 13 = some T13.sp := rfl
theorem tb7_15 : tb7 15 = some T15.sp := rfl
theorem tb7_18 : tb7 18 = some T18.sp := rfl
theorem tb7_21 : tb7 21 = some T21.sp := rfl
theorem tb7_29 : tb7 29 = some T29.sp := rfl
theorem tb7_30 : tb7 30 = some T30.sp := rfl
theorem tb7_31 : tb7 31 = some T31.sp := rfl
theorem tb7_32 : tb7 32 = some T32.sp := rfl
theorem tb7_33 : tb7 33 = some T33.sp := rfl
theorem tb7_34 : tb7 34 = some T34.sp := rfl
theorem tb7_35 : tb7 35 = some T35.sp := rfl
theorem v7 : Valid Tryd.prog 7 T7.sp := by
  refine valid_t (fn := Tryd.f7) (n := 137) ty_ok tb7_ok Tryd.func7 rfl Tryd.ntmps7 ?_
  rintro ⟨a0_0, a0_1, a0_2, a0_3, a0_4, a0_5, a0_6, a0_7, a1_0, a1_1, a1_2, a1_3, a1_4, a1_5, a1_6, a2_0, a2_1⟩ hx
  obtain ⟨r, hr⟩ := Option.isSome_iff_exists.1 (show (r7 a0_0 a0_1 a0_2 a0_3 a0_4 a0_5 a0_6 a0_7 a1_0 a1_1 a1_2 a1_3 a1_4 a1_5 a1_6 a2_0 a2_1).isSome = true from hx)
  have hres : T7.res (a0_0, a0_1, a0_2, a0_3, a0_4, a0_5, a0_6, a0_7, a1_0, a1_1, a1_2, a1_3, a1_4, a1_5, a1_6, a2_0, a2_1) = [.c (.d (.bool r))] := by simp only [T7, hr, Option.getD_some]
  refine ⟨Nat.le_of_ble_eq_true rfl, fun stop S => ?_⟩
  rw [hres] at S
  unfold r7 at hr
  refine S.goB [] 1000 ?_
  simp (maxSteps := 10000000) only [go_sem, tb7_12, TP12, TR12, TA12, tb7_13, TP13, TR13, TA13, tb7_15, TP15, TR15, TA15, tb7_18, TP18, TR18, TA18, tb7_21, TP21, TR21, TA21, tb7_29, TP29, TR29, TA29, tb7_30, TP30, TR30, TA30, tb7_31, TP31, TR31, TA31, tb7_32, TP32, TR32, TA32, tb7_33, TP33, TR33, TA33, tb7_34, TP34, TR34, TA34, tb7_35, TP35, TR35, TA35, T7, Bool.not_true, Bool.not_false, Option.map_some, Int.reduceToNat, Nat.reduceEqDiff, Nat.reduceLT, Nat.reduceAdd, Nat.reduceMul, Nat.reduceSub, Nat.reduceLeDiff, reduceIte, reduceCtorEq, Tryd.results7]
  obtain ⟨v1, hv1, hr⟩ := of_bind0 hr
  try simp only [hv1, Option.getD_some, Option.isSome_some, true_and, and_assoc]
  repeat refine gA ?_
  refine ⟨fun hc => ?_, fun hc => ?_⟩
  · replace hr := ifP hr hc
    repeat refine gA ?_
    obtain rfl := Option.some.inj hr
    (simp (maxDischargeDepth := 8) [go_sem, -List.drop_one])
  · replace hr := ifN hr hc
    obtain ⟨v2, hv2, hr⟩ := of_bind0 hr
    obtain ⟨hg9, hr⟩ := of_guard0 hr
    obtain ⟨hg10, hr⟩ := of_guard0 hr
    obtain ⟨hg11, hr⟩ := of_guard0 hr
    obtain ⟨hg12, hr⟩ := of_guard0 hr
    obtain ⟨hg13, hr⟩ := of_guard0 hr
    obtain ⟨hg14, hr⟩ := of_guard0 hr
    obtain ⟨hg15, hr⟩ := of_guard0 hr
    try simp only [hv2, Option.getD_some, Option.isSome_some, true_and, and_assoc]
    repeat (first | refine gG hg9 ?_ | refine gG hg10 ?_ | refine gG hg11 ?_ | refine gG hg12 ?_ | refine gG hg13 ?_ | refine gG hg14 ?_ | refine gG hg15 ?_ | refine gA ?_ | refine gB ?_)
    refine ⟨fun hc => ?_, fun hc => ?_⟩
    · replace hr := ifP hr hc
      repeat refine gA ?_
      obtain rfl := Option.some.inj hr
      (simp (maxDischargeDepth := 8) [go_sem, -List.drop_one])
    · replace hr := ifN hr hc
      obtain ⟨v3, hv3, hr⟩ := of_bind0 hr
      obtain ⟨v4, hv4, hr⟩ := of_bind0 hr
      try simp only [hv3, hv4, Option.getD_some, Option.isSome_some, true_and, and_assoc]
      repeat refine gA ?_
      refine ⟨fun hc => ?_, fun hc => ?_⟩
      · replace hr := ifP hr hc
        repeat refine gA ?_
        obtain rfl := Option.some.inj hr
        (simp (maxDischargeDepth := 8) [go_sem, -List.drop_one])
      · replace hr := ifN hr hc
        repeat refine gA ?_
        refine S.sees [3, 4, 7, 8, 9, 11] [(3, 3), (4, 4)] [] ?_ (Stop.iter S (fun s1 => ⟨[(3, .c (.ref 3 0)), (4, .c (.ref 4 0)), (7, .c (.d (.int .i64 a2_0))), (8, .c (.d (.int .i64 a2_1))), (9, .c (.d (.int .i64 s1.1))), (11, .c (.d (.int .i64 s1.2.1)))], [(3, [.d (encF 4 d_IIII a0_0), .d (encF 5 d_IIIII a0_1), .d (encF 3 d_III a0_2), .d (encF 2 d_II a0_3), .d (.int .i64 a0_4), .d (.int .i64 a0_5), .d (.int .i64 a0_6), .d (.int .i64 a0_7)]), (4, [.d (.int .i64 s1.2.2.1), .d (.int .i64 s1.2.2.2.1), .d (.int .i64 s1.2.2.2.2.1), .d (.int .i64 s1.2.2.2.2.2.1), .d (.int .i64 s1.2.2.2.2.2.2.1), .d (.int .i64 s1.2.2.2.2.2.2.2.1), .d (.int .i64 s1.2.2.2.2.2.2.2.2)])], []⟩) (b7_1 a0_0 a0_1 a0_2 a0_3 a0_4 a0_5 a0_6 a0_7 a2_0 a2_1) (fun q => q = r) hr rfl ?_)
        · (simp (maxDischargeDepth := 8) [go_sem, -List.drop_one])
        · intro s1 hr
          unfold b7_1 at hr
          refine S.goB [] 1000 ?_
          simp (maxSteps := 10000000) only [go_sem, tb7_12, TP12, TR12, TA12, tb7_13, TP13, TR13, TA13, tb7_15, TP15, TR15, TA15, tb7_18, TP18, TR18, TA18, tb7_21, TP21, TR21, TA21, tb7_29, TP29, TR29, TA29, tb7_30, TP30, TR30, TA30, tb7_31, TP31, TR31, TA31, tb7_32, TP32, TR32, TA32, tb7_33, TP33, TR33, TA33, tb7_34, TP34, TR34, TA34, tb7_35, TP35, TR35, TA35, T7, Bool.not_true, Bool.not_false, Option.map_some, Int.reduceToNat, Nat.reduceEqDiff, Nat.reduceLT, Nat.reduceAdd, Nat.reduceMul, Nat.reduceSub, Nat.reduceLeDiff, reduceIte, reduceCtorEq, Tryd.results7]
          repeat refine gA ?_
          refine ⟨fun hc => ?_, fun hc => ?_⟩
          · replace hr := ifP1 hr hc
            obtain ⟨v5, hv5, hr⟩ := of_bind1 hr
            obtain ⟨v6, hv6, hr⟩ := of_bind1 hr
            obtain ⟨hg8, hr⟩ := of_guard1 hr
            try simp only [hv5, hv6, Option.getD_some, Option.isSome_some, true_and, and_assoc]
            repeat (first | refine gG hg8 ?_ | refine gA ?_ | refine gB ?_)
            refine ⟨fun hc => ?_, fun hc => ?_⟩
            · replace hr := ifP1 hr hc
              repeat refine gA ?_
              have hr := of_out0 hr
              obtain rfl := Option.some.inj hr
              (simp (maxDischargeDepth := 8) [go_sem, -List.drop_one])
            · replace hr := ifN1 hr hc
              obtain ⟨v7, hv7, hr⟩ := of_bind1 hr
              try simp only [hv5, hv7, Option.getD_some, Option.isSome_some, true_and, and_assoc]
              repeat (first | refine gA ?_ | refine gB ?_)
              refine ⟨fun hc => ?_, fun hc => ?_⟩
              · replace hr := ifP1 hr hc
                repeat refine gA ?_
                have hr := of_out0 hr
                obtain rfl := Option.some.inj hr
                (simp (maxDischargeDepth := 8) [go_sem, -List.drop_one])
              · replace hr := ifN1 hr hc
                repeat refine gA ?_
                refine S.sees [3, 4, 7, 8, 9, 11] [(3, 3), (4, 4)] [] ?_ hr
                (simp (maxDischargeDepth := 8) [go_sem, -List.drop_one])
          · replace hr := ifN1 hr hc
            repeat refine gA ?_
            have hr := of_out0 hr
            repeat refine gA ?_
            obtain rfl := Option.some.inj hr
            (simp (maxDischargeDepth := 8) [go_sem, -List.drop_one])
theorem f7 : FnFact Tryd.prog 7 T7.sp := ⟨⟨Tryd.f7, Tryd.func7, by decide, rfl⟩, v7⟩
end Go.Proofs.YtfkmbdfajpdjjaaDoor

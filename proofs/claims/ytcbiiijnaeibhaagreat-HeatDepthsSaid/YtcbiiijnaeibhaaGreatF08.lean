/- Contracts of functions, written by wip/dec. -/
import Derived.Test.YtcbiiijnaeibhaaGreatF00
import Derived.Test.YtcbiiijnaeibhaaGreatF06
import Derived.Test.YtcbiiijnaeibhaaGreatF07
set_option linter.unusedVariables false
set_option linter.unusedSimpArgs false
set_option maxHeartbeats 4000000
set_option maxRecDepth 20000
namespace Go.Proofs.YtcbiiijnaeibhaaGreat
open Go.Abs
/- martensite/martensiteref03.Depth -/
def b17_1 (a0_0 : Int) (a0_1 : Int) (a0_2 : List (Int × Int)) (a0_3 : List ((List (Int × Int)))) (a1 : List (Int)) (a2 : Int) : (Int) → Ctl (Int) (Int) := fun s1 =>
  if (decide (s1 < (a1.length : Int))) = true → 0 ≤ s1 ∧ s1 < (a1.length : Int) then
   if (decide (s1 < (a1.length : Int))) = true → (r46 a0_0 a0_1 a0_2 a0_3 (a1.getD s1.toNat default) a2).isSome = true then
    if ((decide (s1 < (a1.length : Int))) && ((r46 a0_0 a0_1 a0_2 a0_3 (a1.getD s1.toNat default) a2).getD default)) = true then
     .next (IntKind.i64.wrap (s1 + 1))
     else .out (some s1)
    else .out none
   else .out none
def r17 (a0_0 : Int) (a0_1 : Int) (a0_2 : List (Int × Int)) (a0_3 : List ((List (Int × Int)))) (a1 : List (Int)) (a2 : Int) : Option (Int) :=
  iterC (b17_1 a0_0 a0_1 a0_2 a0_3 a1 a2) 1000000000 0
def T17 : TSpec (Int × Int × (List (Int × Int)) × (List ((List (Int × Int)))) × (List (Int)) × Int) where
  enc x := [.agg [.int .i64 x.1, .int .i64 x.2.1, encF 2 d_II x.2.2.1, encF 1 d_LIIE x.2.2.2.1], .c (encF 1 d_I x.2.2.2.2.1), .c (.int .i64 x.2.2.2.2.2)]
  dec a := (dInt (aCell a 0 0), dInt (aCell a 0 1), decF g_II (aCell a 0 2), decF g_LIIE (aCell a 0 3), decF g_I (aCell a 1 0), dInt (aCell a 2 0))
  pre x := (r17 x.1 x.2.1 x.2.2.1 x.2.2.2.1 x.2.2.2.2.1 x.2.2.2.2.2).isSome = true
  res x := [.c (.d (.int .i64 ((r17 x.1 x.2.1 x.2.2.1 x.2.2.2.1 x.2.2.2.2.1 x.2.2.2.2.2).getD default)))]
  al := false
def tb17 : Fns := lk [(46, T46.sp)]
theorem tb17_ok : FnsOk Tryz.prog tb17 := .cons f46 (FnsOk.nil)
theorem tb17_46 : tb17 46 = some T46.sp := rfl
theorem v17 : Valid Tryz.prog 17 T17.sp := by
  refine valid_t (fn := Tryz.f17) (n := 24) ty_ok tb17_ok Tryz.func17 rfl Tryz.ntmps17 ?_
  rintro ⟨a0_0, a0_1, a0_2, a0_3, a1, a2⟩ hx
  obtain ⟨r, hr⟩ := Option.isSome_iff_exists.1 (show (r17 a0_0 a0_1 a0_2 a0_3 a1 a2).isSome = true from hx)
  have hres : T17.res (a0_0, a0_1, a0_2, a0_3, a1, a2) = [.c (.d (.int .i64 r))] := by simp only [T17, hr, Option.getD_some]
  refine ⟨Nat.le_of_ble_eq_true rfl, fun stop S => ?_⟩
  rw [hres] at S
  unfold r17 at hr
  refine S.goB [] 1000 ?_
  simp (maxSteps := 10000000) only [go_sem, tb17_46, T46, T17, Option.map_some, Int.reduceToNat, Nat.reduceEqDiff, Nat.reduceLT, Nat.reduceAdd, Nat.reduceMul, Nat.reduceSub, Nat.reduceLeDiff, reduceIte, reduceCtorEq, Tryz.results17]
  repeat refine gA ?_
  refine S.sees [1, 2, 3, 7] [(3, 3)] [] ?_ (Stop.iter S (fun s1 => ⟨[(1, .c (.d (encF 1 d_I a1))), (2, .c (.d (.int .i64 a2))), (3, .c (.ref 3 0)), (7, .c (.d (.int .i64 s1)))], [(3, [.d (.int .i64 a0_0), .d (.int .i64 a0_1), .d (encF 2 d_II a0_2), .d (encF 1 d_LIIE a0_3)])], []⟩) (b17_1 a0_0 a0_1 a0_2 a0_3 a1 a2) (fun q => q = r) hr rfl ?_)
  · (simp (maxDischargeDepth := 8) [go_sem])
  · intro s1 hr
    unfold b17_1 at hr
    refine S.goB [] 1000 ?_
    simp (maxSteps := 10000000) only [go_sem, tb17_46, T46, T17, Option.map_some, Int.reduceToNat, Nat.reduceEqDiff, Nat.reduceLT, Nat.reduceAdd, Nat.reduceMul, Nat.reduceSub, Nat.reduceLeDiff, reduceIte, reduceCtorEq, Tryz.results17]
    obtain ⟨hg1, hr⟩ := of_guard1 hr
    obtain ⟨hg2, hr⟩ := of_guard1 hr
    repeat (first | refine gG hg1 ?_ | refine gG hg2 ?_ | refine gA ?_ | refine gB ?_)
    refine ⟨fun hc => ?_, fun hc => ?_⟩
    · replace hr := ifP1 hr hc
      repeat refine gA ?_
      refine S.sees [1, 2, 3, 7] [(3, 3)] [] ?_ hr
      (simp (maxDischargeDepth := 8) [go_sem])
    · replace hr := ifN1 hr hc
      repeat refine gA ?_
      have hr := of_out0 hr
      repeat refine gA ?_
      obtain rfl := Option.some.inj hr
      (simp (maxDischargeDepth := 8) [go_sem])
theorem f17 : FnFact Tryz.prog 17 T17.sp := ⟨⟨Tryz.f17, Tryz.func17, by decide, rfl⟩, v17⟩

/- martensite/martensiteref03.CheckBox -/
def b47_1 (a0_0 : Int) (a1_0 : List (Int)) (a1_1 : List (Int)) : (Int) → Ctl (Int) (Int × Int) := fun s1 =>
  if (decide (s1 < a0_0)) = true then
   if 0 ≤ s1 ∧ s1 < (a1_0.length : Int) then
    if 0 ≤ s1 ∧ s1 < (a1_1.length : Int) then
     if (decide ((a1_0.getD s1.toNat default) > (a1_1.getD s1.toNat default))) = true then
      .out (some (s1, 9))
      else .next (IntKind.i64.wrap (s1 + 1))
     else .out none
    else .out none
   else .out (some (0, 0))
def r47 (a0_0 : Int) (a0_1 : Int) (a0_2 : List (Int × Int)) (a0_3 : List ((List (Int × Int)))) (a1_0 : List (Int)) (a1_1 : List (Int)) : Option (Int × Int) :=
  (r44 a0_0 a0_1 a0_2 a0_3 a1_0).bind fun v1 =>
   if (v1.2 != 0) = true then
    some (v1.1, v1.2)
    else (r44 a0_0 a0_1 a0_2 a0_3 a1_1).bind fun v2 =>
     if (v2.2 != 0) = true then
      some (v2.1, v2.2)
      else iterC (b47_1 a0_0 a1_0 a1_1) 1000000000 0
def T47 : TSpec (Int × Int × (List (Int × Int)) × (List ((List (Int × Int)))) × (List (Int)) × (List (Int))) where
  enc x := [.agg [.int .i64 x.1, .int .i64 x.2.1, encF 2 d_II x.2.2.1, encF 1 d_LIIE x.2.2.2.1], .agg [encF 1 d_I x.2.2.2.2.1, encF 1 d_I x.2.2.2.2.2]]
  dec a := (dInt (aCell a 0 0), dInt (aCell a 0 1), decF g_II (aCell a 0 2), decF g_LIIE (aCell a 0 3), decF g_I (aCell a 1 0), decF g_I (aCell a 1 1))
  pre x := (r47 x.1 x.2.1 x.2.2.1 x.2.2.2.1 x.2.2.2.2.1 x.2.2.2.2.2).isSome = true
  res x := [.c (.d (.int .i64 (((r47 x.1 x.2.1 x.2.2.1 x.2.2.2.1 x.2.2.2.2.1 x.2.2.2.2.2).getD default).1))), .c (.d (.int .i64 (((r47 x.1 x.2.1 x.2.2.1 x.2.2.2.1 x.2.2.2.2.1 x.2.2.2.2.2).getD default).2)))]
  al := false
def tb47 : Fns := lk [(44, T44.sp)]
theorem tb47_ok : FnsOk Tryz.prog tb47 := .cons f44 (FnsOk.nil)
theorem tb47_44 : tb47 44 = some T44.sp := rfl
theorem v47 : Valid Tryz.prog 47 T47.sp := by
  refine valid_t (fn := Tryz.f47) (n := 51) ty_ok tb47_ok Tryz.func47 rfl Tryz.ntmps47 ?_
  rintro ⟨a0_0, a0_1, a0_2, a0_3, a1_0, a1_1⟩ hx
  obtain ⟨r, hr⟩ := Option.isSome_iff_exists.1 (show (r47 a0_0 a0_1 a0_2 a0_3 a1_0 a1_1).isSome = true from hx)
  have hres : T47.res (a0_0, a0_1, a0_2, a0_3, a1_0, a1_1) = [.c (.d (.int .i64 r.1)), .c (.d (.int .i64 r.2))] := by simp only [T47, hr, Option.getD_some]
  refine ⟨Nat.le_of_ble_eq_true rfl, fun stop S => ?_⟩
  rw [hres] at S
  unfold r47 at hr
  refine S.goB [] 1000 ?_
  simp (maxSteps := 10000000) only [go_sem, tb47_44, T44, T47, Option.map_some, Int.reduceToNat, Nat.reduceEqDiff, Nat.reduceLT, Nat.reduceAdd, Nat.reduceMul, Nat.reduceSub, Nat.reduceLeDiff, reduceIte, reduceCtorEq, Tryz.results47]
  obtain ⟨v1, hv1, hr⟩ := of_bind0 hr
  try simp only [hv1, Option.getD_some, Option.isSome_some, true_and, and_assoc]
  repeat refine gA ?_
  refine ⟨fun hc => ?_, fun hc => ?_⟩
  · replace hr := ifP hr hc
    repeat refine gA ?_
    obtain rfl := Option.some.inj hr
    (simp (maxDischargeDepth := 8) [go_sem])
  · replace hr := ifN hr hc
    obtain ⟨v2, hv2, hr⟩ := of_bind0 hr
    try simp only [hv2, Option.getD_some, Option.isSome_some, true_and, and_assoc]
    repeat refine gA ?_
    refine ⟨fun hc => ?_, fun hc => ?_⟩
    · replace hr := ifP hr hc
      repeat refine gA ?_
      obtain rfl := Option.some.inj hr
      (simp (maxDischargeDepth := 8) [go_sem])
    · replace hr := ifN hr hc
      repeat refine gA ?_
      refine S.sees [2, 3, 10] [(2, 2), (3, 3)] [] ?_ (Stop.iter S (fun s1 => ⟨[(2, .c (.ref 2 0)), (3, .c (.ref 3 0)), (10, .c (.d (.int .i64 s1)))], [(2, [.d (.int .i64 a0_0), .d (.int .i64 a0_1), .d (encF 2 d_II a0_2), .d (encF 1 d_LIIE a0_3)]), (3, [.d (encF 1 d_I a1_0), .d (encF 1 d_I a1_1)])], []⟩) (b47_1 a0_0 a1_0 a1_1) (fun q => q = r) hr rfl ?_)
      · (simp (maxDischargeDepth := 8) [go_sem])
      · intro s1 hr
        unfold b47_1 at hr
        refine S.goB [] 1000 ?_
        simp (maxSteps := 10000000) only [go_sem, tb47_44, T44, T47, Option.map_some, Int.reduceToNat, Nat.reduceEqDiff, Nat.reduceLT, Nat.reduceAdd, Nat.reduceMul, Nat.reduceSub, Nat.reduceLeDiff, reduceIte, reduceCtorEq, Tryz.results47]
        repeat refine gA ?_
        refine ⟨fun hc => ?_, fun hc => ?_⟩
        · replace hr := ifP1 hr hc
          obtain ⟨hg3, hr⟩ := of_guard1 hr
          obtain ⟨hg4, hr⟩ := of_guard1 hr
          repeat refine gA ?_
          refine ⟨fun hc => ?_, fun hc => ?_⟩
          · replace hr := ifP1 hr hc
            repeat refine gA ?_
            have hr := of_out0 hr
            obtain rfl := Option.some.inj hr
            (simp (maxDischargeDepth := 8) [go_sem])
          · replace hr := ifN1 hr hc
            repeat refine gA ?_
            refine S.sees [2, 3, 10] [(2, 2), (3, 3)] [] ?_ hr
            (simp (maxDischargeDepth := 8) [go_sem])
        · replace hr := ifN1 hr hc
          repeat refine gA ?_
          have hr := of_out0 hr
          repeat refine gA ?_
          obtain rfl := Option.some.inj hr
          (simp (maxDischargeDepth := 8) [go_sem])
theorem f47 : FnFact Tryz.prog 47 T47.sp := ⟨⟨Tryz.f47, Tryz.func47, by decide, rfl⟩, v47⟩

/- martensite/martensiteref03.BoxErr -/
def r18 (a0_0 : Int) (a0_1 : Int) (a0_2 : List (Int × Int)) (a0_3 : List ((List (Int × Int)))) (a1_0 : List (Int)) (a1_1 : List (Int)) : Option (Int) :=
  (r43 a0_0 a0_1 a0_2 a0_3).bind fun v1 =>
   if (v1 != 0) = true then
    some v1
    else (r47 a0_0 a0_1 a0_2 a0_3 a1_0 a1_1).bind fun v2 =>
     some v2.2
def T18 : TSpec (Int × Int × (List (Int × Int)) × (List ((List (Int × Int)))) × (List (Int)) × (List (Int))) where
  enc x := [.agg [.int .i64 x.1, .int .i64 x.2.1, encF 2 d_II x.2.2.1, encF 1 d_LIIE x.2.2.2.1], .agg [encF 1 d_I x.2.2.2.2.1, encF 1 d_I x.2.2.2.2.2]]
  dec a := (dInt (aCell a 0 0), dInt (aCell a 0 1), decF g_II (aCell a 0 2), decF g_LIIE (aCell a 0 3), decF g_I (aCell a 1 0), decF g_I (aCell a 1 1))
  pre x := (r18 x.1 x.2.1 x.2.2.1 x.2.2.2.1 x.2.2.2.2.1 x.2.2.2.2.2).isSome = true
  res x := [.c (.d (.int .i64 ((r18 x.1 x.2.1 x.2.2.1 x.2.2.2.1 x.2.2.2.2.1 x.2.2.2.2.2).getD default)))]
  al := false
def tb18 : Fns := lk [(43, T43.sp), (47, T47.sp)]
theorem tb18_ok : FnsOk Tryz.prog tb18 := .cons f43 (.cons f47 (FnsOk.nil))
theorem tb18_43 : tb18 43 = some T43.sp := rfl
theorem tb18_47 : tb18 47 = some T47.sp := rfl
theorem v18 : Valid Tryz.prog 18 T18.sp := by
  refine valid_t (fn := Tryz.f18) (n := 20) ty_ok tb18_ok Tryz.func18 rfl Tryz.ntmps18 ?_
  rintro ⟨a0_0, a0_1, a0_2, a0_3, a1_0, a1_1⟩ hx
  obtain ⟨r, hr⟩ := Option.isSome_iff_exists.1 (show (r18 a0_0 a0_1 a0_2 a0_3 a1_0 a1_1).isSome = true from hx)
  have hres : T18.res (a0_0, a0_1, a0_2, a0_3, a1_0, a1_1) = [.c (.d (.int .i64 r))] := by simp only [T18, hr, Option.getD_some]
  refine ⟨Nat.le_of_ble_eq_true rfl, fun stop S => ?_⟩
  rw [hres] at S
  unfold r18 at hr
  refine S.goB [] 1000 ?_
  simp (maxSteps := 10000000) only [go_sem, tb18_43, T43, tb18_47, T47, T18, Option.map_some, Int.reduceToNat, Nat.reduceEqDiff, Nat.reduceLT, Nat.reduceAdd, Nat.reduceMul, Nat.reduceSub, Nat.reduceLeDiff, reduceIte, reduceCtorEq, Tryz.results18]
  obtain ⟨v1, hv1, hr⟩ := of_bind0 hr
  try simp only [hv1, Option.getD_some, Option.isSome_some, true_and, and_assoc]
  repeat refine gA ?_
  refine ⟨fun hc => ?_, fun hc => ?_⟩
  · replace hr := ifP hr hc
    repeat refine gA ?_
    obtain rfl := Option.some.inj hr
    (simp (maxDischargeDepth := 8) [go_sem])
  · replace hr := ifN hr hc
    obtain ⟨v2, hv2, hr⟩ := of_bind0 hr
    try simp only [hv2, Option.getD_some, Option.isSome_some, true_and, and_assoc]
    repeat refine gA ?_
    obtain rfl := Option.some.inj hr
    (simp (maxDischargeDepth := 8) [go_sem])
theorem f18 : FnFact Tryz.prog 18 T18.sp := ⟨⟨Tryz.f18, Tryz.func18, by decide, rfl⟩, v18⟩

/- martensite/martensiteref03.LawErr -/
def r97 (a0_0 : Int) (a0_1 : Int) (a0_2 : List (Int × Int)) (a0_3 : List ((List (Int × Int)))) (a1 : Int) : Option (Int) :=
  (r74 a1 0 (IntKind.i64.wrap ((a0_3.length : Int) - 1))).bind fun v1 =>
   if (!v1) = true then
    some 6
    else some 0
def T97 : TSpec (Int × Int × (List (Int × Int)) × (List ((List (Int × Int)))) × Int) where
  enc x := [.agg [.int .i64 x.1, .int .i64 x.2.1, encF 2 d_II x.2.2.1, encF 1 d_LIIE x.2.2.2.1], .c (.int .i64 x.2.2.2.2)]
  dec a := (dInt (aCell a 0 0), dInt (aCell a 0 1), decF g_II (aCell a 0 2), decF g_LIIE (aCell a 0 3), dInt (aCell a 1 0))
  pre x := (r97 x.1 x.2.1 x.2.2.1 x.2.2.2.1 x.2.2.2.2).isSome = true
  res x := [.c (.d (.int .i64 ((r97 x.1 x.2.1 x.2.2.1 x.2.2.2.1 x.2.2.2.2).getD default)))]
  al := false
def tb97 : Fns := lk [(74, T74.sp)]
theorem tb97_ok : FnsOk Tryz.prog tb97 := .cons f74 (FnsOk.nil)
theorem tb97_74 : tb97 74 = some T74.sp := rfl
theorem v97 : Valid Tryz.prog 97 T97.sp := by
  refine valid_t (fn := Tryz.f97) (n := 12) ty_ok tb97_ok Tryz.func97 rfl Tryz.ntmps97 ?_
  rintro ⟨a0_0, a0_1, a0_2, a0_3, a1⟩ hx
  obtain ⟨r, hr⟩ := Option.isSome_iff_exists.1 (show (r97 a0_0 a0_1 a0_2 a0_3 a1).isSome = true from hx)
  have hres : T97.res (a0_0, a0_1, a0_2, a0_3, a1) = [.c (.d (.int .i64 r))] := by simp only [T97, hr, Option.getD_some]
  refine ⟨Nat.le_of_ble_eq_true rfl, fun stop S => ?_⟩
  rw [hres] at S
  unfold r97 at hr
  refine S.goB [] 1000 ?_
  simp (maxSteps := 10000000) only [go_sem, tb97_74, T74, T97, Option.map_some, Int.reduceToNat, Nat.reduceEqDiff, Nat.reduceLT, Nat.reduceAdd, Nat.reduceMul, Nat.reduceSub, Nat.reduceLeDiff, reduceIte, reduceCtorEq, Tryz.results97]
  obtain ⟨v1, hv1, hr⟩ := of_bind0 hr
  try simp only [hv1, Option.getD_some, Option.isSome_some, true_and, and_assoc]
  repeat refine gA ?_
  refine ⟨fun hc => ?_, fun hc => ?_⟩
  · replace hr := ifP hr hc
    repeat refine gA ?_
    obtain rfl := Option.some.inj hr
    (simp (maxDischargeDepth := 8) [go_sem])
  · replace hr := ifN hr hc
    repeat refine gA ?_
    obtain rfl := Option.some.inj hr
    (simp (maxDischargeDepth := 8) [go_sem])
theorem f97 : FnFact Tryz.prog 97 T97.sp := ⟨⟨Tryz.f97, Tryz.func97, by decide, rfl⟩, v97⟩

/- martensite/martensiteref03.SpanErr -/
def b76_1 (a0_0 : Int) (a0_1 : Int) (a0_2 : List (Int × Int)) (a0_3 : List ((List (Int × Int)))) (a1_0 : List (Int × Int)) (a1_1 : Int) (a1_2 : Int) : (Int) → Ctl (Int) (Int) := fun s1 =>
  if (decide (s1 < (a1_0.length : Int))) = true then
   if 0 ≤ s1 ∧ s1 < (a1_0.length : Int) then
    bindC (r74 ((a1_0.getD s1.toNat default).1) 0 10000) fun v1 =>
     if (!(!v1)) = true → 0 ≤ s1 ∧ s1 < (a1_0.length : Int) then
      if (!(!v1)) = true → (r74 ((a1_0.getD s1.toNat default).2) 0 10000).isSome = true then
       if ((!v1) || (!((r74 ((a1_0.getD s1.toNat default).2) 0 10000).getD default))) = true then
        .out (some 2)
        else if 0 ≤ s1 ∧ s1 < (a1_0.length : Int) then
         if 0 ≤ s1 ∧ s1 < (a1_0.length : Int) then
          if (decide (((a1_0.getD s1.toNat default).1) > ((a1_0.getD s1.toNat default).2))) = true then
           .out (some 9)
           else .next (IntKind.i64.wrap (s1 + 1))
          else .out none
         else .out none
       else .out none
      else .out none
    else .out none
   else .out ((r97 a0_0 a0_1 a0_2 a0_3 a1_1).bind fun v7 =>
    if (!(v7 != 0)) = true → (r97 a0_0 a0_1 a0_2 a0_3 a1_2).isSome = true then
     if ((v7 != 0) || (((r97 a0_0 a0_1 a0_2 a0_3 a1_2).getD default) != 0)) = true then
      some 6
      else if (decide (a1_1 > a1_2)) = true then
       some 9
       else some 0
     else none)
def r76 (a0_0 : Int) (a0_1 : Int) (a0_2 : List (Int × Int)) (a0_3 : List ((List (Int × Int)))) (a1_0 : List (Int × Int)) (a1_1 : Int) (a1_2 : Int) : Option (Int) :=
  if ((a1_0.length : Int) != a0_0) = true then
   some 10
   else iterC (b76_1 a0_0 a0_1 a0_2 a0_3 a1_0 a1_1 a1_2) 1000000000 0
def T76 : TSpec (Int × Int × (List (Int × Int)) × (List ((List (Int × Int)))) × (List (Int × Int)) × Int × Int) where
  enc x := [.agg [.int .i64 x.1, .int .i64 x.2.1, encF 2 d_II x.2.2.1, encF 1 d_LIIE x.2.2.2.1], .agg [encF 2 d_II x.2.2.2.2.1, .int .i64 x.2.2.2.2.2.1, .int .i64 x.2.2.2.2.2.2]]
  dec a := (dInt (aCell a 0 0), dInt (aCell a 0 1), decF g_II (aCell a 0 2), decF g_LIIE (aCell a 0 3), decF g_II (aCell a 1 0), dInt (aCell a 1 1), dInt (aCell a 1 2))
  pre x := (r76 x.1 x.2.1 x.2.2.1 x.2.2.2.1 x.2.2.2.2.1 x.2.2.2.2.2.1 x.2.2.2.2.2.2).isSome = true
  res x := [.c (.d (.int .i64 ((r76 x.1 x.2.1 x.2.2.1 x.2.2.2.1 x.2.2.2.2.1 x.2.2.2.2.2.1 x.2.2.2.2.2.2).getD default)))]
  al := false
def tb76 : Fns := lk [(74, T74.sp), (97, T97.sp)]
theorem tb76_ok : FnsOk Tryz.prog tb76 := .cons f74 (.cons f97 (FnsOk.nil))
theorem tb76_74 : tb76 74 = some T74.sp := rfl
theorem tb76_97 : tb76 97 = some T97.sp := rfl
theorem v76 : Valid Tryz.prog 76 T76.sp := by
  refine valid_t (fn := Tryz.f76) (n := 71) ty_ok tb76_ok Tryz.func76 rfl Tryz.ntmps76 ?_
  rintro ⟨a0_0, a0_1, a0_2, a0_3, a1_0, a1_1, a1_2⟩ hx
  obtain ⟨r, hr⟩ := Option.isSome_iff_exists.1 (show (r76 a0_0 a0_1 a0_2 a0_3 a1_0 a1_1 a1_2).isSome = true from hx)
  have hres : T76.res (a0_0, a0_1, a0_2, a0_3, a1_0, a1_1, a1_2) = [.c (.d (.int .i64 r))] := by simp only [T76, hr, Option.getD_some]
  refine ⟨Nat.le_of_ble_eq_true rfl, fun stop S => ?_⟩
  rw [hres] at S
  unfold r76 at hr
  refine S.goB [] 1000 ?_
  simp (maxSteps := 10000000) only [go_sem, tb76_74, T74, tb76_97, T97, T76, Option.map_some, Int.reduceToNat, Nat.reduceEqDiff, Nat.reduceLT, Nat.reduceAdd, Nat.reduceMul, Nat.reduceSub, Nat.reduceLeDiff, reduceIte, reduceCtorEq, Tryz.results76]
  repeat refine gA ?_
  refine ⟨fun hc => ?_, fun hc => ?_⟩
  · replace hr := ifP hr hc
    repeat refine gA ?_
    obtain rfl := Option.some.inj hr
    (simp (maxDischargeDepth := 8) [go_sem])
  · replace hr := ifN hr hc
    repeat refine gA ?_
    refine S.sees [2, 3, 5] [(2, 2), (3, 3)] [] ?_ (Stop.iter S (fun s1 => ⟨[(2, .c (.ref 2 0)), (3, .c (.ref 3 0)), (5, .c (.d (.int .i64 s1)))], [(2, [.d (.int .i64 a0_0), .d (.int .i64 a0_1), .d (encF 2 d_II a0_2), .d (encF 1 d_LIIE a0_3)]), (3, [.d (encF 2 d_II a1_0), .d (.int .i64 a1_1), .d (.int .i64 a1_2)])], []⟩) (b76_1 a0_0 a0_1 a0_2 a0_3 a1_0 a1_1 a1_2) (fun q => q = r) hr rfl ?_)
    · (simp (maxDischargeDepth := 8) [go_sem])
    · intro s1 hr
      unfold b76_1 at hr
      refine S.goB [] 1000 ?_
      simp (maxSteps := 10000000) only [go_sem, tb76_74, T74, tb76_97, T97, T76, Option.map_some, Int.reduceToNat, Nat.reduceEqDiff, Nat.reduceLT, Nat.reduceAdd, Nat.reduceMul, Nat.reduceSub, Nat.reduceLeDiff, reduceIte, reduceCtorEq, Tryz.results76]
      repeat refine gA ?_
      refine ⟨fun hc => ?_, fun hc => ?_⟩
      · replace hr := ifP1 hr hc
        obtain ⟨hg4, hr⟩ := of_guard1 hr
        obtain ⟨v1, hv1, hr⟩ := of_bind1 hr
        obtain ⟨hg5, hr⟩ := of_guard1 hr
        obtain ⟨hg6, hr⟩ := of_guard1 hr
        try simp only [hv1, Option.getD_some, Option.isSome_some, true_and, and_assoc]
        repeat (first | refine gG hg5 ?_ | refine gG hg6 ?_ | refine gA ?_ | refine gB ?_)
        refine ⟨fun hc => ?_, fun hc => ?_⟩
        · replace hr := ifP1 hr hc
          repeat refine gA ?_
          have hr := of_out0 hr
          obtain rfl := Option.some.inj hr
          (simp (maxDischargeDepth := 8) [go_sem])
        · replace hr := ifN1 hr hc
          obtain ⟨hg2, hr⟩ := of_guard1 hr
          obtain ⟨hg3, hr⟩ := of_guard1 hr
          repeat refine gA ?_
          refine ⟨fun hc => ?_, fun hc => ?_⟩
          · replace hr := ifP1 hr hc
            repeat refine gA ?_
            have hr := of_out0 hr
            obtain rfl := Option.some.inj hr
            (simp (maxDischargeDepth := 8) [go_sem])
          · replace hr := ifN1 hr hc
            repeat refine gA ?_
            refine S.sees [2, 3, 5] [(2, 2), (3, 3)] [] ?_ hr
            (simp (maxDischargeDepth := 8) [go_sem])
      · replace hr := ifN1 hr hc
        repeat refine gA ?_
        have hr := of_out0 hr
        obtain ⟨v7, hv7, hr⟩ := of_bind0 hr
        obtain ⟨hg8, hr⟩ := of_guard0 hr
        try simp only [hv7, Option.getD_some, Option.isSome_some, true_and, and_assoc]
        repeat (first | refine gG hg8 ?_ | refine gA ?_ | refine gB ?_)
        refine ⟨fun hc => ?_, fun hc => ?_⟩
        · replace hr := ifP hr hc
          repeat refine gA ?_
          obtain rfl := Option.some.inj hr
          (simp (maxDischargeDepth := 8) [go_sem])
        · replace hr := ifN hr hc
          repeat refine gA ?_
          refine ⟨fun hc => ?_, fun hc => ?_⟩
          · replace hr := ifP hr hc
            repeat refine gA ?_
            obtain rfl := Option.some.inj hr
            (simp (maxDischargeDepth := 8) [go_sem])
          · replace hr := ifN hr hc
            repeat refine gA ?_
            obtain rfl := Option.some.inj hr
            (simp (maxDischargeDepth := 8) [go_sem])
theorem f76 : FnFact Tryz.prog 76 T76.sp := ⟨⟨Tryz.f76, Tryz.func76, by decide, rfl⟩, v76⟩

/- martensite/martensiteref03.SpansErr -/
def b48_1 (a0_0 : Int) (a0_1 : Int) (a0_2 : List (Int × Int)) (a0_3 : List ((List (Int × Int)))) (a1 : List ((List (Int × Int)) × Int × Int)) : (Int) → Ctl (Int) (Int) := fun s1 =>
  if (decide (s1 < (a1.length : Int))) = true then
   if 0 ≤ s1 ∧ s1 < (a1.length : Int) then
    bindC (r76 a0_0 a0_1 a0_2 a0_3 ((a1.getD s1.toNat default).1) ((a1.getD s1.toNat default).2.1) ((a1.getD s1.toNat default).2.2)) fun v1 =>
     if (v1 != 0) = true then
      .out (some v1)
      else .next (IntKind.i64.wrap (s1 + 1))
    else .out none
   else .out (some 0)
def r48 (a0_0 : Int) (a0_1 : Int) (a0_2 : List (Int × Int)) (a0_3 : List ((List (Int × Int)))) (a1 : List ((List (Int × Int)) × Int × Int)) : Option (Int) :=
  if (decide ((a1.length : Int) > 200)) = true then
   some 8
   else iterC (b48_1 a0_0 a0_1 a0_2 a0_3 a1) 1000000000 0
def T48 : TSpec (Int × Int × (List (Int × Int)) × (List ((List (Int × Int)))) × (List ((List (Int × Int)) × Int × Int))) where
  enc x := [.agg [.int .i64 x.1, .int .i64 x.2.1, encF 2 d_II x.2.2.1, encF 1 d_LIIE x.2.2.2.1], .c (encF 3 d_LIIEII x.2.2.2.2)]
  dec a := (dInt (aCell a 0 0), dInt (aCell a 0 1), decF g_II (aCell a 0 2), decF g_LIIE (aCell a 0 3), decF g_LIIEII (aCell a 1 0))
  pre x := (r48 x.1 x.2.1 x.2.2.1 x.2.2.2.1 x.2.2.2.2).isSome = true
  res x := [.c (.d (.int .i64 ((r48 x.1 x.2.1 x.2.2.1 x.2.2.2.1 x.2.2.2.2).getD default)))]
  al := false
def tb48 : Fns := lk [(76, T76.sp)]
theorem tb48_ok : FnsOk Tryz.prog tb48 := .cons f76 (FnsOk.nil)
theorem tb48_76 : tb48 76 = some T76.sp := rfl
theorem v48 : Valid Tryz.prog 48 T48.sp := by
  refine valid_t (fn := Tryz.f48) (n := 25) ty_ok tb48_ok Tryz.func48 rfl Tryz.ntmps48 ?_
  rintro ⟨a0_0, a0_1, a0_2, a0_3, a1⟩ hx
  obtain ⟨r, hr⟩ := Option.isSome_iff_exists.1 (show (r48 a0_0 a0_1 a0_2 a0_3 a1).isSome = true from hx)
  have hres : T48.res (a0_0, a0_1, a0_2, a0_3, a1) = [.c (.d (.int .i64 r))] := by simp only [T48, hr, Option.getD_some]
  refine ⟨Nat.le_of_ble_eq_true rfl, fun stop S => ?_⟩
  rw [hres] at S
  unfold r48 at hr
  refine S.goB [] 1000 ?_
  simp (maxSteps := 10000000) only [go_sem, tb48_76, T76, T48, Option.map_some, Int.reduceToNat, Nat.reduceEqDiff, Nat.reduceLT, Nat.reduceAdd, Nat.reduceMul, Nat.reduceSub, Nat.reduceLeDiff, reduceIte, reduceCtorEq, Tryz.results48]
  repeat refine gA ?_
  refine ⟨fun hc => ?_, fun hc => ?_⟩
  · replace hr := ifP hr hc
    repeat refine gA ?_
    obtain rfl := Option.some.inj hr
    (simp (maxDischargeDepth := 8) [go_sem])
  · replace hr := ifN hr hc
    repeat refine gA ?_
    refine S.sees [1, 2, 5] [(2, 2)] [] ?_ (Stop.iter S (fun s1 => ⟨[(1, .c (.d (encF 3 d_LIIEII a1))), (2, .c (.ref 2 0)), (5, .c (.d (.int .i64 s1)))], [(2, [.d (.int .i64 a0_0), .d (.int .i64 a0_1), .d (encF 2 d_II a0_2), .d (encF 1 d_LIIE a0_3)])], []⟩) (b48_1 a0_0 a0_1 a0_2 a0_3 a1) (fun q => q = r) hr rfl ?_)
    · (simp (maxDischargeDepth := 8) [go_sem])
    · intro s1 hr
      unfold b48_1 at hr
      refine S.goB [] 1000 ?_
      simp (maxSteps := 10000000) only [go_sem, tb48_76, T76, T48, Option.map_some, Int.reduceToNat, Nat.reduceEqDiff, Nat.reduceLT, Nat.reduceAdd, Nat.reduceMul, Nat.reduceSub, Nat.reduceLeDiff, reduceIte, reduceCtorEq, Tryz.results48]
      repeat refine gA ?_
      refine ⟨fun hc => ?_, fun hc => ?_⟩
      · replace hr := ifP1 hr hc
        obtain ⟨hg2, hr⟩ := of_guard1 hr
        obtain ⟨v1, hv1, hr⟩ := of_bind1 hr
        try simp only [hv1, Option.getD_some, Option.isSome_some, true_and, and_assoc]
        repeat refine gA ?_
        refine ⟨fun hc => ?_, fun hc => ?_⟩
        · replace hr := ifP1 hr hc
          repeat refine gA ?_
          have hr := of_out0 hr
          obtain rfl := Option.some.inj hr
          (simp (maxDischargeDepth := 8) [go_sem])
        · replace hr := ifN1 hr hc
          repeat refine gA ?_
          refine S.sees [1, 2, 5] [(2, 2)] [] ?_ hr
          (simp (maxDischargeDepth := 8) [go_sem])
      · replace hr := ifN1 hr hc
        repeat refine gA ?_
        have hr := of_out0 hr
        repeat refine gA ?_
        obtain rfl := Option.some.inj hr
        (simp (maxDischargeDepth := 8) [go_sem])
theorem f48 : FnFact Tryz.prog 48 T48.sp := ⟨⟨Tryz.f48, Tryz.func48, by decide, rfl⟩, v48⟩

/- martensite/martensiteref03.HistoryErr -/
def r19 (a0_0 : Int) (a0_1 : Int) (a0_2 : List (Int × Int)) (a0_3 : List ((List (Int × Int)))) (a1_0 : List ((List (Int × Int)) × Int × Int)) (a1_1 : Int) : Option (Int) :=
  (r48 a0_0 a0_1 a0_2 a0_3 a1_0).bind fun v1 =>
   if (v1 != 0) = true then
    some v1
    else (r16 a1_1).bind fun v2 =>
     some v2
def T19 : TSpec (Int × Int × (List (Int × Int)) × (List ((List (Int × Int)))) × (List ((List (Int × Int)) × Int × Int)) × Int) where
  enc x := [.agg [.int .i64 x.1, .int .i64 x.2.1, encF 2 d_II x.2.2.1, encF 1 d_LIIE x.2.2.2.1], .agg [encF 3 d_LIIEII x.2.2.2.2.1, .int .i64 x.2.2.2.2.2]]
  dec a := (dInt (aCell a 0 0), dInt (aCell a 0 1), decF g_II (aCell a 0 2), decF g_LIIE (aCell a 0 3), decF g_LIIEII (aCell a 1 0), dInt (aCell a 1 1))
  pre x := (r19 x.1 x.2.1 x.2.2.1 x.2.2.2.1 x.2.2.2.2.1 x.2.2.2.2.2).isSome = true
  res x := [.c (.d (.int .i64 ((r19 x.1 x.2.1 x.2.2.1 x.2.2.2.1 x.2.2.2.2.1 x.2.2.2.2.2).getD default)))]
  al := false
def tb19 : Fns := lk [(16, T16.sp), (48, T48.sp)]
theorem tb19_ok : FnsOk Tryz.prog tb19 := .cons f16 (.cons f48 (FnsOk.nil))
theorem tb19_16 : tb19 16 = some T16.sp := rfl
theorem tb19_48 : tb19 48 = some T48.sp := rfl
theorem v19 : Valid Tryz.prog 19 T19.sp := by
  refine valid_t (fn := Tryz.f19) (n := 16) ty_ok tb19_ok Tryz.func19 rfl Tryz.ntmps19 ?_
  rintro ⟨a0_0, a0_1, a0_2, a0_3, a1_0, a1_1⟩ hx
  obtain ⟨r, hr⟩ := Option.isSome_iff_exists.1 (show (r19 a0_0 a0_1 a0_2 a0_3 a1_0 a1_1).isSome = true from hx)
  have hres : T19.res (a0_0, a0_1, a0_2, a0_3, a1_0, a1_1) = [.c (.d (.int .i64 r))] := by simp only [T19, hr, Option.getD_some]
  refine ⟨Nat.le_of_ble_eq_true rfl, fun stop S => ?_⟩
  rw [hres] at S
  unfold r19 at hr
  refine S.goB [] 1000 ?_
  simp (maxSteps := 10000000) only [go_sem, tb19_16, T16, tb19_48, T48, T19, Option.map_some, Int.reduceToNat, Nat.reduceEqDiff, Nat.reduceLT, Nat.reduceAdd, Nat.reduceMul, Nat.reduceSub, Nat.reduceLeDiff, reduceIte, reduceCtorEq, Tryz.results19]
  obtain ⟨v1, hv1, hr⟩ := of_bind0 hr
  try simp only [hv1, Option.getD_some, Option.isSome_some, true_and, and_assoc]
  repeat refine gA ?_
  refine ⟨fun hc => ?_, fun hc => ?_⟩
  · replace hr := ifP hr hc
    repeat refine gA ?_
    obtain rfl := Option.some.inj hr
    (simp (maxDischargeDepth := 8) [go_sem])
  · replace hr := ifN hr hc
    obtain ⟨v2, hv2, hr⟩ := of_bind0 hr
    try simp only [hv2, Option.getD_some, Option.isSome_some, true_and, and_assoc]
    repeat refine gA ?_
    obtain rfl := Option.some.inj hr
    (simp (maxDischargeDepth := 8) [go_sem])
theorem f19 : FnFact Tryz.prog 19 T19.sp := ⟨⟨Tryz.f19, Tryz.func19, by decide, rfl⟩, v19⟩

/- martensite/martensiteref03.ends -/
def b78_1 (a0 : List (Int × Int)) (a1 : Bool) : ((List (Int)) × Int) → Ctl ((List (Int)) × Int) ((List (Int))) := fun s1 =>
  if (decide (s1.2 < (a0.length : Int))) = true then
   if a1 = true then
    if 0 ≤ s1.2 ∧ s1.2 < (a0.length : Int) then
     if (s1.1.length + 1) * 8 ≤ 140737488355328 ∧ s1.1.length + 1 ≤ 9223372036854775807 then
      .next (s1.1 ++ [(a0.getD s1.2.toNat default).2], IntKind.i64.wrap (s1.2 + 1))
      else .out none
     else .out none
    else if 0 ≤ s1.2 ∧ s1.2 < (a0.length : Int) then
     if (s1.1.length + 1) * 8 ≤ 140737488355328 ∧ s1.1.length + 1 ≤ 9223372036854775807 then
      .next (s1.1 ++ [(a0.getD s1.2.toNat default).1], IntKind.i64.wrap (s1.2 + 1))
      else .out none
     else .out none
   else .out (some s1.1)
def r78 (a0 : List (Int × Int)) (a1 : Bool) : Option ((List (Int))) :=
  iterC (b78_1 a0 a1) 1000000000 ([], 0)
def T78 : TSpec ((List (Int × Int)) × Bool) where
  enc x := [.c (encF 2 d_II x.1), .c (.bool x.2)]
  dec a := (decF g_II (aCell a 0 0), dBool (aCell a 1 0))
  pre x := (r78 x.1 x.2).isSome = true
  res x := [.c (.own (encF 1 d_I ((r78 x.1 x.2).getD default)))]
  al := false
def tb78 : Fns := lk []
theorem tb78_ok : FnsOk Tryz.prog tb78 := FnsOk.nil
theorem v78 : Valid Tryz.prog 78 T78.sp := by
  refine valid_t (fn := Tryz.f78) (n := 31) ty_ok tb78_ok Tryz.func78 rfl Tryz.ntmps78 ?_
  rintro ⟨a0, a1⟩ hx
  obtain ⟨r, hr⟩ := Option.isSome_iff_exists.1 (show (r78 a0 a1).isSome = true from hx)
  have hres : T78.res (a0, a1) = [.c (.own (encF 1 d_I r))] := by simp only [T78, hr, Option.getD_some]
  refine ⟨Nat.le_of_ble_eq_true rfl, fun stop S => ?_⟩
  rw [hres] at S
  unfold r78 at hr
  refine S.goB [] 1000 ?_
  simp (maxSteps := 10000000) only [go_sem, T78, Option.map_some, Int.reduceToNat, Nat.reduceEqDiff, Nat.reduceLT, Nat.reduceAdd, Nat.reduceMul, Nat.reduceSub, Nat.reduceLeDiff, reduceIte, reduceCtorEq, Tryz.results78]
  repeat refine gA ?_
  refine S.own0 5 1000500 1 rfl rfl ?_
  refine S.sees [0, 1, 5, 6] [] [(1000500, 1000500)] ?_ (Stop.iter S (fun s1 => ⟨[(0, .c (.d (encF 2 d_II a0))), (1, .c (.d (.bool a1))), (5, .c (.own 1000500)), (6, .c (.d (.int .i64 s1.2)))], [], [(1000500, .owned (encF 1 d_I s1.1))]⟩) (b78_1 a0 a1) (fun q => q = r) hr rfl ?_)
  · (simp (maxDischargeDepth := 8) [go_sem])
  · intro s1 hr
    unfold b78_1 at hr
    refine S.goB [] 1000 ?_
    simp (maxSteps := 10000000) only [go_sem, T78, Option.map_some, Int.reduceToNat, Nat.reduceEqDiff, Nat.reduceLT, Nat.reduceAdd, Nat.reduceMul, Nat.reduceSub, Nat.reduceLeDiff, reduceIte, reduceCtorEq, Tryz.results78]
    repeat refine gA ?_
    refine ⟨fun hc => ?_, fun hc => ?_⟩
    · replace hr := ifP1 hr hc
      repeat refine gA ?_
      refine ⟨fun hc => ?_, fun hc => ?_⟩
      · replace hr := ifP1 hr hc
        obtain ⟨hg1, hr⟩ := of_guard1 hr
        obtain ⟨hg2, hr⟩ := of_guard1 hr
        repeat refine gA ?_
        refine S.sees [0, 1, 5, 6] [] [(21, 1000500)] ?_ hr
        (simp (maxDischargeDepth := 8) [go_sem])
      · replace hr := ifN1 hr hc
        obtain ⟨hg3, hr⟩ := of_guard1 hr
        obtain ⟨hg4, hr⟩ := of_guard1 hr
        repeat refine gA ?_
        refine S.sees [0, 1, 5, 6] [] [(29, 1000500)] ?_ hr
        (simp (maxDischargeDepth := 8) [go_sem])
    · replace hr := ifN1 hr hc
      repeat refine gA ?_
      have hr := of_out0 hr
      repeat refine gA ?_
      obtain rfl := Option.some.inj hr
      (simp (maxDischargeDepth := 8) [go_sem])
theorem f78 : FnFact Tryz.prog 78 T78.sp := ⟨⟨Tryz.f78, Tryz.func78, by decide, rfl⟩, v78⟩

/- martensite/martensitebase.Floor -/
def r108 (a0 : Int) (a1 : Int) : Option (Int) :=
  if a1 ≠ 0 then
   if a1 ≠ 0 then
    if (decide ((a0.tmod a1) < 0)) = true then
     some (IntKind.i64.wrap ((IntKind.i64.wrap (a0.tdiv a1)) - 1))
     else some (IntKind.i64.wrap (a0.tdiv a1))
    else none
   else none
def T108 : TSpec (Int × Int) where
  enc x := [.c (.int .i64 x.1), .c (.int .i64 x.2)]
  dec a := (dInt (aCell a 0 0), dInt (aCell a 1 0))
  pre x := (r108 x.1 x.2).isSome = true
  res x := [.c (.d (.int .i64 ((r108 x.1 x.2).getD default)))]
  al := false
def tb108 : Fns := lk []
theorem tb108_ok : FnsOk Tryz.prog tb108 := FnsOk.nil
theorem v108 : Valid Tryz.prog 108 T108.sp := by
  refine valid_t (fn := Tryz.f108) (n := 16) ty_ok tb108_ok Tryz.func108 rfl Tryz.ntmps108 ?_
  rintro ⟨a0, a1⟩ hx
  obtain ⟨r, hr⟩ := Option.isSome_iff_exists.1 (show (r108 a0 a1).isSome = true from hx)
  have hres : T108.res (a0, a1) = [.c (.d (.int .i64 r))] := by simp only [T108, hr, Option.getD_some]
  refine ⟨Nat.le_of_ble_eq_true rfl, fun stop S => ?_⟩
  rw [hres] at S
  unfold r108 at hr
  refine S.goB [] 1000 ?_
  simp (maxSteps := 10000000) only [go_sem, T108, Option.map_some, Int.reduceToNat, Nat.reduceEqDiff, Nat.reduceLT, Nat.reduceAdd, Nat.reduceMul, Nat.reduceSub, Nat.reduceLeDiff, reduceIte, reduceCtorEq, Tryz.results108]
  obtain ⟨hg1, hr⟩ := of_guard0 hr
  obtain ⟨hg2, hr⟩ := of_guard0 hr
  repeat refine gA ?_
  refine ⟨fun hc => ?_, fun hc => ?_⟩
  · replace hr := ifP hr hc
    repeat refine gA ?_
    obtain rfl := Option.some.inj hr
    (simp (maxDischargeDepth := 8) [go_sem])
  · replace hr := ifN hr hc
    repeat refine gA ?_
    obtain rfl := Option.some.inj hr
    (simp (maxDischargeDepth := 8) [go_sem])
theorem f108 : FnFact Tryz.prog 108 T108.sp := ⟨⟨Tryz.f108, Tryz.func108, by decide, rfl⟩, v108⟩

/- martensite/martensiteref03.exchanged -/
def r107 (a0_0 : Int) (a0_1 : Int) (a0_2 : List (Int × Int)) (a0_3 : List ((List (Int × Int)))) (a1 : Int) (a2 : Int) : Option (Int × Int) :=
  (r75 a0_0 a0_1 a0_2 a0_3 a1).bind fun v1 =>
   (r75 a0_0 a0_1 a0_2 a0_3 a2).bind fun v2 =>
    (r108 (IntKind.i64.wrap (a0_1 * (IntKind.i64.wrap ((IntKind.i64.wrap (v1.1 * v2.2)) - (IntKind.i64.wrap (v2.1 * v1.2)))))) (IntKind.i64.wrap ((IntKind.i64.wrap (1000 * v1.2)) * v2.2))).bind fun v3 =>
     some (IntKind.i64.wrap (a1 - v3), IntKind.i64.wrap (a2 + v3))
def T107 : TSpec (Int × Int × (List (Int × Int)) × (List ((List (Int × Int)))) × Int × Int) where
  enc x := [.agg [.int .i64 x.1, .int .i64 x.2.1, encF 2 d_II x.2.2.1, encF 1 d_LIIE x.2.2.2.1], .c (.int .i64 x.2.2.2.2.1), .c (.int .i64 x.2.2.2.2.2)]
  dec a := (dInt (aCell a 0 0), dInt (aCell a 0 1), decF g_II (aCell a 0 2), decF g_LIIE (aCell a 0 3), dInt (aCell a 1 0), dInt (aCell a 2 0))
  pre x := (r107 x.1 x.2.1 x.2.2.1 x.2.2.2.1 x.2.2.2.2.1 x.2.2.2.2.2).isSome = true
  res x := [.c (.d (.int .i64 (((r107 x.1 x.2.1 x.2.2.1 x.2.2.2.1 x.2.2.2.2.1 x.2.2.2.2.2).getD default).1))), .c (.d (.int .i64 (((r107 x.1 x.2.1 x.2.2.1 x.2.2.2.1 x.2.2.2.2.1 x.2.2.2.2.2).getD default).2)))]
  al := false
def tb107 : Fns := lk [(75, T75.sp), (108, T108.sp)]
theorem tb107_ok : FnsOk Tryz.prog tb107 := .cons f75 (.cons f108 (FnsOk.nil))
theorem tb107_75 : tb107 75 = some T75.sp := rfl
theorem tb107_108 : tb107 108 = some T108.sp := rfl
theorem v107 : Valid Tryz.prog 107 T107.sp := by
  refine valid_t (fn := Tryz.f107) (n := 46) ty_ok tb107_ok Tryz.func107 rfl Tryz.ntmps107 ?_
  rintro ⟨a0_0, a0_1, a0_2, a0_3, a1, a2⟩ hx
  obtain ⟨r, hr⟩ := Option.isSome_iff_exists.1 (show (r107 a0_0 a0_1 a0_2 a0_3 a1 a2).isSome = true from hx)
  have hres : T107.res (a0_0, a0_1, a0_2, a0_3, a1, a2) = [.c (.d (.int .i64 r.1)), .c (.d (.int .i64 r.2))] := by simp only [T107, hr, Option.getD_some]
  refine ⟨Nat.le_of_ble_eq_true rfl, fun stop S => ?_⟩
  rw [hres] at S
  unfold r107 at hr
  refine S.goB [] 1000 ?_
  simp (maxSteps := 10000000) only [go_sem, tb107_75, T75, tb107_108, T108, T107, Option.map_some, Int.reduceToNat, Nat.reduceEqDiff, Nat.reduceLT, Nat.reduceAdd, Nat.reduceMul, Nat.reduceSub, Nat.reduceLeDiff, reduceIte, reduceCtorEq, Tryz.results107]
  obtain ⟨v1, hv1, hr⟩ := of_bind0 hr
  obtain ⟨v2, hv2, hr⟩ := of_bind0 hr
  obtain ⟨v3, hv3, hr⟩ := of_bind0 hr
  try simp only [hv1, hv2, hv3, Option.getD_some, Option.isSome_some, true_and, and_assoc]
  repeat refine gA ?_
  obtain rfl := Option.some.inj hr
  (simp (maxDischargeDepth := 8) [go_sem])
theorem f107 : FnFact Tryz.prog 107 T107.sp := ⟨⟨Tryz.f107, Tryz.func107, by decide, rfl⟩, v107⟩

/- martensite/martensiteref03.Mixed -/
def b98_2 (a0_0 : Int) (a0_1 : Int) (a0_2 : List (Int × Int)) (a0_3 : List ((List (Int × Int)))) (s1 : Int × (List (Int))) : (Int × (List (Int))) → Ctl (Int × (List (Int))) (Ctl (Int × (List (Int))) ((List (Int)))) := fun s2 =>
  if (decide ((IntKind.i64.wrap (s2.1 + 1)) < (s2.2.length : Int))) = true then
   if 0 ≤ s2.1 ∧ s2.1 < (s2.2.length : Int) then
    if 0 ≤ IntKind.i64.wrap (s2.1 + 1) ∧ IntKind.i64.wrap (s2.1 + 1) < (s2.2.length : Int) then
     bindC (r107 a0_0 a0_1 a0_2 a0_3 (s2.2.getD s2.1.toNat default) (s2.2.getD (IntKind.i64.wrap (s2.1 + 1)).toNat default)) fun v2 =>
      if 0 ≤ s2.1 ∧ s2.1 < (s2.2.length : Int) then
       if 0 ≤ IntKind.i64.wrap (s2.1 + 1) ∧ IntKind.i64.wrap (s2.1 + 1) < (s2.2.length : Int) then
        .next (IntKind.i64.wrap (s2.1 + 2), (s2.2.set s2.1.toNat v2.1).set (IntKind.i64.wrap (s2.1 + 1)).toNat v2.2)
        else .out none
       else .out none
     else .out none
    else .out none
   else .out (some (.next (IntKind.i64.wrap (s1.1 + 1), s2.2)))
def b98_1 (a0_0 : Int) (a0_1 : Int) (a0_2 : List (Int × Int)) (a0_3 : List ((List (Int × Int)))) : (Int × (List (Int))) → Ctl (Int × (List (Int))) ((List (Int))) := fun s1 =>
  if (decide (s1.1 < 2)) = true then
   (iterC (b98_2 a0_0 a0_1 a0_2 a0_3 s1) 1000000000 (s1.1, s1.2)).getD (.out none)
   else .out (some s1.2)
def r98 (a0_0 : Int) (a0_1 : Int) (a0_2 : List (Int × Int)) (a0_3 : List ((List (Int × Int)))) (a1 : List (Int)) : Option ((List (Int))) :=
  (r10 a1).bind fun v1 =>
   iterC (b98_1 a0_0 a0_1 a0_2 a0_3) 1000000000 (0, v1)
def T98 : TSpec (Int × Int × (List (Int × Int)) × (List ((List (Int × Int)))) × (List (Int))) where
  enc x := [.agg [.int .i64 x.1, .int .i64 x.2.1, encF 2 d_II x.2.2.1, encF 1 d_LIIE x.2.2.2.1], .c (encF 1 d_I x.2.2.2.2)]
  dec a := (dInt (aCell a 0 0), dInt (aCell a 0 1), decF g_II (aCell a 0 2), decF g_LIIE (aCell a 0 3), decF g_I (aCell a 1 0))
  pre x := (r98 x.1 x.2.1 x.2.2.1 x.2.2.2.1 x.2.2.2.2).isSome = true
  res x := [.c (.own (encF 1 d_I ((r98 x.1 x.2.1 x.2.2.1 x.2.2.2.1 x.2.2.2.2).getD default)))]
  al := false
def tb98 : Fns := lk [(10, T10.sp), (107, T107.sp)]
theorem tb98_ok : FnsOk Tryz.prog tb98 := .cons f10 (.cons f107 (FnsOk.nil))
theorem tb98_10 : tb98 10 = some T10.sp := rfl
theorem tb98_107 : tb98 107 = some T107.sp := rfl
theorem v98 : Valid Tryz.prog 98 T98.sp := by
  refine valid_t (fn := Tryz.f98) (n := 44) ty_ok tb98_ok Tryz.func98 rfl Tryz.ntmps98 ?_
  rintro ⟨a0_0, a0_1, a0_2, a0_3, a1⟩ hx
  obtain ⟨r, hr⟩ := Option.isSome_iff_exists.1 (show (r98 a0_0 a0_1 a0_2 a0_3 a1).isSome = true from hx)
  have hres : T98.res (a0_0, a0_1, a0_2, a0_3, a1) = [.c (.own (encF 1 d_I r))] := by simp only [T98, hr, Option.getD_some]
  refine ⟨Nat.le_of_ble_eq_true rfl, fun stop S => ?_⟩
  rw [hres] at S
  unfold r98 at hr
  refine S.goB [] 1000 ?_
  simp (maxSteps := 10000000) only [go_sem, tb98_10, T10, tb98_107, T107, T98, Option.map_some, Int.reduceToNat, Nat.reduceEqDiff, Nat.reduceLT, Nat.reduceAdd, Nat.reduceMul, Nat.reduceSub, Nat.reduceLeDiff, reduceIte, reduceCtorEq, Tryz.results98]
  obtain ⟨v1, hv1, hr⟩ := of_bind0 hr
  try simp only [hv1, Option.getD_some, Option.isSome_some, true_and, and_assoc]
  repeat refine gA ?_
  refine S.sees [2, 5, 6] [(2, 2)] [(9, 9)] ?_ (Stop.iter S (fun s1 => ⟨[(2, .c (.ref 2 0)), (5, .c (.own 9)), (6, .c (.d (.int .i64 s1.1)))], [(2, [.d (.int .i64 a0_0), .d (.int .i64 a0_1), .d (encF 2 d_II a0_2), .d (encF 1 d_LIIE a0_3)])], [(9, .owned (encF 1 d_I s1.2))]⟩) (b98_1 a0_0 a0_1 a0_2 a0_3) (fun q => q = r) hr rfl ?_)
  · (simp (maxDischargeDepth := 8) [go_sem])
  · intro s1 hr
    unfold b98_1 at hr
    refine S.goB [] 1000 ?_
    simp (maxSteps := 10000000) only [go_sem, tb98_10, T10, tb98_107, T107, T98, Option.map_some, Int.reduceToNat, Nat.reduceEqDiff, Nat.reduceLT, Nat.reduceAdd, Nat.reduceMul, Nat.reduceSub, Nat.reduceLeDiff, reduceIte, reduceCtorEq, Tryz.results98]
    repeat refine gA ?_
    refine ⟨fun hc => ?_, fun hc => ?_⟩
    · replace hr := ifP1 hr hc
      repeat refine gA ?_
      obtain ⟨q2, hq, hr⟩ := of_iter1 hr
      refine S.sees [2, 5, 6, 7] [(2, 2)] [(9, 9)] ?_ (Stop.iter S (fun s2 => ⟨[(2, .c (.ref 2 0)), (5, .c (.own 9)), (6, .c (.d (.int .i64 s1.1))), (7, .c (.d (.int .i64 s2.1)))], [(2, [.d (.int .i64 a0_0), .d (.int .i64 a0_1), .d (encF 2 d_II a0_2), .d (encF 1 d_LIIE a0_3)])], [(9, .owned (encF 1 d_I s2.2))]⟩) (b98_2 a0_0 a0_1 a0_2 a0_3 s1) _ hq hr ?_)
      · (simp (maxDischargeDepth := 8) [go_sem])
      · intro s2 hr
        unfold b98_2 at hr
        refine S.goB [] 1000 ?_
        simp (maxSteps := 10000000) only [go_sem, tb98_10, T10, tb98_107, T107, T98, Option.map_some, Int.reduceToNat, Nat.reduceEqDiff, Nat.reduceLT, Nat.reduceAdd, Nat.reduceMul, Nat.reduceSub, Nat.reduceLeDiff, reduceIte, reduceCtorEq, Tryz.results98]
        repeat refine gA ?_
        refine ⟨fun hc => ?_, fun hc => ?_⟩
        · replace hr := ifP1 hr hc
          obtain ⟨hg3, hr⟩ := of_guard1 hr
          obtain ⟨hg4, hr⟩ := of_guard1 hr
          obtain ⟨v2, hv2, hr⟩ := of_bind1 hr
          obtain ⟨hg5, hr⟩ := of_guard1 hr
          obtain ⟨hg6, hr⟩ := of_guard1 hr
          try simp only [hv2, Option.getD_some, Option.isSome_some, true_and, and_assoc]
          repeat refine gA ?_
          refine S.sees [2, 5, 6, 7] [(2, 2)] [(9, 9)] ?_ hr
          (simp (maxDischargeDepth := 8) [go_sem])
        · replace hr := ifN1 hr hc
          repeat refine gA ?_
          replace hr := goodC_out hr
          repeat refine gA ?_
          refine S.sees [2, 5, 6] [(2, 2)] [(9, 9)] ?_ hr
          (simp (maxDischargeDepth := 8) [go_sem])
    · replace hr := ifN1 hr hc
      repeat refine gA ?_
      have hr := of_out0 hr
      repeat refine gA ?_
      obtain rfl := Option.some.inj hr
      (simp (maxDischargeDepth := 8) [go_sem])
theorem f98 : FnFact Tryz.prog 98 T98.sp := ⟨⟨Tryz.f98, Tryz.func98, by decide, rfl⟩, v98⟩

/- martensite/martensiteref03.Loss -/
def r99 (a0_0 : Int) (a0_1 : Int) (a0_2 : List (Int × Int)) (a0_3 : List ((List (Int × Int)))) (a1 : Int) (a2 : Int) : Option (Int) :=
  (r75 a0_0 a0_1 a0_2 a0_3 a2).bind fun v1 =>
   if 0 ≤ a1 ∧ a1 < (a0_3.length : Int) then
    (r106 (a0_3.getD a1.toNat default) v1.1 v1.2).bind fun v2 =>
     (r108 v2.1 v2.2).bind fun v3 =>
      some v3
    else none
def T99 : TSpec (Int × Int × (List (Int × Int)) × (List ((List (Int × Int)))) × Int × Int) where
  enc x := [.agg [.int .i64 x.1, .int .i64 x.2.1, encF 2 d_II x.2.2.1, encF 1 d_LIIE x.2.2.2.1], .c (.int .i64 x.2.2.2.2.1), .c (.int .i64 x.2.2.2.2.2)]
  dec a := (dInt (aCell a 0 0), dInt (aCell a 0 1), decF g_II (aCell a 0 2), decF g_LIIE (aCell a 0 3), dInt (aCell a 1 0), dInt (aCell a 2 0))
  pre x := (r99 x.1 x.2.1 x.2.2.1 x.2.2.2.1 x.2.2.2.2.1 x.2.2.2.2.2).isSome = true
  res x := [.c (.d (.int .i64 ((r99 x.1 x.2.1 x.2.2.1 x.2.2.2.1 x.2.2.2.2.1 x.2.2.2.2.2).getD default)))]
  al := false
def tb99 : Fns := lk [(75, T75.sp), (106, T106.sp), (108, T108.sp)]
theorem tb99_ok : FnsOk Tryz.prog tb99 := .cons f75 (.cons f106 (.cons f108 (FnsOk.nil)))
theorem tb99_75 : tb99 75 = some T75.sp := rfl
theorem tb99_106 : tb99 106 = some T106.sp := rfl
theorem tb99_108 : tb99 108 = some T108.sp := rfl
theorem v99 : Valid Tryz.prog 99 T99.sp := by
  refine valid_t (fn := Tryz.f99) (n := 31) ty_ok tb99_ok Tryz.func99 rfl Tryz.ntmps99 ?_
  rintro ⟨a0_0, a0_1, a0_2, a0_3, a1, a2⟩ hx
  obtain ⟨r, hr⟩ := Option.isSome_iff_exists.1 (show (r99 a0_0 a0_1 a0_2 a0_3 a1 a2).isSome = true from hx)
  have hres : T99.res (a0_0, a0_1, a0_2, a0_3, a1, a2) = [.c (.d (.int .i64 r))] := by simp only [T99, hr, Option.getD_some]
  refine ⟨Nat.le_of_ble_eq_true rfl, fun stop S => ?_⟩
  rw [hres] at S
  unfold r99 at hr
  refine S.goB [] 1000 ?_
  simp (maxSteps := 10000000) only [go_sem, tb99_75, T75, tb99_106, T106, tb99_108, T108, T99, Option.map_some, Int.reduceToNat, Nat.reduceEqDiff, Nat.reduceLT, Nat.reduceAdd, Nat.reduceMul, Nat.reduceSub, Nat.reduceLeDiff, reduceIte, reduceCtorEq, Tryz.results99]
  obtain ⟨v1, hv1, hr⟩ := of_bind0 hr
  obtain ⟨hg4, hr⟩ := of_guard0 hr
  obtain ⟨v2, hv2, hr⟩ := of_bind0 hr
  obtain ⟨v3, hv3, hr⟩ := of_bind0 hr
  try simp only [hv1, hv2, hv3, Option.getD_some, Option.isSome_some, true_and, and_assoc]
  repeat refine gA ?_
  obtain rfl := Option.some.inj hr
  (simp (maxDischargeDepth := 8) [go_sem])
theorem f99 : FnFact Tryz.prog 99 T99.sp := ⟨⟨Tryz.f99, Tryz.func99, by decide, rfl⟩, v99⟩

/- martensite/martensiteref03.Step -/
def b77_2 (a0_0 : Int) (a0_1 : Int) (a0_2 : List (Int × Int)) (a0_3 : List ((List (Int × Int)))) (v2 : Int) (s1 : Int × (List (Int))) : (Int) → Ctl (Int) ((List (Int)) × Int × Bool) := fun s2 =>
  if (decide (s2 < (s1.2.length : Int))) = true then
   if 0 ≤ s2 ∧ s2 < (s1.2.length : Int) then
    bindC (r73 a0_0 a0_1 a0_2 a0_3 (s1.2.getD s2.toNat default)) fun v6 =>
     if (!v6) = true then
      .out (some ([], 0, false))
      else .next (IntKind.i64.wrap (s2 + 1))
    else .out none
   else .out (some (s1.2, v2, true))
def b77_1 (a0_0 : Int) (a0_1 : Int) (a0_2 : List (Int × Int)) (a0_3 : List ((List (Int × Int)))) (a2 : List (Int)) (v2 : Int) : (Int × (List (Int))) → Ctl (Int × (List (Int))) ((List (Int)) × Int × Bool) := fun s1 =>
  if (decide (s1.1 < (s1.2.length : Int))) = true then
   if 0 ≤ s1.1 ∧ s1.1 < (s1.2.length : Int) then
    if 0 ≤ s1.1 ∧ s1.1 < (a2.length : Int) then
     if 0 ≤ s1.1 ∧ s1.1 < (s1.2.length : Int) then
      .next (IntKind.i64.wrap (s1.1 + 1), s1.2.set s1.1.toNat (IntKind.i64.wrap ((s1.2.getD s1.1.toNat default) + (a2.getD s1.1.toNat default))))
      else .out none
     else .out none
    else .out none
   else .out (iterC (b77_2 a0_0 a0_1 a0_2 a0_3 v2 s1) 1000000000 0)
def r77 (a0_0 : Int) (a0_1 : Int) (a0_2 : List (Int × Int)) (a0_3 : List ((List (Int × Int)))) (a1 : List (Int)) (a2 : List (Int)) (a3 : Int) : Option ((List (Int)) × Int × Bool) :=
  (r98 a0_0 a0_1 a0_2 a0_3 a1).bind fun v1 =>
   if 0 ≤ 0 ∧ 0 < (v1.length : Int) then
    (r99 a0_0 a0_1 a0_2 a0_3 a3 (v1.getD 0 default)).bind fun v2 =>
     if 0 ≤ 0 ∧ 0 < (v1.length : Int) then
      if 0 ≤ 0 ∧ 0 < (v1.length : Int) then
       iterC (b77_1 a0_0 a0_1 a0_2 a0_3 a2 v2) 1000000000 (0, v1.set 0 (IntKind.i64.wrap ((v1.getD 0 default) - v2)))
       else none
      else none
    else none
def T77 : TSpec (Int × Int × (List (Int × Int)) × (List ((List (Int × Int)))) × (List (Int)) × (List (Int)) × Int) where
  enc x := [.agg [.int .i64 x.1, .int .i64 x.2.1, encF 2 d_II x.2.2.1, encF 1 d_LIIE x.2.2.2.1], .c (encF 1 d_I x.2.2.2.2.1), .c (encF 1 d_I x.2.2.2.2.2.1), .c (.int .i64 x.2.2.2.2.2.2)]
  dec a := (dInt (aCell a 0 0), dInt (aCell a 0 1), decF g_II (aCell a 0 2), decF g_LIIE (aCell a 0 3), decF g_I (aCell a 1 0), decF g_I (aCell a 2 0), dInt (aCell a 3 0))
  pre x := (r77 x.1 x.2.1 x.2.2.1 x.2.2.2.1 x.2.2.2.2.1 x.2.2.2.2.2.1 x.2.2.2.2.2.2).isSome = true
  res x := [.c (.own (encF 1 d_I (((r77 x.1 x.2.1 x.2.2.1 x.2.2.2.1 x.2.2.2.2.1 x.2.2.2.2.2.1 x.2.2.2.2.2.2).getD default).1))), .c (.d (.int .i64 (((r77 x.1 x.2.1 x.2.2.1 x.2.2.2.1 x.2.2.2.2.1 x.2.2.2.2.2.1 x.2.2.2.2.2.2).getD default).2.1))), .c (.d (.bool (((r77 x.1 x.2.1 x.2.2.1 x.2.2.2.1 x.2.2.2.2.1 x.2.2.2.2.2.1 x.2.2.2.2.2.2).getD default).2.2)))]
  al := false
def tb77 : Fns := lk [(73, T73.sp), (98, T98.sp), (99, T99.sp)]
theorem tb77_ok : FnsOk Tryz.prog tb77 := .cons f73 (.cons f98 (.cons f99 (FnsOk.nil)))
theorem tb77_73 : tb77 73 = some T73.sp := rfl
theorem tb77_98 : tb77 98 = some T98.sp := rfl
theorem tb77_99 : tb77 99 = some T99.sp := rfl
theorem v77 : Valid Tryz.prog 77 T77.sp := by
  refine valid_t (fn := Tryz.f77) (n := 64) ty_ok tb77_ok Tryz.func77 rfl Tryz.ntmps77 ?_
  rintro ⟨a0_0, a0_1, a0_2, a0_3, a1, a2, a3⟩ hx
  obtain ⟨r, hr⟩ := Option.isSome_iff_exists.1 (show (r77 a0_0 a0_1 a0_2 a0_3 a1 a2 a3).isSome = true from hx)
  have hres : T77.res (a0_0, a0_1, a0_2, a0_3, a1, a2, a3) = [.c (.own (encF 1 d_I r.1)), .c (.d (.int .i64 r.2.1)), .c (.d (.bool r.2.2))] := by simp only [T77, hr, Option.getD_some]
  refine ⟨Nat.le_of_ble_eq_true rfl, fun stop S => ?_⟩
  rw [hres] at S
  unfold r77 at hr
  refine S.goB [] 1000 ?_
  simp (maxSteps := 10000000) only [go_sem, tb77_73, T73, tb77_98, T98, tb77_99, T99, T77, Option.map_some, Int.reduceToNat, Nat.reduceEqDiff, Nat.reduceLT, Nat.reduceAdd, Nat.reduceMul, Nat.reduceSub, Nat.reduceLeDiff, reduceIte, reduceCtorEq, Tryz.results77]
  obtain ⟨v1, hv1, hr⟩ := of_bind0 hr
  obtain ⟨hg8, hr⟩ := of_guard0 hr
  obtain ⟨v2, hv2, hr⟩ := of_bind0 hr
  obtain ⟨hg9, hr⟩ := of_guard0 hr
  obtain ⟨hg10, hr⟩ := of_guard0 hr
  try simp only [hv1, hv2, Option.getD_some, Option.isSome_some, true_and, and_assoc]
  repeat refine gA ?_
  refine S.sees [2, 4, 11, 12, 13] [(4, 4)] [(17, 17)] ?_ (Stop.iter S (fun s1 => ⟨[(2, .c (.d (encF 1 d_I a2))), (4, .c (.ref 4 0)), (11, .c (.own 17)), (12, .c (.d (.int .i64 v2))), (13, .c (.d (.int .i64 s1.1)))], [(4, [.d (.int .i64 a0_0), .d (.int .i64 a0_1), .d (encF 2 d_II a0_2), .d (encF 1 d_LIIE a0_3)])], [(17, .owned (encF 1 d_I s1.2))]⟩) (b77_1 a0_0 a0_1 a0_2 a0_3 a2 v2) (fun q => q = r) hr rfl ?_)
  · (simp (maxDischargeDepth := 8) [go_sem])
  · intro s1 hr
    unfold b77_1 at hr
    refine S.goB [] 1000 ?_
    simp (maxSteps := 10000000) only [go_sem, tb77_73, T73, tb77_98, T98, tb77_99, T99, T77, Option.map_some, Int.reduceToNat, Nat.reduceEqDiff, Nat.reduceLT, Nat.reduceAdd, Nat.reduceMul, Nat.reduceSub, Nat.reduceLeDiff, reduceIte, reduceCtorEq, Tryz.results77]
    repeat refine gA ?_
    refine ⟨fun hc => ?_, fun hc => ?_⟩
    · replace hr := ifP1 hr hc
      obtain ⟨hg3, hr⟩ := of_guard1 hr
      obtain ⟨hg4, hr⟩ := of_guard1 hr
      obtain ⟨hg5, hr⟩ := of_guard1 hr
      repeat refine gA ?_
      refine S.sees [2, 4, 11, 12, 13] [(4, 4)] [(17, 17)] ?_ hr
      (simp (maxDischargeDepth := 8) [go_sem])
    · replace hr := ifN1 hr hc
      repeat refine gA ?_
      have hr := of_out0 hr
      repeat refine gA ?_
      refine S.sees [4, 11, 12, 14] [(4, 4)] [(17, 17)] ?_ (Stop.iter S (fun s2 => ⟨[(4, .c (.ref 4 0)), (11, .c (.own 17)), (12, .c (.d (.int .i64 v2))), (14, .c (.d (.int .i64 s2)))], [(4, [.d (.int .i64 a0_0), .d (.int .i64 a0_1), .d (encF 2 d_II a0_2), .d (encF 1 d_LIIE a0_3)])], [(17, .owned (encF 1 d_I s1.2))]⟩) (b77_2 a0_0 a0_1 a0_2 a0_3 v2 s1) (fun q => q = r) hr rfl ?_)
      · (simp (maxDischargeDepth := 8) [go_sem])
      · intro s2 hr
        unfold b77_2 at hr
        refine S.goB [] 1000 ?_
        simp (maxSteps := 10000000) only [go_sem, tb77_73, T73, tb77_98, T98, tb77_99, T99, T77, Option.map_some, Int.reduceToNat, Nat.reduceEqDiff, Nat.reduceLT, Nat.reduceAdd, Nat.reduceMul, Nat.reduceSub, Nat.reduceLeDiff, reduceIte, reduceCtorEq, Tryz.results77]
        repeat refine gA ?_
        refine ⟨fun hc => ?_, fun hc => ?_⟩
        · replace hr := ifP1 hr hc
          obtain ⟨hg7, hr⟩ := of_guard1 hr
          obtain ⟨v6, hv6, hr⟩ := of_bind1 hr
          try simp only [hv6, Option.getD_some, Option.isSome_some, true_and, and_assoc]
          repeat refine gA ?_
          refine ⟨fun hc => ?_, fun hc => ?_⟩
          · replace hr := ifP1 hr hc
            repeat refine gA ?_
            have hr := of_out0 hr
            obtain rfl := Option.some.inj hr
            (simp (maxDischargeDepth := 8) [go_sem])
          · replace hr := ifN1 hr hc
            repeat refine gA ?_
            refine S.sees [4, 11, 12, 14] [(4, 4)] [(17, 17)] ?_ hr
            (simp (maxDischargeDepth := 8) [go_sem])
        · replace hr := ifN1 hr hc
          repeat refine gA ?_
          have hr := of_out0 hr
          repeat refine gA ?_
          obtain rfl := Option.some.inj hr
          (simp (maxDischargeDepth := 8) [go_sem])
theorem f77 : FnFact Tryz.prog 77 T77.sp := ⟨⟨Tryz.f77, Tryz.func77, by decide, rfl⟩, v77⟩

/- martensite/martensiteref03.BoxStep -/
def r52 (a0_0 : Int) (a0_1 : Int) (a0_2 : List (Int × Int)) (a0_3 : List ((List (Int × Int)))) (a1_0 : List (Int)) (a1_1 : List (Int)) (a2_0 : List (Int × Int)) (a2_1 : Int) (a2_2 : Int) : Option ((List (Int)) × (List (Int)) × Bool) :=
  (r78 a2_0 false).bind fun v1 =>
   (r77 a0_0 a0_1 a0_2 a0_3 a1_0 v1 a2_2).bind fun v2 =>
    (r78 a2_0 true).bind fun v3 =>
     (r77 a0_0 a0_1 a0_2 a0_3 a1_1 v3 a2_1).bind fun v4 =>
      if ((!v2.2.2) || (!v4.2.2)) = true then
       some ([], [], false)
       else some (v2.1, v4.1, true)
def T52 : TSpec (Int × Int × (List (Int × Int)) × (List ((List (Int × Int)))) × (List (Int)) × (List (Int)) × (List (Int × Int)) × Int × Int) where
  enc x := [.agg [.int .i64 x.1, .int .i64 x.2.1, encF 2 d_II x.2.2.1, encF 1 d_LIIE x.2.2.2.1], .agg [encF 1 d_I x.2.2.2.2.1, encF 1 d_I x.2.2.2.2.2.1], .agg [encF 2 d_II x.2.2.2.2.2.2.1, .int .i64 x.2.2.2.2.2.2.2.1, .int .i64 x.2.2.2.2.2.2.2.2]]
  dec a := (dInt (aCell a 0 0), dInt (aCell a 0 1), decF g_II (aCell a 0 2), decF g_LIIE (aCell a 0 3), decF g_I (aCell a 1 0), decF g_I (aCell a 1 1), decF g_II (aCell a 2 0), dInt (aCell a 2 1), dInt (aCell a 2 2))
  pre x := (r52 x.1 x.2.1 x.2.2.1 x.2.2.2.1 x.2.2.2.2.1 x.2.2.2.2.2.1 x.2.2.2.2.2.2.1 x.2.2.2.2.2.2.2.1 x.2.2.2.2.2.2.2.2).isSome = true
  res x := [.agg [.own (encF 1 d_I (((r52 x.1 x.2.1 x.2.2.1 x.2.2.2.1 x.2.2.2.2.1 x.2.2.2.2.2.1 x.2.2.2.2.2.2.1 x.2.2.2.2.2.2.2.1 x.2.2.2.2.2.2.2.2).getD default).1)), .own (encF 1 d_I (((r52 x.1 x.2.1 x.2.2.1 x.2.2.2.1 x.2.2.2.2.1 x.2.2.2.2.2.1 x.2.2.2.2.2.2.1 x.2.2.2.2.2.2.2.1 x.2.2.2.2.2.2.2.2).getD default).2.1))], .c (.d (.bool (((r52 x.1 x.2.1 x.2.2.1 x.2.2.2.1 x.2.2.2.2.1 x.2.2.2.2.2.1 x.2.2.2.2.2.2.1 x.2.2.2.2.2.2.2.1 x.2.2.2.2.2.2.2.2).getD default).2.2)))]
  al := false
def tb52 : Fns := lk [(77, T77.sp), (78, T78.sp)]
theorem tb52_ok : FnsOk Tryz.prog tb52 := .cons f77 (.cons f78 (FnsOk.nil))
theorem tb52_77 : tb52 77 = some T77.sp := rfl
theorem tb52_78 : tb52 78 = some T78.sp := rfl
theorem v52 : Valid Tryz.prog 52 T52.sp := by
  refine valid_t (fn := Tryz.f52) (n := 52) ty_ok tb52_ok Tryz.func52 rfl Tryz.ntmps52 ?_
  rintro ⟨a0_0, a0_1, a0_2, a0_3, a1_0, a1_1, a2_0, a2_1, a2_2⟩ hx
  obtain ⟨r, hr⟩ := Option.isSome_iff_exists.1 (show (r52 a0_0 a0_1 a0_2 a0_3 a1_0 a1_1 a2_0 a2_1 a2_2).isSome = true from hx)
  have hres : T52.res (a0_0, a0_1, a0_2, a0_3, a1_0, a1_1, a2_0, a2_1, a2_2) = [.agg [.own (encF 1 d_I r.1), .own (encF 1 d_I r.2.1)], .c (.d (.bool r.2.2))] := by simp only [T52, hr, Option.getD_some]
  refine ⟨Nat.le_of_ble_eq_true rfl, fun stop S => ?_⟩
  rw [hres] at S
  unfold r52 at hr
  refine S.goB [] 1000 ?_
  simp (maxSteps := 10000000) only [go_sem, tb52_77, T77, tb52_78, T78, T52, Option.map_some, Int.reduceToNat, Nat.reduceEqDiff, Nat.reduceLT, Nat.reduceAdd, Nat.reduceMul, Nat.reduceSub, Nat.reduceLeDiff, reduceIte, reduceCtorEq, Tryz.results52]
  obtain ⟨v1, hv1, hr⟩ := of_bind0 hr
  obtain ⟨v2, hv2, hr⟩ := of_bind0 hr
  obtain ⟨v3, hv3, hr⟩ := of_bind0 hr
  obtain ⟨v4, hv4, hr⟩ := of_bind0 hr
  try simp only [hv1, hv2, hv3, hv4, Option.getD_some, Option.isSome_some, true_and, and_assoc]
  repeat (first | refine gA ?_ | refine gB ?_)
  refine ⟨fun hc => ?_, fun hc => ?_⟩
  · replace hr := ifP hr hc
    repeat refine gA ?_
    obtain rfl := Option.some.inj hr
    (simp (maxDischargeDepth := 8) [go_sem])
  · replace hr := ifN hr hc
    repeat refine gA ?_
    obtain rfl := Option.some.inj hr
    (simp (maxDischargeDepth := 8) [go_sem])
theorem f52 : FnFact Tryz.prog 52 T52.sp := ⟨⟨Tryz.f52, Tryz.func52, by decide, rfl⟩, v52⟩

/- martensite/martensiteref03.BoxRun -/
def b49_1 (a0_0 : Int) (a0_1 : Int) (a0_2 : List (Int × Int)) (a0_3 : List ((List (Int × Int)))) (a2 : List ((List (Int × Int)) × Int × Int)) : ((List ((List (Int)) × (List (Int)))) × Int × (List (Int)) × (List (Int))) → Ctl ((List ((List (Int)) × (List (Int)))) × Int × (List (Int)) × (List (Int))) ((List ((List (Int)) × (List (Int)))) × Bool) := fun s1 =>
  if (decide (s1.2.1 < (a2.length : Int))) = true then
   if 0 ≤ s1.2.1 ∧ s1.2.1 < (a2.length : Int) then
    bindC (r52 a0_0 a0_1 a0_2 a0_3 s1.2.2.1 s1.2.2.2 ((a2.getD s1.2.1.toNat default).1) ((a2.getD s1.2.1.toNat default).2.1) ((a2.getD s1.2.1.toNat default).2.2)) fun v1 =>
     if (!v1.2.2) = true then
      .out (some ([], false))
      else if (s1.1.length + 1) * 48 ≤ 140737488355328 ∧ s1.1.length + 1 ≤ 9223372036854775807 then
       .next (s1.1 ++ [(v1.1, v1.2.1)], IntKind.i64.wrap (s1.2.1 + 1), v1.1, v1.2.1)
       else .out none
    else .out none
   else .out (some (s1.1, true))
def r49 (a0_0 : Int) (a0_1 : Int) (a0_2 : List (Int × Int)) (a0_3 : List ((List (Int × Int)))) (a1_0 : List (Int)) (a1_1 : List (Int)) (a2 : List ((List (Int × Int)) × Int × Int)) : Option ((List ((List (Int)) × (List (Int)))) × Bool) :=
  iterC (b49_1 a0_0 a0_1 a0_2 a0_3 a2) 1000000000 ([], 0, a1_0, a1_1)
def T49 : TSpec (Int × Int × (List (Int × Int)) × (List ((List (Int × Int)))) × (List (Int)) × (List (Int)) × (List ((List (Int × Int)) × Int × Int))) where
  enc x := [.agg [.int .i64 x.1, .int .i64 x.2.1, encF 2 d_II x.2.2.1, encF 1 d_LIIE x.2.2.2.1], .agg [encF 1 d_I x.2.2.2.2.1, encF 1 d_I x.2.2.2.2.2.1], .c (encF 3 d_LIIEII x.2.2.2.2.2.2)]
  dec a := (dInt (aCell a 0 0), dInt (aCell a 0 1), decF g_II (aCell a 0 2), decF g_LIIE (aCell a 0 3), decF g_I (aCell a 1 0), decF g_I (aCell a 1 1), decF g_LIIEII (aCell a 2 0))
  pre x := (r49 x.1 x.2.1 x.2.2.1 x.2.2.2.1 x.2.2.2.2.1 x.2.2.2.2.2.1 x.2.2.2.2.2.2).isSome = true
  res x := [.c (.own (encF 2 d_LIELIE (((r49 x.1 x.2.1 x.2.2.1 x.2.2.2.1 x.2.2.2.2.1 x.2.2.2.2.2.1 x.2.2.2.2.2.2).getD default).1))), .c (.d (.bool (((r49 x.1 x.2.1 x.2.2.1 x.2.2.2.1 x.2.2.2.2.1 x.2.2.2.2.2.1 x.2.2.2.2.2.2).getD default).2)))]
  al := true
def tb49 : Fns := lk [(52, T52.sp)]
theorem tb49_ok : FnsOk Tryz.prog tb49 := .cons f52 (FnsOk.nil)
theorem tb49_52 : tb49 52 = some T52.sp := rfl
theorem v49 : Valid Tryz.prog 49 T49.sp := by
  refine valid_t (fn := Tryz.f49) (n := 36) ty_ok tb49_ok Tryz.func49 rfl Tryz.ntmps49 ?_
  rintro ⟨a0_0, a0_1, a0_2, a0_3, a1_0, a1_1, a2⟩ hx
  obtain ⟨r, hr⟩ := Option.isSome_iff_exists.1 (show (r49 a0_0 a0_1 a0_2 a0_3 a1_0 a1_1 a2).isSome = true from hx)
  have hres : T49.res (a0_0, a0_1, a0_2, a0_3, a1_0, a1_1, a2) = [.c (.own (encF 2 d_LIELIE r.1)), .c (.d (.bool r.2))] := by simp only [T49, hr, Option.getD_some]
  refine ⟨Nat.le_of_ble_eq_true rfl, fun stop S => ?_⟩
  rw [hres] at S
  unfold r49 at hr
  refine S.goB [] 1000 ?_
  simp (maxSteps := 10000000) only [go_sem, tb49_52, T52, T49, Option.map_some, Int.reduceToNat, Nat.reduceEqDiff, Nat.reduceLT, Nat.reduceAdd, Nat.reduceMul, Nat.reduceSub, Nat.reduceLeDiff, reduceIte, reduceCtorEq, Tryz.results49]
  repeat refine gA ?_
  refine S.own0 8 1000800 2 rfl rfl ?_
  refine S.sees [2, 3, 4, 8, 9] [(3, 3), (4, 4)] [(1000800, 1000800)] ?_ (Stop.iter S (fun s1 => ⟨[(2, .c (.d (encF 3 d_LIIEII a2))), (3, .c (.ref 3 0)), (4, .c (.ref 4 0)), (8, .c (.own 1000800)), (9, .c (.d (.int .i64 s1.2.1)))], [(3, [.d (.int .i64 a0_0), .d (.int .i64 a0_1), .d (encF 2 d_II a0_2), .d (encF 1 d_LIIE a0_3)]), (4, [.d (encF 1 d_I s1.2.2.1), .d (encF 1 d_I s1.2.2.2)])], [(1000800, .owned (encF 2 d_LIELIE s1.1))]⟩) (b49_1 a0_0 a0_1 a0_2 a0_3 a2) (fun q => q = r) hr rfl ?_)
  · (simp (maxDischargeDepth := 8) [go_sem])
  · intro s1 hr
    unfold b49_1 at hr
    refine S.goB [] 1000 ?_
    simp (maxSteps := 10000000) only [go_sem, tb49_52, T52, T49, Option.map_some, Int.reduceToNat, Nat.reduceEqDiff, Nat.reduceLT, Nat.reduceAdd, Nat.reduceMul, Nat.reduceSub, Nat.reduceLeDiff, reduceIte, reduceCtorEq, Tryz.results49]
    repeat refine gA ?_
    refine ⟨fun hc => ?_, fun hc => ?_⟩
    · replace hr := ifP1 hr hc
      obtain ⟨hg3, hr⟩ := of_guard1 hr
      obtain ⟨v1, hv1, hr⟩ := of_bind1 hr
      try simp only [hv1, Option.getD_some, Option.isSome_some, true_and, and_assoc]
      repeat refine gA ?_
      refine ⟨fun hc => ?_, fun hc => ?_⟩
      · replace hr := ifP1 hr hc
        repeat refine gA ?_
        have hr := of_out0 hr
        obtain rfl := Option.some.inj hr
        (simp (maxDischargeDepth := 8) [go_sem])
      · replace hr := ifN1 hr hc
        obtain ⟨hg2, hr⟩ := of_guard1 hr
        repeat refine gA ?_
        refine S.sees [2, 3, 4, 8, 9] [(3, 3), (4, 4)] [(33, 1000800)] ?_ hr
        (simp (maxDischargeDepth := 8) [go_sem])
    · replace hr := ifN1 hr hc
      repeat refine gA ?_
      have hr := of_out0 hr
      repeat refine gA ?_
      obtain rfl := Option.some.inj hr
      (simp (maxDischargeDepth := 8) [go_sem])
theorem f49 : FnFact Tryz.prog 49 T49.sp := ⟨⟨Tryz.f49, Tryz.func49, by decide, rfl⟩, v49⟩

/- martensite/martensiteref03.maxima -/
def b50_1 (a0 : List (Int)) (a1 : List (Int)) : ((List (Int)) × Int) → Ctl ((List (Int)) × Int) ((List (Int))) := fun s1 =>
  if (decide (s1.2 < (a0.length : Int))) = true then
   if 0 ≤ s1.2 ∧ s1.2 < (a0.length : Int) then
    if 0 ≤ s1.2 ∧ s1.2 < (a1.length : Int) then
     if (s1.1.length + 1) * 8 ≤ 140737488355328 ∧ s1.1.length + 1 ≤ 9223372036854775807 then
      .next (s1.1 ++ [if (a0.getD s1.2.toNat default) < (a1.getD s1.2.toNat default) then (a1.getD s1.2.toNat default) else (a0.getD s1.2.toNat default)], IntKind.i64.wrap (s1.2 + 1))
      else .out none
     else .out none
    else .out none
   else .out (some s1.1)
def r50 (a0 : List (Int)) (a1 : List (Int)) : Option ((List (Int))) :=
  iterC (b50_1 a0 a1) 1000000000 ([], 0)
def T50 : TSpec ((List (Int)) × (List (Int))) where
  enc x := [.c (encF 1 d_I x.1), .c (encF 1 d_I x.2)]
  dec a := (decF g_I (aCell a 0 0), decF g_I (aCell a 1 0))
  pre x := (r50 x.1 x.2).isSome = true
  res x := [.c (.own (encF 1 d_I ((r50 x.1 x.2).getD default)))]
  al := false
def tb50 : Fns := lk []
theorem tb50_ok : FnsOk Tryz.prog tb50 := FnsOk.nil
theorem v50 : Valid Tryz.prog 50 T50.sp := by
  refine valid_t (fn := Tryz.f50) (n := 26) ty_ok tb50_ok Tryz.func50 rfl Tryz.ntmps50 ?_
  rintro ⟨a0, a1⟩ hx
  obtain ⟨r, hr⟩ := Option.isSome_iff_exists.1 (show (r50 a0 a1).isSome = true from hx)
  have hres : T50.res (a0, a1) = [.c (.own (encF 1 d_I r))] := by simp only [T50, hr, Option.getD_some]
  refine ⟨Nat.le_of_ble_eq_true rfl, fun stop S => ?_⟩
  rw [hres] at S
  unfold r50 at hr
  refine S.goB [] 1000 ?_
  simp (maxSteps := 10000000) only [go_sem, T50, Option.map_some, Int.reduceToNat, Nat.reduceEqDiff, Nat.reduceLT, Nat.reduceAdd, Nat.reduceMul, Nat.reduceSub, Nat.reduceLeDiff, reduceIte, reduceCtorEq, Tryz.results50]
  repeat refine gA ?_
  refine S.own0 5 1000500 1 rfl rfl ?_
  refine S.sees [0, 1, 5, 6] [] [(1000500, 1000500)] ?_ (Stop.iter S (fun s1 => ⟨[(0, .c (.d (encF 1 d_I a0))), (1, .c (.d (encF 1 d_I a1))), (5, .c (.own 1000500)), (6, .c (.d (.int .i64 s1.2)))], [], [(1000500, .owned (encF 1 d_I s1.1))]⟩) (b50_1 a0 a1) (fun q => q = r) hr rfl ?_)
  · (simp (maxDischargeDepth := 8) [go_sem])
  · intro s1 hr
    unfold b50_1 at hr
    refine S.goB [] 1000 ?_
    simp (maxSteps := 10000000) only [go_sem, T50, Option.map_some, Int.reduceToNat, Nat.reduceEqDiff, Nat.reduceLT, Nat.reduceAdd, Nat.reduceMul, Nat.reduceSub, Nat.reduceLeDiff, reduceIte, reduceCtorEq, Tryz.results50]
    repeat refine gA ?_
    refine ⟨fun hc => ?_, fun hc => ?_⟩
    · replace hr := ifP1 hr hc
      obtain ⟨hg1, hr⟩ := of_guard1 hr
      obtain ⟨hg2, hr⟩ := of_guard1 hr
      obtain ⟨hg3, hr⟩ := of_guard1 hr
      repeat refine gA ?_
      refine S.sees [0, 1, 5, 6] [] [(24, 1000500)] ?_ hr
      (simp (maxDischargeDepth := 8) [go_sem])
    · replace hr := ifN1 hr hc
      repeat refine gA ?_
      have hr := of_out0 hr
      repeat refine gA ?_
      obtain rfl := Option.some.inj hr
      (simp (maxDischargeDepth := 8) [go_sem])
theorem f50 : FnFact Tryz.prog 50 T50.sp := ⟨⟨Tryz.f50, Tryz.func50, by decide, rfl⟩, v50⟩
end Go.Proofs.YtcbiiijnaeibhaaGreat

/- Contracts of functions, written by wip/dec. -/
import Derived.Test.YtcbiiijnaeibhaaF00
import Derived.Test.YtcbiiijnaeibhaaF01
import Derived.Test.YtcbiiijnaeibhaaF02
import Derived.Test.YtcbiiijnaeibhaaF12
set_option linter.unusedVariables false
set_option linter.unusedSimpArgs false
set_option maxHeartbeats 4000000
set_option maxRecDepth 20000
namespace Go.Proofs.Ytcbiiijnaeibhaa
open Go.Abs
/- martensite/heat.divisor -/
def b122_1 : (Int × Int) → Ctl (Int × Int) (Int) := fun s1 =>
  if (s1.2 != 0) = true then
   if s1.2 ≠ 0 then
    .next (s1.2, s1.1.tmod s1.2)
    else .out none
   else .out (some (if s1.1 < IntKind.i64.wrap (0 - s1.1) then IntKind.i64.wrap (0 - s1.1) else s1.1))
def r122 (a0 : Int) (a1 : Int) : Option (Int) :=
  iterC (b122_1) 1000000000 (a0, a1)
def T122 : TSpec (Int × Int) where
  enc x := [.c (.int .i64 x.1), .c (.int .i64 x.2)]
  dec a := (dInt (aCell a 0 0), dInt (aCell a 1 0))
  pre x := (r122 x.1 x.2).isSome = true
  res x := [.c (.d (.int .i64 ((r122 x.1 x.2).getD default)))]
  al := false
def tb122 : Fns := lk []
theorem tb122_ok : FnsOk Try.prog tb122 := FnsOk.nil
theorem v122 : Valid Try.prog 122 T122.sp := by
  refine valid_t (fn := Try.f122) (n := 15) ty_ok tb122_ok Try.func122 rfl Try.ntmps122 ?_
  rintro ⟨a0, a1⟩ hx
  obtain ⟨r, hr⟩ := Option.isSome_iff_exists.1 (show (r122 a0 a1).isSome = true from hx)
  have hres : T122.res (a0, a1) = [.c (.d (.int .i64 r))] := by simp only [T122, hr, Option.getD_some]
  refine ⟨Nat.le_of_ble_eq_true rfl, fun stop S => ?_⟩
  rw [hres] at S
  unfold r122 at hr
  refine S.goB [] 1000 ?_
  simp (maxSteps := 10000000) only [go_sem, T122, Option.map_some, Int.reduceToNat, Nat.reduceEqDiff, Nat.reduceLT, Nat.reduceAdd, Nat.reduceMul, Nat.reduceSub, Nat.reduceLeDiff, reduceIte, reduceCtorEq, Try.results122]
  repeat (refine And.intro ?_ ?_; focus (first | assumption | decide +kernel | (show _ ≠ _; omega) | ((fail_if_success intro _); omega) | (show Eqv _ _; (simp (maxDischargeDepth := 8) [go_sem]))))
  refine S.sees [0, 1] [] [] ?_ (Stop.iter S (fun s1 => ⟨[(0, .c (.d (.int .i64 s1.1))), (1, .c (.d (.int .i64 s1.2)))], [], []⟩) (b122_1) (fun q => q = r) hr rfl ?_)
  · (simp (maxDischargeDepth := 8) [go_sem])
  · intro s1 hr
    unfold b122_1 at hr
    refine S.goB [] 1000 ?_
    simp (maxSteps := 10000000) only [go_sem, T122, Option.map_some, Int.reduceToNat, Nat.reduceEqDiff, Nat.reduceLT, Nat.reduceAdd, Nat.reduceMul, Nat.reduceSub, Nat.reduceLeDiff, reduceIte, reduceCtorEq, Try.results122]
    repeat (refine And.intro ?_ ?_; focus (first | assumption | decide +kernel | (show _ ≠ _; omega) | ((fail_if_success intro _); omega) | (show Eqv _ _; (simp (maxDischargeDepth := 8) [go_sem]))))
    refine ⟨fun hc => ?_, fun hc => ?_⟩
    · rw [if_pos (by first | exact hc | (rw [hc]; rfl) | simpa using hc | (simp at hc ⊢; omega) | simp_all)] at hr
      obtain ⟨hg1, hr⟩ := of_guard1 hr
      repeat (refine And.intro ?_ ?_; focus (first | assumption | decide +kernel | (show _ ≠ _; omega) | ((fail_if_success intro _); omega) | (show Eqv _ _; (simp (maxDischargeDepth := 8) [go_sem]))))
      refine S.sees [0, 1] [] [] ?_ hr
      (simp (maxDischargeDepth := 8) [go_sem])
    · rw [if_neg (by first | exact hc | (rw [hc]; rfl) | simpa using hc | (simp at hc ⊢; omega) | simp_all)] at hr
      repeat (refine And.intro ?_ ?_; focus (first | assumption | decide +kernel | (show _ ≠ _; omega) | ((fail_if_success intro _); omega) | (show Eqv _ _; (simp (maxDischargeDepth := 8) [go_sem]))))
      have hr := of_out0 hr
      repeat (refine And.intro ?_ ?_; focus (first | assumption | decide +kernel | (show _ ≠ _; omega) | ((fail_if_success intro _); omega) | (show Eqv _ _; (simp (maxDischargeDepth := 8) [go_sem]))))
      obtain rfl := Option.some.inj hr
      (simp (maxDischargeDepth := 8) [go_sem])
theorem f122 : FnFact Try.prog 122 T122.sp := ⟨⟨Try.f122, Try.func122, by decide, rfl⟩, v122⟩

/- martensite/heat.KelvinAt -/
def r53 (a0_0 : Int) (a0_1 : Int) (a0_2 : List (Int × Int)) (a0_3 : List ((List (Int × Int)))) (a1 : Int) : Option (Int × Int × Int) :=
  (r101 a0_0 a0_1 a0_2 a0_3).bind fun v1 =>
   if (v1.2.2.2.2.2.2 == 0) = true then
    (r120 v1.1 v1.2.1 v1.2.2.1 v1.2.2.2.1 v1.2.2.2.2.1 v1.2.2.2.2.2.1 a1).bind fun v2 =>
     (r94 v2 2).bind fun v3 =>
      if (v3 != 0) = true then
       some (0, 0, v3)
       else (r121 v1.1 v1.2.1 v1.2.2.1 v1.2.2.2.1 v1.2.2.2.2.1 v1.2.2.2.2.2.1 a1).bind fun v4 =>
        (r122 v4.1 v4.2).bind fun v5 =>
         if v5 ≠ 0 then
          if v5 ≠ 0 then
           some (IntKind.i64.wrap (v4.1.tdiv v5), IntKind.i64.wrap (v4.2.tdiv v5), 0)
           else none
          else none
    else if (v1.2.2.2.2.2.2 != 0) = true then
     some (0, 0, v1.2.2.2.2.2.2)
     else (r121 v1.1 v1.2.1 v1.2.2.1 v1.2.2.2.1 v1.2.2.2.2.1 v1.2.2.2.2.2.1 a1).bind fun v8 =>
      (r122 v8.1 v8.2).bind fun v9 =>
       if v9 ≠ 0 then
        if v9 ≠ 0 then
         some (IntKind.i64.wrap (v8.1.tdiv v9), IntKind.i64.wrap (v8.2.tdiv v9), 0)
         else none
        else none
def T53 : TSpec (Int × Int × (List (Int × Int)) × (List ((List (Int × Int)))) × Int) where
  enc x := [.agg [.int .i64 x.1, .int .i64 x.2.1, encF 2 d_II x.2.2.1, encF 1 d_LIIE x.2.2.2.1], .c (.int .i64 x.2.2.2.2)]
  dec a := (dInt (aCell a 0 0), dInt (aCell a 0 1), decF g_II (aCell a 0 2), decF g_LIIE (aCell a 0 3), dInt (aCell a 1 0))
  pre x := (r53 x.1 x.2.1 x.2.2.1 x.2.2.2.1 x.2.2.2.2).isSome = true
  res x := [.agg [.d (.int .i64 (((r53 x.1 x.2.1 x.2.2.1 x.2.2.2.1 x.2.2.2.2).getD default).1)), .d (.int .i64 (((r53 x.1 x.2.1 x.2.2.1 x.2.2.2.1 x.2.2.2.2).getD default).2.1))], .c (.d (.int .i64 (((r53 x.1 x.2.1 x.2.2.1 x.2.2.2.1 x.2.2.2.2).getD default).2.2)))]
  al := false
def tb53 : Fns := lk [(94, T94.sp), (101, T101.sp), (120, T120.sp), (121, T121.sp), (122, T122.sp)]
theorem tb53_ok : FnsOk Try.prog tb53 := .cons f94 (.cons f101 (.cons f120 (.cons f121 (.cons f122 (FnsOk.nil)))))
theorem tb53_94 : tb53 94 = some T94.sp := rfl
theorem tb53_101 : tb53 101 = some T101.sp := rfl
theorem tb53_120 : tb53 120 = some T120.sp := rfl
theorem tb53_121 : tb53 121 = some T121.sp := rfl
theorem tb53_122 : tb53 122 = some T122.sp := rfl
theorem v53 : Valid Try.prog 53 T53.sp := by
  refine valid_t (fn := Try.f53) (n := 42) ty_ok tb53_ok Try.func53 rfl Try.ntmps53 ?_
  rintro ⟨a0_0, a0_1, a0_2, a0_3, a1⟩ hx
  obtain ⟨r, hr⟩ := Option.isSome_iff_exists.1 (show (r53 a0_0 a0_1 a0_2 a0_3 a1).isSome = true from hx)
  have hres : T53.res (a0_0, a0_1, a0_2, a0_3, a1) = [.agg [.d (.int .i64 r.1), .d (.int .i64 r.2.1)], .c (.d (.int .i64 r.2.2))] := by simp only [T53, hr, Option.getD_some]
  refine ⟨Nat.le_of_ble_eq_true rfl, fun stop S => ?_⟩
  rw [hres] at S
  unfold r53 at hr
  refine S.goB [] 1000 ?_
  simp (maxSteps := 10000000) only [go_sem, tb53_94, T94, tb53_101, T101, tb53_120, T120, tb53_121, T121, tb53_122, T122, T53, Option.map_some, Int.reduceToNat, Nat.reduceEqDiff, Nat.reduceLT, Nat.reduceAdd, Nat.reduceMul, Nat.reduceSub, Nat.reduceLeDiff, reduceIte, reduceCtorEq, Try.results53]
  obtain ⟨v1, hv1, hr⟩ := of_bind0 hr
  try simp only [hv1, Option.getD_some, Option.isSome_some, true_and, and_assoc]
  repeat (refine And.intro ?_ ?_; focus (first | assumption | decide +kernel | (show _ ≠ _; omega) | ((fail_if_success intro _); omega) | (show Eqv _ _; (simp (maxDischargeDepth := 8) [go_sem]))))
  refine ⟨fun hc => ?_, fun hc => ?_⟩
  · rw [if_pos (by first | exact hc | (rw [hc]; rfl) | simpa using hc | (simp at hc ⊢; omega) | simp_all)] at hr
    obtain ⟨v2, hv2, hr⟩ := of_bind0 hr
    obtain ⟨v3, hv3, hr⟩ := of_bind0 hr
    try simp only [hv2, hv3, Option.getD_some, Option.isSome_some, true_and, and_assoc]
    repeat (refine And.intro ?_ ?_; focus (first | assumption | decide +kernel | (show _ ≠ _; omega) | ((fail_if_success intro _); omega) | (show Eqv _ _; (simp (maxDischargeDepth := 8) [go_sem]))))
    refine ⟨fun hc => ?_, fun hc => ?_⟩
    · rw [if_pos (by first | exact hc | (rw [hc]; rfl) | simpa using hc | (simp at hc ⊢; omega) | simp_all)] at hr
      repeat (refine And.intro ?_ ?_; focus (first | assumption | decide +kernel | (show _ ≠ _; omega) | ((fail_if_success intro _); omega) | (show Eqv _ _; (simp (maxDischargeDepth := 8) [go_sem]))))
      obtain rfl := Option.some.inj hr
      (simp (maxDischargeDepth := 8) [go_sem])
    · rw [if_neg (by first | exact hc | (rw [hc]; rfl) | simpa using hc | (simp at hc ⊢; omega) | simp_all)] at hr
      obtain ⟨v4, hv4, hr⟩ := of_bind0 hr
      obtain ⟨v5, hv5, hr⟩ := of_bind0 hr
      obtain ⟨hg6, hr⟩ := of_guard0 hr
      obtain ⟨hg7, hr⟩ := of_guard0 hr
      try simp only [hv4, hv5, Option.getD_some, Option.isSome_some, true_and, and_assoc]
      repeat (refine And.intro ?_ ?_; focus (first | assumption | decide +kernel | (show _ ≠ _; omega) | ((fail_if_success intro _); omega) | (show Eqv _ _; (simp (maxDischargeDepth := 8) [go_sem]))))
      obtain rfl := Option.some.inj hr
      (simp (maxDischargeDepth := 8) [go_sem])
  · rw [if_neg (by first | exact hc | (rw [hc]; rfl) | simpa using hc | (simp at hc ⊢; omega) | simp_all)] at hr
    repeat (refine And.intro ?_ ?_; focus (first | assumption | decide +kernel | (show _ ≠ _; omega) | ((fail_if_success intro _); omega) | (show Eqv _ _; (simp (maxDischargeDepth := 8) [go_sem]))))
    refine ⟨fun hc => ?_, fun hc => ?_⟩
    · rw [if_pos (by first | exact hc | (rw [hc]; rfl) | simpa using hc | (simp at hc ⊢; omega) | simp_all)] at hr
      repeat (refine And.intro ?_ ?_; focus (first | assumption | decide +kernel | (show _ ≠ _; omega) | ((fail_if_success intro _); omega) | (show Eqv _ _; (simp (maxDischargeDepth := 8) [go_sem]))))
      obtain rfl := Option.some.inj hr
      (simp (maxDischargeDepth := 8) [go_sem])
    · rw [if_neg (by first | exact hc | (rw [hc]; rfl) | simpa using hc | (simp at hc ⊢; omega) | simp_all)] at hr
      obtain ⟨v8, hv8, hr⟩ := of_bind0 hr
      obtain ⟨v9, hv9, hr⟩ := of_bind0 hr
      obtain ⟨hg10, hr⟩ := of_guard0 hr
      obtain ⟨hg11, hr⟩ := of_guard0 hr
      try simp only [hv8, hv9, Option.getD_some, Option.isSome_some, true_and, and_assoc]
      repeat (refine And.intro ?_ ?_; focus (first | assumption | decide +kernel | (show _ ≠ _; omega) | ((fail_if_success intro _); omega) | (show Eqv _ _; (simp (maxDischargeDepth := 8) [go_sem]))))
      obtain rfl := Option.some.inj hr
      (simp (maxDischargeDepth := 8) [go_sem])
theorem f53 : FnFact Try.prog 53 T53.sp := ⟨⟨Try.f53, Try.func53, by decide, rfl⟩, v53⟩

/- martensite/heat.ceil -/
def r125 (a0 : Int) (a1 : Int) : Option (Int) :=
  (r124 (IntKind.i64.wrap (0 - a0)) a1).bind fun v1 =>
   some (IntKind.i64.wrap (0 - v1))
def T125 : TSpec (Int × Int) where
  enc x := [.c (.int .i64 x.1), .c (.int .i64 x.2)]
  dec a := (dInt (aCell a 0 0), dInt (aCell a 1 0))
  pre x := (r125 x.1 x.2).isSome = true
  res x := [.c (.d (.int .i64 ((r125 x.1 x.2).getD default)))]
  al := false
def tb125 : Fns := lk [(124, T124.sp)]
theorem tb125_ok : FnsOk Try.prog tb125 := .cons f124 (FnsOk.nil)
theorem tb125_124 : tb125 124 = some T124.sp := rfl
theorem v125 : Valid Try.prog 125 T125.sp := by
  refine valid_t (fn := Try.f125) (n := 10) ty_ok tb125_ok Try.func125 rfl Try.ntmps125 ?_
  rintro ⟨a0, a1⟩ hx
  obtain ⟨r, hr⟩ := Option.isSome_iff_exists.1 (show (r125 a0 a1).isSome = true from hx)
  have hres : T125.res (a0, a1) = [.c (.d (.int .i64 r))] := by simp only [T125, hr, Option.getD_some]
  refine ⟨Nat.le_of_ble_eq_true rfl, fun stop S => ?_⟩
  rw [hres] at S
  unfold r125 at hr
  refine S.goB [] 1000 ?_
  simp (maxSteps := 10000000) only [go_sem, tb125_124, T124, T125, Option.map_some, Int.reduceToNat, Nat.reduceEqDiff, Nat.reduceLT, Nat.reduceAdd, Nat.reduceMul, Nat.reduceSub, Nat.reduceLeDiff, reduceIte, reduceCtorEq, Try.results125]
  obtain ⟨v1, hv1, hr⟩ := of_bind0 hr
  try simp only [hv1, Option.getD_some, Option.isSome_some, true_and, and_assoc]
  repeat (refine And.intro ?_ ?_; focus (first | assumption | decide +kernel | (show _ ≠ _; omega) | ((fail_if_success intro _); omega) | (show Eqv _ _; (simp (maxDischargeDepth := 8) [go_sem]))))
  obtain rfl := Option.some.inj hr
  (simp (maxDischargeDepth := 8) [go_sem])
theorem f125 : FnFact Try.prog 125 T125.sp := ⟨⟨Try.f125, Try.func125, by decide, rfl⟩, v125⟩

/- martensite/heat.EnergyAt -/
def b54_1 (a1 : Int) (v1 : Int × Int × (List (Int × Int)) × (List ((List (Int × Int)))) × (List (Int × Int)) × (List ((List (Int × Int)))) × Int) : ((List (Int × Int)) × Int) → Ctl ((List (Int × Int)) × Int) (Int × Int × Int) := fun s1 =>
  if (decide (s1.2 < (v1.2.2.2.2.1.length : Int))) = true then
   if 0 ≤ s1.2 ∧ s1.2 < (v1.2.2.2.2.1.length : Int) then
    if (s1.1.length + 1) * 16 ≤ 140737488355328 ∧ s1.1.length + 1 ≤ 9223372036854775807 then
     .next (s1.1 ++ [((v1.2.2.2.2.1.getD s1.2.toNat default).2, (v1.2.2.2.2.1.getD s1.2.toNat default).1)], IntKind.i64.wrap (s1.2 + 1))
     else .out none
    else .out none
   else .out ((r123 s1.1 a1 1).bind fun v6 =>
    (r124 v6.1 v6.2).bind fun v7 =>
     (r125 v6.1 v6.2).bind fun v8 =>
      some (v7, v8, 0))
def b54_2 (a1 : Int) (v1 : Int × Int × (List (Int × Int)) × (List ((List (Int × Int)))) × (List (Int × Int)) × (List ((List (Int × Int)))) × Int) : ((List (Int × Int)) × Int) → Ctl ((List (Int × Int)) × Int) (Int × Int × Int) := fun s2 =>
  if (decide (s2.2 < (v1.2.2.2.2.1.length : Int))) = true then
   if 0 ≤ s2.2 ∧ s2.2 < (v1.2.2.2.2.1.length : Int) then
    if (s2.1.length + 1) * 16 ≤ 140737488355328 ∧ s2.1.length + 1 ≤ 9223372036854775807 then
     .next (s2.1 ++ [((v1.2.2.2.2.1.getD s2.2.toNat default).2, (v1.2.2.2.2.1.getD s2.2.toNat default).1)], IntKind.i64.wrap (s2.2 + 1))
     else .out none
    else .out none
   else .out ((r123 s2.1 a1 1).bind fun v13 =>
    (r124 v13.1 v13.2).bind fun v14 =>
     (r125 v13.1 v13.2).bind fun v15 =>
      some (v14, v15, 0))
def r54 (a0_0 : Int) (a0_1 : Int) (a0_2 : List (Int × Int)) (a0_3 : List ((List (Int × Int)))) (a1 : Int) : Option (Int × Int × Int) :=
  (r101 a0_0 a0_1 a0_2 a0_3).bind fun v1 =>
   if (v1.2.2.2.2.2.2 == 0) = true then
    if 0 ≤ 0 ∧ 0 < (v1.2.2.2.2.1.length : Int) then
     if 0 ≤ IntKind.i64.wrap ((v1.2.2.2.2.1.length : Int) - 1) ∧ IntKind.i64.wrap ((v1.2.2.2.2.1.length : Int) - 1) < (v1.2.2.2.2.1.length : Int) then
      (r90 a1 ((v1.2.2.2.2.1.getD 0 default).2) ((v1.2.2.2.2.1.getD (IntKind.i64.wrap ((v1.2.2.2.2.1.length : Int) - 1)).toNat default).2)).bind fun v2 =>
       (r94 v2 2).bind fun v3 =>
        if (v3 != 0) = true then
         some (0, 0, v3)
         else iterC (b54_1 a1 v1) 1000000000 ([], 0)
      else none
     else none
    else if (v1.2.2.2.2.2.2 != 0) = true then
     some (0, 0, v1.2.2.2.2.2.2)
     else iterC (b54_2 a1 v1) 1000000000 ([], 0)
def T54 : TSpec (Int × Int × (List (Int × Int)) × (List ((List (Int × Int)))) × Int) where
  enc x := [.agg [.int .i64 x.1, .int .i64 x.2.1, encF 2 d_II x.2.2.1, encF 1 d_LIIE x.2.2.2.1], .c (.int .i64 x.2.2.2.2)]
  dec a := (dInt (aCell a 0 0), dInt (aCell a 0 1), decF g_II (aCell a 0 2), decF g_LIIE (aCell a 0 3), dInt (aCell a 1 0))
  pre x := (r54 x.1 x.2.1 x.2.2.1 x.2.2.2.1 x.2.2.2.2).isSome = true
  res x := [.agg [.d (.int .i64 (((r54 x.1 x.2.1 x.2.2.1 x.2.2.2.1 x.2.2.2.2).getD default).1)), .d (.int .i64 (((r54 x.1 x.2.1 x.2.2.1 x.2.2.2.1 x.2.2.2.2).getD default).2.1))], .c (.d (.int .i64 (((r54 x.1 x.2.1 x.2.2.1 x.2.2.2.1 x.2.2.2.2).getD default).2.2)))]
  al := false
def tb54 : Fns := lk [(90, T90.sp), (94, T94.sp), (101, T101.sp), (123, T123.sp), (124, T124.sp), (125, T125.sp)]
theorem tb54_ok : FnsOk Try.prog tb54 := .cons f90 (.cons f94 (.cons f101 (.cons f123 (.cons f124 (.cons f125 (FnsOk.nil))))))
theorem tb54_90 : tb54 90 = some T90.sp := rfl
theorem tb54_94 : tb54 94 = some T94.sp := rfl
theorem tb54_101 : tb54 101 = some T101.sp := rfl
theorem tb54_123 : tb54 123 = some T123.sp := rfl
theorem tb54_124 : tb54 124 = some T124.sp := rfl
theorem tb54_125 : tb54 125 = some T125.sp := rfl
theorem v54 : Valid Try.prog 54 T54.sp := by
  refine valid_t (fn := Try.f54) (n := 71) ty_ok tb54_ok Try.func54 rfl Try.ntmps54 ?_
  rintro ⟨a0_0, a0_1, a0_2, a0_3, a1⟩ hx
  obtain ⟨r, hr⟩ := Option.isSome_iff_exists.1 (show (r54 a0_0 a0_1 a0_2 a0_3 a1).isSome = true from hx)
  have hres : T54.res (a0_0, a0_1, a0_2, a0_3, a1) = [.agg [.d (.int .i64 r.1), .d (.int .i64 r.2.1)], .c (.d (.int .i64 r.2.2))] := by simp only [T54, hr, Option.getD_some]
  refine ⟨Nat.le_of_ble_eq_true rfl, fun stop S => ?_⟩
  rw [hres] at S
  unfold r54 at hr
  refine S.goB [] 1000 ?_
  simp (maxSteps := 10000000) only [go_sem, tb54_90, T90, tb54_94, T94, tb54_101, T101, tb54_123, T123, tb54_124, T124, tb54_125, T125, T54, Option.map_some, Int.reduceToNat, Nat.reduceEqDiff, Nat.reduceLT, Nat.reduceAdd, Nat.reduceMul, Nat.reduceSub, Nat.reduceLeDiff, reduceIte, reduceCtorEq, Try.results54]
  obtain ⟨v1, hv1, hr⟩ := of_bind0 hr
  try simp only [hv1, Option.getD_some, Option.isSome_some, true_and, and_assoc]
  repeat (refine And.intro ?_ ?_; focus (first | assumption | decide +kernel | (show _ ≠ _; omega) | ((fail_if_success intro _); omega) | (show Eqv _ _; (simp (maxDischargeDepth := 8) [go_sem]))))
  refine ⟨fun hc => ?_, fun hc => ?_⟩
  · rw [if_pos (by first | exact hc | (rw [hc]; rfl) | simpa using hc | (simp at hc ⊢; omega) | simp_all)] at hr
    obtain ⟨hg9, hr⟩ := of_guard0 hr
    obtain ⟨hg10, hr⟩ := of_guard0 hr
    obtain ⟨v2, hv2, hr⟩ := of_bind0 hr
    obtain ⟨v3, hv3, hr⟩ := of_bind0 hr
    try simp only [hv2, hv3, Option.getD_some, Option.isSome_some, true_and, and_assoc]
    repeat (refine And.intro ?_ ?_; focus (first | assumption | decide +kernel | (show _ ≠ _; omega) | ((fail_if_success intro _); omega) | (show Eqv _ _; (simp (maxDischargeDepth := 8) [go_sem]))))
    refine ⟨fun hc => ?_, fun hc => ?_⟩
    · rw [if_pos (by first | exact hc | (rw [hc]; rfl) | simpa using hc | (simp at hc ⊢; omega) | simp_all)] at hr
      repeat (refine And.intro ?_ ?_; focus (first | assumption | decide +kernel | (show _ ≠ _; omega) | ((fail_if_success intro _); omega) | (show Eqv _ _; (simp (maxDischargeDepth := 8) [go_sem]))))
      obtain rfl := Option.some.inj hr
      (simp (maxDischargeDepth := 8) [go_sem])
    · rw [if_neg (by first | exact hc | (rw [hc]; rfl) | simpa using hc | (simp at hc ⊢; omega) | simp_all)] at hr
      repeat (refine And.intro ?_ ?_; focus (first | assumption | decide +kernel | (show _ ≠ _; omega) | ((fail_if_success intro _); omega) | (show Eqv _ _; (simp (maxDischargeDepth := 8) [go_sem]))))
      refine S.own0 8 1000800 2 rfl rfl ?_
      refine S.sees [1, 4, 8, 41, 42, 43] [(4, 4)] [(1000800, 1000800), (14, 14)] ?_ (Stop.iter S (fun s1 => ⟨[(1, .c (.d (.int .i64 a1))), (4, .c (.ref 4 0)), (8, .c (.own 1000800)), (41, .c (.own 14)), (42, .c (.d (.int .i64 (v1.2.2.2.2.1.length : Int)))), (43, .c (.d (.int .i64 s1.2)))], [(4, [.d (.int .i64 0), .d (.int .i64 0)])], [(1000800, .owned (encF 2 d_II s1.1)), (14, .owned (encF 2 d_II v1.2.2.2.2.1))]⟩) (b54_1 a1 v1) (fun q => q = r) hr rfl ?_)
      · (simp (maxDischargeDepth := 8) [go_sem])
      · intro s1 hr
        unfold b54_1 at hr
        refine S.goB [] 1000 ?_
        simp (maxSteps := 10000000) only [go_sem, tb54_90, T90, tb54_94, T94, tb54_101, T101, tb54_123, T123, tb54_124, T124, tb54_125, T125, T54, Option.map_some, Int.reduceToNat, Nat.reduceEqDiff, Nat.reduceLT, Nat.reduceAdd, Nat.reduceMul, Nat.reduceSub, Nat.reduceLeDiff, reduceIte, reduceCtorEq, Try.results54]
        repeat (refine And.intro ?_ ?_; focus (first | assumption | decide +kernel | (show _ ≠ _; omega) | ((fail_if_success intro _); omega) | (show Eqv _ _; (simp (maxDischargeDepth := 8) [go_sem]))))
        refine ⟨fun hc => ?_, fun hc => ?_⟩
        · rw [if_pos (by first | exact hc | (rw [hc]; rfl) | simpa using hc | (simp at hc ⊢; omega) | simp_all)] at hr
          obtain ⟨hg4, hr⟩ := of_guard1 hr
          obtain ⟨hg5, hr⟩ := of_guard1 hr
          repeat (refine And.intro ?_ ?_; focus (first | assumption | decide +kernel | (show _ ≠ _; omega) | ((fail_if_success intro _); omega) | (show Eqv _ _; (simp (maxDischargeDepth := 8) [go_sem]))))
          refine S.sees [1, 4, 8, 41, 42, 43] [(4, 4)] [(54, 1000800), (14, 14)] ?_ hr
          (simp (maxDischargeDepth := 8) [go_sem])
        · rw [if_neg (by first | exact hc | (rw [hc]; rfl) | simpa using hc | (simp at hc ⊢; omega) | simp_all)] at hr
          repeat (refine And.intro ?_ ?_; focus (first | assumption | decide +kernel | (show _ ≠ _; omega) | ((fail_if_success intro _); omega) | (show Eqv _ _; (simp (maxDischargeDepth := 8) [go_sem]))))
          have hr := of_out0 hr
          obtain ⟨v6, hv6, hr⟩ := of_bind0 hr
          obtain ⟨v7, hv7, hr⟩ := of_bind0 hr
          obtain ⟨v8, hv8, hr⟩ := of_bind0 hr
          try simp only [hv6, hv7, hv8, Option.getD_some, Option.isSome_some, true_and, and_assoc]
          repeat (refine And.intro ?_ ?_; focus (first | assumption | decide +kernel | (show _ ≠ _; omega) | ((fail_if_success intro _); omega) | (show Eqv _ _; (simp (maxDischargeDepth := 8) [go_sem]))))
          obtain rfl := Option.some.inj hr
          (simp (maxDischargeDepth := 8) [go_sem])
  · rw [if_neg (by first | exact hc | (rw [hc]; rfl) | simpa using hc | (simp at hc ⊢; omega) | simp_all)] at hr
    repeat (refine And.intro ?_ ?_; focus (first | assumption | decide +kernel | (show _ ≠ _; omega) | ((fail_if_success intro _); omega) | (show Eqv _ _; (simp (maxDischargeDepth := 8) [go_sem]))))
    refine ⟨fun hc => ?_, fun hc => ?_⟩
    · rw [if_pos (by first | exact hc | (rw [hc]; rfl) | simpa using hc | (simp at hc ⊢; omega) | simp_all)] at hr
      repeat (refine And.intro ?_ ?_; focus (first | assumption | decide +kernel | (show _ ≠ _; omega) | ((fail_if_success intro _); omega) | (show Eqv _ _; (simp (maxDischargeDepth := 8) [go_sem]))))
      obtain rfl := Option.some.inj hr
      (simp (maxDischargeDepth := 8) [go_sem])
    · rw [if_neg (by first | exact hc | (rw [hc]; rfl) | simpa using hc | (simp at hc ⊢; omega) | simp_all)] at hr
      repeat (refine And.intro ?_ ?_; focus (first | assumption | decide +kernel | (show _ ≠ _; omega) | ((fail_if_success intro _); omega) | (show Eqv _ _; (simp (maxDischargeDepth := 8) [go_sem]))))
      refine S.own0 8 1000800 2 rfl rfl ?_
      refine S.sees [1, 4, 8, 41, 42, 43] [(4, 4)] [(1000800, 1000800), (14, 14)] ?_ (Stop.iter S (fun s2 => ⟨[(1, .c (.d (.int .i64 a1))), (4, .c (.ref 4 0)), (8, .c (.own 1000800)), (41, .c (.own 14)), (42, .c (.d (.int .i64 (v1.2.2.2.2.1.length : Int)))), (43, .c (.d (.int .i64 s2.2)))], [(4, [.d (.int .i64 0), .d (.int .i64 0)])], [(1000800, .owned (encF 2 d_II s2.1)), (14, .owned (encF 2 d_II v1.2.2.2.2.1))]⟩) (b54_2 a1 v1) (fun q => q = r) hr rfl ?_)
      · (simp (maxDischargeDepth := 8) [go_sem])
      · intro s2 hr
        unfold b54_2 at hr
        refine S.goB [] 1000 ?_
        simp (maxSteps := 10000000) only [go_sem, tb54_90, T90, tb54_94, T94, tb54_101, T101, tb54_123, T123, tb54_124, T124, tb54_125, T125, T54, Option.map_some, Int.reduceToNat, Nat.reduceEqDiff, Nat.reduceLT, Nat.reduceAdd, Nat.reduceMul, Nat.reduceSub, Nat.reduceLeDiff, reduceIte, reduceCtorEq, Try.results54]
        repeat (refine And.intro ?_ ?_; focus (first | assumption | decide +kernel | (show _ ≠ _; omega) | ((fail_if_success intro _); omega) | (show Eqv _ _; (simp (maxDischargeDepth := 8) [go_sem]))))
        refine ⟨fun hc => ?_, fun hc => ?_⟩
        · rw [if_pos (by first | exact hc | (rw [hc]; rfl) | simpa using hc | (simp at hc ⊢; omega) | simp_all)] at hr
          obtain ⟨hg11, hr⟩ := of_guard1 hr
          obtain ⟨hg12, hr⟩ := of_guard1 hr
          repeat (refine And.intro ?_ ?_; focus (first | assumption | decide +kernel | (show _ ≠ _; omega) | ((fail_if_success intro _); omega) | (show Eqv _ _; (simp (maxDischargeDepth := 8) [go_sem]))))
          refine S.sees [1, 4, 8, 41, 42, 43] [(4, 4)] [(54, 1000800), (14, 14)] ?_ hr
          (simp (maxDischargeDepth := 8) [go_sem])
        · rw [if_neg (by first | exact hc | (rw [hc]; rfl) | simpa using hc | (simp at hc ⊢; omega) | simp_all)] at hr
          repeat (refine And.intro ?_ ?_; focus (first | assumption | decide +kernel | (show _ ≠ _; omega) | ((fail_if_success intro _); omega) | (show Eqv _ _; (simp (maxDischargeDepth := 8) [go_sem]))))
          have hr := of_out0 hr
          obtain ⟨v13, hv13, hr⟩ := of_bind0 hr
          obtain ⟨v14, hv14, hr⟩ := of_bind0 hr
          obtain ⟨v15, hv15, hr⟩ := of_bind0 hr
          try simp only [hv13, hv14, hv15, Option.getD_some, Option.isSome_some, true_and, and_assoc]
          repeat (refine And.intro ?_ ?_; focus (first | assumption | decide +kernel | (show _ ≠ _; omega) | ((fail_if_success intro _); omega) | (show Eqv _ _; (simp (maxDischargeDepth := 8) [go_sem]))))
          obtain rfl := Option.some.inj hr
          (simp (maxDischargeDepth := 8) [go_sem])
theorem f54 : FnFact Try.prog 54 T54.sp := ⟨⟨Try.f54, Try.func54, by decide, rfl⟩, v54⟩

/- martensite/heat.LossAt -/
def r55 (a0_0 : Int) (a0_1 : Int) (a0_2 : List (Int × Int)) (a0_3 : List ((List (Int × Int)))) (a1 : Int) (a2 : Int) : Option (Int × Int) :=
  (r101 a0_0 a0_1 a0_2 a0_3).bind fun v1 =>
   if (v1.2.2.2.2.2.2 == 0) = true then
    (r126 v1.1 v1.2.1 v1.2.2.1 v1.2.2.2.1 v1.2.2.2.2.1 v1.2.2.2.2.2.1 a1).bind fun v2 =>
     (r120 v1.1 v1.2.1 v1.2.2.1 v1.2.2.2.1 v1.2.2.2.2.1 v1.2.2.2.2.2.1 a2).bind fun v3 =>
      (r94 v3 2).bind fun v4 =>
       (r91 [v2, v4]).bind fun v5 =>
        if (v5 != 0) = true then
         some (0, v5)
         else (r127 v1.1 v1.2.1 v1.2.2.1 v1.2.2.2.1 v1.2.2.2.2.1 v1.2.2.2.2.2.1 a1 a2).bind fun v6 =>
          some (v6, 0)
    else if (v1.2.2.2.2.2.2 != 0) = true then
     some (0, v1.2.2.2.2.2.2)
     else (r127 v1.1 v1.2.1 v1.2.2.1 v1.2.2.2.1 v1.2.2.2.2.1 v1.2.2.2.2.2.1 a1 a2).bind fun v7 =>
      some (v7, 0)
def T55 : TSpec (Int × Int × (List (Int × Int)) × (List ((List (Int × Int)))) × Int × Int) where
  enc x := [.agg [.int .i64 x.1, .int .i64 x.2.1, encF 2 d_II x.2.2.1, encF 1 d_LIIE x.2.2.2.1], .c (.int .i64 x.2.2.2.2.1), .c (.int .i64 x.2.2.2.2.2)]
  dec a := (dInt (aCell a 0 0), dInt (aCell a 0 1), decF g_II (aCell a 0 2), decF g_LIIE (aCell a 0 3), dInt (aCell a 1 0), dInt (aCell a 2 0))
  pre x := (r55 x.1 x.2.1 x.2.2.1 x.2.2.2.1 x.2.2.2.2.1 x.2.2.2.2.2).isSome = true
  res x := [.c (.d (.int .i64 (((r55 x.1 x.2.1 x.2.2.1 x.2.2.2.1 x.2.2.2.2.1 x.2.2.2.2.2).getD default).1))), .c (.d (.int .i64 (((r55 x.1 x.2.1 x.2.2.1 x.2.2.2.1 x.2.2.2.2.1 x.2.2.2.2.2).getD default).2)))]
  al := false
def tb55 : Fns := lk [(91, T91.sp), (94, T94.sp), (101, T101.sp), (120, T120.sp), (126, T126.sp), (127, T127.sp)]
theorem tb55_ok : FnsOk Try.prog tb55 := .cons f91 (.cons f94 (.cons f101 (.cons f120 (.cons f126 (.cons f127 (FnsOk.nil))))))
theorem tb55_91 : tb55 91 = some T91.sp := rfl
theorem tb55_94 : tb55 94 = some T94.sp := rfl
theorem tb55_101 : tb55 101 = some T101.sp := rfl
theorem tb55_120 : tb55 120 = some T120.sp := rfl
theorem tb55_126 : tb55 126 = some T126.sp := rfl
theorem tb55_127 : tb55 127 = some T127.sp := rfl
theorem v55 : Valid Try.prog 55 T55.sp := by
  refine valid_t (fn := Try.f55) (n := 33) ty_ok tb55_ok Try.func55 rfl Try.ntmps55 ?_
  rintro ⟨a0_0, a0_1, a0_2, a0_3, a1, a2⟩ hx
  obtain ⟨r, hr⟩ := Option.isSome_iff_exists.1 (show (r55 a0_0 a0_1 a0_2 a0_3 a1 a2).isSome = true from hx)
  have hres : T55.res (a0_0, a0_1, a0_2, a0_3, a1, a2) = [.c (.d (.int .i64 r.1)), .c (.d (.int .i64 r.2))] := by simp only [T55, hr, Option.getD_some]
  refine ⟨Nat.le_of_ble_eq_true rfl, fun stop S => ?_⟩
  rw [hres] at S
  unfold r55 at hr
  refine S.goB [] 1000 ?_
  simp (maxSteps := 10000000) only [go_sem, tb55_91, T91, tb55_94, T94, tb55_101, T101, tb55_120, T120, tb55_126, T126, tb55_127, T127, T55, Option.map_some, Int.reduceToNat, Nat.reduceEqDiff, Nat.reduceLT, Nat.reduceAdd, Nat.reduceMul, Nat.reduceSub, Nat.reduceLeDiff, reduceIte, reduceCtorEq, Try.results55]
  obtain ⟨v1, hv1, hr⟩ := of_bind0 hr
  try simp only [hv1, Option.getD_some, Option.isSome_some, true_and, and_assoc]
  repeat (refine And.intro ?_ ?_; focus (first | assumption | decide +kernel | (show _ ≠ _; omega) | ((fail_if_success intro _); omega) | (show Eqv _ _; (simp (maxDischargeDepth := 8) [go_sem]))))
  refine ⟨fun hc => ?_, fun hc => ?_⟩
  · rw [if_pos (by first | exact hc | (rw [hc]; rfl) | simpa using hc | (simp at hc ⊢; omega) | simp_all)] at hr
    obtain ⟨v2, hv2, hr⟩ := of_bind0 hr
    obtain ⟨v3, hv3, hr⟩ := of_bind0 hr
    obtain ⟨v4, hv4, hr⟩ := of_bind0 hr
    obtain ⟨v5, hv5, hr⟩ := of_bind0 hr
    try simp only [hv2, hv3, hv4, hv5, Option.getD_some, Option.isSome_some, true_and, and_assoc]
    repeat (refine And.intro ?_ ?_; focus (first | assumption | decide +kernel | (show _ ≠ _; omega) | ((fail_if_success intro _); omega) | (show Eqv _ _; (simp (maxDischargeDepth := 8) [go_sem]))))
    refine ⟨fun hc => ?_, fun hc => ?_⟩
    · rw [if_pos (by first | exact hc | (rw [hc]; rfl) | simpa using hc | (simp at hc ⊢; omega) | simp_all)] at hr
      repeat (refine And.intro ?_ ?_; focus (first | assumption | decide +kernel | (show _ ≠ _; omega) | ((fail_if_success intro _); omega) | (show Eqv _ _; (simp (maxDischargeDepth := 8) [go_sem]))))
      obtain rfl := Option.some.inj hr
      (simp (maxDischargeDepth := 8) [go_sem])
    · rw [if_neg (by first | exact hc | (rw [hc]; rfl) | simpa using hc | (simp at hc ⊢; omega) | simp_all)] at hr
      obtain ⟨v6, hv6, hr⟩ := of_bind0 hr
      try simp only [hv6, Option.getD_some, Option.isSome_some, true_and, and_assoc]
      repeat (refine And.intro ?_ ?_; focus (first | assumption | decide +kernel | (show _ ≠ _; omega) | ((fail_if_success intro _); omega) | (show Eqv _ _; (simp (maxDischargeDepth := 8) [go_sem]))))
      obtain rfl := Option.some.inj hr
      (simp (maxDischargeDepth := 8) [go_sem])
  · rw [if_neg (by first | exact hc | (rw [hc]; rfl) | simpa using hc | (simp at hc ⊢; omega) | simp_all)] at hr
    repeat (refine And.intro ?_ ?_; focus (first | assumption | decide +kernel | (show _ ≠ _; omega) | ((fail_if_success intro _); omega) | (show Eqv _ _; (simp (maxDischargeDepth := 8) [go_sem]))))
    refine ⟨fun hc => ?_, fun hc => ?_⟩
    · rw [if_pos (by first | exact hc | (rw [hc]; rfl) | simpa using hc | (simp at hc ⊢; omega) | simp_all)] at hr
      repeat (refine And.intro ?_ ?_; focus (first | assumption | decide +kernel | (show _ ≠ _; omega) | ((fail_if_success intro _); omega) | (show Eqv _ _; (simp (maxDischargeDepth := 8) [go_sem]))))
      obtain rfl := Option.some.inj hr
      (simp (maxDischargeDepth := 8) [go_sem])
    · rw [if_neg (by first | exact hc | (rw [hc]; rfl) | simpa using hc | (simp at hc ⊢; omega) | simp_all)] at hr
      obtain ⟨v7, hv7, hr⟩ := of_bind0 hr
      try simp only [hv7, Option.getD_some, Option.isSome_some, true_and, and_assoc]
      repeat (refine And.intro ?_ ?_; focus (first | assumption | decide +kernel | (show _ ≠ _; omega) | ((fail_if_success intro _); omega) | (show Eqv _ _; (simp (maxDischargeDepth := 8) [go_sem]))))
      obtain rfl := Option.some.inj hr
      (simp (maxDischargeDepth := 8) [go_sem])
theorem f55 : FnFact Try.prog 55 T55.sp := ⟨⟨Try.f55, Try.func55, by decide, rfl⟩, v55⟩

/- martensite/martensitebase.Size -/
def r157 (a0 : Int) : Option (Int) :=
  some (if a0 < IntKind.i64.wrap (0 - a0) then IntKind.i64.wrap (0 - a0) else a0)
def T157 : TSpec (Int) where
  enc x := [.c (.int .i64 x)]
  dec a := dInt (aCell a 0 0)
  pre x := (r157 x).isSome = true
  res x := [.c (.d (.int .i64 ((r157 x).getD default)))]
  al := false
def tb157 : Fns := lk []
theorem tb157_ok : FnsOk Try.prog tb157 := FnsOk.nil
theorem v157 : Valid Try.prog 157 T157.sp := by
  refine valid_t (fn := Try.f157) (n := 7) ty_ok tb157_ok Try.func157 rfl Try.ntmps157 ?_
  rintro a0 hx
  obtain ⟨r, hr⟩ := Option.isSome_iff_exists.1 (show (r157 a0).isSome = true from hx)
  have hres : T157.res a0 = [.c (.d (.int .i64 r))] := by simp only [T157, hr, Option.getD_some]
  refine ⟨Nat.le_of_ble_eq_true rfl, fun stop S => ?_⟩
  rw [hres] at S
  unfold r157 at hr
  refine S.goB [] 1000 ?_
  simp (maxSteps := 10000000) only [go_sem, T157, Option.map_some, Int.reduceToNat, Nat.reduceEqDiff, Nat.reduceLT, Nat.reduceAdd, Nat.reduceMul, Nat.reduceSub, Nat.reduceLeDiff, reduceIte, reduceCtorEq, Try.results157]
  repeat (refine And.intro ?_ ?_; focus (first | assumption | decide +kernel | (show _ ≠ _; omega) | ((fail_if_success intro _); omega) | (show Eqv _ _; (simp (maxDischargeDepth := 8) [go_sem]))))
  obtain rfl := Option.some.inj hr
  (simp (maxDischargeDepth := 8) [go_sem])
theorem f157 : FnFact Try.prog 157 T157.sp := ⟨⟨Try.f157, Try.func157, by decide, rfl⟩, v157⟩

/- martensite/martensitebase.Gcd -/
def b128_1 : (Int × Int) → Ctl (Int × Int) (Int) := fun s1 =>
  if (s1.2 != 0) = true then
   if s1.2 ≠ 0 then
    .next (s1.2, s1.1.tmod s1.2)
    else .out none
   else .out ((r157 s1.1).bind fun v2 =>
    some v2)
def r128 (a0 : Int) (a1 : Int) : Option (Int) :=
  iterC (b128_1) 1000000000 (a0, a1)
def T128 : TSpec (Int × Int) where
  enc x := [.c (.int .i64 x.1), .c (.int .i64 x.2)]
  dec a := (dInt (aCell a 0 0), dInt (aCell a 1 0))
  pre x := (r128 x.1 x.2).isSome = true
  res x := [.c (.d (.int .i64 ((r128 x.1 x.2).getD default)))]
  al := false
def tb128 : Fns := lk [(157, T157.sp)]
theorem tb128_ok : FnsOk Try.prog tb128 := .cons f157 (FnsOk.nil)
theorem tb128_157 : tb128 157 = some T157.sp := rfl
theorem v128 : Valid Try.prog 128 T128.sp := by
  refine valid_t (fn := Try.f128) (n := 13) ty_ok tb128_ok Try.func128 rfl Try.ntmps128 ?_
  rintro ⟨a0, a1⟩ hx
  obtain ⟨r, hr⟩ := Option.isSome_iff_exists.1 (show (r128 a0 a1).isSome = true from hx)
  have hres : T128.res (a0, a1) = [.c (.d (.int .i64 r))] := by simp only [T128, hr, Option.getD_some]
  refine ⟨Nat.le_of_ble_eq_true rfl, fun stop S => ?_⟩
  rw [hres] at S
  unfold r128 at hr
  refine S.goB [] 1000 ?_
  simp (maxSteps := 10000000) only [go_sem, tb128_157, T157, T128, Option.map_some, Int.reduceToNat, Nat.reduceEqDiff, Nat.reduceLT, Nat.reduceAdd, Nat.reduceMul, Nat.reduceSub, Nat.reduceLeDiff, reduceIte, reduceCtorEq, Try.results128]
  repeat (refine And.intro ?_ ?_; focus (first | assumption | decide +kernel | (show _ ≠ _; omega) | ((fail_if_success intro _); omega) | (show Eqv _ _; (simp (maxDischargeDepth := 8) [go_sem]))))
  refine S.sees [0, 1] [] [] ?_ (Stop.iter S (fun s1 => ⟨[(0, .c (.d (.int .i64 s1.1))), (1, .c (.d (.int .i64 s1.2)))], [], []⟩) (b128_1) (fun q => q = r) hr rfl ?_)
  · (simp (maxDischargeDepth := 8) [go_sem])
  · intro s1 hr
    unfold b128_1 at hr
    refine S.goB [] 1000 ?_
    simp (maxSteps := 10000000) only [go_sem, tb128_157, T157, T128, Option.map_some, Int.reduceToNat, Nat.reduceEqDiff, Nat.reduceLT, Nat.reduceAdd, Nat.reduceMul, Nat.reduceSub, Nat.reduceLeDiff, reduceIte, reduceCtorEq, Try.results128]
    repeat (refine And.intro ?_ ?_; focus (first | assumption | decide +kernel | (show _ ≠ _; omega) | ((fail_if_success intro _); omega) | (show Eqv _ _; (simp (maxDischargeDepth := 8) [go_sem]))))
    refine ⟨fun hc => ?_, fun hc => ?_⟩
    · rw [if_pos (by first | exact hc | (rw [hc]; rfl) | simpa using hc | (simp at hc ⊢; omega) | simp_all)] at hr
      obtain ⟨hg1, hr⟩ := of_guard1 hr
      repeat (refine And.intro ?_ ?_; focus (first | assumption | decide +kernel | (show _ ≠ _; omega) | ((fail_if_success intro _); omega) | (show Eqv _ _; (simp (maxDischargeDepth := 8) [go_sem]))))
      refine S.sees [0, 1] [] [] ?_ hr
      (simp (maxDischargeDepth := 8) [go_sem])
    · rw [if_neg (by first | exact hc | (rw [hc]; rfl) | simpa using hc | (simp at hc ⊢; omega) | simp_all)] at hr
      repeat (refine And.intro ?_ ?_; focus (first | assumption | decide +kernel | (show _ ≠ _; omega) | ((fail_if_success intro _); omega) | (show Eqv _ _; (simp (maxDischargeDepth := 8) [go_sem]))))
      have hr := of_out0 hr
      obtain ⟨v2, hv2, hr⟩ := of_bind0 hr
      try simp only [hv2, Option.getD_some, Option.isSome_some, true_and, and_assoc]
      repeat (refine And.intro ?_ ?_; focus (first | assumption | decide +kernel | (show _ ≠ _; omega) | ((fail_if_success intro _); omega) | (show Eqv _ _; (simp (maxDischargeDepth := 8) [go_sem]))))
      obtain rfl := Option.some.inj hr
      (simp (maxDischargeDepth := 8) [go_sem])
theorem f128 : FnFact Try.prog 128 T128.sp := ⟨⟨Try.f128, Try.func128, by decide, rfl⟩, v128⟩

/- martensite/martensitebase.Lowest -/
def r58 (a0 : Int) (a1 : Int) : Option (Int × Int) :=
  (r128 a0 a1).bind fun v1 =>
   if (decide (a1 < 0)) = true then
    if (IntKind.i64.wrap (0 - v1)) ≠ 0 then
     if (IntKind.i64.wrap (0 - v1)) ≠ 0 then
      some (IntKind.i64.wrap (a0.tdiv (IntKind.i64.wrap (0 - v1))), IntKind.i64.wrap (a1.tdiv (IntKind.i64.wrap (0 - v1))))
      else none
     else none
    else if v1 ≠ 0 then
     if v1 ≠ 0 then
      some (IntKind.i64.wrap (a0.tdiv v1), IntKind.i64.wrap (a1.tdiv v1))
      else none
     else none
def T58 : TSpec (Int × Int) where
  enc x := [.c (.int .i64 x.1), .c (.int .i64 x.2)]
  dec a := (dInt (aCell a 0 0), dInt (aCell a 1 0))
  pre x := (r58 x.1 x.2).isSome = true
  res x := [.agg [.d (.int .i64 (((r58 x.1 x.2).getD default).1)), .d (.int .i64 (((r58 x.1 x.2).getD default).2))]]
  al := false
def tb58 : Fns := lk [(128, T128.sp)]
theorem tb58_ok : FnsOk Try.prog tb58 := .cons f128 (FnsOk.nil)
theorem tb58_128 : tb58 128 = some T128.sp := rfl
theorem v58 : Valid Try.prog 58 T58.sp := by
  refine valid_t (fn := Try.f58) (n := 20) ty_ok tb58_ok Try.func58 rfl Try.ntmps58 ?_
  rintro ⟨a0, a1⟩ hx
  obtain ⟨r, hr⟩ := Option.isSome_iff_exists.1 (show (r58 a0 a1).isSome = true from hx)
  have hres : T58.res (a0, a1) = [.agg [.d (.int .i64 r.1), .d (.int .i64 r.2)]] := by simp only [T58, hr, Option.getD_some]
  refine ⟨Nat.le_of_ble_eq_true rfl, fun stop S => ?_⟩
  rw [hres] at S
  unfold r58 at hr
  refine S.goB [] 1000 ?_
  simp (maxSteps := 10000000) only [go_sem, tb58_128, T128, T58, Option.map_some, Int.reduceToNat, Nat.reduceEqDiff, Nat.reduceLT, Nat.reduceAdd, Nat.reduceMul, Nat.reduceSub, Nat.reduceLeDiff, reduceIte, reduceCtorEq, Try.results58]
  obtain ⟨v1, hv1, hr⟩ := of_bind0 hr
  try simp only [hv1, Option.getD_some, Option.isSome_some, true_and, and_assoc]
  repeat (refine And.intro ?_ ?_; focus (first | assumption | decide +kernel | (show _ ≠ _; omega) | ((fail_if_success intro _); omega) | (show Eqv _ _; (simp (maxDischargeDepth := 8) [go_sem]))))
  refine ⟨fun hc => ?_, fun hc => ?_⟩
  · rw [if_pos (by first | exact hc | (rw [hc]; rfl) | simpa using hc | (simp at hc ⊢; omega) | simp_all)] at hr
    obtain ⟨hg2, hr⟩ := of_guard0 hr
    obtain ⟨hg3, hr⟩ := of_guard0 hr
    repeat (refine And.intro ?_ ?_; focus (first | assumption | decide +kernel | (show _ ≠ _; omega) | ((fail_if_success intro _); omega) | (show Eqv _ _; (simp (maxDischargeDepth := 8) [go_sem]))))
    obtain rfl := Option.some.inj hr
    (simp (maxDischargeDepth := 8) [go_sem])
  · rw [if_neg (by first | exact hc | (rw [hc]; rfl) | simpa using hc | (simp at hc ⊢; omega) | simp_all)] at hr
    obtain ⟨hg4, hr⟩ := of_guard0 hr
    obtain ⟨hg5, hr⟩ := of_guard0 hr
    repeat (refine And.intro ?_ ?_; focus (first | assumption | decide +kernel | (show _ ≠ _; omega) | ((fail_if_success intro _); omega) | (show Eqv _ _; (simp (maxDischargeDepth := 8) [go_sem]))))
    obtain rfl := Option.some.inj hr
    (simp (maxDischargeDepth := 8) [go_sem])
theorem f58 : FnFact Try.prog 58 T58.sp := ⟨⟨Try.f58, Try.func58, by decide, rfl⟩, v58⟩

/- martensite/martensitebase.Ceil -/
def r130 (a0 : Int) (a1 : Int) : Option (Int) :=
  (r129 (IntKind.i64.wrap (0 - a0)) a1).bind fun v1 =>
   some (IntKind.i64.wrap (0 - v1))
def T130 : TSpec (Int × Int) where
  enc x := [.c (.int .i64 x.1), .c (.int .i64 x.2)]
  dec a := (dInt (aCell a 0 0), dInt (aCell a 1 0))
  pre x := (r130 x.1 x.2).isSome = true
  res x := [.c (.d (.int .i64 ((r130 x.1 x.2).getD default)))]
  al := false
def tb130 : Fns := lk [(129, T129.sp)]
theorem tb130_ok : FnsOk Try.prog tb130 := .cons f129 (FnsOk.nil)
theorem tb130_129 : tb130 129 = some T129.sp := rfl
theorem v130 : Valid Try.prog 130 T130.sp := by
  refine valid_t (fn := Try.f130) (n := 10) ty_ok tb130_ok Try.func130 rfl Try.ntmps130 ?_
  rintro ⟨a0, a1⟩ hx
  obtain ⟨r, hr⟩ := Option.isSome_iff_exists.1 (show (r130 a0 a1).isSome = true from hx)
  have hres : T130.res (a0, a1) = [.c (.d (.int .i64 r))] := by simp only [T130, hr, Option.getD_some]
  refine ⟨Nat.le_of_ble_eq_true rfl, fun stop S => ?_⟩
  rw [hres] at S
  unfold r130 at hr
  refine S.goB [] 1000 ?_
  simp (maxSteps := 10000000) only [go_sem, tb130_129, T129, T130, Option.map_some, Int.reduceToNat, Nat.reduceEqDiff, Nat.reduceLT, Nat.reduceAdd, Nat.reduceMul, Nat.reduceSub, Nat.reduceLeDiff, reduceIte, reduceCtorEq, Try.results130]
  obtain ⟨v1, hv1, hr⟩ := of_bind0 hr
  try simp only [hv1, Option.getD_some, Option.isSome_some, true_and, and_assoc]
  repeat (refine And.intro ?_ ?_; focus (first | assumption | decide +kernel | (show _ ≠ _; omega) | ((fail_if_success intro _); omega) | (show Eqv _ _; (simp (maxDischargeDepth := 8) [go_sem]))))
  obtain rfl := Option.some.inj hr
  (simp (maxDischargeDepth := 8) [go_sem])
theorem f130 : FnFact Try.prog 130 T130.sp := ⟨⟨Try.f130, Try.func130, by decide, rfl⟩, v130⟩

/- martensite/martensiteref03.Energy -/
def b60_1 (a0_2 : List (Int × Int)) (a1 : Int) : (Int) → Ctl (Int) (Int × Int) := fun s1 =>
  if 0 ≤ s1 ∧ s1 < (a0_2.length : Int) then
   if (decide (((a0_2.getD s1.toNat default).2) < a1)) = true then
    .next (IntKind.i64.wrap (s1 + 1))
    else .out (if 0 ≤ IntKind.i64.wrap (s1 - 1) ∧ IntKind.i64.wrap (s1 - 1) < (a0_2.length : Int) then
     if 0 ≤ s1 ∧ s1 < (a0_2.length : Int) then
      (r129 (IntKind.i64.wrap ((IntKind.i64.wrap (((a0_2.getD s1.toNat default).1) - ((a0_2.getD (IntKind.i64.wrap (s1 - 1)).toNat default).1))) * (IntKind.i64.wrap (a1 - ((a0_2.getD (IntKind.i64.wrap (s1 - 1)).toNat default).2))))) (IntKind.i64.wrap (((a0_2.getD s1.toNat default).2) - ((a0_2.getD (IntKind.i64.wrap (s1 - 1)).toNat default).2)))).bind fun v1 =>
       (r130 (IntKind.i64.wrap ((IntKind.i64.wrap (((a0_2.getD s1.toNat default).1) - ((a0_2.getD (IntKind.i64.wrap (s1 - 1)).toNat default).1))) * (IntKind.i64.wrap (a1 - ((a0_2.getD (IntKind.i64.wrap (s1 - 1)).toNat default).2))))) (IntKind.i64.wrap (((a0_2.getD s1.toNat default).2) - ((a0_2.getD (IntKind.i64.wrap (s1 - 1)).toNat default).2)))).bind fun v2 =>
        some (IntKind.i64.wrap (((a0_2.getD (IntKind.i64.wrap (s1 - 1)).toNat default).1) + v1), IntKind.i64.wrap (((a0_2.getD (IntKind.i64.wrap (s1 - 1)).toNat default).1) + v2))
      else none
     else none)
   else .out none
def r60 (a0_0 : Int) (a0_1 : Int) (a0_2 : List (Int × Int)) (a0_3 : List ((List (Int × Int)))) (a1 : Int) : Option (Int × Int) :=
  iterC (b60_1 a0_2 a1) 1000000000 1
def T60 : TSpec (Int × Int × (List (Int × Int)) × (List ((List (Int × Int)))) × Int) where
  enc x := [.agg [.int .i64 x.1, .int .i64 x.2.1, encF 2 d_II x.2.2.1, encF 1 d_LIIE x.2.2.2.1], .c (.int .i64 x.2.2.2.2)]
  dec a := (dInt (aCell a 0 0), dInt (aCell a 0 1), decF g_II (aCell a 0 2), decF g_LIIE (aCell a 0 3), dInt (aCell a 1 0))
  pre x := (r60 x.1 x.2.1 x.2.2.1 x.2.2.2.1 x.2.2.2.2).isSome = true
  res x := [.agg [.d (.int .i64 (((r60 x.1 x.2.1 x.2.2.1 x.2.2.2.1 x.2.2.2.2).getD default).1)), .d (.int .i64 (((r60 x.1 x.2.1 x.2.2.1 x.2.2.2.1 x.2.2.2.2).getD default).2))]]
  al := false
def tb60 : Fns := lk [(129, T129.sp), (130, T130.sp)]
theorem tb60_ok : FnsOk Try.prog tb60 := .cons f129 (.cons f130 (FnsOk.nil))
theorem tb60_129 : tb60 129 = some T129.sp := rfl
theorem tb60_130 : tb60 130 = some T130.sp := rfl
theorem v60 : Valid Try.prog 60 T60.sp := by
  refine valid_t (fn := Try.f60) (n := 59) ty_ok tb60_ok Try.func60 rfl Try.ntmps60 ?_
  rintro ⟨a0_0, a0_1, a0_2, a0_3, a1⟩ hx
  obtain ⟨r, hr⟩ := Option.isSome_iff_exists.1 (show (r60 a0_0 a0_1 a0_2 a0_3 a1).isSome = true from hx)
  have hres : T60.res (a0_0, a0_1, a0_2, a0_3, a1) = [.agg [.d (.int .i64 r.1), .d (.int .i64 r.2)]] := by simp only [T60, hr, Option.getD_some]
  refine ⟨Nat.le_of_ble_eq_true rfl, fun stop S => ?_⟩
  rw [hres] at S
  unfold r60 at hr
  refine S.goB [] 1000 ?_
  simp (maxSteps := 10000000) only [go_sem, tb60_129, T129, tb60_130, T130, T60, Option.map_some, Int.reduceToNat, Nat.reduceEqDiff, Nat.reduceLT, Nat.reduceAdd, Nat.reduceMul, Nat.reduceSub, Nat.reduceLeDiff, reduceIte, reduceCtorEq, Try.results60]
  repeat (refine And.intro ?_ ?_; focus (first | assumption | decide +kernel | (show _ ≠ _; omega) | ((fail_if_success intro _); omega) | (show Eqv _ _; (simp (maxDischargeDepth := 8) [go_sem]))))
  refine S.sees [1, 2, 4, 5] [(2, 2), (4, 4)] [] ?_ (Stop.iter S (fun s1 => ⟨[(1, .c (.d (.int .i64 a1))), (2, .c (.ref 2 0)), (4, .c (.ref 4 0)), (5, .c (.d (.int .i64 s1)))], [(2, [.d (.int .i64 a0_0), .d (.int .i64 a0_1), .d (encF 2 d_II a0_2), .d (encF 1 d_LIIE a0_3)]), (4, [.d (.int .i64 0), .d (.int .i64 0)])], []⟩) (b60_1 a0_2 a1) (fun q => q = r) hr rfl ?_)
  · (simp (maxDischargeDepth := 8) [go_sem])
  · intro s1 hr
    unfold b60_1 at hr
    refine S.goB [] 1000 ?_
    simp (maxSteps := 10000000) only [go_sem, tb60_129, T129, tb60_130, T130, T60, Option.map_some, Int.reduceToNat, Nat.reduceEqDiff, Nat.reduceLT, Nat.reduceAdd, Nat.reduceMul, Nat.reduceSub, Nat.reduceLeDiff, reduceIte, reduceCtorEq, Try.results60]
    obtain ⟨hg5, hr⟩ := of_guard1 hr
    repeat (refine And.intro ?_ ?_; focus (first | assumption | decide +kernel | (show _ ≠ _; omega) | ((fail_if_success intro _); omega) | (show Eqv _ _; (simp (maxDischargeDepth := 8) [go_sem]))))
    refine ⟨fun hc => ?_, fun hc => ?_⟩
    · rw [if_pos (by first | exact hc | (rw [hc]; rfl) | simpa using hc | (simp at hc ⊢; omega) | simp_all)] at hr
      repeat (refine And.intro ?_ ?_; focus (first | assumption | decide +kernel | (show _ ≠ _; omega) | ((fail_if_success intro _); omega) | (show Eqv _ _; (simp (maxDischargeDepth := 8) [go_sem]))))
      refine S.sees [1, 2, 4, 5] [(2, 2), (4, 4)] [] ?_ hr
      (simp (maxDischargeDepth := 8) [go_sem])
    · rw [if_neg (by first | exact hc | (rw [hc]; rfl) | simpa using hc | (simp at hc ⊢; omega) | simp_all)] at hr
      repeat (refine And.intro ?_ ?_; focus (first | assumption | decide +kernel | (show _ ≠ _; omega) | ((fail_if_success intro _); omega) | (show Eqv _ _; (simp (maxDischargeDepth := 8) [go_sem]))))
      have hr := of_out0 hr
      obtain ⟨hg3, hr⟩ := of_guard0 hr
      obtain ⟨hg4, hr⟩ := of_guard0 hr
      obtain ⟨v1, hv1, hr⟩ := of_bind0 hr
      obtain ⟨v2, hv2, hr⟩ := of_bind0 hr
      try simp only [hv1, hv2, Option.getD_some, Option.isSome_some, true_and, and_assoc]
      repeat (refine And.intro ?_ ?_; focus (first | assumption | decide +kernel | (show _ ≠ _; omega) | ((fail_if_success intro _); omega) | (show Eqv _ _; (simp (maxDischargeDepth := 8) [go_sem]))))
      obtain rfl := Option.some.inj hr
      (simp (maxDischargeDepth := 8) [go_sem])
theorem f60 : FnFact Try.prog 60 T60.sp := ⟨⟨Try.f60, Try.func60, by decide, rfl⟩, v60⟩
end Go.Proofs.Ytcbiiijnaeibhaa

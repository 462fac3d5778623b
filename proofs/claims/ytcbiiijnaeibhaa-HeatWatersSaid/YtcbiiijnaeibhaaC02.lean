/- Contracts of functions, written by wip/dec. -/
import Derived.Test.YtcbiiijnaeibhaaC00
import Derived.Test.YtcbiiijnaeibhaaC01
set_option linter.unusedVariables false
set_option linter.unusedSimpArgs false
set_option maxHeartbeats 4000000
set_option maxRecDepth 8000
namespace Go.Proofs.Ytcbiiijnaeibhaa
open Go.Abs
/- martensite/heat.between$1 -/
def r155 (a0_0 : Int) (a0_1 : Int) (a1_0 : Int) (a1_1 : Int) : Option (Int) :=
  (r156 (IntKind.i64.wrap (a0_0 * a1_1)) a1_0).bind fun v1 =>
   some v1
def T155 : TSpec (Int × Int × Int × Int) where
  enc x := [.agg [.int .i64 x.1, .int .i64 x.2.1], .agg [.int .i64 x.2.2.1, .int .i64 x.2.2.2]]
  dec a := (dInt (aCell a 0 0), dInt (aCell a 0 1), dInt (aCell a 1 0), dInt (aCell a 1 1))
  pre x := (r155 x.1 x.2.1 x.2.2.1 x.2.2.2).isSome = true
  res x := [.c (.d (.int .i64 ((r155 x.1 x.2.1 x.2.2.1 x.2.2.2).getD default)))]
  al := false
def tb155 : Fns := lk [(156, T156.sp)]
theorem tb155_ok : FnsOk Try.prog tb155 := .cons f156 (FnsOk.nil)
theorem tb155_156 : tb155 156 = some T156.sp := rfl
theorem v155 : Valid Try.prog 155 T155.sp := by
  refine valid_t (fn := Try.f155) (n := 13) ty_ok tb155_ok Try.func155 rfl Try.ntmps155 ?_
  rintro ⟨a0_0, a0_1, a1_0, a1_1⟩ hx
  obtain ⟨r, hr⟩ := Option.isSome_iff_exists.1 (show (r155 a0_0 a0_1 a1_0 a1_1).isSome = true from hx)
  have hres : T155.res (a0_0, a0_1, a1_0, a1_1) = [.c (.d (.int .i64 r))] := by simp only [T155, hr, Option.getD_some]
  refine ⟨Nat.le_of_ble_eq_true rfl, fun stop S => ?_⟩
  rw [hres] at S
  unfold r155 at hr
  refine S.goB [] 1000 ?_
  simp (maxSteps := 10000000) only [go_sem, tb155_156, T156, T155, Option.map_some, Int.reduceToNat, Nat.reduceEqDiff, Nat.reduceLT, Nat.reduceAdd, Nat.reduceMul, Nat.reduceSub, Nat.reduceLeDiff, reduceIte, reduceCtorEq, Try.results155]
  obtain ⟨v1, hv1, hr⟩ := of_bind0 hr
  try simp only [hv1, Option.getD_some, Option.isSome_some, true_and, and_assoc]
  repeat (refine And.intro ?_ ?_; focus (first | assumption | decide +kernel | omega | (show Eqv _ _; (simp (maxDischargeDepth := 8) [go_sem]))))
  obtain rfl := Option.some.inj hr
  (simp (maxDischargeDepth := 8) [go_sem])
theorem f155 : FnFact Try.prog 155 T155.sp := ⟨⟨Try.f155, Try.func155, by decide, rfl⟩, v155⟩

/- slices.BinarySearchFunc[[]martensite/heat.pair,martensite/heat.pair,martensite/heat.ratio] -/
def b154_1 (a0 : List (Int × Int)) (a1_0 : Int) (a1_1 : Int) : (Int × Int) → Ctl (Int × Int) (Int × Bool) := fun s1 =>
  if (decide (s1.1 < s1.2)) = true then
   if 0 ≤ IntKind.i64.wrap ((IntKind.u64.wrap (IntKind.i64.wrap (s1.1 + s1.2))) / 2 ^ 1) ∧ IntKind.i64.wrap ((IntKind.u64.wrap (IntKind.i64.wrap (s1.1 + s1.2))) / 2 ^ 1) < (a0.length : Int) then
    bindC (r155 ((a0.getD (IntKind.i64.wrap ((IntKind.u64.wrap (IntKind.i64.wrap (s1.1 + s1.2))) / 2 ^ 1)).toNat default).1) ((a0.getD (IntKind.i64.wrap ((IntKind.u64.wrap (IntKind.i64.wrap (s1.1 + s1.2))) / 2 ^ 1)).toNat default).2) a1_0 a1_1) fun v1 =>
     if (decide (v1 < 0)) = true then
      .next (IntKind.i64.wrap ((IntKind.i64.wrap ((IntKind.u64.wrap (IntKind.i64.wrap (s1.1 + s1.2))) / 2 ^ 1)) + 1), s1.2)
      else .next (s1.1, IntKind.i64.wrap ((IntKind.u64.wrap (IntKind.i64.wrap (s1.1 + s1.2))) / 2 ^ 1))
    else .out none
   else .out (if (decide (s1.1 < (a0.length : Int))) = true → 0 ≤ s1.1 ∧ s1.1 < (a0.length : Int) then
    if (decide (s1.1 < (a0.length : Int))) = true → (r155 ((a0.getD s1.1.toNat default).1) ((a0.getD s1.1.toNat default).2) a1_0 a1_1).isSome = true then
     some (s1.1, (decide (s1.1 < (a0.length : Int))) && (((r155 ((a0.getD s1.1.toNat default).1) ((a0.getD s1.1.toNat default).2) a1_0 a1_1).getD default) == 0))
     else none
    else none)
def r154 (a0 : List (Int × Int)) (a1_0 : Int) (a1_1 : Int) : Option (Int × Bool) :=
  iterC (b154_1 a0 a1_0 a1_1) 1000000000 (0, (a0.length : Int))
def T154 : TSpec ((List (Int × Int)) × Int × Int) where
  enc x := [.c (encF 2 d_II x.1), .agg [.int .i64 x.2.1, .int .i64 x.2.2], .clo 155 []]
  dec a := (decF g_II (aCell a 0 0), dInt (aCell a 1 0), dInt (aCell a 1 1))
  pre x := (r154 x.1 x.2.1 x.2.2).isSome = true
  res x := [.c (.d (.int .i64 (((r154 x.1 x.2.1 x.2.2).getD default).1))), .c (.d (.bool (((r154 x.1 x.2.1 x.2.2).getD default).2)))]
  al := false
def tb154 : Fns := lk [(155, T155.sp)]
theorem tb154_ok : FnsOk Try.prog tb154 := .cons f155 (FnsOk.nil)
theorem tb154_155 : tb154 155 = some T155.sp := rfl
theorem v154 : Valid Try.prog 154 T154.sp := by
  refine valid_t (fn := Try.f154) (n := 49) ty_ok tb154_ok Try.func154 rfl Try.ntmps154 ?_
  rintro ⟨a0, a1_0, a1_1⟩ hx
  obtain ⟨r, hr⟩ := Option.isSome_iff_exists.1 (show (r154 a0 a1_0 a1_1).isSome = true from hx)
  have hres : T154.res (a0, a1_0, a1_1) = [.c (.d (.int .i64 r.1)), .c (.d (.bool r.2))] := by simp only [T154, hr, Option.getD_some]
  refine ⟨Nat.le_of_ble_eq_true rfl, fun stop S => ?_⟩
  rw [hres] at S
  unfold r154 at hr
  refine S.goB [] 1000 ?_
  simp (maxSteps := 10000000) only [go_sem, tb154_155, T155, T154, Option.map_some, Int.reduceToNat, Nat.reduceEqDiff, Nat.reduceLT, Nat.reduceAdd, Nat.reduceMul, Nat.reduceSub, Nat.reduceLeDiff, reduceIte, reduceCtorEq, Try.results154]
  repeat (refine And.intro ?_ ?_; focus (first | assumption | decide +kernel | omega | (show Eqv _ _; (simp (maxDischargeDepth := 8) [go_sem]))))
  refine S.sees [0, 2, 4, 8, 9, 10] [(4, 4)] [] ?_ (Stop.iter S (fun s1 => ⟨[(0, .c (.d (encF 2 d_II a0))), (2, .c (.clo 155 [])), (4, .c (.ref 4 0)), (8, .c (.d (.int .i64 (a0.length : Int)))), (9, .c (.d (.int .i64 s1.1))), (10, .c (.d (.int .i64 s1.2)))], [(4, [.d (.int .i64 a1_0), .d (.int .i64 a1_1)])], []⟩) (b154_1 a0 a1_0 a1_1) (fun q => q = r) hr rfl ?_)
  · (simp (maxDischargeDepth := 8) [go_sem])
  · intro s1 hr
    unfold b154_1 at hr
    refine S.goB [] 1000 ?_
    simp (maxSteps := 10000000) only [go_sem, tb154_155, T155, T154, Option.map_some, Int.reduceToNat, Nat.reduceEqDiff, Nat.reduceLT, Nat.reduceAdd, Nat.reduceMul, Nat.reduceSub, Nat.reduceLeDiff, reduceIte, reduceCtorEq, Try.results154]
    repeat (refine And.intro ?_ ?_; focus (first | assumption | decide +kernel | omega | (show Eqv _ _; (simp (maxDischargeDepth := 8) [go_sem]))))
    refine ⟨fun hc => ?_, fun hc => ?_⟩
    · rw [if_pos (by first | exact hc | (rw [hc]; rfl) | simpa using hc | (simp at hc ⊢; omega) | simp_all)] at hr
      obtain ⟨hg2, hr⟩ := of_guard1 hr
      obtain ⟨v1, hv1, hr⟩ := of_bind1 hr
      try simp only [hv1, Option.getD_some, Option.isSome_some, true_and, and_assoc]
      repeat (refine And.intro ?_ ?_; focus (first | assumption | decide +kernel | omega | (show Eqv _ _; (simp (maxDischargeDepth := 8) [go_sem]))))
      refine ⟨fun hc => ?_, fun hc => ?_⟩
      · rw [if_pos (by first | exact hc | (rw [hc]; rfl) | simpa using hc | (simp at hc ⊢; omega) | simp_all)] at hr
        repeat (refine And.intro ?_ ?_; focus (first | assumption | decide +kernel | omega | (show Eqv _ _; (simp (maxDischargeDepth := 8) [go_sem]))))
        refine S.sees [0, 2, 4, 8, 9, 10] [(4, 4)] [] ?_ hr
        (simp (maxDischargeDepth := 8) [go_sem])
      · rw [if_neg (by first | exact hc | (rw [hc]; rfl) | simpa using hc | (simp at hc ⊢; omega) | simp_all)] at hr
        repeat (refine And.intro ?_ ?_; focus (first | assumption | decide +kernel | omega | (show Eqv _ _; (simp (maxDischargeDepth := 8) [go_sem]))))
        refine S.sees [0, 2, 4, 8, 9, 10] [(4, 4)] [] ?_ hr
        (simp (maxDischargeDepth := 8) [go_sem])
    · rw [if_neg (by first | exact hc | (rw [hc]; rfl) | simpa using hc | (simp at hc ⊢; omega) | simp_all)] at hr
      repeat (refine And.intro ?_ ?_; focus (first | assumption | decide +kernel | omega | (show Eqv _ _; (simp (maxDischargeDepth := 8) [go_sem]))))
      have hr := of_out0 hr
      obtain ⟨hg3, hr⟩ := of_guard0 hr
      obtain ⟨hg4, hr⟩ := of_guard0 hr
      repeat (refine And.intro ?_ ?_; focus (first | assumption | decide +kernel | omega | (show Eqv _ _; (simp (maxDischargeDepth := 8) [go_sem])) | (intro hq; first | exact hg3 (by first | exact hq | (rw [hq]; rfl) | simpa using hq) | (have h9 := hg3 (by first | exact hq | (rw [hq]; rfl) | simpa using hq); first | omega | (simpa using h9)) | exact hg4 (by first | exact hq | (rw [hq]; rfl) | simpa using hq) | (have h9 := hg4 (by first | exact hq | (rw [hq]; rfl) | simpa using hq); first | omega | (simpa using h9)) | exact hq.1 | exact hq) | (simp +contextual; done)))
      obtain rfl := Option.some.inj hr
      (simp (maxDischargeDepth := 8) [go_sem])
theorem f154 : FnFact Try.prog 154 T154.sp := ⟨⟨Try.f154, Try.func154, by decide, rfl⟩, v154⟩

/- martensite/heat.between -/
def r123 (a0 : List (Int × Int)) (a1_0 : Int) (a1_1 : Int) : Option (Int × Int) :=
  (r154 a0 a1_0 a1_1).bind fun v1 =>
   if ((a0.length : Int) == 0) = true then
    some (0, 1)
    else if (v1.1 == 0) = true then
     if 0 ≤ 0 ∧ 0 < (a0.length : Int) then
      some ((a0.getD 0 default).2, 1)
      else none
     else if (v1.1 == (a0.length : Int)) = true then
      if 0 ≤ IntKind.i64.wrap (v1.1 - 1) ∧ IntKind.i64.wrap (v1.1 - 1) < (a0.length : Int) then
       some ((a0.getD (IntKind.i64.wrap (v1.1 - 1)).toNat default).2, 1)
       else none
      else if 0 ≤ IntKind.i64.wrap (v1.1 - 1) ∧ IntKind.i64.wrap (v1.1 - 1) < (a0.length : Int) then
       if 0 ≤ v1.1 ∧ v1.1 < (a0.length : Int) then
        some (IntKind.i64.wrap ((IntKind.i64.wrap (((a0.getD (IntKind.i64.wrap (v1.1 - 1)).toNat default).2) * (IntKind.i64.wrap ((IntKind.i64.wrap (((a0.getD v1.1.toNat default).1) - ((a0.getD (IntKind.i64.wrap (v1.1 - 1)).toNat default).1))) * a1_1)))) + (IntKind.i64.wrap ((IntKind.i64.wrap (((a0.getD v1.1.toNat default).2) - ((a0.getD (IntKind.i64.wrap (v1.1 - 1)).toNat default).2))) * (IntKind.i64.wrap (a1_0 - (IntKind.i64.wrap (((a0.getD (IntKind.i64.wrap (v1.1 - 1)).toNat default).1) * a1_1))))))), IntKind.i64.wrap ((IntKind.i64.wrap (((a0.getD v1.1.toNat default).1) - ((a0.getD (IntKind.i64.wrap (v1.1 - 1)).toNat default).1))) * a1_1))
        else none
       else none
def T123 : TSpec ((List (Int × Int)) × Int × Int) where
  enc x := [.c (encF 2 d_II x.1), .agg [.int .i64 x.2.1, .int .i64 x.2.2]]
  dec a := (decF g_II (aCell a 0 0), dInt (aCell a 1 0), dInt (aCell a 1 1))
  pre x := (r123 x.1 x.2.1 x.2.2).isSome = true
  res x := [.agg [.d (.int .i64 (((r123 x.1 x.2.1 x.2.2).getD default).1)), .d (.int .i64 (((r123 x.1 x.2.1 x.2.2).getD default).2))]]
  al := false
def tb123 : Fns := lk [(154, T154.sp)]
theorem tb123_ok : FnsOk Try.prog tb123 := .cons f154 (FnsOk.nil)
theorem tb123_154 : tb123 154 = some T154.sp := rfl
theorem v123 : Valid Try.prog 123 T123.sp := by
  refine valid_t (fn := Try.f123) (n := 79) ty_ok tb123_ok Try.func123 rfl Try.ntmps123 ?_
  rintro ⟨a0, a1_0, a1_1⟩ hx
  obtain ⟨r, hr⟩ := Option.isSome_iff_exists.1 (show (r123 a0 a1_0 a1_1).isSome = true from hx)
  have hres : T123.res (a0, a1_0, a1_1) = [.agg [.d (.int .i64 r.1), .d (.int .i64 r.2)]] := by simp only [T123, hr, Option.getD_some]
  refine ⟨Nat.le_of_ble_eq_true rfl, fun stop S => ?_⟩
  rw [hres] at S
  unfold r123 at hr
  refine S.goB [] 1000 ?_
  simp (maxSteps := 10000000) only [go_sem, tb123_154, T154, T123, Option.map_some, Int.reduceToNat, Nat.reduceEqDiff, Nat.reduceLT, Nat.reduceAdd, Nat.reduceMul, Nat.reduceSub, Nat.reduceLeDiff, reduceIte, reduceCtorEq, Try.results123]
  obtain ⟨v1, hv1, hr⟩ := of_bind0 hr
  try simp only [hv1, Option.getD_some, Option.isSome_some, true_and, and_assoc]
  repeat (refine And.intro ?_ ?_; focus (first | assumption | decide +kernel | omega | (show Eqv _ _; (simp (maxDischargeDepth := 8) [go_sem]))))
  refine ⟨fun hc => ?_, fun hc => ?_⟩
  · rw [if_pos (by first | exact hc | (rw [hc]; rfl) | simpa using hc | (simp at hc ⊢; omega) | simp_all)] at hr
    repeat (refine And.intro ?_ ?_; focus (first | assumption | decide +kernel | omega | (show Eqv _ _; (simp (maxDischargeDepth := 8) [go_sem]))))
    obtain rfl := Option.some.inj hr
    (simp (maxDischargeDepth := 8) [go_sem])
  · rw [if_neg (by first | exact hc | (rw [hc]; rfl) | simpa using hc | (simp at hc ⊢; omega) | simp_all)] at hr
    repeat (refine And.intro ?_ ?_; focus (first | assumption | decide +kernel | omega | (show Eqv _ _; (simp (maxDischargeDepth := 8) [go_sem]))))
    refine ⟨fun hc => ?_, fun hc => ?_⟩
    · rw [if_pos (by first | exact hc | (rw [hc]; rfl) | simpa using hc | (simp at hc ⊢; omega) | simp_all)] at hr
      obtain ⟨hg2, hr⟩ := of_guard0 hr
      repeat (refine And.intro ?_ ?_; focus (first | assumption | decide +kernel | omega | (show Eqv _ _; (simp (maxDischargeDepth := 8) [go_sem]))))
      obtain rfl := Option.some.inj hr
      (simp (maxDischargeDepth := 8) [go_sem])
    · rw [if_neg (by first | exact hc | (rw [hc]; rfl) | simpa using hc | (simp at hc ⊢; omega) | simp_all)] at hr
      repeat (refine And.intro ?_ ?_; focus (first | assumption | decide +kernel | omega | (show Eqv _ _; (simp (maxDischargeDepth := 8) [go_sem]))))
      refine ⟨fun hc => ?_, fun hc => ?_⟩
      · rw [if_pos (by first | exact hc | (rw [hc]; rfl) | simpa using hc | (simp at hc ⊢; omega) | simp_all)] at hr
        obtain ⟨hg3, hr⟩ := of_guard0 hr
        repeat (refine And.intro ?_ ?_; focus (first | assumption | decide +kernel | omega | (show Eqv _ _; (simp (maxDischargeDepth := 8) [go_sem]))))
        obtain rfl := Option.some.inj hr
        (simp (maxDischargeDepth := 8) [go_sem])
      · rw [if_neg (by first | exact hc | (rw [hc]; rfl) | simpa using hc | (simp at hc ⊢; omega) | simp_all)] at hr
        obtain ⟨hg4, hr⟩ := of_guard0 hr
        obtain ⟨hg5, hr⟩ := of_guard0 hr
        repeat (refine And.intro ?_ ?_; focus (first | assumption | decide +kernel | omega | (show Eqv _ _; (simp (maxDischargeDepth := 8) [go_sem]))))
        obtain rfl := Option.some.inj hr
        (simp (maxDischargeDepth := 8) [go_sem])
theorem f123 : FnFact Try.prog 123 T123.sp := ⟨⟨Try.f123, Try.func123, by decide, rfl⟩, v123⟩

/- martensite/heat.lawErr -/
def b100_2 (v10 : (List (Int × Int))) (v11 : (List (Int × Int))) (v12 : (List (Int × Int))) : (Int) → Ctl (Int) (Int) := fun s2 =>
  if (decide (s2 < (v12.length : Int))) = true then
   if 0 ≤ s2 ∧ s2 < (v12.length : Int) then
    bindC (r123 v10 ((v12.getD s2.toNat default).1) 1) fun v13 =>
     bindC (r123 v11 ((v12.getD s2.toNat default).1) 1) fun v14 =>
      if (decide ((IntKind.i64.wrap (v13.1 * v14.2)) < (IntKind.i64.wrap (v14.1 * v13.2)))) = true then
       .out (some 13)
       else .next (IntKind.i64.wrap (s2 + 1))
    else .out none
   else .out (some 0)
def b100_1 (a0 : List (Int × Int)) (a1 : List (Int × Int)) : (Int) → Ctl (Int) (Int) := fun s1 =>
  if (decide (s1 < (a0.length : Int))) = true then
   if 0 ≤ s1 ∧ s1 < (a0.length : Int) then
    bindC (r140 ((a0.getD s1.toNat default).1)) fun v1 =>
     if v1 = true → (r90 ((a0.getD s1.toNat default).2) 0 1000).isSome = true then
      bindC (r94 (v1 && ((r90 ((a0.getD s1.toNat default).2) 0 1000).getD default)) 2) fun v2 =>
       if ((v2 == 0) && (decide (s1 > 0))) = true then
        if 0 ≤ IntKind.i64.wrap (s1 - 1) ∧ IntKind.i64.wrap (s1 - 1) < (a0.length : Int) then
         if 0 ≤ IntKind.i64.wrap (s1 - 1) ∧ IntKind.i64.wrap (s1 - 1) < (a0.length : Int) then
          bindC (r94 ((decide ((IntKind.i64.wrap (((a0.getD s1.toNat default).1) - ((a0.getD (IntKind.i64.wrap (s1 - 1)).toNat default).1))) > 0)) && (decide ((IntKind.i64.wrap (((a0.getD s1.toNat default).2) - ((a0.getD (IntKind.i64.wrap (s1 - 1)).toNat default).2))) ≥ 0))) 9) fun v3 =>
           bindC (r94 (decide ((IntKind.i64.wrap (2 * (IntKind.i64.wrap (((a0.getD s1.toNat default).2) - ((a0.getD (IntKind.i64.wrap (s1 - 1)).toNat default).2))))) ≤ (IntKind.i64.wrap (((a0.getD s1.toNat default).1) - ((a0.getD (IntKind.i64.wrap (s1 - 1)).toNat default).1))))) 22) fun v4 =>
            bindC (r91 [v3, v4]) fun v5 =>
             if (v5 != 0) = true then
              .out (some v5)
              else .next (IntKind.i64.wrap (s1 + 1))
          else .out none
         else .out none
        else if (v2 != 0) = true then
         .out (some v2)
         else .next (IntKind.i64.wrap (s1 + 1))
      else .out none
    else .out none
   else .out ((r148 a0).bind fun v10 =>
    (r148 a1).bind fun v11 =>
     (r149 [v10, v11]).bind fun v12 =>
      iterC (b100_2 v10 v11 v12) 1000000000 0)
def r100 (a0 : List (Int × Int)) (a1 : List (Int × Int)) : Option (Int) :=
  if (decide ((a0.length : Int) > 6)) = true then
   some 8
   else iterC (b100_1 a0 a1) 1000000000 0
def T100 : TSpec ((List (Int × Int)) × (List (Int × Int))) where
  enc x := [.c (encF 2 d_II x.1), .c (encF 2 d_II x.2)]
  dec a := (decF g_II (aCell a 0 0), decF g_II (aCell a 1 0))
  pre x := (r100 x.1 x.2).isSome = true
  res x := [.c (.d (.int .i64 ((r100 x.1 x.2).getD default)))]
  al := false
def tb100 : Fns := lk [(90, T90.sp), (91, T91.sp), (94, T94.sp), (123, T123.sp), (140, T140.sp), (148, T148.sp), (149, T149.sp)]
theorem tb100_ok : FnsOk Try.prog tb100 := .cons f90 (.cons f91 (.cons f94 (.cons f123 (.cons f140 (.cons f148 (.cons f149 (FnsOk.nil)))))))
theorem tb100_90 : tb100 90 = some T90.sp := rfl
theorem tb100_91 : tb100 91 = some T91.sp := rfl
theorem tb100_94 : tb100 94 = some T94.sp := rfl
theorem tb100_123 : tb100 123 = some T123.sp := rfl
theorem tb100_140 : tb100 140 = some T140.sp := rfl
theorem tb100_148 : tb100 148 = some T148.sp := rfl
theorem tb100_149 : tb100 149 = some T149.sp := rfl
theorem v100 : Valid Try.prog 100 T100.sp := by
  refine valid_t (fn := Try.f100) (n := 112) ty_ok tb100_ok Try.func100 rfl Try.ntmps100 ?_
  rintro ⟨a0, a1⟩ hx
  obtain ⟨r, hr⟩ := Option.isSome_iff_exists.1 (show (r100 a0 a1).isSome = true from hx)
  have hres : T100.res (a0, a1) = [.c (.d (.int .i64 r))] := by simp only [T100, hr, Option.getD_some]
  refine ⟨Nat.le_of_ble_eq_true rfl, fun stop S => ?_⟩
  rw [hres] at S
  unfold r100 at hr
  refine S.goB [] 1000 ?_
  simp (maxSteps := 10000000) only [go_sem, tb100_90, T90, tb100_91, T91, tb100_94, T94, tb100_123, T123, tb100_140, T140, tb100_148, T148, tb100_149, T149, T100, Option.map_some, Int.reduceToNat, Nat.reduceEqDiff, Nat.reduceLT, Nat.reduceAdd, Nat.reduceMul, Nat.reduceSub, Nat.reduceLeDiff, reduceIte, reduceCtorEq, Try.results100]
  repeat (refine And.intro ?_ ?_; focus (first | assumption | decide +kernel | omega | (show Eqv _ _; (simp (maxDischargeDepth := 8) [go_sem]))))
  refine ⟨fun hc => ?_, fun hc => ?_⟩
  · rw [if_pos (by first | exact hc | (rw [hc]; rfl) | simpa using hc | (simp at hc ⊢; omega) | simp_all)] at hr
    repeat (refine And.intro ?_ ?_; focus (first | assumption | decide +kernel | omega | (show Eqv _ _; (simp (maxDischargeDepth := 8) [go_sem]))))
    obtain rfl := Option.some.inj hr
    (simp (maxDischargeDepth := 8) [go_sem])
  · rw [if_neg (by first | exact hc | (rw [hc]; rfl) | simpa using hc | (simp at hc ⊢; omega) | simp_all)] at hr
    repeat (refine And.intro ?_ ?_; focus (first | assumption | decide +kernel | omega | (show Eqv _ _; (simp (maxDischargeDepth := 8) [go_sem]))))
    refine S.sees [0, 1, 20, 21, 22] [] [] ?_ (Stop.iter S (fun s1 => ⟨[(0, .c (.d (encF 2 d_II a0))), (1, .c (.d (encF 2 d_II a1))), (20, .c (.d (encF 2 d_II a0))), (21, .c (.d (.int .i64 (a0.length : Int)))), (22, .c (.d (.int .i64 s1)))], [], []⟩) (b100_1 a0 a1) (fun q => q = r) hr rfl ?_)
    · (simp (maxDischargeDepth := 8) [go_sem])
    · intro s1 hr
      unfold b100_1 at hr
      refine S.goB [] 1000 ?_
      simp (maxSteps := 10000000) only [go_sem, tb100_90, T90, tb100_91, T91, tb100_94, T94, tb100_123, T123, tb100_140, T140, tb100_148, T148, tb100_149, T149, T100, Option.map_some, Int.reduceToNat, Nat.reduceEqDiff, Nat.reduceLT, Nat.reduceAdd, Nat.reduceMul, Nat.reduceSub, Nat.reduceLeDiff, reduceIte, reduceCtorEq, Try.results100]
      repeat (refine And.intro ?_ ?_; focus (first | assumption | decide +kernel | omega | (show Eqv _ _; (simp (maxDischargeDepth := 8) [go_sem]))))
      refine ⟨fun hc => ?_, fun hc => ?_⟩
      · rw [if_pos (by first | exact hc | (rw [hc]; rfl) | simpa using hc | (simp at hc ⊢; omega) | simp_all)] at hr
        obtain ⟨hg8, hr⟩ := of_guard1 hr
        obtain ⟨v1, hv1, hr⟩ := of_bind1 hr
        obtain ⟨hg9, hr⟩ := of_guard1 hr
        obtain ⟨v2, hv2, hr⟩ := of_bind1 hr
        try simp only [hv1, hv2, Option.getD_some, Option.isSome_some, true_and, and_assoc]
        repeat (refine And.intro ?_ ?_; focus (first | assumption | decide +kernel | omega | (show Eqv _ _; (simp (maxDischargeDepth := 8) [go_sem])) | (intro hq; first | exact hg9 (by first | exact hq | (rw [hq]; rfl) | simpa using hq) | (have h9 := hg9 (by first | exact hq | (rw [hq]; rfl) | simpa using hq); first | omega | (simpa using h9)) | exact hq.1 | exact hq) | (simp +contextual; done)))
        refine ⟨fun hc => ?_, fun hc => ?_⟩
        · rw [if_pos (by first | exact hc | (rw [hc]; rfl) | simpa using hc | (simp at hc ⊢; omega) | simp_all)] at hr
          obtain ⟨hg6, hr⟩ := of_guard1 hr
          obtain ⟨hg7, hr⟩ := of_guard1 hr
          obtain ⟨v3, hv3, hr⟩ := of_bind1 hr
          obtain ⟨v4, hv4, hr⟩ := of_bind1 hr
          obtain ⟨v5, hv5, hr⟩ := of_bind1 hr
          try simp only [hv3, hv4, hv5, Option.getD_some, Option.isSome_some, true_and, and_assoc]
          repeat (refine And.intro ?_ ?_; focus (first | assumption | decide +kernel | omega | (show Eqv _ _; (simp (maxDischargeDepth := 8) [go_sem])) | (intro hq; first | exact hq.1 | exact hq) | (simp +contextual; done)))
          refine ⟨fun hc => ?_, fun hc => ?_⟩
          · rw [if_pos (by first | exact hc | (rw [hc]; rfl) | simpa using hc | (simp at hc ⊢; omega) | simp_all)] at hr
            repeat (refine And.intro ?_ ?_; focus (first | assumption | decide +kernel | omega | (show Eqv _ _; (simp (maxDischargeDepth := 8) [go_sem]))))
            have hr := of_out0 hr
            obtain rfl := Option.some.inj hr
            (simp (maxDischargeDepth := 8) [go_sem])
          · rw [if_neg (by first | exact hc | (rw [hc]; rfl) | simpa using hc | (simp at hc ⊢; omega) | simp_all)] at hr
            repeat (refine And.intro ?_ ?_; focus (first | assumption | decide +kernel | omega | (show Eqv _ _; (simp (maxDischargeDepth := 8) [go_sem]))))
            refine S.sees [0, 1, 20, 21, 22] [] [] ?_ hr
            (simp (maxDischargeDepth := 8) [go_sem])
        · rw [if_neg (by first | exact hc | (rw [hc]; rfl) | simpa using hc | (simp at hc ⊢; omega) | simp_all)] at hr
          repeat (refine And.intro ?_ ?_; focus (first | assumption | decide +kernel | omega | (show Eqv _ _; (simp (maxDischargeDepth := 8) [go_sem]))))
          refine ⟨fun hc => ?_, fun hc => ?_⟩
          · rw [if_pos (by first | exact hc | (rw [hc]; rfl) | simpa using hc | (simp at hc ⊢; omega) | simp_all)] at hr
            repeat (refine And.intro ?_ ?_; focus (first | assumption | decide +kernel | omega | (show Eqv _ _; (simp (maxDischargeDepth := 8) [go_sem]))))
            have hr := of_out0 hr
            obtain rfl := Option.some.inj hr
            (simp (maxDischargeDepth := 8) [go_sem])
          · rw [if_neg (by first | exact hc | (rw [hc]; rfl) | simpa using hc | (simp at hc ⊢; omega) | simp_all)] at hr
            repeat (refine And.intro ?_ ?_; focus (first | assumption | decide +kernel | omega | (show Eqv _ _; (simp (maxDischargeDepth := 8) [go_sem]))))
            refine S.sees [0, 1, 20, 21, 22] [] [] ?_ hr
            (simp (maxDischargeDepth := 8) [go_sem])
      · rw [if_neg (by first | exact hc | (rw [hc]; rfl) | simpa using hc | (simp at hc ⊢; omega) | simp_all)] at hr
        repeat (refine And.intro ?_ ?_; focus (first | assumption | decide +kernel | omega | (show Eqv _ _; (simp (maxDischargeDepth := 8) [go_sem]))))
        have hr := of_out0 hr
        obtain ⟨v10, hv10, hr⟩ := of_bind0 hr
        obtain ⟨v11, hv11, hr⟩ := of_bind0 hr
        obtain ⟨v12, hv12, hr⟩ := of_bind0 hr
        try simp only [hv10, hv11, hv12, Option.getD_some, Option.isSome_some, true_and, and_assoc]
        repeat (refine And.intro ?_ ?_; focus (first | assumption | decide +kernel | omega | (show Eqv _ _; (simp (maxDischargeDepth := 8) [go_sem]))))
        refine S.sees [10, 11, 85, 86, 87] [] [(79, 79), (81, 81), (85, 85)] ?_ (Stop.iter S (fun s2 => ⟨[(10, .c (.own 79)), (11, .c (.own 81)), (85, .c (.own 85)), (86, .c (.d (.int .i64 (v12.length : Int)))), (87, .c (.d (.int .i64 s2)))], [], [(79, .shared (encF 2 d_II v10)), (81, .shared (encF 2 d_II v11)), (85, .owned (encF 2 d_II v12))]⟩) (b100_2 v10 v11 v12) (fun q => q = r) hr rfl ?_)
        · (simp (maxDischargeDepth := 8) [go_sem])
        · intro s2 hr
          unfold b100_2 at hr
          refine S.goB [] 1000 ?_
          simp (maxSteps := 10000000) only [go_sem, tb100_90, T90, tb100_91, T91, tb100_94, T94, tb100_123, T123, tb100_140, T140, tb100_148, T148, tb100_149, T149, T100, Option.map_some, Int.reduceToNat, Nat.reduceEqDiff, Nat.reduceLT, Nat.reduceAdd, Nat.reduceMul, Nat.reduceSub, Nat.reduceLeDiff, reduceIte, reduceCtorEq, Try.results100]
          repeat (refine And.intro ?_ ?_; focus (first | assumption | decide +kernel | omega | (show Eqv _ _; (simp (maxDischargeDepth := 8) [go_sem]))))
          refine ⟨fun hc => ?_, fun hc => ?_⟩
          · rw [if_pos (by first | exact hc | (rw [hc]; rfl) | simpa using hc | (simp at hc ⊢; omega) | simp_all)] at hr
            obtain ⟨hg15, hr⟩ := of_guard1 hr
            obtain ⟨v13, hv13, hr⟩ := of_bind1 hr
            obtain ⟨v14, hv14, hr⟩ := of_bind1 hr
            try simp only [hv13, hv14, Option.getD_some, Option.isSome_some, true_and, and_assoc]
            repeat (refine And.intro ?_ ?_; focus (first | assumption | decide +kernel | omega | (show Eqv _ _; (simp (maxDischargeDepth := 8) [go_sem]))))
            refine ⟨fun hc => ?_, fun hc => ?_⟩
            · rw [if_pos (by first | exact hc | (rw [hc]; rfl) | simpa using hc | (simp at hc ⊢; omega) | simp_all)] at hr
              repeat (refine And.intro ?_ ?_; focus (first | assumption | decide +kernel | omega | (show Eqv _ _; (simp (maxDischargeDepth := 8) [go_sem]))))
              have hr := of_out0 hr
              obtain rfl := Option.some.inj hr
              (simp (maxDischargeDepth := 8) [go_sem])
            · rw [if_neg (by first | exact hc | (rw [hc]; rfl) | simpa using hc | (simp at hc ⊢; omega) | simp_all)] at hr
              repeat (refine And.intro ?_ ?_; focus (first | assumption | decide +kernel | omega | (show Eqv _ _; (simp (maxDischargeDepth := 8) [go_sem]))))
              refine S.sees [10, 11, 85, 86, 87] [] [(79, 79), (81, 81), (85, 85)] ?_ hr
              (simp (maxDischargeDepth := 8) [go_sem])
          · rw [if_neg (by first | exact hc | (rw [hc]; rfl) | simpa using hc | (simp at hc ⊢; omega) | simp_all)] at hr
            repeat (refine And.intro ?_ ?_; focus (first | assumption | decide +kernel | omega | (show Eqv _ _; (simp (maxDischargeDepth := 8) [go_sem]))))
            have hr := of_out0 hr
            repeat (refine And.intro ?_ ?_; focus (first | assumption | decide +kernel | omega | (show Eqv _ _; (simp (maxDischargeDepth := 8) [go_sem]))))
            obtain rfl := Option.some.inj hr
            (simp (maxDischargeDepth := 8) [go_sem])
theorem f100 : FnFact Try.prog 100 T100.sp := ⟨⟨Try.f100, Try.func100, by decide, rfl⟩, v100⟩

/- martensite/heat.CheckSetup -/
def b24_1 (a0_3 : List ((List (Int × Int)))) : ((List (Int × Int)) × Int) → Ctl ((List (Int × Int)) × Int) (Int × Int) := fun s1 =>
  if (decide (s1.2 < (a0_3.length : Int))) = true then
   if 0 ≤ s1.2 ∧ s1.2 < (a0_3.length : Int) then
    bindC (r100 (a0_3.getD s1.2.toNat default) s1.1) fun v3 =>
     if (v3 != 0) = true then
      .out (some (s1.2, v3))
      else .next ((a0_3.getD s1.2.toNat default), IntKind.i64.wrap (s1.2 + 1))
    else .out none
   else .out (some (0, 0))
def r24 (a0_0 : Int) (a0_1 : Int) (a0_2 : List (Int × Int)) (a0_3 : List ((List (Int × Int)))) : Option (Int × Int) :=
  (r90 a0_0 1 12).bind fun v1 =>
   if (!(!v1)) = true → (r90 a0_1 0 500).isSome = true then
    if ((!v1) || (!((r90 a0_1 0 500).getD default))) = true then
     some (0, 2)
     else (r99 a0_2).bind fun v2 =>
      if (v2.2 != 0) = true then
       some (v2.1, v2.2)
       else if (decide ((a0_3.length : Int) > 4)) = true then
        some (0, 8)
        else iterC (b24_1 a0_3) 1000000000 ([], 0)
    else none
def T24 : TSpec (Int × Int × (List (Int × Int)) × (List ((List (Int × Int))))) where
  enc x := [.agg [.int .i64 x.1, .int .i64 x.2.1, encF 2 d_II x.2.2.1, encF 1 d_LIIE x.2.2.2]]
  dec a := (dInt (aCell a 0 0), dInt (aCell a 0 1), decF g_II (aCell a 0 2), decF g_LIIE (aCell a 0 3))
  pre x := (r24 x.1 x.2.1 x.2.2.1 x.2.2.2).isSome = true
  res x := [.c (.d (.int .i64 (((r24 x.1 x.2.1 x.2.2.1 x.2.2.2).getD default).1))), .c (.d (.int .i64 (((r24 x.1 x.2.1 x.2.2.1 x.2.2.2).getD default).2)))]
  al := false
def tb24 : Fns := lk [(90, T90.sp), (99, T99.sp), (100, T100.sp)]
theorem tb24_ok : FnsOk Try.prog tb24 := .cons f90 (.cons f99 (.cons f100 (FnsOk.nil)))
theorem tb24_90 : tb24 90 = some T90.sp := rfl
theorem tb24_99 : tb24 99 = some T99.sp := rfl
theorem tb24_100 : tb24 100 = some T100.sp := rfl
theorem v24 : Valid Try.prog 24 T24.sp := by
  refine valid_t (fn := Try.f24) (n := 51) ty_ok tb24_ok Try.func24 rfl Try.ntmps24 ?_
  rintro ⟨a0_0, a0_1, a0_2, a0_3⟩ hx
  obtain ⟨r, hr⟩ := Option.isSome_iff_exists.1 (show (r24 a0_0 a0_1 a0_2 a0_3).isSome = true from hx)
  have hres : T24.res (a0_0, a0_1, a0_2, a0_3) = [.c (.d (.int .i64 r.1)), .c (.d (.int .i64 r.2))] := by simp only [T24, hr, Option.getD_some]
  refine ⟨Nat.le_of_ble_eq_true rfl, fun stop S => ?_⟩
  rw [hres] at S
  unfold r24 at hr
  refine S.goB [] 1000 ?_
  simp (maxSteps := 10000000) only [go_sem, tb24_90, T90, tb24_99, T99, tb24_100, T100, T24, Option.map_some, Int.reduceToNat, Nat.reduceEqDiff, Nat.reduceLT, Nat.reduceAdd, Nat.reduceMul, Nat.reduceSub, Nat.reduceLeDiff, reduceIte, reduceCtorEq, Try.results24]
  obtain ⟨v1, hv1, hr⟩ := of_bind0 hr
  obtain ⟨hg5, hr⟩ := of_guard0 hr
  try simp only [hv1, Option.getD_some, Option.isSome_some, true_and, and_assoc]
  repeat (refine And.intro ?_ ?_; focus (first | assumption | decide +kernel | omega | (show Eqv _ _; (simp (maxDischargeDepth := 8) [go_sem])) | (intro hq; first | exact hg5 (by first | exact hq | (rw [hq]; rfl) | simpa using hq) | (have h9 := hg5 (by first | exact hq | (rw [hq]; rfl) | simpa using hq); first | omega | (simpa using h9)) | exact hq.1 | exact hq) | (simp +contextual; done)))
  refine ⟨fun hc => ?_, fun hc => ?_⟩
  · rw [if_pos (by first | exact hc | (rw [hc]; rfl) | simpa using hc | (simp at hc ⊢; omega) | simp_all)] at hr
    repeat (refine And.intro ?_ ?_; focus (first | assumption | decide +kernel | omega | (show Eqv _ _; (simp (maxDischargeDepth := 8) [go_sem]))))
    obtain rfl := Option.some.inj hr
    (simp (maxDischargeDepth := 8) [go_sem])
  · rw [if_neg (by first | exact hc | (rw [hc]; rfl) | simpa using hc | (simp at hc ⊢; omega) | simp_all)] at hr
    obtain ⟨v2, hv2, hr⟩ := of_bind0 hr
    try simp only [hv2, Option.getD_some, Option.isSome_some, true_and, and_assoc]
    repeat (refine And.intro ?_ ?_; focus (first | assumption | decide +kernel | omega | (show Eqv _ _; (simp (maxDischargeDepth := 8) [go_sem]))))
    refine ⟨fun hc => ?_, fun hc => ?_⟩
    · rw [if_pos (by first | exact hc | (rw [hc]; rfl) | simpa using hc | (simp at hc ⊢; omega) | simp_all)] at hr
      repeat (refine And.intro ?_ ?_; focus (first | assumption | decide +kernel | omega | (show Eqv _ _; (simp (maxDischargeDepth := 8) [go_sem]))))
      obtain rfl := Option.some.inj hr
      (simp (maxDischargeDepth := 8) [go_sem])
    · rw [if_neg (by first | exact hc | (rw [hc]; rfl) | simpa using hc | (simp at hc ⊢; omega) | simp_all)] at hr
      repeat (refine And.intro ?_ ?_; focus (first | assumption | decide +kernel | omega | (show Eqv _ _; (simp (maxDischargeDepth := 8) [go_sem]))))
      refine ⟨fun hc => ?_, fun hc => ?_⟩
      · rw [if_pos (by first | exact hc | (rw [hc]; rfl) | simpa using hc | (simp at hc ⊢; omega) | simp_all)] at hr
        repeat (refine And.intro ?_ ?_; focus (first | assumption | decide +kernel | omega | (show Eqv _ _; (simp (maxDischargeDepth := 8) [go_sem]))))
        obtain rfl := Option.some.inj hr
        (simp (maxDischargeDepth := 8) [go_sem])
      · rw [if_neg (by first | exact hc | (rw [hc]; rfl) | simpa using hc | (simp at hc ⊢; omega) | simp_all)] at hr
        repeat (refine And.intro ?_ ?_; focus (first | assumption | decide +kernel | omega | (show Eqv _ _; (simp (maxDischargeDepth := 8) [go_sem]))))
        refine S.sees [6, 35, 36, 37] [] [] ?_ (Stop.iter S (fun s1 => ⟨[(6, .c (.d (encF 2 d_II s1.1))), (35, .c (.d (encF 1 d_LIIE a0_3))), (36, .c (.d (.int .i64 (a0_3.length : Int)))), (37, .c (.d (.int .i64 s1.2)))], [], []⟩) (b24_1 a0_3) (fun q => q = r) hr rfl ?_)
        · (simp (maxDischargeDepth := 8) [go_sem])
        · intro s1 hr
          unfold b24_1 at hr
          refine S.goB [] 1000 ?_
          simp (maxSteps := 10000000) only [go_sem, tb24_90, T90, tb24_99, T99, tb24_100, T100, T24, Option.map_some, Int.reduceToNat, Nat.reduceEqDiff, Nat.reduceLT, Nat.reduceAdd, Nat.reduceMul, Nat.reduceSub, Nat.reduceLeDiff, reduceIte, reduceCtorEq, Try.results24]
          repeat (refine And.intro ?_ ?_; focus (first | assumption | decide +kernel | omega | (show Eqv _ _; (simp (maxDischargeDepth := 8) [go_sem]))))
          refine ⟨fun hc => ?_, fun hc => ?_⟩
          · rw [if_pos (by first | exact hc | (rw [hc]; rfl) | simpa using hc | (simp at hc ⊢; omega) | simp_all)] at hr
            obtain ⟨hg4, hr⟩ := of_guard1 hr
            obtain ⟨v3, hv3, hr⟩ := of_bind1 hr
            try simp only [hv3, Option.getD_some, Option.isSome_some, true_and, and_assoc]
            repeat (refine And.intro ?_ ?_; focus (first | assumption | decide +kernel | omega | (show Eqv _ _; (simp (maxDischargeDepth := 8) [go_sem]))))
            refine ⟨fun hc => ?_, fun hc => ?_⟩
            · rw [if_pos (by first | exact hc | (rw [hc]; rfl) | simpa using hc | (simp at hc ⊢; omega) | simp_all)] at hr
              repeat (refine And.intro ?_ ?_; focus (first | assumption | decide +kernel | omega | (show Eqv _ _; (simp (maxDischargeDepth := 8) [go_sem]))))
              have hr := of_out0 hr
              obtain rfl := Option.some.inj hr
              (simp (maxDischargeDepth := 8) [go_sem])
            · rw [if_neg (by first | exact hc | (rw [hc]; rfl) | simpa using hc | (simp at hc ⊢; omega) | simp_all)] at hr
              repeat (refine And.intro ?_ ?_; focus (first | assumption | decide +kernel | omega | (show Eqv _ _; (simp (maxDischargeDepth := 8) [go_sem]))))
              refine S.sees [6, 35, 36, 37] [] [] ?_ hr
              (simp (maxDischargeDepth := 8) [go_sem])
          · rw [if_neg (by first | exact hc | (rw [hc]; rfl) | simpa using hc | (simp at hc ⊢; omega) | simp_all)] at hr
            repeat (refine And.intro ?_ ?_; focus (first | assumption | decide +kernel | omega | (show Eqv _ _; (simp (maxDischargeDepth := 8) [go_sem]))))
            have hr := of_out0 hr
            repeat (refine And.intro ?_ ?_; focus (first | assumption | decide +kernel | omega | (show Eqv _ _; (simp (maxDischargeDepth := 8) [go_sem]))))
            obtain rfl := Option.some.inj hr
            (simp (maxDischargeDepth := 8) [go_sem])
theorem f24 : FnFact Try.prog 24 T24.sp := ⟨⟨Try.f24, Try.func24, by decide, rfl⟩, v24⟩

/- martensite/heat.pairs -/
def b150_1 (a0 : List (Int × Int)) : ((List (Int × Int)) × Int) → Ctl ((List (Int × Int)) × Int) ((List (Int × Int))) := fun s1 =>
  if (decide (s1.2 < (a0.length : Int))) = true then
   if 0 ≤ s1.2 ∧ s1.2 < (a0.length : Int) then
    if (s1.1.length + 1) * 16 ≤ 140737488355328 ∧ s1.1.length + 1 ≤ 9223372036854775807 then
     .next (s1.1 ++ [((a0.getD s1.2.toNat default).1, (a0.getD s1.2.toNat default).2)], IntKind.i64.wrap (s1.2 + 1))
     else .out none
    else .out none
   else .out (some s1.1)
def r150 (a0 : List (Int × Int)) : Option ((List (Int × Int))) :=
  iterC (b150_1 a0) 1000000000 ([], 0)
def T150 : TSpec ((List (Int × Int))) where
  enc x := [.c (encF 2 d_II x)]
  dec a := decF g_II (aCell a 0 0)
  pre x := (r150 x).isSome = true
  res x := [.c (.own (encF 2 d_II ((r150 x).getD default)))]
  al := false
def tb150 : Fns := lk []
theorem tb150_ok : FnsOk Try.prog tb150 := FnsOk.nil
theorem v150 : Valid Try.prog 150 T150.sp := by
  refine valid_t (fn := Try.f150) (n := 22) ty_ok tb150_ok Try.func150 rfl Try.ntmps150 ?_
  rintro a0 hx
  obtain ⟨r, hr⟩ := Option.isSome_iff_exists.1 (show (r150 a0).isSome = true from hx)
  have hres : T150.res a0 = [.c (.own (encF 2 d_II r))] := by simp only [T150, hr, Option.getD_some]
  refine ⟨Nat.le_of_ble_eq_true rfl, fun stop S => ?_⟩
  rw [hres] at S
  unfold r150 at hr
  refine S.goB [] 1000 ?_
  simp (maxSteps := 10000000) only [go_sem, T150, Option.map_some, Int.reduceToNat, Nat.reduceEqDiff, Nat.reduceLT, Nat.reduceAdd, Nat.reduceMul, Nat.reduceSub, Nat.reduceLeDiff, reduceIte, reduceCtorEq, Try.results150]
  repeat (refine And.intro ?_ ?_; focus (first | assumption | decide +kernel | omega | (show Eqv _ _; (simp (maxDischargeDepth := 8) [go_sem]))))
  refine S.own0 3 1000300 2 rfl rfl ?_
  refine S.sees [3, 6, 7, 8] [] [(1000300, 1000300)] ?_ (Stop.iter S (fun s1 => ⟨[(3, .c (.own 1000300)), (6, .c (.d (encF 2 d_II a0))), (7, .c (.d (.int .i64 (a0.length : Int)))), (8, .c (.d (.int .i64 s1.2)))], [], [(1000300, .owned (encF 2 d_II s1.1))]⟩) (b150_1 a0) (fun q => q = r) hr rfl ?_)
  · (simp (maxDischargeDepth := 8) [go_sem])
  · intro s1 hr
    unfold b150_1 at hr
    refine S.goB [] 1000 ?_
    simp (maxSteps := 10000000) only [go_sem, T150, Option.map_some, Int.reduceToNat, Nat.reduceEqDiff, Nat.reduceLT, Nat.reduceAdd, Nat.reduceMul, Nat.reduceSub, Nat.reduceLeDiff, reduceIte, reduceCtorEq, Try.results150]
    repeat (refine And.intro ?_ ?_; focus (first | assumption | decide +kernel | omega | (show Eqv _ _; (simp (maxDischargeDepth := 8) [go_sem]))))
    refine ⟨fun hc => ?_, fun hc => ?_⟩
    · rw [if_pos (by first | exact hc | (rw [hc]; rfl) | simpa using hc | (simp at hc ⊢; omega) | simp_all)] at hr
      obtain ⟨hg1, hr⟩ := of_guard1 hr
      obtain ⟨hg2, hr⟩ := of_guard1 hr
      repeat (refine And.intro ?_ ?_; focus (first | assumption | decide +kernel | omega | (show Eqv _ _; (simp (maxDischargeDepth := 8) [go_sem]))))
      refine S.sees [3, 6, 7, 8] [] [(19, 1000300)] ?_ hr
      (simp (maxDischargeDepth := 8) [go_sem])
    · rw [if_neg (by first | exact hc | (rw [hc]; rfl) | simpa using hc | (simp at hc ⊢; omega) | simp_all)] at hr
      repeat (refine And.intro ?_ ?_; focus (first | assumption | decide +kernel | omega | (show Eqv _ _; (simp (maxDischargeDepth := 8) [go_sem]))))
      have hr := of_out0 hr
      repeat (refine And.intro ?_ ?_; focus (first | assumption | decide +kernel | omega | (show Eqv _ _; (simp (maxDischargeDepth := 8) [go_sem]))))
      obtain rfl := Option.some.inj hr
      (simp (maxDischargeDepth := 8) [go_sem])
theorem f150 : FnFact Try.prog 150 T150.sp := ⟨⟨Try.f150, Try.func150, by decide, rfl⟩, v150⟩

/- martensite/heat.open -/
def b101_1 (a0_0 : Int) (a0_1 : Int) (a0_2 : List (Int × Int)) (a0_3 : List ((List (Int × Int)))) (v2 : (List (Int × Int))) : (Int × (List ((List (Int × Int))))) → Ctl (Int × (List ((List (Int × Int))))) (Int × Int × (List (Int × Int)) × (List ((List (Int × Int)))) × (List (Int × Int)) × (List ((List (Int × Int)))) × Int) := fun s1 =>
  if (decide (s1.1 < (a0_3.length : Int))) = true then
   if 0 ≤ s1.1 ∧ s1.1 < (a0_3.length : Int) then
    bindC (r148 (a0_3.getD s1.1.toNat default)) fun v3 =>
     if (s1.2.length + 1) * 24 ≤ 140737488355328 ∧ s1.2.length + 1 ≤ 9223372036854775807 then
      .next (IntKind.i64.wrap (s1.1 + 1), s1.2 ++ [v3])
      else .out none
    else .out none
   else .out (some (a0_0, a0_1, a0_2, a0_3, v2, s1.2, 0))
def r101 (a0_0 : Int) (a0_1 : Int) (a0_2 : List (Int × Int)) (a0_3 : List ((List (Int × Int)))) : Option (Int × Int × (List (Int × Int)) × (List ((List (Int × Int)))) × (List (Int × Int)) × (List ((List (Int × Int)))) × Int) :=
  (r24 a0_0 a0_1 a0_2 a0_3).bind fun v1 =>
   if (v1.2 != 0) = true then
    some (0, 0, [], [], [], [], v1.2)
    else (r150 a0_2).bind fun v2 =>
     iterC (b101_1 a0_0 a0_1 a0_2 a0_3 v2) 1000000000 (0, [])
def T101 : TSpec (Int × Int × (List (Int × Int)) × (List ((List (Int × Int))))) where
  enc x := [.agg [.int .i64 x.1, .int .i64 x.2.1, encF 2 d_II x.2.2.1, encF 1 d_LIIE x.2.2.2]]
  dec a := (dInt (aCell a 0 0), dInt (aCell a 0 1), decF g_II (aCell a 0 2), decF g_LIIE (aCell a 0 3))
  pre x := (r101 x.1 x.2.1 x.2.2.1 x.2.2.2).isSome = true
  res x := [.agg [.d (.int .i64 (((r101 x.1 x.2.1 x.2.2.1 x.2.2.2).getD default).1)), .d (.int .i64 (((r101 x.1 x.2.1 x.2.2.1 x.2.2.2).getD default).2.1)), .d (encF 2 d_II (((r101 x.1 x.2.1 x.2.2.1 x.2.2.2).getD default).2.2.1)), .d (encF 1 d_LIIE (((r101 x.1 x.2.1 x.2.2.1 x.2.2.2).getD default).2.2.2.1)), .own (encF 2 d_II (((r101 x.1 x.2.1 x.2.2.1 x.2.2.2).getD default).2.2.2.2.1)), .own (encF 1 d_LIIE (((r101 x.1 x.2.1 x.2.2.1 x.2.2.2).getD default).2.2.2.2.2.1))], .c (.d (.int .i64 (((r101 x.1 x.2.1 x.2.2.1 x.2.2.2).getD default).2.2.2.2.2.2)))]
  al := true
def tb101 : Fns := lk [(24, T24.sp), (148, T148.sp), (150, T150.sp)]
theorem tb101_ok : FnsOk Try.prog tb101 := .cons f24 (.cons f148 (.cons f150 (FnsOk.nil)))
theorem tb101_24 : tb101 24 = some T24.sp := rfl
theorem tb101_148 : tb101 148 = some T148.sp := rfl
theorem tb101_150 : tb101 150 = some T150.sp := rfl
theorem v101 : Valid Try.prog 101 T101.sp := by
  refine valid_t (fn := Try.f101) (n := 39) ty_ok tb101_ok Try.func101 rfl Try.ntmps101 ?_
  rintro ⟨a0_0, a0_1, a0_2, a0_3⟩ hx
  obtain ⟨r, hr⟩ := Option.isSome_iff_exists.1 (show (r101 a0_0 a0_1 a0_2 a0_3).isSome = true from hx)
  have hres : T101.res (a0_0, a0_1, a0_2, a0_3) = [.agg [.d (.int .i64 r.1), .d (.int .i64 r.2.1), .d (encF 2 d_II r.2.2.1), .d (encF 1 d_LIIE r.2.2.2.1), .own (encF 2 d_II r.2.2.2.2.1), .own (encF 1 d_LIIE r.2.2.2.2.2.1)], .c (.d (.int .i64 r.2.2.2.2.2.2))] := by simp only [T101, hr, Option.getD_some]
  refine ⟨Nat.le_of_ble_eq_true rfl, fun stop S => ?_⟩
  rw [hres] at S
  unfold r101 at hr
  refine S.goB [] 1000 ?_
  simp (maxSteps := 10000000) only [go_sem, tb101_24, T24, tb101_148, T148, tb101_150, T150, T101, Option.map_some, Int.reduceToNat, Nat.reduceEqDiff, Nat.reduceLT, Nat.reduceAdd, Nat.reduceMul, Nat.reduceSub, Nat.reduceLeDiff, reduceIte, reduceCtorEq, Try.results101]
  obtain ⟨v1, hv1, hr⟩ := of_bind0 hr
  try simp only [hv1, Option.getD_some, Option.isSome_some, true_and, and_assoc]
  repeat (refine And.intro ?_ ?_; focus (first | assumption | decide +kernel | omega | (show Eqv _ _; (simp (maxDischargeDepth := 8) [go_sem]))))
  refine ⟨fun hc => ?_, fun hc => ?_⟩
  · rw [if_pos (by first | exact hc | (rw [hc]; rfl) | simpa using hc | (simp at hc ⊢; omega) | simp_all)] at hr
    repeat (refine And.intro ?_ ?_; focus (first | assumption | decide +kernel | omega | (show Eqv _ _; (simp (maxDischargeDepth := 8) [go_sem]))))
    obtain rfl := Option.some.inj hr
    (simp (maxDischargeDepth := 8) [go_sem])
  · rw [if_neg (by first | exact hc | (rw [hc]; rfl) | simpa using hc | (simp at hc ⊢; omega) | simp_all)] at hr
    obtain ⟨v2, hv2, hr⟩ := of_bind0 hr
    try simp only [hv2, Option.getD_some, Option.isSome_some, true_and, and_assoc]
    repeat (refine And.intro ?_ ?_; focus (first | assumption | decide +kernel | omega | (show Eqv _ _; (simp (maxDischargeDepth := 8) [go_sem]))))
    refine S.own0b 6 5 2000605 1 rfl rfl (Nat.le_of_ble_eq_true rfl) rfl ?_
    refine S.sees [2, 6, 24, 25, 26] [(2, 2), (6, 6)] [(2000605, 2000605), (21, 21)] ?_ (Stop.iter S (fun s1 => ⟨[(2, .c (.ref 2 0)), (6, .c (.ref 6 0)), (24, .c (.d (encF 1 d_LIIE a0_3))), (25, .c (.d (.int .i64 (a0_3.length : Int)))), (26, .c (.d (.int .i64 s1.1)))], [(2, [.d (.int .i64 0), .d (.int .i64 0), .nils, .nils, .nils, .nils]), (6, [.d (.int .i64 a0_0), .d (.int .i64 a0_1), .d (encF 2 d_II a0_2), .d (encF 1 d_LIIE a0_3), .own 21, .own 2000605])], [(2000605, .owned (encF 1 d_LIIE s1.2)), (21, .owned (encF 2 d_II v2))]⟩) (b101_1 a0_0 a0_1 a0_2 a0_3 v2) (fun q => q = r) hr rfl ?_)
    · (simp (maxDischargeDepth := 8) [go_sem])
    · intro s1 hr
      unfold b101_1 at hr
      refine S.goB [] 1000 ?_
      simp (maxSteps := 10000000) only [go_sem, tb101_24, T24, tb101_148, T148, tb101_150, T150, T101, Option.map_some, Int.reduceToNat, Nat.reduceEqDiff, Nat.reduceLT, Nat.reduceAdd, Nat.reduceMul, Nat.reduceSub, Nat.reduceLeDiff, reduceIte, reduceCtorEq, Try.results101]
      repeat (refine And.intro ?_ ?_; focus (first | assumption | decide +kernel | omega | (show Eqv _ _; (simp (maxDischargeDepth := 8) [go_sem]))))
      refine ⟨fun hc => ?_, fun hc => ?_⟩
      · rw [if_pos (by first | exact hc | (rw [hc]; rfl) | simpa using hc | (simp at hc ⊢; omega) | simp_all)] at hr
        obtain ⟨hg4, hr⟩ := of_guard1 hr
        obtain ⟨v3, hv3, hr⟩ := of_bind1 hr
        obtain ⟨hg5, hr⟩ := of_guard1 hr
        try simp only [hv3, Option.getD_some, Option.isSome_some, true_and, and_assoc]
        repeat (refine And.intro ?_ ?_; focus (first | assumption | decide +kernel | omega | (show Eqv _ _; (simp (maxDischargeDepth := 8) [go_sem]))))
        refine S.sees [2, 6, 24, 25, 26] [(2, 2), (6, 6)] [(35, 2000605), (21, 21)] ?_ hr
        (simp (maxDischargeDepth := 8) [go_sem])
      · rw [if_neg (by first | exact hc | (rw [hc]; rfl) | simpa using hc | (simp at hc ⊢; omega) | simp_all)] at hr
        repeat (refine And.intro ?_ ?_; focus (first | assumption | decide +kernel | omega | (show Eqv _ _; (simp (maxDischargeDepth := 8) [go_sem]))))
        have hr := of_out0 hr
        repeat (refine And.intro ?_ ?_; focus (first | assumption | decide +kernel | omega | (show Eqv _ _; (simp (maxDischargeDepth := 8) [go_sem]))))
        obtain rfl := Option.some.inj hr
        (simp (maxDischargeDepth := 8) [go_sem])
theorem f101 : FnFact Try.prog 101 T101.sp := ⟨⟨Try.f101, Try.func101, by decide, rfl⟩, v101⟩

/- (martensite/heat.part).isEnergy -/
def r120 (a0_0 : Int) (a0_1 : Int) (a0_2 : List (Int × Int)) (a0_3 : List ((List (Int × Int)))) (a0_4 : List (Int × Int)) (a0_5 : List ((List (Int × Int)))) (a1 : Int) : Option (Bool) :=
  if 0 ≤ 0 ∧ 0 < (a0_4.length : Int) then
   if 0 ≤ IntKind.i64.wrap ((a0_4.length : Int) - 1) ∧ IntKind.i64.wrap ((a0_4.length : Int) - 1) < (a0_4.length : Int) then
    (r90 a1 ((a0_4.getD 0 default).1) ((a0_4.getD (IntKind.i64.wrap ((a0_4.length : Int) - 1)).toNat default).1)).bind fun v1 =>
     some v1
    else none
   else none
def T120 : TSpec (Int × Int × (List (Int × Int)) × (List ((List (Int × Int)))) × (List (Int × Int)) × (List ((List (Int × Int)))) × Int) where
  enc x := [.agg [.int .i64 x.1, .int .i64 x.2.1, encF 2 d_II x.2.2.1, encF 1 d_LIIE x.2.2.2.1, encF 2 d_II x.2.2.2.2.1, encF 1 d_LIIE x.2.2.2.2.2.1], .c (.int .i64 x.2.2.2.2.2.2)]
  dec a := (dInt (aCell a 0 0), dInt (aCell a 0 1), decF g_II (aCell a 0 2), decF g_LIIE (aCell a 0 3), decF g_II (aCell a 0 4), decF g_LIIE (aCell a 0 5), dInt (aCell a 1 0))
  pre x := (r120 x.1 x.2.1 x.2.2.1 x.2.2.2.1 x.2.2.2.2.1 x.2.2.2.2.2.1 x.2.2.2.2.2.2).isSome = true
  res x := [.c (.d (.bool ((r120 x.1 x.2.1 x.2.2.1 x.2.2.2.1 x.2.2.2.2.1 x.2.2.2.2.2.1 x.2.2.2.2.2.2).getD default)))]
  al := false
def tb120 : Fns := lk [(90, T90.sp)]
theorem tb120_ok : FnsOk Try.prog tb120 := .cons f90 (FnsOk.nil)
theorem tb120_90 : tb120 90 = some T90.sp := rfl
theorem v120 : Valid Try.prog 120 T120.sp := by
  refine valid_t (fn := Try.f120) (n := 21) ty_ok tb120_ok Try.func120 rfl Try.ntmps120 ?_
  rintro ⟨a0_0, a0_1, a0_2, a0_3, a0_4, a0_5, a1⟩ hx
  obtain ⟨r, hr⟩ := Option.isSome_iff_exists.1 (show (r120 a0_0 a0_1 a0_2 a0_3 a0_4 a0_5 a1).isSome = true from hx)
  have hres : T120.res (a0_0, a0_1, a0_2, a0_3, a0_4, a0_5, a1) = [.c (.d (.bool r))] := by simp only [T120, hr, Option.getD_some]
  refine ⟨Nat.le_of_ble_eq_true rfl, fun stop S => ?_⟩
  rw [hres] at S
  unfold r120 at hr
  refine S.goB [] 1000 ?_
  simp (maxSteps := 10000000) only [go_sem, tb120_90, T90, T120, Option.map_some, Int.reduceToNat, Nat.reduceEqDiff, Nat.reduceLT, Nat.reduceAdd, Nat.reduceMul, Nat.reduceSub, Nat.reduceLeDiff, reduceIte, reduceCtorEq, Try.results120]
  obtain ⟨hg2, hr⟩ := of_guard0 hr
  obtain ⟨hg3, hr⟩ := of_guard0 hr
  obtain ⟨v1, hv1, hr⟩ := of_bind0 hr
  try simp only [hv1, Option.getD_some, Option.isSome_some, true_and, and_assoc]
  repeat (refine And.intro ?_ ?_; focus (first | assumption | decide +kernel | omega | (show Eqv _ _; (simp (maxDischargeDepth := 8) [go_sem]))))
  obtain rfl := Option.some.inj hr
  (simp (maxDischargeDepth := 8) [go_sem])
theorem f120 : FnFact Try.prog 120 T120.sp := ⟨⟨Try.f120, Try.func120, by decide, rfl⟩, v120⟩

/- (martensite/heat.part).stateErr$1 -/
def r151 (a0 : Int) (a1_0 : Int) (a1_1 : Int) (a1_2 : List (Int × Int)) (a1_3 : List ((List (Int × Int)))) (a1_4 : List (Int × Int)) (a1_5 : List ((List (Int × Int)))) : Option (Bool) :=
  (r120 a1_0 a1_1 a1_2 a1_3 a1_4 a1_5 a0).bind fun v1 =>
   some (!v1)
def T151 : TSpec (Int × Int × Int × (List (Int × Int)) × (List ((List (Int × Int)))) × (List (Int × Int)) × (List ((List (Int × Int))))) where
  enc x := [.c (.int .i64 x.1), .ptr [.int .i64 x.2.1, .int .i64 x.2.2.1, encF 2 d_II x.2.2.2.1, encF 1 d_LIIE x.2.2.2.2.1, encF 2 d_II x.2.2.2.2.2.1, encF 1 d_LIIE x.2.2.2.2.2.2]]
  dec a := (dInt (aCell a 0 0), dInt (aCell a 1 0), dInt (aCell a 1 1), decF g_II (aCell a 1 2), decF g_LIIE (aCell a 1 3), decF g_II (aCell a 1 4), decF g_LIIE (aCell a 1 5))
  pre x := (r151 x.1 x.2.1 x.2.2.1 x.2.2.2.1 x.2.2.2.2.1 x.2.2.2.2.2.1 x.2.2.2.2.2.2).isSome = true
  res x := [.c (.d (.bool ((r151 x.1 x.2.1 x.2.2.1 x.2.2.2.1 x.2.2.2.2.1 x.2.2.2.2.2.1 x.2.2.2.2.2.2).getD default)))]
  al := false
def tb151 : Fns := lk [(120, T120.sp)]
theorem tb151_ok : FnsOk Try.prog tb151 := .cons f120 (FnsOk.nil)
theorem tb151_120 : tb151 120 = some T120.sp := rfl
theorem v151 : Valid Try.prog 151 T151.sp := by
  refine valid_t (fn := Try.f151) (n := 8) ty_ok tb151_ok Try.func151 rfl Try.ntmps151 ?_
  rintro ⟨a0, a1_0, a1_1, a1_2, a1_3, a1_4, a1_5⟩ hx
  obtain ⟨r, hr⟩ := Option.isSome_iff_exists.1 (show (r151 a0 a1_0 a1_1 a1_2 a1_3 a1_4 a1_5).isSome = true from hx)
  have hres : T151.res (a0, a1_0, a1_1, a1_2, a1_3, a1_4, a1_5) = [.c (.d (.bool r))] := by simp only [T151, hr, Option.getD_some]
  refine ⟨Nat.le_of_ble_eq_true rfl, fun stop S => ?_⟩
  rw [hres] at S
  unfold r151 at hr
  refine S.goB [] 1000 ?_
  simp (maxSteps := 10000000) only [go_sem, tb151_120, T120, T151, Option.map_some, Int.reduceToNat, Nat.reduceEqDiff, Nat.reduceLT, Nat.reduceAdd, Nat.reduceMul, Nat.reduceSub, Nat.reduceLeDiff, reduceIte, reduceCtorEq, Try.results151]
  obtain ⟨v1, hv1, hr⟩ := of_bind0 hr
  try simp only [hv1, Option.getD_some, Option.isSome_some, true_and, and_assoc]
  repeat (refine And.intro ?_ ?_; focus (first | assumption | decide +kernel | omega | (show Eqv _ _; (simp (maxDischargeDepth := 8) [go_sem]))))
  obtain rfl := Option.some.inj hr
  (simp (maxDischargeDepth := 8) [go_sem])
theorem f151 : FnFact Try.prog 151 T151.sp := ⟨⟨Try.f151, Try.func151, by decide, rfl⟩, v151⟩

/- slices.IndexFunc[[]int,int] -/
def b141_1 (a0 : List (Int)) (a1_0_0 : Int) (a1_0_1 : Int) (a1_0_2 : List (Int × Int)) (a1_0_3 : List ((List (Int × Int)))) (a1_0_4 : List (Int × Int)) (a1_0_5 : List ((List (Int × Int)))) : (Int) → Ctl (Int) (Int) := fun s1 =>
  if (decide (s1 < (a0.length : Int))) = true then
   if 0 ≤ s1 ∧ s1 < (a0.length : Int) then
    bindC (r151 (a0.getD s1.toNat default) a1_0_0 a1_0_1 a1_0_2 a1_0_3 a1_0_4 a1_0_5) fun v1 =>
     if v1 = true then
      .out (some s1)
      else .next (IntKind.i64.wrap (s1 + 1))
    else .out none
   else .out (some (-1))
def r141 (a0 : List (Int)) (a1_0_0 : Int) (a1_0_1 : Int) (a1_0_2 : List (Int × Int)) (a1_0_3 : List ((List (Int × Int)))) (a1_0_4 : List (Int × Int)) (a1_0_5 : List ((List (Int × Int)))) : Option (Int) :=
  iterC (b141_1 a0 a1_0_0 a1_0_1 a1_0_2 a1_0_3 a1_0_4 a1_0_5) 1000000000 0
def T141 : TSpec ((List (Int)) × Int × Int × (List (Int × Int)) × (List ((List (Int × Int)))) × (List (Int × Int)) × (List ((List (Int × Int))))) where
  enc x := [.c (encF 1 d_I x.1), .clo 151 [[.int .i64 x.2.1, .int .i64 x.2.2.1, encF 2 d_II x.2.2.2.1, encF 1 d_LIIE x.2.2.2.2.1, encF 2 d_II x.2.2.2.2.2.1, encF 1 d_LIIE x.2.2.2.2.2.2]]]
  dec a := (decF g_I (aCell a 0 0), dInt (aCell a 1 0), dInt (aCell a 1 1), decF g_II (aCell a 1 2), decF g_LIIE (aCell a 1 3), decF g_II (aCell a 1 4), decF g_LIIE (aCell a 1 5))
  pre x := (r141 x.1 x.2.1 x.2.2.1 x.2.2.2.1 x.2.2.2.2.1 x.2.2.2.2.2.1 x.2.2.2.2.2.2).isSome = true
  res x := [.c (.d (.int .i64 ((r141 x.1 x.2.1 x.2.2.1 x.2.2.2.1 x.2.2.2.2.1 x.2.2.2.2.2.1 x.2.2.2.2.2.2).getD default)))]
  al := false
def tb141 : Fns := lk [(151, T151.sp)]
theorem tb141_ok : FnsOk Try.prog tb141 := .cons f151 (FnsOk.nil)
theorem tb141_151 : tb141 151 = some T151.sp := rfl
theorem v141 : Valid Try.prog 141 T141.sp := by
  refine valid_t (fn := Try.f141) (n := 19) ty_ok tb141_ok Try.func141 rfl Try.ntmps141 ?_
  rintro ⟨a0, a1_0_0, a1_0_1, a1_0_2, a1_0_3, a1_0_4, a1_0_5⟩ hx
  obtain ⟨r, hr⟩ := Option.isSome_iff_exists.1 (show (r141 a0 a1_0_0 a1_0_1 a1_0_2 a1_0_3 a1_0_4 a1_0_5).isSome = true from hx)
  have hres : T141.res (a0, a1_0_0, a1_0_1, a1_0_2, a1_0_3, a1_0_4, a1_0_5) = [.c (.d (.int .i64 r))] := by simp only [T141, hr, Option.getD_some]
  refine ⟨Nat.le_of_ble_eq_true rfl, fun stop S => ?_⟩
  rw [hres] at S
  unfold r141 at hr
  refine S.goB [] 1000 ?_
  simp (maxSteps := 10000000) only [go_sem, tb141_151, T151, T141, Option.map_some, Int.reduceToNat, Nat.reduceEqDiff, Nat.reduceLT, Nat.reduceAdd, Nat.reduceMul, Nat.reduceSub, Nat.reduceLeDiff, reduceIte, reduceCtorEq, Try.results141]
  repeat (refine And.intro ?_ ?_; focus (first | assumption | decide +kernel | omega | (show Eqv _ _; (simp (maxDischargeDepth := 8) [go_sem]))))
  refine S.sees [0, 1, 7, 8] [] [] ?_ (Stop.iter S (fun s1 => ⟨[(0, .c (.d (encF 1 d_I a0))), (1, .c (.clo 151 [.sptr [.int .i64 a1_0_0, .int .i64 a1_0_1, encF 2 d_II a1_0_2, encF 1 d_LIIE a1_0_3, encF 2 d_II a1_0_4, encF 1 d_LIIE a1_0_5] 0])), (7, .c (.d (.int .i64 (a0.length : Int)))), (8, .c (.d (.int .i64 s1)))], [], []⟩) (b141_1 a0 a1_0_0 a1_0_1 a1_0_2 a1_0_3 a1_0_4 a1_0_5) (fun q => q = r) hr rfl ?_)
  · (simp (maxDischargeDepth := 8) [go_sem])
  · intro s1 hr
    unfold b141_1 at hr
    refine S.goB [] 1000 ?_
    simp (maxSteps := 10000000) only [go_sem, tb141_151, T151, T141, Option.map_some, Int.reduceToNat, Nat.reduceEqDiff, Nat.reduceLT, Nat.reduceAdd, Nat.reduceMul, Nat.reduceSub, Nat.reduceLeDiff, reduceIte, reduceCtorEq, Try.results141]
    repeat (refine And.intro ?_ ?_; focus (first | assumption | decide +kernel | omega | (show Eqv _ _; (simp (maxDischargeDepth := 8) [go_sem]))))
    refine ⟨fun hc => ?_, fun hc => ?_⟩
    · rw [if_pos (by first | exact hc | (rw [hc]; rfl) | simpa using hc | (simp at hc ⊢; omega) | simp_all)] at hr
      obtain ⟨hg2, hr⟩ := of_guard1 hr
      obtain ⟨v1, hv1, hr⟩ := of_bind1 hr
      try simp only [hv1, Option.getD_some, Option.isSome_some, true_and, and_assoc]
      repeat (refine And.intro ?_ ?_; focus (first | assumption | decide +kernel | omega | (show Eqv _ _; (simp (maxDischargeDepth := 8) [go_sem]))))
      refine ⟨fun hc => ?_, fun hc => ?_⟩
      · rw [if_pos (by first | exact hc | (rw [hc]; rfl) | simpa using hc | (simp at hc ⊢; omega) | simp_all)] at hr
        repeat (refine And.intro ?_ ?_; focus (first | assumption | decide +kernel | omega | (show Eqv _ _; (simp (maxDischargeDepth := 8) [go_sem]))))
        have hr := of_out0 hr
        obtain rfl := Option.some.inj hr
        (simp (maxDischargeDepth := 8) [go_sem])
      · rw [if_neg (by first | exact hc | (rw [hc]; rfl) | simpa using hc | (simp at hc ⊢; omega) | simp_all)] at hr
        repeat (refine And.intro ?_ ?_; focus (first | assumption | decide +kernel | omega | (show Eqv _ _; (simp (maxDischargeDepth := 8) [go_sem]))))
        refine S.sees [0, 1, 7, 8] [] [] ?_ hr
        (simp (maxDischargeDepth := 8) [go_sem])
    · rw [if_neg (by first | exact hc | (rw [hc]; rfl) | simpa using hc | (simp at hc ⊢; omega) | simp_all)] at hr
      repeat (refine And.intro ?_ ?_; focus (first | assumption | decide +kernel | omega | (show Eqv _ _; (simp (maxDischargeDepth := 8) [go_sem]))))
      have hr := of_out0 hr
      repeat (refine And.intro ?_ ?_; focus (first | assumption | decide +kernel | omega | (show Eqv _ _; (simp (maxDischargeDepth := 8) [go_sem]))))
      obtain rfl := Option.some.inj hr
      (simp (maxDischargeDepth := 8) [go_sem])
theorem f141 : FnFact Try.prog 141 T141.sp := ⟨⟨Try.f141, Try.func141, by decide, rfl⟩, v141⟩
end Go.Proofs.Ytcbiiijnaeibhaa

/- Contracts of functions, written by wip/dec. -/
import Derived.Test.YtcbiiijnaeibhaaC00
import Derived.Test.YtcbiiijnaeibhaaC06
import Derived.Test.YtcbiiijnaeibhaaC07
import Derived.Test.YtcbiiijnaeibhaaC08
set_option linter.unusedVariables false
set_option linter.unusedSimpArgs false
set_option maxHeartbeats 4000000
set_option maxRecDepth 8000
namespace Go.Proofs.Ytcbiiijnaeibhaa
open Go.Abs
/- martensite/martensiteref03.RangesErr -/
def b36_1 (a0 : List (Int × Int)) : (Int) → Ctl (Int) (Int) := fun s1 =>
  if (decide (s1 < (a0.length : Int))) = true then
   if 0 ≤ s1 ∧ s1 < (a0.length : Int) then
    bindC (r59 ((a0.getD s1.toNat default).1) 0 1000) fun v1 =>
     if (!(!v1)) = true → 0 ≤ s1 ∧ s1 < (a0.length : Int) then
      if (!(!v1)) = true → (r59 ((a0.getD s1.toNat default).2) 0 1000).isSome = true then
       if ((!v1) || (!((r59 ((a0.getD s1.toNat default).2) 0 1000).getD default))) = true then
        .out (some 2)
        else if 0 ≤ s1 ∧ s1 < (a0.length : Int) then
         if 0 ≤ s1 ∧ s1 < (a0.length : Int) then
          if (decide (((a0.getD s1.toNat default).1) > ((a0.getD s1.toNat default).2))) = true then
           .out (some 9)
           else .next (IntKind.i64.wrap (s1 + 1))
          else .out none
         else .out none
       else .out none
      else .out none
    else .out none
   else .out (some 0)
def r36 (a0 : List (Int × Int)) : Option (Int) :=
  if (decide ((a0.length : Int) > 200)) = true then
   some 8
   else iterC (b36_1 a0) 1000000000 0
def T36 : TSpec ((List (Int × Int))) where
  enc x := [.c (encF 2 d_II x)]
  dec a := decF g_II (aCell a 0 0)
  pre x := (r36 x).isSome = true
  res x := [.c (.d (.int .i64 ((r36 x).getD default)))]
  al := false
def tb36 : Fns := lk [(59, T59.sp)]
theorem tb36_ok : FnsOk Try.prog tb36 := .cons f59 (FnsOk.nil)
theorem tb36_59 : tb36 59 = some T59.sp := rfl
theorem v36 : Valid Try.prog 36 T36.sp := by
  refine valid_t (fn := Try.f36) (n := 40) ty_ok tb36_ok Try.func36 rfl Try.ntmps36 ?_
  rintro a0 hx
  obtain ⟨r, hr⟩ := Option.isSome_iff_exists.1 (show (r36 a0).isSome = true from hx)
  have hres : T36.res a0 = [.c (.d (.int .i64 r))] := by simp only [T36, hr, Option.getD_some]
  refine ⟨Nat.le_of_ble_eq_true rfl, fun stop S => ?_⟩
  rw [hres] at S
  unfold r36 at hr
  refine S.goB [] 1000 ?_
  simp (maxSteps := 10000000) only [go_sem, tb36_59, T59, T36, Option.map_some, Int.reduceToNat, Nat.reduceEqDiff, Nat.reduceLT, Nat.reduceAdd, Nat.reduceMul, Nat.reduceSub, Nat.reduceLeDiff, reduceIte, reduceCtorEq, Try.results36]
  repeat (refine And.intro ?_ ?_; focus (first | assumption | decide +kernel | omega | (show Eqv _ _; (simp (maxDischargeDepth := 8) [go_sem]))))
  refine ⟨fun hc => ?_, fun hc => ?_⟩
  · rw [if_pos (by first | exact hc | (rw [hc]; rfl) | simpa using hc | (simp at hc ⊢; omega) | simp_all)] at hr
    repeat (refine And.intro ?_ ?_; focus (first | assumption | decide +kernel | omega | (show Eqv _ _; (simp (maxDischargeDepth := 8) [go_sem]))))
    obtain rfl := Option.some.inj hr
    (simp (maxDischargeDepth := 8) [go_sem])
  · rw [if_neg (by first | exact hc | (rw [hc]; rfl) | simpa using hc | (simp at hc ⊢; omega) | simp_all)] at hr
    repeat (refine And.intro ?_ ?_; focus (first | assumption | decide +kernel | omega | (show Eqv _ _; (simp (maxDischargeDepth := 8) [go_sem]))))
    refine S.sees [0, 3] [] [] ?_ (Stop.iter S (fun s1 => ⟨[(0, .c (.d (encF 2 d_II a0))), (3, .c (.d (.int .i64 s1)))], [], []⟩) (b36_1 a0) (fun q => q = r) hr rfl ?_)
    · (simp (maxDischargeDepth := 8) [go_sem])
    · intro s1 hr
      unfold b36_1 at hr
      refine S.goB [] 1000 ?_
      simp (maxSteps := 10000000) only [go_sem, tb36_59, T59, T36, Option.map_some, Int.reduceToNat, Nat.reduceEqDiff, Nat.reduceLT, Nat.reduceAdd, Nat.reduceMul, Nat.reduceSub, Nat.reduceLeDiff, reduceIte, reduceCtorEq, Try.results36]
      repeat (refine And.intro ?_ ?_; focus (first | assumption | decide +kernel | omega | (show Eqv _ _; (simp (maxDischargeDepth := 8) [go_sem]))))
      refine ⟨fun hc => ?_, fun hc => ?_⟩
      · rw [if_pos (by first | exact hc | (rw [hc]; rfl) | simpa using hc | (simp at hc ⊢; omega) | simp_all)] at hr
        obtain ⟨hg4, hr⟩ := of_guard1 hr
        obtain ⟨v1, hv1, hr⟩ := of_bind1 hr
        obtain ⟨hg5, hr⟩ := of_guard1 hr
        obtain ⟨hg6, hr⟩ := of_guard1 hr
        try simp only [hv1, Option.getD_some, Option.isSome_some, true_and, and_assoc]
        repeat (refine And.intro ?_ ?_; focus (first | assumption | decide +kernel | omega | (show Eqv _ _; (simp (maxDischargeDepth := 8) [go_sem])) | (intro hq; first | exact hg5 (by first | exact hq | (rw [hq]; rfl) | simpa using hq) | (have h9 := hg5 (by first | exact hq | (rw [hq]; rfl) | simpa using hq); first | omega | (simpa using h9)) | exact hg6 (by first | exact hq | (rw [hq]; rfl) | simpa using hq) | (have h9 := hg6 (by first | exact hq | (rw [hq]; rfl) | simpa using hq); first | omega | (simpa using h9)) | exact hq.1 | exact hq) | (simp +contextual; done)))
        refine ⟨fun hc => ?_, fun hc => ?_⟩
        · rw [if_pos (by first | exact hc | (rw [hc]; rfl) | simpa using hc | (simp at hc ⊢; omega) | simp_all)] at hr
          repeat (refine And.intro ?_ ?_; focus (first | assumption | decide +kernel | omega | (show Eqv _ _; (simp (maxDischargeDepth := 8) [go_sem]))))
          have hr := of_out0 hr
          obtain rfl := Option.some.inj hr
          (simp (maxDischargeDepth := 8) [go_sem])
        · rw [if_neg (by first | exact hc | (rw [hc]; rfl) | simpa using hc | (simp at hc ⊢; omega) | simp_all)] at hr
          obtain ⟨hg2, hr⟩ := of_guard1 hr
          obtain ⟨hg3, hr⟩ := of_guard1 hr
          repeat (refine And.intro ?_ ?_; focus (first | assumption | decide +kernel | omega | (show Eqv _ _; (simp (maxDischargeDepth := 8) [go_sem]))))
          refine ⟨fun hc => ?_, fun hc => ?_⟩
          · rw [if_pos (by first | exact hc | (rw [hc]; rfl) | simpa using hc | (simp at hc ⊢; omega) | simp_all)] at hr
            repeat (refine And.intro ?_ ?_; focus (first | assumption | decide +kernel | omega | (show Eqv _ _; (simp (maxDischargeDepth := 8) [go_sem]))))
            have hr := of_out0 hr
            obtain rfl := Option.some.inj hr
            (simp (maxDischargeDepth := 8) [go_sem])
          · rw [if_neg (by first | exact hc | (rw [hc]; rfl) | simpa using hc | (simp at hc ⊢; omega) | simp_all)] at hr
            repeat (refine And.intro ?_ ?_; focus (first | assumption | decide +kernel | omega | (show Eqv _ _; (simp (maxDischargeDepth := 8) [go_sem]))))
            refine S.sees [0, 3] [] [] ?_ hr
            (simp (maxDischargeDepth := 8) [go_sem])
      · rw [if_neg (by first | exact hc | (rw [hc]; rfl) | simpa using hc | (simp at hc ⊢; omega) | simp_all)] at hr
        repeat (refine And.intro ?_ ?_; focus (first | assumption | decide +kernel | omega | (show Eqv _ _; (simp (maxDischargeDepth := 8) [go_sem]))))
        have hr := of_out0 hr
        repeat (refine And.intro ?_ ?_; focus (first | assumption | decide +kernel | omega | (show Eqv _ _; (simp (maxDischargeDepth := 8) [go_sem]))))
        obtain rfl := Option.some.inj hr
        (simp (maxDischargeDepth := 8) [go_sem])
theorem f36 : FnFact Try.prog 36 T36.sp := ⟨⟨Try.f36, Try.func36, by decide, rfl⟩, v36⟩

/- martensite/martensiteref03.ends -/
def b113_1 (a0 : List (Int × Int)) (a1 : Bool) : ((List (Int)) × Int) → Ctl ((List (Int)) × Int) ((List (Int))) := fun s1 =>
  if (decide (s1.2 < (a0.length : Int))) = true then
   if a1 = true then
    if 0 ≤ s1.2 ∧ s1.2 < (a0.length : Int) then
     if (s1.1.length + 1) * 8 ≤ 140737488355328 ∧ s1.1.length + 1 ≤ 9223372036854775807 then
      .next (s1.1 ++ [(a0.getD s1.2.toNat default).2], IntKind.i64.wrap (s1.2 + 1))
      else .out none
     else .out none
    else if 0 ≤ s1.2 ∧ s1.2 < (a0.length : Int) then
     if (s1.1.length + 1) * 8 ≤ 140737488355328 ∧ s1.1.length + 1 ≤ 9223372036854775807 then
      .next (s1.1 ++ [(a0.getD s1.2.toNat default).1], IntKind.i64.wrap (s1.2 + 1))
      else .out none
     else .out none
   else .out (some s1.1)
def r113 (a0 : List (Int × Int)) (a1 : Bool) : Option ((List (Int))) :=
  iterC (b113_1 a0 a1) 1000000000 ([], 0)
def T113 : TSpec ((List (Int × Int)) × Bool) where
  enc x := [.c (encF 2 d_II x.1), .c (.bool x.2)]
  dec a := (decF g_II (aCell a 0 0), dBool (aCell a 1 0))
  pre x := (r113 x.1 x.2).isSome = true
  res x := [.c (.own (encF 1 d_I ((r113 x.1 x.2).getD default)))]
  al := false
def tb113 : Fns := lk []
theorem tb113_ok : FnsOk Try.prog tb113 := FnsOk.nil
theorem v113 : Valid Try.prog 113 T113.sp := by
  refine valid_t (fn := Try.f113) (n := 31) ty_ok tb113_ok Try.func113 rfl Try.ntmps113 ?_
  rintro ⟨a0, a1⟩ hx
  obtain ⟨r, hr⟩ := Option.isSome_iff_exists.1 (show (r113 a0 a1).isSome = true from hx)
  have hres : T113.res (a0, a1) = [.c (.own (encF 1 d_I r))] := by simp only [T113, hr, Option.getD_some]
  refine ⟨Nat.le_of_ble_eq_true rfl, fun stop S => ?_⟩
  rw [hres] at S
  unfold r113 at hr
  refine S.goB [] 1000 ?_
  simp (maxSteps := 10000000) only [go_sem, T113, Option.map_some, Int.reduceToNat, Nat.reduceEqDiff, Nat.reduceLT, Nat.reduceAdd, Nat.reduceMul, Nat.reduceSub, Nat.reduceLeDiff, reduceIte, reduceCtorEq, Try.results113]
  repeat (refine And.intro ?_ ?_; focus (first | assumption | decide +kernel | omega | (show Eqv _ _; (simp (maxDischargeDepth := 8) [go_sem]))))
  refine S.own0 5 1000500 1 rfl rfl ?_
  refine S.sees [0, 1, 5, 6] [] [(1000500, 1000500)] ?_ (Stop.iter S (fun s1 => ⟨[(0, .c (.d (encF 2 d_II a0))), (1, .c (.d (.bool a1))), (5, .c (.own 1000500)), (6, .c (.d (.int .i64 s1.2)))], [], [(1000500, .owned (encF 1 d_I s1.1))]⟩) (b113_1 a0 a1) (fun q => q = r) hr rfl ?_)
  · (simp (maxDischargeDepth := 8) [go_sem])
  · intro s1 hr
    unfold b113_1 at hr
    refine S.goB [] 1000 ?_
    simp (maxSteps := 10000000) only [go_sem, T113, Option.map_some, Int.reduceToNat, Nat.reduceEqDiff, Nat.reduceLT, Nat.reduceAdd, Nat.reduceMul, Nat.reduceSub, Nat.reduceLeDiff, reduceIte, reduceCtorEq, Try.results113]
    repeat (refine And.intro ?_ ?_; focus (first | assumption | decide +kernel | omega | (show Eqv _ _; (simp (maxDischargeDepth := 8) [go_sem]))))
    refine ⟨fun hc => ?_, fun hc => ?_⟩
    · rw [if_pos (by first | exact hc | (rw [hc]; rfl) | simpa using hc | (simp at hc ⊢; omega) | simp_all)] at hr
      repeat (refine And.intro ?_ ?_; focus (first | assumption | decide +kernel | omega | (show Eqv _ _; (simp (maxDischargeDepth := 8) [go_sem]))))
      refine ⟨fun hc => ?_, fun hc => ?_⟩
      · rw [if_pos (by first | exact hc | (rw [hc]; rfl) | simpa using hc | (simp at hc ⊢; omega) | simp_all)] at hr
        obtain ⟨hg1, hr⟩ := of_guard1 hr
        obtain ⟨hg2, hr⟩ := of_guard1 hr
        repeat (refine And.intro ?_ ?_; focus (first | assumption | decide +kernel | omega | (show Eqv _ _; (simp (maxDischargeDepth := 8) [go_sem]))))
        refine S.sees [0, 1, 5, 6] [] [(21, 1000500)] ?_ hr
        (simp (maxDischargeDepth := 8) [go_sem])
      · rw [if_neg (by first | exact hc | (rw [hc]; rfl) | simpa using hc | (simp at hc ⊢; omega) | simp_all)] at hr
        obtain ⟨hg3, hr⟩ := of_guard1 hr
        obtain ⟨hg4, hr⟩ := of_guard1 hr
        repeat (refine And.intro ?_ ?_; focus (first | assumption | decide +kernel | omega | (show Eqv _ _; (simp (maxDischargeDepth := 8) [go_sem]))))
        refine S.sees [0, 1, 5, 6] [] [(29, 1000500)] ?_ hr
        (simp (maxDischargeDepth := 8) [go_sem])
    · rw [if_neg (by first | exact hc | (rw [hc]; rfl) | simpa using hc | (simp at hc ⊢; omega) | simp_all)] at hr
      repeat (refine And.intro ?_ ?_; focus (first | assumption | decide +kernel | omega | (show Eqv _ _; (simp (maxDischargeDepth := 8) [go_sem]))))
      have hr := of_out0 hr
      repeat (refine And.intro ?_ ?_; focus (first | assumption | decide +kernel | omega | (show Eqv _ _; (simp (maxDischargeDepth := 8) [go_sem]))))
      obtain rfl := Option.some.inj hr
      (simp (maxDischargeDepth := 8) [go_sem])
theorem f113 : FnFact Try.prog 113 T113.sp := ⟨⟨Try.f113, Try.func113, by decide, rfl⟩, v113⟩

/- martensite/martensiteref03.BoilsAt -/
def b112_1 (a0_2 : Int) (a1 : List (Int)) (v1 : (List (Int))) : (Int) → Ctl (Int) (Int) := fun s1 =>
  if (decide (s1 < (v1.length : Int))) = true then
   if 0 ≤ s1 ∧ s1 < (v1.length : Int) then
    if (decide ((v1.getD s1.toNat default) ≥ a0_2)) = true then
     .out (some (IntKind.i64.wrap (s1 + 1)))
     else .next (IntKind.i64.wrap (s1 + 1))
    else .out none
   else .out (some (IntKind.i64.wrap ((a1.length : Int) + 1)))
def r112 (a0_0 : Int) (a0_1 : Int) (a0_2 : Int) (a1 : List (Int)) : Option (Int) :=
  (r35 a0_0 a0_1 a0_2 a1).bind fun v1 =>
   iterC (b112_1 a0_2 a1 v1) 1000000000 0
def T112 : TSpec (Int × Int × Int × (List (Int))) where
  enc x := [.agg [.int .i64 x.1, .int .i64 x.2.1, .int .i64 x.2.2.1], .c (encF 1 d_I x.2.2.2)]
  dec a := (dInt (aCell a 0 0), dInt (aCell a 0 1), dInt (aCell a 0 2), decF g_I (aCell a 1 0))
  pre x := (r112 x.1 x.2.1 x.2.2.1 x.2.2.2).isSome = true
  res x := [.c (.d (.int .i64 ((r112 x.1 x.2.1 x.2.2.1 x.2.2.2).getD default)))]
  al := false
def tb112 : Fns := lk [(35, T35.sp)]
theorem tb112_ok : FnsOk Try.prog tb112 := .cons f35 (FnsOk.nil)
theorem tb112_35 : tb112 35 = some T35.sp := rfl
theorem v112 : Valid Try.prog 112 T112.sp := by
  refine valid_t (fn := Try.f112) (n := 28) ty_ok tb112_ok Try.func112 rfl Try.ntmps112 ?_
  rintro ⟨a0_0, a0_1, a0_2, a1⟩ hx
  obtain ⟨r, hr⟩ := Option.isSome_iff_exists.1 (show (r112 a0_0 a0_1 a0_2 a1).isSome = true from hx)
  have hres : T112.res (a0_0, a0_1, a0_2, a1) = [.c (.d (.int .i64 r))] := by simp only [T112, hr, Option.getD_some]
  refine ⟨Nat.le_of_ble_eq_true rfl, fun stop S => ?_⟩
  rw [hres] at S
  unfold r112 at hr
  refine S.goB [] 1000 ?_
  simp (maxSteps := 10000000) only [go_sem, tb112_35, T35, T112, Option.map_some, Int.reduceToNat, Nat.reduceEqDiff, Nat.reduceLT, Nat.reduceAdd, Nat.reduceMul, Nat.reduceSub, Nat.reduceLeDiff, reduceIte, reduceCtorEq, Try.results112]
  obtain ⟨v1, hv1, hr⟩ := of_bind0 hr
  try simp only [hv1, Option.getD_some, Option.isSome_some, true_and, and_assoc]
  repeat (refine And.intro ?_ ?_; focus (first | assumption | decide +kernel | omega | (show Eqv _ _; (simp (maxDischargeDepth := 8) [go_sem]))))
  refine S.sees [1, 2, 5, 6] [(2, 2)] [(9, 9)] ?_ (Stop.iter S (fun s1 => ⟨[(1, .c (.d (encF 1 d_I a1))), (2, .c (.ref 2 0)), (5, .c (.own 9)), (6, .c (.d (.int .i64 s1)))], [(2, [.d (.int .i64 a0_0), .d (.int .i64 a0_1), .d (.int .i64 a0_2)])], [(9, .owned (encF 1 d_I v1))]⟩) (b112_1 a0_2 a1 v1) (fun q => q = r) hr rfl ?_)
  · (simp (maxDischargeDepth := 8) [go_sem])
  · intro s1 hr
    unfold b112_1 at hr
    refine S.goB [] 1000 ?_
    simp (maxSteps := 10000000) only [go_sem, tb112_35, T35, T112, Option.map_some, Int.reduceToNat, Nat.reduceEqDiff, Nat.reduceLT, Nat.reduceAdd, Nat.reduceMul, Nat.reduceSub, Nat.reduceLeDiff, reduceIte, reduceCtorEq, Try.results112]
    repeat (refine And.intro ?_ ?_; focus (first | assumption | decide +kernel | omega | (show Eqv _ _; (simp (maxDischargeDepth := 8) [go_sem]))))
    refine ⟨fun hc => ?_, fun hc => ?_⟩
    · rw [if_pos (by first | exact hc | (rw [hc]; rfl) | simpa using hc | (simp at hc ⊢; omega) | simp_all)] at hr
      obtain ⟨hg2, hr⟩ := of_guard1 hr
      repeat (refine And.intro ?_ ?_; focus (first | assumption | decide +kernel | omega | (show Eqv _ _; (simp (maxDischargeDepth := 8) [go_sem]))))
      refine ⟨fun hc => ?_, fun hc => ?_⟩
      · rw [if_pos (by first | exact hc | (rw [hc]; rfl) | simpa using hc | (simp at hc ⊢; omega) | simp_all)] at hr
        repeat (refine And.intro ?_ ?_; focus (first | assumption | decide +kernel | omega | (show Eqv _ _; (simp (maxDischargeDepth := 8) [go_sem]))))
        have hr := of_out0 hr
        obtain rfl := Option.some.inj hr
        (simp (maxDischargeDepth := 8) [go_sem])
      · rw [if_neg (by first | exact hc | (rw [hc]; rfl) | simpa using hc | (simp at hc ⊢; omega) | simp_all)] at hr
        repeat (refine And.intro ?_ ?_; focus (first | assumption | decide +kernel | omega | (show Eqv _ _; (simp (maxDischargeDepth := 8) [go_sem]))))
        refine S.sees [1, 2, 5, 6] [(2, 2)] [(9, 9)] ?_ hr
        (simp (maxDischargeDepth := 8) [go_sem])
    · rw [if_neg (by first | exact hc | (rw [hc]; rfl) | simpa using hc | (simp at hc ⊢; omega) | simp_all)] at hr
      repeat (refine And.intro ?_ ?_; focus (first | assumption | decide +kernel | omega | (show Eqv _ _; (simp (maxDischargeDepth := 8) [go_sem]))))
      have hr := of_out0 hr
      repeat (refine And.intro ?_ ?_; focus (first | assumption | decide +kernel | omega | (show Eqv _ _; (simp (maxDischargeDepth := 8) [go_sem]))))
      obtain rfl := Option.some.inj hr
      (simp (maxDischargeDepth := 8) [go_sem])
theorem f112 : FnFact Try.prog 112 T112.sp := ⟨⟨Try.f112, Try.func112, by decide, rfl⟩, v112⟩

/- martensite/martensiteref03.Boiling -/
def r37 (a0_0 : Int) (a0_1 : Int) (a0_2 : Int) (a1 : List (Int × Int)) : Option (Int × Int × Bool) :=
  (r113 a1 false).bind fun v1 =>
   (r112 a0_0 a0_1 a0_2 v1).bind fun v2 =>
    (r113 a1 true).bind fun v3 =>
     (r112 a0_0 a0_1 a0_2 v3).bind fun v4 =>
      some (v2, v4, decide (v2 ≤ (a1.length : Int)))
def T37 : TSpec (Int × Int × Int × (List (Int × Int))) where
  enc x := [.agg [.int .i64 x.1, .int .i64 x.2.1, .int .i64 x.2.2.1], .c (encF 2 d_II x.2.2.2)]
  dec a := (dInt (aCell a 0 0), dInt (aCell a 0 1), dInt (aCell a 0 2), decF g_II (aCell a 1 0))
  pre x := (r37 x.1 x.2.1 x.2.2.1 x.2.2.2).isSome = true
  res x := [.agg [.d (.int .i64 (((r37 x.1 x.2.1 x.2.2.1 x.2.2.2).getD default).1)), .d (.int .i64 (((r37 x.1 x.2.1 x.2.2.1 x.2.2.2).getD default).2.1))], .c (.d (.bool (((r37 x.1 x.2.1 x.2.2.1 x.2.2.2).getD default).2.2)))]
  al := false
def tb37 : Fns := lk [(112, T112.sp), (113, T113.sp)]
theorem tb37_ok : FnsOk Try.prog tb37 := .cons f112 (.cons f113 (FnsOk.nil))
theorem tb37_112 : tb37 112 = some T112.sp := rfl
theorem tb37_113 : tb37 113 = some T113.sp := rfl
theorem v37 : Valid Try.prog 37 T37.sp := by
  refine valid_t (fn := Try.f37) (n := 22) ty_ok tb37_ok Try.func37 rfl Try.ntmps37 ?_
  rintro ⟨a0_0, a0_1, a0_2, a1⟩ hx
  obtain ⟨r, hr⟩ := Option.isSome_iff_exists.1 (show (r37 a0_0 a0_1 a0_2 a1).isSome = true from hx)
  have hres : T37.res (a0_0, a0_1, a0_2, a1) = [.agg [.d (.int .i64 r.1), .d (.int .i64 r.2.1)], .c (.d (.bool r.2.2))] := by simp only [T37, hr, Option.getD_some]
  refine ⟨Nat.le_of_ble_eq_true rfl, fun stop S => ?_⟩
  rw [hres] at S
  unfold r37 at hr
  refine S.goB [] 1000 ?_
  simp (maxSteps := 10000000) only [go_sem, tb37_112, T112, tb37_113, T113, T37, Option.map_some, Int.reduceToNat, Nat.reduceEqDiff, Nat.reduceLT, Nat.reduceAdd, Nat.reduceMul, Nat.reduceSub, Nat.reduceLeDiff, reduceIte, reduceCtorEq, Try.results37]
  obtain ⟨v1, hv1, hr⟩ := of_bind0 hr
  obtain ⟨v2, hv2, hr⟩ := of_bind0 hr
  obtain ⟨v3, hv3, hr⟩ := of_bind0 hr
  obtain ⟨v4, hv4, hr⟩ := of_bind0 hr
  try simp only [hv1, hv2, hv3, hv4, Option.getD_some, Option.isSome_some, true_and, and_assoc]
  repeat (refine And.intro ?_ ?_; focus (first | assumption | decide +kernel | omega | (show Eqv _ _; (simp (maxDischargeDepth := 8) [go_sem]))))
  obtain rfl := Option.some.inj hr
  (simp (maxDischargeDepth := 8) [go_sem])
theorem f37 : FnFact Try.prog 37 T37.sp := ⟨⟨Try.f37, Try.func37, by decide, rfl⟩, v37⟩

/- martensite/martensitelaw03.HeatWaters -/
def r5 (a0_0 : Int) (a0_1 : Int) (a0_2 : Int) (a1 : List (Int)) (a2 : List (Int × Int)) : Option (Bool) :=
  (r14).bind fun v1 =>
   if (!v1) = true then
    some false
    else (r28 (a1.length : Int)).bind fun v2 =>
     if (!(!v2)) = true → (r28 (a2.length : Int)).isSome = true then
      if ((!v2) || (!((r28 (a2.length : Int)).getD default))) = true then
       some true
       else (r19 a1).bind fun v3 =>
        (r29 a0_0 a0_1 a0_2 v3).bind fun v4 =>
         if (0 + a2.length) * 16 ≤ 140737488355328 ∧ 0 + a2.length ≤ 9223372036854775807 then
          (r30 a0_0 a0_1 a0_2 a2).bind fun v5 =>
           (r31 a0_0 a0_1 a0_2).bind fun v6 =>
            (r32 a0_0 a0_1 a0_2).bind fun v7 =>
             if (v7 != v6) = true then
              some false
              else if (v6 != 0) = true then
               some ((((v4.2 == v6) && (v5.2.2 == v6)) && ((v4.1.length : Int) == 0)) && ((v5.1 == 0) && (v5.2.1 == 0)))
               else (r33 a1).bind fun v8 =>
                if (((!((v8 != 0) && ((v4.2 != v8) || ((v4.1.length : Int) != 0)))) && (v8 == 0)) && (!(v4.2 != 0))) = true → (r35 a0_0 a0_1 a0_2 a1).isSome = true then
                 if (((!((v8 != 0) && ((v4.2 != v8) || ((v4.1.length : Int) != 0)))) && (v8 == 0)) && (!(v4.2 != 0))) = true → (r34 v4.1 ((r35 a0_0 a0_1 a0_2 a1).getD default)).isSome = true then
                  if (((v8 != 0) && ((v4.2 != v8) || ((v4.1.length : Int) != 0))) || ((v8 == 0) && ((v4.2 != 0) || (!((r34 v4.1 ((r35 a0_0 a0_1 a0_2 a1).getD default)).getD default))))) = true then
                   some false
                   else (r36 a2).bind fun v9 =>
                    if (v9 != 0) = true then
                     some ((v5.2.2 == v9) && ((v5.1 == 0) && (v5.2.1 == 0)))
                     else (r37 a0_0 a0_1 a0_2 a2).bind fun v10 =>
                      if (!v10.2.2) = true then
                       some ((v5.2.2 == 12) && ((v5.1 == 0) && (v5.2.1 == 0)))
                       else some ((v5.2.2 == 0) && ((v5.1 == v10.1) && (v5.2.1 == v10.2.1)))
                  else none
                 else none
          else none
      else none
def T5 : TSpec (Int × Int × Int × (List (Int)) × (List (Int × Int))) where
  enc x := [.agg [.int .i64 x.1, .int .i64 x.2.1, .int .i64 x.2.2.1], .c (encF 1 d_I x.2.2.2.1), .c (encF 2 d_II x.2.2.2.2)]
  dec a := (dInt (aCell a 0 0), dInt (aCell a 0 1), dInt (aCell a 0 2), decF g_I (aCell a 1 0), decF g_II (aCell a 2 0))
  pre x := (r5 x.1 x.2.1 x.2.2.1 x.2.2.2.1 x.2.2.2.2).isSome = true
  res x := [.c (.d (.bool ((r5 x.1 x.2.1 x.2.2.1 x.2.2.2.1 x.2.2.2.2).getD default)))]
  al := false
def tb5 : Fns := lk [(14, T14.sp), (19, T19.sp), (28, T28.sp), (29, T29.sp), (30, T30.sp), (31, T31.sp), (32, T32.sp), (33, T33.sp), (34, T34.sp), (35, T35.sp), (36, T36.sp), (37, T37.sp)]
theorem tb5_ok : FnsOk Try.prog tb5 := .cons f14 (.cons f19 (.cons f28 (.cons f29 (.cons f30 (.cons f31 (.cons f32 (.cons f33 (.cons f34 (.cons f35 (.cons f36 (.cons f37 (FnsOk.nil))))))))))))
theorem tb5_14 : tb5 14 = some T14.sp := rfl
theorem tb5_19 : tb5 19 = some T19.sp := rfl
theorem tb5_28 : tb5 28 = some T28.sp := rfl
theorem tb5_29 : tb5 29 = some T29.sp := rfl
theorem tb5_30 : tb5 30 = some T30.sp := rfl
theorem tb5_31 : tb5 31 = some T31.sp := rfl
theorem tb5_32 : tb5 32 = some T32.sp := rfl
theorem tb5_33 : tb5 33 = some T33.sp := rfl
theorem tb5_34 : tb5 34 = some T34.sp := rfl
theorem tb5_35 : tb5 35 = some T35.sp := rfl
theorem tb5_36 : tb5 36 = some T36.sp := rfl
theorem tb5_37 : tb5 37 = some T37.sp := rfl
theorem v5 : Valid Try.prog 5 T5.sp := by
  refine valid_t (fn := Try.f5) (n := 131) ty_ok tb5_ok Try.func5 rfl Try.ntmps5 ?_
  rintro ⟨a0_0, a0_1, a0_2, a1, a2⟩ hx
  obtain ⟨r, hr⟩ := Option.isSome_iff_exists.1 (show (r5 a0_0 a0_1 a0_2 a1 a2).isSome = true from hx)
  have hres : T5.res (a0_0, a0_1, a0_2, a1, a2) = [.c (.d (.bool r))] := by simp only [T5, hr, Option.getD_some]
  refine ⟨Nat.le_of_ble_eq_true rfl, fun stop S => ?_⟩
  rw [hres] at S
  unfold r5 at hr
  refine S.goB [] 1000 ?_
  simp (maxSteps := 10000000) only [go_sem, tb5_14, T14, tb5_19, T19, tb5_28, T28, tb5_29, T29, tb5_30, T30, tb5_31, T31, tb5_32, T32, tb5_33, T33, tb5_34, T34, tb5_35, T35, tb5_36, T36, tb5_37, T37, T5, Option.map_some, Int.reduceToNat, Nat.reduceEqDiff, Nat.reduceLT, Nat.reduceAdd, Nat.reduceMul, Nat.reduceSub, Nat.reduceLeDiff, reduceIte, reduceCtorEq, Try.results5]
  obtain ⟨v1, hv1, hr⟩ := of_bind0 hr
  try simp only [hv1, Option.getD_some, Option.isSome_some, true_and, and_assoc]
  repeat (refine And.intro ?_ ?_; focus (first | assumption | decide +kernel | omega | (show Eqv _ _; (simp (maxDischargeDepth := 8) [go_sem]))))
  refine ⟨fun hc => ?_, fun hc => ?_⟩
  · rw [if_pos (by first | exact hc | (rw [hc]; rfl) | simpa using hc | (simp at hc ⊢; omega) | simp_all)] at hr
    repeat (refine And.intro ?_ ?_; focus (first | assumption | decide +kernel | omega | (show Eqv _ _; (simp (maxDischargeDepth := 8) [go_sem]))))
    obtain rfl := Option.some.inj hr
    (simp (maxDischargeDepth := 8) [go_sem])
  · rw [if_neg (by first | exact hc | (rw [hc]; rfl) | simpa using hc | (simp at hc ⊢; omega) | simp_all)] at hr
    obtain ⟨v2, hv2, hr⟩ := of_bind0 hr
    obtain ⟨hg14, hr⟩ := of_guard0 hr
    try simp only [hv2, Option.getD_some, Option.isSome_some, true_and, and_assoc]
    repeat (refine And.intro ?_ ?_; focus (first | assumption | decide +kernel | omega | (show Eqv _ _; (simp (maxDischargeDepth := 8) [go_sem])) | (intro hq; first | exact hg14 (by first | exact hq | (rw [hq]; rfl) | simpa using hq) | (have h9 := hg14 (by first | exact hq | (rw [hq]; rfl) | simpa using hq); first | omega | (simpa using h9)) | exact hq.1 | exact hq) | (simp +contextual; done)))
    refine ⟨fun hc => ?_, fun hc => ?_⟩
    · rw [if_pos (by first | exact hc | (rw [hc]; rfl) | simpa using hc | (simp at hc ⊢; omega) | simp_all)] at hr
      repeat (refine And.intro ?_ ?_; focus (first | assumption | decide +kernel | omega | (show Eqv _ _; (simp (maxDischargeDepth := 8) [go_sem]))))
      obtain rfl := Option.some.inj hr
      (simp (maxDischargeDepth := 8) [go_sem])
    · rw [if_neg (by first | exact hc | (rw [hc]; rfl) | simpa using hc | (simp at hc ⊢; omega) | simp_all)] at hr
      obtain ⟨v3, hv3, hr⟩ := of_bind0 hr
      obtain ⟨v4, hv4, hr⟩ := of_bind0 hr
      obtain ⟨hg13, hr⟩ := of_guard0 hr
      obtain ⟨v5, hv5, hr⟩ := of_bind0 hr
      obtain ⟨v6, hv6, hr⟩ := of_bind0 hr
      obtain ⟨v7, hv7, hr⟩ := of_bind0 hr
      try simp only [hv3, hv4, hv5, hv6, hv7, Option.getD_some, Option.isSome_some, true_and, and_assoc]
      repeat (refine And.intro ?_ ?_; focus (first | assumption | decide +kernel | omega | (show Eqv _ _; (simp (maxDischargeDepth := 8) [go_sem]))))
      refine ⟨fun hc => ?_, fun hc => ?_⟩
      · rw [if_pos (by first | exact hc | (rw [hc]; rfl) | simpa using hc | (simp at hc ⊢; omega) | simp_all)] at hr
        repeat (refine And.intro ?_ ?_; focus (first | assumption | decide +kernel | omega | (show Eqv _ _; (simp (maxDischargeDepth := 8) [go_sem]))))
        obtain rfl := Option.some.inj hr
        (simp (maxDischargeDepth := 8) [go_sem])
      · rw [if_neg (by first | exact hc | (rw [hc]; rfl) | simpa using hc | (simp at hc ⊢; omega) | simp_all)] at hr
        repeat (refine And.intro ?_ ?_; focus (first | assumption | decide +kernel | omega | (show Eqv _ _; (simp (maxDischargeDepth := 8) [go_sem]))))
        refine ⟨fun hc => ?_, fun hc => ?_⟩
        · rw [if_pos (by first | exact hc | (rw [hc]; rfl) | simpa using hc | (simp at hc ⊢; omega) | simp_all)] at hr
          repeat (refine And.intro ?_ ?_; focus (first | assumption | decide +kernel | omega | (show Eqv _ _; (simp (maxDischargeDepth := 8) [go_sem])) | (intro hq; first | exact hq.1 | exact hq) | (simp +contextual; done)))
          obtain rfl := Option.some.inj hr
          (simp (maxDischargeDepth := 8) [go_sem])
        · rw [if_neg (by first | exact hc | (rw [hc]; rfl) | simpa using hc | (simp at hc ⊢; omega) | simp_all)] at hr
          obtain ⟨v8, hv8, hr⟩ := of_bind0 hr
          obtain ⟨hg11, hr⟩ := of_guard0 hr
          obtain ⟨hg12, hr⟩ := of_guard0 hr
          try simp only [hv8, Option.getD_some, Option.isSome_some, true_and, and_assoc]
          repeat (refine And.intro ?_ ?_; focus (first | assumption | decide +kernel | omega | (show Eqv _ _; (simp (maxDischargeDepth := 8) [go_sem])) | (intro hq; first | exact hg11 (by first | exact hq | (rw [hq]; rfl) | simpa using hq) | (have h9 := hg11 (by first | exact hq | (rw [hq]; rfl) | simpa using hq); first | omega | (simpa using h9)) | exact hg12 (by first | exact hq | (rw [hq]; rfl) | simpa using hq) | (have h9 := hg12 (by first | exact hq | (rw [hq]; rfl) | simpa using hq); first | omega | (simpa using h9)) | exact hq.1 | exact hq) | (simp +contextual; done)))
          refine ⟨fun hc => ?_, fun hc => ?_⟩
          · rw [if_pos (by first | exact hc | (rw [hc]; rfl) | simpa using hc | (simp at hc ⊢; omega) | simp_all)] at hr
            repeat (refine And.intro ?_ ?_; focus (first | assumption | decide +kernel | omega | (show Eqv _ _; (simp (maxDischargeDepth := 8) [go_sem]))))
            obtain rfl := Option.some.inj hr
            (simp (maxDischargeDepth := 8) [go_sem])
          · rw [if_neg (by first | exact hc | (rw [hc]; rfl) | simpa using hc | (simp at hc ⊢; omega) | simp_all)] at hr
            obtain ⟨v9, hv9, hr⟩ := of_bind0 hr
            try simp only [hv9, Option.getD_some, Option.isSome_some, true_and, and_assoc]
            repeat (refine And.intro ?_ ?_; focus (first | assumption | decide +kernel | omega | (show Eqv _ _; (simp (maxDischargeDepth := 8) [go_sem]))))
            refine ⟨fun hc => ?_, fun hc => ?_⟩
            · rw [if_pos (by first | exact hc | (rw [hc]; rfl) | simpa using hc | (simp at hc ⊢; omega) | simp_all)] at hr
              repeat (refine And.intro ?_ ?_; focus (first | assumption | decide +kernel | omega | (show Eqv _ _; (simp (maxDischargeDepth := 8) [go_sem])) | (intro hq; first | exact hq.1 | exact hq) | (simp +contextual; done)))
              obtain rfl := Option.some.inj hr
              (simp (maxDischargeDepth := 8) [go_sem])
            · rw [if_neg (by first | exact hc | (rw [hc]; rfl) | simpa using hc | (simp at hc ⊢; omega) | simp_all)] at hr
              obtain ⟨v10, hv10, hr⟩ := of_bind0 hr
              try simp only [hv10, Option.getD_some, Option.isSome_some, true_and, and_assoc]
              repeat (refine And.intro ?_ ?_; focus (first | assumption | decide +kernel | omega | (show Eqv _ _; (simp (maxDischargeDepth := 8) [go_sem]))))
              refine ⟨fun hc => ?_, fun hc => ?_⟩
              · rw [if_pos (by first | exact hc | (rw [hc]; rfl) | simpa using hc | (simp at hc ⊢; omega) | simp_all)] at hr
                repeat (refine And.intro ?_ ?_; focus (first | assumption | decide +kernel | omega | (show Eqv _ _; (simp (maxDischargeDepth := 8) [go_sem])) | (intro hq; first | exact hq.1 | exact hq) | (simp +contextual; done)))
                obtain rfl := Option.some.inj hr
                (simp (maxDischargeDepth := 8) [go_sem])
              · rw [if_neg (by first | exact hc | (rw [hc]; rfl) | simpa using hc | (simp at hc ⊢; omega) | simp_all)] at hr
                repeat (refine And.intro ?_ ?_; focus (first | assumption | decide +kernel | omega | (show Eqv _ _; (simp (maxDischargeDepth := 8) [go_sem])) | (intro hq; first | exact hq.1 | exact hq) | (simp +contextual; done)))
                obtain rfl := Option.some.inj hr
                (simp (maxDischargeDepth := 8) [go_sem])
theorem f5 : FnFact Try.prog 5 T5.sp := ⟨⟨Try.f5, Try.func5, by decide, rfl⟩, v5⟩
end Go.Proofs.Ytcbiiijnaeibhaa

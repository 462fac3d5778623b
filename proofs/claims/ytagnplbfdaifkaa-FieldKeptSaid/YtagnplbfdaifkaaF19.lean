/- Contracts of functions, written by wip/dec. -/
import Derived.Test.YtagnplbfdaifkaaF00
import Derived.Test.YtagnplbfdaifkaaF01
import Derived.Test.YtagnplbfdaifkaaF02
import Derived.Test.YtagnplbfdaifkaaF05
set_option linter.unusedVariables false
set_option linter.unusedSimpArgs false
set_option maxHeartbeats 4000000
set_option maxRecDepth 20000
namespace Go.Proofs.Ytagnplbfdaifkaa
open Go.Abs
/- martensite/field.CurrentsOf -/
def r53 (a0_0 : Int) (a0_1 : List (Int × Int × Int)) (a1_0 : Int) (a1_1 : List (Bool)) : Option ((List (Int × Int)) × Int) :=
  (r83 a0_0 a0_1 a1_0 a1_1).bind fun v1 =>
   if (v1.2.2 != 0) = true then
    some ([], v1.2.2)
    else (r84 v1.1 v1.2.1).bind fun v2 =>
     some (v2.2, 0)
def T53 : TSpec (Int × (List (Int × Int × Int)) × Int × (List (Bool))) where
  enc x := [.agg [.int .i64 x.1, encF 3 d_III x.2.1], .agg [.int .i64 x.2.2.1, encF 1 d_B x.2.2.2]]
  dec a := (dInt (aCell a 0 0), decF g_III (aCell a 0 1), dInt (aCell a 1 0), decF g_B (aCell a 1 1))
  pre x := (r53 x.1 x.2.1 x.2.2.1 x.2.2.2).isSome = true
  res x := [.c (.own (encF 2 d_II (((r53 x.1 x.2.1 x.2.2.1 x.2.2.2).getD default).1))), .c (.d (.int .i64 (((r53 x.1 x.2.1 x.2.2.1 x.2.2.2).getD default).2)))]
  al := false
def tb53 : Fns := lk [(83, T83.sp), (84, T84.sp)]
theorem tb53_ok : FnsOk Try.prog tb53 := .cons f83 (.cons f84 (FnsOk.nil))
theorem tb53_83 : tb53 83 = some T83.sp := rfl
theorem tb53_84 : tb53 84 = some T84.sp := rfl
theorem v53 : Valid Try.prog 53 T53.sp := by
  refine valid_t (fn := Try.f53) (n := 25) ty_ok tb53_ok Try.func53 rfl Try.ntmps53 ?_
  rintro ⟨a0_0, a0_1, a1_0, a1_1⟩ hx
  obtain ⟨r, hr⟩ := Option.isSome_iff_exists.1 (show (r53 a0_0 a0_1 a1_0 a1_1).isSome = true from hx)
  have hres : T53.res (a0_0, a0_1, a1_0, a1_1) = [.c (.own (encF 2 d_II r.1)), .c (.d (.int .i64 r.2))] := by simp only [T53, hr, Option.getD_some]
  refine ⟨Nat.le_of_ble_eq_true rfl, fun stop S => ?_⟩
  rw [hres] at S
  unfold r53 at hr
  refine S.goB [] 1000 ?_
  simp (maxSteps := 10000000) only [go_sem, tb53_83, T83, tb53_84, T84, T53, Bool.not_true, Bool.not_false, Option.map_some, Int.reduceToNat, Nat.reduceEqDiff, Nat.reduceLT, Nat.reduceAdd, Nat.reduceMul, Nat.reduceSub, Nat.reduceLeDiff, reduceIte, reduceCtorEq, Try.results53]
  obtain ⟨v1, hv1, hr⟩ := of_bind0 hr
  try simp only [hv1, Option.getD_some, Option.isSome_some, true_and, and_assoc]
  repeat refine gA ?_
  refine ⟨fun hc => ?_, fun hc => ?_⟩
  · replace hr := ifP hr hc
    repeat refine gA ?_
    obtain rfl := Option.some.inj hr
    (simp (maxDischargeDepth := 8) [go_sem, -List.drop_one])
  · replace hr := ifN hr hc
    obtain ⟨v2, hv2, hr⟩ := of_bind0 hr
    try simp only [hv2, Option.getD_some, Option.isSome_some, true_and, and_assoc]
    repeat refine gA ?_
    obtain rfl := Option.some.inj hr
    (simp (maxDischargeDepth := 8) [go_sem, -List.drop_one])
theorem f53 : FnFact Try.prog 53 T53.sp := ⟨⟨Try.f53, Try.func53, by decide, rfl⟩, v53⟩

/- martensite/martensitebase.CopyGausses -/
def r55 (a0 : List (Int × Int)) : Option ((List (Int × Int))) :=
  if (0 + a0.length) * 16 ≤ 140737488355328 ∧ 0 + a0.length ≤ 9223372036854775807 then
   some a0
   else none
def T55 : TSpec ((List (Int × Int))) where
  enc x := [.c (encF 2 d_II x)]
  dec a := decF g_II (aCell a 0 0)
  pre x := (r55 x).isSome = true
  res x := [.c (.own (encF 2 d_II ((r55 x).getD default)))]
  al := false
def tb55 : Fns := lk []
theorem tb55_ok : FnsOk Try.prog tb55 := FnsOk.nil
theorem v55 : Valid Try.prog 55 T55.sp := by
  refine valid_t (fn := Try.f55) (n := 6) ty_ok tb55_ok Try.func55 rfl Try.ntmps55 ?_
  rintro a0 hx
  obtain ⟨r, hr⟩ := Option.isSome_iff_exists.1 (show (r55 a0).isSome = true from hx)
  have hres : T55.res a0 = [.c (.own (encF 2 d_II r))] := by simp only [T55, hr, Option.getD_some]
  refine ⟨Nat.le_of_ble_eq_true rfl, fun stop S => ?_⟩
  rw [hres] at S
  unfold r55 at hr
  refine S.goB [] 1000 ?_
  simp (maxSteps := 10000000) only [go_sem, T55, Bool.not_true, Bool.not_false, Option.map_some, Int.reduceToNat, Nat.reduceEqDiff, Nat.reduceLT, Nat.reduceAdd, Nat.reduceMul, Nat.reduceSub, Nat.reduceLeDiff, reduceIte, reduceCtorEq, Try.results55]
  obtain ⟨hg1, hr⟩ := of_guard0 hr
  repeat refine gA ?_
  obtain rfl := Option.some.inj hr
  (simp (maxDischargeDepth := 8) [go_sem, -List.drop_one])
theorem f55 : FnFact Try.prog 55 T55.sp := ⟨⟨Try.f55, Try.func55, by decide, rfl⟩, v55⟩

/- martensite/field.CheckVoltages$1 -/
def r113 (a0 : Int) : Option (Bool) :=
  (r97 a0 (-1000000000) 1000000000).bind fun v1 =>
   some v1
def T113 : TSpec (Int) where
  enc x := [.c (.int .i64 x)]
  dec a := dInt (aCell a 0 0)
  pre x := (r113 x).isSome = true
  res x := [.c (.d (.bool ((r113 x).getD default)))]
  al := false
def tb113 : Fns := lk [(97, T97.sp)]
theorem tb113_ok : FnsOk Try.prog tb113 := .cons f97 (FnsOk.nil)
theorem tb113_97 : tb113 97 = some T97.sp := rfl
theorem v113 : Valid Try.prog 113 T113.sp := by
  refine valid_t (fn := Try.f113) (n := 5) ty_ok tb113_ok Try.func113 rfl Try.ntmps113 ?_
  rintro a0 hx
  obtain ⟨r, hr⟩ := Option.isSome_iff_exists.1 (show (r113 a0).isSome = true from hx)
  have hres : T113.res a0 = [.c (.d (.bool r))] := by simp only [T113, hr, Option.getD_some]
  refine ⟨Nat.le_of_ble_eq_true rfl, fun stop S => ?_⟩
  rw [hres] at S
  unfold r113 at hr
  refine S.goB [] 1000 ?_
  simp (maxSteps := 10000000) only [go_sem, tb113_97, T97, T113, Bool.not_true, Bool.not_false, Option.map_some, Int.reduceToNat, Nat.reduceEqDiff, Nat.reduceLT, Nat.reduceAdd, Nat.reduceMul, Nat.reduceSub, Nat.reduceLeDiff, reduceIte, reduceCtorEq, Try.results113]
  obtain ⟨v1, hv1, hr⟩ := of_bind0 hr
  try simp only [hv1, Option.getD_some, Option.isSome_some, true_and, and_assoc]
  repeat refine gA ?_
  obtain rfl := Option.some.inj hr
  (simp (maxDischargeDepth := 8) [go_sem, -List.drop_one])
theorem f113 : FnFact Try.prog 113 T113.sp := ⟨⟨Try.f113, Try.func113, by decide, rfl⟩, v113⟩

/- martensite/field.CheckVoltages -/
def b54_2 (a2 : List (Int × Int)) (v1 : (List (Int)) × (List (Int)) × Int) : (Int × Int × Int × Int) → Ctl (Int × Int × Int × Int) (Int × Int) := fun s2 =>
  if (decide (s2.2.1 ≥ 0)) = true then
   if 0 ≤ IntKind.i64.wrap (s2.2.1 + 1) ∧ IntKind.i64.wrap (s2.2.1 + 1) < (a2.length : Int) then
    bindC (r116 v1.1 v1.2.1 s2.2.1 ((a2.getD (IntKind.i64.wrap (s2.2.1 + 1)).toNat default).1) ((a2.getD (IntKind.i64.wrap (s2.2.1 + 1)).toNat default).2) s2.2.2.1 s2.2.2.2) fun v8 =>
     if 0 ≤ s2.2.1 ∧ s2.2.1 < (a2.length : Int) then
      if (!((v8.2.2.1 == (a2.getD s2.2.1.toNat default).1) && (v8.2.2.2 == (a2.getD s2.2.1.toNat default).2))) = true then
       .next (s2.2.1, IntKind.i64.wrap (s2.2.1 - 1), v8.1, v8.2.1)
       else .next (s2.1, IntKind.i64.wrap (s2.2.1 - 1), v8.1, v8.2.1)
      else .out none
    else .out none
   else .out (if (decide (s2.1 ≥ 0)) = true then
    some (s2.1, 19)
    else some (0, 0))
def b54_3 (a2 : List (Int × Int)) (v1 : (List (Int)) × (List (Int)) × Int) : (Int × Int × Int × Int) → Ctl (Int × Int × Int × Int) (Int × Int) := fun s3 =>
  if (decide (s3.2.1 ≥ 0)) = true then
   if 0 ≤ IntKind.i64.wrap (s3.2.1 + 1) ∧ IntKind.i64.wrap (s3.2.1 + 1) < (a2.length : Int) then
    bindC (r116 v1.1 v1.2.1 s3.2.1 ((a2.getD (IntKind.i64.wrap (s3.2.1 + 1)).toNat default).1) ((a2.getD (IntKind.i64.wrap (s3.2.1 + 1)).toNat default).2) s3.2.2.1 s3.2.2.2) fun v17 =>
     if 0 ≤ s3.2.1 ∧ s3.2.1 < (a2.length : Int) then
      if (!((v17.2.2.1 == (a2.getD s3.2.1.toNat default).1) && (v17.2.2.2 == (a2.getD s3.2.1.toNat default).2))) = true then
       .next (s3.2.1, IntKind.i64.wrap (s3.2.1 - 1), v17.1, v17.2.1)
       else .next (s3.1, IntKind.i64.wrap (s3.2.1 - 1), v17.1, v17.2.1)
      else .out none
    else .out none
   else .out (if (decide (s3.1 ≥ 0)) = true then
    some (s3.1, 19)
    else some (0, 0))
def b54_1 (a0_1 : List (Int × Int × Int)) (a2 : List (Int × Int)) (v1 : (List (Int)) × (List (Int)) × Int) : (Int) → Ctl (Int) (Int × Int) := fun s1 =>
  if (decide (s1 < (a2.length : Int))) = true then
   if 0 ≤ s1 ∧ s1 < (a2.length : Int) then
    bindC (r113 ((a2.getD s1.toNat default).1)) fun v4 =>
     if (!(!v4)) = true → (r113 ((a2.getD s1.toNat default).2)).isSome = true then
      if ((!v4) || (!((r113 ((a2.getD s1.toNat default).2)).getD default))) = true then
       .out ((r96 (!(decide (s1 ≥ 0))) 2).bind fun v5 =>
        if 0 ≤ (a0_1.length : Int) ∧ (a0_1.length : Int) < (a2.length : Int) then
         (r96 (((a2.getD a0_1.length default).1 == 1) && ((a2.getD a0_1.length default).2 == 0)) 3).bind fun v6 =>
          (r87 [v5, v6]).bind fun v7 =>
           if (v7 != 0) = true then
            some (0, v7)
            else iterC (b54_2 a2 v1) 1000000000 ((-1), IntKind.i64.wrap ((a0_1.length : Int) - 1), 0, 0)
         else none)
       else .next (IntKind.i64.wrap (s1 + 1))
      else .out none
    else .out none
   else .out ((r96 (!(decide ((-1) ≥ 0))) 2).bind fun v14 =>
    if 0 ≤ (a0_1.length : Int) ∧ (a0_1.length : Int) < (a2.length : Int) then
     (r96 (((a2.getD a0_1.length default).1 == 1) && ((a2.getD a0_1.length default).2 == 0)) 3).bind fun v15 =>
      (r87 [v14, v15]).bind fun v16 =>
       if (v16 != 0) = true then
        some (0, v16)
        else iterC (b54_3 a2 v1) 1000000000 ((-1), IntKind.i64.wrap ((a0_1.length : Int) - 1), 0, 0)
     else none)
def r54 (a0_0 : Int) (a0_1 : List (Int × Int × Int)) (a1_0 : Int) (a1_1 : List (Bool)) (a2 : List (Int × Int)) : Option (Int × Int) :=
  (r83 a0_0 a0_1 a1_0 a1_1).bind fun v1 =>
   (r96 ((a2.length : Int) == (IntKind.i64.wrap ((a0_1.length : Int) + 1))) 10).bind fun v2 =>
    (r87 [v1.2.2, v2]).bind fun v3 =>
     if (v3 != 0) = true then
      some (0, v3)
      else iterC (b54_1 a0_1 a2 v1) 1000000000 0
def T54 : TSpec (Int × (List (Int × Int × Int)) × Int × (List (Bool)) × (List (Int × Int))) where
  enc x := [.agg [.int .i64 x.1, encF 3 d_III x.2.1], .agg [.int .i64 x.2.2.1, encF 1 d_B x.2.2.2.1], .c (encF 2 d_II x.2.2.2.2)]
  dec a := (dInt (aCell a 0 0), decF g_III (aCell a 0 1), dInt (aCell a 1 0), decF g_B (aCell a 1 1), decF g_II (aCell a 2 0))
  pre x := (r54 x.1 x.2.1 x.2.2.1 x.2.2.2.1 x.2.2.2.2).isSome = true
  res x := [.c (.d (.int .i64 (((r54 x.1 x.2.1 x.2.2.1 x.2.2.2.1 x.2.2.2.2).getD default).1))), .c (.d (.int .i64 (((r54 x.1 x.2.1 x.2.2.1 x.2.2.2.1 x.2.2.2.2).getD default).2)))]
  al := false
def tb54 : Fns := lk [(83, T83.sp), (87, T87.sp), (96, T96.sp), (113, T113.sp), (116, T116.sp)]
theorem tb54_ok : FnsOk Try.prog tb54 := .cons f83 (.cons f87 (.cons f96 (.cons f113 (.cons f116 (FnsOk.nil)))))
theorem tb54_83 : tb54 83 = some T83.sp := rfl
theorem tb54_87 : tb54 87 = some T87.sp := rfl
theorem tb54_96 : tb54 96 = some T96.sp := rfl
theorem tb54_113 : tb54 113 = some T113.sp := rfl
theorem tb54_116 : tb54 116 = some T116.sp := rfl
theorem v54 : Valid Try.prog 54 T54.sp := by
  refine valid_t (fn := Try.f54) (n := 88) ty_ok tb54_ok Try.func54 rfl Try.ntmps54 ?_
  rintro ⟨a0_0, a0_1, a1_0, a1_1, a2⟩ hx
  obtain ⟨r, hr⟩ := Option.isSome_iff_exists.1 (show (r54 a0_0 a0_1 a1_0 a1_1 a2).isSome = true from hx)
  have hres : T54.res (a0_0, a0_1, a1_0, a1_1, a2) = [.c (.d (.int .i64 r.1)), .c (.d (.int .i64 r.2))] := by simp only [T54, hr, Option.getD_some]
  refine ⟨Nat.le_of_ble_eq_true rfl, fun stop S => ?_⟩
  rw [hres] at S
  unfold r54 at hr
  refine S.goB [6] 1000 ?_
  simp (maxSteps := 10000000) only [go_sem, tb54_83, T83, tb54_87, T87, tb54_96, T96, tb54_113, T113, tb54_116, T116, T54, Bool.not_true, Bool.not_false, Option.map_some, Int.reduceToNat, Nat.reduceEqDiff, Nat.reduceLT, Nat.reduceAdd, Nat.reduceMul, Nat.reduceSub, Nat.reduceLeDiff, reduceIte, reduceCtorEq, Try.results54, Try.results114, Try.results115, Try.results132]
  obtain ⟨v1, hv1, hr⟩ := of_bind0 hr
  obtain ⟨v2, hv2, hr⟩ := of_bind0 hr
  obtain ⟨v3, hv3, hr⟩ := of_bind0 hr
  try simp only [hv1, hv2, hv3, Option.getD_some, Option.isSome_some, true_and, and_assoc]
  repeat refine gA ?_
  refine ⟨fun hc => ?_, fun hc => ?_⟩
  · replace hr := ifP hr hc
    repeat refine gA ?_
    obtain rfl := Option.some.inj hr
    (simp (maxDischargeDepth := 8) [go_sem, -List.drop_one])
  · replace hr := ifN hr hc
    repeat refine gA ?_
    refine S.inl 2 [2, 3, 8] [] Try.func114 (by decide) rfl Try.ntmps114 (fun cx e => drawn_ok ty_ok tb54_ok cx e) (some 39) rfl rfl rfl rfl (Nat.le_of_ble_eq_true rfl) (Nat.le_of_ble_eq_true rfl) ?_
    simp (maxSteps := 10000000) only [go_sem, tb54_83, T83, tb54_87, T87, tb54_96, T96, tb54_113, T113, tb54_116, T116, T54, Bool.not_true, Bool.not_false, Option.map_some, Int.reduceToNat, Nat.reduceEqDiff, Nat.reduceLT, Nat.reduceAdd, Nat.reduceMul, Nat.reduceSub, Nat.reduceLeDiff, reduceIte, reduceCtorEq, Try.results54, Try.results114, Try.results115, Try.results132]
    repeat refine gA ?_
    intro stop1 S1
    refine S1.goB [1] 1000 ?_
    simp (maxSteps := 10000000) only [go_sem, tb54_83, T83, tb54_87, T87, tb54_96, T96, tb54_113, T113, tb54_116, T116, T54, Bool.not_true, Bool.not_false, Option.map_some, Int.reduceToNat, Nat.reduceEqDiff, Nat.reduceLT, Nat.reduceAdd, Nat.reduceMul, Nat.reduceSub, Nat.reduceLeDiff, reduceIte, reduceCtorEq, Try.results54, Try.results114, Try.results115, Try.results132]
    repeat refine gA ?_
    refine S1.inl 2 [4] [] Try.func132 (by decide) rfl Try.ntmps132 (fun cx e => drawn_ok ty_ok tb54_ok cx e) (some 7) rfl rfl rfl rfl (Nat.le_of_ble_eq_true rfl) (Nat.le_of_ble_eq_true rfl) ?_
    simp (maxSteps := 10000000) only [go_sem, tb54_83, T83, tb54_87, T87, tb54_96, T96, tb54_113, T113, tb54_116, T116, T54, Bool.not_true, Bool.not_false, Option.map_some, Int.reduceToNat, Nat.reduceEqDiff, Nat.reduceLT, Nat.reduceAdd, Nat.reduceMul, Nat.reduceSub, Nat.reduceLeDiff, reduceIte, reduceCtorEq, Try.results54, Try.results114, Try.results115, Try.results132]
    repeat refine gA ?_
    intro stop2 S2
    refine S2.goB [4] 1000 ?_
    simp (maxSteps := 10000000) only [go_sem, tb54_83, T83, tb54_87, T87, tb54_96, T96, tb54_113, T113, tb54_116, T116, T54, Bool.not_true, Bool.not_false, Option.map_some, Int.reduceToNat, Nat.reduceEqDiff, Nat.reduceLT, Nat.reduceAdd, Nat.reduceMul, Nat.reduceSub, Nat.reduceLeDiff, reduceIte, reduceCtorEq, Try.results54, Try.results114, Try.results115, Try.results132]
    repeat refine gA ?_
    refine S2.sees [0, 1, 7, 8] [(10, 10), (3, 3), (8, 8)] [(20, 20), (10020, 10020)] ?_ (Stop.iter S2 (fun s1 => ⟨[(0, .c (.d (encF 2 d_II a2))), (1, .c (.clo 115 [.ref 10 0])), (7, .c (.d (.int .i64 (a2.length : Int)))), (8, .c (.d (.int .i64 s1)))], [(10, [.clo 113 []]), (3, [.d (.int .i64 a0_0), .d (encF 3 d_III a0_1)]), (8, [.own 20, .own 10020])], [(20, .owned (encF 1 d_I v1.1)), (10020, .owned (encF 1 d_I v1.2.1))]⟩) (b54_1 a0_1 a2 v1) (fun q => q = r) hr rfl ?_)
    · (simp (maxDischargeDepth := 8) [go_sem, -List.drop_one])
    · intro s1 hr
      unfold b54_1 at hr
      refine S2.goB [4] 1000 ?_
      simp (maxSteps := 10000000) only [go_sem, tb54_83, T83, tb54_87, T87, tb54_96, T96, tb54_113, T113, tb54_116, T116, T54, Bool.not_true, Bool.not_false, Option.map_some, Int.reduceToNat, Nat.reduceEqDiff, Nat.reduceLT, Nat.reduceAdd, Nat.reduceMul, Nat.reduceSub, Nat.reduceLeDiff, reduceIte, reduceCtorEq, Try.results54, Try.results114, Try.results115, Try.results132]
      repeat refine gA ?_
      refine ⟨fun hc => ?_, fun hc => ?_⟩
      · replace hr := ifP1 hr hc
        repeat refine gA ?_
        refine S2.inl 5 [0, 1, 5, 7, 8] [.ref 10 0] Try.func115 (by decide) rfl Try.ntmps115 (fun cx e => drawn_ok ty_ok tb54_ok cx e) (some 16) rfl rfl rfl rfl (Nat.le_of_ble_eq_true rfl) (Nat.le_of_ble_eq_true rfl) ?_
        simp (maxSteps := 10000000) only [go_sem, tb54_83, T83, tb54_87, T87, tb54_96, T96, tb54_113, T113, tb54_116, T116, T54, Bool.not_true, Bool.not_false, Option.map_some, Int.reduceToNat, Nat.reduceEqDiff, Nat.reduceLT, Nat.reduceAdd, Nat.reduceMul, Nat.reduceSub, Nat.reduceLeDiff, reduceIte, reduceCtorEq, Try.results54, Try.results114, Try.results115, Try.results132]
        obtain ⟨hg13, hr⟩ := of_guard1 hr
        repeat refine gA ?_
        intro stop3 S3
        refine S3.goB [1] 1000 ?_
        simp (maxSteps := 10000000) only [go_sem, tb54_83, T83, tb54_87, T87, tb54_96, T96, tb54_113, T113, tb54_116, T116, T54, Bool.not_true, Bool.not_false, Option.map_some, Int.reduceToNat, Nat.reduceEqDiff, Nat.reduceLT, Nat.reduceAdd, Nat.reduceMul, Nat.reduceSub, Nat.reduceLeDiff, reduceIte, reduceCtorEq, Try.results54, Try.results114, Try.results115, Try.results132]
        repeat refine gA ?_
        refine S3.goB [] 1000 ?_
        simp (maxSteps := 10000000) only [go_sem, tb54_83, T83, tb54_87, T87, tb54_96, T96, tb54_113, T113, tb54_116, T116, T54, Bool.not_true, Bool.not_false, Option.map_some, Int.reduceToNat, Nat.reduceEqDiff, Nat.reduceLT, Nat.reduceAdd, Nat.reduceMul, Nat.reduceSub, Nat.reduceLeDiff, reduceIte, reduceCtorEq, Try.results54, Try.results114, Try.results115, Try.results132]
        obtain ⟨v4, hv4, hr⟩ := of_bind1 hr
        obtain ⟨hg12, hr⟩ := of_guard1 hr
        try simp only [hv4, Option.getD_some, Option.isSome_some, true_and, and_assoc]
        repeat (first | refine gG hg12 ?_ | refine gA ?_ | refine gB ?_)
        repeat refine gA ?_
        repeat refine gA ?_
        refine S2.goB [4] 1000 ?_
        simp (maxSteps := 10000000) only [go_sem, tb54_83, T83, tb54_87, T87, tb54_96, T96, tb54_113, T113, tb54_116, T116, T54, Bool.not_true, Bool.not_false, Option.map_some, Int.reduceToNat, Nat.reduceEqDiff, Nat.reduceLT, Nat.reduceAdd, Nat.reduceMul, Nat.reduceSub, Nat.reduceLeDiff, reduceIte, reduceCtorEq, Try.results54, Try.results114, Try.results115, Try.results132]
        repeat refine gA ?_
        refine ⟨fun hc => ?_, fun hc => ?_⟩
        · replace hr := ifP1 hr hc
          repeat refine gA ?_
          have hr := of_out0 hr
          repeat refine gA ?_
          refine S1.goB [1] 1000 ?_
          simp (maxSteps := 10000000) only [go_sem, tb54_83, T83, tb54_87, T87, tb54_96, T96, tb54_113, T113, tb54_116, T116, T54, Bool.not_true, Bool.not_false, Option.map_some, Int.reduceToNat, Nat.reduceEqDiff, Nat.reduceLT, Nat.reduceAdd, Nat.reduceMul, Nat.reduceSub, Nat.reduceLeDiff, reduceIte, reduceCtorEq, Try.results54, Try.results114, Try.results115, Try.results132]
          repeat refine gA ?_
          repeat refine gA ?_
          refine S.goB [6] 1000 ?_
          simp (maxSteps := 10000000) only [go_sem, tb54_83, T83, tb54_87, T87, tb54_96, T96, tb54_113, T113, tb54_116, T116, T54, Bool.not_true, Bool.not_false, Option.map_some, Int.reduceToNat, Nat.reduceEqDiff, Nat.reduceLT, Nat.reduceAdd, Nat.reduceMul, Nat.reduceSub, Nat.reduceLeDiff, reduceIte, reduceCtorEq, Try.results54, Try.results114, Try.results115, Try.results132]
          obtain ⟨v5, hv5, hr⟩ := of_bind0 hr
          obtain ⟨hg11, hr⟩ := of_guard0 hr
          obtain ⟨v6, hv6, hr⟩ := of_bind0 hr
          obtain ⟨v7, hv7, hr⟩ := of_bind0 hr
          try simp only [hv5, hv6, hv7, Option.getD_some, Option.isSome_some, true_and, and_assoc]
          repeat refine gA ?_
          refine ⟨fun hc => ?_, fun hc => ?_⟩
          · replace hr := ifP hr hc
            repeat refine gA ?_
            obtain rfl := Option.some.inj hr
            (simp (maxDischargeDepth := 8) [go_sem, -List.drop_one])
          · replace hr := ifN hr hc
            repeat refine gA ?_
            refine S.sees [2, 8, 12, 13, 14] [(8, 8), (13, 13)] [(20, 20), (10020, 10020)] ?_ (Stop.iter S (fun s2 => ⟨[(2, .c (.d (encF 2 d_II a2))), (8, .c (.ref 8 0)), (12, .c (.d (.int .i64 s2.1))), (13, .c (.ref 13 0)), (14, .c (.d (.int .i64 s2.2.1)))], [(8, [.own 20, .own 10020]), (13, [.d (.int .i64 s2.2.2.1), .d (.int .i64 s2.2.2.2)])], [(20, .owned (encF 1 d_I v1.1)), (10020, .owned (encF 1 d_I v1.2.1))]⟩) (b54_2 a2 v1) (fun q => q = r) hr rfl ?_)
            · (simp (maxDischargeDepth := 8) [go_sem, -List.drop_one])
            · intro s2 hr
              unfold b54_2 at hr
              refine S.goB [6] 1000 ?_
              simp (maxSteps := 10000000) only [go_sem, tb54_83, T83, tb54_87, T87, tb54_96, T96, tb54_113, T113, tb54_116, T116, T54, Bool.not_true, Bool.not_false, Option.map_some, Int.reduceToNat, Nat.reduceEqDiff, Nat.reduceLT, Nat.reduceAdd, Nat.reduceMul, Nat.reduceSub, Nat.reduceLeDiff, reduceIte, reduceCtorEq, Try.results54, Try.results114, Try.results115, Try.results132]
              repeat refine gA ?_
              refine ⟨fun hc => ?_, fun hc => ?_⟩
              · replace hr := ifP1 hr hc
                obtain ⟨hg9, hr⟩ := of_guard1 hr
                obtain ⟨v8, hv8, hr⟩ := of_bind1 hr
                obtain ⟨hg10, hr⟩ := of_guard1 hr
                try simp only [hv8, Option.getD_some, Option.isSome_some, true_and, and_assoc]
                repeat refine gA ?_
                refine ⟨fun hc => ?_, fun hc => ?_⟩
                · replace hr := ifP1 hr hc
                  repeat refine gA ?_
                  refine S.sees [2, 8, 12, 13, 14] [(8, 8), (13, 13)] [(20, 20), (10020, 10020)] ?_ hr
                  (simp (maxDischargeDepth := 8) [go_sem, -List.drop_one])
                · replace hr := ifN1 hr hc
                  repeat refine gA ?_
                  refine S.sees [2, 8, 12, 13, 14] [(8, 8), (13, 13)] [(20, 20), (10020, 10020)] ?_ hr
                  (simp (maxDischargeDepth := 8) [go_sem, -List.drop_one])
              · replace hr := ifN1 hr hc
                repeat refine gA ?_
                have hr := of_out0 hr
                repeat refine gA ?_
                refine ⟨fun hc => ?_, fun hc => ?_⟩
                · replace hr := ifP hr hc
                  repeat refine gA ?_
                  obtain rfl := Option.some.inj hr
                  (simp (maxDischargeDepth := 8) [go_sem, -List.drop_one])
                · replace hr := ifN hr hc
                  repeat refine gA ?_
                  obtain rfl := Option.some.inj hr
                  (simp (maxDischargeDepth := 8) [go_sem, -List.drop_one])
        · replace hr := ifN1 hr hc
          repeat refine gA ?_
          refine S2.sees [0, 1, 7, 8] [(10, 10), (3, 3), (8, 8)] [(20, 20), (10020, 10020)] ?_ hr
          (simp (maxDischargeDepth := 8) [go_sem, -List.drop_one])
      · replace hr := ifN1 hr hc
        repeat refine gA ?_
        have hr := of_out0 hr
        repeat refine gA ?_
        repeat refine gA ?_
        refine S1.goB [1] 1000 ?_
        simp (maxSteps := 10000000) only [go_sem, tb54_83, T83, tb54_87, T87, tb54_96, T96, tb54_113, T113, tb54_116, T116, T54, Bool.not_true, Bool.not_false, Option.map_some, Int.reduceToNat, Nat.reduceEqDiff, Nat.reduceLT, Nat.reduceAdd, Nat.reduceMul, Nat.reduceSub, Nat.reduceLeDiff, reduceIte, reduceCtorEq, Try.results54, Try.results114, Try.results115, Try.results132]
        repeat refine gA ?_
        repeat refine gA ?_
        refine S.goB [6] 1000 ?_
        simp (maxSteps := 10000000) only [go_sem, tb54_83, T83, tb54_87, T87, tb54_96, T96, tb54_113, T113, tb54_116, T116, T54, Bool.not_true, Bool.not_false, Option.map_some, Int.reduceToNat, Nat.reduceEqDiff, Nat.reduceLT, Nat.reduceAdd, Nat.reduceMul, Nat.reduceSub, Nat.reduceLeDiff, reduceIte, reduceCtorEq, Try.results54, Try.results114, Try.results115, Try.results132]
        obtain ⟨v14, hv14, hr⟩ := of_bind0 hr
        obtain ⟨hg20, hr⟩ := of_guard0 hr
        obtain ⟨v15, hv15, hr⟩ := of_bind0 hr
        obtain ⟨v16, hv16, hr⟩ := of_bind0 hr
        try simp only [hv14, hv15, hv16, Option.getD_some, Option.isSome_some, true_and, and_assoc]
        repeat refine gA ?_
        refine ⟨fun hc => ?_, fun hc => ?_⟩
        · replace hr := ifP hr hc
          repeat refine gA ?_
          obtain rfl := Option.some.inj hr
          (simp (maxDischargeDepth := 8) [go_sem, -List.drop_one])
        · replace hr := ifN hr hc
          repeat refine gA ?_
          refine S.sees [2, 8, 12, 13, 14] [(8, 8), (13, 13)] [(20, 20), (10020, 10020)] ?_ (Stop.iter S (fun s3 => ⟨[(2, .c (.d (encF 2 d_II a2))), (8, .c (.ref 8 0)), (12, .c (.d (.int .i64 s3.1))), (13, .c (.ref 13 0)), (14, .c (.d (.int .i64 s3.2.1)))], [(8, [.own 20, .own 10020]), (13, [.d (.int .i64 s3.2.2.1), .d (.int .i64 s3.2.2.2)])], [(20, .owned (encF 1 d_I v1.1)), (10020, .owned (encF 1 d_I v1.2.1))]⟩) (b54_3 a2 v1) (fun q => q = r) hr rfl ?_)
          · (simp (maxDischargeDepth := 8) [go_sem, -List.drop_one])
          · intro s3 hr
            unfold b54_3 at hr
            refine S.goB [6] 1000 ?_
            simp (maxSteps := 10000000) only [go_sem, tb54_83, T83, tb54_87, T87, tb54_96, T96, tb54_113, T113, tb54_116, T116, T54, Bool.not_true, Bool.not_false, Option.map_some, Int.reduceToNat, Nat.reduceEqDiff, Nat.reduceLT, Nat.reduceAdd, Nat.reduceMul, Nat.reduceSub, Nat.reduceLeDiff, reduceIte, reduceCtorEq, Try.results54, Try.results114, Try.results115, Try.results132]
            repeat refine gA ?_
            refine ⟨fun hc => ?_, fun hc => ?_⟩
            · replace hr := ifP1 hr hc
              obtain ⟨hg18, hr⟩ := of_guard1 hr
              obtain ⟨v17, hv17, hr⟩ := of_bind1 hr
              obtain ⟨hg19, hr⟩ := of_guard1 hr
              try simp only [hv17, Option.getD_some, Option.isSome_some, true_and, and_assoc]
              repeat refine gA ?_
              refine ⟨fun hc => ?_, fun hc => ?_⟩
              · replace hr := ifP1 hr hc
                repeat refine gA ?_
                refine S.sees [2, 8, 12, 13, 14] [(8, 8), (13, 13)] [(20, 20), (10020, 10020)] ?_ hr
                (simp (maxDischargeDepth := 8) [go_sem, -List.drop_one])
              · replace hr := ifN1 hr hc
                repeat refine gA ?_
                refine S.sees [2, 8, 12, 13, 14] [(8, 8), (13, 13)] [(20, 20), (10020, 10020)] ?_ hr
                (simp (maxDischargeDepth := 8) [go_sem, -List.drop_one])
            · replace hr := ifN1 hr hc
              repeat refine gA ?_
              have hr := of_out0 hr
              repeat refine gA ?_
              refine ⟨fun hc => ?_, fun hc => ?_⟩
              · replace hr := ifP hr hc
                repeat refine gA ?_
                obtain rfl := Option.some.inj hr
                (simp (maxDischargeDepth := 8) [go_sem, -List.drop_one])
              · replace hr := ifN hr hc
                repeat refine gA ?_
                obtain rfl := Option.some.inj hr
                (simp (maxDischargeDepth := 8) [go_sem, -List.drop_one])
theorem f54 : FnFact Try.prog 54 T54.sp := ⟨⟨Try.f54, Try.func54, by decide, rfl⟩, v54⟩

/- martensite/martensiteref02.CheckVoltages -/
def b57_3 (a0_1 : List (Int × Int × Int)) (a2 : List (Int × Int)) (v5 : (List (Int))) (s2 : Int) : (Int × Int × Int) → Ctl (Int × Int × Int) (Ctl (Int) (Int × Int)) := fun s3 =>
  if (decide (s3.1 < (a0_1.length : Int))) = true then
   if 0 ≤ IntKind.i64.wrap (s3.1 + 1) ∧ IntKind.i64.wrap (s3.1 + 1) < (a2.length : Int) then
    if 0 ≤ s3.1 ∧ s3.1 < (a0_1.length : Int) then
     bindC (r93 ((a2.getD (IntKind.i64.wrap (s3.1 + 1)).toNat default).1) ((a2.getD (IntKind.i64.wrap (s3.1 + 1)).toNat default).2) ((a0_1.getD s3.1.toNat default).1)) fun v6 =>
      bindC (r34 s3.2.1 s3.2.2 v6.1 v6.2) fun v7 =>
       .next (IntKind.i64.wrap (s3.1 + 1), v7.1, v7.2)
     else .out none
    else .out none
   else .out (some (if 0 ≤ s2 ∧ s2 < (a2.length : Int) then
    if 0 ≤ IntKind.i64.wrap (s2 + 1) ∧ IntKind.i64.wrap (s2 + 1) < (a2.length : Int) then
     bindC (r117 s3.2.1 s3.2.2) fun v10 =>
      if 0 ≤ s2 ∧ s2 < (v5.length : Int) then
       bindC (r93 v10.1 v10.2 (v5.getD s2.toNat default)) fun v11 =>
        bindC (r34 ((a2.getD (IntKind.i64.wrap (s2 + 1)).toNat default).1) ((a2.getD (IntKind.i64.wrap (s2 + 1)).toNat default).2) v11.1 v11.2) fun v12 =>
         if (!(((a2.getD s2.toNat default).1 == v12.1) && ((a2.getD s2.toNat default).2 == v12.2))) = true then
          .out (some (s2, 19))
          else .next (IntKind.i64.wrap (s2 + 1))
       else .out none
     else .out none
    else .out none))
def b57_2 (a0_1 : List (Int × Int × Int)) (a2 : List (Int × Int)) (v5 : (List (Int))) : (Int) → Ctl (Int) (Int × Int) := fun s2 =>
  if (decide (s2 < (a0_1.length : Int))) = true then
   (iterC (b57_3 a0_1 a2 v5 s2) 1000000000 (s2, 0, 0)).getD (.out none)
   else .out (some (0, 0))
def b57_1 (a0_0 : Int) (a0_1 : List (Int × Int × Int)) (a1_0 : Int) (a1_1 : List (Bool)) (a2 : List (Int × Int)) : (Int) → Ctl (Int) (Int × Int) := fun s1 =>
  if (decide (s1 < (a2.length : Int))) = true then
   if 0 ≤ s1 ∧ s1 < (a2.length : Int) then
    bindC (r33 ((a2.getD s1.toNat default).1) (-1000000000) 1000000000) fun v1 =>
     if (!(!v1)) = true → 0 ≤ s1 ∧ s1 < (a2.length : Int) then
      if (!(!v1)) = true → (r33 ((a2.getD s1.toNat default).2) (-1000000000) 1000000000).isSome = true then
       if ((!v1) || (!((r33 ((a2.getD s1.toNat default).2) (-1000000000) 1000000000).getD default))) = true then
        .out (some (0, 2))
        else .next (IntKind.i64.wrap (s1 + 1))
       else .out none
      else .out none
    else .out none
   else .out (if 0 ≤ (a0_1.length : Int) ∧ (a0_1.length : Int) < (a2.length : Int) then
    if (!(((a2.getD a0_1.length default).1 == 1) && ((a2.getD a0_1.length default).2 == 0))) = true then
     some (0, 3)
     else (r31 a0_0 a0_1 a1_0 a1_1).bind fun v5 =>
      iterC (b57_2 a0_1 a2 v5) 1000000000 0
    else none)
def r57 (a0_0 : Int) (a0_1 : List (Int × Int × Int)) (a1_0 : Int) (a1_1 : List (Bool)) (a2 : List (Int × Int)) : Option (Int × Int) :=
  if ((a2.length : Int) != (IntKind.i64.wrap ((a0_1.length : Int) + 1))) = true then
   some (0, 10)
   else iterC (b57_1 a0_0 a0_1 a1_0 a1_1 a2) 1000000000 0
def T57 : TSpec (Int × (List (Int × Int × Int)) × Int × (List (Bool)) × (List (Int × Int))) where
  enc x := [.agg [.int .i64 x.1, encF 3 d_III x.2.1], .agg [.int .i64 x.2.2.1, encF 1 d_B x.2.2.2.1], .c (encF 2 d_II x.2.2.2.2)]
  dec a := (dInt (aCell a 0 0), decF g_III (aCell a 0 1), dInt (aCell a 1 0), decF g_B (aCell a 1 1), decF g_II (aCell a 2 0))
  pre x := (r57 x.1 x.2.1 x.2.2.1 x.2.2.2.1 x.2.2.2.2).isSome = true
  res x := [.c (.d (.int .i64 (((r57 x.1 x.2.1 x.2.2.1 x.2.2.2.1 x.2.2.2.2).getD default).1))), .c (.d (.int .i64 (((r57 x.1 x.2.1 x.2.2.1 x.2.2.2.1 x.2.2.2.2).getD default).2)))]
  al := false
def tb57 : Fns := lk [(31, T31.sp), (33, T33.sp), (34, T34.sp), (93, T93.sp), (117, T117.sp)]
theorem tb57_ok : FnsOk Try.prog tb57 := .cons f31 (.cons f33 (.cons f34 (.cons f93 (.cons f117 (FnsOk.nil)))))
theorem tb57_31 : tb57 31 = some T31.sp := rfl
theorem tb57_33 : tb57 33 = some T33.sp := rfl
theorem tb57_34 : tb57 34 = some T34.sp := rfl
theorem tb57_93 : tb57 93 = some T93.sp := rfl
theorem tb57_117 : tb57 117 = some T117.sp := rfl
theorem v57 : Valid Try.prog 57 T57.sp := by
  refine valid_t (fn := Try.f57) (n := 97) ty_ok tb57_ok Try.func57 rfl Try.ntmps57 ?_
  rintro ⟨a0_0, a0_1, a1_0, a1_1, a2⟩ hx
  obtain ⟨r, hr⟩ := Option.isSome_iff_exists.1 (show (r57 a0_0 a0_1 a1_0 a1_1 a2).isSome = true from hx)
  have hres : T57.res (a0_0, a0_1, a1_0, a1_1, a2) = [.c (.d (.int .i64 r.1)), .c (.d (.int .i64 r.2))] := by simp only [T57, hr, Option.getD_some]
  refine ⟨Nat.le_of_ble_eq_true rfl, fun stop S => ?_⟩
  rw [hres] at S
  unfold r57 at hr
  refine S.goB [] 1000 ?_
  simp (maxSteps := 10000000) only [go_sem, tb57_31, T31, tb57_33, T33, tb57_34, T34, tb57_93, T93, tb57_117, T117, T57, Bool.not_true, Bool.not_false, Option.map_some, Int.reduceToNat, Nat.reduceEqDiff, Nat.reduceLT, Nat.reduceAdd, Nat.reduceMul, Nat.reduceSub, Nat.reduceLeDiff, reduceIte, reduceCtorEq, Try.results57]
  repeat refine gA ?_
  refine ⟨fun hc => ?_, fun hc => ?_⟩
  · replace hr := ifP hr hc
    repeat refine gA ?_
    obtain rfl := Option.some.inj hr
    (simp (maxDischargeDepth := 8) [go_sem, -List.drop_one])
  · replace hr := ifN hr hc
    repeat refine gA ?_
    refine S.sees [2, 3, 4, 8, 9] [(3, 3), (4, 4)] [] ?_ (Stop.iter S (fun s1 => ⟨[(2, .c (.d (encF 2 d_II a2))), (3, .c (.ref 3 0)), (4, .c (.ref 4 0)), (8, .c (.d (.int .i64 (a0_1.length : Int)))), (9, .c (.d (.int .i64 s1)))], [(3, [.d (.int .i64 a0_0), .d (encF 3 d_III a0_1)]), (4, [.d (.int .i64 a1_0), .d (encF 1 d_B a1_1)])], []⟩) (b57_1 a0_0 a0_1 a1_0 a1_1 a2) (fun q => q = r) hr rfl ?_)
    · (simp (maxDischargeDepth := 8) [go_sem, -List.drop_one])
    · intro s1 hr
      unfold b57_1 at hr
      refine S.goB [] 1000 ?_
      simp (maxSteps := 10000000) only [go_sem, tb57_31, T31, tb57_33, T33, tb57_34, T34, tb57_93, T93, tb57_117, T117, T57, Bool.not_true, Bool.not_false, Option.map_some, Int.reduceToNat, Nat.reduceEqDiff, Nat.reduceLT, Nat.reduceAdd, Nat.reduceMul, Nat.reduceSub, Nat.reduceLeDiff, reduceIte, reduceCtorEq, Try.results57]
      repeat refine gA ?_
      refine ⟨fun hc => ?_, fun hc => ?_⟩
      · replace hr := ifP1 hr hc
        obtain ⟨hg2, hr⟩ := of_guard1 hr
        obtain ⟨v1, hv1, hr⟩ := of_bind1 hr
        obtain ⟨hg3, hr⟩ := of_guard1 hr
        obtain ⟨hg4, hr⟩ := of_guard1 hr
        try simp only [hv1, Option.getD_some, Option.isSome_some, true_and, and_assoc]
        repeat (first | refine gG hg3 ?_ | refine gG hg4 ?_ | refine gA ?_ | refine gB ?_)
        refine ⟨fun hc => ?_, fun hc => ?_⟩
        · replace hr := ifP1 hr hc
          repeat refine gA ?_
          have hr := of_out0 hr
          obtain rfl := Option.some.inj hr
          (simp (maxDischargeDepth := 8) [go_sem, -List.drop_one])
        · replace hr := ifN1 hr hc
          repeat refine gA ?_
          refine S.sees [2, 3, 4, 8, 9] [(3, 3), (4, 4)] [] ?_ hr
          (simp (maxDischargeDepth := 8) [go_sem, -List.drop_one])
      · replace hr := ifN1 hr hc
        repeat refine gA ?_
        have hr := of_out0 hr
        obtain ⟨hg16, hr⟩ := of_guard0 hr
        repeat refine gA ?_
        refine ⟨fun hc => ?_, fun hc => ?_⟩
        · replace hr := ifP hr hc
          repeat refine gA ?_
          obtain rfl := Option.some.inj hr
          (simp (maxDischargeDepth := 8) [go_sem, -List.drop_one])
        · replace hr := ifN hr hc
          obtain ⟨v5, hv5, hr⟩ := of_bind0 hr
          try simp only [hv5, Option.getD_some, Option.isSome_some, true_and, and_assoc]
          repeat refine gA ?_
          refine S.sees [2, 3, 8, 10, 11] [(3, 3)] [(52, 52)] ?_ (Stop.iter S (fun s2 => ⟨[(2, .c (.d (encF 2 d_II a2))), (3, .c (.ref 3 0)), (8, .c (.d (.int .i64 (a0_1.length : Int)))), (10, .c (.own 52)), (11, .c (.d (.int .i64 s2)))], [(3, [.d (.int .i64 a0_0), .d (encF 3 d_III a0_1)])], [(52, .owned (encF 1 d_I v5))]⟩) (b57_2 a0_1 a2 v5) (fun q => q = r) hr rfl ?_)
          · (simp (maxDischargeDepth := 8) [go_sem, -List.drop_one])
          · intro s2 hr
            unfold b57_2 at hr
            refine S.goB [] 1000 ?_
            simp (maxSteps := 10000000) only [go_sem, tb57_31, T31, tb57_33, T33, tb57_34, T34, tb57_93, T93, tb57_117, T117, T57, Bool.not_true, Bool.not_false, Option.map_some, Int.reduceToNat, Nat.reduceEqDiff, Nat.reduceLT, Nat.reduceAdd, Nat.reduceMul, Nat.reduceSub, Nat.reduceLeDiff, reduceIte, reduceCtorEq, Try.results57]
            repeat refine gA ?_
            refine ⟨fun hc => ?_, fun hc => ?_⟩
            · replace hr := ifP1 hr hc
              repeat refine gA ?_
              obtain ⟨q3, hq, hr⟩ := of_iter1 hr
              refine S.sees [2, 3, 8, 10, 11, 12, 13] [(3, 3), (12, 12)] [(52, 52)] ?_ (Stop.iter S (fun s3 => ⟨[(2, .c (.d (encF 2 d_II a2))), (3, .c (.ref 3 0)), (8, .c (.d (.int .i64 (a0_1.length : Int)))), (10, .c (.own 52)), (11, .c (.d (.int .i64 s2))), (12, .c (.ref 12 0)), (13, .c (.d (.int .i64 s3.1)))], [(3, [.d (.int .i64 a0_0), .d (encF 3 d_III a0_1)]), (12, [.d (.int .i64 s3.2.1), .d (.int .i64 s3.2.2)])], [(52, .owned (encF 1 d_I v5))]⟩) (b57_3 a0_1 a2 v5 s2) _ hq hr ?_)
              · (simp (maxDischargeDepth := 8) [go_sem, -List.drop_one])
              · intro s3 hr
                unfold b57_3 at hr
                refine S.goB [] 1000 ?_
                simp (maxSteps := 10000000) only [go_sem, tb57_31, T31, tb57_33, T33, tb57_34, T34, tb57_93, T93, tb57_117, T117, T57, Bool.not_true, Bool.not_false, Option.map_some, Int.reduceToNat, Nat.reduceEqDiff, Nat.reduceLT, Nat.reduceAdd, Nat.reduceMul, Nat.reduceSub, Nat.reduceLeDiff, reduceIte, reduceCtorEq, Try.results57]
                repeat refine gA ?_
                refine ⟨fun hc => ?_, fun hc => ?_⟩
                · replace hr := ifP1 hr hc
                  obtain ⟨hg8, hr⟩ := of_guard1 hr
                  obtain ⟨hg9, hr⟩ := of_guard1 hr
                  obtain ⟨v6, hv6, hr⟩ := of_bind1 hr
                  obtain ⟨v7, hv7, hr⟩ := of_bind1 hr
                  try simp only [hv6, hv7, Option.getD_some, Option.isSome_some, true_and, and_assoc]
                  repeat refine gA ?_
                  refine S.sees [2, 3, 8, 10, 11, 12, 13] [(3, 3), (12, 12)] [(52, 52)] ?_ hr
                  (simp (maxDischargeDepth := 8) [go_sem, -List.drop_one])
                · replace hr := ifN1 hr hc
                  repeat refine gA ?_
                  replace hr := goodC_out hr
                  obtain ⟨hg13, hr⟩ := of_guard1 hr
                  obtain ⟨hg14, hr⟩ := of_guard1 hr
                  obtain ⟨v10, hv10, hr⟩ := of_bind1 hr
                  obtain ⟨hg15, hr⟩ := of_guard1 hr
                  obtain ⟨v11, hv11, hr⟩ := of_bind1 hr
                  obtain ⟨v12, hv12, hr⟩ := of_bind1 hr
                  try simp only [hv10, hv11, hv12, Option.getD_some, Option.isSome_some, true_and, and_assoc]
                  repeat refine gA ?_
                  refine ⟨fun hc => ?_, fun hc => ?_⟩
                  · replace hr := ifP1 hr hc
                    repeat refine gA ?_
                    have hr := of_out0 hr
                    obtain rfl := Option.some.inj hr
                    (simp (maxDischargeDepth := 8) [go_sem, -List.drop_one])
                  · replace hr := ifN1 hr hc
                    repeat refine gA ?_
                    refine S.sees [2, 3, 8, 10, 11] [(3, 3)] [(52, 52)] ?_ hr
                    (simp (maxDischargeDepth := 8) [go_sem, -List.drop_one])
            · replace hr := ifN1 hr hc
              repeat refine gA ?_
              have hr := of_out0 hr
              repeat refine gA ?_
              obtain rfl := Option.some.inj hr
              (simp (maxDischargeDepth := 8) [go_sem, -List.drop_one])
theorem f57 : FnFact Try.prog 57 T57.sp := ⟨⟨Try.f57, Try.func57, by decide, rfl⟩, v57⟩
end Go.Proofs.Ytagnplbfdaifkaa

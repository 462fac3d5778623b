/- Contracts of functions, written by wip/dec. -/
import Derived.Test.YtagnplbfdaifkaaF00
import Derived.Test.YtagnplbfdaifkaaF01
set_option linter.unusedVariables false
set_option linter.unusedSimpArgs false
set_option maxHeartbeats 4000000
set_option maxRecDepth 20000
namespace Go.Proofs.Ytagnplbfdaifkaa
open Go.Abs
/- (martensite/field.ladder).solved -/
def b84_1 (a0_0 : List (Int)) (a0_1 : List (Int)) : (Int × Int × Int × (List (Int × Int)) × (List (Int × Int))) → Ctl (Int × Int × Int × (List (Int × Int)) × (List (Int × Int))) ((List (Int × Int)) × (List (Int × Int))) := fun s1 =>
  if (decide (s1.1 ≥ 0)) = true then
   if 0 ≤ s1.1 ∧ s1.1 < (s1.2.2.2.1.length : Int) then
    if 0 ≤ IntKind.i64.wrap (s1.1 + 1) ∧ IntKind.i64.wrap (s1.1 + 1) < (s1.2.2.2.2.length : Int) then
     bindC (r116 a0_0 a0_1 s1.1 ((s1.2.2.2.2.getD (IntKind.i64.wrap (s1.1 + 1)).toNat default).1) ((s1.2.2.2.2.getD (IntKind.i64.wrap (s1.1 + 1)).toNat default).2) s1.2.1 s1.2.2.1) fun v1 =>
      if 0 ≤ s1.1 ∧ s1.1 < (s1.2.2.2.1.length : Int) then
       if 0 ≤ s1.1 ∧ s1.1 < (s1.2.2.2.2.length : Int) then
        if 0 ≤ s1.1 ∧ s1.1 < (s1.2.2.2.1.length : Int) then
         .next (IntKind.i64.wrap (s1.1 - 1), v1.1, v1.2.1, s1.2.2.2.1.set s1.1.toNat (v1.1, v1.2.1), s1.2.2.2.2.set s1.1.toNat (v1.2.2.1, v1.2.2.2))
         else .out none
        else .out none
       else .out none
     else .out none
    else .out none
   else .out (some (s1.2.2.2.2, s1.2.2.2.1))
def r84 (a0_0 : List (Int)) (a0_1 : List (Int)) : Option ((List (Int × Int)) × (List (Int × Int))) :=
  if 0 ≤ IntKind.i64.wrap ((a0_0.length : Int) + 1) ∧ IntKind.i64.wrap ((a0_0.length : Int) + 1) ≤ IntKind.i64.wrap ((a0_0.length : Int) + 1) ∧ IntKind.i64.wrap ((a0_0.length : Int) + 1) ≤ 9223372036854775807 ∧ 16 * (IntKind.i64.wrap ((a0_0.length : Int) + 1)) ≤ 281474976710656 then
   if 0 ≤ (a0_0.length : Int) ∧ (a0_0.length : Int) ≤ (a0_0.length : Int) ∧ (a0_0.length : Int) ≤ 9223372036854775807 ∧ 16 * (a0_0.length : Int) ≤ 281474976710656 then
    if 0 ≤ (a0_0.length : Int) ∧ (a0_0.length : Int) < ((IntKind.i64.wrap ((a0_0.length : Int) + 1)).toNat : Int) then
     iterC (b84_1 a0_0 a0_1) 1000000000 (IntKind.i64.wrap (((a0_0.length : Int).toNat : Int) - 1), 0, 0, List.replicate (a0_0.length : Int).toNat (0, 0), (List.replicate (IntKind.i64.wrap ((a0_0.length : Int) + 1)).toNat (0, 0)).set a0_0.length (1, 0))
     else none
    else none
   else none
def T84 : TSpec ((List (Int)) × (List (Int))) where
  enc x := [.agg [encF 1 d_I x.1, encF 1 d_I x.2]]
  dec a := (decF g_I (aCell a 0 0), decF g_I (aCell a 0 1))
  pre x := (r84 x.1 x.2).isSome = true
  res x := [.c (.own (encF 2 d_II (((r84 x.1 x.2).getD default).1))), .c (.own (encF 2 d_II (((r84 x.1 x.2).getD default).2)))]
  al := false
def tb84 : Fns := lk [(116, T116.sp)]
theorem tb84_ok : FnsOk Try.prog tb84 := .cons f116 (FnsOk.nil)
theorem tb84_116 : tb84 116 = some T116.sp := rfl
theorem v84 : Valid Try.prog 84 T84.sp := by
  refine valid_t (fn := Try.f84) (n := 47) ty_ok tb84_ok Try.func84 rfl Try.ntmps84 ?_
  rintro ⟨a0_0, a0_1⟩ hx
  obtain ⟨r, hr⟩ := Option.isSome_iff_exists.1 (show (r84 a0_0 a0_1).isSome = true from hx)
  have hres : T84.res (a0_0, a0_1) = [.c (.own (encF 2 d_II r.1)), .c (.own (encF 2 d_II r.2))] := by simp only [T84, hr, Option.getD_some]
  refine ⟨Nat.le_of_ble_eq_true rfl, fun stop S => ?_⟩
  rw [hres] at S
  unfold r84 at hr
  refine S.goB [5] 1000 ?_
  simp (maxSteps := 10000000) only [go_sem, tb84_116, T116, T84, Bool.not_true, Bool.not_false, Option.map_some, Int.reduceToNat, Nat.reduceEqDiff, Nat.reduceLT, Nat.reduceAdd, Nat.reduceMul, Nat.reduceSub, Nat.reduceLeDiff, reduceIte, reduceCtorEq, Try.results84, Try.results127, Try.results134]
  obtain ⟨hg7, hr⟩ := of_guard0 hr
  obtain ⟨hg8, hr⟩ := of_guard0 hr
  obtain ⟨hg9, hr⟩ := of_guard0 hr
  repeat refine gA ?_
  refine S.inl 1 [1, 2, 3, 5] [] Try.func127 (by decide) rfl Try.ntmps127 (fun cx e => drawn_ok ty_ok tb84_ok cx e) (some 20) rfl rfl rfl rfl (Nat.le_of_ble_eq_true rfl) (Nat.le_of_ble_eq_true rfl) ?_
  simp (maxSteps := 10000000) only [go_sem, tb84_116, T116, T84, Bool.not_true, Bool.not_false, Option.map_some, Int.reduceToNat, Nat.reduceEqDiff, Nat.reduceLT, Nat.reduceAdd, Nat.reduceMul, Nat.reduceSub, Nat.reduceLeDiff, reduceIte, reduceCtorEq, Try.results84, Try.results127, Try.results134]
  repeat refine gA ?_
  intro stop1 S1
  refine S1.goB [] 1000 ?_
  simp (maxSteps := 10000000) only [go_sem, tb84_116, T116, T84, Bool.not_true, Bool.not_false, Option.map_some, Int.reduceToNat, Nat.reduceEqDiff, Nat.reduceLT, Nat.reduceAdd, Nat.reduceMul, Nat.reduceSub, Nat.reduceLeDiff, reduceIte, reduceCtorEq, Try.results84, Try.results127, Try.results134]
  repeat refine gA ?_
  repeat refine gA ?_
  refine S.goB [5] 1000 ?_
  simp (maxSteps := 10000000) only [go_sem, tb84_116, T116, T84, Bool.not_true, Bool.not_false, Option.map_some, Int.reduceToNat, Nat.reduceEqDiff, Nat.reduceLT, Nat.reduceAdd, Nat.reduceMul, Nat.reduceSub, Nat.reduceLeDiff, reduceIte, reduceCtorEq, Try.results84, Try.results127, Try.results134]
  repeat refine gA ?_
  refine S.range [1, 2, 3, 5] Try.func134 (by decide) rfl Try.ntmps134 Try.results134 (fun cx e => drawn_ok ty_ok tb84_ok cx e) (fun cx e => drawn_ok ty_ok tb84_ok cx e) (by decide) rfl rfl (Nat.le_of_ble_eq_true rfl) ?_
  intro l1 stop1 stopJ1 S1 SJ1 Y1
  refine S1.goB [3] 1000 ?_
  simp (maxSteps := 10000000) only [go_sem, tb84_116, T116, T84, Bool.not_true, Bool.not_false, Option.map_some, Int.reduceToNat, Nat.reduceEqDiff, Nat.reduceLT, Nat.reduceAdd, Nat.reduceMul, Nat.reduceSub, Nat.reduceLeDiff, reduceIte, reduceCtorEq, Try.results84, Try.results127, Try.results134]
  repeat refine gA ?_
  refine S1.sees [0, 1, 3] [(100001, 100001), (1, 1), (2, 2), (3, 3), (5, 5)] [(14, 14), (12, 12)] ?_ (Stop.iter S1 (fun s1 => ⟨[(0, .c (.yld l1)), (1, .c (.ref 100001 0)), (3, .c (.d (.int .i64 s1.1)))], [(100001, [.own 14]), (1, [.d (encF 1 d_I a0_0), .d (encF 1 d_I a0_1)]), (2, [.own 12]), (3, [.own 14]), (5, [.d (.int .i64 s1.2.1), .d (.int .i64 s1.2.2.1)])], [(14, .owned (encF 2 d_II s1.2.2.2.1)), (12, .owned (encF 2 d_II s1.2.2.2.2))]⟩) (b84_1 a0_0 a0_1) (fun q => q = r) hr rfl ?_)
  · (simp (maxDischargeDepth := 8) [go_sem, -List.drop_one])
  · intro s1 hr
    unfold b84_1 at hr
    refine S1.goB [3] 1000 ?_
    simp (maxSteps := 10000000) only [go_sem, tb84_116, T116, T84, Bool.not_true, Bool.not_false, Option.map_some, Int.reduceToNat, Nat.reduceEqDiff, Nat.reduceLT, Nat.reduceAdd, Nat.reduceMul, Nat.reduceSub, Nat.reduceLeDiff, reduceIte, reduceCtorEq, Try.results84, Try.results127, Try.results134]
    repeat refine gA ?_
    refine ⟨fun hc => ?_, fun hc => ?_⟩
    · replace hr := ifP1 hr hc
      repeat refine gA ?_
      refine Y1 6 [0, 1, 3] (some 17) rfl rfl rfl rfl (Nat.le_of_ble_eq_true rfl) (by rfl) ?_
      simp (maxSteps := 10000000) only [go_sem, tb84_116, T116, T84, Bool.not_true, Bool.not_false, Option.map_some, Int.reduceToNat, Nat.reduceEqDiff, Nat.reduceLT, Nat.reduceAdd, Nat.reduceMul, Nat.reduceSub, Nat.reduceLeDiff, reduceIte, reduceCtorEq, Try.results84, Try.results127, Try.results134]
      obtain ⟨hg6, hr⟩ := of_guard1 hr
      repeat refine gA ?_
      intro stopA2 SA2
      refine SA2.goB [] 1000 ?_
      simp (maxSteps := 10000000) only [go_sem, tb84_116, T116, T84, Bool.not_true, Bool.not_false, Option.map_some, Int.reduceToNat, Nat.reduceEqDiff, Nat.reduceLT, Nat.reduceAdd, Nat.reduceMul, Nat.reduceSub, Nat.reduceLeDiff, reduceIte, reduceCtorEq, Try.results84, Try.results127, Try.results134]
      repeat refine gA ?_
      intro stop2 S2
      refine S2.goB [5] 1000 ?_
      simp (maxSteps := 10000000) only [go_sem, tb84_116, T116, T84, Bool.not_true, Bool.not_false, Option.map_some, Int.reduceToNat, Nat.reduceEqDiff, Nat.reduceLT, Nat.reduceAdd, Nat.reduceMul, Nat.reduceSub, Nat.reduceLeDiff, reduceIte, reduceCtorEq, Try.results84, Try.results127, Try.results134]
      obtain ⟨hg2, hr⟩ := of_guard1 hr
      obtain ⟨v1, hv1, hr⟩ := of_bind1 hr
      obtain ⟨hg3, hr⟩ := of_guard1 hr
      obtain ⟨hg4, hr⟩ := of_guard1 hr
      obtain ⟨hg5, hr⟩ := of_guard1 hr
      try simp only [hv1, Option.getD_some, Option.isSome_some, true_and, and_assoc]
      repeat refine gA ?_
      repeat refine gA ?_
      refine S1.goB [3] 1000 ?_
      simp (maxSteps := 10000000) only [go_sem, tb84_116, T116, T84, Bool.not_true, Bool.not_false, Option.map_some, Int.reduceToNat, Nat.reduceEqDiff, Nat.reduceLT, Nat.reduceAdd, Nat.reduceMul, Nat.reduceSub, Nat.reduceLeDiff, reduceIte, reduceCtorEq, Try.results84, Try.results127, Try.results134]
      repeat refine gA ?_
      refine S1.sees [0, 1, 3] [(100001, 100001), (1, 1), (2, 2), (3, 3), (5, 5)] [(14, 14), (12, 12)] ?_ hr
      (simp (maxDischargeDepth := 8) [go_sem, -List.drop_one])
    · replace hr := ifN1 hr hc
      repeat refine gA ?_
      have hr := of_out0 hr
      repeat refine gA ?_
      repeat refine gA ?_
      refine S.goB [5] 1000 ?_
      simp (maxSteps := 10000000) only [go_sem, tb84_116, T116, T84, Bool.not_true, Bool.not_false, Option.map_some, Int.reduceToNat, Nat.reduceEqDiff, Nat.reduceLT, Nat.reduceAdd, Nat.reduceMul, Nat.reduceSub, Nat.reduceLeDiff, reduceIte, reduceCtorEq, Try.results84, Try.results127, Try.results134]
      repeat refine gA ?_
      obtain rfl := Option.some.inj hr
      (simp (maxDischargeDepth := 8) [go_sem, -List.drop_one])
theorem f84 : FnFact Try.prog 84 T84.sp := ⟨⟨Try.f84, Try.func84, by decide, rfl⟩, v84⟩

/- martensite/field.VoltagesOf -/
def r32 (a0_0 : Int) (a0_1 : List (Int × Int × Int)) (a1_0 : Int) (a1_1 : List (Bool)) : Option ((List (Int × Int)) × Int) :=
  (r83 a0_0 a0_1 a1_0 a1_1).bind fun v1 =>
   if (v1.2.2 != 0) = true then
    some ([], v1.2.2)
    else (r84 v1.1 v1.2.1).bind fun v2 =>
     some (v2.1, 0)
def T32 : TSpec (Int × (List (Int × Int × Int)) × Int × (List (Bool))) where
  enc x := [.agg [.int .i64 x.1, encF 3 d_III x.2.1], .agg [.int .i64 x.2.2.1, encF 1 d_B x.2.2.2]]
  dec a := (dInt (aCell a 0 0), decF g_III (aCell a 0 1), dInt (aCell a 1 0), decF g_B (aCell a 1 1))
  pre x := (r32 x.1 x.2.1 x.2.2.1 x.2.2.2).isSome = true
  res x := [.c (.own (encF 2 d_II (((r32 x.1 x.2.1 x.2.2.1 x.2.2.2).getD default).1))), .c (.d (.int .i64 (((r32 x.1 x.2.1 x.2.2.1 x.2.2.2).getD default).2)))]
  al := false
def tb32 : Fns := lk [(83, T83.sp), (84, T84.sp)]
theorem tb32_ok : FnsOk Try.prog tb32 := .cons f83 (.cons f84 (FnsOk.nil))
theorem tb32_83 : tb32 83 = some T83.sp := rfl
theorem tb32_84 : tb32 84 = some T84.sp := rfl
theorem v32 : Valid Try.prog 32 T32.sp := by
  refine valid_t (fn := Try.f32) (n := 25) ty_ok tb32_ok Try.func32 rfl Try.ntmps32 ?_
  rintro ⟨a0_0, a0_1, a1_0, a1_1⟩ hx
  obtain ⟨r, hr⟩ := Option.isSome_iff_exists.1 (show (r32 a0_0 a0_1 a1_0 a1_1).isSome = true from hx)
  have hres : T32.res (a0_0, a0_1, a1_0, a1_1) = [.c (.own (encF 2 d_II r.1)), .c (.d (.int .i64 r.2))] := by simp only [T32, hr, Option.getD_some]
  refine ⟨Nat.le_of_ble_eq_true rfl, fun stop S => ?_⟩
  rw [hres] at S
  unfold r32 at hr
  refine S.goB [] 1000 ?_
  simp (maxSteps := 10000000) only [go_sem, tb32_83, T83, tb32_84, T84, T32, Bool.not_true, Bool.not_false, Option.map_some, Int.reduceToNat, Nat.reduceEqDiff, Nat.reduceLT, Nat.reduceAdd, Nat.reduceMul, Nat.reduceSub, Nat.reduceLeDiff, reduceIte, reduceCtorEq, Try.results32]
  obtain ⟨v1, hv1, hr⟩ := of_bind0 hr
  try simp only [hv1, Option.getD_some, Option.isSome_some, true_and, and_assoc]
  repeat refine gA ?_
  refine ⟨fun hc => ?_, fun hc => ?_⟩
  · replace hr := ifP hr hc
    repeat refine gA ?_
    obtain rfl := Option.some.inj hr
    (simp (maxDischargeDepth := 8) [go_sem, -List.drop_one])
  · replace hr := ifN hr hc
    obtain ⟨v2, hv2, hr⟩ := of_bind0 hr
    try simp only [hv2, Option.getD_some, Option.isSome_some, true_and, and_assoc]
    repeat refine gA ?_
    obtain rfl := Option.some.inj hr
    (simp (maxDischargeDepth := 8) [go_sem, -List.drop_one])
theorem f32 : FnFact Try.prog 32 T32.sp := ⟨⟨Try.f32, Try.func32, by decide, rfl⟩, v32⟩

/- martensite/field.totalErr -/
def r102 (a0 : Int) : Option (Int) :=
  (r97 a0 0 100000).bind fun v1 =>
   (r96 v1 2).bind fun v2 =>
    some v2
def T102 : TSpec (Int) where
  enc x := [.c (.int .i64 x)]
  dec a := dInt (aCell a 0 0)
  pre x := (r102 x).isSome = true
  res x := [.c (.d (.int .i64 ((r102 x).getD default)))]
  al := false
def tb102 : Fns := lk [(96, T96.sp), (97, T97.sp)]
theorem tb102_ok : FnsOk Try.prog tb102 := .cons f96 (.cons f97 (FnsOk.nil))
theorem tb102_96 : tb102 96 = some T96.sp := rfl
theorem tb102_97 : tb102 97 = some T97.sp := rfl
theorem v102 : Valid Try.prog 102 T102.sp := by
  refine valid_t (fn := Try.f102) (n := 6) ty_ok tb102_ok Try.func102 rfl Try.ntmps102 ?_
  rintro a0 hx
  obtain ⟨r, hr⟩ := Option.isSome_iff_exists.1 (show (r102 a0).isSome = true from hx)
  have hres : T102.res a0 = [.c (.d (.int .i64 r))] := by simp only [T102, hr, Option.getD_some]
  refine ⟨Nat.le_of_ble_eq_true rfl, fun stop S => ?_⟩
  rw [hres] at S
  unfold r102 at hr
  refine S.goB [] 1000 ?_
  simp (maxSteps := 10000000) only [go_sem, tb102_96, T96, tb102_97, T97, T102, Bool.not_true, Bool.not_false, Option.map_some, Int.reduceToNat, Nat.reduceEqDiff, Nat.reduceLT, Nat.reduceAdd, Nat.reduceMul, Nat.reduceSub, Nat.reduceLeDiff, reduceIte, reduceCtorEq, Try.results102]
  obtain ⟨v1, hv1, hr⟩ := of_bind0 hr
  obtain ⟨v2, hv2, hr⟩ := of_bind0 hr
  try simp only [hv1, hv2, Option.getD_some, Option.isSome_some, true_and, and_assoc]
  repeat refine gA ?_
  obtain rfl := Option.some.inj hr
  (simp (maxDischargeDepth := 8) [go_sem, -List.drop_one])
theorem f102 : FnFact Try.prog 102 T102.sp := ⟨⟨Try.f102, Try.func102, by decide, rfl⟩, v102⟩

/- (martensite/field.ladder).all -/
def b101_1 (a0_0 : List (Int)) (v1 : (List (Int × Int)) × (List (Int × Int))) : (Int × Int × (List (Int)) × Int) → Ctl (Int × Int × (List (Int)) × Int) ((List (Int)) × Int) := fun s1 =>
  if (decide (s1.2.1 < (((v1.1.length - 1) : Nat) : Int))) = true then
   if 0 ≤ s1.2.1 ∧ s1.2.1 < ((((v1.1.drop 1).take (v1.1.length - 1)).length : Nat) : Int) then
    if 0 ≤ s1.2.1 ∧ s1.2.1 < (a0_0.length : Int) then
     if (s1.2.2.1.length + 1) * 8 ≤ 140737488355328 ∧ s1.2.2.1.length + 1 ≤ 9223372036854775807 then
      .next (IntKind.i64.wrap (s1.1 + (IntKind.i64.wrap ((a0_0.getD s1.2.1.toNat default) * (IntKind.i64.wrap ((IntKind.i64.wrap (((((v1.1.drop 1).take (v1.1.length - 1)).getD s1.2.1.toNat default).1) * ((((v1.1.drop 1).take (v1.1.length - 1)).getD s1.2.1.toNat default).1))) + (IntKind.i64.wrap (((((v1.1.drop 1).take (v1.1.length - 1)).getD s1.2.1.toNat default).2) * ((((v1.1.drop 1).take (v1.1.length - 1)).getD s1.2.1.toNat default).2)))))))), IntKind.i64.wrap (s1.2.1 + 1), s1.2.2.1 ++ [IntKind.i64.wrap ((a0_0.getD s1.2.1.toNat default) * (IntKind.i64.wrap ((IntKind.i64.wrap (((((v1.1.drop 1).take (v1.1.length - 1)).getD s1.2.1.toNat default).1) * ((((v1.1.drop 1).take (v1.1.length - 1)).getD s1.2.1.toNat default).1))) + (IntKind.i64.wrap (((((v1.1.drop 1).take (v1.1.length - 1)).getD s1.2.1.toNat default).2) * ((((v1.1.drop 1).take (v1.1.length - 1)).getD s1.2.1.toNat default).2))))))], IntKind.i64.wrap (s1.1 + (IntKind.i64.wrap ((a0_0.getD s1.2.1.toNat default) * (IntKind.i64.wrap ((IntKind.i64.wrap (((((v1.1.drop 1).take (v1.1.length - 1)).getD s1.2.1.toNat default).1) * ((((v1.1.drop 1).take (v1.1.length - 1)).getD s1.2.1.toNat default).1))) + (IntKind.i64.wrap (((((v1.1.drop 1).take (v1.1.length - 1)).getD s1.2.1.toNat default).2) * ((((v1.1.drop 1).take (v1.1.length - 1)).getD s1.2.1.toNat default).2)))))))))
      else .out none
     else .out none
    else .out none
   else .out (some (s1.2.2.1, s1.2.2.2))
def r101 (a0_0 : List (Int)) (a0_1 : List (Int)) : Option ((List (Int)) × Int) :=
  (r84 a0_0 a0_1).bind fun v1 =>
   if 0 ≤ 1 ∧ 1 ≤ (v1.1.length : Int) ∧ (v1.1.length : Int) ≤ (v1.1.length : Int) then
    iterC (b101_1 a0_0 v1) 1000000000 (0, 0, [], 0)
    else none
def T101 : TSpec ((List (Int)) × (List (Int))) where
  enc x := [.agg [encF 1 d_I x.1, encF 1 d_I x.2]]
  dec a := (decF g_I (aCell a 0 0), decF g_I (aCell a 0 1))
  pre x := (r101 x.1 x.2).isSome = true
  res x := [.c (.own (encF 1 d_I (((r101 x.1 x.2).getD default).1))), .c (.d (.int .i64 (((r101 x.1 x.2).getD default).2)))]
  al := false
def tb101 : Fns := lk [(84, T84.sp)]
theorem tb101_ok : FnsOk Try.prog tb101 := .cons f84 (FnsOk.nil)
theorem tb101_84 : tb101 84 = some T84.sp := rfl
theorem v101 : Valid Try.prog 101 T101.sp := by
  refine valid_t (fn := Try.f101) (n := 19) ty_ok tb101_ok Try.func101 rfl Try.ntmps101 ?_
  rintro ⟨a0_0, a0_1⟩ hx
  obtain ⟨r, hr⟩ := Option.isSome_iff_exists.1 (show (r101 a0_0 a0_1).isSome = true from hx)
  have hres : T101.res (a0_0, a0_1) = [.c (.own (encF 1 d_I r.1)), .c (.d (.int .i64 r.2))] := by simp only [T101, hr, Option.getD_some]
  refine ⟨Nat.le_of_ble_eq_true rfl, fun stop S => ?_⟩
  rw [hres] at S
  unfold r101 at hr
  refine S.goB [3] 1000 ?_
  simp (maxSteps := 10000000) only [go_sem, tb101_84, T84, T101, Bool.not_true, Bool.not_false, Option.map_some, Int.reduceToNat, Nat.reduceEqDiff, Nat.reduceLT, Nat.reduceAdd, Nat.reduceMul, Nat.reduceSub, Nat.reduceLeDiff, reduceIte, reduceCtorEq, Try.results101, Try.results129]
  repeat refine gA ?_
  repeat refine gA ?_
  refine S.bound 1 8 9 rfl rfl rfl rfl (Nat.le_of_ble_eq_true rfl) ?_
  simp (maxSteps := 10000000) only [go_sem, tb101_84, T84, T101, Bool.not_true, Bool.not_false, Option.map_some, Int.reduceToNat, Nat.reduceEqDiff, Nat.reduceLT, Nat.reduceAdd, Nat.reduceMul, Nat.reduceSub, Nat.reduceLeDiff, reduceIte, reduceCtorEq, Try.results101, Try.results129]
  repeat refine gA ?_
  refine S.goB [3] 1000 ?_
  simp (maxSteps := 10000000) only [go_sem, tb101_84, T84, T101, Bool.not_true, Bool.not_false, Option.map_some, Int.reduceToNat, Nat.reduceEqDiff, Nat.reduceLT, Nat.reduceAdd, Nat.reduceMul, Nat.reduceSub, Nat.reduceLeDiff, reduceIte, reduceCtorEq, Try.results101, Try.results129]
  repeat refine gA ?_
  repeat refine gA ?_
  refine S.range [4, 5] Try.func129 (by decide) rfl Try.ntmps129 Try.results129 (fun cx e => drawn_ok ty_ok tb101_ok cx e) (fun cx e => drawn_ok ty_ok tb101_ok cx e) (by decide) rfl rfl (Nat.le_of_ble_eq_true rfl) ?_
  intro l1 stop1 stopJ1 S1 SJ1 Y1
  refine S1.goB [8] 1000 ?_
  simp (maxSteps := 10000000) only [go_sem, tb101_84, T84, T101, Bool.not_true, Bool.not_false, Option.map_some, Int.reduceToNat, Nat.reduceEqDiff, Nat.reduceLT, Nat.reduceAdd, Nat.reduceMul, Nat.reduceSub, Nat.reduceLeDiff, reduceIte, reduceCtorEq, Try.results101, Try.results129]
  obtain ⟨v1, hv1, hr⟩ := of_bind0 hr
  obtain ⟨hg5, hr⟩ := of_guard0 hr
  try simp only [hv1, Option.getD_some, Option.isSome_some, true_and, and_assoc]
  repeat refine gA ?_
  refine S1.own0b 4 0 2000400 1 rfl rfl (Nat.le_of_ble_eq_true rfl) rfl ?_
  refine S1.sees [1, 2, 6, 16, 17, 18] [(2, 2), (4, 4), (5, 5)] [(2000400, 2000400)] ?_ (Stop.iter S1 (fun s1 => ⟨[(1, .c (.yld l1)), (2, .c (.ref 2 0)), (6, .c (.d (.int .i64 s1.1))), (16, .c (.d (encF 2 d_II ((v1.1.drop 1).take (v1.1.length - 1))))), (17, .c (.d (.int .i64 (((v1.1.length - 1) : Nat) : Int)))), (18, .c (.d (.int .i64 s1.2.1)))], [(2, [.d (encF 1 d_I a0_0), .d (encF 1 d_I a0_1)]), (4, [.own 2000400]), (5, [.d (.int .i64 s1.2.2.2)])], [(2000400, .owned (encF 1 d_I s1.2.2.1))]⟩) (b101_1 a0_0 v1) (fun q => q = r) hr rfl ?_)
  · (simp (maxDischargeDepth := 8) [go_sem, -List.drop_one])
  · intro s1 hr
    unfold b101_1 at hr
    refine S1.goB [8] 1000 ?_
    simp (maxSteps := 10000000) only [go_sem, tb101_84, T84, T101, Bool.not_true, Bool.not_false, Option.map_some, Int.reduceToNat, Nat.reduceEqDiff, Nat.reduceLT, Nat.reduceAdd, Nat.reduceMul, Nat.reduceSub, Nat.reduceLeDiff, reduceIte, reduceCtorEq, Try.results101, Try.results129]
    repeat refine gA ?_
    refine ⟨fun hc => ?_, fun hc => ?_⟩
    · replace hr := ifP1 hr hc
      obtain ⟨hg3, hr⟩ := of_guard1 hr
      obtain ⟨hg4, hr⟩ := of_guard1 hr
      repeat refine gA ?_
      refine Y1 3 [1, 2, 6, 16, 17, 18] (some 46) rfl rfl rfl rfl (Nat.le_of_ble_eq_true rfl) (by rfl) ?_
      simp (maxSteps := 10000000) only [go_sem, tb101_84, T84, T101, Bool.not_true, Bool.not_false, Option.map_some, Int.reduceToNat, Nat.reduceEqDiff, Nat.reduceLT, Nat.reduceAdd, Nat.reduceMul, Nat.reduceSub, Nat.reduceLeDiff, reduceIte, reduceCtorEq, Try.results101, Try.results129]
      repeat refine gA ?_
      intro stopA2 SA2
      refine SA2.goB [] 1000 ?_
      simp (maxSteps := 10000000) only [go_sem, tb101_84, T84, T101, Bool.not_true, Bool.not_false, Option.map_some, Int.reduceToNat, Nat.reduceEqDiff, Nat.reduceLT, Nat.reduceAdd, Nat.reduceMul, Nat.reduceSub, Nat.reduceLeDiff, reduceIte, reduceCtorEq, Try.results101, Try.results129]
      repeat refine gA ?_
      intro stop2 S2
      refine S2.goB [3] 1000 ?_
      simp (maxSteps := 10000000) only [go_sem, tb101_84, T84, T101, Bool.not_true, Bool.not_false, Option.map_some, Int.reduceToNat, Nat.reduceEqDiff, Nat.reduceLT, Nat.reduceAdd, Nat.reduceMul, Nat.reduceSub, Nat.reduceLeDiff, reduceIte, reduceCtorEq, Try.results101, Try.results129]
      obtain ⟨hg2, hr⟩ := of_guard1 hr
      repeat refine gA ?_
      repeat refine gA ?_
      refine S1.goB [8] 1000 ?_
      simp (maxSteps := 10000000) only [go_sem, tb101_84, T84, T101, Bool.not_true, Bool.not_false, Option.map_some, Int.reduceToNat, Nat.reduceEqDiff, Nat.reduceLT, Nat.reduceAdd, Nat.reduceMul, Nat.reduceSub, Nat.reduceLeDiff, reduceIte, reduceCtorEq, Try.results101, Try.results129]
      repeat refine gA ?_
      refine S1.sees [1, 2, 6, 16, 17, 18] [(2, 2), (4, 4), (5, 5)] [(15, 2000400)] ?_ hr
      (simp (maxDischargeDepth := 8) [go_sem, -List.drop_one])
    · replace hr := ifN1 hr hc
      repeat refine gA ?_
      have hr := of_out0 hr
      repeat refine gA ?_
      repeat refine gA ?_
      refine S.goB [3] 1000 ?_
      simp (maxSteps := 10000000) only [go_sem, tb101_84, T84, T101, Bool.not_true, Bool.not_false, Option.map_some, Int.reduceToNat, Nat.reduceEqDiff, Nat.reduceLT, Nat.reduceAdd, Nat.reduceMul, Nat.reduceSub, Nat.reduceLeDiff, reduceIte, reduceCtorEq, Try.results101, Try.results129]
      repeat refine gA ?_
      obtain rfl := Option.some.inj hr
      (simp (maxDischargeDepth := 8) [go_sem, -List.drop_one])
theorem f101 : FnFact Try.prog 101 T101.sp := ⟨⟨Try.f101, Try.func101, by decide, rfl⟩, v101⟩

/- (martensite/field.ladder).watts -/
def b103_1 (a0_0 : List (Int)) (a1 : Int) (v1 : (List (Int)) × Int) (v2 : (List (Int × Int)) × (List (Int × Int))) : (Int × Int × (List (Int)) × Int) → Ctl (Int × Int × (List (Int)) × Int) ((List (Int))) := fun s1 =>
  if (decide (s1.2.1 < (((v2.1.length - 1) : Nat) : Int))) = true then
   if 0 ≤ s1.2.1 ∧ s1.2.1 < ((((v2.1.drop 1).take (v2.1.length - 1)).length : Nat) : Int) then
    if 0 ≤ s1.2.1 ∧ s1.2.1 < (a0_0.length : Int) then
     if v1.2 ≠ 0 then
      if (s1.2.2.1.length + 1) * 8 ≤ 140737488355328 ∧ s1.2.2.1.length + 1 ≤ 9223372036854775807 then
       .next (IntKind.i64.wrap (s1.1 + (IntKind.i64.wrap ((a0_0.getD s1.2.1.toNat default) * (IntKind.i64.wrap ((IntKind.i64.wrap (((((v2.1.drop 1).take (v2.1.length - 1)).getD s1.2.1.toNat default).1) * ((((v2.1.drop 1).take (v2.1.length - 1)).getD s1.2.1.toNat default).1))) + (IntKind.i64.wrap (((((v2.1.drop 1).take (v2.1.length - 1)).getD s1.2.1.toNat default).2) * ((((v2.1.drop 1).take (v2.1.length - 1)).getD s1.2.1.toNat default).2)))))))), IntKind.i64.wrap (s1.2.1 + 1), s1.2.2.1 ++ [IntKind.i64.wrap ((IntKind.i64.wrap ((IntKind.i64.wrap (a1 * (IntKind.i64.wrap (s1.1 + (IntKind.i64.wrap ((a0_0.getD s1.2.1.toNat default) * (IntKind.i64.wrap ((IntKind.i64.wrap (((((v2.1.drop 1).take (v2.1.length - 1)).getD s1.2.1.toNat default).1) * ((((v2.1.drop 1).take (v2.1.length - 1)).getD s1.2.1.toNat default).1))) + (IntKind.i64.wrap (((((v2.1.drop 1).take (v2.1.length - 1)).getD s1.2.1.toNat default).2) * ((((v2.1.drop 1).take (v2.1.length - 1)).getD s1.2.1.toNat default).2))))))))))).tdiv v1.2)) - s1.2.2.2)], IntKind.i64.wrap ((IntKind.i64.wrap (a1 * (IntKind.i64.wrap (s1.1 + (IntKind.i64.wrap ((a0_0.getD s1.2.1.toNat default) * (IntKind.i64.wrap ((IntKind.i64.wrap (((((v2.1.drop 1).take (v2.1.length - 1)).getD s1.2.1.toNat default).1) * ((((v2.1.drop 1).take (v2.1.length - 1)).getD s1.2.1.toNat default).1))) + (IntKind.i64.wrap (((((v2.1.drop 1).take (v2.1.length - 1)).getD s1.2.1.toNat default).2) * ((((v2.1.drop 1).take (v2.1.length - 1)).getD s1.2.1.toNat default).2))))))))))).tdiv v1.2))
       else .out none
      else .out none
     else .out none
    else .out none
   else .out (some s1.2.2.1)
def r103 (a0_0 : List (Int)) (a0_1 : List (Int)) (a1 : Int) : Option ((List (Int))) :=
  (r101 a0_0 a0_1).bind fun v1 =>
   (r84 a0_0 a0_1).bind fun v2 =>
    if 0 ≤ 1 ∧ 1 ≤ (v2.1.length : Int) ∧ (v2.1.length : Int) ≤ (v2.1.length : Int) then
     iterC (b103_1 a0_0 a1 v1 v2) 1000000000 (0, 0, [], 0)
     else none
def T103 : TSpec ((List (Int)) × (List (Int)) × Int) where
  enc x := [.agg [encF 1 d_I x.1, encF 1 d_I x.2.1], .c (.int .i64 x.2.2)]
  dec a := (decF g_I (aCell a 0 0), decF g_I (aCell a 0 1), dInt (aCell a 1 0))
  pre x := (r103 x.1 x.2.1 x.2.2).isSome = true
  res x := [.c (.own (encF 1 d_I ((r103 x.1 x.2.1 x.2.2).getD default)))]
  al := false
def tb103 : Fns := lk [(84, T84.sp), (101, T101.sp)]
theorem tb103_ok : FnsOk Try.prog tb103 := .cons f84 (.cons f101 (FnsOk.nil))
theorem tb103_84 : tb103 84 = some T84.sp := rfl
theorem tb103_101 : tb103 101 = some T101.sp := rfl
theorem v103 : Valid Try.prog 103 T103.sp := by
  refine valid_t (fn := Try.f103) (n := 34) ty_ok tb103_ok Try.func103 rfl Try.ntmps103 ?_
  rintro ⟨a0_0, a0_1, a1⟩ hx
  obtain ⟨r, hr⟩ := Option.isSome_iff_exists.1 (show (r103 a0_0 a0_1 a1).isSome = true from hx)
  have hres : T103.res (a0_0, a0_1, a1) = [.c (.own (encF 1 d_I r))] := by simp only [T103, hr, Option.getD_some]
  refine ⟨Nat.le_of_ble_eq_true rfl, fun stop S => ?_⟩
  rw [hres] at S
  unfold r103 at hr
  refine S.goB [4] 1000 ?_
  simp (maxSteps := 10000000) only [go_sem, tb103_84, T84, tb103_101, T101, T103, Bool.not_true, Bool.not_false, Option.map_some, Int.reduceToNat, Nat.reduceEqDiff, Nat.reduceLT, Nat.reduceAdd, Nat.reduceMul, Nat.reduceSub, Nat.reduceLeDiff, reduceIte, reduceCtorEq, Try.results103, Try.results129]
  obtain ⟨v1, hv1, hr⟩ := of_bind0 hr
  try simp only [hv1, Option.getD_some, Option.isSome_some, true_and, and_assoc]
  repeat refine gA ?_
  repeat refine gA ?_
  refine S.bound 1 17 18 rfl rfl rfl rfl (Nat.le_of_ble_eq_true rfl) ?_
  simp (maxSteps := 10000000) only [go_sem, tb103_84, T84, tb103_101, T101, T103, Bool.not_true, Bool.not_false, Option.map_some, Int.reduceToNat, Nat.reduceEqDiff, Nat.reduceLT, Nat.reduceAdd, Nat.reduceMul, Nat.reduceSub, Nat.reduceLeDiff, reduceIte, reduceCtorEq, Try.results103, Try.results129]
  repeat refine gA ?_
  refine S.goB [4] 1000 ?_
  simp (maxSteps := 10000000) only [go_sem, tb103_84, T84, tb103_101, T101, T103, Bool.not_true, Bool.not_false, Option.map_some, Int.reduceToNat, Nat.reduceEqDiff, Nat.reduceLT, Nat.reduceAdd, Nat.reduceMul, Nat.reduceSub, Nat.reduceLeDiff, reduceIte, reduceCtorEq, Try.results103, Try.results129]
  repeat refine gA ?_
  repeat refine gA ?_
  refine S.range [3, 6, 7, 8] Try.func129 (by decide) rfl Try.ntmps129 Try.results129 (fun cx e => drawn_ok ty_ok tb103_ok cx e) (fun cx e => drawn_ok ty_ok tb103_ok cx e) (by decide) rfl rfl (Nat.le_of_ble_eq_true rfl) ?_
  intro l1 stop1 stopJ1 S1 SJ1 Y1
  refine S1.goB [8] 1000 ?_
  simp (maxSteps := 10000000) only [go_sem, tb103_84, T84, tb103_101, T101, T103, Bool.not_true, Bool.not_false, Option.map_some, Int.reduceToNat, Nat.reduceEqDiff, Nat.reduceLT, Nat.reduceAdd, Nat.reduceMul, Nat.reduceSub, Nat.reduceLeDiff, reduceIte, reduceCtorEq, Try.results103, Try.results129]
  obtain ⟨v2, hv2, hr⟩ := of_bind0 hr
  obtain ⟨hg7, hr⟩ := of_guard0 hr
  try simp only [hv2, Option.getD_some, Option.isSome_some, true_and, and_assoc]
  repeat refine gA ?_
  refine S1.own0b 7 0 2000700 1 rfl rfl (Nat.le_of_ble_eq_true rfl) rfl ?_
  refine S1.sees [1, 2, 6, 16, 17, 18] [(100002, 100002), (3, 3), (6, 6), (7, 7), (8, 8)] [(2000700, 2000700)] ?_ (Stop.iter S1 (fun s1 => ⟨[(1, .c (.yld l1)), (2, .c (.ref 100002 0)), (6, .c (.d (.int .i64 s1.1))), (16, .c (.d (encF 2 d_II ((v2.1.drop 1).take (v2.1.length - 1))))), (17, .c (.d (.int .i64 (((v2.1.length - 1) : Nat) : Int)))), (18, .c (.d (.int .i64 s1.2.1)))], [(100002, [.d (encF 1 d_I a0_0), .d (encF 1 d_I a0_1)]), (3, [.d (.int .i64 a1)]), (6, [.d (.int .i64 v1.2)]), (7, [.own 2000700]), (8, [.d (.int .i64 s1.2.2.2)])], [(2000700, .owned (encF 1 d_I s1.2.2.1))]⟩) (b103_1 a0_0 a1 v1 v2) (fun q => q = r) hr rfl ?_)
  · (simp (maxDischargeDepth := 8) [go_sem, -List.drop_one])
  · intro s1 hr
    unfold b103_1 at hr
    refine S1.goB [8] 1000 ?_
    simp (maxSteps := 10000000) only [go_sem, tb103_84, T84, tb103_101, T101, T103, Bool.not_true, Bool.not_false, Option.map_some, Int.reduceToNat, Nat.reduceEqDiff, Nat.reduceLT, Nat.reduceAdd, Nat.reduceMul, Nat.reduceSub, Nat.reduceLeDiff, reduceIte, reduceCtorEq, Try.results103, Try.results129]
    repeat refine gA ?_
    refine ⟨fun hc => ?_, fun hc => ?_⟩
    · replace hr := ifP1 hr hc
      obtain ⟨hg5, hr⟩ := of_guard1 hr
      obtain ⟨hg6, hr⟩ := of_guard1 hr
      repeat refine gA ?_
      refine Y1 3 [1, 2, 6, 16, 17, 18] (some 46) rfl rfl rfl rfl (Nat.le_of_ble_eq_true rfl) (by rfl) ?_
      simp (maxSteps := 10000000) only [go_sem, tb103_84, T84, tb103_101, T101, T103, Bool.not_true, Bool.not_false, Option.map_some, Int.reduceToNat, Nat.reduceEqDiff, Nat.reduceLT, Nat.reduceAdd, Nat.reduceMul, Nat.reduceSub, Nat.reduceLeDiff, reduceIte, reduceCtorEq, Try.results103, Try.results129]
      repeat refine gA ?_
      intro stopA2 SA2
      refine SA2.goB [] 1000 ?_
      simp (maxSteps := 10000000) only [go_sem, tb103_84, T84, tb103_101, T101, T103, Bool.not_true, Bool.not_false, Option.map_some, Int.reduceToNat, Nat.reduceEqDiff, Nat.reduceLT, Nat.reduceAdd, Nat.reduceMul, Nat.reduceSub, Nat.reduceLeDiff, reduceIte, reduceCtorEq, Try.results103, Try.results129]
      repeat refine gA ?_
      intro stop2 S2
      refine S2.goB [4] 1000 ?_
      simp (maxSteps := 10000000) only [go_sem, tb103_84, T84, tb103_101, T101, T103, Bool.not_true, Bool.not_false, Option.map_some, Int.reduceToNat, Nat.reduceEqDiff, Nat.reduceLT, Nat.reduceAdd, Nat.reduceMul, Nat.reduceSub, Nat.reduceLeDiff, reduceIte, reduceCtorEq, Try.results103, Try.results129]
      obtain ⟨hg3, hr⟩ := of_guard1 hr
      obtain ⟨hg4, hr⟩ := of_guard1 hr
      repeat refine gA ?_
      repeat refine gA ?_
      refine S1.goB [8] 1000 ?_
      simp (maxSteps := 10000000) only [go_sem, tb103_84, T84, tb103_101, T101, T103, Bool.not_true, Bool.not_false, Option.map_some, Int.reduceToNat, Nat.reduceEqDiff, Nat.reduceLT, Nat.reduceAdd, Nat.reduceMul, Nat.reduceSub, Nat.reduceLeDiff, reduceIte, reduceCtorEq, Try.results103, Try.results129]
      repeat refine gA ?_
      refine S1.sees [1, 2, 6, 16, 17, 18] [(100002, 100002), (3, 3), (6, 6), (7, 7), (8, 8)] [(31, 2000700)] ?_ hr
      (simp (maxDischargeDepth := 8) [go_sem, -List.drop_one])
    · replace hr := ifN1 hr hc
      repeat refine gA ?_
      have hr := of_out0 hr
      repeat refine gA ?_
      repeat refine gA ?_
      refine S.goB [4] 1000 ?_
      simp (maxSteps := 10000000) only [go_sem, tb103_84, T84, tb103_101, T101, T103, Bool.not_true, Bool.not_false, Option.map_some, Int.reduceToNat, Nat.reduceEqDiff, Nat.reduceLT, Nat.reduceAdd, Nat.reduceMul, Nat.reduceSub, Nat.reduceLeDiff, reduceIte, reduceCtorEq, Try.results103, Try.results129]
      repeat refine gA ?_
      obtain rfl := Option.some.inj hr
      (simp (maxDischargeDepth := 8) [go_sem, -List.drop_one])
theorem f103 : FnFact Try.prog 103 T103.sp := ⟨⟨Try.f103, Try.func103, by decide, rfl⟩, v103⟩

/- martensite/field.WattsIn -/
def r38 (a0_0 : Int) (a0_1 : List (Int × Int × Int)) (a1_0 : Int) (a1_1 : List (Bool)) (a2 : Int) : Option ((List (Int)) × Int) :=
  (r83 a0_0 a0_1 a1_0 a1_1).bind fun v1 =>
   (r102 a2).bind fun v2 =>
    (r87 [v1.2.2, v2]).bind fun v3 =>
     if (v3 != 0) = true then
      some ([], v3)
      else (r103 v1.1 v1.2.1 a2).bind fun v4 =>
       some (v4, 0)
def T38 : TSpec (Int × (List (Int × Int × Int)) × Int × (List (Bool)) × Int) where
  enc x := [.agg [.int .i64 x.1, encF 3 d_III x.2.1], .agg [.int .i64 x.2.2.1, encF 1 d_B x.2.2.2.1], .c (.int .i64 x.2.2.2.2)]
  dec a := (dInt (aCell a 0 0), decF g_III (aCell a 0 1), dInt (aCell a 1 0), decF g_B (aCell a 1 1), dInt (aCell a 2 0))
  pre x := (r38 x.1 x.2.1 x.2.2.1 x.2.2.2.1 x.2.2.2.2).isSome = true
  res x := [.c (.own (encF 1 d_I (((r38 x.1 x.2.1 x.2.2.1 x.2.2.2.1 x.2.2.2.2).getD default).1))), .c (.d (.int .i64 (((r38 x.1 x.2.1 x.2.2.1 x.2.2.2.1 x.2.2.2.2).getD default).2)))]
  al := false
def tb38 : Fns := lk [(83, T83.sp), (87, T87.sp), (102, T102.sp), (103, T103.sp)]
theorem tb38_ok : FnsOk Try.prog tb38 := .cons f83 (.cons f87 (.cons f102 (.cons f103 (FnsOk.nil))))
theorem tb38_83 : tb38 83 = some T83.sp := rfl
theorem tb38_87 : tb38 87 = some T87.sp := rfl
theorem tb38_102 : tb38 102 = some T102.sp := rfl
theorem tb38_103 : tb38 103 = some T103.sp := rfl
theorem v38 : Valid Try.prog 38 T38.sp := by
  refine valid_t (fn := Try.f38) (n := 27) ty_ok tb38_ok Try.func38 rfl Try.ntmps38 ?_
  rintro ⟨a0_0, a0_1, a1_0, a1_1, a2⟩ hx
  obtain ⟨r, hr⟩ := Option.isSome_iff_exists.1 (show (r38 a0_0 a0_1 a1_0 a1_1 a2).isSome = true from hx)
  have hres : T38.res (a0_0, a0_1, a1_0, a1_1, a2) = [.c (.own (encF 1 d_I r.1)), .c (.d (.int .i64 r.2))] := by simp only [T38, hr, Option.getD_some]
  refine ⟨Nat.le_of_ble_eq_true rfl, fun stop S => ?_⟩
  rw [hres] at S
  unfold r38 at hr
  refine S.goB [] 1000 ?_
  simp (maxSteps := 10000000) only [go_sem, tb38_83, T83, tb38_87, T87, tb38_102, T102, tb38_103, T103, T38, Bool.not_true, Bool.not_false, Option.map_some, Int.reduceToNat, Nat.reduceEqDiff, Nat.reduceLT, Nat.reduceAdd, Nat.reduceMul, Nat.reduceSub, Nat.reduceLeDiff, reduceIte, reduceCtorEq, Try.results38]
  obtain ⟨v1, hv1, hr⟩ := of_bind0 hr
  obtain ⟨v2, hv2, hr⟩ := of_bind0 hr
  obtain ⟨v3, hv3, hr⟩ := of_bind0 hr
  try simp only [hv1, hv2, hv3, Option.getD_some, Option.isSome_some, true_and, and_assoc]
  repeat refine gA ?_
  refine ⟨fun hc => ?_, fun hc => ?_⟩
  · replace hr := ifP hr hc
    repeat refine gA ?_
    obtain rfl := Option.some.inj hr
    (simp (maxDischargeDepth := 8) [go_sem, -List.drop_one])
  · replace hr := ifN hr hc
    obtain ⟨v4, hv4, hr⟩ := of_bind0 hr
    try simp only [hv4, Option.getD_some, Option.isSome_some, true_and, and_assoc]
    repeat refine gA ?_
    obtain rfl := Option.some.inj hr
    (simp (maxDischargeDepth := 8) [go_sem, -List.drop_one])
theorem f38 : FnFact Try.prog 38 T38.sp := ⟨⟨Try.f38, Try.func38, by decide, rfl⟩, v38⟩

/- martensite/field.divisor -/
def b110_2 (s1 : Int × Int) : (Int × Int) → Ctl (Int × Int) (Ctl (Int × Int) (Int)) := fun s2 =>
  if (s2.2 != 0) = true then
   if s2.2 ≠ 0 then
    .next (s2.2, s2.1.tmod s2.2)
    else .out none
   else .out (some (.next (s2.1, IntKind.i64.wrap (s1.2 + 1))))
def b110_1 (a0 : List (Int)) : (Int × Int) → Ctl (Int × Int) (Int) := fun s1 =>
  if (decide (s1.2 < (a0.length : Int))) = true then
   if 0 ≤ s1.2 ∧ s1.2 < (a0.length : Int) then
    (iterC (b110_2 s1) 1000000000 (s1.1, (a0.getD s1.2.toNat default))).getD (.out none)
    else .out none
   else .out (some (if s1.1 < IntKind.i64.wrap (0 - s1.1) then IntKind.i64.wrap (0 - s1.1) else s1.1))
def r110 (a0 : List (Int)) : Option (Int) :=
  iterC (b110_1 a0) 1000000000 (0, 0)
def T110 : TSpec ((List (Int))) where
  enc x := [.c (encF 1 d_I x)]
  dec a := decF g_I (aCell a 0 0)
  pre x := (r110 x).isSome = true
  res x := [.c (.d (.int .i64 ((r110 x).getD default)))]
  al := false
def tb110 : Fns := lk []
theorem tb110_ok : FnsOk Try.prog tb110 := FnsOk.nil
theorem v110 : Valid Try.prog 110 T110.sp := by
  refine valid_t (fn := Try.f110) (n := 23) ty_ok tb110_ok Try.func110 rfl Try.ntmps110 ?_
  rintro a0 hx
  obtain ⟨r, hr⟩ := Option.isSome_iff_exists.1 (show (r110 a0).isSome = true from hx)
  have hres : T110.res a0 = [.c (.d (.int .i64 r))] := by simp only [T110, hr, Option.getD_some]
  refine ⟨Nat.le_of_ble_eq_true rfl, fun stop S => ?_⟩
  rw [hres] at S
  unfold r110 at hr
  refine S.goB [] 1000 ?_
  simp (maxSteps := 10000000) only [go_sem, T110, Bool.not_true, Bool.not_false, Option.map_some, Int.reduceToNat, Nat.reduceEqDiff, Nat.reduceLT, Nat.reduceAdd, Nat.reduceMul, Nat.reduceSub, Nat.reduceLeDiff, reduceIte, reduceCtorEq, Try.results110]
  repeat refine gA ?_
  refine S.sees [3, 6, 7, 8] [] [] ?_ (Stop.iter S (fun s1 => ⟨[(3, .c (.d (.int .i64 s1.1))), (6, .c (.d (encF 1 d_I a0))), (7, .c (.d (.int .i64 (a0.length : Int)))), (8, .c (.d (.int .i64 s1.2)))], [], []⟩) (b110_1 a0) (fun q => q = r) hr rfl ?_)
  · (simp (maxDischargeDepth := 8) [go_sem, -List.drop_one])
  · intro s1 hr
    unfold b110_1 at hr
    refine S.goB [] 1000 ?_
    simp (maxSteps := 10000000) only [go_sem, T110, Bool.not_true, Bool.not_false, Option.map_some, Int.reduceToNat, Nat.reduceEqDiff, Nat.reduceLT, Nat.reduceAdd, Nat.reduceMul, Nat.reduceSub, Nat.reduceLeDiff, reduceIte, reduceCtorEq, Try.results110]
    repeat refine gA ?_
    refine ⟨fun hc => ?_, fun hc => ?_⟩
    · replace hr := ifP1 hr hc
      obtain ⟨hg2, hr⟩ := of_guard1 hr
      repeat refine gA ?_
      obtain ⟨q2, hq, hr⟩ := of_iter1 hr
      refine S.sees [3, 5, 6, 7, 8] [] [] ?_ (Stop.iter S (fun s2 => ⟨[(3, .c (.d (.int .i64 s2.1))), (5, .c (.d (.int .i64 s2.2))), (6, .c (.d (encF 1 d_I a0))), (7, .c (.d (.int .i64 (a0.length : Int)))), (8, .c (.d (.int .i64 s1.2)))], [], []⟩) (b110_2 s1) _ hq hr ?_)
      · (simp (maxDischargeDepth := 8) [go_sem, -List.drop_one])
      · intro s2 hr
        unfold b110_2 at hr
        refine S.goB [] 1000 ?_
        simp (maxSteps := 10000000) only [go_sem, T110, Bool.not_true, Bool.not_false, Option.map_some, Int.reduceToNat, Nat.reduceEqDiff, Nat.reduceLT, Nat.reduceAdd, Nat.reduceMul, Nat.reduceSub, Nat.reduceLeDiff, reduceIte, reduceCtorEq, Try.results110]
        repeat refine gA ?_
        refine ⟨fun hc => ?_, fun hc => ?_⟩
        · replace hr := ifP1 hr hc
          obtain ⟨hg1, hr⟩ := of_guard1 hr
          repeat refine gA ?_
          refine S.sees [3, 5, 6, 7, 8] [] [] ?_ hr
          (simp (maxDischargeDepth := 8) [go_sem, -List.drop_one])
        · replace hr := ifN1 hr hc
          repeat refine gA ?_
          replace hr := goodC_out hr
          repeat refine gA ?_
          refine S.sees [3, 6, 7, 8] [] [] ?_ hr
          (simp (maxDischargeDepth := 8) [go_sem, -List.drop_one])
    · replace hr := ifN1 hr hc
      repeat refine gA ?_
      have hr := of_out0 hr
      repeat refine gA ?_
      obtain rfl := Option.some.inj hr
      (simp (maxDischargeDepth := 8) [go_sem, -List.drop_one])
theorem f110 : FnFact Try.prog 110 T110.sp := ⟨⟨Try.f110, Try.func110, by decide, rfl⟩, v110⟩

/- martensite/field.reduced$1 -/
def r128 (a0_0 : Int) (a0_1 : Int) (a1_0 : Int) : Option (Int × Int) :=
  if a1_0 ≠ 0 then
   if a1_0 ≠ 0 then
    some (IntKind.i64.wrap (a0_0.tdiv a1_0), IntKind.i64.wrap (a0_1.tdiv a1_0))
    else none
   else none
def T128 : TSpec (Int × Int × Int) where
  enc x := [.agg [.int .i64 x.1, .int .i64 x.2.1], .ptr [.int .i64 x.2.2]]
  dec a := (dInt (aCell a 0 0), dInt (aCell a 0 1), dInt (aCell a 1 0))
  pre x := (r128 x.1 x.2.1 x.2.2).isSome = true
  res x := [.agg [.d (.int .i64 (((r128 x.1 x.2.1 x.2.2).getD default).1)), .d (.int .i64 (((r128 x.1 x.2.1 x.2.2).getD default).2))]]
  al := false
def tb128 : Fns := lk []
theorem tb128_ok : FnsOk Try.prog tb128 := FnsOk.nil
theorem v128 : Valid Try.prog 128 T128.sp := by
  refine valid_t (fn := Try.f128) (n := 13) ty_ok tb128_ok Try.func128 rfl Try.ntmps128 ?_
  rintro ⟨a0_0, a0_1, a1_0⟩ hx
  obtain ⟨r, hr⟩ := Option.isSome_iff_exists.1 (show (r128 a0_0 a0_1 a1_0).isSome = true from hx)
  have hres : T128.res (a0_0, a0_1, a1_0) = [.agg [.d (.int .i64 r.1), .d (.int .i64 r.2)]] := by simp only [T128, hr, Option.getD_some]
  refine ⟨Nat.le_of_ble_eq_true rfl, fun stop S => ?_⟩
  rw [hres] at S
  unfold r128 at hr
  refine S.goB [] 1000 ?_
  simp (maxSteps := 10000000) only [go_sem, T128, Bool.not_true, Bool.not_false, Option.map_some, Int.reduceToNat, Nat.reduceEqDiff, Nat.reduceLT, Nat.reduceAdd, Nat.reduceMul, Nat.reduceSub, Nat.reduceLeDiff, reduceIte, reduceCtorEq, Try.results128]
  obtain ⟨hg1, hr⟩ := of_guard0 hr
  obtain ⟨hg2, hr⟩ := of_guard0 hr
  repeat refine gA ?_
  obtain rfl := Option.some.inj hr
  (simp (maxDischargeDepth := 8) [go_sem, -List.drop_one])
theorem f128 : FnFact Try.prog 128 T128.sp := ⟨⟨Try.f128, Try.func128, by decide, rfl⟩, v128⟩

/- martensite/field.reduced -/
def r85 (a0_0 : Int) (a0_1 : Int) (a1_0 : Int) (a1_1 : Int) : Option (Int × Int × Int × Int) :=
  if ((a0_0 == 0) && (a0_1 == 0)) = true then
   some (0, 0, 1, 0)
   else (r110 [a0_0, a0_1, a1_0, a1_1]).bind fun v1 =>
    if ((decide (a1_0 < 0)) || ((a1_0 == 0) && (decide (a1_1 < 0)))) = true then
     (r128 a0_0 a0_1 (IntKind.i64.wrap (0 - v1))).bind fun v2 =>
      (r128 a1_0 a1_1 (IntKind.i64.wrap (0 - v1))).bind fun v3 =>
       some (v2.1, v2.2, v3.1, v3.2)
     else (r128 a0_0 a0_1 v1).bind fun v4 =>
      (r128 a1_0 a1_1 v1).bind fun v5 =>
       some (v4.1, v4.2, v5.1, v5.2)
def T85 : TSpec (Int × Int × Int × Int) where
  enc x := [.agg [.int .i64 x.1, .int .i64 x.2.1], .agg [.int .i64 x.2.2.1, .int .i64 x.2.2.2]]
  dec a := (dInt (aCell a 0 0), dInt (aCell a 0 1), dInt (aCell a 1 0), dInt (aCell a 1 1))
  pre x := (r85 x.1 x.2.1 x.2.2.1 x.2.2.2).isSome = true
  res x := [.agg [.d (.int .i64 (((r85 x.1 x.2.1 x.2.2.1 x.2.2.2).getD default).1)), .d (.int .i64 (((r85 x.1 x.2.1 x.2.2.1 x.2.2.2).getD default).2.1)), .d (.int .i64 (((r85 x.1 x.2.1 x.2.2.1 x.2.2.2).getD default).2.2.1)), .d (.int .i64 (((r85 x.1 x.2.1 x.2.2.1 x.2.2.2).getD default).2.2.2))]]
  al := false
def tb85 : Fns := lk [(110, T110.sp), (128, T128.sp)]
theorem tb85_ok : FnsOk Try.prog tb85 := .cons f110 (.cons f128 (FnsOk.nil))
theorem tb85_110 : tb85 110 = some T110.sp := rfl
theorem tb85_128 : tb85 128 = some T128.sp := rfl
theorem v85 : Valid Try.prog 85 T85.sp := by
  refine valid_t (fn := Try.f85) (n := 45) ty_ok tb85_ok Try.func85 rfl Try.ntmps85 ?_
  rintro ⟨a0_0, a0_1, a1_0, a1_1⟩ hx
  obtain ⟨r, hr⟩ := Option.isSome_iff_exists.1 (show (r85 a0_0 a0_1 a1_0 a1_1).isSome = true from hx)
  have hres : T85.res (a0_0, a0_1, a1_0, a1_1) = [.agg [.d (.int .i64 r.1), .d (.int .i64 r.2.1), .d (.int .i64 r.2.2.1), .d (.int .i64 r.2.2.2)]] := by simp only [T85, hr, Option.getD_some]
  refine ⟨Nat.le_of_ble_eq_true rfl, fun stop S => ?_⟩
  rw [hres] at S
  unfold r85 at hr
  refine S.goB [] 1000 ?_
  simp (maxSteps := 10000000) only [go_sem, tb85_110, T110, tb85_128, T128, T85, Bool.not_true, Bool.not_false, Option.map_some, Int.reduceToNat, Nat.reduceEqDiff, Nat.reduceLT, Nat.reduceAdd, Nat.reduceMul, Nat.reduceSub, Nat.reduceLeDiff, reduceIte, reduceCtorEq, Try.results85]
  repeat refine gA ?_
  refine ⟨fun hc => ?_, fun hc => ?_⟩
  · replace hr := ifP hr hc
    repeat refine gA ?_
    obtain rfl := Option.some.inj hr
    (simp (maxDischargeDepth := 8) [go_sem, -List.drop_one])
  · replace hr := ifN hr hc
    obtain ⟨v1, hv1, hr⟩ := of_bind0 hr
    try simp only [hv1, Option.getD_some, Option.isSome_some, true_and, and_assoc]
    repeat (first | refine gA ?_ | refine gB ?_)
    refine ⟨fun hc => ?_, fun hc => ?_⟩
    · replace hr := ifP hr hc
      obtain ⟨v2, hv2, hr⟩ := of_bind0 hr
      obtain ⟨v3, hv3, hr⟩ := of_bind0 hr
      try simp only [hv2, hv3, Option.getD_some, Option.isSome_some, true_and, and_assoc]
      repeat refine gA ?_
      obtain rfl := Option.some.inj hr
      (simp (maxDischargeDepth := 8) [go_sem, -List.drop_one])
    · replace hr := ifN hr hc
      obtain ⟨v4, hv4, hr⟩ := of_bind0 hr
      obtain ⟨v5, hv5, hr⟩ := of_bind0 hr
      try simp only [hv4, hv5, Option.getD_some, Option.isSome_some, true_and, and_assoc]
      repeat refine gA ?_
      obtain rfl := Option.some.inj hr
      (simp (maxDischargeDepth := 8) [go_sem, -List.drop_one])
theorem f85 : FnFact Try.prog 85 T85.sp := ⟨⟨Try.f85, Try.func85, by decide, rfl⟩, v85⟩

/- martensite/field.ImpedanceOf -/
def r18 (a0_0 : Int) (a0_1 : List (Int × Int × Int)) (a1_0 : Int) (a1_1 : List (Bool)) : Option (Int × Int × Int × Int × Int) :=
  (r83 a0_0 a0_1 a1_0 a1_1).bind fun v1 =>
   if (v1.2.2 != 0) = true then
    some (0, 0, 0, 0, v1.2.2)
    else (r84 v1.1 v1.2.1).bind fun v2 =>
     if 0 ≤ 0 ∧ 0 < (v2.1.length : Int) then
      (r86 ((v2.1.getD 0 default).1) ((v2.1.getD 0 default).2) (IntKind.i64.wrap (a0_0 * a0_0))).bind fun v3 =>
       if 0 ≤ 0 ∧ 0 < (v2.2.length : Int) then
        (r85 v3.1 v3.2 ((v2.2.getD 0 default).1) ((v2.2.getD 0 default).2)).bind fun v4 =>
         some (v4.1, v4.2.1, v4.2.2.1, v4.2.2.2, 0)
        else none
      else none
def T18 : TSpec (Int × (List (Int × Int × Int)) × Int × (List (Bool))) where
  enc x := [.agg [.int .i64 x.1, encF 3 d_III x.2.1], .agg [.int .i64 x.2.2.1, encF 1 d_B x.2.2.2]]
  dec a := (dInt (aCell a 0 0), decF g_III (aCell a 0 1), dInt (aCell a 1 0), decF g_B (aCell a 1 1))
  pre x := (r18 x.1 x.2.1 x.2.2.1 x.2.2.2).isSome = true
  res x := [.agg [.d (.int .i64 (((r18 x.1 x.2.1 x.2.2.1 x.2.2.2).getD default).1)), .d (.int .i64 (((r18 x.1 x.2.1 x.2.2.1 x.2.2.2).getD default).2.1)), .d (.int .i64 (((r18 x.1 x.2.1 x.2.2.1 x.2.2.2).getD default).2.2.1)), .d (.int .i64 (((r18 x.1 x.2.1 x.2.2.1 x.2.2.2).getD default).2.2.2.1))], .c (.d (.int .i64 (((r18 x.1 x.2.1 x.2.2.1 x.2.2.2).getD default).2.2.2.2)))]
  al := false
def tb18 : Fns := lk [(83, T83.sp), (84, T84.sp), (85, T85.sp), (86, T86.sp)]
theorem tb18_ok : FnsOk Try.prog tb18 := .cons f83 (.cons f84 (.cons f85 (.cons f86 (FnsOk.nil))))
theorem tb18_83 : tb18 83 = some T83.sp := rfl
theorem tb18_84 : tb18 84 = some T84.sp := rfl
theorem tb18_85 : tb18 85 = some T85.sp := rfl
theorem tb18_86 : tb18 86 = some T86.sp := rfl
theorem v18 : Valid Try.prog 18 T18.sp := by
  refine valid_t (fn := Try.f18) (n := 38) ty_ok tb18_ok Try.func18 rfl Try.ntmps18 ?_
  rintro ⟨a0_0, a0_1, a1_0, a1_1⟩ hx
  obtain ⟨r, hr⟩ := Option.isSome_iff_exists.1 (show (r18 a0_0 a0_1 a1_0 a1_1).isSome = true from hx)
  have hres : T18.res (a0_0, a0_1, a1_0, a1_1) = [.agg [.d (.int .i64 r.1), .d (.int .i64 r.2.1), .d (.int .i64 r.2.2.1), .d (.int .i64 r.2.2.2.1)], .c (.d (.int .i64 r.2.2.2.2))] := by simp only [T18, hr, Option.getD_some]
  refine ⟨Nat.le_of_ble_eq_true rfl, fun stop S => ?_⟩
  rw [hres] at S
  unfold r18 at hr
  refine S.goB [] 1000 ?_
  simp (maxSteps := 10000000) only [go_sem, tb18_83, T83, tb18_84, T84, tb18_85, T85, tb18_86, T86, T18, Bool.not_true, Bool.not_false, Option.map_some, Int.reduceToNat, Nat.reduceEqDiff, Nat.reduceLT, Nat.reduceAdd, Nat.reduceMul, Nat.reduceSub, Nat.reduceLeDiff, reduceIte, reduceCtorEq, Try.results18]
  obtain ⟨v1, hv1, hr⟩ := of_bind0 hr
  try simp only [hv1, Option.getD_some, Option.isSome_some, true_and, and_assoc]
  repeat refine gA ?_
  refine ⟨fun hc => ?_, fun hc => ?_⟩
  · replace hr := ifP hr hc
    repeat refine gA ?_
    obtain rfl := Option.some.inj hr
    (simp (maxDischargeDepth := 8) [go_sem, -List.drop_one])
  · replace hr := ifN hr hc
    obtain ⟨v2, hv2, hr⟩ := of_bind0 hr
    obtain ⟨hg5, hr⟩ := of_guard0 hr
    obtain ⟨v3, hv3, hr⟩ := of_bind0 hr
    obtain ⟨hg6, hr⟩ := of_guard0 hr
    obtain ⟨v4, hv4, hr⟩ := of_bind0 hr
    try simp only [hv2, hv3, hv4, Option.getD_some, Option.isSome_some, true_and, and_assoc]
    repeat refine gA ?_
    obtain rfl := Option.some.inj hr
    (simp (maxDischargeDepth := 8) [go_sem, -List.drop_one])
theorem f18 : FnFact Try.prog 18 T18.sp := ⟨⟨Try.f18, Try.func18, by decide, rfl⟩, v18⟩

/- martensite/field.shellErr -/
def r88 (a0_0 : Int) (a0_1 : List (Int × Int × Int)) (a1 : Int) : Option (Int) :=
  (r97 a1 0 (IntKind.i64.wrap ((a0_1.length : Int) - 1))).bind fun v1 =>
   (r96 v1 6).bind fun v2 =>
    some v2
def T88 : TSpec (Int × (List (Int × Int × Int)) × Int) where
  enc x := [.agg [.int .i64 x.1, encF 3 d_III x.2.1], .c (.int .i64 x.2.2)]
  dec a := (dInt (aCell a 0 0), decF g_III (aCell a 0 1), dInt (aCell a 1 0))
  pre x := (r88 x.1 x.2.1 x.2.2).isSome = true
  res x := [.c (.d (.int .i64 ((r88 x.1 x.2.1 x.2.2).getD default)))]
  al := false
def tb88 : Fns := lk [(96, T96.sp), (97, T97.sp)]
theorem tb88_ok : FnsOk Try.prog tb88 := .cons f96 (.cons f97 (FnsOk.nil))
theorem tb88_96 : tb88 96 = some T96.sp := rfl
theorem tb88_97 : tb88 97 = some T97.sp := rfl
theorem v88 : Valid Try.prog 88 T88.sp := by
  refine valid_t (fn := Try.f88) (n := 12) ty_ok tb88_ok Try.func88 rfl Try.ntmps88 ?_
  rintro ⟨a0_0, a0_1, a1⟩ hx
  obtain ⟨r, hr⟩ := Option.isSome_iff_exists.1 (show (r88 a0_0 a0_1 a1).isSome = true from hx)
  have hres : T88.res (a0_0, a0_1, a1) = [.c (.d (.int .i64 r))] := by simp only [T88, hr, Option.getD_some]
  refine ⟨Nat.le_of_ble_eq_true rfl, fun stop S => ?_⟩
  rw [hres] at S
  unfold r88 at hr
  refine S.goB [] 1000 ?_
  simp (maxSteps := 10000000) only [go_sem, tb88_96, T96, tb88_97, T97, T88, Bool.not_true, Bool.not_false, Option.map_some, Int.reduceToNat, Nat.reduceEqDiff, Nat.reduceLT, Nat.reduceAdd, Nat.reduceMul, Nat.reduceSub, Nat.reduceLeDiff, reduceIte, reduceCtorEq, Try.results88]
  obtain ⟨v1, hv1, hr⟩ := of_bind0 hr
  obtain ⟨v2, hv2, hr⟩ := of_bind0 hr
  try simp only [hv1, hv2, Option.getD_some, Option.isSome_some, true_and, and_assoc]
  repeat refine gA ?_
  obtain rfl := Option.some.inj hr
  (simp (maxDischargeDepth := 8) [go_sem, -List.drop_one])
theorem f88 : FnFact Try.prog 88 T88.sp := ⟨⟨Try.f88, Try.func88, by decide, rfl⟩, v88⟩

/- martensite/field.times -/
def r91 (a0_0 : Int) (a0_1 : Int) (a1_0 : Int) (a1_1 : Int) : Option (Int × Int) :=
  some (IntKind.i64.wrap ((IntKind.i64.wrap (a0_0 * a1_0)) - (IntKind.i64.wrap (a0_1 * a1_1))), IntKind.i64.wrap ((IntKind.i64.wrap (a0_0 * a1_1)) + (IntKind.i64.wrap (a0_1 * a1_0))))
def T91 : TSpec (Int × Int × Int × Int) where
  enc x := [.agg [.int .i64 x.1, .int .i64 x.2.1], .agg [.int .i64 x.2.2.1, .int .i64 x.2.2.2]]
  dec a := (dInt (aCell a 0 0), dInt (aCell a 0 1), dInt (aCell a 1 0), dInt (aCell a 1 1))
  pre x := (r91 x.1 x.2.1 x.2.2.1 x.2.2.2).isSome = true
  res x := [.agg [.d (.int .i64 (((r91 x.1 x.2.1 x.2.2.1 x.2.2.2).getD default).1)), .d (.int .i64 (((r91 x.1 x.2.1 x.2.2.1 x.2.2.2).getD default).2))]]
  al := false
def tb91 : Fns := lk []
theorem tb91_ok : FnsOk Try.prog tb91 := FnsOk.nil
theorem v91 : Valid Try.prog 91 T91.sp := by
  refine valid_t (fn := Try.f91) (n := 28) ty_ok tb91_ok Try.func91 rfl Try.ntmps91 ?_
  rintro ⟨a0_0, a0_1, a1_0, a1_1⟩ hx
  obtain ⟨r, hr⟩ := Option.isSome_iff_exists.1 (show (r91 a0_0 a0_1 a1_0 a1_1).isSome = true from hx)
  have hres : T91.res (a0_0, a0_1, a1_0, a1_1) = [.agg [.d (.int .i64 r.1), .d (.int .i64 r.2)]] := by simp only [T91, hr, Option.getD_some]
  refine ⟨Nat.le_of_ble_eq_true rfl, fun stop S => ?_⟩
  rw [hres] at S
  unfold r91 at hr
  refine S.goB [] 1000 ?_
  simp (maxSteps := 10000000) only [go_sem, T91, Bool.not_true, Bool.not_false, Option.map_some, Int.reduceToNat, Nat.reduceEqDiff, Nat.reduceLT, Nat.reduceAdd, Nat.reduceMul, Nat.reduceSub, Nat.reduceLeDiff, reduceIte, reduceCtorEq, Try.results91]
  repeat refine gA ?_
  obtain rfl := Option.some.inj hr
  (simp (maxDischargeDepth := 8) [go_sem, -List.drop_one])
theorem f91 : FnFact Try.prog 91 T91.sp := ⟨⟨Try.f91, Try.func91, by decide, rfl⟩, v91⟩

/- martensite/field.TransferOf -/
def b21_1 (a2_0 : Int) (a2_1 : Int) (v1 : (List (Int)) × (List (Int)) × Int) : (Int × Int × Int × Int × Int) → Ctl (Int × Int × Int × Int × Int) (Int × Int × Int × Int × Int) := fun s1 =>
  if (decide (s1.1 < (IntKind.i64.wrap ((if a2_1 < a2_0 then a2_1 else a2_0) + 1)))) = true then
   if 0 ≤ s1.1 ∧ s1.1 < (v1.2.1.length : Int) then
    bindC (r90 s1.2.2.2.1 s1.2.2.2.2 (IntKind.i64.wrap (0 - (v1.2.1.getD s1.1.toNat default)))) fun v5 =>
     bindC (r89 s1.2.1 s1.2.2.1 v5.1 v5.2) fun v6 =>
      if (decide (s1.1 < (if a2_1 < a2_0 then a2_1 else a2_0))) = true then
       if 0 ≤ s1.1 ∧ s1.1 < (v1.1.length : Int) then
        bindC (r86 v6.1 v6.2 (IntKind.i64.wrap (0 - (v1.1.getD s1.1.toNat default)))) fun v7 =>
         bindC (r89 s1.2.2.2.1 s1.2.2.2.2 v7.1 v7.2) fun v8 =>
          .next (IntKind.i64.wrap (s1.1 + 1), v6.1, v6.2, v8.1, v8.2)
        else .out none
       else .next (IntKind.i64.wrap (s1.1 + 1), v6.1, v6.2, s1.2.2.2.1, s1.2.2.2.2)
    else .out none
   else .out ((r84 v1.1 v1.2.1).bind fun v11 =>
    if 0 ≤ IntKind.i64.wrap ((if a2_0 < a2_1 then a2_1 else a2_0) + 1) ∧ IntKind.i64.wrap ((if a2_0 < a2_1 then a2_1 else a2_0) + 1) < (v11.1.length : Int) then
     (r91 s1.2.1 s1.2.2.1 ((v11.1.getD (IntKind.i64.wrap ((if a2_0 < a2_1 then a2_1 else a2_0) + 1)).toNat default).1) ((v11.1.getD (IntKind.i64.wrap ((if a2_0 < a2_1 then a2_1 else a2_0) + 1)).toNat default).2)).bind fun v12 =>
      (r86 v12.1 v12.2 (-1)).bind fun v13 =>
       if 0 ≤ 0 ∧ 0 < (v11.1.length : Int) then
        (r85 v13.1 v13.2 ((v11.1.getD 0 default).1) ((v11.1.getD 0 default).2)).bind fun v14 =>
         some (v14.1, v14.2.1, v14.2.2.1, v14.2.2.2, 0)
        else none
     else none)
def r21 (a0_0 : Int) (a0_1 : List (Int × Int × Int)) (a1_0 : Int) (a1_1 : List (Bool)) (a2_0 : Int) (a2_1 : Int) : Option (Int × Int × Int × Int × Int) :=
  (r83 a0_0 a0_1 a1_0 a1_1).bind fun v1 =>
   (r88 a0_0 a0_1 a2_0).bind fun v2 =>
    (r88 a0_0 a0_1 a2_1).bind fun v3 =>
     (r87 [v1.2.2, v2, v3]).bind fun v4 =>
      if (v4 != 0) = true then
       some (0, 0, 0, 0, v4)
       else iterC (b21_1 a2_0 a2_1 v1) 1000000000 (0, 0, 0, 1, 0)
def T21 : TSpec (Int × (List (Int × Int × Int)) × Int × (List (Bool)) × Int × Int) where
  enc x := [.agg [.int .i64 x.1, encF 3 d_III x.2.1], .agg [.int .i64 x.2.2.1, encF 1 d_B x.2.2.2.1], .agg [.int .i64 x.2.2.2.2.1, .int .i64 x.2.2.2.2.2]]
  dec a := (dInt (aCell a 0 0), decF g_III (aCell a 0 1), dInt (aCell a 1 0), decF g_B (aCell a 1 1), dInt (aCell a 2 0), dInt (aCell a 2 1))
  pre x := (r21 x.1 x.2.1 x.2.2.1 x.2.2.2.1 x.2.2.2.2.1 x.2.2.2.2.2).isSome = true
  res x := [.agg [.d (.int .i64 (((r21 x.1 x.2.1 x.2.2.1 x.2.2.2.1 x.2.2.2.2.1 x.2.2.2.2.2).getD default).1)), .d (.int .i64 (((r21 x.1 x.2.1 x.2.2.1 x.2.2.2.1 x.2.2.2.2.1 x.2.2.2.2.2).getD default).2.1)), .d (.int .i64 (((r21 x.1 x.2.1 x.2.2.1 x.2.2.2.1 x.2.2.2.2.1 x.2.2.2.2.2).getD default).2.2.1)), .d (.int .i64 (((r21 x.1 x.2.1 x.2.2.1 x.2.2.2.1 x.2.2.2.2.1 x.2.2.2.2.2).getD default).2.2.2.1))], .c (.d (.int .i64 (((r21 x.1 x.2.1 x.2.2.1 x.2.2.2.1 x.2.2.2.2.1 x.2.2.2.2.2).getD default).2.2.2.2)))]
  al := false
def tb21 : Fns := lk [(83, T83.sp), (84, T84.sp), (85, T85.sp), (86, T86.sp), (87, T87.sp), (88, T88.sp), (89, T89.sp), (90, T90.sp), (91, T91.sp)]
theorem tb21_ok : FnsOk Try.prog tb21 := .cons f83 (.cons f84 (.cons f85 (.cons f86 (.cons f87 (.cons f88 (.cons f89 (.cons f90 (.cons f91 (FnsOk.nil)))))))))
theorem tb21_83 : tb21 83 = some T83.sp := rfl
theorem tb21_84 : tb21 84 = some T84.sp := rfl
theorem tb21_85 : tb21 85 = some T85.sp := rfl
theorem tb21_86 : tb21 86 = some T86.sp := rfl
theorem tb21_87 : tb21 87 = some T87.sp := rfl
theorem tb21_88 : tb21 88 = some T88.sp := rfl
theorem tb21_89 : tb21 89 = some T89.sp := rfl
theorem tb21_90 : tb21 90 = some T90.sp := rfl
theorem tb21_91 : tb21 91 = some T91.sp := rfl
theorem v21 : Valid Try.prog 21 T21.sp := by
  refine valid_t (fn := Try.f21) (n := 95) ty_ok tb21_ok Try.func21 rfl Try.ntmps21 ?_
  rintro ⟨a0_0, a0_1, a1_0, a1_1, a2_0, a2_1⟩ hx
  obtain ⟨r, hr⟩ := Option.isSome_iff_exists.1 (show (r21 a0_0 a0_1 a1_0 a1_1 a2_0 a2_1).isSome = true from hx)
  have hres : T21.res (a0_0, a0_1, a1_0, a1_1, a2_0, a2_1) = [.agg [.d (.int .i64 r.1), .d (.int .i64 r.2.1), .d (.int .i64 r.2.2.1), .d (.int .i64 r.2.2.2.1)], .c (.d (.int .i64 r.2.2.2.2))] := by simp only [T21, hr, Option.getD_some]
  refine ⟨Nat.le_of_ble_eq_true rfl, fun stop S => ?_⟩
  rw [hres] at S
  unfold r21 at hr
  refine S.goB [] 1000 ?_
  simp (maxSteps := 10000000) only [go_sem, tb21_83, T83, tb21_84, T84, tb21_85, T85, tb21_86, T86, tb21_87, T87, tb21_88, T88, tb21_89, T89, tb21_90, T90, tb21_91, T91, T21, Bool.not_true, Bool.not_false, Option.map_some, Int.reduceToNat, Nat.reduceEqDiff, Nat.reduceLT, Nat.reduceAdd, Nat.reduceMul, Nat.reduceSub, Nat.reduceLeDiff, reduceIte, reduceCtorEq, Try.results21]
  obtain ⟨v1, hv1, hr⟩ := of_bind0 hr
  obtain ⟨v2, hv2, hr⟩ := of_bind0 hr
  obtain ⟨v3, hv3, hr⟩ := of_bind0 hr
  obtain ⟨v4, hv4, hr⟩ := of_bind0 hr
  try simp only [hv1, hv2, hv3, hv4, Option.getD_some, Option.isSome_some, true_and, and_assoc]
  repeat refine gA ?_
  refine ⟨fun hc => ?_, fun hc => ?_⟩
  · replace hr := ifP hr hc
    repeat refine gA ?_
    obtain rfl := Option.some.inj hr
    (simp (maxDischargeDepth := 8) [go_sem, -List.drop_one])
  · replace hr := ifN hr hc
    repeat refine gA ?_
    refine S.sees [6, 8, 10, 11, 12, 13, 50, 51] [(6, 6), (8, 8), (12, 12), (13, 13)] [(20, 20), (10020, 10020)] ?_ (Stop.iter S (fun s1 => ⟨[(6, .c (.ref 6 0)), (8, .c (.ref 8 0)), (10, .c (.d (.int .i64 (if a2_1 < a2_0 then a2_1 else a2_0)))), (11, .c (.d (.int .i64 (if a2_0 < a2_1 then a2_1 else a2_0)))), (12, .c (.ref 12 0)), (13, .c (.ref 13 0)), (50, .c (.d (.int .i64 (IntKind.i64.wrap ((if a2_1 < a2_0 then a2_1 else a2_0) + 1))))), (51, .c (.d (.int .i64 s1.1)))], [(6, [.d (.int .i64 0), .d (.int .i64 0), .d (.int .i64 0), .d (.int .i64 0)]), (8, [.own 20, .own 10020]), (12, [.d (.int .i64 s1.2.1), .d (.int .i64 s1.2.2.1)]), (13, [.d (.int .i64 s1.2.2.2.1), .d (.int .i64 s1.2.2.2.2)])], [(20, .owned (encF 1 d_I v1.1)), (10020, .owned (encF 1 d_I v1.2.1))]⟩) (b21_1 a2_0 a2_1 v1) (fun q => q = r) hr rfl ?_)
    · (simp (maxDischargeDepth := 8) [go_sem, -List.drop_one])
    · intro s1 hr
      unfold b21_1 at hr
      refine S.goB [] 1000 ?_
      simp (maxSteps := 10000000) only [go_sem, tb21_83, T83, tb21_84, T84, tb21_85, T85, tb21_86, T86, tb21_87, T87, tb21_88, T88, tb21_89, T89, tb21_90, T90, tb21_91, T91, T21, Bool.not_true, Bool.not_false, Option.map_some, Int.reduceToNat, Nat.reduceEqDiff, Nat.reduceLT, Nat.reduceAdd, Nat.reduceMul, Nat.reduceSub, Nat.reduceLeDiff, reduceIte, reduceCtorEq, Try.results21]
      repeat refine gA ?_
      refine ⟨fun hc => ?_, fun hc => ?_⟩
      · replace hr := ifP1 hr hc
        obtain ⟨hg10, hr⟩ := of_guard1 hr
        obtain ⟨v5, hv5, hr⟩ := of_bind1 hr
        obtain ⟨v6, hv6, hr⟩ := of_bind1 hr
        try simp only [hv5, hv6, Option.getD_some, Option.isSome_some, true_and, and_assoc]
        repeat refine gA ?_
        refine ⟨fun hc => ?_, fun hc => ?_⟩
        · replace hr := ifP1 hr hc
          obtain ⟨hg9, hr⟩ := of_guard1 hr
          obtain ⟨v7, hv7, hr⟩ := of_bind1 hr
          obtain ⟨v8, hv8, hr⟩ := of_bind1 hr
          try simp only [hv7, hv8, Option.getD_some, Option.isSome_some, true_and, and_assoc]
          repeat refine gA ?_
          refine S.sees [6, 8, 10, 11, 12, 13, 50, 51] [(6, 6), (8, 8), (12, 12), (13, 13)] [(20, 20), (10020, 10020)] ?_ hr
          (simp (maxDischargeDepth := 8) [go_sem, -List.drop_one])
        · replace hr := ifN1 hr hc
          repeat refine gA ?_
          refine S.sees [6, 8, 10, 11, 12, 13, 50, 51] [(6, 6), (8, 8), (12, 12), (13, 13)] [(20, 20), (10020, 10020)] ?_ hr
          (simp (maxDischargeDepth := 8) [go_sem, -List.drop_one])
      · replace hr := ifN1 hr hc
        repeat refine gA ?_
        have hr := of_out0 hr
        obtain ⟨v11, hv11, hr⟩ := of_bind0 hr
        obtain ⟨hg15, hr⟩ := of_guard0 hr
        obtain ⟨v12, hv12, hr⟩ := of_bind0 hr
        obtain ⟨v13, hv13, hr⟩ := of_bind0 hr
        obtain ⟨hg16, hr⟩ := of_guard0 hr
        obtain ⟨v14, hv14, hr⟩ := of_bind0 hr
        try simp only [hv11, hv12, hv13, hv14, Option.getD_some, Option.isSome_some, true_and, and_assoc]
        repeat refine gA ?_
        obtain rfl := Option.some.inj hr
        (simp (maxDischargeDepth := 8) [go_sem, -List.drop_one])
theorem f21 : FnFact Try.prog 21 T21.sp := ⟨⟨Try.f21, Try.func21, by decide, rfl⟩, v21⟩

/- martensite/field.percentErr -/
def r104 (a0 : Int) : Option (Int) :=
  (r97 a0 1 100).bind fun v1 =>
   (r96 v1 2).bind fun v2 =>
    some v2
def T104 : TSpec (Int) where
  enc x := [.c (.int .i64 x)]
  dec a := dInt (aCell a 0 0)
  pre x := (r104 x).isSome = true
  res x := [.c (.d (.int .i64 ((r104 x).getD default)))]
  al := false
def tb104 : Fns := lk [(96, T96.sp), (97, T97.sp)]
theorem tb104_ok : FnsOk Try.prog tb104 := .cons f96 (.cons f97 (FnsOk.nil))
theorem tb104_96 : tb104 96 = some T96.sp := rfl
theorem tb104_97 : tb104 97 = some T97.sp := rfl
theorem v104 : Valid Try.prog 104 T104.sp := by
  refine valid_t (fn := Try.f104) (n := 6) ty_ok tb104_ok Try.func104 rfl Try.ntmps104 ?_
  rintro a0 hx
  obtain ⟨r, hr⟩ := Option.isSome_iff_exists.1 (show (r104 a0).isSome = true from hx)
  have hres : T104.res a0 = [.c (.d (.int .i64 r))] := by simp only [T104, hr, Option.getD_some]
  refine ⟨Nat.le_of_ble_eq_true rfl, fun stop S => ?_⟩
  rw [hres] at S
  unfold r104 at hr
  refine S.goB [] 1000 ?_
  simp (maxSteps := 10000000) only [go_sem, tb104_96, T96, tb104_97, T97, T104, Bool.not_true, Bool.not_false, Option.map_some, Int.reduceToNat, Nat.reduceEqDiff, Nat.reduceLT, Nat.reduceAdd, Nat.reduceMul, Nat.reduceSub, Nat.reduceLeDiff, reduceIte, reduceCtorEq, Try.results104]
  obtain ⟨v1, hv1, hr⟩ := of_bind0 hr
  obtain ⟨v2, hv2, hr⟩ := of_bind0 hr
  try simp only [hv1, hv2, Option.getD_some, Option.isSome_some, true_and, and_assoc]
  repeat refine gA ?_
  obtain rfl := Option.some.inj hr
  (simp (maxDischargeDepth := 8) [go_sem, -List.drop_one])
theorem f104 : FnFact Try.prog 104 T104.sp := ⟨⟨Try.f104, Try.func104, by decide, rfl⟩, v104⟩

/- (martensite/field.ladder).depth -/
def b105_1 (a0_0 : List (Int)) (a1 : Int) (v1 : (List (Int)) × Int) (v2 : (List (Int × Int)) × (List (Int × Int))) : (Int × Int × Int) → Ctl (Int × Int × Int) (Int) := fun s1 =>
  if (decide (s1.2.1 < (((v2.1.length - 1) : Nat) : Int))) = true then
   if 0 ≤ s1.2.1 ∧ s1.2.1 < ((((v2.1.drop 1).take (v2.1.length - 1)).length : Nat) : Int) then
    if 0 ≤ s1.2.1 ∧ s1.2.1 < (a0_0.length : Int) then
     if (decide ((IntKind.i64.wrap (100 * (IntKind.i64.wrap (s1.1 + (IntKind.i64.wrap ((a0_0.getD s1.2.1.toNat default) * (IntKind.i64.wrap ((IntKind.i64.wrap (((((v2.1.drop 1).take (v2.1.length - 1)).getD s1.2.1.toNat default).1) * ((((v2.1.drop 1).take (v2.1.length - 1)).getD s1.2.1.toNat default).1))) + (IntKind.i64.wrap (((((v2.1.drop 1).take (v2.1.length - 1)).getD s1.2.1.toNat default).2) * ((((v2.1.drop 1).take (v2.1.length - 1)).getD s1.2.1.toNat default).2))))))))))) ≥ (IntKind.i64.wrap (a1 * v1.2)))) = true then
      .out (some (IntKind.i64.wrap (s1.2.2 + 1)))
      else .next (IntKind.i64.wrap (s1.1 + (IntKind.i64.wrap ((a0_0.getD s1.2.1.toNat default) * (IntKind.i64.wrap ((IntKind.i64.wrap (((((v2.1.drop 1).take (v2.1.length - 1)).getD s1.2.1.toNat default).1) * ((((v2.1.drop 1).take (v2.1.length - 1)).getD s1.2.1.toNat default).1))) + (IntKind.i64.wrap (((((v2.1.drop 1).take (v2.1.length - 1)).getD s1.2.1.toNat default).2) * ((((v2.1.drop 1).take (v2.1.length - 1)).getD s1.2.1.toNat default).2)))))))), IntKind.i64.wrap (s1.2.1 + 1), IntKind.i64.wrap (s1.2.2 + 1))
     else .out none
    else .out none
   else .out (some s1.2.2)
def r105 (a0_0 : List (Int)) (a0_1 : List (Int)) (a1 : Int) : Option (Int) :=
  (r101 a0_0 a0_1).bind fun v1 =>
   (r84 a0_0 a0_1).bind fun v2 =>
    if 0 ≤ 1 ∧ 1 ≤ (v2.1.length : Int) ∧ (v2.1.length : Int) ≤ (v2.1.length : Int) then
     iterC (b105_1 a0_0 a1 v1 v2) 1000000000 (0, 0, 0)
     else none
def T105 : TSpec ((List (Int)) × (List (Int)) × Int) where
  enc x := [.agg [encF 1 d_I x.1, encF 1 d_I x.2.1], .c (.int .i64 x.2.2)]
  dec a := (decF g_I (aCell a 0 0), decF g_I (aCell a 0 1), dInt (aCell a 1 0))
  pre x := (r105 x.1 x.2.1 x.2.2).isSome = true
  res x := [.c (.d (.int .i64 ((r105 x.1 x.2.1 x.2.2).getD default)))]
  al := false
def tb105 : Fns := lk [(84, T84.sp), (101, T101.sp)]
theorem tb105_ok : FnsOk Try.prog tb105 := .cons f84 (.cons f101 (FnsOk.nil))
theorem tb105_84 : tb105 84 = some T84.sp := rfl
theorem tb105_101 : tb105 101 = some T101.sp := rfl
theorem v105 : Valid Try.prog 105 T105.sp := by
  refine valid_t (fn := Try.f105) (n := 28) ty_ok tb105_ok Try.func105 rfl Try.ntmps105 ?_
  rintro ⟨a0_0, a0_1, a1⟩ hx
  obtain ⟨r, hr⟩ := Option.isSome_iff_exists.1 (show (r105 a0_0 a0_1 a1).isSome = true from hx)
  have hres : T105.res (a0_0, a0_1, a1) = [.c (.d (.int .i64 r))] := by simp only [T105, hr, Option.getD_some]
  refine ⟨Nat.le_of_ble_eq_true rfl, fun stop S => ?_⟩
  rw [hres] at S
  unfold r105 at hr
  refine S.goB [3] 1000 ?_
  simp (maxSteps := 10000000) only [go_sem, tb105_84, T84, tb105_101, T101, T105, Bool.not_true, Bool.not_false, Option.map_some, Int.reduceToNat, Nat.reduceEqDiff, Nat.reduceLT, Nat.reduceAdd, Nat.reduceMul, Nat.reduceSub, Nat.reduceLeDiff, reduceIte, reduceCtorEq, Try.results105, Try.results129]
  obtain ⟨v1, hv1, hr⟩ := of_bind0 hr
  try simp only [hv1, Option.getD_some, Option.isSome_some, true_and, and_assoc]
  repeat refine gA ?_
  repeat refine gA ?_
  refine S.bound 1 15 16 rfl rfl rfl rfl (Nat.le_of_ble_eq_true rfl) ?_
  simp (maxSteps := 10000000) only [go_sem, tb105_84, T84, tb105_101, T101, T105, Bool.not_true, Bool.not_false, Option.map_some, Int.reduceToNat, Nat.reduceEqDiff, Nat.reduceLT, Nat.reduceAdd, Nat.reduceMul, Nat.reduceSub, Nat.reduceLeDiff, reduceIte, reduceCtorEq, Try.results105, Try.results129]
  repeat refine gA ?_
  refine S.goB [3] 1000 ?_
  simp (maxSteps := 10000000) only [go_sem, tb105_84, T84, tb105_101, T101, T105, Bool.not_true, Bool.not_false, Option.map_some, Int.reduceToNat, Nat.reduceEqDiff, Nat.reduceLT, Nat.reduceAdd, Nat.reduceMul, Nat.reduceSub, Nat.reduceLeDiff, reduceIte, reduceCtorEq, Try.results105, Try.results129]
  repeat refine gA ?_
  repeat refine gA ?_
  refine S.range [3, 6, 7] Try.func129 (by decide) rfl Try.ntmps129 Try.results129 (fun cx e => drawn_ok ty_ok tb105_ok cx e) (fun cx e => drawn_ok ty_ok tb105_ok cx e) (by decide) rfl rfl (Nat.le_of_ble_eq_true rfl) ?_
  intro l1 stop1 stopJ1 S1 SJ1 Y1
  refine S1.goB [8] 1000 ?_
  simp (maxSteps := 10000000) only [go_sem, tb105_84, T84, tb105_101, T101, T105, Bool.not_true, Bool.not_false, Option.map_some, Int.reduceToNat, Nat.reduceEqDiff, Nat.reduceLT, Nat.reduceAdd, Nat.reduceMul, Nat.reduceSub, Nat.reduceLeDiff, reduceIte, reduceCtorEq, Try.results105, Try.results129]
  obtain ⟨v2, hv2, hr⟩ := of_bind0 hr
  obtain ⟨hg5, hr⟩ := of_guard0 hr
  try simp only [hv2, Option.getD_some, Option.isSome_some, true_and, and_assoc]
  repeat refine gA ?_
  refine S1.sees [1, 2, 6, 16, 17, 18] [(100002, 100002), (3, 3), (6, 6), (7, 7)] [] ?_ (Stop.iter S1 (fun s1 => ⟨[(1, .c (.yld l1)), (2, .c (.ref 100002 0)), (6, .c (.d (.int .i64 s1.1))), (16, .c (.d (encF 2 d_II ((v2.1.drop 1).take (v2.1.length - 1))))), (17, .c (.d (.int .i64 (((v2.1.length - 1) : Nat) : Int)))), (18, .c (.d (.int .i64 s1.2.1)))], [(100002, [.d (encF 1 d_I a0_0), .d (encF 1 d_I a0_1)]), (3, [.d (.int .i64 a1)]), (6, [.d (.int .i64 v1.2)]), (7, [.d (.int .i64 s1.2.2)])], []⟩) (b105_1 a0_0 a1 v1 v2) (fun q => q = r) hr rfl ?_)
  · (simp (maxDischargeDepth := 8) [go_sem, -List.drop_one])
  · intro s1 hr
    unfold b105_1 at hr
    refine S1.goB [8] 1000 ?_
    simp (maxSteps := 10000000) only [go_sem, tb105_84, T84, tb105_101, T101, T105, Bool.not_true, Bool.not_false, Option.map_some, Int.reduceToNat, Nat.reduceEqDiff, Nat.reduceLT, Nat.reduceAdd, Nat.reduceMul, Nat.reduceSub, Nat.reduceLeDiff, reduceIte, reduceCtorEq, Try.results105, Try.results129]
    repeat refine gA ?_
    refine ⟨fun hc => ?_, fun hc => ?_⟩
    · replace hr := ifP1 hr hc
      obtain ⟨hg3, hr⟩ := of_guard1 hr
      obtain ⟨hg4, hr⟩ := of_guard1 hr
      repeat refine gA ?_
      refine Y1 3 [1, 2, 6, 16, 17, 18] (some 46) rfl rfl rfl rfl (Nat.le_of_ble_eq_true rfl) (by rfl) ?_
      simp (maxSteps := 10000000) only [go_sem, tb105_84, T84, tb105_101, T101, T105, Bool.not_true, Bool.not_false, Option.map_some, Int.reduceToNat, Nat.reduceEqDiff, Nat.reduceLT, Nat.reduceAdd, Nat.reduceMul, Nat.reduceSub, Nat.reduceLeDiff, reduceIte, reduceCtorEq, Try.results105, Try.results129]
      repeat refine gA ?_
      intro stopA2 SA2
      refine SA2.goB [] 1000 ?_
      simp (maxSteps := 10000000) only [go_sem, tb105_84, T84, tb105_101, T101, T105, Bool.not_true, Bool.not_false, Option.map_some, Int.reduceToNat, Nat.reduceEqDiff, Nat.reduceLT, Nat.reduceAdd, Nat.reduceMul, Nat.reduceSub, Nat.reduceLeDiff, reduceIte, reduceCtorEq, Try.results105, Try.results129]
      repeat refine gA ?_
      intro stop2 S2
      refine S2.goB [3] 1000 ?_
      simp (maxSteps := 10000000) only [go_sem, tb105_84, T84, tb105_101, T101, T105, Bool.not_true, Bool.not_false, Option.map_some, Int.reduceToNat, Nat.reduceEqDiff, Nat.reduceLT, Nat.reduceAdd, Nat.reduceMul, Nat.reduceSub, Nat.reduceLeDiff, reduceIte, reduceCtorEq, Try.results105, Try.results129]
      repeat refine gA ?_
      refine ⟨fun hc => ?_, fun hc => ?_⟩
      · replace hr := ifP1 hr hc
        repeat refine gA ?_
        repeat refine gA ?_
        refine (SJ1 (.exit 0)).goB [8] 1000 ?_
        simp (maxSteps := 10000000) only [go_sem, tb105_84, T84, tb105_101, T101, T105, Bool.not_true, Bool.not_false, Option.map_some, Int.reduceToNat, Nat.reduceEqDiff, Nat.reduceLT, Nat.reduceAdd, Nat.reduceMul, Nat.reduceSub, Nat.reduceLeDiff, reduceIte, reduceCtorEq, Try.results105, Try.results129]
        repeat refine gA ?_
        have hr := of_out0 hr
        repeat refine gA ?_
        refine S.goB [3] 1000 ?_
        simp (maxSteps := 10000000) only [go_sem, tb105_84, T84, tb105_101, T101, T105, Bool.not_true, Bool.not_false, Option.map_some, Int.reduceToNat, Nat.reduceEqDiff, Nat.reduceLT, Nat.reduceAdd, Nat.reduceMul, Nat.reduceSub, Nat.reduceLeDiff, reduceIte, reduceCtorEq, Try.results105, Try.results129]
        repeat refine gA ?_
        obtain rfl := Option.some.inj hr
        (simp (maxDischargeDepth := 8) [go_sem, -List.drop_one])
      · replace hr := ifN1 hr hc
        repeat refine gA ?_
        repeat refine gA ?_
        refine S1.goB [8] 1000 ?_
        simp (maxSteps := 10000000) only [go_sem, tb105_84, T84, tb105_101, T101, T105, Bool.not_true, Bool.not_false, Option.map_some, Int.reduceToNat, Nat.reduceEqDiff, Nat.reduceLT, Nat.reduceAdd, Nat.reduceMul, Nat.reduceSub, Nat.reduceLeDiff, reduceIte, reduceCtorEq, Try.results105, Try.results129]
        repeat refine gA ?_
        refine S1.sees [1, 2, 6, 16, 17, 18] [(100002, 100002), (3, 3), (6, 6), (7, 7)] [] ?_ hr
        (simp (maxDischargeDepth := 8) [go_sem, -List.drop_one])
    · replace hr := ifN1 hr hc
      repeat refine gA ?_
      have hr := of_out0 hr
      repeat refine gA ?_
      repeat refine gA ?_
      refine S.goB [3] 1000 ?_
      simp (maxSteps := 10000000) only [go_sem, tb105_84, T84, tb105_101, T101, T105, Bool.not_true, Bool.not_false, Option.map_some, Int.reduceToNat, Nat.reduceEqDiff, Nat.reduceLT, Nat.reduceAdd, Nat.reduceMul, Nat.reduceSub, Nat.reduceLeDiff, reduceIte, reduceCtorEq, Try.results105, Try.results129]
      repeat refine gA ?_
      obtain rfl := Option.some.inj hr
      (simp (maxDischargeDepth := 8) [go_sem, -List.drop_one])
theorem f105 : FnFact Try.prog 105 T105.sp := ⟨⟨Try.f105, Try.func105, by decide, rfl⟩, v105⟩

/- martensite/field.FrequencyFor -/
def b68_1 (a0_0 : Int) (a0_1 : List (Int × Int × Int)) (a1 : List (Bool)) (a2_0 : Int) (a2_1 : Int) : (Int) → Ctl (Int) (Int × Int) := fun s1 =>
  if (decide (s1 ≤ 8)) = true then
   bindC (r119 a0_0 a0_1 s1 a1) fun v7 =>
    bindC (r105 v7.1 v7.2 a2_0) fun v8 =>
     if (decide (v8 ≤ a2_1)) = true then
      .out (some (s1, 0))
      else .next (IntKind.i64.wrap (s1 + 1))
   else .out (some (0, 12))
def r68 (a0_0 : Int) (a0_1 : List (Int × Int × Int)) (a1 : List (Bool)) (a2_0 : Int) (a2_1 : Int) : Option (Int × Int) :=
  (r99 a0_0 a0_1).bind fun v1 =>
   (r96 ((a1.length : Int) == (a0_1.length : Int)) 10).bind fun v2 =>
    (r104 a2_0).bind fun v3 =>
     (r97 a2_1 1 (a0_1.length : Int)).bind fun v4 =>
      (r96 v4 2).bind fun v5 =>
       (r87 [v1, v2, v3, v5]).bind fun v6 =>
        if (v6 != 0) = true then
         some (0, v6)
         else iterC (b68_1 a0_0 a0_1 a1 a2_0 a2_1) 1000000000 1
def T68 : TSpec (Int × (List (Int × Int × Int)) × (List (Bool)) × Int × Int) where
  enc x := [.agg [.int .i64 x.1, encF 3 d_III x.2.1], .c (encF 1 d_B x.2.2.1), .agg [.int .i64 x.2.2.2.1, .int .i64 x.2.2.2.2]]
  dec a := (dInt (aCell a 0 0), decF g_III (aCell a 0 1), decF g_B (aCell a 1 0), dInt (aCell a 2 0), dInt (aCell a 2 1))
  pre x := (r68 x.1 x.2.1 x.2.2.1 x.2.2.2.1 x.2.2.2.2).isSome = true
  res x := [.c (.d (.int .i64 (((r68 x.1 x.2.1 x.2.2.1 x.2.2.2.1 x.2.2.2.2).getD default).1))), .c (.d (.int .i64 (((r68 x.1 x.2.1 x.2.2.1 x.2.2.2.1 x.2.2.2.2).getD default).2)))]
  al := false
def tb68 : Fns := lk [(87, T87.sp), (96, T96.sp), (97, T97.sp), (99, T99.sp), (104, T104.sp), (105, T105.sp), (119, T119.sp)]
theorem tb68_ok : FnsOk Try.prog tb68 := .cons f87 (.cons f96 (.cons f97 (.cons f99 (.cons f104 (.cons f105 (.cons f119 (FnsOk.nil)))))))
theorem tb68_87 : tb68 87 = some T87.sp := rfl
theorem tb68_96 : tb68 96 = some T96.sp := rfl
theorem tb68_97 : tb68 97 = some T97.sp := rfl
theorem tb68_99 : tb68 99 = some T99.sp := rfl
theorem tb68_104 : tb68 104 = some T104.sp := rfl
theorem tb68_105 : tb68 105 = some T105.sp := rfl
theorem tb68_119 : tb68 119 = some T119.sp := rfl
theorem v68 : Valid Try.prog 68 T68.sp := by
  refine valid_t (fn := Try.f68) (n := 50) ty_ok tb68_ok Try.func68 rfl Try.ntmps68 ?_
  rintro ⟨a0_0, a0_1, a1, a2_0, a2_1⟩ hx
  obtain ⟨r, hr⟩ := Option.isSome_iff_exists.1 (show (r68 a0_0 a0_1 a1 a2_0 a2_1).isSome = true from hx)
  have hres : T68.res (a0_0, a0_1, a1, a2_0, a2_1) = [.c (.d (.int .i64 r.1)), .c (.d (.int .i64 r.2))] := by simp only [T68, hr, Option.getD_some]
  refine ⟨Nat.le_of_ble_eq_true rfl, fun stop S => ?_⟩
  rw [hres] at S
  unfold r68 at hr
  refine S.goB [] 1000 ?_
  simp (maxSteps := 10000000) only [go_sem, tb68_87, T87, tb68_96, T96, tb68_97, T97, tb68_99, T99, tb68_104, T104, tb68_105, T105, tb68_119, T119, T68, Bool.not_true, Bool.not_false, Option.map_some, Int.reduceToNat, Nat.reduceEqDiff, Nat.reduceLT, Nat.reduceAdd, Nat.reduceMul, Nat.reduceSub, Nat.reduceLeDiff, reduceIte, reduceCtorEq, Try.results68]
  obtain ⟨v1, hv1, hr⟩ := of_bind0 hr
  obtain ⟨v2, hv2, hr⟩ := of_bind0 hr
  obtain ⟨v3, hv3, hr⟩ := of_bind0 hr
  obtain ⟨v4, hv4, hr⟩ := of_bind0 hr
  obtain ⟨v5, hv5, hr⟩ := of_bind0 hr
  obtain ⟨v6, hv6, hr⟩ := of_bind0 hr
  try simp only [hv1, hv2, hv3, hv4, hv5, hv6, Option.getD_some, Option.isSome_some, true_and, and_assoc]
  repeat refine gA ?_
  refine ⟨fun hc => ?_, fun hc => ?_⟩
  · replace hr := ifP hr hc
    repeat refine gA ?_
    obtain rfl := Option.some.inj hr
    (simp (maxDischargeDepth := 8) [go_sem, -List.drop_one])
  · replace hr := ifN hr hc
    repeat refine gA ?_
    refine S.sees [1, 3, 5, 9] [(3, 3), (5, 5)] [] ?_ (Stop.iter S (fun s1 => ⟨[(1, .c (.d (encF 1 d_B a1))), (3, .c (.ref 3 0)), (5, .c (.ref 5 0)), (9, .c (.d (.int .i64 s1)))], [(3, [.d (.int .i64 a0_0), .d (encF 3 d_III a0_1)]), (5, [.d (.int .i64 a2_0), .d (.int .i64 a2_1)])], []⟩) (b68_1 a0_0 a0_1 a1 a2_0 a2_1) (fun q => q = r) hr rfl ?_)
    · (simp (maxDischargeDepth := 8) [go_sem, -List.drop_one])
    · intro s1 hr
      unfold b68_1 at hr
      refine S.goB [] 1000 ?_
      simp (maxSteps := 10000000) only [go_sem, tb68_87, T87, tb68_96, T96, tb68_97, T97, tb68_99, T99, tb68_104, T104, tb68_105, T105, tb68_119, T119, T68, Bool.not_true, Bool.not_false, Option.map_some, Int.reduceToNat, Nat.reduceEqDiff, Nat.reduceLT, Nat.reduceAdd, Nat.reduceMul, Nat.reduceSub, Nat.reduceLeDiff, reduceIte, reduceCtorEq, Try.results68]
      repeat refine gA ?_
      refine ⟨fun hc => ?_, fun hc => ?_⟩
      · replace hr := ifP1 hr hc
        obtain ⟨v7, hv7, hr⟩ := of_bind1 hr
        obtain ⟨v8, hv8, hr⟩ := of_bind1 hr
        try simp only [hv7, hv8, Option.getD_some, Option.isSome_some, true_and, and_assoc]
        repeat refine gA ?_
        refine ⟨fun hc => ?_, fun hc => ?_⟩
        · replace hr := ifP1 hr hc
          repeat refine gA ?_
          have hr := of_out0 hr
          obtain rfl := Option.some.inj hr
          (simp (maxDischargeDepth := 8) [go_sem, -List.drop_one])
        · replace hr := ifN1 hr hc
          repeat refine gA ?_
          refine S.sees [1, 3, 5, 9] [(3, 3), (5, 5)] [] ?_ hr
          (simp (maxDischargeDepth := 8) [go_sem, -List.drop_one])
      · replace hr := ifN1 hr hc
        repeat refine gA ?_
        have hr := of_out0 hr
        repeat refine gA ?_
        obtain rfl := Option.some.inj hr
        (simp (maxDischargeDepth := 8) [go_sem, -List.drop_one])
theorem f68 : FnFact Try.prog 68 T68.sp := ⟨⟨Try.f68, Try.func68, by decide, rfl⟩, v68⟩
end Go.Proofs.Ytagnplbfdaifkaa

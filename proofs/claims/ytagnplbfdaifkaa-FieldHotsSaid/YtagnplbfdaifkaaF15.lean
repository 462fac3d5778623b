/- Contracts of functions, written by wip/dec. -/
import Derived.Test.YtagnplbfdaifkaaF00
import Derived.Test.YtagnplbfdaifkaaF01
import Derived.Test.YtagnplbfdaifkaaF05
set_option linter.unusedVariables false
set_option linter.unusedSimpArgs false
set_option maxHeartbeats 4000000
set_option maxRecDepth 20000
namespace Go.Proofs.Ytagnplbfdaifkaa
open Go.Abs
/- martensite/martensitebase.CopyInts -/
def r42 (a0 : List (Int)) : Option ((List (Int))) :=
  if (0 + a0.length) * 8 ≤ 140737488355328 ∧ 0 + a0.length ≤ 9223372036854775807 then
   some a0
   else none
def T42 : TSpec ((List (Int))) where
  enc x := [.c (encF 1 d_I x)]
  dec a := decF g_I (aCell a 0 0)
  pre x := (r42 x).isSome = true
  res x := [.c (.own (encF 1 d_I ((r42 x).getD default)))]
  al := false
def tb42 : Fns := lk []
theorem tb42_ok : FnsOk Try.prog tb42 := FnsOk.nil
theorem v42 : Valid Try.prog 42 T42.sp := by
  refine valid_t (fn := Try.f42) (n := 6) ty_ok tb42_ok Try.func42 rfl Try.ntmps42 ?_
  rintro a0 hx
  obtain ⟨r, hr⟩ := Option.isSome_iff_exists.1 (show (r42 a0).isSome = true from hx)
  have hres : T42.res a0 = [.c (.own (encF 1 d_I r))] := by simp only [T42, hr, Option.getD_some]
  refine ⟨Nat.le_of_ble_eq_true rfl, fun stop S => ?_⟩
  rw [hres] at S
  unfold r42 at hr
  refine S.goB [] 1000 ?_
  simp (maxSteps := 10000000) only [go_sem, T42, Bool.not_true, Bool.not_false, Option.map_some, Int.reduceToNat, Nat.reduceEqDiff, Nat.reduceLT, Nat.reduceAdd, Nat.reduceMul, Nat.reduceSub, Nat.reduceLeDiff, reduceIte, reduceCtorEq, Try.results42]
  obtain ⟨hg1, hr⟩ := of_guard0 hr
  repeat refine gA ?_
  obtain rfl := Option.some.inj hr
  (simp (maxDischargeDepth := 8) [go_sem, -List.drop_one])
theorem f42 : FnFact Try.prog 42 T42.sp := ⟨⟨Try.f42, Try.func42, by decide, rfl⟩, v42⟩

/- martensite/field.HotAt$1 -/
def r107 (a0 : Int) : Option (Bool) :=
  (r97 a0 1 3000).bind fun v1 =>
   some v1
def T107 : TSpec (Int) where
  enc x := [.c (.int .i64 x)]
  dec a := dInt (aCell a 0 0)
  pre x := (r107 x).isSome = true
  res x := [.c (.d (.bool ((r107 x).getD default)))]
  al := false
def tb107 : Fns := lk [(97, T97.sp)]
theorem tb107_ok : FnsOk Try.prog tb107 := .cons f97 (FnsOk.nil)
theorem tb107_97 : tb107 97 = some T97.sp := rfl
theorem v107 : Valid Try.prog 107 T107.sp := by
  refine valid_t (fn := Try.f107) (n := 5) ty_ok tb107_ok Try.func107 rfl Try.ntmps107 ?_
  rintro a0 hx
  obtain ⟨r, hr⟩ := Option.isSome_iff_exists.1 (show (r107 a0).isSome = true from hx)
  have hres : T107.res a0 = [.c (.d (.bool r))] := by simp only [T107, hr, Option.getD_some]
  refine ⟨Nat.le_of_ble_eq_true rfl, fun stop S => ?_⟩
  rw [hres] at S
  unfold r107 at hr
  refine S.goB [] 1000 ?_
  simp (maxSteps := 10000000) only [go_sem, tb107_97, T97, T107, Bool.not_true, Bool.not_false, Option.map_some, Int.reduceToNat, Nat.reduceEqDiff, Nat.reduceLT, Nat.reduceAdd, Nat.reduceMul, Nat.reduceSub, Nat.reduceLeDiff, reduceIte, reduceCtorEq, Try.results107]
  obtain ⟨v1, hv1, hr⟩ := of_bind0 hr
  try simp only [hv1, Option.getD_some, Option.isSome_some, true_and, and_assoc]
  repeat refine gA ?_
  obtain rfl := Option.some.inj hr
  (simp (maxDischargeDepth := 8) [go_sem, -List.drop_one])
theorem f107 : FnFact Try.prog 107 T107.sp := ⟨⟨Try.f107, Try.func107, by decide, rfl⟩, v107⟩

/- martensite/field.HotAt -/
def b41_2 (a0 : List (Int)) (a1 : Int) : ((List (Bool)) × Int) → Ctl ((List (Bool)) × Int) ((List (Bool)) × Int) := fun s2 =>
  if (decide (s2.2 < (a0.length : Int))) = true then
   if 0 ≤ s2.2 ∧ s2.2 < (a0.length : Int) then
    if (s2.1.length + 1) * 1 ≤ 140737488355328 ∧ s2.1.length + 1 ≤ 9223372036854775807 then
     .next (s2.1 ++ [decide ((a0.getD s2.2.toNat default) ≥ a1)], IntKind.i64.wrap (s2.2 + 1))
     else .out none
    else .out none
   else .out (some (s2.1, 0))
def b41_3 (a0 : List (Int)) (a1 : Int) : ((List (Bool)) × Int) → Ctl ((List (Bool)) × Int) ((List (Bool)) × Int) := fun s3 =>
  if (decide (s3.2 < (a0.length : Int))) = true then
   if 0 ≤ s3.2 ∧ s3.2 < (a0.length : Int) then
    if (s3.1.length + 1) * 1 ≤ 140737488355328 ∧ s3.1.length + 1 ≤ 9223372036854775807 then
     .next (s3.1 ++ [decide ((a0.getD s3.2.toNat default) ≥ a1)], IntKind.i64.wrap (s3.2 + 1))
     else .out none
    else .out none
   else .out (some (s3.1, 0))
def b41_1 (a0 : List (Int)) (a1 : Int) : (Int) → Ctl (Int) ((List (Bool)) × Int) := fun s1 =>
  if (decide (s1 < (a0.length : Int))) = true then
   if 0 ≤ s1 ∧ s1 < (a0.length : Int) then
    bindC (r107 (a0.getD s1.toNat default)) fun v1 =>
     if (!v1) = true then
      .out ((r96 (decide ((a0.length : Int) ≤ 4)) 8).bind fun v2 =>
       if (!(decide (s1 ≥ 0))) = true → (r107 a1).isSome = true then
        (r96 ((!(decide (s1 ≥ 0))) && ((r107 a1).getD default)) 2).bind fun v3 =>
         (r87 [v2, v3]).bind fun v4 =>
          if (v4 != 0) = true then
           some ([], v4)
           else iterC (b41_2 a0 a1) 1000000000 ([], 0)
        else none)
      else .next (IntKind.i64.wrap (s1 + 1))
    else .out none
   else .out ((r96 (decide ((a0.length : Int) ≤ 4)) 8).bind fun v9 =>
    if (!(decide ((-1) ≥ 0))) = true → (r107 a1).isSome = true then
     (r96 ((!(decide ((-1) ≥ 0))) && ((r107 a1).getD default)) 2).bind fun v10 =>
      (r87 [v9, v10]).bind fun v11 =>
       if (v11 != 0) = true then
        some ([], v11)
        else iterC (b41_3 a0 a1) 1000000000 ([], 0)
     else none)
def r41 (a0 : List (Int)) (a1 : Int) : Option ((List (Bool)) × Int) :=
  iterC (b41_1 a0 a1) 1000000000 0
def T41 : TSpec ((List (Int)) × Int) where
  enc x := [.c (encF 1 d_I x.1), .c (.int .i64 x.2)]
  dec a := (decF g_I (aCell a 0 0), dInt (aCell a 1 0))
  pre x := (r41 x.1 x.2).isSome = true
  res x := [.c (.own (encF 1 d_B (((r41 x.1 x.2).getD default).1))), .c (.d (.int .i64 (((r41 x.1 x.2).getD default).2)))]
  al := false
def tb41 : Fns := lk [(87, T87.sp), (96, T96.sp), (107, T107.sp)]
theorem tb41_ok : FnsOk Try.prog tb41 := .cons f87 (.cons f96 (.cons f107 (FnsOk.nil)))
theorem tb41_87 : tb41 87 = some T87.sp := rfl
theorem tb41_96 : tb41 96 = some T96.sp := rfl
theorem tb41_107 : tb41 107 = some T107.sp := rfl
theorem v41 : Valid Try.prog 41 T41.sp := by
  refine valid_t (fn := Try.f41) (n := 46) ty_ok tb41_ok Try.func41 rfl Try.ntmps41 ?_
  rintro ⟨a0, a1⟩ hx
  obtain ⟨r, hr⟩ := Option.isSome_iff_exists.1 (show (r41 a0 a1).isSome = true from hx)
  have hres : T41.res (a0, a1) = [.c (.own (encF 1 d_B r.1)), .c (.d (.int .i64 r.2))] := by simp only [T41, hr, Option.getD_some]
  refine ⟨Nat.le_of_ble_eq_true rfl, fun stop S => ?_⟩
  rw [hres] at S
  unfold r41 at hr
  refine S.goB [2] 1000 ?_
  simp (maxSteps := 10000000) only [go_sem, tb41_87, T87, tb41_96, T96, tb41_107, T107, T41, Bool.not_true, Bool.not_false, Option.map_some, Int.reduceToNat, Nat.reduceEqDiff, Nat.reduceLT, Nat.reduceAdd, Nat.reduceMul, Nat.reduceSub, Nat.reduceLeDiff, reduceIte, reduceCtorEq, Try.results41, Try.results108, Try.results109, Try.results130]
  repeat refine gA ?_
  refine S.inl 2 [0, 1, 6] [] Try.func108 (by decide) rfl Try.ntmps108 (fun cx e => drawn_ok ty_ok tb41_ok cx e) (some 14) rfl rfl rfl rfl (Nat.le_of_ble_eq_true rfl) (Nat.le_of_ble_eq_true rfl) ?_
  simp (maxSteps := 10000000) only [go_sem, tb41_87, T87, tb41_96, T96, tb41_107, T107, T41, Bool.not_true, Bool.not_false, Option.map_some, Int.reduceToNat, Nat.reduceEqDiff, Nat.reduceLT, Nat.reduceAdd, Nat.reduceMul, Nat.reduceSub, Nat.reduceLeDiff, reduceIte, reduceCtorEq, Try.results41, Try.results108, Try.results109, Try.results130]
  repeat refine gA ?_
  intro stop1 S1
  refine S1.goB [1] 1000 ?_
  simp (maxSteps := 10000000) only [go_sem, tb41_87, T87, tb41_96, T96, tb41_107, T107, T41, Bool.not_true, Bool.not_false, Option.map_some, Int.reduceToNat, Nat.reduceEqDiff, Nat.reduceLT, Nat.reduceAdd, Nat.reduceMul, Nat.reduceSub, Nat.reduceLeDiff, reduceIte, reduceCtorEq, Try.results41, Try.results108, Try.results109, Try.results130]
  repeat refine gA ?_
  refine S1.inl 2 [4] [] Try.func130 (by decide) rfl Try.ntmps130 (fun cx e => drawn_ok ty_ok tb41_ok cx e) (some 7) rfl rfl rfl rfl (Nat.le_of_ble_eq_true rfl) (Nat.le_of_ble_eq_true rfl) ?_
  simp (maxSteps := 10000000) only [go_sem, tb41_87, T87, tb41_96, T96, tb41_107, T107, T41, Bool.not_true, Bool.not_false, Option.map_some, Int.reduceToNat, Nat.reduceEqDiff, Nat.reduceLT, Nat.reduceAdd, Nat.reduceMul, Nat.reduceSub, Nat.reduceLeDiff, reduceIte, reduceCtorEq, Try.results41, Try.results108, Try.results109, Try.results130]
  repeat refine gA ?_
  intro stop2 S2
  refine S2.goB [4] 1000 ?_
  simp (maxSteps := 10000000) only [go_sem, tb41_87, T87, tb41_96, T96, tb41_107, T107, T41, Bool.not_true, Bool.not_false, Option.map_some, Int.reduceToNat, Nat.reduceEqDiff, Nat.reduceLT, Nat.reduceAdd, Nat.reduceMul, Nat.reduceSub, Nat.reduceLeDiff, reduceIte, reduceCtorEq, Try.results41, Try.results108, Try.results109, Try.results130]
  repeat refine gA ?_
  refine S2.sees [0, 1, 7, 8] [(6, 6)] [] ?_ (Stop.iter S2 (fun s1 => ⟨[(0, .c (.d (encF 1 d_I a0))), (1, .c (.clo 109 [.ref 6 0])), (7, .c (.d (.int .i64 (a0.length : Int)))), (8, .c (.d (.int .i64 s1)))], [(6, [.clo 107 []])], []⟩) (b41_1 a0 a1) (fun q => q = r) hr rfl ?_)
  · (simp (maxDischargeDepth := 8) [go_sem, -List.drop_one])
  · intro s1 hr
    unfold b41_1 at hr
    refine S2.goB [4] 1000 ?_
    simp (maxSteps := 10000000) only [go_sem, tb41_87, T87, tb41_96, T96, tb41_107, T107, T41, Bool.not_true, Bool.not_false, Option.map_some, Int.reduceToNat, Nat.reduceEqDiff, Nat.reduceLT, Nat.reduceAdd, Nat.reduceMul, Nat.reduceSub, Nat.reduceLeDiff, reduceIte, reduceCtorEq, Try.results41, Try.results108, Try.results109, Try.results130]
    repeat refine gA ?_
    refine ⟨fun hc => ?_, fun hc => ?_⟩
    · replace hr := ifP1 hr hc
      repeat refine gA ?_
      refine S2.inl 5 [0, 1, 5, 7, 8] [.ref 6 0] Try.func109 (by decide) rfl Try.ntmps109 (fun cx e => drawn_ok ty_ok tb41_ok cx e) (some 16) rfl rfl rfl rfl (Nat.le_of_ble_eq_true rfl) (Nat.le_of_ble_eq_true rfl) ?_
      simp (maxSteps := 10000000) only [go_sem, tb41_87, T87, tb41_96, T96, tb41_107, T107, T41, Bool.not_true, Bool.not_false, Option.map_some, Int.reduceToNat, Nat.reduceEqDiff, Nat.reduceLT, Nat.reduceAdd, Nat.reduceMul, Nat.reduceSub, Nat.reduceLeDiff, reduceIte, reduceCtorEq, Try.results41, Try.results108, Try.results109, Try.results130]
      obtain ⟨hg8, hr⟩ := of_guard1 hr
      repeat refine gA ?_
      intro stop3 S3
      refine S3.goB [1] 1000 ?_
      simp (maxSteps := 10000000) only [go_sem, tb41_87, T87, tb41_96, T96, tb41_107, T107, T41, Bool.not_true, Bool.not_false, Option.map_some, Int.reduceToNat, Nat.reduceEqDiff, Nat.reduceLT, Nat.reduceAdd, Nat.reduceMul, Nat.reduceSub, Nat.reduceLeDiff, reduceIte, reduceCtorEq, Try.results41, Try.results108, Try.results109, Try.results130]
      repeat refine gA ?_
      refine S3.goB [] 1000 ?_
      simp (maxSteps := 10000000) only [go_sem, tb41_87, T87, tb41_96, T96, tb41_107, T107, T41, Bool.not_true, Bool.not_false, Option.map_some, Int.reduceToNat, Nat.reduceEqDiff, Nat.reduceLT, Nat.reduceAdd, Nat.reduceMul, Nat.reduceSub, Nat.reduceLeDiff, reduceIte, reduceCtorEq, Try.results41, Try.results108, Try.results109, Try.results130]
      obtain ⟨v1, hv1, hr⟩ := of_bind1 hr
      try simp only [hv1, Option.getD_some, Option.isSome_some, true_and, and_assoc]
      repeat refine gA ?_
      repeat refine gA ?_
      repeat refine gA ?_
      refine S2.goB [4] 1000 ?_
      simp (maxSteps := 10000000) only [go_sem, tb41_87, T87, tb41_96, T96, tb41_107, T107, T41, Bool.not_true, Bool.not_false, Option.map_some, Int.reduceToNat, Nat.reduceEqDiff, Nat.reduceLT, Nat.reduceAdd, Nat.reduceMul, Nat.reduceSub, Nat.reduceLeDiff, reduceIte, reduceCtorEq, Try.results41, Try.results108, Try.results109, Try.results130]
      repeat refine gA ?_
      refine ⟨fun hc => ?_, fun hc => ?_⟩
      · replace hr := ifP1 hr hc
        repeat refine gA ?_
        have hr := of_out0 hr
        repeat refine gA ?_
        refine S1.goB [1] 1000 ?_
        simp (maxSteps := 10000000) only [go_sem, tb41_87, T87, tb41_96, T96, tb41_107, T107, T41, Bool.not_true, Bool.not_false, Option.map_some, Int.reduceToNat, Nat.reduceEqDiff, Nat.reduceLT, Nat.reduceAdd, Nat.reduceMul, Nat.reduceSub, Nat.reduceLeDiff, reduceIte, reduceCtorEq, Try.results41, Try.results108, Try.results109, Try.results130]
        repeat refine gA ?_
        repeat refine gA ?_
        refine S.goB [2] 1000 ?_
        simp (maxSteps := 10000000) only [go_sem, tb41_87, T87, tb41_96, T96, tb41_107, T107, T41, Bool.not_true, Bool.not_false, Option.map_some, Int.reduceToNat, Nat.reduceEqDiff, Nat.reduceLT, Nat.reduceAdd, Nat.reduceMul, Nat.reduceSub, Nat.reduceLeDiff, reduceIte, reduceCtorEq, Try.results41, Try.results108, Try.results109, Try.results130]
        obtain ⟨v2, hv2, hr⟩ := of_bind0 hr
        obtain ⟨hg7, hr⟩ := of_guard0 hr
        obtain ⟨v3, hv3, hr⟩ := of_bind0 hr
        obtain ⟨v4, hv4, hr⟩ := of_bind0 hr
        try simp only [hv2, hv3, hv4, Option.getD_some, Option.isSome_some, true_and, and_assoc]
        repeat (first | refine gG hg7 ?_ | refine gA ?_ | refine gB ?_)
        refine ⟨fun hc => ?_, fun hc => ?_⟩
        · replace hr := ifP hr hc
          repeat refine gA ?_
          obtain rfl := Option.some.inj hr
          (simp (maxDischargeDepth := 8) [go_sem, -List.drop_one])
        · replace hr := ifN hr hc
          repeat refine gA ?_
          refine S.own0 9 1000900 1 rfl rfl ?_
          refine S.sees [1, 9, 32, 33, 34] [] [(1000900, 1000900)] ?_ (Stop.iter S (fun s2 => ⟨[(1, .c (.d (.int .i64 a1))), (9, .c (.own 1000900)), (32, .c (.d (encF 1 d_I a0))), (33, .c (.d (.int .i64 (a0.length : Int)))), (34, .c (.d (.int .i64 s2.2)))], [], [(1000900, .owned (encF 1 d_B s2.1))]⟩) (b41_2 a0 a1) (fun q => q = r) hr rfl ?_)
          · (simp (maxDischargeDepth := 8) [go_sem, -List.drop_one])
          · intro s2 hr
            unfold b41_2 at hr
            refine S.goB [2] 1000 ?_
            simp (maxSteps := 10000000) only [go_sem, tb41_87, T87, tb41_96, T96, tb41_107, T107, T41, Bool.not_true, Bool.not_false, Option.map_some, Int.reduceToNat, Nat.reduceEqDiff, Nat.reduceLT, Nat.reduceAdd, Nat.reduceMul, Nat.reduceSub, Nat.reduceLeDiff, reduceIte, reduceCtorEq, Try.results41, Try.results108, Try.results109, Try.results130]
            repeat refine gA ?_
            refine ⟨fun hc => ?_, fun hc => ?_⟩
            · replace hr := ifP1 hr hc
              obtain ⟨hg5, hr⟩ := of_guard1 hr
              obtain ⟨hg6, hr⟩ := of_guard1 hr
              repeat refine gA ?_
              refine S.sees [1, 9, 32, 33, 34] [] [(43, 1000900)] ?_ hr
              (simp (maxDischargeDepth := 8) [go_sem, -List.drop_one])
            · replace hr := ifN1 hr hc
              repeat refine gA ?_
              have hr := of_out0 hr
              repeat refine gA ?_
              obtain rfl := Option.some.inj hr
              (simp (maxDischargeDepth := 8) [go_sem, -List.drop_one])
      · replace hr := ifN1 hr hc
        repeat refine gA ?_
        refine S2.sees [0, 1, 7, 8] [(6, 6)] [] ?_ hr
        (simp (maxDischargeDepth := 8) [go_sem, -List.drop_one])
    · replace hr := ifN1 hr hc
      repeat refine gA ?_
      have hr := of_out0 hr
      repeat refine gA ?_
      repeat refine gA ?_
      refine S1.goB [1] 1000 ?_
      simp (maxSteps := 10000000) only [go_sem, tb41_87, T87, tb41_96, T96, tb41_107, T107, T41, Bool.not_true, Bool.not_false, Option.map_some, Int.reduceToNat, Nat.reduceEqDiff, Nat.reduceLT, Nat.reduceAdd, Nat.reduceMul, Nat.reduceSub, Nat.reduceLeDiff, reduceIte, reduceCtorEq, Try.results41, Try.results108, Try.results109, Try.results130]
      repeat refine gA ?_
      repeat refine gA ?_
      refine S.goB [2] 1000 ?_
      simp (maxSteps := 10000000) only [go_sem, tb41_87, T87, tb41_96, T96, tb41_107, T107, T41, Bool.not_true, Bool.not_false, Option.map_some, Int.reduceToNat, Nat.reduceEqDiff, Nat.reduceLT, Nat.reduceAdd, Nat.reduceMul, Nat.reduceSub, Nat.reduceLeDiff, reduceIte, reduceCtorEq, Try.results41, Try.results108, Try.results109, Try.results130]
      obtain ⟨v9, hv9, hr⟩ := of_bind0 hr
      obtain ⟨hg14, hr⟩ := of_guard0 hr
      obtain ⟨v10, hv10, hr⟩ := of_bind0 hr
      obtain ⟨v11, hv11, hr⟩ := of_bind0 hr
      try simp only [hv9, hv10, hv11, Option.getD_some, Option.isSome_some, true_and, and_assoc]
      repeat (first | refine gG hg14 ?_ | refine gA ?_ | refine gB ?_)
      refine ⟨fun hc => ?_, fun hc => ?_⟩
      · replace hr := ifP hr hc
        repeat refine gA ?_
        obtain rfl := Option.some.inj hr
        (simp (maxDischargeDepth := 8) [go_sem, -List.drop_one])
      · replace hr := ifN hr hc
        repeat refine gA ?_
        refine S.own0 9 1000900 1 rfl rfl ?_
        refine S.sees [1, 9, 32, 33, 34] [] [(1000900, 1000900)] ?_ (Stop.iter S (fun s3 => ⟨[(1, .c (.d (.int .i64 a1))), (9, .c (.own 1000900)), (32, .c (.d (encF 1 d_I a0))), (33, .c (.d (.int .i64 (a0.length : Int)))), (34, .c (.d (.int .i64 s3.2)))], [], [(1000900, .owned (encF 1 d_B s3.1))]⟩) (b41_3 a0 a1) (fun q => q = r) hr rfl ?_)
        · (simp (maxDischargeDepth := 8) [go_sem, -List.drop_one])
        · intro s3 hr
          unfold b41_3 at hr
          refine S.goB [2] 1000 ?_
          simp (maxSteps := 10000000) only [go_sem, tb41_87, T87, tb41_96, T96, tb41_107, T107, T41, Bool.not_true, Bool.not_false, Option.map_some, Int.reduceToNat, Nat.reduceEqDiff, Nat.reduceLT, Nat.reduceAdd, Nat.reduceMul, Nat.reduceSub, Nat.reduceLeDiff, reduceIte, reduceCtorEq, Try.results41, Try.results108, Try.results109, Try.results130]
          repeat refine gA ?_
          refine ⟨fun hc => ?_, fun hc => ?_⟩
          · replace hr := ifP1 hr hc
            obtain ⟨hg12, hr⟩ := of_guard1 hr
            obtain ⟨hg13, hr⟩ := of_guard1 hr
            repeat refine gA ?_
            refine S.sees [1, 9, 32, 33, 34] [] [(43, 1000900)] ?_ hr
            (simp (maxDischargeDepth := 8) [go_sem, -List.drop_one])
          · replace hr := ifN1 hr hc
            repeat refine gA ?_
            have hr := of_out0 hr
            repeat refine gA ?_
            obtain rfl := Option.some.inj hr
            (simp (maxDischargeDepth := 8) [go_sem, -List.drop_one])
theorem f41 : FnFact Try.prog 41 T41.sp := ⟨⟨Try.f41, Try.func41, by decide, rfl⟩, v41⟩

/- martensite/martensiteref02.HotErr -/
def b43_1 (a0 : List (Int)) (a1 : Int) : (Int) → Ctl (Int) (Int) := fun s1 =>
  if (decide (s1 < (a0.length : Int))) = true then
   if 0 ≤ s1 ∧ s1 < (a0.length : Int) then
    bindC (r33 (a0.getD s1.toNat default) 1 3000) fun v1 =>
     if (!v1) = true then
      .out (some 2)
      else .next (IntKind.i64.wrap (s1 + 1))
    else .out none
   else .out ((r33 a1 1 3000).bind fun v3 =>
    if (!v3) = true then
     some 2
     else some 0)
def r43 (a0 : List (Int)) (a1 : Int) : Option (Int) :=
  if (decide ((a0.length : Int) > 4)) = true then
   some 8
   else iterC (b43_1 a0 a1) 1000000000 0
def T43 : TSpec ((List (Int)) × Int) where
  enc x := [.c (encF 1 d_I x.1), .c (.int .i64 x.2)]
  dec a := (decF g_I (aCell a 0 0), dInt (aCell a 1 0))
  pre x := (r43 x.1 x.2).isSome = true
  res x := [.c (.d (.int .i64 ((r43 x.1 x.2).getD default)))]
  al := false
def tb43 : Fns := lk [(33, T33.sp)]
theorem tb43_ok : FnsOk Try.prog tb43 := .cons f33 (FnsOk.nil)
theorem tb43_33 : tb43 33 = some T33.sp := rfl
theorem v43 : Valid Try.prog 43 T43.sp := by
  refine valid_t (fn := Try.f43) (n := 24) ty_ok tb43_ok Try.func43 rfl Try.ntmps43 ?_
  rintro ⟨a0, a1⟩ hx
  obtain ⟨r, hr⟩ := Option.isSome_iff_exists.1 (show (r43 a0 a1).isSome = true from hx)
  have hres : T43.res (a0, a1) = [.c (.d (.int .i64 r))] := by simp only [T43, hr, Option.getD_some]
  refine ⟨Nat.le_of_ble_eq_true rfl, fun stop S => ?_⟩
  rw [hres] at S
  unfold r43 at hr
  refine S.goB [] 1000 ?_
  simp (maxSteps := 10000000) only [go_sem, tb43_33, T33, T43, Bool.not_true, Bool.not_false, Option.map_some, Int.reduceToNat, Nat.reduceEqDiff, Nat.reduceLT, Nat.reduceAdd, Nat.reduceMul, Nat.reduceSub, Nat.reduceLeDiff, reduceIte, reduceCtorEq, Try.results43]
  repeat refine gA ?_
  refine ⟨fun hc => ?_, fun hc => ?_⟩
  · replace hr := ifP hr hc
    repeat refine gA ?_
    obtain rfl := Option.some.inj hr
    (simp (maxDischargeDepth := 8) [go_sem, -List.drop_one])
  · replace hr := ifN hr hc
    repeat refine gA ?_
    refine S.sees [0, 1, 5] [] [] ?_ (Stop.iter S (fun s1 => ⟨[(0, .c (.d (encF 1 d_I a0))), (1, .c (.d (.int .i64 a1))), (5, .c (.d (.int .i64 s1)))], [], []⟩) (b43_1 a0 a1) (fun q => q = r) hr rfl ?_)
    · (simp (maxDischargeDepth := 8) [go_sem, -List.drop_one])
    · intro s1 hr
      unfold b43_1 at hr
      refine S.goB [] 1000 ?_
      simp (maxSteps := 10000000) only [go_sem, tb43_33, T33, T43, Bool.not_true, Bool.not_false, Option.map_some, Int.reduceToNat, Nat.reduceEqDiff, Nat.reduceLT, Nat.reduceAdd, Nat.reduceMul, Nat.reduceSub, Nat.reduceLeDiff, reduceIte, reduceCtorEq, Try.results43]
      repeat refine gA ?_
      refine ⟨fun hc => ?_, fun hc => ?_⟩
      · replace hr := ifP1 hr hc
        obtain ⟨hg2, hr⟩ := of_guard1 hr
        obtain ⟨v1, hv1, hr⟩ := of_bind1 hr
        try simp only [hv1, Option.getD_some, Option.isSome_some, true_and, and_assoc]
        repeat refine gA ?_
        refine ⟨fun hc => ?_, fun hc => ?_⟩
        · replace hr := ifP1 hr hc
          repeat refine gA ?_
          have hr := of_out0 hr
          obtain rfl := Option.some.inj hr
          (simp (maxDischargeDepth := 8) [go_sem, -List.drop_one])
        · replace hr := ifN1 hr hc
          repeat refine gA ?_
          refine S.sees [0, 1, 5] [] [] ?_ hr
          (simp (maxDischargeDepth := 8) [go_sem, -List.drop_one])
      · replace hr := ifN1 hr hc
        repeat refine gA ?_
        have hr := of_out0 hr
        obtain ⟨v3, hv3, hr⟩ := of_bind0 hr
        try simp only [hv3, Option.getD_some, Option.isSome_some, true_and, and_assoc]
        repeat refine gA ?_
        refine ⟨fun hc => ?_, fun hc => ?_⟩
        · replace hr := ifP hr hc
          repeat refine gA ?_
          obtain rfl := Option.some.inj hr
          (simp (maxDischargeDepth := 8) [go_sem, -List.drop_one])
        · replace hr := ifN hr hc
          repeat refine gA ?_
          obtain rfl := Option.some.inj hr
          (simp (maxDischargeDepth := 8) [go_sem, -List.drop_one])
theorem f43 : FnFact Try.prog 43 T43.sp := ⟨⟨Try.f43, Try.func43, by decide, rfl⟩, v43⟩

/- martensite/martensiteref02.Hot -/
def b45_1 (a0 : List (Int)) (a1 : Int) : ((List (Bool)) × Int) → Ctl ((List (Bool)) × Int) ((List (Bool))) := fun s1 =>
  if (decide (s1.2 < (a0.length : Int))) = true then
   if 0 ≤ s1.2 ∧ s1.2 < (a0.length : Int) then
    if (s1.1.length + 1) * 1 ≤ 140737488355328 ∧ s1.1.length + 1 ≤ 9223372036854775807 then
     .next (s1.1 ++ [decide ((a0.getD s1.2.toNat default) ≥ a1)], IntKind.i64.wrap (s1.2 + 1))
     else .out none
    else .out none
   else .out (some s1.1)
def r45 (a0 : List (Int)) (a1 : Int) : Option ((List (Bool))) :=
  iterC (b45_1 a0 a1) 1000000000 ([], 0)
def T45 : TSpec ((List (Int)) × Int) where
  enc x := [.c (encF 1 d_I x.1), .c (.int .i64 x.2)]
  dec a := (decF g_I (aCell a 0 0), dInt (aCell a 1 0))
  pre x := (r45 x.1 x.2).isSome = true
  res x := [.c (.own (encF 1 d_B ((r45 x.1 x.2).getD default)))]
  al := false
def tb45 : Fns := lk []
theorem tb45_ok : FnsOk Try.prog tb45 := FnsOk.nil
theorem v45 : Valid Try.prog 45 T45.sp := by
  refine valid_t (fn := Try.f45) (n := 23) ty_ok tb45_ok Try.func45 rfl Try.ntmps45 ?_
  rintro ⟨a0, a1⟩ hx
  obtain ⟨r, hr⟩ := Option.isSome_iff_exists.1 (show (r45 a0 a1).isSome = true from hx)
  have hres : T45.res (a0, a1) = [.c (.own (encF 1 d_B r))] := by simp only [T45, hr, Option.getD_some]
  refine ⟨Nat.le_of_ble_eq_true rfl, fun stop S => ?_⟩
  rw [hres] at S
  unfold r45 at hr
  refine S.goB [] 1000 ?_
  simp (maxSteps := 10000000) only [go_sem, T45, Bool.not_true, Bool.not_false, Option.map_some, Int.reduceToNat, Nat.reduceEqDiff, Nat.reduceLT, Nat.reduceAdd, Nat.reduceMul, Nat.reduceSub, Nat.reduceLeDiff, reduceIte, reduceCtorEq, Try.results45]
  repeat refine gA ?_
  refine S.own0 5 1000500 1 rfl rfl ?_
  refine S.sees [0, 1, 5, 6] [] [(1000500, 1000500)] ?_ (Stop.iter S (fun s1 => ⟨[(0, .c (.d (encF 1 d_I a0))), (1, .c (.d (.int .i64 a1))), (5, .c (.own 1000500)), (6, .c (.d (.int .i64 s1.2)))], [], [(1000500, .owned (encF 1 d_B s1.1))]⟩) (b45_1 a0 a1) (fun q => q = r) hr rfl ?_)
  · (simp (maxDischargeDepth := 8) [go_sem, -List.drop_one])
  · intro s1 hr
    unfold b45_1 at hr
    refine S.goB [] 1000 ?_
    simp (maxSteps := 10000000) only [go_sem, T45, Bool.not_true, Bool.not_false, Option.map_some, Int.reduceToNat, Nat.reduceEqDiff, Nat.reduceLT, Nat.reduceAdd, Nat.reduceMul, Nat.reduceSub, Nat.reduceLeDiff, reduceIte, reduceCtorEq, Try.results45]
    repeat refine gA ?_
    refine ⟨fun hc => ?_, fun hc => ?_⟩
    · replace hr := ifP1 hr hc
      obtain ⟨hg1, hr⟩ := of_guard1 hr
      obtain ⟨hg2, hr⟩ := of_guard1 hr
      repeat refine gA ?_
      refine S.sees [0, 1, 5, 6] [] [(21, 1000500)] ?_ hr
      (simp (maxDischargeDepth := 8) [go_sem, -List.drop_one])
    · replace hr := ifN1 hr hc
      repeat refine gA ?_
      have hr := of_out0 hr
      repeat refine gA ?_
      obtain rfl := Option.some.inj hr
      (simp (maxDischargeDepth := 8) [go_sem, -List.drop_one])
theorem f45 : FnFact Try.prog 45 T45.sp := ⟨⟨Try.f45, Try.func45, by decide, rfl⟩, v45⟩

/- martensite/martensiteref02.SameBools -/
def b44_1 (a0 : List (Bool)) (a1 : List (Bool)) : (Int) → Ctl (Int) (Bool) := fun s1 =>
  if (decide (s1 < (a0.length : Int))) = true then
   if 0 ≤ s1 ∧ s1 < (a0.length : Int) then
    if 0 ≤ s1 ∧ s1 < (a1.length : Int) then
     if (!((a0.getD s1.toNat default) == (a1.getD s1.toNat default))) = true then
      .out (some false)
      else .next (IntKind.i64.wrap (s1 + 1))
     else .out none
    else .out none
   else .out (some true)
def r44 (a0 : List (Bool)) (a1 : List (Bool)) : Option (Bool) :=
  if ((a0.length : Int) != (a1.length : Int)) = true then
   some false
   else iterC (b44_1 a0 a1) 1000000000 0
def T44 : TSpec ((List (Bool)) × (List (Bool))) where
  enc x := [.c (encF 1 d_B x.1), .c (encF 1 d_B x.2)]
  dec a := (decF g_B (aCell a 0 0), decF g_B (aCell a 1 0))
  pre x := (r44 x.1 x.2).isSome = true
  res x := [.c (.d (.bool ((r44 x.1 x.2).getD default)))]
  al := false
def tb44 : Fns := lk []
theorem tb44_ok : FnsOk Try.prog tb44 := FnsOk.nil
theorem v44 : Valid Try.prog 44 T44.sp := by
  refine valid_t (fn := Try.f44) (n := 26) ty_ok tb44_ok Try.func44 rfl Try.ntmps44 ?_
  rintro ⟨a0, a1⟩ hx
  obtain ⟨r, hr⟩ := Option.isSome_iff_exists.1 (show (r44 a0 a1).isSome = true from hx)
  have hres : T44.res (a0, a1) = [.c (.d (.bool r))] := by simp only [T44, hr, Option.getD_some]
  refine ⟨Nat.le_of_ble_eq_true rfl, fun stop S => ?_⟩
  rw [hres] at S
  unfold r44 at hr
  refine S.goB [] 1000 ?_
  simp (maxSteps := 10000000) only [go_sem, T44, Bool.not_true, Bool.not_false, Option.map_some, Int.reduceToNat, Nat.reduceEqDiff, Nat.reduceLT, Nat.reduceAdd, Nat.reduceMul, Nat.reduceSub, Nat.reduceLeDiff, reduceIte, reduceCtorEq, Try.results44]
  repeat refine gA ?_
  refine ⟨fun hc => ?_, fun hc => ?_⟩
  · replace hr := ifP hr hc
    repeat refine gA ?_
    obtain rfl := Option.some.inj hr
    (simp (maxDischargeDepth := 8) [go_sem, -List.drop_one])
  · replace hr := ifN hr hc
    repeat refine gA ?_
    refine S.sees [0, 1, 5] [] [] ?_ (Stop.iter S (fun s1 => ⟨[(0, .c (.d (encF 1 d_B a0))), (1, .c (.d (encF 1 d_B a1))), (5, .c (.d (.int .i64 s1)))], [], []⟩) (b44_1 a0 a1) (fun q => q = r) hr rfl ?_)
    · (simp (maxDischargeDepth := 8) [go_sem, -List.drop_one])
    · intro s1 hr
      unfold b44_1 at hr
      refine S.goB [] 1000 ?_
      simp (maxSteps := 10000000) only [go_sem, T44, Bool.not_true, Bool.not_false, Option.map_some, Int.reduceToNat, Nat.reduceEqDiff, Nat.reduceLT, Nat.reduceAdd, Nat.reduceMul, Nat.reduceSub, Nat.reduceLeDiff, reduceIte, reduceCtorEq, Try.results44]
      repeat refine gA ?_
      refine ⟨fun hc => ?_, fun hc => ?_⟩
      · replace hr := ifP1 hr hc
        obtain ⟨hg1, hr⟩ := of_guard1 hr
        obtain ⟨hg2, hr⟩ := of_guard1 hr
        repeat refine gA ?_
        refine ⟨fun hc => ?_, fun hc => ?_⟩
        · replace hr := ifP1 hr hc
          repeat refine gA ?_
          have hr := of_out0 hr
          obtain rfl := Option.some.inj hr
          (simp (maxDischargeDepth := 8) [go_sem, -List.drop_one])
        · replace hr := ifN1 hr hc
          repeat refine gA ?_
          refine S.sees [0, 1, 5] [] [] ?_ hr
          (simp (maxDischargeDepth := 8) [go_sem, -List.drop_one])
      · replace hr := ifN1 hr hc
        repeat refine gA ?_
        have hr := of_out0 hr
        repeat refine gA ?_
        obtain rfl := Option.some.inj hr
        (simp (maxDischargeDepth := 8) [go_sem, -List.drop_one])
theorem f44 : FnFact Try.prog 44 T44.sp := ⟨⟨Try.f44, Try.func44, by decide, rfl⟩, v44⟩
end Go.Proofs.Ytagnplbfdaifkaa

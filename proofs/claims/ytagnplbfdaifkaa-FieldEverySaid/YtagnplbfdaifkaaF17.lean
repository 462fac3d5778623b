/- Contracts of functions, written by wip/dec. -/
import Derived.Test.YtagnplbfdaifkaaF00
import Derived.Test.YtagnplbfdaifkaaF01
import Derived.Test.YtagnplbfdaifkaaF02
import Derived.Test.YtagnplbfdaifkaaF05
import Derived.Test.YtagnplbfdaifkaaF06
import Derived.Test.YtagnplbfdaifkaaF12
set_option linter.unusedVariables false
set_option linter.unusedSimpArgs false
set_option maxHeartbeats 4000000
set_option maxRecDepth 20000
namespace Go.Proofs.Ytagnplbfdaifkaa
open Go.Abs
/- martensite/field.ShareOf -/
def r46 (a0_0 : Int) (a0_1 : List (Int × Int × Int)) (a1_0 : Int) (a1_1 : List (Bool)) (a2 : Int) : Option (Int × Int × Int) :=
  (r83 a0_0 a0_1 a1_0 a1_1).bind fun v1 =>
   (r88 a0_0 a0_1 a2).bind fun v2 =>
    (r87 [v1.2.2, v2]).bind fun v3 =>
     if (v3 != 0) = true then
      some (0, 0, v3)
      else (r101 v1.1 v1.2.1).bind fun v4 =>
       if 0 ≤ a2 ∧ a2 < (v4.1.length : Int) then
        (r110 [(v4.1.getD a2.toNat default), v4.2]).bind fun v5 =>
         if 0 ≤ a2 ∧ a2 < (v4.1.length : Int) then
          if v5 ≠ 0 then
           if v5 ≠ 0 then
            if ((decide ((IntKind.i64.wrap ((v4.1.getD a2.toNat default).tdiv v5)) > 1000000000)) || (decide ((IntKind.i64.wrap (v4.2.tdiv v5)) > 1000000000))) = true then
             some (0, 0, 8)
             else some (IntKind.i64.wrap ((v4.1.getD a2.toNat default).tdiv v5), IntKind.i64.wrap (v4.2.tdiv v5), 0)
            else none
           else none
          else none
        else none
def T46 : TSpec (Int × (List (Int × Int × Int)) × Int × (List (Bool)) × Int) where
  enc x := [.agg [.int .i64 x.1, encF 3 d_III x.2.1], .agg [.int .i64 x.2.2.1, encF 1 d_B x.2.2.2.1], .c (.int .i64 x.2.2.2.2)]
  dec a := (dInt (aCell a 0 0), decF g_III (aCell a 0 1), dInt (aCell a 1 0), decF g_B (aCell a 1 1), dInt (aCell a 2 0))
  pre x := (r46 x.1 x.2.1 x.2.2.1 x.2.2.2.1 x.2.2.2.2).isSome = true
  res x := [.agg [.d (.int .i64 (((r46 x.1 x.2.1 x.2.2.1 x.2.2.2.1 x.2.2.2.2).getD default).1)), .d (.int .i64 (((r46 x.1 x.2.1 x.2.2.1 x.2.2.2.1 x.2.2.2.2).getD default).2.1))], .c (.d (.int .i64 (((r46 x.1 x.2.1 x.2.2.1 x.2.2.2.1 x.2.2.2.2).getD default).2.2)))]
  al := false
def tb46 : Fns := lk [(83, T83.sp), (87, T87.sp), (88, T88.sp), (101, T101.sp), (110, T110.sp)]
theorem tb46_ok : FnsOk Try.prog tb46 := .cons f83 (.cons f87 (.cons f88 (.cons f101 (.cons f110 (FnsOk.nil)))))
theorem tb46_83 : tb46 83 = some T83.sp := rfl
theorem tb46_87 : tb46 87 = some T87.sp := rfl
theorem tb46_88 : tb46 88 = some T88.sp := rfl
theorem tb46_101 : tb46 101 = some T101.sp := rfl
theorem tb46_110 : tb46 110 = some T110.sp := rfl
theorem v46 : Valid Try.prog 46 T46.sp := by
  refine valid_t (fn := Try.f46) (n := 62) ty_ok tb46_ok Try.func46 rfl Try.ntmps46 ?_
  rintro ⟨a0_0, a0_1, a1_0, a1_1, a2⟩ hx
  obtain ⟨r, hr⟩ := Option.isSome_iff_exists.1 (show (r46 a0_0 a0_1 a1_0 a1_1 a2).isSome = true from hx)
  have hres : T46.res (a0_0, a0_1, a1_0, a1_1, a2) = [.agg [.d (.int .i64 r.1), .d (.int .i64 r.2.1)], .c (.d (.int .i64 r.2.2))] := by simp only [T46, hr, Option.getD_some]
  refine ⟨Nat.le_of_ble_eq_true rfl, fun stop S => ?_⟩
  rw [hres] at S
  unfold r46 at hr
  refine S.goB [] 1000 ?_
  simp (maxSteps := 10000000) only [go_sem, tb46_83, T83, tb46_87, T87, tb46_88, T88, tb46_101, T101, tb46_110, T110, T46, Bool.not_true, Bool.not_false, Option.map_some, Int.reduceToNat, Nat.reduceEqDiff, Nat.reduceLT, Nat.reduceAdd, Nat.reduceMul, Nat.reduceSub, Nat.reduceLeDiff, reduceIte, reduceCtorEq, Try.results46]
  obtain ⟨v1, hv1, hr⟩ := of_bind0 hr
  obtain ⟨v2, hv2, hr⟩ := of_bind0 hr
  obtain ⟨v3, hv3, hr⟩ := of_bind0 hr
  try simp only [hv1, hv2, hv3, Option.getD_some, Option.isSome_some, true_and, and_assoc]
  repeat refine gA ?_
  refine ⟨fun hc => ?_, fun hc => ?_⟩
  · replace hr := ifP hr hc
    repeat refine gA ?_
    obtain rfl := Option.some.inj hr
    (simp (maxDischargeDepth := 8) [go_sem, -List.drop_one])
  · replace hr := ifN hr hc
    obtain ⟨v4, hv4, hr⟩ := of_bind0 hr
    obtain ⟨hg6, hr⟩ := of_guard0 hr
    obtain ⟨v5, hv5, hr⟩ := of_bind0 hr
    obtain ⟨hg7, hr⟩ := of_guard0 hr
    obtain ⟨hg8, hr⟩ := of_guard0 hr
    obtain ⟨hg9, hr⟩ := of_guard0 hr
    try simp only [hv4, hv5, Option.getD_some, Option.isSome_some, true_and, and_assoc]
    repeat (first | refine gA ?_ | refine gB ?_)
    refine ⟨fun hc => ?_, fun hc => ?_⟩
    · replace hr := ifP hr hc
      repeat refine gA ?_
      obtain rfl := Option.some.inj hr
      (simp (maxDischargeDepth := 8) [go_sem, -List.drop_one])
    · replace hr := ifN hr hc
      repeat refine gA ?_
      obtain rfl := Option.some.inj hr
      (simp (maxDischargeDepth := 8) [go_sem, -List.drop_one])
theorem f46 : FnFact Try.prog 46 T46.sp := ⟨⟨Try.f46, Try.func46, by decide, rfl⟩, v46⟩

/- martensite/martensitebase.GNorm -/
def r111 (a0_0 : Int) (a0_1 : Int) : Option (Int) :=
  some (IntKind.i64.wrap ((IntKind.i64.wrap (a0_0 * a0_0)) + (IntKind.i64.wrap (a0_1 * a0_1))))
def T111 : TSpec (Int × Int) where
  enc x := [.agg [.int .i64 x.1, .int .i64 x.2]]
  dec a := (dInt (aCell a 0 0), dInt (aCell a 0 1))
  pre x := (r111 x.1 x.2).isSome = true
  res x := [.c (.d (.int .i64 ((r111 x.1 x.2).getD default)))]
  al := false
def tb111 : Fns := lk []
theorem tb111_ok : FnsOk Try.prog tb111 := FnsOk.nil
theorem v111 : Valid Try.prog 111 T111.sp := by
  refine valid_t (fn := Try.f111) (n := 14) ty_ok tb111_ok Try.func111 rfl Try.ntmps111 ?_
  rintro ⟨a0_0, a0_1⟩ hx
  obtain ⟨r, hr⟩ := Option.isSome_iff_exists.1 (show (r111 a0_0 a0_1).isSome = true from hx)
  have hres : T111.res (a0_0, a0_1) = [.c (.d (.int .i64 r))] := by simp only [T111, hr, Option.getD_some]
  refine ⟨Nat.le_of_ble_eq_true rfl, fun stop S => ?_⟩
  rw [hres] at S
  unfold r111 at hr
  refine S.goB [] 1000 ?_
  simp (maxSteps := 10000000) only [go_sem, T111, Bool.not_true, Bool.not_false, Option.map_some, Int.reduceToNat, Nat.reduceEqDiff, Nat.reduceLT, Nat.reduceAdd, Nat.reduceMul, Nat.reduceSub, Nat.reduceLeDiff, reduceIte, reduceCtorEq, Try.results111]
  repeat refine gA ?_
  obtain rfl := Option.some.inj hr
  (simp (maxDischargeDepth := 8) [go_sem, -List.drop_one])
theorem f111 : FnFact Try.prog 111 T111.sp := ⟨⟨Try.f111, Try.func111, by decide, rfl⟩, v111⟩

/- martensite/martensiteref02.Powers -/
def b47_1 (a0_1 : List (Int × Int × Int)) (v1 : (List (Int × Int)) × (List (Int × Int))) : ((List (Int)) × Int) → Ctl ((List (Int)) × Int) ((List (Int))) := fun s1 =>
  if (decide (s1.2 < (a0_1.length : Int))) = true then
   if 0 ≤ s1.2 ∧ s1.2 < (a0_1.length : Int) then
    if 0 ≤ IntKind.i64.wrap (s1.2 + 1) ∧ IntKind.i64.wrap (s1.2 + 1) < (v1.1.length : Int) then
     bindC (r111 ((v1.1.getD (IntKind.i64.wrap (s1.2 + 1)).toNat default).1) ((v1.1.getD (IntKind.i64.wrap (s1.2 + 1)).toNat default).2)) fun v2 =>
      if (s1.1.length + 1) * 8 ≤ 140737488355328 ∧ s1.1.length + 1 ≤ 9223372036854775807 then
       .next (s1.1 ++ [IntKind.i64.wrap (((a0_1.getD s1.2.toNat default).1) * v2)], IntKind.i64.wrap (s1.2 + 1))
       else .out none
     else .out none
    else .out none
   else .out (some s1.1)
def r47 (a0_0 : Int) (a0_1 : List (Int × Int × Int)) (a1_0 : Int) (a1_1 : List (Bool)) : Option ((List (Int))) :=
  (r56 a0_0 a0_1 a1_0 a1_1).bind fun v1 =>
   iterC (b47_1 a0_1 v1) 1000000000 ([], 0)
def T47 : TSpec (Int × (List (Int × Int × Int)) × Int × (List (Bool))) where
  enc x := [.agg [.int .i64 x.1, encF 3 d_III x.2.1], .agg [.int .i64 x.2.2.1, encF 1 d_B x.2.2.2]]
  dec a := (dInt (aCell a 0 0), decF g_III (aCell a 0 1), dInt (aCell a 1 0), decF g_B (aCell a 1 1))
  pre x := (r47 x.1 x.2.1 x.2.2.1 x.2.2.2).isSome = true
  res x := [.c (.own (encF 1 d_I ((r47 x.1 x.2.1 x.2.2.1 x.2.2.2).getD default)))]
  al := false
def tb47 : Fns := lk [(56, T56.sp), (111, T111.sp)]
theorem tb47_ok : FnsOk Try.prog tb47 := .cons f56 (.cons f111 (FnsOk.nil))
theorem tb47_56 : tb47 56 = some T56.sp := rfl
theorem tb47_111 : tb47 111 = some T111.sp := rfl
theorem v47 : Valid Try.prog 47 T47.sp := by
  refine valid_t (fn := Try.f47) (n := 39) ty_ok tb47_ok Try.func47 rfl Try.ntmps47 ?_
  rintro ⟨a0_0, a0_1, a1_0, a1_1⟩ hx
  obtain ⟨r, hr⟩ := Option.isSome_iff_exists.1 (show (r47 a0_0 a0_1 a1_0 a1_1).isSome = true from hx)
  have hres : T47.res (a0_0, a0_1, a1_0, a1_1) = [.c (.own (encF 1 d_I r))] := by simp only [T47, hr, Option.getD_some]
  refine ⟨Nat.le_of_ble_eq_true rfl, fun stop S => ?_⟩
  rw [hres] at S
  unfold r47 at hr
  refine S.goB [] 1000 ?_
  simp (maxSteps := 10000000) only [go_sem, tb47_56, T56, tb47_111, T111, T47, Bool.not_true, Bool.not_false, Option.map_some, Int.reduceToNat, Nat.reduceEqDiff, Nat.reduceLT, Nat.reduceAdd, Nat.reduceMul, Nat.reduceSub, Nat.reduceLeDiff, reduceIte, reduceCtorEq, Try.results47]
  obtain ⟨v1, hv1, hr⟩ := of_bind0 hr
  try simp only [hv1, Option.getD_some, Option.isSome_some, true_and, and_assoc]
  repeat refine gA ?_
  refine S.own0 7 1000700 1 rfl rfl ?_
  refine S.sees [2, 5, 7, 8] [(2, 2)] [(1000700, 1000700), (12, 12)] ?_ (Stop.iter S (fun s1 => ⟨[(2, .c (.ref 2 0)), (5, .c (.own 12)), (7, .c (.own 1000700)), (8, .c (.d (.int .i64 s1.2)))], [(2, [.d (.int .i64 a0_0), .d (encF 3 d_III a0_1)])], [(1000700, .owned (encF 1 d_I s1.1)), (12, .owned (encF 2 d_II v1.1))]⟩) (b47_1 a0_1 v1) (fun q => q = r) hr rfl ?_)
  · (simp (maxDischargeDepth := 8) [go_sem, -List.drop_one])
  · intro s1 hr
    unfold b47_1 at hr
    refine S.goB [] 1000 ?_
    simp (maxSteps := 10000000) only [go_sem, tb47_56, T56, tb47_111, T111, T47, Bool.not_true, Bool.not_false, Option.map_some, Int.reduceToNat, Nat.reduceEqDiff, Nat.reduceLT, Nat.reduceAdd, Nat.reduceMul, Nat.reduceSub, Nat.reduceLeDiff, reduceIte, reduceCtorEq, Try.results47]
    repeat refine gA ?_
    refine ⟨fun hc => ?_, fun hc => ?_⟩
    · replace hr := ifP1 hr hc
      obtain ⟨hg3, hr⟩ := of_guard1 hr
      obtain ⟨hg4, hr⟩ := of_guard1 hr
      obtain ⟨v2, hv2, hr⟩ := of_bind1 hr
      obtain ⟨hg5, hr⟩ := of_guard1 hr
      try simp only [hv2, Option.getD_some, Option.isSome_some, true_and, and_assoc]
      repeat refine gA ?_
      refine S.sees [2, 5, 7, 8] [(2, 2)] [(37, 1000700), (12, 12)] ?_ hr
      (simp (maxDischargeDepth := 8) [go_sem, -List.drop_one])
    · replace hr := ifN1 hr hc
      repeat refine gA ?_
      have hr := of_out0 hr
      repeat refine gA ?_
      obtain rfl := Option.some.inj hr
      (simp (maxDischargeDepth := 8) [go_sem, -List.drop_one])
theorem f47 : FnFact Try.prog 47 T47.sp := ⟨⟨Try.f47, Try.func47, by decide, rfl⟩, v47⟩

/- martensite/martensiteref02.Sum -/
def b49_1 (a0 : List (Int)) : (Int × Int) → Ctl (Int × Int) (Int) := fun s1 =>
  if (decide (s1.2 < (a0.length : Int))) = true then
   if 0 ≤ s1.2 ∧ s1.2 < (a0.length : Int) then
    .next (IntKind.i64.wrap (s1.1 + (a0.getD s1.2.toNat default)), IntKind.i64.wrap (s1.2 + 1))
    else .out none
   else .out (some s1.1)
def r49 (a0 : List (Int)) : Option (Int) :=
  iterC (b49_1 a0) 1000000000 (0, 0)
def T49 : TSpec ((List (Int))) where
  enc x := [.c (encF 1 d_I x)]
  dec a := decF g_I (aCell a 0 0)
  pre x := (r49 x).isSome = true
  res x := [.c (.d (.int .i64 ((r49 x).getD default)))]
  al := false
def tb49 : Fns := lk []
theorem tb49_ok : FnsOk Try.prog tb49 := FnsOk.nil
theorem v49 : Valid Try.prog 49 T49.sp := by
  refine valid_t (fn := Try.f49) (n := 18) ty_ok tb49_ok Try.func49 rfl Try.ntmps49 ?_
  rintro a0 hx
  obtain ⟨r, hr⟩ := Option.isSome_iff_exists.1 (show (r49 a0).isSome = true from hx)
  have hres : T49.res a0 = [.c (.d (.int .i64 r))] := by simp only [T49, hr, Option.getD_some]
  refine ⟨Nat.le_of_ble_eq_true rfl, fun stop S => ?_⟩
  rw [hres] at S
  unfold r49 at hr
  refine S.goB [] 1000 ?_
  simp (maxSteps := 10000000) only [go_sem, T49, Bool.not_true, Bool.not_false, Option.map_some, Int.reduceToNat, Nat.reduceEqDiff, Nat.reduceLT, Nat.reduceAdd, Nat.reduceMul, Nat.reduceSub, Nat.reduceLeDiff, reduceIte, reduceCtorEq, Try.results49]
  repeat refine gA ?_
  refine S.sees [0, 3, 4] [] [] ?_ (Stop.iter S (fun s1 => ⟨[(0, .c (.d (encF 1 d_I a0))), (3, .c (.d (.int .i64 s1.1))), (4, .c (.d (.int .i64 s1.2)))], [], []⟩) (b49_1 a0) (fun q => q = r) hr rfl ?_)
  · (simp (maxDischargeDepth := 8) [go_sem, -List.drop_one])
  · intro s1 hr
    unfold b49_1 at hr
    refine S.goB [] 1000 ?_
    simp (maxSteps := 10000000) only [go_sem, T49, Bool.not_true, Bool.not_false, Option.map_some, Int.reduceToNat, Nat.reduceEqDiff, Nat.reduceLT, Nat.reduceAdd, Nat.reduceMul, Nat.reduceSub, Nat.reduceLeDiff, reduceIte, reduceCtorEq, Try.results49]
    repeat refine gA ?_
    refine ⟨fun hc => ?_, fun hc => ?_⟩
    · replace hr := ifP1 hr hc
      obtain ⟨hg1, hr⟩ := of_guard1 hr
      repeat refine gA ?_
      refine S.sees [0, 3, 4] [] [] ?_ hr
      (simp (maxDischargeDepth := 8) [go_sem, -List.drop_one])
    · replace hr := ifN1 hr hc
      repeat refine gA ?_
      have hr := of_out0 hr
      repeat refine gA ?_
      obtain rfl := Option.some.inj hr
      (simp (maxDischargeDepth := 8) [go_sem, -List.drop_one])
theorem f49 : FnFact Try.prog 49 T49.sp := ⟨⟨Try.f49, Try.func49, by decide, rfl⟩, v49⟩

/- martensite/martensiteref02.Watts -/
def b51_1 (a2 : Int) (v1 : (List (Int))) (v2 : Int) : ((List (Int)) × Int) → Ctl ((List (Int)) × Int) ((List (Int))) := fun s1 =>
  if (decide (s1.2 < (v1.length : Int))) = true then
   if 0 ≤ 0 ∧ 0 ≤ IntKind.i64.wrap (s1.2 + 1) ∧ IntKind.i64.wrap (s1.2 + 1) ≤ (v1.length : Int) then
    bindC (r49 (v1.take ((IntKind.i64.wrap (s1.2 + 1)).toNat))) fun v3 =>
     bindC (r106 (IntKind.i64.wrap (a2 * v3)) v2) fun v4 =>
      if 0 ≤ 0 ∧ 0 ≤ s1.2 ∧ s1.2 ≤ (v1.length : Int) then
       bindC (r49 (v1.take s1.2.toNat)) fun v5 =>
        bindC (r106 (IntKind.i64.wrap (a2 * v5)) v2) fun v6 =>
         if (s1.1.length + 1) * 8 ≤ 140737488355328 ∧ s1.1.length + 1 ≤ 9223372036854775807 then
          .next (s1.1 ++ [IntKind.i64.wrap (v4 - v6)], IntKind.i64.wrap (s1.2 + 1))
          else .out none
       else .out none
    else .out none
   else .out (some s1.1)
def r51 (a0_0 : Int) (a0_1 : List (Int × Int × Int)) (a1_0 : Int) (a1_1 : List (Bool)) (a2 : Int) : Option ((List (Int))) :=
  (r47 a0_0 a0_1 a1_0 a1_1).bind fun v1 =>
   (r49 v1).bind fun v2 =>
    iterC (b51_1 a2 v1 v2) 1000000000 ([], 0)
def T51 : TSpec (Int × (List (Int × Int × Int)) × Int × (List (Bool)) × Int) where
  enc x := [.agg [.int .i64 x.1, encF 3 d_III x.2.1], .agg [.int .i64 x.2.2.1, encF 1 d_B x.2.2.2.1], .c (.int .i64 x.2.2.2.2)]
  dec a := (dInt (aCell a 0 0), decF g_III (aCell a 0 1), dInt (aCell a 1 0), decF g_B (aCell a 1 1), dInt (aCell a 2 0))
  pre x := (r51 x.1 x.2.1 x.2.2.1 x.2.2.2.1 x.2.2.2.2).isSome = true
  res x := [.c (.own (encF 1 d_I ((r51 x.1 x.2.1 x.2.2.1 x.2.2.2.1 x.2.2.2.2).getD default)))]
  al := false
def tb51 : Fns := lk [(47, T47.sp), (49, T49.sp), (106, T106.sp)]
theorem tb51_ok : FnsOk Try.prog tb51 := .cons f47 (.cons f49 (.cons f106 (FnsOk.nil)))
theorem tb51_47 : tb51 47 = some T47.sp := rfl
theorem tb51_49 : tb51 49 = some T49.sp := rfl
theorem tb51_106 : tb51 106 = some T106.sp := rfl
theorem v51 : Valid Try.prog 51 T51.sp := by
  refine valid_t (fn := Try.f51) (n := 44) ty_ok tb51_ok Try.func51 rfl Try.ntmps51 ?_
  rintro ⟨a0_0, a0_1, a1_0, a1_1, a2⟩ hx
  obtain ⟨r, hr⟩ := Option.isSome_iff_exists.1 (show (r51 a0_0 a0_1 a1_0 a1_1 a2).isSome = true from hx)
  have hres : T51.res (a0_0, a0_1, a1_0, a1_1, a2) = [.c (.own (encF 1 d_I r))] := by simp only [T51, hr, Option.getD_some]
  refine ⟨Nat.le_of_ble_eq_true rfl, fun stop S => ?_⟩
  rw [hres] at S
  unfold r51 at hr
  refine S.goB [] 1000 ?_
  simp (maxSteps := 10000000) only [go_sem, tb51_47, T47, tb51_49, T49, tb51_106, T106, T51, Bool.not_true, Bool.not_false, Option.map_some, Int.reduceToNat, Nat.reduceEqDiff, Nat.reduceLT, Nat.reduceAdd, Nat.reduceMul, Nat.reduceSub, Nat.reduceLeDiff, reduceIte, reduceCtorEq, Try.results51]
  obtain ⟨v1, hv1, hr⟩ := of_bind0 hr
  obtain ⟨v2, hv2, hr⟩ := of_bind0 hr
  try simp only [hv1, hv2, Option.getD_some, Option.isSome_some, true_and, and_assoc]
  repeat refine gA ?_
  refine S.share 13 rfl ?_
  refine S.own0 9 1000900 1 rfl rfl ?_
  refine S.sees [2, 7, 8, 9, 10] [] [(1000900, 1000900), (13, 13)] ?_ (Stop.iter S (fun s1 => ⟨[(2, .c (.d (.int .i64 a2))), (7, .c (.own 13)), (8, .c (.d (.int .i64 v2))), (9, .c (.own 1000900)), (10, .c (.d (.int .i64 s1.2)))], [], [(1000900, .owned (encF 1 d_I s1.1)), (13, .shared (encF 1 d_I v1))]⟩) (b51_1 a2 v1 v2) (fun q => q = r) hr rfl ?_)
  · (simp (maxDischargeDepth := 8) [go_sem, -List.drop_one])
  · intro s1 hr
    unfold b51_1 at hr
    refine S.goB [] 1000 ?_
    simp (maxSteps := 10000000) only [go_sem, tb51_47, T47, tb51_49, T49, tb51_106, T106, T51, Bool.not_true, Bool.not_false, Option.map_some, Int.reduceToNat, Nat.reduceEqDiff, Nat.reduceLT, Nat.reduceAdd, Nat.reduceMul, Nat.reduceSub, Nat.reduceLeDiff, reduceIte, reduceCtorEq, Try.results51]
    repeat refine gA ?_
    refine ⟨fun hc => ?_, fun hc => ?_⟩
    · replace hr := ifP1 hr hc
      obtain ⟨hg7, hr⟩ := of_guard1 hr
      have hi8 : Nonempty (PLift ((IntKind.i64.wrap (s1.2 + 1)).toNat ≤ v1.length)) := ⟨⟨by omega⟩⟩
      obtain ⟨v3, hv3, hr⟩ := of_bind1 hr
      obtain ⟨v4, hv4, hr⟩ := of_bind1 hr
      obtain ⟨hg9, hr⟩ := of_guard1 hr
      have hi10 : Nonempty (PLift (s1.2.toNat ≤ v1.length)) := ⟨⟨by omega⟩⟩
      obtain ⟨v5, hv5, hr⟩ := of_bind1 hr
      obtain ⟨v6, hv6, hr⟩ := of_bind1 hr
      obtain ⟨hg11, hr⟩ := of_guard1 hr
      try simp only [decF_subE0]
      try simp only [decF_subE, dec_I, dec_III, dec_LIIIE, dec_B, dec_LBE, dec_LIE, dec_II, dec_LIIE, hv3, hv4, hv5, hv6, Option.getD_some, Option.isSome_some, true_and, and_assoc]
      repeat refine gA ?_
      refine S.sees [2, 7, 8, 9, 10] [] [(42, 1000900), (13, 13)] ?_ hr
      (simp (maxDischargeDepth := 8) [go_sem, -List.drop_one])
    · replace hr := ifN1 hr hc
      repeat refine gA ?_
      have hr := of_out0 hr
      repeat refine gA ?_
      obtain rfl := Option.some.inj hr
      (simp (maxDischargeDepth := 8) [go_sem, -List.drop_one])
theorem f51 : FnFact Try.prog 51 T51.sp := ⟨⟨Try.f51, Try.func51, by decide, rfl⟩, v51⟩

/- martensite/martensiteref02.Depth -/
def b52_1 (a2 : Int) (v1 : (List (Int))) : (Int) → Ctl (Int) (Int) := fun s1 =>
  if 0 ≤ 0 ∧ 0 ≤ s1 ∧ s1 ≤ (v1.length : Int) then
   bindC (r49 (v1.take s1.toNat)) fun v2 =>
    bindC (r49 v1) fun v3 =>
     if (decide ((IntKind.i64.wrap (100 * v2)) < (IntKind.i64.wrap (a2 * v3)))) = true then
      .next (IntKind.i64.wrap (s1 + 1))
      else .out (some s1)
   else .out none
def r52 (a0_0 : Int) (a0_1 : List (Int × Int × Int)) (a1_0 : Int) (a1_1 : List (Bool)) (a2 : Int) : Option (Int) :=
  (r47 a0_0 a0_1 a1_0 a1_1).bind fun v1 =>
   iterC (b52_1 a2 v1) 1000000000 1
def T52 : TSpec (Int × (List (Int × Int × Int)) × Int × (List (Bool)) × Int) where
  enc x := [.agg [.int .i64 x.1, encF 3 d_III x.2.1], .agg [.int .i64 x.2.2.1, encF 1 d_B x.2.2.2.1], .c (.int .i64 x.2.2.2.2)]
  dec a := (dInt (aCell a 0 0), decF g_III (aCell a 0 1), dInt (aCell a 1 0), decF g_B (aCell a 1 1), dInt (aCell a 2 0))
  pre x := (r52 x.1 x.2.1 x.2.2.1 x.2.2.2.1 x.2.2.2.2).isSome = true
  res x := [.c (.d (.int .i64 ((r52 x.1 x.2.1 x.2.2.1 x.2.2.2.1 x.2.2.2.2).getD default)))]
  al := false
def tb52 : Fns := lk [(47, T47.sp), (49, T49.sp)]
theorem tb52_ok : FnsOk Try.prog tb52 := .cons f47 (.cons f49 (FnsOk.nil))
theorem tb52_47 : tb52 47 = some T47.sp := rfl
theorem tb52_49 : tb52 49 = some T49.sp := rfl
theorem v52 : Valid Try.prog 52 T52.sp := by
  refine valid_t (fn := Try.f52) (n := 25) ty_ok tb52_ok Try.func52 rfl Try.ntmps52 ?_
  rintro ⟨a0_0, a0_1, a1_0, a1_1, a2⟩ hx
  obtain ⟨r, hr⟩ := Option.isSome_iff_exists.1 (show (r52 a0_0 a0_1 a1_0 a1_1 a2).isSome = true from hx)
  have hres : T52.res (a0_0, a0_1, a1_0, a1_1, a2) = [.c (.d (.int .i64 r))] := by simp only [T52, hr, Option.getD_some]
  refine ⟨Nat.le_of_ble_eq_true rfl, fun stop S => ?_⟩
  rw [hres] at S
  unfold r52 at hr
  refine S.goB [] 1000 ?_
  simp (maxSteps := 10000000) only [go_sem, tb52_47, T47, tb52_49, T49, T52, Bool.not_true, Bool.not_false, Option.map_some, Int.reduceToNat, Nat.reduceEqDiff, Nat.reduceLT, Nat.reduceAdd, Nat.reduceMul, Nat.reduceSub, Nat.reduceLeDiff, reduceIte, reduceCtorEq, Try.results52]
  obtain ⟨v1, hv1, hr⟩ := of_bind0 hr
  try simp only [hv1, Option.getD_some, Option.isSome_some, true_and, and_assoc]
  repeat refine gA ?_
  refine S.share 11 rfl ?_
  refine S.sees [2, 7, 8] [] [(11, 11)] ?_ (Stop.iter S (fun s1 => ⟨[(2, .c (.d (.int .i64 a2))), (7, .c (.own 11)), (8, .c (.d (.int .i64 s1)))], [], [(11, .shared (encF 1 d_I v1))]⟩) (b52_1 a2 v1) (fun q => q = r) hr rfl ?_)
  · (simp (maxDischargeDepth := 8) [go_sem, -List.drop_one])
  · intro s1 hr
    unfold b52_1 at hr
    refine S.goB [] 1000 ?_
    simp (maxSteps := 10000000) only [go_sem, tb52_47, T47, tb52_49, T49, T52, Bool.not_true, Bool.not_false, Option.map_some, Int.reduceToNat, Nat.reduceEqDiff, Nat.reduceLT, Nat.reduceAdd, Nat.reduceMul, Nat.reduceSub, Nat.reduceLeDiff, reduceIte, reduceCtorEq, Try.results52]
    obtain ⟨hg4, hr⟩ := of_guard1 hr
    have hi5 : Nonempty (PLift (s1.toNat ≤ v1.length)) := ⟨⟨by omega⟩⟩
    obtain ⟨v2, hv2, hr⟩ := of_bind1 hr
    obtain ⟨v3, hv3, hr⟩ := of_bind1 hr
    try simp only [decF_subE0]
    try simp only [decF_subE, dec_I, dec_III, dec_LIIIE, dec_B, dec_LBE, dec_LIE, dec_II, dec_LIIE, hv2, hv3, Option.getD_some, Option.isSome_some, true_and, and_assoc]
    repeat refine gA ?_
    refine ⟨fun hc => ?_, fun hc => ?_⟩
    · replace hr := ifP1 hr hc
      repeat refine gA ?_
      refine S.sees [2, 7, 8] [] [(11, 11)] ?_ hr
      (simp (maxDischargeDepth := 8) [go_sem, -List.drop_one])
    · replace hr := ifN1 hr hc
      repeat refine gA ?_
      have hr := of_out0 hr
      repeat refine gA ?_
      obtain rfl := Option.some.inj hr
      (simp (maxDischargeDepth := 8) [go_sem, -List.drop_one])
theorem f52 : FnFact Try.prog 52 T52.sp := ⟨⟨Try.f52, Try.func52, by decide, rfl⟩, v52⟩

/- martensite/martensitebase.Lowest -/
def r48 (a0 : Int) (a1 : Int) : Option (Int × Int) :=
  (r112 a0 a1).bind fun v1 =>
   if (decide (a1 < 0)) = true then
    if (IntKind.i64.wrap (0 - v1)) ≠ 0 then
     if (IntKind.i64.wrap (0 - v1)) ≠ 0 then
      some (IntKind.i64.wrap (a0.tdiv (IntKind.i64.wrap (0 - v1))), IntKind.i64.wrap (a1.tdiv (IntKind.i64.wrap (0 - v1))))
      else none
     else none
    else if v1 ≠ 0 then
     if v1 ≠ 0 then
      some (IntKind.i64.wrap (a0.tdiv v1), IntKind.i64.wrap (a1.tdiv v1))
      else none
     else none
def T48 : TSpec (Int × Int) where
  enc x := [.c (.int .i64 x.1), .c (.int .i64 x.2)]
  dec a := (dInt (aCell a 0 0), dInt (aCell a 1 0))
  pre x := (r48 x.1 x.2).isSome = true
  res x := [.agg [.d (.int .i64 (((r48 x.1 x.2).getD default).1)), .d (.int .i64 (((r48 x.1 x.2).getD default).2))]]
  al := false
def tb48 : Fns := lk [(112, T112.sp)]
theorem tb48_ok : FnsOk Try.prog tb48 := .cons f112 (FnsOk.nil)
theorem tb48_112 : tb48 112 = some T112.sp := rfl
theorem v48 : Valid Try.prog 48 T48.sp := by
  refine valid_t (fn := Try.f48) (n := 20) ty_ok tb48_ok Try.func48 rfl Try.ntmps48 ?_
  rintro ⟨a0, a1⟩ hx
  obtain ⟨r, hr⟩ := Option.isSome_iff_exists.1 (show (r48 a0 a1).isSome = true from hx)
  have hres : T48.res (a0, a1) = [.agg [.d (.int .i64 r.1), .d (.int .i64 r.2)]] := by simp only [T48, hr, Option.getD_some]
  refine ⟨Nat.le_of_ble_eq_true rfl, fun stop S => ?_⟩
  rw [hres] at S
  unfold r48 at hr
  refine S.goB [] 1000 ?_
  simp (maxSteps := 10000000) only [go_sem, tb48_112, T112, T48, Bool.not_true, Bool.not_false, Option.map_some, Int.reduceToNat, Nat.reduceEqDiff, Nat.reduceLT, Nat.reduceAdd, Nat.reduceMul, Nat.reduceSub, Nat.reduceLeDiff, reduceIte, reduceCtorEq, Try.results48]
  obtain ⟨v1, hv1, hr⟩ := of_bind0 hr
  try simp only [hv1, Option.getD_some, Option.isSome_some, true_and, and_assoc]
  repeat refine gA ?_
  refine ⟨fun hc => ?_, fun hc => ?_⟩
  · replace hr := ifP hr hc
    obtain ⟨hg2, hr⟩ := of_guard0 hr
    obtain ⟨hg3, hr⟩ := of_guard0 hr
    repeat refine gA ?_
    obtain rfl := Option.some.inj hr
    (simp (maxDischargeDepth := 8) [go_sem, -List.drop_one])
  · replace hr := ifN hr hc
    obtain ⟨hg4, hr⟩ := of_guard0 hr
    obtain ⟨hg5, hr⟩ := of_guard0 hr
    repeat refine gA ?_
    obtain rfl := Option.some.inj hr
    (simp (maxDischargeDepth := 8) [go_sem, -List.drop_one])
theorem f48 : FnFact Try.prog 48 T48.sp := ⟨⟨Try.f48, Try.func48, by decide, rfl⟩, v48⟩

/- martensite/martensitebase.IsSmall -/
def r50 (a0_0 : Int) (a0_1 : Int) : Option (Bool) :=
  (r33 a0_0 (-1000000000) 1000000000).bind fun v1 =>
   if v1 = true → (r33 a0_1 1 1000000000).isSome = true then
    some (v1 && ((r33 a0_1 1 1000000000).getD default))
    else none
def T50 : TSpec (Int × Int) where
  enc x := [.agg [.int .i64 x.1, .int .i64 x.2]]
  dec a := (dInt (aCell a 0 0), dInt (aCell a 0 1))
  pre x := (r50 x.1 x.2).isSome = true
  res x := [.c (.d (.bool ((r50 x.1 x.2).getD default)))]
  al := false
def tb50 : Fns := lk [(33, T33.sp)]
theorem tb50_ok : FnsOk Try.prog tb50 := .cons f33 (FnsOk.nil)
theorem tb50_33 : tb50 33 = some T33.sp := rfl
theorem v50 : Valid Try.prog 50 T50.sp := by
  refine valid_t (fn := Try.f50) (n := 11) ty_ok tb50_ok Try.func50 rfl Try.ntmps50 ?_
  rintro ⟨a0_0, a0_1⟩ hx
  obtain ⟨r, hr⟩ := Option.isSome_iff_exists.1 (show (r50 a0_0 a0_1).isSome = true from hx)
  have hres : T50.res (a0_0, a0_1) = [.c (.d (.bool r))] := by simp only [T50, hr, Option.getD_some]
  refine ⟨Nat.le_of_ble_eq_true rfl, fun stop S => ?_⟩
  rw [hres] at S
  unfold r50 at hr
  refine S.goB [] 1000 ?_
  simp (maxSteps := 10000000) only [go_sem, tb50_33, T33, T50, Bool.not_true, Bool.not_false, Option.map_some, Int.reduceToNat, Nat.reduceEqDiff, Nat.reduceLT, Nat.reduceAdd, Nat.reduceMul, Nat.reduceSub, Nat.reduceLeDiff, reduceIte, reduceCtorEq, Try.results50]
  obtain ⟨v1, hv1, hr⟩ := of_bind0 hr
  obtain ⟨hg2, hr⟩ := of_guard0 hr
  try simp only [hv1, Option.getD_some, Option.isSome_some, true_and, and_assoc]
  repeat (first | refine gG hg2 ?_ | refine gA ?_ | refine gB ?_)
  obtain rfl := Option.some.inj hr
  (simp (maxDischargeDepth := 8) [go_sem, -List.drop_one])
theorem f50 : FnFact Try.prog 50 T50.sp := ⟨⟨Try.f50, Try.func50, by decide, rfl⟩, v50⟩
end Go.Proofs.Ytagnplbfdaifkaa

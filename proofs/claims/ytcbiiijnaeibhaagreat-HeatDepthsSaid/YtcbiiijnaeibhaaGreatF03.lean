/- Contracts of functions, written by wip/dec. -/
import Derived.Test.YtcbiiijnaeibhaaGreatF00
import Derived.Test.YtcbiiijnaeibhaaGreatF01
import Derived.Test.YtcbiiijnaeibhaaGreatF02
set_option linter.unusedVariables false
set_option linter.unusedSimpArgs false
set_option maxHeartbeats 4000000
set_option maxRecDepth 20000
namespace Go.Proofs.YtcbiiijnaeibhaaGreat
open Go.Abs
/- (martensite/heat.part).stepped$1 -/
def r84 (a0 : Int) (a1_0 : Int) (a1_1 : Int) (a1_2 : List (Int × Int)) (a1_3 : List ((List (Int × Int)))) (a1_4 : List (Int × Int)) (a1_5 : List ((List (Int × Int)))) : Option (Bool) :=
  (r85 a1_0 a1_1 a1_2 a1_3 a1_4 a1_5 a0).bind fun v1 =>
   some (!v1)
def T84 : TSpec (Int × Int × Int × (List (Int × Int)) × (List ((List (Int × Int)))) × (List (Int × Int)) × (List ((List (Int × Int))))) where
  enc x := [.c (.int .i64 x.1), .ptr [.int .i64 x.2.1, .int .i64 x.2.2.1, encF 2 d_II x.2.2.2.1, encF 1 d_LIIE x.2.2.2.2.1, encF 2 d_II x.2.2.2.2.2.1, encF 1 d_LIIE x.2.2.2.2.2.2]]
  dec a := (dInt (aCell a 0 0), dInt (aCell a 1 0), dInt (aCell a 1 1), decF g_II (aCell a 1 2), decF g_LIIE (aCell a 1 3), decF g_II (aCell a 1 4), decF g_LIIE (aCell a 1 5))
  pre x := (r84 x.1 x.2.1 x.2.2.1 x.2.2.2.1 x.2.2.2.2.1 x.2.2.2.2.2.1 x.2.2.2.2.2.2).isSome = true
  res x := [.c (.d (.bool ((r84 x.1 x.2.1 x.2.2.1 x.2.2.2.1 x.2.2.2.2.1 x.2.2.2.2.2.1 x.2.2.2.2.2.2).getD default)))]
  al := false
def tb84 : Fns := lk [(85, T85.sp)]
theorem tb84_ok : FnsOk Tryz.prog tb84 := .cons f85 (FnsOk.nil)
theorem tb84_85 : tb84 85 = some T85.sp := rfl
theorem v84 : Valid Tryz.prog 84 T84.sp := by
  refine valid_t (fn := Tryz.f84) (n := 8) ty_ok tb84_ok Tryz.func84 rfl Tryz.ntmps84 ?_
  rintro ⟨a0, a1_0, a1_1, a1_2, a1_3, a1_4, a1_5⟩ hx
  obtain ⟨r, hr⟩ := Option.isSome_iff_exists.1 (show (r84 a0 a1_0 a1_1 a1_2 a1_3 a1_4 a1_5).isSome = true from hx)
  have hres : T84.res (a0, a1_0, a1_1, a1_2, a1_3, a1_4, a1_5) = [.c (.d (.bool r))] := by simp only [T84, hr, Option.getD_some]
  refine ⟨Nat.le_of_ble_eq_true rfl, fun stop S => ?_⟩
  rw [hres] at S
  unfold r84 at hr
  refine S.goB [] 1000 ?_
  simp (maxSteps := 10000000) only [go_sem, tb84_85, T85, T84, Option.map_some, Int.reduceToNat, Nat.reduceEqDiff, Nat.reduceLT, Nat.reduceAdd, Nat.reduceMul, Nat.reduceSub, Nat.reduceLeDiff, reduceIte, reduceCtorEq, Tryz.results84]
  obtain ⟨v1, hv1, hr⟩ := of_bind0 hr
  try simp only [hv1, Option.getD_some, Option.isSome_some, true_and, and_assoc]
  repeat refine gA ?_
  obtain rfl := Option.some.inj hr
  (simp (maxDischargeDepth := 8) [go_sem])
theorem f84 : FnFact Tryz.prog 84 T84.sp := ⟨⟨Tryz.f84, Tryz.func84, by decide, rfl⟩, v84⟩

/- slices.IndexFunc[[]int,int] -/
def b65b_1 (a0 : List (Int)) (a1_0_0 : Int) (a1_0_1 : Int) (a1_0_2 : List (Int × Int)) (a1_0_3 : List ((List (Int × Int)))) (a1_0_4 : List (Int × Int)) (a1_0_5 : List ((List (Int × Int)))) : (Int) → Ctl (Int) (Int) := fun s1 =>
  if (decide (s1 < (a0.length : Int))) = true then
   if 0 ≤ s1 ∧ s1 < (a0.length : Int) then
    bindC (r84 (a0.getD s1.toNat default) a1_0_0 a1_0_1 a1_0_2 a1_0_3 a1_0_4 a1_0_5) fun v1 =>
     if v1 = true then
      .out (some s1)
      else .next (IntKind.i64.wrap (s1 + 1))
    else .out none
   else .out (some (-1))
def r65b (a0 : List (Int)) (a1_0_0 : Int) (a1_0_1 : Int) (a1_0_2 : List (Int × Int)) (a1_0_3 : List ((List (Int × Int)))) (a1_0_4 : List (Int × Int)) (a1_0_5 : List ((List (Int × Int)))) : Option (Int) :=
  iterC (b65b_1 a0 a1_0_0 a1_0_1 a1_0_2 a1_0_3 a1_0_4 a1_0_5) 1000000000 0
def T65b : TSpec ((List (Int)) × Int × Int × (List (Int × Int)) × (List ((List (Int × Int)))) × (List (Int × Int)) × (List ((List (Int × Int))))) where
  enc x := [.c (encF 1 d_I x.1), .clo 84 [[.int .i64 x.2.1, .int .i64 x.2.2.1, encF 2 d_II x.2.2.2.1, encF 1 d_LIIE x.2.2.2.2.1, encF 2 d_II x.2.2.2.2.2.1, encF 1 d_LIIE x.2.2.2.2.2.2]]]
  dec a := (decF g_I (aCell a 0 0), dInt (aCell a 1 0), dInt (aCell a 1 1), decF g_II (aCell a 1 2), decF g_LIIE (aCell a 1 3), decF g_II (aCell a 1 4), decF g_LIIE (aCell a 1 5))
  pre x := (r65b x.1 x.2.1 x.2.2.1 x.2.2.2.1 x.2.2.2.2.1 x.2.2.2.2.2.1 x.2.2.2.2.2.2).isSome = true
  res x := [.c (.d (.int .i64 ((r65b x.1 x.2.1 x.2.2.1 x.2.2.2.1 x.2.2.2.2.1 x.2.2.2.2.2.1 x.2.2.2.2.2.2).getD default)))]
  al := false
def tb65b : Fns := lk [(84, T84.sp)]
theorem tb65b_ok : FnsOk Tryz.prog tb65b := .cons f84 (FnsOk.nil)
theorem tb65b_84 : tb65b 84 = some T84.sp := rfl
theorem v65b : Valid Tryz.prog 65 T65b.sp := by
  refine valid_t (fn := Tryz.f65) (n := 19) ty_ok tb65b_ok Tryz.func65 rfl Tryz.ntmps65 ?_
  rintro ⟨a0, a1_0_0, a1_0_1, a1_0_2, a1_0_3, a1_0_4, a1_0_5⟩ hx
  obtain ⟨r, hr⟩ := Option.isSome_iff_exists.1 (show (r65b a0 a1_0_0 a1_0_1 a1_0_2 a1_0_3 a1_0_4 a1_0_5).isSome = true from hx)
  have hres : T65b.res (a0, a1_0_0, a1_0_1, a1_0_2, a1_0_3, a1_0_4, a1_0_5) = [.c (.d (.int .i64 r))] := by simp only [T65b, hr, Option.getD_some]
  refine ⟨Nat.le_of_ble_eq_true rfl, fun stop S => ?_⟩
  rw [hres] at S
  unfold r65b at hr
  refine S.goB [] 1000 ?_
  simp (maxSteps := 10000000) only [go_sem, tb65b_84, T84, T65b, Option.map_some, Int.reduceToNat, Nat.reduceEqDiff, Nat.reduceLT, Nat.reduceAdd, Nat.reduceMul, Nat.reduceSub, Nat.reduceLeDiff, reduceIte, reduceCtorEq, Tryz.results65]
  repeat refine gA ?_
  refine S.sees [0, 1, 7, 8] [] [] ?_ (Stop.iter S (fun s1 => ⟨[(0, .c (.d (encF 1 d_I a0))), (1, .c (.clo 84 [.sptr [.int .i64 a1_0_0, .int .i64 a1_0_1, encF 2 d_II a1_0_2, encF 1 d_LIIE a1_0_3, encF 2 d_II a1_0_4, encF 1 d_LIIE a1_0_5] 0])), (7, .c (.d (.int .i64 (a0.length : Int)))), (8, .c (.d (.int .i64 s1)))], [], []⟩) (b65b_1 a0 a1_0_0 a1_0_1 a1_0_2 a1_0_3 a1_0_4 a1_0_5) (fun q => q = r) hr rfl ?_)
  · (simp (maxDischargeDepth := 8) [go_sem])
  · intro s1 hr
    unfold b65b_1 at hr
    refine S.goB [] 1000 ?_
    simp (maxSteps := 10000000) only [go_sem, tb65b_84, T84, T65b, Option.map_some, Int.reduceToNat, Nat.reduceEqDiff, Nat.reduceLT, Nat.reduceAdd, Nat.reduceMul, Nat.reduceSub, Nat.reduceLeDiff, reduceIte, reduceCtorEq, Tryz.results65]
    repeat refine gA ?_
    refine ⟨fun hc => ?_, fun hc => ?_⟩
    · replace hr := ifP1 hr hc
      obtain ⟨hg2, hr⟩ := of_guard1 hr
      obtain ⟨v1, hv1, hr⟩ := of_bind1 hr
      try simp only [hv1, Option.getD_some, Option.isSome_some, true_and, and_assoc]
      repeat refine gA ?_
      refine ⟨fun hc => ?_, fun hc => ?_⟩
      · replace hr := ifP1 hr hc
        repeat refine gA ?_
        have hr := of_out0 hr
        obtain rfl := Option.some.inj hr
        (simp (maxDischargeDepth := 8) [go_sem])
      · replace hr := ifN1 hr hc
        repeat refine gA ?_
        refine S.sees [0, 1, 7, 8] [] [] ?_ hr
        (simp (maxDischargeDepth := 8) [go_sem])
    · replace hr := ifN1 hr hc
      repeat refine gA ?_
      have hr := of_out0 hr
      repeat refine gA ?_
      obtain rfl := Option.some.inj hr
      (simp (maxDischargeDepth := 8) [go_sem])
theorem f65b : FnFact Tryz.prog 65 T65b.sp := ⟨⟨Tryz.f65, Tryz.func65, by decide, rfl⟩, v65b⟩

/- slices.ContainsFunc[[]int,int] -/
def r41a (a0 : List (Int)) (a1_0_0 : Int) (a1_0_1 : Int) (a1_0_2 : List (Int × Int)) (a1_0_3 : List ((List (Int × Int)))) (a1_0_4 : List (Int × Int)) (a1_0_5 : List ((List (Int × Int)))) : Option (Bool) :=
  (r65b a0 a1_0_0 a1_0_1 a1_0_2 a1_0_3 a1_0_4 a1_0_5).bind fun v1 =>
   some (decide (v1 ≥ 0))
def T41a : TSpec ((List (Int)) × Int × Int × (List (Int × Int)) × (List ((List (Int × Int)))) × (List (Int × Int)) × (List ((List (Int × Int))))) where
  enc x := [.c (encF 1 d_I x.1), .clo 84 [[.int .i64 x.2.1, .int .i64 x.2.2.1, encF 2 d_II x.2.2.2.1, encF 1 d_LIIE x.2.2.2.2.1, encF 2 d_II x.2.2.2.2.2.1, encF 1 d_LIIE x.2.2.2.2.2.2]]]
  dec a := (decF g_I (aCell a 0 0), dInt (aCell a 1 0), dInt (aCell a 1 1), decF g_II (aCell a 1 2), decF g_LIIE (aCell a 1 3), decF g_II (aCell a 1 4), decF g_LIIE (aCell a 1 5))
  pre x := (r41a x.1 x.2.1 x.2.2.1 x.2.2.2.1 x.2.2.2.2.1 x.2.2.2.2.2.1 x.2.2.2.2.2.2).isSome = true
  res x := [.c (.d (.bool ((r41a x.1 x.2.1 x.2.2.1 x.2.2.2.1 x.2.2.2.2.1 x.2.2.2.2.2.1 x.2.2.2.2.2.2).getD default)))]
  al := false
def tb41a : Fns := lk [(65, T65b.sp)]
theorem tb41a_ok : FnsOk Tryz.prog tb41a := .cons f65b (FnsOk.nil)
theorem tb41a_65 : tb41a 65 = some T65b.sp := rfl
theorem v41a : Valid Tryz.prog 41 T41a.sp := by
  refine valid_t (fn := Tryz.f41) (n := 9) ty_ok tb41a_ok Tryz.func41 rfl Tryz.ntmps41 ?_
  rintro ⟨a0, a1_0_0, a1_0_1, a1_0_2, a1_0_3, a1_0_4, a1_0_5⟩ hx
  obtain ⟨r, hr⟩ := Option.isSome_iff_exists.1 (show (r41a a0 a1_0_0 a1_0_1 a1_0_2 a1_0_3 a1_0_4 a1_0_5).isSome = true from hx)
  have hres : T41a.res (a0, a1_0_0, a1_0_1, a1_0_2, a1_0_3, a1_0_4, a1_0_5) = [.c (.d (.bool r))] := by simp only [T41a, hr, Option.getD_some]
  refine ⟨Nat.le_of_ble_eq_true rfl, fun stop S => ?_⟩
  rw [hres] at S
  unfold r41a at hr
  refine S.goB [] 1000 ?_
  simp (maxSteps := 10000000) only [go_sem, tb41a_65, T65b, T41a, Option.map_some, Int.reduceToNat, Nat.reduceEqDiff, Nat.reduceLT, Nat.reduceAdd, Nat.reduceMul, Nat.reduceSub, Nat.reduceLeDiff, reduceIte, reduceCtorEq, Tryz.results41]
  obtain ⟨v1, hv1, hr⟩ := of_bind0 hr
  try simp only [hv1, Option.getD_some, Option.isSome_some, true_and, and_assoc]
  repeat refine gA ?_
  obtain rfl := Option.some.inj hr
  (simp (maxDischargeDepth := 8) [go_sem])
theorem f41a : FnFact Tryz.prog 41 T41a.sp := ⟨⟨Tryz.f41, Tryz.func41, by decide, rfl⟩, v41a⟩

/- (martensite/heat.part).stepped -/
def b54_3 (a0_0 : Int) (a0_1 : Int) (a0_2 : List (Int × Int)) (a0_3 : List ((List (Int × Int)))) (a0_4 : List (Int × Int)) (a0_5 : List ((List (Int × Int)))) (a2_0 : List (Int)) (v20 : Int) : (Int × (List (Int))) → Ctl (Int × (List (Int))) ((List (Int)) × Int × Int) := fun s3 =>
  if (decide (s3.1 < (a2_0.length : Int))) = true then
   if 0 ≤ s3.1 ∧ s3.1 < (a2_0.length : Int) then
    if 0 ≤ s3.1 ∧ s3.1 < (s3.2.length : Int) then
     if 0 ≤ s3.1 ∧ s3.1 < (s3.2.length : Int) then
      .next (IntKind.i64.wrap (s3.1 + 1), s3.2.set s3.1.toNat (IntKind.i64.wrap ((s3.2.getD s3.1.toNat default) + (a2_0.getD s3.1.toNat default))))
      else .out none
     else .out none
    else .out none
   else .out ((r41a s3.2 a0_0 a0_1 a0_2 a0_3 a0_4 a0_5).bind fun v24 =>
    (r58 (!v24) 22).bind fun v25 =>
     some (s3.2, v20, v25))
def b54_2 (a0_0 : Int) (a0_1 : Int) (a0_2 : List (Int × Int)) (a0_3 : List ((List (Int × Int)))) (a0_4 : List (Int × Int)) (a0_5 : List ((List (Int × Int)))) (a2_0 : List (Int)) (a2_1 : Int) : (Int × (List (Int))) → Ctl (Int × (List (Int))) ((List (Int)) × Int × Int) := fun s2 =>
  if (decide ((IntKind.i64.wrap (s2.1 + 1)) < (s2.2.length : Int))) = true then
   if 0 ≤ s2.1 ∧ s2.1 < (s2.2.length : Int) then
    bindC (r70 a0_0 a0_1 a0_2 a0_3 a0_4 a0_5 (s2.2.getD s2.1.toNat default)) fun v11 =>
     if 0 ≤ IntKind.i64.wrap (s2.1 + 1) ∧ IntKind.i64.wrap (s2.1 + 1) < (s2.2.length : Int) then
      bindC (r70 a0_0 a0_1 a0_2 a0_3 a0_4 a0_5 (s2.2.getD (IntKind.i64.wrap (s2.1 + 1)).toNat default)) fun v12 =>
       bindC (r100 (IntKind.i64.wrap (a0_1 * (IntKind.i64.wrap ((IntKind.i64.wrap (v11.1 * v12.2)) - (IntKind.i64.wrap (v12.1 * v11.2)))))) (IntKind.i64.wrap ((IntKind.i64.wrap (1000 * v11.2)) * v12.2))) fun v13 =>
        if 0 ≤ s2.1 ∧ s2.1 < (s2.2.length : Int) then
         if 0 ≤ IntKind.i64.wrap (s2.1 + 1) ∧ IntKind.i64.wrap (s2.1 + 1) < (s2.2.length : Int) then
          if 0 ≤ s2.1 ∧ s2.1 < (s2.2.length : Int) then
           if 0 ≤ IntKind.i64.wrap (s2.1 + 1) ∧ IntKind.i64.wrap (s2.1 + 1) < (s2.2.length : Int) then
            .next (IntKind.i64.wrap (s2.1 + 2), (s2.2.set s2.1.toNat (IntKind.i64.wrap ((s2.2.getD s2.1.toNat default) - v13))).set (IntKind.i64.wrap (s2.1 + 1)).toNat (IntKind.i64.wrap ((s2.2.getD (IntKind.i64.wrap (s2.1 + 1)).toNat default) + v13)))
            else .out none
           else .out none
          else .out none
         else .out none
      else .out none
    else .out none
   else .out (if 0 ≤ 0 ∧ 0 < (s2.2.length : Int) then
    (r83 a0_0 a0_1 a0_2 a0_3 a0_4 a0_5 a2_1 (s2.2.getD 0 default)).bind fun v20 =>
     if 0 ≤ 0 ∧ 0 < (s2.2.length : Int) then
      if 0 ≤ 0 ∧ 0 < (s2.2.length : Int) then
       iterC (b54_3 a0_0 a0_1 a0_2 a0_3 a0_4 a0_5 a2_0 v20) 1000000000 (0, s2.2.set 0 (IntKind.i64.wrap ((s2.2.getD 0 default) - v20)))
       else none
      else none
    else none)
def b54_1 (a0_0 : Int) (a0_1 : Int) (a0_2 : List (Int × Int)) (a0_3 : List ((List (Int × Int)))) (a0_4 : List (Int × Int)) (a0_5 : List ((List (Int × Int)))) (a2_0 : List (Int)) (a2_1 : Int) : (Int × (List (Int))) → Ctl (Int × (List (Int))) ((List (Int)) × Int × Int) := fun s1 =>
  if (decide ((IntKind.i64.wrap (s1.1 + 1)) < (s1.2.length : Int))) = true then
   if 0 ≤ s1.1 ∧ s1.1 < (s1.2.length : Int) then
    bindC (r70 a0_0 a0_1 a0_2 a0_3 a0_4 a0_5 (s1.2.getD s1.1.toNat default)) fun v2 =>
     if 0 ≤ IntKind.i64.wrap (s1.1 + 1) ∧ IntKind.i64.wrap (s1.1 + 1) < (s1.2.length : Int) then
      bindC (r70 a0_0 a0_1 a0_2 a0_3 a0_4 a0_5 (s1.2.getD (IntKind.i64.wrap (s1.1 + 1)).toNat default)) fun v3 =>
       bindC (r100 (IntKind.i64.wrap (a0_1 * (IntKind.i64.wrap ((IntKind.i64.wrap (v2.1 * v3.2)) - (IntKind.i64.wrap (v3.1 * v2.2)))))) (IntKind.i64.wrap ((IntKind.i64.wrap (1000 * v2.2)) * v3.2))) fun v4 =>
        if 0 ≤ s1.1 ∧ s1.1 < (s1.2.length : Int) then
         if 0 ≤ IntKind.i64.wrap (s1.1 + 1) ∧ IntKind.i64.wrap (s1.1 + 1) < (s1.2.length : Int) then
          if 0 ≤ s1.1 ∧ s1.1 < (s1.2.length : Int) then
           if 0 ≤ IntKind.i64.wrap (s1.1 + 1) ∧ IntKind.i64.wrap (s1.1 + 1) < (s1.2.length : Int) then
            .next (IntKind.i64.wrap (s1.1 + 2), (s1.2.set s1.1.toNat (IntKind.i64.wrap ((s1.2.getD s1.1.toNat default) - v4))).set (IntKind.i64.wrap (s1.1 + 1)).toNat (IntKind.i64.wrap ((s1.2.getD (IntKind.i64.wrap (s1.1 + 1)).toNat default) + v4)))
            else .out none
           else .out none
          else .out none
         else .out none
      else .out none
    else .out none
   else .out (iterC (b54_2 a0_0 a0_1 a0_2 a0_3 a0_4 a0_5 a2_0 a2_1) 1000000000 (1, s1.2))
def r54 (a0_0 : Int) (a0_1 : Int) (a0_2 : List (Int × Int)) (a0_3 : List ((List (Int × Int)))) (a0_4 : List (Int × Int)) (a0_5 : List ((List (Int × Int)))) (a1 : List (Int)) (a2_0 : List (Int)) (a2_1 : Int) : Option ((List (Int)) × Int × Int) :=
  (r68 a1).bind fun v1 =>
   iterC (b54_1 a0_0 a0_1 a0_2 a0_3 a0_4 a0_5 a2_0 a2_1) 1000000000 (0, v1)
def T54 : TSpec (Int × Int × (List (Int × Int)) × (List ((List (Int × Int)))) × (List (Int × Int)) × (List ((List (Int × Int)))) × (List (Int)) × (List (Int)) × Int) where
  enc x := [.agg [.int .i64 x.1, .int .i64 x.2.1, encF 2 d_II x.2.2.1, encF 1 d_LIIE x.2.2.2.1, encF 2 d_II x.2.2.2.2.1, encF 1 d_LIIE x.2.2.2.2.2.1], .c (encF 1 d_I x.2.2.2.2.2.2.1), .agg [encF 1 d_I x.2.2.2.2.2.2.2.1, .int .i64 x.2.2.2.2.2.2.2.2]]
  dec a := (dInt (aCell a 0 0), dInt (aCell a 0 1), decF g_II (aCell a 0 2), decF g_LIIE (aCell a 0 3), decF g_II (aCell a 0 4), decF g_LIIE (aCell a 0 5), decF g_I (aCell a 1 0), decF g_I (aCell a 2 0), dInt (aCell a 2 1))
  pre x := (r54 x.1 x.2.1 x.2.2.1 x.2.2.2.1 x.2.2.2.2.1 x.2.2.2.2.2.1 x.2.2.2.2.2.2.1 x.2.2.2.2.2.2.2.1 x.2.2.2.2.2.2.2.2).isSome = true
  res x := [.c (.own (encF 1 d_I (((r54 x.1 x.2.1 x.2.2.1 x.2.2.2.1 x.2.2.2.2.1 x.2.2.2.2.2.1 x.2.2.2.2.2.2.1 x.2.2.2.2.2.2.2.1 x.2.2.2.2.2.2.2.2).getD default).1))), .c (.d (.int .i64 (((r54 x.1 x.2.1 x.2.2.1 x.2.2.2.1 x.2.2.2.2.1 x.2.2.2.2.2.1 x.2.2.2.2.2.2.1 x.2.2.2.2.2.2.2.1 x.2.2.2.2.2.2.2.2).getD default).2.1))), .c (.d (.int .i64 (((r54 x.1 x.2.1 x.2.2.1 x.2.2.2.1 x.2.2.2.2.1 x.2.2.2.2.2.1 x.2.2.2.2.2.2.1 x.2.2.2.2.2.2.2.1 x.2.2.2.2.2.2.2.2).getD default).2.2)))]
  al := false
def tb54 : Fns := lk [(41, T41a.sp), (58, T58.sp), (68, T68.sp), (70, T70.sp), (83, T83.sp), (100, T100.sp)]
theorem tb54_ok : FnsOk Tryz.prog tb54 := .cons f41a (.cons f58 (.cons f68 (.cons f70 (.cons f83 (.cons f100 (FnsOk.nil))))))
theorem tb54_41 : tb54 41 = some T41a.sp := rfl
theorem tb54_58 : tb54 58 = some T58.sp := rfl
theorem tb54_68 : tb54 68 = some T68.sp := rfl
theorem tb54_70 : tb54 70 = some T70.sp := rfl
theorem tb54_83 : tb54 83 = some T83.sp := rfl
theorem tb54_100 : tb54 100 = some T100.sp := rfl
theorem v54 : Valid Tryz.prog 54 T54.sp := by
  refine valid_t (fn := Tryz.f54) (n := 59) ty_ok tb54_ok Tryz.func54 rfl Tryz.ntmps54 ?_
  rintro ⟨a0_0, a0_1, a0_2, a0_3, a0_4, a0_5, a1, a2_0, a2_1⟩ hx
  obtain ⟨r, hr⟩ := Option.isSome_iff_exists.1 (show (r54 a0_0 a0_1 a0_2 a0_3 a0_4 a0_5 a1 a2_0 a2_1).isSome = true from hx)
  have hres : T54.res (a0_0, a0_1, a0_2, a0_3, a0_4, a0_5, a1, a2_0, a2_1) = [.c (.own (encF 1 d_I r.1)), .c (.d (.int .i64 r.2.1)), .c (.d (.int .i64 r.2.2))] := by simp only [T54, hr, Option.getD_some]
  refine ⟨Nat.le_of_ble_eq_true rfl, fun stop S => ?_⟩
  rw [hres] at S
  unfold r54 at hr
  refine S.goB [2, 3] 1000 ?_
  simp (maxSteps := 10000000) only [go_sem, tb54_41, T41a, tb54_58, T58, tb54_68, T68, tb54_70, T70, tb54_83, T83, tb54_100, T100, T54, Option.map_some, Int.reduceToNat, Nat.reduceEqDiff, Nat.reduceLT, Nat.reduceAdd, Nat.reduceMul, Nat.reduceSub, Nat.reduceLeDiff, reduceIte, reduceCtorEq, Tryz.results54, Tryz.results82]
  obtain ⟨v1, hv1, hr⟩ := of_bind0 hr
  try simp only [hv1, Option.getD_some, Option.isSome_some, true_and, and_assoc]
  repeat refine gA ?_
  refine S.inl 2 [0, 1, 2, 3, 5, 6, 7, 8, 9, 14, 15, 16, 17] [] Tryz.func82 (by decide) rfl Tryz.ntmps82 (fun cx e => drawn_ok ty_ok tb54_ok cx e) (some 18) rfl rfl rfl rfl (Nat.le_of_ble_eq_true rfl) (Nat.le_of_ble_eq_true rfl) ?_
  simp (maxSteps := 10000000) only [go_sem, tb54_41, T41a, tb54_58, T58, tb54_68, T68, tb54_70, T70, tb54_83, T83, tb54_100, T100, T54, Option.map_some, Int.reduceToNat, Nat.reduceEqDiff, Nat.reduceLT, Nat.reduceAdd, Nat.reduceMul, Nat.reduceSub, Nat.reduceLeDiff, reduceIte, reduceCtorEq, Tryz.results54, Tryz.results82]
  repeat refine gA ?_
  intro stop1 S1
  refine S1.goB [] 1000 ?_
  simp (maxSteps := 10000000) only [go_sem, tb54_41, T41a, tb54_58, T58, tb54_68, T68, tb54_70, T70, tb54_83, T83, tb54_100, T100, T54, Option.map_some, Int.reduceToNat, Nat.reduceEqDiff, Nat.reduceLT, Nat.reduceAdd, Nat.reduceMul, Nat.reduceSub, Nat.reduceLeDiff, reduceIte, reduceCtorEq, Tryz.results54, Tryz.results82]
  repeat refine gA ?_
  refine S1.sees [1, 3, 6] [(100003, 100003), (3, 3), (5, 5)] [(15, 15)] ?_ (Stop.iter S1 (fun s1 => ⟨[(1, .c (.own 15)), (3, .c (.ref 100003 0)), (6, .c (.d (.int .i64 s1.1)))], [(100003, [.d (.int .i64 a0_0), .d (.int .i64 a0_1), .d (encF 2 d_II a0_2), .d (encF 1 d_LIIE a0_3), .d (encF 2 d_II a0_4), .d (encF 1 d_LIIE a0_5)]), (3, [.d (.int .i64 a0_0), .d (.int .i64 a0_1), .d (encF 2 d_II a0_2), .d (encF 1 d_LIIE a0_3), .d (encF 2 d_II a0_4), .d (encF 1 d_LIIE a0_5)]), (5, [.d (encF 1 d_I a2_0), .d (.int .i64 a2_1)])], [(15, .owned (encF 1 d_I s1.2))]⟩) (b54_1 a0_0 a0_1 a0_2 a0_3 a0_4 a0_5 a2_0 a2_1) (fun q => q = r) hr rfl ?_)
  · (simp (maxDischargeDepth := 8) [go_sem])
  · intro s1 hr
    unfold b54_1 at hr
    refine S1.goB [] 1000 ?_
    simp (maxSteps := 10000000) only [go_sem, tb54_41, T41a, tb54_58, T58, tb54_68, T68, tb54_70, T70, tb54_83, T83, tb54_100, T100, T54, Option.map_some, Int.reduceToNat, Nat.reduceEqDiff, Nat.reduceLT, Nat.reduceAdd, Nat.reduceMul, Nat.reduceSub, Nat.reduceLeDiff, reduceIte, reduceCtorEq, Tryz.results54, Tryz.results82]
    repeat refine gA ?_
    refine ⟨fun hc => ?_, fun hc => ?_⟩
    · replace hr := ifP1 hr hc
      obtain ⟨hg5, hr⟩ := of_guard1 hr
      obtain ⟨v2, hv2, hr⟩ := of_bind1 hr
      obtain ⟨hg6, hr⟩ := of_guard1 hr
      obtain ⟨v3, hv3, hr⟩ := of_bind1 hr
      obtain ⟨v4, hv4, hr⟩ := of_bind1 hr
      obtain ⟨hg7, hr⟩ := of_guard1 hr
      obtain ⟨hg8, hr⟩ := of_guard1 hr
      obtain ⟨hg9, hr⟩ := of_guard1 hr
      obtain ⟨hg10, hr⟩ := of_guard1 hr
      try simp only [hv2, hv3, hv4, Option.getD_some, Option.isSome_some, true_and, and_assoc]
      repeat refine gA ?_
      refine S1.sees [1, 3, 6] [(100003, 100003), (3, 3), (5, 5)] [(15, 15)] ?_ hr
      (simp (maxDischargeDepth := 8) [go_sem])
    · replace hr := ifN1 hr hc
      repeat refine gA ?_
      have hr := of_out0 hr
      repeat refine gA ?_
      repeat refine gA ?_
      refine S.goB [2, 3] 1000 ?_
      simp (maxSteps := 10000000) only [go_sem, tb54_41, T41a, tb54_58, T58, tb54_68, T68, tb54_70, T70, tb54_83, T83, tb54_100, T100, T54, Option.map_some, Int.reduceToNat, Nat.reduceEqDiff, Nat.reduceLT, Nat.reduceAdd, Nat.reduceMul, Nat.reduceSub, Nat.reduceLeDiff, reduceIte, reduceCtorEq, Tryz.results54, Tryz.results82]
      repeat refine gA ?_
      refine S.inl 2 [0, 1, 2, 3, 5, 6, 7, 8, 9, 14, 15, 16, 17, 19, 20] [] Tryz.func82 (by decide) rfl Tryz.ntmps82 (fun cx e => drawn_ok ty_ok tb54_ok cx e) (some 21) rfl rfl rfl rfl (Nat.le_of_ble_eq_true rfl) (Nat.le_of_ble_eq_true rfl) ?_
      simp (maxSteps := 10000000) only [go_sem, tb54_41, T41a, tb54_58, T58, tb54_68, T68, tb54_70, T70, tb54_83, T83, tb54_100, T100, T54, Option.map_some, Int.reduceToNat, Nat.reduceEqDiff, Nat.reduceLT, Nat.reduceAdd, Nat.reduceMul, Nat.reduceSub, Nat.reduceLeDiff, reduceIte, reduceCtorEq, Tryz.results54, Tryz.results82]
      repeat refine gA ?_
      intro stop1 S1
      refine S1.goB [] 1000 ?_
      simp (maxSteps := 10000000) only [go_sem, tb54_41, T41a, tb54_58, T58, tb54_68, T68, tb54_70, T70, tb54_83, T83, tb54_100, T100, T54, Option.map_some, Int.reduceToNat, Nat.reduceEqDiff, Nat.reduceLT, Nat.reduceAdd, Nat.reduceMul, Nat.reduceSub, Nat.reduceLeDiff, reduceIte, reduceCtorEq, Tryz.results54, Tryz.results82]
      repeat refine gA ?_
      refine S1.sees [1, 3, 6] [(200003, 200003), (3, 3), (5, 5)] [(15, 15)] ?_ (Stop.iter S1 (fun s2 => ⟨[(1, .c (.own 15)), (3, .c (.ref 200003 0)), (6, .c (.d (.int .i64 s2.1)))], [(200003, [.d (.int .i64 a0_0), .d (.int .i64 a0_1), .d (encF 2 d_II a0_2), .d (encF 1 d_LIIE a0_3), .d (encF 2 d_II a0_4), .d (encF 1 d_LIIE a0_5)]), (3, [.d (.int .i64 a0_0), .d (.int .i64 a0_1), .d (encF 2 d_II a0_2), .d (encF 1 d_LIIE a0_3), .d (encF 2 d_II a0_4), .d (encF 1 d_LIIE a0_5)]), (5, [.d (encF 1 d_I a2_0), .d (.int .i64 a2_1)])], [(15, .owned (encF 1 d_I s2.2))]⟩) (b54_2 a0_0 a0_1 a0_2 a0_3 a0_4 a0_5 a2_0 a2_1) (fun q => q = r) hr rfl ?_)
      · (simp (maxDischargeDepth := 8) [go_sem])
      · intro s2 hr
        unfold b54_2 at hr
        refine S1.goB [] 1000 ?_
        simp (maxSteps := 10000000) only [go_sem, tb54_41, T41a, tb54_58, T58, tb54_68, T68, tb54_70, T70, tb54_83, T83, tb54_100, T100, T54, Option.map_some, Int.reduceToNat, Nat.reduceEqDiff, Nat.reduceLT, Nat.reduceAdd, Nat.reduceMul, Nat.reduceSub, Nat.reduceLeDiff, reduceIte, reduceCtorEq, Tryz.results54, Tryz.results82]
        repeat refine gA ?_
        refine ⟨fun hc => ?_, fun hc => ?_⟩
        · replace hr := ifP1 hr hc
          obtain ⟨hg14, hr⟩ := of_guard1 hr
          obtain ⟨v11, hv11, hr⟩ := of_bind1 hr
          obtain ⟨hg15, hr⟩ := of_guard1 hr
          obtain ⟨v12, hv12, hr⟩ := of_bind1 hr
          obtain ⟨v13, hv13, hr⟩ := of_bind1 hr
          obtain ⟨hg16, hr⟩ := of_guard1 hr
          obtain ⟨hg17, hr⟩ := of_guard1 hr
          obtain ⟨hg18, hr⟩ := of_guard1 hr
          obtain ⟨hg19, hr⟩ := of_guard1 hr
          try simp only [hv11, hv12, hv13, Option.getD_some, Option.isSome_some, true_and, and_assoc]
          repeat refine gA ?_
          refine S1.sees [1, 3, 6] [(200003, 200003), (3, 3), (5, 5)] [(15, 15)] ?_ hr
          (simp (maxDischargeDepth := 8) [go_sem])
        · replace hr := ifN1 hr hc
          repeat refine gA ?_
          have hr := of_out0 hr
          repeat refine gA ?_
          repeat refine gA ?_
          refine S.goB [2, 3] 1000 ?_
          simp (maxSteps := 10000000) only [go_sem, tb54_41, T41a, tb54_58, T58, tb54_68, T68, tb54_70, T70, tb54_83, T83, tb54_100, T100, T54, Option.map_some, Int.reduceToNat, Nat.reduceEqDiff, Nat.reduceLT, Nat.reduceAdd, Nat.reduceMul, Nat.reduceSub, Nat.reduceLeDiff, reduceIte, reduceCtorEq, Tryz.results54, Tryz.results82]
          obtain ⟨hg26, hr⟩ := of_guard0 hr
          obtain ⟨v20, hv20, hr⟩ := of_bind0 hr
          obtain ⟨hg27, hr⟩ := of_guard0 hr
          obtain ⟨hg28, hr⟩ := of_guard0 hr
          try simp only [hv20, Option.getD_some, Option.isSome_some, true_and, and_assoc]
          repeat refine gA ?_
          refine S.sees [3, 9, 10, 36, 37, 38] [(3, 3)] [(15, 15)] ?_ (Stop.iter S (fun s3 => ⟨[(3, .c (.ref 3 0)), (9, .c (.own 15)), (10, .c (.d (.int .i64 v20))), (36, .c (.d (encF 1 d_I a2_0))), (37, .c (.d (.int .i64 (a2_0.length : Int)))), (38, .c (.d (.int .i64 s3.1)))], [(3, [.d (.int .i64 a0_0), .d (.int .i64 a0_1), .d (encF 2 d_II a0_2), .d (encF 1 d_LIIE a0_3), .d (encF 2 d_II a0_4), .d (encF 1 d_LIIE a0_5)])], [(15, .owned (encF 1 d_I s3.2))]⟩) (b54_3 a0_0 a0_1 a0_2 a0_3 a0_4 a0_5 a2_0 v20) (fun q => q = r) hr rfl ?_)
          · (simp (maxDischargeDepth := 8) [go_sem])
          · intro s3 hr
            unfold b54_3 at hr
            refine S.goB [2, 3] 1000 ?_
            simp (maxSteps := 10000000) only [go_sem, tb54_41, T41a, tb54_58, T58, tb54_68, T68, tb54_70, T70, tb54_83, T83, tb54_100, T100, T54, Option.map_some, Int.reduceToNat, Nat.reduceEqDiff, Nat.reduceLT, Nat.reduceAdd, Nat.reduceMul, Nat.reduceSub, Nat.reduceLeDiff, reduceIte, reduceCtorEq, Tryz.results54, Tryz.results82]
            repeat refine gA ?_
            refine ⟨fun hc => ?_, fun hc => ?_⟩
            · replace hr := ifP1 hr hc
              obtain ⟨hg21, hr⟩ := of_guard1 hr
              obtain ⟨hg22, hr⟩ := of_guard1 hr
              obtain ⟨hg23, hr⟩ := of_guard1 hr
              repeat refine gA ?_
              refine S.sees [3, 9, 10, 36, 37, 38] [(3, 3)] [(15, 15)] ?_ hr
              (simp (maxDischargeDepth := 8) [go_sem])
            · replace hr := ifN1 hr hc
              repeat refine gA ?_
              have hr := of_out0 hr
              obtain ⟨v24, hv24, hr⟩ := of_bind0 hr
              obtain ⟨v25, hv25, hr⟩ := of_bind0 hr
              try simp only [hv24, hv25, Option.getD_some, Option.isSome_some, true_and, and_assoc]
              repeat refine gA ?_
              obtain rfl := Option.some.inj hr
              (simp (maxDischargeDepth := 8) [go_sem])
theorem f54 : FnFact Tryz.prog 54 T54.sp := ⟨⟨Tryz.f54, Tryz.func54, by decide, rfl⟩, v54⟩

/- martensite/heat.Stepped -/
def r22 (a0_0 : Int) (a0_1 : Int) (a0_2 : List (Int × Int)) (a0_3 : List ((List (Int × Int)))) (a1 : List (Int)) (a2_0 : List (Int)) (a2_1 : Int) : Option ((List (Int)) × Int) :=
  (r31 a0_0 a0_1 a0_2 a0_3 a1).bind fun v1 =>
   if (v1.2.2.2.2.2.2 == 0) = true then
    (r53 v1.1 v1.2.1 v1.2.2.1 v1.2.2.2.1 v1.2.2.2.2.1 v1.2.2.2.2.2.1 a2_0 a2_1).bind fun v2 =>
     if (v2 != 0) = true then
      some ([], v2)
      else (r54 v1.1 v1.2.1 v1.2.2.1 v1.2.2.2.1 v1.2.2.2.2.1 v1.2.2.2.2.2.1 a1 a2_0 a2_1).bind fun v3 =>
       if (v3.2.2 != 0) = true then
        some ([], v3.2.2)
        else some (v3.1, 0)
    else if (v1.2.2.2.2.2.2 != 0) = true then
     some ([], v1.2.2.2.2.2.2)
     else (r54 v1.1 v1.2.1 v1.2.2.1 v1.2.2.2.1 v1.2.2.2.2.1 v1.2.2.2.2.2.1 a1 a2_0 a2_1).bind fun v4 =>
      if (v4.2.2 != 0) = true then
       some ([], v4.2.2)
       else some (v4.1, 0)
def T22 : TSpec (Int × Int × (List (Int × Int)) × (List ((List (Int × Int)))) × (List (Int)) × (List (Int)) × Int) where
  enc x := [.agg [.int .i64 x.1, .int .i64 x.2.1, encF 2 d_II x.2.2.1, encF 1 d_LIIE x.2.2.2.1], .c (encF 1 d_I x.2.2.2.2.1), .agg [encF 1 d_I x.2.2.2.2.2.1, .int .i64 x.2.2.2.2.2.2]]
  dec a := (dInt (aCell a 0 0), dInt (aCell a 0 1), decF g_II (aCell a 0 2), decF g_LIIE (aCell a 0 3), decF g_I (aCell a 1 0), decF g_I (aCell a 2 0), dInt (aCell a 2 1))
  pre x := (r22 x.1 x.2.1 x.2.2.1 x.2.2.2.1 x.2.2.2.2.1 x.2.2.2.2.2.1 x.2.2.2.2.2.2).isSome = true
  res x := [.c (.own (encF 1 d_I (((r22 x.1 x.2.1 x.2.2.1 x.2.2.2.1 x.2.2.2.2.1 x.2.2.2.2.2.1 x.2.2.2.2.2.2).getD default).1))), .c (.d (.int .i64 (((r22 x.1 x.2.1 x.2.2.1 x.2.2.2.1 x.2.2.2.2.1 x.2.2.2.2.2.1 x.2.2.2.2.2.2).getD default).2)))]
  al := false
def tb22 : Fns := lk [(31, T31.sp), (53, T53.sp), (54, T54.sp)]
theorem tb22_ok : FnsOk Tryz.prog tb22 := .cons f31 (.cons f53 (.cons f54 (FnsOk.nil)))
theorem tb22_31 : tb22 31 = some T31.sp := rfl
theorem tb22_53 : tb22 53 = some T53.sp := rfl
theorem tb22_54 : tb22 54 = some T54.sp := rfl
theorem v22 : Valid Tryz.prog 22 T22.sp := by
  refine valid_t (fn := Tryz.f22) (n := 38) ty_ok tb22_ok Tryz.func22 rfl Tryz.ntmps22 ?_
  rintro ⟨a0_0, a0_1, a0_2, a0_3, a1, a2_0, a2_1⟩ hx
  obtain ⟨r, hr⟩ := Option.isSome_iff_exists.1 (show (r22 a0_0 a0_1 a0_2 a0_3 a1 a2_0 a2_1).isSome = true from hx)
  have hres : T22.res (a0_0, a0_1, a0_2, a0_3, a1, a2_0, a2_1) = [.c (.own (encF 1 d_I r.1)), .c (.d (.int .i64 r.2))] := by simp only [T22, hr, Option.getD_some]
  refine ⟨Nat.le_of_ble_eq_true rfl, fun stop S => ?_⟩
  rw [hres] at S
  unfold r22 at hr
  refine S.goB [] 1000 ?_
  simp (maxSteps := 10000000) only [go_sem, tb22_31, T31, tb22_53, T53, tb22_54, T54, T22, Option.map_some, Int.reduceToNat, Nat.reduceEqDiff, Nat.reduceLT, Nat.reduceAdd, Nat.reduceMul, Nat.reduceSub, Nat.reduceLeDiff, reduceIte, reduceCtorEq, Tryz.results22]
  obtain ⟨v1, hv1, hr⟩ := of_bind0 hr
  try simp only [hv1, Option.getD_some, Option.isSome_some, true_and, and_assoc]
  repeat refine gA ?_
  refine ⟨fun hc => ?_, fun hc => ?_⟩
  · replace hr := ifP hr hc
    obtain ⟨v2, hv2, hr⟩ := of_bind0 hr
    try simp only [hv2, Option.getD_some, Option.isSome_some, true_and, and_assoc]
    repeat refine gA ?_
    refine ⟨fun hc => ?_, fun hc => ?_⟩
    · replace hr := ifP hr hc
      repeat refine gA ?_
      obtain rfl := Option.some.inj hr
      (simp (maxDischargeDepth := 8) [go_sem])
    · replace hr := ifN hr hc
      obtain ⟨v3, hv3, hr⟩ := of_bind0 hr
      try simp only [hv3, Option.getD_some, Option.isSome_some, true_and, and_assoc]
      repeat refine gA ?_
      refine ⟨fun hc => ?_, fun hc => ?_⟩
      · replace hr := ifP hr hc
        repeat refine gA ?_
        obtain rfl := Option.some.inj hr
        (simp (maxDischargeDepth := 8) [go_sem])
      · replace hr := ifN hr hc
        repeat refine gA ?_
        obtain rfl := Option.some.inj hr
        (simp (maxDischargeDepth := 8) [go_sem])
  · replace hr := ifN hr hc
    repeat refine gA ?_
    refine ⟨fun hc => ?_, fun hc => ?_⟩
    · replace hr := ifP hr hc
      repeat refine gA ?_
      obtain rfl := Option.some.inj hr
      (simp (maxDischargeDepth := 8) [go_sem])
    · replace hr := ifN hr hc
      obtain ⟨v4, hv4, hr⟩ := of_bind0 hr
      try simp only [hv4, Option.getD_some, Option.isSome_some, true_and, and_assoc]
      repeat refine gA ?_
      refine ⟨fun hc => ?_, fun hc => ?_⟩
      · replace hr := ifP hr hc
        repeat refine gA ?_
        obtain rfl := Option.some.inj hr
        (simp (maxDischargeDepth := 8) [go_sem])
      · replace hr := ifN hr hc
        repeat refine gA ?_
        obtain rfl := Option.some.inj hr
        (simp (maxDischargeDepth := 8) [go_sem])
theorem f22 : FnFact Tryz.prog 22 T22.sp := ⟨⟨Tryz.f22, Tryz.func22, by decide, rfl⟩, v22⟩

/- (martensite/heat.part).boxErr -/
def b86_1 (a1_0 : List (Int)) (a1_1 : List (Int)) : (Int) → Ctl (Int) (Int × Int) := fun s1 =>
  if (decide (s1 < (a1_0.length : Int))) = true then
   if 0 ≤ s1 ∧ s1 < (a1_0.length : Int) then
    if 0 ≤ s1 ∧ s1 < (a1_1.length : Int) then
     if (decide ((a1_0.getD s1.toNat default) > (a1_1.getD s1.toNat default))) = true then
      .out (some (s1, 9))
      else .next (IntKind.i64.wrap (s1 + 1))
     else .out none
    else .out none
   else .out (some (0, 0))
def r86 (a0_0 : Int) (a0_1 : Int) (a0_2 : List (Int × Int)) (a0_3 : List ((List (Int × Int)))) (a0_4 : List (Int × Int)) (a0_5 : List ((List (Int × Int)))) (a1_0 : List (Int)) (a1_1 : List (Int)) : Option (Int × Int) :=
  (r63 a0_0 a0_1 a0_2 a0_3 a0_4 a0_5 a1_0).bind fun v1 =>
   if (v1.2 != 0) = true then
    some (v1.1, v1.2)
    else (r63 a0_0 a0_1 a0_2 a0_3 a0_4 a0_5 a1_1).bind fun v2 =>
     if (v2.2 != 0) = true then
      some (v2.1, v2.2)
      else iterC (b86_1 a1_0 a1_1) 1000000000 0
def T86 : TSpec (Int × Int × (List (Int × Int)) × (List ((List (Int × Int)))) × (List (Int × Int)) × (List ((List (Int × Int)))) × (List (Int)) × (List (Int))) where
  enc x := [.agg [.int .i64 x.1, .int .i64 x.2.1, encF 2 d_II x.2.2.1, encF 1 d_LIIE x.2.2.2.1, encF 2 d_II x.2.2.2.2.1, encF 1 d_LIIE x.2.2.2.2.2.1], .agg [encF 1 d_I x.2.2.2.2.2.2.1, encF 1 d_I x.2.2.2.2.2.2.2]]
  dec a := (dInt (aCell a 0 0), dInt (aCell a 0 1), decF g_II (aCell a 0 2), decF g_LIIE (aCell a 0 3), decF g_II (aCell a 0 4), decF g_LIIE (aCell a 0 5), decF g_I (aCell a 1 0), decF g_I (aCell a 1 1))
  pre x := (r86 x.1 x.2.1 x.2.2.1 x.2.2.2.1 x.2.2.2.2.1 x.2.2.2.2.2.1 x.2.2.2.2.2.2.1 x.2.2.2.2.2.2.2).isSome = true
  res x := [.c (.d (.int .i64 (((r86 x.1 x.2.1 x.2.2.1 x.2.2.2.1 x.2.2.2.2.1 x.2.2.2.2.2.1 x.2.2.2.2.2.2.1 x.2.2.2.2.2.2.2).getD default).1))), .c (.d (.int .i64 (((r86 x.1 x.2.1 x.2.2.1 x.2.2.2.1 x.2.2.2.2.1 x.2.2.2.2.2.1 x.2.2.2.2.2.2.1 x.2.2.2.2.2.2.2).getD default).2)))]
  al := false
def tb86 : Fns := lk [(63, T63.sp)]
theorem tb86_ok : FnsOk Tryz.prog tb86 := .cons f63 (FnsOk.nil)
theorem tb86_63 : tb86 63 = some T63.sp := rfl
theorem v86 : Valid Tryz.prog 86 T86.sp := by
  refine valid_t (fn := Tryz.f86) (n := 51) ty_ok tb86_ok Tryz.func86 rfl Tryz.ntmps86 ?_
  rintro ⟨a0_0, a0_1, a0_2, a0_3, a0_4, a0_5, a1_0, a1_1⟩ hx
  obtain ⟨r, hr⟩ := Option.isSome_iff_exists.1 (show (r86 a0_0 a0_1 a0_2 a0_3 a0_4 a0_5 a1_0 a1_1).isSome = true from hx)
  have hres : T86.res (a0_0, a0_1, a0_2, a0_3, a0_4, a0_5, a1_0, a1_1) = [.c (.d (.int .i64 r.1)), .c (.d (.int .i64 r.2))] := by simp only [T86, hr, Option.getD_some]
  refine ⟨Nat.le_of_ble_eq_true rfl, fun stop S => ?_⟩
  rw [hres] at S
  unfold r86 at hr
  refine S.goB [] 1000 ?_
  simp (maxSteps := 10000000) only [go_sem, tb86_63, T63, T86, Option.map_some, Int.reduceToNat, Nat.reduceEqDiff, Nat.reduceLT, Nat.reduceAdd, Nat.reduceMul, Nat.reduceSub, Nat.reduceLeDiff, reduceIte, reduceCtorEq, Tryz.results86]
  obtain ⟨v1, hv1, hr⟩ := of_bind0 hr
  try simp only [hv1, Option.getD_some, Option.isSome_some, true_and, and_assoc]
  repeat refine gA ?_
  refine ⟨fun hc => ?_, fun hc => ?_⟩
  · replace hr := ifP hr hc
    repeat refine gA ?_
    obtain rfl := Option.some.inj hr
    (simp (maxDischargeDepth := 8) [go_sem])
  · replace hr := ifN hr hc
    obtain ⟨v2, hv2, hr⟩ := of_bind0 hr
    try simp only [hv2, Option.getD_some, Option.isSome_some, true_and, and_assoc]
    repeat refine gA ?_
    refine ⟨fun hc => ?_, fun hc => ?_⟩
    · replace hr := ifP hr hc
      repeat refine gA ?_
      obtain rfl := Option.some.inj hr
      (simp (maxDischargeDepth := 8) [go_sem])
    · replace hr := ifN hr hc
      repeat refine gA ?_
      refine S.sees [3, 35, 36, 37] [(3, 3)] [] ?_ (Stop.iter S (fun s1 => ⟨[(3, .c (.ref 3 0)), (35, .c (.d (encF 1 d_I a1_0))), (36, .c (.d (.int .i64 (a1_0.length : Int)))), (37, .c (.d (.int .i64 s1)))], [(3, [.d (encF 1 d_I a1_0), .d (encF 1 d_I a1_1)])], []⟩) (b86_1 a1_0 a1_1) (fun q => q = r) hr rfl ?_)
      · (simp (maxDischargeDepth := 8) [go_sem])
      · intro s1 hr
        unfold b86_1 at hr
        refine S.goB [] 1000 ?_
        simp (maxSteps := 10000000) only [go_sem, tb86_63, T63, T86, Option.map_some, Int.reduceToNat, Nat.reduceEqDiff, Nat.reduceLT, Nat.reduceAdd, Nat.reduceMul, Nat.reduceSub, Nat.reduceLeDiff, reduceIte, reduceCtorEq, Tryz.results86]
        repeat refine gA ?_
        refine ⟨fun hc => ?_, fun hc => ?_⟩
        · replace hr := ifP1 hr hc
          obtain ⟨hg3, hr⟩ := of_guard1 hr
          obtain ⟨hg4, hr⟩ := of_guard1 hr
          repeat refine gA ?_
          refine ⟨fun hc => ?_, fun hc => ?_⟩
          · replace hr := ifP1 hr hc
            repeat refine gA ?_
            have hr := of_out0 hr
            obtain rfl := Option.some.inj hr
            (simp (maxDischargeDepth := 8) [go_sem])
          · replace hr := ifN1 hr hc
            repeat refine gA ?_
            refine S.sees [3, 35, 36, 37] [(3, 3)] [] ?_ hr
            (simp (maxDischargeDepth := 8) [go_sem])
        · replace hr := ifN1 hr hc
          repeat refine gA ?_
          have hr := of_out0 hr
          repeat refine gA ?_
          obtain rfl := Option.some.inj hr
          (simp (maxDischargeDepth := 8) [go_sem])
theorem f86 : FnFact Tryz.prog 86 T86.sp := ⟨⟨Tryz.f86, Tryz.func86, by decide, rfl⟩, v86⟩

/- martensite/heat.openBox -/
def r55 (a0_0 : Int) (a0_1 : Int) (a0_2 : List (Int × Int)) (a0_3 : List ((List (Int × Int)))) (a1_0 : List (Int)) (a1_1 : List (Int)) : Option (Int × Int × (List (Int × Int)) × (List ((List (Int × Int)))) × (List (Int × Int)) × (List ((List (Int × Int)))) × Int) :=
  (r62 a0_0 a0_1 a0_2 a0_3).bind fun v1 =>
   if (v1.2.2.2.2.2.2 == 0) = true then
    (r86 v1.1 v1.2.1 v1.2.2.1 v1.2.2.2.1 v1.2.2.2.2.1 v1.2.2.2.2.2.1 a1_0 a1_1).bind fun v2 =>
     some (v1.1, v1.2.1, v1.2.2.1, v1.2.2.2.1, v1.2.2.2.2.1, v1.2.2.2.2.2.1, v2.2)
    else some (v1.1, v1.2.1, v1.2.2.1, v1.2.2.2.1, v1.2.2.2.2.1, v1.2.2.2.2.2.1, v1.2.2.2.2.2.2)
def T55 : TSpec (Int × Int × (List (Int × Int)) × (List ((List (Int × Int)))) × (List (Int)) × (List (Int))) where
  enc x := [.agg [.int .i64 x.1, .int .i64 x.2.1, encF 2 d_II x.2.2.1, encF 1 d_LIIE x.2.2.2.1], .agg [encF 1 d_I x.2.2.2.2.1, encF 1 d_I x.2.2.2.2.2]]
  dec a := (dInt (aCell a 0 0), dInt (aCell a 0 1), decF g_II (aCell a 0 2), decF g_LIIE (aCell a 0 3), decF g_I (aCell a 1 0), decF g_I (aCell a 1 1))
  pre x := (r55 x.1 x.2.1 x.2.2.1 x.2.2.2.1 x.2.2.2.2.1 x.2.2.2.2.2).isSome = true
  res x := [.agg [.d (.int .i64 (((r55 x.1 x.2.1 x.2.2.1 x.2.2.2.1 x.2.2.2.2.1 x.2.2.2.2.2).getD default).1)), .d (.int .i64 (((r55 x.1 x.2.1 x.2.2.1 x.2.2.2.1 x.2.2.2.2.1 x.2.2.2.2.2).getD default).2.1)), .d (encF 2 d_II (((r55 x.1 x.2.1 x.2.2.1 x.2.2.2.1 x.2.2.2.2.1 x.2.2.2.2.2).getD default).2.2.1)), .d (encF 1 d_LIIE (((r55 x.1 x.2.1 x.2.2.1 x.2.2.2.1 x.2.2.2.2.1 x.2.2.2.2.2).getD default).2.2.2.1)), .own (encF 2 d_II (((r55 x.1 x.2.1 x.2.2.1 x.2.2.2.1 x.2.2.2.2.1 x.2.2.2.2.2).getD default).2.2.2.2.1)), .own (encF 1 d_LIIE (((r55 x.1 x.2.1 x.2.2.1 x.2.2.2.1 x.2.2.2.2.1 x.2.2.2.2.2).getD default).2.2.2.2.2.1))], .c (.d (.int .i64 (((r55 x.1 x.2.1 x.2.2.1 x.2.2.2.1 x.2.2.2.2.1 x.2.2.2.2.2).getD default).2.2.2.2.2.2)))]
  al := true
def tb55 : Fns := lk [(62, T62.sp), (86, T86.sp)]
theorem tb55_ok : FnsOk Tryz.prog tb55 := .cons f62 (.cons f86 (FnsOk.nil))
theorem tb55_62 : tb55 62 = some T62.sp := rfl
theorem tb55_86 : tb55 86 = some T86.sp := rfl
theorem v55 : Valid Tryz.prog 55 T55.sp := by
  refine valid_t (fn := Tryz.f55) (n := 23) ty_ok tb55_ok Tryz.func55 rfl Tryz.ntmps55 ?_
  rintro ⟨a0_0, a0_1, a0_2, a0_3, a1_0, a1_1⟩ hx
  obtain ⟨r, hr⟩ := Option.isSome_iff_exists.1 (show (r55 a0_0 a0_1 a0_2 a0_3 a1_0 a1_1).isSome = true from hx)
  have hres : T55.res (a0_0, a0_1, a0_2, a0_3, a1_0, a1_1) = [.agg [.d (.int .i64 r.1), .d (.int .i64 r.2.1), .d (encF 2 d_II r.2.2.1), .d (encF 1 d_LIIE r.2.2.2.1), .own (encF 2 d_II r.2.2.2.2.1), .own (encF 1 d_LIIE r.2.2.2.2.2.1)], .c (.d (.int .i64 r.2.2.2.2.2.2))] := by simp only [T55, hr, Option.getD_some]
  refine ⟨Nat.le_of_ble_eq_true rfl, fun stop S => ?_⟩
  rw [hres] at S
  unfold r55 at hr
  refine S.goB [] 1000 ?_
  simp (maxSteps := 10000000) only [go_sem, tb55_62, T62, tb55_86, T86, T55, Option.map_some, Int.reduceToNat, Nat.reduceEqDiff, Nat.reduceLT, Nat.reduceAdd, Nat.reduceMul, Nat.reduceSub, Nat.reduceLeDiff, reduceIte, reduceCtorEq, Tryz.results55]
  obtain ⟨v1, hv1, hr⟩ := of_bind0 hr
  try simp only [hv1, Option.getD_some, Option.isSome_some, true_and, and_assoc]
  repeat refine gA ?_
  refine ⟨fun hc => ?_, fun hc => ?_⟩
  · replace hr := ifP hr hc
    obtain ⟨v2, hv2, hr⟩ := of_bind0 hr
    try simp only [hv2, Option.getD_some, Option.isSome_some, true_and, and_assoc]
    repeat refine gA ?_
    obtain rfl := Option.some.inj hr
    (simp (maxDischargeDepth := 8) [go_sem])
  · replace hr := ifN hr hc
    repeat refine gA ?_
    obtain rfl := Option.some.inj hr
    (simp (maxDischargeDepth := 8) [go_sem])
theorem f55 : FnFact Tryz.prog 55 T55.sp := ⟨⟨Tryz.f55, Tryz.func55, by decide, rfl⟩, v55⟩

/- (martensite/heat.part).spanErr -/
def b56_1 (a0_0 : Int) (a0_1 : Int) (a0_2 : List (Int × Int)) (a0_3 : List ((List (Int × Int)))) (a0_4 : List (Int × Int)) (a0_5 : List ((List (Int × Int)))) (a1_0 : List (Int × Int)) (a1_1 : Int) (a1_2 : Int) : (Int × Int) → Ctl (Int × Int) (Int) := fun s1 =>
  if (decide (s1.2 < (a1_0.length : Int))) = true then
   if 0 ≤ s1.2 ∧ s1.2 < (a1_0.length : Int) then
    bindC (r80 ((a1_0.getD s1.2.toNat default).1)) fun v2 =>
     if v2 = true → (r80 ((a1_0.getD s1.2.toNat default).2)).isSome = true then
      bindC (r58 (v2 && ((r80 ((a1_0.getD s1.2.toNat default).2)).getD default)) 2) fun v3 =>
       bindC (r58 (decide (((a1_0.getD s1.2.toNat default).1) ≤ ((a1_0.getD s1.2.toNat default).2))) 9) fun v4 =>
        bindC (r32 [s1.1, v3, v4]) fun v5 =>
         .next (v5, IntKind.i64.wrap (s1.2 + 1))
      else .out none
    else .out none
   else .out ((r81 a0_0 a0_1 a0_2 a0_3 a0_4 a0_5 a1_1).bind fun v8 =>
    (r81 a0_0 a0_1 a0_2 a0_3 a0_4 a0_5 a1_2).bind fun v9 =>
     (r58 (decide (a1_1 ≤ a1_2)) 9).bind fun v10 =>
      (r32 [s1.1, v8, v9, v10]).bind fun v11 =>
       some v11)
def r56 (a0_0 : Int) (a0_1 : Int) (a0_2 : List (Int × Int)) (a0_3 : List ((List (Int × Int)))) (a0_4 : List (Int × Int)) (a0_5 : List ((List (Int × Int)))) (a1_0 : List (Int × Int)) (a1_1 : Int) (a1_2 : Int) : Option (Int) :=
  (r58 ((a1_0.length : Int) == a0_0) 10).bind fun v1 =>
   iterC (b56_1 a0_0 a0_1 a0_2 a0_3 a0_4 a0_5 a1_0 a1_1 a1_2) 1000000000 (v1, 0)
def T56 : TSpec (Int × Int × (List (Int × Int)) × (List ((List (Int × Int)))) × (List (Int × Int)) × (List ((List (Int × Int)))) × (List (Int × Int)) × Int × Int) where
  enc x := [.agg [.int .i64 x.1, .int .i64 x.2.1, encF 2 d_II x.2.2.1, encF 1 d_LIIE x.2.2.2.1, encF 2 d_II x.2.2.2.2.1, encF 1 d_LIIE x.2.2.2.2.2.1], .agg [encF 2 d_II x.2.2.2.2.2.2.1, .int .i64 x.2.2.2.2.2.2.2.1, .int .i64 x.2.2.2.2.2.2.2.2]]
  dec a := (dInt (aCell a 0 0), dInt (aCell a 0 1), decF g_II (aCell a 0 2), decF g_LIIE (aCell a 0 3), decF g_II (aCell a 0 4), decF g_LIIE (aCell a 0 5), decF g_II (aCell a 1 0), dInt (aCell a 1 1), dInt (aCell a 1 2))
  pre x := (r56 x.1 x.2.1 x.2.2.1 x.2.2.2.1 x.2.2.2.2.1 x.2.2.2.2.2.1 x.2.2.2.2.2.2.1 x.2.2.2.2.2.2.2.1 x.2.2.2.2.2.2.2.2).isSome = true
  res x := [.c (.d (.int .i64 ((r56 x.1 x.2.1 x.2.2.1 x.2.2.2.1 x.2.2.2.2.1 x.2.2.2.2.2.1 x.2.2.2.2.2.2.1 x.2.2.2.2.2.2.2.1 x.2.2.2.2.2.2.2.2).getD default)))]
  al := false
def tb56 : Fns := lk [(32, T32.sp), (58, T58.sp), (80, T80.sp), (81, T81.sp)]
theorem tb56_ok : FnsOk Tryz.prog tb56 := .cons f32 (.cons f58 (.cons f80 (.cons f81 (FnsOk.nil))))
theorem tb56_32 : tb56 32 = some T32.sp := rfl
theorem tb56_58 : tb56 58 = some T58.sp := rfl
theorem tb56_80 : tb56 80 = some T80.sp := rfl
theorem tb56_81 : tb56 81 = some T81.sp := rfl
theorem v56 : Valid Tryz.prog 56 T56.sp := by
  refine valid_t (fn := Tryz.f56) (n := 63) ty_ok tb56_ok Tryz.func56 rfl Tryz.ntmps56 ?_
  rintro ⟨a0_0, a0_1, a0_2, a0_3, a0_4, a0_5, a1_0, a1_1, a1_2⟩ hx
  obtain ⟨r, hr⟩ := Option.isSome_iff_exists.1 (show (r56 a0_0 a0_1 a0_2 a0_3 a0_4 a0_5 a1_0 a1_1 a1_2).isSome = true from hx)
  have hres : T56.res (a0_0, a0_1, a0_2, a0_3, a0_4, a0_5, a1_0, a1_1, a1_2) = [.c (.d (.int .i64 r))] := by simp only [T56, hr, Option.getD_some]
  refine ⟨Nat.le_of_ble_eq_true rfl, fun stop S => ?_⟩
  rw [hres] at S
  unfold r56 at hr
  refine S.goB [] 1000 ?_
  simp (maxSteps := 10000000) only [go_sem, tb56_32, T32, tb56_58, T58, tb56_80, T80, tb56_81, T81, T56, Option.map_some, Int.reduceToNat, Nat.reduceEqDiff, Nat.reduceLT, Nat.reduceAdd, Nat.reduceMul, Nat.reduceSub, Nat.reduceLeDiff, reduceIte, reduceCtorEq, Tryz.results56]
  obtain ⟨v1, hv1, hr⟩ := of_bind0 hr
  try simp only [hv1, Option.getD_some, Option.isSome_some, true_and, and_assoc]
  repeat refine gA ?_
  refine S.sees [2, 3, 5, 17, 18, 19] [(2, 2), (3, 3)] [] ?_ (Stop.iter S (fun s1 => ⟨[(2, .c (.ref 2 0)), (3, .c (.ref 3 0)), (5, .c (.d (.int .i64 s1.1))), (17, .c (.d (encF 2 d_II a1_0))), (18, .c (.d (.int .i64 (a1_0.length : Int)))), (19, .c (.d (.int .i64 s1.2)))], [(2, [.d (.int .i64 a0_0), .d (.int .i64 a0_1), .d (encF 2 d_II a0_2), .d (encF 1 d_LIIE a0_3), .d (encF 2 d_II a0_4), .d (encF 1 d_LIIE a0_5)]), (3, [.d (encF 2 d_II a1_0), .d (.int .i64 a1_1), .d (.int .i64 a1_2)])], []⟩) (b56_1 a0_0 a0_1 a0_2 a0_3 a0_4 a0_5 a1_0 a1_1 a1_2) (fun q => q = r) hr rfl ?_)
  · (simp (maxDischargeDepth := 8) [go_sem])
  · intro s1 hr
    unfold b56_1 at hr
    refine S.goB [] 1000 ?_
    simp (maxSteps := 10000000) only [go_sem, tb56_32, T32, tb56_58, T58, tb56_80, T80, tb56_81, T81, T56, Option.map_some, Int.reduceToNat, Nat.reduceEqDiff, Nat.reduceLT, Nat.reduceAdd, Nat.reduceMul, Nat.reduceSub, Nat.reduceLeDiff, reduceIte, reduceCtorEq, Tryz.results56]
    repeat refine gA ?_
    refine ⟨fun hc => ?_, fun hc => ?_⟩
    · replace hr := ifP1 hr hc
      obtain ⟨hg6, hr⟩ := of_guard1 hr
      obtain ⟨v2, hv2, hr⟩ := of_bind1 hr
      obtain ⟨hg7, hr⟩ := of_guard1 hr
      obtain ⟨v3, hv3, hr⟩ := of_bind1 hr
      obtain ⟨v4, hv4, hr⟩ := of_bind1 hr
      obtain ⟨v5, hv5, hr⟩ := of_bind1 hr
      try simp only [hv2, hv3, hv4, hv5, Option.getD_some, Option.isSome_some, true_and, and_assoc]
      repeat (first | refine gG hg7 ?_ | refine gA ?_ | refine gB ?_)
      refine S.sees [2, 3, 5, 17, 18, 19] [(2, 2), (3, 3)] [] ?_ hr
      (simp (maxDischargeDepth := 8) [go_sem])
    · replace hr := ifN1 hr hc
      repeat refine gA ?_
      have hr := of_out0 hr
      obtain ⟨v8, hv8, hr⟩ := of_bind0 hr
      obtain ⟨v9, hv9, hr⟩ := of_bind0 hr
      obtain ⟨v10, hv10, hr⟩ := of_bind0 hr
      obtain ⟨v11, hv11, hr⟩ := of_bind0 hr
      try simp only [hv8, hv9, hv10, hv11, Option.getD_some, Option.isSome_some, true_and, and_assoc]
      repeat refine gA ?_
      obtain rfl := Option.some.inj hr
      (simp (maxDischargeDepth := 8) [go_sem])
theorem f56 : FnFact Tryz.prog 56 T56.sp := ⟨⟨Tryz.f56, Tryz.func56, by decide, rfl⟩, v56⟩

/- martensite/heat.drives -/
def b71_1 (a0_0 : List (Int × Int)) (a0_1 : Int) (a0_2 : Int) : (Int × (List (Int)) × (List (Int))) → Ctl (Int × (List (Int)) × (List (Int))) ((List (Int)) × Int × (List (Int)) × Int) := fun s1 =>
  if (decide (s1.1 < (a0_0.length : Int))) = true then
   if 0 ≤ s1.1 ∧ s1.1 < (a0_0.length : Int) then
    if (s1.2.1.length + 1) * 8 ≤ 140737488355328 ∧ s1.2.1.length + 1 ≤ 9223372036854775807 then
     if (s1.2.2.length + 1) * 8 ≤ 140737488355328 ∧ s1.2.2.length + 1 ≤ 9223372036854775807 then
      .next (IntKind.i64.wrap (s1.1 + 1), s1.2.1 ++ [(a0_0.getD s1.1.toNat default).1], s1.2.2 ++ [(a0_0.getD s1.1.toNat default).2])
      else .out none
     else .out none
    else .out none
   else .out (some (s1.2.1, a0_2, s1.2.2, a0_1))
def r71 (a0_0 : List (Int × Int)) (a0_1 : Int) (a0_2 : Int) : Option ((List (Int)) × Int × (List (Int)) × Int) :=
  iterC (b71_1 a0_0 a0_1 a0_2) 1000000000 (0, [], [])
def T71 : TSpec ((List (Int × Int)) × Int × Int) where
  enc x := [.agg [encF 2 d_II x.1, .int .i64 x.2.1, .int .i64 x.2.2]]
  dec a := (decF g_II (aCell a 0 0), dInt (aCell a 0 1), dInt (aCell a 0 2))
  pre x := (r71 x.1 x.2.1 x.2.2).isSome = true
  res x := [.agg [.own (encF 1 d_I (((r71 x.1 x.2.1 x.2.2).getD default).1)), .d (.int .i64 (((r71 x.1 x.2.1 x.2.2).getD default).2.1))], .agg [.own (encF 1 d_I (((r71 x.1 x.2.1 x.2.2).getD default).2.2.1)), .d (.int .i64 (((r71 x.1 x.2.1 x.2.2).getD default).2.2.2))]]
  al := false
def tb71 : Fns := lk []
theorem tb71_ok : FnsOk Tryz.prog tb71 := FnsOk.nil
theorem v71 : Valid Tryz.prog 71 T71.sp := by
  refine valid_t (fn := Tryz.f71) (n := 38) ty_ok tb71_ok Tryz.func71 rfl Tryz.ntmps71 ?_
  rintro ⟨a0_0, a0_1, a0_2⟩ hx
  obtain ⟨r, hr⟩ := Option.isSome_iff_exists.1 (show (r71 a0_0 a0_1 a0_2).isSome = true from hx)
  have hres : T71.res (a0_0, a0_1, a0_2) = [.agg [.own (encF 1 d_I r.1), .d (.int .i64 r.2.1)], .agg [.own (encF 1 d_I r.2.2.1), .d (.int .i64 r.2.2.2)]] := by simp only [T71, hr, Option.getD_some]
  refine ⟨Nat.le_of_ble_eq_true rfl, fun stop S => ?_⟩
  rw [hres] at S
  unfold r71 at hr
  refine S.goB [] 1000 ?_
  simp (maxSteps := 10000000) only [go_sem, T71, Option.map_some, Int.reduceToNat, Nat.reduceEqDiff, Nat.reduceLT, Nat.reduceAdd, Nat.reduceMul, Nat.reduceSub, Nat.reduceLeDiff, reduceIte, reduceCtorEq, Tryz.results71]
  repeat refine gA ?_
  refine S.own0b 2 0 2000200 1 rfl rfl (Nat.le_of_ble_eq_true rfl) rfl ?_
  refine S.own0b 3 0 2000300 1 rfl rfl (Nat.le_of_ble_eq_true rfl) rfl ?_
  refine S.sees [2, 3, 15, 16, 17] [(2, 2), (3, 3)] [(2000200, 2000200), (2000300, 2000300)] ?_ (Stop.iter S (fun s1 => ⟨[(2, .c (.ref 2 0)), (3, .c (.ref 3 0)), (15, .c (.d (encF 2 d_II a0_0))), (16, .c (.d (.int .i64 (a0_0.length : Int)))), (17, .c (.d (.int .i64 s1.1)))], [(2, [.own 2000200, .d (.int .i64 a0_2)]), (3, [.own 2000300, .d (.int .i64 a0_1)])], [(2000200, .owned (encF 1 d_I s1.2.1)), (2000300, .owned (encF 1 d_I s1.2.2))]⟩) (b71_1 a0_0 a0_1 a0_2) (fun q => q = r) hr rfl ?_)
  · (simp (maxDischargeDepth := 8) [go_sem])
  · intro s1 hr
    unfold b71_1 at hr
    refine S.goB [] 1000 ?_
    simp (maxSteps := 10000000) only [go_sem, T71, Option.map_some, Int.reduceToNat, Nat.reduceEqDiff, Nat.reduceLT, Nat.reduceAdd, Nat.reduceMul, Nat.reduceSub, Nat.reduceLeDiff, reduceIte, reduceCtorEq, Tryz.results71]
    repeat refine gA ?_
    refine ⟨fun hc => ?_, fun hc => ?_⟩
    · replace hr := ifP1 hr hc
      obtain ⟨hg1, hr⟩ := of_guard1 hr
      obtain ⟨hg2, hr⟩ := of_guard1 hr
      obtain ⟨hg3, hr⟩ := of_guard1 hr
      repeat refine gA ?_
      refine S.sees [2, 3, 15, 16, 17] [(2, 2), (3, 3)] [(26, 2000200), (32, 2000300)] ?_ hr
      (simp (maxDischargeDepth := 8) [go_sem])
    · replace hr := ifN1 hr hc
      repeat refine gA ?_
      have hr := of_out0 hr
      repeat refine gA ?_
      obtain rfl := Option.some.inj hr
      (simp (maxDischargeDepth := 8) [go_sem])
theorem f71 : FnFact Tryz.prog 71 T71.sp := ⟨⟨Tryz.f71, Tryz.func71, by decide, rfl⟩, v71⟩

/- (martensite/heat.part).boxStep -/
def r42 (a0_0 : Int) (a0_1 : Int) (a0_2 : List (Int × Int)) (a0_3 : List ((List (Int × Int)))) (a0_4 : List (Int × Int)) (a0_5 : List ((List (Int × Int)))) (a1_0 : List (Int)) (a1_1 : List (Int)) (a2_0 : List (Int × Int)) (a2_1 : Int) (a2_2 : Int) : Option ((List (Int)) × (List (Int)) × Int) :=
  (r71 a2_0 a2_1 a2_2).bind fun v1 =>
   (r54 a0_0 a0_1 a0_2 a0_3 a0_4 a0_5 a1_0 v1.1 v1.2.1).bind fun v2 =>
    (r54 a0_0 a0_1 a0_2 a0_3 a0_4 a0_5 a1_1 v1.2.2.1 v1.2.2.2).bind fun v3 =>
     (r32 [v2.2.2, v3.2.2]).bind fun v4 =>
      if (v4 != 0) = true then
       some ([], [], v4)
       else some (v2.1, v3.1, 0)
def T42 : TSpec (Int × Int × (List (Int × Int)) × (List ((List (Int × Int)))) × (List (Int × Int)) × (List ((List (Int × Int)))) × (List (Int)) × (List (Int)) × (List (Int × Int)) × Int × Int) where
  enc x := [.agg [.int .i64 x.1, .int .i64 x.2.1, encF 2 d_II x.2.2.1, encF 1 d_LIIE x.2.2.2.1, encF 2 d_II x.2.2.2.2.1, encF 1 d_LIIE x.2.2.2.2.2.1], .agg [encF 1 d_I x.2.2.2.2.2.2.1, encF 1 d_I x.2.2.2.2.2.2.2.1], .agg [encF 2 d_II x.2.2.2.2.2.2.2.2.1, .int .i64 x.2.2.2.2.2.2.2.2.2.1, .int .i64 x.2.2.2.2.2.2.2.2.2.2]]
  dec a := (dInt (aCell a 0 0), dInt (aCell a 0 1), decF g_II (aCell a 0 2), decF g_LIIE (aCell a 0 3), decF g_II (aCell a 0 4), decF g_LIIE (aCell a 0 5), decF g_I (aCell a 1 0), decF g_I (aCell a 1 1), decF g_II (aCell a 2 0), dInt (aCell a 2 1), dInt (aCell a 2 2))
  pre x := (r42 x.1 x.2.1 x.2.2.1 x.2.2.2.1 x.2.2.2.2.1 x.2.2.2.2.2.1 x.2.2.2.2.2.2.1 x.2.2.2.2.2.2.2.1 x.2.2.2.2.2.2.2.2.1 x.2.2.2.2.2.2.2.2.2.1 x.2.2.2.2.2.2.2.2.2.2).isSome = true
  res x := [.agg [.own (encF 1 d_I (((r42 x.1 x.2.1 x.2.2.1 x.2.2.2.1 x.2.2.2.2.1 x.2.2.2.2.2.1 x.2.2.2.2.2.2.1 x.2.2.2.2.2.2.2.1 x.2.2.2.2.2.2.2.2.1 x.2.2.2.2.2.2.2.2.2.1 x.2.2.2.2.2.2.2.2.2.2).getD default).1)), .own (encF 1 d_I (((r42 x.1 x.2.1 x.2.2.1 x.2.2.2.1 x.2.2.2.2.1 x.2.2.2.2.2.1 x.2.2.2.2.2.2.1 x.2.2.2.2.2.2.2.1 x.2.2.2.2.2.2.2.2.1 x.2.2.2.2.2.2.2.2.2.1 x.2.2.2.2.2.2.2.2.2.2).getD default).2.1))], .c (.d (.int .i64 (((r42 x.1 x.2.1 x.2.2.1 x.2.2.2.1 x.2.2.2.2.1 x.2.2.2.2.2.1 x.2.2.2.2.2.2.1 x.2.2.2.2.2.2.2.1 x.2.2.2.2.2.2.2.2.1 x.2.2.2.2.2.2.2.2.2.1 x.2.2.2.2.2.2.2.2.2.2).getD default).2.2)))]
  al := false
def tb42 : Fns := lk [(32, T32.sp), (54, T54.sp), (71, T71.sp)]
theorem tb42_ok : FnsOk Tryz.prog tb42 := .cons f32 (.cons f54 (.cons f71 (FnsOk.nil)))
theorem tb42_32 : tb42 32 = some T32.sp := rfl
theorem tb42_54 : tb42 54 = some T54.sp := rfl
theorem tb42_71 : tb42 71 = some T71.sp := rfl
theorem v42 : Valid Tryz.prog 42 T42.sp := by
  refine valid_t (fn := Tryz.f42) (n := 50) ty_ok tb42_ok Tryz.func42 rfl Tryz.ntmps42 ?_
  rintro ⟨a0_0, a0_1, a0_2, a0_3, a0_4, a0_5, a1_0, a1_1, a2_0, a2_1, a2_2⟩ hx
  obtain ⟨r, hr⟩ := Option.isSome_iff_exists.1 (show (r42 a0_0 a0_1 a0_2 a0_3 a0_4 a0_5 a1_0 a1_1 a2_0 a2_1 a2_2).isSome = true from hx)
  have hres : T42.res (a0_0, a0_1, a0_2, a0_3, a0_4, a0_5, a1_0, a1_1, a2_0, a2_1, a2_2) = [.agg [.own (encF 1 d_I r.1), .own (encF 1 d_I r.2.1)], .c (.d (.int .i64 r.2.2))] := by simp only [T42, hr, Option.getD_some]
  refine ⟨Nat.le_of_ble_eq_true rfl, fun stop S => ?_⟩
  rw [hres] at S
  unfold r42 at hr
  refine S.goB [] 1000 ?_
  simp (maxSteps := 10000000) only [go_sem, tb42_32, T32, tb42_54, T54, tb42_71, T71, T42, Option.map_some, Int.reduceToNat, Nat.reduceEqDiff, Nat.reduceLT, Nat.reduceAdd, Nat.reduceMul, Nat.reduceSub, Nat.reduceLeDiff, reduceIte, reduceCtorEq, Tryz.results42]
  obtain ⟨v1, hv1, hr⟩ := of_bind0 hr
  obtain ⟨v2, hv2, hr⟩ := of_bind0 hr
  obtain ⟨v3, hv3, hr⟩ := of_bind0 hr
  obtain ⟨v4, hv4, hr⟩ := of_bind0 hr
  try simp only [hv1, hv2, hv3, hv4, Option.getD_some, Option.isSome_some, true_and, and_assoc]
  repeat refine gA ?_
  refine ⟨fun hc => ?_, fun hc => ?_⟩
  · replace hr := ifP hr hc
    repeat refine gA ?_
    obtain rfl := Option.some.inj hr
    (simp (maxDischargeDepth := 8) [go_sem])
  · replace hr := ifN hr hc
    repeat refine gA ?_
    obtain rfl := Option.some.inj hr
    (simp (maxDischargeDepth := 8) [go_sem])
theorem f42 : FnFact Tryz.prog 42 T42.sp := ⟨⟨Tryz.f42, Tryz.func42, by decide, rfl⟩, v42⟩

/- martensite/heat.BoxStep -/
def r24 (a0_0 : Int) (a0_1 : Int) (a0_2 : List (Int × Int)) (a0_3 : List ((List (Int × Int)))) (a1_0 : List (Int)) (a1_1 : List (Int)) (a2_0 : List (Int × Int)) (a2_1 : Int) (a2_2 : Int) : Option ((List (Int)) × (List (Int)) × Int) :=
  (r55 a0_0 a0_1 a0_2 a0_3 a1_0 a1_1).bind fun v1 =>
   if (v1.2.2.2.2.2.2 == 0) = true then
    (r56 v1.1 v1.2.1 v1.2.2.1 v1.2.2.2.1 v1.2.2.2.2.1 v1.2.2.2.2.2.1 a2_0 a2_1 a2_2).bind fun v2 =>
     if (v2 != 0) = true then
      some ([], [], v2)
      else (r42 v1.1 v1.2.1 v1.2.2.1 v1.2.2.2.1 v1.2.2.2.2.1 v1.2.2.2.2.2.1 a1_0 a1_1 a2_0 a2_1 a2_2).bind fun v3 =>
       some (v3.1, v3.2.1, v3.2.2)
    else if (v1.2.2.2.2.2.2 != 0) = true then
     some ([], [], v1.2.2.2.2.2.2)
     else (r42 v1.1 v1.2.1 v1.2.2.1 v1.2.2.2.1 v1.2.2.2.2.1 v1.2.2.2.2.2.1 a1_0 a1_1 a2_0 a2_1 a2_2).bind fun v4 =>
      some (v4.1, v4.2.1, v4.2.2)
def T24 : TSpec (Int × Int × (List (Int × Int)) × (List ((List (Int × Int)))) × (List (Int)) × (List (Int)) × (List (Int × Int)) × Int × Int) where
  enc x := [.agg [.int .i64 x.1, .int .i64 x.2.1, encF 2 d_II x.2.2.1, encF 1 d_LIIE x.2.2.2.1], .agg [encF 1 d_I x.2.2.2.2.1, encF 1 d_I x.2.2.2.2.2.1], .agg [encF 2 d_II x.2.2.2.2.2.2.1, .int .i64 x.2.2.2.2.2.2.2.1, .int .i64 x.2.2.2.2.2.2.2.2]]
  dec a := (dInt (aCell a 0 0), dInt (aCell a 0 1), decF g_II (aCell a 0 2), decF g_LIIE (aCell a 0 3), decF g_I (aCell a 1 0), decF g_I (aCell a 1 1), decF g_II (aCell a 2 0), dInt (aCell a 2 1), dInt (aCell a 2 2))
  pre x := (r24 x.1 x.2.1 x.2.2.1 x.2.2.2.1 x.2.2.2.2.1 x.2.2.2.2.2.1 x.2.2.2.2.2.2.1 x.2.2.2.2.2.2.2.1 x.2.2.2.2.2.2.2.2).isSome = true
  res x := [.agg [.own (encF 1 d_I (((r24 x.1 x.2.1 x.2.2.1 x.2.2.2.1 x.2.2.2.2.1 x.2.2.2.2.2.1 x.2.2.2.2.2.2.1 x.2.2.2.2.2.2.2.1 x.2.2.2.2.2.2.2.2).getD default).1)), .own (encF 1 d_I (((r24 x.1 x.2.1 x.2.2.1 x.2.2.2.1 x.2.2.2.2.1 x.2.2.2.2.2.1 x.2.2.2.2.2.2.1 x.2.2.2.2.2.2.2.1 x.2.2.2.2.2.2.2.2).getD default).2.1))], .c (.d (.int .i64 (((r24 x.1 x.2.1 x.2.2.1 x.2.2.2.1 x.2.2.2.2.1 x.2.2.2.2.2.1 x.2.2.2.2.2.2.1 x.2.2.2.2.2.2.2.1 x.2.2.2.2.2.2.2.2).getD default).2.2)))]
  al := false
def tb24 : Fns := lk [(42, T42.sp), (55, T55.sp), (56, T56.sp)]
theorem tb24_ok : FnsOk Tryz.prog tb24 := .cons f42 (.cons f55 (.cons f56 (FnsOk.nil)))
theorem tb24_42 : tb24 42 = some T42.sp := rfl
theorem tb24_55 : tb24 55 = some T55.sp := rfl
theorem tb24_56 : tb24 56 = some T56.sp := rfl
theorem v24 : Valid Tryz.prog 24 T24.sp := by
  refine valid_t (fn := Tryz.f24) (n := 31) ty_ok tb24_ok Tryz.func24 rfl Tryz.ntmps24 ?_
  rintro ⟨a0_0, a0_1, a0_2, a0_3, a1_0, a1_1, a2_0, a2_1, a2_2⟩ hx
  obtain ⟨r, hr⟩ := Option.isSome_iff_exists.1 (show (r24 a0_0 a0_1 a0_2 a0_3 a1_0 a1_1 a2_0 a2_1 a2_2).isSome = true from hx)
  have hres : T24.res (a0_0, a0_1, a0_2, a0_3, a1_0, a1_1, a2_0, a2_1, a2_2) = [.agg [.own (encF 1 d_I r.1), .own (encF 1 d_I r.2.1)], .c (.d (.int .i64 r.2.2))] := by simp only [T24, hr, Option.getD_some]
  refine ⟨Nat.le_of_ble_eq_true rfl, fun stop S => ?_⟩
  rw [hres] at S
  unfold r24 at hr
  refine S.goB [] 1000 ?_
  simp (maxSteps := 10000000) only [go_sem, tb24_42, T42, tb24_55, T55, tb24_56, T56, T24, Option.map_some, Int.reduceToNat, Nat.reduceEqDiff, Nat.reduceLT, Nat.reduceAdd, Nat.reduceMul, Nat.reduceSub, Nat.reduceLeDiff, reduceIte, reduceCtorEq, Tryz.results24]
  obtain ⟨v1, hv1, hr⟩ := of_bind0 hr
  try simp only [hv1, Option.getD_some, Option.isSome_some, true_and, and_assoc]
  repeat refine gA ?_
  refine ⟨fun hc => ?_, fun hc => ?_⟩
  · replace hr := ifP hr hc
    obtain ⟨v2, hv2, hr⟩ := of_bind0 hr
    try simp only [hv2, Option.getD_some, Option.isSome_some, true_and, and_assoc]
    repeat refine gA ?_
    refine ⟨fun hc => ?_, fun hc => ?_⟩
    · replace hr := ifP hr hc
      repeat refine gA ?_
      obtain rfl := Option.some.inj hr
      (simp (maxDischargeDepth := 8) [go_sem])
    · replace hr := ifN hr hc
      obtain ⟨v3, hv3, hr⟩ := of_bind0 hr
      try simp only [hv3, Option.getD_some, Option.isSome_some, true_and, and_assoc]
      repeat refine gA ?_
      obtain rfl := Option.some.inj hr
      (simp (maxDischargeDepth := 8) [go_sem])
  · replace hr := ifN hr hc
    repeat refine gA ?_
    refine ⟨fun hc => ?_, fun hc => ?_⟩
    · replace hr := ifP hr hc
      repeat refine gA ?_
      obtain rfl := Option.some.inj hr
      (simp (maxDischargeDepth := 8) [go_sem])
    · replace hr := ifN hr hc
      obtain ⟨v4, hv4, hr⟩ := of_bind0 hr
      try simp only [hv4, Option.getD_some, Option.isSome_some, true_and, and_assoc]
      repeat refine gA ?_
      obtain rfl := Option.some.inj hr
      (simp (maxDischargeDepth := 8) [go_sem])
theorem f24 : FnFact Tryz.prog 24 T24.sp := ⟨⟨Tryz.f24, Tryz.func24, by decide, rfl⟩, v24⟩

/- martensite/heat.kelvinErr -/
def r33 (a0 : Int) : Option (Int) :=
  (r64 a0).bind fun v1 =>
   (r58 v1 2).bind fun v2 =>
    some v2
def T33 : TSpec (Int) where
  enc x := [.c (.int .i64 x)]
  dec a := dInt (aCell a 0 0)
  pre x := (r33 x).isSome = true
  res x := [.c (.d (.int .i64 ((r33 x).getD default)))]
  al := false
def tb33 : Fns := lk [(58, T58.sp), (64, T64.sp)]
theorem tb33_ok : FnsOk Tryz.prog tb33 := .cons f58 (.cons f64 (FnsOk.nil))
theorem tb33_58 : tb33 58 = some T58.sp := rfl
theorem tb33_64 : tb33 64 = some T64.sp := rfl
theorem v33 : Valid Tryz.prog 33 T33.sp := by
  refine valid_t (fn := Tryz.f33) (n := 6) ty_ok tb33_ok Tryz.func33 rfl Tryz.ntmps33 ?_
  rintro a0 hx
  obtain ⟨r, hr⟩ := Option.isSome_iff_exists.1 (show (r33 a0).isSome = true from hx)
  have hres : T33.res a0 = [.c (.d (.int .i64 r))] := by simp only [T33, hr, Option.getD_some]
  refine ⟨Nat.le_of_ble_eq_true rfl, fun stop S => ?_⟩
  rw [hres] at S
  unfold r33 at hr
  refine S.goB [] 1000 ?_
  simp (maxSteps := 10000000) only [go_sem, tb33_58, T58, tb33_64, T64, T33, Option.map_some, Int.reduceToNat, Nat.reduceEqDiff, Nat.reduceLT, Nat.reduceAdd, Nat.reduceMul, Nat.reduceSub, Nat.reduceLeDiff, reduceIte, reduceCtorEq, Tryz.results33]
  obtain ⟨v1, hv1, hr⟩ := of_bind0 hr
  obtain ⟨v2, hv2, hr⟩ := of_bind0 hr
  try simp only [hv1, hv2, Option.getD_some, Option.isSome_some, true_and, and_assoc]
  repeat refine gA ?_
  obtain rfl := Option.some.inj hr
  (simp (maxDischargeDepth := 8) [go_sem])
theorem f33 : FnFact Tryz.prog 33 T33.sp := ⟨⟨Tryz.f33, Tryz.func33, by decide, rfl⟩, v33⟩

/- (martensite/heat.part).compared -/
def r40 (a0_0 : Int) (a0_1 : Int) (a0_2 : List (Int × Int)) (a0_3 : List ((List (Int × Int)))) (a0_4 : List (Int × Int)) (a0_5 : List ((List (Int × Int)))) (a1 : Int) (a2 : Int) : Option (Int) :=
  (r70 a0_0 a0_1 a0_2 a0_3 a0_4 a0_5 a1).bind fun v1 =>
   some (IntKind.i64.wrap (v1.1 - (IntKind.i64.wrap (a2 * v1.2))))
def T40 : TSpec (Int × Int × (List (Int × Int)) × (List ((List (Int × Int)))) × (List (Int × Int)) × (List ((List (Int × Int)))) × Int × Int) where
  enc x := [.agg [.int .i64 x.1, .int .i64 x.2.1, encF 2 d_II x.2.2.1, encF 1 d_LIIE x.2.2.2.1, encF 2 d_II x.2.2.2.2.1, encF 1 d_LIIE x.2.2.2.2.2.1], .c (.int .i64 x.2.2.2.2.2.2.1), .c (.int .i64 x.2.2.2.2.2.2.2)]
  dec a := (dInt (aCell a 0 0), dInt (aCell a 0 1), decF g_II (aCell a 0 2), decF g_LIIE (aCell a 0 3), decF g_II (aCell a 0 4), decF g_LIIE (aCell a 0 5), dInt (aCell a 1 0), dInt (aCell a 2 0))
  pre x := (r40 x.1 x.2.1 x.2.2.1 x.2.2.2.1 x.2.2.2.2.1 x.2.2.2.2.2.1 x.2.2.2.2.2.2.1 x.2.2.2.2.2.2.2).isSome = true
  res x := [.c (.d (.int .i64 ((r40 x.1 x.2.1 x.2.2.1 x.2.2.2.1 x.2.2.2.2.1 x.2.2.2.2.2.1 x.2.2.2.2.2.2.1 x.2.2.2.2.2.2.2).getD default)))]
  al := false
def tb40 : Fns := lk [(70, T70.sp)]
theorem tb40_ok : FnsOk Tryz.prog tb40 := .cons f70 (FnsOk.nil)
theorem tb40_70 : tb40 70 = some T70.sp := rfl
theorem v40 : Valid Tryz.prog 40 T40.sp := by
  refine valid_t (fn := Tryz.f40) (n := 18) ty_ok tb40_ok Tryz.func40 rfl Tryz.ntmps40 ?_
  rintro ⟨a0_0, a0_1, a0_2, a0_3, a0_4, a0_5, a1, a2⟩ hx
  obtain ⟨r, hr⟩ := Option.isSome_iff_exists.1 (show (r40 a0_0 a0_1 a0_2 a0_3 a0_4 a0_5 a1 a2).isSome = true from hx)
  have hres : T40.res (a0_0, a0_1, a0_2, a0_3, a0_4, a0_5, a1, a2) = [.c (.d (.int .i64 r))] := by simp only [T40, hr, Option.getD_some]
  refine ⟨Nat.le_of_ble_eq_true rfl, fun stop S => ?_⟩
  rw [hres] at S
  unfold r40 at hr
  refine S.goB [] 1000 ?_
  simp (maxSteps := 10000000) only [go_sem, tb40_70, T70, T40, Option.map_some, Int.reduceToNat, Nat.reduceEqDiff, Nat.reduceLT, Nat.reduceAdd, Nat.reduceMul, Nat.reduceSub, Nat.reduceLeDiff, reduceIte, reduceCtorEq, Tryz.results40]
  obtain ⟨v1, hv1, hr⟩ := of_bind0 hr
  try simp only [hv1, Option.getD_some, Option.isSome_some, true_and, and_assoc]
  repeat refine gA ?_
  obtain rfl := Option.some.inj hr
  (simp (maxDischargeDepth := 8) [go_sem])
theorem f40 : FnFact Tryz.prog 40 T40.sp := ⟨⟨Tryz.f40, Tryz.func40, by decide, rfl⟩, v40⟩

/- (martensite/heat.part).depth$1 -/
def r66 (a0 : Int) (a1_0 : Int) (a1_1 : Int) (a1_2 : List (Int × Int)) (a1_3 : List ((List (Int × Int)))) (a1_4 : List (Int × Int)) (a1_5 : List ((List (Int × Int)))) (a2_0 : Int) : Option (Bool) :=
  (r40 a1_0 a1_1 a1_2 a1_3 a1_4 a1_5 a0 a2_0).bind fun v1 =>
   some (decide (v1 < 0))
def T66 : TSpec (Int × Int × Int × (List (Int × Int)) × (List ((List (Int × Int)))) × (List (Int × Int)) × (List ((List (Int × Int)))) × Int) where
  enc x := [.c (.int .i64 x.1), .ptr [.int .i64 x.2.1, .int .i64 x.2.2.1, encF 2 d_II x.2.2.2.1, encF 1 d_LIIE x.2.2.2.2.1, encF 2 d_II x.2.2.2.2.2.1, encF 1 d_LIIE x.2.2.2.2.2.2.1], .ptr [.int .i64 x.2.2.2.2.2.2.2]]
  dec a := (dInt (aCell a 0 0), dInt (aCell a 1 0), dInt (aCell a 1 1), decF g_II (aCell a 1 2), decF g_LIIE (aCell a 1 3), decF g_II (aCell a 1 4), decF g_LIIE (aCell a 1 5), dInt (aCell a 2 0))
  pre x := (r66 x.1 x.2.1 x.2.2.1 x.2.2.2.1 x.2.2.2.2.1 x.2.2.2.2.2.1 x.2.2.2.2.2.2.1 x.2.2.2.2.2.2.2).isSome = true
  res x := [.c (.d (.bool ((r66 x.1 x.2.1 x.2.2.1 x.2.2.2.1 x.2.2.2.2.1 x.2.2.2.2.2.1 x.2.2.2.2.2.2.1 x.2.2.2.2.2.2.2).getD default)))]
  al := false
def tb66 : Fns := lk [(40, T40.sp)]
theorem tb66_ok : FnsOk Tryz.prog tb66 := .cons f40 (FnsOk.nil)
theorem tb66_40 : tb66 40 = some T40.sp := rfl
theorem v66 : Valid Tryz.prog 66 T66.sp := by
  refine valid_t (fn := Tryz.f66) (n := 10) ty_ok tb66_ok Tryz.func66 rfl Tryz.ntmps66 ?_
  rintro ⟨a0, a1_0, a1_1, a1_2, a1_3, a1_4, a1_5, a2_0⟩ hx
  obtain ⟨r, hr⟩ := Option.isSome_iff_exists.1 (show (r66 a0 a1_0 a1_1 a1_2 a1_3 a1_4 a1_5 a2_0).isSome = true from hx)
  have hres : T66.res (a0, a1_0, a1_1, a1_2, a1_3, a1_4, a1_5, a2_0) = [.c (.d (.bool r))] := by simp only [T66, hr, Option.getD_some]
  refine ⟨Nat.le_of_ble_eq_true rfl, fun stop S => ?_⟩
  rw [hres] at S
  unfold r66 at hr
  refine S.goB [] 1000 ?_
  simp (maxSteps := 10000000) only [go_sem, tb66_40, T40, T66, Option.map_some, Int.reduceToNat, Nat.reduceEqDiff, Nat.reduceLT, Nat.reduceAdd, Nat.reduceMul, Nat.reduceSub, Nat.reduceLeDiff, reduceIte, reduceCtorEq, Tryz.results66]
  obtain ⟨v1, hv1, hr⟩ := of_bind0 hr
  try simp only [hv1, Option.getD_some, Option.isSome_some, true_and, and_assoc]
  repeat refine gA ?_
  obtain rfl := Option.some.inj hr
  (simp (maxDischargeDepth := 8) [go_sem])
theorem f66 : FnFact Tryz.prog 66 T66.sp := ⟨⟨Tryz.f66, Tryz.func66, by decide, rfl⟩, v66⟩

/- slices.IndexFunc[[]int,int] -/
def b65c_1 (a0 : List (Int)) (a1_0_0 : Int) (a1_0_1 : Int) (a1_0_2 : List (Int × Int)) (a1_0_3 : List ((List (Int × Int)))) (a1_0_4 : List (Int × Int)) (a1_0_5 : List ((List (Int × Int)))) (a1_1_0 : Int) : (Int) → Ctl (Int) (Int) := fun s1 =>
  if (decide (s1 < (a0.length : Int))) = true then
   if 0 ≤ s1 ∧ s1 < (a0.length : Int) then
    bindC (r66 (a0.getD s1.toNat default) a1_0_0 a1_0_1 a1_0_2 a1_0_3 a1_0_4 a1_0_5 a1_1_0) fun v1 =>
     if v1 = true then
      .out (some s1)
      else .next (IntKind.i64.wrap (s1 + 1))
    else .out none
   else .out (some (-1))
def r65c (a0 : List (Int)) (a1_0_0 : Int) (a1_0_1 : Int) (a1_0_2 : List (Int × Int)) (a1_0_3 : List ((List (Int × Int)))) (a1_0_4 : List (Int × Int)) (a1_0_5 : List ((List (Int × Int)))) (a1_1_0 : Int) : Option (Int) :=
  iterC (b65c_1 a0 a1_0_0 a1_0_1 a1_0_2 a1_0_3 a1_0_4 a1_0_5 a1_1_0) 1000000000 0
def T65c : TSpec ((List (Int)) × Int × Int × (List (Int × Int)) × (List ((List (Int × Int)))) × (List (Int × Int)) × (List ((List (Int × Int)))) × Int) where
  enc x := [.c (encF 1 d_I x.1), .clo 66 [[.int .i64 x.2.1, .int .i64 x.2.2.1, encF 2 d_II x.2.2.2.1, encF 1 d_LIIE x.2.2.2.2.1, encF 2 d_II x.2.2.2.2.2.1, encF 1 d_LIIE x.2.2.2.2.2.2.1], [.int .i64 x.2.2.2.2.2.2.2]]]
  dec a := (decF g_I (aCell a 0 0), dInt (aCell a 1 0), dInt (aCell a 1 1), decF g_II (aCell a 1 2), decF g_LIIE (aCell a 1 3), decF g_II (aCell a 1 4), decF g_LIIE (aCell a 1 5), dInt (aCell a 1 6))
  pre x := (r65c x.1 x.2.1 x.2.2.1 x.2.2.2.1 x.2.2.2.2.1 x.2.2.2.2.2.1 x.2.2.2.2.2.2.1 x.2.2.2.2.2.2.2).isSome = true
  res x := [.c (.d (.int .i64 ((r65c x.1 x.2.1 x.2.2.1 x.2.2.2.1 x.2.2.2.2.1 x.2.2.2.2.2.1 x.2.2.2.2.2.2.1 x.2.2.2.2.2.2.2).getD default)))]
  al := false
def tb65c : Fns := lk [(66, T66.sp)]
theorem tb65c_ok : FnsOk Tryz.prog tb65c := .cons f66 (FnsOk.nil)
theorem tb65c_66 : tb65c 66 = some T66.sp := rfl
theorem v65c : Valid Tryz.prog 65 T65c.sp := by
  refine valid_t (fn := Tryz.f65) (n := 19) ty_ok tb65c_ok Tryz.func65 rfl Tryz.ntmps65 ?_
  rintro ⟨a0, a1_0_0, a1_0_1, a1_0_2, a1_0_3, a1_0_4, a1_0_5, a1_1_0⟩ hx
  obtain ⟨r, hr⟩ := Option.isSome_iff_exists.1 (show (r65c a0 a1_0_0 a1_0_1 a1_0_2 a1_0_3 a1_0_4 a1_0_5 a1_1_0).isSome = true from hx)
  have hres : T65c.res (a0, a1_0_0, a1_0_1, a1_0_2, a1_0_3, a1_0_4, a1_0_5, a1_1_0) = [.c (.d (.int .i64 r))] := by simp only [T65c, hr, Option.getD_some]
  refine ⟨Nat.le_of_ble_eq_true rfl, fun stop S => ?_⟩
  rw [hres] at S
  unfold r65c at hr
  refine S.goB [] 1000 ?_
  simp (maxSteps := 10000000) only [go_sem, tb65c_66, T66, T65c, Option.map_some, Int.reduceToNat, Nat.reduceEqDiff, Nat.reduceLT, Nat.reduceAdd, Nat.reduceMul, Nat.reduceSub, Nat.reduceLeDiff, reduceIte, reduceCtorEq, Tryz.results65]
  repeat refine gA ?_
  refine S.sees [0, 1, 7, 8] [] [] ?_ (Stop.iter S (fun s1 => ⟨[(0, .c (.d (encF 1 d_I a0))), (1, .c (.clo 66 [.sptr [.int .i64 a1_0_0, .int .i64 a1_0_1, encF 2 d_II a1_0_2, encF 1 d_LIIE a1_0_3, encF 2 d_II a1_0_4, encF 1 d_LIIE a1_0_5] 0, .sptr [.int .i64 a1_1_0] 0])), (7, .c (.d (.int .i64 (a0.length : Int)))), (8, .c (.d (.int .i64 s1)))], [], []⟩) (b65c_1 a0 a1_0_0 a1_0_1 a1_0_2 a1_0_3 a1_0_4 a1_0_5 a1_1_0) (fun q => q = r) hr rfl ?_)
  · (simp (maxDischargeDepth := 8) [go_sem])
  · intro s1 hr
    unfold b65c_1 at hr
    refine S.goB [] 1000 ?_
    simp (maxSteps := 10000000) only [go_sem, tb65c_66, T66, T65c, Option.map_some, Int.reduceToNat, Nat.reduceEqDiff, Nat.reduceLT, Nat.reduceAdd, Nat.reduceMul, Nat.reduceSub, Nat.reduceLeDiff, reduceIte, reduceCtorEq, Tryz.results65]
    repeat refine gA ?_
    refine ⟨fun hc => ?_, fun hc => ?_⟩
    · replace hr := ifP1 hr hc
      obtain ⟨hg2, hr⟩ := of_guard1 hr
      obtain ⟨v1, hv1, hr⟩ := of_bind1 hr
      try simp only [hv1, Option.getD_some, Option.isSome_some, true_and, and_assoc]
      repeat refine gA ?_
      refine ⟨fun hc => ?_, fun hc => ?_⟩
      · replace hr := ifP1 hr hc
        repeat refine gA ?_
        have hr := of_out0 hr
        obtain rfl := Option.some.inj hr
        (simp (maxDischargeDepth := 8) [go_sem])
      · replace hr := ifN1 hr hc
        repeat refine gA ?_
        refine S.sees [0, 1, 7, 8] [] [] ?_ hr
        (simp (maxDischargeDepth := 8) [go_sem])
    · replace hr := ifN1 hr hc
      repeat refine gA ?_
      have hr := of_out0 hr
      repeat refine gA ?_
      obtain rfl := Option.some.inj hr
      (simp (maxDischargeDepth := 8) [go_sem])
theorem f65c : FnFact Tryz.prog 65 T65c.sp := ⟨⟨Tryz.f65, Tryz.func65, by decide, rfl⟩, v65c⟩

/- (martensite/heat.part).depth -/
def r34 (a0_0 : Int) (a0_1 : Int) (a0_2 : List (Int × Int)) (a0_3 : List ((List (Int × Int)))) (a0_4 : List (Int × Int)) (a0_5 : List ((List (Int × Int)))) (a1 : List (Int)) (a2 : Int) : Option (Int) :=
  (r65c a1 a0_0 a0_1 a0_2 a0_3 a0_4 a0_5 a2).bind fun v1 =>
   if (decide (v1 < 0)) = true then
    some (a1.length : Int)
    else some v1
def T34 : TSpec (Int × Int × (List (Int × Int)) × (List ((List (Int × Int)))) × (List (Int × Int)) × (List ((List (Int × Int)))) × (List (Int)) × Int) where
  enc x := [.agg [.int .i64 x.1, .int .i64 x.2.1, encF 2 d_II x.2.2.1, encF 1 d_LIIE x.2.2.2.1, encF 2 d_II x.2.2.2.2.1, encF 1 d_LIIE x.2.2.2.2.2.1], .c (encF 1 d_I x.2.2.2.2.2.2.1), .c (.int .i64 x.2.2.2.2.2.2.2)]
  dec a := (dInt (aCell a 0 0), dInt (aCell a 0 1), decF g_II (aCell a 0 2), decF g_LIIE (aCell a 0 3), decF g_II (aCell a 0 4), decF g_LIIE (aCell a 0 5), decF g_I (aCell a 1 0), dInt (aCell a 2 0))
  pre x := (r34 x.1 x.2.1 x.2.2.1 x.2.2.2.1 x.2.2.2.2.1 x.2.2.2.2.2.1 x.2.2.2.2.2.2.1 x.2.2.2.2.2.2.2).isSome = true
  res x := [.c (.d (.int .i64 ((r34 x.1 x.2.1 x.2.2.1 x.2.2.2.1 x.2.2.2.2.1 x.2.2.2.2.2.1 x.2.2.2.2.2.2.1 x.2.2.2.2.2.2.2).getD default)))]
  al := false
def tb34 : Fns := lk [(65, T65c.sp)]
theorem tb34_ok : FnsOk Tryz.prog tb34 := .cons f65c (FnsOk.nil)
theorem tb34_65 : tb34 65 = some T65c.sp := rfl
theorem v34 : Valid Tryz.prog 34 T34.sp := by
  refine valid_t (fn := Tryz.f34) (n := 16) ty_ok tb34_ok Tryz.func34 rfl Tryz.ntmps34 ?_
  rintro ⟨a0_0, a0_1, a0_2, a0_3, a0_4, a0_5, a1, a2⟩ hx
  obtain ⟨r, hr⟩ := Option.isSome_iff_exists.1 (show (r34 a0_0 a0_1 a0_2 a0_3 a0_4 a0_5 a1 a2).isSome = true from hx)
  have hres : T34.res (a0_0, a0_1, a0_2, a0_3, a0_4, a0_5, a1, a2) = [.c (.d (.int .i64 r))] := by simp only [T34, hr, Option.getD_some]
  refine ⟨Nat.le_of_ble_eq_true rfl, fun stop S => ?_⟩
  rw [hres] at S
  unfold r34 at hr
  refine S.goB [] 1000 ?_
  simp (maxSteps := 10000000) only [go_sem, tb34_65, T65c, T34, Option.map_some, Int.reduceToNat, Nat.reduceEqDiff, Nat.reduceLT, Nat.reduceAdd, Nat.reduceMul, Nat.reduceSub, Nat.reduceLeDiff, reduceIte, reduceCtorEq, Tryz.results34]
  obtain ⟨v1, hv1, hr⟩ := of_bind0 hr
  try simp only [hv1, Option.getD_some, Option.isSome_some, true_and, and_assoc]
  repeat refine gA ?_
  refine ⟨fun hc => ?_, fun hc => ?_⟩
  · replace hr := ifP hr hc
    repeat refine gA ?_
    obtain rfl := Option.some.inj hr
    (simp (maxDischargeDepth := 8) [go_sem])
  · replace hr := ifN hr hc
    repeat refine gA ?_
    obtain rfl := Option.some.inj hr
    (simp (maxDischargeDepth := 8) [go_sem])
theorem f34 : FnFact Tryz.prog 34 T34.sp := ⟨⟨Tryz.f34, Tryz.func34, by decide, rfl⟩, v34⟩
end Go.Proofs.YtcbiiijnaeibhaaGreat

/- Contracts of functions, written by wip/dec. -/
import Derived.Test.YtcbiiijnaeibhaaF00
import Derived.Test.YtcbiiijnaeibhaaF01
import Derived.Test.YtcbiiijnaeibhaaF02
set_option linter.unusedVariables false
set_option linter.unusedSimpArgs false
set_option maxHeartbeats 4000000
set_option maxRecDepth 20000
namespace Go.Proofs.Ytcbiiijnaeibhaa
open Go.Abs
/- (martensite/heat.part).stepped$1 -/
def r146 (a0 : Int) (a1_0 : Int) (a1_1 : Int) (a1_2 : List (Int × Int)) (a1_3 : List ((List (Int × Int)))) (a1_4 : List (Int × Int)) (a1_5 : List ((List (Int × Int)))) : Option (Bool) :=
  (r120 a1_0 a1_1 a1_2 a1_3 a1_4 a1_5 a0).bind fun v1 =>
   some (!v1)
def T146 : TSpec (Int × Int × Int × (List (Int × Int)) × (List ((List (Int × Int)))) × (List (Int × Int)) × (List ((List (Int × Int))))) where
  enc x := [.c (.int .i64 x.1), .ptr [.int .i64 x.2.1, .int .i64 x.2.2.1, encF 2 d_II x.2.2.2.1, encF 1 d_LIIE x.2.2.2.2.1, encF 2 d_II x.2.2.2.2.2.1, encF 1 d_LIIE x.2.2.2.2.2.2]]
  dec a := (dInt (aCell a 0 0), dInt (aCell a 1 0), dInt (aCell a 1 1), decF g_II (aCell a 1 2), decF g_LIIE (aCell a 1 3), decF g_II (aCell a 1 4), decF g_LIIE (aCell a 1 5))
  pre x := (r146 x.1 x.2.1 x.2.2.1 x.2.2.2.1 x.2.2.2.2.1 x.2.2.2.2.2.1 x.2.2.2.2.2.2).isSome = true
  res x := [.c (.d (.bool ((r146 x.1 x.2.1 x.2.2.1 x.2.2.2.1 x.2.2.2.2.1 x.2.2.2.2.2.1 x.2.2.2.2.2.2).getD default)))]
  al := false
def tb146 : Fns := lk [(120, T120.sp)]
theorem tb146_ok : FnsOk Try.prog tb146 := .cons f120 (FnsOk.nil)
theorem tb146_120 : tb146 120 = some T120.sp := rfl
theorem v146 : Valid Try.prog 146 T146.sp := by
  refine valid_t (fn := Try.f146) (n := 8) ty_ok tb146_ok Try.func146 rfl Try.ntmps146 ?_
  rintro ⟨a0, a1_0, a1_1, a1_2, a1_3, a1_4, a1_5⟩ hx
  obtain ⟨r, hr⟩ := Option.isSome_iff_exists.1 (show (r146 a0 a1_0 a1_1 a1_2 a1_3 a1_4 a1_5).isSome = true from hx)
  have hres : T146.res (a0, a1_0, a1_1, a1_2, a1_3, a1_4, a1_5) = [.c (.d (.bool r))] := by simp only [T146, hr, Option.getD_some]
  refine ⟨Nat.le_of_ble_eq_true rfl, fun stop S => ?_⟩
  rw [hres] at S
  unfold r146 at hr
  refine S.goB [] 1000 ?_
  simp (maxSteps := 10000000) only [go_sem, tb146_120, T120, T146, Option.map_some, Int.reduceToNat, Nat.reduceEqDiff, Nat.reduceLT, Nat.reduceAdd, Nat.reduceMul, Nat.reduceSub, Nat.reduceLeDiff, reduceIte, reduceCtorEq, Try.results146]
  obtain ⟨v1, hv1, hr⟩ := of_bind0 hr
  try simp only [hv1, Option.getD_some, Option.isSome_some, true_and, and_assoc]
  repeat refine gA ?_
  obtain rfl := Option.some.inj hr
  (simp (maxDischargeDepth := 8) [go_sem])
theorem f146 : FnFact Try.prog 146 T146.sp := ⟨⟨Try.f146, Try.func146, by decide, rfl⟩, v146⟩

/- slices.IndexFunc[[]int,int] -/
def b141b_1 (a0 : List (Int)) (a1_0_0 : Int) (a1_0_1 : Int) (a1_0_2 : List (Int × Int)) (a1_0_3 : List ((List (Int × Int)))) (a1_0_4 : List (Int × Int)) (a1_0_5 : List ((List (Int × Int)))) : (Int) → Ctl (Int) (Int) := fun s1 =>
  if (decide (s1 < (a0.length : Int))) = true then
   if 0 ≤ s1 ∧ s1 < (a0.length : Int) then
    bindC (r146 (a0.getD s1.toNat default) a1_0_0 a1_0_1 a1_0_2 a1_0_3 a1_0_4 a1_0_5) fun v1 =>
     if v1 = true then
      .out (some s1)
      else .next (IntKind.i64.wrap (s1 + 1))
    else .out none
   else .out (some (-1))
def r141b (a0 : List (Int)) (a1_0_0 : Int) (a1_0_1 : Int) (a1_0_2 : List (Int × Int)) (a1_0_3 : List ((List (Int × Int)))) (a1_0_4 : List (Int × Int)) (a1_0_5 : List ((List (Int × Int)))) : Option (Int) :=
  iterC (b141b_1 a0 a1_0_0 a1_0_1 a1_0_2 a1_0_3 a1_0_4 a1_0_5) 1000000000 0
def T141b : TSpec ((List (Int)) × Int × Int × (List (Int × Int)) × (List ((List (Int × Int)))) × (List (Int × Int)) × (List ((List (Int × Int))))) where
  enc x := [.c (encF 1 d_I x.1), .clo 146 [[.int .i64 x.2.1, .int .i64 x.2.2.1, encF 2 d_II x.2.2.2.1, encF 1 d_LIIE x.2.2.2.2.1, encF 2 d_II x.2.2.2.2.2.1, encF 1 d_LIIE x.2.2.2.2.2.2]]]
  dec a := (decF g_I (aCell a 0 0), dInt (aCell a 1 0), dInt (aCell a 1 1), decF g_II (aCell a 1 2), decF g_LIIE (aCell a 1 3), decF g_II (aCell a 1 4), decF g_LIIE (aCell a 1 5))
  pre x := (r141b x.1 x.2.1 x.2.2.1 x.2.2.2.1 x.2.2.2.2.1 x.2.2.2.2.2.1 x.2.2.2.2.2.2).isSome = true
  res x := [.c (.d (.int .i64 ((r141b x.1 x.2.1 x.2.2.1 x.2.2.2.1 x.2.2.2.2.1 x.2.2.2.2.2.1 x.2.2.2.2.2.2).getD default)))]
  al := false
def tb141b : Fns := lk [(146, T146.sp)]
theorem tb141b_ok : FnsOk Try.prog tb141b := .cons f146 (FnsOk.nil)
theorem tb141b_146 : tb141b 146 = some T146.sp := rfl
theorem v141b : Valid Try.prog 141 T141b.sp := by
  refine valid_t (fn := Try.f141) (n := 19) ty_ok tb141b_ok Try.func141 rfl Try.ntmps141 ?_
  rintro ⟨a0, a1_0_0, a1_0_1, a1_0_2, a1_0_3, a1_0_4, a1_0_5⟩ hx
  obtain ⟨r, hr⟩ := Option.isSome_iff_exists.1 (show (r141b a0 a1_0_0 a1_0_1 a1_0_2 a1_0_3 a1_0_4 a1_0_5).isSome = true from hx)
  have hres : T141b.res (a0, a1_0_0, a1_0_1, a1_0_2, a1_0_3, a1_0_4, a1_0_5) = [.c (.d (.int .i64 r))] := by simp only [T141b, hr, Option.getD_some]
  refine ⟨Nat.le_of_ble_eq_true rfl, fun stop S => ?_⟩
  rw [hres] at S
  unfold r141b at hr
  refine S.goB [] 1000 ?_
  simp (maxSteps := 10000000) only [go_sem, tb141b_146, T146, T141b, Option.map_some, Int.reduceToNat, Nat.reduceEqDiff, Nat.reduceLT, Nat.reduceAdd, Nat.reduceMul, Nat.reduceSub, Nat.reduceLeDiff, reduceIte, reduceCtorEq, Try.results141]
  repeat refine gA ?_
  refine S.sees [0, 1, 7, 8] [] [] ?_ (Stop.iter S (fun s1 => ⟨[(0, .c (.d (encF 1 d_I a0))), (1, .c (.clo 146 [.sptr [.int .i64 a1_0_0, .int .i64 a1_0_1, encF 2 d_II a1_0_2, encF 1 d_LIIE a1_0_3, encF 2 d_II a1_0_4, encF 1 d_LIIE a1_0_5] 0])), (7, .c (.d (.int .i64 (a0.length : Int)))), (8, .c (.d (.int .i64 s1)))], [], []⟩) (b141b_1 a0 a1_0_0 a1_0_1 a1_0_2 a1_0_3 a1_0_4 a1_0_5) (fun q => q = r) hr rfl ?_)
  · (simp (maxDischargeDepth := 8) [go_sem])
  · intro s1 hr
    unfold b141b_1 at hr
    refine S.goB [] 1000 ?_
    simp (maxSteps := 10000000) only [go_sem, tb141b_146, T146, T141b, Option.map_some, Int.reduceToNat, Nat.reduceEqDiff, Nat.reduceLT, Nat.reduceAdd, Nat.reduceMul, Nat.reduceSub, Nat.reduceLeDiff, reduceIte, reduceCtorEq, Try.results141]
    repeat refine gA ?_
    refine ⟨fun hc => ?_, fun hc => ?_⟩
    · replace hr := ifP1 hr hc
      obtain ⟨hg2, hr⟩ := of_guard1 hr
      obtain ⟨v1, hv1, hr⟩ := of_bind1 hr
      try simp only [hv1, Option.getD_some, Option.isSome_some, true_and, and_assoc]
      repeat refine gA ?_
      refine ⟨fun hc => ?_, fun hc => ?_⟩
      · replace hr := ifP1 hr hc
        repeat refine gA ?_
        have hr := of_out0 hr
        obtain rfl := Option.some.inj hr
        (simp (maxDischargeDepth := 8) [go_sem])
      · replace hr := ifN1 hr hc
        repeat refine gA ?_
        refine S.sees [0, 1, 7, 8] [] [] ?_ hr
        (simp (maxDischargeDepth := 8) [go_sem])
    · replace hr := ifN1 hr hc
      repeat refine gA ?_
      have hr := of_out0 hr
      repeat refine gA ?_
      obtain rfl := Option.some.inj hr
      (simp (maxDischargeDepth := 8) [go_sem])
theorem f141b : FnFact Try.prog 141 T141b.sp := ⟨⟨Try.f141, Try.func141, by decide, rfl⟩, v141b⟩

/- slices.ContainsFunc[[]int,int] -/
def r106a (a0 : List (Int)) (a1_0_0 : Int) (a1_0_1 : Int) (a1_0_2 : List (Int × Int)) (a1_0_3 : List ((List (Int × Int)))) (a1_0_4 : List (Int × Int)) (a1_0_5 : List ((List (Int × Int)))) : Option (Bool) :=
  (r141b a0 a1_0_0 a1_0_1 a1_0_2 a1_0_3 a1_0_4 a1_0_5).bind fun v1 =>
   some (decide (v1 ≥ 0))
def T106a : TSpec ((List (Int)) × Int × Int × (List (Int × Int)) × (List ((List (Int × Int)))) × (List (Int × Int)) × (List ((List (Int × Int))))) where
  enc x := [.c (encF 1 d_I x.1), .clo 146 [[.int .i64 x.2.1, .int .i64 x.2.2.1, encF 2 d_II x.2.2.2.1, encF 1 d_LIIE x.2.2.2.2.1, encF 2 d_II x.2.2.2.2.2.1, encF 1 d_LIIE x.2.2.2.2.2.2]]]
  dec a := (decF g_I (aCell a 0 0), dInt (aCell a 1 0), dInt (aCell a 1 1), decF g_II (aCell a 1 2), decF g_LIIE (aCell a 1 3), decF g_II (aCell a 1 4), decF g_LIIE (aCell a 1 5))
  pre x := (r106a x.1 x.2.1 x.2.2.1 x.2.2.2.1 x.2.2.2.2.1 x.2.2.2.2.2.1 x.2.2.2.2.2.2).isSome = true
  res x := [.c (.d (.bool ((r106a x.1 x.2.1 x.2.2.1 x.2.2.2.1 x.2.2.2.2.1 x.2.2.2.2.2.1 x.2.2.2.2.2.2).getD default)))]
  al := false
def tb106a : Fns := lk [(141, T141b.sp)]
theorem tb106a_ok : FnsOk Try.prog tb106a := .cons f141b (FnsOk.nil)
theorem tb106a_141 : tb106a 141 = some T141b.sp := rfl
theorem v106a : Valid Try.prog 106 T106a.sp := by
  refine valid_t (fn := Try.f106) (n := 9) ty_ok tb106a_ok Try.func106 rfl Try.ntmps106 ?_
  rintro ⟨a0, a1_0_0, a1_0_1, a1_0_2, a1_0_3, a1_0_4, a1_0_5⟩ hx
  obtain ⟨r, hr⟩ := Option.isSome_iff_exists.1 (show (r106a a0 a1_0_0 a1_0_1 a1_0_2 a1_0_3 a1_0_4 a1_0_5).isSome = true from hx)
  have hres : T106a.res (a0, a1_0_0, a1_0_1, a1_0_2, a1_0_3, a1_0_4, a1_0_5) = [.c (.d (.bool r))] := by simp only [T106a, hr, Option.getD_some]
  refine ⟨Nat.le_of_ble_eq_true rfl, fun stop S => ?_⟩
  rw [hres] at S
  unfold r106a at hr
  refine S.goB [] 1000 ?_
  simp (maxSteps := 10000000) only [go_sem, tb106a_141, T141b, T106a, Option.map_some, Int.reduceToNat, Nat.reduceEqDiff, Nat.reduceLT, Nat.reduceAdd, Nat.reduceMul, Nat.reduceSub, Nat.reduceLeDiff, reduceIte, reduceCtorEq, Try.results106]
  obtain ⟨v1, hv1, hr⟩ := of_bind0 hr
  try simp only [hv1, Option.getD_some, Option.isSome_some, true_and, and_assoc]
  repeat refine gA ?_
  obtain rfl := Option.some.inj hr
  (simp (maxDischargeDepth := 8) [go_sem])
theorem f106a : FnFact Try.prog 106 T106a.sp := ⟨⟨Try.f106, Try.func106, by decide, rfl⟩, v106a⟩

/- (martensite/heat.part).stepped -/
def b96_3 (a0_0 : Int) (a0_1 : Int) (a0_2 : List (Int × Int)) (a0_3 : List ((List (Int × Int)))) (a0_4 : List (Int × Int)) (a0_5 : List ((List (Int × Int)))) (a2_0 : List (Int)) (v20 : Int) : (Int × (List (Int))) → Ctl (Int × (List (Int))) ((List (Int)) × Int × Int) := fun s3 =>
  if (decide (s3.1 < (a2_0.length : Int))) = true then
   if 0 ≤ s3.1 ∧ s3.1 < (a2_0.length : Int) then
    if 0 ≤ s3.1 ∧ s3.1 < (s3.2.length : Int) then
     if 0 ≤ s3.1 ∧ s3.1 < (s3.2.length : Int) then
      .next (IntKind.i64.wrap (s3.1 + 1), s3.2.set s3.1.toNat (IntKind.i64.wrap ((s3.2.getD s3.1.toNat default) + (a2_0.getD s3.1.toNat default))))
      else .out none
     else .out none
    else .out none
   else .out ((r106a s3.2 a0_0 a0_1 a0_2 a0_3 a0_4 a0_5).bind fun v24 =>
    (r94 (!v24) 22).bind fun v25 =>
     some (s3.2, v20, v25))
def b96_2 (a0_0 : Int) (a0_1 : Int) (a0_2 : List (Int × Int)) (a0_3 : List ((List (Int × Int)))) (a0_4 : List (Int × Int)) (a0_5 : List ((List (Int × Int)))) (a2_0 : List (Int)) (a2_1 : Int) : (Int × (List (Int))) → Ctl (Int × (List (Int))) ((List (Int)) × Int × Int) := fun s2 =>
  if (decide ((IntKind.i64.wrap (s2.1 + 1)) < (s2.2.length : Int))) = true then
   if 0 ≤ s2.1 ∧ s2.1 < (s2.2.length : Int) then
    bindC (r121 a0_0 a0_1 a0_2 a0_3 a0_4 a0_5 (s2.2.getD s2.1.toNat default)) fun v11 =>
     if 0 ≤ IntKind.i64.wrap (s2.1 + 1) ∧ IntKind.i64.wrap (s2.1 + 1) < (s2.2.length : Int) then
      bindC (r121 a0_0 a0_1 a0_2 a0_3 a0_4 a0_5 (s2.2.getD (IntKind.i64.wrap (s2.1 + 1)).toNat default)) fun v12 =>
       bindC (r124 (IntKind.i64.wrap (a0_1 * (IntKind.i64.wrap ((IntKind.i64.wrap (v11.1 * v12.2)) - (IntKind.i64.wrap (v12.1 * v11.2)))))) (IntKind.i64.wrap ((IntKind.i64.wrap (1000 * v11.2)) * v12.2))) fun v13 =>
        if 0 ≤ s2.1 ∧ s2.1 < (s2.2.length : Int) then
         if 0 ≤ IntKind.i64.wrap (s2.1 + 1) ∧ IntKind.i64.wrap (s2.1 + 1) < (s2.2.length : Int) then
          if 0 ≤ s2.1 ∧ s2.1 < (s2.2.length : Int) then
           if 0 ≤ IntKind.i64.wrap (s2.1 + 1) ∧ IntKind.i64.wrap (s2.1 + 1) < (s2.2.length : Int) then
            .next (IntKind.i64.wrap (s2.1 + 2), (s2.2.set s2.1.toNat (IntKind.i64.wrap ((s2.2.getD s2.1.toNat default) - v13))).set (IntKind.i64.wrap (s2.1 + 1)).toNat (IntKind.i64.wrap ((s2.2.getD (IntKind.i64.wrap (s2.1 + 1)).toNat default) + v13)))
            else .out none
           else .out none
          else .out none
         else .out none
      else .out none
    else .out none
   else .out (if 0 ≤ 0 ∧ 0 < (s2.2.length : Int) then
    (r127 a0_0 a0_1 a0_2 a0_3 a0_4 a0_5 a2_1 (s2.2.getD 0 default)).bind fun v20 =>
     if 0 ≤ 0 ∧ 0 < (s2.2.length : Int) then
      if 0 ≤ 0 ∧ 0 < (s2.2.length : Int) then
       iterC (b96_3 a0_0 a0_1 a0_2 a0_3 a0_4 a0_5 a2_0 v20) 1000000000 (0, s2.2.set 0 (IntKind.i64.wrap ((s2.2.getD 0 default) - v20)))
       else none
      else none
    else none)
def b96_1 (a0_0 : Int) (a0_1 : Int) (a0_2 : List (Int × Int)) (a0_3 : List ((List (Int × Int)))) (a0_4 : List (Int × Int)) (a0_5 : List ((List (Int × Int)))) (a2_0 : List (Int)) (a2_1 : Int) : (Int × (List (Int))) → Ctl (Int × (List (Int))) ((List (Int)) × Int × Int) := fun s1 =>
  if (decide ((IntKind.i64.wrap (s1.1 + 1)) < (s1.2.length : Int))) = true then
   if 0 ≤ s1.1 ∧ s1.1 < (s1.2.length : Int) then
    bindC (r121 a0_0 a0_1 a0_2 a0_3 a0_4 a0_5 (s1.2.getD s1.1.toNat default)) fun v2 =>
     if 0 ≤ IntKind.i64.wrap (s1.1 + 1) ∧ IntKind.i64.wrap (s1.1 + 1) < (s1.2.length : Int) then
      bindC (r121 a0_0 a0_1 a0_2 a0_3 a0_4 a0_5 (s1.2.getD (IntKind.i64.wrap (s1.1 + 1)).toNat default)) fun v3 =>
       bindC (r124 (IntKind.i64.wrap (a0_1 * (IntKind.i64.wrap ((IntKind.i64.wrap (v2.1 * v3.2)) - (IntKind.i64.wrap (v3.1 * v2.2)))))) (IntKind.i64.wrap ((IntKind.i64.wrap (1000 * v2.2)) * v3.2))) fun v4 =>
        if 0 ≤ s1.1 ∧ s1.1 < (s1.2.length : Int) then
         if 0 ≤ IntKind.i64.wrap (s1.1 + 1) ∧ IntKind.i64.wrap (s1.1 + 1) < (s1.2.length : Int) then
          if 0 ≤ s1.1 ∧ s1.1 < (s1.2.length : Int) then
           if 0 ≤ IntKind.i64.wrap (s1.1 + 1) ∧ IntKind.i64.wrap (s1.1 + 1) < (s1.2.length : Int) then
            .next (IntKind.i64.wrap (s1.1 + 2), (s1.2.set s1.1.toNat (IntKind.i64.wrap ((s1.2.getD s1.1.toNat default) - v4))).set (IntKind.i64.wrap (s1.1 + 1)).toNat (IntKind.i64.wrap ((s1.2.getD (IntKind.i64.wrap (s1.1 + 1)).toNat default) + v4)))
            else .out none
           else .out none
          else .out none
         else .out none
      else .out none
    else .out none
   else .out (iterC (b96_2 a0_0 a0_1 a0_2 a0_3 a0_4 a0_5 a2_0 a2_1) 1000000000 (1, s1.2))
def r96 (a0_0 : Int) (a0_1 : Int) (a0_2 : List (Int × Int)) (a0_3 : List ((List (Int × Int)))) (a0_4 : List (Int × Int)) (a0_5 : List ((List (Int × Int)))) (a1 : List (Int)) (a2_0 : List (Int)) (a2_1 : Int) : Option ((List (Int)) × Int × Int) :=
  (r144 a1).bind fun v1 =>
   iterC (b96_1 a0_0 a0_1 a0_2 a0_3 a0_4 a0_5 a2_0 a2_1) 1000000000 (0, v1)
def T96 : TSpec (Int × Int × (List (Int × Int)) × (List ((List (Int × Int)))) × (List (Int × Int)) × (List ((List (Int × Int)))) × (List (Int)) × (List (Int)) × Int) where
  enc x := [.agg [.int .i64 x.1, .int .i64 x.2.1, encF 2 d_II x.2.2.1, encF 1 d_LIIE x.2.2.2.1, encF 2 d_II x.2.2.2.2.1, encF 1 d_LIIE x.2.2.2.2.2.1], .c (encF 1 d_I x.2.2.2.2.2.2.1), .agg [encF 1 d_I x.2.2.2.2.2.2.2.1, .int .i64 x.2.2.2.2.2.2.2.2]]
  dec a := (dInt (aCell a 0 0), dInt (aCell a 0 1), decF g_II (aCell a 0 2), decF g_LIIE (aCell a 0 3), decF g_II (aCell a 0 4), decF g_LIIE (aCell a 0 5), decF g_I (aCell a 1 0), decF g_I (aCell a 2 0), dInt (aCell a 2 1))
  pre x := (r96 x.1 x.2.1 x.2.2.1 x.2.2.2.1 x.2.2.2.2.1 x.2.2.2.2.2.1 x.2.2.2.2.2.2.1 x.2.2.2.2.2.2.2.1 x.2.2.2.2.2.2.2.2).isSome = true
  res x := [.c (.own (encF 1 d_I (((r96 x.1 x.2.1 x.2.2.1 x.2.2.2.1 x.2.2.2.2.1 x.2.2.2.2.2.1 x.2.2.2.2.2.2.1 x.2.2.2.2.2.2.2.1 x.2.2.2.2.2.2.2.2).getD default).1))), .c (.d (.int .i64 (((r96 x.1 x.2.1 x.2.2.1 x.2.2.2.1 x.2.2.2.2.1 x.2.2.2.2.2.1 x.2.2.2.2.2.2.1 x.2.2.2.2.2.2.2.1 x.2.2.2.2.2.2.2.2).getD default).2.1))), .c (.d (.int .i64 (((r96 x.1 x.2.1 x.2.2.1 x.2.2.2.1 x.2.2.2.2.1 x.2.2.2.2.2.1 x.2.2.2.2.2.2.1 x.2.2.2.2.2.2.2.1 x.2.2.2.2.2.2.2.2).getD default).2.2)))]
  al := false
def tb96 : Fns := lk [(94, T94.sp), (106, T106a.sp), (121, T121.sp), (124, T124.sp), (127, T127.sp), (144, T144.sp)]
theorem tb96_ok : FnsOk Try.prog tb96 := .cons f94 (.cons f106a (.cons f121 (.cons f124 (.cons f127 (.cons f144 (FnsOk.nil))))))
theorem tb96_94 : tb96 94 = some T94.sp := rfl
theorem tb96_106 : tb96 106 = some T106a.sp := rfl
theorem tb96_121 : tb96 121 = some T121.sp := rfl
theorem tb96_124 : tb96 124 = some T124.sp := rfl
theorem tb96_127 : tb96 127 = some T127.sp := rfl
theorem tb96_144 : tb96 144 = some T144.sp := rfl
theorem v96 : Valid Try.prog 96 T96.sp := by
  refine valid_t (fn := Try.f96) (n := 59) ty_ok tb96_ok Try.func96 rfl Try.ntmps96 ?_
  rintro ⟨a0_0, a0_1, a0_2, a0_3, a0_4, a0_5, a1, a2_0, a2_1⟩ hx
  obtain ⟨r, hr⟩ := Option.isSome_iff_exists.1 (show (r96 a0_0 a0_1 a0_2 a0_3 a0_4 a0_5 a1 a2_0 a2_1).isSome = true from hx)
  have hres : T96.res (a0_0, a0_1, a0_2, a0_3, a0_4, a0_5, a1, a2_0, a2_1) = [.c (.own (encF 1 d_I r.1)), .c (.d (.int .i64 r.2.1)), .c (.d (.int .i64 r.2.2))] := by simp only [T96, hr, Option.getD_some]
  refine ⟨Nat.le_of_ble_eq_true rfl, fun stop S => ?_⟩
  rw [hres] at S
  unfold r96 at hr
  refine S.goB [2, 3] 1000 ?_
  simp (maxSteps := 10000000) only [go_sem, tb96_94, T94, tb96_106, T106a, tb96_121, T121, tb96_124, T124, tb96_127, T127, tb96_144, T144, T96, Option.map_some, Int.reduceToNat, Nat.reduceEqDiff, Nat.reduceLT, Nat.reduceAdd, Nat.reduceMul, Nat.reduceSub, Nat.reduceLeDiff, reduceIte, reduceCtorEq, Try.results96, Try.results145]
  obtain ⟨v1, hv1, hr⟩ := of_bind0 hr
  try simp only [hv1, Option.getD_some, Option.isSome_some, true_and, and_assoc]
  repeat refine gA ?_
  refine S.inl 2 [0, 1, 2, 3, 5, 6, 7, 8, 9, 14, 15, 16, 17] [] Try.func145 (by decide) rfl Try.ntmps145 (fun cx e => drawn_ok ty_ok tb96_ok cx e) (some 18) rfl rfl rfl rfl (Nat.le_of_ble_eq_true rfl) (Nat.le_of_ble_eq_true rfl) ?_
  simp (maxSteps := 10000000) only [go_sem, tb96_94, T94, tb96_106, T106a, tb96_121, T121, tb96_124, T124, tb96_127, T127, tb96_144, T144, T96, Option.map_some, Int.reduceToNat, Nat.reduceEqDiff, Nat.reduceLT, Nat.reduceAdd, Nat.reduceMul, Nat.reduceSub, Nat.reduceLeDiff, reduceIte, reduceCtorEq, Try.results96, Try.results145]
  repeat refine gA ?_
  intro stop1 S1
  refine S1.goB [] 1000 ?_
  simp (maxSteps := 10000000) only [go_sem, tb96_94, T94, tb96_106, T106a, tb96_121, T121, tb96_124, T124, tb96_127, T127, tb96_144, T144, T96, Option.map_some, Int.reduceToNat, Nat.reduceEqDiff, Nat.reduceLT, Nat.reduceAdd, Nat.reduceMul, Nat.reduceSub, Nat.reduceLeDiff, reduceIte, reduceCtorEq, Try.results96, Try.results145]
  repeat refine gA ?_
  refine S1.sees [1, 3, 6] [(100003, 100003), (3, 3), (5, 5)] [(15, 15)] ?_ (Stop.iter S1 (fun s1 => ⟨[(1, .c (.own 15)), (3, .c (.ref 100003 0)), (6, .c (.d (.int .i64 s1.1)))], [(100003, [.d (.int .i64 a0_0), .d (.int .i64 a0_1), .d (encF 2 d_II a0_2), .d (encF 1 d_LIIE a0_3), .d (encF 2 d_II a0_4), .d (encF 1 d_LIIE a0_5)]), (3, [.d (.int .i64 a0_0), .d (.int .i64 a0_1), .d (encF 2 d_II a0_2), .d (encF 1 d_LIIE a0_3), .d (encF 2 d_II a0_4), .d (encF 1 d_LIIE a0_5)]), (5, [.d (encF 1 d_I a2_0), .d (.int .i64 a2_1)])], [(15, .owned (encF 1 d_I s1.2))]⟩) (b96_1 a0_0 a0_1 a0_2 a0_3 a0_4 a0_5 a2_0 a2_1) (fun q => q = r) hr rfl ?_)
  · (simp (maxDischargeDepth := 8) [go_sem])
  · intro s1 hr
    unfold b96_1 at hr
    refine S1.goB [] 1000 ?_
    simp (maxSteps := 10000000) only [go_sem, tb96_94, T94, tb96_106, T106a, tb96_121, T121, tb96_124, T124, tb96_127, T127, tb96_144, T144, T96, Option.map_some, Int.reduceToNat, Nat.reduceEqDiff, Nat.reduceLT, Nat.reduceAdd, Nat.reduceMul, Nat.reduceSub, Nat.reduceLeDiff, reduceIte, reduceCtorEq, Try.results96, Try.results145]
    repeat refine gA ?_
    refine ⟨fun hc => ?_, fun hc => ?_⟩
    · replace hr := ifP1 hr hc
      obtain ⟨hg5, hr⟩ := of_guard1 hr
      obtain ⟨v2, hv2, hr⟩ := of_bind1 hr
      obtain ⟨hg6, hr⟩ := of_guard1 hr
      obtain ⟨v3, hv3, hr⟩ := of_bind1 hr
      obtain ⟨v4, hv4, hr⟩ := of_bind1 hr
      obtain ⟨hg7, hr⟩ := of_guard1 hr
      obtain ⟨hg8, hr⟩ := of_guard1 hr
      obtain ⟨hg9, hr⟩ := of_guard1 hr
      obtain ⟨hg10, hr⟩ := of_guard1 hr
      try simp only [hv2, hv3, hv4, Option.getD_some, Option.isSome_some, true_and, and_assoc]
      repeat refine gA ?_
      refine S1.sees [1, 3, 6] [(100003, 100003), (3, 3), (5, 5)] [(15, 15)] ?_ hr
      (simp (maxDischargeDepth := 8) [go_sem])
    · replace hr := ifN1 hr hc
      repeat refine gA ?_
      have hr := of_out0 hr
      repeat refine gA ?_
      repeat refine gA ?_
      refine S.goB [2, 3] 1000 ?_
      simp (maxSteps := 10000000) only [go_sem, tb96_94, T94, tb96_106, T106a, tb96_121, T121, tb96_124, T124, tb96_127, T127, tb96_144, T144, T96, Option.map_some, Int.reduceToNat, Nat.reduceEqDiff, Nat.reduceLT, Nat.reduceAdd, Nat.reduceMul, Nat.reduceSub, Nat.reduceLeDiff, reduceIte, reduceCtorEq, Try.results96, Try.results145]
      repeat refine gA ?_
      refine S.inl 2 [0, 1, 2, 3, 5, 6, 7, 8, 9, 14, 15, 16, 17, 19, 20] [] Try.func145 (by decide) rfl Try.ntmps145 (fun cx e => drawn_ok ty_ok tb96_ok cx e) (some 21) rfl rfl rfl rfl (Nat.le_of_ble_eq_true rfl) (Nat.le_of_ble_eq_true rfl) ?_
      simp (maxSteps := 10000000) only [go_sem, tb96_94, T94, tb96_106, T106a, tb96_121, T121, tb96_124, T124, tb96_127, T127, tb96_144, T144, T96, Option.map_some, Int.reduceToNat, Nat.reduceEqDiff, Nat.reduceLT, Nat.reduceAdd, Nat.reduceMul, Nat.reduceSub, Nat.reduceLeDiff, reduceIte, reduceCtorEq, Try.results96, Try.results145]
      repeat refine gA ?_
      intro stop1 S1
      refine S1.goB [] 1000 ?_
      simp (maxSteps := 10000000) only [go_sem, tb96_94, T94, tb96_106, T106a, tb96_121, T121, tb96_124, T124, tb96_127, T127, tb96_144, T144, T96, Option.map_some, Int.reduceToNat, Nat.reduceEqDiff, Nat.reduceLT, Nat.reduceAdd, Nat.reduceMul, Nat.reduceSub, Nat.reduceLeDiff, reduceIte, reduceCtorEq, Try.results96, Try.results145]
      repeat refine gA ?_
      refine S1.sees [1, 3, 6] [(200003, 200003), (3, 3), (5, 5)] [(15, 15)] ?_ (Stop.iter S1 (fun s2 => ⟨[(1, .c (.own 15)), (3, .c (.ref 200003 0)), (6, .c (.d (.int .i64 s2.1)))], [(200003, [.d (.int .i64 a0_0), .d (.int .i64 a0_1), .d (encF 2 d_II a0_2), .d (encF 1 d_LIIE a0_3), .d (encF 2 d_II a0_4), .d (encF 1 d_LIIE a0_5)]), (3, [.d (.int .i64 a0_0), .d (.int .i64 a0_1), .d (encF 2 d_II a0_2), .d (encF 1 d_LIIE a0_3), .d (encF 2 d_II a0_4), .d (encF 1 d_LIIE a0_5)]), (5, [.d (encF 1 d_I a2_0), .d (.int .i64 a2_1)])], [(15, .owned (encF 1 d_I s2.2))]⟩) (b96_2 a0_0 a0_1 a0_2 a0_3 a0_4 a0_5 a2_0 a2_1) (fun q => q = r) hr rfl ?_)
      · (simp (maxDischargeDepth := 8) [go_sem])
      · intro s2 hr
        unfold b96_2 at hr
        refine S1.goB [] 1000 ?_
        simp (maxSteps := 10000000) only [go_sem, tb96_94, T94, tb96_106, T106a, tb96_121, T121, tb96_124, T124, tb96_127, T127, tb96_144, T144, T96, Option.map_some, Int.reduceToNat, Nat.reduceEqDiff, Nat.reduceLT, Nat.reduceAdd, Nat.reduceMul, Nat.reduceSub, Nat.reduceLeDiff, reduceIte, reduceCtorEq, Try.results96, Try.results145]
        repeat refine gA ?_
        refine ⟨fun hc => ?_, fun hc => ?_⟩
        · replace hr := ifP1 hr hc
          obtain ⟨hg14, hr⟩ := of_guard1 hr
          obtain ⟨v11, hv11, hr⟩ := of_bind1 hr
          obtain ⟨hg15, hr⟩ := of_guard1 hr
          obtain ⟨v12, hv12, hr⟩ := of_bind1 hr
          obtain ⟨v13, hv13, hr⟩ := of_bind1 hr
          obtain ⟨hg16, hr⟩ := of_guard1 hr
          obtain ⟨hg17, hr⟩ := of_guard1 hr
          obtain ⟨hg18, hr⟩ := of_guard1 hr
          obtain ⟨hg19, hr⟩ := of_guard1 hr
          try simp only [hv11, hv12, hv13, Option.getD_some, Option.isSome_some, true_and, and_assoc]
          repeat refine gA ?_
          refine S1.sees [1, 3, 6] [(200003, 200003), (3, 3), (5, 5)] [(15, 15)] ?_ hr
          (simp (maxDischargeDepth := 8) [go_sem])
        · replace hr := ifN1 hr hc
          repeat refine gA ?_
          have hr := of_out0 hr
          repeat refine gA ?_
          repeat refine gA ?_
          refine S.goB [2, 3] 1000 ?_
          simp (maxSteps := 10000000) only [go_sem, tb96_94, T94, tb96_106, T106a, tb96_121, T121, tb96_124, T124, tb96_127, T127, tb96_144, T144, T96, Option.map_some, Int.reduceToNat, Nat.reduceEqDiff, Nat.reduceLT, Nat.reduceAdd, Nat.reduceMul, Nat.reduceSub, Nat.reduceLeDiff, reduceIte, reduceCtorEq, Try.results96, Try.results145]
          obtain ⟨hg26, hr⟩ := of_guard0 hr
          obtain ⟨v20, hv20, hr⟩ := of_bind0 hr
          obtain ⟨hg27, hr⟩ := of_guard0 hr
          obtain ⟨hg28, hr⟩ := of_guard0 hr
          try simp only [hv20, Option.getD_some, Option.isSome_some, true_and, and_assoc]
          repeat refine gA ?_
          refine S.sees [3, 9, 10, 36, 37, 38] [(3, 3)] [(15, 15)] ?_ (Stop.iter S (fun s3 => ⟨[(3, .c (.ref 3 0)), (9, .c (.own 15)), (10, .c (.d (.int .i64 v20))), (36, .c (.d (encF 1 d_I a2_0))), (37, .c (.d (.int .i64 (a2_0.length : Int)))), (38, .c (.d (.int .i64 s3.1)))], [(3, [.d (.int .i64 a0_0), .d (.int .i64 a0_1), .d (encF 2 d_II a0_2), .d (encF 1 d_LIIE a0_3), .d (encF 2 d_II a0_4), .d (encF 1 d_LIIE a0_5)])], [(15, .owned (encF 1 d_I s3.2))]⟩) (b96_3 a0_0 a0_1 a0_2 a0_3 a0_4 a0_5 a2_0 v20) (fun q => q = r) hr rfl ?_)
          · (simp (maxDischargeDepth := 8) [go_sem])
          · intro s3 hr
            unfold b96_3 at hr
            refine S.goB [2, 3] 1000 ?_
            simp (maxSteps := 10000000) only [go_sem, tb96_94, T94, tb96_106, T106a, tb96_121, T121, tb96_124, T124, tb96_127, T127, tb96_144, T144, T96, Option.map_some, Int.reduceToNat, Nat.reduceEqDiff, Nat.reduceLT, Nat.reduceAdd, Nat.reduceMul, Nat.reduceSub, Nat.reduceLeDiff, reduceIte, reduceCtorEq, Try.results96, Try.results145]
            repeat refine gA ?_
            refine ⟨fun hc => ?_, fun hc => ?_⟩
            · replace hr := ifP1 hr hc
              obtain ⟨hg21, hr⟩ := of_guard1 hr
              obtain ⟨hg22, hr⟩ := of_guard1 hr
              obtain ⟨hg23, hr⟩ := of_guard1 hr
              repeat refine gA ?_
              refine S.sees [3, 9, 10, 36, 37, 38] [(3, 3)] [(15, 15)] ?_ hr
              (simp (maxDischargeDepth := 8) [go_sem])
            · replace hr := ifN1 hr hc
              repeat refine gA ?_
              have hr := of_out0 hr
              obtain ⟨v24, hv24, hr⟩ := of_bind0 hr
              obtain ⟨v25, hv25, hr⟩ := of_bind0 hr
              try simp only [hv24, hv25, Option.getD_some, Option.isSome_some, true_and, and_assoc]
              repeat refine gA ?_
              obtain rfl := Option.some.inj hr
              (simp (maxDischargeDepth := 8) [go_sem])
theorem f96 : FnFact Try.prog 96 T96.sp := ⟨⟨Try.f96, Try.func96, by decide, rfl⟩, v96⟩

/- martensite/heat.Stepped -/
def r64 (a0_0 : Int) (a0_1 : Int) (a0_2 : List (Int × Int)) (a0_3 : List ((List (Int × Int)))) (a1 : List (Int)) (a2_0 : List (Int)) (a2_1 : Int) : Option ((List (Int)) × Int) :=
  (r89 a0_0 a0_1 a0_2 a0_3 a1).bind fun v1 =>
   if (v1.2.2.2.2.2.2 == 0) = true then
    (r92 v1.1 v1.2.1 v1.2.2.1 v1.2.2.2.1 v1.2.2.2.2.1 v1.2.2.2.2.2.1 a2_0 a2_1).bind fun v2 =>
     if (v2 != 0) = true then
      some ([], v2)
      else (r96 v1.1 v1.2.1 v1.2.2.1 v1.2.2.2.1 v1.2.2.2.2.1 v1.2.2.2.2.2.1 a1 a2_0 a2_1).bind fun v3 =>
       if (v3.2.2 != 0) = true then
        some ([], v3.2.2)
        else some (v3.1, 0)
    else if (v1.2.2.2.2.2.2 != 0) = true then
     some ([], v1.2.2.2.2.2.2)
     else (r96 v1.1 v1.2.1 v1.2.2.1 v1.2.2.2.1 v1.2.2.2.2.1 v1.2.2.2.2.2.1 a1 a2_0 a2_1).bind fun v4 =>
      if (v4.2.2 != 0) = true then
       some ([], v4.2.2)
       else some (v4.1, 0)
def T64 : TSpec (Int × Int × (List (Int × Int)) × (List ((List (Int × Int)))) × (List (Int)) × (List (Int)) × Int) where
  enc x := [.agg [.int .i64 x.1, .int .i64 x.2.1, encF 2 d_II x.2.2.1, encF 1 d_LIIE x.2.2.2.1], .c (encF 1 d_I x.2.2.2.2.1), .agg [encF 1 d_I x.2.2.2.2.2.1, .int .i64 x.2.2.2.2.2.2]]
  dec a := (dInt (aCell a 0 0), dInt (aCell a 0 1), decF g_II (aCell a 0 2), decF g_LIIE (aCell a 0 3), decF g_I (aCell a 1 0), decF g_I (aCell a 2 0), dInt (aCell a 2 1))
  pre x := (r64 x.1 x.2.1 x.2.2.1 x.2.2.2.1 x.2.2.2.2.1 x.2.2.2.2.2.1 x.2.2.2.2.2.2).isSome = true
  res x := [.c (.own (encF 1 d_I (((r64 x.1 x.2.1 x.2.2.1 x.2.2.2.1 x.2.2.2.2.1 x.2.2.2.2.2.1 x.2.2.2.2.2.2).getD default).1))), .c (.d (.int .i64 (((r64 x.1 x.2.1 x.2.2.1 x.2.2.2.1 x.2.2.2.2.1 x.2.2.2.2.2.1 x.2.2.2.2.2.2).getD default).2)))]
  al := false
def tb64 : Fns := lk [(89, T89.sp), (92, T92.sp), (96, T96.sp)]
theorem tb64_ok : FnsOk Try.prog tb64 := .cons f89 (.cons f92 (.cons f96 (FnsOk.nil)))
theorem tb64_89 : tb64 89 = some T89.sp := rfl
theorem tb64_92 : tb64 92 = some T92.sp := rfl
theorem tb64_96 : tb64 96 = some T96.sp := rfl
theorem v64 : Valid Try.prog 64 T64.sp := by
  refine valid_t (fn := Try.f64) (n := 38) ty_ok tb64_ok Try.func64 rfl Try.ntmps64 ?_
  rintro ⟨a0_0, a0_1, a0_2, a0_3, a1, a2_0, a2_1⟩ hx
  obtain ⟨r, hr⟩ := Option.isSome_iff_exists.1 (show (r64 a0_0 a0_1 a0_2 a0_3 a1 a2_0 a2_1).isSome = true from hx)
  have hres : T64.res (a0_0, a0_1, a0_2, a0_3, a1, a2_0, a2_1) = [.c (.own (encF 1 d_I r.1)), .c (.d (.int .i64 r.2))] := by simp only [T64, hr, Option.getD_some]
  refine ⟨Nat.le_of_ble_eq_true rfl, fun stop S => ?_⟩
  rw [hres] at S
  unfold r64 at hr
  refine S.goB [] 1000 ?_
  simp (maxSteps := 10000000) only [go_sem, tb64_89, T89, tb64_92, T92, tb64_96, T96, T64, Option.map_some, Int.reduceToNat, Nat.reduceEqDiff, Nat.reduceLT, Nat.reduceAdd, Nat.reduceMul, Nat.reduceSub, Nat.reduceLeDiff, reduceIte, reduceCtorEq, Try.results64]
  obtain ⟨v1, hv1, hr⟩ := of_bind0 hr
  try simp only [hv1, Option.getD_some, Option.isSome_some, true_and, and_assoc]
  repeat refine gA ?_
  refine ⟨fun hc => ?_, fun hc => ?_⟩
  · replace hr := ifP hr hc
    obtain ⟨v2, hv2, hr⟩ := of_bind0 hr
    try simp only [hv2, Option.getD_some, Option.isSome_some, true_and, and_assoc]
    repeat refine gA ?_
    refine ⟨fun hc => ?_, fun hc => ?_⟩
    · replace hr := ifP hr hc
      repeat refine gA ?_
      obtain rfl := Option.some.inj hr
      (simp (maxDischargeDepth := 8) [go_sem])
    · replace hr := ifN hr hc
      obtain ⟨v3, hv3, hr⟩ := of_bind0 hr
      try simp only [hv3, Option.getD_some, Option.isSome_some, true_and, and_assoc]
      repeat refine gA ?_
      refine ⟨fun hc => ?_, fun hc => ?_⟩
      · replace hr := ifP hr hc
        repeat refine gA ?_
        obtain rfl := Option.some.inj hr
        (simp (maxDischargeDepth := 8) [go_sem])
      · replace hr := ifN hr hc
        repeat refine gA ?_
        obtain rfl := Option.some.inj hr
        (simp (maxDischargeDepth := 8) [go_sem])
  · replace hr := ifN hr hc
    repeat refine gA ?_
    refine ⟨fun hc => ?_, fun hc => ?_⟩
    · replace hr := ifP hr hc
      repeat refine gA ?_
      obtain rfl := Option.some.inj hr
      (simp (maxDischargeDepth := 8) [go_sem])
    · replace hr := ifN hr hc
      obtain ⟨v4, hv4, hr⟩ := of_bind0 hr
      try simp only [hv4, Option.getD_some, Option.isSome_some, true_and, and_assoc]
      repeat refine gA ?_
      refine ⟨fun hc => ?_, fun hc => ?_⟩
      · replace hr := ifP hr hc
        repeat refine gA ?_
        obtain rfl := Option.some.inj hr
        (simp (maxDischargeDepth := 8) [go_sem])
      · replace hr := ifN hr hc
        repeat refine gA ?_
        obtain rfl := Option.some.inj hr
        (simp (maxDischargeDepth := 8) [go_sem])
theorem f64 : FnFact Try.prog 64 T64.sp := ⟨⟨Try.f64, Try.func64, by decide, rfl⟩, v64⟩

/- (martensite/heat.part).boxErr -/
def b114_1 (a1_0 : List (Int)) (a1_1 : List (Int)) : (Int) → Ctl (Int) (Int × Int) := fun s1 =>
  if (decide (s1 < (a1_0.length : Int))) = true then
   if 0 ≤ s1 ∧ s1 < (a1_0.length : Int) then
    if 0 ≤ s1 ∧ s1 < (a1_1.length : Int) then
     if (decide ((a1_0.getD s1.toNat default) > (a1_1.getD s1.toNat default))) = true then
      .out (some (s1, 9))
      else .next (IntKind.i64.wrap (s1 + 1))
     else .out none
    else .out none
   else .out (some (0, 0))
def r114 (a0_0 : Int) (a0_1 : Int) (a0_2 : List (Int × Int)) (a0_3 : List ((List (Int × Int)))) (a0_4 : List (Int × Int)) (a0_5 : List ((List (Int × Int)))) (a1_0 : List (Int)) (a1_1 : List (Int)) : Option (Int × Int) :=
  (r102 a0_0 a0_1 a0_2 a0_3 a0_4 a0_5 a1_0).bind fun v1 =>
   if (v1.2 != 0) = true then
    some (v1.1, v1.2)
    else (r102 a0_0 a0_1 a0_2 a0_3 a0_4 a0_5 a1_1).bind fun v2 =>
     if (v2.2 != 0) = true then
      some (v2.1, v2.2)
      else iterC (b114_1 a1_0 a1_1) 1000000000 0
def T114 : TSpec (Int × Int × (List (Int × Int)) × (List ((List (Int × Int)))) × (List (Int × Int)) × (List ((List (Int × Int)))) × (List (Int)) × (List (Int))) where
  enc x := [.agg [.int .i64 x.1, .int .i64 x.2.1, encF 2 d_II x.2.2.1, encF 1 d_LIIE x.2.2.2.1, encF 2 d_II x.2.2.2.2.1, encF 1 d_LIIE x.2.2.2.2.2.1], .agg [encF 1 d_I x.2.2.2.2.2.2.1, encF 1 d_I x.2.2.2.2.2.2.2]]
  dec a := (dInt (aCell a 0 0), dInt (aCell a 0 1), decF g_II (aCell a 0 2), decF g_LIIE (aCell a 0 3), decF g_II (aCell a 0 4), decF g_LIIE (aCell a 0 5), decF g_I (aCell a 1 0), decF g_I (aCell a 1 1))
  pre x := (r114 x.1 x.2.1 x.2.2.1 x.2.2.2.1 x.2.2.2.2.1 x.2.2.2.2.2.1 x.2.2.2.2.2.2.1 x.2.2.2.2.2.2.2).isSome = true
  res x := [.c (.d (.int .i64 (((r114 x.1 x.2.1 x.2.2.1 x.2.2.2.1 x.2.2.2.2.1 x.2.2.2.2.2.1 x.2.2.2.2.2.2.1 x.2.2.2.2.2.2.2).getD default).1))), .c (.d (.int .i64 (((r114 x.1 x.2.1 x.2.2.1 x.2.2.2.1 x.2.2.2.2.1 x.2.2.2.2.2.1 x.2.2.2.2.2.2.1 x.2.2.2.2.2.2.2).getD default).2)))]
  al := false
def tb114 : Fns := lk [(102, T102.sp)]
theorem tb114_ok : FnsOk Try.prog tb114 := .cons f102 (FnsOk.nil)
theorem tb114_102 : tb114 102 = some T102.sp := rfl
theorem v114 : Valid Try.prog 114 T114.sp := by
  refine valid_t (fn := Try.f114) (n := 51) ty_ok tb114_ok Try.func114 rfl Try.ntmps114 ?_
  rintro ⟨a0_0, a0_1, a0_2, a0_3, a0_4, a0_5, a1_0, a1_1⟩ hx
  obtain ⟨r, hr⟩ := Option.isSome_iff_exists.1 (show (r114 a0_0 a0_1 a0_2 a0_3 a0_4 a0_5 a1_0 a1_1).isSome = true from hx)
  have hres : T114.res (a0_0, a0_1, a0_2, a0_3, a0_4, a0_5, a1_0, a1_1) = [.c (.d (.int .i64 r.1)), .c (.d (.int .i64 r.2))] := by simp only [T114, hr, Option.getD_some]
  refine ⟨Nat.le_of_ble_eq_true rfl, fun stop S => ?_⟩
  rw [hres] at S
  unfold r114 at hr
  refine S.goB [] 1000 ?_
  simp (maxSteps := 10000000) only [go_sem, tb114_102, T102, T114, Option.map_some, Int.reduceToNat, Nat.reduceEqDiff, Nat.reduceLT, Nat.reduceAdd, Nat.reduceMul, Nat.reduceSub, Nat.reduceLeDiff, reduceIte, reduceCtorEq, Try.results114]
  obtain ⟨v1, hv1, hr⟩ := of_bind0 hr
  try simp only [hv1, Option.getD_some, Option.isSome_some, true_and, and_assoc]
  repeat refine gA ?_
  refine ⟨fun hc => ?_, fun hc => ?_⟩
  · replace hr := ifP hr hc
    repeat refine gA ?_
    obtain rfl := Option.some.inj hr
    (simp (maxDischargeDepth := 8) [go_sem])
  · replace hr := ifN hr hc
    obtain ⟨v2, hv2, hr⟩ := of_bind0 hr
    try simp only [hv2, Option.getD_some, Option.isSome_some, true_and, and_assoc]
    repeat refine gA ?_
    refine ⟨fun hc => ?_, fun hc => ?_⟩
    · replace hr := ifP hr hc
      repeat refine gA ?_
      obtain rfl := Option.some.inj hr
      (simp (maxDischargeDepth := 8) [go_sem])
    · replace hr := ifN hr hc
      repeat refine gA ?_
      refine S.sees [3, 35, 36, 37] [(3, 3)] [] ?_ (Stop.iter S (fun s1 => ⟨[(3, .c (.ref 3 0)), (35, .c (.d (encF 1 d_I a1_0))), (36, .c (.d (.int .i64 (a1_0.length : Int)))), (37, .c (.d (.int .i64 s1)))], [(3, [.d (encF 1 d_I a1_0), .d (encF 1 d_I a1_1)])], []⟩) (b114_1 a1_0 a1_1) (fun q => q = r) hr rfl ?_)
      · (simp (maxDischargeDepth := 8) [go_sem])
      · intro s1 hr
        unfold b114_1 at hr
        refine S.goB [] 1000 ?_
        simp (maxSteps := 10000000) only [go_sem, tb114_102, T102, T114, Option.map_some, Int.reduceToNat, Nat.reduceEqDiff, Nat.reduceLT, Nat.reduceAdd, Nat.reduceMul, Nat.reduceSub, Nat.reduceLeDiff, reduceIte, reduceCtorEq, Try.results114]
        repeat refine gA ?_
        refine ⟨fun hc => ?_, fun hc => ?_⟩
        · replace hr := ifP1 hr hc
          obtain ⟨hg3, hr⟩ := of_guard1 hr
          obtain ⟨hg4, hr⟩ := of_guard1 hr
          repeat refine gA ?_
          refine ⟨fun hc => ?_, fun hc => ?_⟩
          · replace hr := ifP1 hr hc
            repeat refine gA ?_
            have hr := of_out0 hr
            obtain rfl := Option.some.inj hr
            (simp (maxDischargeDepth := 8) [go_sem])
          · replace hr := ifN1 hr hc
            repeat refine gA ?_
            refine S.sees [3, 35, 36, 37] [(3, 3)] [] ?_ hr
            (simp (maxDischargeDepth := 8) [go_sem])
        · replace hr := ifN1 hr hc
          repeat refine gA ?_
          have hr := of_out0 hr
          repeat refine gA ?_
          obtain rfl := Option.some.inj hr
          (simp (maxDischargeDepth := 8) [go_sem])
theorem f114 : FnFact Try.prog 114 T114.sp := ⟨⟨Try.f114, Try.func114, by decide, rfl⟩, v114⟩

/- martensite/heat.openBox -/
def r115 (a0_0 : Int) (a0_1 : Int) (a0_2 : List (Int × Int)) (a0_3 : List ((List (Int × Int)))) (a1_0 : List (Int)) (a1_1 : List (Int)) : Option (Int × Int × (List (Int × Int)) × (List ((List (Int × Int)))) × (List (Int × Int)) × (List ((List (Int × Int)))) × Int) :=
  (r101 a0_0 a0_1 a0_2 a0_3).bind fun v1 =>
   if (v1.2.2.2.2.2.2 == 0) = true then
    (r114 v1.1 v1.2.1 v1.2.2.1 v1.2.2.2.1 v1.2.2.2.2.1 v1.2.2.2.2.2.1 a1_0 a1_1).bind fun v2 =>
     some (v1.1, v1.2.1, v1.2.2.1, v1.2.2.2.1, v1.2.2.2.2.1, v1.2.2.2.2.2.1, v2.2)
    else some (v1.1, v1.2.1, v1.2.2.1, v1.2.2.2.1, v1.2.2.2.2.1, v1.2.2.2.2.2.1, v1.2.2.2.2.2.2)
def T115 : TSpec (Int × Int × (List (Int × Int)) × (List ((List (Int × Int)))) × (List (Int)) × (List (Int))) where
  enc x := [.agg [.int .i64 x.1, .int .i64 x.2.1, encF 2 d_II x.2.2.1, encF 1 d_LIIE x.2.2.2.1], .agg [encF 1 d_I x.2.2.2.2.1, encF 1 d_I x.2.2.2.2.2]]
  dec a := (dInt (aCell a 0 0), dInt (aCell a 0 1), decF g_II (aCell a 0 2), decF g_LIIE (aCell a 0 3), decF g_I (aCell a 1 0), decF g_I (aCell a 1 1))
  pre x := (r115 x.1 x.2.1 x.2.2.1 x.2.2.2.1 x.2.2.2.2.1 x.2.2.2.2.2).isSome = true
  res x := [.agg [.d (.int .i64 (((r115 x.1 x.2.1 x.2.2.1 x.2.2.2.1 x.2.2.2.2.1 x.2.2.2.2.2).getD default).1)), .d (.int .i64 (((r115 x.1 x.2.1 x.2.2.1 x.2.2.2.1 x.2.2.2.2.1 x.2.2.2.2.2).getD default).2.1)), .d (encF 2 d_II (((r115 x.1 x.2.1 x.2.2.1 x.2.2.2.1 x.2.2.2.2.1 x.2.2.2.2.2).getD default).2.2.1)), .d (encF 1 d_LIIE (((r115 x.1 x.2.1 x.2.2.1 x.2.2.2.1 x.2.2.2.2.1 x.2.2.2.2.2).getD default).2.2.2.1)), .own (encF 2 d_II (((r115 x.1 x.2.1 x.2.2.1 x.2.2.2.1 x.2.2.2.2.1 x.2.2.2.2.2).getD default).2.2.2.2.1)), .own (encF 1 d_LIIE (((r115 x.1 x.2.1 x.2.2.1 x.2.2.2.1 x.2.2.2.2.1 x.2.2.2.2.2).getD default).2.2.2.2.2.1))], .c (.d (.int .i64 (((r115 x.1 x.2.1 x.2.2.1 x.2.2.2.1 x.2.2.2.2.1 x.2.2.2.2.2).getD default).2.2.2.2.2.2)))]
  al := true
def tb115 : Fns := lk [(101, T101.sp), (114, T114.sp)]
theorem tb115_ok : FnsOk Try.prog tb115 := .cons f101 (.cons f114 (FnsOk.nil))
theorem tb115_101 : tb115 101 = some T101.sp := rfl
theorem tb115_114 : tb115 114 = some T114.sp := rfl
theorem v115 : Valid Try.prog 115 T115.sp := by
  refine valid_t (fn := Try.f115) (n := 23) ty_ok tb115_ok Try.func115 rfl Try.ntmps115 ?_
  rintro ⟨a0_0, a0_1, a0_2, a0_3, a1_0, a1_1⟩ hx
  obtain ⟨r, hr⟩ := Option.isSome_iff_exists.1 (show (r115 a0_0 a0_1 a0_2 a0_3 a1_0 a1_1).isSome = true from hx)
  have hres : T115.res (a0_0, a0_1, a0_2, a0_3, a1_0, a1_1) = [.agg [.d (.int .i64 r.1), .d (.int .i64 r.2.1), .d (encF 2 d_II r.2.2.1), .d (encF 1 d_LIIE r.2.2.2.1), .own (encF 2 d_II r.2.2.2.2.1), .own (encF 1 d_LIIE r.2.2.2.2.2.1)], .c (.d (.int .i64 r.2.2.2.2.2.2))] := by simp only [T115, hr, Option.getD_some]
  refine ⟨Nat.le_of_ble_eq_true rfl, fun stop S => ?_⟩
  rw [hres] at S
  unfold r115 at hr
  refine S.goB [] 1000 ?_
  simp (maxSteps := 10000000) only [go_sem, tb115_101, T101, tb115_114, T114, T115, Option.map_some, Int.reduceToNat, Nat.reduceEqDiff, Nat.reduceLT, Nat.reduceAdd, Nat.reduceMul, Nat.reduceSub, Nat.reduceLeDiff, reduceIte, reduceCtorEq, Try.results115]
  obtain ⟨v1, hv1, hr⟩ := of_bind0 hr
  try simp only [hv1, Option.getD_some, Option.isSome_some, true_and, and_assoc]
  repeat refine gA ?_
  refine ⟨fun hc => ?_, fun hc => ?_⟩
  · replace hr := ifP hr hc
    obtain ⟨v2, hv2, hr⟩ := of_bind0 hr
    try simp only [hv2, Option.getD_some, Option.isSome_some, true_and, and_assoc]
    repeat refine gA ?_
    obtain rfl := Option.some.inj hr
    (simp (maxDischargeDepth := 8) [go_sem])
  · replace hr := ifN hr hc
    repeat refine gA ?_
    obtain rfl := Option.some.inj hr
    (simp (maxDischargeDepth := 8) [go_sem])
theorem f115 : FnFact Try.prog 115 T115.sp := ⟨⟨Try.f115, Try.func115, by decide, rfl⟩, v115⟩

/- (martensite/heat.part).spanErr -/
def b116_1 (a0_0 : Int) (a0_1 : Int) (a0_2 : List (Int × Int)) (a0_3 : List ((List (Int × Int)))) (a0_4 : List (Int × Int)) (a0_5 : List ((List (Int × Int)))) (a1_0 : List (Int × Int)) (a1_1 : Int) (a1_2 : Int) : (Int × Int) → Ctl (Int × Int) (Int) := fun s1 =>
  if (decide (s1.2 < (a1_0.length : Int))) = true then
   if 0 ≤ s1.2 ∧ s1.2 < (a1_0.length : Int) then
    bindC (r139 ((a1_0.getD s1.2.toNat default).1)) fun v2 =>
     if v2 = true → (r139 ((a1_0.getD s1.2.toNat default).2)).isSome = true then
      bindC (r94 (v2 && ((r139 ((a1_0.getD s1.2.toNat default).2)).getD default)) 2) fun v3 =>
       bindC (r94 (decide (((a1_0.getD s1.2.toNat default).1) ≤ ((a1_0.getD s1.2.toNat default).2))) 9) fun v4 =>
        bindC (r91 [s1.1, v3, v4]) fun v5 =>
         .next (v5, IntKind.i64.wrap (s1.2 + 1))
      else .out none
    else .out none
   else .out ((r126 a0_0 a0_1 a0_2 a0_3 a0_4 a0_5 a1_1).bind fun v8 =>
    (r126 a0_0 a0_1 a0_2 a0_3 a0_4 a0_5 a1_2).bind fun v9 =>
     (r94 (decide (a1_1 ≤ a1_2)) 9).bind fun v10 =>
      (r91 [s1.1, v8, v9, v10]).bind fun v11 =>
       some v11)
def r116 (a0_0 : Int) (a0_1 : Int) (a0_2 : List (Int × Int)) (a0_3 : List ((List (Int × Int)))) (a0_4 : List (Int × Int)) (a0_5 : List ((List (Int × Int)))) (a1_0 : List (Int × Int)) (a1_1 : Int) (a1_2 : Int) : Option (Int) :=
  (r94 ((a1_0.length : Int) == a0_0) 10).bind fun v1 =>
   iterC (b116_1 a0_0 a0_1 a0_2 a0_3 a0_4 a0_5 a1_0 a1_1 a1_2) 1000000000 (v1, 0)
def T116 : TSpec (Int × Int × (List (Int × Int)) × (List ((List (Int × Int)))) × (List (Int × Int)) × (List ((List (Int × Int)))) × (List (Int × Int)) × Int × Int) where
  enc x := [.agg [.int .i64 x.1, .int .i64 x.2.1, encF 2 d_II x.2.2.1, encF 1 d_LIIE x.2.2.2.1, encF 2 d_II x.2.2.2.2.1, encF 1 d_LIIE x.2.2.2.2.2.1], .agg [encF 2 d_II x.2.2.2.2.2.2.1, .int .i64 x.2.2.2.2.2.2.2.1, .int .i64 x.2.2.2.2.2.2.2.2]]
  dec a := (dInt (aCell a 0 0), dInt (aCell a 0 1), decF g_II (aCell a 0 2), decF g_LIIE (aCell a 0 3), decF g_II (aCell a 0 4), decF g_LIIE (aCell a 0 5), decF g_II (aCell a 1 0), dInt (aCell a 1 1), dInt (aCell a 1 2))
  pre x := (r116 x.1 x.2.1 x.2.2.1 x.2.2.2.1 x.2.2.2.2.1 x.2.2.2.2.2.1 x.2.2.2.2.2.2.1 x.2.2.2.2.2.2.2.1 x.2.2.2.2.2.2.2.2).isSome = true
  res x := [.c (.d (.int .i64 ((r116 x.1 x.2.1 x.2.2.1 x.2.2.2.1 x.2.2.2.2.1 x.2.2.2.2.2.1 x.2.2.2.2.2.2.1 x.2.2.2.2.2.2.2.1 x.2.2.2.2.2.2.2.2).getD default)))]
  al := false
def tb116 : Fns := lk [(91, T91.sp), (94, T94.sp), (126, T126.sp), (139, T139.sp)]
theorem tb116_ok : FnsOk Try.prog tb116 := .cons f91 (.cons f94 (.cons f126 (.cons f139 (FnsOk.nil))))
theorem tb116_91 : tb116 91 = some T91.sp := rfl
theorem tb116_94 : tb116 94 = some T94.sp := rfl
theorem tb116_126 : tb116 126 = some T126.sp := rfl
theorem tb116_139 : tb116 139 = some T139.sp := rfl
theorem v116 : Valid Try.prog 116 T116.sp := by
  refine valid_t (fn := Try.f116) (n := 63) ty_ok tb116_ok Try.func116 rfl Try.ntmps116 ?_
  rintro ⟨a0_0, a0_1, a0_2, a0_3, a0_4, a0_5, a1_0, a1_1, a1_2⟩ hx
  obtain ⟨r, hr⟩ := Option.isSome_iff_exists.1 (show (r116 a0_0 a0_1 a0_2 a0_3 a0_4 a0_5 a1_0 a1_1 a1_2).isSome = true from hx)
  have hres : T116.res (a0_0, a0_1, a0_2, a0_3, a0_4, a0_5, a1_0, a1_1, a1_2) = [.c (.d (.int .i64 r))] := by simp only [T116, hr, Option.getD_some]
  refine ⟨Nat.le_of_ble_eq_true rfl, fun stop S => ?_⟩
  rw [hres] at S
  unfold r116 at hr
  refine S.goB [] 1000 ?_
  simp (maxSteps := 10000000) only [go_sem, tb116_91, T91, tb116_94, T94, tb116_126, T126, tb116_139, T139, T116, Option.map_some, Int.reduceToNat, Nat.reduceEqDiff, Nat.reduceLT, Nat.reduceAdd, Nat.reduceMul, Nat.reduceSub, Nat.reduceLeDiff, reduceIte, reduceCtorEq, Try.results116]
  obtain ⟨v1, hv1, hr⟩ := of_bind0 hr
  try simp only [hv1, Option.getD_some, Option.isSome_some, true_and, and_assoc]
  repeat refine gA ?_
  refine S.sees [2, 3, 5, 17, 18, 19] [(2, 2), (3, 3)] [] ?_ (Stop.iter S (fun s1 => ⟨[(2, .c (.ref 2 0)), (3, .c (.ref 3 0)), (5, .c (.d (.int .i64 s1.1))), (17, .c (.d (encF 2 d_II a1_0))), (18, .c (.d (.int .i64 (a1_0.length : Int)))), (19, .c (.d (.int .i64 s1.2)))], [(2, [.d (.int .i64 a0_0), .d (.int .i64 a0_1), .d (encF 2 d_II a0_2), .d (encF 1 d_LIIE a0_3), .d (encF 2 d_II a0_4), .d (encF 1 d_LIIE a0_5)]), (3, [.d (encF 2 d_II a1_0), .d (.int .i64 a1_1), .d (.int .i64 a1_2)])], []⟩) (b116_1 a0_0 a0_1 a0_2 a0_3 a0_4 a0_5 a1_0 a1_1 a1_2) (fun q => q = r) hr rfl ?_)
  · (simp (maxDischargeDepth := 8) [go_sem])
  · intro s1 hr
    unfold b116_1 at hr
    refine S.goB [] 1000 ?_
    simp (maxSteps := 10000000) only [go_sem, tb116_91, T91, tb116_94, T94, tb116_126, T126, tb116_139, T139, T116, Option.map_some, Int.reduceToNat, Nat.reduceEqDiff, Nat.reduceLT, Nat.reduceAdd, Nat.reduceMul, Nat.reduceSub, Nat.reduceLeDiff, reduceIte, reduceCtorEq, Try.results116]
    repeat refine gA ?_
    refine ⟨fun hc => ?_, fun hc => ?_⟩
    · replace hr := ifP1 hr hc
      obtain ⟨hg6, hr⟩ := of_guard1 hr
      obtain ⟨v2, hv2, hr⟩ := of_bind1 hr
      obtain ⟨hg7, hr⟩ := of_guard1 hr
      obtain ⟨v3, hv3, hr⟩ := of_bind1 hr
      obtain ⟨v4, hv4, hr⟩ := of_bind1 hr
      obtain ⟨v5, hv5, hr⟩ := of_bind1 hr
      try simp only [hv2, hv3, hv4, hv5, Option.getD_some, Option.isSome_some, true_and, and_assoc]
      repeat (first | refine gG hg7 ?_ | refine gA ?_ | refine gB ?_)
      refine S.sees [2, 3, 5, 17, 18, 19] [(2, 2), (3, 3)] [] ?_ hr
      (simp (maxDischargeDepth := 8) [go_sem])
    · replace hr := ifN1 hr hc
      repeat refine gA ?_
      have hr := of_out0 hr
      obtain ⟨v8, hv8, hr⟩ := of_bind0 hr
      obtain ⟨v9, hv9, hr⟩ := of_bind0 hr
      obtain ⟨v10, hv10, hr⟩ := of_bind0 hr
      obtain ⟨v11, hv11, hr⟩ := of_bind0 hr
      try simp only [hv8, hv9, hv10, hv11, Option.getD_some, Option.isSome_some, true_and, and_assoc]
      repeat refine gA ?_
      obtain rfl := Option.some.inj hr
      (simp (maxDischargeDepth := 8) [go_sem])
theorem f116 : FnFact Try.prog 116 T116.sp := ⟨⟨Try.f116, Try.func116, by decide, rfl⟩, v116⟩

/- martensite/heat.drives -/
def b153_1 (a0_0 : List (Int × Int)) (a0_1 : Int) (a0_2 : Int) : (Int × (List (Int)) × (List (Int))) → Ctl (Int × (List (Int)) × (List (Int))) ((List (Int)) × Int × (List (Int)) × Int) := fun s1 =>
  if (decide (s1.1 < (a0_0.length : Int))) = true then
   if 0 ≤ s1.1 ∧ s1.1 < (a0_0.length : Int) then
    if (s1.2.1.length + 1) * 8 ≤ 140737488355328 ∧ s1.2.1.length + 1 ≤ 9223372036854775807 then
     if (s1.2.2.length + 1) * 8 ≤ 140737488355328 ∧ s1.2.2.length + 1 ≤ 9223372036854775807 then
      .next (IntKind.i64.wrap (s1.1 + 1), s1.2.1 ++ [(a0_0.getD s1.1.toNat default).1], s1.2.2 ++ [(a0_0.getD s1.1.toNat default).2])
      else .out none
     else .out none
    else .out none
   else .out (some (s1.2.1, a0_2, s1.2.2, a0_1))
def r153 (a0_0 : List (Int × Int)) (a0_1 : Int) (a0_2 : Int) : Option ((List (Int)) × Int × (List (Int)) × Int) :=
  iterC (b153_1 a0_0 a0_1 a0_2) 1000000000 (0, [], [])
def T153 : TSpec ((List (Int × Int)) × Int × Int) where
  enc x := [.agg [encF 2 d_II x.1, .int .i64 x.2.1, .int .i64 x.2.2]]
  dec a := (decF g_II (aCell a 0 0), dInt (aCell a 0 1), dInt (aCell a 0 2))
  pre x := (r153 x.1 x.2.1 x.2.2).isSome = true
  res x := [.agg [.own (encF 1 d_I (((r153 x.1 x.2.1 x.2.2).getD default).1)), .d (.int .i64 (((r153 x.1 x.2.1 x.2.2).getD default).2.1))], .agg [.own (encF 1 d_I (((r153 x.1 x.2.1 x.2.2).getD default).2.2.1)), .d (.int .i64 (((r153 x.1 x.2.1 x.2.2).getD default).2.2.2))]]
  al := false
def tb153 : Fns := lk []
theorem tb153_ok : FnsOk Try.prog tb153 := FnsOk.nil
theorem v153 : Valid Try.prog 153 T153.sp := by
  refine valid_t (fn := Try.f153) (n := 38) ty_ok tb153_ok Try.func153 rfl Try.ntmps153 ?_
  rintro ⟨a0_0, a0_1, a0_2⟩ hx
  obtain ⟨r, hr⟩ := Option.isSome_iff_exists.1 (show (r153 a0_0 a0_1 a0_2).isSome = true from hx)
  have hres : T153.res (a0_0, a0_1, a0_2) = [.agg [.own (encF 1 d_I r.1), .d (.int .i64 r.2.1)], .agg [.own (encF 1 d_I r.2.2.1), .d (.int .i64 r.2.2.2)]] := by simp only [T153, hr, Option.getD_some]
  refine ⟨Nat.le_of_ble_eq_true rfl, fun stop S => ?_⟩
  rw [hres] at S
  unfold r153 at hr
  refine S.goB [] 1000 ?_
  simp (maxSteps := 10000000) only [go_sem, T153, Option.map_some, Int.reduceToNat, Nat.reduceEqDiff, Nat.reduceLT, Nat.reduceAdd, Nat.reduceMul, Nat.reduceSub, Nat.reduceLeDiff, reduceIte, reduceCtorEq, Try.results153]
  repeat refine gA ?_
  refine S.own0b 2 0 2000200 1 rfl rfl (Nat.le_of_ble_eq_true rfl) rfl ?_
  refine S.own0b 3 0 2000300 1 rfl rfl (Nat.le_of_ble_eq_true rfl) rfl ?_
  refine S.sees [2, 3, 15, 16, 17] [(2, 2), (3, 3)] [(2000200, 2000200), (2000300, 2000300)] ?_ (Stop.iter S (fun s1 => ⟨[(2, .c (.ref 2 0)), (3, .c (.ref 3 0)), (15, .c (.d (encF 2 d_II a0_0))), (16, .c (.d (.int .i64 (a0_0.length : Int)))), (17, .c (.d (.int .i64 s1.1)))], [(2, [.own 2000200, .d (.int .i64 a0_2)]), (3, [.own 2000300, .d (.int .i64 a0_1)])], [(2000200, .owned (encF 1 d_I s1.2.1)), (2000300, .owned (encF 1 d_I s1.2.2))]⟩) (b153_1 a0_0 a0_1 a0_2) (fun q => q = r) hr rfl ?_)
  · (simp (maxDischargeDepth := 8) [go_sem])
  · intro s1 hr
    unfold b153_1 at hr
    refine S.goB [] 1000 ?_
    simp (maxSteps := 10000000) only [go_sem, T153, Option.map_some, Int.reduceToNat, Nat.reduceEqDiff, Nat.reduceLT, Nat.reduceAdd, Nat.reduceMul, Nat.reduceSub, Nat.reduceLeDiff, reduceIte, reduceCtorEq, Try.results153]
    repeat refine gA ?_
    refine ⟨fun hc => ?_, fun hc => ?_⟩
    · replace hr := ifP1 hr hc
      obtain ⟨hg1, hr⟩ := of_guard1 hr
      obtain ⟨hg2, hr⟩ := of_guard1 hr
      obtain ⟨hg3, hr⟩ := of_guard1 hr
      repeat refine gA ?_
      refine S.sees [2, 3, 15, 16, 17] [(2, 2), (3, 3)] [(26, 2000200), (32, 2000300)] ?_ hr
      (simp (maxDischargeDepth := 8) [go_sem])
    · replace hr := ifN1 hr hc
      repeat refine gA ?_
      have hr := of_out0 hr
      repeat refine gA ?_
      obtain rfl := Option.some.inj hr
      (simp (maxDischargeDepth := 8) [go_sem])
theorem f153 : FnFact Try.prog 153 T153.sp := ⟨⟨Try.f153, Try.func153, by decide, rfl⟩, v153⟩

/- (martensite/heat.part).boxStep -/
def r117 (a0_0 : Int) (a0_1 : Int) (a0_2 : List (Int × Int)) (a0_3 : List ((List (Int × Int)))) (a0_4 : List (Int × Int)) (a0_5 : List ((List (Int × Int)))) (a1_0 : List (Int)) (a1_1 : List (Int)) (a2_0 : List (Int × Int)) (a2_1 : Int) (a2_2 : Int) : Option ((List (Int)) × (List (Int)) × Int) :=
  (r153 a2_0 a2_1 a2_2).bind fun v1 =>
   (r96 a0_0 a0_1 a0_2 a0_3 a0_4 a0_5 a1_0 v1.1 v1.2.1).bind fun v2 =>
    (r96 a0_0 a0_1 a0_2 a0_3 a0_4 a0_5 a1_1 v1.2.2.1 v1.2.2.2).bind fun v3 =>
     (r91 [v2.2.2, v3.2.2]).bind fun v4 =>
      if (v4 != 0) = true then
       some ([], [], v4)
       else some (v2.1, v3.1, 0)
def T117 : TSpec (Int × Int × (List (Int × Int)) × (List ((List (Int × Int)))) × (List (Int × Int)) × (List ((List (Int × Int)))) × (List (Int)) × (List (Int)) × (List (Int × Int)) × Int × Int) where
  enc x := [.agg [.int .i64 x.1, .int .i64 x.2.1, encF 2 d_II x.2.2.1, encF 1 d_LIIE x.2.2.2.1, encF 2 d_II x.2.2.2.2.1, encF 1 d_LIIE x.2.2.2.2.2.1], .agg [encF 1 d_I x.2.2.2.2.2.2.1, encF 1 d_I x.2.2.2.2.2.2.2.1], .agg [encF 2 d_II x.2.2.2.2.2.2.2.2.1, .int .i64 x.2.2.2.2.2.2.2.2.2.1, .int .i64 x.2.2.2.2.2.2.2.2.2.2]]
  dec a := (dInt (aCell a 0 0), dInt (aCell a 0 1), decF g_II (aCell a 0 2), decF g_LIIE (aCell a 0 3), decF g_II (aCell a 0 4), decF g_LIIE (aCell a 0 5), decF g_I (aCell a 1 0), decF g_I (aCell a 1 1), decF g_II (aCell a 2 0), dInt (aCell a 2 1), dInt (aCell a 2 2))
  pre x := (r117 x.1 x.2.1 x.2.2.1 x.2.2.2.1 x.2.2.2.2.1 x.2.2.2.2.2.1 x.2.2.2.2.2.2.1 x.2.2.2.2.2.2.2.1 x.2.2.2.2.2.2.2.2.1 x.2.2.2.2.2.2.2.2.2.1 x.2.2.2.2.2.2.2.2.2.2).isSome = true
  res x := [.agg [.own (encF 1 d_I (((r117 x.1 x.2.1 x.2.2.1 x.2.2.2.1 x.2.2.2.2.1 x.2.2.2.2.2.1 x.2.2.2.2.2.2.1 x.2.2.2.2.2.2.2.1 x.2.2.2.2.2.2.2.2.1 x.2.2.2.2.2.2.2.2.2.1 x.2.2.2.2.2.2.2.2.2.2).getD default).1)), .own (encF 1 d_I (((r117 x.1 x.2.1 x.2.2.1 x.2.2.2.1 x.2.2.2.2.1 x.2.2.2.2.2.1 x.2.2.2.2.2.2.1 x.2.2.2.2.2.2.2.1 x.2.2.2.2.2.2.2.2.1 x.2.2.2.2.2.2.2.2.2.1 x.2.2.2.2.2.2.2.2.2.2).getD default).2.1))], .c (.d (.int .i64 (((r117 x.1 x.2.1 x.2.2.1 x.2.2.2.1 x.2.2.2.2.1 x.2.2.2.2.2.1 x.2.2.2.2.2.2.1 x.2.2.2.2.2.2.2.1 x.2.2.2.2.2.2.2.2.1 x.2.2.2.2.2.2.2.2.2.1 x.2.2.2.2.2.2.2.2.2.2).getD default).2.2)))]
  al := false
def tb117 : Fns := lk [(91, T91.sp), (96, T96.sp), (153, T153.sp)]
theorem tb117_ok : FnsOk Try.prog tb117 := .cons f91 (.cons f96 (.cons f153 (FnsOk.nil)))
theorem tb117_91 : tb117 91 = some T91.sp := rfl
theorem tb117_96 : tb117 96 = some T96.sp := rfl
theorem tb117_153 : tb117 153 = some T153.sp := rfl
theorem v117 : Valid Try.prog 117 T117.sp := by
  refine valid_t (fn := Try.f117) (n := 50) ty_ok tb117_ok Try.func117 rfl Try.ntmps117 ?_
  rintro ⟨a0_0, a0_1, a0_2, a0_3, a0_4, a0_5, a1_0, a1_1, a2_0, a2_1, a2_2⟩ hx
  obtain ⟨r, hr⟩ := Option.isSome_iff_exists.1 (show (r117 a0_0 a0_1 a0_2 a0_3 a0_4 a0_5 a1_0 a1_1 a2_0 a2_1 a2_2).isSome = true from hx)
  have hres : T117.res (a0_0, a0_1, a0_2, a0_3, a0_4, a0_5, a1_0, a1_1, a2_0, a2_1, a2_2) = [.agg [.own (encF 1 d_I r.1), .own (encF 1 d_I r.2.1)], .c (.d (.int .i64 r.2.2))] := by simp only [T117, hr, Option.getD_some]
  refine ⟨Nat.le_of_ble_eq_true rfl, fun stop S => ?_⟩
  rw [hres] at S
  unfold r117 at hr
  refine S.goB [] 1000 ?_
  simp (maxSteps := 10000000) only [go_sem, tb117_91, T91, tb117_96, T96, tb117_153, T153, T117, Option.map_some, Int.reduceToNat, Nat.reduceEqDiff, Nat.reduceLT, Nat.reduceAdd, Nat.reduceMul, Nat.reduceSub, Nat.reduceLeDiff, reduceIte, reduceCtorEq, Try.results117]
  obtain ⟨v1, hv1, hr⟩ := of_bind0 hr
  obtain ⟨v2, hv2, hr⟩ := of_bind0 hr
  obtain ⟨v3, hv3, hr⟩ := of_bind0 hr
  obtain ⟨v4, hv4, hr⟩ := of_bind0 hr
  try simp only [hv1, hv2, hv3, hv4, Option.getD_some, Option.isSome_some, true_and, and_assoc]
  repeat refine gA ?_
  refine ⟨fun hc => ?_, fun hc => ?_⟩
  · replace hr := ifP hr hc
    repeat refine gA ?_
    obtain rfl := Option.some.inj hr
    (simp (maxDischargeDepth := 8) [go_sem])
  · replace hr := ifN hr hc
    repeat refine gA ?_
    obtain rfl := Option.some.inj hr
    (simp (maxDischargeDepth := 8) [go_sem])
theorem f117 : FnFact Try.prog 117 T117.sp := ⟨⟨Try.f117, Try.func117, by decide, rfl⟩, v117⟩

/- martensite/heat.BoxStep -/
def r41 (a0_0 : Int) (a0_1 : Int) (a0_2 : List (Int × Int)) (a0_3 : List ((List (Int × Int)))) (a1_0 : List (Int)) (a1_1 : List (Int)) (a2_0 : List (Int × Int)) (a2_1 : Int) (a2_2 : Int) : Option ((List (Int)) × (List (Int)) × Int) :=
  (r115 a0_0 a0_1 a0_2 a0_3 a1_0 a1_1).bind fun v1 =>
   if (v1.2.2.2.2.2.2 == 0) = true then
    (r116 v1.1 v1.2.1 v1.2.2.1 v1.2.2.2.1 v1.2.2.2.2.1 v1.2.2.2.2.2.1 a2_0 a2_1 a2_2).bind fun v2 =>
     if (v2 != 0) = true then
      some ([], [], v2)
      else (r117 v1.1 v1.2.1 v1.2.2.1 v1.2.2.2.1 v1.2.2.2.2.1 v1.2.2.2.2.2.1 a1_0 a1_1 a2_0 a2_1 a2_2).bind fun v3 =>
       some (v3.1, v3.2.1, v3.2.2)
    else if (v1.2.2.2.2.2.2 != 0) = true then
     some ([], [], v1.2.2.2.2.2.2)
     else (r117 v1.1 v1.2.1 v1.2.2.1 v1.2.2.2.1 v1.2.2.2.2.1 v1.2.2.2.2.2.1 a1_0 a1_1 a2_0 a2_1 a2_2).bind fun v4 =>
      some (v4.1, v4.2.1, v4.2.2)
def T41 : TSpec (Int × Int × (List (Int × Int)) × (List ((List (Int × Int)))) × (List (Int)) × (List (Int)) × (List (Int × Int)) × Int × Int) where
  enc x := [.agg [.int .i64 x.1, .int .i64 x.2.1, encF 2 d_II x.2.2.1, encF 1 d_LIIE x.2.2.2.1], .agg [encF 1 d_I x.2.2.2.2.1, encF 1 d_I x.2.2.2.2.2.1], .agg [encF 2 d_II x.2.2.2.2.2.2.1, .int .i64 x.2.2.2.2.2.2.2.1, .int .i64 x.2.2.2.2.2.2.2.2]]
  dec a := (dInt (aCell a 0 0), dInt (aCell a 0 1), decF g_II (aCell a 0 2), decF g_LIIE (aCell a 0 3), decF g_I (aCell a 1 0), decF g_I (aCell a 1 1), decF g_II (aCell a 2 0), dInt (aCell a 2 1), dInt (aCell a 2 2))
  pre x := (r41 x.1 x.2.1 x.2.2.1 x.2.2.2.1 x.2.2.2.2.1 x.2.2.2.2.2.1 x.2.2.2.2.2.2.1 x.2.2.2.2.2.2.2.1 x.2.2.2.2.2.2.2.2).isSome = true
  res x := [.agg [.own (encF 1 d_I (((r41 x.1 x.2.1 x.2.2.1 x.2.2.2.1 x.2.2.2.2.1 x.2.2.2.2.2.1 x.2.2.2.2.2.2.1 x.2.2.2.2.2.2.2.1 x.2.2.2.2.2.2.2.2).getD default).1)), .own (encF 1 d_I (((r41 x.1 x.2.1 x.2.2.1 x.2.2.2.1 x.2.2.2.2.1 x.2.2.2.2.2.1 x.2.2.2.2.2.2.1 x.2.2.2.2.2.2.2.1 x.2.2.2.2.2.2.2.2).getD default).2.1))], .c (.d (.int .i64 (((r41 x.1 x.2.1 x.2.2.1 x.2.2.2.1 x.2.2.2.2.1 x.2.2.2.2.2.1 x.2.2.2.2.2.2.1 x.2.2.2.2.2.2.2.1 x.2.2.2.2.2.2.2.2).getD default).2.2)))]
  al := false
def tb41 : Fns := lk [(115, T115.sp), (116, T116.sp), (117, T117.sp)]
theorem tb41_ok : FnsOk Try.prog tb41 := .cons f115 (.cons f116 (.cons f117 (FnsOk.nil)))
theorem tb41_115 : tb41 115 = some T115.sp := rfl
theorem tb41_116 : tb41 116 = some T116.sp := rfl
theorem tb41_117 : tb41 117 = some T117.sp := rfl
theorem v41 : Valid Try.prog 41 T41.sp := by
  refine valid_t (fn := Try.f41) (n := 31) ty_ok tb41_ok Try.func41 rfl Try.ntmps41 ?_
  rintro ⟨a0_0, a0_1, a0_2, a0_3, a1_0, a1_1, a2_0, a2_1, a2_2⟩ hx
  obtain ⟨r, hr⟩ := Option.isSome_iff_exists.1 (show (r41 a0_0 a0_1 a0_2 a0_3 a1_0 a1_1 a2_0 a2_1 a2_2).isSome = true from hx)
  have hres : T41.res (a0_0, a0_1, a0_2, a0_3, a1_0, a1_1, a2_0, a2_1, a2_2) = [.agg [.own (encF 1 d_I r.1), .own (encF 1 d_I r.2.1)], .c (.d (.int .i64 r.2.2))] := by simp only [T41, hr, Option.getD_some]
  refine ⟨Nat.le_of_ble_eq_true rfl, fun stop S => ?_⟩
  rw [hres] at S
  unfold r41 at hr
  refine S.goB [] 1000 ?_
  simp (maxSteps := 10000000) only [go_sem, tb41_115, T115, tb41_116, T116, tb41_117, T117, T41, Option.map_some, Int.reduceToNat, Nat.reduceEqDiff, Nat.reduceLT, Nat.reduceAdd, Nat.reduceMul, Nat.reduceSub, Nat.reduceLeDiff, reduceIte, reduceCtorEq, Try.results41]
  obtain ⟨v1, hv1, hr⟩ := of_bind0 hr
  try simp only [hv1, Option.getD_some, Option.isSome_some, true_and, and_assoc]
  repeat refine gA ?_
  refine ⟨fun hc => ?_, fun hc => ?_⟩
  · replace hr := ifP hr hc
    obtain ⟨v2, hv2, hr⟩ := of_bind0 hr
    try simp only [hv2, Option.getD_some, Option.isSome_some, true_and, and_assoc]
    repeat refine gA ?_
    refine ⟨fun hc => ?_, fun hc => ?_⟩
    · replace hr := ifP hr hc
      repeat refine gA ?_
      obtain rfl := Option.some.inj hr
      (simp (maxDischargeDepth := 8) [go_sem])
    · replace hr := ifN hr hc
      obtain ⟨v3, hv3, hr⟩ := of_bind0 hr
      try simp only [hv3, Option.getD_some, Option.isSome_some, true_and, and_assoc]
      repeat refine gA ?_
      obtain rfl := Option.some.inj hr
      (simp (maxDischargeDepth := 8) [go_sem])
  · replace hr := ifN hr hc
    repeat refine gA ?_
    refine ⟨fun hc => ?_, fun hc => ?_⟩
    · replace hr := ifP hr hc
      repeat refine gA ?_
      obtain rfl := Option.some.inj hr
      (simp (maxDischargeDepth := 8) [go_sem])
    · replace hr := ifN hr hc
      obtain ⟨v4, hv4, hr⟩ := of_bind0 hr
      try simp only [hv4, Option.getD_some, Option.isSome_some, true_and, and_assoc]
      repeat refine gA ?_
      obtain rfl := Option.some.inj hr
      (simp (maxDischargeDepth := 8) [go_sem])
theorem f41 : FnFact Try.prog 41 T41.sp := ⟨⟨Try.f41, Try.func41, by decide, rfl⟩, v41⟩

/- martensite/heat.kelvinErr -/
def r93 (a0 : Int) : Option (Int) :=
  (r140 a0).bind fun v1 =>
   (r94 v1 2).bind fun v2 =>
    some v2
def T93 : TSpec (Int) where
  enc x := [.c (.int .i64 x)]
  dec a := dInt (aCell a 0 0)
  pre x := (r93 x).isSome = true
  res x := [.c (.d (.int .i64 ((r93 x).getD default)))]
  al := false
def tb93 : Fns := lk [(94, T94.sp), (140, T140.sp)]
theorem tb93_ok : FnsOk Try.prog tb93 := .cons f94 (.cons f140 (FnsOk.nil))
theorem tb93_94 : tb93 94 = some T94.sp := rfl
theorem tb93_140 : tb93 140 = some T140.sp := rfl
theorem v93 : Valid Try.prog 93 T93.sp := by
  refine valid_t (fn := Try.f93) (n := 6) ty_ok tb93_ok Try.func93 rfl Try.ntmps93 ?_
  rintro a0 hx
  obtain ⟨r, hr⟩ := Option.isSome_iff_exists.1 (show (r93 a0).isSome = true from hx)
  have hres : T93.res a0 = [.c (.d (.int .i64 r))] := by simp only [T93, hr, Option.getD_some]
  refine ⟨Nat.le_of_ble_eq_true rfl, fun stop S => ?_⟩
  rw [hres] at S
  unfold r93 at hr
  refine S.goB [] 1000 ?_
  simp (maxSteps := 10000000) only [go_sem, tb93_94, T94, tb93_140, T140, T93, Option.map_some, Int.reduceToNat, Nat.reduceEqDiff, Nat.reduceLT, Nat.reduceAdd, Nat.reduceMul, Nat.reduceSub, Nat.reduceLeDiff, reduceIte, reduceCtorEq, Try.results93]
  obtain ⟨v1, hv1, hr⟩ := of_bind0 hr
  obtain ⟨v2, hv2, hr⟩ := of_bind0 hr
  try simp only [hv1, hv2, Option.getD_some, Option.isSome_some, true_and, and_assoc]
  repeat refine gA ?_
  obtain rfl := Option.some.inj hr
  (simp (maxDischargeDepth := 8) [go_sem])
theorem f93 : FnFact Try.prog 93 T93.sp := ⟨⟨Try.f93, Try.func93, by decide, rfl⟩, v93⟩

/- (martensite/heat.part).compared -/
def r143 (a0_0 : Int) (a0_1 : Int) (a0_2 : List (Int × Int)) (a0_3 : List ((List (Int × Int)))) (a0_4 : List (Int × Int)) (a0_5 : List ((List (Int × Int)))) (a1 : Int) (a2 : Int) : Option (Int) :=
  (r121 a0_0 a0_1 a0_2 a0_3 a0_4 a0_5 a1).bind fun v1 =>
   some (IntKind.i64.wrap (v1.1 - (IntKind.i64.wrap (a2 * v1.2))))
def T143 : TSpec (Int × Int × (List (Int × Int)) × (List ((List (Int × Int)))) × (List (Int × Int)) × (List ((List (Int × Int)))) × Int × Int) where
  enc x := [.agg [.int .i64 x.1, .int .i64 x.2.1, encF 2 d_II x.2.2.1, encF 1 d_LIIE x.2.2.2.1, encF 2 d_II x.2.2.2.2.1, encF 1 d_LIIE x.2.2.2.2.2.1], .c (.int .i64 x.2.2.2.2.2.2.1), .c (.int .i64 x.2.2.2.2.2.2.2)]
  dec a := (dInt (aCell a 0 0), dInt (aCell a 0 1), decF g_II (aCell a 0 2), decF g_LIIE (aCell a 0 3), decF g_II (aCell a 0 4), decF g_LIIE (aCell a 0 5), dInt (aCell a 1 0), dInt (aCell a 2 0))
  pre x := (r143 x.1 x.2.1 x.2.2.1 x.2.2.2.1 x.2.2.2.2.1 x.2.2.2.2.2.1 x.2.2.2.2.2.2.1 x.2.2.2.2.2.2.2).isSome = true
  res x := [.c (.d (.int .i64 ((r143 x.1 x.2.1 x.2.2.1 x.2.2.2.1 x.2.2.2.2.1 x.2.2.2.2.2.1 x.2.2.2.2.2.2.1 x.2.2.2.2.2.2.2).getD default)))]
  al := false
def tb143 : Fns := lk [(121, T121.sp)]
theorem tb143_ok : FnsOk Try.prog tb143 := .cons f121 (FnsOk.nil)
theorem tb143_121 : tb143 121 = some T121.sp := rfl
theorem v143 : Valid Try.prog 143 T143.sp := by
  refine valid_t (fn := Try.f143) (n := 18) ty_ok tb143_ok Try.func143 rfl Try.ntmps143 ?_
  rintro ⟨a0_0, a0_1, a0_2, a0_3, a0_4, a0_5, a1, a2⟩ hx
  obtain ⟨r, hr⟩ := Option.isSome_iff_exists.1 (show (r143 a0_0 a0_1 a0_2 a0_3 a0_4 a0_5 a1 a2).isSome = true from hx)
  have hres : T143.res (a0_0, a0_1, a0_2, a0_3, a0_4, a0_5, a1, a2) = [.c (.d (.int .i64 r))] := by simp only [T143, hr, Option.getD_some]
  refine ⟨Nat.le_of_ble_eq_true rfl, fun stop S => ?_⟩
  rw [hres] at S
  unfold r143 at hr
  refine S.goB [] 1000 ?_
  simp (maxSteps := 10000000) only [go_sem, tb143_121, T121, T143, Option.map_some, Int.reduceToNat, Nat.reduceEqDiff, Nat.reduceLT, Nat.reduceAdd, Nat.reduceMul, Nat.reduceSub, Nat.reduceLeDiff, reduceIte, reduceCtorEq, Try.results143]
  obtain ⟨v1, hv1, hr⟩ := of_bind0 hr
  try simp only [hv1, Option.getD_some, Option.isSome_some, true_and, and_assoc]
  repeat refine gA ?_
  obtain rfl := Option.some.inj hr
  (simp (maxDischargeDepth := 8) [go_sem])
theorem f143 : FnFact Try.prog 143 T143.sp := ⟨⟨Try.f143, Try.func143, by decide, rfl⟩, v143⟩

/- (martensite/heat.part).depth$1 -/
def r142 (a0 : Int) (a1_0 : Int) (a1_1 : Int) (a1_2 : List (Int × Int)) (a1_3 : List ((List (Int × Int)))) (a1_4 : List (Int × Int)) (a1_5 : List ((List (Int × Int)))) (a2_0 : Int) : Option (Bool) :=
  (r143 a1_0 a1_1 a1_2 a1_3 a1_4 a1_5 a0 a2_0).bind fun v1 =>
   some (decide (v1 < 0))
def T142 : TSpec (Int × Int × Int × (List (Int × Int)) × (List ((List (Int × Int)))) × (List (Int × Int)) × (List ((List (Int × Int)))) × Int) where
  enc x := [.c (.int .i64 x.1), .ptr [.int .i64 x.2.1, .int .i64 x.2.2.1, encF 2 d_II x.2.2.2.1, encF 1 d_LIIE x.2.2.2.2.1, encF 2 d_II x.2.2.2.2.2.1, encF 1 d_LIIE x.2.2.2.2.2.2.1], .ptr [.int .i64 x.2.2.2.2.2.2.2]]
  dec a := (dInt (aCell a 0 0), dInt (aCell a 1 0), dInt (aCell a 1 1), decF g_II (aCell a 1 2), decF g_LIIE (aCell a 1 3), decF g_II (aCell a 1 4), decF g_LIIE (aCell a 1 5), dInt (aCell a 2 0))
  pre x := (r142 x.1 x.2.1 x.2.2.1 x.2.2.2.1 x.2.2.2.2.1 x.2.2.2.2.2.1 x.2.2.2.2.2.2.1 x.2.2.2.2.2.2.2).isSome = true
  res x := [.c (.d (.bool ((r142 x.1 x.2.1 x.2.2.1 x.2.2.2.1 x.2.2.2.2.1 x.2.2.2.2.2.1 x.2.2.2.2.2.2.1 x.2.2.2.2.2.2.2).getD default)))]
  al := false
def tb142 : Fns := lk [(143, T143.sp)]
theorem tb142_ok : FnsOk Try.prog tb142 := .cons f143 (FnsOk.nil)
theorem tb142_143 : tb142 143 = some T143.sp := rfl
theorem v142 : Valid Try.prog 142 T142.sp := by
  refine valid_t (fn := Try.f142) (n := 10) ty_ok tb142_ok Try.func142 rfl Try.ntmps142 ?_
  rintro ⟨a0, a1_0, a1_1, a1_2, a1_3, a1_4, a1_5, a2_0⟩ hx
  obtain ⟨r, hr⟩ := Option.isSome_iff_exists.1 (show (r142 a0 a1_0 a1_1 a1_2 a1_3 a1_4 a1_5 a2_0).isSome = true from hx)
  have hres : T142.res (a0, a1_0, a1_1, a1_2, a1_3, a1_4, a1_5, a2_0) = [.c (.d (.bool r))] := by simp only [T142, hr, Option.getD_some]
  refine ⟨Nat.le_of_ble_eq_true rfl, fun stop S => ?_⟩
  rw [hres] at S
  unfold r142 at hr
  refine S.goB [] 1000 ?_
  simp (maxSteps := 10000000) only [go_sem, tb142_143, T143, T142, Option.map_some, Int.reduceToNat, Nat.reduceEqDiff, Nat.reduceLT, Nat.reduceAdd, Nat.reduceMul, Nat.reduceSub, Nat.reduceLeDiff, reduceIte, reduceCtorEq, Try.results142]
  obtain ⟨v1, hv1, hr⟩ := of_bind0 hr
  try simp only [hv1, Option.getD_some, Option.isSome_some, true_and, and_assoc]
  repeat refine gA ?_
  obtain rfl := Option.some.inj hr
  (simp (maxDischargeDepth := 8) [go_sem])
theorem f142 : FnFact Try.prog 142 T142.sp := ⟨⟨Try.f142, Try.func142, by decide, rfl⟩, v142⟩

/- slices.IndexFunc[[]int,int] -/
def b141c_1 (a0 : List (Int)) (a1_0_0 : Int) (a1_0_1 : Int) (a1_0_2 : List (Int × Int)) (a1_0_3 : List ((List (Int × Int)))) (a1_0_4 : List (Int × Int)) (a1_0_5 : List ((List (Int × Int)))) (a1_1_0 : Int) : (Int) → Ctl (Int) (Int) := fun s1 =>
  if (decide (s1 < (a0.length : Int))) = true then
   if 0 ≤ s1 ∧ s1 < (a0.length : Int) then
    bindC (r142 (a0.getD s1.toNat default) a1_0_0 a1_0_1 a1_0_2 a1_0_3 a1_0_4 a1_0_5 a1_1_0) fun v1 =>
     if v1 = true then
      .out (some s1)
      else .next (IntKind.i64.wrap (s1 + 1))
    else .out none
   else .out (some (-1))
def r141c (a0 : List (Int)) (a1_0_0 : Int) (a1_0_1 : Int) (a1_0_2 : List (Int × Int)) (a1_0_3 : List ((List (Int × Int)))) (a1_0_4 : List (Int × Int)) (a1_0_5 : List ((List (Int × Int)))) (a1_1_0 : Int) : Option (Int) :=
  iterC (b141c_1 a0 a1_0_0 a1_0_1 a1_0_2 a1_0_3 a1_0_4 a1_0_5 a1_1_0) 1000000000 0
def T141c : TSpec ((List (Int)) × Int × Int × (List (Int × Int)) × (List ((List (Int × Int)))) × (List (Int × Int)) × (List ((List (Int × Int)))) × Int) where
  enc x := [.c (encF 1 d_I x.1), .clo 142 [[.int .i64 x.2.1, .int .i64 x.2.2.1, encF 2 d_II x.2.2.2.1, encF 1 d_LIIE x.2.2.2.2.1, encF 2 d_II x.2.2.2.2.2.1, encF 1 d_LIIE x.2.2.2.2.2.2.1], [.int .i64 x.2.2.2.2.2.2.2]]]
  dec a := (decF g_I (aCell a 0 0), dInt (aCell a 1 0), dInt (aCell a 1 1), decF g_II (aCell a 1 2), decF g_LIIE (aCell a 1 3), decF g_II (aCell a 1 4), decF g_LIIE (aCell a 1 5), dInt (aCell a 1 6))
  pre x := (r141c x.1 x.2.1 x.2.2.1 x.2.2.2.1 x.2.2.2.2.1 x.2.2.2.2.2.1 x.2.2.2.2.2.2.1 x.2.2.2.2.2.2.2).isSome = true
  res x := [.c (.d (.int .i64 ((r141c x.1 x.2.1 x.2.2.1 x.2.2.2.1 x.2.2.2.2.1 x.2.2.2.2.2.1 x.2.2.2.2.2.2.1 x.2.2.2.2.2.2.2).getD default)))]
  al := false
def tb141c : Fns := lk [(142, T142.sp)]
theorem tb141c_ok : FnsOk Try.prog tb141c := .cons f142 (FnsOk.nil)
theorem tb141c_142 : tb141c 142 = some T142.sp := rfl
theorem v141c : Valid Try.prog 141 T141c.sp := by
  refine valid_t (fn := Try.f141) (n := 19) ty_ok tb141c_ok Try.func141 rfl Try.ntmps141 ?_
  rintro ⟨a0, a1_0_0, a1_0_1, a1_0_2, a1_0_3, a1_0_4, a1_0_5, a1_1_0⟩ hx
  obtain ⟨r, hr⟩ := Option.isSome_iff_exists.1 (show (r141c a0 a1_0_0 a1_0_1 a1_0_2 a1_0_3 a1_0_4 a1_0_5 a1_1_0).isSome = true from hx)
  have hres : T141c.res (a0, a1_0_0, a1_0_1, a1_0_2, a1_0_3, a1_0_4, a1_0_5, a1_1_0) = [.c (.d (.int .i64 r))] := by simp only [T141c, hr, Option.getD_some]
  refine ⟨Nat.le_of_ble_eq_true rfl, fun stop S => ?_⟩
  rw [hres] at S
  unfold r141c at hr
  refine S.goB [] 1000 ?_
  simp (maxSteps := 10000000) only [go_sem, tb141c_142, T142, T141c, Option.map_some, Int.reduceToNat, Nat.reduceEqDiff, Nat.reduceLT, Nat.reduceAdd, Nat.reduceMul, Nat.reduceSub, Nat.reduceLeDiff, reduceIte, reduceCtorEq, Try.results141]
  repeat refine gA ?_
  refine S.sees [0, 1, 7, 8] [] [] ?_ (Stop.iter S (fun s1 => ⟨[(0, .c (.d (encF 1 d_I a0))), (1, .c (.clo 142 [.sptr [.int .i64 a1_0_0, .int .i64 a1_0_1, encF 2 d_II a1_0_2, encF 1 d_LIIE a1_0_3, encF 2 d_II a1_0_4, encF 1 d_LIIE a1_0_5] 0, .sptr [.int .i64 a1_1_0] 0])), (7, .c (.d (.int .i64 (a0.length : Int)))), (8, .c (.d (.int .i64 s1)))], [], []⟩) (b141c_1 a0 a1_0_0 a1_0_1 a1_0_2 a1_0_3 a1_0_4 a1_0_5 a1_1_0) (fun q => q = r) hr rfl ?_)
  · (simp (maxDischargeDepth := 8) [go_sem])
  · intro s1 hr
    unfold b141c_1 at hr
    refine S.goB [] 1000 ?_
    simp (maxSteps := 10000000) only [go_sem, tb141c_142, T142, T141c, Option.map_some, Int.reduceToNat, Nat.reduceEqDiff, Nat.reduceLT, Nat.reduceAdd, Nat.reduceMul, Nat.reduceSub, Nat.reduceLeDiff, reduceIte, reduceCtorEq, Try.results141]
    repeat refine gA ?_
    refine ⟨fun hc => ?_, fun hc => ?_⟩
    · replace hr := ifP1 hr hc
      obtain ⟨hg2, hr⟩ := of_guard1 hr
      obtain ⟨v1, hv1, hr⟩ := of_bind1 hr
      try simp only [hv1, Option.getD_some, Option.isSome_some, true_and, and_assoc]
      repeat refine gA ?_
      refine ⟨fun hc => ?_, fun hc => ?_⟩
      · replace hr := ifP1 hr hc
        repeat refine gA ?_
        have hr := of_out0 hr
        obtain rfl := Option.some.inj hr
        (simp (maxDischargeDepth := 8) [go_sem])
      · replace hr := ifN1 hr hc
        repeat refine gA ?_
        refine S.sees [0, 1, 7, 8] [] [] ?_ hr
        (simp (maxDischargeDepth := 8) [go_sem])
    · replace hr := ifN1 hr hc
      repeat refine gA ?_
      have hr := of_out0 hr
      repeat refine gA ?_
      obtain rfl := Option.some.inj hr
      (simp (maxDischargeDepth := 8) [go_sem])
theorem f141c : FnFact Try.prog 141 T141c.sp := ⟨⟨Try.f141, Try.func141, by decide, rfl⟩, v141c⟩

/- (martensite/heat.part).depth -/
def r95 (a0_0 : Int) (a0_1 : Int) (a0_2 : List (Int × Int)) (a0_3 : List ((List (Int × Int)))) (a0_4 : List (Int × Int)) (a0_5 : List ((List (Int × Int)))) (a1 : List (Int)) (a2 : Int) : Option (Int) :=
  (r141c a1 a0_0 a0_1 a0_2 a0_3 a0_4 a0_5 a2).bind fun v1 =>
   if (decide (v1 < 0)) = true then
    some (a1.length : Int)
    else some v1
def T95 : TSpec (Int × Int × (List (Int × Int)) × (List ((List (Int × Int)))) × (List (Int × Int)) × (List ((List (Int × Int)))) × (List (Int)) × Int) where
  enc x := [.agg [.int .i64 x.1, .int .i64 x.2.1, encF 2 d_II x.2.2.1, encF 1 d_LIIE x.2.2.2.1, encF 2 d_II x.2.2.2.2.1, encF 1 d_LIIE x.2.2.2.2.2.1], .c (encF 1 d_I x.2.2.2.2.2.2.1), .c (.int .i64 x.2.2.2.2.2.2.2)]
  dec a := (dInt (aCell a 0 0), dInt (aCell a 0 1), decF g_II (aCell a 0 2), decF g_LIIE (aCell a 0 3), decF g_II (aCell a 0 4), decF g_LIIE (aCell a 0 5), decF g_I (aCell a 1 0), dInt (aCell a 2 0))
  pre x := (r95 x.1 x.2.1 x.2.2.1 x.2.2.2.1 x.2.2.2.2.1 x.2.2.2.2.2.1 x.2.2.2.2.2.2.1 x.2.2.2.2.2.2.2).isSome = true
  res x := [.c (.d (.int .i64 ((r95 x.1 x.2.1 x.2.2.1 x.2.2.2.1 x.2.2.2.2.1 x.2.2.2.2.2.1 x.2.2.2.2.2.2.1 x.2.2.2.2.2.2.2).getD default)))]
  al := false
def tb95 : Fns := lk [(141, T141c.sp)]
theorem tb95_ok : FnsOk Try.prog tb95 := .cons f141c (FnsOk.nil)
theorem tb95_141 : tb95 141 = some T141c.sp := rfl
theorem v95 : Valid Try.prog 95 T95.sp := by
  refine valid_t (fn := Try.f95) (n := 16) ty_ok tb95_ok Try.func95 rfl Try.ntmps95 ?_
  rintro ⟨a0_0, a0_1, a0_2, a0_3, a0_4, a0_5, a1, a2⟩ hx
  obtain ⟨r, hr⟩ := Option.isSome_iff_exists.1 (show (r95 a0_0 a0_1 a0_2 a0_3 a0_4 a0_5 a1 a2).isSome = true from hx)
  have hres : T95.res (a0_0, a0_1, a0_2, a0_3, a0_4, a0_5, a1, a2) = [.c (.d (.int .i64 r))] := by simp only [T95, hr, Option.getD_some]
  refine ⟨Nat.le_of_ble_eq_true rfl, fun stop S => ?_⟩
  rw [hres] at S
  unfold r95 at hr
  refine S.goB [] 1000 ?_
  simp (maxSteps := 10000000) only [go_sem, tb95_141, T141c, T95, Option.map_some, Int.reduceToNat, Nat.reduceEqDiff, Nat.reduceLT, Nat.reduceAdd, Nat.reduceMul, Nat.reduceSub, Nat.reduceLeDiff, reduceIte, reduceCtorEq, Try.results95]
  obtain ⟨v1, hv1, hr⟩ := of_bind0 hr
  try simp only [hv1, Option.getD_some, Option.isSome_some, true_and, and_assoc]
  repeat refine gA ?_
  refine ⟨fun hc => ?_, fun hc => ?_⟩
  · replace hr := ifP hr hc
    repeat refine gA ?_
    obtain rfl := Option.some.inj hr
    (simp (maxDischargeDepth := 8) [go_sem])
  · replace hr := ifN hr hc
    repeat refine gA ?_
    obtain rfl := Option.some.inj hr
    (simp (maxDischargeDepth := 8) [go_sem])
theorem f95 : FnFact Try.prog 95 T95.sp := ⟨⟨Try.f95, Try.func95, by decide, rfl⟩, v95⟩
end Go.Proofs.Ytcbiiijnaeibhaa

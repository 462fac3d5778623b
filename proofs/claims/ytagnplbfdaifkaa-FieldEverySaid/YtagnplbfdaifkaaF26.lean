/- Contracts of functions, written by wip/dec. -/
import Derived.Test.YtagnplbfdaifkaaF00
import Derived.Test.YtagnplbfdaifkaaF24
set_option linter.unusedVariables false
set_option linter.unusedSimpArgs false
set_option maxHeartbeats 4000000
set_option maxRecDepth 20000
namespace Go.Proofs.Ytagnplbfdaifkaa
open Go.Abs
/- martensite/martensiteref02.ClassErr -/
def r66 (a0_0 : Int) (a0_1 : List (Int × Int × Int)) (a0_2 : List (Int × Int)) : Option (Int) :=
  (r62 a0_0 a0_1 a0_2).bind fun v1 =>
   some v1.2
def T66 : TSpec (Int × (List (Int × Int × Int)) × (List (Int × Int))) where
  enc x := [.agg [.int .i64 x.1, encF 3 d_III x.2.1, encF 2 d_II x.2.2]]
  dec a := (dInt (aCell a 0 0), decF g_III (aCell a 0 1), decF g_II (aCell a 0 2))
  pre x := (r66 x.1 x.2.1 x.2.2).isSome = true
  res x := [.c (.d (.int .i64 ((r66 x.1 x.2.1 x.2.2).getD default)))]
  al := false
def tb66 : Fns := lk [(62, T62.sp)]
theorem tb66_ok : FnsOk Try.prog tb66 := .cons f62 (FnsOk.nil)
theorem tb66_62 : tb66 62 = some T62.sp := rfl
theorem v66 : Valid Try.prog 66 T66.sp := by
  refine valid_t (fn := Try.f66) (n := 11) ty_ok tb66_ok Try.func66 rfl Try.ntmps66 ?_
  rintro ⟨a0_0, a0_1, a0_2⟩ hx
  obtain ⟨r, hr⟩ := Option.isSome_iff_exists.1 (show (r66 a0_0 a0_1 a0_2).isSome = true from hx)
  have hres : T66.res (a0_0, a0_1, a0_2) = [.c (.d (.int .i64 r))] := by simp only [T66, hr, Option.getD_some]
  refine ⟨Nat.le_of_ble_eq_true rfl, fun stop S => ?_⟩
  rw [hres] at S
  unfold r66 at hr
  refine S.goB [] 1000 ?_
  simp (maxSteps := 10000000) only [go_sem, tb66_62, T62, T66, Bool.not_true, Bool.not_false, Option.map_some, Int.reduceToNat, Nat.reduceEqDiff, Nat.reduceLT, Nat.reduceAdd, Nat.reduceMul, Nat.reduceSub, Nat.reduceLeDiff, reduceIte, reduceCtorEq, Try.results66]
  obtain ⟨v1, hv1, hr⟩ := of_bind0 hr
  try simp only [hv1, Option.getD_some, Option.isSome_some, true_and, and_assoc]
  repeat refine gA ?_
  obtain rfl := Option.some.inj hr
  (simp (maxDischargeDepth := 8) [go_sem, -List.drop_one])
theorem f66 : FnFact Try.prog 66 T66.sp := ⟨⟨Try.f66, Try.func66, by decide, rfl⟩, v66⟩

/- martensite/martensitebase.Mod -/
def r67 (a0 : Int) (a1 : Int) : Option (Int) :=
  if a1 ≠ 0 then
   if (decide ((a0.tmod a1) < 0)) = true then
    some (IntKind.i64.wrap ((a0.tmod a1) + a1))
    else some (a0.tmod a1)
   else none
def T67 : TSpec (Int × Int) where
  enc x := [.c (.int .i64 x.1), .c (.int .i64 x.2)]
  dec a := (dInt (aCell a 0 0), dInt (aCell a 1 0))
  pre x := (r67 x.1 x.2).isSome = true
  res x := [.c (.d (.int .i64 ((r67 x.1 x.2).getD default)))]
  al := false
def tb67 : Fns := lk []
theorem tb67_ok : FnsOk Try.prog tb67 := FnsOk.nil
theorem v67 : Valid Try.prog 67 T67.sp := by
  refine valid_t (fn := Try.f67) (n := 14) ty_ok tb67_ok Try.func67 rfl Try.ntmps67 ?_
  rintro ⟨a0, a1⟩ hx
  obtain ⟨r, hr⟩ := Option.isSome_iff_exists.1 (show (r67 a0 a1).isSome = true from hx)
  have hres : T67.res (a0, a1) = [.c (.d (.int .i64 r))] := by simp only [T67, hr, Option.getD_some]
  refine ⟨Nat.le_of_ble_eq_true rfl, fun stop S => ?_⟩
  rw [hres] at S
  unfold r67 at hr
  refine S.goB [] 1000 ?_
  simp (maxSteps := 10000000) only [go_sem, T67, Bool.not_true, Bool.not_false, Option.map_some, Int.reduceToNat, Nat.reduceEqDiff, Nat.reduceLT, Nat.reduceAdd, Nat.reduceMul, Nat.reduceSub, Nat.reduceLeDiff, reduceIte, reduceCtorEq, Try.results67]
  obtain ⟨hg1, hr⟩ := of_guard0 hr
  repeat refine gA ?_
  refine ⟨fun hc => ?_, fun hc => ?_⟩
  · replace hr := ifP hr hc
    repeat refine gA ?_
    obtain rfl := Option.some.inj hr
    (simp (maxDischargeDepth := 8) [go_sem, -List.drop_one])
  · replace hr := ifN hr hc
    repeat refine gA ?_
    obtain rfl := Option.some.inj hr
    (simp (maxDischargeDepth := 8) [go_sem, -List.drop_one])
theorem f67 : FnFact Try.prog 67 T67.sp := ⟨⟨Try.f67, Try.func67, by decide, rfl⟩, v67⟩
end Go.Proofs.Ytagnplbfdaifkaa

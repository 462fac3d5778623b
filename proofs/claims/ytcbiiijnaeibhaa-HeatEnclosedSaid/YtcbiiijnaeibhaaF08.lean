/- Contracts of functions, written by wip/dec. -/
import Derived.Test.YtcbiiijnaeibhaaF00
set_option linter.unusedVariables false
set_option linter.unusedSimpArgs false
set_option maxHeartbeats 4000000
set_option maxRecDepth 20000
namespace Go.Proofs.Ytcbiiijnaeibhaa
open Go.Abs
/- martensite/martensitebase.Mod -/
def r78 (a0 : Int) (a1 : Int) : Option (Int) :=
  if a1 ≠ 0 then
   if (decide ((a0.tmod a1) < 0)) = true then
    some (IntKind.i64.wrap ((a0.tmod a1) + a1))
    else some (a0.tmod a1)
   else none
def T78 : TSpec (Int × Int) where
  enc x := [.c (.int .i64 x.1), .c (.int .i64 x.2)]
  dec a := (dInt (aCell a 0 0), dInt (aCell a 1 0))
  pre x := (r78 x.1 x.2).isSome = true
  res x := [.c (.d (.int .i64 ((r78 x.1 x.2).getD default)))]
  al := false
def tb78 : Fns := lk []
theorem tb78_ok : FnsOk Try.prog tb78 := FnsOk.nil
theorem v78 : Valid Try.prog 78 T78.sp := by
  refine valid_t (fn := Try.f78) (n := 14) ty_ok tb78_ok Try.func78 rfl Try.ntmps78 ?_
  rintro ⟨a0, a1⟩ hx
  obtain ⟨r, hr⟩ := Option.isSome_iff_exists.1 (show (r78 a0 a1).isSome = true from hx)
  have hres : T78.res (a0, a1) = [.c (.d (.int .i64 r))] := by simp only [T78, hr, Option.getD_some]
  refine ⟨Nat.le_of_ble_eq_true rfl, fun stop S => ?_⟩
  rw [hres] at S
  unfold r78 at hr
  refine S.goB [] 1000 ?_
  simp (maxSteps := 10000000) only [go_sem, T78, Option.map_some, Int.reduceToNat, Nat.reduceEqDiff, Nat.reduceLT, Nat.reduceAdd, Nat.reduceMul, Nat.reduceSub, Nat.reduceLeDiff, reduceIte, reduceCtorEq, Try.results78]
  obtain ⟨hg1, hr⟩ := of_guard0 hr
  repeat refine gA ?_
  refine ⟨fun hc => ?_, fun hc => ?_⟩
  · replace hr := ifP hr hc
    repeat refine gA ?_
    obtain rfl := Option.some.inj hr
    (simp (maxDischargeDepth := 8) [go_sem])
  · replace hr := ifN hr hc
    repeat refine gA ?_
    obtain rfl := Option.some.inj hr
    (simp (maxDischargeDepth := 8) [go_sem])
theorem f78 : FnFact Try.prog 78 T78.sp := ⟨⟨Try.f78, Try.func78, by decide, rfl⟩, v78⟩
end Go.Proofs.Ytcbiiijnaeibhaa

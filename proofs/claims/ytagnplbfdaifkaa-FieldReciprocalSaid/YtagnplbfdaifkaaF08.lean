/- Contracts of functions, written by wip/dec. -/
import Derived.Test.YtagnplbfdaifkaaF00
import Derived.Test.YtagnplbfdaifkaaF01
set_option linter.unusedVariables false
set_option linter.unusedSimpArgs false
set_option maxHeartbeats 4000000
set_option maxRecDepth 20000
namespace Go.Proofs.Ytagnplbfdaifkaa
open Go.Abs
/- martensite/field.ReactancesOf -/
def r28 (a0_0 : Int) (a0_1 : List (Int × Int × Int)) (a1_0 : Int) (a1_1 : List (Bool)) : Option ((List (Int)) × Int) :=
  (r83 a0_0 a0_1 a1_0 a1_1).bind fun v1 =>
   some (v1.2.1, v1.2.2)
def T28 : TSpec (Int × (List (Int × Int × Int)) × Int × (List (Bool))) where
  enc x := [.agg [.int .i64 x.1, encF 3 d_III x.2.1], .agg [.int .i64 x.2.2.1, encF 1 d_B x.2.2.2]]
  dec a := (dInt (aCell a 0 0), decF g_III (aCell a 0 1), dInt (aCell a 1 0), decF g_B (aCell a 1 1))
  pre x := (r28 x.1 x.2.1 x.2.2.1 x.2.2.2).isSome = true
  res x := [.c (.own (encF 1 d_I (((r28 x.1 x.2.1 x.2.2.1 x.2.2.2).getD default).1))), .c (.d (.int .i64 (((r28 x.1 x.2.1 x.2.2.1 x.2.2.2).getD default).2)))]
  al := false
def tb28 : Fns := lk [(83, T83.sp)]
theorem tb28_ok : FnsOk Try.prog tb28 := .cons f83 (FnsOk.nil)
theorem tb28_83 : tb28 83 = some T83.sp := rfl
theorem v28 : Valid Try.prog 28 T28.sp := by
  refine valid_t (fn := Try.f28) (n := 17) ty_ok tb28_ok Try.func28 rfl Try.ntmps28 ?_
  rintro ⟨a0_0, a0_1, a1_0, a1_1⟩ hx
  obtain ⟨r, hr⟩ := Option.isSome_iff_exists.1 (show (r28 a0_0 a0_1 a1_0 a1_1).isSome = true from hx)
  have hres : T28.res (a0_0, a0_1, a1_0, a1_1) = [.c (.own (encF 1 d_I r.1)), .c (.d (.int .i64 r.2))] := by simp only [T28, hr, Option.getD_some]
  refine ⟨Nat.le_of_ble_eq_true rfl, fun stop S => ?_⟩
  rw [hres] at S
  unfold r28 at hr
  refine S.goB [] 1000 ?_
  simp (maxSteps := 10000000) only [go_sem, tb28_83, T83, T28, Bool.not_true, Bool.not_false, Option.map_some, Int.reduceToNat, Nat.reduceEqDiff, Nat.reduceLT, Nat.reduceAdd, Nat.reduceMul, Nat.reduceSub, Nat.reduceLeDiff, reduceIte, reduceCtorEq, Try.results28]
  obtain ⟨v1, hv1, hr⟩ := of_bind0 hr
  try simp only [hv1, Option.getD_some, Option.isSome_some, true_and, and_assoc]
  repeat refine gA ?_
  obtain rfl := Option.some.inj hr
  (simp (maxDischargeDepth := 8) [go_sem, -List.drop_one])
theorem f28 : FnFact Try.prog 28 T28.sp := ⟨⟨Try.f28, Try.func28, by decide, rfl⟩, v28⟩
end Go.Proofs.Ytagnplbfdaifkaa

/- Contracts of functions, written by wip/dec. -/
import Derived.Test.YtagnplbfdaifkaaF00
import Derived.Test.YtagnplbfdaifkaaF01
import Derived.Test.YtagnplbfdaifkaaF02
set_option linter.unusedVariables false
set_option linter.unusedSimpArgs false
set_option maxHeartbeats 4000000
set_option maxRecDepth 20000
namespace Go.Proofs.Ytagnplbfdaifkaa
open Go.Abs
/- martensite/field.PowersOf -/
def r36 (a0_0 : Int) (a0_1 : List (Int × Int × Int)) (a1_0 : Int) (a1_1 : List (Bool)) : Option ((List (Int)) × Int) :=
  (r83 a0_0 a0_1 a1_0 a1_1).bind fun v1 =>
   if (v1.2.2 != 0) = true then
    some ([], v1.2.2)
    else (r101 v1.1 v1.2.1).bind fun v2 =>
     some (v2.1, 0)
def T36 : TSpec (Int × (List (Int × Int × Int)) × Int × (List (Bool))) where
  enc x := [.agg [.int .i64 x.1, encF 3 d_III x.2.1], .agg [.int .i64 x.2.2.1, encF 1 d_B x.2.2.2]]
  dec a := (dInt (aCell a 0 0), decF g_III (aCell a 0 1), dInt (aCell a 1 0), decF g_B (aCell a 1 1))
  pre x := (r36 x.1 x.2.1 x.2.2.1 x.2.2.2).isSome = true
  res x := [.c (.own (encF 1 d_I (((r36 x.1 x.2.1 x.2.2.1 x.2.2.2).getD default).1))), .c (.d (.int .i64 (((r36 x.1 x.2.1 x.2.2.1 x.2.2.2).getD default).2)))]
  al := false
def tb36 : Fns := lk [(83, T83.sp), (101, T101.sp)]
theorem tb36_ok : FnsOk Try.prog tb36 := .cons f83 (.cons f101 (FnsOk.nil))
theorem tb36_83 : tb36 83 = some T83.sp := rfl
theorem tb36_101 : tb36 101 = some T101.sp := rfl
theorem v36 : Valid Try.prog 36 T36.sp := by
  refine valid_t (fn := Try.f36) (n := 25) ty_ok tb36_ok Try.func36 rfl Try.ntmps36 ?_
  rintro ⟨a0_0, a0_1, a1_0, a1_1⟩ hx
  obtain ⟨r, hr⟩ := Option.isSome_iff_exists.1 (show (r36 a0_0 a0_1 a1_0 a1_1).isSome = true from hx)
  have hres : T36.res (a0_0, a0_1, a1_0, a1_1) = [.c (.own (encF 1 d_I r.1)), .c (.d (.int .i64 r.2))] := by simp only [T36, hr, Option.getD_some]
  refine ⟨Nat.le_of_ble_eq_true rfl, fun stop S => ?_⟩
  rw [hres] at S
  unfold r36 at hr
  refine S.goB [] 1000 ?_
  simp (maxSteps := 10000000) only [go_sem, tb36_83, T83, tb36_101, T101, T36, Bool.not_true, Bool.not_false, Option.map_some, Int.reduceToNat, Nat.reduceEqDiff, Nat.reduceLT, Nat.reduceAdd, Nat.reduceMul, Nat.reduceSub, Nat.reduceLeDiff, reduceIte, reduceCtorEq, Try.results36]
  obtain ⟨v1, hv1, hr⟩ := of_bind0 hr
  try simp only [hv1, Option.getD_some, Option.isSome_some, true_and, and_assoc]
  repeat refine gA ?_
  refine ⟨fun hc => ?_, fun hc => ?_⟩
  · replace hr := ifP hr hc
    repeat refine gA ?_
    obtain rfl := Option.some.inj hr
    (simp (maxDischargeDepth := 8) [go_sem, -List.drop_one])
  · replace hr := ifN hr hc
    obtain ⟨v2, hv2, hr⟩ := of_bind0 hr
    try simp only [hv2, Option.getD_some, Option.isSome_some, true_and, and_assoc]
    repeat refine gA ?_
    obtain rfl := Option.some.inj hr
    (simp (maxDischargeDepth := 8) [go_sem, -List.drop_one])
theorem f36 : FnFact Try.prog 36 T36.sp := ⟨⟨Try.f36, Try.func36, by decide, rfl⟩, v36⟩
end Go.Proofs.Ytagnplbfdaifkaa

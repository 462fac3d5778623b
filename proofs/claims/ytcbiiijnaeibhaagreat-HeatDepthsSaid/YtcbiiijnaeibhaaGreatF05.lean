/- Contracts of functions, written by wip/dec. -/
import Derived.Test.YtcbiiijnaeibhaaGreatF00
import Derived.Test.YtcbiiijnaeibhaaGreatF01
import Derived.Test.YtcbiiijnaeibhaaGreatF03
import Derived.Test.YtcbiiijnaeibhaaGreatF04
set_option linter.unusedVariables false
set_option linter.unusedSimpArgs false
set_option maxHeartbeats 4000000
set_option maxRecDepth 20000
namespace Go.Proofs.YtcbiiijnaeibhaaGreat
open Go.Abs
/- martensite/martensitelaw03.awake -/
def r4 : Option (Bool) :=
  (r23).bind fun v1 =>
   (r22 v1.1 v1.2.1 v1.2.2.1 v1.2.2.2 [1000, 200, 0] [10, 0, 0] 1).bind fun v2 =>
    (r24 v1.1 v1.2.1 v1.2.2.1 v1.2.2.2 [1000, 200, 0] [1000, 200, 0] [(0, 10), (0, 0), (0, 0)] 0 1).bind fun v3 =>
     (r8 v1.1 v1.2.1 v1.2.2.1 v1.2.2.2 [800, 300, 100] 450).bind fun v4 =>
      (r25 v1.1 v1.2.1 v1.2.2.1 v1.2.2.2 [0, 0, 0] [100, 0, 0] 0 400 1 10).bind fun v5 =>
       (r27).bind fun v6 =>
        (r26 v6.1 v6.2.1 v6.2.2 [(100, 500), (100, 500), (100, 500), (100, 500)]).bind fun v7 =>
         if (v2.2 == 0) = true → (r28 v2.1 [650, 300, 100]).isSome = true then
          if (((v2.2 == 0) && ((r28 v2.1 [650, 300, 100]).getD default)) && (v3.2.2 == 0)) = true → (r29 v3.1 v3.2.1 [640, 300, 100] [810, 300, 100]).isSome = true then
           some ((((((((((v2.2 == 0) && ((r28 v2.1 [650, 300, 100]).getD default)) && (v3.2.2 == 0)) && ((r29 v3.1 v3.2.1 [640, 300, 100] [810, 300, 100]).getD default)) && (v4.2 == 0)) && (v4.1 == 2)) && (v5.2 == 0)) && (v5.1 == 3)) && (v7.2.2 == 0)) && ((v7.1 == 3) && (v7.2.1 == 5)))
           else none
          else none
def T4 : TSpec (Unit) where
  enc x := []
  dec a := ()
  pre x := (r4).isSome = true
  res x := [.c (.d (.bool ((r4).getD default)))]
  al := false
def tb4 : Fns := lk [(8, T8.sp), (22, T22.sp), (23, T23.sp), (24, T24.sp), (25, T25.sp), (26, T26.sp), (27, T27.sp), (28, T28.sp), (29, T29.sp)]
theorem tb4_ok : FnsOk Tryz.prog tb4 := .cons f8 (.cons f22 (.cons f23 (.cons f24 (.cons f25 (.cons f26 (.cons f27 (.cons f28 (.cons f29 (FnsOk.nil)))))))))
theorem tb4_8 : tb4 8 = some T8.sp := rfl
theorem tb4_22 : tb4 22 = some T22.sp := rfl
theorem tb4_23 : tb4 23 = some T23.sp := rfl
theorem tb4_24 : tb4 24 = some T24.sp := rfl
theorem tb4_25 : tb4 25 = some T25.sp := rfl
theorem tb4_26 : tb4 26 = some T26.sp := rfl
theorem tb4_27 : tb4 27 = some T27.sp := rfl
theorem tb4_28 : tb4 28 = some T28.sp := rfl
theorem tb4_29 : tb4 29 = some T29.sp := rfl
theorem v4 : Valid Tryz.prog 4 T4.sp := by
  refine valid_t (fn := Tryz.f4) (n := 101) ty_ok tb4_ok Tryz.func4 rfl Tryz.ntmps4 ?_
  intro _ hx
  obtain ⟨r, hr⟩ := Option.isSome_iff_exists.1 (show (r4).isSome = true from hx)
  have hres : T4.res () = [.c (.d (.bool r))] := by simp only [T4, hr, Option.getD_some]
  refine ⟨Nat.le_of_ble_eq_true rfl, fun stop S => ?_⟩
  rw [hres] at S
  unfold r4 at hr
  refine S.goB [] 1000 ?_
  simp (maxSteps := 10000000) only [go_sem, tb4_8, T8, tb4_22, T22, tb4_23, T23, tb4_24, T24, tb4_25, T25, tb4_26, T26, tb4_27, T27, tb4_28, T28, tb4_29, T29, T4, Option.map_some, Int.reduceToNat, Nat.reduceEqDiff, Nat.reduceLT, Nat.reduceAdd, Nat.reduceMul, Nat.reduceSub, Nat.reduceLeDiff, reduceIte, reduceCtorEq, Tryz.results4]
  obtain ⟨v1, hv1, hr⟩ := of_bind0 hr
  obtain ⟨v2, hv2, hr⟩ := of_bind0 hr
  obtain ⟨v3, hv3, hr⟩ := of_bind0 hr
  obtain ⟨v4, hv4, hr⟩ := of_bind0 hr
  obtain ⟨v5, hv5, hr⟩ := of_bind0 hr
  obtain ⟨v6, hv6, hr⟩ := of_bind0 hr
  obtain ⟨v7, hv7, hr⟩ := of_bind0 hr
  obtain ⟨hg8, hr⟩ := of_guard0 hr
  obtain ⟨hg9, hr⟩ := of_guard0 hr
  try simp only [hv1, hv2, hv3, hv4, hv5, hv6, hv7, Option.getD_some, Option.isSome_some, true_and, and_assoc]
  repeat (first | refine gG hg8 ?_ | refine gG hg9 ?_ | refine gA ?_ | refine gB ?_)
  obtain rfl := Option.some.inj hr
  (simp (maxDischargeDepth := 8) [go_sem])
theorem f4 : FnFact Tryz.prog 4 T4.sp := ⟨⟨Tryz.f4, Tryz.func4, by decide, rfl⟩, v4⟩
end Go.Proofs.YtcbiiijnaeibhaaGreat

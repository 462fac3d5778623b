/- Contracts of functions, written by wip/dec. -/
import Derived.Test.YtcbiiijnaeibhaaF00
import Derived.Test.YtcbiiijnaeibhaaF01
import Derived.Test.YtcbiiijnaeibhaaF03
import Derived.Test.YtcbiiijnaeibhaaF04
set_option linter.unusedVariables false
set_option linter.unusedSimpArgs false
set_option maxHeartbeats 4000000
set_option maxRecDepth 20000
namespace Go.Proofs.Ytcbiiijnaeibhaa
open Go.Abs
/- martensite/martensitelaw03.awake -/
def r14 : Option (Bool) :=
  (r87).bind fun v1 =>
   (r64 v1.1 v1.2.1 v1.2.2.1 v1.2.2.2 [1000, 200, 0] [10, 0, 0] 1).bind fun v2 =>
    (r41 v1.1 v1.2.1 v1.2.2.1 v1.2.2.2 [1000, 200, 0] [1000, 200, 0] [(0, 10), (0, 0), (0, 0)] 0 1).bind fun v3 =>
     (r77 v1.1 v1.2.1 v1.2.2.1 v1.2.2.2 [800, 300, 100] 450).bind fun v4 =>
      (r17 v1.1 v1.2.1 v1.2.2.1 v1.2.2.2 [0, 0, 0] [100, 0, 0] 0 400 1 10).bind fun v5 =>
       (r88).bind fun v6 =>
        (r30 v6.1 v6.2.1 v6.2.2 [(100, 500), (100, 500), (100, 500), (100, 500)]).bind fun v7 =>
         if (v2.2 == 0) = true → (r34 v2.1 [650, 300, 100]).isSome = true then
          if (((v2.2 == 0) && ((r34 v2.1 [650, 300, 100]).getD default)) && (v3.2.2 == 0)) = true → (r47 v3.1 v3.2.1 [640, 300, 100] [810, 300, 100]).isSome = true then
           some ((((((((((v2.2 == 0) && ((r34 v2.1 [650, 300, 100]).getD default)) && (v3.2.2 == 0)) && ((r47 v3.1 v3.2.1 [640, 300, 100] [810, 300, 100]).getD default)) && (v4.2 == 0)) && (v4.1 == 2)) && (v5.2 == 0)) && (v5.1 == 3)) && (v7.2.2 == 0)) && ((v7.1 == 3) && (v7.2.1 == 5)))
           else none
          else none
def T14 : TSpec (Unit) where
  enc x := []
  dec a := ()
  pre x := (r14).isSome = true
  res x := [.c (.d (.bool ((r14).getD default)))]
  al := false
def tb14 : Fns := lk [(17, T17.sp), (30, T30.sp), (34, T34.sp), (41, T41.sp), (47, T47.sp), (64, T64.sp), (77, T77.sp), (87, T87.sp), (88, T88.sp)]
theorem tb14_ok : FnsOk Try.prog tb14 := .cons f17 (.cons f30 (.cons f34 (.cons f41 (.cons f47 (.cons f64 (.cons f77 (.cons f87 (.cons f88 (FnsOk.nil)))))))))
theorem tb14_17 : tb14 17 = some T17.sp := rfl
theorem tb14_30 : tb14 30 = some T30.sp := rfl
theorem tb14_34 : tb14 34 = some T34.sp := rfl
theorem tb14_41 : tb14 41 = some T41.sp := rfl
theorem tb14_47 : tb14 47 = some T47.sp := rfl
theorem tb14_64 : tb14 64 = some T64.sp := rfl
theorem tb14_77 : tb14 77 = some T77.sp := rfl
theorem tb14_87 : tb14 87 = some T87.sp := rfl
theorem tb14_88 : tb14 88 = some T88.sp := rfl
theorem v14 : Valid Try.prog 14 T14.sp := by
  refine valid_t (fn := Try.f14) (n := 101) ty_ok tb14_ok Try.func14 rfl Try.ntmps14 ?_
  intro _ hx
  obtain ⟨r, hr⟩ := Option.isSome_iff_exists.1 (show (r14).isSome = true from hx)
  have hres : T14.res () = [.c (.d (.bool r))] := by simp only [T14, hr, Option.getD_some]
  refine ⟨Nat.le_of_ble_eq_true rfl, fun stop S => ?_⟩
  rw [hres] at S
  unfold r14 at hr
  refine S.goB [] 1000 ?_
  simp (maxSteps := 10000000) only [go_sem, tb14_17, T17, tb14_30, T30, tb14_34, T34, tb14_41, T41, tb14_47, T47, tb14_64, T64, tb14_77, T77, tb14_87, T87, tb14_88, T88, T14, Option.map_some, Int.reduceToNat, Nat.reduceEqDiff, Nat.reduceLT, Nat.reduceAdd, Nat.reduceMul, Nat.reduceSub, Nat.reduceLeDiff, reduceIte, reduceCtorEq, Try.results14]
  obtain ⟨v1, hv1, hr⟩ := of_bind0 hr
  obtain ⟨v2, hv2, hr⟩ := of_bind0 hr
  obtain ⟨v3, hv3, hr⟩ := of_bind0 hr
  obtain ⟨v4, hv4, hr⟩ := of_bind0 hr
  obtain ⟨v5, hv5, hr⟩ := of_bind0 hr
  obtain ⟨v6, hv6, hr⟩ := of_bind0 hr
  obtain ⟨v7, hv7, hr⟩ := of_bind0 hr
  obtain ⟨hg8, hr⟩ := of_guard0 hr
  obtain ⟨hg9, hr⟩ := of_guard0 hr
  try simp only [hv1, hv2, hv3, hv4, hv5, hv6, hv7, Option.getD_some, Option.isSome_some, true_and, and_assoc]
  repeat (first | refine gG hg8 ?_ | refine gG hg9 ?_ | refine gA ?_ | refine gB ?_)
  obtain rfl := Option.some.inj hr
  (simp (maxDischargeDepth := 8) [go_sem])
theorem f14 : FnFact Try.prog 14 T14.sp := ⟨⟨Try.f14, Try.func14, by decide, rfl⟩, v14⟩
end Go.Proofs.Ytcbiiijnaeibhaa

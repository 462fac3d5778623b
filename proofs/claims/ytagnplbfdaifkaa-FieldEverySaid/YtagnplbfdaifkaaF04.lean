/- Contracts of functions, written by wip/dec. -/
import Derived.Test.YtagnplbfdaifkaaF00
import Derived.Test.YtagnplbfdaifkaaF01
import Derived.Test.YtagnplbfdaifkaaF02
import Derived.Test.YtagnplbfdaifkaaF03
set_option linter.unusedVariables false
set_option linter.unusedSimpArgs false
set_option maxHeartbeats 4000000
set_option maxRecDepth 20000
namespace Go.Proofs.Ytagnplbfdaifkaa
open Go.Abs
/- martensite/martensitelaw02.awake -/
def r15 : Option (Bool) :=
  (r81).bind fun v1 =>
   (r82).bind fun v2 =>
    (r32 v1.1 v1.2 v2.1 v2.2).bind fun v3 =>
     (r38 v1.1 v1.2 v2.1 v2.2 100).bind fun v4 =>
      (r18 v1.1 v1.2 v2.1 v2.2).bind fun v5 =>
       (r21 v1.1 v1.2 v2.1 v2.2 0 1).bind fun v6 =>
        (r68 v1.1 v1.2 [false, false] 70 1).bind fun v7 =>
         if (v3.2 == 0) = true → (r58 v3.1 [((-1), 5), (1, 1), (1, 0)]).isSome = true then
          if (((v3.2 == 0) && ((r58 v3.1 [((-1), 5), (1, 1), (1, 0)]).getD default)) && (v4.2 == 0)) = true → (r30 v4.1 [66, 34]).isSome = true then
           some ((((((((((v3.2 == 0) && ((r58 v3.1 [((-1), 5), (1, 1), (1, 0)]).getD default)) && (v4.2 == 0)) && ((r30 v4.1 [66, 34]).getD default)) && (v5.2.2.2.2 == 0)) && ((v5.1 == (-4)) && ((v5.2.1 == 20) && ((v5.2.2.1 == 2) && (v5.2.2.2.1 == 1))))) && (v6.2.2.2.2 == 0)) && ((v6.1 == 0) && ((v6.2.1 == (-2)) && ((v6.2.2.1 == 1) && (v6.2.2.2.1 == (-5)))))) && (v7.2 == 0)) && (v7.1 == 2))
           else none
          else none
def T15 : TSpec (Unit) where
  enc x := []
  dec a := ()
  pre x := (r15).isSome = true
  res x := [.c (.d (.bool ((r15).getD default)))]
  al := false
def tb15 : Fns := lk [(18, T18.sp), (21, T21.sp), (30, T30.sp), (32, T32.sp), (38, T38.sp), (58, T58.sp), (68, T68.sp), (81, T81.sp), (82, T82.sp)]
theorem tb15_ok : FnsOk Try.prog tb15 := .cons f18 (.cons f21 (.cons f30 (.cons f32 (.cons f38 (.cons f58 (.cons f68 (.cons f81 (.cons f82 (FnsOk.nil)))))))))
theorem tb15_18 : tb15 18 = some T18.sp := rfl
theorem tb15_21 : tb15 21 = some T21.sp := rfl
theorem tb15_30 : tb15 30 = some T30.sp := rfl
theorem tb15_32 : tb15 32 = some T32.sp := rfl
theorem tb15_38 : tb15 38 = some T38.sp := rfl
theorem tb15_58 : tb15 58 = some T58.sp := rfl
theorem tb15_68 : tb15 68 = some T68.sp := rfl
theorem tb15_81 : tb15 81 = some T81.sp := rfl
theorem tb15_82 : tb15 82 = some T82.sp := rfl
theorem v15 : Valid Try.prog 15 T15.sp := by
  refine valid_t (fn := Try.f15) (n := 92) ty_ok tb15_ok Try.func15 rfl Try.ntmps15 ?_
  intro _ hx
  obtain ⟨r, hr⟩ := Option.isSome_iff_exists.1 (show (r15).isSome = true from hx)
  have hres : T15.res () = [.c (.d (.bool r))] := by simp only [T15, hr, Option.getD_some]
  refine ⟨Nat.le_of_ble_eq_true rfl, fun stop S => ?_⟩
  rw [hres] at S
  unfold r15 at hr
  refine S.goB [] 1000 ?_
  simp (maxSteps := 10000000) only [go_sem, tb15_18, T18, tb15_21, T21, tb15_30, T30, tb15_32, T32, tb15_38, T38, tb15_58, T58, tb15_68, T68, tb15_81, T81, tb15_82, T82, T15, Bool.not_true, Bool.not_false, Option.map_some, Int.reduceToNat, Nat.reduceEqDiff, Nat.reduceLT, Nat.reduceAdd, Nat.reduceMul, Nat.reduceSub, Nat.reduceLeDiff, reduceIte, reduceCtorEq, Try.results15]
  obtain ⟨v1, hv1, hr⟩ := of_bind0 hr
  obtain ⟨v2, hv2, hr⟩ := of_bind0 hr
  obtain ⟨v3, hv3, hr⟩ := of_bind0 hr
  obtain ⟨v4, hv4, hr⟩ := of_bind0 hr
  obtain ⟨v5, hv5, hr⟩ := of_bind0 hr
  obtain ⟨v6, hv6, hr⟩ := of_bind0 hr
  obtain ⟨v7, hv7, hr⟩ := of_bind0 hr
  obtain ⟨hg8, hr⟩ := of_guard0 hr
  obtain ⟨hg9, hr⟩ := of_guard0 hr
  try simp only [hv1, hv2, hv3, hv4, hv5, hv6, hv7, Option.getD_some, Option.isSome_some, true_and, and_assoc]
  repeat (first | refine gG hg8 ?_ | refine gG hg9 ?_ | refine gA ?_ | refine gB ?_)
  obtain rfl := Option.some.inj hr
  (simp (maxDischargeDepth := 8) [go_sem, -List.drop_one])
theorem f15 : FnFact Try.prog 15 T15.sp := ⟨⟨Try.f15, Try.func15, by decide, rfl⟩, v15⟩
end Go.Proofs.Ytagnplbfdaifkaa

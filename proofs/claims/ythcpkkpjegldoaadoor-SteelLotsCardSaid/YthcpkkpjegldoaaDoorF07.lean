/- Contracts of functions, written by wip/dec. -/
import Derived.Test.YthcpkkpjegldoaaDoorF00
import Derived.Test.YthcpkkpjegldoaaDoorF05
import Derived.Test.YthcpkkpjegldoaaDoorF06
set_option linter.unusedVariables false
set_option linter.unusedSimpArgs false
set_option linter.constructorNameAsVariable false
set_option maxHeartbeats 4000000
set_option maxRecDepth 20000
namespace Go.Proofs.YthcpkkpjegldoaaDoor
open Go.Abs
/- martensite/martensitelaw04.SteelLots -/
def r3 (x1 : Int) (x0 : L_SIII) : Option (Bool) :=
  (r4).bind fun v1 =>
   if (!v1) = true then
    some false
    else if (decide ((x0.length : Int) > 10)) = true then
     some true
     else (r6 x1 x0).bind fun v2 =>
      (r5 v2.1 v2.2).bind fun v3 =>
       (r7 v2.1 v2.2).bind fun v4 =>
        (r8 x1 x0).bind fun v5 =>
         if ((v3.2 != v5.2) || (v3.1 != v5.1)) = true then
          some false
          else if (v5.2 != 0) = true then
           some ((v4.2.2 == v5.2) && ((v4.1 == 0) && (v4.2.1 == 0)))
           else if (v4.2.2 == 0) = true → (r9 x1 x0).isSome = true then
            some ((v4.2.2 == 0) && ((v4.1 == ((r9 x1 x0).getD default).1) && (v4.2.1 == ((r9 x1 x0).getD default).2)))
            else none
def T3 := qT29 qu3 false r3
attribute [go_sem] T3
def tb3 : Fns := lk [(4, T4.sp), (5, T5.sp), (6, T6.sp), (7, T7.sp), (8, T8.sp), (9, T9.sp)]
theorem tb3_ok : FnsOk Tryd.prog tb3 := .cons f4 (.cons f5 (.cons f6 (.cons f7 (.cons f8 (.cons f9 .nil)))))
theorem tk3 : tb3 4 = some T4.sp ∧ tb3 5 = some T5.sp ∧ tb3 6 = some T6.sp ∧ tb3 7 = some T7.sp ∧ tb3 8 = some T8.sp ∧ tb3 9 = some T9.sp := ⟨rfl, rfl, rfl, rfl, rfl, rfl⟩
section
attribute [local go_sem] tk3 Tryd.results3
theorem f3 : FnFact Tryd.prog 3 T3.sp := by
  refine valid_m ty_ok tb3_ok Tryd.func3 rfl Tryd.ntmps3 fun ⟨x1, x0⟩ r hr => ⟨nL rfl, fun stop S => ?_⟩
  replace hr : r3 x1 x0 = some r := hr
  unfold r3 at hr
  refine S.gx [9, 10] ?_
  obtain ⟨v1, hv1, hr⟩ := of_bind0 hr
  refine gb hv1 ?_
  refine iW hr (fun hc hr => D0 hr) fun hc hr => ?_
  refine gr ?_
  refine iW hr (fun hc hr => D0 hr) fun hc hr => ?_
  obtain ⟨v2, hv2, hr⟩ := of_bind0 hr
  obtain ⟨v3, hv3, hr⟩ := of_bind0 hr
  obtain ⟨v4, hv4, hr⟩ := of_bind0 hr
  obtain ⟨v5, hv5, hr⟩ := of_bind0 hr
  try simp only [hv2, hv3, hv4, hv5, Option.getD_some, Option.isSome_some, true_and, and_assoc]
  repeat (first | refine gA ?_ | refine gB ?_)
  refine iW hr (fun hc hr => ?_) fun hc hr => ?_
  · refine gr ?_
    refine S.prune [] ?_
    refine S.gx [10] ?_
    exact D0 hr
  · refine gr ?_
    refine S.prune [1, 5, 6, 8] ?_
    refine S.gx [9] ?_
    refine gr ?_
    refine gr ?_
    refine iW hr (fun hc hr => ?_) fun hc hr => ?_
    · repeat (first | refine gA ?_ | refine gB ?_)
      exact D0 hr
    · obtain ⟨hg6, hr⟩ := of_guard0 hr
      repeat (first | refine gG hg6 ?_ | refine gA ?_ | refine gB ?_)
      exact D0 hr
end
end Go.Proofs.YthcpkkpjegldoaaDoor

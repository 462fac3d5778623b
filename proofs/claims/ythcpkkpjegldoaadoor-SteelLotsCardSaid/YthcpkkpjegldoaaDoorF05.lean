/- Contracts of functions, written by wip/dec. -/
import Derived.Test.YthcpkkpjegldoaaDoorF00
import Derived.Test.YthcpkkpjegldoaaDoorF01
import Derived.Test.YthcpkkpjegldoaaDoorF03
import Derived.Test.YthcpkkpjegldoaaDoorF04
set_option linter.unusedVariables false
set_option linter.unusedSimpArgs false
set_option linter.constructorNameAsVariable false
set_option maxHeartbeats 4000000
set_option maxRecDepth 20000
namespace Go.Proofs.YthcpkkpjegldoaaDoor
open Go.Abs
/- martensite/martensitelaw04.awake -/
def r4 : Option (Bool) :=
  (r11).bind fun v1 =>
   (r12).bind fun v2 =>
    (r10 v1.1 v1.2.1 v1.2.2.1 v1.2.2.2.1 v1.2.2.2.2.1 v1.2.2.2.2.2.1 v1.2.2.2.2.2.2.1 v1.2.2.2.2.2.2.2 v2.1 v2.2.1 v2.2.2.1 v2.2.2.2.1 v2.2.2.2.2.1 v2.2.2.2.2.2.1 v2.2.2.2.2.2.2 [1100, 1200, 1200] 0 0 0).bind fun v3 =>
     (r13).bind fun v4 =>
      (r10 v1.1 v1.2.1 v1.2.2.1 v1.2.2.2.1 v1.2.2.2.2.1 v1.2.2.2.2.2.1 v1.2.2.2.2.2.2.1 v1.2.2.2.2.2.2.2 v4.1 v4.2.1 v4.2.2.1 v4.2.2.2.1 v4.2.2.2.2.1 v4.2.2.2.2.2.1 v4.2.2.2.2.2.2 [450, 300] 0 0 0).bind fun v5 =>
       (r14 v1.1 v1.2.1 v1.2.2.1 v1.2.2.2.1 v1.2.2.2.2.1 v1.2.2.2.2.2.1 v1.2.2.2.2.2.2.1 v1.2.2.2.2.2.2.2 0 100000 0 900000 0 0 5).bind fun v6 =>
        (r15 v1.1 v1.2.1 v1.2.2.1 v1.2.2.2.1 v1.2.2.2.2.1 v1.2.2.2.2.2.1 v1.2.2.2.2.2.2.1 v1.2.2.2.2.2.2.2 0 0 900000 1000000 0 100000 0 0 0 0 0 0 0 0).bind fun v7 =>
         (r16 [(700, 750), (500, 600), (200, 250)] 550).bind fun v8 =>
          some ((((((((((v3.2.2.2.2.2.2.2 == 0) && ((v3.1 == 0) && ((v3.2.1 == 1000000) && ((v3.2.2.1 == 0) && ((v3.2.2.2.1 == 0) && ((v3.2.2.2.2.1 == 0) && ((v3.2.2.2.2.2.1 == 70) && (v3.2.2.2.2.2.2.1 == 0)))))))) && (v5.2.2.2.2.2.2.2 == 0)) && ((v5.1 == 0) && ((v5.2.1 == 100000) && ((v5.2.2.1 == 0) && ((v5.2.2.2.1 == 900000) && ((v5.2.2.2.2.1 == 0) && ((v5.2.2.2.2.2.1 == 0) && (v5.2.2.2.2.2.2.1 == 5)))))))) && (v6.2 == 0)) && (v6.1 == 740)) && (v7.2.2 == 0)) && ((v7.1 == 250) && (v7.2.1 == 265))) && (v8.2.2 == 0)) && ((v8.1 == 1) && (v8.2.1 == 2)))
def T4 := qT0 qu3 false r4
attribute [go_sem] T4
def tb4 : Fns := lk [(10, T10.sp), (11, T11.sp), (12, T12.sp), (13, T13.sp), (14, T14.sp), (15, T15.sp), (16, T16.sp)]
theorem tb4_ok : FnsOk Tryd.prog tb4 := .cons f10 (.cons f11 (.cons f12 (.cons f13 (.cons f14 (.cons f15 (.cons f16 .nil))))))
theorem tk4 : tb4 10 = some T10.sp ∧ tb4 11 = some T11.sp ∧ tb4 12 = some T12.sp ∧ tb4 13 = some T13.sp ∧ tb4 14 = some T14.sp ∧ tb4 15 = some T15.sp ∧ tb4 16 = some T16.sp := ⟨rfl, rfl, rfl, rfl, rfl, rfl, rfl⟩
section
attribute [local go_sem] tk4 Tryd.results4
theorem f4 : FnFact Tryd.prog 4 T4.sp := by
  refine valid_m ty_ok tb4_ok Tryd.func4 rfl Tryd.ntmps4 fun _ r hr => ⟨nL rfl, fun stop S => ?_⟩
  replace hr : r4 = some r := hr
  unfold r4 at hr
  refine S.gx [5] ?_
  obtain ⟨v1, hv1, hr⟩ := of_bind0 hr
  obtain ⟨v2, hv2, hr⟩ := of_bind0 hr
  obtain ⟨v3, hv3, hr⟩ := of_bind0 hr
  obtain ⟨v4, hv4, hr⟩ := of_bind0 hr
  obtain ⟨v5, hv5, hr⟩ := of_bind0 hr
  obtain ⟨v6, hv6, hr⟩ := of_bind0 hr
  obtain ⟨v7, hv7, hr⟩ := of_bind0 hr
  refine gb hv1 ?_
  refine gb hv2 ?_
  refine gb hv3 ?_
  refine gb hv4 ?_
  refine gb hv5 ?_
  refine gb hv6 ?_
  refine gb hv7 ?_
  refine S.prune [1, 2, 3, 4, 5, 6, 7, 8] ?_
  refine S.gx [] ?_
  obtain ⟨v8, hv8, hr⟩ := of_bind0 hr
  refine gb hv8 ?_
  repeat (first | refine gA ?_ | refine gB ?_)
  exact D0 hr
end
end Go.Proofs.YthcpkkpjegldoaaDoor

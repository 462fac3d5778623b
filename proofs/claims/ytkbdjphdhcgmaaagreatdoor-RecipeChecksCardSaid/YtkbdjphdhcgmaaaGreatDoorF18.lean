/- Contracts of functions, written by wip/dec. -/
import Derived.Test.YtkbdjphdhcgmaaaGreatDoorF00
import Derived.Test.YtkbdjphdhcgmaaaGreatDoorF03
import Derived.Test.YtkbdjphdhcgmaaaGreatDoorF11
import Derived.Test.YtkbdjphdhcgmaaaGreatDoorF12
import Derived.Test.YtkbdjphdhcgmaaaGreatDoorF15
set_option linter.unusedVariables false
set_option linter.unusedSimpArgs false
set_option linter.constructorNameAsVariable false
set_option maxHeartbeats 4000000
set_option maxRecDepth 20000
namespace Go.Proofs.YtkbdjphdhcgmaaaGreatDoor
open Go.Abs
def r3 (a0:L_IIIIIH):Option (Bool):=
 (r6).bind fun v1=>
  if (!v1)=true then
   some false
   else (r7 a0).bind fun v2=>
    if (!v2)=true then
     some true
     else (r9 7 a0).bind fun v3=>
      (r8 v3).bind fun v4=>
       (r10 v3).bind fun v5=>
        (r11 a0).bind fun v6=>
         if ((v4.2 != v6.2) || (v4.1 != v6.1))=true then
          some false
          else if (v6.2 != 0)=true then
           some ((v5.2 == v6.2) && ((v5.1.length:Int) == 0))
           else if (v5.2 == 0)=true→(r13 7 a0).isSome=true then
            if (v5.2 == 0)=true→(r12 7 v5.1 ((r13 7 a0).getD default)).isSome=true then
             some ((v5.2 == 0) && ((r12 7 v5.1 ((r13 7 a0).getD default)).getD default))
             else none
            else none
@[go_sem] def T3:=qT20 qu2 false r3
@[go_sem] def tb3 (k:Nat):=lk [(6,T6.sp),(7,T7.sp),(8,T8.sp),(9,(T9 7).sp),(10,T10.sp),(11,T11.sp),(12,(T12 7).sp),(13,(T13 7).sp)] k
theorem f3:FnFact Tryz.prog 3 T3.sp:=by
 refine vm (tb:=tb3) (.cons f6 (.cons f7 (.cons f8 (.cons (f9 7) (.cons f10 (.cons f11 (.cons (f12 7) (.cons (f13 7) .nil)))))))) Tryz.func3 Tryz.ntmps3 fun a0 r hr stop S=> ?_
 rw [uq1,r3] at hr
 refine S.gx [9,10] ?_
 obtain ⟨v1,hv1,hr⟩:=of_bind0 hr
 refine gb hv1 ?_
 refine iW hr (fun hc hr=>D0 hr) fun hc hr=> ?_
 obtain ⟨v2,hv2,hr⟩:=of_bind0 hr
 refine gb hv2 ?_
 refine iW hr (fun hc hr=>D0 hr) fun hc hr=> ?_
 obtain ⟨v3,hv3,hr⟩:=of_bind0 hr
 obtain ⟨v4,hv4,hr⟩:=of_bind0 hr
 obtain ⟨v5,hv5,hr⟩:=of_bind0 hr
 obtain ⟨v6,hv6,hr⟩:=of_bind0 hr
 try simp only [hv3,hv4,hv5,hv6,Option.getD_some,Option.isSome_some,true_and,and_assoc]
 repeat (first | refine gA ?_ | refine gB ?_)
 refine iW hr (fun hc hr=> ?_) fun hc hr=> ?_
 ·refine gr ?_
  refine S.prune [] ?_
  refine S.gx [10] ?_
  exact D0 hr
 ·refine gr ?_
  refine S.prune [0,5,6,8] ?_
  refine S.gx [9] ?_
  refine gr ?_
  refine gr ?_
  refine iW hr (fun hc hr=> ?_) fun hc hr=> ?_
  ·repeat (first | refine gA ?_ | refine gB ?_)
   exact D0 hr
  ·obtain ⟨hg7,hr⟩:=of_guard0 hr
   obtain ⟨hg8,hr⟩:=of_guard0 hr
   repeat (first | refine gG hg7 ?_ | refine gG hg8 ?_ | refine gA ?_ | refine gB ?_)
   exact D0 hr
end Go.Proofs.YtkbdjphdhcgmaaaGreatDoor

/- Contracts of functions, written by wip/dec. -/
import Derived.Test.YtnepigpnlnmlmaaGreatDoorF00
import Derived.Test.YtnepigpnlnmlmaaGreatDoorF11
import Derived.Test.YtnepigpnlnmlmaaGreatDoorF13
import Derived.Test.YtnepigpnlnmlmaaGreatDoorF15
import Derived.Test.YtnepigpnlnmlmaaGreatDoorF16
import Derived.Test.YtnepigpnlnmlmaaGreatDoorF17
import Derived.Test.YtnepigpnlnmlmaaGreatDoorF18
import Derived.Test.YtnepigpnlnmlmaaGreatDoorF20
import Derived.Test.YtnepigpnlnmlmaaGreatDoorF21
import Derived.Test.YtnepigpnlnmlmaaGreatDoorF22
import Derived.Test.YtnepigpnlnmlmaaGreatDoorF24
import Derived.Test.YtnepigpnlnmlmaaGreatDoorF25
import Derived.Test.YtnepigpnlnmlmaaGreatDoorF27
set_option linter.unusedVariables false
set_option linter.unusedSimpArgs false
set_option linter.constructorNameAsVariable false
set_option maxHeartbeats 4000000
set_option maxRecDepth 20000
namespace Go.Proofs.YtnepigpnlnmlmaaGreatDoor
open Go.Abs
def r3 (a0:L_IIIIIHLIE) (a1:Int):Option (Bool):=
 (r9).bind fun v1=>
  if (!v1)=true then
   some false
   else (r10 a0).bind fun v2=>
    if (!v2)=true then
     some true
     else (r12 a0).bind fun v3=>
      (r11 v3).bind fun v4=>
       (r13 v3).bind fun v5=>
        (r14 v3 a1).bind fun v6=>
         (r15 a0).bind fun v7=>
          if ((v4.2 != v7.2) || (v4.1 != v7.1))=true then
           some false
           else if (v7.2 != 0)=true then
            some ((((v5.2 == v7.2) && (v6.2 == v7.2)) && (v5.1 == 0)) && ((v6.1.length:Int) == 0))
            else if (!(v5.2 != 0))=true→(r16 a0).isSome=true then
             if ((v5.2 != 0) || (v5.1 != ((r16 a0).getD default)))=true then
              some false
              else (r17 a1 0 (IntKind.i64.wrap (v5.1 - 1))).bind fun v8=>
               if (!v8)=true then
                some ((v6.2 == 6) && ((v6.1.length:Int) == 0))
                else if (v6.2 == 0)=true→(r19 a0 a1).isSome=true then
                 if (v6.2 == 0)=true→(r18 7 v6.1 ((r19 a0 a1).getD default)).isSome=true then
                  if ((v6.2 == 0) && ((r18 7 v6.1 ((r19 a0 a1).getD default)).getD default))=true→(r20 v6.1).isSome=true then
                   some (((v6.2 == 0) && ((r18 7 v6.1 ((r19 a0 a1).getD default)).getD default)) && (((r20 v6.1).getD default) == 0))
                   else none
                  else none
                 else none
             else none
@[go_sem] def T3:=qT78 qu2 false r3
@[go_sem] def tb3 (k:Nat):=lk [(9,T9.sp),(10,T10.sp),(11,T11.sp),(12,T12.sp),(13,T13.sp),(14,T14.sp),(15,T15.sp),(16,T16.sp),(17,T17.sp),(18,(T18 7).sp),(19,T19.sp),(20,T20.sp)] k
theorem f3:FnFact Tryz.prog 3 T3.sp:=by
 refine vm (tb:=tb3) (.cons f9 (.cons f10 (.cons f11 (.cons f12 (.cons f13 (.cons f14 (.cons f15 (.cons f16 (.cons f17 (.cons (f18 7) (.cons f19 (.cons f20 .nil)))))))))))) Tryz.func3 Tryz.ntmps3 fun ⟨a0,a1⟩ r hr stop S=> ?_
 rw [uq2,r3] at hr
 refine S.gx [9,16] ?_
 obtain ⟨v1,hv1,hr⟩:=of_bind0 hr
 refine gb hv1 ?_
 refine iW hr (fun hc hr=>D0 hr) fun hc hr=> ?_
 obtain ⟨v2,hv2,hr⟩:=of_bind0 hr
 refine gb hv2 ?_
 refine iW hr (fun hc hr=>D0 hr) fun hc hr=> ?_
 obtain ⟨v3,hv3,hr⟩:=of_bind0 hr
 obtain ⟨v4,hv4,hr⟩:=of_bind0 hr
 obtain ⟨v5,hv5,hr⟩:=of_bind0 hr
 obtain ⟨v6,hv6,hr⟩:=of_bind0 hr
 obtain ⟨v7,hv7,hr⟩:=of_bind0 hr
 refine gb hv3 ?_
 refine gb hv4 ?_
 refine gb hv5 ?_
 refine gb hv6 ?_
 refine gb hv7 ?_
 refine S.prune [0,1,5,6,7,8,9,10,11,12] ?_
 refine S.gx [16] ?_
 repeat (first | refine gA ?_ | refine gB ?_)
 refine gr ?_
 refine iW hr (fun hc hr=>D0 hr) fun hc hr=> ?_
 refine gr ?_
 refine iW hr (fun hc hr=> ?_) fun hc hr=> ?_
 ·repeat (first | refine gA ?_ | refine gB ?_)
  exact D0 hr
 ·obtain ⟨hg12,hr⟩:=of_guard0 hr
  repeat (first | refine gG hg12 ?_ | refine gA ?_ | refine gB ?_)
  refine iW hr (fun hc hr=>D0 hr) fun hc hr=> ?_
  obtain ⟨v8,hv8,hr⟩:=of_bind0 hr
  refine gb hv8 ?_
  refine iW hr (fun hc hr=> ?_) fun hc hr=> ?_
  ·refine gr ?_
   refine S.prune [9,10] ?_
   refine S.gx [9] ?_
   repeat (first | refine gA ?_ | refine gB ?_)
   exact D0 hr
  ·obtain ⟨hg9,hr⟩:=of_guard0 hr
   obtain ⟨hg10,hr⟩:=of_guard0 hr
   obtain ⟨hg11,hr⟩:=of_guard0 hr
   repeat (first | refine gG hg9 ?_ | refine gG hg10 ?_ | refine gG hg11 ?_ | refine gA ?_ | refine gB ?_)
   exact D0 hr
end Go.Proofs.YtnepigpnlnmlmaaGreatDoor

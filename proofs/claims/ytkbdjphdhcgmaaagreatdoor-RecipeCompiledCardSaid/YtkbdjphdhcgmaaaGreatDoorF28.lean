/- Contracts of functions, written by wip/dec. -/
import Derived.Test.YtkbdjphdhcgmaaaGreatDoorF00
import Derived.Test.YtkbdjphdhcgmaaaGreatDoorF05
import Derived.Test.YtkbdjphdhcgmaaaGreatDoorF09
import Derived.Test.YtkbdjphdhcgmaaaGreatDoorF12
import Derived.Test.YtkbdjphdhcgmaaaGreatDoorF27
set_option linter.unusedVariables false
set_option linter.unusedSimpArgs false
set_option linter.constructorNameAsVariable false
set_option maxHeartbeats 4000000
set_option maxRecDepth 20000
namespace Go.Proofs.YtkbdjphdhcgmaaaGreatDoor
open Go.dR
def r4 (x0 x1:Int) (x2:au) (x3:aj) (x4 x5:bn) (x6:au) (x7 x8:Int) (a1:aK):Option (Bool):=
 (r6).bind fun v1=>
  if (!v1)=true then
   some false
   else (r14 x0 x1 x2 x3 x4 x5 x6 x7 x8).bind fun v2=>
    if (!(!v2))=true->(r7 a1).isSome=true then
     if ((!v2) || (!((r7 a1).getD default)))=true then
      some true
      else (r16 x0 x1 x2 x3 x4 x5 x6 x7 x8).bind fun v3=>
       (r9 7 a1).bind fun v4=>
        (r15 v3.1 v3.2.1 v3.2.2.1 v3.2.2.2.1 v3.2.2.2.2.1 v3.2.2.2.2.2.1 v3.2.2.2.2.2.2.1 v3.2.2.2.2.2.2.2.1 v3.2.2.2.2.2.2.2.2 v4).bind fun v5=>
         (r17 x0 x1 x2 x3 x4 x5 x6 x7 x8).bind fun v6=>
          if (v6 == 0)=true then
           (r18 a1).bind fun v7=>
            if (v7 != 0)=true then
             some ((v5.2 == v7) && ((v5.1.length:Int) == 0))
             else (r19 x0 x1 x2 x3 x4 x5 x6 x7 x8 a1).bind fun v8=>
              if (v5.2 == v8.2)=true->(r20 v5.1 v8.1).isSome=true then
               some ((v5.2 == v8.2) && ((r20 v5.1 v8.1).getD default))
               else none
           else if (v6 != 0)=true then
            some ((v5.2 == v6) && ((v5.1.length:Int) == 0))
            else (r19 x0 x1 x2 x3 x4 x5 x6 x7 x8 a1).bind fun v10=>
             if (v5.2 == v10.2)=true->(r20 v5.1 v10.1).isSome=true then
              some ((v5.2 == v10.2) && ((r20 v5.1 v10.1).getD default))
              else none
     else none
@[go_sem] def T4:=ae9 oQ false r4
@[go_sem] def tb4 (k:Nat):=lk [(6,T6.sp),(7,T7.sp),(9,(T9 7).sp),(14,T14.sp),(15,T15.sp),(16,T16.sp),(17,T17.sp),(18,T18.sp),(19,T19.sp),(20,T20.sp)] k
theorem f4:aF Tryz.prog 4 T4.sp:=by
 refine vm (tb:=tb4) (.cons f6 (.cons f7 (.cons (f9 7) (.cons f14 (.cons f15 (.cons f16 (.cons f17 (.cons f18 (.cons f19 (.cons f20 .nil)))))))))) Tryz.func4 Tryz.ntmps4 fun ⟨x0,x1,x2,x3,x4,x5,x6,x7,x8,a1⟩ r hr stop S=> ?_
 rw [KY,r4] at hr
 refine S.gx [10,12] ?_
 obtain ⟨v1,hv1,hr⟩:=aA hr
 refine gb hv1 ?_
 refine iW hr (fun hc hr=>D0 hr) fun hc hr=> ?_
 obtain ⟨v2,hv2,hr⟩:=aA hr
 obtain ⟨y5,hr⟩:=aN hr
 try simp only [hv2,oG,oI,true_and,and_assoc]
 repeat (first | refine gG y5 ?_ | refine gA ?_ | refine gB ?_)
 refine iW hr (fun hc hr=>D0 hr) fun hc hr=> ?_
 obtain ⟨v3,hv3,hr⟩:=aA hr
 obtain ⟨v4,hv4,hr⟩:=aA hr
 obtain ⟨v5,hv5,hr⟩:=aA hr
 obtain ⟨v6,hv6,hr⟩:=aA hr
 refine gb hv3 ?_
 refine gb hv4 ?_
 refine gb hv5 ?_
 refine gb hv6 ?_
 refine iW hr (fun hc hr=> ?_) fun hc hr=> ?_
 ·obtain ⟨v7,hv7,hr⟩:=aA hr
  refine gb hv7 ?_
  refine iW hr (fun hc hr=> ?_) fun hc hr=> ?_
  ·refine gr ?_
   refine S.prune [5,6,7] ?_
   refine S.gx [12] ?_
   repeat (first | refine gA ?_ | refine gB ?_)
   exact D0 hr
  ·obtain ⟨v8,JC,hr⟩:=aA hr
   refine gb JC ?_
   refine S.prune [5,6,7,8] ?_
   refine S.gx [10] ?_
   obtain ⟨Nk,hr⟩:=aN hr
   repeat (first | refine gG Nk ?_ | refine gA ?_ | refine gB ?_)
   exact D0 hr
 ·refine gr ?_
  refine iW hr (fun hc hr=> ?_) fun hc hr=> ?_
  ·refine gr ?_
   refine S.prune [5,6,7] ?_
   refine S.gx [12] ?_
   repeat (first | refine gA ?_ | refine gB ?_)
   exact D0 hr
  ·obtain ⟨v10,yZ,hr⟩:=aA hr
   refine gb yZ ?_
   refine S.prune [5,6,7,8] ?_
   refine S.gx [10] ?_
   obtain ⟨y7,hr⟩:=aN hr
   repeat (first | refine gG y7 ?_ | refine gA ?_ | refine gB ?_)
   exact D0 hr
end Go.Proofs.YtkbdjphdhcgmaaaGreatDoor

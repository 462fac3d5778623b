/- Contracts of functions, written by wip/dec. -/
import Derived.Test.YtofkgmldcjagmaaGreatDoorF00
import Derived.Test.YtofkgmldcjagmaaGreatDoorF02
import Derived.Test.YtofkgmldcjagmaaGreatDoorF05
import Derived.Test.YtofkgmldcjagmaaGreatDoorF11
import Derived.Test.YtofkgmldcjagmaaGreatDoorF12
import Derived.Test.YtofkgmldcjagmaaGreatDoorF23
set_option linter.unusedVariables false
set_option linter.unusedSimpArgs false
set_option linter.constructorNameAsVariable false
set_option maxHeartbeats 4000000
set_option maxRecDepth 20000
namespace Go.Proofs.YtofkgmldcjagmaaGreatDoor
open Go.dJ
def r5 (x0 x1:Int) (x2:au) (x3:aj) (x4 x5:aZ) (x6:au) (x7 x8:Int) (a1:au):Option (Bool):=
 (r6).bind fun v1=>
  if (!v1)=true then
   some false
   else (r7 x0 x1 x2 x3 x4 x5 x6 x7 x8).bind fun v2=>
    if (((!v2) || ((decide ((a1.length:Int)>30)) && (decide ((a1.length:Int)≤200)))) || (decide ((a1.length:Int)>202)))=true then
     some true
     else (r9 x0 x1 x2 x3 x4 x5 x6 x7 x8).bind fun v3=>
      (r20 v3.1 v3.2.1 v3.2.2.1 v3.2.2.2.1 v3.2.2.2.2.1 v3.2.2.2.2.2.1 v3.2.2.2.2.2.2.1 v3.2.2.2.2.2.2.2.1 v3.2.2.2.2.2.2.2.2).bind fun v4=>
       (r10 a1).bind fun v5=>
        (r21 v3.1 v3.2.1 v3.2.2.1 v3.2.2.2.1 v3.2.2.2.2.1 v3.2.2.2.2.2.1 v3.2.2.2.2.2.2.1 v3.2.2.2.2.2.2.2.1 v3.2.2.2.2.2.2.2.2 v5).bind fun v6=>
         (r17 v3.1 v3.2.1 v3.2.2.1 v3.2.2.2.1 v3.2.2.2.2.1 v3.2.2.2.2.2.1 v3.2.2.2.2.2.2.1 v3.2.2.2.2.2.2.2.1 v3.2.2.2.2.2.2.2.2 v5).bind fun v7=>
          (r22 x0 x1 x2 x3 x4 x5 x6 x7 x8).bind fun v8=>
           if ((v4.2 != v8.2) || (v4.1 != v8.1))=true then
            some false
            else if (v8.2 == 0)=true then
             (r12 x0 x1 x2 x3 x4 x5 x6 x7 x8 a1).bind fun v9=>
              if (v9 != 0)=true then
               some (((v6.2 == v9) && (v7.2 == v9)) && ((IntKind.i64.wrap ((v6.1.length:Int)+(v7.1.length:Int))) == 0))
               else if (!(v6.2 != 0))=true→(Yz x0 x1 x2 x3 x4 x5 x6 x7 x8 a1).isSome=true then
                if (!(v6.2 != 0))=true→(r23 v6.1 ((Yz x0 x1 x2 x3 x4 x5 x6 x7 x8 a1).getD default)).isSome=true then
                 if ((v6.2 != 0) || (!((r23 v6.1 ((Yz x0 x1 x2 x3 x4 x5 x6 x7 x8 a1).getD default)).getD default)))=true then
                  some false
                  else (r25 x0 x1 x2 x3 x4 x5 x6 x7 x8 a1).bind fun v10=>
                   if (v10.2 && (v7.2 == 0))=true→(r26 v7.1 v10.1).isSome=true then
                    some (((v10.2 && (v7.2 == 0)) && ((r26 v7.1 v10.1).getD default)) || (((!v10.2) && (v7.2 == 22)) && ((v7.1.length:Int) == 0)))
                    else none
                 else none
                else none
             else if (v8.2 != 0)=true then
              some (((v6.2 == v8.2) && (v7.2 == v8.2)) && ((IntKind.i64.wrap ((v6.1.length:Int)+(v7.1.length:Int))) == 0))
              else if (!(v6.2 != 0))=true→(Yz x0 x1 x2 x3 x4 x5 x6 x7 x8 a1).isSome=true then
               if (!(v6.2 != 0))=true→(r23 v6.1 ((Yz x0 x1 x2 x3 x4 x5 x6 x7 x8 a1).getD default)).isSome=true then
                if ((v6.2 != 0) || (!((r23 v6.1 ((Yz x0 x1 x2 x3 x4 x5 x6 x7 x8 a1).getD default)).getD default)))=true then
                 some false
                 else (r25 x0 x1 x2 x3 x4 x5 x6 x7 x8 a1).bind fun v14=>
                  if (v14.2 && (v7.2 == 0))=true→(r26 v7.1 v14.1).isSome=true then
                   some (((v14.2 && (v7.2 == 0)) && ((r26 v7.1 v14.1).getD default)) || (((!v14.2) && (v7.2 == 22)) && ((v7.1.length:Int) == 0)))
                   else none
                else none
               else none
@[go_sem] def T5:=BJ qj false r5
@[go_sem] def tb5 (k:Nat):=lk [(6,T6.sp),(7,T7.sp),(9,T9.sp),(10,T10.sp),(12,T12.sp),(17,T17.sp),(20,T20.sp),(21,T21.sp),(22,T22.sp),(23,T23.sp),(24,T24.sp),(25,T25.sp),(26,T26.sp)] k
theorem f5:aF Tryz.prog 5 T5.sp:=by
 refine vm (tb:=tb5) (.cons f6 (.cons f7 (.cons f9 (.cons f10 (.cons f12 (.cons f17 (.cons f20 (.cons f21 (.cons f22 (.cons f23 (.cons f24 (.cons f25 (.cons f26 .nil))))))))))))) Tryz.func5 Tryz.ntmps5 fun ⟨x0,x1,x2,x3,x4,x5,x6,x7,x8,a1⟩ r hr stop S=> ?_
 rw [xU,r5] at hr
 refine S.gx [7,10,14,15] ?_
 obtain ⟨v1,hv1,hr⟩:=aA hr
 refine gb hv1 ?_
 refine iW hr (fun hc hr=>D0 hr) fun hc hr=> ?_
 obtain ⟨v2,hv2,hr⟩:=aA hr
 try simp only [hv2,oG,oI,true_and,and_assoc]
 repeat (first | refine gA ?_ | refine gB ?_)
 refine iW hr (fun hc hr=>D0 hr) fun hc hr=> ?_
 obtain ⟨v3,hv3,hr⟩:=aA hr
 obtain ⟨v4,hv4,hr⟩:=aA hr
 obtain ⟨v5,hv5,hr⟩:=aA hr
 obtain ⟨v6,hv6,hr⟩:=aA hr
 refine gb hv3 ?_
 refine gb hv4 ?_
 refine gb hv5 ?_
 refine gb hv6 ?_
 refine S.prune [1,2,5,6,7,8] ?_
 refine S.gx [10,14,15] ?_
 obtain ⟨v7,hv7,hr⟩:=aA hr
 refine gb hv3 ?_
 refine gb hv5 ?_
 refine gb hv7 ?_
 obtain ⟨v8,OY,hr⟩:=aA hr
 try simp only [OY,oG,oI,true_and,and_assoc]
 repeat (first | refine gA ?_ | refine gB ?_)
 refine iW hr (fun hc hr=> ?_) fun hc hr=> ?_
 ·refine gr ?_
  refine S.prune [] ?_
  refine S.gx [7,14,15] ?_
  exact D0 hr
 ·refine gr ?_
  refine iW hr (fun hc hr=> ?_) fun hc hr=> ?_
  ·obtain ⟨v9,hv9,hr⟩:=aA hr
   refine gb hv9 ?_
   refine iW hr (fun hc hr=> ?_) fun hc hr=> ?_
   ·refine gr ?_
    refine S.prune [7,8,9,10,12] ?_
    refine S.gx [7,10,15] ?_
    repeat (first | refine gA ?_ | refine gB ?_)
    exact D0 hr
   ·refine gr ?_
    refine S.prune [1,2,7,8,9,10] ?_
    refine S.gx [7,10,14] ?_
    obtain ⟨CP,hr⟩:=aH hr
    obtain ⟨IE,hr⟩:=aH hr
    repeat (first | refine gG CP ?_ | refine gG IE ?_ | refine gA ?_ | refine gB ?_)
    refine gr ?_
    refine iW hr (fun hc hr=>D0 hr) fun hc hr=> ?_
    obtain ⟨v10,yF,hr⟩:=aA hr
    obtain ⟨CQ,hr⟩:=aH hr
    try simp only [yF,oG,oI,true_and,and_assoc]
    repeat (first | refine gG CQ ?_ | refine gA ?_ | refine gB ?_)
    exact D0 hr
  ·refine gr ?_
   refine iW hr (fun hc hr=> ?_) fun hc hr=> ?_
   ·refine gr ?_
    refine S.prune [7,8,9,10,12] ?_
    refine S.gx [7,10,15] ?_
    repeat (first | refine gA ?_ | refine gB ?_)
    exact D0 hr
   ·refine gr ?_
    refine S.prune [1,2,7,8,9,10] ?_
    refine S.gx [7,10,14] ?_
    obtain ⟨asX,hr⟩:=aH hr
    obtain ⟨aiQ,hr⟩:=aH hr
    repeat (first | refine gG asX ?_ | refine gG aiQ ?_ | refine gA ?_ | refine gB ?_)
    refine gr ?_
    refine iW hr (fun hc hr=>D0 hr) fun hc hr=> ?_
    obtain ⟨v14,ZV,hr⟩:=aA hr
    obtain ⟨Pg,hr⟩:=aH hr
    try simp only [ZV,oG,oI,true_and,and_assoc]
    repeat (first | refine gG Pg ?_ | refine gA ?_ | refine gB ?_)
    exact D0 hr
end Go.Proofs.YtofkgmldcjagmaaGreatDoor

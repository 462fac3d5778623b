/- Contracts of functions, written by wip/dec. -/
import Derived.Test.YtofkgmldcjagmaaGreatDoorF00
import Derived.Test.YtofkgmldcjagmaaGreatDoorF05
import Derived.Test.YtofkgmldcjagmaaGreatDoorF11
import Derived.Test.YtofkgmldcjagmaaGreatDoorF12
import Derived.Test.YtofkgmldcjagmaaGreatDoorF13
import Derived.Test.YtofkgmldcjagmaaGreatDoorF14
set_option linter.unusedVariables false
set_option linter.unusedSimpArgs false
set_option linter.constructorNameAsVariable false
set_option maxHeartbeats 4000000
set_option maxRecDepth 20000
namespace Go.Proofs.YtofkgmldcjagmaaGreatDoor
open Go.Abs
def r3 (x1 x2:Int) (x3:L_II) (x4:L_LIIE) (x5 x6:L_I) (x7:L_II) (x8 x9:Int) (a1:L_II) (x0 x10 x11:Int):Option (Bool):=
 (r6).bind fun v1=>
  if (!v1)=true then
   some false
   else (r7 x1 x2 x3 x4 x5 x6 x7 x8 x9).bind fun v2=>
    if ((!v2) || (decide ((a1.length:Int)>30)))=true then
     some true
     else (r9 x1 x2 x3 x4 x5 x6 x7 x8 x9).bind fun v3=>
      (r10 a1).bind fun v4=>
       (r8 v3.1 v3.2.1 v3.2.2.1 v3.2.2.2.1 v3.2.2.2.2.1 v3.2.2.2.2.2.1 v3.2.2.2.2.2.2.1 v3.2.2.2.2.2.2.2.1 v3.2.2.2.2.2.2.2.2 v4 x0 x10 x11).bind fun v5=>
        (r11 x1 x2 x3 x4 x5 x6 x7 x8 x9).bind fun v6=>
         if (v6 == 0)=true then
          (r12 x1 x2 x3 x4 x5 x6 x7 x8 x9 a1).bind fun v7=>
           if (v7 == 0)=true then
            (r13 a1 x0 x10 x11).bind fun v8=>
             if (v8 != 0)=true then
              some (((v5.2.2 == v8) && ((v5.1.length:Int) == 0)) && (!v5.2.1))
              else (r14 x1 x2 x3 x4 x5 x6 x7 x8 x9 a1 x0 x10 x11).bind fun v9=>
               if (v5.2.2 == v9.2)=true→(r15 v5.1 v9.1).isSome=true then
                some (((v5.2.2 == v9.2) && ((r15 v5.1 v9.1).getD default)) && (((v9.2 == 0) && (v5.2.1 == (decide (x0<(a1.length:Int))))) || ((v9.2 != 0) && (!v5.2.1))))
                else none
            else if (v7 != 0)=true then
             some (((v5.2.2 == v7) && ((v5.1.length:Int) == 0)) && (!v5.2.1))
             else (r14 x1 x2 x3 x4 x5 x6 x7 x8 x9 a1 x0 x10 x11).bind fun v11=>
              if (v5.2.2 == v11.2)=true→(r15 v5.1 v11.1).isSome=true then
               some (((v5.2.2 == v11.2) && ((r15 v5.1 v11.1).getD default)) && (((v11.2 == 0) && (v5.2.1 == (decide (x0<(a1.length:Int))))) || ((v11.2 != 0) && (!v5.2.1))))
               else none
          else if (v6 == 0)=true then
           (r13 a1 x0 x10 x11).bind fun v13=>
            if (v13 != 0)=true then
             some (((v5.2.2 == v13) && ((v5.1.length:Int) == 0)) && (!v5.2.1))
             else (r14 x1 x2 x3 x4 x5 x6 x7 x8 x9 a1 x0 x10 x11).bind fun v14=>
              if (v5.2.2 == v14.2)=true→(r15 v5.1 v14.1).isSome=true then
               some (((v5.2.2 == v14.2) && ((r15 v5.1 v14.1).getD default)) && (((v14.2 == 0) && (v5.2.1 == (decide (x0<(a1.length:Int))))) || ((v14.2 != 0) && (!v5.2.1))))
               else none
           else if (v6 != 0)=true then
            some (((v5.2.2 == v6) && ((v5.1.length:Int) == 0)) && (!v5.2.1))
            else (r14 x1 x2 x3 x4 x5 x6 x7 x8 x9 a1 x0 x10 x11).bind fun v16=>
             if (v5.2.2 == v16.2)=true→(r15 v5.1 v16.1).isSome=true then
              some (((v5.2.2 == v16.2) && ((r15 v5.1 v16.1).getD default)) && (((v16.2 == 0) && (v5.2.1 == (decide (x0<(a1.length:Int))))) || ((v16.2 != 0) && (!v5.2.1))))
              else none
@[go_sem] def T3:=qT75 qu2 false r3
@[go_sem] def tb3 (k:Nat):=lk [(6,T6.sp),(7,T7.sp),(8,T8.sp),(9,T9.sp),(10,T10.sp),(11,T11.sp),(12,T12.sp),(13,T13.sp),(14,T14.sp),(15,T15.sp)] k
theorem f3:FnFact Tryz.prog 3 T3.sp:=by
 refine vm (tb:=tb3) (.cons f6 (.cons f7 (.cons f8 (.cons f9 (.cons f10 (.cons f11 (.cons f12 (.cons f13 (.cons f14 (.cons f15 .nil)))))))))) Tryz.func3 Tryz.ntmps3 fun ⟨x1,x2,x3,x4,x5,x6,x7,x8,x9,a1,x0,x10,x11⟩ r hr stop S=> ?_
 rw [uq13,r3] at hr
 refine S.gx [9] ?_
 obtain ⟨v1,hv1,hr⟩:=of_bind0 hr
 refine gb hv1 ?_
 refine iW hr (fun hc hr=>D0 hr) fun hc hr=> ?_
 obtain ⟨v2,hv2,hr⟩:=of_bind0 hr
 try simp only [hv2,oG,oI,true_and,and_assoc]
 repeat (first | refine gA ?_ | refine gB ?_)
 refine iW hr (fun hc hr=>D0 hr) fun hc hr=> ?_
 obtain ⟨v3,hv3,hr⟩:=of_bind0 hr
 obtain ⟨v4,hv4,hr⟩:=of_bind0 hr
 obtain ⟨v5,hv5,hr⟩:=of_bind0 hr
 obtain ⟨v6,hv6,hr⟩:=of_bind0 hr
 refine gb hv3 ?_
 refine gb hv4 ?_
 refine gb hv5 ?_
 refine gb hv6 ?_
 refine iW hr (fun hc hr=> ?_) fun hc hr=> ?_
 ·obtain ⟨v7,hv7,hr⟩:=of_bind0 hr
  refine gb hv7 ?_
  refine S.prune [1,3,5,7,8,9,10] ?_
  refine S.gx [] ?_
  refine gr ?_
  refine gr ?_
  refine iW hr (fun hc hr=> ?_) fun hc hr=> ?_
  ·obtain ⟨v8,hv8,hr⟩:=of_bind0 hr
   refine gb hv8 ?_
   refine iW hr (fun hc hr=> ?_) fun hc hr=> ?_
   ·repeat (first | refine gA ?_ | refine gB ?_)
    exact D0 hr
   ·obtain ⟨v9,hv9,hr⟩:=of_bind0 hr
    obtain ⟨hg10,hr⟩:=of_guard0 hr
    try simp only [hv9,oG,oI,true_and,and_assoc]
    repeat (first | refine gG hg10 ?_ | refine gA ?_ | refine gB ?_)
    exact D0 hr
  ·refine gr ?_
   refine iW hr (fun hc hr=> ?_) fun hc hr=> ?_
   ·repeat (first | refine gA ?_ | refine gB ?_)
    exact D0 hr
   ·obtain ⟨v11,hv11,hr⟩:=of_bind0 hr
    obtain ⟨hg12,hr⟩:=of_guard0 hr
    try simp only [hv11,oG,oI,true_and,and_assoc]
    repeat (first | refine gG hg12 ?_ | refine gA ?_ | refine gB ?_)
    exact D0 hr
 ·refine gr ?_
  refine S.prune [1,3,5,7,8,9,10] ?_
  refine S.gx [] ?_
  refine gr ?_
  refine gr ?_
  refine iW hr (fun hc hr=> ?_) fun hc hr=> ?_
  ·obtain ⟨v13,hv13,hr⟩:=of_bind0 hr
   refine gb hv13 ?_
   refine iW hr (fun hc hr=> ?_) fun hc hr=> ?_
   ·repeat (first | refine gA ?_ | refine gB ?_)
    exact D0 hr
   ·obtain ⟨v14,hv14,hr⟩:=of_bind0 hr
    obtain ⟨hg15,hr⟩:=of_guard0 hr
    try simp only [hv14,oG,oI,true_and,and_assoc]
    repeat (first | refine gG hg15 ?_ | refine gA ?_ | refine gB ?_)
    exact D0 hr
  ·refine gr ?_
   refine iW hr (fun hc hr=> ?_) fun hc hr=> ?_
   ·repeat (first | refine gA ?_ | refine gB ?_)
    exact D0 hr
   ·obtain ⟨v16,hv16,hr⟩:=of_bind0 hr
    obtain ⟨hg17,hr⟩:=of_guard0 hr
    try simp only [hv16,oG,oI,true_and,and_assoc]
    repeat (first | refine gG hg17 ?_ | refine gA ?_ | refine gB ?_)
    exact D0 hr
end Go.Proofs.YtofkgmldcjagmaaGreatDoor

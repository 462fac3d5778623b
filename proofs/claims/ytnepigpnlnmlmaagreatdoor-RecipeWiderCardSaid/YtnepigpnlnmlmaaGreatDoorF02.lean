/- Contracts of functions, written by wip/dec. -/
import Derived.Test.YtnepigpnlnmlmaaGreatDoorF00
import Derived.Test.YtnepigpnlnmlmaaGreatDoorF01
set_option linter.unusedVariables false
set_option linter.unusedSimpArgs false
set_option linter.constructorNameAsVariable false
set_option maxHeartbeats 4000000
set_option maxRecDepth 20000
namespace Go.Proofs.YtnepigpnlnmlmaaGreatDoor
open Tryz Go.dR
section
variable {β:Type} [Inhabited β] (u:β->List RV) (al:Bool)
def ar7 (a0:aV) (a1 a2:Int) (a3:aA) (a4:au) (a5:aA) (a6:au):List Arg:=[.c (aj 1 dh a0),.clo 274 [[.int .i64 a1,.int .i64 a2,aj 2 aQ a3,aj 1 aU a4,aj 2 aQ a5,aj 1 aU a6]]]
def atN:List Arg->aV×Int×Int×aA×au×aA×au
 | [.c c0,.clo _ [[c1,c2,c3,c4,c5,c6]]]=>(aN kV c0,aC c1,aC c2,aN bZ c3,aN bW c4,aN bZ c5,aN bW c6)
 | _=>default
def auM (r:aV->Int->Int->aA->au->aA->au->Option β):=mkT (u7 ar7) atN (u7 r) u al
attribute [go_sem] ar7 atN auM
def ar6 (a0 a1:Int) (a2:aA) (a3:au) (a4:aA) (a5:au) (a6:aV):List Arg:=[.agg [.int .i64 a0,.int .i64 a1,aj 2 aQ a2,aj 1 aU a3,aj 2 aQ a4,aj 1 aU a5],.c (aj 1 dh a6)]
def atM:List Arg->Int×Int×aA×au×aA×au×aV
 | [.agg [c0,c1,c2,c3,c4,c5],.c c6]=>(aC c0,aC c1,aN bZ c2,aN bW c3,aN bZ c4,aN bW c5,aN kV c6)
 | _=>default
def auL (r:Int->Int->aA->au->aA->au->aV->Option β):=mkT (u7 ar6) atM (u7 r) u al
attribute [go_sem] ar6 atM auL
def ar5 (a0 a1:Int) (a2:aA) (a3:au) (a4:aA) (a5:au) (a6 a7:aV):List Arg:=[.agg [.int .i64 a0,.int .i64 a1,aj 2 aQ a2,aj 1 aU a3,aj 2 aQ a4,aj 1 aU a5],.agg [aj 1 dh a6,aj 1 dh a7]]
def atL:List Arg->Int×Int×aA×au×aA×au×aV×aV
 | [.agg [c0,c1,c2,c3,c4,c5],.agg [c6,c7]]=>(aC c0,aC c1,aN bZ c2,aN bW c3,aN bZ c4,aN bW c5,aN kV c6,aN kV c7)
 | _=>default
def auK (r:Int->Int->aA->au->aA->au->aV->aV->Option β):=mkT (u8 ar5) atL (u8 r) u al
attribute [go_sem] ar5 atL auK
end
def Cj (a0:aA):Bd ((List (Int×Int))×Int) aA:=λs1=>
 if (decide (s1.2<(a0.length:Int)))=true then
  if 0<=s1.2/\s1.2<(a0.length:Int) then
   if (s1.1.length+1)*16<=140737488355328/\s1.1.length+1<=9223372036854775807 then
    .next (s1.1++[((a0.getD s1.2.toNat default).1,(a0.getD s1.2.toNat default).2)],IntKind.i64.wrap (s1.2+1))
    else .out none
   else .out none
  else .out (some s1.1)
def abM (a0:aA):Option (aA):=
 aK (Cj a0) 1000000000 ([],0)
@[go_sem] def axW:=qT5 qu5 false abM
theorem f253:aF prog 253 axW.sp:=by
 refine vm .nil func253 ntmps253 λa0 r hr stop S=> ?_
 rw [sQ,abM] at hr
 refine S.gx [] ?_
 refine gr ?_
 refine S.Ug 3 1000300 2 rfl rfl ?_
 refine S.li [3,6,7,8] [] [(1000300,1000300)] (λs1=>⟨[sO 3 1000300,(6,.c (.d (aj 2 aQ a0))),sI 7 (a0.length:Int),sI 8 s1.2],[],[(1000300,.owned (aj 2 aQ s1.1))]⟩) (Cj a0) (λq=>q=r) hr rfl ?_
 intro s1 hr
 unfold Cj at hr
 refine S.gx [] ?_
 exact D1 (S.ss [3,6,7,8] [] [(19,1000300)]) hr
def CP (x2 x3:Int) (x1:aA) (x0:au) (v2:aA):Bd (Int×(List (aA))) (Int×Int×aA×au×aA×au×Int):=λs1=>
 if (decide (s1.1<(x0.length:Int)))=true then
  if 0<=s1.1/\s1.1<(x0.length:Int) then
   aW (MJ (x0.getD s1.1.toNat default)) λv3=>
    if (s1.2.length+1)*24<=140737488355328/\s1.2.length+1<=9223372036854775807 then
     .next (IntKind.i64.wrap (s1.1+1),s1.2++[v3])
     else .out none
   else .out none
  else .out (some (x2,x3,x1,x0,v2,s1.2,0))
def PG (x2 x3:Int) (x1:aA) (x0:au):Option (Int×Int×aA×au×aA×au×Int):=
 (Zk x2 x3 x1 x0).bind λv1=>
  if (v1.2 != 0)=true then
   some (0,0,[],[],[],[],v1.2)
   else (abM x1).bind λv2=>
    aK (CP x2 x3 x1 x0 v2) 1000000000 (0,[])
@[go_sem] def afh:=Zp qu8 true PG
@[go_sem] def aqc (k:Nat):=lk [(135,amJ.sp),(250,amy.sp),(253,axW.sp)] k
theorem f193:aF prog 193 afh.sp:=by
 refine vm (tb:=aqc) (.cons f135 (.cons f250 (.cons f253 .nil))) func193 ntmps193 λ⟨x2,x3,x1,x0⟩ r hr stop S=> ?_
 rw [uq4,PG] at hr
 refine S.gx [] ?_
 obtain ⟨v1,hv1,hr⟩:=aB hr
 refine gb hv1 ?_
 refine iW hr (λhc hr=>D0 hr) λhc hr=> ?_
 obtain ⟨v2,hv2,hr⟩:=aB hr
 refine gb hv2 ?_
 refine S.uI 6 5 2000605 1 rfl rfl (nL rfl) rfl ?_
 refine S.li [2,6,24,25,26] [(2,2),(6,6)] [(2000605,2000605),(21,21)] (λs1=>⟨[sR 2 2,sR 6 6,(24,.c (.d (aj 1 aU x0))),sI 25 (x0.length:Int),sI 26 s1.1],[(2,[iC 0,iC 0,.dF,.dF,.dF,.dF]),(6,[iC x2,iC x3,.d (aj 2 aQ x1),.d (aj 1 aU x0),.own 21,.own 2000605])],[(2000605,.owned (aj 1 aU s1.2)),(21,.owned (aj 2 aQ v2))]⟩) (CP x2 x3 x1 x0 v2) (λq=>q=r) hr rfl ?_
 intro s1 hr
 unfold CP at hr
 refine S.gx [] ?_
 exact D1 (S.ss [2,6,24,25,26] [(2,2),(6,6)] [(35,2000605),(21,21)]) hr
def TV (x1 x2:Int) (x3:aA) (x4:au) (x0:aA) (x5:au) (a1:Int):Option (Bool):=
 if 0<=0/\0<(x0.length:Int) then
  if 0<=IntKind.i64.wrap ((x0.length:Int) - 1)/\IntKind.i64.wrap ((x0.length:Int) - 1)<(x0.length:Int) then
   (Bh a1 ((x0.getD 0 default).1) ((x0.getD (IntKind.i64.wrap ((x0.length:Int) - 1)).toNat default).1)).bind λv1=>
    some v1
   else none
  else none
@[go_sem] def ah3:=agF qV false TV
@[go_sem] def apU (k:Nat):=lk [(190,RI.sp)] k
theorem f223:aF prog 223 ah3.sp:=by
 refine vm (tb:=apU) (.cons f190 .nil) func223 ntmps223 λ⟨x1,x2,x3,x4,x0,x5,a1⟩ r hr stop S=> ?_
 rw [OJ,TV] at hr
 refine S.gx [] ?_
 exact D0 hr
def agq (a0 x0 x1:Int) (x2:aA) (x3:au) (x4:aA) (x5:au):Option (Bool):=
 (TV x0 x1 x2 x3 x4 x5 a0).bind λv1=>
  some (!v1)
@[go_sem] def axL:=akO qV false agq
@[go_sem] def apG (k:Nat):=lk [(223,ah3.sp)] k
theorem f274:aF prog 274 axL.sp:=by
 refine vm (tb:=apG) (.cons f223 .nil) func274 ntmps274 λ⟨a0,x0,x1,x2,x3,x4,x5⟩ r hr stop S=> ?_
 rw [OJ,agq] at hr
 refine S.gx [] ?_
 exact D0 hr
def CO (a0:aV) (x0 x1:Int) (x2:aA) (x3:au) (x4:aA) (x5:au):Bd Int Int:=λs1=>
 if (decide (s1<(a0.length:Int)))=true then
  if 0<=s1/\s1<(a0.length:Int) then
   aW (agq (a0.getD s1.toNat default) x0 x1 x2 x3 x4 x5) λv1=>
    if v1=true then
     .out (some s1)
     else .next (IntKind.i64.wrap (s1+1))
   else .out none
  else .out (some (-1))
def agt (a0:aV) (x0 x1:Int) (x2:aA) (x3:au) (x4:aA) (x5:au):Option (Int):=
 aK (CO a0 x0 x1 x2 x3 x4 x5) 1000000000 0
@[go_sem] def ayo:=auM mY false agt
@[go_sem] def ap' (k:Nat):=lk [(274,axL.sp)] k
theorem f197:aF prog 197 ayo.sp:=by
 refine vm (tb:=ap') (.cons f274 .nil) func197 ntmps197 λ⟨a0,x0,x1,x2,x3,x4,x5⟩ r hr stop S=> ?_
 rw [OJ,agt] at hr
 refine S.gx [] ?_
 refine gr ?_
 refine S.li [0,1,7,8] [] [] (λs1=>⟨[(0,.c (.d (aj 1 dh a0))),(1,.c (.clo 274 [.dM [.int .i64 x0,.int .i64 x1,aj 2 aQ x2,aj 1 aU x3,aj 2 aQ x4,aj 1 aU x5] 0])),sI 7 (a0.length:Int),sI 8 s1],[],[]⟩) (CO a0 x0 x1 x2 x3 x4 x5) (λq=>q=r) hr rfl ?_
 intro s1 hr
 unfold CO at hr
 refine S.gx [] ?_
 exact D1 (S.ss [0,1,7,8] [] []) hr
def TW (x0 x1:Int) (x2:aA) (x3:au) (x4:aA) (x5:au) (a1:aV):Option (Int×Int):=
 if ((a1.length:Int) != x0)=true then
  some (0,10)
  else (agt a1 x0 x1 x2 x3 x4 x5).bind λv1=>
   if (decide (v1>=0))=true then
    some (v1,2)
    else some (0,0)
@[go_sem] def amC:=auL JM false TW
@[go_sem] def apY (k:Nat):=lk [(197,ayo.sp)] k
theorem f215:aF prog 215 amC.sp:=by
 refine vm (tb:=apY) (.cons f197 .nil) func215 ntmps215 λ⟨x0,x1,x2,x3,x4,x5,a1⟩ r hr stop S=> ?_
 rw [OJ,TW] at hr
 refine S.gx [] ?_
 exact D0 hr
def Iw (x0 x1:aV):Bd Int (Int×Int):=λs1=>
 if (decide (s1<(x0.length:Int)))=true then
  if 0<=s1/\s1<(x0.length:Int) then
   if 0<=s1/\s1<(x1.length:Int) then
    if (decide ((x0.getD s1.toNat default)>(x1.getD s1.toNat default)))=true then
     .out (some (s1,9))
     else .next (IntKind.i64.wrap (s1+1))
    else .out none
   else .out none
  else .out (some (0,0))
def Zh (x2 x3:Int) (x4:aA) (x5:au) (x6:aA) (x7:au) (x0 x1:aV):Option (Int×Int):=
 (TW x2 x3 x4 x5 x6 x7 x0).bind λv1=>
  if (v1.2 != 0)=true then
   some (v1.1,v1.2)
   else (TW x2 x3 x4 x5 x6 x7 x1).bind λv2=>
    if (v2.2 != 0)=true then
     some (v2.1,v2.2)
     else aK (Iw x0 x1) 1000000000 0
@[go_sem] def amE:=auK JM false Zh
@[go_sem] def aqb (k:Nat):=lk [(215,amC.sp)] k
theorem f194:aF prog 194 amE.sp:=by
 refine vm (tb:=aqb) (.cons f215 .nil) func194 ntmps194 λ⟨x2,x3,x4,x5,x6,x7,x0,x1⟩ r hr stop S=> ?_
 rw [uq8,Zh] at hr
 refine S.gx [] ?_
 obtain ⟨v1,hv1,hr⟩:=aB hr
 refine gb hv1 ?_
 refine iW hr (λhc hr=>D0 hr) λhc hr=> ?_
 obtain ⟨v2,hv2,hr⟩:=aB hr
 refine gb hv2 ?_
 refine iW hr (λhc hr=>D0 hr) λhc hr=> ?_
 refine gr ?_
 refine S.li [3,35,36,37] [(3,3)] [] (λs1=>⟨[sR 3 3,(35,.c (.d (aj 1 dh x0))),sI 36 (x0.length:Int),sI 37 s1],[(3,[.d (aj 1 dh x0),.d (aj 1 dh x1)])],[]⟩) (Iw x0 x1) (λq=>q=r) hr rfl ?_
 intro s1 hr
 unfold Iw at hr
 refine S.gx [] ?_
 exact D1 (S.ss [3,35,36,37] [(3,3)] []) hr
def acn (x0 x1:Int) (x2:aA) (x3:au) (x4 x5:aV):Option (Int×Int):=
 (PG x0 x1 x2 x3).bind λv1=>
  if (v1.2.2.2.2.2.2 != 0)=true then
   some (0,v1.2.2.2.2.2.2)
   else (Zh v1.1 v1.2.1 v1.2.2.1 v1.2.2.2.1 v1.2.2.2.2.1 v1.2.2.2.2.2.1 x4 x5).bind λv2=>
    some (v2.1,v2.2)
@[go_sem] def ayO:=acw JM false acn
@[go_sem] def aqy (k:Nat):=lk [(193,afh.sp),(194,amE.sp)] k
theorem f136:aF prog 136 ayO.sp:=by
 refine vm (tb:=aqy) (.cons f193 (.cons f194 .nil)) func136 ntmps136 λ⟨x0,x1,x2,x3,x4,x5⟩ r hr stop S=> ?_
 rw [uq6,acn] at hr
 refine S.gx [] ?_
 exact D0 hr
def xu (a0:Bool) (a1:Int):Option (Int):=
 if a0=true then
  some 0
  else some a1
@[go_sem] def T65:=qT2 mY false xu
theorem f65:aF prog 65 T65.sp:=by
 refine vm .nil func65 ntmps65 λ⟨a0,a1⟩ r hr stop S=> ?_
 rw [DV,xu] at hr
 refine S.gx [] ?_
 exact D0 hr
def KX (a0:aV):Bd Int Int:=λs1=>
 if (decide (s1<(a0.length:Int)))=true then
  if 0<=s1/\s1<(a0.length:Int) then
   if ((a0.getD s1.toNat default) != 0)=true then
    .out (some (a0.getD s1.toNat default))
    else .next (IntKind.i64.wrap (s1+1))
   else .out none
  else .out (some 0)
def r64 (a0:aV):Option (Int):=
 aK (KX a0) 1000000000 0
@[go_sem] def T64:=qT3 mY false r64
theorem f64:aF prog 64 T64.sp:=by
 refine vm .nil func64 ntmps64 λa0 r hr stop S=> ?_
 rw [sQ,r64] at hr
 refine S.gx [] ?_
 refine gr ?_
 refine S.li [5,6,7] [] [] (λs1=>⟨[(5,.c (.d (aj 1 dh a0))),sI 6 (a0.length:Int),sI 7 s1],[],[]⟩) (KX a0) (λq=>q=r) hr rfl ?_
 intro s1 hr
 unfold KX at hr
 refine S.gx [] ?_
 exact D1 (S.ss [5,6,7] [] []) hr
def IL (a0 a1 a2:Int):Option (Bool):=
 some ((decide (a1<=a0)) && (decide (a0<=a2)))
@[go_sem] def T71:=qT1 qV false IL
theorem f71:aF prog 71 T71.sp:=by
 refine vm .nil func71 ntmps71 λ⟨a0,a1,a2⟩ r hr stop S=> ?_
 rw [uq3,IL] at hr
 refine S.gx [] ?_
 repeat (first | refine gA ?_ | refine gB ?_)
 exact D0 hr
def Jc (a0:Int):Option (Bool):=
 (IL a0 0 1000).bind λv1=>
  some v1
@[go_sem] def ayN:=OC qV false Jc
@[go_sem] def aqx (k:Nat):=lk [(71,T71.sp)] k
theorem f137:aF prog 137 ayN.sp:=by
 refine vm (tb:=aqx) (.cons f71 .nil) func137 ntmps137 λa0 r hr stop S=> ?_
 rw [sQ,Jc] at hr
 refine S.gx [] ?_
 exact D0 hr
def KU (x1:au) (x0:aA) (x2 x3:Int):Bd Int (Int×Int):=λs1=>
 if (decide (s1<(x0.length:Int)))=true then
  if 0<=s1/\s1<(x0.length:Int) then
   aW (Jc ((x0.getD s1.toNat default).1)) λv5=>
    if v5=true->(Jc ((x0.getD s1.toNat default).2)).isSome=true then
     aW (xu (v5 && ((Jc ((x0.getD s1.toNat default).2)).getD default)) 2) λv6=>
      aW (xu (decide (((x0.getD s1.toNat default).1)<=((x0.getD s1.toNat default).2))) 9) λv7=>
       aW (r64 [v6,v7]) λv8=>
        if (v8 != 0)=true then
         .out (some (s1,v8))
         else .next (IntKind.i64.wrap (s1+1))
     else .out none
   else .out none
  else .out ((IL x2 0 (IntKind.i64.wrap ((x1.length:Int) - 1))).bind λv11=>
   (xu v11 6).bind λv12=>
    (IL x3 0 4).bind λv13=>
     (xu v13 2).bind λv14=>
      (r64 [v12,v14]).bind λv15=>
       some (0,v15))
def r79 (x4 x5:Int) (x6:aA) (x1:au) (x7 x8:aV) (x0:aA) (x2 x3:Int):Option (Int×Int):=
 (Zk x4 x5 x6 x1).bind λv1=>
  (acn x4 x5 x6 x1 x7 x8).bind λv2=>
   (xu ((x0.length:Int) == x4) 10).bind λv3=>
    (r64 [v1.2,v2.2,v3]).bind λv4=>
     if (v4 != 0)=true then
      some (0,v4)
      else aK (KU x1 x0 x2 x3) 1000000000 0
@[go_sem] def T79:=PO JM false r79
@[go_sem] def aB3 (k:Nat):=lk [(64,T64.sp),(65,T65.sp),(71,T71.sp),(135,amJ.sp),(136,ayO.sp),(137,ayN.sp)] k
theorem f79:aF prog 79 T79.sp:=by
 refine vm (tb:=aB3) (.cons f64 (.cons f65 (.cons f71 (.cons f135 (.cons f136 (.cons f137 .nil)))))) func79 ntmps79 λ⟨x4,x5,x6,x1,x7,x8,x0,x2,x3⟩ r hr stop S=> ?_
 rw [RY,r79] at hr
 refine S.gx [4,12] ?_
 obtain ⟨v1,hv1,hr⟩:=aB hr
 obtain ⟨v2,hv2,hr⟩:=aB hr
 obtain ⟨v3,hv3,hr⟩:=aB hr
 obtain ⟨v4,hv4,hr⟩:=aB hr
 refine gb hv1 ?_
 refine gb hv2 ?_
 refine gb hv3 ?_
 refine gb hv4 ?_
 refine S.prune [1,8] ?_
 refine S.gw [12] ?_
 refine iW hr (λhc hr=>D0 hr) λhc hr=> ?_
 refine gr ?_
 refine S.li [1,9,43,44,45] [(1,1)] [] (λs1=>⟨[sR 1 1,(9,.c (.clo 137 [])),(43,.c (.d (aj 2 aQ x0))),sI 44 (x0.length:Int),sI 45 s1],[(1,[iC x4,iC x5,.d (aj 2 aQ x6),.d (aj 1 aU x1),.d (aj 1 dh x7),.d (aj 1 dh x8),.d (aj 2 aQ x0),iC x2,iC x3])],[]⟩) (KU x1 x0 x2 x3) (λq=>q=r) hr rfl ?_
 intro s1 hr
 unfold KU at hr
 refine S.gw [4,12] ?_
 refine gJ hr (λhc hr=> ?_) λhc hr=>D0 hr
 obtain ⟨ZK,hr⟩:=aH hr
 obtain ⟨v5,hv5,hr⟩:=bf hr
 obtain ⟨Jj,hr⟩:=aH hr
 obtain ⟨v6,hv6,hr⟩:=bf hr
 obtain ⟨v7,hv7,hr⟩:=bf hr
 obtain ⟨v8,hv8,hr⟩:=bf hr
 try simp only [hv5,hv6,hv7,hv8,Option.getD_some,Option.isSome_some,true_and,and_assoc]
 repeat (first | refine gG Jj ?_ | refine gA ?_ | refine gB ?_)
 refine gJ hr (λhc hr=> ?_) λhc hr=>D1 (S.ss [1,9,43,44,45] [(1,1)] []) hr
 refine gr ?_
 refine S.prune [10,12] ?_
 refine S.gx [4] ?_
 exact D0 hr
def akw (x0 x1:Int) (x2:aA) (x3:au) (x4 x5:aV) (x6:aA) (x7 x8:Int):Option (Int×Int×aA×au×aV×aV×aA×Int×Int×Int):=
 (r79 x0 x1 x2 x3 x4 x5 x6 x7 x8).bind λv1=>
  some (x0,x1,x2,x3,x4,x5,x6,x7,x8,v1.2)
@[go_sem] def ayT:=PO qu9 true akw
@[go_sem] def aqC (k:Nat):=lk [(79,T79.sp)] k
theorem f116:aF prog 116 ayT.sp:=by
 refine vm (tb:=aqC) (.cons f79 .nil) func116 ntmps116 λ⟨x0,x1,x2,x3,x4,x5,x6,x7,x8⟩ r hr stop S=> ?_
 rw [RY,akw] at hr
 refine S.gx [] ?_
 exact D0 hr
def VD (a0:dB):Bd (Int×(List (Int×Int×Int×Int×Int×Hl))) dB:=λs1=>
 if (decide (s1.1<(a0.length:Int)))=true then
  if 0<=s1.1/\s1.1<(a0.length:Int) then
   if (((a0.getD s1.1.toNat default).1) != 5)=true then
    if (s1.2.length+1)*64<=140737488355328/\s1.2.length+1<=9223372036854775807 then
     if 0<=(s1.2.length:Int)/\(s1.2.length:Int)<((s1.2.length+1):Int) then
      if (!(decide (((s1.2.length+1):Int)<=60)))=true then
       .out (some ((s1.2++[(0,0,0,0,0,Hl.nil)]).set s1.2.length ((a0.getD s1.1.toNat default).1,(a0.getD s1.1.toNat default).2.1,(a0.getD s1.1.toNat default).2.2.1,(a0.getD s1.1.toNat default).2.2.2.1,(a0.getD s1.1.toNat default).2.2.2.2.1,(a0.getD s1.1.toNat default).2.2.2.2.2)))
       else .next (IntKind.i64.wrap (s1.1+1),(s1.2++[(0,0,0,0,0,Hl.nil)]).set s1.2.length ((a0.getD s1.1.toNat default).1,(a0.getD s1.1.toNat default).2.1,(a0.getD s1.1.toNat default).2.2.1,(a0.getD s1.1.toNat default).2.2.2.1,(a0.getD s1.1.toNat default).2.2.2.2.1,(a0.getD s1.1.toNat default).2.2.2.2.2))
      else .out none
     else .out none
    else .out none
   else .out none
  else .out (some s1.2)
def Zi (a0:dB):Option (dB):=
 aK (VD a0) 1000000000 (0,[])
@[go_sem] def amF:=agE qu1 true Zi
def ain:qj:=lk []
theorem O5:fM prog ain:=fM.nil
theorem f178:aF prog 178 amF.sp:=by
 refine vm (tb:=ain) .nil func178 ntmps178 λa0 r hr stop S=> ?_
 rw [sQ,Zi] at hr
 refine S.gx [2] ?_
 refine gr ?_
 refine S.inl 2 [3] [] func236 (by decide) rfl ntmps236 (λcx e=>bD cZ O5 cx e) (some 6) rfl rfl rfl rfl (nL rfl) (nL rfl) ?_
 refine gs ?_
 refine gr ?_
 intro stop1 S1
 refine S1.gw [5,9] ?_
 refine S1.uI 3 0 2000300 6 rfl rfl (nL rfl) rfl ?_
 refine S1.li [1,7,8,9] [(3,3)] [(2000300,2000300)] (λs1=>⟨[(1,.c (.clo 237 [.ref 3 0])),(7,.c (.d (aj 6 dO a0))),sI 8 (a0.length:Int),sI 9 s1.1],[(3,[.own 2000300])],[(2000300,.owned (aj 6 dO s1.2))]⟩) (VD a0) (λq=>q=r) hr rfl ?_
 intro s1 hr
 unfold VD at hr
 refine S1.gw [5,9] ?_
 refine gJ hr (λhc hr=> ?_) λhc hr=> ?_
 ·obtain ⟨hg3,hr⟩:=aH hr
  refine gr ?_
  refine gJ hr (λhc hr=> ?_) λhc hr=> ?_
  ·refine gr ?_
   refine S1.inl 2 [1,7,8,9] [.ref 3 0] func237 (by decide) rfl ntmps237 (λcx e=>bD cZ O5 cx e) (some 18) rfl rfl rfl rfl (nL rfl) (nL rfl) ?_
   refine gs ?_
   refine gr ?_
   intro stop2 S2
   refine S2.gx [] ?_
   obtain ⟨hg1,hr⟩:=aH hr
   obtain ⟨hg2,hr⟩:=aH hr
   refine S1.gw [5,9] ?_
   refine gJ hr (λhc hr=> ?_) λhc hr=>D1 (S1.ss [1,7,8,9] [(3,3)] [(8,2000300)]) hr
   refine gr ?_
   have hr:=bT hr
   refine S.gx [2] ?_
   exact D0 hr
  first | cases hr | exact hr.elim
 refine gr ?_
 have hr:=bT hr
 refine S.gx [2] ?_
 exact D0 hr
def r68 (a0:Int):Option (Bool):=
 some ((a0 == 2) || (a0 == 4))
@[go_sem] def T68:=OC qV false r68
theorem f68:aF prog 68 T68.sp:=by
 refine vm .nil func68 ntmps68 λa0 r hr stop S=> ?_
 rw [sQ,r68] at hr
 refine S.gx [] ?_
 repeat (first | refine gA ?_ | refine gB ?_)
 exact D0 hr
end Go.Proofs.YtnepigpnlnmlmaaGreatDoor

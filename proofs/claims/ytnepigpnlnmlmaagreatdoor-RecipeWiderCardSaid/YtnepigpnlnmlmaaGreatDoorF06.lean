/- Contracts of functions, written by wip/dec. -/
import Derived.Test.YtnepigpnlnmlmaaGreatDoorF00
import Derived.Test.YtnepigpnlnmlmaaGreatDoorF01
import Derived.Test.YtnepigpnlnmlmaaGreatDoorF02
import Derived.Test.YtnepigpnlnmlmaaGreatDoorF03
import Derived.Test.YtnepigpnlnmlmaaGreatDoorF04
import Derived.Test.YtnepigpnlnmlmaaGreatDoorF05
set_option linter.unusedVariables false
set_option linter.unusedSimpArgs false
set_option linter.constructorNameAsVariable false
set_option maxHeartbeats 4000000
set_option maxRecDepth 20000
namespace Go.Proofs.YtnepigpnlnmlmaaGreatDoor
open Tryz Go.dR
section
variable {β:Type} [Inhabited β] (u:β->List RV) (al:Bool)
def arJ (a0 a1:Int) (a2:aA) (a3:au) (a4:aA) (a5:au) (a6:aA) (a7 a8:Int):List Arg:=[.agg [.int .i64 a0,.int .i64 a1,aj 2 aQ a2,aj 1 aU a3,aj 2 aQ a4,aj 1 aU a5],.agg [aj 2 aQ a6,.int .i64 a7,.int .i64 a8]]
def atp:List Arg->Int×Int×aA×au×aA×au×aA×Int×Int
 | [.agg [c0,c1,c2,c3,c4,c5],.agg [c6,c7,c8]]=>(aC c0,aC c1,aN bZ c2,aN bW c3,aN bZ c4,aN bW c5,aN bZ c6,aC c7,aC c8)
 | _=>default
def auB (r:Int->Int->aA->au->aA->au->aA->Int->Int->Option β):=mkT (u9 arJ) atp (u9 r) u al
attribute [go_sem] arJ atp auB
def arI (a0 a1:Int) (a2:aA) (a3:au) (a4:aA) (a5:au) (a6:fK):List Arg:=[.agg [.int .i64 a0,.int .i64 a1,aj 2 aQ a2,aj 1 aU a3,aj 2 aQ a4,aj 1 aU a5],.c (aj 3 jq a6)]
def ato:List Arg->Int×Int×aA×au×aA×au×fK
 | [.agg [c0,c1,c2,c3,c4,c5],.c c6]=>(aC c0,aC c1,aN bZ c2,aN bW c3,aN bZ c4,aN bW c5,aN pW c6)
 | _=>default
def auA (r:Int->Int->aA->au->aA->au->fK->Option β):=mkT (u7 arI) ato (u7 r) u al
attribute [go_sem] arI ato auA
def arH (a0:aA) (a1 a2:Int):List Arg:=[.agg [aj 2 aQ a0,.int .i64 a1,.int .i64 a2]]
def atn:List Arg->aA×Int×Int
 | [.agg [c0,c1,c2]]=>(aN bZ c0,aC c1,aC c2)
 | _=>default
def auz (r:aA->Int->Int->Option β):=mkT (u3 arH) atn (u3 r) u al
attribute [go_sem] arH atn auz
def arG (a0 a1:Int) (a2:aA) (a3:au) (a4:aA) (a5:au) (a6 a7:aV) (a8:aA) (a9 a10:Int):List Arg:=[.agg [.int .i64 a0,.int .i64 a1,aj 2 aQ a2,aj 1 aU a3,aj 2 aQ a4,aj 1 aU a5],.agg [aj 1 dh a6,aj 1 dh a7],.agg [aj 2 aQ a8,.int .i64 a9,.int .i64 a10]]
def atm:List Arg->Int×Int×aA×au×aA×au×aV×aV×aA×Int×Int
 | [.agg [c0,c1,c2,c3,c4,c5],.agg [c6,c7],.agg [c8,c9,c10]]=>(aC c0,aC c1,aN bZ c2,aN bW c3,aN bZ c4,aN bW c5,aN kV c6,aN kV c7,aN bZ c8,aC c9,aC c10)
 | _=>default
def auy (r:Int->Int->aA->au->aA->au->aV->aV->aA->Int->Int->Option β):=mkT (u11 arG) atm (u11 r) u al
attribute [go_sem] arG atm auy
def arF (a0 a1:Int) (a2:aA) (a3:au) (a4:aA) (a5:au) (a6 a7:aV) (a8:fK):List Arg:=[.agg [.int .i64 a0,.int .i64 a1,aj 2 aQ a2,aj 1 aU a3,aj 2 aQ a4,aj 1 aU a5],.agg [aj 1 dh a6,aj 1 dh a7],.c (aj 3 jq a8)]
def atl:List Arg->Int×Int×aA×au×aA×au×aV×aV×fK
 | [.agg [c0,c1,c2,c3,c4,c5],.agg [c6,c7],.c c8]=>(aC c0,aC c1,aN bZ c2,aN bW c3,aN bZ c4,aN bW c5,aN kV c6,aN kV c7,aN pW c8)
 | _=>default
def auw (r:Int->Int->aA->au->aA->au->aV->aV->fK->Option β):=mkT (u9 arF) atl (u9 r) u al
attribute [go_sem] arF atl auw
def asA (v:Int×Int×aA×au×aV×aV×aA×Int×Int×Int×Int×aA×au×aV×aV×aA×Int×Int×aT×aG×aJ×aA×Int×Int×Int×Int×aJ×Int×Int):List RV:=[.agg [.d (.int .i64 v.1),.d (.int .i64 v.2.1),.d (aj 2 aQ v.2.2.1),.d (aj 1 aU v.2.2.2.1),.d (aj 1 dh v.2.2.2.2.1),.d (aj 1 dh v.2.2.2.2.2.1),.d (aj 2 aQ v.2.2.2.2.2.2.1),.d (.int .i64 v.2.2.2.2.2.2.2.1),.d (.int .i64 v.2.2.2.2.2.2.2.2.1),.d (.int .i64 v.2.2.2.2.2.2.2.2.2.1),.d (.int .i64 v.2.2.2.2.2.2.2.2.2.2.1),.d (aj 2 aQ v.2.2.2.2.2.2.2.2.2.2.2.1),.d (aj 1 aU v.2.2.2.2.2.2.2.2.2.2.2.2.1),.d (aj 1 dh v.2.2.2.2.2.2.2.2.2.2.2.2.2.1),.d (aj 1 dh v.2.2.2.2.2.2.2.2.2.2.2.2.2.2.1),.d (aj 2 aQ v.2.2.2.2.2.2.2.2.2.2.2.2.2.2.2.1),.d (.int .i64 v.2.2.2.2.2.2.2.2.2.2.2.2.2.2.2.2.1),.d (.int .i64 v.2.2.2.2.2.2.2.2.2.2.2.2.2.2.2.2.2.1),.d (aj 4 bV v.2.2.2.2.2.2.2.2.2.2.2.2.2.2.2.2.2.2.1),.d (aj 5 bI v.2.2.2.2.2.2.2.2.2.2.2.2.2.2.2.2.2.2.2.1),.d (aj 3 bU v.2.2.2.2.2.2.2.2.2.2.2.2.2.2.2.2.2.2.2.2.1),.d (aj 2 aQ v.2.2.2.2.2.2.2.2.2.2.2.2.2.2.2.2.2.2.2.2.2.1),.d (.int .i64 v.2.2.2.2.2.2.2.2.2.2.2.2.2.2.2.2.2.2.2.2.2.2.1),.d (.int .i64 v.2.2.2.2.2.2.2.2.2.2.2.2.2.2.2.2.2.2.2.2.2.2.2.1),.d (.int .i64 v.2.2.2.2.2.2.2.2.2.2.2.2.2.2.2.2.2.2.2.2.2.2.2.2.1),.d (.int .i64 v.2.2.2.2.2.2.2.2.2.2.2.2.2.2.2.2.2.2.2.2.2.2.2.2.2.1),.d (aj 3 bU v.2.2.2.2.2.2.2.2.2.2.2.2.2.2.2.2.2.2.2.2.2.2.2.2.2.2.1),.d (.int .i64 v.2.2.2.2.2.2.2.2.2.2.2.2.2.2.2.2.2.2.2.2.2.2.2.2.2.2.2.1)],.c (.d (.int .i64 v.2.2.2.2.2.2.2.2.2.2.2.2.2.2.2.2.2.2.2.2.2.2.2.2.2.2.2.2))]
attribute [go_sem] asA
def asy (v:aV×Int×aV×Int):List RV:=[.agg [.own (aj 1 dh v.1),.d (.int .i64 v.2.1)],.agg [.own (aj 1 dh v.2.2.1),.d (.int .i64 v.2.2.2)]]
attribute [go_sem] asy
def asx (v:aV×aV×Int):List RV:=[.agg [.own (aj 1 dh v.1),.own (aj 1 dh v.2.1)],.c (.d (.int .i64 v.2.2))]
attribute [go_sem] asx
def akA (v:sK×Int):List RV:=[.c (.own (aj 2 mP v.1)),.c (.d (.int .i64 v.2))]
attribute [go_sem] akA
def asw (v:Int×Int×Int):List RV:=[.agg [.d (.int .i64 v.1),.d (.int .i64 v.2.1)],.c (.d (.int .i64 v.2.2))]
attribute [go_sem] asw
end
def r81 (a0:Int):Option (Bool):=
 (IL a0 0 2000).bind λv1=>
  some v1
@[go_sem] def T81:=OC qV false r81
@[go_sem] def aB1 (k:Nat):=lk [(71,T71.sp)] k
theorem f81:aF prog 81 T81.sp:=by
 refine vm (tb:=aB1) (.cons f71 .nil) func81 ntmps81 λa0 r hr stop S=> ?_
 rw [sQ,r81] at hr
 refine S.gx [] ?_
 exact D0 hr
def Iu (x1:Int) (x0:aJ) (x2:Int):Bd Int (Int×Int):=λs1=>
 if (decide (s1<(x0.length:Int)))=true then
  if 0<=s1/\s1<(x0.length:Int) then
   aW (IL ((x0.getD s1.toNat default).1) 0 (IntKind.i64.wrap (x1 - 1))) λv5=>
    aW (xu v5 6) λv6=>
     aW (r81 ((x0.getD s1.toNat default).2.1)) λv7=>
      if v7=true->(r81 ((x0.getD s1.toNat default).2.2)).isSome=true then
       aW (xu (v7 && ((r81 ((x0.getD s1.toNat default).2.2)).getD default)) 2) λv8=>
        aW (xu (decide (((x0.getD s1.toNat default).2.1)<=((x0.getD s1.toNat default).2.2))) 9) λv9=>
         aW (r64 [v6,v8,v9]) λv10=>
          if (v10 != 0)=true then
           .out (some (s1,v10))
           else .next (IntKind.i64.wrap (s1+1))
       else .out none
   else .out none
  else .out ((IL x2 200 3000).bind λv13=>
   (xu v13 2).bind λv14=>
    some (0,v14))
def r22 (x1 x3:Int) (x4:aA) (x5:au) (x6 x7:aV) (x8:aA) (x9 x10:Int) (x11:aT) (x12:aG) (cO:aJ) (x14:aA) (x15 x16 x17 x18:Int) (x0:aJ) (x2:Int):Option (Int×Int):=
 (r79 x1 x3 x4 x5 x6 x7 x8 x9 x10).bind λv1=>
  (r80 x11 x12 cO x14 x15 x16 x17 x18).bind λv2=>
   (xu (decide ((x0.length:Int)<=6)) 8).bind λv3=>
    (r64 [v1.2,v2.2,v3]).bind λv4=>
     if (v4 != 0)=true then
      some (0,v4)
      else aK (Iu x1 x0 x2) 1000000000 0
@[go_sem] def T22:=Ud JM false r22
@[go_sem] def aCd (k:Nat):=lk [(64,T64.sp),(65,T65.sp),(71,T71.sp),(79,T79.sp),(80,T80.sp),(81,T81.sp)] k
theorem f22:aF prog 22 T22.sp:=by
 refine vm (tb:=aCd) (.cons f64 (.cons f65 (.cons f71 (.cons f79 (.cons f80 (.cons f81 .nil)))))) func22 ntmps22 λ⟨x1,x3,x4,x5,x6,x7,x8,x9,x10,x11,x12,cO,x14,x15,x16,x17,x18,x0,x2⟩ r hr stop S=> ?_
 rw [OL,r22] at hr
 refine S.gx [5,6,11] ?_
 obtain ⟨v1,hv1,hr⟩:=aB hr
 obtain ⟨v2,hv2,hr⟩:=aB hr
 obtain ⟨v3,hv3,hr⟩:=aB hr
 obtain ⟨v4,hv4,hr⟩:=aB hr
 refine gb hv1 ?_
 refine gb hv2 ?_
 refine gb hv3 ?_
 refine gb hv4 ?_
 refine iW hr (λhc hr=> ?_) λhc hr=> ?_
 ·refine gr ?_
  refine S.prune [8] ?_
  refine S.gx [6,11] ?_
  exact D0 hr
 refine gr ?_
 refine S.prune [1] ?_
 refine S.gw [5,11] ?_
 refine S.li [1,9,38,39,40] [(1,1)] [] (λs1=>⟨[sR 1 1,(9,.c (.clo 81 [])),(38,.c (.d (aj 3 bU x0))),sI 39 (x0.length:Int),sI 40 s1],[(1,[iC x1,iC x3,.d (aj 2 aQ x4),.d (aj 1 aU x5),.d (aj 1 dh x6),.d (aj 1 dh x7),.d (aj 2 aQ x8),iC x9,iC x10,.d (aj 4 bV x11),.d (aj 5 bI x12),.d (aj 3 bU cO),.d (aj 2 aQ x14),iC x15,iC x16,iC x17,iC x18,.d (aj 3 bU x0),iC x2])],[]⟩) (Iu x1 x0 x2) (λq=>q=r) hr rfl ?_
 intro s1 hr
 unfold Iu at hr
 refine S.gw [5,6,11] ?_
 refine gJ hr (λhc hr=> ?_) λhc hr=>D0 hr
 obtain ⟨Nv,hr⟩:=aH hr
 obtain ⟨v5,hv5,hr⟩:=bf hr
 obtain ⟨v6,hv6,hr⟩:=bf hr
 obtain ⟨v7,hv7,hr⟩:=bf hr
 obtain ⟨Ji,hr⟩:=aH hr
 obtain ⟨v8,hv8,hr⟩:=bf hr
 obtain ⟨v9,hv9,hr⟩:=bf hr
 obtain ⟨v10,yI,hr⟩:=bf hr
 try simp only [hv5,hv6,hv7,hv8,hv9,yI,Option.getD_some,Option.isSome_some,true_and,and_assoc]
 repeat (first | refine gG Ji ?_ | refine gA ?_ | refine gB ?_)
 refine S.prune [1,9,10,12,38,39,40] ?_
 refine S.gx [5,6] ?_
 exact D1 (S.ss [1,9,38,39,40] [(1,1)] []) hr
def r82 (x0 x1:Int) (x2:aA) (x3:au) (x4 x5:aV) (x6:aA) (x7 x8:Int) (x9:aT) (x10:aG) (x11:aJ) (x12:aA) (cO x14 x15 x16:Int) (x17:aJ) (x18:Int):Option (Int×Int×aA×au×aV×aV×aA×Int×Int×Int×Int×aA×au×aV×aV×aA×Int×Int×aT×aG×aJ×aA×Int×Int×Int×Int×aJ×Int×Int):=
 (r22 x0 x1 x2 x3 x4 x5 x6 x7 x8 x9 x10 x11 x12 cO x14 x15 x16 x17 x18).bind λv1=>
  some (x0,x1,x2,x3,x4,x5,x6,x7,x8,x0,x1,x2,x3,x4,x5,x6,x7,x8,x9,x10,x11,x12,cO,x14,x15,x16,x17,x18,v1.2)
@[go_sem] def T82:=Ud asA true r82
@[go_sem] def aB0 (k:Nat):=lk [(22,T22.sp)] k
theorem f82:aF prog 82 T82.sp:=by
 refine vm (tb:=aB0) (.cons f22 .nil) func82 ntmps82 λ⟨x0,x1,x2,x3,x4,x5,x6,x7,x8,x9,x10,x11,x12,cO,x14,x15,x16,x17,x18⟩ r hr stop S=> ?_
 rw [OL,r82] at hr
 refine S.gx [] ?_
 exact D0 hr
def KT (x0 x1:Int) (x2:aA) (x3:au) (x4 x5:aV) (x6:aA) (x7 x8:Int) (a1:aA):Bd (Int×Int) Int:=λs1=>
 if (decide (s1.2<(a1.length:Int)))=true then
  if 0<=s1.2/\s1.2<(a1.length:Int) then
   aW (IL ((a1.getD s1.2.toNat default).1) 0 10000) λv2=>
    aW (xu v2 2) λv3=>
     aW (Uc x0 x1 x2 x3 x4 x5 x6 x7 x8) λv4=>
      aW (IL ((a1.getD s1.2.toNat default).2) 0 v4) λv5=>
       aW (xu v5 6) λv6=>
        aW (r64 [s1.1,v3,v6]) λv7=>
         .next (v7,IntKind.i64.wrap (s1.2+1))
   else .out none
  else .out (some s1.1)
def r83 (x0 x1:Int) (x2:aA) (x3:au) (x4 x5:aV) (x6:aA) (x7 x8:Int) (a1:aA):Option (Int):=
 (xu (decide ((a1.length:Int)<=200)) 8).bind λv1=>
  aK (KT x0 x1 x2 x3 x4 x5 x6 x7 x8 a1) 1000000000 (v1,0)
@[go_sem] def T83:=acu mY false r83
@[go_sem] def aBZ (k:Nat):=lk [(64,T64.sp),(65,T65.sp),(71,T71.sp),(118,ah6.sp)] k
theorem f83:aF prog 83 T83.sp:=by
 refine vm (tb:=aBZ) (.cons f64 (.cons f65 (.cons f71 (.cons f118 .nil)))) func83 ntmps83 λ⟨x0,x1,x2,x3,x4,x5,x6,x7,x8,a1⟩ r hr stop S=> ?_
 rw [Sz,r83] at hr
 refine S.gx [] ?_
 obtain ⟨v1,hv1,hr⟩:=aB hr
 refine gb hv1 ?_
 refine S.li [2,5,12,13,14] [(2,2)] [] (λs1=>⟨[sR 2 2,sI 5 s1.1,(12,.c (.d (aj 2 aQ a1))),sI 13 (a1.length:Int),sI 14 s1.2],[(2,[iC x0,iC x1,.d (aj 2 aQ x2),.d (aj 1 aU x3),.d (aj 1 dh x4),.d (aj 1 dh x5),.d (aj 2 aQ x6),iC x7,iC x8])],[]⟩) (KT x0 x1 x2 x3 x4 x5 x6 x7 x8 a1) (λq=>q=r) hr rfl ?_
 intro s1 hr
 unfold KT at hr
 refine S.gx [] ?_
 exact D1 (S.ss [2,5,12,13,14] [(2,2)] []) hr
def Il (x0:Int) (a1:aA) (s1:(List (aA×Int×Int))×Int) (v1 v2:aV×Int) (v3:Int):Bd (Int×(List (Int×Int))) (eY ((List (aA×Int×Int))×Int) (fK)):=λs2=>
 if (decide (s2.1<(v1.1.length:Int)))=true then
  if 0<=s2.1/\s2.1<(v1.1.length:Int) then
   if 0<=s2.1/\s2.1<(v2.1.length:Int) then
    if (s2.2.length+1)*16<=140737488355328/\s2.2.length+1<=9223372036854775807 then
     .next (IntKind.i64.wrap (s2.1+1),s2.2++[((v1.1.getD s2.1.toNat default),(v2.1.getD s2.1.toNat default))])
     else .out none
    else .out none
   else .out none
  else .out (some (if (s1.1.length+1)*40<=140737488355328/\s1.1.length+1<=9223372036854775807 then
   .next (s1.1++[(s2.2,(if 0<IntKind.i64.wrap (((a1.getD s1.2.toNat default).2) - x0) then IntKind.i64.wrap (((a1.getD s1.2.toNat default).2) - x0) else 0),(if IntKind.i64.wrap (((a1.getD s1.2.toNat default).2)+x0)<v3 then IntKind.i64.wrap (((a1.getD s1.2.toNat default).2)+x0) else v3))],IntKind.i64.wrap (s1.2+1))
   else .out none))
def KO (x1 x2:Int) (x3:aA) (x4:au) (x5 x6:aV) (x7:aA) (x8 x0:Int) (a1:aA):Bd ((List (aA×Int×Int))×Int) fK:=λs1=>
 if (decide (s1.2<(a1.length:Int)))=true then
  if 0<=s1.2/\s1.2<(a1.length:Int) then
   aW (MN x1 x2 x3 x4 x5 x6 x7 x8 x0 ((a1.getD s1.2.toNat default).1) ((a1.getD s1.2.toNat default).2) 161) λv1=>
    aW (MN x1 x2 x3 x4 x5 x6 x7 x8 x0 ((a1.getD s1.2.toNat default).1) ((a1.getD s1.2.toNat default).2) 162) λv2=>
     aW (Uc x1 x2 x3 x4 x5 x6 x7 x8 x0) λv3=>
      (aK (Il x0 a1 s1 v1 v2 v3) 1000000000 (0,[])).getD (.out none)
   else .out none
  else .out (some s1.1)
def r99 (x1 x2:Int) (x3:aA) (x4:au) (x5 x6:aV) (x7:aA) (x8 x0:Int) (a1:aA):Option (fK):=
 aK (KO x1 x2 x3 x4 x5 x6 x7 x8 x0 a1) 1000000000 ([],0)
@[go_sem] def T99:=acu asz true r99
@[go_sem] def aBR (k:Nat):=lk [(118,ah6.sp),(160,ah5.sp)] k
theorem f99:aF prog 99 T99.sp:=by
 refine vm (tb:=aBR) (.cons f118 (.cons f160 .nil)) func99 ntmps99 λ⟨x1,x2,x3,x4,x5,x6,x7,x8,x0,a1⟩ r hr stop S=> ?_
 rw [Sz,r99] at hr
 refine S.gx [] ?_
 refine gr ?_
 refine S.Ug 5 1000500 3 rfl rfl ?_
 refine S.li [2,5,12,13,14] [(2,2)] [(1000500,1000500)] (λs1=>⟨[sR 2 2,sO 5 1000500,(12,.c (.d (aj 2 aQ a1))),sI 13 (a1.length:Int),sI 14 s1.2],[(2,[iC x1,iC x2,.d (aj 2 aQ x3),.d (aj 1 aU x4),.d (aj 1 dh x5),.d (aj 1 dh x6),.d (aj 2 aQ x7),iC x8,iC x0])],[(1000500,.owned (aj 3 jq s1.1))]⟩) (KO x1 x2 x3 x4 x5 x6 x7 x8 x0 a1) (λq=>q=r) hr rfl ?_
 intro s1 hr
 unfold KO at hr
 refine S.gw [] ?_
 refine gJ hr (λhc hr=> ?_) λhc hr=>D0 hr
 obtain ⟨XT,hr⟩:=aH hr
 obtain ⟨v1,hv1,hr⟩:=bf hr
 obtain ⟨v2,hv2,hr⟩:=bf hr
 obtain ⟨v3,hv3,hr⟩:=bf hr
 refine gb hv1 ?_
 refine gb hv2 ?_
 refine gb hv3 ?_
 refine S.uI 10 0 2001000 2 rfl rfl (nL rfl) rfl ?_
 obtain ⟨q2,hq,hr⟩:=zW hr
 refine S.li [2,5,8,9,10,12,13,14,44,45] [(2,2),(8,8),(9,9),(10,10)] [(2001000,2001000),(1000500,1000500),(20,20),(23,23)] (λs2=>⟨[sR 2 2,sO 5 1000500,sR 8 8,sR 9 9,sR 10 10,(12,.c (.d (aj 2 aQ a1))),sI 13 (a1.length:Int),sI 14 s1.2,sI 44 (v1.1.length:Int),sI 45 s2.1],[(2,[iC x1,iC x2,.d (aj 2 aQ x3),.d (aj 1 aU x4),.d (aj 1 dh x5),.d (aj 1 dh x6),.d (aj 2 aQ x7),iC x8,iC x0]),(8,[.own 20,iC v1.2]),(9,[.own 23,iC v2.2]),(10,[.own 2001000,iC (if 0<IntKind.i64.wrap (((a1.getD s1.2.toNat default).2) - x0) then IntKind.i64.wrap (((a1.getD s1.2.toNat default).2) - x0) else 0),iC (if IntKind.i64.wrap (((a1.getD s1.2.toNat default).2)+x0)<v3 then IntKind.i64.wrap (((a1.getD s1.2.toNat default).2)+x0) else v3)])],[(2001000,.owned (aj 2 aQ s2.2)),(1000500,.owned (aj 3 jq s1.1)),(20,.owned (aj 1 dh v1.1)),(23,.owned (aj 1 dh v2.1))]⟩) (Il x0 a1 s1 v1 v2 v3) _ hq hr ?_
 intro s2 hr
 unfold Il at hr
 refine S.gw [] ?_
 refine gJ hr (λhc hr=>D1 (S.ss [2,5,8,9,10,12,13,14,44,45] [(2,2),(8,8),(9,9),(10,10)] [(62,2001000),(1000500,1000500),(20,20),(23,23)]) hr) λhc hr=> ?_
 refine gr ?_
 replace hr:=lW hr
 exact D1 (S.ss [2,5,12,13,14] [(2,2)] [(68,1000500)]) hr
def abX (x0 x1:Int) (x2:aA) (x3:au) (x4 x5:aV):Option (Int×Int×aA×au×aA×au×Int):=
 (PG x0 x1 x2 x3).bind λv1=>
  if (v1.2.2.2.2.2.2 == 0)=true then
   (Zh v1.1 v1.2.1 v1.2.2.1 v1.2.2.2.1 v1.2.2.2.2.1 v1.2.2.2.2.2.1 x4 x5).bind λv2=>
    some (v1.1,v1.2.1,v1.2.2.1,v1.2.2.2.1,v1.2.2.2.2.1,v1.2.2.2.2.2.1,v2.2)
   else some (v1.1,v1.2.1,v1.2.2.1,v1.2.2.2.1,v1.2.2.2.2.1,v1.2.2.2.2.2.1,v1.2.2.2.2.2.2)
@[go_sem] def ayf:=acw qu8 true abX
@[go_sem] def ap2 (k:Nat):=lk [(193,afh.sp),(194,amE.sp)] k
theorem f211:aF prog 211 ayf.sp:=by
 refine vm (tb:=ap2) (.cons f193 (.cons f194 .nil)) func211 ntmps211 λ⟨x0,x1,x2,x3,x4,x5⟩ r hr stop S=> ?_
 rw [uq6,abX] at hr
 refine S.gx [] ?_
 exact D0 hr
def Ce (x1 x2:Int) (x3:aA) (x4:au) (x5:aA) (x6:au) (x0:aA) (x7 x8:Int):Bd (Int×Int) Int:=λs1=>
 if (decide (s1.2<(x0.length:Int)))=true then
  if 0<=s1.2/\s1.2<(x0.length:Int) then
   aW (TT ((x0.getD s1.2.toNat default).1)) λv2=>
    if v2=true->(TT ((x0.getD s1.2.toNat default).2)).isSome=true then
     aW (pJ (v2 && ((TT ((x0.getD s1.2.toNat default).2)).getD default)) 2) λv3=>
      aW (pJ (decide (((x0.getD s1.2.toNat default).1)<=((x0.getD s1.2.toNat default).2))) 9) λv4=>
       aW (D6 [s1.1,v3,v4]) λv5=>
        .next (v5,IntKind.i64.wrap (s1.2+1))
     else .out none
   else .out none
  else .out ((TS x1 x2 x3 x4 x5 x6 x7).bind λv8=>
   (TS x1 x2 x3 x4 x5 x6 x8).bind λv9=>
    (pJ (decide (x7<=x8)) 9).bind λv10=>
     (D6 [s1.1,v8,v9,v10]).bind λv11=>
      some v11)
def abJ (x1 x2:Int) (x3:aA) (x4:au) (x5:aA) (x6:au) (x0:aA) (x7 x8:Int):Option (Int):=
 (pJ ((x0.length:Int) == x1) 10).bind λv1=>
  aK (Ce x1 x2 x3 x4 x5 x6 x0 x7 x8) 1000000000 (v1,0)
@[go_sem] def axO:=auB mY false abJ
@[go_sem] def apJ (k:Nat):=lk [(216,Ot.sp),(217,VJ.sp),(276,amv.sp),(277,amu.sp)] k
theorem f270:aF prog 270 axO.sp:=by
 refine vm (tb:=apJ) (.cons f216 (.cons f217 (.cons f276 (.cons f277 .nil)))) func270 ntmps270 λ⟨x1,x2,x3,x4,x5,x6,x0,x7,x8⟩ r hr stop S=> ?_
 rw [RY,abJ] at hr
 refine S.gx [] ?_
 obtain ⟨v1,hv1,hr⟩:=aB hr
 refine gb hv1 ?_
 refine S.li [2,3,5,17,18,19] [(2,2),(3,3)] [] (λs1=>⟨[sR 2 2,sR 3 3,sI 5 s1.1,(17,.c (.d (aj 2 aQ x0))),sI 18 (x0.length:Int),sI 19 s1.2],[(2,[iC x1,iC x2,.d (aj 2 aQ x3),.d (aj 1 aU x4),.d (aj 2 aQ x5),.d (aj 1 aU x6)]),(3,[.d (aj 2 aQ x0),iC x7,iC x8])],[]⟩) (Ce x1 x2 x3 x4 x5 x6 x0 x7 x8) (λq=>q=r) hr rfl ?_
 intro s1 hr
 unfold Ce at hr
 refine S.gw [] ?_
 refine gJ hr (λhc hr=> ?_) λhc hr=>D0 hr
 obtain ⟨hg6,hr⟩:=aH hr
 obtain ⟨v2,hv2,hr⟩:=bf hr
 obtain ⟨hg7,hr⟩:=aH hr
 obtain ⟨v3,hv3,hr⟩:=bf hr
 obtain ⟨v4,hv4,hr⟩:=bf hr
 obtain ⟨v5,hv5,hr⟩:=bf hr
 try simp only [hv2,hv3,hv4,hv5,Option.getD_some,Option.isSome_some,true_and,and_assoc]
 repeat (first | refine gG hg7 ?_ | refine gA ?_ | refine gB ?_)
 exact D1 (S.ss [2,3,5,17,18,19] [(2,2),(3,3)] []) hr
def CJ (x0 x1:Int) (x2:aA) (x3:au) (x4:aA) (x5:au) (a1:fK):Bd (Int×Int) Int:=λs1=>
 if (decide (s1.2<(a1.length:Int)))=true then
  if 0<=s1.2/\s1.2<(a1.length:Int) then
   aW (abJ x0 x1 x2 x3 x4 x5 ((a1.getD s1.2.toNat default).1) ((a1.getD s1.2.toNat default).2.1) ((a1.getD s1.2.toNat default).2.2)) λv2=>
    aW (D6 [s1.1,v2]) λv3=>
     .next (v3,IntKind.i64.wrap (s1.2+1))
   else .out none
  else .out (some s1.1)
def abW (x0 x1:Int) (x2:aA) (x3:au) (x4:aA) (x5:au) (a1:fK):Option (Int):=
 (pJ (decide ((a1.length:Int)<=200)) 8).bind λv1=>
  aK (CJ x0 x1 x2 x3 x4 x5 a1) 1000000000 (v1,0)
@[go_sem] def aye:=auA mY false abW
@[go_sem] def ap1 (k:Nat):=lk [(216,Ot.sp),(217,VJ.sp),(270,axO.sp)] k
theorem f212:aF prog 212 aye.sp:=by
 refine vm (tb:=ap1) (.cons f216 (.cons f217 (.cons f270 .nil))) func212 ntmps212 λ⟨x0,x1,x2,x3,x4,x5,a1⟩ r hr stop S=> ?_
 rw [OJ,abW] at hr
 refine S.gx [] ?_
 obtain ⟨v1,hv1,hr⟩:=aB hr
 refine gb hv1 ?_
 refine S.li [2,5,12,13,14] [(2,2)] [] (λs1=>⟨[sR 2 2,sI 5 s1.1,(12,.c (.d (aj 3 jq a1))),sI 13 (a1.length:Int),sI 14 s1.2],[(2,[iC x0,iC x1,.d (aj 2 aQ x2),.d (aj 1 aU x3),.d (aj 2 aQ x4),.d (aj 1 aU x5)])],[]⟩) (CJ x0 x1 x2 x3 x4 x5 a1) (λq=>q=r) hr rfl ?_
 intro s1 hr
 unfold CJ at hr
 refine S.gx [] ?_
 exact D1 (S.ss [2,5,12,13,14] [(2,2)] []) hr
def Cb (x0:aA) (x1 x2:Int):Bd (Int×(List (Int))×(List (Int))) (aV×Int×aV×Int):=λs1=>
 if (decide (s1.1<(x0.length:Int)))=true then
  if 0<=s1.1/\s1.1<(x0.length:Int) then
   if (s1.2.1.length+1)*8<=140737488355328/\s1.2.1.length+1<=9223372036854775807 then
    if (s1.2.2.length+1)*8<=140737488355328/\s1.2.2.length+1<=9223372036854775807 then
     .next (IntKind.i64.wrap (s1.1+1),s1.2.1++[(x0.getD s1.1.toNat default).1],s1.2.2++[(x0.getD s1.1.toNat default).2])
     else .out none
    else .out none
   else .out none
  else .out (some (s1.2.1,x2,s1.2.2,x1))
def abG (x0:aA) (x1 x2:Int):Option (aV×Int×aV×Int):=
 aK (Cb x0 x1 x2) 1000000000 (0,[],[])
@[go_sem] def axx:=auz asy false abG
theorem f303:aF prog 303 axx.sp:=by
 refine vm .nil func303 ntmps303 λ⟨x0,x1,x2⟩ r hr stop S=> ?_
 rw [uq3,abG] at hr
 refine S.gx [] ?_
 refine gr ?_
 refine S.uI 2 0 2000200 1 rfl rfl (nL rfl) rfl ?_
 refine S.uI 3 0 2000300 1 rfl rfl (nL rfl) rfl ?_
 refine S.li [2,3,15,16,17] [(2,2),(3,3)] [(2000200,2000200),(2000300,2000300)] (λs1=>⟨[sR 2 2,sR 3 3,(15,.c (.d (aj 2 aQ x0))),sI 16 (x0.length:Int),sI 17 s1.1],[(2,[.own 2000200,iC x2]),(3,[.own 2000300,iC x1])],[(2000200,.owned (aj 1 dh s1.2.1)),(2000300,.owned (aj 1 dh s1.2.2))]⟩) (Cb x0 x1 x2) (λq=>q=r) hr rfl ?_
 intro s1 hr
 unfold Cb at hr
 refine S.gx [] ?_
 exact D1 (S.ss [2,3,15,16,17] [(2,2),(3,3)] [(26,2000200),(32,2000300)]) hr
def abI (x0 x1:Int) (x2:aA) (x3:au) (x4:aA) (x5:au) (x6 x7:aV) (x8:aA) (x9 x10:Int):Option (aV×aV×Int):=
 (abG x8 x9 x10).bind λv1=>
  (PI x0 x1 x2 x3 x4 x5 x6 v1.1 v1.2.1).bind λv2=>
   (PI x0 x1 x2 x3 x4 x5 x7 v1.2.2.1 v1.2.2.2).bind λv3=>
    (D6 [v2.2.2,v3.2.2]).bind λv4=>
     if (v4 != 0)=true then
      some ([],[],v4)
      else some (v2.1,v3.1,0)
@[go_sem] def axN:=auy asx false abI
@[go_sem] def apI (k:Nat):=lk [(165,amI.sp),(217,VJ.sp),(303,axx.sp)] k
theorem f271:aF prog 271 axN.sp:=by
 refine vm (tb:=apI) (.cons f165 (.cons f217 (.cons f303 .nil))) func271 ntmps271 λ⟨x0,x1,x2,x3,x4,x5,x6,x7,x8,x9,x10⟩ r hr stop S=> ?_
 rw [afw,abI] at hr
 refine S.gx [4] ?_
 obtain ⟨v1,hv1,hr⟩:=aB hr
 obtain ⟨v2,hv2,hr⟩:=aB hr
 obtain ⟨v3,hv3,hr⟩:=aB hr
 refine gb hv1 ?_
 refine gb hv2 ?_
 refine gb hv3 ?_
 refine S.prune [6,10,12,13,15] ?_
 refine S.gx [] ?_
 exact D0 hr
def CG (x0 x1:Int) (x2:aA) (x3:au) (x4:aA) (x5:au) (a2:fK):Bd ((List (aV×aV))×Int×aV×aV) (sK×Int):=λs1=>
 if (decide (s1.2.1<(a2.length:Int)))=true then
  if 0<=s1.2.1/\s1.2.1<(a2.length:Int) then
   aW (abI x0 x1 x2 x3 x4 x5 s1.2.2.1 s1.2.2.2 ((a2.getD s1.2.1.toNat default).1) ((a2.getD s1.2.1.toNat default).2.1) ((a2.getD s1.2.1.toNat default).2.2)) λv1=>
    if (v1.2.2 != 0)=true then
     .out (some ([],v1.2.2))
     else if (s1.1.length+1)*48<=140737488355328/\s1.1.length+1<=9223372036854775807 then
      .next (s1.1++[(v1.1,v1.2.1)],IntKind.i64.wrap (s1.2.1+1),v1.1,v1.2.1)
      else .out none
   else .out none
  else .out (some (s1.1,0))
def Ze (x0 x1:Int) (x2:aA) (x3:au) (x4:aA) (x5:au) (x6 x7:aV) (a2:fK):Option (sK×Int):=
 aK (CG x0 x1 x2 x3 x4 x5 a2) 1000000000 ([],0,x6,x7)
@[go_sem] def ayd:=auw akA true Ze
@[go_sem] def ap0 (k:Nat):=lk [(271,axN.sp)] k
theorem f213:aF prog 213 ayd.sp:=by
 refine vm (tb:=ap0) (.cons f271 .nil) func213 ntmps213 λ⟨x0,x1,x2,x3,x4,x5,x6,x7,a2⟩ r hr stop S=> ?_
 rw [RY,Ze] at hr
 refine S.gx [] ?_
 refine gr ?_
 refine S.Ug 8 1000800 2 rfl rfl ?_
 refine S.li [3,4,8,13,14,15] [(3,3),(4,4)] [(1000800,1000800)] (λs1=>⟨[sR 3 3,sR 4 4,sO 8 1000800,(13,.c (.d (aj 3 jq a2))),sI 14 (a2.length:Int),sI 15 s1.2.1],[(3,[iC x0,iC x1,.d (aj 2 aQ x2),.d (aj 1 aU x3),.d (aj 2 aQ x4),.d (aj 1 aU x5)]),(4,[.d (aj 1 dh s1.2.2.1),.d (aj 1 dh s1.2.2.2)])],[(1000800,.owned (aj 2 mP s1.1))]⟩) (CG x0 x1 x2 x3 x4 x5 a2) (λq=>q=r) hr rfl ?_
 intro s1 hr
 unfold CG at hr
 refine S.gx [] ?_
 exact D1 (S.ss [3,4,8,13,14,15] [(3,3),(4,4)] [(33,1000800)]) hr
def ace (x2 x3:Int) (x4:aA) (x5:au) (x0 x1:aV) (a2:fK):Option (sK×Int):=
 (abX x2 x3 x4 x5 x0 x1).bind λv1=>
  if (v1.2.2.2.2.2.2 == 0)=true then
   (abW v1.1 v1.2.1 v1.2.2.1 v1.2.2.2.1 v1.2.2.2.2.1 v1.2.2.2.2.2.1 a2).bind λv2=>
    if (v2 != 0)=true then
     some ([],v2)
     else (Ze v1.1 v1.2.1 v1.2.2.1 v1.2.2.2.1 v1.2.2.2.2.1 v1.2.2.2.2.2.1 x0 x1 a2).bind λv3=>
      some (v3.1,v3.2)
   else if (v1.2.2.2.2.2.2 != 0)=true then
    some ([],v1.2.2.2.2.2.2)
    else (Ze v1.1 v1.2.1 v1.2.2.1 v1.2.2.2.1 v1.2.2.2.2.1 v1.2.2.2.2.2.1 x0 x1 a2).bind λv4=>
     some (v4.1,v4.2)
@[go_sem] def ayB:=auv akA true ace
@[go_sem] def aqo (k:Nat):=lk [(211,ayf.sp),(212,aye.sp),(213,ayd.sp)] k
theorem f158:aF prog 158 ayB.sp:=by
 refine vm (tb:=aqo) (.cons f211 (.cons f212 (.cons f213 .nil))) func158 ntmps158 λ⟨x2,x3,x4,x5,x0,x1,a2⟩ r hr stop S=> ?_
 rw [OJ,ace] at hr
 refine S.gx [] ?_
 exact D0 hr
def Iq:Bd (Int×Int) Int:=λs1=>
 if (s1.2 != 0)=true then
  if s1.2≠0 then
   .next (s1.2,s1.1.tmod s1.2)
   else .out none
  else .out (some (if s1.1<IntKind.i64.wrap (0 - s1.1) then IntKind.i64.wrap (0 - s1.1) else s1.1))
def Y6 (a0 a1:Int):Option (Int):=
 aK (Iq) 1000000000 (a0,a1)
@[go_sem] def axM:=qT7 mY false Y6
theorem f273:aF prog 273 axM.sp:=by
 refine vm .nil func273 ntmps273 λ⟨a0,a1⟩ r hr stop S=> ?_
 rw [DV,Y6] at hr
 refine S.gx [] ?_
 refine gr ?_
 refine S.li [0,1] [] [] (λs1=>⟨[sI 0 s1.1,sI 1 s1.2],[],[]⟩) (Iq) (λq=>q=r) hr rfl ?_
 intro s1 hr
 unfold Iq at hr
 refine S.gx [] ?_
 exact D1 (S.ss [0,1] [] []) hr
def TY (x0 x1:Int) (x2:aA) (x3:au) (a1:Int):Option (Int×Int×Int):=
 (PG x0 x1 x2 x3).bind λv1=>
  if (v1.2.2.2.2.2.2 == 0)=true then
   (TV v1.1 v1.2.1 v1.2.2.1 v1.2.2.2.1 v1.2.2.2.2.1 v1.2.2.2.2.2.1 a1).bind λv2=>
    (pJ v2 2).bind λv3=>
     if (v3 != 0)=true then
      some (0,0,v3)
      else (Bg v1.1 v1.2.1 v1.2.2.1 v1.2.2.2.1 v1.2.2.2.2.1 v1.2.2.2.2.2.1 a1).bind λv4=>
       (Y6 v4.1 v4.2).bind λv5=>
        if v5≠0 then
         if v5≠0 then
          some (IntKind.i64.wrap (v4.1.tdiv v5),IntKind.i64.wrap (v4.2.tdiv v5),0)
          else none
         else none
   else if (v1.2.2.2.2.2.2 != 0)=true then
    some (0,0,v1.2.2.2.2.2.2)
    else (Bg v1.1 v1.2.1 v1.2.2.1 v1.2.2.2.1 v1.2.2.2.2.1 v1.2.2.2.2.2.1 a1).bind λv8=>
     (Y6 v8.1 v8.2).bind λv9=>
      if v9≠0 then
       if v9≠0 then
        some (IntKind.i64.wrap (v8.1.tdiv v9),IntKind.i64.wrap (v8.2.tdiv v9),0)
        else none
       else none
@[go_sem] def amD:=akJ asw false TY
@[go_sem] def apZ (k:Nat):=lk [(193,afh.sp),(216,Ot.sp),(223,ah3.sp),(272,ah1.sp),(273,axM.sp)] k
theorem f214:aF prog 214 amD.sp:=by
 refine vm (tb:=apZ) (.cons f193 (.cons f216 (.cons f223 (.cons f272 (.cons f273 .nil))))) func214 ntmps214 λ⟨x0,x1,x2,x3,a1⟩ r hr stop S=> ?_
 rw [uq5,TY] at hr
 refine S.gx [] ?_
 exact D0 hr
def acd (x0 x1:Int) (x2:aA) (x3:au) (x4 x5:aV) (x6:aA) (x7 x8 a1 a2:Int):Option (Int×Int):=
 (TY x0 x1 x2 x3 a1).bind λv1=>
  (TY x0 x1 x2 x3 a2).bind λv2=>
   if v1.2.1≠0 then
    if v2.2.1≠0 then
     some (IntKind.i64.wrap (v1.1.tdiv v1.2.1),IntKind.i64.wrap ((IntKind.i64.wrap ((IntKind.i64.wrap (v2.1+v2.2.1)) - 1)).tdiv v2.2.1))
     else none
    else none
@[go_sem] def ayA:=akI qu7 false acd
@[go_sem] def aqn (k:Nat):=lk [(214,amD.sp)] k
theorem f159:aF prog 159 ayA.sp:=by
 refine vm (tb:=aqn) (.cons f214 .nil) func159 ntmps159 λ⟨x0,x1,x2,x3,x4,x5,x6,x7,x8,a1,a2⟩ r hr stop S=> ?_
 rw [afw,acd] at hr
 refine S.gx [] ?_
 exact D0 hr
def KP (x0 x1:Int) (x2:aA) (x3:au) (x4 x5:aV) (x6:aA) (x7 x8:Int) (v2:sK×Int) (s1:Int×(List (aA))):Bd (Int×(List (aA))) (eY (Int×(List (aA))) (au×Int)):=λs2=>
 if (decide (s2.1<(s1.2.length:Int)))=true then
  if 0<=s2.1/\s2.1<(s2.2.length:Int) then
   if 0<=s2.1/\s2.1<(((v2.1.getD s1.1.toNat default).1).length:Int) then
    if 0<=s2.1/\s2.1<(((v2.1.getD s1.1.toNat default).2).length:Int) then
     aW (acd x0 x1 x2 x3 x4 x5 x6 x7 x8 (((v2.1.getD s1.1.toNat default).1).getD s2.1.toNat default) (((v2.1.getD s1.1.toNat default).2).getD s2.1.toNat default)) λv3=>
      if ((s2.2.getD s2.1.toNat default).length+1)*16<=140737488355328/\(s2.2.getD s2.1.toNat default).length+1<=9223372036854775807 then
       if 0<=s2.1/\s2.1<(s2.2.length:Int) then
        .next (IntKind.i64.wrap (s2.1+1),s2.2.set s2.1.toNat ((s2.2.getD s2.1.toNat default)++[(v3.1,v3.2)]))
        else .out none
       else .out none
     else .out none
    else .out none
   else .out none
  else .out (some (.next (IntKind.i64.wrap (s1.1+1),s2.2)))
def KQ (x0 x1:Int) (x2:aA) (x3:au) (x4 x5:aV) (x6:aA) (x7 x8:Int) (v2:sK×Int):Bd (Int×(List (aA))) (au×Int):=λs1=>
 if (decide (s1.1<(v2.1.length:Int)))=true then
  if 0<=s1.1/\s1.1<(v2.1.length:Int) then
   (aK (KP x0 x1 x2 x3 x4 x5 x6 x7 x8 v2 s1) 1000000000 (0,s1.2)).getD (.out none)
   else .out none
  else .out (some (s1.2,0))
def r96 (x0 x1:Int) (x2:aA) (x3:au) (x4 x5:aV) (x6:aA) (x7 x8:Int) (a1:aA):Option (au×Int):=
 (r99 x0 x1 x2 x3 x4 x5 x6 x7 x8 a1).bind λv1=>
  (ace x0 x1 x2 x3 x4 x5 v1).bind λv2=>
   if (v2.2 != 0)=true then
    some ([],v2.2)
    else if 0<=x0/\x0<=x0/\x0<=9223372036854775807/\24*x0<=281474976710656 then
     aK (KQ x0 x1 x2 x3 x4 x5 x6 x7 x8 v2) 1000000000 (0,List.replicate x0.toNat [])
     else none
@[go_sem] def T96:=acu asv true r96
@[go_sem] def aBT (k:Nat):=lk [(99,T99.sp),(158,ayB.sp),(159,ayA.sp)] k
theorem f96:aF prog 96 T96.sp:=by
 refine vm (tb:=aBT) (.cons f99 (.cons f158 (.cons f159 .nil))) func96 ntmps96 λ⟨x0,x1,x2,x3,x4,x5,x6,x7,x8,a1⟩ r hr stop S=> ?_
 rw [Sz,r96] at hr
 refine S.gx [14] ?_
 obtain ⟨v1,hv1,hr⟩:=aB hr
 obtain ⟨v2,hv2,hr⟩:=aB hr
 refine gb hv1 ?_
 refine gb hv2 ?_
 refine iW hr (λhc hr=>D0 hr) λhc hr=> ?_
 obtain ⟨Jj,hr⟩:=aP hr
 refine gr ?_
 refine S.SS 32 2 32 rfl rfl rfl (of_eq_true (Ld _ _)) ?_
 refine S.li [2,8,33,34,35] [(2,2)] [(32,32),(22,22)] (λs1=>⟨[sR 2 2,sO 8 32,sO 33 22,sI 34 (v2.1.length:Int),sI 35 s1.1],[(2,[iC x0,iC x1,.d (aj 2 aQ x2),.d (aj 1 aU x3),.d (aj 1 dh x4),.d (aj 1 dh x5),.d (aj 2 aQ x6),iC x7,iC x8])],[(32,.deep (aj 1 aU s1.2)),(22,.owned (aj 2 mP v2.1))]⟩) (KQ x0 x1 x2 x3 x4 x5 x6 x7 x8 v2) (λq=>q=r) hr rfl ?_
 intro s1 hr
 unfold KQ at hr
 refine S.gw [14] ?_
 refine gJ hr (λhc hr=> ?_) λhc hr=> ?_
 ·obtain ⟨ZK,hr⟩:=aH hr
  refine gr ?_
  obtain ⟨q2,hq,hr⟩:=zW hr
  refine S.li [2,8,10,33,34,35,40,41] [(2,2),(10,10)] [(32,32),(22,22)] (λs2=>⟨[sR 2 2,sO 8 32,sR 10 10,sO 33 22,sI 34 (v2.1.length:Int),sI 35 s1.1,sI 40 (s1.2.length:Int),sI 41 s2.1],[(2,[iC x0,iC x1,.d (aj 2 aQ x2),.d (aj 1 aU x3),.d (aj 1 dh x4),.d (aj 1 dh x5),.d (aj 2 aQ x6),iC x7,iC x8]),(10,[.d (aj 1 dh ((v2.1.getD s1.1.toNat default).1)),.d (aj 1 dh ((v2.1.getD s1.1.toNat default).2))])],[(32,.deep (aj 1 aU s2.2)),(22,.owned (aj 2 mP v2.1))]⟩) (KP x0 x1 x2 x3 x4 x5 x6 x7 x8 v2 s1) _ hq hr ?_
  intro s2 hr
  unfold KP at hr
  refine S.gw [14] ?_
  refine gJ hr (λhc hr=>D1 (S.ss [2,8,10,33,34,35,40,41] [(2,2),(10,10)] [(32,32),(22,22)]) hr) λhc hr=> ?_
  refine gr ?_
  replace hr:=lW hr
  exact D1 (S.ss [2,8,33,34,35] [(2,2)] [(32,32),(22,22)]) hr
 refine gr ?_
 have hr:=bT hr
 refine gr ?_
 refine S.SK 32 (aj 1 aU s1.2) rfl ?_ ?_
 ·exact lf
 refine S.gx [] ?_
 exact D0 hr
end Go.Proofs.YtnepigpnlnmlmaaGreatDoor

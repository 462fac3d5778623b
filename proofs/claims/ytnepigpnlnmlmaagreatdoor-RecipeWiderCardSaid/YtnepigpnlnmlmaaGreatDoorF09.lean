/- Contracts of functions, written by wip/dec. -/
import Derived.Test.YtnepigpnlnmlmaaGreatDoorF00
import Derived.Test.YtnepigpnlnmlmaaGreatDoorF02
import Derived.Test.YtnepigpnlnmlmaaGreatDoorF03
import Derived.Test.YtnepigpnlnmlmaaGreatDoorF04
import Derived.Test.YtnepigpnlnmlmaaGreatDoorF05
import Derived.Test.YtnepigpnlnmlmaaGreatDoorF06
import Derived.Test.YtnepigpnlnmlmaaGreatDoorF07
import Derived.Test.YtnepigpnlnmlmaaGreatDoorF08
set_option linter.unusedVariables false
set_option linter.unusedSimpArgs false
set_option linter.constructorNameAsVariable false
set_option maxHeartbeats 4000000
set_option maxRecDepth 20000
namespace Go.Proofs.YtnepigpnlnmlmaaGreatDoor
open Tryz Go.dR
section
variable {β:Type} [Inhabited β] (u:β->List RV) (al:Bool)
def ard (a0 a1 a2 a3 a4 a5 a6 a7 a8 a9 a10 a11 a12 jE jR kJ:Int):List Arg:=[.agg [.int .i64 a0,.int .i64 a1,.int .i64 a2,.int .i64 a3,.int .i64 a4,.int .i64 a5,.int .i64 a6,.int .i64 a7],.agg [.int .i64 a8,.int .i64 a9,.int .i64 a10,.int .i64 a11],.agg [.int .i64 a12,.int .i64 jE,.int .i64 jR,.int .i64 kJ]]
def asX:List Arg->Int×Int×Int×Int×Int×Int×Int×Int×Int×Int×Int×Int×Int×Int×Int×Int
 | [.agg [c0,c1,c2,c3,c4,c5,c6,c7],.agg [c8,c9,c10,c11],.agg [c12,c13,c14,c15]]=>(aC c0,aC c1,aC c2,aC c3,aC c4,aC c5,aC c6,aC c7,aC c8,aC c9,aC c10,aC c11,aC c12,aC c13,aC c14,aC c15)
 | _=>default
def auf (r:Int->Int->Int->Int->Int->Int->Int->Int->Int->Int->Int->Int->Int->Int->Int->Int->Option β):=mkT (u16 ard) asX (u16 r) u al
attribute [go_sem] ard asX auf
def ara (a0:aT) (a1:aG) (a2:aJ) (a3:aA) (a4 a5 a6 a7 a8 a9 a10 a11 a12 jE jR kJ a16 a17 ng oO a20 a21:Int) (a22:au):List Arg:=[.agg [aj 4 bV a0,aj 5 bI a1,aj 3 bU a2,aj 2 aQ a3,.int .i64 a4,.int .i64 a5,.int .i64 a6,.int .i64 a7],.agg [.int .i64 a8,.int .i64 a9,.int .i64 a10,.int .i64 a11,.int .i64 a12,.int .i64 jE,.int .i64 jR,.int .i64 kJ,.int .i64 a16,.int .i64 a17,.int .i64 ng,.int .i64 oO,.int .i64 a20,.int .i64 a21],.c (aj 1 aU a22)]
def asV:List Arg->aT×aG×aJ×aA×Int×Int×Int×Int×Int×Int×Int×Int×Int×Int×Int×Int×Int×Int×Int×Int×Int×Int×au
 | [.agg [c0,c1,c2,c3,c4,c5,c6,c7],.agg [c8,c9,c10,c11,c12,c13,c14,c15,c16,c17,c18,c19,c20,c21],.c Vy]=>(aN jo c0,aN gq c1,aN jc c2,aN bZ c3,aC c4,aC c5,aC c6,aC c7,aC c8,aC c9,aC c10,aC c11,aC c12,aC c13,aC c14,aC c15,aC c16,aC c17,aC c18,aC c19,aC c20,aC c21,aN bW Vy)
 | _=>default
def aud (r:aT->aG->aJ->aA->Int->Int->Int->Int->Int->Int->Int->Int->Int->Int->Int->Int->Int->Int->Int->Int->Int->Int->au->Option β):=mkT (u23 ara) asV (u23 r) u al
attribute [go_sem] ara asV aud
def aq7 (a0 a1:Int) (a2:aA) (a3:au) (a4 a5:aV) (a6:aA) (a7 a8 a9 a10:Int) (a11:aA) (a12:au) (jE jR:aV) (kJ:aA) (a16 a17:Int) (ng:aT) (oO:aG) (a20:aJ) (a21:aA) (a22 a23 a24 a25:Int) (a26:aJ) (a27 a28 a29:Int):List Arg:=[.agg [.int .i64 a0,.int .i64 a1,aj 2 aQ a2,aj 1 aU a3,aj 1 dh a4,aj 1 dh a5,aj 2 aQ a6,.int .i64 a7,.int .i64 a8,.int .i64 a9,.int .i64 a10,aj 2 aQ a11,aj 1 aU a12,aj 1 dh jE,aj 1 dh jR,aj 2 aQ kJ,.int .i64 a16,.int .i64 a17,aj 4 bV ng,aj 5 bI oO,aj 3 bU a20,aj 2 aQ a21,.int .i64 a22,.int .i64 a23,.int .i64 a24,.int .i64 a25,aj 3 bU a26,.int .i64 a27],.c (.int .i64 a28),.c (.int .i64 a29)]
def asR:List Arg->Int×Int×aA×au×aV×aV×aA×Int×Int×Int×Int×aA×au×aV×aV×aA×Int×Int×aT×aG×aJ×aA×Int×Int×Int×Int×aJ×Int×Int×Int
 | [.agg [c0,c1,c2,c3,c4,c5,c6,c7,c8,c9,c10,c11,c12,c13,c14,c15,c16,c17,c18,c19,c20,c21,Vy,c23,c24,c25,c26,c27],.c c28,.c c29]=>(aC c0,aC c1,aN bZ c2,aN bW c3,aN kV c4,aN kV c5,aN bZ c6,aC c7,aC c8,aC c9,aC c10,aN bZ c11,aN bW c12,aN kV c13,aN kV c14,aN bZ c15,aC c16,aC c17,aN jo c18,aN gq c19,aN jc c20,aN bZ c21,aC Vy,aC c23,aC c24,aC c25,aN jc c26,aC c27,aC c28,aC c29)
 | _=>default
def auc (r:Int->Int->aA->au->aV->aV->aA->Int->Int->Int->Int->aA->au->aV->aV->aA->Int->Int->aT->aG->aJ->aA->Int->Int->Int->Int->aJ->Int->Int->Int->Option β):=mkT (u30 aq7) asR (u30 r) u al
attribute [go_sem] aq7 asR auc
def aq6 (a0 a1:Int) (a2:aA) (a3:au) (a4 a5:aV) (a6:aA) (a7 a8:Int) (a9:aT) (a10:aG) (a11:aJ) (a12:aA) (jE jR kJ a16:Int) (a17:aJ) (ng oO:Int):List Arg:=[.agg [.int .i64 a0,.int .i64 a1,aj 2 aQ a2,aj 1 aU a3,aj 1 dh a4,aj 1 dh a5,aj 2 aQ a6,.int .i64 a7,.int .i64 a8,aj 4 bV a9,aj 5 bI a10,aj 3 bU a11,aj 2 aQ a12,.int .i64 jE,.int .i64 jR,.int .i64 kJ,.int .i64 a16,aj 3 bU a17,.int .i64 ng],.c (.int .i64 oO)]
def asQ:List Arg->Int×Int×aA×au×aV×aV×aA×Int×Int×aT×aG×aJ×aA×Int×Int×Int×Int×aJ×Int×Int
 | [.agg [c0,c1,c2,c3,c4,c5,c6,c7,c8,c9,c10,c11,c12,c13,c14,c15,c16,c17,c18],.c c19]=>(aC c0,aC c1,aN bZ c2,aN bW c3,aN kV c4,aN kV c5,aN bZ c6,aC c7,aC c8,aN jo c9,aN gq c10,aN jc c11,aN bZ c12,aC c13,aC c14,aC c15,aC c16,aN jc c17,aC c18,aC c19)
 | _=>default
def aua (r:Int->Int->aA->au->aV->aV->aA->Int->Int->aT->aG->aJ->aA->Int->Int->Int->Int->aJ->Int->Int->Option β):=mkT (u20 aq6) asQ (u20 r) u al
attribute [go_sem] aq6 asQ aua
def aq5 (a0 a1:ByteArray):List Arg:=[.c (.str a0),.c (.str a1)]
def asP:List Arg->ByteArray×ByteArray
 | [.c c0,.c c1]=>(aes c0,aes c1)
 | _=>default
def acs (r:ByteArray->ByteArray->Option β):=mkT (u2 aq5) asP (u2 r) u al
attribute [go_sem] aq5 asP acs
def aq4 (a0:ByteArray):List Arg:=[.c (.str a0)]
def asO:List Arg->ByteArray
 | [.c c0]=>aes c0
 | _=>default
def akE (r:ByteArray->Option β):=mkT (u1 aq4) asO (u1 r) u al
attribute [go_sem] aq4 asO akE
def asi (v:aA×au×Int):List RV:=[.c (.own (aj 2 aQ v.1)),.c (.own (aj 1 aU v.2.1)),.c (.d (.int .i64 v.2.2))]
attribute [go_sem] asi
def akz (v:ByteArray×Bool):List RV:=[.c (.d (.str v.1)),.c (.d (.bool v.2))]
attribute [go_sem] akz
def ash (v:Int×Bool):List RV:=[.c (.d (.int .i64 v.1)),.c (.d (.err v.2))]
attribute [go_sem] ash
end
def Zl (x4:aT) (x5:aG) (x6:aJ) (x7:aA) (x2 x3 x0 x1 a1:Int):Option (Int×Int×Int×Int):=
 some (x2,x3,x0,(if x0<IntKind.i64.wrap (x1 - a1) then IntKind.i64.wrap (x1 - a1) else x0))
@[go_sem] def ayV:=Zo asj false Zl
theorem f110:aF prog 110 ayV.sp:=by
 refine vm .nil func110 ntmps110 λ⟨x4,x5,x6,x7,x2,x3,x0,x1,a1⟩ r hr stop S=> ?_
 rw [RY,Zl] at hr
 refine S.gx [] ?_
 exact D0 hr
def Oc (x0 x4 x1 x5 x2 x6 x3 x7 x8 x9 x10 x11:Int):Bd (Int×Int×Int×Int×Int×Int×Int) Int:=λs2=>
 if (decide (s2.2.2.2.2.2.2<4))=true then
  if s2.2.2.2.2.2.2=0 then
   if s2.2.2.1=0 then
    .next (IntKind.i64.wrap (s2.1 - (if IntKind.i64.wrap (x4 - x0)<s2.1 then IntKind.i64.wrap (x4 - x0) else s2.1)),IntKind.i64.wrap (s2.2.1+(IntKind.i64.wrap ((if IntKind.i64.wrap (x4 - x0)<s2.1 then IntKind.i64.wrap (x4 - x0) else s2.1)*x8))),0,s2.2.2.2.1,s2.2.2.2.2.1,s2.2.2.2.2.2.1,1)
    else if s2.2.2.1=1 then
     .next (IntKind.i64.wrap (s2.1 - (if IntKind.i64.wrap (x5 - x1)<s2.1 then IntKind.i64.wrap (x5 - x1) else s2.1)),IntKind.i64.wrap (s2.2.1+(IntKind.i64.wrap ((if IntKind.i64.wrap (x5 - x1)<s2.1 then IntKind.i64.wrap (x5 - x1) else s2.1)*x9))),1,s2.2.2.2.1,s2.2.2.2.2.1,s2.2.2.2.2.2.1,1)
     else if s2.2.2.1=2 then
      .next (IntKind.i64.wrap (s2.1 - (if IntKind.i64.wrap (x6 - x2)<s2.1 then IntKind.i64.wrap (x6 - x2) else s2.1)),IntKind.i64.wrap (s2.2.1+(IntKind.i64.wrap ((if IntKind.i64.wrap (x6 - x2)<s2.1 then IntKind.i64.wrap (x6 - x2) else s2.1)*x10))),2,s2.2.2.2.1,s2.2.2.2.2.1,s2.2.2.2.2.2.1,1)
      else if s2.2.2.1=3 then
       .next (IntKind.i64.wrap (s2.1 - (if IntKind.i64.wrap (x7 - x3)<s2.1 then IntKind.i64.wrap (x7 - x3) else s2.1)),IntKind.i64.wrap (s2.2.1+(IntKind.i64.wrap ((if IntKind.i64.wrap (x7 - x3)<s2.1 then IntKind.i64.wrap (x7 - x3) else s2.1)*x11))),3,s2.2.2.2.1,s2.2.2.2.2.1,s2.2.2.2.2.2.1,1)
       else .out none
   else if s2.2.2.2.2.2.2=1 then
    if s2.2.2.2.1=0 then
     .next (IntKind.i64.wrap (s2.1 - (if IntKind.i64.wrap (x4 - x0)<s2.1 then IntKind.i64.wrap (x4 - x0) else s2.1)),IntKind.i64.wrap (s2.2.1+(IntKind.i64.wrap ((if IntKind.i64.wrap (x4 - x0)<s2.1 then IntKind.i64.wrap (x4 - x0) else s2.1)*x8))),s2.2.2.1,0,s2.2.2.2.2.1,s2.2.2.2.2.2.1,2)
     else if s2.2.2.2.1=1 then
      .next (IntKind.i64.wrap (s2.1 - (if IntKind.i64.wrap (x5 - x1)<s2.1 then IntKind.i64.wrap (x5 - x1) else s2.1)),IntKind.i64.wrap (s2.2.1+(IntKind.i64.wrap ((if IntKind.i64.wrap (x5 - x1)<s2.1 then IntKind.i64.wrap (x5 - x1) else s2.1)*x9))),s2.2.2.1,1,s2.2.2.2.2.1,s2.2.2.2.2.2.1,2)
      else if s2.2.2.2.1=2 then
       .next (IntKind.i64.wrap (s2.1 - (if IntKind.i64.wrap (x6 - x2)<s2.1 then IntKind.i64.wrap (x6 - x2) else s2.1)),IntKind.i64.wrap (s2.2.1+(IntKind.i64.wrap ((if IntKind.i64.wrap (x6 - x2)<s2.1 then IntKind.i64.wrap (x6 - x2) else s2.1)*x10))),s2.2.2.1,2,s2.2.2.2.2.1,s2.2.2.2.2.2.1,2)
       else if s2.2.2.2.1=3 then
        .next (IntKind.i64.wrap (s2.1 - (if IntKind.i64.wrap (x7 - x3)<s2.1 then IntKind.i64.wrap (x7 - x3) else s2.1)),IntKind.i64.wrap (s2.2.1+(IntKind.i64.wrap ((if IntKind.i64.wrap (x7 - x3)<s2.1 then IntKind.i64.wrap (x7 - x3) else s2.1)*x11))),s2.2.2.1,3,s2.2.2.2.2.1,s2.2.2.2.2.2.1,2)
        else .out none
    else if s2.2.2.2.2.2.2=2 then
     if s2.2.2.2.2.1=0 then
      .next (IntKind.i64.wrap (s2.1 - (if IntKind.i64.wrap (x4 - x0)<s2.1 then IntKind.i64.wrap (x4 - x0) else s2.1)),IntKind.i64.wrap (s2.2.1+(IntKind.i64.wrap ((if IntKind.i64.wrap (x4 - x0)<s2.1 then IntKind.i64.wrap (x4 - x0) else s2.1)*x8))),s2.2.2.1,s2.2.2.2.1,0,s2.2.2.2.2.2.1,3)
      else if s2.2.2.2.2.1=1 then
       .next (IntKind.i64.wrap (s2.1 - (if IntKind.i64.wrap (x5 - x1)<s2.1 then IntKind.i64.wrap (x5 - x1) else s2.1)),IntKind.i64.wrap (s2.2.1+(IntKind.i64.wrap ((if IntKind.i64.wrap (x5 - x1)<s2.1 then IntKind.i64.wrap (x5 - x1) else s2.1)*x9))),s2.2.2.1,s2.2.2.2.1,1,s2.2.2.2.2.2.1,3)
       else if s2.2.2.2.2.1=2 then
        .next (IntKind.i64.wrap (s2.1 - (if IntKind.i64.wrap (x6 - x2)<s2.1 then IntKind.i64.wrap (x6 - x2) else s2.1)),IntKind.i64.wrap (s2.2.1+(IntKind.i64.wrap ((if IntKind.i64.wrap (x6 - x2)<s2.1 then IntKind.i64.wrap (x6 - x2) else s2.1)*x10))),s2.2.2.1,s2.2.2.2.1,2,s2.2.2.2.2.2.1,3)
        else if s2.2.2.2.2.1=3 then
         .next (IntKind.i64.wrap (s2.1 - (if IntKind.i64.wrap (x7 - x3)<s2.1 then IntKind.i64.wrap (x7 - x3) else s2.1)),IntKind.i64.wrap (s2.2.1+(IntKind.i64.wrap ((if IntKind.i64.wrap (x7 - x3)<s2.1 then IntKind.i64.wrap (x7 - x3) else s2.1)*x11))),s2.2.2.1,s2.2.2.2.1,3,s2.2.2.2.2.2.1,3)
         else .out none
     else if s2.2.2.2.2.2.2=3 then
      if s2.2.2.2.2.2.1=0 then
       .next (IntKind.i64.wrap (s2.1 - (if IntKind.i64.wrap (x4 - x0)<s2.1 then IntKind.i64.wrap (x4 - x0) else s2.1)),IntKind.i64.wrap (s2.2.1+(IntKind.i64.wrap ((if IntKind.i64.wrap (x4 - x0)<s2.1 then IntKind.i64.wrap (x4 - x0) else s2.1)*x8))),s2.2.2.1,s2.2.2.2.1,s2.2.2.2.2.1,0,4)
       else if s2.2.2.2.2.2.1=1 then
        .next (IntKind.i64.wrap (s2.1 - (if IntKind.i64.wrap (x5 - x1)<s2.1 then IntKind.i64.wrap (x5 - x1) else s2.1)),IntKind.i64.wrap (s2.2.1+(IntKind.i64.wrap ((if IntKind.i64.wrap (x5 - x1)<s2.1 then IntKind.i64.wrap (x5 - x1) else s2.1)*x9))),s2.2.2.1,s2.2.2.2.1,s2.2.2.2.2.1,1,4)
        else if s2.2.2.2.2.2.1=2 then
         .next (IntKind.i64.wrap (s2.1 - (if IntKind.i64.wrap (x6 - x2)<s2.1 then IntKind.i64.wrap (x6 - x2) else s2.1)),IntKind.i64.wrap (s2.2.1+(IntKind.i64.wrap ((if IntKind.i64.wrap (x6 - x2)<s2.1 then IntKind.i64.wrap (x6 - x2) else s2.1)*x10))),s2.2.2.1,s2.2.2.2.1,s2.2.2.2.2.1,2,4)
         else if s2.2.2.2.2.2.1=3 then
          .next (IntKind.i64.wrap (s2.1 - (if IntKind.i64.wrap (x7 - x3)<s2.1 then IntKind.i64.wrap (x7 - x3) else s2.1)),IntKind.i64.wrap (s2.2.1+(IntKind.i64.wrap ((if IntKind.i64.wrap (x7 - x3)<s2.1 then IntKind.i64.wrap (x7 - x3) else s2.1)*x11))),s2.2.2.1,s2.2.2.2.1,s2.2.2.2.2.1,3,4)
          else .out none
      else .out none
  else .out (some (IntKind.i64.wrap (s2.2.1.tdiv 1000000)))
def yT (x0 x4 x1 x5 x2 x6 x3 x7 x8 x9 x10 x11 x12 cO x14 x15:Int):Bd (Int×Int×Int) Int:=λs1=>
 if (decide (s1.2.2<4))=true then
  if s1.2.2=0 then
   .next (IntKind.i64.wrap (s1.1 - x0),IntKind.i64.wrap (s1.2.1+(IntKind.i64.wrap (x0*x8))),1)
   else if s1.2.2=1 then
    .next (IntKind.i64.wrap (s1.1 - x1),IntKind.i64.wrap (s1.2.1+(IntKind.i64.wrap (x1*x9))),2)
    else if s1.2.2=2 then
     .next (IntKind.i64.wrap (s1.1 - x2),IntKind.i64.wrap (s1.2.1+(IntKind.i64.wrap (x2*x10))),3)
     else if s1.2.2=3 then
      .next (IntKind.i64.wrap (s1.1 - x3),IntKind.i64.wrap (s1.2.1+(IntKind.i64.wrap (x3*x11))),4)
      else .out none
  else .out (aK (Oc x0 x4 x1 x5 x2 x6 x3 x7 x8 x9 x10 x11) 1000000000 (s1.1,s1.2.1,x12,cO,x14,x15,0))
def Jb (x0 x4 x1 x5 x2 x6 x3 x7 x8 x9 x10 x11 x12 cO x14 x15:Int):Option (Int):=
 aK (yT x0 x4 x1 x5 x2 x6 x3 x7 x8 x9 x10 x11 x12 cO x14 x15) 1000000000 (1000000,0,0)
@[go_sem] def axT:=auf mY false Jb
theorem f259:aF prog 259 axT.sp:=by
 refine vm .nil func259 ntmps259 λ⟨x0,x4,x1,x5,x2,x6,x3,x7,x8,x9,x10,x11,x12,cO,x14,x15⟩ r hr stop S=> ?_
 rw [anH,Jb] at hr
 refine S.gx [4,10,11] ?_
 refine gr ?_
 refine S.li [3,4,5,7,8,14,15] [(3,3),(4,4),(5,5)] [] (λs1=>⟨[sR 3 3,sR 4 4,sR 5 5,sI 7 s1.1,sI 8 s1.2.1,(14,.agg [iC x0,iC x4,iC x1,iC x5,iC x2,iC x6,iC x3,iC x7]),sI 15 s1.2.2],[(3,[iC x0,iC x4,iC x1,iC x5,iC x2,iC x6,iC x3,iC x7]),(4,[iC x8,iC x9,iC x10,iC x11]),(5,[iC x12,iC cO,iC x14,iC x15])],[]⟩) (yT x0 x4 x1 x5 x2 x6 x3 x7 x8 x9 x10 x11 x12 cO x14 x15) (λq=>q=r) hr rfl ?_
 intro s1 hr
 have z2:=S.ss [3,4,5,7,8,14,15] [(3,3),(4,4),(5,5)] []
 unfold yT at hr
 refine S.gw [4,10,11] ?_
 refine gJ hr (λhc hr=> ?_) λhc hr=> ?_
 ·refine gr ?_
  by_cases hs4:s1.2.2=0
  ·rw [if_pos hs4] at hr
   simp only [hs4]
   refine S.gx [10,11] ?_
   exact D1 z2 hr
  rw [if_neg hs4] at hr
  by_cases hs3:s1.2.2=1
  ·rw [if_pos hs3] at hr
   simp only [hs3]
   refine S.gx [10,11] ?_
   exact D1 z2 hr
  rw [if_neg hs3] at hr
  by_cases hs2:s1.2.2=2
  ·rw [if_pos hs2] at hr
   simp only [hs2]
   refine S.gx [10,11] ?_
   exact D1 z2 hr
  rw [if_neg hs2] at hr
  by_cases hs1:s1.2.2=3
  ·rw [if_pos hs1] at hr
   simp only [hs1]
   refine S.gx [10,11] ?_
   exact D1 z2 hr
  rw [if_neg hs1] at hr
  first | cases hr | exact hr.elim
 refine gr ?_
 have hr:=bT hr
 refine gr ?_
 refine S.li [3,4,7,8,32,33] [(3,3),(4,4)] [] (λs2=>⟨[sR 3 3,sR 4 4,sI 7 s2.1,sI 8 s2.2.1,(32,.agg [iC s2.2.2.1,iC s2.2.2.2.1,iC s2.2.2.2.2.1,iC s2.2.2.2.2.2.1]),sI 33 s2.2.2.2.2.2.2],[(3,[iC x0,iC x4,iC x1,iC x5,iC x2,iC x6,iC x3,iC x7]),(4,[iC x8,iC x9,iC x10,iC x11])],[]⟩) (Oc x0 x4 x1 x5 x2 x6 x3 x7 x8 x9 x10 x11) (λq=>q=r) hr rfl ?_
 intro s2 hr
 have z1:=S.ss [3,4,7,8,32,33] [(3,3),(4,4)] []
 unfold Oc at hr
 refine S.gw [4,10,11] ?_
 refine gJ hr (λhc hr=> ?_) λhc hr=>D0 hr
 refine gr ?_
 by_cases alO:s2.2.2.2.2.2.2=0
 ·rw [if_pos alO] at hr
  simp only [alO]
  refine S.gw [4,11] ?_
  by_cases alK:s2.2.2.1=0
  ·rw [if_pos alK] at hr
   simp only [alK]
   refine S.gx [4,10] ?_
   exact D1 z1 hr
  rw [if_neg alK] at hr
  by_cases alL:s2.2.2.1=1
  ·rw [if_pos alL] at hr
   simp only [alL]
   refine S.gx [4,10] ?_
   exact D1 z1 hr
  rw [if_neg alL] at hr
  by_cases alM:s2.2.2.1=2
  ·rw [if_pos alM] at hr
   simp only [alM]
   refine S.gx [4,10] ?_
   exact D1 z1 hr
  rw [if_neg alM] at hr
  by_cases alN:s2.2.2.1=3
  ·rw [if_pos alN] at hr
   simp only [alN]
   refine S.gx [4,10] ?_
   exact D1 z1 hr
  rw [if_neg alN] at hr
  first | cases hr | exact hr.elim
 rw [if_neg alO] at hr
 by_cases alT:s2.2.2.2.2.2.2=1
 ·rw [if_pos alT] at hr
  simp only [alT]
  refine S.gw [4,11] ?_
  by_cases alP:s2.2.2.2.1=0
  ·rw [if_pos alP] at hr
   simp only [alP]
   refine S.gx [4,10] ?_
   exact D1 z1 hr
  rw [if_neg alP] at hr
  by_cases alQ:s2.2.2.2.1=1
  ·rw [if_pos alQ] at hr
   simp only [alQ]
   refine S.gx [4,10] ?_
   exact D1 z1 hr
  rw [if_neg alQ] at hr
  by_cases alR:s2.2.2.2.1=2
  ·rw [if_pos alR] at hr
   simp only [alR]
   refine S.gx [4,10] ?_
   exact D1 z1 hr
  rw [if_neg alR] at hr
  by_cases alS:s2.2.2.2.1=3
  ·rw [if_pos alS] at hr
   simp only [alS]
   refine S.gx [4,10] ?_
   exact D1 z1 hr
  rw [if_neg alS] at hr
  first | cases hr | exact hr.elim
 rw [if_neg alT] at hr
 by_cases hs10:s2.2.2.2.2.2.2=2
 ·rw [if_pos hs10] at hr
  simp only [hs10]
  refine S.gw [4,11] ?_
  by_cases alU:s2.2.2.2.2.1=0
  ·rw [if_pos alU] at hr
   simp only [alU]
   refine S.gx [4,10] ?_
   exact D1 z1 hr
  rw [if_neg alU] at hr
  by_cases alV:s2.2.2.2.2.1=1
  ·rw [if_pos alV] at hr
   simp only [alV]
   refine S.gx [4,10] ?_
   exact D1 z1 hr
  rw [if_neg alV] at hr
  by_cases UH:s2.2.2.2.2.1=2
  ·rw [if_pos UH] at hr
   simp only [UH]
   refine S.gx [4,10] ?_
   exact D1 z1 hr
  rw [if_neg UH] at hr
  by_cases hs11:s2.2.2.2.2.1=3
  ·rw [if_pos hs11] at hr
   simp only [hs11]
   refine S.gx [4,10] ?_
   exact D1 z1 hr
  rw [if_neg hs11] at hr
  first | cases hr | exact hr.elim
 rw [if_neg hs10] at hr
 by_cases hs5:s2.2.2.2.2.2.2=3
 ·rw [if_pos hs5] at hr
  simp only [hs5]
  refine S.gw [4,11] ?_
  by_cases hs9:s2.2.2.2.2.2.1=0
  ·rw [if_pos hs9] at hr
   simp only [hs9]
   refine S.gx [4,10] ?_
   exact D1 z1 hr
  rw [if_neg hs9] at hr
  by_cases hs8:s2.2.2.2.2.2.1=1
  ·rw [if_pos hs8] at hr
   simp only [hs8]
   refine S.gx [4,10] ?_
   exact D1 z1 hr
  rw [if_neg hs8] at hr
  by_cases hs7:s2.2.2.2.2.2.1=2
  ·rw [if_pos hs7] at hr
   simp only [hs7]
   refine S.gx [4,10] ?_
   exact D1 z1 hr
  rw [if_neg hs7] at hr
  by_cases hs6:s2.2.2.2.2.2.1=3
  ·rw [if_pos hs6] at hr
   simp only [hs6]
   refine S.gx [4,10] ?_
   exact D1 z1 hr
  rw [if_neg hs6] at hr
  first | cases hr | exact hr.elim
 rw [if_neg hs5] at hr
 first | cases hr | exact hr.elim
def Zf (x0:aT) (x1:aG) (x2:aJ) (x3:aA) (x4 x5 x6 x7 x10 x11 x12 cO x14 x15 x16 x17 x18 x19 x20 x21 x8 x9:Int):Option (Int×Int):=
 (Y9 x10 x11 x12 cO x14 x15 x16 x17 x18 x19 x20 x21 x8 x9).bind λv1=>
  (Zl x0 x1 x2 x3 x4 x5 x6 x7 x9).bind λv2=>
   (Jb v1.1 v1.2.1 v1.2.2.1 v1.2.2.2.1 v1.2.2.2.2.1 v1.2.2.2.2.2.1 v1.2.2.2.2.2.2.1 v1.2.2.2.2.2.2.2 v2.1 v2.2.1 v2.2.2.1 v2.2.2.2 0 1 2 3).bind λv3=>
    (Zl x0 x1 x2 x3 x4 x5 x6 x7 x8).bind λv4=>
     (Jb v1.1 v1.2.1 v1.2.2.1 v1.2.2.2.1 v1.2.2.2.2.1 v1.2.2.2.2.2.1 v1.2.2.2.2.2.2.1 v1.2.2.2.2.2.2.2 v4.1 v4.2.1 v4.2.2.1 v4.2.2.2 3 2 1 0).bind λv5=>
      some (v3,v5)
@[go_sem] def ayj:=aue qu7 false Zf
@[go_sem] def ap6 (k:Nat):=lk [(110,ayV.sp),(257,amw.sp),(259,axT.sp)] k
theorem f202:aF prog 202 ayj.sp:=by
 refine vm (tb:=ap6) (.cons f110 (.cons f257 (.cons f259 .nil))) func202 ntmps202 λ⟨x0,x1,x2,x3,x4,x5,x6,x7,x10,x11,x12,cO,x14,x15,x16,x17,x18,x19,x20,x21,x8,x9⟩ r hr stop S=> ?_
 rw [anD,Zf] at hr
 refine S.gx [] ?_
 exact D0 hr
def IB (x0:aT) (x1:aG) (x2:aJ) (x3:aA) (x4 x5 x6 x7 x8 x9 x10 x11 x12 cO x14 x15 x16 x17 x18 x19 x20 x21:Int) (a2:au):Bd ((List (Int×Int))×Int) (aA×Int):=λs2=>
 if (decide (s2.2<(a2.length:Int)))=true then
  if 0<=s2.2/\s2.2<(a2.length:Int) then
   aW (abZ x0 x1 x2 x3 x4 x5 x6 x7 x8 x9 x10 x11 x12 cO x14 x15 x16 x17 x18 x19 x20 x21 (a2.getD s2.2.toNat default)) λv8=>
    aW (Zf x0 x1 x2 x3 x4 x5 x6 x7 v8.1 v8.2.1 v8.2.2.1 v8.2.2.2.1 v8.2.2.2.2.1 v8.2.2.2.2.2.1 v8.2.2.2.2.2.2.1 v8.2.2.2.2.2.2.2.1 v8.2.2.2.2.2.2.2.2.1 v8.2.2.2.2.2.2.2.2.2.1 v8.2.2.2.2.2.2.2.2.2.2.1 v8.2.2.2.2.2.2.2.2.2.2.2.1 v8.2.2.2.2.2.2.2.2.2.2.2.2.1 v8.2.2.2.2.2.2.2.2.2.2.2.2.2) λv9=>
     if (s2.1.length+1)*16<=140737488355328/\s2.1.length+1<=9223372036854775807 then
      .next (s2.1++[(v9.1,v9.2)],IntKind.i64.wrap (s2.2+1))
      else .out none
   else .out none
  else .out (some (s2.1,0))
def Oj (x0:aT) (x1:aG) (x2:aJ) (x3:aA) (x4 x5 x6 x7 x8 x9 x10 x11 x12 cO x14 x15 x16 x17 x18 x19 x20 x21:Int) (a2:au):Bd (Int×Int) (aA×Int):=λs1=>
 if (decide (s1.2<(a2.length:Int)))=true then
  if 0<=s1.2/\s1.2<(a2.length:Int) then
   aW (ab1 (a2.getD s1.2.toNat default)) λv5=>
    aW (oL [s1.1,v5]) λv6=>
     .next (v6,IntKind.i64.wrap (s1.2+1))
   else .out none
  else .out (if (s1.1 != 0)=true then
   some ([],s1.1)
   else aK (IB x0 x1 x2 x3 x4 x5 x6 x7 x8 x9 x10 x11 x12 cO x14 x15 x16 x17 x18 x19 x20 x21 a2) 1000000000 ([],0))
def Zj (x0:aT) (x1:aG) (x2:aJ) (x3:aA) (x4 x5 x6 x7 x8 x9 x10 x11 x12 cO x14 x15 x16 x17 x18 x19 x20 x21:Int) (a2:au):Option (aA×Int):=
 (acr x0 x1 x2 x3 x4 x5 x6 x7).bind λv1=>
  (ab2 x8 x9 x10 x11 x12 cO x14 x15 x16 x17 x18 x19 x20 x21).bind λv2=>
   (gW (decide ((a2.length:Int)<=12)) 8).bind λv3=>
    (oL [v1,v2,v3]).bind λv4=>
     aK (Oj x0 x1 x2 x3 x4 x5 x6 x7 x8 x9 x10 x11 x12 cO x14 x15 x16 x17 x18 x19 x20 x21 a2) 1000000000 (v4,0)
@[go_sem] def ayG:=aud agB false Zj
@[go_sem] def aqs (k:Nat):=lk [(104,aaK.sp),(105,ayX.sp),(143,RJ.sp),(200,ayl.sp),(201,ayk.sp),(202,ayj.sp),(203,ayi.sp)] k
theorem f146:aF prog 146 ayG.sp:=by
 refine vm (tb:=aqs) (.cons f104 (.cons f105 (.cons f143 (.cons f200 (.cons f201 (.cons f202 (.cons f203 .nil))))))) func146 ntmps146 λ⟨x0,x1,x2,x3,x4,x5,x6,x7,x8,x9,x10,x11,x12,cO,x14,x15,x16,x17,x18,x19,x20,x21,a2⟩ r hr stop S=> ?_
 rw [afu,Zj] at hr
 refine S.gx [] ?_
 obtain ⟨v1,hv1,hr⟩:=aB hr
 obtain ⟨v2,hv2,hr⟩:=aB hr
 obtain ⟨v3,hv3,hr⟩:=aB hr
 obtain ⟨v4,hv4,hr⟩:=aB hr
 refine gb hv1 ?_
 refine gb hv2 ?_
 refine gb hv3 ?_
 refine gb hv4 ?_
 refine S.li [2,3,4,8,24,25,26] [(3,3),(4,4)] [] (λs1=>⟨[(2,.c (.d (aj 1 aU a2))),sR 3 3,sR 4 4,sI 8 s1.1,(24,.c (.d (aj 1 aU a2))),sI 25 (a2.length:Int),sI 26 s1.2],[(3,[.d (aj 4 bV x0),.d (aj 5 bI x1),.d (aj 3 bU x2),.d (aj 2 aQ x3),iC x4,iC x5,iC x6,iC x7]),(4,[iC x8,iC x9,iC x10,iC x11,iC x12,iC cO,iC x14,iC x15,iC x16,iC x17,iC x18,iC x19,iC x20,iC x21])],[]⟩) (Oj x0 x1 x2 x3 x4 x5 x6 x7 x8 x9 x10 x11 x12 cO x14 x15 x16 x17 x18 x19 x20 x21 a2) (λq=>q=r) hr rfl ?_
 intro s1 hr
 unfold Oj at hr
 refine S.gw [] ?_
 refine gJ hr (λhc hr=>D1 (S.ss [2,3,4,8,24,25,26] [(3,3),(4,4)] []) hr) λhc hr=> ?_
 refine gr ?_
 have hr:=bT hr
 refine gr ?_
 refine iW hr (λhc hr=>D0 hr) λhc hr=> ?_
 refine gr ?_
 refine S.Ug 11 1001100 2 rfl rfl ?_
 refine S.li [3,4,11,39,40,41] [(3,3),(4,4)] [(1001100,1001100)] (λs2=>⟨[sR 3 3,sR 4 4,sO 11 1001100,(39,.c (.d (aj 1 aU a2))),sI 40 (a2.length:Int),sI 41 s2.2],[(3,[.d (aj 4 bV x0),.d (aj 5 bI x1),.d (aj 3 bU x2),.d (aj 2 aQ x3),iC x4,iC x5,iC x6,iC x7]),(4,[iC x8,iC x9,iC x10,iC x11,iC x12,iC cO,iC x14,iC x15,iC x16,iC x17,iC x18,iC x19,iC x20,iC x21])],[(1001100,.owned (aj 2 aQ s2.1))]⟩) (IB x0 x1 x2 x3 x4 x5 x6 x7 x8 x9 x10 x11 x12 cO x14 x15 x16 x17 x18 x19 x20 x21 a2) (λq=>q=r) hr rfl ?_
 intro s2 hr
 unfold IB at hr
 refine S.gx [] ?_
 exact D1 (S.ss [3,4,11,39,40,41] [(3,3),(4,4)] [(55,1001100)]) hr
def r84 (x0 x1:Int) (x2:aA) (x3:au) (x4 x5:aV) (x6:aA) (x7 x8 x17 x18:Int) (x19:aA) (x20:au) (x21 oz:aV) (x23:aA) (x24 x25:Int) (x9:aT) (x10:aG) (x11:aJ) (x12:aA) (cO x14 x15 x16:Int) (uO:aJ) (x27:Int) (a1:aA):Option (aA×au×Int):=
 (r96 x0 x1 x2 x3 x4 x5 x6 x7 x8 a1).bind λv1=>
  if (v1.2 != 0)=true then
   some ([],[],v1.2)
   else (aci 1000000 0 0 0 0 0 0).bind λv2=>
    if (v2.2.2.2.2.2.2.2.2.2.2.2.2.2.2 != 0)=true then
     some ([],[],v2.2.2.2.2.2.2.2.2.2.2.2.2.2.2)
     else (Zj x9 x10 x11 x12 cO x14 x15 x16 v2.1 v2.2.1 v2.2.2.1 v2.2.2.2.1 v2.2.2.2.2.1 v2.2.2.2.2.2.1 v2.2.2.2.2.2.2.1 v2.2.2.2.2.2.2.2.1 v2.2.2.2.2.2.2.2.2.1 v2.2.2.2.2.2.2.2.2.2.1 v2.2.2.2.2.2.2.2.2.2.2.1 v2.2.2.2.2.2.2.2.2.2.2.2.1 v2.2.2.2.2.2.2.2.2.2.2.2.2.1 v2.2.2.2.2.2.2.2.2.2.2.2.2.2.1 v1.1).bind λv3=>
      some (v3.1,v1.1,v3.2)
@[go_sem] def T84:=akG asi true r84
@[go_sem] def aBY (k:Nat):=lk [(96,T96.sp),(145,ayH.sp),(146,ayG.sp)] k
theorem f84:aF prog 84 T84.sp:=by
 refine vm (tb:=aBY) (.cons f96 (.cons f145 (.cons f146 .nil))) func84 ntmps84 λ⟨x0,x1,x2,x3,x4,x5,x6,x7,x8,x17,x18,x19,x20,x21,oz,x23,x24,x25,x9,x10,x11,x12,cO,x14,x15,x16,uO,x27,a1⟩ r hr stop S=> ?_
 rw [ajO,r84] at hr
 refine S.gx [8] ?_
 obtain ⟨v1,hv1,hr⟩:=aB hr
 refine gb hv1 ?_
 refine iW hr (λhc hr=>D0 hr) λhc hr=> ?_
 obtain ⟨v2,hv2,hr⟩:=aB hr
 refine gb hv2 ?_
 refine iW hr (λhc hr=>D0 hr) λhc hr=> ?_
 obtain ⟨v3,hv3,hr⟩:=aB hr
 refine gb hv3 ?_
 refine S.prune [7,8,10] ?_
 refine S.gx [] ?_
 exact D0 hr
def r24 (x0 x1:Int) (x2:aA) (x3:au) (x4 x5:aV) (x6:aA) (x7 x8:Int) (x9:aT) (x10:aG) (x11:aJ) (x12:aA) (cO x14 x15 x16:Int) (x17:aJ) (x18:Int) (a1:aA):Option (aA×Int):=
 (r82 x0 x1 x2 x3 x4 x5 x6 x7 x8 x9 x10 x11 x12 cO x14 x15 x16 x17 x18).bind λv1=>
  if (v1.2.2.2.2.2.2.2.2.2.2.2.2.2.2.2.2.2.2.2.2.2.2.2.2.2.2.2.2 == 0)=true then
   (r83 v1.1 v1.2.1 v1.2.2.1 v1.2.2.2.1 v1.2.2.2.2.1 v1.2.2.2.2.2.1 v1.2.2.2.2.2.2.1 v1.2.2.2.2.2.2.2.1 v1.2.2.2.2.2.2.2.2.1 a1).bind λv2=>
    if (v2 != 0)=true then
     some ([],v2)
     else (r84 v1.1 v1.2.1 v1.2.2.1 v1.2.2.2.1 v1.2.2.2.2.1 v1.2.2.2.2.2.1 v1.2.2.2.2.2.2.1 v1.2.2.2.2.2.2.2.1 v1.2.2.2.2.2.2.2.2.1 v1.2.2.2.2.2.2.2.2.2.1 v1.2.2.2.2.2.2.2.2.2.2.1 v1.2.2.2.2.2.2.2.2.2.2.2.1 v1.2.2.2.2.2.2.2.2.2.2.2.2.1 v1.2.2.2.2.2.2.2.2.2.2.2.2.2.1 v1.2.2.2.2.2.2.2.2.2.2.2.2.2.2.1 v1.2.2.2.2.2.2.2.2.2.2.2.2.2.2.2.1 v1.2.2.2.2.2.2.2.2.2.2.2.2.2.2.2.2.1 v1.2.2.2.2.2.2.2.2.2.2.2.2.2.2.2.2.2.1 v1.2.2.2.2.2.2.2.2.2.2.2.2.2.2.2.2.2.2.1 v1.2.2.2.2.2.2.2.2.2.2.2.2.2.2.2.2.2.2.2.1 v1.2.2.2.2.2.2.2.2.2.2.2.2.2.2.2.2.2.2.2.2.1 v1.2.2.2.2.2.2.2.2.2.2.2.2.2.2.2.2.2.2.2.2.2.1 v1.2.2.2.2.2.2.2.2.2.2.2.2.2.2.2.2.2.2.2.2.2.2.1 v1.2.2.2.2.2.2.2.2.2.2.2.2.2.2.2.2.2.2.2.2.2.2.2.1 v1.2.2.2.2.2.2.2.2.2.2.2.2.2.2.2.2.2.2.2.2.2.2.2.2.1 v1.2.2.2.2.2.2.2.2.2.2.2.2.2.2.2.2.2.2.2.2.2.2.2.2.2.1 v1.2.2.2.2.2.2.2.2.2.2.2.2.2.2.2.2.2.2.2.2.2.2.2.2.2.2.1 v1.2.2.2.2.2.2.2.2.2.2.2.2.2.2.2.2.2.2.2.2.2.2.2.2.2.2.2.1 a1).bind λv3=>
      if (v3.2.2 != 0)=true then
       some ([],v3.2.2)
       else some (v3.1,0)
   else if (v1.2.2.2.2.2.2.2.2.2.2.2.2.2.2.2.2.2.2.2.2.2.2.2.2.2.2.2.2 != 0)=true then
    some ([],v1.2.2.2.2.2.2.2.2.2.2.2.2.2.2.2.2.2.2.2.2.2.2.2.2.2.2.2.2)
    else (r84 v1.1 v1.2.1 v1.2.2.1 v1.2.2.2.1 v1.2.2.2.2.1 v1.2.2.2.2.2.1 v1.2.2.2.2.2.2.1 v1.2.2.2.2.2.2.2.1 v1.2.2.2.2.2.2.2.2.1 v1.2.2.2.2.2.2.2.2.2.1 v1.2.2.2.2.2.2.2.2.2.2.1 v1.2.2.2.2.2.2.2.2.2.2.2.1 v1.2.2.2.2.2.2.2.2.2.2.2.2.1 v1.2.2.2.2.2.2.2.2.2.2.2.2.2.1 v1.2.2.2.2.2.2.2.2.2.2.2.2.2.2.1 v1.2.2.2.2.2.2.2.2.2.2.2.2.2.2.2.1 v1.2.2.2.2.2.2.2.2.2.2.2.2.2.2.2.2.1 v1.2.2.2.2.2.2.2.2.2.2.2.2.2.2.2.2.2.1 v1.2.2.2.2.2.2.2.2.2.2.2.2.2.2.2.2.2.2.1 v1.2.2.2.2.2.2.2.2.2.2.2.2.2.2.2.2.2.2.2.1 v1.2.2.2.2.2.2.2.2.2.2.2.2.2.2.2.2.2.2.2.2.1 v1.2.2.2.2.2.2.2.2.2.2.2.2.2.2.2.2.2.2.2.2.2.1 v1.2.2.2.2.2.2.2.2.2.2.2.2.2.2.2.2.2.2.2.2.2.2.1 v1.2.2.2.2.2.2.2.2.2.2.2.2.2.2.2.2.2.2.2.2.2.2.2.1 v1.2.2.2.2.2.2.2.2.2.2.2.2.2.2.2.2.2.2.2.2.2.2.2.2.1 v1.2.2.2.2.2.2.2.2.2.2.2.2.2.2.2.2.2.2.2.2.2.2.2.2.2.1 v1.2.2.2.2.2.2.2.2.2.2.2.2.2.2.2.2.2.2.2.2.2.2.2.2.2.2.1 v1.2.2.2.2.2.2.2.2.2.2.2.2.2.2.2.2.2.2.2.2.2.2.2.2.2.2.2.1 a1).bind λv4=>
     if (v4.2.2 != 0)=true then
      some ([],v4.2.2)
      else some (v4.1,0)
@[go_sem] def T24:=akF agB false r24
@[go_sem] def aCb (k:Nat):=lk [(82,T82.sp),(83,T83.sp),(84,T84.sp)] k
theorem f24:aF prog 24 T24.sp:=by
 refine vm (tb:=aCb) (.cons f82 (.cons f83 (.cons f84 .nil))) func24 ntmps24 λ⟨x0,x1,x2,x3,x4,x5,x6,x7,x8,x9,x10,x11,x12,cO,x14,x15,x16,x17,x18,a1⟩ r hr stop S=> ?_
 rw [afv,r24] at hr
 refine S.gx [8,9] ?_
 obtain ⟨v1,hv1,hr⟩:=aB hr
 refine gb hv1 ?_
 refine iW hr (λhc hr=> ?_) λhc hr=> ?_
 ·obtain ⟨v2,hv2,hr⟩:=aB hr
  refine gb hv2 ?_
  refine iW hr (λhc hr=>D0 hr) λhc hr=> ?_
  obtain ⟨v3,hv3,hr⟩:=aB hr
  refine gb hv3 ?_
  refine iW hr (λhc hr=> ?_) λhc hr=> ?_
  ·refine gr ?_
   refine S.prune [7] ?_
   refine S.gx [9] ?_
   exact D0 hr
  refine gr ?_
  refine S.prune [8] ?_
  refine S.gx [8] ?_
  exact D0 hr
 refine gr ?_
 refine iW hr (λhc hr=>D0 hr) λhc hr=> ?_
 obtain ⟨v4,hv4,hr⟩:=aB hr
 refine gb hv4 ?_
 refine iW hr (λhc hr=> ?_) λhc hr=> ?_
 ·refine gr ?_
  refine S.prune [7] ?_
  refine S.gx [9] ?_
  exact D0 hr
 refine gr ?_
 refine S.prune [8] ?_
 refine S.gx [8] ?_
 exact D0 hr
def akr (x0 x1:Int) (x2:aA) (x3:au) (x4 x5:aV) (x6:aA) (x7 x8 a1 a2:Int):Option (Int):=
 (TY x0 x1 x2 x3 a1).bind λv1=>
  some (IntKind.i64.wrap (v1.1 - (IntKind.i64.wrap (a2*v1.2.1))))
@[go_sem] def ayu:=akI mY false akr
@[go_sem] def aqg (k:Nat):=lk [(214,amD.sp)] k
theorem f173:aF prog 173 ayu.sp:=by
 refine vm (tb:=aqg) (.cons f214 .nil) func173 ntmps173 λ⟨x0,x1,x2,x3,x4,x5,x6,x7,x8,a1,a2⟩ r hr stop S=> ?_
 rw [afw,akr] at hr
 refine S.gx [] ?_
 exact D0 hr
def VG (x0 x1:Int) (x2:aA) (x3:au) (x5 x4:aV) (x6:aA) (x7 x8:Int) (x9:aT) (a1:Int) (v1:aV×Int):Bd (aV×Int) (Int×Bool):=λs1=>
 if (decide (s1.2<201))=true then
  if 0<=a1/\a1<(s1.1.length:Int) then
   if 0<=0/\0<(x9.length:Int) then
    aW (akr x0 x1 x2 x3 x5 x4 x6 x7 x8 (s1.1.getD a1.toNat default) ((x9.getD 0 default).1)) λv2=>
     if (decide (v2>=0))=true then
      .out (some (s1.2,true))
      else aW (ab7 x0 x1 x2 x3 s1.1 v1.1 v1.2) λv3=>
       if (v3.2 != 0)=true then
        .out (some (s1.2,true))
        else .next (v3.1,IntKind.i64.wrap (s1.2+1))
    else .out none
   else .out none
  else .out (some (0,false))
def akx (x0 x1:Int) (x2:aA) (x3:au) (x5 x4:aV) (x6:aA) (x7 x8 x10 x11:Int) (x12:aA) (cO:au) (x14 x15:aV) (x16:aA) (x17 x18:Int) (x9:aT) (x19:aG) (x20:aJ) (x21:aA) (oz x23 x24 x25:Int) (uO:aJ) (x27 a1 a2:Int):Option (Int×Bool):=
 (MN x0 x1 x2 x3 x5 x4 x6 x7 x8 a2 0 162).bind λv1=>
  aK (VG x0 x1 x2 x3 x5 x4 x6 x7 x8 x9 a1 v1) 1000000000 (x4,0)
@[go_sem] def ayU:=auc qu6 false akx
@[go_sem] def aqD (k:Nat):=lk [(160,ah5.sp),(173,ayu.sp),(174,amG.sp)] k
theorem f111:aF prog 111 ayU.sp:=by
 refine vm (tb:=aqD) (.cons f160 (.cons f173 (.cons f174 .nil))) func111 ntmps111 λ⟨x0,x1,x2,x3,x5,x4,x6,x7,x8,x10,x11,x12,cO,x14,x15,x16,x17,x18,x9,x19,x20,x21,oz,x23,x24,x25,uO,x27,a1,a2⟩ r hr stop S=> ?_
 rw [ajN,akx] at hr
 refine S.gx [10,11] ?_
 obtain ⟨v1,hv1,hr⟩:=aB hr
 refine gb hv1 ?_
 refine S.li [1,3,8,9,23] [(3,3),(8,8)] [(17,17)] (λs1=>⟨[sI 1 a1,sR 3 3,sR 8 8,(9,.c (.d (aj 1 dh s1.1))),sI 23 s1.2],[(3,[iC x0,iC x1,.d (aj 2 aQ x2),.d (aj 1 aU x3),.d (aj 1 dh x5),.d (aj 1 dh x4),.d (aj 2 aQ x6),iC x7,iC x8,iC x10,iC x11,.d (aj 2 aQ x12),.d (aj 1 aU cO),.d (aj 1 dh x14),.d (aj 1 dh x15),.d (aj 2 aQ x16),iC x17,iC x18,.d (aj 4 bV x9),.d (aj 5 bI x19),.d (aj 3 bU x20),.d (aj 2 aQ x21),iC oz,iC x23,iC x24,iC x25,.d (aj 3 bU uO),iC x27]),(8,[.own 17,iC v1.2])],[(17,.owned (aj 1 dh v1.1))]⟩) (VG x0 x1 x2 x3 x5 x4 x6 x7 x8 x9 a1 v1) (λq=>q=r) hr rfl ?_
 intro s1 hr
 unfold VG at hr
 refine S.gw [10,11] ?_
 refine gJ hr (λhc hr=> ?_) λhc hr=>D0 hr
 obtain ⟨hg4,hr⟩:=aH hr
 obtain ⟨hg5,hr⟩:=aH hr
 obtain ⟨v2,hv2,hr⟩:=bf hr
 refine gb hv2 ?_
 refine gJ hr (λhc hr=>D0 hr) λhc hr=> ?_
 obtain ⟨v3,hv3,hr⟩:=bf hr
 refine gb hv3 ?_
 refine gJ hr (λhc hr=> ?_) λhc hr=> ?_
 ·refine gr ?_
  refine S.prune [10] ?_
  refine S.gx [11] ?_
  exact D0 hr
 refine gr ?_
 refine S.prune [1,3,8,11,23] ?_
 refine S.gw [10] ?_
 refine S.share 49 rfl ?_
 exact D1 (S.ss [1,3,8,9,23] [(3,3),(8,8)] [(17,17)]) hr
def ae8 (x1:aT) (x2:Int) (x0:aJ) (a1:Int) (v1:Int×Int×aA×au×aV×aV×aA×Int×Int×Int×Int×aA×au×aV×aV×aA×Int×Int×aT×aG×aJ×aA×Int×Int×Int×Int×aJ×Int×Int):Bd (Int×Int) (Int×Int):=λs1=>
 if (decide (s1.2<(x0.length:Int)))=true then
  if 0<=s1.2/\s1.2<(x0.length:Int) then
   if (decide (((x0.getD s1.2.toNat default).2.1)<=x2))=true then
    .next (s1.1,IntKind.i64.wrap (s1.2+1))
    else if ((x1.length:Int) == 0)=true then
     .out (some (0,12))
     else aW (akx v1.1 v1.2.1 v1.2.2.1 v1.2.2.2.1 v1.2.2.2.2.1 v1.2.2.2.2.2.1 v1.2.2.2.2.2.2.1 v1.2.2.2.2.2.2.2.1 v1.2.2.2.2.2.2.2.2.1 v1.2.2.2.2.2.2.2.2.2.1 v1.2.2.2.2.2.2.2.2.2.2.1 v1.2.2.2.2.2.2.2.2.2.2.2.1 v1.2.2.2.2.2.2.2.2.2.2.2.2.1 v1.2.2.2.2.2.2.2.2.2.2.2.2.2.1 v1.2.2.2.2.2.2.2.2.2.2.2.2.2.2.1 v1.2.2.2.2.2.2.2.2.2.2.2.2.2.2.2.1 v1.2.2.2.2.2.2.2.2.2.2.2.2.2.2.2.2.1 v1.2.2.2.2.2.2.2.2.2.2.2.2.2.2.2.2.2.1 v1.2.2.2.2.2.2.2.2.2.2.2.2.2.2.2.2.2.2.1 v1.2.2.2.2.2.2.2.2.2.2.2.2.2.2.2.2.2.2.2.1 v1.2.2.2.2.2.2.2.2.2.2.2.2.2.2.2.2.2.2.2.2.1 v1.2.2.2.2.2.2.2.2.2.2.2.2.2.2.2.2.2.2.2.2.2.1 v1.2.2.2.2.2.2.2.2.2.2.2.2.2.2.2.2.2.2.2.2.2.2.1 v1.2.2.2.2.2.2.2.2.2.2.2.2.2.2.2.2.2.2.2.2.2.2.2.1 v1.2.2.2.2.2.2.2.2.2.2.2.2.2.2.2.2.2.2.2.2.2.2.2.2.1 v1.2.2.2.2.2.2.2.2.2.2.2.2.2.2.2.2.2.2.2.2.2.2.2.2.2.1 v1.2.2.2.2.2.2.2.2.2.2.2.2.2.2.2.2.2.2.2.2.2.2.2.2.2.2.1 v1.2.2.2.2.2.2.2.2.2.2.2.2.2.2.2.2.2.2.2.2.2.2.2.2.2.2.2.1 ((x0.getD s1.2.toNat default).1) a1) λv5=>
      if (!v5.2)=true then
       .out (some (0,12))
       else .next ((if s1.1<v5.1 then v5.1 else s1.1),IntKind.i64.wrap (s1.2+1))
   else .out none
  else .out (some (s1.1,0))
def r52 (x3 x4:Int) (x5:aA) (x6:au) (x7 x8:aV) (x9:aA) (x10 x11:Int) (x1:aT) (x12:aG) (cO:aJ) (x14:aA) (x2 x15 x16 x17:Int) (x0:aJ) (x18 a1:Int):Option (Int×Int):=
 (r82 x3 x4 x5 x6 x7 x8 x9 x10 x11 x1 x12 cO x14 x2 x15 x16 x17 x0 x18).bind λv1=>
  (IL a1 1 10000).bind λv2=>
   (xu v2 2).bind λv3=>
    (r64 [v1.2.2.2.2.2.2.2.2.2.2.2.2.2.2.2.2.2.2.2.2.2.2.2.2.2.2.2.2,v3]).bind λv4=>
     if (v4 != 0)=true then
      some (0,v4)
      else aK (ae8 x1 x2 x0 a1 v1) 1000000000 (0,0)
@[go_sem] def T52:=aua JM false r52
@[go_sem] def aB6 (k:Nat):=lk [(64,T64.sp),(65,T65.sp),(71,T71.sp),(82,T82.sp),(111,ayU.sp)] k
theorem f52:aF prog 52 T52.sp:=by
 refine vm (tb:=aB6) (.cons f64 (.cons f65 (.cons f71 (.cons f82 (.cons f111 .nil))))) func52 ntmps52 λ⟨x3,x4,x5,x6,x7,x8,x9,x10,x11,x1,x12,cO,x14,x2,x15,x16,x17,x0,x18,a1⟩ r hr stop S=> ?_
 rw [afv,r52] at hr
 refine S.gx [14,16] ?_
 obtain ⟨v1,hv1,hr⟩:=aB hr
 obtain ⟨v2,hv2,hr⟩:=aB hr
 obtain ⟨v3,hv3,hr⟩:=aB hr
 obtain ⟨v4,hv4,hr⟩:=aB hr
 refine gb hv1 ?_
 refine gb hv2 ?_
 refine gb hv3 ?_
 refine gb hv4 ?_
 refine iW hr (λhc hr=>D0 hr) λhc hr=> ?_
 refine gr ?_
 refine S.li [1,2,6,8,28,29,30] [(2,2),(6,6)] [] (λs1=>⟨[sI 1 a1,sR 2 2,sR 6 6,sI 8 s1.1,(28,.c (.d (aj 3 bU x0))),sI 29 (x0.length:Int),sI 30 s1.2],[(2,[iC x3,iC x4,.d (aj 2 aQ x5),.d (aj 1 aU x6),.d (aj 1 dh x7),.d (aj 1 dh x8),.d (aj 2 aQ x9),iC x10,iC x11,.d (aj 4 bV x1),.d (aj 5 bI x12),.d (aj 3 bU cO),.d (aj 2 aQ x14),iC x2,iC x15,iC x16,iC x17,.d (aj 3 bU x0),iC x18]),(6,[iC v1.1,iC v1.2.1,.d (aj 2 aQ v1.2.2.1),.d (aj 1 aU v1.2.2.2.1),.d (aj 1 dh v1.2.2.2.2.1),.d (aj 1 dh v1.2.2.2.2.2.1),.d (aj 2 aQ v1.2.2.2.2.2.2.1),iC v1.2.2.2.2.2.2.2.1,iC v1.2.2.2.2.2.2.2.2.1,iC v1.2.2.2.2.2.2.2.2.2.1,iC v1.2.2.2.2.2.2.2.2.2.2.1,.d (aj 2 aQ v1.2.2.2.2.2.2.2.2.2.2.2.1),.d (aj 1 aU v1.2.2.2.2.2.2.2.2.2.2.2.2.1),.d (aj 1 dh v1.2.2.2.2.2.2.2.2.2.2.2.2.2.1),.d (aj 1 dh v1.2.2.2.2.2.2.2.2.2.2.2.2.2.2.1),.d (aj 2 aQ v1.2.2.2.2.2.2.2.2.2.2.2.2.2.2.2.1),iC v1.2.2.2.2.2.2.2.2.2.2.2.2.2.2.2.2.1,iC v1.2.2.2.2.2.2.2.2.2.2.2.2.2.2.2.2.2.1,.d (aj 4 bV v1.2.2.2.2.2.2.2.2.2.2.2.2.2.2.2.2.2.2.1),.d (aj 5 bI v1.2.2.2.2.2.2.2.2.2.2.2.2.2.2.2.2.2.2.2.1),.d (aj 3 bU v1.2.2.2.2.2.2.2.2.2.2.2.2.2.2.2.2.2.2.2.2.1),.d (aj 2 aQ v1.2.2.2.2.2.2.2.2.2.2.2.2.2.2.2.2.2.2.2.2.2.1),iC v1.2.2.2.2.2.2.2.2.2.2.2.2.2.2.2.2.2.2.2.2.2.2.1,iC v1.2.2.2.2.2.2.2.2.2.2.2.2.2.2.2.2.2.2.2.2.2.2.2.1,iC v1.2.2.2.2.2.2.2.2.2.2.2.2.2.2.2.2.2.2.2.2.2.2.2.2.1,iC v1.2.2.2.2.2.2.2.2.2.2.2.2.2.2.2.2.2.2.2.2.2.2.2.2.2.1,.d (aj 3 bU v1.2.2.2.2.2.2.2.2.2.2.2.2.2.2.2.2.2.2.2.2.2.2.2.2.2.2.1),iC v1.2.2.2.2.2.2.2.2.2.2.2.2.2.2.2.2.2.2.2.2.2.2.2.2.2.2.2.1])],[]⟩) (ae8 x1 x2 x0 a1 v1) (λq=>q=r) hr rfl ?_
 intro s1 hr
 have z1:=S.ss [1,2,6,8,28,29,30] [(2,2),(6,6)] []
 unfold ae8 at hr
 refine S.gw [14,16] ?_
 refine gJ hr (λhc hr=> ?_) λhc hr=>D0 hr
 obtain ⟨hg6,hr⟩:=aH hr
 refine gr ?_
 refine gJ hr (λhc hr=> ?_) λhc hr=> ?_
 ·refine gr ?_
  refine S.prune [1,2,6,8,28,29,30] ?_
  refine S.gx [14] ?_
  exact D1 z1 hr
 refine gr ?_
 refine gJ hr (λhc hr=>D0 hr) λhc hr=> ?_
 obtain ⟨v5,hv5,hr⟩:=bf hr
 refine gb hv5 ?_
 refine gJ hr (λhc hr=> ?_) λhc hr=> ?_
 ·refine gr ?_
  refine S.prune [] ?_
  refine S.gx [16] ?_
  exact D0 hr
 refine gr ?_
 refine S.prune [1,2,6,8,28,29,30] ?_
 refine S.gx [14] ?_
 exact D1 z1 hr
def Pz (a0 a1:ByteArray):Option (Int):=
 wR a0 a1
@[go_sem] def axu:=acs mY false Pz
theorem f308:aF prog 308 axu.sp:=⟨⟨Tryz.f308,func308,by decide,rfl⟩,Np (λ_=>rfl) (λ_=>rfl) (λ_=>rfl) rfl⟩
def ake (a0 a1:ByteArray):Option (Bool):=
 if (decide ((a0.size:Int)>=(a1.size:Int)))=true->0<=0/\0<=(a1.size:Int)/\(a1.size:Int)<=(a0.size:Int) then
  some ((decide ((a0.size:Int)>=(a1.size:Int))) && (decide ((a0.extract 0 a1.size)=a1)))
  else none
@[go_sem] def axr:=acs qV false ake
theorem f310:aF prog 310 axr.sp:=by
 refine vm .nil func310 ntmps310 λ⟨a0,a1⟩ r hr stop S=> ?_
 rw [DV,ake] at hr
 refine S.gx [] ?_
 obtain ⟨hg1,hr⟩:=aP hr
 repeat (first | refine gG hg1 ?_ | refine gA ?_ | refine gB ?_)
 exact D0 hr
def akf (a0 a1:ByteArray):Option (ByteArray×Bool):=
 (ake a0 a1).bind λv1=>
  if (!v1)=true then
   some (a0,false)
   else if 0<=(a1.size:Int)/\(a1.size:Int)<=(a0.size:Int)/\(a0.size:Int)<=(a0.size:Int) then
    some (a0.extract a1.size a0.size,true)
    else none
@[go_sem] def axE:=acs akz false akf
@[go_sem] def apB (k:Nat):=lk [(310,axr.sp)] k
theorem f289:aF prog 289 axE.sp:=by
 refine vm (tb:=apB) (.cons f310 .nil) func289 ntmps289 λ⟨a0,a1⟩ r hr stop S=> ?_
 rw [DV,akf] at hr
 refine S.gx [] ?_
 exact D0 hr
def MK (a0 a1:ByteArray):Option (ByteArray×Bool):=
 (akf a0 a1).bind λv1=>
  some (v1.1,v1.2)
@[go_sem] def ax2:=acs akz false MK
@[go_sem] def apR (k:Nat):=lk [(289,axE.sp)] k
theorem f241:aF prog 241 ax2.sp:=by
 refine vm (tb:=apR) (.cons f289 .nil) func241 ntmps241 λ⟨a0,a1⟩ r hr stop S=> ?_
 rw [DV,MK] at hr
 refine S.gx [] ?_
 exact D0 hr
def aqT (a0:ByteArray):Option (Int×Bool):=
 La a0
@[go_sem] def axt:=akE ash false aqT
theorem f309:aF prog 309 axt.sp:=⟨⟨Tryz.f309,func309,by decide,rfl⟩,acY (λ_=>rfl) (λ_=>rfl) (λ_=>rfl) rfl⟩
def aco (a0:Int):Option (ByteArray):=
 Qr a0
@[go_sem] def amK:=OC agA false aco
theorem f124:aF prog 124 amK.sp:=⟨⟨Tryz.f124,func124,by decide,rfl⟩,acX (λ_=>rfl) (λ_=>rfl) (λ_=>rfl) rfl⟩
def TR (a0:ByteArray):Option (Int×Bool):=
 (aqT a0).bind λv1=>
  if ((!v1.2) && (decide (v1.1>=0)))=true->(aco v1.1).isSome=true then
   some (v1.1,(((!v1.2) && (decide (v1.1>=0))) && (decide (((aco v1.1).getD default)=a0))) && (decide ((a0.size:Int)<=5)))
   else none
@[go_sem] def axF:=akE qu6 false TR
@[go_sem] def apC (k:Nat):=lk [(124,amK.sp),(309,axt.sp)] k
theorem f288:aF prog 288 axF.sp:=by
 refine vm (tb:=apC) (.cons f124 (.cons f309 .nil)) func288 ntmps288 λa0 r hr stop S=> ?_
 rw [sQ,TR] at hr
 refine S.gx [] ?_
 obtain ⟨v1,hv1,hr⟩:=aB hr
 obtain ⟨hg2,hr⟩:=aP hr
 try simp only [hv1,oG,oI,true_and,and_assoc]
 repeat (first | refine gG hg2 ?_ | refine gA ?_ | refine gB ?_)
 exact D0 hr
end Go.Proofs.YtnepigpnlnmlmaaGreatDoor

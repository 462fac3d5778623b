/- Contracts of functions, written by wip/dec. -/
import Derived.Test.YtnepigpnlnmlmaaGreatDoorF00
import Derived.Test.YtnepigpnlnmlmaaGreatDoorF07
set_option linter.unusedVariables false
set_option linter.unusedSimpArgs false
set_option linter.constructorNameAsVariable false
set_option maxHeartbeats 4000000
set_option maxRecDepth 20000
namespace Go.Proofs.YtnepigpnlnmlmaaGreatDoor
open Tryz Go.dR
section
variable {β:Type} [Inhabited β] (u:β->List RV) (al:Bool)
def ars (a0:aG) (a1:Int):List Arg:=[.c (aj 5 bI a0),.clo 282 [[.int .i64 a1]]]
def as9:List Arg->aG×Int
 | [.c c0,.clo _ [[c1]]]=>(aN gq c0,aC c1)
 | _=>default
def auq (r:aG->Int->Option β):=mkT (u2 ars) as9 (u2 r) u al
attribute [go_sem] ars as9 auq
def arq (a0 a1 a2 a3 a4 a5 a6 a7 a8 a9 a10 a11 a12 jE jR kJ a16 a17 ng:Int):List Arg:=[.agg [.int .i64 a0,.int .i64 a1,.int .i64 a2,.int .i64 a3,.int .i64 a4,.int .i64 a5,.int .i64 a6,.int .i64 a7,.int .i64 a8,.int .i64 a9,.int .i64 a10,.int .i64 a11,.int .i64 a12,.int .i64 jE],.agg [.int .i64 jR,.int .i64 kJ,.int .i64 a16,.int .i64 a17,.int .i64 ng]]
def as8:List Arg->Int×Int×Int×Int×Int×Int×Int×Int×Int×Int×Int×Int×Int×Int×Int×Int×Int×Int×Int
 | [.agg [c0,c1,c2,c3,c4,c5,c6,c7,c8,c9,c10,c11,c12,c13],.agg [c14,c15,c16,c17,c18]]=>(aC c0,aC c1,aC c2,aC c3,aC c4,aC c5,aC c6,aC c7,aC c8,aC c9,aC c10,aC c11,aC c12,aC c13,aC c14,aC c15,aC c16,aC c17,aC c18)
 | _=>default
def aup (r:Int->Int->Int->Int->Int->Int->Int->Int->Int->Int->Int->Int->Int->Int->Int->Int->Int->Int->Int->Option β):=mkT (u19 arq) as8 (u19 r) u al
attribute [go_sem] arq as8 aup
def arp (a0 a1 a2 a3:Int):List Arg:=[.agg [.int .i64 a0,.int .i64 a1,.int .i64 a2],.ptr [.int .i64 a3]]
def as7:List Arg->Int×Int×Int×Int
 | [.agg [c0,c1,c2],.ptr [c3]]=>(aC c0,aC c1,aC c2,aC c3)
 | _=>default
def auo (r:Int->Int->Int->Int->Option β):=mkT (u4 arp) as7 (u4 r) u al
attribute [go_sem] arp as7 auo
def aro (a0:aJ) (a1:Int):List Arg:=[.c (aj 3 bU a0),.clo 284 [[.int .i64 a1]]]
def as6:List Arg->aJ×Int
 | [.c c0,.clo _ [[c1]]]=>(aN jc c0,aC c1)
 | _=>default
def aun (r:aJ->Int->Option β):=mkT (u2 aro) as6 (u2 r) u al
attribute [go_sem] aro as6 aun
def arn (a0 a1 a2 a3 a4 a5 a6 a7 a8 a9 a10 a11 a12 jE jR kJ a16:Int):List Arg:=[.agg [.int .i64 a0,.int .i64 a1,.int .i64 a2,.int .i64 a3,.int .i64 a4,.int .i64 a5,.int .i64 a6,.int .i64 a7,.int .i64 a8,.int .i64 a9,.int .i64 a10,.int .i64 a11,.int .i64 a12,.int .i64 jE],.agg [.int .i64 jR,.int .i64 kJ,.int .i64 a16]]
def as5:List Arg->Int×Int×Int×Int×Int×Int×Int×Int×Int×Int×Int×Int×Int×Int×Int×Int×Int
 | [.agg [c0,c1,c2,c3,c4,c5,c6,c7,c8,c9,c10,c11,c12,c13],.agg [c14,c15,c16]]=>(aC c0,aC c1,aC c2,aC c3,aC c4,aC c5,aC c6,aC c7,aC c8,aC c9,aC c10,aC c11,aC c12,aC c13,aC c14,aC c15,aC c16)
 | _=>default
def aum (r:Int->Int->Int->Int->Int->Int->Int->Int->Int->Int->Int->Int->Int->Int->Int->Int->Int->Option β):=mkT (u17 arn) as5 (u17 r) u al
attribute [go_sem] arn as5 aum
def arl (a0 a1 a2:Int):List Arg:=[.agg [.int .i64 a0,.int .i64 a1],.ptr [.int .i64 a2]]
def as4:List Arg->Int×Int×Int
 | [.agg [c0,c1],.ptr [c2]]=>(aC c0,aC c1,aC c2)
 | _=>default
def aul (r:Int->Int->Int->Option β):=mkT (u3 arl) as4 (u3 r) u al
attribute [go_sem] arl as4 aul
def ark (a0:Int) (a1:Option (Int×Int)):List Arg:=[.c (.int .i64 a0),.ptr [yM aQ a1]]
def as3:List Arg->Int×(Option (Int×Int))
 | [.c c0,.ptr [c1]]=>(aC c0,decP bZ c1)
 | _=>default
def auk (r:Int->(Option (Int×Int))->Option β):=mkT (u2 ark) as3 (u2 r) u al
attribute [go_sem] ark as3 auk
def ari (a0 a1 a2 a3 a4 a5 a6 a7 a8 a9 a10 a11 a12 jE jR kJ a16 a17 ng oO a20 a21 a22 a23 a24 a25 a26 a27:Int):List Arg:=[.agg [.int .i64 a0,.int .i64 a1,.int .i64 a2,.int .i64 a3,.int .i64 a4,.int .i64 a5,.int .i64 a6,.int .i64 a7,.int .i64 a8,.int .i64 a9,.int .i64 a10,.int .i64 a11,.int .i64 a12,.int .i64 jE],.agg [.int .i64 jR,.int .i64 kJ,.int .i64 a16,.int .i64 a17,.int .i64 ng,.int .i64 oO,.int .i64 a20,.int .i64 a21,.int .i64 a22,.int .i64 a23,.int .i64 a24,.int .i64 a25,.int .i64 a26,.int .i64 a27]]
def as1:List Arg->Int×Int×Int×Int×Int×Int×Int×Int×Int×Int×Int×Int×Int×Int×Int×Int×Int×Int×Int×Int×Int×Int×Int×Int×Int×Int×Int×Int
 | [.agg [c0,c1,c2,c3,c4,c5,c6,c7,c8,c9,c10,c11,c12,c13],.agg [c14,c15,c16,c17,c18,c19,c20,c21,Vy,c23,c24,c25,c26,c27]]=>(aC c0,aC c1,aC c2,aC c3,aC c4,aC c5,aC c6,aC c7,aC c8,aC c9,aC c10,aC c11,aC c12,aC c13,aC c14,aC c15,aC c16,aC c17,aC c18,aC c19,aC c20,aC c21,aC Vy,aC c23,aC c24,aC c25,aC c26,aC c27)
 | _=>default
def aui (r:Int->Int->Int->Int->Int->Int->Int->Int->Int->Int->Int->Int->Int->Int->Int->Int->Int->Int->Int->Int->Int->Int->Int->Int->Int->Int->Int->Int->Option β):=mkT (u28 ari) as1 (u28 r) u al
attribute [go_sem] ari as1 aui
def aso (v:(Option (Int×Int×Int×Int×Int))):List RV:=[.c (.d (yM bI v))]
attribute [go_sem] aso
def asn (v:(Option (Int×Int×Int))):List RV:=[.c (.d (yM bU v))]
attribute [go_sem] asn
def asl (v:(Option (Int×Int))):List RV:=[.c (.d (yM aQ v))]
attribute [go_sem] asl
end
def Ob (a0:aG) (x0:Int):Bd Int Int:=λs1=>
 if (decide (s1<(a0.length:Int)))=true then
  if 0<=s1/\s1<(a0.length:Int) then
   aW (aki ((a0.getD s1.toNat default).1) ((a0.getD s1.toNat default).2.1) ((a0.getD s1.toNat default).2.2.1) ((a0.getD s1.toNat default).2.2.2.1) ((a0.getD s1.toNat default).2.2.2.2) x0) λv1=>
    if v1=true then
     .out (some s1)
     else .next (IntKind.i64.wrap (s1+1))
   else .out none
  else .out (some (-1))
def abE (a0:aG) (x0:Int):Option (Int):=
 aK (Ob a0 x0) 1000000000 0
@[go_sem] def axw:=auq mY false abE
@[go_sem] def apv (k:Nat):=lk [(282,axI.sp)] k
theorem f305:aF prog 305 axw.sp:=by
 refine vm (tb:=apv) (.cons f282 .nil) func305 ntmps305 λ⟨a0,x0⟩ r hr stop S=> ?_
 rw [DV,abE] at hr
 refine S.gx [] ?_
 refine gr ?_
 refine S.li [0,1,7,8] [] [] (λs1=>⟨[(0,.c (.d (aj 5 bI a0))),(1,.c (.clo 282 [.dM [.int .i64 x0] 0])),sI 7 (a0.length:Int),sI 8 s1],[],[]⟩) (Ob a0 x0) (λq=>q=r) hr rfl ?_
 intro s1 hr
 unfold Ob at hr
 refine S.gx [] ?_
 exact D1 (S.ss [0,1,7,8] [] []) hr
def abT (x1:aT) (x0:aG) (x2:aJ) (x3:aA) (x4 x5 x6 x7 a1:Int):Option ((Option (Int×Int×Int×Int×Int))):=
 (abE x0 a1).bind λv1=>
  if (decide (v1>=0))=true then
   if 0<=v1/\v1<(x0.length:Int) then
    some (some ((x0.getD v1.toNat default).1,(x0.getD v1.toNat default).2.1,(x0.getD v1.toNat default).2.2.1,(x0.getD v1.toNat default).2.2.2.1,(x0.getD v1.toNat default).2.2.2.2))
    else none
   else some none
@[go_sem] def ax7:=Zo aso true abT
@[go_sem] def aij (k:Nat):=lk [(305,axw.sp)] k
theorem aa6:fM prog aij:= .cons f305 .nil
theorem f228:aF prog 228 ax7.sp:=by
 refine vm (tb:=aij) (.cons f305 .nil) func228 ntmps228 λ⟨x1,x0,x2,x3,x4,x5,x6,x7,a1⟩ r hr stop S=> ?_
 rw [RY,abT] at hr
 refine S.gx [1] ?_
 refine gr ?_
 refine S.inl 4 [4] [] func281 (by decide) rfl ntmps281 (λcx e=>bD cZ aa6 cx e) (some 9) rfl rfl rfl rfl (nL rfl) (nL rfl) ?_
 refine gs ?_
 refine gr ?_
 intro stop1 S1
 refine S1.gx [] ?_
 obtain ⟨v1,hv1,hr⟩:=aB hr
 refine gb hv1 ?_
 refine iW hr (λhc hr=> ?_) λhc hr=> ?_
 ·obtain ⟨hg2,hr⟩:=aP hr
  refine S.gx [1] ?_
  exact D0 hr
 refine S.gx [1] ?_
 exact D0 hr
def Y3 (x4 x5 x0 x1 x6 x7 x8 x9 x14 x15 x10 x11 x12 cO x18 x16 x17 x2 x3:Int):Option (Int×Int×Int×Int×Int×Int×Int×Int×Int×Int×Int×Int×Int×Int):=
 (Bf (IntKind.i64.wrap (x14+x16))).bind λv1=>
  (Bf (IntKind.i64.wrap (x15+x17))).bind λv2=>
   if (v1 == 1000000)=true then
    if (v2 == 1000000)=true then
     (Bf (IntKind.i64.wrap (x7+(if x3<x1 then x3 else x1)))).bind λv3=>
      some (x4,x5,(if 0<IntKind.i64.wrap (x0 - x3) then IntKind.i64.wrap (x0 - x3) else 0),(if 0<IntKind.i64.wrap (x1 - x2) then IntKind.i64.wrap (x1 - x2) else 0),IntKind.i64.wrap (x6+(if x2<x0 then x2 else x0)),v3,x8,x9,v1,v2,x10,x11,x12,cO)
     else (Bf (IntKind.i64.wrap (x7+(if 0<x1 then 0 else x1)))).bind λv4=>
      some (x4,x5,(if 0<IntKind.i64.wrap (x0 - 0) then IntKind.i64.wrap (x0 - 0) else 0),(if 0<IntKind.i64.wrap (x1 - x2) then IntKind.i64.wrap (x1 - x2) else 0),IntKind.i64.wrap (x6+(if x2<x0 then x2 else x0)),v4,x8,x9,v1,v2,x10,x11,x12,cO)
    else if (v2 == 1000000)=true then
     (Bf (IntKind.i64.wrap (x7+(if x3<x1 then x3 else x1)))).bind λv5=>
      some (x4,x5,(if 0<IntKind.i64.wrap (x0 - x3) then IntKind.i64.wrap (x0 - x3) else 0),(if 0<IntKind.i64.wrap (x1 - 0) then IntKind.i64.wrap (x1 - 0) else 0),IntKind.i64.wrap (x6+(if 0<x0 then 0 else x0)),v5,x8,x9,v1,v2,x10,x11,x12,cO)
     else (Bf (IntKind.i64.wrap (x7+(if 0<x1 then 0 else x1)))).bind λv6=>
      some (x4,x5,(if 0<IntKind.i64.wrap (x0 - 0) then IntKind.i64.wrap (x0 - 0) else 0),(if 0<IntKind.i64.wrap (x1 - 0) then IntKind.i64.wrap (x1 - 0) else 0),IntKind.i64.wrap (x6+(if 0<x0 then 0 else x0)),v6,x8,x9,v1,v2,x10,x11,x12,cO)
@[go_sem] def axp:=aup MP false Y3
@[go_sem] def apr (k:Nat):=lk [(330,ah0.sp)] k
theorem f317:aF prog 317 axp.sp:=by
 refine vm (tb:=apr) (.cons f330 .nil) func317 ntmps317 λ⟨x4,x5,x0,x1,x6,x7,x8,x9,x14,x15,x10,x11,x12,cO,x18,x16,x17,x2,x3⟩ r hr stop S=> ?_
 rw [OL,Y3] at hr
 refine S.gx [6,7,10] ?_
 obtain ⟨v1,hv1,hr⟩:=aB hr
 obtain ⟨v2,hv2,hr⟩:=aB hr
 refine gb hv1 ?_
 refine gb hv2 ?_
 refine iW hr (λhc hr=> ?_) λhc hr=> ?_
 ·refine gr ?_
  refine iW hr (λhc hr=> ?_) λhc hr=> ?_
  ·refine gr ?_
   refine S.prune [2,3,4,5] ?_
   refine S.gw [7,10] ?_
   refine S.prune [2,4,5] ?_
   refine S.gw [6,10] ?_
   obtain ⟨v3,hv3,hr⟩:=aB hr
   refine gb hv3 ?_
   refine S.prune [2,4] ?_
   refine S.gx [6,7] ?_
   exact D0 hr
  refine gr ?_
  refine S.prune [2,4,5] ?_
  refine S.gw [6,10] ?_
  obtain ⟨v4,hv4,hr⟩:=aB hr
  refine gb hv4 ?_
  refine S.prune [2,4] ?_
  refine S.gx [6,7] ?_
  exact D0 hr
 refine gr ?_
 refine iW hr (λhc hr=> ?_) λhc hr=> ?_
 ·refine gr ?_
  refine S.prune [2,3,4,5] ?_
  refine S.gw [7,10] ?_
  refine S.prune [2,4,5] ?_
  refine S.gw [6,10] ?_
  obtain ⟨v5,hv5,hr⟩:=aB hr
  refine gb hv5 ?_
  refine S.prune [2,4] ?_
  refine S.gx [6,7] ?_
  exact D0 hr
 refine gr ?_
 refine S.prune [2,4,5] ?_
 refine S.gw [6,10] ?_
 obtain ⟨v6,hv6,hr⟩:=aB hr
 refine gb hv6 ?_
 refine S.prune [2,4] ?_
 refine S.gx [6,7] ?_
 exact D0 hr
def akh (x0 x2 x3 x1:Int):Option (Bool):=
 some (decide (x0>=x1))
@[go_sem] def axH:=auo qV false akh
theorem f284:aF prog 284 axH.sp:=by
 refine vm .nil func284 ntmps284 λ⟨x0,x2,x3,x1⟩ r hr stop S=> ?_
 rw [uq4,akh] at hr
 refine S.gx [] ?_
 exact D0 hr
def Oa (a0:aJ) (x0:Int):Bd Int Int:=λs1=>
 if (decide (s1<(a0.length:Int)))=true then
  if 0<=s1/\s1<(a0.length:Int) then
   aW (akh ((a0.getD s1.toNat default).1) ((a0.getD s1.toNat default).2.1) ((a0.getD s1.toNat default).2.2) x0) λv1=>
    if v1=true then
     .out (some s1)
     else .next (IntKind.i64.wrap (s1+1))
   else .out none
  else .out (some (-1))
def abD (a0:aJ) (x0:Int):Option (Int):=
 aK (Oa a0 x0) 1000000000 0
@[go_sem] def axv:=aun mY false abD
@[go_sem] def apu (k:Nat):=lk [(284,axH.sp)] k
theorem f306:aF prog 306 axv.sp:=by
 refine vm (tb:=apu) (.cons f284 .nil) func306 ntmps306 λ⟨a0,x0⟩ r hr stop S=> ?_
 rw [DV,abD] at hr
 refine S.gx [] ?_
 refine gr ?_
 refine S.li [0,1,7,8] [] [] (λs1=>⟨[(0,.c (.d (aj 3 bU a0))),(1,.c (.clo 284 [.dM [.int .i64 x0] 0])),sI 7 (a0.length:Int),sI 8 s1],[],[]⟩) (Oa a0 x0) (λq=>q=r) hr rfl ?_
 intro s1 hr
 unfold Oa at hr
 refine S.gx [] ?_
 exact D1 (S.ss [0,1,7,8] [] []) hr
def abS (x1:aT) (x2:aG) (x0:aJ) (x3:aA) (x4 x5 x6 x7 a1:Int):Option ((Option (Int×Int×Int))):=
 (abD x0 a1).bind λv1=>
  if (decide (v1>=0))=true then
   if 0<=v1/\v1<(x0.length:Int) then
    some (some ((x0.getD v1.toNat default).1,(x0.getD v1.toNat default).2.1,(x0.getD v1.toNat default).2.2))
    else none
   else some none
@[go_sem] def ax6:=Zo asn true abS
@[go_sem] def aii (k:Nat):=lk [(306,axv.sp)] k
theorem aa5:fM prog aii:= .cons f306 .nil
theorem f229:aF prog 229 ax6.sp:=by
 refine vm (tb:=aii) (.cons f306 .nil) func229 ntmps229 λ⟨x1,x2,x0,x3,x4,x5,x6,x7,a1⟩ r hr stop S=> ?_
 rw [RY,abS] at hr
 refine S.gx [1] ?_
 refine gr ?_
 refine S.inl 4 [4] [] func283 (by decide) rfl ntmps283 (λcx e=>bD cZ aa5 cx e) (some 9) rfl rfl rfl rfl (nL rfl) (nL rfl) ?_
 refine gs ?_
 refine gr ?_
 intro stop1 S1
 refine S1.gx [] ?_
 obtain ⟨v1,hv1,hr⟩:=aB hr
 refine gb hv1 ?_
 refine iW hr (λhc hr=> ?_) λhc hr=> ?_
 ·obtain ⟨hg2,hr⟩:=aP hr
  refine S.gx [1] ?_
  exact D0 hr
 refine S.gx [1] ?_
 exact D0 hr
def TU (a0 a1 a2:Int):Option (Int):=
 some (if a1<IntKind.i64.wrap ((IntKind.i64.wrap ((IntKind.i64.wrap (a0+a1))*a2)).tdiv 1000000) then IntKind.i64.wrap ((IntKind.i64.wrap ((IntKind.i64.wrap (a0+a1))*a2)).tdiv 1000000) else a1)
@[go_sem] def amB:=qT1 mY false TU
theorem f230:aF prog 230 amB.sp:=by
 refine vm .nil func230 ntmps230 λ⟨a0,a1,a2⟩ r hr stop S=> ?_
 rw [uq3,TU] at hr
 refine S.gx [] ?_
 exact D0 hr
def YZ (a0 a1 a2:Int):Option (Int):=
 (TU a0 a1 a2).bind λv1=>
  some (IntKind.i64.wrap ((IntKind.i64.wrap (a0+a1)) - v1))
@[go_sem] def axk:=qT1 mY false YZ
@[go_sem] def apo (k:Nat):=lk [(230,amB.sp)] k
theorem f332:aF prog 332 axk.sp:=by
 refine vm (tb:=apo) (.cons f230 .nil) func332 ntmps332 λ⟨a0,a1,a2⟩ r hr stop S=> ?_
 rw [uq3,YZ] at hr
 refine S.gx [] ?_
 exact D0 hr
def Y1 (x6 x7 x0 x1 x8 x9 x2 x3 x10 x11 x12 cO x14 x15 x16 x4 x5:Int):Option (Int×Int×Int×Int×Int×Int×Int×Int×Int×Int×Int×Int×Int×Int):=
 (TU x0 x2 x4).bind λv1=>
  (TU x1 x3 x5).bind λv2=>
   (Bf v2).bind λv3=>
    (YZ x0 x2 x5).bind λv4=>
     (YZ x1 x3 x4).bind λv5=>
      some (x6,x7,v4,v5,x8,x9,v1,v3,x10,x11,x12,cO,x14,x15)
@[go_sem] def axo:=aum MP false Y1
@[go_sem] def apq (k:Nat):=lk [(230,amB.sp),(330,ah0.sp),(332,axk.sp)] k
theorem f318:aF prog 318 axo.sp:=by
 refine vm (tb:=apq) (.cons f230 (.cons f330 (.cons f332 .nil))) func318 ntmps318 λ⟨x6,x7,x0,x1,x8,x9,x2,x3,x10,x11,x12,cO,x14,x15,x16,x4,x5⟩ r hr stop S=> ?_
 rw [anG,Y1] at hr
 refine S.gx [5] ?_
 obtain ⟨v1,hv1,hr⟩:=aB hr
 obtain ⟨v2,hv2,hr⟩:=aB hr
 obtain ⟨v3,hv3,hr⟩:=aB hr
 obtain ⟨v4,hv4,hr⟩:=aB hr
 obtain ⟨v5,hv5,hr⟩:=aB hr
 refine gb hv1 ?_
 refine gb hv2 ?_
 refine gb hv3 ?_
 refine gb hv4 ?_
 refine gb hv5 ?_
 refine S.prune [2,4] ?_
 refine S.gx [] ?_
 exact D0 hr
def akg (x0 x2 x1:Int):Option (Bool):=
 some (decide (x0<=x1))
@[go_sem] def axG:=aul qV false akg
theorem f286:aF prog 286 axG.sp:=by
 refine vm .nil func286 ntmps286 λ⟨x0,x2,x1⟩ r hr stop S=> ?_
 rw [uq3,akg] at hr
 refine S.gx [] ?_
 exact D0 hr
def Oe (x0:aA) (a1:Int):Bd Int (Option (Int×Int)):=λs1=>
 if (decide (s1>=0))=true then
  if 0<=s1/\s1<(x0.length:Int) then
   if 0<=s1/\s1<(x0.length:Int) then
    aW (akg ((x0.getD s1.toNat default).1) ((x0.getD s1.toNat default).2) a1) λv1=>
     if v1=true then
      if 0<=s1/\s1<(x0.length:Int) then
       .out (some (some ((x0.getD s1.toNat default).1,(x0.getD s1.toNat default).2)))
       else .out none
      else .next (IntKind.i64.wrap (s1 - 1))
    else .out none
   else .out none
  else .out (some none)
def abR (x1:aT) (x2:aG) (x3:aJ) (x0:aA) (x4 x5 x6 x7 a1:Int):Option ((Option (Int×Int))):=
 aK (Oe x0 a1) 1000000000 (IntKind.i64.wrap ((x0.length:Int) - 1))
@[go_sem] def ax5:=Zo asl true abR
@[go_sem] def aif (k:Nat):=lk [(286,axG.sp)] k
theorem zB:fM prog aif:= .cons f286 .nil
theorem f231:aF prog 231 ax5.sp:=by
 refine vm (tb:=aif) (.cons f286 .nil) func231 ntmps231 λ⟨x1,x2,x3,x0,x4,x5,x6,x7,a1⟩ r hr stop S=> ?_
 rw [RY,abR] at hr
 refine S.gx [1] ?_
 refine gr ?_
 refine S.inl 4 [4] [] func285 (by decide) rfl ntmps285 (λcx e=>bD cZ zB cx e) (some 9) rfl rfl rfl rfl (nL rfl) (nL rfl) ?_
 refine gs ?_
 refine gr ?_
 intro stop1 S1
 refine S1.gw [1,3] ?_
 refine S1.inl 1 [2,3,4] [] func307 (by decide) rfl ntmps307 (λcx e=>bD cZ zB cx e) (some 7) rfl rfl rfl rfl (nL rfl) (nL rfl) ?_
 refine gs ?_
 refine gr ?_
 intro stop2 S2
 refine S2.gw [] ?_
 refine S1.gw [1,3] ?_
 refine S1.range [2,3,4] func321 (by decide) rfl ntmps321 results321 (λcx e=>bD cZ zB cx e) (λcx e=>bD cZ zB cx e) (by decide) rfl rfl (nL rfl) ?_
 intro l2 stop2 aj1 S2 SJ2 Y2
 refine S2.gw [3] ?_
 refine S2.li [0,1,3] [(1,1),(100002,100002),(100003,100003),(4,4),(3,3)] [] (λs1=>⟨[(0,.c (.Yw l2)),sR 1 1,sI 3 s1],[(1,[.d (aj 2 aQ x0)]),(100002,[.d (aj 2 aQ x0)]),(100003,[.clo 286 [.ref 3 0]]),(4,[.d (yM aQ none)]),(3,[iC a1])],[]⟩) (Oe x0 a1) (λq=>q=r) hr rfl ?_
 intro s1 hr
 unfold Oe at hr
 refine S2.gw [3] ?_
 refine gJ hr (λhc hr=> ?_) λhc hr=> ?_
 ·refine gr ?_
  refine Y2 6 [0,1,3] (some 17) rfl rfl rfl rfl (nL rfl) (by rfl) ?_
  refine gs ?_
  obtain ⟨hg4,hr⟩:=aH hr
  refine gr ?_
  intro aj2 SA3
  refine SA3.gw [] ?_
  intro O7 S3
  refine S3.gw [1,3] ?_
  refine S3.gx [1] ?_
  obtain ⟨hg3,hr⟩:=aH hr
  obtain ⟨v1,hv1,hr⟩:=bf hr
  refine gb hv1 ?_
  refine gr ?_
  refine gJ hr (λhc hr=> ?_) λhc hr=> ?_
  ·obtain ⟨hg2,hr⟩:=aH hr
   refine gr ?_
   refine (SJ2 .ret).gx [3] ?_
   refine gr ?_
   have hr:=bT hr
   refine S1.gw [1,3] ?_
   refine S.gx [1] ?_
   exact D0 hr
  refine S2.gx [3] ?_
  exact D1 (S2.ss [0,1,3] [(1,1),(100002,100002),(100003,100003),(4,4),(3,3)] []) hr
 refine gr ?_
 have hr:=bT hr
 refine S1.gw [1,3] ?_
 refine S.gx [1] ?_
 exact D0 hr
def Py (a0:Int) (x0:Option (Int×Int)):Option (Int):=
 if x0.isSome=true then
  if x0.isSome=true then
   some (if 1000000<IntKind.i64.wrap (a0+((x0.getD default).2)) then 1000000 else IntKind.i64.wrap (a0+((x0.getD default).2)))
   else none
  else none
@[go_sem] def axn:=auk mY false Py
theorem f319:aF prog 319 axn.sp:=by
 refine vm .nil func319 ntmps319 λ⟨a0,x0⟩ r hr stop S=> ?_
 rw [DV,Py] at hr
 refine S.gx [] ?_
 exact D0 hr
theorem zF {σ:Type} {k:List K} {stop:List K->St->Prop} (head:σ->St) (R:σ->Prop) {goal:Prop} (main:(∀ s,R s->stop k (head s))->goal) (j:∀ s,R s->stop k (head s)):goal:=main j
def BH (x0:aT) (x1:aG) (x2:aJ) (x3:aA) (x4 x5 x6 x7 a2:Int):(Int×Int×Int×Int×Int×Int×Int×Int×Int×Int×Int×Int×Int×Int)->Option (Int×Int×Int×Int×Int×Int×Int×Int×Int×Int×Int×Int×Int×Int):=λs2=>
 (abR x0 x1 x2 x3 x4 x5 x6 x7 a2).bind λv7=>
  if v7.isSome=true then
   (Py s2.2.2.2.2.2.2.2.2.2.2.2.2.1 v7).bind λv8=>
    (Py s2.2.2.2.2.2.2.2.2.2.2.2.2.2 v7).bind λv9=>
     some (s2.1,s2.2.1,s2.2.2.1,s2.2.2.2.1,s2.2.2.2.2.1,s2.2.2.2.2.2.1,s2.2.2.2.2.2.2.1,s2.2.2.2.2.2.2.2.1,s2.2.2.2.2.2.2.2.2.1,s2.2.2.2.2.2.2.2.2.2.1,s2.2.2.2.2.2.2.2.2.2.2.1,s2.2.2.2.2.2.2.2.2.2.2.2.1,v8,v9)
   else some (s2.1,s2.2.1,s2.2.2.1,s2.2.2.2.1,s2.2.2.2.2.1,s2.2.2.2.2.2.1,s2.2.2.2.2.2.2.1,s2.2.2.2.2.2.2.2.1,s2.2.2.2.2.2.2.2.2.1,s2.2.2.2.2.2.2.2.2.2.1,s2.2.2.2.2.2.2.2.2.2.2.1,s2.2.2.2.2.2.2.2.2.2.2.2.1,s2.2.2.2.2.2.2.2.2.2.2.2.2.1,s2.2.2.2.2.2.2.2.2.2.2.2.2.2)
def BJ (x0:aT) (x1:aG) (x2:aJ) (x3:aA) (x4 x5 x6 x7 a2:Int):(Int×Int×Int×Int×Int×Int×Int×Int×Int×Int×Int×Int×Int×Int)->Option (Int×Int×Int×Int×Int×Int×Int×Int×Int×Int×Int×Int×Int×Int):=λs1=>
 (abS x0 x1 x2 x3 x4 x5 x6 x7 a2).bind λv6=>
  if v6.isSome=true then
   if v6.isSome=true then
    if v6.isSome=true then
     (Y1 s1.1 s1.2.1 s1.2.2.1 s1.2.2.2.1 s1.2.2.2.2.1 s1.2.2.2.2.2.1 s1.2.2.2.2.2.2.1 s1.2.2.2.2.2.2.2.1 s1.2.2.2.2.2.2.2.2.1 s1.2.2.2.2.2.2.2.2.2.1 s1.2.2.2.2.2.2.2.2.2.2.1 s1.2.2.2.2.2.2.2.2.2.2.2.1 s1.2.2.2.2.2.2.2.2.2.2.2.2.1 s1.2.2.2.2.2.2.2.2.2.2.2.2.2 ((v6.getD default).1) ((v6.getD default).2.1) ((v6.getD default).2.2)).bind λv10=>
      BH x0 x1 x2 x3 x4 x5 x6 x7 a2 (v10.1,v10.2.1,v10.2.2.1,v10.2.2.2.1,v10.2.2.2.2.1,v10.2.2.2.2.2.1,v10.2.2.2.2.2.2.1,v10.2.2.2.2.2.2.2.1,v10.2.2.2.2.2.2.2.2.1,v10.2.2.2.2.2.2.2.2.2.1,v10.2.2.2.2.2.2.2.2.2.2.1,v10.2.2.2.2.2.2.2.2.2.2.2.1,v10.2.2.2.2.2.2.2.2.2.2.2.2.1,v10.2.2.2.2.2.2.2.2.2.2.2.2.2)
     else none
    else none
   else BH x0 x1 x2 x3 x4 x5 x6 x7 a2 (s1.1,s1.2.1,s1.2.2.1,s1.2.2.2.1,s1.2.2.2.2.1,s1.2.2.2.2.2.1,s1.2.2.2.2.2.2.1,s1.2.2.2.2.2.2.2.1,s1.2.2.2.2.2.2.2.2.1,s1.2.2.2.2.2.2.2.2.2.1,s1.2.2.2.2.2.2.2.2.2.2.1,s1.2.2.2.2.2.2.2.2.2.2.2.1,s1.2.2.2.2.2.2.2.2.2.2.2.2.1,s1.2.2.2.2.2.2.2.2.2.2.2.2.2)
def TP (x0:aT) (x1:aG) (x2:aJ) (x3:aA) (x4 x5 x6 x7 x8 x9 x10 x11 x12 cO x14 x15 x16 x17 x18 x19 x20 x21 a2:Int):Option (Int×Int×Int×Int×Int×Int×Int×Int×Int×Int×Int×Int×Int×Int):=
 (abU x0 x1 x2 x3 x4 x5 x6 x7 a2).bind λv1=>
  if v1.isSome=true then
   if v1.isSome=true then
    if v1.isSome=true then
     (Y4 x8 x9 x10 x11 x12 cO x14 x15 x16 x17 x18 x19 x20 x21 ((v1.getD default).1) ((v1.getD default).2.1) ((v1.getD default).2.2.1) ((v1.getD default).2.2.2)).bind λv2=>
      some (v2.1,v2.2.1,v2.2.2.1,v2.2.2.2.1,v2.2.2.2.2.1,v2.2.2.2.2.2.1,v2.2.2.2.2.2.2.1,v2.2.2.2.2.2.2.2.1,v2.2.2.2.2.2.2.2.2.1,v2.2.2.2.2.2.2.2.2.2.1,v2.2.2.2.2.2.2.2.2.2.2.1,v2.2.2.2.2.2.2.2.2.2.2.2.1,v2.2.2.2.2.2.2.2.2.2.2.2.2.1,v2.2.2.2.2.2.2.2.2.2.2.2.2.2)
     else none
    else none
   else (abT x0 x1 x2 x3 x4 x5 x6 x7 a2).bind λv5=>
    if v5.isSome=true then
     if v5.isSome=true then
      if v5.isSome=true then
       (Y3 x8 x9 x10 x11 x12 cO x14 x15 x16 x17 x18 x19 x20 x21 ((v5.getD default).1) ((v5.getD default).2.1) ((v5.getD default).2.2.1) ((v5.getD default).2.2.2.1) ((v5.getD default).2.2.2.2)).bind λv13=>
        BJ x0 x1 x2 x3 x4 x5 x6 x7 a2 (v13.1,v13.2.1,v13.2.2.1,v13.2.2.2.1,v13.2.2.2.2.1,v13.2.2.2.2.2.1,v13.2.2.2.2.2.2.1,v13.2.2.2.2.2.2.2.1,v13.2.2.2.2.2.2.2.2.1,v13.2.2.2.2.2.2.2.2.2.1,v13.2.2.2.2.2.2.2.2.2.2.1,v13.2.2.2.2.2.2.2.2.2.2.2.1,v13.2.2.2.2.2.2.2.2.2.2.2.2.1,v13.2.2.2.2.2.2.2.2.2.2.2.2.2)
       else none
      else none
     else BJ x0 x1 x2 x3 x4 x5 x6 x7 a2 (x8,x9,x10,x11,x12,cO,x14,x15,x16,x17,x18,x19,x20,x21)
@[go_sem] def axz:=auj MP false TP
@[go_sem] def apw (k:Nat):=lk [(226,ax8.sp),(228,ax7.sp),(229,ax6.sp),(231,ax5.sp),(316,axq.sp),(317,axp.sp),(318,axo.sp),(319,axn.sp)] k
theorem f301:aF prog 301 axz.sp:=by
 refine vm (tb:=apw) (.cons f226 (.cons f228 (.cons f229 (.cons f231 (.cons f316 (.cons f317 (.cons f318 (.cons f319 .nil)))))))) func301 ntmps301 λ⟨x0,x1,x2,x3,x4,x5,x6,x7,x8,x9,x10,x11,x12,cO,x14,x15,x16,x17,x18,x19,x20,x21,a2⟩ r hr stop S=> ?_
 rw [afu,TP] at hr
 refine S.gx [7,10] ?_
 obtain ⟨v1,hv1,hr⟩:=aB hr
 refine gb hv1 ?_
 refine iW hr (λhc hr=>D0 hr) λhc hr=> ?_
 obtain ⟨v5,hv5,hr⟩:=aB hr
 refine gb hv5 ?_
 apply zF (stop:=stop) (λs1=>⟨[sI 2 a2,sR 3 3,sR 4 4,sR 6 6],[(3,[.d (aj 4 bV x0),.d (aj 5 bI x1),.d (aj 3 bU x2),.d (aj 2 aQ x3),iC x4,iC x5,iC x6,iC x7]),(4,[iC s1.1,iC s1.2.1,iC s1.2.2.1,iC s1.2.2.2.1,iC s1.2.2.2.2.1,iC s1.2.2.2.2.2.1,iC s1.2.2.2.2.2.2.1,iC s1.2.2.2.2.2.2.2.1,iC s1.2.2.2.2.2.2.2.2.1,iC s1.2.2.2.2.2.2.2.2.2.1,iC s1.2.2.2.2.2.2.2.2.2.2.1,iC s1.2.2.2.2.2.2.2.2.2.2.2.1,iC s1.2.2.2.2.2.2.2.2.2.2.2.2.1,iC s1.2.2.2.2.2.2.2.2.2.2.2.2.2]),(6,[iC 0,iC 0,iC 0,iC 0,iC 0,iC 0,iC 0,iC 0,iC 0,iC 0,iC 0,iC 0,iC 0,iC 0])],[]⟩) (λs1=>BJ x0 x1 x2 x3 x4 x5 x6 x7 a2 s1=some r)
 ·intro J1
  refine iW hr (λhc hr=> ?_) λhc hr=> ?_
  ·obtain ⟨ahf,hr⟩:=aP hr
   obtain ⟨ZM,hr⟩:=aP hr
   obtain ⟨v13,GV,hr⟩:=aB hr
   refine gb GV ?_
   refine S.sees [2,3,4,6] [(3,3),(4,4),(6,6)] [] ?_ (J1 _ hr)
   exact lf
  refine gr ?_
  refine S.sees [2,3,4,6] [(3,3),(4,4),(6,6)] [] ?_ (J1 _ hr)
  exact lf
 intro s1 hr
 unfold BJ at hr
 refine S.gw [7,10] ?_
 refine S.gx [10] ?_
 obtain ⟨v6,hv6,hr⟩:=aB hr
 refine gb hv6 ?_
 refine gr ?_
 apply zF (stop:=stop) (λs2=>⟨[sI 2 a2,sR 3 3,sR 4 4,sR 6 6],[(3,[.d (aj 4 bV x0),.d (aj 5 bI x1),.d (aj 3 bU x2),.d (aj 2 aQ x3),iC x4,iC x5,iC x6,iC x7]),(4,[iC s2.1,iC s2.2.1,iC s2.2.2.1,iC s2.2.2.2.1,iC s2.2.2.2.2.1,iC s2.2.2.2.2.2.1,iC s2.2.2.2.2.2.2.1,iC s2.2.2.2.2.2.2.2.1,iC s2.2.2.2.2.2.2.2.2.1,iC s2.2.2.2.2.2.2.2.2.2.1,iC s2.2.2.2.2.2.2.2.2.2.2.1,iC s2.2.2.2.2.2.2.2.2.2.2.2.1,iC s2.2.2.2.2.2.2.2.2.2.2.2.2.1,iC s2.2.2.2.2.2.2.2.2.2.2.2.2.2]),(6,[iC 0,iC 0,iC 0,iC 0,iC 0,iC 0,iC 0,iC 0,iC 0,iC 0,iC 0,iC 0,iC 0,iC 0])],[]⟩) (λs2=>BH x0 x1 x2 x3 x4 x5 x6 x7 a2 s2=some r)
 ·intro J2
  refine iW hr (λhc hr=> ?_) λhc hr=> ?_
  ·obtain ⟨Nv,hr⟩:=aP hr
   obtain ⟨Ji,hr⟩:=aP hr
   obtain ⟨v10,yI,hr⟩:=aB hr
   refine gb yI ?_
   refine S.sees [2,3,4,6] [(3,3),(4,4),(6,6)] [] ?_ (J2 _ hr)
   exact lf
  refine gr ?_
  refine S.sees [2,3,4,6] [(3,3),(4,4),(6,6)] [] ?_ (J2 _ hr)
  exact lf
 intro s2 hr
 unfold BH at hr
 refine S.gw [7,10] ?_
 refine S.gx [7] ?_
 exact D0 hr
def abH (x0 x1 x2 x3 x4 x5 x6 x7 x8 x9 x10 x11 x12 cO x14 x15 x16 x17 x18 x19 x20 x21 oz x23 x24 x25 uO x27:Int):Option (Int×Int×Int×Int×Int×Int×Int×Int×Int×Int×Int×Int×Int×Int):=
 some ((if x14<x0 then x14 else x0),(if x1<x15 then x15 else x1),(if x16<x2 then x16 else x2),(if x3<x17 then x17 else x3),(if x18<x4 then x18 else x4),(if x5<x19 then x19 else x5),(if x20<x6 then x20 else x6),(if x7<x21 then x21 else x7),(if oz<x8 then oz else x8),(if x9<x23 then x23 else x9),(if x24<x10 then x24 else x10),(if x11<x25 then x25 else x11),(if uO<x12 then uO else x12),(if cO<x27 then x27 else cO))
@[go_sem] def axy:=aui MP false abH
def aie:qj:=lk []
theorem O4:fM prog aie:=fM.nil
theorem f302:aF prog 302 axy.sp:=by
 refine vm (tb:=aie) .nil func302 ntmps302 λ⟨x0,x1,x2,x3,x4,x5,x6,x7,x8,x9,x10,x11,x12,cO,x14,x15,x16,x17,x18,x19,x20,x21,oz,x23,x24,x25,uO,x27⟩ r hr stop S=> ?_
 rw [anB,abH] at hr
 refine S.gx [1,2,6] ?_
 refine gr ?_
 refine S.inl 0 [2,4] [] func256 (by decide) rfl ntmps256 (λcx e=>bD cZ O4 cx e) (some 8) rfl rfl rfl rfl (nL rfl) (nL rfl) ?_
 refine gs ?_
 refine gr ?_
 intro stop1 S1
 refine S1.gw [] ?_
 refine S.gw [1,2,6] ?_
 refine S.inl 0 [2,4,5] [] func256 (by decide) rfl ntmps256 (λcx e=>bD cZ O4 cx e) (some 9) rfl rfl rfl rfl (nL rfl) (nL rfl) ?_
 refine gs ?_
 refine gr ?_
 intro stop1 S1
 refine S1.gw [] ?_
 refine S.gw [1,2,6] ?_
 refine S.lp ?_
 refine S.gw [1,2,6] ?_
 refine S.prune [2,4,5,9,10] ?_
 refine S.gw [1,2] ?_
 refine S.lp ?_
 refine S.gw [1,2,6] ?_
 refine S.prune [2,4,5,9,10] ?_
 refine S.gw [1,2] ?_
 refine S.lp ?_
 refine S.gw [1,2,6] ?_
 refine S.prune [2,4,5,9,10] ?_
 refine S.gw [1,2] ?_
 refine S.lp ?_
 refine S.gw [1,2,6] ?_
 refine S.prune [2,4,5,9,10] ?_
 refine S.gw [1,2] ?_
 refine S.lp ?_
 refine S.gw [1,2,6] ?_
 refine S.prune [2,4,5,9,10] ?_
 refine S.gw [1,2] ?_
 refine S.lp ?_
 refine S.gw [1,2,6] ?_
 refine S.prune [2,4,5,9,10] ?_
 refine S.gw [1,2] ?_
 refine S.lp ?_
 refine S.gw [1,2,6] ?_
 refine S.prune [2,4,5,9,10] ?_
 refine S.gw [1,2] ?_
 refine S.lp ?_
 refine S.gx [1,2,6] ?_
 exact D0 hr
def Ci (x0:aT) (x1:aG) (x2:aJ) (x3:aA) (x4 x5 x6 x7 x8 x9 x10 x11 x12 cO x14 x15 x16 x17 x18 x19 x20 x21 oz:Int):Bd (Int×Int×Int×Int×Int×Int×Int×Int×Int×Int×Int×Int×Int×Int×Int) (Int×Int×Int×Int×Int×Int×Int×Int×Int×Int×Int×Int×Int×Int):=λs1=>
 if (decide (s1.1<=oz))=true then
  aW (TP x0 x1 x2 x3 x4 x5 x6 x7 x8 x9 x10 x11 x12 cO x14 x15 x16 x17 x18 x19 x20 x21 s1.1) λv2=>
   aW (abH s1.2.1 s1.2.2.1 s1.2.2.2.1 s1.2.2.2.2.1 s1.2.2.2.2.2.1 s1.2.2.2.2.2.2.1 s1.2.2.2.2.2.2.2.1 s1.2.2.2.2.2.2.2.2.1 s1.2.2.2.2.2.2.2.2.2.1 s1.2.2.2.2.2.2.2.2.2.2.1 s1.2.2.2.2.2.2.2.2.2.2.2.1 s1.2.2.2.2.2.2.2.2.2.2.2.2.1 s1.2.2.2.2.2.2.2.2.2.2.2.2.2.1 s1.2.2.2.2.2.2.2.2.2.2.2.2.2.2 v2.1 v2.2.1 v2.2.2.1 v2.2.2.2.1 v2.2.2.2.2.1 v2.2.2.2.2.2.1 v2.2.2.2.2.2.2.1 v2.2.2.2.2.2.2.2.1 v2.2.2.2.2.2.2.2.2.1 v2.2.2.2.2.2.2.2.2.2.1 v2.2.2.2.2.2.2.2.2.2.2.1 v2.2.2.2.2.2.2.2.2.2.2.2.1 v2.2.2.2.2.2.2.2.2.2.2.2.2.1 v2.2.2.2.2.2.2.2.2.2.2.2.2.2) λv3=>
    .next (IntKind.i64.wrap (s1.1+1),v3.1,v3.2.1,v3.2.2.1,v3.2.2.2.1,v3.2.2.2.2.1,v3.2.2.2.2.2.1,v3.2.2.2.2.2.2.1,v3.2.2.2.2.2.2.2.1,v3.2.2.2.2.2.2.2.2.1,v3.2.2.2.2.2.2.2.2.2.1,v3.2.2.2.2.2.2.2.2.2.2.1,v3.2.2.2.2.2.2.2.2.2.2.2.1,v3.2.2.2.2.2.2.2.2.2.2.2.2.1,v3.2.2.2.2.2.2.2.2.2.2.2.2.2)
  else .out (some (s1.2.1,s1.2.2.1,s1.2.2.2.1,s1.2.2.2.2.1,s1.2.2.2.2.2.1,s1.2.2.2.2.2.2.1,s1.2.2.2.2.2.2.2.1,s1.2.2.2.2.2.2.2.2.1,s1.2.2.2.2.2.2.2.2.2.1,s1.2.2.2.2.2.2.2.2.2.2.1,s1.2.2.2.2.2.2.2.2.2.2.2.1,s1.2.2.2.2.2.2.2.2.2.2.2.2.1,s1.2.2.2.2.2.2.2.2.2.2.2.2.2.1,s1.2.2.2.2.2.2.2.2.2.2.2.2.2.2))
def Y8 (x0:aT) (x1:aG) (x2:aJ) (x3:aA) (x4 x5 x6 x7 x8 x9 x10 x11 x12 cO x14 x15 x16 x17 x18 x19 x20 x21 x23 oz:Int):Option (Int×Int×Int×Int×Int×Int×Int×Int×Int×Int×Int×Int×Int×Int):=
 (TP x0 x1 x2 x3 x4 x5 x6 x7 x8 x9 x10 x11 x12 cO x14 x15 x16 x17 x18 x19 x20 x21 x23).bind λv1=>
  aK (Ci x0 x1 x2 x3 x4 x5 x6 x7 x8 x9 x10 x11 x12 cO x14 x15 x16 x17 x18 x19 x20 x21 oz) 1000000000 (IntKind.i64.wrap (x23+1),v1.1,v1.2.1,v1.2.2.1,v1.2.2.2.1,v1.2.2.2.2.1,v1.2.2.2.2.2.1,v1.2.2.2.2.2.2.1,v1.2.2.2.2.2.2.2.1,v1.2.2.2.2.2.2.2.2.1,v1.2.2.2.2.2.2.2.2.2.1,v1.2.2.2.2.2.2.2.2.2.2.1,v1.2.2.2.2.2.2.2.2.2.2.2.1,v1.2.2.2.2.2.2.2.2.2.2.2.2.1,v1.2.2.2.2.2.2.2.2.2.2.2.2.2)
@[go_sem] def axS:=auh MP false Y8
@[go_sem] def apN (k:Nat):=lk [(301,axz.sp),(302,axy.sp)] k
theorem f260:aF prog 260 axS.sp:=by
 refine vm (tb:=apN) (.cons f301 (.cons f302 .nil)) func260 ntmps260 λ⟨x0,x1,x2,x3,x4,x5,x6,x7,x8,x9,x10,x11,x12,cO,x14,x15,x16,x17,x18,x19,x20,x21,x23,oz⟩ r hr stop S=> ?_
 rw [anC,Y8] at hr
 refine S.gx [] ?_
 obtain ⟨v1,hv1,hr⟩:=aB hr
 refine gb hv1 ?_
 refine S.li [3,4,5,6,7,8] [(3,3),(4,4),(5,5),(6,6),(7,7)] [] (λs1=>⟨[sR 3 3,sR 4 4,sR 5 5,sR 6 6,sR 7 7,sI 8 s1.1],[(3,[.d (aj 4 bV x0),.d (aj 5 bI x1),.d (aj 3 bU x2),.d (aj 2 aQ x3),iC x4,iC x5,iC x6,iC x7]),(4,[iC x8,iC x9,iC x10,iC x11,iC x12,iC cO,iC x14,iC x15,iC x16,iC x17,iC x18,iC x19,iC x20,iC x21]),(5,[iC x23,iC oz]),(6,[iC 0,iC 0,iC 0,iC 0,iC 0,iC 0,iC 0,iC 0,iC 0,iC 0,iC 0,iC 0,iC 0,iC 0]),(7,[iC s1.2.1,iC s1.2.2.1,iC s1.2.2.2.1,iC s1.2.2.2.2.1,iC s1.2.2.2.2.2.1,iC s1.2.2.2.2.2.2.1,iC s1.2.2.2.2.2.2.2.1,iC s1.2.2.2.2.2.2.2.2.1,iC s1.2.2.2.2.2.2.2.2.2.1,iC s1.2.2.2.2.2.2.2.2.2.2.1,iC s1.2.2.2.2.2.2.2.2.2.2.2.1,iC s1.2.2.2.2.2.2.2.2.2.2.2.2.1,iC s1.2.2.2.2.2.2.2.2.2.2.2.2.2.1,iC s1.2.2.2.2.2.2.2.2.2.2.2.2.2.2])],[]⟩) (Ci x0 x1 x2 x3 x4 x5 x6 x7 x8 x9 x10 x11 x12 cO x14 x15 x16 x17 x18 x19 x20 x21 oz) (λq=>q=r) hr rfl ?_
 intro s1 hr
 unfold Ci at hr
 refine S.gx [] ?_
 exact D1 (S.ss [3,4,5,6,7,8] [(3,3),(4,4),(5,5),(6,6),(7,7)] []) hr
def VB (x0:aT) (x1:aG) (x2:aJ) (x3:aA) (x4 x5 x6 x7:Int) (a2:aA):Bd (Int×Int×Int×Int×Int×Int×Int×Int×Int×Int×Int×Int×Int×Int×Int) (Int×Int×Int×Int×Int×Int×Int×Int×Int×Int×Int×Int×Int×Int):=λs1=>
 if (decide (s1.1<(a2.length:Int)))=true then
  if 0<=s1.1/\s1.1<(a2.length:Int) then
   aW (Y8 x0 x1 x2 x3 x4 x5 x6 x7 s1.2.1 s1.2.2.1 s1.2.2.2.1 s1.2.2.2.2.1 s1.2.2.2.2.2.1 s1.2.2.2.2.2.2.1 s1.2.2.2.2.2.2.2.1 s1.2.2.2.2.2.2.2.2.1 s1.2.2.2.2.2.2.2.2.2.1 s1.2.2.2.2.2.2.2.2.2.2.1 s1.2.2.2.2.2.2.2.2.2.2.2.1 s1.2.2.2.2.2.2.2.2.2.2.2.2.1 s1.2.2.2.2.2.2.2.2.2.2.2.2.2.1 s1.2.2.2.2.2.2.2.2.2.2.2.2.2.2 ((a2.getD s1.1.toNat default).1) ((a2.getD s1.1.toNat default).2)) λv1=>
    .next (IntKind.i64.wrap (s1.1+1),v1.1,v1.2.1,v1.2.2.1,v1.2.2.2.1,v1.2.2.2.2.1,v1.2.2.2.2.2.1,v1.2.2.2.2.2.2.1,v1.2.2.2.2.2.2.2.1,v1.2.2.2.2.2.2.2.2.1,v1.2.2.2.2.2.2.2.2.2.1,v1.2.2.2.2.2.2.2.2.2.2.1,v1.2.2.2.2.2.2.2.2.2.2.2.1,v1.2.2.2.2.2.2.2.2.2.2.2.2.1,v1.2.2.2.2.2.2.2.2.2.2.2.2.2)
   else .out none
  else .out (some (s1.2.1,s1.2.2.1,s1.2.2.2.1,s1.2.2.2.2.1,s1.2.2.2.2.2.1,s1.2.2.2.2.2.2.1,s1.2.2.2.2.2.2.2.1,s1.2.2.2.2.2.2.2.2.1,s1.2.2.2.2.2.2.2.2.2.1,s1.2.2.2.2.2.2.2.2.2.2.1,s1.2.2.2.2.2.2.2.2.2.2.2.1,s1.2.2.2.2.2.2.2.2.2.2.2.2.1,s1.2.2.2.2.2.2.2.2.2.2.2.2.2.1,s1.2.2.2.2.2.2.2.2.2.2.2.2.2.2))
def abZ (x0:aT) (x1:aG) (x2:aJ) (x3:aA) (x4 x5 x6 x7 x8 x9 x10 x11 x12 cO x14 x15 x16 x17 x18 x19 x20 x21:Int) (a2:aA):Option (Int×Int×Int×Int×Int×Int×Int×Int×Int×Int×Int×Int×Int×Int):=
 aK (VB x0 x1 x2 x3 x4 x5 x6 x7 a2) 1000000000 (0,x8,x9,x10,x11,x12,cO,x14,x15,x16,x17,x18,x19,x20,x21)
@[go_sem] def ayi:=aug MP false abZ
@[go_sem] def ap5 (k:Nat):=lk [(260,axS.sp)] k
theorem f203:aF prog 203 ayi.sp:=by
 refine vm (tb:=ap5) (.cons f260 .nil) func203 ntmps203 λ⟨x0,x1,x2,x3,x4,x5,x6,x7,x8,x9,x10,x11,x12,cO,x14,x15,x16,x17,x18,x19,x20,x21,a2⟩ r hr stop S=> ?_
 rw [afu,abZ] at hr
 refine S.gx [] ?_
 refine gr ?_
 refine S.li [3,4,6,9,10,11] [(3,3),(4,4),(6,6)] [] (λs1=>⟨[sR 3 3,sR 4 4,sR 6 6,(9,.c (.d (aj 2 aQ a2))),sI 10 (a2.length:Int),sI 11 s1.1],[(3,[.d (aj 4 bV x0),.d (aj 5 bI x1),.d (aj 3 bU x2),.d (aj 2 aQ x3),iC x4,iC x5,iC x6,iC x7]),(4,[iC s1.2.1,iC s1.2.2.1,iC s1.2.2.2.1,iC s1.2.2.2.2.1,iC s1.2.2.2.2.2.1,iC s1.2.2.2.2.2.2.1,iC s1.2.2.2.2.2.2.2.1,iC s1.2.2.2.2.2.2.2.2.1,iC s1.2.2.2.2.2.2.2.2.2.1,iC s1.2.2.2.2.2.2.2.2.2.2.1,iC s1.2.2.2.2.2.2.2.2.2.2.2.1,iC s1.2.2.2.2.2.2.2.2.2.2.2.2.1,iC s1.2.2.2.2.2.2.2.2.2.2.2.2.2.1,iC s1.2.2.2.2.2.2.2.2.2.2.2.2.2.2]),(6,[iC 0,iC 0,iC 0,iC 0,iC 0,iC 0,iC 0,iC 0,iC 0,iC 0,iC 0,iC 0,iC 0,iC 0])],[]⟩) (VB x0 x1 x2 x3 x4 x5 x6 x7 a2) (λq=>q=r) hr rfl ?_
 intro s1 hr
 unfold VB at hr
 refine S.gx [] ?_
 exact D1 (S.ss [3,4,6,9,10,11] [(3,3),(4,4),(6,6)] []) hr
end Go.Proofs.YtnepigpnlnmlmaaGreatDoor

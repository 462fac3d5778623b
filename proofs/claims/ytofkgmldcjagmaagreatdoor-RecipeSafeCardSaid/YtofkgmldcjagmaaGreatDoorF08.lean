/- Contracts of functions, written by wip/dec. -/
import Derived.Test.YtofkgmldcjagmaaGreatDoorF00
import Derived.Test.YtofkgmldcjagmaaGreatDoorF07
set_option linter.unusedVariables false
set_option linter.unusedSimpArgs false
set_option linter.constructorNameAsVariable false
set_option maxHeartbeats 4000000
set_option maxRecDepth 20000
namespace Go.Proofs.YtofkgmldcjagmaaGreatDoor
open Go.dG
section
variable {β:Type} [Inhabited β] (u:β→List RV) (al:Bool)
def aoF (a0 a1 a2 a3 a4 a5:Int):List Arg:=[.agg [.int .i64 a0,.int .i64 a1,.int .i64 a2,.int .i64 a3,.int .i64 a4],.ptr [.int .i64 a5]]
def aqk:List Arg→Int×Int×Int×Int×Int×Int
 | [.agg [c0,c1,c2,c3,c4],.ptr [c5]]=>(aB c0,aB c1,aB c2,aB c3,aB c4,aB c5)
 | _=>default
def arz (r:Int→Int→Int→Int→Int→Int→Option β):=mkT (u6 aoF) aqk (u6 r) u al
attribute [go_sem] aoF aqk arz
def aoE (a0:aW) (a1:Int):List Arg:=[.c (ah 5 bU a0),.clo 236 [[.int .i64 a1]]]
def aqj:List Arg→aW×Int
 | [.c c0,.clo _ [[c1]]]=>(aG gZ c0,aB c1)
 | _=>default
def arx (r:aW→Int→Option β):=mkT (u2 aoE) aqj (u2 r) u al
attribute [go_sem] aoE aqj arx
def aoD (a0 a1 a2 a3 a4 a5 a6 a7 a8 a9 a10 a11 a12 jP kN kM a16 a17 ni:Int):List Arg:=[.agg [.int .i64 a0,.int .i64 a1,.int .i64 a2,.int .i64 a3,.int .i64 a4,.int .i64 a5,.int .i64 a6,.int .i64 a7,.int .i64 a8,.int .i64 a9,.int .i64 a10,.int .i64 a11,.int .i64 a12,.int .i64 jP],.agg [.int .i64 kN,.int .i64 kM,.int .i64 a16,.int .i64 a17,.int .i64 ni]]
def aqi:List Arg→Int×Int×Int×Int×Int×Int×Int×Int×Int×Int×Int×Int×Int×Int×Int×Int×Int×Int×Int
 | [.agg [c0,c1,c2,c3,c4,c5,c6,c7,c8,c9,c10,c11,c12,c13],.agg [c14,c15,c16,c17,c18]]=>(aB c0,aB c1,aB c2,aB c3,aB c4,aB c5,aB c6,aB c7,aB c8,aB c9,aB c10,aB c11,aB c12,aB c13,aB c14,aB c15,aB c16,aB c17,aB c18)
 | _=>default
def arw (r:Int→Int→Int→Int→Int→Int→Int→Int→Int→Int→Int→Int→Int→Int→Int→Int→Int→Int→Int→Option β):=mkT (u19 aoD) aqi (u19 r) u al
attribute [go_sem] aoD aqi arw
def aoC (a0 a1 a2 a3:Int):List Arg:=[.agg [.int .i64 a0,.int .i64 a1,.int .i64 a2],.ptr [.int .i64 a3]]
def aqh:List Arg→Int×Int×Int×Int
 | [.agg [c0,c1,c2],.ptr [c3]]=>(aB c0,aB c1,aB c2,aB c3)
 | _=>default
def arv (r:Int→Int→Int→Int→Option β):=mkT (u4 aoC) aqh (u4 r) u al
attribute [go_sem] aoC aqh arv
def aoB (a0:bf) (a1:Int):List Arg:=[.c (ah 3 dn a0),.clo 238 [[.int .i64 a1]]]
def aqg:List Arg→bf×Int
 | [.c c0,.clo _ [[c1]]]=>(aG jG c0,aB c1)
 | _=>default
def aru (r:bf→Int→Option β):=mkT (u2 aoB) aqg (u2 r) u al
attribute [go_sem] aoB aqg aru
def aoA (a0 a1 a2 a3 a4 a5 a6 a7 a8 a9 a10 a11 a12 jP kN kM a16:Int):List Arg:=[.agg [.int .i64 a0,.int .i64 a1,.int .i64 a2,.int .i64 a3,.int .i64 a4,.int .i64 a5,.int .i64 a6,.int .i64 a7,.int .i64 a8,.int .i64 a9,.int .i64 a10,.int .i64 a11,.int .i64 a12,.int .i64 jP],.agg [.int .i64 kN,.int .i64 kM,.int .i64 a16]]
def aqf:List Arg→Int×Int×Int×Int×Int×Int×Int×Int×Int×Int×Int×Int×Int×Int×Int×Int×Int
 | [.agg [c0,c1,c2,c3,c4,c5,c6,c7,c8,c9,c10,c11,c12,c13],.agg [c14,c15,c16]]=>(aB c0,aB c1,aB c2,aB c3,aB c4,aB c5,aB c6,aB c7,aB c8,aB c9,aB c10,aB c11,aB c12,aB c13,aB c14,aB c15,aB c16)
 | _=>default
def ars (r:Int→Int→Int→Int→Int→Int→Int→Int→Int→Int→Int→Int→Int→Int→Int→Int→Int→Option β):=mkT (u17 aoA) aqf (u17 r) u al
attribute [go_sem] aoA aqf ars
def aoz (a0 a1 a2:Int):List Arg:=[.agg [.int .i64 a0,.int .i64 a1],.ptr [.int .i64 a2]]
def aqe:List Arg→Int×Int×Int
 | [.agg [c0,c1],.ptr [c2]]=>(aB c0,aB c1,aB c2)
 | _=>default
def arq (r:Int→Int→Int→Option β):=mkT (u3 aoz) aqe (u3 r) u al
attribute [go_sem] aoz aqe arq
def aoy (a0:Int) (a1:Option (Int×Int)):List Arg:=[.c (.int .i64 a0),.ptr [vX aO a1]]
def aqd:List Arg→Int×(Option (Int×Int))
 | [.c c0,.ptr [c1]]=>(aB c0,decP bW c1)
 | _=>default
def arp (r:Int→(Option (Int×Int))→Option β):=mkT (u2 aoy) aqd (u2 r) u al
attribute [go_sem] aoy aqd arp
def aox (a0:bg) (a1:aW) (a2:bf) (a3:au) (a4 a5 a6 a7 a8 a9 a10 a11 a12 jP kN kM a16 a17 ni pF a20 a21 a22:Int):List Arg:=[.agg [ah 4 cZ a0,ah 5 bU a1,ah 3 dn a2,ah 2 aO a3,.int .i64 a4,.int .i64 a5,.int .i64 a6,.int .i64 a7],.agg [.int .i64 a8,.int .i64 a9,.int .i64 a10,.int .i64 a11,.int .i64 a12,.int .i64 jP,.int .i64 kN,.int .i64 kM,.int .i64 a16,.int .i64 a17,.int .i64 ni,.int .i64 pF,.int .i64 a20,.int .i64 a21],.c (.int .i64 a22)]
def aqc:List Arg→bg×aW×bf×au×Int×Int×Int×Int×Int×Int×Int×Int×Int×Int×Int×Int×Int×Int×Int×Int×Int×Int×Int
 | [.agg [c0,c1,c2,c3,c4,c5,c6,c7],.agg [c8,c9,c10,c11,c12,c13,c14,c15,c16,c17,c18,c19,c20,c21],.c Yd]=>(aG jF c0,aG gZ c1,aG jG c2,aG bW c3,aB c4,aB c5,aB c6,aB c7,aB c8,aB c9,aB c10,aB c11,aB c12,aB c13,aB c14,aB c15,aB c16,aB c17,aB c18,aB c19,aB c20,aB c21,aB Yd)
 | _=>default
def aro (r:bg→aW→bf→au→Int→Int→Int→Int→Int→Int→Int→Int→Int→Int→Int→Int→Int→Int→Int→Int→Int→Int→Int→Option β):=mkT (u23 aox) aqc (u23 r) u al
attribute [go_sem] aox aqc aro
def aow (a0 a1 a2 a3 a4 a5 a6 a7 a8 a9 a10 a11 a12 jP kN kM a16 a17 ni pF a20 a21 a22 a23 a24 a25 a26 a27:Int):List Arg:=[.agg [.int .i64 a0,.int .i64 a1,.int .i64 a2,.int .i64 a3,.int .i64 a4,.int .i64 a5,.int .i64 a6,.int .i64 a7,.int .i64 a8,.int .i64 a9,.int .i64 a10,.int .i64 a11,.int .i64 a12,.int .i64 jP],.agg [.int .i64 kN,.int .i64 kM,.int .i64 a16,.int .i64 a17,.int .i64 ni,.int .i64 pF,.int .i64 a20,.int .i64 a21,.int .i64 a22,.int .i64 a23,.int .i64 a24,.int .i64 a25,.int .i64 a26,.int .i64 a27]]
def aqb:List Arg→Int×Int×Int×Int×Int×Int×Int×Int×Int×Int×Int×Int×Int×Int×Int×Int×Int×Int×Int×Int×Int×Int×Int×Int×Int×Int×Int×Int
 | [.agg [c0,c1,c2,c3,c4,c5,c6,c7,c8,c9,c10,c11,c12,c13],.agg [c14,c15,c16,c17,c18,c19,c20,c21,Yd,c23,c24,c25,c26,c27]]=>(aB c0,aB c1,aB c2,aB c3,aB c4,aB c5,aB c6,aB c7,aB c8,aB c9,aB c10,aB c11,aB c12,aB c13,aB c14,aB c15,aB c16,aB c17,aB c18,aB c19,aB c20,aB c21,aB Yd,aB c23,aB c24,aB c25,aB c26,aB c27)
 | _=>default
def arn (r:Int→Int→Int→Int→Int→Int→Int→Int→Int→Int→Int→Int→Int→Int→Int→Int→Int→Int→Int→Int→Int→Int→Int→Int→Int→Int→Int→Int→Option β):=mkT (u28 aow) aqb (u28 r) u al
attribute [go_sem] aow aqb arn
def aov (a0:bg) (a1:aW) (a2:bf) (a3:au) (a4 a5 a6 a7 a8 a9 a10 a11 a12 jP kN kM a16 a17 ni pF a20 a21 a22 a23:Int):List Arg:=[.agg [ah 4 cZ a0,ah 5 bU a1,ah 3 dn a2,ah 2 aO a3,.int .i64 a4,.int .i64 a5,.int .i64 a6,.int .i64 a7],.agg [.int .i64 a8,.int .i64 a9,.int .i64 a10,.int .i64 a11,.int .i64 a12,.int .i64 jP,.int .i64 kN,.int .i64 kM,.int .i64 a16,.int .i64 a17,.int .i64 ni,.int .i64 pF,.int .i64 a20,.int .i64 a21],.agg [.int .i64 a22,.int .i64 a23]]
def aqa:List Arg→bg×aW×bf×au×Int×Int×Int×Int×Int×Int×Int×Int×Int×Int×Int×Int×Int×Int×Int×Int×Int×Int×Int×Int
 | [.agg [c0,c1,c2,c3,c4,c5,c6,c7],.agg [c8,c9,c10,c11,c12,c13,c14,c15,c16,c17,c18,c19,c20,c21],.agg [Yd,c23]]=>(aG jF c0,aG gZ c1,aG jG c2,aG bW c3,aB c4,aB c5,aB c6,aB c7,aB c8,aB c9,aB c10,aB c11,aB c12,aB c13,aB c14,aB c15,aB c16,aB c17,aB c18,aB c19,aB c20,aB c21,aB Yd,aB c23)
 | _=>default
def arl (r:bg→aW→bf→au→Int→Int→Int→Int→Int→Int→Int→Int→Int→Int→Int→Int→Int→Int→Int→Int→Int→Int→Int→Int→Option β):=mkT (u24 aov) aqa (u24 r) u al
attribute [go_sem] aov aqa arl
def apy (v:(Option (Int×Int×Int×Int×Int))):List RV:=[.c (.d (vX bU v))]
attribute [go_sem] apy
def apx (v:(Option (Int×Int×Int))):List RV:=[.c (.d (vX dn v))]
attribute [go_sem] apx
def apw (v:(Option (Int×Int))):List RV:=[.c (.d (vX aO v))]
attribute [go_sem] apw
end
def ahF (x0 x2 x3 x4 x5 x1:Int):Option (Bool):=
 some (decide (x0≥x1))
@[go_sem] def auq:=arz qE false ahF
theorem f236:aF Tryz.prog 236 auq.sp:=by
 refine vm .nil Tryz.func236 Tryz.ntmps236 fun ⟨x0,x2,x3,x4,x5,x1⟩ r hr stop S=> ?_
 rw [YA,ahF] at hr
 refine S.gx [] ?_
 exact D0 hr
def QJ (a0:aW) (x0:Int):Bd Int Int:=fun s1=>
 if (decide (s1<(a0.length:Int)))=true then
  if 0≤s1∧s1<(a0.length:Int) then
   aP (ahF ((a0.getD s1.toNat default).1) ((a0.getD s1.toNat default).2.1) ((a0.getD s1.toNat default).2.2.1) ((a0.getD s1.toNat default).2.2.2.1) ((a0.getD s1.toNat default).2.2.2.2) x0) fun v1=>
    if v1=true then
     .out (some s1)
     else .next (IntKind.i64.wrap (s1+1))
   else .out none
  else .out (some (-1))
def ahC (a0:aW) (x0:Int):Option (Int):=
 aS (QJ a0 x0) 1000000000 0
@[go_sem] def aum:=arx lK false ahC
@[go_sem] def amZ (k:Nat):=lk [(236,auq.sp)] k
theorem f253:aF Tryz.prog 253 aum.sp:=by
 refine vm (tb:=amZ) (.cons f236 .nil) Tryz.func253 Tryz.ntmps253 fun ⟨a0,x0⟩ r hr stop S=> ?_
 rw [yK,ahC] at hr
 refine S.gx [] ?_
 refine gr ?_
 refine S.sees [0,1,7,8] [] [] ?_ (Stop.iter S (fun s1=>⟨[(0,.c (.d (ah 5 bU a0))),(1,.c (.clo 236 [.dK [.int .i64 x0] 0])),(7,.c (.d (.int .i64 (a0.length:Int)))),(8,.c (.d (.int .i64 s1)))],[],[]⟩) (QJ a0 x0) (fun q=>q=r) hr rfl ?_)
 ·exact lf
 ·intro s1 hr
  unfold QJ at hr
  refine S.gx [] ?_
  exact D1 (S.ss [0,1,7,8] [] []) hr
def ahI (x1:bg) (x0:aW) (x2:bf) (x3:au) (x4 x5 x6 x7 a1:Int):Option ((Option (Int×Int×Int×Int×Int))):=
 (ahC x0 a1).bind fun v1=>
  if (decide (v1≥0))=true then
   if 0≤v1∧v1<(x0.length:Int) then
    some (some ((x0.getD v1.toNat default).1,(x0.getD v1.toNat default).2.1,(x0.getD v1.toNat default).2.2.1,(x0.getD v1.toNat default).2.2.2.1,(x0.getD v1.toNat default).2.2.2.2))
    else none
   else some none
@[go_sem] def auz:=WX apy true ahI
@[go_sem] def afR (k:Nat):=lk [(253,aum.sp)] k
theorem YJ:fC Tryz.prog afR:= .cons f253 .nil
theorem f217:aF Tryz.prog 217 auz.sp:=by
 refine vm (tb:=afR) (.cons f253 .nil) Tryz.func217 Tryz.ntmps217 fun ⟨x1,x0,x2,x3,x4,x5,x6,x7,a1⟩ r hr stop S=> ?_
 rw [Oa,ahI] at hr
 refine S.gx [1] ?_
 refine gr ?_
 refine S.inl 4 [4] [] Tryz.func235 (by decide) rfl Tryz.ntmps235 (fun cx e=>aT bT YJ cx e) (some 9) rfl rfl rfl rfl (nL rfl) (nL rfl) ?_
 refine gs ?_
 refine gr ?_
 intro stop1 S1
 refine S1.gx [] ?_
 obtain ⟨v1,hv1,hr⟩:=aA hr
 refine gb hv1 ?_
 refine iW hr (fun hc hr=> ?_) fun hc hr=> ?_
 ·obtain ⟨hg2,hr⟩:=aH hr
  refine gr ?_
  refine gr ?_
  refine S.gx [1] ?_
  exact D0 hr
 ·refine gr ?_
  refine gr ?_
  refine S.gx [1] ?_
  exact D0 hr
def ahH (x4 x5 x0 x1 x6 x7 x8 x9 x14 x15 x10 x11 x12 dO x18 x16 x17 x2 x3:Int):Option (Int×Int×Int×Int×Int×Int×Int×Int×Int×Int×Int×Int×Int×Int):=
 (Cm (IntKind.i64.wrap (x14+x16))).bind fun v1=>
  (Cm (IntKind.i64.wrap (x15+x17))).bind fun v2=>
   if (v1 == 1000000)=true then
    if (v2 == 1000000)=true then
     (Cm (IntKind.i64.wrap (x7+(if x3<x1 then x3 else x1)))).bind fun v3=>
      some (x4,x5,(if 0<IntKind.i64.wrap (x0 - x3) then IntKind.i64.wrap (x0 - x3) else 0),(if 0<IntKind.i64.wrap (x1 - x2) then IntKind.i64.wrap (x1 - x2) else 0),IntKind.i64.wrap (x6+(if x2<x0 then x2 else x0)),v3,x8,x9,v1,v2,x10,x11,x12,dO)
     else (Cm (IntKind.i64.wrap (x7+(if 0<x1 then 0 else x1)))).bind fun v4=>
      some (x4,x5,(if 0<IntKind.i64.wrap (x0 - 0) then IntKind.i64.wrap (x0 - 0) else 0),(if 0<IntKind.i64.wrap (x1 - x2) then IntKind.i64.wrap (x1 - x2) else 0),IntKind.i64.wrap (x6+(if x2<x0 then x2 else x0)),v4,x8,x9,v1,v2,x10,x11,x12,dO)
    else if (v2 == 1000000)=true then
     (Cm (IntKind.i64.wrap (x7+(if x3<x1 then x3 else x1)))).bind fun v5=>
      some (x4,x5,(if 0<IntKind.i64.wrap (x0 - x3) then IntKind.i64.wrap (x0 - x3) else 0),(if 0<IntKind.i64.wrap (x1 - 0) then IntKind.i64.wrap (x1 - 0) else 0),IntKind.i64.wrap (x6+(if 0<x0 then 0 else x0)),v5,x8,x9,v1,v2,x10,x11,x12,dO)
     else (Cm (IntKind.i64.wrap (x7+(if 0<x1 then 0 else x1)))).bind fun v6=>
      some (x4,x5,(if 0<IntKind.i64.wrap (x0 - 0) then IntKind.i64.wrap (x0 - 0) else 0),(if 0<IntKind.i64.wrap (x1 - 0) then IntKind.i64.wrap (x1 - 0) else 0),IntKind.i64.wrap (x6+(if 0<x0 then 0 else x0)),v6,x8,x9,v1,v2,x10,x11,x12,dO)
@[go_sem] def auy:=arw IC false ahH
@[go_sem] def am2 (k:Nat):=lk [(233,afF.sp)] k
theorem f218:aF Tryz.prog 218 auy.sp:=by
 refine vm (tb:=am2) (.cons f233 .nil) Tryz.func218 Tryz.ntmps218 fun ⟨x4,x5,x0,x1,x6,x7,x8,x9,x14,x15,x10,x11,x12,dO,x18,x16,x17,x2,x3⟩ r hr stop S=> ?_
 rw [acW,ahH] at hr
 refine S.gx [6,7,10] ?_
 obtain ⟨v1,hv1,hr⟩:=aA hr
 obtain ⟨v2,hv2,hr⟩:=aA hr
 refine gb hv1 ?_
 refine gb hv2 ?_
 refine iW hr (fun hc hr=> ?_) fun hc hr=> ?_
 ·refine gr ?_
  refine iW hr (fun hc hr=> ?_) fun hc hr=> ?_
  ·refine gr ?_
   refine S.prune [2,3,4,5] ?_
   refine S.gx [7,10] ?_
   refine gr ?_
   refine gr ?_
   refine S.prune [2,4,5] ?_
   refine S.gx [6,10] ?_
   refine gr ?_
   obtain ⟨v3,hv3,hr⟩:=aA hr
   refine gb hv3 ?_
   refine S.prune [2,4] ?_
   refine S.gx [6,7] ?_
   exact D0 hr
  ·refine gr ?_
   refine S.prune [2,4,5] ?_
   refine S.gx [6,10] ?_
   refine gr ?_
   obtain ⟨v4,hv4,hr⟩:=aA hr
   refine gb hv4 ?_
   refine S.prune [2,4] ?_
   refine S.gx [6,7] ?_
   exact D0 hr
 ·refine gr ?_
  refine iW hr (fun hc hr=> ?_) fun hc hr=> ?_
  ·refine gr ?_
   refine S.prune [2,3,4,5] ?_
   refine S.gx [7,10] ?_
   refine gr ?_
   refine gr ?_
   refine S.prune [2,4,5] ?_
   refine S.gx [6,10] ?_
   refine gr ?_
   obtain ⟨v5,hv5,hr⟩:=aA hr
   refine gb hv5 ?_
   refine S.prune [2,4] ?_
   refine S.gx [6,7] ?_
   exact D0 hr
  ·refine gr ?_
   refine S.prune [2,4,5] ?_
   refine S.gx [6,10] ?_
   refine gr ?_
   obtain ⟨v6,hv6,hr⟩:=aA hr
   refine gb hv6 ?_
   refine S.prune [2,4] ?_
   refine S.gx [6,7] ?_
   exact D0 hr
def ahE (x0 x2 x3 x1:Int):Option (Bool):=
 some (decide (x0≥x1))
@[go_sem] def aup:=arv qE false ahE
theorem f238:aF Tryz.prog 238 aup.sp:=by
 refine vm .nil Tryz.func238 Tryz.ntmps238 fun ⟨x0,x2,x3,x1⟩ r hr stop S=> ?_
 rw [uq4,ahE] at hr
 refine S.gx [] ?_
 exact D0 hr
def QI (a0:bf) (x0:Int):Bd Int Int:=fun s1=>
 if (decide (s1<(a0.length:Int)))=true then
  if 0≤s1∧s1<(a0.length:Int) then
   aP (ahE ((a0.getD s1.toNat default).1) ((a0.getD s1.toNat default).2.1) ((a0.getD s1.toNat default).2.2) x0) fun v1=>
    if v1=true then
     .out (some s1)
     else .next (IntKind.i64.wrap (s1+1))
   else .out none
  else .out (some (-1))
def ahB (a0:bf) (x0:Int):Option (Int):=
 aS (QI a0 x0) 1000000000 0
@[go_sem] def aul:=aru lK false ahB
@[go_sem] def amY (k:Nat):=lk [(238,aup.sp)] k
theorem f254:aF Tryz.prog 254 aul.sp:=by
 refine vm (tb:=amY) (.cons f238 .nil) Tryz.func254 Tryz.ntmps254 fun ⟨a0,x0⟩ r hr stop S=> ?_
 rw [yK,ahB] at hr
 refine S.gx [] ?_
 refine gr ?_
 refine S.sees [0,1,7,8] [] [] ?_ (Stop.iter S (fun s1=>⟨[(0,.c (.d (ah 3 dn a0))),(1,.c (.clo 238 [.dK [.int .i64 x0] 0])),(7,.c (.d (.int .i64 (a0.length:Int)))),(8,.c (.d (.int .i64 s1)))],[],[]⟩) (QI a0 x0) (fun q=>q=r) hr rfl ?_)
 ·exact lf
 ·intro s1 hr
  unfold QI at hr
  refine S.gx [] ?_
  exact D1 (S.ss [0,1,7,8] [] []) hr
def ad5 (x1:bg) (x2:aW) (x0:bf) (x3:au) (x4 x5 x6 x7 a1:Int):Option ((Option (Int×Int×Int))):=
 (ahB x0 a1).bind fun v1=>
  if (decide (v1≥0))=true then
   if 0≤v1∧v1<(x0.length:Int) then
    some (some ((x0.getD v1.toNat default).1,(x0.getD v1.toNat default).2.1,(x0.getD v1.toNat default).2.2))
    else none
   else some none
@[go_sem] def auw:=WX apx true ad5
@[go_sem] def afQ (k:Nat):=lk [(254,aul.sp)] k
theorem YI:fC Tryz.prog afQ:= .cons f254 .nil
theorem f219:aF Tryz.prog 219 auw.sp:=by
 refine vm (tb:=afQ) (.cons f254 .nil) Tryz.func219 Tryz.ntmps219 fun ⟨x1,x2,x0,x3,x4,x5,x6,x7,a1⟩ r hr stop S=> ?_
 rw [Oa,ad5] at hr
 refine S.gx [1] ?_
 refine gr ?_
 refine S.inl 4 [4] [] Tryz.func237 (by decide) rfl Tryz.ntmps237 (fun cx e=>aT bT YI cx e) (some 9) rfl rfl rfl rfl (nL rfl) (nL rfl) ?_
 refine gs ?_
 refine gr ?_
 intro stop1 S1
 refine S1.gx [] ?_
 obtain ⟨v1,hv1,hr⟩:=aA hr
 refine gb hv1 ?_
 refine iW hr (fun hc hr=> ?_) fun hc hr=> ?_
 ·obtain ⟨hg2,hr⟩:=aH hr
  refine gr ?_
  refine gr ?_
  refine S.gx [1] ?_
  exact D0 hr
 ·refine gr ?_
  refine gr ?_
  refine S.gx [1] ?_
  exact D0 hr
def Y9 (a0 a1 a2:Int):Option (Int):=
 some (if a1<IntKind.i64.wrap ((IntKind.i64.wrap ((IntKind.i64.wrap (a0+a1))*a2)).tdiv 1000000) then IntKind.i64.wrap ((IntKind.i64.wrap ((IntKind.i64.wrap (a0+a1))*a2)).tdiv 1000000) else a1)
@[go_sem] def aj8:=qT1 lK false Y9
theorem f240:aF Tryz.prog 240 aj8.sp:=by
 refine vm .nil Tryz.func240 Tryz.ntmps240 fun ⟨a0,a1,a2⟩ r hr stop S=> ?_
 rw [Yq,Y9] at hr
 refine S.gx [] ?_
 exact D0 hr
def ad2 (a0 a1 a2:Int):Option (Int):=
 (Y9 a0 a1 a2).bind fun v1=>
  some (IntKind.i64.wrap ((IntKind.i64.wrap (a0+a1)) - v1))
@[go_sem] def auo:=qT1 lK false ad2
@[go_sem] def am0 (k:Nat):=lk [(240,aj8.sp)] k
theorem f239:aF Tryz.prog 239 auo.sp:=by
 refine vm (tb:=am0) (.cons f240 .nil) Tryz.func239 Tryz.ntmps239 fun ⟨a0,a1,a2⟩ r hr stop S=> ?_
 rw [Yq,ad2] at hr
 refine S.gx [] ?_
 exact D0 hr
def ad4 (x6 x7 x0 x1 x8 x9 x2 x3 x10 x11 x12 dO x14 x15 x16 x4 x5:Int):Option (Int×Int×Int×Int×Int×Int×Int×Int×Int×Int×Int×Int×Int×Int):=
 (Y9 x0 x2 x4).bind fun v1=>
  (Y9 x1 x3 x5).bind fun v2=>
   (Cm v2).bind fun v3=>
    (ad2 x0 x2 x5).bind fun v4=>
     (ad2 x1 x3 x4).bind fun v5=>
      some (x6,x7,v4,v5,x8,x9,v1,v3,x10,x11,x12,dO,x14,x15)
@[go_sem] def auv:=ars IC false ad4
@[go_sem] def am1 (k:Nat):=lk [(233,afF.sp),(239,auo.sp),(240,aj8.sp)] k
theorem f220:aF Tryz.prog 220 auv.sp:=by
 refine vm (tb:=am1) (.cons f233 (.cons f239 (.cons f240 .nil))) Tryz.func220 Tryz.ntmps220 fun ⟨x6,x7,x0,x1,x8,x9,x2,x3,x10,x11,x12,dO,x14,x15,x16,x4,x5⟩ r hr stop S=> ?_
 rw [alg,ad4] at hr
 refine S.gx [5] ?_
 obtain ⟨v1,hv1,hr⟩:=aA hr
 obtain ⟨v2,hv2,hr⟩:=aA hr
 obtain ⟨v3,hv3,hr⟩:=aA hr
 obtain ⟨v4,hv4,hr⟩:=aA hr
 obtain ⟨v5,hv5,hr⟩:=aA hr
 refine gb hv1 ?_
 refine gb hv2 ?_
 refine gb hv3 ?_
 refine gb hv4 ?_
 refine gb hv5 ?_
 refine S.prune [2,4] ?_
 refine S.gx [] ?_
 exact D0 hr
def ahD (x0 x2 x1:Int):Option (Bool):=
 some (decide (x0≤x1))
@[go_sem] def aun:=arq qE false ahD
theorem f242:aF Tryz.prog 242 aun.sp:=by
 refine vm .nil Tryz.func242 Tryz.ntmps242 fun ⟨x0,x2,x1⟩ r hr stop S=> ?_
 rw [Yq,ahD] at hr
 refine S.gx [] ?_
 exact D0 hr
def QK (x0:au) (a1:Int):Bd Int (Option (Int×Int)):=fun s1=>
 if (decide (s1≥0))=true then
  if 0≤s1∧s1<(x0.length:Int) then
   if 0≤s1∧s1<(x0.length:Int) then
    aP (ahD ((x0.getD s1.toNat default).1) ((x0.getD s1.toNat default).2) a1) fun v1=>
     if v1=true then
      if 0≤s1∧s1<(x0.length:Int) then
       .out (some (some ((x0.getD s1.toNat default).1,(x0.getD s1.toNat default).2)))
       else .out none
      else .next (IntKind.i64.wrap (s1 - 1))
    else .out none
   else .out none
  else .out (some none)
def WL (x1:bg) (x2:aW) (x3:bf) (x0:au) (x4 x5 x6 x7 a1:Int):Option ((Option (Int×Int))):=
 aS (QK x0 a1) 1000000000 (IntKind.i64.wrap ((x0.length:Int) - 1))
@[go_sem] def auu:=WX apw true WL
@[go_sem] def afP (k:Nat):=lk [(242,aun.sp)] k
theorem wQ:fC Tryz.prog afP:= .cons f242 .nil
theorem f221:aF Tryz.prog 221 auu.sp:=by
 refine vm (tb:=afP) (.cons f242 .nil) Tryz.func221 Tryz.ntmps221 fun ⟨x1,x2,x3,x0,x4,x5,x6,x7,a1⟩ r hr stop S=> ?_
 rw [Oa,WL] at hr
 refine S.gx [1] ?_
 refine gr ?_
 refine S.inl 4 [4] [] Tryz.func241 (by decide) rfl Tryz.ntmps241 (fun cx e=>aT bT wQ cx e) (some 9) rfl rfl rfl rfl (nL rfl) (nL rfl) ?_
 refine gs ?_
 refine gr ?_
 intro stop1 S1
 refine S1.gx [1,3] ?_
 refine gr ?_
 refine S1.inl 1 [2,3,4] [] Tryz.func255 (by decide) rfl Tryz.ntmps255 (fun cx e=>aT bT wQ cx e) (some 7) rfl rfl rfl rfl (nL rfl) (nL rfl) ?_
 refine gs ?_
 refine gr ?_
 intro stop2 S2
 refine S2.gx [] ?_
 refine gr ?_
 refine gr ?_
 refine S1.gx [1,3] ?_
 refine gr ?_
 refine S1.range [2,3,4] Tryz.func261 (by decide) rfl Tryz.ntmps261 Tryz.results261 (fun cx e=>aT bT wQ cx e) (fun cx e=>aT bT wQ cx e) (by decide) rfl rfl (nL rfl) ?_
 intro l2 stop2 ahq S2 SJ2 Y2
 refine S2.gx [3] ?_
 refine gr ?_
 refine S2.sees [0,1,3] [(1,1),(100002,100002),(100003,100003),(4,4),(3,3)] [] ?_ (Stop.iter S2 (fun s1=>⟨[(0,.c (.V4 l2)),(1,.c (.ref 1 0)),(3,.c (.d (.int .i64 s1)))],[(1,[.d (ah 2 aO x0)]),(100002,[.d (ah 2 aO x0)]),(100003,[.clo 242 [.ref 3 0]]),(4,[.d (vX aO none)]),(3,[.d (.int .i64 a1)])],[]⟩) (QK x0 a1) (fun q=>q=r) hr rfl ?_)
 ·exact lf
 ·intro s1 hr
  unfold QK at hr
  refine S2.gx [3] ?_
  refine gr ?_
  refine dM hr (fun hc hr=> ?_) fun hc hr=> ?_
  ·refine gr ?_
   refine Y2 6 [0,1,3] (some 17) rfl rfl rfl rfl (nL rfl) (by rfl) ?_
   refine gs ?_
   obtain ⟨hg4,hr⟩:=aC hr
   refine gr ?_
   intro ahr SA3
   refine SA3.gx [] ?_
   refine gr ?_
   intro zQ S3
   refine S3.gx [1,3] ?_
   refine gr ?_
   refine S3.gx [1] ?_
   obtain ⟨hg3,hr⟩:=aC hr
   obtain ⟨v1,hv1,hr⟩:=aQ hr
   refine gb hv1 ?_
   refine gr ?_
   refine dM hr (fun hc hr=> ?_) fun hc hr=> ?_
   ·obtain ⟨hg2,hr⟩:=aC hr
    refine gr ?_
    refine gr ?_
    refine (SJ2 .ret).gx [3] ?_
    refine gr ?_
    have hr:=bK hr
    refine gr ?_
    refine S1.gx [1,3] ?_
    refine gr ?_
    refine gr ?_
    refine S.gx [1] ?_
    exact D0 hr
   ·refine gr ?_
    refine gr ?_
    refine S2.gx [3] ?_
    exact D1 (S2.ss [0,1,3] [(1,1),(100002,100002),(100003,100003),(4,4),(3,3)] []) hr
  ·refine gr ?_
   have hr:=bK hr
   refine gr ?_
   refine gr ?_
   refine S1.gx [1,3] ?_
   refine gr ?_
   refine gr ?_
   refine S.gx [1] ?_
   exact D0 hr
def ER (a0:Int) (x0:Option (Int×Int)):Option (Int):=
 if x0.isSome=true then
  if x0.isSome=true then
   some (if 1000000<IntKind.i64.wrap (a0+((x0.getD default).2)) then 1000000 else IntKind.i64.wrap (a0+((x0.getD default).2)))
   else none
  else none
@[go_sem] def aut:=arp lK false ER
theorem f222:aF Tryz.prog 222 aut.sp:=by
 refine vm .nil Tryz.func222 Tryz.ntmps222 fun ⟨a0,x0⟩ r hr stop S=> ?_
 rw [yK,ER] at hr
 refine S.gx [] ?_
 exact D0 hr
def ad6 (x0:bg) (x1:aW) (x2:bf) (x3:au) (x4 x5 x6 x7 x8 x9 x10 x11 x12 dO x14 x15 x16 x17 x18 x19 x20 x21 a2:Int):Option (Int×Int×Int×Int×Int×Int×Int×Int×Int×Int×Int×Int×Int×Int):=
 (ahK x0 x1 x2 x3 x4 x5 x6 x7 a2).bind fun v1=>
  if v1.isSome=true then
   if v1.isSome=true then
    if v1.isSome=true then
     (ahJ x8 x9 x10 x11 x12 dO x14 x15 x16 x17 x18 x19 x20 x21 ((v1.getD default).1) ((v1.getD default).2.1) ((v1.getD default).2.2.1) ((v1.getD default).2.2.2)).bind fun v2=>
      some (v2.1,v2.2.1,v2.2.2.1,v2.2.2.2.1,v2.2.2.2.2.1,v2.2.2.2.2.2.1,v2.2.2.2.2.2.2.1,v2.2.2.2.2.2.2.2.1,v2.2.2.2.2.2.2.2.2.1,v2.2.2.2.2.2.2.2.2.2.1,v2.2.2.2.2.2.2.2.2.2.2.1,v2.2.2.2.2.2.2.2.2.2.2.2.1,v2.2.2.2.2.2.2.2.2.2.2.2.2.1,v2.2.2.2.2.2.2.2.2.2.2.2.2.2)
     else none
    else none
   else (ahI x0 x1 x2 x3 x4 x5 x6 x7 a2).bind fun v5=>
    if v5.isSome=true then
     if v5.isSome=true then
      if v5.isSome=true then
       (ahH x8 x9 x10 x11 x12 dO x14 x15 x16 x17 x18 x19 x20 x21 ((v5.getD default).1) ((v5.getD default).2.1) ((v5.getD default).2.2.1) ((v5.getD default).2.2.2.1) ((v5.getD default).2.2.2.2)).bind fun v6=>
        (ad5 x0 x1 x2 x3 x4 x5 x6 x7 a2).bind fun v7=>
         if v7.isSome=true then
          if v7.isSome=true then
           if v7.isSome=true then
            (ad4 v6.1 v6.2.1 v6.2.2.1 v6.2.2.2.1 v6.2.2.2.2.1 v6.2.2.2.2.2.1 v6.2.2.2.2.2.2.1 v6.2.2.2.2.2.2.2.1 v6.2.2.2.2.2.2.2.2.1 v6.2.2.2.2.2.2.2.2.2.1 v6.2.2.2.2.2.2.2.2.2.2.1 v6.2.2.2.2.2.2.2.2.2.2.2.1 v6.2.2.2.2.2.2.2.2.2.2.2.2.1 v6.2.2.2.2.2.2.2.2.2.2.2.2.2 ((v7.getD default).1) ((v7.getD default).2.1) ((v7.getD default).2.2)).bind fun v8=>
             (WL x0 x1 x2 x3 x4 x5 x6 x7 a2).bind fun v9=>
              if v9.isSome=true then
               (ER v8.2.2.2.2.2.2.2.2.2.2.2.2.1 v9).bind fun v10=>
                (ER v8.2.2.2.2.2.2.2.2.2.2.2.2.2 v9).bind fun v11=>
                 some (v8.1,v8.2.1,v8.2.2.1,v8.2.2.2.1,v8.2.2.2.2.1,v8.2.2.2.2.2.1,v8.2.2.2.2.2.2.1,v8.2.2.2.2.2.2.2.1,v8.2.2.2.2.2.2.2.2.1,v8.2.2.2.2.2.2.2.2.2.1,v8.2.2.2.2.2.2.2.2.2.2.1,v8.2.2.2.2.2.2.2.2.2.2.2.1,v10,v11)
               else some (v8.1,v8.2.1,v8.2.2.1,v8.2.2.2.1,v8.2.2.2.2.1,v8.2.2.2.2.2.1,v8.2.2.2.2.2.2.1,v8.2.2.2.2.2.2.2.1,v8.2.2.2.2.2.2.2.2.1,v8.2.2.2.2.2.2.2.2.2.1,v8.2.2.2.2.2.2.2.2.2.2.1,v8.2.2.2.2.2.2.2.2.2.2.2.1,v8.2.2.2.2.2.2.2.2.2.2.2.2.1,v8.2.2.2.2.2.2.2.2.2.2.2.2.2)
            else none
           else none
          else (WL x0 x1 x2 x3 x4 x5 x6 x7 a2).bind fun v14=>
           if v14.isSome=true then
            (ER v6.2.2.2.2.2.2.2.2.2.2.2.2.1 v14).bind fun v15=>
             (ER v6.2.2.2.2.2.2.2.2.2.2.2.2.2 v14).bind fun v16=>
              some (v6.1,v6.2.1,v6.2.2.1,v6.2.2.2.1,v6.2.2.2.2.1,v6.2.2.2.2.2.1,v6.2.2.2.2.2.2.1,v6.2.2.2.2.2.2.2.1,v6.2.2.2.2.2.2.2.2.1,v6.2.2.2.2.2.2.2.2.2.1,v6.2.2.2.2.2.2.2.2.2.2.1,v6.2.2.2.2.2.2.2.2.2.2.2.1,v15,v16)
            else some (v6.1,v6.2.1,v6.2.2.1,v6.2.2.2.1,v6.2.2.2.2.1,v6.2.2.2.2.2.1,v6.2.2.2.2.2.2.1,v6.2.2.2.2.2.2.2.1,v6.2.2.2.2.2.2.2.2.1,v6.2.2.2.2.2.2.2.2.2.1,v6.2.2.2.2.2.2.2.2.2.2.1,v6.2.2.2.2.2.2.2.2.2.2.2.1,v6.2.2.2.2.2.2.2.2.2.2.2.2.1,v6.2.2.2.2.2.2.2.2.2.2.2.2.2)
       else none
      else none
     else (ad5 x0 x1 x2 x3 x4 x5 x6 x7 a2).bind fun v19=>
      if v19.isSome=true then
       if v19.isSome=true then
        if v19.isSome=true then
         (ad4 x8 x9 x10 x11 x12 dO x14 x15 x16 x17 x18 x19 x20 x21 ((v19.getD default).1) ((v19.getD default).2.1) ((v19.getD default).2.2)).bind fun v20=>
          (WL x0 x1 x2 x3 x4 x5 x6 x7 a2).bind fun v21=>
           if v21.isSome=true then
            (ER v20.2.2.2.2.2.2.2.2.2.2.2.2.1 v21).bind fun v22=>
             (ER v20.2.2.2.2.2.2.2.2.2.2.2.2.2 v21).bind fun v23=>
              some (v20.1,v20.2.1,v20.2.2.1,v20.2.2.2.1,v20.2.2.2.2.1,v20.2.2.2.2.2.1,v20.2.2.2.2.2.2.1,v20.2.2.2.2.2.2.2.1,v20.2.2.2.2.2.2.2.2.1,v20.2.2.2.2.2.2.2.2.2.1,v20.2.2.2.2.2.2.2.2.2.2.1,v20.2.2.2.2.2.2.2.2.2.2.2.1,v22,v23)
            else some (v20.1,v20.2.1,v20.2.2.1,v20.2.2.2.1,v20.2.2.2.2.1,v20.2.2.2.2.2.1,v20.2.2.2.2.2.2.1,v20.2.2.2.2.2.2.2.1,v20.2.2.2.2.2.2.2.2.1,v20.2.2.2.2.2.2.2.2.2.1,v20.2.2.2.2.2.2.2.2.2.2.1,v20.2.2.2.2.2.2.2.2.2.2.2.1,v20.2.2.2.2.2.2.2.2.2.2.2.2.1,v20.2.2.2.2.2.2.2.2.2.2.2.2.2)
         else none
        else none
       else (WL x0 x1 x2 x3 x4 x5 x6 x7 a2).bind fun v26=>
        if v26.isSome=true then
         (ER x20 v26).bind fun v27=>
          (ER x21 v26).bind fun v28=>
           some (x8,x9,x10,x11,x12,dO,x14,x15,x16,x17,x18,x19,v27,v28)
         else some (x8,x9,x10,x11,x12,dO,x14,x15,x16,x17,x18,x19,x20,x21)
@[go_sem] def auK:=aro IC false ad6
@[go_sem] def am4 (k:Nat):=lk [(215,auB.sp),(216,auA.sp),(217,auz.sp),(218,auy.sp),(219,auw.sp),(220,auv.sp),(221,auu.sp),(222,aut.sp)] k
theorem f200:aF Tryz.prog 200 auK.sp:=by
 refine vm (tb:=am4) (.cons f215 (.cons f216 (.cons f217 (.cons f218 (.cons f219 (.cons f220 (.cons f221 (.cons f222 .nil)))))))) Tryz.func200 Tryz.ntmps200 fun ⟨x0,x1,x2,x3,x4,x5,x6,x7,x8,x9,x10,x11,x12,dO,x14,x15,x16,x17,x18,x19,x20,x21,a2⟩ r hr stop S=> ?_
 rw [acV,ad6] at hr
 refine S.gx [10] ?_
 obtain ⟨v1,hv1,hr⟩:=aA hr
 refine gb hv1 ?_
 refine iW hr (fun hc hr=>D0 hr) fun hc hr=> ?_
 obtain ⟨v5,hv5,hr⟩:=aA hr
 refine gb hv5 ?_
 refine iW hr (fun hc hr=> ?_) fun hc hr=> ?_
 ·obtain ⟨aeX,hr⟩:=aH hr
  obtain ⟨aeW,hr⟩:=aH hr
  obtain ⟨v6,hv6,hr⟩:=aA hr
  obtain ⟨v7,hv7,hr⟩:=aA hr
  refine gb hv6 ?_
  refine gb hv7 ?_
  refine iW hr (fun hc hr=> ?_) fun hc hr=> ?_
  ·obtain ⟨LY,hr⟩:=aH hr
   obtain ⟨LX,hr⟩:=aH hr
   obtain ⟨v8,Xk,hr⟩:=aA hr
   refine gb Xk ?_
   refine S.prune [2,3,4,6] ?_
   refine S.gx [] ?_
   exact D0 hr
  ·refine gr ?_
   refine S.prune [2,3,4,6] ?_
   refine S.gx [] ?_
   exact D0 hr
 ·obtain ⟨v19,PI,hr⟩:=aA hr
  refine gb PI ?_
  refine iW hr (fun hc hr=> ?_) fun hc hr=> ?_
  ·obtain ⟨Xm,hr⟩:=aH hr
   obtain ⟨ajx,hr⟩:=aH hr
   obtain ⟨v20,I8,hr⟩:=aA hr
   refine gb I8 ?_
   refine S.prune [2,3,4,6] ?_
   refine S.gx [] ?_
   exact D0 hr
  ·refine gr ?_
   refine S.prune [2,3,4,6] ?_
   refine S.gx [] ?_
   exact D0 hr
def QM (x0 x1 x2 x3 x4 x5 x6 x7 x8 x9 x10 x11 x12 dO:Int):Bd (Int×Int×Int×Int×Int×Int×Int×Int×Int×Int×Int×Int×Int×Int×Int) (Int×Int×Int×Int×Int×Int×Int×Int×Int×Int×Int×Int×Int×Int):=fun s1=>
 if (decide (s1.1<7))=true then
  if s1.1=0 then
   .next (1,(if x0<s1.2.1 then x0 else s1.2.1),(if s1.2.2.1<x1 then x1 else s1.2.2.1),s1.2.2.2.1,s1.2.2.2.2.1,s1.2.2.2.2.2.1,s1.2.2.2.2.2.2.1,s1.2.2.2.2.2.2.2.1,s1.2.2.2.2.2.2.2.2.1,s1.2.2.2.2.2.2.2.2.2.1,s1.2.2.2.2.2.2.2.2.2.2.1,s1.2.2.2.2.2.2.2.2.2.2.2.1,s1.2.2.2.2.2.2.2.2.2.2.2.2.1,s1.2.2.2.2.2.2.2.2.2.2.2.2.2.1,s1.2.2.2.2.2.2.2.2.2.2.2.2.2.2)
   else if s1.1=1 then
    .next (2,s1.2.1,s1.2.2.1,(if x2<s1.2.2.2.1 then x2 else s1.2.2.2.1),(if s1.2.2.2.2.1<x3 then x3 else s1.2.2.2.2.1),s1.2.2.2.2.2.1,s1.2.2.2.2.2.2.1,s1.2.2.2.2.2.2.2.1,s1.2.2.2.2.2.2.2.2.1,s1.2.2.2.2.2.2.2.2.2.1,s1.2.2.2.2.2.2.2.2.2.2.1,s1.2.2.2.2.2.2.2.2.2.2.2.1,s1.2.2.2.2.2.2.2.2.2.2.2.2.1,s1.2.2.2.2.2.2.2.2.2.2.2.2.2.1,s1.2.2.2.2.2.2.2.2.2.2.2.2.2.2)
    else if s1.1=2 then
     .next (3,s1.2.1,s1.2.2.1,s1.2.2.2.1,s1.2.2.2.2.1,(if x4<s1.2.2.2.2.2.1 then x4 else s1.2.2.2.2.2.1),(if s1.2.2.2.2.2.2.1<x5 then x5 else s1.2.2.2.2.2.2.1),s1.2.2.2.2.2.2.2.1,s1.2.2.2.2.2.2.2.2.1,s1.2.2.2.2.2.2.2.2.2.1,s1.2.2.2.2.2.2.2.2.2.2.1,s1.2.2.2.2.2.2.2.2.2.2.2.1,s1.2.2.2.2.2.2.2.2.2.2.2.2.1,s1.2.2.2.2.2.2.2.2.2.2.2.2.2.1,s1.2.2.2.2.2.2.2.2.2.2.2.2.2.2)
     else if s1.1=3 then
      .next (4,s1.2.1,s1.2.2.1,s1.2.2.2.1,s1.2.2.2.2.1,s1.2.2.2.2.2.1,s1.2.2.2.2.2.2.1,(if x6<s1.2.2.2.2.2.2.2.1 then x6 else s1.2.2.2.2.2.2.2.1),(if s1.2.2.2.2.2.2.2.2.1<x7 then x7 else s1.2.2.2.2.2.2.2.2.1),s1.2.2.2.2.2.2.2.2.2.1,s1.2.2.2.2.2.2.2.2.2.2.1,s1.2.2.2.2.2.2.2.2.2.2.2.1,s1.2.2.2.2.2.2.2.2.2.2.2.2.1,s1.2.2.2.2.2.2.2.2.2.2.2.2.2.1,s1.2.2.2.2.2.2.2.2.2.2.2.2.2.2)
      else if s1.1=4 then
       .next (5,s1.2.1,s1.2.2.1,s1.2.2.2.1,s1.2.2.2.2.1,s1.2.2.2.2.2.1,s1.2.2.2.2.2.2.1,s1.2.2.2.2.2.2.2.1,s1.2.2.2.2.2.2.2.2.1,(if x8<s1.2.2.2.2.2.2.2.2.2.1 then x8 else s1.2.2.2.2.2.2.2.2.2.1),(if s1.2.2.2.2.2.2.2.2.2.2.1<x9 then x9 else s1.2.2.2.2.2.2.2.2.2.2.1),s1.2.2.2.2.2.2.2.2.2.2.2.1,s1.2.2.2.2.2.2.2.2.2.2.2.2.1,s1.2.2.2.2.2.2.2.2.2.2.2.2.2.1,s1.2.2.2.2.2.2.2.2.2.2.2.2.2.2)
       else if s1.1=5 then
        .next (6,s1.2.1,s1.2.2.1,s1.2.2.2.1,s1.2.2.2.2.1,s1.2.2.2.2.2.1,s1.2.2.2.2.2.2.1,s1.2.2.2.2.2.2.2.1,s1.2.2.2.2.2.2.2.2.1,s1.2.2.2.2.2.2.2.2.2.1,s1.2.2.2.2.2.2.2.2.2.2.1,(if x10<s1.2.2.2.2.2.2.2.2.2.2.2.1 then x10 else s1.2.2.2.2.2.2.2.2.2.2.2.1),(if s1.2.2.2.2.2.2.2.2.2.2.2.2.1<x11 then x11 else s1.2.2.2.2.2.2.2.2.2.2.2.2.1),s1.2.2.2.2.2.2.2.2.2.2.2.2.2.1,s1.2.2.2.2.2.2.2.2.2.2.2.2.2.2)
        else if s1.1=6 then
         .next (7,s1.2.1,s1.2.2.1,s1.2.2.2.1,s1.2.2.2.2.1,s1.2.2.2.2.2.1,s1.2.2.2.2.2.2.1,s1.2.2.2.2.2.2.2.1,s1.2.2.2.2.2.2.2.2.1,s1.2.2.2.2.2.2.2.2.2.1,s1.2.2.2.2.2.2.2.2.2.2.1,s1.2.2.2.2.2.2.2.2.2.2.2.1,s1.2.2.2.2.2.2.2.2.2.2.2.2.1,(if x12<s1.2.2.2.2.2.2.2.2.2.2.2.2.2.1 then x12 else s1.2.2.2.2.2.2.2.2.2.2.2.2.2.1),(if s1.2.2.2.2.2.2.2.2.2.2.2.2.2.2<dO then dO else s1.2.2.2.2.2.2.2.2.2.2.2.2.2.2))
         else .out none
  else .out (some (s1.2.1,s1.2.2.1,s1.2.2.2.1,s1.2.2.2.2.1,s1.2.2.2.2.2.1,s1.2.2.2.2.2.2.1,s1.2.2.2.2.2.2.2.1,s1.2.2.2.2.2.2.2.2.1,s1.2.2.2.2.2.2.2.2.2.1,s1.2.2.2.2.2.2.2.2.2.2.1,s1.2.2.2.2.2.2.2.2.2.2.2.1,s1.2.2.2.2.2.2.2.2.2.2.2.2.1,s1.2.2.2.2.2.2.2.2.2.2.2.2.2.1,s1.2.2.2.2.2.2.2.2.2.2.2.2.2.2))
def ahM (x14 x15 x16 x17 x18 x19 x20 x21 rW x23 x24 x25 Fj x27 x0 x1 x2 x3 x4 x5 x6 x7 x8 x9 x10 x11 x12 dO:Int):Option (Int×Int×Int×Int×Int×Int×Int×Int×Int×Int×Int×Int×Int×Int):=
 aS (QM x0 x1 x2 x3 x4 x5 x6 x7 x8 x9 x10 x11 x12 dO) 1000000000 (0,x14,x15,x16,x17,x18,x19,x20,x21,rW,x23,x24,x25,Fj,x27)
@[go_sem] def auJ:=arn IC false ahM
def afT:oC:=lk []
theorem Kq:fC Tryz.prog afT:=fC.nil
theorem f201:aF Tryz.prog 201 auJ.sp:=by
 refine vm (tb:=afT) .nil Tryz.func201 Tryz.ntmps201 fun ⟨x14,x15,x16,x17,x18,x19,x20,x21,rW,x23,x24,x25,Fj,x27,x0,x1,x2,x3,x4,x5,x6,x7,x8,x9,x10,x11,x12,dO⟩ r hr stop S=> ?_
 rw [alc,ahM] at hr
 refine S.gx [1,2,4,6] ?_
 refine gr ?_
 refine S.inl 0 [2,4] [] Tryz.func175 (by decide) rfl Tryz.ntmps175 (fun cx e=>aT bT Kq cx e) (some 8) rfl rfl rfl rfl (nL rfl) (nL rfl) ?_
 refine gs ?_
 refine gr ?_
 intro stop1 S1
 refine S1.gx [] ?_
 refine gr ?_
 refine gr ?_
 refine S.gx [1,2,4,6] ?_
 refine gr ?_
 refine S.inl 0 [2,4,5] [] Tryz.func175 (by decide) rfl Tryz.ntmps175 (fun cx e=>aT bT Kq cx e) (some 9) rfl rfl rfl rfl (nL rfl) (nL rfl) ?_
 refine gs ?_
 refine gr ?_
 intro stop1 S1
 refine S1.gx [] ?_
 refine gr ?_
 refine gr ?_
 refine S.gx [1,2,4,6] ?_
 refine gr ?_
 refine S.sees [2,4,5,9,10] [(2,2),(4,4),(5,5),(3,3)] [] ?_ (Stop.iter S (fun s1=>⟨[(2,.c (.ref 2 0)),(4,.c (.ref 4 0)),(5,.c (.ref 5 0)),(9,.agg [.ref 2 0,.ref 2 2,.ref 2 4,.ref 2 6,.ref 2 8,.ref 2 10,.ref 2 12]),(10,.c (.d (.int .i64 s1.1)))],[(2,[.d (.int .i64 s1.2.1),.d (.int .i64 s1.2.2.1),.d (.int .i64 s1.2.2.2.1),.d (.int .i64 s1.2.2.2.2.1),.d (.int .i64 s1.2.2.2.2.2.1),.d (.int .i64 s1.2.2.2.2.2.2.1),.d (.int .i64 s1.2.2.2.2.2.2.2.1),.d (.int .i64 s1.2.2.2.2.2.2.2.2.1),.d (.int .i64 s1.2.2.2.2.2.2.2.2.2.1),.d (.int .i64 s1.2.2.2.2.2.2.2.2.2.2.1),.d (.int .i64 s1.2.2.2.2.2.2.2.2.2.2.2.1),.d (.int .i64 s1.2.2.2.2.2.2.2.2.2.2.2.2.1),.d (.int .i64 s1.2.2.2.2.2.2.2.2.2.2.2.2.2.1),.d (.int .i64 s1.2.2.2.2.2.2.2.2.2.2.2.2.2.2)]),(4,[.d (.int .i64 0),.d (.int .i64 0),.d (.int .i64 0),.d (.int .i64 0),.d (.int .i64 0),.d (.int .i64 0),.d (.int .i64 0),.d (.int .i64 0),.d (.int .i64 0),.d (.int .i64 0),.d (.int .i64 0),.d (.int .i64 0),.d (.int .i64 0),.d (.int .i64 0)]),(5,[.ref 3 0,.ref 3 2,.ref 3 4,.ref 3 6,.ref 3 8,.ref 3 10,.ref 3 12]),(3,[.d (.int .i64 x0),.d (.int .i64 x1),.d (.int .i64 x2),.d (.int .i64 x3),.d (.int .i64 x4),.d (.int .i64 x5),.d (.int .i64 x6),.d (.int .i64 x7),.d (.int .i64 x8),.d (.int .i64 x9),.d (.int .i64 x10),.d (.int .i64 x11),.d (.int .i64 x12),.d (.int .i64 dO)])],[]⟩) (QM x0 x1 x2 x3 x4 x5 x6 x7 x8 x9 x10 x11 x12 dO) (fun q=>q=r) hr rfl ?_)
 ·exact lf
 ·intro s1 hr
  unfold QM at hr
  refine S.gx [1,2,4,6] ?_
  refine gr ?_
  refine dM hr (fun hc hr=> ?_) fun hc hr=>D0 hr
  refine gr ?_
  by_cases hs7:s1.1=0
  ·rw [if_pos hs7] at hr
   simp only [hs7]
   refine S.gx [1,2,6] ?_
   refine gr ?_
   refine gr ?_
   refine S.prune [2,4,5,9,10] ?_
   refine S.gx [1,2,4] ?_
   exact D1 (S.ss [2,4,5,9,10] [(2,2),(4,4),(5,5),(3,3)] []) hr
  ·rw [if_neg hs7] at hr
   by_cases hs6:s1.1=1
   ·rw [if_pos hs6] at hr
    simp only [hs6]
    refine S.gx [1,2,6] ?_
    refine gr ?_
    refine gr ?_
    refine S.prune [2,4,5,9,10] ?_
    refine S.gx [1,2,4] ?_
    exact D1 (S.ss [2,4,5,9,10] [(2,2),(4,4),(5,5),(3,3)] []) hr
   ·rw [if_neg hs6] at hr
    by_cases hs5:s1.1=2
    ·rw [if_pos hs5] at hr
     simp only [hs5]
     refine S.gx [1,2,6] ?_
     refine gr ?_
     refine gr ?_
     refine S.prune [2,4,5,9,10] ?_
     refine S.gx [1,2,4] ?_
     exact D1 (S.ss [2,4,5,9,10] [(2,2),(4,4),(5,5),(3,3)] []) hr
    ·rw [if_neg hs5] at hr
     by_cases hs4:s1.1=3
     ·rw [if_pos hs4] at hr
      simp only [hs4]
      refine S.gx [1,2,6] ?_
      refine gr ?_
      refine gr ?_
      refine S.prune [2,4,5,9,10] ?_
      refine S.gx [1,2,4] ?_
      exact D1 (S.ss [2,4,5,9,10] [(2,2),(4,4),(5,5),(3,3)] []) hr
     ·rw [if_neg hs4] at hr
      by_cases hs3:s1.1=4
      ·rw [if_pos hs3] at hr
       simp only [hs3]
       refine S.gx [1,2,6] ?_
       refine gr ?_
       refine gr ?_
       refine S.prune [2,4,5,9,10] ?_
       refine S.gx [1,2,4] ?_
       exact D1 (S.ss [2,4,5,9,10] [(2,2),(4,4),(5,5),(3,3)] []) hr
      ·rw [if_neg hs3] at hr
       by_cases hs2:s1.1=5
       ·rw [if_pos hs2] at hr
        simp only [hs2]
        refine S.gx [1,2,6] ?_
        refine gr ?_
        refine gr ?_
        refine S.prune [2,4,5,9,10] ?_
        refine S.gx [1,2,4] ?_
        exact D1 (S.ss [2,4,5,9,10] [(2,2),(4,4),(5,5),(3,3)] []) hr
       ·rw [if_neg hs2] at hr
        by_cases hs1:s1.1=6
        ·rw [if_pos hs1] at hr
         simp only [hs1]
         refine S.gx [1,2,6] ?_
         refine gr ?_
         refine gr ?_
         refine S.prune [2,4,5,9,10] ?_
         refine S.gx [1,2,4] ?_
         exact D1 (S.ss [2,4,5,9,10] [(2,2),(4,4),(5,5),(3,3)] []) hr
        ·rw [if_neg hs1] at hr
         first | cases hr | exact hr.elim
def QN (x0:bg) (x1:aW) (x2:bf) (x3:au) (x4 x5 x6 x7 x8 x9 x10 x11 x12 dO x14 x15 x16 x17 x18 x19 x20 x21 rW:Int):Bd (Int×Int×Int×Int×Int×Int×Int×Int×Int×Int×Int×Int×Int×Int×Int) (Int×Int×Int×Int×Int×Int×Int×Int×Int×Int×Int×Int×Int×Int):=fun s1=>
 if (decide (s1.1≤rW))=true then
  aP (ad6 x0 x1 x2 x3 x4 x5 x6 x7 x8 x9 x10 x11 x12 dO x14 x15 x16 x17 x18 x19 x20 x21 s1.1) fun v2=>
   aP (ahM s1.2.1 s1.2.2.1 s1.2.2.2.1 s1.2.2.2.2.1 s1.2.2.2.2.2.1 s1.2.2.2.2.2.2.1 s1.2.2.2.2.2.2.2.1 s1.2.2.2.2.2.2.2.2.1 s1.2.2.2.2.2.2.2.2.2.1 s1.2.2.2.2.2.2.2.2.2.2.1 s1.2.2.2.2.2.2.2.2.2.2.2.1 s1.2.2.2.2.2.2.2.2.2.2.2.2.1 s1.2.2.2.2.2.2.2.2.2.2.2.2.2.1 s1.2.2.2.2.2.2.2.2.2.2.2.2.2.2 v2.1 v2.2.1 v2.2.2.1 v2.2.2.2.1 v2.2.2.2.2.1 v2.2.2.2.2.2.1 v2.2.2.2.2.2.2.1 v2.2.2.2.2.2.2.2.1 v2.2.2.2.2.2.2.2.2.1 v2.2.2.2.2.2.2.2.2.2.1 v2.2.2.2.2.2.2.2.2.2.2.1 v2.2.2.2.2.2.2.2.2.2.2.2.1 v2.2.2.2.2.2.2.2.2.2.2.2.2.1 v2.2.2.2.2.2.2.2.2.2.2.2.2.2) fun v3=>
    .next (IntKind.i64.wrap (s1.1+1),v3.1,v3.2.1,v3.2.2.1,v3.2.2.2.1,v3.2.2.2.2.1,v3.2.2.2.2.2.1,v3.2.2.2.2.2.2.1,v3.2.2.2.2.2.2.2.1,v3.2.2.2.2.2.2.2.2.1,v3.2.2.2.2.2.2.2.2.2.1,v3.2.2.2.2.2.2.2.2.2.2.1,v3.2.2.2.2.2.2.2.2.2.2.2.1,v3.2.2.2.2.2.2.2.2.2.2.2.2.1,v3.2.2.2.2.2.2.2.2.2.2.2.2.2)
  else .out (some (s1.2.1,s1.2.2.1,s1.2.2.2.1,s1.2.2.2.2.1,s1.2.2.2.2.2.1,s1.2.2.2.2.2.2.1,s1.2.2.2.2.2.2.2.1,s1.2.2.2.2.2.2.2.2.1,s1.2.2.2.2.2.2.2.2.2.1,s1.2.2.2.2.2.2.2.2.2.2.1,s1.2.2.2.2.2.2.2.2.2.2.2.1,s1.2.2.2.2.2.2.2.2.2.2.2.2.1,s1.2.2.2.2.2.2.2.2.2.2.2.2.2.1,s1.2.2.2.2.2.2.2.2.2.2.2.2.2.2))
def ahR (x0:bg) (x1:aW) (x2:bf) (x3:au) (x4 x5 x6 x7 x8 x9 x10 x11 x12 dO x14 x15 x16 x17 x18 x19 x20 x21 x23 rW:Int):Option (Int×Int×Int×Int×Int×Int×Int×Int×Int×Int×Int×Int×Int×Int):=
 (ad6 x0 x1 x2 x3 x4 x5 x6 x7 x8 x9 x10 x11 x12 dO x14 x15 x16 x17 x18 x19 x20 x21 x23).bind fun v1=>
  aS (QN x0 x1 x2 x3 x4 x5 x6 x7 x8 x9 x10 x11 x12 dO x14 x15 x16 x17 x18 x19 x20 x21 rW) 1000000000 (IntKind.i64.wrap (x23+1),v1.1,v1.2.1,v1.2.2.1,v1.2.2.2.1,v1.2.2.2.2.1,v1.2.2.2.2.2.1,v1.2.2.2.2.2.2.1,v1.2.2.2.2.2.2.2.1,v1.2.2.2.2.2.2.2.2.1,v1.2.2.2.2.2.2.2.2.2.1,v1.2.2.2.2.2.2.2.2.2.2.1,v1.2.2.2.2.2.2.2.2.2.2.2.1,v1.2.2.2.2.2.2.2.2.2.2.2.2.1,v1.2.2.2.2.2.2.2.2.2.2.2.2.2)
@[go_sem] def auT:=arl IC false ahR
@[go_sem] def ana (k:Nat):=lk [(200,auK.sp),(201,auJ.sp)] k
theorem f180:aF Tryz.prog 180 auT.sp:=by
 refine vm (tb:=ana) (.cons f200 (.cons f201 .nil)) Tryz.func180 Tryz.ntmps180 fun ⟨x0,x1,x2,x3,x4,x5,x6,x7,x8,x9,x10,x11,x12,dO,x14,x15,x16,x17,x18,x19,x20,x21,x23,rW⟩ r hr stop S=> ?_
 rw [ald,ahR] at hr
 refine S.gx [] ?_
 obtain ⟨v1,hv1,hr⟩:=aA hr
 refine gb hv1 ?_
 refine S.sees [3,4,5,6,7,8] [(3,3),(4,4),(5,5),(6,6),(7,7)] [] ?_ (Stop.iter S (fun s1=>⟨[(3,.c (.ref 3 0)),(4,.c (.ref 4 0)),(5,.c (.ref 5 0)),(6,.c (.ref 6 0)),(7,.c (.ref 7 0)),(8,.c (.d (.int .i64 s1.1)))],[(3,[.d (ah 4 cZ x0),.d (ah 5 bU x1),.d (ah 3 dn x2),.d (ah 2 aO x3),.d (.int .i64 x4),.d (.int .i64 x5),.d (.int .i64 x6),.d (.int .i64 x7)]),(4,[.d (.int .i64 x8),.d (.int .i64 x9),.d (.int .i64 x10),.d (.int .i64 x11),.d (.int .i64 x12),.d (.int .i64 dO),.d (.int .i64 x14),.d (.int .i64 x15),.d (.int .i64 x16),.d (.int .i64 x17),.d (.int .i64 x18),.d (.int .i64 x19),.d (.int .i64 x20),.d (.int .i64 x21)]),(5,[.d (.int .i64 x23),.d (.int .i64 rW)]),(6,[.d (.int .i64 0),.d (.int .i64 0),.d (.int .i64 0),.d (.int .i64 0),.d (.int .i64 0),.d (.int .i64 0),.d (.int .i64 0),.d (.int .i64 0),.d (.int .i64 0),.d (.int .i64 0),.d (.int .i64 0),.d (.int .i64 0),.d (.int .i64 0),.d (.int .i64 0)]),(7,[.d (.int .i64 s1.2.1),.d (.int .i64 s1.2.2.1),.d (.int .i64 s1.2.2.2.1),.d (.int .i64 s1.2.2.2.2.1),.d (.int .i64 s1.2.2.2.2.2.1),.d (.int .i64 s1.2.2.2.2.2.2.1),.d (.int .i64 s1.2.2.2.2.2.2.2.1),.d (.int .i64 s1.2.2.2.2.2.2.2.2.1),.d (.int .i64 s1.2.2.2.2.2.2.2.2.2.1),.d (.int .i64 s1.2.2.2.2.2.2.2.2.2.2.1),.d (.int .i64 s1.2.2.2.2.2.2.2.2.2.2.2.1),.d (.int .i64 s1.2.2.2.2.2.2.2.2.2.2.2.2.1),.d (.int .i64 s1.2.2.2.2.2.2.2.2.2.2.2.2.2.1),.d (.int .i64 s1.2.2.2.2.2.2.2.2.2.2.2.2.2.2)])],[]⟩) (QN x0 x1 x2 x3 x4 x5 x6 x7 x8 x9 x10 x11 x12 dO x14 x15 x16 x17 x18 x19 x20 x21 rW) (fun q=>q=r) hr rfl ?_)
 ·exact lf
 ·intro s1 hr
  unfold QN at hr
  refine S.gx [] ?_
  exact D1 (S.ss [3,4,5,6,7,8] [(3,3),(4,4),(5,5),(6,6),(7,7)] []) hr
end Go.Proofs.YtofkgmldcjagmaaGreatDoor

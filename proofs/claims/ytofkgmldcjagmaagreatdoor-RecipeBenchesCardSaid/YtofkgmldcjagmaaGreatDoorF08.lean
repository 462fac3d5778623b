/- Contracts of functions, written by wip/dec. -/
import Derived.Test.YtofkgmldcjagmaaGreatDoorF00
import Derived.Test.YtofkgmldcjagmaaGreatDoorF07
set_option linter.unusedVariables false
set_option linter.unusedSimpArgs false
set_option linter.constructorNameAsVariable false
set_option maxHeartbeats 4000000
set_option maxRecDepth 20000
namespace Go.Proofs.YtofkgmldcjagmaaGreatDoor
open Go.dJ
section
variable {β:Type} [Inhabited β] (u:β→List RV) (al:Bool)
def an7 (a0 a1 a2 a3 a4 a5:Int):List Arg:=[.agg [.int .i64 a0,.int .i64 a1,.int .i64 a2,.int .i64 a3,.int .i64 a4],.ptr [.int .i64 a5]]
def apN:List Arg→Int×Int×Int×Int×Int×Int
 | [.agg [c0,c1,c2,c3,c4],.ptr [c5]]=>(aB c0,aB c1,aB c2,aB c3,aB c4,aB c5)
 | _=>default
def aqY (r:Int→Int→Int→Int→Int→Int→Option β):=mkT (u6 an7) apN (u6 r) u al
attribute [go_sem] an7 apN aqY
def an6 (a0:aW) (a1:Int):List Arg:=[.c (ah 5 bU a0),.clo 236 [[.int .i64 a1]]]
def apM:List Arg→aW×Int
 | [.c c0,.clo _ [[c1]]]=>(aG gX c0,aB c1)
 | _=>default
def aqX (r:aW→Int→Option β):=mkT (u2 an6) apM (u2 r) u al
attribute [go_sem] an6 apM aqX
def an5 (a0 a1 a2 a3 a4 a5 a6 a7 a8 a9 a10 a11 a12 jL kH kF a16 a17 mW:Int):List Arg:=[.agg [.int .i64 a0,.int .i64 a1,.int .i64 a2,.int .i64 a3,.int .i64 a4,.int .i64 a5,.int .i64 a6,.int .i64 a7,.int .i64 a8,.int .i64 a9,.int .i64 a10,.int .i64 a11,.int .i64 a12,.int .i64 jL],.agg [.int .i64 kH,.int .i64 kF,.int .i64 a16,.int .i64 a17,.int .i64 mW]]
def apL:List Arg→Int×Int×Int×Int×Int×Int×Int×Int×Int×Int×Int×Int×Int×Int×Int×Int×Int×Int×Int
 | [.agg [c0,c1,c2,c3,c4,c5,c6,c7,c8,c9,c10,c11,c12,c13],.agg [c14,c15,c16,c17,c18]]=>(aB c0,aB c1,aB c2,aB c3,aB c4,aB c5,aB c6,aB c7,aB c8,aB c9,aB c10,aB c11,aB c12,aB c13,aB c14,aB c15,aB c16,aB c17,aB c18)
 | _=>default
def aqW (r:Int→Int→Int→Int→Int→Int→Int→Int→Int→Int→Int→Int→Int→Int→Int→Int→Int→Int→Int→Option β):=mkT (u19 an5) apL (u19 r) u al
attribute [go_sem] an5 apL aqW
def an4 (a0 a1 a2 a3:Int):List Arg:=[.agg [.int .i64 a0,.int .i64 a1,.int .i64 a2],.ptr [.int .i64 a3]]
def apK:List Arg→Int×Int×Int×Int
 | [.agg [c0,c1,c2],.ptr [c3]]=>(aB c0,aB c1,aB c2,aB c3)
 | _=>default
def aqV (r:Int→Int→Int→Int→Option β):=mkT (u4 an4) apK (u4 r) u al
attribute [go_sem] an4 apK aqV
def an3 (a0:bf) (a1:Int):List Arg:=[.c (ah 3 dh a0),.clo 238 [[.int .i64 a1]]]
def apJ:List Arg→bf×Int
 | [.c c0,.clo _ [[c1]]]=>(aG jB c0,aB c1)
 | _=>default
def aqU (r:bf→Int→Option β):=mkT (u2 an3) apJ (u2 r) u al
attribute [go_sem] an3 apJ aqU
def an2 (a0 a1 a2 a3 a4 a5 a6 a7 a8 a9 a10 a11 a12 jL kH kF a16:Int):List Arg:=[.agg [.int .i64 a0,.int .i64 a1,.int .i64 a2,.int .i64 a3,.int .i64 a4,.int .i64 a5,.int .i64 a6,.int .i64 a7,.int .i64 a8,.int .i64 a9,.int .i64 a10,.int .i64 a11,.int .i64 a12,.int .i64 jL],.agg [.int .i64 kH,.int .i64 kF,.int .i64 a16]]
def apI:List Arg→Int×Int×Int×Int×Int×Int×Int×Int×Int×Int×Int×Int×Int×Int×Int×Int×Int
 | [.agg [c0,c1,c2,c3,c4,c5,c6,c7,c8,c9,c10,c11,c12,c13],.agg [c14,c15,c16]]=>(aB c0,aB c1,aB c2,aB c3,aB c4,aB c5,aB c6,aB c7,aB c8,aB c9,aB c10,aB c11,aB c12,aB c13,aB c14,aB c15,aB c16)
 | _=>default
def aqT (r:Int→Int→Int→Int→Int→Int→Int→Int→Int→Int→Int→Int→Int→Int→Int→Int→Int→Option β):=mkT (u17 an2) apI (u17 r) u al
attribute [go_sem] an2 apI aqT
def an1 (a0 a1 a2:Int):List Arg:=[.agg [.int .i64 a0,.int .i64 a1],.ptr [.int .i64 a2]]
def apH:List Arg→Int×Int×Int
 | [.agg [c0,c1],.ptr [c2]]=>(aB c0,aB c1,aB c2)
 | _=>default
def aqS (r:Int→Int→Int→Option β):=mkT (u3 an1) apH (u3 r) u al
attribute [go_sem] an1 apH aqS
def an0 (a0:Int) (a1:Option (Int×Int)):List Arg:=[.c (.int .i64 a0),.ptr [vJ aO a1]]
def apG:List Arg→Int×(Option (Int×Int))
 | [.c c0,.ptr [c1]]=>(aB c0,decP bY c1)
 | _=>default
def aqR (r:Int→(Option (Int×Int))→Option β):=mkT (u2 an0) apG (u2 r) u al
attribute [go_sem] an0 apG aqR
def anZ (a0:bg) (a1:aW) (a2:bf) (a3:au) (a4 a5 a6 a7 a8 a9 a10 a11 a12 jL kH kF a16 a17 mW o9 a20 a21 a22:Int):List Arg:=[.agg [ah 4 cZ a0,ah 5 bU a1,ah 3 dh a2,ah 2 aO a3,.int .i64 a4,.int .i64 a5,.int .i64 a6,.int .i64 a7],.agg [.int .i64 a8,.int .i64 a9,.int .i64 a10,.int .i64 a11,.int .i64 a12,.int .i64 jL,.int .i64 kH,.int .i64 kF,.int .i64 a16,.int .i64 a17,.int .i64 mW,.int .i64 o9,.int .i64 a20,.int .i64 a21],.c (.int .i64 a22)]
def apF:List Arg→bg×aW×bf×au×Int×Int×Int×Int×Int×Int×Int×Int×Int×Int×Int×Int×Int×Int×Int×Int×Int×Int×Int
 | [.agg [c0,c1,c2,c3,c4,c5,c6,c7],.agg [c8,c9,c10,c11,c12,c13,c14,c15,c16,c17,c18,c19,c20,c21],.c XG]=>(aG jA c0,aG gX c1,aG jB c2,aG bY c3,aB c4,aB c5,aB c6,aB c7,aB c8,aB c9,aB c10,aB c11,aB c12,aB c13,aB c14,aB c15,aB c16,aB c17,aB c18,aB c19,aB c20,aB c21,aB XG)
 | _=>default
def aqQ (r:bg→aW→bf→au→Int→Int→Int→Int→Int→Int→Int→Int→Int→Int→Int→Int→Int→Int→Int→Int→Int→Int→Int→Option β):=mkT (u23 anZ) apF (u23 r) u al
attribute [go_sem] anZ apF aqQ
def anY (a0 a1 a2 a3 a4 a5 a6 a7 a8 a9 a10 a11 a12 jL kH kF a16 a17 mW o9 a20 a21 a22 a23 a24 a25 a26 a27:Int):List Arg:=[.agg [.int .i64 a0,.int .i64 a1,.int .i64 a2,.int .i64 a3,.int .i64 a4,.int .i64 a5,.int .i64 a6,.int .i64 a7,.int .i64 a8,.int .i64 a9,.int .i64 a10,.int .i64 a11,.int .i64 a12,.int .i64 jL],.agg [.int .i64 kH,.int .i64 kF,.int .i64 a16,.int .i64 a17,.int .i64 mW,.int .i64 o9,.int .i64 a20,.int .i64 a21,.int .i64 a22,.int .i64 a23,.int .i64 a24,.int .i64 a25,.int .i64 a26,.int .i64 a27]]
def apE:List Arg→Int×Int×Int×Int×Int×Int×Int×Int×Int×Int×Int×Int×Int×Int×Int×Int×Int×Int×Int×Int×Int×Int×Int×Int×Int×Int×Int×Int
 | [.agg [c0,c1,c2,c3,c4,c5,c6,c7,c8,c9,c10,c11,c12,c13],.agg [c14,c15,c16,c17,c18,c19,c20,c21,XG,c23,c24,c25,c26,c27]]=>(aB c0,aB c1,aB c2,aB c3,aB c4,aB c5,aB c6,aB c7,aB c8,aB c9,aB c10,aB c11,aB c12,aB c13,aB c14,aB c15,aB c16,aB c17,aB c18,aB c19,aB c20,aB c21,aB XG,aB c23,aB c24,aB c25,aB c26,aB c27)
 | _=>default
def aqP (r:Int→Int→Int→Int→Int→Int→Int→Int→Int→Int→Int→Int→Int→Int→Int→Int→Int→Int→Int→Int→Int→Int→Int→Int→Int→Int→Int→Int→Option β):=mkT (u28 anY) apE (u28 r) u al
attribute [go_sem] anY apE aqP
def anX (a0:bg) (a1:aW) (a2:bf) (a3:au) (a4 a5 a6 a7 a8 a9 a10 a11 a12 jL kH kF a16 a17 mW o9 a20 a21 a22 a23:Int):List Arg:=[.agg [ah 4 cZ a0,ah 5 bU a1,ah 3 dh a2,ah 2 aO a3,.int .i64 a4,.int .i64 a5,.int .i64 a6,.int .i64 a7],.agg [.int .i64 a8,.int .i64 a9,.int .i64 a10,.int .i64 a11,.int .i64 a12,.int .i64 jL,.int .i64 kH,.int .i64 kF,.int .i64 a16,.int .i64 a17,.int .i64 mW,.int .i64 o9,.int .i64 a20,.int .i64 a21],.agg [.int .i64 a22,.int .i64 a23]]
def apD:List Arg→bg×aW×bf×au×Int×Int×Int×Int×Int×Int×Int×Int×Int×Int×Int×Int×Int×Int×Int×Int×Int×Int×Int×Int
 | [.agg [c0,c1,c2,c3,c4,c5,c6,c7],.agg [c8,c9,c10,c11,c12,c13,c14,c15,c16,c17,c18,c19,c20,c21],.agg [XG,c23]]=>(aG jA c0,aG gX c1,aG jB c2,aG bY c3,aB c4,aB c5,aB c6,aB c7,aB c8,aB c9,aB c10,aB c11,aB c12,aB c13,aB c14,aB c15,aB c16,aB c17,aB c18,aB c19,aB c20,aB c21,aB XG,aB c23)
 | _=>default
def aqO (r:bg→aW→bf→au→Int→Int→Int→Int→Int→Int→Int→Int→Int→Int→Int→Int→Int→Int→Int→Int→Int→Int→Int→Int→Option β):=mkT (u24 anX) apD (u24 r) u al
attribute [go_sem] anX apD aqO
def aoZ (v:(Option (Int×Int×Int×Int×Int))):List RV:=[.c (.d (vJ bU v))]
attribute [go_sem] aoZ
def aoY (v:(Option (Int×Int×Int))):List RV:=[.c (.d (vJ dh v))]
attribute [go_sem] aoY
def aoX (v:(Option (Int×Int))):List RV:=[.c (.d (vJ aO v))]
attribute [go_sem] aoX
end
def agU (x0 x2 x3 x4 x5 x1:Int):Option (Bool):=
 some (decide (x0≥x1))
@[go_sem] def atQ:=aqY qj false agU
theorem f236:aF Tryz.prog 236 atQ.sp:=by
 refine vm .nil Tryz.func236 Tryz.ntmps236 fun ⟨x0,x2,x3,x4,x5,x1⟩ r hr stop S=> ?_
 rw [Vy,agU] at hr
 refine S.gx [] ?_
 exact D0 hr
def Qo (a0:aW) (x0:Int):Bd Int Int:=fun s1=>
 if (decide (s1<(a0.length:Int)))=true then
  if 0≤s1∧s1<(a0.length:Int) then
   aP (agU ((a0.getD s1.toNat default).1) ((a0.getD s1.toNat default).2.1) ((a0.getD s1.toNat default).2.2.1) ((a0.getD s1.toNat default).2.2.2.1) ((a0.getD s1.toNat default).2.2.2.2) x0) fun v1=>
    if v1=true then
     .out (some s1)
     else .next (IntKind.i64.wrap (s1+1))
   else .out none
  else .out (some (-1))
def agR (a0:aW) (x0:Int):Option (Int):=
 aS (Qo a0 x0) 1000000000 0
@[go_sem] def atM:=aqX lF false agR
@[go_sem] def amj (k:Nat):=lk [(236,atQ.sp)] k
theorem f253:aF Tryz.prog 253 atM.sp:=by
 refine vm (tb:=amj) (.cons f236 .nil) Tryz.func253 Tryz.ntmps253 fun ⟨a0,x0⟩ r hr stop S=> ?_
 rw [wo,agR] at hr
 refine S.gx [] ?_
 refine gr ?_
 refine S.sees [0,1,7,8] [] [] ?_ (Stop.iter S (fun s1=>⟨[(0,.c (.d (ah 5 bU a0))),(1,.c (.clo 236 [.dL [.int .i64 x0] 0])),(7,.c (.d (.int .i64 (a0.length:Int)))),(8,.c (.d (.int .i64 s1)))],[],[]⟩) (Qo a0 x0) (fun q=>q=r) hr rfl ?_)
 ·exact lf
 ·intro s1 hr
  unfold Qo at hr
  refine S.gx [] ?_
  exact D1 (S.ss [0,1,7,8] [] []) hr
def agX (x1:bg) (x0:aW) (x2:bf) (x3:au) (x4 x5 x6 x7 a1:Int):Option ((Option (Int×Int×Int×Int×Int))):=
 (agR x0 a1).bind fun v1=>
  if (decide (v1≥0))=true then
   if 0≤v1∧v1<(x0.length:Int) then
    some (some ((x0.getD v1.toNat default).1,(x0.getD v1.toNat default).2.1,(x0.getD v1.toNat default).2.2.1,(x0.getD v1.toNat default).2.2.2.1,(x0.getD v1.toNat default).2.2.2.2))
    else none
   else some none
@[go_sem] def atZ:=Wp aoZ true agX
@[go_sem] def afb (k:Nat):=lk [(253,atM.sp)] k
theorem Yb:fE Tryz.prog afb:= .cons f253 .nil
theorem f217:aF Tryz.prog 217 atZ.sp:=by
 refine vm (tb:=afb) (.cons f253 .nil) Tryz.func217 Tryz.ntmps217 fun ⟨x1,x0,x2,x3,x4,x5,x6,x7,a1⟩ r hr stop S=> ?_
 rw [NC,agX] at hr
 refine S.gx [1] ?_
 refine gr ?_
 refine S.inl 4 [4] [] Tryz.func235 (by decide) rfl Tryz.ntmps235 (fun cx e=>aV bT Yb cx e) (some 9) rfl rfl rfl rfl (nL rfl) (nL rfl) ?_
 refine gs ?_
 refine gr ?_
 intro stop1 S1
 refine S1.gx [] ?_
 obtain ⟨v1,hv1,hr⟩:=aA hr
 refine gb hv1 ?_
 refine iW hr (fun hc hr=> ?_) fun hc hr=> ?_
 ·obtain ⟨hg2,hr⟩:=aH hr
  refine gr ?_
  refine gr ?_
  refine S.gx [1] ?_
  exact D0 hr
 ·refine gr ?_
  refine gr ?_
  refine S.gx [1] ?_
  exact D0 hr
def agW (x4 x5 x0 x1 x6 x7 x8 x9 x14 x15 x10 x11 x12 dP x18 x16 x17 x2 x3:Int):Option (Int×Int×Int×Int×Int×Int×Int×Int×Int×Int×Int×Int×Int×Int):=
 (BG (IntKind.i64.wrap (x14+x16))).bind fun v1=>
  (BG (IntKind.i64.wrap (x15+x17))).bind fun v2=>
   if (v1 == 1000000)=true then
    if (v2 == 1000000)=true then
     (BG (IntKind.i64.wrap (x7+(if x3<x1 then x3 else x1)))).bind fun v3=>
      some (x4,x5,(if 0<IntKind.i64.wrap (x0 - x3) then IntKind.i64.wrap (x0 - x3) else 0),(if 0<IntKind.i64.wrap (x1 - x2) then IntKind.i64.wrap (x1 - x2) else 0),IntKind.i64.wrap (x6+(if x2<x0 then x2 else x0)),v3,x8,x9,v1,v2,x10,x11,x12,dP)
     else (BG (IntKind.i64.wrap (x7+(if 0<x1 then 0 else x1)))).bind fun v4=>
      some (x4,x5,(if 0<IntKind.i64.wrap (x0 - 0) then IntKind.i64.wrap (x0 - 0) else 0),(if 0<IntKind.i64.wrap (x1 - x2) then IntKind.i64.wrap (x1 - x2) else 0),IntKind.i64.wrap (x6+(if x2<x0 then x2 else x0)),v4,x8,x9,v1,v2,x10,x11,x12,dP)
    else if (v2 == 1000000)=true then
     (BG (IntKind.i64.wrap (x7+(if x3<x1 then x3 else x1)))).bind fun v5=>
      some (x4,x5,(if 0<IntKind.i64.wrap (x0 - x3) then IntKind.i64.wrap (x0 - x3) else 0),(if 0<IntKind.i64.wrap (x1 - 0) then IntKind.i64.wrap (x1 - 0) else 0),IntKind.i64.wrap (x6+(if 0<x0 then 0 else x0)),v5,x8,x9,v1,v2,x10,x11,x12,dP)
     else (BG (IntKind.i64.wrap (x7+(if 0<x1 then 0 else x1)))).bind fun v6=>
      some (x4,x5,(if 0<IntKind.i64.wrap (x0 - 0) then IntKind.i64.wrap (x0 - 0) else 0),(if 0<IntKind.i64.wrap (x1 - 0) then IntKind.i64.wrap (x1 - 0) else 0),IntKind.i64.wrap (x6+(if 0<x0 then 0 else x0)),v6,x8,x9,v1,v2,x10,x11,x12,dP)
@[go_sem] def atY:=aqW Ib false agW
@[go_sem] def amm (k:Nat):=lk [(233,ae1.sp)] k
theorem f218:aF Tryz.prog 218 atY.sp:=by
 refine vm (tb:=amm) (.cons f233 .nil) Tryz.func218 Tryz.ntmps218 fun ⟨x4,x5,x0,x1,x6,x7,x8,x9,x14,x15,x10,x11,x12,dP,x18,x16,x17,x2,x3⟩ r hr stop S=> ?_
 rw [ace,agW] at hr
 refine S.gx [6,7,10] ?_
 obtain ⟨v1,hv1,hr⟩:=aA hr
 obtain ⟨v2,hv2,hr⟩:=aA hr
 refine gb hv1 ?_
 refine gb hv2 ?_
 refine iW hr (fun hc hr=> ?_) fun hc hr=> ?_
 ·refine gr ?_
  refine iW hr (fun hc hr=> ?_) fun hc hr=> ?_
  ·refine gr ?_
   refine S.prune [2,3,4,5] ?_
   refine S.gx [7,10] ?_
   refine gr ?_
   refine gr ?_
   refine S.prune [2,4,5] ?_
   refine S.gx [6,10] ?_
   refine gr ?_
   obtain ⟨v3,hv3,hr⟩:=aA hr
   refine gb hv3 ?_
   refine S.prune [2,4] ?_
   refine S.gx [6,7] ?_
   exact D0 hr
  ·refine gr ?_
   refine S.prune [2,4,5] ?_
   refine S.gx [6,10] ?_
   refine gr ?_
   obtain ⟨v4,hv4,hr⟩:=aA hr
   refine gb hv4 ?_
   refine S.prune [2,4] ?_
   refine S.gx [6,7] ?_
   exact D0 hr
 ·refine gr ?_
  refine iW hr (fun hc hr=> ?_) fun hc hr=> ?_
  ·refine gr ?_
   refine S.prune [2,3,4,5] ?_
   refine S.gx [7,10] ?_
   refine gr ?_
   refine gr ?_
   refine S.prune [2,4,5] ?_
   refine S.gx [6,10] ?_
   refine gr ?_
   obtain ⟨v5,hv5,hr⟩:=aA hr
   refine gb hv5 ?_
   refine S.prune [2,4] ?_
   refine S.gx [6,7] ?_
   exact D0 hr
  ·refine gr ?_
   refine S.prune [2,4,5] ?_
   refine S.gx [6,10] ?_
   refine gr ?_
   obtain ⟨v6,hv6,hr⟩:=aA hr
   refine gb hv6 ?_
   refine S.prune [2,4] ?_
   refine S.gx [6,7] ?_
   exact D0 hr
def agT (x0 x2 x3 x1:Int):Option (Bool):=
 some (decide (x0≥x1))
@[go_sem] def atP:=aqV qj false agT
theorem f238:aF Tryz.prog 238 atP.sp:=by
 refine vm .nil Tryz.func238 Tryz.ntmps238 fun ⟨x0,x2,x3,x1⟩ r hr stop S=> ?_
 rw [uq4,agT] at hr
 refine S.gx [] ?_
 exact D0 hr
def Qn (a0:bf) (x0:Int):Bd Int Int:=fun s1=>
 if (decide (s1<(a0.length:Int)))=true then
  if 0≤s1∧s1<(a0.length:Int) then
   aP (agT ((a0.getD s1.toNat default).1) ((a0.getD s1.toNat default).2.1) ((a0.getD s1.toNat default).2.2) x0) fun v1=>
    if v1=true then
     .out (some s1)
     else .next (IntKind.i64.wrap (s1+1))
   else .out none
  else .out (some (-1))
def agQ (a0:bf) (x0:Int):Option (Int):=
 aS (Qn a0 x0) 1000000000 0
@[go_sem] def atL:=aqU lF false agQ
@[go_sem] def ami (k:Nat):=lk [(238,atP.sp)] k
theorem f254:aF Tryz.prog 254 atL.sp:=by
 refine vm (tb:=ami) (.cons f238 .nil) Tryz.func254 Tryz.ntmps254 fun ⟨a0,x0⟩ r hr stop S=> ?_
 rw [wo,agQ] at hr
 refine S.gx [] ?_
 refine gr ?_
 refine S.sees [0,1,7,8] [] [] ?_ (Stop.iter S (fun s1=>⟨[(0,.c (.d (ah 3 dh a0))),(1,.c (.clo 238 [.dL [.int .i64 x0] 0])),(7,.c (.d (.int .i64 (a0.length:Int)))),(8,.c (.d (.int .i64 s1)))],[],[]⟩) (Qn a0 x0) (fun q=>q=r) hr rfl ?_)
 ·exact lf
 ·intro s1 hr
  unfold Qn at hr
  refine S.gx [] ?_
  exact D1 (S.ss [0,1,7,8] [] []) hr
def adt (x1:bg) (x2:aW) (x0:bf) (x3:au) (x4 x5 x6 x7 a1:Int):Option ((Option (Int×Int×Int))):=
 (agQ x0 a1).bind fun v1=>
  if (decide (v1≥0))=true then
   if 0≤v1∧v1<(x0.length:Int) then
    some (some ((x0.getD v1.toNat default).1,(x0.getD v1.toNat default).2.1,(x0.getD v1.toNat default).2.2))
    else none
   else some none
@[go_sem] def atX:=Wp aoY true adt
@[go_sem] def afa (k:Nat):=lk [(254,atL.sp)] k
theorem Ya:fE Tryz.prog afa:= .cons f254 .nil
theorem f219:aF Tryz.prog 219 atX.sp:=by
 refine vm (tb:=afa) (.cons f254 .nil) Tryz.func219 Tryz.ntmps219 fun ⟨x1,x2,x0,x3,x4,x5,x6,x7,a1⟩ r hr stop S=> ?_
 rw [NC,adt] at hr
 refine S.gx [1] ?_
 refine gr ?_
 refine S.inl 4 [4] [] Tryz.func237 (by decide) rfl Tryz.ntmps237 (fun cx e=>aV bT Ya cx e) (some 9) rfl rfl rfl rfl (nL rfl) (nL rfl) ?_
 refine gs ?_
 refine gr ?_
 intro stop1 S1
 refine S1.gx [] ?_
 obtain ⟨v1,hv1,hr⟩:=aA hr
 refine gb hv1 ?_
 refine iW hr (fun hc hr=> ?_) fun hc hr=> ?_
 ·obtain ⟨hg2,hr⟩:=aH hr
  refine gr ?_
  refine gr ?_
  refine S.gx [1] ?_
  exact D0 hr
 ·refine gr ?_
  refine gr ?_
  refine S.gx [1] ?_
  exact D0 hr
def Yy (a0 a1 a2:Int):Option (Int):=
 some (if a1<IntKind.i64.wrap ((IntKind.i64.wrap ((IntKind.i64.wrap (a0+a1))*a2)).tdiv 1000000) then IntKind.i64.wrap ((IntKind.i64.wrap ((IntKind.i64.wrap (a0+a1))*a2)).tdiv 1000000) else a1)
@[go_sem] def ajm:=qT1 lF false Yy
theorem f240:aF Tryz.prog 240 ajm.sp:=by
 refine vm .nil Tryz.func240 Tryz.ntmps240 fun ⟨a0,a1,a2⟩ r hr stop S=> ?_
 rw [XP,Yy] at hr
 refine S.gx [] ?_
 exact D0 hr
def adp (a0 a1 a2:Int):Option (Int):=
 (Yy a0 a1 a2).bind fun v1=>
  some (IntKind.i64.wrap ((IntKind.i64.wrap (a0+a1)) - v1))
@[go_sem] def atO:=qT1 lF false adp
@[go_sem] def amk (k:Nat):=lk [(240,ajm.sp)] k
theorem f239:aF Tryz.prog 239 atO.sp:=by
 refine vm (tb:=amk) (.cons f240 .nil) Tryz.func239 Tryz.ntmps239 fun ⟨a0,a1,a2⟩ r hr stop S=> ?_
 rw [XP,adp] at hr
 refine S.gx [] ?_
 exact D0 hr
def ads (x6 x7 x0 x1 x8 x9 x2 x3 x10 x11 x12 dP x14 x15 x16 x4 x5:Int):Option (Int×Int×Int×Int×Int×Int×Int×Int×Int×Int×Int×Int×Int×Int):=
 (Yy x0 x2 x4).bind fun v1=>
  (Yy x1 x3 x5).bind fun v2=>
   (BG v2).bind fun v3=>
    (adp x0 x2 x5).bind fun v4=>
     (adp x1 x3 x4).bind fun v5=>
      some (x6,x7,v4,v5,x8,x9,v1,v3,x10,x11,x12,dP,x14,x15)
@[go_sem] def atW:=aqT Ib false ads
@[go_sem] def aml (k:Nat):=lk [(233,ae1.sp),(239,atO.sp),(240,ajm.sp)] k
theorem f220:aF Tryz.prog 220 atW.sp:=by
 refine vm (tb:=aml) (.cons f233 (.cons f239 (.cons f240 .nil))) Tryz.func220 Tryz.ntmps220 fun ⟨x6,x7,x0,x1,x8,x9,x2,x3,x10,x11,x12,dP,x14,x15,x16,x4,x5⟩ r hr stop S=> ?_
 rw [akD,ads] at hr
 refine S.gx [5] ?_
 obtain ⟨v1,hv1,hr⟩:=aA hr
 obtain ⟨v2,hv2,hr⟩:=aA hr
 obtain ⟨v3,hv3,hr⟩:=aA hr
 obtain ⟨v4,hv4,hr⟩:=aA hr
 obtain ⟨v5,hv5,hr⟩:=aA hr
 refine gb hv1 ?_
 refine gb hv2 ?_
 refine gb hv3 ?_
 refine gb hv4 ?_
 refine gb hv5 ?_
 refine S.prune [2,4] ?_
 refine S.gx [] ?_
 exact D0 hr
def agS (x0 x2 x1:Int):Option (Bool):=
 some (decide (x0≤x1))
@[go_sem] def atN:=aqS qj false agS
theorem f242:aF Tryz.prog 242 atN.sp:=by
 refine vm .nil Tryz.func242 Tryz.ntmps242 fun ⟨x0,x2,x1⟩ r hr stop S=> ?_
 rw [XP,agS] at hr
 refine S.gx [] ?_
 exact D0 hr
def Qp (x0:au) (a1:Int):Bd Int (Option (Int×Int)):=fun s1=>
 if (decide (s1≥0))=true then
  if 0≤s1∧s1<(x0.length:Int) then
   if 0≤s1∧s1<(x0.length:Int) then
    aP (agS ((x0.getD s1.toNat default).1) ((x0.getD s1.toNat default).2) a1) fun v1=>
     if v1=true then
      if 0≤s1∧s1<(x0.length:Int) then
       .out (some (some ((x0.getD s1.toNat default).1,(x0.getD s1.toNat default).2)))
       else .out none
      else .next (IntKind.i64.wrap (s1 - 1))
    else .out none
   else .out none
  else .out (some none)
def V3 (x1:bg) (x2:aW) (x3:bf) (x0:au) (x4 x5 x6 x7 a1:Int):Option ((Option (Int×Int))):=
 aS (Qp x0 a1) 1000000000 (IntKind.i64.wrap ((x0.length:Int) - 1))
@[go_sem] def atV:=Wp aoX true V3
@[go_sem] def ae' (k:Nat):=lk [(242,atN.sp)] k
theorem wz:fE Tryz.prog ae':= .cons f242 .nil
theorem f221:aF Tryz.prog 221 atV.sp:=by
 refine vm (tb:=ae') (.cons f242 .nil) Tryz.func221 Tryz.ntmps221 fun ⟨x1,x2,x3,x0,x4,x5,x6,x7,a1⟩ r hr stop S=> ?_
 rw [NC,V3] at hr
 refine S.gx [1] ?_
 refine gr ?_
 refine S.inl 4 [4] [] Tryz.func241 (by decide) rfl Tryz.ntmps241 (fun cx e=>aV bT wz cx e) (some 9) rfl rfl rfl rfl (nL rfl) (nL rfl) ?_
 refine gs ?_
 refine gr ?_
 intro stop1 S1
 refine S1.gx [1,3] ?_
 refine gr ?_
 refine S1.inl 1 [2,3,4] [] Tryz.func255 (by decide) rfl Tryz.ntmps255 (fun cx e=>aV bT wz cx e) (some 7) rfl rfl rfl rfl (nL rfl) (nL rfl) ?_
 refine gs ?_
 refine gr ?_
 intro stop2 S2
 refine S2.gx [] ?_
 refine gr ?_
 refine gr ?_
 refine S1.gx [1,3] ?_
 refine gr ?_
 refine S1.range [2,3,4] Tryz.func261 (by decide) rfl Tryz.ntmps261 Tryz.results261 (fun cx e=>aV bT wz cx e) (fun cx e=>aV bT wz cx e) (by decide) rfl rfl (nL rfl) ?_
 intro l2 stop2 agE S2 SJ2 Y2
 refine S2.gx [3] ?_
 refine gr ?_
 refine S2.sees [0,1,3] [(1,1),(100002,100002),(100003,100003),(4,4),(3,3)] [] ?_ (Stop.iter S2 (fun s1=>⟨[(0,.c (.Vw l2)),(1,.c (.ref 1 0)),(3,.c (.d (.int .i64 s1)))],[(1,[.d (ah 2 aO x0)]),(100002,[.d (ah 2 aO x0)]),(100003,[.clo 242 [.ref 3 0]]),(4,[.d (vJ aO none)]),(3,[.d (.int .i64 a1)])],[]⟩) (Qp x0 a1) (fun q=>q=r) hr rfl ?_)
 ·exact lf
 ·intro s1 hr
  unfold Qp at hr
  refine S2.gx [3] ?_
  refine gr ?_
  refine dN hr (fun hc hr=> ?_) fun hc hr=> ?_
  ·refine gr ?_
   refine Y2 6 [0,1,3] (some 17) rfl rfl rfl rfl (nL rfl) (by rfl) ?_
   refine gs ?_
   obtain ⟨hg4,hr⟩:=aC hr
   refine gr ?_
   intro agF SA3
   refine SA3.gx [] ?_
   refine gr ?_
   intro AY S3
   refine S3.gx [1,3] ?_
   refine gr ?_
   refine S3.gx [1] ?_
   obtain ⟨hg3,hr⟩:=aC hr
   obtain ⟨v1,hv1,hr⟩:=aQ hr
   refine gb hv1 ?_
   refine gr ?_
   refine dN hr (fun hc hr=> ?_) fun hc hr=> ?_
   ·obtain ⟨hg2,hr⟩:=aC hr
    refine gr ?_
    refine gr ?_
    refine (SJ2 .ret).gx [3] ?_
    refine gr ?_
    have hr:=bK hr
    refine gr ?_
    refine S1.gx [1,3] ?_
    refine gr ?_
    refine gr ?_
    refine S.gx [1] ?_
    exact D0 hr
   ·refine gr ?_
    refine gr ?_
    refine S2.gx [3] ?_
    exact D1 (S2.ss [0,1,3] [(1,1),(100002,100002),(100003,100003),(4,4),(3,3)] []) hr
  ·refine gr ?_
   have hr:=bK hr
   refine gr ?_
   refine gr ?_
   refine S1.gx [1,3] ?_
   refine gr ?_
   refine gr ?_
   refine S.gx [1] ?_
   exact D0 hr
def Ep (a0:Int) (x0:Option (Int×Int)):Option (Int):=
 if x0.isSome=true then
  if x0.isSome=true then
   some (if 1000000<IntKind.i64.wrap (a0+((x0.getD default).2)) then 1000000 else IntKind.i64.wrap (a0+((x0.getD default).2)))
   else none
  else none
@[go_sem] def atU:=aqR lF false Ep
theorem f222:aF Tryz.prog 222 atU.sp:=by
 refine vm .nil Tryz.func222 Tryz.ntmps222 fun ⟨a0,x0⟩ r hr stop S=> ?_
 rw [wo,Ep] at hr
 refine S.gx [] ?_
 exact D0 hr
def adu (x0:bg) (x1:aW) (x2:bf) (x3:au) (x4 x5 x6 x7 x8 x9 x10 x11 x12 dP x14 x15 x16 x17 x18 x19 x20 x21 a2:Int):Option (Int×Int×Int×Int×Int×Int×Int×Int×Int×Int×Int×Int×Int×Int):=
 (agZ x0 x1 x2 x3 x4 x5 x6 x7 a2).bind fun v1=>
  if v1.isSome=true then
   if v1.isSome=true then
    if v1.isSome=true then
     (agY x8 x9 x10 x11 x12 dP x14 x15 x16 x17 x18 x19 x20 x21 ((v1.getD default).1) ((v1.getD default).2.1) ((v1.getD default).2.2.1) ((v1.getD default).2.2.2)).bind fun v2=>
      some (v2.1,v2.2.1,v2.2.2.1,v2.2.2.2.1,v2.2.2.2.2.1,v2.2.2.2.2.2.1,v2.2.2.2.2.2.2.1,v2.2.2.2.2.2.2.2.1,v2.2.2.2.2.2.2.2.2.1,v2.2.2.2.2.2.2.2.2.2.1,v2.2.2.2.2.2.2.2.2.2.2.1,v2.2.2.2.2.2.2.2.2.2.2.2.1,v2.2.2.2.2.2.2.2.2.2.2.2.2.1,v2.2.2.2.2.2.2.2.2.2.2.2.2.2)
     else none
    else none
   else (agX x0 x1 x2 x3 x4 x5 x6 x7 a2).bind fun v5=>
    if v5.isSome=true then
     if v5.isSome=true then
      if v5.isSome=true then
       (agW x8 x9 x10 x11 x12 dP x14 x15 x16 x17 x18 x19 x20 x21 ((v5.getD default).1) ((v5.getD default).2.1) ((v5.getD default).2.2.1) ((v5.getD default).2.2.2.1) ((v5.getD default).2.2.2.2)).bind fun v6=>
        (adt x0 x1 x2 x3 x4 x5 x6 x7 a2).bind fun v7=>
         if v7.isSome=true then
          if v7.isSome=true then
           if v7.isSome=true then
            (ads v6.1 v6.2.1 v6.2.2.1 v6.2.2.2.1 v6.2.2.2.2.1 v6.2.2.2.2.2.1 v6.2.2.2.2.2.2.1 v6.2.2.2.2.2.2.2.1 v6.2.2.2.2.2.2.2.2.1 v6.2.2.2.2.2.2.2.2.2.1 v6.2.2.2.2.2.2.2.2.2.2.1 v6.2.2.2.2.2.2.2.2.2.2.2.1 v6.2.2.2.2.2.2.2.2.2.2.2.2.1 v6.2.2.2.2.2.2.2.2.2.2.2.2.2 ((v7.getD default).1) ((v7.getD default).2.1) ((v7.getD default).2.2)).bind fun v8=>
             (V3 x0 x1 x2 x3 x4 x5 x6 x7 a2).bind fun v9=>
              if v9.isSome=true then
               (Ep v8.2.2.2.2.2.2.2.2.2.2.2.2.1 v9).bind fun v10=>
                (Ep v8.2.2.2.2.2.2.2.2.2.2.2.2.2 v9).bind fun v11=>
                 some (v8.1,v8.2.1,v8.2.2.1,v8.2.2.2.1,v8.2.2.2.2.1,v8.2.2.2.2.2.1,v8.2.2.2.2.2.2.1,v8.2.2.2.2.2.2.2.1,v8.2.2.2.2.2.2.2.2.1,v8.2.2.2.2.2.2.2.2.2.1,v8.2.2.2.2.2.2.2.2.2.2.1,v8.2.2.2.2.2.2.2.2.2.2.2.1,v10,v11)
               else some (v8.1,v8.2.1,v8.2.2.1,v8.2.2.2.1,v8.2.2.2.2.1,v8.2.2.2.2.2.1,v8.2.2.2.2.2.2.1,v8.2.2.2.2.2.2.2.1,v8.2.2.2.2.2.2.2.2.1,v8.2.2.2.2.2.2.2.2.2.1,v8.2.2.2.2.2.2.2.2.2.2.1,v8.2.2.2.2.2.2.2.2.2.2.2.1,v8.2.2.2.2.2.2.2.2.2.2.2.2.1,v8.2.2.2.2.2.2.2.2.2.2.2.2.2)
            else none
           else none
          else (V3 x0 x1 x2 x3 x4 x5 x6 x7 a2).bind fun v14=>
           if v14.isSome=true then
            (Ep v6.2.2.2.2.2.2.2.2.2.2.2.2.1 v14).bind fun v15=>
             (Ep v6.2.2.2.2.2.2.2.2.2.2.2.2.2 v14).bind fun v16=>
              some (v6.1,v6.2.1,v6.2.2.1,v6.2.2.2.1,v6.2.2.2.2.1,v6.2.2.2.2.2.1,v6.2.2.2.2.2.2.1,v6.2.2.2.2.2.2.2.1,v6.2.2.2.2.2.2.2.2.1,v6.2.2.2.2.2.2.2.2.2.1,v6.2.2.2.2.2.2.2.2.2.2.1,v6.2.2.2.2.2.2.2.2.2.2.2.1,v15,v16)
            else some (v6.1,v6.2.1,v6.2.2.1,v6.2.2.2.1,v6.2.2.2.2.1,v6.2.2.2.2.2.1,v6.2.2.2.2.2.2.1,v6.2.2.2.2.2.2.2.1,v6.2.2.2.2.2.2.2.2.1,v6.2.2.2.2.2.2.2.2.2.1,v6.2.2.2.2.2.2.2.2.2.2.1,v6.2.2.2.2.2.2.2.2.2.2.2.1,v6.2.2.2.2.2.2.2.2.2.2.2.2.1,v6.2.2.2.2.2.2.2.2.2.2.2.2.2)
       else none
      else none
     else (adt x0 x1 x2 x3 x4 x5 x6 x7 a2).bind fun v19=>
      if v19.isSome=true then
       if v19.isSome=true then
        if v19.isSome=true then
         (ads x8 x9 x10 x11 x12 dP x14 x15 x16 x17 x18 x19 x20 x21 ((v19.getD default).1) ((v19.getD default).2.1) ((v19.getD default).2.2)).bind fun v20=>
          (V3 x0 x1 x2 x3 x4 x5 x6 x7 a2).bind fun v21=>
           if v21.isSome=true then
            (Ep v20.2.2.2.2.2.2.2.2.2.2.2.2.1 v21).bind fun v22=>
             (Ep v20.2.2.2.2.2.2.2.2.2.2.2.2.2 v21).bind fun v23=>
              some (v20.1,v20.2.1,v20.2.2.1,v20.2.2.2.1,v20.2.2.2.2.1,v20.2.2.2.2.2.1,v20.2.2.2.2.2.2.1,v20.2.2.2.2.2.2.2.1,v20.2.2.2.2.2.2.2.2.1,v20.2.2.2.2.2.2.2.2.2.1,v20.2.2.2.2.2.2.2.2.2.2.1,v20.2.2.2.2.2.2.2.2.2.2.2.1,v22,v23)
            else some (v20.1,v20.2.1,v20.2.2.1,v20.2.2.2.1,v20.2.2.2.2.1,v20.2.2.2.2.2.1,v20.2.2.2.2.2.2.1,v20.2.2.2.2.2.2.2.1,v20.2.2.2.2.2.2.2.2.1,v20.2.2.2.2.2.2.2.2.2.1,v20.2.2.2.2.2.2.2.2.2.2.1,v20.2.2.2.2.2.2.2.2.2.2.2.1,v20.2.2.2.2.2.2.2.2.2.2.2.2.1,v20.2.2.2.2.2.2.2.2.2.2.2.2.2)
         else none
        else none
       else (V3 x0 x1 x2 x3 x4 x5 x6 x7 a2).bind fun v26=>
        if v26.isSome=true then
         (Ep x20 v26).bind fun v27=>
          (Ep x21 v26).bind fun v28=>
           some (x8,x9,x10,x11,x12,dP,x14,x15,x16,x17,x18,x19,v27,v28)
         else some (x8,x9,x10,x11,x12,dP,x14,x15,x16,x17,x18,x19,x20,x21)
@[go_sem] def auh:=aqQ Ib false adu
@[go_sem] def amo (k:Nat):=lk [(215,at6.sp),(216,at1.sp),(217,atZ.sp),(218,atY.sp),(219,atX.sp),(220,atW.sp),(221,atV.sp),(222,atU.sp)] k
theorem f200:aF Tryz.prog 200 auh.sp:=by
 refine vm (tb:=amo) (.cons f215 (.cons f216 (.cons f217 (.cons f218 (.cons f219 (.cons f220 (.cons f221 (.cons f222 .nil)))))))) Tryz.func200 Tryz.ntmps200 fun ⟨x0,x1,x2,x3,x4,x5,x6,x7,x8,x9,x10,x11,x12,dP,x14,x15,x16,x17,x18,x19,x20,x21,a2⟩ r hr stop S=> ?_
 rw [acd,adu] at hr
 refine S.gx [10] ?_
 obtain ⟨v1,hv1,hr⟩:=aA hr
 refine gb hv1 ?_
 refine iW hr (fun hc hr=>D0 hr) fun hc hr=> ?_
 obtain ⟨v5,hv5,hr⟩:=aA hr
 refine gb hv5 ?_
 refine iW hr (fun hc hr=> ?_) fun hc hr=> ?_
 ·obtain ⟨aiQ,hr⟩:=aH hr
  obtain ⟨aAk,hr⟩:=aH hr
  obtain ⟨v6,hv6,hr⟩:=aA hr
  obtain ⟨v7,hv7,hr⟩:=aA hr
  refine gb hv6 ?_
  refine gb hv7 ?_
  refine iW hr (fun hc hr=> ?_) fun hc hr=> ?_
  ·obtain ⟨CP,hr⟩:=aH hr
   obtain ⟨IE,hr⟩:=aH hr
   obtain ⟨v8,OY,hr⟩:=aA hr
   refine gb OY ?_
   refine S.prune [2,3,4,6] ?_
   refine S.gx [] ?_
   exact D0 hr
  ·refine gr ?_
   refine S.prune [2,3,4,6] ?_
   refine S.gx [] ?_
   exact D0 hr
 ·obtain ⟨v19,OZ,hr⟩:=aA hr
  refine gb OZ ?_
  refine iW hr (fun hc hr=> ?_) fun hc hr=> ?_
  ·obtain ⟨aeg,hr⟩:=aH hr
   obtain ⟨aAi,hr⟩:=aH hr
   obtain ⟨v20,IB,hr⟩:=aA hr
   refine gb IB ?_
   refine S.prune [2,3,4,6] ?_
   refine S.gx [] ?_
   exact D0 hr
  ·refine gr ?_
   refine S.prune [2,3,4,6] ?_
   refine S.gx [] ?_
   exact D0 hr
def Qr (x0 x1 x2 x3 x4 x5 x6 x7 x8 x9 x10 x11 x12 dP:Int):Bd (Int×Int×Int×Int×Int×Int×Int×Int×Int×Int×Int×Int×Int×Int×Int) (Int×Int×Int×Int×Int×Int×Int×Int×Int×Int×Int×Int×Int×Int):=fun s1=>
 if (decide (s1.1<7))=true then
  if s1.1=0 then
   .next (1,(if x0<s1.2.1 then x0 else s1.2.1),(if s1.2.2.1<x1 then x1 else s1.2.2.1),s1.2.2.2.1,s1.2.2.2.2.1,s1.2.2.2.2.2.1,s1.2.2.2.2.2.2.1,s1.2.2.2.2.2.2.2.1,s1.2.2.2.2.2.2.2.2.1,s1.2.2.2.2.2.2.2.2.2.1,s1.2.2.2.2.2.2.2.2.2.2.1,s1.2.2.2.2.2.2.2.2.2.2.2.1,s1.2.2.2.2.2.2.2.2.2.2.2.2.1,s1.2.2.2.2.2.2.2.2.2.2.2.2.2.1,s1.2.2.2.2.2.2.2.2.2.2.2.2.2.2)
   else if s1.1=1 then
    .next (2,s1.2.1,s1.2.2.1,(if x2<s1.2.2.2.1 then x2 else s1.2.2.2.1),(if s1.2.2.2.2.1<x3 then x3 else s1.2.2.2.2.1),s1.2.2.2.2.2.1,s1.2.2.2.2.2.2.1,s1.2.2.2.2.2.2.2.1,s1.2.2.2.2.2.2.2.2.1,s1.2.2.2.2.2.2.2.2.2.1,s1.2.2.2.2.2.2.2.2.2.2.1,s1.2.2.2.2.2.2.2.2.2.2.2.1,s1.2.2.2.2.2.2.2.2.2.2.2.2.1,s1.2.2.2.2.2.2.2.2.2.2.2.2.2.1,s1.2.2.2.2.2.2.2.2.2.2.2.2.2.2)
    else if s1.1=2 then
     .next (3,s1.2.1,s1.2.2.1,s1.2.2.2.1,s1.2.2.2.2.1,(if x4<s1.2.2.2.2.2.1 then x4 else s1.2.2.2.2.2.1),(if s1.2.2.2.2.2.2.1<x5 then x5 else s1.2.2.2.2.2.2.1),s1.2.2.2.2.2.2.2.1,s1.2.2.2.2.2.2.2.2.1,s1.2.2.2.2.2.2.2.2.2.1,s1.2.2.2.2.2.2.2.2.2.2.1,s1.2.2.2.2.2.2.2.2.2.2.2.1,s1.2.2.2.2.2.2.2.2.2.2.2.2.1,s1.2.2.2.2.2.2.2.2.2.2.2.2.2.1,s1.2.2.2.2.2.2.2.2.2.2.2.2.2.2)
     else if s1.1=3 then
      .next (4,s1.2.1,s1.2.2.1,s1.2.2.2.1,s1.2.2.2.2.1,s1.2.2.2.2.2.1,s1.2.2.2.2.2.2.1,(if x6<s1.2.2.2.2.2.2.2.1 then x6 else s1.2.2.2.2.2.2.2.1),(if s1.2.2.2.2.2.2.2.2.1<x7 then x7 else s1.2.2.2.2.2.2.2.2.1),s1.2.2.2.2.2.2.2.2.2.1,s1.2.2.2.2.2.2.2.2.2.2.1,s1.2.2.2.2.2.2.2.2.2.2.2.1,s1.2.2.2.2.2.2.2.2.2.2.2.2.1,s1.2.2.2.2.2.2.2.2.2.2.2.2.2.1,s1.2.2.2.2.2.2.2.2.2.2.2.2.2.2)
      else if s1.1=4 then
       .next (5,s1.2.1,s1.2.2.1,s1.2.2.2.1,s1.2.2.2.2.1,s1.2.2.2.2.2.1,s1.2.2.2.2.2.2.1,s1.2.2.2.2.2.2.2.1,s1.2.2.2.2.2.2.2.2.1,(if x8<s1.2.2.2.2.2.2.2.2.2.1 then x8 else s1.2.2.2.2.2.2.2.2.2.1),(if s1.2.2.2.2.2.2.2.2.2.2.1<x9 then x9 else s1.2.2.2.2.2.2.2.2.2.2.1),s1.2.2.2.2.2.2.2.2.2.2.2.1,s1.2.2.2.2.2.2.2.2.2.2.2.2.1,s1.2.2.2.2.2.2.2.2.2.2.2.2.2.1,s1.2.2.2.2.2.2.2.2.2.2.2.2.2.2)
       else if s1.1=5 then
        .next (6,s1.2.1,s1.2.2.1,s1.2.2.2.1,s1.2.2.2.2.1,s1.2.2.2.2.2.1,s1.2.2.2.2.2.2.1,s1.2.2.2.2.2.2.2.1,s1.2.2.2.2.2.2.2.2.1,s1.2.2.2.2.2.2.2.2.2.1,s1.2.2.2.2.2.2.2.2.2.2.1,(if x10<s1.2.2.2.2.2.2.2.2.2.2.2.1 then x10 else s1.2.2.2.2.2.2.2.2.2.2.2.1),(if s1.2.2.2.2.2.2.2.2.2.2.2.2.1<x11 then x11 else s1.2.2.2.2.2.2.2.2.2.2.2.2.1),s1.2.2.2.2.2.2.2.2.2.2.2.2.2.1,s1.2.2.2.2.2.2.2.2.2.2.2.2.2.2)
        else if s1.1=6 then
         .next (7,s1.2.1,s1.2.2.1,s1.2.2.2.1,s1.2.2.2.2.1,s1.2.2.2.2.2.1,s1.2.2.2.2.2.2.1,s1.2.2.2.2.2.2.2.1,s1.2.2.2.2.2.2.2.2.1,s1.2.2.2.2.2.2.2.2.2.1,s1.2.2.2.2.2.2.2.2.2.2.1,s1.2.2.2.2.2.2.2.2.2.2.2.1,s1.2.2.2.2.2.2.2.2.2.2.2.2.1,(if x12<s1.2.2.2.2.2.2.2.2.2.2.2.2.2.1 then x12 else s1.2.2.2.2.2.2.2.2.2.2.2.2.2.1),(if s1.2.2.2.2.2.2.2.2.2.2.2.2.2.2<dP then dP else s1.2.2.2.2.2.2.2.2.2.2.2.2.2.2))
         else .out none
  else .out (some (s1.2.1,s1.2.2.1,s1.2.2.2.1,s1.2.2.2.2.1,s1.2.2.2.2.2.1,s1.2.2.2.2.2.2.1,s1.2.2.2.2.2.2.2.1,s1.2.2.2.2.2.2.2.2.1,s1.2.2.2.2.2.2.2.2.2.1,s1.2.2.2.2.2.2.2.2.2.2.1,s1.2.2.2.2.2.2.2.2.2.2.2.1,s1.2.2.2.2.2.2.2.2.2.2.2.2.1,s1.2.2.2.2.2.2.2.2.2.2.2.2.2.1,s1.2.2.2.2.2.2.2.2.2.2.2.2.2.2))
def ag3 (x14 x15 x16 x17 x18 x19 x20 x21 rJ x23 x24 x25 EM x27 x0 x1 x2 x3 x4 x5 x6 x7 x8 x9 x10 x11 x12 dP:Int):Option (Int×Int×Int×Int×Int×Int×Int×Int×Int×Int×Int×Int×Int×Int):=
 aS (Qr x0 x1 x2 x3 x4 x5 x6 x7 x8 x9 x10 x11 x12 dP) 1000000000 (0,x14,x15,x16,x17,x18,x19,x20,x21,rJ,x23,x24,x25,EM,x27)
@[go_sem] def aug:=aqP Ib false ag3
def afd:og:=lk []
theorem JV:fE Tryz.prog afd:=fE.nil
theorem f201:aF Tryz.prog 201 aug.sp:=by
 refine vm (tb:=afd) .nil Tryz.func201 Tryz.ntmps201 fun ⟨x14,x15,x16,x17,x18,x19,x20,x21,rJ,x23,x24,x25,EM,x27,x0,x1,x2,x3,x4,x5,x6,x7,x8,x9,x10,x11,x12,dP⟩ r hr stop S=> ?_
 rw [akz,ag3] at hr
 refine S.gx [1,2,4,6] ?_
 refine gr ?_
 refine S.inl 0 [2,4] [] Tryz.func175 (by decide) rfl Tryz.ntmps175 (fun cx e=>aV bT JV cx e) (some 8) rfl rfl rfl rfl (nL rfl) (nL rfl) ?_
 refine gs ?_
 refine gr ?_
 intro stop1 S1
 refine S1.gx [] ?_
 refine gr ?_
 refine gr ?_
 refine S.gx [1,2,4,6] ?_
 refine gr ?_
 refine S.inl 0 [2,4,5] [] Tryz.func175 (by decide) rfl Tryz.ntmps175 (fun cx e=>aV bT JV cx e) (some 9) rfl rfl rfl rfl (nL rfl) (nL rfl) ?_
 refine gs ?_
 refine gr ?_
 intro stop1 S1
 refine S1.gx [] ?_
 refine gr ?_
 refine gr ?_
 refine S.gx [1,2,4,6] ?_
 refine gr ?_
 refine S.sees [2,4,5,9,10] [(2,2),(4,4),(5,5),(3,3)] [] ?_ (Stop.iter S (fun s1=>⟨[(2,.c (.ref 2 0)),(4,.c (.ref 4 0)),(5,.c (.ref 5 0)),(9,.agg [.ref 2 0,.ref 2 2,.ref 2 4,.ref 2 6,.ref 2 8,.ref 2 10,.ref 2 12]),(10,.c (.d (.int .i64 s1.1)))],[(2,[.d (.int .i64 s1.2.1),.d (.int .i64 s1.2.2.1),.d (.int .i64 s1.2.2.2.1),.d (.int .i64 s1.2.2.2.2.1),.d (.int .i64 s1.2.2.2.2.2.1),.d (.int .i64 s1.2.2.2.2.2.2.1),.d (.int .i64 s1.2.2.2.2.2.2.2.1),.d (.int .i64 s1.2.2.2.2.2.2.2.2.1),.d (.int .i64 s1.2.2.2.2.2.2.2.2.2.1),.d (.int .i64 s1.2.2.2.2.2.2.2.2.2.2.1),.d (.int .i64 s1.2.2.2.2.2.2.2.2.2.2.2.1),.d (.int .i64 s1.2.2.2.2.2.2.2.2.2.2.2.2.1),.d (.int .i64 s1.2.2.2.2.2.2.2.2.2.2.2.2.2.1),.d (.int .i64 s1.2.2.2.2.2.2.2.2.2.2.2.2.2.2)]),(4,[.d (.int .i64 0),.d (.int .i64 0),.d (.int .i64 0),.d (.int .i64 0),.d (.int .i64 0),.d (.int .i64 0),.d (.int .i64 0),.d (.int .i64 0),.d (.int .i64 0),.d (.int .i64 0),.d (.int .i64 0),.d (.int .i64 0),.d (.int .i64 0),.d (.int .i64 0)]),(5,[.ref 3 0,.ref 3 2,.ref 3 4,.ref 3 6,.ref 3 8,.ref 3 10,.ref 3 12]),(3,[.d (.int .i64 x0),.d (.int .i64 x1),.d (.int .i64 x2),.d (.int .i64 x3),.d (.int .i64 x4),.d (.int .i64 x5),.d (.int .i64 x6),.d (.int .i64 x7),.d (.int .i64 x8),.d (.int .i64 x9),.d (.int .i64 x10),.d (.int .i64 x11),.d (.int .i64 x12),.d (.int .i64 dP)])],[]⟩) (Qr x0 x1 x2 x3 x4 x5 x6 x7 x8 x9 x10 x11 x12 dP) (fun q=>q=r) hr rfl ?_)
 ·exact lf
 ·intro s1 hr
  unfold Qr at hr
  refine S.gx [1,2,4,6] ?_
  refine gr ?_
  refine dN hr (fun hc hr=> ?_) fun hc hr=>D0 hr
  refine gr ?_
  by_cases hs7:s1.1=0
  ·rw [if_pos hs7] at hr
   simp only [hs7]
   refine S.gx [1,2,6] ?_
   refine gr ?_
   refine gr ?_
   refine S.prune [2,4,5,9,10] ?_
   refine S.gx [1,2,4] ?_
   exact D1 (S.ss [2,4,5,9,10] [(2,2),(4,4),(5,5),(3,3)] []) hr
  ·rw [if_neg hs7] at hr
   by_cases hs6:s1.1=1
   ·rw [if_pos hs6] at hr
    simp only [hs6]
    refine S.gx [1,2,6] ?_
    refine gr ?_
    refine gr ?_
    refine S.prune [2,4,5,9,10] ?_
    refine S.gx [1,2,4] ?_
    exact D1 (S.ss [2,4,5,9,10] [(2,2),(4,4),(5,5),(3,3)] []) hr
   ·rw [if_neg hs6] at hr
    by_cases hs5:s1.1=2
    ·rw [if_pos hs5] at hr
     simp only [hs5]
     refine S.gx [1,2,6] ?_
     refine gr ?_
     refine gr ?_
     refine S.prune [2,4,5,9,10] ?_
     refine S.gx [1,2,4] ?_
     exact D1 (S.ss [2,4,5,9,10] [(2,2),(4,4),(5,5),(3,3)] []) hr
    ·rw [if_neg hs5] at hr
     by_cases hs4:s1.1=3
     ·rw [if_pos hs4] at hr
      simp only [hs4]
      refine S.gx [1,2,6] ?_
      refine gr ?_
      refine gr ?_
      refine S.prune [2,4,5,9,10] ?_
      refine S.gx [1,2,4] ?_
      exact D1 (S.ss [2,4,5,9,10] [(2,2),(4,4),(5,5),(3,3)] []) hr
     ·rw [if_neg hs4] at hr
      by_cases hs3:s1.1=4
      ·rw [if_pos hs3] at hr
       simp only [hs3]
       refine S.gx [1,2,6] ?_
       refine gr ?_
       refine gr ?_
       refine S.prune [2,4,5,9,10] ?_
       refine S.gx [1,2,4] ?_
       exact D1 (S.ss [2,4,5,9,10] [(2,2),(4,4),(5,5),(3,3)] []) hr
      ·rw [if_neg hs3] at hr
       by_cases hs2:s1.1=5
       ·rw [if_pos hs2] at hr
        simp only [hs2]
        refine S.gx [1,2,6] ?_
        refine gr ?_
        refine gr ?_
        refine S.prune [2,4,5,9,10] ?_
        refine S.gx [1,2,4] ?_
        exact D1 (S.ss [2,4,5,9,10] [(2,2),(4,4),(5,5),(3,3)] []) hr
       ·rw [if_neg hs2] at hr
        by_cases hs1:s1.1=6
        ·rw [if_pos hs1] at hr
         simp only [hs1]
         refine S.gx [1,2,6] ?_
         refine gr ?_
         refine gr ?_
         refine S.prune [2,4,5,9,10] ?_
         refine S.gx [1,2,4] ?_
         exact D1 (S.ss [2,4,5,9,10] [(2,2),(4,4),(5,5),(3,3)] []) hr
        ·rw [if_neg hs1] at hr
         first | cases hr | exact hr.elim
def Qs (x0:bg) (x1:aW) (x2:bf) (x3:au) (x4 x5 x6 x7 x8 x9 x10 x11 x12 dP x14 x15 x16 x17 x18 x19 x20 x21 rJ:Int):Bd (Int×Int×Int×Int×Int×Int×Int×Int×Int×Int×Int×Int×Int×Int×Int) (Int×Int×Int×Int×Int×Int×Int×Int×Int×Int×Int×Int×Int×Int):=fun s1=>
 if (decide (s1.1≤rJ))=true then
  aP (adu x0 x1 x2 x3 x4 x5 x6 x7 x8 x9 x10 x11 x12 dP x14 x15 x16 x17 x18 x19 x20 x21 s1.1) fun v2=>
   aP (ag3 s1.2.1 s1.2.2.1 s1.2.2.2.1 s1.2.2.2.2.1 s1.2.2.2.2.2.1 s1.2.2.2.2.2.2.1 s1.2.2.2.2.2.2.2.1 s1.2.2.2.2.2.2.2.2.1 s1.2.2.2.2.2.2.2.2.2.1 s1.2.2.2.2.2.2.2.2.2.2.1 s1.2.2.2.2.2.2.2.2.2.2.2.1 s1.2.2.2.2.2.2.2.2.2.2.2.2.1 s1.2.2.2.2.2.2.2.2.2.2.2.2.2.1 s1.2.2.2.2.2.2.2.2.2.2.2.2.2.2 v2.1 v2.2.1 v2.2.2.1 v2.2.2.2.1 v2.2.2.2.2.1 v2.2.2.2.2.2.1 v2.2.2.2.2.2.2.1 v2.2.2.2.2.2.2.2.1 v2.2.2.2.2.2.2.2.2.1 v2.2.2.2.2.2.2.2.2.2.1 v2.2.2.2.2.2.2.2.2.2.2.1 v2.2.2.2.2.2.2.2.2.2.2.2.1 v2.2.2.2.2.2.2.2.2.2.2.2.2.1 v2.2.2.2.2.2.2.2.2.2.2.2.2.2) fun v3=>
    .next (IntKind.i64.wrap (s1.1+1),v3.1,v3.2.1,v3.2.2.1,v3.2.2.2.1,v3.2.2.2.2.1,v3.2.2.2.2.2.1,v3.2.2.2.2.2.2.1,v3.2.2.2.2.2.2.2.1,v3.2.2.2.2.2.2.2.2.1,v3.2.2.2.2.2.2.2.2.2.1,v3.2.2.2.2.2.2.2.2.2.2.1,v3.2.2.2.2.2.2.2.2.2.2.2.1,v3.2.2.2.2.2.2.2.2.2.2.2.2.1,v3.2.2.2.2.2.2.2.2.2.2.2.2.2)
  else .out (some (s1.2.1,s1.2.2.1,s1.2.2.2.1,s1.2.2.2.2.1,s1.2.2.2.2.2.1,s1.2.2.2.2.2.2.1,s1.2.2.2.2.2.2.2.1,s1.2.2.2.2.2.2.2.2.1,s1.2.2.2.2.2.2.2.2.2.1,s1.2.2.2.2.2.2.2.2.2.2.1,s1.2.2.2.2.2.2.2.2.2.2.2.1,s1.2.2.2.2.2.2.2.2.2.2.2.2.1,s1.2.2.2.2.2.2.2.2.2.2.2.2.2.1,s1.2.2.2.2.2.2.2.2.2.2.2.2.2.2))
def ag9 (x0:bg) (x1:aW) (x2:bf) (x3:au) (x4 x5 x6 x7 x8 x9 x10 x11 x12 dP x14 x15 x16 x17 x18 x19 x20 x21 x23 rJ:Int):Option (Int×Int×Int×Int×Int×Int×Int×Int×Int×Int×Int×Int×Int×Int):=
 (adu x0 x1 x2 x3 x4 x5 x6 x7 x8 x9 x10 x11 x12 dP x14 x15 x16 x17 x18 x19 x20 x21 x23).bind fun v1=>
  aS (Qs x0 x1 x2 x3 x4 x5 x6 x7 x8 x9 x10 x11 x12 dP x14 x15 x16 x17 x18 x19 x20 x21 rJ) 1000000000 (IntKind.i64.wrap (x23+1),v1.1,v1.2.1,v1.2.2.1,v1.2.2.2.1,v1.2.2.2.2.1,v1.2.2.2.2.2.1,v1.2.2.2.2.2.2.1,v1.2.2.2.2.2.2.2.1,v1.2.2.2.2.2.2.2.2.1,v1.2.2.2.2.2.2.2.2.2.1,v1.2.2.2.2.2.2.2.2.2.2.1,v1.2.2.2.2.2.2.2.2.2.2.2.1,v1.2.2.2.2.2.2.2.2.2.2.2.2.1,v1.2.2.2.2.2.2.2.2.2.2.2.2.2)
@[go_sem] def auq:=aqO Ib false ag9
@[go_sem] def amx (k:Nat):=lk [(200,auh.sp),(201,aug.sp)] k
theorem f180:aF Tryz.prog 180 auq.sp:=by
 refine vm (tb:=amx) (.cons f200 (.cons f201 .nil)) Tryz.func180 Tryz.ntmps180 fun ⟨x0,x1,x2,x3,x4,x5,x6,x7,x8,x9,x10,x11,x12,dP,x14,x15,x16,x17,x18,x19,x20,x21,x23,rJ⟩ r hr stop S=> ?_
 rw [akA,ag9] at hr
 refine S.gx [] ?_
 obtain ⟨v1,hv1,hr⟩:=aA hr
 refine gb hv1 ?_
 refine S.sees [3,4,5,6,7,8] [(3,3),(4,4),(5,5),(6,6),(7,7)] [] ?_ (Stop.iter S (fun s1=>⟨[(3,.c (.ref 3 0)),(4,.c (.ref 4 0)),(5,.c (.ref 5 0)),(6,.c (.ref 6 0)),(7,.c (.ref 7 0)),(8,.c (.d (.int .i64 s1.1)))],[(3,[.d (ah 4 cZ x0),.d (ah 5 bU x1),.d (ah 3 dh x2),.d (ah 2 aO x3),.d (.int .i64 x4),.d (.int .i64 x5),.d (.int .i64 x6),.d (.int .i64 x7)]),(4,[.d (.int .i64 x8),.d (.int .i64 x9),.d (.int .i64 x10),.d (.int .i64 x11),.d (.int .i64 x12),.d (.int .i64 dP),.d (.int .i64 x14),.d (.int .i64 x15),.d (.int .i64 x16),.d (.int .i64 x17),.d (.int .i64 x18),.d (.int .i64 x19),.d (.int .i64 x20),.d (.int .i64 x21)]),(5,[.d (.int .i64 x23),.d (.int .i64 rJ)]),(6,[.d (.int .i64 0),.d (.int .i64 0),.d (.int .i64 0),.d (.int .i64 0),.d (.int .i64 0),.d (.int .i64 0),.d (.int .i64 0),.d (.int .i64 0),.d (.int .i64 0),.d (.int .i64 0),.d (.int .i64 0),.d (.int .i64 0),.d (.int .i64 0),.d (.int .i64 0)]),(7,[.d (.int .i64 s1.2.1),.d (.int .i64 s1.2.2.1),.d (.int .i64 s1.2.2.2.1),.d (.int .i64 s1.2.2.2.2.1),.d (.int .i64 s1.2.2.2.2.2.1),.d (.int .i64 s1.2.2.2.2.2.2.1),.d (.int .i64 s1.2.2.2.2.2.2.2.1),.d (.int .i64 s1.2.2.2.2.2.2.2.2.1),.d (.int .i64 s1.2.2.2.2.2.2.2.2.2.1),.d (.int .i64 s1.2.2.2.2.2.2.2.2.2.2.1),.d (.int .i64 s1.2.2.2.2.2.2.2.2.2.2.2.1),.d (.int .i64 s1.2.2.2.2.2.2.2.2.2.2.2.2.1),.d (.int .i64 s1.2.2.2.2.2.2.2.2.2.2.2.2.2.1),.d (.int .i64 s1.2.2.2.2.2.2.2.2.2.2.2.2.2.2)])],[]⟩) (Qs x0 x1 x2 x3 x4 x5 x6 x7 x8 x9 x10 x11 x12 dP x14 x15 x16 x17 x18 x19 x20 x21 rJ) (fun q=>q=r) hr rfl ?_)
 ·exact lf
 ·intro s1 hr
  unfold Qs at hr
  refine S.gx [] ?_
  exact D1 (S.ss [3,4,5,6,7,8] [(3,3),(4,4),(5,5),(6,6),(7,7)] []) hr
end Go.Proofs.YtofkgmldcjagmaaGreatDoor

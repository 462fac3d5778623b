/- Contracts of functions, written by wip/dec. -/
import Derived.Test.YtkbdjphdhcgmaaaGreatDoorF00
import Derived.Test.YtkbdjphdhcgmaaaGreatDoorF01
import Derived.Test.YtkbdjphdhcgmaaaGreatDoorF05
import Derived.Test.YtkbdjphdhcgmaaaGreatDoorF07
set_option linter.unusedVariables false
set_option linter.unusedSimpArgs false
set_option linter.constructorNameAsVariable false
set_option maxHeartbeats 4000000
set_option maxRecDepth 20000
namespace Go.Proofs.YtkbdjphdhcgmaaaGreatDoor
open Go.dR
section
variable {β:Type} [Inhabited β] (u:β->List RV) (al:Bool)
def apn (a0:bD) (a1:aY) (a2:bC) (a3:au) (a4 a5 a6 a7 a8 a9 a10 a11 a12 jL kE kC a16 a17 mX pK a20 a21:Int) (a22:au):List Arg:=[.agg [ah 4 dh a0,ah 5 bT a1,ah 3 dn a2,ah 2 aT a3,.int .i64 a4,.int .i64 a5,.int .i64 a6,.int .i64 a7],.agg [.int .i64 a8,.int .i64 a9,.int .i64 a10,.int .i64 a11,.int .i64 a12,.int .i64 jL,.int .i64 kE,.int .i64 kC,.int .i64 a16,.int .i64 a17,.int .i64 mX,.int .i64 pK,.int .i64 a20,.int .i64 a21],.c (ah 2 aT a22)]
def aq1:List Arg->bD×aY×bC×au×Int×Int×Int×Int×Int×Int×Int×Int×Int×Int×Int×Int×Int×Int×Int×Int×Int×Int×au
 | [.agg [c0,c1,c2,c3,c4,c5,c6,c7],.agg [c8,c9,c10,c11,c12,c13,c14,c15,c16,c17,c18,c19,c20,c21],.c Y3]=>(aG jD c0,aG gW c1,aG jE c2,aG bY c3,aC c4,aC c5,aC c6,aC c7,aC c8,aC c9,aC c10,aC c11,aC c12,aC c13,aC c14,aC c15,aC c16,aC c17,aC c18,aC c19,aC c20,aC c21,aG bY Y3)
 | _=>default
def asi (r:bD->aY->bC->au->Int->Int->Int->Int->Int->Int->Int->Int->Int->Int->Int->Int->Int->Int->Int->Int->Int->Int->au->Option β):=mkT (u23 apn) aq1 (u23 r) u al
attribute [go_sem] apn aq1 asi
def apm (a0 a1 a2 a3 a4 a5 a6 a7 a8 a9 a10 a11 a12 jL kE kC:Int):List Arg:=[.agg [.int .i64 a0,.int .i64 a1,.int .i64 a2,.int .i64 a3,.int .i64 a4,.int .i64 a5,.int .i64 a6,.int .i64 a7],.agg [.int .i64 a8,.int .i64 a9,.int .i64 a10,.int .i64 a11],.agg [.int .i64 a12,.int .i64 jL,.int .i64 kE,.int .i64 kC]]
def aq0:List Arg->Int×Int×Int×Int×Int×Int×Int×Int×Int×Int×Int×Int×Int×Int×Int×Int
 | [.agg [c0,c1,c2,c3,c4,c5,c6,c7],.agg [c8,c9,c10,c11],.agg [c12,c13,c14,c15]]=>(aC c0,aC c1,aC c2,aC c3,aC c4,aC c5,aC c6,aC c7,aC c8,aC c9,aC c10,aC c11,aC c12,aC c13,aC c14,aC c15)
 | _=>default
def ash (r:Int->Int->Int->Int->Int->Int->Int->Int->Int->Int->Int->Int->Int->Int->Int->Int->Option β):=mkT (u16 apm) aq0 (u16 r) u al
attribute [go_sem] apm aq0 ash
def apl (a0:bD) (a1:aY) (a2:bC) (a3:au) (a4 a5 a6 a7 a8 a9 a10 a11 a12 jL kE kC a16 a17 mX pK a20 a21:Int):List Arg:=[.agg [ah 4 dh a0,ah 5 bT a1,ah 3 dn a2,ah 2 aT a3,.int .i64 a4,.int .i64 a5,.int .i64 a6,.int .i64 a7],.agg [.int .i64 a8,.int .i64 a9,.int .i64 a10,.int .i64 a11,.int .i64 a12,.int .i64 jL,.int .i64 kE,.int .i64 kC,.int .i64 a16,.int .i64 a17,.int .i64 mX,.int .i64 pK,.int .i64 a20,.int .i64 a21]]
def aqZ:List Arg->bD×aY×bC×au×Int×Int×Int×Int×Int×Int×Int×Int×Int×Int×Int×Int×Int×Int×Int×Int×Int×Int
 | [.agg [c0,c1,c2,c3,c4,c5,c6,c7],.agg [c8,c9,c10,c11,c12,c13,c14,c15,c16,c17,c18,c19,c20,c21]]=>(aG jD c0,aG gW c1,aG jE c2,aG bY c3,aC c4,aC c5,aC c6,aC c7,aC c8,aC c9,aC c10,aC c11,aC c12,aC c13,aC c14,aC c15,aC c16,aC c17,aC c18,aC c19,aC c20,aC c21)
 | _=>default
def asg (r:bD->aY->bC->au->Int->Int->Int->Int->Int->Int->Int->Int->Int->Int->Int->Int->Int->Int->Int->Int->Int->Int->Option β):=mkT (u22 apl) aqZ (u22 r) u al
attribute [go_sem] apl aqZ asg
def apk (a0:bD) (a1:aY) (a2:bC) (a3:au) (a4 a5 a6 a7 a8 a9 a10 a11 a12 jL kE kC a16 a17 mX pK a20 a21:Int) (a22:aj):List Arg:=[.agg [ah 4 dh a0,ah 5 bT a1,ah 3 dn a2,ah 2 aT a3,.int .i64 a4,.int .i64 a5,.int .i64 a6,.int .i64 a7],.agg [.int .i64 a8,.int .i64 a9,.int .i64 a10,.int .i64 a11,.int .i64 a12,.int .i64 jL,.int .i64 kE,.int .i64 kC,.int .i64 a16,.int .i64 a17,.int .i64 mX,.int .i64 pK,.int .i64 a20,.int .i64 a21],.c (ah 1 aQ a22)]
def aqY:List Arg->bD×aY×bC×au×Int×Int×Int×Int×Int×Int×Int×Int×Int×Int×Int×Int×Int×Int×Int×Int×Int×Int×aj
 | [.agg [c0,c1,c2,c3,c4,c5,c6,c7],.agg [c8,c9,c10,c11,c12,c13,c14,c15,c16,c17,c18,c19,c20,c21],.c Y3]=>(aG jD c0,aG gW c1,aG jE c2,aG bY c3,aC c4,aC c5,aC c6,aC c7,aC c8,aC c9,aC c10,aC c11,aC c12,aC c13,aC c14,aC c15,aC c16,aC c17,aC c18,aC c19,aC c20,aC c21,aG bQ Y3)
 | _=>default
def asf (r:bD->aY->bC->au->Int->Int->Int->Int->Int->Int->Int->Int->Int->Int->Int->Int->Int->Int->Int->Int->Int->Int->aj->Option β):=mkT (u23 apk) aqY (u23 r) u al
attribute [go_sem] apk aqY asf
def apj (a0 a1:Int) (a2:au) (a3:aj) (a4 a5:bn) (a6:au) (a7 a8 a9 a10:Int) (a11:au) (a12:aj) (jL kE:bn) (kC:au) (a16 a17:Int) (mX:bD) (pK:aY) (a20:bC) (a21:au) (a22 a23 a24 a25:Int) (a26:bC) (a27:Int) (a28:au):List Arg:=[.agg [.int .i64 a0,.int .i64 a1,ah 2 aT a2,ah 1 aQ a3,ah 1 cu a4,ah 1 cu a5,ah 2 aT a6,.int .i64 a7,.int .i64 a8,.int .i64 a9,.int .i64 a10,ah 2 aT a11,ah 1 aQ a12,ah 1 cu jL,ah 1 cu kE,ah 2 aT kC,.int .i64 a16,.int .i64 a17,ah 4 dh mX,ah 5 bT pK,ah 3 dn a20,ah 2 aT a21,.int .i64 a22,.int .i64 a23,.int .i64 a24,.int .i64 a25,ah 3 dn a26,.int .i64 a27],.c (ah 2 aT a28)]
def aqX:List Arg->Int×Int×au×aj×bn×bn×au×Int×Int×Int×Int×au×aj×bn×bn×au×Int×Int×bD×aY×bC×au×Int×Int×Int×Int×bC×Int×au
 | [.agg [c0,c1,c2,c3,c4,c5,c6,c7,c8,c9,c10,c11,c12,c13,c14,c15,c16,c17,c18,c19,c20,c21,Y3,c23,c24,c25,c26,c27],.c c28]=>(aC c0,aC c1,aG bY c2,aG bQ c3,aG jM c4,aG jM c5,aG bY c6,aC c7,aC c8,aC c9,aC c10,aG bY c11,aG bQ c12,aG jM c13,aG jM c14,aG bY c15,aC c16,aC c17,aG jD c18,aG gW c19,aG jE c20,aG bY c21,aC Y3,aC c23,aC c24,aC c25,aG jE c26,aC c27,aG bY c28)
 | _=>default
def ase (r:Int->Int->au->aj->bn->bn->au->Int->Int->Int->Int->au->aj->bn->bn->au->Int->Int->bD->aY->bC->au->Int->Int->Int->Int->bC->Int->au->Option β):=mkT (u29 apj) aqX (u29 r) u al
attribute [go_sem] apj aqX ase
def aph (a0 a1:Int) (a2:au) (a3:aj) (a4 a5:bn) (a6:au) (a7 a8:Int) (a9:bD) (a10:aY) (a11:bC) (a12:au) (jL kE kC a16:Int) (a17:bC) (mX:Int) (pK:au):List Arg:=[.agg [.int .i64 a0,.int .i64 a1,ah 2 aT a2,ah 1 aQ a3,ah 1 cu a4,ah 1 cu a5,ah 2 aT a6,.int .i64 a7,.int .i64 a8,ah 4 dh a9,ah 5 bT a10,ah 3 dn a11,ah 2 aT a12,.int .i64 jL,.int .i64 kE,.int .i64 kC,.int .i64 a16,ah 3 dn a17,.int .i64 mX],.c (ah 2 aT pK)]
def aqW:List Arg->Int×Int×au×aj×bn×bn×au×Int×Int×bD×aY×bC×au×Int×Int×Int×Int×bC×Int×au
 | [.agg [c0,c1,c2,c3,c4,c5,c6,c7,c8,c9,c10,c11,c12,c13,c14,c15,c16,c17,c18],.c c19]=>(aC c0,aC c1,aG bY c2,aG bQ c3,aG jM c4,aG jM c5,aG bY c6,aC c7,aC c8,aG jD c9,aG gW c10,aG jE c11,aG bY c12,aC c13,aC c14,aC c15,aC c16,aG jE c17,aC c18,aG bY c19)
 | _=>default
def asb (r:Int->Int->au->aj->bn->bn->au->Int->Int->bD->aY->bC->au->Int->Int->Int->Int->bC->Int->au->Option β):=mkT (u20 aph) aqW (u20 r) u al
attribute [go_sem] aph aqW asb
def apg (a0 a1:Int) (a2:au) (a3:aj) (a4 a5:bn) (a6:au) (a7 a8 a9 a10:Int) (a11:au) (a12:aj) (jL kE:bn) (kC:au) (a16 a17:Int) (mX:bD) (pK:aY) (a20:bC) (a21:au) (a22 a23 a24 a25:Int) (a26:bC) (a27 a28 a29:Int):List Arg:=[.agg [.int .i64 a0,.int .i64 a1,ah 2 aT a2,ah 1 aQ a3,ah 1 cu a4,ah 1 cu a5,ah 2 aT a6,.int .i64 a7,.int .i64 a8,.int .i64 a9,.int .i64 a10,ah 2 aT a11,ah 1 aQ a12,ah 1 cu jL,ah 1 cu kE,ah 2 aT kC,.int .i64 a16,.int .i64 a17,ah 4 dh mX,ah 5 bT pK,ah 3 dn a20,ah 2 aT a21,.int .i64 a22,.int .i64 a23,.int .i64 a24,.int .i64 a25,ah 3 dn a26,.int .i64 a27],.c (.int .i64 a28),.c (.int .i64 a29)]
def aqV:List Arg->Int×Int×au×aj×bn×bn×au×Int×Int×Int×Int×au×aj×bn×bn×au×Int×Int×bD×aY×bC×au×Int×Int×Int×Int×bC×Int×Int×Int
 | [.agg [c0,c1,c2,c3,c4,c5,c6,c7,c8,c9,c10,c11,c12,c13,c14,c15,c16,c17,c18,c19,c20,c21,Y3,c23,c24,c25,c26,c27],.c c28,.c c29]=>(aC c0,aC c1,aG bY c2,aG bQ c3,aG jM c4,aG jM c5,aG bY c6,aC c7,aC c8,aC c9,aC c10,aG bY c11,aG bQ c12,aG jM c13,aG jM c14,aG bY c15,aC c16,aC c17,aG jD c18,aG gW c19,aG jE c20,aG bY c21,aC Y3,aC c23,aC c24,aC c25,aG jE c26,aC c27,aC c28,aC c29)
 | _=>default
def asa (r:Int->Int->au->aj->bn->bn->au->Int->Int->Int->Int->au->aj->bn->bn->au->Int->Int->bD->aY->bC->au->Int->Int->Int->Int->bC->Int->Int->Int->Option β):=mkT (u30 apg) aqV (u30 r) u al
attribute [go_sem] apg aqV asa
def apf (a0 a1:Int) (a2:au) (a3:aj) (a4 a5:bn) (a6:au) (a7 a8:Int) (a9:bD) (a10:aY) (a11:bC) (a12:au) (jL kE kC a16:Int) (a17:bC) (mX pK:Int):List Arg:=[.agg [.int .i64 a0,.int .i64 a1,ah 2 aT a2,ah 1 aQ a3,ah 1 cu a4,ah 1 cu a5,ah 2 aT a6,.int .i64 a7,.int .i64 a8,ah 4 dh a9,ah 5 bT a10,ah 3 dn a11,ah 2 aT a12,.int .i64 jL,.int .i64 kE,.int .i64 kC,.int .i64 a16,ah 3 dn a17,.int .i64 mX],.c (.int .i64 pK)]
def aqU:List Arg->Int×Int×au×aj×bn×bn×au×Int×Int×bD×aY×bC×au×Int×Int×Int×Int×bC×Int×Int
 | [.agg [c0,c1,c2,c3,c4,c5,c6,c7,c8,c9,c10,c11,c12,c13,c14,c15,c16,c17,c18],.c c19]=>(aC c0,aC c1,aG bY c2,aG bQ c3,aG jM c4,aG jM c5,aG bY c6,aC c7,aC c8,aG jD c9,aG gW c10,aG jE c11,aG bY c12,aC c13,aC c14,aC c15,aC c16,aG jE c17,aC c18,aC c19)
 | _=>default
def ar' (r:Int->Int->au->aj->bn->bn->au->Int->Int->bD->aY->bC->au->Int->Int->Int->Int->bC->Int->Int->Option β):=mkT (u20 apf) aqU (u20 r) u al
attribute [go_sem] apf aqU ar'
def ape (a0 a1:ByteArray):List Arg:=[.c (.str a0),.c (.str a1)]
def aqT:List Arg->ByteArray×ByteArray
 | [.c c0,.c c1]=>(acp c0,acp c1)
 | _=>default
def aap (r:ByteArray->ByteArray->Option β):=mkT (u2 ape) aqT (u2 r) u al
attribute [go_sem] ape aqT aap
def apd (a0:ByteArray):List Arg:=[.c (.str a0)]
def aqS:List Arg->ByteArray
 | [.c c0]=>acp c0
 | _=>default
def aiZ (r:ByteArray->Option β):=mkT (u1 apd) aqS (u1 r) u al
attribute [go_sem] apd aqS aiZ
def aqn (v:Int×Int×Int×Int):List RV:=[.agg [.d (.int .i64 v.1),.d (.int .i64 v.2.1),.d (.int .i64 v.2.2.1),.d (.int .i64 v.2.2.2)]]
attribute [go_sem] aqn
def aqm (v:au×aj×Int):List RV:=[.c (.own (ah 2 aT v.1)),.c (.own (ah 1 aQ v.2.1)),.c (.d (.int .i64 v.2.2))]
attribute [go_sem] aqm
def aiV (v:ByteArray×Bool):List RV:=[.c (.d (.str v.1)),.c (.d (.bool v.2))]
attribute [go_sem] aiV
def aql (v:Int×Bool):List RV:=[.c (.d (.int .i64 v.1)),.c (.d (.err v.2))]
attribute [go_sem] aql
end
def SX (x0:bD) (x1:aY) (x2:bC) (x3:au) (x4 x5 x6 x7:Int) (a2:au):Bd (Int×Int×Int×Int×Int×Int×Int×Int×Int×Int×Int×Int×Int×Int×Int) (Int×Int×Int×Int×Int×Int×Int×Int×Int×Int×Int×Int×Int×Int):=fun s1=>
 if (decide (s1.1<(a2.length:Int)))=true then
  if 0<=s1.1/\s1.1<(a2.length:Int) then
   aP (aiE x0 x1 x2 x3 x4 x5 x6 x7 s1.2.1 s1.2.2.1 s1.2.2.2.1 s1.2.2.2.2.1 s1.2.2.2.2.2.1 s1.2.2.2.2.2.2.1 s1.2.2.2.2.2.2.2.1 s1.2.2.2.2.2.2.2.2.1 s1.2.2.2.2.2.2.2.2.2.1 s1.2.2.2.2.2.2.2.2.2.2.1 s1.2.2.2.2.2.2.2.2.2.2.2.1 s1.2.2.2.2.2.2.2.2.2.2.2.2.1 s1.2.2.2.2.2.2.2.2.2.2.2.2.2.1 s1.2.2.2.2.2.2.2.2.2.2.2.2.2.2 ((a2.getD s1.1.toNat default).1) ((a2.getD s1.1.toNat default).2)) fun v1=>
    .next (IntKind.i64.wrap (s1.1+1),v1.1,v1.2.1,v1.2.2.1,v1.2.2.2.1,v1.2.2.2.2.1,v1.2.2.2.2.2.1,v1.2.2.2.2.2.2.1,v1.2.2.2.2.2.2.2.1,v1.2.2.2.2.2.2.2.2.1,v1.2.2.2.2.2.2.2.2.2.1,v1.2.2.2.2.2.2.2.2.2.2.1,v1.2.2.2.2.2.2.2.2.2.2.2.1,v1.2.2.2.2.2.2.2.2.2.2.2.2.1,v1.2.2.2.2.2.2.2.2.2.2.2.2.2)
   else .out none
  else .out (some (s1.2.1,s1.2.2.1,s1.2.2.2.1,s1.2.2.2.2.1,s1.2.2.2.2.2.1,s1.2.2.2.2.2.2.1,s1.2.2.2.2.2.2.2.1,s1.2.2.2.2.2.2.2.2.1,s1.2.2.2.2.2.2.2.2.2.1,s1.2.2.2.2.2.2.2.2.2.2.1,s1.2.2.2.2.2.2.2.2.2.2.2.1,s1.2.2.2.2.2.2.2.2.2.2.2.2.1,s1.2.2.2.2.2.2.2.2.2.2.2.2.2.1,s1.2.2.2.2.2.2.2.2.2.2.2.2.2.2))
def aiL (x0:bD) (x1:aY) (x2:bC) (x3:au) (x4 x5 x6 x7 x8 x9 x10 x11 x12 dO x14 x15 x16 x17 x18 x19 x20 x21:Int) (a2:au):Option (Int×Int×Int×Int×Int×Int×Int×Int×Int×Int×Int×Int×Int×Int):=
 aS (SX x0 x1 x2 x3 x4 x5 x6 x7 a2) 1000000000 (0,x8,x9,x10,x11,x12,dO,x14,x15,x16,x17,x18,x19,x20,x21)
@[go_sem] def awh:=asi Jh false aiL
@[go_sem] def aor (k:Nat):=lk [(179,avN.sp)] k
theorem f132:aF Tryz.prog 132 awh.sp:=by
 refine vm (tb:=aor) (.cons f179 .nil) Tryz.func132 Tryz.ntmps132 fun ⟨x0,x1,x2,x3,x4,x5,x6,x7,x8,x9,x10,x11,x12,dO,x14,x15,x16,x17,x18,x19,x20,x21,a2⟩ r hr stop S=> ?_
 rw [ady,aiL] at hr
 refine S.gx [] ?_
 refine gr ?_
 refine S.sees [3,4,6,9,10,11] [(3,3),(4,4),(6,6)] [] ?_ (Stop.iter S (fun s1=>⟨[(3,.c (.ref 3 0)),(4,.c (.ref 4 0)),(6,.c (.ref 6 0)),(9,.c (.d (ah 2 aT a2))),(10,.c (.d (.int .i64 (a2.length:Int)))),(11,.c (.d (.int .i64 s1.1)))],[(3,[.d (ah 4 dh x0),.d (ah 5 bT x1),.d (ah 3 dn x2),.d (ah 2 aT x3),.d (.int .i64 x4),.d (.int .i64 x5),.d (.int .i64 x6),.d (.int .i64 x7)]),(4,[.d (.int .i64 s1.2.1),.d (.int .i64 s1.2.2.1),.d (.int .i64 s1.2.2.2.1),.d (.int .i64 s1.2.2.2.2.1),.d (.int .i64 s1.2.2.2.2.2.1),.d (.int .i64 s1.2.2.2.2.2.2.1),.d (.int .i64 s1.2.2.2.2.2.2.2.1),.d (.int .i64 s1.2.2.2.2.2.2.2.2.1),.d (.int .i64 s1.2.2.2.2.2.2.2.2.2.1),.d (.int .i64 s1.2.2.2.2.2.2.2.2.2.2.1),.d (.int .i64 s1.2.2.2.2.2.2.2.2.2.2.2.1),.d (.int .i64 s1.2.2.2.2.2.2.2.2.2.2.2.2.1),.d (.int .i64 s1.2.2.2.2.2.2.2.2.2.2.2.2.2.1),.d (.int .i64 s1.2.2.2.2.2.2.2.2.2.2.2.2.2.2)]),(6,[.d (.int .i64 0),.d (.int .i64 0),.d (.int .i64 0),.d (.int .i64 0),.d (.int .i64 0),.d (.int .i64 0),.d (.int .i64 0),.d (.int .i64 0),.d (.int .i64 0),.d (.int .i64 0),.d (.int .i64 0),.d (.int .i64 0),.d (.int .i64 0),.d (.int .i64 0)])],[]⟩) (SX x0 x1 x2 x3 x4 x5 x6 x7 a2) (fun q=>q=r) hr rfl ?_)
 ·exact lf
 ·intro s1 hr
  unfold SX at hr
  refine S.gx [] ?_
  exact D1 (S.ss [3,4,6,9,10,11] [(3,3),(4,4),(6,6)] []) hr
def aeS (x4:bD) (x5:aY) (x6:bC) (x7:au) (x2 x3 x0 x1 a1:Int):Option (Int×Int×Int×Int):=
 some (x2,x3,x0,(if x0<IntKind.i64.wrap (x1 - a1) then IntKind.i64.wrap (x1 - a1) else x0))
@[go_sem] def avO:=XQ aqn false aeS
theorem f178:aF Tryz.prog 178 avO.sp:=by
 refine vm .nil Tryz.func178 Tryz.ntmps178 fun ⟨x4,x5,x6,x7,x2,x3,x0,x1,a1⟩ r hr stop S=> ?_
 rw [OV,aeS] at hr
 refine S.gx [] ?_
 exact D0 hr
def SB (x0 x4 x1 x5 x2 x6 x3 x7 x8 x9 x10 x11:Int):Bd (Int×Int×Int×Int×Int×Int×Int) Int:=fun s2=>
 if (decide (s2.2.2.2.2.2.2<4))=true then
  if s2.2.2.2.2.2.2=0 then
   if s2.2.2.1=0 then
    .next (IntKind.i64.wrap (s2.1 - (if IntKind.i64.wrap (x4 - x0)<s2.1 then IntKind.i64.wrap (x4 - x0) else s2.1)),IntKind.i64.wrap (s2.2.1+(IntKind.i64.wrap ((if IntKind.i64.wrap (x4 - x0)<s2.1 then IntKind.i64.wrap (x4 - x0) else s2.1)*x8))),0,s2.2.2.2.1,s2.2.2.2.2.1,s2.2.2.2.2.2.1,1)
    else if s2.2.2.1=1 then
     .next (IntKind.i64.wrap (s2.1 - (if IntKind.i64.wrap (x5 - x1)<s2.1 then IntKind.i64.wrap (x5 - x1) else s2.1)),IntKind.i64.wrap (s2.2.1+(IntKind.i64.wrap ((if IntKind.i64.wrap (x5 - x1)<s2.1 then IntKind.i64.wrap (x5 - x1) else s2.1)*x9))),1,s2.2.2.2.1,s2.2.2.2.2.1,s2.2.2.2.2.2.1,1)
     else if s2.2.2.1=2 then
      .next (IntKind.i64.wrap (s2.1 - (if IntKind.i64.wrap (x6 - x2)<s2.1 then IntKind.i64.wrap (x6 - x2) else s2.1)),IntKind.i64.wrap (s2.2.1+(IntKind.i64.wrap ((if IntKind.i64.wrap (x6 - x2)<s2.1 then IntKind.i64.wrap (x6 - x2) else s2.1)*x10))),2,s2.2.2.2.1,s2.2.2.2.2.1,s2.2.2.2.2.2.1,1)
      else if s2.2.2.1=3 then
       .next (IntKind.i64.wrap (s2.1 - (if IntKind.i64.wrap (x7 - x3)<s2.1 then IntKind.i64.wrap (x7 - x3) else s2.1)),IntKind.i64.wrap (s2.2.1+(IntKind.i64.wrap ((if IntKind.i64.wrap (x7 - x3)<s2.1 then IntKind.i64.wrap (x7 - x3) else s2.1)*x11))),3,s2.2.2.2.1,s2.2.2.2.2.1,s2.2.2.2.2.2.1,1)
       else .out none
   else if s2.2.2.2.2.2.2=1 then
    if s2.2.2.2.1=0 then
     .next (IntKind.i64.wrap (s2.1 - (if IntKind.i64.wrap (x4 - x0)<s2.1 then IntKind.i64.wrap (x4 - x0) else s2.1)),IntKind.i64.wrap (s2.2.1+(IntKind.i64.wrap ((if IntKind.i64.wrap (x4 - x0)<s2.1 then IntKind.i64.wrap (x4 - x0) else s2.1)*x8))),s2.2.2.1,0,s2.2.2.2.2.1,s2.2.2.2.2.2.1,2)
     else if s2.2.2.2.1=1 then
      .next (IntKind.i64.wrap (s2.1 - (if IntKind.i64.wrap (x5 - x1)<s2.1 then IntKind.i64.wrap (x5 - x1) else s2.1)),IntKind.i64.wrap (s2.2.1+(IntKind.i64.wrap ((if IntKind.i64.wrap (x5 - x1)<s2.1 then IntKind.i64.wrap (x5 - x1) else s2.1)*x9))),s2.2.2.1,1,s2.2.2.2.2.1,s2.2.2.2.2.2.1,2)
      else if s2.2.2.2.1=2 then
       .next (IntKind.i64.wrap (s2.1 - (if IntKind.i64.wrap (x6 - x2)<s2.1 then IntKind.i64.wrap (x6 - x2) else s2.1)),IntKind.i64.wrap (s2.2.1+(IntKind.i64.wrap ((if IntKind.i64.wrap (x6 - x2)<s2.1 then IntKind.i64.wrap (x6 - x2) else s2.1)*x10))),s2.2.2.1,2,s2.2.2.2.2.1,s2.2.2.2.2.2.1,2)
       else if s2.2.2.2.1=3 then
        .next (IntKind.i64.wrap (s2.1 - (if IntKind.i64.wrap (x7 - x3)<s2.1 then IntKind.i64.wrap (x7 - x3) else s2.1)),IntKind.i64.wrap (s2.2.1+(IntKind.i64.wrap ((if IntKind.i64.wrap (x7 - x3)<s2.1 then IntKind.i64.wrap (x7 - x3) else s2.1)*x11))),s2.2.2.1,3,s2.2.2.2.2.1,s2.2.2.2.2.2.1,2)
        else .out none
    else if s2.2.2.2.2.2.2=2 then
     if s2.2.2.2.2.1=0 then
      .next (IntKind.i64.wrap (s2.1 - (if IntKind.i64.wrap (x4 - x0)<s2.1 then IntKind.i64.wrap (x4 - x0) else s2.1)),IntKind.i64.wrap (s2.2.1+(IntKind.i64.wrap ((if IntKind.i64.wrap (x4 - x0)<s2.1 then IntKind.i64.wrap (x4 - x0) else s2.1)*x8))),s2.2.2.1,s2.2.2.2.1,0,s2.2.2.2.2.2.1,3)
      else if s2.2.2.2.2.1=1 then
       .next (IntKind.i64.wrap (s2.1 - (if IntKind.i64.wrap (x5 - x1)<s2.1 then IntKind.i64.wrap (x5 - x1) else s2.1)),IntKind.i64.wrap (s2.2.1+(IntKind.i64.wrap ((if IntKind.i64.wrap (x5 - x1)<s2.1 then IntKind.i64.wrap (x5 - x1) else s2.1)*x9))),s2.2.2.1,s2.2.2.2.1,1,s2.2.2.2.2.2.1,3)
       else if s2.2.2.2.2.1=2 then
        .next (IntKind.i64.wrap (s2.1 - (if IntKind.i64.wrap (x6 - x2)<s2.1 then IntKind.i64.wrap (x6 - x2) else s2.1)),IntKind.i64.wrap (s2.2.1+(IntKind.i64.wrap ((if IntKind.i64.wrap (x6 - x2)<s2.1 then IntKind.i64.wrap (x6 - x2) else s2.1)*x10))),s2.2.2.1,s2.2.2.2.1,2,s2.2.2.2.2.2.1,3)
        else if s2.2.2.2.2.1=3 then
         .next (IntKind.i64.wrap (s2.1 - (if IntKind.i64.wrap (x7 - x3)<s2.1 then IntKind.i64.wrap (x7 - x3) else s2.1)),IntKind.i64.wrap (s2.2.1+(IntKind.i64.wrap ((if IntKind.i64.wrap (x7 - x3)<s2.1 then IntKind.i64.wrap (x7 - x3) else s2.1)*x11))),s2.2.2.1,s2.2.2.2.1,3,s2.2.2.2.2.2.1,3)
         else .out none
     else if s2.2.2.2.2.2.2=3 then
      if s2.2.2.2.2.2.1=0 then
       .next (IntKind.i64.wrap (s2.1 - (if IntKind.i64.wrap (x4 - x0)<s2.1 then IntKind.i64.wrap (x4 - x0) else s2.1)),IntKind.i64.wrap (s2.2.1+(IntKind.i64.wrap ((if IntKind.i64.wrap (x4 - x0)<s2.1 then IntKind.i64.wrap (x4 - x0) else s2.1)*x8))),s2.2.2.1,s2.2.2.2.1,s2.2.2.2.2.1,0,4)
       else if s2.2.2.2.2.2.1=1 then
        .next (IntKind.i64.wrap (s2.1 - (if IntKind.i64.wrap (x5 - x1)<s2.1 then IntKind.i64.wrap (x5 - x1) else s2.1)),IntKind.i64.wrap (s2.2.1+(IntKind.i64.wrap ((if IntKind.i64.wrap (x5 - x1)<s2.1 then IntKind.i64.wrap (x5 - x1) else s2.1)*x9))),s2.2.2.1,s2.2.2.2.1,s2.2.2.2.2.1,1,4)
        else if s2.2.2.2.2.2.1=2 then
         .next (IntKind.i64.wrap (s2.1 - (if IntKind.i64.wrap (x6 - x2)<s2.1 then IntKind.i64.wrap (x6 - x2) else s2.1)),IntKind.i64.wrap (s2.2.1+(IntKind.i64.wrap ((if IntKind.i64.wrap (x6 - x2)<s2.1 then IntKind.i64.wrap (x6 - x2) else s2.1)*x10))),s2.2.2.1,s2.2.2.2.1,s2.2.2.2.2.1,2,4)
         else if s2.2.2.2.2.2.1=3 then
          .next (IntKind.i64.wrap (s2.1 - (if IntKind.i64.wrap (x7 - x3)<s2.1 then IntKind.i64.wrap (x7 - x3) else s2.1)),IntKind.i64.wrap (s2.2.1+(IntKind.i64.wrap ((if IntKind.i64.wrap (x7 - x3)<s2.1 then IntKind.i64.wrap (x7 - x3) else s2.1)*x11))),s2.2.2.1,s2.2.2.2.1,s2.2.2.2.2.1,3,4)
          else .out none
      else .out none
  else .out (some (IntKind.i64.wrap (s2.2.1.tdiv 1000000)))
def SC (x0 x4 x1 x5 x2 x6 x3 x7 x8 x9 x10 x11 x12 dO x14 x15:Int):Bd (Int×Int×Int) Int:=fun s1=>
 if (decide (s1.2.2<4))=true then
  if s1.2.2=0 then
   .next (IntKind.i64.wrap (s1.1 - x0),IntKind.i64.wrap (s1.2.1+(IntKind.i64.wrap (x0*x8))),1)
   else if s1.2.2=1 then
    .next (IntKind.i64.wrap (s1.1 - x1),IntKind.i64.wrap (s1.2.1+(IntKind.i64.wrap (x1*x9))),2)
    else if s1.2.2=2 then
     .next (IntKind.i64.wrap (s1.1 - x2),IntKind.i64.wrap (s1.2.1+(IntKind.i64.wrap (x2*x10))),3)
     else if s1.2.2=3 then
      .next (IntKind.i64.wrap (s1.1 - x3),IntKind.i64.wrap (s1.2.1+(IntKind.i64.wrap (x3*x11))),4)
      else .out none
  else .out (aS (SB x0 x4 x1 x5 x2 x6 x3 x7 x8 x9 x10 x11) 1000000000 (s1.1,s1.2.1,x12,dO,x14,x15,0))
def aeT (x0 x4 x1 x5 x2 x6 x3 x7 x8 x9 x10 x11 x12 dO x14 x15:Int):Option (Int):=
 aS (SC x0 x4 x1 x5 x2 x6 x3 x7 x8 x9 x10 x11 x12 dO x14 x15) 1000000000 (1000000,0,0)
@[go_sem] def avP:=ash lC false aeT
theorem f177:aF Tryz.prog 177 avP.sp:=by
 refine vm .nil Tryz.func177 Tryz.ntmps177 fun ⟨x0,x4,x1,x5,x2,x6,x3,x7,x8,x9,x10,x11,x12,dO,x14,x15⟩ r hr stop S=> ?_
 rw [al6,aeT] at hr
 refine S.gx [4,10,11] ?_
 refine gr ?_
 refine S.sees [3,4,5,7,8,14,15] [(3,3),(4,4),(5,5)] [] ?_ (Stop.iter S (fun s1=>⟨[(3,.c (.ref 3 0)),(4,.c (.ref 4 0)),(5,.c (.ref 5 0)),(7,.c (.d (.int .i64 s1.1))),(8,.c (.d (.int .i64 s1.2.1))),(14,.agg [.d (.int .i64 x0),.d (.int .i64 x4),.d (.int .i64 x1),.d (.int .i64 x5),.d (.int .i64 x2),.d (.int .i64 x6),.d (.int .i64 x3),.d (.int .i64 x7)]),(15,.c (.d (.int .i64 s1.2.2)))],[(3,[.d (.int .i64 x0),.d (.int .i64 x4),.d (.int .i64 x1),.d (.int .i64 x5),.d (.int .i64 x2),.d (.int .i64 x6),.d (.int .i64 x3),.d (.int .i64 x7)]),(4,[.d (.int .i64 x8),.d (.int .i64 x9),.d (.int .i64 x10),.d (.int .i64 x11)]),(5,[.d (.int .i64 x12),.d (.int .i64 dO),.d (.int .i64 x14),.d (.int .i64 x15)])],[]⟩) (SC x0 x4 x1 x5 x2 x6 x3 x7 x8 x9 x10 x11 x12 dO x14 x15) (fun q=>q=r) hr rfl ?_)
 ·exact lf
 ·intro s1 hr
  unfold SC at hr
  refine S.gx [4,10,11] ?_
  refine gr ?_
  refine cZ hr (fun hc hr=> ?_) fun hc hr=> ?_
  ·refine gr ?_
   by_cases hs4:s1.2.2=0
   ·rw [if_pos hs4] at hr
    simp only [hs4]
    refine S.gx [10,11] ?_
    exact D1 (S.ss [3,4,5,7,8,14,15] [(3,3),(4,4),(5,5)] []) hr
   ·rw [if_neg hs4] at hr
    by_cases hs3:s1.2.2=1
    ·rw [if_pos hs3] at hr
     simp only [hs3]
     refine S.gx [10,11] ?_
     exact D1 (S.ss [3,4,5,7,8,14,15] [(3,3),(4,4),(5,5)] []) hr
    ·rw [if_neg hs3] at hr
     by_cases hs2:s1.2.2=2
     ·rw [if_pos hs2] at hr
      simp only [hs2]
      refine S.gx [10,11] ?_
      exact D1 (S.ss [3,4,5,7,8,14,15] [(3,3),(4,4),(5,5)] []) hr
     ·rw [if_neg hs2] at hr
      by_cases hs1:s1.2.2=3
      ·rw [if_pos hs1] at hr
       simp only [hs1]
       refine S.gx [10,11] ?_
       exact D1 (S.ss [3,4,5,7,8,14,15] [(3,3),(4,4),(5,5)] []) hr
      ·rw [if_neg hs1] at hr
       first | cases hr | exact hr.elim
  ·refine gr ?_
   have hr:=bK hr
   refine gr ?_
   refine S.sees [3,4,7,8,32,33] [(3,3),(4,4)] [] ?_ (Stop.iter S (fun s2=>⟨[(3,.c (.ref 3 0)),(4,.c (.ref 4 0)),(7,.c (.d (.int .i64 s2.1))),(8,.c (.d (.int .i64 s2.2.1))),(32,.agg [.d (.int .i64 s2.2.2.1),.d (.int .i64 s2.2.2.2.1),.d (.int .i64 s2.2.2.2.2.1),.d (.int .i64 s2.2.2.2.2.2.1)]),(33,.c (.d (.int .i64 s2.2.2.2.2.2.2)))],[(3,[.d (.int .i64 x0),.d (.int .i64 x4),.d (.int .i64 x1),.d (.int .i64 x5),.d (.int .i64 x2),.d (.int .i64 x6),.d (.int .i64 x3),.d (.int .i64 x7)]),(4,[.d (.int .i64 x8),.d (.int .i64 x9),.d (.int .i64 x10),.d (.int .i64 x11)])],[]⟩) (SB x0 x4 x1 x5 x2 x6 x3 x7 x8 x9 x10 x11) (fun q=>q=r) hr rfl ?_)
   ·exact lf
   ·intro s2 hr
    unfold SB at hr
    refine S.gx [4,10,11] ?_
    refine gr ?_
    refine cZ hr (fun hc hr=> ?_) fun hc hr=>D0 hr
    refine gr ?_
    by_cases aj7:s2.2.2.2.2.2.2=0
    ·rw [if_pos aj7] at hr
     simp only [aj7]
     refine S.gx [4,11] ?_
     refine gr ?_
     refine gr ?_
     by_cases aj1:s2.2.2.1=0
     ·rw [if_pos aj1] at hr
      simp only [aj1]
      refine S.gx [4,10] ?_
      exact D1 (S.ss [3,4,7,8,32,33] [(3,3),(4,4)] []) hr
     ·rw [if_neg aj1] at hr
      by_cases aj2:s2.2.2.1=1
      ·rw [if_pos aj2] at hr
       simp only [aj2]
       refine S.gx [4,10] ?_
       exact D1 (S.ss [3,4,7,8,32,33] [(3,3),(4,4)] []) hr
      ·rw [if_neg aj2] at hr
       by_cases aj3:s2.2.2.1=2
       ·rw [if_pos aj3] at hr
        simp only [aj3]
        refine S.gx [4,10] ?_
        exact D1 (S.ss [3,4,7,8,32,33] [(3,3),(4,4)] []) hr
       ·rw [if_neg aj3] at hr
        by_cases aj6:s2.2.2.1=3
        ·rw [if_pos aj6] at hr
         simp only [aj6]
         refine S.gx [4,10] ?_
         exact D1 (S.ss [3,4,7,8,32,33] [(3,3),(4,4)] []) hr
        ·rw [if_neg aj6] at hr
         first | cases hr | exact hr.elim
    ·rw [if_neg aj7] at hr
     by_cases akc:s2.2.2.2.2.2.2=1
     ·rw [if_pos akc] at hr
      simp only [akc]
      refine S.gx [4,11] ?_
      refine gr ?_
      refine gr ?_
      by_cases aj8:s2.2.2.2.1=0
      ·rw [if_pos aj8] at hr
       simp only [aj8]
       refine S.gx [4,10] ?_
       exact D1 (S.ss [3,4,7,8,32,33] [(3,3),(4,4)] []) hr
      ·rw [if_neg aj8] at hr
       by_cases aj9:s2.2.2.2.1=1
       ·rw [if_pos aj9] at hr
        simp only [aj9]
        refine S.gx [4,10] ?_
        exact D1 (S.ss [3,4,7,8,32,33] [(3,3),(4,4)] []) hr
       ·rw [if_neg aj9] at hr
        by_cases aj':s2.2.2.2.1=2
        ·rw [if_pos aj'] at hr
         simp only [aj']
         refine S.gx [4,10] ?_
         exact D1 (S.ss [3,4,7,8,32,33] [(3,3),(4,4)] []) hr
        ·rw [if_neg aj'] at hr
         by_cases akb:s2.2.2.2.1=3
         ·rw [if_pos akb] at hr
          simp only [akb]
          refine S.gx [4,10] ?_
          exact D1 (S.ss [3,4,7,8,32,33] [(3,3),(4,4)] []) hr
         ·rw [if_neg akb] at hr
          first | cases hr | exact hr.elim
     ·rw [if_neg akc] at hr
      by_cases hs10:s2.2.2.2.2.2.2=2
      ·rw [if_pos hs10] at hr
       simp only [hs10]
       refine S.gx [4,11] ?_
       refine gr ?_
       refine gr ?_
       by_cases akd:s2.2.2.2.2.1=0
       ·rw [if_pos akd] at hr
        simp only [akd]
        refine S.gx [4,10] ?_
        exact D1 (S.ss [3,4,7,8,32,33] [(3,3),(4,4)] []) hr
       ·rw [if_neg akd] at hr
        by_cases ake:s2.2.2.2.2.1=1
        ·rw [if_pos ake] at hr
         simp only [ake]
         refine S.gx [4,10] ?_
         exact D1 (S.ss [3,4,7,8,32,33] [(3,3),(4,4)] []) hr
        ·rw [if_neg ake] at hr
         by_cases QC:s2.2.2.2.2.1=2
         ·rw [if_pos QC] at hr
          simp only [QC]
          refine S.gx [4,10] ?_
          exact D1 (S.ss [3,4,7,8,32,33] [(3,3),(4,4)] []) hr
         ·rw [if_neg QC] at hr
          by_cases hs11:s2.2.2.2.2.1=3
          ·rw [if_pos hs11] at hr
           simp only [hs11]
           refine S.gx [4,10] ?_
           exact D1 (S.ss [3,4,7,8,32,33] [(3,3),(4,4)] []) hr
          ·rw [if_neg hs11] at hr
           first | cases hr | exact hr.elim
      ·rw [if_neg hs10] at hr
       by_cases hs5:s2.2.2.2.2.2.2=3
       ·rw [if_pos hs5] at hr
        simp only [hs5]
        refine S.gx [4,11] ?_
        refine gr ?_
        refine gr ?_
        by_cases hs9:s2.2.2.2.2.2.1=0
        ·rw [if_pos hs9] at hr
         simp only [hs9]
         refine S.gx [4,10] ?_
         exact D1 (S.ss [3,4,7,8,32,33] [(3,3),(4,4)] []) hr
        ·rw [if_neg hs9] at hr
         by_cases hs8:s2.2.2.2.2.2.1=1
         ·rw [if_pos hs8] at hr
          simp only [hs8]
          refine S.gx [4,10] ?_
          exact D1 (S.ss [3,4,7,8,32,33] [(3,3),(4,4)] []) hr
         ·rw [if_neg hs8] at hr
          by_cases hs7:s2.2.2.2.2.2.1=2
          ·rw [if_pos hs7] at hr
           simp only [hs7]
           refine S.gx [4,10] ?_
           exact D1 (S.ss [3,4,7,8,32,33] [(3,3),(4,4)] []) hr
          ·rw [if_neg hs7] at hr
           by_cases hs6:s2.2.2.2.2.2.1=3
           ·rw [if_pos hs6] at hr
            simp only [hs6]
            refine S.gx [4,10] ?_
            exact D1 (S.ss [3,4,7,8,32,33] [(3,3),(4,4)] []) hr
           ·rw [if_neg hs6] at hr
            first | cases hr | exact hr.elim
       ·rw [if_neg hs5] at hr
        first | cases hr | exact hr.elim
def aiM (x0:bD) (x1:aY) (x2:bC) (x3:au) (x4 x5 x6 x7 x10 x11 x12 dO x14 x15 x16 x17 x18 x19 x20 x21 x8 x9:Int):Option (Int×Int):=
 (aeU x10 x11 x12 dO x14 x15 x16 x17 x18 x19 x20 x21 x8 x9).bind fun v1=>
  (aeS x0 x1 x2 x3 x4 x5 x6 x7 x9).bind fun v2=>
   (aeT v1.1 v1.2.1 v1.2.2.1 v1.2.2.2.1 v1.2.2.2.2.1 v1.2.2.2.2.2.1 v1.2.2.2.2.2.2.1 v1.2.2.2.2.2.2.2 v2.1 v2.2.1 v2.2.2.1 v2.2.2.2 0 1 2 3).bind fun v3=>
    (aeS x0 x1 x2 x3 x4 x5 x6 x7 x8).bind fun v4=>
     (aeT v1.1 v1.2.1 v1.2.2.1 v1.2.2.2.1 v1.2.2.2.2.1 v1.2.2.2.2.2.1 v1.2.2.2.2.2.2.1 v1.2.2.2.2.2.2.2 v4.1 v4.2.1 v4.2.2.1 v4.2.2.2 3 2 1 0).bind fun v5=>
      some (v3,v5)
@[go_sem] def awi:=asg qu7 false aiM
@[go_sem] def aos (k:Nat):=lk [(175,ak1.sp),(177,avP.sp),(178,avO.sp)] k
theorem f131:aF Tryz.prog 131 awi.sp:=by
 refine vm (tb:=aos) (.cons f175 (.cons f177 (.cons f178 .nil))) Tryz.func131 Tryz.ntmps131 fun ⟨x0,x1,x2,x3,x4,x5,x6,x7,x10,x11,x12,dO,x14,x15,x16,x17,x18,x19,x20,x21,x8,x9⟩ r hr stop S=> ?_
 rw [al3,aiM] at hr
 refine S.gx [] ?_
 exact D0 hr
def acS (x0:bD) (x1:aY) (x2:bC) (x3:au) (x4 x5 x6 x7 x8 x9 x10 x11 x12 dO x14 x15 x16 x17 x18 x19 x20 x21:Int) (a2:aj):Bd ((List (Int×Int))×Int) (au×Int):=fun s2=>
 if (decide (s2.2<(a2.length:Int)))=true then
  if 0<=s2.2/\s2.2<(a2.length:Int) then
   aP (aiL x0 x1 x2 x3 x4 x5 x6 x7 x8 x9 x10 x11 x12 dO x14 x15 x16 x17 x18 x19 x20 x21 (a2.getD s2.2.toNat default)) fun v8=>
    aP (aiM x0 x1 x2 x3 x4 x5 x6 x7 v8.1 v8.2.1 v8.2.2.1 v8.2.2.2.1 v8.2.2.2.2.1 v8.2.2.2.2.2.1 v8.2.2.2.2.2.2.1 v8.2.2.2.2.2.2.2.1 v8.2.2.2.2.2.2.2.2.1 v8.2.2.2.2.2.2.2.2.2.1 v8.2.2.2.2.2.2.2.2.2.2.1 v8.2.2.2.2.2.2.2.2.2.2.2.1 v8.2.2.2.2.2.2.2.2.2.2.2.2.1 v8.2.2.2.2.2.2.2.2.2.2.2.2.2) fun v9=>
     if (s2.1.length+1)*16<=140737488355328/\s2.1.length+1<=9223372036854775807 then
      .next (s2.1++[(v9.1,v9.2)],IntKind.i64.wrap (s2.2+1))
      else .out none
   else .out none
  else .out (some (s2.1,0))
def acT (x0:bD) (x1:aY) (x2:bC) (x3:au) (x4 x5 x6 x7 x8 x9 x10 x11 x12 dO x14 x15 x16 x17 x18 x19 x20 x21:Int) (a2:aj):Bd (Int×Int) (au×Int):=fun s1=>
 if (decide (s1.2<(a2.length:Int)))=true then
  if 0<=s1.2/\s1.2<(a2.length:Int) then
   aP (aiN (a2.getD s1.2.toNat default)) fun v5=>
    aP (rZ [s1.1,v5]) fun v6=>
     .next (v6,IntKind.i64.wrap (s1.2+1))
   else .out none
  else .out (if (s1.1 != 0)=true then
   some ([],s1.1)
   else aS (acS x0 x1 x2 x3 x4 x5 x6 x7 x8 x9 x10 x11 x12 dO x14 x15 x16 x17 x18 x19 x20 x21 a2) 1000000000 ([],0))
def r85 (x0:bD) (x1:aY) (x2:bC) (x3:au) (x4 x5 x6 x7 x8 x9 x10 x11 x12 dO x14 x15 x16 x17 x18 x19 x20 x21:Int) (a2:aj):Option (au×Int):=
 (aiP x0 x1 x2 x3 x4 x5 x6 x7).bind fun v1=>
  (aiO x8 x9 x10 x11 x12 dO x14 x15 x16 x17 x18 x19 x20 x21).bind fun v2=>
   (iH (decide ((a2.length:Int)<=12)) 8).bind fun v3=>
    (rZ [v1,v2,v3]).bind fun v4=>
     aS (acT x0 x1 x2 x3 x4 x5 x6 x7 x8 x9 x10 x11 x12 dO x14 x15 x16 x17 x18 x19 x20 x21 a2) 1000000000 (v4,0)
@[go_sem] def T85:=asf aan false r85
@[go_sem] def azJ (k:Nat):=lk [(126,Zb.sp),(127,awl.sp),(128,awk.sp),(129,OJ.sp),(130,awj.sp),(131,awi.sp),(132,awh.sp)] k
theorem f85:aF Tryz.prog 85 T85.sp:=by
 refine vm (tb:=azJ) (.cons f126 (.cons f127 (.cons f128 (.cons f129 (.cons f130 (.cons f131 (.cons f132 .nil))))))) Tryz.func85 Tryz.ntmps85 fun ⟨x0,x1,x2,x3,x4,x5,x6,x7,x8,x9,x10,x11,x12,dO,x14,x15,x16,x17,x18,x19,x20,x21,a2⟩ r hr stop S=> ?_
 rw [ady,r85] at hr
 refine S.gx [] ?_
 obtain ⟨v1,hv1,hr⟩:=aA hr
 obtain ⟨v2,hv2,hr⟩:=aA hr
 obtain ⟨v3,hv3,hr⟩:=aA hr
 obtain ⟨v4,hv4,hr⟩:=aA hr
 refine gb hv1 ?_
 refine gb hv2 ?_
 refine gb hv3 ?_
 refine gb hv4 ?_
 refine S.sees [2,3,4,8,24,25,26] [(3,3),(4,4)] [] ?_ (Stop.iter S (fun s1=>⟨[(2,.c (.d (ah 1 aQ a2))),(3,.c (.ref 3 0)),(4,.c (.ref 4 0)),(8,.c (.d (.int .i64 s1.1))),(24,.c (.d (ah 1 aQ a2))),(25,.c (.d (.int .i64 (a2.length:Int)))),(26,.c (.d (.int .i64 s1.2)))],[(3,[.d (ah 4 dh x0),.d (ah 5 bT x1),.d (ah 3 dn x2),.d (ah 2 aT x3),.d (.int .i64 x4),.d (.int .i64 x5),.d (.int .i64 x6),.d (.int .i64 x7)]),(4,[.d (.int .i64 x8),.d (.int .i64 x9),.d (.int .i64 x10),.d (.int .i64 x11),.d (.int .i64 x12),.d (.int .i64 dO),.d (.int .i64 x14),.d (.int .i64 x15),.d (.int .i64 x16),.d (.int .i64 x17),.d (.int .i64 x18),.d (.int .i64 x19),.d (.int .i64 x20),.d (.int .i64 x21)])],[]⟩) (acT x0 x1 x2 x3 x4 x5 x6 x7 x8 x9 x10 x11 x12 dO x14 x15 x16 x17 x18 x19 x20 x21 a2) (fun q=>q=r) hr rfl ?_)
 ·exact lf
 ·intro s1 hr
  unfold acT at hr
  refine S.gx [] ?_
  refine gr ?_
  refine cZ hr (fun hc hr=>D1 (S.ss [2,3,4,8,24,25,26] [(3,3),(4,4)] []) hr) fun hc hr=> ?_
  refine gr ?_
  have hr:=bK hr
  refine gr ?_
  refine iW hr (fun hc hr=>D0 hr) fun hc hr=> ?_
  refine gr ?_
  refine S.Dp 11 1001100 2 rfl rfl ?_
  refine S.sees [3,4,11,39,40,41] [(3,3),(4,4)] [(1001100,1001100)] ?_ (Stop.iter S (fun s2=>⟨[(3,.c (.ref 3 0)),(4,.c (.ref 4 0)),(11,.c (.own 1001100)),(39,.c (.d (ah 1 aQ a2))),(40,.c (.d (.int .i64 (a2.length:Int)))),(41,.c (.d (.int .i64 s2.2)))],[(3,[.d (ah 4 dh x0),.d (ah 5 bT x1),.d (ah 3 dn x2),.d (ah 2 aT x3),.d (.int .i64 x4),.d (.int .i64 x5),.d (.int .i64 x6),.d (.int .i64 x7)]),(4,[.d (.int .i64 x8),.d (.int .i64 x9),.d (.int .i64 x10),.d (.int .i64 x11),.d (.int .i64 x12),.d (.int .i64 dO),.d (.int .i64 x14),.d (.int .i64 x15),.d (.int .i64 x16),.d (.int .i64 x17),.d (.int .i64 x18),.d (.int .i64 x19),.d (.int .i64 x20),.d (.int .i64 x21)])],[(1001100,.owned (ah 2 aT s2.1))]⟩) (acS x0 x1 x2 x3 x4 x5 x6 x7 x8 x9 x10 x11 x12 dO x14 x15 x16 x17 x18 x19 x20 x21 a2) (fun q=>q=r) hr rfl ?_)
  ·exact lf
  ·intro s2 hr
   unfold acS at hr
   refine S.gx [] ?_
   exact D1 (S.ss [3,4,11,39,40,41] [(3,3),(4,4)] [(55,1001100)]) hr
def r61 (x0 x1:Int) (x2:au) (x3:aj) (x4 x5:bn) (x6:au) (x7 x8 x17 x18:Int) (x19:au) (x20:aj) (x21 su:bn) (x23:au) (x24 x25:Int) (x9:bD) (x10:aY) (x11:bC) (x12:au) (dO x14 x15 x16:Int) (F5:bC) (x27:Int) (a1:au):Option (au×aj×Int):=
 (r83 x0 x1 x2 x3 x4 x5 x6 x7 x8 a1).bind fun v1=>
  if (v1.2 != 0)=true then
   some ([],[],v1.2)
   else (r84 1000000 0 0 0 0 0 0).bind fun v2=>
    if (v2.2.2.2.2.2.2.2.2.2.2.2.2.2.2 != 0)=true then
     some ([],[],v2.2.2.2.2.2.2.2.2.2.2.2.2.2.2)
     else (r85 x9 x10 x11 x12 dO x14 x15 x16 v2.1 v2.2.1 v2.2.2.1 v2.2.2.2.1 v2.2.2.2.2.1 v2.2.2.2.2.2.1 v2.2.2.2.2.2.2.1 v2.2.2.2.2.2.2.2.1 v2.2.2.2.2.2.2.2.2.1 v2.2.2.2.2.2.2.2.2.2.1 v2.2.2.2.2.2.2.2.2.2.2.1 v2.2.2.2.2.2.2.2.2.2.2.2.1 v2.2.2.2.2.2.2.2.2.2.2.2.2.1 v2.2.2.2.2.2.2.2.2.2.2.2.2.2.1 v1.1).bind fun v3=>
      some (v3.1,v1.1,v3.2)
@[go_sem] def T61:=ase aqm true r61
@[go_sem] def azV (k:Nat):=lk [(83,T83.sp),(84,T84.sp),(85,T85.sp)] k
theorem f61:aF Tryz.prog 61 T61.sp:=by
 refine vm (tb:=azV) (.cons f83 (.cons f84 (.cons f85 .nil))) Tryz.func61 Tryz.ntmps61 fun ⟨x0,x1,x2,x3,x4,x5,x6,x7,x8,x17,x18,x19,x20,x21,su,x23,x24,x25,x9,x10,x11,x12,dO,x14,x15,x16,F5,x27,a1⟩ r hr stop S=> ?_
 rw [al0,r61] at hr
 refine S.gx [8] ?_
 obtain ⟨v1,hv1,hr⟩:=aA hr
 refine gb hv1 ?_
 refine iW hr (fun hc hr=>D0 hr) fun hc hr=> ?_
 obtain ⟨v2,hv2,hr⟩:=aA hr
 refine gb hv2 ?_
 refine iW hr (fun hc hr=>D0 hr) fun hc hr=> ?_
 obtain ⟨v3,hv3,hr⟩:=aA hr
 refine gb hv3 ?_
 refine S.prune [7,8,10] ?_
 refine S.gx [] ?_
 exact D0 hr
def r28 (x0 x1:Int) (x2:au) (x3:aj) (x4 x5:bn) (x6:au) (x7 x8:Int) (x9:bD) (x10:aY) (x11:bC) (x12:au) (dO x14 x15 x16:Int) (x17:bC) (x18:Int) (a1:au):Option (au×Int):=
 (r59 x0 x1 x2 x3 x4 x5 x6 x7 x8 x9 x10 x11 x12 dO x14 x15 x16 x17 x18).bind fun v1=>
  if (v1.2.2.2.2.2.2.2.2.2.2.2.2.2.2.2.2.2.2.2.2.2.2.2.2.2.2.2.2 == 0)=true then
   (r60 v1.1 v1.2.1 v1.2.2.1 v1.2.2.2.1 v1.2.2.2.2.1 v1.2.2.2.2.2.1 v1.2.2.2.2.2.2.1 v1.2.2.2.2.2.2.2.1 v1.2.2.2.2.2.2.2.2.1 a1).bind fun v2=>
    if (v2 != 0)=true then
     some ([],v2)
     else (r61 v1.1 v1.2.1 v1.2.2.1 v1.2.2.2.1 v1.2.2.2.2.1 v1.2.2.2.2.2.1 v1.2.2.2.2.2.2.1 v1.2.2.2.2.2.2.2.1 v1.2.2.2.2.2.2.2.2.1 v1.2.2.2.2.2.2.2.2.2.1 v1.2.2.2.2.2.2.2.2.2.2.1 v1.2.2.2.2.2.2.2.2.2.2.2.1 v1.2.2.2.2.2.2.2.2.2.2.2.2.1 v1.2.2.2.2.2.2.2.2.2.2.2.2.2.1 v1.2.2.2.2.2.2.2.2.2.2.2.2.2.2.1 v1.2.2.2.2.2.2.2.2.2.2.2.2.2.2.2.1 v1.2.2.2.2.2.2.2.2.2.2.2.2.2.2.2.2.1 v1.2.2.2.2.2.2.2.2.2.2.2.2.2.2.2.2.2.1 v1.2.2.2.2.2.2.2.2.2.2.2.2.2.2.2.2.2.2.1 v1.2.2.2.2.2.2.2.2.2.2.2.2.2.2.2.2.2.2.2.1 v1.2.2.2.2.2.2.2.2.2.2.2.2.2.2.2.2.2.2.2.2.1 v1.2.2.2.2.2.2.2.2.2.2.2.2.2.2.2.2.2.2.2.2.2.1 v1.2.2.2.2.2.2.2.2.2.2.2.2.2.2.2.2.2.2.2.2.2.2.1 v1.2.2.2.2.2.2.2.2.2.2.2.2.2.2.2.2.2.2.2.2.2.2.2.1 v1.2.2.2.2.2.2.2.2.2.2.2.2.2.2.2.2.2.2.2.2.2.2.2.2.1 v1.2.2.2.2.2.2.2.2.2.2.2.2.2.2.2.2.2.2.2.2.2.2.2.2.2.1 v1.2.2.2.2.2.2.2.2.2.2.2.2.2.2.2.2.2.2.2.2.2.2.2.2.2.2.1 v1.2.2.2.2.2.2.2.2.2.2.2.2.2.2.2.2.2.2.2.2.2.2.2.2.2.2.2.1 a1).bind fun v3=>
      if (v3.2.2 != 0)=true then
       some ([],v3.2.2)
       else some (v3.1,0)
   else if (v1.2.2.2.2.2.2.2.2.2.2.2.2.2.2.2.2.2.2.2.2.2.2.2.2.2.2.2.2 != 0)=true then
    some ([],v1.2.2.2.2.2.2.2.2.2.2.2.2.2.2.2.2.2.2.2.2.2.2.2.2.2.2.2.2)
    else (r61 v1.1 v1.2.1 v1.2.2.1 v1.2.2.2.1 v1.2.2.2.2.1 v1.2.2.2.2.2.1 v1.2.2.2.2.2.2.1 v1.2.2.2.2.2.2.2.1 v1.2.2.2.2.2.2.2.2.1 v1.2.2.2.2.2.2.2.2.2.1 v1.2.2.2.2.2.2.2.2.2.2.1 v1.2.2.2.2.2.2.2.2.2.2.2.1 v1.2.2.2.2.2.2.2.2.2.2.2.2.1 v1.2.2.2.2.2.2.2.2.2.2.2.2.2.1 v1.2.2.2.2.2.2.2.2.2.2.2.2.2.2.1 v1.2.2.2.2.2.2.2.2.2.2.2.2.2.2.2.1 v1.2.2.2.2.2.2.2.2.2.2.2.2.2.2.2.2.1 v1.2.2.2.2.2.2.2.2.2.2.2.2.2.2.2.2.2.1 v1.2.2.2.2.2.2.2.2.2.2.2.2.2.2.2.2.2.2.1 v1.2.2.2.2.2.2.2.2.2.2.2.2.2.2.2.2.2.2.2.1 v1.2.2.2.2.2.2.2.2.2.2.2.2.2.2.2.2.2.2.2.2.1 v1.2.2.2.2.2.2.2.2.2.2.2.2.2.2.2.2.2.2.2.2.2.1 v1.2.2.2.2.2.2.2.2.2.2.2.2.2.2.2.2.2.2.2.2.2.2.1 v1.2.2.2.2.2.2.2.2.2.2.2.2.2.2.2.2.2.2.2.2.2.2.2.1 v1.2.2.2.2.2.2.2.2.2.2.2.2.2.2.2.2.2.2.2.2.2.2.2.2.1 v1.2.2.2.2.2.2.2.2.2.2.2.2.2.2.2.2.2.2.2.2.2.2.2.2.2.1 v1.2.2.2.2.2.2.2.2.2.2.2.2.2.2.2.2.2.2.2.2.2.2.2.2.2.2.1 v1.2.2.2.2.2.2.2.2.2.2.2.2.2.2.2.2.2.2.2.2.2.2.2.2.2.2.2.1 a1).bind fun v4=>
     if (v4.2.2 != 0)=true then
      some ([],v4.2.2)
      else some (v4.1,0)
@[go_sem] def T28:=asb aan false r28
@[go_sem] def aAb (k:Nat):=lk [(59,T59.sp),(60,T60.sp),(61,T61.sp)] k
theorem f28:aF Tryz.prog 28 T28.sp:=by
 refine vm (tb:=aAb) (.cons f59 (.cons f60 (.cons f61 .nil))) Tryz.func28 Tryz.ntmps28 fun ⟨x0,x1,x2,x3,x4,x5,x6,x7,x8,x9,x10,x11,x12,dO,x14,x15,x16,x17,x18,a1⟩ r hr stop S=> ?_
 rw [ahT,r28] at hr
 refine S.gx [8,9] ?_
 obtain ⟨v1,hv1,hr⟩:=aA hr
 refine gb hv1 ?_
 refine iW hr (fun hc hr=> ?_) fun hc hr=> ?_
 ·obtain ⟨v2,hv2,hr⟩:=aA hr
  refine gb hv2 ?_
  refine iW hr (fun hc hr=>D0 hr) fun hc hr=> ?_
  obtain ⟨v3,hv3,hr⟩:=aA hr
  refine gb hv3 ?_
  refine iW hr (fun hc hr=> ?_) fun hc hr=> ?_
  ·refine gr ?_
   refine S.prune [7] ?_
   refine S.gx [9] ?_
   exact D0 hr
  ·refine gr ?_
   refine S.prune [8] ?_
   refine S.gx [8] ?_
   exact D0 hr
 ·refine gr ?_
  refine iW hr (fun hc hr=>D0 hr) fun hc hr=> ?_
  obtain ⟨v4,hv4,hr⟩:=aA hr
  refine gb hv4 ?_
  refine iW hr (fun hc hr=> ?_) fun hc hr=> ?_
  ·refine gr ?_
   refine S.prune [7] ?_
   refine S.gx [9] ?_
   exact D0 hr
  ·refine gr ?_
   refine S.prune [8] ?_
   refine S.gx [8] ?_
   exact D0 hr
def ac1 (x0 x1:Int) (x2:au) (x3:aj) (x5 x4:bn) (x6:au) (x7 x8:Int) (x9:bD) (a1:Int) (v1:bn×Int):Bd (bn×Int) (Int×Bool):=fun s1=>
 if (decide (s1.2<201))=true then
  if 0<=a1/\a1<(s1.1.length:Int) then
   if 0<=0/\0<(x9.length:Int) then
    aP (r88 x0 x1 x2 x3 x5 x4 x6 x7 x8 (s1.1.getD a1.toNat default) ((x9.getD 0 default).1)) fun v2=>
     if (decide (v2>=0))=true then
      .out (some (s1.2,true))
      else aP (Xz x0 x1 x2 x3 s1.1 v1.1 v1.2) fun v3=>
       if (v3.2 != 0)=true then
        .out (some (s1.2,true))
        else .next (v3.1,IntKind.i64.wrap (s1.2+1))
    else .out none
   else .out none
  else .out (some (0,false))
def r63 (x0 x1:Int) (x2:au) (x3:aj) (x5 x4:bn) (x6:au) (x7 x8 x10 x11:Int) (x12:au) (dO:aj) (x14 x15:bn) (x16:au) (x17 x18:Int) (x9:bD) (x19:aY) (x20:bC) (x21:au) (su x23 x24 x25:Int) (F5:bC) (x27 a1 a2:Int):Option (Int×Bool):=
 (PW x0 x1 x2 x3 x5 x4 x6 x7 x8 a2 0 87).bind fun v1=>
  aS (ac1 x0 x1 x2 x3 x5 x4 x6 x7 x8 x9 a1 v1) 1000000000 (x4,0)
@[go_sem] def T63:=asa qu6 false r63
@[go_sem] def azU (k:Nat):=lk [(86,T86.sp),(88,T88.sp),(89,T89.sp)] k
theorem f63:aF Tryz.prog 63 T63.sp:=by
 refine vm (tb:=azU) (.cons f86 (.cons f88 (.cons f89 .nil))) Tryz.func63 Tryz.ntmps63 fun ⟨x0,x1,x2,x3,x5,x4,x6,x7,x8,x10,x11,x12,dO,x14,x15,x16,x17,x18,x9,x19,x20,x21,su,x23,x24,x25,F5,x27,a1,a2⟩ r hr stop S=> ?_
 rw [alZ,r63] at hr
 refine S.gx [10,11] ?_
 obtain ⟨v1,hv1,hr⟩:=aA hr
 refine gb hv1 ?_
 refine S.sees [1,3,8,9,23] [(3,3),(8,8)] [(17,17)] ?_ (Stop.iter S (fun s1=>⟨[(1,.c (.d (.int .i64 a1))),(3,.c (.ref 3 0)),(8,.c (.ref 8 0)),(9,.c (.d (ah 1 cu s1.1))),(23,.c (.d (.int .i64 s1.2)))],[(3,[.d (.int .i64 x0),.d (.int .i64 x1),.d (ah 2 aT x2),.d (ah 1 aQ x3),.d (ah 1 cu x5),.d (ah 1 cu x4),.d (ah 2 aT x6),.d (.int .i64 x7),.d (.int .i64 x8),.d (.int .i64 x10),.d (.int .i64 x11),.d (ah 2 aT x12),.d (ah 1 aQ dO),.d (ah 1 cu x14),.d (ah 1 cu x15),.d (ah 2 aT x16),.d (.int .i64 x17),.d (.int .i64 x18),.d (ah 4 dh x9),.d (ah 5 bT x19),.d (ah 3 dn x20),.d (ah 2 aT x21),.d (.int .i64 su),.d (.int .i64 x23),.d (.int .i64 x24),.d (.int .i64 x25),.d (ah 3 dn F5),.d (.int .i64 x27)]),(8,[.own 17,.d (.int .i64 v1.2)])],[(17,.owned (ah 1 cu v1.1))]⟩) (ac1 x0 x1 x2 x3 x5 x4 x6 x7 x8 x9 a1 v1) (fun q=>q=r) hr rfl ?_)
 ·exact lf
 ·intro s1 hr
  unfold ac1 at hr
  refine S.gx [10,11] ?_
  refine gr ?_
  refine cZ hr (fun hc hr=> ?_) fun hc hr=>D0 hr
  obtain ⟨hg4,hr⟩:=aB hr
  obtain ⟨hg5,hr⟩:=aB hr
  obtain ⟨v2,hv2,hr⟩:=aI hr
  refine gb hv2 ?_
  refine cZ hr (fun hc hr=>D0 hr) fun hc hr=> ?_
  obtain ⟨v3,hv3,hr⟩:=aI hr
  refine gb hv3 ?_
  refine cZ hr (fun hc hr=> ?_) fun hc hr=> ?_
  ·refine gr ?_
   refine S.prune [10] ?_
   refine S.gx [11] ?_
   exact D0 hr
  ·refine gr ?_
   refine S.prune [1,3,8,11,23] ?_
   refine S.gx [10] ?_
   refine gr ?_
   refine gr ?_
   refine S.share 49 rfl ?_
   exact D1 (S.ss [1,3,8,9,23] [(3,3),(8,8)] [(17,17)]) hr
def ac6 (x1:bD) (x2:Int) (x0:bC) (a1:Int) (v1:Int×Int×au×aj×bn×bn×au×Int×Int×Int×Int×au×aj×bn×bn×au×Int×Int×bD×aY×bC×au×Int×Int×Int×Int×bC×Int×Int):Bd (Int×Int) (Int×Int):=fun s1=>
 if (decide (s1.2<(x0.length:Int)))=true then
  if 0<=s1.2/\s1.2<(x0.length:Int) then
   if (decide (((x0.getD s1.2.toNat default).2.1)<=x2))=true then
    .next (s1.1,IntKind.i64.wrap (s1.2+1))
    else if ((x1.length:Int) == 0)=true then
     .out (some (0,12))
     else aP (r63 v1.1 v1.2.1 v1.2.2.1 v1.2.2.2.1 v1.2.2.2.2.1 v1.2.2.2.2.2.1 v1.2.2.2.2.2.2.1 v1.2.2.2.2.2.2.2.1 v1.2.2.2.2.2.2.2.2.1 v1.2.2.2.2.2.2.2.2.2.1 v1.2.2.2.2.2.2.2.2.2.2.1 v1.2.2.2.2.2.2.2.2.2.2.2.1 v1.2.2.2.2.2.2.2.2.2.2.2.2.1 v1.2.2.2.2.2.2.2.2.2.2.2.2.2.1 v1.2.2.2.2.2.2.2.2.2.2.2.2.2.2.1 v1.2.2.2.2.2.2.2.2.2.2.2.2.2.2.2.1 v1.2.2.2.2.2.2.2.2.2.2.2.2.2.2.2.2.1 v1.2.2.2.2.2.2.2.2.2.2.2.2.2.2.2.2.2.1 v1.2.2.2.2.2.2.2.2.2.2.2.2.2.2.2.2.2.2.1 v1.2.2.2.2.2.2.2.2.2.2.2.2.2.2.2.2.2.2.2.1 v1.2.2.2.2.2.2.2.2.2.2.2.2.2.2.2.2.2.2.2.2.1 v1.2.2.2.2.2.2.2.2.2.2.2.2.2.2.2.2.2.2.2.2.2.1 v1.2.2.2.2.2.2.2.2.2.2.2.2.2.2.2.2.2.2.2.2.2.2.1 v1.2.2.2.2.2.2.2.2.2.2.2.2.2.2.2.2.2.2.2.2.2.2.2.1 v1.2.2.2.2.2.2.2.2.2.2.2.2.2.2.2.2.2.2.2.2.2.2.2.2.1 v1.2.2.2.2.2.2.2.2.2.2.2.2.2.2.2.2.2.2.2.2.2.2.2.2.2.1 v1.2.2.2.2.2.2.2.2.2.2.2.2.2.2.2.2.2.2.2.2.2.2.2.2.2.2.1 v1.2.2.2.2.2.2.2.2.2.2.2.2.2.2.2.2.2.2.2.2.2.2.2.2.2.2.2.1 ((x0.getD s1.2.toNat default).1) a1) fun v5=>
      if (!v5.2)=true then
       .out (some (0,12))
       else .next ((if s1.1<v5.1 then v5.1 else s1.1),IntKind.i64.wrap (s1.2+1))
   else .out none
  else .out (some (s1.1,0))
def r31 (x3 x4:Int) (x5:au) (x6:aj) (x7 x8:bn) (x9:au) (x10 x11:Int) (x1:bD) (x12:aY) (dO:bC) (x14:au) (x2 x15 x16 x17:Int) (x0:bC) (x18 a1:Int):Option (Int×Int):=
 (r59 x3 x4 x5 x6 x7 x8 x9 x10 x11 x1 x12 dO x14 x2 x15 x16 x17 x0 x18).bind fun v1=>
  (E8 a1 1 10000).bind fun v2=>
   (jV v2 2).bind fun v3=>
    (vF [v1.2.2.2.2.2.2.2.2.2.2.2.2.2.2.2.2.2.2.2.2.2.2.2.2.2.2.2.2,v3]).bind fun v4=>
     if (v4 != 0)=true then
      some (0,v4)
      else aS (ac6 x1 x2 x0 a1 v1) 1000000000 (0,0)
@[go_sem] def T31:=ar' Gq false r31
@[go_sem] def az' (k:Nat):=lk [(39,T39.sp),(40,T40.sp),(46,T46.sp),(59,T59.sp),(63,T63.sp)] k
theorem f31:aF Tryz.prog 31 T31.sp:=by
 refine vm (tb:=az') (.cons f39 (.cons f40 (.cons f46 (.cons f59 (.cons f63 .nil))))) Tryz.func31 Tryz.ntmps31 fun ⟨x3,x4,x5,x6,x7,x8,x9,x10,x11,x1,x12,dO,x14,x2,x15,x16,x17,x0,x18,a1⟩ r hr stop S=> ?_
 rw [ahT,r31] at hr
 refine S.gx [14,16] ?_
 obtain ⟨v1,hv1,hr⟩:=aA hr
 obtain ⟨v2,hv2,hr⟩:=aA hr
 obtain ⟨v3,hv3,hr⟩:=aA hr
 obtain ⟨v4,hv4,hr⟩:=aA hr
 refine gb hv1 ?_
 refine gb hv2 ?_
 refine gb hv3 ?_
 refine gb hv4 ?_
 refine iW hr (fun hc hr=>D0 hr) fun hc hr=> ?_
 refine gr ?_
 refine S.sees [1,2,6,8,28,29,30] [(2,2),(6,6)] [] ?_ (Stop.iter S (fun s1=>⟨[(1,.c (.d (.int .i64 a1))),(2,.c (.ref 2 0)),(6,.c (.ref 6 0)),(8,.c (.d (.int .i64 s1.1))),(28,.c (.d (ah 3 dn x0))),(29,.c (.d (.int .i64 (x0.length:Int)))),(30,.c (.d (.int .i64 s1.2)))],[(2,[.d (.int .i64 x3),.d (.int .i64 x4),.d (ah 2 aT x5),.d (ah 1 aQ x6),.d (ah 1 cu x7),.d (ah 1 cu x8),.d (ah 2 aT x9),.d (.int .i64 x10),.d (.int .i64 x11),.d (ah 4 dh x1),.d (ah 5 bT x12),.d (ah 3 dn dO),.d (ah 2 aT x14),.d (.int .i64 x2),.d (.int .i64 x15),.d (.int .i64 x16),.d (.int .i64 x17),.d (ah 3 dn x0),.d (.int .i64 x18)]),(6,[.d (.int .i64 v1.1),.d (.int .i64 v1.2.1),.d (ah 2 aT v1.2.2.1),.d (ah 1 aQ v1.2.2.2.1),.d (ah 1 cu v1.2.2.2.2.1),.d (ah 1 cu v1.2.2.2.2.2.1),.d (ah 2 aT v1.2.2.2.2.2.2.1),.d (.int .i64 v1.2.2.2.2.2.2.2.1),.d (.int .i64 v1.2.2.2.2.2.2.2.2.1),.d (.int .i64 v1.2.2.2.2.2.2.2.2.2.1),.d (.int .i64 v1.2.2.2.2.2.2.2.2.2.2.1),.d (ah 2 aT v1.2.2.2.2.2.2.2.2.2.2.2.1),.d (ah 1 aQ v1.2.2.2.2.2.2.2.2.2.2.2.2.1),.d (ah 1 cu v1.2.2.2.2.2.2.2.2.2.2.2.2.2.1),.d (ah 1 cu v1.2.2.2.2.2.2.2.2.2.2.2.2.2.2.1),.d (ah 2 aT v1.2.2.2.2.2.2.2.2.2.2.2.2.2.2.2.1),.d (.int .i64 v1.2.2.2.2.2.2.2.2.2.2.2.2.2.2.2.2.1),.d (.int .i64 v1.2.2.2.2.2.2.2.2.2.2.2.2.2.2.2.2.2.1),.d (ah 4 dh v1.2.2.2.2.2.2.2.2.2.2.2.2.2.2.2.2.2.2.1),.d (ah 5 bT v1.2.2.2.2.2.2.2.2.2.2.2.2.2.2.2.2.2.2.2.1),.d (ah 3 dn v1.2.2.2.2.2.2.2.2.2.2.2.2.2.2.2.2.2.2.2.2.1),.d (ah 2 aT v1.2.2.2.2.2.2.2.2.2.2.2.2.2.2.2.2.2.2.2.2.2.1),.d (.int .i64 v1.2.2.2.2.2.2.2.2.2.2.2.2.2.2.2.2.2.2.2.2.2.2.1),.d (.int .i64 v1.2.2.2.2.2.2.2.2.2.2.2.2.2.2.2.2.2.2.2.2.2.2.2.1),.d (.int .i64 v1.2.2.2.2.2.2.2.2.2.2.2.2.2.2.2.2.2.2.2.2.2.2.2.2.1),.d (.int .i64 v1.2.2.2.2.2.2.2.2.2.2.2.2.2.2.2.2.2.2.2.2.2.2.2.2.2.1),.d (ah 3 dn v1.2.2.2.2.2.2.2.2.2.2.2.2.2.2.2.2.2.2.2.2.2.2.2.2.2.2.1),.d (.int .i64 v1.2.2.2.2.2.2.2.2.2.2.2.2.2.2.2.2.2.2.2.2.2.2.2.2.2.2.2.1)])],[]⟩) (ac6 x1 x2 x0 a1 v1) (fun q=>q=r) hr rfl ?_)
 ·exact lf
 ·intro s1 hr
  unfold ac6 at hr
  refine S.gx [14,16] ?_
  refine gr ?_
  refine cZ hr (fun hc hr=> ?_) fun hc hr=>D0 hr
  obtain ⟨Zg,hr⟩:=aB hr
  refine gr ?_
  refine cZ hr (fun hc hr=> ?_) fun hc hr=> ?_
  ·refine gr ?_
   refine S.prune [1,2,6,8,28,29,30] ?_
   refine S.gx [14] ?_
   exact D1 (S.ss [1,2,6,8,28,29,30] [(2,2),(6,6)] []) hr
  ·refine gr ?_
   refine cZ hr (fun hc hr=>D0 hr) fun hc hr=> ?_
   obtain ⟨v5,hv5,hr⟩:=aI hr
   refine gb hv5 ?_
   refine cZ hr (fun hc hr=> ?_) fun hc hr=> ?_
   ·refine gr ?_
    refine S.prune [] ?_
    refine S.gx [16] ?_
    exact D0 hr
   ·refine gr ?_
    refine S.prune [1,2,6,8,28,29,30] ?_
    refine S.gx [14] ?_
    exact D1 (S.ss [1,2,6,8,28,29,30] [(2,2),(6,6)] []) hr
def LW (a0 a1:ByteArray):Option (Int):=
 uz a0 a1
@[go_sem] def avw:=aap lC false LW
theorem f205:aF Tryz.prog 205 avw.sp:=⟨⟨Tryz.f205,Tryz.func205,by decide,rfl⟩,Jw (fun _=>rfl) (fun _=>rfl) (fun _=>rfl) rfl⟩
def aix (a0 a1:ByteArray):Option (Bool):=
 if (decide ((a0.size:Int)>=(a1.size:Int)))=true->0<=0/\0<=(a1.size:Int)/\(a1.size:Int)<=(a0.size:Int) then
  some ((decide ((a0.size:Int)>=(a1.size:Int))) && (decide ((a0.extract 0 a1.size)=a1)))
  else none
@[go_sem] def avu:=aap oQ false aix
theorem f207:aF Tryz.prog 207 avu.sp:=by
 refine vm .nil Tryz.func207 Tryz.ntmps207 fun ⟨a0,a1⟩ r hr stop S=> ?_
 rw [yI,aix] at hr
 refine S.gx [] ?_
 obtain ⟨hg1,hr⟩:=aN hr
 repeat (first | refine gG hg1 ?_ | refine gA ?_ | refine gB ?_)
 exact D0 hr
def aiD (a0 a1:ByteArray):Option (ByteArray×Bool):=
 (aix a0 a1).bind fun v1=>
  if (!v1)=true then
   some (a0,false)
   else if 0<=(a1.size:Int)/\(a1.size:Int)<=(a0.size:Int)/\(a0.size:Int)<=(a0.size:Int) then
    some (a0.extract a1.size a0.size,true)
    else none
@[go_sem] def avK:=aap aiV false aiD
@[go_sem] def an1 (k:Nat):=lk [(207,avu.sp)] k
theorem f183:aF Tryz.prog 183 avK.sp:=by
 refine vm (tb:=an1) (.cons f207 .nil) Tryz.func183 Tryz.ntmps183 fun ⟨a0,a1⟩ r hr stop S=> ?_
 rw [yI,aiD] at hr
 refine S.gx [] ?_
 exact D0 hr
def Jg (a0 a1:ByteArray):Option (ByteArray×Bool):=
 (aiD a0 a1).bind fun v1=>
  some (v1.1,v1.2)
@[go_sem] def awg:=aap aiV false Jg
@[go_sem] def aop (k:Nat):=lk [(183,avK.sp)] k
theorem f136:aF Tryz.prog 136 awg.sp:=by
 refine vm (tb:=aop) (.cons f183 .nil) Tryz.func136 Tryz.ntmps136 fun ⟨a0,a1⟩ r hr stop S=> ?_
 rw [yI,Jg] at hr
 refine S.gx [] ?_
 exact D0 hr
def ao1 (a0:ByteArray):Option (Int×Bool):=
 Iw a0
@[go_sem] def avv:=aiZ aql false ao1
theorem f206:aF Tryz.prog 206 avv.sp:=⟨⟨Tryz.f206,Tryz.func206,by decide,rfl⟩,aaN (fun _=>rfl) (fun _=>rfl) (fun _=>rfl) rfl⟩
def r65 (a0:Int):Option (ByteArray):=
 Na a0
@[go_sem] def T65:=KQ ae4 false r65
theorem f65:aF Tryz.prog 65 T65.sp:=⟨⟨Tryz.f65,Tryz.func65,by decide,rfl⟩,aaM (fun _=>rfl) (fun _=>rfl) (fun _=>rfl) rfl⟩
def PZ (a0:ByteArray):Option (Int×Bool):=
 (ao1 a0).bind fun v1=>
  if ((!v1.2) && (decide (v1.1>=0)))=true->(r65 v1.1).isSome=true then
   some (v1.1,(((!v1.2) && (decide (v1.1>=0))) && (decide (((r65 v1.1).getD default)=a0))) && (decide ((a0.size:Int)<=5)))
   else none
@[go_sem] def avL:=aiZ qu6 false PZ
@[go_sem] def an2 (k:Nat):=lk [(65,T65.sp),(206,avv.sp)] k
theorem f182:aF Tryz.prog 182 avL.sp:=by
 refine vm (tb:=an2) (.cons f65 (.cons f206 .nil)) Tryz.func182 Tryz.ntmps182 fun a0 r hr stop S=> ?_
 rw [oC,PZ] at hr
 refine S.gx [] ?_
 obtain ⟨v1,hv1,hr⟩:=aA hr
 obtain ⟨hg2,hr⟩:=aN hr
 try simp only [hv1,oG,oI,true_and,and_assoc]
 repeat (first | refine gG hg2 ?_ | refine gA ?_ | refine gB ?_)
 exact D0 hr
section
variable {β:Type} [Inhabited β] (u:β->List RV) (al:Bool)
def apc (a0:L_S) (a1:ByteArray):List Arg:=[.c (ah 1 d_S a0),.c (.str a1)]
def aqR:List Arg->L_S×ByteArray
 | [.c c0,.c c1]=>(aG g_S c0,acp c1)
 | _=>default
def ar9 (r:L_S->ByteArray->Option β):=mkT (u2 apc) aqR (u2 r) u al
attribute [go_sem] apc aqR ar9
end
def r66 (a0:L_S) (a1:ByteArray):Option (ByteArray):=
 Wq a0 a1
@[go_sem] def T66:=ar9 ae4 false r66
theorem f66:aF Tryz.prog 66 T66.sp:=⟨⟨Tryz.f66,Tryz.func66,by decide,rfl⟩,aaL (fun _=>rfl) (fun _=>rfl) (fun _=>rfl) rfl⟩
def ac5 (a0:au):Bd ((List (ByteArray))×Int) ByteArray:=fun s1=>
 if (decide (s1.2<(a0.length:Int)))=true then
  if 0<=s1.2/\s1.2<(a0.length:Int) then
   aP (r65 ((a0.getD s1.2.toNat default).1)) fun v1=>
    if v1.size+(#[32]:Array UInt8).size<=9223372036854775807 then
     aP (r65 ((a0.getD s1.2.toNat default).2)) fun v2=>
      if v1.size+(#[32]:Array UInt8).size+v2.size<=9223372036854775807 then
       if (s1.1.length+1)*16<=140737488355328/\s1.1.length+1<=9223372036854775807 then
        .next (s1.1++[(v1++(⟨#[32]⟩:ByteArray))++v2],IntKind.i64.wrap (s1.2+1))
        else .out none
       else .out none
     else .out none
   else .out none
  else .out ((r66 s1.1 (⟨#[59]⟩:ByteArray)).bind fun v7=>
   some v7)
def r33 (a0:au):Option (ByteArray):=
 aS (ac5 a0) 1000000000 ([],0)
@[go_sem] def T33:=qT5 ae4 false r33
@[go_sem] def az9 (k:Nat):=lk [(65,T65.sp),(66,T66.sp)] k
theorem f33:aF Tryz.prog 33 T33.sp:=by
 refine vm (tb:=az9) (.cons f65 (.cons f66 .nil)) Tryz.func33 Tryz.ntmps33 fun a0 r hr stop S=> ?_
 rw [oC,r33] at hr
 refine S.gx [] ?_
 refine gr ?_
 refine S.Dp 3 1000300 1 rfl rfl ?_
 refine S.sees [3,6,7,8] [] [(1000300,1000300)] ?_ (Stop.iter S (fun s1=>⟨[(3,.c (.own 1000300)),(6,.c (.d (ah 2 aT a0))),(7,.c (.d (.int .i64 (a0.length:Int)))),(8,.c (.d (.int .i64 s1.2)))],[],[(1000300,.owned (ah 1 d_S s1.1))]⟩) (ac5 a0) (fun q=>q=r) hr rfl ?_)
 ·exact lf
 ·intro s1 hr
  unfold ac5 at hr
  refine S.gx [] ?_
  exact D1 (S.ss [3,6,7,8] [] [(22,1000300)]) hr
def ac4 (a0 a1:au):Bd Int Bool:=fun s1=>
 if (decide (s1<(a0.length:Int)))=true then
  if 0<=s1/\s1<(a0.length:Int) then
   if 0<=s1/\s1<(a1.length:Int) then
    if (!(((a0.getD s1.toNat default).1 == (a1.getD s1.toNat default).1) && ((a0.getD s1.toNat default).2 == (a1.getD s1.toNat default).2)))=true then
     .out (some false)
     else .next (IntKind.i64.wrap (s1+1))
    else .out none
   else .out none
  else .out (some true)
def r34 (a0 a1:au):Option (Bool):=
 if ((a0.length:Int) != (a1.length:Int))=true then
  some false
  else aS (ac4 a0 a1) 1000000000 0
@[go_sem] def T34:=aar oQ false r34
theorem f34:aF Tryz.prog 34 T34.sp:=by
 refine vm .nil Tryz.func34 Tryz.ntmps34 fun ⟨a0,a1⟩ r hr stop S=> ?_
 rw [yI,r34] at hr
 refine S.gx [] ?_
 refine gr ?_
 refine iW hr (fun hc hr=>D0 hr) fun hc hr=> ?_
 refine gr ?_
 refine S.sees [0,1,5] [] [] ?_ (Stop.iter S (fun s1=>⟨[(0,.c (.d (ah 2 aT a0))),(1,.c (.d (ah 2 aT a1))),(5,.c (.d (.int .i64 s1)))],[],[]⟩) (ac4 a0 a1) (fun q=>q=r) hr rfl ?_)
 ·exact lf
 ·intro s1 hr
  unfold ac4 at hr
  refine S.gx [] ?_
  exact D1 (S.ss [0,1,5] [] []) hr
def r6:Option (Bool):=
 (r26).bind fun v1=>
  (r27).bind fun v2=>
   (r15 v1.1 v1.2.1 v1.2.2.1 v1.2.2.2.1 v1.2.2.2.2.1 v1.2.2.2.2.2.1 v1.2.2.2.2.2.2.1 v1.2.2.2.2.2.2.2.1 v1.2.2.2.2.2.2.2.2 v2).bind fun v3=>
    (r29).bind fun v4=>
     (r30 v3.1).bind fun v5=>
      (r28 v4.1 v4.2.1 v4.2.2.1 v4.2.2.2.1 v4.2.2.2.2.1 v4.2.2.2.2.2.1 v4.2.2.2.2.2.2.1 v4.2.2.2.2.2.2.2.1 v4.2.2.2.2.2.2.2.2.1 v4.2.2.2.2.2.2.2.2.2.1 v4.2.2.2.2.2.2.2.2.2.2.1 v4.2.2.2.2.2.2.2.2.2.2.2.1 v4.2.2.2.2.2.2.2.2.2.2.2.2.1 v4.2.2.2.2.2.2.2.2.2.2.2.2.2.1 v4.2.2.2.2.2.2.2.2.2.2.2.2.2.2.1 v4.2.2.2.2.2.2.2.2.2.2.2.2.2.2.2.1 v4.2.2.2.2.2.2.2.2.2.2.2.2.2.2.2.2.1 v4.2.2.2.2.2.2.2.2.2.2.2.2.2.2.2.2.2.1 v4.2.2.2.2.2.2.2.2.2.2.2.2.2.2.2.2.2.2 v5).bind fun v6=>
       (r31 v4.1 v4.2.1 v4.2.2.1 v4.2.2.2.1 v4.2.2.2.2.1 v4.2.2.2.2.2.1 v4.2.2.2.2.2.2.1 v4.2.2.2.2.2.2.2.1 v4.2.2.2.2.2.2.2.2.1 v4.2.2.2.2.2.2.2.2.2.1 v4.2.2.2.2.2.2.2.2.2.2.1 v4.2.2.2.2.2.2.2.2.2.2.2.1 v4.2.2.2.2.2.2.2.2.2.2.2.2.1 v4.2.2.2.2.2.2.2.2.2.2.2.2.2.1 v4.2.2.2.2.2.2.2.2.2.2.2.2.2.2.1 v4.2.2.2.2.2.2.2.2.2.2.2.2.2.2.2.1 v4.2.2.2.2.2.2.2.2.2.2.2.2.2.2.2.2.1 v4.2.2.2.2.2.2.2.2.2.2.2.2.2.2.2.2.2.1 v4.2.2.2.2.2.2.2.2.2.2.2.2.2.2.2.2.2.2 400).bind fun v7=>
        if 1*64<=140737488355328/\1<=9223372036854775807 then
         if (1+1)*64<=140737488355328/\1+1<=9223372036854775807 then
          if (v3.2 == 0)=true->(r33 v3.1).isSome=true then
           if (((v3.2 == 0) && (decide (((r33 v3.1).getD default)=(⟨#[52,48,48,32,48,59,52,48,48,32,48,59,48,32,49,59,48,32,49,59,48,32,49]⟩:ByteArray)))) && (v6.2 == 0))=true->(r34 v6.1 [(800,800),(200,200),(200,200)]).isSome=true then
            if (((((((v3.2 == 0) && (decide (((r33 v3.1).getD default)=(⟨#[52,48,48,32,48,59,52,48,48,32,48,59,48,32,49,59,48,32,49,59,48,32,49]⟩:ByteArray)))) && (v6.2 == 0)) && ((r34 v6.1 [(800,800),(200,200),(200,200)]).getD default)) && (v7.2 == 0)) && (v7.1 == 2)) && ((([(3,400,0,5,650,Hl.nil)]++[(2,0,1,3,0,Hl.nil)]).length:Int) == 2))=true->0<=0/\0<(([(3,400,0,5,650,Hl.nil)]++[(2,0,1,3,0,Hl.nil)]).length:Int) then
             some ((((((((v3.2 == 0) && (decide (((r33 v3.1).getD default)=(⟨#[52,48,48,32,48,59,52,48,48,32,48,59,48,32,49,59,48,32,49,59,48,32,49]⟩:ByteArray)))) && (v6.2 == 0)) && ((r34 v6.1 [(800,800),(200,200),(200,200)]).getD default)) && (v7.2 == 0)) && (v7.1 == 2)) && ((([(3,400,0,5,650,Hl.nil)]++[(2,0,1,3,0,Hl.nil)]).length:Int) == 2)) && (((([(3,400,0,5,650,Hl.nil)]++[(2,0,1,3,0,Hl.nil)]).getD 0 default).1) == 3))
             else none
            else none
           else none
          else none
         else none
@[go_sem] def T6:=qT0 oQ false r6
@[go_sem] def tb6 (k:Nat):=lk [(8,T8.sp),(15,T15.sp),(26,T26.sp),(27,T27.sp),(28,T28.sp),(29,T29.sp),(30,T30.sp),(31,T31.sp),(33,T33.sp),(34,T34.sp),(136,awg.sp),(182,avL.sp),(205,avw.sp)] k
theorem gq:dS Tryz.prog tb6:= .cons f8 (.cons f15 (.cons f26 (.cons f27 (.cons f28 (.cons f29 (.cons f30 (.cons f31 (.cons f33 (.cons f34 (.cons f136 (.cons f182 (.cons f205 .nil))))))))))))
theorem Y0 {α:Type} [Inhabited α] {s s':Nat} {f:α->List D} {a0 b:α} {c:List D} (h:iZ c (f b)):Go.dR.Can s f [a0,b] (D.cat (ah s f [a0]) (D.ofList s' [c]))=True:=lq (l:=[a0]) (r:=[b]) (of_eq_true (uS _)) (of_eq_true (fP (by simp only [List.map_cons,List.map_nil,nX]; exact ⟨h,trivial⟩)))
theorem YZ {α:Type} [Inhabited α] {s s':Nat} {f:α->List D} {a0 a1 b:α} {c:List D} (h:iZ c (f b)):Go.dR.Can s f [a0,a1,b] (D.cat (ah s f [a0,a1]) (D.ofList s' [c]))=True:=lq (l:=[a0,a1]) (r:=[b]) (of_eq_true (uS _)) (of_eq_true (fP (by simp only [List.map_cons,List.map_nil,nX]; exact ⟨h,trivial⟩)))
theorem YX {α:Type} [Inhabited α] {s s':Nat} {f:α->List D} {a0 a1 a2 b:α} {c:List D} (h:iZ c (f b)):Go.dR.Can s f [a0,a1,a2,b] (D.cat (ah s f [a0,a1,a2]) (D.ofList s' [c]))=True:=lq (l:=[a0,a1,a2]) (r:=[b]) (of_eq_true (uS _)) (of_eq_true (fP (by simp only [List.map_cons,List.map_nil,nX]; exact ⟨h,trivial⟩)))
theorem YW {α:Type} [Inhabited α] {s s':Nat} {f:α->List D} {a0 a1 a2 a3 b:α} {c:List D} (h:iZ c (f b)):Go.dR.Can s f [a0,a1,a2,a3,b] (D.cat (ah s f [a0,a1,a2,a3]) (D.ofList s' [c]))=True:=lq (l:=[a0,a1,a2,a3]) (r:=[b]) (of_eq_true (uS _)) (of_eq_true (fP (by simp only [List.map_cons,List.map_nil,nX]; exact ⟨h,trivial⟩)))
theorem YV {α:Type} [Inhabited α] {s s':Nat} {f:α->List D} {a0 a1 a2 a3 a4 b:α} {c:List D} (h:iZ c (f b)):Go.dR.Can s f [a0,a1,a2,a3,a4,b] (D.cat (ah s f [a0,a1,a2,a3,a4]) (D.ofList s' [c]))=True:=lq (l:=[a0,a1,a2,a3,a4]) (r:=[b]) (of_eq_true (uS _)) (of_eq_true (fP (by simp only [List.map_cons,List.map_nil,nX]; exact ⟨h,trivial⟩)))
theorem acD {α:Type} [Inhabited α] {s s':Nat} {f:α->List D} {a0 b:α} {c:List D} {x:D} (hx:Go.dR.Can s f [a0] x) (h:iZ c (f b)):Go.dR.Can s f [a0,b] (D.cat x (D.ofList s' [c]))=True:=lq (l:=[a0]) (r:=[b]) hx (of_eq_true (fP (by simp only [List.map_cons,List.map_nil,nX]; exact ⟨h,trivial⟩)))
theorem acC {α:Type} [Inhabited α] {s s':Nat} {f:α->List D} {a0 a1 b:α} {c:List D} {x:D} (hx:Go.dR.Can s f [a0,a1] x) (h:iZ c (f b)):Go.dR.Can s f [a0,a1,b] (D.cat x (D.ofList s' [c]))=True:=lq (l:=[a0,a1]) (r:=[b]) hx (of_eq_true (fP (by simp only [List.map_cons,List.map_nil,nX]; exact ⟨h,trivial⟩)))
theorem acB {α:Type} [Inhabited α] {s s':Nat} {f:α->List D} {a0 a1 a2 b:α} {c:List D} {x:D} (hx:Go.dR.Can s f [a0,a1,a2] x) (h:iZ c (f b)):Go.dR.Can s f [a0,a1,a2,b] (D.cat x (D.ofList s' [c]))=True:=lq (l:=[a0,a1,a2]) (r:=[b]) hx (of_eq_true (fP (by simp only [List.map_cons,List.map_nil,nX]; exact ⟨h,trivial⟩)))
theorem acA {α:Type} [Inhabited α] {s s':Nat} {f:α->List D} {a0 a1 a2 a3 b:α} {c:List D} {x:D} (hx:Go.dR.Can s f [a0,a1,a2,a3] x) (h:iZ c (f b)):Go.dR.Can s f [a0,a1,a2,a3,b] (D.cat x (D.ofList s' [c]))=True:=lq (l:=[a0,a1,a2,a3]) (r:=[b]) hx (of_eq_true (fP (by simp only [List.map_cons,List.map_nil,nX]; exact ⟨h,trivial⟩)))
theorem acz {α:Type} [Inhabited α] {s s':Nat} {f:α->List D} {a0 a1 a2 a3 a4 b:α} {c:List D} {x:D} (hx:Go.dR.Can s f [a0,a1,a2,a3,a4] x) (h:iZ c (f b)):Go.dR.Can s f [a0,a1,a2,a3,a4,b] (D.cat x (D.ofList s' [c]))=True:=lq (l:=[a0,a1,a2,a3,a4]) (r:=[b]) hx (of_eq_true (fP (by simp only [List.map_cons,List.map_nil,nX]; exact ⟨h,trivial⟩)))
attribute [go_sem] Y0 acD YZ acC YX acB YW acA YV acz
theorem dcT (h:Decidable True): @decide True h=true:=decide_eq_true trivial
theorem alY:LW (⟨#[117,110,116,105,108,32,54,53,48,32,52,48,48,32,53,59,113,117,101,110,99,104,32,49,32,51]⟩:ByteArray) (⟨#[32,59,40,41]⟩:ByteArray)=some 5:=by decide +kernel
theorem alX:Jg (⟨#[32,54,53,48,32,52,48,48,32,53,59,113,117,101,110,99,104,32,49,32,51]⟩:ByteArray) (⟨#[32]⟩:ByteArray)=some ((⟨#[54,53,48,32,52,48,48,32,53,59,113,117,101,110,99,104,32,49,32,51]⟩:ByteArray),true):=by decide +kernel
theorem alW:LW (⟨#[54,53,48,32,52,48,48,32,53,59,113,117,101,110,99,104,32,49,32,51]⟩:ByteArray) (⟨#[32,59,40,41]⟩:ByteArray)=some 3:=by decide +kernel
theorem alV:PZ (⟨#[54,53,48]⟩:ByteArray)=some (650,true):=by decide +kernel
theorem alU:Jg (⟨#[32,52,48,48,32,53,59,113,117,101,110,99,104,32,49,32,51]⟩:ByteArray) (⟨#[32]⟩:ByteArray)=some ((⟨#[52,48,48,32,53,59,113,117,101,110,99,104,32,49,32,51]⟩:ByteArray),true):=by decide +kernel
theorem alT:LW (⟨#[52,48,48,32,53,59,113,117,101,110,99,104,32,49,32,51]⟩:ByteArray) (⟨#[32,59,40,41]⟩:ByteArray)=some 3:=by decide +kernel
theorem alS:PZ (⟨#[52,48,48]⟩:ByteArray)=some (400,true):=by decide +kernel
theorem alR:Jg (⟨#[32,53,59,113,117,101,110,99,104,32,49,32,51]⟩:ByteArray) (⟨#[32]⟩:ByteArray)=some ((⟨#[53,59,113,117,101,110,99,104,32,49,32,51]⟩:ByteArray),true):=by decide +kernel
theorem alQ:LW (⟨#[53,59,113,117,101,110,99,104,32,49,32,51]⟩:ByteArray) (⟨#[32,59,40,41]⟩:ByteArray)=some 1:=by decide +kernel
theorem alP:PZ (⟨#[53]⟩:ByteArray)=some (5,true):=by decide +kernel
theorem ahR:Jg (⟨#[59,113,117,101,110,99,104,32,49,32,51]⟩:ByteArray) (⟨#[59]⟩:ByteArray)=some ((⟨#[113,117,101,110,99,104,32,49,32,51]⟩:ByteArray),true):=by decide +kernel
theorem ahQ:LW (⟨#[113,117,101,110,99,104,32,49,32,51]⟩:ByteArray) (⟨#[32,59,40,41]⟩:ByteArray)=some 6:=by decide +kernel
theorem ahP:Jg (⟨#[32,49,32,51]⟩:ByteArray) (⟨#[32]⟩:ByteArray)=some ((⟨#[49,32,51]⟩:ByteArray),true):=by decide +kernel
theorem ahO:LW (⟨#[49,32,51]⟩:ByteArray) (⟨#[32,59,40,41]⟩:ByteArray)=some 1:=by decide +kernel
theorem ahN:PZ (⟨#[49]⟩:ByteArray)=some (1,true):=by decide +kernel
theorem ahM:Jg (⟨#[32,51]⟩:ByteArray) (⟨#[32]⟩:ByteArray)=some ((⟨#[51]⟩:ByteArray),true):=by decide +kernel
theorem ahL:LW (⟨#[51]⟩:ByteArray) (⟨#[32,59,40,41]⟩:ByteArray)=some (-1):=by decide +kernel
theorem ahK:PZ (⟨#[51]⟩:ByteArray)=some (3,true):=by decide +kernel
theorem ahJ:Jg (⟨#[]⟩:ByteArray) (⟨#[59]⟩:ByteArray)=some ((⟨#[]⟩:ByteArray),false):=by decide +kernel
theorem ahI:r8 ([(3,400,0,5,650,Hl.nil),(2,0,1,3,0,Hl.nil)])=some (0,0):=by decide +kernel
section
attribute [local go_sem] alY alX alW alV alU alT alS alR alQ alP ahR ahQ ahP ahO ahN ahM ahL ahK ahJ ahI oG oI not_true_eq_false dcT
theorem f6:aF Tryz.prog 6 T6.sp:=by
 refine vm (tb:=tb6) (.cons f8 (.cons f15 (.cons f26 (.cons f27 (.cons f28 (.cons f29 (.cons f30 (.cons f31 (.cons f33 (.cons f34 (.cons f136 (.cons f182 (.cons f205 .nil))))))))))))) Tryz.func6 Tryz.ntmps6 fun _ r hr stop S=> ?_
 rw [uq0,r6] at hr
 refine S.gx [4,5] ?_
 obtain ⟨v1,hv1,hr⟩:=aA hr
 try simp only [List.cons_append,List.nil_append] at hv1
 obtain ⟨v2,hv2,hr⟩:=aA hr
 try simp only [List.cons_append,List.nil_append] at hv2
 obtain ⟨v3,hv3,hr⟩:=aA hr
 try simp only [List.cons_append,List.nil_append] at hv3
 obtain ⟨v4,hv4,hr⟩:=aA hr
 try simp only [List.cons_append,List.nil_append] at hv4
 obtain ⟨v5,hv5,hr⟩:=aA hr
 try simp only [List.cons_append,List.nil_append] at hv5
 obtain ⟨v6,hv6,hr⟩:=aA hr
 try simp only [List.cons_append,List.nil_append] at hv6
 obtain ⟨v7,hv7,hr⟩:=aA hr
 try simp only [List.cons_append,List.nil_append] at hv7
 refine gb hv1 ?_
 refine gb hv2 ?_
 refine gb hv3 ?_
 refine gb hv4 ?_
 refine gb hv5 ?_
 refine gb hv6 ?_
 refine gb hv7 ?_
 refine S.inl 0 [1,2,3,4,5,6] [] Tryz.func32 (by decide) rfl Tryz.ntmps32 (fun cx e=>aX bP gq cx e) (some 28) rfl rfl rfl rfl (nL rfl) (nL rfl) ?_
 refine gs ?_
 refine gr ?_
 intro stop1 S1
 refine S1.gx [4] ?_
 refine gr ?_
 refine S1.inl 0 [4] [] Tryz.func64 (by decide) rfl Tryz.ntmps64 (fun cx e=>aX bP gq cx e) (some 15) rfl rfl rfl rfl (nL rfl) (nL rfl) ?_
 refine gs ?_
 refine gr ?_
 intro stop2 S2
 refine S2.gx [2,6] ?_
 refine gr ?_
 refine S2.lp ?_
 refine S2.gx [2,6] ?_
 refine gr ?_
 refine S2.inl 1 [0,4] [] Tryz.func90 (by decide) rfl Tryz.ntmps90 (fun cx e=>aX bP gq cx e) (some 9) rfl rfl rfl rfl (nL rfl) (nL rfl) ?_
 refine gs ?_
 refine gr ?_
 intro BX S3
 refine S3.gx [1,9,16,18,20,7] ?_
 refine gr ?_
 refine S3.inl 1 [0,2] [] Tryz.func134 (by decide) rfl Tryz.ntmps134 (fun cx e=>aX bP gq cx e) (some 15) rfl rfl rfl rfl (nL rfl) (nL rfl) ?_
 refine gs ?_
 refine gr ?_
 intro zM S4
 refine S4.gx [1] ?_
 refine gr ?_
 refine S4.inl 1 [] [] Tryz.func181 (by decide) rfl Tryz.ntmps181 (fun cx e=>aX bP gq cx e) (some 8) rfl rfl rfl rfl (nL rfl) (nL rfl) ?_
 refine gs ?_
 refine gr ?_
 intro rM S5
 refine S5.gx [6] ?_
 refine gr ?_
 refine S5.prune [4] ?_
 refine S5.gx [] ?_
 refine gr ?_
 refine gr ?_
 refine gr ?_
 refine S4.gx [1] ?_
 refine gr ?_
 refine S4.lp ?_
 refine S4.gx [1] ?_
 refine gr ?_
 refine S4.lp ?_
 refine S4.gx [1] ?_
 refine gr ?_
 refine S4.lp ?_
 refine S4.gx [1] ?_
 refine gr ?_
 refine S4.lp ?_
 refine S4.gx [1] ?_
 refine gr ?_
 refine gr ?_
 refine S3.gx [1,9,16,18,20,7] ?_
 refine gr ?_
 refine S3.lp ?_
 refine S3.gx [1,9,16,18,20,7] ?_
 refine gr ?_
 refine S3.prune [0,2,4,6,45,46,47] ?_
 refine S3.gx [1,9,16,18,20] ?_
 refine gr ?_
 refine gr ?_
 refine S3.inl 1 [0,2,4,6,9,45,46,47] [] Tryz.func135 (by decide) rfl Tryz.ntmps135 (fun cx e=>aX bP gq cx e) (some 53) rfl rfl rfl rfl (nL rfl) (nL rfl) ?_
 refine gs ?_
 refine gr ?_
 intro zM S4
 refine S4.gx [1,3] ?_
 refine gr ?_
 refine S4.inl 1 [0] [] Tryz.func91 (by decide) rfl Tryz.ntmps91 (fun cx e=>aX bP gq cx e) (some 5) rfl rfl rfl rfl (nL rfl) (nL rfl) ?_
 refine gs ?_
 refine gr ?_
 intro rM S5
 refine S5.gx [] ?_
 refine gr ?_
 refine gr ?_
 refine S4.gx [1,3] ?_
 refine gr ?_
 refine S4.inl 1 [] [] Tryz.func181 (by decide) rfl Tryz.ntmps181 (fun cx e=>aX bP gq cx e) (some 8) rfl rfl rfl rfl (nL rfl) (nL rfl) ?_
 refine gs ?_
 refine gr ?_
 intro rM S5
 refine S5.gx [6] ?_
 refine gr ?_
 refine S5.prune [4] ?_
 refine S5.gx [] ?_
 refine gr ?_
 refine gr ?_
 refine gr ?_
 refine S4.gx [1,3] ?_
 refine gr ?_
 refine gr ?_
 refine S3.gx [1,9,16,18,20,7] ?_
 refine gr ?_
 refine S3.lp ?_
 refine S3.gx [1,9,16,18,20,7] ?_
 refine gr ?_
 refine S3.prune [0,2,4,6,45,46,47] ?_
 refine S3.gx [1,9,16,18,20] ?_
 refine gr ?_
 refine gr ?_
 refine S3.inl 1 [0,2,4,6,9,45,46,47] [] Tryz.func135 (by decide) rfl Tryz.ntmps135 (fun cx e=>aX bP gq cx e) (some 53) rfl rfl rfl rfl (nL rfl) (nL rfl) ?_
 refine gs ?_
 refine gr ?_
 intro zM S4
 refine S4.gx [1,3] ?_
 refine gr ?_
 refine S4.inl 1 [0] [] Tryz.func91 (by decide) rfl Tryz.ntmps91 (fun cx e=>aX bP gq cx e) (some 5) rfl rfl rfl rfl (nL rfl) (nL rfl) ?_
 refine gs ?_
 refine gr ?_
 intro rM S5
 refine S5.gx [] ?_
 refine gr ?_
 refine gr ?_
 refine S4.gx [1,3] ?_
 refine gr ?_
 refine S4.inl 1 [] [] Tryz.func181 (by decide) rfl Tryz.ntmps181 (fun cx e=>aX bP gq cx e) (some 8) rfl rfl rfl rfl (nL rfl) (nL rfl) ?_
 refine gs ?_
 refine gr ?_
 intro rM S5
 refine S5.gx [6] ?_
 refine gr ?_
 refine S5.prune [4] ?_
 refine S5.gx [] ?_
 refine gr ?_
 refine gr ?_
 refine gr ?_
 refine S4.gx [1,3] ?_
 refine gr ?_
 refine gr ?_
 refine S3.gx [1,9,16,18,20,7] ?_
 refine gr ?_
 refine S3.lp ?_
 refine S3.gx [1,9,16,18,20,7] ?_
 refine gr ?_
 refine S3.prune [0,2,4,6,45,46,47] ?_
 refine S3.gx [1,9,16,18,20] ?_
 refine gr ?_
 refine gr ?_
 refine S3.inl 1 [0,2,4,6,9,45,46,47] [] Tryz.func135 (by decide) rfl Tryz.ntmps135 (fun cx e=>aX bP gq cx e) (some 53) rfl rfl rfl rfl (nL rfl) (nL rfl) ?_
 refine gs ?_
 refine gr ?_
 intro zM S4
 refine S4.gx [1,3] ?_
 refine gr ?_
 refine S4.inl 1 [0] [] Tryz.func91 (by decide) rfl Tryz.ntmps91 (fun cx e=>aX bP gq cx e) (some 5) rfl rfl rfl rfl (nL rfl) (nL rfl) ?_
 refine gs ?_
 refine gr ?_
 intro rM S5
 refine S5.gx [] ?_
 refine gr ?_
 refine gr ?_
 refine S4.gx [1,3] ?_
 refine gr ?_
 refine S4.inl 1 [] [] Tryz.func181 (by decide) rfl Tryz.ntmps181 (fun cx e=>aX bP gq cx e) (some 8) rfl rfl rfl rfl (nL rfl) (nL rfl) ?_
 refine gs ?_
 refine gr ?_
 intro rM S5
 refine S5.gx [6] ?_
 refine gr ?_
 refine S5.prune [4] ?_
 refine S5.gx [] ?_
 refine gr ?_
 refine gr ?_
 refine gr ?_
 refine S4.gx [1,3] ?_
 refine gr ?_
 refine gr ?_
 refine S3.gx [1,9,16,18,20,7] ?_
 refine gr ?_
 refine S3.lp ?_
 refine S3.gx [1,9,16,18,20,7] ?_
 refine gr ?_
 refine S3.prune [0,2,4,6,45,46,47] ?_
 refine S3.gx [1,9,16,18,20] ?_
 refine gr ?_
 refine gr ?_
 refine gr ?_
 refine S2.gx [2,6] ?_
 obtain ⟨y5,hr⟩:=aN hr
 refine gr ?_
 refine S2.inl 1 [0,4] [] Tryz.func91 (by decide) rfl Tryz.ntmps91 (fun cx e=>aX bP gq cx e) (some 19) rfl rfl rfl rfl (nL rfl) (nL rfl) ?_
 refine gs ?_
 refine gr ?_
 intro BX S3
 refine S3.gx [] ?_
 refine gr ?_
 refine gr ?_
 refine S2.gx [2,6] ?_
 refine gr ?_
 refine S2.lp ?_
 refine S2.gx [2,6] ?_
 refine gr ?_
 refine S2.inl 1 [0,4] [] Tryz.func90 (by decide) rfl Tryz.ntmps90 (fun cx e=>aX bP gq cx e) (some 9) rfl rfl rfl rfl (nL rfl) (nL rfl) ?_
 refine gs ?_
 refine gr ?_
 intro BX S3
 refine S3.gx [1,9,16,18,20,7] ?_
 refine gr ?_
 refine S3.inl 1 [0,2] [] Tryz.func134 (by decide) rfl Tryz.ntmps134 (fun cx e=>aX bP gq cx e) (some 15) rfl rfl rfl rfl (nL rfl) (nL rfl) ?_
 refine gs ?_
 refine gr ?_
 intro zM S4
 refine S4.gx [1] ?_
 refine gr ?_
 refine S4.inl 1 [] [] Tryz.func181 (by decide) rfl Tryz.ntmps181 (fun cx e=>aX bP gq cx e) (some 8) rfl rfl rfl rfl (nL rfl) (nL rfl) ?_
 refine gs ?_
 refine gr ?_
 intro rM S5
 refine S5.gx [6] ?_
 refine gr ?_
 refine S5.prune [4] ?_
 refine S5.gx [] ?_
 refine gr ?_
 refine gr ?_
 refine gr ?_
 refine S4.gx [1] ?_
 refine gr ?_
 refine S4.lp ?_
 refine S4.gx [1] ?_
 refine gr ?_
 refine S4.lp ?_
 refine S4.gx [1] ?_
 refine gr ?_
 refine S4.lp ?_
 refine S4.gx [1] ?_
 refine gr ?_
 refine gr ?_
 refine S3.gx [1,9,16,18,20,7] ?_
 refine gr ?_
 refine S3.lp ?_
 refine S3.gx [1,9,16,18,20,7] ?_
 refine gr ?_
 refine S3.prune [0,2,4,6,45,46,47] ?_
 refine S3.gx [1,9,16,18,20] ?_
 refine gr ?_
 refine gr ?_
 refine S3.inl 1 [0,2,4,6,9,45,46,47] [] Tryz.func135 (by decide) rfl Tryz.ntmps135 (fun cx e=>aX bP gq cx e) (some 53) rfl rfl rfl rfl (nL rfl) (nL rfl) ?_
 refine gs ?_
 refine gr ?_
 intro zM S4
 refine S4.gx [1,3] ?_
 refine gr ?_
 refine S4.inl 1 [0] [] Tryz.func91 (by decide) rfl Tryz.ntmps91 (fun cx e=>aX bP gq cx e) (some 5) rfl rfl rfl rfl (nL rfl) (nL rfl) ?_
 refine gs ?_
 refine gr ?_
 intro rM S5
 refine S5.gx [] ?_
 refine gr ?_
 refine gr ?_
 refine S4.gx [1,3] ?_
 refine gr ?_
 refine S4.inl 1 [] [] Tryz.func181 (by decide) rfl Tryz.ntmps181 (fun cx e=>aX bP gq cx e) (some 8) rfl rfl rfl rfl (nL rfl) (nL rfl) ?_
 refine gs ?_
 refine gr ?_
 intro rM S5
 refine S5.gx [6] ?_
 refine gr ?_
 refine S5.prune [4] ?_
 refine S5.gx [] ?_
 refine gr ?_
 refine gr ?_
 refine gr ?_
 refine S4.gx [1,3] ?_
 refine gr ?_
 refine gr ?_
 refine S3.gx [1,9,16,18,20,7] ?_
 refine gr ?_
 refine S3.lp ?_
 refine S3.gx [1,9,16,18,20,7] ?_
 refine gr ?_
 refine S3.prune [0,2,4,6,45,46,47] ?_
 refine S3.gx [1,9,16,18,20] ?_
 refine gr ?_
 refine gr ?_
 refine S3.inl 1 [0,2,4,6,9,45,46,47] [] Tryz.func135 (by decide) rfl Tryz.ntmps135 (fun cx e=>aX bP gq cx e) (some 53) rfl rfl rfl rfl (nL rfl) (nL rfl) ?_
 refine gs ?_
 refine gr ?_
 intro zM S4
 refine S4.gx [1,3] ?_
 refine gr ?_
 refine S4.inl 1 [0] [] Tryz.func91 (by decide) rfl Tryz.ntmps91 (fun cx e=>aX bP gq cx e) (some 5) rfl rfl rfl rfl (nL rfl) (nL rfl) ?_
 refine gs ?_
 refine gr ?_
 intro rM S5
 refine S5.gx [] ?_
 refine gr ?_
 refine gr ?_
 refine S4.gx [1,3] ?_
 refine gr ?_
 refine S4.inl 1 [] [] Tryz.func181 (by decide) rfl Tryz.ntmps181 (fun cx e=>aX bP gq cx e) (some 8) rfl rfl rfl rfl (nL rfl) (nL rfl) ?_
 refine gs ?_
 refine gr ?_
 intro rM S5
 refine S5.gx [6] ?_
 refine gr ?_
 refine S5.prune [4] ?_
 refine S5.gx [] ?_
 refine gr ?_
 refine gr ?_
 refine gr ?_
 refine S4.gx [1,3] ?_
 refine gr ?_
 refine gr ?_
 refine S3.gx [1,9,16,18,20,7] ?_
 refine gr ?_
 refine S3.lp ?_
 refine S3.gx [1,9,16,18,20,7] ?_
 refine gr ?_
 refine S3.prune [0,2,4,6,45,46,47] ?_
 refine S3.gx [1,9,16,18,20] ?_
 refine gr ?_
 refine gr ?_
 refine gr ?_
 refine S2.gx [2,6] ?_
 obtain ⟨y7,hr⟩:=aN hr
 refine gr ?_
 refine S2.inl 1 [0,4] [] Tryz.func91 (by decide) rfl Tryz.ntmps91 (fun cx e=>aX bP gq cx e) (some 19) rfl rfl rfl rfl (nL rfl) (nL rfl) ?_
 refine gs ?_
 refine gr ?_
 intro BX S3
 refine S3.gx [] ?_
 refine gr ?_
 refine gr ?_
 refine S2.gx [2,6] ?_
 refine gr ?_
 refine gr ?_
 refine S1.gx [4] ?_
 repeat (first | refine gA ?_ | refine gB ?_)
 refine gr ?_
 refine S.gx [4,5] ?_
 refine gr ?_
 refine S.sees [1,2,3,4,5,6,7,8] [] [(12,12),(19,19),(100017,100017)] (st':=⟨[(1,.c (.own 12)),(2,.c (.d (.int .i64 v3.2))),(3,.c (.own 19)),(4,.c (.d (.int .i64 v6.2))),(5,.c (.d (.int .i64 v7.1))),(6,.c (.d (.int .i64 v7.2))),(7,.c (.own 100017)),(8,.c (.d (.int .i64 0)))],[],[(12,.owned (ah 2 aT v3.1)),(19,.owned (ah 2 aT v6.1)),(100017,.owned (ah 6 aZ ([(3,400,0,5,650,Hl.nil)]++[(2,0,1,3,0,Hl.nil)])))]⟩) ?_ ?_
 ·exact lf
 ·refine S.gx [4] ?_
  obtain ⟨Wv,hr⟩:=aN hr
  obtain ⟨Nk,hr⟩:=aN hr
  obtain ⟨uX,hr⟩:=aN hr
  repeat (first | refine gG Wv ?_ | refine gG Nk ?_ | refine gG uX ?_ | refine gA ?_ | refine gB ?_)
  exact D0 hr
end
end Go.Proofs.YtkbdjphdhcgmaaaGreatDoor

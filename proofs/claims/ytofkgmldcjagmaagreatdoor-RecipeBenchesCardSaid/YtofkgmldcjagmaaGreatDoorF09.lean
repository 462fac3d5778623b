/- Contracts of functions, written by wip/dec. -/
import Derived.Test.YtofkgmldcjagmaaGreatDoorF00
import Derived.Test.YtofkgmldcjagmaaGreatDoorF02
import Derived.Test.YtofkgmldcjagmaaGreatDoorF03
import Derived.Test.YtofkgmldcjagmaaGreatDoorF04
import Derived.Test.YtofkgmldcjagmaaGreatDoorF05
import Derived.Test.YtofkgmldcjagmaaGreatDoorF06
import Derived.Test.YtofkgmldcjagmaaGreatDoorF07
import Derived.Test.YtofkgmldcjagmaaGreatDoorF08
set_option linter.unusedVariables false
set_option linter.unusedSimpArgs false
set_option linter.constructorNameAsVariable false
set_option maxHeartbeats 4000000
set_option maxRecDepth 20000
namespace Go.Proofs.YtofkgmldcjagmaaGreatDoor
open Go.dJ
section
variable {β:Type} [Inhabited β] (u:β→List RV) (al:Bool)
def anW (a0:bg) (a1:aW) (a2:bf) (a3:au) (a4 a5 a6 a7 a8 a9 a10 a11 a12 jL kH kF a16 a17 mW o9 a20 a21:Int) (a22:au):List Arg:=[.agg [ah 4 cZ a0,ah 5 bU a1,ah 3 dh a2,ah 2 aO a3,.int .i64 a4,.int .i64 a5,.int .i64 a6,.int .i64 a7],.agg [.int .i64 a8,.int .i64 a9,.int .i64 a10,.int .i64 a11,.int .i64 a12,.int .i64 jL,.int .i64 kH,.int .i64 kF,.int .i64 a16,.int .i64 a17,.int .i64 mW,.int .i64 o9,.int .i64 a20,.int .i64 a21],.c (ah 2 aO a22)]
def apC:List Arg→bg×aW×bf×au×Int×Int×Int×Int×Int×Int×Int×Int×Int×Int×Int×Int×Int×Int×Int×Int×Int×Int×au
 | [.agg [c0,c1,c2,c3,c4,c5,c6,c7],.agg [c8,c9,c10,c11,c12,c13,c14,c15,c16,c17,c18,c19,c20,c21],.c XG]=>(aG jA c0,aG gX c1,aG jB c2,aG bY c3,aB c4,aB c5,aB c6,aB c7,aB c8,aB c9,aB c10,aB c11,aB c12,aB c13,aB c14,aB c15,aB c16,aB c17,aB c18,aB c19,aB c20,aB c21,aG bY XG)
 | _=>default
def aqN (r:bg→aW→bf→au→Int→Int→Int→Int→Int→Int→Int→Int→Int→Int→Int→Int→Int→Int→Int→Int→Int→Int→au→Option β):=mkT (u23 anW) apC (u23 r) u al
attribute [go_sem] anW apC aqN
def anV (a0 a1 a2 a3 a4 a5 a6 a7 a8 a9 a10 a11 a12 jL kH kF:Int):List Arg:=[.agg [.int .i64 a0,.int .i64 a1,.int .i64 a2,.int .i64 a3,.int .i64 a4,.int .i64 a5,.int .i64 a6,.int .i64 a7],.agg [.int .i64 a8,.int .i64 a9,.int .i64 a10,.int .i64 a11],.agg [.int .i64 a12,.int .i64 jL,.int .i64 kH,.int .i64 kF]]
def apB:List Arg→Int×Int×Int×Int×Int×Int×Int×Int×Int×Int×Int×Int×Int×Int×Int×Int
 | [.agg [c0,c1,c2,c3,c4,c5,c6,c7],.agg [c8,c9,c10,c11],.agg [c12,c13,c14,c15]]=>(aB c0,aB c1,aB c2,aB c3,aB c4,aB c5,aB c6,aB c7,aB c8,aB c9,aB c10,aB c11,aB c12,aB c13,aB c14,aB c15)
 | _=>default
def aqM (r:Int→Int→Int→Int→Int→Int→Int→Int→Int→Int→Int→Int→Int→Int→Int→Int→Option β):=mkT (u16 anV) apB (u16 r) u al
attribute [go_sem] anV apB aqM
def anU (a0:bg) (a1:aW) (a2:bf) (a3:au) (a4 a5 a6 a7 a8 a9 a10 a11 a12 jL kH kF a16 a17 mW o9 a20 a21:Int):List Arg:=[.agg [ah 4 cZ a0,ah 5 bU a1,ah 3 dh a2,ah 2 aO a3,.int .i64 a4,.int .i64 a5,.int .i64 a6,.int .i64 a7],.agg [.int .i64 a8,.int .i64 a9,.int .i64 a10,.int .i64 a11,.int .i64 a12,.int .i64 jL,.int .i64 kH,.int .i64 kF,.int .i64 a16,.int .i64 a17,.int .i64 mW,.int .i64 o9,.int .i64 a20,.int .i64 a21]]
def apA:List Arg→bg×aW×bf×au×Int×Int×Int×Int×Int×Int×Int×Int×Int×Int×Int×Int×Int×Int×Int×Int×Int×Int
 | [.agg [c0,c1,c2,c3,c4,c5,c6,c7],.agg [c8,c9,c10,c11,c12,c13,c14,c15,c16,c17,c18,c19,c20,c21]]=>(aG jA c0,aG gX c1,aG jB c2,aG bY c3,aB c4,aB c5,aB c6,aB c7,aB c8,aB c9,aB c10,aB c11,aB c12,aB c13,aB c14,aB c15,aB c16,aB c17,aB c18,aB c19,aB c20,aB c21)
 | _=>default
def aqL (r:bg→aW→bf→au→Int→Int→Int→Int→Int→Int→Int→Int→Int→Int→Int→Int→Int→Int→Int→Int→Int→Int→Option β):=mkT (u22 anU) apA (u22 r) u al
attribute [go_sem] anU apA aqL
def anT (a0:bg) (a1:aW) (a2:bf) (a3:au) (a4 a5 a6 a7 a8 a9 a10 a11 a12 jL kH kF a16 a17 mW o9 a20 a21:Int) (a22:aj):List Arg:=[.agg [ah 4 cZ a0,ah 5 bU a1,ah 3 dh a2,ah 2 aO a3,.int .i64 a4,.int .i64 a5,.int .i64 a6,.int .i64 a7],.agg [.int .i64 a8,.int .i64 a9,.int .i64 a10,.int .i64 a11,.int .i64 a12,.int .i64 jL,.int .i64 kH,.int .i64 kF,.int .i64 a16,.int .i64 a17,.int .i64 mW,.int .i64 o9,.int .i64 a20,.int .i64 a21],.c (ah 1 aN a22)]
def apz:List Arg→bg×aW×bf×au×Int×Int×Int×Int×Int×Int×Int×Int×Int×Int×Int×Int×Int×Int×Int×Int×Int×Int×aj
 | [.agg [c0,c1,c2,c3,c4,c5,c6,c7],.agg [c8,c9,c10,c11,c12,c13,c14,c15,c16,c17,c18,c19,c20,c21],.c XG]=>(aG jA c0,aG gX c1,aG jB c2,aG bY c3,aB c4,aB c5,aB c6,aB c7,aB c8,aB c9,aB c10,aB c11,aB c12,aB c13,aB c14,aB c15,aB c16,aB c17,aB c18,aB c19,aB c20,aB c21,aG bP XG)
 | _=>default
def aqK (r:bg→aW→bf→au→Int→Int→Int→Int→Int→Int→Int→Int→Int→Int→Int→Int→Int→Int→Int→Int→Int→Int→aj→Option β):=mkT (u23 anT) apz (u23 r) u al
attribute [go_sem] anT apz aqK
def anS (a0 a1:Int) (a2:au) (a3:aj) (a4 a5:aZ) (a6:au) (a7 a8 a9 a10:Int) (a11:au) (a12:aj) (jL kH:aZ) (kF:au) (a16 a17:Int) (mW:bg) (o9:aW) (a20:bf) (a21:au) (a22 a23 a24 a25:Int) (a26:bf) (a27:Int) (a28:au):List Arg:=[.agg [.int .i64 a0,.int .i64 a1,ah 2 aO a2,ah 1 aN a3,ah 1 cO a4,ah 1 cO a5,ah 2 aO a6,.int .i64 a7,.int .i64 a8,.int .i64 a9,.int .i64 a10,ah 2 aO a11,ah 1 aN a12,ah 1 cO jL,ah 1 cO kH,ah 2 aO kF,.int .i64 a16,.int .i64 a17,ah 4 cZ mW,ah 5 bU o9,ah 3 dh a20,ah 2 aO a21,.int .i64 a22,.int .i64 a23,.int .i64 a24,.int .i64 a25,ah 3 dh a26,.int .i64 a27],.c (ah 2 aO a28)]
def apy:List Arg→Int×Int×au×aj×aZ×aZ×au×Int×Int×Int×Int×au×aj×aZ×aZ×au×Int×Int×bg×aW×bf×au×Int×Int×Int×Int×bf×Int×au
 | [.agg [c0,c1,c2,c3,c4,c5,c6,c7,c8,c9,c10,c11,c12,c13,c14,c15,c16,c17,c18,c19,c20,c21,XG,c23,c24,c25,c26,c27],.c c28]=>(aB c0,aB c1,aG bY c2,aG bP c3,aG jM c4,aG jM c5,aG bY c6,aB c7,aB c8,aB c9,aB c10,aG bY c11,aG bP c12,aG jM c13,aG jM c14,aG bY c15,aB c16,aB c17,aG jA c18,aG gX c19,aG jB c20,aG bY c21,aB XG,aB c23,aB c24,aB c25,aG jB c26,aB c27,aG bY c28)
 | _=>default
def aqJ (r:Int→Int→au→aj→aZ→aZ→au→Int→Int→Int→Int→au→aj→aZ→aZ→au→Int→Int→bg→aW→bf→au→Int→Int→Int→Int→bf→Int→au→Option β):=mkT (u29 anS) apy (u29 r) u al
attribute [go_sem] anS apy aqJ
def anR (a0 a1:Int) (a2:au) (a3:aj) (a4 a5:aZ) (a6:au) (a7 a8:Int) (a9:bg) (a10:aW) (a11:bf) (a12:au) (jL kH kF a16:Int) (a17:bf) (mW:Int) (o9:au):List Arg:=[.agg [.int .i64 a0,.int .i64 a1,ah 2 aO a2,ah 1 aN a3,ah 1 cO a4,ah 1 cO a5,ah 2 aO a6,.int .i64 a7,.int .i64 a8,ah 4 cZ a9,ah 5 bU a10,ah 3 dh a11,ah 2 aO a12,.int .i64 jL,.int .i64 kH,.int .i64 kF,.int .i64 a16,ah 3 dh a17,.int .i64 mW],.c (ah 2 aO o9)]
def apx:List Arg→Int×Int×au×aj×aZ×aZ×au×Int×Int×bg×aW×bf×au×Int×Int×Int×Int×bf×Int×au
 | [.agg [c0,c1,c2,c3,c4,c5,c6,c7,c8,c9,c10,c11,c12,c13,c14,c15,c16,c17,c18],.c c19]=>(aB c0,aB c1,aG bY c2,aG bP c3,aG jM c4,aG jM c5,aG bY c6,aB c7,aB c8,aG jA c9,aG gX c10,aG jB c11,aG bY c12,aB c13,aB c14,aB c15,aB c16,aG jB c17,aB c18,aG bY c19)
 | _=>default
def aqI (r:Int→Int→au→aj→aZ→aZ→au→Int→Int→bg→aW→bf→au→Int→Int→Int→Int→bf→Int→au→Option β):=mkT (u20 anR) apx (u20 r) u al
attribute [go_sem] anR apx aqI
def anQ (a0 a1:Int) (a2:au) (a3:aj) (a4 a5:aZ) (a6:au) (a7 a8 a9 a10:Int) (a11:au) (a12:aj) (jL kH:aZ) (kF:au) (a16 a17:Int) (mW:bg) (o9:aW) (a20:bf) (a21:au) (a22 a23 a24 a25:Int) (a26:bf) (a27 a28 a29:Int):List Arg:=[.agg [.int .i64 a0,.int .i64 a1,ah 2 aO a2,ah 1 aN a3,ah 1 cO a4,ah 1 cO a5,ah 2 aO a6,.int .i64 a7,.int .i64 a8,.int .i64 a9,.int .i64 a10,ah 2 aO a11,ah 1 aN a12,ah 1 cO jL,ah 1 cO kH,ah 2 aO kF,.int .i64 a16,.int .i64 a17,ah 4 cZ mW,ah 5 bU o9,ah 3 dh a20,ah 2 aO a21,.int .i64 a22,.int .i64 a23,.int .i64 a24,.int .i64 a25,ah 3 dh a26,.int .i64 a27],.c (.int .i64 a28),.c (.int .i64 a29)]
def apw:List Arg→Int×Int×au×aj×aZ×aZ×au×Int×Int×Int×Int×au×aj×aZ×aZ×au×Int×Int×bg×aW×bf×au×Int×Int×Int×Int×bf×Int×Int×Int
 | [.agg [c0,c1,c2,c3,c4,c5,c6,c7,c8,c9,c10,c11,c12,c13,c14,c15,c16,c17,c18,c19,c20,c21,XG,c23,c24,c25,c26,c27],.c c28,.c c29]=>(aB c0,aB c1,aG bY c2,aG bP c3,aG jM c4,aG jM c5,aG bY c6,aB c7,aB c8,aB c9,aB c10,aG bY c11,aG bP c12,aG jM c13,aG jM c14,aG bY c15,aB c16,aB c17,aG jA c18,aG gX c19,aG jB c20,aG bY c21,aB XG,aB c23,aB c24,aB c25,aG jB c26,aB c27,aB c28,aB c29)
 | _=>default
def aqH (r:Int→Int→au→aj→aZ→aZ→au→Int→Int→Int→Int→au→aj→aZ→aZ→au→Int→Int→bg→aW→bf→au→Int→Int→Int→Int→bf→Int→Int→Int→Option β):=mkT (u30 anQ) apw (u30 r) u al
attribute [go_sem] anQ apw aqH
def anP (a0 a1:Int) (a2:au) (a3:aj) (a4 a5:aZ) (a6:au) (a7 a8:Int) (a9:bg) (a10:aW) (a11:bf) (a12:au) (jL kH kF a16:Int) (a17:bf) (mW o9:Int):List Arg:=[.agg [.int .i64 a0,.int .i64 a1,ah 2 aO a2,ah 1 aN a3,ah 1 cO a4,ah 1 cO a5,ah 2 aO a6,.int .i64 a7,.int .i64 a8,ah 4 cZ a9,ah 5 bU a10,ah 3 dh a11,ah 2 aO a12,.int .i64 jL,.int .i64 kH,.int .i64 kF,.int .i64 a16,ah 3 dh a17,.int .i64 mW],.c (.int .i64 o9)]
def apv:List Arg→Int×Int×au×aj×aZ×aZ×au×Int×Int×bg×aW×bf×au×Int×Int×Int×Int×bf×Int×Int
 | [.agg [c0,c1,c2,c3,c4,c5,c6,c7,c8,c9,c10,c11,c12,c13,c14,c15,c16,c17,c18],.c c19]=>(aB c0,aB c1,aG bY c2,aG bP c3,aG jM c4,aG jM c5,aG bY c6,aB c7,aB c8,aG jA c9,aG gX c10,aG jB c11,aG bY c12,aB c13,aB c14,aB c15,aB c16,aG jB c17,aB c18,aB c19)
 | _=>default
def aqG (r:Int→Int→au→aj→aZ→aZ→au→Int→Int→bg→aW→bf→au→Int→Int→Int→Int→bf→Int→Int→Option β):=mkT (u20 anP) apv (u20 r) u al
attribute [go_sem] anP apv aqG
def anO (a0 a1:ByteArray):List Arg:=[.c (.str a0),.c (.str a1)]
def apu:List Arg→ByteArray×ByteArray
 | [.c c0,.c c1]=>(aaX c0,aaX c1)
 | _=>default
def YT (r:ByteArray→ByteArray→Option β):=mkT (u2 anO) apu (u2 r) u al
attribute [go_sem] anO apu YT
def anN (a0:ByteArray):List Arg:=[.c (.str a0)]
def apt:List Arg→ByteArray
 | [.c c0]=>aaX c0
 | _=>default
def ahs (r:ByteArray→Option β):=mkT (u1 anN) apt (u1 r) u al
attribute [go_sem] anN apt ahs
def aoW (v:Int×Int×Int×Int):List RV:=[.agg [.d (.int .i64 v.1),.d (.int .i64 v.2.1),.d (.int .i64 v.2.2.1),.d (.int .i64 v.2.2.2)]]
attribute [go_sem] aoW
def aoV (v:au×aj×Int):List RV:=[.c (.own (ah 2 aO v.1)),.c (.own (ah 1 aN v.2.1)),.c (.d (.int .i64 v.2.2))]
attribute [go_sem] aoV
def ahm (v:ByteArray×Bool):List RV:=[.c (.d (.str v.1)),.c (.d (.bool v.2))]
attribute [go_sem] ahm
def aoU (v:Int×Bool):List RV:=[.c (.d (.int .i64 v.1)),.c (.d (.err v.2))]
attribute [go_sem] aoU
end
def QK (x0:bg) (x1:aW) (x2:bf) (x3:au) (x4 x5 x6 x7:Int) (a2:au):Bd (Int×Int×Int×Int×Int×Int×Int×Int×Int×Int×Int×Int×Int×Int×Int) (Int×Int×Int×Int×Int×Int×Int×Int×Int×Int×Int×Int×Int×Int):=fun s1=>
 if (decide (s1.1<(a2.length:Int)))=true then
  if 0≤s1.1∧s1.1<(a2.length:Int) then
   aP (ag9 x0 x1 x2 x3 x4 x5 x6 x7 s1.2.1 s1.2.2.1 s1.2.2.2.1 s1.2.2.2.2.1 s1.2.2.2.2.2.1 s1.2.2.2.2.2.2.1 s1.2.2.2.2.2.2.2.1 s1.2.2.2.2.2.2.2.2.1 s1.2.2.2.2.2.2.2.2.2.1 s1.2.2.2.2.2.2.2.2.2.2.1 s1.2.2.2.2.2.2.2.2.2.2.2.1 s1.2.2.2.2.2.2.2.2.2.2.2.2.1 s1.2.2.2.2.2.2.2.2.2.2.2.2.2.1 s1.2.2.2.2.2.2.2.2.2.2.2.2.2.2 ((a2.getD s1.1.toNat default).1) ((a2.getD s1.1.toNat default).2)) fun v1=>
    .next (IntKind.i64.wrap (s1.1+1),v1.1,v1.2.1,v1.2.2.1,v1.2.2.2.1,v1.2.2.2.2.1,v1.2.2.2.2.2.1,v1.2.2.2.2.2.2.1,v1.2.2.2.2.2.2.2.1,v1.2.2.2.2.2.2.2.2.1,v1.2.2.2.2.2.2.2.2.2.1,v1.2.2.2.2.2.2.2.2.2.2.1,v1.2.2.2.2.2.2.2.2.2.2.2.1,v1.2.2.2.2.2.2.2.2.2.2.2.2.1,v1.2.2.2.2.2.2.2.2.2.2.2.2.2)
   else .out none
  else .out (some (s1.2.1,s1.2.2.1,s1.2.2.2.1,s1.2.2.2.2.1,s1.2.2.2.2.2.1,s1.2.2.2.2.2.2.1,s1.2.2.2.2.2.2.2.1,s1.2.2.2.2.2.2.2.2.1,s1.2.2.2.2.2.2.2.2.2.1,s1.2.2.2.2.2.2.2.2.2.2.1,s1.2.2.2.2.2.2.2.2.2.2.2.1,s1.2.2.2.2.2.2.2.2.2.2.2.2.1,s1.2.2.2.2.2.2.2.2.2.2.2.2.2.1,s1.2.2.2.2.2.2.2.2.2.2.2.2.2.2))
def ahd (x0:bg) (x1:aW) (x2:bf) (x3:au) (x4 x5 x6 x7 x8 x9 x10 x11 x12 dP x14 x15 x16 x17 x18 x19 x20 x21:Int) (a2:au):Option (Int×Int×Int×Int×Int×Int×Int×Int×Int×Int×Int×Int×Int×Int):=
 aS (QK x0 x1 x2 x3 x4 x5 x6 x7 a2) 1000000000 (0,x8,x9,x10,x11,x12,dP,x14,x15,x16,x17,x18,x19,x20,x21)
@[go_sem] def auM:=aqN Ib false ahd
@[go_sem] def amT (k:Nat):=lk [(180,auq.sp)] k
theorem f141:aF Tryz.prog 141 auM.sp:=by
 refine vm (tb:=amT) (.cons f180 .nil) Tryz.func141 Tryz.ntmps141 fun ⟨x0,x1,x2,x3,x4,x5,x6,x7,x8,x9,x10,x11,x12,dP,x14,x15,x16,x17,x18,x19,x20,x21,a2⟩ r hr stop S=> ?_
 rw [acd,ahd] at hr
 refine S.gx [] ?_
 refine gr ?_
 refine S.sees [3,4,6,9,10,11] [(3,3),(4,4),(6,6)] [] ?_ (Stop.iter S (fun s1=>⟨[(3,.c (.ref 3 0)),(4,.c (.ref 4 0)),(6,.c (.ref 6 0)),(9,.c (.d (ah 2 aO a2))),(10,.c (.d (.int .i64 (a2.length:Int)))),(11,.c (.d (.int .i64 s1.1)))],[(3,[.d (ah 4 cZ x0),.d (ah 5 bU x1),.d (ah 3 dh x2),.d (ah 2 aO x3),.d (.int .i64 x4),.d (.int .i64 x5),.d (.int .i64 x6),.d (.int .i64 x7)]),(4,[.d (.int .i64 s1.2.1),.d (.int .i64 s1.2.2.1),.d (.int .i64 s1.2.2.2.1),.d (.int .i64 s1.2.2.2.2.1),.d (.int .i64 s1.2.2.2.2.2.1),.d (.int .i64 s1.2.2.2.2.2.2.1),.d (.int .i64 s1.2.2.2.2.2.2.2.1),.d (.int .i64 s1.2.2.2.2.2.2.2.2.1),.d (.int .i64 s1.2.2.2.2.2.2.2.2.2.1),.d (.int .i64 s1.2.2.2.2.2.2.2.2.2.2.1),.d (.int .i64 s1.2.2.2.2.2.2.2.2.2.2.2.1),.d (.int .i64 s1.2.2.2.2.2.2.2.2.2.2.2.2.1),.d (.int .i64 s1.2.2.2.2.2.2.2.2.2.2.2.2.2.1),.d (.int .i64 s1.2.2.2.2.2.2.2.2.2.2.2.2.2.2)]),(6,[.d (.int .i64 0),.d (.int .i64 0),.d (.int .i64 0),.d (.int .i64 0),.d (.int .i64 0),.d (.int .i64 0),.d (.int .i64 0),.d (.int .i64 0),.d (.int .i64 0),.d (.int .i64 0),.d (.int .i64 0),.d (.int .i64 0),.d (.int .i64 0),.d (.int .i64 0)])],[]⟩) (QK x0 x1 x2 x3 x4 x5 x6 x7 a2) (fun q=>q=r) hr rfl ?_)
 ·exact lf
 ·intro s1 hr
  unfold QK at hr
  refine S.gx [] ?_
  exact D1 (S.ss [3,4,6,9,10,11] [(3,3),(4,4),(6,6)] []) hr
def adx (x4:bg) (x5:aW) (x6:bf) (x7:au) (x2 x3 x0 x1 a1:Int):Option (Int×Int×Int×Int):=
 some (x2,x3,x0,(if x0<IntKind.i64.wrap (x1 - a1) then IntKind.i64.wrap (x1 - a1) else x0))
@[go_sem] def aur:=Wp aoW false adx
theorem f179:aF Tryz.prog 179 aur.sp:=by
 refine vm .nil Tryz.func179 Tryz.ntmps179 fun ⟨x4,x5,x6,x7,x2,x3,x0,x1,a1⟩ r hr stop S=> ?_
 rw [NC,adx] at hr
 refine S.gx [] ?_
 exact D0 hr
def Qu (x0 x4 x1 x5 x2 x6 x3 x7 x8 x9 x10 x11:Int):Bd (Int×Int×Int×Int×Int×Int×Int) Int:=fun s2=>
 if (decide (s2.2.2.2.2.2.2<4))=true then
  if s2.2.2.2.2.2.2=0 then
   if s2.2.2.1=0 then
    .next (IntKind.i64.wrap (s2.1 - (if IntKind.i64.wrap (x4 - x0)<s2.1 then IntKind.i64.wrap (x4 - x0) else s2.1)),IntKind.i64.wrap (s2.2.1+(IntKind.i64.wrap ((if IntKind.i64.wrap (x4 - x0)<s2.1 then IntKind.i64.wrap (x4 - x0) else s2.1)*x8))),0,s2.2.2.2.1,s2.2.2.2.2.1,s2.2.2.2.2.2.1,1)
    else if s2.2.2.1=1 then
     .next (IntKind.i64.wrap (s2.1 - (if IntKind.i64.wrap (x5 - x1)<s2.1 then IntKind.i64.wrap (x5 - x1) else s2.1)),IntKind.i64.wrap (s2.2.1+(IntKind.i64.wrap ((if IntKind.i64.wrap (x5 - x1)<s2.1 then IntKind.i64.wrap (x5 - x1) else s2.1)*x9))),1,s2.2.2.2.1,s2.2.2.2.2.1,s2.2.2.2.2.2.1,1)
     else if s2.2.2.1=2 then
      .next (IntKind.i64.wrap (s2.1 - (if IntKind.i64.wrap (x6 - x2)<s2.1 then IntKind.i64.wrap (x6 - x2) else s2.1)),IntKind.i64.wrap (s2.2.1+(IntKind.i64.wrap ((if IntKind.i64.wrap (x6 - x2)<s2.1 then IntKind.i64.wrap (x6 - x2) else s2.1)*x10))),2,s2.2.2.2.1,s2.2.2.2.2.1,s2.2.2.2.2.2.1,1)
      else if s2.2.2.1=3 then
       .next (IntKind.i64.wrap (s2.1 - (if IntKind.i64.wrap (x7 - x3)<s2.1 then IntKind.i64.wrap (x7 - x3) else s2.1)),IntKind.i64.wrap (s2.2.1+(IntKind.i64.wrap ((if IntKind.i64.wrap (x7 - x3)<s2.1 then IntKind.i64.wrap (x7 - x3) else s2.1)*x11))),3,s2.2.2.2.1,s2.2.2.2.2.1,s2.2.2.2.2.2.1,1)
       else .out none
   else if s2.2.2.2.2.2.2=1 then
    if s2.2.2.2.1=0 then
     .next (IntKind.i64.wrap (s2.1 - (if IntKind.i64.wrap (x4 - x0)<s2.1 then IntKind.i64.wrap (x4 - x0) else s2.1)),IntKind.i64.wrap (s2.2.1+(IntKind.i64.wrap ((if IntKind.i64.wrap (x4 - x0)<s2.1 then IntKind.i64.wrap (x4 - x0) else s2.1)*x8))),s2.2.2.1,0,s2.2.2.2.2.1,s2.2.2.2.2.2.1,2)
     else if s2.2.2.2.1=1 then
      .next (IntKind.i64.wrap (s2.1 - (if IntKind.i64.wrap (x5 - x1)<s2.1 then IntKind.i64.wrap (x5 - x1) else s2.1)),IntKind.i64.wrap (s2.2.1+(IntKind.i64.wrap ((if IntKind.i64.wrap (x5 - x1)<s2.1 then IntKind.i64.wrap (x5 - x1) else s2.1)*x9))),s2.2.2.1,1,s2.2.2.2.2.1,s2.2.2.2.2.2.1,2)
      else if s2.2.2.2.1=2 then
       .next (IntKind.i64.wrap (s2.1 - (if IntKind.i64.wrap (x6 - x2)<s2.1 then IntKind.i64.wrap (x6 - x2) else s2.1)),IntKind.i64.wrap (s2.2.1+(IntKind.i64.wrap ((if IntKind.i64.wrap (x6 - x2)<s2.1 then IntKind.i64.wrap (x6 - x2) else s2.1)*x10))),s2.2.2.1,2,s2.2.2.2.2.1,s2.2.2.2.2.2.1,2)
       else if s2.2.2.2.1=3 then
        .next (IntKind.i64.wrap (s2.1 - (if IntKind.i64.wrap (x7 - x3)<s2.1 then IntKind.i64.wrap (x7 - x3) else s2.1)),IntKind.i64.wrap (s2.2.1+(IntKind.i64.wrap ((if IntKind.i64.wrap (x7 - x3)<s2.1 then IntKind.i64.wrap (x7 - x3) else s2.1)*x11))),s2.2.2.1,3,s2.2.2.2.2.1,s2.2.2.2.2.2.1,2)
        else .out none
    else if s2.2.2.2.2.2.2=2 then
     if s2.2.2.2.2.1=0 then
      .next (IntKind.i64.wrap (s2.1 - (if IntKind.i64.wrap (x4 - x0)<s2.1 then IntKind.i64.wrap (x4 - x0) else s2.1)),IntKind.i64.wrap (s2.2.1+(IntKind.i64.wrap ((if IntKind.i64.wrap (x4 - x0)<s2.1 then IntKind.i64.wrap (x4 - x0) else s2.1)*x8))),s2.2.2.1,s2.2.2.2.1,0,s2.2.2.2.2.2.1,3)
      else if s2.2.2.2.2.1=1 then
       .next (IntKind.i64.wrap (s2.1 - (if IntKind.i64.wrap (x5 - x1)<s2.1 then IntKind.i64.wrap (x5 - x1) else s2.1)),IntKind.i64.wrap (s2.2.1+(IntKind.i64.wrap ((if IntKind.i64.wrap (x5 - x1)<s2.1 then IntKind.i64.wrap (x5 - x1) else s2.1)*x9))),s2.2.2.1,s2.2.2.2.1,1,s2.2.2.2.2.2.1,3)
       else if s2.2.2.2.2.1=2 then
        .next (IntKind.i64.wrap (s2.1 - (if IntKind.i64.wrap (x6 - x2)<s2.1 then IntKind.i64.wrap (x6 - x2) else s2.1)),IntKind.i64.wrap (s2.2.1+(IntKind.i64.wrap ((if IntKind.i64.wrap (x6 - x2)<s2.1 then IntKind.i64.wrap (x6 - x2) else s2.1)*x10))),s2.2.2.1,s2.2.2.2.1,2,s2.2.2.2.2.2.1,3)
        else if s2.2.2.2.2.1=3 then
         .next (IntKind.i64.wrap (s2.1 - (if IntKind.i64.wrap (x7 - x3)<s2.1 then IntKind.i64.wrap (x7 - x3) else s2.1)),IntKind.i64.wrap (s2.2.1+(IntKind.i64.wrap ((if IntKind.i64.wrap (x7 - x3)<s2.1 then IntKind.i64.wrap (x7 - x3) else s2.1)*x11))),s2.2.2.1,s2.2.2.2.1,3,s2.2.2.2.2.2.1,3)
         else .out none
     else if s2.2.2.2.2.2.2=3 then
      if s2.2.2.2.2.2.1=0 then
       .next (IntKind.i64.wrap (s2.1 - (if IntKind.i64.wrap (x4 - x0)<s2.1 then IntKind.i64.wrap (x4 - x0) else s2.1)),IntKind.i64.wrap (s2.2.1+(IntKind.i64.wrap ((if IntKind.i64.wrap (x4 - x0)<s2.1 then IntKind.i64.wrap (x4 - x0) else s2.1)*x8))),s2.2.2.1,s2.2.2.2.1,s2.2.2.2.2.1,0,4)
       else if s2.2.2.2.2.2.1=1 then
        .next (IntKind.i64.wrap (s2.1 - (if IntKind.i64.wrap (x5 - x1)<s2.1 then IntKind.i64.wrap (x5 - x1) else s2.1)),IntKind.i64.wrap (s2.2.1+(IntKind.i64.wrap ((if IntKind.i64.wrap (x5 - x1)<s2.1 then IntKind.i64.wrap (x5 - x1) else s2.1)*x9))),s2.2.2.1,s2.2.2.2.1,s2.2.2.2.2.1,1,4)
        else if s2.2.2.2.2.2.1=2 then
         .next (IntKind.i64.wrap (s2.1 - (if IntKind.i64.wrap (x6 - x2)<s2.1 then IntKind.i64.wrap (x6 - x2) else s2.1)),IntKind.i64.wrap (s2.2.1+(IntKind.i64.wrap ((if IntKind.i64.wrap (x6 - x2)<s2.1 then IntKind.i64.wrap (x6 - x2) else s2.1)*x10))),s2.2.2.1,s2.2.2.2.1,s2.2.2.2.2.1,2,4)
         else if s2.2.2.2.2.2.1=3 then
          .next (IntKind.i64.wrap (s2.1 - (if IntKind.i64.wrap (x7 - x3)<s2.1 then IntKind.i64.wrap (x7 - x3) else s2.1)),IntKind.i64.wrap (s2.2.1+(IntKind.i64.wrap ((if IntKind.i64.wrap (x7 - x3)<s2.1 then IntKind.i64.wrap (x7 - x3) else s2.1)*x11))),s2.2.2.1,s2.2.2.2.1,s2.2.2.2.2.1,3,4)
          else .out none
      else .out none
  else .out (some (IntKind.i64.wrap (s2.2.1.tdiv 1000000)))
def Qv (x0 x4 x1 x5 x2 x6 x3 x7 x8 x9 x10 x11 x12 dP x14 x15:Int):Bd (Int×Int×Int) Int:=fun s1=>
 if (decide (s1.2.2<4))=true then
  if s1.2.2=0 then
   .next (IntKind.i64.wrap (s1.1 - x0),IntKind.i64.wrap (s1.2.1+(IntKind.i64.wrap (x0*x8))),1)
   else if s1.2.2=1 then
    .next (IntKind.i64.wrap (s1.1 - x1),IntKind.i64.wrap (s1.2.1+(IntKind.i64.wrap (x1*x9))),2)
    else if s1.2.2=2 then
     .next (IntKind.i64.wrap (s1.1 - x2),IntKind.i64.wrap (s1.2.1+(IntKind.i64.wrap (x2*x10))),3)
     else if s1.2.2=3 then
      .next (IntKind.i64.wrap (s1.1 - x3),IntKind.i64.wrap (s1.2.1+(IntKind.i64.wrap (x3*x11))),4)
      else .out none
  else .out (aS (Qu x0 x4 x1 x5 x2 x6 x3 x7 x8 x9 x10 x11) 1000000000 (s1.1,s1.2.1,x12,dP,x14,x15,0))
def ady (x0 x4 x1 x5 x2 x6 x3 x7 x8 x9 x10 x11 x12 dP x14 x15:Int):Option (Int):=
 aS (Qv x0 x4 x1 x5 x2 x6 x3 x7 x8 x9 x10 x11 x12 dP x14 x15) 1000000000 (1000000,0,0)
@[go_sem] def aus:=aqM lF false ady
theorem f178:aF Tryz.prog 178 aus.sp:=by
 refine vm .nil Tryz.func178 Tryz.ntmps178 fun ⟨x0,x4,x1,x5,x2,x6,x3,x7,x8,x9,x10,x11,x12,dP,x14,x15⟩ r hr stop S=> ?_
 rw [akE,ady] at hr
 refine S.gx [4,10,11] ?_
 refine gr ?_
 refine S.sees [3,4,5,7,8,14,15] [(3,3),(4,4),(5,5)] [] ?_ (Stop.iter S (fun s1=>⟨[(3,.c (.ref 3 0)),(4,.c (.ref 4 0)),(5,.c (.ref 5 0)),(7,.c (.d (.int .i64 s1.1))),(8,.c (.d (.int .i64 s1.2.1))),(14,.agg [.d (.int .i64 x0),.d (.int .i64 x4),.d (.int .i64 x1),.d (.int .i64 x5),.d (.int .i64 x2),.d (.int .i64 x6),.d (.int .i64 x3),.d (.int .i64 x7)]),(15,.c (.d (.int .i64 s1.2.2)))],[(3,[.d (.int .i64 x0),.d (.int .i64 x4),.d (.int .i64 x1),.d (.int .i64 x5),.d (.int .i64 x2),.d (.int .i64 x6),.d (.int .i64 x3),.d (.int .i64 x7)]),(4,[.d (.int .i64 x8),.d (.int .i64 x9),.d (.int .i64 x10),.d (.int .i64 x11)]),(5,[.d (.int .i64 x12),.d (.int .i64 dP),.d (.int .i64 x14),.d (.int .i64 x15)])],[]⟩) (Qv x0 x4 x1 x5 x2 x6 x3 x7 x8 x9 x10 x11 x12 dP x14 x15) (fun q=>q=r) hr rfl ?_)
 ·exact lf
 ·intro s1 hr
  unfold Qv at hr
  refine S.gx [4,10,11] ?_
  refine gr ?_
  refine dN hr (fun hc hr=> ?_) fun hc hr=> ?_
  ·refine gr ?_
   by_cases hs4:s1.2.2=0
   ·rw [if_pos hs4] at hr
    simp only [hs4]
    refine S.gx [10,11] ?_
    exact D1 (S.ss [3,4,5,7,8,14,15] [(3,3),(4,4),(5,5)] []) hr
   ·rw [if_neg hs4] at hr
    by_cases hs3:s1.2.2=1
    ·rw [if_pos hs3] at hr
     simp only [hs3]
     refine S.gx [10,11] ?_
     exact D1 (S.ss [3,4,5,7,8,14,15] [(3,3),(4,4),(5,5)] []) hr
    ·rw [if_neg hs3] at hr
     by_cases hs2:s1.2.2=2
     ·rw [if_pos hs2] at hr
      simp only [hs2]
      refine S.gx [10,11] ?_
      exact D1 (S.ss [3,4,5,7,8,14,15] [(3,3),(4,4),(5,5)] []) hr
     ·rw [if_neg hs2] at hr
      by_cases hs1:s1.2.2=3
      ·rw [if_pos hs1] at hr
       simp only [hs1]
       refine S.gx [10,11] ?_
       exact D1 (S.ss [3,4,5,7,8,14,15] [(3,3),(4,4),(5,5)] []) hr
      ·rw [if_neg hs1] at hr
       first | cases hr | exact hr.elim
  ·refine gr ?_
   have hr:=bK hr
   refine gr ?_
   refine S.sees [3,4,7,8,32,33] [(3,3),(4,4)] [] ?_ (Stop.iter S (fun s2=>⟨[(3,.c (.ref 3 0)),(4,.c (.ref 4 0)),(7,.c (.d (.int .i64 s2.1))),(8,.c (.d (.int .i64 s2.2.1))),(32,.agg [.d (.int .i64 s2.2.2.1),.d (.int .i64 s2.2.2.2.1),.d (.int .i64 s2.2.2.2.2.1),.d (.int .i64 s2.2.2.2.2.2.1)]),(33,.c (.d (.int .i64 s2.2.2.2.2.2.2)))],[(3,[.d (.int .i64 x0),.d (.int .i64 x4),.d (.int .i64 x1),.d (.int .i64 x5),.d (.int .i64 x2),.d (.int .i64 x6),.d (.int .i64 x3),.d (.int .i64 x7)]),(4,[.d (.int .i64 x8),.d (.int .i64 x9),.d (.int .i64 x10),.d (.int .i64 x11)])],[]⟩) (Qu x0 x4 x1 x5 x2 x6 x3 x7 x8 x9 x10 x11) (fun q=>q=r) hr rfl ?_)
   ·exact lf
   ·intro s2 hr
    unfold Qu at hr
    refine S.gx [4,10,11] ?_
    refine gr ?_
    refine dN hr (fun hc hr=> ?_) fun hc hr=>D0 hr
    refine gr ?_
    by_cases aiG:s2.2.2.2.2.2.2=0
    ·rw [if_pos aiG] at hr
     simp only [aiG]
     refine S.gx [4,11] ?_
     refine gr ?_
     refine gr ?_
     by_cases aiC:s2.2.2.1=0
     ·rw [if_pos aiC] at hr
      simp only [aiC]
      refine S.gx [4,10] ?_
      exact D1 (S.ss [3,4,7,8,32,33] [(3,3),(4,4)] []) hr
     ·rw [if_neg aiC] at hr
      by_cases aiD:s2.2.2.1=1
      ·rw [if_pos aiD] at hr
       simp only [aiD]
       refine S.gx [4,10] ?_
       exact D1 (S.ss [3,4,7,8,32,33] [(3,3),(4,4)] []) hr
      ·rw [if_neg aiD] at hr
       by_cases aiE:s2.2.2.1=2
       ·rw [if_pos aiE] at hr
        simp only [aiE]
        refine S.gx [4,10] ?_
        exact D1 (S.ss [3,4,7,8,32,33] [(3,3),(4,4)] []) hr
       ·rw [if_neg aiE] at hr
        by_cases aiF:s2.2.2.1=3
        ·rw [if_pos aiF] at hr
         simp only [aiF]
         refine S.gx [4,10] ?_
         exact D1 (S.ss [3,4,7,8,32,33] [(3,3),(4,4)] []) hr
        ·rw [if_neg aiF] at hr
         first | cases hr | exact hr.elim
    ·rw [if_neg aiG] at hr
     by_cases aiL:s2.2.2.2.2.2.2=1
     ·rw [if_pos aiL] at hr
      simp only [aiL]
      refine S.gx [4,11] ?_
      refine gr ?_
      refine gr ?_
      by_cases aiH:s2.2.2.2.1=0
      ·rw [if_pos aiH] at hr
       simp only [aiH]
       refine S.gx [4,10] ?_
       exact D1 (S.ss [3,4,7,8,32,33] [(3,3),(4,4)] []) hr
      ·rw [if_neg aiH] at hr
       by_cases aiI:s2.2.2.2.1=1
       ·rw [if_pos aiI] at hr
        simp only [aiI]
        refine S.gx [4,10] ?_
        exact D1 (S.ss [3,4,7,8,32,33] [(3,3),(4,4)] []) hr
       ·rw [if_neg aiI] at hr
        by_cases aiJ:s2.2.2.2.1=2
        ·rw [if_pos aiJ] at hr
         simp only [aiJ]
         refine S.gx [4,10] ?_
         exact D1 (S.ss [3,4,7,8,32,33] [(3,3),(4,4)] []) hr
        ·rw [if_neg aiJ] at hr
         by_cases aiK:s2.2.2.2.1=3
         ·rw [if_pos aiK] at hr
          simp only [aiK]
          refine S.gx [4,10] ?_
          exact D1 (S.ss [3,4,7,8,32,33] [(3,3),(4,4)] []) hr
         ·rw [if_neg aiK] at hr
          first | cases hr | exact hr.elim
     ·rw [if_neg aiL] at hr
      by_cases hs10:s2.2.2.2.2.2.2=2
      ·rw [if_pos hs10] at hr
       simp only [hs10]
       refine S.gx [4,11] ?_
       refine gr ?_
       refine gr ?_
       by_cases aiM:s2.2.2.2.2.1=0
       ·rw [if_pos aiM] at hr
        simp only [aiM]
        refine S.gx [4,10] ?_
        exact D1 (S.ss [3,4,7,8,32,33] [(3,3),(4,4)] []) hr
       ·rw [if_neg aiM] at hr
        by_cases aiN:s2.2.2.2.2.1=1
        ·rw [if_pos aiN] at hr
         simp only [aiN]
         refine S.gx [4,10] ?_
         exact D1 (S.ss [3,4,7,8,32,33] [(3,3),(4,4)] []) hr
        ·rw [if_neg aiN] at hr
         by_cases O7:s2.2.2.2.2.1=2
         ·rw [if_pos O7] at hr
          simp only [O7]
          refine S.gx [4,10] ?_
          exact D1 (S.ss [3,4,7,8,32,33] [(3,3),(4,4)] []) hr
         ·rw [if_neg O7] at hr
          by_cases hs11:s2.2.2.2.2.1=3
          ·rw [if_pos hs11] at hr
           simp only [hs11]
           refine S.gx [4,10] ?_
           exact D1 (S.ss [3,4,7,8,32,33] [(3,3),(4,4)] []) hr
          ·rw [if_neg hs11] at hr
           first | cases hr | exact hr.elim
      ·rw [if_neg hs10] at hr
       by_cases hs5:s2.2.2.2.2.2.2=3
       ·rw [if_pos hs5] at hr
        simp only [hs5]
        refine S.gx [4,11] ?_
        refine gr ?_
        refine gr ?_
        by_cases hs9:s2.2.2.2.2.2.1=0
        ·rw [if_pos hs9] at hr
         simp only [hs9]
         refine S.gx [4,10] ?_
         exact D1 (S.ss [3,4,7,8,32,33] [(3,3),(4,4)] []) hr
        ·rw [if_neg hs9] at hr
         by_cases hs8:s2.2.2.2.2.2.1=1
         ·rw [if_pos hs8] at hr
          simp only [hs8]
          refine S.gx [4,10] ?_
          exact D1 (S.ss [3,4,7,8,32,33] [(3,3),(4,4)] []) hr
         ·rw [if_neg hs8] at hr
          by_cases hs7:s2.2.2.2.2.2.1=2
          ·rw [if_pos hs7] at hr
           simp only [hs7]
           refine S.gx [4,10] ?_
           exact D1 (S.ss [3,4,7,8,32,33] [(3,3),(4,4)] []) hr
          ·rw [if_neg hs7] at hr
           by_cases hs6:s2.2.2.2.2.2.1=3
           ·rw [if_pos hs6] at hr
            simp only [hs6]
            refine S.gx [4,10] ?_
            exact D1 (S.ss [3,4,7,8,32,33] [(3,3),(4,4)] []) hr
           ·rw [if_neg hs6] at hr
            first | cases hr | exact hr.elim
       ·rw [if_neg hs5] at hr
        first | cases hr | exact hr.elim
def ahe (x0:bg) (x1:aW) (x2:bf) (x3:au) (x4 x5 x6 x7 x10 x11 x12 dP x14 x15 x16 x17 x18 x19 x20 x21 x8 x9:Int):Option (Int×Int):=
 (adz x10 x11 x12 dP x14 x15 x16 x17 x18 x19 x20 x21 x8 x9).bind fun v1=>
  (adx x0 x1 x2 x3 x4 x5 x6 x7 x9).bind fun v2=>
   (ady v1.1 v1.2.1 v1.2.2.1 v1.2.2.2.1 v1.2.2.2.2.1 v1.2.2.2.2.2.1 v1.2.2.2.2.2.2.1 v1.2.2.2.2.2.2.2 v2.1 v2.2.1 v2.2.2.1 v2.2.2.2 0 1 2 3).bind fun v3=>
    (adx x0 x1 x2 x3 x4 x5 x6 x7 x8).bind fun v4=>
     (ady v1.1 v1.2.1 v1.2.2.1 v1.2.2.2.1 v1.2.2.2.2.1 v1.2.2.2.2.2.1 v1.2.2.2.2.2.2.1 v1.2.2.2.2.2.2.2 v4.1 v4.2.1 v4.2.2.1 v4.2.2.2 3 2 1 0).bind fun v5=>
      some (v3,v5)
@[go_sem] def auN:=aqL qu7 false ahe
@[go_sem] def amU (k:Nat):=lk [(176,ajq.sp),(178,aus.sp),(179,aur.sp)] k
theorem f140:aF Tryz.prog 140 auN.sp:=by
 refine vm (tb:=amU) (.cons f176 (.cons f178 (.cons f179 .nil))) Tryz.func140 Tryz.ntmps140 fun ⟨x0,x1,x2,x3,x4,x5,x6,x7,x10,x11,x12,dP,x14,x15,x16,x17,x18,x19,x20,x21,x8,x9⟩ r hr stop S=> ?_
 rw [akB,ahe] at hr
 refine S.gx [] ?_
 exact D0 hr
def abq (x0:bg) (x1:aW) (x2:bf) (x3:au) (x4 x5 x6 x7 x8 x9 x10 x11 x12 dP x14 x15 x16 x17 x18 x19 x20 x21:Int) (a2:aj):Bd ((List (Int×Int))×Int) (au×Int):=fun s2=>
 if (decide (s2.2<(a2.length:Int)))=true then
  if 0≤s2.2∧s2.2<(a2.length:Int) then
   aP (ahd x0 x1 x2 x3 x4 x5 x6 x7 x8 x9 x10 x11 x12 dP x14 x15 x16 x17 x18 x19 x20 x21 (a2.getD s2.2.toNat default)) fun v8=>
    aP (ahe x0 x1 x2 x3 x4 x5 x6 x7 v8.1 v8.2.1 v8.2.2.1 v8.2.2.2.1 v8.2.2.2.2.1 v8.2.2.2.2.2.1 v8.2.2.2.2.2.2.1 v8.2.2.2.2.2.2.2.1 v8.2.2.2.2.2.2.2.2.1 v8.2.2.2.2.2.2.2.2.2.1 v8.2.2.2.2.2.2.2.2.2.2.1 v8.2.2.2.2.2.2.2.2.2.2.2.1 v8.2.2.2.2.2.2.2.2.2.2.2.2.1 v8.2.2.2.2.2.2.2.2.2.2.2.2.2) fun v9=>
     if (s2.1.length+1)*16≤140737488355328∧s2.1.length+1≤9223372036854775807 then
      .next (s2.1++[(v9.1,v9.2)],IntKind.i64.wrap (s2.2+1))
      else .out none
   else .out none
  else .out (some (s2.1,0))
def abr (x0:bg) (x1:aW) (x2:bf) (x3:au) (x4 x5 x6 x7 x8 x9 x10 x11 x12 dP x14 x15 x16 x17 x18 x19 x20 x21:Int) (a2:aj):Bd (Int×Int) (au×Int):=fun s1=>
 if (decide (s1.2<(a2.length:Int)))=true then
  if 0≤s1.2∧s1.2<(a2.length:Int) then
   aP (ahf (a2.getD s1.2.toNat default)) fun v5=>
    aP (rG [s1.1,v5]) fun v6=>
     .next (v6,IntKind.i64.wrap (s1.2+1))
   else .out none
  else .out (if (s1.1 != 0)=true then
   some ([],s1.1)
   else aS (abq x0 x1 x2 x3 x4 x5 x6 x7 x8 x9 x10 x11 x12 dP x14 x15 x16 x17 x18 x19 x20 x21 a2) 1000000000 ([],0))
def r98 (x0:bg) (x1:aW) (x2:bf) (x3:au) (x4 x5 x6 x7 x8 x9 x10 x11 x12 dP x14 x15 x16 x17 x18 x19 x20 x21:Int) (a2:aj):Option (au×Int):=
 (ahh x0 x1 x2 x3 x4 x5 x6 x7).bind fun v1=>
  (ahg x8 x9 x10 x11 x12 dP x14 x15 x16 x17 x18 x19 x20 x21).bind fun v2=>
   (iH (decide ((a2.length:Int)≤12)) 8).bind fun v3=>
    (rG [v1,v2,v3]).bind fun v4=>
     aS (abr x0 x1 x2 x3 x4 x5 x6 x7 x8 x9 x10 x11 x12 dP x14 x15 x16 x17 x18 x19 x20 x21 a2) 1000000000 (v4,0)
@[go_sem] def T98:=aqK adI false r98
@[go_sem] def ax3 (k:Nat):=lk [(135,XM.sp),(136,auQ.sp),(137,auP.sp),(138,Ns.sp),(139,auO.sp),(140,auN.sp),(141,auM.sp)] k
theorem f98:aF Tryz.prog 98 T98.sp:=by
 refine vm (tb:=ax3) (.cons f135 (.cons f136 (.cons f137 (.cons f138 (.cons f139 (.cons f140 (.cons f141 .nil))))))) Tryz.func98 Tryz.ntmps98 fun ⟨x0,x1,x2,x3,x4,x5,x6,x7,x8,x9,x10,x11,x12,dP,x14,x15,x16,x17,x18,x19,x20,x21,a2⟩ r hr stop S=> ?_
 rw [acd,r98] at hr
 refine S.gx [] ?_
 obtain ⟨v1,hv1,hr⟩:=aA hr
 obtain ⟨v2,hv2,hr⟩:=aA hr
 obtain ⟨v3,hv3,hr⟩:=aA hr
 obtain ⟨v4,hv4,hr⟩:=aA hr
 refine gb hv1 ?_
 refine gb hv2 ?_
 refine gb hv3 ?_
 refine gb hv4 ?_
 refine S.sees [2,3,4,8,24,25,26] [(3,3),(4,4)] [] ?_ (Stop.iter S (fun s1=>⟨[(2,.c (.d (ah 1 aN a2))),(3,.c (.ref 3 0)),(4,.c (.ref 4 0)),(8,.c (.d (.int .i64 s1.1))),(24,.c (.d (ah 1 aN a2))),(25,.c (.d (.int .i64 (a2.length:Int)))),(26,.c (.d (.int .i64 s1.2)))],[(3,[.d (ah 4 cZ x0),.d (ah 5 bU x1),.d (ah 3 dh x2),.d (ah 2 aO x3),.d (.int .i64 x4),.d (.int .i64 x5),.d (.int .i64 x6),.d (.int .i64 x7)]),(4,[.d (.int .i64 x8),.d (.int .i64 x9),.d (.int .i64 x10),.d (.int .i64 x11),.d (.int .i64 x12),.d (.int .i64 dP),.d (.int .i64 x14),.d (.int .i64 x15),.d (.int .i64 x16),.d (.int .i64 x17),.d (.int .i64 x18),.d (.int .i64 x19),.d (.int .i64 x20),.d (.int .i64 x21)])],[]⟩) (abr x0 x1 x2 x3 x4 x5 x6 x7 x8 x9 x10 x11 x12 dP x14 x15 x16 x17 x18 x19 x20 x21 a2) (fun q=>q=r) hr rfl ?_)
 ·exact lf
 ·intro s1 hr
  unfold abr at hr
  refine S.gx [] ?_
  refine gr ?_
  refine dN hr (fun hc hr=>D1 (S.ss [2,3,4,8,24,25,26] [(3,3),(4,4)] []) hr) fun hc hr=> ?_
  refine gr ?_
  have hr:=bK hr
  refine gr ?_
  refine iW hr (fun hc hr=>D0 hr) fun hc hr=> ?_
  refine gr ?_
  refine S.yj 11 1001100 2 rfl rfl ?_
  refine S.sees [3,4,11,39,40,41] [(3,3),(4,4)] [(1001100,1001100)] ?_ (Stop.iter S (fun s2=>⟨[(3,.c (.ref 3 0)),(4,.c (.ref 4 0)),(11,.c (.own 1001100)),(39,.c (.d (ah 1 aN a2))),(40,.c (.d (.int .i64 (a2.length:Int)))),(41,.c (.d (.int .i64 s2.2)))],[(3,[.d (ah 4 cZ x0),.d (ah 5 bU x1),.d (ah 3 dh x2),.d (ah 2 aO x3),.d (.int .i64 x4),.d (.int .i64 x5),.d (.int .i64 x6),.d (.int .i64 x7)]),(4,[.d (.int .i64 x8),.d (.int .i64 x9),.d (.int .i64 x10),.d (.int .i64 x11),.d (.int .i64 x12),.d (.int .i64 dP),.d (.int .i64 x14),.d (.int .i64 x15),.d (.int .i64 x16),.d (.int .i64 x17),.d (.int .i64 x18),.d (.int .i64 x19),.d (.int .i64 x20),.d (.int .i64 x21)])],[(1001100,.owned (ah 2 aO s2.1))]⟩) (abq x0 x1 x2 x3 x4 x5 x6 x7 x8 x9 x10 x11 x12 dP x14 x15 x16 x17 x18 x19 x20 x21 a2) (fun q=>q=r) hr rfl ?_)
  ·exact lf
  ·intro s2 hr
   unfold abq at hr
   refine S.gx [] ?_
   exact D1 (S.ss [3,4,11,39,40,41] [(3,3),(4,4)] [(55,1001100)]) hr
def r66 (x0 x1:Int) (x2:au) (x3:aj) (x4 x5:aZ) (x6:au) (x7 x8 x17 x18:Int) (x19:au) (x20:aj) (x21 rJ:aZ) (x23:au) (x24 x25:Int) (x9:bg) (x10:aW) (x11:bf) (x12:au) (dP x14 x15 x16:Int) (EM:bf) (x27:Int) (a1:au):Option (au×aj×Int):=
 (r51 x0 x1 x2 x3 x4 x5 x6 x7 x8 a1).bind fun v1=>
  if (v1.2 != 0)=true then
   some ([],[],v1.2)
   else (r97 1000000 0 0 0 0 0 0).bind fun v2=>
    if (v2.2.2.2.2.2.2.2.2.2.2.2.2.2.2 != 0)=true then
     some ([],[],v2.2.2.2.2.2.2.2.2.2.2.2.2.2.2)
     else (r98 x9 x10 x11 x12 dP x14 x15 x16 v2.1 v2.2.1 v2.2.2.1 v2.2.2.2.1 v2.2.2.2.2.1 v2.2.2.2.2.2.1 v2.2.2.2.2.2.2.1 v2.2.2.2.2.2.2.2.1 v2.2.2.2.2.2.2.2.2.1 v2.2.2.2.2.2.2.2.2.2.1 v2.2.2.2.2.2.2.2.2.2.2.1 v2.2.2.2.2.2.2.2.2.2.2.2.1 v2.2.2.2.2.2.2.2.2.2.2.2.2.1 v2.2.2.2.2.2.2.2.2.2.2.2.2.2.1 v1.1).bind fun v3=>
      some (v3.1,v1.1,v3.2)
@[go_sem] def T66:=aqJ aoV true r66
@[go_sem] def ayk (k:Nat):=lk [(51,T51.sp),(97,T97.sp),(98,T98.sp)] k
theorem f66:aF Tryz.prog 66 T66.sp:=by
 refine vm (tb:=ayk) (.cons f51 (.cons f97 (.cons f98 .nil))) Tryz.func66 Tryz.ntmps66 fun ⟨x0,x1,x2,x3,x4,x5,x6,x7,x8,x17,x18,x19,x20,x21,rJ,x23,x24,x25,x9,x10,x11,x12,dP,x14,x15,x16,EM,x27,a1⟩ r hr stop S=> ?_
 rw [aky,r66] at hr
 refine S.gx [8] ?_
 obtain ⟨v1,hv1,hr⟩:=aA hr
 refine gb hv1 ?_
 refine iW hr (fun hc hr=>D0 hr) fun hc hr=> ?_
 obtain ⟨v2,hv2,hr⟩:=aA hr
 refine gb hv2 ?_
 refine iW hr (fun hc hr=>D0 hr) fun hc hr=> ?_
 obtain ⟨v3,hv3,hr⟩:=aA hr
 refine gb hv3 ?_
 refine S.prune [7,8,10] ?_
 refine S.gx [] ?_
 exact D0 hr
def r30 (x0 x1:Int) (x2:au) (x3:aj) (x4 x5:aZ) (x6:au) (x7 x8:Int) (x9:bg) (x10:aW) (x11:bf) (x12:au) (dP x14 x15 x16:Int) (x17:bf) (x18:Int) (a1:au):Option (au×Int):=
 (r64 x0 x1 x2 x3 x4 x5 x6 x7 x8 x9 x10 x11 x12 dP x14 x15 x16 x17 x18).bind fun v1=>
  if (v1.2.2.2.2.2.2.2.2.2.2.2.2.2.2.2.2.2.2.2.2.2.2.2.2.2.2.2.2 == 0)=true then
   (r65 v1.1 v1.2.1 v1.2.2.1 v1.2.2.2.1 v1.2.2.2.2.1 v1.2.2.2.2.2.1 v1.2.2.2.2.2.2.1 v1.2.2.2.2.2.2.2.1 v1.2.2.2.2.2.2.2.2.1 a1).bind fun v2=>
    if (v2 != 0)=true then
     some ([],v2)
     else (r66 v1.1 v1.2.1 v1.2.2.1 v1.2.2.2.1 v1.2.2.2.2.1 v1.2.2.2.2.2.1 v1.2.2.2.2.2.2.1 v1.2.2.2.2.2.2.2.1 v1.2.2.2.2.2.2.2.2.1 v1.2.2.2.2.2.2.2.2.2.1 v1.2.2.2.2.2.2.2.2.2.2.1 v1.2.2.2.2.2.2.2.2.2.2.2.1 v1.2.2.2.2.2.2.2.2.2.2.2.2.1 v1.2.2.2.2.2.2.2.2.2.2.2.2.2.1 v1.2.2.2.2.2.2.2.2.2.2.2.2.2.2.1 v1.2.2.2.2.2.2.2.2.2.2.2.2.2.2.2.1 v1.2.2.2.2.2.2.2.2.2.2.2.2.2.2.2.2.1 v1.2.2.2.2.2.2.2.2.2.2.2.2.2.2.2.2.2.1 v1.2.2.2.2.2.2.2.2.2.2.2.2.2.2.2.2.2.2.1 v1.2.2.2.2.2.2.2.2.2.2.2.2.2.2.2.2.2.2.2.1 v1.2.2.2.2.2.2.2.2.2.2.2.2.2.2.2.2.2.2.2.2.1 v1.2.2.2.2.2.2.2.2.2.2.2.2.2.2.2.2.2.2.2.2.2.1 v1.2.2.2.2.2.2.2.2.2.2.2.2.2.2.2.2.2.2.2.2.2.2.1 v1.2.2.2.2.2.2.2.2.2.2.2.2.2.2.2.2.2.2.2.2.2.2.2.1 v1.2.2.2.2.2.2.2.2.2.2.2.2.2.2.2.2.2.2.2.2.2.2.2.2.1 v1.2.2.2.2.2.2.2.2.2.2.2.2.2.2.2.2.2.2.2.2.2.2.2.2.2.1 v1.2.2.2.2.2.2.2.2.2.2.2.2.2.2.2.2.2.2.2.2.2.2.2.2.2.2.1 v1.2.2.2.2.2.2.2.2.2.2.2.2.2.2.2.2.2.2.2.2.2.2.2.2.2.2.2.1 a1).bind fun v3=>
      if (v3.2.2 != 0)=true then
       some ([],v3.2.2)
       else some (v3.1,0)
   else if (v1.2.2.2.2.2.2.2.2.2.2.2.2.2.2.2.2.2.2.2.2.2.2.2.2.2.2.2.2 != 0)=true then
    some ([],v1.2.2.2.2.2.2.2.2.2.2.2.2.2.2.2.2.2.2.2.2.2.2.2.2.2.2.2.2)
    else (r66 v1.1 v1.2.1 v1.2.2.1 v1.2.2.2.1 v1.2.2.2.2.1 v1.2.2.2.2.2.1 v1.2.2.2.2.2.2.1 v1.2.2.2.2.2.2.2.1 v1.2.2.2.2.2.2.2.2.1 v1.2.2.2.2.2.2.2.2.2.1 v1.2.2.2.2.2.2.2.2.2.2.1 v1.2.2.2.2.2.2.2.2.2.2.2.1 v1.2.2.2.2.2.2.2.2.2.2.2.2.1 v1.2.2.2.2.2.2.2.2.2.2.2.2.2.1 v1.2.2.2.2.2.2.2.2.2.2.2.2.2.2.1 v1.2.2.2.2.2.2.2.2.2.2.2.2.2.2.2.1 v1.2.2.2.2.2.2.2.2.2.2.2.2.2.2.2.2.1 v1.2.2.2.2.2.2.2.2.2.2.2.2.2.2.2.2.2.1 v1.2.2.2.2.2.2.2.2.2.2.2.2.2.2.2.2.2.2.1 v1.2.2.2.2.2.2.2.2.2.2.2.2.2.2.2.2.2.2.2.1 v1.2.2.2.2.2.2.2.2.2.2.2.2.2.2.2.2.2.2.2.2.1 v1.2.2.2.2.2.2.2.2.2.2.2.2.2.2.2.2.2.2.2.2.2.1 v1.2.2.2.2.2.2.2.2.2.2.2.2.2.2.2.2.2.2.2.2.2.2.1 v1.2.2.2.2.2.2.2.2.2.2.2.2.2.2.2.2.2.2.2.2.2.2.2.1 v1.2.2.2.2.2.2.2.2.2.2.2.2.2.2.2.2.2.2.2.2.2.2.2.2.1 v1.2.2.2.2.2.2.2.2.2.2.2.2.2.2.2.2.2.2.2.2.2.2.2.2.2.1 v1.2.2.2.2.2.2.2.2.2.2.2.2.2.2.2.2.2.2.2.2.2.2.2.2.2.2.1 v1.2.2.2.2.2.2.2.2.2.2.2.2.2.2.2.2.2.2.2.2.2.2.2.2.2.2.2.1 a1).bind fun v4=>
     if (v4.2.2 != 0)=true then
      some ([],v4.2.2)
      else some (v4.1,0)
@[go_sem] def T30:=aqI adI false r30
@[go_sem] def ayF (k:Nat):=lk [(64,T64.sp),(65,T65.sp),(66,T66.sp)] k
theorem f30:aF Tryz.prog 30 T30.sp:=by
 refine vm (tb:=ayF) (.cons f64 (.cons f65 (.cons f66 .nil))) Tryz.func30 Tryz.ntmps30 fun ⟨x0,x1,x2,x3,x4,x5,x6,x7,x8,x9,x10,x11,x12,dP,x14,x15,x16,x17,x18,a1⟩ r hr stop S=> ?_
 rw [agu,r30] at hr
 refine S.gx [8,9] ?_
 obtain ⟨v1,hv1,hr⟩:=aA hr
 refine gb hv1 ?_
 refine iW hr (fun hc hr=> ?_) fun hc hr=> ?_
 ·obtain ⟨v2,hv2,hr⟩:=aA hr
  refine gb hv2 ?_
  refine iW hr (fun hc hr=>D0 hr) fun hc hr=> ?_
  obtain ⟨v3,hv3,hr⟩:=aA hr
  refine gb hv3 ?_
  refine iW hr (fun hc hr=> ?_) fun hc hr=> ?_
  ·refine gr ?_
   refine S.prune [7] ?_
   refine S.gx [9] ?_
   exact D0 hr
  ·refine gr ?_
   refine S.prune [8] ?_
   refine S.gx [8] ?_
   exact D0 hr
 ·refine gr ?_
  refine iW hr (fun hc hr=>D0 hr) fun hc hr=> ?_
  obtain ⟨v4,hv4,hr⟩:=aA hr
  refine gb hv4 ?_
  refine iW hr (fun hc hr=> ?_) fun hc hr=> ?_
  ·refine gr ?_
   refine S.prune [7] ?_
   refine S.gx [9] ?_
   exact D0 hr
  ·refine gr ?_
   refine S.prune [8] ?_
   refine S.gx [8] ?_
   exact D0 hr
def abD (x0 x1:Int) (x2:au) (x3:aj) (x5 x4:aZ) (x6:au) (x7 x8:Int) (x9:bg) (a1:Int) (v1:aZ×Int):Bd (aZ×Int) (Int×Bool):=fun s1=>
 if (decide (s1.2<201))=true then
  if 0≤a1∧a1<(s1.1.length:Int) then
   if 0≤0∧0<(x9.length:Int) then
    aP (r78 x0 x1 x2 x3 x5 x4 x6 x7 x8 (s1.1.getD a1.toNat default) ((x9.getD 0 default).1)) fun v2=>
     if (decide (v2≥0))=true then
      .out (some (s1.2,true))
      else aP (r73 x0 x1 x2 x3 s1.1 v1.1 v1.2) fun v3=>
       if (v3.2 != 0)=true then
        .out (some (s1.2,true))
        else .next (v3.1,IntKind.i64.wrap (s1.2+1))
    else .out none
   else .out none
  else .out (some (0,false))
def r68 (x0 x1:Int) (x2:au) (x3:aj) (x5 x4:aZ) (x6:au) (x7 x8 x10 x11:Int) (x12:au) (dP:aj) (x14 x15:aZ) (x16:au) (x17 x18:Int) (x9:bg) (x19:aW) (x20:bf) (x21:au) (rJ x23 x24 x25:Int) (EM:bf) (x27 a1 a2:Int):Option (Int×Bool):=
 (VZ x0 x1 x2 x3 x5 x4 x6 x7 x8 a2 0 89).bind fun v1=>
  aS (abD x0 x1 x2 x3 x5 x4 x6 x7 x8 x9 a1 v1) 1000000000 (x4,0)
@[go_sem] def T68:=aqH qu6 false r68
@[go_sem] def ayj (k:Nat):=lk [(73,T73.sp),(74,T74.sp),(78,T78.sp)] k
theorem f68:aF Tryz.prog 68 T68.sp:=by
 refine vm (tb:=ayj) (.cons f73 (.cons f74 (.cons f78 .nil))) Tryz.func68 Tryz.ntmps68 fun ⟨x0,x1,x2,x3,x5,x4,x6,x7,x8,x10,x11,x12,dP,x14,x15,x16,x17,x18,x9,x19,x20,x21,rJ,x23,x24,x25,EM,x27,a1,a2⟩ r hr stop S=> ?_
 rw [akx,r68] at hr
 refine S.gx [10,11] ?_
 obtain ⟨v1,hv1,hr⟩:=aA hr
 refine gb hv1 ?_
 refine S.sees [1,3,8,9,23] [(3,3),(8,8)] [(17,17)] ?_ (Stop.iter S (fun s1=>⟨[(1,.c (.d (.int .i64 a1))),(3,.c (.ref 3 0)),(8,.c (.ref 8 0)),(9,.c (.d (ah 1 cO s1.1))),(23,.c (.d (.int .i64 s1.2)))],[(3,[.d (.int .i64 x0),.d (.int .i64 x1),.d (ah 2 aO x2),.d (ah 1 aN x3),.d (ah 1 cO x5),.d (ah 1 cO x4),.d (ah 2 aO x6),.d (.int .i64 x7),.d (.int .i64 x8),.d (.int .i64 x10),.d (.int .i64 x11),.d (ah 2 aO x12),.d (ah 1 aN dP),.d (ah 1 cO x14),.d (ah 1 cO x15),.d (ah 2 aO x16),.d (.int .i64 x17),.d (.int .i64 x18),.d (ah 4 cZ x9),.d (ah 5 bU x19),.d (ah 3 dh x20),.d (ah 2 aO x21),.d (.int .i64 rJ),.d (.int .i64 x23),.d (.int .i64 x24),.d (.int .i64 x25),.d (ah 3 dh EM),.d (.int .i64 x27)]),(8,[.own 17,.d (.int .i64 v1.2)])],[(17,.owned (ah 1 cO v1.1))]⟩) (abD x0 x1 x2 x3 x5 x4 x6 x7 x8 x9 a1 v1) (fun q=>q=r) hr rfl ?_)
 ·exact lf
 ·intro s1 hr
  unfold abD at hr
  refine S.gx [10,11] ?_
  refine gr ?_
  refine dN hr (fun hc hr=> ?_) fun hc hr=>D0 hr
  obtain ⟨hg4,hr⟩:=aC hr
  obtain ⟨hg5,hr⟩:=aC hr
  obtain ⟨v2,hv2,hr⟩:=aQ hr
  refine gb hv2 ?_
  refine dN hr (fun hc hr=>D0 hr) fun hc hr=> ?_
  obtain ⟨v3,hv3,hr⟩:=aQ hr
  refine gb hv3 ?_
  refine dN hr (fun hc hr=> ?_) fun hc hr=> ?_
  ·refine gr ?_
   refine S.prune [10] ?_
   refine S.gx [11] ?_
   exact D0 hr
  ·refine gr ?_
   refine S.prune [1,3,8,11,23] ?_
   refine S.gx [10] ?_
   refine gr ?_
   refine gr ?_
   refine S.share 49 rfl ?_
   exact D1 (S.ss [1,3,8,9,23] [(3,3),(8,8)] [(17,17)]) hr
def abG (x1:bg) (x2:Int) (x0:bf) (a1:Int) (v1:Int×Int×au×aj×aZ×aZ×au×Int×Int×Int×Int×au×aj×aZ×aZ×au×Int×Int×bg×aW×bf×au×Int×Int×Int×Int×bf×Int×Int):Bd (Int×Int) (Int×Int):=fun s1=>
 if (decide (s1.2<(x0.length:Int)))=true then
  if 0≤s1.2∧s1.2<(x0.length:Int) then
   if (decide (((x0.getD s1.2.toNat default).2.1)≤x2))=true then
    .next (s1.1,IntKind.i64.wrap (s1.2+1))
    else if ((x1.length:Int) == 0)=true then
     .out (some (0,12))
     else aP (r68 v1.1 v1.2.1 v1.2.2.1 v1.2.2.2.1 v1.2.2.2.2.1 v1.2.2.2.2.2.1 v1.2.2.2.2.2.2.1 v1.2.2.2.2.2.2.2.1 v1.2.2.2.2.2.2.2.2.1 v1.2.2.2.2.2.2.2.2.2.1 v1.2.2.2.2.2.2.2.2.2.2.1 v1.2.2.2.2.2.2.2.2.2.2.2.1 v1.2.2.2.2.2.2.2.2.2.2.2.2.1 v1.2.2.2.2.2.2.2.2.2.2.2.2.2.1 v1.2.2.2.2.2.2.2.2.2.2.2.2.2.2.1 v1.2.2.2.2.2.2.2.2.2.2.2.2.2.2.2.1 v1.2.2.2.2.2.2.2.2.2.2.2.2.2.2.2.2.1 v1.2.2.2.2.2.2.2.2.2.2.2.2.2.2.2.2.2.1 v1.2.2.2.2.2.2.2.2.2.2.2.2.2.2.2.2.2.2.1 v1.2.2.2.2.2.2.2.2.2.2.2.2.2.2.2.2.2.2.2.1 v1.2.2.2.2.2.2.2.2.2.2.2.2.2.2.2.2.2.2.2.2.1 v1.2.2.2.2.2.2.2.2.2.2.2.2.2.2.2.2.2.2.2.2.2.1 v1.2.2.2.2.2.2.2.2.2.2.2.2.2.2.2.2.2.2.2.2.2.2.1 v1.2.2.2.2.2.2.2.2.2.2.2.2.2.2.2.2.2.2.2.2.2.2.2.1 v1.2.2.2.2.2.2.2.2.2.2.2.2.2.2.2.2.2.2.2.2.2.2.2.2.1 v1.2.2.2.2.2.2.2.2.2.2.2.2.2.2.2.2.2.2.2.2.2.2.2.2.2.1 v1.2.2.2.2.2.2.2.2.2.2.2.2.2.2.2.2.2.2.2.2.2.2.2.2.2.2.1 v1.2.2.2.2.2.2.2.2.2.2.2.2.2.2.2.2.2.2.2.2.2.2.2.2.2.2.2.1 ((x0.getD s1.2.toNat default).1) a1) fun v5=>
      if (!v5.2)=true then
       .out (some (0,12))
       else .next ((if s1.1<v5.1 then v5.1 else s1.1),IntKind.i64.wrap (s1.2+1))
   else .out none
  else .out (some (s1.1,0))
def r32 (x3 x4:Int) (x5:au) (x6:aj) (x7 x8:aZ) (x9:au) (x10 x11:Int) (x1:bg) (x12:aW) (dP:bf) (x14:au) (x2 x15 x16 x17:Int) (x0:bf) (x18 a1:Int):Option (Int×Int):=
 (r64 x3 x4 x5 x6 x7 x8 x9 x10 x11 x1 x12 dP x14 x2 x15 x16 x17 x0 x18).bind fun v1=>
  (Ea a1 1 10000).bind fun v2=>
   (lG v2 2).bind fun v3=>
    (wR [v1.2.2.2.2.2.2.2.2.2.2.2.2.2.2.2.2.2.2.2.2.2.2.2.2.2.2.2.2,v3]).bind fun v4=>
     if (v4 != 0)=true then
      some (0,v4)
      else aS (abG x1 x2 x0 a1 v1) 1000000000 (0,0)
@[go_sem] def T32:=aqG JB false r32
@[go_sem] def ayD (k:Nat):=lk [(37,T37.sp),(38,T38.sp),(39,T39.sp),(64,T64.sp),(68,T68.sp)] k
theorem f32:aF Tryz.prog 32 T32.sp:=by
 refine vm (tb:=ayD) (.cons f37 (.cons f38 (.cons f39 (.cons f64 (.cons f68 .nil))))) Tryz.func32 Tryz.ntmps32 fun ⟨x3,x4,x5,x6,x7,x8,x9,x10,x11,x1,x12,dP,x14,x2,x15,x16,x17,x0,x18,a1⟩ r hr stop S=> ?_
 rw [agu,r32] at hr
 refine S.gx [14,16] ?_
 obtain ⟨v1,hv1,hr⟩:=aA hr
 obtain ⟨v2,hv2,hr⟩:=aA hr
 obtain ⟨v3,hv3,hr⟩:=aA hr
 obtain ⟨v4,hv4,hr⟩:=aA hr
 refine gb hv1 ?_
 refine gb hv2 ?_
 refine gb hv3 ?_
 refine gb hv4 ?_
 refine iW hr (fun hc hr=>D0 hr) fun hc hr=> ?_
 refine gr ?_
 refine S.sees [1,2,6,8,28,29,30] [(2,2),(6,6)] [] ?_ (Stop.iter S (fun s1=>⟨[(1,.c (.d (.int .i64 a1))),(2,.c (.ref 2 0)),(6,.c (.ref 6 0)),(8,.c (.d (.int .i64 s1.1))),(28,.c (.d (ah 3 dh x0))),(29,.c (.d (.int .i64 (x0.length:Int)))),(30,.c (.d (.int .i64 s1.2)))],[(2,[.d (.int .i64 x3),.d (.int .i64 x4),.d (ah 2 aO x5),.d (ah 1 aN x6),.d (ah 1 cO x7),.d (ah 1 cO x8),.d (ah 2 aO x9),.d (.int .i64 x10),.d (.int .i64 x11),.d (ah 4 cZ x1),.d (ah 5 bU x12),.d (ah 3 dh dP),.d (ah 2 aO x14),.d (.int .i64 x2),.d (.int .i64 x15),.d (.int .i64 x16),.d (.int .i64 x17),.d (ah 3 dh x0),.d (.int .i64 x18)]),(6,[.d (.int .i64 v1.1),.d (.int .i64 v1.2.1),.d (ah 2 aO v1.2.2.1),.d (ah 1 aN v1.2.2.2.1),.d (ah 1 cO v1.2.2.2.2.1),.d (ah 1 cO v1.2.2.2.2.2.1),.d (ah 2 aO v1.2.2.2.2.2.2.1),.d (.int .i64 v1.2.2.2.2.2.2.2.1),.d (.int .i64 v1.2.2.2.2.2.2.2.2.1),.d (.int .i64 v1.2.2.2.2.2.2.2.2.2.1),.d (.int .i64 v1.2.2.2.2.2.2.2.2.2.2.1),.d (ah 2 aO v1.2.2.2.2.2.2.2.2.2.2.2.1),.d (ah 1 aN v1.2.2.2.2.2.2.2.2.2.2.2.2.1),.d (ah 1 cO v1.2.2.2.2.2.2.2.2.2.2.2.2.2.1),.d (ah 1 cO v1.2.2.2.2.2.2.2.2.2.2.2.2.2.2.1),.d (ah 2 aO v1.2.2.2.2.2.2.2.2.2.2.2.2.2.2.2.1),.d (.int .i64 v1.2.2.2.2.2.2.2.2.2.2.2.2.2.2.2.2.1),.d (.int .i64 v1.2.2.2.2.2.2.2.2.2.2.2.2.2.2.2.2.2.1),.d (ah 4 cZ v1.2.2.2.2.2.2.2.2.2.2.2.2.2.2.2.2.2.2.1),.d (ah 5 bU v1.2.2.2.2.2.2.2.2.2.2.2.2.2.2.2.2.2.2.2.1),.d (ah 3 dh v1.2.2.2.2.2.2.2.2.2.2.2.2.2.2.2.2.2.2.2.2.1),.d (ah 2 aO v1.2.2.2.2.2.2.2.2.2.2.2.2.2.2.2.2.2.2.2.2.2.1),.d (.int .i64 v1.2.2.2.2.2.2.2.2.2.2.2.2.2.2.2.2.2.2.2.2.2.2.1),.d (.int .i64 v1.2.2.2.2.2.2.2.2.2.2.2.2.2.2.2.2.2.2.2.2.2.2.2.1),.d (.int .i64 v1.2.2.2.2.2.2.2.2.2.2.2.2.2.2.2.2.2.2.2.2.2.2.2.2.1),.d (.int .i64 v1.2.2.2.2.2.2.2.2.2.2.2.2.2.2.2.2.2.2.2.2.2.2.2.2.2.1),.d (ah 3 dh v1.2.2.2.2.2.2.2.2.2.2.2.2.2.2.2.2.2.2.2.2.2.2.2.2.2.2.1),.d (.int .i64 v1.2.2.2.2.2.2.2.2.2.2.2.2.2.2.2.2.2.2.2.2.2.2.2.2.2.2.2.1)])],[]⟩) (abG x1 x2 x0 a1 v1) (fun q=>q=r) hr rfl ?_)
 ·exact lf
 ·intro s1 hr
  unfold abG at hr
  refine S.gx [14,16] ?_
  refine gr ?_
  refine dN hr (fun hc hr=> ?_) fun hc hr=>D0 hr
  obtain ⟨hg6,hr⟩:=aC hr
  refine gr ?_
  refine dN hr (fun hc hr=> ?_) fun hc hr=> ?_
  ·refine gr ?_
   refine S.prune [1,2,6,8,28,29,30] ?_
   refine S.gx [14] ?_
   exact D1 (S.ss [1,2,6,8,28,29,30] [(2,2),(6,6)] []) hr
  ·refine gr ?_
   refine dN hr (fun hc hr=>D0 hr) fun hc hr=> ?_
   obtain ⟨v5,hv5,hr⟩:=aQ hr
   refine gb hv5 ?_
   refine dN hr (fun hc hr=> ?_) fun hc hr=> ?_
   ·refine gr ?_
    refine S.prune [] ?_
    refine S.gx [16] ?_
    exact D0 hr
   ·refine gr ?_
    refine S.prune [1,2,6,8,28,29,30] ?_
    refine S.gx [14] ?_
    exact D1 (S.ss [1,2,6,8,28,29,30] [(2,2),(6,6)] []) hr
def Kq (a0 a1:ByteArray):Option (Int):=
 tX a0 a1
@[go_sem] def auf:=YT lF false Kq
theorem f202:aF Tryz.prog 202 auf.sp:=⟨⟨Tryz.f202,Tryz.func202,by decide,rfl⟩,Ir (fun _=>rfl) (fun _=>rfl) (fun _=>rfl) rfl⟩
def ag0 (a0 a1:ByteArray):Option (Bool):=
 if (decide ((a0.size:Int)≥(a1.size:Int)))=true→0≤0∧0≤(a1.size:Int)∧(a1.size:Int)≤(a0.size:Int) then
  some ((decide ((a0.size:Int)≥(a1.size:Int))) && (decide ((a0.extract 0 a1.size)=a1)))
  else none
@[go_sem] def aud:=YT qj false ag0
theorem f204:aF Tryz.prog 204 aud.sp:=by
 refine vm .nil Tryz.func204 Tryz.ntmps204 fun ⟨a0,a1⟩ r hr stop S=> ?_
 rw [wo,ag0] at hr
 refine S.gx [] ?_
 obtain ⟨hg1,hr⟩:=aH hr
 repeat (first | refine gG hg1 ?_ | refine gA ?_ | refine gB ?_)
 exact D0 hr
def ag8 (a0 a1:ByteArray):Option (ByteArray×Bool):=
 (ag0 a0 a1).bind fun v1=>
  if (!v1)=true then
   some (a0,false)
   else if 0≤(a1.size:Int)∧(a1.size:Int)≤(a0.size:Int)∧(a0.size:Int)≤(a0.size:Int) then
    some (a0.extract a1.size a0.size,true)
    else none
@[go_sem] def auo:=YT ahm false ag8
@[go_sem] def amv (k:Nat):=lk [(204,aud.sp)] k
theorem f183:aF Tryz.prog 183 auo.sp:=by
 refine vm (tb:=amv) (.cons f204 .nil) Tryz.func183 Tryz.ntmps183 fun ⟨a0,a1⟩ r hr stop S=> ?_
 rw [wo,ag8] at hr
 refine S.gx [] ?_
 exact D0 hr
def H9 (a0 a1:ByteArray):Option (ByteArray×Bool):=
 (ag8 a0 a1).bind fun v1=>
  some (v1.1,v1.2)
@[go_sem] def auL:=YT ahm false H9
@[go_sem] def amS (k:Nat):=lk [(183,auo.sp)] k
theorem f144:aF Tryz.prog 144 auL.sp:=by
 refine vm (tb:=amS) (.cons f183 .nil) Tryz.func144 Tryz.ntmps144 fun ⟨a0,a1⟩ r hr stop S=> ?_
 rw [wo,H9] at hr
 refine S.gx [] ?_
 exact D0 hr
def anz (a0:ByteArray):Option (Int×Bool):=
 GI a0
@[go_sem] def aue:=ahs aoU false anz
theorem f203:aF Tryz.prog 203 aue.sp:=⟨⟨Tryz.f203,Tryz.func203,by decide,rfl⟩,Zl (fun _=>rfl) (fun _=>rfl) (fun _=>rfl) rfl⟩
def r71 (a0:Int):Option (ByteArray):=
 Ld a0
@[go_sem] def T71:=Kw adH false r71
theorem f71:aF Tryz.prog 71 T71.sp:=⟨⟨Tryz.f71,Tryz.func71,by decide,rfl⟩,Zk (fun _=>rfl) (fun _=>rfl) (fun _=>rfl) rfl⟩
def Ov (a0:ByteArray):Option (Int×Bool):=
 (anz a0).bind fun v1=>
  if ((!v1.2) && (decide (v1.1≥0)))=true→(r71 v1.1).isSome=true then
   some (v1.1,(((!v1.2) && (decide (v1.1≥0))) && (decide (((r71 v1.1).getD default)=a0))) && (decide ((a0.size:Int)≤5)))
   else none
@[go_sem] def aup:=ahs qu6 false Ov
@[go_sem] def amw (k:Nat):=lk [(71,T71.sp),(203,aue.sp)] k
theorem f182:aF Tryz.prog 182 aup.sp:=by
 refine vm (tb:=amw) (.cons f71 (.cons f203 .nil)) Tryz.func182 Tryz.ntmps182 fun a0 r hr stop S=> ?_
 rw [qU,Ov] at hr
 refine S.gx [] ?_
 obtain ⟨v1,hv1,hr⟩:=aA hr
 obtain ⟨hg2,hr⟩:=aH hr
 try simp only [hv1,oG,oI,true_and,and_assoc]
 repeat (first | refine gG hg2 ?_ | refine gA ?_ | refine gB ?_)
 exact D0 hr
end Go.Proofs.YtofkgmldcjagmaaGreatDoor

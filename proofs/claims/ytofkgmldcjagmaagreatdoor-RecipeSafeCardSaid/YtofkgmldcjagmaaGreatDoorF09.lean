/- Contracts of functions, written by wip/dec. -/
import Derived.Test.YtofkgmldcjagmaaGreatDoorF00
import Derived.Test.YtofkgmldcjagmaaGreatDoorF02
import Derived.Test.YtofkgmldcjagmaaGreatDoorF03
import Derived.Test.YtofkgmldcjagmaaGreatDoorF04
import Derived.Test.YtofkgmldcjagmaaGreatDoorF05
import Derived.Test.YtofkgmldcjagmaaGreatDoorF06
import Derived.Test.YtofkgmldcjagmaaGreatDoorF07
import Derived.Test.YtofkgmldcjagmaaGreatDoorF08
set_option linter.unusedVariables false
set_option linter.unusedSimpArgs false
set_option linter.constructorNameAsVariable false
set_option maxHeartbeats 4000000
set_option maxRecDepth 20000
namespace Go.Proofs.YtofkgmldcjagmaaGreatDoor
open Go.dG
section
variable {β:Type} [Inhabited β] (u:β→List RV) (al:Bool)
def aou (a0:bg) (a1:aW) (a2:bf) (a3:au) (a4 a5 a6 a7 a8 a9 a10 a11 a12 jP kN kM a16 a17 ni pF a20 a21:Int) (a22:au):List Arg:=[.agg [ah 4 cZ a0,ah 5 bU a1,ah 3 dn a2,ah 2 aO a3,.int .i64 a4,.int .i64 a5,.int .i64 a6,.int .i64 a7],.agg [.int .i64 a8,.int .i64 a9,.int .i64 a10,.int .i64 a11,.int .i64 a12,.int .i64 jP,.int .i64 kN,.int .i64 kM,.int .i64 a16,.int .i64 a17,.int .i64 ni,.int .i64 pF,.int .i64 a20,.int .i64 a21],.c (ah 2 aO a22)]
def ap':List Arg→bg×aW×bf×au×Int×Int×Int×Int×Int×Int×Int×Int×Int×Int×Int×Int×Int×Int×Int×Int×Int×Int×au
 | [.agg [c0,c1,c2,c3,c4,c5,c6,c7],.agg [c8,c9,c10,c11,c12,c13,c14,c15,c16,c17,c18,c19,c20,c21],.c Yd]=>(aG jF c0,aG gZ c1,aG jG c2,aG bW c3,aB c4,aB c5,aB c6,aB c7,aB c8,aB c9,aB c10,aB c11,aB c12,aB c13,aB c14,aB c15,aB c16,aB c17,aB c18,aB c19,aB c20,aB c21,aG bW Yd)
 | _=>default
def ark (r:bg→aW→bf→au→Int→Int→Int→Int→Int→Int→Int→Int→Int→Int→Int→Int→Int→Int→Int→Int→Int→Int→au→Option β):=mkT (u23 aou) ap' (u23 r) u al
attribute [go_sem] aou ap' ark
def aot (a0 a1 a2 a3 a4 a5 a6 a7 a8 a9 a10 a11 a12 jP kN kM:Int):List Arg:=[.agg [.int .i64 a0,.int .i64 a1,.int .i64 a2,.int .i64 a3,.int .i64 a4,.int .i64 a5,.int .i64 a6,.int .i64 a7],.agg [.int .i64 a8,.int .i64 a9,.int .i64 a10,.int .i64 a11],.agg [.int .i64 a12,.int .i64 jP,.int .i64 kN,.int .i64 kM]]
def ap9:List Arg→Int×Int×Int×Int×Int×Int×Int×Int×Int×Int×Int×Int×Int×Int×Int×Int
 | [.agg [c0,c1,c2,c3,c4,c5,c6,c7],.agg [c8,c9,c10,c11],.agg [c12,c13,c14,c15]]=>(aB c0,aB c1,aB c2,aB c3,aB c4,aB c5,aB c6,aB c7,aB c8,aB c9,aB c10,aB c11,aB c12,aB c13,aB c14,aB c15)
 | _=>default
def arj (r:Int→Int→Int→Int→Int→Int→Int→Int→Int→Int→Int→Int→Int→Int→Int→Int→Option β):=mkT (u16 aot) ap9 (u16 r) u al
attribute [go_sem] aot ap9 arj
def aos (a0:bg) (a1:aW) (a2:bf) (a3:au) (a4 a5 a6 a7 a8 a9 a10 a11 a12 jP kN kM a16 a17 ni pF a20 a21:Int):List Arg:=[.agg [ah 4 cZ a0,ah 5 bU a1,ah 3 dn a2,ah 2 aO a3,.int .i64 a4,.int .i64 a5,.int .i64 a6,.int .i64 a7],.agg [.int .i64 a8,.int .i64 a9,.int .i64 a10,.int .i64 a11,.int .i64 a12,.int .i64 jP,.int .i64 kN,.int .i64 kM,.int .i64 a16,.int .i64 a17,.int .i64 ni,.int .i64 pF,.int .i64 a20,.int .i64 a21]]
def ap8:List Arg→bg×aW×bf×au×Int×Int×Int×Int×Int×Int×Int×Int×Int×Int×Int×Int×Int×Int×Int×Int×Int×Int
 | [.agg [c0,c1,c2,c3,c4,c5,c6,c7],.agg [c8,c9,c10,c11,c12,c13,c14,c15,c16,c17,c18,c19,c20,c21]]=>(aG jF c0,aG gZ c1,aG jG c2,aG bW c3,aB c4,aB c5,aB c6,aB c7,aB c8,aB c9,aB c10,aB c11,aB c12,aB c13,aB c14,aB c15,aB c16,aB c17,aB c18,aB c19,aB c20,aB c21)
 | _=>default
def ari (r:bg→aW→bf→au→Int→Int→Int→Int→Int→Int→Int→Int→Int→Int→Int→Int→Int→Int→Int→Int→Int→Int→Option β):=mkT (u22 aos) ap8 (u22 r) u al
attribute [go_sem] aos ap8 ari
def aor (a0:bg) (a1:aW) (a2:bf) (a3:au) (a4 a5 a6 a7 a8 a9 a10 a11 a12 jP kN kM a16 a17 ni pF a20 a21:Int) (a22:aj):List Arg:=[.agg [ah 4 cZ a0,ah 5 bU a1,ah 3 dn a2,ah 2 aO a3,.int .i64 a4,.int .i64 a5,.int .i64 a6,.int .i64 a7],.agg [.int .i64 a8,.int .i64 a9,.int .i64 a10,.int .i64 a11,.int .i64 a12,.int .i64 jP,.int .i64 kN,.int .i64 kM,.int .i64 a16,.int .i64 a17,.int .i64 ni,.int .i64 pF,.int .i64 a20,.int .i64 a21],.c (ah 1 aN a22)]
def ap7:List Arg→bg×aW×bf×au×Int×Int×Int×Int×Int×Int×Int×Int×Int×Int×Int×Int×Int×Int×Int×Int×Int×Int×aj
 | [.agg [c0,c1,c2,c3,c4,c5,c6,c7],.agg [c8,c9,c10,c11,c12,c13,c14,c15,c16,c17,c18,c19,c20,c21],.c Yd]=>(aG jF c0,aG gZ c1,aG jG c2,aG bW c3,aB c4,aB c5,aB c6,aB c7,aB c8,aB c9,aB c10,aB c11,aB c12,aB c13,aB c14,aB c15,aB c16,aB c17,aB c18,aB c19,aB c20,aB c21,aG bP Yd)
 | _=>default
def arh (r:bg→aW→bf→au→Int→Int→Int→Int→Int→Int→Int→Int→Int→Int→Int→Int→Int→Int→Int→Int→Int→Int→aj→Option β):=mkT (u23 aor) ap7 (u23 r) u al
attribute [go_sem] aor ap7 arh
def aoq (a0 a1:Int) (a2:au) (a3:aj) (a4 a5:aZ) (a6:au) (a7 a8 a9 a10:Int) (a11:au) (a12:aj) (jP kN:aZ) (kM:au) (a16 a17:Int) (ni:bg) (pF:aW) (a20:bf) (a21:au) (a22 a23 a24 a25:Int) (a26:bf) (a27:Int) (a28:au):List Arg:=[.agg [.int .i64 a0,.int .i64 a1,ah 2 aO a2,ah 1 aN a3,ah 1 cO a4,ah 1 cO a5,ah 2 aO a6,.int .i64 a7,.int .i64 a8,.int .i64 a9,.int .i64 a10,ah 2 aO a11,ah 1 aN a12,ah 1 cO jP,ah 1 cO kN,ah 2 aO kM,.int .i64 a16,.int .i64 a17,ah 4 cZ ni,ah 5 bU pF,ah 3 dn a20,ah 2 aO a21,.int .i64 a22,.int .i64 a23,.int .i64 a24,.int .i64 a25,ah 3 dn a26,.int .i64 a27],.c (ah 2 aO a28)]
def ap6:List Arg→Int×Int×au×aj×aZ×aZ×au×Int×Int×Int×Int×au×aj×aZ×aZ×au×Int×Int×bg×aW×bf×au×Int×Int×Int×Int×bf×Int×au
 | [.agg [c0,c1,c2,c3,c4,c5,c6,c7,c8,c9,c10,c11,c12,c13,c14,c15,c16,c17,c18,c19,c20,c21,Yd,c23,c24,c25,c26,c27],.c c28]=>(aB c0,aB c1,aG bW c2,aG bP c3,aG jQ c4,aG jQ c5,aG bW c6,aB c7,aB c8,aB c9,aB c10,aG bW c11,aG bP c12,aG jQ c13,aG jQ c14,aG bW c15,aB c16,aB c17,aG jF c18,aG gZ c19,aG jG c20,aG bW c21,aB Yd,aB c23,aB c24,aB c25,aG jG c26,aB c27,aG bW c28)
 | _=>default
def arf (r:Int→Int→au→aj→aZ→aZ→au→Int→Int→Int→Int→au→aj→aZ→aZ→au→Int→Int→bg→aW→bf→au→Int→Int→Int→Int→bf→Int→au→Option β):=mkT (u29 aoq) ap6 (u29 r) u al
attribute [go_sem] aoq ap6 arf
def aop (a0 a1:Int) (a2:au) (a3:aj) (a4 a5:aZ) (a6:au) (a7 a8:Int) (a9:bg) (a10:aW) (a11:bf) (a12:au) (jP kN kM a16:Int) (a17:bf) (ni:Int) (pF:au):List Arg:=[.agg [.int .i64 a0,.int .i64 a1,ah 2 aO a2,ah 1 aN a3,ah 1 cO a4,ah 1 cO a5,ah 2 aO a6,.int .i64 a7,.int .i64 a8,ah 4 cZ a9,ah 5 bU a10,ah 3 dn a11,ah 2 aO a12,.int .i64 jP,.int .i64 kN,.int .i64 kM,.int .i64 a16,ah 3 dn a17,.int .i64 ni],.c (ah 2 aO pF)]
def ap5:List Arg→Int×Int×au×aj×aZ×aZ×au×Int×Int×bg×aW×bf×au×Int×Int×Int×Int×bf×Int×au
 | [.agg [c0,c1,c2,c3,c4,c5,c6,c7,c8,c9,c10,c11,c12,c13,c14,c15,c16,c17,c18],.c c19]=>(aB c0,aB c1,aG bW c2,aG bP c3,aG jQ c4,aG jQ c5,aG bW c6,aB c7,aB c8,aG jF c9,aG gZ c10,aG jG c11,aG bW c12,aB c13,aB c14,aB c15,aB c16,aG jG c17,aB c18,aG bW c19)
 | _=>default
def ard (r:Int→Int→au→aj→aZ→aZ→au→Int→Int→bg→aW→bf→au→Int→Int→Int→Int→bf→Int→au→Option β):=mkT (u20 aop) ap5 (u20 r) u al
attribute [go_sem] aop ap5 ard
def aoo (a0 a1:Int) (a2:au) (a3:aj) (a4 a5:aZ) (a6:au) (a7 a8 a9 a10:Int) (a11:au) (a12:aj) (jP kN:aZ) (kM:au) (a16 a17:Int) (ni:bg) (pF:aW) (a20:bf) (a21:au) (a22 a23 a24 a25:Int) (a26:bf) (a27 a28 a29:Int):List Arg:=[.agg [.int .i64 a0,.int .i64 a1,ah 2 aO a2,ah 1 aN a3,ah 1 cO a4,ah 1 cO a5,ah 2 aO a6,.int .i64 a7,.int .i64 a8,.int .i64 a9,.int .i64 a10,ah 2 aO a11,ah 1 aN a12,ah 1 cO jP,ah 1 cO kN,ah 2 aO kM,.int .i64 a16,.int .i64 a17,ah 4 cZ ni,ah 5 bU pF,ah 3 dn a20,ah 2 aO a21,.int .i64 a22,.int .i64 a23,.int .i64 a24,.int .i64 a25,ah 3 dn a26,.int .i64 a27],.c (.int .i64 a28),.c (.int .i64 a29)]
def ap4:List Arg→Int×Int×au×aj×aZ×aZ×au×Int×Int×Int×Int×au×aj×aZ×aZ×au×Int×Int×bg×aW×bf×au×Int×Int×Int×Int×bf×Int×Int×Int
 | [.agg [c0,c1,c2,c3,c4,c5,c6,c7,c8,c9,c10,c11,c12,c13,c14,c15,c16,c17,c18,c19,c20,c21,Yd,c23,c24,c25,c26,c27],.c c28,.c c29]=>(aB c0,aB c1,aG bW c2,aG bP c3,aG jQ c4,aG jQ c5,aG bW c6,aB c7,aB c8,aB c9,aB c10,aG bW c11,aG bP c12,aG jQ c13,aG jQ c14,aG bW c15,aB c16,aB c17,aG jF c18,aG gZ c19,aG jG c20,aG bW c21,aB Yd,aB c23,aB c24,aB c25,aG jG c26,aB c27,aB c28,aB c29)
 | _=>default
def arb (r:Int→Int→au→aj→aZ→aZ→au→Int→Int→Int→Int→au→aj→aZ→aZ→au→Int→Int→bg→aW→bf→au→Int→Int→Int→Int→bf→Int→Int→Int→Option β):=mkT (u30 aoo) ap4 (u30 r) u al
attribute [go_sem] aoo ap4 arb
def aon (a0 a1:Int) (a2:au) (a3:aj) (a4 a5:aZ) (a6:au) (a7 a8:Int) (a9:bg) (a10:aW) (a11:bf) (a12:au) (jP kN kM a16:Int) (a17:bf) (ni pF:Int):List Arg:=[.agg [.int .i64 a0,.int .i64 a1,ah 2 aO a2,ah 1 aN a3,ah 1 cO a4,ah 1 cO a5,ah 2 aO a6,.int .i64 a7,.int .i64 a8,ah 4 cZ a9,ah 5 bU a10,ah 3 dn a11,ah 2 aO a12,.int .i64 jP,.int .i64 kN,.int .i64 kM,.int .i64 a16,ah 3 dn a17,.int .i64 ni],.c (.int .i64 pF)]
def ap3:List Arg→Int×Int×au×aj×aZ×aZ×au×Int×Int×bg×aW×bf×au×Int×Int×Int×Int×bf×Int×Int
 | [.agg [c0,c1,c2,c3,c4,c5,c6,c7,c8,c9,c10,c11,c12,c13,c14,c15,c16,c17,c18],.c c19]=>(aB c0,aB c1,aG bW c2,aG bP c3,aG jQ c4,aG jQ c5,aG bW c6,aB c7,aB c8,aG jF c9,aG gZ c10,aG jG c11,aG bW c12,aB c13,aB c14,aB c15,aB c16,aG jG c17,aB c18,aB c19)
 | _=>default
def ara (r:Int→Int→au→aj→aZ→aZ→au→Int→Int→bg→aW→bf→au→Int→Int→Int→Int→bf→Int→Int→Option β):=mkT (u20 aon) ap3 (u20 r) u al
attribute [go_sem] aon ap3 ara
def aom (a0 a1:ByteArray):List Arg:=[.c (.str a0),.c (.str a1)]
def ap2:List Arg→ByteArray×ByteArray
 | [.c c0,.c c1]=>(abA c0,abA c1)
 | _=>default
def Zq (r:ByteArray→ByteArray→Option β):=mkT (u2 aom) ap2 (u2 r) u al
attribute [go_sem] aom ap2 Zq
def aol (a0:ByteArray):List Arg:=[.c (.str a0)]
def ap1:List Arg→ByteArray
 | [.c c0]=>abA c0
 | _=>default
def ah' (r:ByteArray→Option β):=mkT (u1 aol) ap1 (u1 r) u al
attribute [go_sem] aol ap1 ah'
def apv (v:Int×Int×Int×Int):List RV:=[.agg [.d (.int .i64 v.1),.d (.int .i64 v.2.1),.d (.int .i64 v.2.2.1),.d (.int .i64 v.2.2.2)]]
attribute [go_sem] apv
def apu (v:au×aj×Int):List RV:=[.c (.own (ah 2 aO v.1)),.c (.own (ah 1 aN v.2.1)),.c (.d (.int .i64 v.2.2))]
attribute [go_sem] apu
def ah5 (v:ByteArray×Bool):List RV:=[.c (.d (.str v.1)),.c (.d (.bool v.2))]
attribute [go_sem] ah5
def apt (v:Int×Bool):List RV:=[.c (.d (.int .i64 v.1)),.c (.d (.err v.2))]
attribute [go_sem] apt
end
def Rj (x0:bg) (x1:aW) (x2:bf) (x3:au) (x4 x5 x6 x7:Int) (a2:au):Bd (Int×Int×Int×Int×Int×Int×Int×Int×Int×Int×Int×Int×Int×Int×Int) (Int×Int×Int×Int×Int×Int×Int×Int×Int×Int×Int×Int×Int×Int):=fun s1=>
 if (decide (s1.1<(a2.length:Int)))=true then
  if 0≤s1.1∧s1.1<(a2.length:Int) then
   aP (ahR x0 x1 x2 x3 x4 x5 x6 x7 s1.2.1 s1.2.2.1 s1.2.2.2.1 s1.2.2.2.2.1 s1.2.2.2.2.2.1 s1.2.2.2.2.2.2.1 s1.2.2.2.2.2.2.2.1 s1.2.2.2.2.2.2.2.2.1 s1.2.2.2.2.2.2.2.2.2.1 s1.2.2.2.2.2.2.2.2.2.2.1 s1.2.2.2.2.2.2.2.2.2.2.2.1 s1.2.2.2.2.2.2.2.2.2.2.2.2.1 s1.2.2.2.2.2.2.2.2.2.2.2.2.2.1 s1.2.2.2.2.2.2.2.2.2.2.2.2.2.2 ((a2.getD s1.1.toNat default).1) ((a2.getD s1.1.toNat default).2)) fun v1=>
    .next (IntKind.i64.wrap (s1.1+1),v1.1,v1.2.1,v1.2.2.1,v1.2.2.2.1,v1.2.2.2.2.1,v1.2.2.2.2.2.1,v1.2.2.2.2.2.2.1,v1.2.2.2.2.2.2.2.1,v1.2.2.2.2.2.2.2.2.1,v1.2.2.2.2.2.2.2.2.2.1,v1.2.2.2.2.2.2.2.2.2.2.1,v1.2.2.2.2.2.2.2.2.2.2.2.1,v1.2.2.2.2.2.2.2.2.2.2.2.2.1,v1.2.2.2.2.2.2.2.2.2.2.2.2.2)
   else .out none
  else .out (some (s1.2.1,s1.2.2.1,s1.2.2.2.1,s1.2.2.2.2.1,s1.2.2.2.2.2.1,s1.2.2.2.2.2.2.1,s1.2.2.2.2.2.2.2.1,s1.2.2.2.2.2.2.2.2.1,s1.2.2.2.2.2.2.2.2.2.1,s1.2.2.2.2.2.2.2.2.2.2.1,s1.2.2.2.2.2.2.2.2.2.2.2.1,s1.2.2.2.2.2.2.2.2.2.2.2.2.1,s1.2.2.2.2.2.2.2.2.2.2.2.2.2.1,s1.2.2.2.2.2.2.2.2.2.2.2.2.2.2))
def ahW (x0:bg) (x1:aW) (x2:bf) (x3:au) (x4 x5 x6 x7 x8 x9 x10 x11 x12 dO x14 x15 x16 x17 x18 x19 x20 x21:Int) (a2:au):Option (Int×Int×Int×Int×Int×Int×Int×Int×Int×Int×Int×Int×Int×Int):=
 aS (Rj x0 x1 x2 x3 x4 x5 x6 x7 a2) 1000000000 (0,x8,x9,x10,x11,x12,dO,x14,x15,x16,x17,x18,x19,x20,x21)
@[go_sem] def avd:=ark IC false ahW
@[go_sem] def anx (k:Nat):=lk [(180,auT.sp)] k
theorem f141:aF Tryz.prog 141 avd.sp:=by
 refine vm (tb:=anx) (.cons f180 .nil) Tryz.func141 Tryz.ntmps141 fun ⟨x0,x1,x2,x3,x4,x5,x6,x7,x8,x9,x10,x11,x12,dO,x14,x15,x16,x17,x18,x19,x20,x21,a2⟩ r hr stop S=> ?_
 rw [acV,ahW] at hr
 refine S.gx [] ?_
 refine gr ?_
 refine S.sees [3,4,6,9,10,11] [(3,3),(4,4),(6,6)] [] ?_ (Stop.iter S (fun s1=>⟨[(3,.c (.ref 3 0)),(4,.c (.ref 4 0)),(6,.c (.ref 6 0)),(9,.c (.d (ah 2 aO a2))),(10,.c (.d (.int .i64 (a2.length:Int)))),(11,.c (.d (.int .i64 s1.1)))],[(3,[.d (ah 4 cZ x0),.d (ah 5 bU x1),.d (ah 3 dn x2),.d (ah 2 aO x3),.d (.int .i64 x4),.d (.int .i64 x5),.d (.int .i64 x6),.d (.int .i64 x7)]),(4,[.d (.int .i64 s1.2.1),.d (.int .i64 s1.2.2.1),.d (.int .i64 s1.2.2.2.1),.d (.int .i64 s1.2.2.2.2.1),.d (.int .i64 s1.2.2.2.2.2.1),.d (.int .i64 s1.2.2.2.2.2.2.1),.d (.int .i64 s1.2.2.2.2.2.2.2.1),.d (.int .i64 s1.2.2.2.2.2.2.2.2.1),.d (.int .i64 s1.2.2.2.2.2.2.2.2.2.1),.d (.int .i64 s1.2.2.2.2.2.2.2.2.2.2.1),.d (.int .i64 s1.2.2.2.2.2.2.2.2.2.2.2.1),.d (.int .i64 s1.2.2.2.2.2.2.2.2.2.2.2.2.1),.d (.int .i64 s1.2.2.2.2.2.2.2.2.2.2.2.2.2.1),.d (.int .i64 s1.2.2.2.2.2.2.2.2.2.2.2.2.2.2)]),(6,[.d (.int .i64 0),.d (.int .i64 0),.d (.int .i64 0),.d (.int .i64 0),.d (.int .i64 0),.d (.int .i64 0),.d (.int .i64 0),.d (.int .i64 0),.d (.int .i64 0),.d (.int .i64 0),.d (.int .i64 0),.d (.int .i64 0),.d (.int .i64 0),.d (.int .i64 0)])],[]⟩) (Rj x0 x1 x2 x3 x4 x5 x6 x7 a2) (fun q=>q=r) hr rfl ?_)
 ·exact lf
 ·intro s1 hr
  unfold Rj at hr
  refine S.gx [] ?_
  exact D1 (S.ss [3,4,6,9,10,11] [(3,3),(4,4),(6,6)] []) hr
def ad9 (x4:bg) (x5:aW) (x6:bf) (x7:au) (x2 x3 x0 x1 a1:Int):Option (Int×Int×Int×Int):=
 some (x2,x3,x0,(if x0<IntKind.i64.wrap (x1 - a1) then IntKind.i64.wrap (x1 - a1) else x0))
@[go_sem] def auU:=WX apv false ad9
theorem f179:aF Tryz.prog 179 auU.sp:=by
 refine vm .nil Tryz.func179 Tryz.ntmps179 fun ⟨x4,x5,x6,x7,x2,x3,x0,x1,a1⟩ r hr stop S=> ?_
 rw [Oa,ad9] at hr
 refine S.gx [] ?_
 exact D0 hr
def QO (x0 x4 x1 x5 x2 x6 x3 x7 x8 x9 x10 x11:Int):Bd (Int×Int×Int×Int×Int×Int×Int) Int:=fun s2=>
 if (decide (s2.2.2.2.2.2.2<4))=true then
  if s2.2.2.2.2.2.2=0 then
   if s2.2.2.1=0 then
    .next (IntKind.i64.wrap (s2.1 - (if IntKind.i64.wrap (x4 - x0)<s2.1 then IntKind.i64.wrap (x4 - x0) else s2.1)),IntKind.i64.wrap (s2.2.1+(IntKind.i64.wrap ((if IntKind.i64.wrap (x4 - x0)<s2.1 then IntKind.i64.wrap (x4 - x0) else s2.1)*x8))),0,s2.2.2.2.1,s2.2.2.2.2.1,s2.2.2.2.2.2.1,1)
    else if s2.2.2.1=1 then
     .next (IntKind.i64.wrap (s2.1 - (if IntKind.i64.wrap (x5 - x1)<s2.1 then IntKind.i64.wrap (x5 - x1) else s2.1)),IntKind.i64.wrap (s2.2.1+(IntKind.i64.wrap ((if IntKind.i64.wrap (x5 - x1)<s2.1 then IntKind.i64.wrap (x5 - x1) else s2.1)*x9))),1,s2.2.2.2.1,s2.2.2.2.2.1,s2.2.2.2.2.2.1,1)
     else if s2.2.2.1=2 then
      .next (IntKind.i64.wrap (s2.1 - (if IntKind.i64.wrap (x6 - x2)<s2.1 then IntKind.i64.wrap (x6 - x2) else s2.1)),IntKind.i64.wrap (s2.2.1+(IntKind.i64.wrap ((if IntKind.i64.wrap (x6 - x2)<s2.1 then IntKind.i64.wrap (x6 - x2) else s2.1)*x10))),2,s2.2.2.2.1,s2.2.2.2.2.1,s2.2.2.2.2.2.1,1)
      else if s2.2.2.1=3 then
       .next (IntKind.i64.wrap (s2.1 - (if IntKind.i64.wrap (x7 - x3)<s2.1 then IntKind.i64.wrap (x7 - x3) else s2.1)),IntKind.i64.wrap (s2.2.1+(IntKind.i64.wrap ((if IntKind.i64.wrap (x7 - x3)<s2.1 then IntKind.i64.wrap (x7 - x3) else s2.1)*x11))),3,s2.2.2.2.1,s2.2.2.2.2.1,s2.2.2.2.2.2.1,1)
       else .out none
   else if s2.2.2.2.2.2.2=1 then
    if s2.2.2.2.1=0 then
     .next (IntKind.i64.wrap (s2.1 - (if IntKind.i64.wrap (x4 - x0)<s2.1 then IntKind.i64.wrap (x4 - x0) else s2.1)),IntKind.i64.wrap (s2.2.1+(IntKind.i64.wrap ((if IntKind.i64.wrap (x4 - x0)<s2.1 then IntKind.i64.wrap (x4 - x0) else s2.1)*x8))),s2.2.2.1,0,s2.2.2.2.2.1,s2.2.2.2.2.2.1,2)
     else if s2.2.2.2.1=1 then
      .next (IntKind.i64.wrap (s2.1 - (if IntKind.i64.wrap (x5 - x1)<s2.1 then IntKind.i64.wrap (x5 - x1) else s2.1)),IntKind.i64.wrap (s2.2.1+(IntKind.i64.wrap ((if IntKind.i64.wrap (x5 - x1)<s2.1 then IntKind.i64.wrap (x5 - x1) else s2.1)*x9))),s2.2.2.1,1,s2.2.2.2.2.1,s2.2.2.2.2.2.1,2)
      else if s2.2.2.2.1=2 then
       .next (IntKind.i64.wrap (s2.1 - (if IntKind.i64.wrap (x6 - x2)<s2.1 then IntKind.i64.wrap (x6 - x2) else s2.1)),IntKind.i64.wrap (s2.2.1+(IntKind.i64.wrap ((if IntKind.i64.wrap (x6 - x2)<s2.1 then IntKind.i64.wrap (x6 - x2) else s2.1)*x10))),s2.2.2.1,2,s2.2.2.2.2.1,s2.2.2.2.2.2.1,2)
       else if s2.2.2.2.1=3 then
        .next (IntKind.i64.wrap (s2.1 - (if IntKind.i64.wrap (x7 - x3)<s2.1 then IntKind.i64.wrap (x7 - x3) else s2.1)),IntKind.i64.wrap (s2.2.1+(IntKind.i64.wrap ((if IntKind.i64.wrap (x7 - x3)<s2.1 then IntKind.i64.wrap (x7 - x3) else s2.1)*x11))),s2.2.2.1,3,s2.2.2.2.2.1,s2.2.2.2.2.2.1,2)
        else .out none
    else if s2.2.2.2.2.2.2=2 then
     if s2.2.2.2.2.1=0 then
      .next (IntKind.i64.wrap (s2.1 - (if IntKind.i64.wrap (x4 - x0)<s2.1 then IntKind.i64.wrap (x4 - x0) else s2.1)),IntKind.i64.wrap (s2.2.1+(IntKind.i64.wrap ((if IntKind.i64.wrap (x4 - x0)<s2.1 then IntKind.i64.wrap (x4 - x0) else s2.1)*x8))),s2.2.2.1,s2.2.2.2.1,0,s2.2.2.2.2.2.1,3)
      else if s2.2.2.2.2.1=1 then
       .next (IntKind.i64.wrap (s2.1 - (if IntKind.i64.wrap (x5 - x1)<s2.1 then IntKind.i64.wrap (x5 - x1) else s2.1)),IntKind.i64.wrap (s2.2.1+(IntKind.i64.wrap ((if IntKind.i64.wrap (x5 - x1)<s2.1 then IntKind.i64.wrap (x5 - x1) else s2.1)*x9))),s2.2.2.1,s2.2.2.2.1,1,s2.2.2.2.2.2.1,3)
       else if s2.2.2.2.2.1=2 then
        .next (IntKind.i64.wrap (s2.1 - (if IntKind.i64.wrap (x6 - x2)<s2.1 then IntKind.i64.wrap (x6 - x2) else s2.1)),IntKind.i64.wrap (s2.2.1+(IntKind.i64.wrap ((if IntKind.i64.wrap (x6 - x2)<s2.1 then IntKind.i64.wrap (x6 - x2) else s2.1)*x10))),s2.2.2.1,s2.2.2.2.1,2,s2.2.2.2.2.2.1,3)
        else if s2.2.2.2.2.1=3 then
         .next (IntKind.i64.wrap (s2.1 - (if IntKind.i64.wrap (x7 - x3)<s2.1 then IntKind.i64.wrap (x7 - x3) else s2.1)),IntKind.i64.wrap (s2.2.1+(IntKind.i64.wrap ((if IntKind.i64.wrap (x7 - x3)<s2.1 then IntKind.i64.wrap (x7 - x3) else s2.1)*x11))),s2.2.2.1,s2.2.2.2.1,3,s2.2.2.2.2.2.1,3)
         else .out none
     else if s2.2.2.2.2.2.2=3 then
      if s2.2.2.2.2.2.1=0 then
       .next (IntKind.i64.wrap (s2.1 - (if IntKind.i64.wrap (x4 - x0)<s2.1 then IntKind.i64.wrap (x4 - x0) else s2.1)),IntKind.i64.wrap (s2.2.1+(IntKind.i64.wrap ((if IntKind.i64.wrap (x4 - x0)<s2.1 then IntKind.i64.wrap (x4 - x0) else s2.1)*x8))),s2.2.2.1,s2.2.2.2.1,s2.2.2.2.2.1,0,4)
       else if s2.2.2.2.2.2.1=1 then
        .next (IntKind.i64.wrap (s2.1 - (if IntKind.i64.wrap (x5 - x1)<s2.1 then IntKind.i64.wrap (x5 - x1) else s2.1)),IntKind.i64.wrap (s2.2.1+(IntKind.i64.wrap ((if IntKind.i64.wrap (x5 - x1)<s2.1 then IntKind.i64.wrap (x5 - x1) else s2.1)*x9))),s2.2.2.1,s2.2.2.2.1,s2.2.2.2.2.1,1,4)
        else if s2.2.2.2.2.2.1=2 then
         .next (IntKind.i64.wrap (s2.1 - (if IntKind.i64.wrap (x6 - x2)<s2.1 then IntKind.i64.wrap (x6 - x2) else s2.1)),IntKind.i64.wrap (s2.2.1+(IntKind.i64.wrap ((if IntKind.i64.wrap (x6 - x2)<s2.1 then IntKind.i64.wrap (x6 - x2) else s2.1)*x10))),s2.2.2.1,s2.2.2.2.1,s2.2.2.2.2.1,2,4)
         else if s2.2.2.2.2.2.1=3 then
          .next (IntKind.i64.wrap (s2.1 - (if IntKind.i64.wrap (x7 - x3)<s2.1 then IntKind.i64.wrap (x7 - x3) else s2.1)),IntKind.i64.wrap (s2.2.1+(IntKind.i64.wrap ((if IntKind.i64.wrap (x7 - x3)<s2.1 then IntKind.i64.wrap (x7 - x3) else s2.1)*x11))),s2.2.2.1,s2.2.2.2.1,s2.2.2.2.2.1,3,4)
          else .out none
      else .out none
  else .out (some (IntKind.i64.wrap (s2.2.1.tdiv 1000000)))
def QS (x0 x4 x1 x5 x2 x6 x3 x7 x8 x9 x10 x11 x12 dO x14 x15:Int):Bd (Int×Int×Int) Int:=fun s1=>
 if (decide (s1.2.2<4))=true then
  if s1.2.2=0 then
   .next (IntKind.i64.wrap (s1.1 - x0),IntKind.i64.wrap (s1.2.1+(IntKind.i64.wrap (x0*x8))),1)
   else if s1.2.2=1 then
    .next (IntKind.i64.wrap (s1.1 - x1),IntKind.i64.wrap (s1.2.1+(IntKind.i64.wrap (x1*x9))),2)
    else if s1.2.2=2 then
     .next (IntKind.i64.wrap (s1.1 - x2),IntKind.i64.wrap (s1.2.1+(IntKind.i64.wrap (x2*x10))),3)
     else if s1.2.2=3 then
      .next (IntKind.i64.wrap (s1.1 - x3),IntKind.i64.wrap (s1.2.1+(IntKind.i64.wrap (x3*x11))),4)
      else .out none
  else .out (aS (QO x0 x4 x1 x5 x2 x6 x3 x7 x8 x9 x10 x11) 1000000000 (s1.1,s1.2.1,x12,dO,x14,x15,0))
def aea (x0 x4 x1 x5 x2 x6 x3 x7 x8 x9 x10 x11 x12 dO x14 x15:Int):Option (Int):=
 aS (QS x0 x4 x1 x5 x2 x6 x3 x7 x8 x9 x10 x11 x12 dO x14 x15) 1000000000 (1000000,0,0)
@[go_sem] def auV:=arj lK false aea
theorem f178:aF Tryz.prog 178 auV.sp:=by
 refine vm .nil Tryz.func178 Tryz.ntmps178 fun ⟨x0,x4,x1,x5,x2,x6,x3,x7,x8,x9,x10,x11,x12,dO,x14,x15⟩ r hr stop S=> ?_
 rw [alh,aea] at hr
 refine S.gx [4,10,11] ?_
 refine gr ?_
 refine S.sees [3,4,5,7,8,14,15] [(3,3),(4,4),(5,5)] [] ?_ (Stop.iter S (fun s1=>⟨[(3,.c (.ref 3 0)),(4,.c (.ref 4 0)),(5,.c (.ref 5 0)),(7,.c (.d (.int .i64 s1.1))),(8,.c (.d (.int .i64 s1.2.1))),(14,.agg [.d (.int .i64 x0),.d (.int .i64 x4),.d (.int .i64 x1),.d (.int .i64 x5),.d (.int .i64 x2),.d (.int .i64 x6),.d (.int .i64 x3),.d (.int .i64 x7)]),(15,.c (.d (.int .i64 s1.2.2)))],[(3,[.d (.int .i64 x0),.d (.int .i64 x4),.d (.int .i64 x1),.d (.int .i64 x5),.d (.int .i64 x2),.d (.int .i64 x6),.d (.int .i64 x3),.d (.int .i64 x7)]),(4,[.d (.int .i64 x8),.d (.int .i64 x9),.d (.int .i64 x10),.d (.int .i64 x11)]),(5,[.d (.int .i64 x12),.d (.int .i64 dO),.d (.int .i64 x14),.d (.int .i64 x15)])],[]⟩) (QS x0 x4 x1 x5 x2 x6 x3 x7 x8 x9 x10 x11 x12 dO x14 x15) (fun q=>q=r) hr rfl ?_)
 ·exact lf
 ·intro s1 hr
  unfold QS at hr
  refine S.gx [4,10,11] ?_
  refine gr ?_
  refine dM hr (fun hc hr=> ?_) fun hc hr=> ?_
  ·refine gr ?_
   by_cases hs4:s1.2.2=0
   ·rw [if_pos hs4] at hr
    simp only [hs4]
    refine S.gx [10,11] ?_
    exact D1 (S.ss [3,4,5,7,8,14,15] [(3,3),(4,4),(5,5)] []) hr
   ·rw [if_neg hs4] at hr
    by_cases hs3:s1.2.2=1
    ·rw [if_pos hs3] at hr
     simp only [hs3]
     refine S.gx [10,11] ?_
     exact D1 (S.ss [3,4,5,7,8,14,15] [(3,3),(4,4),(5,5)] []) hr
    ·rw [if_neg hs3] at hr
     by_cases hs2:s1.2.2=2
     ·rw [if_pos hs2] at hr
      simp only [hs2]
      refine S.gx [10,11] ?_
      exact D1 (S.ss [3,4,5,7,8,14,15] [(3,3),(4,4),(5,5)] []) hr
     ·rw [if_neg hs2] at hr
      by_cases hs1:s1.2.2=3
      ·rw [if_pos hs1] at hr
       simp only [hs1]
       refine S.gx [10,11] ?_
       exact D1 (S.ss [3,4,5,7,8,14,15] [(3,3),(4,4),(5,5)] []) hr
      ·rw [if_neg hs1] at hr
       first | cases hr | exact hr.elim
  ·refine gr ?_
   have hr:=bK hr
   refine gr ?_
   refine S.sees [3,4,7,8,32,33] [(3,3),(4,4)] [] ?_ (Stop.iter S (fun s2=>⟨[(3,.c (.ref 3 0)),(4,.c (.ref 4 0)),(7,.c (.d (.int .i64 s2.1))),(8,.c (.d (.int .i64 s2.2.1))),(32,.agg [.d (.int .i64 s2.2.2.1),.d (.int .i64 s2.2.2.2.1),.d (.int .i64 s2.2.2.2.2.1),.d (.int .i64 s2.2.2.2.2.2.1)]),(33,.c (.d (.int .i64 s2.2.2.2.2.2.2)))],[(3,[.d (.int .i64 x0),.d (.int .i64 x4),.d (.int .i64 x1),.d (.int .i64 x5),.d (.int .i64 x2),.d (.int .i64 x6),.d (.int .i64 x3),.d (.int .i64 x7)]),(4,[.d (.int .i64 x8),.d (.int .i64 x9),.d (.int .i64 x10),.d (.int .i64 x11)])],[]⟩) (QO x0 x4 x1 x5 x2 x6 x3 x7 x8 x9 x10 x11) (fun q=>q=r) hr rfl ?_)
   ·exact lf
   ·intro s2 hr
    unfold QO at hr
    refine S.gx [4,10,11] ?_
    refine gr ?_
    refine dM hr (fun hc hr=> ?_) fun hc hr=>D0 hr
    refine gr ?_
    by_cases ajp:s2.2.2.2.2.2.2=0
    ·rw [if_pos ajp] at hr
     simp only [ajp]
     refine S.gx [4,11] ?_
     refine gr ?_
     refine gr ?_
     by_cases ajl:s2.2.2.1=0
     ·rw [if_pos ajl] at hr
      simp only [ajl]
      refine S.gx [4,10] ?_
      exact D1 (S.ss [3,4,7,8,32,33] [(3,3),(4,4)] []) hr
     ·rw [if_neg ajl] at hr
      by_cases ajm:s2.2.2.1=1
      ·rw [if_pos ajm] at hr
       simp only [ajm]
       refine S.gx [4,10] ?_
       exact D1 (S.ss [3,4,7,8,32,33] [(3,3),(4,4)] []) hr
      ·rw [if_neg ajm] at hr
       by_cases ajn:s2.2.2.1=2
       ·rw [if_pos ajn] at hr
        simp only [ajn]
        refine S.gx [4,10] ?_
        exact D1 (S.ss [3,4,7,8,32,33] [(3,3),(4,4)] []) hr
       ·rw [if_neg ajn] at hr
        by_cases ajo:s2.2.2.1=3
        ·rw [if_pos ajo] at hr
         simp only [ajo]
         refine S.gx [4,10] ?_
         exact D1 (S.ss [3,4,7,8,32,33] [(3,3),(4,4)] []) hr
        ·rw [if_neg ajo] at hr
         first | cases hr | exact hr.elim
    ·rw [if_neg ajp] at hr
     by_cases aju:s2.2.2.2.2.2.2=1
     ·rw [if_pos aju] at hr
      simp only [aju]
      refine S.gx [4,11] ?_
      refine gr ?_
      refine gr ?_
      by_cases ajq:s2.2.2.2.1=0
      ·rw [if_pos ajq] at hr
       simp only [ajq]
       refine S.gx [4,10] ?_
       exact D1 (S.ss [3,4,7,8,32,33] [(3,3),(4,4)] []) hr
      ·rw [if_neg ajq] at hr
       by_cases ajr:s2.2.2.2.1=1
       ·rw [if_pos ajr] at hr
        simp only [ajr]
        refine S.gx [4,10] ?_
        exact D1 (S.ss [3,4,7,8,32,33] [(3,3),(4,4)] []) hr
       ·rw [if_neg ajr] at hr
        by_cases ajs:s2.2.2.2.1=2
        ·rw [if_pos ajs] at hr
         simp only [ajs]
         refine S.gx [4,10] ?_
         exact D1 (S.ss [3,4,7,8,32,33] [(3,3),(4,4)] []) hr
        ·rw [if_neg ajs] at hr
         by_cases ajt:s2.2.2.2.1=3
         ·rw [if_pos ajt] at hr
          simp only [ajt]
          refine S.gx [4,10] ?_
          exact D1 (S.ss [3,4,7,8,32,33] [(3,3),(4,4)] []) hr
         ·rw [if_neg ajt] at hr
          first | cases hr | exact hr.elim
     ·rw [if_neg aju] at hr
      by_cases hs10:s2.2.2.2.2.2.2=2
      ·rw [if_pos hs10] at hr
       simp only [hs10]
       refine S.gx [4,11] ?_
       refine gr ?_
       refine gr ?_
       by_cases ajv:s2.2.2.2.2.1=0
       ·rw [if_pos ajv] at hr
        simp only [ajv]
        refine S.gx [4,10] ?_
        exact D1 (S.ss [3,4,7,8,32,33] [(3,3),(4,4)] []) hr
       ·rw [if_neg ajv] at hr
        by_cases ajw:s2.2.2.2.2.1=1
        ·rw [if_pos ajw] at hr
         simp only [ajw]
         refine S.gx [4,10] ?_
         exact D1 (S.ss [3,4,7,8,32,33] [(3,3),(4,4)] []) hr
        ·rw [if_neg ajw] at hr
         by_cases PO:s2.2.2.2.2.1=2
         ·rw [if_pos PO] at hr
          simp only [PO]
          refine S.gx [4,10] ?_
          exact D1 (S.ss [3,4,7,8,32,33] [(3,3),(4,4)] []) hr
         ·rw [if_neg PO] at hr
          by_cases hs11:s2.2.2.2.2.1=3
          ·rw [if_pos hs11] at hr
           simp only [hs11]
           refine S.gx [4,10] ?_
           exact D1 (S.ss [3,4,7,8,32,33] [(3,3),(4,4)] []) hr
          ·rw [if_neg hs11] at hr
           first | cases hr | exact hr.elim
      ·rw [if_neg hs10] at hr
       by_cases hs5:s2.2.2.2.2.2.2=3
       ·rw [if_pos hs5] at hr
        simp only [hs5]
        refine S.gx [4,11] ?_
        refine gr ?_
        refine gr ?_
        by_cases hs9:s2.2.2.2.2.2.1=0
        ·rw [if_pos hs9] at hr
         simp only [hs9]
         refine S.gx [4,10] ?_
         exact D1 (S.ss [3,4,7,8,32,33] [(3,3),(4,4)] []) hr
        ·rw [if_neg hs9] at hr
         by_cases hs8:s2.2.2.2.2.2.1=1
         ·rw [if_pos hs8] at hr
          simp only [hs8]
          refine S.gx [4,10] ?_
          exact D1 (S.ss [3,4,7,8,32,33] [(3,3),(4,4)] []) hr
         ·rw [if_neg hs8] at hr
          by_cases hs7:s2.2.2.2.2.2.1=2
          ·rw [if_pos hs7] at hr
           simp only [hs7]
           refine S.gx [4,10] ?_
           exact D1 (S.ss [3,4,7,8,32,33] [(3,3),(4,4)] []) hr
          ·rw [if_neg hs7] at hr
           by_cases hs6:s2.2.2.2.2.2.1=3
           ·rw [if_pos hs6] at hr
            simp only [hs6]
            refine S.gx [4,10] ?_
            exact D1 (S.ss [3,4,7,8,32,33] [(3,3),(4,4)] []) hr
           ·rw [if_neg hs6] at hr
            first | cases hr | exact hr.elim
       ·rw [if_neg hs5] at hr
        first | cases hr | exact hr.elim
def ahX (x0:bg) (x1:aW) (x2:bf) (x3:au) (x4 x5 x6 x7 x10 x11 x12 dO x14 x15 x16 x17 x18 x19 x20 x21 x8 x9:Int):Option (Int×Int):=
 (aeb x10 x11 x12 dO x14 x15 x16 x17 x18 x19 x20 x21 x8 x9).bind fun v1=>
  (ad9 x0 x1 x2 x3 x4 x5 x6 x7 x9).bind fun v2=>
   (aea v1.1 v1.2.1 v1.2.2.1 v1.2.2.2.1 v1.2.2.2.2.1 v1.2.2.2.2.2.1 v1.2.2.2.2.2.2.1 v1.2.2.2.2.2.2.2 v2.1 v2.2.1 v2.2.2.1 v2.2.2.2 0 1 2 3).bind fun v3=>
    (ad9 x0 x1 x2 x3 x4 x5 x6 x7 x8).bind fun v4=>
     (aea v1.1 v1.2.1 v1.2.2.1 v1.2.2.2.1 v1.2.2.2.2.1 v1.2.2.2.2.2.1 v1.2.2.2.2.2.2.1 v1.2.2.2.2.2.2.2 v4.1 v4.2.1 v4.2.2.1 v4.2.2.2 3 2 1 0).bind fun v5=>
      some (v3,v5)
@[go_sem] def ave:=ari qu7 false ahX
@[go_sem] def anz (k:Nat):=lk [(176,akc.sp),(178,auV.sp),(179,auU.sp)] k
theorem f140:aF Tryz.prog 140 ave.sp:=by
 refine vm (tb:=anz) (.cons f176 (.cons f178 (.cons f179 .nil))) Tryz.func140 Tryz.ntmps140 fun ⟨x0,x1,x2,x3,x4,x5,x6,x7,x10,x11,x12,dO,x14,x15,x16,x17,x18,x19,x20,x21,x8,x9⟩ r hr stop S=> ?_
 rw [ale,ahX] at hr
 refine S.gx [] ?_
 exact D0 hr
def ab3 (x0:bg) (x1:aW) (x2:bf) (x3:au) (x4 x5 x6 x7 x8 x9 x10 x11 x12 dO x14 x15 x16 x17 x18 x19 x20 x21:Int) (a2:aj):Bd ((List (Int×Int))×Int) (au×Int):=fun s2=>
 if (decide (s2.2<(a2.length:Int)))=true then
  if 0≤s2.2∧s2.2<(a2.length:Int) then
   aP (ahW x0 x1 x2 x3 x4 x5 x6 x7 x8 x9 x10 x11 x12 dO x14 x15 x16 x17 x18 x19 x20 x21 (a2.getD s2.2.toNat default)) fun v8=>
    aP (ahX x0 x1 x2 x3 x4 x5 x6 x7 v8.1 v8.2.1 v8.2.2.1 v8.2.2.2.1 v8.2.2.2.2.1 v8.2.2.2.2.2.1 v8.2.2.2.2.2.2.1 v8.2.2.2.2.2.2.2.1 v8.2.2.2.2.2.2.2.2.1 v8.2.2.2.2.2.2.2.2.2.1 v8.2.2.2.2.2.2.2.2.2.2.1 v8.2.2.2.2.2.2.2.2.2.2.2.1 v8.2.2.2.2.2.2.2.2.2.2.2.2.1 v8.2.2.2.2.2.2.2.2.2.2.2.2.2) fun v9=>
     if (s2.1.length+1)*16≤140737488355328∧s2.1.length+1≤9223372036854775807 then
      .next (s2.1++[(v9.1,v9.2)],IntKind.i64.wrap (s2.2+1))
      else .out none
   else .out none
  else .out (some (s2.1,0))
def ab4 (x0:bg) (x1:aW) (x2:bf) (x3:au) (x4 x5 x6 x7 x8 x9 x10 x11 x12 dO x14 x15 x16 x17 x18 x19 x20 x21:Int) (a2:aj):Bd (Int×Int) (au×Int):=fun s1=>
 if (decide (s1.2<(a2.length:Int)))=true then
  if 0≤s1.2∧s1.2<(a2.length:Int) then
   aP (ahY (a2.getD s1.2.toNat default)) fun v5=>
    aP (rV [s1.1,v5]) fun v6=>
     .next (v6,IntKind.i64.wrap (s1.2+1))
   else .out none
  else .out (if (s1.1 != 0)=true then
   some ([],s1.1)
   else aS (ab3 x0 x1 x2 x3 x4 x5 x6 x7 x8 x9 x10 x11 x12 dO x14 x15 x16 x17 x18 x19 x20 x21 a2) 1000000000 ([],0))
def r98 (x0:bg) (x1:aW) (x2:bf) (x3:au) (x4 x5 x6 x7 x8 x9 x10 x11 x12 dO x14 x15 x16 x17 x18 x19 x20 x21:Int) (a2:aj):Option (au×Int):=
 (ah0 x0 x1 x2 x3 x4 x5 x6 x7).bind fun v1=>
  (ahZ x8 x9 x10 x11 x12 dO x14 x15 x16 x17 x18 x19 x20 x21).bind fun v2=>
   (iJ (decide ((a2.length:Int)≤12)) 8).bind fun v3=>
    (rV [v1,v2,v3]).bind fun v4=>
     aS (ab4 x0 x1 x2 x3 x4 x5 x6 x7 x8 x9 x10 x11 x12 dO x14 x15 x16 x17 x18 x19 x20 x21 a2) 1000000000 (v4,0)
@[go_sem] def T98:=arh aen false r98
@[go_sem] def ayp (k:Nat):=lk [(135,Yo.sp),(136,avh.sp),(137,avg.sp),(138,NW.sp),(139,avf.sp),(140,ave.sp),(141,avd.sp)] k
theorem f98:aF Tryz.prog 98 T98.sp:=by
 refine vm (tb:=ayp) (.cons f135 (.cons f136 (.cons f137 (.cons f138 (.cons f139 (.cons f140 (.cons f141 .nil))))))) Tryz.func98 Tryz.ntmps98 fun ⟨x0,x1,x2,x3,x4,x5,x6,x7,x8,x9,x10,x11,x12,dO,x14,x15,x16,x17,x18,x19,x20,x21,a2⟩ r hr stop S=> ?_
 rw [acV,r98] at hr
 refine S.gx [] ?_
 obtain ⟨v1,hv1,hr⟩:=aA hr
 obtain ⟨v2,hv2,hr⟩:=aA hr
 obtain ⟨v3,hv3,hr⟩:=aA hr
 obtain ⟨v4,hv4,hr⟩:=aA hr
 refine gb hv1 ?_
 refine gb hv2 ?_
 refine gb hv3 ?_
 refine gb hv4 ?_
 refine S.sees [2,3,4,8,24,25,26] [(3,3),(4,4)] [] ?_ (Stop.iter S (fun s1=>⟨[(2,.c (.d (ah 1 aN a2))),(3,.c (.ref 3 0)),(4,.c (.ref 4 0)),(8,.c (.d (.int .i64 s1.1))),(24,.c (.d (ah 1 aN a2))),(25,.c (.d (.int .i64 (a2.length:Int)))),(26,.c (.d (.int .i64 s1.2)))],[(3,[.d (ah 4 cZ x0),.d (ah 5 bU x1),.d (ah 3 dn x2),.d (ah 2 aO x3),.d (.int .i64 x4),.d (.int .i64 x5),.d (.int .i64 x6),.d (.int .i64 x7)]),(4,[.d (.int .i64 x8),.d (.int .i64 x9),.d (.int .i64 x10),.d (.int .i64 x11),.d (.int .i64 x12),.d (.int .i64 dO),.d (.int .i64 x14),.d (.int .i64 x15),.d (.int .i64 x16),.d (.int .i64 x17),.d (.int .i64 x18),.d (.int .i64 x19),.d (.int .i64 x20),.d (.int .i64 x21)])],[]⟩) (ab4 x0 x1 x2 x3 x4 x5 x6 x7 x8 x9 x10 x11 x12 dO x14 x15 x16 x17 x18 x19 x20 x21 a2) (fun q=>q=r) hr rfl ?_)
 ·exact lf
 ·intro s1 hr
  unfold ab4 at hr
  refine S.gx [] ?_
  refine gr ?_
  refine dM hr (fun hc hr=>D1 (S.ss [2,3,4,8,24,25,26] [(3,3),(4,4)] []) hr) fun hc hr=> ?_
  refine gr ?_
  have hr:=bK hr
  refine gr ?_
  refine iW hr (fun hc hr=>D0 hr) fun hc hr=> ?_
  refine gr ?_
  refine S.O8 11 1001100 2 rfl rfl ?_
  refine S.sees [3,4,11,39,40,41] [(3,3),(4,4)] [(1001100,1001100)] ?_ (Stop.iter S (fun s2=>⟨[(3,.c (.ref 3 0)),(4,.c (.ref 4 0)),(11,.c (.own 1001100)),(39,.c (.d (ah 1 aN a2))),(40,.c (.d (.int .i64 (a2.length:Int)))),(41,.c (.d (.int .i64 s2.2)))],[(3,[.d (ah 4 cZ x0),.d (ah 5 bU x1),.d (ah 3 dn x2),.d (ah 2 aO x3),.d (.int .i64 x4),.d (.int .i64 x5),.d (.int .i64 x6),.d (.int .i64 x7)]),(4,[.d (.int .i64 x8),.d (.int .i64 x9),.d (.int .i64 x10),.d (.int .i64 x11),.d (.int .i64 x12),.d (.int .i64 dO),.d (.int .i64 x14),.d (.int .i64 x15),.d (.int .i64 x16),.d (.int .i64 x17),.d (.int .i64 x18),.d (.int .i64 x19),.d (.int .i64 x20),.d (.int .i64 x21)])],[(1001100,.owned (ah 2 aO s2.1))]⟩) (ab3 x0 x1 x2 x3 x4 x5 x6 x7 x8 x9 x10 x11 x12 dO x14 x15 x16 x17 x18 x19 x20 x21 a2) (fun q=>q=r) hr rfl ?_)
  ·exact lf
  ·intro s2 hr
   unfold ab3 at hr
   refine S.gx [] ?_
   exact D1 (S.ss [3,4,11,39,40,41] [(3,3),(4,4)] [(55,1001100)]) hr
def r66 (x0 x1:Int) (x2:au) (x3:aj) (x4 x5:aZ) (x6:au) (x7 x8 x17 x18:Int) (x19:au) (x20:aj) (x21 rW:aZ) (x23:au) (x24 x25:Int) (x9:bg) (x10:aW) (x11:bf) (x12:au) (dO x14 x15 x16:Int) (Fj:bf) (x27:Int) (a1:au):Option (au×aj×Int):=
 (r51 x0 x1 x2 x3 x4 x5 x6 x7 x8 a1).bind fun v1=>
  if (v1.2 != 0)=true then
   some ([],[],v1.2)
   else (r97 1000000 0 0 0 0 0 0).bind fun v2=>
    if (v2.2.2.2.2.2.2.2.2.2.2.2.2.2.2 != 0)=true then
     some ([],[],v2.2.2.2.2.2.2.2.2.2.2.2.2.2.2)
     else (r98 x9 x10 x11 x12 dO x14 x15 x16 v2.1 v2.2.1 v2.2.2.1 v2.2.2.2.1 v2.2.2.2.2.1 v2.2.2.2.2.2.1 v2.2.2.2.2.2.2.1 v2.2.2.2.2.2.2.2.1 v2.2.2.2.2.2.2.2.2.1 v2.2.2.2.2.2.2.2.2.2.1 v2.2.2.2.2.2.2.2.2.2.2.1 v2.2.2.2.2.2.2.2.2.2.2.2.1 v2.2.2.2.2.2.2.2.2.2.2.2.2.1 v2.2.2.2.2.2.2.2.2.2.2.2.2.2.1 v1.1).bind fun v3=>
      some (v3.1,v1.1,v3.2)
@[go_sem] def T66:=arf apu true r66
@[go_sem] def ayF (k:Nat):=lk [(51,T51.sp),(97,T97.sp),(98,T98.sp)] k
theorem f66:aF Tryz.prog 66 T66.sp:=by
 refine vm (tb:=ayF) (.cons f51 (.cons f97 (.cons f98 .nil))) Tryz.func66 Tryz.ntmps66 fun ⟨x0,x1,x2,x3,x4,x5,x6,x7,x8,x17,x18,x19,x20,x21,rW,x23,x24,x25,x9,x10,x11,x12,dO,x14,x15,x16,Fj,x27,a1⟩ r hr stop S=> ?_
 rw [alb,r66] at hr
 refine S.gx [8] ?_
 obtain ⟨v1,hv1,hr⟩:=aA hr
 refine gb hv1 ?_
 refine iW hr (fun hc hr=>D0 hr) fun hc hr=> ?_
 obtain ⟨v2,hv2,hr⟩:=aA hr
 refine gb hv2 ?_
 refine iW hr (fun hc hr=>D0 hr) fun hc hr=> ?_
 obtain ⟨v3,hv3,hr⟩:=aA hr
 refine gb hv3 ?_
 refine S.prune [7,8,10] ?_
 refine S.gx [] ?_
 exact D0 hr
def r30 (x0 x1:Int) (x2:au) (x3:aj) (x4 x5:aZ) (x6:au) (x7 x8:Int) (x9:bg) (x10:aW) (x11:bf) (x12:au) (dO x14 x15 x16:Int) (x17:bf) (x18:Int) (a1:au):Option (au×Int):=
 (r64 x0 x1 x2 x3 x4 x5 x6 x7 x8 x9 x10 x11 x12 dO x14 x15 x16 x17 x18).bind fun v1=>
  if (v1.2.2.2.2.2.2.2.2.2.2.2.2.2.2.2.2.2.2.2.2.2.2.2.2.2.2.2.2 == 0)=true then
   (r65 v1.1 v1.2.1 v1.2.2.1 v1.2.2.2.1 v1.2.2.2.2.1 v1.2.2.2.2.2.1 v1.2.2.2.2.2.2.1 v1.2.2.2.2.2.2.2.1 v1.2.2.2.2.2.2.2.2.1 a1).bind fun v2=>
    if (v2 != 0)=true then
     some ([],v2)
     else (r66 v1.1 v1.2.1 v1.2.2.1 v1.2.2.2.1 v1.2.2.2.2.1 v1.2.2.2.2.2.1 v1.2.2.2.2.2.2.1 v1.2.2.2.2.2.2.2.1 v1.2.2.2.2.2.2.2.2.1 v1.2.2.2.2.2.2.2.2.2.1 v1.2.2.2.2.2.2.2.2.2.2.1 v1.2.2.2.2.2.2.2.2.2.2.2.1 v1.2.2.2.2.2.2.2.2.2.2.2.2.1 v1.2.2.2.2.2.2.2.2.2.2.2.2.2.1 v1.2.2.2.2.2.2.2.2.2.2.2.2.2.2.1 v1.2.2.2.2.2.2.2.2.2.2.2.2.2.2.2.1 v1.2.2.2.2.2.2.2.2.2.2.2.2.2.2.2.2.1 v1.2.2.2.2.2.2.2.2.2.2.2.2.2.2.2.2.2.1 v1.2.2.2.2.2.2.2.2.2.2.2.2.2.2.2.2.2.2.1 v1.2.2.2.2.2.2.2.2.2.2.2.2.2.2.2.2.2.2.2.1 v1.2.2.2.2.2.2.2.2.2.2.2.2.2.2.2.2.2.2.2.2.1 v1.2.2.2.2.2.2.2.2.2.2.2.2.2.2.2.2.2.2.2.2.2.1 v1.2.2.2.2.2.2.2.2.2.2.2.2.2.2.2.2.2.2.2.2.2.2.1 v1.2.2.2.2.2.2.2.2.2.2.2.2.2.2.2.2.2.2.2.2.2.2.2.1 v1.2.2.2.2.2.2.2.2.2.2.2.2.2.2.2.2.2.2.2.2.2.2.2.2.1 v1.2.2.2.2.2.2.2.2.2.2.2.2.2.2.2.2.2.2.2.2.2.2.2.2.2.1 v1.2.2.2.2.2.2.2.2.2.2.2.2.2.2.2.2.2.2.2.2.2.2.2.2.2.2.1 v1.2.2.2.2.2.2.2.2.2.2.2.2.2.2.2.2.2.2.2.2.2.2.2.2.2.2.2.1 a1).bind fun v3=>
      if (v3.2.2 != 0)=true then
       some ([],v3.2.2)
       else some (v3.1,0)
   else if (v1.2.2.2.2.2.2.2.2.2.2.2.2.2.2.2.2.2.2.2.2.2.2.2.2.2.2.2.2 != 0)=true then
    some ([],v1.2.2.2.2.2.2.2.2.2.2.2.2.2.2.2.2.2.2.2.2.2.2.2.2.2.2.2.2)
    else (r66 v1.1 v1.2.1 v1.2.2.1 v1.2.2.2.1 v1.2.2.2.2.1 v1.2.2.2.2.2.1 v1.2.2.2.2.2.2.1 v1.2.2.2.2.2.2.2.1 v1.2.2.2.2.2.2.2.2.1 v1.2.2.2.2.2.2.2.2.2.1 v1.2.2.2.2.2.2.2.2.2.2.1 v1.2.2.2.2.2.2.2.2.2.2.2.1 v1.2.2.2.2.2.2.2.2.2.2.2.2.1 v1.2.2.2.2.2.2.2.2.2.2.2.2.2.1 v1.2.2.2.2.2.2.2.2.2.2.2.2.2.2.1 v1.2.2.2.2.2.2.2.2.2.2.2.2.2.2.2.1 v1.2.2.2.2.2.2.2.2.2.2.2.2.2.2.2.2.1 v1.2.2.2.2.2.2.2.2.2.2.2.2.2.2.2.2.2.1 v1.2.2.2.2.2.2.2.2.2.2.2.2.2.2.2.2.2.2.1 v1.2.2.2.2.2.2.2.2.2.2.2.2.2.2.2.2.2.2.2.1 v1.2.2.2.2.2.2.2.2.2.2.2.2.2.2.2.2.2.2.2.2.1 v1.2.2.2.2.2.2.2.2.2.2.2.2.2.2.2.2.2.2.2.2.2.1 v1.2.2.2.2.2.2.2.2.2.2.2.2.2.2.2.2.2.2.2.2.2.2.1 v1.2.2.2.2.2.2.2.2.2.2.2.2.2.2.2.2.2.2.2.2.2.2.2.1 v1.2.2.2.2.2.2.2.2.2.2.2.2.2.2.2.2.2.2.2.2.2.2.2.2.1 v1.2.2.2.2.2.2.2.2.2.2.2.2.2.2.2.2.2.2.2.2.2.2.2.2.2.1 v1.2.2.2.2.2.2.2.2.2.2.2.2.2.2.2.2.2.2.2.2.2.2.2.2.2.2.1 v1.2.2.2.2.2.2.2.2.2.2.2.2.2.2.2.2.2.2.2.2.2.2.2.2.2.2.2.1 a1).bind fun v4=>
     if (v4.2.2 != 0)=true then
      some ([],v4.2.2)
      else some (v4.1,0)
@[go_sem] def T30:=ard aen false r30
@[go_sem] def ayY (k:Nat):=lk [(64,T64.sp),(65,T65.sp),(66,T66.sp)] k
theorem f30:aF Tryz.prog 30 T30.sp:=by
 refine vm (tb:=ayY) (.cons f64 (.cons f65 (.cons f66 .nil))) Tryz.func30 Tryz.ntmps30 fun ⟨x0,x1,x2,x3,x4,x5,x6,x7,x8,x9,x10,x11,x12,dO,x14,x15,x16,x17,x18,a1⟩ r hr stop S=> ?_
 rw [ahf,r30] at hr
 refine S.gx [8,9] ?_
 obtain ⟨v1,hv1,hr⟩:=aA hr
 refine gb hv1 ?_
 refine iW hr (fun hc hr=> ?_) fun hc hr=> ?_
 ·obtain ⟨v2,hv2,hr⟩:=aA hr
  refine gb hv2 ?_
  refine iW hr (fun hc hr=>D0 hr) fun hc hr=> ?_
  obtain ⟨v3,hv3,hr⟩:=aA hr
  refine gb hv3 ?_
  refine iW hr (fun hc hr=> ?_) fun hc hr=> ?_
  ·refine gr ?_
   refine S.prune [7] ?_
   refine S.gx [9] ?_
   exact D0 hr
  ·refine gr ?_
   refine S.prune [8] ?_
   refine S.gx [8] ?_
   exact D0 hr
 ·refine gr ?_
  refine iW hr (fun hc hr=>D0 hr) fun hc hr=> ?_
  obtain ⟨v4,hv4,hr⟩:=aA hr
  refine gb hv4 ?_
  refine iW hr (fun hc hr=> ?_) fun hc hr=> ?_
  ·refine gr ?_
   refine S.prune [7] ?_
   refine S.gx [9] ?_
   exact D0 hr
  ·refine gr ?_
   refine S.prune [8] ?_
   refine S.gx [8] ?_
   exact D0 hr
def aci (x0 x1:Int) (x2:au) (x3:aj) (x5 x4:aZ) (x6:au) (x7 x8:Int) (x9:bg) (a1:Int) (v1:aZ×Int):Bd (aZ×Int) (Int×Bool):=fun s1=>
 if (decide (s1.2<201))=true then
  if 0≤a1∧a1<(s1.1.length:Int) then
   if 0≤0∧0<(x9.length:Int) then
    aP (r78 x0 x1 x2 x3 x5 x4 x6 x7 x8 (s1.1.getD a1.toNat default) ((x9.getD 0 default).1)) fun v2=>
     if (decide (v2≥0))=true then
      .out (some (s1.2,true))
      else aP (U5 x0 x1 x2 x3 s1.1 v1.1 v1.2) fun v3=>
       if (v3.2 != 0)=true then
        .out (some (s1.2,true))
        else .next (v3.1,IntKind.i64.wrap (s1.2+1))
    else .out none
   else .out none
  else .out (some (0,false))
def r68 (x0 x1:Int) (x2:au) (x3:aj) (x5 x4:aZ) (x6:au) (x7 x8 x10 x11:Int) (x12:au) (dO:aj) (x14 x15:aZ) (x16:au) (x17 x18:Int) (x9:bg) (x19:aW) (x20:bf) (x21:au) (rW x23 x24 x25:Int) (Fj:bf) (x27 a1 a2:Int):Option (Int×Bool):=
 (JO x0 x1 x2 x3 x5 x4 x6 x7 x8 a2 0 89).bind fun v1=>
  aS (aci x0 x1 x2 x3 x5 x4 x6 x7 x8 x9 a1 v1) 1000000000 (x4,0)
@[go_sem] def T68:=arb qu6 false r68
@[go_sem] def ayE (k:Nat):=lk [(73,T73.sp),(74,T74.sp),(78,T78.sp)] k
theorem f68:aF Tryz.prog 68 T68.sp:=by
 refine vm (tb:=ayE) (.cons f73 (.cons f74 (.cons f78 .nil))) Tryz.func68 Tryz.ntmps68 fun ⟨x0,x1,x2,x3,x5,x4,x6,x7,x8,x10,x11,x12,dO,x14,x15,x16,x17,x18,x9,x19,x20,x21,rW,x23,x24,x25,Fj,x27,a1,a2⟩ r hr stop S=> ?_
 rw [ala,r68] at hr
 refine S.gx [10,11] ?_
 obtain ⟨v1,hv1,hr⟩:=aA hr
 refine gb hv1 ?_
 refine S.sees [1,3,8,9,23] [(3,3),(8,8)] [(17,17)] ?_ (Stop.iter S (fun s1=>⟨[(1,.c (.d (.int .i64 a1))),(3,.c (.ref 3 0)),(8,.c (.ref 8 0)),(9,.c (.d (ah 1 cO s1.1))),(23,.c (.d (.int .i64 s1.2)))],[(3,[.d (.int .i64 x0),.d (.int .i64 x1),.d (ah 2 aO x2),.d (ah 1 aN x3),.d (ah 1 cO x5),.d (ah 1 cO x4),.d (ah 2 aO x6),.d (.int .i64 x7),.d (.int .i64 x8),.d (.int .i64 x10),.d (.int .i64 x11),.d (ah 2 aO x12),.d (ah 1 aN dO),.d (ah 1 cO x14),.d (ah 1 cO x15),.d (ah 2 aO x16),.d (.int .i64 x17),.d (.int .i64 x18),.d (ah 4 cZ x9),.d (ah 5 bU x19),.d (ah 3 dn x20),.d (ah 2 aO x21),.d (.int .i64 rW),.d (.int .i64 x23),.d (.int .i64 x24),.d (.int .i64 x25),.d (ah 3 dn Fj),.d (.int .i64 x27)]),(8,[.own 17,.d (.int .i64 v1.2)])],[(17,.owned (ah 1 cO v1.1))]⟩) (aci x0 x1 x2 x3 x5 x4 x6 x7 x8 x9 a1 v1) (fun q=>q=r) hr rfl ?_)
 ·exact lf
 ·intro s1 hr
  unfold aci at hr
  refine S.gx [10,11] ?_
  refine gr ?_
  refine dM hr (fun hc hr=> ?_) fun hc hr=>D0 hr
  obtain ⟨hg4,hr⟩:=aC hr
  obtain ⟨hg5,hr⟩:=aC hr
  obtain ⟨v2,hv2,hr⟩:=aQ hr
  refine gb hv2 ?_
  refine dM hr (fun hc hr=>D0 hr) fun hc hr=> ?_
  obtain ⟨v3,hv3,hr⟩:=aQ hr
  refine gb hv3 ?_
  refine dM hr (fun hc hr=> ?_) fun hc hr=> ?_
  ·refine gr ?_
   refine S.prune [10] ?_
   refine S.gx [11] ?_
   exact D0 hr
  ·refine gr ?_
   refine S.prune [1,3,8,11,23] ?_
   refine S.gx [10] ?_
   refine gr ?_
   refine gr ?_
   refine S.share 49 rfl ?_
   exact D1 (S.ss [1,3,8,9,23] [(3,3),(8,8)] [(17,17)]) hr
def acp (x1:bg) (x2:Int) (x0:bf) (a1:Int) (v1:Int×Int×au×aj×aZ×aZ×au×Int×Int×Int×Int×au×aj×aZ×aZ×au×Int×Int×bg×aW×bf×au×Int×Int×Int×Int×bf×Int×Int):Bd (Int×Int) (Int×Int):=fun s1=>
 if (decide (s1.2<(x0.length:Int)))=true then
  if 0≤s1.2∧s1.2<(x0.length:Int) then
   if (decide (((x0.getD s1.2.toNat default).2.1)≤x2))=true then
    .next (s1.1,IntKind.i64.wrap (s1.2+1))
    else if ((x1.length:Int) == 0)=true then
     .out (some (0,12))
     else aP (r68 v1.1 v1.2.1 v1.2.2.1 v1.2.2.2.1 v1.2.2.2.2.1 v1.2.2.2.2.2.1 v1.2.2.2.2.2.2.1 v1.2.2.2.2.2.2.2.1 v1.2.2.2.2.2.2.2.2.1 v1.2.2.2.2.2.2.2.2.2.1 v1.2.2.2.2.2.2.2.2.2.2.1 v1.2.2.2.2.2.2.2.2.2.2.2.1 v1.2.2.2.2.2.2.2.2.2.2.2.2.1 v1.2.2.2.2.2.2.2.2.2.2.2.2.2.1 v1.2.2.2.2.2.2.2.2.2.2.2.2.2.2.1 v1.2.2.2.2.2.2.2.2.2.2.2.2.2.2.2.1 v1.2.2.2.2.2.2.2.2.2.2.2.2.2.2.2.2.1 v1.2.2.2.2.2.2.2.2.2.2.2.2.2.2.2.2.2.1 v1.2.2.2.2.2.2.2.2.2.2.2.2.2.2.2.2.2.2.1 v1.2.2.2.2.2.2.2.2.2.2.2.2.2.2.2.2.2.2.2.1 v1.2.2.2.2.2.2.2.2.2.2.2.2.2.2.2.2.2.2.2.2.1 v1.2.2.2.2.2.2.2.2.2.2.2.2.2.2.2.2.2.2.2.2.2.1 v1.2.2.2.2.2.2.2.2.2.2.2.2.2.2.2.2.2.2.2.2.2.2.1 v1.2.2.2.2.2.2.2.2.2.2.2.2.2.2.2.2.2.2.2.2.2.2.2.1 v1.2.2.2.2.2.2.2.2.2.2.2.2.2.2.2.2.2.2.2.2.2.2.2.2.1 v1.2.2.2.2.2.2.2.2.2.2.2.2.2.2.2.2.2.2.2.2.2.2.2.2.2.1 v1.2.2.2.2.2.2.2.2.2.2.2.2.2.2.2.2.2.2.2.2.2.2.2.2.2.2.1 v1.2.2.2.2.2.2.2.2.2.2.2.2.2.2.2.2.2.2.2.2.2.2.2.2.2.2.2.1 ((x0.getD s1.2.toNat default).1) a1) fun v5=>
      if (!v5.2)=true then
       .out (some (0,12))
       else .next ((if s1.1<v5.1 then v5.1 else s1.1),IntKind.i64.wrap (s1.2+1))
   else .out none
  else .out (some (s1.1,0))
def r32 (x3 x4:Int) (x5:au) (x6:aj) (x7 x8:aZ) (x9:au) (x10 x11:Int) (x1:bg) (x12:aW) (dO:bf) (x14:au) (x2 x15 x16 x17:Int) (x0:bf) (x18 a1:Int):Option (Int×Int):=
 (r64 x3 x4 x5 x6 x7 x8 x9 x10 x11 x1 x12 dO x14 x2 x15 x16 x17 x0 x18).bind fun v1=>
  (yJ a1 1 10000).bind fun v2=>
   (lJ v2 2).bind fun v3=>
    (vP [v1.2.2.2.2.2.2.2.2.2.2.2.2.2.2.2.2.2.2.2.2.2.2.2.2.2.2.2.2,v3]).bind fun v4=>
     if (v4 != 0)=true then
      some (0,v4)
      else aS (acp x1 x2 x0 a1 v1) 1000000000 (0,0)
@[go_sem] def T32:=ara KR false r32
@[go_sem] def ayW (k:Nat):=lk [(37,T37.sp),(38,T38.sp),(39,T39.sp),(64,T64.sp),(68,T68.sp)] k
theorem f32:aF Tryz.prog 32 T32.sp:=by
 refine vm (tb:=ayW) (.cons f37 (.cons f38 (.cons f39 (.cons f64 (.cons f68 .nil))))) Tryz.func32 Tryz.ntmps32 fun ⟨x3,x4,x5,x6,x7,x8,x9,x10,x11,x1,x12,dO,x14,x2,x15,x16,x17,x0,x18,a1⟩ r hr stop S=> ?_
 rw [ahf,r32] at hr
 refine S.gx [14,16] ?_
 obtain ⟨v1,hv1,hr⟩:=aA hr
 obtain ⟨v2,hv2,hr⟩:=aA hr
 obtain ⟨v3,hv3,hr⟩:=aA hr
 obtain ⟨v4,hv4,hr⟩:=aA hr
 refine gb hv1 ?_
 refine gb hv2 ?_
 refine gb hv3 ?_
 refine gb hv4 ?_
 refine iW hr (fun hc hr=>D0 hr) fun hc hr=> ?_
 refine gr ?_
 refine S.sees [1,2,6,8,28,29,30] [(2,2),(6,6)] [] ?_ (Stop.iter S (fun s1=>⟨[(1,.c (.d (.int .i64 a1))),(2,.c (.ref 2 0)),(6,.c (.ref 6 0)),(8,.c (.d (.int .i64 s1.1))),(28,.c (.d (ah 3 dn x0))),(29,.c (.d (.int .i64 (x0.length:Int)))),(30,.c (.d (.int .i64 s1.2)))],[(2,[.d (.int .i64 x3),.d (.int .i64 x4),.d (ah 2 aO x5),.d (ah 1 aN x6),.d (ah 1 cO x7),.d (ah 1 cO x8),.d (ah 2 aO x9),.d (.int .i64 x10),.d (.int .i64 x11),.d (ah 4 cZ x1),.d (ah 5 bU x12),.d (ah 3 dn dO),.d (ah 2 aO x14),.d (.int .i64 x2),.d (.int .i64 x15),.d (.int .i64 x16),.d (.int .i64 x17),.d (ah 3 dn x0),.d (.int .i64 x18)]),(6,[.d (.int .i64 v1.1),.d (.int .i64 v1.2.1),.d (ah 2 aO v1.2.2.1),.d (ah 1 aN v1.2.2.2.1),.d (ah 1 cO v1.2.2.2.2.1),.d (ah 1 cO v1.2.2.2.2.2.1),.d (ah 2 aO v1.2.2.2.2.2.2.1),.d (.int .i64 v1.2.2.2.2.2.2.2.1),.d (.int .i64 v1.2.2.2.2.2.2.2.2.1),.d (.int .i64 v1.2.2.2.2.2.2.2.2.2.1),.d (.int .i64 v1.2.2.2.2.2.2.2.2.2.2.1),.d (ah 2 aO v1.2.2.2.2.2.2.2.2.2.2.2.1),.d (ah 1 aN v1.2.2.2.2.2.2.2.2.2.2.2.2.1),.d (ah 1 cO v1.2.2.2.2.2.2.2.2.2.2.2.2.2.1),.d (ah 1 cO v1.2.2.2.2.2.2.2.2.2.2.2.2.2.2.1),.d (ah 2 aO v1.2.2.2.2.2.2.2.2.2.2.2.2.2.2.2.1),.d (.int .i64 v1.2.2.2.2.2.2.2.2.2.2.2.2.2.2.2.2.1),.d (.int .i64 v1.2.2.2.2.2.2.2.2.2.2.2.2.2.2.2.2.2.1),.d (ah 4 cZ v1.2.2.2.2.2.2.2.2.2.2.2.2.2.2.2.2.2.2.1),.d (ah 5 bU v1.2.2.2.2.2.2.2.2.2.2.2.2.2.2.2.2.2.2.2.1),.d (ah 3 dn v1.2.2.2.2.2.2.2.2.2.2.2.2.2.2.2.2.2.2.2.2.1),.d (ah 2 aO v1.2.2.2.2.2.2.2.2.2.2.2.2.2.2.2.2.2.2.2.2.2.1),.d (.int .i64 v1.2.2.2.2.2.2.2.2.2.2.2.2.2.2.2.2.2.2.2.2.2.2.1),.d (.int .i64 v1.2.2.2.2.2.2.2.2.2.2.2.2.2.2.2.2.2.2.2.2.2.2.2.1),.d (.int .i64 v1.2.2.2.2.2.2.2.2.2.2.2.2.2.2.2.2.2.2.2.2.2.2.2.2.1),.d (.int .i64 v1.2.2.2.2.2.2.2.2.2.2.2.2.2.2.2.2.2.2.2.2.2.2.2.2.2.1),.d (ah 3 dn v1.2.2.2.2.2.2.2.2.2.2.2.2.2.2.2.2.2.2.2.2.2.2.2.2.2.2.1),.d (.int .i64 v1.2.2.2.2.2.2.2.2.2.2.2.2.2.2.2.2.2.2.2.2.2.2.2.2.2.2.2.1)])],[]⟩) (acp x1 x2 x0 a1 v1) (fun q=>q=r) hr rfl ?_)
 ·exact lf
 ·intro s1 hr
  unfold acp at hr
  refine S.gx [14,16] ?_
  refine gr ?_
  refine dM hr (fun hc hr=> ?_) fun hc hr=>D0 hr
  obtain ⟨hg6,hr⟩:=aC hr
  refine gr ?_
  refine dM hr (fun hc hr=> ?_) fun hc hr=> ?_
  ·refine gr ?_
   refine S.prune [1,2,6,8,28,29,30] ?_
   refine S.gx [14] ?_
   exact D1 (S.ss [1,2,6,8,28,29,30] [(2,2),(6,6)] []) hr
  ·refine gr ?_
   refine dM hr (fun hc hr=>D0 hr) fun hc hr=> ?_
   obtain ⟨v5,hv5,hr⟩:=aQ hr
   refine gb hv5 ?_
   refine dM hr (fun hc hr=> ?_) fun hc hr=> ?_
   ·refine gr ?_
    refine S.prune [] ?_
    refine S.gx [16] ?_
    exact D0 hr
   ·refine gr ?_
    refine S.prune [1,2,6,8,28,29,30] ?_
    refine S.gx [14] ?_
    exact D1 (S.ss [1,2,6,8,28,29,30] [(2,2),(6,6)] []) hr
def KI (a0 a1:ByteArray):Option (Int):=
 um a0 a1
@[go_sem] def auI:=Zq lK false KI
theorem f202:aF Tryz.prog 202 auI.sp:=⟨⟨Tryz.f202,Tryz.func202,by decide,rfl⟩,IY (fun _=>rfl) (fun _=>rfl) (fun _=>rfl) rfl⟩
def ahL (a0 a1:ByteArray):Option (Bool):=
 if (decide ((a0.size:Int)≥(a1.size:Int)))=true→0≤0∧0≤(a1.size:Int)∧(a1.size:Int)≤(a0.size:Int) then
  some ((decide ((a0.size:Int)≥(a1.size:Int))) && (decide ((a0.extract 0 a1.size)=a1)))
  else none
@[go_sem] def auG:=Zq qE false ahL
theorem f204:aF Tryz.prog 204 auG.sp:=by
 refine vm .nil Tryz.func204 Tryz.ntmps204 fun ⟨a0,a1⟩ r hr stop S=> ?_
 rw [yK,ahL] at hr
 refine S.gx [] ?_
 obtain ⟨hg1,hr⟩:=aH hr
 repeat (first | refine gG hg1 ?_ | refine gA ?_ | refine gB ?_)
 exact D0 hr
def ahQ (a0 a1:ByteArray):Option (ByteArray×Bool):=
 (ahL a0 a1).bind fun v1=>
  if (!v1)=true then
   some (a0,false)
   else if 0≤(a1.size:Int)∧(a1.size:Int)≤(a0.size:Int)∧(a0.size:Int)≤(a0.size:Int) then
    some (a0.extract a1.size a0.size,true)
    else none
@[go_sem] def auR:=Zq ah5 false ahQ
@[go_sem] def am9 (k:Nat):=lk [(204,auG.sp)] k
theorem f183:aF Tryz.prog 183 auR.sp:=by
 refine vm (tb:=am9) (.cons f204 .nil) Tryz.func183 Tryz.ntmps183 fun ⟨a0,a1⟩ r hr stop S=> ?_
 rw [yK,ahQ] at hr
 refine S.gx [] ?_
 exact D0 hr
def Iz (a0 a1:ByteArray):Option (ByteArray×Bool):=
 (ahQ a0 a1).bind fun v1=>
  some (v1.1,v1.2)
@[go_sem] def avc:=Zq ah5 false Iz
@[go_sem] def anw (k:Nat):=lk [(183,auR.sp)] k
theorem f144:aF Tryz.prog 144 avc.sp:=by
 refine vm (tb:=anw) (.cons f183 .nil) Tryz.func144 Tryz.ntmps144 fun ⟨a0,a1⟩ r hr stop S=> ?_
 rw [yK,Iz] at hr
 refine S.gx [] ?_
 exact D0 hr
def an8 (a0:ByteArray):Option (Int×Bool):=
 Ho a0
@[go_sem] def auH:=ah' apt false an8
theorem f203:aF Tryz.prog 203 auH.sp:=⟨⟨Tryz.f203,Tryz.func203,by decide,rfl⟩,ZU (fun _=>rfl) (fun _=>rfl) (fun _=>rfl) rfl⟩
def r71 (a0:Int):Option (ByteArray):=
 LP a0
@[go_sem] def T71:=KT aem false r71
theorem f71:aF Tryz.prog 71 T71.sp:=⟨⟨Tryz.f71,Tryz.func71,by decide,rfl⟩,ZT (fun _=>rfl) (fun _=>rfl) (fun _=>rfl) rfl⟩
def OW (a0:ByteArray):Option (Int×Bool):=
 (an8 a0).bind fun v1=>
  if ((!v1.2) && (decide (v1.1≥0)))=true→(r71 v1.1).isSome=true then
   some (v1.1,(((!v1.2) && (decide (v1.1≥0))) && (decide (((r71 v1.1).getD default)=a0))) && (decide ((a0.size:Int)≤5)))
   else none
@[go_sem] def auS:=ah' qu6 false OW
@[go_sem] def am' (k:Nat):=lk [(71,T71.sp),(203,auH.sp)] k
theorem f182:aF Tryz.prog 182 auS.sp:=by
 refine vm (tb:=am') (.cons f71 (.cons f203 .nil)) Tryz.func182 Tryz.ntmps182 fun a0 r hr stop S=> ?_
 rw [rF,OW] at hr
 refine S.gx [] ?_
 obtain ⟨v1,hv1,hr⟩:=aA hr
 obtain ⟨hg2,hr⟩:=aH hr
 try simp only [hv1,oG,oI,true_and,and_assoc]
 repeat (first | refine gG hg2 ?_ | refine gA ?_ | refine gB ?_)
 exact D0 hr
end Go.Proofs.YtofkgmldcjagmaaGreatDoor

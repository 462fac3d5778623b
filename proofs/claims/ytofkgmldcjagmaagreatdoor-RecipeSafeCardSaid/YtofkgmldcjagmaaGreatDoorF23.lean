/- Contracts of functions, written by wip/dec. -/
import Derived.Test.YtofkgmldcjagmaaGreatDoorF00
import Derived.Test.YtofkgmldcjagmaaGreatDoorF12
import Derived.Test.YtofkgmldcjagmaaGreatDoorF21
set_option linter.unusedVariables false
set_option linter.unusedSimpArgs false
set_option linter.constructorNameAsVariable false
set_option maxHeartbeats 4000000
set_option maxRecDepth 20000
namespace Go.Proofs.YtofkgmldcjagmaaGreatDoor
open Go.dG
section
variable {β:Type} [Inhabited β] (u:β→List RV) (al:Bool)
def aog (a0 a1:bY):List Arg:=[.c (ah 3 dU a0),.c (ah 3 dU a1)]
def apW:List Arg→bY×bY
 | [.c c0,.c c1]=>(aG jX c0,aG jX c1)
 | _=>default
def azx (r:bY→bY→Option β):=mkT (u2 aog) apW (u2 r) u al
attribute [go_sem] aog apW azx
def aof (a0:au) (a1:Bool):List Arg:=[.c (ah 2 aO a0),.c (.bool a1)]
def apV:List Arg→au×Bool
 | [.c c0,.c c1]=>(aG bW c0,abB c1)
 | _=>default
def azw (r:au→Bool→Option β):=mkT (u2 aof) apV (u2 r) u al
attribute [go_sem] aof apV azw
def aoe (a0 a1:Int) (a2:au) (a3:aj) (a4 a5:Int):List Arg:=[.agg [.int .i64 a0,.int .i64 a1,ah 2 aO a2,ah 1 aN a3],.c (.int .i64 a4),.c (.int .i64 a5)]
def apU:List Arg→Int×Int×au×aj×Int×Int
 | [.agg [c0,c1,c2,c3],.c c4,.c c5]=>(aB c0,aB c1,aG bW c2,aG bP c3,aB c4,aB c5)
 | _=>default
def azv (r:Int→Int→au→aj→Int→Int→Option β):=mkT (u6 aoe) apU (u6 r) u al
attribute [go_sem] aoe apU azv
def aod (a0 a1:Int) (a2:au) (a3:aj) (a4 a5:aZ) (a6:Int):List Arg:=[.agg [.int .i64 a0,.int .i64 a1,ah 2 aO a2,ah 1 aN a3],.c (ah 1 cO a4),.c (ah 1 cO a5),.c (.int .i64 a6)]
def apT:List Arg→Int×Int×au×aj×aZ×aZ×Int
 | [.agg [c0,c1,c2,c3],.c c4,.c c5,.c c6]=>(aB c0,aB c1,aG bW c2,aG bP c3,aG jQ c4,aG jQ c5,aB c6)
 | _=>default
def azu (r:Int→Int→au→aj→aZ→aZ→Int→Option β):=mkT (u7 aod) apT (u7 r) u al
attribute [go_sem] aod apT azu
def aoc (a0 a1:Int) (a2:au) (a3:aj) (a4 a5:aZ) (a6:au) (a7 a8:Int):List Arg:=[.agg [.int .i64 a0,.int .i64 a1,ah 2 aO a2,ah 1 aN a3],.agg [ah 1 cO a4,ah 1 cO a5],.agg [ah 2 aO a6,.int .i64 a7,.int .i64 a8]]
def apS:List Arg→Int×Int×au×aj×aZ×aZ×au×Int×Int
 | [.agg [c0,c1,c2,c3],.agg [c4,c5],.agg [c6,c7,c8]]=>(aB c0,aB c1,aG bW c2,aG bP c3,aG jQ c4,aG jQ c5,aG bW c6,aB c7,aB c8)
 | _=>default
def azt (r:Int→Int→au→aj→aZ→aZ→au→Int→Int→Option β):=mkT (u9 aoc) apS (u9 r) u al
attribute [go_sem] aoc apS azt
def aob (a0 a1:aj):List Arg:=[.c (ah 1 aN a0),.c (ah 1 aN a1)]
def apR:List Arg→aj×aj
 | [.c c0,.c c1]=>(aG bP c0,aG bP c1)
 | _=>default
def azs (r:aj→aj→Option β):=mkT (u2 aob) apR (u2 r) u al
attribute [go_sem] aob apR azs
def azp (v:bY×Int):List RV:=[.c (.own (ah 3 dU v.1)),.c (.d (.int .i64 v.2))]
attribute [go_sem] azp
def azo (v:aZ×Int×Bool):List RV:=[.c (.own (ah 1 cO v.1)),.c (.d (.int .i64 v.2.1)),.c (.d (.bool v.2.2))]
attribute [go_sem] azo
def azn (v:aZ×aZ×Bool):List RV:=[.agg [.own (ah 1 cO v.1),.own (ah 1 cO v.2.1)],.c (.d (.bool v.2.2))]
attribute [go_sem] azn
def azm (v:gJ×Bool):List RV:=[.c (.own (ah 2 iH v.1)),.c (.d (.bool v.2))]
attribute [go_sem] azm
def azl (v:aj×Bool):List RV:=[.c (.own (ah 1 aN v.1)),.c (.d (.bool v.2))]
attribute [go_sem] azl
end
def Jz (a0:au) (a1:Bool):Bd ((List (Int))×Int) aZ:=fun s1=>
 if (decide (s1.2<(a0.length:Int)))=true then
  if a1=true then
   if 0≤s1.2∧s1.2<(a0.length:Int) then
    if (s1.1.length+1)*8≤140737488355328∧s1.1.length+1≤9223372036854775807 then
     .next (s1.1++[(a0.getD s1.2.toNat default).2],IntKind.i64.wrap (s1.2+1))
     else .out none
    else .out none
   else if 0≤s1.2∧s1.2<(a0.length:Int) then
    if (s1.1.length+1)*8≤140737488355328∧s1.1.length+1≤9223372036854775807 then
     .next (s1.1++[(a0.getD s1.2.toNat default).1],IntKind.i64.wrap (s1.2+1))
     else .out none
    else .out none
  else .out (some s1.1)
def aek (a0:au) (a1:Bool):Option (aZ):=
 aS (Jz a0 a1) 1000000000 ([],0)
def ahV (x1 x0:Int) (x2:au) (x3:aj) (a1 a2:Int):Option (Int×Int):=
 (Zf x1 x0 x2 x3 a1).bind fun v1=>
  (Zf x1 x0 x2 x3 a2).bind fun v2=>
   (r52 (IntKind.i64.wrap (x0*(IntKind.i64.wrap ((IntKind.i64.wrap (v1.1*v2.2)) - (IntKind.i64.wrap (v2.1*v1.2)))))) (IntKind.i64.wrap ((IntKind.i64.wrap (1000*v1.2))*v2.2))).bind fun v3=>
    some (IntKind.i64.wrap (a1 - v3),IntKind.i64.wrap (a2+v3))
def rD (x0 x1:Int) (x2:au) (x3:aj) (s1:Int×(List (Int))):Bd (Int×(List (Int))) (gK (Int×(List (Int))) (aZ)):=fun s2=>
 if (decide ((IntKind.i64.wrap (s2.1+1))<(s2.2.length:Int)))=true then
  if 0≤s2.1∧s2.1<(s2.2.length:Int) then
   if 0≤IntKind.i64.wrap (s2.1+1)∧IntKind.i64.wrap (s2.1+1)<(s2.2.length:Int) then
    aP (ahV x0 x1 x2 x3 (s2.2.getD s2.1.toNat default) (s2.2.getD (IntKind.i64.wrap (s2.1+1)).toNat default)) fun v2=>
     if 0≤s2.1∧s2.1<(s2.2.length:Int) then
      if 0≤IntKind.i64.wrap (s2.1+1)∧IntKind.i64.wrap (s2.1+1)<(s2.2.length:Int) then
       .next (IntKind.i64.wrap (s2.1+2),(s2.2.set s2.1.toNat v2.1).set (IntKind.i64.wrap (s2.1+1)).toNat v2.2)
       else .out none
      else .out none
    else .out none
   else .out none
  else .out (some (.next (IntKind.i64.wrap (s1.1+1),s2.2)))
def zI (x0 x1:Int) (x2:au) (x3:aj):Bd (Int×(List (Int))) aZ:=fun s1=>
 if (decide (s1.1<2))=true then
  (aS (rD x0 x1 x2 x3 s1) 1000000000 (s1.1,s1.2)).getD (.out none)
  else .out (some s1.2)
def ah4 (x0 x1:Int) (x2:au) (x3:aj) (a1:aZ):Option (aZ):=
 (r79 a1).bind fun v1=>
  aS (zI x0 x1 x2 x3) 1000000000 (0,v1)
def ah3 (x1 x2:Int) (x3:au) (x0:aj) (a1 a2:Int):Option (Int):=
 (Zf x1 x2 x3 x0 a2).bind fun v1=>
  if 0≤a1∧a1<(x0.length:Int) then
   (sO (x0.getD a1.toNat default) v1.1 v1.2).bind fun v2=>
    (r52 v2.1 v2.2).bind fun v3=>
     some v3
   else none
def GY (x0 x1:Int) (x2:au) (x3:aj) (v2:Int) (s1:Int×(List (Int))):Bd Int (aZ×Int×Bool):=fun s2=>
 if (decide (s2<(s1.2.length:Int)))=true then
  if 0≤s2∧s2<(s1.2.length:Int) then
   aP (WW x0 x1 x2 x3 (s1.2.getD s2.toNat default)) fun v6=>
    if (!v6)=true then
     .out (some ([],0,false))
     else .next (IntKind.i64.wrap (s2+1))
   else .out none
  else .out (some (s1.2,v2,true))
def VO (x0 x1:Int) (x2:au) (x3:aj) (a2:aZ) (v2:Int):Bd (Int×(List (Int))) (aZ×Int×Bool):=fun s1=>
 if (decide (s1.1<(s1.2.length:Int)))=true then
  if 0≤s1.1∧s1.1<(s1.2.length:Int) then
   if 0≤s1.1∧s1.1<(a2.length:Int) then
    if 0≤s1.1∧s1.1<(s1.2.length:Int) then
     .next (IntKind.i64.wrap (s1.1+1),s1.2.set s1.1.toNat (IntKind.i64.wrap ((s1.2.getD s1.1.toNat default)+(a2.getD s1.1.toNat default))))
     else .out none
    else .out none
   else .out none
  else .out (aS (GY x0 x1 x2 x3 v2 s1) 1000000000 0)
def r80 (x0 x1:Int) (x2:au) (x3:aj) (a1 a2:aZ) (a3:Int):Option (aZ×Int×Bool):=
 (ah4 x0 x1 x2 x3 a1).bind fun v1=>
  if 0≤0∧0<(v1.length:Int) then
   (ah3 x0 x1 x2 x3 a3 (v1.getD 0 default)).bind fun v2=>
    if 0≤0∧0<(v1.length:Int) then
     if 0≤0∧0<(v1.length:Int) then
      aS (VO x0 x1 x2 x3 a2 v2) 1000000000 (0,v1.set 0 (IntKind.i64.wrap ((v1.getD 0 default) - v2)))
      else none
     else none
   else none
def r92 (x0 x1:Int) (x2:au) (x3:aj) (x5 x6:aZ) (x4:au) (x7 x8:Int):Option (aZ×aZ×Bool):=
 (aek x4 false).bind fun v1=>
  (r80 x0 x1 x2 x3 x5 v1 x8).bind fun v2=>
   (aek x4 true).bind fun v3=>
    (r80 x0 x1 x2 x3 x6 v3 x7).bind fun v4=>
     if ((!v2.2.2) || (!v4.2.2))=true then
      some ([],[],false)
      else some (v2.1,v4.1,true)
def VP (x0 x1:Int) (x2:au) (x3:aj) (a2:bY):Bd ((List (aZ×aZ))×Int×aZ×aZ) (gJ×Bool):=fun s1=>
 if (decide (s1.2.1<(a2.length:Int)))=true then
  if 0≤s1.2.1∧s1.2.1<(a2.length:Int) then
   aP (r92 x0 x1 x2 x3 s1.2.2.1 s1.2.2.2 ((a2.getD s1.2.1.toNat default).1) ((a2.getD s1.2.1.toNat default).2.1) ((a2.getD s1.2.1.toNat default).2.2)) fun v1=>
    if (!v1.2.2)=true then
     .out (some ([],false))
     else if (s1.1.length+1)*48≤140737488355328∧s1.1.length+1≤9223372036854775807 then
      .next (s1.1++[(v1.1,v1.2.1)],IntKind.i64.wrap (s1.2.1+1),v1.1,v1.2.1)
      else .out none
   else .out none
  else .out (some (s1.1,true))
def r60 (x0 x1:Int) (x2:au) (x3:aj) (x4 x5:aZ) (a2:bY):Option (gJ×Bool):=
 aS (VP x0 x1 x2 x3 a2) 1000000000 ([],0,x4,x5)
end Go.Proofs.YtofkgmldcjagmaaGreatDoor

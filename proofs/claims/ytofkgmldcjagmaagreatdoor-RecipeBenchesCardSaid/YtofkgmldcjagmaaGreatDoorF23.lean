/- Contracts of functions, written by wip/dec. -/
import Derived.Test.YtofkgmldcjagmaaGreatDoorF00
import Derived.Test.YtofkgmldcjagmaaGreatDoorF06
import Derived.Test.YtofkgmldcjagmaaGreatDoorF10
import Derived.Test.YtofkgmldcjagmaaGreatDoorF12
import Derived.Test.YtofkgmldcjagmaaGreatDoorF21
import Derived.Test.YtofkgmldcjagmaaGreatDoorF22
set_option linter.unusedVariables false
set_option linter.unusedSimpArgs false
set_option linter.constructorNameAsVariable false
set_option maxHeartbeats 4000000
set_option maxRecDepth 20000
namespace Go.Proofs.YtofkgmldcjagmaaGreatDoor
open Go.dJ
section
variable {β:Type} [Inhabited β] (u:β→List RV) (al:Bool)
def anI (a0 a1:bQ):List Arg:=[.c (ah 3 dH a0),.c (ah 3 dH a1)]
def apm:List Arg→bQ×bQ
 | [.c c0,.c c1]=>(aG jT c0,aG jT c1)
 | _=>default
def aqB (r:bQ→bQ→Option β):=mkT (u2 anI) apm (u2 r) u al
attribute [go_sem] anI apm aqB
def anH (a0:au) (a1:Bool):List Arg:=[.c (ah 2 aO a0),.c (.bool a1)]
def apl:List Arg→au×Bool
 | [.c c0,.c c1]=>(aG bY c0,aaY c1)
 | _=>default
def aqA (r:au→Bool→Option β):=mkT (u2 anH) apl (u2 r) u al
attribute [go_sem] anH apl aqA
def anG (a0 a1:Int) (a2:au) (a3:aj) (a4 a5:Int):List Arg:=[.agg [.int .i64 a0,.int .i64 a1,ah 2 aO a2,ah 1 aN a3],.c (.int .i64 a4),.c (.int .i64 a5)]
def apk:List Arg→Int×Int×au×aj×Int×Int
 | [.agg [c0,c1,c2,c3],.c c4,.c c5]=>(aB c0,aB c1,aG bY c2,aG bP c3,aB c4,aB c5)
 | _=>default
def ahr (r:Int→Int→au→aj→Int→Int→Option β):=mkT (u6 anG) apk (u6 r) u al
attribute [go_sem] anG apk ahr
def anF (a0 a1:Int) (a2:au) (a3:aj) (a4 a5:aZ) (a6:Int):List Arg:=[.agg [.int .i64 a0,.int .i64 a1,ah 2 aO a2,ah 1 aN a3],.c (ah 1 cO a4),.c (ah 1 cO a5),.c (.int .i64 a6)]
def apj:List Arg→Int×Int×au×aj×aZ×aZ×Int
 | [.agg [c0,c1,c2,c3],.c c4,.c c5,.c c6]=>(aB c0,aB c1,aG bY c2,aG bP c3,aG jM c4,aG jM c5,aB c6)
 | _=>default
def aqz (r:Int→Int→au→aj→aZ→aZ→Int→Option β):=mkT (u7 anF) apj (u7 r) u al
attribute [go_sem] anF apj aqz
def anE (a0 a1:Int) (a2:au) (a3:aj) (a4 a5:aZ) (a6:au) (a7 a8:Int):List Arg:=[.agg [.int .i64 a0,.int .i64 a1,ah 2 aO a2,ah 1 aN a3],.agg [ah 1 cO a4,ah 1 cO a5],.agg [ah 2 aO a6,.int .i64 a7,.int .i64 a8]]
def aph:List Arg→Int×Int×au×aj×aZ×aZ×au×Int×Int
 | [.agg [c0,c1,c2,c3],.agg [c4,c5],.agg [c6,c7,c8]]=>(aB c0,aB c1,aG bY c2,aG bP c3,aG jM c4,aG jM c5,aG bY c6,aB c7,aB c8)
 | _=>default
def aqy (r:Int→Int→au→aj→aZ→aZ→au→Int→Int→Option β):=mkT (u9 anE) aph (u9 r) u al
attribute [go_sem] anE aph aqy
def anD (a0 a1:aj):List Arg:=[.c (ah 1 aN a0),.c (ah 1 aN a1)]
def apg:List Arg→aj×aj
 | [.c c0,.c c1]=>(aG bP c0,aG bP c1)
 | _=>default
def aqx (r:aj→aj→Option β):=mkT (u2 anD) apg (u2 r) u al
attribute [go_sem] anD apg aqx
def aoR (v:bQ×Int):List RV:=[.c (.own (ah 3 dH v.1)),.c (.d (.int .i64 v.2))]
attribute [go_sem] aoR
def aoQ (v:aZ×Int×Bool):List RV:=[.c (.own (ah 1 cO v.1)),.c (.d (.int .i64 v.2.1)),.c (.d (.bool v.2.2))]
attribute [go_sem] aoQ
def aoP (v:aZ×aZ×Bool):List RV:=[.agg [.own (ah 1 cO v.1),.own (ah 1 cO v.2.1)],.c (.d (.bool v.2.2))]
attribute [go_sem] aoP
def aoO (v:eU×Bool):List RV:=[.c (.own (ah 2 fO v.1)),.c (.d (.bool v.2))]
attribute [go_sem] aoO
def aoN (v:aj×Bool):List RV:=[.c (.own (ah 1 aN v.1)),.c (.d (.bool v.2))]
attribute [go_sem] aoN
end
def r21 (x0 x1:Int) (x2:au) (x3:aj) (x4 x5:aZ) (x6:au) (x7 x8:Int) (a1:au):Option (bQ×Int):=
 (r36 x0 x1 x2 x3 x4 x5 x6 x7 x8 a1).bind fun v1=>
  if (v1.2.2.2.2.2.2.2.2.2 != 0)=true then
   some ([],v1.2.2.2.2.2.2.2.2.2)
   else (r56 v1.1 v1.2.1 v1.2.2.1 v1.2.2.2.1 v1.2.2.2.2.1 v1.2.2.2.2.2.1 v1.2.2.2.2.2.2.1 v1.2.2.2.2.2.2.2.1 v1.2.2.2.2.2.2.2.2.1 a1).bind fun v2=>
    some (v2,0)
@[go_sem] def T21:=BJ aoR true r21
@[go_sem] def ayL (k:Nat):=lk [(36,T36.sp),(56,T56.sp)] k
theorem f21:aF Tryz.prog 21 T21.sp:=by
 refine vm (tb:=ayL) (.cons f36 (.cons f56 .nil)) Tryz.func21 Tryz.ntmps21 fun ⟨x0,x1,x2,x3,x4,x5,x6,x7,x8,a1⟩ r hr stop S=> ?_
 rw [xU,r21] at hr
 refine S.gx [] ?_
 exact D0 hr
def DX (x0:au) (a1 a2:Int):Bd ((List (Int))×Int) aZ:=fun s1=>
 if (decide (s1.2<(x0.length:Int)))=true then
  if 0≤s1.2∧s1.2<(x0.length:Int) then
   if 0≤s1.2∧s1.2<(x0.length:Int) then
    aP (Ko (IntKind.i64.wrap (((x0.getD s1.2.toNat default).1)+((x0.getD s1.2.toNat default).2))) 2) fun v1=>
     if (decide (a2<0))=true then
      if 0≤s1.2∧s1.2<(x0.length:Int) then
       if (decide (a2>0))=true then
        if 0≤s1.2∧s1.2<(x0.length:Int) then
         aP (Ko (IntKind.i64.wrap (a1*((x0.getD s1.2.toNat default).2))) 1000) fun v2=>
          if (s1.1.length+1)*8≤140737488355328∧s1.1.length+1≤9223372036854775807 then
           .next (s1.1++[v2],IntKind.i64.wrap (s1.2+1))
           else .out none
         else .out none
        else aP (Ko (IntKind.i64.wrap (a1*((x0.getD s1.2.toNat default).1))) 1000) fun v5=>
         if (s1.1.length+1)*8≤140737488355328∧s1.1.length+1≤9223372036854775807 then
          .next (s1.1++[v5],IntKind.i64.wrap (s1.2+1))
          else .out none
       else .out none
      else if (decide (a2>0))=true then
       if 0≤s1.2∧s1.2<(x0.length:Int) then
        aP (Ko (IntKind.i64.wrap (a1*((x0.getD s1.2.toNat default).2))) 1000) fun v8=>
         if (s1.1.length+1)*8≤140737488355328∧s1.1.length+1≤9223372036854775807 then
          .next (s1.1++[v8],IntKind.i64.wrap (s1.2+1))
          else .out none
        else .out none
       else aP (Ko (IntKind.i64.wrap (a1*v1)) 1000) fun v11=>
        if (s1.1.length+1)*8≤140737488355328∧s1.1.length+1≤9223372036854775807 then
         .next (s1.1++[v11],IntKind.i64.wrap (s1.2+1))
         else .out none
    else .out none
   else .out none
  else .out (some s1.1)
def r59 (x1 x2:Int) (x3:au) (x4:aj) (x5 x6:aZ) (x0:au) (x7 x8 a1 a2:Int):Option (aZ):=
 aS (DX x0 a1 a2) 1000000000 ([],0)
@[go_sem] def T59:=adN YS false r59
@[go_sem] def ayq (k:Nat):=lk [(52,T52.sp)] k
theorem f59:aF Tryz.prog 59 T59.sp:=by
 refine vm (tb:=ayq) (.cons f52 .nil) Tryz.func59 Tryz.ntmps59 fun ⟨x1,x2,x3,x4,x5,x6,x0,x7,x8,a1,a2⟩ r hr stop S=> ?_
 rw [X3,r59] at hr
 refine S.gx [4,9] ?_
 refine gr ?_
 refine S.yj 7 1000700 1 rfl rfl ?_
 refine S.sees [1,2,3,7,8] [(3,3)] [(1000700,1000700)] ?_ (Stop.iter S (fun s1=>⟨[(1,.c (.d (.int .i64 a1))),(2,.c (.d (.int .i64 a2))),(3,.c (.ref 3 0)),(7,.c (.own 1000700)),(8,.c (.d (.int .i64 s1.2)))],[(3,[.d (.int .i64 x1),.d (.int .i64 x2),.d (ah 2 aO x3),.d (ah 1 aN x4),.d (ah 1 cO x5),.d (ah 1 cO x6),.d (ah 2 aO x0),.d (.int .i64 x7),.d (.int .i64 x8)])],[(1000700,.owned (ah 1 cO s1.1))]⟩) (DX x0 a1 a2) (fun q=>q=r) hr rfl ?_)
 ·exact lf
 ·intro s1 hr
  unfold DX at hr
  refine S.gx [4,9] ?_
  refine gr ?_
  refine dN hr (fun hc hr=> ?_) fun hc hr=>D0 hr
  obtain ⟨IE,hr⟩:=aC hr
  obtain ⟨Z8,hr⟩:=aC hr
  obtain ⟨v1,hv1,hr⟩:=aQ hr
  refine gb hv1 ?_
  refine dN hr (fun hc hr=> ?_) fun hc hr=> ?_
  ·obtain ⟨XT,hr⟩:=aC hr
   refine gr ?_
   refine dN hr (fun hc hr=> ?_) fun hc hr=> ?_
   ·refine gr ?_
    refine S.prune [1,2,3,7,8] ?_
    refine S.gx [4] ?_
    obtain ⟨hg4,hr⟩:=aC hr
    refine gr ?_
    obtain ⟨v2,hv2,hr⟩:=aQ hr
    obtain ⟨hg3,hr⟩:=aC hr
    refine gb hv2 ?_
    refine S.prune [1,2,3,7,8] ?_
    refine S.gx [9] ?_
    exact D1 (S.ss [1,2,3,7,8] [(3,3)] [(53,1000700)]) hr
   ·obtain ⟨v5,hv5,hr⟩:=aQ hr
    obtain ⟨hg6,hr⟩:=aC hr
    refine gb hv5 ?_
    refine S.prune [1,2,3,7,8] ?_
    refine S.gx [9] ?_
    exact D1 (S.ss [1,2,3,7,8] [(3,3)] [(53,1000700)]) hr
  ·refine gr ?_
   refine dN hr (fun hc hr=> ?_) fun hc hr=> ?_
   ·refine gr ?_
    refine S.prune [1,2,3,7,8] ?_
    refine S.gx [4] ?_
    obtain ⟨vH,hr⟩:=aC hr
    refine gr ?_
    obtain ⟨v8,OY,hr⟩:=aQ hr
    obtain ⟨O9,hr⟩:=aC hr
    refine gb OY ?_
    refine S.prune [1,2,3,7,8] ?_
    refine S.gx [9] ?_
    exact D1 (S.ss [1,2,3,7,8] [(3,3)] [(53,1000700)]) hr
   ·obtain ⟨v11,IC,hr⟩:=aQ hr
    obtain ⟨CP,hr⟩:=aC hr
    refine gb IC ?_
    refine S.prune [1,2,3,7,8] ?_
    refine S.gx [9] ?_
    exact D1 (S.ss [1,2,3,7,8] [(3,3)] [(53,1000700)]) hr
def DZ (x1:aj) (x0:Int) (a1:au) (s1:(List (au×Int×Int))×Int) (v1 v2:aZ):Bd (Int×(List (Int×Int))) (gy ((List (au×Int×Int))×Int) (bQ)):=fun s2=>
 if (decide (s2.1<(v1.length:Int)))=true then
  if 0≤s2.1∧s2.1<(v1.length:Int) then
   if 0≤s2.1∧s2.1<(v2.length:Int) then
    if (s2.2.length+1)*16≤140737488355328∧s2.2.length+1≤9223372036854775807 then
     .next (IntKind.i64.wrap (s2.1+1),s2.2++[((v1.getD s2.1.toNat default),(v2.getD s2.1.toNat default))])
     else .out none
    else .out none
   else .out none
  else .out (some (if 0≤s1.2∧s1.2<(a1.length:Int) then
   if 0≤s1.2∧s1.2<(a1.length:Int) then
    if (s1.1.length+1)*40≤140737488355328∧s1.1.length+1≤9223372036854775807 then
     .next (s1.1++[(s2.2,(if 0<IntKind.i64.wrap (((a1.getD s1.2.toNat default).2) - x0) then IntKind.i64.wrap (((a1.getD s1.2.toNat default).2) - x0) else 0),(if IntKind.i64.wrap (((a1.getD s1.2.toNat default).2)+x0)<IntKind.i64.wrap ((x1.length:Int) - 1) then IntKind.i64.wrap (((a1.getD s1.2.toNat default).2)+x0) else IntKind.i64.wrap ((x1.length:Int) - 1)))],IntKind.i64.wrap (s1.2+1))
     else .out none
    else .out none
   else .out none))
def Gv (x2 x3:Int) (x4:au) (x1:aj) (x5 x6:aZ) (x7:au) (x8 x0:Int) (a1:au):Bd ((List (au×Int×Int))×Int) bQ:=fun s1=>
 if (decide (s1.2<(a1.length:Int)))=true then
  if 0≤s1.2∧s1.2<(a1.length:Int) then
   aP (r59 x2 x3 x4 x1 x5 x6 x7 x8 x0 ((a1.getD s1.2.toNat default).1) (-1)) fun v1=>
    if 0≤s1.2∧s1.2<(a1.length:Int) then
     aP (r59 x2 x3 x4 x1 x5 x6 x7 x8 x0 ((a1.getD s1.2.toNat default).1) 1) fun v2=>
      (aS (DZ x1 x0 a1 s1 v1 v2) 1000000000 (0,[])).getD (.out none)
     else .out none
   else .out none
  else .out (some s1.1)
def Yz (x2 x3:Int) (x4:au) (x1:aj) (x5 x6:aZ) (x7:au) (x8 x0:Int) (a1:au):Option (bQ):=
 aS (Gv x2 x3 x4 x1 x5 x6 x7 x8 x0 a1) 1000000000 ([],0)
@[go_sem] def T24:=BJ ahp true Yz
@[go_sem] def ayI (k:Nat):=lk [(59,T59.sp)] k
theorem f24:aF Tryz.prog 24 T24.sp:=by
 refine vm (tb:=ayI) (.cons f59 .nil) Tryz.func24 Tryz.ntmps24 fun ⟨x2,x3,x4,x1,x5,x6,x7,x8,x0,a1⟩ r hr stop S=> ?_
 rw [xU,Yz] at hr
 refine S.gx [12] ?_
 refine gr ?_
 refine S.yj 5 1000500 3 rfl rfl ?_
 refine S.sees [1,2,5,6] [(2,2)] [(1000500,1000500)] ?_ (Stop.iter S (fun s1=>⟨[(1,.c (.d (ah 2 aO a1))),(2,.c (.ref 2 0)),(5,.c (.own 1000500)),(6,.c (.d (.int .i64 s1.2)))],[(2,[.d (.int .i64 x2),.d (.int .i64 x3),.d (ah 2 aO x4),.d (ah 1 aN x1),.d (ah 1 cO x5),.d (ah 1 cO x6),.d (ah 2 aO x7),.d (.int .i64 x8),.d (.int .i64 x0)])],[(1000500,.owned (ah 3 dH s1.1))]⟩) (Gv x2 x3 x4 x1 x5 x6 x7 x8 x0 a1) (fun q=>q=r) hr rfl ?_)
 ·exact lf
 ·intro s1 hr
  unfold Gv at hr
  refine S.gx [12] ?_
  refine gr ?_
  refine dN hr (fun hc hr=> ?_) fun hc hr=>D0 hr
  obtain ⟨O9,hr⟩:=aC hr
  obtain ⟨v1,hv1,hr⟩:=aQ hr
  obtain ⟨vH,hr⟩:=aC hr
  obtain ⟨v2,hv2,hr⟩:=aQ hr
  refine gb hv1 ?_
  refine gb hv2 ?_
  refine S.pK 7 0 2000700 2 rfl rfl (nL rfl) rfl ?_
  obtain ⟨q2,hq,hr⟩:=iE hr
  refine S.sees [1,2,5,6,7,8,9,10] [(2,2),(7,7)] [(2000700,2000700),(1000500,1000500),(23,23),(30,30)] ?_ (Stop.iter S (fun s2=>⟨[(1,.c (.d (ah 2 aO a1))),(2,.c (.ref 2 0)),(5,.c (.own 1000500)),(6,.c (.d (.int .i64 s1.2))),(7,.c (.ref 7 0)),(8,.c (.own 23)),(9,.c (.own 30)),(10,.c (.d (.int .i64 s2.1)))],[(2,[.d (.int .i64 x2),.d (.int .i64 x3),.d (ah 2 aO x4),.d (ah 1 aN x1),.d (ah 1 cO x5),.d (ah 1 cO x6),.d (ah 2 aO x7),.d (.int .i64 x8),.d (.int .i64 x0)]),(7,[.own 2000700,.d (.int .i64 0),.d (.int .i64 0)])],[(2000700,.owned (ah 2 aO s2.2)),(1000500,.owned (ah 3 dH s1.1)),(23,.owned (ah 1 cO v1)),(30,.owned (ah 1 cO v2))]⟩) (DZ x1 x0 a1 s1 v1 v2) _ hq hr ?_)
  ·exact lf
  ·intro s2 hr
   unfold DZ at hr
   refine S.gx [12] ?_
   refine gr ?_
   refine dN hr (fun hc hr=>D1 (S.ss [1,2,5,6,7,8,9,10] [(2,2),(7,7)] [(49,2000700),(1000500,1000500),(23,23),(30,30)]) hr) fun hc hr=> ?_
   refine gr ?_
   replace hr:=bn hr
   obtain ⟨XT,hr⟩:=aC hr
   obtain ⟨NG,hr⟩:=aC hr
   refine gr ?_
   refine S.prune [1,2,5,6,7] ?_
   refine S.gx [] ?_
   exact D1 (S.ss [1,2,5,6] [(2,2)] [(79,1000500)]) hr
def Gw (a0 a1:bQ):Bd Int Bool:=fun s1=>
 if (decide (s1<(a0.length:Int)))=true then
  if 0≤s1∧s1<(a0.length:Int) then
   if 0≤s1∧s1<(a1.length:Int) then
    if (!(!(((a0.getD s1.toNat default).2.1 == (a1.getD s1.toNat default).2.1) && ((a0.getD s1.toNat default).2.2 == (a1.getD s1.toNat default).2.2))))=true→0≤s1∧s1<(a0.length:Int) then
     if (!(!(((a0.getD s1.toNat default).2.1 == (a1.getD s1.toNat default).2.1) && ((a0.getD s1.toNat default).2.2 == (a1.getD s1.toNat default).2.2))))=true→0≤s1∧s1<(a1.length:Int) then
      if (!(!(((a0.getD s1.toNat default).2.1 == (a1.getD s1.toNat default).2.1) && ((a0.getD s1.toNat default).2.2 == (a1.getD s1.toNat default).2.2))))=true→(r35 ((a0.getD s1.toNat default).1) ((a1.getD s1.toNat default).1)).isSome=true then
       if ((!(((a0.getD s1.toNat default).2.1 == (a1.getD s1.toNat default).2.1) && ((a0.getD s1.toNat default).2.2 == (a1.getD s1.toNat default).2.2))) || (!((r35 ((a0.getD s1.toNat default).1) ((a1.getD s1.toNat default).1)).getD default)))=true then
        .out (some false)
        else .next (IntKind.i64.wrap (s1+1))
       else .out none
      else .out none
     else .out none
    else .out none
   else .out none
  else .out (some true)
def r23 (a0 a1:bQ):Option (Bool):=
 if ((a0.length:Int) != (a1.length:Int))=true then
  some false
  else aS (Gw a0 a1) 1000000000 0
@[go_sem] def T23:=aqB qj false r23
@[go_sem] def ayJ (k:Nat):=lk [(35,T35.sp)] k
theorem f23:aF Tryz.prog 23 T23.sp:=by
 refine vm (tb:=ayJ) (.cons f35 .nil) Tryz.func23 Tryz.ntmps23 fun ⟨a0,a1⟩ r hr stop S=> ?_
 rw [wo,r23] at hr
 refine S.gx [7] ?_
 refine gr ?_
 refine iW hr (fun hc hr=>D0 hr) fun hc hr=> ?_
 refine gr ?_
 refine S.sees [0,1,5] [] [] ?_ (Stop.iter S (fun s1=>⟨[(0,.c (.d (ah 3 dH a0))),(1,.c (.d (ah 3 dH a1))),(5,.c (.d (.int .i64 s1)))],[],[]⟩) (Gw a0 a1) (fun q=>q=r) hr rfl ?_)
 ·exact lf
 ·intro s1 hr
  unfold Gw at hr
  refine S.gx [7] ?_
  refine gr ?_
  refine dN hr (fun hc hr=> ?_) fun hc hr=>D0 hr
  obtain ⟨hg1,hr⟩:=aC hr
  obtain ⟨hg2,hr⟩:=aC hr
  obtain ⟨hg3,hr⟩:=aC hr
  obtain ⟨hg4,hr⟩:=aC hr
  obtain ⟨hg5,hr⟩:=aC hr
  repeat (first | refine gG hg3 ?_ | refine gG hg4 ?_ | refine gG hg5 ?_ | refine gA ?_ | refine gB ?_)
  refine dN hr (fun hc hr=> ?_) fun hc hr=>D1 (S.ss [0,1,5] [] []) hr
  refine gr ?_
  refine S.prune [] ?_
  refine S.gx [] ?_
  exact D0 hr
def yT (a0:au) (a1:Bool):Bd ((List (Int))×Int) aZ:=fun s1=>
 if (decide (s1.2<(a0.length:Int)))=true then
  if a1=true then
   if 0≤s1.2∧s1.2<(a0.length:Int) then
    if (s1.1.length+1)*8≤140737488355328∧s1.1.length+1≤9223372036854775807 then
     .next (s1.1++[(a0.getD s1.2.toNat default).2],IntKind.i64.wrap (s1.2+1))
     else .out none
    else .out none
   else if 0≤s1.2∧s1.2<(a0.length:Int) then
    if (s1.1.length+1)*8≤140737488355328∧s1.1.length+1≤9223372036854775807 then
     .next (s1.1++[(a0.getD s1.2.toNat default).1],IntKind.i64.wrap (s1.2+1))
     else .out none
    else .out none
  else .out (some s1.1)
def V7 (a0:au) (a1:Bool):Option (aZ):=
 aS (yT a0 a1) 1000000000 ([],0)
@[go_sem] def auU:=aqA YS false V7
theorem f128:aF Tryz.prog 128 auU.sp:=by
 refine vm .nil Tryz.func128 Tryz.ntmps128 fun ⟨a0,a1⟩ r hr stop S=> ?_
 rw [wo,V7] at hr
 refine S.gx [] ?_
 refine gr ?_
 refine S.yj 5 1000500 1 rfl rfl ?_
 refine S.sees [0,1,5,6] [] [(1000500,1000500)] ?_ (Stop.iter S (fun s1=>⟨[(0,.c (.d (ah 2 aO a0))),(1,.c (.d (.bool a1))),(5,.c (.own 1000500)),(6,.c (.d (.int .i64 s1.2)))],[],[(1000500,.owned (ah 1 cO s1.1))]⟩) (yT a0 a1) (fun q=>q=r) hr rfl ?_)
 ·exact lf
 ·intro s1 hr
  unfold yT at hr
  refine S.gx [] ?_
  refine gr ?_
  refine dN hr (fun hc hr=> ?_) fun hc hr=>D0 hr
  refine gr ?_
  exact dN hr (fun hc hr=>D1 (S.ss [0,1,5,6] [] [(21,1000500)]) hr) fun hc hr=>D1 (S.ss [0,1,5,6] [] [(29,1000500)]) hr
def YI (x1 x0:Int) (x2:au) (x3:aj) (a1 a2:Int):Option (Int×Int):=
 (YF x1 x0 x2 x3 a1).bind fun v1=>
  (YF x1 x0 x2 x3 a2).bind fun v2=>
   (Ko (IntKind.i64.wrap (x0*(IntKind.i64.wrap ((IntKind.i64.wrap (v1.1*v2.2)) - (IntKind.i64.wrap (v2.1*v1.2)))))) (IntKind.i64.wrap ((IntKind.i64.wrap (1000*v1.2))*v2.2))).bind fun v3=>
    some (IntKind.i64.wrap (a1 - v3),IntKind.i64.wrap (a2+v3))
@[go_sem] def auG:=ahr JB false YI
@[go_sem] def amJ (k:Nat):=lk [(18,T18.sp),(52,T52.sp)] k
theorem f159:aF Tryz.prog 159 auG.sp:=by
 refine vm (tb:=amJ) (.cons f18 (.cons f52 .nil)) Tryz.func159 Tryz.ntmps159 fun ⟨x1,x0,x2,x3,a1,a2⟩ r hr stop S=> ?_
 rw [Vy,YI] at hr
 refine S.gx [4] ?_
 obtain ⟨v1,hv1,hr⟩:=aA hr
 obtain ⟨v2,hv2,hr⟩:=aA hr
 obtain ⟨v3,hv3,hr⟩:=aA hr
 refine gb hv1 ?_
 refine gb hv2 ?_
 refine gb hv3 ?_
 refine S.prune [1,2,12] ?_
 refine S.gx [] ?_
 exact D0 hr
def nY (x0 x1:Int) (x2:au) (x3:aj) (s1:Int×(List (Int))):Bd (Int×(List (Int))) (gy (Int×(List (Int))) (aZ)):=fun s2=>
 if (decide ((IntKind.i64.wrap (s2.1+1))<(s2.2.length:Int)))=true then
  if 0≤s2.1∧s2.1<(s2.2.length:Int) then
   if 0≤IntKind.i64.wrap (s2.1+1)∧IntKind.i64.wrap (s2.1+1)<(s2.2.length:Int) then
    aP (YI x0 x1 x2 x3 (s2.2.getD s2.1.toNat default) (s2.2.getD (IntKind.i64.wrap (s2.1+1)).toNat default)) fun v2=>
     if 0≤s2.1∧s2.1<(s2.2.length:Int) then
      if 0≤IntKind.i64.wrap (s2.1+1)∧IntKind.i64.wrap (s2.1+1)<(s2.2.length:Int) then
       .next (IntKind.i64.wrap (s2.1+2),(s2.2.set s2.1.toNat v2.1).set (IntKind.i64.wrap (s2.1+1)).toNat v2.2)
       else .out none
      else .out none
    else .out none
   else .out none
  else .out (some (.next (IntKind.i64.wrap (s1.1+1),s2.2)))
def sV (x0 x1:Int) (x2:au) (x3:aj):Bd (Int×(List (Int))) aZ:=fun s1=>
 if (decide (s1.1<2))=true then
  (aS (nY x0 x1 x2 x3 s1) 1000000000 (s1.1,s1.2)).getD (.out none)
  else .out (some s1.2)
def YP (x0 x1:Int) (x2:au) (x3:aj) (a1:aZ):Option (aZ):=
 (r79 a1).bind fun v1=>
  aS (sV x0 x1 x2 x3) 1000000000 (0,v1)
@[go_sem] def au4:=adM YS false YP
@[go_sem] def anb (k:Nat):=lk [(79,T79.sp),(159,auG.sp)] k
theorem f111:aF Tryz.prog 111 au4.sp:=by
 refine vm (tb:=anb) (.cons f79 (.cons f159 .nil)) Tryz.func111 Tryz.ntmps111 fun ⟨x0,x1,x2,x3,a1⟩ r hr stop S=> ?_
 rw [uq5,YP] at hr
 refine S.gx [] ?_
 obtain ⟨v1,hv1,hr⟩:=aA hr
 refine gb hv1 ?_
 refine S.sees [2,5,6] [(2,2)] [(9,9)] ?_ (Stop.iter S (fun s1=>⟨[(2,.c (.ref 2 0)),(5,.c (.own 9)),(6,.c (.d (.int .i64 s1.1)))],[(2,[.d (.int .i64 x0),.d (.int .i64 x1),.d (ah 2 aO x2),.d (ah 1 aN x3)])],[(9,.owned (ah 1 cO s1.2))]⟩) (sV x0 x1 x2 x3) (fun q=>q=r) hr rfl ?_)
 ·exact lf
 ·intro s1 hr
  unfold sV at hr
  refine S.gx [] ?_
  refine gr ?_
  refine dN hr (fun hc hr=> ?_) fun hc hr=>D0 hr
  refine gr ?_
  obtain ⟨q2,hq,hr⟩:=iE hr
  refine S.sees [2,5,6,7] [(2,2)] [(9,9)] ?_ (Stop.iter S (fun s2=>⟨[(2,.c (.ref 2 0)),(5,.c (.own 9)),(6,.c (.d (.int .i64 s1.1))),(7,.c (.d (.int .i64 s2.1)))],[(2,[.d (.int .i64 x0),.d (.int .i64 x1),.d (ah 2 aO x2),.d (ah 1 aN x3)])],[(9,.owned (ah 1 cO s2.2))]⟩) (nY x0 x1 x2 x3 s1) _ hq hr ?_)
  ·exact lf
  ·intro s2 hr
   unfold nY at hr
   refine S.gx [] ?_
   refine gr ?_
   refine dN hr (fun hc hr=>D1 (S.ss [2,5,6,7] [(2,2)] [(9,9)]) hr) fun hc hr=> ?_
   refine gr ?_
   replace hr:=bn hr
   exact D1 (S.ss [2,5,6] [(2,2)] [(9,9)]) hr
def YO (x1 x2:Int) (x3:au) (x0:aj) (a1 a2:Int):Option (Int):=
 (YF x1 x2 x3 x0 a2).bind fun v1=>
  if 0≤a1∧a1<(x0.length:Int) then
   (sD (x0.getD a1.toNat default) v1.1 v1.2).bind fun v2=>
    (Ko v2.1 v2.2).bind fun v3=>
     some v3
   else none
@[go_sem] def au3:=ahr lF false YO
@[go_sem] def ana (k:Nat):=lk [(18,T18.sp),(52,T52.sp),(160,ajr.sp)] k
theorem f112:aF Tryz.prog 112 au3.sp:=by
 refine vm (tb:=ana) (.cons f18 (.cons f52 (.cons f160 .nil))) Tryz.func112 Tryz.ntmps112 fun ⟨x1,x2,x3,x0,a1,a2⟩ r hr stop S=> ?_
 rw [Vy,YO] at hr
 refine S.gx [] ?_
 exact D0 hr
def zK (x0 x1:Int) (x2:au) (x3:aj) (v2:Int) (s1:Int×(List (Int))):Bd Int (aZ×Int×Bool):=fun s2=>
 if (decide (s2<(s1.2.length:Int)))=true then
  if 0≤s2∧s2<(s1.2.length:Int) then
   aP (Wn x0 x1 x2 x3 (s1.2.getD s2.toNat default)) fun v6=>
    if (!v6)=true then
     .out (some ([],0,false))
     else .next (IntKind.i64.wrap (s2+1))
   else .out none
  else .out (some (s1.2,v2,true))
def Gg (x0 x1:Int) (x2:au) (x3:aj) (a2:aZ) (v2:Int):Bd (Int×(List (Int))) (aZ×Int×Bool):=fun s1=>
 if (decide (s1.1<(s1.2.length:Int)))=true then
  if 0≤s1.1∧s1.1<(s1.2.length:Int) then
   if 0≤s1.1∧s1.1<(a2.length:Int) then
    if 0≤s1.1∧s1.1<(s1.2.length:Int) then
     .next (IntKind.i64.wrap (s1.1+1),s1.2.set s1.1.toNat (IntKind.i64.wrap ((s1.2.getD s1.1.toNat default)+(a2.getD s1.1.toNat default))))
     else .out none
    else .out none
   else .out none
  else .out (aS (zK x0 x1 x2 x3 v2 s1) 1000000000 0)
def r80 (x0 x1:Int) (x2:au) (x3:aj) (a1 a2:aZ) (a3:Int):Option (aZ×Int×Bool):=
 (YP x0 x1 x2 x3 a1).bind fun v1=>
  if 0≤0∧0<(v1.length:Int) then
   (YO x0 x1 x2 x3 a3 (v1.getD 0 default)).bind fun v2=>
    if 0≤0∧0<(v1.length:Int) then
     if 0≤0∧0<(v1.length:Int) then
      aS (Gg x0 x1 x2 x3 a2 v2) 1000000000 (0,v1.set 0 (IntKind.i64.wrap ((v1.getD 0 default) - v2)))
      else none
     else none
   else none
@[go_sem] def T80:=aqz aoQ false r80
@[go_sem] def aye (k:Nat):=lk [(111,au4.sp),(112,au3.sp),(113,ajy.sp)] k
theorem f80:aF Tryz.prog 80 T80.sp:=by
 refine vm (tb:=aye) (.cons f111 (.cons f112 (.cons f113 .nil))) Tryz.func80 Tryz.ntmps80 fun ⟨x0,x1,x2,x3,a1,a2,a3⟩ r hr stop S=> ?_
 rw [GY,r80] at hr
 refine S.gx [] ?_
 obtain ⟨v1,hv1,hr⟩:=aA hr
 obtain ⟨NG,hr⟩:=aH hr
 obtain ⟨v2,hv2,hr⟩:=aA hr
 obtain ⟨O9,hr⟩:=aH hr
 obtain ⟨vH,hr⟩:=aH hr
 refine gb hv1 ?_
 refine gb hv2 ?_
 refine S.sees [2,4,11,12,13] [(4,4)] [(17,17)] ?_ (Stop.iter S (fun s1=>⟨[(2,.c (.d (ah 1 cO a2))),(4,.c (.ref 4 0)),(11,.c (.own 17)),(12,.c (.d (.int .i64 v2))),(13,.c (.d (.int .i64 s1.1)))],[(4,[.d (.int .i64 x0),.d (.int .i64 x1),.d (ah 2 aO x2),.d (ah 1 aN x3)])],[(17,.owned (ah 1 cO s1.2))]⟩) (Gg x0 x1 x2 x3 a2 v2) (fun q=>q=r) hr rfl ?_)
 ·exact lf
 ·intro s1 hr
  unfold Gg at hr
  refine S.gx [] ?_
  refine gr ?_
  refine dN hr (fun hc hr=>D1 (S.ss [2,4,11,12,13] [(4,4)] [(17,17)]) hr) fun hc hr=> ?_
  refine gr ?_
  have hr:=bK hr
  refine gr ?_
  refine S.sees [4,11,12,14] [(4,4)] [(17,17)] ?_ (Stop.iter S (fun s2=>⟨[(4,.c (.ref 4 0)),(11,.c (.own 17)),(12,.c (.d (.int .i64 v2))),(14,.c (.d (.int .i64 s2)))],[(4,[.d (.int .i64 x0),.d (.int .i64 x1),.d (ah 2 aO x2),.d (ah 1 aN x3)])],[(17,.owned (ah 1 cO s1.2))]⟩) (zK x0 x1 x2 x3 v2 s1) (fun q=>q=r) hr rfl ?_)
  ·exact lf
  ·intro s2 hr
   unfold zK at hr
   refine S.gx [] ?_
   exact D1 (S.ss [4,11,12,14] [(4,4)] [(17,17)]) hr
def r92 (x0 x1:Int) (x2:au) (x3:aj) (x5 x6:aZ) (x4:au) (x7 x8:Int):Option (aZ×aZ×Bool):=
 (V7 x4 false).bind fun v1=>
  (r80 x0 x1 x2 x3 x5 v1 x8).bind fun v2=>
   (V7 x4 true).bind fun v3=>
    (r80 x0 x1 x2 x3 x6 v3 x7).bind fun v4=>
     if ((!v2.2.2) || (!v4.2.2))=true then
      some ([],[],false)
      else some (v2.1,v4.1,true)
@[go_sem] def T92:=aqy aoP false r92
@[go_sem] def ax6 (k:Nat):=lk [(80,T80.sp),(128,auU.sp)] k
theorem f92:aF Tryz.prog 92 T92.sp:=by
 refine vm (tb:=ax6) (.cons f80 (.cons f128 .nil)) Tryz.func92 Tryz.ntmps92 fun ⟨x0,x1,x2,x3,x5,x6,x4,x7,x8⟩ r hr stop S=> ?_
 rw [NC,r92] at hr
 refine S.gx [3] ?_
 obtain ⟨v1,hv1,hr⟩:=aA hr
 obtain ⟨v2,hv2,hr⟩:=aA hr
 obtain ⟨v3,hv3,hr⟩:=aA hr
 obtain ⟨v4,hv4,hr⟩:=aA hr
 refine gb hv1 ?_
 refine gb hv2 ?_
 refine gb hv3 ?_
 refine gb hv4 ?_
 refine S.prune [6,8,10,11,13] ?_
 refine S.gx [] ?_
 repeat (first | refine gA ?_ | refine gB ?_)
 exact D0 hr
def Gi (x0 x1:Int) (x2:au) (x3:aj) (a2:bQ):Bd ((List (aZ×aZ))×Int×aZ×aZ) (eU×Bool):=fun s1=>
 if (decide (s1.2.1<(a2.length:Int)))=true then
  if 0≤s1.2.1∧s1.2.1<(a2.length:Int) then
   aP (r92 x0 x1 x2 x3 s1.2.2.1 s1.2.2.2 ((a2.getD s1.2.1.toNat default).1) ((a2.getD s1.2.1.toNat default).2.1) ((a2.getD s1.2.1.toNat default).2.2)) fun v1=>
    if (!v1.2.2)=true then
     .out (some ([],false))
     else if (s1.1.length+1)*48≤140737488355328∧s1.1.length+1≤9223372036854775807 then
      .next (s1.1++[(v1.1,v1.2.1)],IntKind.i64.wrap (s1.2.1+1),v1.1,v1.2.1)
      else .out none
   else .out none
  else .out (some (s1.1,true))
def r60 (x0 x1:Int) (x2:au) (x3:aj) (x4 x5:aZ) (a2:bQ):Option (eU×Bool):=
 aS (Gi x0 x1 x2 x3 a2) 1000000000 ([],0,x4,x5)
@[go_sem] def T60:=ahv aoO true r60
@[go_sem] def ayp (k:Nat):=lk [(92,T92.sp)] k
theorem f60:aF Tryz.prog 60 T60.sp:=by
 refine vm (tb:=ayp) (.cons f92 .nil) Tryz.func60 Tryz.ntmps60 fun ⟨x0,x1,x2,x3,x4,x5,a2⟩ r hr stop S=> ?_
 rw [GY,r60] at hr
 refine S.gx [] ?_
 refine gr ?_
 refine S.yj 8 1000800 2 rfl rfl ?_
 refine S.sees [2,3,4,8,9] [(3,3),(4,4)] [(1000800,1000800)] ?_ (Stop.iter S (fun s1=>⟨[(2,.c (.d (ah 3 dH a2))),(3,.c (.ref 3 0)),(4,.c (.ref 4 0)),(8,.c (.own 1000800)),(9,.c (.d (.int .i64 s1.2.1)))],[(3,[.d (.int .i64 x0),.d (.int .i64 x1),.d (ah 2 aO x2),.d (ah 1 aN x3)]),(4,[.d (ah 1 cO s1.2.2.1),.d (ah 1 cO s1.2.2.2)])],[(1000800,.owned (ah 2 fO s1.1))]⟩) (Gi x0 x1 x2 x3 a2) (fun q=>q=r) hr rfl ?_)
 ·exact lf
 ·intro s1 hr
  unfold Gi at hr
  refine S.gx [] ?_
  exact D1 (S.ss [2,3,4,8,9] [(3,3),(4,4)] [(33,1000800)]) hr
def Gt (x0 x1:Int) (x2:au) (x3:aj) (v2:eU×Bool) (s1:(List (au))×Int):Bd ((List (Int×Int))×Int) (gy ((List (au))×Int) (aj×Bool)):=fun s2=>
 if (decide (s2.2<(v2.1.length:Int)))=true then
  if 0≤s2.2∧s2.2<(v2.1.length:Int) then
   if 0≤s1.2∧s1.2<(((v2.1.getD s2.2.toNat default).1).length:Int) then
    aP (YF x0 x1 x2 x3 (((v2.1.getD s2.2.toNat default).1).getD s1.2.toNat default)) fun v3=>
     if 0≤s2.2∧s2.2<(v2.1.length:Int) then
      if 0≤s1.2∧s1.2<(((v2.1.getD s2.2.toNat default).2).length:Int) then
       aP (YF x0 x1 x2 x3 (((v2.1.getD s2.2.toNat default).2).getD s1.2.toNat default)) fun v4=>
        aP (Ko v3.1 v3.2) fun v5=>
         aP (r19 v4.1 v4.2) fun v6=>
          if (s2.1.length+1)*16≤140737488355328∧s2.1.length+1≤9223372036854775807 then
           .next (s2.1++[(v5,v6)],IntKind.i64.wrap (s2.2+1))
           else .out none
       else .out none
      else .out none
    else .out none
   else .out none
  else .out (some (if (s1.1.length+1)*24≤140737488355328∧s1.1.length+1≤9223372036854775807 then
   .next (s1.1++[s2.1],IntKind.i64.wrap (s1.2+1))
   else .out none))
def Gu (x0 x1:Int) (x2:au) (x3:aj) (v2:eU×Bool):Bd ((List (au))×Int) (aj×Bool):=fun s1=>
 if (decide (s1.2<x0))=true then
  (aS (Gt x0 x1 x2 x3 v2 s1) 1000000000 ([],0)).getD (.out none)
  else .out (some (s1.1,true))
def r25 (x0 x1:Int) (x2:au) (x3:aj) (x4 x5:aZ) (x6:au) (x7 x8:Int) (a1:au):Option (aj×Bool):=
 (Yz x0 x1 x2 x3 x4 x5 x6 x7 x8 a1).bind fun v1=>
  (r60 x0 x1 x2 x3 x4 x5 v1).bind fun v2=>
   if (!v2.2)=true then
    some ([],false)
    else aS (Gu x0 x1 x2 x3 v2) 1000000000 ([],0)
@[go_sem] def T25:=BJ aoN true r25
@[go_sem] def ayH (k:Nat):=lk [(18,T18.sp),(19,T19.sp),(24,T24.sp),(52,T52.sp),(60,T60.sp)] k
theorem f25:aF Tryz.prog 25 T25.sp:=by
 refine vm (tb:=ayH) (.cons f18 (.cons f19 (.cons f24 (.cons f52 (.cons f60 .nil))))) Tryz.func25 Tryz.ntmps25 fun ⟨x0,x1,x2,x3,x4,x5,x6,x7,x8,a1⟩ r hr stop S=> ?_
 rw [xU,r25] at hr
 refine S.gx [14] ?_
 obtain ⟨v1,hv1,hr⟩:=aA hr
 obtain ⟨v2,hv2,hr⟩:=aA hr
 refine gb hv1 ?_
 refine gb hv2 ?_
 refine iW hr (fun hc hr=>D0 hr) fun hc hr=> ?_
 refine gr ?_
 refine S.yj 8 1000800 1 rfl rfl ?_
 refine S.sees [2,6,8,9] [(2,2)] [(1000800,1000800),(24,24)] ?_ (Stop.iter S (fun s1=>⟨[(2,.c (.ref 2 0)),(6,.c (.own 24)),(8,.c (.own 1000800)),(9,.c (.d (.int .i64 s1.2)))],[(2,[.d (.int .i64 x0),.d (.int .i64 x1),.d (ah 2 aO x2),.d (ah 1 aN x3),.d (ah 1 cO x4),.d (ah 1 cO x5),.d (ah 2 aO x6),.d (.int .i64 x7),.d (.int .i64 x8)])],[(1000800,.owned (ah 1 aN s1.1)),(24,.owned (ah 2 fO v2.1))]⟩) (Gu x0 x1 x2 x3 v2) (fun q=>q=r) hr rfl ?_)
 ·exact lf
 ·intro s1 hr
  unfold Gu at hr
  refine S.gx [14] ?_
  refine gr ?_
  refine dN hr (fun hc hr=> ?_) fun hc hr=>D0 hr
  refine gr ?_
  refine S.yj 10 1001000 2 rfl rfl ?_
  obtain ⟨q2,hq,hr⟩:=iE hr
  refine S.sees [2,6,8,9,10,11] [(2,2)] [(1001000,1001000),(24,24),(1000800,1000800)] ?_ (Stop.iter S (fun s2=>⟨[(2,.c (.ref 2 0)),(6,.c (.own 24)),(8,.c (.own 1000800)),(9,.c (.d (.int .i64 s1.2))),(10,.c (.own 1001000)),(11,.c (.d (.int .i64 s2.2)))],[(2,[.d (.int .i64 x0),.d (.int .i64 x1),.d (ah 2 aO x2),.d (ah 1 aN x3),.d (ah 1 cO x4),.d (ah 1 cO x5),.d (ah 2 aO x6),.d (.int .i64 x7),.d (.int .i64 x8)])],[(1001000,.owned (ah 2 aO s2.1)),(24,.owned (ah 2 fO v2.1)),(1000800,.owned (ah 1 aN s1.1))]⟩) (Gt x0 x1 x2 x3 v2 s1) _ hq hr ?_)
  ·exact lf
  ·intro s2 hr
   unfold Gt at hr
   refine S.gx [14] ?_
   refine gr ?_
   refine dN hr (fun hc hr=> ?_) fun hc hr=> ?_
   ·obtain ⟨NG,hr⟩:=aC hr
    obtain ⟨O9,hr⟩:=aC hr
    obtain ⟨v3,hv3,hr⟩:=aQ hr
    obtain ⟨vH,hr⟩:=aC hr
    obtain ⟨CQ,hr⟩:=aC hr
    obtain ⟨v4,hv4,hr⟩:=aQ hr
    refine gb hv3 ?_
    refine gb hv4 ?_
    refine S.prune [2,6,8,9,10,11,12,13,14,15] ?_
    refine S.gx [] ?_
    exact D1 (S.ss [2,6,8,9,10,11] [(2,2)] [(79,1001000),(24,24),(1000800,1000800)]) hr
   ·refine gr ?_
    replace hr:=bn hr
    exact D1 (S.ss [2,6,8,9] [(2,2)] [(83,1000800),(24,24)]) hr
def Gs (a0 a1:aj):Bd Int Bool:=fun s1=>
 if (decide (s1<(a0.length:Int)))=true then
  if 0≤s1∧s1<(a0.length:Int) then
   if 0≤s1∧s1<(a1.length:Int) then
    aP (r35 (a0.getD s1.toNat default) (a1.getD s1.toNat default)) fun v1=>
     if (!v1)=true then
      .out (some false)
      else .next (IntKind.i64.wrap (s1+1))
    else .out none
   else .out none
  else .out (some true)
def r26 (a0 a1:aj):Option (Bool):=
 if ((a0.length:Int) != (a1.length:Int))=true then
  some false
  else aS (Gs a0 a1) 1000000000 0
@[go_sem] def T26:=aqx qj false r26
@[go_sem] def ayG (k:Nat):=lk [(35,T35.sp)] k
theorem f26:aF Tryz.prog 26 T26.sp:=by
 refine vm (tb:=ayG) (.cons f35 .nil) Tryz.func26 Tryz.ntmps26 fun ⟨a0,a1⟩ r hr stop S=> ?_
 rw [wo,r26] at hr
 refine S.gx [] ?_
 refine gr ?_
 refine iW hr (fun hc hr=>D0 hr) fun hc hr=> ?_
 refine gr ?_
 refine S.sees [0,1,5] [] [] ?_ (Stop.iter S (fun s1=>⟨[(0,.c (.d (ah 1 aN a0))),(1,.c (.d (ah 1 aN a1))),(5,.c (.d (.int .i64 s1)))],[],[]⟩) (Gs a0 a1) (fun q=>q=r) hr rfl ?_)
 ·exact lf
 ·intro s1 hr
  unfold Gs at hr
  refine S.gx [] ?_
  exact D1 (S.ss [0,1,5] [] []) hr
end Go.Proofs.YtofkgmldcjagmaaGreatDoor

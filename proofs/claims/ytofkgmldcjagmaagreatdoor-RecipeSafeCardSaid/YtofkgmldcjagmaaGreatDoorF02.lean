/- Contracts of functions, written by wip/dec. -/
import Derived.Test.YtofkgmldcjagmaaGreatDoorF00
import Derived.Test.YtofkgmldcjagmaaGreatDoorF01
set_option linter.unusedVariables false
set_option linter.unusedSimpArgs false
set_option linter.constructorNameAsVariable false
set_option maxHeartbeats 4000000
set_option maxRecDepth 20000
namespace Go.Proofs.YtofkgmldcjagmaaGreatDoor
open Go.dG
section
variable {β:Type} [Inhabited β] (u:β→List RV) (al:Bool)
def apg (a0:aZ) (a1 a2:Int) (a3:au) (a4:aj) (a5:au) (a6:aj):List Arg:=[.c (ah 1 cO a0),.clo 167 [[.int .i64 a1,.int .i64 a2,ah 2 aO a3,ah 1 aN a4,ah 2 aO a5,ah 1 aN a6]]]
def aqW:List Arg→aZ×Int×Int×au×aj×au×aj
 | [.c c0,.clo _ [[c1,c2,c3,c4,c5,c6]]]=>(aG jQ c0,aB c1,aB c2,aG bW c3,aG bP c4,aG bW c5,aG bP c6)
 | _=>default
def arT (r:aZ→Int→Int→au→aj→au→aj→Option β):=mkT (u7 apg) aqW (u7 r) u al
attribute [go_sem] apg aqW arT
def apf (a0 a1:Int) (a2:au) (a3:aj) (a4:au) (a5:aj) (a6:aZ):List Arg:=[.agg [.int .i64 a0,.int .i64 a1,ah 2 aO a2,ah 1 aN a3,ah 2 aO a4,ah 1 aN a5],.c (ah 1 cO a6)]
def aqV:List Arg→Int×Int×au×aj×au×aj×aZ
 | [.agg [c0,c1,c2,c3,c4,c5],.c c6]=>(aB c0,aB c1,aG bW c2,aG bP c3,aG bW c4,aG bP c5,aG jQ c6)
 | _=>default
def arS (r:Int→Int→au→aj→au→aj→aZ→Option β):=mkT (u7 apf) aqV (u7 r) u al
attribute [go_sem] apf aqV arS
def ape (a0 a1:Int) (a2:au) (a3:aj) (a4:au) (a5:aj) (a6 a7:aZ):List Arg:=[.agg [.int .i64 a0,.int .i64 a1,ah 2 aO a2,ah 1 aN a3,ah 2 aO a4,ah 1 aN a5],.agg [ah 1 cO a6,ah 1 cO a7]]
def aqU:List Arg→Int×Int×au×aj×au×aj×aZ×aZ
 | [.agg [c0,c1,c2,c3,c4,c5],.agg [c6,c7]]=>(aB c0,aB c1,aG bW c2,aG bP c3,aG bW c4,aG bP c5,aG jQ c6,aG jQ c7)
 | _=>default
def arR (r:Int→Int→au→aj→au→aj→aZ→aZ→Option β):=mkT (u8 ape) aqU (u8 r) u al
attribute [go_sem] ape aqU arR
end
def zC (a0:au):Bd ((List (Int×Int))×Int) au:=fun s1=>
 if (decide (s1.2<(a0.length:Int)))=true then
  if 0≤s1.2∧s1.2<(a0.length:Int) then
   if (s1.1.length+1)*16≤140737488355328∧s1.1.length+1≤9223372036854775807 then
    .next (s1.1++[((a0.getD s1.2.toNat default).1,(a0.getD s1.2.toNat default).2)],IntKind.i64.wrap (s1.2+1))
    else .out none
   else .out none
  else .out (some s1.1)
def Zk (a0:au):Option (au):=
 aS (zC a0) 1000000000 ([],0)
@[go_sem] def avo:=qT5 qu5 false Zk
theorem f123:aF Tryz.prog 123 avo.sp:=by
 refine vm .nil Tryz.func123 Tryz.ntmps123 fun a0 r hr stop S=> ?_
 rw [rF,Zk] at hr
 refine S.gx [] ?_
 refine gr ?_
 refine S.O8 3 1000300 2 rfl rfl ?_
 refine S.sees [3,6,7,8] [] [(1000300,1000300)] ?_ (Stop.iter S (fun s1=>⟨[(3,.c (.own 1000300)),(6,.c (.d (ah 2 aO a0))),(7,.c (.d (.int .i64 (a0.length:Int)))),(8,.c (.d (.int .i64 s1.2)))],[],[(1000300,.owned (ah 2 aO s1.1))]⟩) (zC a0) (fun q=>q=r) hr rfl ?_)
 ·exact lf
 ·intro s1 hr
  unfold zC at hr
  refine S.gx [] ?_
  exact D1 (S.ss [3,6,7,8] [] [(19,1000300)]) hr
def GV (x2 x3:Int) (x1:au) (x0:aj) (v2:au):Bd (Int×(List (au))) (Int×Int×au×aj×au×aj×Int):=fun s1=>
 if (decide (s1.1<(x0.length:Int)))=true then
  if 0≤s1.1∧s1.1<(x0.length:Int) then
   aP (IB (x0.getD s1.1.toNat default)) fun v3=>
    if (s1.2.length+1)*24≤140737488355328∧s1.2.length+1≤9223372036854775807 then
     .next (IntKind.i64.wrap (s1.1+1),s1.2++[v3])
     else .out none
   else .out none
  else .out (some (x2,x3,x1,x0,v2,s1.2,0))
def r86 (x2 x3:Int) (x1:au) (x0:aj):Option (Int×Int×au×aj×au×aj×Int):=
 (r53 x2 x3 x1 x0).bind fun v1=>
  if (v1.2 != 0)=true then
   some (0,0,[],[],[],[],v1.2)
   else (Zk x1).bind fun v2=>
    aS (GV x2 x3 x1 x0 v2) 1000000000 (0,[])
@[go_sem] def T86:=WY qu8 true r86
@[go_sem] def ayv (k:Nat):=lk [(53,T53.sp),(120,akh.sp),(123,avo.sp)] k
theorem f86:aF Tryz.prog 86 T86.sp:=by
 refine vm (tb:=ayv) (.cons f53 (.cons f120 (.cons f123 .nil))) Tryz.func86 Tryz.ntmps86 fun ⟨x2,x3,x1,x0⟩ r hr stop S=> ?_
 rw [uq4,r86] at hr
 refine S.gx [] ?_
 obtain ⟨v1,hv1,hr⟩:=aA hr
 refine gb hv1 ?_
 refine iW hr (fun hc hr=>D0 hr) fun hc hr=> ?_
 obtain ⟨v2,hv2,hr⟩:=aA hr
 refine gb hv2 ?_
 refine S.pW 6 5 2000605 1 rfl rfl (nL rfl) rfl ?_
 refine S.sees [2,6,24,25,26] [(2,2),(6,6)] [(2000605,2000605),(21,21)] ?_ (Stop.iter S (fun s1=>⟨[(2,.c (.ref 2 0)),(6,.c (.ref 6 0)),(24,.c (.d (ah 1 aN x0))),(25,.c (.d (.int .i64 (x0.length:Int)))),(26,.c (.d (.int .i64 s1.1)))],[(2,[.d (.int .i64 0),.d (.int .i64 0),.dD,.dD,.dD,.dD]),(6,[.d (.int .i64 x2),.d (.int .i64 x3),.d (ah 2 aO x1),.d (ah 1 aN x0),.own 21,.own 2000605])],[(2000605,.owned (ah 1 aN s1.2)),(21,.owned (ah 2 aO v2))]⟩) (GV x2 x3 x1 x0 v2) (fun q=>q=r) hr rfl ?_)
 ·exact lf
 ·intro s1 hr
  unfold GV at hr
  refine S.gx [] ?_
  exact D1 (S.ss [2,6,24,25,26] [(2,2),(6,6)] [(35,2000605),(21,21)]) hr
def OY (x1 x2:Int) (x3:au) (x4:aj) (x0:au) (x5:aj) (a1:Int):Option (Bool):=
 if 0≤0∧0<(x0.length:Int) then
  if 0≤IntKind.i64.wrap ((x0.length:Int) - 1)∧IntKind.i64.wrap ((x0.length:Int) - 1)<(x0.length:Int) then
   (WJ a1 ((x0.getD 0 default).1) ((x0.getD (IntKind.i64.wrap ((x0.length:Int) - 1)).toNat default).1)).bind fun v1=>
    some v1
   else none
  else none
@[go_sem] def afI:=aev qE false OY
@[go_sem] def ano (k:Nat):=lk [(83,T83.sp)] k
theorem f156:aF Tryz.prog 156 afI.sp:=by
 refine vm (tb:=ano) (.cons f83 .nil) Tryz.func156 Tryz.ntmps156 fun ⟨x1,x2,x3,x4,x0,x5,a1⟩ r hr stop S=> ?_
 rw [JW,OY] at hr
 refine S.gx [] ?_
 exact D0 hr
def aed (a0 x0 x1:Int) (x2:au) (x3:aj) (x4:au) (x5:aj):Option (Bool):=
 (OY x0 x1 x2 x3 x4 x5 a0).bind fun v1=>
  some (!v1)
@[go_sem] def au2:=ail qE false aed
@[go_sem] def ang (k:Nat):=lk [(156,afI.sp)] k
theorem f167:aF Tryz.prog 167 au2.sp:=by
 refine vm (tb:=ang) (.cons f156 .nil) Tryz.func167 Tryz.ntmps167 fun ⟨a0,x0,x1,x2,x3,x4,x5⟩ r hr stop S=> ?_
 rw [JW,aed] at hr
 refine S.gx [] ?_
 exact D0 hr
def zJ (a0:aZ) (x0 x1:Int) (x2:au) (x3:aj) (x4:au) (x5:aj):Bd Int Int:=fun s1=>
 if (decide (s1<(a0.length:Int)))=true then
  if 0≤s1∧s1<(a0.length:Int) then
   aP (aed (a0.getD s1.toNat default) x0 x1 x2 x3 x4 x5) fun v1=>
    if v1=true then
     .out (some s1)
     else .next (IntKind.i64.wrap (s1+1))
   else .out none
  else .out (some (-1))
def ael (a0:aZ) (x0 x1:Int) (x2:au) (x3:aj) (x4:au) (x5:aj):Option (Int):=
 aS (zJ a0 x0 x1 x2 x3 x4 x5) 1000000000 0
@[go_sem] def avu:=arT lK false ael
@[go_sem] def anR (k:Nat):=lk [(167,au2.sp)] k
theorem f109:aF Tryz.prog 109 avu.sp:=by
 refine vm (tb:=anR) (.cons f167 .nil) Tryz.func109 Tryz.ntmps109 fun ⟨a0,x0,x1,x2,x3,x4,x5⟩ r hr stop S=> ?_
 rw [JW,ael] at hr
 refine S.gx [] ?_
 refine gr ?_
 refine S.sees [0,1,7,8] [] [] ?_ (Stop.iter S (fun s1=>⟨[(0,.c (.d (ah 1 cO a0))),(1,.c (.clo 167 [.dK [.int .i64 x0,.int .i64 x1,ah 2 aO x2,ah 1 aN x3,ah 2 aO x4,ah 1 aN x5] 0])),(7,.c (.d (.int .i64 (a0.length:Int)))),(8,.c (.d (.int .i64 s1)))],[],[]⟩) (zJ a0 x0 x1 x2 x3 x4 x5) (fun q=>q=r) hr rfl ?_)
 ·exact lf
 ·intro s1 hr
  unfold zJ at hr
  refine S.gx [] ?_
  exact D1 (S.ss [0,1,7,8] [] []) hr
def O1 (x0 x1:Int) (x2:au) (x3:aj) (x4:au) (x5:aj) (a1:aZ):Option (Int×Int):=
 if ((a1.length:Int) != x0)=true then
  some (0,10)
  else (ael a1 x0 x1 x2 x3 x4 x5).bind fun v1=>
   if (decide (v1≥0))=true then
    some (v1,2)
    else some (0,0)
@[go_sem] def akg:=arS KR false O1
@[go_sem] def anJ (k:Nat):=lk [(109,avu.sp)] k
theorem f124:aF Tryz.prog 124 akg.sp:=by
 refine vm (tb:=anJ) (.cons f109 .nil) Tryz.func124 Tryz.ntmps124 fun ⟨x0,x1,x2,x3,x4,x5,a1⟩ r hr stop S=> ?_
 rw [JW,O1] at hr
 refine S.gx [] ?_
 exact D0 hr
def NR (x0 x1:aZ):Bd Int (Int×Int):=fun s1=>
 if (decide (s1<(x0.length:Int)))=true then
  if 0≤s1∧s1<(x0.length:Int) then
   if 0≤s1∧s1<(x1.length:Int) then
    if (decide ((x0.getD s1.toNat default)>(x1.getD s1.toNat default)))=true then
     .out (some (s1,9))
     else .next (IntKind.i64.wrap (s1+1))
    else .out none
   else .out none
  else .out (some (0,0))
def r87 (x2 x3:Int) (x4:au) (x5:aj) (x6:au) (x7:aj) (x0 x1:aZ):Option (Int×Int):=
 (O1 x2 x3 x4 x5 x6 x7 x0).bind fun v1=>
  if (v1.2 != 0)=true then
   some (v1.1,v1.2)
   else (O1 x2 x3 x4 x5 x6 x7 x1).bind fun v2=>
    if (v2.2 != 0)=true then
     some (v2.1,v2.2)
     else aS (NR x0 x1) 1000000000 0
@[go_sem] def T87:=arR KR false r87
@[go_sem] def ayu (k:Nat):=lk [(124,akg.sp)] k
theorem f87:aF Tryz.prog 87 T87.sp:=by
 refine vm (tb:=ayu) (.cons f124 .nil) Tryz.func87 Tryz.ntmps87 fun ⟨x2,x3,x4,x5,x6,x7,x0,x1⟩ r hr stop S=> ?_
 rw [uq8,r87] at hr
 refine S.gx [] ?_
 obtain ⟨v1,hv1,hr⟩:=aA hr
 refine gb hv1 ?_
 refine iW hr (fun hc hr=>D0 hr) fun hc hr=> ?_
 obtain ⟨v2,hv2,hr⟩:=aA hr
 refine gb hv2 ?_
 refine iW hr (fun hc hr=>D0 hr) fun hc hr=> ?_
 refine gr ?_
 refine S.sees [3,35,36,37] [(3,3)] [] ?_ (Stop.iter S (fun s1=>⟨[(3,.c (.ref 3 0)),(35,.c (.d (ah 1 cO x0))),(36,.c (.d (.int .i64 (x0.length:Int)))),(37,.c (.d (.int .i64 s1)))],[(3,[.d (ah 1 cO x0),.d (ah 1 cO x1)])],[]⟩) (NR x0 x1) (fun q=>q=r) hr rfl ?_)
 ·exact lf
 ·intro s1 hr
  unfold NR at hr
  refine S.gx [] ?_
  exact D1 (S.ss [3,35,36,37] [(3,3)] []) hr
def r54 (x0 x1:Int) (x2:au) (x3:aj) (x4 x5:aZ):Option (Int×Int):=
 (r86 x0 x1 x2 x3).bind fun v1=>
  if (v1.2.2.2.2.2.2 != 0)=true then
   some (0,v1.2.2.2.2.2.2)
   else (r87 v1.1 v1.2.1 v1.2.2.1 v1.2.2.2.1 v1.2.2.2.2.1 v1.2.2.2.2.2.1 x4 x5).bind fun v2=>
    some (v2.1,v2.2)
@[go_sem] def T54:=Zt KR false r54
@[go_sem] def ayO (k:Nat):=lk [(86,T86.sp),(87,T87.sp)] k
theorem f54:aF Tryz.prog 54 T54.sp:=by
 refine vm (tb:=ayO) (.cons f86 (.cons f87 .nil)) Tryz.func54 Tryz.ntmps54 fun ⟨x0,x1,x2,x3,x4,x5⟩ r hr stop S=> ?_
 rw [YA,r54] at hr
 refine S.gx [] ?_
 exact D0 hr
def lJ (a0:Bool) (a1:Int):Option (Int):=
 if a0=true then
  some 0
  else some a1
@[go_sem] def T39:=qT2 lK false lJ
theorem f39:aF Tryz.prog 39 T39.sp:=by
 refine vm .nil Tryz.func39 Tryz.ntmps39 fun ⟨a0,a1⟩ r hr stop S=> ?_
 rw [yK,lJ] at hr
 refine S.gx [] ?_
 exact D0 hr
def G8 (a0:aZ):Bd Int Int:=fun s1=>
 if (decide (s1<(a0.length:Int)))=true then
  if 0≤s1∧s1<(a0.length:Int) then
   if ((a0.getD s1.toNat default) != 0)=true then
    .out (some (a0.getD s1.toNat default))
    else .next (IntKind.i64.wrap (s1+1))
   else .out none
  else .out (some 0)
def vP (a0:aZ):Option (Int):=
 aS (G8 a0) 1000000000 0
@[go_sem] def T38:=qT3 lK false vP
theorem f38:aF Tryz.prog 38 T38.sp:=by
 refine vm .nil Tryz.func38 Tryz.ntmps38 fun a0 r hr stop S=> ?_
 rw [rF,vP] at hr
 refine S.gx [] ?_
 refine gr ?_
 refine S.sees [5,6,7] [] [] ?_ (Stop.iter S (fun s1=>⟨[(5,.c (.d (ah 1 cO a0))),(6,.c (.d (.int .i64 (a0.length:Int)))),(7,.c (.d (.int .i64 s1)))],[],[]⟩) (G8 a0) (fun q=>q=r) hr rfl ?_)
 ·exact lf
 ·intro s1 hr
  unfold G8 at hr
  refine S.gx [] ?_
  exact D1 (S.ss [5,6,7] [] []) hr
def yJ (a0 a1 a2:Int):Option (Bool):=
 some ((decide (a1≤a0)) && (decide (a0≤a2)))
@[go_sem] def T37:=qT1 qE false yJ
theorem f37:aF Tryz.prog 37 T37.sp:=by
 refine vm .nil Tryz.func37 Tryz.ntmps37 fun ⟨a0,a1,a2⟩ r hr stop S=> ?_
 rw [Yq,yJ] at hr
 refine S.gx [] ?_
 repeat (first | refine gA ?_ | refine gB ?_)
 exact D0 hr
def Yr (a0:Int):Option (Bool):=
 (yJ a0 0 1000).bind fun v1=>
  some v1
@[go_sem] def T55:=KT qE false Yr
@[go_sem] def ayN (k:Nat):=lk [(37,T37.sp)] k
theorem f55:aF Tryz.prog 55 T55.sp:=by
 refine vm (tb:=ayN) (.cons f37 .nil) Tryz.func55 Tryz.ntmps55 fun a0 r hr stop S=> ?_
 rw [rF,Yr] at hr
 refine S.gx [] ?_
 exact D0 hr
def yG (x1:aj) (x0:au) (x2 x3:Int):Bd Int (Int×Int):=fun s1=>
 if (decide (s1<(x0.length:Int)))=true then
  if 0≤s1∧s1<(x0.length:Int) then
   aP (Yr ((x0.getD s1.toNat default).1)) fun v5=>
    if v5=true→(Yr ((x0.getD s1.toNat default).2)).isSome=true then
     aP (lJ (v5 && ((Yr ((x0.getD s1.toNat default).2)).getD default)) 2) fun v6=>
      aP (lJ (decide (((x0.getD s1.toNat default).1)≤((x0.getD s1.toNat default).2))) 9) fun v7=>
       aP (vP [v6,v7]) fun v8=>
        if (v8 != 0)=true then
         .out (some (s1,v8))
         else .next (IntKind.i64.wrap (s1+1))
     else .out none
   else .out none
  else .out ((yJ x2 0 (IntKind.i64.wrap ((x1.length:Int) - 1))).bind fun v11=>
   (lJ v11 6).bind fun v12=>
    (yJ x3 0 4).bind fun v13=>
     (lJ v13 2).bind fun v14=>
      (vP [v12,v14]).bind fun v15=>
       some (0,v15))
def r20 (x4 x5:Int) (x6:au) (x1:aj) (x7 x8:aZ) (x0:au) (x2 x3:Int):Option (Int×Int):=
 (r53 x4 x5 x6 x1).bind fun v1=>
  (r54 x4 x5 x6 x1 x7 x8).bind fun v2=>
   (lJ ((x0.length:Int) == x4) 10).bind fun v3=>
    (vP [v1.2,v2.2,v3]).bind fun v4=>
     if (v4 != 0)=true then
      some (0,v4)
      else aS (yG x1 x0 x2 x3) 1000000000 0
@[go_sem] def T20:=KU KR false r20
@[go_sem] def ay0 (k:Nat):=lk [(37,T37.sp),(38,T38.sp),(39,T39.sp),(53,T53.sp),(54,T54.sp),(55,T55.sp)] k
theorem f20:aF Tryz.prog 20 T20.sp:=by
 refine vm (tb:=ay0) (.cons f37 (.cons f38 (.cons f39 (.cons f53 (.cons f54 (.cons f55 .nil)))))) Tryz.func20 Tryz.ntmps20 fun ⟨x4,x5,x6,x1,x7,x8,x0,x2,x3⟩ r hr stop S=> ?_
 rw [Oa,r20] at hr
 refine S.gx [4,12] ?_
 obtain ⟨v1,hv1,hr⟩:=aA hr
 obtain ⟨v2,hv2,hr⟩:=aA hr
 obtain ⟨v3,hv3,hr⟩:=aA hr
 obtain ⟨v4,hv4,hr⟩:=aA hr
 refine gb hv1 ?_
 refine gb hv2 ?_
 refine gb hv3 ?_
 refine gb hv4 ?_
 refine S.prune [1,8] ?_
 refine S.gx [12] ?_
 refine gr ?_
 refine gr ?_
 refine iW hr (fun hc hr=>D0 hr) fun hc hr=> ?_
 refine gr ?_
 refine S.sees [1,9,43,44,45] [(1,1)] [] ?_ (Stop.iter S (fun s1=>⟨[(1,.c (.ref 1 0)),(9,.c (.clo 55 [])),(43,.c (.d (ah 2 aO x0))),(44,.c (.d (.int .i64 (x0.length:Int)))),(45,.c (.d (.int .i64 s1)))],[(1,[.d (.int .i64 x4),.d (.int .i64 x5),.d (ah 2 aO x6),.d (ah 1 aN x1),.d (ah 1 cO x7),.d (ah 1 cO x8),.d (ah 2 aO x0),.d (.int .i64 x2),.d (.int .i64 x3)])],[]⟩) (yG x1 x0 x2 x3) (fun q=>q=r) hr rfl ?_)
 ·exact lf
 ·intro s1 hr
  unfold yG at hr
  refine S.gx [4,12] ?_
  refine gr ?_
  refine dM hr (fun hc hr=> ?_) fun hc hr=>D0 hr
  obtain ⟨hg9,hr⟩:=aC hr
  obtain ⟨v5,hv5,hr⟩:=aQ hr
  obtain ⟨Dw,hr⟩:=aC hr
  obtain ⟨v6,hv6,hr⟩:=aQ hr
  obtain ⟨v7,hv7,hr⟩:=aQ hr
  obtain ⟨v8,Xk,hr⟩:=aQ hr
  try simp only [hv5,hv6,hv7,Xk,Option.getD_some,Option.isSome_some,true_and,and_assoc]
  repeat (first | refine gG Dw ?_ | refine gA ?_ | refine gB ?_)
  refine dM hr (fun hc hr=> ?_) fun hc hr=>D1 (S.ss [1,9,43,44,45] [(1,1)] []) hr
  refine gr ?_
  refine S.prune [10,12] ?_
  refine S.gx [4] ?_
  exact D0 hr
def r61 (x0 x1:Int) (x2:au) (x3:aj) (x4 x5:aZ) (x6:au) (x7 x8:Int):Option (Int×Int×au×aj×aZ×aZ×au×Int×Int×Int):=
 (r20 x0 x1 x2 x3 x4 x5 x6 x7 x8).bind fun v1=>
  some (x0,x1,x2,x3,x4,x5,x6,x7,x8,v1.2)
@[go_sem] def T61:=KU qu9 true r61
@[go_sem] def ayJ (k:Nat):=lk [(20,T20.sp)] k
theorem f61:aF Tryz.prog 61 T61.sp:=by
 refine vm (tb:=ayJ) (.cons f20 .nil) Tryz.func61 Tryz.ntmps61 fun ⟨x0,x1,x2,x3,x4,x5,x6,x7,x8⟩ r hr stop S=> ?_
 rw [Oa,r61] at hr
 refine S.gx [] ?_
 exact D0 hr
def ab6 (a0:bD) (s1 s3 s5 s7:Int×(List (Int×Int×Int×Int×Int×Hl))):Bd Unit (gK (Int×(List (Int×Int×Int×Int×Int×Hl))) (gK (Int×(List (Int×Int×Int×Int×Int×Hl))) (gK (Int×(List (Int×Int×Int×Int×Int×Hl))) (gK (Int×(List (Int×Int×Int×Int×Int×Hl))) (gK (Int×(List (Int×Int×Int×Int×Int×Hl))) (gK (Int×(List (Int×Int×Int×Int×Int×Hl))) (gK (Int×(List (Int×Int×Int×Int×Int×Hl))) (bD)))))))):=fun s8=>
 if (decide (0<(((hU (((hU (((hU ((a0.getD s1.1.toNat default).2.2.2.2.2)).getD s3.1.toNat default).2.2.2.2.2)).getD s5.1.toNat default).2.2.2.2.2)).getD s7.1.toNat default).2.2.2.1)))=true then
  .out none
  else .out (some (.next (IntKind.i64.wrap (s7.1+1),s7.2)))
def ab7 (a0:bD) (s1 s3 s5 s6:Int×(List (Int×Int×Int×Int×Int×Hl))):Bd (Int×(List (Int×Int×Int×Int×Int×Hl))) (gK (Int×(List (Int×Int×Int×Int×Int×Hl))) (gK (Int×(List (Int×Int×Int×Int×Int×Hl))) (gK (Int×(List (Int×Int×Int×Int×Int×Hl))) (gK (Int×(List (Int×Int×Int×Int×Int×Hl))) (gK (Int×(List (Int×Int×Int×Int×Int×Hl))) (gK (Int×(List (Int×Int×Int×Int×Int×Hl))) (bD))))))):=fun s7=>
 if (decide (s7.1<((hU (((hU (((hU ((a0.getD s1.1.toNat default).2.2.2.2.2)).getD s3.1.toNat default).2.2.2.2.2)).getD s5.1.toNat default).2.2.2.2.2)).length:Int)))=true then
  if 0≤s7.1∧s7.1<((hU (((hU (((hU ((a0.getD s1.1.toNat default).2.2.2.2.2)).getD s3.1.toNat default).2.2.2.2.2)).getD s5.1.toNat default).2.2.2.2.2)).length:Int) then
   if ((((hU (((hU (((hU ((a0.getD s1.1.toNat default).2.2.2.2.2)).getD s3.1.toNat default).2.2.2.2.2)).getD s5.1.toNat default).2.2.2.2.2)).getD s7.1.toNat default).1) != 5)=true then
    if (s7.2.length+1)*64≤140737488355328∧s7.2.length+1≤9223372036854775807 then
     if 0≤(s7.2.length:Int)∧(s7.2.length:Int)<((s7.2.length+1):Int) then
      if (!(decide (((s7.2.length+1):Int)≤60)))=true then
       .out (some (.out (some (.out (some (.out (some (.out (some (.out (some (.out (some ((s7.2++[(0,0,0,0,0,Hl.nil)]).set s7.2.length (((hU (((hU (((hU ((a0.getD s1.1.toNat default).2.2.2.2.2)).getD s3.1.toNat default).2.2.2.2.2)).getD s5.1.toNat default).2.2.2.2.2)).getD s7.1.toNat default).1,((hU (((hU (((hU ((a0.getD s1.1.toNat default).2.2.2.2.2)).getD s3.1.toNat default).2.2.2.2.2)).getD s5.1.toNat default).2.2.2.2.2)).getD s7.1.toNat default).2.1,((hU (((hU (((hU ((a0.getD s1.1.toNat default).2.2.2.2.2)).getD s3.1.toNat default).2.2.2.2.2)).getD s5.1.toNat default).2.2.2.2.2)).getD s7.1.toNat default).2.2.1,((hU (((hU (((hU ((a0.getD s1.1.toNat default).2.2.2.2.2)).getD s3.1.toNat default).2.2.2.2.2)).getD s5.1.toNat default).2.2.2.2.2)).getD s7.1.toNat default).2.2.2.1,((hU (((hU (((hU ((a0.getD s1.1.toNat default).2.2.2.2.2)).getD s3.1.toNat default).2.2.2.2.2)).getD s5.1.toNat default).2.2.2.2.2)).getD s7.1.toNat default).2.2.2.2.1,((hU (((hU (((hU ((a0.getD s1.1.toNat default).2.2.2.2.2)).getD s3.1.toNat default).2.2.2.2.2)).getD s5.1.toNat default).2.2.2.2.2)).getD s7.1.toNat default).2.2.2.2.2)))))))))))))))
       else .next (IntKind.i64.wrap (s7.1+1),(s7.2++[(0,0,0,0,0,Hl.nil)]).set s7.2.length (((hU (((hU (((hU ((a0.getD s1.1.toNat default).2.2.2.2.2)).getD s3.1.toNat default).2.2.2.2.2)).getD s5.1.toNat default).2.2.2.2.2)).getD s7.1.toNat default).1,((hU (((hU (((hU ((a0.getD s1.1.toNat default).2.2.2.2.2)).getD s3.1.toNat default).2.2.2.2.2)).getD s5.1.toNat default).2.2.2.2.2)).getD s7.1.toNat default).2.1,((hU (((hU (((hU ((a0.getD s1.1.toNat default).2.2.2.2.2)).getD s3.1.toNat default).2.2.2.2.2)).getD s5.1.toNat default).2.2.2.2.2)).getD s7.1.toNat default).2.2.1,((hU (((hU (((hU ((a0.getD s1.1.toNat default).2.2.2.2.2)).getD s3.1.toNat default).2.2.2.2.2)).getD s5.1.toNat default).2.2.2.2.2)).getD s7.1.toNat default).2.2.2.1,((hU (((hU (((hU ((a0.getD s1.1.toNat default).2.2.2.2.2)).getD s3.1.toNat default).2.2.2.2.2)).getD s5.1.toNat default).2.2.2.2.2)).getD s7.1.toNat default).2.2.2.2.1,((hU (((hU (((hU ((a0.getD s1.1.toNat default).2.2.2.2.2)).getD s3.1.toNat default).2.2.2.2.2)).getD s5.1.toNat default).2.2.2.2.2)).getD s7.1.toNat default).2.2.2.2.2))
      else .out none
     else .out none
    else (aS (ab6 a0 s1 s3 s5 s7) 1000000000 ()).getD (.out none)
   else .out none
  else .out (some (.next (IntKind.i64.wrap (s6.1+1),s7.2)))
def ab8 (a0:bD) (s1 s3 s5:Int×(List (Int×Int×Int×Int×Int×Hl))):Bd (Int×(List (Int×Int×Int×Int×Int×Hl))) (gK (Int×(List (Int×Int×Int×Int×Int×Hl))) (gK (Int×(List (Int×Int×Int×Int×Int×Hl))) (gK (Int×(List (Int×Int×Int×Int×Int×Hl))) (gK (Int×(List (Int×Int×Int×Int×Int×Hl))) (gK (Int×(List (Int×Int×Int×Int×Int×Hl))) (bD)))))):=fun s6=>
 if (decide (s6.1<(((hU (((hU ((a0.getD s1.1.toNat default).2.2.2.2.2)).getD s3.1.toNat default).2.2.2.2.2)).getD s5.1.toNat default).2.2.2.1)))=true then
  (aS (ab7 a0 s1 s3 s5 s6) 1000000000 (0,s6.2)).getD (.out none)
  else .out (some (.next (IntKind.i64.wrap (s5.1+1),s6.2)))
def ab9 (a0:bD) (s1 s3 s4:Int×(List (Int×Int×Int×Int×Int×Hl))):Bd (Int×(List (Int×Int×Int×Int×Int×Hl))) (gK (Int×(List (Int×Int×Int×Int×Int×Hl))) (gK (Int×(List (Int×Int×Int×Int×Int×Hl))) (gK (Int×(List (Int×Int×Int×Int×Int×Hl))) (gK (Int×(List (Int×Int×Int×Int×Int×Hl))) (bD))))):=fun s5=>
 if (decide (s5.1<((hU (((hU ((a0.getD s1.1.toNat default).2.2.2.2.2)).getD s3.1.toNat default).2.2.2.2.2)).length:Int)))=true then
  if 0≤s5.1∧s5.1<((hU (((hU ((a0.getD s1.1.toNat default).2.2.2.2.2)).getD s3.1.toNat default).2.2.2.2.2)).length:Int) then
   if ((((hU (((hU ((a0.getD s1.1.toNat default).2.2.2.2.2)).getD s3.1.toNat default).2.2.2.2.2)).getD s5.1.toNat default).1) != 5)=true then
    if (s5.2.length+1)*64≤140737488355328∧s5.2.length+1≤9223372036854775807 then
     if 0≤(s5.2.length:Int)∧(s5.2.length:Int)<((s5.2.length+1):Int) then
      if (!(decide (((s5.2.length+1):Int)≤60)))=true then
       .out (some (.out (some (.out (some (.out (some (.out (some ((s5.2++[(0,0,0,0,0,Hl.nil)]).set s5.2.length (((hU (((hU ((a0.getD s1.1.toNat default).2.2.2.2.2)).getD s3.1.toNat default).2.2.2.2.2)).getD s5.1.toNat default).1,((hU (((hU ((a0.getD s1.1.toNat default).2.2.2.2.2)).getD s3.1.toNat default).2.2.2.2.2)).getD s5.1.toNat default).2.1,((hU (((hU ((a0.getD s1.1.toNat default).2.2.2.2.2)).getD s3.1.toNat default).2.2.2.2.2)).getD s5.1.toNat default).2.2.1,((hU (((hU ((a0.getD s1.1.toNat default).2.2.2.2.2)).getD s3.1.toNat default).2.2.2.2.2)).getD s5.1.toNat default).2.2.2.1,((hU (((hU ((a0.getD s1.1.toNat default).2.2.2.2.2)).getD s3.1.toNat default).2.2.2.2.2)).getD s5.1.toNat default).2.2.2.2.1,((hU (((hU ((a0.getD s1.1.toNat default).2.2.2.2.2)).getD s3.1.toNat default).2.2.2.2.2)).getD s5.1.toNat default).2.2.2.2.2)))))))))))
       else .next (IntKind.i64.wrap (s5.1+1),(s5.2++[(0,0,0,0,0,Hl.nil)]).set s5.2.length (((hU (((hU ((a0.getD s1.1.toNat default).2.2.2.2.2)).getD s3.1.toNat default).2.2.2.2.2)).getD s5.1.toNat default).1,((hU (((hU ((a0.getD s1.1.toNat default).2.2.2.2.2)).getD s3.1.toNat default).2.2.2.2.2)).getD s5.1.toNat default).2.1,((hU (((hU ((a0.getD s1.1.toNat default).2.2.2.2.2)).getD s3.1.toNat default).2.2.2.2.2)).getD s5.1.toNat default).2.2.1,((hU (((hU ((a0.getD s1.1.toNat default).2.2.2.2.2)).getD s3.1.toNat default).2.2.2.2.2)).getD s5.1.toNat default).2.2.2.1,((hU (((hU ((a0.getD s1.1.toNat default).2.2.2.2.2)).getD s3.1.toNat default).2.2.2.2.2)).getD s5.1.toNat default).2.2.2.2.1,((hU (((hU ((a0.getD s1.1.toNat default).2.2.2.2.2)).getD s3.1.toNat default).2.2.2.2.2)).getD s5.1.toNat default).2.2.2.2.2))
      else .out none
     else .out none
    else (aS (ab8 a0 s1 s3 s5) 1000000000 (0,s5.2)).getD (.out none)
   else .out none
  else .out (some (.next (IntKind.i64.wrap (s4.1+1),s5.2)))
def acd (a0:bD) (s1 s3:Int×(List (Int×Int×Int×Int×Int×Hl))):Bd (Int×(List (Int×Int×Int×Int×Int×Hl))) (gK (Int×(List (Int×Int×Int×Int×Int×Hl))) (gK (Int×(List (Int×Int×Int×Int×Int×Hl))) (gK (Int×(List (Int×Int×Int×Int×Int×Hl))) (bD)))):=fun s4=>
 if (decide (s4.1<(((hU ((a0.getD s1.1.toNat default).2.2.2.2.2)).getD s3.1.toNat default).2.2.2.1)))=true then
  (aS (ab9 a0 s1 s3 s4) 1000000000 (0,s4.2)).getD (.out none)
  else .out (some (.next (IntKind.i64.wrap (s3.1+1),s4.2)))
def ace (a0:bD) (s1 s2:Int×(List (Int×Int×Int×Int×Int×Hl))):Bd (Int×(List (Int×Int×Int×Int×Int×Hl))) (gK (Int×(List (Int×Int×Int×Int×Int×Hl))) (gK (Int×(List (Int×Int×Int×Int×Int×Hl))) (bD))):=fun s3=>
 if (decide (s3.1<((hU ((a0.getD s1.1.toNat default).2.2.2.2.2)).length:Int)))=true then
  if 0≤s3.1∧s3.1<((hU ((a0.getD s1.1.toNat default).2.2.2.2.2)).length:Int) then
   if ((((hU ((a0.getD s1.1.toNat default).2.2.2.2.2)).getD s3.1.toNat default).1) != 5)=true then
    if (s3.2.length+1)*64≤140737488355328∧s3.2.length+1≤9223372036854775807 then
     if 0≤(s3.2.length:Int)∧(s3.2.length:Int)<((s3.2.length+1):Int) then
      if (!(decide (((s3.2.length+1):Int)≤60)))=true then
       .out (some (.out (some (.out (some ((s3.2++[(0,0,0,0,0,Hl.nil)]).set s3.2.length (((hU ((a0.getD s1.1.toNat default).2.2.2.2.2)).getD s3.1.toNat default).1,((hU ((a0.getD s1.1.toNat default).2.2.2.2.2)).getD s3.1.toNat default).2.1,((hU ((a0.getD s1.1.toNat default).2.2.2.2.2)).getD s3.1.toNat default).2.2.1,((hU ((a0.getD s1.1.toNat default).2.2.2.2.2)).getD s3.1.toNat default).2.2.2.1,((hU ((a0.getD s1.1.toNat default).2.2.2.2.2)).getD s3.1.toNat default).2.2.2.2.1,((hU ((a0.getD s1.1.toNat default).2.2.2.2.2)).getD s3.1.toNat default).2.2.2.2.2)))))))
       else .next (IntKind.i64.wrap (s3.1+1),(s3.2++[(0,0,0,0,0,Hl.nil)]).set s3.2.length (((hU ((a0.getD s1.1.toNat default).2.2.2.2.2)).getD s3.1.toNat default).1,((hU ((a0.getD s1.1.toNat default).2.2.2.2.2)).getD s3.1.toNat default).2.1,((hU ((a0.getD s1.1.toNat default).2.2.2.2.2)).getD s3.1.toNat default).2.2.1,((hU ((a0.getD s1.1.toNat default).2.2.2.2.2)).getD s3.1.toNat default).2.2.2.1,((hU ((a0.getD s1.1.toNat default).2.2.2.2.2)).getD s3.1.toNat default).2.2.2.2.1,((hU ((a0.getD s1.1.toNat default).2.2.2.2.2)).getD s3.1.toNat default).2.2.2.2.2))
      else .out none
     else .out none
    else (aS (acd a0 s1 s3) 1000000000 (0,s3.2)).getD (.out none)
   else .out none
  else .out (some (.next (IntKind.i64.wrap (s2.1+1),s3.2)))
def acf (a0:bD) (s1:Int×(List (Int×Int×Int×Int×Int×Hl))):Bd (Int×(List (Int×Int×Int×Int×Int×Hl))) (gK (Int×(List (Int×Int×Int×Int×Int×Hl))) (bD)):=fun s2=>
 if (decide (s2.1<((a0.getD s1.1.toNat default).2.2.2.1)))=true then
  (aS (ace a0 s1 s2) 1000000000 (0,s2.2)).getD (.out none)
  else .out (some (.next (IntKind.i64.wrap (s1.1+1),s2.2)))
def acg (a0:bD):Bd (Int×(List (Int×Int×Int×Int×Int×Hl))) bD:=fun s1=>
 if (decide (s1.1<(a0.length:Int)))=true then
  if 0≤s1.1∧s1.1<(a0.length:Int) then
   if (((a0.getD s1.1.toNat default).1) != 5)=true then
    if (s1.2.length+1)*64≤140737488355328∧s1.2.length+1≤9223372036854775807 then
     if 0≤(s1.2.length:Int)∧(s1.2.length:Int)<((s1.2.length+1):Int) then
      if (!(decide (((s1.2.length+1):Int)≤60)))=true then
       .out (some ((s1.2++[(0,0,0,0,0,Hl.nil)]).set s1.2.length ((a0.getD s1.1.toNat default).1,(a0.getD s1.1.toNat default).2.1,(a0.getD s1.1.toNat default).2.2.1,(a0.getD s1.1.toNat default).2.2.2.1,(a0.getD s1.1.toNat default).2.2.2.2.1,(a0.getD s1.1.toNat default).2.2.2.2.2)))
       else .next (IntKind.i64.wrap (s1.1+1),(s1.2++[(0,0,0,0,0,Hl.nil)]).set s1.2.length ((a0.getD s1.1.toNat default).1,(a0.getD s1.1.toNat default).2.1,(a0.getD s1.1.toNat default).2.2.1,(a0.getD s1.1.toNat default).2.2.2.1,(a0.getD s1.1.toNat default).2.2.2.2.1,(a0.getD s1.1.toNat default).2.2.2.2.2))
      else .out none
     else .out none
    else (aS (acf a0 s1) 1000000000 (0,s1.2)).getD (.out none)
   else .out none
  else .out (some s1.2)
def r93 (a0:bD):Option (bD):=
 aS (acg a0) 1000000000 (0,[])
@[go_sem] def T93:=aeu qu1 true r93
def amT:oC:=lk []
theorem oJ:fC Tryz.prog amT:=fC.nil
theorem f93:aF Tryz.prog 93 T93.sp:=by
 refine vm (tb:=amT) .nil Tryz.func93 Tryz.ntmps93 fun a0 r hr stop S=> ?_
 rw [rF,r93] at hr
 refine S.gx [2] ?_
 refine gr ?_
 refine S.inl 2 [3] [] Tryz.func129 (by decide) rfl Tryz.ntmps129 (fun cx e=>aT bT oJ cx e) (some 6) rfl rfl rfl rfl (nL rfl) (nL rfl) ?_
 refine gs ?_
 refine gr ?_
 intro stop1 S1
 refine S1.gx [5,9] ?_
 refine gr ?_
 refine S1.pW 3 0 2000300 6 rfl rfl (nL rfl) rfl ?_
 refine S1.sees [1,7,8,9] [(3,3)] [(2000300,2000300)] ?_ (Stop.iter S1 (fun s1=>⟨[(1,.c (.clo 130 [.ref 3 0])),(7,.c (.d (ah 6 bF a0))),(8,.c (.d (.int .i64 (a0.length:Int)))),(9,.c (.d (.int .i64 s1.1)))],[(3,[.own 2000300])],[(2000300,.owned (ah 6 bF s1.2))]⟩) (acg a0) (fun q=>q=r) hr rfl ?_)
 ·exact lf
 ·intro s1 hr
  unfold acg at hr
  refine S1.gx [5,9] ?_
  refine gr ?_
  refine dM hr (fun hc hr=> ?_) fun hc hr=> ?_
  ·obtain ⟨LY,hr⟩:=aC hr
   refine gr ?_
   refine dM hr (fun hc hr=> ?_) fun hc hr=> ?_
   ·refine gr ?_
    refine S1.inl 2 [1,7,8,9] [.ref 3 0] Tryz.func130 (by decide) rfl Tryz.ntmps130 (fun cx e=>aT bT oJ cx e) (some 18) rfl rfl rfl rfl (nL rfl) (nL rfl) ?_
    refine gs ?_
    refine gr ?_
    intro stop2 S2
    refine S2.gx [] ?_
    obtain ⟨hg1,hr⟩:=aC hr
    obtain ⟨hg2,hr⟩:=aC hr
    refine gr ?_
    refine gr ?_
    refine S1.gx [5,9] ?_
    refine gr ?_
    refine dM hr (fun hc hr=> ?_) fun hc hr=>D1 (S1.ss [1,7,8,9] [(3,3)] [(8,2000300)]) hr
    refine gr ?_
    have hr:=bK hr
    refine gr ?_
    refine S.gx [2] ?_
    exact D0 hr
   ·refine gr ?_
    obtain ⟨q2,hq,hr⟩:=iQ hr
    refine S1.sees [1,6,7,8,9,21,22] [(3,3),(6,6)] [(2000300,2000300)] ?_ (Stop.iter S1 (fun s2=>⟨[(1,.c (.clo 130 [.ref 3 0])),(6,.c (.ref 6 0)),(7,.c (.d (ah 6 bF a0))),(8,.c (.d (.int .i64 (a0.length:Int)))),(9,.c (.d (.int .i64 s1.1))),(21,.c (.d (.int .i64 ((a0.getD s1.1.toNat default).2.2.2.1)))),(22,.c (.d (.int .i64 s2.1)))],[(3,[.own 2000300]),(6,[.d (.int .i64 ((a0.getD s1.1.toNat default).1)),.d (.int .i64 ((a0.getD s1.1.toNat default).2.1)),.d (.int .i64 ((a0.getD s1.1.toNat default).2.2.1)),.d (.int .i64 ((a0.getD s1.1.toNat default).2.2.2.1)),.d (.int .i64 ((a0.getD s1.1.toNat default).2.2.2.2.1)),.d (hE ((a0.getD s1.1.toNat default).2.2.2.2.2))])],[(2000300,.owned (ah 6 bF s2.2))]⟩) (acf a0 s1) _ hq hr ?_)
    ·exact lf
    ·intro s2 hr
     unfold acf at hr
     refine S1.gx [5,9] ?_
     refine gr ?_
     refine dM hr (fun hc hr=> ?_) fun hc hr=> ?_
     ·refine gr ?_
      refine S1.inl 3 [1,6,7,8,9,21,22] [] Tryz.func129 (by decide) rfl Tryz.ntmps129 (fun cx e=>aT bT oJ cx e) (some 27) rfl rfl rfl rfl (nL rfl) (nL rfl) ?_
      refine gs ?_
      refine gr ?_
      intro stop2 S2
      refine S2.gx [5,9] ?_
      refine gr ?_
      obtain ⟨q3,hq,hr⟩:=iQ hr
      refine S2.sees [1,7,8,9] [(3,3),(6,6)] [(2000300,2000300)] ?_ (Stop.iter S2 (fun s3=>⟨[(1,.c (.clo 130 [.ref 3 0])),(7,.c (.d (ah 6 bF (hU ((a0.getD s1.1.toNat default).2.2.2.2.2))))),(8,.c (.d (.int .i64 ((hU ((a0.getD s1.1.toNat default).2.2.2.2.2)).length:Int)))),(9,.c (.d (.int .i64 s3.1)))],[(3,[.own 2000300]),(6,[.d (.int .i64 ((a0.getD s1.1.toNat default).1)),.d (.int .i64 ((a0.getD s1.1.toNat default).2.1)),.d (.int .i64 ((a0.getD s1.1.toNat default).2.2.1)),.d (.int .i64 ((a0.getD s1.1.toNat default).2.2.2.1)),.d (.int .i64 ((a0.getD s1.1.toNat default).2.2.2.2.1)),.d (hE ((a0.getD s1.1.toNat default).2.2.2.2.2))])],[(2000300,.owned (ah 6 bF s3.2))]⟩) (ace a0 s1 s2) _ hq hr ?_)
      ·exact lf
      ·intro s3 hr
       unfold ace at hr
       refine S2.gx [5,9] ?_
       refine gr ?_
       refine dM hr (fun hc hr=> ?_) fun hc hr=> ?_
       ·obtain ⟨LZ,hr⟩:=aC hr
        refine gr ?_
        refine dM hr (fun hc hr=> ?_) fun hc hr=> ?_
        ·refine gr ?_
         refine S2.inl 2 [1,7,8,9] [.ref 3 0] Tryz.func130 (by decide) rfl Tryz.ntmps130 (fun cx e=>aT bT oJ cx e) (some 18) rfl rfl rfl rfl (nL rfl) (nL rfl) ?_
         refine gs ?_
         refine gr ?_
         intro zQ S3
         refine S3.gx [] ?_
         obtain ⟨hg3,hr⟩:=aC hr
         obtain ⟨hg4,hr⟩:=aC hr
         refine gr ?_
         refine gr ?_
         refine S2.gx [5,9] ?_
         refine gr ?_
         refine dM hr (fun hc hr=> ?_) fun hc hr=>D1 (S2.ss [1,7,8,9] [(3,3),(6,6)] [(8,2000300)]) hr
         refine gr ?_
         replace hr:=bC hr
         refine gr ?_
         refine S1.gx [5,9] ?_
         refine gr ?_
         replace hr:=bC hr
         have hr:=bK hr
         refine gr ?_
         refine S.gx [2] ?_
         exact D0 hr
        ·refine gr ?_
         obtain ⟨q4,hq,hr⟩:=iQ hr
         refine S2.sees [1,6,7,8,9,21,22] [(3,3),(100006,100006),(6,6)] [(2000300,2000300)] ?_ (Stop.iter S2 (fun s4=>⟨[(1,.c (.clo 130 [.ref 3 0])),(6,.c (.ref 100006 0)),(7,.c (.d (ah 6 bF (hU ((a0.getD s1.1.toNat default).2.2.2.2.2))))),(8,.c (.d (.int .i64 ((hU ((a0.getD s1.1.toNat default).2.2.2.2.2)).length:Int)))),(9,.c (.d (.int .i64 s3.1))),(21,.c (.d (.int .i64 (((hU ((a0.getD s1.1.toNat default).2.2.2.2.2)).getD s3.1.toNat default).2.2.2.1)))),(22,.c (.d (.int .i64 s4.1)))],[(3,[.own 2000300]),(100006,[.d (.int .i64 (((hU ((a0.getD s1.1.toNat default).2.2.2.2.2)).getD s3.1.toNat default).1)),.d (.int .i64 (((hU ((a0.getD s1.1.toNat default).2.2.2.2.2)).getD s3.1.toNat default).2.1)),.d (.int .i64 (((hU ((a0.getD s1.1.toNat default).2.2.2.2.2)).getD s3.1.toNat default).2.2.1)),.d (.int .i64 (((hU ((a0.getD s1.1.toNat default).2.2.2.2.2)).getD s3.1.toNat default).2.2.2.1)),.d (.int .i64 (((hU ((a0.getD s1.1.toNat default).2.2.2.2.2)).getD s3.1.toNat default).2.2.2.2.1)),.d (hE (((hU ((a0.getD s1.1.toNat default).2.2.2.2.2)).getD s3.1.toNat default).2.2.2.2.2))]),(6,[.d (.int .i64 ((a0.getD s1.1.toNat default).1)),.d (.int .i64 ((a0.getD s1.1.toNat default).2.1)),.d (.int .i64 ((a0.getD s1.1.toNat default).2.2.1)),.d (.int .i64 ((a0.getD s1.1.toNat default).2.2.2.1)),.d (.int .i64 ((a0.getD s1.1.toNat default).2.2.2.2.1)),.d (hE ((a0.getD s1.1.toNat default).2.2.2.2.2))])],[(2000300,.owned (ah 6 bF s4.2))]⟩) (acd a0 s1 s3) _ hq hr ?_)
         ·exact lf
         ·intro s4 hr
          unfold acd at hr
          refine S2.gx [5,9] ?_
          refine gr ?_
          refine dM hr (fun hc hr=> ?_) fun hc hr=> ?_
          ·refine gr ?_
           refine S2.inl 3 [1,6,7,8,9,21,22] [] Tryz.func129 (by decide) rfl Tryz.ntmps129 (fun cx e=>aT bT oJ cx e) (some 27) rfl rfl rfl rfl (nL rfl) (nL rfl) ?_
           refine gs ?_
           refine gr ?_
           intro zQ S3
           refine S3.gx [5,9] ?_
           refine gr ?_
           obtain ⟨q5,hq,hr⟩:=iQ hr
           refine S3.sees [1,7,8,9] [(3,3),(100006,100006),(6,6)] [(2000300,2000300)] ?_ (Stop.iter S3 (fun s5=>⟨[(1,.c (.clo 130 [.ref 3 0])),(7,.c (.d (ah 6 bF (hU (((hU ((a0.getD s1.1.toNat default).2.2.2.2.2)).getD s3.1.toNat default).2.2.2.2.2))))),(8,.c (.d (.int .i64 ((hU (((hU ((a0.getD s1.1.toNat default).2.2.2.2.2)).getD s3.1.toNat default).2.2.2.2.2)).length:Int)))),(9,.c (.d (.int .i64 s5.1)))],[(3,[.own 2000300]),(100006,[.d (.int .i64 (((hU ((a0.getD s1.1.toNat default).2.2.2.2.2)).getD s3.1.toNat default).1)),.d (.int .i64 (((hU ((a0.getD s1.1.toNat default).2.2.2.2.2)).getD s3.1.toNat default).2.1)),.d (.int .i64 (((hU ((a0.getD s1.1.toNat default).2.2.2.2.2)).getD s3.1.toNat default).2.2.1)),.d (.int .i64 (((hU ((a0.getD s1.1.toNat default).2.2.2.2.2)).getD s3.1.toNat default).2.2.2.1)),.d (.int .i64 (((hU ((a0.getD s1.1.toNat default).2.2.2.2.2)).getD s3.1.toNat default).2.2.2.2.1)),.d (hE (((hU ((a0.getD s1.1.toNat default).2.2.2.2.2)).getD s3.1.toNat default).2.2.2.2.2))]),(6,[.d (.int .i64 ((a0.getD s1.1.toNat default).1)),.d (.int .i64 ((a0.getD s1.1.toNat default).2.1)),.d (.int .i64 ((a0.getD s1.1.toNat default).2.2.1)),.d (.int .i64 ((a0.getD s1.1.toNat default).2.2.2.1)),.d (.int .i64 ((a0.getD s1.1.toNat default).2.2.2.2.1)),.d (hE ((a0.getD s1.1.toNat default).2.2.2.2.2))])],[(2000300,.owned (ah 6 bF s5.2))]⟩) (ab9 a0 s1 s3 s4) _ hq hr ?_)
           ·exact lf
           ·intro s5 hr
            unfold ab9 at hr
            refine S3.gx [5,9] ?_
            refine gr ?_
            refine dM hr (fun hc hr=> ?_) fun hc hr=> ?_
            ·obtain ⟨Dw,hr⟩:=aC hr
             refine gr ?_
             refine dM hr (fun hc hr=> ?_) fun hc hr=> ?_
             ·refine gr ?_
              refine S3.inl 2 [1,7,8,9] [.ref 3 0] Tryz.func130 (by decide) rfl Tryz.ntmps130 (fun cx e=>aT bT oJ cx e) (some 18) rfl rfl rfl rfl (nL rfl) (nL rfl) ?_
              refine gs ?_
              refine gr ?_
              intro wW S4
              refine S4.gx [] ?_
              obtain ⟨hg5,hr⟩:=aC hr
              obtain ⟨hg6,hr⟩:=aC hr
              refine gr ?_
              refine gr ?_
              refine S3.gx [5,9] ?_
              refine gr ?_
              refine dM hr (fun hc hr=> ?_) fun hc hr=>D1 (S3.ss [1,7,8,9] [(3,3),(100006,100006),(6,6)] [(8,2000300)]) hr
              refine gr ?_
              replace hr:=bC hr
              refine gr ?_
              refine S2.gx [5,9] ?_
              refine gr ?_
              replace hr:=bC hr
              replace hr:=bC hr
              refine gr ?_
              refine S1.gx [5,9] ?_
              refine gr ?_
              replace hr:=bC hr
              have hr:=bK hr
              refine gr ?_
              refine S.gx [2] ?_
              exact D0 hr
             ·refine gr ?_
              obtain ⟨q6,hq,hr⟩:=iQ hr
              refine S3.sees [1,6,7,8,9,21,22] [(3,3),(200006,200006),(100006,100006),(6,6)] [(2000300,2000300)] ?_ (Stop.iter S3 (fun s6=>⟨[(1,.c (.clo 130 [.ref 3 0])),(6,.c (.ref 200006 0)),(7,.c (.d (ah 6 bF (hU (((hU ((a0.getD s1.1.toNat default).2.2.2.2.2)).getD s3.1.toNat default).2.2.2.2.2))))),(8,.c (.d (.int .i64 ((hU (((hU ((a0.getD s1.1.toNat default).2.2.2.2.2)).getD s3.1.toNat default).2.2.2.2.2)).length:Int)))),(9,.c (.d (.int .i64 s5.1))),(21,.c (.d (.int .i64 (((hU (((hU ((a0.getD s1.1.toNat default).2.2.2.2.2)).getD s3.1.toNat default).2.2.2.2.2)).getD s5.1.toNat default).2.2.2.1)))),(22,.c (.d (.int .i64 s6.1)))],[(3,[.own 2000300]),(200006,[.d (.int .i64 (((hU (((hU ((a0.getD s1.1.toNat default).2.2.2.2.2)).getD s3.1.toNat default).2.2.2.2.2)).getD s5.1.toNat default).1)),.d (.int .i64 (((hU (((hU ((a0.getD s1.1.toNat default).2.2.2.2.2)).getD s3.1.toNat default).2.2.2.2.2)).getD s5.1.toNat default).2.1)),.d (.int .i64 (((hU (((hU ((a0.getD s1.1.toNat default).2.2.2.2.2)).getD s3.1.toNat default).2.2.2.2.2)).getD s5.1.toNat default).2.2.1)),.d (.int .i64 (((hU (((hU ((a0.getD s1.1.toNat default).2.2.2.2.2)).getD s3.1.toNat default).2.2.2.2.2)).getD s5.1.toNat default).2.2.2.1)),.d (.int .i64 (((hU (((hU ((a0.getD s1.1.toNat default).2.2.2.2.2)).getD s3.1.toNat default).2.2.2.2.2)).getD s5.1.toNat default).2.2.2.2.1)),.d (hE (((hU (((hU ((a0.getD s1.1.toNat default).2.2.2.2.2)).getD s3.1.toNat default).2.2.2.2.2)).getD s5.1.toNat default).2.2.2.2.2))]),(100006,[.d (.int .i64 (((hU ((a0.getD s1.1.toNat default).2.2.2.2.2)).getD s3.1.toNat default).1)),.d (.int .i64 (((hU ((a0.getD s1.1.toNat default).2.2.2.2.2)).getD s3.1.toNat default).2.1)),.d (.int .i64 (((hU ((a0.getD s1.1.toNat default).2.2.2.2.2)).getD s3.1.toNat default).2.2.1)),.d (.int .i64 (((hU ((a0.getD s1.1.toNat default).2.2.2.2.2)).getD s3.1.toNat default).2.2.2.1)),.d (.int .i64 (((hU ((a0.getD s1.1.toNat default).2.2.2.2.2)).getD s3.1.toNat default).2.2.2.2.1)),.d (hE (((hU ((a0.getD s1.1.toNat default).2.2.2.2.2)).getD s3.1.toNat default).2.2.2.2.2))]),(6,[.d (.int .i64 ((a0.getD s1.1.toNat default).1)),.d (.int .i64 ((a0.getD s1.1.toNat default).2.1)),.d (.int .i64 ((a0.getD s1.1.toNat default).2.2.1)),.d (.int .i64 ((a0.getD s1.1.toNat default).2.2.2.1)),.d (.int .i64 ((a0.getD s1.1.toNat default).2.2.2.2.1)),.d (hE ((a0.getD s1.1.toNat default).2.2.2.2.2))])],[(2000300,.owned (ah 6 bF s6.2))]⟩) (ab8 a0 s1 s3 s5) _ hq hr ?_)
              ·exact lf
              ·intro s6 hr
               unfold ab8 at hr
               refine S3.gx [5,9] ?_
               refine gr ?_
               refine dM hr (fun hc hr=> ?_) fun hc hr=> ?_
               ·refine gr ?_
                refine S3.inl 3 [1,6,7,8,9,21,22] [] Tryz.func129 (by decide) rfl Tryz.ntmps129 (fun cx e=>aT bT oJ cx e) (some 27) rfl rfl rfl rfl (nL rfl) (nL rfl) ?_
                refine gs ?_
                refine gr ?_
                intro wW S4
                refine S4.gx [5,9] ?_
                refine gr ?_
                obtain ⟨q7,hq,hr⟩:=iQ hr
                refine S4.sees [1,7,8,9] [(3,3),(200006,200006),(100006,100006),(6,6)] [(2000300,2000300)] ?_ (Stop.iter S4 (fun s7=>⟨[(1,.c (.clo 130 [.ref 3 0])),(7,.c (.d (ah 6 bF (hU (((hU (((hU ((a0.getD s1.1.toNat default).2.2.2.2.2)).getD s3.1.toNat default).2.2.2.2.2)).getD s5.1.toNat default).2.2.2.2.2))))),(8,.c (.d (.int .i64 ((hU (((hU (((hU ((a0.getD s1.1.toNat default).2.2.2.2.2)).getD s3.1.toNat default).2.2.2.2.2)).getD s5.1.toNat default).2.2.2.2.2)).length:Int)))),(9,.c (.d (.int .i64 s7.1)))],[(3,[.own 2000300]),(200006,[.d (.int .i64 (((hU (((hU ((a0.getD s1.1.toNat default).2.2.2.2.2)).getD s3.1.toNat default).2.2.2.2.2)).getD s5.1.toNat default).1)),.d (.int .i64 (((hU (((hU ((a0.getD s1.1.toNat default).2.2.2.2.2)).getD s3.1.toNat default).2.2.2.2.2)).getD s5.1.toNat default).2.1)),.d (.int .i64 (((hU (((hU ((a0.getD s1.1.toNat default).2.2.2.2.2)).getD s3.1.toNat default).2.2.2.2.2)).getD s5.1.toNat default).2.2.1)),.d (.int .i64 (((hU (((hU ((a0.getD s1.1.toNat default).2.2.2.2.2)).getD s3.1.toNat default).2.2.2.2.2)).getD s5.1.toNat default).2.2.2.1)),.d (.int .i64 (((hU (((hU ((a0.getD s1.1.toNat default).2.2.2.2.2)).getD s3.1.toNat default).2.2.2.2.2)).getD s5.1.toNat default).2.2.2.2.1)),.d (hE (((hU (((hU ((a0.getD s1.1.toNat default).2.2.2.2.2)).getD s3.1.toNat default).2.2.2.2.2)).getD s5.1.toNat default).2.2.2.2.2))]),(100006,[.d (.int .i64 (((hU ((a0.getD s1.1.toNat default).2.2.2.2.2)).getD s3.1.toNat default).1)),.d (.int .i64 (((hU ((a0.getD s1.1.toNat default).2.2.2.2.2)).getD s3.1.toNat default).2.1)),.d (.int .i64 (((hU ((a0.getD s1.1.toNat default).2.2.2.2.2)).getD s3.1.toNat default).2.2.1)),.d (.int .i64 (((hU ((a0.getD s1.1.toNat default).2.2.2.2.2)).getD s3.1.toNat default).2.2.2.1)),.d (.int .i64 (((hU ((a0.getD s1.1.toNat default).2.2.2.2.2)).getD s3.1.toNat default).2.2.2.2.1)),.d (hE (((hU ((a0.getD s1.1.toNat default).2.2.2.2.2)).getD s3.1.toNat default).2.2.2.2.2))]),(6,[.d (.int .i64 ((a0.getD s1.1.toNat default).1)),.d (.int .i64 ((a0.getD s1.1.toNat default).2.1)),.d (.int .i64 ((a0.getD s1.1.toNat default).2.2.1)),.d (.int .i64 ((a0.getD s1.1.toNat default).2.2.2.1)),.d (.int .i64 ((a0.getD s1.1.toNat default).2.2.2.2.1)),.d (hE ((a0.getD s1.1.toNat default).2.2.2.2.2))])],[(2000300,.owned (ah 6 bF s7.2))]⟩) (ab7 a0 s1 s3 s5 s6) _ hq hr ?_)
                ·exact lf
                ·intro s7 hr
                 unfold ab7 at hr
                 refine S4.gx [5,9] ?_
                 refine gr ?_
                 refine dM hr (fun hc hr=> ?_) fun hc hr=> ?_
                 ·obtain ⟨hg9,hr⟩:=aC hr
                  refine gr ?_
                  refine dM hr (fun hc hr=> ?_) fun hc hr=> ?_
                  ·refine gr ?_
                   refine S4.inl 2 [1,7,8,9] [.ref 3 0] Tryz.func130 (by decide) rfl Tryz.ntmps130 (fun cx e=>aT bT oJ cx e) (some 18) rfl rfl rfl rfl (nL rfl) (nL rfl) ?_
                   refine gs ?_
                   refine gr ?_
                   intro rH S5
                   refine S5.gx [] ?_
                   obtain ⟨hg7,hr⟩:=aC hr
                   obtain ⟨Vt,hr⟩:=aC hr
                   refine gr ?_
                   refine gr ?_
                   refine S4.gx [5,9] ?_
                   refine gr ?_
                   refine dM hr (fun hc hr=> ?_) fun hc hr=>D1 (S4.ss [1,7,8,9] [(3,3),(200006,200006),(100006,100006),(6,6)] [(8,2000300)]) hr
                   refine gr ?_
                   replace hr:=bC hr
                   refine gr ?_
                   refine S3.gx [5,9] ?_
                   refine gr ?_
                   replace hr:=bC hr
                   replace hr:=bC hr
                   refine gr ?_
                   refine S2.gx [5,9] ?_
                   refine gr ?_
                   replace hr:=bC hr
                   replace hr:=bC hr
                   refine gr ?_
                   refine S1.gx [5,9] ?_
                   refine gr ?_
                   replace hr:=bC hr
                   have hr:=bK hr
                   refine gr ?_
                   refine S.gx [2] ?_
                   exact D0 hr
                  ·refine gr ?_
                   obtain ⟨q8,hq,hr⟩:=iQ hr
                   refine S4.sees [1,6,7,8,9,21,22] [(3,3),(300006,300006),(200006,200006),(100006,100006),(6,6)] [(2000300,2000300)] ?_ (Stop.iter S4 (fun s8=>⟨[(1,.c (.clo 130 [.ref 3 0])),(6,.c (.ref 300006 0)),(7,.c (.d (ah 6 bF (hU (((hU (((hU ((a0.getD s1.1.toNat default).2.2.2.2.2)).getD s3.1.toNat default).2.2.2.2.2)).getD s5.1.toNat default).2.2.2.2.2))))),(8,.c (.d (.int .i64 ((hU (((hU (((hU ((a0.getD s1.1.toNat default).2.2.2.2.2)).getD s3.1.toNat default).2.2.2.2.2)).getD s5.1.toNat default).2.2.2.2.2)).length:Int)))),(9,.c (.d (.int .i64 s7.1))),(21,.c (.d (.int .i64 (((hU (((hU (((hU ((a0.getD s1.1.toNat default).2.2.2.2.2)).getD s3.1.toNat default).2.2.2.2.2)).getD s5.1.toNat default).2.2.2.2.2)).getD s7.1.toNat default).2.2.2.1)))),(22,.c (.d (.int .i64 0)))],[(3,[.own 2000300]),(300006,[.d (.int .i64 (((hU (((hU (((hU ((a0.getD s1.1.toNat default).2.2.2.2.2)).getD s3.1.toNat default).2.2.2.2.2)).getD s5.1.toNat default).2.2.2.2.2)).getD s7.1.toNat default).1)),.d (.int .i64 (((hU (((hU (((hU ((a0.getD s1.1.toNat default).2.2.2.2.2)).getD s3.1.toNat default).2.2.2.2.2)).getD s5.1.toNat default).2.2.2.2.2)).getD s7.1.toNat default).2.1)),.d (.int .i64 (((hU (((hU (((hU ((a0.getD s1.1.toNat default).2.2.2.2.2)).getD s3.1.toNat default).2.2.2.2.2)).getD s5.1.toNat default).2.2.2.2.2)).getD s7.1.toNat default).2.2.1)),.d (.int .i64 (((hU (((hU (((hU ((a0.getD s1.1.toNat default).2.2.2.2.2)).getD s3.1.toNat default).2.2.2.2.2)).getD s5.1.toNat default).2.2.2.2.2)).getD s7.1.toNat default).2.2.2.1)),.d (.int .i64 (((hU (((hU (((hU ((a0.getD s1.1.toNat default).2.2.2.2.2)).getD s3.1.toNat default).2.2.2.2.2)).getD s5.1.toNat default).2.2.2.2.2)).getD s7.1.toNat default).2.2.2.2.1)),.d (hE (((hU (((hU (((hU ((a0.getD s1.1.toNat default).2.2.2.2.2)).getD s3.1.toNat default).2.2.2.2.2)).getD s5.1.toNat default).2.2.2.2.2)).getD s7.1.toNat default).2.2.2.2.2))]),(200006,[.d (.int .i64 (((hU (((hU ((a0.getD s1.1.toNat default).2.2.2.2.2)).getD s3.1.toNat default).2.2.2.2.2)).getD s5.1.toNat default).1)),.d (.int .i64 (((hU (((hU ((a0.getD s1.1.toNat default).2.2.2.2.2)).getD s3.1.toNat default).2.2.2.2.2)).getD s5.1.toNat default).2.1)),.d (.int .i64 (((hU (((hU ((a0.getD s1.1.toNat default).2.2.2.2.2)).getD s3.1.toNat default).2.2.2.2.2)).getD s5.1.toNat default).2.2.1)),.d (.int .i64 (((hU (((hU ((a0.getD s1.1.toNat default).2.2.2.2.2)).getD s3.1.toNat default).2.2.2.2.2)).getD s5.1.toNat default).2.2.2.1)),.d (.int .i64 (((hU (((hU ((a0.getD s1.1.toNat default).2.2.2.2.2)).getD s3.1.toNat default).2.2.2.2.2)).getD s5.1.toNat default).2.2.2.2.1)),.d (hE (((hU (((hU ((a0.getD s1.1.toNat default).2.2.2.2.2)).getD s3.1.toNat default).2.2.2.2.2)).getD s5.1.toNat default).2.2.2.2.2))]),(100006,[.d (.int .i64 (((hU ((a0.getD s1.1.toNat default).2.2.2.2.2)).getD s3.1.toNat default).1)),.d (.int .i64 (((hU ((a0.getD s1.1.toNat default).2.2.2.2.2)).getD s3.1.toNat default).2.1)),.d (.int .i64 (((hU ((a0.getD s1.1.toNat default).2.2.2.2.2)).getD s3.1.toNat default).2.2.1)),.d (.int .i64 (((hU ((a0.getD s1.1.toNat default).2.2.2.2.2)).getD s3.1.toNat default).2.2.2.1)),.d (.int .i64 (((hU ((a0.getD s1.1.toNat default).2.2.2.2.2)).getD s3.1.toNat default).2.2.2.2.1)),.d (hE (((hU ((a0.getD s1.1.toNat default).2.2.2.2.2)).getD s3.1.toNat default).2.2.2.2.2))]),(6,[.d (.int .i64 ((a0.getD s1.1.toNat default).1)),.d (.int .i64 ((a0.getD s1.1.toNat default).2.1)),.d (.int .i64 ((a0.getD s1.1.toNat default).2.2.1)),.d (.int .i64 ((a0.getD s1.1.toNat default).2.2.2.1)),.d (.int .i64 ((a0.getD s1.1.toNat default).2.2.2.2.1)),.d (hE ((a0.getD s1.1.toNat default).2.2.2.2.2))])],[(2000300,.owned (ah 6 bF s7.2))]⟩) (ab6 a0 s1 s3 s5 s7) _ hq hr ?_)
                   ·exact lf
                   ·intro s8 hr
                    unfold ab6 at hr
                    refine S4.gx [5,9] ?_
                    refine gr ?_
                    refine dM hr (fun hc hr=> ?_) fun hc hr=> ?_
                    ·refine gr ?_
                     refine gr ?_
                     first | cases hr | exact hr.elim
                    ·refine gr ?_
                     replace hr:=bC hr
                     exact D1 (S4.ss [1,7,8,9] [(3,3),(200006,200006),(100006,100006),(6,6)] [(2000300,2000300)]) hr
                 ·refine gr ?_
                  replace hr:=bC hr
                  refine gr ?_
                  refine gr ?_
                  refine S3.gx [5,9] ?_
                  exact D1 (S3.ss [1,6,7,8,9,21,22] [(3,3),(200006,200006),(100006,100006),(6,6)] [(2000300,2000300)]) hr
               ·refine gr ?_
                replace hr:=bC hr
                exact D1 (S3.ss [1,7,8,9] [(3,3),(100006,100006),(6,6)] [(2000300,2000300)]) hr
            ·refine gr ?_
             replace hr:=bC hr
             refine gr ?_
             refine gr ?_
             refine S2.gx [5,9] ?_
             exact D1 (S2.ss [1,6,7,8,9,21,22] [(3,3),(100006,100006),(6,6)] [(2000300,2000300)]) hr
          ·refine gr ?_
           replace hr:=bC hr
           exact D1 (S2.ss [1,7,8,9] [(3,3),(6,6)] [(2000300,2000300)]) hr
       ·refine gr ?_
        replace hr:=bC hr
        refine gr ?_
        refine gr ?_
        refine S1.gx [5,9] ?_
        exact D1 (S1.ss [1,6,7,8,9,21,22] [(3,3),(6,6)] [(2000300,2000300)]) hr
     ·refine gr ?_
      replace hr:=bC hr
      exact D1 (S1.ss [1,7,8,9] [(3,3)] [(2000300,2000300)]) hr
  ·refine gr ?_
   have hr:=bK hr
   refine gr ?_
   refine gr ?_
   refine S.gx [2] ?_
   exact D0 hr
def r94 (a0:Int):Option (Bool):=
 some ((a0 == 2) || (a0 == 4))
@[go_sem] def T94:=KT qE false r94
theorem f94:aF Tryz.prog 94 T94.sp:=by
 refine vm .nil Tryz.func94 Tryz.ntmps94 fun a0 r hr stop S=> ?_
 rw [rF,r94] at hr
 refine S.gx [] ?_
 repeat (first | refine gA ?_ | refine gB ?_)
 exact D0 hr
end Go.Proofs.YtofkgmldcjagmaaGreatDoor

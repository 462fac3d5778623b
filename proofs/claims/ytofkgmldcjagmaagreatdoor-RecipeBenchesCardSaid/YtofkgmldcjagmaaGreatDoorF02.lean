/- Contracts of functions, written by wip/dec. -/
import Derived.Test.YtofkgmldcjagmaaGreatDoorF00
import Derived.Test.YtofkgmldcjagmaaGreatDoorF01
set_option linter.unusedVariables false
set_option linter.unusedSimpArgs false
set_option linter.constructorNameAsVariable false
set_option maxHeartbeats 4000000
set_option maxRecDepth 20000
namespace Go.Proofs.YtofkgmldcjagmaaGreatDoor
open Go.dJ
section
variable {β:Type} [Inhabited β] (u:β→List RV) (al:Bool)
def aoH (a0:aZ) (a1 a2:Int) (a3:au) (a4:aj) (a5:au) (a6:aj):List Arg:=[.c (ah 1 cO a0),.clo 167 [[.int .i64 a1,.int .i64 a2,ah 2 aO a3,ah 1 aN a4,ah 2 aO a5,ah 1 aN a6]]]
def aqn:List Arg→aZ×Int×Int×au×aj×au×aj
 | [.c c0,.clo _ [[c1,c2,c3,c4,c5,c6]]]=>(aG jM c0,aB c1,aB c2,aG bY c3,aG bP c4,aG bY c5,aG bP c6)
 | _=>default
def ark (r:aZ→Int→Int→au→aj→au→aj→Option β):=mkT (u7 aoH) aqn (u7 r) u al
attribute [go_sem] aoH aqn ark
def aoG (a0 a1:Int) (a2:au) (a3:aj) (a4:au) (a5:aj) (a6:aZ):List Arg:=[.agg [.int .i64 a0,.int .i64 a1,ah 2 aO a2,ah 1 aN a3,ah 2 aO a4,ah 1 aN a5],.c (ah 1 cO a6)]
def aqm:List Arg→Int×Int×au×aj×au×aj×aZ
 | [.agg [c0,c1,c2,c3,c4,c5],.c c6]=>(aB c0,aB c1,aG bY c2,aG bP c3,aG bY c4,aG bP c5,aG jM c6)
 | _=>default
def arj (r:Int→Int→au→aj→au→aj→aZ→Option β):=mkT (u7 aoG) aqm (u7 r) u al
attribute [go_sem] aoG aqm arj
def aoF (a0 a1:Int) (a2:au) (a3:aj) (a4:au) (a5:aj) (a6 a7:aZ):List Arg:=[.agg [.int .i64 a0,.int .i64 a1,ah 2 aO a2,ah 1 aN a3,ah 2 aO a4,ah 1 aN a5],.agg [ah 1 cO a6,ah 1 cO a7]]
def aql:List Arg→Int×Int×au×aj×au×aj×aZ×aZ
 | [.agg [c0,c1,c2,c3,c4,c5],.agg [c6,c7]]=>(aB c0,aB c1,aG bY c2,aG bP c3,aG bY c4,aG bP c5,aG jM c6,aG jM c7)
 | _=>default
def ari (r:Int→Int→au→aj→au→aj→aZ→aZ→Option β):=mkT (u8 aoF) aql (u8 r) u al
attribute [go_sem] aoF aql ari
end
def yU (a0:au):Bd ((List (Int×Int))×Int) au:=fun s1=>
 if (decide (s1.2<(a0.length:Int)))=true then
  if 0≤s1.2∧s1.2<(a0.length:Int) then
   if (s1.1.length+1)*16≤140737488355328∧s1.1.length+1≤9223372036854775807 then
    .next (s1.1++[((a0.getD s1.2.toNat default).1,(a0.getD s1.2.toNat default).2)],IntKind.i64.wrap (s1.2+1))
    else .out none
   else .out none
  else .out (some s1.1)
def YL (a0:au):Option (au):=
 aS (yU a0) 1000000000 ([],0)
@[go_sem] def auY:=qT5 qu5 false YL
theorem f123:aF Tryz.prog 123 auY.sp:=by
 refine vm .nil Tryz.func123 Tryz.ntmps123 fun a0 r hr stop S=> ?_
 rw [qU,YL] at hr
 refine S.gx [] ?_
 refine gr ?_
 refine S.yj 3 1000300 2 rfl rfl ?_
 refine S.sees [3,6,7,8] [] [(1000300,1000300)] ?_ (Stop.iter S (fun s1=>⟨[(3,.c (.own 1000300)),(6,.c (.d (ah 2 aO a0))),(7,.c (.d (.int .i64 (a0.length:Int)))),(8,.c (.d (.int .i64 s1.2)))],[],[(1000300,.owned (ah 2 aO s1.1))]⟩) (yU a0) (fun q=>q=r) hr rfl ?_)
 ·exact lf
 ·intro s1 hr
  unfold yU at hr
  refine S.gx [] ?_
  exact D1 (S.ss [3,6,7,8] [] [(19,1000300)]) hr
def F9 (x2 x3:Int) (x1:au) (x0:aj) (v2:au):Bd (Int×(List (au))) (Int×Int×au×aj×au×aj×Int):=fun s1=>
 if (decide (s1.1<(x0.length:Int)))=true then
  if 0≤s1.1∧s1.1<(x0.length:Int) then
   aP (Ia (x0.getD s1.1.toNat default)) fun v3=>
    if (s1.2.length+1)*24≤140737488355328∧s1.2.length+1≤9223372036854775807 then
     .next (IntKind.i64.wrap (s1.1+1),s1.2++[v3])
     else .out none
   else .out none
  else .out (some (x2,x3,x1,x0,v2,s1.2,0))
def r86 (x2 x3:Int) (x1:au) (x0:aj):Option (Int×Int×au×aj×au×aj×Int):=
 (r53 x2 x3 x1 x0).bind fun v1=>
  if (v1.2 != 0)=true then
   some (0,0,[],[],[],[],v1.2)
   else (YL x1).bind fun v2=>
    aS (F9 x2 x3 x1 x0 v2) 1000000000 (0,[])
@[go_sem] def T86:=Wq qu8 true r86
@[go_sem] def ax' (k:Nat):=lk [(53,T53.sp),(120,ajw.sp),(123,auY.sp)] k
theorem f86:aF Tryz.prog 86 T86.sp:=by
 refine vm (tb:=ax') (.cons f53 (.cons f120 (.cons f123 .nil))) Tryz.func86 Tryz.ntmps86 fun ⟨x2,x3,x1,x0⟩ r hr stop S=> ?_
 rw [uq4,r86] at hr
 refine S.gx [] ?_
 obtain ⟨v1,hv1,hr⟩:=aA hr
 refine gb hv1 ?_
 refine iW hr (fun hc hr=>D0 hr) fun hc hr=> ?_
 obtain ⟨v2,hv2,hr⟩:=aA hr
 refine gb hv2 ?_
 refine S.pK 6 5 2000605 1 rfl rfl (nL rfl) rfl ?_
 refine S.sees [2,6,24,25,26] [(2,2),(6,6)] [(2000605,2000605),(21,21)] ?_ (Stop.iter S (fun s1=>⟨[(2,.c (.ref 2 0)),(6,.c (.ref 6 0)),(24,.c (.d (ah 1 aN x0))),(25,.c (.d (.int .i64 (x0.length:Int)))),(26,.c (.d (.int .i64 s1.1)))],[(2,[.d (.int .i64 0),.d (.int .i64 0),.dB,.dB,.dB,.dB]),(6,[.d (.int .i64 x2),.d (.int .i64 x3),.d (ah 2 aO x1),.d (ah 1 aN x0),.own 21,.own 2000605])],[(2000605,.owned (ah 1 aN s1.2)),(21,.owned (ah 2 aO v2))]⟩) (F9 x2 x3 x1 x0 v2) (fun q=>q=r) hr rfl ?_)
 ·exact lf
 ·intro s1 hr
  unfold F9 at hr
  refine S.gx [] ?_
  exact D1 (S.ss [2,6,24,25,26] [(2,2),(6,6)] [(35,2000605),(21,21)]) hr
def Oy (x1 x2:Int) (x3:au) (x4:aj) (x0:au) (x5:aj) (a1:Int):Option (Bool):=
 if 0≤0∧0<(x0.length:Int) then
  if 0≤IntKind.i64.wrap ((x0.length:Int) - 1)∧IntKind.i64.wrap ((x0.length:Int) - 1)<(x0.length:Int) then
   (VY a1 ((x0.getD 0 default).1) ((x0.getD (IntKind.i64.wrap ((x0.length:Int) - 1)).toNat default).1)).bind fun v1=>
    some v1
   else none
  else none
@[go_sem] def ae4:=adQ qj false Oy
@[go_sem] def amL (k:Nat):=lk [(83,T83.sp)] k
theorem f156:aF Tryz.prog 156 ae4.sp:=by
 refine vm (tb:=amL) (.cons f83 .nil) Tryz.func156 Tryz.ntmps156 fun ⟨x1,x2,x3,x4,x0,x5,a1⟩ r hr stop S=> ?_
 rw [GY,Oy] at hr
 refine S.gx [] ?_
 exact D0 hr
def adB (a0 x0 x1:Int) (x2:au) (x3:aj) (x4:au) (x5:aj):Option (Bool):=
 (Oy x0 x1 x2 x3 x4 x5 a0).bind fun v1=>
  some (!v1)
@[go_sem] def auA:=ahA qj false adB
@[go_sem] def amD (k:Nat):=lk [(156,ae4.sp)] k
theorem f167:aF Tryz.prog 167 auA.sp:=by
 refine vm (tb:=amD) (.cons f156 .nil) Tryz.func167 Tryz.ntmps167 fun ⟨a0,x0,x1,x2,x3,x4,x5⟩ r hr stop S=> ?_
 rw [GY,adB] at hr
 refine S.gx [] ?_
 exact D0 hr
def y5 (a0:aZ) (x0 x1:Int) (x2:au) (x3:aj) (x4:au) (x5:aj):Bd Int Int:=fun s1=>
 if (decide (s1<(a0.length:Int)))=true then
  if 0≤s1∧s1<(a0.length:Int) then
   aP (adB (a0.getD s1.toNat default) x0 x1 x2 x3 x4 x5) fun v1=>
    if v1=true then
     .out (some s1)
     else .next (IntKind.i64.wrap (s1+1))
   else .out none
  else .out (some (-1))
def adG (a0:aZ) (x0 x1:Int) (x2:au) (x3:aj) (x4:au) (x5:aj):Option (Int):=
 aS (y5 a0 x0 x1 x2 x3 x4 x5) 1000000000 0
@[go_sem] def au5:=ark lF false adG
@[go_sem] def ane (k:Nat):=lk [(167,auA.sp)] k
theorem f109:aF Tryz.prog 109 au5.sp:=by
 refine vm (tb:=ane) (.cons f167 .nil) Tryz.func109 Tryz.ntmps109 fun ⟨a0,x0,x1,x2,x3,x4,x5⟩ r hr stop S=> ?_
 rw [GY,adG] at hr
 refine S.gx [] ?_
 refine gr ?_
 refine S.sees [0,1,7,8] [] [] ?_ (Stop.iter S (fun s1=>⟨[(0,.c (.d (ah 1 cO a0))),(1,.c (.clo 167 [.dL [.int .i64 x0,.int .i64 x1,ah 2 aO x2,ah 1 aN x3,ah 2 aO x4,ah 1 aN x5] 0])),(7,.c (.d (.int .i64 (a0.length:Int)))),(8,.c (.d (.int .i64 s1)))],[],[]⟩) (y5 a0 x0 x1 x2 x3 x4 x5) (fun q=>q=r) hr rfl ?_)
 ·exact lf
 ·intro s1 hr
  unfold y5 at hr
  refine S.gx [] ?_
  exact D1 (S.ss [0,1,7,8] [] []) hr
def OB (x0 x1:Int) (x2:au) (x3:aj) (x4:au) (x5:aj) (a1:aZ):Option (Int×Int):=
 if ((a1.length:Int) != x0)=true then
  some (0,10)
  else (adG a1 x0 x1 x2 x3 x4 x5).bind fun v1=>
   if (decide (v1≥0))=true then
    some (v1,2)
    else some (0,0)
@[go_sem] def ajv:=arj JB false OB
@[go_sem] def am4 (k:Nat):=lk [(109,au5.sp)] k
theorem f124:aF Tryz.prog 124 ajv.sp:=by
 refine vm (tb:=am4) (.cons f109 .nil) Tryz.func124 Tryz.ntmps124 fun ⟨x0,x1,x2,x3,x4,x5,a1⟩ r hr stop S=> ?_
 rw [GY,OB] at hr
 refine S.gx [] ?_
 exact D0 hr
def Nk (x0 x1:aZ):Bd Int (Int×Int):=fun s1=>
 if (decide (s1<(x0.length:Int)))=true then
  if 0≤s1∧s1<(x0.length:Int) then
   if 0≤s1∧s1<(x1.length:Int) then
    if (decide ((x0.getD s1.toNat default)>(x1.getD s1.toNat default)))=true then
     .out (some (s1,9))
     else .next (IntKind.i64.wrap (s1+1))
    else .out none
   else .out none
  else .out (some (0,0))
def r87 (x2 x3:Int) (x4:au) (x5:aj) (x6:au) (x7:aj) (x0 x1:aZ):Option (Int×Int):=
 (OB x2 x3 x4 x5 x6 x7 x0).bind fun v1=>
  if (v1.2 != 0)=true then
   some (v1.1,v1.2)
   else (OB x2 x3 x4 x5 x6 x7 x1).bind fun v2=>
    if (v2.2 != 0)=true then
     some (v2.1,v2.2)
     else aS (Nk x0 x1) 1000000000 0
@[go_sem] def T87:=ari JB false r87
@[go_sem] def ax9 (k:Nat):=lk [(124,ajv.sp)] k
theorem f87:aF Tryz.prog 87 T87.sp:=by
 refine vm (tb:=ax9) (.cons f124 .nil) Tryz.func87 Tryz.ntmps87 fun ⟨x2,x3,x4,x5,x6,x7,x0,x1⟩ r hr stop S=> ?_
 rw [uq8,r87] at hr
 refine S.gx [] ?_
 obtain ⟨v1,hv1,hr⟩:=aA hr
 refine gb hv1 ?_
 refine iW hr (fun hc hr=>D0 hr) fun hc hr=> ?_
 obtain ⟨v2,hv2,hr⟩:=aA hr
 refine gb hv2 ?_
 refine iW hr (fun hc hr=>D0 hr) fun hc hr=> ?_
 refine gr ?_
 refine S.sees [3,35,36,37] [(3,3)] [] ?_ (Stop.iter S (fun s1=>⟨[(3,.c (.ref 3 0)),(35,.c (.d (ah 1 cO x0))),(36,.c (.d (.int .i64 (x0.length:Int)))),(37,.c (.d (.int .i64 s1)))],[(3,[.d (ah 1 cO x0),.d (ah 1 cO x1)])],[]⟩) (Nk x0 x1) (fun q=>q=r) hr rfl ?_)
 ·exact lf
 ·intro s1 hr
  unfold Nk at hr
  refine S.gx [] ?_
  exact D1 (S.ss [3,35,36,37] [(3,3)] []) hr
def r54 (x0 x1:Int) (x2:au) (x3:aj) (x4 x5:aZ):Option (Int×Int):=
 (r86 x0 x1 x2 x3).bind fun v1=>
  if (v1.2.2.2.2.2.2 != 0)=true then
   some (0,v1.2.2.2.2.2.2)
   else (r87 v1.1 v1.2.1 v1.2.2.1 v1.2.2.2.1 v1.2.2.2.2.1 v1.2.2.2.2.2.1 x4 x5).bind fun v2=>
    some (v2.1,v2.2)
@[go_sem] def T54:=YV JB false r54
@[go_sem] def ayv (k:Nat):=lk [(86,T86.sp),(87,T87.sp)] k
theorem f54:aF Tryz.prog 54 T54.sp:=by
 refine vm (tb:=ayv) (.cons f86 (.cons f87 .nil)) Tryz.func54 Tryz.ntmps54 fun ⟨x0,x1,x2,x3,x4,x5⟩ r hr stop S=> ?_
 rw [Vy,r54] at hr
 refine S.gx [] ?_
 exact D0 hr
def lG (a0:Bool) (a1:Int):Option (Int):=
 if a0=true then
  some 0
  else some a1
@[go_sem] def T39:=qT2 lF false lG
theorem f39:aF Tryz.prog 39 T39.sp:=by
 refine vm .nil Tryz.func39 Tryz.ntmps39 fun ⟨a0,a1⟩ r hr stop S=> ?_
 rw [wo,lG] at hr
 refine S.gx [] ?_
 exact D0 hr
def Gp (a0:aZ):Bd Int Int:=fun s1=>
 if (decide (s1<(a0.length:Int)))=true then
  if 0≤s1∧s1<(a0.length:Int) then
   if ((a0.getD s1.toNat default) != 0)=true then
    .out (some (a0.getD s1.toNat default))
    else .next (IntKind.i64.wrap (s1+1))
   else .out none
  else .out (some 0)
def wR (a0:aZ):Option (Int):=
 aS (Gp a0) 1000000000 0
@[go_sem] def T38:=qT3 lF false wR
theorem f38:aF Tryz.prog 38 T38.sp:=by
 refine vm .nil Tryz.func38 Tryz.ntmps38 fun a0 r hr stop S=> ?_
 rw [qU,wR] at hr
 refine S.gx [] ?_
 refine gr ?_
 refine S.sees [5,6,7] [] [] ?_ (Stop.iter S (fun s1=>⟨[(5,.c (.d (ah 1 cO a0))),(6,.c (.d (.int .i64 (a0.length:Int)))),(7,.c (.d (.int .i64 s1)))],[],[]⟩) (Gp a0) (fun q=>q=r) hr rfl ?_)
 ·exact lf
 ·intro s1 hr
  unfold Gp at hr
  refine S.gx [] ?_
  exact D1 (S.ss [5,6,7] [] []) hr
def Ea (a0 a1 a2:Int):Option (Bool):=
 some ((decide (a1≤a0)) && (decide (a0≤a2)))
@[go_sem] def T37:=qT1 qj false Ea
theorem f37:aF Tryz.prog 37 T37.sp:=by
 refine vm .nil Tryz.func37 Tryz.ntmps37 fun ⟨a0,a1,a2⟩ r hr stop S=> ?_
 rw [XP,Ea] at hr
 refine S.gx [] ?_
 repeat (first | refine gA ?_ | refine gB ?_)
 exact D0 hr
def r55 (a0:Int):Option (Bool):=
 (Ea a0 0 1000).bind fun v1=>
  some v1
@[go_sem] def T55:=Kw qj false r55
@[go_sem] def ayu (k:Nat):=lk [(37,T37.sp)] k
theorem f55:aF Tryz.prog 55 T55.sp:=by
 refine vm (tb:=ayu) (.cons f37 .nil) Tryz.func55 Tryz.ntmps55 fun a0 r hr stop S=> ?_
 rw [qU,r55] at hr
 refine S.gx [] ?_
 exact D0 hr
def Gy (x1:aj) (x0:au) (x2 x3:Int):Bd Int (Int×Int):=fun s1=>
 if (decide (s1<(x0.length:Int)))=true then
  if 0≤s1∧s1<(x0.length:Int) then
   aP (r55 ((x0.getD s1.toNat default).1)) fun v5=>
    if v5=true→(r55 ((x0.getD s1.toNat default).2)).isSome=true then
     aP (lG (v5 && ((r55 ((x0.getD s1.toNat default).2)).getD default)) 2) fun v6=>
      aP (lG (decide (((x0.getD s1.toNat default).1)≤((x0.getD s1.toNat default).2))) 9) fun v7=>
       aP (wR [v6,v7]) fun v8=>
        if (v8 != 0)=true then
         .out (some (s1,v8))
         else .next (IntKind.i64.wrap (s1+1))
     else .out none
   else .out none
  else .out ((Ea x2 0 (IntKind.i64.wrap ((x1.length:Int) - 1))).bind fun v11=>
   (lG v11 6).bind fun v12=>
    (Ea x3 0 4).bind fun v13=>
     (lG v13 2).bind fun v14=>
      (wR [v12,v14]).bind fun v15=>
       some (0,v15))
def r20 (x4 x5:Int) (x6:au) (x1:aj) (x7 x8:aZ) (x0:au) (x2 x3:Int):Option (Int×Int):=
 (r53 x4 x5 x6 x1).bind fun v1=>
  (r54 x4 x5 x6 x1 x7 x8).bind fun v2=>
   (lG ((x0.length:Int) == x4) 10).bind fun v3=>
    (wR [v1.2,v2.2,v3]).bind fun v4=>
     if (v4 != 0)=true then
      some (0,v4)
      else aS (Gy x1 x0 x2 x3) 1000000000 0
@[go_sem] def T20:=Ky JB false r20
@[go_sem] def ayM (k:Nat):=lk [(37,T37.sp),(38,T38.sp),(39,T39.sp),(53,T53.sp),(54,T54.sp),(55,T55.sp)] k
theorem f20:aF Tryz.prog 20 T20.sp:=by
 refine vm (tb:=ayM) (.cons f37 (.cons f38 (.cons f39 (.cons f53 (.cons f54 (.cons f55 .nil)))))) Tryz.func20 Tryz.ntmps20 fun ⟨x4,x5,x6,x1,x7,x8,x0,x2,x3⟩ r hr stop S=> ?_
 rw [NC,r20] at hr
 refine S.gx [4,12] ?_
 obtain ⟨v1,hv1,hr⟩:=aA hr
 obtain ⟨v2,hv2,hr⟩:=aA hr
 obtain ⟨v3,hv3,hr⟩:=aA hr
 obtain ⟨v4,hv4,hr⟩:=aA hr
 refine gb hv1 ?_
 refine gb hv2 ?_
 refine gb hv3 ?_
 refine gb hv4 ?_
 refine S.prune [1,8] ?_
 refine S.gx [12] ?_
 refine gr ?_
 refine gr ?_
 refine iW hr (fun hc hr=>D0 hr) fun hc hr=> ?_
 refine gr ?_
 refine S.sees [1,9,43,44,45] [(1,1)] [] ?_ (Stop.iter S (fun s1=>⟨[(1,.c (.ref 1 0)),(9,.c (.clo 55 [])),(43,.c (.d (ah 2 aO x0))),(44,.c (.d (.int .i64 (x0.length:Int)))),(45,.c (.d (.int .i64 s1)))],[(1,[.d (.int .i64 x4),.d (.int .i64 x5),.d (ah 2 aO x6),.d (ah 1 aN x1),.d (ah 1 cO x7),.d (ah 1 cO x8),.d (ah 2 aO x0),.d (.int .i64 x2),.d (.int .i64 x3)])],[]⟩) (Gy x1 x0 x2 x3) (fun q=>q=r) hr rfl ?_)
 ·exact lf
 ·intro s1 hr
  unfold Gy at hr
  refine S.gx [4,12] ?_
  refine gr ?_
  refine dN hr (fun hc hr=> ?_) fun hc hr=>D0 hr
  obtain ⟨O9,hr⟩:=aC hr
  obtain ⟨v5,hv5,hr⟩:=aQ hr
  obtain ⟨vH,hr⟩:=aC hr
  obtain ⟨v6,hv6,hr⟩:=aQ hr
  obtain ⟨v7,hv7,hr⟩:=aQ hr
  obtain ⟨v8,OY,hr⟩:=aQ hr
  try simp only [hv5,hv6,hv7,OY,Option.getD_some,Option.isSome_some,true_and,and_assoc]
  repeat (first | refine gG vH ?_ | refine gA ?_ | refine gB ?_)
  refine dN hr (fun hc hr=> ?_) fun hc hr=>D1 (S.ss [1,9,43,44,45] [(1,1)] []) hr
  refine gr ?_
  refine S.prune [10,12] ?_
  refine S.gx [4] ?_
  exact D0 hr
def r61 (x0 x1:Int) (x2:au) (x3:aj) (x4 x5:aZ) (x6:au) (x7 x8:Int):Option (Int×Int×au×aj×aZ×aZ×au×Int×Int×Int):=
 (r20 x0 x1 x2 x3 x4 x5 x6 x7 x8).bind fun v1=>
  some (x0,x1,x2,x3,x4,x5,x6,x7,x8,v1.2)
@[go_sem] def T61:=Ky qu9 true r61
@[go_sem] def ayo (k:Nat):=lk [(20,T20.sp)] k
theorem f61:aF Tryz.prog 61 T61.sp:=by
 refine vm (tb:=ayo) (.cons f20 .nil) Tryz.func61 Tryz.ntmps61 fun ⟨x0,x1,x2,x3,x4,x5,x6,x7,x8⟩ r hr stop S=> ?_
 rw [NC,r61] at hr
 refine S.gx [] ?_
 exact D0 hr
def abu (a0:bC) (s1 s3 s5 s7:Int×(List (Int×Int×Int×Int×Int×Hl))):Bd Unit (gy (Int×(List (Int×Int×Int×Int×Int×Hl))) (gy (Int×(List (Int×Int×Int×Int×Int×Hl))) (gy (Int×(List (Int×Int×Int×Int×Int×Hl))) (gy (Int×(List (Int×Int×Int×Int×Int×Hl))) (gy (Int×(List (Int×Int×Int×Int×Int×Hl))) (gy (Int×(List (Int×Int×Int×Int×Int×Hl))) (gy (Int×(List (Int×Int×Int×Int×Int×Hl))) (bC)))))))):=fun s8=>
 if (decide (0<(((hU (((hU (((hU ((a0.getD s1.1.toNat default).2.2.2.2.2)).getD s3.1.toNat default).2.2.2.2.2)).getD s5.1.toNat default).2.2.2.2.2)).getD s7.1.toNat default).2.2.2.1)))=true then
  .out none
  else .out (some (.next (IntKind.i64.wrap (s7.1+1),s7.2)))
def abv (a0:bC) (s1 s3 s5 s6:Int×(List (Int×Int×Int×Int×Int×Hl))):Bd (Int×(List (Int×Int×Int×Int×Int×Hl))) (gy (Int×(List (Int×Int×Int×Int×Int×Hl))) (gy (Int×(List (Int×Int×Int×Int×Int×Hl))) (gy (Int×(List (Int×Int×Int×Int×Int×Hl))) (gy (Int×(List (Int×Int×Int×Int×Int×Hl))) (gy (Int×(List (Int×Int×Int×Int×Int×Hl))) (gy (Int×(List (Int×Int×Int×Int×Int×Hl))) (bC))))))):=fun s7=>
 if (decide (s7.1<((hU (((hU (((hU ((a0.getD s1.1.toNat default).2.2.2.2.2)).getD s3.1.toNat default).2.2.2.2.2)).getD s5.1.toNat default).2.2.2.2.2)).length:Int)))=true then
  if 0≤s7.1∧s7.1<((hU (((hU (((hU ((a0.getD s1.1.toNat default).2.2.2.2.2)).getD s3.1.toNat default).2.2.2.2.2)).getD s5.1.toNat default).2.2.2.2.2)).length:Int) then
   if ((((hU (((hU (((hU ((a0.getD s1.1.toNat default).2.2.2.2.2)).getD s3.1.toNat default).2.2.2.2.2)).getD s5.1.toNat default).2.2.2.2.2)).getD s7.1.toNat default).1) != 5)=true then
    if (s7.2.length+1)*64≤140737488355328∧s7.2.length+1≤9223372036854775807 then
     if 0≤(s7.2.length:Int)∧(s7.2.length:Int)<((s7.2.length+1):Int) then
      if (!(decide (((s7.2.length+1):Int)≤60)))=true then
       .out (some (.out (some (.out (some (.out (some (.out (some (.out (some (.out (some ((s7.2++[(0,0,0,0,0,Hl.nil)]).set s7.2.length (((hU (((hU (((hU ((a0.getD s1.1.toNat default).2.2.2.2.2)).getD s3.1.toNat default).2.2.2.2.2)).getD s5.1.toNat default).2.2.2.2.2)).getD s7.1.toNat default).1,((hU (((hU (((hU ((a0.getD s1.1.toNat default).2.2.2.2.2)).getD s3.1.toNat default).2.2.2.2.2)).getD s5.1.toNat default).2.2.2.2.2)).getD s7.1.toNat default).2.1,((hU (((hU (((hU ((a0.getD s1.1.toNat default).2.2.2.2.2)).getD s3.1.toNat default).2.2.2.2.2)).getD s5.1.toNat default).2.2.2.2.2)).getD s7.1.toNat default).2.2.1,((hU (((hU (((hU ((a0.getD s1.1.toNat default).2.2.2.2.2)).getD s3.1.toNat default).2.2.2.2.2)).getD s5.1.toNat default).2.2.2.2.2)).getD s7.1.toNat default).2.2.2.1,((hU (((hU (((hU ((a0.getD s1.1.toNat default).2.2.2.2.2)).getD s3.1.toNat default).2.2.2.2.2)).getD s5.1.toNat default).2.2.2.2.2)).getD s7.1.toNat default).2.2.2.2.1,((hU (((hU (((hU ((a0.getD s1.1.toNat default).2.2.2.2.2)).getD s3.1.toNat default).2.2.2.2.2)).getD s5.1.toNat default).2.2.2.2.2)).getD s7.1.toNat default).2.2.2.2.2)))))))))))))))
       else .next (IntKind.i64.wrap (s7.1+1),(s7.2++[(0,0,0,0,0,Hl.nil)]).set s7.2.length (((hU (((hU (((hU ((a0.getD s1.1.toNat default).2.2.2.2.2)).getD s3.1.toNat default).2.2.2.2.2)).getD s5.1.toNat default).2.2.2.2.2)).getD s7.1.toNat default).1,((hU (((hU (((hU ((a0.getD s1.1.toNat default).2.2.2.2.2)).getD s3.1.toNat default).2.2.2.2.2)).getD s5.1.toNat default).2.2.2.2.2)).getD s7.1.toNat default).2.1,((hU (((hU (((hU ((a0.getD s1.1.toNat default).2.2.2.2.2)).getD s3.1.toNat default).2.2.2.2.2)).getD s5.1.toNat default).2.2.2.2.2)).getD s7.1.toNat default).2.2.1,((hU (((hU (((hU ((a0.getD s1.1.toNat default).2.2.2.2.2)).getD s3.1.toNat default).2.2.2.2.2)).getD s5.1.toNat default).2.2.2.2.2)).getD s7.1.toNat default).2.2.2.1,((hU (((hU (((hU ((a0.getD s1.1.toNat default).2.2.2.2.2)).getD s3.1.toNat default).2.2.2.2.2)).getD s5.1.toNat default).2.2.2.2.2)).getD s7.1.toNat default).2.2.2.2.1,((hU (((hU (((hU ((a0.getD s1.1.toNat default).2.2.2.2.2)).getD s3.1.toNat default).2.2.2.2.2)).getD s5.1.toNat default).2.2.2.2.2)).getD s7.1.toNat default).2.2.2.2.2))
      else .out none
     else .out none
    else (aS (abu a0 s1 s3 s5 s7) 1000000000 ()).getD (.out none)
   else .out none
  else .out (some (.next (IntKind.i64.wrap (s6.1+1),s7.2)))
def abw (a0:bC) (s1 s3 s5:Int×(List (Int×Int×Int×Int×Int×Hl))):Bd (Int×(List (Int×Int×Int×Int×Int×Hl))) (gy (Int×(List (Int×Int×Int×Int×Int×Hl))) (gy (Int×(List (Int×Int×Int×Int×Int×Hl))) (gy (Int×(List (Int×Int×Int×Int×Int×Hl))) (gy (Int×(List (Int×Int×Int×Int×Int×Hl))) (gy (Int×(List (Int×Int×Int×Int×Int×Hl))) (bC)))))):=fun s6=>
 if (decide (s6.1<(((hU (((hU ((a0.getD s1.1.toNat default).2.2.2.2.2)).getD s3.1.toNat default).2.2.2.2.2)).getD s5.1.toNat default).2.2.2.1)))=true then
  (aS (abv a0 s1 s3 s5 s6) 1000000000 (0,s6.2)).getD (.out none)
  else .out (some (.next (IntKind.i64.wrap (s5.1+1),s6.2)))
def abx (a0:bC) (s1 s3 s4:Int×(List (Int×Int×Int×Int×Int×Hl))):Bd (Int×(List (Int×Int×Int×Int×Int×Hl))) (gy (Int×(List (Int×Int×Int×Int×Int×Hl))) (gy (Int×(List (Int×Int×Int×Int×Int×Hl))) (gy (Int×(List (Int×Int×Int×Int×Int×Hl))) (gy (Int×(List (Int×Int×Int×Int×Int×Hl))) (bC))))):=fun s5=>
 if (decide (s5.1<((hU (((hU ((a0.getD s1.1.toNat default).2.2.2.2.2)).getD s3.1.toNat default).2.2.2.2.2)).length:Int)))=true then
  if 0≤s5.1∧s5.1<((hU (((hU ((a0.getD s1.1.toNat default).2.2.2.2.2)).getD s3.1.toNat default).2.2.2.2.2)).length:Int) then
   if ((((hU (((hU ((a0.getD s1.1.toNat default).2.2.2.2.2)).getD s3.1.toNat default).2.2.2.2.2)).getD s5.1.toNat default).1) != 5)=true then
    if (s5.2.length+1)*64≤140737488355328∧s5.2.length+1≤9223372036854775807 then
     if 0≤(s5.2.length:Int)∧(s5.2.length:Int)<((s5.2.length+1):Int) then
      if (!(decide (((s5.2.length+1):Int)≤60)))=true then
       .out (some (.out (some (.out (some (.out (some (.out (some ((s5.2++[(0,0,0,0,0,Hl.nil)]).set s5.2.length (((hU (((hU ((a0.getD s1.1.toNat default).2.2.2.2.2)).getD s3.1.toNat default).2.2.2.2.2)).getD s5.1.toNat default).1,((hU (((hU ((a0.getD s1.1.toNat default).2.2.2.2.2)).getD s3.1.toNat default).2.2.2.2.2)).getD s5.1.toNat default).2.1,((hU (((hU ((a0.getD s1.1.toNat default).2.2.2.2.2)).getD s3.1.toNat default).2.2.2.2.2)).getD s5.1.toNat default).2.2.1,((hU (((hU ((a0.getD s1.1.toNat default).2.2.2.2.2)).getD s3.1.toNat default).2.2.2.2.2)).getD s5.1.toNat default).2.2.2.1,((hU (((hU ((a0.getD s1.1.toNat default).2.2.2.2.2)).getD s3.1.toNat default).2.2.2.2.2)).getD s5.1.toNat default).2.2.2.2.1,((hU (((hU ((a0.getD s1.1.toNat default).2.2.2.2.2)).getD s3.1.toNat default).2.2.2.2.2)).getD s5.1.toNat default).2.2.2.2.2)))))))))))
       else .next (IntKind.i64.wrap (s5.1+1),(s5.2++[(0,0,0,0,0,Hl.nil)]).set s5.2.length (((hU (((hU ((a0.getD s1.1.toNat default).2.2.2.2.2)).getD s3.1.toNat default).2.2.2.2.2)).getD s5.1.toNat default).1,((hU (((hU ((a0.getD s1.1.toNat default).2.2.2.2.2)).getD s3.1.toNat default).2.2.2.2.2)).getD s5.1.toNat default).2.1,((hU (((hU ((a0.getD s1.1.toNat default).2.2.2.2.2)).getD s3.1.toNat default).2.2.2.2.2)).getD s5.1.toNat default).2.2.1,((hU (((hU ((a0.getD s1.1.toNat default).2.2.2.2.2)).getD s3.1.toNat default).2.2.2.2.2)).getD s5.1.toNat default).2.2.2.1,((hU (((hU ((a0.getD s1.1.toNat default).2.2.2.2.2)).getD s3.1.toNat default).2.2.2.2.2)).getD s5.1.toNat default).2.2.2.2.1,((hU (((hU ((a0.getD s1.1.toNat default).2.2.2.2.2)).getD s3.1.toNat default).2.2.2.2.2)).getD s5.1.toNat default).2.2.2.2.2))
      else .out none
     else .out none
    else (aS (abw a0 s1 s3 s5) 1000000000 (0,s5.2)).getD (.out none)
   else .out none
  else .out (some (.next (IntKind.i64.wrap (s4.1+1),s5.2)))
def aby (a0:bC) (s1 s3:Int×(List (Int×Int×Int×Int×Int×Hl))):Bd (Int×(List (Int×Int×Int×Int×Int×Hl))) (gy (Int×(List (Int×Int×Int×Int×Int×Hl))) (gy (Int×(List (Int×Int×Int×Int×Int×Hl))) (gy (Int×(List (Int×Int×Int×Int×Int×Hl))) (bC)))):=fun s4=>
 if (decide (s4.1<(((hU ((a0.getD s1.1.toNat default).2.2.2.2.2)).getD s3.1.toNat default).2.2.2.1)))=true then
  (aS (abx a0 s1 s3 s4) 1000000000 (0,s4.2)).getD (.out none)
  else .out (some (.next (IntKind.i64.wrap (s3.1+1),s4.2)))
def abz (a0:bC) (s1 s2:Int×(List (Int×Int×Int×Int×Int×Hl))):Bd (Int×(List (Int×Int×Int×Int×Int×Hl))) (gy (Int×(List (Int×Int×Int×Int×Int×Hl))) (gy (Int×(List (Int×Int×Int×Int×Int×Hl))) (bC))):=fun s3=>
 if (decide (s3.1<((hU ((a0.getD s1.1.toNat default).2.2.2.2.2)).length:Int)))=true then
  if 0≤s3.1∧s3.1<((hU ((a0.getD s1.1.toNat default).2.2.2.2.2)).length:Int) then
   if ((((hU ((a0.getD s1.1.toNat default).2.2.2.2.2)).getD s3.1.toNat default).1) != 5)=true then
    if (s3.2.length+1)*64≤140737488355328∧s3.2.length+1≤9223372036854775807 then
     if 0≤(s3.2.length:Int)∧(s3.2.length:Int)<((s3.2.length+1):Int) then
      if (!(decide (((s3.2.length+1):Int)≤60)))=true then
       .out (some (.out (some (.out (some ((s3.2++[(0,0,0,0,0,Hl.nil)]).set s3.2.length (((hU ((a0.getD s1.1.toNat default).2.2.2.2.2)).getD s3.1.toNat default).1,((hU ((a0.getD s1.1.toNat default).2.2.2.2.2)).getD s3.1.toNat default).2.1,((hU ((a0.getD s1.1.toNat default).2.2.2.2.2)).getD s3.1.toNat default).2.2.1,((hU ((a0.getD s1.1.toNat default).2.2.2.2.2)).getD s3.1.toNat default).2.2.2.1,((hU ((a0.getD s1.1.toNat default).2.2.2.2.2)).getD s3.1.toNat default).2.2.2.2.1,((hU ((a0.getD s1.1.toNat default).2.2.2.2.2)).getD s3.1.toNat default).2.2.2.2.2)))))))
       else .next (IntKind.i64.wrap (s3.1+1),(s3.2++[(0,0,0,0,0,Hl.nil)]).set s3.2.length (((hU ((a0.getD s1.1.toNat default).2.2.2.2.2)).getD s3.1.toNat default).1,((hU ((a0.getD s1.1.toNat default).2.2.2.2.2)).getD s3.1.toNat default).2.1,((hU ((a0.getD s1.1.toNat default).2.2.2.2.2)).getD s3.1.toNat default).2.2.1,((hU ((a0.getD s1.1.toNat default).2.2.2.2.2)).getD s3.1.toNat default).2.2.2.1,((hU ((a0.getD s1.1.toNat default).2.2.2.2.2)).getD s3.1.toNat default).2.2.2.2.1,((hU ((a0.getD s1.1.toNat default).2.2.2.2.2)).getD s3.1.toNat default).2.2.2.2.2))
      else .out none
     else .out none
    else (aS (aby a0 s1 s3) 1000000000 (0,s3.2)).getD (.out none)
   else .out none
  else .out (some (.next (IntKind.i64.wrap (s2.1+1),s3.2)))
def abA (a0:bC) (s1:Int×(List (Int×Int×Int×Int×Int×Hl))):Bd (Int×(List (Int×Int×Int×Int×Int×Hl))) (gy (Int×(List (Int×Int×Int×Int×Int×Hl))) (bC)):=fun s2=>
 if (decide (s2.1<((a0.getD s1.1.toNat default).2.2.2.1)))=true then
  (aS (abz a0 s1 s2) 1000000000 (0,s2.2)).getD (.out none)
  else .out (some (.next (IntKind.i64.wrap (s1.1+1),s2.2)))
def abB (a0:bC):Bd (Int×(List (Int×Int×Int×Int×Int×Hl))) bC:=fun s1=>
 if (decide (s1.1<(a0.length:Int)))=true then
  if 0≤s1.1∧s1.1<(a0.length:Int) then
   if (((a0.getD s1.1.toNat default).1) != 5)=true then
    if (s1.2.length+1)*64≤140737488355328∧s1.2.length+1≤9223372036854775807 then
     if 0≤(s1.2.length:Int)∧(s1.2.length:Int)<((s1.2.length+1):Int) then
      if (!(decide (((s1.2.length+1):Int)≤60)))=true then
       .out (some ((s1.2++[(0,0,0,0,0,Hl.nil)]).set s1.2.length ((a0.getD s1.1.toNat default).1,(a0.getD s1.1.toNat default).2.1,(a0.getD s1.1.toNat default).2.2.1,(a0.getD s1.1.toNat default).2.2.2.1,(a0.getD s1.1.toNat default).2.2.2.2.1,(a0.getD s1.1.toNat default).2.2.2.2.2)))
       else .next (IntKind.i64.wrap (s1.1+1),(s1.2++[(0,0,0,0,0,Hl.nil)]).set s1.2.length ((a0.getD s1.1.toNat default).1,(a0.getD s1.1.toNat default).2.1,(a0.getD s1.1.toNat default).2.2.1,(a0.getD s1.1.toNat default).2.2.2.1,(a0.getD s1.1.toNat default).2.2.2.2.1,(a0.getD s1.1.toNat default).2.2.2.2.2))
      else .out none
     else .out none
    else (aS (abA a0 s1) 1000000000 (0,s1.2)).getD (.out none)
   else .out none
  else .out (some s1.2)
def r93 (a0:bC):Option (bC):=
 aS (abB a0) 1000000000 (0,[])
@[go_sem] def T93:=adP qu1 true r93
def amd:og:=lk []
theorem oz:fE Tryz.prog amd:=fE.nil
theorem f93:aF Tryz.prog 93 T93.sp:=by
 refine vm (tb:=amd) .nil Tryz.func93 Tryz.ntmps93 fun a0 r hr stop S=> ?_
 rw [qU,r93] at hr
 refine S.gx [2] ?_
 refine gr ?_
 refine S.inl 2 [3] [] Tryz.func129 (by decide) rfl Tryz.ntmps129 (fun cx e=>aV bT oz cx e) (some 6) rfl rfl rfl rfl (nL rfl) (nL rfl) ?_
 refine gs ?_
 refine gr ?_
 intro stop1 S1
 refine S1.gx [5,9] ?_
 refine gr ?_
 refine S1.pK 3 0 2000300 6 rfl rfl (nL rfl) rfl ?_
 refine S1.sees [1,7,8,9] [(3,3)] [(2000300,2000300)] ?_ (Stop.iter S1 (fun s1=>⟨[(1,.c (.clo 130 [.ref 3 0])),(7,.c (.d (ah 6 bD a0))),(8,.c (.d (.int .i64 (a0.length:Int)))),(9,.c (.d (.int .i64 s1.1)))],[(3,[.own 2000300])],[(2000300,.owned (ah 6 bD s1.2))]⟩) (abB a0) (fun q=>q=r) hr rfl ?_)
 ·exact lf
 ·intro s1 hr
  unfold abB at hr
  refine S1.gx [5,9] ?_
  refine gr ?_
  refine dN hr (fun hc hr=> ?_) fun hc hr=> ?_
  ·obtain ⟨CP,hr⟩:=aC hr
   refine gr ?_
   refine dN hr (fun hc hr=> ?_) fun hc hr=> ?_
   ·refine gr ?_
    refine S1.inl 2 [1,7,8,9] [.ref 3 0] Tryz.func130 (by decide) rfl Tryz.ntmps130 (fun cx e=>aV bT oz cx e) (some 18) rfl rfl rfl rfl (nL rfl) (nL rfl) ?_
    refine gs ?_
    refine gr ?_
    intro stop2 S2
    refine S2.gx [] ?_
    obtain ⟨hg1,hr⟩:=aC hr
    obtain ⟨hg2,hr⟩:=aC hr
    refine gr ?_
    refine gr ?_
    refine S1.gx [5,9] ?_
    refine gr ?_
    refine dN hr (fun hc hr=> ?_) fun hc hr=>D1 (S1.ss [1,7,8,9] [(3,3)] [(8,2000300)]) hr
    refine gr ?_
    have hr:=bK hr
    refine gr ?_
    refine S.gx [2] ?_
    exact D0 hr
   ·refine gr ?_
    obtain ⟨q2,hq,hr⟩:=iE hr
    refine S1.sees [1,6,7,8,9,21,22] [(3,3),(6,6)] [(2000300,2000300)] ?_ (Stop.iter S1 (fun s2=>⟨[(1,.c (.clo 130 [.ref 3 0])),(6,.c (.ref 6 0)),(7,.c (.d (ah 6 bD a0))),(8,.c (.d (.int .i64 (a0.length:Int)))),(9,.c (.d (.int .i64 s1.1))),(21,.c (.d (.int .i64 ((a0.getD s1.1.toNat default).2.2.2.1)))),(22,.c (.d (.int .i64 s2.1)))],[(3,[.own 2000300]),(6,[.d (.int .i64 ((a0.getD s1.1.toNat default).1)),.d (.int .i64 ((a0.getD s1.1.toNat default).2.1)),.d (.int .i64 ((a0.getD s1.1.toNat default).2.2.1)),.d (.int .i64 ((a0.getD s1.1.toNat default).2.2.2.1)),.d (.int .i64 ((a0.getD s1.1.toNat default).2.2.2.2.1)),.d (hE ((a0.getD s1.1.toNat default).2.2.2.2.2))])],[(2000300,.owned (ah 6 bD s2.2))]⟩) (abA a0 s1) _ hq hr ?_)
    ·exact lf
    ·intro s2 hr
     unfold abA at hr
     refine S1.gx [5,9] ?_
     refine gr ?_
     refine dN hr (fun hc hr=> ?_) fun hc hr=> ?_
     ·refine gr ?_
      refine S1.inl 3 [1,6,7,8,9,21,22] [] Tryz.func129 (by decide) rfl Tryz.ntmps129 (fun cx e=>aV bT oz cx e) (some 27) rfl rfl rfl rfl (nL rfl) (nL rfl) ?_
      refine gs ?_
      refine gr ?_
      intro stop2 S2
      refine S2.gx [5,9] ?_
      refine gr ?_
      obtain ⟨q3,hq,hr⟩:=iE hr
      refine S2.sees [1,7,8,9] [(3,3),(6,6)] [(2000300,2000300)] ?_ (Stop.iter S2 (fun s3=>⟨[(1,.c (.clo 130 [.ref 3 0])),(7,.c (.d (ah 6 bD (hU ((a0.getD s1.1.toNat default).2.2.2.2.2))))),(8,.c (.d (.int .i64 ((hU ((a0.getD s1.1.toNat default).2.2.2.2.2)).length:Int)))),(9,.c (.d (.int .i64 s3.1)))],[(3,[.own 2000300]),(6,[.d (.int .i64 ((a0.getD s1.1.toNat default).1)),.d (.int .i64 ((a0.getD s1.1.toNat default).2.1)),.d (.int .i64 ((a0.getD s1.1.toNat default).2.2.1)),.d (.int .i64 ((a0.getD s1.1.toNat default).2.2.2.1)),.d (.int .i64 ((a0.getD s1.1.toNat default).2.2.2.2.1)),.d (hE ((a0.getD s1.1.toNat default).2.2.2.2.2))])],[(2000300,.owned (ah 6 bD s3.2))]⟩) (abz a0 s1 s2) _ hq hr ?_)
      ·exact lf
      ·intro s3 hr
       unfold abz at hr
       refine S2.gx [5,9] ?_
       refine gr ?_
       refine dN hr (fun hc hr=> ?_) fun hc hr=> ?_
       ·obtain ⟨CQ,hr⟩:=aC hr
        refine gr ?_
        refine dN hr (fun hc hr=> ?_) fun hc hr=> ?_
        ·refine gr ?_
         refine S2.inl 2 [1,7,8,9] [.ref 3 0] Tryz.func130 (by decide) rfl Tryz.ntmps130 (fun cx e=>aV bT oz cx e) (some 18) rfl rfl rfl rfl (nL rfl) (nL rfl) ?_
         refine gs ?_
         refine gr ?_
         intro AY S3
         refine S3.gx [] ?_
         obtain ⟨hg3,hr⟩:=aC hr
         obtain ⟨hg4,hr⟩:=aC hr
         refine gr ?_
         refine gr ?_
         refine S2.gx [5,9] ?_
         refine gr ?_
         refine dN hr (fun hc hr=> ?_) fun hc hr=>D1 (S2.ss [1,7,8,9] [(3,3),(6,6)] [(8,2000300)]) hr
         refine gr ?_
         replace hr:=bn hr
         refine gr ?_
         refine S1.gx [5,9] ?_
         refine gr ?_
         replace hr:=bn hr
         have hr:=bK hr
         refine gr ?_
         refine S.gx [2] ?_
         exact D0 hr
        ·refine gr ?_
         obtain ⟨q4,hq,hr⟩:=iE hr
         refine S2.sees [1,6,7,8,9,21,22] [(3,3),(100006,100006),(6,6)] [(2000300,2000300)] ?_ (Stop.iter S2 (fun s4=>⟨[(1,.c (.clo 130 [.ref 3 0])),(6,.c (.ref 100006 0)),(7,.c (.d (ah 6 bD (hU ((a0.getD s1.1.toNat default).2.2.2.2.2))))),(8,.c (.d (.int .i64 ((hU ((a0.getD s1.1.toNat default).2.2.2.2.2)).length:Int)))),(9,.c (.d (.int .i64 s3.1))),(21,.c (.d (.int .i64 (((hU ((a0.getD s1.1.toNat default).2.2.2.2.2)).getD s3.1.toNat default).2.2.2.1)))),(22,.c (.d (.int .i64 s4.1)))],[(3,[.own 2000300]),(100006,[.d (.int .i64 (((hU ((a0.getD s1.1.toNat default).2.2.2.2.2)).getD s3.1.toNat default).1)),.d (.int .i64 (((hU ((a0.getD s1.1.toNat default).2.2.2.2.2)).getD s3.1.toNat default).2.1)),.d (.int .i64 (((hU ((a0.getD s1.1.toNat default).2.2.2.2.2)).getD s3.1.toNat default).2.2.1)),.d (.int .i64 (((hU ((a0.getD s1.1.toNat default).2.2.2.2.2)).getD s3.1.toNat default).2.2.2.1)),.d (.int .i64 (((hU ((a0.getD s1.1.toNat default).2.2.2.2.2)).getD s3.1.toNat default).2.2.2.2.1)),.d (hE (((hU ((a0.getD s1.1.toNat default).2.2.2.2.2)).getD s3.1.toNat default).2.2.2.2.2))]),(6,[.d (.int .i64 ((a0.getD s1.1.toNat default).1)),.d (.int .i64 ((a0.getD s1.1.toNat default).2.1)),.d (.int .i64 ((a0.getD s1.1.toNat default).2.2.1)),.d (.int .i64 ((a0.getD s1.1.toNat default).2.2.2.1)),.d (.int .i64 ((a0.getD s1.1.toNat default).2.2.2.2.1)),.d (hE ((a0.getD s1.1.toNat default).2.2.2.2.2))])],[(2000300,.owned (ah 6 bD s4.2))]⟩) (aby a0 s1 s3) _ hq hr ?_)
         ·exact lf
         ·intro s4 hr
          unfold aby at hr
          refine S2.gx [5,9] ?_
          refine gr ?_
          refine dN hr (fun hc hr=> ?_) fun hc hr=> ?_
          ·refine gr ?_
           refine S2.inl 3 [1,6,7,8,9,21,22] [] Tryz.func129 (by decide) rfl Tryz.ntmps129 (fun cx e=>aV bT oz cx e) (some 27) rfl rfl rfl rfl (nL rfl) (nL rfl) ?_
           refine gs ?_
           refine gr ?_
           intro AY S3
           refine S3.gx [5,9] ?_
           refine gr ?_
           obtain ⟨q5,hq,hr⟩:=iE hr
           refine S3.sees [1,7,8,9] [(3,3),(100006,100006),(6,6)] [(2000300,2000300)] ?_ (Stop.iter S3 (fun s5=>⟨[(1,.c (.clo 130 [.ref 3 0])),(7,.c (.d (ah 6 bD (hU (((hU ((a0.getD s1.1.toNat default).2.2.2.2.2)).getD s3.1.toNat default).2.2.2.2.2))))),(8,.c (.d (.int .i64 ((hU (((hU ((a0.getD s1.1.toNat default).2.2.2.2.2)).getD s3.1.toNat default).2.2.2.2.2)).length:Int)))),(9,.c (.d (.int .i64 s5.1)))],[(3,[.own 2000300]),(100006,[.d (.int .i64 (((hU ((a0.getD s1.1.toNat default).2.2.2.2.2)).getD s3.1.toNat default).1)),.d (.int .i64 (((hU ((a0.getD s1.1.toNat default).2.2.2.2.2)).getD s3.1.toNat default).2.1)),.d (.int .i64 (((hU ((a0.getD s1.1.toNat default).2.2.2.2.2)).getD s3.1.toNat default).2.2.1)),.d (.int .i64 (((hU ((a0.getD s1.1.toNat default).2.2.2.2.2)).getD s3.1.toNat default).2.2.2.1)),.d (.int .i64 (((hU ((a0.getD s1.1.toNat default).2.2.2.2.2)).getD s3.1.toNat default).2.2.2.2.1)),.d (hE (((hU ((a0.getD s1.1.toNat default).2.2.2.2.2)).getD s3.1.toNat default).2.2.2.2.2))]),(6,[.d (.int .i64 ((a0.getD s1.1.toNat default).1)),.d (.int .i64 ((a0.getD s1.1.toNat default).2.1)),.d (.int .i64 ((a0.getD s1.1.toNat default).2.2.1)),.d (.int .i64 ((a0.getD s1.1.toNat default).2.2.2.1)),.d (.int .i64 ((a0.getD s1.1.toNat default).2.2.2.2.1)),.d (hE ((a0.getD s1.1.toNat default).2.2.2.2.2))])],[(2000300,.owned (ah 6 bD s5.2))]⟩) (abx a0 s1 s3 s4) _ hq hr ?_)
           ·exact lf
           ·intro s5 hr
            unfold abx at hr
            refine S3.gx [5,9] ?_
            refine gr ?_
            refine dN hr (fun hc hr=> ?_) fun hc hr=> ?_
            ·obtain ⟨vH,hr⟩:=aC hr
             refine gr ?_
             refine dN hr (fun hc hr=> ?_) fun hc hr=> ?_
             ·refine gr ?_
              refine S3.inl 2 [1,7,8,9] [.ref 3 0] Tryz.func130 (by decide) rfl Tryz.ntmps130 (fun cx e=>aV bT oz cx e) (some 18) rfl rfl rfl rfl (nL rfl) (nL rfl) ?_
              refine gs ?_
              refine gr ?_
              intro zk S4
              refine S4.gx [] ?_
              obtain ⟨hg5,hr⟩:=aC hr
              obtain ⟨hg6,hr⟩:=aC hr
              refine gr ?_
              refine gr ?_
              refine S3.gx [5,9] ?_
              refine gr ?_
              refine dN hr (fun hc hr=> ?_) fun hc hr=>D1 (S3.ss [1,7,8,9] [(3,3),(100006,100006),(6,6)] [(8,2000300)]) hr
              refine gr ?_
              replace hr:=bn hr
              refine gr ?_
              refine S2.gx [5,9] ?_
              refine gr ?_
              replace hr:=bn hr
              replace hr:=bn hr
              refine gr ?_
              refine S1.gx [5,9] ?_
              refine gr ?_
              replace hr:=bn hr
              have hr:=bK hr
              refine gr ?_
              refine S.gx [2] ?_
              exact D0 hr
             ·refine gr ?_
              obtain ⟨q6,hq,hr⟩:=iE hr
              refine S3.sees [1,6,7,8,9,21,22] [(3,3),(200006,200006),(100006,100006),(6,6)] [(2000300,2000300)] ?_ (Stop.iter S3 (fun s6=>⟨[(1,.c (.clo 130 [.ref 3 0])),(6,.c (.ref 200006 0)),(7,.c (.d (ah 6 bD (hU (((hU ((a0.getD s1.1.toNat default).2.2.2.2.2)).getD s3.1.toNat default).2.2.2.2.2))))),(8,.c (.d (.int .i64 ((hU (((hU ((a0.getD s1.1.toNat default).2.2.2.2.2)).getD s3.1.toNat default).2.2.2.2.2)).length:Int)))),(9,.c (.d (.int .i64 s5.1))),(21,.c (.d (.int .i64 (((hU (((hU ((a0.getD s1.1.toNat default).2.2.2.2.2)).getD s3.1.toNat default).2.2.2.2.2)).getD s5.1.toNat default).2.2.2.1)))),(22,.c (.d (.int .i64 s6.1)))],[(3,[.own 2000300]),(200006,[.d (.int .i64 (((hU (((hU ((a0.getD s1.1.toNat default).2.2.2.2.2)).getD s3.1.toNat default).2.2.2.2.2)).getD s5.1.toNat default).1)),.d (.int .i64 (((hU (((hU ((a0.getD s1.1.toNat default).2.2.2.2.2)).getD s3.1.toNat default).2.2.2.2.2)).getD s5.1.toNat default).2.1)),.d (.int .i64 (((hU (((hU ((a0.getD s1.1.toNat default).2.2.2.2.2)).getD s3.1.toNat default).2.2.2.2.2)).getD s5.1.toNat default).2.2.1)),.d (.int .i64 (((hU (((hU ((a0.getD s1.1.toNat default).2.2.2.2.2)).getD s3.1.toNat default).2.2.2.2.2)).getD s5.1.toNat default).2.2.2.1)),.d (.int .i64 (((hU (((hU ((a0.getD s1.1.toNat default).2.2.2.2.2)).getD s3.1.toNat default).2.2.2.2.2)).getD s5.1.toNat default).2.2.2.2.1)),.d (hE (((hU (((hU ((a0.getD s1.1.toNat default).2.2.2.2.2)).getD s3.1.toNat default).2.2.2.2.2)).getD s5.1.toNat default).2.2.2.2.2))]),(100006,[.d (.int .i64 (((hU ((a0.getD s1.1.toNat default).2.2.2.2.2)).getD s3.1.toNat default).1)),.d (.int .i64 (((hU ((a0.getD s1.1.toNat default).2.2.2.2.2)).getD s3.1.toNat default).2.1)),.d (.int .i64 (((hU ((a0.getD s1.1.toNat default).2.2.2.2.2)).getD s3.1.toNat default).2.2.1)),.d (.int .i64 (((hU ((a0.getD s1.1.toNat default).2.2.2.2.2)).getD s3.1.toNat default).2.2.2.1)),.d (.int .i64 (((hU ((a0.getD s1.1.toNat default).2.2.2.2.2)).getD s3.1.toNat default).2.2.2.2.1)),.d (hE (((hU ((a0.getD s1.1.toNat default).2.2.2.2.2)).getD s3.1.toNat default).2.2.2.2.2))]),(6,[.d (.int .i64 ((a0.getD s1.1.toNat default).1)),.d (.int .i64 ((a0.getD s1.1.toNat default).2.1)),.d (.int .i64 ((a0.getD s1.1.toNat default).2.2.1)),.d (.int .i64 ((a0.getD s1.1.toNat default).2.2.2.1)),.d (.int .i64 ((a0.getD s1.1.toNat default).2.2.2.2.1)),.d (hE ((a0.getD s1.1.toNat default).2.2.2.2.2))])],[(2000300,.owned (ah 6 bD s6.2))]⟩) (abw a0 s1 s3 s5) _ hq hr ?_)
              ·exact lf
              ·intro s6 hr
               unfold abw at hr
               refine S3.gx [5,9] ?_
               refine gr ?_
               refine dN hr (fun hc hr=> ?_) fun hc hr=> ?_
               ·refine gr ?_
                refine S3.inl 3 [1,6,7,8,9,21,22] [] Tryz.func129 (by decide) rfl Tryz.ntmps129 (fun cx e=>aV bT oz cx e) (some 27) rfl rfl rfl rfl (nL rfl) (nL rfl) ?_
                refine gs ?_
                refine gr ?_
                intro zk S4
                refine S4.gx [5,9] ?_
                refine gr ?_
                obtain ⟨q7,hq,hr⟩:=iE hr
                refine S4.sees [1,7,8,9] [(3,3),(200006,200006),(100006,100006),(6,6)] [(2000300,2000300)] ?_ (Stop.iter S4 (fun s7=>⟨[(1,.c (.clo 130 [.ref 3 0])),(7,.c (.d (ah 6 bD (hU (((hU (((hU ((a0.getD s1.1.toNat default).2.2.2.2.2)).getD s3.1.toNat default).2.2.2.2.2)).getD s5.1.toNat default).2.2.2.2.2))))),(8,.c (.d (.int .i64 ((hU (((hU (((hU ((a0.getD s1.1.toNat default).2.2.2.2.2)).getD s3.1.toNat default).2.2.2.2.2)).getD s5.1.toNat default).2.2.2.2.2)).length:Int)))),(9,.c (.d (.int .i64 s7.1)))],[(3,[.own 2000300]),(200006,[.d (.int .i64 (((hU (((hU ((a0.getD s1.1.toNat default).2.2.2.2.2)).getD s3.1.toNat default).2.2.2.2.2)).getD s5.1.toNat default).1)),.d (.int .i64 (((hU (((hU ((a0.getD s1.1.toNat default).2.2.2.2.2)).getD s3.1.toNat default).2.2.2.2.2)).getD s5.1.toNat default).2.1)),.d (.int .i64 (((hU (((hU ((a0.getD s1.1.toNat default).2.2.2.2.2)).getD s3.1.toNat default).2.2.2.2.2)).getD s5.1.toNat default).2.2.1)),.d (.int .i64 (((hU (((hU ((a0.getD s1.1.toNat default).2.2.2.2.2)).getD s3.1.toNat default).2.2.2.2.2)).getD s5.1.toNat default).2.2.2.1)),.d (.int .i64 (((hU (((hU ((a0.getD s1.1.toNat default).2.2.2.2.2)).getD s3.1.toNat default).2.2.2.2.2)).getD s5.1.toNat default).2.2.2.2.1)),.d (hE (((hU (((hU ((a0.getD s1.1.toNat default).2.2.2.2.2)).getD s3.1.toNat default).2.2.2.2.2)).getD s5.1.toNat default).2.2.2.2.2))]),(100006,[.d (.int .i64 (((hU ((a0.getD s1.1.toNat default).2.2.2.2.2)).getD s3.1.toNat default).1)),.d (.int .i64 (((hU ((a0.getD s1.1.toNat default).2.2.2.2.2)).getD s3.1.toNat default).2.1)),.d (.int .i64 (((hU ((a0.getD s1.1.toNat default).2.2.2.2.2)).getD s3.1.toNat default).2.2.1)),.d (.int .i64 (((hU ((a0.getD s1.1.toNat default).2.2.2.2.2)).getD s3.1.toNat default).2.2.2.1)),.d (.int .i64 (((hU ((a0.getD s1.1.toNat default).2.2.2.2.2)).getD s3.1.toNat default).2.2.2.2.1)),.d (hE (((hU ((a0.getD s1.1.toNat default).2.2.2.2.2)).getD s3.1.toNat default).2.2.2.2.2))]),(6,[.d (.int .i64 ((a0.getD s1.1.toNat default).1)),.d (.int .i64 ((a0.getD s1.1.toNat default).2.1)),.d (.int .i64 ((a0.getD s1.1.toNat default).2.2.1)),.d (.int .i64 ((a0.getD s1.1.toNat default).2.2.2.1)),.d (.int .i64 ((a0.getD s1.1.toNat default).2.2.2.2.1)),.d (hE ((a0.getD s1.1.toNat default).2.2.2.2.2))])],[(2000300,.owned (ah 6 bD s7.2))]⟩) (abv a0 s1 s3 s5 s6) _ hq hr ?_)
                ·exact lf
                ·intro s7 hr
                 unfold abv at hr
                 refine S4.gx [5,9] ?_
                 refine gr ?_
                 refine dN hr (fun hc hr=> ?_) fun hc hr=> ?_
                 ·obtain ⟨O9,hr⟩:=aC hr
                  refine gr ?_
                  refine dN hr (fun hc hr=> ?_) fun hc hr=> ?_
                  ·refine gr ?_
                   refine S4.inl 2 [1,7,8,9] [.ref 3 0] Tryz.func130 (by decide) rfl Tryz.ntmps130 (fun cx e=>aV bT oz cx e) (some 18) rfl rfl rfl rfl (nL rfl) (nL rfl) ?_
                   refine gs ?_
                   refine gr ?_
                   intro qW S5
                   refine S5.gx [] ?_
                   obtain ⟨XT,hr⟩:=aC hr
                   obtain ⟨NG,hr⟩:=aC hr
                   refine gr ?_
                   refine gr ?_
                   refine S4.gx [5,9] ?_
                   refine gr ?_
                   refine dN hr (fun hc hr=> ?_) fun hc hr=>D1 (S4.ss [1,7,8,9] [(3,3),(200006,200006),(100006,100006),(6,6)] [(8,2000300)]) hr
                   refine gr ?_
                   replace hr:=bn hr
                   refine gr ?_
                   refine S3.gx [5,9] ?_
                   refine gr ?_
                   replace hr:=bn hr
                   replace hr:=bn hr
                   refine gr ?_
                   refine S2.gx [5,9] ?_
                   refine gr ?_
                   replace hr:=bn hr
                   replace hr:=bn hr
                   refine gr ?_
                   refine S1.gx [5,9] ?_
                   refine gr ?_
                   replace hr:=bn hr
                   have hr:=bK hr
                   refine gr ?_
                   refine S.gx [2] ?_
                   exact D0 hr
                  ·refine gr ?_
                   obtain ⟨q8,hq,hr⟩:=iE hr
                   refine S4.sees [1,6,7,8,9,21,22] [(3,3),(300006,300006),(200006,200006),(100006,100006),(6,6)] [(2000300,2000300)] ?_ (Stop.iter S4 (fun s8=>⟨[(1,.c (.clo 130 [.ref 3 0])),(6,.c (.ref 300006 0)),(7,.c (.d (ah 6 bD (hU (((hU (((hU ((a0.getD s1.1.toNat default).2.2.2.2.2)).getD s3.1.toNat default).2.2.2.2.2)).getD s5.1.toNat default).2.2.2.2.2))))),(8,.c (.d (.int .i64 ((hU (((hU (((hU ((a0.getD s1.1.toNat default).2.2.2.2.2)).getD s3.1.toNat default).2.2.2.2.2)).getD s5.1.toNat default).2.2.2.2.2)).length:Int)))),(9,.c (.d (.int .i64 s7.1))),(21,.c (.d (.int .i64 (((hU (((hU (((hU ((a0.getD s1.1.toNat default).2.2.2.2.2)).getD s3.1.toNat default).2.2.2.2.2)).getD s5.1.toNat default).2.2.2.2.2)).getD s7.1.toNat default).2.2.2.1)))),(22,.c (.d (.int .i64 0)))],[(3,[.own 2000300]),(300006,[.d (.int .i64 (((hU (((hU (((hU ((a0.getD s1.1.toNat default).2.2.2.2.2)).getD s3.1.toNat default).2.2.2.2.2)).getD s5.1.toNat default).2.2.2.2.2)).getD s7.1.toNat default).1)),.d (.int .i64 (((hU (((hU (((hU ((a0.getD s1.1.toNat default).2.2.2.2.2)).getD s3.1.toNat default).2.2.2.2.2)).getD s5.1.toNat default).2.2.2.2.2)).getD s7.1.toNat default).2.1)),.d (.int .i64 (((hU (((hU (((hU ((a0.getD s1.1.toNat default).2.2.2.2.2)).getD s3.1.toNat default).2.2.2.2.2)).getD s5.1.toNat default).2.2.2.2.2)).getD s7.1.toNat default).2.2.1)),.d (.int .i64 (((hU (((hU (((hU ((a0.getD s1.1.toNat default).2.2.2.2.2)).getD s3.1.toNat default).2.2.2.2.2)).getD s5.1.toNat default).2.2.2.2.2)).getD s7.1.toNat default).2.2.2.1)),.d (.int .i64 (((hU (((hU (((hU ((a0.getD s1.1.toNat default).2.2.2.2.2)).getD s3.1.toNat default).2.2.2.2.2)).getD s5.1.toNat default).2.2.2.2.2)).getD s7.1.toNat default).2.2.2.2.1)),.d (hE (((hU (((hU (((hU ((a0.getD s1.1.toNat default).2.2.2.2.2)).getD s3.1.toNat default).2.2.2.2.2)).getD s5.1.toNat default).2.2.2.2.2)).getD s7.1.toNat default).2.2.2.2.2))]),(200006,[.d (.int .i64 (((hU (((hU ((a0.getD s1.1.toNat default).2.2.2.2.2)).getD s3.1.toNat default).2.2.2.2.2)).getD s5.1.toNat default).1)),.d (.int .i64 (((hU (((hU ((a0.getD s1.1.toNat default).2.2.2.2.2)).getD s3.1.toNat default).2.2.2.2.2)).getD s5.1.toNat default).2.1)),.d (.int .i64 (((hU (((hU ((a0.getD s1.1.toNat default).2.2.2.2.2)).getD s3.1.toNat default).2.2.2.2.2)).getD s5.1.toNat default).2.2.1)),.d (.int .i64 (((hU (((hU ((a0.getD s1.1.toNat default).2.2.2.2.2)).getD s3.1.toNat default).2.2.2.2.2)).getD s5.1.toNat default).2.2.2.1)),.d (.int .i64 (((hU (((hU ((a0.getD s1.1.toNat default).2.2.2.2.2)).getD s3.1.toNat default).2.2.2.2.2)).getD s5.1.toNat default).2.2.2.2.1)),.d (hE (((hU (((hU ((a0.getD s1.1.toNat default).2.2.2.2.2)).getD s3.1.toNat default).2.2.2.2.2)).getD s5.1.toNat default).2.2.2.2.2))]),(100006,[.d (.int .i64 (((hU ((a0.getD s1.1.toNat default).2.2.2.2.2)).getD s3.1.toNat default).1)),.d (.int .i64 (((hU ((a0.getD s1.1.toNat default).2.2.2.2.2)).getD s3.1.toNat default).2.1)),.d (.int .i64 (((hU ((a0.getD s1.1.toNat default).2.2.2.2.2)).getD s3.1.toNat default).2.2.1)),.d (.int .i64 (((hU ((a0.getD s1.1.toNat default).2.2.2.2.2)).getD s3.1.toNat default).2.2.2.1)),.d (.int .i64 (((hU ((a0.getD s1.1.toNat default).2.2.2.2.2)).getD s3.1.toNat default).2.2.2.2.1)),.d (hE (((hU ((a0.getD s1.1.toNat default).2.2.2.2.2)).getD s3.1.toNat default).2.2.2.2.2))]),(6,[.d (.int .i64 ((a0.getD s1.1.toNat default).1)),.d (.int .i64 ((a0.getD s1.1.toNat default).2.1)),.d (.int .i64 ((a0.getD s1.1.toNat default).2.2.1)),.d (.int .i64 ((a0.getD s1.1.toNat default).2.2.2.1)),.d (.int .i64 ((a0.getD s1.1.toNat default).2.2.2.2.1)),.d (hE ((a0.getD s1.1.toNat default).2.2.2.2.2))])],[(2000300,.owned (ah 6 bD s7.2))]⟩) (abu a0 s1 s3 s5 s7) _ hq hr ?_)
                   ·exact lf
                   ·intro s8 hr
                    unfold abu at hr
                    refine S4.gx [5,9] ?_
                    refine gr ?_
                    refine dN hr (fun hc hr=> ?_) fun hc hr=> ?_
                    ·refine gr ?_
                     refine gr ?_
                     first | cases hr | exact hr.elim
                    ·refine gr ?_
                     replace hr:=bn hr
                     exact D1 (S4.ss [1,7,8,9] [(3,3),(200006,200006),(100006,100006),(6,6)] [(2000300,2000300)]) hr
                 ·refine gr ?_
                  replace hr:=bn hr
                  refine gr ?_
                  refine gr ?_
                  refine S3.gx [5,9] ?_
                  exact D1 (S3.ss [1,6,7,8,9,21,22] [(3,3),(200006,200006),(100006,100006),(6,6)] [(2000300,2000300)]) hr
               ·refine gr ?_
                replace hr:=bn hr
                exact D1 (S3.ss [1,7,8,9] [(3,3),(100006,100006),(6,6)] [(2000300,2000300)]) hr
            ·refine gr ?_
             replace hr:=bn hr
             refine gr ?_
             refine gr ?_
             refine S2.gx [5,9] ?_
             exact D1 (S2.ss [1,6,7,8,9,21,22] [(3,3),(100006,100006),(6,6)] [(2000300,2000300)]) hr
          ·refine gr ?_
           replace hr:=bn hr
           exact D1 (S2.ss [1,7,8,9] [(3,3),(6,6)] [(2000300,2000300)]) hr
       ·refine gr ?_
        replace hr:=bn hr
        refine gr ?_
        refine gr ?_
        refine S1.gx [5,9] ?_
        exact D1 (S1.ss [1,6,7,8,9,21,22] [(3,3),(6,6)] [(2000300,2000300)]) hr
     ·refine gr ?_
      replace hr:=bn hr
      exact D1 (S1.ss [1,7,8,9] [(3,3)] [(2000300,2000300)]) hr
  ·refine gr ?_
   have hr:=bK hr
   refine gr ?_
   refine gr ?_
   refine S.gx [2] ?_
   exact D0 hr
def r94 (a0:Int):Option (Bool):=
 some ((a0 == 2) || (a0 == 4))
@[go_sem] def T94:=Kw qj false r94
theorem f94:aF Tryz.prog 94 T94.sp:=by
 refine vm .nil Tryz.func94 Tryz.ntmps94 fun a0 r hr stop S=> ?_
 rw [qU,r94] at hr
 refine S.gx [] ?_
 repeat (first | refine gA ?_ | refine gB ?_)
 exact D0 hr
end Go.Proofs.YtofkgmldcjagmaaGreatDoor

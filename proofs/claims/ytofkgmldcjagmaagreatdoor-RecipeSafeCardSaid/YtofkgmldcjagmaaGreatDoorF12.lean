/- Contracts of functions, written by wip/dec. -/
import Derived.Test.YtofkgmldcjagmaaGreatDoorF00
import Derived.Test.YtofkgmldcjagmaaGreatDoorF02
import Derived.Test.YtofkgmldcjagmaaGreatDoorF06
import Derived.Test.YtofkgmldcjagmaaGreatDoorF07
set_option linter.unusedVariables false
set_option linter.unusedSimpArgs false
set_option linter.constructorNameAsVariable false
set_option maxHeartbeats 4000000
set_option maxRecDepth 20000
namespace Go.Proofs.YtofkgmldcjagmaaGreatDoor
open Go.dG
def Yg (x0:aj):Bd Int Bool:=fun s1=>
 if (decide (s1<(x0.length:Int)))=true then
  if 0≤s1∧s1<(x0.length:Int) then
   if (decide (((x0.getD s1.toNat default).length:Int)>14))=true then
    .out (some false)
    else .next (IntKind.i64.wrap (s1+1))
   else .out none
  else .out (some true)
def r7 (x1 x6:Int) (x2:au) (x0:aj) (x3 x4:aZ) (x5:au) (x7 x8:Int):Option (Bool):=
 if ((((((decide (x1>14)) || (decide ((x2.length:Int)>14))) || (decide ((x0.length:Int)>14))) || (decide ((x3.length:Int)>14))) || (decide ((x4.length:Int)>14))) || (decide ((x5.length:Int)>14)))=true then
  some false
  else aS (Yg x0) 1000000000 0
@[go_sem] def T7:=KU qE false r7
theorem f7:aF Tryz.prog 7 T7.sp:=by
 refine vm .nil Tryz.func7 Tryz.ntmps7 fun ⟨x1,x6,x2,x0,x3,x4,x5,x7,x8⟩ r hr stop S=> ?_
 rw [Oa,r7] at hr
 refine S.gx [2,3] ?_
 repeat (first | refine gA ?_ | refine gB ?_)
 refine iW hr (fun hc hr=> ?_) fun hc hr=> ?_
 ·refine gr ?_
  refine S.prune [] ?_
  refine S.gx [3] ?_
  exact D0 hr
 ·refine gr ?_
  refine S.prune [1] ?_
  refine S.gx [2] ?_
  refine gr ?_
  refine gr ?_
  refine S.sees [1,3] [(1,1)] [] ?_ (Stop.iter S (fun s1=>⟨[(1,.c (.ref 1 0)),(3,.c (.d (.int .i64 s1)))],[(1,[.d (.int .i64 x1),.d (.int .i64 x6),.d (ah 2 aO x2),.d (ah 1 aN x0),.d (ah 1 cO x3),.d (ah 1 cO x4),.d (ah 2 aO x5),.d (.int .i64 x7),.d (.int .i64 x8)])],[]⟩) (Yg x0) (fun q=>q=r) hr rfl ?_)
  ·exact lf
  ·intro s1 hr
   unfold Yg at hr
   refine S.gx [2,3] ?_
   exact D1 (S.ss [1,3] [(1,1)] []) hr
end Go.Proofs.YtofkgmldcjagmaaGreatDoor
namespace Go.Proofs.YtofkgmldcjagmaaGreatDoor
open Go.dG
section
variable {β:Type} [Inhabited β] (u:β→List RV) (al:Bool)
def aoj (a0 a1:aZ):List Arg:=[.agg [ah 1 cO a0,ah 1 cO a1]]
def apZ:List Arg→aZ×aZ
 | [.agg [c0,c1]]=>(aG jQ c0,aG jQ c1)
 | _=>default
def aq8 (r:aZ→aZ→Option β):=mkT (u2 aoj) apZ (u2 r) u al
attribute [go_sem] aoj apZ aq8
def apr (v:Int×Int×au×aj):List RV:=[.agg [.d (.int .i64 v.1),.d (.int .i64 v.2.1),.own (ah 2 aO v.2.2.1),.own (ah 1 aN v.2.2.2)]]
attribute [go_sem] apr
def apo (v:aZ×aZ):List RV:=[.agg [.own (ah 1 cO v.1),.own (ah 1 cO v.2)]]
attribute [go_sem] apo
end
def G7 (x2 x3:Int) (x1:au) (x0:aj):Bd (Int×(List (au))) (Int×Int×au×aj):=fun s1=>
 if (decide (s1.1<(x0.length:Int)))=true then
  if 0≤s1.1∧s1.1<(x0.length:Int) then
   if (0+(x0.getD s1.1.toNat default).length)*16≤140737488355328∧0+(x0.getD s1.1.toNat default).length≤9223372036854775807 then
    if (s1.2.length+1)*24≤140737488355328∧s1.2.length+1≤9223372036854775807 then
     .next (IntKind.i64.wrap (s1.1+1),s1.2++[(x0.getD s1.1.toNat default)])
     else .out none
    else .out none
   else .out none
  else .out (some (x2,x3,x1,s1.2))
def r44 (x2 x3:Int) (x1:au) (x0:aj):Option (Int×Int×au×aj):=
 if (0+x1.length)*16≤140737488355328∧0+x1.length≤9223372036854775807 then
  aS (G7 x2 x3 x1 x0) 1000000000 (0,[])
  else none
@[go_sem] def T44:=WY apr true r44
theorem f44:aF Tryz.prog 44 T44.sp:=by
 refine vm .nil Tryz.func44 Tryz.ntmps44 fun ⟨x2,x3,x1,x0⟩ r hr stop S=> ?_
 rw [uq4,r44] at hr
 refine S.gx [] ?_
 obtain ⟨hg4,hr⟩:=aH hr
 refine gr ?_
 refine S.pW 3 3 2000303 1 rfl rfl (nL rfl) rfl ?_
 refine S.sees [1,2,3,4] [(1,1),(2,2),(3,3)] [(2000303,2000303),(9,9)] ?_ (Stop.iter S (fun s1=>⟨[(1,.c (.ref 1 0)),(2,.c (.ref 2 0)),(3,.c (.ref 3 0)),(4,.c (.d (.int .i64 s1.1)))],[(1,[.d (.int .i64 x2),.d (.int .i64 x3),.d (ah 2 aO x1),.d (ah 1 aN x0)]),(2,[.d (.int .i64 0),.d (.int .i64 0),.dD,.dD]),(3,[.d (.int .i64 x2),.d (.int .i64 x3),.own 9,.own 2000303])],[(2000303,.owned (ah 1 aN s1.2)),(9,.owned (ah 2 aO x1))]⟩) (G7 x2 x3 x1 x0) (fun q=>q=r) hr rfl ?_)
 ·exact lf
 ·intro s1 hr
  unfold G7 at hr
  refine S.gx [] ?_
  exact D1 (S.ss [1,2,3,4] [(1,1),(2,2),(3,3)] [(29,2000303),(9,9)]) hr
def r79 (a0:aZ):Option (aZ):=
 if (0+a0.length)*8≤140737488355328∧0+a0.length≤9223372036854775807 then
  some a0
  else none
@[go_sem] def T79:=qT3 apq false r79
theorem f79:aF Tryz.prog 79 T79.sp:=by
 refine vm .nil Tryz.func79 Tryz.ntmps79 fun a0 r hr stop S=> ?_
 rw [rF,r79] at hr
 refine S.gx [] ?_
 exact D0 hr
def r45 (x0 x1:aZ):Option (aZ×aZ):=
 (r79 x0).bind fun v1=>
  (r79 x1).bind fun v2=>
   some (v1,v2)
@[go_sem] def T45:=aq8 apo false r45
@[go_sem] def ayT (k:Nat):=lk [(79,T79.sp)] k
theorem f45:aF Tryz.prog 45 T45.sp:=by
 refine vm (tb:=ayT) (.cons f79 .nil) Tryz.func45 Tryz.ntmps45 fun ⟨x0,x1⟩ r hr stop S=> ?_
 rw [yK,r45] at hr
 refine S.gx [] ?_
 exact D0 hr
def r46 (a0:au):Option (au):=
 if (0+a0.length)*16≤140737488355328∧0+a0.length≤9223372036854775807 then
  some a0
  else none
@[go_sem] def T46:=qT5 qu5 false r46
theorem f46:aF Tryz.prog 46 T46.sp:=by
 refine vm .nil Tryz.func46 Tryz.ntmps46 fun a0 r hr stop S=> ?_
 rw [rF,r46] at hr
 refine S.gx [] ?_
 exact D0 hr
end Go.Proofs.YtofkgmldcjagmaaGreatDoor
namespace Go.Proofs.YtofkgmldcjagmaaGreatDoor
open Go.dG
def r9 (x0 x1:Int) (x2:au) (x3:aj) (x4 x5:aZ) (x6:au) (x7 x8:Int):Option (Int×Int×au×aj×aZ×aZ×au×Int×Int):=
 (r44 x0 x1 x2 x3).bind fun v1=>
  (r45 x4 x5).bind fun v2=>
   (r46 x6).bind fun v3=>
    some (v1.1,v1.2.1,v1.2.2.1,v1.2.2.2,v2.1,v2.2,v3,x7,x8)
@[go_sem] def T9:=KU qu0 true r9
@[go_sem] def tb9 (k:Nat):=lk [(44,T44.sp),(45,T45.sp),(46,T46.sp)] k
theorem f9:aF Tryz.prog 9 T9.sp:=by
 refine vm (tb:=tb9) (.cons f44 (.cons f45 (.cons f46 .nil))) Tryz.func9 Tryz.ntmps9 fun ⟨x0,x1,x2,x3,x4,x5,x6,x7,x8⟩ r hr stop S=> ?_
 rw [Oa,r9] at hr
 refine S.gx [] ?_
 exact D0 hr
end Go.Proofs.YtofkgmldcjagmaaGreatDoor
namespace Go.Proofs.YtofkgmldcjagmaaGreatDoor
open Go.dG
section
variable {β:Type} [Inhabited β] (u:β→List RV) (al:Bool)
def aoi (a0:au) (a1 a2:Int):List Arg:=[.c (ah 2 aO a0),.c (.int .i64 a1),.c (.int .i64 a2)]
def apY:List Arg→au×Int×Int
 | [.c c0,.c c1,.c c2]=>(aG bW c0,aB c1,aB c2)
 | _=>default
def aq7 (r:au→Int→Int→Option β):=mkT (u3 aoi) apY (u3 r) u al
attribute [go_sem] aoi apY aq7
def aoh (a0 a1:Int) (a2:au) (a3:aj) (a4 a5:aZ) (a6:au) (a7 a8 a9:Int):List Arg:=[.agg [.int .i64 a0,.int .i64 a1,ah 2 aO a2,ah 1 aN a3,ah 1 cO a4,ah 1 cO a5,ah 2 aO a6,.int .i64 a7,.int .i64 a8],.c (.int .i64 a9)]
def apX:List Arg→Int×Int×au×aj×aZ×aZ×au×Int×Int×Int
 | [.agg [c0,c1,c2,c3,c4,c5,c6,c7,c8],.c c9]=>(aB c0,aB c1,aG bW c2,aG bP c3,aG jQ c4,aG jQ c5,aG bW c6,aB c7,aB c8,aB c9)
 | _=>default
def aq6 (r:Int→Int→au→aj→aZ→aZ→au→Int→Int→Int→Option β):=mkT (u10 aoh) apX (u10 r) u al
attribute [go_sem] aoh apX aq6
end
def r16 (a0 a1 a2:Int):Option (Bool):=
 some ((decide (a1≤a0)) && (decide (a0≤a2)))
@[go_sem] def T16:=qT1 qE false r16
theorem f16:aF Tryz.prog 16 T16.sp:=by
 refine vm .nil Tryz.func16 Tryz.ntmps16 fun ⟨a0,a1,a2⟩ r hr stop S=> ?_
 rw [Yq,r16] at hr
 refine S.gx [] ?_
 repeat (first | refine gA ?_ | refine gB ?_)
 exact D0 hr
def Y8 (a0:Int):Option (Bool):=
 (r16 a0 200 3000).bind fun v1=>
  some v1
@[go_sem] def T48:=KT qE false Y8
@[go_sem] def ayR (k:Nat):=lk [(16,T16.sp)] k
theorem f48:aF Tryz.prog 48 T48.sp:=by
 refine vm (tb:=ayR) (.cons f16 .nil) Tryz.func48 Tryz.ntmps48 fun a0 r hr stop S=> ?_
 rw [rF,Y8] at hr
 refine S.gx [] ?_
 exact D0 hr
def wG (a0:au):Bd Int Int:=fun s1=>
 if (decide (s1<(a0.length:Int)))=true then
  if 0≤s1∧s1<(a0.length:Int) then
   aP (Y8 ((a0.getD s1.toNat default).1)) fun v1=>
    if (!(!v1))=true→0≤s1∧s1<(a0.length:Int) then
     if (!(!v1))=true→(r16 ((a0.getD s1.toNat default).2) 0 1000).isSome=true then
      if ((!v1) || (!((r16 ((a0.getD s1.toNat default).2) 0 1000).getD default)))=true then
       .out (some 2)
       else if (decide (s1>0))=true then
        if 0≤s1∧s1<(a0.length:Int) then
         if 0≤IntKind.i64.wrap (s1 - 1)∧IntKind.i64.wrap (s1 - 1)<(a0.length:Int) then
          if 0≤s1∧s1<(a0.length:Int) then
           if 0≤IntKind.i64.wrap (s1 - 1)∧IntKind.i64.wrap (s1 - 1)<(a0.length:Int) then
            if ((decide ((IntKind.i64.wrap (((a0.getD s1.toNat default).1) - ((a0.getD (IntKind.i64.wrap (s1 - 1)).toNat default).1)))≤0)) || (decide ((IntKind.i64.wrap (((a0.getD s1.toNat default).2) - ((a0.getD (IntKind.i64.wrap (s1 - 1)).toNat default).2)))<0)))=true then
             .out (some 9)
             else if (decide ((IntKind.i64.wrap (2*(IntKind.i64.wrap (((a0.getD s1.toNat default).2) - ((a0.getD (IntKind.i64.wrap (s1 - 1)).toNat default).2)))))>(IntKind.i64.wrap (((a0.getD s1.toNat default).1) - ((a0.getD (IntKind.i64.wrap (s1 - 1)).toNat default).1)))))=true then
              .out (some 22)
              else .next (IntKind.i64.wrap (s1+1))
            else .out none
           else .out none
          else .out none
         else .out none
        else .next (IntKind.i64.wrap (s1+1))
      else .out none
     else .out none
   else .out none
  else .out (some 0)
def Zj (a0:au):Option (Int):=
 if (decide ((a0.length:Int)>6))=true then
  some 8
  else aS (wG a0) 1000000000 0
@[go_sem] def avn:=qT5 lK false Zj
@[go_sem] def anI (k:Nat):=lk [(16,T16.sp),(48,T48.sp)] k
theorem f125:aF Tryz.prog 125 avn.sp:=by
 refine vm (tb:=anI) (.cons f16 (.cons f48 .nil)) Tryz.func125 Tryz.ntmps125 fun a0 r hr stop S=> ?_
 rw [rF,Zj] at hr
 refine S.gx [10] ?_
 refine gr ?_
 refine iW hr (fun hc hr=>D0 hr) fun hc hr=> ?_
 refine gr ?_
 refine S.sees [0,3] [] [] ?_ (Stop.iter S (fun s1=>⟨[(0,.c (.d (ah 2 aO a0))),(3,.c (.d (.int .i64 s1)))],[],[]⟩) (wG a0) (fun q=>q=r) hr rfl ?_)
 ·exact lf
 ·intro s1 hr
  unfold wG at hr
  refine S.gx [10] ?_
  refine gr ?_
  refine dM hr (fun hc hr=> ?_) fun hc hr=>D0 hr
  obtain ⟨hg6,hr⟩:=aC hr
  obtain ⟨v1,hv1,hr⟩:=aQ hr
  obtain ⟨hg7,hr⟩:=aC hr
  obtain ⟨Vt,hr⟩:=aC hr
  try simp only [hv1,oG,oI,true_and,and_assoc]
  repeat (first | refine gG hg7 ?_ | refine gG Vt ?_ | refine gA ?_ | refine gB ?_)
  refine dM hr (fun hc hr=>D0 hr) fun hc hr=> ?_
  refine gr ?_
  refine dM hr (fun hc hr=> ?_) fun hc hr=>D1 (S.ss [0,3] [] []) hr
  obtain ⟨hg2,hr⟩:=aC hr
  obtain ⟨hg3,hr⟩:=aC hr
  obtain ⟨hg4,hr⟩:=aC hr
  obtain ⟨hg5,hr⟩:=aC hr
  refine gr ?_
  refine S.prune [0,3,4,5] ?_
  refine S.gx [] ?_
  repeat (first | refine gA ?_ | refine gB ?_)
  exact D1 (S.ss [0,3] [] []) hr
def wC (a0:au) (a1 a2:Int):Bd Int (Int×Int):=fun s1=>
 if (decide (s1<(a0.length:Int)))=true then
  if 0≤s1∧s1<(a0.length:Int) then
   if (decide (a1≤(IntKind.i64.wrap (((a0.getD s1.toNat default).1)*a2))))=true then
    if (s1 == 0)=true then
     if 0≤0∧0<(a0.length:Int) then
      .out (some ((a0.getD 0 default).2,1))
      else .out none
     else if 0≤IntKind.i64.wrap (s1 - 1)∧IntKind.i64.wrap (s1 - 1)<(a0.length:Int) then
      if 0≤s1∧s1<(a0.length:Int) then
       .out (some (IntKind.i64.wrap ((IntKind.i64.wrap (((a0.getD (IntKind.i64.wrap (s1 - 1)).toNat default).2)*(IntKind.i64.wrap ((IntKind.i64.wrap (((a0.getD s1.toNat default).1) - ((a0.getD (IntKind.i64.wrap (s1 - 1)).toNat default).1)))*a2))))+(IntKind.i64.wrap ((IntKind.i64.wrap (((a0.getD s1.toNat default).2) - ((a0.getD (IntKind.i64.wrap (s1 - 1)).toNat default).2)))*(IntKind.i64.wrap (a1 - (IntKind.i64.wrap (((a0.getD (IntKind.i64.wrap (s1 - 1)).toNat default).1)*a2))))))),IntKind.i64.wrap ((IntKind.i64.wrap (((a0.getD s1.toNat default).1) - ((a0.getD (IntKind.i64.wrap (s1 - 1)).toNat default).1)))*a2)))
       else .out none
      else .out none
    else .next (IntKind.i64.wrap (s1+1))
   else .out none
  else .out (if 0≤IntKind.i64.wrap ((a0.length:Int) - 1)∧IntKind.i64.wrap ((a0.length:Int) - 1)<(a0.length:Int) then
   some ((a0.getD (IntKind.i64.wrap ((a0.length:Int) - 1)).toNat default).2,1)
   else none)
def sO (a0:au) (a1 a2:Int):Option (Int×Int):=
 if ((a0.length:Int) == 0)=true then
  some (0,1)
  else aS (wC a0 a1 a2) 1000000000 0
@[go_sem] def au8:=aq7 KR false sO
theorem f160:aF Tryz.prog 160 au8.sp:=by
 refine vm .nil Tryz.func160 Tryz.ntmps160 fun ⟨a0,a1,a2⟩ r hr stop S=> ?_
 rw [Yq,sO] at hr
 refine S.gx [11] ?_
 refine gr ?_
 refine iW hr (fun hc hr=>D0 hr) fun hc hr=> ?_
 refine gr ?_
 refine S.sees [0,1,2,8] [] [] ?_ (Stop.iter S (fun s1=>⟨[(0,.c (.d (ah 2 aO a0))),(1,.c (.d (.int .i64 a1))),(2,.c (.d (.int .i64 a2))),(8,.c (.d (.int .i64 s1)))],[],[]⟩) (wC a0 a1 a2) (fun q=>q=r) hr rfl ?_)
 ·exact lf
 ·intro s1 hr
  unfold wC at hr
  refine S.gx [11] ?_
  refine gr ?_
  refine dM hr (fun hc hr=> ?_) fun hc hr=>D0 hr
  obtain ⟨hg4,hr⟩:=aC hr
  refine gr ?_
  refine dM hr (fun hc hr=> ?_) fun hc hr=>D1 (S.ss [0,1,2,8] [] []) hr
  refine gr ?_
  refine dM hr (fun hc hr=>D0 hr) fun hc hr=> ?_
  obtain ⟨hg2,hr⟩:=aC hr
  obtain ⟨hg3,hr⟩:=aC hr
  refine gr ?_
  refine S.prune [1,2,9,10,11] ?_
  refine S.gx [] ?_
  exact D0 hr
def wF (a0 a1:au):Bd Int Bool:=fun s1=>
 if (decide (s1<((a0++a1).length:Int)))=true then
  if 0≤s1∧s1<((a0++a1).length:Int) then
   aP (sO a0 (((a0++a1).getD s1.toNat default).1) 1) fun v1=>
    if 0≤s1∧s1<((a0++a1).length:Int) then
     aP (sO a1 (((a0++a1).getD s1.toNat default).1) 1) fun v2=>
      if (decide ((IntKind.i64.wrap (v1.1*v2.2))<(IntKind.i64.wrap (v2.1*v1.2))))=true then
       .out (some true)
       else .next (IntKind.i64.wrap (s1+1))
     else .out none
   else .out none
  else .out (some false)
def WS (a0 a1:au):Option (Bool):=
 if (0+a0.length)*16≤140737488355328∧0+a0.length≤9223372036854775807 then
  if (a0.length+a1.length)*16≤140737488355328∧a0.length+a1.length≤9223372036854775807 then
   aS (wF a0 a1) 1000000000 0
   else none
  else none
@[go_sem] def avm:=Zu qE false WS
@[go_sem] def anH (k:Nat):=lk [(160,au8.sp)] k
theorem f126:aF Tryz.prog 126 avm.sp:=by
 refine vm (tb:=anH) (.cons f160 .nil) Tryz.func126 Tryz.ntmps126 fun ⟨a0,a1⟩ r hr stop S=> ?_
 rw [yK,WS] at hr
 refine S.gx [4,8] ?_
 obtain ⟨hg5,hr⟩:=aH hr
 obtain ⟨hg6,hr⟩:=aH hr
 refine gr ?_
 refine S.sees [0,1,5,6] [] [(15,15)] ?_ (Stop.iter S (fun s1=>⟨[(0,.c (.d (ah 2 aO a0))),(1,.c (.d (ah 2 aO a1))),(5,.c (.own 15)),(6,.c (.d (.int .i64 s1)))],[],[(15,.owned (ah 2 aO (a0++a1)))]⟩) (wF a0 a1) (fun q=>q=r) hr rfl ?_)
 ·exact lf
 ·intro s1 hr
  unfold wF at hr
  refine S.gx [4,8] ?_
  refine gr ?_
  refine dM hr (fun hc hr=> ?_) fun hc hr=>D0 hr
  obtain ⟨hg3,hr⟩:=aC hr
  obtain ⟨v1,hv1,hr⟩:=aQ hr
  obtain ⟨hg4,hr⟩:=aC hr
  obtain ⟨v2,hv2,hr⟩:=aQ hr
  refine gb hv1 ?_
  refine gb hv2 ?_
  refine dM hr (fun hc hr=> ?_) fun hc hr=> ?_
  ·refine gr ?_
   refine S.prune [] ?_
   refine S.gx [4] ?_
   exact D0 hr
  ·refine gr ?_
   refine S.prune [0,1,5,6] ?_
   refine S.gx [8] ?_
   exact D1 (S.ss [0,1,5,6] [] [(15,15)]) hr
def yE (x1:aj):Bd Int (Int×Int):=fun s2=>
 if (decide (s2<(x1.length:Int)))=true then
  if 0≤s2∧s2<(x1.length:Int) then
   aP (Zj (x1.getD s2.toNat default)) fun v10=>
    if (v10 != 0)=true then
     .out (some (s2,v10))
     else if (decide (s2>0))=true→0≤s2∧s2<(x1.length:Int) then
      if (decide (s2>0))=true→0≤IntKind.i64.wrap (s2 - 1)∧IntKind.i64.wrap (s2 - 1)<(x1.length:Int) then
       if (decide (s2>0))=true→(WS (x1.getD s2.toNat default) (x1.getD (IntKind.i64.wrap (s2 - 1)).toNat default)).isSome=true then
        if ((decide (s2>0)) && ((WS (x1.getD s2.toNat default) (x1.getD (IntKind.i64.wrap (s2 - 1)).toNat default)).getD default))=true then
         .out (some (s2,13))
         else .next (IntKind.i64.wrap (s2+1))
        else .out none
       else .out none
      else .out none
   else .out none
  else .out (some (0,0))
def Eo (x0:au) (x1:aj):Bd Int (Int×Int):=fun s1=>
 if (decide (s1<(x0.length:Int)))=true then
  if 0≤s1∧s1<(x0.length:Int) then
   aP (r16 ((x0.getD s1.toNat default).1) 0 1000000) fun v2=>
    if (!(!v2))=true→0≤s1∧s1<(x0.length:Int) then
     if (!(!v2))=true→(Y8 ((x0.getD s1.toNat default).2)).isSome=true then
      if ((!v2) || (!((Y8 ((x0.getD s1.toNat default).2)).getD default)))=true then
       .out (some (s1,2))
       else if (decide (s1>0))=true then
        if 0≤s1∧s1<(x0.length:Int) then
         if 0≤IntKind.i64.wrap (s1 - 1)∧IntKind.i64.wrap (s1 - 1)<(x0.length:Int) then
          if 0≤s1∧s1<(x0.length:Int) then
           if 0≤IntKind.i64.wrap (s1 - 1)∧IntKind.i64.wrap (s1 - 1)<(x0.length:Int) then
            if ((decide ((IntKind.i64.wrap (((x0.getD s1.toNat default).1) - ((x0.getD (IntKind.i64.wrap (s1 - 1)).toNat default).1)))≤0)) || (decide ((IntKind.i64.wrap (((x0.getD s1.toNat default).2) - ((x0.getD (IntKind.i64.wrap (s1 - 1)).toNat default).2)))≤0)))=true then
             .out (some (s1,9))
             else if (decide ((IntKind.i64.wrap (((x0.getD s1.toNat default).2) - ((x0.getD (IntKind.i64.wrap (s1 - 1)).toNat default).2)))>(IntKind.i64.wrap (((x0.getD s1.toNat default).1) - ((x0.getD (IntKind.i64.wrap (s1 - 1)).toNat default).1)))))=true then
              .out (some (s1,22))
              else .next (IntKind.i64.wrap (s1+1))
            else .out none
           else .out none
          else .out none
         else .out none
        else .next (IntKind.i64.wrap (s1+1))
      else .out none
     else .out none
   else .out none
  else .out (if (decide ((x1.length:Int)>4))=true then
   some (0,8)
   else aS (yE x1) 1000000000 0)
def r90 (x3 x2:Int) (x0:au) (x1:aj):Option (Int×Int):=
 (r16 x3 1 12).bind fun v1=>
  if (!(!v1))=true→(r16 x2 0 500).isSome=true then
   if ((!v1) || (!((r16 x2 0 500).getD default)))=true then
    some (0,2)
    else if (decide ((x0.length:Int)<2))=true then
     some (0,10)
     else if (decide ((x0.length:Int)>8))=true then
      some (0,8)
      else aS (Eo x0 x1) 1000000000 0
   else none
@[go_sem] def T90:=WY KR false r90
@[go_sem] def ayt (k:Nat):=lk [(16,T16.sp),(48,T48.sp),(125,avn.sp),(126,avm.sp)] k
theorem f90:aF Tryz.prog 90 T90.sp:=by
 refine vm (tb:=ayt) (.cons f16 (.cons f48 (.cons f125 (.cons f126 .nil)))) Tryz.func90 Tryz.ntmps90 fun ⟨x3,x2,x0,x1⟩ r hr stop S=> ?_
 rw [uq4,r90] at hr
 refine S.gx [14,22,27] ?_
 obtain ⟨v1,hv1,hr⟩:=aA hr
 obtain ⟨PU,hr⟩:=aH hr
 try simp only [hv1,oG,oI,true_and,and_assoc]
 repeat (first | refine gG PU ?_ | refine gA ?_ | refine gB ?_)
 refine iW hr (fun hc hr=>D0 hr) fun hc hr=> ?_
 refine gr ?_
 refine iW hr (fun hc hr=>D0 hr) fun hc hr=> ?_
 refine gr ?_
 refine iW hr (fun hc hr=>D0 hr) fun hc hr=> ?_
 refine gr ?_
 refine S.sees [1,4] [(1,1)] [] ?_ (Stop.iter S (fun s1=>⟨[(1,.c (.ref 1 0)),(4,.c (.d (.int .i64 s1)))],[(1,[.d (.int .i64 x3),.d (.int .i64 x2),.d (ah 2 aO x0),.d (ah 1 aN x1)])],[]⟩) (Eo x0 x1) (fun q=>q=r) hr rfl ?_)
 ·exact lf
 ·intro s1 hr
  unfold Eo at hr
  refine S.gx [14,22,27] ?_
  refine gr ?_
  refine dM hr (fun hc hr=> ?_) fun hc hr=> ?_
  ·obtain ⟨hg7,hr⟩:=aC hr
   obtain ⟨v2,hv2,hr⟩:=aQ hr
   obtain ⟨Vt,hr⟩:=aC hr
   obtain ⟨hg9,hr⟩:=aC hr
   try simp only [hv2,oG,oI,true_and,and_assoc]
   repeat (first | refine gG Vt ?_ | refine gG hg9 ?_ | refine gA ?_ | refine gB ?_)
   refine dM hr (fun hc hr=>D0 hr) fun hc hr=> ?_
   refine gr ?_
   refine dM hr (fun hc hr=> ?_) fun hc hr=>D1 (S.ss [1,4] [(1,1)] []) hr
   obtain ⟨hg3,hr⟩:=aC hr
   obtain ⟨hg4,hr⟩:=aC hr
   obtain ⟨hg5,hr⟩:=aC hr
   obtain ⟨hg6,hr⟩:=aC hr
   refine gr ?_
   refine S.prune [1,4,5,6] ?_
   refine S.gx [22,27] ?_
   repeat (first | refine gA ?_ | refine gB ?_)
   exact D1 (S.ss [1,4] [(1,1)] []) hr
  ·refine gr ?_
   have hr:=bK hr
   refine gr ?_
   refine iW hr (fun hc hr=>D0 hr) fun hc hr=> ?_
   refine gr ?_
   refine S.sees [1,7] [(1,1)] [] ?_ (Stop.iter S (fun s2=>⟨[(1,.c (.ref 1 0)),(7,.c (.d (.int .i64 s2)))],[(1,[.d (.int .i64 x3),.d (.int .i64 x2),.d (ah 2 aO x0),.d (ah 1 aN x1)])],[]⟩) (yE x1) (fun q=>q=r) hr rfl ?_)
   ·exact lf
   ·intro s2 hr
    unfold yE at hr
    refine S.gx [14,22,27] ?_
    refine gr ?_
    refine dM hr (fun hc hr=> ?_) fun hc hr=>D0 hr
    obtain ⟨Xo,hr⟩:=aC hr
    obtain ⟨v10,vV,hr⟩:=aQ hr
    refine gb vV ?_
    refine dM hr (fun hc hr=>D0 hr) fun hc hr=> ?_
    obtain ⟨LZ,hr⟩:=aC hr
    obtain ⟨LY,hr⟩:=aC hr
    obtain ⟨LX,hr⟩:=aC hr
    repeat (first | refine gG LZ ?_ | refine gG LY ?_ | refine gG LX ?_ | refine gA ?_ | refine gB ?_)
    refine dM hr (fun hc hr=> ?_) fun hc hr=> ?_
    ·refine gr ?_
     refine S.prune [7] ?_
     refine S.gx [14,22] ?_
     exact D0 hr
    ·refine gr ?_
     refine S.prune [1,7] ?_
     refine S.gx [14,27] ?_
     exact D1 (S.ss [1,7] [(1,1)] []) hr
def r57 (x0 x1:Int) (x2:au) (x3:aj):Option (Int):=
 (r90 x0 x1 x2 x3).bind fun v1=>
  some v1.2
@[go_sem] def T57:=WY lK false r57
@[go_sem] def ayL (k:Nat):=lk [(90,T90.sp)] k
theorem f57:aF Tryz.prog 57 T57.sp:=by
 refine vm (tb:=ayL) (.cons f90 .nil) Tryz.func57 Tryz.ntmps57 fun ⟨x0,x1,x2,x3⟩ r hr stop S=> ?_
 rw [uq4,r57] at hr
 refine S.gx [] ?_
 exact D0 hr
def WW (x1 x2:Int) (x0:au) (x3:aj) (a1:Int):Option (Bool):=
 if 0≤0∧0<(x0.length:Int) then
  if 0≤IntKind.i64.wrap ((x0.length:Int) - 1)∧IntKind.i64.wrap ((x0.length:Int) - 1)<(x0.length:Int) then
   (r16 a1 ((x0.getD 0 default).1) ((x0.getD (IntKind.i64.wrap ((x0.length:Int) - 1)).toNat default).1)).bind fun v1=>
    some v1
   else none
  else none
@[go_sem] def avt:=aes qE false WW
@[go_sem] def anP (k:Nat):=lk [(16,T16.sp)] k
theorem f113:aF Tryz.prog 113 avt.sp:=by
 refine vm (tb:=anP) (.cons f16 .nil) Tryz.func113 Tryz.ntmps113 fun ⟨x1,x2,x0,x3,a1⟩ r hr stop S=> ?_
 rw [uq5,WW] at hr
 refine S.gx [] ?_
 exact D0 hr
def wE (x0 x1:Int) (x2:au) (x3:aj) (a1:aZ):Bd Int (Int×Int):=fun s1=>
 if (decide (s1<(a1.length:Int)))=true then
  if 0≤s1∧s1<(a1.length:Int) then
   aP (WW x0 x1 x2 x3 (a1.getD s1.toNat default)) fun v1=>
    if (!v1)=true then
     .out (some (s1,2))
     else .next (IntKind.i64.wrap (s1+1))
   else .out none
  else .out (some (0,0))
def WR (x0 x1:Int) (x2:au) (x3:aj) (a1:aZ):Option (Int×Int):=
 if ((a1.length:Int) != x0)=true then
  some (0,10)
  else aS (wE x0 x1 x2 x3 a1) 1000000000 0
@[go_sem] def avl:=aij KR false WR
@[go_sem] def anG (k:Nat):=lk [(113,avt.sp)] k
theorem f127:aF Tryz.prog 127 avl.sp:=by
 refine vm (tb:=anG) (.cons f113 .nil) Tryz.func127 Tryz.ntmps127 fun ⟨x0,x1,x2,x3,a1⟩ r hr stop S=> ?_
 rw [uq5,WR] at hr
 refine S.gx [] ?_
 refine gr ?_
 refine iW hr (fun hc hr=>D0 hr) fun hc hr=> ?_
 refine gr ?_
 refine S.sees [1,2,6] [(2,2)] [] ?_ (Stop.iter S (fun s1=>⟨[(1,.c (.d (ah 1 cO a1))),(2,.c (.ref 2 0)),(6,.c (.d (.int .i64 s1)))],[(2,[.d (.int .i64 x0),.d (.int .i64 x1),.d (ah 2 aO x2),.d (ah 1 aN x3)])],[]⟩) (wE x0 x1 x2 x3 a1) (fun q=>q=r) hr rfl ?_)
 ·exact lf
 ·intro s1 hr
  unfold wE at hr
  refine S.gx [] ?_
  exact D1 (S.ss [1,2,6] [(2,2)] []) hr
def NM (x0:Int) (x1 x2:aZ):Bd Int (Int×Int):=fun s1=>
 if (decide (s1<x0))=true then
  if 0≤s1∧s1<(x1.length:Int) then
   if 0≤s1∧s1<(x2.length:Int) then
    if (decide ((x1.getD s1.toNat default)>(x2.getD s1.toNat default)))=true then
     .out (some (s1,9))
     else .next (IntKind.i64.wrap (s1+1))
    else .out none
   else .out none
  else .out (some (0,0))
def r91 (x0 x3:Int) (x4:au) (x5:aj) (x1 x2:aZ):Option (Int×Int):=
 (WR x0 x3 x4 x5 x1).bind fun v1=>
  if (v1.2 != 0)=true then
   some (v1.1,v1.2)
   else (WR x0 x3 x4 x5 x2).bind fun v2=>
    if (v2.2 != 0)=true then
     some (v2.1,v2.2)
     else aS (NM x0 x1 x2) 1000000000 0
@[go_sem] def T91:=Zt KR false r91
@[go_sem] def ays (k:Nat):=lk [(127,avl.sp)] k
theorem f91:aF Tryz.prog 91 T91.sp:=by
 refine vm (tb:=ays) (.cons f127 .nil) Tryz.func91 Tryz.ntmps91 fun ⟨x0,x3,x4,x5,x1,x2⟩ r hr stop S=> ?_
 rw [YA,r91] at hr
 refine S.gx [] ?_
 obtain ⟨v1,hv1,hr⟩:=aA hr
 refine gb hv1 ?_
 refine iW hr (fun hc hr=>D0 hr) fun hc hr=> ?_
 obtain ⟨v2,hv2,hr⟩:=aA hr
 refine gb hv2 ?_
 refine iW hr (fun hc hr=>D0 hr) fun hc hr=> ?_
 refine gr ?_
 refine S.sees [2,3,10] [(2,2),(3,3)] [] ?_ (Stop.iter S (fun s1=>⟨[(2,.c (.ref 2 0)),(3,.c (.ref 3 0)),(10,.c (.d (.int .i64 s1)))],[(2,[.d (.int .i64 x0),.d (.int .i64 x3),.d (ah 2 aO x4),.d (ah 1 aN x5)]),(3,[.d (ah 1 cO x1),.d (ah 1 cO x2)])],[]⟩) (NM x0 x1 x2) (fun q=>q=r) hr rfl ?_)
 ·exact lf
 ·intro s1 hr
  unfold NM at hr
  refine S.gx [] ?_
  exact D1 (S.ss [2,3,10] [(2,2),(3,3)] []) hr
def r58 (x0 x1:Int) (x2:au) (x3:aj) (x4 x5:aZ):Option (Int):=
 (r57 x0 x1 x2 x3).bind fun v1=>
  if (v1 != 0)=true then
   some v1
   else (r91 x0 x1 x2 x3 x4 x5).bind fun v2=>
    some v2.2
@[go_sem] def T58:=Zt lK false r58
@[go_sem] def ayK (k:Nat):=lk [(57,T57.sp),(91,T91.sp)] k
theorem f58:aF Tryz.prog 58 T58.sp:=by
 refine vm (tb:=ayK) (.cons f57 (.cons f91 .nil)) Tryz.func58 Tryz.ntmps58 fun ⟨x0,x1,x2,x3,x4,x5⟩ r hr stop S=> ?_
 rw [YA,r58] at hr
 refine S.gx [] ?_
 exact D0 hr
def r47 (x1 x2:Int) (x3:au) (x0:aj) (x4 x5:aZ) (x6:au) (x7 x8 a1:Int):Option (Bool):=
 (r16 a1 0 (IntKind.i64.wrap ((x0.length:Int) - 1))).bind fun v1=>
  some v1
@[go_sem] def T47:=aq6 qE false r47
@[go_sem] def ayS (k:Nat):=lk [(16,T16.sp)] k
theorem f47:aF Tryz.prog 47 T47.sp:=by
 refine vm (tb:=ayS) (.cons f16 .nil) Tryz.func47 Tryz.ntmps47 fun ⟨x1,x2,x3,x0,x4,x5,x6,x7,x8,a1⟩ r hr stop S=> ?_
 rw [HY,r47] at hr
 refine S.gx [] ?_
 exact D0 hr
def G9 (x1 x2:Int) (x3:au) (x4:aj) (x5 x6:aZ) (x0:au) (x7 x8:Int):Bd Int (Int×Int):=fun s1=>
 if (decide (s1<(x0.length:Int)))=true then
  if 0≤s1∧s1<(x0.length:Int) then
   aP (r16 ((x0.getD s1.toNat default).1) 0 1000) fun v3=>
    if (!(!v3))=true→(r16 ((x0.getD s1.toNat default).2) 0 1000).isSome=true then
     if ((!v3) || (!((r16 ((x0.getD s1.toNat default).2) 0 1000).getD default)))=true then
      .out (some (s1,2))
      else if (decide (((x0.getD s1.toNat default).1)>((x0.getD s1.toNat default).2)))=true then
       .out (some (s1,9))
       else .next (IntKind.i64.wrap (s1+1))
     else .out none
   else .out none
  else .out ((r47 x1 x2 x3 x4 x5 x6 x0 x7 x8 x7).bind fun v6=>
   if (!v6)=true then
    some (0,6)
    else (r16 x8 0 4).bind fun v7=>
     if (!v7)=true then
      some (0,2)
      else some (0,0))
def r22 (x1 x2:Int) (x3:au) (x4:aj) (x5 x6:aZ) (x0:au) (x7 x8:Int):Option (Int×Int):=
 (r57 x1 x2 x3 x4).bind fun v1=>
  if (v1 != 0)=true then
   some (0,v1)
   else (r58 x1 x2 x3 x4 x5 x6).bind fun v2=>
    if (v2 != 0)=true then
     some (0,v2)
     else if ((x0.length:Int) != x1)=true then
      some (0,10)
      else aS (G9 x1 x2 x3 x4 x5 x6 x0 x7 x8) 1000000000 0
@[go_sem] def T22:=KU KR false r22
@[go_sem] def ayZ (k:Nat):=lk [(16,T16.sp),(47,T47.sp),(57,T57.sp),(58,T58.sp)] k
theorem f22:aF Tryz.prog 22 T22.sp:=by
 refine vm (tb:=ayZ) (.cons f16 (.cons f47 (.cons f57 (.cons f58 .nil)))) Tryz.func22 Tryz.ntmps22 fun ⟨x1,x2,x3,x4,x5,x6,x0,x7,x8⟩ r hr stop S=> ?_
 rw [Oa,r22] at hr
 refine S.gx [] ?_
 obtain ⟨v1,hv1,hr⟩:=aA hr
 refine gb hv1 ?_
 refine iW hr (fun hc hr=>D0 hr) fun hc hr=> ?_
 obtain ⟨v2,hv2,hr⟩:=aA hr
 refine gb hv2 ?_
 refine iW hr (fun hc hr=>D0 hr) fun hc hr=> ?_
 refine gr ?_
 refine iW hr (fun hc hr=>D0 hr) fun hc hr=> ?_
 refine gr ?_
 refine S.sees [1,6] [(1,1)] [] ?_ (Stop.iter S (fun s1=>⟨[(1,.c (.ref 1 0)),(6,.c (.d (.int .i64 s1)))],[(1,[.d (.int .i64 x1),.d (.int .i64 x2),.d (ah 2 aO x3),.d (ah 1 aN x4),.d (ah 1 cO x5),.d (ah 1 cO x6),.d (ah 2 aO x0),.d (.int .i64 x7),.d (.int .i64 x8)])],[]⟩) (G9 x1 x2 x3 x4 x5 x6 x0 x7 x8) (fun q=>q=r) hr rfl ?_)
 ·exact lf
 ·intro s1 hr
  unfold G9 at hr
  refine S.gx [] ?_
  refine gr ?_
  refine dM hr (fun hc hr=> ?_) fun hc hr=>D0 hr
  obtain ⟨hg4,hr⟩:=aC hr
  obtain ⟨v3,hv3,hr⟩:=aQ hr
  obtain ⟨hg5,hr⟩:=aC hr
  try simp only [hv3,oG,oI,true_and,and_assoc]
  repeat (first | refine gG hg5 ?_ | refine gA ?_ | refine gB ?_)
  exact D1 (S.ss [1,6] [(1,1)] []) hr
end Go.Proofs.YtofkgmldcjagmaaGreatDoor
namespace Go.Proofs.YtofkgmldcjagmaaGreatDoor
open Go.dG
def r11 (x0 x1:Int) (x2:au) (x3:aj) (x4 x5:aZ) (x6:au) (x7 x8:Int):Option (Int):=
 (r22 x0 x1 x2 x3 x4 x5 x6 x7 x8).bind fun v1=>
  some v1.2
@[go_sem] def T11:=KU lK false r11
@[go_sem] def ay5 (k:Nat):=lk [(22,T22.sp)] k
theorem f11:aF Tryz.prog 11 T11.sp:=by
 refine vm (tb:=ay5) (.cons f22 .nil) Tryz.func11 Tryz.ntmps11 fun ⟨x0,x1,x2,x3,x4,x5,x6,x7,x8⟩ r hr stop S=> ?_
 rw [Oa,r11] at hr
 refine S.gx [] ?_
 exact D0 hr
end Go.Proofs.YtofkgmldcjagmaaGreatDoor
namespace Go.Proofs.YtofkgmldcjagmaaGreatDoor
open Go.dG
def Hg (x0 x1:Int) (x2:au) (x3:aj) (x4 x5:aZ) (x6:au) (x7 x8:Int) (a1:au):Bd Int Int:=fun s1=>
 if (decide (s1<(a1.length:Int)))=true then
  if 0≤s1∧s1<(a1.length:Int) then
   aP (r16 ((a1.getD s1.toNat default).1) 0 10000) fun v1=>
    if (!v1)=true then
     .out (some 2)
     else if 0≤s1∧s1<(a1.length:Int) then
      aP (r47 x0 x1 x2 x3 x4 x5 x6 x7 x8 ((a1.getD s1.toNat default).2)) fun v2=>
       if (!v2)=true then
        .out (some 6)
        else .next (IntKind.i64.wrap (s1+1))
      else .out none
   else .out none
  else .out (some 0)
def r12 (x0 x1:Int) (x2:au) (x3:aj) (x4 x5:aZ) (x6:au) (x7 x8:Int) (a1:au):Option (Int):=
 if (decide ((a1.length:Int)>200))=true then
  some 8
  else aS (Hg x0 x1 x2 x3 x4 x5 x6 x7 x8 a1) 1000000000 0
@[go_sem] def T12:=O5 lK false r12
@[go_sem] def ay4 (k:Nat):=lk [(16,T16.sp),(47,T47.sp)] k
theorem f12:aF Tryz.prog 12 T12.sp:=by
 refine vm (tb:=ay4) (.cons f16 (.cons f47 .nil)) Tryz.func12 Tryz.ntmps12 fun ⟨x0,x1,x2,x3,x4,x5,x6,x7,x8,a1⟩ r hr stop S=> ?_
 rw [HY,r12] at hr
 refine S.gx [] ?_
 refine gr ?_
 refine iW hr (fun hc hr=>D0 hr) fun hc hr=> ?_
 refine gr ?_
 refine S.sees [1,2,5] [(2,2)] [] ?_ (Stop.iter S (fun s1=>⟨[(1,.c (.d (ah 2 aO a1))),(2,.c (.ref 2 0)),(5,.c (.d (.int .i64 s1)))],[(2,[.d (.int .i64 x0),.d (.int .i64 x1),.d (ah 2 aO x2),.d (ah 1 aN x3),.d (ah 1 cO x4),.d (ah 1 cO x5),.d (ah 2 aO x6),.d (.int .i64 x7),.d (.int .i64 x8)])],[]⟩) (Hg x0 x1 x2 x3 x4 x5 x6 x7 x8 a1) (fun q=>q=r) hr rfl ?_)
 ·exact lf
 ·intro s1 hr
  unfold Hg at hr
  refine S.gx [] ?_
  exact D1 (S.ss [1,2,5] [(2,2)] []) hr
end Go.Proofs.YtofkgmldcjagmaaGreatDoor
namespace Go.Proofs.YtofkgmldcjagmaaGreatDoor
open Go.dG
def r36 (x0 x1:Int) (x2:au) (x3:aj) (x4 x5:aZ) (x6:au) (x7 x8:Int) (a1:au):Option (Int×Int×au×aj×aZ×aZ×au×Int×Int×Int):=
 (r61 x0 x1 x2 x3 x4 x5 x6 x7 x8).bind fun v1=>
  if (v1.2.2.2.2.2.2.2.2.2 == 0)=true then
   (r65 v1.1 v1.2.1 v1.2.2.1 v1.2.2.2.1 v1.2.2.2.2.1 v1.2.2.2.2.2.1 v1.2.2.2.2.2.2.1 v1.2.2.2.2.2.2.2.1 v1.2.2.2.2.2.2.2.2.1 a1).bind fun v2=>
    some (v1.1,v1.2.1,v1.2.2.1,v1.2.2.2.1,v1.2.2.2.2.1,v1.2.2.2.2.2.1,v1.2.2.2.2.2.2.1,v1.2.2.2.2.2.2.2.1,v1.2.2.2.2.2.2.2.2.1,v2)
   else some (v1.1,v1.2.1,v1.2.2.1,v1.2.2.2.1,v1.2.2.2.2.1,v1.2.2.2.2.2.1,v1.2.2.2.2.2.2.1,v1.2.2.2.2.2.2.2.1,v1.2.2.2.2.2.2.2.2.1,v1.2.2.2.2.2.2.2.2.2)
@[go_sem] def T36:=O5 qu9 true r36
@[go_sem] def ayU (k:Nat):=lk [(61,T61.sp),(65,T65.sp)] k
theorem f36:aF Tryz.prog 36 T36.sp:=by
 refine vm (tb:=ayU) (.cons f61 (.cons f65 .nil)) Tryz.func36 Tryz.ntmps36 fun ⟨x0,x1,x2,x3,x4,x5,x6,x7,x8,a1⟩ r hr stop S=> ?_
 rw [HY,r36] at hr
 refine S.gx [] ?_
 exact D0 hr
end Go.Proofs.YtofkgmldcjagmaaGreatDoor
namespace Go.Proofs.YtofkgmldcjagmaaGreatDoor
open Go.dG
def r17 (x0 x1:Int) (x2:au) (x3:aj) (x4 x5:aZ) (x6:au) (x7 x8:Int) (a1:au):Option (aj×Int):=
 (r36 x0 x1 x2 x3 x4 x5 x6 x7 x8 a1).bind fun v1=>
  if (v1.2.2.2.2.2.2.2.2.2 != 0)=true then
   some ([],v1.2.2.2.2.2.2.2.2.2)
   else (r51 v1.1 v1.2.1 v1.2.2.1 v1.2.2.2.1 v1.2.2.2.2.1 v1.2.2.2.2.2.1 v1.2.2.2.2.2.2.1 v1.2.2.2.2.2.2.2.1 v1.2.2.2.2.2.2.2.2.1 a1).bind fun v2=>
    some (v2.1,v2.2)
@[go_sem] def T17:=O5 ah6 true r17
@[go_sem] def ay2 (k:Nat):=lk [(36,T36.sp),(51,T51.sp)] k
theorem f17:aF Tryz.prog 17 T17.sp:=by
 refine vm (tb:=ay2) (.cons f36 (.cons f51 .nil)) Tryz.func17 Tryz.ntmps17 fun ⟨x0,x1,x2,x3,x4,x5,x6,x7,x8,a1⟩ r hr stop S=> ?_
 rw [HY,r17] at hr
 refine S.gx [] ?_
 exact D0 hr
end Go.Proofs.YtofkgmldcjagmaaGreatDoor
namespace Go.Proofs.YtofkgmldcjagmaaGreatDoor
open Go.dG
def He (x0:au) (a1:Int):Bd Int (Int×Int):=fun s1=>
 if 0≤s1∧s1<(x0.length:Int) then
  if (decide (((x0.getD s1.toNat default).1)<a1))=true then
   .next (IntKind.i64.wrap (s1+1))
   else .out (if 0≤IntKind.i64.wrap (s1 - 1)∧IntKind.i64.wrap (s1 - 1)<(x0.length:Int) then
    if 0≤s1∧s1<(x0.length:Int) then
     some (IntKind.i64.wrap ((IntKind.i64.wrap (((x0.getD (IntKind.i64.wrap (s1 - 1)).toNat default).2)*(IntKind.i64.wrap (((x0.getD s1.toNat default).1) - ((x0.getD (IntKind.i64.wrap (s1 - 1)).toNat default).1)))))+(IntKind.i64.wrap ((IntKind.i64.wrap (((x0.getD s1.toNat default).2) - ((x0.getD (IntKind.i64.wrap (s1 - 1)).toNat default).2)))*(IntKind.i64.wrap (a1 - ((x0.getD (IntKind.i64.wrap (s1 - 1)).toNat default).1)))))),IntKind.i64.wrap (((x0.getD s1.toNat default).1) - ((x0.getD (IntKind.i64.wrap (s1 - 1)).toNat default).1)))
     else none
    else none)
  else .out none
def Zf (x1 x2:Int) (x0:au) (x3:aj) (a1:Int):Option (Int×Int):=
 aS (He x0 a1) 1000000000 1
@[go_sem] def T18:=aes KR false Zf
theorem f18:aF Tryz.prog 18 T18.sp:=by
 refine vm .nil Tryz.func18 Tryz.ntmps18 fun ⟨x1,x2,x0,x3,a1⟩ r hr stop S=> ?_
 rw [uq5,Zf] at hr
 refine S.gx [] ?_
 refine gr ?_
 refine S.sees [1,2,6] [(2,2)] [] ?_ (Stop.iter S (fun s1=>⟨[(1,.c (.d (.int .i64 a1))),(2,.c (.ref 2 0)),(6,.c (.d (.int .i64 s1)))],[(2,[.d (.int .i64 x1),.d (.int .i64 x2),.d (ah 2 aO x0),.d (ah 1 aN x3)])],[]⟩) (He x0 a1) (fun q=>q=r) hr rfl ?_)
 ·exact lf
 ·intro s1 hr
  unfold He at hr
  refine S.gx [] ?_
  exact D1 (S.ss [1,2,6] [(2,2)] []) hr
end Go.Proofs.YtofkgmldcjagmaaGreatDoor

/- Contracts of functions, written by wip/dec. -/
import Derived.Test.YtofkgmldcjagmaaGreatDoorF00
import Derived.Test.YtofkgmldcjagmaaGreatDoorF09
set_option linter.unusedVariables false
set_option linter.unusedSimpArgs false
set_option linter.constructorNameAsVariable false
set_option maxHeartbeats 4000000
set_option maxRecDepth 20000
namespace Go.Proofs.YtofkgmldcjagmaaGreatDoor
open Go.dG
section
variable {β:Type} [Inhabited β] (u:β→List RV) (al:Bool)
def aok (a0:L_S) (a1:ByteArray):List Arg:=[.c (ah 1 d_S a0),.c (.str a1)]
def ap0:List Arg→L_S×ByteArray
 | [.c c0,.c c1]=>(aG g_S c0,abA c1)
 | _=>default
def aq9 (r:L_S→ByteArray→Option β):=mkT (u2 aok) ap0 (u2 r) u al
attribute [go_sem] aok ap0 aq9
end
def r72 (a0:L_S) (a1:ByteArray):Option (ByteArray):=
 Vr a0 a1
@[go_sem] def T72:=aq9 aem false r72
theorem f72:aF Tryz.prog 72 T72.sp:=⟨⟨Tryz.f72,Tryz.func72,by decide,rfl⟩,ZR (fun _=>rfl) (fun _=>rfl) (fun _=>rfl) rfl⟩
def aco (a0:au):Bd ((List (ByteArray))×Int) ByteArray:=fun s1=>
 if (decide (s1.2<(a0.length:Int)))=true then
  if 0≤s1.2∧s1.2<(a0.length:Int) then
   aP (r71 ((a0.getD s1.2.toNat default).1)) fun v1=>
    if v1.size+(#[32]:Array UInt8).size≤9223372036854775807 then
     aP (r71 ((a0.getD s1.2.toNat default).2)) fun v2=>
      if v1.size+(#[32]:Array UInt8).size+v2.size≤9223372036854775807 then
       if (s1.1.length+1)*16≤140737488355328∧s1.1.length+1≤9223372036854775807 then
        .next (s1.1++[(v1++(⟨#[32]⟩:ByteArray))++v2],IntKind.i64.wrap (s1.2+1))
        else .out none
       else .out none
     else .out none
   else .out none
  else .out ((r72 s1.1 (⟨#[59]⟩:ByteArray)).bind fun v7=>
   some v7)
def r34 (a0:au):Option (ByteArray):=
 aS (aco a0) 1000000000 ([],0)
@[go_sem] def T34:=qT5 aem false r34
@[go_sem] def ayV (k:Nat):=lk [(71,T71.sp),(72,T72.sp)] k
theorem f34:aF Tryz.prog 34 T34.sp:=by
 refine vm (tb:=ayV) (.cons f71 (.cons f72 .nil)) Tryz.func34 Tryz.ntmps34 fun a0 r hr stop S=> ?_
 rw [rF,r34] at hr
 refine S.gx [] ?_
 refine gr ?_
 refine S.O8 3 1000300 1 rfl rfl ?_
 refine S.sees [3,6,7,8] [] [(1000300,1000300)] ?_ (Stop.iter S (fun s1=>⟨[(3,.c (.own 1000300)),(6,.c (.d (ah 2 aO a0))),(7,.c (.d (.int .i64 (a0.length:Int)))),(8,.c (.d (.int .i64 s1.2)))],[],[(1000300,.owned (ah 1 d_S s1.1))]⟩) (aco a0) (fun q=>q=r) hr rfl ?_)
 ·exact lf
 ·intro s1 hr
  unfold aco at hr
  refine S.gx [] ?_
  exact D1 (S.ss [3,6,7,8] [] [(22,1000300)]) hr
def acn (a0 a1:au):Bd Int Bool:=fun s1=>
 if (decide (s1<(a0.length:Int)))=true then
  if 0≤s1∧s1<(a0.length:Int) then
   if 0≤s1∧s1<(a1.length:Int) then
    if (!(((a0.getD s1.toNat default).1 == (a1.getD s1.toNat default).1) && ((a0.getD s1.toNat default).2 == (a1.getD s1.toNat default).2)))=true then
     .out (some false)
     else .next (IntKind.i64.wrap (s1+1))
    else .out none
   else .out none
  else .out (some true)
def r35 (a0 a1:au):Option (Bool):=
 if ((a0.length:Int) != (a1.length:Int))=true then
  some false
  else aS (acn a0 a1) 1000000000 0
@[go_sem] def T35:=Zu qE false r35
theorem f35:aF Tryz.prog 35 T35.sp:=by
 refine vm .nil Tryz.func35 Tryz.ntmps35 fun ⟨a0,a1⟩ r hr stop S=> ?_
 rw [yK,r35] at hr
 refine S.gx [] ?_
 refine gr ?_
 refine iW hr (fun hc hr=>D0 hr) fun hc hr=> ?_
 refine gr ?_
 refine S.sees [0,1,5] [] [] ?_ (Stop.iter S (fun s1=>⟨[(0,.c (.d (ah 2 aO a0))),(1,.c (.d (ah 2 aO a1))),(5,.c (.d (.int .i64 s1)))],[],[]⟩) (acn a0 a1) (fun q=>q=r) hr rfl ?_)
 ·exact lf
 ·intro s1 hr
  unfold acn at hr
  refine S.gx [] ?_
  exact D1 (S.ss [0,1,5] [] []) hr
end Go.Proofs.YtofkgmldcjagmaaGreatDoor

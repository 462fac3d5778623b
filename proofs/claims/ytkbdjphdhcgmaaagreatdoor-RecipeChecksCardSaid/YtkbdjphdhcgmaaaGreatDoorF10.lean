/- Contracts of functions, written by wip/dec. -/
import Derived.Test.YtkbdjphdhcgmaaaGreatDoorF00
import Derived.Test.YtkbdjphdhcgmaaaGreatDoorF09
set_option linter.unusedVariables false
set_option linter.unusedSimpArgs false
set_option linter.constructorNameAsVariable false
set_option maxHeartbeats 4000000
set_option maxRecDepth 20000
namespace Go.Proofs.YtkbdjphdhcgmaaaGreatDoor
open Go.Abs
section
variable {β:Type} [Inhabited β] (u:β→List RV) (al:Bool)
def qw73 (a0:L_S) (a1:ByteArray):List Arg:=[.c (encF 1 d_S a0),.c (.str a1)]
def qd73:List Arg→L_S×ByteArray
 | [.c c0,.c c1]=>(decF g_S c0,dStr c1)
 | _=>default
def qT73 (r:L_S→ByteArray→Option β):=mkT (u2 qw73) qd73 (u2 r) u al
attribute [go_sem] qw73 qd73 qT73
end
def r66 (a0:L_S) (a1:ByteArray):Option (ByteArray):=
 joinV a0 a1
@[go_sem] def T66:=qT73 qu37 false r66
theorem f66:FnFact Tryz.prog 66 T66.sp:=⟨⟨Tryz.f66,Tryz.func66,by decide,rfl⟩,lib_Join (fun _=>rfl) (fun _=>rfl) (fun _=>rfl) rfl⟩
def b33_1 (a0:L_II):Bd ((List (ByteArray))×Int) ByteArray:=fun s1=>
 if (decide (s1.2<(a0.length:Int)))=true then
  if 0≤s1.2∧s1.2<(a0.length:Int) then
   bindC (r65 ((a0.getD s1.2.toNat default).1)) fun v1=>
    if v1.size+(#[32]:Array UInt8).size≤9223372036854775807 then
     bindC (r65 ((a0.getD s1.2.toNat default).2)) fun v2=>
      if v1.size+(#[32]:Array UInt8).size+v2.size≤9223372036854775807 then
       if (s1.1.length+1)*16≤140737488355328∧s1.1.length+1≤9223372036854775807 then
        .next (s1.1++[(v1++(⟨#[32]⟩:ByteArray))++v2],IntKind.i64.wrap (s1.2+1))
        else .out none
       else .out none
     else .out none
   else .out none
  else .out ((r66 s1.1 (⟨#[59]⟩:ByteArray)).bind fun v7=>
   some v7)
def r33 (a0:L_II):Option (ByteArray):=
 iterC (b33_1 a0) 1000000000 ([],0)
@[go_sem] def T33:=qT5 qu37 false r33
@[go_sem] def tb33 (k:Nat):=lk [(65,T65.sp),(66,T66.sp)] k
theorem f33:FnFact Tryz.prog 33 T33.sp:=by
 refine vm (tb:=tb33) (.cons f65 (.cons f66 .nil)) Tryz.func33 Tryz.ntmps33 fun a0 r hr stop S=> ?_
 rw [uq1,r33] at hr
 refine S.gx [] ?_
 refine gr ?_
 refine S.own0 3 1000300 1 rfl rfl ?_
 refine S.sees [3,6,7,8] [] [(1000300,1000300)] ?_ (Stop.iter S (fun s1=>⟨[(3,.c (.own 1000300)),(6,.c (.d (encF 2 d_II a0))),(7,.c (.d (.int .i64 (a0.length:Int)))),(8,.c (.d (.int .i64 s1.2)))],[],[(1000300,.owned (encF 1 d_S s1.1))]⟩) (b33_1 a0) (fun q=>q=r) hr rfl ?_)
 ·exact lf
 ·intro s1 hr
  unfold b33_1 at hr
  refine S.gx [] ?_
  exact D1 (S.ss [3,6,7,8] [] [(22,1000300)]) hr
def b34_1 (a0 a1:L_II):Bd Int Bool:=fun s1=>
 if (decide (s1<(a0.length:Int)))=true then
  if 0≤s1∧s1<(a0.length:Int) then
   if 0≤s1∧s1<(a1.length:Int) then
    if (!(((a0.getD s1.toNat default).1 == (a1.getD s1.toNat default).1) && ((a0.getD s1.toNat default).2 == (a1.getD s1.toNat default).2)))=true then
     .out (some false)
     else .next (IntKind.i64.wrap (s1+1))
    else .out none
   else .out none
  else .out (some true)
def r34 (a0 a1:L_II):Option (Bool):=
 if ((a0.length:Int) != (a1.length:Int))=true then
  some false
  else iterC (b34_1 a0 a1) 1000000000 0
@[go_sem] def T34:=qT11 qu2 false r34
theorem f34:FnFact Tryz.prog 34 T34.sp:=by
 refine vm .nil Tryz.func34 Tryz.ntmps34 fun ⟨a0,a1⟩ r hr stop S=> ?_
 rw [uq2,r34] at hr
 refine S.gx [] ?_
 refine gr ?_
 refine iW hr (fun hc hr=>D0 hr) fun hc hr=> ?_
 refine gr ?_
 refine S.sees [0,1,5] [] [] ?_ (Stop.iter S (fun s1=>⟨[(0,.c (.d (encF 2 d_II a0))),(1,.c (.d (encF 2 d_II a1))),(5,.c (.d (.int .i64 s1)))],[],[]⟩) (b34_1 a0 a1) (fun q=>q=r) hr rfl ?_)
 ·exact lf
 ·intro s1 hr
  unfold b34_1 at hr
  refine S.gx [] ?_
  exact D1 (S.ss [0,1,5] [] []) hr
end Go.Proofs.YtkbdjphdhcgmaaaGreatDoor

/- Contracts of functions, written by wip/dec. -/
import Derived.Test.YtnepigpnlnmlmaaGreatDoorF00
import Derived.Test.YtnepigpnlnmlmaaGreatDoorF09
set_option linter.unusedVariables false
set_option linter.unusedSimpArgs false
set_option linter.constructorNameAsVariable false
set_option maxHeartbeats 4000000
set_option maxRecDepth 20000
namespace Go.Proofs.YtnepigpnlnmlmaaGreatDoor
open Go.Abs
section
variable {β:Type} [Inhabited β] (u:β→List RV) (al:Bool)
def qw73 (a0:L_S) (a1:ByteArray):List Arg:=[.c (encF 1 d_S a0),.c (.str a1)]
def qd73:List Arg→L_S×ByteArray
 | [.c c0,.c c1]=>(decF g_S c0,dStr c1)
 | _=>default
def qT73 (r:L_S→ByteArray→Option β):=mkT (u2 qw73) qd73 (u2 r) u al
attribute [go_sem] qw73 qd73 qT73
end
def r125 (a0:L_S) (a1:ByteArray):Option (ByteArray):=
 joinV a0 a1
@[go_sem] def T125:=qT73 qu37 false r125
theorem f125:FnFact Tryz.prog 125 T125.sp:=⟨⟨Tryz.f125,Tryz.func125,by decide,rfl⟩,lib_Join (fun _=>rfl) (fun _=>rfl) (fun _=>rfl) rfl⟩
def b62_1 (a0:L_II):Bd ((List (ByteArray))×Int) ByteArray:=fun s1=>
 if (decide (s1.2<(a0.length:Int)))=true then
  if 0≤s1.2∧s1.2<(a0.length:Int) then
   bindC (r124 ((a0.getD s1.2.toNat default).1)) fun v1=>
    if v1.size+(#[32]:Array UInt8).size≤9223372036854775807 then
     bindC (r124 ((a0.getD s1.2.toNat default).2)) fun v2=>
      if v1.size+(#[32]:Array UInt8).size+v2.size≤9223372036854775807 then
       if (s1.1.length+1)*16≤140737488355328∧s1.1.length+1≤9223372036854775807 then
        .next (s1.1++[(v1++(⟨#[32]⟩:ByteArray))++v2],IntKind.i64.wrap (s1.2+1))
        else .out none
       else .out none
     else .out none
   else .out none
  else .out ((r125 s1.1 (⟨#[59]⟩:ByteArray)).bind fun v7=>
   some v7)
def r62 (a0:L_II):Option (ByteArray):=
 iterC (b62_1 a0) 1000000000 ([],0)
@[go_sem] def T62:=qT5 qu37 false r62
@[go_sem] def tb62 (k:Nat):=lk [(124,T124.sp),(125,T125.sp)] k
theorem f62:FnFact Tryz.prog 62 T62.sp:=by
 refine vm (tb:=tb62) (.cons f124 (.cons f125 .nil)) Tryz.func62 Tryz.ntmps62 fun a0 r hr stop S=> ?_
 rw [uq1,r62] at hr
 refine S.gx [] ?_
 refine gr ?_
 refine S.own0 3 1000300 1 rfl rfl ?_
 refine S.li [3,6,7,8] [] [(1000300,1000300)] (fun s1=>⟨[sO 3 1000300,(6,.c (.d (encF 2 d_II a0))),sI 7 (a0.length:Int),sI 8 s1.2],[],[(1000300,.owned (encF 1 d_S s1.1))]⟩) (b62_1 a0) (fun q=>q=r) hr rfl ?_
 intro s1 hr
 unfold b62_1 at hr
 refine S.gx [] ?_
 exact D1 (S.ss [3,6,7,8] [] [(22,1000300)]) hr
def b30_1 (a0 a1:L_II):Bd Int Bool:=fun s1=>
 if (decide (s1<(a0.length:Int)))=true then
  if 0≤s1∧s1<(a0.length:Int) then
   if 0≤s1∧s1<(a1.length:Int) then
    if (!(((a0.getD s1.toNat default).1 == (a1.getD s1.toNat default).1) && ((a0.getD s1.toNat default).2 == (a1.getD s1.toNat default).2)))=true then
     .out (some false)
     else .next (IntKind.i64.wrap (s1+1))
    else .out none
   else .out none
  else .out (some true)
def r30 (a0 a1:L_II):Option (Bool):=
 if ((a0.length:Int) != (a1.length:Int))=true then
  some false
  else iterC (b30_1 a0 a1) 1000000000 0
@[go_sem] def T30:=qT11 qu2 false r30
theorem f30:FnFact Tryz.prog 30 T30.sp:=by
 refine vm .nil Tryz.func30 Tryz.ntmps30 fun ⟨a0,a1⟩ r hr stop S=> ?_
 rw [uq2,r30] at hr
 refine S.gx [] ?_
 refine gr ?_
 refine iW hr (fun hc hr=>D0 hr) fun hc hr=> ?_
 refine gr ?_
 refine S.li [0,1,5] [] [] (fun s1=>⟨[(0,.c (.d (encF 2 d_II a0))),(1,.c (.d (encF 2 d_II a1))),sI 5 s1],[],[]⟩) (b30_1 a0 a1) (fun q=>q=r) hr rfl ?_
 intro s1 hr
 unfold b30_1 at hr
 refine S.gx [] ?_
 exact D1 (S.ss [0,1,5] [] []) hr
end Go.Proofs.YtnepigpnlnmlmaaGreatDoor

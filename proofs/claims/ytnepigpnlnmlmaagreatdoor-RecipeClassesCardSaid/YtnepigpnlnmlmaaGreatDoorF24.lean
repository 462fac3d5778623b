/- Contracts of functions, written by wip/dec. -/
import Derived.Test.YtnepigpnlnmlmaaGreatDoorF00
import Derived.Test.YtnepigpnlnmlmaaGreatDoorF02
import Derived.Test.YtnepigpnlnmlmaaGreatDoorF23
set_option linter.unusedVariables false
set_option linter.unusedSimpArgs false
set_option linter.constructorNameAsVariable false
set_option maxHeartbeats 4000000
set_option maxRecDepth 20000
namespace Go.Proofs.YtnepigpnlnmlmaaGreatDoor
open Go.Abs
def b11_1 (a0:L_IIIIIHLIE):Bd Int (Int×Int):=fun s1=>
 if (decide (s1<(a0.length:Int)))=true then
  if 0≤s1∧s1<(a0.length:Int) then
   bindC (r66 ((a0.getD s1.toNat default).1) ((a0.getD s1.toNat default).2.1) ((a0.getD s1.toNat default).2.2.1) ((a0.getD s1.toNat default).2.2.2.1) ((a0.getD s1.toNat default).2.2.2.2.1) ((a0.getD s1.toNat default).2.2.2.2.2.1) ((a0.getD s1.toNat default).2.2.2.2.2.2)) fun v4=>
    if (v4 != 0)=true then
     .out (some (s1,v4))
     else .next (IntKind.i64.wrap (s1+1))
   else .out none
  else .out ((r67 a0).bind fun v6=>
   (r65 (decide (v6≤60)) 8).bind fun v7=>
    if 0≤IntKind.i64.wrap ((a0.length:Int) - 1)∧IntKind.i64.wrap ((a0.length:Int) - 1)<(a0.length:Int) then
     (r68 ((a0.getD (IntKind.i64.wrap ((a0.length:Int) - 1)).toNat default).1)).bind fun v8=>
      (r65 v8 20).bind fun v9=>
       (r64 [v7,v9]).bind fun v10=>
        some (0,v10)
     else none)
def r11 (a0:L_IIIIIHLIE):Option (Int×Int):=
 (r65 (decide ((a0.length:Int)>0)) 10).bind fun v1=>
  (r65 (decide ((a0.length:Int)≤12)) 8).bind fun v2=>
   (r64 [v1,v2]).bind fun v3=>
    if (v3 != 0)=true then
     some (0,v3)
     else iterC (b11_1 a0) 1000000000 0
@[go_sem] def T11:=qT75 qu4 false r11
@[go_sem] def tb11 (k:Nat):=lk [(64,T64.sp),(65,T65.sp),(66,T66.sp),(67,T67.sp),(68,T68.sp)] k
theorem f11:FnFact Tryz.prog 11 T11.sp:=by
 refine vm (tb:=tb11) (.cons f64 (.cons f65 (.cons f66 (.cons f67 (.cons f68 .nil))))) Tryz.func11 Tryz.ntmps11 fun a0 r hr stop S=> ?_
 rw [uq1,r11] at hr
 refine S.gx [] ?_
 obtain ⟨v1,hv1,hr⟩:=of_bind0 hr
 obtain ⟨v2,hv2,hr⟩:=of_bind0 hr
 obtain ⟨v3,hv3,hr⟩:=of_bind0 hr
 refine gb hv1 ?_
 refine gb hv2 ?_
 refine gb hv3 ?_
 refine iW hr (fun hc hr=>D0 hr) fun hc hr=> ?_
 refine gr ?_
 refine S.li [0,21,22,23] [] [] (fun s1=>⟨[(0,.c (.d (encF 7 d_IIIIIHLIE a0))),(21,.c (.d (encF 7 d_IIIIIHLIE a0))),sI 22 (a0.length:Int),sI 23 s1],[],[]⟩) (b11_1 a0) (fun q=>q=r) hr rfl ?_
 intro s1 hr
 unfold b11_1 at hr
 refine S.gx [] ?_
 exact D1 (S.ss [0,21,22,23] [] []) hr
end Go.Proofs.YtnepigpnlnmlmaaGreatDoor

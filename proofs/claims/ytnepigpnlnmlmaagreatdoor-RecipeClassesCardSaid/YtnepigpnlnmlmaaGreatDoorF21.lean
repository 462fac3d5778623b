/- Contracts of functions, written by wip/dec. -/
import Derived.Test.YtnepigpnlnmlmaaGreatDoorF00
set_option linter.unusedVariables false
set_option linter.unusedSimpArgs false
set_option linter.constructorNameAsVariable false
set_option maxHeartbeats 4000000
set_option maxRecDepth 20000
namespace Go.Proofs.YtnepigpnlnmlmaaGreatDoor
open Go.Abs
def b16_1 (a0:L_IIIIIHLIE):Bd (Int×Int) Int:=fun s1=>
 if (decide (s1.2<(a0.length:Int)))=true then
  if 0≤s1.2∧s1.2<(a0.length:Int) then
   .next (IntKind.i64.wrap (s1.1*(((a0.getD s1.2.toNat default).2.2.2.2.2.2).length:Int)),IntKind.i64.wrap (s1.2+1))
   else .out none
  else .out (some s1.1)
def r16 (a0:L_IIIIIHLIE):Option (Int):=
 iterC (b16_1 a0) 1000000000 (1,0)
@[go_sem] def T16:=qT75 qu3 false r16
theorem f16:FnFact Tryz.prog 16 T16.sp:=by
 refine vm .nil Tryz.func16 Tryz.ntmps16 fun a0 r hr stop S=> ?_
 rw [uq1,r16] at hr
 refine S.gx [] ?_
 refine gr ?_
 refine S.li [0,3,4] [] [] (fun s1=>⟨[(0,.c (.d (encF 7 d_IIIIIHLIE a0))),sI 3 s1.1,sI 4 s1.2],[],[]⟩) (b16_1 a0) (fun q=>q=r) hr rfl ?_
 intro s1 hr
 unfold b16_1 at hr
 refine S.gx [] ?_
 exact D1 (S.ss [0,3,4] [] []) hr
end Go.Proofs.YtnepigpnlnmlmaaGreatDoor

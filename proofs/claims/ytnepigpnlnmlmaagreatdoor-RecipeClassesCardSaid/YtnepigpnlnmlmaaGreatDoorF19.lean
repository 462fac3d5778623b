/- Contracts of functions, written by wip/dec. -/
import Derived.Test.YtnepigpnlnmlmaaGreatDoorF00
set_option linter.unusedVariables false
set_option linter.unusedSimpArgs false
set_option linter.constructorNameAsVariable false
set_option maxHeartbeats 4000000
set_option maxRecDepth 20000
namespace Go.Proofs.YtnepigpnlnmlmaaGreatDoor
open Go.Abs
def r74 (x1 x2 x3 x6 x4:Int) (x5:Hl) (x0:L_I) (a1:Int):Option (Int×Int×Int×Int×Int×Hl):=
 if 0≤a1∧a1<(x0.length:Int) then
  some (x1,x2,x3,(x0.getD a1.toNat default),x4,x5)
  else none
@[go_sem] def T74:=qT77 qu41 true r74
theorem f74:FnFact Tryz.prog 74 T74.sp:=by
 refine vm .nil Tryz.func74 Tryz.ntmps74 fun ⟨x1,x2,x3,x6,x4,x5,x0,a1⟩ r hr stop S=> ?_
 rw [uq8,r74] at hr
 refine S.gx [] ?_
 exact D0 hr
end Go.Proofs.YtnepigpnlnmlmaaGreatDoor

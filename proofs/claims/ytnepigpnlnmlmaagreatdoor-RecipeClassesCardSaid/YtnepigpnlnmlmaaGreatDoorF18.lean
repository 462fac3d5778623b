/- Contracts of functions, written by wip/dec. -/
import Derived.Test.YtnepigpnlnmlmaaGreatDoorF00
import Derived.Test.YtnepigpnlnmlmaaGreatDoorF17
set_option linter.unusedVariables false
set_option linter.unusedSimpArgs false
set_option linter.constructorNameAsVariable false
set_option maxHeartbeats 4000000
set_option maxRecDepth 20000
namespace Go.Proofs.YtnepigpnlnmlmaaGreatDoor
open Go.Abs
def r20 (a0:L_IIIIIH):Option (Int):=
 (r76 a0).bind fun v1=>
  some v1.2
@[go_sem] def T20:=qT20 qu3 false r20
@[go_sem] def tb20 (k:Nat):=lk [(76,T76.sp)] k
theorem f20:FnFact Tryz.prog 20 T20.sp:=by
 refine vm (tb:=tb20) (.cons f76 .nil) Tryz.func20 Tryz.ntmps20 fun a0 r hr stop S=> ?_
 rw [uq1,r20] at hr
 refine S.gx [] ?_
 exact D0 hr
end Go.Proofs.YtnepigpnlnmlmaaGreatDoor

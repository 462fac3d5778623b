/- Contracts of functions, written by wip/dec. -/
import Derived.Test.YtnepigpnlnmlmaaGreatDoorF00
import Derived.Test.YtnepigpnlnmlmaaGreatDoorF23
import Derived.Test.YtnepigpnlnmlmaaGreatDoorF24
set_option linter.unusedVariables false
set_option linter.unusedSimpArgs false
set_option linter.constructorNameAsVariable false
set_option maxHeartbeats 4000000
set_option maxRecDepth 20000
namespace Go.Proofs.YtnepigpnlnmlmaaGreatDoor
open Go.Abs
def r13 (a0:L_IIIIIHLIE):Option (Int×Int):=
 (r11 a0).bind fun v1=>
  if (v1.2 != 0)=true then
   some (0,v1.2)
   else (r67 a0).bind fun v2=>
    some (v2,0)
@[go_sem] def T13:=qT75 qu4 false r13
@[go_sem] def tb13 (k:Nat):=lk [(11,T11.sp),(67,T67.sp)] k
theorem f13:FnFact Tryz.prog 13 T13.sp:=by
 refine vm (tb:=tb13) (.cons f11 (.cons f67 .nil)) Tryz.func13 Tryz.ntmps13 fun a0 r hr stop S=> ?_
 rw [uq1,r13] at hr
 refine S.gx [] ?_
 exact D0 hr
end Go.Proofs.YtnepigpnlnmlmaaGreatDoor

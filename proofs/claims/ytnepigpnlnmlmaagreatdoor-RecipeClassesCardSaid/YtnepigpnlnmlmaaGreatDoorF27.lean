/- Contracts of functions, written by wip/dec. -/
import Derived.Test.YtnepigpnlnmlmaaGreatDoorF00
import Derived.Test.YtnepigpnlnmlmaaGreatDoorF02
import Derived.Test.YtnepigpnlnmlmaaGreatDoorF25
import Derived.Test.YtnepigpnlnmlmaaGreatDoorF26
set_option linter.unusedVariables false
set_option linter.unusedSimpArgs false
set_option linter.constructorNameAsVariable false
set_option maxHeartbeats 4000000
set_option maxRecDepth 20000
namespace Go.Proofs.YtnepigpnlnmlmaaGreatDoor
open Go.Abs
def r14 (a0:L_IIIIIHLIE) (a1:Int):Option (L_IIIIIH×Int):=
 (r13 a0).bind fun v1=>
  (r71 a1 0 (IntKind.i64.wrap (v1.1 - 1))).bind fun v2=>
   (r65 v2 6).bind fun v3=>
    (r64 [v1.2,v3]).bind fun v4=>
     if (v4 != 0)=true then
      some ([],v4)
      else (r72 a0 a1).bind fun v5=>
       some (v5,0)
@[go_sem] def T14:=qT78 qu11 true r14
@[go_sem] def tb14 (k:Nat):=lk [(13,T13.sp),(64,T64.sp),(65,T65.sp),(71,T71.sp),(72,T72.sp)] k
theorem f14:FnFact Tryz.prog 14 T14.sp:=by
 refine vm (tb:=tb14) (.cons f13 (.cons f64 (.cons f65 (.cons f71 (.cons f72 .nil))))) Tryz.func14 Tryz.ntmps14 fun ⟨a0,a1⟩ r hr stop S=> ?_
 rw [uq2,r14] at hr
 refine S.gx [] ?_
 exact D0 hr
end Go.Proofs.YtnepigpnlnmlmaaGreatDoor

/- Contracts of functions, written by wip/dec. -/
import Derived.Test.YtofkgmldcjagmaaGreatDoorF00
import Derived.Test.YtofkgmldcjagmaaGreatDoorF21
set_option linter.unusedVariables false
set_option linter.unusedSimpArgs false
set_option linter.constructorNameAsVariable false
set_option maxHeartbeats 4000000
set_option maxRecDepth 20000
namespace Go.Proofs.YtofkgmldcjagmaaGreatDoor
open Go.dG
def r19 (a0 a1:Int):Option (Int):=
 (r52 (IntKind.i64.wrap (0 - a0)) a1).bind fun v1=>
  some (IntKind.i64.wrap (0 - v1))
@[go_sem] def T19:=qT7 lK false r19
@[go_sem] def ay1 (k:Nat):=lk [(52,T52.sp)] k
theorem f19:aF Tryz.prog 19 T19.sp:=by
 refine vm (tb:=ay1) (.cons f52 .nil) Tryz.func19 Tryz.ntmps19 fun ⟨a0,a1⟩ r hr stop S=> ?_
 rw [yK,r19] at hr
 refine S.gx [] ?_
 exact D0 hr
end Go.Proofs.YtofkgmldcjagmaaGreatDoor

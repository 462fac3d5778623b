/- Contracts of functions, written by wip/dec. -/
import Derived.Test.YtofkgmldcjagmaaGreatDoorF00
import Derived.Test.YtofkgmldcjagmaaGreatDoorF12
set_option linter.unusedVariables false
set_option linter.unusedSimpArgs false
set_option linter.constructorNameAsVariable false
set_option maxHeartbeats 4000000
set_option maxRecDepth 20000
namespace Go.Proofs.YtofkgmldcjagmaaGreatDoor
open Go.dJ
def r11 (x0 x1:Int) (x2:au) (x3:aj) (x4 x5:aZ) (x6:au) (x7 x8:Int):Option (Int):=
 (r22 x0 x1 x2 x3 x4 x5 x6 x7 x8).bind fun v1=>
  some v1.2
@[go_sem] def T11:=Ky lF false r11
@[go_sem] def aEX (k:Nat):=lk [(22,T22.sp)] k
end Go.Proofs.YtofkgmldcjagmaaGreatDoor

/- Ticks of the nominal part; the stop of a recipe. -/
import Derived.Test.YtkbdjphdhcgmaaaGreatDoorStopA
set_option linter.unusedVariables false
set_option linter.unusedSimpArgs false
namespace Go.Proofs.YtkbdjphdhcgmaaaGreatDoor
open Go.Abs
section
variable {a b:Int} {T:TL} {L:List TL} {lo hi:List Int} {W:TL} {air spread:Int}
end
end Go.Proofs.YtkbdjphdhcgmaaaGreatDoor

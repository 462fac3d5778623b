/- The code's step of a state, and the reference's, are the plain step. -/
import Derived.Test.YtkbdjphdhcgmaaaGreatDoorHeatK
set_option linter.unusedVariables false
set_option linter.unusedSimpArgs false
namespace Go.Proofs.YtkbdjphdhcgmaaaGreatDoor
open Go.Abs
def inS (T:List (Int×Int)) (l:List Int):Prop:=∀ x∈l,inT T x=true
end Go.Proofs.YtkbdjphdhcgmaaaGreatDoor

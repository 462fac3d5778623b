/- The code's step of a state, and the reference's, are the plain step: the whole functions. -/
import Derived.Test.YtkbdjphdhcgmaaaGreatDoorHeatX
set_option linter.unusedVariables false
set_option linter.unusedSimpArgs false
namespace Go.Proofs.YtkbdjphdhcgmaaaGreatDoor
open Go.Abs
structure StepOk (T:List (Int×Int)) (L:List (List (Int×Int))) (l p:List Int) (law:Int):Prop where
 ins:inS T l
 len:p.length=l.length
 pos:0<l.length∧l.length<1000
 pow:∀ x∈p,0≤x∧x≤10000
 law:0≤law∧law<L.length
end Go.Proofs.YtkbdjphdhcgmaaaGreatDoor

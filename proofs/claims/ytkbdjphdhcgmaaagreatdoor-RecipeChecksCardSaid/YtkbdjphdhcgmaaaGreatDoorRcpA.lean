/- Benches and ticks: their errors, by the code and by the reference. -/
import Derived.Test.YtkbdjphdhcgmaaaGreatDoorStopA
set_option linter.unusedVariables false
set_option linter.unusedSimpArgs false
namespace Go.Proofs.YtkbdjphdhcgmaaaGreatDoor
open Go.Abs
end Go.Proofs.YtkbdjphdhcgmaaaGreatDoor

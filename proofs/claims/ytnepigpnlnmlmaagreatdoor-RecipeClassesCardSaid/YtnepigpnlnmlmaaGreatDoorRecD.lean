/- Recipes: compiled by the code. -/
import Derived.Test.YtnepigpnlnmlmaaGreatDoorRecC
import Derived.Test.YtnepigpnlnmlmaaGreatDoorClB
set_option linter.unusedVariables false
set_option linter.unusedSimpArgs false
namespace Go.Proofs.YtnepigpnlnmlmaaGreatDoor
open Go.Abs
structure PhOk (x:Ph):Prop where
 kind:0≤x.1∧x.1≤4
 own:ownE x.1 x.2.1 x.2.2.1 x.2.2.2.1 x.2.2.2.2.1 (hN x.2.2.2.2.2 == 0)=0
theorem ph_ok {d:Int} {x:Ph} (h:phE d x=0) (h5:x.1≠5):PhOk x:=by
 rw [ph_ne5 h5] at h
 have:=inR_iff'.1 (own_ok h).1
 exact ⟨by omega,h⟩
section
end
end Go.Proofs.YtnepigpnlnmlmaaGreatDoor

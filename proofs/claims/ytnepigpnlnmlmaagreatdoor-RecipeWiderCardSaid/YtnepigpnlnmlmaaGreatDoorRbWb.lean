/- RecipeWider: for all arguments the law returns true, and its arguments read afterwards as they did. No condition. -/
import Derived.Test.YtnepigpnlnmlmaaGreatDoorRbWa
import Derived.Test.YtnepigpnlnmlmaaGreatDoorAbsDoors
import Derived.Test.YtnepigpnlnmlmaaGreatDoorRows
import Derived.Test.YtnepigpnlnmlmaaGreatDoorCards
import Derived.Test.YtnepigpnlnmlmaaGreatDoorTie
import Derived.ProofKit
import Derived.LaidMore
import Derived.Stop.Joined
import Derived.SevenTiedAt
set_option linter.unusedVariables false
set_option linter.unusedSimpArgs false
namespace Go.Proofs.YtnepigpnlnmlmaaGreatDoor
open Go.dR Go.ChangeShapes Go.WideShapes Go.ChangeAt Go.RowKit
set_option maxHeartbeats 20000000 in
theorem al7:joinedFacts Tryz.checked.prog 6 Tryz.f6 Rows.recipeWiderSpec Rows.recipeWiderRow=true:=by
 unfold joinedFacts
 simp only [Bool.and_eq_true]
 repeat' apply And.intro
 all_goals (as_aux_lemma=>kernel_rfl)
set_option maxHeartbeats 20000000 in
theorem zQ:Rows.RecipeWiderSaid:=
 OpenClaim.holds_of_wide 6 Tryz.f6 rfl rfl rfl rfl rfl rfl rfl ⟨rfl,rfl,rfl,rfl,rfl⟩ rfl rfl rfl rfl rfl (by as_aux_lemma=>kernel_rfl) Tryz.func6 al7
  (of_decide_eq_true (by as_aux_lemma=>kernel_rfl)) (by as_aux_lemma=>unfold Func.isWrapper; first | (rw [if_pos (by decide +kernel)]; kernel_rfl) | (rw [if_neg (by decide +kernel)]; exact ⟨rfl,rfl⟩))
  (λos started H enc _=>lifted6 os started H enc)
end Go.Proofs.YtnepigpnlnmlmaaGreatDoor

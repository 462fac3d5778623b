/- RecipeFlattened: for all arguments the law returns true, and its arguments read afterwards as they did. No condition. -/
import Derived.Test.YtkbdjphdhcgmaaaGreatDoorRecTa
import Derived.Test.YtkbdjphdhcgmaaaGreatDoorAbsDoors
import Derived.Test.YtkbdjphdhcgmaaaGreatDoorRows
import Derived.Test.YtkbdjphdhcgmaaaGreatDoorCards
import Derived.Test.YtkbdjphdhcgmaaaGreatDoorTie
import Derived.ProofKit
import Derived.LaidMore
import Derived.Stop.Joined
import Derived.SevenTiedAt
set_option linter.unusedVariables false
set_option linter.unusedSimpArgs false
namespace Go.Proofs.YtkbdjphdhcgmaaaGreatDoor
open Go.dR Go.ChangeShapes Go.WideShapes Go.ChangeAt Go.RowKit
set_option maxHeartbeats 20000000 in
theorem aen:joinedFacts Tryz.checked.prog 5 Tryz.f5 Rows.recipeFlattenedSpec Rows.recipeFlattenedRow=true:=by
 unfold joinedFacts
 simp only [Bool.and_eq_true]
 repeat' apply And.intro
 all_goals (as_aux_lemma=>kernel_rfl)
set_option maxHeartbeats 20000000 in
theorem recipeFlattened_holds:Rows.RecipeFlattenedSaid:=
 OpenClaim.holds_of_wide 5 Tryz.f5 rfl rfl rfl rfl rfl rfl rfl ⟨rfl,rfl,rfl,rfl,rfl⟩ rfl rfl rfl rfl rfl (by as_aux_lemma=>kernel_rfl) Tryz.func5 aen
  (of_decide_eq_true (by as_aux_lemma=>kernel_rfl)) (by as_aux_lemma=>unfold Func.isWrapper; first | (rw [if_pos (by decide +kernel)]; kernel_rfl) | (rw [if_neg (by decide +kernel)]; exact ⟨rfl,rfl⟩))
  (fun os started H enc _=>lifted5 os started H enc)
end Go.Proofs.YtkbdjphdhcgmaaaGreatDoor

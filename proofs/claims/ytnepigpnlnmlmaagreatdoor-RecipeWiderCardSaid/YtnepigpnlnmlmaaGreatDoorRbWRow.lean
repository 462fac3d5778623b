/- RecipeWider: for all arguments the law returns true, and its arguments read afterwards as they did. No condition. -/
import Derived.Test.YtnepigpnlnmlmaaGreatDoorRbWb
import Derived.Test.YtnepigpnlnmlmaaGreatDoorAbsDoors
import Derived.Test.YtnepigpnlnmlmaaGreatDoorRows
import Derived.Test.YtnepigpnlnmlmaaGreatDoorCards
import Derived.Test.YtnepigpnlnmlmaaGreatDoorTie
import Derived.ProofKit
import Derived.LaidMore
import Derived.Stop.Joined
import Derived.SevenTiedAt
set_option linter.unusedVariables false
set_option linter.unusedSimpArgs false
namespace Go.Proofs.YtnepigpnlnmlmaaGreatDoor
open Go.dR Go.ChangeShapes Go.WideShapes Go.ChangeAt Go.RowKit
theorem recipeWider_card:Rows.RecipeWiderCardSaid:=
 Claim7.holds_tied_plain_at .later [] [.data,.data,.data,.sentinel,.sentinel,.data,.data] true (true,"4540603091b95af330848ad08670bfd1f442692e9a063eb08fe6b096c141c366") true
  zQ (λ_ h=>by cases h) (by as_aux_lemma=>kernel_rfl) (λ_ h=>by cases h) recipeWider_row_tie rfl ⟨rfl,rfl⟩ (by as_aux_lemma=>kernel_rfl) rfl
  (λf fn hf hfn=>by
   obtain rfl:f=6:=Option.some.inj ((show Tryz.prog.funcNamed "martensite/martensitelaw05.RecipeWider" =some 6 by as_aux_lemma=>kernel_rfl).symm.trans hf) |>.symm
   obtain rfl:fn=Tryz.f6:=(Option.some.inj (Tryz.func6.symm.trans hfn)).symm
   refine ⟨by as_aux_lemma=>kernel_rfl,λj t ht=> ?_⟩
   rw [Tryz.params6] at ht
   have hall:([59,60,3].all λt=> !(Tryz.prog.wantsStandIn t))=true:=by as_aux_lemma=>kernel_rfl
   have hm:t∈[59,60,3]:=by have h3:=Array.mem_of_getElem? ht; simpa using h3
   have h5:Tryz.prog.wantsStandIn t=false:=by simpa using List.all_eq_true.1 hall t hm
   exact h5)
  (by as_aux_lemma=>kernel_rfl)
#print axioms recipeWider_card
end Go.Proofs.YtnepigpnlnmlmaaGreatDoor

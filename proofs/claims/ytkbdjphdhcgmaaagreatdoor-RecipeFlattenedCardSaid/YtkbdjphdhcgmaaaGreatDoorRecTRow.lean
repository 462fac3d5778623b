/- RecipeFlattened: for all arguments the law returns true, and its arguments read afterwards as they did. No condition. -/
import Derived.Test.YtkbdjphdhcgmaaaGreatDoorRecTb
import Derived.Test.YtkbdjphdhcgmaaaGreatDoorAbsDoors
import Derived.Test.YtkbdjphdhcgmaaaGreatDoorRows
import Derived.Test.YtkbdjphdhcgmaaaGreatDoorCards
import Derived.Test.YtkbdjphdhcgmaaaGreatDoorTie
import Derived.ProofKit
import Derived.LaidMore
import Derived.Stop.Joined
import Derived.SevenTiedAt
set_option linter.unusedVariables false
set_option linter.unusedSimpArgs false
namespace Go.Proofs.YtkbdjphdhcgmaaaGreatDoor
open Go.dR Go.ChangeShapes Go.WideShapes Go.ChangeAt Go.RowKit
theorem recipeFlattened_card:Rows.RecipeFlattenedCardSaid:=
 Claim7.holds_tied_plain_at .later [] [.data,.data,.data,.sentinel,.sentinel,.data,.data] true (true,"4fd7546f0b5766fb072718fdae3641d18e4838db01d9c12666a51e7218f41843") true
  recipeFlattened_holds (fun _ h=>by cases h) (by kernel_rfl) (fun _ h=>by cases h) recipeFlattened_row_tie rfl ⟨rfl,rfl⟩ (by kernel_rfl) rfl
  (fun f fn hf hfn=>by
   obtain rfl:f=5:=Option.some.inj ((show Tryz.prog.funcNamed "martensite/martensitelaw05.RecipeFlattened" =some 5 by kernel_rfl).symm.trans hf) |>.symm
   obtain rfl:fn=Tryz.f5:=(Option.some.inj (Tryz.func5.symm.trans hfn)).symm
   refine ⟨by kernel_rfl,fun j t ht=> ?_⟩
   rw [Tryz.params5] at ht
   have hall:([43,22].all fun t=> !(Tryz.prog.wantsStandIn t))=true:=by kernel_rfl
   have hm:t∈[43,22]:=by have h3:=Array.mem_of_getElem? ht; simpa using h3
   have h5:Tryz.prog.wantsStandIn t=false:=by simpa using List.all_eq_true.1 hall t hm
   exact h5)
  (by kernel_rfl)
#print axioms recipeFlattened_card
end Go.Proofs.YtkbdjphdhcgmaaaGreatDoor

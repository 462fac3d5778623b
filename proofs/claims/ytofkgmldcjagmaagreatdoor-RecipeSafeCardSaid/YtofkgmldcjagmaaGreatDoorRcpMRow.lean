/- RecipeSafe: for all arguments the law returns true, and its arguments read afterwards as they did. No condition. -/
import Derived.Test.YtofkgmldcjagmaaGreatDoorRcpMb
import Derived.Test.YtofkgmldcjagmaaGreatDoorAbsDoors
import Derived.Test.YtofkgmldcjagmaaGreatDoorRows
import Derived.Test.YtofkgmldcjagmaaGreatDoorCards
import Derived.Test.YtofkgmldcjagmaaGreatDoorTie
import Derived.ProofKit
import Derived.LaidMore
import Derived.Stop.Joined
import Derived.SevenTiedAt
set_option linter.unusedVariables false
set_option linter.unusedSimpArgs false
namespace Go.Proofs.YtofkgmldcjagmaaGreatDoor
open Go.dG Go.ChangeShapes Go.WideShapes Go.ChangeAt Go.RowKit
theorem recipeSafe_card:Rows.RecipeSafeCardSaid:=
 Claim7.holds_tied_plain_at .later [] [.data,.data,.data,.sentinel,.sentinel,.data,.data] true (true,"27e4feecbab50c92ae54d46173d1c906b0ad53addd4d5f0f354e47b3788f9cb8") true
  recipeSafe_holds (fun _ h=>by cases h) (by kernel_rfl) (fun _ h=>by cases h) recipeSafe_row_tie rfl ⟨rfl,rfl⟩ (by kernel_rfl) rfl
  (fun f fn hf hfn=>by
   obtain rfl:f=4:=Option.some.inj ((show Tryz.prog.funcNamed "martensite/martensitelaw05.RecipeSafe" =some 4 by kernel_rfl).symm.trans hf) |>.symm
   obtain rfl:fn=Tryz.f4:=(Option.some.inj (Tryz.func4.symm.trans hfn)).symm
   refine ⟨by kernel_rfl,fun j t ht=> ?_⟩
   rw [Tryz.params4] at ht
   have hall:([31,32,34].all fun t=> !(Tryz.prog.wantsStandIn t))=true:=by kernel_rfl
   have hm:t∈[31,32,34]:=by have h3:=Array.mem_of_getElem? ht; simpa using h3
   have h5:Tryz.prog.wantsStandIn t=false:=by simpa using List.all_eq_true.1 hall t hm
   exact h5)
  (by kernel_rfl)
#print axioms recipeSafe_card
end Go.Proofs.YtofkgmldcjagmaaGreatDoor

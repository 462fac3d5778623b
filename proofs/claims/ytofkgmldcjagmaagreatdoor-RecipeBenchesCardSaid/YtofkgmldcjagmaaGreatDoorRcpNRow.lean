/- RecipeBenches: for all arguments the law returns true, and its arguments read afterwards as they did. No condition. -/
import Derived.Test.YtofkgmldcjagmaaGreatDoorRcpNb
import Derived.Test.YtofkgmldcjagmaaGreatDoorAbsDoors
import Derived.Test.YtofkgmldcjagmaaGreatDoorRows
import Derived.Test.YtofkgmldcjagmaaGreatDoorCards
import Derived.Test.YtofkgmldcjagmaaGreatDoorTie
import Derived.ProofKit
import Derived.LaidMore
import Derived.Stop.Joined
import Derived.SevenTiedAt
set_option linter.unusedVariables false
set_option linter.unusedSimpArgs false
namespace Go.Proofs.YtofkgmldcjagmaaGreatDoor
open Go.dJ Go.ChangeShapes Go.WideShapes Go.ChangeAt Go.RowKit
theorem recipeBenches_card:Rows.RecipeBenchesCardSaid:=
 Claim7.holds_tied_plain_at .later [] [.data,.data,.data,.sentinel,.sentinel,.data,.data] true (true,"27e4feecbab50c92ae54d46173d1c906b0ad53addd4d5f0f354e47b3788f9cb8") true
  recipeBenches_holds (fun _ h=>by cases h) (by kernel_rfl) (fun _ h=>by cases h) recipeBenches_row_tie rfl ⟨rfl,rfl⟩ (by kernel_rfl) rfl
  (fun f fn hf hfn=>by
   obtain rfl:f=5:=Option.some.inj ((show Tryz.prog.funcNamed "martensite/martensitelaw05.RecipeBenches" =some 5 by kernel_rfl).symm.trans hf) |>.symm
   obtain rfl:fn=Tryz.f5:=(Option.some.inj (Tryz.func5.symm.trans hfn)).symm
   refine ⟨by kernel_rfl,fun j t ht=> ?_⟩
   rw [Tryz.params5] at ht
   have hall:([31,32].all fun t=> !(Tryz.prog.wantsStandIn t))=true:=by kernel_rfl
   have hm:t∈[31,32]:=by have h3:=Array.mem_of_getElem? ht; simpa using h3
   have h5:Tryz.prog.wantsStandIn t=false:=by simpa using List.all_eq_true.1 hall t hm
   exact h5)
  (by kernel_rfl)
#print axioms recipeBenches_card
end Go.Proofs.YtofkgmldcjagmaaGreatDoor

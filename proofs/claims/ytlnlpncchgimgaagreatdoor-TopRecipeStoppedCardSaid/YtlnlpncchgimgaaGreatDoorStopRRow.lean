/- TopRecipeStopped: for all arguments the law returns true, and its arguments read afterwards as they did. No condition. -/
import Derived.Test.YtlnlpncchgimgaaGreatDoorStopRb
import Derived.Test.YtlnlpncchgimgaaGreatDoorAbsDoors
import Derived.Test.YtlnlpncchgimgaaGreatDoorRows
import Derived.Test.YtlnlpncchgimgaaGreatDoorCards
import Derived.Test.YtlnlpncchgimgaaGreatDoorTie
import Derived.ProofKit
import Derived.LaidMore
import Derived.Stop.Joined
import Derived.SevenTiedAt
set_option linter.unusedVariables false
set_option linter.unusedSimpArgs false
namespace Go.Proofs.YtlnlpncchgimgaaGreatDoor
open Go.Abs Go.ChangeShapes Go.WideShapes Go.ChangeAt Go.RowKit
theorem topRecipeStopped_card:Rows.TopRecipeStoppedCardSaid:=
 Claim7.holds_tied_plain_at .later [] [.data,.data,.data,.data,.sentinel,.sentinel,.data,.pinned] true (true,"639bfa2e24c5a9702b6f640871024da94e53196e3ef3f0ec33b330cdd025d4ef") true
  topRecipeStopped_holds (fun _ h=>by cases h) (by kernel_rfl) (fun _ h=>by cases h) topRecipeStopped_row_tie rfl ⟨rfl,rfl⟩ (by kernel_rfl) rfl
  (fun f fn hf hfn=>by
   obtain rfl:f=3:=Option.some.inj ((show Tryz.prog.funcNamed "martensite/martensitetop.TopRecipeStopped" =some 3 by kernel_rfl).symm.trans hf) |>.symm
   obtain rfl:fn=Tryz.f3:=(Option.some.inj (Tryz.func3.symm.trans hfn)).symm
   refine ⟨by kernel_rfl,fun j t ht=> ?_⟩
   rw [Tryz.params3] at ht
   have hall:([31,32,3].all fun t=> !(Tryz.prog.wantsStandIn t))=true:=by kernel_rfl
   have hm:t∈[31,32,3]:=by have h3:=Array.mem_of_getElem? ht; simpa using h3
   have h5:Tryz.prog.wantsStandIn t=false:=by simpa using List.all_eq_true.1 hall t hm
   exact h5)
  (by kernel_rfl)
#print axioms topRecipeStopped_card
end Go.Proofs.YtlnlpncchgimgaaGreatDoor

/- TopFieldHeats: for all arguments the law returns true, and its arguments read afterwards as they did. No condition. -/
import Derived.Test.YthldpejmofhaoaaGreatDoorTopFRb
import Derived.Test.YthldpejmofhaoaaGreatDoorAbsDoors
import Derived.Test.YthldpejmofhaoaaGreatDoorRows
import Derived.Test.YthldpejmofhaoaaGreatDoorCards
import Derived.Test.YthldpejmofhaoaaGreatDoorTie
import Derived.ProofKit
import Derived.LaidMore
import Derived.Stop.Joined
import Derived.SevenTiedAt
set_option linter.unusedVariables false
set_option linter.unusedSimpArgs false
namespace Go.Proofs.YthldpejmofhaoaaGreatDoor
open Go.Abs Go.ChangeShapes Go.WideShapes Go.ChangeAt Go.RowKit
theorem topFieldHeats_card:Rows.TopFieldHeatsCardSaid:=
 Claim7.holds_tied_plain_at .later [] [.data,.data,.data,.data,.sentinel,.sentinel,.pinned] true (true,"25752754b0c7577547a52e9cde7bed4ca0f2909f70a269e86da11146649f5029") true
  topFieldHeats_holds (fun _ h=>by cases h) (by kernel_rfl) (fun _ h=>by cases h) topFieldHeats_row_tie rfl ⟨rfl,rfl⟩ (by kernel_rfl) rfl
  (fun f fn hf hfn=>by
   obtain rfl:f=4:=Option.some.inj ((show Tryz.prog.funcNamed "martensite/martensitetop.TopFieldHeats" =some 4 by kernel_rfl).symm.trans hf) |>.symm
   obtain rfl:fn=Tryz.f4:=(Option.some.inj (Tryz.func4.symm.trans hfn)).symm
   refine ⟨by kernel_rfl,fun j t ht=> ?_⟩
   rw [Tryz.params4] at ht
   have hall:([25,67,69].all fun t=> !(Tryz.prog.wantsStandIn t))=true:=by kernel_rfl
   have hm:t∈[25,67,69]:=by have h3:=Array.mem_of_getElem? ht; simpa using h3
   have h5:Tryz.prog.wantsStandIn t=false:=by simpa using List.all_eq_true.1 hall t hm
   exact h5)
  (by kernel_rfl)
#print axioms topFieldHeats_card
end Go.Proofs.YthldpejmofhaoaaGreatDoor

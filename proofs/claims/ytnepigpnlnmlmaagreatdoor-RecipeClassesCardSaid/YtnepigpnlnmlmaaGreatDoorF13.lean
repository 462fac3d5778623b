/- Contracts of functions, written by wip/dec. -/
import Derived.Test.YtnepigpnlnmlmaaGreatDoorF00
import Derived.Test.YtnepigpnlnmlmaaGreatDoorF12
set_option linter.unusedVariables false
set_option linter.unusedSimpArgs false
set_option linter.constructorNameAsVariable false
set_option maxHeartbeats 4000000
set_option maxRecDepth 20000
namespace Go.Proofs.YtnepigpnlnmlmaaGreatDoor
open Go.Abs
def b10_1 (a0:L_IIIIIHLIE):Bd Int Bool:=fun s1=>
 if (decide (s1<(a0.length:Int)))=true then
  if 0≤s1∧s1<(a0.length:Int) then
   if (!(decide ((((a0.getD s1.toNat default).2.2.2.2.2.2).length:Int)>62)))=true→0≤s1∧s1<(a0.length:Int) then
    if (!(decide ((((a0.getD s1.toNat default).2.2.2.2.2.2).length:Int)>62)))=true→(r63 (hU ((a0.getD s1.toNat default).2.2.2.2.2.1))).isSome=true then
     if ((decide ((((a0.getD s1.toNat default).2.2.2.2.2.2).length:Int)>62)) || (!((r63 (hU ((a0.getD s1.toNat default).2.2.2.2.2.1))).getD default)))=true then
      .out (some false)
      else .next (IntKind.i64.wrap (s1+1))
     else .out none
    else .out none
   else .out none
  else .out (some true)
def r10 (a0:L_IIIIIHLIE):Option (Bool):=
 if (decide ((a0.length:Int)>14))=true then
  some false
  else iterC (b10_1 a0) 1000000000 0
@[go_sem] def T10:=qT75 qu2 false r10
@[go_sem] def tb10 (k:Nat):=lk [(63,T63.sp)] k
theorem f10:FnFact Tryz.prog 10 T10.sp:=by
 refine vm (tb:=tb10) (.cons f63 .nil) Tryz.func10 Tryz.ntmps10 fun a0 r hr stop S=> ?_
 rw [uq1,r10] at hr
 refine S.gx [] ?_
 refine gr ?_
 refine iW hr (fun hc hr=>D0 hr) fun hc hr=> ?_
 refine gr ?_
 refine S.li [0,3] [] [] (fun s1=>⟨[(0,.c (.d (encF 7 d_IIIIIHLIE a0))),sI 3 s1],[],[]⟩) (b10_1 a0) (fun q=>q=r) hr rfl ?_
 intro s1 hr
 unfold b10_1 at hr
 refine S.gw [] ?_
 refine iW1 hr (fun hc hr=> ?_) fun hc hr=>D0 hr
 obtain ⟨hg1,hr⟩:=of_guard1 hr
 obtain ⟨hg2,hr⟩:=of_guard1 hr
 obtain ⟨hg3,hr⟩:=of_guard1 hr
 repeat (first | refine gG hg2 ?_ | refine gG hg3 ?_ | refine gA ?_ | refine gB ?_)
 exact D1 (S.ss [0,3] [] []) hr
end Go.Proofs.YtnepigpnlnmlmaaGreatDoor

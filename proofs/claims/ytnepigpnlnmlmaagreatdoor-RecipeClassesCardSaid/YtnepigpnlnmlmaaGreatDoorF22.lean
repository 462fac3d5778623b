/- Contracts of functions, written by wip/dec. -/
import Derived.Test.YtnepigpnlnmlmaaGreatDoorF00
import Derived.Test.YtnepigpnlnmlmaaGreatDoorF19
set_option linter.unusedVariables false
set_option linter.unusedSimpArgs false
set_option linter.constructorNameAsVariable false
set_option maxHeartbeats 4000000
set_option maxRecDepth 20000
namespace Go.Proofs.YtnepigpnlnmlmaaGreatDoor
open Go.Abs
def b19_1 (a0:L_IIIIIHLIE):Bd (Int×Int×(List (Int×Int×Int×Int×Int×Hl))) L_IIIIIH:=fun s1=>
 if (decide (s1.2.1≥0))=true then
  if 0≤s1.2.1∧s1.2.1<(a0.length:Int) then
   if 0≤s1.2.1∧s1.2.1<(a0.length:Int) then
    if (((a0.getD s1.2.1.toNat default).2.2.2.2.2.2).length:Int)≠0 then
     bindC (r74 ((a0.getD s1.2.1.toNat default).1) ((a0.getD s1.2.1.toNat default).2.1) ((a0.getD s1.2.1.toNat default).2.2.1) ((a0.getD s1.2.1.toNat default).2.2.2.1) ((a0.getD s1.2.1.toNat default).2.2.2.2.1) ((a0.getD s1.2.1.toNat default).2.2.2.2.2.1) ((a0.getD s1.2.1.toNat default).2.2.2.2.2.2) (s1.1.tmod (((a0.getD s1.2.1.toNat default).2.2.2.2.2.2).length:Int))) fun v1=>
      if 0≤s1.2.1∧s1.2.1<(s1.2.2.length:Int) then
       if 0≤s1.2.1∧s1.2.1<(a0.length:Int) then
        if (((a0.getD s1.2.1.toNat default).2.2.2.2.2.2).length:Int)≠0 then
         .next (IntKind.i64.wrap (s1.1.tdiv (((a0.getD s1.2.1.toNat default).2.2.2.2.2.2).length:Int)),IntKind.i64.wrap (s1.2.1 - 1),s1.2.2.set s1.2.1.toNat (v1.1,v1.2.1,v1.2.2.1,v1.2.2.2.1,v1.2.2.2.2.1,v1.2.2.2.2.2))
         else .out none
        else .out none
       else .out none
     else .out none
    else .out none
   else .out none
  else .out (some s1.2.2)
def r19 (a0:L_IIIIIHLIE) (a1:Int):Option (L_IIIIIH):=
 if 0≤(a0.length:Int)∧(a0.length:Int)≤(a0.length:Int)∧(a0.length:Int)≤9223372036854775807∧64*(a0.length:Int)≤281474976710656 then
  iterC (b19_1 a0) 1000000000 (a1,IntKind.i64.wrap ((a0.length:Int) - 1),List.replicate a0.length (0,0,0,0,0,Hl.nil))
  else none
@[go_sem] def T19:=qT78 qu1 true r19
@[go_sem] def tb19 (k:Nat):=lk [(74,T74.sp)] k
theorem f19:FnFact Tryz.prog 19 T19.sp:=by
 refine vm (tb:=tb19) (.cons f74 .nil) Tryz.func19 Tryz.ntmps19 fun ⟨a0,a1⟩ r hr stop S=> ?_
 rw [uq2,r19] at hr
 refine S.gx [] ?_
 obtain ⟨hg8,hr⟩:=of_guard0 hr
 refine gr ?_
 refine S.li [0,1,5,6] [] [(9,9)] (fun s1=>⟨[(0,.c (.d (encF 7 d_IIIIIHLIE a0))),sI 1 s1.1,sO 5 9,sI 6 s1.2.1],[],[(9,.owned (encF 6 d_IIIIIH s1.2.2))]⟩) (b19_1 a0) (fun q=>q=r) hr rfl ?_
 intro s1 hr
 unfold b19_1 at hr
 refine S.gx [] ?_
 exact D1 (S.ss [0,1,5,6] [] [(9,9)]) hr
end Go.Proofs.YtnepigpnlnmlmaaGreatDoor

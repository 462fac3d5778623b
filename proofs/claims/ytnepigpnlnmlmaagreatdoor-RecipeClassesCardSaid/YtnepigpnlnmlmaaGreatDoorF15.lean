/- Contracts of functions, written by wip/dec. -/
import Derived.Test.YtnepigpnlnmlmaaGreatDoorF00
import Derived.Test.YtnepigpnlnmlmaaGreatDoorF14
set_option linter.unusedVariables false
set_option linter.unusedSimpArgs false
set_option linter.constructorNameAsVariable false
set_option maxHeartbeats 4000000
set_option maxRecDepth 20000
namespace Go.Proofs.YtnepigpnlnmlmaaGreatDoor
open Go.Abs
section
variable {β:Type} [Inhabited β] (u:β→List RV) (al:Bool)
def qu39 (v:L_IIIIIHLIE):List RV:=[.c (.own (encF 7 d_IIIIIHLIE v))]
attribute [go_sem] qu39
end
def b12_1 (a0:L_IIIIIHLIE):Bd ((List (Int×Int×Int×Int×Int×Hl×L_I))×Int) L_IIIIIHLIE:=fun s1=>
 if (decide (s1.2<(a0.length:Int)))=true then
  if 0≤s1.2∧s1.2<(a0.length:Int) then
   bindC (r69 7 (hU ((a0.getD s1.2.toNat default).2.2.2.2.2.1))) fun v1=>
    if 0≤s1.2∧s1.2<(a0.length:Int) then
     bindC (r70 ((a0.getD s1.2.toNat default).2.2.2.2.2.2)) fun v2=>
      if (s1.1.length+1)*88≤140737488355328∧s1.1.length+1≤9223372036854775807 then
       .next (s1.1++[((a0.getD s1.2.toNat default).1,(a0.getD s1.2.toNat default).2.1,(a0.getD s1.2.toNat default).2.2.1,(a0.getD s1.2.toNat default).2.2.2.1,(a0.getD s1.2.toNat default).2.2.2.2.1,hM v1,v2)],IntKind.i64.wrap (s1.2+1))
       else .out none
     else .out none
   else .out none
  else .out (some s1.1)
def r12 (a0:L_IIIIIHLIE):Option (L_IIIIIHLIE):=
 iterC (b12_1 a0) 1000000000 ([],0)
@[go_sem] def T12:=qT75 qu39 true r12
@[go_sem] def tb12 (k:Nat):=lk [(69,(T69 7).sp),(70,T70.sp)] k
theorem f12:FnFact Tryz.prog 12 T12.sp:=by
 refine vm (tb:=tb12) (.cons (f69 7) (.cons f70 .nil)) Tryz.func12 Tryz.ntmps12 fun a0 r hr stop S=> ?_
 rw [uq1,r12] at hr
 refine S.gx [] ?_
 refine gr ?_
 refine S.own0 3 1000300 7 rfl rfl ?_
 refine S.li [0,3,4] [] [(1000300,1000300)] (fun s1=>⟨[(0,.c (.d (encF 7 d_IIIIIHLIE a0))),sO 3 1000300,sI 4 s1.2],[],[(1000300,.owned (encF 7 d_IIIIIHLIE s1.1))]⟩) (b12_1 a0) (fun q=>q=r) hr rfl ?_
 intro s1 hr
 unfold b12_1 at hr
 refine S.gx [] ?_
 exact D1 (S.ss [0,3,4] [] [(31,1000300)]) hr
end Go.Proofs.YtnepigpnlnmlmaaGreatDoor

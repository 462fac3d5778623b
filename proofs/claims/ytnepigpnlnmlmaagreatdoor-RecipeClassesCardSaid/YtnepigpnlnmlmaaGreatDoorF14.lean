/- Contracts of functions, written by wip/dec. -/
import Derived.Test.YtnepigpnlnmlmaaGreatDoorF00
set_option linter.unusedVariables false
set_option linter.unusedSimpArgs false
set_option linter.constructorNameAsVariable false
set_option maxHeartbeats 4000000
set_option maxRecDepth 20000
namespace Go.Proofs.YtnepigpnlnmlmaaGreatDoor
open Go.Abs
section
variable {β:Type} [Inhabited β] (u:β→List RV) (al:Bool)
def qu38 (v:L_I):List RV:=[.c (.own (encF 1 d_I v))]
attribute [go_sem] qu38
end
def b69_1 (R69:L_IIIIIH→Option (L_IIIIIH)) (a0:L_IIIIIH):Bd ((List (Int×Int×Int×Int×Int×Hl))×Int) L_IIIIIH:=fun s1=>
 if (decide (s1.2<(a0.length:Int)))=true then
  if 0≤s1.2∧s1.2<(a0.length:Int) then
   if 0≤s1.2∧s1.2<(a0.length:Int) then
    bindC (R69 (hU ((a0.getD s1.2.toNat default).2.2.2.2.2))) fun v1=>
     if (s1.1.length+1)*64≤140737488355328∧s1.1.length+1≤9223372036854775807 then
      .next (s1.1++[((a0.getD s1.2.toNat default).1,(a0.getD s1.2.toNat default).2.1,(a0.getD s1.2.toNat default).2.2.1,(a0.getD s1.2.toNat default).2.2.2.1,(a0.getD s1.2.toNat default).2.2.2.2.1,hM v1)],IntKind.i64.wrap (s1.2+1))
      else .out none
    else .out none
   else .out none
  else .out (some s1.1)
def q69 (lv:Nat) (R69:L_IIIIIH→Option (L_IIIIIH)) (a0:L_IIIIIH):Option (L_IIIIIH):=
 iterC (b69_1 R69 a0) 1000000000 ([],0)
def r69:(ix:Nat)→L_IIIIIH→Option (L_IIIIIH)
 | 0=>fun _=>none
 | lv+1=>q69 lv (r69 lv)
@[go_sem] def T69 (ix:Nat):=qT20 qu1 true (r69 ix)
@[go_sem] def tb69 (lv:Nat) (k:Nat):=lk [(69,(T69 lv).sp)] k
theorem tb69_ok (lv:Nat) (h:FnFact Tryz.prog 69 (T69 lv).sp):FnsOk Tryz.prog (tb69 lv):= .cons h .nil
theorem f69 (ix:Nat):FnFact Tryz.prog 69 (T69 ix).sp:=by
 induction ix with
 | zero=>exact fact_no Tryz.func69 (by decide) rfl (fun a0 h=>Bool.false_ne_true h)
 | succ lv ih=>
 refine valid_m ty_ok (tb69_ok lv ih) Tryz.func69 rfl Tryz.ntmps69 fun a0 r hr=>⟨nL rfl,fun stop S=> ?_⟩
 replace hr:=(uq1 a0 (r69 (lv+1))).symm.trans hr
 rw [r69] at hr
 unfold q69 at hr
 refine S.gx [] ?_
 refine gr ?_
 refine S.own0 3 1000300 6 rfl rfl ?_
 refine S.li [0,3,4] [] [(1000300,1000300)] (fun s1=>⟨[(0,.c (.d (encF 6 d_IIIIIH a0))),sO 3 1000300,sI 4 s1.2],[],[(1000300,.owned (encF 6 d_IIIIIH s1.1))]⟩) (b69_1 (r69 lv) a0) (fun q=>q=r) hr rfl ?_
 intro s1 hr
 unfold b69_1 at hr
 refine S.gx [] ?_
 exact D1 (S.ss [0,3,4] [] [(26,1000300)]) hr
def r70 (a0:L_I):Option (L_I):=
 if (0+a0.length)*8≤140737488355328∧0+a0.length≤9223372036854775807 then
  some a0
  else none
@[go_sem] def T70:=qT3 qu38 false r70
theorem f70:FnFact Tryz.prog 70 T70.sp:=by
 refine vm .nil Tryz.func70 Tryz.ntmps70 fun a0 r hr stop S=> ?_
 rw [uq1,r70] at hr
 refine S.gx [] ?_
 exact D0 hr
end Go.Proofs.YtnepigpnlnmlmaaGreatDoor

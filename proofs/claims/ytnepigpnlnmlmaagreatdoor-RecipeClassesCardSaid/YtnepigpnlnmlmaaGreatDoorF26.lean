/- Contracts of functions, written by wip/dec. -/
import Derived.Test.YtnepigpnlnmlmaaGreatDoorF00
import Derived.Test.YtnepigpnlnmlmaaGreatDoorF23
set_option linter.unusedVariables false
set_option linter.unusedSimpArgs false
set_option linter.constructorNameAsVariable false
set_option maxHeartbeats 4000000
set_option maxRecDepth 20000
namespace Go.Proofs.YtnepigpnlnmlmaaGreatDoor
open Go.Abs
def b72_1 (a0:L_IIIIIHLIE):Bd (Int×Int×(List (Int×Int×Int×Int×Int×Hl))) L_IIIIIH:=fun s1=>
 if (decide (s1.1≥0))=true then
  if 0≤s1.1∧s1.1<(a0.length:Int) then
   if (((a0.getD s1.1.toNat default).2.2.2.2.2.2).length:Int)≠0 then
    bindC (r129 ((a0.getD s1.1.toNat default).1) ((a0.getD s1.1.toNat default).2.1) ((a0.getD s1.1.toNat default).2.2.1) ((a0.getD s1.1.toNat default).2.2.2.1) ((a0.getD s1.1.toNat default).2.2.2.2.1) ((a0.getD s1.1.toNat default).2.2.2.2.2.1) ((a0.getD s1.1.toNat default).2.2.2.2.2.2) (s1.2.1.tmod (((a0.getD s1.1.toNat default).2.2.2.2.2.2).length:Int))) fun v1=>
     if 0≤s1.1∧s1.1<(s1.2.2.length:Int) then
      if (((a0.getD s1.1.toNat default).2.2.2.2.2.2).length:Int)≠0 then
       .next (IntKind.i64.wrap (s1.1 - 1),IntKind.i64.wrap (s1.2.1.tdiv (((a0.getD s1.1.toNat default).2.2.2.2.2.2).length:Int)),s1.2.2.set s1.1.toNat (v1.1,v1.2.1,v1.2.2.1,v1.2.2.2.1,v1.2.2.2.2.1,v1.2.2.2.2.2))
       else .out none
      else .out none
    else .out none
   else .out none
  else .out (some s1.2.2)
def r72 (a0:L_IIIIIHLIE) (a1:Int):Option (L_IIIIIH):=
 if 0≤(a0.length:Int)∧(a0.length:Int)≤(a0.length:Int)∧(a0.length:Int)≤9223372036854775807∧64*(a0.length:Int)≤281474976710656 then
  iterC (b72_1 a0) 1000000000 (IntKind.i64.wrap ((a0.length:Int) - 1),a1,List.replicate a0.length (0,0,0,0,0,Hl.nil))
  else none
@[go_sem] def T72:=qT78 qu1 true r72
@[go_sem] def tb72 (k:Nat):=lk [(129,T129.sp)] k
theorem tb72_ok:FnsOk Tryz.prog tb72:= .cons f129 .nil
theorem f72:FnFact Tryz.prog 72 T72.sp:=by
 refine vm (tb:=tb72) (.cons f129 .nil) Tryz.func72 Tryz.ntmps72 fun ⟨a0,a1⟩ r hr stop S=> ?_
 rw [uq2,r72] at hr
 refine S.gx [2] ?_
 obtain ⟨hg6,hr⟩:=of_guard0 hr
 refine gr ?_
 refine S.inl 1 [3,5] [] Tryz.func130 (by decide) rfl Tryz.ntmps130 (fun cx e=>drawn_ok ty_ok tb72_ok cx e) (some 12) rfl rfl rfl rfl (nL rfl) (nL rfl) ?_
 refine gs ?_
 refine gr ?_
 intro stop1 S1
 refine S1.gw [] ?_
 refine S.gw [2] ?_
 refine S.range [3,5] Tryz.func189 (by decide) rfl Tryz.ntmps189 Tryz.results189 (fun cx e=>drawn_ok ty_ok tb72_ok cx e) (fun cx e=>drawn_ok ty_ok tb72_ok cx e) (by decide) rfl rfl (nL rfl) ?_
 intro l1 stop1 stopJ1 S1 SJ1 Y1
 refine S1.gw [3] ?_
 refine S1.li [0,1,3] [(1,1),(3,3),(5,5)] [(10,10)] (fun s1=>⟨[(0,.c (.yld l1)),sR 1 1,sI 3 s1.1],[(1,[.d (encF 7 d_IIIIIHLIE a0)]),(3,[iC s1.2.1]),(5,[.own 10])],[(10,.owned (encF 6 d_IIIIIH s1.2.2))]⟩) (b72_1 a0) (fun q=>q=r) hr rfl ?_
 intro s1 hr
 unfold b72_1 at hr
 refine S1.gw [3] ?_
 refine iW1 hr (fun hc hr=> ?_) fun hc hr=> ?_
 ·refine gr ?_
  refine Y1 6 [0,1,3] (some 17) rfl rfl rfl rfl (nL rfl) (by rfl) ?_
  refine gs ?_
  obtain ⟨hg5,hr⟩:=of_guard1 hr
  refine gr ?_
  intro stopA2 SA2
  refine SA2.gw [] ?_
  intro stop2 S2
  refine S2.gx [2] ?_
  obtain ⟨hg2,hr⟩:=of_guard1 hr
  obtain ⟨v1,hv1,hr⟩:=of_bind1 hr
  obtain ⟨hg3,hr⟩:=of_guard1 hr
  obtain ⟨hg4,hr⟩:=of_guard1 hr
  refine gb hv1 ?_
  refine S1.gx [3] ?_
  exact D1 (S1.ss [0,1,3] [(1,1),(3,3),(5,5)] [(10,10)]) hr
 ·refine gr ?_
  have hr:=of_out0 hr
  refine S.gx [2] ?_
  exact D0 hr
end Go.Proofs.YtnepigpnlnmlmaaGreatDoor

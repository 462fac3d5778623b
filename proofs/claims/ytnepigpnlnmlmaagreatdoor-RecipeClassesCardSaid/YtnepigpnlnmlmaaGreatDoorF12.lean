/- Contracts of functions, written by wip/dec. -/
import Derived.Test.YtnepigpnlnmlmaaGreatDoorF00
set_option linter.unusedVariables false
set_option linter.unusedSimpArgs false
set_option linter.constructorNameAsVariable false
set_option maxHeartbeats 4000000
set_option maxRecDepth 20000
namespace Go.Proofs.YtnepigpnlnmlmaaGreatDoor
open Go.Abs
def b126_1 (R126:L_IIIIIH→Int→Option (Bool)) (a0:L_IIIIIH) (a1:Int):Bd Int Bool:=fun s1=>
 if (decide (s1<(a0.length:Int)))=true then
  if 0≤s1∧s1<(a0.length:Int) then
   bindC (R126 (hU ((a0.getD s1.toNat default).2.2.2.2.2)) (IntKind.i64.wrap (a1+1))) fun v1=>
    if (!v1)=true then
     .out (some false)
     else .next (IntKind.i64.wrap (s1+1))
   else .out none
  else .out (some true)
def q126 (lv:Nat) (R126:L_IIIIIH→Int→Option (Bool)) (a0:L_IIIIIH) (a1:Int):Option (Bool):=
 if ((decide ((a0.length:Int)>14)) || (decide (a1>5)))=true then
  some false
  else iterC (b126_1 R126 a0 a1) 1000000000 0
def r126:(ix:Nat)→L_IIIIIH→Int→Option (Bool)
 | 0=>fun _ _=>none
 | lv+1=>q126 lv (r126 lv)
@[go_sem] def T126 (ix:Nat):=qT74 qu2 false (r126 ix)
@[go_sem] def tb126 (lv:Nat) (k:Nat):=lk [(126,(T126 lv).sp)] k
theorem tb126_ok (lv:Nat) (h:FnFact Tryz.prog 126 (T126 lv).sp):FnsOk Tryz.prog (tb126 lv):= .cons h .nil
theorem f126 (ix:Nat):FnFact Tryz.prog 126 (T126 ix).sp:=by
 induction ix with
 | zero=>exact fact_no Tryz.func126 (by decide) rfl (fun ⟨a0,a1⟩ h=>Bool.false_ne_true h)
 | succ lv ih=>
 refine valid_m ty_ok (tb126_ok lv ih) Tryz.func126 rfl Tryz.ntmps126 fun ⟨a0,a1⟩ r hr=>⟨nL rfl,fun stop S=> ?_⟩
 replace hr:=(uq2 a0 a1 (r126 (lv+1))).symm.trans hr
 rw [r126] at hr
 unfold q126 at hr
 refine S.gx [] ?_
 repeat (first | refine gA ?_ | refine gB ?_)
 refine iW hr (fun hc hr=>D0 hr) fun hc hr=> ?_
 refine gr ?_
 refine S.li [0,1,5] [] [] (fun s1=>⟨[(0,.c (.d (encF 6 d_IIIIIH a0))),sI 1 a1,sI 5 s1],[],[]⟩) (b126_1 (r126 lv) a0 a1) (fun q=>q=r) hr rfl ?_
 intro s1 hr
 unfold b126_1 at hr
 refine S.gx [] ?_
 exact D1 (S.ss [0,1,5] [] []) hr
def b127_1 (R127:L_IIIIIH→Option (Int)) (a0:L_IIIIIH):Bd (Int×Int) Int:=fun s1=>
 if ((decide (s1.2<(a0.length:Int))) && (decide (s1.1≤100)))=true then
  if 0≤s1.2∧s1.2<(a0.length:Int) then
   bindC (R127 (hU ((a0.getD s1.2.toNat default).2.2.2.2.2))) fun v1=>
    .next (IntKind.i64.wrap (s1.1+v1),IntKind.i64.wrap (s1.2+1))
   else .out none
  else .out (some s1.1)
def q127 (lv:Nat) (R127:L_IIIIIH→Option (Int)) (a0:L_IIIIIH):Option (Int):=
 iterC (b127_1 R127 a0) 1000000000 ((a0.length:Int),0)
def r127:(ix:Nat)→L_IIIIIH→Option (Int)
 | 0=>fun _=>none
 | lv+1=>q127 lv (r127 lv)
@[go_sem] def T127 (ix:Nat):=qT20 qu3 false (r127 ix)
@[go_sem] def tb127 (lv:Nat) (k:Nat):=lk [(127,(T127 lv).sp)] k
theorem tb127_ok (lv:Nat) (h:FnFact Tryz.prog 127 (T127 lv).sp):FnsOk Tryz.prog (tb127 lv):= .cons h .nil
theorem f127 (ix:Nat):FnFact Tryz.prog 127 (T127 ix).sp:=by
 induction ix with
 | zero=>exact fact_no Tryz.func127 (by decide) rfl (fun a0 h=>Bool.false_ne_true h)
 | succ lv ih=>
 refine valid_m ty_ok (tb127_ok lv ih) Tryz.func127 rfl Tryz.ntmps127 fun a0 r hr=>⟨nL rfl,fun stop S=> ?_⟩
 replace hr:=(uq1 a0 (r127 (lv+1))).symm.trans hr
 rw [r127] at hr
 unfold q127 at hr
 refine S.gx [] ?_
 refine gr ?_
 refine S.li [0,3,4] [] [] (fun s1=>⟨[(0,.c (.d (encF 6 d_IIIIIH a0))),sI 3 s1.1,sI 4 s1.2],[],[]⟩) (b127_1 (r127 lv) a0) (fun q=>q=r) hr rfl ?_
 intro s1 hr
 unfold b127_1 at hr
 refine S.gx [] ?_
 repeat (first | refine gA ?_ | refine gB ?_)
 exact D1 (S.ss [0,3,4] [] []) hr
def r63 (a0:L_IIIIIH):Option (Bool):=
 (r126 7 a0 0).bind fun v1=>
  if v1=true→(r127 7 a0).isSome=true then
   some (v1 && (decide (((r127 7 a0).getD default)≤60)))
   else none
@[go_sem] def T63:=qT20 qu2 false r63
@[go_sem] def tb63 (k:Nat):=lk [(126,(T126 7).sp),(127,(T127 7).sp)] k
theorem f63:FnFact Tryz.prog 63 T63.sp:=by
 refine vm (tb:=tb63) (.cons (f126 7) (.cons (f127 7) .nil)) Tryz.func63 Tryz.ntmps63 fun a0 r hr stop S=> ?_
 rw [uq1,r63] at hr
 refine S.gx [] ?_
 obtain ⟨v1,hv1,hr⟩:=of_bind0 hr
 obtain ⟨hg2,hr⟩:=of_guard0 hr
 try simp only [hv1,oG,oI,true_and,and_assoc]
 repeat (first | refine gG hg2 ?_ | refine gA ?_ | refine gB ?_)
 exact D0 hr
end Go.Proofs.YtnepigpnlnmlmaaGreatDoor

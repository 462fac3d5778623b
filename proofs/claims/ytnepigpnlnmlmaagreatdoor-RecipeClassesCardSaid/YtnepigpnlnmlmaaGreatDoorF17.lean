/- Contracts of functions, written by wip/dec. -/
import Derived.Test.YtnepigpnlnmlmaaGreatDoorF00
set_option linter.unusedVariables false
set_option linter.unusedSimpArgs false
set_option linter.constructorNameAsVariable false
set_option maxHeartbeats 4000000
set_option maxRecDepth 20000
namespace Go.Proofs.YtnepigpnlnmlmaaGreatDoor
open Go.Abs
section
variable {β:Type} [Inhabited β] (u:β→List RV) (al:Bool)
def qu40 (v:Bool×Bool×Bool×Bool):List RV:=[.agg [.d (.bool v.1),.d (.bool v.2.1),.d (.bool v.2.2.1),.d (.bool v.2.2.2)]]
attribute [go_sem] qu40
end
def r17 (a0 a1 a2:Int):Option (Bool):=
 some ((decide (a1≤a0)) && (decide (a0≤a2)))
@[go_sem] def T17:=qT1 qu2 false r17
theorem f17:FnFact Tryz.prog 17 T17.sp:=by
 refine vm .nil Tryz.func17 Tryz.ntmps17 fun ⟨a0,a1,a2⟩ r hr stop S=> ?_
 rw [uq3,r17] at hr
 refine S.gx [] ?_
 repeat (first | refine gA ?_ | refine gB ?_)
 exact D0 hr
def r131 (a0:Int):Option (Bool×Bool×Bool×Bool):=
 if (a0 == 0)=true then
  some (true,false,false,false)
  else if (a0 == 2)=true then
   some (false,true,false,false)
   else if (a0 == 3)=true then
    some (true,false,true,false)
    else if (a0 == 4)=true then
     some (false,true,true,false)
     else if (a0 == 5)=true then
      some (false,false,false,true)
      else some (false,false,false,false)
@[go_sem] def T131:=qT4 qu40 false r131
theorem f131:FnFact Tryz.prog 131 T131.sp:=by
 refine vm .nil Tryz.func131 Tryz.ntmps131 fun a0 r hr stop S=> ?_
 rw [uq1,r131] at hr
 refine S.gx [] ?_
 exact D0 hr
def r88 (a0:Int):Option (Bool):=
 (r17 a0 200 3000).bind fun v1=>
  some v1
@[go_sem] def T88:=qT4 qu2 false r88
@[go_sem] def tb88 (k:Nat):=lk [(17,T17.sp)] k
theorem f88:FnFact Tryz.prog 88 T88.sp:=by
 refine vm (tb:=tb88) (.cons f17 .nil) Tryz.func88 Tryz.ntmps88 fun a0 r hr stop S=> ?_
 rw [uq1,r88] at hr
 refine S.gx [] ?_
 exact D0 hr
def b132_1 (R132:L_IIIIIH→Int→Option (Int×Int)) (a0:L_IIIIIH) (a1:Int):Bd Int (Int×Int):=fun s1=>
 if (decide (s1<(a0.length:Int)))=true then
  if 0≤s1∧s1<(a0.length:Int) then
   bindC (r17 ((a0.getD s1.toNat default).1) 0 5) fun v1=>
    if (!v1)=true then
     .out (some (s1,15))
     else bindC (r131 ((a0.getD s1.toNat default).1)) fun v2=>
      if (((((!v2.1) && (((a0.getD s1.toNat default).2.1) != 0)) || ((!v2.2.1) && (((a0.getD s1.toNat default).2.2.1) != 0))) || ((!v2.2.2.1) && (((a0.getD s1.toNat default).2.2.2.2.1) != 0))) || ((!v2.2.2.2) && (decide (((hU ((a0.getD s1.toNat default).2.2.2.2.2)).length:Int)>0))))=true then
       .out (some (s1,3))
       else if v2.2.2.2=true then
        if v2.1=true→(r17 ((a0.getD s1.toNat default).2.1) 1 10000).isSome=true then
         if ((!(v2.1 && (!((r17 ((a0.getD s1.toNat default).2.1) 1 10000).getD default)))) && v2.2.1)=true→(r17 ((a0.getD s1.toNat default).2.2.1) 0 3).isSome=true then
          if (!((v2.1 && (!((r17 ((a0.getD s1.toNat default).2.1) 1 10000).getD default))) || (v2.2.1 && (!((r17 ((a0.getD s1.toNat default).2.2.1) 0 3).getD default)))))=true→(r17 ((a0.getD s1.toNat default).2.2.2.1) 1 10).isSome=true then
           if ((!(((v2.1 && (!((r17 ((a0.getD s1.toNat default).2.1) 1 10000).getD default))) || (v2.2.1 && (!((r17 ((a0.getD s1.toNat default).2.2.1) 0 3).getD default)))) || (!((r17 ((a0.getD s1.toNat default).2.2.2.1) 1 10).getD default)))) && v2.2.2.1)=true→(r88 ((a0.getD s1.toNat default).2.2.2.2.1)).isSome=true then
            if ((((v2.1 && (!((r17 ((a0.getD s1.toNat default).2.1) 1 10000).getD default))) || (v2.2.1 && (!((r17 ((a0.getD s1.toNat default).2.2.1) 0 3).getD default)))) || (!((r17 ((a0.getD s1.toNat default).2.2.2.1) 1 10).getD default))) || (v2.2.2.1 && (!((r88 ((a0.getD s1.toNat default).2.2.2.2.1)).getD default))))=true then
             .out (some (s1,2))
             else if (!v2.2.2.2)=true then
              .next (IntKind.i64.wrap (s1+1))
              else if (decide (a1≥3))=true then
               .out (some (s1,16))
               else bindC (R132 (hU ((a0.getD s1.toNat default).2.2.2.2.2)) (IntKind.i64.wrap (a1+1))) fun v3=>
                if (v3.2 != 0)=true then
                 .out (some (s1,v3.2))
                 else .next (IntKind.i64.wrap (s1+1))
            else .out none
           else .out none
          else .out none
         else .out none
        else if v2.1=true→(r17 ((a0.getD s1.toNat default).2.1) 1 10000).isSome=true then
         if ((!(v2.1 && (!((r17 ((a0.getD s1.toNat default).2.1) 1 10000).getD default)))) && v2.2.1)=true→(r17 ((a0.getD s1.toNat default).2.2.1) 0 3).isSome=true then
          if (!((v2.1 && (!((r17 ((a0.getD s1.toNat default).2.1) 1 10000).getD default))) || (v2.2.1 && (!((r17 ((a0.getD s1.toNat default).2.2.1) 0 3).getD default)))))=true→(r17 ((a0.getD s1.toNat default).2.2.2.1) 1 200).isSome=true then
           if ((!(((v2.1 && (!((r17 ((a0.getD s1.toNat default).2.1) 1 10000).getD default))) || (v2.2.1 && (!((r17 ((a0.getD s1.toNat default).2.2.1) 0 3).getD default)))) || (!((r17 ((a0.getD s1.toNat default).2.2.2.1) 1 200).getD default)))) && v2.2.2.1)=true→(r88 ((a0.getD s1.toNat default).2.2.2.2.1)).isSome=true then
            if ((((v2.1 && (!((r17 ((a0.getD s1.toNat default).2.1) 1 10000).getD default))) || (v2.2.1 && (!((r17 ((a0.getD s1.toNat default).2.2.1) 0 3).getD default)))) || (!((r17 ((a0.getD s1.toNat default).2.2.2.1) 1 200).getD default))) || (v2.2.2.1 && (!((r88 ((a0.getD s1.toNat default).2.2.2.2.1)).getD default))))=true then
             .out (some (s1,2))
             else if (!v2.2.2.2)=true then
              .next (IntKind.i64.wrap (s1+1))
              else if (decide (a1≥3))=true then
               .out (some (s1,16))
               else bindC (R132 (hU ((a0.getD s1.toNat default).2.2.2.2.2)) (IntKind.i64.wrap (a1+1))) fun v8=>
                if (v8.2 != 0)=true then
                 .out (some (s1,v8.2))
                 else .next (IntKind.i64.wrap (s1+1))
            else .out none
           else .out none
          else .out none
         else .out none
   else .out none
  else .out (some (0,0))
def q132 (lv:Nat) (R132:L_IIIIIH→Int→Option (Int×Int)) (a0:L_IIIIIH) (a1:Int):Option (Int×Int):=
 if ((a0.length:Int) == 0)=true then
  some (0,10)
  else if (decide ((a0.length:Int)>12))=true then
   some (0,8)
   else iterC (b132_1 R132 a0 a1) 1000000000 0
def r132:(ix:Nat)→L_IIIIIH→Int→Option (Int×Int)
 | 0=>fun _ _=>none
 | lv+1=>q132 lv (r132 lv)
@[go_sem] def T132 (ix:Nat):=qT74 qu4 false (r132 ix)
@[go_sem] def tb132 (lv:Nat) (k:Nat):=lk [(17,T17.sp),(88,T88.sp),(131,T131.sp),(132,(T132 lv).sp)] k
theorem tb132_ok (lv:Nat) (h:FnFact Tryz.prog 132 (T132 lv).sp):FnsOk Tryz.prog (tb132 lv):= .cons f17 (.cons f88 (.cons f131 (.cons h .nil)))
theorem f132 (ix:Nat):FnFact Tryz.prog 132 (T132 ix).sp:=by
 induction ix with
 | zero=>exact fact_no Tryz.func132 (by decide) rfl (fun ⟨a0,a1⟩ h=>Bool.false_ne_true h)
 | succ lv ih=>
 refine valid_m ty_ok (tb132_ok lv ih) Tryz.func132 rfl Tryz.ntmps132 fun ⟨a0,a1⟩ r hr=>⟨nL rfl,fun stop S=> ?_⟩
 replace hr:=(uq2 a0 a1 (r132 (lv+1))).symm.trans hr
 rw [r132] at hr
 unfold q132 at hr
 refine S.gx [8] ?_
 refine gr ?_
 refine iW hr (fun hc hr=>D0 hr) fun hc hr=> ?_
 refine gr ?_
 refine iW hr (fun hc hr=>D0 hr) fun hc hr=> ?_
 refine gr ?_
 refine S.li [0,1,6] [] [] (fun s1=>⟨[(0,.c (.d (encF 6 d_IIIIIH a0))),sI 1 a1,sI 6 s1],[],[]⟩) (b132_1 (r132 lv) a0 a1) (fun q=>q=r) hr rfl ?_
 intro s1 hr
 have z1:=S.ss [0,1,6] [] []
 unfold b132_1 at hr
 refine S.gw [8] ?_
 refine iW1 hr (fun hc hr=> ?_) fun hc hr=>D0 hr
 refine gr ?_
 refine S.inl 5 [0,1,6] [] Tryz.func73 (by decide) rfl Tryz.ntmps73 (fun cx e=>drawn_ok ty_ok (tb132_ok lv ih) cx e) (some 25) rfl rfl rfl rfl (nL rfl) (nL rfl) ?_
 refine gs ?_
 obtain ⟨hg13,hr⟩:=of_guard1 hr
 refine gr ?_
 intro stop1 S1
 refine S1.gx [5,6,10,11] ?_
 obtain ⟨v1,hv1,hr⟩:=of_bind1 hr
 refine gb hv1 ?_
 refine iW1 hr (fun hc hr=> ?_) fun hc hr=> ?_
 ·refine S.gx [8] ?_
  exact D0 hr
 ·obtain ⟨v2,hv2,hr⟩:=of_bind1 hr
  try simp only [hv2,oG,oI,true_and,and_assoc]
  repeat (first | refine gA ?_ | refine gB ?_)
  refine iW1 hr (fun hc hr=> ?_) fun hc hr=> ?_
  ·refine gr ?_
   refine S1.prune [] ?_
   refine S1.gw [6,10,11] ?_
   refine S.gx [8] ?_
   exact D0 hr
  ·refine gr ?_
   refine S1.prune [1,2,5] ?_
   refine S1.gw [5,10,11] ?_
   refine iW1 hr (fun hc hr=> ?_) fun hc hr=> ?_
   ·obtain ⟨hg4,hr⟩:=of_guard1 hr
    obtain ⟨hg5,hr⟩:=of_guard1 hr
    obtain ⟨hg6,hr⟩:=of_guard1 hr
    obtain ⟨hg7,hr⟩:=of_guard1 hr
    repeat (first | refine gG hg4 ?_ | refine gG hg5 ?_ | refine gG hg6 ?_ | refine gG hg7 ?_ | refine gA ?_ | refine gB ?_)
    refine iW1 hr (fun hc hr=> ?_) fun hc hr=> ?_
    ·refine gr ?_
     refine S1.prune [] ?_
     refine S1.gw [5,6,11] ?_
     refine S.gx [8] ?_
     exact D0 hr
    ·refine gr ?_
     refine S1.prune [1,2,5] ?_
     refine S1.gw [5,6,10] ?_
     refine iW1 hr (fun hc hr=> ?_) fun hc hr=> ?_
     ·refine S.gx [8] ?_
      exact D1 z1 hr
     ·refine gr ?_
      refine iW1 hr (fun hc hr=> ?_) fun hc hr=> ?_
      ·refine S.gx [8] ?_
       exact D0 hr
      ·obtain ⟨v3,hv3,hr⟩:=of_bind1 hr
       refine gb hv3 ?_
       refine S.gx [8] ?_
       exact D1 z1 hr
   ·obtain ⟨hg9,hr⟩:=of_guard1 hr
    obtain ⟨hg10,hr⟩:=of_guard1 hr
    obtain ⟨hg11,hr⟩:=of_guard1 hr
    obtain ⟨hg12,hr⟩:=of_guard1 hr
    repeat (first | refine gG hg9 ?_ | refine gG hg10 ?_ | refine gG hg11 ?_ | refine gG hg12 ?_ | refine gA ?_ | refine gB ?_)
    refine iW1 hr (fun hc hr=> ?_) fun hc hr=> ?_
    ·refine gr ?_
     refine S1.prune [] ?_
     refine S1.gw [5,6,11] ?_
     refine S.gx [8] ?_
     exact D0 hr
    ·refine gr ?_
     refine S1.prune [1,2,5] ?_
     refine S1.gw [5,6,10] ?_
     refine iW1 hr (fun hc hr=> ?_) fun hc hr=> ?_
     ·refine S.gx [8] ?_
      exact D1 z1 hr
     ·refine gr ?_
      refine iW1 hr (fun hc hr=> ?_) fun hc hr=> ?_
      ·refine S.gx [8] ?_
       exact D0 hr
      ·obtain ⟨v8,hv8,hr⟩:=of_bind1 hr
       refine gb hv8 ?_
       refine S.gx [8] ?_
       exact D1 z1 hr
def b133_1 (R133:L_IIIIIH→Option (Int)) (a0:L_IIIIIH):Bd (Int×Int) Int:=fun s1=>
 if (decide (s1.2<(a0.length:Int)))=true then
  if 0≤s1.2∧s1.2<(a0.length:Int) then
   if (((a0.getD s1.2.toNat default).1) == 5)=true then
    if 0≤s1.2∧s1.2<(a0.length:Int) then
     if 0≤s1.2∧s1.2<(a0.length:Int) then
      bindC (R133 (hU ((a0.getD s1.2.toNat default).2.2.2.2.2))) fun v1=>
       .next ((if 61<IntKind.i64.wrap (s1.1+(IntKind.i64.wrap (((a0.getD s1.2.toNat default).2.2.2.1)*v1))) then 61 else IntKind.i64.wrap (s1.1+(IntKind.i64.wrap (((a0.getD s1.2.toNat default).2.2.2.1)*v1)))),IntKind.i64.wrap (s1.2+1))
      else .out none
     else .out none
    else .next ((if 61<IntKind.i64.wrap (s1.1+1) then 61 else IntKind.i64.wrap (s1.1+1)),IntKind.i64.wrap (s1.2+1))
   else .out none
  else .out (some s1.1)
def q133 (lv:Nat) (R133:L_IIIIIH→Option (Int)) (a0:L_IIIIIH):Option (Int):=
 iterC (b133_1 R133 a0) 1000000000 (0,0)
def r133:(ix:Nat)→L_IIIIIH→Option (Int)
 | 0=>fun _=>none
 | lv+1=>q133 lv (r133 lv)
@[go_sem] def T133 (ix:Nat):=qT20 qu3 false (r133 ix)
@[go_sem] def tb133 (lv:Nat) (k:Nat):=lk [(133,(T133 lv).sp)] k
theorem tb133_ok (lv:Nat) (h:FnFact Tryz.prog 133 (T133 lv).sp):FnsOk Tryz.prog (tb133 lv):= .cons h .nil
theorem f133 (ix:Nat):FnFact Tryz.prog 133 (T133 ix).sp:=by
 induction ix with
 | zero=>exact fact_no Tryz.func133 (by decide) rfl (fun a0 h=>Bool.false_ne_true h)
 | succ lv ih=>
 refine valid_m ty_ok (tb133_ok lv ih) Tryz.func133 rfl Tryz.ntmps133 fun a0 r hr=>⟨nL rfl,fun stop S=> ?_⟩
 replace hr:=(uq1 a0 (r133 (lv+1))).symm.trans hr
 rw [r133] at hr
 unfold q133 at hr
 refine S.gx [] ?_
 refine gr ?_
 refine S.li [0,3,4] [] [] (fun s1=>⟨[(0,.c (.d (encF 6 d_IIIIIH a0))),sI 3 s1.1,sI 4 s1.2],[],[]⟩) (b133_1 (r133 lv) a0) (fun q=>q=r) hr rfl ?_
 intro s1 hr
 unfold b133_1 at hr
 refine S.gx [] ?_
 exact D1 (S.ss [0,3,4] [] []) hr
def b134_2 (a0:L_IIIIIH) (s1:(List (Int×Int×Int×Int×Int×Hl))×Int) (v3:L_IIIIIH):Bd (Int×(List (Int×Int×Int×Int×Int×Hl))) (Ctl ((List (Int×Int×Int×Int×Int×Hl))×Int) (L_IIIIIH)):=fun s2=>
 if 0≤s1.2∧s1.2<(a0.length:Int) then
  if (decide (s2.1<((a0.getD s1.2.toNat default).2.2.2.1)))=true then
   if (s2.2.length+v3.length)*64≤140737488355328∧s2.2.length+v3.length≤9223372036854775807 then
    .next (IntKind.i64.wrap (s2.1+1),s2.2++v3)
    else .out none
   else .out (some (.next (s2.2,IntKind.i64.wrap (s1.2+1))))
  else .out none
def b134_1 (R134:L_IIIIIH→Option (L_IIIIIH)) (a0:L_IIIIIH):Bd ((List (Int×Int×Int×Int×Int×Hl))×Int) L_IIIIIH:=fun s1=>
 if (decide (s1.2<(a0.length:Int)))=true then
  if 0≤s1.2∧s1.2<(a0.length:Int) then
   if (((a0.getD s1.2.toNat default).1) != 5)=true then
    if 0≤s1.2∧s1.2<(a0.length:Int) then
     if (s1.1.length+1)*64≤140737488355328∧s1.1.length+1≤9223372036854775807 then
      .next (s1.1++[((a0.getD s1.2.toNat default).1,(a0.getD s1.2.toNat default).2.1,(a0.getD s1.2.toNat default).2.2.1,(a0.getD s1.2.toNat default).2.2.2.1,(a0.getD s1.2.toNat default).2.2.2.2.1,(a0.getD s1.2.toNat default).2.2.2.2.2)],IntKind.i64.wrap (s1.2+1))
      else .out none
     else .out none
    else if 0≤s1.2∧s1.2<(a0.length:Int) then
     bindC (R134 (hU ((a0.getD s1.2.toNat default).2.2.2.2.2))) fun v3=>
      (iterC (b134_2 a0 s1 v3) 1000000000 (0,s1.1)).getD (.out none)
     else .out none
   else .out none
  else .out (some s1.1)
def q134 (lv:Nat) (R134:L_IIIIIH→Option (L_IIIIIH)) (a0:L_IIIIIH):Option (L_IIIIIH):=
 iterC (b134_1 R134 a0) 1000000000 ([],0)
def r134:(ix:Nat)→L_IIIIIH→Option (L_IIIIIH)
 | 0=>fun _=>none
 | lv+1=>q134 lv (r134 lv)
@[go_sem] def T134 (ix:Nat):=qT20 qu1 true (r134 ix)
@[go_sem] def tb134 (lv:Nat) (k:Nat):=lk [(134,(T134 lv).sp)] k
theorem tb134_ok (lv:Nat) (h:FnFact Tryz.prog 134 (T134 lv).sp):FnsOk Tryz.prog (tb134 lv):= .cons h .nil
theorem f134 (ix:Nat):FnFact Tryz.prog 134 (T134 ix).sp:=by
 induction ix with
 | zero=>exact fact_no Tryz.func134 (by decide) rfl (fun a0 h=>Bool.false_ne_true h)
 | succ lv ih=>
 refine valid_m ty_ok (tb134_ok lv ih) Tryz.func134 rfl Tryz.ntmps134 fun a0 r hr=>⟨nL rfl,fun stop S=> ?_⟩
 replace hr:=(uq1 a0 (r134 (lv+1))).symm.trans hr
 rw [r134] at hr
 unfold q134 at hr
 refine S.gx [] ?_
 refine gr ?_
 refine S.own0 3 1000300 6 rfl rfl ?_
 refine S.li [0,3,4] [] [(1000300,1000300)] (fun s1=>⟨[(0,.c (.d (encF 6 d_IIIIIH a0))),sO 3 1000300,sI 4 s1.2],[],[(1000300,.owned (encF 6 d_IIIIIH s1.1))]⟩) (b134_1 (r134 lv) a0) (fun q=>q=r) hr rfl ?_
 intro s1 hr
 unfold b134_1 at hr
 refine S.gw [] ?_
 refine iW1 hr (fun hc hr=> ?_) fun hc hr=>D0 hr
 obtain ⟨hg7,hr⟩:=of_guard1 hr
 refine gr ?_
 refine iW1 hr (fun hc hr=>D1 (S.ss [0,3,4] [] [(25,1000300)]) hr) fun hc hr=> ?_
 obtain ⟨hg6,hr⟩:=of_guard1 hr
 obtain ⟨v3,hv3,hr⟩:=of_bind1 hr
 refine gb hv3 ?_
 obtain ⟨q2,hq,hr⟩:=of_iter1 hr
 refine S.li [0,3,4,5,6] [] [(1000300,1000300),(31,31)] (fun s2=>⟨[(0,.c (.d (encF 6 d_IIIIIH a0))),sO 3 1000300,sI 4 s1.2,sO 5 31,sI 6 s2.1],[],[(1000300,.owned (encF 6 d_IIIIIH s2.2)),(31,.owned (encF 6 d_IIIIIH v3))]⟩) (b134_2 a0 s1 v3) _ hq hr ?_
 intro s2 hr
 unfold b134_2 at hr
 refine S.gx [] ?_
 obtain ⟨hg5,hr⟩:=of_guard1 hr
 refine gr ?_
 refine iW1 hr (fun hc hr=>D1 (S.ss [0,3,4,5,6] [] [(43,1000300),(31,31)]) hr) fun hc hr=> ?_
 refine gr ?_
 replace hr:=goodC_out hr
 exact D1 (S.ss [0,3,4] [] [(1000300,1000300)]) hr
def r75 (x0 x1 x2 x3 x4:Int) (x5:Hl):Option (Bool):=
 some ((x0 == 2) || (x0 == 4))
@[go_sem] def T75:=qT21 qu2 false r75
theorem f75:FnFact Tryz.prog 75 T75.sp:=by
 refine vm .nil Tryz.func75 Tryz.ntmps75 fun ⟨x0,x1,x2,x3,x4,x5⟩ r hr stop S=> ?_
 rw [uq6,r75] at hr
 refine S.gx [] ?_
 repeat (first | refine gA ?_ | refine gB ?_)
 exact D0 hr
def r76 (a0:L_IIIIIH):Option (Int×Int):=
 (r132 7 a0 0).bind fun v1=>
  if (v1.2 != 0)=true then
   some (v1.1,v1.2)
   else (r133 7 a0).bind fun v2=>
    if (decide (v2>60))=true then
     some (0,8)
     else (r134 7 a0).bind fun v3=>
      if 0≤IntKind.i64.wrap ((v3.length:Int) - 1)∧IntKind.i64.wrap ((v3.length:Int) - 1)<(v3.length:Int) then
       (r75 ((v3.getD (IntKind.i64.wrap ((v3.length:Int) - 1)).toNat default).1) ((v3.getD (IntKind.i64.wrap ((v3.length:Int) - 1)).toNat default).2.1) ((v3.getD (IntKind.i64.wrap ((v3.length:Int) - 1)).toNat default).2.2.1) ((v3.getD (IntKind.i64.wrap ((v3.length:Int) - 1)).toNat default).2.2.2.1) ((v3.getD (IntKind.i64.wrap ((v3.length:Int) - 1)).toNat default).2.2.2.2.1) ((v3.getD (IntKind.i64.wrap ((v3.length:Int) - 1)).toNat default).2.2.2.2.2)).bind fun v4=>
        if (!v4)=true then
         some (0,20)
         else some (0,0)
       else none
@[go_sem] def T76:=qT20 qu4 false r76
@[go_sem] def tb76 (k:Nat):=lk [(75,T75.sp),(132,(T132 7).sp),(133,(T133 7).sp),(134,(T134 7).sp)] k
theorem f76:FnFact Tryz.prog 76 T76.sp:=by
 refine vm (tb:=tb76) (.cons f75 (.cons (f132 7) (.cons (f133 7) (.cons (f134 7) .nil)))) Tryz.func76 Tryz.ntmps76 fun a0 r hr stop S=> ?_
 rw [uq1,r76] at hr
 refine S.gx [] ?_
 exact D0 hr
end Go.Proofs.YtnepigpnlnmlmaaGreatDoor

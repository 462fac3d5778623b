/- Contracts of functions, written by wip/dec. -/
import Derived.Test.YtkbdjphdhcgmaaaGreatDoorF00
set_option linter.unusedVariables false
set_option linter.unusedSimpArgs false
set_option linter.constructorNameAsVariable false
set_option maxHeartbeats 4000000
set_option maxRecDepth 20000
namespace Go.Proofs.YtkbdjphdhcgmaaaGreatDoor
open Go.Abs
section
variable {β:Type} [Inhabited β] (u:β→List RV) (al:Bool)
def qu38 (v:Bool×Bool×Bool×Bool):List RV:=[.agg [.d (.bool v.1),.d (.bool v.2.1),.d (.bool v.2.2.1),.d (.bool v.2.2.2)]]
attribute [go_sem] qu38
end
def r57 (a0 a1 a2:Int):Option (Bool):=
 some ((decide (a1≤a0)) && (decide (a0≤a2)))
@[go_sem] def T57:=qT1 qu2 false r57
theorem f57:FnFact Tryz.prog 57 T57.sp:=by
 refine vm .nil Tryz.func57 Tryz.ntmps57 fun ⟨a0,a1,a2⟩ r hr stop S=> ?_
 rw [uq3,r57] at hr
 refine S.gx [] ?_
 repeat (first | refine gA ?_ | refine gB ?_)
 exact D0 hr
def r97 (a0:Int):Option (Bool×Bool×Bool×Bool):=
 if (a0 == 0)=true then
  some (true,false,false,false)
  else if (a0 == 2)=true then
   some (false,true,false,false)
   else if (a0 == 3)=true then
    some (true,false,true,false)
    else if (a0 == 4)=true then
     some (false,true,true,false)
     else if (a0 == 5)=true then
      some (false,false,false,true)
      else some (false,false,false,false)
@[go_sem] def T97:=qT4 qu38 false r97
theorem f97:FnFact Tryz.prog 97 T97.sp:=by
 refine vm .nil Tryz.func97 Tryz.ntmps97 fun a0 r hr stop S=> ?_
 rw [uq1,r97] at hr
 refine S.gx [] ?_
 exact D0 hr
def r98 (a0:Int):Option (Bool):=
 (r57 a0 200 3000).bind fun v1=>
  some v1
@[go_sem] def T98:=qT4 qu2 false r98
@[go_sem] def tb98 (k:Nat):=lk [(57,T57.sp)] k
theorem f98:FnFact Tryz.prog 98 T98.sp:=by
 refine vm (tb:=tb98) (.cons f57 .nil) Tryz.func98 Tryz.ntmps98 fun a0 r hr stop S=> ?_
 rw [uq1,r98] at hr
 refine S.gx [] ?_
 exact D0 hr
def b42_1 (R42:L_IIIIIH→Int→Option (Int×Int)) (a0:L_IIIIIH) (a1:Int):Bd Int (Int×Int):=fun s1=>
 if (decide (s1<(a0.length:Int)))=true then
  if 0≤s1∧s1<(a0.length:Int) then
   bindC (r57 ((a0.getD s1.toNat default).1) 0 5) fun v1=>
    if (!v1)=true then
     .out (some (s1,15))
     else bindC (r97 ((a0.getD s1.toNat default).1)) fun v2=>
      if (((((!v2.1) && (((a0.getD s1.toNat default).2.1) != 0)) || ((!v2.2.1) && (((a0.getD s1.toNat default).2.2.1) != 0))) || ((!v2.2.2.1) && (((a0.getD s1.toNat default).2.2.2.2.1) != 0))) || ((!v2.2.2.2) && (decide (((hU ((a0.getD s1.toNat default).2.2.2.2.2)).length:Int)>0))))=true then
       .out (some (s1,3))
       else if v2.2.2.2=true then
        if v2.1=true→(r57 ((a0.getD s1.toNat default).2.1) 1 10000).isSome=true then
         if ((!(v2.1 && (!((r57 ((a0.getD s1.toNat default).2.1) 1 10000).getD default)))) && v2.2.1)=true→(r57 ((a0.getD s1.toNat default).2.2.1) 0 3).isSome=true then
          if (!((v2.1 && (!((r57 ((a0.getD s1.toNat default).2.1) 1 10000).getD default))) || (v2.2.1 && (!((r57 ((a0.getD s1.toNat default).2.2.1) 0 3).getD default)))))=true→(r57 ((a0.getD s1.toNat default).2.2.2.1) 1 10).isSome=true then
           if ((!(((v2.1 && (!((r57 ((a0.getD s1.toNat default).2.1) 1 10000).getD default))) || (v2.2.1 && (!((r57 ((a0.getD s1.toNat default).2.2.1) 0 3).getD default)))) || (!((r57 ((a0.getD s1.toNat default).2.2.2.1) 1 10).getD default)))) && v2.2.2.1)=true→(r98 ((a0.getD s1.toNat default).2.2.2.2.1)).isSome=true then
            if ((((v2.1 && (!((r57 ((a0.getD s1.toNat default).2.1) 1 10000).getD default))) || (v2.2.1 && (!((r57 ((a0.getD s1.toNat default).2.2.1) 0 3).getD default)))) || (!((r57 ((a0.getD s1.toNat default).2.2.2.1) 1 10).getD default))) || (v2.2.2.1 && (!((r98 ((a0.getD s1.toNat default).2.2.2.2.1)).getD default))))=true then
             .out (some (s1,2))
             else if (!v2.2.2.2)=true then
              .next (IntKind.i64.wrap (s1+1))
              else if (decide (a1≥3))=true then
               .out (some (s1,16))
               else bindC (R42 (hU ((a0.getD s1.toNat default).2.2.2.2.2)) (IntKind.i64.wrap (a1+1))) fun v3=>
                if (v3.2 != 0)=true then
                 .out (some (s1,v3.2))
                 else .next (IntKind.i64.wrap (s1+1))
            else .out none
           else .out none
          else .out none
         else .out none
        else if v2.1=true→(r57 ((a0.getD s1.toNat default).2.1) 1 10000).isSome=true then
         if ((!(v2.1 && (!((r57 ((a0.getD s1.toNat default).2.1) 1 10000).getD default)))) && v2.2.1)=true→(r57 ((a0.getD s1.toNat default).2.2.1) 0 3).isSome=true then
          if (!((v2.1 && (!((r57 ((a0.getD s1.toNat default).2.1) 1 10000).getD default))) || (v2.2.1 && (!((r57 ((a0.getD s1.toNat default).2.2.1) 0 3).getD default)))))=true→(r57 ((a0.getD s1.toNat default).2.2.2.1) 1 200).isSome=true then
           if ((!(((v2.1 && (!((r57 ((a0.getD s1.toNat default).2.1) 1 10000).getD default))) || (v2.2.1 && (!((r57 ((a0.getD s1.toNat default).2.2.1) 0 3).getD default)))) || (!((r57 ((a0.getD s1.toNat default).2.2.2.1) 1 200).getD default)))) && v2.2.2.1)=true→(r98 ((a0.getD s1.toNat default).2.2.2.2.1)).isSome=true then
            if ((((v2.1 && (!((r57 ((a0.getD s1.toNat default).2.1) 1 10000).getD default))) || (v2.2.1 && (!((r57 ((a0.getD s1.toNat default).2.2.1) 0 3).getD default)))) || (!((r57 ((a0.getD s1.toNat default).2.2.2.1) 1 200).getD default))) || (v2.2.2.1 && (!((r98 ((a0.getD s1.toNat default).2.2.2.2.1)).getD default))))=true then
             .out (some (s1,2))
             else if (!v2.2.2.2)=true then
              .next (IntKind.i64.wrap (s1+1))
              else if (decide (a1≥3))=true then
               .out (some (s1,16))
               else bindC (R42 (hU ((a0.getD s1.toNat default).2.2.2.2.2)) (IntKind.i64.wrap (a1+1))) fun v8=>
                if (v8.2 != 0)=true then
                 .out (some (s1,v8.2))
                 else .next (IntKind.i64.wrap (s1+1))
            else .out none
           else .out none
          else .out none
         else .out none
   else .out none
  else .out (some (0,0))
def q42 (lv:Nat) (R42:L_IIIIIH→Int→Option (Int×Int)) (a0:L_IIIIIH) (a1:Int):Option (Int×Int):=
 if ((a0.length:Int) == 0)=true then
  some (0,10)
  else if (decide ((a0.length:Int)>12))=true then
   some (0,8)
   else iterC (b42_1 R42 a0 a1) 1000000000 0
def r42:(ix:Nat)→L_IIIIIH→Int→Option (Int×Int)
 | 0=>fun _ _=>none
 | lv+1=>q42 lv (r42 lv)
@[go_sem] def T42 (ix:Nat):=qT74 qu4 false (r42 ix)
@[go_sem] def tb42 (lv:Nat) (k:Nat):=lk [(42,(T42 lv).sp),(57,T57.sp),(97,T97.sp),(98,T98.sp)] k
theorem tb42_ok (lv:Nat) (h:FnFact Tryz.prog 42 (T42 lv).sp):FnsOk Tryz.prog (tb42 lv):= .cons h (.cons f57 (.cons f97 (.cons f98 .nil)))
theorem f42 (ix:Nat):FnFact Tryz.prog 42 (T42 ix).sp:=by
 induction ix with
 | zero=>exact fact_no Tryz.func42 (by decide) rfl (fun ⟨a0,a1⟩ h=>Bool.false_ne_true h)
 | succ lv ih=>
 refine valid_m ty_ok (tb42_ok lv ih) Tryz.func42 rfl Tryz.ntmps42 fun ⟨a0,a1⟩ r hr=>⟨nL rfl,fun stop S=> ?_⟩
 replace hr:=(uq2 a0 a1 (r42 (lv+1))).symm.trans hr
 rw [r42] at hr
 unfold q42 at hr
 refine S.gx [8] ?_
 refine gr ?_
 refine iW hr (fun hc hr=>D0 hr) fun hc hr=> ?_
 refine gr ?_
 refine iW hr (fun hc hr=>D0 hr) fun hc hr=> ?_
 refine gr ?_
 refine S.sees [0,1,6] [] [] ?_ (Stop.iter S (fun s1=>⟨[(0,.c (.d (encF 6 d_IIIIIH a0))),(1,.c (.d (.int .i64 a1))),(6,.c (.d (.int .i64 s1)))],[],[]⟩) (b42_1 (r42 lv) a0 a1) (fun q=>q=r) hr rfl ?_)
 ·exact lf
 ·intro s1 hr
  unfold b42_1 at hr
  refine S.gx [8] ?_
  refine gr ?_
  refine iW1 hr (fun hc hr=> ?_) fun hc hr=>D0 hr
  refine gr ?_
  refine S.inl 5 [0,1,6] [] Tryz.func70 (by decide) rfl Tryz.ntmps70 (fun cx e=>drawn_ok ty_ok (tb42_ok lv ih) cx e) (some 25) rfl rfl rfl rfl (nL rfl) (nL rfl) ?_
  refine gs ?_
  obtain ⟨hg13,hr⟩:=of_guard1 hr
  refine gr ?_
  intro stop1 S1
  refine S1.gx [5,6,10,11] ?_
  obtain ⟨v1,hv1,hr⟩:=of_bind1 hr
  refine gb hv1 ?_
  refine iW1 hr (fun hc hr=> ?_) fun hc hr=> ?_
  ·refine gr ?_
   refine gr ?_
   refine S.gx [8] ?_
   exact D0 hr
  ·obtain ⟨v2,hv2,hr⟩:=of_bind1 hr
   try simp only [hv2,oG,oI,true_and,and_assoc]
   repeat (first | refine gA ?_ | refine gB ?_)
   refine iW1 hr (fun hc hr=> ?_) fun hc hr=> ?_
   ·refine gr ?_
    refine S1.prune [] ?_
    refine S1.gx [6,10,11] ?_
    refine gr ?_
    refine gr ?_
    refine gr ?_
    refine S.gx [8] ?_
    exact D0 hr
   ·refine gr ?_
    refine S1.prune [1,2,5] ?_
    refine S1.gx [5,10,11] ?_
    refine gr ?_
    refine gr ?_
    refine iW1 hr (fun hc hr=> ?_) fun hc hr=> ?_
    ·obtain ⟨hg4,hr⟩:=of_guard1 hr
     obtain ⟨hg5,hr⟩:=of_guard1 hr
     obtain ⟨hg6,hr⟩:=of_guard1 hr
     obtain ⟨hg7,hr⟩:=of_guard1 hr
     repeat (first | refine gG hg4 ?_ | refine gG hg5 ?_ | refine gG hg6 ?_ | refine gG hg7 ?_ | refine gA ?_ | refine gB ?_)
     refine iW1 hr (fun hc hr=> ?_) fun hc hr=> ?_
     ·refine gr ?_
      refine S1.prune [] ?_
      refine S1.gx [5,6,11] ?_
      refine gr ?_
      refine gr ?_
      refine gr ?_
      refine S.gx [8] ?_
      exact D0 hr
     ·refine gr ?_
      refine S1.prune [1,2,5] ?_
      refine S1.gx [5,6,10] ?_
      refine gr ?_
      refine gr ?_
      refine iW1 hr (fun hc hr=> ?_) fun hc hr=> ?_
      ·refine gr ?_
       refine gr ?_
       refine S.gx [8] ?_
       exact D1 (S.ss [0,1,6] [] []) hr
      ·refine gr ?_
       refine iW1 hr (fun hc hr=> ?_) fun hc hr=> ?_
       ·refine gr ?_
        refine gr ?_
        refine S.gx [8] ?_
        exact D0 hr
       ·obtain ⟨v3,hv3,hr⟩:=of_bind1 hr
        refine gb hv3 ?_
        refine gr ?_
        refine S.gx [8] ?_
        exact D1 (S.ss [0,1,6] [] []) hr
    ·obtain ⟨hg9,hr⟩:=of_guard1 hr
     obtain ⟨hg10,hr⟩:=of_guard1 hr
     obtain ⟨hg11,hr⟩:=of_guard1 hr
     obtain ⟨hg12,hr⟩:=of_guard1 hr
     repeat (first | refine gG hg9 ?_ | refine gG hg10 ?_ | refine gG hg11 ?_ | refine gG hg12 ?_ | refine gA ?_ | refine gB ?_)
     refine iW1 hr (fun hc hr=> ?_) fun hc hr=> ?_
     ·refine gr ?_
      refine S1.prune [] ?_
      refine S1.gx [5,6,11] ?_
      refine gr ?_
      refine gr ?_
      refine gr ?_
      refine S.gx [8] ?_
      exact D0 hr
     ·refine gr ?_
      refine S1.prune [1,2,5] ?_
      refine S1.gx [5,6,10] ?_
      refine gr ?_
      refine gr ?_
      refine iW1 hr (fun hc hr=> ?_) fun hc hr=> ?_
      ·refine gr ?_
       refine gr ?_
       refine S.gx [8] ?_
       exact D1 (S.ss [0,1,6] [] []) hr
      ·refine gr ?_
       refine iW1 hr (fun hc hr=> ?_) fun hc hr=> ?_
       ·refine gr ?_
        refine gr ?_
        refine S.gx [8] ?_
        exact D0 hr
       ·obtain ⟨v8,hv8,hr⟩:=of_bind1 hr
        refine gb hv8 ?_
        refine gr ?_
        refine S.gx [8] ?_
        exact D1 (S.ss [0,1,6] [] []) hr
def b43_1 (R43:L_IIIIIH→Option (Int)) (a0:L_IIIIIH):Bd (Int×Int) Int:=fun s1=>
 if (decide (s1.2<(a0.length:Int)))=true then
  if 0≤s1.2∧s1.2<(a0.length:Int) then
   if (((a0.getD s1.2.toNat default).1) == 5)=true then
    if 0≤s1.2∧s1.2<(a0.length:Int) then
     if 0≤s1.2∧s1.2<(a0.length:Int) then
      bindC (R43 (hU ((a0.getD s1.2.toNat default).2.2.2.2.2))) fun v1=>
       .next ((if 61<IntKind.i64.wrap (s1.1+(IntKind.i64.wrap (((a0.getD s1.2.toNat default).2.2.2.1)*v1))) then 61 else IntKind.i64.wrap (s1.1+(IntKind.i64.wrap (((a0.getD s1.2.toNat default).2.2.2.1)*v1)))),IntKind.i64.wrap (s1.2+1))
      else .out none
     else .out none
    else .next ((if 61<IntKind.i64.wrap (s1.1+1) then 61 else IntKind.i64.wrap (s1.1+1)),IntKind.i64.wrap (s1.2+1))
   else .out none
  else .out (some s1.1)
def q43 (lv:Nat) (R43:L_IIIIIH→Option (Int)) (a0:L_IIIIIH):Option (Int):=
 iterC (b43_1 R43 a0) 1000000000 (0,0)
def r43:(ix:Nat)→L_IIIIIH→Option (Int)
 | 0=>fun _=>none
 | lv+1=>q43 lv (r43 lv)
@[go_sem] def T43 (ix:Nat):=qT20 qu3 false (r43 ix)
@[go_sem] def tb43 (lv:Nat) (k:Nat):=lk [(43,(T43 lv).sp)] k
theorem tb43_ok (lv:Nat) (h:FnFact Tryz.prog 43 (T43 lv).sp):FnsOk Tryz.prog (tb43 lv):= .cons h .nil
theorem f43 (ix:Nat):FnFact Tryz.prog 43 (T43 ix).sp:=by
 induction ix with
 | zero=>exact fact_no Tryz.func43 (by decide) rfl (fun a0 h=>Bool.false_ne_true h)
 | succ lv ih=>
 refine valid_m ty_ok (tb43_ok lv ih) Tryz.func43 rfl Tryz.ntmps43 fun a0 r hr=>⟨nL rfl,fun stop S=> ?_⟩
 replace hr:=(uq1 a0 (r43 (lv+1))).symm.trans hr
 rw [r43] at hr
 unfold q43 at hr
 refine S.gx [] ?_
 refine gr ?_
 refine S.sees [0,3,4] [] [] ?_ (Stop.iter S (fun s1=>⟨[(0,.c (.d (encF 6 d_IIIIIH a0))),(3,.c (.d (.int .i64 s1.1))),(4,.c (.d (.int .i64 s1.2)))],[],[]⟩) (b43_1 (r43 lv) a0) (fun q=>q=r) hr rfl ?_)
 ·exact lf
 ·intro s1 hr
  unfold b43_1 at hr
  refine S.gx [] ?_
  exact D1 (S.ss [0,3,4] [] []) hr
def b13_2 (a0:L_IIIIIH) (s1:(List (Int×Int×Int×Int×Int×Hl))×Int) (v3:L_IIIIIH):Bd (Int×(List (Int×Int×Int×Int×Int×Hl))) (Ctl ((List (Int×Int×Int×Int×Int×Hl))×Int) (L_IIIIIH)):=fun s2=>
 if 0≤s1.2∧s1.2<(a0.length:Int) then
  if (decide (s2.1<((a0.getD s1.2.toNat default).2.2.2.1)))=true then
   if (s2.2.length+v3.length)*64≤140737488355328∧s2.2.length+v3.length≤9223372036854775807 then
    .next (IntKind.i64.wrap (s2.1+1),s2.2++v3)
    else .out none
   else .out (some (.next (s2.2,IntKind.i64.wrap (s1.2+1))))
  else .out none
def b13_1 (R13:L_IIIIIH→Option (L_IIIIIH)) (a0:L_IIIIIH):Bd ((List (Int×Int×Int×Int×Int×Hl))×Int) L_IIIIIH:=fun s1=>
 if (decide (s1.2<(a0.length:Int)))=true then
  if 0≤s1.2∧s1.2<(a0.length:Int) then
   if (((a0.getD s1.2.toNat default).1) != 5)=true then
    if 0≤s1.2∧s1.2<(a0.length:Int) then
     if (s1.1.length+1)*64≤140737488355328∧s1.1.length+1≤9223372036854775807 then
      .next (s1.1++[((a0.getD s1.2.toNat default).1,(a0.getD s1.2.toNat default).2.1,(a0.getD s1.2.toNat default).2.2.1,(a0.getD s1.2.toNat default).2.2.2.1,(a0.getD s1.2.toNat default).2.2.2.2.1,(a0.getD s1.2.toNat default).2.2.2.2.2)],IntKind.i64.wrap (s1.2+1))
      else .out none
     else .out none
    else if 0≤s1.2∧s1.2<(a0.length:Int) then
     bindC (R13 (hU ((a0.getD s1.2.toNat default).2.2.2.2.2))) fun v3=>
      (iterC (b13_2 a0 s1 v3) 1000000000 (0,s1.1)).getD (.out none)
     else .out none
   else .out none
  else .out (some s1.1)
def q13 (lv:Nat) (R13:L_IIIIIH→Option (L_IIIIIH)) (a0:L_IIIIIH):Option (L_IIIIIH):=
 iterC (b13_1 R13 a0) 1000000000 ([],0)
def r13:(ix:Nat)→L_IIIIIH→Option (L_IIIIIH)
 | 0=>fun _=>none
 | lv+1=>q13 lv (r13 lv)
@[go_sem] def T13 (ix:Nat):=qT20 qu1 true (r13 ix)
@[go_sem] def tb13 (lv:Nat) (k:Nat):=lk [(13,(T13 lv).sp)] k
theorem tb13_ok (lv:Nat) (h:FnFact Tryz.prog 13 (T13 lv).sp):FnsOk Tryz.prog (tb13 lv):= .cons h .nil
theorem f13 (ix:Nat):FnFact Tryz.prog 13 (T13 ix).sp:=by
 induction ix with
 | zero=>exact fact_no Tryz.func13 (by decide) rfl (fun a0 h=>Bool.false_ne_true h)
 | succ lv ih=>
 refine valid_m ty_ok (tb13_ok lv ih) Tryz.func13 rfl Tryz.ntmps13 fun a0 r hr=>⟨nL rfl,fun stop S=> ?_⟩
 replace hr:=(uq1 a0 (r13 (lv+1))).symm.trans hr
 rw [r13] at hr
 unfold q13 at hr
 refine S.gx [] ?_
 refine gr ?_
 refine S.own0 3 1000300 6 rfl rfl ?_
 refine S.sees [0,3,4] [] [(1000300,1000300)] ?_ (Stop.iter S (fun s1=>⟨[(0,.c (.d (encF 6 d_IIIIIH a0))),(3,.c (.own 1000300)),(4,.c (.d (.int .i64 s1.2)))],[],[(1000300,.owned (encF 6 d_IIIIIH s1.1))]⟩) (b13_1 (r13 lv) a0) (fun q=>q=r) hr rfl ?_)
 ·exact lf
 ·intro s1 hr
  unfold b13_1 at hr
  refine S.gx [] ?_
  refine gr ?_
  refine iW1 hr (fun hc hr=> ?_) fun hc hr=>D0 hr
  obtain ⟨hg7,hr⟩:=of_guard1 hr
  refine gr ?_
  refine iW1 hr (fun hc hr=>D1 (S.ss [0,3,4] [] [(25,1000300)]) hr) fun hc hr=> ?_
  obtain ⟨hg6,hr⟩:=of_guard1 hr
  obtain ⟨v3,hv3,hr⟩:=of_bind1 hr
  refine gb hv3 ?_
  obtain ⟨q2,hq,hr⟩:=of_iter1 hr
  refine S.sees [0,3,4,5,6] [] [(1000300,1000300),(31,31)] ?_ (Stop.iter S (fun s2=>⟨[(0,.c (.d (encF 6 d_IIIIIH a0))),(3,.c (.own 1000300)),(4,.c (.d (.int .i64 s1.2))),(5,.c (.own 31)),(6,.c (.d (.int .i64 s2.1)))],[],[(1000300,.owned (encF 6 d_IIIIIH s2.2)),(31,.owned (encF 6 d_IIIIIH v3))]⟩) (b13_2 a0 s1 v3) _ hq hr ?_)
  ·exact lf
  ·intro s2 hr
   unfold b13_2 at hr
   refine S.gx [] ?_
   obtain ⟨hg5,hr⟩:=of_guard1 hr
   refine gr ?_
   refine iW1 hr (fun hc hr=>D1 (S.ss [0,3,4,5,6] [] [(43,1000300),(31,31)]) hr) fun hc hr=> ?_
   refine gr ?_
   replace hr:=goodC_out hr
   exact D1 (S.ss [0,3,4] [] [(1000300,1000300)]) hr
def r44 (x0 x1 x2 x3 x4:Int) (x5:Hl):Option (Bool):=
 some ((x0 == 2) || (x0 == 4))
@[go_sem] def T44:=qT21 qu2 false r44
theorem f44:FnFact Tryz.prog 44 T44.sp:=by
 refine vm .nil Tryz.func44 Tryz.ntmps44 fun ⟨x0,x1,x2,x3,x4,x5⟩ r hr stop S=> ?_
 rw [uq6,r44] at hr
 refine S.gx [] ?_
 repeat (first | refine gA ?_ | refine gB ?_)
 exact D0 hr
end Go.Proofs.YtkbdjphdhcgmaaaGreatDoor

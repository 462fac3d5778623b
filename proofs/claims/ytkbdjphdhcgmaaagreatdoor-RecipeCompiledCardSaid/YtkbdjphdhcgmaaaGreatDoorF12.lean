/- Contracts of functions, written by wip/dec. -/
import Derived.Test.YtkbdjphdhcgmaaaGreatDoorF00
set_option linter.unusedVariables false
set_option linter.unusedSimpArgs false
set_option linter.constructorNameAsVariable false
set_option maxHeartbeats 4000000
set_option maxRecDepth 20000
namespace Go.Proofs.YtkbdjphdhcgmaaaGreatDoor
open Go.dR
def Ij (R35:aK->Int->Option (Bool)) (a0:aK) (a1:Int):Bd Int Bool:=fun s1=>
 if (decide (s1<(a0.length:Int)))=true then
  if 0<=s1/\s1<(a0.length:Int) then
   aP (R35 (hU ((a0.getD s1.toNat default).2.2.2.2.2)) (IntKind.i64.wrap (a1+1))) fun v1=>
    if (!v1)=true then
     .out (some false)
     else .next (IntKind.i64.wrap (s1+1))
   else .out none
  else .out (some true)
def q35 (lv:Nat) (R35:aK->Int->Option (Bool)) (a0:aK) (a1:Int):Option (Bool):=
 if ((decide ((a0.length:Int)>14)) || (decide (a1>5)))=true then
  some false
  else aS (Ij R35 a0 a1) 1000000000 0
def r35:(ix:Nat)->aK->Int->Option (Bool)
 | 0=>fun _ _=>none
 | lv+1=>q35 lv (r35 lv)
@[go_sem] def T35 (ix:Nat):=aiY oQ false (r35 ix)
@[go_sem] def az8 (lv:Nat) (k:Nat):=lk [(35,(T35 lv).sp)] k
theorem aep (lv:Nat) (h:aF Tryz.prog 35 (T35 lv).sp):dS Tryz.prog (az8 lv):= .cons h .nil
theorem f35 (ix:Nat):aF Tryz.prog 35 (T35 ix).sp:=by
 induction ix with
 | zero=>exact qQ Tryz.func35 (by decide) rfl (fun ⟨a0,a1⟩ h=>Bool.false_ne_true h)
 | succ lv ih=>
 refine oM bP (aep lv ih) Tryz.func35 rfl Tryz.ntmps35 fun ⟨a0,a1⟩ r hr=>⟨nL rfl,fun stop S=> ?_⟩
 replace hr:=(yI a0 a1 (r35 (lv+1))).symm.trans hr
 rw [r35] at hr
 unfold q35 at hr
 refine S.gx [] ?_
 repeat (first | refine gA ?_ | refine gB ?_)
 refine iW hr (fun hc hr=>D0 hr) fun hc hr=> ?_
 refine gr ?_
 refine S.sees [0,1,5] [] [] ?_ (Stop.iter S (fun s1=>⟨[(0,.c (.d (ah 6 aZ a0))),(1,.c (.d (.int .i64 a1))),(5,.c (.d (.int .i64 s1)))],[],[]⟩) (Ij (r35 lv) a0 a1) (fun q=>q=r) hr rfl ?_)
 ·exact lf
 ·intro s1 hr
  unfold Ij at hr
  refine S.gx [] ?_
  exact D1 (S.ss [0,1,5] [] []) hr
def Ii (R36:aK->Option (Int)) (a0:aK):Bd (Int×Int) Int:=fun s1=>
 if ((decide (s1.2<(a0.length:Int))) && (decide (s1.1<=100)))=true then
  if 0<=s1.2/\s1.2<(a0.length:Int) then
   aP (R36 (hU ((a0.getD s1.2.toNat default).2.2.2.2.2))) fun v1=>
    .next (IntKind.i64.wrap (s1.1+v1),IntKind.i64.wrap (s1.2+1))
   else .out none
  else .out (some s1.1)
def q36 (lv:Nat) (R36:aK->Option (Int)) (a0:aK):Option (Int):=
 aS (Ii R36 a0) 1000000000 ((a0.length:Int),0)
def r36:(ix:Nat)->aK->Option (Int)
 | 0=>fun _=>none
 | lv+1=>q36 lv (r36 lv)
@[go_sem] def T36 (ix:Nat):=Dc lC false (r36 ix)
@[go_sem] def az7 (lv:Nat) (k:Nat):=lk [(36,(T36 lv).sp)] k
theorem aeo (lv:Nat) (h:aF Tryz.prog 36 (T36 lv).sp):dS Tryz.prog (az7 lv):= .cons h .nil
theorem f36 (ix:Nat):aF Tryz.prog 36 (T36 ix).sp:=by
 induction ix with
 | zero=>exact qQ Tryz.func36 (by decide) rfl (fun a0 h=>Bool.false_ne_true h)
 | succ lv ih=>
 refine oM bP (aeo lv ih) Tryz.func36 rfl Tryz.ntmps36 fun a0 r hr=>⟨nL rfl,fun stop S=> ?_⟩
 replace hr:=(oC a0 (r36 (lv+1))).symm.trans hr
 rw [r36] at hr
 unfold q36 at hr
 refine S.gx [] ?_
 refine gr ?_
 refine S.sees [0,3,4] [] [] ?_ (Stop.iter S (fun s1=>⟨[(0,.c (.d (ah 6 aZ a0))),(3,.c (.d (.int .i64 s1.1))),(4,.c (.d (.int .i64 s1.2)))],[],[]⟩) (Ii (r36 lv) a0) (fun q=>q=r) hr rfl ?_)
 ·exact lf
 ·intro s1 hr
  unfold Ii at hr
  refine S.gx [] ?_
  repeat (first | refine gA ?_ | refine gB ?_)
  exact D1 (S.ss [0,3,4] [] []) hr
def r7 (a0:aK):Option (Bool):=
 (r35 7 a0 0).bind fun v1=>
  if v1=true->(r36 7 a0).isSome=true then
   some (v1 && (decide (((r36 7 a0).getD default)<=60)))
   else none
@[go_sem] def T7:=Dc oQ false r7
@[go_sem] def tb7 (k:Nat):=lk [(35,(T35 7).sp),(36,(T36 7).sp)] k
theorem f7:aF Tryz.prog 7 T7.sp:=by
 refine vm (tb:=tb7) (.cons (f35 7) (.cons (f36 7) .nil)) Tryz.func7 Tryz.ntmps7 fun a0 r hr stop S=> ?_
 rw [oC,r7] at hr
 refine S.gx [] ?_
 obtain ⟨v1,hv1,hr⟩:=aA hr
 obtain ⟨hg2,hr⟩:=aN hr
 try simp only [hv1,oG,oI,true_and,and_assoc]
 repeat (first | refine gG hg2 ?_ | refine gA ?_ | refine gB ?_)
 exact D0 hr
def Y6 (R9:aK->Option (aK)) (a0:aK):Bd ((List (Int×Int×Int×Int×Int×Hl))×Int) aK:=fun s1=>
 if (decide (s1.2<(a0.length:Int)))=true then
  if 0<=s1.2/\s1.2<(a0.length:Int) then
   if 0<=s1.2/\s1.2<(a0.length:Int) then
    aP (R9 (hU ((a0.getD s1.2.toNat default).2.2.2.2.2))) fun v1=>
     if (s1.1.length+1)*64<=140737488355328/\s1.1.length+1<=9223372036854775807 then
      .next (s1.1++[((a0.getD s1.2.toNat default).1,(a0.getD s1.2.toNat default).2.1,(a0.getD s1.2.toNat default).2.2.1,(a0.getD s1.2.toNat default).2.2.2.1,(a0.getD s1.2.toNat default).2.2.2.2.1,hM v1)],IntKind.i64.wrap (s1.2+1))
      else .out none
    else .out none
   else .out none
  else .out (some s1.1)
def q9 (lv:Nat) (R9:aK->Option (aK)) (a0:aK):Option (aK):=
 aS (Y6 R9 a0) 1000000000 ([],0)
def r9:(ix:Nat)->aK->Option (aK)
 | 0=>fun _=>none
 | lv+1=>q9 lv (r9 lv)
@[go_sem] def T9 (ix:Nat):=Dc qu1 true (r9 ix)
@[go_sem] def tb9 (lv:Nat) (k:Nat):=lk [(9,(T9 lv).sp)] k
theorem ahX (lv:Nat) (h:aF Tryz.prog 9 (T9 lv).sp):dS Tryz.prog (tb9 lv):= .cons h .nil
theorem f9 (ix:Nat):aF Tryz.prog 9 (T9 ix).sp:=by
 induction ix with
 | zero=>exact qQ Tryz.func9 (by decide) rfl (fun a0 h=>Bool.false_ne_true h)
 | succ lv ih=>
 refine oM bP (ahX lv ih) Tryz.func9 rfl Tryz.ntmps9 fun a0 r hr=>⟨nL rfl,fun stop S=> ?_⟩
 replace hr:=(oC a0 (r9 (lv+1))).symm.trans hr
 rw [r9] at hr
 unfold q9 at hr
 refine S.gx [] ?_
 refine gr ?_
 refine S.Dp 3 1000300 6 rfl rfl ?_
 refine S.sees [0,3,4] [] [(1000300,1000300)] ?_ (Stop.iter S (fun s1=>⟨[(0,.c (.d (ah 6 aZ a0))),(3,.c (.own 1000300)),(4,.c (.d (.int .i64 s1.2)))],[],[(1000300,.owned (ah 6 aZ s1.1))]⟩) (Y6 (r9 lv) a0) (fun q=>q=r) hr rfl ?_)
 ·exact lf
 ·intro s1 hr
  unfold Y6 at hr
  refine S.gx [] ?_
  exact D1 (S.ss [0,3,4] [] [(26,1000300)]) hr
section
variable {β:Type} [Inhabited β] (u:β->List RV) (al:Bool)
def aqk (v:Bool×Bool×Bool×Bool):List RV:=[.agg [.d (.bool v.1),.d (.bool v.2.1),.d (.bool v.2.2.1),.d (.bool v.2.2.2)]]
attribute [go_sem] aqk
end
def pW (a0 a1 a2:Int):Option (Bool):=
 some ((decide (a1<=a0)) && (decide (a0<=a2)))
@[go_sem] def T57:=qT1 oQ false pW
theorem f57:aF Tryz.prog 57 T57.sp:=by
 refine vm .nil Tryz.func57 Tryz.ntmps57 fun ⟨a0,a1,a2⟩ r hr stop S=> ?_
 rw [Zd,pW] at hr
 refine S.gx [] ?_
 repeat (first | refine gA ?_ | refine gB ?_)
 exact D0 hr
def r97 (a0:Int):Option (Bool×Bool×Bool×Bool):=
 if (a0 == 0)=true then
  some (true,false,false,false)
  else if (a0 == 2)=true then
   some (false,true,false,false)
   else if (a0 == 3)=true then
    some (true,false,true,false)
    else if (a0 == 4)=true then
     some (false,true,true,false)
     else if (a0 == 5)=true then
      some (false,false,false,true)
      else some (false,false,false,false)
@[go_sem] def T97:=KQ aqk false r97
theorem f97:aF Tryz.prog 97 T97.sp:=by
 refine vm .nil Tryz.func97 Tryz.ntmps97 fun a0 r hr stop S=> ?_
 rw [oC,r97] at hr
 refine S.gx [] ?_
 exact D0 hr
def Ze (a0:Int):Option (Bool):=
 (pW a0 200 3000).bind fun v1=>
  some v1
@[go_sem] def T98:=KQ oQ false Ze
@[go_sem] def azF (k:Nat):=lk [(57,T57.sp)] k
theorem f98:aF Tryz.prog 98 T98.sp:=by
 refine vm (tb:=azF) (.cons f57 .nil) Tryz.func98 Tryz.ntmps98 fun a0 r hr stop S=> ?_
 rw [oC,Ze] at hr
 refine S.gx [] ?_
 exact D0 hr
def Ia (R42:aK->Int->Option (Int×Int)) (a0:aK) (a1:Int):Bd Int (Int×Int):=fun s1=>
 if (decide (s1<(a0.length:Int)))=true then
  if 0<=s1/\s1<(a0.length:Int) then
   aP (pW ((a0.getD s1.toNat default).1) 0 5) fun v1=>
    if (!v1)=true then
     .out (some (s1,15))
     else aP (r97 ((a0.getD s1.toNat default).1)) fun v2=>
      if (((((!v2.1) && (((a0.getD s1.toNat default).2.1) != 0)) || ((!v2.2.1) && (((a0.getD s1.toNat default).2.2.1) != 0))) || ((!v2.2.2.1) && (((a0.getD s1.toNat default).2.2.2.2.1) != 0))) || ((!v2.2.2.2) && (decide (((hU ((a0.getD s1.toNat default).2.2.2.2.2)).length:Int)>0))))=true then
       .out (some (s1,3))
       else if v2.2.2.2=true then
        if v2.1=true->(pW ((a0.getD s1.toNat default).2.1) 1 10000).isSome=true then
         if ((!(v2.1 && (!((pW ((a0.getD s1.toNat default).2.1) 1 10000).getD default)))) && v2.2.1)=true->(pW ((a0.getD s1.toNat default).2.2.1) 0 3).isSome=true then
          if (!((v2.1 && (!((pW ((a0.getD s1.toNat default).2.1) 1 10000).getD default))) || (v2.2.1 && (!((pW ((a0.getD s1.toNat default).2.2.1) 0 3).getD default)))))=true->(pW ((a0.getD s1.toNat default).2.2.2.1) 1 10).isSome=true then
           if ((!(((v2.1 && (!((pW ((a0.getD s1.toNat default).2.1) 1 10000).getD default))) || (v2.2.1 && (!((pW ((a0.getD s1.toNat default).2.2.1) 0 3).getD default)))) || (!((pW ((a0.getD s1.toNat default).2.2.2.1) 1 10).getD default)))) && v2.2.2.1)=true->(Ze ((a0.getD s1.toNat default).2.2.2.2.1)).isSome=true then
            if ((((v2.1 && (!((pW ((a0.getD s1.toNat default).2.1) 1 10000).getD default))) || (v2.2.1 && (!((pW ((a0.getD s1.toNat default).2.2.1) 0 3).getD default)))) || (!((pW ((a0.getD s1.toNat default).2.2.2.1) 1 10).getD default))) || (v2.2.2.1 && (!((Ze ((a0.getD s1.toNat default).2.2.2.2.1)).getD default))))=true then
             .out (some (s1,2))
             else if (!v2.2.2.2)=true then
              .next (IntKind.i64.wrap (s1+1))
              else if (decide (a1>=3))=true then
               .out (some (s1,16))
               else aP (R42 (hU ((a0.getD s1.toNat default).2.2.2.2.2)) (IntKind.i64.wrap (a1+1))) fun v3=>
                if (v3.2 != 0)=true then
                 .out (some (s1,v3.2))
                 else .next (IntKind.i64.wrap (s1+1))
            else .out none
           else .out none
          else .out none
         else .out none
        else if v2.1=true->(pW ((a0.getD s1.toNat default).2.1) 1 10000).isSome=true then
         if ((!(v2.1 && (!((pW ((a0.getD s1.toNat default).2.1) 1 10000).getD default)))) && v2.2.1)=true->(pW ((a0.getD s1.toNat default).2.2.1) 0 3).isSome=true then
          if (!((v2.1 && (!((pW ((a0.getD s1.toNat default).2.1) 1 10000).getD default))) || (v2.2.1 && (!((pW ((a0.getD s1.toNat default).2.2.1) 0 3).getD default)))))=true->(pW ((a0.getD s1.toNat default).2.2.2.1) 1 200).isSome=true then
           if ((!(((v2.1 && (!((pW ((a0.getD s1.toNat default).2.1) 1 10000).getD default))) || (v2.2.1 && (!((pW ((a0.getD s1.toNat default).2.2.1) 0 3).getD default)))) || (!((pW ((a0.getD s1.toNat default).2.2.2.1) 1 200).getD default)))) && v2.2.2.1)=true->(Ze ((a0.getD s1.toNat default).2.2.2.2.1)).isSome=true then
            if ((((v2.1 && (!((pW ((a0.getD s1.toNat default).2.1) 1 10000).getD default))) || (v2.2.1 && (!((pW ((a0.getD s1.toNat default).2.2.1) 0 3).getD default)))) || (!((pW ((a0.getD s1.toNat default).2.2.2.1) 1 200).getD default))) || (v2.2.2.1 && (!((Ze ((a0.getD s1.toNat default).2.2.2.2.1)).getD default))))=true then
             .out (some (s1,2))
             else if (!v2.2.2.2)=true then
              .next (IntKind.i64.wrap (s1+1))
              else if (decide (a1>=3))=true then
               .out (some (s1,16))
               else aP (R42 (hU ((a0.getD s1.toNat default).2.2.2.2.2)) (IntKind.i64.wrap (a1+1))) fun v8=>
                if (v8.2 != 0)=true then
                 .out (some (s1,v8.2))
                 else .next (IntKind.i64.wrap (s1+1))
            else .out none
           else .out none
          else .out none
         else .out none
   else .out none
  else .out (some (0,0))
def q42 (lv:Nat) (R42:aK->Int->Option (Int×Int)) (a0:aK) (a1:Int):Option (Int×Int):=
 if ((a0.length:Int) == 0)=true then
  some (0,10)
  else if (decide ((a0.length:Int)>12))=true then
   some (0,8)
   else aS (Ia R42 a0 a1) 1000000000 0
def r42:(ix:Nat)->aK->Int->Option (Int×Int)
 | 0=>fun _ _=>none
 | lv+1=>q42 lv (r42 lv)
@[go_sem] def T42 (ix:Nat):=aiY Gq false (r42 ix)
@[go_sem] def az6 (lv:Nat) (k:Nat):=lk [(42,(T42 lv).sp),(57,T57.sp),(97,T97.sp),(98,T98.sp)] k
theorem VE (lv:Nat) (h:aF Tryz.prog 42 (T42 lv).sp):dS Tryz.prog (az6 lv):= .cons h (.cons f57 (.cons f97 (.cons f98 .nil)))
theorem f42 (ix:Nat):aF Tryz.prog 42 (T42 ix).sp:=by
 induction ix with
 | zero=>exact qQ Tryz.func42 (by decide) rfl (fun ⟨a0,a1⟩ h=>Bool.false_ne_true h)
 | succ lv ih=>
 refine oM bP (VE lv ih) Tryz.func42 rfl Tryz.ntmps42 fun ⟨a0,a1⟩ r hr=>⟨nL rfl,fun stop S=> ?_⟩
 replace hr:=(yI a0 a1 (r42 (lv+1))).symm.trans hr
 rw [r42] at hr
 unfold q42 at hr
 refine S.gx [8] ?_
 refine gr ?_
 refine iW hr (fun hc hr=>D0 hr) fun hc hr=> ?_
 refine gr ?_
 refine iW hr (fun hc hr=>D0 hr) fun hc hr=> ?_
 refine gr ?_
 refine S.sees [0,1,6] [] [] ?_ (Stop.iter S (fun s1=>⟨[(0,.c (.d (ah 6 aZ a0))),(1,.c (.d (.int .i64 a1))),(6,.c (.d (.int .i64 s1)))],[],[]⟩) (Ia (r42 lv) a0 a1) (fun q=>q=r) hr rfl ?_)
 ·exact lf
 ·intro s1 hr
  unfold Ia at hr
  refine S.gx [8] ?_
  refine gr ?_
  refine cZ hr (fun hc hr=> ?_) fun hc hr=>D0 hr
  refine gr ?_
  refine S.inl 5 [0,1,6] [] Tryz.func70 (by decide) rfl Tryz.ntmps70 (fun cx e=>aX bP (VE lv ih) cx e) (some 25) rfl rfl rfl rfl (nL rfl) (nL rfl) ?_
  refine gs ?_
  obtain ⟨JH,hr⟩:=aB hr
  refine gr ?_
  intro stop1 S1
  refine S1.gx [5,6,10,11] ?_
  obtain ⟨v1,hv1,hr⟩:=aI hr
  refine gb hv1 ?_
  refine cZ hr (fun hc hr=> ?_) fun hc hr=> ?_
  ·refine gr ?_
   refine gr ?_
   refine S.gx [8] ?_
   exact D0 hr
  ·obtain ⟨v2,hv2,hr⟩:=aI hr
   try simp only [hv2,oG,oI,true_and,and_assoc]
   repeat (first | refine gA ?_ | refine gB ?_)
   refine cZ hr (fun hc hr=> ?_) fun hc hr=> ?_
   ·refine gr ?_
    refine S1.prune [] ?_
    refine S1.gx [6,10,11] ?_
    refine gr ?_
    refine gr ?_
    refine gr ?_
    refine S.gx [8] ?_
    exact D0 hr
   ·refine gr ?_
    refine S1.prune [1,2,5] ?_
    refine S1.gx [5,10,11] ?_
    refine gr ?_
    refine gr ?_
    refine cZ hr (fun hc hr=> ?_) fun hc hr=> ?_
    ·obtain ⟨hg4,hr⟩:=aB hr
     obtain ⟨hg5,hr⟩:=aB hr
     obtain ⟨Zg,hr⟩:=aB hr
     obtain ⟨Wx,hr⟩:=aB hr
     repeat (first | refine gG hg4 ?_ | refine gG hg5 ?_ | refine gG Zg ?_ | refine gG Wx ?_ | refine gA ?_ | refine gB ?_)
     refine cZ hr (fun hc hr=> ?_) fun hc hr=> ?_
     ·refine gr ?_
      refine S1.prune [] ?_
      refine S1.gx [5,6,11] ?_
      refine gr ?_
      refine gr ?_
      refine gr ?_
      refine S.gx [8] ?_
      exact D0 hr
     ·refine gr ?_
      refine S1.prune [1,2,5] ?_
      refine S1.gx [5,6,10] ?_
      refine gr ?_
      refine gr ?_
      refine cZ hr (fun hc hr=> ?_) fun hc hr=> ?_
      ·refine gr ?_
       refine gr ?_
       refine S.gx [8] ?_
       exact D1 (S.ss [0,1,6] [] []) hr
      ·refine gr ?_
       refine cZ hr (fun hc hr=> ?_) fun hc hr=> ?_
       ·refine gr ?_
        refine gr ?_
        refine S.gx [8] ?_
        exact D0 hr
       ·obtain ⟨v3,hv3,hr⟩:=aI hr
        refine gb hv3 ?_
        refine gr ?_
        refine S.gx [8] ?_
        exact D1 (S.ss [0,1,6] [] []) hr
    ·obtain ⟨Nk,hr⟩:=aB hr
     obtain ⟨uX,hr⟩:=aB hr
     obtain ⟨y7,hr⟩:=aB hr
     obtain ⟨y5,hr⟩:=aB hr
     repeat (first | refine gG Nk ?_ | refine gG uX ?_ | refine gG y7 ?_ | refine gG y5 ?_ | refine gA ?_ | refine gB ?_)
     refine cZ hr (fun hc hr=> ?_) fun hc hr=> ?_
     ·refine gr ?_
      refine S1.prune [] ?_
      refine S1.gx [5,6,11] ?_
      refine gr ?_
      refine gr ?_
      refine gr ?_
      refine S.gx [8] ?_
      exact D0 hr
     ·refine gr ?_
      refine S1.prune [1,2,5] ?_
      refine S1.gx [5,6,10] ?_
      refine gr ?_
      refine gr ?_
      refine cZ hr (fun hc hr=> ?_) fun hc hr=> ?_
      ·refine gr ?_
       refine gr ?_
       refine S.gx [8] ?_
       exact D1 (S.ss [0,1,6] [] []) hr
      ·refine gr ?_
       refine cZ hr (fun hc hr=> ?_) fun hc hr=> ?_
       ·refine gr ?_
        refine gr ?_
        refine S.gx [8] ?_
        exact D0 hr
       ·obtain ⟨v8,JC,hr⟩:=aI hr
        refine gb JC ?_
        refine gr ?_
        refine S.gx [8] ?_
        exact D1 (S.ss [0,1,6] [] []) hr
def EK (R43:aK->Option (Int)) (a0:aK):Bd (Int×Int) Int:=fun s1=>
 if (decide (s1.2<(a0.length:Int)))=true then
  if 0<=s1.2/\s1.2<(a0.length:Int) then
   if (((a0.getD s1.2.toNat default).1) == 5)=true then
    if 0<=s1.2/\s1.2<(a0.length:Int) then
     if 0<=s1.2/\s1.2<(a0.length:Int) then
      aP (R43 (hU ((a0.getD s1.2.toNat default).2.2.2.2.2))) fun v1=>
       .next ((if 61<IntKind.i64.wrap (s1.1+(IntKind.i64.wrap (((a0.getD s1.2.toNat default).2.2.2.1)*v1))) then 61 else IntKind.i64.wrap (s1.1+(IntKind.i64.wrap (((a0.getD s1.2.toNat default).2.2.2.1)*v1)))),IntKind.i64.wrap (s1.2+1))
      else .out none
     else .out none
    else .next ((if 61<IntKind.i64.wrap (s1.1+1) then 61 else IntKind.i64.wrap (s1.1+1)),IntKind.i64.wrap (s1.2+1))
   else .out none
  else .out (some s1.1)
def q43 (lv:Nat) (R43:aK->Option (Int)) (a0:aK):Option (Int):=
 aS (EK R43 a0) 1000000000 (0,0)
def r43:(ix:Nat)->aK->Option (Int)
 | 0=>fun _=>none
 | lv+1=>q43 lv (r43 lv)
@[go_sem] def T43 (ix:Nat):=Dc lC false (r43 ix)
@[go_sem] def az5 (lv:Nat) (k:Nat):=lk [(43,(T43 lv).sp)] k
theorem aen (lv:Nat) (h:aF Tryz.prog 43 (T43 lv).sp):dS Tryz.prog (az5 lv):= .cons h .nil
theorem f43 (ix:Nat):aF Tryz.prog 43 (T43 ix).sp:=by
 induction ix with
 | zero=>exact qQ Tryz.func43 (by decide) rfl (fun a0 h=>Bool.false_ne_true h)
 | succ lv ih=>
 refine oM bP (aen lv ih) Tryz.func43 rfl Tryz.ntmps43 fun a0 r hr=>⟨nL rfl,fun stop S=> ?_⟩
 replace hr:=(oC a0 (r43 (lv+1))).symm.trans hr
 rw [r43] at hr
 unfold q43 at hr
 refine S.gx [] ?_
 refine gr ?_
 refine S.sees [0,3,4] [] [] ?_ (Stop.iter S (fun s1=>⟨[(0,.c (.d (ah 6 aZ a0))),(3,.c (.d (.int .i64 s1.1))),(4,.c (.d (.int .i64 s1.2)))],[],[]⟩) (EK (r43 lv) a0) (fun q=>q=r) hr rfl ?_)
 ·exact lf
 ·intro s1 hr
  unfold EK at hr
  refine S.gx [] ?_
  exact D1 (S.ss [0,3,4] [] []) hr
def Iu (a0:aK) (s1:(List (Int×Int×Int×Int×Int×Hl))×Int) (v3:aK):Bd (Int×(List (Int×Int×Int×Int×Int×Hl))) (cO ((List (Int×Int×Int×Int×Int×Hl))×Int) (aK)):=fun s2=>
 if 0<=s1.2/\s1.2<(a0.length:Int) then
  if (decide (s2.1<((a0.getD s1.2.toNat default).2.2.2.1)))=true then
   if (s2.2.length+v3.length)*64<=140737488355328/\s2.2.length+v3.length<=9223372036854775807 then
    .next (IntKind.i64.wrap (s2.1+1),s2.2++v3)
    else .out none
   else .out (some (.next (s2.2,IntKind.i64.wrap (s1.2+1))))
  else .out none
def ER (R13:aK->Option (aK)) (a0:aK):Bd ((List (Int×Int×Int×Int×Int×Hl))×Int) aK:=fun s1=>
 if (decide (s1.2<(a0.length:Int)))=true then
  if 0<=s1.2/\s1.2<(a0.length:Int) then
   if (((a0.getD s1.2.toNat default).1) != 5)=true then
    if 0<=s1.2/\s1.2<(a0.length:Int) then
     if (s1.1.length+1)*64<=140737488355328/\s1.1.length+1<=9223372036854775807 then
      .next (s1.1++[((a0.getD s1.2.toNat default).1,(a0.getD s1.2.toNat default).2.1,(a0.getD s1.2.toNat default).2.2.1,(a0.getD s1.2.toNat default).2.2.2.1,(a0.getD s1.2.toNat default).2.2.2.2.1,(a0.getD s1.2.toNat default).2.2.2.2.2)],IntKind.i64.wrap (s1.2+1))
      else .out none
     else .out none
    else if 0<=s1.2/\s1.2<(a0.length:Int) then
     aP (R13 (hU ((a0.getD s1.2.toNat default).2.2.2.2.2))) fun v3=>
      (aS (Iu a0 s1 v3) 1000000000 (0,s1.1)).getD (.out none)
     else .out none
   else .out none
  else .out (some s1.1)
def q13 (lv:Nat) (R13:aK->Option (aK)) (a0:aK):Option (aK):=
 aS (ER R13 a0) 1000000000 ([],0)
def r13:(ix:Nat)->aK->Option (aK)
 | 0=>fun _=>none
 | lv+1=>q13 lv (r13 lv)
@[go_sem] def T13 (ix:Nat):=Dc qu1 true (r13 ix)
@[go_sem] def aAg (lv:Nat) (k:Nat):=lk [(13,(T13 lv).sp)] k
theorem aer (lv:Nat) (h:aF Tryz.prog 13 (T13 lv).sp):dS Tryz.prog (aAg lv):= .cons h .nil
theorem f13 (ix:Nat):aF Tryz.prog 13 (T13 ix).sp:=by
 induction ix with
 | zero=>exact qQ Tryz.func13 (by decide) rfl (fun a0 h=>Bool.false_ne_true h)
 | succ lv ih=>
 refine oM bP (aer lv ih) Tryz.func13 rfl Tryz.ntmps13 fun a0 r hr=>⟨nL rfl,fun stop S=> ?_⟩
 replace hr:=(oC a0 (r13 (lv+1))).symm.trans hr
 rw [r13] at hr
 unfold q13 at hr
 refine S.gx [] ?_
 refine gr ?_
 refine S.Dp 3 1000300 6 rfl rfl ?_
 refine S.sees [0,3,4] [] [(1000300,1000300)] ?_ (Stop.iter S (fun s1=>⟨[(0,.c (.d (ah 6 aZ a0))),(3,.c (.own 1000300)),(4,.c (.d (.int .i64 s1.2)))],[],[(1000300,.owned (ah 6 aZ s1.1))]⟩) (ER (r13 lv) a0) (fun q=>q=r) hr rfl ?_)
 ·exact lf
 ·intro s1 hr
  unfold ER at hr
  refine S.gx [] ?_
  refine gr ?_
  refine cZ hr (fun hc hr=> ?_) fun hc hr=>D0 hr
  obtain ⟨Wx,hr⟩:=aB hr
  refine gr ?_
  refine cZ hr (fun hc hr=>D1 (S.ss [0,3,4] [] [(25,1000300)]) hr) fun hc hr=> ?_
  obtain ⟨Zg,hr⟩:=aB hr
  obtain ⟨v3,hv3,hr⟩:=aI hr
  refine gb hv3 ?_
  obtain ⟨q2,hq,hr⟩:=gV hr
  refine S.sees [0,3,4,5,6] [] [(1000300,1000300),(31,31)] ?_ (Stop.iter S (fun s2=>⟨[(0,.c (.d (ah 6 aZ a0))),(3,.c (.own 1000300)),(4,.c (.d (.int .i64 s1.2))),(5,.c (.own 31)),(6,.c (.d (.int .i64 s2.1)))],[],[(1000300,.owned (ah 6 aZ s2.2)),(31,.owned (ah 6 aZ v3))]⟩) (Iu a0 s1 v3) _ hq hr ?_)
  ·exact lf
  ·intro s2 hr
   unfold Iu at hr
   refine S.gx [] ?_
   obtain ⟨hg5,hr⟩:=aB hr
   refine gr ?_
   refine cZ hr (fun hc hr=>D1 (S.ss [0,3,4,5,6] [] [(43,1000300),(31,31)]) hr) fun hc hr=> ?_
   refine gr ?_
   replace hr:=aU hr
   exact D1 (S.ss [0,3,4] [] [(1000300,1000300)]) hr
def r44 (x0 x1 x2 x3 x4:Int) (x5:Hl):Option (Bool):=
 some ((x0 == 2) || (x0 == 4))
@[go_sem] def T44:=XR oQ false r44
theorem f44:aF Tryz.prog 44 T44.sp:=by
 refine vm .nil Tryz.func44 Tryz.ntmps44 fun ⟨x0,x1,x2,x3,x4,x5⟩ r hr stop S=> ?_
 rw [OW,r44] at hr
 refine S.gx [] ?_
 repeat (first | refine gA ?_ | refine gB ?_)
 exact D0 hr
def r11 (a0:aK):Option (Int×Int):=
 (r42 7 a0 0).bind fun v1=>
  if (v1.2 != 0)=true then
   some (v1.1,v1.2)
   else (r43 7 a0).bind fun v2=>
    if (decide (v2>60))=true then
     some (0,8)
     else (r13 7 a0).bind fun v3=>
      if 0<=IntKind.i64.wrap ((v3.length:Int) - 1)/\IntKind.i64.wrap ((v3.length:Int) - 1)<(v3.length:Int) then
       (r44 ((v3.getD (IntKind.i64.wrap ((v3.length:Int) - 1)).toNat default).1) ((v3.getD (IntKind.i64.wrap ((v3.length:Int) - 1)).toNat default).2.1) ((v3.getD (IntKind.i64.wrap ((v3.length:Int) - 1)).toNat default).2.2.1) ((v3.getD (IntKind.i64.wrap ((v3.length:Int) - 1)).toNat default).2.2.2.1) ((v3.getD (IntKind.i64.wrap ((v3.length:Int) - 1)).toNat default).2.2.2.2.1) ((v3.getD (IntKind.i64.wrap ((v3.length:Int) - 1)).toNat default).2.2.2.2.2)).bind fun v4=>
        if (!v4)=true then
         some (0,20)
         else some (0,0)
       else none
@[go_sem] def T11:=Dc Gq false r11
@[go_sem] def aAh (k:Nat):=lk [(13,(T13 7).sp),(42,(T42 7).sp),(43,(T43 7).sp),(44,T44.sp)] k
theorem f11:aF Tryz.prog 11 T11.sp:=by
 refine vm (tb:=aAh) (.cons (f13 7) (.cons (f42 7) (.cons (f43 7) (.cons f44 .nil)))) Tryz.func11 Tryz.ntmps11 fun a0 r hr stop S=> ?_
 rw [oC,r11] at hr
 refine S.gx [] ?_
 exact D0 hr
def Ir (x0:aj):Bd Int Bool:=fun s1=>
 if (decide (s1<(x0.length:Int)))=true then
  if 0<=s1/\s1<(x0.length:Int) then
   if (decide (((x0.getD s1.toNat default).length:Int)>14))=true then
    .out (some false)
    else .next (IntKind.i64.wrap (s1+1))
   else .out none
  else .out (some true)
def r14 (x1 x6:Int) (x2:au) (x0:aj) (x3 x4:bn) (x5:au) (x7 x8:Int):Option (Bool):=
 if ((((((decide (x1>14)) || (decide ((x2.length:Int)>14))) || (decide ((x0.length:Int)>14))) || (decide ((x3.length:Int)>14))) || (decide ((x4.length:Int)>14))) || (decide ((x5.length:Int)>14)))=true then
  some false
  else aS (Ir x0) 1000000000 0
@[go_sem] def T14:=L8 oQ false r14
theorem f14:aF Tryz.prog 14 T14.sp:=by
 refine vm .nil Tryz.func14 Tryz.ntmps14 fun ⟨x1,x6,x2,x0,x3,x4,x5,x7,x8⟩ r hr stop S=> ?_
 rw [OV,r14] at hr
 refine S.gx [2,3] ?_
 repeat (first | refine gA ?_ | refine gB ?_)
 refine iW hr (fun hc hr=> ?_) fun hc hr=> ?_
 ·refine gr ?_
  refine S.prune [] ?_
  refine S.gx [3] ?_
  exact D0 hr
 ·refine gr ?_
  refine S.prune [1] ?_
  refine S.gx [2] ?_
  refine gr ?_
  refine gr ?_
  refine S.sees [1,3] [(1,1)] [] ?_ (Stop.iter S (fun s1=>⟨[(1,.c (.ref 1 0)),(3,.c (.d (.int .i64 s1)))],[(1,[.d (.int .i64 x1),.d (.int .i64 x6),.d (ah 2 aT x2),.d (ah 1 aQ x0),.d (ah 1 cu x3),.d (ah 1 cu x4),.d (ah 2 aT x5),.d (.int .i64 x7),.d (.int .i64 x8)])],[]⟩) (Ir x0) (fun q=>q=r) hr rfl ?_)
  ·exact lf
  ·intro s1 hr
   unfold Ir at hr
   refine S.gx [2,3] ?_
   exact D1 (S.ss [1,3] [(1,1)] []) hr
section
variable {β:Type} [Inhabited β] (u:β->List RV) (al:Bool)
def apa (a0 a1:bn):List Arg:=[.agg [ah 1 cu a0,ah 1 cu a1]]
def aqP:List Arg->bn×bn
 | [.agg [c0,c1]]=>(aG jM c0,aG jM c1)
 | _=>default
def ar8 (r:bn->bn->Option β):=mkT (u2 apa) aqP (u2 r) u al
attribute [go_sem] apa aqP ar8
def aqj (v:Int×Int×au×aj):List RV:=[.agg [.d (.int .i64 v.1),.d (.int .i64 v.2.1),.own (ah 2 aT v.2.2.1),.own (ah 1 aQ v.2.2.2)]]
attribute [go_sem] aqj
def aqi (v:bn×bn):List RV:=[.agg [.own (ah 1 cu v.1),.own (ah 1 cu v.2)]]
attribute [go_sem] aqi
end
def Ik (x2 x3:Int) (x1:au) (x0:aj):Bd (Int×(List (au))) (Int×Int×au×aj):=fun s1=>
 if (decide (s1.1<(x0.length:Int)))=true then
  if 0<=s1.1/\s1.1<(x0.length:Int) then
   if (0+(x0.getD s1.1.toNat default).length)*16<=140737488355328/\0+(x0.getD s1.1.toNat default).length<=9223372036854775807 then
    if (s1.2.length+1)*24<=140737488355328/\s1.2.length+1<=9223372036854775807 then
     .next (IntKind.i64.wrap (s1.1+1),s1.2++[(x0.getD s1.1.toNat default)])
     else .out none
    else .out none
   else .out none
  else .out (some (x2,x3,x1,s1.2))
def r24 (x2 x3:Int) (x1:au) (x0:aj):Option (Int×Int×au×aj):=
 if (0+x1.length)*16<=140737488355328/\0+x1.length<=9223372036854775807 then
  aS (Ik x2 x3 x1 x0) 1000000000 (0,[])
  else none
@[go_sem] def T24:=XT aqj true r24
theorem f24:aF Tryz.prog 24 T24.sp:=by
 refine vm .nil Tryz.func24 Tryz.ntmps24 fun ⟨x2,x3,x1,x0⟩ r hr stop S=> ?_
 rw [uq4,r24] at hr
 refine S.gx [] ?_
 obtain ⟨hg4,hr⟩:=aN hr
 refine gr ?_
 refine S.rV 3 3 2000303 1 rfl rfl (nL rfl) rfl ?_
 refine S.sees [1,2,3,4] [(1,1),(2,2),(3,3)] [(2000303,2000303),(9,9)] ?_ (Stop.iter S (fun s1=>⟨[(1,.c (.ref 1 0)),(2,.c (.ref 2 0)),(3,.c (.ref 3 0)),(4,.c (.d (.int .i64 s1.1)))],[(1,[.d (.int .i64 x2),.d (.int .i64 x3),.d (ah 2 aT x1),.d (ah 1 aQ x0)]),(2,[.d (.int .i64 0),.d (.int .i64 0),.dD,.dD]),(3,[.d (.int .i64 x2),.d (.int .i64 x3),.own 9,.own 2000303])],[(2000303,.owned (ah 1 aQ s1.2)),(9,.owned (ah 2 aT x1))]⟩) (Ik x2 x3 x1 x0) (fun q=>q=r) hr rfl ?_)
 ·exact lf
 ·intro s1 hr
  unfold Ik at hr
  refine S.gx [] ?_
  exact D1 (S.ss [1,2,3,4] [(1,1),(2,2),(3,3)] [(29,2000303),(9,9)]) hr
def r25 (a0:bn):Option (bn):=
 if (0+a0.length)*8<=140737488355328/\0+a0.length<=9223372036854775807 then
  some a0
  else none
@[go_sem] def T25:=qT3 ae3 false r25
theorem f25:aF Tryz.prog 25 T25.sp:=by
 refine vm .nil Tryz.func25 Tryz.ntmps25 fun a0 r hr stop S=> ?_
 rw [oC,r25] at hr
 refine S.gx [] ?_
 exact D0 hr
def r50 (x0 x1:bn):Option (bn×bn):=
 (r25 x0).bind fun v1=>
  (r25 x1).bind fun v2=>
   some (v1,v2)
@[go_sem] def T50:=ar8 aqi false r50
@[go_sem] def az3 (k:Nat):=lk [(25,T25.sp)] k
theorem f50:aF Tryz.prog 50 T50.sp:=by
 refine vm (tb:=az3) (.cons f25 .nil) Tryz.func50 Tryz.ntmps50 fun ⟨x0,x1⟩ r hr stop S=> ?_
 rw [yI,r50] at hr
 refine S.gx [] ?_
 exact D0 hr
def r51 (a0:au):Option (au):=
 if (0+a0.length)*16<=140737488355328/\0+a0.length<=9223372036854775807 then
  some a0
  else none
@[go_sem] def T51:=qT5 qu5 false r51
theorem f51:aF Tryz.prog 51 T51.sp:=by
 refine vm .nil Tryz.func51 Tryz.ntmps51 fun a0 r hr stop S=> ?_
 rw [oC,r51] at hr
 refine S.gx [] ?_
 exact D0 hr
def r16 (x0 x1:Int) (x2:au) (x3:aj) (x4 x5:bn) (x6:au) (x7 x8:Int):Option (Int×Int×au×aj×bn×bn×au×Int×Int):=
 (r24 x0 x1 x2 x3).bind fun v1=>
  (r50 x4 x5).bind fun v2=>
   (r51 x6).bind fun v3=>
    some (v1.1,v1.2.1,v1.2.2.1,v1.2.2.2,v2.1,v2.2,v3,x7,x8)
@[go_sem] def T16:=L8 qu0 true r16
@[go_sem] def aAf (k:Nat):=lk [(24,T24.sp),(50,T50.sp),(51,T51.sp)] k
theorem f16:aF Tryz.prog 16 T16.sp:=by
 refine vm (tb:=aAf) (.cons f24 (.cons f50 (.cons f51 .nil))) Tryz.func16 Tryz.ntmps16 fun ⟨x0,x1,x2,x3,x4,x5,x6,x7,x8⟩ r hr stop S=> ?_
 rw [OV,r16] at hr
 refine S.gx [] ?_
 exact D0 hr
section
variable {β:Type} [Inhabited β] (u:β->List RV) (al:Bool)
def ao9 (a0:au) (a1 a2:Int):List Arg:=[.c (ah 2 aT a0),.c (.int .i64 a1),.c (.int .i64 a2)]
def aqO:List Arg->au×Int×Int
 | [.c c0,.c c1,.c c2]=>(aG bY c0,aC c1,aC c2)
 | _=>default
def ar7 (r:au->Int->Int->Option β):=mkT (u3 ao9) aqO (u3 r) u al
attribute [go_sem] ao9 aqO ar7
def ao8 (a0 a1:Int) (a2:au) (a3:aj) (a4 a5:bn) (a6:au) (a7 a8 a9:Int):List Arg:=[.agg [.int .i64 a0,.int .i64 a1,ah 2 aT a2,ah 1 aQ a3,ah 1 cu a4,ah 1 cu a5,ah 2 aT a6,.int .i64 a7,.int .i64 a8],.c (.int .i64 a9)]
def aqN:List Arg->Int×Int×au×aj×bn×bn×au×Int×Int×Int
 | [.agg [c0,c1,c2,c3,c4,c5,c6,c7,c8],.c c9]=>(aC c0,aC c1,aG bY c2,aG bQ c3,aG jM c4,aG jM c5,aG bY c6,aC c7,aC c8,aC c9)
 | _=>default
def ar6 (r:Int->Int->au->aj->bn->bn->au->Int->Int->Int->Option β):=mkT (u10 ao8) aqN (u10 r) u al
attribute [go_sem] ao8 aqN ar6
end
def wQ (a0:au):Bd Int Int:=fun s1=>
 if (decide (s1<(a0.length:Int)))=true then
  if 0<=s1/\s1<(a0.length:Int) then
   aP (Ze ((a0.getD s1.toNat default).1)) fun v1=>
    if (!(!v1))=true->0<=s1/\s1<(a0.length:Int) then
     if (!(!v1))=true->(pW ((a0.getD s1.toNat default).2) 0 1000).isSome=true then
      if ((!v1) || (!((pW ((a0.getD s1.toNat default).2) 0 1000).getD default)))=true then
       .out (some 2)
       else if (decide (s1>0))=true then
        if 0<=s1/\s1<(a0.length:Int) then
         if 0<=IntKind.i64.wrap (s1 - 1)/\IntKind.i64.wrap (s1 - 1)<(a0.length:Int) then
          if 0<=s1/\s1<(a0.length:Int) then
           if 0<=IntKind.i64.wrap (s1 - 1)/\IntKind.i64.wrap (s1 - 1)<(a0.length:Int) then
            if ((decide ((IntKind.i64.wrap (((a0.getD s1.toNat default).1) - ((a0.getD (IntKind.i64.wrap (s1 - 1)).toNat default).1)))<=0)) || (decide ((IntKind.i64.wrap (((a0.getD s1.toNat default).2) - ((a0.getD (IntKind.i64.wrap (s1 - 1)).toNat default).2)))<0)))=true then
             .out (some 9)
             else if (decide ((IntKind.i64.wrap (2*(IntKind.i64.wrap (((a0.getD s1.toNat default).2) - ((a0.getD (IntKind.i64.wrap (s1 - 1)).toNat default).2)))))>(IntKind.i64.wrap (((a0.getD s1.toNat default).1) - ((a0.getD (IntKind.i64.wrap (s1 - 1)).toNat default).1)))))=true then
              .out (some 22)
              else .next (IntKind.i64.wrap (s1+1))
            else .out none
           else .out none
          else .out none
         else .out none
        else .next (IntKind.i64.wrap (s1+1))
      else .out none
     else .out none
   else .out none
  else .out (some 0)
def aad (a0:au):Option (Int):=
 if (decide ((a0.length:Int)>6))=true then
  some 8
  else aS (wQ a0) 1000000000 0
@[go_sem] def av8:=qT5 lC false aad
@[go_sem] def aol (k:Nat):=lk [(57,T57.sp),(98,T98.sp)] k
theorem f148:aF Tryz.prog 148 av8.sp:=by
 refine vm (tb:=aol) (.cons f57 (.cons f98 .nil)) Tryz.func148 Tryz.ntmps148 fun a0 r hr stop S=> ?_
 rw [oC,aad] at hr
 refine S.gx [10] ?_
 refine gr ?_
 refine iW hr (fun hc hr=>D0 hr) fun hc hr=> ?_
 refine gr ?_
 refine S.sees [0,3] [] [] ?_ (Stop.iter S (fun s1=>⟨[(0,.c (.d (ah 2 aT a0))),(3,.c (.d (.int .i64 s1)))],[],[]⟩) (wQ a0) (fun q=>q=r) hr rfl ?_)
 ·exact lf
 ·intro s1 hr
  unfold wQ at hr
  refine S.gx [10] ?_
  refine gr ?_
  refine cZ hr (fun hc hr=> ?_) fun hc hr=>D0 hr
  obtain ⟨Zg,hr⟩:=aB hr
  obtain ⟨v1,hv1,hr⟩:=aI hr
  obtain ⟨Wx,hr⟩:=aB hr
  obtain ⟨Wv,hr⟩:=aB hr
  try simp only [hv1,oG,oI,true_and,and_assoc]
  repeat (first | refine gG Wx ?_ | refine gG Wv ?_ | refine gA ?_ | refine gB ?_)
  refine cZ hr (fun hc hr=>D0 hr) fun hc hr=> ?_
  refine gr ?_
  refine cZ hr (fun hc hr=> ?_) fun hc hr=>D1 (S.ss [0,3] [] []) hr
  obtain ⟨hg2,hr⟩:=aB hr
  obtain ⟨hg3,hr⟩:=aB hr
  obtain ⟨hg4,hr⟩:=aB hr
  obtain ⟨hg5,hr⟩:=aB hr
  refine gr ?_
  refine S.prune [0,3,4,5] ?_
  refine S.gx [] ?_
  repeat (first | refine gA ?_ | refine gB ?_)
  exact D1 (S.ss [0,3] [] []) hr
def wL (a0:au) (a1 a2:Int):Bd Int (Int×Int):=fun s1=>
 if (decide (s1<(a0.length:Int)))=true then
  if 0<=s1/\s1<(a0.length:Int) then
   if (decide (a1<=(IntKind.i64.wrap (((a0.getD s1.toNat default).1)*a2))))=true then
    if (s1 == 0)=true then
     if 0<=0/\0<(a0.length:Int) then
      .out (some ((a0.getD 0 default).2,1))
      else .out none
     else if 0<=IntKind.i64.wrap (s1 - 1)/\IntKind.i64.wrap (s1 - 1)<(a0.length:Int) then
      if 0<=s1/\s1<(a0.length:Int) then
       .out (some (IntKind.i64.wrap ((IntKind.i64.wrap (((a0.getD (IntKind.i64.wrap (s1 - 1)).toNat default).2)*(IntKind.i64.wrap ((IntKind.i64.wrap (((a0.getD s1.toNat default).1) - ((a0.getD (IntKind.i64.wrap (s1 - 1)).toNat default).1)))*a2))))+(IntKind.i64.wrap ((IntKind.i64.wrap (((a0.getD s1.toNat default).2) - ((a0.getD (IntKind.i64.wrap (s1 - 1)).toNat default).2)))*(IntKind.i64.wrap (a1 - (IntKind.i64.wrap (((a0.getD (IntKind.i64.wrap (s1 - 1)).toNat default).1)*a2))))))),IntKind.i64.wrap ((IntKind.i64.wrap (((a0.getD s1.toNat default).1) - ((a0.getD (IntKind.i64.wrap (s1 - 1)).toNat default).1)))*a2)))
       else .out none
      else .out none
    else .next (IntKind.i64.wrap (s1+1))
   else .out none
  else .out (if 0<=IntKind.i64.wrap ((a0.length:Int) - 1)/\IntKind.i64.wrap ((a0.length:Int) - 1)<(a0.length:Int) then
   some ((a0.getD (IntKind.i64.wrap ((a0.length:Int) - 1)).toNat default).2,1)
   else none)
def sS (a0:au) (a1 a2:Int):Option (Int×Int):=
 if ((a0.length:Int) == 0)=true then
  some (0,1)
  else aS (wL a0 a1 a2) 1000000000 0
@[go_sem] def ak6:=ar7 Gq false sS
theorem f152:aF Tryz.prog 152 ak6.sp:=by
 refine vm .nil Tryz.func152 Tryz.ntmps152 fun ⟨a0,a1,a2⟩ r hr stop S=> ?_
 rw [Zd,sS] at hr
 refine S.gx [11] ?_
 refine gr ?_
 refine iW hr (fun hc hr=>D0 hr) fun hc hr=> ?_
 refine gr ?_
 refine S.sees [0,1,2,8] [] [] ?_ (Stop.iter S (fun s1=>⟨[(0,.c (.d (ah 2 aT a0))),(1,.c (.d (.int .i64 a1))),(2,.c (.d (.int .i64 a2))),(8,.c (.d (.int .i64 s1)))],[],[]⟩) (wL a0 a1 a2) (fun q=>q=r) hr rfl ?_)
 ·exact lf
 ·intro s1 hr
  unfold wL at hr
  refine S.gx [11] ?_
  refine gr ?_
  refine cZ hr (fun hc hr=> ?_) fun hc hr=>D0 hr
  obtain ⟨hg4,hr⟩:=aB hr
  refine gr ?_
  refine cZ hr (fun hc hr=> ?_) fun hc hr=>D1 (S.ss [0,1,2,8] [] []) hr
  refine gr ?_
  refine cZ hr (fun hc hr=>D0 hr) fun hc hr=> ?_
  obtain ⟨hg2,hr⟩:=aB hr
  obtain ⟨hg3,hr⟩:=aB hr
  refine gr ?_
  refine S.prune [1,2,9,10,11] ?_
  refine S.gx [] ?_
  exact D0 hr
def wO (a0 a1:au):Bd Int Bool:=fun s1=>
 if (decide (s1<((a0++a1).length:Int)))=true then
  if 0<=s1/\s1<((a0++a1).length:Int) then
   aP (sS a0 (((a0++a1).getD s1.toNat default).1) 1) fun v1=>
    if 0<=s1/\s1<((a0++a1).length:Int) then
     aP (sS a1 (((a0++a1).getD s1.toNat default).1) 1) fun v2=>
      if (decide ((IntKind.i64.wrap (v1.1*v2.2))<(IntKind.i64.wrap (v2.1*v1.2))))=true then
       .out (some true)
       else .next (IntKind.i64.wrap (s1+1))
     else .out none
   else .out none
  else .out (some false)
def XH (a0 a1:au):Option (Bool):=
 if (0+a0.length)*16<=140737488355328/\0+a0.length<=9223372036854775807 then
  if (a0.length+a1.length)*16<=140737488355328/\a0.length+a1.length<=9223372036854775807 then
   aS (wO a0 a1) 1000000000 0
   else none
  else none
@[go_sem] def av7:=aar oQ false XH
@[go_sem] def aok (k:Nat):=lk [(152,ak6.sp)] k
theorem f149:aF Tryz.prog 149 av7.sp:=by
 refine vm (tb:=aok) (.cons f152 .nil) Tryz.func149 Tryz.ntmps149 fun ⟨a0,a1⟩ r hr stop S=> ?_
 rw [yI,XH] at hr
 refine S.gx [4,8] ?_
 obtain ⟨hg5,hr⟩:=aN hr
 obtain ⟨Zg,hr⟩:=aN hr
 refine gr ?_
 refine S.sees [0,1,5,6] [] [(15,15)] ?_ (Stop.iter S (fun s1=>⟨[(0,.c (.d (ah 2 aT a0))),(1,.c (.d (ah 2 aT a1))),(5,.c (.own 15)),(6,.c (.d (.int .i64 s1)))],[],[(15,.owned (ah 2 aT (a0++a1)))]⟩) (wO a0 a1) (fun q=>q=r) hr rfl ?_)
 ·exact lf
 ·intro s1 hr
  unfold wO at hr
  refine S.gx [4,8] ?_
  refine gr ?_
  refine cZ hr (fun hc hr=> ?_) fun hc hr=>D0 hr
  obtain ⟨hg3,hr⟩:=aB hr
  obtain ⟨v1,hv1,hr⟩:=aI hr
  obtain ⟨hg4,hr⟩:=aB hr
  obtain ⟨v2,hv2,hr⟩:=aI hr
  refine gb hv1 ?_
  refine gb hv2 ?_
  refine cZ hr (fun hc hr=> ?_) fun hc hr=> ?_
  ·refine gr ?_
   refine S.prune [] ?_
   refine S.gx [4] ?_
   exact D0 hr
  ·refine gr ?_
   refine S.prune [0,1,5,6] ?_
   refine S.gx [8] ?_
   exact D1 (S.ss [0,1,5,6] [] [(15,15)]) hr
def rG (x1:aj):Bd Int (Int×Int):=fun s2=>
 if (decide (s2<(x1.length:Int)))=true then
  if 0<=s2/\s2<(x1.length:Int) then
   aP (aad (x1.getD s2.toNat default)) fun v10=>
    if (v10 != 0)=true then
     .out (some (s2,v10))
     else if (decide (s2>0))=true->0<=s2/\s2<(x1.length:Int) then
      if (decide (s2>0))=true->0<=IntKind.i64.wrap (s2 - 1)/\IntKind.i64.wrap (s2 - 1)<(x1.length:Int) then
       if (decide (s2>0))=true->(XH (x1.getD s2.toNat default) (x1.getD (IntKind.i64.wrap (s2 - 1)).toNat default)).isSome=true then
        if ((decide (s2>0)) && ((XH (x1.getD s2.toNat default) (x1.getD (IntKind.i64.wrap (s2 - 1)).toNat default)).getD default))=true then
         .out (some (s2,13))
         else .next (IntKind.i64.wrap (s2+1))
        else .out none
       else .out none
      else .out none
   else .out none
  else .out (some (0,0))
def wU (x0:au) (x1:aj):Bd Int (Int×Int):=fun s1=>
 if (decide (s1<(x0.length:Int)))=true then
  if 0<=s1/\s1<(x0.length:Int) then
   aP (pW ((x0.getD s1.toNat default).1) 0 1000000) fun v2=>
    if (!(!v2))=true->0<=s1/\s1<(x0.length:Int) then
     if (!(!v2))=true->(Ze ((x0.getD s1.toNat default).2)).isSome=true then
      if ((!v2) || (!((Ze ((x0.getD s1.toNat default).2)).getD default)))=true then
       .out (some (s1,2))
       else if (decide (s1>0))=true then
        if 0<=s1/\s1<(x0.length:Int) then
         if 0<=IntKind.i64.wrap (s1 - 1)/\IntKind.i64.wrap (s1 - 1)<(x0.length:Int) then
          if 0<=s1/\s1<(x0.length:Int) then
           if 0<=IntKind.i64.wrap (s1 - 1)/\IntKind.i64.wrap (s1 - 1)<(x0.length:Int) then
            if ((decide ((IntKind.i64.wrap (((x0.getD s1.toNat default).1) - ((x0.getD (IntKind.i64.wrap (s1 - 1)).toNat default).1)))<=0)) || (decide ((IntKind.i64.wrap (((x0.getD s1.toNat default).2) - ((x0.getD (IntKind.i64.wrap (s1 - 1)).toNat default).2)))<=0)))=true then
             .out (some (s1,9))
             else if (decide ((IntKind.i64.wrap (((x0.getD s1.toNat default).2) - ((x0.getD (IntKind.i64.wrap (s1 - 1)).toNat default).2)))>(IntKind.i64.wrap (((x0.getD s1.toNat default).1) - ((x0.getD (IntKind.i64.wrap (s1 - 1)).toNat default).1)))))=true then
              .out (some (s1,22))
              else .next (IntKind.i64.wrap (s1+1))
            else .out none
           else .out none
          else .out none
         else .out none
        else .next (IntKind.i64.wrap (s1+1))
      else .out none
     else .out none
   else .out none
  else .out (if (decide ((x1.length:Int)>4))=true then
   some (0,8)
   else aS (rG x1) 1000000000 0)
def aal (x3 x2:Int) (x0:au) (x1:aj):Option (Int×Int):=
 (pW x3 1 12).bind fun v1=>
  if (!(!v1))=true->(pW x2 0 500).isSome=true then
   if ((!v1) || (!((pW x2 0 500).getD default)))=true then
    some (0,2)
    else if (decide ((x0.length:Int)<2))=true then
     some (0,10)
     else if (decide ((x0.length:Int)>8))=true then
      some (0,8)
      else aS (wU x0 x1) 1000000000 0
   else none
@[go_sem] def awC:=XT Gq false aal
@[go_sem] def aoN (k:Nat):=lk [(57,T57.sp),(98,T98.sp),(148,av8.sp),(149,av7.sp)] k
theorem f103:aF Tryz.prog 103 awC.sp:=by
 refine vm (tb:=aoN) (.cons f57 (.cons f98 (.cons f148 (.cons f149 .nil)))) Tryz.func103 Tryz.ntmps103 fun ⟨x3,x2,x0,x1⟩ r hr stop S=> ?_
 rw [uq4,aal] at hr
 refine S.gx [14,22,27] ?_
 obtain ⟨v1,hv1,hr⟩:=aA hr
 obtain ⟨abo,hr⟩:=aN hr
 try simp only [hv1,oG,oI,true_and,and_assoc]
 repeat (first | refine gG abo ?_ | refine gA ?_ | refine gB ?_)
 refine iW hr (fun hc hr=>D0 hr) fun hc hr=> ?_
 refine gr ?_
 refine iW hr (fun hc hr=>D0 hr) fun hc hr=> ?_
 refine gr ?_
 refine iW hr (fun hc hr=>D0 hr) fun hc hr=> ?_
 refine gr ?_
 refine S.sees [1,4] [(1,1)] [] ?_ (Stop.iter S (fun s1=>⟨[(1,.c (.ref 1 0)),(4,.c (.d (.int .i64 s1)))],[(1,[.d (.int .i64 x3),.d (.int .i64 x2),.d (ah 2 aT x0),.d (ah 1 aQ x1)])],[]⟩) (wU x0 x1) (fun q=>q=r) hr rfl ?_)
 ·exact lf
 ·intro s1 hr
  unfold wU at hr
  refine S.gx [14,22,27] ?_
  refine gr ?_
  refine cZ hr (fun hc hr=> ?_) fun hc hr=> ?_
  ·obtain ⟨Wx,hr⟩:=aB hr
   obtain ⟨v2,hv2,hr⟩:=aI hr
   obtain ⟨Wv,hr⟩:=aB hr
   obtain ⟨Nk,hr⟩:=aB hr
   try simp only [hv2,oG,oI,true_and,and_assoc]
   repeat (first | refine gG Wv ?_ | refine gG Nk ?_ | refine gA ?_ | refine gB ?_)
   refine cZ hr (fun hc hr=>D0 hr) fun hc hr=> ?_
   refine gr ?_
   refine cZ hr (fun hc hr=> ?_) fun hc hr=>D1 (S.ss [1,4] [(1,1)] []) hr
   obtain ⟨hg3,hr⟩:=aB hr
   obtain ⟨hg4,hr⟩:=aB hr
   obtain ⟨hg5,hr⟩:=aB hr
   obtain ⟨Zg,hr⟩:=aB hr
   refine gr ?_
   refine S.prune [1,4,5,6] ?_
   refine S.gx [22,27] ?_
   repeat (first | refine gA ?_ | refine gB ?_)
   exact D1 (S.ss [1,4] [(1,1)] []) hr
  ·refine gr ?_
   have hr:=bK hr
   refine gr ?_
   refine iW hr (fun hc hr=>D0 hr) fun hc hr=> ?_
   refine gr ?_
   refine S.sees [1,7] [(1,1)] [] ?_ (Stop.iter S (fun s2=>⟨[(1,.c (.ref 1 0)),(7,.c (.d (.int .i64 s2)))],[(1,[.d (.int .i64 x3),.d (.int .i64 x2),.d (ah 2 aT x0),.d (ah 1 aQ x1)])],[]⟩) (rG x1) (fun q=>q=r) hr rfl ?_)
   ·exact lf
   ·intro s2 hr
    unfold rG at hr
    refine S.gx [14,22,27] ?_
    refine gr ?_
    refine cZ hr (fun hc hr=> ?_) fun hc hr=>D0 hr
    obtain ⟨X9,hr⟩:=aB hr
    obtain ⟨v10,yZ,hr⟩:=aI hr
    refine gb yZ ?_
    refine cZ hr (fun hc hr=>D0 hr) fun hc hr=> ?_
    obtain ⟨y7,hr⟩:=aB hr
    obtain ⟨y5,hr⟩:=aB hr
    obtain ⟨JH,hr⟩:=aB hr
    repeat (first | refine gG y7 ?_ | refine gG y5 ?_ | refine gG JH ?_ | refine gA ?_ | refine gB ?_)
    refine cZ hr (fun hc hr=> ?_) fun hc hr=> ?_
    ·refine gr ?_
     refine S.prune [7] ?_
     refine S.gx [14,22] ?_
     exact D0 hr
    ·refine gr ?_
     refine S.prune [1,7] ?_
     refine S.gx [14,27] ?_
     exact D1 (S.ss [1,7] [(1,1)] []) hr
def r74 (x0 x1:Int) (x2:au) (x3:aj):Option (Int):=
 (aal x0 x1 x2 x3).bind fun v1=>
  some v1.2
@[go_sem] def T74:=XT lC false r74
@[go_sem] def azR (k:Nat):=lk [(103,awC.sp)] k
theorem f74:aF Tryz.prog 74 T74.sp:=by
 refine vm (tb:=azR) (.cons f103 .nil) Tryz.func74 Tryz.ntmps74 fun ⟨x0,x1,x2,x3⟩ r hr stop S=> ?_
 rw [uq4,r74] at hr
 refine S.gx [] ?_
 exact D0 hr
def XP (x1 x2:Int) (x0:au) (x3:aj) (a1:Int):Option (Bool):=
 if 0<=0/\0<(x0.length:Int) then
  if 0<=IntKind.i64.wrap ((x0.length:Int) - 1)/\IntKind.i64.wrap ((x0.length:Int) - 1)<(x0.length:Int) then
   (pW a1 ((x0.getD 0 default).1) ((x0.getD (IntKind.i64.wrap ((x0.length:Int) - 1)).toNat default).1)).bind fun v1=>
    some v1
   else none
  else none
@[go_sem] def ala:=afb oQ false XP
@[go_sem] def aoJ (k:Nat):=lk [(57,T57.sp)] k
theorem f107:aF Tryz.prog 107 ala.sp:=by
 refine vm (tb:=aoJ) (.cons f57 .nil) Tryz.func107 Tryz.ntmps107 fun ⟨x1,x2,x0,x3,a1⟩ r hr stop S=> ?_
 rw [uq5,XP] at hr
 refine S.gx [] ?_
 exact D0 hr
def wM (x0 x1:Int) (x2:au) (x3:aj) (a1:bn):Bd Int (Int×Int):=fun s1=>
 if (decide (s1<(a1.length:Int)))=true then
  if 0<=s1/\s1<(a1.length:Int) then
   aP (XP x0 x1 x2 x3 (a1.getD s1.toNat default)) fun v1=>
    if (!v1)=true then
     .out (some (s1,2))
     else .next (IntKind.i64.wrap (s1+1))
   else .out none
  else .out (some (0,0))
def XG (x0 x1:Int) (x2:au) (x3:aj) (a1:bn):Option (Int×Int):=
 if ((a1.length:Int) != x0)=true then
  some (0,10)
  else aS (wM x0 x1 x2 x3 a1) 1000000000 0
@[go_sem] def av6:=ae' Gq false XG
@[go_sem] def aoi (k:Nat):=lk [(107,ala.sp)] k
theorem f150:aF Tryz.prog 150 av6.sp:=by
 refine vm (tb:=aoi) (.cons f107 .nil) Tryz.func150 Tryz.ntmps150 fun ⟨x0,x1,x2,x3,a1⟩ r hr stop S=> ?_
 rw [uq5,XG] at hr
 refine S.gx [] ?_
 refine gr ?_
 refine iW hr (fun hc hr=>D0 hr) fun hc hr=> ?_
 refine gr ?_
 refine S.sees [1,2,6] [(2,2)] [] ?_ (Stop.iter S (fun s1=>⟨[(1,.c (.d (ah 1 cu a1))),(2,.c (.ref 2 0)),(6,.c (.d (.int .i64 s1)))],[(2,[.d (.int .i64 x0),.d (.int .i64 x1),.d (ah 2 aT x2),.d (ah 1 aQ x3)])],[]⟩) (wM x0 x1 x2 x3 a1) (fun q=>q=r) hr rfl ?_)
 ·exact lf
 ·intro s1 hr
  unfold wM at hr
  refine S.gx [] ?_
  exact D1 (S.ss [1,2,6] [(2,2)] []) hr
def ES (x0:Int) (x1 x2:bn):Bd Int (Int×Int):=fun s1=>
 if (decide (s1<x0))=true then
  if 0<=s1/\s1<(x1.length:Int) then
   if 0<=s1/\s1<(x2.length:Int) then
    if (decide ((x1.getD s1.toNat default)>(x2.getD s1.toNat default)))=true then
     .out (some (s1,9))
     else .next (IntKind.i64.wrap (s1+1))
    else .out none
   else .out none
  else .out (some (0,0))
def aak (x0 x3:Int) (x4:au) (x5:aj) (x1 x2:bn):Option (Int×Int):=
 (XG x0 x3 x4 x5 x1).bind fun v1=>
  if (v1.2 != 0)=true then
   some (v1.1,v1.2)
   else (XG x0 x3 x4 x5 x2).bind fun v2=>
    if (v2.2 != 0)=true then
     some (v2.1,v2.2)
     else aS (ES x0 x1 x2) 1000000000 0
@[go_sem] def awz:=aaq Gq false aak
@[go_sem] def aoM (k:Nat):=lk [(150,av6.sp)] k
theorem f104:aF Tryz.prog 104 awz.sp:=by
 refine vm (tb:=aoM) (.cons f150 .nil) Tryz.func104 Tryz.ntmps104 fun ⟨x0,x3,x4,x5,x1,x2⟩ r hr stop S=> ?_
 rw [OW,aak] at hr
 refine S.gx [] ?_
 obtain ⟨v1,hv1,hr⟩:=aA hr
 refine gb hv1 ?_
 refine iW hr (fun hc hr=>D0 hr) fun hc hr=> ?_
 obtain ⟨v2,hv2,hr⟩:=aA hr
 refine gb hv2 ?_
 refine iW hr (fun hc hr=>D0 hr) fun hc hr=> ?_
 refine gr ?_
 refine S.sees [2,3,10] [(2,2),(3,3)] [] ?_ (Stop.iter S (fun s1=>⟨[(2,.c (.ref 2 0)),(3,.c (.ref 3 0)),(10,.c (.d (.int .i64 s1)))],[(2,[.d (.int .i64 x0),.d (.int .i64 x3),.d (ah 2 aT x4),.d (ah 1 aQ x5)]),(3,[.d (ah 1 cu x1),.d (ah 1 cu x2)])],[]⟩) (ES x0 x1 x2) (fun q=>q=r) hr rfl ?_)
 ·exact lf
 ·intro s1 hr
  unfold ES at hr
  refine S.gx [] ?_
  exact D1 (S.ss [2,3,10] [(2,2),(3,3)] []) hr
def r75 (x0 x1:Int) (x2:au) (x3:aj) (x4 x5:bn):Option (Int):=
 (r74 x0 x1 x2 x3).bind fun v1=>
  if (v1 != 0)=true then
   some v1
   else (aak x0 x1 x2 x3 x4 x5).bind fun v2=>
    some v2.2
@[go_sem] def T75:=aaq lC false r75
@[go_sem] def azQ (k:Nat):=lk [(74,T74.sp),(104,awz.sp)] k
theorem f75:aF Tryz.prog 75 T75.sp:=by
 refine vm (tb:=azQ) (.cons f74 (.cons f104 .nil)) Tryz.func75 Tryz.ntmps75 fun ⟨x0,x1,x2,x3,x4,x5⟩ r hr stop S=> ?_
 rw [OW,r75] at hr
 refine S.gx [] ?_
 exact D0 hr
def r53 (x1 x2:Int) (x3:au) (x0:aj) (x4 x5:bn) (x6:au) (x7 x8 a1:Int):Option (Bool):=
 (pW a1 0 (IntKind.i64.wrap ((x0.length:Int) - 1))).bind fun v1=>
  some v1
@[go_sem] def T53:=ar6 oQ false r53
@[go_sem] def az1 (k:Nat):=lk [(57,T57.sp)] k
theorem f53:aF Tryz.prog 53 T53.sp:=by
 refine vm (tb:=az1) (.cons f57 .nil) Tryz.func53 Tryz.ntmps53 fun ⟨x1,x2,x3,x0,x4,x5,x6,x7,x8,a1⟩ r hr stop S=> ?_
 rw [KY,r53] at hr
 refine S.gx [] ?_
 exact D0 hr
def H9 (x1 x2:Int) (x3:au) (x4:aj) (x5 x6:bn) (x0:au) (x7 x8:Int):Bd Int (Int×Int):=fun s1=>
 if (decide (s1<(x0.length:Int)))=true then
  if 0<=s1/\s1<(x0.length:Int) then
   aP (pW ((x0.getD s1.toNat default).1) 0 1000) fun v3=>
    if (!(!v3))=true->(pW ((x0.getD s1.toNat default).2) 0 1000).isSome=true then
     if ((!v3) || (!((pW ((x0.getD s1.toNat default).2) 0 1000).getD default)))=true then
      .out (some (s1,2))
      else if (decide (((x0.getD s1.toNat default).1)>((x0.getD s1.toNat default).2)))=true then
       .out (some (s1,9))
       else .next (IntKind.i64.wrap (s1+1))
     else .out none
   else .out none
  else .out ((r53 x1 x2 x3 x4 x5 x6 x0 x7 x8 x7).bind fun v6=>
   if (!v6)=true then
    some (0,6)
    else (pW x8 0 4).bind fun v7=>
     if (!v7)=true then
      some (0,2)
      else some (0,0))
def r52 (x1 x2:Int) (x3:au) (x4:aj) (x5 x6:bn) (x0:au) (x7 x8:Int):Option (Int×Int):=
 (r74 x1 x2 x3 x4).bind fun v1=>
  if (v1 != 0)=true then
   some (0,v1)
   else (r75 x1 x2 x3 x4 x5 x6).bind fun v2=>
    if (v2 != 0)=true then
     some (0,v2)
     else if ((x0.length:Int) != x1)=true then
      some (0,10)
      else aS (H9 x1 x2 x3 x4 x5 x6 x0 x7 x8) 1000000000 0
@[go_sem] def T52:=L8 Gq false r52
@[go_sem] def az2 (k:Nat):=lk [(53,T53.sp),(57,T57.sp),(74,T74.sp),(75,T75.sp)] k
theorem f52:aF Tryz.prog 52 T52.sp:=by
 refine vm (tb:=az2) (.cons f53 (.cons f57 (.cons f74 (.cons f75 .nil)))) Tryz.func52 Tryz.ntmps52 fun ⟨x1,x2,x3,x4,x5,x6,x0,x7,x8⟩ r hr stop S=> ?_
 rw [OV,r52] at hr
 refine S.gx [] ?_
 obtain ⟨v1,hv1,hr⟩:=aA hr
 refine gb hv1 ?_
 refine iW hr (fun hc hr=>D0 hr) fun hc hr=> ?_
 obtain ⟨v2,hv2,hr⟩:=aA hr
 refine gb hv2 ?_
 refine iW hr (fun hc hr=>D0 hr) fun hc hr=> ?_
 refine gr ?_
 refine iW hr (fun hc hr=>D0 hr) fun hc hr=> ?_
 refine gr ?_
 refine S.sees [1,6] [(1,1)] [] ?_ (Stop.iter S (fun s1=>⟨[(1,.c (.ref 1 0)),(6,.c (.d (.int .i64 s1)))],[(1,[.d (.int .i64 x1),.d (.int .i64 x2),.d (ah 2 aT x3),.d (ah 1 aQ x4),.d (ah 1 cu x5),.d (ah 1 cu x6),.d (ah 2 aT x0),.d (.int .i64 x7),.d (.int .i64 x8)])],[]⟩) (H9 x1 x2 x3 x4 x5 x6 x0 x7 x8) (fun q=>q=r) hr rfl ?_)
 ·exact lf
 ·intro s1 hr
  unfold H9 at hr
  refine S.gx [] ?_
  refine gr ?_
  refine cZ hr (fun hc hr=> ?_) fun hc hr=>D0 hr
  obtain ⟨hg4,hr⟩:=aB hr
  obtain ⟨v3,hv3,hr⟩:=aI hr
  obtain ⟨hg5,hr⟩:=aB hr
  try simp only [hv3,oG,oI,true_and,and_assoc]
  repeat (first | refine gG hg5 ?_ | refine gA ?_ | refine gB ?_)
  exact D1 (S.ss [1,6] [(1,1)] []) hr
def r17 (x0 x1:Int) (x2:au) (x3:aj) (x4 x5:bn) (x6:au) (x7 x8:Int):Option (Int):=
 (r52 x0 x1 x2 x3 x4 x5 x6 x7 x8).bind fun v1=>
  some v1.2
@[go_sem] def T17:=L8 lC false r17
@[go_sem] def aAe (k:Nat):=lk [(52,T52.sp)] k
theorem f17:aF Tryz.prog 17 T17.sp:=by
 refine vm (tb:=aAe) (.cons f52 .nil) Tryz.func17 Tryz.ntmps17 fun ⟨x0,x1,x2,x3,x4,x5,x6,x7,x8⟩ r hr stop S=> ?_
 rw [OV,r17] at hr
 refine S.gx [] ?_
 exact D0 hr
def r18 (a0:aK):Option (Int):=
 (r11 a0).bind fun v1=>
  some v1.2
@[go_sem] def T18:=Dc lC false r18
@[go_sem] def aAd (k:Nat):=lk [(11,T11.sp)] k
theorem f18:aF Tryz.prog 18 T18.sp:=by
 refine vm (tb:=aAd) (.cons f11 .nil) Tryz.func18 Tryz.ntmps18 fun a0 r hr stop S=> ?_
 rw [oC,r18] at hr
 refine S.gx [] ?_
 exact D0 hr
def Il (a0 a1:au):Bd Int Bool:=fun s1=>
 if (decide (s1<(a0.length:Int)))=true then
  if 0<=s1/\s1<(a0.length:Int) then
   if 0<=s1/\s1<(a1.length:Int) then
    if (!(((a0.getD s1.toNat default).1 == (a1.getD s1.toNat default).1) && ((a0.getD s1.toNat default).2 == (a1.getD s1.toNat default).2)))=true then
     .out (some false)
     else .next (IntKind.i64.wrap (s1+1))
    else .out none
   else .out none
  else .out (some true)
def r20 (a0 a1:au):Option (Bool):=
 if ((a0.length:Int) != (a1.length:Int))=true then
  some false
  else aS (Il a0 a1) 1000000000 0
@[go_sem] def T20:=aar oQ false r20
theorem f20:aF Tryz.prog 20 T20.sp:=by
 refine vm .nil Tryz.func20 Tryz.ntmps20 fun ⟨a0,a1⟩ r hr stop S=> ?_
 rw [yI,r20] at hr
 refine S.gx [] ?_
 refine gr ?_
 refine iW hr (fun hc hr=>D0 hr) fun hc hr=> ?_
 refine gr ?_
 refine S.sees [0,1,5] [] [] ?_ (Stop.iter S (fun s1=>⟨[(0,.c (.d (ah 2 aT a0))),(1,.c (.d (ah 2 aT a1))),(5,.c (.d (.int .i64 s1)))],[],[]⟩) (Il a0 a1) (fun q=>q=r) hr rfl ?_)
 ·exact lf
 ·intro s1 hr
  unfold Il at hr
  refine S.gx [] ?_
  exact D1 (S.ss [0,1,5] [] []) hr
section
variable {β:Type} [Inhabited β] (u:β->List RV) (al:Bool)
def ao7 (a0 a1:Int) (a2:au) (a3:aj) (a4 a5:Int):List Arg:=[.agg [.int .i64 a0,.int .i64 a1,ah 2 aT a2,ah 1 aQ a3],.c (.int .i64 a4),.c (.int .i64 a5)]
def aqM:List Arg->Int×Int×au×aj×Int×Int
 | [.agg [c0,c1,c2,c3],.c c4,.c c5]=>(aC c0,aC c1,aG bY c2,aG bQ c3,aC c4,aC c5)
 | _=>default
def aao (r:Int->Int->au->aj->Int->Int->Option β):=mkT (u6 ao7) aqM (u6 r) u al
attribute [go_sem] ao7 aqM aao
def ao6 (a0 a1:Int) (a2:au) (a3:aj) (a4 a5:bn) (a6:Int):List Arg:=[.agg [.int .i64 a0,.int .i64 a1,ah 2 aT a2,ah 1 aQ a3],.c (ah 1 cu a4),.c (ah 1 cu a5),.c (.int .i64 a6)]
def aqL:List Arg->Int×Int×au×aj×bn×bn×Int
 | [.agg [c0,c1,c2,c3],.c c4,.c c5,.c c6]=>(aC c0,aC c1,aG bY c2,aG bQ c3,aG jM c4,aG jM c5,aC c6)
 | _=>default
def ar5 (r:Int->Int->au->aj->bn->bn->Int->Option β):=mkT (u7 ao6) aqL (u7 r) u al
attribute [go_sem] ao6 aqL ar5
def ao5 (a0 a1:Int) (a2:au) (a3:aj) (a4 a5:bn) (a6:au) (a7 a8:Int) (a9:bn) (a10 a11:Int):List Arg:=[.agg [.int .i64 a0,.int .i64 a1,ah 2 aT a2,ah 1 aQ a3,ah 1 cu a4,ah 1 cu a5,ah 2 aT a6,.int .i64 a7,.int .i64 a8],.c (ah 1 cu a9),.agg [.int .i64 a10,.int .i64 a11]]
def aqK:List Arg->Int×Int×au×aj×bn×bn×au×Int×Int×bn×Int×Int
 | [.agg [c0,c1,c2,c3,c4,c5,c6,c7,c8],.c c9,.agg [c10,c11]]=>(aC c0,aC c1,aG bY c2,aG bQ c3,aG jM c4,aG jM c5,aG bY c6,aC c7,aC c8,aG jM c9,aC c10,aC c11)
 | _=>default
def ar4 (r:Int->Int->au->aj->bn->bn->au->Int->Int->bn->Int->Int->Option β):=mkT (u12 ao5) aqK (u12 r) u al
attribute [go_sem] ao5 aqK ar4
def aqh (v:bn×Int×Bool):List RV:=[.c (.own (ah 1 cu v.1)),.c (.d (.int .i64 v.2.1)),.c (.d (.bool v.2.2))]
attribute [go_sem] aqh
def aqg (v:bn×Bool):List RV:=[.c (.own (ah 1 cu v.1)),.c (.d (.bool v.2))]
attribute [go_sem] aqg
end
def H7 (x0:au) (a1:Int):Bd Int (Int×Int):=fun s1=>
 if 0<=s1/\s1<(x0.length:Int) then
  if (decide (((x0.getD s1.toNat default).1)<a1))=true then
   .next (IntKind.i64.wrap (s1+1))
   else .out (if 0<=IntKind.i64.wrap (s1 - 1)/\IntKind.i64.wrap (s1 - 1)<(x0.length:Int) then
    if 0<=s1/\s1<(x0.length:Int) then
     some (IntKind.i64.wrap ((IntKind.i64.wrap (((x0.getD (IntKind.i64.wrap (s1 - 1)).toNat default).2)*(IntKind.i64.wrap (((x0.getD s1.toNat default).1) - ((x0.getD (IntKind.i64.wrap (s1 - 1)).toNat default).1)))))+(IntKind.i64.wrap ((IntKind.i64.wrap (((x0.getD s1.toNat default).2) - ((x0.getD (IntKind.i64.wrap (s1 - 1)).toNat default).2)))*(IntKind.i64.wrap (a1 - ((x0.getD (IntKind.i64.wrap (s1 - 1)).toNat default).1)))))),IntKind.i64.wrap (((x0.getD s1.toNat default).1) - ((x0.getD (IntKind.i64.wrap (s1 - 1)).toNat default).1)))
     else none
    else none)
  else .out none
def r76 (x1 x2:Int) (x0:au) (x3:aj) (a1:Int):Option (Int×Int):=
 aS (H7 x0 a1) 1000000000 1
@[go_sem] def T76:=afb Gq false r76
theorem f76:aF Tryz.prog 76 T76.sp:=by
 refine vm .nil Tryz.func76 Tryz.ntmps76 fun ⟨x1,x2,x0,x3,a1⟩ r hr stop S=> ?_
 rw [uq5,r76] at hr
 refine S.gx [] ?_
 refine gr ?_
 refine S.sees [1,2,6] [(2,2)] [] ?_ (Stop.iter S (fun s1=>⟨[(1,.c (.d (.int .i64 a1))),(2,.c (.ref 2 0)),(6,.c (.d (.int .i64 s1)))],[(2,[.d (.int .i64 x1),.d (.int .i64 x2),.d (ah 2 aT x0),.d (ah 1 aQ x3)])],[]⟩) (H7 x0 a1) (fun q=>q=r) hr rfl ?_)
 ·exact lf
 ·intro s1 hr
  unfold H7 at hr
  refine S.gx [] ?_
  exact D1 (S.ss [1,2,6] [(2,2)] []) hr
def r54 (x0 x1:Int) (x2:au) (x3:aj) (a1 a2:Int):Option (Bool):=
 (r76 x0 x1 x2 x3 a1).bind fun v1=>
  some (decide (v1.1>=(IntKind.i64.wrap (a2*v1.2))))
@[go_sem] def T54:=aao oQ false r54
@[go_sem] def az0 (k:Nat):=lk [(76,T76.sp)] k
theorem f54:aF Tryz.prog 54 T54.sp:=by
 refine vm (tb:=az0) (.cons f76 .nil) Tryz.func54 Tryz.ntmps54 fun ⟨x0,x1,x2,x3,a1,a2⟩ r hr stop S=> ?_
 rw [OW,r54] at hr
 refine S.gx [] ?_
 exact D0 hr
def r55 (x0 x1:Int) (x2:au) (x3:aj) (a1 a2:Int):Option (Bool):=
 (r76 x0 x1 x2 x3 a1).bind fun v1=>
  some (decide (v1.1>(IntKind.i64.wrap (a2*v1.2))))
@[go_sem] def T55:=aao oQ false r55
@[go_sem] def azZ (k:Nat):=lk [(76,T76.sp)] k
theorem f55:aF Tryz.prog 55 T55.sp:=by
 refine vm (tb:=azZ) (.cons f76 .nil) Tryz.func55 Tryz.ntmps55 fun ⟨x0,x1,x2,x3,a1,a2⟩ r hr stop S=> ?_
 rw [OW,r55] at hr
 refine S.gx [] ?_
 exact D0 hr
def r22 (a0 a1:Int):Option (Int):=
 if a1≠0 then
  if a1≠0 then
   if (decide ((a0.tmod a1)<0))=true then
    some (IntKind.i64.wrap ((IntKind.i64.wrap (a0.tdiv a1)) - 1))
    else some (IntKind.i64.wrap (a0.tdiv a1))
   else none
  else none
@[go_sem] def T22:=qT7 lC false r22
theorem f22:aF Tryz.prog 22 T22.sp:=by
 refine vm .nil Tryz.func22 Tryz.ntmps22 fun ⟨a0,a1⟩ r hr stop S=> ?_
 rw [yI,r22] at hr
 refine S.gx [] ?_
 exact D0 hr
def HY (x0:au) (a1 a2:Int):Bd ((List (Int))×Int) bn:=fun s1=>
 if (decide (s1.2<(x0.length:Int)))=true then
  if 0<=s1.2/\s1.2<(x0.length:Int) then
   if 0<=s1.2/\s1.2<(x0.length:Int) then
    aP (r22 (IntKind.i64.wrap (((x0.getD s1.2.toNat default).1)+((x0.getD s1.2.toNat default).2))) 2) fun v1=>
     if (decide (a2<0))=true then
      if 0<=s1.2/\s1.2<(x0.length:Int) then
       if (decide (a2>0))=true then
        if 0<=s1.2/\s1.2<(x0.length:Int) then
         aP (r22 (IntKind.i64.wrap (a1*((x0.getD s1.2.toNat default).2))) 1000) fun v2=>
          if (s1.1.length+1)*8<=140737488355328/\s1.1.length+1<=9223372036854775807 then
           .next (s1.1++[v2],IntKind.i64.wrap (s1.2+1))
           else .out none
         else .out none
        else aP (r22 (IntKind.i64.wrap (a1*((x0.getD s1.2.toNat default).1))) 1000) fun v5=>
         if (s1.1.length+1)*8<=140737488355328/\s1.1.length+1<=9223372036854775807 then
          .next (s1.1++[v5],IntKind.i64.wrap (s1.2+1))
          else .out none
       else .out none
      else if (decide (a2>0))=true then
       if 0<=s1.2/\s1.2<(x0.length:Int) then
        aP (r22 (IntKind.i64.wrap (a1*((x0.getD s1.2.toNat default).2))) 1000) fun v8=>
         if (s1.1.length+1)*8<=140737488355328/\s1.1.length+1<=9223372036854775807 then
          .next (s1.1++[v8],IntKind.i64.wrap (s1.2+1))
          else .out none
        else .out none
       else aP (r22 (IntKind.i64.wrap (a1*v1)) 1000) fun v11=>
        if (s1.1.length+1)*8<=140737488355328/\s1.1.length+1<=9223372036854775807 then
         .next (s1.1++[v11],IntKind.i64.wrap (s1.2+1))
         else .out none
    else .out none
   else .out none
  else .out (some s1.1)
def r78 (x1 x2:Int) (x3:au) (x4:aj) (x5 x6:bn) (x0:au) (x7 x8 a1 a2:Int):Option (bn):=
 aS (HY x0 a1 a2) 1000000000 ([],0)
@[go_sem] def T78:=afa ae3 false r78
@[go_sem] def azO (k:Nat):=lk [(22,T22.sp)] k
theorem f78:aF Tryz.prog 78 T78.sp:=by
 refine vm (tb:=azO) (.cons f22 .nil) Tryz.func78 Tryz.ntmps78 fun ⟨x1,x2,x3,x4,x5,x6,x0,x7,x8,a1,a2⟩ r hr stop S=> ?_
 rw [Zo,r78] at hr
 refine S.gx [4,9] ?_
 refine gr ?_
 refine S.Dp 7 1000700 1 rfl rfl ?_
 refine S.sees [1,2,3,7,8] [(3,3)] [(1000700,1000700)] ?_ (Stop.iter S (fun s1=>⟨[(1,.c (.d (.int .i64 a1))),(2,.c (.d (.int .i64 a2))),(3,.c (.ref 3 0)),(7,.c (.own 1000700)),(8,.c (.d (.int .i64 s1.2)))],[(3,[.d (.int .i64 x1),.d (.int .i64 x2),.d (ah 2 aT x3),.d (ah 1 aQ x4),.d (ah 1 cu x5),.d (ah 1 cu x6),.d (ah 2 aT x0),.d (.int .i64 x7),.d (.int .i64 x8)])],[(1000700,.owned (ah 1 cu s1.1))]⟩) (HY x0 a1 a2) (fun q=>q=r) hr rfl ?_)
 ·exact lf
 ·intro s1 hr
  unfold HY at hr
  refine S.gx [4,9] ?_
  refine gr ?_
  refine cZ hr (fun hc hr=> ?_) fun hc hr=>D0 hr
  obtain ⟨JH,hr⟩:=aB hr
  obtain ⟨X9,hr⟩:=aB hr
  obtain ⟨v1,hv1,hr⟩:=aI hr
  refine gb hv1 ?_
  refine cZ hr (fun hc hr=> ?_) fun hc hr=> ?_
  ·obtain ⟨Wx,hr⟩:=aB hr
   refine gr ?_
   refine cZ hr (fun hc hr=> ?_) fun hc hr=> ?_
   ·refine gr ?_
    refine S.prune [1,2,3,7,8] ?_
    refine S.gx [4] ?_
    obtain ⟨hg4,hr⟩:=aB hr
    refine gr ?_
    obtain ⟨v2,hv2,hr⟩:=aI hr
    obtain ⟨hg3,hr⟩:=aB hr
    refine gb hv2 ?_
    refine S.prune [1,2,3,7,8] ?_
    refine S.gx [9] ?_
    exact D1 (S.ss [1,2,3,7,8] [(3,3)] [(53,1000700)]) hr
   ·obtain ⟨v5,hv5,hr⟩:=aI hr
    obtain ⟨Zg,hr⟩:=aB hr
    refine gb hv5 ?_
    refine S.prune [1,2,3,7,8] ?_
    refine S.gx [9] ?_
    exact D1 (S.ss [1,2,3,7,8] [(3,3)] [(53,1000700)]) hr
  ·refine gr ?_
   refine cZ hr (fun hc hr=> ?_) fun hc hr=> ?_
   ·refine gr ?_
    refine S.prune [1,2,3,7,8] ?_
    refine S.gx [4] ?_
    obtain ⟨uX,hr⟩:=aB hr
    refine gr ?_
    obtain ⟨v8,JC,hr⟩:=aI hr
    obtain ⟨Nk,hr⟩:=aB hr
    refine gb JC ?_
    refine S.prune [1,2,3,7,8] ?_
    refine S.gx [9] ?_
    exact D1 (S.ss [1,2,3,7,8] [(3,3)] [(53,1000700)]) hr
   ·obtain ⟨v11,JG,hr⟩:=aI hr
    obtain ⟨y5,hr⟩:=aB hr
    refine gb JG ?_
    refine S.prune [1,2,3,7,8] ?_
    refine S.gx [9] ?_
    exact D1 (S.ss [1,2,3,7,8] [(3,3)] [(53,1000700)]) hr
def aac (x1 x0:Int) (x2:au) (x3:aj) (a1 a2:Int):Option (Int×Int):=
 (r76 x1 x0 x2 x3 a1).bind fun v1=>
  (r76 x1 x0 x2 x3 a2).bind fun v2=>
   (r22 (IntKind.i64.wrap (x0*(IntKind.i64.wrap ((IntKind.i64.wrap (v1.1*v2.2)) - (IntKind.i64.wrap (v2.1*v1.2)))))) (IntKind.i64.wrap ((IntKind.i64.wrap (1000*v1.2))*v2.2))).bind fun v3=>
    some (IntKind.i64.wrap (a1 - v3),IntKind.i64.wrap (a2+v3))
@[go_sem] def av5:=aao Gq false aac
@[go_sem] def aoh (k:Nat):=lk [(22,T22.sp),(76,T76.sp)] k
theorem f151:aF Tryz.prog 151 av5.sp:=by
 refine vm (tb:=aoh) (.cons f22 (.cons f76 .nil)) Tryz.func151 Tryz.ntmps151 fun ⟨x1,x0,x2,x3,a1,a2⟩ r hr stop S=> ?_
 rw [OW,aac] at hr
 refine S.gx [4] ?_
 obtain ⟨v1,hv1,hr⟩:=aA hr
 obtain ⟨v2,hv2,hr⟩:=aA hr
 obtain ⟨v3,hv3,hr⟩:=aA hr
 refine gb hv1 ?_
 refine gb hv2 ?_
 refine gb hv3 ?_
 refine S.prune [1,2,12] ?_
 refine S.gx [] ?_
 exact D0 hr
def oq (x0 x1:Int) (x2:au) (x3:aj) (s1:Int×(List (Int))):Bd (Int×(List (Int))) (cO (Int×(List (Int))) (bn)):=fun s2=>
 if (decide ((IntKind.i64.wrap (s2.1+1))<(s2.2.length:Int)))=true then
  if 0<=s2.1/\s2.1<(s2.2.length:Int) then
   if 0<=IntKind.i64.wrap (s2.1+1)/\IntKind.i64.wrap (s2.1+1)<(s2.2.length:Int) then
    aP (aac x0 x1 x2 x3 (s2.2.getD s2.1.toNat default) (s2.2.getD (IntKind.i64.wrap (s2.1+1)).toNat default)) fun v2=>
     if 0<=s2.1/\s2.1<(s2.2.length:Int) then
      if 0<=IntKind.i64.wrap (s2.1+1)/\IntKind.i64.wrap (s2.1+1)<(s2.2.length:Int) then
       .next (IntKind.i64.wrap (s2.1+2),(s2.2.set s2.1.toNat v2.1).set (IntKind.i64.wrap (s2.1+1)).toNat v2.2)
       else .out none
      else .out none
    else .out none
   else .out none
  else .out (some (.next (IntKind.i64.wrap (s1.1+1),s2.2)))
def tY (x0 x1:Int) (x2:au) (x3:aj):Bd (Int×(List (Int))) bn:=fun s1=>
 if (decide (s1.1<2))=true then
  (aS (oq x0 x1 x2 x3 s1) 1000000000 (s1.1,s1.2)).getD (.out none)
  else .out (some s1.2)
def aaj (x0 x1:Int) (x2:au) (x3:aj) (a1:bn):Option (bn):=
 (r25 a1).bind fun v1=>
  aS (tY x0 x1 x2 x3) 1000000000 (0,v1)
@[go_sem] def awy:=ae' ae3 false aaj
@[go_sem] def aoL (k:Nat):=lk [(25,T25.sp),(151,av5.sp)] k
theorem f105:aF Tryz.prog 105 awy.sp:=by
 refine vm (tb:=aoL) (.cons f25 (.cons f151 .nil)) Tryz.func105 Tryz.ntmps105 fun ⟨x0,x1,x2,x3,a1⟩ r hr stop S=> ?_
 rw [uq5,aaj] at hr
 refine S.gx [] ?_
 obtain ⟨v1,hv1,hr⟩:=aA hr
 refine gb hv1 ?_
 refine S.sees [2,5,6] [(2,2)] [(9,9)] ?_ (Stop.iter S (fun s1=>⟨[(2,.c (.ref 2 0)),(5,.c (.own 9)),(6,.c (.d (.int .i64 s1.1)))],[(2,[.d (.int .i64 x0),.d (.int .i64 x1),.d (ah 2 aT x2),.d (ah 1 aQ x3)])],[(9,.owned (ah 1 cu s1.2))]⟩) (tY x0 x1 x2 x3) (fun q=>q=r) hr rfl ?_)
 ·exact lf
 ·intro s1 hr
  unfold tY at hr
  refine S.gx [] ?_
  refine gr ?_
  refine cZ hr (fun hc hr=> ?_) fun hc hr=>D0 hr
  refine gr ?_
  obtain ⟨q2,hq,hr⟩:=gV hr
  refine S.sees [2,5,6,7] [(2,2)] [(9,9)] ?_ (Stop.iter S (fun s2=>⟨[(2,.c (.ref 2 0)),(5,.c (.own 9)),(6,.c (.d (.int .i64 s1.1))),(7,.c (.d (.int .i64 s2.1)))],[(2,[.d (.int .i64 x0),.d (.int .i64 x1),.d (ah 2 aT x2),.d (ah 1 aQ x3)])],[(9,.owned (ah 1 cu s2.2))]⟩) (oq x0 x1 x2 x3 s1) _ hq hr ?_)
  ·exact lf
  ·intro s2 hr
   unfold oq at hr
   refine S.gx [] ?_
   refine gr ?_
   refine cZ hr (fun hc hr=>D1 (S.ss [2,5,6,7] [(2,2)] [(9,9)]) hr) fun hc hr=> ?_
   refine gr ?_
   replace hr:=aU hr
   exact D1 (S.ss [2,5,6] [(2,2)] [(9,9)]) hr
def aai (x1 x2:Int) (x3:au) (x0:aj) (a1 a2:Int):Option (Int):=
 (r76 x1 x2 x3 x0 a2).bind fun v1=>
  if 0<=a1/\a1<(x0.length:Int) then
   (sS (x0.getD a1.toNat default) v1.1 v1.2).bind fun v2=>
    (r22 v2.1 v2.2).bind fun v3=>
     some v3
   else none
@[go_sem] def awx:=aao lC false aai
@[go_sem] def aoK (k:Nat):=lk [(22,T22.sp),(76,T76.sp),(152,ak6.sp)] k
theorem f106:aF Tryz.prog 106 awx.sp:=by
 refine vm (tb:=aoK) (.cons f22 (.cons f76 (.cons f152 .nil))) Tryz.func106 Tryz.ntmps106 fun ⟨x1,x2,x3,x0,a1,a2⟩ r hr stop S=> ?_
 rw [OW,aai] at hr
 refine S.gx [] ?_
 exact D0 hr
def Ah (x0 x1:Int) (x2:au) (x3:aj) (v2:Int) (s1:Int×(List (Int))):Bd Int (bn×Int×Bool):=fun s2=>
 if (decide (s2<(s1.2.length:Int)))=true then
  if 0<=s2/\s2<(s1.2.length:Int) then
   aP (XP x0 x1 x2 x3 (s1.2.getD s2.toNat default)) fun v6=>
    if (!v6)=true then
     .out (some ([],0,false))
     else .next (IntKind.i64.wrap (s2+1))
   else .out none
  else .out (some (s1.2,v2,true))
def H6 (x0 x1:Int) (x2:au) (x3:aj) (a2:bn) (v2:Int):Bd (Int×(List (Int))) (bn×Int×Bool):=fun s1=>
 if (decide (s1.1<(s1.2.length:Int)))=true then
  if 0<=s1.1/\s1.1<(s1.2.length:Int) then
   if 0<=s1.1/\s1.1<(a2.length:Int) then
    if 0<=s1.1/\s1.1<(s1.2.length:Int) then
     .next (IntKind.i64.wrap (s1.1+1),s1.2.set s1.1.toNat (IntKind.i64.wrap ((s1.2.getD s1.1.toNat default)+(a2.getD s1.1.toNat default))))
     else .out none
    else .out none
   else .out none
  else .out (aS (Ah x0 x1 x2 x3 v2 s1) 1000000000 0)
def r77 (x0 x1:Int) (x2:au) (x3:aj) (a1 a2:bn) (a3:Int):Option (bn×Int×Bool):=
 (aaj x0 x1 x2 x3 a1).bind fun v1=>
  if 0<=0/\0<(v1.length:Int) then
   (aai x0 x1 x2 x3 a3 (v1.getD 0 default)).bind fun v2=>
    if 0<=0/\0<(v1.length:Int) then
     if 0<=0/\0<(v1.length:Int) then
      aS (H6 x0 x1 x2 x3 a2 v2) 1000000000 (0,v1.set 0 (IntKind.i64.wrap ((v1.getD 0 default) - v2)))
      else none
     else none
   else none
@[go_sem] def T77:=ar5 aqh false r77
@[go_sem] def azP (k:Nat):=lk [(105,awy.sp),(106,awx.sp),(107,ala.sp)] k
theorem f77:aF Tryz.prog 77 T77.sp:=by
 refine vm (tb:=azP) (.cons f105 (.cons f106 (.cons f107 .nil))) Tryz.func77 Tryz.ntmps77 fun ⟨x0,x1,x2,x3,a1,a2,a3⟩ r hr stop S=> ?_
 rw [KO,r77] at hr
 refine S.gx [] ?_
 obtain ⟨v1,hv1,hr⟩:=aA hr
 obtain ⟨Wv,hr⟩:=aN hr
 obtain ⟨v2,hv2,hr⟩:=aA hr
 obtain ⟨Nk,hr⟩:=aN hr
 obtain ⟨uX,hr⟩:=aN hr
 refine gb hv1 ?_
 refine gb hv2 ?_
 refine S.sees [2,4,11,12,13] [(4,4)] [(17,17)] ?_ (Stop.iter S (fun s1=>⟨[(2,.c (.d (ah 1 cu a2))),(4,.c (.ref 4 0)),(11,.c (.own 17)),(12,.c (.d (.int .i64 v2))),(13,.c (.d (.int .i64 s1.1)))],[(4,[.d (.int .i64 x0),.d (.int .i64 x1),.d (ah 2 aT x2),.d (ah 1 aQ x3)])],[(17,.owned (ah 1 cu s1.2))]⟩) (H6 x0 x1 x2 x3 a2 v2) (fun q=>q=r) hr rfl ?_)
 ·exact lf
 ·intro s1 hr
  unfold H6 at hr
  refine S.gx [] ?_
  refine gr ?_
  refine cZ hr (fun hc hr=>D1 (S.ss [2,4,11,12,13] [(4,4)] [(17,17)]) hr) fun hc hr=> ?_
  refine gr ?_
  have hr:=bK hr
  refine gr ?_
  refine S.sees [4,11,12,14] [(4,4)] [(17,17)] ?_ (Stop.iter S (fun s2=>⟨[(4,.c (.ref 4 0)),(11,.c (.own 17)),(12,.c (.d (.int .i64 v2))),(14,.c (.d (.int .i64 s2)))],[(4,[.d (.int .i64 x0),.d (.int .i64 x1),.d (ah 2 aT x2),.d (ah 1 aQ x3)])],[(17,.owned (ah 1 cu s1.2))]⟩) (Ah x0 x1 x2 x3 v2 s1) (fun q=>q=r) hr rfl ?_)
  ·exact lf
  ·intro s2 hr
   unfold Ah at hr
   refine S.gx [] ?_
   exact D1 (S.ss [4,11,12,14] [(4,4)] [(17,17)]) hr
def XA (x0 x1:Int) (x2:au) (x3:aj) (x4 x5:bn) (x6:au) (x7 x8:Int) (a1:bn) (x9 x10:Int):Option (bn×Bool):=
 (r78 x0 x1 x2 x3 x4 x5 x6 x7 x8 x9 0).bind fun v1=>
  (r77 x0 x1 x2 x3 a1 v1 x10).bind fun v2=>
   some (v2.1,v2.2.2)
@[go_sem] def T56:=ar4 aqg false XA
@[go_sem] def azY (k:Nat):=lk [(77,T77.sp),(78,T78.sp)] k
theorem f56:aF Tryz.prog 56 T56.sp:=by
 refine vm (tb:=azY) (.cons f77 (.cons f78 .nil)) Tryz.func56 Tryz.ntmps56 fun ⟨x0,x1,x2,x3,x4,x5,x6,x7,x8,a1,x9,x10⟩ r hr stop S=> ?_
 rw [ahV,XA] at hr
 refine S.gx [] ?_
 exact D0 hr
end Go.Proofs.YtkbdjphdhcgmaaaGreatDoor

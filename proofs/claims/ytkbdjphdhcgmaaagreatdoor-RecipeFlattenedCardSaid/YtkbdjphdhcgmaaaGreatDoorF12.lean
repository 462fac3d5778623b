/- Contracts of functions, written by wip/dec. -/
import Derived.Test.YtkbdjphdhcgmaaaGreatDoorF00
import Derived.Test.YtkbdjphdhcgmaaaGreatDoorF01
set_option linter.unusedVariables false
set_option linter.unusedSimpArgs false
set_option linter.constructorNameAsVariable false
set_option maxHeartbeats 4000000
set_option maxRecDepth 20000
namespace Go.Proofs.YtkbdjphdhcgmaaaGreatDoor
open Go.dR
def Iu (R35:aK->Int->Option (Bool)) (a0:aK) (a1:Int):Bd Int Bool:=fun s1=>
 if (decide (s1<(a0.length:Int)))=true then
  if 0<=s1/\s1<(a0.length:Int) then
   aP (R35 (hU ((a0.getD s1.toNat default).2.2.2.2.2)) (IntKind.i64.wrap (a1+1))) fun v1=>
    if (!v1)=true then
     .out (some false)
     else .next (IntKind.i64.wrap (s1+1))
   else .out none
  else .out (some true)
def q35 (lv:Nat) (R35:aK->Int->Option (Bool)) (a0:aK) (a1:Int):Option (Bool):=
 if ((decide ((a0.length:Int)>14)) || (decide (a1>5)))=true then
  some false
  else aS (Iu R35 a0 a1) 1000000000 0
def r35:(ix:Nat)->aK->Int->Option (Bool)
 | 0=>fun _ _=>none
 | lv+1=>q35 lv (r35 lv)
@[go_sem] def T35 (ix:Nat):=aiY oQ false (r35 ix)
@[go_sem] def alq (lv:Nat) (k:Nat):=lk [(35,(T35 lv).sp)] k
theorem Y6 (lv:Nat) (h:aF Tryz.prog 35 (T35 lv).sp):dS Tryz.prog (alq lv):= .cons h .nil
theorem f35 (ix:Nat):aF Tryz.prog 35 (T35 ix).sp:=by
 induction ix with
 | zero=>exact qQ Tryz.func35 (by decide) rfl (fun ⟨a0,a1⟩ h=>Bool.false_ne_true h)
 | succ lv ih=>
 refine oM bP (Y6 lv ih) Tryz.func35 rfl Tryz.ntmps35 fun ⟨a0,a1⟩ r hr=>⟨nL rfl,fun stop S=> ?_⟩
 replace hr:=(yI a0 a1 (r35 (lv+1))).symm.trans hr
 rw [r35] at hr
 unfold q35 at hr
 refine S.gx [] ?_
 repeat (first | refine gA ?_ | refine gB ?_)
 refine iW hr (fun hc hr=>D0 hr) fun hc hr=> ?_
 refine gr ?_
 refine S.sees [0,1,5] [] [] ?_ (Stop.iter S (fun s1=>⟨[(0,.c (.d (ah 6 aZ a0))),(1,.c (.d (.int .i64 a1))),(5,.c (.d (.int .i64 s1)))],[],[]⟩) (Iu (r35 lv) a0 a1) (fun q=>q=r) hr rfl ?_)
 ·exact lf
 ·intro s1 hr
  unfold Iu at hr
  refine S.gx [] ?_
  exact D1 (S.ss [0,1,5] [] []) hr
def Ir (R36:aK->Option (Int)) (a0:aK):Bd (Int×Int) Int:=fun s1=>
 if ((decide (s1.2<(a0.length:Int))) && (decide (s1.1<=100)))=true then
  if 0<=s1.2/\s1.2<(a0.length:Int) then
   aP (R36 (hU ((a0.getD s1.2.toNat default).2.2.2.2.2))) fun v1=>
    .next (IntKind.i64.wrap (s1.1+v1),IntKind.i64.wrap (s1.2+1))
   else .out none
  else .out (some s1.1)
def q36 (lv:Nat) (R36:aK->Option (Int)) (a0:aK):Option (Int):=
 aS (Ir R36 a0) 1000000000 ((a0.length:Int),0)
def r36:(ix:Nat)->aK->Option (Int)
 | 0=>fun _=>none
 | lv+1=>q36 lv (r36 lv)
@[go_sem] def T36 (ix:Nat):=Dc lC false (r36 ix)
@[go_sem] def alp (lv:Nat) (k:Nat):=lk [(36,(T36 lv).sp)] k
theorem Y5 (lv:Nat) (h:aF Tryz.prog 36 (T36 lv).sp):dS Tryz.prog (alp lv):= .cons h .nil
theorem f36 (ix:Nat):aF Tryz.prog 36 (T36 ix).sp:=by
 induction ix with
 | zero=>exact qQ Tryz.func36 (by decide) rfl (fun a0 h=>Bool.false_ne_true h)
 | succ lv ih=>
 refine oM bP (Y5 lv ih) Tryz.func36 rfl Tryz.ntmps36 fun a0 r hr=>⟨nL rfl,fun stop S=> ?_⟩
 replace hr:=(oC a0 (r36 (lv+1))).symm.trans hr
 rw [r36] at hr
 unfold q36 at hr
 refine S.gx [] ?_
 refine gr ?_
 refine S.sees [0,3,4] [] [] ?_ (Stop.iter S (fun s1=>⟨[(0,.c (.d (ah 6 aZ a0))),(3,.c (.d (.int .i64 s1.1))),(4,.c (.d (.int .i64 s1.2)))],[],[]⟩) (Ir (r36 lv) a0) (fun q=>q=r) hr rfl ?_)
 ·exact lf
 ·intro s1 hr
  unfold Ir at hr
  refine S.gx [] ?_
  repeat (first | refine gA ?_ | refine gB ?_)
  exact D1 (S.ss [0,3,4] [] []) hr
def r7 (a0:aK):Option (Bool):=
 (r35 7 a0 0).bind fun v1=>
  if v1=true->(r36 7 a0).isSome=true then
   some (v1 && (decide (((r36 7 a0).getD default)<=60)))
   else none
@[go_sem] def T7:=Dc oQ false r7
@[go_sem] def tb7 (k:Nat):=lk [(35,(T35 7).sp),(36,(T36 7).sp)] k
theorem f7:aF Tryz.prog 7 T7.sp:=by
 refine vm (tb:=tb7) (.cons (f35 7) (.cons (f36 7) .nil)) Tryz.func7 Tryz.ntmps7 fun a0 r hr stop S=> ?_
 rw [oC,r7] at hr
 refine S.gx [] ?_
 obtain ⟨v1,hv1,hr⟩:=aA hr
 obtain ⟨hg2,hr⟩:=aN hr
 try simp only [hv1,oG,oI,true_and,and_assoc]
 repeat (first | refine gG hg2 ?_ | refine gA ?_ | refine gB ?_)
 exact D0 hr
def aax (R9:aK->Option (aK)) (a0:aK):Bd ((List (Int×Int×Int×Int×Int×Hl))×Int) aK:=fun s1=>
 if (decide (s1.2<(a0.length:Int)))=true then
  if 0<=s1.2/\s1.2<(a0.length:Int) then
   if 0<=s1.2/\s1.2<(a0.length:Int) then
    aP (R9 (hU ((a0.getD s1.2.toNat default).2.2.2.2.2))) fun v1=>
     if (s1.1.length+1)*64<=140737488355328/\s1.1.length+1<=9223372036854775807 then
      .next (s1.1++[((a0.getD s1.2.toNat default).1,(a0.getD s1.2.toNat default).2.1,(a0.getD s1.2.toNat default).2.2.1,(a0.getD s1.2.toNat default).2.2.2.1,(a0.getD s1.2.toNat default).2.2.2.2.1,hM v1)],IntKind.i64.wrap (s1.2+1))
      else .out none
    else .out none
   else .out none
  else .out (some s1.1)
def q9 (lv:Nat) (R9:aK->Option (aK)) (a0:aK):Option (aK):=
 aS (aax R9 a0) 1000000000 ([],0)
def r9:(ix:Nat)->aK->Option (aK)
 | 0=>fun _=>none
 | lv+1=>q9 lv (r9 lv)
@[go_sem] def T9 (ix:Nat):=Dc qu1 true (r9 ix)
@[go_sem] def tb9 (lv:Nat) (k:Nat):=lk [(9,(T9 lv).sp)] k
theorem abK (lv:Nat) (h:aF Tryz.prog 9 (T9 lv).sp):dS Tryz.prog (tb9 lv):= .cons h .nil
theorem f9 (ix:Nat):aF Tryz.prog 9 (T9 ix).sp:=by
 induction ix with
 | zero=>exact qQ Tryz.func9 (by decide) rfl (fun a0 h=>Bool.false_ne_true h)
 | succ lv ih=>
 refine oM bP (abK lv ih) Tryz.func9 rfl Tryz.ntmps9 fun a0 r hr=>⟨nL rfl,fun stop S=> ?_⟩
 replace hr:=(oC a0 (r9 (lv+1))).symm.trans hr
 rw [r9] at hr
 unfold q9 at hr
 refine S.gx [] ?_
 refine gr ?_
 refine S.Dp 3 1000300 6 rfl rfl ?_
 refine S.sees [0,3,4] [] [(1000300,1000300)] ?_ (Stop.iter S (fun s1=>⟨[(0,.c (.d (ah 6 aZ a0))),(3,.c (.own 1000300)),(4,.c (.d (.int .i64 s1.2)))],[],[(1000300,.owned (ah 6 aZ s1.1))]⟩) (aax (r9 lv) a0) (fun q=>q=r) hr rfl ?_)
 ·exact lf
 ·intro s1 hr
  unfold aax at hr
  refine S.gx [] ?_
  exact D1 (S.ss [0,3,4] [] [(26,1000300)]) hr
section
variable {β:Type} [Inhabited β] (u:β->List RV) (al:Bool)
def ai7 (v:Bool×Bool×Bool×Bool):List RV:=[.agg [.d (.bool v.1),.d (.bool v.2.1),.d (.bool v.2.2.1),.d (.bool v.2.2.2)]]
attribute [go_sem] ai7
end
def r57 (a0 a1 a2:Int):Option (Bool):=
 some ((decide (a1<=a0)) && (decide (a0<=a2)))
@[go_sem] def T57:=qT1 oQ false r57
theorem f57:aF Tryz.prog 57 T57.sp:=by
 refine vm .nil Tryz.func57 Tryz.ntmps57 fun ⟨a0,a1,a2⟩ r hr stop S=> ?_
 rw [Zd,r57] at hr
 refine S.gx [] ?_
 repeat (first | refine gA ?_ | refine gB ?_)
 exact D0 hr
def r97 (a0:Int):Option (Bool×Bool×Bool×Bool):=
 if (a0 == 0)=true then
  some (true,false,false,false)
  else if (a0 == 2)=true then
   some (false,true,false,false)
   else if (a0 == 3)=true then
    some (true,false,true,false)
    else if (a0 == 4)=true then
     some (false,true,true,false)
     else if (a0 == 5)=true then
      some (false,false,false,true)
      else some (false,false,false,false)
@[go_sem] def T97:=KQ ai7 false r97
theorem f97:aF Tryz.prog 97 T97.sp:=by
 refine vm .nil Tryz.func97 Tryz.ntmps97 fun a0 r hr stop S=> ?_
 rw [oC,r97] at hr
 refine S.gx [] ?_
 exact D0 hr
def r98 (a0:Int):Option (Bool):=
 (r57 a0 200 3000).bind fun v1=>
  some v1
@[go_sem] def T98:=KQ oQ false r98
@[go_sem] def alc (k:Nat):=lk [(57,T57.sp)] k
theorem f98:aF Tryz.prog 98 T98.sp:=by
 refine vm (tb:=alc) (.cons f57 .nil) Tryz.func98 Tryz.ntmps98 fun a0 r hr stop S=> ?_
 rw [oC,r98] at hr
 refine S.gx [] ?_
 exact D0 hr
def Ip (R42:aK->Int->Option (Int×Int)) (a0:aK) (a1:Int):Bd Int (Int×Int):=fun s1=>
 if (decide (s1<(a0.length:Int)))=true then
  if 0<=s1/\s1<(a0.length:Int) then
   aP (r57 ((a0.getD s1.toNat default).1) 0 5) fun v1=>
    if (!v1)=true then
     .out (some (s1,15))
     else aP (r97 ((a0.getD s1.toNat default).1)) fun v2=>
      if (((((!v2.1) && (((a0.getD s1.toNat default).2.1) != 0)) || ((!v2.2.1) && (((a0.getD s1.toNat default).2.2.1) != 0))) || ((!v2.2.2.1) && (((a0.getD s1.toNat default).2.2.2.2.1) != 0))) || ((!v2.2.2.2) && (decide (((hU ((a0.getD s1.toNat default).2.2.2.2.2)).length:Int)>0))))=true then
       .out (some (s1,3))
       else if v2.2.2.2=true then
        if v2.1=true->(r57 ((a0.getD s1.toNat default).2.1) 1 10000).isSome=true then
         if ((!(v2.1 && (!((r57 ((a0.getD s1.toNat default).2.1) 1 10000).getD default)))) && v2.2.1)=true->(r57 ((a0.getD s1.toNat default).2.2.1) 0 3).isSome=true then
          if (!((v2.1 && (!((r57 ((a0.getD s1.toNat default).2.1) 1 10000).getD default))) || (v2.2.1 && (!((r57 ((a0.getD s1.toNat default).2.2.1) 0 3).getD default)))))=true->(r57 ((a0.getD s1.toNat default).2.2.2.1) 1 10).isSome=true then
           if ((!(((v2.1 && (!((r57 ((a0.getD s1.toNat default).2.1) 1 10000).getD default))) || (v2.2.1 && (!((r57 ((a0.getD s1.toNat default).2.2.1) 0 3).getD default)))) || (!((r57 ((a0.getD s1.toNat default).2.2.2.1) 1 10).getD default)))) && v2.2.2.1)=true->(r98 ((a0.getD s1.toNat default).2.2.2.2.1)).isSome=true then
            if ((((v2.1 && (!((r57 ((a0.getD s1.toNat default).2.1) 1 10000).getD default))) || (v2.2.1 && (!((r57 ((a0.getD s1.toNat default).2.2.1) 0 3).getD default)))) || (!((r57 ((a0.getD s1.toNat default).2.2.2.1) 1 10).getD default))) || (v2.2.2.1 && (!((r98 ((a0.getD s1.toNat default).2.2.2.2.1)).getD default))))=true then
             .out (some (s1,2))
             else if (!v2.2.2.2)=true then
              .next (IntKind.i64.wrap (s1+1))
              else if (decide (a1>=3))=true then
               .out (some (s1,16))
               else aP (R42 (hU ((a0.getD s1.toNat default).2.2.2.2.2)) (IntKind.i64.wrap (a1+1))) fun v3=>
                if (v3.2 != 0)=true then
                 .out (some (s1,v3.2))
                 else .next (IntKind.i64.wrap (s1+1))
            else .out none
           else .out none
          else .out none
         else .out none
        else if v2.1=true->(r57 ((a0.getD s1.toNat default).2.1) 1 10000).isSome=true then
         if ((!(v2.1 && (!((r57 ((a0.getD s1.toNat default).2.1) 1 10000).getD default)))) && v2.2.1)=true->(r57 ((a0.getD s1.toNat default).2.2.1) 0 3).isSome=true then
          if (!((v2.1 && (!((r57 ((a0.getD s1.toNat default).2.1) 1 10000).getD default))) || (v2.2.1 && (!((r57 ((a0.getD s1.toNat default).2.2.1) 0 3).getD default)))))=true->(r57 ((a0.getD s1.toNat default).2.2.2.1) 1 200).isSome=true then
           if ((!(((v2.1 && (!((r57 ((a0.getD s1.toNat default).2.1) 1 10000).getD default))) || (v2.2.1 && (!((r57 ((a0.getD s1.toNat default).2.2.1) 0 3).getD default)))) || (!((r57 ((a0.getD s1.toNat default).2.2.2.1) 1 200).getD default)))) && v2.2.2.1)=true->(r98 ((a0.getD s1.toNat default).2.2.2.2.1)).isSome=true then
            if ((((v2.1 && (!((r57 ((a0.getD s1.toNat default).2.1) 1 10000).getD default))) || (v2.2.1 && (!((r57 ((a0.getD s1.toNat default).2.2.1) 0 3).getD default)))) || (!((r57 ((a0.getD s1.toNat default).2.2.2.1) 1 200).getD default))) || (v2.2.2.1 && (!((r98 ((a0.getD s1.toNat default).2.2.2.2.1)).getD default))))=true then
             .out (some (s1,2))
             else if (!v2.2.2.2)=true then
              .next (IntKind.i64.wrap (s1+1))
              else if (decide (a1>=3))=true then
               .out (some (s1,16))
               else aP (R42 (hU ((a0.getD s1.toNat default).2.2.2.2.2)) (IntKind.i64.wrap (a1+1))) fun v8=>
                if (v8.2 != 0)=true then
                 .out (some (s1,v8.2))
                 else .next (IntKind.i64.wrap (s1+1))
            else .out none
           else .out none
          else .out none
         else .out none
   else .out none
  else .out (some (0,0))
def q42 (lv:Nat) (R42:aK->Int->Option (Int×Int)) (a0:aK) (a1:Int):Option (Int×Int):=
 if ((a0.length:Int) == 0)=true then
  some (0,10)
  else if (decide ((a0.length:Int)>12))=true then
   some (0,8)
   else aS (Ip R42 a0 a1) 1000000000 0
def r42:(ix:Nat)->aK->Int->Option (Int×Int)
 | 0=>fun _ _=>none
 | lv+1=>q42 lv (r42 lv)
@[go_sem] def T42 (ix:Nat):=aiY Gq false (r42 ix)
@[go_sem] def alo (lv:Nat) (k:Nat):=lk [(42,(T42 lv).sp),(57,T57.sp),(97,T97.sp),(98,T98.sp)] k
theorem J9 (lv:Nat) (h:aF Tryz.prog 42 (T42 lv).sp):dS Tryz.prog (alo lv):= .cons h (.cons f57 (.cons f97 (.cons f98 .nil)))
theorem f42 (ix:Nat):aF Tryz.prog 42 (T42 ix).sp:=by
 induction ix with
 | zero=>exact qQ Tryz.func42 (by decide) rfl (fun ⟨a0,a1⟩ h=>Bool.false_ne_true h)
 | succ lv ih=>
 refine oM bP (J9 lv ih) Tryz.func42 rfl Tryz.ntmps42 fun ⟨a0,a1⟩ r hr=>⟨nL rfl,fun stop S=> ?_⟩
 replace hr:=(yI a0 a1 (r42 (lv+1))).symm.trans hr
 rw [r42] at hr
 unfold q42 at hr
 refine S.gx [8] ?_
 refine gr ?_
 refine iW hr (fun hc hr=>D0 hr) fun hc hr=> ?_
 refine gr ?_
 refine iW hr (fun hc hr=>D0 hr) fun hc hr=> ?_
 refine gr ?_
 refine S.sees [0,1,6] [] [] ?_ (Stop.iter S (fun s1=>⟨[(0,.c (.d (ah 6 aZ a0))),(1,.c (.d (.int .i64 a1))),(6,.c (.d (.int .i64 s1)))],[],[]⟩) (Ip (r42 lv) a0 a1) (fun q=>q=r) hr rfl ?_)
 ·exact lf
 ·intro s1 hr
  unfold Ip at hr
  refine S.gx [8] ?_
  refine gr ?_
  refine cZ hr (fun hc hr=> ?_) fun hc hr=>D0 hr
  refine gr ?_
  refine S.inl 5 [0,1,6] [] Tryz.func70 (by decide) rfl Tryz.ntmps70 (fun cx e=>aX bP (J9 lv ih) cx e) (some 25) rfl rfl rfl rfl (nL rfl) (nL rfl) ?_
  refine gs ?_
  obtain ⟨JH,hr⟩:=aB hr
  refine gr ?_
  intro stop1 S1
  refine S1.gx [5,6,10,11] ?_
  obtain ⟨v1,hv1,hr⟩:=aI hr
  refine gb hv1 ?_
  refine cZ hr (fun hc hr=> ?_) fun hc hr=> ?_
  ·refine gr ?_
   refine gr ?_
   refine S.gx [8] ?_
   exact D0 hr
  ·obtain ⟨v2,hv2,hr⟩:=aI hr
   try simp only [hv2,oG,oI,true_and,and_assoc]
   repeat (first | refine gA ?_ | refine gB ?_)
   refine cZ hr (fun hc hr=> ?_) fun hc hr=> ?_
   ·refine gr ?_
    refine S1.prune [] ?_
    refine S1.gx [6,10,11] ?_
    refine gr ?_
    refine gr ?_
    refine gr ?_
    refine S.gx [8] ?_
    exact D0 hr
   ·refine gr ?_
    refine S1.prune [1,2,5] ?_
    refine S1.gx [5,10,11] ?_
    refine gr ?_
    refine gr ?_
    refine cZ hr (fun hc hr=> ?_) fun hc hr=> ?_
    ·obtain ⟨hg4,hr⟩:=aB hr
     obtain ⟨hg5,hr⟩:=aB hr
     obtain ⟨Zg,hr⟩:=aB hr
     obtain ⟨Wx,hr⟩:=aB hr
     repeat (first | refine gG hg4 ?_ | refine gG hg5 ?_ | refine gG Zg ?_ | refine gG Wx ?_ | refine gA ?_ | refine gB ?_)
     refine cZ hr (fun hc hr=> ?_) fun hc hr=> ?_
     ·refine gr ?_
      refine S1.prune [] ?_
      refine S1.gx [5,6,11] ?_
      refine gr ?_
      refine gr ?_
      refine gr ?_
      refine S.gx [8] ?_
      exact D0 hr
     ·refine gr ?_
      refine S1.prune [1,2,5] ?_
      refine S1.gx [5,6,10] ?_
      refine gr ?_
      refine gr ?_
      refine cZ hr (fun hc hr=> ?_) fun hc hr=> ?_
      ·refine gr ?_
       refine gr ?_
       refine S.gx [8] ?_
       exact D1 (S.ss [0,1,6] [] []) hr
      ·refine gr ?_
       refine cZ hr (fun hc hr=> ?_) fun hc hr=> ?_
       ·refine gr ?_
        refine gr ?_
        refine S.gx [8] ?_
        exact D0 hr
       ·obtain ⟨v3,hv3,hr⟩:=aI hr
        refine gb hv3 ?_
        refine gr ?_
        refine S.gx [8] ?_
        exact D1 (S.ss [0,1,6] [] []) hr
    ·obtain ⟨Nk,hr⟩:=aB hr
     obtain ⟨uX,hr⟩:=aB hr
     obtain ⟨y7,hr⟩:=aB hr
     obtain ⟨y5,hr⟩:=aB hr
     repeat (first | refine gG Nk ?_ | refine gG uX ?_ | refine gG y7 ?_ | refine gG y5 ?_ | refine gA ?_ | refine gB ?_)
     refine cZ hr (fun hc hr=> ?_) fun hc hr=> ?_
     ·refine gr ?_
      refine S1.prune [] ?_
      refine S1.gx [5,6,11] ?_
      refine gr ?_
      refine gr ?_
      refine gr ?_
      refine S.gx [8] ?_
      exact D0 hr
     ·refine gr ?_
      refine S1.prune [1,2,5] ?_
      refine S1.gx [5,6,10] ?_
      refine gr ?_
      refine gr ?_
      refine cZ hr (fun hc hr=> ?_) fun hc hr=> ?_
      ·refine gr ?_
       refine gr ?_
       refine S.gx [8] ?_
       exact D1 (S.ss [0,1,6] [] []) hr
      ·refine gr ?_
       refine cZ hr (fun hc hr=> ?_) fun hc hr=> ?_
       ·refine gr ?_
        refine gr ?_
        refine S.gx [8] ?_
        exact D0 hr
       ·obtain ⟨v8,JC,hr⟩:=aI hr
        refine gb JC ?_
        refine gr ?_
        refine S.gx [8] ?_
        exact D1 (S.ss [0,1,6] [] []) hr
def BZ (R43:aK->Option (Int)) (a0:aK):Bd (Int×Int) Int:=fun s1=>
 if (decide (s1.2<(a0.length:Int)))=true then
  if 0<=s1.2/\s1.2<(a0.length:Int) then
   if (((a0.getD s1.2.toNat default).1) == 5)=true then
    if 0<=s1.2/\s1.2<(a0.length:Int) then
     if 0<=s1.2/\s1.2<(a0.length:Int) then
      aP (R43 (hU ((a0.getD s1.2.toNat default).2.2.2.2.2))) fun v1=>
       .next ((if 61<IntKind.i64.wrap (s1.1+(IntKind.i64.wrap (((a0.getD s1.2.toNat default).2.2.2.1)*v1))) then 61 else IntKind.i64.wrap (s1.1+(IntKind.i64.wrap (((a0.getD s1.2.toNat default).2.2.2.1)*v1)))),IntKind.i64.wrap (s1.2+1))
      else .out none
     else .out none
    else .next ((if 61<IntKind.i64.wrap (s1.1+1) then 61 else IntKind.i64.wrap (s1.1+1)),IntKind.i64.wrap (s1.2+1))
   else .out none
  else .out (some s1.1)
def q43 (lv:Nat) (R43:aK->Option (Int)) (a0:aK):Option (Int):=
 aS (BZ R43 a0) 1000000000 (0,0)
def r43:(ix:Nat)->aK->Option (Int)
 | 0=>fun _=>none
 | lv+1=>q43 lv (r43 lv)
@[go_sem] def T43 (ix:Nat):=Dc lC false (r43 ix)
@[go_sem] def aln (lv:Nat) (k:Nat):=lk [(43,(T43 lv).sp)] k
theorem Y4 (lv:Nat) (h:aF Tryz.prog 43 (T43 lv).sp):dS Tryz.prog (aln lv):= .cons h .nil
theorem f43 (ix:Nat):aF Tryz.prog 43 (T43 ix).sp:=by
 induction ix with
 | zero=>exact qQ Tryz.func43 (by decide) rfl (fun a0 h=>Bool.false_ne_true h)
 | succ lv ih=>
 refine oM bP (Y4 lv ih) Tryz.func43 rfl Tryz.ntmps43 fun a0 r hr=>⟨nL rfl,fun stop S=> ?_⟩
 replace hr:=(oC a0 (r43 (lv+1))).symm.trans hr
 rw [r43] at hr
 unfold q43 at hr
 refine S.gx [] ?_
 refine gr ?_
 refine S.sees [0,3,4] [] [] ?_ (Stop.iter S (fun s1=>⟨[(0,.c (.d (ah 6 aZ a0))),(3,.c (.d (.int .i64 s1.1))),(4,.c (.d (.int .i64 s1.2)))],[],[]⟩) (BZ (r43 lv) a0) (fun q=>q=r) hr rfl ?_)
 ·exact lf
 ·intro s1 hr
  unfold BZ at hr
  refine S.gx [] ?_
  exact D1 (S.ss [0,3,4] [] []) hr
def IZ (a0:aK) (s1:(List (Int×Int×Int×Int×Int×Hl))×Int) (v3:aK):Bd (Int×(List (Int×Int×Int×Int×Int×Hl))) (cO ((List (Int×Int×Int×Int×Int×Hl))×Int) (aK)):=fun s2=>
 if 0<=s1.2/\s1.2<(a0.length:Int) then
  if (decide (s2.1<((a0.getD s1.2.toNat default).2.2.2.1)))=true then
   if (s2.2.length+v3.length)*64<=140737488355328/\s2.2.length+v3.length<=9223372036854775807 then
    .next (IntKind.i64.wrap (s2.1+1),s2.2++v3)
    else .out none
   else .out (some (.next (s2.2,IntKind.i64.wrap (s1.2+1))))
  else .out none
def Cb (R13:aK->Option (aK)) (a0:aK):Bd ((List (Int×Int×Int×Int×Int×Hl))×Int) aK:=fun s1=>
 if (decide (s1.2<(a0.length:Int)))=true then
  if 0<=s1.2/\s1.2<(a0.length:Int) then
   if (((a0.getD s1.2.toNat default).1) != 5)=true then
    if 0<=s1.2/\s1.2<(a0.length:Int) then
     if (s1.1.length+1)*64<=140737488355328/\s1.1.length+1<=9223372036854775807 then
      .next (s1.1++[((a0.getD s1.2.toNat default).1,(a0.getD s1.2.toNat default).2.1,(a0.getD s1.2.toNat default).2.2.1,(a0.getD s1.2.toNat default).2.2.2.1,(a0.getD s1.2.toNat default).2.2.2.2.1,(a0.getD s1.2.toNat default).2.2.2.2.2)],IntKind.i64.wrap (s1.2+1))
      else .out none
     else .out none
    else if 0<=s1.2/\s1.2<(a0.length:Int) then
     aP (R13 (hU ((a0.getD s1.2.toNat default).2.2.2.2.2))) fun v3=>
      (aS (IZ a0 s1 v3) 1000000000 (0,s1.1)).getD (.out none)
     else .out none
   else .out none
  else .out (some s1.1)
def q13 (lv:Nat) (R13:aK->Option (aK)) (a0:aK):Option (aK):=
 aS (Cb R13 a0) 1000000000 ([],0)
def r13:(ix:Nat)->aK->Option (aK)
 | 0=>fun _=>none
 | lv+1=>q13 lv (r13 lv)
@[go_sem] def T13 (ix:Nat):=Dc qu1 true (r13 ix)
@[go_sem] def aly (lv:Nat) (k:Nat):=lk [(13,(T13 lv).sp)] k
theorem Zc (lv:Nat) (h:aF Tryz.prog 13 (T13 lv).sp):dS Tryz.prog (aly lv):= .cons h .nil
theorem f13 (ix:Nat):aF Tryz.prog 13 (T13 ix).sp:=by
 induction ix with
 | zero=>exact qQ Tryz.func13 (by decide) rfl (fun a0 h=>Bool.false_ne_true h)
 | succ lv ih=>
 refine oM bP (Zc lv ih) Tryz.func13 rfl Tryz.ntmps13 fun a0 r hr=>⟨nL rfl,fun stop S=> ?_⟩
 replace hr:=(oC a0 (r13 (lv+1))).symm.trans hr
 rw [r13] at hr
 unfold q13 at hr
 refine S.gx [] ?_
 refine gr ?_
 refine S.Dp 3 1000300 6 rfl rfl ?_
 refine S.sees [0,3,4] [] [(1000300,1000300)] ?_ (Stop.iter S (fun s1=>⟨[(0,.c (.d (ah 6 aZ a0))),(3,.c (.own 1000300)),(4,.c (.d (.int .i64 s1.2)))],[],[(1000300,.owned (ah 6 aZ s1.1))]⟩) (Cb (r13 lv) a0) (fun q=>q=r) hr rfl ?_)
 ·exact lf
 ·intro s1 hr
  unfold Cb at hr
  refine S.gx [] ?_
  refine gr ?_
  refine cZ hr (fun hc hr=> ?_) fun hc hr=>D0 hr
  obtain ⟨Wx,hr⟩:=aB hr
  refine gr ?_
  refine cZ hr (fun hc hr=>D1 (S.ss [0,3,4] [] [(25,1000300)]) hr) fun hc hr=> ?_
  obtain ⟨Zg,hr⟩:=aB hr
  obtain ⟨v3,hv3,hr⟩:=aI hr
  refine gb hv3 ?_
  obtain ⟨q2,hq,hr⟩:=gV hr
  refine S.sees [0,3,4,5,6] [] [(1000300,1000300),(31,31)] ?_ (Stop.iter S (fun s2=>⟨[(0,.c (.d (ah 6 aZ a0))),(3,.c (.own 1000300)),(4,.c (.d (.int .i64 s1.2))),(5,.c (.own 31)),(6,.c (.d (.int .i64 s2.1)))],[],[(1000300,.owned (ah 6 aZ s2.2)),(31,.owned (ah 6 aZ v3))]⟩) (IZ a0 s1 v3) _ hq hr ?_)
  ·exact lf
  ·intro s2 hr
   unfold IZ at hr
   refine S.gx [] ?_
   obtain ⟨hg5,hr⟩:=aB hr
   refine gr ?_
   refine cZ hr (fun hc hr=>D1 (S.ss [0,3,4,5,6] [] [(43,1000300),(31,31)]) hr) fun hc hr=> ?_
   refine gr ?_
   replace hr:=aU hr
   exact D1 (S.ss [0,3,4] [] [(1000300,1000300)]) hr
def r44 (x0 x1 x2 x3 x4:Int) (x5:Hl):Option (Bool):=
 some ((x0 == 2) || (x0 == 4))
@[go_sem] def T44:=XR oQ false r44
theorem f44:aF Tryz.prog 44 T44.sp:=by
 refine vm .nil Tryz.func44 Tryz.ntmps44 fun ⟨x0,x1,x2,x3,x4,x5⟩ r hr stop S=> ?_
 rw [OW,r44] at hr
 refine S.gx [] ?_
 repeat (first | refine gA ?_ | refine gB ?_)
 exact D0 hr
def r11 (a0:aK):Option (Int×Int):=
 (r42 7 a0 0).bind fun v1=>
  if (v1.2 != 0)=true then
   some (v1.1,v1.2)
   else (r43 7 a0).bind fun v2=>
    if (decide (v2>60))=true then
     some (0,8)
     else (r13 7 a0).bind fun v3=>
      if 0<=IntKind.i64.wrap ((v3.length:Int) - 1)/\IntKind.i64.wrap ((v3.length:Int) - 1)<(v3.length:Int) then
       (r44 ((v3.getD (IntKind.i64.wrap ((v3.length:Int) - 1)).toNat default).1) ((v3.getD (IntKind.i64.wrap ((v3.length:Int) - 1)).toNat default).2.1) ((v3.getD (IntKind.i64.wrap ((v3.length:Int) - 1)).toNat default).2.2.1) ((v3.getD (IntKind.i64.wrap ((v3.length:Int) - 1)).toNat default).2.2.2.1) ((v3.getD (IntKind.i64.wrap ((v3.length:Int) - 1)).toNat default).2.2.2.2.1) ((v3.getD (IntKind.i64.wrap ((v3.length:Int) - 1)).toNat default).2.2.2.2.2)).bind fun v4=>
        if (!v4)=true then
         some (0,20)
         else some (0,0)
       else none
@[go_sem] def T11:=Dc Gq false r11
@[go_sem] def alz (k:Nat):=lk [(13,(T13 7).sp),(42,(T42 7).sp),(43,(T43 7).sp),(44,T44.sp)] k
theorem f11:aF Tryz.prog 11 T11.sp:=by
 refine vm (tb:=alz) (.cons (f13 7) (.cons (f42 7) (.cons (f43 7) (.cons f44 .nil)))) Tryz.func11 Tryz.ntmps11 fun a0 r hr stop S=> ?_
 rw [oC,r11] at hr
 refine S.gx [] ?_
 exact D0 hr
def IY (x0:aj):Bd Int Bool:=fun s1=>
 if (decide (s1<(x0.length:Int)))=true then
  if 0<=s1/\s1<(x0.length:Int) then
   if (decide (((x0.getD s1.toNat default).length:Int)>14))=true then
    .out (some false)
    else .next (IntKind.i64.wrap (s1+1))
   else .out none
  else .out (some true)
def r14 (x1 x6:Int) (x2:au) (x0:aj) (x3 x4:bn) (x5:au) (x7 x8:Int):Option (Bool):=
 if ((((((decide (x1>14)) || (decide ((x2.length:Int)>14))) || (decide ((x0.length:Int)>14))) || (decide ((x3.length:Int)>14))) || (decide ((x4.length:Int)>14))) || (decide ((x5.length:Int)>14)))=true then
  some false
  else aS (IY x0) 1000000000 0
@[go_sem] def T14:=L8 oQ false r14
theorem f14:aF Tryz.prog 14 T14.sp:=by
 refine vm .nil Tryz.func14 Tryz.ntmps14 fun ⟨x1,x6,x2,x0,x3,x4,x5,x7,x8⟩ r hr stop S=> ?_
 rw [OV,r14] at hr
 refine S.gx [2,3] ?_
 repeat (first | refine gA ?_ | refine gB ?_)
 refine iW hr (fun hc hr=> ?_) fun hc hr=> ?_
 ·refine gr ?_
  refine S.prune [] ?_
  refine S.gx [3] ?_
  exact D0 hr
 ·refine gr ?_
  refine S.prune [1] ?_
  refine S.gx [2] ?_
  refine gr ?_
  refine gr ?_
  refine S.sees [1,3] [(1,1)] [] ?_ (Stop.iter S (fun s1=>⟨[(1,.c (.ref 1 0)),(3,.c (.d (.int .i64 s1)))],[(1,[.d (.int .i64 x1),.d (.int .i64 x6),.d (ah 2 aT x2),.d (ah 1 aQ x0),.d (ah 1 cu x3),.d (ah 1 cu x4),.d (ah 2 aT x5),.d (.int .i64 x7),.d (.int .i64 x8)])],[]⟩) (IY x0) (fun q=>q=r) hr rfl ?_)
  ·exact lf
  ·intro s1 hr
   unfold IY at hr
   refine S.gx [2,3] ?_
   exact D1 (S.ss [1,3] [(1,1)] []) hr
section
variable {β:Type} [Inhabited β] (u:β->List RV) (al:Bool)
def aif (a0 a1:bn):List Arg:=[.agg [ah 1 cu a0,ah 1 cu a1]]
def ajb:List Arg->bn×bn
 | [.agg [c0,c1]]=>(aG jM c0,aG jM c1)
 | _=>default
def ajh (r:bn->bn->Option β):=mkT (u2 aif) ajb (u2 r) u al
attribute [go_sem] aif ajb ajh
def ai6 (v:Int×Int×au×aj):List RV:=[.agg [.d (.int .i64 v.1),.d (.int .i64 v.2.1),.own (ah 2 aT v.2.2.1),.own (ah 1 aQ v.2.2.2)]]
attribute [go_sem] ai6
def aiX (v:bn×bn):List RV:=[.agg [.own (ah 1 cu v.1),.own (ah 1 cu v.2)]]
attribute [go_sem] aiX
end
def IB (x2 x3:Int) (x1:au) (x0:aj):Bd (Int×(List (au))) (Int×Int×au×aj):=fun s1=>
 if (decide (s1.1<(x0.length:Int)))=true then
  if 0<=s1.1/\s1.1<(x0.length:Int) then
   if (0+(x0.getD s1.1.toNat default).length)*16<=140737488355328/\0+(x0.getD s1.1.toNat default).length<=9223372036854775807 then
    if (s1.2.length+1)*24<=140737488355328/\s1.2.length+1<=9223372036854775807 then
     .next (IntKind.i64.wrap (s1.1+1),s1.2++[(x0.getD s1.1.toNat default)])
     else .out none
    else .out none
   else .out none
  else .out (some (x2,x3,x1,s1.2))
def r24 (x2 x3:Int) (x1:au) (x0:aj):Option (Int×Int×au×aj):=
 if (0+x1.length)*16<=140737488355328/\0+x1.length<=9223372036854775807 then
  aS (IB x2 x3 x1 x0) 1000000000 (0,[])
  else none
@[go_sem] def T24:=XT ai6 true r24
theorem f24:aF Tryz.prog 24 T24.sp:=by
 refine vm .nil Tryz.func24 Tryz.ntmps24 fun ⟨x2,x3,x1,x0⟩ r hr stop S=> ?_
 rw [uq4,r24] at hr
 refine S.gx [] ?_
 obtain ⟨hg4,hr⟩:=aN hr
 refine gr ?_
 refine S.rV 3 3 2000303 1 rfl rfl (nL rfl) rfl ?_
 refine S.sees [1,2,3,4] [(1,1),(2,2),(3,3)] [(2000303,2000303),(9,9)] ?_ (Stop.iter S (fun s1=>⟨[(1,.c (.ref 1 0)),(2,.c (.ref 2 0)),(3,.c (.ref 3 0)),(4,.c (.d (.int .i64 s1.1)))],[(1,[.d (.int .i64 x2),.d (.int .i64 x3),.d (ah 2 aT x1),.d (ah 1 aQ x0)]),(2,[.d (.int .i64 0),.d (.int .i64 0),.dD,.dD]),(3,[.d (.int .i64 x2),.d (.int .i64 x3),.own 9,.own 2000303])],[(2000303,.owned (ah 1 aQ s1.2)),(9,.owned (ah 2 aT x1))]⟩) (IB x2 x3 x1 x0) (fun q=>q=r) hr rfl ?_)
 ·exact lf
 ·intro s1 hr
  unfold IB at hr
  refine S.gx [] ?_
  exact D1 (S.ss [1,2,3,4] [(1,1),(2,2),(3,3)] [(29,2000303),(9,9)]) hr
def r25 (a0:bn):Option (bn):=
 if (0+a0.length)*8<=140737488355328/\0+a0.length<=9223372036854775807 then
  some a0
  else none
@[go_sem] def T25:=qT3 ae3 false r25
theorem f25:aF Tryz.prog 25 T25.sp:=by
 refine vm .nil Tryz.func25 Tryz.ntmps25 fun a0 r hr stop S=> ?_
 rw [oC,r25] at hr
 refine S.gx [] ?_
 exact D0 hr
def r50 (x0 x1:bn):Option (bn×bn):=
 (r25 x0).bind fun v1=>
  (r25 x1).bind fun v2=>
   some (v1,v2)
@[go_sem] def T50:=ajh aiX false r50
@[go_sem] def alm (k:Nat):=lk [(25,T25.sp)] k
theorem f50:aF Tryz.prog 50 T50.sp:=by
 refine vm (tb:=alm) (.cons f25 .nil) Tryz.func50 Tryz.ntmps50 fun ⟨x0,x1⟩ r hr stop S=> ?_
 rw [yI,r50] at hr
 refine S.gx [] ?_
 exact D0 hr
def r51 (a0:au):Option (au):=
 if (0+a0.length)*16<=140737488355328/\0+a0.length<=9223372036854775807 then
  some a0
  else none
@[go_sem] def T51:=qT5 qu5 false r51
theorem f51:aF Tryz.prog 51 T51.sp:=by
 refine vm .nil Tryz.func51 Tryz.ntmps51 fun a0 r hr stop S=> ?_
 rw [oC,r51] at hr
 refine S.gx [] ?_
 exact D0 hr
def r16 (x0 x1:Int) (x2:au) (x3:aj) (x4 x5:bn) (x6:au) (x7 x8:Int):Option (Int×Int×au×aj×bn×bn×au×Int×Int):=
 (r24 x0 x1 x2 x3).bind fun v1=>
  (r50 x4 x5).bind fun v2=>
   (r51 x6).bind fun v3=>
    some (v1.1,v1.2.1,v1.2.2.1,v1.2.2.2,v2.1,v2.2,v3,x7,x8)
@[go_sem] def T16:=L8 qu0 true r16
@[go_sem] def alx (k:Nat):=lk [(24,T24.sp),(50,T50.sp),(51,T51.sp)] k
theorem f16:aF Tryz.prog 16 T16.sp:=by
 refine vm (tb:=alx) (.cons f24 (.cons f50 (.cons f51 .nil))) Tryz.func16 Tryz.ntmps16 fun ⟨x0,x1,x2,x3,x4,x5,x6,x7,x8⟩ r hr stop S=> ?_
 rw [OV,r16] at hr
 refine S.gx [] ?_
 exact D0 hr
section
variable {β:Type} [Inhabited β] (u:β->List RV) (al:Bool)
def aie (a0:au) (a1 a2:Int):List Arg:=[.c (ah 2 aT a0),.c (.int .i64 a1),.c (.int .i64 a2)]
def aja:List Arg->au×Int×Int
 | [.c c0,.c c1,.c c2]=>(aG bY c0,aC c1,aC c2)
 | _=>default
def ajg (r:au->Int->Int->Option β):=mkT (u3 aie) aja (u3 r) u al
attribute [go_sem] aie aja ajg
def aic (a0 a1:Int) (a2:au) (a3:aj) (a4 a5:bn) (a6:au) (a7 a8 a9:Int):List Arg:=[.agg [.int .i64 a0,.int .i64 a1,ah 2 aT a2,ah 1 aQ a3,ah 1 cu a4,ah 1 cu a5,ah 2 aT a6,.int .i64 a7,.int .i64 a8],.c (.int .i64 a9)]
def ai':List Arg->Int×Int×au×aj×bn×bn×au×Int×Int×Int
 | [.agg [c0,c1,c2,c3,c4,c5,c6,c7,c8],.c c9]=>(aC c0,aC c1,aG bY c2,aG bQ c3,aG jM c4,aG jM c5,aG bY c6,aC c7,aC c8,aC c9)
 | _=>default
def ajd (r:Int->Int->au->aj->bn->bn->au->Int->Int->Int->Option β):=mkT (u10 aic) ai' (u10 r) u al
attribute [go_sem] aic ai' ajd
end
def uF (a0:au):Bd Int Int:=fun s1=>
 if (decide (s1<(a0.length:Int)))=true then
  if 0<=s1/\s1<(a0.length:Int) then
   aP (r98 ((a0.getD s1.toNat default).1)) fun v1=>
    if (!(!v1))=true->0<=s1/\s1<(a0.length:Int) then
     if (!(!v1))=true->(r57 ((a0.getD s1.toNat default).2) 0 1000).isSome=true then
      if ((!v1) || (!((r57 ((a0.getD s1.toNat default).2) 0 1000).getD default)))=true then
       .out (some 2)
       else if (decide (s1>0))=true then
        if 0<=s1/\s1<(a0.length:Int) then
         if 0<=IntKind.i64.wrap (s1 - 1)/\IntKind.i64.wrap (s1 - 1)<(a0.length:Int) then
          if 0<=s1/\s1<(a0.length:Int) then
           if 0<=IntKind.i64.wrap (s1 - 1)/\IntKind.i64.wrap (s1 - 1)<(a0.length:Int) then
            if ((decide ((IntKind.i64.wrap (((a0.getD s1.toNat default).1) - ((a0.getD (IntKind.i64.wrap (s1 - 1)).toNat default).1)))<=0)) || (decide ((IntKind.i64.wrap (((a0.getD s1.toNat default).2) - ((a0.getD (IntKind.i64.wrap (s1 - 1)).toNat default).2)))<0)))=true then
             .out (some 9)
             else if (decide ((IntKind.i64.wrap (2*(IntKind.i64.wrap (((a0.getD s1.toNat default).2) - ((a0.getD (IntKind.i64.wrap (s1 - 1)).toNat default).2)))))>(IntKind.i64.wrap (((a0.getD s1.toNat default).1) - ((a0.getD (IntKind.i64.wrap (s1 - 1)).toNat default).1)))))=true then
              .out (some 22)
              else .next (IntKind.i64.wrap (s1+1))
            else .out none
           else .out none
          else .out none
         else .out none
        else .next (IntKind.i64.wrap (s1+1))
      else .out none
     else .out none
   else .out none
  else .out (some 0)
def aco (a0:au):Option (Int):=
 if (decide ((a0.length:Int)>6))=true then
  some 8
  else aS (uF a0) 1000000000 0
@[go_sem] def akW:=qT5 lC false aco
@[go_sem] def afR (k:Nat):=lk [(57,T57.sp),(98,T98.sp)] k
theorem f148:aF Tryz.prog 148 akW.sp:=by
 refine vm (tb:=afR) (.cons f57 (.cons f98 .nil)) Tryz.func148 Tryz.ntmps148 fun a0 r hr stop S=> ?_
 rw [oC,aco] at hr
 refine S.gx [10] ?_
 refine gr ?_
 refine iW hr (fun hc hr=>D0 hr) fun hc hr=> ?_
 refine gr ?_
 refine S.sees [0,3] [] [] ?_ (Stop.iter S (fun s1=>⟨[(0,.c (.d (ah 2 aT a0))),(3,.c (.d (.int .i64 s1)))],[],[]⟩) (uF a0) (fun q=>q=r) hr rfl ?_)
 ·exact lf
 ·intro s1 hr
  unfold uF at hr
  refine S.gx [10] ?_
  refine gr ?_
  refine cZ hr (fun hc hr=> ?_) fun hc hr=>D0 hr
  obtain ⟨Zg,hr⟩:=aB hr
  obtain ⟨v1,hv1,hr⟩:=aI hr
  obtain ⟨Wx,hr⟩:=aB hr
  obtain ⟨Wv,hr⟩:=aB hr
  try simp only [hv1,oG,oI,true_and,and_assoc]
  repeat (first | refine gG Wx ?_ | refine gG Wv ?_ | refine gA ?_ | refine gB ?_)
  refine cZ hr (fun hc hr=>D0 hr) fun hc hr=> ?_
  refine gr ?_
  refine cZ hr (fun hc hr=> ?_) fun hc hr=>D1 (S.ss [0,3] [] []) hr
  obtain ⟨hg2,hr⟩:=aB hr
  obtain ⟨hg3,hr⟩:=aB hr
  obtain ⟨hg4,hr⟩:=aB hr
  obtain ⟨hg5,hr⟩:=aB hr
  refine gr ?_
  refine S.prune [0,3,4,5] ?_
  refine S.gx [] ?_
  repeat (first | refine gA ?_ | refine gB ?_)
  exact D1 (S.ss [0,3] [] []) hr
def tY (a0:au) (a1 a2:Int):Bd Int (Int×Int):=fun s1=>
 if (decide (s1<(a0.length:Int)))=true then
  if 0<=s1/\s1<(a0.length:Int) then
   if (decide (a1<=(IntKind.i64.wrap (((a0.getD s1.toNat default).1)*a2))))=true then
    if (s1 == 0)=true then
     if 0<=0/\0<(a0.length:Int) then
      .out (some ((a0.getD 0 default).2,1))
      else .out none
     else if 0<=IntKind.i64.wrap (s1 - 1)/\IntKind.i64.wrap (s1 - 1)<(a0.length:Int) then
      if 0<=s1/\s1<(a0.length:Int) then
       .out (some (IntKind.i64.wrap ((IntKind.i64.wrap (((a0.getD (IntKind.i64.wrap (s1 - 1)).toNat default).2)*(IntKind.i64.wrap ((IntKind.i64.wrap (((a0.getD s1.toNat default).1) - ((a0.getD (IntKind.i64.wrap (s1 - 1)).toNat default).1)))*a2))))+(IntKind.i64.wrap ((IntKind.i64.wrap (((a0.getD s1.toNat default).2) - ((a0.getD (IntKind.i64.wrap (s1 - 1)).toNat default).2)))*(IntKind.i64.wrap (a1 - (IntKind.i64.wrap (((a0.getD (IntKind.i64.wrap (s1 - 1)).toNat default).1)*a2))))))),IntKind.i64.wrap ((IntKind.i64.wrap (((a0.getD s1.toNat default).1) - ((a0.getD (IntKind.i64.wrap (s1 - 1)).toNat default).1)))*a2)))
       else .out none
      else .out none
    else .next (IntKind.i64.wrap (s1+1))
   else .out none
  else .out (if 0<=IntKind.i64.wrap ((a0.length:Int) - 1)/\IntKind.i64.wrap ((a0.length:Int) - 1)<(a0.length:Int) then
   some ((a0.getD (IntKind.i64.wrap ((a0.length:Int) - 1)).toNat default).2,1)
   else none)
def AQ (a0:au) (a1 a2:Int):Option (Int×Int):=
 if ((a0.length:Int) == 0)=true then
  some (0,1)
  else aS (tY a0 a1 a2) 1000000000 0
@[go_sem] def akR:=ajg Gq false AQ
theorem f152:aF Tryz.prog 152 akR.sp:=by
 refine vm .nil Tryz.func152 Tryz.ntmps152 fun ⟨a0,a1,a2⟩ r hr stop S=> ?_
 rw [Zd,AQ] at hr
 refine S.gx [11] ?_
 refine gr ?_
 refine iW hr (fun hc hr=>D0 hr) fun hc hr=> ?_
 refine gr ?_
 refine S.sees [0,1,2,8] [] [] ?_ (Stop.iter S (fun s1=>⟨[(0,.c (.d (ah 2 aT a0))),(1,.c (.d (.int .i64 a1))),(2,.c (.d (.int .i64 a2))),(8,.c (.d (.int .i64 s1)))],[],[]⟩) (tY a0 a1 a2) (fun q=>q=r) hr rfl ?_)
 ·exact lf
 ·intro s1 hr
  unfold tY at hr
  refine S.gx [11] ?_
  refine gr ?_
  refine cZ hr (fun hc hr=> ?_) fun hc hr=>D0 hr
  obtain ⟨hg4,hr⟩:=aB hr
  refine gr ?_
  refine cZ hr (fun hc hr=> ?_) fun hc hr=>D1 (S.ss [0,1,2,8] [] []) hr
  refine gr ?_
  refine cZ hr (fun hc hr=>D0 hr) fun hc hr=> ?_
  obtain ⟨hg2,hr⟩:=aB hr
  obtain ⟨hg3,hr⟩:=aB hr
  refine gr ?_
  refine S.prune [1,2,9,10,11] ?_
  refine S.gx [] ?_
  exact D0 hr
def uq (a0 a1:au):Bd Int Bool:=fun s1=>
 if (decide (s1<((a0++a1).length:Int)))=true then
  if 0<=s1/\s1<((a0++a1).length:Int) then
   aP (AQ a0 (((a0++a1).getD s1.toNat default).1) 1) fun v1=>
    if 0<=s1/\s1<((a0++a1).length:Int) then
     aP (AQ a1 (((a0++a1).getD s1.toNat default).1) 1) fun v2=>
      if (decide ((IntKind.i64.wrap (v1.1*v2.2))<(IntKind.i64.wrap (v2.1*v1.2))))=true then
       .out (some true)
       else .next (IntKind.i64.wrap (s1+1))
     else .out none
   else .out none
  else .out (some false)
def aat (a0 a1:au):Option (Bool):=
 if (0+a0.length)*16<=140737488355328/\0+a0.length<=9223372036854775807 then
  if (a0.length+a1.length)*16<=140737488355328/\a0.length+a1.length<=9223372036854775807 then
   aS (uq a0 a1) 1000000000 0
   else none
  else none
@[go_sem] def akU:=aar oQ false aat
@[go_sem] def afQ (k:Nat):=lk [(152,akR.sp)] k
theorem f149:aF Tryz.prog 149 akU.sp:=by
 refine vm (tb:=afQ) (.cons f152 .nil) Tryz.func149 Tryz.ntmps149 fun ⟨a0,a1⟩ r hr stop S=> ?_
 rw [yI,aat] at hr
 refine S.gx [4,8] ?_
 obtain ⟨hg5,hr⟩:=aN hr
 obtain ⟨Zg,hr⟩:=aN hr
 refine gr ?_
 refine S.sees [0,1,5,6] [] [(15,15)] ?_ (Stop.iter S (fun s1=>⟨[(0,.c (.d (ah 2 aT a0))),(1,.c (.d (ah 2 aT a1))),(5,.c (.own 15)),(6,.c (.d (.int .i64 s1)))],[],[(15,.owned (ah 2 aT (a0++a1)))]⟩) (uq a0 a1) (fun q=>q=r) hr rfl ?_)
 ·exact lf
 ·intro s1 hr
  unfold uq at hr
  refine S.gx [4,8] ?_
  refine gr ?_
  refine cZ hr (fun hc hr=> ?_) fun hc hr=>D0 hr
  obtain ⟨hg3,hr⟩:=aB hr
  obtain ⟨v1,hv1,hr⟩:=aI hr
  obtain ⟨hg4,hr⟩:=aB hr
  obtain ⟨v2,hv2,hr⟩:=aI hr
  refine gb hv1 ?_
  refine gb hv2 ?_
  refine cZ hr (fun hc hr=> ?_) fun hc hr=> ?_
  ·refine gr ?_
   refine S.prune [] ?_
   refine S.gx [4] ?_
   exact D0 hr
  ·refine gr ?_
   refine S.prune [0,1,5,6] ?_
   refine S.gx [8] ?_
   exact D1 (S.ss [0,1,5,6] [] [(15,15)]) hr
def ql (x1:aj):Bd Int (Int×Int):=fun s2=>
 if (decide (s2<(x1.length:Int)))=true then
  if 0<=s2/\s2<(x1.length:Int) then
   aP (aco (x1.getD s2.toNat default)) fun v10=>
    if (v10 != 0)=true then
     .out (some (s2,v10))
     else if (decide (s2>0))=true->0<=s2/\s2<(x1.length:Int) then
      if (decide (s2>0))=true->0<=IntKind.i64.wrap (s2 - 1)/\IntKind.i64.wrap (s2 - 1)<(x1.length:Int) then
       if (decide (s2>0))=true->(aat (x1.getD s2.toNat default) (x1.getD (IntKind.i64.wrap (s2 - 1)).toNat default)).isSome=true then
        if ((decide (s2>0)) && ((aat (x1.getD s2.toNat default) (x1.getD (IntKind.i64.wrap (s2 - 1)).toNat default)).getD default))=true then
         .out (some (s2,13))
         else .next (IntKind.i64.wrap (s2+1))
        else .out none
       else .out none
      else .out none
   else .out none
  else .out (some (0,0))
def uK (x0:au) (x1:aj):Bd Int (Int×Int):=fun s1=>
 if (decide (s1<(x0.length:Int)))=true then
  if 0<=s1/\s1<(x0.length:Int) then
   aP (r57 ((x0.getD s1.toNat default).1) 0 1000000) fun v2=>
    if (!(!v2))=true->0<=s1/\s1<(x0.length:Int) then
     if (!(!v2))=true->(r98 ((x0.getD s1.toNat default).2)).isSome=true then
      if ((!v2) || (!((r98 ((x0.getD s1.toNat default).2)).getD default)))=true then
       .out (some (s1,2))
       else if (decide (s1>0))=true then
        if 0<=s1/\s1<(x0.length:Int) then
         if 0<=IntKind.i64.wrap (s1 - 1)/\IntKind.i64.wrap (s1 - 1)<(x0.length:Int) then
          if 0<=s1/\s1<(x0.length:Int) then
           if 0<=IntKind.i64.wrap (s1 - 1)/\IntKind.i64.wrap (s1 - 1)<(x0.length:Int) then
            if ((decide ((IntKind.i64.wrap (((x0.getD s1.toNat default).1) - ((x0.getD (IntKind.i64.wrap (s1 - 1)).toNat default).1)))<=0)) || (decide ((IntKind.i64.wrap (((x0.getD s1.toNat default).2) - ((x0.getD (IntKind.i64.wrap (s1 - 1)).toNat default).2)))<=0)))=true then
             .out (some (s1,9))
             else if (decide ((IntKind.i64.wrap (((x0.getD s1.toNat default).2) - ((x0.getD (IntKind.i64.wrap (s1 - 1)).toNat default).2)))>(IntKind.i64.wrap (((x0.getD s1.toNat default).1) - ((x0.getD (IntKind.i64.wrap (s1 - 1)).toNat default).1)))))=true then
              .out (some (s1,22))
              else .next (IntKind.i64.wrap (s1+1))
            else .out none
           else .out none
          else .out none
         else .out none
        else .next (IntKind.i64.wrap (s1+1))
      else .out none
     else .out none
   else .out none
  else .out (if (decide ((x1.length:Int)>4))=true then
   some (0,8)
   else aS (ql x1) 1000000000 0)
def ac9 (x3 x2:Int) (x0:au) (x1:aj):Option (Int×Int):=
 (r57 x3 1 12).bind fun v1=>
  if (!(!v1))=true->(r57 x2 0 500).isSome=true then
   if ((!v1) || (!((r57 x2 0 500).getD default)))=true then
    some (0,2)
    else if (decide ((x0.length:Int)<2))=true then
     some (0,10)
     else if (decide ((x0.length:Int)>8))=true then
      some (0,8)
      else aS (uK x0 x1) 1000000000 0
   else none
@[go_sem] def alb:=XT Gq false ac9
@[go_sem] def agf (k:Nat):=lk [(57,T57.sp),(98,T98.sp),(148,akW.sp),(149,akU.sp)] k
theorem f103:aF Tryz.prog 103 alb.sp:=by
 refine vm (tb:=agf) (.cons f57 (.cons f98 (.cons f148 (.cons f149 .nil)))) Tryz.func103 Tryz.ntmps103 fun ⟨x3,x2,x0,x1⟩ r hr stop S=> ?_
 rw [uq4,ac9] at hr
 refine S.gx [14,22,27] ?_
 obtain ⟨v1,hv1,hr⟩:=aA hr
 obtain ⟨abo,hr⟩:=aN hr
 try simp only [hv1,oG,oI,true_and,and_assoc]
 repeat (first | refine gG abo ?_ | refine gA ?_ | refine gB ?_)
 refine iW hr (fun hc hr=>D0 hr) fun hc hr=> ?_
 refine gr ?_
 refine iW hr (fun hc hr=>D0 hr) fun hc hr=> ?_
 refine gr ?_
 refine iW hr (fun hc hr=>D0 hr) fun hc hr=> ?_
 refine gr ?_
 refine S.sees [1,4] [(1,1)] [] ?_ (Stop.iter S (fun s1=>⟨[(1,.c (.ref 1 0)),(4,.c (.d (.int .i64 s1)))],[(1,[.d (.int .i64 x3),.d (.int .i64 x2),.d (ah 2 aT x0),.d (ah 1 aQ x1)])],[]⟩) (uK x0 x1) (fun q=>q=r) hr rfl ?_)
 ·exact lf
 ·intro s1 hr
  unfold uK at hr
  refine S.gx [14,22,27] ?_
  refine gr ?_
  refine cZ hr (fun hc hr=> ?_) fun hc hr=> ?_
  ·obtain ⟨Wx,hr⟩:=aB hr
   obtain ⟨v2,hv2,hr⟩:=aI hr
   obtain ⟨Wv,hr⟩:=aB hr
   obtain ⟨Nk,hr⟩:=aB hr
   try simp only [hv2,oG,oI,true_and,and_assoc]
   repeat (first | refine gG Wv ?_ | refine gG Nk ?_ | refine gA ?_ | refine gB ?_)
   refine cZ hr (fun hc hr=>D0 hr) fun hc hr=> ?_
   refine gr ?_
   refine cZ hr (fun hc hr=> ?_) fun hc hr=>D1 (S.ss [1,4] [(1,1)] []) hr
   obtain ⟨hg3,hr⟩:=aB hr
   obtain ⟨hg4,hr⟩:=aB hr
   obtain ⟨hg5,hr⟩:=aB hr
   obtain ⟨Zg,hr⟩:=aB hr
   refine gr ?_
   refine S.prune [1,4,5,6] ?_
   refine S.gx [22,27] ?_
   repeat (first | refine gA ?_ | refine gB ?_)
   exact D1 (S.ss [1,4] [(1,1)] []) hr
  ·refine gr ?_
   have hr:=bK hr
   refine gr ?_
   refine iW hr (fun hc hr=>D0 hr) fun hc hr=> ?_
   refine gr ?_
   refine S.sees [1,7] [(1,1)] [] ?_ (Stop.iter S (fun s2=>⟨[(1,.c (.ref 1 0)),(7,.c (.d (.int .i64 s2)))],[(1,[.d (.int .i64 x3),.d (.int .i64 x2),.d (ah 2 aT x0),.d (ah 1 aQ x1)])],[]⟩) (ql x1) (fun q=>q=r) hr rfl ?_)
   ·exact lf
   ·intro s2 hr
    unfold ql at hr
    refine S.gx [14,22,27] ?_
    refine gr ?_
    refine cZ hr (fun hc hr=> ?_) fun hc hr=>D0 hr
    obtain ⟨X9,hr⟩:=aB hr
    obtain ⟨v10,yZ,hr⟩:=aI hr
    refine gb yZ ?_
    refine cZ hr (fun hc hr=>D0 hr) fun hc hr=> ?_
    obtain ⟨y7,hr⟩:=aB hr
    obtain ⟨y5,hr⟩:=aB hr
    obtain ⟨JH,hr⟩:=aB hr
    repeat (first | refine gG y7 ?_ | refine gG y5 ?_ | refine gG JH ?_ | refine gA ?_ | refine gB ?_)
    refine cZ hr (fun hc hr=> ?_) fun hc hr=> ?_
    ·refine gr ?_
     refine S.prune [7] ?_
     refine S.gx [14,22] ?_
     exact D0 hr
    ·refine gr ?_
     refine S.prune [1,7] ?_
     refine S.gx [14,27] ?_
     exact D1 (S.ss [1,7] [(1,1)] []) hr
def r74 (x0 x1:Int) (x2:au) (x3:aj):Option (Int):=
 (ac9 x0 x1 x2 x3).bind fun v1=>
  some v1.2
@[go_sem] def T74:=XT lC false r74
@[go_sem] def alh (k:Nat):=lk [(103,alb.sp)] k
theorem f74:aF Tryz.prog 74 T74.sp:=by
 refine vm (tb:=alh) (.cons f103 .nil) Tryz.func74 Tryz.ntmps74 fun ⟨x0,x1,x2,x3⟩ r hr stop S=> ?_
 rw [uq4,r74] at hr
 refine S.gx [] ?_
 exact D0 hr
def acO (x1 x2:Int) (x0:au) (x3:aj) (a1:Int):Option (Bool):=
 if 0<=0/\0<(x0.length:Int) then
  if 0<=IntKind.i64.wrap ((x0.length:Int) - 1)/\IntKind.i64.wrap ((x0.length:Int) - 1)<(x0.length:Int) then
   (r57 a1 ((x0.getD 0 default).1) ((x0.getD (IntKind.i64.wrap ((x0.length:Int) - 1)).toNat default).1)).bind fun v1=>
    some v1
   else none
  else none
@[go_sem] def ak6:=afb oQ false acO
@[go_sem] def agc (k:Nat):=lk [(57,T57.sp)] k
theorem f107:aF Tryz.prog 107 ak6.sp:=by
 refine vm (tb:=agc) (.cons f57 .nil) Tryz.func107 Tryz.ntmps107 fun ⟨x1,x2,x0,x3,a1⟩ r hr stop S=> ?_
 rw [uq5,acO] at hr
 refine S.gx [] ?_
 exact D0 hr
def tZ (x0 x1:Int) (x2:au) (x3:aj) (a1:bn):Bd Int (Int×Int):=fun s1=>
 if (decide (s1<(a1.length:Int)))=true then
  if 0<=s1/\s1<(a1.length:Int) then
   aP (acO x0 x1 x2 x3 (a1.getD s1.toNat default)) fun v1=>
    if (!v1)=true then
     .out (some (s1,2))
     else .next (IntKind.i64.wrap (s1+1))
   else .out none
  else .out (some (0,0))
def aas (x0 x1:Int) (x2:au) (x3:aj) (a1:bn):Option (Int×Int):=
 if ((a1.length:Int) != x0)=true then
  some (0,10)
  else aS (tZ x0 x1 x2 x3 a1) 1000000000 0
@[go_sem] def akT:=ae' Gq false aas
@[go_sem] def afK (k:Nat):=lk [(107,ak6.sp)] k
theorem f150:aF Tryz.prog 150 akT.sp:=by
 refine vm (tb:=afK) (.cons f107 .nil) Tryz.func150 Tryz.ntmps150 fun ⟨x0,x1,x2,x3,a1⟩ r hr stop S=> ?_
 rw [uq5,aas] at hr
 refine S.gx [] ?_
 refine gr ?_
 refine iW hr (fun hc hr=>D0 hr) fun hc hr=> ?_
 refine gr ?_
 refine S.sees [1,2,6] [(2,2)] [] ?_ (Stop.iter S (fun s1=>⟨[(1,.c (.d (ah 1 cu a1))),(2,.c (.ref 2 0)),(6,.c (.d (.int .i64 s1)))],[(2,[.d (.int .i64 x0),.d (.int .i64 x1),.d (ah 2 aT x2),.d (ah 1 aQ x3)])],[]⟩) (tZ x0 x1 x2 x3 a1) (fun q=>q=r) hr rfl ?_)
 ·exact lf
 ·intro s1 hr
  unfold tZ at hr
  refine S.gx [] ?_
  exact D1 (S.ss [1,2,6] [(2,2)] []) hr
def Ar (x0:Int) (x1 x2:bn):Bd Int (Int×Int):=fun s1=>
 if (decide (s1<x0))=true then
  if 0<=s1/\s1<(x1.length:Int) then
   if 0<=s1/\s1<(x2.length:Int) then
    if (decide ((x1.getD s1.toNat default)>(x2.getD s1.toNat default)))=true then
     .out (some (s1,9))
     else .next (IntKind.i64.wrap (s1+1))
    else .out none
   else .out none
  else .out (some (0,0))
def acR (x0 x3:Int) (x4:au) (x5:aj) (x1 x2:bn):Option (Int×Int):=
 (aas x0 x3 x4 x5 x1).bind fun v1=>
  if (v1.2 != 0)=true then
   some (v1.1,v1.2)
   else (aas x0 x3 x4 x5 x2).bind fun v2=>
    if (v2.2 != 0)=true then
     some (v2.1,v2.2)
     else aS (Ar x0 x1 x2) 1000000000 0
@[go_sem] def ala:=aaq Gq false acR
@[go_sem] def agd (k:Nat):=lk [(150,akT.sp)] k
theorem f104:aF Tryz.prog 104 ala.sp:=by
 refine vm (tb:=agd) (.cons f150 .nil) Tryz.func104 Tryz.ntmps104 fun ⟨x0,x3,x4,x5,x1,x2⟩ r hr stop S=> ?_
 rw [OW,acR] at hr
 refine S.gx [] ?_
 obtain ⟨v1,hv1,hr⟩:=aA hr
 refine gb hv1 ?_
 refine iW hr (fun hc hr=>D0 hr) fun hc hr=> ?_
 obtain ⟨v2,hv2,hr⟩:=aA hr
 refine gb hv2 ?_
 refine iW hr (fun hc hr=>D0 hr) fun hc hr=> ?_
 refine gr ?_
 refine S.sees [2,3,10] [(2,2),(3,3)] [] ?_ (Stop.iter S (fun s1=>⟨[(2,.c (.ref 2 0)),(3,.c (.ref 3 0)),(10,.c (.d (.int .i64 s1)))],[(2,[.d (.int .i64 x0),.d (.int .i64 x3),.d (ah 2 aT x4),.d (ah 1 aQ x5)]),(3,[.d (ah 1 cu x1),.d (ah 1 cu x2)])],[]⟩) (Ar x0 x1 x2) (fun q=>q=r) hr rfl ?_)
 ·exact lf
 ·intro s1 hr
  unfold Ar at hr
  refine S.gx [] ?_
  exact D1 (S.ss [2,3,10] [(2,2),(3,3)] []) hr
def r75 (x0 x1:Int) (x2:au) (x3:aj) (x4 x5:bn):Option (Int):=
 (r74 x0 x1 x2 x3).bind fun v1=>
  if (v1 != 0)=true then
   some v1
   else (acR x0 x1 x2 x3 x4 x5).bind fun v2=>
    some v2.2
@[go_sem] def T75:=aaq lC false r75
@[go_sem] def alg (k:Nat):=lk [(74,T74.sp),(104,ala.sp)] k
theorem f75:aF Tryz.prog 75 T75.sp:=by
 refine vm (tb:=alg) (.cons f74 (.cons f104 .nil)) Tryz.func75 Tryz.ntmps75 fun ⟨x0,x1,x2,x3,x4,x5⟩ r hr stop S=> ?_
 rw [OW,r75] at hr
 refine S.gx [] ?_
 exact D0 hr
def r53 (x1 x2:Int) (x3:au) (x0:aj) (x4 x5:bn) (x6:au) (x7 x8 a1:Int):Option (Bool):=
 (r57 a1 0 (IntKind.i64.wrap ((x0.length:Int) - 1))).bind fun v1=>
  some v1
@[go_sem] def T53:=ajd oQ false r53
@[go_sem] def alj (k:Nat):=lk [(57,T57.sp)] k
theorem f53:aF Tryz.prog 53 T53.sp:=by
 refine vm (tb:=alj) (.cons f57 .nil) Tryz.func53 Tryz.ntmps53 fun ⟨x1,x2,x3,x0,x4,x5,x6,x7,x8,a1⟩ r hr stop S=> ?_
 rw [KY,r53] at hr
 refine S.gx [] ?_
 exact D0 hr
def Io (x1 x2:Int) (x3:au) (x4:aj) (x5 x6:bn) (x0:au) (x7 x8:Int):Bd Int (Int×Int):=fun s1=>
 if (decide (s1<(x0.length:Int)))=true then
  if 0<=s1/\s1<(x0.length:Int) then
   aP (r57 ((x0.getD s1.toNat default).1) 0 1000) fun v3=>
    if (!(!v3))=true->(r57 ((x0.getD s1.toNat default).2) 0 1000).isSome=true then
     if ((!v3) || (!((r57 ((x0.getD s1.toNat default).2) 0 1000).getD default)))=true then
      .out (some (s1,2))
      else if (decide (((x0.getD s1.toNat default).1)>((x0.getD s1.toNat default).2)))=true then
       .out (some (s1,9))
       else .next (IntKind.i64.wrap (s1+1))
     else .out none
   else .out none
  else .out ((r53 x1 x2 x3 x4 x5 x6 x0 x7 x8 x7).bind fun v6=>
   if (!v6)=true then
    some (0,6)
    else (r57 x8 0 4).bind fun v7=>
     if (!v7)=true then
      some (0,2)
      else some (0,0))
def r52 (x1 x2:Int) (x3:au) (x4:aj) (x5 x6:bn) (x0:au) (x7 x8:Int):Option (Int×Int):=
 (r74 x1 x2 x3 x4).bind fun v1=>
  if (v1 != 0)=true then
   some (0,v1)
   else (r75 x1 x2 x3 x4 x5 x6).bind fun v2=>
    if (v2 != 0)=true then
     some (0,v2)
     else if ((x0.length:Int) != x1)=true then
      some (0,10)
      else aS (Io x1 x2 x3 x4 x5 x6 x0 x7 x8) 1000000000 0
@[go_sem] def T52:=L8 Gq false r52
@[go_sem] def alk (k:Nat):=lk [(53,T53.sp),(57,T57.sp),(74,T74.sp),(75,T75.sp)] k
theorem f52:aF Tryz.prog 52 T52.sp:=by
 refine vm (tb:=alk) (.cons f53 (.cons f57 (.cons f74 (.cons f75 .nil)))) Tryz.func52 Tryz.ntmps52 fun ⟨x1,x2,x3,x4,x5,x6,x0,x7,x8⟩ r hr stop S=> ?_
 rw [OV,r52] at hr
 refine S.gx [] ?_
 obtain ⟨v1,hv1,hr⟩:=aA hr
 refine gb hv1 ?_
 refine iW hr (fun hc hr=>D0 hr) fun hc hr=> ?_
 obtain ⟨v2,hv2,hr⟩:=aA hr
 refine gb hv2 ?_
 refine iW hr (fun hc hr=>D0 hr) fun hc hr=> ?_
 refine gr ?_
 refine iW hr (fun hc hr=>D0 hr) fun hc hr=> ?_
 refine gr ?_
 refine S.sees [1,6] [(1,1)] [] ?_ (Stop.iter S (fun s1=>⟨[(1,.c (.ref 1 0)),(6,.c (.d (.int .i64 s1)))],[(1,[.d (.int .i64 x1),.d (.int .i64 x2),.d (ah 2 aT x3),.d (ah 1 aQ x4),.d (ah 1 cu x5),.d (ah 1 cu x6),.d (ah 2 aT x0),.d (.int .i64 x7),.d (.int .i64 x8)])],[]⟩) (Io x1 x2 x3 x4 x5 x6 x0 x7 x8) (fun q=>q=r) hr rfl ?_)
 ·exact lf
 ·intro s1 hr
  unfold Io at hr
  refine S.gx [] ?_
  refine gr ?_
  refine cZ hr (fun hc hr=> ?_) fun hc hr=>D0 hr
  obtain ⟨hg4,hr⟩:=aB hr
  obtain ⟨v3,hv3,hr⟩:=aI hr
  obtain ⟨hg5,hr⟩:=aB hr
  try simp only [hv3,oG,oI,true_and,and_assoc]
  repeat (first | refine gG hg5 ?_ | refine gA ?_ | refine gB ?_)
  exact D1 (S.ss [1,6] [(1,1)] []) hr
def r17 (x0 x1:Int) (x2:au) (x3:aj) (x4 x5:bn) (x6:au) (x7 x8:Int):Option (Int):=
 (r52 x0 x1 x2 x3 x4 x5 x6 x7 x8).bind fun v1=>
  some v1.2
@[go_sem] def T17:=L8 lC false r17
@[go_sem] def alv (k:Nat):=lk [(52,T52.sp)] k
theorem f17:aF Tryz.prog 17 T17.sp:=by
 refine vm (tb:=alv) (.cons f52 .nil) Tryz.func17 Tryz.ntmps17 fun ⟨x0,x1,x2,x3,x4,x5,x6,x7,x8⟩ r hr stop S=> ?_
 rw [OV,r17] at hr
 refine S.gx [] ?_
 exact D0 hr
def r18 (a0:aK):Option (Int):=
 (r11 a0).bind fun v1=>
  some v1.2
@[go_sem] def T18:=Dc lC false r18
@[go_sem] def alu (k:Nat):=lk [(11,T11.sp)] k
theorem f18:aF Tryz.prog 18 T18.sp:=by
 refine vm (tb:=alu) (.cons f11 .nil) Tryz.func18 Tryz.ntmps18 fun a0 r hr stop S=> ?_
 rw [oC,r18] at hr
 refine S.gx [] ?_
 exact D0 hr
def IX (a0 a1:au):Bd Int Bool:=fun s1=>
 if (decide (s1<(a0.length:Int)))=true then
  if 0<=s1/\s1<(a0.length:Int) then
   if 0<=s1/\s1<(a1.length:Int) then
    if (!(((a0.getD s1.toNat default).1 == (a1.getD s1.toNat default).1) && ((a0.getD s1.toNat default).2 == (a1.getD s1.toNat default).2)))=true then
     .out (some false)
     else .next (IntKind.i64.wrap (s1+1))
    else .out none
   else .out none
  else .out (some true)
def r20 (a0 a1:au):Option (Bool):=
 if ((a0.length:Int) != (a1.length:Int))=true then
  some false
  else aS (IX a0 a1) 1000000000 0
@[go_sem] def T20:=aar oQ false r20
theorem f20:aF Tryz.prog 20 T20.sp:=by
 refine vm .nil Tryz.func20 Tryz.ntmps20 fun ⟨a0,a1⟩ r hr stop S=> ?_
 rw [yI,r20] at hr
 refine S.gx [] ?_
 refine gr ?_
 refine iW hr (fun hc hr=>D0 hr) fun hc hr=> ?_
 refine gr ?_
 refine S.sees [0,1,5] [] [] ?_ (Stop.iter S (fun s1=>⟨[(0,.c (.d (ah 2 aT a0))),(1,.c (.d (ah 2 aT a1))),(5,.c (.d (.int .i64 s1)))],[],[]⟩) (IX a0 a1) (fun q=>q=r) hr rfl ?_)
 ·exact lf
 ·intro s1 hr
  unfold IX at hr
  refine S.gx [] ?_
  exact D1 (S.ss [0,1,5] [] []) hr
section
variable {β:Type} [Inhabited β] (u:β->List RV) (al:Bool)
end
def WS (x0:au) (a1:Int):Bd Int (Int×Int):=fun s1=>
 if 0<=s1/\s1<(x0.length:Int) then
  if (decide (((x0.getD s1.toNat default).1)<a1))=true then
   .next (IntKind.i64.wrap (s1+1))
   else .out (if 0<=IntKind.i64.wrap (s1 - 1)/\IntKind.i64.wrap (s1 - 1)<(x0.length:Int) then
    if 0<=s1/\s1<(x0.length:Int) then
     some (IntKind.i64.wrap ((IntKind.i64.wrap (((x0.getD (IntKind.i64.wrap (s1 - 1)).toNat default).2)*(IntKind.i64.wrap (((x0.getD s1.toNat default).1) - ((x0.getD (IntKind.i64.wrap (s1 - 1)).toNat default).1)))))+(IntKind.i64.wrap ((IntKind.i64.wrap (((x0.getD s1.toNat default).2) - ((x0.getD (IntKind.i64.wrap (s1 - 1)).toNat default).2)))*(IntKind.i64.wrap (a1 - ((x0.getD (IntKind.i64.wrap (s1 - 1)).toNat default).1)))))),IntKind.i64.wrap (((x0.getD s1.toNat default).1) - ((x0.getD (IntKind.i64.wrap (s1 - 1)).toNat default).1)))
     else none
    else none)
  else .out none
def r76 (x1 x2:Int) (x0:au) (x3:aj) (a1:Int):Option (Int×Int):=
 aS (WS x0 a1) 1000000000 1
def r22 (a0 a1:Int):Option (Int):=
 if a1≠0 then
  if a1≠0 then
   if (decide ((a0.tmod a1)<0))=true then
    some (IntKind.i64.wrap ((IntKind.i64.wrap (a0.tdiv a1)) - 1))
    else some (IntKind.i64.wrap (a0.tdiv a1))
   else none
  else none
@[go_sem] def T22:=qT7 lC false r22
theorem f22:aF Tryz.prog 22 T22.sp:=by
 refine vm .nil Tryz.func22 Tryz.ntmps22 fun ⟨a0,a1⟩ r hr stop S=> ?_
 rw [yI,r22] at hr
 refine S.gx [] ?_
 exact D0 hr
def IG (x0 x1:Int) (x2:au) (x3:aj) (x4 x5:bn) (x6:au) (x7 x8:Int) (a1:au):Bd Int Int:=fun s1=>
 if (decide (s1<(a1.length:Int)))=true then
  if 0<=s1/\s1<(a1.length:Int) then
   aP (r57 ((a1.getD s1.toNat default).1) 0 10000) fun v1=>
    if (!v1)=true then
     .out (some 2)
     else if 0<=s1/\s1<(a1.length:Int) then
      aP (r53 x0 x1 x2 x3 x4 x5 x6 x7 x8 ((a1.getD s1.toNat default).2)) fun v2=>
       if (!v2)=true then
        .out (some 6)
        else .next (IntKind.i64.wrap (s1+1))
      else .out none
   else .out none
  else .out (some 0)
def r21 (x0 x1:Int) (x2:au) (x3:aj) (x4 x5:bn) (x6:au) (x7 x8:Int) (a1:au):Option (Int):=
 if (decide ((a1.length:Int)>200))=true then
  some 8
  else aS (IG x0 x1 x2 x3 x4 x5 x6 x7 x8 a1) 1000000000 0
@[go_sem] def T21:=ae7 lC false r21
@[go_sem] def als (k:Nat):=lk [(53,T53.sp),(57,T57.sp)] k
theorem f21:aF Tryz.prog 21 T21.sp:=by
 refine vm (tb:=als) (.cons f53 (.cons f57 .nil)) Tryz.func21 Tryz.ntmps21 fun ⟨x0,x1,x2,x3,x4,x5,x6,x7,x8,a1⟩ r hr stop S=> ?_
 rw [KY,r21] at hr
 refine S.gx [] ?_
 refine gr ?_
 refine iW hr (fun hc hr=>D0 hr) fun hc hr=> ?_
 refine gr ?_
 refine S.sees [1,2,5] [(2,2)] [] ?_ (Stop.iter S (fun s1=>⟨[(1,.c (.d (ah 2 aT a1))),(2,.c (.ref 2 0)),(5,.c (.d (.int .i64 s1)))],[(2,[.d (.int .i64 x0),.d (.int .i64 x1),.d (ah 2 aT x2),.d (ah 1 aQ x3),.d (ah 1 cu x4),.d (ah 1 cu x5),.d (ah 2 aT x6),.d (.int .i64 x7),.d (.int .i64 x8)])],[]⟩) (IG x0 x1 x2 x3 x4 x5 x6 x7 x8 a1) (fun q=>q=r) hr rfl ?_)
 ·exact lf
 ·intro s1 hr
  unfold IG at hr
  refine S.gx [] ?_
  exact D1 (S.ss [1,2,5] [(2,2)] []) hr
section
variable {β:Type} [Inhabited β] (u:β->List RV) (al:Bool)
def ah' (a0 a1:Int) (a2:au) (a3:aj) (a4:au) (a5:aj) (a6:wW):List Arg:=[.agg [.int .i64 a0,.int .i64 a1,ah 2 aT a2,ah 1 aQ a3,ah 2 aT a4,ah 1 aQ a5],.c (ah 2 rC a6)]
def ai9:List Arg->Int×Int×au×aj×au×aj×wW
 | [.agg [c0,c1,c2,c3,c4,c5],.c c6]=>(aC c0,aC c1,aG bY c2,aG bQ c3,aG bY c4,aG bQ c5,aG DZ c6)
 | _=>default
def ajc (r:Int->Int->au->aj->au->aj->wW->Option β):=mkT (u7 ah') ai9 (u7 r) u al
attribute [go_sem] ah' ai9 ajc
def ah8 (a0 a1:Int) (a2:au) (a3:aj) (a4:bn) (a5:wW):List Arg:=[.agg [.int .i64 a0,.int .i64 a1,ah 2 aT a2,ah 1 aQ a3],.c (ah 1 cu a4),.c (ah 2 rC a5)]
def ai8:List Arg->Int×Int×au×aj×bn×wW
 | [.agg [c0,c1,c2,c3],.c c4,.c c5]=>(aC c0,aC c1,aG bY c2,aG bQ c3,aG jM c4,aG DZ c5)
 | _=>default
def ags (r:Int->Int->au->aj->bn->wW->Option β):=mkT (u6 ah8) ai8 (u6 r) u al
attribute [go_sem] ah8 ai8 ags
def aij (v:EX×Int×Int):List RV:=[.c (.own (ah 1 tV v.1)),.c (.d (.int .i64 v.2.1)),.c (.d (.int .i64 v.2.2))]
attribute [go_sem] aij
def aii (v:EX×Int):List RV:=[.c (.own (ah 1 tV v.1)),.c (.d (.int .i64 v.2))]
attribute [go_sem] aii
end
def Ik (x0 x1:Int) (x2:au) (x3:aj) (x4:au) (x5:aj) (a1:wW):Bd (Int×Int) Int:=fun s1=>
 if (decide (s1.2<(a1.length:Int)))=true then
  if 0<=s1.2/\s1.2<(a1.length:Int) then
   aP (aah x0 x1 x2 x3 x4 x5 ((a1.getD s1.2.toNat default).1) ((a1.getD s1.2.toNat default).2)) fun v2=>
    aP (AP [s1.1,v2]) fun v3=>
     .next (v3,IntKind.i64.wrap (s1.2+1))
   else .out none
  else .out (some s1.1)
def r80 (x0 x1:Int) (x2:au) (x3:aj) (x4:au) (x5:aj) (a1:wW):Option (Int):=
 (nN (decide ((a1.length:Int)<=200)) 8).bind fun v1=>
  aS (Ik x0 x1 x2 x3 x4 x5 a1) 1000000000 (v1,0)
@[go_sem] def T80:=ajc lC false r80
@[go_sem] def ale (k:Nat):=lk [(110,KE.sp),(111,Tv.sp),(112,aww.sp)] k
theorem f80:aF Tryz.prog 80 T80.sp:=by
 refine vm (tb:=ale) (.cons f110 (.cons f111 (.cons f112 .nil))) Tryz.func80 Tryz.ntmps80 fun ⟨x0,x1,x2,x3,x4,x5,a1⟩ r hr stop S=> ?_
 rw [KO,r80] at hr
 refine S.gx [] ?_
 obtain ⟨v1,hv1,hr⟩:=aA hr
 refine gb hv1 ?_
 refine S.sees [2,5,12,13,14] [(2,2)] [] ?_ (Stop.iter S (fun s1=>⟨[(2,.c (.ref 2 0)),(5,.c (.d (.int .i64 s1.1))),(12,.c (.d (ah 2 rC a1))),(13,.c (.d (.int .i64 (a1.length:Int)))),(14,.c (.d (.int .i64 s1.2)))],[(2,[.d (.int .i64 x0),.d (.int .i64 x1),.d (ah 2 aT x2),.d (ah 1 aQ x3),.d (ah 2 aT x4),.d (ah 1 aQ x5)])],[]⟩) (Ik x0 x1 x2 x3 x4 x5 a1) (fun q=>q=r) hr rfl ?_)
 ·exact lf
 ·intro s1 hr
  unfold Ik at hr
  refine S.gx [] ?_
  exact D1 (S.ss [2,5,12,13,14] [(2,2)] []) hr
def Il (a2:wW) (v1:Int×Int×au×aj×au×aj×Int):Bd ((List (bn))×Int×bn×Int) (EX×Int×Int):=fun s1=>
 if (decide (s1.2.2.2<(a2.length:Int)))=true then
  if 0<=s1.2.2.2/\s1.2.2.2<(a2.length:Int) then
   aP (r81 v1.1 v1.2.1 v1.2.2.1 v1.2.2.2.1 v1.2.2.2.2.1 v1.2.2.2.2.2.1 s1.2.2.1 ((a2.getD s1.2.2.2.toNat default).1) ((a2.getD s1.2.2.2.toNat default).2)) fun v3=>
    if (v3.2.2 != 0)=true then
     .out (some ([],0,v3.2.2))
     else if (s1.1.length+1)*24<=140737488355328/\s1.1.length+1<=9223372036854775807 then
      .next (s1.1++[v3.1],IntKind.i64.wrap (s1.2.1+v3.2.1),v3.1,IntKind.i64.wrap (s1.2.2.2+1))
      else .out none
   else .out none
  else .out (some (s1.1,s1.2.1,0))
def aad (a2:wW) (v1:Int×Int×au×aj×au×aj×Int):Bd ((List (bn))×Int×bn×Int) (EX×Int×Int):=fun s2=>
 if (decide (s2.2.2.2<(a2.length:Int)))=true then
  if 0<=s2.2.2.2/\s2.2.2.2<(a2.length:Int) then
   aP (r81 v1.1 v1.2.1 v1.2.2.1 v1.2.2.2.1 v1.2.2.2.2.1 v1.2.2.2.2.2.1 s2.2.2.1 ((a2.getD s2.2.2.2.toNat default).1) ((a2.getD s2.2.2.2.toNat default).2)) fun v6=>
    if (v6.2.2 != 0)=true then
     .out (some ([],0,v6.2.2))
     else if (s2.1.length+1)*24<=140737488355328/\s2.1.length+1<=9223372036854775807 then
      .next (s2.1++[v6.1],IntKind.i64.wrap (s2.2.1+v6.2.1),v6.1,IntKind.i64.wrap (s2.2.2.2+1))
      else .out none
   else .out none
  else .out (some (s2.1,s2.2.1,0))
def r58 (x0 x1:Int) (x2:au) (x3:aj) (a1:bn) (a2:wW):Option (EX×Int×Int):=
 (r79 x0 x1 x2 x3 a1).bind fun v1=>
  if (v1.2.2.2.2.2.2 == 0)=true then
   (r80 v1.1 v1.2.1 v1.2.2.1 v1.2.2.2.1 v1.2.2.2.2.1 v1.2.2.2.2.2.1 a2).bind fun v2=>
    if (v2 != 0)=true then
     some ([],0,v2)
     else aS (Il a2 v1) 1000000000 ([],0,a1,0)
   else if (v1.2.2.2.2.2.2 != 0)=true then
    some ([],0,v1.2.2.2.2.2.2)
    else aS (aad a2 v1) 1000000000 ([],0,a1,0)
@[go_sem] def T58:=ags aij true r58
@[go_sem] def ali (k:Nat):=lk [(79,T79.sp),(80,T80.sp),(81,T81.sp)] k
theorem f58:aF Tryz.prog 58 T58.sp:=by
 refine vm (tb:=ali) (.cons f79 (.cons f80 (.cons f81 .nil))) Tryz.func58 Tryz.ntmps58 fun ⟨x0,x1,x2,x3,a1,a2⟩ r hr stop S=> ?_
 rw [OW,r58] at hr
 refine S.gx [] ?_
 obtain ⟨v1,hv1,hr⟩:=aA hr
 refine gb hv1 ?_
 refine iW hr (fun hc hr=> ?_) fun hc hr=> ?_
 ·obtain ⟨v2,hv2,hr⟩:=aA hr
  refine gb hv2 ?_
  refine iW hr (fun hc hr=>D0 hr) fun hc hr=> ?_
  refine gr ?_
  refine S.Dp 11 1001100 1 rfl rfl ?_
  refine S.sees [9,11,12,13,34,35,36] [(9,9)] [(1001100,1001100),(22,22),(10022,10022)] ?_ (Stop.iter S (fun s1=>⟨[(9,.c (.ref 9 0)),(11,.c (.own 1001100)),(12,.c (.d (.int .i64 s1.2.1))),(13,.c (.d (ah 1 cu s1.2.2.1))),(34,.c (.d (ah 2 rC a2))),(35,.c (.d (.int .i64 (a2.length:Int)))),(36,.c (.d (.int .i64 s1.2.2.2)))],[(9,[.d (.int .i64 v1.1),.d (.int .i64 v1.2.1),.d (ah 2 aT v1.2.2.1),.d (ah 1 aQ v1.2.2.2.1),.own 22,.own 10022])],[(1001100,.owned (ah 1 tV s1.1)),(22,.owned (ah 2 aT v1.2.2.2.2.1)),(10022,.owned (ah 1 aQ v1.2.2.2.2.2.1))]⟩) (Il a2 v1) (fun q=>q=r) hr rfl ?_)
  ·exact lf
  ·intro s1 hr
   unfold Il at hr
   refine S.gx [] ?_
   exact D1 (S.ss [9,11,12,13,34,35,36] [(9,9)] [(55,1001100),(22,22),(10022,10022)]) hr
 ·refine gr ?_
  refine iW hr (fun hc hr=>D0 hr) fun hc hr=> ?_
  refine gr ?_
  refine S.Dp 11 1001100 1 rfl rfl ?_
  refine S.sees [9,11,12,13,34,35,36] [(9,9)] [(1001100,1001100),(22,22),(10022,10022)] ?_ (Stop.iter S (fun s2=>⟨[(9,.c (.ref 9 0)),(11,.c (.own 1001100)),(12,.c (.d (.int .i64 s2.2.1))),(13,.c (.d (ah 1 cu s2.2.2.1))),(34,.c (.d (ah 2 rC a2))),(35,.c (.d (.int .i64 (a2.length:Int)))),(36,.c (.d (.int .i64 s2.2.2.2)))],[(9,[.d (.int .i64 v1.1),.d (.int .i64 v1.2.1),.d (ah 2 aT v1.2.2.1),.d (ah 1 aQ v1.2.2.2.1),.own 22,.own 10022])],[(1001100,.owned (ah 1 tV s2.1)),(22,.owned (ah 2 aT v1.2.2.2.2.1)),(10022,.owned (ah 1 aQ v1.2.2.2.2.2.1))]⟩) (aad a2 v1) (fun q=>q=r) hr rfl ?_)
  ·exact lf
  ·intro s2 hr
   unfold aad at hr
   refine S.gx [] ?_
   exact D1 (S.ss [9,11,12,13,34,35,36] [(9,9)] [(55,1001100),(22,22),(10022,10022)]) hr
def r23 (x0 x1:Int) (x2:au) (x3:aj) (a1:bn) (a2:wW):Option (EX×Int):=
 (r58 x0 x1 x2 x3 a1 a2).bind fun v1=>
  some (v1.1,v1.2.2)
@[go_sem] def T23:=ags aii true r23
@[go_sem] def alr (k:Nat):=lk [(58,T58.sp)] k
theorem f23:aF Tryz.prog 23 T23.sp:=by
 refine vm (tb:=alr) (.cons f58 .nil) Tryz.func23 Tryz.ntmps23 fun ⟨x0,x1,x2,x3,a1,a2⟩ r hr stop S=> ?_
 rw [OW,r23] at hr
 refine S.gx [] ?_
 exact D0 hr
end Go.Proofs.YtkbdjphdhcgmaaaGreatDoor

/- Contracts of functions, written by wip/dec. -/
import Derived.Test.YtkbdjphdhcgmaaaGreatDoorF00
import Derived.Test.YtkbdjphdhcgmaaaGreatDoorF15
set_option linter.unusedVariables false
set_option linter.unusedSimpArgs false
set_option linter.constructorNameAsVariable false
set_option maxHeartbeats 4000000
set_option maxRecDepth 20000
namespace Go.Proofs.YtkbdjphdhcgmaaaGreatDoor
open Go.Abs
def b35_1 (R35:L_IIIIIH→Int→Option (Bool)) (a0:L_IIIIIH) (a1:Int):Bd Int Bool:=fun s1=>
 if (decide (s1<(a0.length:Int)))=true then
  if 0≤s1∧s1<(a0.length:Int) then
   bindC (R35 (hU ((a0.getD s1.toNat default).2.2.2.2.2)) (IntKind.i64.wrap (a1+1))) fun v1=>
    if (!v1)=true then
     .out (some false)
     else .next (IntKind.i64.wrap (s1+1))
   else .out none
  else .out (some true)
def q35 (lv:Nat) (R35:L_IIIIIH→Int→Option (Bool)) (a0:L_IIIIIH) (a1:Int):Option (Bool):=
 if ((decide ((a0.length:Int)>14)) || (decide (a1>5)))=true then
  some false
  else iterC (b35_1 R35 a0 a1) 1000000000 0
def r35:(ix:Nat)→L_IIIIIH→Int→Option (Bool)
 | 0=>fun _ _=>none
 | lv+1=>q35 lv (r35 lv)
@[go_sem] def T35 (ix:Nat):=qT74 qu2 false (r35 ix)
@[go_sem] def tb35 (lv:Nat) (k:Nat):=lk [(35,(T35 lv).sp)] k
theorem tb35_ok (lv:Nat) (h:FnFact Tryz.prog 35 (T35 lv).sp):FnsOk Tryz.prog (tb35 lv):= .cons h .nil
theorem f35 (ix:Nat):FnFact Tryz.prog 35 (T35 ix).sp:=by
 induction ix with
 | zero=>exact fact_no Tryz.func35 (by decide) rfl (fun ⟨a0,a1⟩ h=>Bool.false_ne_true h)
 | succ lv ih=>
 refine valid_m ty_ok (tb35_ok lv ih) Tryz.func35 rfl Tryz.ntmps35 fun ⟨a0,a1⟩ r hr=>⟨nL rfl,fun stop S=> ?_⟩
 replace hr:=(uq2 a0 a1 (r35 (lv+1))).symm.trans hr
 rw [r35] at hr
 unfold q35 at hr
 refine S.gx [] ?_
 repeat (first | refine gA ?_ | refine gB ?_)
 refine iW hr (fun hc hr=>D0 hr) fun hc hr=> ?_
 refine gr ?_
 refine S.sees [0,1,5] [] [] ?_ (Stop.iter S (fun s1=>⟨[(0,.c (.d (encF 6 d_IIIIIH a0))),(1,.c (.d (.int .i64 a1))),(5,.c (.d (.int .i64 s1)))],[],[]⟩) (b35_1 (r35 lv) a0 a1) (fun q=>q=r) hr rfl ?_)
 ·exact lf
 ·intro s1 hr
  unfold b35_1 at hr
  refine S.gx [] ?_
  exact D1 (S.ss [0,1,5] [] []) hr
def b36_1 (R36:L_IIIIIH→Option (Int)) (a0:L_IIIIIH):Bd (Int×Int) Int:=fun s1=>
 if ((decide (s1.2<(a0.length:Int))) && (decide (s1.1≤100)))=true then
  if 0≤s1.2∧s1.2<(a0.length:Int) then
   bindC (R36 (hU ((a0.getD s1.2.toNat default).2.2.2.2.2))) fun v1=>
    .next (IntKind.i64.wrap (s1.1+v1),IntKind.i64.wrap (s1.2+1))
   else .out none
  else .out (some s1.1)
def q36 (lv:Nat) (R36:L_IIIIIH→Option (Int)) (a0:L_IIIIIH):Option (Int):=
 iterC (b36_1 R36 a0) 1000000000 ((a0.length:Int),0)
def r36:(ix:Nat)→L_IIIIIH→Option (Int)
 | 0=>fun _=>none
 | lv+1=>q36 lv (r36 lv)
@[go_sem] def T36 (ix:Nat):=qT20 qu3 false (r36 ix)
@[go_sem] def tb36 (lv:Nat) (k:Nat):=lk [(36,(T36 lv).sp)] k
theorem tb36_ok (lv:Nat) (h:FnFact Tryz.prog 36 (T36 lv).sp):FnsOk Tryz.prog (tb36 lv):= .cons h .nil
theorem f36 (ix:Nat):FnFact Tryz.prog 36 (T36 ix).sp:=by
 induction ix with
 | zero=>exact fact_no Tryz.func36 (by decide) rfl (fun a0 h=>Bool.false_ne_true h)
 | succ lv ih=>
 refine valid_m ty_ok (tb36_ok lv ih) Tryz.func36 rfl Tryz.ntmps36 fun a0 r hr=>⟨nL rfl,fun stop S=> ?_⟩
 replace hr:=(uq1 a0 (r36 (lv+1))).symm.trans hr
 rw [r36] at hr
 unfold q36 at hr
 refine S.gx [] ?_
 refine gr ?_
 refine S.sees [0,3,4] [] [] ?_ (Stop.iter S (fun s1=>⟨[(0,.c (.d (encF 6 d_IIIIIH a0))),(3,.c (.d (.int .i64 s1.1))),(4,.c (.d (.int .i64 s1.2)))],[],[]⟩) (b36_1 (r36 lv) a0) (fun q=>q=r) hr rfl ?_)
 ·exact lf
 ·intro s1 hr
  unfold b36_1 at hr
  refine S.gx [] ?_
  repeat (first | refine gA ?_ | refine gB ?_)
  exact D1 (S.ss [0,3,4] [] []) hr
end Go.Proofs.YtkbdjphdhcgmaaaGreatDoor
namespace Go.Proofs.YtkbdjphdhcgmaaaGreatDoor
open Go.Abs
def r7 (a0:L_IIIIIH):Option (Bool):=
 (r35 7 a0 0).bind fun v1=>
  if v1=true→(r36 7 a0).isSome=true then
   some (v1 && (decide (((r36 7 a0).getD default)≤60)))
   else none
@[go_sem] def T7:=qT20 qu2 false r7
@[go_sem] def tb7 (k:Nat):=lk [(35,(T35 7).sp),(36,(T36 7).sp)] k
theorem f7:FnFact Tryz.prog 7 T7.sp:=by
 refine vm (tb:=tb7) (.cons (f35 7) (.cons (f36 7) .nil)) Tryz.func7 Tryz.ntmps7 fun a0 r hr stop S=> ?_
 rw [uq1,r7] at hr
 refine S.gx [] ?_
 obtain ⟨v1,hv1,hr⟩:=of_bind0 hr
 obtain ⟨hg2,hr⟩:=of_guard0 hr
 try simp only [hv1,oG,oI,true_and,and_assoc]
 repeat (first | refine gG hg2 ?_ | refine gA ?_ | refine gB ?_)
 exact D0 hr
end Go.Proofs.YtkbdjphdhcgmaaaGreatDoor
namespace Go.Proofs.YtkbdjphdhcgmaaaGreatDoor
open Go.Abs
def b9_1 (R9:L_IIIIIH→Option (L_IIIIIH)) (a0:L_IIIIIH):Bd ((List (Int×Int×Int×Int×Int×Hl))×Int) L_IIIIIH:=fun s1=>
 if (decide (s1.2<(a0.length:Int)))=true then
  if 0≤s1.2∧s1.2<(a0.length:Int) then
   if 0≤s1.2∧s1.2<(a0.length:Int) then
    bindC (R9 (hU ((a0.getD s1.2.toNat default).2.2.2.2.2))) fun v1=>
     if (s1.1.length+1)*64≤140737488355328∧s1.1.length+1≤9223372036854775807 then
      .next (s1.1++[((a0.getD s1.2.toNat default).1,(a0.getD s1.2.toNat default).2.1,(a0.getD s1.2.toNat default).2.2.1,(a0.getD s1.2.toNat default).2.2.2.1,(a0.getD s1.2.toNat default).2.2.2.2.1,hM v1)],IntKind.i64.wrap (s1.2+1))
      else .out none
    else .out none
   else .out none
  else .out (some s1.1)
def q9 (lv:Nat) (R9:L_IIIIIH→Option (L_IIIIIH)) (a0:L_IIIIIH):Option (L_IIIIIH):=
 iterC (b9_1 R9 a0) 1000000000 ([],0)
def r9:(ix:Nat)→L_IIIIIH→Option (L_IIIIIH)
 | 0=>fun _=>none
 | lv+1=>q9 lv (r9 lv)
@[go_sem] def T9 (ix:Nat):=qT20 qu1 true (r9 ix)
@[go_sem] def tb9 (lv:Nat) (k:Nat):=lk [(9,(T9 lv).sp)] k
theorem tb9_ok (lv:Nat) (h:FnFact Tryz.prog 9 (T9 lv).sp):FnsOk Tryz.prog (tb9 lv):= .cons h .nil
theorem f9 (ix:Nat):FnFact Tryz.prog 9 (T9 ix).sp:=by
 induction ix with
 | zero=>exact fact_no Tryz.func9 (by decide) rfl (fun a0 h=>Bool.false_ne_true h)
 | succ lv ih=>
 refine valid_m ty_ok (tb9_ok lv ih) Tryz.func9 rfl Tryz.ntmps9 fun a0 r hr=>⟨nL rfl,fun stop S=> ?_⟩
 replace hr:=(uq1 a0 (r9 (lv+1))).symm.trans hr
 rw [r9] at hr
 unfold q9 at hr
 refine S.gx [] ?_
 refine gr ?_
 refine S.own0 3 1000300 6 rfl rfl ?_
 refine S.sees [0,3,4] [] [(1000300,1000300)] ?_ (Stop.iter S (fun s1=>⟨[(0,.c (.d (encF 6 d_IIIIIH a0))),(3,.c (.own 1000300)),(4,.c (.d (.int .i64 s1.2)))],[],[(1000300,.owned (encF 6 d_IIIIIH s1.1))]⟩) (b9_1 (r9 lv) a0) (fun q=>q=r) hr rfl ?_)
 ·exact lf
 ·intro s1 hr
  unfold b9_1 at hr
  refine S.gx [] ?_
  exact D1 (S.ss [0,3,4] [] [(26,1000300)]) hr
end Go.Proofs.YtkbdjphdhcgmaaaGreatDoor
namespace Go.Proofs.YtkbdjphdhcgmaaaGreatDoor
open Go.Abs
def r11 (a0:L_IIIIIH):Option (Int×Int):=
 (r42 7 a0 0).bind fun v1=>
  if (v1.2 != 0)=true then
   some (v1.1,v1.2)
   else (r43 7 a0).bind fun v2=>
    if (decide (v2>60))=true then
     some (0,8)
     else (r13 7 a0).bind fun v3=>
      if 0≤IntKind.i64.wrap ((v3.length:Int) - 1)∧IntKind.i64.wrap ((v3.length:Int) - 1)<(v3.length:Int) then
       (r44 ((v3.getD (IntKind.i64.wrap ((v3.length:Int) - 1)).toNat default).1) ((v3.getD (IntKind.i64.wrap ((v3.length:Int) - 1)).toNat default).2.1) ((v3.getD (IntKind.i64.wrap ((v3.length:Int) - 1)).toNat default).2.2.1) ((v3.getD (IntKind.i64.wrap ((v3.length:Int) - 1)).toNat default).2.2.2.1) ((v3.getD (IntKind.i64.wrap ((v3.length:Int) - 1)).toNat default).2.2.2.2.1) ((v3.getD (IntKind.i64.wrap ((v3.length:Int) - 1)).toNat default).2.2.2.2.2)).bind fun v4=>
        if (!v4)=true then
         some (0,20)
         else some (0,0)
       else none
@[go_sem] def T11:=qT20 qu4 false r11
@[go_sem] def tb11 (k:Nat):=lk [(13,(T13 7).sp),(42,(T42 7).sp),(43,(T43 7).sp),(44,T44.sp)] k
theorem f11:FnFact Tryz.prog 11 T11.sp:=by
 refine vm (tb:=tb11) (.cons (f13 7) (.cons (f42 7) (.cons (f43 7) (.cons f44 .nil)))) Tryz.func11 Tryz.ntmps11 fun a0 r hr stop S=> ?_
 rw [uq1,r11] at hr
 refine S.gx [] ?_
 exact D0 hr
end Go.Proofs.YtkbdjphdhcgmaaaGreatDoor
namespace Go.Proofs.YtkbdjphdhcgmaaaGreatDoor
open Go.Abs
section
variable {β:Type} [Inhabited β] (u:β→List RV) (al:Bool)
def qw75 (a0 a1:L_IIIIIH):List Arg:=[.c (encF 6 d_IIIIIH a0),.c (encF 6 d_IIIIIH a1)]
def qd75:List Arg→L_IIIIIH×L_IIIIIH
 | [.c c0,.c c1]=>(decF g_IIIIIH c0,decF g_IIIIIH c1)
 | _=>default
def qT75 (r:L_IIIIIH→L_IIIIIH→Option β):=mkT (u2 qw75) qd75 (u2 r) u al
attribute [go_sem] qw75 qd75 qT75
end
def b12_1 (R12:L_IIIIIH→L_IIIIIH→Option (Bool)) (a0 a1:L_IIIIIH):Bd Int Bool:=fun s1=>
 if (decide (s1<(a0.length:Int)))=true then
  if 0≤s1∧s1<(a0.length:Int) then
   if 0≤s1∧s1<(a1.length:Int) then
    if (!(((a0.getD s1.toNat default).1) != ((a1.getD s1.toNat default).1)))=true→0≤s1∧s1<(a0.length:Int) then
     if (!(((a0.getD s1.toNat default).1) != ((a1.getD s1.toNat default).1)))=true→0≤s1∧s1<(a1.length:Int) then
      if (!((((a0.getD s1.toNat default).1) != ((a1.getD s1.toNat default).1)) || (((a0.getD s1.toNat default).2.1) != ((a1.getD s1.toNat default).2.1))))=true→0≤s1∧s1<(a0.length:Int) then
       if (!((((a0.getD s1.toNat default).1) != ((a1.getD s1.toNat default).1)) || (((a0.getD s1.toNat default).2.1) != ((a1.getD s1.toNat default).2.1))))=true→0≤s1∧s1<(a1.length:Int) then
        if (!(((((a0.getD s1.toNat default).1) != ((a1.getD s1.toNat default).1)) || (((a0.getD s1.toNat default).2.1) != ((a1.getD s1.toNat default).2.1))) || (((a0.getD s1.toNat default).2.2.1) != ((a1.getD s1.toNat default).2.2.1))))=true→0≤s1∧s1<(a0.length:Int) then
         if (!(((((a0.getD s1.toNat default).1) != ((a1.getD s1.toNat default).1)) || (((a0.getD s1.toNat default).2.1) != ((a1.getD s1.toNat default).2.1))) || (((a0.getD s1.toNat default).2.2.1) != ((a1.getD s1.toNat default).2.2.1))))=true→0≤s1∧s1<(a1.length:Int) then
          if (!((((((a0.getD s1.toNat default).1) != ((a1.getD s1.toNat default).1)) || (((a0.getD s1.toNat default).2.1) != ((a1.getD s1.toNat default).2.1))) || (((a0.getD s1.toNat default).2.2.1) != ((a1.getD s1.toNat default).2.2.1))) || (((a0.getD s1.toNat default).2.2.2.1) != ((a1.getD s1.toNat default).2.2.2.1))))=true→0≤s1∧s1<(a0.length:Int) then
           if (!((((((a0.getD s1.toNat default).1) != ((a1.getD s1.toNat default).1)) || (((a0.getD s1.toNat default).2.1) != ((a1.getD s1.toNat default).2.1))) || (((a0.getD s1.toNat default).2.2.1) != ((a1.getD s1.toNat default).2.2.1))) || (((a0.getD s1.toNat default).2.2.2.1) != ((a1.getD s1.toNat default).2.2.2.1))))=true→0≤s1∧s1<(a1.length:Int) then
            if (!(((((((a0.getD s1.toNat default).1) != ((a1.getD s1.toNat default).1)) || (((a0.getD s1.toNat default).2.1) != ((a1.getD s1.toNat default).2.1))) || (((a0.getD s1.toNat default).2.2.1) != ((a1.getD s1.toNat default).2.2.1))) || (((a0.getD s1.toNat default).2.2.2.1) != ((a1.getD s1.toNat default).2.2.2.1))) || (((a0.getD s1.toNat default).2.2.2.2.1) != ((a1.getD s1.toNat default).2.2.2.2.1))))=true→0≤s1∧s1<(a0.length:Int) then
             if (!(((((((a0.getD s1.toNat default).1) != ((a1.getD s1.toNat default).1)) || (((a0.getD s1.toNat default).2.1) != ((a1.getD s1.toNat default).2.1))) || (((a0.getD s1.toNat default).2.2.1) != ((a1.getD s1.toNat default).2.2.1))) || (((a0.getD s1.toNat default).2.2.2.1) != ((a1.getD s1.toNat default).2.2.2.1))) || (((a0.getD s1.toNat default).2.2.2.2.1) != ((a1.getD s1.toNat default).2.2.2.2.1))))=true→0≤s1∧s1<(a1.length:Int) then
              if (!(((((((a0.getD s1.toNat default).1) != ((a1.getD s1.toNat default).1)) || (((a0.getD s1.toNat default).2.1) != ((a1.getD s1.toNat default).2.1))) || (((a0.getD s1.toNat default).2.2.1) != ((a1.getD s1.toNat default).2.2.1))) || (((a0.getD s1.toNat default).2.2.2.1) != ((a1.getD s1.toNat default).2.2.2.1))) || (((a0.getD s1.toNat default).2.2.2.2.1) != ((a1.getD s1.toNat default).2.2.2.2.1))))=true→(R12 (hU ((a0.getD s1.toNat default).2.2.2.2.2)) (hU ((a1.getD s1.toNat default).2.2.2.2.2))).isSome=true then
               if ((((((((a0.getD s1.toNat default).1) != ((a1.getD s1.toNat default).1)) || (((a0.getD s1.toNat default).2.1) != ((a1.getD s1.toNat default).2.1))) || (((a0.getD s1.toNat default).2.2.1) != ((a1.getD s1.toNat default).2.2.1))) || (((a0.getD s1.toNat default).2.2.2.1) != ((a1.getD s1.toNat default).2.2.2.1))) || (((a0.getD s1.toNat default).2.2.2.2.1) != ((a1.getD s1.toNat default).2.2.2.2.1))) || (!((R12 (hU ((a0.getD s1.toNat default).2.2.2.2.2)) (hU ((a1.getD s1.toNat default).2.2.2.2.2))).getD default)))=true then
                .out (some false)
                else .next (IntKind.i64.wrap (s1+1))
               else .out none
              else .out none
             else .out none
            else .out none
           else .out none
          else .out none
         else .out none
        else .out none
       else .out none
      else .out none
     else .out none
    else .out none
   else .out none
  else .out (some true)
def q12 (lv:Nat) (R12:L_IIIIIH→L_IIIIIH→Option (Bool)) (a0 a1:L_IIIIIH):Option (Bool):=
 if ((a0.length:Int) != (a1.length:Int))=true then
  some false
  else iterC (b12_1 R12 a0 a1) 1000000000 0
def r12:(ix:Nat)→L_IIIIIH→L_IIIIIH→Option (Bool)
 | 0=>fun _ _=>none
 | lv+1=>q12 lv (r12 lv)
@[go_sem] def T12 (ix:Nat):=qT75 qu2 false (r12 ix)
@[go_sem] def tb12 (lv:Nat) (k:Nat):=lk [(12,(T12 lv).sp)] k
theorem tb12_ok (lv:Nat) (h:FnFact Tryz.prog 12 (T12 lv).sp):FnsOk Tryz.prog (tb12 lv):= .cons h .nil
theorem f12 (ix:Nat):FnFact Tryz.prog 12 (T12 ix).sp:=by
 induction ix with
 | zero=>exact fact_no Tryz.func12 (by decide) rfl (fun ⟨a0,a1⟩ h=>Bool.false_ne_true h)
 | succ lv ih=>
 refine valid_m ty_ok (tb12_ok lv ih) Tryz.func12 rfl Tryz.ntmps12 fun ⟨a0,a1⟩ r hr=>⟨nL rfl,fun stop S=> ?_⟩
 replace hr:=(uq2 a0 a1 (r12 (lv+1))).symm.trans hr
 rw [r12] at hr
 unfold q12 at hr
 refine S.gx [5,7] ?_
 refine gr ?_
 refine iW hr (fun hc hr=>D0 hr) fun hc hr=> ?_
 refine gr ?_
 refine S.sees [0,1,5] [] [] ?_ (Stop.iter S (fun s1=>⟨[(0,.c (.d (encF 6 d_IIIIIH a0))),(1,.c (.d (encF 6 d_IIIIIH a1))),(5,.c (.d (.int .i64 s1)))],[],[]⟩) (b12_1 (r12 lv) a0 a1) (fun q=>q=r) hr rfl ?_)
 ·exact lf
 ·intro s1 hr
  unfold b12_1 at hr
  refine S.gx [5,7] ?_
  refine gr ?_
  refine iW1 hr (fun hc hr=> ?_) fun hc hr=>D0 hr
  obtain ⟨hg1,hr⟩:=of_guard1 hr
  obtain ⟨hg2,hr⟩:=of_guard1 hr
  obtain ⟨hg3,hr⟩:=of_guard1 hr
  obtain ⟨hg4,hr⟩:=of_guard1 hr
  obtain ⟨hg5,hr⟩:=of_guard1 hr
  obtain ⟨hg6,hr⟩:=of_guard1 hr
  obtain ⟨hg7,hr⟩:=of_guard1 hr
  obtain ⟨hg8,hr⟩:=of_guard1 hr
  obtain ⟨hg9,hr⟩:=of_guard1 hr
  obtain ⟨hg10,hr⟩:=of_guard1 hr
  obtain ⟨hg11,hr⟩:=of_guard1 hr
  obtain ⟨hg12,hr⟩:=of_guard1 hr
  obtain ⟨hg13,hr⟩:=of_guard1 hr
  repeat (first | refine gG hg3 ?_ | refine gG hg4 ?_ | refine gG hg5 ?_ | refine gG hg6 ?_ | refine gG hg7 ?_ | refine gG hg8 ?_ | refine gG hg9 ?_ | refine gG hg10 ?_ | refine gG hg11 ?_ | refine gG hg12 ?_ | refine gG hg13 ?_ | refine gA ?_ | refine gB ?_)
  refine iW1 hr (fun hc hr=> ?_) fun hc hr=> ?_
  ·refine gr ?_
   refine S.prune [] ?_
   refine S.gx [5] ?_
   exact D0 hr
  ·refine gr ?_
   refine S.prune [0,1,5] ?_
   refine S.gx [7] ?_
   exact D1 (S.ss [0,1,5] [] []) hr
end Go.Proofs.YtkbdjphdhcgmaaaGreatDoor

/- Contracts of functions, written by wip/dec. -/
import Derived.Test.YtnepigpnlnmlmaaGreatDoorF00
set_option linter.unusedVariables false
set_option linter.unusedSimpArgs false
set_option linter.constructorNameAsVariable false
set_option maxHeartbeats 4000000
set_option maxRecDepth 20000
namespace Go.Proofs.YtnepigpnlnmlmaaGreatDoor
open Go.Abs
section
variable {β:Type} [Inhabited β] (u:β→List RV) (al:Bool)
def qw76 (a0 a1:L_IIIIIH):List Arg:=[.c (encF 6 d_IIIIIH a0),.c (encF 6 d_IIIIIH a1)]
def qd76:List Arg→L_IIIIIH×L_IIIIIH
 | [.c c0,.c c1]=>(decF g_IIIIIH c0,decF g_IIIIIH c1)
 | _=>default
def qT76 (r:L_IIIIIH→L_IIIIIH→Option β):=mkT (u2 qw76) qd76 (u2 r) u al
attribute [go_sem] qw76 qd76 qT76
end
def b18_1 (R18:L_IIIIIH→L_IIIIIH→Option (Bool)) (a0 a1:L_IIIIIH):Bd Int Bool:=fun s1=>
 if (decide (s1<(a0.length:Int)))=true then
  if 0≤s1∧s1<(a0.length:Int) then
   if 0≤s1∧s1<(a1.length:Int) then
    if (!(((a0.getD s1.toNat default).1) != ((a1.getD s1.toNat default).1)))=true→0≤s1∧s1<(a0.length:Int) then
     if (!(((a0.getD s1.toNat default).1) != ((a1.getD s1.toNat default).1)))=true→0≤s1∧s1<(a1.length:Int) then
      if (!((((a0.getD s1.toNat default).1) != ((a1.getD s1.toNat default).1)) || (((a0.getD s1.toNat default).2.1) != ((a1.getD s1.toNat default).2.1))))=true→0≤s1∧s1<(a0.length:Int) then
       if (!((((a0.getD s1.toNat default).1) != ((a1.getD s1.toNat default).1)) || (((a0.getD s1.toNat default).2.1) != ((a1.getD s1.toNat default).2.1))))=true→0≤s1∧s1<(a1.length:Int) then
        if (!(((((a0.getD s1.toNat default).1) != ((a1.getD s1.toNat default).1)) || (((a0.getD s1.toNat default).2.1) != ((a1.getD s1.toNat default).2.1))) || (((a0.getD s1.toNat default).2.2.1) != ((a1.getD s1.toNat default).2.2.1))))=true→0≤s1∧s1<(a0.length:Int) then
         if (!(((((a0.getD s1.toNat default).1) != ((a1.getD s1.toNat default).1)) || (((a0.getD s1.toNat default).2.1) != ((a1.getD s1.toNat default).2.1))) || (((a0.getD s1.toNat default).2.2.1) != ((a1.getD s1.toNat default).2.2.1))))=true→0≤s1∧s1<(a1.length:Int) then
          if (!((((((a0.getD s1.toNat default).1) != ((a1.getD s1.toNat default).1)) || (((a0.getD s1.toNat default).2.1) != ((a1.getD s1.toNat default).2.1))) || (((a0.getD s1.toNat default).2.2.1) != ((a1.getD s1.toNat default).2.2.1))) || (((a0.getD s1.toNat default).2.2.2.1) != ((a1.getD s1.toNat default).2.2.2.1))))=true→0≤s1∧s1<(a0.length:Int) then
           if (!((((((a0.getD s1.toNat default).1) != ((a1.getD s1.toNat default).1)) || (((a0.getD s1.toNat default).2.1) != ((a1.getD s1.toNat default).2.1))) || (((a0.getD s1.toNat default).2.2.1) != ((a1.getD s1.toNat default).2.2.1))) || (((a0.getD s1.toNat default).2.2.2.1) != ((a1.getD s1.toNat default).2.2.2.1))))=true→0≤s1∧s1<(a1.length:Int) then
            if (!(((((((a0.getD s1.toNat default).1) != ((a1.getD s1.toNat default).1)) || (((a0.getD s1.toNat default).2.1) != ((a1.getD s1.toNat default).2.1))) || (((a0.getD s1.toNat default).2.2.1) != ((a1.getD s1.toNat default).2.2.1))) || (((a0.getD s1.toNat default).2.2.2.1) != ((a1.getD s1.toNat default).2.2.2.1))) || (((a0.getD s1.toNat default).2.2.2.2.1) != ((a1.getD s1.toNat default).2.2.2.2.1))))=true→0≤s1∧s1<(a0.length:Int) then
             if (!(((((((a0.getD s1.toNat default).1) != ((a1.getD s1.toNat default).1)) || (((a0.getD s1.toNat default).2.1) != ((a1.getD s1.toNat default).2.1))) || (((a0.getD s1.toNat default).2.2.1) != ((a1.getD s1.toNat default).2.2.1))) || (((a0.getD s1.toNat default).2.2.2.1) != ((a1.getD s1.toNat default).2.2.2.1))) || (((a0.getD s1.toNat default).2.2.2.2.1) != ((a1.getD s1.toNat default).2.2.2.2.1))))=true→0≤s1∧s1<(a1.length:Int) then
              if (!(((((((a0.getD s1.toNat default).1) != ((a1.getD s1.toNat default).1)) || (((a0.getD s1.toNat default).2.1) != ((a1.getD s1.toNat default).2.1))) || (((a0.getD s1.toNat default).2.2.1) != ((a1.getD s1.toNat default).2.2.1))) || (((a0.getD s1.toNat default).2.2.2.1) != ((a1.getD s1.toNat default).2.2.2.1))) || (((a0.getD s1.toNat default).2.2.2.2.1) != ((a1.getD s1.toNat default).2.2.2.2.1))))=true→(R18 (hU ((a0.getD s1.toNat default).2.2.2.2.2)) (hU ((a1.getD s1.toNat default).2.2.2.2.2))).isSome=true then
               if ((((((((a0.getD s1.toNat default).1) != ((a1.getD s1.toNat default).1)) || (((a0.getD s1.toNat default).2.1) != ((a1.getD s1.toNat default).2.1))) || (((a0.getD s1.toNat default).2.2.1) != ((a1.getD s1.toNat default).2.2.1))) || (((a0.getD s1.toNat default).2.2.2.1) != ((a1.getD s1.toNat default).2.2.2.1))) || (((a0.getD s1.toNat default).2.2.2.2.1) != ((a1.getD s1.toNat default).2.2.2.2.1))) || (!((R18 (hU ((a0.getD s1.toNat default).2.2.2.2.2)) (hU ((a1.getD s1.toNat default).2.2.2.2.2))).getD default)))=true then
                .out (some false)
                else .next (IntKind.i64.wrap (s1+1))
               else .out none
              else .out none
             else .out none
            else .out none
           else .out none
          else .out none
         else .out none
        else .out none
       else .out none
      else .out none
     else .out none
    else .out none
   else .out none
  else .out (some true)
def q18 (lv:Nat) (R18:L_IIIIIH→L_IIIIIH→Option (Bool)) (a0 a1:L_IIIIIH):Option (Bool):=
 if ((a0.length:Int) != (a1.length:Int))=true then
  some false
  else iterC (b18_1 R18 a0 a1) 1000000000 0
def r18:(ix:Nat)→L_IIIIIH→L_IIIIIH→Option (Bool)
 | 0=>fun _ _=>none
 | lv+1=>q18 lv (r18 lv)
@[go_sem] def T18 (ix:Nat):=qT76 qu2 false (r18 ix)
@[go_sem] def tb18 (lv:Nat) (k:Nat):=lk [(18,(T18 lv).sp)] k
theorem tb18_ok (lv:Nat) (h:FnFact Tryz.prog 18 (T18 lv).sp):FnsOk Tryz.prog (tb18 lv):= .cons h .nil
theorem f18 (ix:Nat):FnFact Tryz.prog 18 (T18 ix).sp:=by
 induction ix with
 | zero=>exact fact_no Tryz.func18 (by decide) rfl (fun ⟨a0,a1⟩ h=>Bool.false_ne_true h)
 | succ lv ih=>
 refine valid_m ty_ok (tb18_ok lv ih) Tryz.func18 rfl Tryz.ntmps18 fun ⟨a0,a1⟩ r hr=>⟨nL rfl,fun stop S=> ?_⟩
 replace hr:=(uq2 a0 a1 (r18 (lv+1))).symm.trans hr
 rw [r18] at hr
 unfold q18 at hr
 refine S.gx [5,7] ?_
 refine gr ?_
 refine iW hr (fun hc hr=>D0 hr) fun hc hr=> ?_
 refine gr ?_
 refine S.li [0,1,5] [] [] (fun s1=>⟨[(0,.c (.d (encF 6 d_IIIIIH a0))),(1,.c (.d (encF 6 d_IIIIIH a1))),sI 5 s1],[],[]⟩) (b18_1 (r18 lv) a0 a1) (fun q=>q=r) hr rfl ?_
 intro s1 hr
 unfold b18_1 at hr
 refine S.gw [5,7] ?_
 refine iW1 hr (fun hc hr=> ?_) fun hc hr=>D0 hr
 obtain ⟨hg1,hr⟩:=of_guard1 hr
 obtain ⟨hg2,hr⟩:=of_guard1 hr
 obtain ⟨hg3,hr⟩:=of_guard1 hr
 obtain ⟨hg4,hr⟩:=of_guard1 hr
 obtain ⟨hg5,hr⟩:=of_guard1 hr
 obtain ⟨hg6,hr⟩:=of_guard1 hr
 obtain ⟨hg7,hr⟩:=of_guard1 hr
 obtain ⟨hg8,hr⟩:=of_guard1 hr
 obtain ⟨hg9,hr⟩:=of_guard1 hr
 obtain ⟨hg10,hr⟩:=of_guard1 hr
 obtain ⟨hg11,hr⟩:=of_guard1 hr
 obtain ⟨hg12,hr⟩:=of_guard1 hr
 obtain ⟨hg13,hr⟩:=of_guard1 hr
 repeat (first | refine gG hg3 ?_ | refine gG hg4 ?_ | refine gG hg5 ?_ | refine gG hg6 ?_ | refine gG hg7 ?_ | refine gG hg8 ?_ | refine gG hg9 ?_ | refine gG hg10 ?_ | refine gG hg11 ?_ | refine gG hg12 ?_ | refine gG hg13 ?_ | refine gA ?_ | refine gB ?_)
 refine iW1 hr (fun hc hr=> ?_) fun hc hr=> ?_
 ·refine gr ?_
  refine S.prune [] ?_
  refine S.gx [5] ?_
  exact D0 hr
 ·refine gr ?_
  refine S.prune [0,1,5] ?_
  refine S.gx [7] ?_
  exact D1 (S.ss [0,1,5] [] []) hr
end Go.Proofs.YtnepigpnlnmlmaaGreatDoor

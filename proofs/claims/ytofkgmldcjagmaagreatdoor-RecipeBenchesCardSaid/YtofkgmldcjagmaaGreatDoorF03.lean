/- Contracts of functions, written by wip/dec. -/
import Derived.Test.YtofkgmldcjagmaaGreatDoorF00
import Derived.Test.YtofkgmldcjagmaaGreatDoorF01
import Derived.Test.YtofkgmldcjagmaaGreatDoorF02
set_option linter.unusedVariables false
set_option linter.unusedSimpArgs false
set_option linter.constructorNameAsVariable false
set_option maxHeartbeats 4000000
set_option maxRecDepth 20000
namespace Go.Proofs.YtofkgmldcjagmaaGreatDoor
open Go.dJ
section
variable {β:Type} [Inhabited β] (u:β→List RV) (al:Bool)
def aoB (a0 a1 a2 a3 a4:Int) (a5:Hl):List Arg:=[.agg [.int .i64 a0,.int .i64 a1,.int .i64 a2,.int .i64 a3,.int .i64 a4,hE a5]]
def aqh:List Arg→Int×Int×Int×Int×Int×Hl
 | [.agg [c0,c1,c2,c3,c4,c5]]=>(aB c0,aB c1,aB c2,aB c3,aB c4,hD c5)
 | _=>default
def YU (r:Int→Int→Int→Int→Int→Hl→Option β):=mkT (u6 aoB) aqh (u6 r) u al
attribute [go_sem] aoB aqh YU
def aoA (a0 a1 a2 a3 a4:Int) (a5:Hl) (a6:Int):List Arg:=[.agg [.int .i64 a0,.int .i64 a1,.int .i64 a2,.int .i64 a3,.int .i64 a4,hE a5],.c (.int .i64 a6)]
def aqg:List Arg→Int×Int×Int×Int×Int×Hl×Int
 | [.agg [c0,c1,c2,c3,c4,c5],.c c6]=>(aB c0,aB c1,aB c2,aB c3,aB c4,hD c5,aB c6)
 | _=>default
def arh (r:Int→Int→Int→Int→Int→Hl→Int→Option β):=mkT (u7 aoA) aqg (u7 r) u al
attribute [go_sem] aoA aqg arh
def ape (v:uT):List RV:=[.c (.own (ah 3 uO v))]
attribute [go_sem] ape
def apd (v:bC×Int):List RV:=[.c (.own (ah 6 bD v.1)),.c (.d (.int .i64 v.2))]
attribute [go_sem] apd
def apc (v:Int×Int×Int):List RV:=[.agg [.d (.int .i64 v.1),.d (.int .i64 v.2.1)],.c (.d (.int .i64 v.2.2))]
attribute [go_sem] apc
end
def ag7 (a0:Int):Option (uT):=
 if (a0 == 0)=true then
  some [(205,1,10000),(207,1,200)]
  else if (a0 == 1)=true then
   some [(207,1,200)]
   else if (a0 == 2)=true then
    some [(206,0,3),(207,1,200)]
    else if (a0 == 3)=true then
     some [(208,200,3000),(205,1,10000),(207,1,200)]
     else if (a0 == 4)=true then
      some [(208,200,3000),(206,0,3),(207,1,200)]
      else if (a0 == 5)=true then
       some [(207,1,10)]
       else some []
@[go_sem] def aun:=Kw ape true ag7
theorem f184:aF Tryz.prog 184 aun.sp:=by
 refine vm .nil Tryz.func184 Tryz.ntmps184 fun a0 r hr stop S=> ?_
 rw [qU,ag7] at hr
 refine S.gx [] ?_
 exact D0 hr
def YA (x1 x2 x3 x4 x0:Int) (x5:Hl):Option (Int):=
 some x0
@[go_sem] def at7:=YU lF false YA
theorem f208:aF Tryz.prog 208 at7.sp:=by
 refine vm .nil Tryz.func208 Tryz.ntmps208 fun ⟨x1,x2,x3,x4,x0,x5⟩ r hr stop S=> ?_
 rw [Vy,YA] at hr
 refine S.gx [] ?_
 exact D0 hr
def YB (x1 x2 x3 x0 x4:Int) (x5:Hl):Option (Int):=
 some x0
@[go_sem] def aua:=YU lF false YB
theorem f207:aF Tryz.prog 207 aua.sp:=by
 refine vm .nil Tryz.func207 Tryz.ntmps207 fun ⟨x1,x2,x3,x0,x4,x5⟩ r hr stop S=> ?_
 rw [Vy,YB] at hr
 refine S.gx [] ?_
 exact D0 hr
def YC (x1 x2 x0 x3 x4:Int) (x5:Hl):Option (Int):=
 some x0
@[go_sem] def aub:=YU lF false YC
theorem f206:aF Tryz.prog 206 aub.sp:=by
 refine vm .nil Tryz.func206 Tryz.ntmps206 fun ⟨x1,x2,x0,x3,x4,x5⟩ r hr stop S=> ?_
 rw [Vy,YC] at hr
 refine S.gx [] ?_
 exact D0 hr
def YD (x1 x0 x2 x3 x4:Int) (x5:Hl):Option (Int):=
 some x0
@[go_sem] def auc:=YU lF false YD
theorem f205:aF Tryz.prog 205 auc.sp:=by
 refine vm .nil Tryz.func205 Tryz.ntmps205 fun ⟨x1,x0,x2,x3,x4,x5⟩ r hr stop S=> ?_
 rw [Vy,YD] at hr
 refine S.gx [] ?_
 exact D0 hr
def QI (sW:Int→Int→Int→Int→Int→Hl→Int→Option (Int)) (x0:Hl) (a1:Int):Bd Int Int:=fun s2=>
 if (decide (s2<((hU x0).length:Int)))=true then
  if 0≤s2∧s2<((hU x0).length:Int) then
   aP (sW (((hU x0).getD s2.toNat default).1) (((hU x0).getD s2.toNat default).2.1) (((hU x0).getD s2.toNat default).2.2.1) (((hU x0).getD s2.toNat default).2.2.2.1) (((hU x0).getD s2.toNat default).2.2.2.2.1) (((hU x0).getD s2.toNat default).2.2.2.2.2) (IntKind.i64.wrap (a1+1))) fun v22=>
    if (v22 != 0)=true then
     .out (some v22)
     else .next (IntKind.i64.wrap (s2+1))
   else .out none
  else .out (some 0)
def QH (sW:Int→Int→Int→Int→Int→Hl→Int→Option (Int)) (x0:Hl) (a1:Int):Bd Int Int:=fun s3=>
 if (decide (s3<((hU x0).length:Int)))=true then
  if 0≤s3∧s3<((hU x0).length:Int) then
   aP (sW (((hU x0).getD s3.toNat default).1) (((hU x0).getD s3.toNat default).2.1) (((hU x0).getD s3.toNat default).2.2.1) (((hU x0).getD s3.toNat default).2.2.2.1) (((hU x0).getD s3.toNat default).2.2.2.2.1) (((hU x0).getD s3.toNat default).2.2.2.2.2) (IntKind.i64.wrap (a1+1))) fun v30=>
    if (v30 != 0)=true then
     .out (some v30)
     else .next (IntKind.i64.wrap (s3+1))
   else .out none
  else .out (some 0)
def QG (sW:Int→Int→Int→Int→Int→Hl→Int→Option (Int)) (x0:Hl) (a1:Int):Bd Int Int:=fun s4=>
 if (decide (s4<((hU x0).length:Int)))=true then
  if 0≤s4∧s4<((hU x0).length:Int) then
   aP (sW (((hU x0).getD s4.toNat default).1) (((hU x0).getD s4.toNat default).2.1) (((hU x0).getD s4.toNat default).2.2.1) (((hU x0).getD s4.toNat default).2.2.2.1) (((hU x0).getD s4.toNat default).2.2.2.2.1) (((hU x0).getD s4.toNat default).2.2.2.2.2) (IntKind.i64.wrap (a1+1))) fun v38=>
    if (v38 != 0)=true then
     .out (some v38)
     else .next (IntKind.i64.wrap (s4+1))
   else .out none
  else .out (some 0)
def QF (sW:Int→Int→Int→Int→Int→Hl→Int→Option (Int)) (x0:Hl) (a1:Int):Bd Int Int:=fun s5=>
 if (decide (s5<((hU x0).length:Int)))=true then
  if 0≤s5∧s5<((hU x0).length:Int) then
   aP (sW (((hU x0).getD s5.toNat default).1) (((hU x0).getD s5.toNat default).2.1) (((hU x0).getD s5.toNat default).2.2.1) (((hU x0).getD s5.toNat default).2.2.2.1) (((hU x0).getD s5.toNat default).2.2.2.2.1) (((hU x0).getD s5.toNat default).2.2.2.2.2) (IntKind.i64.wrap (a1+1))) fun v46=>
    if (v46 != 0)=true then
     .out (some v46)
     else .next (IntKind.i64.wrap (s5+1))
   else .out none
  else .out (some 0)
def QE (sW:Int→Int→Int→Int→Int→Hl→Int→Option (Int)) (x0:Hl) (a1:Int):Bd Int Int:=fun s6=>
 if (decide (s6<((hU x0).length:Int)))=true then
  if 0≤s6∧s6<((hU x0).length:Int) then
   aP (sW (((hU x0).getD s6.toNat default).1) (((hU x0).getD s6.toNat default).2.1) (((hU x0).getD s6.toNat default).2.2.1) (((hU x0).getD s6.toNat default).2.2.2.1) (((hU x0).getD s6.toNat default).2.2.2.2.1) (((hU x0).getD s6.toNat default).2.2.2.2.2) (IntKind.i64.wrap (a1+1))) fun v54=>
    if (v54 != 0)=true then
     .out (some v54)
     else .next (IntKind.i64.wrap (s6+1))
   else .out none
  else .out (some 0)
def QJ (sW:Int→Int→Int→Int→Int→Hl→Int→Option (Int)) (x1 x2 x3 x5 x4:Int) (x0:Hl) (a1:Int) (v2:uT):Bd (Bool×Int) Int:=fun s1=>
 if (decide (s1.2<(v2.length:Int)))=true then
  if 0≤s1.2∧s1.2<(v2.length:Int) then
   if (v2.getD s1.2.toNat default).1=205 then
    if s1.1=true→(YD x1 x2 x3 x5 x4 x0).isSome=true then
     if s1.1=true→(Ea ((YD x1 x2 x3 x5 x4 x0).getD default) ((v2.getD s1.2.toNat default).2.1) ((v2.getD s1.2.toNat default).2.2)).isSome=true then
      .next (s1.1 && ((Ea ((YD x1 x2 x3 x5 x4 x0).getD default) ((v2.getD s1.2.toNat default).2.1) ((v2.getD s1.2.toNat default).2.2)).getD default),IntKind.i64.wrap (s1.2+1))
      else .out none
     else .out none
    else if (v2.getD s1.2.toNat default).1=206 then
     if s1.1=true→(YC x1 x2 x3 x5 x4 x0).isSome=true then
      if s1.1=true→(Ea ((YC x1 x2 x3 x5 x4 x0).getD default) ((v2.getD s1.2.toNat default).2.1) ((v2.getD s1.2.toNat default).2.2)).isSome=true then
       .next (s1.1 && ((Ea ((YC x1 x2 x3 x5 x4 x0).getD default) ((v2.getD s1.2.toNat default).2.1) ((v2.getD s1.2.toNat default).2.2)).getD default),IntKind.i64.wrap (s1.2+1))
       else .out none
      else .out none
     else if (v2.getD s1.2.toNat default).1=207 then
      if s1.1=true→(YB x1 x2 x3 x5 x4 x0).isSome=true then
       if s1.1=true→(Ea ((YB x1 x2 x3 x5 x4 x0).getD default) ((v2.getD s1.2.toNat default).2.1) ((v2.getD s1.2.toNat default).2.2)).isSome=true then
        .next (s1.1 && ((Ea ((YB x1 x2 x3 x5 x4 x0).getD default) ((v2.getD s1.2.toNat default).2.1) ((v2.getD s1.2.toNat default).2.2)).getD default),IntKind.i64.wrap (s1.2+1))
        else .out none
       else .out none
      else if (v2.getD s1.2.toNat default).1=208 then
       if s1.1=true→(YA x1 x2 x3 x5 x4 x0).isSome=true then
        if s1.1=true→(Ea ((YA x1 x2 x3 x5 x4 x0).getD default) ((v2.getD s1.2.toNat default).2.1) ((v2.getD s1.2.toNat default).2.2)).isSome=true then
         .next (s1.1 && ((Ea ((YA x1 x2 x3 x5 x4 x0).getD default) ((v2.getD s1.2.toNat default).2.1) ((v2.getD s1.2.toNat default).2.2)).getD default),IntKind.i64.wrap (s1.2+1))
         else .out none
        else .out none
       else .out none
   else .out none
  else .out (if (x1 == 0)=true then
   (lG (((x3 == 0) && (x4 == 0)) && ((x1 == 5) || (((hU x0).length:Int) == 0))) 3).bind fun v16=>
    (lG s1.1 2).bind fun v17=>
     (wR [v16,v17]).bind fun v18=>
      if ((v18 != 0) || (!(x1 == 5)))=true then
       some v18
       else if (a1 == 3)=true then
        some 16
        else (lG (decide (((hU x0).length:Int)>0)) 10).bind fun v19=>
         (lG (decide (((hU x0).length:Int)≤12)) 8).bind fun v20=>
          (wR [v19,v20]).bind fun v21=>
           if (v21 != 0)=true then
            some v21
            else aS (QI sW x0 a1) 1000000000 0
   else if (x1 == 2)=true then
    (lG (((x2 == 0) && (x4 == 0)) && ((x1 == 5) || (((hU x0).length:Int) == 0))) 3).bind fun v24=>
     (lG s1.1 2).bind fun v25=>
      (wR [v24,v25]).bind fun v26=>
       if ((v26 != 0) || (!(x1 == 5)))=true then
        some v26
        else if (a1 == 3)=true then
         some 16
         else (lG (decide (((hU x0).length:Int)>0)) 10).bind fun v27=>
          (lG (decide (((hU x0).length:Int)≤12)) 8).bind fun v28=>
           (wR [v27,v28]).bind fun v29=>
            if (v29 != 0)=true then
             some v29
             else aS (QH sW x0 a1) 1000000000 0
    else if (x1 == 3)=true then
     (lG ((x3 == 0) && ((x1 == 5) || (((hU x0).length:Int) == 0))) 3).bind fun v32=>
      (lG s1.1 2).bind fun v33=>
       (wR [v32,v33]).bind fun v34=>
        if ((v34 != 0) || (!(x1 == 5)))=true then
         some v34
         else if (a1 == 3)=true then
          some 16
          else (lG (decide (((hU x0).length:Int)>0)) 10).bind fun v35=>
           (lG (decide (((hU x0).length:Int)≤12)) 8).bind fun v36=>
            (wR [v35,v36]).bind fun v37=>
             if (v37 != 0)=true then
              some v37
              else aS (QG sW x0 a1) 1000000000 0
     else if (x1 == 4)=true then
      (lG ((x2 == 0) && ((x1 == 5) || (((hU x0).length:Int) == 0))) 3).bind fun v40=>
       (lG s1.1 2).bind fun v41=>
        (wR [v40,v41]).bind fun v42=>
         if ((v42 != 0) || (!(x1 == 5)))=true then
          some v42
          else if (a1 == 3)=true then
           some 16
           else (lG (decide (((hU x0).length:Int)>0)) 10).bind fun v43=>
            (lG (decide (((hU x0).length:Int)≤12)) 8).bind fun v44=>
             (wR [v43,v44]).bind fun v45=>
              if (v45 != 0)=true then
               some v45
               else aS (QF sW x0 a1) 1000000000 0
      else (lG ((((x2 == 0) && (x3 == 0)) && (x4 == 0)) && ((x1 == 5) || (((hU x0).length:Int) == 0))) 3).bind fun v48=>
       (lG s1.1 2).bind fun v49=>
        (wR [v48,v49]).bind fun v50=>
         if ((v50 != 0) || (!(x1 == 5)))=true then
          some v50
          else if (a1 == 3)=true then
           some 16
           else (lG (decide (((hU x0).length:Int)>0)) 10).bind fun v51=>
            (lG (decide (((hU x0).length:Int)≤12)) 8).bind fun v52=>
             (wR [v51,v52]).bind fun v53=>
              if (v53 != 0)=true then
               some v53
               else aS (QE sW x0 a1) 1000000000 0)
def arn (lv:Nat) (sW:Int→Int→Int→Int→Int→Hl→Int→Option (Int)) (x1 x2 x3 x5 x4:Int) (x0:Hl) (a1:Int):Option (Int):=
 (Ea x1 0 5).bind fun v1=>
  if (!v1)=true then
   some 15
   else (ag7 x1).bind fun v2=>
    aS (QJ sW x1 x2 x3 x5 x4 x0 a1 v2) 1000000000 (true,0)
def BI:(ix:Nat)→Int→Int→Int→Int→Int→Hl→Int→Option (Int)
 | 0=>fun _ _ _ _ _ _ _=>none
 | lv+1=>arn lv (BI lv)
@[go_sem] def ae5 (ix:Nat):=arh lF false (BI ix)
@[go_sem] def amR (lv:Nat) (k:Nat):=lk [(37,T37.sp),(38,T38.sp),(39,T39.sp),(145,(ae5 lv).sp),(184,aun.sp),(205,auc.sp),(206,aub.sp),(207,aua.sp),(208,at7.sp)] k
theorem pz (lv:Nat) (h:aF Tryz.prog 145 (ae5 lv).sp):fE Tryz.prog (amR lv):= .cons f37 (.cons f38 (.cons f39 (.cons h (.cons f184 (.cons f205 (.cons f206 (.cons f207 (.cons f208 .nil))))))))
theorem f145 (ix:Nat):aF Tryz.prog 145 (ae5 ix).sp:=by
 induction ix with
 | zero=>exact aeo Tryz.func145 (by decide) rfl (fun ⟨x1,x2,x3,x5,x4,x0,a1⟩ h=>Bool.false_ne_true h)
 | succ lv ih=>
 refine Q8 bT (pz lv ih) Tryz.func145 rfl Tryz.ntmps145 fun ⟨x1,x2,x3,x5,x4,x0,a1⟩ r hr=>⟨nL rfl,fun stop S=> ?_⟩
 replace hr:=(GY x1 x2 x3 x5 x4 x0 a1 (BI (lv+1))).symm.trans hr
 rw [BI] at hr
 unfold arn at hr
 refine S.gx [26,7,21] ?_
 obtain ⟨v1,hv1,hr⟩:=aA hr
 refine gb hv1 ?_
 refine iW hr (fun hc hr=>D0 hr) fun hc hr=> ?_
 obtain ⟨v2,hv2,hr⟩:=aA hr
 refine gb hv2 ?_
 refine S.sees [1,2,5,6,19,20,21] [(2,2),(5,5)] [(19,19)] ?_ (Stop.iter S (fun s1=>⟨[(1,.c (.d (.int .i64 a1))),(2,.c (.ref 2 0)),(5,.c (.ref 5 0)),(6,.c (.d (.bool s1.1))),(19,.c (.own 19)),(20,.c (.d (.int .i64 (v2.length:Int)))),(21,.c (.d (.int .i64 s1.2)))],[(2,[.d (.int .i64 x1),.d (.int .i64 x2),.d (.int .i64 x3),.d (.int .i64 x5),.d (.int .i64 x4),.d (hE x0)]),(5,[.d (.int .i64 x1),.d (.int .i64 x2),.d (.int .i64 x3),.d (.int .i64 x5),.d (.int .i64 x4),.d (hE x0)])],[(19,.owned (ah 3 uO v2))]⟩) (QJ (BI lv) x1 x2 x3 x5 x4 x0 a1 v2) (fun q=>q=r) hr rfl ?_)
 ·exact lf
 ·intro s1 hr
  unfold QJ at hr
  refine S.gx [26,7,21] ?_
  refine gr ?_
  refine dN hr (fun hc hr=> ?_) fun hc hr=> ?_
  ·obtain ⟨Pg,hr⟩:=aC hr
   refine gr ?_
   by_cases O7:(v2.getD s1.2.toNat default).1=205
   ·rw [if_pos O7] at hr
    simp only [O7]
    refine S.gx [26,21] ?_
    obtain ⟨IE,hr⟩:=aC hr
    obtain ⟨Z8,hr⟩:=aC hr
    repeat (first | refine gG IE ?_ | refine gG Z8 ?_ | refine gA ?_ | refine gB ?_)
    exact D1 (S.ss [1,2,5,6,19,20,21] [(2,2),(5,5)] [(19,19)]) hr
   ·rw [if_neg O7] at hr
    by_cases hs9:(v2.getD s1.2.toNat default).1=206
    ·rw [if_pos hs9] at hr
     simp only [hs9]
     refine S.gx [26,21] ?_
     obtain ⟨vH,hr⟩:=aC hr
     obtain ⟨CQ,hr⟩:=aC hr
     repeat (first | refine gG vH ?_ | refine gG CQ ?_ | refine gA ?_ | refine gB ?_)
     exact D1 (S.ss [1,2,5,6,19,20,21] [(2,2),(5,5)] [(19,19)]) hr
    ·rw [if_neg hs9] at hr
     by_cases hs6:(v2.getD s1.2.toNat default).1=207
     ·rw [if_pos hs6] at hr
      simp only [hs6]
      refine S.gx [26,21] ?_
      obtain ⟨XT,hr⟩:=aC hr
      obtain ⟨NG,hr⟩:=aC hr
      repeat (first | refine gG XT ?_ | refine gG NG ?_ | refine gA ?_ | refine gB ?_)
      exact D1 (S.ss [1,2,5,6,19,20,21] [(2,2),(5,5)] [(19,19)]) hr
     ·rw [if_neg hs6] at hr
      by_cases hs3:(v2.getD s1.2.toNat default).1=208
      ·rw [if_pos hs3] at hr
       simp only [hs3]
       refine S.gx [26,21] ?_
       obtain ⟨hg4,hr⟩:=aC hr
       obtain ⟨hg5,hr⟩:=aC hr
       repeat (first | refine gG hg4 ?_ | refine gG hg5 ?_ | refine gA ?_ | refine gB ?_)
       exact D1 (S.ss [1,2,5,6,19,20,21] [(2,2),(5,5)] [(19,19)]) hr
      ·rw [if_neg hs3] at hr
       first | cases hr | exact hr.elim
  ·refine gr ?_
   have hr:=bK hr
   refine gr ?_
   refine iW hr (fun hc hr=> ?_) fun hc hr=> ?_
   ·repeat (first | refine gA ?_ | refine gB ?_)
    refine S.prune [1,2,6,9,10] ?_
    refine S.gx [26,7] ?_
    obtain ⟨v16,ZU,hr⟩:=aA hr
    obtain ⟨v17,O4,hr⟩:=aA hr
    obtain ⟨v18,O1,hr⟩:=aA hr
    refine gb ZU ?_
    refine gb O4 ?_
    refine gb O1 ?_
    repeat (first | refine gA ?_ | refine gB ?_)
    refine iW hr (fun hc hr=>D0 hr) fun hc hr=> ?_
    refine gr ?_
    refine iW hr (fun hc hr=>D0 hr) fun hc hr=> ?_
    refine gr ?_
    refine S.inl 4 [11] [] Tryz.func101 (by decide) rfl Tryz.ntmps101 (fun cx e=>aV bT (pz lv ih) cx e) (some 109) rfl rfl rfl rfl (nL rfl) (nL rfl) ?_
    refine gs ?_
    refine gr ?_
    intro stop1 S1
    refine S1.gx [] ?_
    obtain ⟨v19,OZ,hr⟩:=aA hr
    obtain ⟨v20,IB,hr⟩:=aA hr
    obtain ⟨v21,ZT,hr⟩:=aA hr
    refine gb OZ ?_
    refine gb IB ?_
    refine gb ZT ?_
    refine iW hr (fun hc hr=> ?_) fun hc hr=> ?_
    ·refine gr ?_
     refine gr ?_
     refine S.gx [26,7,21] ?_
     exact D0 hr
    ·refine gr ?_
     refine S1.sees [1,23,24,25] [] [] ?_ (Stop.iter S1 (fun s2=>⟨[(1,.c (.d (.int .i64 (IntKind.i64.wrap (a1+1))))),(23,.c (.d (ah 6 bD (hU x0)))),(24,.c (.d (.int .i64 ((hU x0).length:Int)))),(25,.c (.d (.int .i64 s2)))],[],[]⟩) (QI (BI lv) x0 a1) (fun q=>q=r) hr rfl ?_)
     ·exact lf
     ·intro s2 hr
      unfold QI at hr
      refine S1.gx [] ?_
      refine gr ?_
      refine dN hr (fun hc hr=> ?_) fun hc hr=> ?_
      ·obtain ⟨aiO,hr⟩:=aC hr
       obtain ⟨v22,ZR,hr⟩:=aQ hr
       refine gb ZR ?_
       refine dN hr (fun hc hr=> ?_) fun hc hr=>D1 (S1.ss [1,23,24,25] [] []) hr
       refine gr ?_
       have hr:=bK hr
       refine gr ?_
       refine S.gx [26,7,21] ?_
       exact D0 hr
      ·refine gr ?_
       have hr:=bK hr
       refine gr ?_
       refine gr ?_
       refine S.gx [26,7,21] ?_
       exact D0 hr
   ·refine gr ?_
    refine iW hr (fun hc hr=> ?_) fun hc hr=> ?_
    ·repeat (first | refine gA ?_ | refine gB ?_)
     refine S.prune [1,2,6,9,10] ?_
     refine S.gx [26,7] ?_
     obtain ⟨v24,hv24,hr⟩:=aA hr
     obtain ⟨v25,hv25,hr⟩:=aA hr
     obtain ⟨v26,ZQ,hr⟩:=aA hr
     refine gb hv24 ?_
     refine gb hv25 ?_
     refine gb ZQ ?_
     repeat (first | refine gA ?_ | refine gB ?_)
     refine iW hr (fun hc hr=>D0 hr) fun hc hr=> ?_
     refine gr ?_
     refine iW hr (fun hc hr=>D0 hr) fun hc hr=> ?_
     refine gr ?_
     refine S.inl 4 [11] [] Tryz.func101 (by decide) rfl Tryz.ntmps101 (fun cx e=>aV bT (pz lv ih) cx e) (some 109) rfl rfl rfl rfl (nL rfl) (nL rfl) ?_
     refine gs ?_
     refine gr ?_
     intro stop1 S1
     refine S1.gx [] ?_
     obtain ⟨v27,hv27,hr⟩:=aA hr
     obtain ⟨v28,hv28,hr⟩:=aA hr
     obtain ⟨v29,hv29,hr⟩:=aA hr
     refine gb hv27 ?_
     refine gb hv28 ?_
     refine gb hv29 ?_
     refine iW hr (fun hc hr=> ?_) fun hc hr=> ?_
     ·refine gr ?_
      refine gr ?_
      refine S.gx [26,7,21] ?_
      exact D0 hr
     ·refine gr ?_
      refine S1.sees [1,23,24,25] [] [] ?_ (Stop.iter S1 (fun s3=>⟨[(1,.c (.d (.int .i64 (IntKind.i64.wrap (a1+1))))),(23,.c (.d (ah 6 bD (hU x0)))),(24,.c (.d (.int .i64 ((hU x0).length:Int)))),(25,.c (.d (.int .i64 s3)))],[],[]⟩) (QH (BI lv) x0 a1) (fun q=>q=r) hr rfl ?_)
      ·exact lf
      ·intro s3 hr
       unfold QH at hr
       refine S1.gx [] ?_
       refine gr ?_
       refine dN hr (fun hc hr=> ?_) fun hc hr=> ?_
       ·obtain ⟨aFl,hr⟩:=aC hr
        obtain ⟨v30,az1,hr⟩:=aQ hr
        refine gb az1 ?_
        refine dN hr (fun hc hr=> ?_) fun hc hr=>D1 (S1.ss [1,23,24,25] [] []) hr
        refine gr ?_
        have hr:=bK hr
        refine gr ?_
        refine S.gx [26,7,21] ?_
        exact D0 hr
       ·refine gr ?_
        have hr:=bK hr
        refine gr ?_
        refine gr ?_
        refine S.gx [26,7,21] ?_
        exact D0 hr
    ·refine gr ?_
     refine iW hr (fun hc hr=> ?_) fun hc hr=> ?_
     ·repeat (first | refine gA ?_ | refine gB ?_)
      refine S.prune [1,2,6,9,10] ?_
      refine S.gx [26,7] ?_
      obtain ⟨v32,hv32,hr⟩:=aA hr
      obtain ⟨v33,ZP,hr⟩:=aA hr
      obtain ⟨v34,hv34,hr⟩:=aA hr
      refine gb hv32 ?_
      refine gb ZP ?_
      refine gb hv34 ?_
      repeat (first | refine gA ?_ | refine gB ?_)
      refine iW hr (fun hc hr=>D0 hr) fun hc hr=> ?_
      refine gr ?_
      refine iW hr (fun hc hr=>D0 hr) fun hc hr=> ?_
      refine gr ?_
      refine S.inl 4 [11] [] Tryz.func101 (by decide) rfl Tryz.ntmps101 (fun cx e=>aV bT (pz lv ih) cx e) (some 109) rfl rfl rfl rfl (nL rfl) (nL rfl) ?_
      refine gs ?_
      refine gr ?_
      intro stop1 S1
      refine S1.gx [] ?_
      obtain ⟨v35,aiy,hr⟩:=aA hr
      obtain ⟨v36,az0,hr⟩:=aA hr
      obtain ⟨v37,aix,hr⟩:=aA hr
      refine gb aiy ?_
      refine gb az0 ?_
      refine gb aix ?_
      refine iW hr (fun hc hr=> ?_) fun hc hr=> ?_
      ·refine gr ?_
       refine gr ?_
       refine S.gx [26,7,21] ?_
       exact D0 hr
      ·refine gr ?_
       refine S1.sees [1,23,24,25] [] [] ?_ (Stop.iter S1 (fun s4=>⟨[(1,.c (.d (.int .i64 (IntKind.i64.wrap (a1+1))))),(23,.c (.d (ah 6 bD (hU x0)))),(24,.c (.d (.int .i64 ((hU x0).length:Int)))),(25,.c (.d (.int .i64 s4)))],[],[]⟩) (QG (BI lv) x0 a1) (fun q=>q=r) hr rfl ?_)
       ·exact lf
       ·intro s4 hr
        unfold QG at hr
        refine S1.gx [] ?_
        refine gr ?_
        refine dN hr (fun hc hr=> ?_) fun hc hr=> ?_
        ·obtain ⟨aAb,hr⟩:=aC hr
         obtain ⟨v38,hv38,hr⟩:=aQ hr
         refine gb hv38 ?_
         refine dN hr (fun hc hr=> ?_) fun hc hr=>D1 (S1.ss [1,23,24,25] [] []) hr
         refine gr ?_
         have hr:=bK hr
         refine gr ?_
         refine S.gx [26,7,21] ?_
         exact D0 hr
        ·refine gr ?_
         have hr:=bK hr
         refine gr ?_
         refine gr ?_
         refine S.gx [26,7,21] ?_
         exact D0 hr
     ·refine gr ?_
      refine iW hr (fun hc hr=> ?_) fun hc hr=> ?_
      ·repeat (first | refine gA ?_ | refine gB ?_)
       refine S.prune [1,2,6,9,10] ?_
       refine S.gx [26,7] ?_
       obtain ⟨v40,azZ,hr⟩:=aA hr
       obtain ⟨v41,azY,hr⟩:=aA hr
       obtain ⟨v42,azX,hr⟩:=aA hr
       refine gb azZ ?_
       refine gb azY ?_
       refine gb azX ?_
       repeat (first | refine gA ?_ | refine gB ?_)
       refine iW hr (fun hc hr=>D0 hr) fun hc hr=> ?_
       refine gr ?_
       refine iW hr (fun hc hr=>D0 hr) fun hc hr=> ?_
       refine gr ?_
       refine S.inl 4 [11] [] Tryz.func101 (by decide) rfl Tryz.ntmps101 (fun cx e=>aV bT (pz lv ih) cx e) (some 109) rfl rfl rfl rfl (nL rfl) (nL rfl) ?_
       refine gs ?_
       refine gr ?_
       intro stop1 S1
       refine S1.gx [] ?_
       obtain ⟨v43,azW,hr⟩:=aA hr
       obtain ⟨v44,azV,hr⟩:=aA hr
       obtain ⟨v45,azU,hr⟩:=aA hr
       refine gb azW ?_
       refine gb azV ?_
       refine gb azU ?_
       refine iW hr (fun hc hr=> ?_) fun hc hr=> ?_
       ·refine gr ?_
        refine gr ?_
        refine S.gx [26,7,21] ?_
        exact D0 hr
       ·refine gr ?_
        refine S1.sees [1,23,24,25] [] [] ?_ (Stop.iter S1 (fun s5=>⟨[(1,.c (.d (.int .i64 (IntKind.i64.wrap (a1+1))))),(23,.c (.d (ah 6 bD (hU x0)))),(24,.c (.d (.int .i64 ((hU x0).length:Int)))),(25,.c (.d (.int .i64 s5)))],[],[]⟩) (QF (BI lv) x0 a1) (fun q=>q=r) hr rfl ?_)
        ·exact lf
        ·intro s5 hr
         unfold QF at hr
         refine S1.gx [] ?_
         refine gr ?_
         refine dN hr (fun hc hr=> ?_) fun hc hr=> ?_
         ·obtain ⟨aFg,hr⟩:=aC hr
          obtain ⟨v46,aiw,hr⟩:=aQ hr
          refine gb aiw ?_
          refine dN hr (fun hc hr=> ?_) fun hc hr=>D1 (S1.ss [1,23,24,25] [] []) hr
          refine gr ?_
          have hr:=bK hr
          refine gr ?_
          refine S.gx [26,7,21] ?_
          exact D0 hr
         ·refine gr ?_
          have hr:=bK hr
          refine gr ?_
          refine gr ?_
          refine S.gx [26,7,21] ?_
          exact D0 hr
      ·repeat (first | refine gA ?_ | refine gB ?_)
       refine S.prune [1,2,6,9,10] ?_
       refine S.gx [26,7] ?_
       obtain ⟨v48,aiv,hr⟩:=aA hr
       obtain ⟨v49,aiu,hr⟩:=aA hr
       obtain ⟨v50,azS,hr⟩:=aA hr
       refine gb aiv ?_
       refine gb aiu ?_
       refine gb azS ?_
       repeat (first | refine gA ?_ | refine gB ?_)
       refine iW hr (fun hc hr=>D0 hr) fun hc hr=> ?_
       refine gr ?_
       refine iW hr (fun hc hr=>D0 hr) fun hc hr=> ?_
       refine gr ?_
       refine S.inl 4 [11] [] Tryz.func101 (by decide) rfl Tryz.ntmps101 (fun cx e=>aV bT (pz lv ih) cx e) (some 109) rfl rfl rfl rfl (nL rfl) (nL rfl) ?_
       refine gs ?_
       refine gr ?_
       intro stop1 S1
       refine S1.gx [] ?_
       obtain ⟨v51,azR,hr⟩:=aA hr
       obtain ⟨v52,azQ,hr⟩:=aA hr
       obtain ⟨v53,azP,hr⟩:=aA hr
       refine gb azR ?_
       refine gb azQ ?_
       refine gb azP ?_
       refine iW hr (fun hc hr=> ?_) fun hc hr=> ?_
       ·refine gr ?_
        refine gr ?_
        refine S.gx [26,7,21] ?_
        exact D0 hr
       ·refine gr ?_
        refine S1.sees [1,23,24,25] [] [] ?_ (Stop.iter S1 (fun s6=>⟨[(1,.c (.d (.int .i64 (IntKind.i64.wrap (a1+1))))),(23,.c (.d (ah 6 bD (hU x0)))),(24,.c (.d (.int .i64 ((hU x0).length:Int)))),(25,.c (.d (.int .i64 s6)))],[],[]⟩) (QE (BI lv) x0 a1) (fun q=>q=r) hr rfl ?_)
        ·exact lf
        ·intro s6 hr
         unfold QE at hr
         refine S1.gx [] ?_
         refine gr ?_
         refine dN hr (fun hc hr=> ?_) fun hc hr=> ?_
         ·obtain ⟨aFb,hr⟩:=aC hr
          obtain ⟨v54,azO,hr⟩:=aQ hr
          refine gb azO ?_
          refine dN hr (fun hc hr=> ?_) fun hc hr=>D1 (S1.ss [1,23,24,25] [] []) hr
          refine gr ?_
          have hr:=bK hr
          refine gr ?_
          refine S.gx [26,7,21] ?_
          exact D0 hr
         ·refine gr ?_
          have hr:=bK hr
          refine gr ?_
          refine gr ?_
          refine S.gx [26,7,21] ?_
          exact D0 hr
def abC (a0:bC):Bd Int (Int×Int):=fun s1=>
 if (decide (s1<(a0.length:Int)))=true then
  if 0≤s1∧s1<(a0.length:Int) then
   aP (BI 7 ((a0.getD s1.toNat default).1) ((a0.getD s1.toNat default).2.1) ((a0.getD s1.toNat default).2.2.1) ((a0.getD s1.toNat default).2.2.2.1) ((a0.getD s1.toNat default).2.2.2.2.1) ((a0.getD s1.toNat default).2.2.2.2.2) 0) fun v10=>
    if (v10 != 0)=true then
     .out (if (v10 != 0)=true then
      some (s1,v10)
      else (r93 a0).bind fun v11=>
       (lG (decide ((v11.length:Int)≤60)) 8).bind fun v12=>
        if 0≤IntKind.i64.wrap ((v11.length:Int) - 1)∧IntKind.i64.wrap ((v11.length:Int) - 1)<(v11.length:Int) then
         (r94 ((v11.getD (IntKind.i64.wrap ((v11.length:Int) - 1)).toNat default).1)).bind fun v13=>
          (lG v13 20).bind fun v14=>
           (wR [v12,v14]).bind fun v15=>
            some (0,v15)
         else none)
     else .next (IntKind.i64.wrap (s1+1))
   else .out none
  else .out ((r93 a0).bind fun v18=>
   (lG (decide ((v18.length:Int)≤60)) 8).bind fun v19=>
    if 0≤IntKind.i64.wrap ((v18.length:Int) - 1)∧IntKind.i64.wrap ((v18.length:Int) - 1)<(v18.length:Int) then
     (r94 ((v18.getD (IntKind.i64.wrap ((v18.length:Int) - 1)).toNat default).1)).bind fun v20=>
      (lG v20 20).bind fun v21=>
       (wR [v19,v21]).bind fun v22=>
        some (0,v22)
     else none)
def r70 (a0:bC):Option (Int×Int):=
 (lG (decide ((a0.length:Int)>0)) 10).bind fun v1=>
  (lG (decide ((a0.length:Int)≤12)) 8).bind fun v2=>
   (wR [v1,v2]).bind fun v3=>
    if (v3 != 0)=true then
     if (v3 != 0)=true then
      some (0,v3)
      else (r93 a0).bind fun v4=>
       (lG (decide ((v4.length:Int)≤60)) 8).bind fun v5=>
        if 0≤IntKind.i64.wrap ((v4.length:Int) - 1)∧IntKind.i64.wrap ((v4.length:Int) - 1)<(v4.length:Int) then
         (r94 ((v4.getD (IntKind.i64.wrap ((v4.length:Int) - 1)).toNat default).1)).bind fun v6=>
          (lG v6 20).bind fun v7=>
           (wR [v5,v7]).bind fun v8=>
            some (0,v8)
         else none
     else aS (abC a0) 1000000000 0
@[go_sem] def T70:=adP JB false r70
@[go_sem] def amg (k:Nat):=lk [(38,T38.sp),(39,T39.sp),(93,T93.sp),(94,T94.sp),(145,(ae5 7).sp)] k
theorem ac8:fE Tryz.prog amg:= .cons f38 (.cons f39 (.cons f93 (.cons f94 (.cons (f145 7) .nil))))
theorem f70:aF Tryz.prog 70 T70.sp:=by
 refine vm (tb:=amg) (.cons f38 (.cons f39 (.cons f93 (.cons f94 (.cons (f145 7) .nil))))) Tryz.func70 Tryz.ntmps70 fun a0 r hr stop S=> ?_
 rw [qU,r70] at hr
 refine S.gx [1] ?_
 refine gr ?_
 refine S.inl 1 [0] [] Tryz.func101 (by decide) rfl Tryz.ntmps101 (fun cx e=>aV bT ac8 cx e) (some 9) rfl rfl rfl rfl (nL rfl) (nL rfl) ?_
 refine gs ?_
 refine gr ?_
 intro stop1 S1
 refine S1.gx [] ?_
 obtain ⟨v1,hv1,hr⟩:=aA hr
 obtain ⟨v2,hv2,hr⟩:=aA hr
 obtain ⟨v3,hv3,hr⟩:=aA hr
 refine gb hv1 ?_
 refine gb hv2 ?_
 refine gb hv3 ?_
 refine iW hr (fun hc hr=> ?_) fun hc hr=> ?_
 ·refine gr ?_
  refine gr ?_
  refine S.gx [1] ?_
  exact D0 hr
 ·refine gr ?_
  refine S1.sees [1,23,24,25] [] [] ?_ (Stop.iter S1 (fun s1=>⟨[(1,.c (.d (.int .i64 0))),(23,.c (.d (ah 6 bD a0))),(24,.c (.d (.int .i64 (a0.length:Int)))),(25,.c (.d (.int .i64 s1)))],[],[]⟩) (abC a0) (fun q=>q=r) hr rfl ?_)
  ·exact lf
  ·intro s1 hr
   unfold abC at hr
   refine S1.gx [] ?_
   refine gr ?_
   refine dN hr (fun hc hr=> ?_) fun hc hr=> ?_
   ·obtain ⟨aiQ,hr⟩:=aC hr
    obtain ⟨v10,yF,hr⟩:=aQ hr
    refine gb yF ?_
    refine dN hr (fun hc hr=> ?_) fun hc hr=>D1 (S1.ss [1,23,24,25] [] []) hr
    refine gr ?_
    have hr:=bK hr
    refine gr ?_
    refine S.gx [1] ?_
    exact D0 hr
   ·refine gr ?_
    have hr:=bK hr
    refine gr ?_
    refine gr ?_
    refine S.gx [1] ?_
    exact D0 hr
def r62 (a0:bC):Option (bC×Int):=
 (r70 a0).bind fun v1=>
  if (v1.2 != 0)=true then
   some ([],v1.2)
   else (r93 a0).bind fun v2=>
    some (v2,0)
@[go_sem] def T62:=adP apd true r62
@[go_sem] def ayn (k:Nat):=lk [(70,T70.sp),(93,T93.sp)] k
theorem f62:aF Tryz.prog 62 T62.sp:=by
 refine vm (tb:=ayn) (.cons f70 (.cons f93 .nil)) Tryz.func62 Tryz.ntmps62 fun a0 r hr stop S=> ?_
 rw [qU,r62] at hr
 refine S.gx [] ?_
 exact D0 hr
def r43 (x1 x2:Int) (x3:au) (x0:aj) (x4 x5:aZ) (x6:au) (x7 x8:Int):Option (Int):=
 some (IntKind.i64.wrap ((x0.length:Int) - 1))
@[go_sem] def T43:=Ky lF false r43
theorem f43:aF Tryz.prog 43 T43.sp:=by
 refine vm .nil Tryz.func43 Tryz.ntmps43 fun ⟨x1,x2,x3,x0,x4,x5,x6,x7,x8⟩ r hr stop S=> ?_
 rw [NC,r43] at hr
 refine S.gx [] ?_
 exact D0 hr
def yg (x1 x2:Int) (x3:au) (x4:aj) (x0:au) (x5:aj) (a1:Int):Option (Int×Int):=
 (zV x0 a1 1).bind fun v1=>
  some (v1.1,v1.2)
@[go_sem] def ae3:=adQ qu7 false yg
@[go_sem] def amK (k:Nat):=lk [(122,ae6.sp)] k
theorem f157:aF Tryz.prog 157 ae3.sp:=by
 refine vm (tb:=amK) (.cons f122 .nil) Tryz.func157 Tryz.ntmps157 fun ⟨x1,x2,x3,x4,x0,x5,a1⟩ r hr stop S=> ?_
 rw [GY,yg] at hr
 refine S.gx [] ?_
 exact D0 hr
def D5:Bd (Int×Int) Int:=fun s1=>
 if (s1.2 != 0)=true then
  if s1.2≠0 then
   .next (s1.2,s1.1.tmod s1.2)
   else .out none
  else .out (some (if s1.1<IntKind.i64.wrap (0 - s1.1) then IntKind.i64.wrap (0 - s1.1) else s1.1))
def V5 (a0 a1:Int):Option (Int):=
 aS (D5) 1000000000 (a0,a1)
@[go_sem] def auH:=qT7 lF false V5
theorem f158:aF Tryz.prog 158 auH.sp:=by
 refine vm .nil Tryz.func158 Tryz.ntmps158 fun ⟨a0,a1⟩ r hr stop S=> ?_
 rw [wo,V5] at hr
 refine S.gx [] ?_
 refine gr ?_
 refine S.sees [0,1] [] [] ?_ (Stop.iter S (fun s1=>⟨[(0,.c (.d (.int .i64 s1.1))),(1,.c (.d (.int .i64 s1.2)))],[],[]⟩) (D5) (fun q=>q=r) hr rfl ?_)
 ·exact lf
 ·intro s1 hr
  unfold D5 at hr
  refine S.gx [] ?_
  exact D1 (S.ss [0,1] [] []) hr
def OC (x0 x1:Int) (x2:au) (x3:aj) (a1:Int):Option (Int×Int×Int):=
 (r86 x0 x1 x2 x3).bind fun v1=>
  if (v1.2.2.2.2.2.2 == 0)=true then
   (Oy v1.1 v1.2.1 v1.2.2.1 v1.2.2.2.1 v1.2.2.2.2.1 v1.2.2.2.2.2.1 a1).bind fun v2=>
    (nM v2 2).bind fun v3=>
     if (v3 != 0)=true then
      some (0,0,v3)
      else (yg v1.1 v1.2.1 v1.2.2.1 v1.2.2.2.1 v1.2.2.2.2.1 v1.2.2.2.2.2.1 a1).bind fun v4=>
       (V5 v4.1 v4.2).bind fun v5=>
        if v5≠0 then
         if v5≠0 then
          some (IntKind.i64.wrap (v4.1.tdiv v5),IntKind.i64.wrap (v4.2.tdiv v5),0)
          else none
         else none
   else if (v1.2.2.2.2.2.2 != 0)=true then
    some (0,0,v1.2.2.2.2.2.2)
    else (yg v1.1 v1.2.1 v1.2.2.1 v1.2.2.2.1 v1.2.2.2.2.1 v1.2.2.2.2.2.1 a1).bind fun v8=>
     (V5 v8.1 v8.2).bind fun v9=>
      if v9≠0 then
       if v9≠0 then
        some (IntKind.i64.wrap (v8.1.tdiv v9),IntKind.i64.wrap (v8.2.tdiv v9),0)
        else none
       else none
@[go_sem] def ajz:=adO apc false OC
@[go_sem] def anc (k:Nat):=lk [(86,T86.sp),(118,Js.sp),(156,ae4.sp),(157,ae3.sp),(158,auH.sp)] k
theorem f110:aF Tryz.prog 110 ajz.sp:=by
 refine vm (tb:=anc) (.cons f86 (.cons f118 (.cons f156 (.cons f157 (.cons f158 .nil))))) Tryz.func110 Tryz.ntmps110 fun ⟨x0,x1,x2,x3,a1⟩ r hr stop S=> ?_
 rw [uq5,OC] at hr
 refine S.gx [] ?_
 exact D0 hr
def r78 (x0 x1:Int) (x2:au) (x3:aj) (x4 x5:aZ) (x6:au) (x7 x8 a1 a2:Int):Option (Int):=
 (OC x0 x1 x2 x3 a1).bind fun v1=>
  some (IntKind.i64.wrap (v1.1 - (IntKind.i64.wrap (a2*v1.2.1))))
@[go_sem] def T78:=adN lF false r78
@[go_sem] def ayf (k:Nat):=lk [(110,ajz.sp)] k
theorem f78:aF Tryz.prog 78 T78.sp:=by
 refine vm (tb:=ayf) (.cons f110 .nil) Tryz.func78 Tryz.ntmps78 fun ⟨x0,x1,x2,x3,x4,x5,x6,x7,x8,a1,a2⟩ r hr stop S=> ?_
 rw [X3,r78] at hr
 refine S.gx [] ?_
 exact D0 hr
def r88 (x0 x1:Int):Option (Int):=
 some x0
@[go_sem] def T88:=OD lF false r88
theorem f88:aF Tryz.prog 88 T88.sp:=by
 refine vm .nil Tryz.func88 Tryz.ntmps88 fun ⟨x0,x1⟩ r hr stop S=> ?_
 rw [wo,r88] at hr
 refine S.gx [] ?_
 exact D0 hr
def r75 (x0 x1:Int):Option (Int):=
 some (IntKind.i64.wrap ((IntKind.i64.wrap (x0+x1)).tdiv 2))
@[go_sem] def T75:=OD lF false r75
theorem f75:aF Tryz.prog 75 T75.sp:=by
 refine vm .nil Tryz.func75 Tryz.ntmps75 fun ⟨x0,x1⟩ r hr stop S=> ?_
 rw [wo,r75] at hr
 refine S.gx [] ?_
 exact D0 hr
def r89 (x1 x0:Int):Option (Int):=
 some x0
@[go_sem] def T89:=OD lF false r89
theorem f89:aF Tryz.prog 89 T89.sp:=by
 refine vm .nil Tryz.func89 Tryz.ntmps89 fun ⟨x1,x0⟩ r hr stop S=> ?_
 rw [wo,r89] at hr
 refine S.gx [] ?_
 exact D0 hr
end Go.Proofs.YtofkgmldcjagmaaGreatDoor

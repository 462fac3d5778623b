/- Contracts of functions, written by wip/dec. -/
import Derived.Test.YtofkgmldcjagmaaGreatDoorF00
import Derived.Test.YtofkgmldcjagmaaGreatDoorF01
import Derived.Test.YtofkgmldcjagmaaGreatDoorF02
set_option linter.unusedVariables false
set_option linter.unusedSimpArgs false
set_option linter.constructorNameAsVariable false
set_option maxHeartbeats 4000000
set_option maxRecDepth 20000
namespace Go.Proofs.YtofkgmldcjagmaaGreatDoor
open Go.dG
section
variable {β:Type} [Inhabited β] (u:β→List RV) (al:Bool)
def apa (a0 a1 a2 a3 a4:Int) (a5:Hl):List Arg:=[.agg [.int .i64 a0,.int .i64 a1,.int .i64 a2,.int .i64 a3,.int .i64 a4,hE a5]]
def aqQ:List Arg→Int×Int×Int×Int×Int×Hl
 | [.agg [c0,c1,c2,c3,c4,c5]]=>(aB c0,aB c1,aB c2,aB c3,aB c4,hD c5)
 | _=>default
def Zr (r:Int→Int→Int→Int→Int→Hl→Option β):=mkT (u6 apa) aqQ (u6 r) u al
attribute [go_sem] apa aqQ Zr
def ao9 (a0 a1 a2 a3 a4:Int) (a5:Hl) (a6:Int):List Arg:=[.agg [.int .i64 a0,.int .i64 a1,.int .i64 a2,.int .i64 a3,.int .i64 a4,hE a5],.c (.int .i64 a6)]
def aqP:List Arg→Int×Int×Int×Int×Int×Hl×Int
 | [.agg [c0,c1,c2,c3,c4,c5],.c c6]=>(aB c0,aB c1,aB c2,aB c3,aB c4,hD c5,aB c6)
 | _=>default
def arQ (r:Int→Int→Int→Int→Int→Hl→Int→Option β):=mkT (u7 ao9) aqP (u7 r) u al
attribute [go_sem] ao9 aqP arQ
def apO (v:vC):List RV:=[.c (.own (ah 3 uX v))]
attribute [go_sem] apO
def apN (v:bD×Int):List RV:=[.c (.own (ah 6 bF v.1)),.c (.d (.int .i64 v.2))]
attribute [go_sem] apN
def apM (v:Int×Int×Int):List RV:=[.agg [.d (.int .i64 v.1),.d (.int .i64 v.2.1)],.c (.d (.int .i64 v.2.2))]
attribute [go_sem] apM
end
def ahP (a0:Int):Option (vC):=
 if (a0 == 0)=true then
  some [(205,1,10000),(207,1,200)]
  else if (a0 == 1)=true then
   some [(207,1,200)]
   else if (a0 == 2)=true then
    some [(206,0,3),(207,1,200)]
    else if (a0 == 3)=true then
     some [(208,200,3000),(205,1,10000),(207,1,200)]
     else if (a0 == 4)=true then
      some [(208,200,3000),(206,0,3),(207,1,200)]
      else if (a0 == 5)=true then
       some [(207,1,10)]
       else some []
@[go_sem] def auQ:=KT apO true ahP
theorem f184:aF Tryz.prog 184 auQ.sp:=by
 refine vm .nil Tryz.func184 Tryz.ntmps184 fun a0 r hr stop S=> ?_
 rw [rF,ahP] at hr
 refine S.gx [] ?_
 exact D0 hr
def Za (x1 x2 x3 x4 x0:Int) (x5:Hl):Option (Int):=
 some x0
@[go_sem] def auC:=Zr lK false Za
theorem f208:aF Tryz.prog 208 auC.sp:=by
 refine vm .nil Tryz.func208 Tryz.ntmps208 fun ⟨x1,x2,x3,x4,x0,x5⟩ r hr stop S=> ?_
 rw [YA,Za] at hr
 refine S.gx [] ?_
 exact D0 hr
def Zb (x1 x2 x3 x0 x4:Int) (x5:Hl):Option (Int):=
 some x0
@[go_sem] def auD:=Zr lK false Zb
theorem f207:aF Tryz.prog 207 auD.sp:=by
 refine vm .nil Tryz.func207 Tryz.ntmps207 fun ⟨x1,x2,x3,x0,x4,x5⟩ r hr stop S=> ?_
 rw [YA,Zb] at hr
 refine S.gx [] ?_
 exact D0 hr
def Zc (x1 x2 x0 x3 x4:Int) (x5:Hl):Option (Int):=
 some x0
@[go_sem] def auE:=Zr lK false Zc
theorem f206:aF Tryz.prog 206 auE.sp:=by
 refine vm .nil Tryz.func206 Tryz.ntmps206 fun ⟨x1,x2,x0,x3,x4,x5⟩ r hr stop S=> ?_
 rw [YA,Zc] at hr
 refine S.gx [] ?_
 exact D0 hr
def Zd (x1 x0 x2 x3 x4:Int) (x5:Hl):Option (Int):=
 some x0
@[go_sem] def auF:=Zr lK false Zd
theorem f205:aF Tryz.prog 205 auF.sp:=by
 refine vm .nil Tryz.func205 Tryz.ntmps205 fun ⟨x1,x0,x2,x3,x4,x5⟩ r hr stop S=> ?_
 rw [YA,Zd] at hr
 refine S.gx [] ?_
 exact D0 hr
def Rh (tK:Int→Int→Int→Int→Int→Hl→Int→Option (Int)) (x0:Hl) (a1:Int):Bd Int Int:=fun s2=>
 if (decide (s2<((hU x0).length:Int)))=true then
  if 0≤s2∧s2<((hU x0).length:Int) then
   aP (tK (((hU x0).getD s2.toNat default).1) (((hU x0).getD s2.toNat default).2.1) (((hU x0).getD s2.toNat default).2.2.1) (((hU x0).getD s2.toNat default).2.2.2.1) (((hU x0).getD s2.toNat default).2.2.2.2.1) (((hU x0).getD s2.toNat default).2.2.2.2.2) (IntKind.i64.wrap (a1+1))) fun v22=>
    if (v22 != 0)=true then
     .out (some v22)
     else .next (IntKind.i64.wrap (s2+1))
   else .out none
  else .out (some 0)
def Rf (tK:Int→Int→Int→Int→Int→Hl→Int→Option (Int)) (x0:Hl) (a1:Int):Bd Int Int:=fun s3=>
 if (decide (s3<((hU x0).length:Int)))=true then
  if 0≤s3∧s3<((hU x0).length:Int) then
   aP (tK (((hU x0).getD s3.toNat default).1) (((hU x0).getD s3.toNat default).2.1) (((hU x0).getD s3.toNat default).2.2.1) (((hU x0).getD s3.toNat default).2.2.2.1) (((hU x0).getD s3.toNat default).2.2.2.2.1) (((hU x0).getD s3.toNat default).2.2.2.2.2) (IntKind.i64.wrap (a1+1))) fun v30=>
    if (v30 != 0)=true then
     .out (some v30)
     else .next (IntKind.i64.wrap (s3+1))
   else .out none
  else .out (some 0)
def Q9 (tK:Int→Int→Int→Int→Int→Hl→Int→Option (Int)) (x0:Hl) (a1:Int):Bd Int Int:=fun s4=>
 if (decide (s4<((hU x0).length:Int)))=true then
  if 0≤s4∧s4<((hU x0).length:Int) then
   aP (tK (((hU x0).getD s4.toNat default).1) (((hU x0).getD s4.toNat default).2.1) (((hU x0).getD s4.toNat default).2.2.1) (((hU x0).getD s4.toNat default).2.2.2.1) (((hU x0).getD s4.toNat default).2.2.2.2.1) (((hU x0).getD s4.toNat default).2.2.2.2.2) (IntKind.i64.wrap (a1+1))) fun v38=>
    if (v38 != 0)=true then
     .out (some v38)
     else .next (IntKind.i64.wrap (s4+1))
   else .out none
  else .out (some 0)
def Q8 (tK:Int→Int→Int→Int→Int→Hl→Int→Option (Int)) (x0:Hl) (a1:Int):Bd Int Int:=fun s5=>
 if (decide (s5<((hU x0).length:Int)))=true then
  if 0≤s5∧s5<((hU x0).length:Int) then
   aP (tK (((hU x0).getD s5.toNat default).1) (((hU x0).getD s5.toNat default).2.1) (((hU x0).getD s5.toNat default).2.2.1) (((hU x0).getD s5.toNat default).2.2.2.1) (((hU x0).getD s5.toNat default).2.2.2.2.1) (((hU x0).getD s5.toNat default).2.2.2.2.2) (IntKind.i64.wrap (a1+1))) fun v46=>
    if (v46 != 0)=true then
     .out (some v46)
     else .next (IntKind.i64.wrap (s5+1))
   else .out none
  else .out (some 0)
def Q7 (tK:Int→Int→Int→Int→Int→Hl→Int→Option (Int)) (x0:Hl) (a1:Int):Bd Int Int:=fun s6=>
 if (decide (s6<((hU x0).length:Int)))=true then
  if 0≤s6∧s6<((hU x0).length:Int) then
   aP (tK (((hU x0).getD s6.toNat default).1) (((hU x0).getD s6.toNat default).2.1) (((hU x0).getD s6.toNat default).2.2.1) (((hU x0).getD s6.toNat default).2.2.2.1) (((hU x0).getD s6.toNat default).2.2.2.2.1) (((hU x0).getD s6.toNat default).2.2.2.2.2) (IntKind.i64.wrap (a1+1))) fun v54=>
    if (v54 != 0)=true then
     .out (some v54)
     else .next (IntKind.i64.wrap (s6+1))
   else .out none
  else .out (some 0)
def Ri (tK:Int→Int→Int→Int→Int→Hl→Int→Option (Int)) (x1 x2 x3 x5 x4:Int) (x0:Hl) (a1:Int) (v2:vC):Bd (Bool×Int) Int:=fun s1=>
 if (decide (s1.2<(v2.length:Int)))=true then
  if 0≤s1.2∧s1.2<(v2.length:Int) then
   if (v2.getD s1.2.toNat default).1=205 then
    if s1.1=true→(Zd x1 x2 x3 x5 x4 x0).isSome=true then
     if s1.1=true→(yJ ((Zd x1 x2 x3 x5 x4 x0).getD default) ((v2.getD s1.2.toNat default).2.1) ((v2.getD s1.2.toNat default).2.2)).isSome=true then
      .next (s1.1 && ((yJ ((Zd x1 x2 x3 x5 x4 x0).getD default) ((v2.getD s1.2.toNat default).2.1) ((v2.getD s1.2.toNat default).2.2)).getD default),IntKind.i64.wrap (s1.2+1))
      else .out none
     else .out none
    else if (v2.getD s1.2.toNat default).1=206 then
     if s1.1=true→(Zc x1 x2 x3 x5 x4 x0).isSome=true then
      if s1.1=true→(yJ ((Zc x1 x2 x3 x5 x4 x0).getD default) ((v2.getD s1.2.toNat default).2.1) ((v2.getD s1.2.toNat default).2.2)).isSome=true then
       .next (s1.1 && ((yJ ((Zc x1 x2 x3 x5 x4 x0).getD default) ((v2.getD s1.2.toNat default).2.1) ((v2.getD s1.2.toNat default).2.2)).getD default),IntKind.i64.wrap (s1.2+1))
       else .out none
      else .out none
     else if (v2.getD s1.2.toNat default).1=207 then
      if s1.1=true→(Zb x1 x2 x3 x5 x4 x0).isSome=true then
       if s1.1=true→(yJ ((Zb x1 x2 x3 x5 x4 x0).getD default) ((v2.getD s1.2.toNat default).2.1) ((v2.getD s1.2.toNat default).2.2)).isSome=true then
        .next (s1.1 && ((yJ ((Zb x1 x2 x3 x5 x4 x0).getD default) ((v2.getD s1.2.toNat default).2.1) ((v2.getD s1.2.toNat default).2.2)).getD default),IntKind.i64.wrap (s1.2+1))
        else .out none
       else .out none
      else if (v2.getD s1.2.toNat default).1=208 then
       if s1.1=true→(Za x1 x2 x3 x5 x4 x0).isSome=true then
        if s1.1=true→(yJ ((Za x1 x2 x3 x5 x4 x0).getD default) ((v2.getD s1.2.toNat default).2.1) ((v2.getD s1.2.toNat default).2.2)).isSome=true then
         .next (s1.1 && ((yJ ((Za x1 x2 x3 x5 x4 x0).getD default) ((v2.getD s1.2.toNat default).2.1) ((v2.getD s1.2.toNat default).2.2)).getD default),IntKind.i64.wrap (s1.2+1))
         else .out none
        else .out none
       else .out none
   else .out none
  else .out (if (x1 == 0)=true then
   (lJ (((x3 == 0) && (x4 == 0)) && ((x1 == 5) || (((hU x0).length:Int) == 0))) 3).bind fun v16=>
    (lJ s1.1 2).bind fun v17=>
     (vP [v16,v17]).bind fun v18=>
      if ((v18 != 0) || (!(x1 == 5)))=true then
       some v18
       else if (a1 == 3)=true then
        some 16
        else (lJ (decide (((hU x0).length:Int)>0)) 10).bind fun v19=>
         (lJ (decide (((hU x0).length:Int)≤12)) 8).bind fun v20=>
          (vP [v19,v20]).bind fun v21=>
           if (v21 != 0)=true then
            some v21
            else aS (Rh tK x0 a1) 1000000000 0
   else if (x1 == 2)=true then
    (lJ (((x2 == 0) && (x4 == 0)) && ((x1 == 5) || (((hU x0).length:Int) == 0))) 3).bind fun v24=>
     (lJ s1.1 2).bind fun v25=>
      (vP [v24,v25]).bind fun v26=>
       if ((v26 != 0) || (!(x1 == 5)))=true then
        some v26
        else if (a1 == 3)=true then
         some 16
         else (lJ (decide (((hU x0).length:Int)>0)) 10).bind fun v27=>
          (lJ (decide (((hU x0).length:Int)≤12)) 8).bind fun v28=>
           (vP [v27,v28]).bind fun v29=>
            if (v29 != 0)=true then
             some v29
             else aS (Rf tK x0 a1) 1000000000 0
    else if (x1 == 3)=true then
     (lJ ((x3 == 0) && ((x1 == 5) || (((hU x0).length:Int) == 0))) 3).bind fun v32=>
      (lJ s1.1 2).bind fun v33=>
       (vP [v32,v33]).bind fun v34=>
        if ((v34 != 0) || (!(x1 == 5)))=true then
         some v34
         else if (a1 == 3)=true then
          some 16
          else (lJ (decide (((hU x0).length:Int)>0)) 10).bind fun v35=>
           (lJ (decide (((hU x0).length:Int)≤12)) 8).bind fun v36=>
            (vP [v35,v36]).bind fun v37=>
             if (v37 != 0)=true then
              some v37
              else aS (Q9 tK x0 a1) 1000000000 0
     else if (x1 == 4)=true then
      (lJ ((x2 == 0) && ((x1 == 5) || (((hU x0).length:Int) == 0))) 3).bind fun v40=>
       (lJ s1.1 2).bind fun v41=>
        (vP [v40,v41]).bind fun v42=>
         if ((v42 != 0) || (!(x1 == 5)))=true then
          some v42
          else if (a1 == 3)=true then
           some 16
           else (lJ (decide (((hU x0).length:Int)>0)) 10).bind fun v43=>
            (lJ (decide (((hU x0).length:Int)≤12)) 8).bind fun v44=>
             (vP [v43,v44]).bind fun v45=>
              if (v45 != 0)=true then
               some v45
               else aS (Q8 tK x0 a1) 1000000000 0
      else (lJ ((((x2 == 0) && (x3 == 0)) && (x4 == 0)) && ((x1 == 5) || (((hU x0).length:Int) == 0))) 3).bind fun v48=>
       (lJ s1.1 2).bind fun v49=>
        (vP [v48,v49]).bind fun v50=>
         if ((v50 != 0) || (!(x1 == 5)))=true then
          some v50
          else if (a1 == 3)=true then
           some 16
           else (lJ (decide (((hU x0).length:Int)>0)) 10).bind fun v51=>
            (lJ (decide (((hU x0).length:Int)≤12)) 8).bind fun v52=>
             (vP [v51,v52]).bind fun v53=>
              if (v53 != 0)=true then
               some v53
               else aS (Q7 tK x0 a1) 1000000000 0)
def arV (lv:Nat) (tK:Int→Int→Int→Int→Int→Hl→Int→Option (Int)) (x1 x2 x3 x5 x4:Int) (x0:Hl) (a1:Int):Option (Int):=
 (yJ x1 0 5).bind fun v1=>
  if (!v1)=true then
   some 15
   else (ahP x1).bind fun v2=>
    aS (Ri tK x1 x2 x3 x5 x4 x0 a1 v2) 1000000000 (true,0)
def CG:(ix:Nat)→Int→Int→Int→Int→Int→Hl→Int→Option (Int)
 | 0=>fun _ _ _ _ _ _ _=>none
 | lv+1=>arV lv (CG lv)
@[go_sem] def afJ (ix:Nat):=arQ lK false (CG ix)
@[go_sem] def anv (lv:Nat) (k:Nat):=lk [(37,T37.sp),(38,T38.sp),(39,T39.sp),(145,(afJ lv).sp),(184,auQ.sp),(205,auF.sp),(206,auE.sp),(207,auD.sp),(208,auC.sp)] k
theorem pI (lv:Nat) (h:aF Tryz.prog 145 (afJ lv).sp):fC Tryz.prog (anv lv):= .cons f37 (.cons f38 (.cons f39 (.cons h (.cons f184 (.cons f205 (.cons f206 (.cons f207 (.cons f208 .nil))))))))
theorem f145 (ix:Nat):aF Tryz.prog 145 (afJ ix).sp:=by
 induction ix with
 | zero=>exact ae5 Tryz.func145 (by decide) rfl (fun ⟨x1,x2,x3,x5,x4,x0,a1⟩ h=>Bool.false_ne_true h)
 | succ lv ih=>
 refine RJ bT (pI lv ih) Tryz.func145 rfl Tryz.ntmps145 fun ⟨x1,x2,x3,x5,x4,x0,a1⟩ r hr=>⟨nL rfl,fun stop S=> ?_⟩
 replace hr:=(JW x1 x2 x3 x5 x4 x0 a1 (CG (lv+1))).symm.trans hr
 rw [CG] at hr
 unfold arV at hr
 refine S.gx [26,7,21] ?_
 obtain ⟨v1,hv1,hr⟩:=aA hr
 refine gb hv1 ?_
 refine iW hr (fun hc hr=>D0 hr) fun hc hr=> ?_
 obtain ⟨v2,hv2,hr⟩:=aA hr
 refine gb hv2 ?_
 refine S.sees [1,2,5,6,19,20,21] [(2,2),(5,5)] [(19,19)] ?_ (Stop.iter S (fun s1=>⟨[(1,.c (.d (.int .i64 a1))),(2,.c (.ref 2 0)),(5,.c (.ref 5 0)),(6,.c (.d (.bool s1.1))),(19,.c (.own 19)),(20,.c (.d (.int .i64 (v2.length:Int)))),(21,.c (.d (.int .i64 s1.2)))],[(2,[.d (.int .i64 x1),.d (.int .i64 x2),.d (.int .i64 x3),.d (.int .i64 x5),.d (.int .i64 x4),.d (hE x0)]),(5,[.d (.int .i64 x1),.d (.int .i64 x2),.d (.int .i64 x3),.d (.int .i64 x5),.d (.int .i64 x4),.d (hE x0)])],[(19,.owned (ah 3 uX v2))]⟩) (Ri (CG lv) x1 x2 x3 x5 x4 x0 a1 v2) (fun q=>q=r) hr rfl ?_)
 ·exact lf
 ·intro s1 hr
  unfold Ri at hr
  refine S.gx [26,7,21] ?_
  refine gr ?_
  refine dM hr (fun hc hr=> ?_) fun hc hr=> ?_
  ·obtain ⟨PU,hr⟩:=aC hr
   refine gr ?_
   by_cases PO:(v2.getD s1.2.toNat default).1=205
   ·rw [if_pos PO] at hr
    simp only [PO]
    refine S.gx [26,21] ?_
    obtain ⟨LX,hr⟩:=aC hr
    obtain ⟨Xo,hr⟩:=aC hr
    repeat (first | refine gG LX ?_ | refine gG Xo ?_ | refine gA ?_ | refine gB ?_)
    exact D1 (S.ss [1,2,5,6,19,20,21] [(2,2),(5,5)] [(19,19)]) hr
   ·rw [if_neg PO] at hr
    by_cases hs9:(v2.getD s1.2.toNat default).1=206
    ·rw [if_pos hs9] at hr
     simp only [hs9]
     refine S.gx [26,21] ?_
     obtain ⟨Dw,hr⟩:=aC hr
     obtain ⟨LZ,hr⟩:=aC hr
     repeat (first | refine gG Dw ?_ | refine gG LZ ?_ | refine gA ?_ | refine gB ?_)
     exact D1 (S.ss [1,2,5,6,19,20,21] [(2,2),(5,5)] [(19,19)]) hr
    ·rw [if_neg hs9] at hr
     by_cases hs6:(v2.getD s1.2.toNat default).1=207
     ·rw [if_pos hs6] at hr
      simp only [hs6]
      refine S.gx [26,21] ?_
      obtain ⟨hg7,hr⟩:=aC hr
      obtain ⟨Vt,hr⟩:=aC hr
      repeat (first | refine gG hg7 ?_ | refine gG Vt ?_ | refine gA ?_ | refine gB ?_)
      exact D1 (S.ss [1,2,5,6,19,20,21] [(2,2),(5,5)] [(19,19)]) hr
     ·rw [if_neg hs6] at hr
      by_cases hs3:(v2.getD s1.2.toNat default).1=208
      ·rw [if_pos hs3] at hr
       simp only [hs3]
       refine S.gx [26,21] ?_
       obtain ⟨hg4,hr⟩:=aC hr
       obtain ⟨hg5,hr⟩:=aC hr
       repeat (first | refine gG hg4 ?_ | refine gG hg5 ?_ | refine gA ?_ | refine gB ?_)
       exact D1 (S.ss [1,2,5,6,19,20,21] [(2,2),(5,5)] [(19,19)]) hr
      ·rw [if_neg hs3] at hr
       first | cases hr | exact hr.elim
  ·refine gr ?_
   have hr:=bK hr
   refine gr ?_
   refine iW hr (fun hc hr=> ?_) fun hc hr=> ?_
   ·repeat (first | refine gA ?_ | refine gB ?_)
    refine S.prune [1,2,6,9,10] ?_
    refine S.gx [26,7] ?_
    obtain ⟨v16,aaw,hr⟩:=aA hr
    obtain ⟨v17,PL,hr⟩:=aA hr
    obtain ⟨v18,PK,hr⟩:=aA hr
    refine gb aaw ?_
    refine gb PL ?_
    refine gb PK ?_
    repeat (first | refine gA ?_ | refine gB ?_)
    refine iW hr (fun hc hr=>D0 hr) fun hc hr=> ?_
    refine gr ?_
    refine iW hr (fun hc hr=>D0 hr) fun hc hr=> ?_
    refine gr ?_
    refine S.inl 4 [11] [] Tryz.func101 (by decide) rfl Tryz.ntmps101 (fun cx e=>aT bT (pI lv ih) cx e) (some 109) rfl rfl rfl rfl (nL rfl) (nL rfl) ?_
    refine gs ?_
    refine gr ?_
    intro stop1 S1
    refine S1.gx [] ?_
    obtain ⟨v19,PI,hr⟩:=aA hr
    obtain ⟨v20,I8,hr⟩:=aA hr
    obtain ⟨v21,aav,hr⟩:=aA hr
    refine gb PI ?_
    refine gb I8 ?_
    refine gb aav ?_
    refine iW hr (fun hc hr=> ?_) fun hc hr=> ?_
    ·refine gr ?_
     refine gr ?_
     refine S.gx [26,7,21] ?_
     exact D0 hr
    ·refine gr ?_
     refine S1.sees [1,23,24,25] [] [] ?_ (Stop.iter S1 (fun s2=>⟨[(1,.c (.d (.int .i64 (IntKind.i64.wrap (a1+1))))),(23,.c (.d (ah 6 bF (hU x0)))),(24,.c (.d (.int .i64 ((hU x0).length:Int)))),(25,.c (.d (.int .i64 s2)))],[],[]⟩) (Rh (CG lv) x0 a1) (fun q=>q=r) hr rfl ?_)
     ·exact lf
     ·intro s2 hr
      unfold Rh at hr
      refine S1.gx [] ?_
      refine gr ?_
      refine dM hr (fun hc hr=> ?_) fun hc hr=> ?_
      ·obtain ⟨aaG,hr⟩:=aC hr
       obtain ⟨v22,aau,hr⟩:=aQ hr
       refine gb aau ?_
       refine dM hr (fun hc hr=> ?_) fun hc hr=>D1 (S1.ss [1,23,24,25] [] []) hr
       refine gr ?_
       have hr:=bK hr
       refine gr ?_
       refine S.gx [26,7,21] ?_
       exact D0 hr
      ·refine gr ?_
       have hr:=bK hr
       refine gr ?_
       refine gr ?_
       refine S.gx [26,7,21] ?_
       exact D0 hr
   ·refine gr ?_
    refine iW hr (fun hc hr=> ?_) fun hc hr=> ?_
    ·repeat (first | refine gA ?_ | refine gB ?_)
     refine S.prune [1,2,6,9,10] ?_
     refine S.gx [26,7] ?_
     obtain ⟨v24,hv24,hr⟩:=aA hr
     obtain ⟨v25,hv25,hr⟩:=aA hr
     obtain ⟨v26,aat,hr⟩:=aA hr
     refine gb hv24 ?_
     refine gb hv25 ?_
     refine gb aat ?_
     repeat (first | refine gA ?_ | refine gB ?_)
     refine iW hr (fun hc hr=>D0 hr) fun hc hr=> ?_
     refine gr ?_
     refine iW hr (fun hc hr=>D0 hr) fun hc hr=> ?_
     refine gr ?_
     refine S.inl 4 [11] [] Tryz.func101 (by decide) rfl Tryz.ntmps101 (fun cx e=>aT bT (pI lv ih) cx e) (some 109) rfl rfl rfl rfl (nL rfl) (nL rfl) ?_
     refine gs ?_
     refine gr ?_
     intro stop1 S1
     refine S1.gx [] ?_
     obtain ⟨v27,hv27,hr⟩:=aA hr
     obtain ⟨v28,hv28,hr⟩:=aA hr
     obtain ⟨v29,hv29,hr⟩:=aA hr
     refine gb hv27 ?_
     refine gb hv28 ?_
     refine gb hv29 ?_
     refine iW hr (fun hc hr=> ?_) fun hc hr=> ?_
     ·refine gr ?_
      refine gr ?_
      refine S.gx [26,7,21] ?_
      exact D0 hr
     ·refine gr ?_
      refine S1.sees [1,23,24,25] [] [] ?_ (Stop.iter S1 (fun s3=>⟨[(1,.c (.d (.int .i64 (IntKind.i64.wrap (a1+1))))),(23,.c (.d (ah 6 bF (hU x0)))),(24,.c (.d (.int .i64 ((hU x0).length:Int)))),(25,.c (.d (.int .i64 s3)))],[],[]⟩) (Rf (CG lv) x0 a1) (fun q=>q=r) hr rfl ?_)
      ·exact lf
      ·intro s3 hr
       unfold Rf at hr
       refine S1.gx [] ?_
       refine gr ?_
       refine dM hr (fun hc hr=> ?_) fun hc hr=> ?_
       ·obtain ⟨aFP,hr⟩:=aC hr
        obtain ⟨v30,aAt,hr⟩:=aQ hr
        refine gb aAt ?_
        refine dM hr (fun hc hr=> ?_) fun hc hr=>D1 (S1.ss [1,23,24,25] [] []) hr
        refine gr ?_
        have hr:=bK hr
        refine gr ?_
        refine S.gx [26,7,21] ?_
        exact D0 hr
       ·refine gr ?_
        have hr:=bK hr
        refine gr ?_
        refine gr ?_
        refine S.gx [26,7,21] ?_
        exact D0 hr
    ·refine gr ?_
     refine iW hr (fun hc hr=> ?_) fun hc hr=> ?_
     ·repeat (first | refine gA ?_ | refine gB ?_)
      refine S.prune [1,2,6,9,10] ?_
      refine S.gx [26,7] ?_
      obtain ⟨v32,hv32,hr⟩:=aA hr
      obtain ⟨v33,aas,hr⟩:=aA hr
      obtain ⟨v34,hv34,hr⟩:=aA hr
      refine gb hv32 ?_
      refine gb aas ?_
      refine gb hv34 ?_
      repeat (first | refine gA ?_ | refine gB ?_)
      refine iW hr (fun hc hr=>D0 hr) fun hc hr=> ?_
      refine gr ?_
      refine iW hr (fun hc hr=>D0 hr) fun hc hr=> ?_
      refine gr ?_
      refine S.inl 4 [11] [] Tryz.func101 (by decide) rfl Tryz.ntmps101 (fun cx e=>aT bT (pI lv ih) cx e) (some 109) rfl rfl rfl rfl (nL rfl) (nL rfl) ?_
      refine gs ?_
      refine gr ?_
      intro stop1 S1
      refine S1.gx [] ?_
      obtain ⟨v35,ajg,hr⟩:=aA hr
      obtain ⟨v36,aAs,hr⟩:=aA hr
      obtain ⟨v37,ajf,hr⟩:=aA hr
      refine gb ajg ?_
      refine gb aAs ?_
      refine gb ajf ?_
      refine iW hr (fun hc hr=> ?_) fun hc hr=> ?_
      ·refine gr ?_
       refine gr ?_
       refine S.gx [26,7,21] ?_
       exact D0 hr
      ·refine gr ?_
       refine S1.sees [1,23,24,25] [] [] ?_ (Stop.iter S1 (fun s4=>⟨[(1,.c (.d (.int .i64 (IntKind.i64.wrap (a1+1))))),(23,.c (.d (ah 6 bF (hU x0)))),(24,.c (.d (.int .i64 ((hU x0).length:Int)))),(25,.c (.d (.int .i64 s4)))],[],[]⟩) (Q9 (CG lv) x0 a1) (fun q=>q=r) hr rfl ?_)
       ·exact lf
       ·intro s4 hr
        unfold Q9 at hr
        refine S1.gx [] ?_
        refine gr ?_
        refine dM hr (fun hc hr=> ?_) fun hc hr=> ?_
        ·obtain ⟨aAE,hr⟩:=aC hr
         obtain ⟨v38,hv38,hr⟩:=aQ hr
         refine gb hv38 ?_
         refine dM hr (fun hc hr=> ?_) fun hc hr=>D1 (S1.ss [1,23,24,25] [] []) hr
         refine gr ?_
         have hr:=bK hr
         refine gr ?_
         refine S.gx [26,7,21] ?_
         exact D0 hr
        ·refine gr ?_
         have hr:=bK hr
         refine gr ?_
         refine gr ?_
         refine S.gx [26,7,21] ?_
         exact D0 hr
     ·refine gr ?_
      refine iW hr (fun hc hr=> ?_) fun hc hr=> ?_
      ·repeat (first | refine gA ?_ | refine gB ?_)
       refine S.prune [1,2,6,9,10] ?_
       refine S.gx [26,7] ?_
       obtain ⟨v40,aAr,hr⟩:=aA hr
       obtain ⟨v41,aAq,hr⟩:=aA hr
       obtain ⟨v42,aAp,hr⟩:=aA hr
       refine gb aAr ?_
       refine gb aAq ?_
       refine gb aAp ?_
       repeat (first | refine gA ?_ | refine gB ?_)
       refine iW hr (fun hc hr=>D0 hr) fun hc hr=> ?_
       refine gr ?_
       refine iW hr (fun hc hr=>D0 hr) fun hc hr=> ?_
       refine gr ?_
       refine S.inl 4 [11] [] Tryz.func101 (by decide) rfl Tryz.ntmps101 (fun cx e=>aT bT (pI lv ih) cx e) (some 109) rfl rfl rfl rfl (nL rfl) (nL rfl) ?_
       refine gs ?_
       refine gr ?_
       intro stop1 S1
       refine S1.gx [] ?_
       obtain ⟨v43,aAo,hr⟩:=aA hr
       obtain ⟨v44,aAn,hr⟩:=aA hr
       obtain ⟨v45,aAm,hr⟩:=aA hr
       refine gb aAo ?_
       refine gb aAn ?_
       refine gb aAm ?_
       refine iW hr (fun hc hr=> ?_) fun hc hr=> ?_
       ·refine gr ?_
        refine gr ?_
        refine S.gx [26,7,21] ?_
        exact D0 hr
       ·refine gr ?_
        refine S1.sees [1,23,24,25] [] [] ?_ (Stop.iter S1 (fun s5=>⟨[(1,.c (.d (.int .i64 (IntKind.i64.wrap (a1+1))))),(23,.c (.d (ah 6 bF (hU x0)))),(24,.c (.d (.int .i64 ((hU x0).length:Int)))),(25,.c (.d (.int .i64 s5)))],[],[]⟩) (Q8 (CG lv) x0 a1) (fun q=>q=r) hr rfl ?_)
        ·exact lf
        ·intro s5 hr
         unfold Q8 at hr
         refine S1.gx [] ?_
         refine gr ?_
         refine dM hr (fun hc hr=> ?_) fun hc hr=> ?_
         ·obtain ⟨aFK,hr⟩:=aC hr
          obtain ⟨v46,aje,hr⟩:=aQ hr
          refine gb aje ?_
          refine dM hr (fun hc hr=> ?_) fun hc hr=>D1 (S1.ss [1,23,24,25] [] []) hr
          refine gr ?_
          have hr:=bK hr
          refine gr ?_
          refine S.gx [26,7,21] ?_
          exact D0 hr
         ·refine gr ?_
          have hr:=bK hr
          refine gr ?_
          refine gr ?_
          refine S.gx [26,7,21] ?_
          exact D0 hr
      ·repeat (first | refine gA ?_ | refine gB ?_)
       refine S.prune [1,2,6,9,10] ?_
       refine S.gx [26,7] ?_
       obtain ⟨v48,ajd,hr⟩:=aA hr
       obtain ⟨v49,ajc,hr⟩:=aA hr
       obtain ⟨v50,aAk,hr⟩:=aA hr
       refine gb ajd ?_
       refine gb ajc ?_
       refine gb aAk ?_
       repeat (first | refine gA ?_ | refine gB ?_)
       refine iW hr (fun hc hr=>D0 hr) fun hc hr=> ?_
       refine gr ?_
       refine iW hr (fun hc hr=>D0 hr) fun hc hr=> ?_
       refine gr ?_
       refine S.inl 4 [11] [] Tryz.func101 (by decide) rfl Tryz.ntmps101 (fun cx e=>aT bT (pI lv ih) cx e) (some 109) rfl rfl rfl rfl (nL rfl) (nL rfl) ?_
       refine gs ?_
       refine gr ?_
       intro stop1 S1
       refine S1.gx [] ?_
       obtain ⟨v51,aAj,hr⟩:=aA hr
       obtain ⟨v52,aAi,hr⟩:=aA hr
       obtain ⟨v53,aAh,hr⟩:=aA hr
       refine gb aAj ?_
       refine gb aAi ?_
       refine gb aAh ?_
       refine iW hr (fun hc hr=> ?_) fun hc hr=> ?_
       ·refine gr ?_
        refine gr ?_
        refine S.gx [26,7,21] ?_
        exact D0 hr
       ·refine gr ?_
        refine S1.sees [1,23,24,25] [] [] ?_ (Stop.iter S1 (fun s6=>⟨[(1,.c (.d (.int .i64 (IntKind.i64.wrap (a1+1))))),(23,.c (.d (ah 6 bF (hU x0)))),(24,.c (.d (.int .i64 ((hU x0).length:Int)))),(25,.c (.d (.int .i64 s6)))],[],[]⟩) (Q7 (CG lv) x0 a1) (fun q=>q=r) hr rfl ?_)
        ·exact lf
        ·intro s6 hr
         unfold Q7 at hr
         refine S1.gx [] ?_
         refine gr ?_
         refine dM hr (fun hc hr=> ?_) fun hc hr=> ?_
         ·obtain ⟨aFF,hr⟩:=aC hr
          obtain ⟨v54,aAg,hr⟩:=aQ hr
          refine gb aAg ?_
          refine dM hr (fun hc hr=> ?_) fun hc hr=>D1 (S1.ss [1,23,24,25] [] []) hr
          refine gr ?_
          have hr:=bK hr
          refine gr ?_
          refine S.gx [26,7,21] ?_
          exact D0 hr
         ·refine gr ?_
          have hr:=bK hr
          refine gr ?_
          refine gr ?_
          refine S.gx [26,7,21] ?_
          exact D0 hr
def ach (a0:bD):Bd Int (Int×Int):=fun s1=>
 if (decide (s1<(a0.length:Int)))=true then
  if 0≤s1∧s1<(a0.length:Int) then
   aP (CG 7 ((a0.getD s1.toNat default).1) ((a0.getD s1.toNat default).2.1) ((a0.getD s1.toNat default).2.2.1) ((a0.getD s1.toNat default).2.2.2.1) ((a0.getD s1.toNat default).2.2.2.2.1) ((a0.getD s1.toNat default).2.2.2.2.2) 0) fun v10=>
    if (v10 != 0)=true then
     .out (if (v10 != 0)=true then
      some (s1,v10)
      else (r93 a0).bind fun v11=>
       (lJ (decide ((v11.length:Int)≤60)) 8).bind fun v12=>
        if 0≤IntKind.i64.wrap ((v11.length:Int) - 1)∧IntKind.i64.wrap ((v11.length:Int) - 1)<(v11.length:Int) then
         (r94 ((v11.getD (IntKind.i64.wrap ((v11.length:Int) - 1)).toNat default).1)).bind fun v13=>
          (lJ v13 20).bind fun v14=>
           (vP [v12,v14]).bind fun v15=>
            some (0,v15)
         else none)
     else .next (IntKind.i64.wrap (s1+1))
   else .out none
  else .out ((r93 a0).bind fun v18=>
   (lJ (decide ((v18.length:Int)≤60)) 8).bind fun v19=>
    if 0≤IntKind.i64.wrap ((v18.length:Int) - 1)∧IntKind.i64.wrap ((v18.length:Int) - 1)<(v18.length:Int) then
     (r94 ((v18.getD (IntKind.i64.wrap ((v18.length:Int) - 1)).toNat default).1)).bind fun v20=>
      (lJ v20 20).bind fun v21=>
       (vP [v19,v21]).bind fun v22=>
        some (0,v22)
     else none)
def r70 (a0:bD):Option (Int×Int):=
 (lJ (decide ((a0.length:Int)>0)) 10).bind fun v1=>
  (lJ (decide ((a0.length:Int)≤12)) 8).bind fun v2=>
   (vP [v1,v2]).bind fun v3=>
    if (v3 != 0)=true then
     if (v3 != 0)=true then
      some (0,v3)
      else (r93 a0).bind fun v4=>
       (lJ (decide ((v4.length:Int)≤60)) 8).bind fun v5=>
        if 0≤IntKind.i64.wrap ((v4.length:Int) - 1)∧IntKind.i64.wrap ((v4.length:Int) - 1)<(v4.length:Int) then
         (r94 ((v4.getD (IntKind.i64.wrap ((v4.length:Int) - 1)).toNat default).1)).bind fun v6=>
          (lJ v6 20).bind fun v7=>
           (vP [v5,v7]).bind fun v8=>
            some (0,v8)
         else none
     else aS (ach a0) 1000000000 0
@[go_sem] def T70:=aeu KR false r70
@[go_sem] def amW (k:Nat):=lk [(38,T38.sp),(39,T39.sp),(93,T93.sp),(94,T94.sp),(145,(afJ 7).sp)] k
theorem adO:fC Tryz.prog amW:= .cons f38 (.cons f39 (.cons f93 (.cons f94 (.cons (f145 7) .nil))))
theorem f70:aF Tryz.prog 70 T70.sp:=by
 refine vm (tb:=amW) (.cons f38 (.cons f39 (.cons f93 (.cons f94 (.cons (f145 7) .nil))))) Tryz.func70 Tryz.ntmps70 fun a0 r hr stop S=> ?_
 rw [rF,r70] at hr
 refine S.gx [1] ?_
 refine gr ?_
 refine S.inl 1 [0] [] Tryz.func101 (by decide) rfl Tryz.ntmps101 (fun cx e=>aT bT adO cx e) (some 9) rfl rfl rfl rfl (nL rfl) (nL rfl) ?_
 refine gs ?_
 refine gr ?_
 intro stop1 S1
 refine S1.gx [] ?_
 obtain ⟨v1,hv1,hr⟩:=aA hr
 obtain ⟨v2,hv2,hr⟩:=aA hr
 obtain ⟨v3,hv3,hr⟩:=aA hr
 refine gb hv1 ?_
 refine gb hv2 ?_
 refine gb hv3 ?_
 refine iW hr (fun hc hr=> ?_) fun hc hr=> ?_
 ·refine gr ?_
  refine gr ?_
  refine S.gx [1] ?_
  exact D0 hr
 ·refine gr ?_
  refine S1.sees [1,23,24,25] [] [] ?_ (Stop.iter S1 (fun s1=>⟨[(1,.c (.d (.int .i64 0))),(23,.c (.d (ah 6 bF a0))),(24,.c (.d (.int .i64 (a0.length:Int)))),(25,.c (.d (.int .i64 s1)))],[],[]⟩) (ach a0) (fun q=>q=r) hr rfl ?_)
  ·exact lf
  ·intro s1 hr
   unfold ach at hr
   refine S1.gx [] ?_
   refine gr ?_
   refine dM hr (fun hc hr=> ?_) fun hc hr=> ?_
   ·obtain ⟨aeX,hr⟩:=aC hr
    obtain ⟨v10,vV,hr⟩:=aQ hr
    refine gb vV ?_
    refine dM hr (fun hc hr=> ?_) fun hc hr=>D1 (S1.ss [1,23,24,25] [] []) hr
    refine gr ?_
    have hr:=bK hr
    refine gr ?_
    refine S.gx [1] ?_
    exact D0 hr
   ·refine gr ?_
    have hr:=bK hr
    refine gr ?_
    refine gr ?_
    refine S.gx [1] ?_
    exact D0 hr
def r62 (a0:bD):Option (bD×Int):=
 (r70 a0).bind fun v1=>
  if (v1.2 != 0)=true then
   some ([],v1.2)
   else (r93 a0).bind fun v2=>
    some (v2,0)
@[go_sem] def T62:=aeu apN true r62
@[go_sem] def ayI (k:Nat):=lk [(70,T70.sp),(93,T93.sp)] k
theorem f62:aF Tryz.prog 62 T62.sp:=by
 refine vm (tb:=ayI) (.cons f70 (.cons f93 .nil)) Tryz.func62 Tryz.ntmps62 fun a0 r hr stop S=> ?_
 rw [rF,r62] at hr
 refine S.gx [] ?_
 exact D0 hr
def r43 (x1 x2:Int) (x3:au) (x0:aj) (x4 x5:aZ) (x6:au) (x7 x8:Int):Option (Int):=
 some (IntKind.i64.wrap ((x0.length:Int) - 1))
@[go_sem] def T43:=KU lK false r43
theorem f43:aF Tryz.prog 43 T43.sp:=by
 refine vm .nil Tryz.func43 Tryz.ntmps43 fun ⟨x1,x2,x3,x0,x4,x5,x6,x7,x8⟩ r hr stop S=> ?_
 rw [Oa,r43] at hr
 refine S.gx [] ?_
 exact D0 hr
def yQ (x1 x2:Int) (x3:au) (x4:aj) (x0:au) (x5:aj) (a1:Int):Option (Int×Int):=
 (Az x0 a1 1).bind fun v1=>
  some (v1.1,v1.2)
@[go_sem] def afH:=aev qu7 false yQ
@[go_sem] def anm (k:Nat):=lk [(122,afK.sp)] k
theorem f157:aF Tryz.prog 157 afH.sp:=by
 refine vm (tb:=anm) (.cons f122 .nil) Tryz.func157 Tryz.ntmps157 fun ⟨x1,x2,x3,x4,x0,x5,a1⟩ r hr stop S=> ?_
 rw [JW,yQ] at hr
 refine S.gx [] ?_
 exact D0 hr
def Et:Bd (Int×Int) Int:=fun s1=>
 if (s1.2 != 0)=true then
  if s1.2≠0 then
   .next (s1.2,s1.1.tmod s1.2)
   else .out none
  else .out (some (if s1.1<IntKind.i64.wrap (0 - s1.1) then IntKind.i64.wrap (0 - s1.1) else s1.1))
def WO (a0 a1:Int):Option (Int):=
 aS (Et) 1000000000 (a0,a1)
@[go_sem] def au9:=qT7 lK false WO
theorem f158:aF Tryz.prog 158 au9.sp:=by
 refine vm .nil Tryz.func158 Tryz.ntmps158 fun ⟨a0,a1⟩ r hr stop S=> ?_
 rw [yK,WO] at hr
 refine S.gx [] ?_
 refine gr ?_
 refine S.sees [0,1] [] [] ?_ (Stop.iter S (fun s1=>⟨[(0,.c (.d (.int .i64 s1.1))),(1,.c (.d (.int .i64 s1.2)))],[],[]⟩) (Et) (fun q=>q=r) hr rfl ?_)
 ·exact lf
 ·intro s1 hr
  unfold Et at hr
  refine S.gx [] ?_
  exact D1 (S.ss [0,1] [] []) hr
def O4 (x0 x1:Int) (x2:au) (x3:aj) (a1:Int):Option (Int×Int×Int):=
 (r86 x0 x1 x2 x3).bind fun v1=>
  if (v1.2.2.2.2.2.2 == 0)=true then
   (OY v1.1 v1.2.1 v1.2.2.1 v1.2.2.2.1 v1.2.2.2.2.1 v1.2.2.2.2.2.1 a1).bind fun v2=>
    (nS v2 2).bind fun v3=>
     if (v3 != 0)=true then
      some (0,0,v3)
      else (yQ v1.1 v1.2.1 v1.2.2.1 v1.2.2.2.1 v1.2.2.2.2.1 v1.2.2.2.2.2.1 a1).bind fun v4=>
       (WO v4.1 v4.2).bind fun v5=>
        if v5≠0 then
         if v5≠0 then
          some (IntKind.i64.wrap (v4.1.tdiv v5),IntKind.i64.wrap (v4.2.tdiv v5),0)
          else none
         else none
   else if (v1.2.2.2.2.2.2 != 0)=true then
    some (0,0,v1.2.2.2.2.2.2)
    else (yQ v1.1 v1.2.1 v1.2.2.1 v1.2.2.2.1 v1.2.2.2.2.1 v1.2.2.2.2.2.1 a1).bind fun v8=>
     (WO v8.1 v8.2).bind fun v9=>
      if v9≠0 then
       if v9≠0 then
        some (IntKind.i64.wrap (v8.1.tdiv v9),IntKind.i64.wrap (v8.2.tdiv v9),0)
        else none
       else none
@[go_sem] def akj:=aes apM false O4
@[go_sem] def anQ (k:Nat):=lk [(86,T86.sp),(118,JE.sp),(156,afI.sp),(157,afH.sp),(158,au9.sp)] k
theorem f110:aF Tryz.prog 110 akj.sp:=by
 refine vm (tb:=anQ) (.cons f86 (.cons f118 (.cons f156 (.cons f157 (.cons f158 .nil))))) Tryz.func110 Tryz.ntmps110 fun ⟨x0,x1,x2,x3,a1⟩ r hr stop S=> ?_
 rw [uq5,O4] at hr
 refine S.gx [] ?_
 exact D0 hr
def r78 (x0 x1:Int) (x2:au) (x3:aj) (x4 x5:aZ) (x6:au) (x7 x8 a1 a2:Int):Option (Int):=
 (O4 x0 x1 x2 x3 a1).bind fun v1=>
  some (IntKind.i64.wrap (v1.1 - (IntKind.i64.wrap (a2*v1.2.1))))
@[go_sem] def T78:=aik lK false r78
@[go_sem] def ayA (k:Nat):=lk [(110,akj.sp)] k
theorem f78:aF Tryz.prog 78 T78.sp:=by
 refine vm (tb:=ayA) (.cons f110 .nil) Tryz.func78 Tryz.ntmps78 fun ⟨x0,x1,x2,x3,x4,x5,x6,x7,x8,a1,a2⟩ r hr stop S=> ?_
 rw [acX,r78] at hr
 refine S.gx [] ?_
 exact D0 hr
def r88 (x0 x1:Int):Option (Int):=
 some x0
@[go_sem] def T88:=O6 lK false r88
theorem f88:aF Tryz.prog 88 T88.sp:=by
 refine vm .nil Tryz.func88 Tryz.ntmps88 fun ⟨x0,x1⟩ r hr stop S=> ?_
 rw [yK,r88] at hr
 refine S.gx [] ?_
 exact D0 hr
def r75 (x0 x1:Int):Option (Int):=
 some (IntKind.i64.wrap ((IntKind.i64.wrap (x0+x1)).tdiv 2))
@[go_sem] def T75:=O6 lK false r75
theorem f75:aF Tryz.prog 75 T75.sp:=by
 refine vm .nil Tryz.func75 Tryz.ntmps75 fun ⟨x0,x1⟩ r hr stop S=> ?_
 rw [yK,r75] at hr
 refine S.gx [] ?_
 exact D0 hr
def r89 (x1 x0:Int):Option (Int):=
 some x0
@[go_sem] def T89:=O6 lK false r89
theorem f89:aF Tryz.prog 89 T89.sp:=by
 refine vm .nil Tryz.func89 Tryz.ntmps89 fun ⟨x1,x0⟩ r hr stop S=> ?_
 rw [yK,r89] at hr
 refine S.gx [] ?_
 exact D0 hr
end Go.Proofs.YtofkgmldcjagmaaGreatDoor

/- Contracts of functions, written by wip/dec. -/
import Derived.Test.YtnepigpnlnmlmaaGreatDoorF00
import Derived.Test.YtnepigpnlnmlmaaGreatDoorF01
import Derived.Test.YtnepigpnlnmlmaaGreatDoorF02
set_option linter.unusedVariables false
set_option linter.unusedSimpArgs false
set_option linter.constructorNameAsVariable false
set_option maxHeartbeats 4000000
set_option maxRecDepth 20000
namespace Go.Proofs.YtnepigpnlnmlmaaGreatDoor
open Go.Abs
section
variable {β:Type} [Inhabited β] (u:β→List RV) (al:Bool)
def qw22 (a0 a1 a2 a3 a4:Int) (a5:Hl) (a6:Int):List Arg:=[.agg [.int .i64 a0,.int .i64 a1,.int .i64 a2,.int .i64 a3,.int .i64 a4,hE a5],.c (.int .i64 a6)]
def qd22:List Arg→Int×Int×Int×Int×Int×Hl×Int
 | [.agg [c0,c1,c2,c3,c4,c5],.c c6]=>(dInt c0,dInt c1,dInt c2,dInt c3,dInt c4,hD c5,dInt c6)
 | _=>default
def qT22 (r:Int→Int→Int→Int→Int→Hl→Int→Option β):=mkT (u7 qw22) qd22 (u7 r) u al
attribute [go_sem] qw22 qd22 qT22
def qw23 (a0 a1:Int) (a2:L_II) (a3:L_LIIE) (a4:Int):List Arg:=[.agg [.int .i64 a0,.int .i64 a1,encF 2 d_II a2,encF 1 d_LIIE a3],.c (.int .i64 a4)]
def qd23:List Arg→Int×Int×L_II×L_LIIE×Int
 | [.agg [c0,c1,c2,c3],.c c4]=>(dInt c0,dInt c1,decF g_II c2,decF g_LIIE c3,dInt c4)
 | _=>default
def qT23 (r:Int→Int→L_II→L_LIIE→Int→Option β):=mkT (u5 qw23) qd23 (u5 r) u al
attribute [go_sem] qw23 qd23 qT23
def qu10 (v:L_FII):List RV:=[.c (.own (encF 3 d_FII v))]
attribute [go_sem] qu10
def qu12 (v:Int×Int×Int):List RV:=[.agg [.d (.int .i64 v.1),.d (.int .i64 v.2.1)],.c (.d (.int .i64 v.2.2))]
attribute [go_sem] qu12
end
def r188 (a0:Int):Option (L_FII):=
 if (a0 == 0)=true then
  some [(245,1,10000),(247,1,200)]
  else if (a0 == 1)=true then
   some [(247,1,200)]
   else if (a0 == 2)=true then
    some [(246,0,3),(247,1,200)]
    else if (a0 == 3)=true then
     some [(248,200,3000),(245,1,10000),(247,1,200)]
     else if (a0 == 4)=true then
      some [(248,200,3000),(246,0,3),(247,1,200)]
      else if (a0 == 5)=true then
       some [(247,1,10)]
       else some []
@[go_sem] def T188:=qT4 qu10 true r188
theorem f188:FnFact Tryz.prog 188 T188.sp:=by
 refine vm .nil Tryz.func188 Tryz.ntmps188 fun a0 r hr stop S=> ?_
 rw [uq1,r188] at hr
 refine S.gx [] ?_
 exact D0 hr
def r248 (x1 x2 x3 x4 x0:Int) (x5:Hl):Option (Int):=
 some x0
@[go_sem] def T248:=qT21 qu3 false r248
theorem f248:FnFact Tryz.prog 248 T248.sp:=by
 refine vm .nil Tryz.func248 Tryz.ntmps248 fun ⟨x1,x2,x3,x4,x0,x5⟩ r hr stop S=> ?_
 rw [uq6,r248] at hr
 refine S.gx [] ?_
 exact D0 hr
def r247 (x1 x2 x3 x0 x4:Int) (x5:Hl):Option (Int):=
 some x0
@[go_sem] def T247:=qT21 qu3 false r247
theorem f247:FnFact Tryz.prog 247 T247.sp:=by
 refine vm .nil Tryz.func247 Tryz.ntmps247 fun ⟨x1,x2,x3,x0,x4,x5⟩ r hr stop S=> ?_
 rw [uq6,r247] at hr
 refine S.gx [] ?_
 exact D0 hr
def r246 (x1 x2 x0 x3 x4:Int) (x5:Hl):Option (Int):=
 some x0
@[go_sem] def T246:=qT21 qu3 false r246
theorem f246:FnFact Tryz.prog 246 T246.sp:=by
 refine vm .nil Tryz.func246 Tryz.ntmps246 fun ⟨x1,x2,x0,x3,x4,x5⟩ r hr stop S=> ?_
 rw [uq6,r246] at hr
 refine S.gx [] ?_
 exact D0 hr
def r245 (x1 x0 x2 x3 x4:Int) (x5:Hl):Option (Int):=
 some x0
@[go_sem] def T245:=qT21 qu3 false r245
theorem f245:FnFact Tryz.prog 245 T245.sp:=by
 refine vm .nil Tryz.func245 Tryz.ntmps245 fun ⟨x1,x0,x2,x3,x4,x5⟩ r hr stop S=> ?_
 rw [uq6,r245] at hr
 refine S.gx [] ?_
 exact D0 hr
def b128_2 (R128:Int→Int→Int→Int→Int→Hl→Int→Option (Int)) (x0:Hl) (a1:Int):Bd Int Int:=fun s2=>
 if (decide (s2<((hU x0).length:Int)))=true then
  if 0≤s2∧s2<((hU x0).length:Int) then
   bindC (R128 (((hU x0).getD s2.toNat default).1) (((hU x0).getD s2.toNat default).2.1) (((hU x0).getD s2.toNat default).2.2.1) (((hU x0).getD s2.toNat default).2.2.2.1) (((hU x0).getD s2.toNat default).2.2.2.2.1) (((hU x0).getD s2.toNat default).2.2.2.2.2) (IntKind.i64.wrap (a1+1))) fun v22=>
    if (v22 != 0)=true then
     .out (some v22)
     else .next (IntKind.i64.wrap (s2+1))
   else .out none
  else .out (some 0)
def b128_3 (R128:Int→Int→Int→Int→Int→Hl→Int→Option (Int)) (x0:Hl) (a1:Int):Bd Int Int:=fun s3=>
 if (decide (s3<((hU x0).length:Int)))=true then
  if 0≤s3∧s3<((hU x0).length:Int) then
   bindC (R128 (((hU x0).getD s3.toNat default).1) (((hU x0).getD s3.toNat default).2.1) (((hU x0).getD s3.toNat default).2.2.1) (((hU x0).getD s3.toNat default).2.2.2.1) (((hU x0).getD s3.toNat default).2.2.2.2.1) (((hU x0).getD s3.toNat default).2.2.2.2.2) (IntKind.i64.wrap (a1+1))) fun v30=>
    if (v30 != 0)=true then
     .out (some v30)
     else .next (IntKind.i64.wrap (s3+1))
   else .out none
  else .out (some 0)
def b128_4 (R128:Int→Int→Int→Int→Int→Hl→Int→Option (Int)) (x0:Hl) (a1:Int):Bd Int Int:=fun s4=>
 if (decide (s4<((hU x0).length:Int)))=true then
  if 0≤s4∧s4<((hU x0).length:Int) then
   bindC (R128 (((hU x0).getD s4.toNat default).1) (((hU x0).getD s4.toNat default).2.1) (((hU x0).getD s4.toNat default).2.2.1) (((hU x0).getD s4.toNat default).2.2.2.1) (((hU x0).getD s4.toNat default).2.2.2.2.1) (((hU x0).getD s4.toNat default).2.2.2.2.2) (IntKind.i64.wrap (a1+1))) fun v38=>
    if (v38 != 0)=true then
     .out (some v38)
     else .next (IntKind.i64.wrap (s4+1))
   else .out none
  else .out (some 0)
def b128_5 (R128:Int→Int→Int→Int→Int→Hl→Int→Option (Int)) (x0:Hl) (a1:Int):Bd Int Int:=fun s5=>
 if (decide (s5<((hU x0).length:Int)))=true then
  if 0≤s5∧s5<((hU x0).length:Int) then
   bindC (R128 (((hU x0).getD s5.toNat default).1) (((hU x0).getD s5.toNat default).2.1) (((hU x0).getD s5.toNat default).2.2.1) (((hU x0).getD s5.toNat default).2.2.2.1) (((hU x0).getD s5.toNat default).2.2.2.2.1) (((hU x0).getD s5.toNat default).2.2.2.2.2) (IntKind.i64.wrap (a1+1))) fun v46=>
    if (v46 != 0)=true then
     .out (some v46)
     else .next (IntKind.i64.wrap (s5+1))
   else .out none
  else .out (some 0)
def b128_6 (R128:Int→Int→Int→Int→Int→Hl→Int→Option (Int)) (x0:Hl) (a1:Int):Bd Int Int:=fun s6=>
 if (decide (s6<((hU x0).length:Int)))=true then
  if 0≤s6∧s6<((hU x0).length:Int) then
   bindC (R128 (((hU x0).getD s6.toNat default).1) (((hU x0).getD s6.toNat default).2.1) (((hU x0).getD s6.toNat default).2.2.1) (((hU x0).getD s6.toNat default).2.2.2.1) (((hU x0).getD s6.toNat default).2.2.2.2.1) (((hU x0).getD s6.toNat default).2.2.2.2.2) (IntKind.i64.wrap (a1+1))) fun v54=>
    if (v54 != 0)=true then
     .out (some v54)
     else .next (IntKind.i64.wrap (s6+1))
   else .out none
  else .out (some 0)
def b128_1 (R128:Int→Int→Int→Int→Int→Hl→Int→Option (Int)) (x1 x2 x3 x5 x4:Int) (x0:Hl) (a1:Int) (v2:L_FII):Bd (Bool×Int) Int:=fun s1=>
 if (decide (s1.2<(v2.length:Int)))=true then
  if 0≤s1.2∧s1.2<(v2.length:Int) then
   if (v2.getD s1.2.toNat default).1=245 then
    if s1.1=true→(r245 x1 x2 x3 x5 x4 x0).isSome=true then
     if s1.1=true→(r71 ((r245 x1 x2 x3 x5 x4 x0).getD default) ((v2.getD s1.2.toNat default).2.1) ((v2.getD s1.2.toNat default).2.2)).isSome=true then
      .next (s1.1 && ((r71 ((r245 x1 x2 x3 x5 x4 x0).getD default) ((v2.getD s1.2.toNat default).2.1) ((v2.getD s1.2.toNat default).2.2)).getD default),IntKind.i64.wrap (s1.2+1))
      else .out none
     else .out none
    else if (v2.getD s1.2.toNat default).1=246 then
     if s1.1=true→(r246 x1 x2 x3 x5 x4 x0).isSome=true then
      if s1.1=true→(r71 ((r246 x1 x2 x3 x5 x4 x0).getD default) ((v2.getD s1.2.toNat default).2.1) ((v2.getD s1.2.toNat default).2.2)).isSome=true then
       .next (s1.1 && ((r71 ((r246 x1 x2 x3 x5 x4 x0).getD default) ((v2.getD s1.2.toNat default).2.1) ((v2.getD s1.2.toNat default).2.2)).getD default),IntKind.i64.wrap (s1.2+1))
       else .out none
      else .out none
     else if (v2.getD s1.2.toNat default).1=247 then
      if s1.1=true→(r247 x1 x2 x3 x5 x4 x0).isSome=true then
       if s1.1=true→(r71 ((r247 x1 x2 x3 x5 x4 x0).getD default) ((v2.getD s1.2.toNat default).2.1) ((v2.getD s1.2.toNat default).2.2)).isSome=true then
        .next (s1.1 && ((r71 ((r247 x1 x2 x3 x5 x4 x0).getD default) ((v2.getD s1.2.toNat default).2.1) ((v2.getD s1.2.toNat default).2.2)).getD default),IntKind.i64.wrap (s1.2+1))
        else .out none
       else .out none
      else if (v2.getD s1.2.toNat default).1=248 then
       if s1.1=true→(r248 x1 x2 x3 x5 x4 x0).isSome=true then
        if s1.1=true→(r71 ((r248 x1 x2 x3 x5 x4 x0).getD default) ((v2.getD s1.2.toNat default).2.1) ((v2.getD s1.2.toNat default).2.2)).isSome=true then
         .next (s1.1 && ((r71 ((r248 x1 x2 x3 x5 x4 x0).getD default) ((v2.getD s1.2.toNat default).2.1) ((v2.getD s1.2.toNat default).2.2)).getD default),IntKind.i64.wrap (s1.2+1))
         else .out none
        else .out none
       else .out none
   else .out none
  else .out (if (x1 == 0)=true then
   (r65 (((x3 == 0) && (x4 == 0)) && ((x1 == 5) || (((hU x0).length:Int) == 0))) 3).bind fun v16=>
    (r65 s1.1 2).bind fun v17=>
     (r64 [v16,v17]).bind fun v18=>
      if ((v18 != 0) || (!(x1 == 5)))=true then
       some v18
       else if (a1 == 3)=true then
        some 16
        else (r65 (decide (((hU x0).length:Int)>0)) 10).bind fun v19=>
         (r65 (decide (((hU x0).length:Int)≤12)) 8).bind fun v20=>
          (r64 [v19,v20]).bind fun v21=>
           if (v21 != 0)=true then
            some v21
            else iterC (b128_2 R128 x0 a1) 1000000000 0
   else if (x1 == 2)=true then
    (r65 (((x2 == 0) && (x4 == 0)) && ((x1 == 5) || (((hU x0).length:Int) == 0))) 3).bind fun v24=>
     (r65 s1.1 2).bind fun v25=>
      (r64 [v24,v25]).bind fun v26=>
       if ((v26 != 0) || (!(x1 == 5)))=true then
        some v26
        else if (a1 == 3)=true then
         some 16
         else (r65 (decide (((hU x0).length:Int)>0)) 10).bind fun v27=>
          (r65 (decide (((hU x0).length:Int)≤12)) 8).bind fun v28=>
           (r64 [v27,v28]).bind fun v29=>
            if (v29 != 0)=true then
             some v29
             else iterC (b128_3 R128 x0 a1) 1000000000 0
    else if (x1 == 3)=true then
     (r65 ((x3 == 0) && ((x1 == 5) || (((hU x0).length:Int) == 0))) 3).bind fun v32=>
      (r65 s1.1 2).bind fun v33=>
       (r64 [v32,v33]).bind fun v34=>
        if ((v34 != 0) || (!(x1 == 5)))=true then
         some v34
         else if (a1 == 3)=true then
          some 16
          else (r65 (decide (((hU x0).length:Int)>0)) 10).bind fun v35=>
           (r65 (decide (((hU x0).length:Int)≤12)) 8).bind fun v36=>
            (r64 [v35,v36]).bind fun v37=>
             if (v37 != 0)=true then
              some v37
              else iterC (b128_4 R128 x0 a1) 1000000000 0
     else if (x1 == 4)=true then
      (r65 ((x2 == 0) && ((x1 == 5) || (((hU x0).length:Int) == 0))) 3).bind fun v40=>
       (r65 s1.1 2).bind fun v41=>
        (r64 [v40,v41]).bind fun v42=>
         if ((v42 != 0) || (!(x1 == 5)))=true then
          some v42
          else if (a1 == 3)=true then
           some 16
           else (r65 (decide (((hU x0).length:Int)>0)) 10).bind fun v43=>
            (r65 (decide (((hU x0).length:Int)≤12)) 8).bind fun v44=>
             (r64 [v43,v44]).bind fun v45=>
              if (v45 != 0)=true then
               some v45
               else iterC (b128_5 R128 x0 a1) 1000000000 0
      else (r65 ((((x2 == 0) && (x3 == 0)) && (x4 == 0)) && ((x1 == 5) || (((hU x0).length:Int) == 0))) 3).bind fun v48=>
       (r65 s1.1 2).bind fun v49=>
        (r64 [v48,v49]).bind fun v50=>
         if ((v50 != 0) || (!(x1 == 5)))=true then
          some v50
          else if (a1 == 3)=true then
           some 16
           else (r65 (decide (((hU x0).length:Int)>0)) 10).bind fun v51=>
            (r65 (decide (((hU x0).length:Int)≤12)) 8).bind fun v52=>
             (r64 [v51,v52]).bind fun v53=>
              if (v53 != 0)=true then
               some v53
               else iterC (b128_6 R128 x0 a1) 1000000000 0)
def q128 (lv:Nat) (R128:Int→Int→Int→Int→Int→Hl→Int→Option (Int)) (x1 x2 x3 x5 x4:Int) (x0:Hl) (a1:Int):Option (Int):=
 (r71 x1 0 5).bind fun v1=>
  if (!v1)=true then
   some 15
   else (r188 x1).bind fun v2=>
    iterC (b128_1 R128 x1 x2 x3 x5 x4 x0 a1 v2) 1000000000 (true,0)
def r128:(ix:Nat)→Int→Int→Int→Int→Int→Hl→Int→Option (Int)
 | 0=>fun _ _ _ _ _ _ _=>none
 | lv+1=>q128 lv (r128 lv)
@[go_sem] def T128 (ix:Nat):=qT22 qu3 false (r128 ix)
@[go_sem] def tb128 (lv:Nat) (k:Nat):=lk [(64,T64.sp),(65,T65.sp),(71,T71.sp),(128,(T128 lv).sp),(188,T188.sp),(245,T245.sp),(246,T246.sp),(247,T247.sp),(248,T248.sp)] k
theorem tb128_ok (lv:Nat) (h:FnFact Tryz.prog 128 (T128 lv).sp):FnsOk Tryz.prog (tb128 lv):= .cons f64 (.cons f65 (.cons f71 (.cons h (.cons f188 (.cons f245 (.cons f246 (.cons f247 (.cons f248 .nil))))))))
theorem f128 (ix:Nat):FnFact Tryz.prog 128 (T128 ix).sp:=by
 induction ix with
 | zero=>exact fact_no Tryz.func128 (by decide) rfl (fun ⟨x1,x2,x3,x5,x4,x0,a1⟩ h=>Bool.false_ne_true h)
 | succ lv ih=>
 refine valid_m ty_ok (tb128_ok lv ih) Tryz.func128 rfl Tryz.ntmps128 fun ⟨x1,x2,x3,x5,x4,x0,a1⟩ r hr=>⟨nL rfl,fun stop S=> ?_⟩
 replace hr:=(uq7 x1 x2 x3 x5 x4 x0 a1 (r128 (lv+1))).symm.trans hr
 rw [r128] at hr
 unfold q128 at hr
 refine S.gx [26,7,21] ?_
 obtain ⟨v1,hv1,hr⟩:=of_bind0 hr
 refine gb hv1 ?_
 refine iW hr (fun hc hr=>D0 hr) fun hc hr=> ?_
 obtain ⟨v2,hv2,hr⟩:=of_bind0 hr
 refine gb hv2 ?_
 refine S.li [1,2,5,6,19,20,21] [(2,2),(5,5)] [(19,19)] (fun s1=>⟨[sI 1 a1,sR 2 2,sR 5 5,(6,.c (.d (.bool s1.1))),sO 19 19,sI 20 (v2.length:Int),sI 21 s1.2],[(2,[iC x1,iC x2,iC x3,iC x5,iC x4,.d (hE x0)]),(5,[iC x1,iC x2,iC x3,iC x5,iC x4,.d (hE x0)])],[(19,.owned (encF 3 d_FII v2))]⟩) (b128_1 (r128 lv) x1 x2 x3 x5 x4 x0 a1 v2) (fun q=>q=r) hr rfl ?_
 intro s1 hr
 have z1:=S.ss [1,2,5,6,19,20,21] [(2,2),(5,5)] [(19,19)]
 unfold b128_1 at hr
 refine S.gw [26,7,21] ?_
 refine iW1 hr (fun hc hr=> ?_) fun hc hr=> ?_
 ·obtain ⟨hg15,hr⟩:=of_guard1 hr
  refine gr ?_
  by_cases hs12:(v2.getD s1.2.toNat default).1=245
  ·rw [if_pos hs12] at hr
   simp only [hs12]
   refine S.gx [26,21] ?_
   obtain ⟨hg13,hr⟩:=of_guard1 hr
   obtain ⟨hg14,hr⟩:=of_guard1 hr
   repeat (first | refine gG hg13 ?_ | refine gG hg14 ?_ | refine gA ?_ | refine gB ?_)
   exact D1 z1 hr
  ·rw [if_neg hs12] at hr
   by_cases hs9:(v2.getD s1.2.toNat default).1=246
   ·rw [if_pos hs9] at hr
    simp only [hs9]
    refine S.gx [26,21] ?_
    obtain ⟨hg10,hr⟩:=of_guard1 hr
    obtain ⟨hg11,hr⟩:=of_guard1 hr
    repeat (first | refine gG hg10 ?_ | refine gG hg11 ?_ | refine gA ?_ | refine gB ?_)
    exact D1 z1 hr
   ·rw [if_neg hs9] at hr
    by_cases hs6:(v2.getD s1.2.toNat default).1=247
    ·rw [if_pos hs6] at hr
     simp only [hs6]
     refine S.gx [26,21] ?_
     obtain ⟨hg7,hr⟩:=of_guard1 hr
     obtain ⟨hg8,hr⟩:=of_guard1 hr
     repeat (first | refine gG hg7 ?_ | refine gG hg8 ?_ | refine gA ?_ | refine gB ?_)
     exact D1 z1 hr
    ·rw [if_neg hs6] at hr
     by_cases hs3:(v2.getD s1.2.toNat default).1=248
     ·rw [if_pos hs3] at hr
      simp only [hs3]
      refine S.gx [26,21] ?_
      obtain ⟨hg4,hr⟩:=of_guard1 hr
      obtain ⟨hg5,hr⟩:=of_guard1 hr
      repeat (first | refine gG hg4 ?_ | refine gG hg5 ?_ | refine gA ?_ | refine gB ?_)
      exact D1 z1 hr
     ·rw [if_neg hs3] at hr
      first | cases hr | exact hr.elim
 ·refine gr ?_
  have hr:=of_out0 hr
  refine gr ?_
  refine iW hr (fun hc hr=> ?_) fun hc hr=> ?_
  ·repeat (first | refine gA ?_ | refine gB ?_)
   refine S.prune [1,2,6,9,10] ?_
   refine S.gx [26,7] ?_
   obtain ⟨v16,hv16,hr⟩:=of_bind0 hr
   obtain ⟨v17,hv17,hr⟩:=of_bind0 hr
   obtain ⟨v18,hv18,hr⟩:=of_bind0 hr
   refine gb hv16 ?_
   refine gb hv17 ?_
   refine gb hv18 ?_
   repeat (first | refine gA ?_ | refine gB ?_)
   refine iW hr (fun hc hr=>D0 hr) fun hc hr=> ?_
   refine gr ?_
   refine iW hr (fun hc hr=>D0 hr) fun hc hr=> ?_
   refine gr ?_
   refine S.inl 4 [11] [] Tryz.func183 (by decide) rfl Tryz.ntmps183 (fun cx e=>drawn_ok ty_ok (tb128_ok lv ih) cx e) (some 109) rfl rfl rfl rfl (nL rfl) (nL rfl) ?_
   refine gs ?_
   refine gr ?_
   intro stop1 S1
   refine S1.gx [] ?_
   obtain ⟨v19,hv19,hr⟩:=of_bind0 hr
   obtain ⟨v20,hv20,hr⟩:=of_bind0 hr
   obtain ⟨v21,hv21,hr⟩:=of_bind0 hr
   refine gb hv19 ?_
   refine gb hv20 ?_
   refine gb hv21 ?_
   refine iW hr (fun hc hr=> ?_) fun hc hr=> ?_
   ·refine S.gx [26,7,21] ?_
    exact D0 hr
   ·refine gr ?_
    refine S1.li [1,23,24,25] [] [] (fun s2=>⟨[sI 1 (IntKind.i64.wrap (a1+1)),(23,.c (.d (encF 6 d_IIIIIH (hU x0)))),sI 24 ((hU x0).length:Int),sI 25 s2],[],[]⟩) (b128_2 (r128 lv) x0 a1) (fun q=>q=r) hr rfl ?_
    intro s2 hr
    unfold b128_2 at hr
    refine S1.gw [] ?_
    refine iW1 hr (fun hc hr=> ?_) fun hc hr=> ?_
    ·obtain ⟨hg23,hr⟩:=of_guard1 hr
     obtain ⟨v22,hv22,hr⟩:=of_bind1 hr
     refine gb hv22 ?_
     refine iW1 hr (fun hc hr=> ?_) fun hc hr=>D1 (S1.ss [1,23,24,25] [] []) hr
     refine gr ?_
     have hr:=of_out0 hr
     refine S.gx [26,7,21] ?_
     exact D0 hr
    ·refine gr ?_
     have hr:=of_out0 hr
     refine S.gx [26,7,21] ?_
     exact D0 hr
  ·refine gr ?_
   refine iW hr (fun hc hr=> ?_) fun hc hr=> ?_
   ·repeat (first | refine gA ?_ | refine gB ?_)
    refine S.prune [1,2,6,9,10] ?_
    refine S.gx [26,7] ?_
    obtain ⟨v24,hv24,hr⟩:=of_bind0 hr
    obtain ⟨v25,hv25,hr⟩:=of_bind0 hr
    obtain ⟨v26,hv26,hr⟩:=of_bind0 hr
    refine gb hv24 ?_
    refine gb hv25 ?_
    refine gb hv26 ?_
    repeat (first | refine gA ?_ | refine gB ?_)
    refine iW hr (fun hc hr=>D0 hr) fun hc hr=> ?_
    refine gr ?_
    refine iW hr (fun hc hr=>D0 hr) fun hc hr=> ?_
    refine gr ?_
    refine S.inl 4 [11] [] Tryz.func183 (by decide) rfl Tryz.ntmps183 (fun cx e=>drawn_ok ty_ok (tb128_ok lv ih) cx e) (some 109) rfl rfl rfl rfl (nL rfl) (nL rfl) ?_
    refine gs ?_
    refine gr ?_
    intro stop1 S1
    refine S1.gx [] ?_
    obtain ⟨v27,hv27,hr⟩:=of_bind0 hr
    obtain ⟨v28,hv28,hr⟩:=of_bind0 hr
    obtain ⟨v29,hv29,hr⟩:=of_bind0 hr
    refine gb hv27 ?_
    refine gb hv28 ?_
    refine gb hv29 ?_
    refine iW hr (fun hc hr=> ?_) fun hc hr=> ?_
    ·refine S.gx [26,7,21] ?_
     exact D0 hr
    ·refine gr ?_
     refine S1.li [1,23,24,25] [] [] (fun s3=>⟨[sI 1 (IntKind.i64.wrap (a1+1)),(23,.c (.d (encF 6 d_IIIIIH (hU x0)))),sI 24 ((hU x0).length:Int),sI 25 s3],[],[]⟩) (b128_3 (r128 lv) x0 a1) (fun q=>q=r) hr rfl ?_
     intro s3 hr
     unfold b128_3 at hr
     refine S1.gw [] ?_
     refine iW1 hr (fun hc hr=> ?_) fun hc hr=> ?_
     ·obtain ⟨hg31,hr⟩:=of_guard1 hr
      obtain ⟨v30,hv30,hr⟩:=of_bind1 hr
      refine gb hv30 ?_
      refine iW1 hr (fun hc hr=> ?_) fun hc hr=>D1 (S1.ss [1,23,24,25] [] []) hr
      refine gr ?_
      have hr:=of_out0 hr
      refine S.gx [26,7,21] ?_
      exact D0 hr
     ·refine gr ?_
      have hr:=of_out0 hr
      refine S.gx [26,7,21] ?_
      exact D0 hr
   ·refine gr ?_
    refine iW hr (fun hc hr=> ?_) fun hc hr=> ?_
    ·repeat (first | refine gA ?_ | refine gB ?_)
     refine S.prune [1,2,6,9,10] ?_
     refine S.gx [26,7] ?_
     obtain ⟨v32,hv32,hr⟩:=of_bind0 hr
     obtain ⟨v33,hv33,hr⟩:=of_bind0 hr
     obtain ⟨v34,hv34,hr⟩:=of_bind0 hr
     refine gb hv32 ?_
     refine gb hv33 ?_
     refine gb hv34 ?_
     repeat (first | refine gA ?_ | refine gB ?_)
     refine iW hr (fun hc hr=>D0 hr) fun hc hr=> ?_
     refine gr ?_
     refine iW hr (fun hc hr=>D0 hr) fun hc hr=> ?_
     refine gr ?_
     refine S.inl 4 [11] [] Tryz.func183 (by decide) rfl Tryz.ntmps183 (fun cx e=>drawn_ok ty_ok (tb128_ok lv ih) cx e) (some 109) rfl rfl rfl rfl (nL rfl) (nL rfl) ?_
     refine gs ?_
     refine gr ?_
     intro stop1 S1
     refine S1.gx [] ?_
     obtain ⟨v35,hv35,hr⟩:=of_bind0 hr
     obtain ⟨v36,hv36,hr⟩:=of_bind0 hr
     obtain ⟨v37,hv37,hr⟩:=of_bind0 hr
     refine gb hv35 ?_
     refine gb hv36 ?_
     refine gb hv37 ?_
     refine iW hr (fun hc hr=> ?_) fun hc hr=> ?_
     ·refine S.gx [26,7,21] ?_
      exact D0 hr
     ·refine gr ?_
      refine S1.li [1,23,24,25] [] [] (fun s4=>⟨[sI 1 (IntKind.i64.wrap (a1+1)),(23,.c (.d (encF 6 d_IIIIIH (hU x0)))),sI 24 ((hU x0).length:Int),sI 25 s4],[],[]⟩) (b128_4 (r128 lv) x0 a1) (fun q=>q=r) hr rfl ?_
      intro s4 hr
      unfold b128_4 at hr
      refine S1.gw [] ?_
      refine iW1 hr (fun hc hr=> ?_) fun hc hr=> ?_
      ·obtain ⟨hg39,hr⟩:=of_guard1 hr
       obtain ⟨v38,hv38,hr⟩:=of_bind1 hr
       refine gb hv38 ?_
       refine iW1 hr (fun hc hr=> ?_) fun hc hr=>D1 (S1.ss [1,23,24,25] [] []) hr
       refine gr ?_
       have hr:=of_out0 hr
       refine S.gx [26,7,21] ?_
       exact D0 hr
      ·refine gr ?_
       have hr:=of_out0 hr
       refine S.gx [26,7,21] ?_
       exact D0 hr
    ·refine gr ?_
     refine iW hr (fun hc hr=> ?_) fun hc hr=> ?_
     ·repeat (first | refine gA ?_ | refine gB ?_)
      refine S.prune [1,2,6,9,10] ?_
      refine S.gx [26,7] ?_
      obtain ⟨v40,hv40,hr⟩:=of_bind0 hr
      obtain ⟨v41,hv41,hr⟩:=of_bind0 hr
      obtain ⟨v42,hv42,hr⟩:=of_bind0 hr
      refine gb hv40 ?_
      refine gb hv41 ?_
      refine gb hv42 ?_
      repeat (first | refine gA ?_ | refine gB ?_)
      refine iW hr (fun hc hr=>D0 hr) fun hc hr=> ?_
      refine gr ?_
      refine iW hr (fun hc hr=>D0 hr) fun hc hr=> ?_
      refine gr ?_
      refine S.inl 4 [11] [] Tryz.func183 (by decide) rfl Tryz.ntmps183 (fun cx e=>drawn_ok ty_ok (tb128_ok lv ih) cx e) (some 109) rfl rfl rfl rfl (nL rfl) (nL rfl) ?_
      refine gs ?_
      refine gr ?_
      intro stop1 S1
      refine S1.gx [] ?_
      obtain ⟨v43,hv43,hr⟩:=of_bind0 hr
      obtain ⟨v44,hv44,hr⟩:=of_bind0 hr
      obtain ⟨v45,hv45,hr⟩:=of_bind0 hr
      refine gb hv43 ?_
      refine gb hv44 ?_
      refine gb hv45 ?_
      refine iW hr (fun hc hr=> ?_) fun hc hr=> ?_
      ·refine S.gx [26,7,21] ?_
       exact D0 hr
      ·refine gr ?_
       refine S1.li [1,23,24,25] [] [] (fun s5=>⟨[sI 1 (IntKind.i64.wrap (a1+1)),(23,.c (.d (encF 6 d_IIIIIH (hU x0)))),sI 24 ((hU x0).length:Int),sI 25 s5],[],[]⟩) (b128_5 (r128 lv) x0 a1) (fun q=>q=r) hr rfl ?_
       intro s5 hr
       unfold b128_5 at hr
       refine S1.gw [] ?_
       refine iW1 hr (fun hc hr=> ?_) fun hc hr=> ?_
       ·obtain ⟨hg47,hr⟩:=of_guard1 hr
        obtain ⟨v46,hv46,hr⟩:=of_bind1 hr
        refine gb hv46 ?_
        refine iW1 hr (fun hc hr=> ?_) fun hc hr=>D1 (S1.ss [1,23,24,25] [] []) hr
        refine gr ?_
        have hr:=of_out0 hr
        refine S.gx [26,7,21] ?_
        exact D0 hr
       ·refine gr ?_
        have hr:=of_out0 hr
        refine S.gx [26,7,21] ?_
        exact D0 hr
     ·repeat (first | refine gA ?_ | refine gB ?_)
      refine S.prune [1,2,6,9,10] ?_
      refine S.gx [26,7] ?_
      obtain ⟨v48,hv48,hr⟩:=of_bind0 hr
      obtain ⟨v49,hv49,hr⟩:=of_bind0 hr
      obtain ⟨v50,hv50,hr⟩:=of_bind0 hr
      refine gb hv48 ?_
      refine gb hv49 ?_
      refine gb hv50 ?_
      repeat (first | refine gA ?_ | refine gB ?_)
      refine iW hr (fun hc hr=>D0 hr) fun hc hr=> ?_
      refine gr ?_
      refine iW hr (fun hc hr=>D0 hr) fun hc hr=> ?_
      refine gr ?_
      refine S.inl 4 [11] [] Tryz.func183 (by decide) rfl Tryz.ntmps183 (fun cx e=>drawn_ok ty_ok (tb128_ok lv ih) cx e) (some 109) rfl rfl rfl rfl (nL rfl) (nL rfl) ?_
      refine gs ?_
      refine gr ?_
      intro stop1 S1
      refine S1.gx [] ?_
      obtain ⟨v51,hv51,hr⟩:=of_bind0 hr
      obtain ⟨v52,hv52,hr⟩:=of_bind0 hr
      obtain ⟨v53,hv53,hr⟩:=of_bind0 hr
      refine gb hv51 ?_
      refine gb hv52 ?_
      refine gb hv53 ?_
      refine iW hr (fun hc hr=> ?_) fun hc hr=> ?_
      ·refine S.gx [26,7,21] ?_
       exact D0 hr
      ·refine gr ?_
       refine S1.li [1,23,24,25] [] [] (fun s6=>⟨[sI 1 (IntKind.i64.wrap (a1+1)),(23,.c (.d (encF 6 d_IIIIIH (hU x0)))),sI 24 ((hU x0).length:Int),sI 25 s6],[],[]⟩) (b128_6 (r128 lv) x0 a1) (fun q=>q=r) hr rfl ?_
       intro s6 hr
       unfold b128_6 at hr
       refine S1.gw [] ?_
       refine iW1 hr (fun hc hr=> ?_) fun hc hr=> ?_
       ·obtain ⟨hg55,hr⟩:=of_guard1 hr
        obtain ⟨v54,hv54,hr⟩:=of_bind1 hr
        refine gb hv54 ?_
        refine iW1 hr (fun hc hr=> ?_) fun hc hr=>D1 (S1.ss [1,23,24,25] [] []) hr
        refine gr ?_
        have hr:=of_out0 hr
        refine S.gx [26,7,21] ?_
        exact D0 hr
       ·refine gr ?_
        have hr:=of_out0 hr
        refine S.gx [26,7,21] ?_
        exact D0 hr
def b123_1 (a0:L_IIIIIH):Bd Int (Int×Int):=fun s1=>
 if (decide (s1<(a0.length:Int)))=true then
  if 0≤s1∧s1<(a0.length:Int) then
   bindC (r128 7 ((a0.getD s1.toNat default).1) ((a0.getD s1.toNat default).2.1) ((a0.getD s1.toNat default).2.2.1) ((a0.getD s1.toNat default).2.2.2.1) ((a0.getD s1.toNat default).2.2.2.2.1) ((a0.getD s1.toNat default).2.2.2.2.2) 0) fun v10=>
    if (v10 != 0)=true then
     .out (if (v10 != 0)=true then
      some (s1,v10)
      else (r178 a0).bind fun v11=>
       (r65 (decide ((v11.length:Int)≤60)) 8).bind fun v12=>
        if 0≤IntKind.i64.wrap ((v11.length:Int) - 1)∧IntKind.i64.wrap ((v11.length:Int) - 1)<(v11.length:Int) then
         (r68 ((v11.getD (IntKind.i64.wrap ((v11.length:Int) - 1)).toNat default).1)).bind fun v13=>
          (r65 v13 20).bind fun v14=>
           (r64 [v12,v14]).bind fun v15=>
            some (0,v15)
         else none)
     else .next (IntKind.i64.wrap (s1+1))
   else .out none
  else .out ((r178 a0).bind fun v18=>
   (r65 (decide ((v18.length:Int)≤60)) 8).bind fun v19=>
    if 0≤IntKind.i64.wrap ((v18.length:Int) - 1)∧IntKind.i64.wrap ((v18.length:Int) - 1)<(v18.length:Int) then
     (r68 ((v18.getD (IntKind.i64.wrap ((v18.length:Int) - 1)).toNat default).1)).bind fun v20=>
      (r65 v20 20).bind fun v21=>
       (r64 [v19,v21]).bind fun v22=>
        some (0,v22)
     else none)
def r123 (a0:L_IIIIIH):Option (Int×Int):=
 (r65 (decide ((a0.length:Int)>0)) 10).bind fun v1=>
  (r65 (decide ((a0.length:Int)≤12)) 8).bind fun v2=>
   (r64 [v1,v2]).bind fun v3=>
    if (v3 != 0)=true then
     if (v3 != 0)=true then
      some (0,v3)
      else (r178 a0).bind fun v4=>
       (r65 (decide ((v4.length:Int)≤60)) 8).bind fun v5=>
        if 0≤IntKind.i64.wrap ((v4.length:Int) - 1)∧IntKind.i64.wrap ((v4.length:Int) - 1)<(v4.length:Int) then
         (r68 ((v4.getD (IntKind.i64.wrap ((v4.length:Int) - 1)).toNat default).1)).bind fun v6=>
          (r65 v6 20).bind fun v7=>
           (r64 [v5,v7]).bind fun v8=>
            some (0,v8)
         else none
     else iterC (b123_1 a0) 1000000000 0
@[go_sem] def T123:=qT20 qu4 false r123
@[go_sem] def tb123 (k:Nat):=lk [(64,T64.sp),(65,T65.sp),(68,T68.sp),(128,(T128 7).sp),(178,T178.sp)] k
theorem tb123_ok:FnsOk Tryz.prog tb123:= .cons f64 (.cons f65 (.cons f68 (.cons (f128 7) (.cons f178 .nil))))
theorem f123:FnFact Tryz.prog 123 T123.sp:=by
 refine vm (tb:=tb123) (.cons f64 (.cons f65 (.cons f68 (.cons (f128 7) (.cons f178 .nil))))) Tryz.func123 Tryz.ntmps123 fun a0 r hr stop S=> ?_
 rw [uq1,r123] at hr
 refine S.gx [1] ?_
 refine gr ?_
 refine S.inl 1 [0] [] Tryz.func183 (by decide) rfl Tryz.ntmps183 (fun cx e=>drawn_ok ty_ok tb123_ok cx e) (some 9) rfl rfl rfl rfl (nL rfl) (nL rfl) ?_
 refine gs ?_
 refine gr ?_
 intro stop1 S1
 refine S1.gx [] ?_
 obtain ⟨v1,hv1,hr⟩:=of_bind0 hr
 obtain ⟨v2,hv2,hr⟩:=of_bind0 hr
 obtain ⟨v3,hv3,hr⟩:=of_bind0 hr
 refine gb hv1 ?_
 refine gb hv2 ?_
 refine gb hv3 ?_
 refine iW hr (fun hc hr=> ?_) fun hc hr=> ?_
 ·refine S.gx [1] ?_
  exact D0 hr
 ·refine gr ?_
  refine S1.li [1,23,24,25] [] [] (fun s1=>⟨[sI 1 0,(23,.c (.d (encF 6 d_IIIIIH a0))),sI 24 (a0.length:Int),sI 25 s1],[],[]⟩) (b123_1 a0) (fun q=>q=r) hr rfl ?_
  intro s1 hr
  unfold b123_1 at hr
  refine S1.gw [] ?_
  refine iW1 hr (fun hc hr=> ?_) fun hc hr=> ?_
  ·obtain ⟨hg17,hr⟩:=of_guard1 hr
   obtain ⟨v10,hv10,hr⟩:=of_bind1 hr
   refine gb hv10 ?_
   refine iW1 hr (fun hc hr=> ?_) fun hc hr=>D1 (S1.ss [1,23,24,25] [] []) hr
   refine gr ?_
   have hr:=of_out0 hr
   refine S.gx [1] ?_
   exact D0 hr
  ·refine gr ?_
   have hr:=of_out0 hr
   refine S.gx [1] ?_
   exact D0 hr
def r117 (a0:L_IIIIIH):Option (L_IIIIIH×Int):=
 (r123 a0).bind fun v1=>
  if (v1.2 != 0)=true then
   some ([],v1.2)
   else (r178 a0).bind fun v2=>
    some (v2,0)
@[go_sem] def T117:=qT20 qu11 true r117
@[go_sem] def tb117 (k:Nat):=lk [(123,T123.sp),(178,T178.sp)] k
theorem f117:FnFact Tryz.prog 117 T117.sp:=by
 refine vm (tb:=tb117) (.cons f123 (.cons f178 .nil)) Tryz.func117 Tryz.ntmps117 fun a0 r hr stop S=> ?_
 rw [uq1,r117] at hr
 refine S.gx [] ?_
 exact D0 hr
def r118 (x1 x2:Int) (x3:L_II) (x0:L_LIIE) (x4 x5:L_I) (x6:L_II) (x7 x8:Int):Option (Int):=
 some (IntKind.i64.wrap ((x0.length:Int) - 1))
@[go_sem] def T118:=qT19 qu3 false r118
theorem f118:FnFact Tryz.prog 118 T118.sp:=by
 refine vm .nil Tryz.func118 Tryz.ntmps118 fun ⟨x1,x2,x3,x0,x4,x5,x6,x7,x8⟩ r hr stop S=> ?_
 rw [uq9,r118] at hr
 refine S.gx [] ?_
 exact D0 hr
def r272 (x1 x2:Int) (x3:L_II) (x4:L_LIIE) (x0:L_II) (x5:L_LIIE) (a1:Int):Option (Int×Int):=
 (r252 x0 a1 1).bind fun v1=>
  some (v1.1,v1.2)
@[go_sem] def T272:=qT13 qu7 false r272
@[go_sem] def tb272 (k:Nat):=lk [(252,T252.sp)] k
theorem f272:FnFact Tryz.prog 272 T272.sp:=by
 refine vm (tb:=tb272) (.cons f252 .nil) Tryz.func272 Tryz.ntmps272 fun ⟨x1,x2,x3,x4,x0,x5,a1⟩ r hr stop S=> ?_
 rw [uq7,r272] at hr
 refine S.gx [] ?_
 exact D0 hr
def b273_1:Bd (Int×Int) Int:=fun s1=>
 if (s1.2 != 0)=true then
  if s1.2≠0 then
   .next (s1.2,s1.1.tmod s1.2)
   else .out none
  else .out (some (if s1.1<IntKind.i64.wrap (0 - s1.1) then IntKind.i64.wrap (0 - s1.1) else s1.1))
def r273 (a0 a1:Int):Option (Int):=
 iterC (b273_1) 1000000000 (a0,a1)
@[go_sem] def T273:=qT7 qu3 false r273
theorem f273:FnFact Tryz.prog 273 T273.sp:=by
 refine vm .nil Tryz.func273 Tryz.ntmps273 fun ⟨a0,a1⟩ r hr stop S=> ?_
 rw [uq2,r273] at hr
 refine S.gx [] ?_
 refine gr ?_
 refine S.li [0,1] [] [] (fun s1=>⟨[sI 0 s1.1,sI 1 s1.2],[],[]⟩) (b273_1) (fun q=>q=r) hr rfl ?_
 intro s1 hr
 unfold b273_1 at hr
 refine S.gx [] ?_
 exact D1 (S.ss [0,1] [] []) hr
def r214 (x0 x1:Int) (x2:L_II) (x3:L_LIIE) (a1:Int):Option (Int×Int×Int):=
 (r193 x0 x1 x2 x3).bind fun v1=>
  if (v1.2.2.2.2.2.2 == 0)=true then
   (r223 v1.1 v1.2.1 v1.2.2.1 v1.2.2.2.1 v1.2.2.2.2.1 v1.2.2.2.2.2.1 a1).bind fun v2=>
    (r216 v2 2).bind fun v3=>
     if (v3 != 0)=true then
      some (0,0,v3)
      else (r272 v1.1 v1.2.1 v1.2.2.1 v1.2.2.2.1 v1.2.2.2.2.1 v1.2.2.2.2.2.1 a1).bind fun v4=>
       (r273 v4.1 v4.2).bind fun v5=>
        if v5≠0 then
         if v5≠0 then
          some (IntKind.i64.wrap (v4.1.tdiv v5),IntKind.i64.wrap (v4.2.tdiv v5),0)
          else none
         else none
   else if (v1.2.2.2.2.2.2 != 0)=true then
    some (0,0,v1.2.2.2.2.2.2)
    else (r272 v1.1 v1.2.1 v1.2.2.1 v1.2.2.2.1 v1.2.2.2.2.1 v1.2.2.2.2.2.1 a1).bind fun v8=>
     (r273 v8.1 v8.2).bind fun v9=>
      if v9≠0 then
       if v9≠0 then
        some (IntKind.i64.wrap (v8.1.tdiv v9),IntKind.i64.wrap (v8.2.tdiv v9),0)
        else none
       else none
@[go_sem] def T214:=qT23 qu12 false r214
@[go_sem] def tb214 (k:Nat):=lk [(193,T193.sp),(216,T216.sp),(223,T223.sp),(272,T272.sp),(273,T273.sp)] k
theorem f214:FnFact Tryz.prog 214 T214.sp:=by
 refine vm (tb:=tb214) (.cons f193 (.cons f216 (.cons f223 (.cons f272 (.cons f273 .nil))))) Tryz.func214 Tryz.ntmps214 fun ⟨x0,x1,x2,x3,a1⟩ r hr stop S=> ?_
 rw [uq5,r214] at hr
 refine S.gx [] ?_
 exact D0 hr
def r173 (x0 x1:Int) (x2:L_II) (x3:L_LIIE) (x4 x5:L_I) (x6:L_II) (x7 x8 a1 a2:Int):Option (Int):=
 (r214 x0 x1 x2 x3 a1).bind fun v1=>
  some (IntKind.i64.wrap (v1.1 - (IntKind.i64.wrap (a2*v1.2.1))))
@[go_sem] def T173:=qT24 qu3 false r173
@[go_sem] def tb173 (k:Nat):=lk [(214,T214.sp)] k
theorem f173:FnFact Tryz.prog 173 T173.sp:=by
 refine vm (tb:=tb173) (.cons f214 .nil) Tryz.func173 Tryz.ntmps173 fun ⟨x0,x1,x2,x3,x4,x5,x6,x7,x8,a1,a2⟩ r hr stop S=> ?_
 rw [uq11,r173] at hr
 refine S.gx [] ?_
 exact D0 hr
def r161 (x0 x1:Int):Option (Int):=
 some x0
@[go_sem] def T161:=qT25 qu3 false r161
theorem f161:FnFact Tryz.prog 161 T161.sp:=by
 refine vm .nil Tryz.func161 Tryz.ntmps161 fun ⟨x0,x1⟩ r hr stop S=> ?_
 rw [uq2,r161] at hr
 refine S.gx [] ?_
 exact D0 hr
def r238 (x0 x1:Int):Option (Int):=
 some (IntKind.i64.wrap ((IntKind.i64.wrap (x0+x1)).tdiv 2))
@[go_sem] def T238:=qT25 qu3 false r238
theorem f238:FnFact Tryz.prog 238 T238.sp:=by
 refine vm .nil Tryz.func238 Tryz.ntmps238 fun ⟨x0,x1⟩ r hr stop S=> ?_
 rw [uq2,r238] at hr
 refine S.gx [] ?_
 exact D0 hr
def r162 (x1 x0:Int):Option (Int):=
 some x0
@[go_sem] def T162:=qT25 qu3 false r162
theorem f162:FnFact Tryz.prog 162 T162.sp:=by
 refine vm .nil Tryz.func162 Tryz.ntmps162 fun ⟨x1,x0⟩ r hr stop S=> ?_
 rw [uq2,r162] at hr
 refine S.gx [] ?_
 exact D0 hr
end Go.Proofs.YtnepigpnlnmlmaaGreatDoor

/- Contracts of functions, written by wip/dec. -/
import Derived.Test.YtkbdjphdhcgmaaaGreatDoorF00
import Derived.Test.YtkbdjphdhcgmaaaGreatDoorF01
import Derived.Test.YtkbdjphdhcgmaaaGreatDoorF02
set_option linter.unusedVariables false
set_option linter.unusedSimpArgs false
set_option linter.constructorNameAsVariable false
set_option maxHeartbeats 4000000
set_option maxRecDepth 20000
namespace Go.Proofs.YtkbdjphdhcgmaaaGreatDoor
open Go.Abs
section
variable {β:Type} [Inhabited β] (u:β→List RV) (al:Bool)
def qw22 (a0 a1 a2 a3 a4:Int) (a5:Hl) (a6:Int):List Arg:=[.agg [.int .i64 a0,.int .i64 a1,.int .i64 a2,.int .i64 a3,.int .i64 a4,hE a5],.c (.int .i64 a6)]
def qd22:List Arg→Int×Int×Int×Int×Int×Hl×Int
 | [.agg [c0,c1,c2,c3,c4,c5],.c c6]=>(dInt c0,dInt c1,dInt c2,dInt c3,dInt c4,hD c5,dInt c6)
 | _=>default
def qT22 (r:Int→Int→Int→Int→Int→Hl→Int→Option β):=mkT (u7 qw22) qd22 (u7 r) u al
attribute [go_sem] qw22 qd22 qT22
def qu10 (v:L_FII):List RV:=[.c (.own (encF 3 d_FII v))]
attribute [go_sem] qu10
def qu11 (v:L_IIIIIH×Int):List RV:=[.c (.own (encF 6 d_IIIIIH v.1)),.c (.d (.int .i64 v.2))]
attribute [go_sem] qu11
def qu12 (v:Int×Int×Int):List RV:=[.agg [.d (.int .i64 v.1),.d (.int .i64 v.2.1)],.c (.d (.int .i64 v.2.2))]
attribute [go_sem] qu12
end
def r96 (a0:Int):Option (L_FII):=
 if (a0 == 0)=true then
  some [(140,1,10000),(142,1,200)]
  else if (a0 == 1)=true then
   some [(142,1,200)]
   else if (a0 == 2)=true then
    some [(141,0,3),(142,1,200)]
    else if (a0 == 3)=true then
     some [(143,200,3000),(140,1,10000),(142,1,200)]
     else if (a0 == 4)=true then
      some [(143,200,3000),(141,0,3),(142,1,200)]
      else if (a0 == 5)=true then
       some [(142,1,10)]
       else some []
@[go_sem] def T96:=qT4 qu10 true r96
theorem f96:FnFact Tryz.prog 96 T96.sp:=by
 refine vm .nil Tryz.func96 Tryz.ntmps96 fun a0 r hr stop S=> ?_
 rw [uq1,r96] at hr
 refine S.gx [] ?_
 exact D0 hr
def r143 (x1 x2 x3 x4 x0:Int) (x5:Hl):Option (Int):=
 some x0
@[go_sem] def T143:=qT21 qu3 false r143
theorem f143:FnFact Tryz.prog 143 T143.sp:=by
 refine vm .nil Tryz.func143 Tryz.ntmps143 fun ⟨x1,x2,x3,x4,x0,x5⟩ r hr stop S=> ?_
 rw [uq6,r143] at hr
 refine S.gx [] ?_
 exact D0 hr
def r142 (x1 x2 x3 x0 x4:Int) (x5:Hl):Option (Int):=
 some x0
@[go_sem] def T142:=qT21 qu3 false r142
theorem f142:FnFact Tryz.prog 142 T142.sp:=by
 refine vm .nil Tryz.func142 Tryz.ntmps142 fun ⟨x1,x2,x3,x0,x4,x5⟩ r hr stop S=> ?_
 rw [uq6,r142] at hr
 refine S.gx [] ?_
 exact D0 hr
def r141 (x1 x2 x0 x3 x4:Int) (x5:Hl):Option (Int):=
 some x0
@[go_sem] def T141:=qT21 qu3 false r141
theorem f141:FnFact Tryz.prog 141 T141.sp:=by
 refine vm .nil Tryz.func141 Tryz.ntmps141 fun ⟨x1,x2,x0,x3,x4,x5⟩ r hr stop S=> ?_
 rw [uq6,r141] at hr
 refine S.gx [] ?_
 exact D0 hr
def r140 (x1 x0 x2 x3 x4:Int) (x5:Hl):Option (Int):=
 some x0
@[go_sem] def T140:=qT21 qu3 false r140
theorem f140:FnFact Tryz.prog 140 T140.sp:=by
 refine vm .nil Tryz.func140 Tryz.ntmps140 fun ⟨x1,x0,x2,x3,x4,x5⟩ r hr stop S=> ?_
 rw [uq6,r140] at hr
 refine S.gx [] ?_
 exact D0 hr
def b67_2 (R67:Int→Int→Int→Int→Int→Hl→Int→Option (Int)) (x0:Hl) (a1:Int):Bd Int Int:=fun s2=>
 if (decide (s2<((hU x0).length:Int)))=true then
  if 0≤s2∧s2<((hU x0).length:Int) then
   bindC (R67 (((hU x0).getD s2.toNat default).1) (((hU x0).getD s2.toNat default).2.1) (((hU x0).getD s2.toNat default).2.2.1) (((hU x0).getD s2.toNat default).2.2.2.1) (((hU x0).getD s2.toNat default).2.2.2.2.1) (((hU x0).getD s2.toNat default).2.2.2.2.2) (IntKind.i64.wrap (a1+1))) fun v22=>
    if (v22 != 0)=true then
     .out (some v22)
     else .next (IntKind.i64.wrap (s2+1))
   else .out none
  else .out (some 0)
def b67_3 (R67:Int→Int→Int→Int→Int→Hl→Int→Option (Int)) (x0:Hl) (a1:Int):Bd Int Int:=fun s3=>
 if (decide (s3<((hU x0).length:Int)))=true then
  if 0≤s3∧s3<((hU x0).length:Int) then
   bindC (R67 (((hU x0).getD s3.toNat default).1) (((hU x0).getD s3.toNat default).2.1) (((hU x0).getD s3.toNat default).2.2.1) (((hU x0).getD s3.toNat default).2.2.2.1) (((hU x0).getD s3.toNat default).2.2.2.2.1) (((hU x0).getD s3.toNat default).2.2.2.2.2) (IntKind.i64.wrap (a1+1))) fun v30=>
    if (v30 != 0)=true then
     .out (some v30)
     else .next (IntKind.i64.wrap (s3+1))
   else .out none
  else .out (some 0)
def b67_4 (R67:Int→Int→Int→Int→Int→Hl→Int→Option (Int)) (x0:Hl) (a1:Int):Bd Int Int:=fun s4=>
 if (decide (s4<((hU x0).length:Int)))=true then
  if 0≤s4∧s4<((hU x0).length:Int) then
   bindC (R67 (((hU x0).getD s4.toNat default).1) (((hU x0).getD s4.toNat default).2.1) (((hU x0).getD s4.toNat default).2.2.1) (((hU x0).getD s4.toNat default).2.2.2.1) (((hU x0).getD s4.toNat default).2.2.2.2.1) (((hU x0).getD s4.toNat default).2.2.2.2.2) (IntKind.i64.wrap (a1+1))) fun v38=>
    if (v38 != 0)=true then
     .out (some v38)
     else .next (IntKind.i64.wrap (s4+1))
   else .out none
  else .out (some 0)
def b67_5 (R67:Int→Int→Int→Int→Int→Hl→Int→Option (Int)) (x0:Hl) (a1:Int):Bd Int Int:=fun s5=>
 if (decide (s5<((hU x0).length:Int)))=true then
  if 0≤s5∧s5<((hU x0).length:Int) then
   bindC (R67 (((hU x0).getD s5.toNat default).1) (((hU x0).getD s5.toNat default).2.1) (((hU x0).getD s5.toNat default).2.2.1) (((hU x0).getD s5.toNat default).2.2.2.1) (((hU x0).getD s5.toNat default).2.2.2.2.1) (((hU x0).getD s5.toNat default).2.2.2.2.2) (IntKind.i64.wrap (a1+1))) fun v46=>
    if (v46 != 0)=true then
     .out (some v46)
     else .next (IntKind.i64.wrap (s5+1))
   else .out none
  else .out (some 0)
def b67_6 (R67:Int→Int→Int→Int→Int→Hl→Int→Option (Int)) (x0:Hl) (a1:Int):Bd Int Int:=fun s6=>
 if (decide (s6<((hU x0).length:Int)))=true then
  if 0≤s6∧s6<((hU x0).length:Int) then
   bindC (R67 (((hU x0).getD s6.toNat default).1) (((hU x0).getD s6.toNat default).2.1) (((hU x0).getD s6.toNat default).2.2.1) (((hU x0).getD s6.toNat default).2.2.2.1) (((hU x0).getD s6.toNat default).2.2.2.2.1) (((hU x0).getD s6.toNat default).2.2.2.2.2) (IntKind.i64.wrap (a1+1))) fun v54=>
    if (v54 != 0)=true then
     .out (some v54)
     else .next (IntKind.i64.wrap (s6+1))
   else .out none
  else .out (some 0)
def b67_1 (R67:Int→Int→Int→Int→Int→Hl→Int→Option (Int)) (x1 x2 x3 x5 x4:Int) (x0:Hl) (a1:Int) (v2:L_FII):Bd (Bool×Int) Int:=fun s1=>
 if (decide (s1.2<(v2.length:Int)))=true then
  if 0≤s1.2∧s1.2<(v2.length:Int) then
   if (v2.getD s1.2.toNat default).1=140 then
    if s1.1=true→(r140 x1 x2 x3 x5 x4 x0).isSome=true then
     if s1.1=true→(r46 ((r140 x1 x2 x3 x5 x4 x0).getD default) ((v2.getD s1.2.toNat default).2.1) ((v2.getD s1.2.toNat default).2.2)).isSome=true then
      .next (s1.1 && ((r46 ((r140 x1 x2 x3 x5 x4 x0).getD default) ((v2.getD s1.2.toNat default).2.1) ((v2.getD s1.2.toNat default).2.2)).getD default),IntKind.i64.wrap (s1.2+1))
      else .out none
     else .out none
    else if (v2.getD s1.2.toNat default).1=141 then
     if s1.1=true→(r141 x1 x2 x3 x5 x4 x0).isSome=true then
      if s1.1=true→(r46 ((r141 x1 x2 x3 x5 x4 x0).getD default) ((v2.getD s1.2.toNat default).2.1) ((v2.getD s1.2.toNat default).2.2)).isSome=true then
       .next (s1.1 && ((r46 ((r141 x1 x2 x3 x5 x4 x0).getD default) ((v2.getD s1.2.toNat default).2.1) ((v2.getD s1.2.toNat default).2.2)).getD default),IntKind.i64.wrap (s1.2+1))
       else .out none
      else .out none
     else if (v2.getD s1.2.toNat default).1=142 then
      if s1.1=true→(r142 x1 x2 x3 x5 x4 x0).isSome=true then
       if s1.1=true→(r46 ((r142 x1 x2 x3 x5 x4 x0).getD default) ((v2.getD s1.2.toNat default).2.1) ((v2.getD s1.2.toNat default).2.2)).isSome=true then
        .next (s1.1 && ((r46 ((r142 x1 x2 x3 x5 x4 x0).getD default) ((v2.getD s1.2.toNat default).2.1) ((v2.getD s1.2.toNat default).2.2)).getD default),IntKind.i64.wrap (s1.2+1))
        else .out none
       else .out none
      else if (v2.getD s1.2.toNat default).1=143 then
       if s1.1=true→(r143 x1 x2 x3 x5 x4 x0).isSome=true then
        if s1.1=true→(r46 ((r143 x1 x2 x3 x5 x4 x0).getD default) ((v2.getD s1.2.toNat default).2.1) ((v2.getD s1.2.toNat default).2.2)).isSome=true then
         .next (s1.1 && ((r46 ((r143 x1 x2 x3 x5 x4 x0).getD default) ((v2.getD s1.2.toNat default).2.1) ((v2.getD s1.2.toNat default).2.2)).getD default),IntKind.i64.wrap (s1.2+1))
         else .out none
        else .out none
       else .out none
   else .out none
  else .out (if (x1 == 0)=true then
   (r40 (((x3 == 0) && (x4 == 0)) && ((x1 == 5) || (((hU x0).length:Int) == 0))) 3).bind fun v16=>
    (r40 s1.1 2).bind fun v17=>
     (r39 [v16,v17]).bind fun v18=>
      if ((v18 != 0) || (!(x1 == 5)))=true then
       some v18
       else if (a1 == 3)=true then
        some 16
        else (r40 (decide (((hU x0).length:Int)>0)) 10).bind fun v19=>
         (r40 (decide (((hU x0).length:Int)≤12)) 8).bind fun v20=>
          (r39 [v19,v20]).bind fun v21=>
           if (v21 != 0)=true then
            some v21
            else iterC (b67_2 R67 x0 a1) 1000000000 0
   else if (x1 == 2)=true then
    (r40 (((x2 == 0) && (x4 == 0)) && ((x1 == 5) || (((hU x0).length:Int) == 0))) 3).bind fun v24=>
     (r40 s1.1 2).bind fun v25=>
      (r39 [v24,v25]).bind fun v26=>
       if ((v26 != 0) || (!(x1 == 5)))=true then
        some v26
        else if (a1 == 3)=true then
         some 16
         else (r40 (decide (((hU x0).length:Int)>0)) 10).bind fun v27=>
          (r40 (decide (((hU x0).length:Int)≤12)) 8).bind fun v28=>
           (r39 [v27,v28]).bind fun v29=>
            if (v29 != 0)=true then
             some v29
             else iterC (b67_3 R67 x0 a1) 1000000000 0
    else if (x1 == 3)=true then
     (r40 ((x3 == 0) && ((x1 == 5) || (((hU x0).length:Int) == 0))) 3).bind fun v32=>
      (r40 s1.1 2).bind fun v33=>
       (r39 [v32,v33]).bind fun v34=>
        if ((v34 != 0) || (!(x1 == 5)))=true then
         some v34
         else if (a1 == 3)=true then
          some 16
          else (r40 (decide (((hU x0).length:Int)>0)) 10).bind fun v35=>
           (r40 (decide (((hU x0).length:Int)≤12)) 8).bind fun v36=>
            (r39 [v35,v36]).bind fun v37=>
             if (v37 != 0)=true then
              some v37
              else iterC (b67_4 R67 x0 a1) 1000000000 0
     else if (x1 == 4)=true then
      (r40 ((x2 == 0) && ((x1 == 5) || (((hU x0).length:Int) == 0))) 3).bind fun v40=>
       (r40 s1.1 2).bind fun v41=>
        (r39 [v40,v41]).bind fun v42=>
         if ((v42 != 0) || (!(x1 == 5)))=true then
          some v42
          else if (a1 == 3)=true then
           some 16
           else (r40 (decide (((hU x0).length:Int)>0)) 10).bind fun v43=>
            (r40 (decide (((hU x0).length:Int)≤12)) 8).bind fun v44=>
             (r39 [v43,v44]).bind fun v45=>
              if (v45 != 0)=true then
               some v45
               else iterC (b67_5 R67 x0 a1) 1000000000 0
      else (r40 ((((x2 == 0) && (x3 == 0)) && (x4 == 0)) && ((x1 == 5) || (((hU x0).length:Int) == 0))) 3).bind fun v48=>
       (r40 s1.1 2).bind fun v49=>
        (r39 [v48,v49]).bind fun v50=>
         if ((v50 != 0) || (!(x1 == 5)))=true then
          some v50
          else if (a1 == 3)=true then
           some 16
           else (r40 (decide (((hU x0).length:Int)>0)) 10).bind fun v51=>
            (r40 (decide (((hU x0).length:Int)≤12)) 8).bind fun v52=>
             (r39 [v51,v52]).bind fun v53=>
              if (v53 != 0)=true then
               some v53
               else iterC (b67_6 R67 x0 a1) 1000000000 0)
def q67 (lv:Nat) (R67:Int→Int→Int→Int→Int→Hl→Int→Option (Int)) (x1 x2 x3 x5 x4:Int) (x0:Hl) (a1:Int):Option (Int):=
 (r46 x1 0 5).bind fun v1=>
  if (!v1)=true then
   some 15
   else (r96 x1).bind fun v2=>
    iterC (b67_1 R67 x1 x2 x3 x5 x4 x0 a1 v2) 1000000000 (true,0)
def r67:(ix:Nat)→Int→Int→Int→Int→Int→Hl→Int→Option (Int)
 | 0=>fun _ _ _ _ _ _ _=>none
 | lv+1=>q67 lv (r67 lv)
@[go_sem] def T67 (ix:Nat):=qT22 qu3 false (r67 ix)
@[go_sem] def tb67 (lv:Nat) (k:Nat):=lk [(39,T39.sp),(40,T40.sp),(46,T46.sp),(67,(T67 lv).sp),(96,T96.sp),(140,T140.sp),(141,T141.sp),(142,T142.sp),(143,T143.sp)] k
theorem tb67_ok (lv:Nat) (h:FnFact Tryz.prog 67 (T67 lv).sp):FnsOk Tryz.prog (tb67 lv):= .cons f39 (.cons f40 (.cons f46 (.cons h (.cons f96 (.cons f140 (.cons f141 (.cons f142 (.cons f143 .nil))))))))
theorem f67 (ix:Nat):FnFact Tryz.prog 67 (T67 ix).sp:=by
 induction ix with
 | zero=>exact fact_no Tryz.func67 (by decide) rfl (fun ⟨x1,x2,x3,x5,x4,x0,a1⟩ h=>Bool.false_ne_true h)
 | succ lv ih=>
 refine valid_m ty_ok (tb67_ok lv ih) Tryz.func67 rfl Tryz.ntmps67 fun ⟨x1,x2,x3,x5,x4,x0,a1⟩ r hr=>⟨nL rfl,fun stop S=> ?_⟩
 replace hr:=(uq7 x1 x2 x3 x5 x4 x0 a1 (r67 (lv+1))).symm.trans hr
 rw [r67] at hr
 unfold q67 at hr
 refine S.gx [26,7,21] ?_
 obtain ⟨v1,hv1,hr⟩:=of_bind0 hr
 refine gb hv1 ?_
 refine iW hr (fun hc hr=>D0 hr) fun hc hr=> ?_
 obtain ⟨v2,hv2,hr⟩:=of_bind0 hr
 refine gb hv2 ?_
 refine S.sees [1,2,5,6,19,20,21] [(2,2),(5,5)] [(19,19)] ?_ (Stop.iter S (fun s1=>⟨[(1,.c (.d (.int .i64 a1))),(2,.c (.ref 2 0)),(5,.c (.ref 5 0)),(6,.c (.d (.bool s1.1))),(19,.c (.own 19)),(20,.c (.d (.int .i64 (v2.length:Int)))),(21,.c (.d (.int .i64 s1.2)))],[(2,[.d (.int .i64 x1),.d (.int .i64 x2),.d (.int .i64 x3),.d (.int .i64 x5),.d (.int .i64 x4),.d (hE x0)]),(5,[.d (.int .i64 x1),.d (.int .i64 x2),.d (.int .i64 x3),.d (.int .i64 x5),.d (.int .i64 x4),.d (hE x0)])],[(19,.owned (encF 3 d_FII v2))]⟩) (b67_1 (r67 lv) x1 x2 x3 x5 x4 x0 a1 v2) (fun q=>q=r) hr rfl ?_)
 ·exact lf
 ·intro s1 hr
  unfold b67_1 at hr
  refine S.gx [26,7,21] ?_
  refine gr ?_
  refine iW1 hr (fun hc hr=> ?_) fun hc hr=> ?_
  ·obtain ⟨hg15,hr⟩:=of_guard1 hr
   refine gr ?_
   by_cases hs12:(v2.getD s1.2.toNat default).1=140
   ·rw [if_pos hs12] at hr
    simp only [hs12]
    refine S.gx [26,21] ?_
    obtain ⟨hg13,hr⟩:=of_guard1 hr
    obtain ⟨hg14,hr⟩:=of_guard1 hr
    repeat (first | refine gG hg13 ?_ | refine gG hg14 ?_ | refine gA ?_ | refine gB ?_)
    exact D1 (S.ss [1,2,5,6,19,20,21] [(2,2),(5,5)] [(19,19)]) hr
   ·rw [if_neg hs12] at hr
    by_cases hs9:(v2.getD s1.2.toNat default).1=141
    ·rw [if_pos hs9] at hr
     simp only [hs9]
     refine S.gx [26,21] ?_
     obtain ⟨hg10,hr⟩:=of_guard1 hr
     obtain ⟨hg11,hr⟩:=of_guard1 hr
     repeat (first | refine gG hg10 ?_ | refine gG hg11 ?_ | refine gA ?_ | refine gB ?_)
     exact D1 (S.ss [1,2,5,6,19,20,21] [(2,2),(5,5)] [(19,19)]) hr
    ·rw [if_neg hs9] at hr
     by_cases hs6:(v2.getD s1.2.toNat default).1=142
     ·rw [if_pos hs6] at hr
      simp only [hs6]
      refine S.gx [26,21] ?_
      obtain ⟨hg7,hr⟩:=of_guard1 hr
      obtain ⟨hg8,hr⟩:=of_guard1 hr
      repeat (first | refine gG hg7 ?_ | refine gG hg8 ?_ | refine gA ?_ | refine gB ?_)
      exact D1 (S.ss [1,2,5,6,19,20,21] [(2,2),(5,5)] [(19,19)]) hr
     ·rw [if_neg hs6] at hr
      by_cases hs3:(v2.getD s1.2.toNat default).1=143
      ·rw [if_pos hs3] at hr
       simp only [hs3]
       refine S.gx [26,21] ?_
       obtain ⟨hg4,hr⟩:=of_guard1 hr
       obtain ⟨hg5,hr⟩:=of_guard1 hr
       repeat (first | refine gG hg4 ?_ | refine gG hg5 ?_ | refine gA ?_ | refine gB ?_)
       exact D1 (S.ss [1,2,5,6,19,20,21] [(2,2),(5,5)] [(19,19)]) hr
      ·rw [if_neg hs3] at hr
       first | cases hr | exact hr.elim
  ·refine gr ?_
   have hr:=of_out0 hr
   refine gr ?_
   refine iW hr (fun hc hr=> ?_) fun hc hr=> ?_
   ·repeat (first | refine gA ?_ | refine gB ?_)
    refine S.prune [1,2,6,9,10] ?_
    refine S.gx [26,7] ?_
    obtain ⟨v16,hv16,hr⟩:=of_bind0 hr
    obtain ⟨v17,hv17,hr⟩:=of_bind0 hr
    obtain ⟨v18,hv18,hr⟩:=of_bind0 hr
    refine gb hv16 ?_
    refine gb hv17 ?_
    refine gb hv18 ?_
    repeat (first | refine gA ?_ | refine gB ?_)
    refine iW hr (fun hc hr=>D0 hr) fun hc hr=> ?_
    refine gr ?_
    refine iW hr (fun hc hr=>D0 hr) fun hc hr=> ?_
    refine gr ?_
    refine S.inl 4 [11] [] Tryz.func37 (by decide) rfl Tryz.ntmps37 (fun cx e=>drawn_ok ty_ok (tb67_ok lv ih) cx e) (some 109) rfl rfl rfl rfl (nL rfl) (nL rfl) ?_
    refine gs ?_
    refine gr ?_
    intro stop1 S1
    refine S1.gx [] ?_
    obtain ⟨v19,hv19,hr⟩:=of_bind0 hr
    obtain ⟨v20,hv20,hr⟩:=of_bind0 hr
    obtain ⟨v21,hv21,hr⟩:=of_bind0 hr
    refine gb hv19 ?_
    refine gb hv20 ?_
    refine gb hv21 ?_
    refine iW hr (fun hc hr=> ?_) fun hc hr=> ?_
    ·refine gr ?_
     refine gr ?_
     refine S.gx [26,7,21] ?_
     exact D0 hr
    ·refine gr ?_
     refine S1.sees [1,23,24,25] [] [] ?_ (Stop.iter S1 (fun s2=>⟨[(1,.c (.d (.int .i64 (IntKind.i64.wrap (a1+1))))),(23,.c (.d (encF 6 d_IIIIIH (hU x0)))),(24,.c (.d (.int .i64 ((hU x0).length:Int)))),(25,.c (.d (.int .i64 s2)))],[],[]⟩) (b67_2 (r67 lv) x0 a1) (fun q=>q=r) hr rfl ?_)
     ·exact lf
     ·intro s2 hr
      unfold b67_2 at hr
      refine S1.gx [] ?_
      refine gr ?_
      refine iW1 hr (fun hc hr=> ?_) fun hc hr=> ?_
      ·obtain ⟨hg23,hr⟩:=of_guard1 hr
       obtain ⟨v22,hv22,hr⟩:=of_bind1 hr
       refine gb hv22 ?_
       refine iW1 hr (fun hc hr=> ?_) fun hc hr=>D1 (S1.ss [1,23,24,25] [] []) hr
       refine gr ?_
       have hr:=of_out0 hr
       refine gr ?_
       refine S.gx [26,7,21] ?_
       exact D0 hr
      ·refine gr ?_
       have hr:=of_out0 hr
       refine gr ?_
       refine gr ?_
       refine S.gx [26,7,21] ?_
       exact D0 hr
   ·refine gr ?_
    refine iW hr (fun hc hr=> ?_) fun hc hr=> ?_
    ·repeat (first | refine gA ?_ | refine gB ?_)
     refine S.prune [1,2,6,9,10] ?_
     refine S.gx [26,7] ?_
     obtain ⟨v24,hv24,hr⟩:=of_bind0 hr
     obtain ⟨v25,hv25,hr⟩:=of_bind0 hr
     obtain ⟨v26,hv26,hr⟩:=of_bind0 hr
     refine gb hv24 ?_
     refine gb hv25 ?_
     refine gb hv26 ?_
     repeat (first | refine gA ?_ | refine gB ?_)
     refine iW hr (fun hc hr=>D0 hr) fun hc hr=> ?_
     refine gr ?_
     refine iW hr (fun hc hr=>D0 hr) fun hc hr=> ?_
     refine gr ?_
     refine S.inl 4 [11] [] Tryz.func37 (by decide) rfl Tryz.ntmps37 (fun cx e=>drawn_ok ty_ok (tb67_ok lv ih) cx e) (some 109) rfl rfl rfl rfl (nL rfl) (nL rfl) ?_
     refine gs ?_
     refine gr ?_
     intro stop1 S1
     refine S1.gx [] ?_
     obtain ⟨v27,hv27,hr⟩:=of_bind0 hr
     obtain ⟨v28,hv28,hr⟩:=of_bind0 hr
     obtain ⟨v29,hv29,hr⟩:=of_bind0 hr
     refine gb hv27 ?_
     refine gb hv28 ?_
     refine gb hv29 ?_
     refine iW hr (fun hc hr=> ?_) fun hc hr=> ?_
     ·refine gr ?_
      refine gr ?_
      refine S.gx [26,7,21] ?_
      exact D0 hr
     ·refine gr ?_
      refine S1.sees [1,23,24,25] [] [] ?_ (Stop.iter S1 (fun s3=>⟨[(1,.c (.d (.int .i64 (IntKind.i64.wrap (a1+1))))),(23,.c (.d (encF 6 d_IIIIIH (hU x0)))),(24,.c (.d (.int .i64 ((hU x0).length:Int)))),(25,.c (.d (.int .i64 s3)))],[],[]⟩) (b67_3 (r67 lv) x0 a1) (fun q=>q=r) hr rfl ?_)
      ·exact lf
      ·intro s3 hr
       unfold b67_3 at hr
       refine S1.gx [] ?_
       refine gr ?_
       refine iW1 hr (fun hc hr=> ?_) fun hc hr=> ?_
       ·obtain ⟨hg31,hr⟩:=of_guard1 hr
        obtain ⟨v30,hv30,hr⟩:=of_bind1 hr
        refine gb hv30 ?_
        refine iW1 hr (fun hc hr=> ?_) fun hc hr=>D1 (S1.ss [1,23,24,25] [] []) hr
        refine gr ?_
        have hr:=of_out0 hr
        refine gr ?_
        refine S.gx [26,7,21] ?_
        exact D0 hr
       ·refine gr ?_
        have hr:=of_out0 hr
        refine gr ?_
        refine gr ?_
        refine S.gx [26,7,21] ?_
        exact D0 hr
    ·refine gr ?_
     refine iW hr (fun hc hr=> ?_) fun hc hr=> ?_
     ·repeat (first | refine gA ?_ | refine gB ?_)
      refine S.prune [1,2,6,9,10] ?_
      refine S.gx [26,7] ?_
      obtain ⟨v32,hv32,hr⟩:=of_bind0 hr
      obtain ⟨v33,hv33,hr⟩:=of_bind0 hr
      obtain ⟨v34,hv34,hr⟩:=of_bind0 hr
      refine gb hv32 ?_
      refine gb hv33 ?_
      refine gb hv34 ?_
      repeat (first | refine gA ?_ | refine gB ?_)
      refine iW hr (fun hc hr=>D0 hr) fun hc hr=> ?_
      refine gr ?_
      refine iW hr (fun hc hr=>D0 hr) fun hc hr=> ?_
      refine gr ?_
      refine S.inl 4 [11] [] Tryz.func37 (by decide) rfl Tryz.ntmps37 (fun cx e=>drawn_ok ty_ok (tb67_ok lv ih) cx e) (some 109) rfl rfl rfl rfl (nL rfl) (nL rfl) ?_
      refine gs ?_
      refine gr ?_
      intro stop1 S1
      refine S1.gx [] ?_
      obtain ⟨v35,hv35,hr⟩:=of_bind0 hr
      obtain ⟨v36,hv36,hr⟩:=of_bind0 hr
      obtain ⟨v37,hv37,hr⟩:=of_bind0 hr
      refine gb hv35 ?_
      refine gb hv36 ?_
      refine gb hv37 ?_
      refine iW hr (fun hc hr=> ?_) fun hc hr=> ?_
      ·refine gr ?_
       refine gr ?_
       refine S.gx [26,7,21] ?_
       exact D0 hr
      ·refine gr ?_
       refine S1.sees [1,23,24,25] [] [] ?_ (Stop.iter S1 (fun s4=>⟨[(1,.c (.d (.int .i64 (IntKind.i64.wrap (a1+1))))),(23,.c (.d (encF 6 d_IIIIIH (hU x0)))),(24,.c (.d (.int .i64 ((hU x0).length:Int)))),(25,.c (.d (.int .i64 s4)))],[],[]⟩) (b67_4 (r67 lv) x0 a1) (fun q=>q=r) hr rfl ?_)
       ·exact lf
       ·intro s4 hr
        unfold b67_4 at hr
        refine S1.gx [] ?_
        refine gr ?_
        refine iW1 hr (fun hc hr=> ?_) fun hc hr=> ?_
        ·obtain ⟨hg39,hr⟩:=of_guard1 hr
         obtain ⟨v38,hv38,hr⟩:=of_bind1 hr
         refine gb hv38 ?_
         refine iW1 hr (fun hc hr=> ?_) fun hc hr=>D1 (S1.ss [1,23,24,25] [] []) hr
         refine gr ?_
         have hr:=of_out0 hr
         refine gr ?_
         refine S.gx [26,7,21] ?_
         exact D0 hr
        ·refine gr ?_
         have hr:=of_out0 hr
         refine gr ?_
         refine gr ?_
         refine S.gx [26,7,21] ?_
         exact D0 hr
     ·refine gr ?_
      refine iW hr (fun hc hr=> ?_) fun hc hr=> ?_
      ·repeat (first | refine gA ?_ | refine gB ?_)
       refine S.prune [1,2,6,9,10] ?_
       refine S.gx [26,7] ?_
       obtain ⟨v40,hv40,hr⟩:=of_bind0 hr
       obtain ⟨v41,hv41,hr⟩:=of_bind0 hr
       obtain ⟨v42,hv42,hr⟩:=of_bind0 hr
       refine gb hv40 ?_
       refine gb hv41 ?_
       refine gb hv42 ?_
       repeat (first | refine gA ?_ | refine gB ?_)
       refine iW hr (fun hc hr=>D0 hr) fun hc hr=> ?_
       refine gr ?_
       refine iW hr (fun hc hr=>D0 hr) fun hc hr=> ?_
       refine gr ?_
       refine S.inl 4 [11] [] Tryz.func37 (by decide) rfl Tryz.ntmps37 (fun cx e=>drawn_ok ty_ok (tb67_ok lv ih) cx e) (some 109) rfl rfl rfl rfl (nL rfl) (nL rfl) ?_
       refine gs ?_
       refine gr ?_
       intro stop1 S1
       refine S1.gx [] ?_
       obtain ⟨v43,hv43,hr⟩:=of_bind0 hr
       obtain ⟨v44,hv44,hr⟩:=of_bind0 hr
       obtain ⟨v45,hv45,hr⟩:=of_bind0 hr
       refine gb hv43 ?_
       refine gb hv44 ?_
       refine gb hv45 ?_
       refine iW hr (fun hc hr=> ?_) fun hc hr=> ?_
       ·refine gr ?_
        refine gr ?_
        refine S.gx [26,7,21] ?_
        exact D0 hr
       ·refine gr ?_
        refine S1.sees [1,23,24,25] [] [] ?_ (Stop.iter S1 (fun s5=>⟨[(1,.c (.d (.int .i64 (IntKind.i64.wrap (a1+1))))),(23,.c (.d (encF 6 d_IIIIIH (hU x0)))),(24,.c (.d (.int .i64 ((hU x0).length:Int)))),(25,.c (.d (.int .i64 s5)))],[],[]⟩) (b67_5 (r67 lv) x0 a1) (fun q=>q=r) hr rfl ?_)
        ·exact lf
        ·intro s5 hr
         unfold b67_5 at hr
         refine S1.gx [] ?_
         refine gr ?_
         refine iW1 hr (fun hc hr=> ?_) fun hc hr=> ?_
         ·obtain ⟨hg47,hr⟩:=of_guard1 hr
          obtain ⟨v46,hv46,hr⟩:=of_bind1 hr
          refine gb hv46 ?_
          refine iW1 hr (fun hc hr=> ?_) fun hc hr=>D1 (S1.ss [1,23,24,25] [] []) hr
          refine gr ?_
          have hr:=of_out0 hr
          refine gr ?_
          refine S.gx [26,7,21] ?_
          exact D0 hr
         ·refine gr ?_
          have hr:=of_out0 hr
          refine gr ?_
          refine gr ?_
          refine S.gx [26,7,21] ?_
          exact D0 hr
      ·repeat (first | refine gA ?_ | refine gB ?_)
       refine S.prune [1,2,6,9,10] ?_
       refine S.gx [26,7] ?_
       obtain ⟨v48,hv48,hr⟩:=of_bind0 hr
       obtain ⟨v49,hv49,hr⟩:=of_bind0 hr
       obtain ⟨v50,hv50,hr⟩:=of_bind0 hr
       refine gb hv48 ?_
       refine gb hv49 ?_
       refine gb hv50 ?_
       repeat (first | refine gA ?_ | refine gB ?_)
       refine iW hr (fun hc hr=>D0 hr) fun hc hr=> ?_
       refine gr ?_
       refine iW hr (fun hc hr=>D0 hr) fun hc hr=> ?_
       refine gr ?_
       refine S.inl 4 [11] [] Tryz.func37 (by decide) rfl Tryz.ntmps37 (fun cx e=>drawn_ok ty_ok (tb67_ok lv ih) cx e) (some 109) rfl rfl rfl rfl (nL rfl) (nL rfl) ?_
       refine gs ?_
       refine gr ?_
       intro stop1 S1
       refine S1.gx [] ?_
       obtain ⟨v51,hv51,hr⟩:=of_bind0 hr
       obtain ⟨v52,hv52,hr⟩:=of_bind0 hr
       obtain ⟨v53,hv53,hr⟩:=of_bind0 hr
       refine gb hv51 ?_
       refine gb hv52 ?_
       refine gb hv53 ?_
       refine iW hr (fun hc hr=> ?_) fun hc hr=> ?_
       ·refine gr ?_
        refine gr ?_
        refine S.gx [26,7,21] ?_
        exact D0 hr
       ·refine gr ?_
        refine S1.sees [1,23,24,25] [] [] ?_ (Stop.iter S1 (fun s6=>⟨[(1,.c (.d (.int .i64 (IntKind.i64.wrap (a1+1))))),(23,.c (.d (encF 6 d_IIIIIH (hU x0)))),(24,.c (.d (.int .i64 ((hU x0).length:Int)))),(25,.c (.d (.int .i64 s6)))],[],[]⟩) (b67_6 (r67 lv) x0 a1) (fun q=>q=r) hr rfl ?_)
        ·exact lf
        ·intro s6 hr
         unfold b67_6 at hr
         refine S1.gx [] ?_
         refine gr ?_
         refine iW1 hr (fun hc hr=> ?_) fun hc hr=> ?_
         ·obtain ⟨hg55,hr⟩:=of_guard1 hr
          obtain ⟨v54,hv54,hr⟩:=of_bind1 hr
          refine gb hv54 ?_
          refine iW1 hr (fun hc hr=> ?_) fun hc hr=>D1 (S1.ss [1,23,24,25] [] []) hr
          refine gr ?_
          have hr:=of_out0 hr
          refine gr ?_
          refine S.gx [26,7,21] ?_
          exact D0 hr
         ·refine gr ?_
          have hr:=of_out0 hr
          refine gr ?_
          refine gr ?_
          refine S.gx [26,7,21] ?_
          exact D0 hr
def b8_1 (a0:L_IIIIIH):Bd Int (Int×Int):=fun s1=>
 if (decide (s1<(a0.length:Int)))=true then
  if 0≤s1∧s1<(a0.length:Int) then
   bindC (r67 7 ((a0.getD s1.toNat default).1) ((a0.getD s1.toNat default).2.1) ((a0.getD s1.toNat default).2.2.1) ((a0.getD s1.toNat default).2.2.2.1) ((a0.getD s1.toNat default).2.2.2.2.1) ((a0.getD s1.toNat default).2.2.2.2.2) 0) fun v10=>
    if (v10 != 0)=true then
     .out (if (v10 != 0)=true then
      some (s1,v10)
      else (r38 a0).bind fun v11=>
       (r40 (decide ((v11.length:Int)≤60)) 8).bind fun v12=>
        if 0≤IntKind.i64.wrap ((v11.length:Int) - 1)∧IntKind.i64.wrap ((v11.length:Int) - 1)<(v11.length:Int) then
         (r41 ((v11.getD (IntKind.i64.wrap ((v11.length:Int) - 1)).toNat default).1)).bind fun v13=>
          (r40 v13 20).bind fun v14=>
           (r39 [v12,v14]).bind fun v15=>
            some (0,v15)
         else none)
     else .next (IntKind.i64.wrap (s1+1))
   else .out none
  else .out ((r38 a0).bind fun v18=>
   (r40 (decide ((v18.length:Int)≤60)) 8).bind fun v19=>
    if 0≤IntKind.i64.wrap ((v18.length:Int) - 1)∧IntKind.i64.wrap ((v18.length:Int) - 1)<(v18.length:Int) then
     (r41 ((v18.getD (IntKind.i64.wrap ((v18.length:Int) - 1)).toNat default).1)).bind fun v20=>
      (r40 v20 20).bind fun v21=>
       (r39 [v19,v21]).bind fun v22=>
        some (0,v22)
     else none)
def r8 (a0:L_IIIIIH):Option (Int×Int):=
 (r40 (decide ((a0.length:Int)>0)) 10).bind fun v1=>
  (r40 (decide ((a0.length:Int)≤12)) 8).bind fun v2=>
   (r39 [v1,v2]).bind fun v3=>
    if (v3 != 0)=true then
     if (v3 != 0)=true then
      some (0,v3)
      else (r38 a0).bind fun v4=>
       (r40 (decide ((v4.length:Int)≤60)) 8).bind fun v5=>
        if 0≤IntKind.i64.wrap ((v4.length:Int) - 1)∧IntKind.i64.wrap ((v4.length:Int) - 1)<(v4.length:Int) then
         (r41 ((v4.getD (IntKind.i64.wrap ((v4.length:Int) - 1)).toNat default).1)).bind fun v6=>
          (r40 v6 20).bind fun v7=>
           (r39 [v5,v7]).bind fun v8=>
            some (0,v8)
         else none
     else iterC (b8_1 a0) 1000000000 0
@[go_sem] def T8:=qT20 qu4 false r8
@[go_sem] def tb8 (k:Nat):=lk [(38,T38.sp),(39,T39.sp),(40,T40.sp),(41,T41.sp),(67,(T67 7).sp)] k
theorem tb8_ok:FnsOk Tryz.prog tb8:= .cons f38 (.cons f39 (.cons f40 (.cons f41 (.cons (f67 7) .nil))))
theorem f8:FnFact Tryz.prog 8 T8.sp:=by
 refine vm (tb:=tb8) (.cons f38 (.cons f39 (.cons f40 (.cons f41 (.cons (f67 7) .nil))))) Tryz.func8 Tryz.ntmps8 fun a0 r hr stop S=> ?_
 rw [uq1,r8] at hr
 refine S.gx [1] ?_
 refine gr ?_
 refine S.inl 1 [0] [] Tryz.func37 (by decide) rfl Tryz.ntmps37 (fun cx e=>drawn_ok ty_ok tb8_ok cx e) (some 9) rfl rfl rfl rfl (nL rfl) (nL rfl) ?_
 refine gs ?_
 refine gr ?_
 intro stop1 S1
 refine S1.gx [] ?_
 obtain ⟨v1,hv1,hr⟩:=of_bind0 hr
 obtain ⟨v2,hv2,hr⟩:=of_bind0 hr
 obtain ⟨v3,hv3,hr⟩:=of_bind0 hr
 refine gb hv1 ?_
 refine gb hv2 ?_
 refine gb hv3 ?_
 refine iW hr (fun hc hr=> ?_) fun hc hr=> ?_
 ·refine gr ?_
  refine gr ?_
  refine S.gx [1] ?_
  exact D0 hr
 ·refine gr ?_
  refine S1.sees [1,23,24,25] [] [] ?_ (Stop.iter S1 (fun s1=>⟨[(1,.c (.d (.int .i64 0))),(23,.c (.d (encF 6 d_IIIIIH a0))),(24,.c (.d (.int .i64 (a0.length:Int)))),(25,.c (.d (.int .i64 s1)))],[],[]⟩) (b8_1 a0) (fun q=>q=r) hr rfl ?_)
  ·exact lf
  ·intro s1 hr
   unfold b8_1 at hr
   refine S1.gx [] ?_
   refine gr ?_
   refine iW1 hr (fun hc hr=> ?_) fun hc hr=> ?_
   ·obtain ⟨hg17,hr⟩:=of_guard1 hr
    obtain ⟨v10,hv10,hr⟩:=of_bind1 hr
    refine gb hv10 ?_
    refine iW1 hr (fun hc hr=> ?_) fun hc hr=>D1 (S1.ss [1,23,24,25] [] []) hr
    refine gr ?_
    have hr:=of_out0 hr
    refine gr ?_
    refine S.gx [1] ?_
    exact D0 hr
   ·refine gr ?_
    have hr:=of_out0 hr
    refine gr ?_
    refine gr ?_
    refine S.gx [1] ?_
    exact D0 hr
def r10 (a0:L_IIIIIH):Option (L_IIIIIH×Int):=
 (r8 a0).bind fun v1=>
  if (v1.2 != 0)=true then
   some ([],v1.2)
   else (r38 a0).bind fun v2=>
    some (v2,0)
@[go_sem] def T10:=qT20 qu11 true r10
@[go_sem] def tb10 (k:Nat):=lk [(8,T8.sp),(38,T38.sp)] k
theorem f10:FnFact Tryz.prog 10 T10.sp:=by
 refine vm (tb:=tb10) (.cons f8 (.cons f38 .nil)) Tryz.func10 Tryz.ntmps10 fun a0 r hr stop S=> ?_
 rw [uq1,r10] at hr
 refine S.gx [] ?_
 exact D0 hr
def r47 (x1 x2:Int) (x3:L_II) (x0:L_LIIE) (x4 x5:L_I) (x6:L_II) (x7 x8:Int):Option (Int):=
 some (IntKind.i64.wrap ((x0.length:Int) - 1))
@[go_sem] def T47:=qT19 qu3 false r47
theorem f47:FnFact Tryz.prog 47 T47.sp:=by
 refine vm .nil Tryz.func47 Tryz.ntmps47 fun ⟨x1,x2,x3,x0,x4,x5,x6,x7,x8⟩ r hr stop S=> ?_
 rw [uq9,r47] at hr
 refine S.gx [] ?_
 exact D0 hr
def r160 (x1 x2:Int) (x3:L_II) (x4:L_LIIE) (x0:L_II) (x5:L_LIIE) (a1:Int):Option (Int×Int):=
 (r162 x0 a1 1).bind fun v1=>
  some (v1.1,v1.2)
@[go_sem] def T160:=qT13 qu7 false r160
@[go_sem] def tb160 (k:Nat):=lk [(162,T162.sp)] k
theorem f160:FnFact Tryz.prog 160 T160.sp:=by
 refine vm (tb:=tb160) (.cons f162 .nil) Tryz.func160 Tryz.ntmps160 fun ⟨x1,x2,x3,x4,x0,x5,a1⟩ r hr stop S=> ?_
 rw [uq7,r160] at hr
 refine S.gx [] ?_
 exact D0 hr
def b180_1:Bd (Int×Int) Int:=fun s1=>
 if (s1.2 != 0)=true then
  if s1.2≠0 then
   .next (s1.2,s1.1.tmod s1.2)
   else .out none
  else .out (some (if s1.1<IntKind.i64.wrap (0 - s1.1) then IntKind.i64.wrap (0 - s1.1) else s1.1))
def r180 (a0 a1:Int):Option (Int):=
 iterC (b180_1) 1000000000 (a0,a1)
@[go_sem] def T180:=qT7 qu3 false r180
theorem f180:FnFact Tryz.prog 180 T180.sp:=by
 refine vm .nil Tryz.func180 Tryz.ntmps180 fun ⟨a0,a1⟩ r hr stop S=> ?_
 rw [uq2,r180] at hr
 refine S.gx [] ?_
 refine gr ?_
 refine S.sees [0,1] [] [] ?_ (Stop.iter S (fun s1=>⟨[(0,.c (.d (.int .i64 s1.1))),(1,.c (.d (.int .i64 s1.2)))],[],[]⟩) (b180_1) (fun q=>q=r) hr rfl ?_)
 ·exact lf
 ·intro s1 hr
  unfold b180_1 at hr
  refine S.gx [] ?_
  exact D1 (S.ss [0,1] [] []) hr
def r133 (x0 x1:Int) (x2:L_II) (x3:L_LIIE) (a1:Int):Option (Int×Int×Int):=
 (r108 x0 x1 x2 x3).bind fun v1=>
  if (v1.2.2.2.2.2.2 == 0)=true then
   (r118 v1.1 v1.2.1 v1.2.2.1 v1.2.2.2.1 v1.2.2.2.2.1 v1.2.2.2.2.2.1 a1).bind fun v2=>
    (r110 v2 2).bind fun v3=>
     if (v3 != 0)=true then
      some (0,0,v3)
      else (r160 v1.1 v1.2.1 v1.2.2.1 v1.2.2.2.1 v1.2.2.2.2.1 v1.2.2.2.2.2.1 a1).bind fun v4=>
       (r180 v4.1 v4.2).bind fun v5=>
        if v5≠0 then
         if v5≠0 then
          some (IntKind.i64.wrap (v4.1.tdiv v5),IntKind.i64.wrap (v4.2.tdiv v5),0)
          else none
         else none
   else if (v1.2.2.2.2.2.2 != 0)=true then
    some (0,0,v1.2.2.2.2.2.2)
    else (r160 v1.1 v1.2.1 v1.2.2.1 v1.2.2.2.1 v1.2.2.2.2.1 v1.2.2.2.2.2.1 a1).bind fun v8=>
     (r180 v8.1 v8.2).bind fun v9=>
      if v9≠0 then
       if v9≠0 then
        some (IntKind.i64.wrap (v8.1.tdiv v9),IntKind.i64.wrap (v8.2.tdiv v9),0)
        else none
       else none
@[go_sem] def T133:=qT23 qu12 false r133
@[go_sem] def tb133 (k:Nat):=lk [(108,T108.sp),(110,T110.sp),(118,T118.sp),(160,T160.sp),(180,T180.sp)] k
theorem f133:FnFact Tryz.prog 133 T133.sp:=by
 refine vm (tb:=tb133) (.cons f108 (.cons f110 (.cons f118 (.cons f160 (.cons f180 .nil))))) Tryz.func133 Tryz.ntmps133 fun ⟨x0,x1,x2,x3,a1⟩ r hr stop S=> ?_
 rw [uq5,r133] at hr
 refine S.gx [] ?_
 exact D0 hr
def r88 (x0 x1:Int) (x2:L_II) (x3:L_LIIE) (x4 x5:L_I) (x6:L_II) (x7 x8 a1 a2:Int):Option (Int):=
 (r133 x0 x1 x2 x3 a1).bind fun v1=>
  some (IntKind.i64.wrap (v1.1 - (IntKind.i64.wrap (a2*v1.2.1))))
@[go_sem] def T88:=qT24 qu3 false r88
@[go_sem] def tb88 (k:Nat):=lk [(133,T133.sp)] k
theorem f88:FnFact Tryz.prog 88 T88.sp:=by
 refine vm (tb:=tb88) (.cons f133 .nil) Tryz.func88 Tryz.ntmps88 fun ⟨x0,x1,x2,x3,x4,x5,x6,x7,x8,a1,a2⟩ r hr stop S=> ?_
 rw [uq11,r88] at hr
 refine S.gx [] ?_
 exact D0 hr
def r171 (x0 x1:Int):Option (Int):=
 some x0
@[go_sem] def T171:=qT25 qu3 false r171
theorem f171:FnFact Tryz.prog 171 T171.sp:=by
 refine vm .nil Tryz.func171 Tryz.ntmps171 fun ⟨x0,x1⟩ r hr stop S=> ?_
 rw [uq2,r171] at hr
 refine S.gx [] ?_
 exact D0 hr
def r102 (x0 x1:Int):Option (Int):=
 some (IntKind.i64.wrap ((IntKind.i64.wrap (x0+x1)).tdiv 2))
@[go_sem] def T102:=qT25 qu3 false r102
theorem f102:FnFact Tryz.prog 102 T102.sp:=by
 refine vm .nil Tryz.func102 Tryz.ntmps102 fun ⟨x0,x1⟩ r hr stop S=> ?_
 rw [uq2,r102] at hr
 refine S.gx [] ?_
 exact D0 hr
def r87 (x1 x0:Int):Option (Int):=
 some x0
@[go_sem] def T87:=qT25 qu3 false r87
theorem f87:FnFact Tryz.prog 87 T87.sp:=by
 refine vm .nil Tryz.func87 Tryz.ntmps87 fun ⟨x1,x0⟩ r hr stop S=> ?_
 rw [uq2,r87] at hr
 refine S.gx [] ?_
 exact D0 hr
end Go.Proofs.YtkbdjphdhcgmaaaGreatDoor

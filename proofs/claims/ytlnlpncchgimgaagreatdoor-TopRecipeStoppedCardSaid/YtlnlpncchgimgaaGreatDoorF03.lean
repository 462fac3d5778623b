/- Contracts of functions, written by wip/dec. -/
import Derived.Test.YtlnlpncchgimgaaGreatDoorF00
import Derived.Test.YtlnlpncchgimgaaGreatDoorF01
import Derived.Test.YtlnlpncchgimgaaGreatDoorF02
set_option linter.unusedVariables false
set_option linter.unusedSimpArgs false
set_option linter.constructorNameAsVariable false
set_option maxHeartbeats 4000000
set_option maxRecDepth 20000
namespace Go.Proofs.YtlnlpncchgimgaaGreatDoor
open Go.Abs
section
variable {β:Type} [Inhabited β] (u:β→List RV) (al:Bool)
def qw21 (a0 a1 a2 a3 a4:Int) (a5:Hl):List Arg:=[.agg [.int .i64 a0,.int .i64 a1,.int .i64 a2,.int .i64 a3,.int .i64 a4,hE a5]]
def qd21:List Arg→Int×Int×Int×Int×Int×Hl
 | [.agg [c0,c1,c2,c3,c4,c5]]=>(dInt c0,dInt c1,dInt c2,dInt c3,dInt c4,hD c5)
 | _=>default
def qT21 (r:Int→Int→Int→Int→Int→Hl→Option β):=mkT (u6 qw21) qd21 (u6 r) u al
attribute [go_sem] qw21 qd21 qT21
def qw22 (a0 a1 a2 a3 a4:Int) (a5:Hl) (a6:Int):List Arg:=[.agg [.int .i64 a0,.int .i64 a1,.int .i64 a2,.int .i64 a3,.int .i64 a4,hE a5],.c (.int .i64 a6)]
def qd22:List Arg→Int×Int×Int×Int×Int×Hl×Int
 | [.agg [c0,c1,c2,c3,c4,c5],.c c6]=>(dInt c0,dInt c1,dInt c2,dInt c3,dInt c4,hD c5,dInt c6)
 | _=>default
def qT22 (r:Int→Int→Int→Int→Int→Hl→Int→Option β):=mkT (u7 qw22) qd22 (u7 r) u al
attribute [go_sem] qw22 qd22 qT22
def qw24 (a0 a1:Int) (a2:L_II) (a3:L_LIIE) (a4 a5:L_I) (a6:L_II) (a7 a8 a9 a10:Int):List Arg:=[.agg [.int .i64 a0,.int .i64 a1,encF 2 d_II a2,encF 1 d_LIIE a3,encF 1 d_I a4,encF 1 d_I a5,encF 2 d_II a6,.int .i64 a7,.int .i64 a8],.c (.int .i64 a9),.c (.int .i64 a10)]
def qd24:List Arg→Int×Int×L_II×L_LIIE×L_I×L_I×L_II×Int×Int×Int×Int
 | [.agg [c0,c1,c2,c3,c4,c5,c6,c7,c8],.c c9,.c c10]=>(dInt c0,dInt c1,decF g_II c2,decF g_LIIE c3,decF g_I c4,decF g_I c5,decF g_II c6,dInt c7,dInt c8,dInt c9,dInt c10)
 | _=>default
def qT24 (r:Int→Int→L_II→L_LIIE→L_I→L_I→L_II→Int→Int→Int→Int→Option β):=mkT (u11 qw24) qd24 (u11 r) u al
attribute [go_sem] qw24 qd24 qT24
def qw26 (a0 a1:Int) (a2:L_II) (a3:L_LIIE) (a4 a5:L_I) (a6:L_II) (a7 a8 a9 a10:Int):List Arg:=[.agg [.int .i64 a0,.int .i64 a1,encF 2 d_II a2,encF 1 d_LIIE a3,encF 1 d_I a4,encF 1 d_I a5,encF 2 d_II a6,.int .i64 a7,.int .i64 a8],.agg [.int .i64 a9,.int .i64 a10],.clo 69 []]
def qd26:List Arg→Int×Int×L_II×L_LIIE×L_I×L_I×L_II×Int×Int×Int×Int
 | [.agg [c0,c1,c2,c3,c4,c5,c6,c7,c8],.agg [c9,c10],.clo _ []]=>(dInt c0,dInt c1,decF g_II c2,decF g_LIIE c3,decF g_I c4,decF g_I c5,decF g_II c6,dInt c7,dInt c8,dInt c9,dInt c10)
 | _=>default
def qT26 (r:Int→Int→L_II→L_LIIE→L_I→L_I→L_II→Int→Int→Int→Int→Option β):=mkT (u11 qw26) qd26 (u11 r) u al
attribute [go_sem] qw26 qd26 qT26
def qu10 (v:L_FII):List RV:=[.c (.own (encF 3 d_FII v))]
attribute [go_sem] qu10
def qu11 (v:L_IIIIIH×Int):List RV:=[.c (.own (encF 6 d_IIIIIH v.1)),.c (.d (.int .i64 v.2))]
attribute [go_sem] qu11
def qu12 (v:Int×Int×Int):List RV:=[.agg [.d (.int .i64 v.1),.d (.int .i64 v.2.1)],.c (.d (.int .i64 v.2.2))]
attribute [go_sem] qu12
end
def r168 (a0:Int):Option (L_FII):=
 if (a0 == 0)=true then
  some [(180,1,10000),(182,1,200)]
  else if (a0 == 1)=true then
   some [(182,1,200)]
   else if (a0 == 2)=true then
    some [(181,0,3),(182,1,200)]
    else if (a0 == 3)=true then
     some [(183,200,3000),(180,1,10000),(182,1,200)]
     else if (a0 == 4)=true then
      some [(183,200,3000),(181,0,3),(182,1,200)]
      else if (a0 == 5)=true then
       some [(182,1,10)]
       else some []
def T168:=qT4 qu10 true r168
attribute [go_sem] T168
def tb168:Fns:=lk []
theorem tb168_ok:FnsOk Tryz.prog tb168:=FnsOk.nil
section
attribute [local go_sem] Tryz.results168
theorem f168:FnFact Tryz.prog 168 T168.sp:=by
 refine valid_m ty_ok tb168_ok Tryz.func168 rfl Tryz.ntmps168 fun a0 r hr=>⟨nL rfl,fun stop S=> ?_⟩
 replace hr:r168 a0=some r:=hr
 unfold r168 at hr
 refine S.gx [] ?_
 exact D0 hr
end
def r183 (x1 x2 x3 x4 x0:Int) (x5:Hl):Option (Int):=
 some x0
def T183:=qT21 qu3 false r183
attribute [go_sem] T183
def tb183:Fns:=lk []
theorem tb183_ok:FnsOk Tryz.prog tb183:=FnsOk.nil
section
attribute [local go_sem] Tryz.results183
theorem f183:FnFact Tryz.prog 183 T183.sp:=by
 refine valid_m ty_ok tb183_ok Tryz.func183 rfl Tryz.ntmps183 fun ⟨x1,x2,x3,x4,x0,x5⟩ r hr=>⟨nL rfl,fun stop S=> ?_⟩
 replace hr:r183 x1 x2 x3 x4 x0 x5=some r:=hr
 unfold r183 at hr
 refine S.gx [] ?_
 exact D0 hr
end
def r182 (x1 x2 x3 x0 x4:Int) (x5:Hl):Option (Int):=
 some x0
def T182:=qT21 qu3 false r182
attribute [go_sem] T182
def tb182:Fns:=lk []
theorem tb182_ok:FnsOk Tryz.prog tb182:=FnsOk.nil
section
attribute [local go_sem] Tryz.results182
theorem f182:FnFact Tryz.prog 182 T182.sp:=by
 refine valid_m ty_ok tb182_ok Tryz.func182 rfl Tryz.ntmps182 fun ⟨x1,x2,x3,x0,x4,x5⟩ r hr=>⟨nL rfl,fun stop S=> ?_⟩
 replace hr:r182 x1 x2 x3 x0 x4 x5=some r:=hr
 unfold r182 at hr
 refine S.gx [] ?_
 exact D0 hr
end
def r181 (x1 x2 x0 x3 x4:Int) (x5:Hl):Option (Int):=
 some x0
def T181:=qT21 qu3 false r181
attribute [go_sem] T181
def tb181:Fns:=lk []
theorem tb181_ok:FnsOk Tryz.prog tb181:=FnsOk.nil
section
attribute [local go_sem] Tryz.results181
theorem f181:FnFact Tryz.prog 181 T181.sp:=by
 refine valid_m ty_ok tb181_ok Tryz.func181 rfl Tryz.ntmps181 fun ⟨x1,x2,x0,x3,x4,x5⟩ r hr=>⟨nL rfl,fun stop S=> ?_⟩
 replace hr:r181 x1 x2 x0 x3 x4 x5=some r:=hr
 unfold r181 at hr
 refine S.gx [] ?_
 exact D0 hr
end
def r180 (x1 x0 x2 x3 x4:Int) (x5:Hl):Option (Int):=
 some x0
def T180:=qT21 qu3 false r180
attribute [go_sem] T180
def tb180:Fns:=lk []
theorem tb180_ok:FnsOk Tryz.prog tb180:=FnsOk.nil
section
attribute [local go_sem] Tryz.results180
theorem f180:FnFact Tryz.prog 180 T180.sp:=by
 refine valid_m ty_ok tb180_ok Tryz.func180 rfl Tryz.ntmps180 fun ⟨x1,x0,x2,x3,x4,x5⟩ r hr=>⟨nL rfl,fun stop S=> ?_⟩
 replace hr:r180 x1 x0 x2 x3 x4 x5=some r:=hr
 unfold r180 at hr
 refine S.gx [] ?_
 exact D0 hr
end
def b147_2 (R147:Int→Int→Int→Int→Int→Hl→Int→Option (Int)) (x0:Hl) (a1:Int):Bd Int Int:=fun s2=>
 if (decide (s2<((hU x0).length:Int)))=true then
  if 0≤s2∧s2<((hU x0).length:Int) then
   bindC (R147 (((hU x0).getD s2.toNat default).1) (((hU x0).getD s2.toNat default).2.1) (((hU x0).getD s2.toNat default).2.2.1) (((hU x0).getD s2.toNat default).2.2.2.1) (((hU x0).getD s2.toNat default).2.2.2.2.1) (((hU x0).getD s2.toNat default).2.2.2.2.2) (IntKind.i64.wrap (a1+1))) fun v22=>
    if (v22 != 0)=true then
     .out (some v22)
     else .next (IntKind.i64.wrap (s2+1))
   else .out none
  else .out (some 0)
def b147_3 (R147:Int→Int→Int→Int→Int→Hl→Int→Option (Int)) (x0:Hl) (a1:Int):Bd Int Int:=fun s3=>
 if (decide (s3<((hU x0).length:Int)))=true then
  if 0≤s3∧s3<((hU x0).length:Int) then
   bindC (R147 (((hU x0).getD s3.toNat default).1) (((hU x0).getD s3.toNat default).2.1) (((hU x0).getD s3.toNat default).2.2.1) (((hU x0).getD s3.toNat default).2.2.2.1) (((hU x0).getD s3.toNat default).2.2.2.2.1) (((hU x0).getD s3.toNat default).2.2.2.2.2) (IntKind.i64.wrap (a1+1))) fun v30=>
    if (v30 != 0)=true then
     .out (some v30)
     else .next (IntKind.i64.wrap (s3+1))
   else .out none
  else .out (some 0)
def b147_4 (R147:Int→Int→Int→Int→Int→Hl→Int→Option (Int)) (x0:Hl) (a1:Int):Bd Int Int:=fun s4=>
 if (decide (s4<((hU x0).length:Int)))=true then
  if 0≤s4∧s4<((hU x0).length:Int) then
   bindC (R147 (((hU x0).getD s4.toNat default).1) (((hU x0).getD s4.toNat default).2.1) (((hU x0).getD s4.toNat default).2.2.1) (((hU x0).getD s4.toNat default).2.2.2.1) (((hU x0).getD s4.toNat default).2.2.2.2.1) (((hU x0).getD s4.toNat default).2.2.2.2.2) (IntKind.i64.wrap (a1+1))) fun v38=>
    if (v38 != 0)=true then
     .out (some v38)
     else .next (IntKind.i64.wrap (s4+1))
   else .out none
  else .out (some 0)
def b147_5 (R147:Int→Int→Int→Int→Int→Hl→Int→Option (Int)) (x0:Hl) (a1:Int):Bd Int Int:=fun s5=>
 if (decide (s5<((hU x0).length:Int)))=true then
  if 0≤s5∧s5<((hU x0).length:Int) then
   bindC (R147 (((hU x0).getD s5.toNat default).1) (((hU x0).getD s5.toNat default).2.1) (((hU x0).getD s5.toNat default).2.2.1) (((hU x0).getD s5.toNat default).2.2.2.1) (((hU x0).getD s5.toNat default).2.2.2.2.1) (((hU x0).getD s5.toNat default).2.2.2.2.2) (IntKind.i64.wrap (a1+1))) fun v46=>
    if (v46 != 0)=true then
     .out (some v46)
     else .next (IntKind.i64.wrap (s5+1))
   else .out none
  else .out (some 0)
def b147_6 (R147:Int→Int→Int→Int→Int→Hl→Int→Option (Int)) (x0:Hl) (a1:Int):Bd Int Int:=fun s6=>
 if (decide (s6<((hU x0).length:Int)))=true then
  if 0≤s6∧s6<((hU x0).length:Int) then
   bindC (R147 (((hU x0).getD s6.toNat default).1) (((hU x0).getD s6.toNat default).2.1) (((hU x0).getD s6.toNat default).2.2.1) (((hU x0).getD s6.toNat default).2.2.2.1) (((hU x0).getD s6.toNat default).2.2.2.2.1) (((hU x0).getD s6.toNat default).2.2.2.2.2) (IntKind.i64.wrap (a1+1))) fun v54=>
    if (v54 != 0)=true then
     .out (some v54)
     else .next (IntKind.i64.wrap (s6+1))
   else .out none
  else .out (some 0)
def b147_1 (R147:Int→Int→Int→Int→Int→Hl→Int→Option (Int)) (x1 x2 x3 x5 x4:Int) (x0:Hl) (a1:Int) (v2:L_FII):Bd (Bool×Int) Int:=fun s1=>
 if (decide (s1.2<(v2.length:Int)))=true then
  if 0≤s1.2∧s1.2<(v2.length:Int) then
   if (v2.getD s1.2.toNat default).1=180 then
    if s1.1=true→(r180 x1 x2 x3 x5 x4 x0).isSome=true then
     if s1.1=true→(r37 ((r180 x1 x2 x3 x5 x4 x0).getD default) ((v2.getD s1.2.toNat default).2.1) ((v2.getD s1.2.toNat default).2.2)).isSome=true then
      .next (s1.1 && ((r37 ((r180 x1 x2 x3 x5 x4 x0).getD default) ((v2.getD s1.2.toNat default).2.1) ((v2.getD s1.2.toNat default).2.2)).getD default),IntKind.i64.wrap (s1.2+1))
      else .out none
     else .out none
    else if (v2.getD s1.2.toNat default).1=181 then
     if s1.1=true→(r181 x1 x2 x3 x5 x4 x0).isSome=true then
      if s1.1=true→(r37 ((r181 x1 x2 x3 x5 x4 x0).getD default) ((v2.getD s1.2.toNat default).2.1) ((v2.getD s1.2.toNat default).2.2)).isSome=true then
       .next (s1.1 && ((r37 ((r181 x1 x2 x3 x5 x4 x0).getD default) ((v2.getD s1.2.toNat default).2.1) ((v2.getD s1.2.toNat default).2.2)).getD default),IntKind.i64.wrap (s1.2+1))
       else .out none
      else .out none
     else if (v2.getD s1.2.toNat default).1=182 then
      if s1.1=true→(r182 x1 x2 x3 x5 x4 x0).isSome=true then
       if s1.1=true→(r37 ((r182 x1 x2 x3 x5 x4 x0).getD default) ((v2.getD s1.2.toNat default).2.1) ((v2.getD s1.2.toNat default).2.2)).isSome=true then
        .next (s1.1 && ((r37 ((r182 x1 x2 x3 x5 x4 x0).getD default) ((v2.getD s1.2.toNat default).2.1) ((v2.getD s1.2.toNat default).2.2)).getD default),IntKind.i64.wrap (s1.2+1))
        else .out none
       else .out none
      else if (v2.getD s1.2.toNat default).1=183 then
       if s1.1=true→(r183 x1 x2 x3 x5 x4 x0).isSome=true then
        if s1.1=true→(r37 ((r183 x1 x2 x3 x5 x4 x0).getD default) ((v2.getD s1.2.toNat default).2.1) ((v2.getD s1.2.toNat default).2.2)).isSome=true then
         .next (s1.1 && ((r37 ((r183 x1 x2 x3 x5 x4 x0).getD default) ((v2.getD s1.2.toNat default).2.1) ((v2.getD s1.2.toNat default).2.2)).getD default),IntKind.i64.wrap (s1.2+1))
         else .out none
        else .out none
       else .out none
   else .out none
  else .out (if (x1 == 0)=true then
   (r39 (((x3 == 0) && (x4 == 0)) && ((x1 == 5) || (((hU x0).length:Int) == 0))) 3).bind fun v16=>
    (r39 s1.1 2).bind fun v17=>
     (r38 [v16,v17]).bind fun v18=>
      if ((v18 != 0) || (!(x1 == 5)))=true then
       some v18
       else if (a1 == 3)=true then
        some 16
        else (r39 (decide (((hU x0).length:Int)>0)) 10).bind fun v19=>
         (r39 (decide (((hU x0).length:Int)≤12)) 8).bind fun v20=>
          (r38 [v19,v20]).bind fun v21=>
           if (v21 != 0)=true then
            some v21
            else iterC (b147_2 R147 x0 a1) 1000000000 0
   else if (x1 == 2)=true then
    (r39 (((x2 == 0) && (x4 == 0)) && ((x1 == 5) || (((hU x0).length:Int) == 0))) 3).bind fun v24=>
     (r39 s1.1 2).bind fun v25=>
      (r38 [v24,v25]).bind fun v26=>
       if ((v26 != 0) || (!(x1 == 5)))=true then
        some v26
        else if (a1 == 3)=true then
         some 16
         else (r39 (decide (((hU x0).length:Int)>0)) 10).bind fun v27=>
          (r39 (decide (((hU x0).length:Int)≤12)) 8).bind fun v28=>
           (r38 [v27,v28]).bind fun v29=>
            if (v29 != 0)=true then
             some v29
             else iterC (b147_3 R147 x0 a1) 1000000000 0
    else if (x1 == 3)=true then
     (r39 ((x3 == 0) && ((x1 == 5) || (((hU x0).length:Int) == 0))) 3).bind fun v32=>
      (r39 s1.1 2).bind fun v33=>
       (r38 [v32,v33]).bind fun v34=>
        if ((v34 != 0) || (!(x1 == 5)))=true then
         some v34
         else if (a1 == 3)=true then
          some 16
          else (r39 (decide (((hU x0).length:Int)>0)) 10).bind fun v35=>
           (r39 (decide (((hU x0).length:Int)≤12)) 8).bind fun v36=>
            (r38 [v35,v36]).bind fun v37=>
             if (v37 != 0)=true then
              some v37
              else iterC (b147_4 R147 x0 a1) 1000000000 0
     else if (x1 == 4)=true then
      (r39 ((x2 == 0) && ((x1 == 5) || (((hU x0).length:Int) == 0))) 3).bind fun v40=>
       (r39 s1.1 2).bind fun v41=>
        (r38 [v40,v41]).bind fun v42=>
         if ((v42 != 0) || (!(x1 == 5)))=true then
          some v42
          else if (a1 == 3)=true then
           some 16
           else (r39 (decide (((hU x0).length:Int)>0)) 10).bind fun v43=>
            (r39 (decide (((hU x0).length:Int)≤12)) 8).bind fun v44=>
             (r38 [v43,v44]).bind fun v45=>
              if (v45 != 0)=true then
               some v45
               else iterC (b147_5 R147 x0 a1) 1000000000 0
      else (r39 ((((x2 == 0) && (x3 == 0)) && (x4 == 0)) && ((x1 == 5) || (((hU x0).length:Int) == 0))) 3).bind fun v48=>
       (r39 s1.1 2).bind fun v49=>
        (r38 [v48,v49]).bind fun v50=>
         if ((v50 != 0) || (!(x1 == 5)))=true then
          some v50
          else if (a1 == 3)=true then
           some 16
           else (r39 (decide (((hU x0).length:Int)>0)) 10).bind fun v51=>
            (r39 (decide (((hU x0).length:Int)≤12)) 8).bind fun v52=>
             (r38 [v51,v52]).bind fun v53=>
              if (v53 != 0)=true then
               some v53
               else iterC (b147_6 R147 x0 a1) 1000000000 0)
def q147 (lv:Nat) (R147:Int→Int→Int→Int→Int→Hl→Int→Option (Int)) (x1 x2 x3 x5 x4:Int) (x0:Hl) (a1:Int):Option (Int):=
 (r37 x1 0 5).bind fun v1=>
  if (!v1)=true then
   some 15
   else (r168 x1).bind fun v2=>
    iterC (b147_1 R147 x1 x2 x3 x5 x4 x0 a1 v2) 1000000000 (true,0)
def r147:(ix:Nat)→Int→Int→Int→Int→Int→Hl→Int→Option (Int)
 | 0=>fun _ _ _ _ _ _ _=>none
 | lv+1=>q147 lv (r147 lv)
def T147 (ix:Nat):=qT22 qu3 false (r147 ix)
attribute [go_sem] T147
def tb147 (lv:Nat):Fns:=lk [(37,T37.sp),(38,T38.sp),(39,T39.sp),(147,(T147 lv).sp),(168,T168.sp),(180,T180.sp),(181,T181.sp),(182,T182.sp),(183,T183.sp)]
theorem tb147_ok (lv:Nat) (h:FnFact Tryz.prog 147 (T147 lv).sp):FnsOk Tryz.prog (tb147 lv):= .cons f37 (.cons f38 (.cons f39 (.cons h (.cons f168 (.cons f180 (.cons f181 (.cons f182 (.cons f183 .nil))))))))
theorem tk147 (lv:Nat):(tb147 lv) 37=some T37.sp∧(tb147 lv) 38=some T38.sp∧(tb147 lv) 39=some T39.sp∧(tb147 lv) 147=some (T147 lv).sp∧(tb147 lv) 168=some T168.sp∧(tb147 lv) 180=some T180.sp∧(tb147 lv) 181=some T181.sp∧(tb147 lv) 182=some T182.sp∧(tb147 lv) 183=some T183.sp:=⟨rfl,rfl,rfl,rfl,rfl,rfl,rfl,rfl,rfl⟩
section
attribute [local go_sem] tk147 Tryz.results147 Tryz.results118
theorem f147 (ix:Nat):FnFact Tryz.prog 147 (T147 ix).sp:=by
 induction ix with
 | zero=>exact fact_no Tryz.func147 (by decide) rfl (fun ⟨x1,x2,x3,x5,x4,x0,a1⟩ h=>Bool.false_ne_true h)
 | succ lv ih=>
 refine valid_m ty_ok (tb147_ok lv ih) Tryz.func147 rfl Tryz.ntmps147 fun ⟨x1,x2,x3,x5,x4,x0,a1⟩ r hr=>⟨nL rfl,fun stop S=> ?_⟩
 replace hr:=(uq7 x1 x2 x3 x5 x4 x0 a1 (r147 (lv+1))).symm.trans hr
 rw [r147] at hr
 unfold q147 at hr
 refine S.gx [26,7,21] ?_
 obtain ⟨v1,hv1,hr⟩:=of_bind0 hr
 refine gb hv1 ?_
 refine iW hr (fun hc hr=>D0 hr) fun hc hr=> ?_
 obtain ⟨v2,hv2,hr⟩:=of_bind0 hr
 refine gb hv2 ?_
 refine S.sees [1,2,5,6,19,20,21] [(2,2),(5,5)] [(19,19)] ?_ (Stop.iter S (fun s1=>⟨[(1,.c (.d (.int .i64 a1))),(2,.c (.ref 2 0)),(5,.c (.ref 5 0)),(6,.c (.d (.bool s1.1))),(19,.c (.own 19)),(20,.c (.d (.int .i64 (v2.length:Int)))),(21,.c (.d (.int .i64 s1.2)))],[(2,[.d (.int .i64 x1),.d (.int .i64 x2),.d (.int .i64 x3),.d (.int .i64 x5),.d (.int .i64 x4),.d (hE x0)]),(5,[.d (.int .i64 x1),.d (.int .i64 x2),.d (.int .i64 x3),.d (.int .i64 x5),.d (.int .i64 x4),.d (hE x0)])],[(19,.owned (encF 3 d_FII v2))]⟩) (b147_1 (r147 lv) x1 x2 x3 x5 x4 x0 a1 v2) (fun q=>q=r) hr rfl ?_)
 ·exact lf
 ·intro s1 hr
  unfold b147_1 at hr
  refine S.gx [26,7,21] ?_
  refine gr ?_
  refine iW1 hr (fun hc hr=> ?_) fun hc hr=> ?_
  ·obtain ⟨hg15,hr⟩:=of_guard1 hr
   refine gr ?_
   by_cases hs12:(v2.getD s1.2.toNat default).1=180
   ·rw [if_pos hs12] at hr
    simp only [hs12]
    refine S.gx [26,21] ?_
    obtain ⟨hg13,hr⟩:=of_guard1 hr
    obtain ⟨hg14,hr⟩:=of_guard1 hr
    repeat (first | refine gG hg13 ?_ | refine gG hg14 ?_ | refine gA ?_ | refine gB ?_)
    exact D1 (S.ss [1,2,5,6,19,20,21] [(2,2),(5,5)] [(19,19)]) hr
   ·rw [if_neg hs12] at hr
    by_cases hs9:(v2.getD s1.2.toNat default).1=181
    ·rw [if_pos hs9] at hr
     simp only [hs9]
     refine S.gx [26,21] ?_
     obtain ⟨hg10,hr⟩:=of_guard1 hr
     obtain ⟨hg11,hr⟩:=of_guard1 hr
     repeat (first | refine gG hg10 ?_ | refine gG hg11 ?_ | refine gA ?_ | refine gB ?_)
     exact D1 (S.ss [1,2,5,6,19,20,21] [(2,2),(5,5)] [(19,19)]) hr
    ·rw [if_neg hs9] at hr
     by_cases hs6:(v2.getD s1.2.toNat default).1=182
     ·rw [if_pos hs6] at hr
      simp only [hs6]
      refine S.gx [26,21] ?_
      obtain ⟨hg7,hr⟩:=of_guard1 hr
      obtain ⟨hg8,hr⟩:=of_guard1 hr
      repeat (first | refine gG hg7 ?_ | refine gG hg8 ?_ | refine gA ?_ | refine gB ?_)
      exact D1 (S.ss [1,2,5,6,19,20,21] [(2,2),(5,5)] [(19,19)]) hr
     ·rw [if_neg hs6] at hr
      by_cases hs3:(v2.getD s1.2.toNat default).1=183
      ·rw [if_pos hs3] at hr
       simp only [hs3]
       refine S.gx [26,21] ?_
       obtain ⟨hg4,hr⟩:=of_guard1 hr
       obtain ⟨hg5,hr⟩:=of_guard1 hr
       repeat (first | refine gG hg4 ?_ | refine gG hg5 ?_ | refine gA ?_ | refine gB ?_)
       exact D1 (S.ss [1,2,5,6,19,20,21] [(2,2),(5,5)] [(19,19)]) hr
      ·rw [if_neg hs3] at hr
       first | cases hr | exact hr.elim
  ·refine gr ?_
   have hr:=of_out0 hr
   refine gr ?_
   refine iW hr (fun hc hr=> ?_) fun hc hr=> ?_
   ·repeat (first | refine gA ?_ | refine gB ?_)
    refine S.prune [1,2,6,9,10] ?_
    refine S.gx [26,7] ?_
    obtain ⟨v16,hv16,hr⟩:=of_bind0 hr
    obtain ⟨v17,hv17,hr⟩:=of_bind0 hr
    obtain ⟨v18,hv18,hr⟩:=of_bind0 hr
    refine gb hv16 ?_
    refine gb hv17 ?_
    refine gb hv18 ?_
    repeat (first | refine gA ?_ | refine gB ?_)
    refine iW hr (fun hc hr=>D0 hr) fun hc hr=> ?_
    refine gr ?_
    refine iW hr (fun hc hr=>D0 hr) fun hc hr=> ?_
    refine gr ?_
    refine S.inl 4 [11] [] Tryz.func118 (by decide) rfl Tryz.ntmps118 (fun cx e=>drawn_ok ty_ok (tb147_ok lv ih) cx e) (some 109) rfl rfl rfl rfl (nL rfl) (nL rfl) ?_
    refine gs ?_
    refine gr ?_
    intro stop1 S1
    refine S1.gx [] ?_
    obtain ⟨v19,hv19,hr⟩:=of_bind0 hr
    obtain ⟨v20,hv20,hr⟩:=of_bind0 hr
    obtain ⟨v21,hv21,hr⟩:=of_bind0 hr
    refine gb hv19 ?_
    refine gb hv20 ?_
    refine gb hv21 ?_
    refine iW hr (fun hc hr=> ?_) fun hc hr=> ?_
    ·refine gr ?_
     refine gr ?_
     refine S.gx [26,7,21] ?_
     exact D0 hr
    ·refine gr ?_
     refine S1.sees [1,23,24,25] [] [] ?_ (Stop.iter S1 (fun s2=>⟨[(1,.c (.d (.int .i64 (IntKind.i64.wrap (a1+1))))),(23,.c (.d (encF 6 d_IIIIIH (hU x0)))),(24,.c (.d (.int .i64 ((hU x0).length:Int)))),(25,.c (.d (.int .i64 s2)))],[],[]⟩) (b147_2 (r147 lv) x0 a1) (fun q=>q=r) hr rfl ?_)
     ·exact lf
     ·intro s2 hr
      unfold b147_2 at hr
      refine S1.gx [] ?_
      refine gr ?_
      refine iW1 hr (fun hc hr=> ?_) fun hc hr=> ?_
      ·obtain ⟨hg23,hr⟩:=of_guard1 hr
       obtain ⟨v22,hv22,hr⟩:=of_bind1 hr
       refine gb hv22 ?_
       refine iW1 hr (fun hc hr=> ?_) fun hc hr=>D1 (S1.ss [1,23,24,25] [] []) hr
       refine gr ?_
       have hr:=of_out0 hr
       refine gr ?_
       refine S.gx [26,7,21] ?_
       exact D0 hr
      ·refine gr ?_
       have hr:=of_out0 hr
       refine gr ?_
       refine gr ?_
       refine S.gx [26,7,21] ?_
       exact D0 hr
   ·refine gr ?_
    refine iW hr (fun hc hr=> ?_) fun hc hr=> ?_
    ·repeat (first | refine gA ?_ | refine gB ?_)
     refine S.prune [1,2,6,9,10] ?_
     refine S.gx [26,7] ?_
     obtain ⟨v24,hv24,hr⟩:=of_bind0 hr
     obtain ⟨v25,hv25,hr⟩:=of_bind0 hr
     obtain ⟨v26,hv26,hr⟩:=of_bind0 hr
     refine gb hv24 ?_
     refine gb hv25 ?_
     refine gb hv26 ?_
     repeat (first | refine gA ?_ | refine gB ?_)
     refine iW hr (fun hc hr=>D0 hr) fun hc hr=> ?_
     refine gr ?_
     refine iW hr (fun hc hr=>D0 hr) fun hc hr=> ?_
     refine gr ?_
     refine S.inl 4 [11] [] Tryz.func118 (by decide) rfl Tryz.ntmps118 (fun cx e=>drawn_ok ty_ok (tb147_ok lv ih) cx e) (some 109) rfl rfl rfl rfl (nL rfl) (nL rfl) ?_
     refine gs ?_
     refine gr ?_
     intro stop1 S1
     refine S1.gx [] ?_
     obtain ⟨v27,hv27,hr⟩:=of_bind0 hr
     obtain ⟨v28,hv28,hr⟩:=of_bind0 hr
     obtain ⟨v29,hv29,hr⟩:=of_bind0 hr
     refine gb hv27 ?_
     refine gb hv28 ?_
     refine gb hv29 ?_
     refine iW hr (fun hc hr=> ?_) fun hc hr=> ?_
     ·refine gr ?_
      refine gr ?_
      refine S.gx [26,7,21] ?_
      exact D0 hr
     ·refine gr ?_
      refine S1.sees [1,23,24,25] [] [] ?_ (Stop.iter S1 (fun s3=>⟨[(1,.c (.d (.int .i64 (IntKind.i64.wrap (a1+1))))),(23,.c (.d (encF 6 d_IIIIIH (hU x0)))),(24,.c (.d (.int .i64 ((hU x0).length:Int)))),(25,.c (.d (.int .i64 s3)))],[],[]⟩) (b147_3 (r147 lv) x0 a1) (fun q=>q=r) hr rfl ?_)
      ·exact lf
      ·intro s3 hr
       unfold b147_3 at hr
       refine S1.gx [] ?_
       refine gr ?_
       refine iW1 hr (fun hc hr=> ?_) fun hc hr=> ?_
       ·obtain ⟨hg31,hr⟩:=of_guard1 hr
        obtain ⟨v30,hv30,hr⟩:=of_bind1 hr
        refine gb hv30 ?_
        refine iW1 hr (fun hc hr=> ?_) fun hc hr=>D1 (S1.ss [1,23,24,25] [] []) hr
        refine gr ?_
        have hr:=of_out0 hr
        refine gr ?_
        refine S.gx [26,7,21] ?_
        exact D0 hr
       ·refine gr ?_
        have hr:=of_out0 hr
        refine gr ?_
        refine gr ?_
        refine S.gx [26,7,21] ?_
        exact D0 hr
    ·refine gr ?_
     refine iW hr (fun hc hr=> ?_) fun hc hr=> ?_
     ·repeat (first | refine gA ?_ | refine gB ?_)
      refine S.prune [1,2,6,9,10] ?_
      refine S.gx [26,7] ?_
      obtain ⟨v32,hv32,hr⟩:=of_bind0 hr
      obtain ⟨v33,hv33,hr⟩:=of_bind0 hr
      obtain ⟨v34,hv34,hr⟩:=of_bind0 hr
      refine gb hv32 ?_
      refine gb hv33 ?_
      refine gb hv34 ?_
      repeat (first | refine gA ?_ | refine gB ?_)
      refine iW hr (fun hc hr=>D0 hr) fun hc hr=> ?_
      refine gr ?_
      refine iW hr (fun hc hr=>D0 hr) fun hc hr=> ?_
      refine gr ?_
      refine S.inl 4 [11] [] Tryz.func118 (by decide) rfl Tryz.ntmps118 (fun cx e=>drawn_ok ty_ok (tb147_ok lv ih) cx e) (some 109) rfl rfl rfl rfl (nL rfl) (nL rfl) ?_
      refine gs ?_
      refine gr ?_
      intro stop1 S1
      refine S1.gx [] ?_
      obtain ⟨v35,hv35,hr⟩:=of_bind0 hr
      obtain ⟨v36,hv36,hr⟩:=of_bind0 hr
      obtain ⟨v37,hv37,hr⟩:=of_bind0 hr
      refine gb hv35 ?_
      refine gb hv36 ?_
      refine gb hv37 ?_
      refine iW hr (fun hc hr=> ?_) fun hc hr=> ?_
      ·refine gr ?_
       refine gr ?_
       refine S.gx [26,7,21] ?_
       exact D0 hr
      ·refine gr ?_
       refine S1.sees [1,23,24,25] [] [] ?_ (Stop.iter S1 (fun s4=>⟨[(1,.c (.d (.int .i64 (IntKind.i64.wrap (a1+1))))),(23,.c (.d (encF 6 d_IIIIIH (hU x0)))),(24,.c (.d (.int .i64 ((hU x0).length:Int)))),(25,.c (.d (.int .i64 s4)))],[],[]⟩) (b147_4 (r147 lv) x0 a1) (fun q=>q=r) hr rfl ?_)
       ·exact lf
       ·intro s4 hr
        unfold b147_4 at hr
        refine S1.gx [] ?_
        refine gr ?_
        refine iW1 hr (fun hc hr=> ?_) fun hc hr=> ?_
        ·obtain ⟨hg39,hr⟩:=of_guard1 hr
         obtain ⟨v38,hv38,hr⟩:=of_bind1 hr
         refine gb hv38 ?_
         refine iW1 hr (fun hc hr=> ?_) fun hc hr=>D1 (S1.ss [1,23,24,25] [] []) hr
         refine gr ?_
         have hr:=of_out0 hr
         refine gr ?_
         refine S.gx [26,7,21] ?_
         exact D0 hr
        ·refine gr ?_
         have hr:=of_out0 hr
         refine gr ?_
         refine gr ?_
         refine S.gx [26,7,21] ?_
         exact D0 hr
     ·refine gr ?_
      refine iW hr (fun hc hr=> ?_) fun hc hr=> ?_
      ·repeat (first | refine gA ?_ | refine gB ?_)
       refine S.prune [1,2,6,9,10] ?_
       refine S.gx [26,7] ?_
       obtain ⟨v40,hv40,hr⟩:=of_bind0 hr
       obtain ⟨v41,hv41,hr⟩:=of_bind0 hr
       obtain ⟨v42,hv42,hr⟩:=of_bind0 hr
       refine gb hv40 ?_
       refine gb hv41 ?_
       refine gb hv42 ?_
       repeat (first | refine gA ?_ | refine gB ?_)
       refine iW hr (fun hc hr=>D0 hr) fun hc hr=> ?_
       refine gr ?_
       refine iW hr (fun hc hr=>D0 hr) fun hc hr=> ?_
       refine gr ?_
       refine S.inl 4 [11] [] Tryz.func118 (by decide) rfl Tryz.ntmps118 (fun cx e=>drawn_ok ty_ok (tb147_ok lv ih) cx e) (some 109) rfl rfl rfl rfl (nL rfl) (nL rfl) ?_
       refine gs ?_
       refine gr ?_
       intro stop1 S1
       refine S1.gx [] ?_
       obtain ⟨v43,hv43,hr⟩:=of_bind0 hr
       obtain ⟨v44,hv44,hr⟩:=of_bind0 hr
       obtain ⟨v45,hv45,hr⟩:=of_bind0 hr
       refine gb hv43 ?_
       refine gb hv44 ?_
       refine gb hv45 ?_
       refine iW hr (fun hc hr=> ?_) fun hc hr=> ?_
       ·refine gr ?_
        refine gr ?_
        refine S.gx [26,7,21] ?_
        exact D0 hr
       ·refine gr ?_
        refine S1.sees [1,23,24,25] [] [] ?_ (Stop.iter S1 (fun s5=>⟨[(1,.c (.d (.int .i64 (IntKind.i64.wrap (a1+1))))),(23,.c (.d (encF 6 d_IIIIIH (hU x0)))),(24,.c (.d (.int .i64 ((hU x0).length:Int)))),(25,.c (.d (.int .i64 s5)))],[],[]⟩) (b147_5 (r147 lv) x0 a1) (fun q=>q=r) hr rfl ?_)
        ·exact lf
        ·intro s5 hr
         unfold b147_5 at hr
         refine S1.gx [] ?_
         refine gr ?_
         refine iW1 hr (fun hc hr=> ?_) fun hc hr=> ?_
         ·obtain ⟨hg47,hr⟩:=of_guard1 hr
          obtain ⟨v46,hv46,hr⟩:=of_bind1 hr
          refine gb hv46 ?_
          refine iW1 hr (fun hc hr=> ?_) fun hc hr=>D1 (S1.ss [1,23,24,25] [] []) hr
          refine gr ?_
          have hr:=of_out0 hr
          refine gr ?_
          refine S.gx [26,7,21] ?_
          exact D0 hr
         ·refine gr ?_
          have hr:=of_out0 hr
          refine gr ?_
          refine gr ?_
          refine S.gx [26,7,21] ?_
          exact D0 hr
      ·repeat (first | refine gA ?_ | refine gB ?_)
       refine S.prune [1,2,6,9,10] ?_
       refine S.gx [26,7] ?_
       obtain ⟨v48,hv48,hr⟩:=of_bind0 hr
       obtain ⟨v49,hv49,hr⟩:=of_bind0 hr
       obtain ⟨v50,hv50,hr⟩:=of_bind0 hr
       refine gb hv48 ?_
       refine gb hv49 ?_
       refine gb hv50 ?_
       repeat (first | refine gA ?_ | refine gB ?_)
       refine iW hr (fun hc hr=>D0 hr) fun hc hr=> ?_
       refine gr ?_
       refine iW hr (fun hc hr=>D0 hr) fun hc hr=> ?_
       refine gr ?_
       refine S.inl 4 [11] [] Tryz.func118 (by decide) rfl Tryz.ntmps118 (fun cx e=>drawn_ok ty_ok (tb147_ok lv ih) cx e) (some 109) rfl rfl rfl rfl (nL rfl) (nL rfl) ?_
       refine gs ?_
       refine gr ?_
       intro stop1 S1
       refine S1.gx [] ?_
       obtain ⟨v51,hv51,hr⟩:=of_bind0 hr
       obtain ⟨v52,hv52,hr⟩:=of_bind0 hr
       obtain ⟨v53,hv53,hr⟩:=of_bind0 hr
       refine gb hv51 ?_
       refine gb hv52 ?_
       refine gb hv53 ?_
       refine iW hr (fun hc hr=> ?_) fun hc hr=> ?_
       ·refine gr ?_
        refine gr ?_
        refine S.gx [26,7,21] ?_
        exact D0 hr
       ·refine gr ?_
        refine S1.sees [1,23,24,25] [] [] ?_ (Stop.iter S1 (fun s6=>⟨[(1,.c (.d (.int .i64 (IntKind.i64.wrap (a1+1))))),(23,.c (.d (encF 6 d_IIIIIH (hU x0)))),(24,.c (.d (.int .i64 ((hU x0).length:Int)))),(25,.c (.d (.int .i64 s6)))],[],[]⟩) (b147_6 (r147 lv) x0 a1) (fun q=>q=r) hr rfl ?_)
        ·exact lf
        ·intro s6 hr
         unfold b147_6 at hr
         refine S1.gx [] ?_
         refine gr ?_
         refine iW1 hr (fun hc hr=> ?_) fun hc hr=> ?_
         ·obtain ⟨hg55,hr⟩:=of_guard1 hr
          obtain ⟨v54,hv54,hr⟩:=of_bind1 hr
          refine gb hv54 ?_
          refine iW1 hr (fun hc hr=> ?_) fun hc hr=>D1 (S1.ss [1,23,24,25] [] []) hr
          refine gr ?_
          have hr:=of_out0 hr
          refine gr ?_
          refine S.gx [26,7,21] ?_
          exact D0 hr
         ·refine gr ?_
          have hr:=of_out0 hr
          refine gr ?_
          refine gr ?_
          refine S.gx [26,7,21] ?_
          exact D0 hr
end
def b88_1 (a0:L_IIIIIH):Bd Int (Int×Int):=fun s1=>
 if (decide (s1<(a0.length:Int)))=true then
  if 0≤s1∧s1<(a0.length:Int) then
   bindC (r147 7 ((a0.getD s1.toNat default).1) ((a0.getD s1.toNat default).2.1) ((a0.getD s1.toNat default).2.2.1) ((a0.getD s1.toNat default).2.2.2.1) ((a0.getD s1.toNat default).2.2.2.2.1) ((a0.getD s1.toNat default).2.2.2.2.2) 0) fun v10=>
    if (v10 != 0)=true then
     .out (if (v10 != 0)=true then
      some (s1,v10)
      else (r89 a0).bind fun v11=>
       (r39 (decide ((v11.length:Int)≤60)) 8).bind fun v12=>
        if 0≤IntKind.i64.wrap ((v11.length:Int) - 1)∧IntKind.i64.wrap ((v11.length:Int) - 1)<(v11.length:Int) then
         (r90 ((v11.getD (IntKind.i64.wrap ((v11.length:Int) - 1)).toNat default).1)).bind fun v13=>
          (r39 v13 20).bind fun v14=>
           (r38 [v12,v14]).bind fun v15=>
            some (0,v15)
         else none)
     else .next (IntKind.i64.wrap (s1+1))
   else .out none
  else .out ((r89 a0).bind fun v18=>
   (r39 (decide ((v18.length:Int)≤60)) 8).bind fun v19=>
    if 0≤IntKind.i64.wrap ((v18.length:Int) - 1)∧IntKind.i64.wrap ((v18.length:Int) - 1)<(v18.length:Int) then
     (r90 ((v18.getD (IntKind.i64.wrap ((v18.length:Int) - 1)).toNat default).1)).bind fun v20=>
      (r39 v20 20).bind fun v21=>
       (r38 [v19,v21]).bind fun v22=>
        some (0,v22)
     else none)
def r88 (a0:L_IIIIIH):Option (Int×Int):=
 (r39 (decide ((a0.length:Int)>0)) 10).bind fun v1=>
  (r39 (decide ((a0.length:Int)≤12)) 8).bind fun v2=>
   (r38 [v1,v2]).bind fun v3=>
    if (v3 != 0)=true then
     if (v3 != 0)=true then
      some (0,v3)
      else (r89 a0).bind fun v4=>
       (r39 (decide ((v4.length:Int)≤60)) 8).bind fun v5=>
        if 0≤IntKind.i64.wrap ((v4.length:Int) - 1)∧IntKind.i64.wrap ((v4.length:Int) - 1)<(v4.length:Int) then
         (r90 ((v4.getD (IntKind.i64.wrap ((v4.length:Int) - 1)).toNat default).1)).bind fun v6=>
          (r39 v6 20).bind fun v7=>
           (r38 [v5,v7]).bind fun v8=>
            some (0,v8)
         else none
     else iterC (b88_1 a0) 1000000000 0
def T88:=qT20 qu4 false r88
attribute [go_sem] T88
def tb88:Fns:=lk [(38,T38.sp),(39,T39.sp),(89,T89.sp),(90,T90.sp),(147,(T147 7).sp)]
theorem tb88_ok:FnsOk Tryz.prog tb88:= .cons f38 (.cons f39 (.cons f89 (.cons f90 (.cons (f147 7) .nil))))
theorem tk88:tb88 38=some T38.sp∧tb88 39=some T39.sp∧tb88 89=some T89.sp∧tb88 90=some T90.sp∧tb88 147=some (T147 7).sp:=⟨rfl,rfl,rfl,rfl,rfl⟩
section
attribute [local go_sem] tk88 Tryz.results88 Tryz.results118
theorem f88:FnFact Tryz.prog 88 T88.sp:=by
 refine valid_m ty_ok tb88_ok Tryz.func88 rfl Tryz.ntmps88 fun a0 r hr=>⟨nL rfl,fun stop S=> ?_⟩
 replace hr:r88 a0=some r:=hr
 unfold r88 at hr
 refine S.gx [1] ?_
 refine gr ?_
 refine S.inl 1 [0] [] Tryz.func118 (by decide) rfl Tryz.ntmps118 (fun cx e=>drawn_ok ty_ok tb88_ok cx e) (some 9) rfl rfl rfl rfl (nL rfl) (nL rfl) ?_
 refine gs ?_
 refine gr ?_
 intro stop1 S1
 refine S1.gx [] ?_
 obtain ⟨v1,hv1,hr⟩:=of_bind0 hr
 obtain ⟨v2,hv2,hr⟩:=of_bind0 hr
 obtain ⟨v3,hv3,hr⟩:=of_bind0 hr
 refine gb hv1 ?_
 refine gb hv2 ?_
 refine gb hv3 ?_
 refine iW hr (fun hc hr=> ?_) fun hc hr=> ?_
 ·refine gr ?_
  refine gr ?_
  refine S.gx [1] ?_
  exact D0 hr
 ·refine gr ?_
  refine S1.sees [1,23,24,25] [] [] ?_ (Stop.iter S1 (fun s1=>⟨[(1,.c (.d (.int .i64 0))),(23,.c (.d (encF 6 d_IIIIIH a0))),(24,.c (.d (.int .i64 (a0.length:Int)))),(25,.c (.d (.int .i64 s1)))],[],[]⟩) (b88_1 a0) (fun q=>q=r) hr rfl ?_)
  ·exact lf
  ·intro s1 hr
   unfold b88_1 at hr
   refine S1.gx [] ?_
   refine gr ?_
   refine iW1 hr (fun hc hr=> ?_) fun hc hr=> ?_
   ·obtain ⟨hg17,hr⟩:=of_guard1 hr
    obtain ⟨v10,hv10,hr⟩:=of_bind1 hr
    refine gb hv10 ?_
    refine iW1 hr (fun hc hr=> ?_) fun hc hr=>D1 (S1.ss [1,23,24,25] [] []) hr
    refine gr ?_
    have hr:=of_out0 hr
    refine gr ?_
    refine S.gx [1] ?_
    exact D0 hr
   ·refine gr ?_
    have hr:=of_out0 hr
    refine gr ?_
    refine gr ?_
    refine S.gx [1] ?_
    exact D0 hr
end
def r54 (a0:L_IIIIIH):Option (L_IIIIIH×Int):=
 (r88 a0).bind fun v1=>
  if (v1.2 != 0)=true then
   some ([],v1.2)
   else (r89 a0).bind fun v2=>
    some (v2,0)
def T54:=qT20 qu11 true r54
attribute [go_sem] T54
def tb54:Fns:=lk [(88,T88.sp),(89,T89.sp)]
theorem tb54_ok:FnsOk Tryz.prog tb54:= .cons f88 (.cons f89 .nil)
theorem tk54:tb54 88=some T88.sp∧tb54 89=some T89.sp:=⟨rfl,rfl⟩
section
attribute [local go_sem] tk54 Tryz.results54
theorem f54:FnFact Tryz.prog 54 T54.sp:=by
 refine valid_m ty_ok tb54_ok Tryz.func54 rfl Tryz.ntmps54 fun a0 r hr=>⟨nL rfl,fun stop S=> ?_⟩
 replace hr:r54 a0=some r:=hr
 unfold r54 at hr
 refine S.gx [] ?_
 exact D0 hr
end
def r43 (x1 x2:Int) (x3:L_II) (x0:L_LIIE) (x4 x5:L_I) (x6:L_II) (x7 x8:Int):Option (Int):=
 some (IntKind.i64.wrap ((x0.length:Int) - 1))
def T43:=qT19 qu3 false r43
attribute [go_sem] T43
def tb43:Fns:=lk []
theorem tb43_ok:FnsOk Tryz.prog tb43:=FnsOk.nil
section
attribute [local go_sem] Tryz.results43
theorem f43:FnFact Tryz.prog 43 T43.sp:=by
 refine valid_m ty_ok tb43_ok Tryz.func43 rfl Tryz.ntmps43 fun ⟨x1,x2,x3,x0,x4,x5,x6,x7,x8⟩ r hr=>⟨nL rfl,fun stop S=> ?_⟩
 replace hr:r43 x1 x2 x3 x0 x4 x5 x6 x7 x8=some r:=hr
 unfold r43 at hr
 refine S.gx [] ?_
 exact D0 hr
end
def r111 (x1 x2:Int) (x3:L_II) (x4:L_LIIE) (x0:L_II) (x5:L_LIIE) (a1:Int):Option (Int×Int):=
 (r113 x0 a1 1).bind fun v1=>
  some (v1.1,v1.2)
def T111:=qT13 qu7 false r111
attribute [go_sem] T111
def tb111:Fns:=lk [(113,T113.sp)]
theorem tb111_ok:FnsOk Tryz.prog tb111:= .cons f113 .nil
theorem tk111:tb111 113=some T113.sp:=rfl
section
attribute [local go_sem] tk111 Tryz.results111
theorem f111:FnFact Tryz.prog 111 T111.sp:=by
 refine valid_m ty_ok tb111_ok Tryz.func111 rfl Tryz.ntmps111 fun ⟨x1,x2,x3,x4,x0,x5,a1⟩ r hr=>⟨nL rfl,fun stop S=> ?_⟩
 replace hr:r111 x1 x2 x3 x4 x0 x5 a1=some r:=hr
 unfold r111 at hr
 refine S.gx [] ?_
 exact D0 hr
end
def b139_1:Bd (Int×Int) Int:=fun s1=>
 if (s1.2 != 0)=true then
  if s1.2≠0 then
   .next (s1.2,s1.1.tmod s1.2)
   else .out none
  else .out (some (if s1.1<IntKind.i64.wrap (0 - s1.1) then IntKind.i64.wrap (0 - s1.1) else s1.1))
def r139 (a0 a1:Int):Option (Int):=
 iterC (b139_1) 1000000000 (a0,a1)
def T139:=qT7 qu3 false r139
attribute [go_sem] T139
def tb139:Fns:=lk []
theorem tb139_ok:FnsOk Tryz.prog tb139:=FnsOk.nil
section
attribute [local go_sem] Tryz.results139
theorem f139:FnFact Tryz.prog 139 T139.sp:=by
 refine valid_m ty_ok tb139_ok Tryz.func139 rfl Tryz.ntmps139 fun ⟨a0,a1⟩ r hr=>⟨nL rfl,fun stop S=> ?_⟩
 replace hr:r139 a0 a1=some r:=hr
 unfold r139 at hr
 refine S.gx [] ?_
 refine gr ?_
 refine S.sees [0,1] [] [] ?_ (Stop.iter S (fun s1=>⟨[(0,.c (.d (.int .i64 s1.1))),(1,.c (.d (.int .i64 s1.2)))],[],[]⟩) (b139_1) (fun q=>q=r) hr rfl ?_)
 ·exact lf
 ·intro s1 hr
  unfold b139_1 at hr
  refine S.gx [] ?_
  exact D1 (S.ss [0,1] [] []) hr
end
def r105 (x0 x1:Int) (x2:L_II) (x3:L_LIIE) (a1:Int):Option (Int×Int×Int):=
 (r73 x0 x1 x2 x3).bind fun v1=>
  if (v1.2.2.2.2.2.2 == 0)=true then
   (r84 v1.1 v1.2.1 v1.2.2.1 v1.2.2.2.1 v1.2.2.2.2.1 v1.2.2.2.2.2.1 a1).bind fun v2=>
    (r78 v2 2).bind fun v3=>
     if (v3 != 0)=true then
      some (0,0,v3)
      else (r111 v1.1 v1.2.1 v1.2.2.1 v1.2.2.2.1 v1.2.2.2.2.1 v1.2.2.2.2.2.1 a1).bind fun v4=>
       (r139 v4.1 v4.2).bind fun v5=>
        if v5≠0 then
         if v5≠0 then
          some (IntKind.i64.wrap (v4.1.tdiv v5),IntKind.i64.wrap (v4.2.tdiv v5),0)
          else none
         else none
   else if (v1.2.2.2.2.2.2 != 0)=true then
    some (0,0,v1.2.2.2.2.2.2)
    else (r111 v1.1 v1.2.1 v1.2.2.1 v1.2.2.2.1 v1.2.2.2.2.1 v1.2.2.2.2.2.1 a1).bind fun v8=>
     (r139 v8.1 v8.2).bind fun v9=>
      if v9≠0 then
       if v9≠0 then
        some (IntKind.i64.wrap (v8.1.tdiv v9),IntKind.i64.wrap (v8.2.tdiv v9),0)
        else none
       else none
def T105:=qT23 qu12 false r105
attribute [go_sem] T105
def tb105:Fns:=lk [(73,T73.sp),(78,T78.sp),(84,T84.sp),(111,T111.sp),(139,T139.sp)]
theorem tb105_ok:FnsOk Tryz.prog tb105:= .cons f73 (.cons f78 (.cons f84 (.cons f111 (.cons f139 .nil))))
theorem tk105:tb105 73=some T73.sp∧tb105 78=some T78.sp∧tb105 84=some T84.sp∧tb105 111=some T111.sp∧tb105 139=some T139.sp:=⟨rfl,rfl,rfl,rfl,rfl⟩
section
attribute [local go_sem] tk105 Tryz.results105
theorem f105:FnFact Tryz.prog 105 T105.sp:=by
 refine valid_m ty_ok tb105_ok Tryz.func105 rfl Tryz.ntmps105 fun ⟨x0,x1,x2,x3,a1⟩ r hr=>⟨nL rfl,fun stop S=> ?_⟩
 replace hr:r105 x0 x1 x2 x3 a1=some r:=hr
 unfold r105 at hr
 refine S.gx [] ?_
 exact D0 hr
end
def r72 (x0 x1:Int) (x2:L_II) (x3:L_LIIE) (x4 x5:L_I) (x6:L_II) (x7 x8 a1 a2:Int):Option (Int):=
 (r105 x0 x1 x2 x3 a1).bind fun v1=>
  some (IntKind.i64.wrap (v1.1 - (IntKind.i64.wrap (a2*v1.2.1))))
def T72:=qT24 qu3 false r72
attribute [go_sem] T72
def tb72:Fns:=lk [(105,T105.sp)]
theorem tb72_ok:FnsOk Tryz.prog tb72:= .cons f105 .nil
theorem tk72:tb72 105=some T105.sp:=rfl
section
attribute [local go_sem] tk72 Tryz.results72
theorem f72:FnFact Tryz.prog 72 T72.sp:=by
 refine valid_m ty_ok tb72_ok Tryz.func72 rfl Tryz.ntmps72 fun ⟨x0,x1,x2,x3,x4,x5,x6,x7,x8,a1,a2⟩ r hr=>⟨nL rfl,fun stop S=> ?_⟩
 replace hr:r72 x0 x1 x2 x3 x4 x5 x6 x7 x8 a1 a2=some r:=hr
 unfold r72 at hr
 refine S.gx [] ?_
 exact D0 hr
end
def r69 (x0 x1:Int):Option (Int):=
 some (IntKind.i64.wrap ((IntKind.i64.wrap (x0+x1)).tdiv 2))
def T69:=qT25 qu3 false r69
attribute [go_sem] T69
def tb69:Fns:=lk []
theorem tb69_ok:FnsOk Tryz.prog tb69:=FnsOk.nil
section
attribute [local go_sem] Tryz.results69
theorem f69:FnFact Tryz.prog 69 T69.sp:=by
 refine valid_m ty_ok tb69_ok Tryz.func69 rfl Tryz.ntmps69 fun ⟨x0,x1⟩ r hr=>⟨nL rfl,fun stop S=> ?_⟩
 replace hr:r69 x0 x1=some r:=hr
 unfold r69 at hr
 refine S.gx [] ?_
 exact D0 hr
end
def b68_1 (x0:L_II) (x2 x1:Int):Bd (Int×(List (Int))) (L_I×Int):=fun s1=>
 if (decide (s1.1<(x0.length:Int)))=true then
  if 0≤s1.1∧s1.1<(x0.length:Int) then
   bindC (r69 ((x0.getD s1.1.toNat default).1) ((x0.getD s1.1.toNat default).2)) fun v1=>
    if (s1.2.length+1)*8≤140737488355328∧s1.2.length+1≤9223372036854775807 then
     .next (IntKind.i64.wrap (s1.1+1),s1.2++[IntKind.i64.wrap ((IntKind.i64.wrap (x2*v1)).tdiv 1000)])
     else .out none
   else .out none
  else .out (some (s1.2,x1))
def r68 (x3 x4:Int) (x5:L_II) (x6:L_LIIE) (x7 x8:L_I) (x0:L_II) (x9 x10 x2 x1:Int):Option (L_I×Int):=
 iterC (b68_1 x0 x2 x1) 1000000000 (0,[])
def T68:=qT26 qu13 false r68
attribute [go_sem] T68
def tb68:Fns:=lk [(69,T69.sp)]
theorem tb68_ok:FnsOk Tryz.prog tb68:= .cons f69 .nil
theorem tk68:tb68 69=some T69.sp:=rfl
section
attribute [local go_sem] tk68 Tryz.results68
theorem f68:FnFact Tryz.prog 68 T68.sp:=by
 refine valid_m ty_ok tb68_ok Tryz.func68 rfl Tryz.ntmps68 fun ⟨x3,x4,x5,x6,x7,x8,x0,x9,x10,x2,x1⟩ r hr=>⟨nL rfl,fun stop S=> ?_⟩
 replace hr:r68 x3 x4 x5 x6 x7 x8 x0 x9 x10 x2 x1=some r:=hr
 unfold r68 at hr
 refine S.gx [] ?_
 refine gr ?_
 refine S.own0b 7 0 2000700 1 rfl rfl (nL rfl) rfl ?_
 refine S.sees [2,4,6,7,15,16,17] [(4,4),(6,6),(7,7)] [(2000700,2000700)] ?_ (Stop.iter S (fun s1=>⟨[(2,.c (.clo 69 [])),(4,.c (.ref 4 0)),(6,.c (.ref 6 0)),(7,.c (.ref 7 0)),(15,.c (.d (encF 2 d_II x0))),(16,.c (.d (.int .i64 (x0.length:Int)))),(17,.c (.d (.int .i64 s1.1)))],[(4,[.d (.int .i64 x2),.d (.int .i64 x1)]),(6,[.nils,.d (.int .i64 0)]),(7,[.own 2000700,.d (.int .i64 x1)])],[(2000700,.owned (encF 1 d_I s1.2))]⟩) (b68_1 x0 x2 x1) (fun q=>q=r) hr rfl ?_)
 ·exact lf
 ·intro s1 hr
  unfold b68_1 at hr
  refine S.gx [] ?_
  exact D1 (S.ss [2,4,6,7,15,16,17] [(4,4),(6,6),(7,7)] [(31,2000700)]) hr
end
def r47 (x0 x1:Int) (x2:L_II) (x3:L_LIIE) (a1:L_I):Option (Int×Int×L_II×L_LIIE×L_II×L_LIIE×Int):=
 (r73 x0 x1 x2 x3).bind fun v1=>
  if (v1.2.2.2.2.2.2 == 0)=true then
   (r74 v1.1 v1.2.1 v1.2.2.1 v1.2.2.2.1 v1.2.2.2.2.1 v1.2.2.2.2.2.1 a1).bind fun v2=>
    some (v1.1,v1.2.1,v1.2.2.1,v1.2.2.2.1,v1.2.2.2.2.1,v1.2.2.2.2.2.1,v2.2)
   else some (v1.1,v1.2.1,v1.2.2.1,v1.2.2.2.1,v1.2.2.2.2.1,v1.2.2.2.2.2.1,v1.2.2.2.2.2.2)
def T47:=qT27 qu8 true r47
attribute [go_sem] T47
def tb47:Fns:=lk [(73,T73.sp),(74,T74.sp)]
theorem tb47_ok:FnsOk Tryz.prog tb47:= .cons f73 (.cons f74 .nil)
theorem tk47:tb47 73=some T73.sp∧tb47 74=some T74.sp:=⟨rfl,rfl⟩
section
attribute [local go_sem] tk47 Tryz.results47
theorem f47:FnFact Tryz.prog 47 T47.sp:=by
 refine valid_m ty_ok tb47_ok Tryz.func47 rfl Tryz.ntmps47 fun ⟨x0,x1,x2,x3,a1⟩ r hr=>⟨nL rfl,fun stop S=> ?_⟩
 replace hr:r47 x0 x1 x2 x3 a1=some r:=hr
 unfold r47 at hr
 refine S.gx [] ?_
 exact D0 hr
end
end Go.Proofs.YtlnlpncchgimgaaGreatDoor

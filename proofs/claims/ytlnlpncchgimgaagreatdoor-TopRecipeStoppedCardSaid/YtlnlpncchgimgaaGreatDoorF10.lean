/- Contracts of functions, written by wip/dec. -/
import Derived.Test.YtlnlpncchgimgaaGreatDoorF00
import Derived.Test.YtlnlpncchgimgaaGreatDoorF04
import Derived.Test.YtlnlpncchgimgaaGreatDoorF06
import Derived.Test.YtlnlpncchgimgaaGreatDoorF07
import Derived.Test.YtlnlpncchgimgaaGreatDoorF08
import Derived.Test.YtlnlpncchgimgaaGreatDoorF09
set_option linter.unusedVariables false
set_option linter.unusedSimpArgs false
set_option linter.constructorNameAsVariable false
set_option maxHeartbeats 4000000
set_option maxRecDepth 20000
namespace Go.Proofs.YtlnlpncchgimgaaGreatDoor
open Go.Abs
section
variable {β:Type} [Inhabited β] (u:β→List RV) (al:Bool)
def qw52 (a0 a1:Int) (a2:L_II) (a3:L_LIIE) (a4 a5:L_I) (a6:L_II) (a7 a8:Int) (a9:L_II) (a10:Int):List Arg:=[.agg [.int .i64 a0,.int .i64 a1,encF 2 d_II a2,encF 1 d_LIIE a3,encF 1 d_I a4,encF 1 d_I a5,encF 2 d_II a6,.int .i64 a7,.int .i64 a8],.c (encF 2 d_II a9),.c (.int .i64 a10)]
def qd52:List Arg→Int×Int×L_II×L_LIIE×L_I×L_I×L_II×Int×Int×L_II×Int
 | [.agg [c0,c1,c2,c3,c4,c5,c6,c7,c8],.c c9,.c c10]=>(dInt c0,dInt c1,decF g_II c2,decF g_LIIE c3,decF g_I c4,decF g_I c5,decF g_II c6,dInt c7,dInt c8,decF g_II c9,dInt c10)
 | _=>default
def qT52 (r:Int→Int→L_II→L_LIIE→L_I→L_I→L_II→Int→Int→L_II→Int→Option β):=mkT (u11 qw52) qd52 (u11 r) u al
attribute [go_sem] qw52 qd52 qT52
end
def b3_3 (x0 x1:Int) (x2:L_II) (x3:L_LIIE) (x4:L_II) (s1:Int) (v8:L_II×Bool×Int) (s2:Int×Int×(List (Int))):Bd (Int×(List (Int))) (Ctl (Int×Int×(List (Int))) (Ctl (Int) (Bool))):=fun s3=>
 if (decide (s3.1<(x4.length:Int)))=true then
  if 0≤s3.1∧s3.1<(x4.length:Int) then
   if 0≤s3.1∧s3.1<(x4.length:Int) then
    bindC (r18 (IntKind.i64.wrap (((x4.getD s3.1.toNat default).1)+((x4.getD s3.1.toNat default).2))) 2) fun v11=>
     if 0≤s2.2.1∧s2.2.1<(v8.1.length:Int) then
      bindC (r18 (IntKind.i64.wrap (((v8.1.getD s2.2.1.toNat default).1)*v11)) 1000) fun v12=>
       if (s3.2.length+1)*8≤140737488355328∧s3.2.length+1≤9223372036854775807 then
        .next (IntKind.i64.wrap (s3.1+1),s3.2++[v12])
        else .out none
      else .out none
    else .out none
   else .out none
  else .out (some (bindC (r19 x0 x1 x2 x3 s3.2 ((v8.1.getD s2.2.1.toNat default).2)) fun v17=>
   if (v17 != 0)=true then
    .out (some (.out (some false)))
    else bindC (r21 x0 x1 x2 x3) fun v18=>
     bindC (r16 s2.2.2) fun v19=>
      bindC (r20 v18.1 v18.2.1 v18.2.2.1 v18.2.2.2 v19 s3.2 ((v8.1.getD s2.2.1.toNat default).2)) fun v20=>
       if (!(v20.2 != 0))=true→(r22 x0 x1 x2 x3 v20.1).isSome=true then
        if ((!((v20.2 != 0) || (((r22 x0 x1 x2 x3 v20.1).getD default) != 0))) && (decide (s2.2.1≥s1)))=true→(r17 v20.1).isSome=true then
         if (((v20.2 != 0) || (((r22 x0 x1 x2 x3 v20.1).getD default) != 0)) || ((decide (s2.2.1≥s1)) && (decide (((r17 v20.1).getD default)>s2.1))))=true then
          .out (some (.out (some false)))
          else bindC (r16 v20.1) fun v21=>
           bindC (r17 v20.1) fun v22=>
            .next ((if s2.1<v22 then v22 else s2.1),IntKind.i64.wrap (s2.2.1+1),v21)
         else .out none
        else .out none))
def b3_4 (x0 x1:Int) (x2:L_II) (x3:L_LIIE) (a2 s1:Int) (s2:Int×Int×(List (Int))):Bd Int (Ctl (Int) (Bool)):=fun s4=>
 if (decide (s4<(s2.2.2.length:Int)))=true then
  if 0≤s4∧s4<(s2.2.2.length:Int) then
   bindC (r23 x0 x1 x2 x3 (s2.2.2.getD s4.toNat default) a2) fun v29=>
    if v29=true then
     .out (some (.out (some false)))
     else .next (IntKind.i64.wrap (s4+1))
   else .out none
  else .out (some (.next (IntKind.i64.wrap (s1+1))))
def b3_2 (x0 x1:Int) (x2:L_II) (x3:L_LIIE) (x4 a1:L_II) (a2 s1:Int) (v8:L_II×Bool×Int):Bd (Int×Int×(List (Int))) (Ctl (Int) (Bool)):=fun s2=>
 if (decide (s2.2.1<(v8.1.length:Int)))=true then
  if (decide (s2.2.1≥s1))=true→0≤s2.2.1∧s2.2.1<(v8.1.length:Int) then
   if ((!((decide (s2.2.1≥s1)) && (((v8.1.getD s2.2.1.toNat default).1) != 0))) && (decide (s2.2.1<s1)))=true→0≤s2.2.1∧s2.2.1<(v8.1.length:Int) then
    if ((!((decide (s2.2.1≥s1)) && (((v8.1.getD s2.2.1.toNat default).1) != 0))) && (decide (s2.2.1<s1)))=true→0≤s2.2.1∧s2.2.1<(a1.length:Int) then
     if (((decide (s2.2.1≥s1)) && (((v8.1.getD s2.2.1.toNat default).1) != 0)) || ((decide (s2.2.1<s1)) && (!(((v8.1.getD s2.2.1.toNat default).1 == (a1.getD s2.2.1.toNat default).1) && ((v8.1.getD s2.2.1.toNat default).2 == (a1.getD s2.2.1.toNat default).2)))))=true then
      .out (some (.out (some false)))
      else if 0≤s2.2.1∧s2.2.1<(v8.1.length:Int) then
       (iterC (b3_3 x0 x1 x2 x3 x4 s1 v8 s2) 1000000000 (0,[])).getD (.out none)
       else .out none
     else .out none
    else .out none
   else .out none
  else .out (some ((iterC (b3_4 x0 x1 x2 x3 a2 s1 s2) 1000000000 0).getD (.out none)))
def b3_1 (x0 x1:Int) (x2:L_II) (x3:L_LIIE) (x5 x6:L_I) (x4:L_II) (x7 x8:Int) (a1:L_II) (a2:Int):Bd Int Bool:=fun s1=>
 if (decide (s1≤(a1.length:Int)))=true then
  bindC (r14 x0 x1 x2 x3 x5 x6 x4 x7 x8) fun v6=>
   bindC (r11 a1) fun v7=>
    bindC (r13 v6.1 v6.2.1 v6.2.2.1 v6.2.2.2.1 v6.2.2.2.2.1 v6.2.2.2.2.2.1 v6.2.2.2.2.2.2.1 v6.2.2.2.2.2.2.2.1 v6.2.2.2.2.2.2.2.2 v7 s1 a2 40) fun v8=>
     if (v8.2.2 != 0)=true then
      if ((v8.2.2 != 24) && (v8.2.2 != 22))=true then
       .out (some false)
       else .next (IntKind.i64.wrap (s1+1))
      else if (!(!(v8.2.1 == (decide (s1<(a1.length:Int))))))=true→(r15 (v8.1.length:Int) s1 (IntKind.i64.wrap (s1+40))).isSome=true then
       if ((!(v8.2.1 == (decide (s1<(a1.length:Int))))) || (!((r15 (v8.1.length:Int) s1 (IntKind.i64.wrap (s1+40))).getD default)))=true then
        .out (some false)
        else bindC (r16 x5) fun v9=>
         bindC (r17 v9) fun v10=>
          (iterC (b3_2 x0 x1 x2 x3 x4 a1 a2 s1 v8) 1000000000 (v10,0,v9)).getD (.out none)
       else .out none
  else .out (some true)
def r3 (x0 x1:Int) (x2:L_II) (x3:L_LIIE) (x5 x6:L_I) (x4:L_II) (x7 x8:Int) (a1:L_II) (a2:Int):Option (Bool):=
 (r4).bind fun v1=>
  if (!v1)=true then
   some false
   else (r5 x0 x1 x2 x3 x5 x6 x4 x7 x8).bind fun v2=>
    if (!(!v2))=true→(r6 x0 x1 x2 x3 x5 x6 x4 x7 x8).isSome=true then
     if (!((((!v2) || (((r6 x0 x1 x2 x3 x5 x6 x4 x7 x8).getD default) != 0)) || (decide (x0>8))) || (decide ((a1.length:Int)>20))))=true→(r7 x0 x1 x2 x3 x5 x6 x4 x7 x8 a1).isSome=true then
      if (!(((((!v2) || (((r6 x0 x1 x2 x3 x5 x6 x4 x7 x8).getD default) != 0)) || (decide (x0>8))) || (decide ((a1.length:Int)>20))) || (((r7 x0 x1 x2 x3 x5 x6 x4 x7 x8 a1).getD default) != 0)))=true→(r8 a2).isSome=true then
       if ((((((!v2) || (((r6 x0 x1 x2 x3 x5 x6 x4 x7 x8).getD default) != 0)) || (decide (x0>8))) || (decide ((a1.length:Int)>20))) || (((r7 x0 x1 x2 x3 x5 x6 x4 x7 x8 a1).getD default) != 0)) || (!((r8 a2).getD default)))=true then
        some true
        else (r11 a1).bind fun v3=>
         (r10 v3).bind fun v4=>
          (r9 v4).bind fun v5=>
           if (!(v5.2 != 0))=true→(r12 v5.1 a1).isSome=true then
            if ((v5.2 != 0) || (!((r12 v5.1 a1).getD default)))=true then
             some false
             else iterC (b3_1 x0 x1 x2 x3 x5 x6 x4 x7 x8 a1 a2) 1000000000 0
            else none
       else none
      else none
     else none
def T3:=qT52 qu2 false r3
attribute [go_sem] T3
def tb3:Fns:=lk [(4,T4.sp),(5,T5.sp),(6,T6.sp),(7,T7.sp),(8,T8.sp),(9,T9.sp),(10,T10.sp),(11,T11.sp),(12,T12.sp),(13,T13.sp),(14,T14.sp),(15,T15.sp),(16,T16.sp),(17,T17.sp),(18,T18.sp),(19,T19.sp),(20,T20.sp),(21,T21.sp),(22,T22.sp),(23,T23.sp)]
theorem tb3_ok:FnsOk Tryz.prog tb3:= .cons f4 (.cons f5 (.cons f6 (.cons f7 (.cons f8 (.cons f9 (.cons f10 (.cons f11 (.cons f12 (.cons f13 (.cons f14 (.cons f15 (.cons f16 (.cons f17 (.cons f18 (.cons f19 (.cons f20 (.cons f21 (.cons f22 (.cons f23 .nil)))))))))))))))))))
theorem tk3:tb3 4=some T4.sp∧tb3 5=some T5.sp∧tb3 6=some T6.sp∧tb3 7=some T7.sp∧tb3 8=some T8.sp∧tb3 9=some T9.sp∧tb3 10=some T10.sp∧tb3 11=some T11.sp∧tb3 12=some T12.sp∧tb3 13=some T13.sp∧tb3 14=some T14.sp∧tb3 15=some T15.sp∧tb3 16=some T16.sp∧tb3 17=some T17.sp∧tb3 18=some T18.sp∧tb3 19=some T19.sp∧tb3 20=some T20.sp∧tb3 21=some T21.sp∧tb3 22=some T22.sp∧tb3 23=some T23.sp:=⟨rfl,rfl,rfl,rfl,rfl,rfl,rfl,rfl,rfl,rfl,rfl,rfl,rfl,rfl,rfl,rfl,rfl,rfl,rfl,rfl⟩
section
attribute [local go_sem] tk3 Tryz.results3
theorem f3:FnFact Tryz.prog 3 T3.sp:=by
 refine valid_m ty_ok tb3_ok Tryz.func3 rfl Tryz.ntmps3 fun ⟨x0,x1,x2,x3,x5,x6,x4,x7,x8,a1,a2⟩ r hr=>⟨nL rfl,fun stop S=> ?_⟩
 replace hr:r3 x0 x1 x2 x3 x5 x6 x4 x7 x8 a1 a2=some r:=hr
 unfold r3 at hr
 refine S.gx [4,5,14,16,17,23,24,27,34,35] ?_
 obtain ⟨v1,hv1,hr⟩:=of_bind0 hr
 refine gb hv1 ?_
 refine iW hr (fun hc hr=>D0 hr) fun hc hr=> ?_
 obtain ⟨v2,hv2,hr⟩:=of_bind0 hr
 obtain ⟨hg33,hr⟩:=of_guard0 hr
 obtain ⟨hg34,hr⟩:=of_guard0 hr
 obtain ⟨hg35,hr⟩:=of_guard0 hr
 try simp only [hv2,oG,oI,true_and,and_assoc]
 repeat (first | refine gG hg33 ?_ | refine gG hg34 ?_ | refine gG hg35 ?_ | refine gA ?_ | refine gB ?_)
 refine iW hr (fun hc hr=> ?_) fun hc hr=> ?_
 ·refine gr ?_
  refine S.prune [] ?_
  refine S.gx [5,14,16,17,23,24,27,34,35] ?_
  exact D0 hr
 ·refine gr ?_
  refine S.prune [1,2,3] ?_
  refine S.gx [4,14,16,17,23,24,27,34,35] ?_
  obtain ⟨v3,hv3,hr⟩:=of_bind0 hr
  obtain ⟨v4,hv4,hr⟩:=of_bind0 hr
  obtain ⟨v5,hv5,hr⟩:=of_bind0 hr
  refine gb hv3 ?_
  refine gb hv4 ?_
  refine gb hv5 ?_
  obtain ⟨hg32,hr⟩:=of_guard0 hr
  repeat (first | refine gG hg32 ?_ | refine gA ?_ | refine gB ?_)
  refine iW hr (fun hc hr=>D0 hr) fun hc hr=> ?_
  refine gr ?_
  refine S.sees [1,2,3,9] [(3,3)] [] ?_ (Stop.iter S (fun s1=>⟨[(1,.c (.d (encF 2 d_II a1))),(2,.c (.d (.int .i64 a2))),(3,.c (.ref 3 0)),(9,.c (.d (.int .i64 s1)))],[(3,[.d (.int .i64 x0),.d (.int .i64 x1),.d (encF 2 d_II x2),.d (encF 1 d_LIIE x3),.d (encF 1 d_I x5),.d (encF 1 d_I x6),.d (encF 2 d_II x4),.d (.int .i64 x7),.d (.int .i64 x8)])],[]⟩) (b3_1 x0 x1 x2 x3 x5 x6 x4 x7 x8 a1 a2) (fun q=>q=r) hr rfl ?_)
  ·exact lf
  ·intro s1 hr
   unfold b3_1 at hr
   refine S.gx [4,5,14,16,17,23,24,27,34,35] ?_
   refine gr ?_
   refine iW1 hr (fun hc hr=> ?_) fun hc hr=>D0 hr
   obtain ⟨v6,hv6,hr⟩:=of_bind1 hr
   obtain ⟨v7,hv7,hr⟩:=of_bind1 hr
   obtain ⟨v8,hv8,hr⟩:=of_bind1 hr
   refine gb hv6 ?_
   refine gb hv7 ?_
   refine gb hv8 ?_
   refine iW1 hr (fun hc hr=> ?_) fun hc hr=> ?_
   ·repeat (first | refine gA ?_ | refine gB ?_)
    refine iW1 hr (fun hc hr=> ?_) fun hc hr=>D1 (S.ss [1,2,3,9] [(3,3)] []) hr
    refine gr ?_
    refine S.prune [] ?_
    refine S.gx [4,5,16,17,23,24,27,34,35] ?_
    exact D0 hr
   ·obtain ⟨hg31,hr⟩:=of_guard1 hr
    repeat (first | refine gG hg31 ?_ | refine gA ?_ | refine gB ?_)
    refine iW1 hr (fun hc hr=> ?_) fun hc hr=> ?_
    ·refine gr ?_
     refine S.prune [] ?_
     refine S.gx [4,5,14,17,23,24,27,34,35] ?_
     exact D0 hr
    ·refine gr ?_
     refine S.prune [1,2,3,9,10] ?_
     refine S.gx [4,5,14,16,23,24,27,34,35] ?_
     obtain ⟨v9,hv9,hr⟩:=of_bind1 hr
     refine gb hv9 ?_
     obtain ⟨v10,hv10,hr⟩:=of_bind1 hr
     refine gb hv10 ?_
     obtain ⟨q2,hq,hr⟩:=of_iter1 hr
     refine S.sees [1,2,3,9,10,13,14,15] [(3,3)] [(83,83),(113,113)] ?_ (Stop.iter S (fun s2=>⟨[(1,.c (.d (encF 2 d_II a1))),(2,.c (.d (.int .i64 a2))),(3,.c (.ref 3 0)),(9,.c (.d (.int .i64 s1))),(10,.c (.own 83)),(13,.c (.own 113)),(14,.c (.d (.int .i64 s2.1))),(15,.c (.d (.int .i64 s2.2.1)))],[(3,[.d (.int .i64 x0),.d (.int .i64 x1),.d (encF 2 d_II x2),.d (encF 1 d_LIIE x3),.d (encF 1 d_I x5),.d (encF 1 d_I x6),.d (encF 2 d_II x4),.d (.int .i64 x7),.d (.int .i64 x8)])],[(83,.owned (encF 2 d_II v8.1)),(113,.owned (encF 1 d_I s2.2.2))]⟩) (b3_2 x0 x1 x2 x3 x4 a1 a2 s1 v8) _ hq hr ?_)
     ·exact lf
     ·intro s2 hr
      unfold b3_2 at hr
      refine S.gx [4,5,14,16,17,23,24,27,34,35] ?_
      refine gr ?_
      refine iW1 hr (fun hc hr=> ?_) fun hc hr=> ?_
      ·obtain ⟨hg26,hr⟩:=of_guard1 hr
       obtain ⟨hg27,hr⟩:=of_guard1 hr
       obtain ⟨hg28,hr⟩:=of_guard1 hr
       repeat (first | refine gG hg26 ?_ | refine gG hg27 ?_ | refine gG hg28 ?_ | refine gA ?_ | refine gB ?_)
       refine iW1 hr (fun hc hr=> ?_) fun hc hr=> ?_
       ·refine gr ?_
        refine S.prune [] ?_
        refine S.gx [4,5,14,16,17,24,27,34,35] ?_
        refine gr ?_
        refine gr ?_
        replace hr:=goodC_out hr
        exact D0 hr
       ·refine gr ?_
        refine S.prune [1,2,3,9,10,13,14,15] ?_
        refine S.gx [4,5,14,16,17,23,27,34,35] ?_
        obtain ⟨hg25,hr⟩:=of_guard1 hr
        refine gr ?_
        refine gr ?_
        refine S.own0b 16 0 2001600 1 rfl rfl (nL rfl) rfl ?_
        obtain ⟨q3,hq,hr⟩:=of_iter1 hr
        refine S.sees [1,2,3,9,10,13,14,15,16,17] [(3,3),(16,16)] [(2001600,2001600),(83,83),(113,113)] ?_ (Stop.iter S (fun s3=>⟨[(1,.c (.d (encF 2 d_II a1))),(2,.c (.d (.int .i64 a2))),(3,.c (.ref 3 0)),(9,.c (.d (.int .i64 s1))),(10,.c (.own 83)),(13,.c (.own 113)),(14,.c (.d (.int .i64 s2.1))),(15,.c (.d (.int .i64 s2.2.1))),(16,.c (.ref 16 0)),(17,.c (.d (.int .i64 s3.1)))],[(3,[.d (.int .i64 x0),.d (.int .i64 x1),.d (encF 2 d_II x2),.d (encF 1 d_LIIE x3),.d (encF 1 d_I x5),.d (encF 1 d_I x6),.d (encF 2 d_II x4),.d (.int .i64 x7),.d (.int .i64 x8)]),(16,[.own 2001600,.d (.int .i64 ((v8.1.getD s2.2.1.toNat default).2))])],[(2001600,.owned (encF 1 d_I s3.2)),(83,.owned (encF 2 d_II v8.1)),(113,.owned (encF 1 d_I s2.2.2))]⟩) (b3_3 x0 x1 x2 x3 x4 s1 v8 s2) _ hq hr ?_)
        ·exact lf
        ·intro s3 hr
         unfold b3_3 at hr
         refine S.gx [4,5,14,16,17,23,24,27,34,35] ?_
         refine gr ?_
         refine iW1 hr (fun hc hr=> ?_) fun hc hr=> ?_
         ·obtain ⟨hg13,hr⟩:=of_guard1 hr
          obtain ⟨hg14,hr⟩:=of_guard1 hr
          obtain ⟨v11,hv11,hr⟩:=of_bind1 hr
          obtain ⟨hg15,hr⟩:=of_guard1 hr
          obtain ⟨v12,hv12,hr⟩:=of_bind1 hr
          obtain ⟨hg16,hr⟩:=of_guard1 hr
          refine gb hv11 ?_
          refine gb hv12 ?_
          refine S.prune [1,2,3,9,10,13,14,15,16,17] ?_
          refine S.gx [4,5,14,16,17,23,24,34,35] ?_
          exact D1 (S.ss [1,2,3,9,10,13,14,15,16,17] [(3,3),(16,16)] [(187,2001600),(83,83),(113,113)]) hr
         ·refine gr ?_
          replace hr:=goodC_out hr
          obtain ⟨v17,hv17,hr⟩:=of_bind1 hr
          refine gb hv17 ?_
          refine iW1 hr (fun hc hr=> ?_) fun hc hr=> ?_
          ·refine gr ?_
           replace hr:=goodC_out hr
           exact D0 hr
          ·obtain ⟨v18,hv18,hr⟩:=of_bind1 hr
           obtain ⟨v19,hv19,hr⟩:=of_bind1 hr
           obtain ⟨v20,hv20,hr⟩:=of_bind1 hr
           obtain ⟨hg23,hr⟩:=of_guard1 hr
           obtain ⟨hg24,hr⟩:=of_guard1 hr
           try simp only [hv18,hv19,hv20,Option.getD_some,Option.isSome_some,true_and,and_assoc]
           repeat (first | refine gG hg23 ?_ | refine gG hg24 ?_ | refine gA ?_ | refine gB ?_)
           refine iW1 hr (fun hc hr=> ?_) fun hc hr=> ?_
           ·refine gr ?_
            refine S.prune [] ?_
            refine S.gx [4,5,14,16,17,23,24,27,35] ?_
            refine gr ?_
            refine gr ?_
            replace hr:=goodC_out hr
            exact D0 hr
           ·refine gr ?_
            refine S.prune [1,2,3,9,10,14,15,19] ?_
            refine S.gx [4,5,14,16,17,23,24,27,34] ?_
            exact D1 (S.ss [1,2,3,9,10,13,14,15] [(3,3)] [(83,83),(225,113)]) hr
      ·refine gr ?_
       replace hr:=goodC_out hr
       refine gr ?_
       obtain ⟨q4,hq,hr⟩:=of_iter1 hr
       refine S.sees [1,2,3,9,13,21] [(3,3)] [(113,113)] ?_ (Stop.iter S (fun s4=>⟨[(1,.c (.d (encF 2 d_II a1))),(2,.c (.d (.int .i64 a2))),(3,.c (.ref 3 0)),(9,.c (.d (.int .i64 s1))),(13,.c (.own 113)),(21,.c (.d (.int .i64 s4)))],[(3,[.d (.int .i64 x0),.d (.int .i64 x1),.d (encF 2 d_II x2),.d (encF 1 d_LIIE x3),.d (encF 1 d_I x5),.d (encF 1 d_I x6),.d (encF 2 d_II x4),.d (.int .i64 x7),.d (.int .i64 x8)])],[(113,.owned (encF 1 d_I s2.2.2))]⟩) (b3_4 x0 x1 x2 x3 a2 s1 s2) _ hq hr ?_)
       ·exact lf
       ·intro s4 hr
        unfold b3_4 at hr
        refine S.gx [4,5,14,16,17,23,24,27,34,35] ?_
        refine gr ?_
        refine iW1 hr (fun hc hr=> ?_) fun hc hr=> ?_
        ·obtain ⟨hg30,hr⟩:=of_guard1 hr
         obtain ⟨v29,hv29,hr⟩:=of_bind1 hr
         refine gb hv29 ?_
         refine iW1 hr (fun hc hr=> ?_) fun hc hr=>D1 (S.ss [1,2,3,9,13,21] [(3,3)] [(113,113)]) hr
         refine gr ?_
         replace hr:=goodC_out hr
         exact D0 hr
        ·refine gr ?_
         replace hr:=goodC_out hr
         exact D1 (S.ss [1,2,3,9] [(3,3)] []) hr
end
end Go.Proofs.YtlnlpncchgimgaaGreatDoor

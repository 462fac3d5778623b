/- Contracts of functions, written by wip/dec. -/
import Derived.Test.YtlnlpncchgimgaaGreatDoorF00
import Derived.Test.YtlnlpncchgimgaaGreatDoorF01
import Derived.Test.YtlnlpncchgimgaaGreatDoorF04
set_option linter.unusedVariables false
set_option linter.unusedSimpArgs false
set_option linter.constructorNameAsVariable false
set_option maxHeartbeats 4000000
set_option maxRecDepth 20000
namespace Go.Proofs.YtlnlpncchgimgaaGreatDoor
open Go.Abs
section
variable {β:Type} [Inhabited β] (u:β→List RV) (al:Bool)
def qw35 (a0:L_IIII) (a1:L_IIIII) (a2:L_III) (a3:L_II) (a4 a5 a6 a7:Int):List Arg:=[.agg [encF 4 d_IIII a0,encF 5 d_IIIII a1,encF 3 d_III a2,encF 2 d_II a3,.int .i64 a4,.int .i64 a5,.int .i64 a6,.int .i64 a7]]
def qd35:List Arg→L_IIII×L_IIIII×L_III×L_II×Int×Int×Int×Int
 | [.agg [c0,c1,c2,c3,c4,c5,c6,c7]]=>(decF g_IIII c0,decF g_IIIII c1,decF g_III c2,decF g_II c3,dInt c4,dInt c5,dInt c6,dInt c7)
 | _=>default
def qT35 (r:L_IIII→L_IIIII→L_III→L_II→Int→Int→Int→Int→Option β):=mkT (u8 qw35) qd35 (u8 r) u al
attribute [go_sem] qw35 qd35 qT35
def qw36 (a0:Int) (a1:L_II) (a2:Int) (a3:Option (Int×L_II×Int)) (a4:Int):List Arg:=[.agg [.int .i64 a0,encF 2 d_II a1,.int .i64 a2],.c (encP d_ILIIEI a3),.c (.int .i64 a4)]
def qd36:List Arg→Int×L_II×Int×(Option (Int×L_II×Int))×Int
 | [.agg [c0,c1,c2],.c c3,.c c4]=>(dInt c0,decF g_II c1,dInt c2,decP g_ILIIEI c3,dInt c4)
 | _=>default
def qT36 (r:Int→L_II→Int→(Option (Int×L_II×Int))→Int→Option β):=mkT (u5 qw36) qd36 (u5 r) u al
attribute [go_sem] qw36 qd36 qT36
def qw37 (a0:L_I):List Arg:=[.c (encF 1 d_I a0),.clo 150 []]
def qd37:List Arg→L_I
 | [.c c0,.clo _ []]=>decF g_I c0
 | _=>default
def qT37 (r:L_I→Option β):=mkT (u1 qw37) qd37 (u1 r) u al
attribute [go_sem] qw37 qd37 qT37
def qu18 (v:Int×Int×L_II×L_LIIE×L_I×L_I×L_II×Int×Int×L_IIII×L_IIIII×L_III×L_II×Int×Int×Int×Int×L_III×Int):List RV:=[.agg [.d (.int .i64 v.1),.d (.int .i64 v.2.1),.own (encF 2 d_II v.2.2.1),.own (encF 1 d_LIIE v.2.2.2.1),.own (encF 1 d_I v.2.2.2.2.1),.own (encF 1 d_I v.2.2.2.2.2.1),.own (encF 2 d_II v.2.2.2.2.2.2.1),.d (.int .i64 v.2.2.2.2.2.2.2.1),.d (.int .i64 v.2.2.2.2.2.2.2.2.1),.own (encF 4 d_IIII v.2.2.2.2.2.2.2.2.2.1),.own (encF 5 d_IIIII v.2.2.2.2.2.2.2.2.2.2.1),.own (encF 3 d_III v.2.2.2.2.2.2.2.2.2.2.2.1),.own (encF 2 d_II v.2.2.2.2.2.2.2.2.2.2.2.2.1),.d (.int .i64 v.2.2.2.2.2.2.2.2.2.2.2.2.2.1),.d (.int .i64 v.2.2.2.2.2.2.2.2.2.2.2.2.2.2.1),.d (.int .i64 v.2.2.2.2.2.2.2.2.2.2.2.2.2.2.2.1),.d (.int .i64 v.2.2.2.2.2.2.2.2.2.2.2.2.2.2.2.2.1),.own (encF 3 d_III v.2.2.2.2.2.2.2.2.2.2.2.2.2.2.2.2.2.1),.d (.int .i64 v.2.2.2.2.2.2.2.2.2.2.2.2.2.2.2.2.2.2)]]
attribute [go_sem] qu18
def qu19 (v:L_ILIIEI×L_ILIIEI×L_ILIIEI×L_ILIIEI):List RV:=[.agg [.own (encF 3 d_ILIIEI v.1),.own (encF 3 d_ILIIEI v.2.1),.own (encF 3 d_ILIIEI v.2.2.1),.own (encF 3 d_ILIIEI v.2.2.2)]]
attribute [go_sem] qu19
end
def r28:Option (Int×Int×L_II×L_LIIE×L_I×L_I×L_II×Int×Int×L_IIII×L_IIIII×L_III×L_II×Int×Int×Int×Int×L_III×Int):=
 (r25).bind fun v1=>
  (r58).bind fun v2=>
   some (v1.1,v1.2.1,v1.2.2.1,v1.2.2.2.1,v1.2.2.2.2.1,v1.2.2.2.2.2.1,v1.2.2.2.2.2.2.1,v1.2.2.2.2.2.2.2.1,v1.2.2.2.2.2.2.2.2,v2.1,v2.2.1,v2.2.2.1,v2.2.2.2.1,v2.2.2.2.2.1,v2.2.2.2.2.2.1,v2.2.2.2.2.2.2.1,v2.2.2.2.2.2.2.2,[(0,700,850),(2,150,250)],700)
def T28:=qT0 qu18 true r28
attribute [go_sem] T28
def tb28:Fns:=lk [(25,T25.sp),(58,T58.sp)]
theorem tb28_ok:FnsOk Tryz.prog tb28:= .cons f25 (.cons f58 .nil)
theorem tk28:tb28 25=some T25.sp∧tb28 58=some T58.sp:=⟨rfl,rfl⟩
section
attribute [local go_sem] tk28 Tryz.results28
theorem f28:FnFact Tryz.prog 28 T28.sp:=by
 refine valid_m ty_ok tb28_ok Tryz.func28 rfl Tryz.ntmps28 fun _ r hr=>⟨nL rfl,fun stop S=> ?_⟩
 replace hr:r28=some r:=hr
 unfold r28 at hr
 refine S.gx [] ?_
 exact D0 hr
end
def b148_4 (x0:L_II) (s1 s2 s3:Int×(List (Int×L_II×Int))):Bd (Int×(List (Int×L_II×Int))) (L_ILIIEI×L_ILIIEI×L_ILIIEI×L_ILIIEI):=fun s4=>
 if (decide (s4.1<(x0.length:Int)))=true then
  if 0≤s4.1∧s4.1<(x0.length:Int) then
   if (s4.2.length+1)*40≤140737488355328∧s4.2.length+1≤9223372036854775807 then
    .next (IntKind.i64.wrap (s4.1+1),s4.2++[((x0.getD s4.1.toNat default).1,[],(x0.getD s4.1.toNat default).2)])
    else .out none
   else .out none
  else .out (some (s1.2,s2.2,s3.2,s4.2))
def b148_3 (x1:L_III) (x0:L_II) (s1 s2:Int×(List (Int×L_II×Int))):Bd (Int×(List (Int×L_II×Int))) (L_ILIIEI×L_ILIIEI×L_ILIIEI×L_ILIIEI):=fun s3=>
 if (decide (s3.1<(x1.length:Int)))=true then
  if 0≤s3.1∧s3.1<(x1.length:Int) then
   if (s3.2.length+1)*40≤140737488355328∧s3.2.length+1≤9223372036854775807 then
    .next (IntKind.i64.wrap (s3.1+1),s3.2++[((x1.getD s3.1.toNat default).1,[((x1.getD s3.1.toNat default).2.1,(x1.getD s3.1.toNat default).2.2)],0)])
    else .out none
   else .out none
  else .out (iterC (b148_4 x0 s1 s2 s3) 1000000000 (0,[]))
def b148_2 (x2:L_IIIII) (x1:L_III) (x0:L_II) (s1:Int×(List (Int×L_II×Int))):Bd (Int×(List (Int×L_II×Int))) (L_ILIIEI×L_ILIIEI×L_ILIIEI×L_ILIIEI):=fun s2=>
 if (decide (s2.1<(x2.length:Int)))=true then
  if 0≤s2.1∧s2.1<(x2.length:Int) then
   if (s2.2.length+1)*40≤140737488355328∧s2.2.length+1≤9223372036854775807 then
    .next (IntKind.i64.wrap (s2.1+1),s2.2++[((x2.getD s2.1.toNat default).1,[((x2.getD s2.1.toNat default).2.1,(x2.getD s2.1.toNat default).2.2.1),((x2.getD s2.1.toNat default).2.2.2.1,(x2.getD s2.1.toNat default).2.2.2.2)],0)])
    else .out none
   else .out none
  else .out (iterC (b148_3 x1 x0 s1 s2) 1000000000 (0,[]))
def b148_1 (x3:L_IIII) (x2:L_IIIII) (x1:L_III) (x0:L_II):Bd (Int×(List (Int×L_II×Int))) (L_ILIIEI×L_ILIIEI×L_ILIIEI×L_ILIIEI):=fun s1=>
 if (decide (s1.1<(x3.length:Int)))=true then
  if 0≤s1.1∧s1.1<(x3.length:Int) then
   if (s1.2.length+1)*40≤140737488355328∧s1.2.length+1≤9223372036854775807 then
    .next (IntKind.i64.wrap (s1.1+1),s1.2++[((x3.getD s1.1.toNat default).1,[((x3.getD s1.1.toNat default).2.1,(x3.getD s1.1.toNat default).2.2.1)],(x3.getD s1.1.toNat default).2.2.2)])
    else .out none
   else .out none
  else .out (iterC (b148_2 x2 x1 x0 s1) 1000000000 (0,[]))
def r148 (x3:L_IIII) (x2:L_IIIII) (x1:L_III) (x0:L_II) (x4 x5 x6 x7:Int):Option (L_ILIIEI×L_ILIIEI×L_ILIIEI×L_ILIIEI):=
 iterC (b148_1 x3 x2 x1 x0) 1000000000 (0,[])
def T148:=qT35 qu19 true r148
attribute [go_sem] T148
def tb148:Fns:=lk []
theorem tb148_ok:FnsOk Tryz.prog tb148:=FnsOk.nil
section
attribute [local go_sem] Tryz.results148
theorem f148:FnFact Tryz.prog 148 T148.sp:=by
 refine valid_m ty_ok tb148_ok Tryz.func148 rfl Tryz.ntmps148 fun ⟨x3,x2,x1,x0,x4,x5,x6,x7⟩ r hr=>⟨nL rfl,fun stop S=> ?_⟩
 replace hr:r148 x3 x2 x1 x0 x4 x5 x6 x7=some r:=hr
 unfold r148 at hr
 refine S.gx [] ?_
 refine gr ?_
 refine S.own0b 3 0 2000300 3 rfl rfl (nL rfl) rfl ?_
 refine S.sees [1,2,3,13,14,15] [(1,1),(2,2),(3,3)] [(2000300,2000300)] ?_ (Stop.iter S (fun s1=>⟨[(1,.c (.ref 1 0)),(2,.c (.ref 2 0)),(3,.c (.ref 3 0)),(13,.c (.d (encF 4 d_IIII x3))),(14,.c (.d (.int .i64 (x3.length:Int)))),(15,.c (.d (.int .i64 s1.1)))],[(1,[.d (encF 4 d_IIII x3),.d (encF 5 d_IIIII x2),.d (encF 3 d_III x1),.d (encF 2 d_II x0),.d (.int .i64 x4),.d (.int .i64 x5),.d (.int .i64 x6),.d (.int .i64 x7)]),(2,[.nils,.nils,.nils,.nils]),(3,[.own 2000300,.nils,.nils,.nils])],[(2000300,.owned (encF 3 d_ILIIEI s1.2))]⟩) (b148_1 x3 x2 x1 x0) (fun q=>q=r) hr rfl ?_)
 ·exact lf
 ·intro s1 hr
  unfold b148_1 at hr
  refine S.gx [] ?_
  refine gr ?_
  refine iW1 hr (fun hc hr=>D1 (S.ss [1,2,3,13,14,15] [(1,1),(2,2),(3,3)] [(30,2000300)]) hr) fun hc hr=> ?_
  refine gr ?_
  have hr:=of_out0 hr
  refine gr ?_
  refine S.own0b 3 1 2000301 3 rfl rfl (nL rfl) rfl ?_
  refine S.sees [1,2,3,34,35,36] [(1,1),(2,2),(3,3)] [(2000301,2000301),(2000300,2000300)] ?_ (Stop.iter S (fun s2=>⟨[(1,.c (.ref 1 0)),(2,.c (.ref 2 0)),(3,.c (.ref 3 0)),(34,.c (.d (encF 5 d_IIIII x2))),(35,.c (.d (.int .i64 (x2.length:Int)))),(36,.c (.d (.int .i64 s2.1)))],[(1,[.d (encF 4 d_IIII x3),.d (encF 5 d_IIIII x2),.d (encF 3 d_III x1),.d (encF 2 d_II x0),.d (.int .i64 x4),.d (.int .i64 x5),.d (.int .i64 x6),.d (.int .i64 x7)]),(2,[.nils,.nils,.nils,.nils]),(3,[.own 2000300,.own 2000301,.nils,.nils])],[(2000301,.owned (encF 3 d_ILIIEI s2.2)),(2000300,.owned (encF 3 d_ILIIEI s1.2))]⟩) (b148_2 x2 x1 x0 s1) (fun q=>q=r) hr rfl ?_)
  ·exact lf
  ·intro s2 hr
   unfold b148_2 at hr
   refine S.gx [] ?_
   refine gr ?_
   refine iW1 hr (fun hc hr=>D1 (S.ss [1,2,3,34,35,36] [(1,1),(2,2),(3,3)] [(51,2000301),(2000300,2000300)]) hr) fun hc hr=> ?_
   refine gr ?_
   have hr:=of_out0 hr
   refine gr ?_
   refine S.own0b 3 2 2000302 3 rfl rfl (nL rfl) rfl ?_
   refine S.sees [1,2,3,55,56,57] [(1,1),(2,2),(3,3)] [(2000302,2000302),(2000300,2000300),(2000301,2000301)] ?_ (Stop.iter S (fun s3=>⟨[(1,.c (.ref 1 0)),(2,.c (.ref 2 0)),(3,.c (.ref 3 0)),(55,.c (.d (encF 3 d_III x1))),(56,.c (.d (.int .i64 (x1.length:Int)))),(57,.c (.d (.int .i64 s3.1)))],[(1,[.d (encF 4 d_IIII x3),.d (encF 5 d_IIIII x2),.d (encF 3 d_III x1),.d (encF 2 d_II x0),.d (.int .i64 x4),.d (.int .i64 x5),.d (.int .i64 x6),.d (.int .i64 x7)]),(2,[.nils,.nils,.nils,.nils]),(3,[.own 2000300,.own 2000301,.own 2000302,.nils])],[(2000302,.owned (encF 3 d_ILIIEI s3.2)),(2000300,.owned (encF 3 d_ILIIEI s1.2)),(2000301,.owned (encF 3 d_ILIIEI s2.2))]⟩) (b148_3 x1 x0 s1 s2) (fun q=>q=r) hr rfl ?_)
   ·exact lf
   ·intro s3 hr
    unfold b148_3 at hr
    refine S.gx [] ?_
    refine gr ?_
    refine iW1 hr (fun hc hr=>D1 (S.ss [1,2,3,55,56,57] [(1,1),(2,2),(3,3)] [(70,2000302),(2000300,2000300),(2000301,2000301)]) hr) fun hc hr=> ?_
    refine gr ?_
    have hr:=of_out0 hr
    refine gr ?_
    refine S.own0b 3 3 2000303 3 rfl rfl (nL rfl) rfl ?_
    refine S.sees [2,3,74,75,76] [(2,2),(3,3)] [(2000303,2000303),(2000300,2000300),(2000301,2000301),(2000302,2000302)] ?_ (Stop.iter S (fun s4=>⟨[(2,.c (.ref 2 0)),(3,.c (.ref 3 0)),(74,.c (.d (encF 2 d_II x0))),(75,.c (.d (.int .i64 (x0.length:Int)))),(76,.c (.d (.int .i64 s4.1)))],[(2,[.nils,.nils,.nils,.nils]),(3,[.own 2000300,.own 2000301,.own 2000302,.own 2000303])],[(2000303,.owned (encF 3 d_ILIIEI s4.2)),(2000300,.owned (encF 3 d_ILIIEI s1.2)),(2000301,.owned (encF 3 d_ILIIEI s2.2)),(2000302,.owned (encF 3 d_ILIIEI s3.2))]⟩) (b148_4 x0 s1 s2 s3) (fun q=>q=r) hr rfl ?_)
    ·exact lf
    ·intro s4 hr
     unfold b148_4 at hr
     refine S.gx [] ?_
     exact D1 (S.ss [2,3,74,75,76] [(2,2),(3,3)] [(88,2000303),(2000300,2000300),(2000301,2000301),(2000302,2000302)]) hr
end
def r151 (a0 a1 a2:Int):Option (Bool):=
 some ((decide (a1≤a0)) && (decide (a0≤a2)))
def T151:=qT1 qu2 false r151
attribute [go_sem] T151
def tb151:Fns:=lk []
theorem tb151_ok:FnsOk Tryz.prog tb151:=FnsOk.nil
section
attribute [local go_sem] Tryz.results151
theorem f151:FnFact Tryz.prog 151 T151.sp:=by
 refine valid_m ty_ok tb151_ok Tryz.func151 rfl Tryz.ntmps151 fun ⟨a0,a1,a2⟩ r hr=>⟨nL rfl,fun stop S=> ?_⟩
 replace hr:r151 a0 a1 a2=some r:=hr
 unfold r151 at hr
 refine S.gx [] ?_
 repeat (first | refine gA ?_ | refine gB ?_)
 exact D0 hr
end
def r171 (a0:Int):Option (Bool):=
 (r151 a0 0 1000000).bind fun v1=>
  some v1
def T171:=qT4 qu2 false r171
attribute [go_sem] T171
def tb171:Fns:=lk [(151,T151.sp)]
theorem tb171_ok:FnsOk Tryz.prog tb171:= .cons f151 .nil
theorem tk171:tb171 151=some T151.sp:=rfl
section
attribute [local go_sem] tk171 Tryz.results171
theorem f171:FnFact Tryz.prog 171 T171.sp:=by
 refine valid_m ty_ok tb171_ok Tryz.func171 rfl Tryz.ntmps171 fun a0 r hr=>⟨nL rfl,fun stop S=> ?_⟩
 replace hr:r171 a0=some r:=hr
 unfold r171 at hr
 refine S.gx [] ?_
 exact D0 hr
end
def r170 (x1 x0:Int):Option (Bool):=
 (r171 x1).bind fun v1=>
  if (!(!v1))=true→(r171 x0).isSome=true then
   some ((!v1) || (!((r171 x0).getD default)))
   else none
def T170:=qT25 qu2 false r170
attribute [go_sem] T170
def tb170:Fns:=lk [(171,T171.sp)]
theorem tb170_ok:FnsOk Tryz.prog tb170:= .cons f171 .nil
theorem tk170:tb170 171=some T171.sp:=rfl
section
attribute [local go_sem] tk170 Tryz.results170
theorem f170:FnFact Tryz.prog 170 T170.sp:=by
 refine valid_m ty_ok tb170_ok Tryz.func170 rfl Tryz.ntmps170 fun ⟨x1,x0⟩ r hr=>⟨nL rfl,fun stop S=> ?_⟩
 replace hr:r170 x1 x0=some r:=hr
 unfold r170 at hr
 refine S.gx [] ?_
 obtain ⟨v1,hv1,hr⟩:=of_bind0 hr
 obtain ⟨hg2,hr⟩:=of_guard0 hr
 try simp only [hv1,oG,oI,true_and,and_assoc]
 repeat (first | refine gG hg2 ?_ | refine gA ?_ | refine gB ?_)
 exact D0 hr
end
def r172 (x0 x1:Int):Option (Bool):=
 some (decide (x0>x1))
def T172:=qT25 qu2 false r172
attribute [go_sem] T172
def tb172:Fns:=lk []
theorem tb172_ok:FnsOk Tryz.prog tb172:=FnsOk.nil
section
attribute [local go_sem] Tryz.results172
theorem f172:FnFact Tryz.prog 172 T172.sp:=by
 refine valid_m ty_ok tb172_ok Tryz.func172 rfl Tryz.ntmps172 fun ⟨x0,x1⟩ r hr=>⟨nL rfl,fun stop S=> ?_⟩
 replace hr:r172 x0 x1=some r:=hr
 unfold r172 at hr
 refine S.gx [] ?_
 exact D0 hr
end
def r173 (a0:Int):Option (Bool):=
 (r151 a0 1 3000).bind fun v1=>
  some v1
def T173:=qT4 qu2 false r173
attribute [go_sem] T173
def tb173:Fns:=lk [(151,T151.sp)]
theorem tb173_ok:FnsOk Tryz.prog tb173:= .cons f151 .nil
theorem tk173:tb173 151=some T151.sp:=rfl
section
attribute [local go_sem] tk173 Tryz.results173
theorem f173:FnFact Tryz.prog 173 T173.sp:=by
 refine valid_m ty_ok tb173_ok Tryz.func173 rfl Tryz.ntmps173 fun a0 r hr=>⟨nL rfl,fun stop S=> ?_⟩
 replace hr:r173 a0=some r:=hr
 unfold r173 at hr
 refine S.gx [] ?_
 exact D0 hr
end
def r153 (a0:Bool) (a1:Int):Option (Int):=
 if a0=true then
  some 0
  else some a1
def T153:=qT2 qu3 false r153
attribute [go_sem] T153
def tb153:Fns:=lk []
theorem tb153_ok:FnsOk Tryz.prog tb153:=FnsOk.nil
section
attribute [local go_sem] Tryz.results153
theorem f153:FnFact Tryz.prog 153 T153.sp:=by
 refine valid_m ty_ok tb153_ok Tryz.func153 rfl Tryz.ntmps153 fun ⟨a0,a1⟩ r hr=>⟨nL rfl,fun stop S=> ?_⟩
 replace hr:r153 a0 a1=some r:=hr
 unfold r153 at hr
 refine S.gx [] ?_
 exact D0 hr
end
def b152_1 (a0:L_I):Bd Int Int:=fun s1=>
 if (decide (s1<(a0.length:Int)))=true then
  if 0≤s1∧s1<(a0.length:Int) then
   if ((a0.getD s1.toNat default) != 0)=true then
    .out (some (a0.getD s1.toNat default))
    else .next (IntKind.i64.wrap (s1+1))
   else .out none
  else .out (some 0)
def r152 (a0:L_I):Option (Int):=
 iterC (b152_1 a0) 1000000000 0
def T152:=qT3 qu3 false r152
attribute [go_sem] T152
def tb152:Fns:=lk []
theorem tb152_ok:FnsOk Tryz.prog tb152:=FnsOk.nil
section
attribute [local go_sem] Tryz.results152
theorem f152:FnFact Tryz.prog 152 T152.sp:=by
 refine valid_m ty_ok tb152_ok Tryz.func152 rfl Tryz.ntmps152 fun a0 r hr=>⟨nL rfl,fun stop S=> ?_⟩
 replace hr:r152 a0=some r:=hr
 unfold r152 at hr
 refine S.gx [] ?_
 refine gr ?_
 refine S.sees [5,6,7] [] [] ?_ (Stop.iter S (fun s1=>⟨[(5,.c (.d (encF 1 d_I a0))),(6,.c (.d (.int .i64 (a0.length:Int)))),(7,.c (.d (.int .i64 s1)))],[],[]⟩) (b152_1 a0) (fun q=>q=r) hr rfl ?_)
 ·exact lf
 ·intro s1 hr
  unfold b152_1 at hr
  refine S.gx [] ?_
  exact D1 (S.ss [5,6,7] [] []) hr
end
def b149_2 (x1:Int) (x0:L_II) (x2:Int) (a1:Option (Int×L_II×Int)) (a2 s1:Int):Bd Int Int:=fun s2=>
 if (decide (s2<(x0.length:Int)))=true then
  if 0≤s2∧s2<(x0.length:Int) then
   bindC (r172 ((x0.getD s2.toNat default).1) ((x0.getD s2.toNat default).2)) fun v2=>
    if v2=true then
     .out ((r173 x1).bind fun v3=>
      if (v3 && (!(decide (s1≥0))))=true→(r171 x2).isSome=true then
       (r153 ((v3 && (!(decide (s1≥0)))) && ((r171 x2).getD default)) 2).bind fun v4=>
        (r153 (!(decide (s2≥0))) 3).bind fun v5=>
         (r152 [v4,v5]).bind fun v6=>
          if ((v6 != 0) || (!a1.isSome))=true then
           some v6
           else if a1.isSome=true then
            if a1.isSome=true then
             if (a2 != 0)=true then
              if 0≤0∧0<(x0.length:Int) then
               if a1.isSome=true then
                if a1.isSome=true then
                 if 0≤0∧0<(((a1.getD default).2.1).length:Int) then
                  (r153 (((decide (x1>((a1.getD default).1))) && (decide ((IntKind.i64.wrap (a2*((x0.getD 0 default).1)))≥(IntKind.i64.wrap (a2*((((a1.getD default).2.1).getD 0 default).1)))))) && (decide ((IntKind.i64.wrap (a2*((x0.getD 0 default).2)))≥(IntKind.i64.wrap (a2*((((a1.getD default).2.1).getD 0 default).2)))))) 9).bind fun v7=>
                   some v7
                  else none
                 else none
                else none
               else none
              else (r153 (decide (x1>((a1.getD default).1))) 9).bind fun v12=>
               some v12
             else none
            else none
       else none)
     else .next (IntKind.i64.wrap (s2+1))
   else .out none
  else .out ((r173 x1).bind fun v17=>
   if (v17 && (!(decide (s1≥0))))=true→(r171 x2).isSome=true then
    (r153 ((v17 && (!(decide (s1≥0)))) && ((r171 x2).getD default)) 2).bind fun v18=>
     (r153 (!(decide ((-1)≥0))) 3).bind fun v19=>
      (r152 [v18,v19]).bind fun v20=>
       if ((v20 != 0) || (!a1.isSome))=true then
        some v20
        else if a1.isSome=true then
         if a1.isSome=true then
          if (a2 != 0)=true then
           if 0≤0∧0<(x0.length:Int) then
            if a1.isSome=true then
             if a1.isSome=true then
              if 0≤0∧0<(((a1.getD default).2.1).length:Int) then
               (r153 (((decide (x1>((a1.getD default).1))) && (decide ((IntKind.i64.wrap (a2*((x0.getD 0 default).1)))≥(IntKind.i64.wrap (a2*((((a1.getD default).2.1).getD 0 default).1)))))) && (decide ((IntKind.i64.wrap (a2*((x0.getD 0 default).2)))≥(IntKind.i64.wrap (a2*((((a1.getD default).2.1).getD 0 default).2)))))) 9).bind fun v21=>
                some v21
               else none
              else none
             else none
            else none
           else (r153 (decide (x1>((a1.getD default).1))) 9).bind fun v26=>
            some v26
          else none
         else none
    else none)
def b149_3 (x1:Int) (x0:L_II) (x2:Int) (a1:Option (Int×L_II×Int)) (a2:Int):Bd Int Int:=fun s3=>
 if (decide (s3<(x0.length:Int)))=true then
  if 0≤s3∧s3<(x0.length:Int) then
   bindC (r172 ((x0.getD s3.toNat default).1) ((x0.getD s3.toNat default).2)) fun v31=>
    if v31=true then
     .out ((r173 x1).bind fun v32=>
      if (v32 && (!(decide ((-1)≥0))))=true→(r171 x2).isSome=true then
       (r153 ((v32 && (!(decide ((-1)≥0)))) && ((r171 x2).getD default)) 2).bind fun v33=>
        (r153 (!(decide (s3≥0))) 3).bind fun v34=>
         (r152 [v33,v34]).bind fun v35=>
          if ((v35 != 0) || (!a1.isSome))=true then
           some v35
           else if a1.isSome=true then
            if a1.isSome=true then
             if (a2 != 0)=true then
              if 0≤0∧0<(x0.length:Int) then
               if a1.isSome=true then
                if a1.isSome=true then
                 if 0≤0∧0<(((a1.getD default).2.1).length:Int) then
                  (r153 (((decide (x1>((a1.getD default).1))) && (decide ((IntKind.i64.wrap (a2*((x0.getD 0 default).1)))≥(IntKind.i64.wrap (a2*((((a1.getD default).2.1).getD 0 default).1)))))) && (decide ((IntKind.i64.wrap (a2*((x0.getD 0 default).2)))≥(IntKind.i64.wrap (a2*((((a1.getD default).2.1).getD 0 default).2)))))) 9).bind fun v36=>
                   some v36
                  else none
                 else none
                else none
               else none
              else (r153 (decide (x1>((a1.getD default).1))) 9).bind fun v41=>
               some v41
             else none
            else none
       else none)
     else .next (IntKind.i64.wrap (s3+1))
   else .out none
  else .out ((r173 x1).bind fun v46=>
   if (v46 && (!(decide ((-1)≥0))))=true→(r171 x2).isSome=true then
    (r153 ((v46 && (!(decide ((-1)≥0)))) && ((r171 x2).getD default)) 2).bind fun v47=>
     (r153 (!(decide ((-1)≥0))) 3).bind fun v48=>
      (r152 [v47,v48]).bind fun v49=>
       if ((v49 != 0) || (!a1.isSome))=true then
        some v49
        else if a1.isSome=true then
         if a1.isSome=true then
          if (a2 != 0)=true then
           if 0≤0∧0<(x0.length:Int) then
            if a1.isSome=true then
             if a1.isSome=true then
              if 0≤0∧0<(((a1.getD default).2.1).length:Int) then
               (r153 (((decide (x1>((a1.getD default).1))) && (decide ((IntKind.i64.wrap (a2*((x0.getD 0 default).1)))≥(IntKind.i64.wrap (a2*((((a1.getD default).2.1).getD 0 default).1)))))) && (decide ((IntKind.i64.wrap (a2*((x0.getD 0 default).2)))≥(IntKind.i64.wrap (a2*((((a1.getD default).2.1).getD 0 default).2)))))) 9).bind fun v50=>
                some v50
               else none
              else none
             else none
            else none
           else (r153 (decide (x1>((a1.getD default).1))) 9).bind fun v55=>
            some v55
          else none
         else none
    else none)
def b149_1 (x1:Int) (x0:L_II) (x2:Int) (a1:Option (Int×L_II×Int)) (a2:Int):Bd Int Int:=fun s1=>
 if (decide (s1<(x0.length:Int)))=true then
  if 0≤s1∧s1<(x0.length:Int) then
   bindC (r170 ((x0.getD s1.toNat default).1) ((x0.getD s1.toNat default).2)) fun v1=>
    if v1=true then
     .out (iterC (b149_2 x1 x0 x2 a1 a2 s1) 1000000000 0)
     else .next (IntKind.i64.wrap (s1+1))
   else .out none
  else .out (iterC (b149_3 x1 x0 x2 a1 a2) 1000000000 0)
def r149 (x1:Int) (x0:L_II) (x2:Int) (a1:Option (Int×L_II×Int)) (a2:Int):Option (Int):=
 iterC (b149_1 x1 x0 x2 a1 a2) 1000000000 0
def T149:=qT36 qu3 false r149
attribute [go_sem] T149
def tb149:Fns:=lk [(152,T152.sp),(153,T153.sp),(170,T170.sp),(171,T171.sp),(172,T172.sp),(173,T173.sp)]
theorem tb149_ok:FnsOk Tryz.prog tb149:= .cons f152 (.cons f153 (.cons f170 (.cons f171 (.cons f172 (.cons f173 .nil)))))
theorem tk149:tb149 152=some T152.sp∧tb149 153=some T153.sp∧tb149 170=some T170.sp∧tb149 171=some T171.sp∧tb149 172=some T172.sp∧tb149 173=some T173.sp:=⟨rfl,rfl,rfl,rfl,rfl,rfl⟩
section
attribute [local go_sem] tk149 Tryz.results149 Tryz.results169 Tryz.results184
theorem f149:FnFact Tryz.prog 149 T149.sp:=by
 refine valid_m ty_ok tb149_ok Tryz.func149 rfl Tryz.ntmps149 fun ⟨x1,x0,x2,a1,a2⟩ r hr=>⟨nL rfl,fun stop S=> ?_⟩
 replace hr:r149 x1 x0 x2 a1 a2=some r:=hr
 unfold r149 at hr
 refine S.gx [1,2,5,7,10] ?_
 refine gr ?_
 refine S.inl 2 [1,2,3] [] Tryz.func169 (by decide) rfl Tryz.ntmps169 (fun cx e=>drawn_ok ty_ok tb149_ok cx e) (some 15) rfl rfl rfl rfl (nL rfl) (nL rfl) ?_
 refine gs ?_
 refine gr ?_
 intro stop1 S1
 refine S1.gx [1] ?_
 refine gr ?_
 refine S1.inl 2 [4] [] Tryz.func184 (by decide) rfl Tryz.ntmps184 (fun cx e=>drawn_ok ty_ok tb149_ok cx e) (some 7) rfl rfl rfl rfl (nL rfl) (nL rfl) ?_
 refine gs ?_
 refine gr ?_
 intro stop2 S2
 refine S2.gx [4] ?_
 refine gr ?_
 refine S2.sees [0,1,7,8] [(3,3)] [] ?_ (Stop.iter S2 (fun s1=>⟨[(0,.c (.d (encF 2 d_II x0))),(1,.c (.clo 170 [])),(7,.c (.d (.int .i64 (x0.length:Int)))),(8,.c (.d (.int .i64 s1)))],[(3,[.d (.int .i64 x1),.d (encF 2 d_II x0),.d (.int .i64 x2)])],[]⟩) (b149_1 x1 x0 x2 a1 a2) (fun q=>q=r) hr rfl ?_)
 ·exact lf
 ·intro s1 hr
  unfold b149_1 at hr
  refine S2.gx [4] ?_
  refine gr ?_
  refine iW1 hr (fun hc hr=> ?_) fun hc hr=> ?_
  ·refine gr ?_
   refine S2.gx [] ?_
   obtain ⟨hg30,hr⟩:=of_guard1 hr
   obtain ⟨v1,hv1,hr⟩:=of_bind1 hr
   refine gb hv1 ?_
   refine gr ?_
   refine iW1 hr (fun hc hr=> ?_) fun hc hr=>D1 (S2.ss [0,1,7,8] [(3,3)] []) hr
   refine gr ?_
   have hr:=of_out0 hr
   refine gr ?_
   refine S1.gx [1] ?_
   refine gr ?_
   refine gr ?_
   refine S.gx [1,2,5,7,10] ?_
   refine gr ?_
   refine S.inl 2 [1,2,3,7] [] Tryz.func169 (by decide) rfl Tryz.ntmps169 (fun cx e=>drawn_ok ty_ok tb149_ok cx e) (some 18) rfl rfl rfl rfl (nL rfl) (nL rfl) ?_
   refine gs ?_
   refine gr ?_
   intro stop1 S1
   refine S1.gx [1] ?_
   refine gr ?_
   refine S1.inl 2 [4] [] Tryz.func184 (by decide) rfl Tryz.ntmps184 (fun cx e=>drawn_ok ty_ok tb149_ok cx e) (some 7) rfl rfl rfl rfl (nL rfl) (nL rfl) ?_
   refine gs ?_
   refine gr ?_
   intro stop2 S2
   refine S2.gx [4] ?_
   refine gr ?_
   refine S2.sees [0,1,7,8] [(3,3)] [] ?_ (Stop.iter S2 (fun s2=>⟨[(0,.c (.d (encF 2 d_II x0))),(1,.c (.clo 172 [])),(7,.c (.d (.int .i64 (x0.length:Int)))),(8,.c (.d (.int .i64 s2)))],[(3,[.d (.int .i64 x1),.d (encF 2 d_II x0),.d (.int .i64 x2)])],[]⟩) (b149_2 x1 x0 x2 a1 a2 s1) (fun q=>q=r) hr rfl ?_)
   ·exact lf
   ·intro s2 hr
    unfold b149_2 at hr
    refine S2.gx [4] ?_
    refine gr ?_
    refine iW1 hr (fun hc hr=> ?_) fun hc hr=> ?_
    ·refine gr ?_
     refine S2.gx [] ?_
     obtain ⟨hg16,hr⟩:=of_guard1 hr
     obtain ⟨v2,hv2,hr⟩:=of_bind1 hr
     refine gb hv2 ?_
     refine gr ?_
     refine iW1 hr (fun hc hr=> ?_) fun hc hr=>D1 (S2.ss [0,1,7,8] [(3,3)] []) hr
     refine gr ?_
     have hr:=of_out0 hr
     refine gr ?_
     refine S1.gx [1] ?_
     refine gr ?_
     refine gr ?_
     refine S.gx [1,2,5,7,10] ?_
     obtain ⟨v3,hv3,hr⟩:=of_bind0 hr
     obtain ⟨hg15,hr⟩:=of_guard0 hr
     obtain ⟨v4,hv4,hr⟩:=of_bind0 hr
     obtain ⟨v5,hv5,hr⟩:=of_bind0 hr
     obtain ⟨v6,hv6,hr⟩:=of_bind0 hr
     try simp only [hv3,hv4,hv5,hv6,Option.getD_some,Option.isSome_some,true_and,and_assoc]
     repeat (first | refine gG hg15 ?_ | refine gA ?_ | refine gB ?_)
     refine iW hr (fun hc hr=> ?_) fun hc hr=> ?_
     ·refine gr ?_
      refine S.prune [9] ?_
      refine S.gx [1,2,7,10] ?_
      exact D0 hr
     ·obtain ⟨hg13,hr⟩:=of_guard0 hr
      obtain ⟨hg14,hr⟩:=of_guard0 hr
      refine gr ?_
      refine S.prune [1,2,3,10] ?_
      refine S.gx [1,2,5,10] ?_
      refine gr ?_
      refine gr ?_
      refine iW hr (fun hc hr=> ?_) fun hc hr=> ?_
      ·obtain ⟨hg8,hr⟩:=of_guard0 hr
       obtain ⟨hg9,hr⟩:=of_guard0 hr
       obtain ⟨hg10,hr⟩:=of_guard0 hr
       obtain ⟨hg11,hr⟩:=of_guard0 hr
       repeat (first | refine gA ?_ | refine gB ?_)
       refine S.prune [10] ?_
       refine S.gx [1,2,5,7] ?_
       exact D0 hr
      ·refine gr ?_
       refine S.prune [10] ?_
       refine S.gx [1,2,5,7] ?_
       exact D0 hr
    ·refine gr ?_
     have hr:=of_out0 hr
     refine gr ?_
     refine gr ?_
     refine S1.gx [1] ?_
     refine gr ?_
     refine gr ?_
     refine S.gx [1,2,5,7,10] ?_
     obtain ⟨v17,hv17,hr⟩:=of_bind0 hr
     obtain ⟨hg29,hr⟩:=of_guard0 hr
     obtain ⟨v18,hv18,hr⟩:=of_bind0 hr
     obtain ⟨v19,hv19,hr⟩:=of_bind0 hr
     obtain ⟨v20,hv20,hr⟩:=of_bind0 hr
     try simp only [hv17,hv18,hv19,hv20,Option.getD_some,Option.isSome_some,true_and,and_assoc]
     repeat (first | refine gG hg29 ?_ | refine gA ?_ | refine gB ?_)
     refine iW hr (fun hc hr=> ?_) fun hc hr=> ?_
     ·refine gr ?_
      refine S.prune [9] ?_
      refine S.gx [1,2,7,10] ?_
      exact D0 hr
     ·obtain ⟨hg27,hr⟩:=of_guard0 hr
      obtain ⟨hg28,hr⟩:=of_guard0 hr
      refine gr ?_
      refine S.prune [1,2,3,10] ?_
      refine S.gx [1,2,5,10] ?_
      refine gr ?_
      refine gr ?_
      refine iW hr (fun hc hr=> ?_) fun hc hr=> ?_
      ·obtain ⟨hg22,hr⟩:=of_guard0 hr
       obtain ⟨hg23,hr⟩:=of_guard0 hr
       obtain ⟨hg24,hr⟩:=of_guard0 hr
       obtain ⟨hg25,hr⟩:=of_guard0 hr
       repeat (first | refine gA ?_ | refine gB ?_)
       refine S.prune [10] ?_
       refine S.gx [1,2,5,7] ?_
       exact D0 hr
      ·refine gr ?_
       refine S.prune [10] ?_
       refine S.gx [1,2,5,7] ?_
       exact D0 hr
  ·refine gr ?_
   have hr:=of_out0 hr
   refine gr ?_
   refine gr ?_
   refine S1.gx [1] ?_
   refine gr ?_
   refine gr ?_
   refine S.gx [1,2,5,7,10] ?_
   refine gr ?_
   refine S.inl 2 [1,2,3,7] [] Tryz.func169 (by decide) rfl Tryz.ntmps169 (fun cx e=>drawn_ok ty_ok tb149_ok cx e) (some 18) rfl rfl rfl rfl (nL rfl) (nL rfl) ?_
   refine gs ?_
   refine gr ?_
   intro stop1 S1
   refine S1.gx [1] ?_
   refine gr ?_
   refine S1.inl 2 [4] [] Tryz.func184 (by decide) rfl Tryz.ntmps184 (fun cx e=>drawn_ok ty_ok tb149_ok cx e) (some 7) rfl rfl rfl rfl (nL rfl) (nL rfl) ?_
   refine gs ?_
   refine gr ?_
   intro stop2 S2
   refine S2.gx [4] ?_
   refine gr ?_
   refine S2.sees [0,1,7,8] [(3,3)] [] ?_ (Stop.iter S2 (fun s3=>⟨[(0,.c (.d (encF 2 d_II x0))),(1,.c (.clo 172 [])),(7,.c (.d (.int .i64 (x0.length:Int)))),(8,.c (.d (.int .i64 s3)))],[(3,[.d (.int .i64 x1),.d (encF 2 d_II x0),.d (.int .i64 x2)])],[]⟩) (b149_3 x1 x0 x2 a1 a2) (fun q=>q=r) hr rfl ?_)
   ·exact lf
   ·intro s3 hr
    unfold b149_3 at hr
    refine S2.gx [4] ?_
    refine gr ?_
    refine iW1 hr (fun hc hr=> ?_) fun hc hr=> ?_
    ·refine gr ?_
     refine S2.gx [] ?_
     obtain ⟨hg45,hr⟩:=of_guard1 hr
     obtain ⟨v31,hv31,hr⟩:=of_bind1 hr
     refine gb hv31 ?_
     refine gr ?_
     refine iW1 hr (fun hc hr=> ?_) fun hc hr=>D1 (S2.ss [0,1,7,8] [(3,3)] []) hr
     refine gr ?_
     have hr:=of_out0 hr
     refine gr ?_
     refine S1.gx [1] ?_
     refine gr ?_
     refine gr ?_
     refine S.gx [1,2,5,7,10] ?_
     obtain ⟨v32,hv32,hr⟩:=of_bind0 hr
     obtain ⟨hg44,hr⟩:=of_guard0 hr
     obtain ⟨v33,hv33,hr⟩:=of_bind0 hr
     obtain ⟨v34,hv34,hr⟩:=of_bind0 hr
     obtain ⟨v35,hv35,hr⟩:=of_bind0 hr
     try simp only [hv32,hv33,hv34,hv35,Option.getD_some,Option.isSome_some,true_and,and_assoc]
     repeat (first | refine gG hg44 ?_ | refine gA ?_ | refine gB ?_)
     refine iW hr (fun hc hr=> ?_) fun hc hr=> ?_
     ·refine gr ?_
      refine S.prune [9] ?_
      refine S.gx [1,2,7,10] ?_
      exact D0 hr
     ·obtain ⟨hg42,hr⟩:=of_guard0 hr
      obtain ⟨hg43,hr⟩:=of_guard0 hr
      refine gr ?_
      refine S.prune [1,2,3,10] ?_
      refine S.gx [1,2,5,10] ?_
      refine gr ?_
      refine gr ?_
      refine iW hr (fun hc hr=> ?_) fun hc hr=> ?_
      ·obtain ⟨hg37,hr⟩:=of_guard0 hr
       obtain ⟨hg38,hr⟩:=of_guard0 hr
       obtain ⟨hg39,hr⟩:=of_guard0 hr
       obtain ⟨hg40,hr⟩:=of_guard0 hr
       repeat (first | refine gA ?_ | refine gB ?_)
       refine S.prune [10] ?_
       refine S.gx [1,2,5,7] ?_
       exact D0 hr
      ·refine gr ?_
       refine S.prune [10] ?_
       refine S.gx [1,2,5,7] ?_
       exact D0 hr
    ·refine gr ?_
     have hr:=of_out0 hr
     refine gr ?_
     refine gr ?_
     refine S1.gx [1] ?_
     refine gr ?_
     refine gr ?_
     refine S.gx [1,2,5,7,10] ?_
     obtain ⟨v46,hv46,hr⟩:=of_bind0 hr
     obtain ⟨hg58,hr⟩:=of_guard0 hr
     obtain ⟨v47,hv47,hr⟩:=of_bind0 hr
     obtain ⟨v48,hv48,hr⟩:=of_bind0 hr
     obtain ⟨v49,hv49,hr⟩:=of_bind0 hr
     try simp only [hv46,hv47,hv48,hv49,Option.getD_some,Option.isSome_some,true_and,and_assoc]
     repeat (first | refine gG hg58 ?_ | refine gA ?_ | refine gB ?_)
     refine iW hr (fun hc hr=> ?_) fun hc hr=> ?_
     ·refine gr ?_
      refine S.prune [9] ?_
      refine S.gx [1,2,7,10] ?_
      exact D0 hr
     ·obtain ⟨hg56,hr⟩:=of_guard0 hr
      obtain ⟨hg57,hr⟩:=of_guard0 hr
      refine gr ?_
      refine S.prune [1,2,3,10] ?_
      refine S.gx [1,2,5,10] ?_
      refine gr ?_
      refine gr ?_
      refine iW hr (fun hc hr=> ?_) fun hc hr=> ?_
      ·obtain ⟨hg51,hr⟩:=of_guard0 hr
       obtain ⟨hg52,hr⟩:=of_guard0 hr
       obtain ⟨hg53,hr⟩:=of_guard0 hr
       obtain ⟨hg54,hr⟩:=of_guard0 hr
       repeat (first | refine gA ?_ | refine gB ?_)
       refine S.prune [10] ?_
       refine S.gx [1,2,5,7] ?_
       exact D0 hr
      ·refine gr ?_
       refine S.prune [10] ?_
       refine S.gx [1,2,5,7] ?_
       exact D0 hr
end
def r150 (a0:Int):Option (Bool):=
 (r151 a0 0 2000).bind fun v1=>
  some (!v1)
def T150:=qT4 qu2 false r150
attribute [go_sem] T150
def tb150:Fns:=lk [(151,T151.sp)]
theorem tb150_ok:FnsOk Tryz.prog tb150:= .cons f151 .nil
theorem tk150:tb150 151=some T151.sp:=rfl
section
attribute [local go_sem] tk150 Tryz.results150
theorem f150:FnFact Tryz.prog 150 T150.sp:=by
 refine valid_m ty_ok tb150_ok Tryz.func150 rfl Tryz.ntmps150 fun a0 r hr=>⟨nL rfl,fun stop S=> ?_⟩
 replace hr:r150 a0=some r:=hr
 unfold r150 at hr
 refine S.gx [] ?_
 exact D0 hr
end
def b104c_1 (a0:L_I):Bd Int Int:=fun s1=>
 if (decide (s1<(a0.length:Int)))=true then
  if 0≤s1∧s1<(a0.length:Int) then
   bindC (r150 (a0.getD s1.toNat default)) fun v1=>
    if v1=true then
     .out (some s1)
     else .next (IntKind.i64.wrap (s1+1))
   else .out none
  else .out (some (-1))
def r104c (a0:L_I):Option (Int):=
 iterC (b104c_1 a0) 1000000000 0
def T104c:=qT37 qu3 false r104c
attribute [go_sem] T104c
def tb104c:Fns:=lk [(150,T150.sp)]
theorem tb104c_ok:FnsOk Tryz.prog tb104c:= .cons f150 .nil
theorem tk104c:tb104c 150=some T150.sp:=rfl
section
attribute [local go_sem] tk104c Tryz.results104
theorem f104c:FnFact Tryz.prog 104 T104c.sp:=by
 refine valid_m ty_ok tb104c_ok Tryz.func104 rfl Tryz.ntmps104 fun a0 r hr=>⟨nL rfl,fun stop S=> ?_⟩
 replace hr:r104c a0=some r:=hr
 unfold r104c at hr
 refine S.gx [] ?_
 refine gr ?_
 refine S.sees [0,1,7,8] [] [] ?_ (Stop.iter S (fun s1=>⟨[(0,.c (.d (encF 1 d_I a0))),(1,.c (.clo 150 [])),(7,.c (.d (.int .i64 (a0.length:Int)))),(8,.c (.d (.int .i64 s1)))],[],[]⟩) (b104c_1 a0) (fun q=>q=r) hr rfl ?_)
 ·exact lf
 ·intro s1 hr
  unfold b104c_1 at hr
  refine S.gx [] ?_
  exact D1 (S.ss [0,1,7,8] [] []) hr
end
def r70b (a0:L_I):Option (Bool):=
 (r104c a0).bind fun v1=>
  some (decide (v1≥0))
def T70b:=qT37 qu2 false r70b
attribute [go_sem] T70b
def tb70b:Fns:=lk [(104,T104c.sp)]
theorem tb70b_ok:FnsOk Tryz.prog tb70b:= .cons f104c .nil
theorem tk70b:tb70b 104=some T104c.sp:=rfl
section
attribute [local go_sem] tk70b Tryz.results70
theorem f70b:FnFact Tryz.prog 70 T70b.sp:=by
 refine valid_m ty_ok tb70b_ok Tryz.func70 rfl Tryz.ntmps70 fun a0 r hr=>⟨nL rfl,fun stop S=> ?_⟩
 replace hr:r70b a0=some r:=hr
 unfold r70b at hr
 refine S.gx [] ?_
 exact D0 hr
end
def r174 (a0 a1:Int):Option (Bool):=
 (r167 a0).bind fun v1=>
  if v1=true→(r167 a1).isSome=true then
   some ((v1 && (!((r167 a1).getD default))) || (decide (a0<a1)))
   else none
def T174:=qT7 qu2 false r174
attribute [go_sem] T174
def tb174:Fns:=lk [(167,T167.sp)]
theorem tb174_ok:FnsOk Tryz.prog tb174:= .cons f167 .nil
theorem tk174:tb174 167=some T167.sp:=rfl
section
attribute [local go_sem] tk174 Tryz.results174
theorem f174:FnFact Tryz.prog 174 T174.sp:=by
 refine valid_m ty_ok tb174_ok Tryz.func174 rfl Tryz.ntmps174 fun ⟨a0,a1⟩ r hr=>⟨nL rfl,fun stop S=> ?_⟩
 replace hr:r174 a0 a1=some r:=hr
 unfold r174 at hr
 refine S.gx [] ?_
 obtain ⟨v1,hv1,hr⟩:=of_bind0 hr
 obtain ⟨hg2,hr⟩:=of_guard0 hr
 try simp only [hv1,oG,oI,true_and,and_assoc]
 repeat (first | refine gG hg2 ?_ | refine gA ?_ | refine gB ?_)
 exact D0 hr
end
def b154_1 (a0:L_I):Bd Int Bool:=fun s1=>
 if (decide (s1>0))=true then
  if 0≤s1∧s1<(a0.length:Int) then
   if 0≤IntKind.i64.wrap (s1 - 1)∧IntKind.i64.wrap (s1 - 1)<(a0.length:Int) then
    bindC (r174 (a0.getD s1.toNat default) (a0.getD (IntKind.i64.wrap (s1 - 1)).toNat default)) fun v1=>
     if v1=true then
      .out (some false)
      else .next (IntKind.i64.wrap (s1 - 1))
    else .out none
   else .out none
  else .out (some true)
def r154 (a0:L_I):Option (Bool):=
 iterC (b154_1 a0) 1000000000 (IntKind.i64.wrap ((a0.length:Int) - 1))
def T154:=qT3 qu2 false r154
attribute [go_sem] T154
def tb154:Fns:=lk [(174,T174.sp)]
theorem tb154_ok:FnsOk Tryz.prog tb154:= .cons f174 .nil
theorem tk154:tb154 174=some T174.sp:=rfl
section
attribute [local go_sem] tk154 Tryz.results154
theorem f154:FnFact Tryz.prog 154 T154.sp:=by
 refine valid_m ty_ok tb154_ok Tryz.func154 rfl Tryz.ntmps154 fun a0 r hr=>⟨nL rfl,fun stop S=> ?_⟩
 replace hr:r154 a0=some r:=hr
 unfold r154 at hr
 refine S.gx [] ?_
 refine gr ?_
 refine S.sees [0,3] [] [] ?_ (Stop.iter S (fun s1=>⟨[(0,.c (.d (encF 1 d_I a0))),(3,.c (.d (.int .i64 s1)))],[],[]⟩) (b154_1 a0) (fun q=>q=r) hr rfl ?_)
 ·exact lf
 ·intro s1 hr
  unfold b154_1 at hr
  refine S.gx [] ?_
  exact D1 (S.ss [0,3] [] []) hr
end
def b121_4 (x0 x1 x2 x3:Int) (v1:L_ILIIEI×L_ILIIEI×L_ILIIEI×L_ILIIEI):Bd ((Option (Int×L_II×Int))×Int) (Int×Int):=fun s4=>
 if (decide (s4.2<(v1.2.2.2.length:Int)))=true then
  if 0≤s4.2∧s4.2<(v1.2.2.2.length:Int) then
   bindC (r149 ((v1.2.2.2.getD s4.2.toNat default).1) ((v1.2.2.2.getD s4.2.toNat default).2.1) ((v1.2.2.2.getD s4.2.toNat default).2.2) s4.1 0) fun v11=>
    if (v11 != 0)=true then
     .out (some (s4.2,v11))
     else if 0≤s4.2∧s4.2<(v1.2.2.2.length:Int) then
      .next (some ((v1.2.2.2.getD s4.2.toNat default).1,(v1.2.2.2.getD s4.2.toNat default).2.1,(v1.2.2.2.getD s4.2.toNat default).2.2),IntKind.i64.wrap (s4.2+1))
      else .out none
   else .out none
  else .out (if (decide ((v1.1.length:Int)>0))=true then
   if (decide ((v1.2.1.length:Int)>0))=true→0≤IntKind.i64.wrap ((v1.2.1.length:Int) - 1)∧IntKind.i64.wrap ((v1.2.1.length:Int) - 1)<(v1.2.1.length:Int) then
    if (decide ((v1.2.1.length:Int)>0))=true→0≤0∧0<(v1.1.length:Int) then
     if ((decide ((v1.2.1.length:Int)>0)) && (decide (((v1.2.1.getD (IntKind.i64.wrap ((v1.2.1.length:Int) - 1)).toNat default).1)≥((v1.1.getD 0 default).1))))=true then
      some (0,13)
      else if (decide ((v1.2.2.1.length:Int)>0))=true→0≤IntKind.i64.wrap ((v1.2.2.1.length:Int) - 1)∧IntKind.i64.wrap ((v1.2.2.1.length:Int) - 1)<(v1.2.2.1.length:Int) then
       if (decide ((v1.2.2.1.length:Int)>0))=true→0≤0∧0<(v1.1.length:Int) then
        if ((decide ((v1.2.2.1.length:Int)>0)) && (decide (((v1.2.2.1.getD (IntKind.i64.wrap ((v1.2.2.1.length:Int) - 1)).toNat default).1)≥((v1.1.getD 0 default).1))))=true then
         some (0,13)
         else if (decide ((v1.2.2.2.length:Int)>0))=true→0≤IntKind.i64.wrap ((v1.2.2.2.length:Int) - 1)∧IntKind.i64.wrap ((v1.2.2.2.length:Int) - 1)<(v1.2.2.2.length:Int) then
          if (decide ((v1.2.2.2.length:Int)>0))=true→0≤0∧0<(v1.1.length:Int) then
           if ((decide ((v1.2.2.2.length:Int)>0)) && (decide (((v1.2.2.2.getD (IntKind.i64.wrap ((v1.2.2.2.length:Int) - 1)).toNat default).1)≥((v1.1.getD 0 default).1))))=true then
            some (0,13)
            else (r70b [x0,x1,x2,x3]).bind fun v14=>
             (r153 (!v14) 2).bind fun v15=>
              (r154 [x0,x1,x2,x3]).bind fun v16=>
               (r153 v16 9).bind fun v17=>
                (r152 [v15,v17]).bind fun v18=>
                 some (0,v18)
           else none
          else none
        else none
       else none
     else none
    else none
   else (r70b [x0,x1,x2,x3]).bind fun v25=>
    (r153 (!v25) 2).bind fun v26=>
     (r154 [x0,x1,x2,x3]).bind fun v27=>
      (r153 v27 9).bind fun v28=>
       (r152 [v26,v28]).bind fun v29=>
        some (0,v29))
def b121_3 (x0 x1 x2 x3:Int) (v1:L_ILIIEI×L_ILIIEI×L_ILIIEI×L_ILIIEI):Bd ((Option (Int×L_II×Int))×Int) (Int×Int):=fun s3=>
 if (decide (s3.2<(v1.2.2.1.length:Int)))=true then
  if 0≤s3.2∧s3.2<(v1.2.2.1.length:Int) then
   bindC (r149 ((v1.2.2.1.getD s3.2.toNat default).1) ((v1.2.2.1.getD s3.2.toNat default).2.1) ((v1.2.2.1.getD s3.2.toNat default).2.2) s3.1 (-1)) fun v8=>
    if (v8 != 0)=true then
     .out (some (s3.2,v8))
     else if 0≤s3.2∧s3.2<(v1.2.2.1.length:Int) then
      .next (some ((v1.2.2.1.getD s3.2.toNat default).1,(v1.2.2.1.getD s3.2.toNat default).2.1,(v1.2.2.1.getD s3.2.toNat default).2.2),IntKind.i64.wrap (s3.2+1))
      else .out none
   else .out none
  else .out (iterC (b121_4 x0 x1 x2 x3 v1) 1000000000 (none,0))
def b121_2 (x0 x1 x2 x3:Int) (v1:L_ILIIEI×L_ILIIEI×L_ILIIEI×L_ILIIEI):Bd ((Option (Int×L_II×Int))×Int) (Int×Int):=fun s2=>
 if (decide (s2.2<(v1.2.1.length:Int)))=true then
  if 0≤s2.2∧s2.2<(v1.2.1.length:Int) then
   bindC (r149 ((v1.2.1.getD s2.2.toNat default).1) ((v1.2.1.getD s2.2.toNat default).2.1) ((v1.2.1.getD s2.2.toNat default).2.2) s2.1 0) fun v5=>
    if (v5 != 0)=true then
     .out (some (s2.2,v5))
     else if 0≤s2.2∧s2.2<(v1.2.1.length:Int) then
      .next (some ((v1.2.1.getD s2.2.toNat default).1,(v1.2.1.getD s2.2.toNat default).2.1,(v1.2.1.getD s2.2.toNat default).2.2),IntKind.i64.wrap (s2.2+1))
      else .out none
   else .out none
  else .out (iterC (b121_3 x0 x1 x2 x3 v1) 1000000000 (none,0))
def b121_1 (x0 x1 x2 x3:Int) (v1:L_ILIIEI×L_ILIIEI×L_ILIIEI×L_ILIIEI):Bd ((Option (Int×L_II×Int))×Int) (Int×Int):=fun s1=>
 if (decide (s1.2<(v1.1.length:Int)))=true then
  if 0≤s1.2∧s1.2<(v1.1.length:Int) then
   bindC (r149 ((v1.1.getD s1.2.toNat default).1) ((v1.1.getD s1.2.toNat default).2.1) ((v1.1.getD s1.2.toNat default).2.2) s1.1 1) fun v2=>
    if (v2 != 0)=true then
     .out (some (s1.2,v2))
     else if 0≤s1.2∧s1.2<(v1.1.length:Int) then
      .next (some ((v1.1.getD s1.2.toNat default).1,(v1.1.getD s1.2.toNat default).2.1,(v1.1.getD s1.2.toNat default).2.2),IntKind.i64.wrap (s1.2+1))
      else .out none
   else .out none
  else .out (iterC (b121_2 x0 x1 x2 x3 v1) 1000000000 (none,0))
def r121 (x4:L_IIII) (x5:L_IIIII) (x6:L_III) (x7:L_II) (x0 x1 x2 x3:Int):Option (Int×Int):=
 (r148 x4 x5 x6 x7 x0 x1 x2 x3).bind fun v1=>
  if (decide ((v1.1.length:Int)>8))=true then
   some (0,8)
   else if (decide ((v1.2.1.length:Int)>8))=true then
    some (0,8)
    else if (decide ((v1.2.2.1.length:Int)>8))=true then
     some (0,8)
     else if (decide ((v1.2.2.2.length:Int)>8))=true then
      some (0,8)
      else iterC (b121_1 x0 x1 x2 x3 v1) 1000000000 (none,0)
def T121:=qT35 qu4 false r121
attribute [go_sem] T121
def tb121:Fns:=lk [(70,T70b.sp),(148,T148.sp),(149,T149.sp),(152,T152.sp),(153,T153.sp),(154,T154.sp)]
theorem tb121_ok:FnsOk Tryz.prog tb121:= .cons f70b (.cons f148 (.cons f149 (.cons f152 (.cons f153 (.cons f154 .nil)))))
theorem tk121:tb121 70=some T70b.sp∧tb121 148=some T148.sp∧tb121 149=some T149.sp∧tb121 152=some T152.sp∧tb121 153=some T153.sp∧tb121 154=some T154.sp:=⟨rfl,rfl,rfl,rfl,rfl,rfl⟩
section
attribute [local go_sem] tk121 Tryz.results121
theorem f121:FnFact Tryz.prog 121 T121.sp:=by
 refine valid_m ty_ok tb121_ok Tryz.func121 rfl Tryz.ntmps121 fun ⟨x4,x5,x6,x7,x0,x1,x2,x3⟩ r hr=>⟨nL rfl,fun stop S=> ?_⟩
 replace hr:r121 x4 x5 x6 x7 x0 x1 x2 x3=some r:=hr
 unfold r121 at hr
 refine S.gx [26,27] ?_
 obtain ⟨v1,hv1,hr⟩:=of_bind0 hr
 refine gb hv1 ?_
 refine S.lp ?_
 refine S.gx [26,27] ?_
 refine gr ?_
 refine iW hr (fun hc hr=>D0 hr) fun hc hr=> ?_
 refine gr ?_
 refine S.lp ?_
 refine S.gx [26,27] ?_
 refine gr ?_
 refine iW hr (fun hc hr=>D0 hr) fun hc hr=> ?_
 refine gr ?_
 refine S.lp ?_
 refine S.gx [26,27] ?_
 refine gr ?_
 refine iW hr (fun hc hr=>D0 hr) fun hc hr=> ?_
 refine gr ?_
 refine S.lp ?_
 refine S.gx [26,27] ?_
 refine gr ?_
 refine iW hr (fun hc hr=>D0 hr) fun hc hr=> ?_
 refine gr ?_
 refine S.lp ?_
 refine S.gx [26,27] ?_
 refine gr ?_
 refine S.lp ?_
 refine S.gx [26,27] ?_
 refine gr ?_
 refine S.share 16 rfl ?_
 refine S.sees [1,4,7,8,9,25,26,31,32] [(1,1),(4,4)] [(16,16),(10016,10016),(20016,20016),(30016,30016)] ?_ (Stop.iter S (fun s1=>⟨[(1,.c (.ref 1 0)),(4,.c (.ref 4 0)),(7,.c (.d (.int .i64 0))),(8,.c (.own 16)),(9,.c (.d (encP d_ILIIEI s1.1))),(25,.agg [.own 16,.own 10016,.own 20016,.own 30016]),(26,.c (.d (.int .i64 0))),(31,.c (.d (.int .i64 (v1.1.length:Int)))),(32,.c (.d (.int .i64 s1.2)))],[(1,[.d (encF 4 d_IIII x4),.d (encF 5 d_IIIII x5),.d (encF 3 d_III x6),.d (encF 2 d_II x7),.d (.int .i64 x0),.d (.int .i64 x1),.d (.int .i64 x2),.d (.int .i64 x3)]),(4,[.own 16,.own 10016,.own 20016,.own 30016])],[(16,.shared (encF 3 d_ILIIEI v1.1)),(10016,.owned (encF 3 d_ILIIEI v1.2.1)),(20016,.owned (encF 3 d_ILIIEI v1.2.2.1)),(30016,.owned (encF 3 d_ILIIEI v1.2.2.2))]⟩) (b121_1 x0 x1 x2 x3 v1) (fun q=>q=r) hr rfl ?_)
 ·exact lf
 ·intro s1 hr
  unfold b121_1 at hr
  refine S.gx [26,27] ?_
  refine gr ?_
  refine iW1 hr (fun hc hr=>D1 (S.ss [1,4,7,8,9,25,26,31,32] [(1,1),(4,4)] [(16,16),(10016,10016),(20016,20016),(30016,30016)]) hr) fun hc hr=> ?_
  refine gr ?_
  have hr:=of_out0 hr
  refine gr ?_
  refine S.lp ?_
  refine S.gx [26,27] ?_
  refine gr ?_
  refine S.share 10016 rfl ?_
  refine S.sees [1,4,7,8,9,25,26,31,32] [(1,1),(4,4)] [(10016,10016),(16,16),(20016,20016),(30016,30016)] ?_ (Stop.iter S (fun s2=>⟨[(1,.c (.ref 1 0)),(4,.c (.ref 4 0)),(7,.c (.d (.int .i64 1))),(8,.c (.own 10016)),(9,.c (.d (encP d_ILIIEI s2.1))),(25,.agg [.own 16,.own 10016,.own 20016,.own 30016]),(26,.c (.d (.int .i64 1))),(31,.c (.d (.int .i64 (v1.2.1.length:Int)))),(32,.c (.d (.int .i64 s2.2)))],[(1,[.d (encF 4 d_IIII x4),.d (encF 5 d_IIIII x5),.d (encF 3 d_III x6),.d (encF 2 d_II x7),.d (.int .i64 x0),.d (.int .i64 x1),.d (.int .i64 x2),.d (.int .i64 x3)]),(4,[.own 16,.own 10016,.own 20016,.own 30016])],[(10016,.shared (encF 3 d_ILIIEI v1.2.1)),(16,.shared (encF 3 d_ILIIEI v1.1)),(20016,.owned (encF 3 d_ILIIEI v1.2.2.1)),(30016,.owned (encF 3 d_ILIIEI v1.2.2.2))]⟩) (b121_2 x0 x1 x2 x3 v1) (fun q=>q=r) hr rfl ?_)
  ·exact lf
  ·intro s2 hr
   unfold b121_2 at hr
   refine S.gx [26,27] ?_
   refine gr ?_
   refine iW1 hr (fun hc hr=>D1 (S.ss [1,4,7,8,9,25,26,31,32] [(1,1),(4,4)] [(10016,10016),(16,16),(20016,20016),(30016,30016)]) hr) fun hc hr=> ?_
   refine gr ?_
   have hr:=of_out0 hr
   refine gr ?_
   refine S.lp ?_
   refine S.gx [26,27] ?_
   refine gr ?_
   refine S.share 20016 rfl ?_
   refine S.sees [1,4,7,8,9,25,26,31,32] [(1,1),(4,4)] [(20016,20016),(16,16),(10016,10016),(30016,30016)] ?_ (Stop.iter S (fun s3=>⟨[(1,.c (.ref 1 0)),(4,.c (.ref 4 0)),(7,.c (.d (.int .i64 2))),(8,.c (.own 20016)),(9,.c (.d (encP d_ILIIEI s3.1))),(25,.agg [.own 16,.own 10016,.own 20016,.own 30016]),(26,.c (.d (.int .i64 2))),(31,.c (.d (.int .i64 (v1.2.2.1.length:Int)))),(32,.c (.d (.int .i64 s3.2)))],[(1,[.d (encF 4 d_IIII x4),.d (encF 5 d_IIIII x5),.d (encF 3 d_III x6),.d (encF 2 d_II x7),.d (.int .i64 x0),.d (.int .i64 x1),.d (.int .i64 x2),.d (.int .i64 x3)]),(4,[.own 16,.own 10016,.own 20016,.own 30016])],[(20016,.shared (encF 3 d_ILIIEI v1.2.2.1)),(16,.shared (encF 3 d_ILIIEI v1.1)),(10016,.shared (encF 3 d_ILIIEI v1.2.1)),(30016,.owned (encF 3 d_ILIIEI v1.2.2.2))]⟩) (b121_3 x0 x1 x2 x3 v1) (fun q=>q=r) hr rfl ?_)
   ·exact lf
   ·intro s3 hr
    unfold b121_3 at hr
    refine S.gx [26,27] ?_
    refine gr ?_
    refine iW1 hr (fun hc hr=>D1 (S.ss [1,4,7,8,9,25,26,31,32] [(1,1),(4,4)] [(20016,20016),(16,16),(10016,10016),(30016,30016)]) hr) fun hc hr=> ?_
    refine gr ?_
    have hr:=of_out0 hr
    refine gr ?_
    refine S.lp ?_
    refine S.gx [26,27] ?_
    refine gr ?_
    refine S.share 30016 rfl ?_
    refine S.sees [1,4,7,8,9,25,26,31,32] [(1,1),(4,4)] [(30016,30016),(16,16),(10016,10016),(20016,20016)] ?_ (Stop.iter S (fun s4=>⟨[(1,.c (.ref 1 0)),(4,.c (.ref 4 0)),(7,.c (.d (.int .i64 3))),(8,.c (.own 30016)),(9,.c (.d (encP d_ILIIEI s4.1))),(25,.agg [.own 16,.own 10016,.own 20016,.own 30016]),(26,.c (.d (.int .i64 3))),(31,.c (.d (.int .i64 (v1.2.2.2.length:Int)))),(32,.c (.d (.int .i64 s4.2)))],[(1,[.d (encF 4 d_IIII x4),.d (encF 5 d_IIIII x5),.d (encF 3 d_III x6),.d (encF 2 d_II x7),.d (.int .i64 x0),.d (.int .i64 x1),.d (.int .i64 x2),.d (.int .i64 x3)]),(4,[.own 16,.own 10016,.own 20016,.own 30016])],[(30016,.shared (encF 3 d_ILIIEI v1.2.2.2)),(16,.shared (encF 3 d_ILIIEI v1.1)),(10016,.shared (encF 3 d_ILIIEI v1.2.1)),(20016,.shared (encF 3 d_ILIIEI v1.2.2.1))]⟩) (b121_4 x0 x1 x2 x3 v1) (fun q=>q=r) hr rfl ?_)
    ·exact lf
    ·intro s4 hr
     unfold b121_4 at hr
     refine S.gx [26,27] ?_
     refine gr ?_
     refine iW1 hr (fun hc hr=>D1 (S.ss [1,4,7,8,9,25,26,31,32] [(1,1),(4,4)] [(30016,30016),(16,16),(10016,10016),(20016,20016)]) hr) fun hc hr=> ?_
     refine gr ?_
     have hr:=of_out0 hr
     refine gr ?_
     refine S.lp ?_
     refine S.gx [26,27] ?_
     refine gr ?_
     refine iW hr (fun hc hr=> ?_) fun hc hr=>D0 hr
     refine gr ?_
     refine S.lp ?_
     refine S.gx [26,27] ?_
     obtain ⟨hg23,hr⟩:=of_guard0 hr
     obtain ⟨hg24,hr⟩:=of_guard0 hr
     repeat (first | refine gG hg23 ?_ | refine gG hg24 ?_ | refine gA ?_ | refine gB ?_)
     refine iW hr (fun hc hr=> ?_) fun hc hr=> ?_
     ·refine gr ?_
      refine S.prune [] ?_
      refine S.gx [27] ?_
      exact D0 hr
     ·refine gr ?_
      refine S.prune [1,4,57,58,59] ?_
      refine S.gx [26] ?_
      refine gr ?_
      refine gr ?_
      refine S.lp ?_
      refine S.gx [26,27] ?_
      obtain ⟨hg21,hr⟩:=of_guard0 hr
      obtain ⟨hg22,hr⟩:=of_guard0 hr
      repeat (first | refine gG hg21 ?_ | refine gG hg22 ?_ | refine gA ?_ | refine gB ?_)
      refine iW hr (fun hc hr=> ?_) fun hc hr=> ?_
      ·refine gr ?_
       refine S.prune [] ?_
       refine S.gx [27] ?_
       exact D0 hr
      ·refine gr ?_
       refine S.prune [1,4,57,58,59] ?_
       refine S.gx [26] ?_
       refine gr ?_
       refine gr ?_
       refine S.lp ?_
       refine S.gx [26,27] ?_
       obtain ⟨hg19,hr⟩:=of_guard0 hr
       obtain ⟨hg20,hr⟩:=of_guard0 hr
       repeat (first | refine gG hg19 ?_ | refine gG hg20 ?_ | refine gA ?_ | refine gB ?_)
       refine iW hr (fun hc hr=> ?_) fun hc hr=> ?_
       ·refine gr ?_
        refine S.prune [] ?_
        refine S.gx [27] ?_
        exact D0 hr
       ·refine gr ?_
        refine S.prune [1,4,57,58,59] ?_
        refine S.gx [26] ?_
        refine gr ?_
        refine gr ?_
        refine S.lp ?_
        refine S.gx [26,27] ?_
        exact D0 hr
end
end Go.Proofs.YtlnlpncchgimgaaGreatDoor

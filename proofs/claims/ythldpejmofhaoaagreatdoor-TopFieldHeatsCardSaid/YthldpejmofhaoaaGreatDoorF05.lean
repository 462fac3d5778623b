/- Contracts of functions, written by wip/dec. -/
import Derived.Test.YthldpejmofhaoaaGreatDoorF00
import Derived.Test.YthldpejmofhaoaaGreatDoorF02
import Derived.Test.YthldpejmofhaoaaGreatDoorF04
set_option linter.unusedVariables false
set_option linter.unusedSimpArgs false
set_option linter.constructorNameAsVariable false
set_option maxHeartbeats 4000000
set_option maxRecDepth 20000
namespace Go.Proofs.YthldpejmofhaoaaGreatDoor
open Go.Abs
section
variable {β:Type} [Inhabited β] (u:β→List RV) (al:Bool)
abbrev qF33 (β:Type):=Int→Int→Int→β
def qw33 (a0 a1 a2:Int):List Arg:=[.agg [.int .i64 a0,.int .i64 a1,.int .i64 a2]]
def qd33 (a:List Arg):=(dInt (aCell a 0 0),dInt (aCell a 0 1),dInt (aCell a 0 2))
def qp33 {β:Type} (f:qF33 β) (c0 c1 c2:D):=f (dInt c0) (dInt c1) (dInt c2)
abbrev qt33 (c0 c1 c2:D):List Arg:=[.agg [c0,c1,c2]]
def qT33 (r:qF33 (Option β)):=mkT (u3 qw33) qd33 (u3 r) u al
theorem qP33 (r:qF33 (Option β)) (c0 c1 c2:D):PT (qT33 u al r).sp u (qt33 c0 c1 c2) (qp33 qw33 c0 c1 c2) (qp33 r c0 c1 c2):=⟨rfl,rfl⟩
theorem qa33 (r:qF33 (Option β)):(qT33 u al r).sp.alias=al:=rfl
attribute [go_sem] qw33 qp33 qt33 qP33 qa33
abbrev qF34 (β:Type):=Int→Int→Int→L_I→β
def qw34 (a0 a1 a2:Int) (a3:L_I):List Arg:=[.agg [.int .i64 a0,.int .i64 a1,.int .i64 a2],.c (encF 1 d_I a3)]
def qd34 (a:List Arg):=(dInt (aCell a 0 0),dInt (aCell a 0 1),dInt (aCell a 0 2),decF g_I (aCell a 1 0))
def qp34 {β:Type} (f:qF34 β) (c0 c1 c2 c3:D):=f (dInt c0) (dInt c1) (dInt c2) (decF g_I c3)
abbrev qt34 (c0 c1 c2 c3:D):List Arg:=[.agg [c0,c1,c2],.c c3]
def qT34 (r:qF34 (Option β)):=mkT (u4 qw34) qd34 (u4 r) u al
theorem qP34 (r:qF34 (Option β)) (c0 c1 c2 c3:D):PT (qT34 u al r).sp u (qt34 c0 c1 c2 c3) (qp34 qw34 c0 c1 c2 c3) (qp34 r c0 c1 c2 c3):=⟨rfl,rfl⟩
theorem qa34 (r:qF34 (Option β)):(qT34 u al r).sp.alias=al:=rfl
attribute [go_sem] qw34 qp34 qt34 qP34 qa34
abbrev qF35 (β:Type):=Int→Int→Int→Int→β
def qw35 (a0 a1 a2 a3:Int):List Arg:=[.c (.int .i64 a0),.ptr [.int .i64 a1,.int .i64 a2,.int .i64 a3]]
def qd35 (a:List Arg):=(dInt (aCell a 0 0),dInt (aCell a 1 0),dInt (aCell a 1 1),dInt (aCell a 1 2))
def qp35 {β:Type} (f:qF35 β) (c0 c1 c2 c3:D):=f (dInt c0) (dInt c1) (dInt c2) (dInt c3)
abbrev qt35 (c0 c1 c2 c3:D):List Arg:=[.c c0,.ptr [c1,c2,c3]]
def qT35 (r:qF35 (Option β)):=mkT (u4 qw35) qd35 (u4 r) u al
theorem qP35 (r:qF35 (Option β)) (c0 c1 c2 c3:D):PT (qT35 u al r).sp u (qt35 c0 c1 c2 c3) (qp35 qw35 c0 c1 c2 c3) (qp35 r c0 c1 c2 c3):=⟨rfl,rfl⟩
theorem qa35 (r:qF35 (Option β)):(qT35 u al r).sp.alias=al:=rfl
attribute [go_sem] qw35 qp35 qt35 qP35 qa35
abbrev qF36 (β:Type):=L_I→Int→Int→Int→β
def qw36 (a0:L_I) (a1 a2 a3:Int):List Arg:=[.c (encF 1 d_I a0),.clo 218 [[.int .i64 a1,.int .i64 a2,.int .i64 a3]]]
def qd36 (a:List Arg):=(decF g_I (aCell a 0 0),dInt (aCell a 1 0),dInt (aCell a 1 1),dInt (aCell a 1 2))
def qp36 {β:Type} (f:qF36 β) (c0 c1 c2 c3:D):=f (decF g_I c0) (dInt c1) (dInt c2) (dInt c3)
abbrev qt36 (c0 c1 c2 c3:D):List Arg:=[.c c0,.clo 218 [[c1,c2,c3]]]
def qT36 (r:qF36 (Option β)):=mkT (u4 qw36) qd36 (u4 r) u al
theorem qP36 (r:qF36 (Option β)) (c0 c1 c2 c3:D):PT (qT36 u al r).sp u (qt36 c0 c1 c2 c3) (qp36 qw36 c0 c1 c2 c3) (qp36 r c0 c1 c2 c3):=⟨rfl,rfl⟩
theorem qa36 (r:qF36 (Option β)):(qT36 u al r).sp.alias=al:=rfl
attribute [go_sem] qw36 qp36 qt36 qP36 qa36
abbrev qF37 (β:Type):=Int→Int→Int→L_II→β
def qw37 (a0 a1 a2:Int) (a3:L_II):List Arg:=[.agg [.int .i64 a0,.int .i64 a1,.int .i64 a2],.c (encF 2 d_II a3)]
def qd37 (a:List Arg):=(dInt (aCell a 0 0),dInt (aCell a 0 1),dInt (aCell a 0 2),decF g_II (aCell a 1 0))
def qp37 {β:Type} (f:qF37 β) (c0 c1 c2 c3:D):=f (dInt c0) (dInt c1) (dInt c2) (decF g_II c3)
abbrev qt37 (c0 c1 c2 c3:D):List Arg:=[.agg [c0,c1,c2],.c c3]
def qT37 (r:qF37 (Option β)):=mkT (u4 qw37) qd37 (u4 r) u al
theorem qP37 (r:qF37 (Option β)) (c0 c1 c2 c3:D):PT (qT37 u al r).sp u (qt37 c0 c1 c2 c3) (qp37 qw37 c0 c1 c2 c3) (qp37 r c0 c1 c2 c3):=⟨rfl,rfl⟩
theorem qa37 (r:qF37 (Option β)):(qT37 u al r).sp.alias=al:=rfl
attribute [go_sem] qw37 qp37 qt37 qP37 qa37
def qu19 (v:Int×Int×Int):List RV:=[.agg [.d (.int .i64 v.1),.d (.int .i64 v.2.1),.d (.int .i64 v.2.2)]]
attribute [go_sem] qu19
end
def r63:Option (Int×Int×Int):=
 some (100,50,200)
def T63:=qT0 qu19 false r63
attribute [go_sem] T63
def tb63:Fns:=lk []
theorem tb63_ok:FnsOk Tryz.prog tb63:=FnsOk.nil
section
attribute [local go_sem] Tryz.results63
theorem f63:FnFact Tryz.prog 63 T63.sp:=by
 refine valid_m ty_ok tb63_ok Tryz.func63 rfl Tryz.ntmps63 fun _ r hr=>⟨nL rfl,fun stop S=> ?_⟩
 replace hr:r63=some r:=hr
 unfold r63 at hr
 refine S.gx [] ?_
 exact D0 hr
end
def r216 (a0:Int):Option (Bool):=
 (r79 a0 0 1000000).bind fun v1=>
  some v1
def T216:=qT4 qu2 false r216
attribute [go_sem] T216
def tb216:Fns:=lk [(79,T79.sp)]
theorem tb216_ok:FnsOk Tryz.prog tb216:= .cons f79 .nil
theorem tk216:tb216 79=some T79.sp:=rfl
section
attribute [local go_sem] tk216 Tryz.results216
theorem f216:FnFact Tryz.prog 216 T216.sp:=by
 refine valid_m ty_ok tb216_ok Tryz.func216 rfl Tryz.ntmps216 fun a0 r hr=>⟨nL rfl,fun stop S=> ?_⟩
 replace hr:r216 a0=some r:=hr
 unfold r216 at hr
 refine S.gx [] ?_
 exact D0 hr
end
def r150 (x2 x0 x1:Int):Option (Int):=
 (r216 x2).bind fun v1=>
  if v1=true→(r216 x0).isSome=true then
   if (v1 && ((r216 x0).getD default))=true→(r216 x1).isSome=true then
    (r83 ((v1 && ((r216 x0).getD default)) && ((r216 x1).getD default)) 2).bind fun v2=>
     (r83 (decide (x2<x1)) 9).bind fun v3=>
      (r80 [v2,v3]).bind fun v4=>
       some v4
    else none
   else none
def T150:=qT33 qu3 false r150
attribute [go_sem] T150
def tb150:Fns:=lk [(80,T80.sp),(83,T83.sp),(216,T216.sp)]
theorem tb150_ok:FnsOk Tryz.prog tb150:= .cons f80 (.cons f83 (.cons f216 .nil))
theorem tk150:tb150 80=some T80.sp∧tb150 83=some T83.sp∧tb150 216=some T216.sp:=⟨rfl,rfl,rfl⟩
section
attribute [local go_sem] tk150 Tryz.results150
theorem f150:FnFact Tryz.prog 150 T150.sp:=by
 refine valid_m ty_ok tb150_ok Tryz.func150 rfl Tryz.ntmps150 fun ⟨x2,x0,x1⟩ r hr=>⟨nL rfl,fun stop S=> ?_⟩
 replace hr:r150 x2 x0 x1=some r:=hr
 unfold r150 at hr
 refine S.gx [] ?_
 obtain ⟨v1,hv1,hr⟩:=of_bind0 hr
 obtain ⟨hg5,hr⟩:=of_guard0 hr
 obtain ⟨hg6,hr⟩:=of_guard0 hr
 obtain ⟨v2,hv2,hr⟩:=of_bind0 hr
 obtain ⟨v3,hv3,hr⟩:=of_bind0 hr
 obtain ⟨v4,hv4,hr⟩:=of_bind0 hr
 try simp only [hv1,hv2,hv3,hv4,Option.getD_some,Option.isSome_some,true_and,and_assoc]
 repeat (first | refine gG hg5 ?_ | refine gG hg6 ?_ | refine gA ?_ | refine gB ?_)
 exact D0 hr
end
def r151 (a0:Int):Option (Bool):=
 (r79 a0 0 1000).bind fun v1=>
  some v1
def T151:=qT4 qu2 false r151
attribute [go_sem] T151
def tb151:Fns:=lk [(79,T79.sp)]
theorem tb151_ok:FnsOk Tryz.prog tb151:= .cons f79 .nil
theorem tk151:tb151 79=some T79.sp:=rfl
section
attribute [local go_sem] tk151 Tryz.results151
theorem f151:FnFact Tryz.prog 151 T151.sp:=by
 refine valid_m ty_ok tb151_ok Tryz.func151 rfl Tryz.ntmps151 fun a0 r hr=>⟨nL rfl,fun stop S=> ?_⟩
 replace hr:r151 a0=some r:=hr
 unfold r151 at hr
 refine S.gx [] ?_
 exact D0 hr
end
def b217_1 (x0:Int) (a1:L_I):Bd ((List (Int))×Int×Int) L_I:=fun s1=>
 if (decide (s1.2.2<(a1.length:Int)))=true then
  if 0≤s1.2.2∧s1.2.2<(a1.length:Int) then
   if (s1.1.length+1)*8≤140737488355328∧s1.1.length+1≤9223372036854775807 then
    .next (s1.1++[IntKind.i64.wrap (s1.2.1+(IntKind.i64.wrap (x0 - (IntKind.i64.wrap ((IntKind.i64.wrap (s1.2.1*(a1.getD s1.2.2.toNat default))).tdiv 1000)))))],IntKind.i64.wrap (s1.2.1+(IntKind.i64.wrap (x0 - (IntKind.i64.wrap ((IntKind.i64.wrap (s1.2.1*(a1.getD s1.2.2.toNat default))).tdiv 1000))))),IntKind.i64.wrap (s1.2.2+1))
    else .out none
   else .out none
  else .out (some s1.1)
def r217 (x1 x0 x2:Int) (a1:L_I):Option (L_I):=
 iterC (b217_1 x0 a1) 1000000000 ([],x1,0)
def T217:=qT34 qu11 false r217
attribute [go_sem] T217
def tb217:Fns:=lk []
theorem tb217_ok:FnsOk Tryz.prog tb217:=FnsOk.nil
section
attribute [local go_sem] Tryz.results217
theorem f217:FnFact Tryz.prog 217 T217.sp:=by
 refine valid_m ty_ok tb217_ok Tryz.func217 rfl Tryz.ntmps217 fun ⟨x1,x0,x2,a1⟩ r hr=>⟨nL rfl,fun stop S=> ?_⟩
 replace hr:r217 x1 x0 x2 a1=some r:=hr
 unfold r217 at hr
 refine S.gx [] ?_
 refine gr ?_
 refine S.own0 5 1000500 1 rfl rfl ?_
 refine S.sees [2,5,6,11,12,13] [(2,2)] [(1000500,1000500)] ?_ (Stop.iter S (fun s1=>⟨[(2,.c (.ref 2 0)),(5,.c (.own 1000500)),(6,.c (.d (.int .i64 s1.2.1))),(11,.c (.d (encF 1 d_I a1))),(12,.c (.d (.int .i64 (a1.length:Int)))),(13,.c (.d (.int .i64 s1.2.2)))],[(2,[.d (.int .i64 x1),.d (.int .i64 x0),.d (.int .i64 x2)])],[(1000500,.owned (encF 1 d_I s1.1))]⟩) (b217_1 x0 a1) (fun q=>q=r) hr rfl ?_)
 ·exact lf
 ·intro s1 hr
  unfold b217_1 at hr
  refine S.gx [] ?_
  exact D1 (S.ss [2,5,6,11,12,13] [(2,2)] [(29,1000500)]) hr
end
def r218 (a0 x1 x2 x0:Int):Option (Bool):=
 some (decide (a0≥x0))
def T218:=qT35 qu2 false r218
attribute [go_sem] T218
def tb218:Fns:=lk []
theorem tb218_ok:FnsOk Tryz.prog tb218:=FnsOk.nil
section
attribute [local go_sem] Tryz.results218
theorem f218:FnFact Tryz.prog 218 T218.sp:=by
 refine valid_m ty_ok tb218_ok Tryz.func218 rfl Tryz.ntmps218 fun ⟨a0,x1,x2,x0⟩ r hr=>⟨nL rfl,fun stop S=> ?_⟩
 replace hr:r218 a0 x1 x2 x0=some r:=hr
 unfold r218 at hr
 refine S.gx [] ?_
 exact D0 hr
end
def b170c_1 (a0:L_I) (x0 x1 x2:Int):Bd Int Int:=fun s1=>
 if (decide (s1<(a0.length:Int)))=true then
  if 0≤s1∧s1<(a0.length:Int) then
   bindC (r218 (a0.getD s1.toNat default) x0 x1 x2) fun v1=>
    if v1=true then
     .out (some s1)
     else .next (IntKind.i64.wrap (s1+1))
   else .out none
  else .out (some (-1))
def r170c (a0:L_I) (x0 x1 x2:Int):Option (Int):=
 iterC (b170c_1 a0 x0 x1 x2) 1000000000 0
def T170c:=qT36 qu3 false r170c
attribute [go_sem] T170c
def tb170c:Fns:=lk [(218,T218.sp)]
theorem tb170c_ok:FnsOk Tryz.prog tb170c:= .cons f218 .nil
theorem tk170c:tb170c 218=some T218.sp:=rfl
section
attribute [local go_sem] tk170c Tryz.results170
theorem f170c:FnFact Tryz.prog 170 T170c.sp:=by
 refine valid_m ty_ok tb170c_ok Tryz.func170 rfl Tryz.ntmps170 fun ⟨a0,x0,x1,x2⟩ r hr=>⟨nL rfl,fun stop S=> ?_⟩
 replace hr:r170c a0 x0 x1 x2=some r:=hr
 unfold r170c at hr
 refine S.gx [] ?_
 refine gr ?_
 refine S.sees [0,1,7,8] [] [] ?_ (Stop.iter S (fun s1=>⟨[(0,.c (.d (encF 1 d_I a0))),(1,.c (.clo 218 [.sptr [.int .i64 x0,.int .i64 x1,.int .i64 x2] 0])),(7,.c (.d (.int .i64 (a0.length:Int)))),(8,.c (.d (.int .i64 s1)))],[],[]⟩) (b170c_1 a0 x0 x1 x2) (fun q=>q=r) hr rfl ?_)
 ·exact lf
 ·intro s1 hr
  unfold b170c_1 at hr
  refine S.gx [] ?_
  exact D1 (S.ss [0,1,7,8] [] []) hr
end
def r152 (x0 x1 x2:Int) (a1:L_I):Option (Int):=
 (r217 x0 x1 x2 a1).bind fun v1=>
  (r170c v1 x0 x1 x2).bind fun v2=>
   if (decide (v2<0))=true then
    some (IntKind.i64.wrap ((a1.length:Int)+1))
    else some (IntKind.i64.wrap (v2+1))
def T152:=qT34 qu3 false r152
attribute [go_sem] T152
def tb152:Fns:=lk [(170,T170c.sp),(217,T217.sp)]
theorem tb152_ok:FnsOk Tryz.prog tb152:= .cons f170c (.cons f217 .nil)
theorem tk152:tb152 170=some T170c.sp∧tb152 217=some T217.sp:=⟨rfl,rfl⟩
section
attribute [local go_sem] tk152 Tryz.results152
theorem f152:FnFact Tryz.prog 152 T152.sp:=by
 refine valid_m ty_ok tb152_ok Tryz.func152 rfl Tryz.ntmps152 fun ⟨x0,x1,x2,a1⟩ r hr=>⟨nL rfl,fun stop S=> ?_⟩
 replace hr:r152 x0 x1 x2 a1=some r:=hr
 unfold r152 at hr
 refine S.gx [] ?_
 exact D0 hr
end
def b62_1 (x0 x1 x2:Int) (a1:L_II):Bd (Int×(List (Int))×(List (Int))×Int) (Int×Int×Int):=fun s1=>
 if (decide (s1.2.2.2<(a1.length:Int)))=true then
  if 0≤s1.2.2.2∧s1.2.2.2<(a1.length:Int) then
   bindC (r151 ((a1.getD s1.2.2.2.toNat default).1)) fun v4=>
    if v4=true→(r151 ((a1.getD s1.2.2.2.toNat default).2)).isSome=true then
     bindC (r83 (v4 && ((r151 ((a1.getD s1.2.2.2.toNat default).2)).getD default)) 2) fun v5=>
      bindC (r83 (decide (((a1.getD s1.2.2.2.toNat default).1)≤((a1.getD s1.2.2.2.toNat default).2))) 9) fun v6=>
       bindC (r80 [s1.1,v5,v6]) fun v7=>
        if (s1.2.1.length+1)*8≤140737488355328∧s1.2.1.length+1≤9223372036854775807 then
         if (s1.2.2.1.length+1)*8≤140737488355328∧s1.2.2.1.length+1≤9223372036854775807 then
          .next (v7,s1.2.1++[(a1.getD s1.2.2.2.toNat default).1],s1.2.2.1++[(a1.getD s1.2.2.2.toNat default).2],IntKind.i64.wrap (s1.2.2.2+1))
          else .out none
         else .out none
     else .out none
   else .out none
  else .out (if (s1.1 != 0)=true then
   some (0,0,s1.1)
   else (r152 x0 x1 x2 s1.2.1).bind fun v12=>
    (r152 x0 x1 x2 s1.2.2.1).bind fun v13=>
     if (decide (v12>(a1.length:Int)))=true then
      some (0,0,12)
      else some (v12,v13,0))
def r62 (x0 x1 x2:Int) (a1:L_II):Option (Int×Int×Int):=
 (r150 x0 x1 x2).bind fun v1=>
  (r83 (decide ((a1.length:Int)≤200)) 8).bind fun v2=>
   (r80 [v1,v2]).bind fun v3=>
    iterC (b62_1 x0 x1 x2 a1) 1000000000 (v3,[],[],0)
def T62:=qT37 qu20 false r62
attribute [go_sem] T62
def tb62:Fns:=lk [(80,T80.sp),(83,T83.sp),(150,T150.sp),(151,T151.sp),(152,T152.sp)]
theorem tb62_ok:FnsOk Tryz.prog tb62:= .cons f80 (.cons f83 (.cons f150 (.cons f151 (.cons f152 .nil))))
theorem tk62:tb62 80=some T80.sp∧tb62 83=some T83.sp∧tb62 150=some T150.sp∧tb62 151=some T151.sp∧tb62 152=some T152.sp:=⟨rfl,rfl,rfl,rfl,rfl⟩
section
attribute [local go_sem] tk62 Tryz.results62
theorem f62:FnFact Tryz.prog 62 T62.sp:=by
 refine valid_m ty_ok tb62_ok Tryz.func62 rfl Tryz.ntmps62 fun ⟨x0,x1,x2,a1⟩ r hr=>⟨nL rfl,fun stop S=> ?_⟩
 replace hr:r62 x0 x1 x2 a1=some r:=hr
 unfold r62 at hr
 refine S.gx [8] ?_
 obtain ⟨v1,hv1,hr⟩:=of_bind0 hr
 obtain ⟨v2,hv2,hr⟩:=of_bind0 hr
 obtain ⟨v3,hv3,hr⟩:=of_bind0 hr
 refine gb hv1 ?_
 refine gb hv2 ?_
 refine gb hv3 ?_
 refine S.own0 7 1000700 1 rfl rfl ?_
 refine S.own0 8 1000800 1 rfl rfl ?_
 refine S.sees [1,2,4,6,7,8,20,21,22] [(2,2),(4,4)] [(1000700,1000700),(1000800,1000800)] ?_ (Stop.iter S (fun s1=>⟨[(1,.c (.d (encF 2 d_II a1))),(2,.c (.ref 2 0)),(4,.c (.ref 4 0)),(6,.c (.d (.int .i64 s1.1))),(7,.c (.own 1000700)),(8,.c (.own 1000800)),(20,.c (.d (encF 2 d_II a1))),(21,.c (.d (.int .i64 (a1.length:Int)))),(22,.c (.d (.int .i64 s1.2.2.2)))],[(2,[.d (.int .i64 x0),.d (.int .i64 x1),.d (.int .i64 x2)]),(4,[.d (.int .i64 0),.d (.int .i64 0)])],[(1000700,.owned (encF 1 d_I s1.2.1)),(1000800,.owned (encF 1 d_I s1.2.2.1))]⟩) (b62_1 x0 x1 x2 a1) (fun q=>q=r) hr rfl ?_)
 ·exact lf
 ·intro s1 hr
  unfold b62_1 at hr
  refine S.gx [8] ?_
  refine gr ?_
  refine iW1 hr (fun hc hr=> ?_) fun hc hr=>D0 hr
  obtain ⟨hg8,hr⟩:=of_guard1 hr
  obtain ⟨v4,hv4,hr⟩:=of_bind1 hr
  obtain ⟨hg9,hr⟩:=of_guard1 hr
  obtain ⟨v5,hv5,hr⟩:=of_bind1 hr
  obtain ⟨v6,hv6,hr⟩:=of_bind1 hr
  obtain ⟨v7,hv7,hr⟩:=of_bind1 hr
  obtain ⟨hg10,hr⟩:=of_guard1 hr
  obtain ⟨hg11,hr⟩:=of_guard1 hr
  try simp only [hv4,hv5,hv6,hv7,Option.getD_some,Option.isSome_some,true_and,and_assoc]
  repeat (first | refine gG hg9 ?_ | refine gA ?_ | refine gB ?_)
  refine S.prune [1,2,4,6,7,8,20,21,22] ?_
  refine S.gx [] ?_
  exact D1 (S.ss [1,2,4,6,7,8,20,21,22] [(2,2),(4,4)] [(48,1000700),(53,1000800)]) hr
end
def r6:Option (Bool):=
 (r61).bind fun v1=>
  (r38 v1.1 v1.2.1 v1.2.2.1 v1.2.2.2 [1000,200,0] [10,0,0] 1).bind fun v2=>
   (r63).bind fun v3=>
    (r62 v3.1 v3.2.1 v3.2.2 [(100,500),(100,500),(100,500),(100,500)]).bind fun v4=>
     if (v2.2 == 0)=true→(r64 v2.1 [650,300,100]).isSome=true then
      some ((((v2.2 == 0) && ((r64 v2.1 [650,300,100]).getD default)) && (v4.2.2 == 0)) && ((v4.1 == 3) && (v4.2.1 == 5)))
      else none
def T6:=qT0 qu2 false r6
attribute [go_sem] T6
def tb6:Fns:=lk [(38,T38.sp),(61,T61.sp),(62,T62.sp),(63,T63.sp),(64,T64.sp)]
theorem tb6_ok:FnsOk Tryz.prog tb6:= .cons f38 (.cons f61 (.cons f62 (.cons f63 (.cons f64 .nil))))
theorem tk6:tb6 38=some T38.sp∧tb6 61=some T61.sp∧tb6 62=some T62.sp∧tb6 63=some T63.sp∧tb6 64=some T64.sp:=⟨rfl,rfl,rfl,rfl,rfl⟩
section
attribute [local go_sem] tk6 Tryz.results6
theorem f6:FnFact Tryz.prog 6 T6.sp:=by
 refine valid_m ty_ok tb6_ok Tryz.func6 rfl Tryz.ntmps6 fun _ r hr=>⟨nL rfl,fun stop S=> ?_⟩
 replace hr:r6=some r:=hr
 unfold r6 at hr
 refine S.gx [] ?_
 obtain ⟨v1,hv1,hr⟩:=of_bind0 hr
 obtain ⟨v2,hv2,hr⟩:=of_bind0 hr
 obtain ⟨v3,hv3,hr⟩:=of_bind0 hr
 obtain ⟨v4,hv4,hr⟩:=of_bind0 hr
 obtain ⟨hg5,hr⟩:=of_guard0 hr
 try simp only [hv1,hv2,hv3,hv4,Option.getD_some,Option.isSome_some,true_and,and_assoc]
 repeat (first | refine gG hg5 ?_ | refine gA ?_ | refine gB ?_)
 exact D0 hr
end
def b7_1 (x0:L_LIIE):Bd Int Bool:=fun s1=>
 if (decide (s1<(x0.length:Int)))=true then
  if 0≤s1∧s1<(x0.length:Int) then
   if (decide (((x0.getD s1.toNat default).length:Int)>8))=true then
    .out (some false)
    else .next (IntKind.i64.wrap (s1+1))
   else .out none
  else .out (some true)
def r7 (x2 x3:Int) (x1:L_II) (x0:L_LIIE):Option (Bool):=
 if ((decide ((x1.length:Int)>10)) || (decide ((x0.length:Int)>6)))=true then
  some false
  else iterC (b7_1 x0) 1000000000 0
def T7:=qT21 qu2 false r7
attribute [go_sem] T7
def tb7:Fns:=lk []
theorem tb7_ok:FnsOk Tryz.prog tb7:=FnsOk.nil
section
attribute [local go_sem] Tryz.results7
theorem f7:FnFact Tryz.prog 7 T7.sp:=by
 refine valid_m ty_ok tb7_ok Tryz.func7 rfl Tryz.ntmps7 fun ⟨x2,x3,x1,x0⟩ r hr=>⟨nL rfl,fun stop S=> ?_⟩
 replace hr:r7 x2 x3 x1 x0=some r:=hr
 unfold r7 at hr
 refine S.gx [] ?_
 repeat (first | refine gA ?_ | refine gB ?_)
 refine iW hr (fun hc hr=>D0 hr) fun hc hr=> ?_
 refine gr ?_
 refine S.sees [1,3] [(1,1)] [] ?_ (Stop.iter S (fun s1=>⟨[(1,.c (.ref 1 0)),(3,.c (.d (.int .i64 s1)))],[(1,[.d (.int .i64 x2),.d (.int .i64 x3),.d (encF 2 d_II x1),.d (encF 1 d_LIIE x0)])],[]⟩) (b7_1 x0) (fun q=>q=r) hr rfl ?_)
 ·exact lf
 ·intro s1 hr
  unfold b7_1 at hr
  refine S.gx [] ?_
  exact D1 (S.ss [1,3] [(1,1)] []) hr
end
def r11 (a0 a1 a2:Int):Option (Bool):=
 some ((decide (a1≤a0)) && (decide (a0≤a2)))
def T11:=qT1 qu2 false r11
attribute [go_sem] T11
def tb11:Fns:=lk []
theorem tb11_ok:FnsOk Tryz.prog tb11:=FnsOk.nil
section
attribute [local go_sem] Tryz.results11
theorem f11:FnFact Tryz.prog 11 T11.sp:=by
 refine valid_m ty_ok tb11_ok Tryz.func11 rfl Tryz.ntmps11 fun ⟨a0,a1,a2⟩ r hr=>⟨nL rfl,fun stop S=> ?_⟩
 replace hr:r11 a0 a1 a2=some r:=hr
 unfold r11 at hr
 refine S.gx [] ?_
 repeat (first | refine gA ?_ | refine gB ?_)
 exact D0 hr
end
def b186_1 (x0:L_III):Bd Int (Int×Int):=fun s1=>
 if (decide (s1<(x0.length:Int)))=true then
  if 0≤s1∧s1<(x0.length:Int) then
   bindC (r11 ((x0.getD s1.toNat default).1) 1 4) fun v2=>
    if (!(!v2))=true→(r11 ((x0.getD s1.toNat default).2.1) 1 4).isSome=true then
     if (!((!v2) || (!((r11 ((x0.getD s1.toNat default).2.1) 1 4).getD default))))=true→(r11 ((x0.getD s1.toNat default).2.2) 1 4).isSome=true then
      if (((!v2) || (!((r11 ((x0.getD s1.toNat default).2.1) 1 4).getD default))) || (!((r11 ((x0.getD s1.toNat default).2.2) 1 4).getD default)))=true then
       .out (some (s1,2))
       else if (decide (((x0.getD s1.toNat default).2.2)>((x0.getD s1.toNat default).2.1)))=true then
        .out (some (s1,9))
        else .next (IntKind.i64.wrap (s1+1))
      else .out none
     else .out none
   else .out none
  else .out (some (0,0))
def r186 (x1:Int) (x0:L_III):Option (Int×Int):=
 (r11 x1 1 20).bind fun v1=>
  if (!v1)=true then
   some (0,2)
   else if ((x0.length:Int) == 0)=true then
    some (0,10)
    else if (decide ((x0.length:Int)>4))=true then
     some (0,8)
     else iterC (b186_1 x0) 1000000000 0
def T186:=qT5 qu4 false r186
attribute [go_sem] T186
def tb186:Fns:=lk [(11,T11.sp)]
theorem tb186_ok:FnsOk Tryz.prog tb186:= .cons f11 .nil
theorem tk186:tb186 11=some T11.sp:=rfl
section
attribute [local go_sem] tk186 Tryz.results186
theorem f186:FnFact Tryz.prog 186 T186.sp:=by
 refine valid_m ty_ok tb186_ok Tryz.func186 rfl Tryz.ntmps186 fun ⟨x1,x0⟩ r hr=>⟨nL rfl,fun stop S=> ?_⟩
 replace hr:r186 x1 x0=some r:=hr
 unfold r186 at hr
 refine S.gx [9,14] ?_
 obtain ⟨v1,hv1,hr⟩:=of_bind0 hr
 refine gb hv1 ?_
 refine iW hr (fun hc hr=>D0 hr) fun hc hr=> ?_
 refine gr ?_
 refine iW hr (fun hc hr=>D0 hr) fun hc hr=> ?_
 refine gr ?_
 refine iW hr (fun hc hr=>D0 hr) fun hc hr=> ?_
 refine gr ?_
 refine S.sees [1,4] [(1,1)] [] ?_ (Stop.iter S (fun s1=>⟨[(1,.c (.ref 1 0)),(4,.c (.d (.int .i64 s1)))],[(1,[.d (.int .i64 x1),.d (encF 3 d_III x0)])],[]⟩) (b186_1 x0) (fun q=>q=r) hr rfl ?_)
 ·exact lf
 ·intro s1 hr
  unfold b186_1 at hr
  refine S.gx [9,14] ?_
  refine gr ?_
  refine iW1 hr (fun hc hr=> ?_) fun hc hr=>D0 hr
  obtain ⟨hg3,hr⟩:=of_guard1 hr
  obtain ⟨v2,hv2,hr⟩:=of_bind1 hr
  obtain ⟨hg4,hr⟩:=of_guard1 hr
  obtain ⟨hg5,hr⟩:=of_guard1 hr
  try simp only [hv2,oG,oI,true_and,and_assoc]
  repeat (first | refine gG hg4 ?_ | refine gG hg5 ?_ | refine gA ?_ | refine gB ?_)
  refine iW1 hr (fun hc hr=>D0 hr) fun hc hr=> ?_
  refine gr ?_
  refine iW1 hr (fun hc hr=> ?_) fun hc hr=> ?_
  ·refine gr ?_
   refine S.prune [4] ?_
   refine S.gx [9] ?_
   exact D0 hr
  ·refine gr ?_
   refine S.prune [1,4] ?_
   refine S.gx [14] ?_
   exact D1 (S.ss [1,4] [(1,1)] []) hr
end
def b95_1 (x0:L_II):Bd Int (Int×Int):=fun s1=>
 if (decide (s1<(x0.length:Int)))=true then
  if 0≤s1∧s1<(x0.length:Int) then
   bindC (r11 ((x0.getD s1.toNat default).1) 1 4) fun v2=>
    if (!(!v2))=true→0≤s1∧s1<(x0.length:Int) then
     if (!(!v2))=true→(r11 ((x0.getD s1.toNat default).2) 1 4).isSome=true then
      if ((!v2) || (!((r11 ((x0.getD s1.toNat default).2) 1 4).getD default)))=true then
       .out (some (s1,2))
       else if 0≤s1∧s1<(x0.length:Int) then
        if 0≤s1∧s1<(x0.length:Int) then
         if (decide (((x0.getD s1.toNat default).1)>((x0.getD s1.toNat default).2)))=true then
          .out (some (s1,9))
          else .next (IntKind.i64.wrap (s1+1))
         else .out none
        else .out none
      else .out none
     else .out none
   else .out none
  else .out (some (0,0))
def r95 (x2:Int) (x1:L_III) (x0:L_II):Option (Int×Int):=
 (r186 x2 x1).bind fun v1=>
  if (v1.2 != 0)=true then
   some (v1.1,v1.2)
   else if ((x0.length:Int) != (x1.length:Int))=true then
    some (0,10)
    else iterC (b95_1 x0) 1000000000 0
def T95:=qT38 qu4 false r95
attribute [go_sem] T95
def tb95:Fns:=lk [(11,T11.sp),(186,T186.sp)]
theorem tb95_ok:FnsOk Tryz.prog tb95:= .cons f11 (.cons f186 .nil)
theorem tk95:tb95 11=some T11.sp∧tb95 186=some T186.sp:=⟨rfl,rfl⟩
section
attribute [local go_sem] tk95 Tryz.results95
theorem f95:FnFact Tryz.prog 95 T95.sp:=by
 refine valid_m ty_ok tb95_ok Tryz.func95 rfl Tryz.ntmps95 fun ⟨x2,x1,x0⟩ r hr=>⟨nL rfl,fun stop S=> ?_⟩
 replace hr:r95 x2 x1 x0=some r:=hr
 unfold r95 at hr
 refine S.gx [8,12] ?_
 obtain ⟨v1,hv1,hr⟩:=of_bind0 hr
 refine gb hv1 ?_
 refine iW hr (fun hc hr=>D0 hr) fun hc hr=> ?_
 refine gr ?_
 refine iW hr (fun hc hr=>D0 hr) fun hc hr=> ?_
 refine gr ?_
 refine S.sees [1,6] [(1,1)] [] ?_ (Stop.iter S (fun s1=>⟨[(1,.c (.ref 1 0)),(6,.c (.d (.int .i64 s1)))],[(1,[.d (.int .i64 x2),.d (encF 3 d_III x1),.d (encF 2 d_II x0)])],[]⟩) (b95_1 x0) (fun q=>q=r) hr rfl ?_)
 ·exact lf
 ·intro s1 hr
  unfold b95_1 at hr
  refine S.gx [8,12] ?_
  refine gr ?_
  refine iW1 hr (fun hc hr=> ?_) fun hc hr=>D0 hr
  obtain ⟨hg5,hr⟩:=of_guard1 hr
  obtain ⟨v2,hv2,hr⟩:=of_bind1 hr
  obtain ⟨hg6,hr⟩:=of_guard1 hr
  obtain ⟨hg7,hr⟩:=of_guard1 hr
  try simp only [hv2,oG,oI,true_and,and_assoc]
  repeat (first | refine gG hg6 ?_ | refine gG hg7 ?_ | refine gA ?_ | refine gB ?_)
  refine iW1 hr (fun hc hr=>D0 hr) fun hc hr=> ?_
  obtain ⟨hg3,hr⟩:=of_guard1 hr
  obtain ⟨hg4,hr⟩:=of_guard1 hr
  refine gr ?_
  refine iW1 hr (fun hc hr=> ?_) fun hc hr=> ?_
  ·refine gr ?_
   refine S.prune [6] ?_
   refine S.gx [8] ?_
   exact D0 hr
  ·refine gr ?_
   refine S.prune [1,6] ?_
   refine S.gx [12] ?_
   exact D1 (S.ss [1,6] [(1,1)] []) hr
end
def r26 (x0:Int) (x1:L_III) (x2:L_II):Option (Int):=
 (r95 x0 x1 x2).bind fun v1=>
  some v1.2
def T26:=qT38 qu3 false r26
attribute [go_sem] T26
def tb26:Fns:=lk [(95,T95.sp)]
theorem tb26_ok:FnsOk Tryz.prog tb26:= .cons f95 .nil
theorem tk26:tb26 95=some T95.sp:=rfl
section
attribute [local go_sem] tk26 Tryz.results26
theorem f26:FnFact Tryz.prog 26 T26.sp:=by
 refine valid_m ty_ok tb26_ok Tryz.func26 rfl Tryz.ntmps26 fun ⟨x0,x1,x2⟩ r hr=>⟨nL rfl,fun stop S=> ?_⟩
 replace hr:r26 x0 x1 x2=some r:=hr
 unfold r26 at hr
 refine S.gx [] ?_
 exact D0 hr
end
def r154 (a0:Int):Option (Bool):=
 (r11 a0 200 3000).bind fun v1=>
  some v1
def T154:=qT4 qu2 false r154
attribute [go_sem] T154
def tb154:Fns:=lk [(11,T11.sp)]
theorem tb154_ok:FnsOk Tryz.prog tb154:= .cons f11 .nil
theorem tk154:tb154 11=some T11.sp:=rfl
section
attribute [local go_sem] tk154 Tryz.results154
theorem f154:FnFact Tryz.prog 154 T154.sp:=by
 refine valid_m ty_ok tb154_ok Tryz.func154 rfl Tryz.ntmps154 fun a0 r hr=>⟨nL rfl,fun stop S=> ?_⟩
 replace hr:r154 a0=some r:=hr
 unfold r154 at hr
 refine S.gx [] ?_
 exact D0 hr
end
end Go.Proofs.YthldpejmofhaoaaGreatDoor

/- Contracts of functions, written by wip/dec. -/
import Derived.Test.YthldpejmofhaoaaGreatDoorF00
import Derived.Test.YthldpejmofhaoaaGreatDoorF01
import Derived.Test.YthldpejmofhaoaaGreatDoorF02
import Derived.Test.YthldpejmofhaoaaGreatDoorF04
import Derived.Test.YthldpejmofhaoaaGreatDoorF05
import Derived.Test.YthldpejmofhaoaaGreatDoorF06
import Derived.Test.YthldpejmofhaoaaGreatDoorF07
set_option linter.unusedVariables false
set_option linter.unusedSimpArgs false
set_option linter.constructorNameAsVariable false
set_option maxHeartbeats 4000000
set_option maxRecDepth 20000
namespace Go.Proofs.YthldpejmofhaoaaGreatDoor
open Go.Abs
section
variable {β:Type} [Inhabited β] (u:β→List RV) (al:Bool)
abbrev qF51 (β:Type):=L_I→Int→β
def qw51 (a0:L_I) (a1:Int):List Arg:=[.agg [encF 1 d_I a0,.int .i64 a1]]
def qd51 (a:List Arg):=(decF g_I (aCell a 0 0),dInt (aCell a 0 1))
def qp51 {β:Type} (f:qF51 β) (c0 c1:D):=f (decF g_I c0) (dInt c1)
abbrev qt51 (c0 c1:D):List Arg:=[.agg [c0,c1]]
def qT51 (r:qF51 (Option β)):=mkT (u2 qw51) qd51 (u2 r) u al
theorem qP51 (r:qF51 (Option β)) (c0 c1:D):PT (qT51 u al r).sp u (qt51 c0 c1) (qp51 qw51 c0 c1) (qp51 r c0 c1):=⟨rfl,rfl⟩
theorem qa51 (r:qF51 (Option β)):(qT51 u al r).sp.alias=al:=rfl
attribute [go_sem] qw51 qp51 qt51 qP51 qa51
abbrev qF52 (β:Type):=L_LIEI→β
def qw52 (a0:L_LIEI):List Arg:=[.c (encF 2 d_LIEI a0)]
def qd52 (a:List Arg):=decF g_LIEI (aCell a 0 0)
def qp52 {β:Type} (f:qF52 β) (c0:D):=f (decF g_LIEI c0)
abbrev qt52 (c0:D):List Arg:=[.c c0]
def qT52 (r:qF52 (Option β)):=mkT (u1 qw52) qd52 (u1 r) u al
theorem qP52 (r:qF52 (Option β)) (c0:D):PT (qT52 u al r).sp u (qt52 c0) (qp52 qw52 c0) (qp52 r c0):=⟨rfl,rfl⟩
theorem qa52 (r:qF52 (Option β)):(qT52 u al r).sp.alias=al:=rfl
attribute [go_sem] qw52 qp52 qt52 qP52 qa52
abbrev qF53 (β:Type):=Int→Int→L_II→L_LIIE→L_II→L_LIIE→L_LIEI→β
def qw53 (a0 a1:Int) (a2:L_II) (a3:L_LIIE) (a4:L_II) (a5:L_LIIE) (a6:L_LIEI):List Arg:=[.agg [.int .i64 a0,.int .i64 a1,encF 2 d_II a2,encF 1 d_LIIE a3,encF 2 d_II a4,encF 1 d_LIIE a5],.c (encF 2 d_LIEI a6)]
def qd53 (a:List Arg):=(dInt (aCell a 0 0),dInt (aCell a 0 1),decF g_II (aCell a 0 2),decF g_LIIE (aCell a 0 3),decF g_II (aCell a 0 4),decF g_LIIE (aCell a 0 5),decF g_LIEI (aCell a 1 0))
def qp53 {β:Type} (f:qF53 β) (c0 c1 c2 c3 c4 c5 c6:D):=f (dInt c0) (dInt c1) (decF g_II c2) (decF g_LIIE c3) (decF g_II c4) (decF g_LIIE c5) (decF g_LIEI c6)
abbrev qt53 (c0 c1 c2 c3 c4 c5 c6:D):List Arg:=[.agg [c0,c1,c2,c3,c4,c5],.c c6]
def qT53 (r:qF53 (Option β)):=mkT (u7 qw53) qd53 (u7 r) u al
theorem qP53 (r:qF53 (Option β)) (c0 c1 c2 c3 c4 c5 c6:D):PT (qT53 u al r).sp u (qt53 c0 c1 c2 c3 c4 c5 c6) (qp53 qw53 c0 c1 c2 c3 c4 c5 c6) (qp53 r c0 c1 c2 c3 c4 c5 c6):=⟨rfl,rfl⟩
theorem qa53 (r:qF53 (Option β)):(qT53 u al r).sp.alias=al:=rfl
attribute [go_sem] qw53 qp53 qt53 qP53 qa53
abbrev qF54 (β:Type):=Int→Int→L_II→L_LIIE→L_I→L_LIEI→β
def qw54 (a0 a1:Int) (a2:L_II) (a3:L_LIIE) (a4:L_I) (a5:L_LIEI):List Arg:=[.agg [.int .i64 a0,.int .i64 a1,encF 2 d_II a2,encF 1 d_LIIE a3],.c (encF 1 d_I a4),.c (encF 2 d_LIEI a5)]
def qd54 (a:List Arg):=(dInt (aCell a 0 0),dInt (aCell a 0 1),decF g_II (aCell a 0 2),decF g_LIIE (aCell a 0 3),decF g_I (aCell a 1 0),decF g_LIEI (aCell a 2 0))
def qp54 {β:Type} (f:qF54 β) (c0 c1 c2 c3 c4 c5:D):=f (dInt c0) (dInt c1) (decF g_II c2) (decF g_LIIE c3) (decF g_I c4) (decF g_LIEI c5)
abbrev qt54 (c0 c1 c2 c3 c4 c5:D):List Arg:=[.agg [c0,c1,c2,c3],.c c4,.c c5]
def qT54 (r:qF54 (Option β)):=mkT (u6 qw54) qd54 (u6 r) u al
theorem qP54 (r:qF54 (Option β)) (c0 c1 c2 c3 c4 c5:D):PT (qT54 u al r).sp u (qt54 c0 c1 c2 c3 c4 c5) (qp54 qw54 c0 c1 c2 c3 c4 c5) (qp54 r c0 c1 c2 c3 c4 c5):=⟨rfl,rfl⟩
theorem qa54 (r:qF54 (Option β)):(qT54 u al r).sp.alias=al:=rfl
attribute [go_sem] qw54 qp54 qt54 qP54 qa54
abbrev qF55 (β:Type):=Int→L_B→β
def qw55 (a0:Int) (a1:L_B):List Arg:=[.agg [.int .i64 a0,encF 1 d_B a1]]
def qd55 (a:List Arg):=(dInt (aCell a 0 0),decF g_B (aCell a 0 1))
def qp55 {β:Type} (f:qF55 β) (c0 c1:D):=f (dInt c0) (decF g_B c1)
abbrev qt55 (c0 c1:D):List Arg:=[.agg [c0,c1]]
def qT55 (r:qF55 (Option β)):=mkT (u2 qw55) qd55 (u2 r) u al
theorem qP55 (r:qF55 (Option β)) (c0 c1:D):PT (qT55 u al r).sp u (qt55 c0 c1) (qp55 qw55 c0 c1) (qp55 r c0 c1):=⟨rfl,rfl⟩
theorem qa55 (r:qF55 (Option β)):(qT55 u al r).sp.alias=al:=rfl
attribute [go_sem] qw55 qp55 qt55 qP55 qa55
abbrev qF56 (β:Type):=Int→L_III→L_II→Int→L_B→Int→β
def qw56 (a0:Int) (a1:L_III) (a2:L_II) (a3:Int) (a4:L_B) (a5:Int):List Arg:=[.agg [.int .i64 a0,encF 3 d_III a1,encF 2 d_II a2],.agg [.int .i64 a3,encF 1 d_B a4],.c (.int .i64 a5)]
def qd56 (a:List Arg):=(dInt (aCell a 0 0),decF g_III (aCell a 0 1),decF g_II (aCell a 0 2),dInt (aCell a 1 0),decF g_B (aCell a 1 1),dInt (aCell a 2 0))
def qp56 {β:Type} (f:qF56 β) (c0 c1 c2 c3 c4 c5:D):=f (dInt c0) (decF g_III c1) (decF g_II c2) (dInt c3) (decF g_B c4) (dInt c5)
abbrev qt56 (c0 c1 c2 c3 c4 c5:D):List Arg:=[.agg [c0,c1,c2],.agg [c3,c4],.c c5]
def qT56 (r:qF56 (Option β)):=mkT (u6 qw56) qd56 (u6 r) u al
theorem qP56 (r:qF56 (Option β)) (c0 c1 c2 c3 c4 c5:D):PT (qT56 u al r).sp u (qt56 c0 c1 c2 c3 c4 c5) (qp56 qw56 c0 c1 c2 c3 c4 c5) (qp56 r c0 c1 c2 c3 c4 c5):=⟨rfl,rfl⟩
theorem qa56 (r:qF56 (Option β)):(qT56 u al r).sp.alias=al:=rfl
attribute [go_sem] qw56 qp56 qt56 qP56 qa56
abbrev qF57 (β:Type):=Int→Int→L_II→L_LIIE→L_II→Int→Int→β
def qw57 (a0 a1:Int) (a2:L_II) (a3:L_LIIE) (a4:L_II) (a5 a6:Int):List Arg:=[.agg [.int .i64 a0,.int .i64 a1,encF 2 d_II a2,encF 1 d_LIIE a3],.agg [encF 2 d_II a4,.int .i64 a5,.int .i64 a6]]
def qd57 (a:List Arg):=(dInt (aCell a 0 0),dInt (aCell a 0 1),decF g_II (aCell a 0 2),decF g_LIIE (aCell a 0 3),decF g_II (aCell a 1 0),dInt (aCell a 1 1),dInt (aCell a 1 2))
def qp57 {β:Type} (f:qF57 β) (c0 c1 c2 c3 c4 c5 c6:D):=f (dInt c0) (dInt c1) (decF g_II c2) (decF g_LIIE c3) (decF g_II c4) (dInt c5) (dInt c6)
abbrev qt57 (c0 c1 c2 c3 c4 c5 c6:D):List Arg:=[.agg [c0,c1,c2,c3],.agg [c4,c5,c6]]
def qT57 (r:qF57 (Option β)):=mkT (u7 qw57) qd57 (u7 r) u al
theorem qP57 (r:qF57 (Option β)) (c0 c1 c2 c3 c4 c5 c6:D):PT (qT57 u al r).sp u (qt57 c0 c1 c2 c3 c4 c5 c6) (qp57 qw57 c0 c1 c2 c3 c4 c5 c6) (qp57 r c0 c1 c2 c3 c4 c5 c6):=⟨rfl,rfl⟩
theorem qa57 (r:qF57 (Option β)):(qT57 u al r).sp.alias=al:=rfl
attribute [go_sem] qw57 qp57 qt57 qP57 qa57
def qu28 (v:L_I×Int):List RV:=[.agg [.own (encF 1 d_I v.1),.d (.int .i64 v.2)]]
attribute [go_sem] qu28
def qu29 (v:L_LIEI):List RV:=[.c (.own (encF 2 d_LIEI v))]
attribute [go_sem] qu29
def qu30 (v:L_LIE×Int×Int):List RV:=[.c (.own (encF 1 d_LIE v.1)),.c (.d (.int .i64 v.2.1)),.c (.d (.int .i64 v.2.2))]
attribute [go_sem] qu30
def qu31 (v:Int×L_III×L_II):List RV:=[.agg [.d (.int .i64 v.1),.own (encF 3 d_III v.2.1),.own (encF 2 d_II v.2.2)]]
attribute [go_sem] qu31
def qu32 (v:L_II×Int):List RV:=[.c (.own (encF 2 d_II v.1)),.c (.d (.int .i64 v.2))]
attribute [go_sem] qu32
def qu33 (v:L_ILIIIE):List RV:=[.c (.own (encF 2 d_ILIIIE v))]
attribute [go_sem] qu33
def qu34 (v:L_II×Int×Int):List RV:=[.agg [.own (encF 2 d_II v.1),.d (.int .i64 v.2.1),.d (.int .i64 v.2.2)]]
attribute [go_sem] qu34
end
def r19 (x0:L_I) (x1:Int):Option (L_I×Int):=
 (r17 x0).bind fun v1=>
  some (v1,x1)
def T19:=qT51 qu28 false r19
attribute [go_sem] T19
def tb19:Fns:=lk [(17,T17.sp)]
theorem tb19_ok:FnsOk Tryz.prog tb19:= .cons f17 .nil
theorem tk19:tb19 17=some T17.sp:=rfl
section
attribute [local go_sem] tk19 Tryz.results19
theorem f19:FnFact Tryz.prog 19 T19.sp:=by
 refine valid_m ty_ok tb19_ok Tryz.func19 rfl Tryz.ntmps19 fun ⟨x0,x1⟩ r hr=>⟨nL rfl,fun stop S=> ?_⟩
 replace hr:r19 x0 x1=some r:=hr
 unfold r19 at hr
 refine S.gx [] ?_
 exact D0 hr
end
def b21_1 (a0:L_LIEI):Bd ((List (L_I×Int))×Int) L_LIEI:=fun s1=>
 if (decide (s1.2<(a0.length:Int)))=true then
  if 0≤s1.2∧s1.2<(a0.length:Int) then
   bindC (r19 ((a0.getD s1.2.toNat default).1) ((a0.getD s1.2.toNat default).2)) fun v1=>
    if (s1.1.length+1)*32≤140737488355328∧s1.1.length+1≤9223372036854775807 then
     .next (s1.1++[(v1.1,v1.2)],IntKind.i64.wrap (s1.2+1))
     else .out none
   else .out none
  else .out (some s1.1)
def r21 (a0:L_LIEI):Option (L_LIEI):=
 iterC (b21_1 a0) 1000000000 ([],0)
def T21:=qT52 qu29 true r21
attribute [go_sem] T21
def tb21:Fns:=lk [(19,T19.sp)]
theorem tb21_ok:FnsOk Tryz.prog tb21:= .cons f19 .nil
theorem tk21:tb21 19=some T19.sp:=rfl
section
attribute [local go_sem] tk21 Tryz.results21
theorem f21:FnFact Tryz.prog 21 T21.sp:=by
 refine valid_m ty_ok tb21_ok Tryz.func21 rfl Tryz.ntmps21 fun a0 r hr=>⟨nL rfl,fun stop S=> ?_⟩
 replace hr:r21 a0=some r:=hr
 unfold r21 at hr
 refine S.gx [] ?_
 refine gr ?_
 refine S.own0 3 1000300 2 rfl rfl ?_
 refine S.sees [0,3,4] [] [(1000300,1000300)] ?_ (Stop.iter S (fun s1=>⟨[(0,.c (.d (encF 2 d_LIEI a0))),(3,.c (.own 1000300)),(4,.c (.d (.int .i64 s1.2)))],[],[(1000300,.owned (encF 2 d_LIEI s1.1))]⟩) (b21_1 a0) (fun q=>q=r) hr rfl ?_)
 ·exact lf
 ·intro s1 hr
  unfold b21_1 at hr
  refine S.gx [] ?_
  exact D1 (S.ss [0,3,4] [] [(18,1000300)]) hr
end
def b177_1 (x0 x1:Int) (x2:L_II) (x3:L_LIIE) (x4:L_II) (x5:L_LIIE) (a1:L_LIEI):Bd (Int×Int) Int:=fun s1=>
 if (decide (s1.2<(a1.length:Int)))=true then
  if 0≤s1.2∧s1.2<(a1.length:Int) then
   bindC (r81 x0 x1 x2 x3 x4 x5 ((a1.getD s1.2.toNat default).1) ((a1.getD s1.2.toNat default).2)) fun v2=>
    bindC (r80 [s1.1,v2]) fun v3=>
     .next (v3,IntKind.i64.wrap (s1.2+1))
   else .out none
  else .out (some s1.1)
def r177 (x0 x1:Int) (x2:L_II) (x3:L_LIIE) (x4:L_II) (x5:L_LIIE) (a1:L_LIEI):Option (Int):=
 (r83 (decide ((a1.length:Int)≤200)) 8).bind fun v1=>
  iterC (b177_1 x0 x1 x2 x3 x4 x5 a1) 1000000000 (v1,0)
def T177:=qT53 qu3 false r177
attribute [go_sem] T177
def tb177:Fns:=lk [(80,T80.sp),(81,T81.sp),(83,T83.sp)]
theorem tb177_ok:FnsOk Tryz.prog tb177:= .cons f80 (.cons f81 (.cons f83 .nil))
theorem tk177:tb177 80=some T80.sp∧tb177 81=some T81.sp∧tb177 83=some T83.sp:=⟨rfl,rfl,rfl⟩
section
attribute [local go_sem] tk177 Tryz.results177
theorem f177:FnFact Tryz.prog 177 T177.sp:=by
 refine valid_m ty_ok tb177_ok Tryz.func177 rfl Tryz.ntmps177 fun ⟨x0,x1,x2,x3,x4,x5,a1⟩ r hr=>⟨nL rfl,fun stop S=> ?_⟩
 replace hr:r177 x0 x1 x2 x3 x4 x5 a1=some r:=hr
 unfold r177 at hr
 refine S.gx [] ?_
 obtain ⟨v1,hv1,hr⟩:=of_bind0 hr
 refine gb hv1 ?_
 refine S.sees [2,5,12,13,14] [(2,2)] [] ?_ (Stop.iter S (fun s1=>⟨[(2,.c (.ref 2 0)),(5,.c (.d (.int .i64 s1.1))),(12,.c (.d (encF 2 d_LIEI a1))),(13,.c (.d (.int .i64 (a1.length:Int)))),(14,.c (.d (.int .i64 s1.2)))],[(2,[.d (.int .i64 x0),.d (.int .i64 x1),.d (encF 2 d_II x2),.d (encF 1 d_LIIE x3),.d (encF 2 d_II x4),.d (encF 1 d_LIIE x5)])],[]⟩) (b177_1 x0 x1 x2 x3 x4 x5 a1) (fun q=>q=r) hr rfl ?_)
 ·exact lf
 ·intro s1 hr
  unfold b177_1 at hr
  refine S.gx [] ?_
  exact D1 (S.ss [2,5,12,13,14] [(2,2)] []) hr
end
def b86_1 (a2:L_LIEI) (v1:Int×Int×L_II×L_LIIE×L_II×L_LIIE×Int):Bd ((List (L_I))×Int×L_I×Int) (L_LIE×Int×Int):=fun s1=>
 if (decide (s1.2.2.2<(a2.length:Int)))=true then
  if 0≤s1.2.2.2∧s1.2.2.2<(a2.length:Int) then
   bindC (r85 v1.1 v1.2.1 v1.2.2.1 v1.2.2.2.1 v1.2.2.2.2.1 v1.2.2.2.2.2.1 s1.2.2.1 ((a2.getD s1.2.2.2.toNat default).1) ((a2.getD s1.2.2.2.toNat default).2)) fun v3=>
    if (v3.2.2 != 0)=true then
     .out (some ([],0,v3.2.2))
     else if (s1.1.length+1)*24≤140737488355328∧s1.1.length+1≤9223372036854775807 then
      .next (s1.1++[v3.1],IntKind.i64.wrap (s1.2.1+v3.2.1),v3.1,IntKind.i64.wrap (s1.2.2.2+1))
      else .out none
   else .out none
  else .out (some (s1.1,s1.2.1,0))
def b86_2 (a2:L_LIEI) (v1:Int×Int×L_II×L_LIIE×L_II×L_LIIE×Int):Bd ((List (L_I))×Int×L_I×Int) (L_LIE×Int×Int):=fun s2=>
 if (decide (s2.2.2.2<(a2.length:Int)))=true then
  if 0≤s2.2.2.2∧s2.2.2.2<(a2.length:Int) then
   bindC (r85 v1.1 v1.2.1 v1.2.2.1 v1.2.2.2.1 v1.2.2.2.2.1 v1.2.2.2.2.2.1 s2.2.2.1 ((a2.getD s2.2.2.2.toNat default).1) ((a2.getD s2.2.2.2.toNat default).2)) fun v6=>
    if (v6.2.2 != 0)=true then
     .out (some ([],0,v6.2.2))
     else if (s2.1.length+1)*24≤140737488355328∧s2.1.length+1≤9223372036854775807 then
      .next (s2.1++[v6.1],IntKind.i64.wrap (s2.2.1+v6.2.1),v6.1,IntKind.i64.wrap (s2.2.2.2+1))
      else .out none
   else .out none
  else .out (some (s2.1,s2.2.1,0))
def r86 (x0 x1:Int) (x2:L_II) (x3:L_LIIE) (a1:L_I) (a2:L_LIEI):Option (L_LIE×Int×Int):=
 (r78 x0 x1 x2 x3 a1).bind fun v1=>
  if (v1.2.2.2.2.2.2 == 0)=true then
   (r177 v1.1 v1.2.1 v1.2.2.1 v1.2.2.2.1 v1.2.2.2.2.1 v1.2.2.2.2.2.1 a2).bind fun v2=>
    if (v2 != 0)=true then
     some ([],0,v2)
     else iterC (b86_1 a2 v1) 1000000000 ([],0,a1,0)
   else if (v1.2.2.2.2.2.2 != 0)=true then
    some ([],0,v1.2.2.2.2.2.2)
    else iterC (b86_2 a2 v1) 1000000000 ([],0,a1,0)
def T86:=qT54 qu30 true r86
attribute [go_sem] T86
def tb86:Fns:=lk [(78,T78.sp),(85,T85.sp),(177,T177.sp)]
theorem tb86_ok:FnsOk Tryz.prog tb86:= .cons f78 (.cons f85 (.cons f177 .nil))
theorem tk86:tb86 78=some T78.sp∧tb86 85=some T85.sp∧tb86 177=some T177.sp:=⟨rfl,rfl,rfl⟩
section
attribute [local go_sem] tk86 Tryz.results86
theorem f86:FnFact Tryz.prog 86 T86.sp:=by
 refine valid_m ty_ok tb86_ok Tryz.func86 rfl Tryz.ntmps86 fun ⟨x0,x1,x2,x3,a1,a2⟩ r hr=>⟨nL rfl,fun stop S=> ?_⟩
 replace hr:r86 x0 x1 x2 x3 a1 a2=some r:=hr
 unfold r86 at hr
 refine S.gx [] ?_
 obtain ⟨v1,hv1,hr⟩:=of_bind0 hr
 refine gb hv1 ?_
 refine iW hr (fun hc hr=> ?_) fun hc hr=> ?_
 ·obtain ⟨v2,hv2,hr⟩:=of_bind0 hr
  refine gb hv2 ?_
  refine iW hr (fun hc hr=>D0 hr) fun hc hr=> ?_
  refine gr ?_
  refine S.own0 11 1001100 1 rfl rfl ?_
  refine S.sees [9,11,12,13,34,35,36] [(9,9)] [(1001100,1001100),(22,22),(10022,10022)] ?_ (Stop.iter S (fun s1=>⟨[(9,.c (.ref 9 0)),(11,.c (.own 1001100)),(12,.c (.d (.int .i64 s1.2.1))),(13,.c (.d (encF 1 d_I s1.2.2.1))),(34,.c (.d (encF 2 d_LIEI a2))),(35,.c (.d (.int .i64 (a2.length:Int)))),(36,.c (.d (.int .i64 s1.2.2.2)))],[(9,[.d (.int .i64 v1.1),.d (.int .i64 v1.2.1),.d (encF 2 d_II v1.2.2.1),.d (encF 1 d_LIIE v1.2.2.2.1),.own 22,.own 10022])],[(1001100,.owned (encF 1 d_LIE s1.1)),(22,.owned (encF 2 d_II v1.2.2.2.2.1)),(10022,.owned (encF 1 d_LIIE v1.2.2.2.2.2.1))]⟩) (b86_1 a2 v1) (fun q=>q=r) hr rfl ?_)
  ·exact lf
  ·intro s1 hr
   unfold b86_1 at hr
   refine S.gx [] ?_
   exact D1 (S.ss [9,11,12,13,34,35,36] [(9,9)] [(55,1001100),(22,22),(10022,10022)]) hr
 ·refine gr ?_
  refine iW hr (fun hc hr=>D0 hr) fun hc hr=> ?_
  refine gr ?_
  refine S.own0 11 1001100 1 rfl rfl ?_
  refine S.sees [9,11,12,13,34,35,36] [(9,9)] [(1001100,1001100),(22,22),(10022,10022)] ?_ (Stop.iter S (fun s2=>⟨[(9,.c (.ref 9 0)),(11,.c (.own 1001100)),(12,.c (.d (.int .i64 s2.2.1))),(13,.c (.d (encF 1 d_I s2.2.2.1))),(34,.c (.d (encF 2 d_LIEI a2))),(35,.c (.d (.int .i64 (a2.length:Int)))),(36,.c (.d (.int .i64 s2.2.2.2)))],[(9,[.d (.int .i64 v1.1),.d (.int .i64 v1.2.1),.d (encF 2 d_II v1.2.2.1),.d (encF 1 d_LIIE v1.2.2.2.1),.own 22,.own 10022])],[(1001100,.owned (encF 1 d_LIE s2.1)),(22,.owned (encF 2 d_II v1.2.2.2.2.1)),(10022,.owned (encF 1 d_LIIE v1.2.2.2.2.2.1))]⟩) (b86_2 a2 v1) (fun q=>q=r) hr rfl ?_)
  ·exact lf
  ·intro s2 hr
   unfold b86_2 at hr
   refine S.gx [] ?_
   exact D1 (S.ss [9,11,12,13,34,35,36] [(9,9)] [(55,1001100),(22,22),(10022,10022)]) hr
end
def b87_1 (a0:L_I):Bd (Int×Int) Int:=fun s1=>
 if (decide (s1.2<(a0.length:Int)))=true then
  if 0≤s1.2∧s1.2<(a0.length:Int) then
   .next (IntKind.i64.wrap (s1.1+(a0.getD s1.2.toNat default)),IntKind.i64.wrap (s1.2+1))
   else .out none
  else .out (some s1.1)
def r87 (a0:L_I):Option (Int):=
 iterC (b87_1 a0) 1000000000 (0,0)
def T87:=qT3 qu3 false r87
attribute [go_sem] T87
def tb87:Fns:=lk []
theorem tb87_ok:FnsOk Tryz.prog tb87:=FnsOk.nil
section
attribute [local go_sem] Tryz.results87
theorem f87:FnFact Tryz.prog 87 T87.sp:=by
 refine valid_m ty_ok tb87_ok Tryz.func87 rfl Tryz.ntmps87 fun a0 r hr=>⟨nL rfl,fun stop S=> ?_⟩
 replace hr:r87 a0=some r:=hr
 unfold r87 at hr
 refine S.gx [] ?_
 refine gr ?_
 refine S.sees [3,6,7,8] [] [] ?_ (Stop.iter S (fun s1=>⟨[(3,.c (.d (.int .i64 s1.1))),(6,.c (.d (encF 1 d_I a0))),(7,.c (.d (.int .i64 (a0.length:Int)))),(8,.c (.d (.int .i64 s1.2)))],[],[]⟩) (b87_1 a0) (fun q=>q=r) hr rfl ?_)
 ·exact lf
 ·intro s1 hr
  unfold b87_1 at hr
  refine S.gx [] ?_
  exact D1 (S.ss [3,6,7,8] [] []) hr
end
def b20_1 (a2:L_LIEI) (v1:L_LIE×Int×Int) (v2 v3:Int):Bd (Int×Int) (Int×Int×Int×Int×Int):=fun s1=>
 if (decide (s1.1<(a2.length:Int)))=true then
  if 0≤s1.1∧s1.1<(a2.length:Int) then
   bindC (r87 ((a2.getD s1.1.toNat default).1)) fun v4=>
    .next (IntKind.i64.wrap (s1.1+1),IntKind.i64.wrap (s1.2+v4))
   else .out none
  else .out (some (v2,s1.2,v1.2.1,v3,0))
def b20_2 (a2:L_LIEI) (v1:L_LIE×Int×Int) (v2:Int):Bd (Int×Int) (Int×Int×Int×Int×Int):=fun s2=>
 if (decide (s2.1<(a2.length:Int)))=true then
  if 0≤s2.1∧s2.1<(a2.length:Int) then
   bindC (r87 ((a2.getD s2.1.toNat default).1)) fun v7=>
    .next (IntKind.i64.wrap (s2.1+1),IntKind.i64.wrap (s2.2+v7))
   else .out none
  else .out (some (v2,s2.2,v1.2.1,v2,0))
def r20 (x0 x1:Int) (x2:L_II) (x3:L_LIIE) (a1:L_I) (a2:L_LIEI):Option (Int×Int×Int×Int×Int):=
 (r86 x0 x1 x2 x3 a1 a2).bind fun v1=>
  if (v1.2.2 != 0)=true then
   some (0,0,0,0,v1.2.2)
   else (r87 a1).bind fun v2=>
    if (decide ((v1.1.length:Int)>0))=true then
     if 0≤IntKind.i64.wrap ((v1.1.length:Int) - 1)∧IntKind.i64.wrap ((v1.1.length:Int) - 1)<(v1.1.length:Int) then
      (r87 (v1.1.getD (IntKind.i64.wrap ((v1.1.length:Int) - 1)).toNat default)).bind fun v3=>
       iterC (b20_1 a2 v1 v2 v3) 1000000000 (0,0)
      else none
     else iterC (b20_2 a2 v1 v2) 1000000000 (0,0)
def T20:=qT54 qu13 false r20
attribute [go_sem] T20
def tb20:Fns:=lk [(86,T86.sp),(87,T87.sp)]
theorem tb20_ok:FnsOk Tryz.prog tb20:= .cons f86 (.cons f87 .nil)
theorem tk20:tb20 86=some T86.sp∧tb20 87=some T87.sp:=⟨rfl,rfl⟩
section
attribute [local go_sem] tk20 Tryz.results20
theorem f20:FnFact Tryz.prog 20 T20.sp:=by
 refine valid_m ty_ok tb20_ok Tryz.func20 rfl Tryz.ntmps20 fun ⟨x0,x1,x2,x3,a1,a2⟩ r hr=>⟨nL rfl,fun stop S=> ?_⟩
 replace hr:r20 x0 x1 x2 x3 a1 a2=some r:=hr
 unfold r20 at hr
 refine S.gx [8] ?_
 obtain ⟨v1,hv1,hr⟩:=of_bind0 hr
 refine gb hv1 ?_
 refine iW hr (fun hc hr=>D0 hr) fun hc hr=> ?_
 obtain ⟨v2,hv2,hr⟩:=of_bind0 hr
 refine gb hv2 ?_
 refine iW hr (fun hc hr=> ?_) fun hc hr=> ?_
 ·obtain ⟨hg6,hr⟩:=of_guard0 hr
  obtain ⟨v3,hv3,hr⟩:=of_bind0 hr
  refine gb hv3 ?_
  refine S.prune [2,6,11] ?_
  refine S.gx [] ?_
  refine gr ?_
  refine gr ?_
  refine S.sees [6,11,44,45,46] [(6,6),(11,11)] [] ?_ (Stop.iter S (fun s1=>⟨[(6,.c (.ref 6 0)),(11,.c (.ref 11 0)),(44,.c (.d (encF 2 d_LIEI a2))),(45,.c (.d (.int .i64 (a2.length:Int)))),(46,.c (.d (.int .i64 s1.1)))],[(6,[.d (.int .i64 0),.d (.int .i64 0),.d (.int .i64 0),.d (.int .i64 0)]),(11,[.d (.int .i64 v2),.d (.int .i64 s1.2),.d (.int .i64 v1.2.1),.d (.int .i64 v3)])],[]⟩) (b20_1 a2 v1 v2 v3) (fun q=>q=r) hr rfl ?_)
  ·exact lf
  ·intro s1 hr
   unfold b20_1 at hr
   refine S.gx [8] ?_
   exact D1 (S.ss [6,11,44,45,46] [(6,6),(11,11)] []) hr
 ·refine gr ?_
  refine S.prune [2,6,11] ?_
  refine S.gx [] ?_
  refine gr ?_
  refine gr ?_
  refine S.sees [6,11,44,45,46] [(6,6),(11,11)] [] ?_ (Stop.iter S (fun s2=>⟨[(6,.c (.ref 6 0)),(11,.c (.ref 11 0)),(44,.c (.d (encF 2 d_LIEI a2))),(45,.c (.d (.int .i64 (a2.length:Int)))),(46,.c (.d (.int .i64 s2.1)))],[(6,[.d (.int .i64 0),.d (.int .i64 0),.d (.int .i64 0),.d (.int .i64 0)]),(11,[.d (.int .i64 v2),.d (.int .i64 s2.2),.d (.int .i64 v1.2.1),.d (.int .i64 v2)])],[]⟩) (b20_2 a2 v1 v2) (fun q=>q=r) hr rfl ?_)
  ·exact lf
  ·intro s2 hr
   unfold b20_2 at hr
   refine S.gx [8] ?_
   exact D1 (S.ss [6,11,44,45,46] [(6,6),(11,11)] []) hr
end
def r112 (x1:Int) (x2:L_III) (x0:L_II):Option (Int×L_III×L_II):=
 (r29 x1 x2).bind fun v1=>
  if (0+x0.length)*16≤140737488355328∧0+x0.length≤9223372036854775807 then
   some (v1.1,v1.2,x0)
   else none
def T112:=qT38 qu31 false r112
attribute [go_sem] T112
def tb112:Fns:=lk [(29,T29.sp)]
theorem tb112_ok:FnsOk Tryz.prog tb112:= .cons f29 .nil
theorem tk112:tb112 29=some T29.sp:=rfl
section
attribute [local go_sem] tk112 Tryz.results112
theorem f112:FnFact Tryz.prog 112 T112.sp:=by
 refine valid_m ty_ok tb112_ok Tryz.func112 rfl Tryz.ntmps112 fun ⟨x1,x2,x0⟩ r hr=>⟨nL rfl,fun stop S=> ?_⟩
 replace hr:r112 x1 x2 x0=some r:=hr
 unfold r112 at hr
 refine S.gx [] ?_
 exact D0 hr
end
def r113 (x0:Int) (x1:L_B):Option (Int×L_B):=
 (r35 x1).bind fun v1=>
  some (x0,v1)
def T113:=qT55 qu1 false r113
attribute [go_sem] T113
def tb113:Fns:=lk [(35,T35.sp)]
theorem tb113_ok:FnsOk Tryz.prog tb113:= .cons f35 .nil
theorem tk113:tb113 35=some T35.sp:=rfl
section
attribute [local go_sem] tk113 Tryz.results113
theorem f113:FnFact Tryz.prog 113 T113.sp:=by
 refine valid_m ty_ok tb113_ok Tryz.func113 rfl Tryz.ntmps113 fun ⟨x0,x1⟩ r hr=>⟨nL rfl,fun stop S=> ?_⟩
 replace hr:r113 x0 x1=some r:=hr
 unfold r113 at hr
 refine S.gx [] ?_
 exact D0 hr
end
def r243 (a0:Int):Option (Bool):=
 (r103 a0 1 4).bind fun v1=>
  some v1
def T243:=qT4 qu2 false r243
attribute [go_sem] T243
def tb243:Fns:=lk [(103,T103.sp)]
theorem tb243_ok:FnsOk Tryz.prog tb243:= .cons f103 .nil
theorem tk243:tb243 103=some T103.sp:=rfl
section
attribute [local go_sem] tk243 Tryz.results243
theorem f243:FnFact Tryz.prog 243 T243.sp:=by
 refine valid_m ty_ok tb243_ok Tryz.func243 rfl Tryz.ntmps243 fun a0 r hr=>⟨nL rfl,fun stop S=> ?_⟩
 replace hr:r243 a0=some r:=hr
 unfold r243 at hr
 refine S.gx [] ?_
 exact D0 hr
end
def b194_1 (x0:L_II):Bd Int (Int×Int):=fun s1=>
 if (decide (s1<(x0.length:Int)))=true then
  if 0≤s1∧s1<(x0.length:Int) then
   bindC (r243 ((x0.getD s1.toNat default).1)) fun v2=>
    if v2=true→(r243 ((x0.getD s1.toNat default).2)).isSome=true then
     bindC (r107 (v2 && ((r243 ((x0.getD s1.toNat default).2)).getD default)) 2) fun v3=>
      bindC (r107 (decide (((x0.getD s1.toNat default).1)≤((x0.getD s1.toNat default).2))) 9) fun v4=>
       bindC (r106 [v3,v4]) fun v5=>
        if (v5 != 0)=true then
         .out (some (s1,v5))
         else .next (IntKind.i64.wrap (s1+1))
     else .out none
   else .out none
  else .out (some (0,0))
def r194 (x2:Int) (x1:L_III) (x0:L_II):Option (Int×Int):=
 (r188 x2 x1).bind fun v1=>
  if (v1.2 != 0)=true then
   some (v1.1,v1.2)
   else if ((x0.length:Int) != (x1.length:Int))=true then
    some (0,10)
    else iterC (b194_1 x0) 1000000000 0
def T194:=qT38 qu4 false r194
attribute [go_sem] T194
def tb194:Fns:=lk [(106,T106.sp),(107,T107.sp),(188,T188.sp),(243,T243.sp)]
theorem tb194_ok:FnsOk Tryz.prog tb194:= .cons f106 (.cons f107 (.cons f188 (.cons f243 .nil)))
theorem tk194:tb194 106=some T106.sp∧tb194 107=some T107.sp∧tb194 188=some T188.sp∧tb194 243=some T243.sp:=⟨rfl,rfl,rfl,rfl⟩
section
attribute [local go_sem] tk194 Tryz.results194
theorem f194:FnFact Tryz.prog 194 T194.sp:=by
 refine valid_m ty_ok tb194_ok Tryz.func194 rfl Tryz.ntmps194 fun ⟨x2,x1,x0⟩ r hr=>⟨nL rfl,fun stop S=> ?_⟩
 replace hr:r194 x2 x1 x0=some r:=hr
 unfold r194 at hr
 refine S.gx [12] ?_
 obtain ⟨v1,hv1,hr⟩:=of_bind0 hr
 refine gb hv1 ?_
 refine iW hr (fun hc hr=>D0 hr) fun hc hr=> ?_
 refine gr ?_
 refine iW hr (fun hc hr=>D0 hr) fun hc hr=> ?_
 refine gr ?_
 refine S.sees [6,29,30,31] [] [] ?_ (Stop.iter S (fun s1=>⟨[(6,.c (.clo 243 [])),(29,.c (.d (encF 2 d_II x0))),(30,.c (.d (.int .i64 (x0.length:Int)))),(31,.c (.d (.int .i64 s1)))],[],[]⟩) (b194_1 x0) (fun q=>q=r) hr rfl ?_)
 ·exact lf
 ·intro s1 hr
  unfold b194_1 at hr
  refine S.gx [12] ?_
  refine gr ?_
  refine iW1 hr (fun hc hr=> ?_) fun hc hr=>D0 hr
  obtain ⟨hg6,hr⟩:=of_guard1 hr
  obtain ⟨v2,hv2,hr⟩:=of_bind1 hr
  obtain ⟨hg7,hr⟩:=of_guard1 hr
  obtain ⟨v3,hv3,hr⟩:=of_bind1 hr
  obtain ⟨v4,hv4,hr⟩:=of_bind1 hr
  obtain ⟨v5,hv5,hr⟩:=of_bind1 hr
  try simp only [hv2,hv3,hv4,hv5,Option.getD_some,Option.isSome_some,true_and,and_assoc]
  repeat (first | refine gG hg7 ?_ | refine gA ?_ | refine gB ?_)
  refine iW1 hr (fun hc hr=> ?_) fun hc hr=>D1 (S.ss [6,29,30,31] [] []) hr
  refine gr ?_
  refine S.prune [7,9] ?_
  refine S.gx [] ?_
  exact D0 hr
end
theorem clip244 (w:World) (ao:Option Addr) (len cap:Nat) (h:len≤cap):Calls Tryz.prog 244 #[.slice ao len cap] w fun e w'=>∃ v,e= .returned v∧w'=w∧v= .slice ao len len:=by
 go_enter Tryz.func244,Tryz.ntmps244
 go_wp2
 all_goals go_ret
 exact ⟨_,rfl,rfl,rfl⟩
def b111_1 (v6:L_I):Bd (Int×(List (Int×Int))) (L_II×Int):=fun s1=>
 if (decide (s1.1<(v6.length:Int)))=true then
  if 0≤s1.1∧s1.1<(v6.length:Int) then
   if (s1.1 == (s1.2.length:Int))=true then
    if (s1.2.length+1)*16≤140737488355328∧s1.2.length+1≤9223372036854775807 then
     if 0≤s1.1∧s1.1<((s1.2++[((v6.getD s1.1.toNat default),(v6.getD s1.1.toNat default))]).length:Int) then
      if 0≤s1.1∧s1.1<((s1.2++[((v6.getD s1.1.toNat default),(v6.getD s1.1.toNat default))]).length:Int) then
       if 0≤s1.1∧s1.1<((s1.2++[((v6.getD s1.1.toNat default),(v6.getD s1.1.toNat default))]).length:Int) then
        .next (IntKind.i64.wrap (s1.1+1),(s1.2++[((v6.getD s1.1.toNat default),(v6.getD s1.1.toNat default))]).set s1.1.toNat ((if (v6.getD s1.1.toNat default)<((s1.2++[((v6.getD s1.1.toNat default),(v6.getD s1.1.toNat default))]).getD s1.1.toNat default).1 then (v6.getD s1.1.toNat default) else ((s1.2++[((v6.getD s1.1.toNat default),(v6.getD s1.1.toNat default))]).getD s1.1.toNat default).1),(if ((s1.2++[((v6.getD s1.1.toNat default),(v6.getD s1.1.toNat default))]).getD s1.1.toNat default).2<(v6.getD s1.1.toNat default) then (v6.getD s1.1.toNat default) else ((s1.2++[((v6.getD s1.1.toNat default),(v6.getD s1.1.toNat default))]).getD s1.1.toNat default).2)))
        else .out none
       else .out none
      else .out none
     else .out none
    else if 0≤s1.1∧s1.1<(s1.2.length:Int) then
     if 0≤s1.1∧s1.1<(s1.2.length:Int) then
      if 0≤s1.1∧s1.1<(s1.2.length:Int) then
       .next (IntKind.i64.wrap (s1.1+1),s1.2.set s1.1.toNat ((if (v6.getD s1.1.toNat default)<(s1.2.getD s1.1.toNat default).1 then (v6.getD s1.1.toNat default) else (s1.2.getD s1.1.toNat default).1),(if (s1.2.getD s1.1.toNat default).2<(v6.getD s1.1.toNat default) then (v6.getD s1.1.toNat default) else (s1.2.getD s1.1.toNat default).2)))
       else .out none
      else .out none
     else .out none
   else .out none
  else .out (some (s1.2,0))
def b111_3 (s2:Int×(List (Int×Int))) (v15:L_I):Bd (Int×(List (Int×Int))) (Ctl (Int×(List (Int×Int))) (L_II×Int)):=fun s3=>
 if (decide (s3.1<(v15.length:Int)))=true then
  if 0≤s3.1∧s3.1<(v15.length:Int) then
   if (s3.1 == (s3.2.length:Int))=true then
    if (s3.2.length+1)*16≤140737488355328∧s3.2.length+1≤9223372036854775807 then
     if 0≤s3.1∧s3.1<((s3.2++[((v15.getD s3.1.toNat default),(v15.getD s3.1.toNat default))]).length:Int) then
      if 0≤s3.1∧s3.1<((s3.2++[((v15.getD s3.1.toNat default),(v15.getD s3.1.toNat default))]).length:Int) then
       if 0≤s3.1∧s3.1<((s3.2++[((v15.getD s3.1.toNat default),(v15.getD s3.1.toNat default))]).length:Int) then
        .next (IntKind.i64.wrap (s3.1+1),(s3.2++[((v15.getD s3.1.toNat default),(v15.getD s3.1.toNat default))]).set s3.1.toNat ((if (v15.getD s3.1.toNat default)<((s3.2++[((v15.getD s3.1.toNat default),(v15.getD s3.1.toNat default))]).getD s3.1.toNat default).1 then (v15.getD s3.1.toNat default) else ((s3.2++[((v15.getD s3.1.toNat default),(v15.getD s3.1.toNat default))]).getD s3.1.toNat default).1),(if ((s3.2++[((v15.getD s3.1.toNat default),(v15.getD s3.1.toNat default))]).getD s3.1.toNat default).2<(v15.getD s3.1.toNat default) then (v15.getD s3.1.toNat default) else ((s3.2++[((v15.getD s3.1.toNat default),(v15.getD s3.1.toNat default))]).getD s3.1.toNat default).2)))
        else .out none
       else .out none
      else .out none
     else .out none
    else if 0≤s3.1∧s3.1<(s3.2.length:Int) then
     if 0≤s3.1∧s3.1<(s3.2.length:Int) then
      if 0≤s3.1∧s3.1<(s3.2.length:Int) then
       .next (IntKind.i64.wrap (s3.1+1),s3.2.set s3.1.toNat ((if (v15.getD s3.1.toNat default)<(s3.2.getD s3.1.toNat default).1 then (v15.getD s3.1.toNat default) else (s3.2.getD s3.1.toNat default).1),(if (s3.2.getD s3.1.toNat default).2<(v15.getD s3.1.toNat default) then (v15.getD s3.1.toNat default) else (s3.2.getD s3.1.toNat default).2)))
       else .out none
      else .out none
     else .out none
   else .out none
  else .out (some (.next (IntKind.i64.wrap (s2.1+1),s3.2)))
def b111_5 (s4:Int×(List (Int×Int))) (v24:L_I):Bd (Int×(List (Int×Int))) (Ctl (Int×(List (Int×Int))) (Ctl (Int×(List (Int×Int))) (L_II×Int))):=fun s5=>
 if (decide (s5.1<(v24.length:Int)))=true then
  if 0≤s5.1∧s5.1<(v24.length:Int) then
   if (s5.1 == (s5.2.length:Int))=true then
    if (s5.2.length+1)*16≤140737488355328∧s5.2.length+1≤9223372036854775807 then
     if 0≤s5.1∧s5.1<((s5.2++[((v24.getD s5.1.toNat default),(v24.getD s5.1.toNat default))]).length:Int) then
      if 0≤s5.1∧s5.1<((s5.2++[((v24.getD s5.1.toNat default),(v24.getD s5.1.toNat default))]).length:Int) then
       if 0≤s5.1∧s5.1<((s5.2++[((v24.getD s5.1.toNat default),(v24.getD s5.1.toNat default))]).length:Int) then
        .next (IntKind.i64.wrap (s5.1+1),(s5.2++[((v24.getD s5.1.toNat default),(v24.getD s5.1.toNat default))]).set s5.1.toNat ((if (v24.getD s5.1.toNat default)<((s5.2++[((v24.getD s5.1.toNat default),(v24.getD s5.1.toNat default))]).getD s5.1.toNat default).1 then (v24.getD s5.1.toNat default) else ((s5.2++[((v24.getD s5.1.toNat default),(v24.getD s5.1.toNat default))]).getD s5.1.toNat default).1),(if ((s5.2++[((v24.getD s5.1.toNat default),(v24.getD s5.1.toNat default))]).getD s5.1.toNat default).2<(v24.getD s5.1.toNat default) then (v24.getD s5.1.toNat default) else ((s5.2++[((v24.getD s5.1.toNat default),(v24.getD s5.1.toNat default))]).getD s5.1.toNat default).2)))
        else .out none
       else .out none
      else .out none
     else .out none
    else if 0≤s5.1∧s5.1<(s5.2.length:Int) then
     if 0≤s5.1∧s5.1<(s5.2.length:Int) then
      if 0≤s5.1∧s5.1<(s5.2.length:Int) then
       .next (IntKind.i64.wrap (s5.1+1),s5.2.set s5.1.toNat ((if (v24.getD s5.1.toNat default)<(s5.2.getD s5.1.toNat default).1 then (v24.getD s5.1.toNat default) else (s5.2.getD s5.1.toNat default).1),(if (s5.2.getD s5.1.toNat default).2<(v24.getD s5.1.toNat default) then (v24.getD s5.1.toNat default) else (s5.2.getD s5.1.toNat default).2)))
       else .out none
      else .out none
     else .out none
   else .out none
  else .out (some (.next (IntKind.i64.wrap (s4.1+1),s5.2)))
def b111_7 (s6:Int×(List (Int×Int))) (v33:L_I):Bd (Int×(List (Int×Int))) (Ctl (Int×(List (Int×Int))) (Ctl (Int×(List (Int×Int))) (Ctl (Int×(List (Int×Int))) (L_II×Int)))):=fun s7=>
 if (decide (s7.1<(v33.length:Int)))=true then
  if 0≤s7.1∧s7.1<(v33.length:Int) then
   if (s7.1 == (s7.2.length:Int))=true then
    if (s7.2.length+1)*16≤140737488355328∧s7.2.length+1≤9223372036854775807 then
     if 0≤s7.1∧s7.1<((s7.2++[((v33.getD s7.1.toNat default),(v33.getD s7.1.toNat default))]).length:Int) then
      if 0≤s7.1∧s7.1<((s7.2++[((v33.getD s7.1.toNat default),(v33.getD s7.1.toNat default))]).length:Int) then
       if 0≤s7.1∧s7.1<((s7.2++[((v33.getD s7.1.toNat default),(v33.getD s7.1.toNat default))]).length:Int) then
        .next (IntKind.i64.wrap (s7.1+1),(s7.2++[((v33.getD s7.1.toNat default),(v33.getD s7.1.toNat default))]).set s7.1.toNat ((if (v33.getD s7.1.toNat default)<((s7.2++[((v33.getD s7.1.toNat default),(v33.getD s7.1.toNat default))]).getD s7.1.toNat default).1 then (v33.getD s7.1.toNat default) else ((s7.2++[((v33.getD s7.1.toNat default),(v33.getD s7.1.toNat default))]).getD s7.1.toNat default).1),(if ((s7.2++[((v33.getD s7.1.toNat default),(v33.getD s7.1.toNat default))]).getD s7.1.toNat default).2<(v33.getD s7.1.toNat default) then (v33.getD s7.1.toNat default) else ((s7.2++[((v33.getD s7.1.toNat default),(v33.getD s7.1.toNat default))]).getD s7.1.toNat default).2)))
        else .out none
       else .out none
      else .out none
     else .out none
    else if 0≤s7.1∧s7.1<(s7.2.length:Int) then
     if 0≤s7.1∧s7.1<(s7.2.length:Int) then
      if 0≤s7.1∧s7.1<(s7.2.length:Int) then
       .next (IntKind.i64.wrap (s7.1+1),s7.2.set s7.1.toNat ((if (v33.getD s7.1.toNat default)<(s7.2.getD s7.1.toNat default).1 then (v33.getD s7.1.toNat default) else (s7.2.getD s7.1.toNat default).1),(if (s7.2.getD s7.1.toNat default).2<(v33.getD s7.1.toNat default) then (v33.getD s7.1.toNat default) else (s7.2.getD s7.1.toNat default).2)))
       else .out none
      else .out none
     else .out none
   else .out none
  else .out (some (.next (IntKind.i64.wrap (s6.1+1),s7.2)))
def b111_9 (s8:Int×(List (Int×Int))) (v42:L_I):Bd (Int×(List (Int×Int))) (Ctl (Int×(List (Int×Int))) (Ctl (Int×(List (Int×Int))) (Ctl (Int×(List (Int×Int))) (Ctl (Int×(List (Int×Int))) (L_II×Int))))):=fun s9=>
 if (decide (s9.1<(v42.length:Int)))=true then
  if 0≤s9.1∧s9.1<(v42.length:Int) then
   if (s9.1 == (s9.2.length:Int))=true then
    if (s9.2.length+1)*16≤140737488355328∧s9.2.length+1≤9223372036854775807 then
     if 0≤s9.1∧s9.1<((s9.2++[((v42.getD s9.1.toNat default),(v42.getD s9.1.toNat default))]).length:Int) then
      if 0≤s9.1∧s9.1<((s9.2++[((v42.getD s9.1.toNat default),(v42.getD s9.1.toNat default))]).length:Int) then
       if 0≤s9.1∧s9.1<((s9.2++[((v42.getD s9.1.toNat default),(v42.getD s9.1.toNat default))]).length:Int) then
        .next (IntKind.i64.wrap (s9.1+1),(s9.2++[((v42.getD s9.1.toNat default),(v42.getD s9.1.toNat default))]).set s9.1.toNat ((if (v42.getD s9.1.toNat default)<((s9.2++[((v42.getD s9.1.toNat default),(v42.getD s9.1.toNat default))]).getD s9.1.toNat default).1 then (v42.getD s9.1.toNat default) else ((s9.2++[((v42.getD s9.1.toNat default),(v42.getD s9.1.toNat default))]).getD s9.1.toNat default).1),(if ((s9.2++[((v42.getD s9.1.toNat default),(v42.getD s9.1.toNat default))]).getD s9.1.toNat default).2<(v42.getD s9.1.toNat default) then (v42.getD s9.1.toNat default) else ((s9.2++[((v42.getD s9.1.toNat default),(v42.getD s9.1.toNat default))]).getD s9.1.toNat default).2)))
        else .out none
       else .out none
      else .out none
     else .out none
    else if 0≤s9.1∧s9.1<(s9.2.length:Int) then
     if 0≤s9.1∧s9.1<(s9.2.length:Int) then
      if 0≤s9.1∧s9.1<(s9.2.length:Int) then
       .next (IntKind.i64.wrap (s9.1+1),s9.2.set s9.1.toNat ((if (v42.getD s9.1.toNat default)<(s9.2.getD s9.1.toNat default).1 then (v42.getD s9.1.toNat default) else (s9.2.getD s9.1.toNat default).1),(if (s9.2.getD s9.1.toNat default).2<(v42.getD s9.1.toNat default) then (v42.getD s9.1.toNat default) else (s9.2.getD s9.1.toNat default).2)))
       else .out none
      else .out none
     else .out none
   else .out none
  else .out (some (.next (IntKind.i64.wrap (s8.1+1),s9.2)))
def b111_10 (x0:L_II) (s8:Int×(List (Int×Int))):Bd Unit (Ctl (Int×(List (Int×Int))) (Ctl (Int×(List (Int×Int))) (Ctl (Int×(List (Int×Int))) (Ctl (Int×(List (Int×Int))) (L_II×Int))))):=fun s10=>
 if (decide (((x0.getD 4 default).1)≤((x0.getD 4 default).2)))=true then
  if (4+1)*8≤140737488355328∧4+1≤9223372036854775807 then
   .out none
   else .out none
  else .out (some (.next (IntKind.i64.wrap (s8.1+1),s8.2)))
def b111_8 (x0:L_II) (a2:Int) (v5:L_I×L_I) (s2 s4 s6:Int×(List (Int×Int))):Bd (Int×(List (Int×Int))) (Ctl (Int×(List (Int×Int))) (Ctl (Int×(List (Int×Int))) (Ctl (Int×(List (Int×Int))) (L_II×Int)))):=fun s8=>
 if (decide (s8.1≤((x0.getD 3 default).2)))=true then
  if (3+1)*8≤140737488355328∧3+1≤9223372036854775807 then
   if (4 == (x0.length:Int))=true then
    bindC (r110 (((([s2.1])++[s4.1])++[s6.1])++[s8.1]) v5.2 a2) fun v42=>
     (iterC (b111_9 s8 v42) 1000000000 (0,s8.2)).getD (.out none)
    else if 0≤4∧4<(x0.length:Int) then
     (iterC (b111_10 x0 s8) 1000000000 ()).getD (.out none)
     else .out none
   else .out none
  else .out (some (.next (IntKind.i64.wrap (s6.1+1),s8.2)))
def b111_6 (x0:L_II) (a2:Int) (v5:L_I×L_I) (s2 s4:Int×(List (Int×Int))):Bd (Int×(List (Int×Int))) (Ctl (Int×(List (Int×Int))) (Ctl (Int×(List (Int×Int))) (L_II×Int))):=fun s6=>
 if (decide (s6.1≤((x0.getD 2 default).2)))=true then
  if (2+1)*8≤140737488355328∧2+1≤9223372036854775807 then
   if (3 == (x0.length:Int))=true then
    bindC (r110 ((([s2.1])++[s4.1])++[s6.1]) v5.2 a2) fun v33=>
     (iterC (b111_7 s6 v33) 1000000000 (0,s6.2)).getD (.out none)
    else if 0≤3∧3<(x0.length:Int) then
     (iterC (b111_8 x0 a2 v5 s2 s4 s6) 1000000000 ((x0.getD 3 default).1,s6.2)).getD (.out none)
     else .out none
   else .out none
  else .out (some (.next (IntKind.i64.wrap (s4.1+1),s6.2)))
def b111_4 (x0:L_II) (a2:Int) (v5:L_I×L_I) (s2:Int×(List (Int×Int))):Bd (Int×(List (Int×Int))) (Ctl (Int×(List (Int×Int))) (L_II×Int)):=fun s4=>
 if (decide (s4.1≤((x0.getD 1 default).2)))=true then
  if (1+1)*8≤140737488355328∧1+1≤9223372036854775807 then
   if (2 == (x0.length:Int))=true then
    bindC (r110 (([s2.1])++[s4.1]) v5.2 a2) fun v24=>
     (iterC (b111_5 s4 v24) 1000000000 (0,s4.2)).getD (.out none)
    else if 0≤2∧2<(x0.length:Int) then
     (iterC (b111_6 x0 a2 v5 s2 s4) 1000000000 ((x0.getD 2 default).1,s4.2)).getD (.out none)
     else .out none
   else .out none
  else .out (some (.next (IntKind.i64.wrap (s2.1+1),s4.2)))
def b111_2 (x0:L_II) (a2:Int) (v5:L_I×L_I):Bd (Int×(List (Int×Int))) (L_II×Int):=fun s2=>
 if (decide (s2.1≤((x0.getD 0 default).2)))=true then
  if (0+1)*8≤140737488355328∧0+1≤9223372036854775807 then
   if (1 == (x0.length:Int))=true then
    bindC (r110 [s2.1] v5.2 a2) fun v15=>
     (iterC (b111_3 s2 v15) 1000000000 (0,s2.2)).getD (.out none)
    else if 0≤1∧1<(x0.length:Int) then
     (iterC (b111_4 x0 a2 v5 s2) 1000000000 ((x0.getD 1 default).1,s2.2)).getD (.out none)
     else .out none
   else .out none
  else .out (some (s2.2,0))
def r111 (x1:Int) (x2:L_III) (x0:L_II) (x3:Int) (x4:L_B) (a2:Int):Option (L_II×Int):=
 (r194 x1 x2 x0).bind fun v1=>
  (r195 x1 x2 x3 x4).bind fun v2=>
   (r109 a2).bind fun v3=>
    (r106 [v1.2,v2,v3]).bind fun v4=>
     if (v4 != 0)=true then
      some ([],v4)
      else (r191 x1 x2 x3 x4).bind fun v5=>
       if (0 == (x0.length:Int))=true then
        (r110 [] v5.2 a2).bind fun v6=>
         iterC (b111_1 v6) 1000000000 (0,[])
        else if 0≤0∧0<(x0.length:Int) then
         iterC (b111_2 x0 a2 v5) 1000000000 ((x0.getD 0 default).1,[])
         else none
def T111:=qT56 qu32 false r111
attribute [go_sem] T111
def tb111:Fns:=lk [(106,T106.sp),(109,T109.sp),(110,T110.sp),(191,T191.sp),(194,T194.sp),(195,T195.sp)]
theorem tb111_ok:FnsOk Tryz.prog tb111:= .cons f106 (.cons f109 (.cons f110 (.cons f191 (.cons f194 (.cons f195 .nil)))))
theorem tk111:tb111 106=some T106.sp∧tb111 109=some T109.sp∧tb111 110=some T110.sp∧tb111 191=some T191.sp∧tb111 194=some T194.sp∧tb111 195=some T195.sp:=⟨rfl,rfl,rfl,rfl,rfl,rfl⟩
theorem can_snoc1 {α:Type} [Inhabited α] {s s':Nat} {f:α→List D} {a0 b:α} {c:List D} (h:eqvDs c (f b)):Go.Abs.Can s f [a0,b] (D.cat (encF s f [a0]) (D.ofList s' [c]))=True:=can_cat (l:=[a0]) (r:=[b]) (of_eq_true (can_enc _)) (of_eq_true (canW_ofList (by simp only [List.map_cons,List.map_nil,eqvLL]; exact ⟨h,trivial⟩)))
theorem can_snoc2 {α:Type} [Inhabited α] {s s':Nat} {f:α→List D} {a0 a1 b:α} {c:List D} (h:eqvDs c (f b)):Go.Abs.Can s f [a0,a1,b] (D.cat (encF s f [a0,a1]) (D.ofList s' [c]))=True:=can_cat (l:=[a0,a1]) (r:=[b]) (of_eq_true (can_enc _)) (of_eq_true (canW_ofList (by simp only [List.map_cons,List.map_nil,eqvLL]; exact ⟨h,trivial⟩)))
theorem can_snoc3 {α:Type} [Inhabited α] {s s':Nat} {f:α→List D} {a0 a1 a2 b:α} {c:List D} (h:eqvDs c (f b)):Go.Abs.Can s f [a0,a1,a2,b] (D.cat (encF s f [a0,a1,a2]) (D.ofList s' [c]))=True:=can_cat (l:=[a0,a1,a2]) (r:=[b]) (of_eq_true (can_enc _)) (of_eq_true (canW_ofList (by simp only [List.map_cons,List.map_nil,eqvLL]; exact ⟨h,trivial⟩)))
theorem can_snoc4 {α:Type} [Inhabited α] {s s':Nat} {f:α→List D} {a0 a1 a2 a3 b:α} {c:List D} (h:eqvDs c (f b)):Go.Abs.Can s f [a0,a1,a2,a3,b] (D.cat (encF s f [a0,a1,a2,a3]) (D.ofList s' [c]))=True:=can_cat (l:=[a0,a1,a2,a3]) (r:=[b]) (of_eq_true (can_enc _)) (of_eq_true (canW_ofList (by simp only [List.map_cons,List.map_nil,eqvLL]; exact ⟨h,trivial⟩)))
theorem can_snoc5 {α:Type} [Inhabited α] {s s':Nat} {f:α→List D} {a0 a1 a2 a3 a4 b:α} {c:List D} (h:eqvDs c (f b)):Go.Abs.Can s f [a0,a1,a2,a3,a4,b] (D.cat (encF s f [a0,a1,a2,a3,a4]) (D.ofList s' [c]))=True:=can_cat (l:=[a0,a1,a2,a3,a4]) (r:=[b]) (of_eq_true (can_enc _)) (of_eq_true (canW_ofList (by simp only [List.map_cons,List.map_nil,eqvLL]; exact ⟨h,trivial⟩)))
attribute [go_sem] can_snoc1 can_snoc2 can_snoc3 can_snoc4 can_snoc5
section
attribute [local go_sem] tk111 Tryz.results111 Tryz.results196 Tryz.results197
theorem f111:FnFact Tryz.prog 111 T111.sp:=by
 refine valid_m ty_ok tb111_ok Tryz.func111 rfl Tryz.ntmps111 fun ⟨x1,x2,x0,x3,x4,a2⟩ r hr=>⟨nL rfl,fun stop S=> ?_⟩
 replace hr:r111 x1 x2 x0 x3 x4 a2=some r:=hr
 unfold r111 at hr
 refine S.gx [7] ?_
 obtain ⟨v1,hv1,hr⟩:=of_bind0 hr
 try simp only [List.cons_append,List.nil_append] at hv1
 obtain ⟨v2,hv2,hr⟩:=of_bind0 hr
 try simp only [List.cons_append,List.nil_append] at hv2
 obtain ⟨v3,hv3,hr⟩:=of_bind0 hr
 try simp only [List.cons_append,List.nil_append] at hv3
 obtain ⟨v4,hv4,hr⟩:=of_bind0 hr
 try simp only [List.cons_append,List.nil_append] at hv4
 refine gb hv1 ?_
 refine gb hv2 ?_
 refine gb hv3 ?_
 refine gb hv4 ?_
 refine iW hr (fun hc hr=>D0 hr) fun hc hr=> ?_
 obtain ⟨v5,hv5,hr⟩:=of_bind0 hr
 try simp only [List.cons_append,List.nil_append] at hv5
 refine gb hv5 ?_
 refine S.inl 3 [11] [] Tryz.func196 (by decide) rfl Tryz.ntmps196 (fun cx e=>drawn_ok ty_ok tb111_ok cx e) (some 36) rfl rfl rfl rfl (nL rfl) (nL rfl) ?_
 refine gs ?_
 refine gr ?_
 intro stop1 S1
 refine S1.gx [2,7,7] ?_
 refine gr ?_
 refine iW hr (fun hc hr=> ?_) fun hc hr=> ?_
 ·refine gr ?_
  refine S1.inl 2 [6] [.ref 10 0,.ref 5 0,.ref 11 0] Tryz.func197 (by decide) rfl Tryz.ntmps197 (fun cx e=>drawn_ok ty_ok tb111_ok cx e) (some 16) rfl rfl rfl rfl (nL rfl) (nL rfl) ?_
  refine gs ?_
  refine gr ?_
  intro stop2 S2
  refine S2.gx [7] ?_
  obtain ⟨v6,hv6,hr⟩:=of_bind0 hr
  try simp only [List.cons_append,List.nil_append] at hv6
  refine gb hv6 ?_
  refine S2.own0b 11 0 2001100 2 rfl rfl (nL rfl) rfl ?_
  refine S2.sees [3,15,16,17] [(11,11)] [(2001100,2001100),(15,15)] ?_ (Stop.iter S2 (fun s1=>⟨[(3,.c (.ref 11 0)),(15,.c (.own 15)),(16,.c (.d (.int .i64 (v6.length:Int)))),(17,.c (.d (.int .i64 s1.1)))],[(11,[.own 2001100])],[(2001100,.owned (encF 2 d_II s1.2)),(15,.owned (encF 1 d_I v6))]⟩) (b111_1 v6) (fun q=>q=r) hr rfl ?_)
  ·exact lf
  ·intro s1 hr
   unfold b111_1 at hr
   refine S2.gx [7] ?_
   refine gr ?_
   refine iW1 hr (fun hc hr=> ?_) fun hc hr=> ?_
   ·obtain ⟨hg14,hr⟩:=of_guard1 hr
    refine gr ?_
    refine iW1 hr (fun hc hr=> ?_) fun hc hr=> ?_
    ·obtain ⟨hg10,hr⟩:=of_guard1 hr
     refine gr ?_
     refine S2.sees [3,7,8,15,16,17] [(11,11)] [(15,15),(31,31)] (st':=⟨[(3,.c (.ref 11 0)),(7,.c (.d (.int .i64 s1.1))),(8,.c (.d (.int .i64 (v6.getD s1.1.toNat default)))),(15,.c (.own 15)),(16,.c (.d (.int .i64 (v6.length:Int)))),(17,.c (.d (.int .i64 s1.1)))],[(11,[.own 31])],[(15,.owned (encF 1 d_I v6)),(31,.owned (encF 2 d_II (s1.2++[((v6.getD s1.1.toNat default),(v6.getD s1.1.toNat default))])))]⟩) ?_ ?_
     ·exact lf
     ·refine S2.gx [] ?_
      exact D1 (S2.ss [3,15,16,17] [(11,11)] [(31,2001100),(15,15)]) hr
    ·refine gr ?_
     refine S2.sees [3,7,8,15,16,17] [(11,11)] [(15,15),(2001100,2001100)] (st':=⟨[(3,.c (.ref 11 0)),(7,.c (.d (.int .i64 s1.1))),(8,.c (.d (.int .i64 (v6.getD s1.1.toNat default)))),(15,.c (.own 15)),(16,.c (.d (.int .i64 (v6.length:Int)))),(17,.c (.d (.int .i64 s1.1)))],[(11,[.own 2001100])],[(15,.owned (encF 1 d_I v6)),(2001100,.owned (encF 2 d_II s1.2))]⟩) ?_ ?_
     ·exact lf
     ·refine S2.gx [] ?_
      exact D1 (S2.ss [3,15,16,17] [(11,11)] [(2001100,2001100),(15,15)]) hr
   ·refine gr ?_
    have hr:=of_out0 hr
    refine gr ?_
    refine gr ?_
    refine S1.gx [2,7,7] ?_
    refine gr ?_
    refine gr ?_
    refine S.gx [7] ?_
    exact D0 hr
 ·obtain ⟨hg60,hr⟩:=of_guard0 hr
  refine gr ?_
  refine S1.own0b 11 0 2001100 2 rfl rfl (nL rfl) rfl ?_
  refine S1.sees [0,1,2,7,8] [(10,10),(5,5),(11,11),(7,7)] [(2001100,2001100),(32,32),(10032,10032)] ?_ (Stop.iter S1 (fun s2=>⟨[(0,.c (.d (encF 2 d_II x0))),(1,.c (.nils)),(2,.c (.clo 197 [.ref 10 0,.ref 5 0,.ref 11 0])),(7,.c (.ref 7 0)),(8,.c (.d (.int .i64 s2.1)))],[(10,[.own 32,.own 10032]),(5,[.d (.int .i64 a2)]),(11,[.own 2001100]),(7,[.d (.int .i64 ((x0.getD 0 default).1)),.d (.int .i64 ((x0.getD 0 default).2))])],[(2001100,.owned (encF 2 d_II s2.2)),(32,.owned (encF 1 d_I v5.1)),(10032,.owned (encF 1 d_I v5.2))]⟩) (b111_2 x0 a2 v5) (fun q=>q=r) hr rfl ?_)
  ·exact lf
  ·intro s2 hr
   unfold b111_2 at hr
   refine S1.gx [2,7,7] ?_
   refine gr ?_
   refine iW1 hr (fun hc hr=> ?_) fun hc hr=> ?_
   ·refine gr ?_
    refine S1.reg0 ?_
    refine S1.opsTo 0 2 (nL rfl) (nL rfl) ?_
    refine gs ?_
    refine gr ?_
    refine S1.clipO 2 31 32 rfl rfl rfl rfl (nL rfl) Tryz.func244 (by decide) rfl clip244 ?_
    refine gs ?_
    refine gr ?_
    refine S1.opsTo 3 7 (nL rfl) (nL rfl) ?_
    refine gs ?_
    obtain ⟨hg59,hr⟩:=of_guard1 hr
    refine gr ?_
    refine S1.inlO 7 [0,1,2,7,8] [] Tryz.func196 (by decide) rfl Tryz.ntmps196 (fun cx e=>drawn_ok ty_ok tb111_ok cx e) (some 37) rfl rfl rfl rfl (nL rfl) (nL rfl) ?_
    refine gs ?_
    refine gr ?_
    intro stop2 S2
    refine S2.gx [2,7,7] ?_
    refine gr ?_
    refine iW1 hr (fun hc hr=> ?_) fun hc hr=> ?_
    ·refine gr ?_
     refine S2.inl 2 [6] [.ref 10 0,.ref 5 0,.ref 11 0] Tryz.func197 (by decide) rfl Tryz.ntmps197 (fun cx e=>drawn_ok ty_ok tb111_ok cx e) (some 16) rfl rfl rfl rfl (nL rfl) (nL rfl) ?_
     refine gs ?_
     refine gr ?_
     intro stop3 S3
     refine S3.gx [7] ?_
     with_reducible obtain ⟨v15,hv15,hr⟩:=of_bind1 hr
     try simp only [List.cons_append,List.nil_append] at hv15
     refine gb hv15 ?_
     with_reducible obtain ⟨q3,hq,hr⟩:=of_iter1 hr
     refine S3.sees [3,15,16,17] [(11,11),(10,10),(5,5),(7,7)] [(15,15),(2001100,2001100),(32,32),(10032,10032)] ?_ (Stop.iter S3 (fun s3=>⟨[(3,.c (.ref 11 0)),(15,.c (.own 15)),(16,.c (.d (.int .i64 (v15.length:Int)))),(17,.c (.d (.int .i64 s3.1)))],[(11,[.own 2001100]),(10,[.own 32,.own 10032]),(5,[.d (.int .i64 a2)]),(7,[.d (.int .i64 ((x0.getD 0 default).1)),.d (.int .i64 ((x0.getD 0 default).2))])],[(15,.owned (encF 1 d_I v15)),(2001100,.owned (encF 2 d_II s3.2)),(32,.owned (encF 1 d_I v5.1)),(10032,.owned (encF 1 d_I v5.2))]⟩) (b111_3 s2 v15) _ hq hr ?_)
     ·exact lf
     ·intro s3 hr
      unfold b111_3 at hr
      refine S3.gx [7] ?_
      refine gr ?_
      refine iW1 hr (fun hc hr=> ?_) fun hc hr=> ?_
      ·obtain ⟨hg23,hr⟩:=of_guard1 hr
       refine gr ?_
       refine iW1 hr (fun hc hr=> ?_) fun hc hr=> ?_
       ·obtain ⟨hg19,hr⟩:=of_guard1 hr
        refine gr ?_
        refine S3.sees [3,7,8,15,16,17] [(11,11),(10,10),(5,5),(7,7)] [(15,15),(31,31),(32,32),(10032,10032)] (st':=⟨[(3,.c (.ref 11 0)),(7,.c (.d (.int .i64 s3.1))),(8,.c (.d (.int .i64 (v15.getD s3.1.toNat default)))),(15,.c (.own 15)),(16,.c (.d (.int .i64 (v15.length:Int)))),(17,.c (.d (.int .i64 s3.1)))],[(11,[.own 31]),(10,[.own 32,.own 10032]),(5,[.d (.int .i64 a2)]),(7,[.d (.int .i64 ((x0.getD 0 default).1)),.d (.int .i64 ((x0.getD 0 default).2))])],[(15,.owned (encF 1 d_I v15)),(31,.owned (encF 2 d_II (s3.2++[((v15.getD s3.1.toNat default),(v15.getD s3.1.toNat default))]))),(32,.owned (encF 1 d_I v5.1)),(10032,.owned (encF 1 d_I v5.2))]⟩) ?_ ?_
        ·exact lf
        ·refine S3.gx [] ?_
         exact D1 (S3.ss [3,15,16,17] [(11,11),(10,10),(5,5),(7,7)] [(15,15),(31,2001100),(32,32),(10032,10032)]) hr
       ·refine gr ?_
        refine S3.sees [3,7,8,15,16,17] [(11,11),(10,10),(5,5),(7,7)] [(15,15),(2001100,2001100),(32,32),(10032,10032)] (st':=⟨[(3,.c (.ref 11 0)),(7,.c (.d (.int .i64 s3.1))),(8,.c (.d (.int .i64 (v15.getD s3.1.toNat default)))),(15,.c (.own 15)),(16,.c (.d (.int .i64 (v15.length:Int)))),(17,.c (.d (.int .i64 s3.1)))],[(11,[.own 2001100]),(10,[.own 32,.own 10032]),(5,[.d (.int .i64 a2)]),(7,[.d (.int .i64 ((x0.getD 0 default).1)),.d (.int .i64 ((x0.getD 0 default).2))])],[(15,.owned (encF 1 d_I v15)),(2001100,.owned (encF 2 d_II s3.2)),(32,.owned (encF 1 d_I v5.1)),(10032,.owned (encF 1 d_I v5.2))]⟩) ?_ ?_
        ·exact lf
        ·refine S3.gx [] ?_
         exact D1 (S3.ss [3,15,16,17] [(11,11),(10,10),(5,5),(7,7)] [(15,15),(2001100,2001100),(32,32),(10032,10032)]) hr
      ·refine gr ?_
       replace hr:=goodC_out hr
       refine gr ?_
       refine gr ?_
       refine S2.gx [2,7,7] ?_
       refine gr ?_
       refine gr ?_
       refine S1.gx [2,7,7] ?_
       exact D1 (S1.ss [0,1,2,7,8] [(10,10),(5,5),(11,11),(7,7)] [(2001100,2001100),(32,32),(10032,10032)]) hr
    ·obtain ⟨hg58,hr⟩:=of_guard1 hr
     refine gr ?_
     refine S2.share 35 rfl ?_
     with_reducible obtain ⟨q4,hq,hr⟩:=of_iter1 hr
     refine S2.sees [0,1,2,7,8] [(10,10),(5,5),(11,11),(100007,100007),(7,7)] [(35,35),(32,32),(10032,10032),(2001100,2001100)] ?_ (Stop.iter S2 (fun s4=>⟨[(0,.c (.d (encF 2 d_II x0))),(1,.c (.own 35)),(2,.c (.clo 197 [.ref 10 0,.ref 5 0,.ref 11 0])),(7,.c (.ref 100007 0)),(8,.c (.d (.int .i64 s4.1)))],[(10,[.own 32,.own 10032]),(5,[.d (.int .i64 a2)]),(11,[.own 2001100]),(100007,[.d (.int .i64 ((x0.getD 1 default).1)),.d (.int .i64 ((x0.getD 1 default).2))]),(7,[.d (.int .i64 ((x0.getD 0 default).1)),.d (.int .i64 ((x0.getD 0 default).2))])],[(35,.shared (encF 1 d_I ([s2.1]))),(32,.owned (encF 1 d_I v5.1)),(10032,.owned (encF 1 d_I v5.2)),(2001100,.owned (encF 2 d_II s4.2))]⟩) (b111_4 x0 a2 v5 s2) _ hq hr ?_)
     ·exact lf
     ·intro s4 hr
      unfold b111_4 at hr
      refine S2.gx [2,7,7] ?_
      refine gr ?_
      refine iW1 hr (fun hc hr=> ?_) fun hc hr=> ?_
      ·refine gr ?_
       refine S2.reg0 ?_
       refine S2.opsTo 0 2 (nL rfl) (nL rfl) ?_
       refine gs ?_
       refine gr ?_
       refine S2.clipO 2 31 32 rfl rfl rfl rfl (nL rfl) Tryz.func244 (by decide) rfl clip244 ?_
       refine gs ?_
       refine gr ?_
       refine S2.opsTo 3 7 (nL rfl) (nL rfl) ?_
       refine gs ?_
       obtain ⟨hg57,hr⟩:=of_guard1 hr
       refine gr ?_
       refine S2.inlO 7 [0,1,2,7,8] [] Tryz.func196 (by decide) rfl Tryz.ntmps196 (fun cx e=>drawn_ok ty_ok tb111_ok cx e) (some 37) rfl rfl rfl rfl (nL rfl) (nL rfl) ?_
       refine gs ?_
       refine gr ?_
       intro stop3 S3
       refine S3.gx [2,7,7] ?_
       refine gr ?_
       refine iW1 hr (fun hc hr=> ?_) fun hc hr=> ?_
       ·refine gr ?_
        refine S3.inl 2 [6] [.ref 10 0,.ref 5 0,.ref 11 0] Tryz.func197 (by decide) rfl Tryz.ntmps197 (fun cx e=>drawn_ok ty_ok tb111_ok cx e) (some 16) rfl rfl rfl rfl (nL rfl) (nL rfl) ?_
        refine gs ?_
        refine gr ?_
        intro stop4 S4
        refine S4.gx [7] ?_
        with_reducible obtain ⟨v24,hv24,hr⟩:=of_bind1 hr
        try simp only [List.cons_append,List.nil_append] at hv24
        refine gb hv24 ?_
        with_reducible obtain ⟨q5,hq,hr⟩:=of_iter1 hr
        refine S4.sees [3,15,16,17] [(11,11),(10,10),(5,5),(100007,100007),(7,7)] [(15,15),(35,35),(2001100,2001100),(32,32),(10032,10032)] ?_ (Stop.iter S4 (fun s5=>⟨[(3,.c (.ref 11 0)),(15,.c (.own 15)),(16,.c (.d (.int .i64 (v24.length:Int)))),(17,.c (.d (.int .i64 s5.1)))],[(11,[.own 2001100]),(10,[.own 32,.own 10032]),(5,[.d (.int .i64 a2)]),(100007,[.d (.int .i64 ((x0.getD 1 default).1)),.d (.int .i64 ((x0.getD 1 default).2))]),(7,[.d (.int .i64 ((x0.getD 0 default).1)),.d (.int .i64 ((x0.getD 0 default).2))])],[(15,.owned (encF 1 d_I v24)),(35,.shared (encF 1 d_I ([s2.1]))),(2001100,.owned (encF 2 d_II s5.2)),(32,.owned (encF 1 d_I v5.1)),(10032,.owned (encF 1 d_I v5.2))]⟩) (b111_5 s4 v24) _ hq hr ?_)
        ·exact lf
        ·intro s5 hr
         unfold b111_5 at hr
         refine S4.gx [7] ?_
         refine gr ?_
         refine iW1 hr (fun hc hr=> ?_) fun hc hr=> ?_
         ·obtain ⟨hg32,hr⟩:=of_guard1 hr
          refine gr ?_
          refine iW1 hr (fun hc hr=> ?_) fun hc hr=> ?_
          ·obtain ⟨hg28,hr⟩:=of_guard1 hr
           refine gr ?_
           refine S4.sees [3,7,8,15,16,17] [(11,11),(10,10),(5,5),(100007,100007),(7,7)] [(15,15),(35,35),(31,31),(32,32),(10032,10032)] (st':=⟨[(3,.c (.ref 11 0)),(7,.c (.d (.int .i64 s5.1))),(8,.c (.d (.int .i64 (v24.getD s5.1.toNat default)))),(15,.c (.own 15)),(16,.c (.d (.int .i64 (v24.length:Int)))),(17,.c (.d (.int .i64 s5.1)))],[(11,[.own 31]),(10,[.own 32,.own 10032]),(5,[.d (.int .i64 a2)]),(100007,[.d (.int .i64 ((x0.getD 1 default).1)),.d (.int .i64 ((x0.getD 1 default).2))]),(7,[.d (.int .i64 ((x0.getD 0 default).1)),.d (.int .i64 ((x0.getD 0 default).2))])],[(15,.owned (encF 1 d_I v24)),(35,.shared (encF 1 d_I ([s2.1]))),(31,.owned (encF 2 d_II (s5.2++[((v24.getD s5.1.toNat default),(v24.getD s5.1.toNat default))]))),(32,.owned (encF 1 d_I v5.1)),(10032,.owned (encF 1 d_I v5.2))]⟩) ?_ ?_
           ·exact lf
           ·refine S4.gx [] ?_
            exact D1 (S4.ss [3,15,16,17] [(11,11),(10,10),(5,5),(100007,100007),(7,7)] [(15,15),(35,35),(31,2001100),(32,32),(10032,10032)]) hr
          ·refine gr ?_
           refine S4.sees [3,7,8,15,16,17] [(11,11),(10,10),(5,5),(100007,100007),(7,7)] [(15,15),(35,35),(2001100,2001100),(32,32),(10032,10032)] (st':=⟨[(3,.c (.ref 11 0)),(7,.c (.d (.int .i64 s5.1))),(8,.c (.d (.int .i64 (v24.getD s5.1.toNat default)))),(15,.c (.own 15)),(16,.c (.d (.int .i64 (v24.length:Int)))),(17,.c (.d (.int .i64 s5.1)))],[(11,[.own 2001100]),(10,[.own 32,.own 10032]),(5,[.d (.int .i64 a2)]),(100007,[.d (.int .i64 ((x0.getD 1 default).1)),.d (.int .i64 ((x0.getD 1 default).2))]),(7,[.d (.int .i64 ((x0.getD 0 default).1)),.d (.int .i64 ((x0.getD 0 default).2))])],[(15,.owned (encF 1 d_I v24)),(35,.shared (encF 1 d_I ([s2.1]))),(2001100,.owned (encF 2 d_II s5.2)),(32,.owned (encF 1 d_I v5.1)),(10032,.owned (encF 1 d_I v5.2))]⟩) ?_ ?_
           ·exact lf
           ·refine S4.gx [] ?_
            exact D1 (S4.ss [3,15,16,17] [(11,11),(10,10),(5,5),(100007,100007),(7,7)] [(15,15),(35,35),(2001100,2001100),(32,32),(10032,10032)]) hr
         ·refine gr ?_
          replace hr:=goodC_out hr
          refine gr ?_
          refine gr ?_
          refine S3.gx [2,7,7] ?_
          refine gr ?_
          refine gr ?_
          refine S2.gx [2,7,7] ?_
          exact D1 (S2.ss [0,1,2,7,8] [(10,10),(5,5),(11,11),(100007,100007),(7,7)] [(35,35),(32,32),(10032,10032),(2001100,2001100)]) hr
       ·obtain ⟨hg56,hr⟩:=of_guard1 hr
        refine gr ?_
        refine S3.share 100035 rfl ?_
        with_reducible obtain ⟨q6,hq,hr⟩:=of_iter1 hr
        refine S3.sees [0,1,2,7,8] [(10,10),(5,5),(11,11),(200007,200007),(100007,100007),(7,7)] [(100035,100035),(35,35),(32,32),(10032,10032),(2001100,2001100)] ?_ (Stop.iter S3 (fun s6=>⟨[(0,.c (.d (encF 2 d_II x0))),(1,.c (.own 100035)),(2,.c (.clo 197 [.ref 10 0,.ref 5 0,.ref 11 0])),(7,.c (.ref 200007 0)),(8,.c (.d (.int .i64 s6.1)))],[(10,[.own 32,.own 10032]),(5,[.d (.int .i64 a2)]),(11,[.own 2001100]),(200007,[.d (.int .i64 ((x0.getD 2 default).1)),.d (.int .i64 ((x0.getD 2 default).2))]),(100007,[.d (.int .i64 ((x0.getD 1 default).1)),.d (.int .i64 ((x0.getD 1 default).2))]),(7,[.d (.int .i64 ((x0.getD 0 default).1)),.d (.int .i64 ((x0.getD 0 default).2))])],[(100035,.shared (encF 1 d_I (([s2.1])++[s4.1]))),(35,.shared (encF 1 d_I ([s2.1]))),(32,.owned (encF 1 d_I v5.1)),(10032,.owned (encF 1 d_I v5.2)),(2001100,.owned (encF 2 d_II s6.2))]⟩) (b111_6 x0 a2 v5 s2 s4) _ hq hr ?_)
        ·exact lf
        ·intro s6 hr
         unfold b111_6 at hr
         refine S3.gx [2,7,7] ?_
         refine gr ?_
         refine iW1 hr (fun hc hr=> ?_) fun hc hr=> ?_
         ·refine gr ?_
          refine S3.reg0 ?_
          refine S3.opsTo 0 2 (nL rfl) (nL rfl) ?_
          refine gs ?_
          refine gr ?_
          refine S3.clipO 2 31 32 rfl rfl rfl rfl (nL rfl) Tryz.func244 (by decide) rfl clip244 ?_
          refine gs ?_
          refine gr ?_
          refine S3.opsTo 3 7 (nL rfl) (nL rfl) ?_
          refine gs ?_
          obtain ⟨hg55,hr⟩:=of_guard1 hr
          refine gr ?_
          refine S3.inlO 7 [0,1,2,7,8] [] Tryz.func196 (by decide) rfl Tryz.ntmps196 (fun cx e=>drawn_ok ty_ok tb111_ok cx e) (some 37) rfl rfl rfl rfl (nL rfl) (nL rfl) ?_
          refine gs ?_
          refine gr ?_
          intro stop4 S4
          refine S4.gx [2,7,7] ?_
          refine gr ?_
          refine iW1 hr (fun hc hr=> ?_) fun hc hr=> ?_
          ·refine gr ?_
           refine S4.inl 2 [6] [.ref 10 0,.ref 5 0,.ref 11 0] Tryz.func197 (by decide) rfl Tryz.ntmps197 (fun cx e=>drawn_ok ty_ok tb111_ok cx e) (some 16) rfl rfl rfl rfl (nL rfl) (nL rfl) ?_
           refine gs ?_
           refine gr ?_
           intro stop5 S5
           refine S5.gx [7] ?_
           with_reducible obtain ⟨v33,hv33,hr⟩:=of_bind1 hr
           try simp only [List.cons_append,List.nil_append] at hv33
           refine gb hv33 ?_
           with_reducible obtain ⟨q7,hq,hr⟩:=of_iter1 hr
           refine S5.sees [3,15,16,17] [(11,11),(10,10),(5,5),(200007,200007),(100007,100007),(7,7)] [(15,15),(100035,100035),(35,35),(2001100,2001100),(32,32),(10032,10032)] ?_ (Stop.iter S5 (fun s7=>⟨[(3,.c (.ref 11 0)),(15,.c (.own 15)),(16,.c (.d (.int .i64 (v33.length:Int)))),(17,.c (.d (.int .i64 s7.1)))],[(11,[.own 2001100]),(10,[.own 32,.own 10032]),(5,[.d (.int .i64 a2)]),(200007,[.d (.int .i64 ((x0.getD 2 default).1)),.d (.int .i64 ((x0.getD 2 default).2))]),(100007,[.d (.int .i64 ((x0.getD 1 default).1)),.d (.int .i64 ((x0.getD 1 default).2))]),(7,[.d (.int .i64 ((x0.getD 0 default).1)),.d (.int .i64 ((x0.getD 0 default).2))])],[(15,.owned (encF 1 d_I v33)),(100035,.shared (encF 1 d_I (([s2.1])++[s4.1]))),(35,.shared (encF 1 d_I ([s2.1]))),(2001100,.owned (encF 2 d_II s7.2)),(32,.owned (encF 1 d_I v5.1)),(10032,.owned (encF 1 d_I v5.2))]⟩) (b111_7 s6 v33) _ hq hr ?_)
           ·exact lf
           ·intro s7 hr
            unfold b111_7 at hr
            refine S5.gx [7] ?_
            refine gr ?_
            refine iW1 hr (fun hc hr=> ?_) fun hc hr=> ?_
            ·obtain ⟨hg41,hr⟩:=of_guard1 hr
             refine gr ?_
             refine iW1 hr (fun hc hr=> ?_) fun hc hr=> ?_
             ·obtain ⟨hg37,hr⟩:=of_guard1 hr
              refine gr ?_
              refine S5.sees [3,7,8,15,16,17] [(11,11),(10,10),(5,5),(200007,200007),(100007,100007),(7,7)] [(15,15),(100035,100035),(35,35),(31,31),(32,32),(10032,10032)] (st':=⟨[(3,.c (.ref 11 0)),(7,.c (.d (.int .i64 s7.1))),(8,.c (.d (.int .i64 (v33.getD s7.1.toNat default)))),(15,.c (.own 15)),(16,.c (.d (.int .i64 (v33.length:Int)))),(17,.c (.d (.int .i64 s7.1)))],[(11,[.own 31]),(10,[.own 32,.own 10032]),(5,[.d (.int .i64 a2)]),(200007,[.d (.int .i64 ((x0.getD 2 default).1)),.d (.int .i64 ((x0.getD 2 default).2))]),(100007,[.d (.int .i64 ((x0.getD 1 default).1)),.d (.int .i64 ((x0.getD 1 default).2))]),(7,[.d (.int .i64 ((x0.getD 0 default).1)),.d (.int .i64 ((x0.getD 0 default).2))])],[(15,.owned (encF 1 d_I v33)),(100035,.shared (encF 1 d_I (([s2.1])++[s4.1]))),(35,.shared (encF 1 d_I ([s2.1]))),(31,.owned (encF 2 d_II (s7.2++[((v33.getD s7.1.toNat default),(v33.getD s7.1.toNat default))]))),(32,.owned (encF 1 d_I v5.1)),(10032,.owned (encF 1 d_I v5.2))]⟩) ?_ ?_
              ·exact lf
              ·refine S5.gx [] ?_
               exact D1 (S5.ss [3,15,16,17] [(11,11),(10,10),(5,5),(200007,200007),(100007,100007),(7,7)] [(15,15),(100035,100035),(35,35),(31,2001100),(32,32),(10032,10032)]) hr
             ·refine gr ?_
              refine S5.sees [3,7,8,15,16,17] [(11,11),(10,10),(5,5),(200007,200007),(100007,100007),(7,7)] [(15,15),(100035,100035),(35,35),(2001100,2001100),(32,32),(10032,10032)] (st':=⟨[(3,.c (.ref 11 0)),(7,.c (.d (.int .i64 s7.1))),(8,.c (.d (.int .i64 (v33.getD s7.1.toNat default)))),(15,.c (.own 15)),(16,.c (.d (.int .i64 (v33.length:Int)))),(17,.c (.d (.int .i64 s7.1)))],[(11,[.own 2001100]),(10,[.own 32,.own 10032]),(5,[.d (.int .i64 a2)]),(200007,[.d (.int .i64 ((x0.getD 2 default).1)),.d (.int .i64 ((x0.getD 2 default).2))]),(100007,[.d (.int .i64 ((x0.getD 1 default).1)),.d (.int .i64 ((x0.getD 1 default).2))]),(7,[.d (.int .i64 ((x0.getD 0 default).1)),.d (.int .i64 ((x0.getD 0 default).2))])],[(15,.owned (encF 1 d_I v33)),(100035,.shared (encF 1 d_I (([s2.1])++[s4.1]))),(35,.shared (encF 1 d_I ([s2.1]))),(2001100,.owned (encF 2 d_II s7.2)),(32,.owned (encF 1 d_I v5.1)),(10032,.owned (encF 1 d_I v5.2))]⟩) ?_ ?_
              ·exact lf
              ·refine S5.gx [] ?_
               exact D1 (S5.ss [3,15,16,17] [(11,11),(10,10),(5,5),(200007,200007),(100007,100007),(7,7)] [(15,15),(100035,100035),(35,35),(2001100,2001100),(32,32),(10032,10032)]) hr
            ·refine gr ?_
             replace hr:=goodC_out hr
             refine gr ?_
             refine gr ?_
             refine S4.gx [2,7,7] ?_
             refine gr ?_
             refine gr ?_
             refine S3.gx [2,7,7] ?_
             exact D1 (S3.ss [0,1,2,7,8] [(10,10),(5,5),(11,11),(200007,200007),(100007,100007),(7,7)] [(100035,100035),(35,35),(32,32),(10032,10032),(2001100,2001100)]) hr
          ·obtain ⟨hg54,hr⟩:=of_guard1 hr
           refine gr ?_
           refine S4.share 200035 rfl ?_
           with_reducible obtain ⟨q8,hq,hr⟩:=of_iter1 hr
           refine S4.sees [0,1,2,7,8] [(10,10),(5,5),(11,11),(300007,300007),(200007,200007),(100007,100007),(7,7)] [(200035,200035),(100035,100035),(35,35),(32,32),(10032,10032),(2001100,2001100)] ?_ (Stop.iter S4 (fun s8=>⟨[(0,.c (.d (encF 2 d_II x0))),(1,.c (.own 200035)),(2,.c (.clo 197 [.ref 10 0,.ref 5 0,.ref 11 0])),(7,.c (.ref 300007 0)),(8,.c (.d (.int .i64 s8.1)))],[(10,[.own 32,.own 10032]),(5,[.d (.int .i64 a2)]),(11,[.own 2001100]),(300007,[.d (.int .i64 ((x0.getD 3 default).1)),.d (.int .i64 ((x0.getD 3 default).2))]),(200007,[.d (.int .i64 ((x0.getD 2 default).1)),.d (.int .i64 ((x0.getD 2 default).2))]),(100007,[.d (.int .i64 ((x0.getD 1 default).1)),.d (.int .i64 ((x0.getD 1 default).2))]),(7,[.d (.int .i64 ((x0.getD 0 default).1)),.d (.int .i64 ((x0.getD 0 default).2))])],[(200035,.shared (encF 1 d_I ((([s2.1])++[s4.1])++[s6.1]))),(100035,.shared (encF 1 d_I (([s2.1])++[s4.1]))),(35,.shared (encF 1 d_I ([s2.1]))),(32,.owned (encF 1 d_I v5.1)),(10032,.owned (encF 1 d_I v5.2)),(2001100,.owned (encF 2 d_II s8.2))]⟩) (b111_8 x0 a2 v5 s2 s4 s6) _ hq hr ?_)
           ·exact lf
           ·intro s8 hr
            unfold b111_8 at hr
            refine S4.gx [2,7,7] ?_
            refine gr ?_
            refine iW1 hr (fun hc hr=> ?_) fun hc hr=> ?_
            ·refine gr ?_
             refine S4.reg0 ?_
             refine S4.opsTo 0 2 (nL rfl) (nL rfl) ?_
             refine gs ?_
             refine gr ?_
             refine S4.clipO 2 31 32 rfl rfl rfl rfl (nL rfl) Tryz.func244 (by decide) rfl clip244 ?_
             refine gs ?_
             refine gr ?_
             refine S4.opsTo 3 7 (nL rfl) (nL rfl) ?_
             refine gs ?_
             obtain ⟨hg53,hr⟩:=of_guard1 hr
             refine gr ?_
             refine S4.inlO 7 [0,1,2,7,8] [] Tryz.func196 (by decide) rfl Tryz.ntmps196 (fun cx e=>drawn_ok ty_ok tb111_ok cx e) (some 37) rfl rfl rfl rfl (nL rfl) (nL rfl) ?_
             refine gs ?_
             refine gr ?_
             intro stop5 S5
             refine S5.gx [2,7,7] ?_
             refine gr ?_
             refine iW1 hr (fun hc hr=> ?_) fun hc hr=> ?_
             ·refine gr ?_
              refine S5.inl 2 [6] [.ref 10 0,.ref 5 0,.ref 11 0] Tryz.func197 (by decide) rfl Tryz.ntmps197 (fun cx e=>drawn_ok ty_ok tb111_ok cx e) (some 16) rfl rfl rfl rfl (nL rfl) (nL rfl) ?_
              refine gs ?_
              refine gr ?_
              intro stop6 S6
              refine S6.gx [7] ?_
              with_reducible obtain ⟨v42,hv42,hr⟩:=of_bind1 hr
              try simp only [List.cons_append,List.nil_append] at hv42
              refine gb hv42 ?_
              with_reducible obtain ⟨q9,hq,hr⟩:=of_iter1 hr
              refine S6.sees [3,15,16,17] [(11,11),(10,10),(5,5),(300007,300007),(200007,200007),(100007,100007),(7,7)] [(15,15),(200035,200035),(100035,100035),(35,35),(2001100,2001100),(32,32),(10032,10032)] ?_ (Stop.iter S6 (fun s9=>⟨[(3,.c (.ref 11 0)),(15,.c (.own 15)),(16,.c (.d (.int .i64 (v42.length:Int)))),(17,.c (.d (.int .i64 s9.1)))],[(11,[.own 2001100]),(10,[.own 32,.own 10032]),(5,[.d (.int .i64 a2)]),(300007,[.d (.int .i64 ((x0.getD 3 default).1)),.d (.int .i64 ((x0.getD 3 default).2))]),(200007,[.d (.int .i64 ((x0.getD 2 default).1)),.d (.int .i64 ((x0.getD 2 default).2))]),(100007,[.d (.int .i64 ((x0.getD 1 default).1)),.d (.int .i64 ((x0.getD 1 default).2))]),(7,[.d (.int .i64 ((x0.getD 0 default).1)),.d (.int .i64 ((x0.getD 0 default).2))])],[(15,.owned (encF 1 d_I v42)),(200035,.shared (encF 1 d_I ((([s2.1])++[s4.1])++[s6.1]))),(100035,.shared (encF 1 d_I (([s2.1])++[s4.1]))),(35,.shared (encF 1 d_I ([s2.1]))),(2001100,.owned (encF 2 d_II s9.2)),(32,.owned (encF 1 d_I v5.1)),(10032,.owned (encF 1 d_I v5.2))]⟩) (b111_9 s8 v42) _ hq hr ?_)
              ·exact lf
              ·intro s9 hr
               unfold b111_9 at hr
               refine S6.gx [7] ?_
               refine gr ?_
               refine iW1 hr (fun hc hr=> ?_) fun hc hr=> ?_
               ·obtain ⟨hg50,hr⟩:=of_guard1 hr
                refine gr ?_
                refine iW1 hr (fun hc hr=> ?_) fun hc hr=> ?_
                ·obtain ⟨hg46,hr⟩:=of_guard1 hr
                 refine gr ?_
                 refine S6.sees [3,7,8,15,16,17] [(11,11),(10,10),(5,5),(300007,300007),(200007,200007),(100007,100007),(7,7)] [(15,15),(200035,200035),(100035,100035),(35,35),(31,31),(32,32),(10032,10032)] (st':=⟨[(3,.c (.ref 11 0)),(7,.c (.d (.int .i64 s9.1))),(8,.c (.d (.int .i64 (v42.getD s9.1.toNat default)))),(15,.c (.own 15)),(16,.c (.d (.int .i64 (v42.length:Int)))),(17,.c (.d (.int .i64 s9.1)))],[(11,[.own 31]),(10,[.own 32,.own 10032]),(5,[.d (.int .i64 a2)]),(300007,[.d (.int .i64 ((x0.getD 3 default).1)),.d (.int .i64 ((x0.getD 3 default).2))]),(200007,[.d (.int .i64 ((x0.getD 2 default).1)),.d (.int .i64 ((x0.getD 2 default).2))]),(100007,[.d (.int .i64 ((x0.getD 1 default).1)),.d (.int .i64 ((x0.getD 1 default).2))]),(7,[.d (.int .i64 ((x0.getD 0 default).1)),.d (.int .i64 ((x0.getD 0 default).2))])],[(15,.owned (encF 1 d_I v42)),(200035,.shared (encF 1 d_I ((([s2.1])++[s4.1])++[s6.1]))),(100035,.shared (encF 1 d_I (([s2.1])++[s4.1]))),(35,.shared (encF 1 d_I ([s2.1]))),(31,.owned (encF 2 d_II (s9.2++[((v42.getD s9.1.toNat default),(v42.getD s9.1.toNat default))]))),(32,.owned (encF 1 d_I v5.1)),(10032,.owned (encF 1 d_I v5.2))]⟩) ?_ ?_
                 ·exact lf
                 ·refine S6.gx [] ?_
                  exact D1 (S6.ss [3,15,16,17] [(11,11),(10,10),(5,5),(300007,300007),(200007,200007),(100007,100007),(7,7)] [(15,15),(200035,200035),(100035,100035),(35,35),(31,2001100),(32,32),(10032,10032)]) hr
                ·refine gr ?_
                 refine S6.sees [3,7,8,15,16,17] [(11,11),(10,10),(5,5),(300007,300007),(200007,200007),(100007,100007),(7,7)] [(15,15),(200035,200035),(100035,100035),(35,35),(2001100,2001100),(32,32),(10032,10032)] (st':=⟨[(3,.c (.ref 11 0)),(7,.c (.d (.int .i64 s9.1))),(8,.c (.d (.int .i64 (v42.getD s9.1.toNat default)))),(15,.c (.own 15)),(16,.c (.d (.int .i64 (v42.length:Int)))),(17,.c (.d (.int .i64 s9.1)))],[(11,[.own 2001100]),(10,[.own 32,.own 10032]),(5,[.d (.int .i64 a2)]),(300007,[.d (.int .i64 ((x0.getD 3 default).1)),.d (.int .i64 ((x0.getD 3 default).2))]),(200007,[.d (.int .i64 ((x0.getD 2 default).1)),.d (.int .i64 ((x0.getD 2 default).2))]),(100007,[.d (.int .i64 ((x0.getD 1 default).1)),.d (.int .i64 ((x0.getD 1 default).2))]),(7,[.d (.int .i64 ((x0.getD 0 default).1)),.d (.int .i64 ((x0.getD 0 default).2))])],[(15,.owned (encF 1 d_I v42)),(200035,.shared (encF 1 d_I ((([s2.1])++[s4.1])++[s6.1]))),(100035,.shared (encF 1 d_I (([s2.1])++[s4.1]))),(35,.shared (encF 1 d_I ([s2.1]))),(2001100,.owned (encF 2 d_II s9.2)),(32,.owned (encF 1 d_I v5.1)),(10032,.owned (encF 1 d_I v5.2))]⟩) ?_ ?_
                 ·exact lf
                 ·refine S6.gx [] ?_
                  exact D1 (S6.ss [3,15,16,17] [(11,11),(10,10),(5,5),(300007,300007),(200007,200007),(100007,100007),(7,7)] [(15,15),(200035,200035),(100035,100035),(35,35),(2001100,2001100),(32,32),(10032,10032)]) hr
               ·refine gr ?_
                replace hr:=goodC_out hr
                refine gr ?_
                refine gr ?_
                refine S5.gx [2,7,7] ?_
                refine gr ?_
                refine gr ?_
                refine S4.gx [2,7,7] ?_
                exact D1 (S4.ss [0,1,2,7,8] [(10,10),(5,5),(11,11),(300007,300007),(200007,200007),(100007,100007),(7,7)] [(200035,200035),(100035,100035),(35,35),(32,32),(10032,10032),(2001100,2001100)]) hr
             ·obtain ⟨hg52,hr⟩:=of_guard1 hr
              refine gr ?_
              with_reducible obtain ⟨q10,hq,hr⟩:=of_iter1 hr
              refine S5.sees [0,1,2,7,8] [(10,10),(5,5),(11,11),(400007,400007),(300007,300007),(200007,200007),(100007,100007),(7,7)] [(300035,300035),(200035,200035),(100035,100035),(35,35),(32,32),(10032,10032),(2001100,2001100)] ?_ (Stop.iter S5 (fun s10=>⟨[(0,.c (.d (encF 2 d_II x0))),(1,.c (.own 300035)),(2,.c (.clo 197 [.ref 10 0,.ref 5 0,.ref 11 0])),(7,.c (.ref 400007 0)),(8,.c (.d (.int .i64 ((x0.getD 4 default).1))))],[(10,[.own 32,.own 10032]),(5,[.d (.int .i64 a2)]),(11,[.own 2001100]),(400007,[.d (.int .i64 ((x0.getD 4 default).1)),.d (.int .i64 ((x0.getD 4 default).2))]),(300007,[.d (.int .i64 ((x0.getD 3 default).1)),.d (.int .i64 ((x0.getD 3 default).2))]),(200007,[.d (.int .i64 ((x0.getD 2 default).1)),.d (.int .i64 ((x0.getD 2 default).2))]),(100007,[.d (.int .i64 ((x0.getD 1 default).1)),.d (.int .i64 ((x0.getD 1 default).2))]),(7,[.d (.int .i64 ((x0.getD 0 default).1)),.d (.int .i64 ((x0.getD 0 default).2))])],[(300035,.owned (encF 1 d_I (((([s2.1])++[s4.1])++[s6.1])++[s8.1]))),(200035,.shared (encF 1 d_I ((([s2.1])++[s4.1])++[s6.1]))),(100035,.shared (encF 1 d_I (([s2.1])++[s4.1]))),(35,.shared (encF 1 d_I ([s2.1]))),(32,.owned (encF 1 d_I v5.1)),(10032,.owned (encF 1 d_I v5.2)),(2001100,.owned (encF 2 d_II s8.2))]⟩) (b111_10 x0 s8) _ hq hr ?_)
              ·exact lf
              ·intro s10 hr
               unfold b111_10 at hr
               refine S5.gx [2,7,7] ?_
               refine gr ?_
               refine iW1 hr (fun hc hr=> ?_) fun hc hr=> ?_
               ·refine gr ?_
                refine S5.reg0 ?_
                refine S5.opsTo 0 2 (nL rfl) (nL rfl) ?_
                refine gs ?_
                refine gr ?_
                refine S5.share 300035 rfl ?_
                refine S5.clipO 2 31 32 rfl rfl rfl rfl (nL rfl) Tryz.func244 (by decide) rfl clip244 ?_
                refine gs ?_
                refine gr ?_
                refine S5.opsTo 3 7 (nL rfl) (nL rfl) ?_
                refine gs ?_
                obtain ⟨hg51,hr⟩:=of_guard1 hr
                refine gr ?_
                refine gr ?_
                first | cases hr | exact hr.elim
               ·refine gr ?_
                replace hr:=goodC_out hr
                refine gr ?_
                refine gr ?_
                refine S4.gx [2,7,7] ?_
                exact D1 (S4.ss [0,1,2,7,8] [(10,10),(5,5),(11,11),(300007,300007),(200007,200007),(100007,100007),(7,7)] [(200035,200035),(100035,100035),(35,35),(32,32),(10032,10032),(2001100,2001100)]) hr
            ·refine gr ?_
             replace hr:=goodC_out hr
             refine gr ?_
             refine gr ?_
             refine S3.gx [2,7,7] ?_
             exact D1 (S3.ss [0,1,2,7,8] [(10,10),(5,5),(11,11),(200007,200007),(100007,100007),(7,7)] [(100035,100035),(35,35),(32,32),(10032,10032),(2001100,2001100)]) hr
         ·refine gr ?_
          replace hr:=goodC_out hr
          refine gr ?_
          refine gr ?_
          refine S2.gx [2,7,7] ?_
          exact D1 (S2.ss [0,1,2,7,8] [(10,10),(5,5),(11,11),(100007,100007),(7,7)] [(35,35),(32,32),(10032,10032),(2001100,2001100)]) hr
      ·refine gr ?_
       replace hr:=goodC_out hr
       refine gr ?_
       refine gr ?_
       refine S1.gx [2,7,7] ?_
       exact D1 (S1.ss [0,1,2,7,8] [(10,10),(5,5),(11,11),(7,7)] [(2001100,2001100),(32,32),(10032,10032)]) hr
   ·refine gr ?_
    have hr:=of_out0 hr
    refine gr ?_
    refine gr ?_
    refine S.gx [7] ?_
    exact D0 hr
end
def b114_3 (x0:L_II) (s1:Int×(List (Int×L_III))) (s2:(List (Int×L_III))×Int):Bd (Int×(List (Int×L_III))) (Ctl ((List (Int×L_III))×Int) (Ctl (Int×(List (Int×L_III))) (L_ILIIIE))):=fun s3=>
 if 0≤s1.1∧s1.1<(x0.length:Int) then
  if (decide (s3.1≤((x0.getD s1.1.toNat default).2)))=true then
   if 0≤s2.2∧s2.2<(s1.2.length:Int) then
    bindC (r29 ((s1.2.getD s2.2.toNat default).1) ((s1.2.getD s2.2.toNat default).2)) fun v2=>
     if 0≤s1.1∧s1.1<(v2.2.length:Int) then
      if (s3.2.length+1)*32≤140737488355328∧s3.2.length+1≤9223372036854775807 then
       .next (IntKind.i64.wrap (s3.1+1),s3.2++[(v2.1,v2.2.set s1.1.toNat (s3.1,(v2.2.getD s1.1.toNat default).2.1,(v2.2.getD s1.1.toNat default).2.2))])
       else .out none
      else .out none
    else .out none
   else .out (some (.next (s3.2,IntKind.i64.wrap (s2.2+1))))
  else .out none
def b114_2 (x0:L_II) (s1:Int×(List (Int×L_III))):Bd ((List (Int×L_III))×Int) (Ctl (Int×(List (Int×L_III))) (L_ILIIIE)):=fun s2=>
 if (decide (s2.2<(s1.2.length:Int)))=true then
  if 0≤s1.1∧s1.1<(x0.length:Int) then
   (iterC (b114_3 x0 s1 s2) 1000000000 ((x0.getD s1.1.toNat default).1,s2.1)).getD (.out none)
   else .out none
  else .out (some (.next (IntKind.i64.wrap (s1.1+1),s2.1)))
def b114_1 (x0:L_II):Bd (Int×(List (Int×L_III))) L_ILIIIE:=fun s1=>
 if (decide (s1.1<(x0.length:Int)))=true then
  (iterC (b114_2 x0 s1) 1000000000 ([],0)).getD (.out none)
  else .out (some s1.2)
def r114 (x1:Int) (x2:L_III) (x0:L_II):Option (L_ILIIIE):=
 (r29 x1 x2).bind fun v1=>
  iterC (b114_1 x0) 1000000000 (0,[(v1.1,v1.2)])
def T114:=qT38 qu33 true r114
attribute [go_sem] T114
def tb114:Fns:=lk [(29,T29.sp)]
theorem tb114_ok:FnsOk Tryz.prog tb114:= .cons f29 .nil
theorem tk114:tb114 29=some T29.sp:=rfl
section
attribute [local go_sem] tk114 Tryz.results114
theorem f114:FnFact Tryz.prog 114 T114.sp:=by
 refine valid_m ty_ok tb114_ok Tryz.func114 rfl Tryz.ntmps114 fun ⟨x1,x2,x0⟩ r hr=>⟨nL rfl,fun stop S=> ?_⟩
 replace hr:r114 x1 x2 x0=some r:=hr
 unfold r114 at hr
 refine S.gx [] ?_
 obtain ⟨v1,hv1,hr⟩:=of_bind0 hr
 refine gb hv1 ?_
 refine S.sees [1,3,4] [(1,1)] [(12,12)] ?_ (Stop.iter S (fun s1=>⟨[(1,.c (.ref 1 0)),(3,.c (.own 12)),(4,.c (.d (.int .i64 s1.1)))],[(1,[.d (.int .i64 x1),.d (encF 3 d_III x2),.d (encF 2 d_II x0)])],[(12,.owned (encF 2 d_ILIIIE s1.2))]⟩) (b114_1 x0) (fun q=>q=r) hr rfl ?_)
 ·exact lf
 ·intro s1 hr
  unfold b114_1 at hr
  refine S.gx [] ?_
  refine gr ?_
  refine iW1 hr (fun hc hr=> ?_) fun hc hr=>D0 hr
  refine gr ?_
  refine S.own0 5 1000500 2 rfl rfl ?_
  obtain ⟨q2,hq,hr⟩:=of_iter1 hr
  refine S.sees [1,3,4,5,6] [(1,1)] [(1000500,1000500),(12,12)] ?_ (Stop.iter S (fun s2=>⟨[(1,.c (.ref 1 0)),(3,.c (.own 12)),(4,.c (.d (.int .i64 s1.1))),(5,.c (.own 1000500)),(6,.c (.d (.int .i64 s2.2)))],[(1,[.d (.int .i64 x1),.d (encF 3 d_III x2),.d (encF 2 d_II x0)])],[(1000500,.owned (encF 2 d_ILIIIE s2.1)),(12,.owned (encF 2 d_ILIIIE s1.2))]⟩) (b114_2 x0 s1) _ hq hr ?_)
  ·exact lf
  ·intro s2 hr
   unfold b114_2 at hr
   refine S.gx [] ?_
   refine gr ?_
   refine iW1 hr (fun hc hr=> ?_) fun hc hr=> ?_
   ·obtain ⟨hg7,hr⟩:=of_guard1 hr
    refine gr ?_
    obtain ⟨q3,hq,hr⟩:=of_iter1 hr
    refine S.sees [1,3,4,5,6,7] [(1,1)] [(12,12),(1000500,1000500)] ?_ (Stop.iter S (fun s3=>⟨[(1,.c (.ref 1 0)),(3,.c (.own 12)),(4,.c (.d (.int .i64 s1.1))),(5,.c (.own 1000500)),(6,.c (.d (.int .i64 s2.2))),(7,.c (.d (.int .i64 s3.1)))],[(1,[.d (.int .i64 x1),.d (encF 3 d_III x2),.d (encF 2 d_II x0)])],[(12,.owned (encF 2 d_ILIIIE s1.2)),(1000500,.owned (encF 2 d_ILIIIE s3.2))]⟩) (b114_3 x0 s1 s2) _ hq hr ?_)
    ·exact lf
    ·intro s3 hr
     unfold b114_3 at hr
     refine S.gx [] ?_
     obtain ⟨hg6,hr⟩:=of_guard1 hr
     refine gr ?_
     refine iW1 hr (fun hc hr=>D1 (S.ss [1,3,4,5,6,7] [(1,1)] [(12,12),(56,1000500)]) hr) fun hc hr=> ?_
     refine gr ?_
     replace hr:=goodC_out hr
     exact D1 (S.ss [1,3,4,5,6] [(1,1)] [(1000500,1000500),(12,12)]) hr
   ·refine gr ?_
    replace hr:=goodC_out hr
    exact D1 (S.ss [1,3,4] [(1,1)] [(1000500,12)]) hr
end
def r55 (a0 a1:Int):Option (Int):=
 if a1≠0 then
  if (decide ((a0.tmod a1)<0))=true then
   some (IntKind.i64.wrap ((a0.tmod a1)+a1))
   else some (a0.tmod a1)
  else none
def T55:=qT17 qu3 false r55
attribute [go_sem] T55
def tb55:Fns:=lk []
theorem tb55_ok:FnsOk Tryz.prog tb55:=FnsOk.nil
section
attribute [local go_sem] Tryz.results55
theorem f55:FnFact Tryz.prog 55 T55.sp:=by
 refine valid_m ty_ok tb55_ok Tryz.func55 rfl Tryz.ntmps55 fun ⟨a0,a1⟩ r hr=>⟨nL rfl,fun stop S=> ?_⟩
 replace hr:r55 a0 a1=some r:=hr
 unfold r55 at hr
 refine S.gx [] ?_
 exact D0 hr
end
def b115_1 (x1 x2:Int) (x3:L_II) (x4:L_LIIE) (x0:L_II) (x6 x5:Int):Bd Int Int:=fun s1=>
 if (decide (s1<(x0.length:Int)))=true then
  if 0≤s1∧s1<(x0.length:Int) then
   bindC (r11 ((x0.getD s1.toNat default).1) 0 10000) fun v1=>
    if (!(!v1))=true→0≤s1∧s1<(x0.length:Int) then
     if (!(!v1))=true→(r11 ((x0.getD s1.toNat default).2) 0 10000).isSome=true then
      if ((!v1) || (!((r11 ((x0.getD s1.toNat default).2) 0 10000).getD default)))=true then
       .out (some 2)
       else if 0≤s1∧s1<(x0.length:Int) then
        if 0≤s1∧s1<(x0.length:Int) then
         if (decide (((x0.getD s1.toNat default).1)>((x0.getD s1.toNat default).2)))=true then
          .out (some 9)
          else .next (IntKind.i64.wrap (s1+1))
         else .out none
        else .out none
      else .out none
     else .out none
   else .out none
  else .out ((r10 x1 x2 x3 x4 x6).bind fun v7=>
   if (!(v7 != 0))=true→(r10 x1 x2 x3 x4 x5).isSome=true then
    if ((v7 != 0) || (((r10 x1 x2 x3 x4 x5).getD default) != 0))=true then
     some 6
     else if (decide (x6>x5))=true then
      some 9
      else some 0
    else none)
def r115 (x1 x2:Int) (x3:L_II) (x4:L_LIIE) (x0:L_II) (x6 x5:Int):Option (Int):=
 if ((x0.length:Int) != x1)=true then
  some 10
  else iterC (b115_1 x1 x2 x3 x4 x0 x6 x5) 1000000000 0
def T115:=qT57 qu3 false r115
attribute [go_sem] T115
def tb115:Fns:=lk [(10,T10.sp),(11,T11.sp)]
theorem tb115_ok:FnsOk Tryz.prog tb115:= .cons f10 (.cons f11 .nil)
theorem tk115:tb115 10=some T10.sp∧tb115 11=some T11.sp:=⟨rfl,rfl⟩
section
attribute [local go_sem] tk115 Tryz.results115
theorem f115:FnFact Tryz.prog 115 T115.sp:=by
 refine valid_m ty_ok tb115_ok Tryz.func115 rfl Tryz.ntmps115 fun ⟨x1,x2,x3,x4,x0,x6,x5⟩ r hr=>⟨nL rfl,fun stop S=> ?_⟩
 replace hr:r115 x1 x2 x3 x4 x0 x6 x5=some r:=hr
 unfold r115 at hr
 refine S.gx [5,9] ?_
 refine gr ?_
 refine iW hr (fun hc hr=>D0 hr) fun hc hr=> ?_
 refine gr ?_
 refine S.sees [2,3,5] [(2,2),(3,3)] [] ?_ (Stop.iter S (fun s1=>⟨[(2,.c (.ref 2 0)),(3,.c (.ref 3 0)),(5,.c (.d (.int .i64 s1)))],[(2,[.d (.int .i64 x1),.d (.int .i64 x2),.d (encF 2 d_II x3),.d (encF 1 d_LIIE x4)]),(3,[.d (encF 2 d_II x0),.d (.int .i64 x6),.d (.int .i64 x5)])],[]⟩) (b115_1 x1 x2 x3 x4 x0 x6 x5) (fun q=>q=r) hr rfl ?_)
 ·exact lf
 ·intro s1 hr
  unfold b115_1 at hr
  refine S.gx [5,9] ?_
  refine gr ?_
  refine iW1 hr (fun hc hr=> ?_) fun hc hr=> ?_
  ·obtain ⟨hg4,hr⟩:=of_guard1 hr
   obtain ⟨v1,hv1,hr⟩:=of_bind1 hr
   obtain ⟨hg5,hr⟩:=of_guard1 hr
   obtain ⟨hg6,hr⟩:=of_guard1 hr
   try simp only [hv1,oG,oI,true_and,and_assoc]
   repeat (first | refine gG hg5 ?_ | refine gG hg6 ?_ | refine gA ?_ | refine gB ?_)
   refine iW1 hr (fun hc hr=>D0 hr) fun hc hr=> ?_
   obtain ⟨hg2,hr⟩:=of_guard1 hr
   obtain ⟨hg3,hr⟩:=of_guard1 hr
   refine gr ?_
   refine iW1 hr (fun hc hr=> ?_) fun hc hr=> ?_
   ·refine gr ?_
    refine S.prune [] ?_
    refine S.gx [5] ?_
    exact D0 hr
   ·refine gr ?_
    refine S.prune [2,3,5] ?_
    refine S.gx [9] ?_
    exact D1 (S.ss [2,3,5] [(2,2),(3,3)] []) hr
  ·refine gr ?_
   have hr:=of_out0 hr
   obtain ⟨v7,hv7,hr⟩:=of_bind0 hr
   obtain ⟨hg8,hr⟩:=of_guard0 hr
   try simp only [hv7,oG,oI,true_and,and_assoc]
   repeat (first | refine gG hg8 ?_ | refine gA ?_ | refine gB ?_)
   exact D0 hr
end
def r89 (x0 x1:L_I):Option (L_I×L_I):=
 (r17 x0).bind fun v1=>
  (r17 x1).bind fun v2=>
   some (v1,v2)
def T89:=qT10 qu5 false r89
attribute [go_sem] T89
def tb89:Fns:=lk [(17,T17.sp)]
theorem tb89_ok:FnsOk Tryz.prog tb89:= .cons f17 .nil
theorem tk89:tb89 17=some T17.sp:=rfl
section
attribute [local go_sem] tk89 Tryz.results89
theorem f89:FnFact Tryz.prog 89 T89.sp:=by
 refine valid_m ty_ok tb89_ok Tryz.func89 rfl Tryz.ntmps89 fun ⟨x0,x1⟩ r hr=>⟨nL rfl,fun stop S=> ?_⟩
 replace hr:r89 x0 x1=some r:=hr
 unfold r89 at hr
 refine S.gx [] ?_
 exact D0 hr
end
def r117 (x0:L_II) (x1 x2:Int):Option (L_II×Int×Int):=
 if (0+x0.length)*16≤140737488355328∧0+x0.length≤9223372036854775807 then
  some (x0,x1,x2)
  else none
def T117:=qT58 qu34 false r117
attribute [go_sem] T117
def tb117:Fns:=lk []
theorem tb117_ok:FnsOk Tryz.prog tb117:=FnsOk.nil
section
attribute [local go_sem] Tryz.results117
theorem f117:FnFact Tryz.prog 117 T117.sp:=by
 refine valid_m ty_ok tb117_ok Tryz.func117 rfl Tryz.ntmps117 fun ⟨x0,x1,x2⟩ r hr=>⟨nL rfl,fun stop S=> ?_⟩
 replace hr:r117 x0 x1 x2=some r:=hr
 unfold r117 at hr
 refine S.gx [] ?_
 exact D0 hr
end
end Go.Proofs.YthldpejmofhaoaaGreatDoor

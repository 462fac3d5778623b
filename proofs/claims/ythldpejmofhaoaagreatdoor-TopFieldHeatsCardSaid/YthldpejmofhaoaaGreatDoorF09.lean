/- Contracts of functions, written by wip/dec. -/
import Derived.Test.YthldpejmofhaoaaGreatDoorF00
import Derived.Test.YthldpejmofhaoaaGreatDoorF02
import Derived.Test.YthldpejmofhaoaaGreatDoorF03
import Derived.Test.YthldpejmofhaoaaGreatDoorF04
import Derived.Test.YthldpejmofhaoaaGreatDoorF05
import Derived.Test.YthldpejmofhaoaaGreatDoorF06
import Derived.Test.YthldpejmofhaoaaGreatDoorF07
import Derived.Test.YthldpejmofhaoaaGreatDoorF08
set_option linter.unusedVariables false
set_option linter.unusedSimpArgs false
set_option linter.constructorNameAsVariable false
set_option maxHeartbeats 4000000
set_option maxRecDepth 20000
namespace Go.Proofs.YthldpejmofhaoaaGreatDoor
open Go.Abs
section
variable {β:Type} [Inhabited β] (u:β→List RV) (al:Bool)
abbrev qF59 (β:Type):=Int→Int→L_II→L_LIIE→L_II→L_LIIE→L_I→L_I→β
def qw59 (a0 a1:Int) (a2:L_II) (a3:L_LIIE) (a4:L_II) (a5:L_LIIE) (a6 a7:L_I):List Arg:=[.agg [.int .i64 a0,.int .i64 a1,encF 2 d_II a2,encF 1 d_LIIE a3,encF 2 d_II a4,encF 1 d_LIIE a5],.agg [encF 1 d_I a6,encF 1 d_I a7]]
def qd59 (a:List Arg):=(dInt (aCell a 0 0),dInt (aCell a 0 1),decF g_II (aCell a 0 2),decF g_LIIE (aCell a 0 3),decF g_II (aCell a 0 4),decF g_LIIE (aCell a 0 5),decF g_I (aCell a 1 0),decF g_I (aCell a 1 1))
def qp59 {β:Type} (f:qF59 β) (c0 c1 c2 c3 c4 c5 c6 c7:D):=f (dInt c0) (dInt c1) (decF g_II c2) (decF g_LIIE c3) (decF g_II c4) (decF g_LIIE c5) (decF g_I c6) (decF g_I c7)
abbrev qt59 (c0 c1 c2 c3 c4 c5 c6 c7:D):List Arg:=[.agg [c0,c1,c2,c3,c4,c5],.agg [c6,c7]]
def qT59 (r:qF59 (Option β)):=mkT (u8 qw59) qd59 (u8 r) u al
theorem qP59 (r:qF59 (Option β)) (c0 c1 c2 c3 c4 c5 c6 c7:D):PT (qT59 u al r).sp u (qt59 c0 c1 c2 c3 c4 c5 c6 c7) (qp59 qw59 c0 c1 c2 c3 c4 c5 c6 c7) (qp59 r c0 c1 c2 c3 c4 c5 c6 c7):=⟨rfl,rfl⟩
theorem qa59 (r:qF59 (Option β)):(qT59 u al r).sp.alias=al:=rfl
attribute [go_sem] qw59 qp59 qt59 qP59 qa59
abbrev qF60 (β:Type):=Int→Int→L_II→L_LIIE→L_I→L_I→β
def qw60 (a0 a1:Int) (a2:L_II) (a3:L_LIIE) (a4 a5:L_I):List Arg:=[.agg [.int .i64 a0,.int .i64 a1,encF 2 d_II a2,encF 1 d_LIIE a3],.agg [encF 1 d_I a4,encF 1 d_I a5]]
def qd60 (a:List Arg):=(dInt (aCell a 0 0),dInt (aCell a 0 1),decF g_II (aCell a 0 2),decF g_LIIE (aCell a 0 3),decF g_I (aCell a 1 0),decF g_I (aCell a 1 1))
def qp60 {β:Type} (f:qF60 β) (c0 c1 c2 c3 c4 c5:D):=f (dInt c0) (dInt c1) (decF g_II c2) (decF g_LIIE c3) (decF g_I c4) (decF g_I c5)
abbrev qt60 (c0 c1 c2 c3 c4 c5:D):List Arg:=[.agg [c0,c1,c2,c3],.agg [c4,c5]]
def qT60 (r:qF60 (Option β)):=mkT (u6 qw60) qd60 (u6 r) u al
theorem qP60 (r:qF60 (Option β)) (c0 c1 c2 c3 c4 c5:D):PT (qT60 u al r).sp u (qt60 c0 c1 c2 c3 c4 c5) (qp60 qw60 c0 c1 c2 c3 c4 c5) (qp60 r c0 c1 c2 c3 c4 c5):=⟨rfl,rfl⟩
theorem qa60 (r:qF60 (Option β)):(qT60 u al r).sp.alias=al:=rfl
attribute [go_sem] qw60 qp60 qt60 qP60 qa60
abbrev qF61 (β:Type):=Int→Int→L_II→L_LIIE→L_II→L_LIIE→L_II→Int→Int→β
def qw61 (a0 a1:Int) (a2:L_II) (a3:L_LIIE) (a4:L_II) (a5:L_LIIE) (a6:L_II) (a7 a8:Int):List Arg:=[.agg [.int .i64 a0,.int .i64 a1,encF 2 d_II a2,encF 1 d_LIIE a3,encF 2 d_II a4,encF 1 d_LIIE a5],.agg [encF 2 d_II a6,.int .i64 a7,.int .i64 a8]]
def qd61 (a:List Arg):=(dInt (aCell a 0 0),dInt (aCell a 0 1),decF g_II (aCell a 0 2),decF g_LIIE (aCell a 0 3),decF g_II (aCell a 0 4),decF g_LIIE (aCell a 0 5),decF g_II (aCell a 1 0),dInt (aCell a 1 1),dInt (aCell a 1 2))
def qp61 {β:Type} (f:qF61 β) (c0 c1 c2 c3 c4 c5 c6 c7 c8:D):=f (dInt c0) (dInt c1) (decF g_II c2) (decF g_LIIE c3) (decF g_II c4) (decF g_LIIE c5) (decF g_II c6) (dInt c7) (dInt c8)
abbrev qt61 (c0 c1 c2 c3 c4 c5 c6 c7 c8:D):List Arg:=[.agg [c0,c1,c2,c3,c4,c5],.agg [c6,c7,c8]]
def qT61 (r:qF61 (Option β)):=mkT (u9 qw61) qd61 (u9 r) u al
theorem qP61 (r:qF61 (Option β)) (c0 c1 c2 c3 c4 c5 c6 c7 c8:D):PT (qT61 u al r).sp u (qt61 c0 c1 c2 c3 c4 c5 c6 c7 c8) (qp61 qw61 c0 c1 c2 c3 c4 c5 c6 c7 c8) (qp61 r c0 c1 c2 c3 c4 c5 c6 c7 c8):=⟨rfl,rfl⟩
theorem qa61 (r:qF61 (Option β)):(qT61 u al r).sp.alias=al:=rfl
attribute [go_sem] qw61 qp61 qt61 qP61 qa61
abbrev qF62 (β:Type):=Int→Int→L_II→L_LIIE→L_II→L_LIIE→L_I→L_I→L_II→Int→Int→β
def qw62 (a0 a1:Int) (a2:L_II) (a3:L_LIIE) (a4:L_II) (a5:L_LIIE) (a6 a7:L_I) (a8:L_II) (a9 a10:Int):List Arg:=[.agg [.int .i64 a0,.int .i64 a1,encF 2 d_II a2,encF 1 d_LIIE a3,encF 2 d_II a4,encF 1 d_LIIE a5],.agg [encF 1 d_I a6,encF 1 d_I a7],.agg [encF 2 d_II a8,.int .i64 a9,.int .i64 a10]]
def qd62 (a:List Arg):=(dInt (aCell a 0 0),dInt (aCell a 0 1),decF g_II (aCell a 0 2),decF g_LIIE (aCell a 0 3),decF g_II (aCell a 0 4),decF g_LIIE (aCell a 0 5),decF g_I (aCell a 1 0),decF g_I (aCell a 1 1),decF g_II (aCell a 2 0),dInt (aCell a 2 1),dInt (aCell a 2 2))
def qp62 {β:Type} (f:qF62 β) (c0 c1 c2 c3 c4 c5 c6 c7 c8 c9 c10:D):=f (dInt c0) (dInt c1) (decF g_II c2) (decF g_LIIE c3) (decF g_II c4) (decF g_LIIE c5) (decF g_I c6) (decF g_I c7) (decF g_II c8) (dInt c9) (dInt c10)
abbrev qt62 (c0 c1 c2 c3 c4 c5 c6 c7 c8 c9 c10:D):List Arg:=[.agg [c0,c1,c2,c3,c4,c5],.agg [c6,c7],.agg [c8,c9,c10]]
def qT62 (r:qF62 (Option β)):=mkT (u11 qw62) qd62 (u11 r) u al
theorem qP62 (r:qF62 (Option β)) (c0 c1 c2 c3 c4 c5 c6 c7 c8 c9 c10:D):PT (qT62 u al r).sp u (qt62 c0 c1 c2 c3 c4 c5 c6 c7 c8 c9 c10) (qp62 qw62 c0 c1 c2 c3 c4 c5 c6 c7 c8 c9 c10) (qp62 r c0 c1 c2 c3 c4 c5 c6 c7 c8 c9 c10):=⟨rfl,rfl⟩
theorem qa62 (r:qF62 (Option β)):(qT62 u al r).sp.alias=al:=rfl
attribute [go_sem] qw62 qp62 qt62 qP62 qa62
abbrev qF63 (β:Type):=Int→Int→L_II→L_LIIE→L_I→L_I→L_II→Int→Int→β
def qw63 (a0 a1:Int) (a2:L_II) (a3:L_LIIE) (a4 a5:L_I) (a6:L_II) (a7 a8:Int):List Arg:=[.agg [.int .i64 a0,.int .i64 a1,encF 2 d_II a2,encF 1 d_LIIE a3],.agg [encF 1 d_I a4,encF 1 d_I a5],.agg [encF 2 d_II a6,.int .i64 a7,.int .i64 a8]]
def qd63 (a:List Arg):=(dInt (aCell a 0 0),dInt (aCell a 0 1),decF g_II (aCell a 0 2),decF g_LIIE (aCell a 0 3),decF g_I (aCell a 1 0),decF g_I (aCell a 1 1),decF g_II (aCell a 2 0),dInt (aCell a 2 1),dInt (aCell a 2 2))
def qp63 {β:Type} (f:qF63 β) (c0 c1 c2 c3 c4 c5 c6 c7 c8:D):=f (dInt c0) (dInt c1) (decF g_II c2) (decF g_LIIE c3) (decF g_I c4) (decF g_I c5) (decF g_II c6) (dInt c7) (dInt c8)
abbrev qt63 (c0 c1 c2 c3 c4 c5 c6 c7 c8:D):List Arg:=[.agg [c0,c1,c2,c3],.agg [c4,c5],.agg [c6,c7,c8]]
def qT63 (r:qF63 (Option β)):=mkT (u9 qw63) qd63 (u9 r) u al
theorem qP63 (r:qF63 (Option β)) (c0 c1 c2 c3 c4 c5 c6 c7 c8:D):PT (qT63 u al r).sp u (qt63 c0 c1 c2 c3 c4 c5 c6 c7 c8) (qp63 qw63 c0 c1 c2 c3 c4 c5 c6 c7 c8) (qp63 r c0 c1 c2 c3 c4 c5 c6 c7 c8):=⟨rfl,rfl⟩
theorem qa63 (r:qF63 (Option β)):(qT63 u al r).sp.alias=al:=rfl
attribute [go_sem] qw63 qp63 qt63 qP63 qa63
def qu35 (v:L_I×Int×L_I×Int):List RV:=[.agg [.own (encF 1 d_I v.1),.d (.int .i64 v.2.1)],.agg [.own (encF 1 d_I v.2.2.1),.d (.int .i64 v.2.2.2)]]
attribute [go_sem] qu35
end
def b232_1 (x0 x1:L_I):Bd Int (Int×Int):=fun s1=>
 if (decide (s1<(x0.length:Int)))=true then
  if 0≤s1∧s1<(x0.length:Int) then
   if 0≤s1∧s1<(x1.length:Int) then
    if (decide ((x0.getD s1.toNat default)>(x1.getD s1.toNat default)))=true then
     .out (some (s1,9))
     else .next (IntKind.i64.wrap (s1+1))
    else .out none
   else .out none
  else .out (some (0,0))
def r232 (x2 x3:Int) (x4:L_II) (x5:L_LIIE) (x6:L_II) (x7:L_LIIE) (x0 x1:L_I):Option (Int×Int):=
 (r165 x2 x3 x4 x5 x6 x7 x0).bind fun v1=>
  if (v1.2 != 0)=true then
   some (v1.1,v1.2)
   else (r165 x2 x3 x4 x5 x6 x7 x1).bind fun v2=>
    if (v2.2 != 0)=true then
     some (v2.1,v2.2)
     else iterC (b232_1 x0 x1) 1000000000 0
def T232:=qT59 qu4 false r232
attribute [go_sem] T232
def tb232:Fns:=lk [(165,T165.sp)]
theorem tb232_ok:FnsOk Tryz.prog tb232:= .cons f165 .nil
theorem tk232:tb232 165=some T165.sp:=rfl
section
attribute [local go_sem] tk232 Tryz.results232
theorem f232:FnFact Tryz.prog 232 T232.sp:=by
 refine valid_m ty_ok tb232_ok Tryz.func232 rfl Tryz.ntmps232 fun ⟨x2,x3,x4,x5,x6,x7,x0,x1⟩ r hr=>⟨nL rfl,fun stop S=> ?_⟩
 replace hr:r232 x2 x3 x4 x5 x6 x7 x0 x1=some r:=hr
 unfold r232 at hr
 refine S.gx [] ?_
 obtain ⟨v1,hv1,hr⟩:=of_bind0 hr
 refine gb hv1 ?_
 refine iW hr (fun hc hr=>D0 hr) fun hc hr=> ?_
 obtain ⟨v2,hv2,hr⟩:=of_bind0 hr
 refine gb hv2 ?_
 refine iW hr (fun hc hr=>D0 hr) fun hc hr=> ?_
 refine gr ?_
 refine S.sees [3,35,36,37] [(3,3)] [] ?_ (Stop.iter S (fun s1=>⟨[(3,.c (.ref 3 0)),(35,.c (.d (encF 1 d_I x0))),(36,.c (.d (.int .i64 (x0.length:Int)))),(37,.c (.d (.int .i64 s1)))],[(3,[.d (encF 1 d_I x0),.d (encF 1 d_I x1)])],[]⟩) (b232_1 x0 x1) (fun q=>q=r) hr rfl ?_)
 ·exact lf
 ·intro s1 hr
  unfold b232_1 at hr
  refine S.gx [] ?_
  exact D1 (S.ss [3,35,36,37] [(3,3)] []) hr
end
def r178 (x0 x1:Int) (x2:L_II) (x3:L_LIIE) (x4 x5:L_I):Option (Int×Int×L_II×L_LIIE×L_II×L_LIIE×Int):=
 (r98 x0 x1 x2 x3).bind fun v1=>
  if (v1.2.2.2.2.2.2 == 0)=true then
   (r232 v1.1 v1.2.1 v1.2.2.1 v1.2.2.2.1 v1.2.2.2.2.1 v1.2.2.2.2.2.1 x4 x5).bind fun v2=>
    some (v1.1,v1.2.1,v1.2.2.1,v1.2.2.2.1,v1.2.2.2.2.1,v1.2.2.2.2.2.1,v2.2)
   else some (v1.1,v1.2.1,v1.2.2.1,v1.2.2.2.1,v1.2.2.2.2.1,v1.2.2.2.2.2.1,v1.2.2.2.2.2.2)
def T178:=qT60 qu17 true r178
attribute [go_sem] T178
def tb178:Fns:=lk [(98,T98.sp),(232,T232.sp)]
theorem tb178_ok:FnsOk Tryz.prog tb178:= .cons f98 (.cons f232 .nil)
theorem tk178:tb178 98=some T98.sp∧tb178 232=some T232.sp:=⟨rfl,rfl⟩
section
attribute [local go_sem] tk178 Tryz.results178
theorem f178:FnFact Tryz.prog 178 T178.sp:=by
 refine valid_m ty_ok tb178_ok Tryz.func178 rfl Tryz.ntmps178 fun ⟨x0,x1,x2,x3,x4,x5⟩ r hr=>⟨nL rfl,fun stop S=> ?_⟩
 replace hr:r178 x0 x1 x2 x3 x4 x5=some r:=hr
 unfold r178 at hr
 refine S.gx [] ?_
 exact D0 hr
end
def b198_1 (x1 x2:Int) (x3:L_II) (x4:L_LIIE) (x5:L_II) (x6:L_LIIE) (x0:L_II) (x7 x8:Int):Bd (Int×Int) Int:=fun s1=>
 if (decide (s1.2<(x0.length:Int)))=true then
  if 0≤s1.2∧s1.2<(x0.length:Int) then
   bindC (r167 ((x0.getD s1.2.toNat default).1)) fun v2=>
    if v2=true→(r167 ((x0.getD s1.2.toNat default).2)).isSome=true then
     bindC (r83 (v2 && ((r167 ((x0.getD s1.2.toNat default).2)).getD default)) 2) fun v3=>
      bindC (r83 (decide (((x0.getD s1.2.toNat default).1)≤((x0.getD s1.2.toNat default).2))) 9) fun v4=>
       bindC (r80 [s1.1,v3,v4]) fun v5=>
        .next (v5,IntKind.i64.wrap (s1.2+1))
     else .out none
   else .out none
  else .out ((r168 x1 x2 x3 x4 x5 x6 x7).bind fun v8=>
   (r168 x1 x2 x3 x4 x5 x6 x8).bind fun v9=>
    (r83 (decide (x7≤x8)) 9).bind fun v10=>
     (r80 [s1.1,v8,v9,v10]).bind fun v11=>
      some v11)
def r198 (x1 x2:Int) (x3:L_II) (x4:L_LIIE) (x5:L_II) (x6:L_LIIE) (x0:L_II) (x7 x8:Int):Option (Int):=
 (r83 ((x0.length:Int) == x1) 10).bind fun v1=>
  iterC (b198_1 x1 x2 x3 x4 x5 x6 x0 x7 x8) 1000000000 (v1,0)
def T198:=qT61 qu3 false r198
attribute [go_sem] T198
def tb198:Fns:=lk [(80,T80.sp),(83,T83.sp),(167,T167.sp),(168,T168.sp)]
theorem tb198_ok:FnsOk Tryz.prog tb198:= .cons f80 (.cons f83 (.cons f167 (.cons f168 .nil)))
theorem tk198:tb198 80=some T80.sp∧tb198 83=some T83.sp∧tb198 167=some T167.sp∧tb198 168=some T168.sp:=⟨rfl,rfl,rfl,rfl⟩
section
attribute [local go_sem] tk198 Tryz.results198
theorem f198:FnFact Tryz.prog 198 T198.sp:=by
 refine valid_m ty_ok tb198_ok Tryz.func198 rfl Tryz.ntmps198 fun ⟨x1,x2,x3,x4,x5,x6,x0,x7,x8⟩ r hr=>⟨nL rfl,fun stop S=> ?_⟩
 replace hr:r198 x1 x2 x3 x4 x5 x6 x0 x7 x8=some r:=hr
 unfold r198 at hr
 refine S.gx [] ?_
 obtain ⟨v1,hv1,hr⟩:=of_bind0 hr
 refine gb hv1 ?_
 refine S.sees [2,3,5,17,18,19] [(2,2),(3,3)] [] ?_ (Stop.iter S (fun s1=>⟨[(2,.c (.ref 2 0)),(3,.c (.ref 3 0)),(5,.c (.d (.int .i64 s1.1))),(17,.c (.d (encF 2 d_II x0))),(18,.c (.d (.int .i64 (x0.length:Int)))),(19,.c (.d (.int .i64 s1.2)))],[(2,[.d (.int .i64 x1),.d (.int .i64 x2),.d (encF 2 d_II x3),.d (encF 1 d_LIIE x4),.d (encF 2 d_II x5),.d (encF 1 d_LIIE x6)]),(3,[.d (encF 2 d_II x0),.d (.int .i64 x7),.d (.int .i64 x8)])],[]⟩) (b198_1 x1 x2 x3 x4 x5 x6 x0 x7 x8) (fun q=>q=r) hr rfl ?_)
 ·exact lf
 ·intro s1 hr
  unfold b198_1 at hr
  refine S.gx [] ?_
  refine gr ?_
  refine iW1 hr (fun hc hr=> ?_) fun hc hr=>D0 hr
  obtain ⟨hg6,hr⟩:=of_guard1 hr
  obtain ⟨v2,hv2,hr⟩:=of_bind1 hr
  obtain ⟨hg7,hr⟩:=of_guard1 hr
  obtain ⟨v3,hv3,hr⟩:=of_bind1 hr
  obtain ⟨v4,hv4,hr⟩:=of_bind1 hr
  obtain ⟨v5,hv5,hr⟩:=of_bind1 hr
  try simp only [hv2,hv3,hv4,hv5,Option.getD_some,Option.isSome_some,true_and,and_assoc]
  repeat (first | refine gG hg7 ?_ | refine gA ?_ | refine gB ?_)
  exact D1 (S.ss [2,3,5,17,18,19] [(2,2),(3,3)] []) hr
end
def b245_1 (x0:L_II) (x1 x2:Int):Bd (Int×(List (Int))×(List (Int))) (L_I×Int×L_I×Int):=fun s1=>
 if (decide (s1.1<(x0.length:Int)))=true then
  if 0≤s1.1∧s1.1<(x0.length:Int) then
   if (s1.2.1.length+1)*8≤140737488355328∧s1.2.1.length+1≤9223372036854775807 then
    if (s1.2.2.length+1)*8≤140737488355328∧s1.2.2.length+1≤9223372036854775807 then
     .next (IntKind.i64.wrap (s1.1+1),s1.2.1++[(x0.getD s1.1.toNat default).1],s1.2.2++[(x0.getD s1.1.toNat default).2])
     else .out none
    else .out none
   else .out none
  else .out (some (s1.2.1,x2,s1.2.2,x1))
def r245 (x0:L_II) (x1 x2:Int):Option (L_I×Int×L_I×Int):=
 iterC (b245_1 x0 x1 x2) 1000000000 (0,[],[])
def T245:=qT58 qu35 false r245
attribute [go_sem] T245
def tb245:Fns:=lk []
theorem tb245_ok:FnsOk Tryz.prog tb245:=FnsOk.nil
section
attribute [local go_sem] Tryz.results245
theorem f245:FnFact Tryz.prog 245 T245.sp:=by
 refine valid_m ty_ok tb245_ok Tryz.func245 rfl Tryz.ntmps245 fun ⟨x0,x1,x2⟩ r hr=>⟨nL rfl,fun stop S=> ?_⟩
 replace hr:r245 x0 x1 x2=some r:=hr
 unfold r245 at hr
 refine S.gx [] ?_
 refine gr ?_
 refine S.own0b 2 0 2000200 1 rfl rfl (nL rfl) rfl ?_
 refine S.own0b 3 0 2000300 1 rfl rfl (nL rfl) rfl ?_
 refine S.sees [2,3,15,16,17] [(2,2),(3,3)] [(2000200,2000200),(2000300,2000300)] ?_ (Stop.iter S (fun s1=>⟨[(2,.c (.ref 2 0)),(3,.c (.ref 3 0)),(15,.c (.d (encF 2 d_II x0))),(16,.c (.d (.int .i64 (x0.length:Int)))),(17,.c (.d (.int .i64 s1.1)))],[(2,[.own 2000200,.d (.int .i64 x2)]),(3,[.own 2000300,.d (.int .i64 x1)])],[(2000200,.owned (encF 1 d_I s1.2.1)),(2000300,.owned (encF 1 d_I s1.2.2))]⟩) (b245_1 x0 x1 x2) (fun q=>q=r) hr rfl ?_)
 ·exact lf
 ·intro s1 hr
  unfold b245_1 at hr
  refine S.gx [] ?_
  exact D1 (S.ss [2,3,15,16,17] [(2,2),(3,3)] [(26,2000200),(32,2000300)]) hr
end
def r199 (x0 x1:Int) (x2:L_II) (x3:L_LIIE) (x4:L_II) (x5:L_LIIE) (x6 x7:L_I) (x8:L_II) (x9 x10:Int):Option (L_I×L_I×Int):=
 (r245 x8 x9 x10).bind fun v1=>
  (r85 x0 x1 x2 x3 x4 x5 x6 v1.1 v1.2.1).bind fun v2=>
   (r85 x0 x1 x2 x3 x4 x5 x7 v1.2.2.1 v1.2.2.2).bind fun v3=>
    (r80 [v2.2.2,v3.2.2]).bind fun v4=>
     if (v4 != 0)=true then
      some ([],[],v4)
      else some (v2.1,v3.1,0)
def T199:=qT62 qu6 false r199
attribute [go_sem] T199
def tb199:Fns:=lk [(80,T80.sp),(85,T85.sp),(245,T245.sp)]
theorem tb199_ok:FnsOk Tryz.prog tb199:= .cons f80 (.cons f85 (.cons f245 .nil))
theorem tk199:tb199 80=some T80.sp∧tb199 85=some T85.sp∧tb199 245=some T245.sp:=⟨rfl,rfl,rfl⟩
section
attribute [local go_sem] tk199 Tryz.results199
theorem f199:FnFact Tryz.prog 199 T199.sp:=by
 refine valid_m ty_ok tb199_ok Tryz.func199 rfl Tryz.ntmps199 fun ⟨x0,x1,x2,x3,x4,x5,x6,x7,x8,x9,x10⟩ r hr=>⟨nL rfl,fun stop S=> ?_⟩
 replace hr:r199 x0 x1 x2 x3 x4 x5 x6 x7 x8 x9 x10=some r:=hr
 unfold r199 at hr
 refine S.gx [4] ?_
 obtain ⟨v1,hv1,hr⟩:=of_bind0 hr
 obtain ⟨v2,hv2,hr⟩:=of_bind0 hr
 obtain ⟨v3,hv3,hr⟩:=of_bind0 hr
 refine gb hv1 ?_
 refine gb hv2 ?_
 refine gb hv3 ?_
 refine S.prune [6,10,12,13,15] ?_
 refine S.gx [] ?_
 exact D0 hr
end
def r116 (x5 x6:Int) (x7:L_II) (x8:L_LIIE) (x0 x1:L_I) (x2:L_II) (x3 x4:Int):Option (L_I×L_I×Int):=
 (r178 x5 x6 x7 x8 x0 x1).bind fun v1=>
  if (v1.2.2.2.2.2.2 == 0)=true then
   (r198 v1.1 v1.2.1 v1.2.2.1 v1.2.2.2.1 v1.2.2.2.2.1 v1.2.2.2.2.2.1 x2 x3 x4).bind fun v2=>
    if (v2 != 0)=true then
     some ([],[],v2)
     else (r199 v1.1 v1.2.1 v1.2.2.1 v1.2.2.2.1 v1.2.2.2.2.1 v1.2.2.2.2.2.1 x0 x1 x2 x3 x4).bind fun v3=>
      some (v3.1,v3.2.1,v3.2.2)
   else if (v1.2.2.2.2.2.2 != 0)=true then
    some ([],[],v1.2.2.2.2.2.2)
    else (r199 v1.1 v1.2.1 v1.2.2.1 v1.2.2.2.1 v1.2.2.2.2.1 v1.2.2.2.2.2.1 x0 x1 x2 x3 x4).bind fun v4=>
     some (v4.1,v4.2.1,v4.2.2)
def T116:=qT63 qu6 false r116
attribute [go_sem] T116
def tb116:Fns:=lk [(178,T178.sp),(198,T198.sp),(199,T199.sp)]
theorem tb116_ok:FnsOk Tryz.prog tb116:= .cons f178 (.cons f198 (.cons f199 .nil))
theorem tk116:tb116 178=some T178.sp∧tb116 198=some T198.sp∧tb116 199=some T199.sp:=⟨rfl,rfl,rfl⟩
section
attribute [local go_sem] tk116 Tryz.results116
theorem f116:FnFact Tryz.prog 116 T116.sp:=by
 refine valid_m ty_ok tb116_ok Tryz.func116 rfl Tryz.ntmps116 fun ⟨x5,x6,x7,x8,x0,x1,x2,x3,x4⟩ r hr=>⟨nL rfl,fun stop S=> ?_⟩
 replace hr:r116 x5 x6 x7 x8 x0 x1 x2 x3 x4=some r:=hr
 unfold r116 at hr
 refine S.gx [] ?_
 exact D0 hr
end
def b200_1 (x0:Int) (x1 x2:L_I):Bd Int (Int×Int):=fun s1=>
 if (decide (s1<x0))=true then
  if 0≤s1∧s1<(x1.length:Int) then
   if 0≤s1∧s1<(x2.length:Int) then
    if (decide ((x1.getD s1.toNat default)>(x2.getD s1.toNat default)))=true then
     .out (some (s1,9))
     else .next (IntKind.i64.wrap (s1+1))
    else .out none
   else .out none
  else .out (some (0,0))
def r200 (x0 x3:Int) (x4:L_II) (x5:L_LIIE) (x1 x2:L_I):Option (Int×Int):=
 (r66 x0 x3 x4 x5 x1).bind fun v1=>
  if (v1.2 != 0)=true then
   some (v1.1,v1.2)
   else (r66 x0 x3 x4 x5 x2).bind fun v2=>
    if (v2.2 != 0)=true then
     some (v2.1,v2.2)
     else iterC (b200_1 x0 x1 x2) 1000000000 0
def T200:=qT60 qu4 false r200
attribute [go_sem] T200
def tb200:Fns:=lk [(66,T66.sp)]
theorem tb200_ok:FnsOk Tryz.prog tb200:= .cons f66 .nil
theorem tk200:tb200 66=some T66.sp:=rfl
section
attribute [local go_sem] tk200 Tryz.results200
theorem f200:FnFact Tryz.prog 200 T200.sp:=by
 refine valid_m ty_ok tb200_ok Tryz.func200 rfl Tryz.ntmps200 fun ⟨x0,x3,x4,x5,x1,x2⟩ r hr=>⟨nL rfl,fun stop S=> ?_⟩
 replace hr:r200 x0 x3 x4 x5 x1 x2=some r:=hr
 unfold r200 at hr
 refine S.gx [] ?_
 obtain ⟨v1,hv1,hr⟩:=of_bind0 hr
 refine gb hv1 ?_
 refine iW hr (fun hc hr=>D0 hr) fun hc hr=> ?_
 obtain ⟨v2,hv2,hr⟩:=of_bind0 hr
 refine gb hv2 ?_
 refine iW hr (fun hc hr=>D0 hr) fun hc hr=> ?_
 refine gr ?_
 refine S.sees [2,3,10] [(2,2),(3,3)] [] ?_ (Stop.iter S (fun s1=>⟨[(2,.c (.ref 2 0)),(3,.c (.ref 3 0)),(10,.c (.d (.int .i64 s1)))],[(2,[.d (.int .i64 x0),.d (.int .i64 x3),.d (encF 2 d_II x4),.d (encF 1 d_LIIE x5)]),(3,[.d (encF 1 d_I x1),.d (encF 1 d_I x2)])],[]⟩) (b200_1 x0 x1 x2) (fun q=>q=r) hr rfl ?_)
 ·exact lf
 ·intro s1 hr
  unfold b200_1 at hr
  refine S.gx [] ?_
  exact D1 (S.ss [2,3,10] [(2,2),(3,3)] []) hr
end
def r118 (x0 x1:Int) (x2:L_II) (x3:L_LIIE) (x4 x5:L_I):Option (Int):=
 (r65 x0 x1 x2 x3).bind fun v1=>
  if (v1 != 0)=true then
   some v1
   else (r200 x0 x1 x2 x3 x4 x5).bind fun v2=>
    some v2.2
def T118:=qT60 qu3 false r118
attribute [go_sem] T118
def tb118:Fns:=lk [(65,T65.sp),(200,T200.sp)]
theorem tb118_ok:FnsOk Tryz.prog tb118:= .cons f65 (.cons f200 .nil)
theorem tk118:tb118 65=some T65.sp∧tb118 200=some T200.sp:=⟨rfl,rfl⟩
section
attribute [local go_sem] tk118 Tryz.results118
theorem f118:FnFact Tryz.prog 118 T118.sp:=by
 refine valid_m ty_ok tb118_ok Tryz.func118 rfl Tryz.ntmps118 fun ⟨x0,x1,x2,x3,x4,x5⟩ r hr=>⟨nL rfl,fun stop S=> ?_⟩
 replace hr:r118 x0 x1 x2 x3 x4 x5=some r:=hr
 unfold r118 at hr
 refine S.gx [] ?_
 exact D0 hr
end
def b39_2 (x0:Int) (s1:Int×(List (Int))×(List (Int))×(List (Int))) (v12:L_I×L_I×Int) (v15:L_I×Int):Bd Int (Ctl (Int×(List (Int))×(List (Int))×(List (Int))) (Bool)):=fun s2=>
 if (decide (s2<x0))=true then
  if 0≤s2∧s2<(v15.1.length:Int) then
   if 0≤s2∧s2<(v12.1.length:Int) then
    if 0≤s2∧s2<(v12.2.1.length:Int) then
     bindC (r11 (v15.1.getD s2.toNat default) (v12.1.getD s2.toNat default) (v12.2.1.getD s2.toNat default)) fun v16=>
      if (!v16)=true then
       .out (some (.out (some false)))
       else .next (IntKind.i64.wrap (s2+1))
     else .out none
    else .out none
   else .out none
  else .out (some (bindC (r17 v15.1) fun v20=>
   bindC (r89 v12.1 v12.2.1) fun v21=>
    .next (IntKind.i64.wrap (s1.1+1),v20,v21.1,v21.2)))
def b39_1 (x0 x2:Int) (x3:L_II) (x4:L_LIIE) (x6 x1:Int) (v3:L_II×Int) (v6:L_I×Int):Bd (Int×(List (Int))×(List (Int))×(List (Int))) Bool:=fun s1=>
 if (decide (s1.1<x6))=true then
  bindC (r14 x0 x2 x3 x4) fun v9=>
   bindC (r89 s1.2.2.1 s1.2.2.2) fun v10=>
    bindC (r117 v3.1 x1 x1) fun v11=>
     bindC (r116 v9.1 v9.2.1 v9.2.2.1 v9.2.2.2 v10.1 v10.2 v11.1 v11.2.1 v11.2.2) fun v12=>
      if (v12.2.2 != 0)=true then
       .out (some (v12.2.2 == 22))
       else bindC (r17 s1.2.1) fun v13=>
        bindC (r17 v6.1) fun v14=>
         bindC (r38 v9.1 v9.2.1 v9.2.2.1 v9.2.2.2 v13 v14 x1) fun v15=>
          if (!((v15.2 != 0) || ((v15.1.length:Int) != x0)))=true→(r118 x0 x2 x3 x4 v12.1 v12.2.1).isSome=true then
           if (((v15.2 != 0) || ((v15.1.length:Int) != x0)) || (((r118 x0 x2 x3 x4 v12.1 v12.2.1).getD default) != 0))=true then
            .out (some false)
            else (iterC (b39_2 x0 s1 v12 v15) 1000000000 0).getD (.out none)
           else .out none
  else .out (some true)
def r39 (x0 x2:Int) (x3:L_II) (x4:L_LIIE) (x11:Int) (x5:L_III) (x12:L_II) (x8:L_I) (x9 x7 x6 x13 x1 x10:Int):Option (Bool):=
 if 0≤(x5.length:Int)∧(x5.length:Int)≤(x5.length:Int)∧(x5.length:Int)≤9223372036854775807∧1*(x5.length:Int)≤281474976710656 then
  (r112 x11 x5 x12).bind fun v1=>
   (r113 x9 (List.replicate x5.length false)).bind fun v2=>
    (r111 v1.1 v1.2.1 v1.2.2 v2.1 v2.2 x7).bind fun v3=>
     if ((v3.2 != 0) || ((v3.1.length:Int) != x0))=true then
      some false
      else (r114 x11 x5 x12).bind fun v4=>
       (r55 x10 (v4.length:Int)).bind fun v5=>
        if 0≤v5∧v5<(v4.length:Int) then
         (r34 ((v4.getD v5.toNat default).1) ((v4.getD v5.toNat default).2) v2.1 v2.2 x7).bind fun v6=>
          if ((v6.2 != 0) || ((v6.1.length:Int) != x0))=true then
           some false
           else (r115 x0 x2 x3 x4 v3.1 x1 x1).bind fun v7=>
            if (v7 != 0)=true then
             some false
             else (r17 x8).bind fun v8=>
              iterC (b39_1 x0 x2 x3 x4 x6 x1 v3 v6) 1000000000 (0,v8,v8,v8)
         else none
  else none
def T39:=qT64 qu2 false r39
attribute [go_sem] T39
def tb39:Fns:=lk [(11,T11.sp),(14,T14.sp),(17,T17.sp),(34,T34.sp),(38,T38.sp),(55,T55.sp),(89,T89.sp),(111,T111.sp),(112,T112.sp),(113,T113.sp),(114,T114.sp),(115,T115.sp),(116,T116.sp),(117,T117.sp),(118,T118.sp)]
theorem tb39_ok:FnsOk Tryz.prog tb39:= .cons f11 (.cons f14 (.cons f17 (.cons f34 (.cons f38 (.cons f55 (.cons f89 (.cons f111 (.cons f112 (.cons f113 (.cons f114 (.cons f115 (.cons f116 (.cons f117 (.cons f118 .nil))))))))))))))
theorem tk39:tb39 11=some T11.sp∧tb39 14=some T14.sp∧tb39 17=some T17.sp∧tb39 34=some T34.sp∧tb39 38=some T38.sp∧tb39 55=some T55.sp∧tb39 89=some T89.sp∧tb39 111=some T111.sp∧tb39 112=some T112.sp∧tb39 113=some T113.sp∧tb39 114=some T114.sp∧tb39 115=some T115.sp∧tb39 116=some T116.sp∧tb39 117=some T117.sp∧tb39 118=some T118.sp:=⟨rfl,rfl,rfl,rfl,rfl,rfl,rfl,rfl,rfl,rfl,rfl,rfl,rfl,rfl,rfl⟩
section
attribute [local go_sem] tk39 Tryz.results39
theorem f39:FnFact Tryz.prog 39 T39.sp:=by
 refine valid_m ty_ok tb39_ok Tryz.func39 rfl Tryz.ntmps39 fun ⟨x0,x2,x3,x4,x11,x5,x12,x8,x9,x7,x6,x13,x1,x10⟩ r hr=>⟨nL rfl,fun stop S=> ?_⟩
 replace hr:r39 x0 x2 x3 x4 x11 x5 x12 x8 x9 x7 x6 x13 x1 x10=some r:=hr
 unfold r39 at hr
 refine S.gx [4,5,9,10,22] ?_
 obtain ⟨hg24,hr⟩:=of_guard0 hr
 obtain ⟨v1,hv1,hr⟩:=of_bind0 hr
 obtain ⟨v2,hv2,hr⟩:=of_bind0 hr
 obtain ⟨v3,hv3,hr⟩:=of_bind0 hr
 try simp only [hv1,hv2,hv3,Option.getD_some,Option.isSome_some,true_and,and_assoc]
 repeat (first | refine gA ?_ | refine gB ?_)
 refine iW hr (fun hc hr=> ?_) fun hc hr=> ?_
 ·refine gr ?_
  refine S.prune [] ?_
  refine S.gx [5,9,10,22] ?_
  exact D0 hr
 ·refine gr ?_
  refine S.prune [3,4,5,7,8] ?_
  refine S.gx [4,9,10,22] ?_
  obtain ⟨v4,hv4,hr⟩:=of_bind0 hr
  refine gb hv4 ?_
  obtain ⟨v5,hv5,hr⟩:=of_bind0 hr
  obtain ⟨hg23,hr⟩:=of_guard0 hr
  obtain ⟨v6,hv6,hr⟩:=of_bind0 hr
  try simp only [hv5,hv2,hv6,Option.getD_some,Option.isSome_some,true_and,and_assoc]
  repeat (first | refine gA ?_ | refine gB ?_)
  refine iW hr (fun hc hr=> ?_) fun hc hr=> ?_
  ·refine gr ?_
   refine S.prune [] ?_
   refine S.gx [4,5,10,22] ?_
   exact D0 hr
  ·refine gr ?_
   refine S.prune [3,5,8,12] ?_
   refine S.gx [4,5,9,22] ?_
   refine gr ?_
   obtain ⟨v7,hv7,hr⟩:=of_bind0 hr
   refine gb hv7 ?_
   refine iW hr (fun hc hr=>D0 hr) fun hc hr=> ?_
   obtain ⟨v8,hv8,hr⟩:=of_bind0 hr
   refine gb hv8 ?_
   refine S.sees [3,5,12,14,15,16,17] [(3,3),(5,5),(14,14),(16,16)] [(66,66),(91,91),(38,38),(94,94),(97,97)] ?_ (Stop.iter S (fun s1=>⟨[(3,.c (.ref 3 0)),(5,.c (.ref 5 0)),(12,.c (.own 66)),(14,.c (.ref 14 0)),(15,.c (.own 91)),(16,.c (.ref 16 0)),(17,.c (.d (.int .i64 s1.1)))],[(3,[.d (.int .i64 x0),.d (.int .i64 x2),.d (encF 2 d_II x3),.d (encF 1 d_LIIE x4)]),(5,[.d (encF 1 d_I x8),.d (.int .i64 x9),.d (.int .i64 x7),.d (.int .i64 x6),.d (.int .i64 x13),.d (.int .i64 x1),.d (.int .i64 x10)]),(14,[.own 38,.d (.int .i64 x1),.d (.int .i64 x1)]),(16,[.own 94,.own 97])],[(66,.owned (encF 1 d_I v6.1)),(91,.owned (encF 1 d_I s1.2.1)),(38,.owned (encF 2 d_II v3.1)),(94,.owned (encF 1 d_I s1.2.2.1)),(97,.owned (encF 1 d_I s1.2.2.2))]⟩) (b39_1 x0 x2 x3 x4 x6 x1 v3 v6) (fun q=>q=r) hr rfl ?_)
   ·exact lf
   ·intro s1 hr
    unfold b39_1 at hr
    refine S.gx [4,5,9,10,22] ?_
    refine gr ?_
    refine iW1 hr (fun hc hr=> ?_) fun hc hr=>D0 hr
    obtain ⟨v9,hv9,hr⟩:=of_bind1 hr
    obtain ⟨v10,hv10,hr⟩:=of_bind1 hr
    obtain ⟨v11,hv11,hr⟩:=of_bind1 hr
    obtain ⟨v12,hv12,hr⟩:=of_bind1 hr
    refine gb hv9 ?_
    refine gb hv10 ?_
    refine gb hv11 ?_
    refine gb hv12 ?_
    refine iW1 hr (fun hc hr=>D0 hr) fun hc hr=> ?_
    obtain ⟨v13,hv13,hr⟩:=of_bind1 hr
    obtain ⟨v14,hv14,hr⟩:=of_bind1 hr
    obtain ⟨v15,hv15,hr⟩:=of_bind1 hr
    refine gb hv9 ?_
    refine gb hv13 ?_
    refine gb hv14 ?_
    refine gb hv15 ?_
    refine S.prune [3,5,12,14,16,17,18,20,21] ?_
    refine S.gx [4,5,9,10] ?_
    obtain ⟨hg22,hr⟩:=of_guard1 hr
    repeat (first | refine gG hg22 ?_ | refine gA ?_ | refine gB ?_)
    refine gr ?_
    refine iW1 hr (fun hc hr=>D0 hr) fun hc hr=> ?_
    refine gr ?_
    obtain ⟨q2,hq,hr⟩:=of_iter1 hr
    refine S.sees [3,5,12,14,16,17,18,20,22] [(3,3),(5,5),(14,14),(16,16),(18,18)] [(66,66),(129,129),(38,38),(94,94),(97,97),(112,112),(10112,10112)] ?_ (Stop.iter S (fun s2=>⟨[(3,.c (.ref 3 0)),(5,.c (.ref 5 0)),(12,.c (.own 66)),(14,.c (.ref 14 0)),(16,.c (.ref 16 0)),(17,.c (.d (.int .i64 s1.1))),(18,.c (.ref 18 0)),(20,.c (.own 129)),(22,.c (.d (.int .i64 s2)))],[(3,[.d (.int .i64 x0),.d (.int .i64 x2),.d (encF 2 d_II x3),.d (encF 1 d_LIIE x4)]),(5,[.d (encF 1 d_I x8),.d (.int .i64 x9),.d (.int .i64 x7),.d (.int .i64 x6),.d (.int .i64 x13),.d (.int .i64 x1),.d (.int .i64 x10)]),(14,[.own 38,.d (.int .i64 x1),.d (.int .i64 x1)]),(16,[.own 94,.own 97]),(18,[.own 112,.own 10112])],[(66,.owned (encF 1 d_I v6.1)),(129,.owned (encF 1 d_I v15.1)),(38,.owned (encF 2 d_II v3.1)),(94,.owned (encF 1 d_I s1.2.2.1)),(97,.owned (encF 1 d_I s1.2.2.2)),(112,.owned (encF 1 d_I v12.1)),(10112,.owned (encF 1 d_I v12.2.1))]⟩) (b39_2 x0 s1 v12 v15) _ hq hr ?_)
    ·exact lf
    ·intro s2 hr
     unfold b39_2 at hr
     refine S.gx [4,5,9,10,22] ?_
     refine gr ?_
     refine iW1 hr (fun hc hr=> ?_) fun hc hr=> ?_
     ·obtain ⟨hg17,hr⟩:=of_guard1 hr
      obtain ⟨hg18,hr⟩:=of_guard1 hr
      obtain ⟨hg19,hr⟩:=of_guard1 hr
      obtain ⟨v16,hv16,hr⟩:=of_bind1 hr
      refine gb hv16 ?_
      refine iW1 hr (fun hc hr=> ?_) fun hc hr=>D1 (S.ss [3,5,12,14,16,17,18,20,22] [(3,3),(5,5),(14,14),(16,16),(18,18)] [(66,66),(129,129),(38,38),(94,94),(97,97),(112,112),(10112,10112)]) hr
      refine gr ?_
      replace hr:=goodC_out hr
      exact D0 hr
     ·refine gr ?_
      replace hr:=goodC_out hr
      exact D1 (S.ss [3,5,12,14,15,16,17] [(3,3),(5,5),(14,14),(16,16)] [(66,66),(170,91),(38,38),(172,94),(10172,97)]) hr
end
end Go.Proofs.YthldpejmofhaoaaGreatDoor

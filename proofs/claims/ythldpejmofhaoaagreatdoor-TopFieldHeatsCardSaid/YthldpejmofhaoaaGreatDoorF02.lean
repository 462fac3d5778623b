/- Contracts of functions, written by wip/dec. -/
import Derived.Test.YthldpejmofhaoaaGreatDoorF00
import Derived.Test.YthldpejmofhaoaaGreatDoorF01
set_option linter.unusedVariables false
set_option linter.unusedSimpArgs false
set_option linter.constructorNameAsVariable false
set_option maxHeartbeats 4000000
set_option maxRecDepth 20000
namespace Go.Proofs.YthldpejmofhaoaaGreatDoor
open Go.Abs
section
variable {β:Type} [Inhabited β] (u:β→List RV) (al:Bool)
abbrev qF9 (β:Type):=L_I→L_I→Int→Int→Int→Int→Int→β
def qw9 (a0 a1:L_I) (a2 a3 a4 a5 a6:Int):List Arg:=[.agg [encF 1 d_I a0,encF 1 d_I a1],.c (.int .i64 a2),.agg [.int .i64 a3,.int .i64 a4],.agg [.int .i64 a5,.int .i64 a6]]
def qd9 (a:List Arg):=(decF g_I (aCell a 0 0),decF g_I (aCell a 0 1),dInt (aCell a 1 0),dInt (aCell a 2 0),dInt (aCell a 2 1),dInt (aCell a 3 0),dInt (aCell a 3 1))
def qp9 {β:Type} (f:qF9 β) (c0 c1 c2 c3 c4 c5 c6:D):=f (decF g_I c0) (decF g_I c1) (dInt c2) (dInt c3) (dInt c4) (dInt c5) (dInt c6)
abbrev qt9 (c0 c1 c2 c3 c4 c5 c6:D):List Arg:=[.agg [c0,c1],.c c2,.agg [c3,c4],.agg [c5,c6]]
def qT9 (r:qF9 (Option β)):=mkT (u7 qw9) qd9 (u7 r) u al
theorem qP9 (r:qF9 (Option β)) (c0 c1 c2 c3 c4 c5 c6:D):PT (qT9 u al r).sp u (qt9 c0 c1 c2 c3 c4 c5 c6) (qp9 qw9 c0 c1 c2 c3 c4 c5 c6) (qp9 r c0 c1 c2 c3 c4 c5 c6):=⟨rfl,rfl⟩
theorem qa9 (r:qF9 (Option β)):(qT9 u al r).sp.alias=al:=rfl
attribute [go_sem] qw9 qp9 qt9 qP9 qa9
abbrev qF11 (β:Type):=L_I→L_I→Int→β
def qw11 (a0 a1:L_I) (a2:Int):List Arg:=[.agg [encF 1 d_I a0,encF 1 d_I a1],.c (.int .i64 a2)]
def qd11 (a:List Arg):=(decF g_I (aCell a 0 0),decF g_I (aCell a 0 1),dInt (aCell a 1 0))
def qp11 {β:Type} (f:qF11 β) (c0 c1 c2:D):=f (decF g_I c0) (decF g_I c1) (dInt c2)
abbrev qt11 (c0 c1 c2:D):List Arg:=[.agg [c0,c1],.c c2]
def qT11 (r:qF11 (Option β)):=mkT (u3 qw11) qd11 (u3 r) u al
theorem qP11 (r:qF11 (Option β)) (c0 c1 c2:D):PT (qT11 u al r).sp u (qt11 c0 c1 c2) (qp11 qw11 c0 c1 c2) (qp11 r c0 c1 c2):=⟨rfl,rfl⟩
theorem qa11 (r:qF11 (Option β)):(qT11 u al r).sp.alias=al:=rfl
attribute [go_sem] qw11 qp11 qt11 qP11 qa11
abbrev qF12 (β:Type):=Int→L_III→Int→L_B→Int→β
def qw12 (a0:Int) (a1:L_III) (a2:Int) (a3:L_B) (a4:Int):List Arg:=[.agg [.int .i64 a0,encF 3 d_III a1],.agg [.int .i64 a2,encF 1 d_B a3],.c (.int .i64 a4)]
def qd12 (a:List Arg):=(dInt (aCell a 0 0),decF g_III (aCell a 0 1),dInt (aCell a 1 0),decF g_B (aCell a 1 1),dInt (aCell a 2 0))
def qp12 {β:Type} (f:qF12 β) (c0 c1 c2 c3 c4:D):=f (dInt c0) (decF g_III c1) (dInt c2) (decF g_B c3) (dInt c4)
abbrev qt12 (c0 c1 c2 c3 c4:D):List Arg:=[.agg [c0,c1],.agg [c2,c3],.c c4]
def qT12 (r:qF12 (Option β)):=mkT (u5 qw12) qd12 (u5 r) u al
theorem qP12 (r:qF12 (Option β)) (c0 c1 c2 c3 c4:D):PT (qT12 u al r).sp u (qt12 c0 c1 c2 c3 c4) (qp12 qw12 c0 c1 c2 c3 c4) (qp12 r c0 c1 c2 c3 c4):=⟨rfl,rfl⟩
theorem qa12 (r:qF12 (Option β)):(qT12 u al r).sp.alias=al:=rfl
attribute [go_sem] qw12 qp12 qt12 qP12 qa12
abbrev qF13 (β:Type):=Int→Int→Int→β
def qw13 (a0 a1 a2:Int):List Arg:=[.agg [.int .i64 a0,.int .i64 a1],.ptr [.int .i64 a2]]
def qd13 (a:List Arg):=(dInt (aCell a 0 0),dInt (aCell a 0 1),dInt (aCell a 1 0))
def qp13 {β:Type} (f:qF13 β) (c0 c1 c2:D):=f (dInt c0) (dInt c1) (dInt c2)
abbrev qt13 (c0 c1 c2:D):List Arg:=[.agg [c0,c1],.ptr [c2]]
def qT13 (r:qF13 (Option β)):=mkT (u3 qw13) qd13 (u3 r) u al
theorem qP13 (r:qF13 (Option β)) (c0 c1 c2:D):PT (qT13 u al r).sp u (qt13 c0 c1 c2) (qp13 qw13 c0 c1 c2) (qp13 r c0 c1 c2):=⟨rfl,rfl⟩
theorem qa13 (r:qF13 (Option β)):(qT13 u al r).sp.alias=al:=rfl
attribute [go_sem] qw13 qp13 qt13 qP13 qa13
abbrev qF14 (β:Type):=L_I→L_I→β
def qw14 (a0 a1:L_I):List Arg:=[.c (encF 1 d_I a0),.c (encF 1 d_I a1)]
def qd14 (a:List Arg):=(decF g_I (aCell a 0 0),decF g_I (aCell a 1 0))
def qp14 {β:Type} (f:qF14 β) (c0 c1:D):=f (decF g_I c0) (decF g_I c1)
abbrev qt14 (c0 c1:D):List Arg:=[.c c0,.c c1]
def qT14 (r:qF14 (Option β)):=mkT (u2 qw14) qd14 (u2 r) u al
theorem qP14 (r:qF14 (Option β)) (c0 c1:D):PT (qT14 u al r).sp u (qt14 c0 c1) (qp14 qw14 c0 c1) (qp14 r c0 c1):=⟨rfl,rfl⟩
theorem qa14 (r:qF14 (Option β)):(qT14 u al r).sp.alias=al:=rfl
attribute [go_sem] qw14 qp14 qt14 qP14 qa14
def qu8 (v:Int×Int×Int×Int):List RV:=[.agg [.d (.int .i64 v.1),.d (.int .i64 v.2.1)],.agg [.d (.int .i64 v.2.2.1),.d (.int .i64 v.2.2.2)]]
attribute [go_sem] qu8
def qu9 (v:L_II×L_II):List RV:=[.c (.own (encF 2 d_II v.1)),.c (.own (encF 2 d_II v.2))]
attribute [go_sem] qu9
def qu12 (v:Int×Int×Int×Int):List RV:=[.agg [.d (.int .i64 v.1),.d (.int .i64 v.2.1),.d (.int .i64 v.2.2.1),.d (.int .i64 v.2.2.2)]]
attribute [go_sem] qu12
end
def r234 (x0 x1:L_I) (a1 x2 x3 x4 x5:Int):Option (Int×Int×Int×Int):=
 if 0≤a1∧a1<(x0.length:Int) then
  (r185 x2 x3 (x0.getD a1.toNat default)).bind fun v1=>
   (r278 x4 x5 v1.1 v1.2).bind fun v2=>
    if 0≤a1∧a1<(x1.length:Int) then
     (r279 v2.1 v2.2 (x1.getD a1.toNat default)).bind fun v3=>
      (r278 x2 x3 v3.1 v3.2).bind fun v4=>
       some (v2.1,v2.2,v4.1,v4.2)
     else none
  else none
def T234:=qT9 qu8 false r234
attribute [go_sem] T234
def tb234:Fns:=lk [(185,T185.sp),(278,T278.sp),(279,T279.sp)]
theorem tb234_ok:FnsOk Tryz.prog tb234:= .cons f185 (.cons f278 (.cons f279 .nil))
theorem tk234:tb234 185=some T185.sp∧tb234 278=some T278.sp∧tb234 279=some T279.sp:=⟨rfl,rfl,rfl⟩
section
attribute [local go_sem] tk234 Tryz.results234
theorem f234:FnFact Tryz.prog 234 T234.sp:=by
 refine valid_m ty_ok tb234_ok Tryz.func234 rfl Tryz.ntmps234 fun ⟨x0,x1,a1,x2,x3,x4,x5⟩ r hr=>⟨nL rfl,fun stop S=> ?_⟩
 replace hr:r234 x0 x1 a1 x2 x3 x4 x5=some r:=hr
 unfold r234 at hr
 refine S.gx [] ?_
 exact D0 hr
end
def b183_1 (x0 x1:L_I):Bd (Int×Int×Int×(List (Int×Int))×(List (Int×Int))) (L_II×L_II):=fun s1=>
 if (decide (s1.1≥0))=true then
  if 0≤s1.1∧s1.1<(s1.2.2.2.1.length:Int) then
   if 0≤IntKind.i64.wrap (s1.1+1)∧IntKind.i64.wrap (s1.1+1)<(s1.2.2.2.2.length:Int) then
    bindC (r234 x0 x1 s1.1 ((s1.2.2.2.2.getD (IntKind.i64.wrap (s1.1+1)).toNat default).1) ((s1.2.2.2.2.getD (IntKind.i64.wrap (s1.1+1)).toNat default).2) s1.2.1 s1.2.2.1) fun v1=>
     if 0≤s1.1∧s1.1<(s1.2.2.2.1.length:Int) then
      if 0≤s1.1∧s1.1<(s1.2.2.2.2.length:Int) then
       if 0≤s1.1∧s1.1<(s1.2.2.2.1.length:Int) then
        .next (IntKind.i64.wrap (s1.1 - 1),v1.1,v1.2.1,s1.2.2.2.1.set s1.1.toNat (v1.1,v1.2.1),s1.2.2.2.2.set s1.1.toNat (v1.2.2.1,v1.2.2.2))
        else .out none
       else .out none
      else .out none
    else .out none
   else .out none
  else .out (some (s1.2.2.2.2,s1.2.2.2.1))
def r183 (x0 x1:L_I):Option (L_II×L_II):=
 if 0≤IntKind.i64.wrap ((x0.length:Int)+1)∧IntKind.i64.wrap ((x0.length:Int)+1)≤IntKind.i64.wrap ((x0.length:Int)+1)∧IntKind.i64.wrap ((x0.length:Int)+1)≤9223372036854775807∧16*(IntKind.i64.wrap ((x0.length:Int)+1))≤281474976710656 then
  if 0≤(x0.length:Int)∧(x0.length:Int)≤(x0.length:Int)∧(x0.length:Int)≤9223372036854775807∧16*(x0.length:Int)≤281474976710656 then
   if 0≤(x0.length:Int)∧(x0.length:Int)<((IntKind.i64.wrap ((x0.length:Int)+1)).toNat:Int) then
    iterC (b183_1 x0 x1) 1000000000 (IntKind.i64.wrap (((x0.length:Int).toNat:Int) - 1),0,0,List.replicate x0.length (0,0),(List.replicate (IntKind.i64.wrap ((x0.length:Int)+1)).toNat (0,0)).set x0.length (1,0))
    else none
   else none
  else none
def T183:=qT10 qu9 false r183
attribute [go_sem] T183
def tb183:Fns:=lk [(234,T234.sp)]
theorem tb183_ok:FnsOk Tryz.prog tb183:= .cons f234 .nil
theorem tk183:tb183 234=some T234.sp:=rfl
section
attribute [local go_sem] tk183 Tryz.results183 Tryz.results233 Tryz.results277
theorem f183:FnFact Tryz.prog 183 T183.sp:=by
 refine valid_m ty_ok tb183_ok Tryz.func183 rfl Tryz.ntmps183 fun ⟨x0,x1⟩ r hr=>⟨nL rfl,fun stop S=> ?_⟩
 replace hr:r183 x0 x1=some r:=hr
 unfold r183 at hr
 refine S.gx [5] ?_
 obtain ⟨hg7,hr⟩:=of_guard0 hr
 obtain ⟨hg8,hr⟩:=of_guard0 hr
 obtain ⟨hg9,hr⟩:=of_guard0 hr
 refine gr ?_
 refine S.inl 1 [1,2,3,5] [] Tryz.func233 (by decide) rfl Tryz.ntmps233 (fun cx e=>drawn_ok ty_ok tb183_ok cx e) (some 20) rfl rfl rfl rfl (nL rfl) (nL rfl) ?_
 refine gs ?_
 refine gr ?_
 intro stop1 S1
 refine S1.gx [] ?_
 refine gr ?_
 refine gr ?_
 refine S.gx [5] ?_
 refine gr ?_
 refine S.range [1,2,3,5] Tryz.func277 (by decide) rfl Tryz.ntmps277 Tryz.results277 (fun cx e=>drawn_ok ty_ok tb183_ok cx e) (fun cx e=>drawn_ok ty_ok tb183_ok cx e) (by decide) rfl rfl (nL rfl) ?_
 intro l1 stop1 stopJ1 S1 SJ1 Y1
 refine S1.gx [3] ?_
 refine gr ?_
 refine S1.sees [0,1,3] [(100001,100001),(1,1),(2,2),(3,3),(5,5)] [(14,14),(12,12)] ?_ (Stop.iter S1 (fun s1=>⟨[(0,.c (.yld l1)),(1,.c (.ref 100001 0)),(3,.c (.d (.int .i64 s1.1)))],[(100001,[.own 14]),(1,[.d (encF 1 d_I x0),.d (encF 1 d_I x1)]),(2,[.own 12]),(3,[.own 14]),(5,[.d (.int .i64 s1.2.1),.d (.int .i64 s1.2.2.1)])],[(14,.owned (encF 2 d_II s1.2.2.2.1)),(12,.owned (encF 2 d_II s1.2.2.2.2))]⟩) (b183_1 x0 x1) (fun q=>q=r) hr rfl ?_)
 ·exact lf
 ·intro s1 hr
  unfold b183_1 at hr
  refine S1.gx [3] ?_
  refine gr ?_
  refine iW1 hr (fun hc hr=> ?_) fun hc hr=> ?_
  ·refine gr ?_
   refine Y1 6 [0,1,3] (some 17) rfl rfl rfl rfl (nL rfl) (by rfl) ?_
   refine gs ?_
   obtain ⟨hg6,hr⟩:=of_guard1 hr
   refine gr ?_
   intro stopA2 SA2
   refine SA2.gx [] ?_
   refine gr ?_
   intro stop2 S2
   refine S2.gx [5] ?_
   obtain ⟨hg2,hr⟩:=of_guard1 hr
   obtain ⟨v1,hv1,hr⟩:=of_bind1 hr
   obtain ⟨hg3,hr⟩:=of_guard1 hr
   obtain ⟨hg4,hr⟩:=of_guard1 hr
   obtain ⟨hg5,hr⟩:=of_guard1 hr
   refine gb hv1 ?_
   refine gr ?_
   refine S1.gx [3] ?_
   exact D1 (S1.ss [0,1,3] [(100001,100001),(1,1),(2,2),(3,3),(5,5)] [(14,14),(12,12)]) hr
  ·refine gr ?_
   have hr:=of_out0 hr
   refine gr ?_
   refine gr ?_
   refine S.gx [5] ?_
   exact D0 hr
end
def b192_1 (x0:L_I) (v1:L_II×L_II):Bd (Int×Int×(List (Int))×Int) (L_I×Int):=fun s1=>
 if (decide (s1.2.1<(((v1.1.length - 1):Nat):Int)))=true then
  if 0≤s1.2.1∧s1.2.1<((((v1.1.drop 1).take (v1.1.length - 1)).length:Nat):Int) then
   if 0≤s1.2.1∧s1.2.1<(x0.length:Int) then
    if (s1.2.2.1.length+1)*8≤140737488355328∧s1.2.2.1.length+1≤9223372036854775807 then
     .next (IntKind.i64.wrap (s1.1+(IntKind.i64.wrap ((x0.getD s1.2.1.toNat default)*(IntKind.i64.wrap ((IntKind.i64.wrap (((((v1.1.drop 1).take (v1.1.length - 1)).getD s1.2.1.toNat default).1)*((((v1.1.drop 1).take (v1.1.length - 1)).getD s1.2.1.toNat default).1)))+(IntKind.i64.wrap (((((v1.1.drop 1).take (v1.1.length - 1)).getD s1.2.1.toNat default).2)*((((v1.1.drop 1).take (v1.1.length - 1)).getD s1.2.1.toNat default).2)))))))),IntKind.i64.wrap (s1.2.1+1),s1.2.2.1++[IntKind.i64.wrap ((x0.getD s1.2.1.toNat default)*(IntKind.i64.wrap ((IntKind.i64.wrap (((((v1.1.drop 1).take (v1.1.length - 1)).getD s1.2.1.toNat default).1)*((((v1.1.drop 1).take (v1.1.length - 1)).getD s1.2.1.toNat default).1)))+(IntKind.i64.wrap (((((v1.1.drop 1).take (v1.1.length - 1)).getD s1.2.1.toNat default).2)*((((v1.1.drop 1).take (v1.1.length - 1)).getD s1.2.1.toNat default).2))))))],IntKind.i64.wrap (s1.1+(IntKind.i64.wrap ((x0.getD s1.2.1.toNat default)*(IntKind.i64.wrap ((IntKind.i64.wrap (((((v1.1.drop 1).take (v1.1.length - 1)).getD s1.2.1.toNat default).1)*((((v1.1.drop 1).take (v1.1.length - 1)).getD s1.2.1.toNat default).1)))+(IntKind.i64.wrap (((((v1.1.drop 1).take (v1.1.length - 1)).getD s1.2.1.toNat default).2)*((((v1.1.drop 1).take (v1.1.length - 1)).getD s1.2.1.toNat default).2)))))))))
     else .out none
    else .out none
   else .out none
  else .out (some (s1.2.2.1,s1.2.2.2))
def r192 (x0 x1:L_I):Option (L_I×Int):=
 (r183 x0 x1).bind fun v1=>
  if 0≤1∧1≤(v1.1.length:Int)∧(v1.1.length:Int)≤(v1.1.length:Int) then
   iterC (b192_1 x0 v1) 1000000000 (0,0,[],0)
   else none
def T192:=qT10 qu10 false r192
attribute [go_sem] T192
def tb192:Fns:=lk [(183,T183.sp)]
theorem tb192_ok:FnsOk Tryz.prog tb192:= .cons f183 .nil
theorem tk192:tb192 183=some T183.sp:=rfl
section
attribute [local go_sem] tk192 Tryz.results192 Tryz.results193
theorem f192:FnFact Tryz.prog 192 T192.sp:=by
 refine valid_m ty_ok tb192_ok Tryz.func192 rfl Tryz.ntmps192 fun ⟨x0,x1⟩ r hr=>⟨nL rfl,fun stop S=> ?_⟩
 replace hr:r192 x0 x1=some r:=hr
 unfold r192 at hr
 refine S.gx [3] ?_
 refine gr ?_
 refine gr ?_
 refine S.bound 1 8 9 rfl rfl rfl rfl (nL rfl) ?_
 refine gs ?_
 refine gr ?_
 refine S.gx [3] ?_
 refine gr ?_
 refine gr ?_
 refine S.range [4,5] Tryz.func193 (by decide) rfl Tryz.ntmps193 Tryz.results193 (fun cx e=>drawn_ok ty_ok tb192_ok cx e) (fun cx e=>drawn_ok ty_ok tb192_ok cx e) (by decide) rfl rfl (nL rfl) ?_
 intro l1 stop1 stopJ1 S1 SJ1 Y1
 refine S1.gx [8] ?_
 obtain ⟨v1,hv1,hr⟩:=of_bind0 hr
 obtain ⟨hg5,hr⟩:=of_guard0 hr
 have hi6:Nonempty (PLift (v1.1.length≤v1.1.length)):=⟨⟨by omega⟩⟩
 try simp only [decF_subE0]
 try simp only [decF_subE,dec_I,dec_III,dec_LIIIE,dec_B,dec_LBE,dec_LIE,dec_II,dec_LIIE,hv1,Option.getD_some,Option.isSome_some,true_and,and_assoc]
 refine gr ?_
 refine S1.own0b 4 0 2000400 1 rfl rfl (nL rfl) rfl ?_
 refine S1.sees [1,2,6,16,17,18] [(2,2),(4,4),(5,5)] [(2000400,2000400)] ?_ (Stop.iter S1 (fun s1=>⟨[(1,.c (.yld l1)),(2,.c (.ref 2 0)),(6,.c (.d (.int .i64 s1.1))),(16,.c (.d (encF 2 d_II ((v1.1.drop 1).take (v1.1.length - 1))))),(17,.c (.d (.int .i64 (((v1.1.length - 1):Nat):Int)))),(18,.c (.d (.int .i64 s1.2.1)))],[(2,[.d (encF 1 d_I x0),.d (encF 1 d_I x1)]),(4,[.own 2000400]),(5,[.d (.int .i64 s1.2.2.2)])],[(2000400,.owned (encF 1 d_I s1.2.2.1))]⟩) (b192_1 x0 v1) (fun q=>q=r) hr rfl ?_)
 ·exact lf
 ·intro s1 hr
  unfold b192_1 at hr
  refine S1.gx [8] ?_
  refine gr ?_
  refine iW1 hr (fun hc hr=> ?_) fun hc hr=> ?_
  ·obtain ⟨hg3,hr⟩:=of_guard1 hr
   obtain ⟨hg4,hr⟩:=of_guard1 hr
   refine gr ?_
   refine Y1 3 [1,2,6,16,17,18] (some 46) rfl rfl rfl rfl (nL rfl) (by rfl) ?_
   refine gs ?_
   refine gr ?_
   intro stopA2 SA2
   refine SA2.gx [] ?_
   refine gr ?_
   intro stop2 S2
   refine S2.gx [3] ?_
   obtain ⟨hg2,hr⟩:=of_guard1 hr
   refine gr ?_
   refine gr ?_
   refine S1.gx [8] ?_
   exact D1 (S1.ss [1,2,6,16,17,18] [(2,2),(4,4),(5,5)] [(15,2000400)]) hr
  ·refine gr ?_
   have hr:=of_out0 hr
   refine gr ?_
   refine gr ?_
   refine S.gx [3] ?_
   exact D0 hr
end
def b110_1 (x0:L_I) (a1:Int) (v1:L_I×Int) (v2:L_II×L_II):Bd (Int×Int×(List (Int))×Int) L_I:=fun s1=>
 if (decide (s1.2.1<(((v2.1.length - 1):Nat):Int)))=true then
  if 0≤s1.2.1∧s1.2.1<((((v2.1.drop 1).take (v2.1.length - 1)).length:Nat):Int) then
   if 0≤s1.2.1∧s1.2.1<(x0.length:Int) then
    if v1.2≠0 then
     if (s1.2.2.1.length+1)*8≤140737488355328∧s1.2.2.1.length+1≤9223372036854775807 then
      .next (IntKind.i64.wrap (s1.1+(IntKind.i64.wrap ((x0.getD s1.2.1.toNat default)*(IntKind.i64.wrap ((IntKind.i64.wrap (((((v2.1.drop 1).take (v2.1.length - 1)).getD s1.2.1.toNat default).1)*((((v2.1.drop 1).take (v2.1.length - 1)).getD s1.2.1.toNat default).1)))+(IntKind.i64.wrap (((((v2.1.drop 1).take (v2.1.length - 1)).getD s1.2.1.toNat default).2)*((((v2.1.drop 1).take (v2.1.length - 1)).getD s1.2.1.toNat default).2)))))))),IntKind.i64.wrap (s1.2.1+1),s1.2.2.1++[IntKind.i64.wrap ((IntKind.i64.wrap ((IntKind.i64.wrap (a1*(IntKind.i64.wrap (s1.1+(IntKind.i64.wrap ((x0.getD s1.2.1.toNat default)*(IntKind.i64.wrap ((IntKind.i64.wrap (((((v2.1.drop 1).take (v2.1.length - 1)).getD s1.2.1.toNat default).1)*((((v2.1.drop 1).take (v2.1.length - 1)).getD s1.2.1.toNat default).1)))+(IntKind.i64.wrap (((((v2.1.drop 1).take (v2.1.length - 1)).getD s1.2.1.toNat default).2)*((((v2.1.drop 1).take (v2.1.length - 1)).getD s1.2.1.toNat default).2))))))))))).tdiv v1.2)) - s1.2.2.2)],IntKind.i64.wrap ((IntKind.i64.wrap (a1*(IntKind.i64.wrap (s1.1+(IntKind.i64.wrap ((x0.getD s1.2.1.toNat default)*(IntKind.i64.wrap ((IntKind.i64.wrap (((((v2.1.drop 1).take (v2.1.length - 1)).getD s1.2.1.toNat default).1)*((((v2.1.drop 1).take (v2.1.length - 1)).getD s1.2.1.toNat default).1)))+(IntKind.i64.wrap (((((v2.1.drop 1).take (v2.1.length - 1)).getD s1.2.1.toNat default).2)*((((v2.1.drop 1).take (v2.1.length - 1)).getD s1.2.1.toNat default).2))))))))))).tdiv v1.2))
      else .out none
     else .out none
    else .out none
   else .out none
  else .out (some s1.2.2.1)
def r110 (x0 x1:L_I) (a1:Int):Option (L_I):=
 (r192 x0 x1).bind fun v1=>
  (r183 x0 x1).bind fun v2=>
   if 0≤1∧1≤(v2.1.length:Int)∧(v2.1.length:Int)≤(v2.1.length:Int) then
    iterC (b110_1 x0 a1 v1 v2) 1000000000 (0,0,[],0)
    else none
def T110:=qT11 qu11 false r110
attribute [go_sem] T110
def tb110:Fns:=lk [(183,T183.sp),(192,T192.sp)]
theorem tb110_ok:FnsOk Tryz.prog tb110:= .cons f183 (.cons f192 .nil)
theorem tk110:tb110 183=some T183.sp∧tb110 192=some T192.sp:=⟨rfl,rfl⟩
section
attribute [local go_sem] tk110 Tryz.results110 Tryz.results193
theorem f110:FnFact Tryz.prog 110 T110.sp:=by
 refine valid_m ty_ok tb110_ok Tryz.func110 rfl Tryz.ntmps110 fun ⟨x0,x1,a1⟩ r hr=>⟨nL rfl,fun stop S=> ?_⟩
 replace hr:r110 x0 x1 a1=some r:=hr
 unfold r110 at hr
 refine S.gx [4] ?_
 obtain ⟨v1,hv1,hr⟩:=of_bind0 hr
 refine gb hv1 ?_
 refine gr ?_
 refine S.bound 1 17 18 rfl rfl rfl rfl (nL rfl) ?_
 refine gs ?_
 refine gr ?_
 refine S.gx [4] ?_
 refine gr ?_
 refine gr ?_
 refine S.range [3,6,7,8] Tryz.func193 (by decide) rfl Tryz.ntmps193 Tryz.results193 (fun cx e=>drawn_ok ty_ok tb110_ok cx e) (fun cx e=>drawn_ok ty_ok tb110_ok cx e) (by decide) rfl rfl (nL rfl) ?_
 intro l1 stop1 stopJ1 S1 SJ1 Y1
 refine S1.gx [8] ?_
 obtain ⟨v2,hv2,hr⟩:=of_bind0 hr
 obtain ⟨hg7,hr⟩:=of_guard0 hr
 have hi8:Nonempty (PLift (v2.1.length≤v2.1.length)):=⟨⟨by omega⟩⟩
 try simp only [decF_subE0]
 try simp only [decF_subE,dec_I,dec_III,dec_LIIIE,dec_B,dec_LBE,dec_LIE,dec_II,dec_LIIE,hv2,Option.getD_some,Option.isSome_some,true_and,and_assoc]
 refine gr ?_
 refine S1.own0b 7 0 2000700 1 rfl rfl (nL rfl) rfl ?_
 refine S1.sees [1,2,6,16,17,18] [(100002,100002),(3,3),(6,6),(7,7),(8,8)] [(2000700,2000700)] ?_ (Stop.iter S1 (fun s1=>⟨[(1,.c (.yld l1)),(2,.c (.ref 100002 0)),(6,.c (.d (.int .i64 s1.1))),(16,.c (.d (encF 2 d_II ((v2.1.drop 1).take (v2.1.length - 1))))),(17,.c (.d (.int .i64 (((v2.1.length - 1):Nat):Int)))),(18,.c (.d (.int .i64 s1.2.1)))],[(100002,[.d (encF 1 d_I x0),.d (encF 1 d_I x1)]),(3,[.d (.int .i64 a1)]),(6,[.d (.int .i64 v1.2)]),(7,[.own 2000700]),(8,[.d (.int .i64 s1.2.2.2)])],[(2000700,.owned (encF 1 d_I s1.2.2.1))]⟩) (b110_1 x0 a1 v1 v2) (fun q=>q=r) hr rfl ?_)
 ·exact lf
 ·intro s1 hr
  unfold b110_1 at hr
  refine S1.gx [8] ?_
  refine gr ?_
  refine iW1 hr (fun hc hr=> ?_) fun hc hr=> ?_
  ·obtain ⟨hg5,hr⟩:=of_guard1 hr
   obtain ⟨hg6,hr⟩:=of_guard1 hr
   refine gr ?_
   refine Y1 3 [1,2,6,16,17,18] (some 46) rfl rfl rfl rfl (nL rfl) (by rfl) ?_
   refine gs ?_
   refine gr ?_
   intro stopA2 SA2
   refine SA2.gx [] ?_
   refine gr ?_
   intro stop2 S2
   refine S2.gx [4] ?_
   obtain ⟨hg3,hr⟩:=of_guard1 hr
   obtain ⟨hg4,hr⟩:=of_guard1 hr
   refine gr ?_
   refine gr ?_
   refine S1.gx [8] ?_
   exact D1 (S1.ss [1,2,6,16,17,18] [(100002,100002),(3,3),(6,6),(7,7),(8,8)] [(31,2000700)]) hr
  ·refine gr ?_
   have hr:=of_out0 hr
   refine gr ?_
   refine gr ?_
   refine S.gx [4] ?_
   exact D0 hr
end
def r34 (x0:Int) (x1:L_III) (x2:Int) (x3:L_B) (a2:Int):Option (L_I×Int):=
 (r108 x0 x1 x2 x3).bind fun v1=>
  (r109 a2).bind fun v2=>
   (r106 [v1.2.2,v2]).bind fun v3=>
    if (v3 != 0)=true then
     some ([],v3)
     else (r110 v1.1 v1.2.1 a2).bind fun v4=>
      some (v4,0)
def T34:=qT12 qu10 false r34
attribute [go_sem] T34
def tb34:Fns:=lk [(106,T106.sp),(108,T108.sp),(109,T109.sp),(110,T110.sp)]
theorem tb34_ok:FnsOk Tryz.prog tb34:= .cons f106 (.cons f108 (.cons f109 (.cons f110 .nil)))
theorem tk34:tb34 106=some T106.sp∧tb34 108=some T108.sp∧tb34 109=some T109.sp∧tb34 110=some T110.sp:=⟨rfl,rfl,rfl,rfl⟩
section
attribute [local go_sem] tk34 Tryz.results34
theorem f34:FnFact Tryz.prog 34 T34.sp:=by
 refine valid_m ty_ok tb34_ok Tryz.func34 rfl Tryz.ntmps34 fun ⟨x0,x1,x2,x3,a2⟩ r hr=>⟨nL rfl,fun stop S=> ?_⟩
 replace hr:r34 x0 x1 x2 x3 a2=some r:=hr
 unfold r34 at hr
 refine S.gx [] ?_
 exact D0 hr
end
def b235_2 (s1:Int×Int):Bd (Int×Int) (Ctl (Int×Int) (Int)):=fun s2=>
 if (s2.2 != 0)=true then
  if s2.2≠0 then
   .next (s2.2,s2.1.tmod s2.2)
   else .out none
  else .out (some (.next (s2.1,IntKind.i64.wrap (s1.2+1))))
def b235_1 (a0:L_I):Bd (Int×Int) Int:=fun s1=>
 if (decide (s1.2<(a0.length:Int)))=true then
  if 0≤s1.2∧s1.2<(a0.length:Int) then
   (iterC (b235_2 s1) 1000000000 (s1.1,(a0.getD s1.2.toNat default))).getD (.out none)
   else .out none
  else .out (some (if s1.1<IntKind.i64.wrap (0 - s1.1) then IntKind.i64.wrap (0 - s1.1) else s1.1))
def r235 (a0:L_I):Option (Int):=
 iterC (b235_1 a0) 1000000000 (0,0)
def T235:=qT3 qu3 false r235
attribute [go_sem] T235
def tb235:Fns:=lk []
theorem tb235_ok:FnsOk Tryz.prog tb235:=FnsOk.nil
section
attribute [local go_sem] Tryz.results235
theorem f235:FnFact Tryz.prog 235 T235.sp:=by
 refine valid_m ty_ok tb235_ok Tryz.func235 rfl Tryz.ntmps235 fun a0 r hr=>⟨nL rfl,fun stop S=> ?_⟩
 replace hr:r235 a0=some r:=hr
 unfold r235 at hr
 refine S.gx [] ?_
 refine gr ?_
 refine S.sees [3,6,7,8] [] [] ?_ (Stop.iter S (fun s1=>⟨[(3,.c (.d (.int .i64 s1.1))),(6,.c (.d (encF 1 d_I a0))),(7,.c (.d (.int .i64 (a0.length:Int)))),(8,.c (.d (.int .i64 s1.2)))],[],[]⟩) (b235_1 a0) (fun q=>q=r) hr rfl ?_)
 ·exact lf
 ·intro s1 hr
  unfold b235_1 at hr
  refine S.gx [] ?_
  refine gr ?_
  refine iW1 hr (fun hc hr=> ?_) fun hc hr=>D0 hr
  obtain ⟨hg2,hr⟩:=of_guard1 hr
  refine gr ?_
  obtain ⟨q2,hq,hr⟩:=of_iter1 hr
  refine S.sees [3,5,6,7,8] [] [] ?_ (Stop.iter S (fun s2=>⟨[(3,.c (.d (.int .i64 s2.1))),(5,.c (.d (.int .i64 s2.2))),(6,.c (.d (encF 1 d_I a0))),(7,.c (.d (.int .i64 (a0.length:Int)))),(8,.c (.d (.int .i64 s1.2)))],[],[]⟩) (b235_2 s1) _ hq hr ?_)
  ·exact lf
  ·intro s2 hr
   unfold b235_2 at hr
   refine S.gx [] ?_
   refine gr ?_
   refine iW1 hr (fun hc hr=>D1 (S.ss [3,5,6,7,8] [] []) hr) fun hc hr=> ?_
   refine gr ?_
   replace hr:=goodC_out hr
   exact D1 (S.ss [3,6,7,8] [] []) hr
end
def r236 (x1 x2 x0:Int):Option (Int×Int):=
 if x0≠0 then
  if x0≠0 then
   some (IntKind.i64.wrap (x1.tdiv x0),IntKind.i64.wrap (x2.tdiv x0))
   else none
  else none
def T236:=qT13 qu7 false r236
attribute [go_sem] T236
def tb236:Fns:=lk []
theorem tb236_ok:FnsOk Tryz.prog tb236:=FnsOk.nil
section
attribute [local go_sem] Tryz.results236
theorem f236:FnFact Tryz.prog 236 T236.sp:=by
 refine valid_m ty_ok tb236_ok Tryz.func236 rfl Tryz.ntmps236 fun ⟨x1,x2,x0⟩ r hr=>⟨nL rfl,fun stop S=> ?_⟩
 replace hr:r236 x1 x2 x0=some r:=hr
 unfold r236 at hr
 refine S.gx [] ?_
 exact D0 hr
end
def r184 (x1 x2 x0 x3:Int):Option (Int×Int×Int×Int):=
 if ((x1 == 0) && (x2 == 0))=true then
  some (0,0,1,0)
  else (r235 [x1,x2,x0,x3]).bind fun v1=>
   if ((decide (x0<0)) || ((x0 == 0) && (decide (x3<0))))=true then
    (r236 x1 x2 (IntKind.i64.wrap (0 - v1))).bind fun v2=>
     (r236 x0 x3 (IntKind.i64.wrap (0 - v1))).bind fun v3=>
      some (v2.1,v2.2,v3.1,v3.2)
    else (r236 x1 x2 v1).bind fun v4=>
     (r236 x0 x3 v1).bind fun v5=>
      some (v4.1,v4.2,v5.1,v5.2)
def T184:=qT8 qu12 false r184
attribute [go_sem] T184
def tb184:Fns:=lk [(235,T235.sp),(236,T236.sp)]
theorem tb184_ok:FnsOk Tryz.prog tb184:= .cons f235 (.cons f236 .nil)
theorem tk184:tb184 235=some T235.sp∧tb184 236=some T236.sp:=⟨rfl,rfl⟩
section
attribute [local go_sem] tk184 Tryz.results184
theorem f184:FnFact Tryz.prog 184 T184.sp:=by
 refine valid_m ty_ok tb184_ok Tryz.func184 rfl Tryz.ntmps184 fun ⟨x1,x2,x0,x3⟩ r hr=>⟨nL rfl,fun stop S=> ?_⟩
 replace hr:r184 x1 x2 x0 x3=some r:=hr
 unfold r184 at hr
 refine S.gx [6] ?_
 refine gr ?_
 refine iW hr (fun hc hr=>D0 hr) fun hc hr=> ?_
 obtain ⟨v1,hv1,hr⟩:=of_bind0 hr
 try simp only [hv1,oG,oI,true_and,and_assoc]
 repeat (first | refine gA ?_ | refine gB ?_)
 refine iW hr (fun hc hr=> ?_) fun hc hr=> ?_
 ·refine gr ?_
  refine S.prune [2,3,4,5] ?_
  refine S.gx [] ?_
  exact D0 hr
 ·refine gr ?_
  refine S.prune [2,3,4,5] ?_
  refine S.gx [] ?_
  exact D0 hr
end
def r94 (x0:Int) (x1:L_III) (x2:Int) (x3:L_B):Option (Int×Int×Int×Int×Int):=
 (r108 x0 x1 x2 x3).bind fun v1=>
  if (v1.2.2 != 0)=true then
   some (0,0,0,0,v1.2.2)
   else (r183 v1.1 v1.2.1).bind fun v2=>
    if 0≤0∧0<(v2.1.length:Int) then
     (r185 ((v2.1.getD 0 default).1) ((v2.1.getD 0 default).2) (IntKind.i64.wrap (x0*x0))).bind fun v3=>
      if 0≤0∧0<(v2.2.length:Int) then
       (r184 v3.1 v3.2 ((v2.2.getD 0 default).1) ((v2.2.getD 0 default).2)).bind fun v4=>
        some (v4.1,v4.2.1,v4.2.2.1,v4.2.2.2,0)
       else none
     else none
def T94:=qT6 qu13 false r94
attribute [go_sem] T94
def tb94:Fns:=lk [(108,T108.sp),(183,T183.sp),(184,T184.sp),(185,T185.sp)]
theorem tb94_ok:FnsOk Tryz.prog tb94:= .cons f108 (.cons f183 (.cons f184 (.cons f185 .nil)))
theorem tk94:tb94 108=some T108.sp∧tb94 183=some T183.sp∧tb94 184=some T184.sp∧tb94 185=some T185.sp:=⟨rfl,rfl,rfl,rfl⟩
section
attribute [local go_sem] tk94 Tryz.results94
theorem f94:FnFact Tryz.prog 94 T94.sp:=by
 refine valid_m ty_ok tb94_ok Tryz.func94 rfl Tryz.ntmps94 fun ⟨x0,x1,x2,x3⟩ r hr=>⟨nL rfl,fun stop S=> ?_⟩
 replace hr:r94 x0 x1 x2 x3=some r:=hr
 unfold r94 at hr
 refine S.gx [] ?_
 exact D0 hr
end
def b64_1 (a0 a1:L_I):Bd Int Bool:=fun s1=>
 if (decide (s1<(a0.length:Int)))=true then
  if 0≤s1∧s1<(a0.length:Int) then
   if 0≤s1∧s1<(a1.length:Int) then
    if ((a0.getD s1.toNat default) != (a1.getD s1.toNat default))=true then
     .out (some false)
     else .next (IntKind.i64.wrap (s1+1))
    else .out none
   else .out none
  else .out (some true)
def r64 (a0 a1:L_I):Option (Bool):=
 if ((a0.length:Int) != (a1.length:Int))=true then
  some false
  else iterC (b64_1 a0 a1) 1000000000 0
def T64:=qT14 qu2 false r64
attribute [go_sem] T64
def tb64:Fns:=lk []
theorem tb64_ok:FnsOk Tryz.prog tb64:=FnsOk.nil
section
attribute [local go_sem] Tryz.results64
theorem f64:FnFact Tryz.prog 64 T64.sp:=by
 refine valid_m ty_ok tb64_ok Tryz.func64 rfl Tryz.ntmps64 fun ⟨a0,a1⟩ r hr=>⟨nL rfl,fun stop S=> ?_⟩
 replace hr:r64 a0 a1=some r:=hr
 unfold r64 at hr
 refine S.gx [] ?_
 refine gr ?_
 refine iW hr (fun hc hr=>D0 hr) fun hc hr=> ?_
 refine gr ?_
 refine S.sees [0,1,5] [] [] ?_ (Stop.iter S (fun s1=>⟨[(0,.c (.d (encF 1 d_I a0))),(1,.c (.d (encF 1 d_I a1))),(5,.c (.d (.int .i64 s1)))],[],[]⟩) (b64_1 a0 a1) (fun q=>q=r) hr rfl ?_)
 ·exact lf
 ·intro s1 hr
  unfold b64_1 at hr
  refine S.gx [] ?_
  exact D1 (S.ss [0,1,5] [] []) hr
end
def r25:Option (Bool):=
 (r92).bind fun v1=>
  (r93).bind fun v2=>
   (r34 v1.1 v1.2 v2.1 v2.2 100).bind fun v3=>
    (r94 v1.1 v1.2 v2.1 v2.2).bind fun v4=>
     if (v3.2 == 0)=true→(r64 v3.1 [66,34]).isSome=true then
      some ((((v3.2 == 0) && ((r64 v3.1 [66,34]).getD default)) && (v4.2.2.2.2 == 0)) && ((v4.1 == (-4)) && ((v4.2.1 == 20) && ((v4.2.2.1 == 2) && (v4.2.2.2.1 == 1)))))
      else none
def T25:=qT0 qu2 false r25
attribute [go_sem] T25
def tb25:Fns:=lk [(34,T34.sp),(64,T64.sp),(92,T92.sp),(93,T93.sp),(94,T94.sp)]
theorem tb25_ok:FnsOk Tryz.prog tb25:= .cons f34 (.cons f64 (.cons f92 (.cons f93 (.cons f94 .nil))))
theorem tk25:tb25 34=some T34.sp∧tb25 64=some T64.sp∧tb25 92=some T92.sp∧tb25 93=some T93.sp∧tb25 94=some T94.sp:=⟨rfl,rfl,rfl,rfl,rfl⟩
section
attribute [local go_sem] tk25 Tryz.results25
theorem f25:FnFact Tryz.prog 25 T25.sp:=by
 refine valid_m ty_ok tb25_ok Tryz.func25 rfl Tryz.ntmps25 fun _ r hr=>⟨nL rfl,fun stop S=> ?_⟩
 replace hr:r25=some r:=hr
 unfold r25 at hr
 refine S.gx [] ?_
 obtain ⟨v1,hv1,hr⟩:=of_bind0 hr
 obtain ⟨v2,hv2,hr⟩:=of_bind0 hr
 obtain ⟨v3,hv3,hr⟩:=of_bind0 hr
 obtain ⟨v4,hv4,hr⟩:=of_bind0 hr
 obtain ⟨hg5,hr⟩:=of_guard0 hr
 try simp only [hv1,hv2,hv3,hv4,Option.getD_some,Option.isSome_some,true_and,and_assoc]
 repeat (first | refine gG hg5 ?_ | refine gA ?_ | refine gB ?_)
 exact D0 hr
end
def r61:Option (Int×Int×L_II×L_LIIE):=
 some (3,500,[(0,300),(1000,800),(3000,1300)],[[(300,0)],[(300,0),(1300,400)]])
def T61:=qT0 qu14 true r61
attribute [go_sem] T61
def tb61:Fns:=lk []
theorem tb61_ok:FnsOk Tryz.prog tb61:=FnsOk.nil
section
attribute [local go_sem] Tryz.results61
theorem f61:FnFact Tryz.prog 61 T61.sp:=by
 refine valid_m ty_ok tb61_ok Tryz.func61 rfl Tryz.ntmps61 fun _ r hr=>⟨nL rfl,fun stop S=> ?_⟩
 replace hr:r61=some r:=hr
 unfold r61 at hr
 refine S.gx [] ?_
 exact D0 hr
end
def r79 (a0 a1 a2:Int):Option (Bool):=
 some ((decide (a1≤a0)) && (decide (a0≤a2)))
def T79:=qT1 qu2 false r79
attribute [go_sem] T79
def tb79:Fns:=lk []
theorem tb79_ok:FnsOk Tryz.prog tb79:=FnsOk.nil
section
attribute [local go_sem] Tryz.results79
theorem f79:FnFact Tryz.prog 79 T79.sp:=by
 refine valid_m ty_ok tb79_ok Tryz.func79 rfl Tryz.ntmps79 fun ⟨a0,a1,a2⟩ r hr=>⟨nL rfl,fun stop S=> ?_⟩
 replace hr:r79 a0 a1 a2=some r:=hr
 unfold r79 at hr
 refine S.gx [] ?_
 repeat (first | refine gA ?_ | refine gB ?_)
 exact D0 hr
end
def r83 (a0:Bool) (a1:Int):Option (Int):=
 if a0=true then
  some 0
  else some a1
def T83:=qT2 qu3 false r83
attribute [go_sem] T83
def tb83:Fns:=lk []
theorem tb83_ok:FnsOk Tryz.prog tb83:=FnsOk.nil
section
attribute [local go_sem] Tryz.results83
theorem f83:FnFact Tryz.prog 83 T83.sp:=by
 refine valid_m ty_ok tb83_ok Tryz.func83 rfl Tryz.ntmps83 fun ⟨a0,a1⟩ r hr=>⟨nL rfl,fun stop S=> ?_⟩
 replace hr:r83 a0 a1=some r:=hr
 unfold r83 at hr
 refine S.gx [] ?_
 exact D0 hr
end
def b80_1 (a0:L_I):Bd Int Int:=fun s1=>
 if (decide (s1<(a0.length:Int)))=true then
  if 0≤s1∧s1<(a0.length:Int) then
   if ((a0.getD s1.toNat default) != 0)=true then
    .out (some (a0.getD s1.toNat default))
    else .next (IntKind.i64.wrap (s1+1))
   else .out none
  else .out (some 0)
def r80 (a0:L_I):Option (Int):=
 iterC (b80_1 a0) 1000000000 0
def T80:=qT3 qu3 false r80
attribute [go_sem] T80
def tb80:Fns:=lk []
theorem tb80_ok:FnsOk Tryz.prog tb80:=FnsOk.nil
section
attribute [local go_sem] Tryz.results80
theorem f80:FnFact Tryz.prog 80 T80.sp:=by
 refine valid_m ty_ok tb80_ok Tryz.func80 rfl Tryz.ntmps80 fun a0 r hr=>⟨nL rfl,fun stop S=> ?_⟩
 replace hr:r80 a0=some r:=hr
 unfold r80 at hr
 refine S.gx [] ?_
 refine gr ?_
 refine S.sees [5,6,7] [] [] ?_ (Stop.iter S (fun s1=>⟨[(5,.c (.d (encF 1 d_I a0))),(6,.c (.d (.int .i64 (a0.length:Int)))),(7,.c (.d (.int .i64 s1)))],[],[]⟩) (b80_1 a0) (fun q=>q=r) hr rfl ?_)
 ·exact lf
 ·intro s1 hr
  unfold b80_1 at hr
  refine S.gx [] ?_
  exact D1 (S.ss [5,6,7] [] []) hr
end
def r169 (a0:Int):Option (Bool):=
 (r79 a0 200 3000).bind fun v1=>
  some v1
def T169:=qT4 qu2 false r169
attribute [go_sem] T169
def tb169:Fns:=lk [(79,T79.sp)]
theorem tb169_ok:FnsOk Tryz.prog tb169:= .cons f79 .nil
theorem tk169:tb169 79=some T79.sp:=rfl
section
attribute [local go_sem] tk169 Tryz.results169
theorem f169:FnFact Tryz.prog 169 T169.sp:=by
 refine valid_m ty_ok tb169_ok Tryz.func169 rfl Tryz.ntmps169 fun a0 r hr=>⟨nL rfl,fun stop S=> ?_⟩
 replace hr:r169 a0=some r:=hr
 unfold r169 at hr
 refine S.gx [] ?_
 exact D0 hr
end
end Go.Proofs.YthldpejmofhaoaaGreatDoor

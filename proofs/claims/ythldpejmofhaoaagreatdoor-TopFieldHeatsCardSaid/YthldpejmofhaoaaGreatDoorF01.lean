/- Contracts of functions, written by wip/dec. -/
import Derived.Test.YthldpejmofhaoaaGreatDoorF00
set_option linter.unusedVariables false
set_option linter.unusedSimpArgs false
set_option linter.constructorNameAsVariable false
set_option maxHeartbeats 4000000
set_option maxRecDepth 20000
namespace Go.Proofs.YthldpejmofhaoaaGreatDoor
open Go.Abs
section
variable {β:Type} [Inhabited β] (u:β→List RV) (al:Bool)
abbrev qF7 (β:Type):=Int→Int→Int→β
def qw7 (a0 a1 a2:Int):List Arg:=[.agg [.int .i64 a0,.int .i64 a1],.c (.int .i64 a2)]
def qd7 (a:List Arg):=(dInt (aCell a 0 0),dInt (aCell a 0 1),dInt (aCell a 1 0))
def qp7 {β:Type} (f:qF7 β) (c0 c1 c2:D):=f (dInt c0) (dInt c1) (dInt c2)
abbrev qt7 (c0 c1 c2:D):List Arg:=[.agg [c0,c1],.c c2]
def qT7 (r:qF7 (Option β)):=mkT (u3 qw7) qd7 (u3 r) u al
theorem qP7 (r:qF7 (Option β)) (c0 c1 c2:D):PT (qT7 u al r).sp u (qt7 c0 c1 c2) (qp7 qw7 c0 c1 c2) (qp7 r c0 c1 c2):=⟨rfl,rfl⟩
theorem qa7 (r:qF7 (Option β)):(qT7 u al r).sp.alias=al:=rfl
attribute [go_sem] qw7 qp7 qt7 qP7 qa7
end
def r92:Option (Int×L_III):=
 some (2,[(1,2,1),(1,1,1)])
def T92:=qT0 qu0 false r92
attribute [go_sem] T92
def tb92:Fns:=lk []
theorem tb92_ok:FnsOk Tryz.prog tb92:=FnsOk.nil
section
attribute [local go_sem] Tryz.results92
theorem f92:FnFact Tryz.prog 92 T92.sp:=by
 refine valid_m ty_ok tb92_ok Tryz.func92 rfl Tryz.ntmps92 fun _ r hr=>⟨nL rfl,fun stop S=> ?_⟩
 replace hr:r92=some r:=hr
 unfold r92 at hr
 refine S.gx [] ?_
 exact D0 hr
end
def r93:Option (Int×L_B):=
 some (1,[false,false])
def T93:=qT0 qu1 false r93
attribute [go_sem] T93
def tb93:Fns:=lk []
theorem tb93_ok:FnsOk Tryz.prog tb93:=FnsOk.nil
section
attribute [local go_sem] Tryz.results93
theorem f93:FnFact Tryz.prog 93 T93.sp:=by
 refine valid_m ty_ok tb93_ok Tryz.func93 rfl Tryz.ntmps93 fun _ r hr=>⟨nL rfl,fun stop S=> ?_⟩
 replace hr:r93=some r:=hr
 unfold r93 at hr
 refine S.gx [] ?_
 exact D0 hr
end
def r103 (a0 a1 a2:Int):Option (Bool):=
 some ((decide (a1≤a0)) && (decide (a0≤a2)))
def T103:=qT1 qu2 false r103
attribute [go_sem] T103
def tb103:Fns:=lk []
theorem tb103_ok:FnsOk Tryz.prog tb103:=FnsOk.nil
section
attribute [local go_sem] Tryz.results103
theorem f103:FnFact Tryz.prog 103 T103.sp:=by
 refine valid_m ty_ok tb103_ok Tryz.func103 rfl Tryz.ntmps103 fun ⟨a0,a1,a2⟩ r hr=>⟨nL rfl,fun stop S=> ?_⟩
 replace hr:r103 a0 a1 a2=some r:=hr
 unfold r103 at hr
 refine S.gx [] ?_
 repeat (first | refine gA ?_ | refine gB ?_)
 exact D0 hr
end
def r107 (a0:Bool) (a1:Int):Option (Int):=
 if a0=true then
  some 0
  else some a1
def T107:=qT2 qu3 false r107
attribute [go_sem] T107
def tb107:Fns:=lk []
theorem tb107_ok:FnsOk Tryz.prog tb107:=FnsOk.nil
section
attribute [local go_sem] Tryz.results107
theorem f107:FnFact Tryz.prog 107 T107.sp:=by
 refine valid_m ty_ok tb107_ok Tryz.func107 rfl Tryz.ntmps107 fun ⟨a0,a1⟩ r hr=>⟨nL rfl,fun stop S=> ?_⟩
 replace hr:r107 a0 a1=some r:=hr
 unfold r107 at hr
 refine S.gx [] ?_
 exact D0 hr
end
def b106_1 (a0:L_I):Bd Int Int:=fun s1=>
 if (decide (s1<(a0.length:Int)))=true then
  if 0≤s1∧s1<(a0.length:Int) then
   if ((a0.getD s1.toNat default) != 0)=true then
    .out (some (a0.getD s1.toNat default))
    else .next (IntKind.i64.wrap (s1+1))
   else .out none
  else .out (some 0)
def r106 (a0:L_I):Option (Int):=
 iterC (b106_1 a0) 1000000000 0
def T106:=qT3 qu3 false r106
attribute [go_sem] T106
def tb106:Fns:=lk []
theorem tb106_ok:FnsOk Tryz.prog tb106:=FnsOk.nil
section
attribute [local go_sem] Tryz.results106
theorem f106:FnFact Tryz.prog 106 T106.sp:=by
 refine valid_m ty_ok tb106_ok Tryz.func106 rfl Tryz.ntmps106 fun a0 r hr=>⟨nL rfl,fun stop S=> ?_⟩
 replace hr:r106 a0=some r:=hr
 unfold r106 at hr
 refine S.gx [] ?_
 refine gr ?_
 refine S.sees [5,6,7] [] [] ?_ (Stop.iter S (fun s1=>⟨[(5,.c (.d (encF 1 d_I a0))),(6,.c (.d (.int .i64 (a0.length:Int)))),(7,.c (.d (.int .i64 s1)))],[],[]⟩) (b106_1 a0) (fun q=>q=r) hr rfl ?_)
 ·exact lf
 ·intro s1 hr
  unfold b106_1 at hr
  refine S.gx [] ?_
  exact D1 (S.ss [5,6,7] [] []) hr
end
def r239 (a0:Int):Option (Bool):=
 (r103 a0 1 4).bind fun v1=>
  some v1
def T239:=qT4 qu2 false r239
attribute [go_sem] T239
def tb239:Fns:=lk [(103,T103.sp)]
theorem tb239_ok:FnsOk Tryz.prog tb239:= .cons f103 .nil
theorem tk239:tb239 103=some T103.sp:=rfl
section
attribute [local go_sem] tk239 Tryz.results239
theorem f239:FnFact Tryz.prog 239 T239.sp:=by
 refine valid_m ty_ok tb239_ok Tryz.func239 rfl Tryz.ntmps239 fun a0 r hr=>⟨nL rfl,fun stop S=> ?_⟩
 replace hr:r239 a0=some r:=hr
 unfold r239 at hr
 refine S.gx [] ?_
 exact D0 hr
end
def b188_1 (x0:L_III):Bd Int (Int×Int):=fun s1=>
 if (decide (s1<(x0.length:Int)))=true then
  if 0≤s1∧s1<(x0.length:Int) then
   bindC (r103 ((x0.getD s1.toNat default).1) 1 4) fun v6=>
    if v6=true→(r239 ((x0.getD s1.toNat default).2.1)).isSome=true then
     if (v6 && ((r239 ((x0.getD s1.toNat default).2.1)).getD default))=true→(r239 ((x0.getD s1.toNat default).2.2)).isSome=true then
      bindC (r107 ((v6 && ((r239 ((x0.getD s1.toNat default).2.1)).getD default)) && ((r239 ((x0.getD s1.toNat default).2.2)).getD default)) 2) fun v7=>
       bindC (r107 (decide (((x0.getD s1.toNat default).2.2)≤((x0.getD s1.toNat default).2.1))) 9) fun v8=>
        bindC (r106 [v7,v8]) fun v9=>
         if (v9 != 0)=true then
          .out (some (s1,v9))
          else .next (IntKind.i64.wrap (s1+1))
      else .out none
     else .out none
   else .out none
  else .out (some (0,0))
def r188 (x1:Int) (x0:L_III):Option (Int×Int):=
 (r103 x1 1 20).bind fun v1=>
  (r107 v1 2).bind fun v2=>
   (r107 (decide ((x0.length:Int)>0)) 10).bind fun v3=>
    (r107 (decide ((x0.length:Int)≤4)) 8).bind fun v4=>
     (r106 [v2,v3,v4]).bind fun v5=>
      if (v5 != 0)=true then
       some (0,v5)
       else iterC (b188_1 x0) 1000000000 0
def T188:=qT5 qu4 false r188
attribute [go_sem] T188
def tb188:Fns:=lk [(103,T103.sp),(106,T106.sp),(107,T107.sp),(239,T239.sp)]
theorem tb188_ok:FnsOk Tryz.prog tb188:= .cons f103 (.cons f106 (.cons f107 (.cons f239 .nil)))
theorem tk188:tb188 103=some T103.sp∧tb188 106=some T106.sp∧tb188 107=some T107.sp∧tb188 239=some T239.sp:=⟨rfl,rfl,rfl,rfl⟩
section
attribute [local go_sem] tk188 Tryz.results188
theorem f188:FnFact Tryz.prog 188 T188.sp:=by
 refine valid_m ty_ok tb188_ok Tryz.func188 rfl Tryz.ntmps188 fun ⟨x1,x0⟩ r hr=>⟨nL rfl,fun stop S=> ?_⟩
 replace hr:r188 x1 x0=some r:=hr
 unfold r188 at hr
 refine S.gx [10] ?_
 obtain ⟨v1,hv1,hr⟩:=of_bind0 hr
 obtain ⟨v2,hv2,hr⟩:=of_bind0 hr
 obtain ⟨v3,hv3,hr⟩:=of_bind0 hr
 obtain ⟨v4,hv4,hr⟩:=of_bind0 hr
 obtain ⟨v5,hv5,hr⟩:=of_bind0 hr
 refine gb hv1 ?_
 refine gb hv2 ?_
 refine gb hv3 ?_
 refine gb hv4 ?_
 refine gb hv5 ?_
 refine iW hr (fun hc hr=>D0 hr) fun hc hr=> ?_
 refine gr ?_
 refine S.sees [5,30,31,32] [] [] ?_ (Stop.iter S (fun s1=>⟨[(5,.c (.clo 239 [])),(30,.c (.d (encF 3 d_III x0))),(31,.c (.d (.int .i64 (x0.length:Int)))),(32,.c (.d (.int .i64 s1)))],[],[]⟩) (b188_1 x0) (fun q=>q=r) hr rfl ?_)
 ·exact lf
 ·intro s1 hr
  unfold b188_1 at hr
  refine S.gx [10] ?_
  refine gr ?_
  refine iW1 hr (fun hc hr=> ?_) fun hc hr=>D0 hr
  obtain ⟨hg10,hr⟩:=of_guard1 hr
  obtain ⟨v6,hv6,hr⟩:=of_bind1 hr
  obtain ⟨hg11,hr⟩:=of_guard1 hr
  obtain ⟨hg12,hr⟩:=of_guard1 hr
  obtain ⟨v7,hv7,hr⟩:=of_bind1 hr
  obtain ⟨v8,hv8,hr⟩:=of_bind1 hr
  obtain ⟨v9,hv9,hr⟩:=of_bind1 hr
  try simp only [hv6,hv7,hv8,hv9,Option.getD_some,Option.isSome_some,true_and,and_assoc]
  repeat (first | refine gG hg11 ?_ | refine gG hg12 ?_ | refine gA ?_ | refine gB ?_)
  refine S.prune [5,6,9,30,31,32] ?_
  refine S.gx [] ?_
  exact D1 (S.ss [5,30,31,32] [] []) hr
end
def r97 (x0:Int) (x1:L_III):Option (Int):=
 (r188 x0 x1).bind fun v1=>
  some v1.2
def T97:=qT5 qu3 false r97
attribute [go_sem] T97
def tb97:Fns:=lk [(188,T188.sp)]
theorem tb97_ok:FnsOk Tryz.prog tb97:= .cons f188 .nil
theorem tk97:tb97 188=some T188.sp:=rfl
section
attribute [local go_sem] tk97 Tryz.results97
theorem f97:FnFact Tryz.prog 97 T97.sp:=by
 refine valid_m ty_ok tb97_ok Tryz.func97 rfl Tryz.ntmps97 fun ⟨x0,x1⟩ r hr=>⟨nL rfl,fun stop S=> ?_⟩
 replace hr:r97 x0 x1=some r:=hr
 unfold r97 at hr
 refine S.gx [] ?_
 exact D0 hr
end
def r195 (x3:Int) (x0:L_III) (x1:Int) (x2:L_B):Option (Int):=
 (r103 x1 1 8).bind fun v1=>
  (r107 v1 2).bind fun v2=>
   (r107 ((x2.length:Int) == (x0.length:Int)) 10).bind fun v3=>
    (r106 [v2,v3]).bind fun v4=>
     some v4
def T195:=qT6 qu3 false r195
attribute [go_sem] T195
def tb195:Fns:=lk [(103,T103.sp),(106,T106.sp),(107,T107.sp)]
theorem tb195_ok:FnsOk Tryz.prog tb195:= .cons f103 (.cons f106 (.cons f107 .nil))
theorem tk195:tb195 103=some T103.sp∧tb195 106=some T106.sp∧tb195 107=some T107.sp:=⟨rfl,rfl,rfl⟩
section
attribute [local go_sem] tk195 Tryz.results195
theorem f195:FnFact Tryz.prog 195 T195.sp:=by
 refine valid_m ty_ok tb195_ok Tryz.func195 rfl Tryz.ntmps195 fun ⟨x3,x0,x1,x2⟩ r hr=>⟨nL rfl,fun stop S=> ?_⟩
 replace hr:r195 x3 x0 x1 x2=some r:=hr
 unfold r195 at hr
 refine S.gx [] ?_
 exact D0 hr
end
def r190 (x0:Int) (x1:L_III) (x2:Int) (x3:L_B):Option (Int):=
 (r97 x0 x1).bind fun v1=>
  (r195 x0 x1 x2 x3).bind fun v2=>
   (r106 [v1,v2]).bind fun v3=>
    some v3
def T190:=qT6 qu3 false r190
attribute [go_sem] T190
def tb190:Fns:=lk [(97,T97.sp),(106,T106.sp),(195,T195.sp)]
theorem tb190_ok:FnsOk Tryz.prog tb190:= .cons f97 (.cons f106 (.cons f195 .nil))
theorem tk190:tb190 97=some T97.sp∧tb190 106=some T106.sp∧tb190 195=some T195.sp:=⟨rfl,rfl,rfl⟩
section
attribute [local go_sem] tk190 Tryz.results190
theorem f190:FnFact Tryz.prog 190 T190.sp:=by
 refine valid_m ty_ok tb190_ok Tryz.func190 rfl Tryz.ntmps190 fun ⟨x0,x1,x2,x3⟩ r hr=>⟨nL rfl,fun stop S=> ?_⟩
 replace hr:r190 x0 x1 x2 x3=some r:=hr
 unfold r190 at hr
 refine S.gx [] ?_
 exact D0 hr
end
def b191_1 (x0:L_III) (x1:Int) (x2:L_B):Bd (Int×(List (Int))×(List (Int))) (L_I×L_I):=fun s1=>
 if (decide (s1.1<(x0.length:Int)))=true then
  if 0≤s1.1∧s1.1<(x0.length:Int) then
   if 0≤s1.1∧s1.1<(x2.length:Int) then
    if (x2.getD s1.1.toNat default)=true then
     if (s1.2.1.length+1)*8≤140737488355328∧s1.2.1.length+1≤9223372036854775807 then
      if (s1.2.2.length+1)*8≤140737488355328∧s1.2.2.length+1≤9223372036854775807 then
       .next (IntKind.i64.wrap (s1.1+1),s1.2.1++[(x0.getD s1.1.toNat default).1],s1.2.2++[IntKind.i64.wrap (x1*((x0.getD s1.1.toNat default).2.2))])
       else .out none
      else .out none
     else if (s1.2.1.length+1)*8≤140737488355328∧s1.2.1.length+1≤9223372036854775807 then
      if (s1.2.2.length+1)*8≤140737488355328∧s1.2.2.length+1≤9223372036854775807 then
       .next (IntKind.i64.wrap (s1.1+1),s1.2.1++[(x0.getD s1.1.toNat default).1],s1.2.2++[IntKind.i64.wrap (x1*((x0.getD s1.1.toNat default).2.1))])
       else .out none
      else .out none
    else .out none
   else .out none
  else .out (some (s1.2.1,s1.2.2))
def r191 (x3:Int) (x0:L_III) (x1:Int) (x2:L_B):Option (L_I×L_I):=
 iterC (b191_1 x0 x1 x2) 1000000000 (0,[],[])
def T191:=qT6 qu5 false r191
attribute [go_sem] T191
def tb191:Fns:=lk []
theorem tb191_ok:FnsOk Tryz.prog tb191:=FnsOk.nil
section
attribute [local go_sem] Tryz.results191
theorem f191:FnFact Tryz.prog 191 T191.sp:=by
 refine valid_m ty_ok tb191_ok Tryz.func191 rfl Tryz.ntmps191 fun ⟨x3,x0,x1,x2⟩ r hr=>⟨nL rfl,fun stop S=> ?_⟩
 replace hr:r191 x3 x0 x1 x2=some r:=hr
 unfold r191 at hr
 refine S.gx [10] ?_
 refine gr ?_
 refine S.own0b 5 0 2000500 1 rfl rfl (nL rfl) rfl ?_
 refine S.own0b 5 1 2000501 1 rfl rfl (nL rfl) rfl ?_
 refine S.sees [3,4,5,10,11,12] [(3,3),(4,4),(5,5)] [(2000500,2000500),(2000501,2000501)] ?_ (Stop.iter S (fun s1=>⟨[(3,.c (.ref 3 0)),(4,.c (.ref 4 0)),(5,.c (.ref 5 0)),(10,.c (.d (encF 3 d_III x0))),(11,.c (.d (.int .i64 (x0.length:Int)))),(12,.c (.d (.int .i64 s1.1)))],[(3,[.d (.int .i64 x1),.d (encF 1 d_B x2)]),(4,[.nils,.nils]),(5,[.own 2000500,.own 2000501])],[(2000500,.owned (encF 1 d_I s1.2.1)),(2000501,.owned (encF 1 d_I s1.2.2))]⟩) (b191_1 x0 x1 x2) (fun q=>q=r) hr rfl ?_)
 ·exact lf
 ·intro s1 hr
  unfold b191_1 at hr
  refine S.gx [10] ?_
  refine gr ?_
  refine iW1 hr (fun hc hr=> ?_) fun hc hr=>D0 hr
  obtain ⟨hg5,hr⟩:=of_guard1 hr
  obtain ⟨hg6,hr⟩:=of_guard1 hr
  refine gr ?_
  refine iW1 hr (fun hc hr=> ?_) fun hc hr=> ?_
  ·obtain ⟨hg1,hr⟩:=of_guard1 hr
   obtain ⟨hg2,hr⟩:=of_guard1 hr
   refine gr ?_
   refine S.prune [3,4,5,10,11,12] ?_
   refine S.gx [] ?_
   exact D1 (S.ss [3,4,5,10,11,12] [(3,3),(4,4),(5,5)] [(31,2000500),(40,2000501)]) hr
  ·obtain ⟨hg3,hr⟩:=of_guard1 hr
   obtain ⟨hg4,hr⟩:=of_guard1 hr
   refine gr ?_
   refine S.prune [3,4,5,10,11,12] ?_
   refine S.gx [] ?_
   exact D1 (S.ss [3,4,5,10,11,12] [(3,3),(4,4),(5,5)] [(31,2000500),(40,2000501)]) hr
end
def r108 (x0:Int) (x1:L_III) (x2:Int) (x3:L_B):Option (L_I×L_I×Int):=
 (r190 x0 x1 x2 x3).bind fun v1=>
  if (v1 != 0)=true then
   some ([],[],v1)
   else (r191 x0 x1 x2 x3).bind fun v2=>
    some (v2.1,v2.2,0)
def T108:=qT6 qu6 false r108
attribute [go_sem] T108
def tb108:Fns:=lk [(190,T190.sp),(191,T191.sp)]
theorem tb108_ok:FnsOk Tryz.prog tb108:= .cons f190 (.cons f191 .nil)
theorem tk108:tb108 190=some T190.sp∧tb108 191=some T191.sp:=⟨rfl,rfl⟩
section
attribute [local go_sem] tk108 Tryz.results108
theorem f108:FnFact Tryz.prog 108 T108.sp:=by
 refine valid_m ty_ok tb108_ok Tryz.func108 rfl Tryz.ntmps108 fun ⟨x0,x1,x2,x3⟩ r hr=>⟨nL rfl,fun stop S=> ?_⟩
 replace hr:r108 x0 x1 x2 x3=some r:=hr
 unfold r108 at hr
 refine S.gx [] ?_
 exact D0 hr
end
def r109 (a0:Int):Option (Int):=
 (r103 a0 0 100000).bind fun v1=>
  (r107 v1 2).bind fun v2=>
   some v2
def T109:=qT4 qu3 false r109
attribute [go_sem] T109
def tb109:Fns:=lk [(103,T103.sp),(107,T107.sp)]
theorem tb109_ok:FnsOk Tryz.prog tb109:= .cons f103 (.cons f107 .nil)
theorem tk109:tb109 103=some T103.sp∧tb109 107=some T107.sp:=⟨rfl,rfl⟩
section
attribute [local go_sem] tk109 Tryz.results109
theorem f109:FnFact Tryz.prog 109 T109.sp:=by
 refine valid_m ty_ok tb109_ok Tryz.func109 rfl Tryz.ntmps109 fun a0 r hr=>⟨nL rfl,fun stop S=> ?_⟩
 replace hr:r109 a0=some r:=hr
 unfold r109 at hr
 refine S.gx [] ?_
 exact D0 hr
end
def r185 (x0 x1 a1:Int):Option (Int×Int):=
 some (IntKind.i64.wrap (a1*x0),IntKind.i64.wrap (a1*x1))
def T185:=qT7 qu7 false r185
attribute [go_sem] T185
def tb185:Fns:=lk []
theorem tb185_ok:FnsOk Tryz.prog tb185:=FnsOk.nil
section
attribute [local go_sem] Tryz.results185
theorem f185:FnFact Tryz.prog 185 T185.sp:=by
 refine valid_m ty_ok tb185_ok Tryz.func185 rfl Tryz.ntmps185 fun ⟨x0,x1,a1⟩ r hr=>⟨nL rfl,fun stop S=> ?_⟩
 replace hr:r185 x0 x1 a1=some r:=hr
 unfold r185 at hr
 refine S.gx [] ?_
 exact D0 hr
end
def r278 (x0 x1 x2 x3:Int):Option (Int×Int):=
 some (IntKind.i64.wrap (x0+x2),IntKind.i64.wrap (x1+x3))
def T278:=qT8 qu7 false r278
attribute [go_sem] T278
def tb278:Fns:=lk []
theorem tb278_ok:FnsOk Tryz.prog tb278:=FnsOk.nil
section
attribute [local go_sem] Tryz.results278
theorem f278:FnFact Tryz.prog 278 T278.sp:=by
 refine valid_m ty_ok tb278_ok Tryz.func278 rfl Tryz.ntmps278 fun ⟨x0,x1,x2,x3⟩ r hr=>⟨nL rfl,fun stop S=> ?_⟩
 replace hr:r278 x0 x1 x2 x3=some r:=hr
 unfold r278 at hr
 refine S.gx [] ?_
 exact D0 hr
end
def r279 (x0 x1 a1:Int):Option (Int×Int):=
 some (IntKind.i64.wrap ((IntKind.i64.wrap (0 - a1))*x1),IntKind.i64.wrap (a1*x0))
def T279:=qT7 qu7 false r279
attribute [go_sem] T279
def tb279:Fns:=lk []
theorem tb279_ok:FnsOk Tryz.prog tb279:=FnsOk.nil
section
attribute [local go_sem] Tryz.results279
theorem f279:FnFact Tryz.prog 279 T279.sp:=by
 refine valid_m ty_ok tb279_ok Tryz.func279 rfl Tryz.ntmps279 fun ⟨x0,x1,a1⟩ r hr=>⟨nL rfl,fun stop S=> ?_⟩
 replace hr:r279 x0 x1 a1=some r:=hr
 unfold r279 at hr
 refine S.gx [] ?_
 exact D0 hr
end
end Go.Proofs.YthldpejmofhaoaaGreatDoor

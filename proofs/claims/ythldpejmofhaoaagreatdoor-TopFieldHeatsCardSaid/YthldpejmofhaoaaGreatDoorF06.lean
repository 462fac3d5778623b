/- Contracts of functions, written by wip/dec. -/
import Derived.Test.YthldpejmofhaoaaGreatDoorF00
import Derived.Test.YthldpejmofhaoaaGreatDoorF05
set_option linter.unusedVariables false
set_option linter.unusedSimpArgs false
set_option linter.constructorNameAsVariable false
set_option maxHeartbeats 4000000
set_option maxRecDepth 20000
namespace Go.Proofs.YthldpejmofhaoaaGreatDoor
open Go.Abs
section
variable {β:Type} [Inhabited β] (u:β→List RV) (al:Bool)
abbrev qF39 (β:Type):=L_II→Int→Int→β
def qw39 (a0:L_II) (a1 a2:Int):List Arg:=[.c (encF 2 d_II a0),.c (.int .i64 a1),.c (.int .i64 a2)]
def qd39 (a:List Arg):=(decF g_II (aCell a 0 0),dInt (aCell a 1 0),dInt (aCell a 2 0))
def qp39 {β:Type} (f:qF39 β) (c0 c1 c2:D):=f (decF g_II c0) (dInt c1) (dInt c2)
abbrev qt39 (c0 c1 c2:D):List Arg:=[.c c0,.c c1,.c c2]
def qT39 (r:qF39 (Option β)):=mkT (u3 qw39) qd39 (u3 r) u al
theorem qP39 (r:qF39 (Option β)) (c0 c1 c2:D):PT (qT39 u al r).sp u (qt39 c0 c1 c2) (qp39 qw39 c0 c1 c2) (qp39 r c0 c1 c2):=⟨rfl,rfl⟩
theorem qa39 (r:qF39 (Option β)):(qT39 u al r).sp.alias=al:=rfl
attribute [go_sem] qw39 qp39 qt39 qP39 qa39
abbrev qF41 (β:Type):=L_S→ByteArray→β
def qw41 (a0:L_S) (a1:ByteArray):List Arg:=[.c (encF 1 d_S a0),.c (.str a1)]
def qd41 (a:List Arg):=(decF g_S (aCell a 0 0),dStr (aCell a 1 0))
def qp41 {β:Type} (f:qF41 β) (c0 c1:D):=f (decF g_S c0) (dStr c1)
abbrev qt41 (c0 c1:D):List Arg:=[.c c0,.c c1]
def qT41 (r:qF41 (Option β)):=mkT (u2 qw41) qd41 (u2 r) u al
theorem qP41 (r:qF41 (Option β)) (c0 c1:D):PT (qT41 u al r).sp u (qt41 c0 c1) (qp41 qw41 c0 c1) (qp41 r c0 c1):=⟨rfl,rfl⟩
theorem qa41 (r:qF41 (Option β)):(qT41 u al r).sp.alias=al:=rfl
attribute [go_sem] qw41 qp41 qt41 qP41 qa41
abbrev qF42 (β:Type):=ByteArray→ByteArray→β
def qw42 (a0 a1:ByteArray):List Arg:=[.c (.str a0),.c (.str a1)]
def qd42 (a:List Arg):=(dStr (aCell a 0 0),dStr (aCell a 1 0))
def qp42 {β:Type} (f:qF42 β) (c0 c1:D):=f (dStr c0) (dStr c1)
abbrev qt42 (c0 c1:D):List Arg:=[.c c0,.c c1]
def qT42 (r:qF42 (Option β)):=mkT (u2 qw42) qd42 (u2 r) u al
theorem qP42 (r:qF42 (Option β)) (c0 c1:D):PT (qT42 u al r).sp u (qt42 c0 c1) (qp42 qw42 c0 c1) (qp42 r c0 c1):=⟨rfl,rfl⟩
theorem qa42 (r:qF42 (Option β)):(qT42 u al r).sp.alias=al:=rfl
attribute [go_sem] qw42 qp42 qt42 qP42 qa42
def qu21 (v:ByteArray):List RV:=[.c (.d (.str v))]
attribute [go_sem] qu21
def qu22 (v:L_S):List RV:=[.c (.own (encF 1 d_S v))]
attribute [go_sem] qu22
def qu23 (v:Int×Bool):List RV:=[.c (.d (.int .i64 v.1)),.c (.d (.err v.2))]
attribute [go_sem] qu23
end
def b219_1 (a0:L_II):Bd Int Int:=fun s1=>
 if (decide (s1<(a0.length:Int)))=true then
  if 0≤s1∧s1<(a0.length:Int) then
   bindC (r154 ((a0.getD s1.toNat default).1)) fun v1=>
    if (!(!v1))=true→0≤s1∧s1<(a0.length:Int) then
     if (!(!v1))=true→(r11 ((a0.getD s1.toNat default).2) 0 1000).isSome=true then
      if ((!v1) || (!((r11 ((a0.getD s1.toNat default).2) 0 1000).getD default)))=true then
       .out (some 2)
       else if (decide (s1>0))=true then
        if 0≤s1∧s1<(a0.length:Int) then
         if 0≤IntKind.i64.wrap (s1 - 1)∧IntKind.i64.wrap (s1 - 1)<(a0.length:Int) then
          if 0≤s1∧s1<(a0.length:Int) then
           if 0≤IntKind.i64.wrap (s1 - 1)∧IntKind.i64.wrap (s1 - 1)<(a0.length:Int) then
            if ((decide ((IntKind.i64.wrap (((a0.getD s1.toNat default).1) - ((a0.getD (IntKind.i64.wrap (s1 - 1)).toNat default).1)))≤0)) || (decide ((IntKind.i64.wrap (((a0.getD s1.toNat default).2) - ((a0.getD (IntKind.i64.wrap (s1 - 1)).toNat default).2)))<0)))=true then
             .out (some 9)
             else if (decide ((IntKind.i64.wrap (2*(IntKind.i64.wrap (((a0.getD s1.toNat default).2) - ((a0.getD (IntKind.i64.wrap (s1 - 1)).toNat default).2)))))>(IntKind.i64.wrap (((a0.getD s1.toNat default).1) - ((a0.getD (IntKind.i64.wrap (s1 - 1)).toNat default).1)))))=true then
              .out (some 22)
              else .next (IntKind.i64.wrap (s1+1))
            else .out none
           else .out none
          else .out none
         else .out none
        else .next (IntKind.i64.wrap (s1+1))
      else .out none
     else .out none
   else .out none
  else .out (some 0)
def r219 (a0:L_II):Option (Int):=
 if (decide ((a0.length:Int)>6))=true then
  some 8
  else iterC (b219_1 a0) 1000000000 0
def T219:=qT15 qu3 false r219
attribute [go_sem] T219
def tb219:Fns:=lk [(11,T11.sp),(154,T154.sp)]
theorem tb219_ok:FnsOk Tryz.prog tb219:= .cons f11 (.cons f154 .nil)
theorem tk219:tb219 11=some T11.sp∧tb219 154=some T154.sp:=⟨rfl,rfl⟩
section
attribute [local go_sem] tk219 Tryz.results219
theorem f219:FnFact Tryz.prog 219 T219.sp:=by
 refine valid_m ty_ok tb219_ok Tryz.func219 rfl Tryz.ntmps219 fun a0 r hr=>⟨nL rfl,fun stop S=> ?_⟩
 replace hr:r219 a0=some r:=hr
 unfold r219 at hr
 refine S.gx [10] ?_
 refine gr ?_
 refine iW hr (fun hc hr=>D0 hr) fun hc hr=> ?_
 refine gr ?_
 refine S.sees [0,3] [] [] ?_ (Stop.iter S (fun s1=>⟨[(0,.c (.d (encF 2 d_II a0))),(3,.c (.d (.int .i64 s1)))],[],[]⟩) (b219_1 a0) (fun q=>q=r) hr rfl ?_)
 ·exact lf
 ·intro s1 hr
  unfold b219_1 at hr
  refine S.gx [10] ?_
  refine gr ?_
  refine iW1 hr (fun hc hr=> ?_) fun hc hr=>D0 hr
  obtain ⟨hg6,hr⟩:=of_guard1 hr
  obtain ⟨v1,hv1,hr⟩:=of_bind1 hr
  obtain ⟨hg7,hr⟩:=of_guard1 hr
  obtain ⟨hg8,hr⟩:=of_guard1 hr
  try simp only [hv1,oG,oI,true_and,and_assoc]
  repeat (first | refine gG hg7 ?_ | refine gG hg8 ?_ | refine gA ?_ | refine gB ?_)
  refine iW1 hr (fun hc hr=>D0 hr) fun hc hr=> ?_
  refine gr ?_
  refine iW1 hr (fun hc hr=> ?_) fun hc hr=>D1 (S.ss [0,3] [] []) hr
  obtain ⟨hg2,hr⟩:=of_guard1 hr
  obtain ⟨hg3,hr⟩:=of_guard1 hr
  obtain ⟨hg4,hr⟩:=of_guard1 hr
  obtain ⟨hg5,hr⟩:=of_guard1 hr
  refine gr ?_
  refine S.prune [0,3,4,5] ?_
  refine S.gx [] ?_
  repeat (first | refine gA ?_ | refine gB ?_)
  exact D1 (S.ss [0,3] [] []) hr
end
def b261_1 (a0:L_II) (a1 a2:Int):Bd Int (Int×Int):=fun s1=>
 if (decide (s1<(a0.length:Int)))=true then
  if 0≤s1∧s1<(a0.length:Int) then
   if (decide (a1≤(IntKind.i64.wrap (((a0.getD s1.toNat default).1)*a2))))=true then
    if (s1 == 0)=true then
     if 0≤0∧0<(a0.length:Int) then
      .out (some ((a0.getD 0 default).2,1))
      else .out none
     else if 0≤IntKind.i64.wrap (s1 - 1)∧IntKind.i64.wrap (s1 - 1)<(a0.length:Int) then
      if 0≤s1∧s1<(a0.length:Int) then
       .out (some (IntKind.i64.wrap ((IntKind.i64.wrap (((a0.getD (IntKind.i64.wrap (s1 - 1)).toNat default).2)*(IntKind.i64.wrap ((IntKind.i64.wrap (((a0.getD s1.toNat default).1) - ((a0.getD (IntKind.i64.wrap (s1 - 1)).toNat default).1)))*a2))))+(IntKind.i64.wrap ((IntKind.i64.wrap (((a0.getD s1.toNat default).2) - ((a0.getD (IntKind.i64.wrap (s1 - 1)).toNat default).2)))*(IntKind.i64.wrap (a1 - (IntKind.i64.wrap (((a0.getD (IntKind.i64.wrap (s1 - 1)).toNat default).1)*a2))))))),IntKind.i64.wrap ((IntKind.i64.wrap (((a0.getD s1.toNat default).1) - ((a0.getD (IntKind.i64.wrap (s1 - 1)).toNat default).1)))*a2)))
       else .out none
      else .out none
    else .next (IntKind.i64.wrap (s1+1))
   else .out none
  else .out (if 0≤IntKind.i64.wrap ((a0.length:Int) - 1)∧IntKind.i64.wrap ((a0.length:Int) - 1)<(a0.length:Int) then
   some ((a0.getD (IntKind.i64.wrap ((a0.length:Int) - 1)).toNat default).2,1)
   else none)
def r261 (a0:L_II) (a1 a2:Int):Option (Int×Int):=
 if ((a0.length:Int) == 0)=true then
  some (0,1)
  else iterC (b261_1 a0 a1 a2) 1000000000 0
def T261:=qT39 qu4 false r261
attribute [go_sem] T261
def tb261:Fns:=lk []
theorem tb261_ok:FnsOk Tryz.prog tb261:=FnsOk.nil
section
attribute [local go_sem] Tryz.results261
theorem f261:FnFact Tryz.prog 261 T261.sp:=by
 refine valid_m ty_ok tb261_ok Tryz.func261 rfl Tryz.ntmps261 fun ⟨a0,a1,a2⟩ r hr=>⟨nL rfl,fun stop S=> ?_⟩
 replace hr:r261 a0 a1 a2=some r:=hr
 unfold r261 at hr
 refine S.gx [11] ?_
 refine gr ?_
 refine iW hr (fun hc hr=>D0 hr) fun hc hr=> ?_
 refine gr ?_
 refine S.sees [0,1,2,8] [] [] ?_ (Stop.iter S (fun s1=>⟨[(0,.c (.d (encF 2 d_II a0))),(1,.c (.d (.int .i64 a1))),(2,.c (.d (.int .i64 a2))),(8,.c (.d (.int .i64 s1)))],[],[]⟩) (b261_1 a0 a1 a2) (fun q=>q=r) hr rfl ?_)
 ·exact lf
 ·intro s1 hr
  unfold b261_1 at hr
  refine S.gx [11] ?_
  refine gr ?_
  refine iW1 hr (fun hc hr=> ?_) fun hc hr=>D0 hr
  obtain ⟨hg4,hr⟩:=of_guard1 hr
  refine gr ?_
  refine iW1 hr (fun hc hr=> ?_) fun hc hr=>D1 (S.ss [0,1,2,8] [] []) hr
  refine gr ?_
  refine iW1 hr (fun hc hr=>D0 hr) fun hc hr=> ?_
  obtain ⟨hg2,hr⟩:=of_guard1 hr
  obtain ⟨hg3,hr⟩:=of_guard1 hr
  refine gr ?_
  refine S.prune [1,2,9,10,11] ?_
  refine S.gx [] ?_
  exact D0 hr
end
def b220_1 (a0 a1:L_II):Bd Int Bool:=fun s1=>
 if (decide (s1<((a0++a1).length:Int)))=true then
  if 0≤s1∧s1<((a0++a1).length:Int) then
   bindC (r261 a0 (((a0++a1).getD s1.toNat default).1) 1) fun v1=>
    if 0≤s1∧s1<((a0++a1).length:Int) then
     bindC (r261 a1 (((a0++a1).getD s1.toNat default).1) 1) fun v2=>
      if (decide ((IntKind.i64.wrap (v1.1*v2.2))<(IntKind.i64.wrap (v2.1*v1.2))))=true then
       .out (some true)
       else .next (IntKind.i64.wrap (s1+1))
     else .out none
   else .out none
  else .out (some false)
def r220 (a0 a1:L_II):Option (Bool):=
 if (0+a0.length)*16≤140737488355328∧0+a0.length≤9223372036854775807 then
  if (a0.length+a1.length)*16≤140737488355328∧a0.length+a1.length≤9223372036854775807 then
   iterC (b220_1 a0 a1) 1000000000 0
   else none
  else none
def T220:=qT20 qu2 false r220
attribute [go_sem] T220
def tb220:Fns:=lk [(261,T261.sp)]
theorem tb220_ok:FnsOk Tryz.prog tb220:= .cons f261 .nil
theorem tk220:tb220 261=some T261.sp:=rfl
section
attribute [local go_sem] tk220 Tryz.results220
theorem f220:FnFact Tryz.prog 220 T220.sp:=by
 refine valid_m ty_ok tb220_ok Tryz.func220 rfl Tryz.ntmps220 fun ⟨a0,a1⟩ r hr=>⟨nL rfl,fun stop S=> ?_⟩
 replace hr:r220 a0 a1=some r:=hr
 unfold r220 at hr
 refine S.gx [4,8] ?_
 obtain ⟨hg5,hr⟩:=of_guard0 hr
 obtain ⟨hg6,hr⟩:=of_guard0 hr
 refine gr ?_
 refine S.sees [0,1,5,6] [] [(15,15)] ?_ (Stop.iter S (fun s1=>⟨[(0,.c (.d (encF 2 d_II a0))),(1,.c (.d (encF 2 d_II a1))),(5,.c (.own 15)),(6,.c (.d (.int .i64 s1)))],[],[(15,.owned (encF 2 d_II (a0++a1)))]⟩) (b220_1 a0 a1) (fun q=>q=r) hr rfl ?_)
 ·exact lf
 ·intro s1 hr
  unfold b220_1 at hr
  refine S.gx [4,8] ?_
  refine gr ?_
  refine iW1 hr (fun hc hr=> ?_) fun hc hr=>D0 hr
  obtain ⟨hg3,hr⟩:=of_guard1 hr
  obtain ⟨v1,hv1,hr⟩:=of_bind1 hr
  obtain ⟨hg4,hr⟩:=of_guard1 hr
  obtain ⟨v2,hv2,hr⟩:=of_bind1 hr
  refine gb hv1 ?_
  refine gb hv2 ?_
  refine iW1 hr (fun hc hr=> ?_) fun hc hr=> ?_
  ·refine gr ?_
   refine S.prune [] ?_
   refine S.gx [4] ?_
   exact D0 hr
  ·refine gr ?_
   refine S.prune [0,1,5,6] ?_
   refine S.gx [8] ?_
   exact D1 (S.ss [0,1,5,6] [] [(15,15)]) hr
end
def b153_2 (x1:L_LIIE):Bd Int (Int×Int):=fun s2=>
 if (decide (s2<(x1.length:Int)))=true then
  if 0≤s2∧s2<(x1.length:Int) then
   bindC (r219 (x1.getD s2.toNat default)) fun v10=>
    if (v10 != 0)=true then
     .out (some (s2,v10))
     else if (decide (s2>0))=true→0≤s2∧s2<(x1.length:Int) then
      if (decide (s2>0))=true→0≤IntKind.i64.wrap (s2 - 1)∧IntKind.i64.wrap (s2 - 1)<(x1.length:Int) then
       if (decide (s2>0))=true→(r220 (x1.getD s2.toNat default) (x1.getD (IntKind.i64.wrap (s2 - 1)).toNat default)).isSome=true then
        if ((decide (s2>0)) && ((r220 (x1.getD s2.toNat default) (x1.getD (IntKind.i64.wrap (s2 - 1)).toNat default)).getD default))=true then
         .out (some (s2,13))
         else .next (IntKind.i64.wrap (s2+1))
        else .out none
       else .out none
      else .out none
   else .out none
  else .out (some (0,0))
def b153_1 (x0:L_II) (x1:L_LIIE):Bd Int (Int×Int):=fun s1=>
 if (decide (s1<(x0.length:Int)))=true then
  if 0≤s1∧s1<(x0.length:Int) then
   bindC (r11 ((x0.getD s1.toNat default).1) 0 1000000) fun v2=>
    if (!(!v2))=true→0≤s1∧s1<(x0.length:Int) then
     if (!(!v2))=true→(r154 ((x0.getD s1.toNat default).2)).isSome=true then
      if ((!v2) || (!((r154 ((x0.getD s1.toNat default).2)).getD default)))=true then
       .out (some (s1,2))
       else if (decide (s1>0))=true then
        if 0≤s1∧s1<(x0.length:Int) then
         if 0≤IntKind.i64.wrap (s1 - 1)∧IntKind.i64.wrap (s1 - 1)<(x0.length:Int) then
          if 0≤s1∧s1<(x0.length:Int) then
           if 0≤IntKind.i64.wrap (s1 - 1)∧IntKind.i64.wrap (s1 - 1)<(x0.length:Int) then
            if ((decide ((IntKind.i64.wrap (((x0.getD s1.toNat default).1) - ((x0.getD (IntKind.i64.wrap (s1 - 1)).toNat default).1)))≤0)) || (decide ((IntKind.i64.wrap (((x0.getD s1.toNat default).2) - ((x0.getD (IntKind.i64.wrap (s1 - 1)).toNat default).2)))≤0)))=true then
             .out (some (s1,9))
             else if (decide ((IntKind.i64.wrap (((x0.getD s1.toNat default).2) - ((x0.getD (IntKind.i64.wrap (s1 - 1)).toNat default).2)))>(IntKind.i64.wrap (((x0.getD s1.toNat default).1) - ((x0.getD (IntKind.i64.wrap (s1 - 1)).toNat default).1)))))=true then
              .out (some (s1,22))
              else .next (IntKind.i64.wrap (s1+1))
            else .out none
           else .out none
          else .out none
         else .out none
        else .next (IntKind.i64.wrap (s1+1))
      else .out none
     else .out none
   else .out none
  else .out (if (decide ((x1.length:Int)>4))=true then
   some (0,8)
   else iterC (b153_2 x1) 1000000000 0)
def r153 (x3 x2:Int) (x0:L_II) (x1:L_LIIE):Option (Int×Int):=
 (r11 x3 1 12).bind fun v1=>
  if (!(!v1))=true→(r11 x2 0 500).isSome=true then
   if ((!v1) || (!((r11 x2 0 500).getD default)))=true then
    some (0,2)
    else if (decide ((x0.length:Int)<2))=true then
     some (0,10)
     else if (decide ((x0.length:Int)>8))=true then
      some (0,8)
      else iterC (b153_1 x0 x1) 1000000000 0
   else none
def T153:=qT21 qu4 false r153
attribute [go_sem] T153
def tb153:Fns:=lk [(11,T11.sp),(154,T154.sp),(219,T219.sp),(220,T220.sp)]
theorem tb153_ok:FnsOk Tryz.prog tb153:= .cons f11 (.cons f154 (.cons f219 (.cons f220 .nil)))
theorem tk153:tb153 11=some T11.sp∧tb153 154=some T154.sp∧tb153 219=some T219.sp∧tb153 220=some T220.sp:=⟨rfl,rfl,rfl,rfl⟩
section
attribute [local go_sem] tk153 Tryz.results153
theorem f153:FnFact Tryz.prog 153 T153.sp:=by
 refine valid_m ty_ok tb153_ok Tryz.func153 rfl Tryz.ntmps153 fun ⟨x3,x2,x0,x1⟩ r hr=>⟨nL rfl,fun stop S=> ?_⟩
 replace hr:r153 x3 x2 x0 x1=some r:=hr
 unfold r153 at hr
 refine S.gx [14,22,27] ?_
 obtain ⟨v1,hv1,hr⟩:=of_bind0 hr
 obtain ⟨hg15,hr⟩:=of_guard0 hr
 try simp only [hv1,oG,oI,true_and,and_assoc]
 repeat (first | refine gG hg15 ?_ | refine gA ?_ | refine gB ?_)
 refine iW hr (fun hc hr=>D0 hr) fun hc hr=> ?_
 refine gr ?_
 refine iW hr (fun hc hr=>D0 hr) fun hc hr=> ?_
 refine gr ?_
 refine iW hr (fun hc hr=>D0 hr) fun hc hr=> ?_
 refine gr ?_
 refine S.sees [1,4] [(1,1)] [] ?_ (Stop.iter S (fun s1=>⟨[(1,.c (.ref 1 0)),(4,.c (.d (.int .i64 s1)))],[(1,[.d (.int .i64 x3),.d (.int .i64 x2),.d (encF 2 d_II x0),.d (encF 1 d_LIIE x1)])],[]⟩) (b153_1 x0 x1) (fun q=>q=r) hr rfl ?_)
 ·exact lf
 ·intro s1 hr
  unfold b153_1 at hr
  refine S.gx [14,22,27] ?_
  refine gr ?_
  refine iW1 hr (fun hc hr=> ?_) fun hc hr=> ?_
  ·obtain ⟨hg7,hr⟩:=of_guard1 hr
   obtain ⟨v2,hv2,hr⟩:=of_bind1 hr
   obtain ⟨hg8,hr⟩:=of_guard1 hr
   obtain ⟨hg9,hr⟩:=of_guard1 hr
   try simp only [hv2,oG,oI,true_and,and_assoc]
   repeat (first | refine gG hg8 ?_ | refine gG hg9 ?_ | refine gA ?_ | refine gB ?_)
   refine iW1 hr (fun hc hr=>D0 hr) fun hc hr=> ?_
   refine gr ?_
   refine iW1 hr (fun hc hr=> ?_) fun hc hr=>D1 (S.ss [1,4] [(1,1)] []) hr
   obtain ⟨hg3,hr⟩:=of_guard1 hr
   obtain ⟨hg4,hr⟩:=of_guard1 hr
   obtain ⟨hg5,hr⟩:=of_guard1 hr
   obtain ⟨hg6,hr⟩:=of_guard1 hr
   refine gr ?_
   refine S.prune [1,4,5,6] ?_
   refine S.gx [22,27] ?_
   repeat (first | refine gA ?_ | refine gB ?_)
   exact D1 (S.ss [1,4] [(1,1)] []) hr
  ·refine gr ?_
   have hr:=of_out0 hr
   refine gr ?_
   refine iW hr (fun hc hr=>D0 hr) fun hc hr=> ?_
   refine gr ?_
   refine S.sees [1,7] [(1,1)] [] ?_ (Stop.iter S (fun s2=>⟨[(1,.c (.ref 1 0)),(7,.c (.d (.int .i64 s2)))],[(1,[.d (.int .i64 x3),.d (.int .i64 x2),.d (encF 2 d_II x0),.d (encF 1 d_LIIE x1)])],[]⟩) (b153_2 x1) (fun q=>q=r) hr rfl ?_)
   ·exact lf
   ·intro s2 hr
    unfold b153_2 at hr
    refine S.gx [14,22,27] ?_
    refine gr ?_
    refine iW1 hr (fun hc hr=> ?_) fun hc hr=>D0 hr
    obtain ⟨hg14,hr⟩:=of_guard1 hr
    obtain ⟨v10,hv10,hr⟩:=of_bind1 hr
    refine gb hv10 ?_
    refine iW1 hr (fun hc hr=>D0 hr) fun hc hr=> ?_
    obtain ⟨hg11,hr⟩:=of_guard1 hr
    obtain ⟨hg12,hr⟩:=of_guard1 hr
    obtain ⟨hg13,hr⟩:=of_guard1 hr
    repeat (first | refine gG hg11 ?_ | refine gG hg12 ?_ | refine gG hg13 ?_ | refine gA ?_ | refine gB ?_)
    refine iW1 hr (fun hc hr=> ?_) fun hc hr=> ?_
    ·refine gr ?_
     refine S.prune [7] ?_
     refine S.gx [14,22] ?_
     exact D0 hr
    ·refine gr ?_
     refine S.prune [1,7] ?_
     refine S.gx [14,27] ?_
     exact D1 (S.ss [1,7] [(1,1)] []) hr
end
def r65 (x0 x1:Int) (x2:L_II) (x3:L_LIIE):Option (Int):=
 (r153 x0 x1 x2 x3).bind fun v1=>
  some v1.2
def T65:=qT21 qu3 false r65
attribute [go_sem] T65
def tb65:Fns:=lk [(153,T153.sp)]
theorem tb65_ok:FnsOk Tryz.prog tb65:= .cons f153 .nil
theorem tk65:tb65 153=some T153.sp:=rfl
section
attribute [local go_sem] tk65 Tryz.results65
theorem f65:FnFact Tryz.prog 65 T65.sp:=by
 refine valid_m ty_ok tb65_ok Tryz.func65 rfl Tryz.ntmps65 fun ⟨x0,x1,x2,x3⟩ r hr=>⟨nL rfl,fun stop S=> ?_⟩
 replace hr:r65 x0 x1 x2 x3=some r:=hr
 unfold r65 at hr
 refine S.gx [] ?_
 exact D0 hr
end
def r49 (x1 x2:Int) (x0:L_II) (x3:L_LIIE) (a1:Int):Option (Bool):=
 if 0≤0∧0<(x0.length:Int) then
  if 0≤IntKind.i64.wrap ((x0.length:Int) - 1)∧IntKind.i64.wrap ((x0.length:Int) - 1)<(x0.length:Int) then
   (r11 a1 ((x0.getD 0 default).1) ((x0.getD (IntKind.i64.wrap ((x0.length:Int) - 1)).toNat default).1)).bind fun v1=>
    some v1
   else none
  else none
def T49:=qT40 qu2 false r49
attribute [go_sem] T49
def tb49:Fns:=lk [(11,T11.sp)]
theorem tb49_ok:FnsOk Tryz.prog tb49:= .cons f11 .nil
theorem tk49:tb49 11=some T11.sp:=rfl
section
attribute [local go_sem] tk49 Tryz.results49
theorem f49:FnFact Tryz.prog 49 T49.sp:=by
 refine valid_m ty_ok tb49_ok Tryz.func49 rfl Tryz.ntmps49 fun ⟨x1,x2,x0,x3,a1⟩ r hr=>⟨nL rfl,fun stop S=> ?_⟩
 replace hr:r49 x1 x2 x0 x3 a1=some r:=hr
 unfold r49 at hr
 refine S.gx [] ?_
 exact D0 hr
end
def b66_1 (x0 x1:Int) (x2:L_II) (x3:L_LIIE) (a1:L_I):Bd Int (Int×Int):=fun s1=>
 if (decide (s1<(a1.length:Int)))=true then
  if 0≤s1∧s1<(a1.length:Int) then
   bindC (r49 x0 x1 x2 x3 (a1.getD s1.toNat default)) fun v1=>
    if (!v1)=true then
     .out (some (s1,2))
     else .next (IntKind.i64.wrap (s1+1))
   else .out none
  else .out (some (0,0))
def r66 (x0 x1:Int) (x2:L_II) (x3:L_LIIE) (a1:L_I):Option (Int×Int):=
 if ((a1.length:Int) != x0)=true then
  some (0,10)
  else iterC (b66_1 x0 x1 x2 x3 a1) 1000000000 0
def T66:=qT26 qu4 false r66
attribute [go_sem] T66
def tb66:Fns:=lk [(49,T49.sp)]
theorem tb66_ok:FnsOk Tryz.prog tb66:= .cons f49 .nil
theorem tk66:tb66 49=some T49.sp:=rfl
section
attribute [local go_sem] tk66 Tryz.results66
theorem f66:FnFact Tryz.prog 66 T66.sp:=by
 refine valid_m ty_ok tb66_ok Tryz.func66 rfl Tryz.ntmps66 fun ⟨x0,x1,x2,x3,a1⟩ r hr=>⟨nL rfl,fun stop S=> ?_⟩
 replace hr:r66 x0 x1 x2 x3 a1=some r:=hr
 unfold r66 at hr
 refine S.gx [] ?_
 refine gr ?_
 refine iW hr (fun hc hr=>D0 hr) fun hc hr=> ?_
 refine gr ?_
 refine S.sees [1,2,6] [(2,2)] [] ?_ (Stop.iter S (fun s1=>⟨[(1,.c (.d (encF 1 d_I a1))),(2,.c (.ref 2 0)),(6,.c (.d (.int .i64 s1)))],[(2,[.d (.int .i64 x0),.d (.int .i64 x1),.d (encF 2 d_II x2),.d (encF 1 d_LIIE x3)])],[]⟩) (b66_1 x0 x1 x2 x3 a1) (fun q=>q=r) hr rfl ?_)
 ·exact lf
 ·intro s1 hr
  unfold b66_1 at hr
  refine S.gx [] ?_
  exact D1 (S.ss [1,2,6] [(2,2)] []) hr
end
def r8 (x0 x1:Int) (x2:L_II) (x3:L_LIIE) (a1:L_I):Option (Int):=
 (r65 x0 x1 x2 x3).bind fun v1=>
  if (v1 != 0)=true then
   some v1
   else (r66 x0 x1 x2 x3 a1).bind fun v2=>
    some v2.2
def T8:=qT26 qu3 false r8
attribute [go_sem] T8
def tb8:Fns:=lk [(65,T65.sp),(66,T66.sp)]
theorem tb8_ok:FnsOk Tryz.prog tb8:= .cons f65 (.cons f66 .nil)
theorem tk8:tb8 65=some T65.sp∧tb8 66=some T66.sp:=⟨rfl,rfl⟩
section
attribute [local go_sem] tk8 Tryz.results8
theorem f8:FnFact Tryz.prog 8 T8.sp:=by
 refine valid_m ty_ok tb8_ok Tryz.func8 rfl Tryz.ntmps8 fun ⟨x0,x1,x2,x3,a1⟩ r hr=>⟨nL rfl,fun stop S=> ?_⟩
 replace hr:r8 x0 x1 x2 x3 a1=some r:=hr
 unfold r8 at hr
 refine S.gx [] ?_
 exact D0 hr
end
def r10 (x1 x2:Int) (x3:L_II) (x0:L_LIIE) (a1:Int):Option (Int):=
 (r11 a1 0 (IntKind.i64.wrap ((x0.length:Int) - 1))).bind fun v1=>
  if (!v1)=true then
   some 6
   else some 0
def T10:=qT40 qu3 false r10
attribute [go_sem] T10
def tb10:Fns:=lk [(11,T11.sp)]
theorem tb10_ok:FnsOk Tryz.prog tb10:= .cons f11 .nil
theorem tk10:tb10 11=some T11.sp:=rfl
section
attribute [local go_sem] tk10 Tryz.results10
theorem f10:FnFact Tryz.prog 10 T10.sp:=by
 refine valid_m ty_ok tb10_ok Tryz.func10 rfl Tryz.ntmps10 fun ⟨x1,x2,x3,x0,a1⟩ r hr=>⟨nL rfl,fun stop S=> ?_⟩
 replace hr:r10 x1 x2 x3 x0 a1=some r:=hr
 unfold r10 at hr
 refine S.gx [] ?_
 exact D0 hr
end
def r29 (x1:Int) (x0:L_III):Option (Int×L_III):=
 if (0+x0.length)*24≤140737488355328∧0+x0.length≤9223372036854775807 then
  some (x1,x0)
  else none
def T29:=qT5 qu0 false r29
attribute [go_sem] T29
def tb29:Fns:=lk []
theorem tb29_ok:FnsOk Tryz.prog tb29:=FnsOk.nil
section
attribute [local go_sem] Tryz.results29
theorem f29:FnFact Tryz.prog 29 T29.sp:=by
 refine valid_m ty_ok tb29_ok Tryz.func29 rfl Tryz.ntmps29 fun ⟨x1,x0⟩ r hr=>⟨nL rfl,fun stop S=> ?_⟩
 replace hr:r29 x1 x0=some r:=hr
 unfold r29 at hr
 refine S.gx [] ?_
 exact D0 hr
end
def r73 (a0:Int):Option (ByteArray):=
 itoaV a0
def T73:=qT4 qu21 false r73
attribute [go_sem] T73
theorem f73:FnFact Tryz.prog 73 T73.sp:=⟨⟨Tryz.f73,Tryz.func73,by decide,rfl⟩,lib_Itoa (fun _=>rfl) (fun _=>rfl) (fun _=>rfl) rfl⟩
def r77 (a0:L_S) (a1:ByteArray):Option (ByteArray):=
 joinV a0 a1
def T77:=qT41 qu21 false r77
attribute [go_sem] T77
theorem f77:FnFact Tryz.prog 77 T77.sp:=⟨⟨Tryz.f77,Tryz.func77,by decide,rfl⟩,lib_Join (fun _=>rfl) (fun _=>rfl) (fun _=>rfl) rfl⟩
def b28_2 (x0:L_III) (s1:Int×(List (ByteArray))):Bd ((List (ByteArray))×Int) (Ctl (Int×(List (ByteArray))) (ByteArray)):=fun s2=>
 if (decide (s2.2<3))=true then
  if s2.2=0 then
   bindC (r73 ((x0.getD s1.1.toNat default).1)) fun v9=>
    if (s2.1.length+1)*16≤140737488355328∧s2.1.length+1≤9223372036854775807 then
     .next (s2.1++[v9],1)
     else .out none
   else if s2.2=1 then
    bindC (r73 ((x0.getD s1.1.toNat default).2.1)) fun v6=>
     if (s2.1.length+1)*16≤140737488355328∧s2.1.length+1≤9223372036854775807 then
      .next (s2.1++[v6],2)
      else .out none
    else if s2.2=2 then
     bindC (r73 ((x0.getD s1.1.toNat default).2.2)) fun v3=>
      if (s2.1.length+1)*16≤140737488355328∧s2.1.length+1≤9223372036854775807 then
       .next (s2.1++[v3],3)
       else .out none
     else .out none
  else .out (some (bindC (r77 s2.1 (⟨#[32]⟩:ByteArray)) fun v11=>
   if (s1.2.length+1)*16≤140737488355328∧s1.2.length+1≤9223372036854775807 then
    .next (IntKind.i64.wrap (s1.1+1),s1.2++[v11])
    else .out none))
def b28_1 (x0:L_III):Bd (Int×(List (ByteArray))) ByteArray:=fun s1=>
 if (decide (s1.1<(x0.length:Int)))=true then
  if 0≤s1.1∧s1.1<(x0.length:Int) then
   (iterC (b28_2 x0 s1) 1000000000 ([],0)).getD (.out none)
   else .out none
  else .out ((r77 s1.2 (⟨#[59]⟩:ByteArray)).bind fun v14=>
   some v14)
def r28 (x1:Int) (x0:L_III):Option (ByteArray):=
 (r73 x1).bind fun v1=>
  iterC (b28_1 x0) 1000000000 (0,[v1])
def T28:=qT5 qu21 false r28
attribute [go_sem] T28
def tb28:Fns:=lk [(73,T73.sp),(77,T77.sp)]
theorem tb28_ok:FnsOk Tryz.prog tb28:= .cons f73 (.cons f77 .nil)
theorem tk28:tb28 73=some T73.sp∧tb28 77=some T77.sp:=⟨rfl,rfl⟩
section
attribute [local go_sem] tk28 Tryz.results28
theorem f28:FnFact Tryz.prog 28 T28.sp:=by
 refine valid_m ty_ok tb28_ok Tryz.func28 rfl Tryz.ntmps28 fun ⟨x1,x0⟩ r hr=>⟨nL rfl,fun stop S=> ?_⟩
 replace hr:r28 x1 x0=some r:=hr
 unfold r28 at hr
 refine S.gx [8] ?_
 obtain ⟨v1,hv1,hr⟩:=of_bind0 hr
 refine gb hv1 ?_
 refine S.sees [3,14,15,16] [] [(12,12)] ?_ (Stop.iter S (fun s1=>⟨[(3,.c (.own 12)),(14,.c (.d (encF 3 d_III x0))),(15,.c (.d (.int .i64 (x0.length:Int)))),(16,.c (.d (.int .i64 s1.1)))],[],[(12,.owned (encF 1 d_S s1.2))]⟩) (b28_1 x0) (fun q=>q=r) hr rfl ?_)
 ·exact lf
 ·intro s1 hr
  unfold b28_1 at hr
  refine S.gx [8] ?_
  refine gr ?_
  refine iW1 hr (fun hc hr=> ?_) fun hc hr=>D0 hr
  obtain ⟨hg13,hr⟩:=of_guard1 hr
  refine gr ?_
  refine S.own0 6 1000600 1 rfl rfl ?_
  obtain ⟨q2,hq,hr⟩:=of_iter1 hr
  refine S.sees [3,6,14,15,16,26,27] [] [(1000600,1000600),(12,12)] ?_ (Stop.iter S (fun s2=>⟨[(3,.c (.own 12)),(6,.c (.own 1000600)),(14,.c (.d (encF 3 d_III x0))),(15,.c (.d (.int .i64 (x0.length:Int)))),(16,.c (.d (.int .i64 s1.1))),(26,.agg [.d (.int .i64 ((x0.getD s1.1.toNat default).1)),.d (.int .i64 ((x0.getD s1.1.toNat default).2.1)),.d (.int .i64 ((x0.getD s1.1.toNat default).2.2))]),(27,.c (.d (.int .i64 s2.2)))],[],[(1000600,.owned (encF 1 d_S s2.1)),(12,.owned (encF 1 d_S s1.2))]⟩) (b28_2 x0 s1) _ hq hr ?_)
  ·exact lf
  ·intro s2 hr
   unfold b28_2 at hr
   refine S.gx [8] ?_
   refine gr ?_
   refine iW1 hr (fun hc hr=> ?_) fun hc hr=> ?_
   ·refine gr ?_
    by_cases hs8:s2.2=0
    ·rw [if_pos hs8] at hr
     simp only [hs8]
     refine S.gx [] ?_
     exact D1 (S.ss [3,6,14,15,16,26,27] [] [(34,1000600),(12,12)]) hr
    ·rw [if_neg hs8] at hr
     by_cases hs5:s2.2=1
     ·rw [if_pos hs5] at hr
      simp only [hs5]
      refine S.gx [] ?_
      exact D1 (S.ss [3,6,14,15,16,26,27] [] [(34,1000600),(12,12)]) hr
     ·rw [if_neg hs5] at hr
      by_cases hs2:s2.2=2
      ·rw [if_pos hs2] at hr
       simp only [hs2]
       refine S.gx [] ?_
       exact D1 (S.ss [3,6,14,15,16,26,27] [] [(34,1000600),(12,12)]) hr
      ·rw [if_neg hs2] at hr
       first | cases hr | exact hr.elim
   ·refine gr ?_
    replace hr:=goodC_out hr
    exact D1 (S.ss [3,14,15,16] [] [(40,12)]) hr
end
def r70 (a0 a1:ByteArray):Option (L_S):=
 splitV a0 a1
def T70:=qT42 qu22 false r70
attribute [go_sem] T70
theorem f70:FnFact Tryz.prog 70 T70.sp:=⟨⟨Tryz.f70,Tryz.func70,by decide,rfl⟩,lib_Split (fun _=>rfl) (fun _=>rfl) (fun _=>rfl) rfl⟩
def r224 (a0 a1:ByteArray):Option (Int):=
 indexV a0 a1
def T224:=qT42 qu3 false r224
attribute [go_sem] T224
theorem f224:FnFact Tryz.prog 224 T224.sp:=⟨⟨Tryz.f224,Tryz.func224,by decide,rfl⟩,lib_Index (fun _=>rfl) (fun _=>rfl) (fun _=>rfl) rfl⟩
def r187 (a0:ByteArray):Option (Int×Bool):=
 atoiV a0
def T187:=qT43 qu23 false r187
attribute [go_sem] T187
theorem f187:FnFact Tryz.prog 187 T187.sp:=⟨⟨Tryz.f187,Tryz.func187,by decide,rfl⟩,lib_Atoi (fun _=>rfl) (fun _=>rfl) (fun _=>rfl) rfl⟩
end Go.Proofs.YthldpejmofhaoaaGreatDoor

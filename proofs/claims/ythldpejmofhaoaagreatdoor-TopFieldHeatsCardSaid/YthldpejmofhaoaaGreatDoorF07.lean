/- Contracts of functions, written by wip/dec. -/
import Derived.Test.YthldpejmofhaoaaGreatDoorF00
import Derived.Test.YthldpejmofhaoaaGreatDoorF01
import Derived.Test.YthldpejmofhaoaaGreatDoorF02
import Derived.Test.YthldpejmofhaoaaGreatDoorF03
import Derived.Test.YthldpejmofhaoaaGreatDoorF04
import Derived.Test.YthldpejmofhaoaaGreatDoorF05
import Derived.Test.YthldpejmofhaoaaGreatDoorF06
set_option linter.unusedVariables false
set_option linter.unusedSimpArgs false
set_option linter.constructorNameAsVariable false
set_option maxHeartbeats 4000000
set_option maxRecDepth 20000
namespace Go.Proofs.YthldpejmofhaoaaGreatDoor
open Go.Abs
section
variable {β:Type} [Inhabited β] (u:β→List RV) (al:Bool)
abbrev qF44 (β:Type):=ByteArray→Int→β
def qw44 (a0:ByteArray) (a1:Int):List Arg:=[.c (.str a0),.c (.int .i64 a1)]
def qd44 (a:List Arg):=(dStr (aCell a 0 0),dInt (aCell a 1 0))
def qp44 {β:Type} (f:qF44 β) (c0 c1:D):=f (dStr c0) (dInt c1)
abbrev qt44 (c0 c1:D):List Arg:=[.c c0,.c c1]
def qT44 (r:qF44 (Option β)):=mkT (u2 qw44) qd44 (u2 r) u al
theorem qP44 (r:qF44 (Option β)) (c0 c1:D):PT (qT44 u al r).sp u (qt44 c0 c1) (qp44 qw44 c0 c1) (qp44 r c0 c1):=⟨rfl,rfl⟩
theorem qa44 (r:qF44 (Option β)):(qT44 u al r).sp.alias=al:=rfl
attribute [go_sem] qw44 qp44 qt44 qP44 qa44
abbrev qF45 (β:Type):=Int→L_III→Int→L_III→β
def qw45 (a0:Int) (a1:L_III) (a2:Int) (a3:L_III):List Arg:=[.agg [.int .i64 a0,encF 3 d_III a1],.agg [.int .i64 a2,encF 3 d_III a3]]
def qd45 (a:List Arg):=(dInt (aCell a 0 0),decF g_III (aCell a 0 1),dInt (aCell a 1 0),decF g_III (aCell a 1 1))
def qp45 {β:Type} (f:qF45 β) (c0 c1 c2 c3:D):=f (dInt c0) (decF g_III c1) (dInt c2) (decF g_III c3)
abbrev qt45 (c0 c1 c2 c3:D):List Arg:=[.agg [c0,c1],.agg [c2,c3]]
def qT45 (r:qF45 (Option β)):=mkT (u4 qw45) qd45 (u4 r) u al
theorem qP45 (r:qF45 (Option β)) (c0 c1 c2 c3:D):PT (qT45 u al r).sp u (qt45 c0 c1 c2 c3) (qp45 qw45 c0 c1 c2 c3) (qp45 r c0 c1 c2 c3):=⟨rfl,rfl⟩
theorem qa45 (r:qF45 (Option β)):(qT45 u al r).sp.alias=al:=rfl
attribute [go_sem] qw45 qp45 qt45 qP45 qa45
abbrev qF46 (β:Type):=Int→Nat→β
def qw46 (a0:Int) (a1:Nat):List Arg:=[.c (.int .i64 a0),.ptr [.fn a1]]
def qd46 (a:List Arg):=(dInt (aCell a 0 0),dFn (aCell a 1 0))
def qp46 {β:Type} (f:qF46 β) (c0 c1:D):=f (dInt c0) (dFn c1)
abbrev qt46 (c0 c1:D):List Arg:=[.c c0,.ptr [c1]]
def qT46 (r:qF46 (Option β)):=mkT (u2 qw46) qd46 (u2 r) u al
theorem qP46 (r:qF46 (Option β)) (c0 c1:D):PT (qT46 u al r).sp u (qt46 c0 c1) (qp46 qw46 c0 c1) (qp46 r c0 c1):=⟨rfl,rfl⟩
theorem qa46 (r:qF46 (Option β)):(qT46 u al r).sp.alias=al:=rfl
attribute [go_sem] qw46 qp46 qt46 qP46 qa46
abbrev qF47 (β:Type):=L_I→Nat→β
def qw47 (a0:L_I) (a1:Nat):List Arg:=[.c (encF 1 d_I a0),.clo 105 [[.fn a1]]]
def qd47 (a:List Arg):=(decF g_I (aCell a 0 0),dFn (aCell a 1 0))
def qp47 {β:Type} (f:qF47 β) (c0 c1:D):=f (decF g_I c0) (dFn c1)
abbrev qt47 (c0 c1:D):List Arg:=[.c c0,.clo 105 [[c1]]]
def qT47 (r:qF47 (Option β)):=mkT (u2 qw47) qd47 (u2 r) u al
theorem qP47 (r:qF47 (Option β)) (c0 c1:D):PT (qT47 u al r).sp u (qt47 c0 c1) (qp47 qw47 c0 c1) (qp47 r c0 c1):=⟨rfl,rfl⟩
theorem qa47 (r:qF47 (Option β)):(qT47 u al r).sp.alias=al:=rfl
attribute [go_sem] qw47 qp47 qt47 qP47 qa47
abbrev qF48 (β:Type):=L_I→Int→β
def qw48 (a0:L_I) (a1:Int):List Arg:=[.c (encF 1 d_I a0),.c (.int .i64 a1)]
def qd48 (a:List Arg):=(decF g_I (aCell a 0 0),dInt (aCell a 1 0))
def qp48 {β:Type} (f:qF48 β) (c0 c1:D):=f (decF g_I c0) (dInt c1)
abbrev qt48 (c0 c1:D):List Arg:=[.c c0,.c c1]
def qT48 (r:qF48 (Option β)):=mkT (u2 qw48) qd48 (u2 r) u al
theorem qP48 (r:qF48 (Option β)) (c0 c1:D):PT (qT48 u al r).sp u (qt48 c0 c1) (qp48 qw48 c0 c1) (qp48 r c0 c1):=⟨rfl,rfl⟩
theorem qa48 (r:qF48 (Option β)):(qT48 u al r).sp.alias=al:=rfl
attribute [go_sem] qw48 qp48 qt48 qP48 qa48
abbrev qF49 (β:Type):=L_B→β
def qw49 (a0:L_B):List Arg:=[.c (encF 1 d_B a0)]
def qd49 (a:List Arg):=decF g_B (aCell a 0 0)
def qp49 {β:Type} (f:qF49 β) (c0:D):=f (decF g_B c0)
abbrev qt49 (c0:D):List Arg:=[.c c0]
def qT49 (r:qF49 (Option β)):=mkT (u1 qw49) qd49 (u1 r) u al
theorem qP49 (r:qF49 (Option β)) (c0:D):PT (qT49 u al r).sp u (qt49 c0) (qp49 qw49 c0) (qp49 r c0):=⟨rfl,rfl⟩
theorem qa49 (r:qF49 (Option β)):(qT49 u al r).sp.alias=al:=rfl
attribute [go_sem] qw49 qp49 qt49 qP49 qa49
abbrev qF50 (β:Type):=Int→Int→L_II→L_LIIE→L_I→Int→β
def qw50 (a0 a1:Int) (a2:L_II) (a3:L_LIIE) (a4:L_I) (a5:Int):List Arg:=[.agg [.int .i64 a0,.int .i64 a1,encF 2 d_II a2,encF 1 d_LIIE a3],.agg [encF 1 d_I a4,.int .i64 a5]]
def qd50 (a:List Arg):=(dInt (aCell a 0 0),dInt (aCell a 0 1),decF g_II (aCell a 0 2),decF g_LIIE (aCell a 0 3),decF g_I (aCell a 1 0),dInt (aCell a 1 1))
def qp50 {β:Type} (f:qF50 β) (c0 c1 c2 c3 c4 c5:D):=f (dInt c0) (dInt c1) (decF g_II c2) (decF g_LIIE c3) (decF g_I c4) (dInt c5)
abbrev qt50 (c0 c1 c2 c3 c4 c5:D):List Arg:=[.agg [c0,c1,c2,c3],.agg [c4,c5]]
def qT50 (r:qF50 (Option β)):=mkT (u6 qw50) qd50 (u6 r) u al
theorem qP50 (r:qF50 (Option β)) (c0 c1 c2 c3 c4 c5:D):PT (qT50 u al r).sp u (qt50 c0 c1 c2 c3 c4 c5) (qp50 qw50 c0 c1 c2 c3 c4 c5) (qp50 r c0 c1 c2 c3 c4 c5):=⟨rfl,rfl⟩
theorem qa50 (r:qF50 (Option β)):(qT50 u al r).sp.alias=al:=rfl
attribute [go_sem] qw50 qp50 qt50 qP50 qa50
def qu24 (v:L_I×Bool):List RV:=[.c (.own (encF 1 d_I v.1)),.c (.d (.bool v.2))]
attribute [go_sem] qu24
def qu25 (v:Int×L_III×Int):List RV:=[.agg [.d (.int .i64 v.1),.own (encF 3 d_III v.2.1)],.c (.d (.int .i64 v.2.2))]
attribute [go_sem] qu25
def qu26 (v:L_B×Int):List RV:=[.c (.own (encF 1 d_B v.1)),.c (.d (.int .i64 v.2))]
attribute [go_sem] qu26
def qu27 (v:L_B):List RV:=[.c (.own (encF 1 d_B v))]
attribute [go_sem] qu27
end
def b96_1 (a1:Int):Bd (ByteArray×(List (Int))) (L_I×Bool):=fun s1=>
 bindC (r224 s1.1 (⟨#[32]⟩:ByteArray)) fun v1=>
  if (decide (v1<0))=true then
   .out ((r187 s1.1).bind fun v2=>
    if (!(v2.2 || (decide (v2.1<0))))=true→(r73 v2.1).isSome=true then
     if (((v2.2 || (decide (v2.1<0))) || (!(decide (((r73 v2.1).getD default)=s1.1)))) || (decide ((s1.1.size:Int)>3)))=true then
      some ([],false)
      else if (s1.2.length+1)*8≤140737488355328∧s1.2.length+1≤9223372036854775807 then
       some (s1.2++[v2.1],((s1.2.length+1):Int) == a1)
       else none
     else none)
   else if 0≤0∧0≤IntKind.i64.wrap (v1+0)∧IntKind.i64.wrap (v1+0)≤(s1.1.size:Int) then
    bindC (r187 (s1.1.extract 0 (IntKind.i64.wrap (v1+0)).toNat)) fun v5=>
     if (!(v5.2 || (decide (v5.1<0))))=true→(r73 v5.1).isSome=true then
      if (((v5.2 || (decide (v5.1<0))) || (!(decide (((r73 v5.1).getD default)=(s1.1.extract 0 (IntKind.i64.wrap (v1+0)).toNat))))) || (decide (((s1.1.extract 0 (IntKind.i64.wrap (v1+0)).toNat).size:Int)>3)))=true then
       .out (some ([],false))
       else if (s1.2.length+1)*8≤140737488355328∧s1.2.length+1≤9223372036854775807 then
        if 0≤IntKind.i64.wrap (v1+1)∧IntKind.i64.wrap (v1+1)≤(s1.1.size:Int)∧(s1.1.size:Int)≤(s1.1.size:Int) then
         .next (s1.1.extract (IntKind.i64.wrap (v1+1)).toNat s1.1.size,s1.2++[v5.1])
         else .out none
        else .out none
      else .out none
    else .out none
def r96 (a0:ByteArray) (a1:Int):Option (L_I×Bool):=
 iterC (b96_1 a1) 1000000000 (a0,[])
def T96:=qT44 qu24 false r96
attribute [go_sem] T96
def tb96:Fns:=lk [(73,T73.sp),(187,T187.sp),(224,T224.sp)]
theorem tb96_ok:FnsOk Tryz.prog tb96:= .cons f73 (.cons f187 (.cons f224 .nil))
theorem tk96:tb96 73=some T73.sp∧tb96 187=some T187.sp∧tb96 224=some T224.sp:=⟨rfl,rfl,rfl⟩
section
attribute [local go_sem] tk96 Tryz.results96 Tryz.results158 Tryz.results225 Tryz.results269
theorem f96:FnFact Tryz.prog 96 T96.sp:=by
 refine valid_m ty_ok tb96_ok Tryz.func96 rfl Tryz.ntmps96 fun ⟨a0,a1⟩ r hr=>⟨nL rfl,fun stop S=> ?_⟩
 replace hr:r96 a0 a1=some r:=hr
 unfold r96 at hr
 refine S.gx [2] ?_
 refine gr ?_
 refine S.inl 1 [1,4,5,6] [] Tryz.func158 (by decide) rfl Tryz.ntmps158 (fun cx e=>drawn_ok ty_ok tb96_ok cx e) (some 11) rfl rfl rfl rfl (nL rfl) (nL rfl) ?_
 refine gs ?_
 refine gr ?_
 intro stop1 S1
 refine S1.gx [1] ?_
 refine gr ?_
 refine S1.inl 2 [] [] Tryz.func225 (by decide) rfl Tryz.ntmps225 (fun cx e=>drawn_ok ty_ok tb96_ok cx e) (some 7) rfl rfl rfl rfl (nL rfl) (nL rfl) ?_
 refine gs ?_
 refine gr ?_
 intro stop2 S2
 refine S2.gx [] ?_
 refine gr ?_
 refine gr ?_
 refine S1.gx [1] ?_
 refine gr ?_
 refine gr ?_
 refine S.gx [2] ?_
 refine gr ?_
 refine S.range [1,4,5,6] Tryz.func269 (by decide) rfl Tryz.ntmps269 Tryz.results269 (fun cx e=>drawn_ok ty_ok tb96_ok cx e) (fun cx e=>drawn_ok ty_ok tb96_ok cx e) (by decide) rfl rfl (nL rfl) ?_
 intro l1 stop1 stopJ1 S1 SJ1 Y1
 refine S1.gx [3,8,10] ?_
 refine gr ?_
 refine S1.own0b 6 0 2000600 1 rfl rfl (nL rfl) rfl ?_
 refine S1.sees [0,1,2,3] [(100004,100004),(3,3),(100005,100005),(4,4),(5,5),(6,6)] [(2000600,2000600)] ?_ (Stop.iter S1 (fun s1=>⟨[(0,.c (.yld l1)),(1,.c (.ref 100004 0)),(2,.c (.ref 3 0)),(3,.c (.ref 100005 0))],[(100004,[.d (.str (⟨#[32]⟩:ByteArray))]),(3,[.d (.str s1.1)]),(100005,[.d (.int .i64 0)]),(4,[.nils]),(5,[.d (.bool false)]),(6,[.own 2000600])],[(2000600,.owned (encF 1 d_I s1.2))]⟩) (b96_1 a1) (fun q=>q=r) hr rfl ?_)
 ·exact lf
 ·intro s1 hr
  unfold b96_1 at hr
  refine S1.gx [3,8,10] ?_
  obtain ⟨v1,hv1,hr⟩:=of_bind1 hr
  refine gb hv1 ?_
  refine iW1 hr (fun hc hr=> ?_) fun hc hr=> ?_
  ·refine gr ?_
   have hr:=of_out0 hr
   refine gr ?_
   refine Y1 2 [] (some 51) rfl rfl rfl rfl (nL rfl) (by rfl) ?_
   refine gs ?_
   refine gr ?_
   intro stopA2 SA2
   refine SA2.gx [] ?_
   refine gr ?_
   intro stop2 S2
   refine S2.gx [2] ?_
   obtain ⟨v2,hv2,hr⟩:=of_bind0 hr
   obtain ⟨hg4,hr⟩:=of_guard0 hr
   try simp only [hv2,oG,oI,true_and,and_assoc]
   repeat (first | refine gG hg4 ?_ | refine gA ?_ | refine gB ?_)
   refine iW hr (fun hc hr=> ?_) fun hc hr=> ?_
   ·refine gr ?_
    refine gr ?_
    refine (SJ1 .ret).gx [3,8,10] ?_
    refine gr ?_
    refine gr ?_
    refine S.gx [2] ?_
    exact D0 hr
   ·obtain ⟨hg3,hr⟩:=of_guard0 hr
    refine gr ?_
    refine gr ?_
    refine S1.gx [3,8,10] ?_
    refine gr ?_
    refine gr ?_
    refine S.gx [2] ?_
    exact D0 hr
  ·obtain ⟨hg9,hr⟩:=of_guard1 hr
   refine gr ?_
   refine Y1 2 [0,1,2,3,7] (some 41) rfl rfl rfl rfl (nL rfl) (by rfl) ?_
   refine gs ?_
   refine gr ?_
   intro stopA2 SA2
   refine SA2.gx [] ?_
   refine gr ?_
   intro stop2 S2
   refine S2.gx [2] ?_
   obtain ⟨v5,hv5,hr⟩:=of_bind1 hr
   obtain ⟨hg8,hr⟩:=of_guard1 hr
   try simp only [hv5,oG,oI,true_and,and_assoc]
   repeat (first | refine gG hg8 ?_ | refine gA ?_ | refine gB ?_)
   refine iW1 hr (fun hc hr=> ?_) fun hc hr=> ?_
   ·refine gr ?_
    refine gr ?_
    refine (SJ1 .ret).gx [3,8,10] ?_
    refine gr ?_
    have hr:=of_out0 hr
    refine gr ?_
    refine S.gx [2] ?_
    exact D0 hr
   ·obtain ⟨hg7,hr⟩:=of_guard1 hr
    refine gr ?_
    refine gr ?_
    refine S1.gx [3,8,10] ?_
    exact D1 (S1.ss [0,1,2,3] [(100004,100004),(3,3),(100005,100005),(4,4),(5,5),(6,6)] [(38,2000600)]) hr
end
def b27_1 (v1:L_S):Bd (Int×Int×(List (Int×Int×Int))) (Int×L_III×Int):=fun s1=>
 if (decide (s1.1<(v1.length:Int)))=true then
  if 0≤s1.1∧s1.1<(v1.length:Int) then
   if (s1.1 == 0)=true then
    bindC (r96 (v1.getD s1.1.toNat default) 1) fun v2=>
     if (!v2.2)=true then
      .out (some (0,[],7))
      else if (s1.1 == 0)=true then
       if 0≤0∧0<(v2.1.length:Int) then
        .next (IntKind.i64.wrap (s1.1+1),(v2.1.getD 0 default),s1.2.2)
        else .out none
       else if 0≤0∧0<(v2.1.length:Int) then
        if 0≤1∧1<(v2.1.length:Int) then
         if 0≤2∧2<(v2.1.length:Int) then
          if (s1.2.2.length+1)*24≤140737488355328∧s1.2.2.length+1≤9223372036854775807 then
           .next (IntKind.i64.wrap (s1.1+1),s1.2.1,s1.2.2++[((v2.1.getD 0 default),(v2.1.getD 1 default),(v2.1.getD 2 default))])
           else .out none
          else .out none
         else .out none
        else .out none
    else bindC (r96 (v1.getD s1.1.toNat default) 3) fun v8=>
     if (!v8.2)=true then
      .out (some (0,[],7))
      else if (s1.1 == 0)=true then
       if 0≤0∧0<(v8.1.length:Int) then
        .next (IntKind.i64.wrap (s1.1+1),(v8.1.getD 0 default),s1.2.2)
        else .out none
       else if 0≤0∧0<(v8.1.length:Int) then
        if 0≤1∧1<(v8.1.length:Int) then
         if 0≤2∧2<(v8.1.length:Int) then
          if (s1.2.2.length+1)*24≤140737488355328∧s1.2.2.length+1≤9223372036854775807 then
           .next (IntKind.i64.wrap (s1.1+1),s1.2.1,s1.2.2++[((v8.1.getD 0 default),(v8.1.getD 1 default),(v8.1.getD 2 default))])
           else .out none
          else .out none
         else .out none
        else .out none
   else .out none
  else .out ((r97 s1.2.1 s1.2.2).bind fun v15=>
   if (v15 != 0)=true then
    some (0,[],v15)
    else some (s1.2.1,s1.2.2,0))
def r27 (a0:ByteArray):Option (Int×L_III×Int):=
 if (decide ((a0.size:Int)>60000))=true then
  some (0,[],8)
  else (r70 a0 (⟨#[59]⟩:ByteArray)).bind fun v1=>
   iterC (b27_1 v1) 1000000000 (0,0,[])
def T27:=qT43 qu25 false r27
attribute [go_sem] T27
def tb27:Fns:=lk [(70,T70.sp),(96,T96.sp),(97,T97.sp)]
theorem tb27_ok:FnsOk Tryz.prog tb27:= .cons f70 (.cons f96 (.cons f97 .nil))
theorem tk27:tb27 70=some T70.sp∧tb27 96=some T96.sp∧tb27 97=some T97.sp:=⟨rfl,rfl,rfl⟩
section
attribute [local go_sem] tk27 Tryz.results27
theorem f27:FnFact Tryz.prog 27 T27.sp:=by
 refine valid_m ty_ok tb27_ok Tryz.func27 rfl Tryz.ntmps27 fun a0 r hr=>⟨nL rfl,fun stop S=> ?_⟩
 replace hr:r27 a0=some r:=hr
 unfold r27 at hr
 refine S.gx [16] ?_
 refine gr ?_
 refine iW hr (fun hc hr=>D0 hr) fun hc hr=> ?_
 obtain ⟨v1,hv1,hr⟩:=of_bind0 hr
 refine gb hv1 ?_
 refine S.own0b 4 1 2000401 3 rfl rfl (nL rfl) rfl ?_
 refine S.sees [2,4,16,17,18] [(2,2),(4,4)] [(2000401,2000401),(16,16)] ?_ (Stop.iter S (fun s1=>⟨[(2,.c (.ref 2 0)),(4,.c (.ref 4 0)),(16,.c (.own 16)),(17,.c (.d (.int .i64 (v1.length:Int)))),(18,.c (.d (.int .i64 s1.1)))],[(2,[.d (.int .i64 0),.nils]),(4,[.d (.int .i64 s1.2.1),.own 2000401])],[(2000401,.owned (encF 3 d_III s1.2.2)),(16,.owned (encF 1 d_S v1))]⟩) (b27_1 v1) (fun q=>q=r) hr rfl ?_)
 ·exact lf
 ·intro s1 hr
  unfold b27_1 at hr
  refine S.gx [16] ?_
  refine gr ?_
  refine iW1 hr (fun hc hr=> ?_) fun hc hr=>D0 hr
  obtain ⟨hg14,hr⟩:=of_guard1 hr
  refine gr ?_
  refine iW1 hr (fun hc hr=> ?_) fun hc hr=> ?_
  ·obtain ⟨v2,hv2,hr⟩:=of_bind1 hr
   refine gb hv2 ?_
   refine iW1 hr (fun hc hr=>D0 hr) fun hc hr=> ?_
   refine gr ?_
   refine iW1 hr (fun hc hr=> ?_) fun hc hr=> ?_
   ·obtain ⟨hg3,hr⟩:=of_guard1 hr
    refine gr ?_
    refine S.prune [2,4,16,17,18] ?_
    refine S.gx [] ?_
    exact D1 (S.ss [2,4,16,17,18] [(2,2),(4,4)] [(2000401,2000401),(16,16)]) hr
   ·obtain ⟨hg4,hr⟩:=of_guard1 hr
    obtain ⟨hg5,hr⟩:=of_guard1 hr
    obtain ⟨hg6,hr⟩:=of_guard1 hr
    obtain ⟨hg7,hr⟩:=of_guard1 hr
    refine gr ?_
    refine S.prune [2,4,16,17,18] ?_
    refine S.gx [] ?_
    exact D1 (S.ss [2,4,16,17,18] [(2,2),(4,4)] [(44,2000401),(16,16)]) hr
  ·obtain ⟨v8,hv8,hr⟩:=of_bind1 hr
   refine gb hv8 ?_
   refine iW1 hr (fun hc hr=>D0 hr) fun hc hr=> ?_
   refine gr ?_
   refine iW1 hr (fun hc hr=> ?_) fun hc hr=> ?_
   ·obtain ⟨hg9,hr⟩:=of_guard1 hr
    refine gr ?_
    refine S.prune [2,4,16,17,18] ?_
    refine S.gx [] ?_
    exact D1 (S.ss [2,4,16,17,18] [(2,2),(4,4)] [(2000401,2000401),(16,16)]) hr
   ·obtain ⟨hg10,hr⟩:=of_guard1 hr
    obtain ⟨hg11,hr⟩:=of_guard1 hr
    obtain ⟨hg12,hr⟩:=of_guard1 hr
    obtain ⟨hg13,hr⟩:=of_guard1 hr
    refine gr ?_
    refine S.prune [2,4,16,17,18] ?_
    refine S.gx [] ?_
    exact D1 (S.ss [2,4,16,17,18] [(2,2),(4,4)] [(44,2000401),(16,16)]) hr
end
def b30_1 (x0 x1:L_III):Bd Int Bool:=fun s1=>
 if (decide (s1<(x0.length:Int)))=true then
  if 0≤s1∧s1<(x0.length:Int) then
   if 0≤s1∧s1<(x1.length:Int) then
    if (!(((x0.getD s1.toNat default).1 == (x1.getD s1.toNat default).1) && (((x0.getD s1.toNat default).2.1 == (x1.getD s1.toNat default).2.1) && ((x0.getD s1.toNat default).2.2 == (x1.getD s1.toNat default).2.2))))=true then
     .out (some false)
     else .next (IntKind.i64.wrap (s1+1))
    else .out none
   else .out none
  else .out (some true)
def r30 (x2:Int) (x0:L_III) (x3:Int) (x1:L_III):Option (Bool):=
 if ((x2 != x3) || ((x0.length:Int) != (x1.length:Int)))=true then
  some false
  else iterC (b30_1 x0 x1) 1000000000 0
def T30:=qT45 qu2 false r30
attribute [go_sem] T30
def tb30:Fns:=lk []
theorem tb30_ok:FnsOk Tryz.prog tb30:=FnsOk.nil
section
attribute [local go_sem] Tryz.results30
theorem f30:FnFact Tryz.prog 30 T30.sp:=by
 refine valid_m ty_ok tb30_ok Tryz.func30 rfl Tryz.ntmps30 fun ⟨x2,x0,x3,x1⟩ r hr=>⟨nL rfl,fun stop S=> ?_⟩
 replace hr:r30 x2 x0 x3 x1=some r:=hr
 unfold r30 at hr
 refine S.gx [] ?_
 repeat (first | refine gA ?_ | refine gB ?_)
 refine iW hr (fun hc hr=>D0 hr) fun hc hr=> ?_
 refine gr ?_
 refine S.sees [2,3,5] [(2,2),(3,3)] [] ?_ (Stop.iter S (fun s1=>⟨[(2,.c (.ref 2 0)),(3,.c (.ref 3 0)),(5,.c (.d (.int .i64 s1)))],[(2,[.d (.int .i64 x2),.d (encF 3 d_III x0)]),(3,[.d (.int .i64 x3),.d (encF 3 d_III x1)])],[]⟩) (b30_1 x0 x1) (fun q=>q=r) hr rfl ?_)
 ·exact lf
 ·intro s1 hr
  unfold b30_1 at hr
  refine S.gx [] ?_
  exact D1 (S.ss [2,3,5] [(2,2),(3,3)] []) hr
end
def r17 (a0:L_I):Option (L_I):=
 if (0+a0.length)*8≤140737488355328∧0+a0.length≤9223372036854775807 then
  some a0
  else none
def T17:=qT3 qu11 false r17
attribute [go_sem] T17
def tb17:Fns:=lk []
theorem tb17_ok:FnsOk Tryz.prog tb17:=FnsOk.nil
section
attribute [local go_sem] Tryz.results17
theorem f17:FnFact Tryz.prog 17 T17.sp:=by
 refine valid_m ty_ok tb17_ok Tryz.func17 rfl Tryz.ntmps17 fun a0 r hr=>⟨nL rfl,fun stop S=> ?_⟩
 replace hr:r17 a0=some r:=hr
 unfold r17 at hr
 refine S.gx [] ?_
 exact D0 hr
end
def b14_1 (x2 x3:Int) (x1:L_II) (x0:L_LIIE):Bd (Int×(List (L_II))) (Int×Int×L_II×L_LIIE):=fun s1=>
 if (decide (s1.1<(x0.length:Int)))=true then
  if 0≤s1.1∧s1.1<(x0.length:Int) then
   if (0+(x0.getD s1.1.toNat default).length)*16≤140737488355328∧0+(x0.getD s1.1.toNat default).length≤9223372036854775807 then
    if (s1.2.length+1)*24≤140737488355328∧s1.2.length+1≤9223372036854775807 then
     .next (IntKind.i64.wrap (s1.1+1),s1.2++[(x0.getD s1.1.toNat default)])
     else .out none
    else .out none
   else .out none
  else .out (some (x2,x3,x1,s1.2))
def r14 (x2 x3:Int) (x1:L_II) (x0:L_LIIE):Option (Int×Int×L_II×L_LIIE):=
 if (0+x1.length)*16≤140737488355328∧0+x1.length≤9223372036854775807 then
  iterC (b14_1 x2 x3 x1 x0) 1000000000 (0,[])
  else none
def T14:=qT21 qu14 true r14
attribute [go_sem] T14
def tb14:Fns:=lk []
theorem tb14_ok:FnsOk Tryz.prog tb14:=FnsOk.nil
section
attribute [local go_sem] Tryz.results14
theorem f14:FnFact Tryz.prog 14 T14.sp:=by
 refine valid_m ty_ok tb14_ok Tryz.func14 rfl Tryz.ntmps14 fun ⟨x2,x3,x1,x0⟩ r hr=>⟨nL rfl,fun stop S=> ?_⟩
 replace hr:r14 x2 x3 x1 x0=some r:=hr
 unfold r14 at hr
 refine S.gx [] ?_
 obtain ⟨hg4,hr⟩:=of_guard0 hr
 refine gr ?_
 refine S.own0b 3 3 2000303 1 rfl rfl (nL rfl) rfl ?_
 refine S.sees [1,2,3,4] [(1,1),(2,2),(3,3)] [(2000303,2000303),(9,9)] ?_ (Stop.iter S (fun s1=>⟨[(1,.c (.ref 1 0)),(2,.c (.ref 2 0)),(3,.c (.ref 3 0)),(4,.c (.d (.int .i64 s1.1)))],[(1,[.d (.int .i64 x2),.d (.int .i64 x3),.d (encF 2 d_II x1),.d (encF 1 d_LIIE x0)]),(2,[.d (.int .i64 0),.d (.int .i64 0),.nils,.nils]),(3,[.d (.int .i64 x2),.d (.int .i64 x3),.own 9,.own 2000303])],[(2000303,.owned (encF 1 d_LIIE s1.2)),(9,.owned (encF 2 d_II x1))]⟩) (b14_1 x2 x3 x1 x0) (fun q=>q=r) hr rfl ?_)
 ·exact lf
 ·intro s1 hr
  unfold b14_1 at hr
  refine S.gx [] ?_
  exact D1 (S.ss [1,2,3,4] [(1,1),(2,2),(3,3)] [(29,2000303),(9,9)]) hr
end
def b101_1:Bd (Int×Int) Int:=fun s1=>
 if (s1.2 != 0)=true then
  if s1.2≠0 then
   .next (s1.2,s1.1.tmod s1.2)
   else .out none
  else .out (some (if s1.1<IntKind.i64.wrap (0 - s1.1) then IntKind.i64.wrap (0 - s1.1) else s1.1))
def r101 (a0 a1:Int):Option (Int):=
 iterC (b101_1) 1000000000 (a0,a1)
def T101:=qT17 qu3 false r101
attribute [go_sem] T101
def tb101:Fns:=lk []
theorem tb101_ok:FnsOk Tryz.prog tb101:=FnsOk.nil
section
attribute [local go_sem] Tryz.results101
theorem f101:FnFact Tryz.prog 101 T101.sp:=by
 refine valid_m ty_ok tb101_ok Tryz.func101 rfl Tryz.ntmps101 fun ⟨a0,a1⟩ r hr=>⟨nL rfl,fun stop S=> ?_⟩
 replace hr:r101 a0 a1=some r:=hr
 unfold r101 at hr
 refine S.gx [] ?_
 refine gr ?_
 refine S.sees [0,1] [] [] ?_ (Stop.iter S (fun s1=>⟨[(0,.c (.d (.int .i64 s1.1))),(1,.c (.d (.int .i64 s1.2)))],[],[]⟩) (b101_1) (fun q=>q=r) hr rfl ?_)
 ·exact lf
 ·intro s1 hr
  unfold b101_1 at hr
  refine S.gx [] ?_
  exact D1 (S.ss [0,1] [] []) hr
end
def r31 (x0 x1:Int) (x2:L_II) (x3:L_LIIE) (a1:Int):Option (Int×Int×Int):=
 (r98 x0 x1 x2 x3).bind fun v1=>
  if (v1.2.2.2.2.2.2 == 0)=true then
   (r99 v1.1 v1.2.1 v1.2.2.1 v1.2.2.2.1 v1.2.2.2.2.1 v1.2.2.2.2.2.1 a1).bind fun v2=>
    (r83 v2 2).bind fun v3=>
     if (v3 != 0)=true then
      some (0,0,v3)
      else (r100 v1.1 v1.2.1 v1.2.2.1 v1.2.2.2.1 v1.2.2.2.2.1 v1.2.2.2.2.2.1 a1).bind fun v4=>
       (r101 v4.1 v4.2).bind fun v5=>
        if v5≠0 then
         if v5≠0 then
          some (IntKind.i64.wrap (v4.1.tdiv v5),IntKind.i64.wrap (v4.2.tdiv v5),0)
          else none
         else none
   else if (v1.2.2.2.2.2.2 != 0)=true then
    some (0,0,v1.2.2.2.2.2.2)
    else (r100 v1.1 v1.2.1 v1.2.2.1 v1.2.2.2.1 v1.2.2.2.2.1 v1.2.2.2.2.2.1 a1).bind fun v8=>
     (r101 v8.1 v8.2).bind fun v9=>
      if v9≠0 then
       if v9≠0 then
        some (IntKind.i64.wrap (v8.1.tdiv v9),IntKind.i64.wrap (v8.2.tdiv v9),0)
        else none
       else none
def T31:=qT40 qu20 false r31
attribute [go_sem] T31
def tb31:Fns:=lk [(83,T83.sp),(98,T98.sp),(99,T99.sp),(100,T100.sp),(101,T101.sp)]
theorem tb31_ok:FnsOk Tryz.prog tb31:= .cons f83 (.cons f98 (.cons f99 (.cons f100 (.cons f101 .nil))))
theorem tk31:tb31 83=some T83.sp∧tb31 98=some T98.sp∧tb31 99=some T99.sp∧tb31 100=some T100.sp∧tb31 101=some T101.sp:=⟨rfl,rfl,rfl,rfl,rfl⟩
section
attribute [local go_sem] tk31 Tryz.results31
theorem f31:FnFact Tryz.prog 31 T31.sp:=by
 refine valid_m ty_ok tb31_ok Tryz.func31 rfl Tryz.ntmps31 fun ⟨x0,x1,x2,x3,a1⟩ r hr=>⟨nL rfl,fun stop S=> ?_⟩
 replace hr:r31 x0 x1 x2 x3 a1=some r:=hr
 unfold r31 at hr
 refine S.gx [] ?_
 exact D0 hr
end
def r32 (a0 a1:Int):Option (Int):=
 if a1≠0 then
  if a1≠0 then
   if (decide ((a0.tmod a1)<0))=true then
    some (IntKind.i64.wrap ((IntKind.i64.wrap (a0.tdiv a1)) - 1))
    else some (IntKind.i64.wrap (a0.tdiv a1))
   else none
  else none
def T32:=qT17 qu3 false r32
attribute [go_sem] T32
def tb32:Fns:=lk []
theorem tb32_ok:FnsOk Tryz.prog tb32:=FnsOk.nil
section
attribute [local go_sem] Tryz.results32
theorem f32:FnFact Tryz.prog 32 T32.sp:=by
 refine valid_m ty_ok tb32_ok Tryz.func32 rfl Tryz.ntmps32 fun ⟨a0,a1⟩ r hr=>⟨nL rfl,fun stop S=> ?_⟩
 replace hr:r32 a0 a1=some r:=hr
 unfold r32 at hr
 refine S.gx [] ?_
 exact D0 hr
end
def r102 (a0:Int):Option (Bool):=
 (r103 a0 1 3000).bind fun v1=>
  some v1
def T102:=qT4 qu2 false r102
attribute [go_sem] T102
def tb102:Fns:=lk [(103,T103.sp)]
theorem tb102_ok:FnsOk Tryz.prog tb102:= .cons f103 .nil
theorem tk102:tb102 103=some T103.sp:=rfl
section
attribute [local go_sem] tk102 Tryz.results102
theorem f102:FnFact Tryz.prog 102 T102.sp:=by
 refine valid_m ty_ok tb102_ok Tryz.func102 rfl Tryz.ntmps102 fun a0 r hr=>⟨nL rfl,fun stop S=> ?_⟩
 replace hr:r102 a0=some r:=hr
 unfold r102 at hr
 refine S.gx [] ?_
 exact D0 hr
end
def r105 (a0:Int) (x0:Nat):Option (Bool):=
 if x0=102 then
  (r102 a0).bind fun v2=>
   some (!v2)
  else none
def T105:=qT46 qu2 false r105
attribute [go_sem] T105
def tb105:Fns:=lk [(102,T102.sp)]
theorem tb105_ok:FnsOk Tryz.prog tb105:= .cons f102 .nil
theorem tk105:tb105 102=some T102.sp:=rfl
section
attribute [local go_sem] tk105 Tryz.results105
theorem f105:FnFact Tryz.prog 105 T105.sp:=by
 refine valid_m ty_ok tb105_ok Tryz.func105 rfl Tryz.ntmps105 fun ⟨a0,x0⟩ r hr=>⟨nL rfl,fun stop S=> ?_⟩
 replace hr:r105 a0 x0=some r:=hr
 unfold r105 at hr
 refine S.gx [1] ?_
 refine gr ?_
 by_cases hs1:x0=102
 ·rw [if_pos hs1] at hr
  simp only [hs1]
  refine S.gx [] ?_
  exact D0 hr
 ·rw [if_neg hs1] at hr
  first | cases hr | exact hr.elim
end
def b170d_1 (a0:L_I) (x0:Nat):Bd Int Int:=fun s1=>
 if (decide (s1<(a0.length:Int)))=true then
  if 0≤s1∧s1<(a0.length:Int) then
   bindC (r105 (a0.getD s1.toNat default) x0) fun v1=>
    if v1=true then
     .out (some s1)
     else .next (IntKind.i64.wrap (s1+1))
   else .out none
  else .out (some (-1))
def r170d (a0:L_I) (x0:Nat):Option (Int):=
 iterC (b170d_1 a0 x0) 1000000000 0
def T170d:=qT47 qu3 false r170d
attribute [go_sem] T170d
def tb170d:Fns:=lk [(105,T105.sp)]
theorem tb170d_ok:FnsOk Tryz.prog tb170d:= .cons f105 .nil
theorem tk170d:tb170d 105=some T105.sp:=rfl
section
attribute [local go_sem] tk170d Tryz.results170
theorem f170d:FnFact Tryz.prog 170 T170d.sp:=by
 refine valid_m ty_ok tb170d_ok Tryz.func170 rfl Tryz.ntmps170 fun ⟨a0,x0⟩ r hr=>⟨nL rfl,fun stop S=> ?_⟩
 replace hr:r170d a0 x0=some r:=hr
 unfold r170d at hr
 refine S.gx [] ?_
 refine gr ?_
 refine S.sees [0,1,7,8] [] [] ?_ (Stop.iter S (fun s1=>⟨[(0,.c (.d (encF 1 d_I a0))),(1,.c (.clo 105 [.sptr [.fn x0] 0])),(7,.c (.d (.int .i64 (a0.length:Int)))),(8,.c (.d (.int .i64 s1)))],[],[]⟩) (b170d_1 a0 x0) (fun q=>q=r) hr rfl ?_)
 ·exact lf
 ·intro s1 hr
  unfold b170d_1 at hr
  refine S.gx [] ?_
  exact D1 (S.ss [0,1,7,8] [] []) hr
end
def r104b (a0:L_I) (x0:Nat):Option (Bool):=
 (r170d a0 x0).bind fun v1=>
  some (decide (v1≥0))
def T104b:=qT47 qu2 false r104b
attribute [go_sem] T104b
def tb104b:Fns:=lk [(170,T170d.sp)]
theorem tb104b_ok:FnsOk Tryz.prog tb104b:= .cons f170d .nil
theorem tk104b:tb104b 170=some T170d.sp:=rfl
section
attribute [local go_sem] tk104b Tryz.results104
theorem f104b:FnFact Tryz.prog 104 T104b.sp:=by
 refine valid_m ty_ok tb104b_ok Tryz.func104 rfl Tryz.ntmps104 fun ⟨a0,x0⟩ r hr=>⟨nL rfl,fun stop S=> ?_⟩
 replace hr:r104b a0 x0=some r:=hr
 unfold r104b at hr
 refine S.gx [] ?_
 exact D0 hr
end
def b33_1 (a0:L_I) (a1:Int):Bd ((List (Bool))×Int) (L_B×Int):=fun s1=>
 if (decide (s1.2<(a0.length:Int)))=true then
  if 0≤s1.2∧s1.2<(a0.length:Int) then
   if (s1.1.length+1)*1≤140737488355328∧s1.1.length+1≤9223372036854775807 then
    .next (s1.1++[decide ((a0.getD s1.2.toNat default)≥a1)],IntKind.i64.wrap (s1.2+1))
    else .out none
   else .out none
  else .out (some (s1.1,0))
def r33 (a0:L_I) (a1:Int):Option (L_B×Int):=
 (r104b a0 102).bind fun v1=>
  (r107 (decide ((a0.length:Int)≤4)) 8).bind fun v2=>
   if (!v1)=true→(r102 a1).isSome=true then
    (r107 ((!v1) && ((r102 a1).getD default)) 2).bind fun v3=>
     (r106 [v2,v3]).bind fun v4=>
      if (v4 != 0)=true then
       some ([],v4)
       else iterC (b33_1 a0 a1) 1000000000 ([],0)
    else none
def T33:=qT48 qu26 false r33
attribute [go_sem] T33
def tb33:Fns:=lk [(102,T102.sp),(104,T104b.sp),(106,T106.sp),(107,T107.sp)]
theorem tb33_ok:FnsOk Tryz.prog tb33:= .cons f102 (.cons f104b (.cons f106 (.cons f107 .nil)))
theorem tk33:tb33 102=some T102.sp∧tb33 104=some T104b.sp∧tb33 106=some T106.sp∧tb33 107=some T107.sp:=⟨rfl,rfl,rfl,rfl⟩
section
attribute [local go_sem] tk33 Tryz.results33
theorem f33:FnFact Tryz.prog 33 T33.sp:=by
 refine valid_m ty_ok tb33_ok Tryz.func33 rfl Tryz.ntmps33 fun ⟨a0,a1⟩ r hr=>⟨nL rfl,fun stop S=> ?_⟩
 replace hr:r33 a0 a1=some r:=hr
 unfold r33 at hr
 refine S.gx [] ?_
 obtain ⟨v1,hv1,hr⟩:=of_bind0 hr
 obtain ⟨v2,hv2,hr⟩:=of_bind0 hr
 obtain ⟨hg7,hr⟩:=of_guard0 hr
 obtain ⟨v3,hv3,hr⟩:=of_bind0 hr
 obtain ⟨v4,hv4,hr⟩:=of_bind0 hr
 try simp only [hv1,hv2,hv3,hv4,Option.getD_some,Option.isSome_some,true_and,and_assoc]
 repeat (first | refine gG hg7 ?_ | refine gA ?_ | refine gB ?_)
 refine iW hr (fun hc hr=>D0 hr) fun hc hr=> ?_
 refine gr ?_
 refine S.own0 9 1000900 1 rfl rfl ?_
 refine S.sees [1,9,32,33,34] [] [(1000900,1000900)] ?_ (Stop.iter S (fun s1=>⟨[(1,.c (.d (.int .i64 a1))),(9,.c (.own 1000900)),(32,.c (.d (encF 1 d_I a0))),(33,.c (.d (.int .i64 (a0.length:Int)))),(34,.c (.d (.int .i64 s1.2)))],[],[(1000900,.owned (encF 1 d_B s1.1))]⟩) (b33_1 a0 a1) (fun q=>q=r) hr rfl ?_)
 ·exact lf
 ·intro s1 hr
  unfold b33_1 at hr
  refine S.gx [] ?_
  exact D1 (S.ss [1,9,32,33,34] [] [(43,1000900)]) hr
end
def r35 (a0:L_B):Option (L_B):=
 if (0+a0.length)*1≤140737488355328∧0+a0.length≤9223372036854775807 then
  some a0
  else none
def T35:=qT49 qu27 false r35
attribute [go_sem] T35
def tb35:Fns:=lk []
theorem tb35_ok:FnsOk Tryz.prog tb35:=FnsOk.nil
section
attribute [local go_sem] Tryz.results35
theorem f35:FnFact Tryz.prog 35 T35.sp:=by
 refine valid_m ty_ok tb35_ok Tryz.func35 rfl Tryz.ntmps35 fun a0 r hr=>⟨nL rfl,fun stop S=> ?_⟩
 replace hr:r35 a0=some r:=hr
 unfold r35 at hr
 refine S.gx [] ?_
 exact D0 hr
end
def b36_1 (x1 x2:Int) (x3:L_II) (x4:L_LIIE) (x0:L_I) (x5:Int):Bd Int Int:=fun s1=>
 if (decide (s1<(x0.length:Int)))=true then
  if 0≤s1∧s1<(x0.length:Int) then
   bindC (r11 (x0.getD s1.toNat default) 0 10000) fun v1=>
    if (!v1)=true then
     .out (some 2)
     else .next (IntKind.i64.wrap (s1+1))
   else .out none
  else .out ((r10 x1 x2 x3 x4 x5).bind fun v3=>
   some v3)
def r36 (x1 x2:Int) (x3:L_II) (x4:L_LIIE) (x0:L_I) (x5:Int):Option (Int):=
 if ((x0.length:Int) != x1)=true then
  some 10
  else iterC (b36_1 x1 x2 x3 x4 x0 x5) 1000000000 0
def T36:=qT50 qu3 false r36
attribute [go_sem] T36
def tb36:Fns:=lk [(10,T10.sp),(11,T11.sp)]
theorem tb36_ok:FnsOk Tryz.prog tb36:= .cons f10 (.cons f11 .nil)
theorem tk36:tb36 10=some T10.sp∧tb36 11=some T11.sp:=⟨rfl,rfl⟩
section
attribute [local go_sem] tk36 Tryz.results36
theorem f36:FnFact Tryz.prog 36 T36.sp:=by
 refine valid_m ty_ok tb36_ok Tryz.func36 rfl Tryz.ntmps36 fun ⟨x1,x2,x3,x4,x0,x5⟩ r hr=>⟨nL rfl,fun stop S=> ?_⟩
 replace hr:r36 x1 x2 x3 x4 x0 x5=some r:=hr
 unfold r36 at hr
 refine S.gx [] ?_
 refine gr ?_
 refine iW hr (fun hc hr=>D0 hr) fun hc hr=> ?_
 refine gr ?_
 refine S.sees [2,3,5] [(2,2),(3,3)] [] ?_ (Stop.iter S (fun s1=>⟨[(2,.c (.ref 2 0)),(3,.c (.ref 3 0)),(5,.c (.d (.int .i64 s1)))],[(2,[.d (.int .i64 x1),.d (.int .i64 x2),.d (encF 2 d_II x3),.d (encF 1 d_LIIE x4)]),(3,[.d (encF 1 d_I x0),.d (.int .i64 x5)])],[]⟩) (b36_1 x1 x2 x3 x4 x0 x5) (fun q=>q=r) hr rfl ?_)
 ·exact lf
 ·intro s1 hr
  unfold b36_1 at hr
  refine S.gx [] ?_
  exact D1 (S.ss [2,3,5] [(2,2),(3,3)] []) hr
end
def b37_1 (a0:L_I):Bd (Int×Int) Int:=fun s1=>
 if (decide (s1.2<(a0.length:Int)))=true then
  if 0≤s1.2∧s1.2<(a0.length:Int) then
   .next (IntKind.i64.wrap (s1.1+(a0.getD s1.2.toNat default)),IntKind.i64.wrap (s1.2+1))
   else .out none
  else .out (some s1.1)
def r37 (a0:L_I):Option (Int):=
 iterC (b37_1 a0) 1000000000 (0,0)
def T37:=qT3 qu3 false r37
attribute [go_sem] T37
def tb37:Fns:=lk []
theorem tb37_ok:FnsOk Tryz.prog tb37:=FnsOk.nil
section
attribute [local go_sem] Tryz.results37
theorem f37:FnFact Tryz.prog 37 T37.sp:=by
 refine valid_m ty_ok tb37_ok Tryz.func37 rfl Tryz.ntmps37 fun a0 r hr=>⟨nL rfl,fun stop S=> ?_⟩
 replace hr:r37 a0=some r:=hr
 unfold r37 at hr
 refine S.gx [] ?_
 refine gr ?_
 refine S.sees [0,3,4] [] [] ?_ (Stop.iter S (fun s1=>⟨[(0,.c (.d (encF 1 d_I a0))),(3,.c (.d (.int .i64 s1.1))),(4,.c (.d (.int .i64 s1.2)))],[],[]⟩) (b37_1 a0) (fun q=>q=r) hr rfl ?_)
 ·exact lf
 ·intro s1 hr
  unfold b37_1 at hr
  refine S.gx [] ?_
  exact D1 (S.ss [0,3,4] [] []) hr
end
end Go.Proofs.YthldpejmofhaoaaGreatDoor

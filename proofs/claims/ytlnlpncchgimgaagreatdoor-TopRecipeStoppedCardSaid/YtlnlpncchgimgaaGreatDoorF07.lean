/- Contracts of functions, written by wip/dec. -/
import Derived.Test.YtlnlpncchgimgaaGreatDoorF00
import Derived.Test.YtlnlpncchgimgaaGreatDoorF06
set_option linter.unusedVariables false
set_option linter.unusedSimpArgs false
set_option linter.constructorNameAsVariable false
set_option maxHeartbeats 4000000
set_option maxRecDepth 20000
namespace Go.Proofs.YtlnlpncchgimgaaGreatDoor
open Go.Abs
section
variable {β:Type} [Inhabited β] (u:β→List RV) (al:Bool)
def qw44 (a0 a1:Int) (a2:L_II) (a3:L_LIIE) (a4 a5:L_I) (a6:L_II) (a7 a8 a9:Int):List Arg:=[.agg [.int .i64 a0,.int .i64 a1,encF 2 d_II a2,encF 1 d_LIIE a3,encF 1 d_I a4,encF 1 d_I a5,encF 2 d_II a6,.int .i64 a7,.int .i64 a8],.c (.int .i64 a9)]
def qd44:List Arg→Int×Int×L_II×L_LIIE×L_I×L_I×L_II×Int×Int×Int
 | [.agg [c0,c1,c2,c3,c4,c5,c6,c7,c8],.c c9]=>(dInt c0,dInt c1,decF g_II c2,decF g_LIIE c3,decF g_I c4,decF g_I c5,decF g_II c6,dInt c7,dInt c8,dInt c9)
 | _=>default
def qT44 (r:Int→Int→L_II→L_LIIE→L_I→L_I→L_II→Int→Int→Int→Option β):=mkT (u10 qw44) qd44 (u10 r) u al
attribute [go_sem] qw44 qd44 qT44
def qw46 (a0 a1:ByteArray):List Arg:=[.c (.str a0),.c (.str a1)]
def qd46:List Arg→ByteArray×ByteArray
 | [.c c0,.c c1]=>(dStr c0,dStr c1)
 | _=>default
def qT46 (r:ByteArray→ByteArray→Option β):=mkT (u2 qw46) qd46 (u2 r) u al
attribute [go_sem] qw46 qd46 qT46
def qu22 (v:ByteArray×ByteArray×Bool):List RV:=[.c (.d (.str v.1)),.c (.d (.str v.2.1)),.c (.d (.bool v.2.2))]
attribute [go_sem] qu22
end
def b115_1 (a0 a1:L_II):Bd Int Bool:=fun s1=>
 if (decide (s1<((a0++a1).length:Int)))=true then
  if 0≤s1∧s1<((a0++a1).length:Int) then
   bindC (r145 a0 (((a0++a1).getD s1.toNat default).1) 1) fun v1=>
    if 0≤s1∧s1<((a0++a1).length:Int) then
     bindC (r145 a1 (((a0++a1).getD s1.toNat default).1) 1) fun v2=>
      if (decide ((IntKind.i64.wrap (v1.1*v2.2))<(IntKind.i64.wrap (v2.1*v1.2))))=true then
       .out (some true)
       else .next (IntKind.i64.wrap (s1+1))
     else .out none
   else .out none
  else .out (some false)
def r115 (a0 a1:L_II):Option (Bool):=
 if (0+a0.length)*16≤140737488355328∧0+a0.length≤9223372036854775807 then
  if (a0.length+a1.length)*16≤140737488355328∧a0.length+a1.length≤9223372036854775807 then
   iterC (b115_1 a0 a1) 1000000000 0
   else none
  else none
def T115:=qT11 qu2 false r115
attribute [go_sem] T115
def tb115:Fns:=lk [(145,T145.sp)]
theorem tb115_ok:FnsOk Tryz.prog tb115:= .cons f145 .nil
theorem tk115:tb115 145=some T145.sp:=rfl
section
attribute [local go_sem] tk115 Tryz.results115
theorem f115:FnFact Tryz.prog 115 T115.sp:=by
 refine valid_m ty_ok tb115_ok Tryz.func115 rfl Tryz.ntmps115 fun ⟨a0,a1⟩ r hr=>⟨nL rfl,fun stop S=> ?_⟩
 replace hr:r115 a0 a1=some r:=hr
 unfold r115 at hr
 refine S.gx [4,8] ?_
 obtain ⟨hg5,hr⟩:=of_guard0 hr
 obtain ⟨hg6,hr⟩:=of_guard0 hr
 refine gr ?_
 refine S.sees [0,1,5,6] [] [(15,15)] ?_ (Stop.iter S (fun s1=>⟨[(0,.c (.d (encF 2 d_II a0))),(1,.c (.d (encF 2 d_II a1))),(5,.c (.own 15)),(6,.c (.d (.int .i64 s1)))],[],[(15,.owned (encF 2 d_II (a0++a1)))]⟩) (b115_1 a0 a1) (fun q=>q=r) hr rfl ?_)
 ·exact lf
 ·intro s1 hr
  unfold b115_1 at hr
  refine S.gx [4,8] ?_
  refine gr ?_
  refine iW1 hr (fun hc hr=> ?_) fun hc hr=>D0 hr
  obtain ⟨hg3,hr⟩:=of_guard1 hr
  obtain ⟨v1,hv1,hr⟩:=of_bind1 hr
  obtain ⟨hg4,hr⟩:=of_guard1 hr
  obtain ⟨v2,hv2,hr⟩:=of_bind1 hr
  refine gb hv1 ?_
  refine gb hv2 ?_
  refine iW1 hr (fun hc hr=> ?_) fun hc hr=> ?_
  ·refine gr ?_
   refine S.prune [] ?_
   refine S.gx [4] ?_
   exact D0 hr
  ·refine gr ?_
   refine S.prune [0,1,5,6] ?_
   refine S.gx [8] ?_
   exact D1 (S.ss [0,1,5,6] [] [(15,15)]) hr
end
def b85_2 (x1:L_LIIE):Bd Int (Int×Int):=fun s2=>
 if (decide (s2<(x1.length:Int)))=true then
  if 0≤s2∧s2<(x1.length:Int) then
   bindC (r114 (x1.getD s2.toNat default)) fun v10=>
    if (v10 != 0)=true then
     .out (some (s2,v10))
     else if (decide (s2>0))=true→0≤s2∧s2<(x1.length:Int) then
      if (decide (s2>0))=true→0≤IntKind.i64.wrap (s2 - 1)∧IntKind.i64.wrap (s2 - 1)<(x1.length:Int) then
       if (decide (s2>0))=true→(r115 (x1.getD s2.toNat default) (x1.getD (IntKind.i64.wrap (s2 - 1)).toNat default)).isSome=true then
        if ((decide (s2>0)) && ((r115 (x1.getD s2.toNat default) (x1.getD (IntKind.i64.wrap (s2 - 1)).toNat default)).getD default))=true then
         .out (some (s2,13))
         else .next (IntKind.i64.wrap (s2+1))
        else .out none
       else .out none
      else .out none
   else .out none
  else .out (some (0,0))
def b85_1 (x0:L_II) (x1:L_LIIE):Bd Int (Int×Int):=fun s1=>
 if (decide (s1<(x0.length:Int)))=true then
  if 0≤s1∧s1<(x0.length:Int) then
   bindC (r15 ((x0.getD s1.toNat default).1) 0 1000000) fun v2=>
    if (!(!v2))=true→0≤s1∧s1<(x0.length:Int) then
     if (!(!v2))=true→(r8 ((x0.getD s1.toNat default).2)).isSome=true then
      if ((!v2) || (!((r8 ((x0.getD s1.toNat default).2)).getD default)))=true then
       .out (some (s1,2))
       else if (decide (s1>0))=true then
        if 0≤s1∧s1<(x0.length:Int) then
         if 0≤IntKind.i64.wrap (s1 - 1)∧IntKind.i64.wrap (s1 - 1)<(x0.length:Int) then
          if 0≤s1∧s1<(x0.length:Int) then
           if 0≤IntKind.i64.wrap (s1 - 1)∧IntKind.i64.wrap (s1 - 1)<(x0.length:Int) then
            if ((decide ((IntKind.i64.wrap (((x0.getD s1.toNat default).1) - ((x0.getD (IntKind.i64.wrap (s1 - 1)).toNat default).1)))≤0)) || (decide ((IntKind.i64.wrap (((x0.getD s1.toNat default).2) - ((x0.getD (IntKind.i64.wrap (s1 - 1)).toNat default).2)))≤0)))=true then
             .out (some (s1,9))
             else if (decide ((IntKind.i64.wrap (((x0.getD s1.toNat default).2) - ((x0.getD (IntKind.i64.wrap (s1 - 1)).toNat default).2)))>(IntKind.i64.wrap (((x0.getD s1.toNat default).1) - ((x0.getD (IntKind.i64.wrap (s1 - 1)).toNat default).1)))))=true then
              .out (some (s1,22))
              else .next (IntKind.i64.wrap (s1+1))
            else .out none
           else .out none
          else .out none
         else .out none
        else .next (IntKind.i64.wrap (s1+1))
      else .out none
     else .out none
   else .out none
  else .out (if (decide ((x1.length:Int)>4))=true then
   some (0,8)
   else iterC (b85_2 x1) 1000000000 0)
def r85 (x3 x2:Int) (x0:L_II) (x1:L_LIIE):Option (Int×Int):=
 (r15 x3 1 12).bind fun v1=>
  if (!(!v1))=true→(r15 x2 0 500).isSome=true then
   if ((!v1) || (!((r15 x2 0 500).getD default)))=true then
    some (0,2)
    else if (decide ((x0.length:Int)<2))=true then
     some (0,10)
     else if (decide ((x0.length:Int)>8))=true then
      some (0,8)
      else iterC (b85_1 x0 x1) 1000000000 0
   else none
def T85:=qT12 qu4 false r85
attribute [go_sem] T85
def tb85:Fns:=lk [(8,T8.sp),(15,T15.sp),(114,T114.sp),(115,T115.sp)]
theorem tb85_ok:FnsOk Tryz.prog tb85:= .cons f8 (.cons f15 (.cons f114 (.cons f115 .nil)))
theorem tk85:tb85 8=some T8.sp∧tb85 15=some T15.sp∧tb85 114=some T114.sp∧tb85 115=some T115.sp:=⟨rfl,rfl,rfl,rfl⟩
section
attribute [local go_sem] tk85 Tryz.results85
theorem f85:FnFact Tryz.prog 85 T85.sp:=by
 refine valid_m ty_ok tb85_ok Tryz.func85 rfl Tryz.ntmps85 fun ⟨x3,x2,x0,x1⟩ r hr=>⟨nL rfl,fun stop S=> ?_⟩
 replace hr:r85 x3 x2 x0 x1=some r:=hr
 unfold r85 at hr
 refine S.gx [14,22,27] ?_
 obtain ⟨v1,hv1,hr⟩:=of_bind0 hr
 obtain ⟨hg15,hr⟩:=of_guard0 hr
 try simp only [hv1,oG,oI,true_and,and_assoc]
 repeat (first | refine gG hg15 ?_ | refine gA ?_ | refine gB ?_)
 refine iW hr (fun hc hr=>D0 hr) fun hc hr=> ?_
 refine gr ?_
 refine iW hr (fun hc hr=>D0 hr) fun hc hr=> ?_
 refine gr ?_
 refine iW hr (fun hc hr=>D0 hr) fun hc hr=> ?_
 refine gr ?_
 refine S.sees [1,4] [(1,1)] [] ?_ (Stop.iter S (fun s1=>⟨[(1,.c (.ref 1 0)),(4,.c (.d (.int .i64 s1)))],[(1,[.d (.int .i64 x3),.d (.int .i64 x2),.d (encF 2 d_II x0),.d (encF 1 d_LIIE x1)])],[]⟩) (b85_1 x0 x1) (fun q=>q=r) hr rfl ?_)
 ·exact lf
 ·intro s1 hr
  unfold b85_1 at hr
  refine S.gx [14,22,27] ?_
  refine gr ?_
  refine iW1 hr (fun hc hr=> ?_) fun hc hr=> ?_
  ·obtain ⟨hg7,hr⟩:=of_guard1 hr
   obtain ⟨v2,hv2,hr⟩:=of_bind1 hr
   obtain ⟨hg8,hr⟩:=of_guard1 hr
   obtain ⟨hg9,hr⟩:=of_guard1 hr
   try simp only [hv2,oG,oI,true_and,and_assoc]
   repeat (first | refine gG hg8 ?_ | refine gG hg9 ?_ | refine gA ?_ | refine gB ?_)
   refine iW1 hr (fun hc hr=>D0 hr) fun hc hr=> ?_
   refine gr ?_
   refine iW1 hr (fun hc hr=> ?_) fun hc hr=>D1 (S.ss [1,4] [(1,1)] []) hr
   obtain ⟨hg3,hr⟩:=of_guard1 hr
   obtain ⟨hg4,hr⟩:=of_guard1 hr
   obtain ⟨hg5,hr⟩:=of_guard1 hr
   obtain ⟨hg6,hr⟩:=of_guard1 hr
   refine gr ?_
   refine S.prune [1,4,5,6] ?_
   refine S.gx [22,27] ?_
   repeat (first | refine gA ?_ | refine gB ?_)
   exact D1 (S.ss [1,4] [(1,1)] []) hr
  ·refine gr ?_
   have hr:=of_out0 hr
   refine gr ?_
   refine iW hr (fun hc hr=>D0 hr) fun hc hr=> ?_
   refine gr ?_
   refine S.sees [1,7] [(1,1)] [] ?_ (Stop.iter S (fun s2=>⟨[(1,.c (.ref 1 0)),(7,.c (.d (.int .i64 s2)))],[(1,[.d (.int .i64 x3),.d (.int .i64 x2),.d (encF 2 d_II x0),.d (encF 1 d_LIIE x1)])],[]⟩) (b85_2 x1) (fun q=>q=r) hr rfl ?_)
   ·exact lf
   ·intro s2 hr
    unfold b85_2 at hr
    refine S.gx [14,22,27] ?_
    refine gr ?_
    refine iW1 hr (fun hc hr=> ?_) fun hc hr=>D0 hr
    obtain ⟨hg14,hr⟩:=of_guard1 hr
    obtain ⟨v10,hv10,hr⟩:=of_bind1 hr
    refine gb hv10 ?_
    refine iW1 hr (fun hc hr=>D0 hr) fun hc hr=> ?_
    obtain ⟨hg11,hr⟩:=of_guard1 hr
    obtain ⟨hg12,hr⟩:=of_guard1 hr
    obtain ⟨hg13,hr⟩:=of_guard1 hr
    repeat (first | refine gG hg11 ?_ | refine gG hg12 ?_ | refine gG hg13 ?_ | refine gA ?_ | refine gB ?_)
    refine iW1 hr (fun hc hr=> ?_) fun hc hr=> ?_
    ·refine gr ?_
     refine S.prune [7] ?_
     refine S.gx [14,22] ?_
     exact D0 hr
    ·refine gr ?_
     refine S.prune [1,7] ?_
     refine S.gx [14,27] ?_
     exact D1 (S.ss [1,7] [(1,1)] []) hr
end
def r50 (x0 x1:Int) (x2:L_II) (x3:L_LIIE):Option (Int):=
 (r85 x0 x1 x2 x3).bind fun v1=>
  some v1.2
def T50:=qT12 qu3 false r50
attribute [go_sem] T50
def tb50:Fns:=lk [(85,T85.sp)]
theorem tb50_ok:FnsOk Tryz.prog tb50:= .cons f85 .nil
theorem tk50:tb50 85=some T85.sp:=rfl
section
attribute [local go_sem] tk50 Tryz.results50
theorem f50:FnFact Tryz.prog 50 T50.sp:=by
 refine valid_m ty_ok tb50_ok Tryz.func50 rfl Tryz.ntmps50 fun ⟨x0,x1,x2,x3⟩ r hr=>⟨nL rfl,fun stop S=> ?_⟩
 replace hr:r50 x0 x1 x2 x3=some r:=hr
 unfold r50 at hr
 refine S.gx [] ?_
 exact D0 hr
end
def r86 (x1 x2:Int) (x0:L_II) (x3:L_LIIE) (a1:Int):Option (Bool):=
 if 0≤0∧0<(x0.length:Int) then
  if 0≤IntKind.i64.wrap ((x0.length:Int) - 1)∧IntKind.i64.wrap ((x0.length:Int) - 1)<(x0.length:Int) then
   (r15 a1 ((x0.getD 0 default).1) ((x0.getD (IntKind.i64.wrap ((x0.length:Int) - 1)).toNat default).1)).bind fun v1=>
    some v1
   else none
  else none
def T86:=qT23 qu2 false r86
attribute [go_sem] T86
def tb86:Fns:=lk [(15,T15.sp)]
theorem tb86_ok:FnsOk Tryz.prog tb86:= .cons f15 .nil
theorem tk86:tb86 15=some T15.sp:=rfl
section
attribute [local go_sem] tk86 Tryz.results86
theorem f86:FnFact Tryz.prog 86 T86.sp:=by
 refine valid_m ty_ok tb86_ok Tryz.func86 rfl Tryz.ntmps86 fun ⟨x1,x2,x0,x3,a1⟩ r hr=>⟨nL rfl,fun stop S=> ?_⟩
 replace hr:r86 x1 x2 x0 x3 a1=some r:=hr
 unfold r86 at hr
 refine S.gx [] ?_
 exact D0 hr
end
def b51_1 (x0 x1:Int) (x2:L_II) (x3:L_LIIE) (a1:L_I):Bd Int (Int×Int):=fun s1=>
 if (decide (s1<(a1.length:Int)))=true then
  if 0≤s1∧s1<(a1.length:Int) then
   bindC (r86 x0 x1 x2 x3 (a1.getD s1.toNat default)) fun v1=>
    if (!v1)=true then
     .out (some (s1,2))
     else .next (IntKind.i64.wrap (s1+1))
   else .out none
  else .out (some (0,0))
def r51 (x0 x1:Int) (x2:L_II) (x3:L_LIIE) (a1:L_I):Option (Int×Int):=
 if ((a1.length:Int) != x0)=true then
  some (0,10)
  else iterC (b51_1 x0 x1 x2 x3 a1) 1000000000 0
def T51:=qT27 qu4 false r51
attribute [go_sem] T51
def tb51:Fns:=lk [(86,T86.sp)]
theorem tb51_ok:FnsOk Tryz.prog tb51:= .cons f86 .nil
theorem tk51:tb51 86=some T86.sp:=rfl
section
attribute [local go_sem] tk51 Tryz.results51
theorem f51:FnFact Tryz.prog 51 T51.sp:=by
 refine valid_m ty_ok tb51_ok Tryz.func51 rfl Tryz.ntmps51 fun ⟨x0,x1,x2,x3,a1⟩ r hr=>⟨nL rfl,fun stop S=> ?_⟩
 replace hr:r51 x0 x1 x2 x3 a1=some r:=hr
 unfold r51 at hr
 refine S.gx [] ?_
 refine gr ?_
 refine iW hr (fun hc hr=>D0 hr) fun hc hr=> ?_
 refine gr ?_
 refine S.sees [1,2,6] [(2,2)] [] ?_ (Stop.iter S (fun s1=>⟨[(1,.c (.d (encF 1 d_I a1))),(2,.c (.ref 2 0)),(6,.c (.d (.int .i64 s1)))],[(2,[.d (.int .i64 x0),.d (.int .i64 x1),.d (encF 2 d_II x2),.d (encF 1 d_LIIE x3)])],[]⟩) (b51_1 x0 x1 x2 x3 a1) (fun q=>q=r) hr rfl ?_)
 ·exact lf
 ·intro s1 hr
  unfold b51_1 at hr
  refine S.gx [] ?_
  exact D1 (S.ss [1,2,6] [(2,2)] []) hr
end
def b94_1 (x0:Int) (x1 x2:L_I):Bd Int (Int×Int):=fun s1=>
 if (decide (s1<x0))=true then
  if 0≤s1∧s1<(x1.length:Int) then
   if 0≤s1∧s1<(x2.length:Int) then
    if (decide ((x1.getD s1.toNat default)>(x2.getD s1.toNat default)))=true then
     .out (some (s1,9))
     else .next (IntKind.i64.wrap (s1+1))
    else .out none
   else .out none
  else .out (some (0,0))
def r94 (x0 x3:Int) (x4:L_II) (x5:L_LIIE) (x1 x2:L_I):Option (Int×Int):=
 (r51 x0 x3 x4 x5 x1).bind fun v1=>
  if (v1.2 != 0)=true then
   some (v1.1,v1.2)
   else (r51 x0 x3 x4 x5 x2).bind fun v2=>
    if (v2.2 != 0)=true then
     some (v2.1,v2.2)
     else iterC (b94_1 x0 x1 x2) 1000000000 0
def T94:=qT18 qu4 false r94
attribute [go_sem] T94
def tb94:Fns:=lk [(51,T51.sp)]
theorem tb94_ok:FnsOk Tryz.prog tb94:= .cons f51 .nil
theorem tk94:tb94 51=some T51.sp:=rfl
section
attribute [local go_sem] tk94 Tryz.results94
theorem f94:FnFact Tryz.prog 94 T94.sp:=by
 refine valid_m ty_ok tb94_ok Tryz.func94 rfl Tryz.ntmps94 fun ⟨x0,x3,x4,x5,x1,x2⟩ r hr=>⟨nL rfl,fun stop S=> ?_⟩
 replace hr:r94 x0 x3 x4 x5 x1 x2=some r:=hr
 unfold r94 at hr
 refine S.gx [] ?_
 obtain ⟨v1,hv1,hr⟩:=of_bind0 hr
 refine gb hv1 ?_
 refine iW hr (fun hc hr=>D0 hr) fun hc hr=> ?_
 obtain ⟨v2,hv2,hr⟩:=of_bind0 hr
 refine gb hv2 ?_
 refine iW hr (fun hc hr=>D0 hr) fun hc hr=> ?_
 refine gr ?_
 refine S.sees [2,3,10] [(2,2),(3,3)] [] ?_ (Stop.iter S (fun s1=>⟨[(2,.c (.ref 2 0)),(3,.c (.ref 3 0)),(10,.c (.d (.int .i64 s1)))],[(2,[.d (.int .i64 x0),.d (.int .i64 x3),.d (encF 2 d_II x4),.d (encF 1 d_LIIE x5)]),(3,[.d (encF 1 d_I x1),.d (encF 1 d_I x2)])],[]⟩) (b94_1 x0 x1 x2) (fun q=>q=r) hr rfl ?_)
 ·exact lf
 ·intro s1 hr
  unfold b94_1 at hr
  refine S.gx [] ?_
  exact D1 (S.ss [2,3,10] [(2,2),(3,3)] []) hr
end
def r59 (x0 x1:Int) (x2:L_II) (x3:L_LIIE) (x4 x5:L_I):Option (Int):=
 (r50 x0 x1 x2 x3).bind fun v1=>
  if (v1 != 0)=true then
   some v1
   else (r94 x0 x1 x2 x3 x4 x5).bind fun v2=>
    some v2.2
def T59:=qT18 qu3 false r59
attribute [go_sem] T59
def tb59:Fns:=lk [(50,T50.sp),(94,T94.sp)]
theorem tb59_ok:FnsOk Tryz.prog tb59:= .cons f50 (.cons f94 .nil)
theorem tk59:tb59 50=some T50.sp∧tb59 94=some T94.sp:=⟨rfl,rfl⟩
section
attribute [local go_sem] tk59 Tryz.results59
theorem f59:FnFact Tryz.prog 59 T59.sp:=by
 refine valid_m ty_ok tb59_ok Tryz.func59 rfl Tryz.ntmps59 fun ⟨x0,x1,x2,x3,x4,x5⟩ r hr=>⟨nL rfl,fun stop S=> ?_⟩
 replace hr:r59 x0 x1 x2 x3 x4 x5=some r:=hr
 unfold r59 at hr
 refine S.gx [] ?_
 exact D0 hr
end
def r30 (x1 x2:Int) (x3:L_II) (x0:L_LIIE) (x4 x5:L_I) (x6:L_II) (x7 x8 a1:Int):Option (Bool):=
 (r15 a1 0 (IntKind.i64.wrap ((x0.length:Int) - 1))).bind fun v1=>
  some v1
def T30:=qT44 qu2 false r30
attribute [go_sem] T30
def tb30:Fns:=lk [(15,T15.sp)]
theorem tb30_ok:FnsOk Tryz.prog tb30:= .cons f15 .nil
theorem tk30:tb30 15=some T15.sp:=rfl
section
attribute [local go_sem] tk30 Tryz.results30
theorem f30:FnFact Tryz.prog 30 T30.sp:=by
 refine valid_m ty_ok tb30_ok Tryz.func30 rfl Tryz.ntmps30 fun ⟨x1,x2,x3,x0,x4,x5,x6,x7,x8,a1⟩ r hr=>⟨nL rfl,fun stop S=> ?_⟩
 replace hr:r30 x1 x2 x3 x0 x4 x5 x6 x7 x8 a1=some r:=hr
 unfold r30 at hr
 refine S.gx [] ?_
 exact D0 hr
end
def b29_1 (x1 x2:Int) (x3:L_II) (x4:L_LIIE) (x5 x6:L_I) (x0:L_II) (x7 x8:Int):Bd Int (Int×Int):=fun s1=>
 if (decide (s1<(x0.length:Int)))=true then
  if 0≤s1∧s1<(x0.length:Int) then
   bindC (r15 ((x0.getD s1.toNat default).1) 0 1000) fun v3=>
    if (!(!v3))=true→(r15 ((x0.getD s1.toNat default).2) 0 1000).isSome=true then
     if ((!v3) || (!((r15 ((x0.getD s1.toNat default).2) 0 1000).getD default)))=true then
      .out (some (s1,2))
      else if (decide (((x0.getD s1.toNat default).1)>((x0.getD s1.toNat default).2)))=true then
       .out (some (s1,9))
       else .next (IntKind.i64.wrap (s1+1))
     else .out none
   else .out none
  else .out ((r30 x1 x2 x3 x4 x5 x6 x0 x7 x8 x7).bind fun v6=>
   if (!v6)=true then
    some (0,6)
    else (r15 x8 0 4).bind fun v7=>
     if (!v7)=true then
      some (0,2)
      else some (0,0))
def r29 (x1 x2:Int) (x3:L_II) (x4:L_LIIE) (x5 x6:L_I) (x0:L_II) (x7 x8:Int):Option (Int×Int):=
 (r50 x1 x2 x3 x4).bind fun v1=>
  if (v1 != 0)=true then
   some (0,v1)
   else (r59 x1 x2 x3 x4 x5 x6).bind fun v2=>
    if (v2 != 0)=true then
     some (0,v2)
     else if ((x0.length:Int) != x1)=true then
      some (0,10)
      else iterC (b29_1 x1 x2 x3 x4 x5 x6 x0 x7 x8) 1000000000 0
def T29:=qT19 qu4 false r29
attribute [go_sem] T29
def tb29:Fns:=lk [(15,T15.sp),(30,T30.sp),(50,T50.sp),(59,T59.sp)]
theorem tb29_ok:FnsOk Tryz.prog tb29:= .cons f15 (.cons f30 (.cons f50 (.cons f59 .nil)))
theorem tk29:tb29 15=some T15.sp∧tb29 30=some T30.sp∧tb29 50=some T50.sp∧tb29 59=some T59.sp:=⟨rfl,rfl,rfl,rfl⟩
section
attribute [local go_sem] tk29 Tryz.results29
theorem f29:FnFact Tryz.prog 29 T29.sp:=by
 refine valid_m ty_ok tb29_ok Tryz.func29 rfl Tryz.ntmps29 fun ⟨x1,x2,x3,x4,x5,x6,x0,x7,x8⟩ r hr=>⟨nL rfl,fun stop S=> ?_⟩
 replace hr:r29 x1 x2 x3 x4 x5 x6 x0 x7 x8=some r:=hr
 unfold r29 at hr
 refine S.gx [] ?_
 obtain ⟨v1,hv1,hr⟩:=of_bind0 hr
 refine gb hv1 ?_
 refine iW hr (fun hc hr=>D0 hr) fun hc hr=> ?_
 obtain ⟨v2,hv2,hr⟩:=of_bind0 hr
 refine gb hv2 ?_
 refine iW hr (fun hc hr=>D0 hr) fun hc hr=> ?_
 refine gr ?_
 refine iW hr (fun hc hr=>D0 hr) fun hc hr=> ?_
 refine gr ?_
 refine S.sees [1,6] [(1,1)] [] ?_ (Stop.iter S (fun s1=>⟨[(1,.c (.ref 1 0)),(6,.c (.d (.int .i64 s1)))],[(1,[.d (.int .i64 x1),.d (.int .i64 x2),.d (encF 2 d_II x3),.d (encF 1 d_LIIE x4),.d (encF 1 d_I x5),.d (encF 1 d_I x6),.d (encF 2 d_II x0),.d (.int .i64 x7),.d (.int .i64 x8)])],[]⟩) (b29_1 x1 x2 x3 x4 x5 x6 x0 x7 x8) (fun q=>q=r) hr rfl ?_)
 ·exact lf
 ·intro s1 hr
  unfold b29_1 at hr
  refine S.gx [] ?_
  refine gr ?_
  refine iW1 hr (fun hc hr=> ?_) fun hc hr=>D0 hr
  obtain ⟨hg4,hr⟩:=of_guard1 hr
  obtain ⟨v3,hv3,hr⟩:=of_bind1 hr
  obtain ⟨hg5,hr⟩:=of_guard1 hr
  try simp only [hv3,oG,oI,true_and,and_assoc]
  repeat (first | refine gG hg5 ?_ | refine gA ?_ | refine gB ?_)
  exact D1 (S.ss [1,6] [(1,1)] []) hr
end
def r6 (x0 x1:Int) (x2:L_II) (x3:L_LIIE) (x4 x5:L_I) (x6:L_II) (x7 x8:Int):Option (Int):=
 (r29 x0 x1 x2 x3 x4 x5 x6 x7 x8).bind fun v1=>
  some v1.2
def T6:=qT19 qu3 false r6
attribute [go_sem] T6
def tb6:Fns:=lk [(29,T29.sp)]
theorem tb6_ok:FnsOk Tryz.prog tb6:= .cons f29 .nil
theorem tk6:tb6 29=some T29.sp:=rfl
section
attribute [local go_sem] tk6 Tryz.results6
theorem f6:FnFact Tryz.prog 6 T6.sp:=by
 refine valid_m ty_ok tb6_ok Tryz.func6 rfl Tryz.ntmps6 fun ⟨x0,x1,x2,x3,x4,x5,x6,x7,x8⟩ r hr=>⟨nL rfl,fun stop S=> ?_⟩
 replace hr:r6 x0 x1 x2 x3 x4 x5 x6 x7 x8=some r:=hr
 unfold r6 at hr
 refine S.gx [] ?_
 exact D0 hr
end
def b7_1 (x0 x1:Int) (x2:L_II) (x3:L_LIIE) (x4 x5:L_I) (x6:L_II) (x7 x8:Int) (a1:L_II):Bd Int Int:=fun s1=>
 if (decide (s1<(a1.length:Int)))=true then
  if 0≤s1∧s1<(a1.length:Int) then
   bindC (r15 ((a1.getD s1.toNat default).1) 0 10000) fun v1=>
    if (!v1)=true then
     .out (some 2)
     else if 0≤s1∧s1<(a1.length:Int) then
      bindC (r30 x0 x1 x2 x3 x4 x5 x6 x7 x8 ((a1.getD s1.toNat default).2)) fun v2=>
       if (!v2)=true then
        .out (some 6)
        else .next (IntKind.i64.wrap (s1+1))
      else .out none
   else .out none
  else .out (some 0)
def r7 (x0 x1:Int) (x2:L_II) (x3:L_LIIE) (x4 x5:L_I) (x6:L_II) (x7 x8:Int) (a1:L_II):Option (Int):=
 if (decide ((a1.length:Int)>200))=true then
  some 8
  else iterC (b7_1 x0 x1 x2 x3 x4 x5 x6 x7 x8 a1) 1000000000 0
def T7:=qT45 qu3 false r7
attribute [go_sem] T7
def tb7:Fns:=lk [(15,T15.sp),(30,T30.sp)]
theorem tb7_ok:FnsOk Tryz.prog tb7:= .cons f15 (.cons f30 .nil)
theorem tk7:tb7 15=some T15.sp∧tb7 30=some T30.sp:=⟨rfl,rfl⟩
section
attribute [local go_sem] tk7 Tryz.results7
theorem f7:FnFact Tryz.prog 7 T7.sp:=by
 refine valid_m ty_ok tb7_ok Tryz.func7 rfl Tryz.ntmps7 fun ⟨x0,x1,x2,x3,x4,x5,x6,x7,x8,a1⟩ r hr=>⟨nL rfl,fun stop S=> ?_⟩
 replace hr:r7 x0 x1 x2 x3 x4 x5 x6 x7 x8 a1=some r:=hr
 unfold r7 at hr
 refine S.gx [] ?_
 refine gr ?_
 refine iW hr (fun hc hr=>D0 hr) fun hc hr=> ?_
 refine gr ?_
 refine S.sees [1,2,5] [(2,2)] [] ?_ (Stop.iter S (fun s1=>⟨[(1,.c (.d (encF 2 d_II a1))),(2,.c (.ref 2 0)),(5,.c (.d (.int .i64 s1)))],[(2,[.d (.int .i64 x0),.d (.int .i64 x1),.d (encF 2 d_II x2),.d (encF 1 d_LIIE x3),.d (encF 1 d_I x4),.d (encF 1 d_I x5),.d (encF 2 d_II x6),.d (.int .i64 x7),.d (.int .i64 x8)])],[]⟩) (b7_1 x0 x1 x2 x3 x4 x5 x6 x7 x8 a1) (fun q=>q=r) hr rfl ?_)
 ·exact lf
 ·intro s1 hr
  unfold b7_1 at hr
  refine S.gx [] ?_
  exact D1 (S.ss [1,2,5] [(2,2)] []) hr
end
def r11 (a0:L_II):Option (L_II):=
 if (0+a0.length)*16≤140737488355328∧0+a0.length≤9223372036854775807 then
  some a0
  else none
def T11:=qT5 qu5 false r11
attribute [go_sem] T11
def tb11:Fns:=lk []
theorem tb11_ok:FnsOk Tryz.prog tb11:=FnsOk.nil
section
attribute [local go_sem] Tryz.results11
theorem f11:FnFact Tryz.prog 11 T11.sp:=by
 refine valid_m ty_ok tb11_ok Tryz.func11 rfl Tryz.ntmps11 fun a0 r hr=>⟨nL rfl,fun stop S=> ?_⟩
 replace hr:r11 a0=some r:=hr
 unfold r11 at hr
 refine S.gx [] ?_
 exact D0 hr
end
def r97 (a0 a1:ByteArray):Option (Int):=
 indexV a0 a1
def T97:=qT46 qu3 false r97
attribute [go_sem] T97
theorem f97:FnFact Tryz.prog 97 T97.sp:=⟨⟨Tryz.f97,Tryz.func97,by decide,rfl⟩,lib_Index (fun _=>rfl) (fun _=>rfl) (fun _=>rfl) rfl⟩
def r98 (a0 a1:ByteArray):Option (Int):=
 indexV a0 a1
def T98:=qT46 qu3 false r98
attribute [go_sem] T98
theorem f98:FnFact Tryz.prog 98 T98.sp:=⟨⟨Tryz.f98,Tryz.func98,by decide,rfl⟩,lib_IndexL (fun _=>rfl) (fun _=>rfl) (fun _=>rfl) rfl⟩
def r61 (a0 a1:ByteArray):Option (ByteArray×ByteArray×Bool):=
 (r98 a0 a1).bind fun v1=>
  if (decide (v1≥0))=true then
   if 0≤0∧0≤v1∧v1≤(a0.size:Int) then
    if 0≤IntKind.i64.wrap (v1+(a1.size:Int))∧IntKind.i64.wrap (v1+(a1.size:Int))≤(a0.size:Int)∧(a0.size:Int)≤(a0.size:Int) then
     some (a0.extract 0 v1.toNat,a0.extract (IntKind.i64.wrap (v1+(a1.size:Int))).toNat a0.size,true)
     else none
    else none
   else some (a0,(⟨#[]⟩:ByteArray),false)
def T61:=qT46 qu22 false r61
attribute [go_sem] T61
def tb61:Fns:=lk [(98,T98.sp)]
theorem tb61_ok:FnsOk Tryz.prog tb61:= .cons f98 .nil
theorem tk61:tb61 98=some T98.sp:=rfl
section
attribute [local go_sem] tk61 Tryz.results61
theorem f61:FnFact Tryz.prog 61 T61.sp:=by
 refine valid_m ty_ok tb61_ok Tryz.func61 rfl Tryz.ntmps61 fun ⟨a0,a1⟩ r hr=>⟨nL rfl,fun stop S=> ?_⟩
 replace hr:r61 a0 a1=some r:=hr
 unfold r61 at hr
 refine S.gx [] ?_
 exact D0 hr
end
def r32 (a0 a1:ByteArray):Option (ByteArray×ByteArray×Bool):=
 (r61 a0 a1).bind fun v1=>
  some (v1.1,v1.2.1,v1.2.2)
def T32:=qT46 qu22 false r32
attribute [go_sem] T32
def tb32:Fns:=lk [(61,T61.sp)]
theorem tb32_ok:FnsOk Tryz.prog tb32:= .cons f61 .nil
theorem tk32:tb32 61=some T61.sp:=rfl
section
attribute [local go_sem] tk32 Tryz.results32
theorem f32:FnFact Tryz.prog 32 T32.sp:=by
 refine valid_m ty_ok tb32_ok Tryz.func32 rfl Tryz.ntmps32 fun ⟨a0,a1⟩ r hr=>⟨nL rfl,fun stop S=> ?_⟩
 replace hr:r32 a0 a1=some r:=hr
 unfold r32 at hr
 refine S.gx [] ?_
 exact D0 hr
end
end Go.Proofs.YtlnlpncchgimgaaGreatDoor

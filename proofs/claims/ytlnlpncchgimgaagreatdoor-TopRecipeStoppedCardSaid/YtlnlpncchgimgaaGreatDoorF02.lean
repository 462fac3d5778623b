/- Contracts of functions, written by wip/dec. -/
import Derived.Test.YtlnlpncchgimgaaGreatDoorF00
import Derived.Test.YtlnlpncchgimgaaGreatDoorF01
set_option linter.unusedVariables false
set_option linter.unusedSimpArgs false
set_option linter.constructorNameAsVariable false
set_option maxHeartbeats 4000000
set_option maxRecDepth 20000
namespace Go.Proofs.YtlnlpncchgimgaaGreatDoor
open Go.Abs
section
variable {β:Type} [Inhabited β] (u:β→List RV) (al:Bool)
def qw15 (a0:L_I) (a1 a2:Int) (a3:L_II) (a4:L_LIIE) (a5:L_II) (a6:L_LIIE):List Arg:=[.c (encF 1 d_I a0),.clo 109 [[.int .i64 a1,.int .i64 a2,encF 2 d_II a3,encF 1 d_LIIE a4,encF 2 d_II a5,encF 1 d_LIIE a6]]]
def qd15:List Arg→L_I×Int×Int×L_II×L_LIIE×L_II×L_LIIE
 | [.c c0,.clo _ [[c1,c2,c3,c4,c5,c6]]]=>(decF g_I c0,dInt c1,dInt c2,decF g_II c3,decF g_LIIE c4,decF g_II c5,decF g_LIIE c6)
 | _=>default
def qT15 (r:L_I→Int→Int→L_II→L_LIIE→L_II→L_LIIE→Option β):=mkT (u7 qw15) qd15 (u7 r) u al
attribute [go_sem] qw15 qd15 qT15
def qw16 (a0 a1:Int) (a2:L_II) (a3:L_LIIE) (a4:L_II) (a5:L_LIIE) (a6:L_I):List Arg:=[.agg [.int .i64 a0,.int .i64 a1,encF 2 d_II a2,encF 1 d_LIIE a3,encF 2 d_II a4,encF 1 d_LIIE a5],.c (encF 1 d_I a6)]
def qd16:List Arg→Int×Int×L_II×L_LIIE×L_II×L_LIIE×L_I
 | [.agg [c0,c1,c2,c3,c4,c5],.c c6]=>(dInt c0,dInt c1,decF g_II c2,decF g_LIIE c3,decF g_II c4,decF g_LIIE c5,decF g_I c6)
 | _=>default
def qT16 (r:Int→Int→L_II→L_LIIE→L_II→L_LIIE→L_I→Option β):=mkT (u7 qw16) qd16 (u7 r) u al
attribute [go_sem] qw16 qd16 qT16
def qw17 (a0 a1:Int) (a2:L_II) (a3:L_LIIE) (a4:L_II) (a5:L_LIIE) (a6 a7:L_I):List Arg:=[.agg [.int .i64 a0,.int .i64 a1,encF 2 d_II a2,encF 1 d_LIIE a3,encF 2 d_II a4,encF 1 d_LIIE a5],.agg [encF 1 d_I a6,encF 1 d_I a7]]
def qd17:List Arg→Int×Int×L_II×L_LIIE×L_II×L_LIIE×L_I×L_I
 | [.agg [c0,c1,c2,c3,c4,c5],.agg [c6,c7]]=>(dInt c0,dInt c1,decF g_II c2,decF g_LIIE c3,decF g_II c4,decF g_LIIE c5,decF g_I c6,decF g_I c7)
 | _=>default
def qT17 (r:Int→Int→L_II→L_LIIE→L_II→L_LIIE→L_I→L_I→Option β):=mkT (u8 qw17) qd17 (u8 r) u al
attribute [go_sem] qw17 qd17 qT17
end
def b107_1 (a0:L_II):Bd ((List (Int×Int))×Int) L_II:=fun s1=>
 if (decide (s1.2<(a0.length:Int)))=true then
  if 0≤s1.2∧s1.2<(a0.length:Int) then
   if (s1.1.length+1)*16≤140737488355328∧s1.1.length+1≤9223372036854775807 then
    .next (s1.1++[((a0.getD s1.2.toNat default).1,(a0.getD s1.2.toNat default).2)],IntKind.i64.wrap (s1.2+1))
    else .out none
   else .out none
  else .out (some s1.1)
def r107 (a0:L_II):Option (L_II):=
 iterC (b107_1 a0) 1000000000 ([],0)
def T107:=qT5 qu5 false r107
attribute [go_sem] T107
def tb107:Fns:=lk []
theorem tb107_ok:FnsOk Tryz.prog tb107:=FnsOk.nil
section
attribute [local go_sem] Tryz.results107
theorem f107:FnFact Tryz.prog 107 T107.sp:=by
 refine valid_m ty_ok tb107_ok Tryz.func107 rfl Tryz.ntmps107 fun a0 r hr=>⟨nL rfl,fun stop S=> ?_⟩
 replace hr:r107 a0=some r:=hr
 unfold r107 at hr
 refine S.gx [] ?_
 refine gr ?_
 refine S.own0 3 1000300 2 rfl rfl ?_
 refine S.sees [3,6,7,8] [] [(1000300,1000300)] ?_ (Stop.iter S (fun s1=>⟨[(3,.c (.own 1000300)),(6,.c (.d (encF 2 d_II a0))),(7,.c (.d (.int .i64 (a0.length:Int)))),(8,.c (.d (.int .i64 s1.2)))],[],[(1000300,.owned (encF 2 d_II s1.1))]⟩) (b107_1 a0) (fun q=>q=r) hr rfl ?_)
 ·exact lf
 ·intro s1 hr
  unfold b107_1 at hr
  refine S.gx [] ?_
  exact D1 (S.ss [3,6,7,8] [] [(19,1000300)]) hr
end
def b73_1 (x2 x3:Int) (x1:L_II) (x0:L_LIIE) (v2:L_II):Bd (Int×(List (L_II))) (Int×Int×L_II×L_LIIE×L_II×L_LIIE×Int):=fun s1=>
 if (decide (s1.1<(x0.length:Int)))=true then
  if 0≤s1.1∧s1.1<(x0.length:Int) then
   bindC (r108 (x0.getD s1.1.toNat default)) fun v3=>
    if (s1.2.length+1)*24≤140737488355328∧s1.2.length+1≤9223372036854775807 then
     .next (IntKind.i64.wrap (s1.1+1),s1.2++[v3])
     else .out none
   else .out none
  else .out (some (x2,x3,x1,x0,v2,s1.2,0))
def r73 (x2 x3:Int) (x1:L_II) (x0:L_LIIE):Option (Int×Int×L_II×L_LIIE×L_II×L_LIIE×Int):=
 (r106 x2 x3 x1 x0).bind fun v1=>
  if (v1.2 != 0)=true then
   some (0,0,[],[],[],[],v1.2)
   else (r107 x1).bind fun v2=>
    iterC (b73_1 x2 x3 x1 x0 v2) 1000000000 (0,[])
def T73:=qT12 qu8 true r73
attribute [go_sem] T73
def tb73:Fns:=lk [(106,T106.sp),(107,T107.sp),(108,T108.sp)]
theorem tb73_ok:FnsOk Tryz.prog tb73:= .cons f106 (.cons f107 (.cons f108 .nil))
theorem tk73:tb73 106=some T106.sp∧tb73 107=some T107.sp∧tb73 108=some T108.sp:=⟨rfl,rfl,rfl⟩
section
attribute [local go_sem] tk73 Tryz.results73
theorem f73:FnFact Tryz.prog 73 T73.sp:=by
 refine valid_m ty_ok tb73_ok Tryz.func73 rfl Tryz.ntmps73 fun ⟨x2,x3,x1,x0⟩ r hr=>⟨nL rfl,fun stop S=> ?_⟩
 replace hr:r73 x2 x3 x1 x0=some r:=hr
 unfold r73 at hr
 refine S.gx [] ?_
 obtain ⟨v1,hv1,hr⟩:=of_bind0 hr
 refine gb hv1 ?_
 refine iW hr (fun hc hr=>D0 hr) fun hc hr=> ?_
 obtain ⟨v2,hv2,hr⟩:=of_bind0 hr
 refine gb hv2 ?_
 refine S.own0b 6 5 2000605 1 rfl rfl (nL rfl) rfl ?_
 refine S.sees [2,6,24,25,26] [(2,2),(6,6)] [(2000605,2000605),(21,21)] ?_ (Stop.iter S (fun s1=>⟨[(2,.c (.ref 2 0)),(6,.c (.ref 6 0)),(24,.c (.d (encF 1 d_LIIE x0))),(25,.c (.d (.int .i64 (x0.length:Int)))),(26,.c (.d (.int .i64 s1.1)))],[(2,[.d (.int .i64 0),.d (.int .i64 0),.nils,.nils,.nils,.nils]),(6,[.d (.int .i64 x2),.d (.int .i64 x3),.d (encF 2 d_II x1),.d (encF 1 d_LIIE x0),.own 21,.own 2000605])],[(2000605,.owned (encF 1 d_LIIE s1.2)),(21,.owned (encF 2 d_II v2))]⟩) (b73_1 x2 x3 x1 x0 v2) (fun q=>q=r) hr rfl ?_)
 ·exact lf
 ·intro s1 hr
  unfold b73_1 at hr
  refine S.gx [] ?_
  exact D1 (S.ss [2,6,24,25,26] [(2,2),(6,6)] [(35,2000605),(21,21)]) hr
end
def r84 (x1 x2:Int) (x3:L_II) (x4:L_LIIE) (x0:L_II) (x5:L_LIIE) (a1:Int):Option (Bool):=
 if 0≤0∧0<(x0.length:Int) then
  if 0≤IntKind.i64.wrap ((x0.length:Int) - 1)∧IntKind.i64.wrap ((x0.length:Int) - 1)<(x0.length:Int) then
   (r110 a1 ((x0.getD 0 default).1) ((x0.getD (IntKind.i64.wrap ((x0.length:Int) - 1)).toNat default).1)).bind fun v1=>
    some v1
   else none
  else none
def T84:=qT13 qu2 false r84
attribute [go_sem] T84
def tb84:Fns:=lk [(110,T110.sp)]
theorem tb84_ok:FnsOk Tryz.prog tb84:= .cons f110 .nil
theorem tk84:tb84 110=some T110.sp:=rfl
section
attribute [local go_sem] tk84 Tryz.results84
theorem f84:FnFact Tryz.prog 84 T84.sp:=by
 refine valid_m ty_ok tb84_ok Tryz.func84 rfl Tryz.ntmps84 fun ⟨x1,x2,x3,x4,x0,x5,a1⟩ r hr=>⟨nL rfl,fun stop S=> ?_⟩
 replace hr:r84 x1 x2 x3 x4 x0 x5 a1=some r:=hr
 unfold r84 at hr
 refine S.gx [] ?_
 exact D0 hr
end
def r109 (a0 x0 x1:Int) (x2:L_II) (x3:L_LIIE) (x4:L_II) (x5:L_LIIE):Option (Bool):=
 (r84 x0 x1 x2 x3 x4 x5 a0).bind fun v1=>
  some (!v1)
def T109:=qT14 qu2 false r109
attribute [go_sem] T109
def tb109:Fns:=lk [(84,T84.sp)]
theorem tb109_ok:FnsOk Tryz.prog tb109:= .cons f84 .nil
theorem tk109:tb109 84=some T84.sp:=rfl
section
attribute [local go_sem] tk109 Tryz.results109
theorem f109:FnFact Tryz.prog 109 T109.sp:=by
 refine valid_m ty_ok tb109_ok Tryz.func109 rfl Tryz.ntmps109 fun ⟨a0,x0,x1,x2,x3,x4,x5⟩ r hr=>⟨nL rfl,fun stop S=> ?_⟩
 replace hr:r109 a0 x0 x1 x2 x3 x4 x5=some r:=hr
 unfold r109 at hr
 refine S.gx [] ?_
 exact D0 hr
end
def b104_1 (a0:L_I) (x0 x1:Int) (x2:L_II) (x3:L_LIIE) (x4:L_II) (x5:L_LIIE):Bd Int Int:=fun s1=>
 if (decide (s1<(a0.length:Int)))=true then
  if 0≤s1∧s1<(a0.length:Int) then
   bindC (r109 (a0.getD s1.toNat default) x0 x1 x2 x3 x4 x5) fun v1=>
    if v1=true then
     .out (some s1)
     else .next (IntKind.i64.wrap (s1+1))
   else .out none
  else .out (some (-1))
def r104 (a0:L_I) (x0 x1:Int) (x2:L_II) (x3:L_LIIE) (x4:L_II) (x5:L_LIIE):Option (Int):=
 iterC (b104_1 a0 x0 x1 x2 x3 x4 x5) 1000000000 0
def T104:=qT15 qu3 false r104
attribute [go_sem] T104
def tb104:Fns:=lk [(109,T109.sp)]
theorem tb104_ok:FnsOk Tryz.prog tb104:= .cons f109 .nil
theorem tk104:tb104 109=some T109.sp:=rfl
section
attribute [local go_sem] tk104 Tryz.results104
theorem f104:FnFact Tryz.prog 104 T104.sp:=by
 refine valid_m ty_ok tb104_ok Tryz.func104 rfl Tryz.ntmps104 fun ⟨a0,x0,x1,x2,x3,x4,x5⟩ r hr=>⟨nL rfl,fun stop S=> ?_⟩
 replace hr:r104 a0 x0 x1 x2 x3 x4 x5=some r:=hr
 unfold r104 at hr
 refine S.gx [] ?_
 refine gr ?_
 refine S.sees [0,1,7,8] [] [] ?_ (Stop.iter S (fun s1=>⟨[(0,.c (.d (encF 1 d_I a0))),(1,.c (.clo 109 [.sptr [.int .i64 x0,.int .i64 x1,encF 2 d_II x2,encF 1 d_LIIE x3,encF 2 d_II x4,encF 1 d_LIIE x5] 0])),(7,.c (.d (.int .i64 (a0.length:Int)))),(8,.c (.d (.int .i64 s1)))],[],[]⟩) (b104_1 a0 x0 x1 x2 x3 x4 x5) (fun q=>q=r) hr rfl ?_)
 ·exact lf
 ·intro s1 hr
  unfold b104_1 at hr
  refine S.gx [] ?_
  exact D1 (S.ss [0,1,7,8] [] []) hr
end
def r74 (x0 x1:Int) (x2:L_II) (x3:L_LIIE) (x4:L_II) (x5:L_LIIE) (a1:L_I):Option (Int×Int):=
 if ((a1.length:Int) != x0)=true then
  some (0,10)
  else (r104 a1 x0 x1 x2 x3 x4 x5).bind fun v1=>
   if (decide (v1≥0))=true then
    some (v1,2)
    else some (0,0)
def T74:=qT16 qu4 false r74
attribute [go_sem] T74
def tb74:Fns:=lk [(104,T104.sp)]
theorem tb74_ok:FnsOk Tryz.prog tb74:= .cons f104 .nil
theorem tk74:tb74 104=some T104.sp:=rfl
section
attribute [local go_sem] tk74 Tryz.results74
theorem f74:FnFact Tryz.prog 74 T74.sp:=by
 refine valid_m ty_ok tb74_ok Tryz.func74 rfl Tryz.ntmps74 fun ⟨x0,x1,x2,x3,x4,x5,a1⟩ r hr=>⟨nL rfl,fun stop S=> ?_⟩
 replace hr:r74 x0 x1 x2 x3 x4 x5 a1=some r:=hr
 unfold r74 at hr
 refine S.gx [] ?_
 exact D0 hr
end
def b146_1 (x0 x1:L_I):Bd Int (Int×Int):=fun s1=>
 if (decide (s1<(x0.length:Int)))=true then
  if 0≤s1∧s1<(x0.length:Int) then
   if 0≤s1∧s1<(x1.length:Int) then
    if (decide ((x0.getD s1.toNat default)>(x1.getD s1.toNat default)))=true then
     .out (some (s1,9))
     else .next (IntKind.i64.wrap (s1+1))
    else .out none
   else .out none
  else .out (some (0,0))
def r146 (x2 x3:Int) (x4:L_II) (x5:L_LIIE) (x6:L_II) (x7:L_LIIE) (x0 x1:L_I):Option (Int×Int):=
 (r74 x2 x3 x4 x5 x6 x7 x0).bind fun v1=>
  if (v1.2 != 0)=true then
   some (v1.1,v1.2)
   else (r74 x2 x3 x4 x5 x6 x7 x1).bind fun v2=>
    if (v2.2 != 0)=true then
     some (v2.1,v2.2)
     else iterC (b146_1 x0 x1) 1000000000 0
def T146:=qT17 qu4 false r146
attribute [go_sem] T146
def tb146:Fns:=lk [(74,T74.sp)]
theorem tb146_ok:FnsOk Tryz.prog tb146:= .cons f74 .nil
theorem tk146:tb146 74=some T74.sp:=rfl
section
attribute [local go_sem] tk146 Tryz.results146
theorem f146:FnFact Tryz.prog 146 T146.sp:=by
 refine valid_m ty_ok tb146_ok Tryz.func146 rfl Tryz.ntmps146 fun ⟨x2,x3,x4,x5,x6,x7,x0,x1⟩ r hr=>⟨nL rfl,fun stop S=> ?_⟩
 replace hr:r146 x2 x3 x4 x5 x6 x7 x0 x1=some r:=hr
 unfold r146 at hr
 refine S.gx [] ?_
 obtain ⟨v1,hv1,hr⟩:=of_bind0 hr
 refine gb hv1 ?_
 refine iW hr (fun hc hr=>D0 hr) fun hc hr=> ?_
 obtain ⟨v2,hv2,hr⟩:=of_bind0 hr
 refine gb hv2 ?_
 refine iW hr (fun hc hr=>D0 hr) fun hc hr=> ?_
 refine gr ?_
 refine S.sees [3,35,36,37] [(3,3)] [] ?_ (Stop.iter S (fun s1=>⟨[(3,.c (.ref 3 0)),(35,.c (.d (encF 1 d_I x0))),(36,.c (.d (.int .i64 (x0.length:Int)))),(37,.c (.d (.int .i64 s1)))],[(3,[.d (encF 1 d_I x0),.d (encF 1 d_I x1)])],[]⟩) (b146_1 x0 x1) (fun q=>q=r) hr rfl ?_)
 ·exact lf
 ·intro s1 hr
  unfold b146_1 at hr
  refine S.gx [] ?_
  exact D1 (S.ss [3,35,36,37] [(3,3)] []) hr
end
def r116 (x0 x1:Int) (x2:L_II) (x3:L_LIIE) (x4 x5:L_I):Option (Int×Int):=
 (r73 x0 x1 x2 x3).bind fun v1=>
  if (v1.2.2.2.2.2.2 != 0)=true then
   some (0,v1.2.2.2.2.2.2)
   else (r146 v1.1 v1.2.1 v1.2.2.1 v1.2.2.2.1 v1.2.2.2.2.1 v1.2.2.2.2.2.1 x4 x5).bind fun v2=>
    some (v2.1,v2.2)
def T116:=qT18 qu4 false r116
attribute [go_sem] T116
def tb116:Fns:=lk [(73,T73.sp),(146,T146.sp)]
theorem tb116_ok:FnsOk Tryz.prog tb116:= .cons f73 (.cons f146 .nil)
theorem tk116:tb116 73=some T73.sp∧tb116 146=some T146.sp:=⟨rfl,rfl⟩
section
attribute [local go_sem] tk116 Tryz.results116
theorem f116:FnFact Tryz.prog 116 T116.sp:=by
 refine valid_m ty_ok tb116_ok Tryz.func116 rfl Tryz.ntmps116 fun ⟨x0,x1,x2,x3,x4,x5⟩ r hr=>⟨nL rfl,fun stop S=> ?_⟩
 replace hr:r116 x0 x1 x2 x3 x4 x5=some r:=hr
 unfold r116 at hr
 refine S.gx [] ?_
 exact D0 hr
end
def r39 (a0:Bool) (a1:Int):Option (Int):=
 if a0=true then
  some 0
  else some a1
def T39:=qT2 qu3 false r39
attribute [go_sem] T39
def tb39:Fns:=lk []
theorem tb39_ok:FnsOk Tryz.prog tb39:=FnsOk.nil
section
attribute [local go_sem] Tryz.results39
theorem f39:FnFact Tryz.prog 39 T39.sp:=by
 refine valid_m ty_ok tb39_ok Tryz.func39 rfl Tryz.ntmps39 fun ⟨a0,a1⟩ r hr=>⟨nL rfl,fun stop S=> ?_⟩
 replace hr:r39 a0 a1=some r:=hr
 unfold r39 at hr
 refine S.gx [] ?_
 exact D0 hr
end
def b38_1 (a0:L_I):Bd Int Int:=fun s1=>
 if (decide (s1<(a0.length:Int)))=true then
  if 0≤s1∧s1<(a0.length:Int) then
   if ((a0.getD s1.toNat default) != 0)=true then
    .out (some (a0.getD s1.toNat default))
    else .next (IntKind.i64.wrap (s1+1))
   else .out none
  else .out (some 0)
def r38 (a0:L_I):Option (Int):=
 iterC (b38_1 a0) 1000000000 0
def T38:=qT3 qu3 false r38
attribute [go_sem] T38
def tb38:Fns:=lk []
theorem tb38_ok:FnsOk Tryz.prog tb38:=FnsOk.nil
section
attribute [local go_sem] Tryz.results38
theorem f38:FnFact Tryz.prog 38 T38.sp:=by
 refine valid_m ty_ok tb38_ok Tryz.func38 rfl Tryz.ntmps38 fun a0 r hr=>⟨nL rfl,fun stop S=> ?_⟩
 replace hr:r38 a0=some r:=hr
 unfold r38 at hr
 refine S.gx [] ?_
 refine gr ?_
 refine S.sees [5,6,7] [] [] ?_ (Stop.iter S (fun s1=>⟨[(5,.c (.d (encF 1 d_I a0))),(6,.c (.d (.int .i64 (a0.length:Int)))),(7,.c (.d (.int .i64 s1)))],[],[]⟩) (b38_1 a0) (fun q=>q=r) hr rfl ?_)
 ·exact lf
 ·intro s1 hr
  unfold b38_1 at hr
  refine S.gx [] ?_
  exact D1 (S.ss [5,6,7] [] []) hr
end
def r37 (a0 a1 a2:Int):Option (Bool):=
 some ((decide (a1≤a0)) && (decide (a0≤a2)))
def T37:=qT1 qu2 false r37
attribute [go_sem] T37
def tb37:Fns:=lk []
theorem tb37_ok:FnsOk Tryz.prog tb37:=FnsOk.nil
section
attribute [local go_sem] Tryz.results37
theorem f37:FnFact Tryz.prog 37 T37.sp:=by
 refine valid_m ty_ok tb37_ok Tryz.func37 rfl Tryz.ntmps37 fun ⟨a0,a1,a2⟩ r hr=>⟨nL rfl,fun stop S=> ?_⟩
 replace hr:r37 a0 a1 a2=some r:=hr
 unfold r37 at hr
 refine S.gx [] ?_
 repeat (first | refine gA ?_ | refine gB ?_)
 exact D0 hr
end
def r117 (a0:Int):Option (Bool):=
 (r37 a0 0 1000).bind fun v1=>
  some v1
def T117:=qT4 qu2 false r117
attribute [go_sem] T117
def tb117:Fns:=lk [(37,T37.sp)]
theorem tb117_ok:FnsOk Tryz.prog tb117:= .cons f37 .nil
theorem tk117:tb117 37=some T37.sp:=rfl
section
attribute [local go_sem] tk117 Tryz.results117
theorem f117:FnFact Tryz.prog 117 T117.sp:=by
 refine valid_m ty_ok tb117_ok Tryz.func117 rfl Tryz.ntmps117 fun a0 r hr=>⟨nL rfl,fun stop S=> ?_⟩
 replace hr:r117 a0=some r:=hr
 unfold r117 at hr
 refine S.gx [] ?_
 exact D0 hr
end
def b87_1 (x1:L_LIIE) (x0:L_II) (x2 x3:Int):Bd Int (Int×Int):=fun s1=>
 if (decide (s1<(x0.length:Int)))=true then
  if 0≤s1∧s1<(x0.length:Int) then
   bindC (r117 ((x0.getD s1.toNat default).1)) fun v5=>
    if v5=true→(r117 ((x0.getD s1.toNat default).2)).isSome=true then
     bindC (r39 (v5 && ((r117 ((x0.getD s1.toNat default).2)).getD default)) 2) fun v6=>
      bindC (r39 (decide (((x0.getD s1.toNat default).1)≤((x0.getD s1.toNat default).2))) 9) fun v7=>
       bindC (r38 [v6,v7]) fun v8=>
        if (v8 != 0)=true then
         .out (some (s1,v8))
         else .next (IntKind.i64.wrap (s1+1))
     else .out none
   else .out none
  else .out ((r37 x2 0 (IntKind.i64.wrap ((x1.length:Int) - 1))).bind fun v11=>
   (r39 v11 6).bind fun v12=>
    (r37 x3 0 4).bind fun v13=>
     (r39 v13 2).bind fun v14=>
      (r38 [v12,v14]).bind fun v15=>
       some (0,v15))
def r87 (x4 x5:Int) (x6:L_II) (x1:L_LIIE) (x7 x8:L_I) (x0:L_II) (x2 x3:Int):Option (Int×Int):=
 (r106 x4 x5 x6 x1).bind fun v1=>
  (r116 x4 x5 x6 x1 x7 x8).bind fun v2=>
   (r39 ((x0.length:Int) == x4) 10).bind fun v3=>
    (r38 [v1.2,v2.2,v3]).bind fun v4=>
     if (v4 != 0)=true then
      some (0,v4)
      else iterC (b87_1 x1 x0 x2 x3) 1000000000 0
def T87:=qT19 qu4 false r87
attribute [go_sem] T87
def tb87:Fns:=lk [(37,T37.sp),(38,T38.sp),(39,T39.sp),(106,T106.sp),(116,T116.sp),(117,T117.sp)]
theorem tb87_ok:FnsOk Tryz.prog tb87:= .cons f37 (.cons f38 (.cons f39 (.cons f106 (.cons f116 (.cons f117 .nil)))))
theorem tk87:tb87 37=some T37.sp∧tb87 38=some T38.sp∧tb87 39=some T39.sp∧tb87 106=some T106.sp∧tb87 116=some T116.sp∧tb87 117=some T117.sp:=⟨rfl,rfl,rfl,rfl,rfl,rfl⟩
section
attribute [local go_sem] tk87 Tryz.results87
theorem f87:FnFact Tryz.prog 87 T87.sp:=by
 refine valid_m ty_ok tb87_ok Tryz.func87 rfl Tryz.ntmps87 fun ⟨x4,x5,x6,x1,x7,x8,x0,x2,x3⟩ r hr=>⟨nL rfl,fun stop S=> ?_⟩
 replace hr:r87 x4 x5 x6 x1 x7 x8 x0 x2 x3=some r:=hr
 unfold r87 at hr
 refine S.gx [4,12] ?_
 obtain ⟨v1,hv1,hr⟩:=of_bind0 hr
 obtain ⟨v2,hv2,hr⟩:=of_bind0 hr
 obtain ⟨v3,hv3,hr⟩:=of_bind0 hr
 obtain ⟨v4,hv4,hr⟩:=of_bind0 hr
 refine gb hv1 ?_
 refine gb hv2 ?_
 refine gb hv3 ?_
 refine gb hv4 ?_
 refine S.prune [1,8] ?_
 refine S.gx [12] ?_
 refine gr ?_
 refine gr ?_
 refine iW hr (fun hc hr=>D0 hr) fun hc hr=> ?_
 refine gr ?_
 refine S.sees [1,9,43,44,45] [(1,1)] [] ?_ (Stop.iter S (fun s1=>⟨[(1,.c (.ref 1 0)),(9,.c (.clo 117 [])),(43,.c (.d (encF 2 d_II x0))),(44,.c (.d (.int .i64 (x0.length:Int)))),(45,.c (.d (.int .i64 s1)))],[(1,[.d (.int .i64 x4),.d (.int .i64 x5),.d (encF 2 d_II x6),.d (encF 1 d_LIIE x1),.d (encF 1 d_I x7),.d (encF 1 d_I x8),.d (encF 2 d_II x0),.d (.int .i64 x2),.d (.int .i64 x3)])],[]⟩) (b87_1 x1 x0 x2 x3) (fun q=>q=r) hr rfl ?_)
 ·exact lf
 ·intro s1 hr
  unfold b87_1 at hr
  refine S.gx [4,12] ?_
  refine gr ?_
  refine iW1 hr (fun hc hr=> ?_) fun hc hr=>D0 hr
  obtain ⟨hg9,hr⟩:=of_guard1 hr
  obtain ⟨v5,hv5,hr⟩:=of_bind1 hr
  obtain ⟨hg10,hr⟩:=of_guard1 hr
  obtain ⟨v6,hv6,hr⟩:=of_bind1 hr
  obtain ⟨v7,hv7,hr⟩:=of_bind1 hr
  obtain ⟨v8,hv8,hr⟩:=of_bind1 hr
  try simp only [hv5,hv6,hv7,hv8,Option.getD_some,Option.isSome_some,true_and,and_assoc]
  repeat (first | refine gG hg10 ?_ | refine gA ?_ | refine gB ?_)
  refine iW1 hr (fun hc hr=> ?_) fun hc hr=>D1 (S.ss [1,9,43,44,45] [(1,1)] []) hr
  refine gr ?_
  refine S.prune [10,12] ?_
  refine S.gx [4] ?_
  exact D0 hr
end
def r53 (x0 x1:Int) (x2:L_II) (x3:L_LIIE) (x4 x5:L_I) (x6:L_II) (x7 x8:Int):Option (Int×Int×L_II×L_LIIE×L_I×L_I×L_II×Int×Int×Int):=
 (r87 x0 x1 x2 x3 x4 x5 x6 x7 x8).bind fun v1=>
  some (x0,x1,x2,x3,x4,x5,x6,x7,x8,v1.2)
def T53:=qT19 qu9 true r53
attribute [go_sem] T53
def tb53:Fns:=lk [(87,T87.sp)]
theorem tb53_ok:FnsOk Tryz.prog tb53:= .cons f87 .nil
theorem tk53:tb53 87=some T87.sp:=rfl
section
attribute [local go_sem] tk53 Tryz.results53
theorem f53:FnFact Tryz.prog 53 T53.sp:=by
 refine valid_m ty_ok tb53_ok Tryz.func53 rfl Tryz.ntmps53 fun ⟨x0,x1,x2,x3,x4,x5,x6,x7,x8⟩ r hr=>⟨nL rfl,fun stop S=> ?_⟩
 replace hr:r53 x0 x1 x2 x3 x4 x5 x6 x7 x8=some r:=hr
 unfold r53 at hr
 refine S.gx [] ?_
 exact D0 hr
end
def b89_8 (a0:L_IIIIIH) (s1 s3 s5 s7:Int×(List (Int×Int×Int×Int×Int×Hl))):Bd Unit (Ctl (Int×(List (Int×Int×Int×Int×Int×Hl))) (Ctl (Int×(List (Int×Int×Int×Int×Int×Hl))) (Ctl (Int×(List (Int×Int×Int×Int×Int×Hl))) (Ctl (Int×(List (Int×Int×Int×Int×Int×Hl))) (Ctl (Int×(List (Int×Int×Int×Int×Int×Hl))) (Ctl (Int×(List (Int×Int×Int×Int×Int×Hl))) (Ctl (Int×(List (Int×Int×Int×Int×Int×Hl))) (L_IIIIIH)))))))):=fun s8=>
 if (decide (0<(((hU (((hU (((hU ((a0.getD s1.1.toNat default).2.2.2.2.2)).getD s3.1.toNat default).2.2.2.2.2)).getD s5.1.toNat default).2.2.2.2.2)).getD s7.1.toNat default).2.2.2.1)))=true then
  .out none
  else .out (some (.next (IntKind.i64.wrap (s7.1+1),s7.2)))
def b89_7 (a0:L_IIIIIH) (s1 s3 s5 s6:Int×(List (Int×Int×Int×Int×Int×Hl))):Bd (Int×(List (Int×Int×Int×Int×Int×Hl))) (Ctl (Int×(List (Int×Int×Int×Int×Int×Hl))) (Ctl (Int×(List (Int×Int×Int×Int×Int×Hl))) (Ctl (Int×(List (Int×Int×Int×Int×Int×Hl))) (Ctl (Int×(List (Int×Int×Int×Int×Int×Hl))) (Ctl (Int×(List (Int×Int×Int×Int×Int×Hl))) (Ctl (Int×(List (Int×Int×Int×Int×Int×Hl))) (L_IIIIIH))))))):=fun s7=>
 if (decide (s7.1<((hU (((hU (((hU ((a0.getD s1.1.toNat default).2.2.2.2.2)).getD s3.1.toNat default).2.2.2.2.2)).getD s5.1.toNat default).2.2.2.2.2)).length:Int)))=true then
  if 0≤s7.1∧s7.1<((hU (((hU (((hU ((a0.getD s1.1.toNat default).2.2.2.2.2)).getD s3.1.toNat default).2.2.2.2.2)).getD s5.1.toNat default).2.2.2.2.2)).length:Int) then
   if ((((hU (((hU (((hU ((a0.getD s1.1.toNat default).2.2.2.2.2)).getD s3.1.toNat default).2.2.2.2.2)).getD s5.1.toNat default).2.2.2.2.2)).getD s7.1.toNat default).1) != 5)=true then
    if (s7.2.length+1)*64≤140737488355328∧s7.2.length+1≤9223372036854775807 then
     if 0≤(s7.2.length:Int)∧(s7.2.length:Int)<((s7.2.length+1):Int) then
      if (!(decide (((s7.2.length+1):Int)≤60)))=true then
       .out (some (.out (some (.out (some (.out (some (.out (some (.out (some (.out (some ((s7.2++[(0,0,0,0,0,Hl.nil)]).set s7.2.length (((hU (((hU (((hU ((a0.getD s1.1.toNat default).2.2.2.2.2)).getD s3.1.toNat default).2.2.2.2.2)).getD s5.1.toNat default).2.2.2.2.2)).getD s7.1.toNat default).1,((hU (((hU (((hU ((a0.getD s1.1.toNat default).2.2.2.2.2)).getD s3.1.toNat default).2.2.2.2.2)).getD s5.1.toNat default).2.2.2.2.2)).getD s7.1.toNat default).2.1,((hU (((hU (((hU ((a0.getD s1.1.toNat default).2.2.2.2.2)).getD s3.1.toNat default).2.2.2.2.2)).getD s5.1.toNat default).2.2.2.2.2)).getD s7.1.toNat default).2.2.1,((hU (((hU (((hU ((a0.getD s1.1.toNat default).2.2.2.2.2)).getD s3.1.toNat default).2.2.2.2.2)).getD s5.1.toNat default).2.2.2.2.2)).getD s7.1.toNat default).2.2.2.1,((hU (((hU (((hU ((a0.getD s1.1.toNat default).2.2.2.2.2)).getD s3.1.toNat default).2.2.2.2.2)).getD s5.1.toNat default).2.2.2.2.2)).getD s7.1.toNat default).2.2.2.2.1,((hU (((hU (((hU ((a0.getD s1.1.toNat default).2.2.2.2.2)).getD s3.1.toNat default).2.2.2.2.2)).getD s5.1.toNat default).2.2.2.2.2)).getD s7.1.toNat default).2.2.2.2.2)))))))))))))))
       else .next (IntKind.i64.wrap (s7.1+1),(s7.2++[(0,0,0,0,0,Hl.nil)]).set s7.2.length (((hU (((hU (((hU ((a0.getD s1.1.toNat default).2.2.2.2.2)).getD s3.1.toNat default).2.2.2.2.2)).getD s5.1.toNat default).2.2.2.2.2)).getD s7.1.toNat default).1,((hU (((hU (((hU ((a0.getD s1.1.toNat default).2.2.2.2.2)).getD s3.1.toNat default).2.2.2.2.2)).getD s5.1.toNat default).2.2.2.2.2)).getD s7.1.toNat default).2.1,((hU (((hU (((hU ((a0.getD s1.1.toNat default).2.2.2.2.2)).getD s3.1.toNat default).2.2.2.2.2)).getD s5.1.toNat default).2.2.2.2.2)).getD s7.1.toNat default).2.2.1,((hU (((hU (((hU ((a0.getD s1.1.toNat default).2.2.2.2.2)).getD s3.1.toNat default).2.2.2.2.2)).getD s5.1.toNat default).2.2.2.2.2)).getD s7.1.toNat default).2.2.2.1,((hU (((hU (((hU ((a0.getD s1.1.toNat default).2.2.2.2.2)).getD s3.1.toNat default).2.2.2.2.2)).getD s5.1.toNat default).2.2.2.2.2)).getD s7.1.toNat default).2.2.2.2.1,((hU (((hU (((hU ((a0.getD s1.1.toNat default).2.2.2.2.2)).getD s3.1.toNat default).2.2.2.2.2)).getD s5.1.toNat default).2.2.2.2.2)).getD s7.1.toNat default).2.2.2.2.2))
      else .out none
     else .out none
    else (iterC (b89_8 a0 s1 s3 s5 s7) 1000000000 ()).getD (.out none)
   else .out none
  else .out (some (.next (IntKind.i64.wrap (s6.1+1),s7.2)))
def b89_6 (a0:L_IIIIIH) (s1 s3 s5:Int×(List (Int×Int×Int×Int×Int×Hl))):Bd (Int×(List (Int×Int×Int×Int×Int×Hl))) (Ctl (Int×(List (Int×Int×Int×Int×Int×Hl))) (Ctl (Int×(List (Int×Int×Int×Int×Int×Hl))) (Ctl (Int×(List (Int×Int×Int×Int×Int×Hl))) (Ctl (Int×(List (Int×Int×Int×Int×Int×Hl))) (Ctl (Int×(List (Int×Int×Int×Int×Int×Hl))) (L_IIIIIH)))))):=fun s6=>
 if (decide (s6.1<(((hU (((hU ((a0.getD s1.1.toNat default).2.2.2.2.2)).getD s3.1.toNat default).2.2.2.2.2)).getD s5.1.toNat default).2.2.2.1)))=true then
  (iterC (b89_7 a0 s1 s3 s5 s6) 1000000000 (0,s6.2)).getD (.out none)
  else .out (some (.next (IntKind.i64.wrap (s5.1+1),s6.2)))
def b89_5 (a0:L_IIIIIH) (s1 s3 s4:Int×(List (Int×Int×Int×Int×Int×Hl))):Bd (Int×(List (Int×Int×Int×Int×Int×Hl))) (Ctl (Int×(List (Int×Int×Int×Int×Int×Hl))) (Ctl (Int×(List (Int×Int×Int×Int×Int×Hl))) (Ctl (Int×(List (Int×Int×Int×Int×Int×Hl))) (Ctl (Int×(List (Int×Int×Int×Int×Int×Hl))) (L_IIIIIH))))):=fun s5=>
 if (decide (s5.1<((hU (((hU ((a0.getD s1.1.toNat default).2.2.2.2.2)).getD s3.1.toNat default).2.2.2.2.2)).length:Int)))=true then
  if 0≤s5.1∧s5.1<((hU (((hU ((a0.getD s1.1.toNat default).2.2.2.2.2)).getD s3.1.toNat default).2.2.2.2.2)).length:Int) then
   if ((((hU (((hU ((a0.getD s1.1.toNat default).2.2.2.2.2)).getD s3.1.toNat default).2.2.2.2.2)).getD s5.1.toNat default).1) != 5)=true then
    if (s5.2.length+1)*64≤140737488355328∧s5.2.length+1≤9223372036854775807 then
     if 0≤(s5.2.length:Int)∧(s5.2.length:Int)<((s5.2.length+1):Int) then
      if (!(decide (((s5.2.length+1):Int)≤60)))=true then
       .out (some (.out (some (.out (some (.out (some (.out (some ((s5.2++[(0,0,0,0,0,Hl.nil)]).set s5.2.length (((hU (((hU ((a0.getD s1.1.toNat default).2.2.2.2.2)).getD s3.1.toNat default).2.2.2.2.2)).getD s5.1.toNat default).1,((hU (((hU ((a0.getD s1.1.toNat default).2.2.2.2.2)).getD s3.1.toNat default).2.2.2.2.2)).getD s5.1.toNat default).2.1,((hU (((hU ((a0.getD s1.1.toNat default).2.2.2.2.2)).getD s3.1.toNat default).2.2.2.2.2)).getD s5.1.toNat default).2.2.1,((hU (((hU ((a0.getD s1.1.toNat default).2.2.2.2.2)).getD s3.1.toNat default).2.2.2.2.2)).getD s5.1.toNat default).2.2.2.1,((hU (((hU ((a0.getD s1.1.toNat default).2.2.2.2.2)).getD s3.1.toNat default).2.2.2.2.2)).getD s5.1.toNat default).2.2.2.2.1,((hU (((hU ((a0.getD s1.1.toNat default).2.2.2.2.2)).getD s3.1.toNat default).2.2.2.2.2)).getD s5.1.toNat default).2.2.2.2.2)))))))))))
       else .next (IntKind.i64.wrap (s5.1+1),(s5.2++[(0,0,0,0,0,Hl.nil)]).set s5.2.length (((hU (((hU ((a0.getD s1.1.toNat default).2.2.2.2.2)).getD s3.1.toNat default).2.2.2.2.2)).getD s5.1.toNat default).1,((hU (((hU ((a0.getD s1.1.toNat default).2.2.2.2.2)).getD s3.1.toNat default).2.2.2.2.2)).getD s5.1.toNat default).2.1,((hU (((hU ((a0.getD s1.1.toNat default).2.2.2.2.2)).getD s3.1.toNat default).2.2.2.2.2)).getD s5.1.toNat default).2.2.1,((hU (((hU ((a0.getD s1.1.toNat default).2.2.2.2.2)).getD s3.1.toNat default).2.2.2.2.2)).getD s5.1.toNat default).2.2.2.1,((hU (((hU ((a0.getD s1.1.toNat default).2.2.2.2.2)).getD s3.1.toNat default).2.2.2.2.2)).getD s5.1.toNat default).2.2.2.2.1,((hU (((hU ((a0.getD s1.1.toNat default).2.2.2.2.2)).getD s3.1.toNat default).2.2.2.2.2)).getD s5.1.toNat default).2.2.2.2.2))
      else .out none
     else .out none
    else (iterC (b89_6 a0 s1 s3 s5) 1000000000 (0,s5.2)).getD (.out none)
   else .out none
  else .out (some (.next (IntKind.i64.wrap (s4.1+1),s5.2)))
def b89_4 (a0:L_IIIIIH) (s1 s3:Int×(List (Int×Int×Int×Int×Int×Hl))):Bd (Int×(List (Int×Int×Int×Int×Int×Hl))) (Ctl (Int×(List (Int×Int×Int×Int×Int×Hl))) (Ctl (Int×(List (Int×Int×Int×Int×Int×Hl))) (Ctl (Int×(List (Int×Int×Int×Int×Int×Hl))) (L_IIIIIH)))):=fun s4=>
 if (decide (s4.1<(((hU ((a0.getD s1.1.toNat default).2.2.2.2.2)).getD s3.1.toNat default).2.2.2.1)))=true then
  (iterC (b89_5 a0 s1 s3 s4) 1000000000 (0,s4.2)).getD (.out none)
  else .out (some (.next (IntKind.i64.wrap (s3.1+1),s4.2)))
def b89_3 (a0:L_IIIIIH) (s1 s2:Int×(List (Int×Int×Int×Int×Int×Hl))):Bd (Int×(List (Int×Int×Int×Int×Int×Hl))) (Ctl (Int×(List (Int×Int×Int×Int×Int×Hl))) (Ctl (Int×(List (Int×Int×Int×Int×Int×Hl))) (L_IIIIIH))):=fun s3=>
 if (decide (s3.1<((hU ((a0.getD s1.1.toNat default).2.2.2.2.2)).length:Int)))=true then
  if 0≤s3.1∧s3.1<((hU ((a0.getD s1.1.toNat default).2.2.2.2.2)).length:Int) then
   if ((((hU ((a0.getD s1.1.toNat default).2.2.2.2.2)).getD s3.1.toNat default).1) != 5)=true then
    if (s3.2.length+1)*64≤140737488355328∧s3.2.length+1≤9223372036854775807 then
     if 0≤(s3.2.length:Int)∧(s3.2.length:Int)<((s3.2.length+1):Int) then
      if (!(decide (((s3.2.length+1):Int)≤60)))=true then
       .out (some (.out (some (.out (some ((s3.2++[(0,0,0,0,0,Hl.nil)]).set s3.2.length (((hU ((a0.getD s1.1.toNat default).2.2.2.2.2)).getD s3.1.toNat default).1,((hU ((a0.getD s1.1.toNat default).2.2.2.2.2)).getD s3.1.toNat default).2.1,((hU ((a0.getD s1.1.toNat default).2.2.2.2.2)).getD s3.1.toNat default).2.2.1,((hU ((a0.getD s1.1.toNat default).2.2.2.2.2)).getD s3.1.toNat default).2.2.2.1,((hU ((a0.getD s1.1.toNat default).2.2.2.2.2)).getD s3.1.toNat default).2.2.2.2.1,((hU ((a0.getD s1.1.toNat default).2.2.2.2.2)).getD s3.1.toNat default).2.2.2.2.2)))))))
       else .next (IntKind.i64.wrap (s3.1+1),(s3.2++[(0,0,0,0,0,Hl.nil)]).set s3.2.length (((hU ((a0.getD s1.1.toNat default).2.2.2.2.2)).getD s3.1.toNat default).1,((hU ((a0.getD s1.1.toNat default).2.2.2.2.2)).getD s3.1.toNat default).2.1,((hU ((a0.getD s1.1.toNat default).2.2.2.2.2)).getD s3.1.toNat default).2.2.1,((hU ((a0.getD s1.1.toNat default).2.2.2.2.2)).getD s3.1.toNat default).2.2.2.1,((hU ((a0.getD s1.1.toNat default).2.2.2.2.2)).getD s3.1.toNat default).2.2.2.2.1,((hU ((a0.getD s1.1.toNat default).2.2.2.2.2)).getD s3.1.toNat default).2.2.2.2.2))
      else .out none
     else .out none
    else (iterC (b89_4 a0 s1 s3) 1000000000 (0,s3.2)).getD (.out none)
   else .out none
  else .out (some (.next (IntKind.i64.wrap (s2.1+1),s3.2)))
def b89_2 (a0:L_IIIIIH) (s1:Int×(List (Int×Int×Int×Int×Int×Hl))):Bd (Int×(List (Int×Int×Int×Int×Int×Hl))) (Ctl (Int×(List (Int×Int×Int×Int×Int×Hl))) (L_IIIIIH)):=fun s2=>
 if (decide (s2.1<((a0.getD s1.1.toNat default).2.2.2.1)))=true then
  (iterC (b89_3 a0 s1 s2) 1000000000 (0,s2.2)).getD (.out none)
  else .out (some (.next (IntKind.i64.wrap (s1.1+1),s2.2)))
def b89_1 (a0:L_IIIIIH):Bd (Int×(List (Int×Int×Int×Int×Int×Hl))) L_IIIIIH:=fun s1=>
 if (decide (s1.1<(a0.length:Int)))=true then
  if 0≤s1.1∧s1.1<(a0.length:Int) then
   if (((a0.getD s1.1.toNat default).1) != 5)=true then
    if (s1.2.length+1)*64≤140737488355328∧s1.2.length+1≤9223372036854775807 then
     if 0≤(s1.2.length:Int)∧(s1.2.length:Int)<((s1.2.length+1):Int) then
      if (!(decide (((s1.2.length+1):Int)≤60)))=true then
       .out (some ((s1.2++[(0,0,0,0,0,Hl.nil)]).set s1.2.length ((a0.getD s1.1.toNat default).1,(a0.getD s1.1.toNat default).2.1,(a0.getD s1.1.toNat default).2.2.1,(a0.getD s1.1.toNat default).2.2.2.1,(a0.getD s1.1.toNat default).2.2.2.2.1,(a0.getD s1.1.toNat default).2.2.2.2.2)))
       else .next (IntKind.i64.wrap (s1.1+1),(s1.2++[(0,0,0,0,0,Hl.nil)]).set s1.2.length ((a0.getD s1.1.toNat default).1,(a0.getD s1.1.toNat default).2.1,(a0.getD s1.1.toNat default).2.2.1,(a0.getD s1.1.toNat default).2.2.2.1,(a0.getD s1.1.toNat default).2.2.2.2.1,(a0.getD s1.1.toNat default).2.2.2.2.2))
      else .out none
     else .out none
    else (iterC (b89_2 a0 s1) 1000000000 (0,s1.2)).getD (.out none)
   else .out none
  else .out (some s1.2)
def r89 (a0:L_IIIIIH):Option (L_IIIIIH):=
 iterC (b89_1 a0) 1000000000 (0,[])
def T89:=qT20 qu1 true r89
attribute [go_sem] T89
def tb89:Fns:=lk []
theorem tb89_ok:FnsOk Tryz.prog tb89:=FnsOk.nil
section
attribute [local go_sem] Tryz.results89 Tryz.results119 Tryz.results120
theorem f89:FnFact Tryz.prog 89 T89.sp:=by
 refine valid_m ty_ok tb89_ok Tryz.func89 rfl Tryz.ntmps89 fun a0 r hr=>⟨nL rfl,fun stop S=> ?_⟩
 replace hr:r89 a0=some r:=hr
 unfold r89 at hr
 refine S.gx [2] ?_
 refine gr ?_
 refine S.inl 2 [3] [] Tryz.func119 (by decide) rfl Tryz.ntmps119 (fun cx e=>drawn_ok ty_ok tb89_ok cx e) (some 6) rfl rfl rfl rfl (nL rfl) (nL rfl) ?_
 refine gs ?_
 refine gr ?_
 intro stop1 S1
 refine S1.gx [5,9] ?_
 refine gr ?_
 refine S1.own0b 3 0 2000300 6 rfl rfl (nL rfl) rfl ?_
 refine S1.sees [1,7,8,9] [(3,3)] [(2000300,2000300)] ?_ (Stop.iter S1 (fun s1=>⟨[(1,.c (.clo 120 [.ref 3 0])),(7,.c (.d (encF 6 d_IIIIIH a0))),(8,.c (.d (.int .i64 (a0.length:Int)))),(9,.c (.d (.int .i64 s1.1)))],[(3,[.own 2000300])],[(2000300,.owned (encF 6 d_IIIIIH s1.2))]⟩) (b89_1 a0) (fun q=>q=r) hr rfl ?_)
 ·exact lf
 ·intro s1 hr
  unfold b89_1 at hr
  refine S1.gx [5,9] ?_
  refine gr ?_
  refine iW1 hr (fun hc hr=> ?_) fun hc hr=> ?_
  ·obtain ⟨hg12,hr⟩:=of_guard1 hr
   refine gr ?_
   refine iW1 hr (fun hc hr=> ?_) fun hc hr=> ?_
   ·refine gr ?_
    refine S1.inl 2 [1,7,8,9] [.ref 3 0] Tryz.func120 (by decide) rfl Tryz.ntmps120 (fun cx e=>drawn_ok ty_ok tb89_ok cx e) (some 18) rfl rfl rfl rfl (nL rfl) (nL rfl) ?_
    refine gs ?_
    refine gr ?_
    intro stop2 S2
    refine S2.gx [] ?_
    obtain ⟨hg1,hr⟩:=of_guard1 hr
    obtain ⟨hg2,hr⟩:=of_guard1 hr
    refine gr ?_
    refine gr ?_
    refine S1.gx [5,9] ?_
    refine gr ?_
    refine iW1 hr (fun hc hr=> ?_) fun hc hr=>D1 (S1.ss [1,7,8,9] [(3,3)] [(8,2000300)]) hr
    refine gr ?_
    have hr:=of_out0 hr
    refine gr ?_
    refine S.gx [2] ?_
    exact D0 hr
   ·refine gr ?_
    obtain ⟨q2,hq,hr⟩:=of_iter1 hr
    refine S1.sees [1,6,7,8,9,21,22] [(3,3),(6,6)] [(2000300,2000300)] ?_ (Stop.iter S1 (fun s2=>⟨[(1,.c (.clo 120 [.ref 3 0])),(6,.c (.ref 6 0)),(7,.c (.d (encF 6 d_IIIIIH a0))),(8,.c (.d (.int .i64 (a0.length:Int)))),(9,.c (.d (.int .i64 s1.1))),(21,.c (.d (.int .i64 ((a0.getD s1.1.toNat default).2.2.2.1)))),(22,.c (.d (.int .i64 s2.1)))],[(3,[.own 2000300]),(6,[.d (.int .i64 ((a0.getD s1.1.toNat default).1)),.d (.int .i64 ((a0.getD s1.1.toNat default).2.1)),.d (.int .i64 ((a0.getD s1.1.toNat default).2.2.1)),.d (.int .i64 ((a0.getD s1.1.toNat default).2.2.2.1)),.d (.int .i64 ((a0.getD s1.1.toNat default).2.2.2.2.1)),.d (hE ((a0.getD s1.1.toNat default).2.2.2.2.2))])],[(2000300,.owned (encF 6 d_IIIIIH s2.2))]⟩) (b89_2 a0 s1) _ hq hr ?_)
    ·exact lf
    ·intro s2 hr
     unfold b89_2 at hr
     refine S1.gx [5,9] ?_
     refine gr ?_
     refine iW1 hr (fun hc hr=> ?_) fun hc hr=> ?_
     ·refine gr ?_
      refine S1.inl 3 [1,6,7,8,9,21,22] [] Tryz.func119 (by decide) rfl Tryz.ntmps119 (fun cx e=>drawn_ok ty_ok tb89_ok cx e) (some 27) rfl rfl rfl rfl (nL rfl) (nL rfl) ?_
      refine gs ?_
      refine gr ?_
      intro stop2 S2
      refine S2.gx [5,9] ?_
      refine gr ?_
      obtain ⟨q3,hq,hr⟩:=of_iter1 hr
      refine S2.sees [1,7,8,9] [(3,3),(6,6)] [(2000300,2000300)] ?_ (Stop.iter S2 (fun s3=>⟨[(1,.c (.clo 120 [.ref 3 0])),(7,.c (.d (encF 6 d_IIIIIH (hU ((a0.getD s1.1.toNat default).2.2.2.2.2))))),(8,.c (.d (.int .i64 ((hU ((a0.getD s1.1.toNat default).2.2.2.2.2)).length:Int)))),(9,.c (.d (.int .i64 s3.1)))],[(3,[.own 2000300]),(6,[.d (.int .i64 ((a0.getD s1.1.toNat default).1)),.d (.int .i64 ((a0.getD s1.1.toNat default).2.1)),.d (.int .i64 ((a0.getD s1.1.toNat default).2.2.1)),.d (.int .i64 ((a0.getD s1.1.toNat default).2.2.2.1)),.d (.int .i64 ((a0.getD s1.1.toNat default).2.2.2.2.1)),.d (hE ((a0.getD s1.1.toNat default).2.2.2.2.2))])],[(2000300,.owned (encF 6 d_IIIIIH s3.2))]⟩) (b89_3 a0 s1 s2) _ hq hr ?_)
      ·exact lf
      ·intro s3 hr
       unfold b89_3 at hr
       refine S2.gx [5,9] ?_
       refine gr ?_
       refine iW1 hr (fun hc hr=> ?_) fun hc hr=> ?_
       ·obtain ⟨hg11,hr⟩:=of_guard1 hr
        refine gr ?_
        refine iW1 hr (fun hc hr=> ?_) fun hc hr=> ?_
        ·refine gr ?_
         refine S2.inl 2 [1,7,8,9] [.ref 3 0] Tryz.func120 (by decide) rfl Tryz.ntmps120 (fun cx e=>drawn_ok ty_ok tb89_ok cx e) (some 18) rfl rfl rfl rfl (nL rfl) (nL rfl) ?_
         refine gs ?_
         refine gr ?_
         intro stop3 S3
         refine S3.gx [] ?_
         obtain ⟨hg3,hr⟩:=of_guard1 hr
         obtain ⟨hg4,hr⟩:=of_guard1 hr
         refine gr ?_
         refine gr ?_
         refine S2.gx [5,9] ?_
         refine gr ?_
         refine iW1 hr (fun hc hr=> ?_) fun hc hr=>D1 (S2.ss [1,7,8,9] [(3,3),(6,6)] [(8,2000300)]) hr
         refine gr ?_
         replace hr:=goodC_out hr
         refine gr ?_
         refine S1.gx [5,9] ?_
         refine gr ?_
         replace hr:=goodC_out hr
         have hr:=of_out0 hr
         refine gr ?_
         refine S.gx [2] ?_
         exact D0 hr
        ·refine gr ?_
         obtain ⟨q4,hq,hr⟩:=of_iter1 hr
         refine S2.sees [1,6,7,8,9,21,22] [(3,3),(100006,100006),(6,6)] [(2000300,2000300)] ?_ (Stop.iter S2 (fun s4=>⟨[(1,.c (.clo 120 [.ref 3 0])),(6,.c (.ref 100006 0)),(7,.c (.d (encF 6 d_IIIIIH (hU ((a0.getD s1.1.toNat default).2.2.2.2.2))))),(8,.c (.d (.int .i64 ((hU ((a0.getD s1.1.toNat default).2.2.2.2.2)).length:Int)))),(9,.c (.d (.int .i64 s3.1))),(21,.c (.d (.int .i64 (((hU ((a0.getD s1.1.toNat default).2.2.2.2.2)).getD s3.1.toNat default).2.2.2.1)))),(22,.c (.d (.int .i64 s4.1)))],[(3,[.own 2000300]),(100006,[.d (.int .i64 (((hU ((a0.getD s1.1.toNat default).2.2.2.2.2)).getD s3.1.toNat default).1)),.d (.int .i64 (((hU ((a0.getD s1.1.toNat default).2.2.2.2.2)).getD s3.1.toNat default).2.1)),.d (.int .i64 (((hU ((a0.getD s1.1.toNat default).2.2.2.2.2)).getD s3.1.toNat default).2.2.1)),.d (.int .i64 (((hU ((a0.getD s1.1.toNat default).2.2.2.2.2)).getD s3.1.toNat default).2.2.2.1)),.d (.int .i64 (((hU ((a0.getD s1.1.toNat default).2.2.2.2.2)).getD s3.1.toNat default).2.2.2.2.1)),.d (hE (((hU ((a0.getD s1.1.toNat default).2.2.2.2.2)).getD s3.1.toNat default).2.2.2.2.2))]),(6,[.d (.int .i64 ((a0.getD s1.1.toNat default).1)),.d (.int .i64 ((a0.getD s1.1.toNat default).2.1)),.d (.int .i64 ((a0.getD s1.1.toNat default).2.2.1)),.d (.int .i64 ((a0.getD s1.1.toNat default).2.2.2.1)),.d (.int .i64 ((a0.getD s1.1.toNat default).2.2.2.2.1)),.d (hE ((a0.getD s1.1.toNat default).2.2.2.2.2))])],[(2000300,.owned (encF 6 d_IIIIIH s4.2))]⟩) (b89_4 a0 s1 s3) _ hq hr ?_)
         ·exact lf
         ·intro s4 hr
          unfold b89_4 at hr
          refine S2.gx [5,9] ?_
          refine gr ?_
          refine iW1 hr (fun hc hr=> ?_) fun hc hr=> ?_
          ·refine gr ?_
           refine S2.inl 3 [1,6,7,8,9,21,22] [] Tryz.func119 (by decide) rfl Tryz.ntmps119 (fun cx e=>drawn_ok ty_ok tb89_ok cx e) (some 27) rfl rfl rfl rfl (nL rfl) (nL rfl) ?_
           refine gs ?_
           refine gr ?_
           intro stop3 S3
           refine S3.gx [5,9] ?_
           refine gr ?_
           obtain ⟨q5,hq,hr⟩:=of_iter1 hr
           refine S3.sees [1,7,8,9] [(3,3),(100006,100006),(6,6)] [(2000300,2000300)] ?_ (Stop.iter S3 (fun s5=>⟨[(1,.c (.clo 120 [.ref 3 0])),(7,.c (.d (encF 6 d_IIIIIH (hU (((hU ((a0.getD s1.1.toNat default).2.2.2.2.2)).getD s3.1.toNat default).2.2.2.2.2))))),(8,.c (.d (.int .i64 ((hU (((hU ((a0.getD s1.1.toNat default).2.2.2.2.2)).getD s3.1.toNat default).2.2.2.2.2)).length:Int)))),(9,.c (.d (.int .i64 s5.1)))],[(3,[.own 2000300]),(100006,[.d (.int .i64 (((hU ((a0.getD s1.1.toNat default).2.2.2.2.2)).getD s3.1.toNat default).1)),.d (.int .i64 (((hU ((a0.getD s1.1.toNat default).2.2.2.2.2)).getD s3.1.toNat default).2.1)),.d (.int .i64 (((hU ((a0.getD s1.1.toNat default).2.2.2.2.2)).getD s3.1.toNat default).2.2.1)),.d (.int .i64 (((hU ((a0.getD s1.1.toNat default).2.2.2.2.2)).getD s3.1.toNat default).2.2.2.1)),.d (.int .i64 (((hU ((a0.getD s1.1.toNat default).2.2.2.2.2)).getD s3.1.toNat default).2.2.2.2.1)),.d (hE (((hU ((a0.getD s1.1.toNat default).2.2.2.2.2)).getD s3.1.toNat default).2.2.2.2.2))]),(6,[.d (.int .i64 ((a0.getD s1.1.toNat default).1)),.d (.int .i64 ((a0.getD s1.1.toNat default).2.1)),.d (.int .i64 ((a0.getD s1.1.toNat default).2.2.1)),.d (.int .i64 ((a0.getD s1.1.toNat default).2.2.2.1)),.d (.int .i64 ((a0.getD s1.1.toNat default).2.2.2.2.1)),.d (hE ((a0.getD s1.1.toNat default).2.2.2.2.2))])],[(2000300,.owned (encF 6 d_IIIIIH s5.2))]⟩) (b89_5 a0 s1 s3 s4) _ hq hr ?_)
           ·exact lf
           ·intro s5 hr
            unfold b89_5 at hr
            refine S3.gx [5,9] ?_
            refine gr ?_
            refine iW1 hr (fun hc hr=> ?_) fun hc hr=> ?_
            ·obtain ⟨hg10,hr⟩:=of_guard1 hr
             refine gr ?_
             refine iW1 hr (fun hc hr=> ?_) fun hc hr=> ?_
             ·refine gr ?_
              refine S3.inl 2 [1,7,8,9] [.ref 3 0] Tryz.func120 (by decide) rfl Tryz.ntmps120 (fun cx e=>drawn_ok ty_ok tb89_ok cx e) (some 18) rfl rfl rfl rfl (nL rfl) (nL rfl) ?_
              refine gs ?_
              refine gr ?_
              intro stop4 S4
              refine S4.gx [] ?_
              obtain ⟨hg5,hr⟩:=of_guard1 hr
              obtain ⟨hg6,hr⟩:=of_guard1 hr
              refine gr ?_
              refine gr ?_
              refine S3.gx [5,9] ?_
              refine gr ?_
              refine iW1 hr (fun hc hr=> ?_) fun hc hr=>D1 (S3.ss [1,7,8,9] [(3,3),(100006,100006),(6,6)] [(8,2000300)]) hr
              refine gr ?_
              replace hr:=goodC_out hr
              refine gr ?_
              refine S2.gx [5,9] ?_
              refine gr ?_
              replace hr:=goodC_out hr
              replace hr:=goodC_out hr
              refine gr ?_
              refine S1.gx [5,9] ?_
              refine gr ?_
              replace hr:=goodC_out hr
              have hr:=of_out0 hr
              refine gr ?_
              refine S.gx [2] ?_
              exact D0 hr
             ·refine gr ?_
              obtain ⟨q6,hq,hr⟩:=of_iter1 hr
              refine S3.sees [1,6,7,8,9,21,22] [(3,3),(200006,200006),(100006,100006),(6,6)] [(2000300,2000300)] ?_ (Stop.iter S3 (fun s6=>⟨[(1,.c (.clo 120 [.ref 3 0])),(6,.c (.ref 200006 0)),(7,.c (.d (encF 6 d_IIIIIH (hU (((hU ((a0.getD s1.1.toNat default).2.2.2.2.2)).getD s3.1.toNat default).2.2.2.2.2))))),(8,.c (.d (.int .i64 ((hU (((hU ((a0.getD s1.1.toNat default).2.2.2.2.2)).getD s3.1.toNat default).2.2.2.2.2)).length:Int)))),(9,.c (.d (.int .i64 s5.1))),(21,.c (.d (.int .i64 (((hU (((hU ((a0.getD s1.1.toNat default).2.2.2.2.2)).getD s3.1.toNat default).2.2.2.2.2)).getD s5.1.toNat default).2.2.2.1)))),(22,.c (.d (.int .i64 s6.1)))],[(3,[.own 2000300]),(200006,[.d (.int .i64 (((hU (((hU ((a0.getD s1.1.toNat default).2.2.2.2.2)).getD s3.1.toNat default).2.2.2.2.2)).getD s5.1.toNat default).1)),.d (.int .i64 (((hU (((hU ((a0.getD s1.1.toNat default).2.2.2.2.2)).getD s3.1.toNat default).2.2.2.2.2)).getD s5.1.toNat default).2.1)),.d (.int .i64 (((hU (((hU ((a0.getD s1.1.toNat default).2.2.2.2.2)).getD s3.1.toNat default).2.2.2.2.2)).getD s5.1.toNat default).2.2.1)),.d (.int .i64 (((hU (((hU ((a0.getD s1.1.toNat default).2.2.2.2.2)).getD s3.1.toNat default).2.2.2.2.2)).getD s5.1.toNat default).2.2.2.1)),.d (.int .i64 (((hU (((hU ((a0.getD s1.1.toNat default).2.2.2.2.2)).getD s3.1.toNat default).2.2.2.2.2)).getD s5.1.toNat default).2.2.2.2.1)),.d (hE (((hU (((hU ((a0.getD s1.1.toNat default).2.2.2.2.2)).getD s3.1.toNat default).2.2.2.2.2)).getD s5.1.toNat default).2.2.2.2.2))]),(100006,[.d (.int .i64 (((hU ((a0.getD s1.1.toNat default).2.2.2.2.2)).getD s3.1.toNat default).1)),.d (.int .i64 (((hU ((a0.getD s1.1.toNat default).2.2.2.2.2)).getD s3.1.toNat default).2.1)),.d (.int .i64 (((hU ((a0.getD s1.1.toNat default).2.2.2.2.2)).getD s3.1.toNat default).2.2.1)),.d (.int .i64 (((hU ((a0.getD s1.1.toNat default).2.2.2.2.2)).getD s3.1.toNat default).2.2.2.1)),.d (.int .i64 (((hU ((a0.getD s1.1.toNat default).2.2.2.2.2)).getD s3.1.toNat default).2.2.2.2.1)),.d (hE (((hU ((a0.getD s1.1.toNat default).2.2.2.2.2)).getD s3.1.toNat default).2.2.2.2.2))]),(6,[.d (.int .i64 ((a0.getD s1.1.toNat default).1)),.d (.int .i64 ((a0.getD s1.1.toNat default).2.1)),.d (.int .i64 ((a0.getD s1.1.toNat default).2.2.1)),.d (.int .i64 ((a0.getD s1.1.toNat default).2.2.2.1)),.d (.int .i64 ((a0.getD s1.1.toNat default).2.2.2.2.1)),.d (hE ((a0.getD s1.1.toNat default).2.2.2.2.2))])],[(2000300,.owned (encF 6 d_IIIIIH s6.2))]⟩) (b89_6 a0 s1 s3 s5) _ hq hr ?_)
              ·exact lf
              ·intro s6 hr
               unfold b89_6 at hr
               refine S3.gx [5,9] ?_
               refine gr ?_
               refine iW1 hr (fun hc hr=> ?_) fun hc hr=> ?_
               ·refine gr ?_
                refine S3.inl 3 [1,6,7,8,9,21,22] [] Tryz.func119 (by decide) rfl Tryz.ntmps119 (fun cx e=>drawn_ok ty_ok tb89_ok cx e) (some 27) rfl rfl rfl rfl (nL rfl) (nL rfl) ?_
                refine gs ?_
                refine gr ?_
                intro stop4 S4
                refine S4.gx [5,9] ?_
                refine gr ?_
                obtain ⟨q7,hq,hr⟩:=of_iter1 hr
                refine S4.sees [1,7,8,9] [(3,3),(200006,200006),(100006,100006),(6,6)] [(2000300,2000300)] ?_ (Stop.iter S4 (fun s7=>⟨[(1,.c (.clo 120 [.ref 3 0])),(7,.c (.d (encF 6 d_IIIIIH (hU (((hU (((hU ((a0.getD s1.1.toNat default).2.2.2.2.2)).getD s3.1.toNat default).2.2.2.2.2)).getD s5.1.toNat default).2.2.2.2.2))))),(8,.c (.d (.int .i64 ((hU (((hU (((hU ((a0.getD s1.1.toNat default).2.2.2.2.2)).getD s3.1.toNat default).2.2.2.2.2)).getD s5.1.toNat default).2.2.2.2.2)).length:Int)))),(9,.c (.d (.int .i64 s7.1)))],[(3,[.own 2000300]),(200006,[.d (.int .i64 (((hU (((hU ((a0.getD s1.1.toNat default).2.2.2.2.2)).getD s3.1.toNat default).2.2.2.2.2)).getD s5.1.toNat default).1)),.d (.int .i64 (((hU (((hU ((a0.getD s1.1.toNat default).2.2.2.2.2)).getD s3.1.toNat default).2.2.2.2.2)).getD s5.1.toNat default).2.1)),.d (.int .i64 (((hU (((hU ((a0.getD s1.1.toNat default).2.2.2.2.2)).getD s3.1.toNat default).2.2.2.2.2)).getD s5.1.toNat default).2.2.1)),.d (.int .i64 (((hU (((hU ((a0.getD s1.1.toNat default).2.2.2.2.2)).getD s3.1.toNat default).2.2.2.2.2)).getD s5.1.toNat default).2.2.2.1)),.d (.int .i64 (((hU (((hU ((a0.getD s1.1.toNat default).2.2.2.2.2)).getD s3.1.toNat default).2.2.2.2.2)).getD s5.1.toNat default).2.2.2.2.1)),.d (hE (((hU (((hU ((a0.getD s1.1.toNat default).2.2.2.2.2)).getD s3.1.toNat default).2.2.2.2.2)).getD s5.1.toNat default).2.2.2.2.2))]),(100006,[.d (.int .i64 (((hU ((a0.getD s1.1.toNat default).2.2.2.2.2)).getD s3.1.toNat default).1)),.d (.int .i64 (((hU ((a0.getD s1.1.toNat default).2.2.2.2.2)).getD s3.1.toNat default).2.1)),.d (.int .i64 (((hU ((a0.getD s1.1.toNat default).2.2.2.2.2)).getD s3.1.toNat default).2.2.1)),.d (.int .i64 (((hU ((a0.getD s1.1.toNat default).2.2.2.2.2)).getD s3.1.toNat default).2.2.2.1)),.d (.int .i64 (((hU ((a0.getD s1.1.toNat default).2.2.2.2.2)).getD s3.1.toNat default).2.2.2.2.1)),.d (hE (((hU ((a0.getD s1.1.toNat default).2.2.2.2.2)).getD s3.1.toNat default).2.2.2.2.2))]),(6,[.d (.int .i64 ((a0.getD s1.1.toNat default).1)),.d (.int .i64 ((a0.getD s1.1.toNat default).2.1)),.d (.int .i64 ((a0.getD s1.1.toNat default).2.2.1)),.d (.int .i64 ((a0.getD s1.1.toNat default).2.2.2.1)),.d (.int .i64 ((a0.getD s1.1.toNat default).2.2.2.2.1)),.d (hE ((a0.getD s1.1.toNat default).2.2.2.2.2))])],[(2000300,.owned (encF 6 d_IIIIIH s7.2))]⟩) (b89_7 a0 s1 s3 s5 s6) _ hq hr ?_)
                ·exact lf
                ·intro s7 hr
                 unfold b89_7 at hr
                 refine S4.gx [5,9] ?_
                 refine gr ?_
                 refine iW1 hr (fun hc hr=> ?_) fun hc hr=> ?_
                 ·obtain ⟨hg9,hr⟩:=of_guard1 hr
                  refine gr ?_
                  refine iW1 hr (fun hc hr=> ?_) fun hc hr=> ?_
                  ·refine gr ?_
                   refine S4.inl 2 [1,7,8,9] [.ref 3 0] Tryz.func120 (by decide) rfl Tryz.ntmps120 (fun cx e=>drawn_ok ty_ok tb89_ok cx e) (some 18) rfl rfl rfl rfl (nL rfl) (nL rfl) ?_
                   refine gs ?_
                   refine gr ?_
                   intro stop5 S5
                   refine S5.gx [] ?_
                   obtain ⟨hg7,hr⟩:=of_guard1 hr
                   obtain ⟨hg8,hr⟩:=of_guard1 hr
                   refine gr ?_
                   refine gr ?_
                   refine S4.gx [5,9] ?_
                   refine gr ?_
                   refine iW1 hr (fun hc hr=> ?_) fun hc hr=>D1 (S4.ss [1,7,8,9] [(3,3),(200006,200006),(100006,100006),(6,6)] [(8,2000300)]) hr
                   refine gr ?_
                   replace hr:=goodC_out hr
                   refine gr ?_
                   refine S3.gx [5,9] ?_
                   refine gr ?_
                   replace hr:=goodC_out hr
                   replace hr:=goodC_out hr
                   refine gr ?_
                   refine S2.gx [5,9] ?_
                   refine gr ?_
                   replace hr:=goodC_out hr
                   replace hr:=goodC_out hr
                   refine gr ?_
                   refine S1.gx [5,9] ?_
                   refine gr ?_
                   replace hr:=goodC_out hr
                   have hr:=of_out0 hr
                   refine gr ?_
                   refine S.gx [2] ?_
                   exact D0 hr
                  ·refine gr ?_
                   obtain ⟨q8,hq,hr⟩:=of_iter1 hr
                   refine S4.sees [1,6,7,8,9,21,22] [(3,3),(300006,300006),(200006,200006),(100006,100006),(6,6)] [(2000300,2000300)] ?_ (Stop.iter S4 (fun s8=>⟨[(1,.c (.clo 120 [.ref 3 0])),(6,.c (.ref 300006 0)),(7,.c (.d (encF 6 d_IIIIIH (hU (((hU (((hU ((a0.getD s1.1.toNat default).2.2.2.2.2)).getD s3.1.toNat default).2.2.2.2.2)).getD s5.1.toNat default).2.2.2.2.2))))),(8,.c (.d (.int .i64 ((hU (((hU (((hU ((a0.getD s1.1.toNat default).2.2.2.2.2)).getD s3.1.toNat default).2.2.2.2.2)).getD s5.1.toNat default).2.2.2.2.2)).length:Int)))),(9,.c (.d (.int .i64 s7.1))),(21,.c (.d (.int .i64 (((hU (((hU (((hU ((a0.getD s1.1.toNat default).2.2.2.2.2)).getD s3.1.toNat default).2.2.2.2.2)).getD s5.1.toNat default).2.2.2.2.2)).getD s7.1.toNat default).2.2.2.1)))),(22,.c (.d (.int .i64 0)))],[(3,[.own 2000300]),(300006,[.d (.int .i64 (((hU (((hU (((hU ((a0.getD s1.1.toNat default).2.2.2.2.2)).getD s3.1.toNat default).2.2.2.2.2)).getD s5.1.toNat default).2.2.2.2.2)).getD s7.1.toNat default).1)),.d (.int .i64 (((hU (((hU (((hU ((a0.getD s1.1.toNat default).2.2.2.2.2)).getD s3.1.toNat default).2.2.2.2.2)).getD s5.1.toNat default).2.2.2.2.2)).getD s7.1.toNat default).2.1)),.d (.int .i64 (((hU (((hU (((hU ((a0.getD s1.1.toNat default).2.2.2.2.2)).getD s3.1.toNat default).2.2.2.2.2)).getD s5.1.toNat default).2.2.2.2.2)).getD s7.1.toNat default).2.2.1)),.d (.int .i64 (((hU (((hU (((hU ((a0.getD s1.1.toNat default).2.2.2.2.2)).getD s3.1.toNat default).2.2.2.2.2)).getD s5.1.toNat default).2.2.2.2.2)).getD s7.1.toNat default).2.2.2.1)),.d (.int .i64 (((hU (((hU (((hU ((a0.getD s1.1.toNat default).2.2.2.2.2)).getD s3.1.toNat default).2.2.2.2.2)).getD s5.1.toNat default).2.2.2.2.2)).getD s7.1.toNat default).2.2.2.2.1)),.d (hE (((hU (((hU (((hU ((a0.getD s1.1.toNat default).2.2.2.2.2)).getD s3.1.toNat default).2.2.2.2.2)).getD s5.1.toNat default).2.2.2.2.2)).getD s7.1.toNat default).2.2.2.2.2))]),(200006,[.d (.int .i64 (((hU (((hU ((a0.getD s1.1.toNat default).2.2.2.2.2)).getD s3.1.toNat default).2.2.2.2.2)).getD s5.1.toNat default).1)),.d (.int .i64 (((hU (((hU ((a0.getD s1.1.toNat default).2.2.2.2.2)).getD s3.1.toNat default).2.2.2.2.2)).getD s5.1.toNat default).2.1)),.d (.int .i64 (((hU (((hU ((a0.getD s1.1.toNat default).2.2.2.2.2)).getD s3.1.toNat default).2.2.2.2.2)).getD s5.1.toNat default).2.2.1)),.d (.int .i64 (((hU (((hU ((a0.getD s1.1.toNat default).2.2.2.2.2)).getD s3.1.toNat default).2.2.2.2.2)).getD s5.1.toNat default).2.2.2.1)),.d (.int .i64 (((hU (((hU ((a0.getD s1.1.toNat default).2.2.2.2.2)).getD s3.1.toNat default).2.2.2.2.2)).getD s5.1.toNat default).2.2.2.2.1)),.d (hE (((hU (((hU ((a0.getD s1.1.toNat default).2.2.2.2.2)).getD s3.1.toNat default).2.2.2.2.2)).getD s5.1.toNat default).2.2.2.2.2))]),(100006,[.d (.int .i64 (((hU ((a0.getD s1.1.toNat default).2.2.2.2.2)).getD s3.1.toNat default).1)),.d (.int .i64 (((hU ((a0.getD s1.1.toNat default).2.2.2.2.2)).getD s3.1.toNat default).2.1)),.d (.int .i64 (((hU ((a0.getD s1.1.toNat default).2.2.2.2.2)).getD s3.1.toNat default).2.2.1)),.d (.int .i64 (((hU ((a0.getD s1.1.toNat default).2.2.2.2.2)).getD s3.1.toNat default).2.2.2.1)),.d (.int .i64 (((hU ((a0.getD s1.1.toNat default).2.2.2.2.2)).getD s3.1.toNat default).2.2.2.2.1)),.d (hE (((hU ((a0.getD s1.1.toNat default).2.2.2.2.2)).getD s3.1.toNat default).2.2.2.2.2))]),(6,[.d (.int .i64 ((a0.getD s1.1.toNat default).1)),.d (.int .i64 ((a0.getD s1.1.toNat default).2.1)),.d (.int .i64 ((a0.getD s1.1.toNat default).2.2.1)),.d (.int .i64 ((a0.getD s1.1.toNat default).2.2.2.1)),.d (.int .i64 ((a0.getD s1.1.toNat default).2.2.2.2.1)),.d (hE ((a0.getD s1.1.toNat default).2.2.2.2.2))])],[(2000300,.owned (encF 6 d_IIIIIH s7.2))]⟩) (b89_8 a0 s1 s3 s5 s7) _ hq hr ?_)
                   ·exact lf
                   ·intro s8 hr
                    unfold b89_8 at hr
                    refine S4.gx [5,9] ?_
                    refine gr ?_
                    refine iW1 hr (fun hc hr=> ?_) fun hc hr=> ?_
                    ·refine gr ?_
                     refine gr ?_
                     first | cases hr | exact hr.elim
                    ·refine gr ?_
                     replace hr:=goodC_out hr
                     exact D1 (S4.ss [1,7,8,9] [(3,3),(200006,200006),(100006,100006),(6,6)] [(2000300,2000300)]) hr
                 ·refine gr ?_
                  replace hr:=goodC_out hr
                  refine gr ?_
                  refine gr ?_
                  refine S3.gx [5,9] ?_
                  exact D1 (S3.ss [1,6,7,8,9,21,22] [(3,3),(200006,200006),(100006,100006),(6,6)] [(2000300,2000300)]) hr
               ·refine gr ?_
                replace hr:=goodC_out hr
                exact D1 (S3.ss [1,7,8,9] [(3,3),(100006,100006),(6,6)] [(2000300,2000300)]) hr
            ·refine gr ?_
             replace hr:=goodC_out hr
             refine gr ?_
             refine gr ?_
             refine S2.gx [5,9] ?_
             exact D1 (S2.ss [1,6,7,8,9,21,22] [(3,3),(100006,100006),(6,6)] [(2000300,2000300)]) hr
          ·refine gr ?_
           replace hr:=goodC_out hr
           exact D1 (S2.ss [1,7,8,9] [(3,3),(6,6)] [(2000300,2000300)]) hr
       ·refine gr ?_
        replace hr:=goodC_out hr
        refine gr ?_
        refine gr ?_
        refine S1.gx [5,9] ?_
        exact D1 (S1.ss [1,6,7,8,9,21,22] [(3,3),(6,6)] [(2000300,2000300)]) hr
     ·refine gr ?_
      replace hr:=goodC_out hr
      exact D1 (S1.ss [1,7,8,9] [(3,3)] [(2000300,2000300)]) hr
  ·refine gr ?_
   have hr:=of_out0 hr
   refine gr ?_
   refine gr ?_
   refine S.gx [2] ?_
   exact D0 hr
end
def r90 (a0:Int):Option (Bool):=
 some ((a0 == 2) || (a0 == 4))
def T90:=qT4 qu2 false r90
attribute [go_sem] T90
def tb90:Fns:=lk []
theorem tb90_ok:FnsOk Tryz.prog tb90:=FnsOk.nil
section
attribute [local go_sem] Tryz.results90
theorem f90:FnFact Tryz.prog 90 T90.sp:=by
 refine valid_m ty_ok tb90_ok Tryz.func90 rfl Tryz.ntmps90 fun a0 r hr=>⟨nL rfl,fun stop S=> ?_⟩
 replace hr:r90 a0=some r:=hr
 unfold r90 at hr
 refine S.gx [] ?_
 repeat (first | refine gA ?_ | refine gB ?_)
 exact D0 hr
end
end Go.Proofs.YtlnlpncchgimgaaGreatDoor

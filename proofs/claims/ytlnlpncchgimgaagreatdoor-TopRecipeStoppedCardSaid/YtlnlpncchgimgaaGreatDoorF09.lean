/- Contracts of functions, written by wip/dec. -/
import Derived.Test.YtlnlpncchgimgaaGreatDoorF00
import Derived.Test.YtlnlpncchgimgaaGreatDoorF07
set_option linter.unusedVariables false
set_option linter.unusedSimpArgs false
set_option linter.constructorNameAsVariable false
set_option maxHeartbeats 4000000
set_option maxRecDepth 20000
namespace Go.Proofs.YtlnlpncchgimgaaGreatDoor
open Go.Abs
section
variable {β:Type} [Inhabited β] (u:β→List RV) (al:Bool)
def qw51 (a0 a1:Int) (a2:L_II) (a3:L_LIIE) (a4 a5:Int):List Arg:=[.agg [.int .i64 a0,.int .i64 a1,encF 2 d_II a2,encF 1 d_LIIE a3],.c (.int .i64 a4),.c (.int .i64 a5)]
def qd51:List Arg→Int×Int×L_II×L_LIIE×Int×Int
 | [.agg [c0,c1,c2,c3],.c c4,.c c5]=>(dInt c0,dInt c1,decF g_II c2,decF g_LIIE c3,dInt c4,dInt c5)
 | _=>default
def qT51 (r:Int→Int→L_II→L_LIIE→Int→Int→Option β):=mkT (u6 qw51) qd51 (u6 r) u al
attribute [go_sem] qw51 qd51 qT51
end
def r22 (x0 x1:Int) (x2:L_II) (x3:L_LIIE) (a1:L_I):Option (Int):=
 (r50 x0 x1 x2 x3).bind fun v1=>
  if (v1 != 0)=true then
   some v1
   else (r51 x0 x1 x2 x3 a1).bind fun v2=>
    some v2.2
def T22:=qT27 qu3 false r22
attribute [go_sem] T22
def tb22:Fns:=lk [(50,T50.sp),(51,T51.sp)]
theorem tb22_ok:FnsOk Tryz.prog tb22:= .cons f50 (.cons f51 .nil)
theorem tk22:tb22 50=some T50.sp∧tb22 51=some T51.sp:=⟨rfl,rfl⟩
section
attribute [local go_sem] tk22 Tryz.results22
theorem f22:FnFact Tryz.prog 22 T22.sp:=by
 refine valid_m ty_ok tb22_ok Tryz.func22 rfl Tryz.ntmps22 fun ⟨x0,x1,x2,x3,a1⟩ r hr=>⟨nL rfl,fun stop S=> ?_⟩
 replace hr:r22 x0 x1 x2 x3 a1=some r:=hr
 unfold r22 at hr
 refine S.gx [] ?_
 exact D0 hr
end
def b52_1 (x0:L_II) (a1:Int):Bd Int (Int×Int):=fun s1=>
 if 0≤s1∧s1<(x0.length:Int) then
  if (decide (((x0.getD s1.toNat default).1)<a1))=true then
   .next (IntKind.i64.wrap (s1+1))
   else .out (if 0≤IntKind.i64.wrap (s1 - 1)∧IntKind.i64.wrap (s1 - 1)<(x0.length:Int) then
    if 0≤s1∧s1<(x0.length:Int) then
     some (IntKind.i64.wrap ((IntKind.i64.wrap (((x0.getD (IntKind.i64.wrap (s1 - 1)).toNat default).2)*(IntKind.i64.wrap (((x0.getD s1.toNat default).1) - ((x0.getD (IntKind.i64.wrap (s1 - 1)).toNat default).1)))))+(IntKind.i64.wrap ((IntKind.i64.wrap (((x0.getD s1.toNat default).2) - ((x0.getD (IntKind.i64.wrap (s1 - 1)).toNat default).2)))*(IntKind.i64.wrap (a1 - ((x0.getD (IntKind.i64.wrap (s1 - 1)).toNat default).1)))))),IntKind.i64.wrap (((x0.getD s1.toNat default).1) - ((x0.getD (IntKind.i64.wrap (s1 - 1)).toNat default).1)))
     else none
    else none)
  else .out none
def r52 (x1 x2:Int) (x0:L_II) (x3:L_LIIE) (a1:Int):Option (Int×Int):=
 iterC (b52_1 x0 a1) 1000000000 1
def T52:=qT23 qu4 false r52
attribute [go_sem] T52
def tb52:Fns:=lk []
theorem tb52_ok:FnsOk Tryz.prog tb52:=FnsOk.nil
section
attribute [local go_sem] Tryz.results52
theorem f52:FnFact Tryz.prog 52 T52.sp:=by
 refine valid_m ty_ok tb52_ok Tryz.func52 rfl Tryz.ntmps52 fun ⟨x1,x2,x0,x3,a1⟩ r hr=>⟨nL rfl,fun stop S=> ?_⟩
 replace hr:r52 x1 x2 x0 x3 a1=some r:=hr
 unfold r52 at hr
 refine S.gx [] ?_
 refine gr ?_
 refine S.sees [1,2,6] [(2,2)] [] ?_ (Stop.iter S (fun s1=>⟨[(1,.c (.d (.int .i64 a1))),(2,.c (.ref 2 0)),(6,.c (.d (.int .i64 s1)))],[(2,[.d (.int .i64 x1),.d (.int .i64 x2),.d (encF 2 d_II x0),.d (encF 1 d_LIIE x3)])],[]⟩) (b52_1 x0 a1) (fun q=>q=r) hr rfl ?_)
 ·exact lf
 ·intro s1 hr
  unfold b52_1 at hr
  refine S.gx [] ?_
  exact D1 (S.ss [1,2,6] [(2,2)] []) hr
end
def r23 (x0 x1:Int) (x2:L_II) (x3:L_LIIE) (a1 a2:Int):Option (Bool):=
 (r52 x0 x1 x2 x3 a1).bind fun v1=>
  some (decide (v1.1>(IntKind.i64.wrap (a2*v1.2))))
def T23:=qT51 qu2 false r23
attribute [go_sem] T23
def tb23:Fns:=lk [(52,T52.sp)]
theorem tb23_ok:FnsOk Tryz.prog tb23:= .cons f52 .nil
theorem tk23:tb23 52=some T52.sp:=rfl
section
attribute [local go_sem] tk23 Tryz.results23
theorem f23:FnFact Tryz.prog 23 T23.sp:=by
 refine valid_m ty_ok tb23_ok Tryz.func23 rfl Tryz.ntmps23 fun ⟨x0,x1,x2,x3,a1,a2⟩ r hr=>⟨nL rfl,fun stop S=> ?_⟩
 replace hr:r23 x0 x1 x2 x3 a1 a2=some r:=hr
 unfold r23 at hr
 refine S.gx [] ?_
 exact D0 hr
end
end Go.Proofs.YtlnlpncchgimgaaGreatDoor

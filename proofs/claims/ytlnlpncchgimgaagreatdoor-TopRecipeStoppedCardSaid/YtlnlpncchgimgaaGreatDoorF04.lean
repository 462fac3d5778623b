/- Contracts of functions, written by wip/dec. -/
import Derived.Test.YtlnlpncchgimgaaGreatDoorF00
import Derived.Test.YtlnlpncchgimgaaGreatDoorF01
import Derived.Test.YtlnlpncchgimgaaGreatDoorF02
import Derived.Test.YtlnlpncchgimgaaGreatDoorF03
set_option linter.unusedVariables false
set_option linter.unusedSimpArgs false
set_option linter.constructorNameAsVariable false
set_option maxHeartbeats 4000000
set_option maxRecDepth 20000
namespace Go.Proofs.YtlnlpncchgimgaaGreatDoor
open Go.Abs
section
variable {β:Type} [Inhabited β] (u:β→List RV) (al:Bool)
def qw28 (a0:L_I):List Arg:=[.c (encF 1 d_I a0),.clo 75 []]
def qd28:List Arg→L_I
 | [.c c0,.clo _ []]=>decF g_I c0
 | _=>default
def qT28 (r:L_I→Option β):=mkT (u1 qw28) qd28 (u1 r) u al
attribute [go_sem] qw28 qd28 qT28
def qw29 (a0 a1:Int) (a2:L_II) (a3:L_LIIE) (a4:L_II) (a5:L_LIIE) (a6:L_I) (a7:Int):List Arg:=[.agg [.int .i64 a0,.int .i64 a1,encF 2 d_II a2,encF 1 d_LIIE a3,encF 2 d_II a4,encF 1 d_LIIE a5],.agg [encF 1 d_I a6,.int .i64 a7]]
def qd29:List Arg→Int×Int×L_II×L_LIIE×L_II×L_LIIE×L_I×Int
 | [.agg [c0,c1,c2,c3,c4,c5],.agg [c6,c7]]=>(dInt c0,dInt c1,decF g_II c2,decF g_LIIE c3,decF g_II c4,decF g_LIIE c5,decF g_I c6,dInt c7)
 | _=>default
def qT29 (r:Int→Int→L_II→L_LIIE→L_II→L_LIIE→L_I→Int→Option β):=mkT (u8 qw29) qd29 (u8 r) u al
attribute [go_sem] qw29 qd29 qT29
def qw30 (a0 a1:Int) (a2:L_II) (a3:L_LIIE) (a4:L_II) (a5:L_LIIE) (a6 a7:Int):List Arg:=[.agg [.int .i64 a0,.int .i64 a1,encF 2 d_II a2,encF 1 d_LIIE a3,encF 2 d_II a4,encF 1 d_LIIE a5],.c (.int .i64 a6),.c (.int .i64 a7)]
def qd30:List Arg→Int×Int×L_II×L_LIIE×L_II×L_LIIE×Int×Int
 | [.agg [c0,c1,c2,c3,c4,c5],.c c6,.c c7]=>(dInt c0,dInt c1,decF g_II c2,decF g_LIIE c3,decF g_II c4,decF g_LIIE c5,dInt c6,dInt c7)
 | _=>default
def qT30 (r:Int→Int→L_II→L_LIIE→L_II→L_LIIE→Int→Int→Option β):=mkT (u8 qw30) qd30 (u8 r) u al
attribute [go_sem] qw30 qd30 qT30
def qw31 (a0:L_I) (a1 a2:Int) (a3:L_II) (a4:L_LIIE) (a5:L_II) (a6:L_LIIE):List Arg:=[.c (encF 1 d_I a0),.clo 83 [[.int .i64 a1,.int .i64 a2,encF 2 d_II a3,encF 1 d_LIIE a4,encF 2 d_II a5,encF 1 d_LIIE a6]]]
def qd31:List Arg→L_I×Int×Int×L_II×L_LIIE×L_II×L_LIIE
 | [.c c0,.clo _ [[c1,c2,c3,c4,c5,c6]]]=>(decF g_I c0,dInt c1,dInt c2,decF g_II c3,decF g_LIIE c4,decF g_II c5,decF g_LIIE c6)
 | _=>default
def qT31 (r:L_I→Int→Int→L_II→L_LIIE→L_II→L_LIIE→Option β):=mkT (u7 qw31) qd31 (u7 r) u al
attribute [go_sem] qw31 qd31 qT31
def qw32 (a0 a1:Int) (a2:L_II) (a3:L_LIIE) (a4:L_II) (a5:L_LIIE) (a6 a7:L_I) (a8:Int):List Arg:=[.agg [.int .i64 a0,.int .i64 a1,encF 2 d_II a2,encF 1 d_LIIE a3,encF 2 d_II a4,encF 1 d_LIIE a5],.c (encF 1 d_I a6),.agg [encF 1 d_I a7,.int .i64 a8]]
def qd32:List Arg→Int×Int×L_II×L_LIIE×L_II×L_LIIE×L_I×L_I×Int
 | [.agg [c0,c1,c2,c3,c4,c5],.c c6,.agg [c7,c8]]=>(dInt c0,dInt c1,decF g_II c2,decF g_LIIE c3,decF g_II c4,decF g_LIIE c5,decF g_I c6,decF g_I c7,dInt c8)
 | _=>default
def qT32 (r:Int→Int→L_II→L_LIIE→L_II→L_LIIE→L_I→L_I→Int→Option β):=mkT (u9 qw32) qd32 (u9 r) u al
attribute [go_sem] qw32 qd32 qT32
def qw33 (a0 a1:Int) (a2:L_II) (a3:L_LIIE) (a4 a5:L_I) (a6:Int):List Arg:=[.agg [.int .i64 a0,.int .i64 a1,encF 2 d_II a2,encF 1 d_LIIE a3],.c (encF 1 d_I a4),.agg [encF 1 d_I a5,.int .i64 a6]]
def qd33:List Arg→Int×Int×L_II×L_LIIE×L_I×L_I×Int
 | [.agg [c0,c1,c2,c3],.c c4,.agg [c5,c6]]=>(dInt c0,dInt c1,decF g_II c2,decF g_LIIE c3,decF g_I c4,decF g_I c5,dInt c6)
 | _=>default
def qT33 (r:Int→Int→L_II→L_LIIE→L_I→L_I→Int→Option β):=mkT (u7 qw33) qd33 (u7 r) u al
attribute [go_sem] qw33 qd33 qT33
def qw34 (a0 a1:Int) (a2:L_II) (a3:L_LIIE) (a4 a5:L_I) (a6:L_II) (a7 a8:Int) (a9:L_IIIIIH):List Arg:=[.agg [.int .i64 a0,.int .i64 a1,encF 2 d_II a2,encF 1 d_LIIE a3,encF 1 d_I a4,encF 1 d_I a5,encF 2 d_II a6,.int .i64 a7,.int .i64 a8],.c (encF 6 d_IIIIIH a9)]
def qd34:List Arg→Int×Int×L_II×L_LIIE×L_I×L_I×L_II×Int×Int×L_IIIIIH
 | [.agg [c0,c1,c2,c3,c4,c5,c6,c7,c8],.c c9]=>(dInt c0,dInt c1,decF g_II c2,decF g_LIIE c3,decF g_I c4,decF g_I c5,decF g_II c6,dInt c7,dInt c8,decF g_IIIIIH c9)
 | _=>default
def qT34 (r:Int→Int→L_II→L_LIIE→L_I→L_I→L_II→Int→Int→L_IIIIIH→Option β):=mkT (u10 qw34) qd34 (u10 r) u al
attribute [go_sem] qw34 qd34 qT34
def qu14 (v:L_I×Int×Int):List RV:=[.c (.own (encF 1 d_I v.1)),.c (.d (.int .i64 v.2.1)),.c (.d (.int .i64 v.2.2))]
attribute [go_sem] qu14
def qu15 (v:L_I×Int):List RV:=[.c (.own (encF 1 d_I v.1)),.c (.d (.int .i64 v.2))]
attribute [go_sem] qu15
def qu17 (v:L_IIII×L_IIIII×L_III×L_II×Int×Int×Int×Int):List RV:=[.agg [.own (encF 4 d_IIII v.1),.own (encF 5 d_IIIII v.2.1),.own (encF 3 d_III v.2.2.1),.own (encF 2 d_II v.2.2.2.1),.d (.int .i64 v.2.2.2.2.1),.d (.int .i64 v.2.2.2.2.2.1),.d (.int .i64 v.2.2.2.2.2.2.1),.d (.int .i64 v.2.2.2.2.2.2.2)]]
attribute [go_sem] qu17
end
def r76 (a0:Int):Option (Bool):=
 (r110 a0 0 10000).bind fun v1=>
  some v1
def T76:=qT4 qu2 false r76
attribute [go_sem] T76
def tb76:Fns:=lk [(110,T110.sp)]
theorem tb76_ok:FnsOk Tryz.prog tb76:= .cons f110 .nil
theorem tk76:tb76 110=some T110.sp:=rfl
section
attribute [local go_sem] tk76 Tryz.results76
theorem f76:FnFact Tryz.prog 76 T76.sp:=by
 refine valid_m ty_ok tb76_ok Tryz.func76 rfl Tryz.ntmps76 fun a0 r hr=>⟨nL rfl,fun stop S=> ?_⟩
 replace hr:r76 a0=some r:=hr
 unfold r76 at hr
 refine S.gx [] ?_
 exact D0 hr
end
def r75 (a0:Int):Option (Bool):=
 (r76 a0).bind fun v1=>
  some (!v1)
def T75:=qT4 qu2 false r75
attribute [go_sem] T75
def tb75:Fns:=lk [(76,T76.sp)]
theorem tb75_ok:FnsOk Tryz.prog tb75:= .cons f76 .nil
theorem tk75:tb75 76=some T76.sp:=rfl
section
attribute [local go_sem] tk75 Tryz.results75
theorem f75:FnFact Tryz.prog 75 T75.sp:=by
 refine valid_m ty_ok tb75_ok Tryz.func75 rfl Tryz.ntmps75 fun a0 r hr=>⟨nL rfl,fun stop S=> ?_⟩
 replace hr:r75 a0=some r:=hr
 unfold r75 at hr
 refine S.gx [] ?_
 exact D0 hr
end
def b104a_1 (a0:L_I):Bd Int Int:=fun s1=>
 if (decide (s1<(a0.length:Int)))=true then
  if 0≤s1∧s1<(a0.length:Int) then
   bindC (r75 (a0.getD s1.toNat default)) fun v1=>
    if v1=true then
     .out (some s1)
     else .next (IntKind.i64.wrap (s1+1))
   else .out none
  else .out (some (-1))
def r104a (a0:L_I):Option (Int):=
 iterC (b104a_1 a0) 1000000000 0
def T104a:=qT28 qu3 false r104a
attribute [go_sem] T104a
def tb104a:Fns:=lk [(75,T75.sp)]
theorem tb104a_ok:FnsOk Tryz.prog tb104a:= .cons f75 .nil
theorem tk104a:tb104a 75=some T75.sp:=rfl
section
attribute [local go_sem] tk104a Tryz.results104
theorem f104a:FnFact Tryz.prog 104 T104a.sp:=by
 refine valid_m ty_ok tb104a_ok Tryz.func104 rfl Tryz.ntmps104 fun a0 r hr=>⟨nL rfl,fun stop S=> ?_⟩
 replace hr:r104a a0=some r:=hr
 unfold r104a at hr
 refine S.gx [] ?_
 refine gr ?_
 refine S.sees [0,1,7,8] [] [] ?_ (Stop.iter S (fun s1=>⟨[(0,.c (.d (encF 1 d_I a0))),(1,.c (.clo 75 [])),(7,.c (.d (.int .i64 (a0.length:Int)))),(8,.c (.d (.int .i64 s1)))],[],[]⟩) (b104a_1 a0) (fun q=>q=r) hr rfl ?_)
 ·exact lf
 ·intro s1 hr
  unfold b104a_1 at hr
  refine S.gx [] ?_
  exact D1 (S.ss [0,1,7,8] [] []) hr
end
def r70 (a0:L_I):Option (Bool):=
 (r104a a0).bind fun v1=>
  some (decide (v1≥0))
def T70:=qT28 qu2 false r70
attribute [go_sem] T70
def tb70:Fns:=lk [(104,T104a.sp)]
theorem tb70_ok:FnsOk Tryz.prog tb70:= .cons f104a .nil
theorem tk70:tb70 104=some T104a.sp:=rfl
section
attribute [local go_sem] tk70 Tryz.results70
theorem f70:FnFact Tryz.prog 70 T70.sp:=by
 refine valid_m ty_ok tb70_ok Tryz.func70 rfl Tryz.ntmps70 fun a0 r hr=>⟨nL rfl,fun stop S=> ?_⟩
 replace hr:r70 a0=some r:=hr
 unfold r70 at hr
 refine S.gx [] ?_
 exact D0 hr
end
def r79 (x1 x2:Int) (x3:L_II) (x4:L_LIIE) (x5:L_II) (x0:L_LIIE) (a1:Int):Option (Int):=
 (r110 a1 0 (IntKind.i64.wrap ((x0.length:Int) - 1))).bind fun v1=>
  (r78 v1 6).bind fun v2=>
   some v2
def T79:=qT13 qu3 false r79
attribute [go_sem] T79
def tb79:Fns:=lk [(78,T78.sp),(110,T110.sp)]
theorem tb79_ok:FnsOk Tryz.prog tb79:= .cons f78 (.cons f110 .nil)
theorem tk79:tb79 78=some T78.sp∧tb79 110=some T110.sp:=⟨rfl,rfl⟩
section
attribute [local go_sem] tk79 Tryz.results79
theorem f79:FnFact Tryz.prog 79 T79.sp:=by
 refine valid_m ty_ok tb79_ok Tryz.func79 rfl Tryz.ntmps79 fun ⟨x1,x2,x3,x4,x5,x0,a1⟩ r hr=>⟨nL rfl,fun stop S=> ?_⟩
 replace hr:r79 x1 x2 x3 x4 x5 x0 a1=some r:=hr
 unfold r79 at hr
 refine S.gx [] ?_
 exact D0 hr
end
def r48 (x0 x2:Int) (x3:L_II) (x4:L_LIIE) (x5:L_II) (x6:L_LIIE) (x1:L_I) (x7:Int):Option (Int):=
 (r70 x1).bind fun v1=>
  (r78 ((x1.length:Int) == x0) 10).bind fun v2=>
   (r78 (!v1) 2).bind fun v3=>
    (r79 x0 x2 x3 x4 x5 x6 x7).bind fun v4=>
     (r77 [v2,v3,v4]).bind fun v5=>
      some v5
def T48:=qT29 qu3 false r48
attribute [go_sem] T48
def tb48:Fns:=lk [(70,T70.sp),(77,T77.sp),(78,T78.sp),(79,T79.sp)]
theorem tb48_ok:FnsOk Tryz.prog tb48:= .cons f70 (.cons f77 (.cons f78 (.cons f79 .nil)))
theorem tk48:tb48 70=some T70.sp∧tb48 77=some T77.sp∧tb48 78=some T78.sp∧tb48 79=some T79.sp:=⟨rfl,rfl,rfl,rfl⟩
section
attribute [local go_sem] tk48 Tryz.results48
theorem f48:FnFact Tryz.prog 48 T48.sp:=by
 refine valid_m ty_ok tb48_ok Tryz.func48 rfl Tryz.ntmps48 fun ⟨x0,x2,x3,x4,x5,x6,x1,x7⟩ r hr=>⟨nL rfl,fun stop S=> ?_⟩
 replace hr:r48 x0 x2 x3 x4 x5 x6 x1 x7=some r:=hr
 unfold r48 at hr
 refine S.gx [] ?_
 exact D0 hr
end
def r80 (a0:List (Int)):Option (List (Int)):=if a0.length*8≤140737488355328∧a0.length≤9223372036854775807 then some a0 else none
def T80:TSpec (List (Int)) where
 enc x:=[.c (encF 1 d_I x)]
 dec a:=decF g_I (aCell a 0 0)
 pre x:=(r80 x).isSome=true
 res x:=[.c (.own (encF 1 d_I ((r80 x).getD default)))]
 al:=false
theorem TP80 (c0:D):T80.sp.pre [.c c0]=(eqvArgs [.c c0] [.c (encF 1 d_I (decF g_I c0))]∧(r80 (decF g_I c0)).isSome=true):=(rfl)
theorem TR80 (c0:D):T80.sp.res [.c c0]=[.c (.own (encF 1 d_I ((r80 (decF g_I c0)).getD default)))]:=(rfl)
theorem TA80:T80.sp.alias=false:=(rfl)
attribute [go_sem] TP80 TR80 TA80
theorem v80:Valid Tryz.prog 80 T80.sp:=by
 refine valid_t (fn:=Tryz.f80) (n:=8) ty_ok FnsOk.nil Tryz.func80 rfl Tryz.ntmps80 ?_
 rintro a0 hx
 obtain ⟨r,hr⟩:=oE (show (r80 a0).isSome=true from hx)
 have hres:T80.res a0=[.c (.own (encF 1 d_I r))]:=by simp only [T80,hr,Option.getD_some]
 refine ⟨nL rfl,fun stop S=> ?_⟩
 rw [hres] at S
 unfold r80 at hr
 obtain ⟨hg,hr⟩:=of_guard0 hr
 cases hr
 refine S.goB [1] 1000 ?_
 simp only [go_sem,T80,Bool.not_true,Bool.not_false,Option.map_some,Int.reduceToNat,Nat.reduceEqDiff,Nat.reduceBEq,Nat.reduceLT,Nat.reduceAdd,Nat.reduceMul,Nat.reduceSub,Nat.reduceLeDiff, ↓reduceIte,reduceCtorEq,Tryz.results80]
 refine S.eqnil 0 3 4 26 26 3 rfl rfl rfl rfl rfl rfl rfl rfl rfl rfl (by decide) (by decide) ?_
 intro b hb
 refine S.goB [] 1000 ?_
 simp only [go_sem,T80,Bool.not_true,Bool.not_false,Option.map_some,Int.reduceToNat,Nat.reduceEqDiff,Nat.reduceBEq,Nat.reduceLT,Nat.reduceAdd,Nat.reduceMul,Nat.reduceSub,Nat.reduceLeDiff, ↓reduceIte,reduceCtorEq,Tryz.results80]
 have hb':b=true→a0.length=0:=hb
 refine ⟨?_,?_⟩<;>intro hc
 ·simpa using hb' hc
 ·refine ⟨by omega,by omega,?_⟩
  (simp (maxDischargeDepth:=8) [go_sem])
theorem f80:FnFact Tryz.prog 80 T80.sp:=⟨⟨Tryz.f80,Tryz.func80,by decide,rfl⟩,v80⟩
def r112 (a0 a1:Int):Option (Int):=
 if a1≠0 then
  if a1≠0 then
   if (decide ((a0.tmod a1)<0))=true then
    some (IntKind.i64.wrap ((IntKind.i64.wrap (a0.tdiv a1)) - 1))
    else some (IntKind.i64.wrap (a0.tdiv a1))
   else none
  else none
def T112:=qT7 qu3 false r112
attribute [go_sem] T112
def tb112:Fns:=lk []
theorem tb112_ok:FnsOk Tryz.prog tb112:=FnsOk.nil
section
attribute [local go_sem] Tryz.results112
theorem f112:FnFact Tryz.prog 112 T112.sp:=by
 refine valid_m ty_ok tb112_ok Tryz.func112 rfl Tryz.ntmps112 fun ⟨a0,a1⟩ r hr=>⟨nL rfl,fun stop S=> ?_⟩
 replace hr:r112 a0 a1=some r:=hr
 unfold r112 at hr
 refine S.gx [] ?_
 exact D0 hr
end
def r82 (x1 x2:Int) (x3:L_II) (x4:L_LIIE) (x5:L_II) (x0:L_LIIE) (a1 a2:Int):Option (Int):=
 if 0≤a1∧a1<(x0.length:Int) then
  (r111 x1 x2 x3 x4 x5 x0 a2).bind fun v1=>
   (r113 (x0.getD a1.toNat default) v1.1 v1.2).bind fun v2=>
    (r112 v2.1 v2.2).bind fun v3=>
     some v3
  else none
def T82:=qT30 qu3 false r82
attribute [go_sem] T82
def tb82:Fns:=lk [(111,T111.sp),(112,T112.sp),(113,T113.sp)]
theorem tb82_ok:FnsOk Tryz.prog tb82:= .cons f111 (.cons f112 (.cons f113 .nil))
theorem tk82:tb82 111=some T111.sp∧tb82 112=some T112.sp∧tb82 113=some T113.sp:=⟨rfl,rfl,rfl⟩
section
attribute [local go_sem] tk82 Tryz.results82
theorem f82:FnFact Tryz.prog 82 T82.sp:=by
 refine valid_m ty_ok tb82_ok Tryz.func82 rfl Tryz.ntmps82 fun ⟨x1,x2,x3,x4,x5,x0,a1,a2⟩ r hr=>⟨nL rfl,fun stop S=> ?_⟩
 replace hr:r82 x1 x2 x3 x4 x5 x0 a1 a2=some r:=hr
 unfold r82 at hr
 refine S.gx [] ?_
 exact D0 hr
end
def r83 (a0 x0 x1:Int) (x2:L_II) (x3:L_LIIE) (x4:L_II) (x5:L_LIIE):Option (Bool):=
 (r84 x0 x1 x2 x3 x4 x5 a0).bind fun v1=>
  some (!v1)
def T83:=qT14 qu2 false r83
attribute [go_sem] T83
def tb83:Fns:=lk [(84,T84.sp)]
theorem tb83_ok:FnsOk Tryz.prog tb83:= .cons f84 .nil
theorem tk83:tb83 84=some T84.sp:=rfl
section
attribute [local go_sem] tk83 Tryz.results83
theorem f83:FnFact Tryz.prog 83 T83.sp:=by
 refine valid_m ty_ok tb83_ok Tryz.func83 rfl Tryz.ntmps83 fun ⟨a0,x0,x1,x2,x3,x4,x5⟩ r hr=>⟨nL rfl,fun stop S=> ?_⟩
 replace hr:r83 a0 x0 x1 x2 x3 x4 x5=some r:=hr
 unfold r83 at hr
 refine S.gx [] ?_
 exact D0 hr
end
def b104b_1 (a0:L_I) (x0 x1:Int) (x2:L_II) (x3:L_LIIE) (x4:L_II) (x5:L_LIIE):Bd Int Int:=fun s1=>
 if (decide (s1<(a0.length:Int)))=true then
  if 0≤s1∧s1<(a0.length:Int) then
   bindC (r83 (a0.getD s1.toNat default) x0 x1 x2 x3 x4 x5) fun v1=>
    if v1=true then
     .out (some s1)
     else .next (IntKind.i64.wrap (s1+1))
   else .out none
  else .out (some (-1))
def r104b (a0:L_I) (x0 x1:Int) (x2:L_II) (x3:L_LIIE) (x4:L_II) (x5:L_LIIE):Option (Int):=
 iterC (b104b_1 a0 x0 x1 x2 x3 x4 x5) 1000000000 0
def T104b:=qT31 qu3 false r104b
attribute [go_sem] T104b
def tb104b:Fns:=lk [(83,T83.sp)]
theorem tb104b_ok:FnsOk Tryz.prog tb104b:= .cons f83 .nil
theorem tk104b:tb104b 83=some T83.sp:=rfl
section
attribute [local go_sem] tk104b Tryz.results104
theorem f104b:FnFact Tryz.prog 104 T104b.sp:=by
 refine valid_m ty_ok tb104b_ok Tryz.func104 rfl Tryz.ntmps104 fun ⟨a0,x0,x1,x2,x3,x4,x5⟩ r hr=>⟨nL rfl,fun stop S=> ?_⟩
 replace hr:r104b a0 x0 x1 x2 x3 x4 x5=some r:=hr
 unfold r104b at hr
 refine S.gx [] ?_
 refine gr ?_
 refine S.sees [0,1,7,8] [] [] ?_ (Stop.iter S (fun s1=>⟨[(0,.c (.d (encF 1 d_I a0))),(1,.c (.clo 83 [.sptr [.int .i64 x0,.int .i64 x1,encF 2 d_II x2,encF 1 d_LIIE x3,encF 2 d_II x4,encF 1 d_LIIE x5] 0])),(7,.c (.d (.int .i64 (a0.length:Int)))),(8,.c (.d (.int .i64 s1)))],[],[]⟩) (b104b_1 a0 x0 x1 x2 x3 x4 x5) (fun q=>q=r) hr rfl ?_)
 ·exact lf
 ·intro s1 hr
  unfold b104b_1 at hr
  refine S.gx [] ?_
  exact D1 (S.ss [0,1,7,8] [] []) hr
end
def r70a (a0:L_I) (x0 x1:Int) (x2:L_II) (x3:L_LIIE) (x4:L_II) (x5:L_LIIE):Option (Bool):=
 (r104b a0 x0 x1 x2 x3 x4 x5).bind fun v1=>
  some (decide (v1≥0))
def T70a:=qT31 qu2 false r70a
attribute [go_sem] T70a
def tb70a:Fns:=lk [(104,T104b.sp)]
theorem tb70a_ok:FnsOk Tryz.prog tb70a:= .cons f104b .nil
theorem tk70a:tb70a 104=some T104b.sp:=rfl
section
attribute [local go_sem] tk70a Tryz.results70
theorem f70a:FnFact Tryz.prog 70 T70a.sp:=by
 refine valid_m ty_ok tb70a_ok Tryz.func70 rfl Tryz.ntmps70 fun ⟨a0,x0,x1,x2,x3,x4,x5⟩ r hr=>⟨nL rfl,fun stop S=> ?_⟩
 replace hr:r70a a0 x0 x1 x2 x3 x4 x5=some r:=hr
 unfold r70a at hr
 refine S.gx [] ?_
 exact D0 hr
end
def b49_3 (x1 x0:Int) (x2:L_II) (x3:L_LIIE) (x4:L_II) (x5:L_LIIE) (x6:L_I) (v20:Int):Bd (Int×(List (Int))) (L_I×Int×Int):=fun s3=>
 if (decide (s3.1<(x6.length:Int)))=true then
  if 0≤s3.1∧s3.1<(x6.length:Int) then
   if 0≤s3.1∧s3.1<(s3.2.length:Int) then
    if 0≤s3.1∧s3.1<(s3.2.length:Int) then
     .next (IntKind.i64.wrap (s3.1+1),s3.2.set s3.1.toNat (IntKind.i64.wrap ((s3.2.getD s3.1.toNat default)+(x6.getD s3.1.toNat default))))
     else .out none
    else .out none
   else .out none
  else .out ((r70a s3.2 x1 x0 x2 x3 x4 x5).bind fun v24=>
   (r78 (!v24) 22).bind fun v25=>
    some (s3.2,v20,v25))
def b49_2 (x1 x0:Int) (x2:L_II) (x3:L_LIIE) (x4:L_II) (x5:L_LIIE) (x6:L_I) (x7:Int):Bd (Int×(List (Int))) (L_I×Int×Int):=fun s2=>
 if (decide ((IntKind.i64.wrap (s2.1+1))<(s2.2.length:Int)))=true then
  if 0≤s2.1∧s2.1<(s2.2.length:Int) then
   bindC (r111 x1 x0 x2 x3 x4 x5 (s2.2.getD s2.1.toNat default)) fun v11=>
    if 0≤IntKind.i64.wrap (s2.1+1)∧IntKind.i64.wrap (s2.1+1)<(s2.2.length:Int) then
     bindC (r111 x1 x0 x2 x3 x4 x5 (s2.2.getD (IntKind.i64.wrap (s2.1+1)).toNat default)) fun v12=>
      bindC (r112 (IntKind.i64.wrap (x0*(IntKind.i64.wrap ((IntKind.i64.wrap (v11.1*v12.2)) - (IntKind.i64.wrap (v12.1*v11.2)))))) (IntKind.i64.wrap ((IntKind.i64.wrap (1000*v11.2))*v12.2))) fun v13=>
       if 0≤s2.1∧s2.1<(s2.2.length:Int) then
        if 0≤IntKind.i64.wrap (s2.1+1)∧IntKind.i64.wrap (s2.1+1)<(s2.2.length:Int) then
         if 0≤s2.1∧s2.1<(s2.2.length:Int) then
          if 0≤IntKind.i64.wrap (s2.1+1)∧IntKind.i64.wrap (s2.1+1)<(s2.2.length:Int) then
           .next (IntKind.i64.wrap (s2.1+2),(s2.2.set s2.1.toNat (IntKind.i64.wrap ((s2.2.getD s2.1.toNat default) - v13))).set (IntKind.i64.wrap (s2.1+1)).toNat (IntKind.i64.wrap ((s2.2.getD (IntKind.i64.wrap (s2.1+1)).toNat default)+v13)))
           else .out none
          else .out none
         else .out none
        else .out none
     else .out none
   else .out none
  else .out (if 0≤0∧0<(s2.2.length:Int) then
   (r82 x1 x0 x2 x3 x4 x5 x7 (s2.2.getD 0 default)).bind fun v20=>
    if 0≤0∧0<(s2.2.length:Int) then
     if 0≤0∧0<(s2.2.length:Int) then
      iterC (b49_3 x1 x0 x2 x3 x4 x5 x6 v20) 1000000000 (0,s2.2.set 0 (IntKind.i64.wrap ((s2.2.getD 0 default) - v20)))
      else none
     else none
   else none)
def b49_1 (x1 x0:Int) (x2:L_II) (x3:L_LIIE) (x4:L_II) (x5:L_LIIE) (x6:L_I) (x7:Int):Bd (Int×(List (Int))) (L_I×Int×Int):=fun s1=>
 if (decide ((IntKind.i64.wrap (s1.1+1))<(s1.2.length:Int)))=true then
  if 0≤s1.1∧s1.1<(s1.2.length:Int) then
   bindC (r111 x1 x0 x2 x3 x4 x5 (s1.2.getD s1.1.toNat default)) fun v2=>
    if 0≤IntKind.i64.wrap (s1.1+1)∧IntKind.i64.wrap (s1.1+1)<(s1.2.length:Int) then
     bindC (r111 x1 x0 x2 x3 x4 x5 (s1.2.getD (IntKind.i64.wrap (s1.1+1)).toNat default)) fun v3=>
      bindC (r112 (IntKind.i64.wrap (x0*(IntKind.i64.wrap ((IntKind.i64.wrap (v2.1*v3.2)) - (IntKind.i64.wrap (v3.1*v2.2)))))) (IntKind.i64.wrap ((IntKind.i64.wrap (1000*v2.2))*v3.2))) fun v4=>
       if 0≤s1.1∧s1.1<(s1.2.length:Int) then
        if 0≤IntKind.i64.wrap (s1.1+1)∧IntKind.i64.wrap (s1.1+1)<(s1.2.length:Int) then
         if 0≤s1.1∧s1.1<(s1.2.length:Int) then
          if 0≤IntKind.i64.wrap (s1.1+1)∧IntKind.i64.wrap (s1.1+1)<(s1.2.length:Int) then
           .next (IntKind.i64.wrap (s1.1+2),(s1.2.set s1.1.toNat (IntKind.i64.wrap ((s1.2.getD s1.1.toNat default) - v4))).set (IntKind.i64.wrap (s1.1+1)).toNat (IntKind.i64.wrap ((s1.2.getD (IntKind.i64.wrap (s1.1+1)).toNat default)+v4)))
           else .out none
          else .out none
         else .out none
        else .out none
     else .out none
   else .out none
  else .out (iterC (b49_2 x1 x0 x2 x3 x4 x5 x6 x7) 1000000000 (1,s1.2))
def r49 (x1 x0:Int) (x2:L_II) (x3:L_LIIE) (x4:L_II) (x5:L_LIIE) (a1 x6:L_I) (x7:Int):Option (L_I×Int×Int):=
 (r80 a1).bind fun v1=>
  iterC (b49_1 x1 x0 x2 x3 x4 x5 x6 x7) 1000000000 (0,v1)
def T49:=qT32 qu14 false r49
attribute [go_sem] T49
def tb49:Fns:=lk [(70,T70a.sp),(78,T78.sp),(80,T80.sp),(82,T82.sp),(111,T111.sp),(112,T112.sp)]
theorem tb49_ok:FnsOk Tryz.prog tb49:= .cons f70a (.cons f78 (.cons f80 (.cons f82 (.cons f111 (.cons f112 .nil)))))
theorem tk49:tb49 70=some T70a.sp∧tb49 78=some T78.sp∧tb49 80=some T80.sp∧tb49 82=some T82.sp∧tb49 111=some T111.sp∧tb49 112=some T112.sp:=⟨rfl,rfl,rfl,rfl,rfl,rfl⟩
section
attribute [local go_sem] tk49 Tryz.results49 Tryz.results81
theorem f49:FnFact Tryz.prog 49 T49.sp:=by
 refine valid_m ty_ok tb49_ok Tryz.func49 rfl Tryz.ntmps49 fun ⟨x1,x0,x2,x3,x4,x5,a1,x6,x7⟩ r hr=>⟨nL rfl,fun stop S=> ?_⟩
 replace hr:r49 x1 x0 x2 x3 x4 x5 a1 x6 x7=some r:=hr
 unfold r49 at hr
 refine S.gx [2,3] ?_
 obtain ⟨v1,hv1,hr⟩:=of_bind0 hr
 refine gb hv1 ?_
 refine S.inl 2 [3,5,9] [] Tryz.func81 (by decide) rfl Tryz.ntmps81 (fun cx e=>drawn_ok ty_ok tb49_ok cx e) (some 18) rfl rfl rfl rfl (nL rfl) (nL rfl) ?_
 refine gs ?_
 refine gr ?_
 intro stop1 S1
 refine S1.gx [6] ?_
 refine gr ?_
 refine S1.sees [1,3,6] [(100003,100003),(3,3),(5,5)] [(15,15)] ?_ (Stop.iter S1 (fun s1=>⟨[(1,.c (.own 15)),(3,.c (.ref 100003 0)),(6,.c (.d (.int .i64 s1.1)))],[(100003,[.d (.int .i64 x1),.d (.int .i64 x0),.d (encF 2 d_II x2),.d (encF 1 d_LIIE x3),.d (encF 2 d_II x4),.d (encF 1 d_LIIE x5)]),(3,[.d (.int .i64 x1),.d (.int .i64 x0),.d (encF 2 d_II x2),.d (encF 1 d_LIIE x3),.d (encF 2 d_II x4),.d (encF 1 d_LIIE x5)]),(5,[.d (encF 1 d_I x6),.d (.int .i64 x7)])],[(15,.owned (encF 1 d_I s1.2))]⟩) (b49_1 x1 x0 x2 x3 x4 x5 x6 x7) (fun q=>q=r) hr rfl ?_)
 ·exact lf
 ·intro s1 hr
  unfold b49_1 at hr
  refine S1.gx [6] ?_
  refine gr ?_
  refine iW1 hr (fun hc hr=> ?_) fun hc hr=> ?_
  ·obtain ⟨hg9,hr⟩:=of_guard1 hr
   obtain ⟨v2,hv2,hr⟩:=of_bind1 hr
   obtain ⟨hg10,hr⟩:=of_guard1 hr
   obtain ⟨v3,hv3,hr⟩:=of_bind1 hr
   obtain ⟨v4,hv4,hr⟩:=of_bind1 hr
   refine gb hv2 ?_
   refine gb hv3 ?_
   refine gb hv4 ?_
   refine S1.prune [1,3,6,9] ?_
   refine S1.gx [] ?_
   exact D1 (S1.ss [1,3,6] [(100003,100003),(3,3),(5,5)] [(15,15)]) hr
  ·refine gr ?_
   have hr:=of_out0 hr
   refine gr ?_
   refine gr ?_
   refine S.gx [2,3] ?_
   refine gr ?_
   refine S.inl 2 [3,5,9] [] Tryz.func81 (by decide) rfl Tryz.ntmps81 (fun cx e=>drawn_ok ty_ok tb49_ok cx e) (some 21) rfl rfl rfl rfl (nL rfl) (nL rfl) ?_
   refine gs ?_
   refine gr ?_
   intro stop1 S1
   refine S1.gx [6] ?_
   refine gr ?_
   refine S1.sees [1,3,6] [(200003,200003),(3,3),(5,5)] [(15,15)] ?_ (Stop.iter S1 (fun s2=>⟨[(1,.c (.own 15)),(3,.c (.ref 200003 0)),(6,.c (.d (.int .i64 s2.1)))],[(200003,[.d (.int .i64 x1),.d (.int .i64 x0),.d (encF 2 d_II x2),.d (encF 1 d_LIIE x3),.d (encF 2 d_II x4),.d (encF 1 d_LIIE x5)]),(3,[.d (.int .i64 x1),.d (.int .i64 x0),.d (encF 2 d_II x2),.d (encF 1 d_LIIE x3),.d (encF 2 d_II x4),.d (encF 1 d_LIIE x5)]),(5,[.d (encF 1 d_I x6),.d (.int .i64 x7)])],[(15,.owned (encF 1 d_I s2.2))]⟩) (b49_2 x1 x0 x2 x3 x4 x5 x6 x7) (fun q=>q=r) hr rfl ?_)
   ·exact lf
   ·intro s2 hr
    unfold b49_2 at hr
    refine S1.gx [6] ?_
    refine gr ?_
    refine iW1 hr (fun hc hr=> ?_) fun hc hr=> ?_
    ·obtain ⟨hg18,hr⟩:=of_guard1 hr
     obtain ⟨v11,hv11,hr⟩:=of_bind1 hr
     obtain ⟨hg19,hr⟩:=of_guard1 hr
     obtain ⟨v12,hv12,hr⟩:=of_bind1 hr
     obtain ⟨v13,hv13,hr⟩:=of_bind1 hr
     refine gb hv11 ?_
     refine gb hv12 ?_
     refine gb hv13 ?_
     refine S1.prune [1,3,6,9] ?_
     refine S1.gx [] ?_
     exact D1 (S1.ss [1,3,6] [(200003,200003),(3,3),(5,5)] [(15,15)]) hr
    ·refine gr ?_
     have hr:=of_out0 hr
     refine gr ?_
     refine gr ?_
     refine S.gx [2,3] ?_
     obtain ⟨hg26,hr⟩:=of_guard0 hr
     obtain ⟨v20,hv20,hr⟩:=of_bind0 hr
     obtain ⟨hg27,hr⟩:=of_guard0 hr
     obtain ⟨hg28,hr⟩:=of_guard0 hr
     refine gb hv20 ?_
     refine S.sees [3,9,10,36,37,38] [(3,3)] [(15,15)] ?_ (Stop.iter S (fun s3=>⟨[(3,.c (.ref 3 0)),(9,.c (.own 15)),(10,.c (.d (.int .i64 v20))),(36,.c (.d (encF 1 d_I x6))),(37,.c (.d (.int .i64 (x6.length:Int)))),(38,.c (.d (.int .i64 s3.1)))],[(3,[.d (.int .i64 x1),.d (.int .i64 x0),.d (encF 2 d_II x2),.d (encF 1 d_LIIE x3),.d (encF 2 d_II x4),.d (encF 1 d_LIIE x5)])],[(15,.owned (encF 1 d_I s3.2))]⟩) (b49_3 x1 x0 x2 x3 x4 x5 x6 v20) (fun q=>q=r) hr rfl ?_)
     ·exact lf
     ·intro s3 hr
      unfold b49_3 at hr
      refine S.gx [2,3] ?_
      exact D1 (S.ss [3,9,10,36,37,38] [(3,3)] [(15,15)]) hr
end
def r20 (x2 x3:Int) (x4:L_II) (x5:L_LIIE) (a1 x0:L_I) (x1:Int):Option (L_I×Int):=
 (r47 x2 x3 x4 x5 a1).bind fun v1=>
  if (v1.2.2.2.2.2.2 == 0)=true then
   (r48 v1.1 v1.2.1 v1.2.2.1 v1.2.2.2.1 v1.2.2.2.2.1 v1.2.2.2.2.2.1 x0 x1).bind fun v2=>
    if (v2 != 0)=true then
     some ([],v2)
     else (r49 v1.1 v1.2.1 v1.2.2.1 v1.2.2.2.1 v1.2.2.2.2.1 v1.2.2.2.2.2.1 a1 x0 x1).bind fun v3=>
      if (v3.2.2 != 0)=true then
       some ([],v3.2.2)
       else some (v3.1,0)
   else if (v1.2.2.2.2.2.2 != 0)=true then
    some ([],v1.2.2.2.2.2.2)
    else (r49 v1.1 v1.2.1 v1.2.2.1 v1.2.2.2.1 v1.2.2.2.2.1 v1.2.2.2.2.2.1 a1 x0 x1).bind fun v4=>
     if (v4.2.2 != 0)=true then
      some ([],v4.2.2)
      else some (v4.1,0)
def T20:=qT33 qu15 false r20
attribute [go_sem] T20
def tb20:Fns:=lk [(47,T47.sp),(48,T48.sp),(49,T49.sp)]
theorem tb20_ok:FnsOk Tryz.prog tb20:= .cons f47 (.cons f48 (.cons f49 .nil))
theorem tk20:tb20 47=some T47.sp∧tb20 48=some T48.sp∧tb20 49=some T49.sp:=⟨rfl,rfl,rfl⟩
section
attribute [local go_sem] tk20 Tryz.results20
theorem f20:FnFact Tryz.prog 20 T20.sp:=by
 refine valid_m ty_ok tb20_ok Tryz.func20 rfl Tryz.ntmps20 fun ⟨x2,x3,x4,x5,a1,x0,x1⟩ r hr=>⟨nL rfl,fun stop S=> ?_⟩
 replace hr:r20 x2 x3 x4 x5 a1 x0 x1=some r:=hr
 unfold r20 at hr
 refine S.gx [7] ?_
 obtain ⟨v1,hv1,hr⟩:=of_bind0 hr
 refine gb hv1 ?_
 refine iW hr (fun hc hr=> ?_) fun hc hr=> ?_
 ·obtain ⟨v2,hv2,hr⟩:=of_bind0 hr
  refine gb hv2 ?_
  refine iW hr (fun hc hr=>D0 hr) fun hc hr=> ?_
  obtain ⟨v3,hv3,hr⟩:=of_bind0 hr
  refine gb hv3 ?_
  refine S.prune [9,10] ?_
  refine S.gx [] ?_
  exact D0 hr
 ·refine gr ?_
  refine iW hr (fun hc hr=>D0 hr) fun hc hr=> ?_
  obtain ⟨v4,hv4,hr⟩:=of_bind0 hr
  refine gb hv4 ?_
  refine S.prune [9,10] ?_
  refine S.gx [] ?_
  exact D0 hr
end
def b24_3 (v1:Int×Int×L_II×L_LIIE×L_I×L_I×L_II×Int×Int×Int) (v2:L_IIIIIH×Int) (s2:Int×L_I×(List (Int×Int))):Bd (Int×L_I×(List (Int×Int))) (Ctl (Int×L_I×(List (Int×Int))) (L_II×Int)):=fun s3=>
 if (((v2.1.getD s2.1.toNat default).1) == 3)=true then
  if 0≤0∧0<(s3.2.1.length:Int) then
   bindC (r72 v1.1 v1.2.1 v1.2.2.1 v1.2.2.2.1 v1.2.2.2.2.1 v1.2.2.2.2.2.1 v1.2.2.2.2.2.2.1 v1.2.2.2.2.2.2.2.1 v1.2.2.2.2.2.2.2.2.1 (s3.2.1.getD 0 default) ((v2.1.getD s2.1.toNat default).2.2.2.2.1)) fun v9=>
    bindC (r39 ((!(decide (v9<0))) || (decide (s3.1<((v2.1.getD s2.1.toNat default).2.2.2.1)))) 24) fun v10=>
     if ((v10 != 0) || (!(decide (v9<0))))=true then
      .out (some (if (v10 != 0)=true then
       .out (some ([],v10))
       else .next (IntKind.i64.wrap (s2.1+1),s3.2.1,s3.2.2)))
      else if ((s3.2.2.length:Int) == 200)=true then
       .out (some (.out (some ([],8))))
       else bindC (r68 v1.1 v1.2.1 v1.2.2.1 v1.2.2.2.1 v1.2.2.2.2.1 v1.2.2.2.2.2.1 v1.2.2.2.2.2.2.1 v1.2.2.2.2.2.2.2.1 v1.2.2.2.2.2.2.2.2.1 ((v2.1.getD s2.1.toNat default).2.1) ((v2.1.getD s2.1.toNat default).2.2.1)) fun v11=>
        bindC (r20 v1.1 v1.2.1 v1.2.2.1 v1.2.2.2.1 s3.2.1 v11.1 v11.2) fun v12=>
         if (v12.2 != 0)=true then
          if (v12.2 != 0)=true then
           .out (some (if (v12.2 != 0)=true then
            .out (some ([],v12.2))
            else .next (IntKind.i64.wrap (s2.1+1),s3.2.1,s3.2.2)))
           else .next (IntKind.i64.wrap (s3.1+1),s3.2.1,s3.2.2)
          else if (s3.2.2.length+1)*16≤140737488355328∧s3.2.2.length+1≤9223372036854775807 then
           .next (IntKind.i64.wrap (s3.1+1),v12.1,s3.2.2++[((v2.1.getD s2.1.toNat default).2.1,(v2.1.getD s2.1.toNat default).2.2.1)])
           else .out none
   else .out none
  else if (((v2.1.getD s2.1.toNat default).1) == 4)=true then
   if 0≤0∧0<(s3.2.1.length:Int) then
    bindC (r72 v1.1 v1.2.1 v1.2.2.1 v1.2.2.2.1 v1.2.2.2.2.1 v1.2.2.2.2.2.1 v1.2.2.2.2.2.2.1 v1.2.2.2.2.2.2.2.1 v1.2.2.2.2.2.2.2.2.1 (s3.2.1.getD 0 default) ((v2.1.getD s2.1.toNat default).2.2.2.2.1)) fun v15=>
     bindC (r39 ((!(decide (v15>0))) || (decide (s3.1<((v2.1.getD s2.1.toNat default).2.2.2.1)))) 24) fun v16=>
      if ((v16 != 0) || (!(decide (v15>0))))=true then
       .out (some (if (v16 != 0)=true then
        .out (some ([],v16))
        else .next (IntKind.i64.wrap (s2.1+1),s3.2.1,s3.2.2)))
       else if ((s3.2.2.length:Int) == 200)=true then
        .out (some (.out (some ([],8))))
        else bindC (r68 v1.1 v1.2.1 v1.2.2.1 v1.2.2.2.1 v1.2.2.2.2.1 v1.2.2.2.2.2.1 v1.2.2.2.2.2.2.1 v1.2.2.2.2.2.2.2.1 v1.2.2.2.2.2.2.2.2.1 ((v2.1.getD s2.1.toNat default).2.1) ((v2.1.getD s2.1.toNat default).2.2.1)) fun v17=>
         bindC (r20 v1.1 v1.2.1 v1.2.2.1 v1.2.2.2.1 s3.2.1 v17.1 v17.2) fun v18=>
          if (v18.2 != 0)=true then
           if (v18.2 != 0)=true then
            .out (some (if (v18.2 != 0)=true then
             .out (some ([],v18.2))
             else .next (IntKind.i64.wrap (s2.1+1),s3.2.1,s3.2.2)))
            else .next (IntKind.i64.wrap (s3.1+1),s3.2.1,s3.2.2)
           else if (s3.2.2.length+1)*16≤140737488355328∧s3.2.2.length+1≤9223372036854775807 then
            .next (IntKind.i64.wrap (s3.1+1),v18.1,s3.2.2++[((v2.1.getD s2.1.toNat default).2.1,(v2.1.getD s2.1.toNat default).2.2.1)])
            else .out none
    else .out none
   else bindC (r39 ((!(decide (s3.1<((v2.1.getD s2.1.toNat default).2.2.2.1)))) || (decide (s3.1<((v2.1.getD s2.1.toNat default).2.2.2.1)))) 24) fun v21=>
    if ((v21 != 0) || (!(decide (s3.1<((v2.1.getD s2.1.toNat default).2.2.2.1)))))=true then
     .out (some (if (v21 != 0)=true then
      .out (some ([],v21))
      else .next (IntKind.i64.wrap (s2.1+1),s3.2.1,s3.2.2)))
     else if ((s3.2.2.length:Int) == 200)=true then
      .out (some (.out (some ([],8))))
      else bindC (r68 v1.1 v1.2.1 v1.2.2.1 v1.2.2.2.1 v1.2.2.2.2.1 v1.2.2.2.2.2.1 v1.2.2.2.2.2.2.1 v1.2.2.2.2.2.2.2.1 v1.2.2.2.2.2.2.2.2.1 ((v2.1.getD s2.1.toNat default).2.1) ((v2.1.getD s2.1.toNat default).2.2.1)) fun v22=>
       bindC (r20 v1.1 v1.2.1 v1.2.2.1 v1.2.2.2.1 s3.2.1 v22.1 v22.2) fun v23=>
        if (v23.2 != 0)=true then
         if (v23.2 != 0)=true then
          .out (some (if (v23.2 != 0)=true then
           .out (some ([],v23.2))
           else .next (IntKind.i64.wrap (s2.1+1),s3.2.1,s3.2.2)))
          else .next (IntKind.i64.wrap (s3.1+1),s3.2.1,s3.2.2)
         else if (s3.2.2.length+1)*16≤140737488355328∧s3.2.2.length+1≤9223372036854775807 then
          .next (IntKind.i64.wrap (s3.1+1),v23.1,s3.2.2++[((v2.1.getD s2.1.toNat default).2.1,(v2.1.getD s2.1.toNat default).2.2.1)])
          else .out none
def b24_4 (v1:Int×Int×L_II×L_LIIE×L_I×L_I×L_II×Int×Int×Int) (v2:L_IIIIIH×Int) (s2:Int×L_I×(List (Int×Int))):Bd (Int×L_I×(List (Int×Int))) (Ctl (Int×L_I×(List (Int×Int))) (L_II×Int)):=fun s4=>
 if (((v2.1.getD s2.1.toNat default).1) == 3)=true then
  if 0≤0∧0<(s4.2.1.length:Int) then
   bindC (r72 v1.1 v1.2.1 v1.2.2.1 v1.2.2.2.1 v1.2.2.2.2.1 v1.2.2.2.2.2.1 v1.2.2.2.2.2.2.1 v1.2.2.2.2.2.2.2.1 v1.2.2.2.2.2.2.2.2.1 (s4.2.1.getD 0 default) ((v2.1.getD s2.1.toNat default).2.2.2.2.1)) fun v25=>
    bindC (r39 ((!(decide (v25<0))) || (decide (s4.1<((v2.1.getD s2.1.toNat default).2.2.2.1)))) 24) fun v26=>
     if ((v26 != 0) || (!(decide (v25<0))))=true then
      .out (some (if (v26 != 0)=true then
       .out (some ([],v26))
       else .next (IntKind.i64.wrap (s2.1+1),s4.2.1,s4.2.2)))
      else if ((s4.2.2.length:Int) == 200)=true then
       .out (some (.out (some ([],8))))
       else bindC (r68 v1.1 v1.2.1 v1.2.2.1 v1.2.2.2.1 v1.2.2.2.2.1 v1.2.2.2.2.2.1 v1.2.2.2.2.2.2.1 v1.2.2.2.2.2.2.2.1 v1.2.2.2.2.2.2.2.2.1 ((v2.1.getD s2.1.toNat default).2.1) v1.2.2.2.2.2.2.2.1) fun v27=>
        bindC (r20 v1.1 v1.2.1 v1.2.2.1 v1.2.2.2.1 s4.2.1 v27.1 v27.2) fun v28=>
         if (v28.2 != 0)=true then
          if (v28.2 != 0)=true then
           .out (some (if (v28.2 != 0)=true then
            .out (some ([],v28.2))
            else .next (IntKind.i64.wrap (s2.1+1),s4.2.1,s4.2.2)))
           else .next (IntKind.i64.wrap (s4.1+1),s4.2.1,s4.2.2)
          else if (s4.2.2.length+1)*16≤140737488355328∧s4.2.2.length+1≤9223372036854775807 then
           .next (IntKind.i64.wrap (s4.1+1),v28.1,s4.2.2++[((v2.1.getD s2.1.toNat default).2.1,v1.2.2.2.2.2.2.2.1)])
           else .out none
   else .out none
  else if (((v2.1.getD s2.1.toNat default).1) == 4)=true then
   if 0≤0∧0<(s4.2.1.length:Int) then
    bindC (r72 v1.1 v1.2.1 v1.2.2.1 v1.2.2.2.1 v1.2.2.2.2.1 v1.2.2.2.2.2.1 v1.2.2.2.2.2.2.1 v1.2.2.2.2.2.2.2.1 v1.2.2.2.2.2.2.2.2.1 (s4.2.1.getD 0 default) ((v2.1.getD s2.1.toNat default).2.2.2.2.1)) fun v31=>
     bindC (r39 ((!(decide (v31>0))) || (decide (s4.1<((v2.1.getD s2.1.toNat default).2.2.2.1)))) 24) fun v32=>
      if ((v32 != 0) || (!(decide (v31>0))))=true then
       .out (some (if (v32 != 0)=true then
        .out (some ([],v32))
        else .next (IntKind.i64.wrap (s2.1+1),s4.2.1,s4.2.2)))
       else if ((s4.2.2.length:Int) == 200)=true then
        .out (some (.out (some ([],8))))
        else bindC (r68 v1.1 v1.2.1 v1.2.2.1 v1.2.2.2.1 v1.2.2.2.2.1 v1.2.2.2.2.2.1 v1.2.2.2.2.2.2.1 v1.2.2.2.2.2.2.2.1 v1.2.2.2.2.2.2.2.2.1 ((v2.1.getD s2.1.toNat default).2.1) v1.2.2.2.2.2.2.2.1) fun v33=>
         bindC (r20 v1.1 v1.2.1 v1.2.2.1 v1.2.2.2.1 s4.2.1 v33.1 v33.2) fun v34=>
          if (v34.2 != 0)=true then
           if (v34.2 != 0)=true then
            .out (some (if (v34.2 != 0)=true then
             .out (some ([],v34.2))
             else .next (IntKind.i64.wrap (s2.1+1),s4.2.1,s4.2.2)))
            else .next (IntKind.i64.wrap (s4.1+1),s4.2.1,s4.2.2)
           else if (s4.2.2.length+1)*16≤140737488355328∧s4.2.2.length+1≤9223372036854775807 then
            .next (IntKind.i64.wrap (s4.1+1),v34.1,s4.2.2++[((v2.1.getD s2.1.toNat default).2.1,v1.2.2.2.2.2.2.2.1)])
            else .out none
    else .out none
   else bindC (r39 ((!(decide (s4.1<((v2.1.getD s2.1.toNat default).2.2.2.1)))) || (decide (s4.1<((v2.1.getD s2.1.toNat default).2.2.2.1)))) 24) fun v37=>
    if ((v37 != 0) || (!(decide (s4.1<((v2.1.getD s2.1.toNat default).2.2.2.1)))))=true then
     .out (some (if (v37 != 0)=true then
      .out (some ([],v37))
      else .next (IntKind.i64.wrap (s2.1+1),s4.2.1,s4.2.2)))
     else if ((s4.2.2.length:Int) == 200)=true then
      .out (some (.out (some ([],8))))
      else bindC (r68 v1.1 v1.2.1 v1.2.2.1 v1.2.2.2.1 v1.2.2.2.2.1 v1.2.2.2.2.2.1 v1.2.2.2.2.2.2.1 v1.2.2.2.2.2.2.2.1 v1.2.2.2.2.2.2.2.2.1 ((v2.1.getD s2.1.toNat default).2.1) v1.2.2.2.2.2.2.2.1) fun v38=>
       bindC (r20 v1.1 v1.2.1 v1.2.2.1 v1.2.2.2.1 s4.2.1 v38.1 v38.2) fun v39=>
        if (v39.2 != 0)=true then
         if (v39.2 != 0)=true then
          .out (some (if (v39.2 != 0)=true then
           .out (some ([],v39.2))
           else .next (IntKind.i64.wrap (s2.1+1),s4.2.1,s4.2.2)))
          else .next (IntKind.i64.wrap (s4.1+1),s4.2.1,s4.2.2)
         else if (s4.2.2.length+1)*16≤140737488355328∧s4.2.2.length+1≤9223372036854775807 then
          .next (IntKind.i64.wrap (s4.1+1),v39.1,s4.2.2++[((v2.1.getD s2.1.toNat default).2.1,v1.2.2.2.2.2.2.2.1)])
          else .out none
def b24_2 (v1:Int×Int×L_II×L_LIIE×L_I×L_I×L_II×Int×Int×Int) (v2:L_IIIIIH×Int):Bd (Int×L_I×(List (Int×Int))) (L_II×Int):=fun s2=>
 if (decide (s2.1<(v2.1.length:Int)))=true then
  if 0≤s2.1∧s2.1<(v2.1.length:Int) then
   bindC (r90 ((v2.1.getD s2.1.toNat default).1)) fun v8=>
    if v8=true then
     (iterC (b24_3 v1 v2 s2) 1000000000 (0,s2.2.1,s2.2.2)).getD (.out none)
     else (iterC (b24_4 v1 v2 s2) 1000000000 (0,s2.2.1,s2.2.2)).getD (.out none)
   else .out none
  else .out (some (s2.2.2,0))
def b24_1 (v1:Int×Int×L_II×L_LIIE×L_I×L_I×L_II×Int×Int×Int) (v2:L_IIIIIH×Int):Bd (Int×Int) (L_II×Int):=fun s1=>
 if (decide (s1.2<(v2.1.length:Int)))=true then
  if 0≤s1.2∧s1.2<(v2.1.length:Int) then
   bindC (r43 v1.1 v1.2.1 v1.2.2.1 v1.2.2.2.1 v1.2.2.2.2.1 v1.2.2.2.2.2.1 v1.2.2.2.2.2.2.1 v1.2.2.2.2.2.2.2.1 v1.2.2.2.2.2.2.2.2.1) fun v3=>
    bindC (r37 ((v2.1.getD s1.2.toNat default).2.2.1) 0 v3) fun v4=>
     bindC (r39 v4 6) fun v5=>
      bindC (r38 [s1.1,v5]) fun v6=>
       .next (v6,IntKind.i64.wrap (s1.2+1))
   else .out none
  else .out (if (s1.1 != 0)=true then
   some ([],s1.1)
   else iterC (b24_2 v1 v2) 1000000000 (0,v1.2.2.2.2.1,[]))
def r24 (x0 x1:Int) (x2:L_II) (x3:L_LIIE) (x4 x5:L_I) (x6:L_II) (x7 x8:Int) (a1:L_IIIIIH):Option (L_II×Int):=
 (r53 x0 x1 x2 x3 x4 x5 x6 x7 x8).bind fun v1=>
  if (v1.2.2.2.2.2.2.2.2.2 != 0)=true then
   some ([],v1.2.2.2.2.2.2.2.2.2)
   else (r54 a1).bind fun v2=>
    iterC (b24_1 v1 v2) 1000000000 (v2.2,0)
def T24:=qT34 qu16 false r24
attribute [go_sem] T24
def tb24:Fns:=lk [(20,T20.sp),(37,T37.sp),(38,T38.sp),(39,T39.sp),(43,T43.sp),(53,T53.sp),(54,T54.sp),(68,T68.sp),(72,T72.sp),(90,T90.sp)]
theorem tb24_ok:FnsOk Tryz.prog tb24:= .cons f20 (.cons f37 (.cons f38 (.cons f39 (.cons f43 (.cons f53 (.cons f54 (.cons f68 (.cons f72 (.cons f90 .nil)))))))))
theorem tk24:tb24 20=some T20.sp∧tb24 37=some T37.sp∧tb24 38=some T38.sp∧tb24 39=some T39.sp∧tb24 43=some T43.sp∧tb24 53=some T53.sp∧tb24 54=some T54.sp∧tb24 68=some T68.sp∧tb24 72=some T72.sp∧tb24 90=some T90.sp:=⟨rfl,rfl,rfl,rfl,rfl,rfl,rfl,rfl,rfl,rfl⟩
section
attribute [local go_sem] tk24 Tryz.results24 Tryz.results40 Tryz.results41 Tryz.results55 Tryz.results91
theorem f24:FnFact Tryz.prog 24 T24.sp:=by
 refine valid_m ty_ok tb24_ok Tryz.func24 rfl Tryz.ntmps24 fun ⟨x0,x1,x2,x3,x4,x5,x6,x7,x8,a1⟩ r hr=>⟨nL rfl,fun stop S=> ?_⟩
 replace hr:r24 x0 x1 x2 x3 x4 x5 x6 x7 x8 a1=some r:=hr
 unfold r24 at hr
 refine S.gx [12,16] ?_
 obtain ⟨v1,hv1,hr⟩:=of_bind0 hr
 refine gb hv1 ?_
 refine iW hr (fun hc hr=>D0 hr) fun hc hr=> ?_
 obtain ⟨v2,hv2,hr⟩:=of_bind0 hr
 refine gb hv2 ?_
 refine S.sees [6,7,8,28,29,30] [(6,6)] [(25,25)] ?_ (Stop.iter S (fun s1=>⟨[(6,.c (.ref 6 0)),(7,.c (.d (.int .i64 s1.1))),(8,.c (.own 25)),(28,.c (.own 25)),(29,.c (.d (.int .i64 (v2.1.length:Int)))),(30,.c (.d (.int .i64 s1.2)))],[(6,[.d (.int .i64 v1.1),.d (.int .i64 v1.2.1),.d (encF 2 d_II v1.2.2.1),.d (encF 1 d_LIIE v1.2.2.2.1),.d (encF 1 d_I v1.2.2.2.2.1),.d (encF 1 d_I v1.2.2.2.2.2.1),.d (encF 2 d_II v1.2.2.2.2.2.2.1),.d (.int .i64 v1.2.2.2.2.2.2.2.1),.d (.int .i64 v1.2.2.2.2.2.2.2.2.1)])],[(25,.owned (encF 6 d_IIIIIH v2.1))]⟩) (b24_1 v1 v2) (fun q=>q=r) hr rfl ?_)
 ·exact lf
 ·intro s1 hr
  unfold b24_1 at hr
  refine S.gx [12,16] ?_
  refine gr ?_
  refine iW1 hr (fun hc hr=>D1 (S.ss [6,7,8,28,29,30] [(6,6)] [(25,25)]) hr) fun hc hr=> ?_
  refine gr ?_
  have hr:=of_out0 hr
  refine gr ?_
  refine iW hr (fun hc hr=>D0 hr) fun hc hr=> ?_
  refine gr ?_
  refine S.inl 1 [8] [] Tryz.func40 (by decide) rfl Tryz.ntmps40 (fun cx e=>drawn_ok ty_ok tb24_ok cx e) (some 48) rfl rfl rfl rfl (nL rfl) (nL rfl) ?_
  refine gs ?_
  refine gr ?_
  intro stop1 S1
  refine S1.gx [] ?_
  refine gr ?_
  refine gr ?_
  refine S.gx [12,16] ?_
  refine gr ?_
  refine S.own0b 9 10 2000910 2 rfl rfl (nL rfl) rfl ?_
  refine S.sees [11,49,50,51] [(9,9)] [(2000910,2000910),(25,25)] ?_ (Stop.iter S (fun s2=>⟨[(11,.c (.ref 9 0)),(49,.c (.own 25)),(50,.c (.d (.int .i64 (v2.1.length:Int)))),(51,.c (.d (.int .i64 s2.1)))],[(9,[.d (.int .i64 v1.1),.d (.int .i64 v1.2.1),.d (encF 2 d_II v1.2.2.1),.d (encF 1 d_LIIE v1.2.2.2.1),.d (encF 1 d_I v1.2.2.2.2.1),.d (encF 1 d_I v1.2.2.2.2.2.1),.d (encF 2 d_II v1.2.2.2.2.2.2.1),.d (.int .i64 v1.2.2.2.2.2.2.2.1),.d (.int .i64 v1.2.2.2.2.2.2.2.2.1),.d (encF 1 d_I s2.2.1),.own 2000910])],[(2000910,.owned (encF 2 d_II s2.2.2)),(25,.owned (encF 6 d_IIIIIH v2.1))]⟩) (b24_2 v1 v2) (fun q=>q=r) hr rfl ?_)
  ·exact lf
  ·intro s2 hr
   unfold b24_2 at hr
   refine S.gx [12,16] ?_
   refine gr ?_
   refine iW1 hr (fun hc hr=> ?_) fun hc hr=>D0 hr
   obtain ⟨hg41,hr⟩:=of_guard1 hr
   refine gr ?_
   refine S.inl 2 [11,49,50,51] [] Tryz.func55 (by decide) rfl Tryz.ntmps55 (fun cx e=>drawn_ok ty_ok tb24_ok cx e) (some 57) rfl rfl rfl rfl (nL rfl) (nL rfl) ?_
   refine gs ?_
   refine gr ?_
   intro stop1 S1
   refine S1.gx [6,9] ?_
   obtain ⟨v8,hv8,hr⟩:=of_bind1 hr
   refine gb hv8 ?_
   refine iW1 hr (fun hc hr=> ?_) fun hc hr=> ?_
   ·refine gr ?_
    obtain ⟨q3,hq,hr⟩:=of_iter1 hr
    refine S1.sees [0,3,5,6] [(9,9),(3,3),(5,5)] [(25,25),(2000910,2000910)] ?_ (Stop.iter S1 (fun s3=>⟨[(0,.c (.ref 9 0)),(3,.c (.ref 3 0)),(5,.c (.ref 5 0)),(6,.c (.d (.int .i64 s3.1)))],[(9,[.d (.int .i64 v1.1),.d (.int .i64 v1.2.1),.d (encF 2 d_II v1.2.2.1),.d (encF 1 d_LIIE v1.2.2.2.1),.d (encF 1 d_I v1.2.2.2.2.1),.d (encF 1 d_I v1.2.2.2.2.2.1),.d (encF 2 d_II v1.2.2.2.2.2.2.1),.d (.int .i64 v1.2.2.2.2.2.2.2.1),.d (.int .i64 v1.2.2.2.2.2.2.2.2.1),.d (encF 1 d_I s3.2.1),.own 2000910]),(3,[.d (.int .i64 ((v2.1.getD s2.1.toNat default).1)),.d (.int .i64 ((v2.1.getD s2.1.toNat default).2.1)),.d (.int .i64 ((v2.1.getD s2.1.toNat default).2.2.1)),.d (.int .i64 ((v2.1.getD s2.1.toNat default).2.2.2.1)),.d (.int .i64 ((v2.1.getD s2.1.toNat default).2.2.2.2.1)),.d (hE ((v2.1.getD s2.1.toNat default).2.2.2.2.2))]),(5,[.d (.int .i64 ((v2.1.getD s2.1.toNat default).2.1)),.d (.int .i64 ((v2.1.getD s2.1.toNat default).2.2.1))])],[(25,.owned (encF 6 d_IIIIIH v2.1)),(2000910,.owned (encF 2 d_II s3.2.2))]⟩) (b24_3 v1 v2 s2) _ hq hr ?_)
    ·exact lf
    ·intro s3 hr
     unfold b24_3 at hr
     refine S1.gx [6,9] ?_
     refine gr ?_
     refine S1.inl 3 [0,3,5,6] [] Tryz.func91 (by decide) rfl Tryz.ntmps91 (fun cx e=>drawn_ok ty_ok tb24_ok cx e) (some 31) rfl rfl rfl rfl (nL rfl) (nL rfl) ?_
     refine gs ?_
     refine gr ?_
     intro stop2 S2
     refine S2.gx [] ?_
     refine gr ?_
     refine iW1 hr (fun hc hr=> ?_) fun hc hr=> ?_
     ·obtain ⟨hg14,hr⟩:=of_guard1 hr
      obtain ⟨v9,hv9,hr⟩:=of_bind1 hr
      obtain ⟨v10,hv10,hr⟩:=of_bind1 hr
      try simp only [hv9,hv10,Option.getD_some,Option.isSome_some,true_and,and_assoc]
      repeat (first | refine gA ?_ | refine gB ?_)
      refine gr ?_
      refine S1.gx [6,9] ?_
      repeat (first | refine gA ?_ | refine gB ?_)
      refine iW1 hr (fun hc hr=> ?_) fun hc hr=> ?_
      ·refine gr ?_
       replace hr:=goodC_out hr
       refine gr ?_
       refine S.gx [12,16] ?_
       exact D1 (S.ss [11,49,50,51] [(9,9)] [(2000910,2000910),(25,25)]) hr
      ·refine gr ?_
       refine S1.inl 2 [0,3,5,6] [] Tryz.func41 (by decide) rfl Tryz.ntmps41 (fun cx e=>drawn_ok ty_ok tb24_ok cx e) (some 43) rfl rfl rfl rfl (nL rfl) (nL rfl) ?_
       refine gs ?_
       refine gr ?_
       intro stop2 S2
       refine S2.gx [4] ?_
       refine gr ?_
       refine iW1 hr (fun hc hr=> ?_) fun hc hr=> ?_
       ·refine gr ?_
        refine gr ?_
        refine S1.gx [6,9] ?_
        refine gr ?_
        replace hr:=goodC_out hr
        refine gr ?_
        refine S.gx [12,16] ?_
        exact D0 hr
       ·obtain ⟨v11,hv11,hr⟩:=of_bind1 hr
        obtain ⟨v12,hv12,hr⟩:=of_bind1 hr
        refine gb hv11 ?_
        refine gb hv12 ?_
        refine S2.prune [0,4,7,8] ?_
        refine S2.gx [] ?_
        refine gr ?_
        refine gr ?_
        refine iW1 hr (fun hc hr=> ?_) fun hc hr=> ?_
        ·refine gr ?_
         refine gr ?_
         refine S1.gx [6,9] ?_
         refine gr ?_
         refine iW1 hr (fun hc hr=> ?_) fun hc hr=>D1 (S1.ss [0,3,5,6] [(9,9),(3,3),(5,5)] [(25,25),(2000910,2000910)]) hr
         refine gr ?_
         replace hr:=goodC_out hr
         refine gr ?_
         refine S.gx [12,16] ?_
         exact D1 (S.ss [11,49,50,51] [(9,9)] [(2000910,2000910),(25,25)]) hr
        ·obtain ⟨hg13,hr⟩:=of_guard1 hr
         refine gr ?_
         refine gr ?_
         refine S1.gx [6,9] ?_
         refine gr ?_
         refine S1.share 33 rfl ?_
         exact D1 (S1.ss [0,3,5,6] [(9,9),(3,3),(5,5)] [(25,25),(48,2000910)]) hr
     ·refine gr ?_
      refine iW1 hr (fun hc hr=> ?_) fun hc hr=> ?_
      ·obtain ⟨hg20,hr⟩:=of_guard1 hr
       obtain ⟨v15,hv15,hr⟩:=of_bind1 hr
       obtain ⟨v16,hv16,hr⟩:=of_bind1 hr
       try simp only [hv15,hv16,Option.getD_some,Option.isSome_some,true_and,and_assoc]
       repeat (first | refine gA ?_ | refine gB ?_)
       refine gr ?_
       refine S1.gx [6,9] ?_
       repeat (first | refine gA ?_ | refine gB ?_)
       refine iW1 hr (fun hc hr=> ?_) fun hc hr=> ?_
       ·refine gr ?_
        replace hr:=goodC_out hr
        refine gr ?_
        refine S.gx [12,16] ?_
        exact D1 (S.ss [11,49,50,51] [(9,9)] [(2000910,2000910),(25,25)]) hr
       ·refine gr ?_
        refine S1.inl 2 [0,3,5,6] [] Tryz.func41 (by decide) rfl Tryz.ntmps41 (fun cx e=>drawn_ok ty_ok tb24_ok cx e) (some 43) rfl rfl rfl rfl (nL rfl) (nL rfl) ?_
        refine gs ?_
        refine gr ?_
        intro stop2 S2
        refine S2.gx [4] ?_
        refine gr ?_
        refine iW1 hr (fun hc hr=> ?_) fun hc hr=> ?_
        ·refine gr ?_
         refine gr ?_
         refine S1.gx [6,9] ?_
         refine gr ?_
         replace hr:=goodC_out hr
         refine gr ?_
         refine S.gx [12,16] ?_
         exact D0 hr
        ·obtain ⟨v17,hv17,hr⟩:=of_bind1 hr
         obtain ⟨v18,hv18,hr⟩:=of_bind1 hr
         refine gb hv17 ?_
         refine gb hv18 ?_
         refine S2.prune [0,4,7,8] ?_
         refine S2.gx [] ?_
         refine gr ?_
         refine gr ?_
         refine iW1 hr (fun hc hr=> ?_) fun hc hr=> ?_
         ·refine gr ?_
          refine gr ?_
          refine S1.gx [6,9] ?_
          refine gr ?_
          refine iW1 hr (fun hc hr=> ?_) fun hc hr=>D1 (S1.ss [0,3,5,6] [(9,9),(3,3),(5,5)] [(25,25),(2000910,2000910)]) hr
          refine gr ?_
          replace hr:=goodC_out hr
          refine gr ?_
          refine S.gx [12,16] ?_
          exact D1 (S.ss [11,49,50,51] [(9,9)] [(2000910,2000910),(25,25)]) hr
         ·obtain ⟨hg19,hr⟩:=of_guard1 hr
          refine gr ?_
          refine gr ?_
          refine S1.gx [6,9] ?_
          refine gr ?_
          refine S1.share 33 rfl ?_
          exact D1 (S1.ss [0,3,5,6] [(9,9),(3,3),(5,5)] [(25,25),(48,2000910)]) hr
      ·obtain ⟨v21,hv21,hr⟩:=of_bind1 hr
       try simp only [hv21,oG,oI,true_and,and_assoc]
       repeat (first | refine gA ?_ | refine gB ?_)
       refine gr ?_
       refine S1.gx [6,9] ?_
       repeat (first | refine gA ?_ | refine gB ?_)
       refine iW1 hr (fun hc hr=> ?_) fun hc hr=> ?_
       ·refine gr ?_
        replace hr:=goodC_out hr
        refine gr ?_
        refine S.gx [12,16] ?_
        exact D1 (S.ss [11,49,50,51] [(9,9)] [(2000910,2000910),(25,25)]) hr
       ·refine gr ?_
        refine S1.inl 2 [0,3,5,6] [] Tryz.func41 (by decide) rfl Tryz.ntmps41 (fun cx e=>drawn_ok ty_ok tb24_ok cx e) (some 43) rfl rfl rfl rfl (nL rfl) (nL rfl) ?_
        refine gs ?_
        refine gr ?_
        intro stop2 S2
        refine S2.gx [4] ?_
        refine gr ?_
        refine iW1 hr (fun hc hr=> ?_) fun hc hr=> ?_
        ·refine gr ?_
         refine gr ?_
         refine S1.gx [6,9] ?_
         refine gr ?_
         replace hr:=goodC_out hr
         refine gr ?_
         refine S.gx [12,16] ?_
         exact D0 hr
        ·obtain ⟨v22,hv22,hr⟩:=of_bind1 hr
         obtain ⟨v23,hv23,hr⟩:=of_bind1 hr
         refine gb hv22 ?_
         refine gb hv23 ?_
         refine S2.prune [0,4,7,8] ?_
         refine S2.gx [] ?_
         refine gr ?_
         refine gr ?_
         refine iW1 hr (fun hc hr=> ?_) fun hc hr=> ?_
         ·refine gr ?_
          refine gr ?_
          refine S1.gx [6,9] ?_
          refine gr ?_
          refine iW1 hr (fun hc hr=> ?_) fun hc hr=>D1 (S1.ss [0,3,5,6] [(9,9),(3,3),(5,5)] [(25,25),(2000910,2000910)]) hr
          refine gr ?_
          replace hr:=goodC_out hr
          refine gr ?_
          refine S.gx [12,16] ?_
          exact D1 (S.ss [11,49,50,51] [(9,9)] [(2000910,2000910),(25,25)]) hr
         ·obtain ⟨hg24,hr⟩:=of_guard1 hr
          refine gr ?_
          refine gr ?_
          refine S1.gx [6,9] ?_
          refine gr ?_
          refine S1.share 33 rfl ?_
          exact D1 (S1.ss [0,3,5,6] [(9,9),(3,3),(5,5)] [(25,25),(48,2000910)]) hr
   ·refine gr ?_
    obtain ⟨q4,hq,hr⟩:=of_iter1 hr
    refine S1.sees [0,3,5,6] [(9,9),(3,3),(5,5)] [(25,25),(2000910,2000910)] ?_ (Stop.iter S1 (fun s4=>⟨[(0,.c (.ref 9 0)),(3,.c (.ref 3 0)),(5,.c (.ref 5 0)),(6,.c (.d (.int .i64 s4.1)))],[(9,[.d (.int .i64 v1.1),.d (.int .i64 v1.2.1),.d (encF 2 d_II v1.2.2.1),.d (encF 1 d_LIIE v1.2.2.2.1),.d (encF 1 d_I v1.2.2.2.2.1),.d (encF 1 d_I v1.2.2.2.2.2.1),.d (encF 2 d_II v1.2.2.2.2.2.2.1),.d (.int .i64 v1.2.2.2.2.2.2.2.1),.d (.int .i64 v1.2.2.2.2.2.2.2.2.1),.d (encF 1 d_I s4.2.1),.own 2000910]),(3,[.d (.int .i64 ((v2.1.getD s2.1.toNat default).1)),.d (.int .i64 ((v2.1.getD s2.1.toNat default).2.1)),.d (.int .i64 ((v2.1.getD s2.1.toNat default).2.2.1)),.d (.int .i64 ((v2.1.getD s2.1.toNat default).2.2.2.1)),.d (.int .i64 ((v2.1.getD s2.1.toNat default).2.2.2.2.1)),.d (hE ((v2.1.getD s2.1.toNat default).2.2.2.2.2))]),(5,[.d (.int .i64 ((v2.1.getD s2.1.toNat default).2.1)),.d (.int .i64 v1.2.2.2.2.2.2.2.1)])],[(25,.owned (encF 6 d_IIIIIH v2.1)),(2000910,.owned (encF 2 d_II s4.2.2))]⟩) (b24_4 v1 v2 s2) _ hq hr ?_)
    ·exact lf
    ·intro s4 hr
     unfold b24_4 at hr
     refine S1.gx [6,9] ?_
     refine gr ?_
     refine S1.inl 3 [0,3,5,6] [] Tryz.func91 (by decide) rfl Tryz.ntmps91 (fun cx e=>drawn_ok ty_ok tb24_ok cx e) (some 31) rfl rfl rfl rfl (nL rfl) (nL rfl) ?_
     refine gs ?_
     refine gr ?_
     intro stop2 S2
     refine S2.gx [] ?_
     refine gr ?_
     refine iW1 hr (fun hc hr=> ?_) fun hc hr=> ?_
     ·obtain ⟨hg30,hr⟩:=of_guard1 hr
      obtain ⟨v25,hv25,hr⟩:=of_bind1 hr
      obtain ⟨v26,hv26,hr⟩:=of_bind1 hr
      try simp only [hv25,hv26,Option.getD_some,Option.isSome_some,true_and,and_assoc]
      repeat (first | refine gA ?_ | refine gB ?_)
      refine gr ?_
      refine S1.gx [6,9] ?_
      repeat (first | refine gA ?_ | refine gB ?_)
      refine iW1 hr (fun hc hr=> ?_) fun hc hr=> ?_
      ·refine gr ?_
       replace hr:=goodC_out hr
       refine gr ?_
       refine S.gx [12,16] ?_
       exact D1 (S.ss [11,49,50,51] [(9,9)] [(2000910,2000910),(25,25)]) hr
      ·refine gr ?_
       refine S1.inl 2 [0,3,5,6] [] Tryz.func41 (by decide) rfl Tryz.ntmps41 (fun cx e=>drawn_ok ty_ok tb24_ok cx e) (some 43) rfl rfl rfl rfl (nL rfl) (nL rfl) ?_
       refine gs ?_
       refine gr ?_
       intro stop2 S2
       refine S2.gx [4] ?_
       refine gr ?_
       refine iW1 hr (fun hc hr=> ?_) fun hc hr=> ?_
       ·refine gr ?_
        refine gr ?_
        refine S1.gx [6,9] ?_
        refine gr ?_
        replace hr:=goodC_out hr
        refine gr ?_
        refine S.gx [12,16] ?_
        exact D0 hr
       ·obtain ⟨v27,hv27,hr⟩:=of_bind1 hr
        obtain ⟨v28,hv28,hr⟩:=of_bind1 hr
        refine gb hv27 ?_
        refine gb hv28 ?_
        refine S2.prune [0,4,7,8] ?_
        refine S2.gx [] ?_
        refine gr ?_
        refine gr ?_
        refine iW1 hr (fun hc hr=> ?_) fun hc hr=> ?_
        ·refine gr ?_
         refine gr ?_
         refine S1.gx [6,9] ?_
         refine gr ?_
         refine iW1 hr (fun hc hr=> ?_) fun hc hr=>D1 (S1.ss [0,3,5,6] [(9,9),(3,3),(5,5)] [(25,25),(2000910,2000910)]) hr
         refine gr ?_
         replace hr:=goodC_out hr
         refine gr ?_
         refine S.gx [12,16] ?_
         exact D1 (S.ss [11,49,50,51] [(9,9)] [(2000910,2000910),(25,25)]) hr
        ·obtain ⟨hg29,hr⟩:=of_guard1 hr
         refine gr ?_
         refine gr ?_
         refine S1.gx [6,9] ?_
         refine gr ?_
         refine S1.share 33 rfl ?_
         exact D1 (S1.ss [0,3,5,6] [(9,9),(3,3),(5,5)] [(25,25),(48,2000910)]) hr
     ·refine gr ?_
      refine iW1 hr (fun hc hr=> ?_) fun hc hr=> ?_
      ·obtain ⟨hg36,hr⟩:=of_guard1 hr
       obtain ⟨v31,hv31,hr⟩:=of_bind1 hr
       obtain ⟨v32,hv32,hr⟩:=of_bind1 hr
       try simp only [hv31,hv32,Option.getD_some,Option.isSome_some,true_and,and_assoc]
       repeat (first | refine gA ?_ | refine gB ?_)
       refine gr ?_
       refine S1.gx [6,9] ?_
       repeat (first | refine gA ?_ | refine gB ?_)
       refine iW1 hr (fun hc hr=> ?_) fun hc hr=> ?_
       ·refine gr ?_
        replace hr:=goodC_out hr
        refine gr ?_
        refine S.gx [12,16] ?_
        exact D1 (S.ss [11,49,50,51] [(9,9)] [(2000910,2000910),(25,25)]) hr
       ·refine gr ?_
        refine S1.inl 2 [0,3,5,6] [] Tryz.func41 (by decide) rfl Tryz.ntmps41 (fun cx e=>drawn_ok ty_ok tb24_ok cx e) (some 43) rfl rfl rfl rfl (nL rfl) (nL rfl) ?_
        refine gs ?_
        refine gr ?_
        intro stop2 S2
        refine S2.gx [4] ?_
        refine gr ?_
        refine iW1 hr (fun hc hr=> ?_) fun hc hr=> ?_
        ·refine gr ?_
         refine gr ?_
         refine S1.gx [6,9] ?_
         refine gr ?_
         replace hr:=goodC_out hr
         refine gr ?_
         refine S.gx [12,16] ?_
         exact D0 hr
        ·obtain ⟨v33,hv33,hr⟩:=of_bind1 hr
         obtain ⟨v34,hv34,hr⟩:=of_bind1 hr
         refine gb hv33 ?_
         refine gb hv34 ?_
         refine S2.prune [0,4,7,8] ?_
         refine S2.gx [] ?_
         refine gr ?_
         refine gr ?_
         refine iW1 hr (fun hc hr=> ?_) fun hc hr=> ?_
         ·refine gr ?_
          refine gr ?_
          refine S1.gx [6,9] ?_
          refine gr ?_
          refine iW1 hr (fun hc hr=> ?_) fun hc hr=>D1 (S1.ss [0,3,5,6] [(9,9),(3,3),(5,5)] [(25,25),(2000910,2000910)]) hr
          refine gr ?_
          replace hr:=goodC_out hr
          refine gr ?_
          refine S.gx [12,16] ?_
          exact D1 (S.ss [11,49,50,51] [(9,9)] [(2000910,2000910),(25,25)]) hr
         ·obtain ⟨hg35,hr⟩:=of_guard1 hr
          refine gr ?_
          refine gr ?_
          refine S1.gx [6,9] ?_
          refine gr ?_
          refine S1.share 33 rfl ?_
          exact D1 (S1.ss [0,3,5,6] [(9,9),(3,3),(5,5)] [(25,25),(48,2000910)]) hr
      ·obtain ⟨v37,hv37,hr⟩:=of_bind1 hr
       try simp only [hv37,oG,oI,true_and,and_assoc]
       repeat (first | refine gA ?_ | refine gB ?_)
       refine gr ?_
       refine S1.gx [6,9] ?_
       repeat (first | refine gA ?_ | refine gB ?_)
       refine iW1 hr (fun hc hr=> ?_) fun hc hr=> ?_
       ·refine gr ?_
        replace hr:=goodC_out hr
        refine gr ?_
        refine S.gx [12,16] ?_
        exact D1 (S.ss [11,49,50,51] [(9,9)] [(2000910,2000910),(25,25)]) hr
       ·refine gr ?_
        refine S1.inl 2 [0,3,5,6] [] Tryz.func41 (by decide) rfl Tryz.ntmps41 (fun cx e=>drawn_ok ty_ok tb24_ok cx e) (some 43) rfl rfl rfl rfl (nL rfl) (nL rfl) ?_
        refine gs ?_
        refine gr ?_
        intro stop2 S2
        refine S2.gx [4] ?_
        refine gr ?_
        refine iW1 hr (fun hc hr=> ?_) fun hc hr=> ?_
        ·refine gr ?_
         refine gr ?_
         refine S1.gx [6,9] ?_
         refine gr ?_
         replace hr:=goodC_out hr
         refine gr ?_
         refine S.gx [12,16] ?_
         exact D0 hr
        ·obtain ⟨v38,hv38,hr⟩:=of_bind1 hr
         obtain ⟨v39,hv39,hr⟩:=of_bind1 hr
         refine gb hv38 ?_
         refine gb hv39 ?_
         refine S2.prune [0,4,7,8] ?_
         refine S2.gx [] ?_
         refine gr ?_
         refine gr ?_
         refine iW1 hr (fun hc hr=> ?_) fun hc hr=> ?_
         ·refine gr ?_
          refine gr ?_
          refine S1.gx [6,9] ?_
          refine gr ?_
          refine iW1 hr (fun hc hr=> ?_) fun hc hr=>D1 (S1.ss [0,3,5,6] [(9,9),(3,3),(5,5)] [(25,25),(2000910,2000910)]) hr
          refine gr ?_
          replace hr:=goodC_out hr
          refine gr ?_
          refine S.gx [12,16] ?_
          exact D1 (S.ss [11,49,50,51] [(9,9)] [(2000910,2000910),(25,25)]) hr
         ·obtain ⟨hg40,hr⟩:=of_guard1 hr
          refine gr ?_
          refine gr ?_
          refine S1.gx [6,9] ?_
          refine gr ?_
          refine S1.share 33 rfl ?_
          exact D1 (S1.ss [0,3,5,6] [(9,9),(3,3),(5,5)] [(25,25),(48,2000910)]) hr
end
def r58:Option (L_IIII×L_IIIII×L_III×L_II×Int×Int×Int×Int):=
 some ([(650,1000000,1000000,1)],[],[(500,1000000,1000000)],[],200,250,400,800)
def T58:=qT0 qu17 false r58
attribute [go_sem] T58
def tb58:Fns:=lk []
theorem tb58_ok:FnsOk Tryz.prog tb58:=FnsOk.nil
section
attribute [local go_sem] Tryz.results58
theorem f58:FnFact Tryz.prog 58 T58.sp:=by
 refine valid_m ty_ok tb58_ok Tryz.func58 rfl Tryz.ntmps58 fun _ r hr=>⟨nL rfl,fun stop S=> ?_⟩
 replace hr:r58=some r:=hr
 unfold r58 at hr
 refine S.gx [] ?_
 exact D0 hr
end
end Go.Proofs.YtlnlpncchgimgaaGreatDoor

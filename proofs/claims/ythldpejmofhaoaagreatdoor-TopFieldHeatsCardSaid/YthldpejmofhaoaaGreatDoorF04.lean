/- Contracts of functions, written by wip/dec. -/
import Derived.Test.YthldpejmofhaoaaGreatDoorF00
import Derived.Test.YthldpejmofhaoaaGreatDoorF02
import Derived.Test.YthldpejmofhaoaaGreatDoorF03
set_option linter.unusedVariables false
set_option linter.unusedSimpArgs false
set_option linter.constructorNameAsVariable false
set_option maxHeartbeats 4000000
set_option maxRecDepth 20000
namespace Go.Proofs.YthldpejmofhaoaaGreatDoor
open Go.Abs
section
variable {β:Type} [Inhabited β] (u:β→List RV) (al:Bool)
abbrev qF27 (β:Type):=L_I→β
def qw27 (a0:L_I):List Arg:=[.c (encF 1 d_I a0),.clo 166 []]
def qd27 (a:List Arg):=decF g_I (aCell a 0 0)
def qp27 {β:Type} (f:qF27 β) (c0:D):=f (decF g_I c0)
abbrev qt27 (c0:D):List Arg:=[.c c0,.clo 166 []]
def qT27 (r:qF27 (Option β)):=mkT (u1 qw27) qd27 (u1 r) u al
theorem qP27 (r:qF27 (Option β)) (c0:D):PT (qT27 u al r).sp u (qt27 c0) (qp27 qw27 c0) (qp27 r c0):=⟨rfl,rfl⟩
theorem qa27 (r:qF27 (Option β)):(qT27 u al r).sp.alias=al:=rfl
attribute [go_sem] qw27 qp27 qt27 qP27 qa27
abbrev qF28 (β:Type):=Int→Int→L_II→L_LIIE→L_II→L_LIIE→L_I→Int→β
def qw28 (a0 a1:Int) (a2:L_II) (a3:L_LIIE) (a4:L_II) (a5:L_LIIE) (a6:L_I) (a7:Int):List Arg:=[.agg [.int .i64 a0,.int .i64 a1,encF 2 d_II a2,encF 1 d_LIIE a3,encF 2 d_II a4,encF 1 d_LIIE a5],.agg [encF 1 d_I a6,.int .i64 a7]]
def qd28 (a:List Arg):=(dInt (aCell a 0 0),dInt (aCell a 0 1),decF g_II (aCell a 0 2),decF g_LIIE (aCell a 0 3),decF g_II (aCell a 0 4),decF g_LIIE (aCell a 0 5),decF g_I (aCell a 1 0),dInt (aCell a 1 1))
def qp28 {β:Type} (f:qF28 β) (c0 c1 c2 c3 c4 c5 c6 c7:D):=f (dInt c0) (dInt c1) (decF g_II c2) (decF g_LIIE c3) (decF g_II c4) (decF g_LIIE c5) (decF g_I c6) (dInt c7)
abbrev qt28 (c0 c1 c2 c3 c4 c5 c6 c7:D):List Arg:=[.agg [c0,c1,c2,c3,c4,c5],.agg [c6,c7]]
def qT28 (r:qF28 (Option β)):=mkT (u8 qw28) qd28 (u8 r) u al
theorem qP28 (r:qF28 (Option β)) (c0 c1 c2 c3 c4 c5 c6 c7:D):PT (qT28 u al r).sp u (qt28 c0 c1 c2 c3 c4 c5 c6 c7) (qp28 qw28 c0 c1 c2 c3 c4 c5 c6 c7) (qp28 r c0 c1 c2 c3 c4 c5 c6 c7):=⟨rfl,rfl⟩
theorem qa28 (r:qF28 (Option β)):(qT28 u al r).sp.alias=al:=rfl
attribute [go_sem] qw28 qp28 qt28 qP28 qa28
abbrev qF29 (β:Type):=Int→Int→L_II→L_LIIE→L_II→L_LIIE→Int→Int→β
def qw29 (a0 a1:Int) (a2:L_II) (a3:L_LIIE) (a4:L_II) (a5:L_LIIE) (a6 a7:Int):List Arg:=[.agg [.int .i64 a0,.int .i64 a1,encF 2 d_II a2,encF 1 d_LIIE a3,encF 2 d_II a4,encF 1 d_LIIE a5],.c (.int .i64 a6),.c (.int .i64 a7)]
def qd29 (a:List Arg):=(dInt (aCell a 0 0),dInt (aCell a 0 1),decF g_II (aCell a 0 2),decF g_LIIE (aCell a 0 3),decF g_II (aCell a 0 4),decF g_LIIE (aCell a 0 5),dInt (aCell a 1 0),dInt (aCell a 2 0))
def qp29 {β:Type} (f:qF29 β) (c0 c1 c2 c3 c4 c5 c6 c7:D):=f (dInt c0) (dInt c1) (decF g_II c2) (decF g_LIIE c3) (decF g_II c4) (decF g_LIIE c5) (dInt c6) (dInt c7)
abbrev qt29 (c0 c1 c2 c3 c4 c5 c6 c7:D):List Arg:=[.agg [c0,c1,c2,c3,c4,c5],.c c6,.c c7]
def qT29 (r:qF29 (Option β)):=mkT (u8 qw29) qd29 (u8 r) u al
theorem qP29 (r:qF29 (Option β)) (c0 c1 c2 c3 c4 c5 c6 c7:D):PT (qT29 u al r).sp u (qt29 c0 c1 c2 c3 c4 c5 c6 c7) (qp29 qw29 c0 c1 c2 c3 c4 c5 c6 c7) (qp29 r c0 c1 c2 c3 c4 c5 c6 c7):=⟨rfl,rfl⟩
theorem qa29 (r:qF29 (Option β)):(qT29 u al r).sp.alias=al:=rfl
attribute [go_sem] qw29 qp29 qt29 qP29 qa29
abbrev qF30 (β:Type):=L_I→Int→Int→L_II→L_LIIE→L_II→L_LIIE→β
def qw30 (a0:L_I) (a1 a2:Int) (a3:L_II) (a4:L_LIIE) (a5:L_II) (a6:L_LIIE):List Arg:=[.c (encF 1 d_I a0),.clo 176 [[.int .i64 a1,.int .i64 a2,encF 2 d_II a3,encF 1 d_LIIE a4,encF 2 d_II a5,encF 1 d_LIIE a6]]]
def qd30 (a:List Arg):=(decF g_I (aCell a 0 0),dInt (aCell a 1 0),dInt (aCell a 1 1),decF g_II (aCell a 1 2),decF g_LIIE (aCell a 1 3),decF g_II (aCell a 1 4),decF g_LIIE (aCell a 1 5))
def qp30 {β:Type} (f:qF30 β) (c0 c1 c2 c3 c4 c5 c6:D):=f (decF g_I c0) (dInt c1) (dInt c2) (decF g_II c3) (decF g_LIIE c4) (decF g_II c5) (decF g_LIIE c6)
abbrev qt30 (c0 c1 c2 c3 c4 c5 c6:D):List Arg:=[.c c0,.clo 176 [[c1,c2,c3,c4,c5,c6]]]
def qT30 (r:qF30 (Option β)):=mkT (u7 qw30) qd30 (u7 r) u al
theorem qP30 (r:qF30 (Option β)) (c0 c1 c2 c3 c4 c5 c6:D):PT (qT30 u al r).sp u (qt30 c0 c1 c2 c3 c4 c5 c6) (qp30 qw30 c0 c1 c2 c3 c4 c5 c6) (qp30 r c0 c1 c2 c3 c4 c5 c6):=⟨rfl,rfl⟩
theorem qa30 (r:qF30 (Option β)):(qT30 u al r).sp.alias=al:=rfl
attribute [go_sem] qw30 qp30 qt30 qP30 qa30
abbrev qF31 (β:Type):=Int→Int→L_II→L_LIIE→L_II→L_LIIE→L_I→L_I→Int→β
def qw31 (a0 a1:Int) (a2:L_II) (a3:L_LIIE) (a4:L_II) (a5:L_LIIE) (a6 a7:L_I) (a8:Int):List Arg:=[.agg [.int .i64 a0,.int .i64 a1,encF 2 d_II a2,encF 1 d_LIIE a3,encF 2 d_II a4,encF 1 d_LIIE a5],.c (encF 1 d_I a6),.agg [encF 1 d_I a7,.int .i64 a8]]
def qd31 (a:List Arg):=(dInt (aCell a 0 0),dInt (aCell a 0 1),decF g_II (aCell a 0 2),decF g_LIIE (aCell a 0 3),decF g_II (aCell a 0 4),decF g_LIIE (aCell a 0 5),decF g_I (aCell a 1 0),decF g_I (aCell a 2 0),dInt (aCell a 2 1))
def qp31 {β:Type} (f:qF31 β) (c0 c1 c2 c3 c4 c5 c6 c7 c8:D):=f (dInt c0) (dInt c1) (decF g_II c2) (decF g_LIIE c3) (decF g_II c4) (decF g_LIIE c5) (decF g_I c6) (decF g_I c7) (dInt c8)
abbrev qt31 (c0 c1 c2 c3 c4 c5 c6 c7 c8:D):List Arg:=[.agg [c0,c1,c2,c3,c4,c5],.c c6,.agg [c7,c8]]
def qT31 (r:qF31 (Option β)):=mkT (u9 qw31) qd31 (u9 r) u al
theorem qP31 (r:qF31 (Option β)) (c0 c1 c2 c3 c4 c5 c6 c7 c8:D):PT (qT31 u al r).sp u (qt31 c0 c1 c2 c3 c4 c5 c6 c7 c8) (qp31 qw31 c0 c1 c2 c3 c4 c5 c6 c7 c8) (qp31 r c0 c1 c2 c3 c4 c5 c6 c7 c8):=⟨rfl,rfl⟩
theorem qa31 (r:qF31 (Option β)):(qT31 u al r).sp.alias=al:=rfl
attribute [go_sem] qw31 qp31 qt31 qP31 qa31
abbrev qF32 (β:Type):=Int→Int→L_II→L_LIIE→L_I→L_I→Int→β
def qw32 (a0 a1:Int) (a2:L_II) (a3:L_LIIE) (a4 a5:L_I) (a6:Int):List Arg:=[.agg [.int .i64 a0,.int .i64 a1,encF 2 d_II a2,encF 1 d_LIIE a3],.c (encF 1 d_I a4),.agg [encF 1 d_I a5,.int .i64 a6]]
def qd32 (a:List Arg):=(dInt (aCell a 0 0),dInt (aCell a 0 1),decF g_II (aCell a 0 2),decF g_LIIE (aCell a 0 3),decF g_I (aCell a 1 0),decF g_I (aCell a 2 0),dInt (aCell a 2 1))
def qp32 {β:Type} (f:qF32 β) (c0 c1 c2 c3 c4 c5 c6:D):=f (dInt c0) (dInt c1) (decF g_II c2) (decF g_LIIE c3) (decF g_I c4) (decF g_I c5) (dInt c6)
abbrev qt32 (c0 c1 c2 c3 c4 c5 c6:D):List Arg:=[.agg [c0,c1,c2,c3],.c c4,.agg [c5,c6]]
def qT32 (r:qF32 (Option β)):=mkT (u7 qw32) qd32 (u7 r) u al
theorem qP32 (r:qF32 (Option β)) (c0 c1 c2 c3 c4 c5 c6:D):PT (qT32 u al r).sp u (qt32 c0 c1 c2 c3 c4 c5 c6) (qp32 qw32 c0 c1 c2 c3 c4 c5 c6) (qp32 r c0 c1 c2 c3 c4 c5 c6):=⟨rfl,rfl⟩
theorem qa32 (r:qF32 (Option β)):(qT32 u al r).sp.alias=al:=rfl
attribute [go_sem] qw32 qp32 qt32 qP32 qa32
def qu18 (v:L_I×Int×Int):List RV:=[.c (.own (encF 1 d_I v.1)),.c (.d (.int .i64 v.2.1)),.c (.d (.int .i64 v.2.2))]
attribute [go_sem] qu18
end
def r78 (x0 x1:Int) (x2:L_II) (x3:L_LIIE) (a1:L_I):Option (Int×Int×L_II×L_LIIE×L_II×L_LIIE×Int):=
 (r98 x0 x1 x2 x3).bind fun v1=>
  if (v1.2.2.2.2.2.2 == 0)=true then
   (r165 v1.1 v1.2.1 v1.2.2.1 v1.2.2.2.1 v1.2.2.2.2.1 v1.2.2.2.2.2.1 a1).bind fun v2=>
    some (v1.1,v1.2.1,v1.2.2.1,v1.2.2.2.1,v1.2.2.2.2.1,v1.2.2.2.2.2.1,v2.2)
   else some (v1.1,v1.2.1,v1.2.2.1,v1.2.2.2.1,v1.2.2.2.2.1,v1.2.2.2.2.2.1,v1.2.2.2.2.2.2)
def T78:=qT26 qu17 true r78
attribute [go_sem] T78
def tb78:Fns:=lk [(98,T98.sp),(165,T165.sp)]
theorem tb78_ok:FnsOk Tryz.prog tb78:= .cons f98 (.cons f165 .nil)
theorem tk78:tb78 98=some T98.sp∧tb78 165=some T165.sp:=⟨rfl,rfl⟩
section
attribute [local go_sem] tk78 Tryz.results78
theorem f78:FnFact Tryz.prog 78 T78.sp:=by
 refine valid_m ty_ok tb78_ok Tryz.func78 rfl Tryz.ntmps78 fun ⟨x0,x1,x2,x3,a1⟩ r hr=>⟨nL rfl,fun stop S=> ?_⟩
 replace hr:r78 x0 x1 x2 x3 a1=some r:=hr
 unfold r78 at hr
 refine S.gx [] ?_
 exact D0 hr
end
def r167 (a0:Int):Option (Bool):=
 (r79 a0 0 10000).bind fun v1=>
  some v1
def T167:=qT4 qu2 false r167
attribute [go_sem] T167
def tb167:Fns:=lk [(79,T79.sp)]
theorem tb167_ok:FnsOk Tryz.prog tb167:= .cons f79 .nil
theorem tk167:tb167 79=some T79.sp:=rfl
section
attribute [local go_sem] tk167 Tryz.results167
theorem f167:FnFact Tryz.prog 167 T167.sp:=by
 refine valid_m ty_ok tb167_ok Tryz.func167 rfl Tryz.ntmps167 fun a0 r hr=>⟨nL rfl,fun stop S=> ?_⟩
 replace hr:r167 a0=some r:=hr
 unfold r167 at hr
 refine S.gx [] ?_
 exact D0 hr
end
def r166 (a0:Int):Option (Bool):=
 (r167 a0).bind fun v1=>
  some (!v1)
def T166:=qT4 qu2 false r166
attribute [go_sem] T166
def tb166:Fns:=lk [(167,T167.sp)]
theorem tb166_ok:FnsOk Tryz.prog tb166:= .cons f167 .nil
theorem tk166:tb166 167=some T167.sp:=rfl
section
attribute [local go_sem] tk166 Tryz.results166
theorem f166:FnFact Tryz.prog 166 T166.sp:=by
 refine valid_m ty_ok tb166_ok Tryz.func166 rfl Tryz.ntmps166 fun a0 r hr=>⟨nL rfl,fun stop S=> ?_⟩
 replace hr:r166 a0=some r:=hr
 unfold r166 at hr
 refine S.gx [] ?_
 exact D0 hr
end
def b170a_1 (a0:L_I):Bd Int Int:=fun s1=>
 if (decide (s1<(a0.length:Int)))=true then
  if 0≤s1∧s1<(a0.length:Int) then
   bindC (r166 (a0.getD s1.toNat default)) fun v1=>
    if v1=true then
     .out (some s1)
     else .next (IntKind.i64.wrap (s1+1))
   else .out none
  else .out (some (-1))
def r170a (a0:L_I):Option (Int):=
 iterC (b170a_1 a0) 1000000000 0
def T170a:=qT27 qu3 false r170a
attribute [go_sem] T170a
def tb170a:Fns:=lk [(166,T166.sp)]
theorem tb170a_ok:FnsOk Tryz.prog tb170a:= .cons f166 .nil
theorem tk170a:tb170a 166=some T166.sp:=rfl
section
attribute [local go_sem] tk170a Tryz.results170
theorem f170a:FnFact Tryz.prog 170 T170a.sp:=by
 refine valid_m ty_ok tb170a_ok Tryz.func170 rfl Tryz.ntmps170 fun a0 r hr=>⟨nL rfl,fun stop S=> ?_⟩
 replace hr:r170a a0=some r:=hr
 unfold r170a at hr
 refine S.gx [] ?_
 refine gr ?_
 refine S.sees [0,1,7,8] [] [] ?_ (Stop.iter S (fun s1=>⟨[(0,.c (.d (encF 1 d_I a0))),(1,.c (.clo 166 [])),(7,.c (.d (.int .i64 (a0.length:Int)))),(8,.c (.d (.int .i64 s1)))],[],[]⟩) (b170a_1 a0) (fun q=>q=r) hr rfl ?_)
 ·exact lf
 ·intro s1 hr
  unfold b170a_1 at hr
  refine S.gx [] ?_
  exact D1 (S.ss [0,1,7,8] [] []) hr
end
def r104 (a0:L_I):Option (Bool):=
 (r170a a0).bind fun v1=>
  some (decide (v1≥0))
def T104:=qT27 qu2 false r104
attribute [go_sem] T104
def tb104:Fns:=lk [(170,T170a.sp)]
theorem tb104_ok:FnsOk Tryz.prog tb104:= .cons f170a .nil
theorem tk104:tb104 170=some T170a.sp:=rfl
section
attribute [local go_sem] tk104 Tryz.results104
theorem f104:FnFact Tryz.prog 104 T104.sp:=by
 refine valid_m ty_ok tb104_ok Tryz.func104 rfl Tryz.ntmps104 fun a0 r hr=>⟨nL rfl,fun stop S=> ?_⟩
 replace hr:r104 a0=some r:=hr
 unfold r104 at hr
 refine S.gx [] ?_
 exact D0 hr
end
def r168 (x1 x2:Int) (x3:L_II) (x4:L_LIIE) (x5:L_II) (x0:L_LIIE) (a1:Int):Option (Int):=
 (r79 a1 0 (IntKind.i64.wrap ((x0.length:Int) - 1))).bind fun v1=>
  (r83 v1 6).bind fun v2=>
   some v2
def T168:=qT22 qu3 false r168
attribute [go_sem] T168
def tb168:Fns:=lk [(79,T79.sp),(83,T83.sp)]
theorem tb168_ok:FnsOk Tryz.prog tb168:= .cons f79 (.cons f83 .nil)
theorem tk168:tb168 79=some T79.sp∧tb168 83=some T83.sp:=⟨rfl,rfl⟩
section
attribute [local go_sem] tk168 Tryz.results168
theorem f168:FnFact Tryz.prog 168 T168.sp:=by
 refine valid_m ty_ok tb168_ok Tryz.func168 rfl Tryz.ntmps168 fun ⟨x1,x2,x3,x4,x5,x0,a1⟩ r hr=>⟨nL rfl,fun stop S=> ?_⟩
 replace hr:r168 x1 x2 x3 x4 x5 x0 a1=some r:=hr
 unfold r168 at hr
 refine S.gx [] ?_
 exact D0 hr
end
def r81 (x0 x2:Int) (x3:L_II) (x4:L_LIIE) (x5:L_II) (x6:L_LIIE) (x1:L_I) (x7:Int):Option (Int):=
 (r104 x1).bind fun v1=>
  (r83 ((x1.length:Int) == x0) 10).bind fun v2=>
   (r83 (!v1) 2).bind fun v3=>
    (r168 x0 x2 x3 x4 x5 x6 x7).bind fun v4=>
     (r80 [v2,v3,v4]).bind fun v5=>
      some v5
def T81:=qT28 qu3 false r81
attribute [go_sem] T81
def tb81:Fns:=lk [(80,T80.sp),(83,T83.sp),(104,T104.sp),(168,T168.sp)]
theorem tb81_ok:FnsOk Tryz.prog tb81:= .cons f80 (.cons f83 (.cons f104 (.cons f168 .nil)))
theorem tk81:tb81 80=some T80.sp∧tb81 83=some T83.sp∧tb81 104=some T104.sp∧tb81 168=some T168.sp:=⟨rfl,rfl,rfl,rfl⟩
section
attribute [local go_sem] tk81 Tryz.results81
theorem f81:FnFact Tryz.prog 81 T81.sp:=by
 refine valid_m ty_ok tb81_ok Tryz.func81 rfl Tryz.ntmps81 fun ⟨x0,x2,x3,x4,x5,x6,x1,x7⟩ r hr=>⟨nL rfl,fun stop S=> ?_⟩
 replace hr:r81 x0 x2 x3 x4 x5 x6 x1 x7=some r:=hr
 unfold r81 at hr
 refine S.gx [] ?_
 exact D0 hr
end
def r173 (a0:List (Int)):Option (List (Int)):=if a0.length*8≤140737488355328∧a0.length≤9223372036854775807 then some a0 else none
def T173:TSpec (List (Int)) where
 enc x:=[.c (encF 1 d_I x)]
 dec a:=decF g_I (aCell a 0 0)
 pre x:=(r173 x).isSome=true
 res x:=[.c (.own (encF 1 d_I ((r173 x).getD default)))]
 al:=false
theorem TP173 (c0:D):T173.sp.pre [.c c0]=(eqvArgs [.c c0] [.c (encF 1 d_I (decF g_I c0))]∧(r173 (decF g_I c0)).isSome=true):=(rfl)
theorem TR173 (c0:D):T173.sp.res [.c c0]=[.c (.own (encF 1 d_I ((r173 (decF g_I c0)).getD default)))]:=(rfl)
theorem TA173:T173.sp.alias=false:=(rfl)
attribute [go_sem] TP173 TR173 TA173
theorem v173:Valid Tryz.prog 173 T173.sp:=by
 refine valid_t (fn:=Tryz.f173) (n:=8) ty_ok FnsOk.nil Tryz.func173 rfl Tryz.ntmps173 ?_
 rintro a0 hx
 obtain ⟨r,hr⟩:=oE (show (r173 a0).isSome=true from hx)
 have hres:T173.res a0=[.c (.own (encF 1 d_I r))]:=by simp only [T173,hr,Option.getD_some]
 refine ⟨nL rfl,fun stop S=> ?_⟩
 rw [hres] at S
 unfold r173 at hr
 obtain ⟨hg,hr⟩:=of_guard0 hr
 cases hr
 refine S.goB [1] 1000 ?_
 simp only [go_sem,T173,Bool.not_true,Bool.not_false,Option.map_some,Int.reduceToNat,Nat.reduceEqDiff,Nat.reduceBEq,Nat.reduceLT,Nat.reduceAdd,Nat.reduceMul,Nat.reduceSub,Nat.reduceLeDiff, ↓reduceIte,reduceCtorEq,Tryz.results173]
 refine S.eqnil 0 3 4 26 26 3 rfl rfl rfl rfl rfl rfl rfl rfl rfl rfl (by decide) (by decide) ?_
 intro b hb
 refine S.goB [] 1000 ?_
 simp only [go_sem,T173,Bool.not_true,Bool.not_false,Option.map_some,Int.reduceToNat,Nat.reduceEqDiff,Nat.reduceBEq,Nat.reduceLT,Nat.reduceAdd,Nat.reduceMul,Nat.reduceSub,Nat.reduceLeDiff, ↓reduceIte,reduceCtorEq,Tryz.results173]
 have hb':b=true→a0.length=0:=hb
 refine ⟨?_,?_⟩<;>intro hc
 ·simpa using hb' hc
 ·refine ⟨by omega,by omega,?_⟩
  (simp (maxDischargeDepth:=8) [go_sem])
theorem f173:FnFact Tryz.prog 173 T173.sp:=⟨⟨Tryz.f173,Tryz.func173,by decide,rfl⟩,v173⟩
def r100 (x1 x2:Int) (x3:L_II) (x4:L_LIIE) (x0:L_II) (x5:L_LIIE) (a1:Int):Option (Int×Int):=
 (r189 x0 a1 1).bind fun v1=>
  some (v1.1,v1.2)
def T100:=qT22 qu7 false r100
attribute [go_sem] T100
def tb100:Fns:=lk [(189,T189.sp)]
theorem tb100_ok:FnsOk Tryz.prog tb100:= .cons f189 .nil
theorem tk100:tb100 189=some T189.sp:=rfl
section
attribute [local go_sem] tk100 Tryz.results100
theorem f100:FnFact Tryz.prog 100 T100.sp:=by
 refine valid_m ty_ok tb100_ok Tryz.func100 rfl Tryz.ntmps100 fun ⟨x1,x2,x3,x4,x0,x5,a1⟩ r hr=>⟨nL rfl,fun stop S=> ?_⟩
 replace hr:r100 x1 x2 x3 x4 x0 x5 a1=some r:=hr
 unfold r100 at hr
 refine S.gx [] ?_
 exact D0 hr
end
def r231 (a0 a1:Int):Option (Int):=
 if a1≠0 then
  if a1≠0 then
   if (decide ((a0.tmod a1)<0))=true then
    some (IntKind.i64.wrap ((IntKind.i64.wrap (a0.tdiv a1)) - 1))
    else some (IntKind.i64.wrap (a0.tdiv a1))
   else none
  else none
def T231:=qT17 qu3 false r231
attribute [go_sem] T231
def tb231:Fns:=lk []
theorem tb231_ok:FnsOk Tryz.prog tb231:=FnsOk.nil
section
attribute [local go_sem] Tryz.results231
theorem f231:FnFact Tryz.prog 231 T231.sp:=by
 refine valid_m ty_ok tb231_ok Tryz.func231 rfl Tryz.ntmps231 fun ⟨a0,a1⟩ r hr=>⟨nL rfl,fun stop S=> ?_⟩
 replace hr:r231 a0 a1=some r:=hr
 unfold r231 at hr
 refine S.gx [] ?_
 exact D0 hr
end
def r175 (x1 x2:Int) (x3:L_II) (x4:L_LIIE) (x5:L_II) (x0:L_LIIE) (a1 a2:Int):Option (Int):=
 if 0≤a1∧a1<(x0.length:Int) then
  (r100 x1 x2 x3 x4 x5 x0 a2).bind fun v1=>
   (r189 (x0.getD a1.toNat default) v1.1 v1.2).bind fun v2=>
    (r231 v2.1 v2.2).bind fun v3=>
     some v3
  else none
def T175:=qT29 qu3 false r175
attribute [go_sem] T175
def tb175:Fns:=lk [(100,T100.sp),(189,T189.sp),(231,T231.sp)]
theorem tb175_ok:FnsOk Tryz.prog tb175:= .cons f100 (.cons f189 (.cons f231 .nil))
theorem tk175:tb175 100=some T100.sp∧tb175 189=some T189.sp∧tb175 231=some T231.sp:=⟨rfl,rfl,rfl⟩
section
attribute [local go_sem] tk175 Tryz.results175
theorem f175:FnFact Tryz.prog 175 T175.sp:=by
 refine valid_m ty_ok tb175_ok Tryz.func175 rfl Tryz.ntmps175 fun ⟨x1,x2,x3,x4,x5,x0,a1,a2⟩ r hr=>⟨nL rfl,fun stop S=> ?_⟩
 replace hr:r175 x1 x2 x3 x4 x5 x0 a1 a2=some r:=hr
 unfold r175 at hr
 refine S.gx [] ?_
 exact D0 hr
end
def r176 (a0 x0 x1:Int) (x2:L_II) (x3:L_LIIE) (x4:L_II) (x5:L_LIIE):Option (Bool):=
 (r99 x0 x1 x2 x3 x4 x5 a0).bind fun v1=>
  some (!v1)
def T176:=qT23 qu2 false r176
attribute [go_sem] T176
def tb176:Fns:=lk [(99,T99.sp)]
theorem tb176_ok:FnsOk Tryz.prog tb176:= .cons f99 .nil
theorem tk176:tb176 99=some T99.sp:=rfl
section
attribute [local go_sem] tk176 Tryz.results176
theorem f176:FnFact Tryz.prog 176 T176.sp:=by
 refine valid_m ty_ok tb176_ok Tryz.func176 rfl Tryz.ntmps176 fun ⟨a0,x0,x1,x2,x3,x4,x5⟩ r hr=>⟨nL rfl,fun stop S=> ?_⟩
 replace hr:r176 a0 x0 x1 x2 x3 x4 x5=some r:=hr
 unfold r176 at hr
 refine S.gx [] ?_
 exact D0 hr
end
def b170b_1 (a0:L_I) (x0 x1:Int) (x2:L_II) (x3:L_LIIE) (x4:L_II) (x5:L_LIIE):Bd Int Int:=fun s1=>
 if (decide (s1<(a0.length:Int)))=true then
  if 0≤s1∧s1<(a0.length:Int) then
   bindC (r176 (a0.getD s1.toNat default) x0 x1 x2 x3 x4 x5) fun v1=>
    if v1=true then
     .out (some s1)
     else .next (IntKind.i64.wrap (s1+1))
   else .out none
  else .out (some (-1))
def r170b (a0:L_I) (x0 x1:Int) (x2:L_II) (x3:L_LIIE) (x4:L_II) (x5:L_LIIE):Option (Int):=
 iterC (b170b_1 a0 x0 x1 x2 x3 x4 x5) 1000000000 0
def T170b:=qT30 qu3 false r170b
attribute [go_sem] T170b
def tb170b:Fns:=lk [(176,T176.sp)]
theorem tb170b_ok:FnsOk Tryz.prog tb170b:= .cons f176 .nil
theorem tk170b:tb170b 176=some T176.sp:=rfl
section
attribute [local go_sem] tk170b Tryz.results170
theorem f170b:FnFact Tryz.prog 170 T170b.sp:=by
 refine valid_m ty_ok tb170b_ok Tryz.func170 rfl Tryz.ntmps170 fun ⟨a0,x0,x1,x2,x3,x4,x5⟩ r hr=>⟨nL rfl,fun stop S=> ?_⟩
 replace hr:r170b a0 x0 x1 x2 x3 x4 x5=some r:=hr
 unfold r170b at hr
 refine S.gx [] ?_
 refine gr ?_
 refine S.sees [0,1,7,8] [] [] ?_ (Stop.iter S (fun s1=>⟨[(0,.c (.d (encF 1 d_I a0))),(1,.c (.clo 176 [.sptr [.int .i64 x0,.int .i64 x1,encF 2 d_II x2,encF 1 d_LIIE x3,encF 2 d_II x4,encF 1 d_LIIE x5] 0])),(7,.c (.d (.int .i64 (a0.length:Int)))),(8,.c (.d (.int .i64 s1)))],[],[]⟩) (b170b_1 a0 x0 x1 x2 x3 x4 x5) (fun q=>q=r) hr rfl ?_)
 ·exact lf
 ·intro s1 hr
  unfold b170b_1 at hr
  refine S.gx [] ?_
  exact D1 (S.ss [0,1,7,8] [] []) hr
end
def r104a (a0:L_I) (x0 x1:Int) (x2:L_II) (x3:L_LIIE) (x4:L_II) (x5:L_LIIE):Option (Bool):=
 (r170b a0 x0 x1 x2 x3 x4 x5).bind fun v1=>
  some (decide (v1≥0))
def T104a:=qT30 qu2 false r104a
attribute [go_sem] T104a
def tb104a:Fns:=lk [(170,T170b.sp)]
theorem tb104a_ok:FnsOk Tryz.prog tb104a:= .cons f170b .nil
theorem tk104a:tb104a 170=some T170b.sp:=rfl
section
attribute [local go_sem] tk104a Tryz.results104
theorem f104a:FnFact Tryz.prog 104 T104a.sp:=by
 refine valid_m ty_ok tb104a_ok Tryz.func104 rfl Tryz.ntmps104 fun ⟨a0,x0,x1,x2,x3,x4,x5⟩ r hr=>⟨nL rfl,fun stop S=> ?_⟩
 replace hr:r104a a0 x0 x1 x2 x3 x4 x5=some r:=hr
 unfold r104a at hr
 refine S.gx [] ?_
 exact D0 hr
end
def b85_3 (x1 x0:Int) (x2:L_II) (x3:L_LIIE) (x4:L_II) (x5:L_LIIE) (x6:L_I) (v20:Int):Bd (Int×(List (Int))) (L_I×Int×Int):=fun s3=>
 if (decide (s3.1<(x6.length:Int)))=true then
  if 0≤s3.1∧s3.1<(x6.length:Int) then
   if 0≤s3.1∧s3.1<(s3.2.length:Int) then
    if 0≤s3.1∧s3.1<(s3.2.length:Int) then
     .next (IntKind.i64.wrap (s3.1+1),s3.2.set s3.1.toNat (IntKind.i64.wrap ((s3.2.getD s3.1.toNat default)+(x6.getD s3.1.toNat default))))
     else .out none
    else .out none
   else .out none
  else .out ((r104a s3.2 x1 x0 x2 x3 x4 x5).bind fun v24=>
   (r83 (!v24) 22).bind fun v25=>
    some (s3.2,v20,v25))
def b85_2 (x1 x0:Int) (x2:L_II) (x3:L_LIIE) (x4:L_II) (x5:L_LIIE) (x6:L_I) (x7:Int):Bd (Int×(List (Int))) (L_I×Int×Int):=fun s2=>
 if (decide ((IntKind.i64.wrap (s2.1+1))<(s2.2.length:Int)))=true then
  if 0≤s2.1∧s2.1<(s2.2.length:Int) then
   bindC (r100 x1 x0 x2 x3 x4 x5 (s2.2.getD s2.1.toNat default)) fun v11=>
    if 0≤IntKind.i64.wrap (s2.1+1)∧IntKind.i64.wrap (s2.1+1)<(s2.2.length:Int) then
     bindC (r100 x1 x0 x2 x3 x4 x5 (s2.2.getD (IntKind.i64.wrap (s2.1+1)).toNat default)) fun v12=>
      bindC (r231 (IntKind.i64.wrap (x0*(IntKind.i64.wrap ((IntKind.i64.wrap (v11.1*v12.2)) - (IntKind.i64.wrap (v12.1*v11.2)))))) (IntKind.i64.wrap ((IntKind.i64.wrap (1000*v11.2))*v12.2))) fun v13=>
       if 0≤s2.1∧s2.1<(s2.2.length:Int) then
        if 0≤IntKind.i64.wrap (s2.1+1)∧IntKind.i64.wrap (s2.1+1)<(s2.2.length:Int) then
         if 0≤s2.1∧s2.1<(s2.2.length:Int) then
          if 0≤IntKind.i64.wrap (s2.1+1)∧IntKind.i64.wrap (s2.1+1)<(s2.2.length:Int) then
           .next (IntKind.i64.wrap (s2.1+2),(s2.2.set s2.1.toNat (IntKind.i64.wrap ((s2.2.getD s2.1.toNat default) - v13))).set (IntKind.i64.wrap (s2.1+1)).toNat (IntKind.i64.wrap ((s2.2.getD (IntKind.i64.wrap (s2.1+1)).toNat default)+v13)))
           else .out none
          else .out none
         else .out none
        else .out none
     else .out none
   else .out none
  else .out (if 0≤0∧0<(s2.2.length:Int) then
   (r175 x1 x0 x2 x3 x4 x5 x7 (s2.2.getD 0 default)).bind fun v20=>
    if 0≤0∧0<(s2.2.length:Int) then
     if 0≤0∧0<(s2.2.length:Int) then
      iterC (b85_3 x1 x0 x2 x3 x4 x5 x6 v20) 1000000000 (0,s2.2.set 0 (IntKind.i64.wrap ((s2.2.getD 0 default) - v20)))
      else none
     else none
   else none)
def b85_1 (x1 x0:Int) (x2:L_II) (x3:L_LIIE) (x4:L_II) (x5:L_LIIE) (x6:L_I) (x7:Int):Bd (Int×(List (Int))) (L_I×Int×Int):=fun s1=>
 if (decide ((IntKind.i64.wrap (s1.1+1))<(s1.2.length:Int)))=true then
  if 0≤s1.1∧s1.1<(s1.2.length:Int) then
   bindC (r100 x1 x0 x2 x3 x4 x5 (s1.2.getD s1.1.toNat default)) fun v2=>
    if 0≤IntKind.i64.wrap (s1.1+1)∧IntKind.i64.wrap (s1.1+1)<(s1.2.length:Int) then
     bindC (r100 x1 x0 x2 x3 x4 x5 (s1.2.getD (IntKind.i64.wrap (s1.1+1)).toNat default)) fun v3=>
      bindC (r231 (IntKind.i64.wrap (x0*(IntKind.i64.wrap ((IntKind.i64.wrap (v2.1*v3.2)) - (IntKind.i64.wrap (v3.1*v2.2)))))) (IntKind.i64.wrap ((IntKind.i64.wrap (1000*v2.2))*v3.2))) fun v4=>
       if 0≤s1.1∧s1.1<(s1.2.length:Int) then
        if 0≤IntKind.i64.wrap (s1.1+1)∧IntKind.i64.wrap (s1.1+1)<(s1.2.length:Int) then
         if 0≤s1.1∧s1.1<(s1.2.length:Int) then
          if 0≤IntKind.i64.wrap (s1.1+1)∧IntKind.i64.wrap (s1.1+1)<(s1.2.length:Int) then
           .next (IntKind.i64.wrap (s1.1+2),(s1.2.set s1.1.toNat (IntKind.i64.wrap ((s1.2.getD s1.1.toNat default) - v4))).set (IntKind.i64.wrap (s1.1+1)).toNat (IntKind.i64.wrap ((s1.2.getD (IntKind.i64.wrap (s1.1+1)).toNat default)+v4)))
           else .out none
          else .out none
         else .out none
        else .out none
     else .out none
   else .out none
  else .out (iterC (b85_2 x1 x0 x2 x3 x4 x5 x6 x7) 1000000000 (1,s1.2))
def r85 (x1 x0:Int) (x2:L_II) (x3:L_LIIE) (x4:L_II) (x5:L_LIIE) (a1 x6:L_I) (x7:Int):Option (L_I×Int×Int):=
 (r173 a1).bind fun v1=>
  iterC (b85_1 x1 x0 x2 x3 x4 x5 x6 x7) 1000000000 (0,v1)
def T85:=qT31 qu18 false r85
attribute [go_sem] T85
def tb85:Fns:=lk [(83,T83.sp),(100,T100.sp),(104,T104a.sp),(173,T173.sp),(175,T175.sp),(231,T231.sp)]
theorem tb85_ok:FnsOk Tryz.prog tb85:= .cons f83 (.cons f100 (.cons f104a (.cons f173 (.cons f175 (.cons f231 .nil)))))
theorem tk85:tb85 83=some T83.sp∧tb85 100=some T100.sp∧tb85 104=some T104a.sp∧tb85 173=some T173.sp∧tb85 175=some T175.sp∧tb85 231=some T231.sp:=⟨rfl,rfl,rfl,rfl,rfl,rfl⟩
section
attribute [local go_sem] tk85 Tryz.results85 Tryz.results174
theorem f85:FnFact Tryz.prog 85 T85.sp:=by
 refine valid_m ty_ok tb85_ok Tryz.func85 rfl Tryz.ntmps85 fun ⟨x1,x0,x2,x3,x4,x5,a1,x6,x7⟩ r hr=>⟨nL rfl,fun stop S=> ?_⟩
 replace hr:r85 x1 x0 x2 x3 x4 x5 a1 x6 x7=some r:=hr
 unfold r85 at hr
 refine S.gx [2,3] ?_
 obtain ⟨v1,hv1,hr⟩:=of_bind0 hr
 refine gb hv1 ?_
 refine S.inl 2 [3,5,9] [] Tryz.func174 (by decide) rfl Tryz.ntmps174 (fun cx e=>drawn_ok ty_ok tb85_ok cx e) (some 18) rfl rfl rfl rfl (nL rfl) (nL rfl) ?_
 refine gs ?_
 refine gr ?_
 intro stop1 S1
 refine S1.gx [6] ?_
 refine gr ?_
 refine S1.sees [1,3,6] [(100003,100003),(3,3),(5,5)] [(15,15)] ?_ (Stop.iter S1 (fun s1=>⟨[(1,.c (.own 15)),(3,.c (.ref 100003 0)),(6,.c (.d (.int .i64 s1.1)))],[(100003,[.d (.int .i64 x1),.d (.int .i64 x0),.d (encF 2 d_II x2),.d (encF 1 d_LIIE x3),.d (encF 2 d_II x4),.d (encF 1 d_LIIE x5)]),(3,[.d (.int .i64 x1),.d (.int .i64 x0),.d (encF 2 d_II x2),.d (encF 1 d_LIIE x3),.d (encF 2 d_II x4),.d (encF 1 d_LIIE x5)]),(5,[.d (encF 1 d_I x6),.d (.int .i64 x7)])],[(15,.owned (encF 1 d_I s1.2))]⟩) (b85_1 x1 x0 x2 x3 x4 x5 x6 x7) (fun q=>q=r) hr rfl ?_)
 ·exact lf
 ·intro s1 hr
  unfold b85_1 at hr
  refine S1.gx [6] ?_
  refine gr ?_
  refine iW1 hr (fun hc hr=> ?_) fun hc hr=> ?_
  ·obtain ⟨hg9,hr⟩:=of_guard1 hr
   obtain ⟨v2,hv2,hr⟩:=of_bind1 hr
   obtain ⟨hg10,hr⟩:=of_guard1 hr
   obtain ⟨v3,hv3,hr⟩:=of_bind1 hr
   obtain ⟨v4,hv4,hr⟩:=of_bind1 hr
   refine gb hv2 ?_
   refine gb hv3 ?_
   refine gb hv4 ?_
   refine S1.prune [1,3,6,9] ?_
   refine S1.gx [] ?_
   exact D1 (S1.ss [1,3,6] [(100003,100003),(3,3),(5,5)] [(15,15)]) hr
  ·refine gr ?_
   have hr:=of_out0 hr
   refine gr ?_
   refine gr ?_
   refine S.gx [2,3] ?_
   refine gr ?_
   refine S.inl 2 [3,5,9] [] Tryz.func174 (by decide) rfl Tryz.ntmps174 (fun cx e=>drawn_ok ty_ok tb85_ok cx e) (some 21) rfl rfl rfl rfl (nL rfl) (nL rfl) ?_
   refine gs ?_
   refine gr ?_
   intro stop1 S1
   refine S1.gx [6] ?_
   refine gr ?_
   refine S1.sees [1,3,6] [(200003,200003),(3,3),(5,5)] [(15,15)] ?_ (Stop.iter S1 (fun s2=>⟨[(1,.c (.own 15)),(3,.c (.ref 200003 0)),(6,.c (.d (.int .i64 s2.1)))],[(200003,[.d (.int .i64 x1),.d (.int .i64 x0),.d (encF 2 d_II x2),.d (encF 1 d_LIIE x3),.d (encF 2 d_II x4),.d (encF 1 d_LIIE x5)]),(3,[.d (.int .i64 x1),.d (.int .i64 x0),.d (encF 2 d_II x2),.d (encF 1 d_LIIE x3),.d (encF 2 d_II x4),.d (encF 1 d_LIIE x5)]),(5,[.d (encF 1 d_I x6),.d (.int .i64 x7)])],[(15,.owned (encF 1 d_I s2.2))]⟩) (b85_2 x1 x0 x2 x3 x4 x5 x6 x7) (fun q=>q=r) hr rfl ?_)
   ·exact lf
   ·intro s2 hr
    unfold b85_2 at hr
    refine S1.gx [6] ?_
    refine gr ?_
    refine iW1 hr (fun hc hr=> ?_) fun hc hr=> ?_
    ·obtain ⟨hg18,hr⟩:=of_guard1 hr
     obtain ⟨v11,hv11,hr⟩:=of_bind1 hr
     obtain ⟨hg19,hr⟩:=of_guard1 hr
     obtain ⟨v12,hv12,hr⟩:=of_bind1 hr
     obtain ⟨v13,hv13,hr⟩:=of_bind1 hr
     refine gb hv11 ?_
     refine gb hv12 ?_
     refine gb hv13 ?_
     refine S1.prune [1,3,6,9] ?_
     refine S1.gx [] ?_
     exact D1 (S1.ss [1,3,6] [(200003,200003),(3,3),(5,5)] [(15,15)]) hr
    ·refine gr ?_
     have hr:=of_out0 hr
     refine gr ?_
     refine gr ?_
     refine S.gx [2,3] ?_
     obtain ⟨hg26,hr⟩:=of_guard0 hr
     obtain ⟨v20,hv20,hr⟩:=of_bind0 hr
     obtain ⟨hg27,hr⟩:=of_guard0 hr
     obtain ⟨hg28,hr⟩:=of_guard0 hr
     refine gb hv20 ?_
     refine S.sees [3,9,10,36,37,38] [(3,3)] [(15,15)] ?_ (Stop.iter S (fun s3=>⟨[(3,.c (.ref 3 0)),(9,.c (.own 15)),(10,.c (.d (.int .i64 v20))),(36,.c (.d (encF 1 d_I x6))),(37,.c (.d (.int .i64 (x6.length:Int)))),(38,.c (.d (.int .i64 s3.1)))],[(3,[.d (.int .i64 x1),.d (.int .i64 x0),.d (encF 2 d_II x2),.d (encF 1 d_LIIE x3),.d (encF 2 d_II x4),.d (encF 1 d_LIIE x5)])],[(15,.owned (encF 1 d_I s3.2))]⟩) (b85_3 x1 x0 x2 x3 x4 x5 x6 v20) (fun q=>q=r) hr rfl ?_)
     ·exact lf
     ·intro s3 hr
      unfold b85_3 at hr
      refine S.gx [2,3] ?_
      exact D1 (S.ss [3,9,10,36,37,38] [(3,3)] [(15,15)]) hr
end
def r38 (x2 x3:Int) (x4:L_II) (x5:L_LIIE) (a1 x0:L_I) (x1:Int):Option (L_I×Int):=
 (r78 x2 x3 x4 x5 a1).bind fun v1=>
  if (v1.2.2.2.2.2.2 == 0)=true then
   (r81 v1.1 v1.2.1 v1.2.2.1 v1.2.2.2.1 v1.2.2.2.2.1 v1.2.2.2.2.2.1 x0 x1).bind fun v2=>
    if (v2 != 0)=true then
     some ([],v2)
     else (r85 v1.1 v1.2.1 v1.2.2.1 v1.2.2.2.1 v1.2.2.2.2.1 v1.2.2.2.2.2.1 a1 x0 x1).bind fun v3=>
      if (v3.2.2 != 0)=true then
       some ([],v3.2.2)
       else some (v3.1,0)
   else if (v1.2.2.2.2.2.2 != 0)=true then
    some ([],v1.2.2.2.2.2.2)
    else (r85 v1.1 v1.2.1 v1.2.2.1 v1.2.2.2.1 v1.2.2.2.2.1 v1.2.2.2.2.2.1 a1 x0 x1).bind fun v4=>
     if (v4.2.2 != 0)=true then
      some ([],v4.2.2)
      else some (v4.1,0)
def T38:=qT32 qu10 false r38
attribute [go_sem] T38
def tb38:Fns:=lk [(78,T78.sp),(81,T81.sp),(85,T85.sp)]
theorem tb38_ok:FnsOk Tryz.prog tb38:= .cons f78 (.cons f81 (.cons f85 .nil))
theorem tk38:tb38 78=some T78.sp∧tb38 81=some T81.sp∧tb38 85=some T85.sp:=⟨rfl,rfl,rfl⟩
section
attribute [local go_sem] tk38 Tryz.results38
theorem f38:FnFact Tryz.prog 38 T38.sp:=by
 refine valid_m ty_ok tb38_ok Tryz.func38 rfl Tryz.ntmps38 fun ⟨x2,x3,x4,x5,a1,x0,x1⟩ r hr=>⟨nL rfl,fun stop S=> ?_⟩
 replace hr:r38 x2 x3 x4 x5 a1 x0 x1=some r:=hr
 unfold r38 at hr
 refine S.gx [7] ?_
 obtain ⟨v1,hv1,hr⟩:=of_bind0 hr
 refine gb hv1 ?_
 refine iW hr (fun hc hr=> ?_) fun hc hr=> ?_
 ·obtain ⟨v2,hv2,hr⟩:=of_bind0 hr
  refine gb hv2 ?_
  refine iW hr (fun hc hr=>D0 hr) fun hc hr=> ?_
  obtain ⟨v3,hv3,hr⟩:=of_bind0 hr
  refine gb hv3 ?_
  refine S.prune [9,10] ?_
  refine S.gx [] ?_
  exact D0 hr
 ·refine gr ?_
  refine iW hr (fun hc hr=>D0 hr) fun hc hr=> ?_
  obtain ⟨v4,hv4,hr⟩:=of_bind0 hr
  refine gb hv4 ?_
  refine S.prune [9,10] ?_
  refine S.gx [] ?_
  exact D0 hr
end
end Go.Proofs.YthldpejmofhaoaaGreatDoor

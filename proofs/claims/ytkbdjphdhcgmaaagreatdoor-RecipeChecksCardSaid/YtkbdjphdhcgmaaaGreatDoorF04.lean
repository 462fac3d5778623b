/- Contracts of functions, written by wip/dec. -/
import Derived.Test.YtkbdjphdhcgmaaaGreatDoorF00
import Derived.Test.YtkbdjphdhcgmaaaGreatDoorF01
import Derived.Test.YtkbdjphdhcgmaaaGreatDoorF02
import Derived.Test.YtkbdjphdhcgmaaaGreatDoorF03
set_option linter.unusedVariables false
set_option linter.unusedSimpArgs false
set_option linter.constructorNameAsVariable false
set_option maxHeartbeats 4000000
set_option maxRecDepth 20000
namespace Go.Proofs.YtkbdjphdhcgmaaaGreatDoor
open Go.Abs
section
variable {β:Type} [Inhabited β] (u:β→List RV) (al:Bool)
def qw26 (a0 a1:Int) (a2:L_II) (a3:L_LIIE) (a4 a5:L_I) (a6:L_II) (a7 a8 a9 a10:Int) (a11:Nat):List Arg:=[.agg [.int .i64 a0,.int .i64 a1,encF 2 d_II a2,encF 1 d_LIIE a3,encF 1 d_I a4,encF 1 d_I a5,encF 2 d_II a6,.int .i64 a7,.int .i64 a8],.agg [.int .i64 a9,.int .i64 a10],.clo a11 []]
def qd26:List Arg→Int×Int×L_II×L_LIIE×L_I×L_I×L_II×Int×Int×Int×Int×Nat
 | [.agg [c0,c1,c2,c3,c4,c5,c6,c7,c8],.agg [c9,c10],.clo c11 []]=>(dInt c0,dInt c1,decF g_II c2,decF g_LIIE c3,decF g_I c4,decF g_I c5,decF g_II c6,dInt c7,dInt c8,dInt c9,dInt c10,c11)
 | _=>default
def qT26 (r:Int→Int→L_II→L_LIIE→L_I→L_I→L_II→Int→Int→Int→Int→Nat→Option β):=mkT (u12 qw26) qd26 (u12 r) u al
attribute [go_sem] qw26 qd26 qT26
def qw28 (a0:L_I):List Arg:=[.c (encF 1 d_I a0),.clo 157 []]
def qd28:List Arg→L_I
 | [.c c0,.clo _ []]=>decF g_I c0
 | _=>default
def qT28 (r:L_I→Option β):=mkT (u1 qw28) qd28 (u1 r) u al
attribute [go_sem] qw28 qd28 qT28
def qw29 (a0 a1:Int) (a2:L_II) (a3:L_LIIE) (a4:L_II) (a5:L_LIIE) (a6:L_I) (a7:Int):List Arg:=[.agg [.int .i64 a0,.int .i64 a1,encF 2 d_II a2,encF 1 d_LIIE a3,encF 2 d_II a4,encF 1 d_LIIE a5],.agg [encF 1 d_I a6,.int .i64 a7]]
def qd29:List Arg→Int×Int×L_II×L_LIIE×L_II×L_LIIE×L_I×Int
 | [.agg [c0,c1,c2,c3,c4,c5],.agg [c6,c7]]=>(dInt c0,dInt c1,decF g_II c2,decF g_LIIE c3,decF g_II c4,decF g_LIIE c5,decF g_I c6,dInt c7)
 | _=>default
def qT29 (r:Int→Int→L_II→L_LIIE→L_II→L_LIIE→L_I→Int→Option β):=mkT (u8 qw29) qd29 (u8 r) u al
attribute [go_sem] qw29 qd29 qT29
def qw30 (a0 a1:Int) (a2:L_II) (a3:L_LIIE) (a4:L_II) (a5:L_LIIE) (a6 a7:Int):List Arg:=[.agg [.int .i64 a0,.int .i64 a1,encF 2 d_II a2,encF 1 d_LIIE a3,encF 2 d_II a4,encF 1 d_LIIE a5],.c (.int .i64 a6),.c (.int .i64 a7)]
def qd30:List Arg→Int×Int×L_II×L_LIIE×L_II×L_LIIE×Int×Int
 | [.agg [c0,c1,c2,c3,c4,c5],.c c6,.c c7]=>(dInt c0,dInt c1,decF g_II c2,decF g_LIIE c3,decF g_II c4,decF g_LIIE c5,dInt c6,dInt c7)
 | _=>default
def qT30 (r:Int→Int→L_II→L_LIIE→L_II→L_LIIE→Int→Int→Option β):=mkT (u8 qw30) qd30 (u8 r) u al
attribute [go_sem] qw30 qd30 qT30
def qw31 (a0:L_I) (a1 a2:Int) (a3:L_II) (a4:L_LIIE) (a5:L_II) (a6:L_LIIE):List Arg:=[.c (encF 1 d_I a0),.clo 117 [[.int .i64 a1,.int .i64 a2,encF 2 d_II a3,encF 1 d_LIIE a4,encF 2 d_II a5,encF 1 d_LIIE a6]]]
def qd31:List Arg→L_I×Int×Int×L_II×L_LIIE×L_II×L_LIIE
 | [.c c0,.clo _ [[c1,c2,c3,c4,c5,c6]]]=>(decF g_I c0,dInt c1,dInt c2,decF g_II c3,decF g_LIIE c4,decF g_II c5,decF g_LIIE c6)
 | _=>default
def qT31 (r:L_I→Int→Int→L_II→L_LIIE→L_II→L_LIIE→Option β):=mkT (u7 qw31) qd31 (u7 r) u al
attribute [go_sem] qw31 qd31 qT31
def qw32 (a0 a1:Int) (a2:L_II) (a3:L_LIIE) (a4:L_II) (a5:L_LIIE) (a6 a7:L_I) (a8:Int):List Arg:=[.agg [.int .i64 a0,.int .i64 a1,encF 2 d_II a2,encF 1 d_LIIE a3,encF 2 d_II a4,encF 1 d_LIIE a5],.c (encF 1 d_I a6),.agg [encF 1 d_I a7,.int .i64 a8]]
def qd32:List Arg→Int×Int×L_II×L_LIIE×L_II×L_LIIE×L_I×L_I×Int
 | [.agg [c0,c1,c2,c3,c4,c5],.c c6,.agg [c7,c8]]=>(dInt c0,dInt c1,decF g_II c2,decF g_LIIE c3,decF g_II c4,decF g_LIIE c5,decF g_I c6,decF g_I c7,dInt c8)
 | _=>default
def qT32 (r:Int→Int→L_II→L_LIIE→L_II→L_LIIE→L_I→L_I→Int→Option β):=mkT (u9 qw32) qd32 (u9 r) u al
attribute [go_sem] qw32 qd32 qT32
def qw33 (a0 a1:Int) (a2:L_II) (a3:L_LIIE) (a4 a5:L_I) (a6:Int):List Arg:=[.agg [.int .i64 a0,.int .i64 a1,encF 2 d_II a2,encF 1 d_LIIE a3],.c (encF 1 d_I a4),.agg [encF 1 d_I a5,.int .i64 a6]]
def qd33:List Arg→Int×Int×L_II×L_LIIE×L_I×L_I×Int
 | [.agg [c0,c1,c2,c3],.c c4,.agg [c5,c6]]=>(dInt c0,dInt c1,decF g_II c2,decF g_LIIE c3,decF g_I c4,decF g_I c5,dInt c6)
 | _=>default
def qT33 (r:Int→Int→L_II→L_LIIE→L_I→L_I→Int→Option β):=mkT (u7 qw33) qd33 (u7 r) u al
attribute [go_sem] qw33 qd33 qT33
def qu13 (v:L_I×Int):List RV:=[.agg [.own (encF 1 d_I v.1),.d (.int .i64 v.2)]]
attribute [go_sem] qu13
def qu14 (v:L_I×Int×Int):List RV:=[.c (.own (encF 1 d_I v.1)),.c (.d (.int .i64 v.2.1)),.c (.d (.int .i64 v.2.2))]
attribute [go_sem] qu14
def qu15 (v:L_I×Int):List RV:=[.c (.own (encF 1 d_I v.1)),.c (.d (.int .i64 v.2))]
attribute [go_sem] qu15
end
def b86_1 (x0:L_II) (x1 x2:Int) (a2:Nat):Bd (Int×(List (Int))) (L_I×Int):=fun s1=>
 if (decide (s1.1<(x0.length:Int)))=true then
  if 0≤s1.1∧s1.1<(x0.length:Int) then
   if a2=87 then
    bindC (r87 ((x0.getD s1.1.toNat default).1) ((x0.getD s1.1.toNat default).2)) fun v8=>
     if (s1.2.length+1)*8≤140737488355328∧s1.2.length+1≤9223372036854775807 then
      .next (IntKind.i64.wrap (s1.1+1),s1.2++[IntKind.i64.wrap ((IntKind.i64.wrap (x1*v8)).tdiv 1000)])
      else .out none
    else if a2=102 then
     bindC (r102 ((x0.getD s1.1.toNat default).1) ((x0.getD s1.1.toNat default).2)) fun v5=>
      if (s1.2.length+1)*8≤140737488355328∧s1.2.length+1≤9223372036854775807 then
       .next (IntKind.i64.wrap (s1.1+1),s1.2++[IntKind.i64.wrap ((IntKind.i64.wrap (x1*v5)).tdiv 1000)])
       else .out none
     else if a2=171 then
      bindC (r171 ((x0.getD s1.1.toNat default).1) ((x0.getD s1.1.toNat default).2)) fun v2=>
       if (s1.2.length+1)*8≤140737488355328∧s1.2.length+1≤9223372036854775807 then
        .next (IntKind.i64.wrap (s1.1+1),s1.2++[IntKind.i64.wrap ((IntKind.i64.wrap (x1*v2)).tdiv 1000)])
        else .out none
      else .out none
   else .out none
  else .out (some (s1.2,x2))
def r86 (x3 x4:Int) (x5:L_II) (x6:L_LIIE) (x7 x8:L_I) (x0:L_II) (x9 x10 x1 x2:Int) (a2:Nat):Option (L_I×Int):=
 iterC (b86_1 x0 x1 x2 a2) 1000000000 (0,[])
@[go_sem] def T86:=qT26 qu13 false r86
@[go_sem] def tb86 (k:Nat):=lk [(87,T87.sp),(102,T102.sp),(171,T171.sp)] k
theorem f86:FnFact Tryz.prog 86 T86.sp:=by
 refine vm (tb:=tb86) (.cons f87 (.cons f102 (.cons f171 .nil))) Tryz.func86 Tryz.ntmps86 fun ⟨x3,x4,x5,x6,x7,x8,x0,x9,x10,x1,x2,a2⟩ r hr stop S=> ?_
 rw [uq12,r86] at hr
 refine S.gx [5] ?_
 refine gr ?_
 refine S.own0b 7 0 2000700 1 rfl rfl (nL rfl) rfl ?_
 refine S.sees [2,4,6,7,15,16,17] [(4,4),(6,6),(7,7)] [(2000700,2000700)] ?_ (Stop.iter S (fun s1=>⟨[(2,.c (.clo a2 [])),(4,.c (.ref 4 0)),(6,.c (.ref 6 0)),(7,.c (.ref 7 0)),(15,.c (.d (encF 2 d_II x0))),(16,.c (.d (.int .i64 (x0.length:Int)))),(17,.c (.d (.int .i64 s1.1)))],[(4,[.d (.int .i64 x1),.d (.int .i64 x2)]),(6,[.nils,.d (.int .i64 0)]),(7,[.own 2000700,.d (.int .i64 x2)])],[(2000700,.owned (encF 1 d_I s1.2))]⟩) (b86_1 x0 x1 x2 a2) (fun q=>q=r) hr rfl ?_)
 ·exact lf
 ·intro s1 hr
  unfold b86_1 at hr
  refine S.gx [5] ?_
  refine gr ?_
  refine iW1 hr (fun hc hr=> ?_) fun hc hr=>D0 hr
  obtain ⟨hg10,hr⟩:=of_guard1 hr
  refine gr ?_
  by_cases hs7:a2=87
  ·subst hs7
   rw [if_pos rfl] at hr
   refine S.gx [] ?_
   exact D1 (S.ss [2,4,6,7,15,16,17] [(4,4),(6,6),(7,7)] [(31,2000700)]) hr
  ·rw [if_neg hs7] at hr
   by_cases hs4:a2=102
   ·subst hs4
    rw [if_pos rfl] at hr
    refine S.gx [] ?_
    exact D1 (S.ss [2,4,6,7,15,16,17] [(4,4),(6,6),(7,7)] [(31,2000700)]) hr
   ·rw [if_neg hs4] at hr
    by_cases hs1:a2=171
    ·subst hs1
     rw [if_pos rfl] at hr
     refine S.gx [] ?_
     exact D1 (S.ss [2,4,6,7,15,16,17] [(4,4),(6,6),(7,7)] [(31,2000700)]) hr
    ·rw [if_neg hs1] at hr
     first | cases hr | exact hr.elim
def r79 (x0 x1:Int) (x2:L_II) (x3:L_LIIE) (a1:L_I):Option (Int×Int×L_II×L_LIIE×L_II×L_LIIE×Int):=
 (r108 x0 x1 x2 x3).bind fun v1=>
  if (v1.2.2.2.2.2.2 == 0)=true then
   (r109 v1.1 v1.2.1 v1.2.2.1 v1.2.2.2.1 v1.2.2.2.2.1 v1.2.2.2.2.2.1 a1).bind fun v2=>
    some (v1.1,v1.2.1,v1.2.2.1,v1.2.2.2.1,v1.2.2.2.2.1,v1.2.2.2.2.2.1,v2.2)
   else some (v1.1,v1.2.1,v1.2.2.1,v1.2.2.2.1,v1.2.2.2.2.1,v1.2.2.2.2.2.1,v1.2.2.2.2.2.2)
@[go_sem] def T79:=qT27 qu8 true r79
@[go_sem] def tb79 (k:Nat):=lk [(108,T108.sp),(109,T109.sp)] k
theorem f79:FnFact Tryz.prog 79 T79.sp:=by
 refine vm (tb:=tb79) (.cons f108 (.cons f109 .nil)) Tryz.func79 Tryz.ntmps79 fun ⟨x0,x1,x2,x3,a1⟩ r hr stop S=> ?_
 rw [uq5,r79] at hr
 refine S.gx [] ?_
 exact D0 hr
def r158 (a0:Int):Option (Bool):=
 (r144 a0 0 10000).bind fun v1=>
  some v1
@[go_sem] def T158:=qT4 qu2 false r158
@[go_sem] def tb158 (k:Nat):=lk [(144,T144.sp)] k
theorem f158:FnFact Tryz.prog 158 T158.sp:=by
 refine vm (tb:=tb158) (.cons f144 .nil) Tryz.func158 Tryz.ntmps158 fun a0 r hr stop S=> ?_
 rw [uq1,r158] at hr
 refine S.gx [] ?_
 exact D0 hr
def r157 (a0:Int):Option (Bool):=
 (r158 a0).bind fun v1=>
  some (!v1)
@[go_sem] def T157:=qT4 qu2 false r157
@[go_sem] def tb157 (k:Nat):=lk [(158,T158.sp)] k
theorem f157:FnFact Tryz.prog 157 T157.sp:=by
 refine vm (tb:=tb157) (.cons f158 .nil) Tryz.func157 Tryz.ntmps157 fun a0 r hr stop S=> ?_
 rw [uq1,r157] at hr
 refine S.gx [] ?_
 exact D0 hr
def b155a_1 (a0:L_I):Bd Int Int:=fun s1=>
 if (decide (s1<(a0.length:Int)))=true then
  if 0≤s1∧s1<(a0.length:Int) then
   bindC (r157 (a0.getD s1.toNat default)) fun v1=>
    if v1=true then
     .out (some s1)
     else .next (IntKind.i64.wrap (s1+1))
   else .out none
  else .out (some (-1))
def r155a (a0:L_I):Option (Int):=
 iterC (b155a_1 a0) 1000000000 0
@[go_sem] def T155a:=qT28 qu3 false r155a
@[go_sem] def tb155a (k:Nat):=lk [(157,T157.sp)] k
theorem f155a:FnFact Tryz.prog 155 T155a.sp:=by
 refine vm (tb:=tb155a) (.cons f157 .nil) Tryz.func155 Tryz.ntmps155 fun a0 r hr stop S=> ?_
 rw [uq1,r155a] at hr
 refine S.gx [] ?_
 refine gr ?_
 refine S.sees [0,1,7,8] [] [] ?_ (Stop.iter S (fun s1=>⟨[(0,.c (.d (encF 1 d_I a0))),(1,.c (.clo 157 [])),(7,.c (.d (.int .i64 (a0.length:Int)))),(8,.c (.d (.int .i64 s1)))],[],[]⟩) (b155a_1 a0) (fun q=>q=r) hr rfl ?_)
 ·exact lf
 ·intro s1 hr
  unfold b155a_1 at hr
  refine S.gx [] ?_
  exact D1 (S.ss [0,1,7,8] [] []) hr
def r116 (a0:L_I):Option (Bool):=
 (r155a a0).bind fun v1=>
  some (decide (v1≥0))
@[go_sem] def T116:=qT28 qu2 false r116
@[go_sem] def tb116 (k:Nat):=lk [(155,T155a.sp)] k
theorem f116:FnFact Tryz.prog 116 T116.sp:=by
 refine vm (tb:=tb116) (.cons f155a .nil) Tryz.func116 Tryz.ntmps116 fun a0 r hr stop S=> ?_
 rw [uq1,r116] at hr
 refine S.gx [] ?_
 exact D0 hr
def r159 (x1 x2:Int) (x3:L_II) (x4:L_LIIE) (x5:L_II) (x0:L_LIIE) (a1:Int):Option (Int):=
 (r144 a1 0 (IntKind.i64.wrap ((x0.length:Int) - 1))).bind fun v1=>
  (r110 v1 6).bind fun v2=>
   some v2
@[go_sem] def T159:=qT13 qu3 false r159
@[go_sem] def tb159 (k:Nat):=lk [(110,T110.sp),(144,T144.sp)] k
theorem f159:FnFact Tryz.prog 159 T159.sp:=by
 refine vm (tb:=tb159) (.cons f110 (.cons f144 .nil)) Tryz.func159 Tryz.ntmps159 fun ⟨x1,x2,x3,x4,x5,x0,a1⟩ r hr stop S=> ?_
 rw [uq7,r159] at hr
 refine S.gx [] ?_
 exact D0 hr
def r112 (x0 x2:Int) (x3:L_II) (x4:L_LIIE) (x5:L_II) (x6:L_LIIE) (x1:L_I) (x7:Int):Option (Int):=
 (r116 x1).bind fun v1=>
  (r110 ((x1.length:Int) == x0) 10).bind fun v2=>
   (r110 (!v1) 2).bind fun v3=>
    (r159 x0 x2 x3 x4 x5 x6 x7).bind fun v4=>
     (r111 [v2,v3,v4]).bind fun v5=>
      some v5
@[go_sem] def T112:=qT29 qu3 false r112
@[go_sem] def tb112 (k:Nat):=lk [(110,T110.sp),(111,T111.sp),(116,T116.sp),(159,T159.sp)] k
theorem f112:FnFact Tryz.prog 112 T112.sp:=by
 refine vm (tb:=tb112) (.cons f110 (.cons f111 (.cons f116 (.cons f159 .nil)))) Tryz.func112 Tryz.ntmps112 fun ⟨x0,x2,x3,x4,x5,x6,x1,x7⟩ r hr stop S=> ?_
 rw [uq8,r112] at hr
 refine S.gx [] ?_
 exact D0 hr
def r113 (a0:List (Int)):Option (List (Int)):=if a0.length*8≤140737488355328∧a0.length≤9223372036854775807 then some a0 else none
def T113:TSpec (List (Int)) where
 enc x:=[.c (encF 1 d_I x)]
 dec a:=decF g_I (aCell a 0 0)
 pre x:=(r113 x).isSome=true
 res x:=[.c (.own (encF 1 d_I ((r113 x).getD default)))]
 al:=false
theorem TP113 (c0:D):T113.sp.pre [.c c0]=(eqvArgs [.c c0] [.c (encF 1 d_I (decF g_I c0))]∧(r113 (decF g_I c0)).isSome=true):=(rfl)
theorem TR113 (c0:D):T113.sp.res [.c c0]=[.c (.own (encF 1 d_I ((r113 (decF g_I c0)).getD default)))]:=(rfl)
theorem TA113:T113.sp.alias=false:=(rfl)
attribute [go_sem] TP113 TR113 TA113
theorem v113:Valid Tryz.prog 113 T113.sp:=by
 refine valid_t (fn:=Tryz.f113) (n:=8) ty_ok FnsOk.nil Tryz.func113 rfl Tryz.ntmps113 ?_
 rintro a0 hx
 obtain ⟨r,hr⟩:=oE (show (r113 a0).isSome=true from hx)
 have hres:T113.res a0=[.c (.own (encF 1 d_I r))]:=by simp only [T113,hr,Option.getD_some]
 refine ⟨nL rfl,fun stop S=> ?_⟩
 rw [hres] at S
 unfold r113 at hr
 obtain ⟨hg,hr⟩:=of_guard0 hr
 cases hr
 refine S.goB [1] 1000 ?_
 simp only [go_sem,T113,Bool.not_true,Bool.not_false,Option.map_some,Int.reduceToNat,Nat.reduceEqDiff,Nat.reduceBEq,Nat.reduceLT,Nat.reduceAdd,Nat.reduceMul,Nat.reduceSub,Nat.reduceLeDiff, ↓reduceIte,reduceCtorEq,Tryz.results113]
 refine S.eqnil 0 3 4 38 38 3 rfl rfl rfl rfl rfl rfl rfl rfl rfl rfl (by decide) (by decide) ?_
 intro b hb
 refine S.goB [] 1000 ?_
 simp only [go_sem,T113,Bool.not_true,Bool.not_false,Option.map_some,Int.reduceToNat,Nat.reduceEqDiff,Nat.reduceBEq,Nat.reduceLT,Nat.reduceAdd,Nat.reduceMul,Nat.reduceSub,Nat.reduceLeDiff, ↓reduceIte,reduceCtorEq,Tryz.results113]
 have hb':b=true→a0.length=0:=hb
 refine ⟨?_,?_⟩<;>intro hc
 ·simpa using hb' hc
 ·refine ⟨by omega,by omega,?_⟩
  (simp (maxDischargeDepth:=8) [go_sem])
theorem f113:FnFact Tryz.prog 113 T113.sp:=⟨⟨Tryz.f113,Tryz.func113,by decide,rfl⟩,v113⟩
def r161 (a0 a1:Int):Option (Int):=
 if a1≠0 then
  if a1≠0 then
   if (decide ((a0.tmod a1)<0))=true then
    some (IntKind.i64.wrap ((IntKind.i64.wrap (a0.tdiv a1)) - 1))
    else some (IntKind.i64.wrap (a0.tdiv a1))
   else none
  else none
@[go_sem] def T161:=qT7 qu3 false r161
theorem f161:FnFact Tryz.prog 161 T161.sp:=by
 refine vm .nil Tryz.func161 Tryz.ntmps161 fun ⟨a0,a1⟩ r hr stop S=> ?_
 rw [uq2,r161] at hr
 refine S.gx [] ?_
 exact D0 hr
def r115 (x1 x2:Int) (x3:L_II) (x4:L_LIIE) (x5:L_II) (x0:L_LIIE) (a1 a2:Int):Option (Int):=
 if 0≤a1∧a1<(x0.length:Int) then
  (r160 x1 x2 x3 x4 x5 x0 a2).bind fun v1=>
   (r162 (x0.getD a1.toNat default) v1.1 v1.2).bind fun v2=>
    (r161 v2.1 v2.2).bind fun v3=>
     some v3
  else none
@[go_sem] def T115:=qT30 qu3 false r115
@[go_sem] def tb115 (k:Nat):=lk [(160,T160.sp),(161,T161.sp),(162,T162.sp)] k
theorem f115:FnFact Tryz.prog 115 T115.sp:=by
 refine vm (tb:=tb115) (.cons f160 (.cons f161 (.cons f162 .nil))) Tryz.func115 Tryz.ntmps115 fun ⟨x1,x2,x3,x4,x5,x0,a1,a2⟩ r hr stop S=> ?_
 rw [uq8,r115] at hr
 refine S.gx [] ?_
 exact D0 hr
def r117 (a0 x0 x1:Int) (x2:L_II) (x3:L_LIIE) (x4:L_II) (x5:L_LIIE):Option (Bool):=
 (r118 x0 x1 x2 x3 x4 x5 a0).bind fun v1=>
  some (!v1)
@[go_sem] def T117:=qT14 qu2 false r117
@[go_sem] def tb117 (k:Nat):=lk [(118,T118.sp)] k
theorem f117:FnFact Tryz.prog 117 T117.sp:=by
 refine vm (tb:=tb117) (.cons f118 .nil) Tryz.func117 Tryz.ntmps117 fun ⟨a0,x0,x1,x2,x3,x4,x5⟩ r hr stop S=> ?_
 rw [uq7,r117] at hr
 refine S.gx [] ?_
 exact D0 hr
def b155b_1 (a0:L_I) (x0 x1:Int) (x2:L_II) (x3:L_LIIE) (x4:L_II) (x5:L_LIIE):Bd Int Int:=fun s1=>
 if (decide (s1<(a0.length:Int)))=true then
  if 0≤s1∧s1<(a0.length:Int) then
   bindC (r117 (a0.getD s1.toNat default) x0 x1 x2 x3 x4 x5) fun v1=>
    if v1=true then
     .out (some s1)
     else .next (IntKind.i64.wrap (s1+1))
   else .out none
  else .out (some (-1))
def r155b (a0:L_I) (x0 x1:Int) (x2:L_II) (x3:L_LIIE) (x4:L_II) (x5:L_LIIE):Option (Int):=
 iterC (b155b_1 a0 x0 x1 x2 x3 x4 x5) 1000000000 0
@[go_sem] def T155b:=qT31 qu3 false r155b
@[go_sem] def tb155b (k:Nat):=lk [(117,T117.sp)] k
theorem f155b:FnFact Tryz.prog 155 T155b.sp:=by
 refine vm (tb:=tb155b) (.cons f117 .nil) Tryz.func155 Tryz.ntmps155 fun ⟨a0,x0,x1,x2,x3,x4,x5⟩ r hr stop S=> ?_
 rw [uq7,r155b] at hr
 refine S.gx [] ?_
 refine gr ?_
 refine S.sees [0,1,7,8] [] [] ?_ (Stop.iter S (fun s1=>⟨[(0,.c (.d (encF 1 d_I a0))),(1,.c (.clo 117 [.sptr [.int .i64 x0,.int .i64 x1,encF 2 d_II x2,encF 1 d_LIIE x3,encF 2 d_II x4,encF 1 d_LIIE x5] 0])),(7,.c (.d (.int .i64 (a0.length:Int)))),(8,.c (.d (.int .i64 s1)))],[],[]⟩) (b155b_1 a0 x0 x1 x2 x3 x4 x5) (fun q=>q=r) hr rfl ?_)
 ·exact lf
 ·intro s1 hr
  unfold b155b_1 at hr
  refine S.gx [] ?_
  exact D1 (S.ss [0,1,7,8] [] []) hr
def r116a (a0:L_I) (x0 x1:Int) (x2:L_II) (x3:L_LIIE) (x4:L_II) (x5:L_LIIE):Option (Bool):=
 (r155b a0 x0 x1 x2 x3 x4 x5).bind fun v1=>
  some (decide (v1≥0))
@[go_sem] def T116a:=qT31 qu2 false r116a
@[go_sem] def tb116a (k:Nat):=lk [(155,T155b.sp)] k
theorem f116a:FnFact Tryz.prog 116 T116a.sp:=by
 refine vm (tb:=tb116a) (.cons f155b .nil) Tryz.func116 Tryz.ntmps116 fun ⟨a0,x0,x1,x2,x3,x4,x5⟩ r hr stop S=> ?_
 rw [uq7,r116a] at hr
 refine S.gx [] ?_
 exact D0 hr
def b81_3 (x1 x0:Int) (x2:L_II) (x3:L_LIIE) (x4:L_II) (x5:L_LIIE) (x6:L_I) (v20:Int):Bd (Int×(List (Int))) (L_I×Int×Int):=fun s3=>
 if (decide (s3.1<(x6.length:Int)))=true then
  if 0≤s3.1∧s3.1<(x6.length:Int) then
   if 0≤s3.1∧s3.1<(s3.2.length:Int) then
    if 0≤s3.1∧s3.1<(s3.2.length:Int) then
     .next (IntKind.i64.wrap (s3.1+1),s3.2.set s3.1.toNat (IntKind.i64.wrap ((s3.2.getD s3.1.toNat default)+(x6.getD s3.1.toNat default))))
     else .out none
    else .out none
   else .out none
  else .out ((r116a s3.2 x1 x0 x2 x3 x4 x5).bind fun v24=>
   (r110 (!v24) 22).bind fun v25=>
    some (s3.2,v20,v25))
def b81_2 (x1 x0:Int) (x2:L_II) (x3:L_LIIE) (x4:L_II) (x5:L_LIIE) (x6:L_I) (x7:Int):Bd (Int×(List (Int))) (L_I×Int×Int):=fun s2=>
 if (decide ((IntKind.i64.wrap (s2.1+1))<(s2.2.length:Int)))=true then
  if 0≤s2.1∧s2.1<(s2.2.length:Int) then
   bindC (r160 x1 x0 x2 x3 x4 x5 (s2.2.getD s2.1.toNat default)) fun v11=>
    if 0≤IntKind.i64.wrap (s2.1+1)∧IntKind.i64.wrap (s2.1+1)<(s2.2.length:Int) then
     bindC (r160 x1 x0 x2 x3 x4 x5 (s2.2.getD (IntKind.i64.wrap (s2.1+1)).toNat default)) fun v12=>
      bindC (r161 (IntKind.i64.wrap (x0*(IntKind.i64.wrap ((IntKind.i64.wrap (v11.1*v12.2)) - (IntKind.i64.wrap (v12.1*v11.2)))))) (IntKind.i64.wrap ((IntKind.i64.wrap (1000*v11.2))*v12.2))) fun v13=>
       if 0≤s2.1∧s2.1<(s2.2.length:Int) then
        if 0≤IntKind.i64.wrap (s2.1+1)∧IntKind.i64.wrap (s2.1+1)<(s2.2.length:Int) then
         if 0≤s2.1∧s2.1<(s2.2.length:Int) then
          if 0≤IntKind.i64.wrap (s2.1+1)∧IntKind.i64.wrap (s2.1+1)<(s2.2.length:Int) then
           .next (IntKind.i64.wrap (s2.1+2),(s2.2.set s2.1.toNat (IntKind.i64.wrap ((s2.2.getD s2.1.toNat default) - v13))).set (IntKind.i64.wrap (s2.1+1)).toNat (IntKind.i64.wrap ((s2.2.getD (IntKind.i64.wrap (s2.1+1)).toNat default)+v13)))
           else .out none
          else .out none
         else .out none
        else .out none
     else .out none
   else .out none
  else .out (if 0≤0∧0<(s2.2.length:Int) then
   (r115 x1 x0 x2 x3 x4 x5 x7 (s2.2.getD 0 default)).bind fun v20=>
    if 0≤0∧0<(s2.2.length:Int) then
     if 0≤0∧0<(s2.2.length:Int) then
      iterC (b81_3 x1 x0 x2 x3 x4 x5 x6 v20) 1000000000 (0,s2.2.set 0 (IntKind.i64.wrap ((s2.2.getD 0 default) - v20)))
      else none
     else none
   else none)
def b81_1 (x1 x0:Int) (x2:L_II) (x3:L_LIIE) (x4:L_II) (x5:L_LIIE) (x6:L_I) (x7:Int):Bd (Int×(List (Int))) (L_I×Int×Int):=fun s1=>
 if (decide ((IntKind.i64.wrap (s1.1+1))<(s1.2.length:Int)))=true then
  if 0≤s1.1∧s1.1<(s1.2.length:Int) then
   bindC (r160 x1 x0 x2 x3 x4 x5 (s1.2.getD s1.1.toNat default)) fun v2=>
    if 0≤IntKind.i64.wrap (s1.1+1)∧IntKind.i64.wrap (s1.1+1)<(s1.2.length:Int) then
     bindC (r160 x1 x0 x2 x3 x4 x5 (s1.2.getD (IntKind.i64.wrap (s1.1+1)).toNat default)) fun v3=>
      bindC (r161 (IntKind.i64.wrap (x0*(IntKind.i64.wrap ((IntKind.i64.wrap (v2.1*v3.2)) - (IntKind.i64.wrap (v3.1*v2.2)))))) (IntKind.i64.wrap ((IntKind.i64.wrap (1000*v2.2))*v3.2))) fun v4=>
       if 0≤s1.1∧s1.1<(s1.2.length:Int) then
        if 0≤IntKind.i64.wrap (s1.1+1)∧IntKind.i64.wrap (s1.1+1)<(s1.2.length:Int) then
         if 0≤s1.1∧s1.1<(s1.2.length:Int) then
          if 0≤IntKind.i64.wrap (s1.1+1)∧IntKind.i64.wrap (s1.1+1)<(s1.2.length:Int) then
           .next (IntKind.i64.wrap (s1.1+2),(s1.2.set s1.1.toNat (IntKind.i64.wrap ((s1.2.getD s1.1.toNat default) - v4))).set (IntKind.i64.wrap (s1.1+1)).toNat (IntKind.i64.wrap ((s1.2.getD (IntKind.i64.wrap (s1.1+1)).toNat default)+v4)))
           else .out none
          else .out none
         else .out none
        else .out none
     else .out none
   else .out none
  else .out (iterC (b81_2 x1 x0 x2 x3 x4 x5 x6 x7) 1000000000 (1,s1.2))
def r81 (x1 x0:Int) (x2:L_II) (x3:L_LIIE) (x4:L_II) (x5:L_LIIE) (a1 x6:L_I) (x7:Int):Option (L_I×Int×Int):=
 (r113 a1).bind fun v1=>
  iterC (b81_1 x1 x0 x2 x3 x4 x5 x6 x7) 1000000000 (0,v1)
@[go_sem] def T81:=qT32 qu14 false r81
@[go_sem] def tb81 (k:Nat):=lk [(110,T110.sp),(113,T113.sp),(115,T115.sp),(116,T116a.sp),(160,T160.sp),(161,T161.sp)] k
theorem tb81_ok:FnsOk Tryz.prog tb81:= .cons f110 (.cons f113 (.cons f115 (.cons f116a (.cons f160 (.cons f161 .nil)))))
theorem f81:FnFact Tryz.prog 81 T81.sp:=by
 refine vm (tb:=tb81) (.cons f110 (.cons f113 (.cons f115 (.cons f116a (.cons f160 (.cons f161 .nil)))))) Tryz.func81 Tryz.ntmps81 fun ⟨x1,x0,x2,x3,x4,x5,a1,x6,x7⟩ r hr stop S=> ?_
 rw [uq9,r81] at hr
 refine S.gx [2,3] ?_
 obtain ⟨v1,hv1,hr⟩:=of_bind0 hr
 refine gb hv1 ?_
 refine S.inl 2 [3,5,9] [] Tryz.func114 (by decide) rfl Tryz.ntmps114 (fun cx e=>drawn_ok ty_ok tb81_ok cx e) (some 18) rfl rfl rfl rfl (nL rfl) (nL rfl) ?_
 refine gs ?_
 refine gr ?_
 intro stop1 S1
 refine S1.gx [6] ?_
 refine gr ?_
 refine S1.sees [1,3,6] [(100003,100003),(3,3),(5,5)] [(15,15)] ?_ (Stop.iter S1 (fun s1=>⟨[(1,.c (.own 15)),(3,.c (.ref 100003 0)),(6,.c (.d (.int .i64 s1.1)))],[(100003,[.d (.int .i64 x1),.d (.int .i64 x0),.d (encF 2 d_II x2),.d (encF 1 d_LIIE x3),.d (encF 2 d_II x4),.d (encF 1 d_LIIE x5)]),(3,[.d (.int .i64 x1),.d (.int .i64 x0),.d (encF 2 d_II x2),.d (encF 1 d_LIIE x3),.d (encF 2 d_II x4),.d (encF 1 d_LIIE x5)]),(5,[.d (encF 1 d_I x6),.d (.int .i64 x7)])],[(15,.owned (encF 1 d_I s1.2))]⟩) (b81_1 x1 x0 x2 x3 x4 x5 x6 x7) (fun q=>q=r) hr rfl ?_)
 ·exact lf
 ·intro s1 hr
  unfold b81_1 at hr
  refine S1.gx [6] ?_
  refine gr ?_
  refine iW1 hr (fun hc hr=> ?_) fun hc hr=> ?_
  ·obtain ⟨hg9,hr⟩:=of_guard1 hr
   obtain ⟨v2,hv2,hr⟩:=of_bind1 hr
   obtain ⟨hg10,hr⟩:=of_guard1 hr
   obtain ⟨v3,hv3,hr⟩:=of_bind1 hr
   obtain ⟨v4,hv4,hr⟩:=of_bind1 hr
   refine gb hv2 ?_
   refine gb hv3 ?_
   refine gb hv4 ?_
   refine S1.prune [1,3,6,9] ?_
   refine S1.gx [] ?_
   exact D1 (S1.ss [1,3,6] [(100003,100003),(3,3),(5,5)] [(15,15)]) hr
  ·refine gr ?_
   have hr:=of_out0 hr
   refine gr ?_
   refine gr ?_
   refine S.gx [2,3] ?_
   refine gr ?_
   refine S.inl 2 [3,5,9] [] Tryz.func114 (by decide) rfl Tryz.ntmps114 (fun cx e=>drawn_ok ty_ok tb81_ok cx e) (some 21) rfl rfl rfl rfl (nL rfl) (nL rfl) ?_
   refine gs ?_
   refine gr ?_
   intro stop1 S1
   refine S1.gx [6] ?_
   refine gr ?_
   refine S1.sees [1,3,6] [(200003,200003),(3,3),(5,5)] [(15,15)] ?_ (Stop.iter S1 (fun s2=>⟨[(1,.c (.own 15)),(3,.c (.ref 200003 0)),(6,.c (.d (.int .i64 s2.1)))],[(200003,[.d (.int .i64 x1),.d (.int .i64 x0),.d (encF 2 d_II x2),.d (encF 1 d_LIIE x3),.d (encF 2 d_II x4),.d (encF 1 d_LIIE x5)]),(3,[.d (.int .i64 x1),.d (.int .i64 x0),.d (encF 2 d_II x2),.d (encF 1 d_LIIE x3),.d (encF 2 d_II x4),.d (encF 1 d_LIIE x5)]),(5,[.d (encF 1 d_I x6),.d (.int .i64 x7)])],[(15,.owned (encF 1 d_I s2.2))]⟩) (b81_2 x1 x0 x2 x3 x4 x5 x6 x7) (fun q=>q=r) hr rfl ?_)
   ·exact lf
   ·intro s2 hr
    unfold b81_2 at hr
    refine S1.gx [6] ?_
    refine gr ?_
    refine iW1 hr (fun hc hr=> ?_) fun hc hr=> ?_
    ·obtain ⟨hg18,hr⟩:=of_guard1 hr
     obtain ⟨v11,hv11,hr⟩:=of_bind1 hr
     obtain ⟨hg19,hr⟩:=of_guard1 hr
     obtain ⟨v12,hv12,hr⟩:=of_bind1 hr
     obtain ⟨v13,hv13,hr⟩:=of_bind1 hr
     refine gb hv11 ?_
     refine gb hv12 ?_
     refine gb hv13 ?_
     refine S1.prune [1,3,6,9] ?_
     refine S1.gx [] ?_
     exact D1 (S1.ss [1,3,6] [(200003,200003),(3,3),(5,5)] [(15,15)]) hr
    ·refine gr ?_
     have hr:=of_out0 hr
     refine gr ?_
     refine gr ?_
     refine S.gx [2,3] ?_
     obtain ⟨hg26,hr⟩:=of_guard0 hr
     obtain ⟨v20,hv20,hr⟩:=of_bind0 hr
     obtain ⟨hg27,hr⟩:=of_guard0 hr
     obtain ⟨hg28,hr⟩:=of_guard0 hr
     refine gb hv20 ?_
     refine S.sees [3,9,10,36,37,38] [(3,3)] [(15,15)] ?_ (Stop.iter S (fun s3=>⟨[(3,.c (.ref 3 0)),(9,.c (.own 15)),(10,.c (.d (.int .i64 v20))),(36,.c (.d (encF 1 d_I x6))),(37,.c (.d (.int .i64 (x6.length:Int)))),(38,.c (.d (.int .i64 s3.1)))],[(3,[.d (.int .i64 x1),.d (.int .i64 x0),.d (encF 2 d_II x2),.d (encF 1 d_LIIE x3),.d (encF 2 d_II x4),.d (encF 1 d_LIIE x5)])],[(15,.owned (encF 1 d_I s3.2))]⟩) (b81_3 x1 x0 x2 x3 x4 x5 x6 v20) (fun q=>q=r) hr rfl ?_)
     ·exact lf
     ·intro s3 hr
      unfold b81_3 at hr
      refine S.gx [2,3] ?_
      exact D1 (S.ss [3,9,10,36,37,38] [(3,3)] [(15,15)]) hr
def r89 (x2 x3:Int) (x4:L_II) (x5:L_LIIE) (a1 x0:L_I) (x1:Int):Option (L_I×Int):=
 (r79 x2 x3 x4 x5 a1).bind fun v1=>
  if (v1.2.2.2.2.2.2 == 0)=true then
   (r112 v1.1 v1.2.1 v1.2.2.1 v1.2.2.2.1 v1.2.2.2.2.1 v1.2.2.2.2.2.1 x0 x1).bind fun v2=>
    if (v2 != 0)=true then
     some ([],v2)
     else (r81 v1.1 v1.2.1 v1.2.2.1 v1.2.2.2.1 v1.2.2.2.2.1 v1.2.2.2.2.2.1 a1 x0 x1).bind fun v3=>
      if (v3.2.2 != 0)=true then
       some ([],v3.2.2)
       else some (v3.1,0)
   else if (v1.2.2.2.2.2.2 != 0)=true then
    some ([],v1.2.2.2.2.2.2)
    else (r81 v1.1 v1.2.1 v1.2.2.1 v1.2.2.2.1 v1.2.2.2.2.1 v1.2.2.2.2.2.1 a1 x0 x1).bind fun v4=>
     if (v4.2.2 != 0)=true then
      some ([],v4.2.2)
      else some (v4.1,0)
@[go_sem] def T89:=qT33 qu15 false r89
@[go_sem] def tb89 (k:Nat):=lk [(79,T79.sp),(81,T81.sp),(112,T112.sp)] k
theorem f89:FnFact Tryz.prog 89 T89.sp:=by
 refine vm (tb:=tb89) (.cons f79 (.cons f81 (.cons f112 .nil))) Tryz.func89 Tryz.ntmps89 fun ⟨x2,x3,x4,x5,a1,x0,x1⟩ r hr stop S=> ?_
 rw [uq7,r89] at hr
 refine S.gx [7] ?_
 obtain ⟨v1,hv1,hr⟩:=of_bind0 hr
 refine gb hv1 ?_
 refine iW hr (fun hc hr=> ?_) fun hc hr=> ?_
 ·obtain ⟨v2,hv2,hr⟩:=of_bind0 hr
  refine gb hv2 ?_
  refine iW hr (fun hc hr=>D0 hr) fun hc hr=> ?_
  obtain ⟨v3,hv3,hr⟩:=of_bind0 hr
  refine gb hv3 ?_
  refine S.prune [9,10] ?_
  refine S.gx [] ?_
  exact D0 hr
 ·refine gr ?_
  refine iW hr (fun hc hr=>D0 hr) fun hc hr=> ?_
  obtain ⟨v4,hv4,hr⟩:=of_bind0 hr
  refine gb hv4 ?_
  refine S.prune [9,10] ?_
  refine S.gx [] ?_
  exact D0 hr
end Go.Proofs.YtkbdjphdhcgmaaaGreatDoor

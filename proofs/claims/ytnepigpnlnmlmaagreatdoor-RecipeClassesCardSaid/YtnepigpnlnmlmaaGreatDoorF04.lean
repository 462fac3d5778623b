/- Contracts of functions, written by wip/dec. -/
import Derived.Test.YtnepigpnlnmlmaaGreatDoorF00
import Derived.Test.YtnepigpnlnmlmaaGreatDoorF01
import Derived.Test.YtnepigpnlnmlmaaGreatDoorF02
import Derived.Test.YtnepigpnlnmlmaaGreatDoorF03
set_option linter.unusedVariables false
set_option linter.unusedSimpArgs false
set_option linter.constructorNameAsVariable false
set_option maxHeartbeats 4000000
set_option maxRecDepth 20000
namespace Go.Proofs.YtnepigpnlnmlmaaGreatDoor
open Go.Abs
section
variable {β:Type} [Inhabited β] (u:β→List RV) (al:Bool)
def qw26 (a0 a1:Int) (a2:L_II) (a3:L_LIIE) (a4 a5:L_I) (a6:L_II) (a7 a8 a9 a10:Int) (a11:Nat):List Arg:=[.agg [.int .i64 a0,.int .i64 a1,encF 2 d_II a2,encF 1 d_LIIE a3,encF 1 d_I a4,encF 1 d_I a5,encF 2 d_II a6,.int .i64 a7,.int .i64 a8],.agg [.int .i64 a9,.int .i64 a10],.clo a11 []]
def qd26:List Arg→Int×Int×L_II×L_LIIE×L_I×L_I×L_II×Int×Int×Int×Int×Nat
 | [.agg [c0,c1,c2,c3,c4,c5,c6,c7,c8],.agg [c9,c10],.clo c11 []]=>(dInt c0,dInt c1,decF g_II c2,decF g_LIIE c3,decF g_I c4,decF g_I c5,decF g_II c6,dInt c7,dInt c8,dInt c9,dInt c10,c11)
 | _=>default
def qT26 (r:Int→Int→L_II→L_LIIE→L_I→L_I→L_II→Int→Int→Int→Int→Nat→Option β):=mkT (u12 qw26) qd26 (u12 r) u al
attribute [go_sem] qw26 qd26 qT26
def qw27 (a0 a1:Int) (a2:L_II) (a3:L_LIIE) (a4:L_I):List Arg:=[.agg [.int .i64 a0,.int .i64 a1,encF 2 d_II a2,encF 1 d_LIIE a3],.c (encF 1 d_I a4)]
def qd27:List Arg→Int×Int×L_II×L_LIIE×L_I
 | [.agg [c0,c1,c2,c3],.c c4]=>(dInt c0,dInt c1,decF g_II c2,decF g_LIIE c3,decF g_I c4)
 | _=>default
def qT27 (r:Int→Int→L_II→L_LIIE→L_I→Option β):=mkT (u5 qw27) qd27 (u5 r) u al
attribute [go_sem] qw27 qd27 qT27
def qw28 (a0:L_I):List Arg:=[.c (encF 1 d_I a0),.clo 275 []]
def qd28:List Arg→L_I
 | [.c c0,.clo _ []]=>decF g_I c0
 | _=>default
def qT28 (r:L_I→Option β):=mkT (u1 qw28) qd28 (u1 r) u al
attribute [go_sem] qw28 qd28 qT28
def qw29 (a0 a1:Int) (a2:L_II) (a3:L_LIIE) (a4:L_II) (a5:L_LIIE) (a6:L_I) (a7:Int):List Arg:=[.agg [.int .i64 a0,.int .i64 a1,encF 2 d_II a2,encF 1 d_LIIE a3,encF 2 d_II a4,encF 1 d_LIIE a5],.agg [encF 1 d_I a6,.int .i64 a7]]
def qd29:List Arg→Int×Int×L_II×L_LIIE×L_II×L_LIIE×L_I×Int
 | [.agg [c0,c1,c2,c3,c4,c5],.agg [c6,c7]]=>(dInt c0,dInt c1,decF g_II c2,decF g_LIIE c3,decF g_II c4,decF g_LIIE c5,decF g_I c6,dInt c7)
 | _=>default
def qT29 (r:Int→Int→L_II→L_LIIE→L_II→L_LIIE→L_I→Int→Option β):=mkT (u8 qw29) qd29 (u8 r) u al
attribute [go_sem] qw29 qd29 qT29
def qw30 (a0 a1:Int) (a2:L_II) (a3:L_LIIE) (a4:L_II) (a5:L_LIIE) (a6 a7:Int):List Arg:=[.agg [.int .i64 a0,.int .i64 a1,encF 2 d_II a2,encF 1 d_LIIE a3,encF 2 d_II a4,encF 1 d_LIIE a5],.c (.int .i64 a6),.c (.int .i64 a7)]
def qd30:List Arg→Int×Int×L_II×L_LIIE×L_II×L_LIIE×Int×Int
 | [.agg [c0,c1,c2,c3,c4,c5],.c c6,.c c7]=>(dInt c0,dInt c1,decF g_II c2,decF g_LIIE c3,decF g_II c4,decF g_LIIE c5,dInt c6,dInt c7)
 | _=>default
def qT30 (r:Int→Int→L_II→L_LIIE→L_II→L_LIIE→Int→Int→Option β):=mkT (u8 qw30) qd30 (u8 r) u al
attribute [go_sem] qw30 qd30 qT30
def qw31 (a0:L_I) (a1 a2:Int) (a3:L_II) (a4:L_LIIE) (a5:L_II) (a6:L_LIIE):List Arg:=[.c (encF 1 d_I a0),.clo 222 [[.int .i64 a1,.int .i64 a2,encF 2 d_II a3,encF 1 d_LIIE a4,encF 2 d_II a5,encF 1 d_LIIE a6]]]
def qd31:List Arg→L_I×Int×Int×L_II×L_LIIE×L_II×L_LIIE
 | [.c c0,.clo _ [[c1,c2,c3,c4,c5,c6]]]=>(decF g_I c0,dInt c1,dInt c2,decF g_II c3,decF g_LIIE c4,decF g_II c5,decF g_LIIE c6)
 | _=>default
def qT31 (r:L_I→Int→Int→L_II→L_LIIE→L_II→L_LIIE→Option β):=mkT (u7 qw31) qd31 (u7 r) u al
attribute [go_sem] qw31 qd31 qT31
def qw32 (a0 a1:Int) (a2:L_II) (a3:L_LIIE) (a4:L_II) (a5:L_LIIE) (a6 a7:L_I) (a8:Int):List Arg:=[.agg [.int .i64 a0,.int .i64 a1,encF 2 d_II a2,encF 1 d_LIIE a3,encF 2 d_II a4,encF 1 d_LIIE a5],.c (encF 1 d_I a6),.agg [encF 1 d_I a7,.int .i64 a8]]
def qd32:List Arg→Int×Int×L_II×L_LIIE×L_II×L_LIIE×L_I×L_I×Int
 | [.agg [c0,c1,c2,c3,c4,c5],.c c6,.agg [c7,c8]]=>(dInt c0,dInt c1,decF g_II c2,decF g_LIIE c3,decF g_II c4,decF g_LIIE c5,decF g_I c6,decF g_I c7,dInt c8)
 | _=>default
def qT32 (r:Int→Int→L_II→L_LIIE→L_II→L_LIIE→L_I→L_I→Int→Option β):=mkT (u9 qw32) qd32 (u9 r) u al
attribute [go_sem] qw32 qd32 qT32
def qw33 (a0 a1:Int) (a2:L_II) (a3:L_LIIE) (a4 a5:L_I) (a6:Int):List Arg:=[.agg [.int .i64 a0,.int .i64 a1,encF 2 d_II a2,encF 1 d_LIIE a3],.c (encF 1 d_I a4),.agg [encF 1 d_I a5,.int .i64 a6]]
def qd33:List Arg→Int×Int×L_II×L_LIIE×L_I×L_I×Int
 | [.agg [c0,c1,c2,c3],.c c4,.agg [c5,c6]]=>(dInt c0,dInt c1,decF g_II c2,decF g_LIIE c3,decF g_I c4,decF g_I c5,dInt c6)
 | _=>default
def qT33 (r:Int→Int→L_II→L_LIIE→L_I→L_I→Int→Option β):=mkT (u7 qw33) qd33 (u7 r) u al
attribute [go_sem] qw33 qd33 qT33
def qu13 (v:L_I×Int):List RV:=[.agg [.own (encF 1 d_I v.1),.d (.int .i64 v.2)]]
attribute [go_sem] qu13
def qu14 (v:L_I×Int×Int):List RV:=[.c (.own (encF 1 d_I v.1)),.c (.d (.int .i64 v.2.1)),.c (.d (.int .i64 v.2.2))]
attribute [go_sem] qu14
def qu15 (v:L_I×Int):List RV:=[.c (.own (encF 1 d_I v.1)),.c (.d (.int .i64 v.2))]
attribute [go_sem] qu15
end
def b160_1 (x0:L_II) (x1 x2:Int) (a2:Nat):Bd (Int×(List (Int))) (L_I×Int):=fun s1=>
 if (decide (s1.1<(x0.length:Int)))=true then
  if 0≤s1.1∧s1.1<(x0.length:Int) then
   if a2=162 then
    bindC (r162 ((x0.getD s1.1.toNat default).1) ((x0.getD s1.1.toNat default).2)) fun v8=>
     if (s1.2.length+1)*8≤140737488355328∧s1.2.length+1≤9223372036854775807 then
      .next (IntKind.i64.wrap (s1.1+1),s1.2++[IntKind.i64.wrap ((IntKind.i64.wrap (x1*v8)).tdiv 1000)])
      else .out none
    else if a2=238 then
     bindC (r238 ((x0.getD s1.1.toNat default).1) ((x0.getD s1.1.toNat default).2)) fun v5=>
      if (s1.2.length+1)*8≤140737488355328∧s1.2.length+1≤9223372036854775807 then
       .next (IntKind.i64.wrap (s1.1+1),s1.2++[IntKind.i64.wrap ((IntKind.i64.wrap (x1*v5)).tdiv 1000)])
       else .out none
     else if a2=161 then
      bindC (r161 ((x0.getD s1.1.toNat default).1) ((x0.getD s1.1.toNat default).2)) fun v2=>
       if (s1.2.length+1)*8≤140737488355328∧s1.2.length+1≤9223372036854775807 then
        .next (IntKind.i64.wrap (s1.1+1),s1.2++[IntKind.i64.wrap ((IntKind.i64.wrap (x1*v2)).tdiv 1000)])
        else .out none
      else .out none
   else .out none
  else .out (some (s1.2,x2))
def r160 (x3 x4:Int) (x5:L_II) (x6:L_LIIE) (x7 x8:L_I) (x0:L_II) (x9 x10 x1 x2:Int) (a2:Nat):Option (L_I×Int):=
 iterC (b160_1 x0 x1 x2 a2) 1000000000 (0,[])
@[go_sem] def T160:=qT26 qu13 false r160
@[go_sem] def tb160 (k:Nat):=lk [(161,T161.sp),(162,T162.sp),(238,T238.sp)] k
theorem f160:FnFact Tryz.prog 160 T160.sp:=by
 refine vm (tb:=tb160) (.cons f161 (.cons f162 (.cons f238 .nil))) Tryz.func160 Tryz.ntmps160 fun ⟨x3,x4,x5,x6,x7,x8,x0,x9,x10,x1,x2,a2⟩ r hr stop S=> ?_
 rw [uq12,r160] at hr
 refine S.gx [5] ?_
 refine gr ?_
 refine S.own0b 7 0 2000700 1 rfl rfl (nL rfl) rfl ?_
 refine S.li [2,4,6,7,15,16,17] [(4,4),(6,6),(7,7)] [(2000700,2000700)] (fun s1=>⟨[(2,.c (.clo a2 [])),sR 4 4,sR 6 6,sR 7 7,(15,.c (.d (encF 2 d_II x0))),sI 16 (x0.length:Int),sI 17 s1.1],[(4,[iC x1,iC x2]),(6,[.nils,iC 0]),(7,[.own 2000700,iC x2])],[(2000700,.owned (encF 1 d_I s1.2))]⟩) (b160_1 x0 x1 x2 a2) (fun q=>q=r) hr rfl ?_
 intro s1 hr
 have z1:=S.ss [2,4,6,7,15,16,17] [(4,4),(6,6),(7,7)] [(31,2000700)]
 unfold b160_1 at hr
 refine S.gw [5] ?_
 refine iW1 hr (fun hc hr=> ?_) fun hc hr=>D0 hr
 obtain ⟨hg10,hr⟩:=of_guard1 hr
 refine gr ?_
 by_cases hs7:a2=162
 ·subst hs7
  rw [if_pos rfl] at hr
  refine S.gx [] ?_
  exact D1 z1 hr
 ·rw [if_neg hs7] at hr
  by_cases hs4:a2=238
  ·subst hs4
   rw [if_pos rfl] at hr
   refine S.gx [] ?_
   exact D1 z1 hr
  ·rw [if_neg hs4] at hr
   by_cases hs1:a2=161
   ·subst hs1
    rw [if_pos rfl] at hr
    refine S.gx [] ?_
    exact D1 z1 hr
   ·rw [if_neg hs1] at hr
    first | cases hr | exact hr.elim
def r163 (x0 x1:Int) (x2:L_II) (x3:L_LIIE) (a1:L_I):Option (Int×Int×L_II×L_LIIE×L_II×L_LIIE×Int):=
 (r193 x0 x1 x2 x3).bind fun v1=>
  if (v1.2.2.2.2.2.2 == 0)=true then
   (r215 v1.1 v1.2.1 v1.2.2.1 v1.2.2.2.1 v1.2.2.2.2.1 v1.2.2.2.2.2.1 a1).bind fun v2=>
    some (v1.1,v1.2.1,v1.2.2.1,v1.2.2.2.1,v1.2.2.2.2.1,v1.2.2.2.2.2.1,v2.2)
   else some (v1.1,v1.2.1,v1.2.2.1,v1.2.2.2.1,v1.2.2.2.2.1,v1.2.2.2.2.2.1,v1.2.2.2.2.2.2)
@[go_sem] def T163:=qT27 qu8 true r163
@[go_sem] def tb163 (k:Nat):=lk [(193,T193.sp),(215,T215.sp)] k
theorem f163:FnFact Tryz.prog 163 T163.sp:=by
 refine vm (tb:=tb163) (.cons f193 (.cons f215 .nil)) Tryz.func163 Tryz.ntmps163 fun ⟨x0,x1,x2,x3,a1⟩ r hr stop S=> ?_
 rw [uq5,r163] at hr
 refine S.gx [] ?_
 exact D0 hr
def r276 (a0:Int):Option (Bool):=
 (r190 a0 0 10000).bind fun v1=>
  some v1
@[go_sem] def T276:=qT4 qu2 false r276
@[go_sem] def tb276 (k:Nat):=lk [(190,T190.sp)] k
theorem f276:FnFact Tryz.prog 276 T276.sp:=by
 refine vm (tb:=tb276) (.cons f190 .nil) Tryz.func276 Tryz.ntmps276 fun a0 r hr stop S=> ?_
 rw [uq1,r276] at hr
 refine S.gx [] ?_
 exact D0 hr
def r275 (a0:Int):Option (Bool):=
 (r276 a0).bind fun v1=>
  some (!v1)
@[go_sem] def T275:=qT4 qu2 false r275
@[go_sem] def tb275 (k:Nat):=lk [(276,T276.sp)] k
theorem f275:FnFact Tryz.prog 275 T275.sp:=by
 refine vm (tb:=tb275) (.cons f276 .nil) Tryz.func275 Tryz.ntmps275 fun a0 r hr stop S=> ?_
 rw [uq1,r275] at hr
 refine S.gx [] ?_
 exact D0 hr
def b197a_1 (a0:L_I):Bd Int Int:=fun s1=>
 if (decide (s1<(a0.length:Int)))=true then
  if 0≤s1∧s1<(a0.length:Int) then
   bindC (r275 (a0.getD s1.toNat default)) fun v1=>
    if v1=true then
     .out (some s1)
     else .next (IntKind.i64.wrap (s1+1))
   else .out none
  else .out (some (-1))
def r197a (a0:L_I):Option (Int):=
 iterC (b197a_1 a0) 1000000000 0
@[go_sem] def T197a:=qT28 qu3 false r197a
@[go_sem] def tb197a (k:Nat):=lk [(275,T275.sp)] k
theorem f197a:FnFact Tryz.prog 197 T197a.sp:=by
 refine vm (tb:=tb197a) (.cons f275 .nil) Tryz.func197 Tryz.ntmps197 fun a0 r hr stop S=> ?_
 rw [uq1,r197a] at hr
 refine S.gx [] ?_
 refine gr ?_
 refine S.li [0,1,7,8] [] [] (fun s1=>⟨[(0,.c (.d (encF 1 d_I a0))),(1,.c (.clo 275 [])),sI 7 (a0.length:Int),sI 8 s1],[],[]⟩) (b197a_1 a0) (fun q=>q=r) hr rfl ?_
 intro s1 hr
 unfold b197a_1 at hr
 refine S.gx [] ?_
 exact D1 (S.ss [0,1,7,8] [] []) hr
def r140 (a0:L_I):Option (Bool):=
 (r197a a0).bind fun v1=>
  some (decide (v1≥0))
@[go_sem] def T140:=qT28 qu2 false r140
@[go_sem] def tb140 (k:Nat):=lk [(197,T197a.sp)] k
theorem f140:FnFact Tryz.prog 140 T140.sp:=by
 refine vm (tb:=tb140) (.cons f197a .nil) Tryz.func140 Tryz.ntmps140 fun a0 r hr stop S=> ?_
 rw [uq1,r140] at hr
 refine S.gx [] ?_
 exact D0 hr
def r277 (x1 x2:Int) (x3:L_II) (x4:L_LIIE) (x5:L_II) (x0:L_LIIE) (a1:Int):Option (Int):=
 (r190 a1 0 (IntKind.i64.wrap ((x0.length:Int) - 1))).bind fun v1=>
  (r216 v1 6).bind fun v2=>
   some v2
@[go_sem] def T277:=qT13 qu3 false r277
@[go_sem] def tb277 (k:Nat):=lk [(190,T190.sp),(216,T216.sp)] k
theorem f277:FnFact Tryz.prog 277 T277.sp:=by
 refine vm (tb:=tb277) (.cons f190 (.cons f216 .nil)) Tryz.func277 Tryz.ntmps277 fun ⟨x1,x2,x3,x4,x5,x0,a1⟩ r hr stop S=> ?_
 rw [uq7,r277] at hr
 refine S.gx [] ?_
 exact D0 hr
def r218 (x0 x2:Int) (x3:L_II) (x4:L_LIIE) (x5:L_II) (x6:L_LIIE) (x1:L_I) (x7:Int):Option (Int):=
 (r140 x1).bind fun v1=>
  (r216 ((x1.length:Int) == x0) 10).bind fun v2=>
   (r216 (!v1) 2).bind fun v3=>
    (r277 x0 x2 x3 x4 x5 x6 x7).bind fun v4=>
     (r217 [v2,v3,v4]).bind fun v5=>
      some v5
@[go_sem] def T218:=qT29 qu3 false r218
@[go_sem] def tb218 (k:Nat):=lk [(140,T140.sp),(216,T216.sp),(217,T217.sp),(277,T277.sp)] k
theorem f218:FnFact Tryz.prog 218 T218.sp:=by
 refine vm (tb:=tb218) (.cons f140 (.cons f216 (.cons f217 (.cons f277 .nil)))) Tryz.func218 Tryz.ntmps218 fun ⟨x0,x2,x3,x4,x5,x6,x1,x7⟩ r hr stop S=> ?_
 rw [uq8,r218] at hr
 refine S.gx [] ?_
 exact D0 hr
def r219 (a0:List (Int)):Option (List (Int)):=if a0.length*8≤140737488355328∧a0.length≤9223372036854775807 then some a0 else none
def T219:TSpec (List (Int)) where
 enc x:=[.c (encF 1 d_I x)]
 dec a:=decF g_I (aCell a 0 0)
 pre x:=(r219 x).isSome=true
 res x:=[.c (.own (encF 1 d_I ((r219 x).getD default)))]
 al:=false
theorem TP219 (c0:D):T219.sp.pre [.c c0]=(eqvArgs [.c c0] [.c (encF 1 d_I (decF g_I c0))]∧(r219 (decF g_I c0)).isSome=true):=(rfl)
theorem TR219 (c0:D):T219.sp.res [.c c0]=[.c (.own (encF 1 d_I ((r219 (decF g_I c0)).getD default)))]:=(rfl)
theorem TA219:T219.sp.alias=false:=(rfl)
attribute [go_sem] TP219 TR219 TA219
theorem v219:Valid Tryz.prog 219 T219.sp:=by
 refine valid_t (fn:=Tryz.f219) (n:=8) ty_ok FnsOk.nil Tryz.func219 rfl Tryz.ntmps219 ?_
 rintro a0 hx
 obtain ⟨r,hr⟩:=oE (show (r219 a0).isSome=true from hx)
 have hres:T219.res a0=[.c (.own (encF 1 d_I r))]:=by simp only [T219,hr,Option.getD_some]
 refine ⟨nL rfl,fun stop S=> ?_⟩
 rw [hres] at S
 unfold r219 at hr
 obtain ⟨hg,hr⟩:=of_guard0 hr
 cases hr
 refine S.goB [1] 1000 ?_
 simp only [go_sem,T219,Bool.not_true,Bool.not_false,Option.map_some,Int.reduceToNat,Nat.reduceEqDiff,Nat.reduceBEq,Nat.reduceLT,Nat.reduceAdd,Nat.reduceMul,Nat.reduceSub,Nat.reduceLeDiff, ↓reduceIte,reduceCtorEq,Tryz.results219]
 refine S.eqnil 0 3 4 44 44 3 rfl rfl rfl rfl rfl rfl rfl rfl rfl rfl (by decide) (by decide) ?_
 intro b hb
 refine S.goB [] 1000 ?_
 simp only [go_sem,T219,Bool.not_true,Bool.not_false,Option.map_some,Int.reduceToNat,Nat.reduceEqDiff,Nat.reduceBEq,Nat.reduceLT,Nat.reduceAdd,Nat.reduceMul,Nat.reduceSub,Nat.reduceLeDiff, ↓reduceIte,reduceCtorEq,Tryz.results219]
 have hb':b=true→a0.length=0:=hb
 refine ⟨?_,?_⟩<;>intro hc
 ·simpa using hb' hc
 ·refine ⟨by omega,by omega,?_⟩
  (simp (maxDischargeDepth:=8) [go_sem])
theorem f219:FnFact Tryz.prog 219 T219.sp:=⟨⟨Tryz.f219,Tryz.func219,by decide,rfl⟩,v219⟩
def r278 (a0 a1:Int):Option (Int):=
 if a1≠0 then
  if a1≠0 then
   if (decide ((a0.tmod a1)<0))=true then
    some (IntKind.i64.wrap ((IntKind.i64.wrap (a0.tdiv a1)) - 1))
    else some (IntKind.i64.wrap (a0.tdiv a1))
   else none
  else none
@[go_sem] def T278:=qT7 qu3 false r278
theorem f278:FnFact Tryz.prog 278 T278.sp:=by
 refine vm .nil Tryz.func278 Tryz.ntmps278 fun ⟨a0,a1⟩ r hr stop S=> ?_
 rw [uq2,r278] at hr
 refine S.gx [] ?_
 exact D0 hr
def r221 (x1 x2:Int) (x3:L_II) (x4:L_LIIE) (x5:L_II) (x0:L_LIIE) (a1 a2:Int):Option (Int):=
 if 0≤a1∧a1<(x0.length:Int) then
  (r272 x1 x2 x3 x4 x5 x0 a2).bind fun v1=>
   (r252 (x0.getD a1.toNat default) v1.1 v1.2).bind fun v2=>
    (r278 v2.1 v2.2).bind fun v3=>
     some v3
  else none
@[go_sem] def T221:=qT30 qu3 false r221
@[go_sem] def tb221 (k:Nat):=lk [(252,T252.sp),(272,T272.sp),(278,T278.sp)] k
theorem f221:FnFact Tryz.prog 221 T221.sp:=by
 refine vm (tb:=tb221) (.cons f252 (.cons f272 (.cons f278 .nil))) Tryz.func221 Tryz.ntmps221 fun ⟨x1,x2,x3,x4,x5,x0,a1,a2⟩ r hr stop S=> ?_
 rw [uq8,r221] at hr
 refine S.gx [] ?_
 exact D0 hr
def r222 (a0 x0 x1:Int) (x2:L_II) (x3:L_LIIE) (x4:L_II) (x5:L_LIIE):Option (Bool):=
 (r223 x0 x1 x2 x3 x4 x5 a0).bind fun v1=>
  some (!v1)
@[go_sem] def T222:=qT14 qu2 false r222
@[go_sem] def tb222 (k:Nat):=lk [(223,T223.sp)] k
theorem f222:FnFact Tryz.prog 222 T222.sp:=by
 refine vm (tb:=tb222) (.cons f223 .nil) Tryz.func222 Tryz.ntmps222 fun ⟨a0,x0,x1,x2,x3,x4,x5⟩ r hr stop S=> ?_
 rw [uq7,r222] at hr
 refine S.gx [] ?_
 exact D0 hr
def b197b_1 (a0:L_I) (x0 x1:Int) (x2:L_II) (x3:L_LIIE) (x4:L_II) (x5:L_LIIE):Bd Int Int:=fun s1=>
 if (decide (s1<(a0.length:Int)))=true then
  if 0≤s1∧s1<(a0.length:Int) then
   bindC (r222 (a0.getD s1.toNat default) x0 x1 x2 x3 x4 x5) fun v1=>
    if v1=true then
     .out (some s1)
     else .next (IntKind.i64.wrap (s1+1))
   else .out none
  else .out (some (-1))
def r197b (a0:L_I) (x0 x1:Int) (x2:L_II) (x3:L_LIIE) (x4:L_II) (x5:L_LIIE):Option (Int):=
 iterC (b197b_1 a0 x0 x1 x2 x3 x4 x5) 1000000000 0
@[go_sem] def T197b:=qT31 qu3 false r197b
@[go_sem] def tb197b (k:Nat):=lk [(222,T222.sp)] k
theorem f197b:FnFact Tryz.prog 197 T197b.sp:=by
 refine vm (tb:=tb197b) (.cons f222 .nil) Tryz.func197 Tryz.ntmps197 fun ⟨a0,x0,x1,x2,x3,x4,x5⟩ r hr stop S=> ?_
 rw [uq7,r197b] at hr
 refine S.gx [] ?_
 refine gr ?_
 refine S.li [0,1,7,8] [] [] (fun s1=>⟨[(0,.c (.d (encF 1 d_I a0))),(1,.c (.clo 222 [.sptr [.int .i64 x0,.int .i64 x1,encF 2 d_II x2,encF 1 d_LIIE x3,encF 2 d_II x4,encF 1 d_LIIE x5] 0])),sI 7 (a0.length:Int),sI 8 s1],[],[]⟩) (b197b_1 a0 x0 x1 x2 x3 x4 x5) (fun q=>q=r) hr rfl ?_
 intro s1 hr
 unfold b197b_1 at hr
 refine S.gx [] ?_
 exact D1 (S.ss [0,1,7,8] [] []) hr
def r140a (a0:L_I) (x0 x1:Int) (x2:L_II) (x3:L_LIIE) (x4:L_II) (x5:L_LIIE):Option (Bool):=
 (r197b a0 x0 x1 x2 x3 x4 x5).bind fun v1=>
  some (decide (v1≥0))
@[go_sem] def T140a:=qT31 qu2 false r140a
@[go_sem] def tb140a (k:Nat):=lk [(197,T197b.sp)] k
theorem f140a:FnFact Tryz.prog 140 T140a.sp:=by
 refine vm (tb:=tb140a) (.cons f197b .nil) Tryz.func140 Tryz.ntmps140 fun ⟨a0,x0,x1,x2,x3,x4,x5⟩ r hr stop S=> ?_
 rw [uq7,r140a] at hr
 refine S.gx [] ?_
 exact D0 hr
def b165_3 (x1 x0:Int) (x2:L_II) (x3:L_LIIE) (x4:L_II) (x5:L_LIIE) (x6:L_I) (v20:Int):Bd (Int×(List (Int))) (L_I×Int×Int):=fun s3=>
 if (decide (s3.1<(x6.length:Int)))=true then
  if 0≤s3.1∧s3.1<(x6.length:Int) then
   if 0≤s3.1∧s3.1<(s3.2.length:Int) then
    if 0≤s3.1∧s3.1<(s3.2.length:Int) then
     .next (IntKind.i64.wrap (s3.1+1),s3.2.set s3.1.toNat (IntKind.i64.wrap ((s3.2.getD s3.1.toNat default)+(x6.getD s3.1.toNat default))))
     else .out none
    else .out none
   else .out none
  else .out ((r140a s3.2 x1 x0 x2 x3 x4 x5).bind fun v24=>
   (r216 (!v24) 22).bind fun v25=>
    some (s3.2,v20,v25))
def b165_2 (x1 x0:Int) (x2:L_II) (x3:L_LIIE) (x4:L_II) (x5:L_LIIE) (x6:L_I) (x7:Int):Bd (Int×(List (Int))) (L_I×Int×Int):=fun s2=>
 if (decide ((IntKind.i64.wrap (s2.1+1))<(s2.2.length:Int)))=true then
  if 0≤s2.1∧s2.1<(s2.2.length:Int) then
   bindC (r272 x1 x0 x2 x3 x4 x5 (s2.2.getD s2.1.toNat default)) fun v11=>
    if 0≤IntKind.i64.wrap (s2.1+1)∧IntKind.i64.wrap (s2.1+1)<(s2.2.length:Int) then
     bindC (r272 x1 x0 x2 x3 x4 x5 (s2.2.getD (IntKind.i64.wrap (s2.1+1)).toNat default)) fun v12=>
      bindC (r278 (IntKind.i64.wrap (x0*(IntKind.i64.wrap ((IntKind.i64.wrap (v11.1*v12.2)) - (IntKind.i64.wrap (v12.1*v11.2)))))) (IntKind.i64.wrap ((IntKind.i64.wrap (1000*v11.2))*v12.2))) fun v13=>
       if 0≤s2.1∧s2.1<(s2.2.length:Int) then
        if 0≤IntKind.i64.wrap (s2.1+1)∧IntKind.i64.wrap (s2.1+1)<(s2.2.length:Int) then
         if 0≤s2.1∧s2.1<(s2.2.length:Int) then
          if 0≤IntKind.i64.wrap (s2.1+1)∧IntKind.i64.wrap (s2.1+1)<(s2.2.length:Int) then
           .next (IntKind.i64.wrap (s2.1+2),(s2.2.set s2.1.toNat (IntKind.i64.wrap ((s2.2.getD s2.1.toNat default) - v13))).set (IntKind.i64.wrap (s2.1+1)).toNat (IntKind.i64.wrap ((s2.2.getD (IntKind.i64.wrap (s2.1+1)).toNat default)+v13)))
           else .out none
          else .out none
         else .out none
        else .out none
     else .out none
   else .out none
  else .out (if 0≤0∧0<(s2.2.length:Int) then
   (r221 x1 x0 x2 x3 x4 x5 x7 (s2.2.getD 0 default)).bind fun v20=>
    if 0≤0∧0<(s2.2.length:Int) then
     if 0≤0∧0<(s2.2.length:Int) then
      iterC (b165_3 x1 x0 x2 x3 x4 x5 x6 v20) 1000000000 (0,s2.2.set 0 (IntKind.i64.wrap ((s2.2.getD 0 default) - v20)))
      else none
     else none
   else none)
def b165_1 (x1 x0:Int) (x2:L_II) (x3:L_LIIE) (x4:L_II) (x5:L_LIIE) (x6:L_I) (x7:Int):Bd (Int×(List (Int))) (L_I×Int×Int):=fun s1=>
 if (decide ((IntKind.i64.wrap (s1.1+1))<(s1.2.length:Int)))=true then
  if 0≤s1.1∧s1.1<(s1.2.length:Int) then
   bindC (r272 x1 x0 x2 x3 x4 x5 (s1.2.getD s1.1.toNat default)) fun v2=>
    if 0≤IntKind.i64.wrap (s1.1+1)∧IntKind.i64.wrap (s1.1+1)<(s1.2.length:Int) then
     bindC (r272 x1 x0 x2 x3 x4 x5 (s1.2.getD (IntKind.i64.wrap (s1.1+1)).toNat default)) fun v3=>
      bindC (r278 (IntKind.i64.wrap (x0*(IntKind.i64.wrap ((IntKind.i64.wrap (v2.1*v3.2)) - (IntKind.i64.wrap (v3.1*v2.2)))))) (IntKind.i64.wrap ((IntKind.i64.wrap (1000*v2.2))*v3.2))) fun v4=>
       if 0≤s1.1∧s1.1<(s1.2.length:Int) then
        if 0≤IntKind.i64.wrap (s1.1+1)∧IntKind.i64.wrap (s1.1+1)<(s1.2.length:Int) then
         if 0≤s1.1∧s1.1<(s1.2.length:Int) then
          if 0≤IntKind.i64.wrap (s1.1+1)∧IntKind.i64.wrap (s1.1+1)<(s1.2.length:Int) then
           .next (IntKind.i64.wrap (s1.1+2),(s1.2.set s1.1.toNat (IntKind.i64.wrap ((s1.2.getD s1.1.toNat default) - v4))).set (IntKind.i64.wrap (s1.1+1)).toNat (IntKind.i64.wrap ((s1.2.getD (IntKind.i64.wrap (s1.1+1)).toNat default)+v4)))
           else .out none
          else .out none
         else .out none
        else .out none
     else .out none
   else .out none
  else .out (iterC (b165_2 x1 x0 x2 x3 x4 x5 x6 x7) 1000000000 (1,s1.2))
def r165 (x1 x0:Int) (x2:L_II) (x3:L_LIIE) (x4:L_II) (x5:L_LIIE) (a1 x6:L_I) (x7:Int):Option (L_I×Int×Int):=
 (r219 a1).bind fun v1=>
  iterC (b165_1 x1 x0 x2 x3 x4 x5 x6 x7) 1000000000 (0,v1)
@[go_sem] def T165:=qT32 qu14 false r165
@[go_sem] def tb165 (k:Nat):=lk [(140,T140a.sp),(216,T216.sp),(219,T219.sp),(221,T221.sp),(272,T272.sp),(278,T278.sp)] k
theorem tb165_ok:FnsOk Tryz.prog tb165:= .cons f140a (.cons f216 (.cons f219 (.cons f221 (.cons f272 (.cons f278 .nil)))))
theorem f165:FnFact Tryz.prog 165 T165.sp:=by
 refine vm (tb:=tb165) (.cons f140a (.cons f216 (.cons f219 (.cons f221 (.cons f272 (.cons f278 .nil)))))) Tryz.func165 Tryz.ntmps165 fun ⟨x1,x0,x2,x3,x4,x5,a1,x6,x7⟩ r hr stop S=> ?_
 rw [uq9,r165] at hr
 refine S.gx [2,3] ?_
 obtain ⟨v1,hv1,hr⟩:=of_bind0 hr
 refine gb hv1 ?_
 refine S.inl 2 [3,5,9] [] Tryz.func220 (by decide) rfl Tryz.ntmps220 (fun cx e=>drawn_ok ty_ok tb165_ok cx e) (some 18) rfl rfl rfl rfl (nL rfl) (nL rfl) ?_
 refine gs ?_
 refine gr ?_
 intro stop1 S1
 refine S1.gw [6] ?_
 refine S1.li [1,3,6] [(100003,100003),(3,3),(5,5)] [(15,15)] (fun s1=>⟨[sO 1 15,sR 3 100003,sI 6 s1.1],[(100003,[iC x1,iC x0,.d (encF 2 d_II x2),.d (encF 1 d_LIIE x3),.d (encF 2 d_II x4),.d (encF 1 d_LIIE x5)]),(3,[iC x1,iC x0,.d (encF 2 d_II x2),.d (encF 1 d_LIIE x3),.d (encF 2 d_II x4),.d (encF 1 d_LIIE x5)]),(5,[.d (encF 1 d_I x6),iC x7])],[(15,.owned (encF 1 d_I s1.2))]⟩) (b165_1 x1 x0 x2 x3 x4 x5 x6 x7) (fun q=>q=r) hr rfl ?_
 intro s1 hr
 unfold b165_1 at hr
 refine S1.gw [6] ?_
 refine iW1 hr (fun hc hr=> ?_) fun hc hr=> ?_
 ·obtain ⟨hg9,hr⟩:=of_guard1 hr
  obtain ⟨v2,hv2,hr⟩:=of_bind1 hr
  obtain ⟨hg10,hr⟩:=of_guard1 hr
  obtain ⟨v3,hv3,hr⟩:=of_bind1 hr
  obtain ⟨v4,hv4,hr⟩:=of_bind1 hr
  refine gb hv2 ?_
  refine gb hv3 ?_
  refine gb hv4 ?_
  refine S1.prune [1,3,6,9] ?_
  refine S1.gx [] ?_
  exact D1 (S1.ss [1,3,6] [(100003,100003),(3,3),(5,5)] [(15,15)]) hr
 ·refine gr ?_
  have hr:=of_out0 hr
  refine S.gw [2,3] ?_
  refine S.inl 2 [3,5,9] [] Tryz.func220 (by decide) rfl Tryz.ntmps220 (fun cx e=>drawn_ok ty_ok tb165_ok cx e) (some 21) rfl rfl rfl rfl (nL rfl) (nL rfl) ?_
  refine gs ?_
  refine gr ?_
  intro stop1 S1
  refine S1.gw [6] ?_
  refine S1.li [1,3,6] [(200003,200003),(3,3),(5,5)] [(15,15)] (fun s2=>⟨[sO 1 15,sR 3 200003,sI 6 s2.1],[(200003,[iC x1,iC x0,.d (encF 2 d_II x2),.d (encF 1 d_LIIE x3),.d (encF 2 d_II x4),.d (encF 1 d_LIIE x5)]),(3,[iC x1,iC x0,.d (encF 2 d_II x2),.d (encF 1 d_LIIE x3),.d (encF 2 d_II x4),.d (encF 1 d_LIIE x5)]),(5,[.d (encF 1 d_I x6),iC x7])],[(15,.owned (encF 1 d_I s2.2))]⟩) (b165_2 x1 x0 x2 x3 x4 x5 x6 x7) (fun q=>q=r) hr rfl ?_
  intro s2 hr
  unfold b165_2 at hr
  refine S1.gw [6] ?_
  refine iW1 hr (fun hc hr=> ?_) fun hc hr=> ?_
  ·obtain ⟨hg18,hr⟩:=of_guard1 hr
   obtain ⟨v11,hv11,hr⟩:=of_bind1 hr
   obtain ⟨hg19,hr⟩:=of_guard1 hr
   obtain ⟨v12,hv12,hr⟩:=of_bind1 hr
   obtain ⟨v13,hv13,hr⟩:=of_bind1 hr
   refine gb hv11 ?_
   refine gb hv12 ?_
   refine gb hv13 ?_
   refine S1.prune [1,3,6,9] ?_
   refine S1.gx [] ?_
   exact D1 (S1.ss [1,3,6] [(200003,200003),(3,3),(5,5)] [(15,15)]) hr
  ·refine gr ?_
   have hr:=of_out0 hr
   refine S.gx [2,3] ?_
   obtain ⟨hg26,hr⟩:=of_guard0 hr
   obtain ⟨v20,hv20,hr⟩:=of_bind0 hr
   obtain ⟨hg27,hr⟩:=of_guard0 hr
   obtain ⟨hg28,hr⟩:=of_guard0 hr
   refine gb hv20 ?_
   refine S.li [3,9,10,36,37,38] [(3,3)] [(15,15)] (fun s3=>⟨[sR 3 3,sO 9 15,sI 10 v20,(36,.c (.d (encF 1 d_I x6))),sI 37 (x6.length:Int),sI 38 s3.1],[(3,[iC x1,iC x0,.d (encF 2 d_II x2),.d (encF 1 d_LIIE x3),.d (encF 2 d_II x4),.d (encF 1 d_LIIE x5)])],[(15,.owned (encF 1 d_I s3.2))]⟩) (b165_3 x1 x0 x2 x3 x4 x5 x6 v20) (fun q=>q=r) hr rfl ?_
   intro s3 hr
   unfold b165_3 at hr
   refine S.gx [2,3] ?_
   exact D1 (S.ss [3,9,10,36,37,38] [(3,3)] [(15,15)]) hr
def r174 (x2 x3:Int) (x4:L_II) (x5:L_LIIE) (a1 x0:L_I) (x1:Int):Option (L_I×Int):=
 (r163 x2 x3 x4 x5 a1).bind fun v1=>
  if (v1.2.2.2.2.2.2 == 0)=true then
   (r218 v1.1 v1.2.1 v1.2.2.1 v1.2.2.2.1 v1.2.2.2.2.1 v1.2.2.2.2.2.1 x0 x1).bind fun v2=>
    if (v2 != 0)=true then
     some ([],v2)
     else (r165 v1.1 v1.2.1 v1.2.2.1 v1.2.2.2.1 v1.2.2.2.2.1 v1.2.2.2.2.2.1 a1 x0 x1).bind fun v3=>
      if (v3.2.2 != 0)=true then
       some ([],v3.2.2)
       else some (v3.1,0)
   else if (v1.2.2.2.2.2.2 != 0)=true then
    some ([],v1.2.2.2.2.2.2)
    else (r165 v1.1 v1.2.1 v1.2.2.1 v1.2.2.2.1 v1.2.2.2.2.1 v1.2.2.2.2.2.1 a1 x0 x1).bind fun v4=>
     if (v4.2.2 != 0)=true then
      some ([],v4.2.2)
      else some (v4.1,0)
@[go_sem] def T174:=qT33 qu15 false r174
@[go_sem] def tb174 (k:Nat):=lk [(163,T163.sp),(165,T165.sp),(218,T218.sp)] k
theorem f174:FnFact Tryz.prog 174 T174.sp:=by
 refine vm (tb:=tb174) (.cons f163 (.cons f165 (.cons f218 .nil))) Tryz.func174 Tryz.ntmps174 fun ⟨x2,x3,x4,x5,a1,x0,x1⟩ r hr stop S=> ?_
 rw [uq7,r174] at hr
 refine S.gx [7] ?_
 obtain ⟨v1,hv1,hr⟩:=of_bind0 hr
 refine gb hv1 ?_
 refine iW hr (fun hc hr=> ?_) fun hc hr=> ?_
 ·obtain ⟨v2,hv2,hr⟩:=of_bind0 hr
  refine gb hv2 ?_
  refine iW hr (fun hc hr=>D0 hr) fun hc hr=> ?_
  obtain ⟨v3,hv3,hr⟩:=of_bind0 hr
  refine gb hv3 ?_
  refine S.prune [9,10] ?_
  refine S.gx [] ?_
  exact D0 hr
 ·refine gr ?_
  refine iW hr (fun hc hr=>D0 hr) fun hc hr=> ?_
  obtain ⟨v4,hv4,hr⟩:=of_bind0 hr
  refine gb hv4 ?_
  refine S.prune [9,10] ?_
  refine S.gx [] ?_
  exact D0 hr
end Go.Proofs.YtnepigpnlnmlmaaGreatDoor

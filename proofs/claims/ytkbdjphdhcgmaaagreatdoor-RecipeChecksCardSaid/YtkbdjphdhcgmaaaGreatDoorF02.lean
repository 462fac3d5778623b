/- Contracts of functions, written by wip/dec. -/
import Derived.Test.YtkbdjphdhcgmaaaGreatDoorF00
import Derived.Test.YtkbdjphdhcgmaaaGreatDoorF01
set_option linter.unusedVariables false
set_option linter.unusedSimpArgs false
set_option linter.constructorNameAsVariable false
set_option maxHeartbeats 4000000
set_option maxRecDepth 20000
namespace Go.Proofs.YtkbdjphdhcgmaaaGreatDoor
open Go.Abs
section
variable {β:Type} [Inhabited β] (u:β→List RV) (al:Bool)
def qw15 (a0:L_I) (a1 a2:Int) (a3:L_II) (a4:L_LIIE) (a5:L_II) (a6:L_LIIE):List Arg:=[.c (encF 1 d_I a0),.clo 156 [[.int .i64 a1,.int .i64 a2,encF 2 d_II a3,encF 1 d_LIIE a4,encF 2 d_II a5,encF 1 d_LIIE a6]]]
def qd15:List Arg→L_I×Int×Int×L_II×L_LIIE×L_II×L_LIIE
 | [.c c0,.clo _ [[c1,c2,c3,c4,c5,c6]]]=>(decF g_I c0,dInt c1,dInt c2,decF g_II c3,decF g_LIIE c4,decF g_II c5,decF g_LIIE c6)
 | _=>default
def qT15 (r:L_I→Int→Int→L_II→L_LIIE→L_II→L_LIIE→Option β):=mkT (u7 qw15) qd15 (u7 r) u al
attribute [go_sem] qw15 qd15 qT15
def qw16 (a0 a1:Int) (a2:L_II) (a3:L_LIIE) (a4:L_II) (a5:L_LIIE) (a6:L_I):List Arg:=[.agg [.int .i64 a0,.int .i64 a1,encF 2 d_II a2,encF 1 d_LIIE a3,encF 2 d_II a4,encF 1 d_LIIE a5],.c (encF 1 d_I a6)]
def qd16:List Arg→Int×Int×L_II×L_LIIE×L_II×L_LIIE×L_I
 | [.agg [c0,c1,c2,c3,c4,c5],.c c6]=>(dInt c0,dInt c1,decF g_II c2,decF g_LIIE c3,decF g_II c4,decF g_LIIE c5,decF g_I c6)
 | _=>default
def qT16 (r:Int→Int→L_II→L_LIIE→L_II→L_LIIE→L_I→Option β):=mkT (u7 qw16) qd16 (u7 r) u al
attribute [go_sem] qw16 qd16 qT16
def qw17 (a0 a1:Int) (a2:L_II) (a3:L_LIIE) (a4:L_II) (a5:L_LIIE) (a6 a7:L_I):List Arg:=[.agg [.int .i64 a0,.int .i64 a1,encF 2 d_II a2,encF 1 d_LIIE a3,encF 2 d_II a4,encF 1 d_LIIE a5],.agg [encF 1 d_I a6,encF 1 d_I a7]]
def qd17:List Arg→Int×Int×L_II×L_LIIE×L_II×L_LIIE×L_I×L_I
 | [.agg [c0,c1,c2,c3,c4,c5],.agg [c6,c7]]=>(dInt c0,dInt c1,decF g_II c2,decF g_LIIE c3,decF g_II c4,decF g_LIIE c5,decF g_I c6,decF g_I c7)
 | _=>default
def qT17 (r:Int→Int→L_II→L_LIIE→L_II→L_LIIE→L_I→L_I→Option β):=mkT (u8 qw17) qd17 (u8 r) u al
attribute [go_sem] qw17 qd17 qT17
def qu9 (v:Int×Int×L_II×L_LIIE×L_I×L_I×L_II×Int×Int×Int):List RV:=[.agg [.d (.int .i64 v.1),.d (.int .i64 v.2.1),.d (encF 2 d_II v.2.2.1),.d (encF 1 d_LIIE v.2.2.2.1),.d (encF 1 d_I v.2.2.2.2.1),.d (encF 1 d_I v.2.2.2.2.2.1),.d (encF 2 d_II v.2.2.2.2.2.2.1),.d (.int .i64 v.2.2.2.2.2.2.2.1),.d (.int .i64 v.2.2.2.2.2.2.2.2.1)],.c (.d (.int .i64 v.2.2.2.2.2.2.2.2.2))]
attribute [go_sem] qu9
end
def b153_1 (a0:L_II):Bd ((List (Int×Int))×Int) L_II:=fun s1=>
 if (decide (s1.2<(a0.length:Int)))=true then
  if 0≤s1.2∧s1.2<(a0.length:Int) then
   if (s1.1.length+1)*16≤140737488355328∧s1.1.length+1≤9223372036854775807 then
    .next (s1.1++[((a0.getD s1.2.toNat default).1,(a0.getD s1.2.toNat default).2)],IntKind.i64.wrap (s1.2+1))
    else .out none
   else .out none
  else .out (some s1.1)
def r153 (a0:L_II):Option (L_II):=
 iterC (b153_1 a0) 1000000000 ([],0)
@[go_sem] def T153:=qT5 qu5 false r153
theorem f153:FnFact Tryz.prog 153 T153.sp:=by
 refine vm .nil Tryz.func153 Tryz.ntmps153 fun a0 r hr stop S=> ?_
 rw [uq1,r153] at hr
 refine S.gx [] ?_
 refine gr ?_
 refine S.own0 3 1000300 2 rfl rfl ?_
 refine S.sees [3,6,7,8] [] [(1000300,1000300)] ?_ (Stop.iter S (fun s1=>⟨[(3,.c (.own 1000300)),(6,.c (.d (encF 2 d_II a0))),(7,.c (.d (.int .i64 (a0.length:Int)))),(8,.c (.d (.int .i64 s1.2)))],[],[(1000300,.owned (encF 2 d_II s1.1))]⟩) (b153_1 a0) (fun q=>q=r) hr rfl ?_)
 ·exact lf
 ·intro s1 hr
  unfold b153_1 at hr
  refine S.gx [] ?_
  exact D1 (S.ss [3,6,7,8] [] [(19,1000300)]) hr
def b108_1 (x2 x3:Int) (x1:L_II) (x0:L_LIIE) (v2:L_II):Bd (Int×(List (L_II))) (Int×Int×L_II×L_LIIE×L_II×L_LIIE×Int):=fun s1=>
 if (decide (s1.1<(x0.length:Int)))=true then
  if 0≤s1.1∧s1.1<(x0.length:Int) then
   bindC (r154 (x0.getD s1.1.toNat default)) fun v3=>
    if (s1.2.length+1)*24≤140737488355328∧s1.2.length+1≤9223372036854775807 then
     .next (IntKind.i64.wrap (s1.1+1),s1.2++[v3])
     else .out none
   else .out none
  else .out (some (x2,x3,x1,x0,v2,s1.2,0))
def r108 (x2 x3:Int) (x1:L_II) (x0:L_LIIE):Option (Int×Int×L_II×L_LIIE×L_II×L_LIIE×Int):=
 (r99 x2 x3 x1 x0).bind fun v1=>
  if (v1.2 != 0)=true then
   some (0,0,[],[],[],[],v1.2)
   else (r153 x1).bind fun v2=>
    iterC (b108_1 x2 x3 x1 x0 v2) 1000000000 (0,[])
@[go_sem] def T108:=qT12 qu8 true r108
@[go_sem] def tb108 (k:Nat):=lk [(99,T99.sp),(153,T153.sp),(154,T154.sp)] k
theorem f108:FnFact Tryz.prog 108 T108.sp:=by
 refine vm (tb:=tb108) (.cons f99 (.cons f153 (.cons f154 .nil))) Tryz.func108 Tryz.ntmps108 fun ⟨x2,x3,x1,x0⟩ r hr stop S=> ?_
 rw [uq4,r108] at hr
 refine S.gx [] ?_
 obtain ⟨v1,hv1,hr⟩:=of_bind0 hr
 refine gb hv1 ?_
 refine iW hr (fun hc hr=>D0 hr) fun hc hr=> ?_
 obtain ⟨v2,hv2,hr⟩:=of_bind0 hr
 refine gb hv2 ?_
 refine S.own0b 6 5 2000605 1 rfl rfl (nL rfl) rfl ?_
 refine S.sees [2,6,24,25,26] [(2,2),(6,6)] [(2000605,2000605),(21,21)] ?_ (Stop.iter S (fun s1=>⟨[(2,.c (.ref 2 0)),(6,.c (.ref 6 0)),(24,.c (.d (encF 1 d_LIIE x0))),(25,.c (.d (.int .i64 (x0.length:Int)))),(26,.c (.d (.int .i64 s1.1)))],[(2,[.d (.int .i64 0),.d (.int .i64 0),.nils,.nils,.nils,.nils]),(6,[.d (.int .i64 x2),.d (.int .i64 x3),.d (encF 2 d_II x1),.d (encF 1 d_LIIE x0),.own 21,.own 2000605])],[(2000605,.owned (encF 1 d_LIIE s1.2)),(21,.owned (encF 2 d_II v2))]⟩) (b108_1 x2 x3 x1 x0 v2) (fun q=>q=r) hr rfl ?_)
 ·exact lf
 ·intro s1 hr
  unfold b108_1 at hr
  refine S.gx [] ?_
  exact D1 (S.ss [2,6,24,25,26] [(2,2),(6,6)] [(35,2000605),(21,21)]) hr
def r118 (x1 x2:Int) (x3:L_II) (x4:L_LIIE) (x0:L_II) (x5:L_LIIE) (a1:Int):Option (Bool):=
 if 0≤0∧0<(x0.length:Int) then
  if 0≤IntKind.i64.wrap ((x0.length:Int) - 1)∧IntKind.i64.wrap ((x0.length:Int) - 1)<(x0.length:Int) then
   (r144 a1 ((x0.getD 0 default).1) ((x0.getD (IntKind.i64.wrap ((x0.length:Int) - 1)).toNat default).1)).bind fun v1=>
    some v1
   else none
  else none
@[go_sem] def T118:=qT13 qu2 false r118
@[go_sem] def tb118 (k:Nat):=lk [(144,T144.sp)] k
theorem f118:FnFact Tryz.prog 118 T118.sp:=by
 refine vm (tb:=tb118) (.cons f144 .nil) Tryz.func118 Tryz.ntmps118 fun ⟨x1,x2,x3,x4,x0,x5,a1⟩ r hr stop S=> ?_
 rw [uq7,r118] at hr
 refine S.gx [] ?_
 exact D0 hr
def r156 (a0 x0 x1:Int) (x2:L_II) (x3:L_LIIE) (x4:L_II) (x5:L_LIIE):Option (Bool):=
 (r118 x0 x1 x2 x3 x4 x5 a0).bind fun v1=>
  some (!v1)
@[go_sem] def T156:=qT14 qu2 false r156
@[go_sem] def tb156 (k:Nat):=lk [(118,T118.sp)] k
theorem f156:FnFact Tryz.prog 156 T156.sp:=by
 refine vm (tb:=tb156) (.cons f118 .nil) Tryz.func156 Tryz.ntmps156 fun ⟨a0,x0,x1,x2,x3,x4,x5⟩ r hr stop S=> ?_
 rw [uq7,r156] at hr
 refine S.gx [] ?_
 exact D0 hr
def b155_1 (a0:L_I) (x0 x1:Int) (x2:L_II) (x3:L_LIIE) (x4:L_II) (x5:L_LIIE):Bd Int Int:=fun s1=>
 if (decide (s1<(a0.length:Int)))=true then
  if 0≤s1∧s1<(a0.length:Int) then
   bindC (r156 (a0.getD s1.toNat default) x0 x1 x2 x3 x4 x5) fun v1=>
    if v1=true then
     .out (some s1)
     else .next (IntKind.i64.wrap (s1+1))
   else .out none
  else .out (some (-1))
def r155 (a0:L_I) (x0 x1:Int) (x2:L_II) (x3:L_LIIE) (x4:L_II) (x5:L_LIIE):Option (Int):=
 iterC (b155_1 a0 x0 x1 x2 x3 x4 x5) 1000000000 0
@[go_sem] def T155:=qT15 qu3 false r155
@[go_sem] def tb155 (k:Nat):=lk [(156,T156.sp)] k
theorem f155:FnFact Tryz.prog 155 T155.sp:=by
 refine vm (tb:=tb155) (.cons f156 .nil) Tryz.func155 Tryz.ntmps155 fun ⟨a0,x0,x1,x2,x3,x4,x5⟩ r hr stop S=> ?_
 rw [uq7,r155] at hr
 refine S.gx [] ?_
 refine gr ?_
 refine S.sees [0,1,7,8] [] [] ?_ (Stop.iter S (fun s1=>⟨[(0,.c (.d (encF 1 d_I a0))),(1,.c (.clo 156 [.sptr [.int .i64 x0,.int .i64 x1,encF 2 d_II x2,encF 1 d_LIIE x3,encF 2 d_II x4,encF 1 d_LIIE x5] 0])),(7,.c (.d (.int .i64 (a0.length:Int)))),(8,.c (.d (.int .i64 s1)))],[],[]⟩) (b155_1 a0 x0 x1 x2 x3 x4 x5) (fun q=>q=r) hr rfl ?_)
 ·exact lf
 ·intro s1 hr
  unfold b155_1 at hr
  refine S.gx [] ?_
  exact D1 (S.ss [0,1,7,8] [] []) hr
def r109 (x0 x1:Int) (x2:L_II) (x3:L_LIIE) (x4:L_II) (x5:L_LIIE) (a1:L_I):Option (Int×Int):=
 if ((a1.length:Int) != x0)=true then
  some (0,10)
  else (r155 a1 x0 x1 x2 x3 x4 x5).bind fun v1=>
   if (decide (v1≥0))=true then
    some (v1,2)
    else some (0,0)
@[go_sem] def T109:=qT16 qu4 false r109
@[go_sem] def tb109 (k:Nat):=lk [(155,T155.sp)] k
theorem f109:FnFact Tryz.prog 109 T109.sp:=by
 refine vm (tb:=tb109) (.cons f155 .nil) Tryz.func109 Tryz.ntmps109 fun ⟨x0,x1,x2,x3,x4,x5,a1⟩ r hr stop S=> ?_
 rw [uq7,r109] at hr
 refine S.gx [] ?_
 exact D0 hr
def b147_1 (x0 x1:L_I):Bd Int (Int×Int):=fun s1=>
 if (decide (s1<(x0.length:Int)))=true then
  if 0≤s1∧s1<(x0.length:Int) then
   if 0≤s1∧s1<(x1.length:Int) then
    if (decide ((x0.getD s1.toNat default)>(x1.getD s1.toNat default)))=true then
     .out (some (s1,9))
     else .next (IntKind.i64.wrap (s1+1))
    else .out none
   else .out none
  else .out (some (0,0))
def r147 (x2 x3:Int) (x4:L_II) (x5:L_LIIE) (x6:L_II) (x7:L_LIIE) (x0 x1:L_I):Option (Int×Int):=
 (r109 x2 x3 x4 x5 x6 x7 x0).bind fun v1=>
  if (v1.2 != 0)=true then
   some (v1.1,v1.2)
   else (r109 x2 x3 x4 x5 x6 x7 x1).bind fun v2=>
    if (v2.2 != 0)=true then
     some (v2.1,v2.2)
     else iterC (b147_1 x0 x1) 1000000000 0
@[go_sem] def T147:=qT17 qu4 false r147
@[go_sem] def tb147 (k:Nat):=lk [(109,T109.sp)] k
theorem f147:FnFact Tryz.prog 147 T147.sp:=by
 refine vm (tb:=tb147) (.cons f109 .nil) Tryz.func147 Tryz.ntmps147 fun ⟨x2,x3,x4,x5,x6,x7,x0,x1⟩ r hr stop S=> ?_
 rw [uq8,r147] at hr
 refine S.gx [] ?_
 obtain ⟨v1,hv1,hr⟩:=of_bind0 hr
 refine gb hv1 ?_
 refine iW hr (fun hc hr=>D0 hr) fun hc hr=> ?_
 obtain ⟨v2,hv2,hr⟩:=of_bind0 hr
 refine gb hv2 ?_
 refine iW hr (fun hc hr=>D0 hr) fun hc hr=> ?_
 refine gr ?_
 refine S.sees [3,35,36,37] [(3,3)] [] ?_ (Stop.iter S (fun s1=>⟨[(3,.c (.ref 3 0)),(35,.c (.d (encF 1 d_I x0))),(36,.c (.d (.int .i64 (x0.length:Int)))),(37,.c (.d (.int .i64 s1)))],[(3,[.d (encF 1 d_I x0),.d (encF 1 d_I x1)])],[]⟩) (b147_1 x0 x1) (fun q=>q=r) hr rfl ?_)
 ·exact lf
 ·intro s1 hr
  unfold b147_1 at hr
  refine S.gx [] ?_
  exact D1 (S.ss [3,35,36,37] [(3,3)] []) hr
def r100 (x0 x1:Int) (x2:L_II) (x3:L_LIIE) (x4 x5:L_I):Option (Int×Int):=
 (r108 x0 x1 x2 x3).bind fun v1=>
  if (v1.2.2.2.2.2.2 != 0)=true then
   some (0,v1.2.2.2.2.2.2)
   else (r147 v1.1 v1.2.1 v1.2.2.1 v1.2.2.2.1 v1.2.2.2.2.1 v1.2.2.2.2.2.1 x4 x5).bind fun v2=>
    some (v2.1,v2.2)
@[go_sem] def T100:=qT18 qu4 false r100
@[go_sem] def tb100 (k:Nat):=lk [(108,T108.sp),(147,T147.sp)] k
theorem f100:FnFact Tryz.prog 100 T100.sp:=by
 refine vm (tb:=tb100) (.cons f108 (.cons f147 .nil)) Tryz.func100 Tryz.ntmps100 fun ⟨x0,x1,x2,x3,x4,x5⟩ r hr stop S=> ?_
 rw [uq6,r100] at hr
 refine S.gx [] ?_
 exact D0 hr
def r40 (a0:Bool) (a1:Int):Option (Int):=
 if a0=true then
  some 0
  else some a1
@[go_sem] def T40:=qT2 qu3 false r40
theorem f40:FnFact Tryz.prog 40 T40.sp:=by
 refine vm .nil Tryz.func40 Tryz.ntmps40 fun ⟨a0,a1⟩ r hr stop S=> ?_
 rw [uq2,r40] at hr
 refine S.gx [] ?_
 exact D0 hr
def b39_1 (a0:L_I):Bd Int Int:=fun s1=>
 if (decide (s1<(a0.length:Int)))=true then
  if 0≤s1∧s1<(a0.length:Int) then
   if ((a0.getD s1.toNat default) != 0)=true then
    .out (some (a0.getD s1.toNat default))
    else .next (IntKind.i64.wrap (s1+1))
   else .out none
  else .out (some 0)
def r39 (a0:L_I):Option (Int):=
 iterC (b39_1 a0) 1000000000 0
@[go_sem] def T39:=qT3 qu3 false r39
theorem f39:FnFact Tryz.prog 39 T39.sp:=by
 refine vm .nil Tryz.func39 Tryz.ntmps39 fun a0 r hr stop S=> ?_
 rw [uq1,r39] at hr
 refine S.gx [] ?_
 refine gr ?_
 refine S.sees [5,6,7] [] [] ?_ (Stop.iter S (fun s1=>⟨[(5,.c (.d (encF 1 d_I a0))),(6,.c (.d (.int .i64 (a0.length:Int)))),(7,.c (.d (.int .i64 s1)))],[],[]⟩) (b39_1 a0) (fun q=>q=r) hr rfl ?_)
 ·exact lf
 ·intro s1 hr
  unfold b39_1 at hr
  refine S.gx [] ?_
  exact D1 (S.ss [5,6,7] [] []) hr
def r46 (a0 a1 a2:Int):Option (Bool):=
 some ((decide (a1≤a0)) && (decide (a0≤a2)))
@[go_sem] def T46:=qT1 qu2 false r46
theorem f46:FnFact Tryz.prog 46 T46.sp:=by
 refine vm .nil Tryz.func46 Tryz.ntmps46 fun ⟨a0,a1,a2⟩ r hr stop S=> ?_
 rw [uq3,r46] at hr
 refine S.gx [] ?_
 repeat (first | refine gA ?_ | refine gB ?_)
 exact D0 hr
def r101 (a0:Int):Option (Bool):=
 (r46 a0 0 1000).bind fun v1=>
  some v1
@[go_sem] def T101:=qT4 qu2 false r101
@[go_sem] def tb101 (k:Nat):=lk [(46,T46.sp)] k
theorem f101:FnFact Tryz.prog 101 T101.sp:=by
 refine vm (tb:=tb101) (.cons f46 .nil) Tryz.func101 Tryz.ntmps101 fun a0 r hr stop S=> ?_
 rw [uq1,r101] at hr
 refine S.gx [] ?_
 exact D0 hr
def b71_1 (x1:L_LIIE) (x0:L_II) (x2 x3:Int):Bd Int (Int×Int):=fun s1=>
 if (decide (s1<(x0.length:Int)))=true then
  if 0≤s1∧s1<(x0.length:Int) then
   bindC (r101 ((x0.getD s1.toNat default).1)) fun v5=>
    if v5=true→(r101 ((x0.getD s1.toNat default).2)).isSome=true then
     bindC (r40 (v5 && ((r101 ((x0.getD s1.toNat default).2)).getD default)) 2) fun v6=>
      bindC (r40 (decide (((x0.getD s1.toNat default).1)≤((x0.getD s1.toNat default).2))) 9) fun v7=>
       bindC (r39 [v6,v7]) fun v8=>
        if (v8 != 0)=true then
         .out (some (s1,v8))
         else .next (IntKind.i64.wrap (s1+1))
     else .out none
   else .out none
  else .out ((r46 x2 0 (IntKind.i64.wrap ((x1.length:Int) - 1))).bind fun v11=>
   (r40 v11 6).bind fun v12=>
    (r46 x3 0 4).bind fun v13=>
     (r40 v13 2).bind fun v14=>
      (r39 [v12,v14]).bind fun v15=>
       some (0,v15))
def r71 (x4 x5:Int) (x6:L_II) (x1:L_LIIE) (x7 x8:L_I) (x0:L_II) (x2 x3:Int):Option (Int×Int):=
 (r99 x4 x5 x6 x1).bind fun v1=>
  (r100 x4 x5 x6 x1 x7 x8).bind fun v2=>
   (r40 ((x0.length:Int) == x4) 10).bind fun v3=>
    (r39 [v1.2,v2.2,v3]).bind fun v4=>
     if (v4 != 0)=true then
      some (0,v4)
      else iterC (b71_1 x1 x0 x2 x3) 1000000000 0
@[go_sem] def T71:=qT19 qu4 false r71
@[go_sem] def tb71 (k:Nat):=lk [(39,T39.sp),(40,T40.sp),(46,T46.sp),(99,T99.sp),(100,T100.sp),(101,T101.sp)] k
theorem f71:FnFact Tryz.prog 71 T71.sp:=by
 refine vm (tb:=tb71) (.cons f39 (.cons f40 (.cons f46 (.cons f99 (.cons f100 (.cons f101 .nil)))))) Tryz.func71 Tryz.ntmps71 fun ⟨x4,x5,x6,x1,x7,x8,x0,x2,x3⟩ r hr stop S=> ?_
 rw [uq9,r71] at hr
 refine S.gx [4,12] ?_
 obtain ⟨v1,hv1,hr⟩:=of_bind0 hr
 obtain ⟨v2,hv2,hr⟩:=of_bind0 hr
 obtain ⟨v3,hv3,hr⟩:=of_bind0 hr
 obtain ⟨v4,hv4,hr⟩:=of_bind0 hr
 refine gb hv1 ?_
 refine gb hv2 ?_
 refine gb hv3 ?_
 refine gb hv4 ?_
 refine S.prune [1,8] ?_
 refine S.gx [12] ?_
 refine gr ?_
 refine gr ?_
 refine iW hr (fun hc hr=>D0 hr) fun hc hr=> ?_
 refine gr ?_
 refine S.sees [1,9,43,44,45] [(1,1)] [] ?_ (Stop.iter S (fun s1=>⟨[(1,.c (.ref 1 0)),(9,.c (.clo 101 [])),(43,.c (.d (encF 2 d_II x0))),(44,.c (.d (.int .i64 (x0.length:Int)))),(45,.c (.d (.int .i64 s1)))],[(1,[.d (.int .i64 x4),.d (.int .i64 x5),.d (encF 2 d_II x6),.d (encF 1 d_LIIE x1),.d (encF 1 d_I x7),.d (encF 1 d_I x8),.d (encF 2 d_II x0),.d (.int .i64 x2),.d (.int .i64 x3)])],[]⟩) (b71_1 x1 x0 x2 x3) (fun q=>q=r) hr rfl ?_)
 ·exact lf
 ·intro s1 hr
  unfold b71_1 at hr
  refine S.gx [4,12] ?_
  refine gr ?_
  refine iW1 hr (fun hc hr=> ?_) fun hc hr=>D0 hr
  obtain ⟨hg9,hr⟩:=of_guard1 hr
  obtain ⟨v5,hv5,hr⟩:=of_bind1 hr
  obtain ⟨hg10,hr⟩:=of_guard1 hr
  obtain ⟨v6,hv6,hr⟩:=of_bind1 hr
  obtain ⟨v7,hv7,hr⟩:=of_bind1 hr
  obtain ⟨v8,hv8,hr⟩:=of_bind1 hr
  try simp only [hv5,hv6,hv7,hv8,Option.getD_some,Option.isSome_some,true_and,and_assoc]
  repeat (first | refine gG hg10 ?_ | refine gA ?_ | refine gB ?_)
  refine iW1 hr (fun hc hr=> ?_) fun hc hr=>D1 (S.ss [1,9,43,44,45] [(1,1)] []) hr
  refine gr ?_
  refine S.prune [10,12] ?_
  refine S.gx [4] ?_
  exact D0 hr
def r45 (x0 x1:Int) (x2:L_II) (x3:L_LIIE) (x4 x5:L_I) (x6:L_II) (x7 x8:Int):Option (Int×Int×L_II×L_LIIE×L_I×L_I×L_II×Int×Int×Int):=
 (r71 x0 x1 x2 x3 x4 x5 x6 x7 x8).bind fun v1=>
  some (x0,x1,x2,x3,x4,x5,x6,x7,x8,v1.2)
@[go_sem] def T45:=qT19 qu9 true r45
@[go_sem] def tb45 (k:Nat):=lk [(71,T71.sp)] k
theorem f45:FnFact Tryz.prog 45 T45.sp:=by
 refine vm (tb:=tb45) (.cons f71 .nil) Tryz.func45 Tryz.ntmps45 fun ⟨x0,x1,x2,x3,x4,x5,x6,x7,x8⟩ r hr stop S=> ?_
 rw [uq9,r45] at hr
 refine S.gx [] ?_
 exact D0 hr
def b38_8 (a0:L_IIIIIH) (s1 s3 s5 s7:Int×(List (Int×Int×Int×Int×Int×Hl))):Bd Unit (Ctl (Int×(List (Int×Int×Int×Int×Int×Hl))) (Ctl (Int×(List (Int×Int×Int×Int×Int×Hl))) (Ctl (Int×(List (Int×Int×Int×Int×Int×Hl))) (Ctl (Int×(List (Int×Int×Int×Int×Int×Hl))) (Ctl (Int×(List (Int×Int×Int×Int×Int×Hl))) (Ctl (Int×(List (Int×Int×Int×Int×Int×Hl))) (Ctl (Int×(List (Int×Int×Int×Int×Int×Hl))) (L_IIIIIH)))))))):=fun s8=>
 if (decide (0<(((hU (((hU (((hU ((a0.getD s1.1.toNat default).2.2.2.2.2)).getD s3.1.toNat default).2.2.2.2.2)).getD s5.1.toNat default).2.2.2.2.2)).getD s7.1.toNat default).2.2.2.1)))=true then
  .out none
  else .out (some (.next (IntKind.i64.wrap (s7.1+1),s7.2)))
def b38_7 (a0:L_IIIIIH) (s1 s3 s5 s6:Int×(List (Int×Int×Int×Int×Int×Hl))):Bd (Int×(List (Int×Int×Int×Int×Int×Hl))) (Ctl (Int×(List (Int×Int×Int×Int×Int×Hl))) (Ctl (Int×(List (Int×Int×Int×Int×Int×Hl))) (Ctl (Int×(List (Int×Int×Int×Int×Int×Hl))) (Ctl (Int×(List (Int×Int×Int×Int×Int×Hl))) (Ctl (Int×(List (Int×Int×Int×Int×Int×Hl))) (Ctl (Int×(List (Int×Int×Int×Int×Int×Hl))) (L_IIIIIH))))))):=fun s7=>
 if (decide (s7.1<((hU (((hU (((hU ((a0.getD s1.1.toNat default).2.2.2.2.2)).getD s3.1.toNat default).2.2.2.2.2)).getD s5.1.toNat default).2.2.2.2.2)).length:Int)))=true then
  if 0≤s7.1∧s7.1<((hU (((hU (((hU ((a0.getD s1.1.toNat default).2.2.2.2.2)).getD s3.1.toNat default).2.2.2.2.2)).getD s5.1.toNat default).2.2.2.2.2)).length:Int) then
   if ((((hU (((hU (((hU ((a0.getD s1.1.toNat default).2.2.2.2.2)).getD s3.1.toNat default).2.2.2.2.2)).getD s5.1.toNat default).2.2.2.2.2)).getD s7.1.toNat default).1) != 5)=true then
    if (s7.2.length+1)*64≤140737488355328∧s7.2.length+1≤9223372036854775807 then
     if 0≤(s7.2.length:Int)∧(s7.2.length:Int)<((s7.2.length+1):Int) then
      if (!(decide (((s7.2.length+1):Int)≤60)))=true then
       .out (some (.out (some (.out (some (.out (some (.out (some (.out (some (.out (some ((s7.2++[(0,0,0,0,0,Hl.nil)]).set s7.2.length (((hU (((hU (((hU ((a0.getD s1.1.toNat default).2.2.2.2.2)).getD s3.1.toNat default).2.2.2.2.2)).getD s5.1.toNat default).2.2.2.2.2)).getD s7.1.toNat default).1,((hU (((hU (((hU ((a0.getD s1.1.toNat default).2.2.2.2.2)).getD s3.1.toNat default).2.2.2.2.2)).getD s5.1.toNat default).2.2.2.2.2)).getD s7.1.toNat default).2.1,((hU (((hU (((hU ((a0.getD s1.1.toNat default).2.2.2.2.2)).getD s3.1.toNat default).2.2.2.2.2)).getD s5.1.toNat default).2.2.2.2.2)).getD s7.1.toNat default).2.2.1,((hU (((hU (((hU ((a0.getD s1.1.toNat default).2.2.2.2.2)).getD s3.1.toNat default).2.2.2.2.2)).getD s5.1.toNat default).2.2.2.2.2)).getD s7.1.toNat default).2.2.2.1,((hU (((hU (((hU ((a0.getD s1.1.toNat default).2.2.2.2.2)).getD s3.1.toNat default).2.2.2.2.2)).getD s5.1.toNat default).2.2.2.2.2)).getD s7.1.toNat default).2.2.2.2.1,((hU (((hU (((hU ((a0.getD s1.1.toNat default).2.2.2.2.2)).getD s3.1.toNat default).2.2.2.2.2)).getD s5.1.toNat default).2.2.2.2.2)).getD s7.1.toNat default).2.2.2.2.2)))))))))))))))
       else .next (IntKind.i64.wrap (s7.1+1),(s7.2++[(0,0,0,0,0,Hl.nil)]).set s7.2.length (((hU (((hU (((hU ((a0.getD s1.1.toNat default).2.2.2.2.2)).getD s3.1.toNat default).2.2.2.2.2)).getD s5.1.toNat default).2.2.2.2.2)).getD s7.1.toNat default).1,((hU (((hU (((hU ((a0.getD s1.1.toNat default).2.2.2.2.2)).getD s3.1.toNat default).2.2.2.2.2)).getD s5.1.toNat default).2.2.2.2.2)).getD s7.1.toNat default).2.1,((hU (((hU (((hU ((a0.getD s1.1.toNat default).2.2.2.2.2)).getD s3.1.toNat default).2.2.2.2.2)).getD s5.1.toNat default).2.2.2.2.2)).getD s7.1.toNat default).2.2.1,((hU (((hU (((hU ((a0.getD s1.1.toNat default).2.2.2.2.2)).getD s3.1.toNat default).2.2.2.2.2)).getD s5.1.toNat default).2.2.2.2.2)).getD s7.1.toNat default).2.2.2.1,((hU (((hU (((hU ((a0.getD s1.1.toNat default).2.2.2.2.2)).getD s3.1.toNat default).2.2.2.2.2)).getD s5.1.toNat default).2.2.2.2.2)).getD s7.1.toNat default).2.2.2.2.1,((hU (((hU (((hU ((a0.getD s1.1.toNat default).2.2.2.2.2)).getD s3.1.toNat default).2.2.2.2.2)).getD s5.1.toNat default).2.2.2.2.2)).getD s7.1.toNat default).2.2.2.2.2))
      else .out none
     else .out none
    else (iterC (b38_8 a0 s1 s3 s5 s7) 1000000000 ()).getD (.out none)
   else .out none
  else .out (some (.next (IntKind.i64.wrap (s6.1+1),s7.2)))
def b38_6 (a0:L_IIIIIH) (s1 s3 s5:Int×(List (Int×Int×Int×Int×Int×Hl))):Bd (Int×(List (Int×Int×Int×Int×Int×Hl))) (Ctl (Int×(List (Int×Int×Int×Int×Int×Hl))) (Ctl (Int×(List (Int×Int×Int×Int×Int×Hl))) (Ctl (Int×(List (Int×Int×Int×Int×Int×Hl))) (Ctl (Int×(List (Int×Int×Int×Int×Int×Hl))) (Ctl (Int×(List (Int×Int×Int×Int×Int×Hl))) (L_IIIIIH)))))):=fun s6=>
 if (decide (s6.1<(((hU (((hU ((a0.getD s1.1.toNat default).2.2.2.2.2)).getD s3.1.toNat default).2.2.2.2.2)).getD s5.1.toNat default).2.2.2.1)))=true then
  (iterC (b38_7 a0 s1 s3 s5 s6) 1000000000 (0,s6.2)).getD (.out none)
  else .out (some (.next (IntKind.i64.wrap (s5.1+1),s6.2)))
def b38_5 (a0:L_IIIIIH) (s1 s3 s4:Int×(List (Int×Int×Int×Int×Int×Hl))):Bd (Int×(List (Int×Int×Int×Int×Int×Hl))) (Ctl (Int×(List (Int×Int×Int×Int×Int×Hl))) (Ctl (Int×(List (Int×Int×Int×Int×Int×Hl))) (Ctl (Int×(List (Int×Int×Int×Int×Int×Hl))) (Ctl (Int×(List (Int×Int×Int×Int×Int×Hl))) (L_IIIIIH))))):=fun s5=>
 if (decide (s5.1<((hU (((hU ((a0.getD s1.1.toNat default).2.2.2.2.2)).getD s3.1.toNat default).2.2.2.2.2)).length:Int)))=true then
  if 0≤s5.1∧s5.1<((hU (((hU ((a0.getD s1.1.toNat default).2.2.2.2.2)).getD s3.1.toNat default).2.2.2.2.2)).length:Int) then
   if ((((hU (((hU ((a0.getD s1.1.toNat default).2.2.2.2.2)).getD s3.1.toNat default).2.2.2.2.2)).getD s5.1.toNat default).1) != 5)=true then
    if (s5.2.length+1)*64≤140737488355328∧s5.2.length+1≤9223372036854775807 then
     if 0≤(s5.2.length:Int)∧(s5.2.length:Int)<((s5.2.length+1):Int) then
      if (!(decide (((s5.2.length+1):Int)≤60)))=true then
       .out (some (.out (some (.out (some (.out (some (.out (some ((s5.2++[(0,0,0,0,0,Hl.nil)]).set s5.2.length (((hU (((hU ((a0.getD s1.1.toNat default).2.2.2.2.2)).getD s3.1.toNat default).2.2.2.2.2)).getD s5.1.toNat default).1,((hU (((hU ((a0.getD s1.1.toNat default).2.2.2.2.2)).getD s3.1.toNat default).2.2.2.2.2)).getD s5.1.toNat default).2.1,((hU (((hU ((a0.getD s1.1.toNat default).2.2.2.2.2)).getD s3.1.toNat default).2.2.2.2.2)).getD s5.1.toNat default).2.2.1,((hU (((hU ((a0.getD s1.1.toNat default).2.2.2.2.2)).getD s3.1.toNat default).2.2.2.2.2)).getD s5.1.toNat default).2.2.2.1,((hU (((hU ((a0.getD s1.1.toNat default).2.2.2.2.2)).getD s3.1.toNat default).2.2.2.2.2)).getD s5.1.toNat default).2.2.2.2.1,((hU (((hU ((a0.getD s1.1.toNat default).2.2.2.2.2)).getD s3.1.toNat default).2.2.2.2.2)).getD s5.1.toNat default).2.2.2.2.2)))))))))))
       else .next (IntKind.i64.wrap (s5.1+1),(s5.2++[(0,0,0,0,0,Hl.nil)]).set s5.2.length (((hU (((hU ((a0.getD s1.1.toNat default).2.2.2.2.2)).getD s3.1.toNat default).2.2.2.2.2)).getD s5.1.toNat default).1,((hU (((hU ((a0.getD s1.1.toNat default).2.2.2.2.2)).getD s3.1.toNat default).2.2.2.2.2)).getD s5.1.toNat default).2.1,((hU (((hU ((a0.getD s1.1.toNat default).2.2.2.2.2)).getD s3.1.toNat default).2.2.2.2.2)).getD s5.1.toNat default).2.2.1,((hU (((hU ((a0.getD s1.1.toNat default).2.2.2.2.2)).getD s3.1.toNat default).2.2.2.2.2)).getD s5.1.toNat default).2.2.2.1,((hU (((hU ((a0.getD s1.1.toNat default).2.2.2.2.2)).getD s3.1.toNat default).2.2.2.2.2)).getD s5.1.toNat default).2.2.2.2.1,((hU (((hU ((a0.getD s1.1.toNat default).2.2.2.2.2)).getD s3.1.toNat default).2.2.2.2.2)).getD s5.1.toNat default).2.2.2.2.2))
      else .out none
     else .out none
    else (iterC (b38_6 a0 s1 s3 s5) 1000000000 (0,s5.2)).getD (.out none)
   else .out none
  else .out (some (.next (IntKind.i64.wrap (s4.1+1),s5.2)))
def b38_4 (a0:L_IIIIIH) (s1 s3:Int×(List (Int×Int×Int×Int×Int×Hl))):Bd (Int×(List (Int×Int×Int×Int×Int×Hl))) (Ctl (Int×(List (Int×Int×Int×Int×Int×Hl))) (Ctl (Int×(List (Int×Int×Int×Int×Int×Hl))) (Ctl (Int×(List (Int×Int×Int×Int×Int×Hl))) (L_IIIIIH)))):=fun s4=>
 if (decide (s4.1<(((hU ((a0.getD s1.1.toNat default).2.2.2.2.2)).getD s3.1.toNat default).2.2.2.1)))=true then
  (iterC (b38_5 a0 s1 s3 s4) 1000000000 (0,s4.2)).getD (.out none)
  else .out (some (.next (IntKind.i64.wrap (s3.1+1),s4.2)))
def b38_3 (a0:L_IIIIIH) (s1 s2:Int×(List (Int×Int×Int×Int×Int×Hl))):Bd (Int×(List (Int×Int×Int×Int×Int×Hl))) (Ctl (Int×(List (Int×Int×Int×Int×Int×Hl))) (Ctl (Int×(List (Int×Int×Int×Int×Int×Hl))) (L_IIIIIH))):=fun s3=>
 if (decide (s3.1<((hU ((a0.getD s1.1.toNat default).2.2.2.2.2)).length:Int)))=true then
  if 0≤s3.1∧s3.1<((hU ((a0.getD s1.1.toNat default).2.2.2.2.2)).length:Int) then
   if ((((hU ((a0.getD s1.1.toNat default).2.2.2.2.2)).getD s3.1.toNat default).1) != 5)=true then
    if (s3.2.length+1)*64≤140737488355328∧s3.2.length+1≤9223372036854775807 then
     if 0≤(s3.2.length:Int)∧(s3.2.length:Int)<((s3.2.length+1):Int) then
      if (!(decide (((s3.2.length+1):Int)≤60)))=true then
       .out (some (.out (some (.out (some ((s3.2++[(0,0,0,0,0,Hl.nil)]).set s3.2.length (((hU ((a0.getD s1.1.toNat default).2.2.2.2.2)).getD s3.1.toNat default).1,((hU ((a0.getD s1.1.toNat default).2.2.2.2.2)).getD s3.1.toNat default).2.1,((hU ((a0.getD s1.1.toNat default).2.2.2.2.2)).getD s3.1.toNat default).2.2.1,((hU ((a0.getD s1.1.toNat default).2.2.2.2.2)).getD s3.1.toNat default).2.2.2.1,((hU ((a0.getD s1.1.toNat default).2.2.2.2.2)).getD s3.1.toNat default).2.2.2.2.1,((hU ((a0.getD s1.1.toNat default).2.2.2.2.2)).getD s3.1.toNat default).2.2.2.2.2)))))))
       else .next (IntKind.i64.wrap (s3.1+1),(s3.2++[(0,0,0,0,0,Hl.nil)]).set s3.2.length (((hU ((a0.getD s1.1.toNat default).2.2.2.2.2)).getD s3.1.toNat default).1,((hU ((a0.getD s1.1.toNat default).2.2.2.2.2)).getD s3.1.toNat default).2.1,((hU ((a0.getD s1.1.toNat default).2.2.2.2.2)).getD s3.1.toNat default).2.2.1,((hU ((a0.getD s1.1.toNat default).2.2.2.2.2)).getD s3.1.toNat default).2.2.2.1,((hU ((a0.getD s1.1.toNat default).2.2.2.2.2)).getD s3.1.toNat default).2.2.2.2.1,((hU ((a0.getD s1.1.toNat default).2.2.2.2.2)).getD s3.1.toNat default).2.2.2.2.2))
      else .out none
     else .out none
    else (iterC (b38_4 a0 s1 s3) 1000000000 (0,s3.2)).getD (.out none)
   else .out none
  else .out (some (.next (IntKind.i64.wrap (s2.1+1),s3.2)))
def b38_2 (a0:L_IIIIIH) (s1:Int×(List (Int×Int×Int×Int×Int×Hl))):Bd (Int×(List (Int×Int×Int×Int×Int×Hl))) (Ctl (Int×(List (Int×Int×Int×Int×Int×Hl))) (L_IIIIIH)):=fun s2=>
 if (decide (s2.1<((a0.getD s1.1.toNat default).2.2.2.1)))=true then
  (iterC (b38_3 a0 s1 s2) 1000000000 (0,s2.2)).getD (.out none)
  else .out (some (.next (IntKind.i64.wrap (s1.1+1),s2.2)))
def b38_1 (a0:L_IIIIIH):Bd (Int×(List (Int×Int×Int×Int×Int×Hl))) L_IIIIIH:=fun s1=>
 if (decide (s1.1<(a0.length:Int)))=true then
  if 0≤s1.1∧s1.1<(a0.length:Int) then
   if (((a0.getD s1.1.toNat default).1) != 5)=true then
    if (s1.2.length+1)*64≤140737488355328∧s1.2.length+1≤9223372036854775807 then
     if 0≤(s1.2.length:Int)∧(s1.2.length:Int)<((s1.2.length+1):Int) then
      if (!(decide (((s1.2.length+1):Int)≤60)))=true then
       .out (some ((s1.2++[(0,0,0,0,0,Hl.nil)]).set s1.2.length ((a0.getD s1.1.toNat default).1,(a0.getD s1.1.toNat default).2.1,(a0.getD s1.1.toNat default).2.2.1,(a0.getD s1.1.toNat default).2.2.2.1,(a0.getD s1.1.toNat default).2.2.2.2.1,(a0.getD s1.1.toNat default).2.2.2.2.2)))
       else .next (IntKind.i64.wrap (s1.1+1),(s1.2++[(0,0,0,0,0,Hl.nil)]).set s1.2.length ((a0.getD s1.1.toNat default).1,(a0.getD s1.1.toNat default).2.1,(a0.getD s1.1.toNat default).2.2.1,(a0.getD s1.1.toNat default).2.2.2.1,(a0.getD s1.1.toNat default).2.2.2.2.1,(a0.getD s1.1.toNat default).2.2.2.2.2))
      else .out none
     else .out none
    else (iterC (b38_2 a0 s1) 1000000000 (0,s1.2)).getD (.out none)
   else .out none
  else .out (some s1.2)
def r38 (a0:L_IIIIIH):Option (L_IIIIIH):=
 iterC (b38_1 a0) 1000000000 (0,[])
@[go_sem] def T38:=qT20 qu1 true r38
def tb38:Fns:=lk []
theorem tb38_ok:FnsOk Tryz.prog tb38:=FnsOk.nil
theorem f38:FnFact Tryz.prog 38 T38.sp:=by
 refine vm (tb:=tb38) .nil Tryz.func38 Tryz.ntmps38 fun a0 r hr stop S=> ?_
 rw [uq1,r38] at hr
 refine S.gx [2] ?_
 refine gr ?_
 refine S.inl 2 [3] [] Tryz.func68 (by decide) rfl Tryz.ntmps68 (fun cx e=>drawn_ok ty_ok tb38_ok cx e) (some 6) rfl rfl rfl rfl (nL rfl) (nL rfl) ?_
 refine gs ?_
 refine gr ?_
 intro stop1 S1
 refine S1.gx [5,9] ?_
 refine gr ?_
 refine S1.own0b 3 0 2000300 6 rfl rfl (nL rfl) rfl ?_
 refine S1.sees [1,7,8,9] [(3,3)] [(2000300,2000300)] ?_ (Stop.iter S1 (fun s1=>⟨[(1,.c (.clo 69 [.ref 3 0])),(7,.c (.d (encF 6 d_IIIIIH a0))),(8,.c (.d (.int .i64 (a0.length:Int)))),(9,.c (.d (.int .i64 s1.1)))],[(3,[.own 2000300])],[(2000300,.owned (encF 6 d_IIIIIH s1.2))]⟩) (b38_1 a0) (fun q=>q=r) hr rfl ?_)
 ·exact lf
 ·intro s1 hr
  unfold b38_1 at hr
  refine S1.gx [5,9] ?_
  refine gr ?_
  refine iW1 hr (fun hc hr=> ?_) fun hc hr=> ?_
  ·obtain ⟨hg12,hr⟩:=of_guard1 hr
   refine gr ?_
   refine iW1 hr (fun hc hr=> ?_) fun hc hr=> ?_
   ·refine gr ?_
    refine S1.inl 2 [1,7,8,9] [.ref 3 0] Tryz.func69 (by decide) rfl Tryz.ntmps69 (fun cx e=>drawn_ok ty_ok tb38_ok cx e) (some 18) rfl rfl rfl rfl (nL rfl) (nL rfl) ?_
    refine gs ?_
    refine gr ?_
    intro stop2 S2
    refine S2.gx [] ?_
    obtain ⟨hg1,hr⟩:=of_guard1 hr
    obtain ⟨hg2,hr⟩:=of_guard1 hr
    refine gr ?_
    refine gr ?_
    refine S1.gx [5,9] ?_
    refine gr ?_
    refine iW1 hr (fun hc hr=> ?_) fun hc hr=>D1 (S1.ss [1,7,8,9] [(3,3)] [(8,2000300)]) hr
    refine gr ?_
    have hr:=of_out0 hr
    refine gr ?_
    refine S.gx [2] ?_
    exact D0 hr
   ·refine gr ?_
    obtain ⟨q2,hq,hr⟩:=of_iter1 hr
    refine S1.sees [1,6,7,8,9,21,22] [(3,3),(6,6)] [(2000300,2000300)] ?_ (Stop.iter S1 (fun s2=>⟨[(1,.c (.clo 69 [.ref 3 0])),(6,.c (.ref 6 0)),(7,.c (.d (encF 6 d_IIIIIH a0))),(8,.c (.d (.int .i64 (a0.length:Int)))),(9,.c (.d (.int .i64 s1.1))),(21,.c (.d (.int .i64 ((a0.getD s1.1.toNat default).2.2.2.1)))),(22,.c (.d (.int .i64 s2.1)))],[(3,[.own 2000300]),(6,[.d (.int .i64 ((a0.getD s1.1.toNat default).1)),.d (.int .i64 ((a0.getD s1.1.toNat default).2.1)),.d (.int .i64 ((a0.getD s1.1.toNat default).2.2.1)),.d (.int .i64 ((a0.getD s1.1.toNat default).2.2.2.1)),.d (.int .i64 ((a0.getD s1.1.toNat default).2.2.2.2.1)),.d (hE ((a0.getD s1.1.toNat default).2.2.2.2.2))])],[(2000300,.owned (encF 6 d_IIIIIH s2.2))]⟩) (b38_2 a0 s1) _ hq hr ?_)
    ·exact lf
    ·intro s2 hr
     unfold b38_2 at hr
     refine S1.gx [5,9] ?_
     refine gr ?_
     refine iW1 hr (fun hc hr=> ?_) fun hc hr=> ?_
     ·refine gr ?_
      refine S1.inl 3 [1,6,7,8,9,21,22] [] Tryz.func68 (by decide) rfl Tryz.ntmps68 (fun cx e=>drawn_ok ty_ok tb38_ok cx e) (some 27) rfl rfl rfl rfl (nL rfl) (nL rfl) ?_
      refine gs ?_
      refine gr ?_
      intro stop2 S2
      refine S2.gx [5,9] ?_
      refine gr ?_
      obtain ⟨q3,hq,hr⟩:=of_iter1 hr
      refine S2.sees [1,7,8,9] [(3,3),(6,6)] [(2000300,2000300)] ?_ (Stop.iter S2 (fun s3=>⟨[(1,.c (.clo 69 [.ref 3 0])),(7,.c (.d (encF 6 d_IIIIIH (hU ((a0.getD s1.1.toNat default).2.2.2.2.2))))),(8,.c (.d (.int .i64 ((hU ((a0.getD s1.1.toNat default).2.2.2.2.2)).length:Int)))),(9,.c (.d (.int .i64 s3.1)))],[(3,[.own 2000300]),(6,[.d (.int .i64 ((a0.getD s1.1.toNat default).1)),.d (.int .i64 ((a0.getD s1.1.toNat default).2.1)),.d (.int .i64 ((a0.getD s1.1.toNat default).2.2.1)),.d (.int .i64 ((a0.getD s1.1.toNat default).2.2.2.1)),.d (.int .i64 ((a0.getD s1.1.toNat default).2.2.2.2.1)),.d (hE ((a0.getD s1.1.toNat default).2.2.2.2.2))])],[(2000300,.owned (encF 6 d_IIIIIH s3.2))]⟩) (b38_3 a0 s1 s2) _ hq hr ?_)
      ·exact lf
      ·intro s3 hr
       unfold b38_3 at hr
       refine S2.gx [5,9] ?_
       refine gr ?_
       refine iW1 hr (fun hc hr=> ?_) fun hc hr=> ?_
       ·obtain ⟨hg11,hr⟩:=of_guard1 hr
        refine gr ?_
        refine iW1 hr (fun hc hr=> ?_) fun hc hr=> ?_
        ·refine gr ?_
         refine S2.inl 2 [1,7,8,9] [.ref 3 0] Tryz.func69 (by decide) rfl Tryz.ntmps69 (fun cx e=>drawn_ok ty_ok tb38_ok cx e) (some 18) rfl rfl rfl rfl (nL rfl) (nL rfl) ?_
         refine gs ?_
         refine gr ?_
         intro stop3 S3
         refine S3.gx [] ?_
         obtain ⟨hg3,hr⟩:=of_guard1 hr
         obtain ⟨hg4,hr⟩:=of_guard1 hr
         refine gr ?_
         refine gr ?_
         refine S2.gx [5,9] ?_
         refine gr ?_
         refine iW1 hr (fun hc hr=> ?_) fun hc hr=>D1 (S2.ss [1,7,8,9] [(3,3),(6,6)] [(8,2000300)]) hr
         refine gr ?_
         replace hr:=goodC_out hr
         refine gr ?_
         refine S1.gx [5,9] ?_
         refine gr ?_
         replace hr:=goodC_out hr
         have hr:=of_out0 hr
         refine gr ?_
         refine S.gx [2] ?_
         exact D0 hr
        ·refine gr ?_
         obtain ⟨q4,hq,hr⟩:=of_iter1 hr
         refine S2.sees [1,6,7,8,9,21,22] [(3,3),(100006,100006),(6,6)] [(2000300,2000300)] ?_ (Stop.iter S2 (fun s4=>⟨[(1,.c (.clo 69 [.ref 3 0])),(6,.c (.ref 100006 0)),(7,.c (.d (encF 6 d_IIIIIH (hU ((a0.getD s1.1.toNat default).2.2.2.2.2))))),(8,.c (.d (.int .i64 ((hU ((a0.getD s1.1.toNat default).2.2.2.2.2)).length:Int)))),(9,.c (.d (.int .i64 s3.1))),(21,.c (.d (.int .i64 (((hU ((a0.getD s1.1.toNat default).2.2.2.2.2)).getD s3.1.toNat default).2.2.2.1)))),(22,.c (.d (.int .i64 s4.1)))],[(3,[.own 2000300]),(100006,[.d (.int .i64 (((hU ((a0.getD s1.1.toNat default).2.2.2.2.2)).getD s3.1.toNat default).1)),.d (.int .i64 (((hU ((a0.getD s1.1.toNat default).2.2.2.2.2)).getD s3.1.toNat default).2.1)),.d (.int .i64 (((hU ((a0.getD s1.1.toNat default).2.2.2.2.2)).getD s3.1.toNat default).2.2.1)),.d (.int .i64 (((hU ((a0.getD s1.1.toNat default).2.2.2.2.2)).getD s3.1.toNat default).2.2.2.1)),.d (.int .i64 (((hU ((a0.getD s1.1.toNat default).2.2.2.2.2)).getD s3.1.toNat default).2.2.2.2.1)),.d (hE (((hU ((a0.getD s1.1.toNat default).2.2.2.2.2)).getD s3.1.toNat default).2.2.2.2.2))]),(6,[.d (.int .i64 ((a0.getD s1.1.toNat default).1)),.d (.int .i64 ((a0.getD s1.1.toNat default).2.1)),.d (.int .i64 ((a0.getD s1.1.toNat default).2.2.1)),.d (.int .i64 ((a0.getD s1.1.toNat default).2.2.2.1)),.d (.int .i64 ((a0.getD s1.1.toNat default).2.2.2.2.1)),.d (hE ((a0.getD s1.1.toNat default).2.2.2.2.2))])],[(2000300,.owned (encF 6 d_IIIIIH s4.2))]⟩) (b38_4 a0 s1 s3) _ hq hr ?_)
         ·exact lf
         ·intro s4 hr
          unfold b38_4 at hr
          refine S2.gx [5,9] ?_
          refine gr ?_
          refine iW1 hr (fun hc hr=> ?_) fun hc hr=> ?_
          ·refine gr ?_
           refine S2.inl 3 [1,6,7,8,9,21,22] [] Tryz.func68 (by decide) rfl Tryz.ntmps68 (fun cx e=>drawn_ok ty_ok tb38_ok cx e) (some 27) rfl rfl rfl rfl (nL rfl) (nL rfl) ?_
           refine gs ?_
           refine gr ?_
           intro stop3 S3
           refine S3.gx [5,9] ?_
           refine gr ?_
           obtain ⟨q5,hq,hr⟩:=of_iter1 hr
           refine S3.sees [1,7,8,9] [(3,3),(100006,100006),(6,6)] [(2000300,2000300)] ?_ (Stop.iter S3 (fun s5=>⟨[(1,.c (.clo 69 [.ref 3 0])),(7,.c (.d (encF 6 d_IIIIIH (hU (((hU ((a0.getD s1.1.toNat default).2.2.2.2.2)).getD s3.1.toNat default).2.2.2.2.2))))),(8,.c (.d (.int .i64 ((hU (((hU ((a0.getD s1.1.toNat default).2.2.2.2.2)).getD s3.1.toNat default).2.2.2.2.2)).length:Int)))),(9,.c (.d (.int .i64 s5.1)))],[(3,[.own 2000300]),(100006,[.d (.int .i64 (((hU ((a0.getD s1.1.toNat default).2.2.2.2.2)).getD s3.1.toNat default).1)),.d (.int .i64 (((hU ((a0.getD s1.1.toNat default).2.2.2.2.2)).getD s3.1.toNat default).2.1)),.d (.int .i64 (((hU ((a0.getD s1.1.toNat default).2.2.2.2.2)).getD s3.1.toNat default).2.2.1)),.d (.int .i64 (((hU ((a0.getD s1.1.toNat default).2.2.2.2.2)).getD s3.1.toNat default).2.2.2.1)),.d (.int .i64 (((hU ((a0.getD s1.1.toNat default).2.2.2.2.2)).getD s3.1.toNat default).2.2.2.2.1)),.d (hE (((hU ((a0.getD s1.1.toNat default).2.2.2.2.2)).getD s3.1.toNat default).2.2.2.2.2))]),(6,[.d (.int .i64 ((a0.getD s1.1.toNat default).1)),.d (.int .i64 ((a0.getD s1.1.toNat default).2.1)),.d (.int .i64 ((a0.getD s1.1.toNat default).2.2.1)),.d (.int .i64 ((a0.getD s1.1.toNat default).2.2.2.1)),.d (.int .i64 ((a0.getD s1.1.toNat default).2.2.2.2.1)),.d (hE ((a0.getD s1.1.toNat default).2.2.2.2.2))])],[(2000300,.owned (encF 6 d_IIIIIH s5.2))]⟩) (b38_5 a0 s1 s3 s4) _ hq hr ?_)
           ·exact lf
           ·intro s5 hr
            unfold b38_5 at hr
            refine S3.gx [5,9] ?_
            refine gr ?_
            refine iW1 hr (fun hc hr=> ?_) fun hc hr=> ?_
            ·obtain ⟨hg10,hr⟩:=of_guard1 hr
             refine gr ?_
             refine iW1 hr (fun hc hr=> ?_) fun hc hr=> ?_
             ·refine gr ?_
              refine S3.inl 2 [1,7,8,9] [.ref 3 0] Tryz.func69 (by decide) rfl Tryz.ntmps69 (fun cx e=>drawn_ok ty_ok tb38_ok cx e) (some 18) rfl rfl rfl rfl (nL rfl) (nL rfl) ?_
              refine gs ?_
              refine gr ?_
              intro stop4 S4
              refine S4.gx [] ?_
              obtain ⟨hg5,hr⟩:=of_guard1 hr
              obtain ⟨hg6,hr⟩:=of_guard1 hr
              refine gr ?_
              refine gr ?_
              refine S3.gx [5,9] ?_
              refine gr ?_
              refine iW1 hr (fun hc hr=> ?_) fun hc hr=>D1 (S3.ss [1,7,8,9] [(3,3),(100006,100006),(6,6)] [(8,2000300)]) hr
              refine gr ?_
              replace hr:=goodC_out hr
              refine gr ?_
              refine S2.gx [5,9] ?_
              refine gr ?_
              replace hr:=goodC_out hr
              replace hr:=goodC_out hr
              refine gr ?_
              refine S1.gx [5,9] ?_
              refine gr ?_
              replace hr:=goodC_out hr
              have hr:=of_out0 hr
              refine gr ?_
              refine S.gx [2] ?_
              exact D0 hr
             ·refine gr ?_
              obtain ⟨q6,hq,hr⟩:=of_iter1 hr
              refine S3.sees [1,6,7,8,9,21,22] [(3,3),(200006,200006),(100006,100006),(6,6)] [(2000300,2000300)] ?_ (Stop.iter S3 (fun s6=>⟨[(1,.c (.clo 69 [.ref 3 0])),(6,.c (.ref 200006 0)),(7,.c (.d (encF 6 d_IIIIIH (hU (((hU ((a0.getD s1.1.toNat default).2.2.2.2.2)).getD s3.1.toNat default).2.2.2.2.2))))),(8,.c (.d (.int .i64 ((hU (((hU ((a0.getD s1.1.toNat default).2.2.2.2.2)).getD s3.1.toNat default).2.2.2.2.2)).length:Int)))),(9,.c (.d (.int .i64 s5.1))),(21,.c (.d (.int .i64 (((hU (((hU ((a0.getD s1.1.toNat default).2.2.2.2.2)).getD s3.1.toNat default).2.2.2.2.2)).getD s5.1.toNat default).2.2.2.1)))),(22,.c (.d (.int .i64 s6.1)))],[(3,[.own 2000300]),(200006,[.d (.int .i64 (((hU (((hU ((a0.getD s1.1.toNat default).2.2.2.2.2)).getD s3.1.toNat default).2.2.2.2.2)).getD s5.1.toNat default).1)),.d (.int .i64 (((hU (((hU ((a0.getD s1.1.toNat default).2.2.2.2.2)).getD s3.1.toNat default).2.2.2.2.2)).getD s5.1.toNat default).2.1)),.d (.int .i64 (((hU (((hU ((a0.getD s1.1.toNat default).2.2.2.2.2)).getD s3.1.toNat default).2.2.2.2.2)).getD s5.1.toNat default).2.2.1)),.d (.int .i64 (((hU (((hU ((a0.getD s1.1.toNat default).2.2.2.2.2)).getD s3.1.toNat default).2.2.2.2.2)).getD s5.1.toNat default).2.2.2.1)),.d (.int .i64 (((hU (((hU ((a0.getD s1.1.toNat default).2.2.2.2.2)).getD s3.1.toNat default).2.2.2.2.2)).getD s5.1.toNat default).2.2.2.2.1)),.d (hE (((hU (((hU ((a0.getD s1.1.toNat default).2.2.2.2.2)).getD s3.1.toNat default).2.2.2.2.2)).getD s5.1.toNat default).2.2.2.2.2))]),(100006,[.d (.int .i64 (((hU ((a0.getD s1.1.toNat default).2.2.2.2.2)).getD s3.1.toNat default).1)),.d (.int .i64 (((hU ((a0.getD s1.1.toNat default).2.2.2.2.2)).getD s3.1.toNat default).2.1)),.d (.int .i64 (((hU ((a0.getD s1.1.toNat default).2.2.2.2.2)).getD s3.1.toNat default).2.2.1)),.d (.int .i64 (((hU ((a0.getD s1.1.toNat default).2.2.2.2.2)).getD s3.1.toNat default).2.2.2.1)),.d (.int .i64 (((hU ((a0.getD s1.1.toNat default).2.2.2.2.2)).getD s3.1.toNat default).2.2.2.2.1)),.d (hE (((hU ((a0.getD s1.1.toNat default).2.2.2.2.2)).getD s3.1.toNat default).2.2.2.2.2))]),(6,[.d (.int .i64 ((a0.getD s1.1.toNat default).1)),.d (.int .i64 ((a0.getD s1.1.toNat default).2.1)),.d (.int .i64 ((a0.getD s1.1.toNat default).2.2.1)),.d (.int .i64 ((a0.getD s1.1.toNat default).2.2.2.1)),.d (.int .i64 ((a0.getD s1.1.toNat default).2.2.2.2.1)),.d (hE ((a0.getD s1.1.toNat default).2.2.2.2.2))])],[(2000300,.owned (encF 6 d_IIIIIH s6.2))]⟩) (b38_6 a0 s1 s3 s5) _ hq hr ?_)
              ·exact lf
              ·intro s6 hr
               unfold b38_6 at hr
               refine S3.gx [5,9] ?_
               refine gr ?_
               refine iW1 hr (fun hc hr=> ?_) fun hc hr=> ?_
               ·refine gr ?_
                refine S3.inl 3 [1,6,7,8,9,21,22] [] Tryz.func68 (by decide) rfl Tryz.ntmps68 (fun cx e=>drawn_ok ty_ok tb38_ok cx e) (some 27) rfl rfl rfl rfl (nL rfl) (nL rfl) ?_
                refine gs ?_
                refine gr ?_
                intro stop4 S4
                refine S4.gx [5,9] ?_
                refine gr ?_
                obtain ⟨q7,hq,hr⟩:=of_iter1 hr
                refine S4.sees [1,7,8,9] [(3,3),(200006,200006),(100006,100006),(6,6)] [(2000300,2000300)] ?_ (Stop.iter S4 (fun s7=>⟨[(1,.c (.clo 69 [.ref 3 0])),(7,.c (.d (encF 6 d_IIIIIH (hU (((hU (((hU ((a0.getD s1.1.toNat default).2.2.2.2.2)).getD s3.1.toNat default).2.2.2.2.2)).getD s5.1.toNat default).2.2.2.2.2))))),(8,.c (.d (.int .i64 ((hU (((hU (((hU ((a0.getD s1.1.toNat default).2.2.2.2.2)).getD s3.1.toNat default).2.2.2.2.2)).getD s5.1.toNat default).2.2.2.2.2)).length:Int)))),(9,.c (.d (.int .i64 s7.1)))],[(3,[.own 2000300]),(200006,[.d (.int .i64 (((hU (((hU ((a0.getD s1.1.toNat default).2.2.2.2.2)).getD s3.1.toNat default).2.2.2.2.2)).getD s5.1.toNat default).1)),.d (.int .i64 (((hU (((hU ((a0.getD s1.1.toNat default).2.2.2.2.2)).getD s3.1.toNat default).2.2.2.2.2)).getD s5.1.toNat default).2.1)),.d (.int .i64 (((hU (((hU ((a0.getD s1.1.toNat default).2.2.2.2.2)).getD s3.1.toNat default).2.2.2.2.2)).getD s5.1.toNat default).2.2.1)),.d (.int .i64 (((hU (((hU ((a0.getD s1.1.toNat default).2.2.2.2.2)).getD s3.1.toNat default).2.2.2.2.2)).getD s5.1.toNat default).2.2.2.1)),.d (.int .i64 (((hU (((hU ((a0.getD s1.1.toNat default).2.2.2.2.2)).getD s3.1.toNat default).2.2.2.2.2)).getD s5.1.toNat default).2.2.2.2.1)),.d (hE (((hU (((hU ((a0.getD s1.1.toNat default).2.2.2.2.2)).getD s3.1.toNat default).2.2.2.2.2)).getD s5.1.toNat default).2.2.2.2.2))]),(100006,[.d (.int .i64 (((hU ((a0.getD s1.1.toNat default).2.2.2.2.2)).getD s3.1.toNat default).1)),.d (.int .i64 (((hU ((a0.getD s1.1.toNat default).2.2.2.2.2)).getD s3.1.toNat default).2.1)),.d (.int .i64 (((hU ((a0.getD s1.1.toNat default).2.2.2.2.2)).getD s3.1.toNat default).2.2.1)),.d (.int .i64 (((hU ((a0.getD s1.1.toNat default).2.2.2.2.2)).getD s3.1.toNat default).2.2.2.1)),.d (.int .i64 (((hU ((a0.getD s1.1.toNat default).2.2.2.2.2)).getD s3.1.toNat default).2.2.2.2.1)),.d (hE (((hU ((a0.getD s1.1.toNat default).2.2.2.2.2)).getD s3.1.toNat default).2.2.2.2.2))]),(6,[.d (.int .i64 ((a0.getD s1.1.toNat default).1)),.d (.int .i64 ((a0.getD s1.1.toNat default).2.1)),.d (.int .i64 ((a0.getD s1.1.toNat default).2.2.1)),.d (.int .i64 ((a0.getD s1.1.toNat default).2.2.2.1)),.d (.int .i64 ((a0.getD s1.1.toNat default).2.2.2.2.1)),.d (hE ((a0.getD s1.1.toNat default).2.2.2.2.2))])],[(2000300,.owned (encF 6 d_IIIIIH s7.2))]⟩) (b38_7 a0 s1 s3 s5 s6) _ hq hr ?_)
                ·exact lf
                ·intro s7 hr
                 unfold b38_7 at hr
                 refine S4.gx [5,9] ?_
                 refine gr ?_
                 refine iW1 hr (fun hc hr=> ?_) fun hc hr=> ?_
                 ·obtain ⟨hg9,hr⟩:=of_guard1 hr
                  refine gr ?_
                  refine iW1 hr (fun hc hr=> ?_) fun hc hr=> ?_
                  ·refine gr ?_
                   refine S4.inl 2 [1,7,8,9] [.ref 3 0] Tryz.func69 (by decide) rfl Tryz.ntmps69 (fun cx e=>drawn_ok ty_ok tb38_ok cx e) (some 18) rfl rfl rfl rfl (nL rfl) (nL rfl) ?_
                   refine gs ?_
                   refine gr ?_
                   intro stop5 S5
                   refine S5.gx [] ?_
                   obtain ⟨hg7,hr⟩:=of_guard1 hr
                   obtain ⟨hg8,hr⟩:=of_guard1 hr
                   refine gr ?_
                   refine gr ?_
                   refine S4.gx [5,9] ?_
                   refine gr ?_
                   refine iW1 hr (fun hc hr=> ?_) fun hc hr=>D1 (S4.ss [1,7,8,9] [(3,3),(200006,200006),(100006,100006),(6,6)] [(8,2000300)]) hr
                   refine gr ?_
                   replace hr:=goodC_out hr
                   refine gr ?_
                   refine S3.gx [5,9] ?_
                   refine gr ?_
                   replace hr:=goodC_out hr
                   replace hr:=goodC_out hr
                   refine gr ?_
                   refine S2.gx [5,9] ?_
                   refine gr ?_
                   replace hr:=goodC_out hr
                   replace hr:=goodC_out hr
                   refine gr ?_
                   refine S1.gx [5,9] ?_
                   refine gr ?_
                   replace hr:=goodC_out hr
                   have hr:=of_out0 hr
                   refine gr ?_
                   refine S.gx [2] ?_
                   exact D0 hr
                  ·refine gr ?_
                   obtain ⟨q8,hq,hr⟩:=of_iter1 hr
                   refine S4.sees [1,6,7,8,9,21,22] [(3,3),(300006,300006),(200006,200006),(100006,100006),(6,6)] [(2000300,2000300)] ?_ (Stop.iter S4 (fun s8=>⟨[(1,.c (.clo 69 [.ref 3 0])),(6,.c (.ref 300006 0)),(7,.c (.d (encF 6 d_IIIIIH (hU (((hU (((hU ((a0.getD s1.1.toNat default).2.2.2.2.2)).getD s3.1.toNat default).2.2.2.2.2)).getD s5.1.toNat default).2.2.2.2.2))))),(8,.c (.d (.int .i64 ((hU (((hU (((hU ((a0.getD s1.1.toNat default).2.2.2.2.2)).getD s3.1.toNat default).2.2.2.2.2)).getD s5.1.toNat default).2.2.2.2.2)).length:Int)))),(9,.c (.d (.int .i64 s7.1))),(21,.c (.d (.int .i64 (((hU (((hU (((hU ((a0.getD s1.1.toNat default).2.2.2.2.2)).getD s3.1.toNat default).2.2.2.2.2)).getD s5.1.toNat default).2.2.2.2.2)).getD s7.1.toNat default).2.2.2.1)))),(22,.c (.d (.int .i64 0)))],[(3,[.own 2000300]),(300006,[.d (.int .i64 (((hU (((hU (((hU ((a0.getD s1.1.toNat default).2.2.2.2.2)).getD s3.1.toNat default).2.2.2.2.2)).getD s5.1.toNat default).2.2.2.2.2)).getD s7.1.toNat default).1)),.d (.int .i64 (((hU (((hU (((hU ((a0.getD s1.1.toNat default).2.2.2.2.2)).getD s3.1.toNat default).2.2.2.2.2)).getD s5.1.toNat default).2.2.2.2.2)).getD s7.1.toNat default).2.1)),.d (.int .i64 (((hU (((hU (((hU ((a0.getD s1.1.toNat default).2.2.2.2.2)).getD s3.1.toNat default).2.2.2.2.2)).getD s5.1.toNat default).2.2.2.2.2)).getD s7.1.toNat default).2.2.1)),.d (.int .i64 (((hU (((hU (((hU ((a0.getD s1.1.toNat default).2.2.2.2.2)).getD s3.1.toNat default).2.2.2.2.2)).getD s5.1.toNat default).2.2.2.2.2)).getD s7.1.toNat default).2.2.2.1)),.d (.int .i64 (((hU (((hU (((hU ((a0.getD s1.1.toNat default).2.2.2.2.2)).getD s3.1.toNat default).2.2.2.2.2)).getD s5.1.toNat default).2.2.2.2.2)).getD s7.1.toNat default).2.2.2.2.1)),.d (hE (((hU (((hU (((hU ((a0.getD s1.1.toNat default).2.2.2.2.2)).getD s3.1.toNat default).2.2.2.2.2)).getD s5.1.toNat default).2.2.2.2.2)).getD s7.1.toNat default).2.2.2.2.2))]),(200006,[.d (.int .i64 (((hU (((hU ((a0.getD s1.1.toNat default).2.2.2.2.2)).getD s3.1.toNat default).2.2.2.2.2)).getD s5.1.toNat default).1)),.d (.int .i64 (((hU (((hU ((a0.getD s1.1.toNat default).2.2.2.2.2)).getD s3.1.toNat default).2.2.2.2.2)).getD s5.1.toNat default).2.1)),.d (.int .i64 (((hU (((hU ((a0.getD s1.1.toNat default).2.2.2.2.2)).getD s3.1.toNat default).2.2.2.2.2)).getD s5.1.toNat default).2.2.1)),.d (.int .i64 (((hU (((hU ((a0.getD s1.1.toNat default).2.2.2.2.2)).getD s3.1.toNat default).2.2.2.2.2)).getD s5.1.toNat default).2.2.2.1)),.d (.int .i64 (((hU (((hU ((a0.getD s1.1.toNat default).2.2.2.2.2)).getD s3.1.toNat default).2.2.2.2.2)).getD s5.1.toNat default).2.2.2.2.1)),.d (hE (((hU (((hU ((a0.getD s1.1.toNat default).2.2.2.2.2)).getD s3.1.toNat default).2.2.2.2.2)).getD s5.1.toNat default).2.2.2.2.2))]),(100006,[.d (.int .i64 (((hU ((a0.getD s1.1.toNat default).2.2.2.2.2)).getD s3.1.toNat default).1)),.d (.int .i64 (((hU ((a0.getD s1.1.toNat default).2.2.2.2.2)).getD s3.1.toNat default).2.1)),.d (.int .i64 (((hU ((a0.getD s1.1.toNat default).2.2.2.2.2)).getD s3.1.toNat default).2.2.1)),.d (.int .i64 (((hU ((a0.getD s1.1.toNat default).2.2.2.2.2)).getD s3.1.toNat default).2.2.2.1)),.d (.int .i64 (((hU ((a0.getD s1.1.toNat default).2.2.2.2.2)).getD s3.1.toNat default).2.2.2.2.1)),.d (hE (((hU ((a0.getD s1.1.toNat default).2.2.2.2.2)).getD s3.1.toNat default).2.2.2.2.2))]),(6,[.d (.int .i64 ((a0.getD s1.1.toNat default).1)),.d (.int .i64 ((a0.getD s1.1.toNat default).2.1)),.d (.int .i64 ((a0.getD s1.1.toNat default).2.2.1)),.d (.int .i64 ((a0.getD s1.1.toNat default).2.2.2.1)),.d (.int .i64 ((a0.getD s1.1.toNat default).2.2.2.2.1)),.d (hE ((a0.getD s1.1.toNat default).2.2.2.2.2))])],[(2000300,.owned (encF 6 d_IIIIIH s7.2))]⟩) (b38_8 a0 s1 s3 s5 s7) _ hq hr ?_)
                   ·exact lf
                   ·intro s8 hr
                    unfold b38_8 at hr
                    refine S4.gx [5,9] ?_
                    refine gr ?_
                    refine iW1 hr (fun hc hr=> ?_) fun hc hr=> ?_
                    ·refine gr ?_
                     refine gr ?_
                     first | cases hr | exact hr.elim
                    ·refine gr ?_
                     replace hr:=goodC_out hr
                     exact D1 (S4.ss [1,7,8,9] [(3,3),(200006,200006),(100006,100006),(6,6)] [(2000300,2000300)]) hr
                 ·refine gr ?_
                  replace hr:=goodC_out hr
                  refine gr ?_
                  refine gr ?_
                  refine S3.gx [5,9] ?_
                  exact D1 (S3.ss [1,6,7,8,9,21,22] [(3,3),(200006,200006),(100006,100006),(6,6)] [(2000300,2000300)]) hr
               ·refine gr ?_
                replace hr:=goodC_out hr
                exact D1 (S3.ss [1,7,8,9] [(3,3),(100006,100006),(6,6)] [(2000300,2000300)]) hr
            ·refine gr ?_
             replace hr:=goodC_out hr
             refine gr ?_
             refine gr ?_
             refine S2.gx [5,9] ?_
             exact D1 (S2.ss [1,6,7,8,9,21,22] [(3,3),(100006,100006),(6,6)] [(2000300,2000300)]) hr
          ·refine gr ?_
           replace hr:=goodC_out hr
           exact D1 (S2.ss [1,7,8,9] [(3,3),(6,6)] [(2000300,2000300)]) hr
       ·refine gr ?_
        replace hr:=goodC_out hr
        refine gr ?_
        refine gr ?_
        refine S1.gx [5,9] ?_
        exact D1 (S1.ss [1,6,7,8,9,21,22] [(3,3),(6,6)] [(2000300,2000300)]) hr
     ·refine gr ?_
      replace hr:=goodC_out hr
      exact D1 (S1.ss [1,7,8,9] [(3,3)] [(2000300,2000300)]) hr
  ·refine gr ?_
   have hr:=of_out0 hr
   refine gr ?_
   refine gr ?_
   refine S.gx [2] ?_
   exact D0 hr
def r41 (a0:Int):Option (Bool):=
 some ((a0 == 2) || (a0 == 4))
@[go_sem] def T41:=qT4 qu2 false r41
theorem f41:FnFact Tryz.prog 41 T41.sp:=by
 refine vm .nil Tryz.func41 Tryz.ntmps41 fun a0 r hr stop S=> ?_
 rw [uq1,r41] at hr
 refine S.gx [] ?_
 repeat (first | refine gA ?_ | refine gB ?_)
 exact D0 hr
end Go.Proofs.YtkbdjphdhcgmaaaGreatDoor

/- Contracts of functions, written by wip/dec. -/
import Derived.Test.YtnepigpnlnmlmaaGreatDoorF00
import Derived.Test.YtnepigpnlnmlmaaGreatDoorF01
set_option linter.unusedVariables false
set_option linter.unusedSimpArgs false
set_option linter.constructorNameAsVariable false
set_option maxHeartbeats 4000000
set_option maxRecDepth 20000
namespace Go.Proofs.YtnepigpnlnmlmaaGreatDoor
open Go.Abs
section
variable {β:Type} [Inhabited β] (u:β→List RV) (al:Bool)
def qw15 (a0:L_I) (a1 a2:Int) (a3:L_II) (a4:L_LIIE) (a5:L_II) (a6:L_LIIE):List Arg:=[.c (encF 1 d_I a0),.clo 274 [[.int .i64 a1,.int .i64 a2,encF 2 d_II a3,encF 1 d_LIIE a4,encF 2 d_II a5,encF 1 d_LIIE a6]]]
def qd15:List Arg→L_I×Int×Int×L_II×L_LIIE×L_II×L_LIIE
 | [.c c0,.clo _ [[c1,c2,c3,c4,c5,c6]]]=>(decF g_I c0,dInt c1,dInt c2,decF g_II c3,decF g_LIIE c4,decF g_II c5,decF g_LIIE c6)
 | _=>default
def qT15 (r:L_I→Int→Int→L_II→L_LIIE→L_II→L_LIIE→Option β):=mkT (u7 qw15) qd15 (u7 r) u al
attribute [go_sem] qw15 qd15 qT15
def qw16 (a0 a1:Int) (a2:L_II) (a3:L_LIIE) (a4:L_II) (a5:L_LIIE) (a6:L_I):List Arg:=[.agg [.int .i64 a0,.int .i64 a1,encF 2 d_II a2,encF 1 d_LIIE a3,encF 2 d_II a4,encF 1 d_LIIE a5],.c (encF 1 d_I a6)]
def qd16:List Arg→Int×Int×L_II×L_LIIE×L_II×L_LIIE×L_I
 | [.agg [c0,c1,c2,c3,c4,c5],.c c6]=>(dInt c0,dInt c1,decF g_II c2,decF g_LIIE c3,decF g_II c4,decF g_LIIE c5,decF g_I c6)
 | _=>default
def qT16 (r:Int→Int→L_II→L_LIIE→L_II→L_LIIE→L_I→Option β):=mkT (u7 qw16) qd16 (u7 r) u al
attribute [go_sem] qw16 qd16 qT16
def qw17 (a0 a1:Int) (a2:L_II) (a3:L_LIIE) (a4:L_II) (a5:L_LIIE) (a6 a7:L_I):List Arg:=[.agg [.int .i64 a0,.int .i64 a1,encF 2 d_II a2,encF 1 d_LIIE a3,encF 2 d_II a4,encF 1 d_LIIE a5],.agg [encF 1 d_I a6,encF 1 d_I a7]]
def qd17:List Arg→Int×Int×L_II×L_LIIE×L_II×L_LIIE×L_I×L_I
 | [.agg [c0,c1,c2,c3,c4,c5],.agg [c6,c7]]=>(dInt c0,dInt c1,decF g_II c2,decF g_LIIE c3,decF g_II c4,decF g_LIIE c5,decF g_I c6,decF g_I c7)
 | _=>default
def qT17 (r:Int→Int→L_II→L_LIIE→L_II→L_LIIE→L_I→L_I→Option β):=mkT (u8 qw17) qd17 (u8 r) u al
attribute [go_sem] qw17 qd17 qT17
def qu9 (v:Int×Int×L_II×L_LIIE×L_I×L_I×L_II×Int×Int×Int):List RV:=[.agg [.d (.int .i64 v.1),.d (.int .i64 v.2.1),.d (encF 2 d_II v.2.2.1),.d (encF 1 d_LIIE v.2.2.2.1),.d (encF 1 d_I v.2.2.2.2.1),.d (encF 1 d_I v.2.2.2.2.2.1),.d (encF 2 d_II v.2.2.2.2.2.2.1),.d (.int .i64 v.2.2.2.2.2.2.2.1),.d (.int .i64 v.2.2.2.2.2.2.2.2.1)],.c (.d (.int .i64 v.2.2.2.2.2.2.2.2.2))]
attribute [go_sem] qu9
end
def b253_1 (a0:L_II):Bd ((List (Int×Int))×Int) L_II:=fun s1=>
 if (decide (s1.2<(a0.length:Int)))=true then
  if 0≤s1.2∧s1.2<(a0.length:Int) then
   if (s1.1.length+1)*16≤140737488355328∧s1.1.length+1≤9223372036854775807 then
    .next (s1.1++[((a0.getD s1.2.toNat default).1,(a0.getD s1.2.toNat default).2)],IntKind.i64.wrap (s1.2+1))
    else .out none
   else .out none
  else .out (some s1.1)
def r253 (a0:L_II):Option (L_II):=
 iterC (b253_1 a0) 1000000000 ([],0)
@[go_sem] def T253:=qT5 qu5 false r253
theorem f253:FnFact Tryz.prog 253 T253.sp:=by
 refine vm .nil Tryz.func253 Tryz.ntmps253 fun a0 r hr stop S=> ?_
 rw [uq1,r253] at hr
 refine S.gx [] ?_
 refine gr ?_
 refine S.own0 3 1000300 2 rfl rfl ?_
 refine S.li [3,6,7,8] [] [(1000300,1000300)] (fun s1=>⟨[sO 3 1000300,(6,.c (.d (encF 2 d_II a0))),sI 7 (a0.length:Int),sI 8 s1.2],[],[(1000300,.owned (encF 2 d_II s1.1))]⟩) (b253_1 a0) (fun q=>q=r) hr rfl ?_
 intro s1 hr
 unfold b253_1 at hr
 refine S.gx [] ?_
 exact D1 (S.ss [3,6,7,8] [] [(19,1000300)]) hr
def b193_1 (x2 x3:Int) (x1:L_II) (x0:L_LIIE) (v2:L_II):Bd (Int×(List (L_II))) (Int×Int×L_II×L_LIIE×L_II×L_LIIE×Int):=fun s1=>
 if (decide (s1.1<(x0.length:Int)))=true then
  if 0≤s1.1∧s1.1<(x0.length:Int) then
   bindC (r250 (x0.getD s1.1.toNat default)) fun v3=>
    if (s1.2.length+1)*24≤140737488355328∧s1.2.length+1≤9223372036854775807 then
     .next (IntKind.i64.wrap (s1.1+1),s1.2++[v3])
     else .out none
   else .out none
  else .out (some (x2,x3,x1,x0,v2,s1.2,0))
def r193 (x2 x3:Int) (x1:L_II) (x0:L_LIIE):Option (Int×Int×L_II×L_LIIE×L_II×L_LIIE×Int):=
 (r135 x2 x3 x1 x0).bind fun v1=>
  if (v1.2 != 0)=true then
   some (0,0,[],[],[],[],v1.2)
   else (r253 x1).bind fun v2=>
    iterC (b193_1 x2 x3 x1 x0 v2) 1000000000 (0,[])
@[go_sem] def T193:=qT12 qu8 true r193
@[go_sem] def tb193 (k:Nat):=lk [(135,T135.sp),(250,T250.sp),(253,T253.sp)] k
theorem f193:FnFact Tryz.prog 193 T193.sp:=by
 refine vm (tb:=tb193) (.cons f135 (.cons f250 (.cons f253 .nil))) Tryz.func193 Tryz.ntmps193 fun ⟨x2,x3,x1,x0⟩ r hr stop S=> ?_
 rw [uq4,r193] at hr
 refine S.gx [] ?_
 obtain ⟨v1,hv1,hr⟩:=of_bind0 hr
 refine gb hv1 ?_
 refine iW hr (fun hc hr=>D0 hr) fun hc hr=> ?_
 obtain ⟨v2,hv2,hr⟩:=of_bind0 hr
 refine gb hv2 ?_
 refine S.own0b 6 5 2000605 1 rfl rfl (nL rfl) rfl ?_
 refine S.li [2,6,24,25,26] [(2,2),(6,6)] [(2000605,2000605),(21,21)] (fun s1=>⟨[sR 2 2,sR 6 6,(24,.c (.d (encF 1 d_LIIE x0))),sI 25 (x0.length:Int),sI 26 s1.1],[(2,[iC 0,iC 0,.nils,.nils,.nils,.nils]),(6,[iC x2,iC x3,.d (encF 2 d_II x1),.d (encF 1 d_LIIE x0),.own 21,.own 2000605])],[(2000605,.owned (encF 1 d_LIIE s1.2)),(21,.owned (encF 2 d_II v2))]⟩) (b193_1 x2 x3 x1 x0 v2) (fun q=>q=r) hr rfl ?_
 intro s1 hr
 unfold b193_1 at hr
 refine S.gx [] ?_
 exact D1 (S.ss [2,6,24,25,26] [(2,2),(6,6)] [(35,2000605),(21,21)]) hr
def r223 (x1 x2:Int) (x3:L_II) (x4:L_LIIE) (x0:L_II) (x5:L_LIIE) (a1:Int):Option (Bool):=
 if 0≤0∧0<(x0.length:Int) then
  if 0≤IntKind.i64.wrap ((x0.length:Int) - 1)∧IntKind.i64.wrap ((x0.length:Int) - 1)<(x0.length:Int) then
   (r190 a1 ((x0.getD 0 default).1) ((x0.getD (IntKind.i64.wrap ((x0.length:Int) - 1)).toNat default).1)).bind fun v1=>
    some v1
   else none
  else none
@[go_sem] def T223:=qT13 qu2 false r223
@[go_sem] def tb223 (k:Nat):=lk [(190,T190.sp)] k
theorem f223:FnFact Tryz.prog 223 T223.sp:=by
 refine vm (tb:=tb223) (.cons f190 .nil) Tryz.func223 Tryz.ntmps223 fun ⟨x1,x2,x3,x4,x0,x5,a1⟩ r hr stop S=> ?_
 rw [uq7,r223] at hr
 refine S.gx [] ?_
 exact D0 hr
def r274 (a0 x0 x1:Int) (x2:L_II) (x3:L_LIIE) (x4:L_II) (x5:L_LIIE):Option (Bool):=
 (r223 x0 x1 x2 x3 x4 x5 a0).bind fun v1=>
  some (!v1)
@[go_sem] def T274:=qT14 qu2 false r274
@[go_sem] def tb274 (k:Nat):=lk [(223,T223.sp)] k
theorem f274:FnFact Tryz.prog 274 T274.sp:=by
 refine vm (tb:=tb274) (.cons f223 .nil) Tryz.func274 Tryz.ntmps274 fun ⟨a0,x0,x1,x2,x3,x4,x5⟩ r hr stop S=> ?_
 rw [uq7,r274] at hr
 refine S.gx [] ?_
 exact D0 hr
def b197_1 (a0:L_I) (x0 x1:Int) (x2:L_II) (x3:L_LIIE) (x4:L_II) (x5:L_LIIE):Bd Int Int:=fun s1=>
 if (decide (s1<(a0.length:Int)))=true then
  if 0≤s1∧s1<(a0.length:Int) then
   bindC (r274 (a0.getD s1.toNat default) x0 x1 x2 x3 x4 x5) fun v1=>
    if v1=true then
     .out (some s1)
     else .next (IntKind.i64.wrap (s1+1))
   else .out none
  else .out (some (-1))
def r197 (a0:L_I) (x0 x1:Int) (x2:L_II) (x3:L_LIIE) (x4:L_II) (x5:L_LIIE):Option (Int):=
 iterC (b197_1 a0 x0 x1 x2 x3 x4 x5) 1000000000 0
@[go_sem] def T197:=qT15 qu3 false r197
@[go_sem] def tb197 (k:Nat):=lk [(274,T274.sp)] k
theorem f197:FnFact Tryz.prog 197 T197.sp:=by
 refine vm (tb:=tb197) (.cons f274 .nil) Tryz.func197 Tryz.ntmps197 fun ⟨a0,x0,x1,x2,x3,x4,x5⟩ r hr stop S=> ?_
 rw [uq7,r197] at hr
 refine S.gx [] ?_
 refine gr ?_
 refine S.li [0,1,7,8] [] [] (fun s1=>⟨[(0,.c (.d (encF 1 d_I a0))),(1,.c (.clo 274 [.sptr [.int .i64 x0,.int .i64 x1,encF 2 d_II x2,encF 1 d_LIIE x3,encF 2 d_II x4,encF 1 d_LIIE x5] 0])),sI 7 (a0.length:Int),sI 8 s1],[],[]⟩) (b197_1 a0 x0 x1 x2 x3 x4 x5) (fun q=>q=r) hr rfl ?_
 intro s1 hr
 unfold b197_1 at hr
 refine S.gx [] ?_
 exact D1 (S.ss [0,1,7,8] [] []) hr
def r215 (x0 x1:Int) (x2:L_II) (x3:L_LIIE) (x4:L_II) (x5:L_LIIE) (a1:L_I):Option (Int×Int):=
 if ((a1.length:Int) != x0)=true then
  some (0,10)
  else (r197 a1 x0 x1 x2 x3 x4 x5).bind fun v1=>
   if (decide (v1≥0))=true then
    some (v1,2)
    else some (0,0)
@[go_sem] def T215:=qT16 qu4 false r215
@[go_sem] def tb215 (k:Nat):=lk [(197,T197.sp)] k
theorem f215:FnFact Tryz.prog 215 T215.sp:=by
 refine vm (tb:=tb215) (.cons f197 .nil) Tryz.func215 Tryz.ntmps215 fun ⟨x0,x1,x2,x3,x4,x5,a1⟩ r hr stop S=> ?_
 rw [uq7,r215] at hr
 refine S.gx [] ?_
 exact D0 hr
def b194_1 (x0 x1:L_I):Bd Int (Int×Int):=fun s1=>
 if (decide (s1<(x0.length:Int)))=true then
  if 0≤s1∧s1<(x0.length:Int) then
   if 0≤s1∧s1<(x1.length:Int) then
    if (decide ((x0.getD s1.toNat default)>(x1.getD s1.toNat default)))=true then
     .out (some (s1,9))
     else .next (IntKind.i64.wrap (s1+1))
    else .out none
   else .out none
  else .out (some (0,0))
def r194 (x2 x3:Int) (x4:L_II) (x5:L_LIIE) (x6:L_II) (x7:L_LIIE) (x0 x1:L_I):Option (Int×Int):=
 (r215 x2 x3 x4 x5 x6 x7 x0).bind fun v1=>
  if (v1.2 != 0)=true then
   some (v1.1,v1.2)
   else (r215 x2 x3 x4 x5 x6 x7 x1).bind fun v2=>
    if (v2.2 != 0)=true then
     some (v2.1,v2.2)
     else iterC (b194_1 x0 x1) 1000000000 0
@[go_sem] def T194:=qT17 qu4 false r194
@[go_sem] def tb194 (k:Nat):=lk [(215,T215.sp)] k
theorem f194:FnFact Tryz.prog 194 T194.sp:=by
 refine vm (tb:=tb194) (.cons f215 .nil) Tryz.func194 Tryz.ntmps194 fun ⟨x2,x3,x4,x5,x6,x7,x0,x1⟩ r hr stop S=> ?_
 rw [uq8,r194] at hr
 refine S.gx [] ?_
 obtain ⟨v1,hv1,hr⟩:=of_bind0 hr
 refine gb hv1 ?_
 refine iW hr (fun hc hr=>D0 hr) fun hc hr=> ?_
 obtain ⟨v2,hv2,hr⟩:=of_bind0 hr
 refine gb hv2 ?_
 refine iW hr (fun hc hr=>D0 hr) fun hc hr=> ?_
 refine gr ?_
 refine S.li [3,35,36,37] [(3,3)] [] (fun s1=>⟨[sR 3 3,(35,.c (.d (encF 1 d_I x0))),sI 36 (x0.length:Int),sI 37 s1],[(3,[.d (encF 1 d_I x0),.d (encF 1 d_I x1)])],[]⟩) (b194_1 x0 x1) (fun q=>q=r) hr rfl ?_
 intro s1 hr
 unfold b194_1 at hr
 refine S.gx [] ?_
 exact D1 (S.ss [3,35,36,37] [(3,3)] []) hr
def r136 (x0 x1:Int) (x2:L_II) (x3:L_LIIE) (x4 x5:L_I):Option (Int×Int):=
 (r193 x0 x1 x2 x3).bind fun v1=>
  if (v1.2.2.2.2.2.2 != 0)=true then
   some (0,v1.2.2.2.2.2.2)
   else (r194 v1.1 v1.2.1 v1.2.2.1 v1.2.2.2.1 v1.2.2.2.2.1 v1.2.2.2.2.2.1 x4 x5).bind fun v2=>
    some (v2.1,v2.2)
@[go_sem] def T136:=qT18 qu4 false r136
@[go_sem] def tb136 (k:Nat):=lk [(193,T193.sp),(194,T194.sp)] k
theorem f136:FnFact Tryz.prog 136 T136.sp:=by
 refine vm (tb:=tb136) (.cons f193 (.cons f194 .nil)) Tryz.func136 Tryz.ntmps136 fun ⟨x0,x1,x2,x3,x4,x5⟩ r hr stop S=> ?_
 rw [uq6,r136] at hr
 refine S.gx [] ?_
 exact D0 hr
def r65 (a0:Bool) (a1:Int):Option (Int):=
 if a0=true then
  some 0
  else some a1
@[go_sem] def T65:=qT2 qu3 false r65
theorem f65:FnFact Tryz.prog 65 T65.sp:=by
 refine vm .nil Tryz.func65 Tryz.ntmps65 fun ⟨a0,a1⟩ r hr stop S=> ?_
 rw [uq2,r65] at hr
 refine S.gx [] ?_
 exact D0 hr
def b64_1 (a0:L_I):Bd Int Int:=fun s1=>
 if (decide (s1<(a0.length:Int)))=true then
  if 0≤s1∧s1<(a0.length:Int) then
   if ((a0.getD s1.toNat default) != 0)=true then
    .out (some (a0.getD s1.toNat default))
    else .next (IntKind.i64.wrap (s1+1))
   else .out none
  else .out (some 0)
def r64 (a0:L_I):Option (Int):=
 iterC (b64_1 a0) 1000000000 0
@[go_sem] def T64:=qT3 qu3 false r64
theorem f64:FnFact Tryz.prog 64 T64.sp:=by
 refine vm .nil Tryz.func64 Tryz.ntmps64 fun a0 r hr stop S=> ?_
 rw [uq1,r64] at hr
 refine S.gx [] ?_
 refine gr ?_
 refine S.li [5,6,7] [] [] (fun s1=>⟨[(5,.c (.d (encF 1 d_I a0))),sI 6 (a0.length:Int),sI 7 s1],[],[]⟩) (b64_1 a0) (fun q=>q=r) hr rfl ?_
 intro s1 hr
 unfold b64_1 at hr
 refine S.gx [] ?_
 exact D1 (S.ss [5,6,7] [] []) hr
def r71 (a0 a1 a2:Int):Option (Bool):=
 some ((decide (a1≤a0)) && (decide (a0≤a2)))
@[go_sem] def T71:=qT1 qu2 false r71
theorem f71:FnFact Tryz.prog 71 T71.sp:=by
 refine vm .nil Tryz.func71 Tryz.ntmps71 fun ⟨a0,a1,a2⟩ r hr stop S=> ?_
 rw [uq3,r71] at hr
 refine S.gx [] ?_
 repeat (first | refine gA ?_ | refine gB ?_)
 exact D0 hr
def r137 (a0:Int):Option (Bool):=
 (r71 a0 0 1000).bind fun v1=>
  some v1
@[go_sem] def T137:=qT4 qu2 false r137
@[go_sem] def tb137 (k:Nat):=lk [(71,T71.sp)] k
theorem f137:FnFact Tryz.prog 137 T137.sp:=by
 refine vm (tb:=tb137) (.cons f71 .nil) Tryz.func137 Tryz.ntmps137 fun a0 r hr stop S=> ?_
 rw [uq1,r137] at hr
 refine S.gx [] ?_
 exact D0 hr
def b79_1 (x1:L_LIIE) (x0:L_II) (x2 x3:Int):Bd Int (Int×Int):=fun s1=>
 if (decide (s1<(x0.length:Int)))=true then
  if 0≤s1∧s1<(x0.length:Int) then
   bindC (r137 ((x0.getD s1.toNat default).1)) fun v5=>
    if v5=true→(r137 ((x0.getD s1.toNat default).2)).isSome=true then
     bindC (r65 (v5 && ((r137 ((x0.getD s1.toNat default).2)).getD default)) 2) fun v6=>
      bindC (r65 (decide (((x0.getD s1.toNat default).1)≤((x0.getD s1.toNat default).2))) 9) fun v7=>
       bindC (r64 [v6,v7]) fun v8=>
        if (v8 != 0)=true then
         .out (some (s1,v8))
         else .next (IntKind.i64.wrap (s1+1))
     else .out none
   else .out none
  else .out ((r71 x2 0 (IntKind.i64.wrap ((x1.length:Int) - 1))).bind fun v11=>
   (r65 v11 6).bind fun v12=>
    (r71 x3 0 4).bind fun v13=>
     (r65 v13 2).bind fun v14=>
      (r64 [v12,v14]).bind fun v15=>
       some (0,v15))
def r79 (x4 x5:Int) (x6:L_II) (x1:L_LIIE) (x7 x8:L_I) (x0:L_II) (x2 x3:Int):Option (Int×Int):=
 (r135 x4 x5 x6 x1).bind fun v1=>
  (r136 x4 x5 x6 x1 x7 x8).bind fun v2=>
   (r65 ((x0.length:Int) == x4) 10).bind fun v3=>
    (r64 [v1.2,v2.2,v3]).bind fun v4=>
     if (v4 != 0)=true then
      some (0,v4)
      else iterC (b79_1 x1 x0 x2 x3) 1000000000 0
@[go_sem] def T79:=qT19 qu4 false r79
@[go_sem] def tb79 (k:Nat):=lk [(64,T64.sp),(65,T65.sp),(71,T71.sp),(135,T135.sp),(136,T136.sp),(137,T137.sp)] k
theorem f79:FnFact Tryz.prog 79 T79.sp:=by
 refine vm (tb:=tb79) (.cons f64 (.cons f65 (.cons f71 (.cons f135 (.cons f136 (.cons f137 .nil)))))) Tryz.func79 Tryz.ntmps79 fun ⟨x4,x5,x6,x1,x7,x8,x0,x2,x3⟩ r hr stop S=> ?_
 rw [uq9,r79] at hr
 refine S.gx [4,12] ?_
 obtain ⟨v1,hv1,hr⟩:=of_bind0 hr
 obtain ⟨v2,hv2,hr⟩:=of_bind0 hr
 obtain ⟨v3,hv3,hr⟩:=of_bind0 hr
 obtain ⟨v4,hv4,hr⟩:=of_bind0 hr
 refine gb hv1 ?_
 refine gb hv2 ?_
 refine gb hv3 ?_
 refine gb hv4 ?_
 refine S.prune [1,8] ?_
 refine S.gw [12] ?_
 refine iW hr (fun hc hr=>D0 hr) fun hc hr=> ?_
 refine gr ?_
 refine S.li [1,9,43,44,45] [(1,1)] [] (fun s1=>⟨[sR 1 1,(9,.c (.clo 137 [])),(43,.c (.d (encF 2 d_II x0))),sI 44 (x0.length:Int),sI 45 s1],[(1,[iC x4,iC x5,.d (encF 2 d_II x6),.d (encF 1 d_LIIE x1),.d (encF 1 d_I x7),.d (encF 1 d_I x8),.d (encF 2 d_II x0),iC x2,iC x3])],[]⟩) (b79_1 x1 x0 x2 x3) (fun q=>q=r) hr rfl ?_
 intro s1 hr
 unfold b79_1 at hr
 refine S.gw [4,12] ?_
 refine iW1 hr (fun hc hr=> ?_) fun hc hr=>D0 hr
 obtain ⟨hg9,hr⟩:=of_guard1 hr
 obtain ⟨v5,hv5,hr⟩:=of_bind1 hr
 obtain ⟨hg10,hr⟩:=of_guard1 hr
 obtain ⟨v6,hv6,hr⟩:=of_bind1 hr
 obtain ⟨v7,hv7,hr⟩:=of_bind1 hr
 obtain ⟨v8,hv8,hr⟩:=of_bind1 hr
 try simp only [hv5,hv6,hv7,hv8,Option.getD_some,Option.isSome_some,true_and,and_assoc]
 repeat (first | refine gG hg10 ?_ | refine gA ?_ | refine gB ?_)
 refine iW1 hr (fun hc hr=> ?_) fun hc hr=>D1 (S.ss [1,9,43,44,45] [(1,1)] []) hr
 refine gr ?_
 refine S.prune [10,12] ?_
 refine S.gx [4] ?_
 exact D0 hr
def r116 (x0 x1:Int) (x2:L_II) (x3:L_LIIE) (x4 x5:L_I) (x6:L_II) (x7 x8:Int):Option (Int×Int×L_II×L_LIIE×L_I×L_I×L_II×Int×Int×Int):=
 (r79 x0 x1 x2 x3 x4 x5 x6 x7 x8).bind fun v1=>
  some (x0,x1,x2,x3,x4,x5,x6,x7,x8,v1.2)
@[go_sem] def T116:=qT19 qu9 true r116
@[go_sem] def tb116 (k:Nat):=lk [(79,T79.sp)] k
theorem f116:FnFact Tryz.prog 116 T116.sp:=by
 refine vm (tb:=tb116) (.cons f79 .nil) Tryz.func116 Tryz.ntmps116 fun ⟨x0,x1,x2,x3,x4,x5,x6,x7,x8⟩ r hr stop S=> ?_
 rw [uq9,r116] at hr
 refine S.gx [] ?_
 exact D0 hr
def b178_8 (a0:L_IIIIIH) (s1 s3 s5 s7:Int×(List (Int×Int×Int×Int×Int×Hl))):Bd Unit (Ctl (Int×(List (Int×Int×Int×Int×Int×Hl))) (Ctl (Int×(List (Int×Int×Int×Int×Int×Hl))) (Ctl (Int×(List (Int×Int×Int×Int×Int×Hl))) (Ctl (Int×(List (Int×Int×Int×Int×Int×Hl))) (Ctl (Int×(List (Int×Int×Int×Int×Int×Hl))) (Ctl (Int×(List (Int×Int×Int×Int×Int×Hl))) (Ctl (Int×(List (Int×Int×Int×Int×Int×Hl))) (L_IIIIIH)))))))):=fun s8=>
 if (decide (0<(((hU (((hU (((hU ((a0.getD s1.1.toNat default).2.2.2.2.2)).getD s3.1.toNat default).2.2.2.2.2)).getD s5.1.toNat default).2.2.2.2.2)).getD s7.1.toNat default).2.2.2.1)))=true then
  .out none
  else .out (some (.next (IntKind.i64.wrap (s7.1+1),s7.2)))
def b178_7 (a0:L_IIIIIH) (s1 s3 s5 s6:Int×(List (Int×Int×Int×Int×Int×Hl))):Bd (Int×(List (Int×Int×Int×Int×Int×Hl))) (Ctl (Int×(List (Int×Int×Int×Int×Int×Hl))) (Ctl (Int×(List (Int×Int×Int×Int×Int×Hl))) (Ctl (Int×(List (Int×Int×Int×Int×Int×Hl))) (Ctl (Int×(List (Int×Int×Int×Int×Int×Hl))) (Ctl (Int×(List (Int×Int×Int×Int×Int×Hl))) (Ctl (Int×(List (Int×Int×Int×Int×Int×Hl))) (L_IIIIIH))))))):=fun s7=>
 if (decide (s7.1<((hU (((hU (((hU ((a0.getD s1.1.toNat default).2.2.2.2.2)).getD s3.1.toNat default).2.2.2.2.2)).getD s5.1.toNat default).2.2.2.2.2)).length:Int)))=true then
  if 0≤s7.1∧s7.1<((hU (((hU (((hU ((a0.getD s1.1.toNat default).2.2.2.2.2)).getD s3.1.toNat default).2.2.2.2.2)).getD s5.1.toNat default).2.2.2.2.2)).length:Int) then
   if ((((hU (((hU (((hU ((a0.getD s1.1.toNat default).2.2.2.2.2)).getD s3.1.toNat default).2.2.2.2.2)).getD s5.1.toNat default).2.2.2.2.2)).getD s7.1.toNat default).1) != 5)=true then
    if (s7.2.length+1)*64≤140737488355328∧s7.2.length+1≤9223372036854775807 then
     if 0≤(s7.2.length:Int)∧(s7.2.length:Int)<((s7.2.length+1):Int) then
      if (!(decide (((s7.2.length+1):Int)≤60)))=true then
       .out (some (.out (some (.out (some (.out (some (.out (some (.out (some (.out (some ((s7.2++[(0,0,0,0,0,Hl.nil)]).set s7.2.length (((hU (((hU (((hU ((a0.getD s1.1.toNat default).2.2.2.2.2)).getD s3.1.toNat default).2.2.2.2.2)).getD s5.1.toNat default).2.2.2.2.2)).getD s7.1.toNat default).1,((hU (((hU (((hU ((a0.getD s1.1.toNat default).2.2.2.2.2)).getD s3.1.toNat default).2.2.2.2.2)).getD s5.1.toNat default).2.2.2.2.2)).getD s7.1.toNat default).2.1,((hU (((hU (((hU ((a0.getD s1.1.toNat default).2.2.2.2.2)).getD s3.1.toNat default).2.2.2.2.2)).getD s5.1.toNat default).2.2.2.2.2)).getD s7.1.toNat default).2.2.1,((hU (((hU (((hU ((a0.getD s1.1.toNat default).2.2.2.2.2)).getD s3.1.toNat default).2.2.2.2.2)).getD s5.1.toNat default).2.2.2.2.2)).getD s7.1.toNat default).2.2.2.1,((hU (((hU (((hU ((a0.getD s1.1.toNat default).2.2.2.2.2)).getD s3.1.toNat default).2.2.2.2.2)).getD s5.1.toNat default).2.2.2.2.2)).getD s7.1.toNat default).2.2.2.2.1,((hU (((hU (((hU ((a0.getD s1.1.toNat default).2.2.2.2.2)).getD s3.1.toNat default).2.2.2.2.2)).getD s5.1.toNat default).2.2.2.2.2)).getD s7.1.toNat default).2.2.2.2.2)))))))))))))))
       else .next (IntKind.i64.wrap (s7.1+1),(s7.2++[(0,0,0,0,0,Hl.nil)]).set s7.2.length (((hU (((hU (((hU ((a0.getD s1.1.toNat default).2.2.2.2.2)).getD s3.1.toNat default).2.2.2.2.2)).getD s5.1.toNat default).2.2.2.2.2)).getD s7.1.toNat default).1,((hU (((hU (((hU ((a0.getD s1.1.toNat default).2.2.2.2.2)).getD s3.1.toNat default).2.2.2.2.2)).getD s5.1.toNat default).2.2.2.2.2)).getD s7.1.toNat default).2.1,((hU (((hU (((hU ((a0.getD s1.1.toNat default).2.2.2.2.2)).getD s3.1.toNat default).2.2.2.2.2)).getD s5.1.toNat default).2.2.2.2.2)).getD s7.1.toNat default).2.2.1,((hU (((hU (((hU ((a0.getD s1.1.toNat default).2.2.2.2.2)).getD s3.1.toNat default).2.2.2.2.2)).getD s5.1.toNat default).2.2.2.2.2)).getD s7.1.toNat default).2.2.2.1,((hU (((hU (((hU ((a0.getD s1.1.toNat default).2.2.2.2.2)).getD s3.1.toNat default).2.2.2.2.2)).getD s5.1.toNat default).2.2.2.2.2)).getD s7.1.toNat default).2.2.2.2.1,((hU (((hU (((hU ((a0.getD s1.1.toNat default).2.2.2.2.2)).getD s3.1.toNat default).2.2.2.2.2)).getD s5.1.toNat default).2.2.2.2.2)).getD s7.1.toNat default).2.2.2.2.2))
      else .out none
     else .out none
    else (iterC (b178_8 a0 s1 s3 s5 s7) 1000000000 ()).getD (.out none)
   else .out none
  else .out (some (.next (IntKind.i64.wrap (s6.1+1),s7.2)))
def b178_6 (a0:L_IIIIIH) (s1 s3 s5:Int×(List (Int×Int×Int×Int×Int×Hl))):Bd (Int×(List (Int×Int×Int×Int×Int×Hl))) (Ctl (Int×(List (Int×Int×Int×Int×Int×Hl))) (Ctl (Int×(List (Int×Int×Int×Int×Int×Hl))) (Ctl (Int×(List (Int×Int×Int×Int×Int×Hl))) (Ctl (Int×(List (Int×Int×Int×Int×Int×Hl))) (Ctl (Int×(List (Int×Int×Int×Int×Int×Hl))) (L_IIIIIH)))))):=fun s6=>
 if (decide (s6.1<(((hU (((hU ((a0.getD s1.1.toNat default).2.2.2.2.2)).getD s3.1.toNat default).2.2.2.2.2)).getD s5.1.toNat default).2.2.2.1)))=true then
  (iterC (b178_7 a0 s1 s3 s5 s6) 1000000000 (0,s6.2)).getD (.out none)
  else .out (some (.next (IntKind.i64.wrap (s5.1+1),s6.2)))
def b178_5 (a0:L_IIIIIH) (s1 s3 s4:Int×(List (Int×Int×Int×Int×Int×Hl))):Bd (Int×(List (Int×Int×Int×Int×Int×Hl))) (Ctl (Int×(List (Int×Int×Int×Int×Int×Hl))) (Ctl (Int×(List (Int×Int×Int×Int×Int×Hl))) (Ctl (Int×(List (Int×Int×Int×Int×Int×Hl))) (Ctl (Int×(List (Int×Int×Int×Int×Int×Hl))) (L_IIIIIH))))):=fun s5=>
 if (decide (s5.1<((hU (((hU ((a0.getD s1.1.toNat default).2.2.2.2.2)).getD s3.1.toNat default).2.2.2.2.2)).length:Int)))=true then
  if 0≤s5.1∧s5.1<((hU (((hU ((a0.getD s1.1.toNat default).2.2.2.2.2)).getD s3.1.toNat default).2.2.2.2.2)).length:Int) then
   if ((((hU (((hU ((a0.getD s1.1.toNat default).2.2.2.2.2)).getD s3.1.toNat default).2.2.2.2.2)).getD s5.1.toNat default).1) != 5)=true then
    if (s5.2.length+1)*64≤140737488355328∧s5.2.length+1≤9223372036854775807 then
     if 0≤(s5.2.length:Int)∧(s5.2.length:Int)<((s5.2.length+1):Int) then
      if (!(decide (((s5.2.length+1):Int)≤60)))=true then
       .out (some (.out (some (.out (some (.out (some (.out (some ((s5.2++[(0,0,0,0,0,Hl.nil)]).set s5.2.length (((hU (((hU ((a0.getD s1.1.toNat default).2.2.2.2.2)).getD s3.1.toNat default).2.2.2.2.2)).getD s5.1.toNat default).1,((hU (((hU ((a0.getD s1.1.toNat default).2.2.2.2.2)).getD s3.1.toNat default).2.2.2.2.2)).getD s5.1.toNat default).2.1,((hU (((hU ((a0.getD s1.1.toNat default).2.2.2.2.2)).getD s3.1.toNat default).2.2.2.2.2)).getD s5.1.toNat default).2.2.1,((hU (((hU ((a0.getD s1.1.toNat default).2.2.2.2.2)).getD s3.1.toNat default).2.2.2.2.2)).getD s5.1.toNat default).2.2.2.1,((hU (((hU ((a0.getD s1.1.toNat default).2.2.2.2.2)).getD s3.1.toNat default).2.2.2.2.2)).getD s5.1.toNat default).2.2.2.2.1,((hU (((hU ((a0.getD s1.1.toNat default).2.2.2.2.2)).getD s3.1.toNat default).2.2.2.2.2)).getD s5.1.toNat default).2.2.2.2.2)))))))))))
       else .next (IntKind.i64.wrap (s5.1+1),(s5.2++[(0,0,0,0,0,Hl.nil)]).set s5.2.length (((hU (((hU ((a0.getD s1.1.toNat default).2.2.2.2.2)).getD s3.1.toNat default).2.2.2.2.2)).getD s5.1.toNat default).1,((hU (((hU ((a0.getD s1.1.toNat default).2.2.2.2.2)).getD s3.1.toNat default).2.2.2.2.2)).getD s5.1.toNat default).2.1,((hU (((hU ((a0.getD s1.1.toNat default).2.2.2.2.2)).getD s3.1.toNat default).2.2.2.2.2)).getD s5.1.toNat default).2.2.1,((hU (((hU ((a0.getD s1.1.toNat default).2.2.2.2.2)).getD s3.1.toNat default).2.2.2.2.2)).getD s5.1.toNat default).2.2.2.1,((hU (((hU ((a0.getD s1.1.toNat default).2.2.2.2.2)).getD s3.1.toNat default).2.2.2.2.2)).getD s5.1.toNat default).2.2.2.2.1,((hU (((hU ((a0.getD s1.1.toNat default).2.2.2.2.2)).getD s3.1.toNat default).2.2.2.2.2)).getD s5.1.toNat default).2.2.2.2.2))
      else .out none
     else .out none
    else (iterC (b178_6 a0 s1 s3 s5) 1000000000 (0,s5.2)).getD (.out none)
   else .out none
  else .out (some (.next (IntKind.i64.wrap (s4.1+1),s5.2)))
def b178_4 (a0:L_IIIIIH) (s1 s3:Int×(List (Int×Int×Int×Int×Int×Hl))):Bd (Int×(List (Int×Int×Int×Int×Int×Hl))) (Ctl (Int×(List (Int×Int×Int×Int×Int×Hl))) (Ctl (Int×(List (Int×Int×Int×Int×Int×Hl))) (Ctl (Int×(List (Int×Int×Int×Int×Int×Hl))) (L_IIIIIH)))):=fun s4=>
 if (decide (s4.1<(((hU ((a0.getD s1.1.toNat default).2.2.2.2.2)).getD s3.1.toNat default).2.2.2.1)))=true then
  (iterC (b178_5 a0 s1 s3 s4) 1000000000 (0,s4.2)).getD (.out none)
  else .out (some (.next (IntKind.i64.wrap (s3.1+1),s4.2)))
def b178_3 (a0:L_IIIIIH) (s1 s2:Int×(List (Int×Int×Int×Int×Int×Hl))):Bd (Int×(List (Int×Int×Int×Int×Int×Hl))) (Ctl (Int×(List (Int×Int×Int×Int×Int×Hl))) (Ctl (Int×(List (Int×Int×Int×Int×Int×Hl))) (L_IIIIIH))):=fun s3=>
 if (decide (s3.1<((hU ((a0.getD s1.1.toNat default).2.2.2.2.2)).length:Int)))=true then
  if 0≤s3.1∧s3.1<((hU ((a0.getD s1.1.toNat default).2.2.2.2.2)).length:Int) then
   if ((((hU ((a0.getD s1.1.toNat default).2.2.2.2.2)).getD s3.1.toNat default).1) != 5)=true then
    if (s3.2.length+1)*64≤140737488355328∧s3.2.length+1≤9223372036854775807 then
     if 0≤(s3.2.length:Int)∧(s3.2.length:Int)<((s3.2.length+1):Int) then
      if (!(decide (((s3.2.length+1):Int)≤60)))=true then
       .out (some (.out (some (.out (some ((s3.2++[(0,0,0,0,0,Hl.nil)]).set s3.2.length (((hU ((a0.getD s1.1.toNat default).2.2.2.2.2)).getD s3.1.toNat default).1,((hU ((a0.getD s1.1.toNat default).2.2.2.2.2)).getD s3.1.toNat default).2.1,((hU ((a0.getD s1.1.toNat default).2.2.2.2.2)).getD s3.1.toNat default).2.2.1,((hU ((a0.getD s1.1.toNat default).2.2.2.2.2)).getD s3.1.toNat default).2.2.2.1,((hU ((a0.getD s1.1.toNat default).2.2.2.2.2)).getD s3.1.toNat default).2.2.2.2.1,((hU ((a0.getD s1.1.toNat default).2.2.2.2.2)).getD s3.1.toNat default).2.2.2.2.2)))))))
       else .next (IntKind.i64.wrap (s3.1+1),(s3.2++[(0,0,0,0,0,Hl.nil)]).set s3.2.length (((hU ((a0.getD s1.1.toNat default).2.2.2.2.2)).getD s3.1.toNat default).1,((hU ((a0.getD s1.1.toNat default).2.2.2.2.2)).getD s3.1.toNat default).2.1,((hU ((a0.getD s1.1.toNat default).2.2.2.2.2)).getD s3.1.toNat default).2.2.1,((hU ((a0.getD s1.1.toNat default).2.2.2.2.2)).getD s3.1.toNat default).2.2.2.1,((hU ((a0.getD s1.1.toNat default).2.2.2.2.2)).getD s3.1.toNat default).2.2.2.2.1,((hU ((a0.getD s1.1.toNat default).2.2.2.2.2)).getD s3.1.toNat default).2.2.2.2.2))
      else .out none
     else .out none
    else (iterC (b178_4 a0 s1 s3) 1000000000 (0,s3.2)).getD (.out none)
   else .out none
  else .out (some (.next (IntKind.i64.wrap (s2.1+1),s3.2)))
def b178_2 (a0:L_IIIIIH) (s1:Int×(List (Int×Int×Int×Int×Int×Hl))):Bd (Int×(List (Int×Int×Int×Int×Int×Hl))) (Ctl (Int×(List (Int×Int×Int×Int×Int×Hl))) (L_IIIIIH)):=fun s2=>
 if (decide (s2.1<((a0.getD s1.1.toNat default).2.2.2.1)))=true then
  (iterC (b178_3 a0 s1 s2) 1000000000 (0,s2.2)).getD (.out none)
  else .out (some (.next (IntKind.i64.wrap (s1.1+1),s2.2)))
def b178_1 (a0:L_IIIIIH):Bd (Int×(List (Int×Int×Int×Int×Int×Hl))) L_IIIIIH:=fun s1=>
 if (decide (s1.1<(a0.length:Int)))=true then
  if 0≤s1.1∧s1.1<(a0.length:Int) then
   if (((a0.getD s1.1.toNat default).1) != 5)=true then
    if (s1.2.length+1)*64≤140737488355328∧s1.2.length+1≤9223372036854775807 then
     if 0≤(s1.2.length:Int)∧(s1.2.length:Int)<((s1.2.length+1):Int) then
      if (!(decide (((s1.2.length+1):Int)≤60)))=true then
       .out (some ((s1.2++[(0,0,0,0,0,Hl.nil)]).set s1.2.length ((a0.getD s1.1.toNat default).1,(a0.getD s1.1.toNat default).2.1,(a0.getD s1.1.toNat default).2.2.1,(a0.getD s1.1.toNat default).2.2.2.1,(a0.getD s1.1.toNat default).2.2.2.2.1,(a0.getD s1.1.toNat default).2.2.2.2.2)))
       else .next (IntKind.i64.wrap (s1.1+1),(s1.2++[(0,0,0,0,0,Hl.nil)]).set s1.2.length ((a0.getD s1.1.toNat default).1,(a0.getD s1.1.toNat default).2.1,(a0.getD s1.1.toNat default).2.2.1,(a0.getD s1.1.toNat default).2.2.2.1,(a0.getD s1.1.toNat default).2.2.2.2.1,(a0.getD s1.1.toNat default).2.2.2.2.2))
      else .out none
     else .out none
    else (iterC (b178_2 a0 s1) 1000000000 (0,s1.2)).getD (.out none)
   else .out none
  else .out (some s1.2)
def r178 (a0:L_IIIIIH):Option (L_IIIIIH):=
 iterC (b178_1 a0) 1000000000 (0,[])
@[go_sem] def T178:=qT20 qu1 true r178
def tb178:Fns:=lk []
theorem tb178_ok:FnsOk Tryz.prog tb178:=FnsOk.nil
theorem f178:FnFact Tryz.prog 178 T178.sp:=by
 refine vm (tb:=tb178) .nil Tryz.func178 Tryz.ntmps178 fun a0 r hr stop S=> ?_
 rw [uq1,r178] at hr
 refine S.gx [2] ?_
 refine gr ?_
 refine S.inl 2 [3] [] Tryz.func236 (by decide) rfl Tryz.ntmps236 (fun cx e=>drawn_ok ty_ok tb178_ok cx e) (some 6) rfl rfl rfl rfl (nL rfl) (nL rfl) ?_
 refine gs ?_
 refine gr ?_
 intro stop1 S1
 refine S1.gw [5,9] ?_
 refine S1.own0b 3 0 2000300 6 rfl rfl (nL rfl) rfl ?_
 refine S1.li [1,7,8,9] [(3,3)] [(2000300,2000300)] (fun s1=>⟨[(1,.c (.clo 237 [.ref 3 0])),(7,.c (.d (encF 6 d_IIIIIH a0))),sI 8 (a0.length:Int),sI 9 s1.1],[(3,[.own 2000300])],[(2000300,.owned (encF 6 d_IIIIIH s1.2))]⟩) (b178_1 a0) (fun q=>q=r) hr rfl ?_
 intro s1 hr
 unfold b178_1 at hr
 refine S1.gw [5,9] ?_
 refine iW1 hr (fun hc hr=> ?_) fun hc hr=> ?_
 ·obtain ⟨hg12,hr⟩:=of_guard1 hr
  refine gr ?_
  refine iW1 hr (fun hc hr=> ?_) fun hc hr=> ?_
  ·refine gr ?_
   refine S1.inl 2 [1,7,8,9] [.ref 3 0] Tryz.func237 (by decide) rfl Tryz.ntmps237 (fun cx e=>drawn_ok ty_ok tb178_ok cx e) (some 18) rfl rfl rfl rfl (nL rfl) (nL rfl) ?_
   refine gs ?_
   refine gr ?_
   intro stop2 S2
   refine S2.gx [] ?_
   obtain ⟨hg1,hr⟩:=of_guard1 hr
   obtain ⟨hg2,hr⟩:=of_guard1 hr
   refine S1.gw [5,9] ?_
   refine iW1 hr (fun hc hr=> ?_) fun hc hr=>D1 (S1.ss [1,7,8,9] [(3,3)] [(8,2000300)]) hr
   refine gr ?_
   have hr:=of_out0 hr
   refine S.gx [2] ?_
   exact D0 hr
  ·refine gr ?_
   obtain ⟨q2,hq,hr⟩:=of_iter1 hr
   refine S1.li [1,6,7,8,9,21,22] [(3,3),(6,6)] [(2000300,2000300)] (fun s2=>⟨[(1,.c (.clo 237 [.ref 3 0])),sR 6 6,(7,.c (.d (encF 6 d_IIIIIH a0))),sI 8 (a0.length:Int),sI 9 s1.1,sI 21 ((a0.getD s1.1.toNat default).2.2.2.1),sI 22 s2.1],[(3,[.own 2000300]),(6,[iC ((a0.getD s1.1.toNat default).1),iC ((a0.getD s1.1.toNat default).2.1),iC ((a0.getD s1.1.toNat default).2.2.1),iC ((a0.getD s1.1.toNat default).2.2.2.1),iC ((a0.getD s1.1.toNat default).2.2.2.2.1),.d (hE ((a0.getD s1.1.toNat default).2.2.2.2.2))])],[(2000300,.owned (encF 6 d_IIIIIH s2.2))]⟩) (b178_2 a0 s1) _ hq hr ?_
   intro s2 hr
   unfold b178_2 at hr
   refine S1.gw [5,9] ?_
   refine iW1 hr (fun hc hr=> ?_) fun hc hr=> ?_
   ·refine gr ?_
    refine S1.inl 3 [1,6,7,8,9,21,22] [] Tryz.func236 (by decide) rfl Tryz.ntmps236 (fun cx e=>drawn_ok ty_ok tb178_ok cx e) (some 27) rfl rfl rfl rfl (nL rfl) (nL rfl) ?_
    refine gs ?_
    refine gr ?_
    intro stop2 S2
    refine S2.gw [5,9] ?_
    obtain ⟨q3,hq,hr⟩:=of_iter1 hr
    refine S2.li [1,7,8,9] [(3,3),(6,6)] [(2000300,2000300)] (fun s3=>⟨[(1,.c (.clo 237 [.ref 3 0])),(7,.c (.d (encF 6 d_IIIIIH (hU ((a0.getD s1.1.toNat default).2.2.2.2.2))))),sI 8 ((hU ((a0.getD s1.1.toNat default).2.2.2.2.2)).length:Int),sI 9 s3.1],[(3,[.own 2000300]),(6,[iC ((a0.getD s1.1.toNat default).1),iC ((a0.getD s1.1.toNat default).2.1),iC ((a0.getD s1.1.toNat default).2.2.1),iC ((a0.getD s1.1.toNat default).2.2.2.1),iC ((a0.getD s1.1.toNat default).2.2.2.2.1),.d (hE ((a0.getD s1.1.toNat default).2.2.2.2.2))])],[(2000300,.owned (encF 6 d_IIIIIH s3.2))]⟩) (b178_3 a0 s1 s2) _ hq hr ?_
    intro s3 hr
    unfold b178_3 at hr
    refine S2.gw [5,9] ?_
    refine iW1 hr (fun hc hr=> ?_) fun hc hr=> ?_
    ·obtain ⟨hg11,hr⟩:=of_guard1 hr
     refine gr ?_
     refine iW1 hr (fun hc hr=> ?_) fun hc hr=> ?_
     ·refine gr ?_
      refine S2.inl 2 [1,7,8,9] [.ref 3 0] Tryz.func237 (by decide) rfl Tryz.ntmps237 (fun cx e=>drawn_ok ty_ok tb178_ok cx e) (some 18) rfl rfl rfl rfl (nL rfl) (nL rfl) ?_
      refine gs ?_
      refine gr ?_
      intro stop3 S3
      refine S3.gx [] ?_
      obtain ⟨hg3,hr⟩:=of_guard1 hr
      obtain ⟨hg4,hr⟩:=of_guard1 hr
      refine S2.gw [5,9] ?_
      refine iW1 hr (fun hc hr=> ?_) fun hc hr=>D1 (S2.ss [1,7,8,9] [(3,3),(6,6)] [(8,2000300)]) hr
      refine gr ?_
      replace hr:=goodC_out hr
      refine S1.gw [5,9] ?_
      replace hr:=goodC_out hr
      have hr:=of_out0 hr
      refine S.gx [2] ?_
      exact D0 hr
     ·refine gr ?_
      obtain ⟨q4,hq,hr⟩:=of_iter1 hr
      refine S2.li [1,6,7,8,9,21,22] [(3,3),(100006,100006),(6,6)] [(2000300,2000300)] (fun s4=>⟨[(1,.c (.clo 237 [.ref 3 0])),sR 6 100006,(7,.c (.d (encF 6 d_IIIIIH (hU ((a0.getD s1.1.toNat default).2.2.2.2.2))))),sI 8 ((hU ((a0.getD s1.1.toNat default).2.2.2.2.2)).length:Int),sI 9 s3.1,sI 21 (((hU ((a0.getD s1.1.toNat default).2.2.2.2.2)).getD s3.1.toNat default).2.2.2.1),sI 22 s4.1],[(3,[.own 2000300]),(100006,[iC (((hU ((a0.getD s1.1.toNat default).2.2.2.2.2)).getD s3.1.toNat default).1),iC (((hU ((a0.getD s1.1.toNat default).2.2.2.2.2)).getD s3.1.toNat default).2.1),iC (((hU ((a0.getD s1.1.toNat default).2.2.2.2.2)).getD s3.1.toNat default).2.2.1),iC (((hU ((a0.getD s1.1.toNat default).2.2.2.2.2)).getD s3.1.toNat default).2.2.2.1),iC (((hU ((a0.getD s1.1.toNat default).2.2.2.2.2)).getD s3.1.toNat default).2.2.2.2.1),.d (hE (((hU ((a0.getD s1.1.toNat default).2.2.2.2.2)).getD s3.1.toNat default).2.2.2.2.2))]),(6,[iC ((a0.getD s1.1.toNat default).1),iC ((a0.getD s1.1.toNat default).2.1),iC ((a0.getD s1.1.toNat default).2.2.1),iC ((a0.getD s1.1.toNat default).2.2.2.1),iC ((a0.getD s1.1.toNat default).2.2.2.2.1),.d (hE ((a0.getD s1.1.toNat default).2.2.2.2.2))])],[(2000300,.owned (encF 6 d_IIIIIH s4.2))]⟩) (b178_4 a0 s1 s3) _ hq hr ?_
      intro s4 hr
      unfold b178_4 at hr
      refine S2.gw [5,9] ?_
      refine iW1 hr (fun hc hr=> ?_) fun hc hr=> ?_
      ·refine gr ?_
       refine S2.inl 3 [1,6,7,8,9,21,22] [] Tryz.func236 (by decide) rfl Tryz.ntmps236 (fun cx e=>drawn_ok ty_ok tb178_ok cx e) (some 27) rfl rfl rfl rfl (nL rfl) (nL rfl) ?_
       refine gs ?_
       refine gr ?_
       intro stop3 S3
       refine S3.gw [5,9] ?_
       obtain ⟨q5,hq,hr⟩:=of_iter1 hr
       refine S3.li [1,7,8,9] [(3,3),(100006,100006),(6,6)] [(2000300,2000300)] (fun s5=>⟨[(1,.c (.clo 237 [.ref 3 0])),(7,.c (.d (encF 6 d_IIIIIH (hU (((hU ((a0.getD s1.1.toNat default).2.2.2.2.2)).getD s3.1.toNat default).2.2.2.2.2))))),sI 8 ((hU (((hU ((a0.getD s1.1.toNat default).2.2.2.2.2)).getD s3.1.toNat default).2.2.2.2.2)).length:Int),sI 9 s5.1],[(3,[.own 2000300]),(100006,[iC (((hU ((a0.getD s1.1.toNat default).2.2.2.2.2)).getD s3.1.toNat default).1),iC (((hU ((a0.getD s1.1.toNat default).2.2.2.2.2)).getD s3.1.toNat default).2.1),iC (((hU ((a0.getD s1.1.toNat default).2.2.2.2.2)).getD s3.1.toNat default).2.2.1),iC (((hU ((a0.getD s1.1.toNat default).2.2.2.2.2)).getD s3.1.toNat default).2.2.2.1),iC (((hU ((a0.getD s1.1.toNat default).2.2.2.2.2)).getD s3.1.toNat default).2.2.2.2.1),.d (hE (((hU ((a0.getD s1.1.toNat default).2.2.2.2.2)).getD s3.1.toNat default).2.2.2.2.2))]),(6,[iC ((a0.getD s1.1.toNat default).1),iC ((a0.getD s1.1.toNat default).2.1),iC ((a0.getD s1.1.toNat default).2.2.1),iC ((a0.getD s1.1.toNat default).2.2.2.1),iC ((a0.getD s1.1.toNat default).2.2.2.2.1),.d (hE ((a0.getD s1.1.toNat default).2.2.2.2.2))])],[(2000300,.owned (encF 6 d_IIIIIH s5.2))]⟩) (b178_5 a0 s1 s3 s4) _ hq hr ?_
       intro s5 hr
       unfold b178_5 at hr
       refine S3.gw [5,9] ?_
       refine iW1 hr (fun hc hr=> ?_) fun hc hr=> ?_
       ·obtain ⟨hg10,hr⟩:=of_guard1 hr
        refine gr ?_
        refine iW1 hr (fun hc hr=> ?_) fun hc hr=> ?_
        ·refine gr ?_
         refine S3.inl 2 [1,7,8,9] [.ref 3 0] Tryz.func237 (by decide) rfl Tryz.ntmps237 (fun cx e=>drawn_ok ty_ok tb178_ok cx e) (some 18) rfl rfl rfl rfl (nL rfl) (nL rfl) ?_
         refine gs ?_
         refine gr ?_
         intro stop4 S4
         refine S4.gx [] ?_
         obtain ⟨hg5,hr⟩:=of_guard1 hr
         obtain ⟨hg6,hr⟩:=of_guard1 hr
         refine S3.gw [5,9] ?_
         refine iW1 hr (fun hc hr=> ?_) fun hc hr=>D1 (S3.ss [1,7,8,9] [(3,3),(100006,100006),(6,6)] [(8,2000300)]) hr
         refine gr ?_
         replace hr:=goodC_out hr
         refine S2.gw [5,9] ?_
         replace hr:=goodC_out hr
         replace hr:=goodC_out hr
         refine S1.gw [5,9] ?_
         replace hr:=goodC_out hr
         have hr:=of_out0 hr
         refine S.gx [2] ?_
         exact D0 hr
        ·refine gr ?_
         obtain ⟨q6,hq,hr⟩:=of_iter1 hr
         refine S3.li [1,6,7,8,9,21,22] [(3,3),(200006,200006),(100006,100006),(6,6)] [(2000300,2000300)] (fun s6=>⟨[(1,.c (.clo 237 [.ref 3 0])),sR 6 200006,(7,.c (.d (encF 6 d_IIIIIH (hU (((hU ((a0.getD s1.1.toNat default).2.2.2.2.2)).getD s3.1.toNat default).2.2.2.2.2))))),sI 8 ((hU (((hU ((a0.getD s1.1.toNat default).2.2.2.2.2)).getD s3.1.toNat default).2.2.2.2.2)).length:Int),sI 9 s5.1,sI 21 (((hU (((hU ((a0.getD s1.1.toNat default).2.2.2.2.2)).getD s3.1.toNat default).2.2.2.2.2)).getD s5.1.toNat default).2.2.2.1),sI 22 s6.1],[(3,[.own 2000300]),(200006,[iC (((hU (((hU ((a0.getD s1.1.toNat default).2.2.2.2.2)).getD s3.1.toNat default).2.2.2.2.2)).getD s5.1.toNat default).1),iC (((hU (((hU ((a0.getD s1.1.toNat default).2.2.2.2.2)).getD s3.1.toNat default).2.2.2.2.2)).getD s5.1.toNat default).2.1),iC (((hU (((hU ((a0.getD s1.1.toNat default).2.2.2.2.2)).getD s3.1.toNat default).2.2.2.2.2)).getD s5.1.toNat default).2.2.1),iC (((hU (((hU ((a0.getD s1.1.toNat default).2.2.2.2.2)).getD s3.1.toNat default).2.2.2.2.2)).getD s5.1.toNat default).2.2.2.1),iC (((hU (((hU ((a0.getD s1.1.toNat default).2.2.2.2.2)).getD s3.1.toNat default).2.2.2.2.2)).getD s5.1.toNat default).2.2.2.2.1),.d (hE (((hU (((hU ((a0.getD s1.1.toNat default).2.2.2.2.2)).getD s3.1.toNat default).2.2.2.2.2)).getD s5.1.toNat default).2.2.2.2.2))]),(100006,[iC (((hU ((a0.getD s1.1.toNat default).2.2.2.2.2)).getD s3.1.toNat default).1),iC (((hU ((a0.getD s1.1.toNat default).2.2.2.2.2)).getD s3.1.toNat default).2.1),iC (((hU ((a0.getD s1.1.toNat default).2.2.2.2.2)).getD s3.1.toNat default).2.2.1),iC (((hU ((a0.getD s1.1.toNat default).2.2.2.2.2)).getD s3.1.toNat default).2.2.2.1),iC (((hU ((a0.getD s1.1.toNat default).2.2.2.2.2)).getD s3.1.toNat default).2.2.2.2.1),.d (hE (((hU ((a0.getD s1.1.toNat default).2.2.2.2.2)).getD s3.1.toNat default).2.2.2.2.2))]),(6,[iC ((a0.getD s1.1.toNat default).1),iC ((a0.getD s1.1.toNat default).2.1),iC ((a0.getD s1.1.toNat default).2.2.1),iC ((a0.getD s1.1.toNat default).2.2.2.1),iC ((a0.getD s1.1.toNat default).2.2.2.2.1),.d (hE ((a0.getD s1.1.toNat default).2.2.2.2.2))])],[(2000300,.owned (encF 6 d_IIIIIH s6.2))]⟩) (b178_6 a0 s1 s3 s5) _ hq hr ?_
         intro s6 hr
         unfold b178_6 at hr
         refine S3.gw [5,9] ?_
         refine iW1 hr (fun hc hr=> ?_) fun hc hr=> ?_
         ·refine gr ?_
          refine S3.inl 3 [1,6,7,8,9,21,22] [] Tryz.func236 (by decide) rfl Tryz.ntmps236 (fun cx e=>drawn_ok ty_ok tb178_ok cx e) (some 27) rfl rfl rfl rfl (nL rfl) (nL rfl) ?_
          refine gs ?_
          refine gr ?_
          intro stop4 S4
          refine S4.gw [5,9] ?_
          obtain ⟨q7,hq,hr⟩:=of_iter1 hr
          refine S4.li [1,7,8,9] [(3,3),(200006,200006),(100006,100006),(6,6)] [(2000300,2000300)] (fun s7=>⟨[(1,.c (.clo 237 [.ref 3 0])),(7,.c (.d (encF 6 d_IIIIIH (hU (((hU (((hU ((a0.getD s1.1.toNat default).2.2.2.2.2)).getD s3.1.toNat default).2.2.2.2.2)).getD s5.1.toNat default).2.2.2.2.2))))),sI 8 ((hU (((hU (((hU ((a0.getD s1.1.toNat default).2.2.2.2.2)).getD s3.1.toNat default).2.2.2.2.2)).getD s5.1.toNat default).2.2.2.2.2)).length:Int),sI 9 s7.1],[(3,[.own 2000300]),(200006,[iC (((hU (((hU ((a0.getD s1.1.toNat default).2.2.2.2.2)).getD s3.1.toNat default).2.2.2.2.2)).getD s5.1.toNat default).1),iC (((hU (((hU ((a0.getD s1.1.toNat default).2.2.2.2.2)).getD s3.1.toNat default).2.2.2.2.2)).getD s5.1.toNat default).2.1),iC (((hU (((hU ((a0.getD s1.1.toNat default).2.2.2.2.2)).getD s3.1.toNat default).2.2.2.2.2)).getD s5.1.toNat default).2.2.1),iC (((hU (((hU ((a0.getD s1.1.toNat default).2.2.2.2.2)).getD s3.1.toNat default).2.2.2.2.2)).getD s5.1.toNat default).2.2.2.1),iC (((hU (((hU ((a0.getD s1.1.toNat default).2.2.2.2.2)).getD s3.1.toNat default).2.2.2.2.2)).getD s5.1.toNat default).2.2.2.2.1),.d (hE (((hU (((hU ((a0.getD s1.1.toNat default).2.2.2.2.2)).getD s3.1.toNat default).2.2.2.2.2)).getD s5.1.toNat default).2.2.2.2.2))]),(100006,[iC (((hU ((a0.getD s1.1.toNat default).2.2.2.2.2)).getD s3.1.toNat default).1),iC (((hU ((a0.getD s1.1.toNat default).2.2.2.2.2)).getD s3.1.toNat default).2.1),iC (((hU ((a0.getD s1.1.toNat default).2.2.2.2.2)).getD s3.1.toNat default).2.2.1),iC (((hU ((a0.getD s1.1.toNat default).2.2.2.2.2)).getD s3.1.toNat default).2.2.2.1),iC (((hU ((a0.getD s1.1.toNat default).2.2.2.2.2)).getD s3.1.toNat default).2.2.2.2.1),.d (hE (((hU ((a0.getD s1.1.toNat default).2.2.2.2.2)).getD s3.1.toNat default).2.2.2.2.2))]),(6,[iC ((a0.getD s1.1.toNat default).1),iC ((a0.getD s1.1.toNat default).2.1),iC ((a0.getD s1.1.toNat default).2.2.1),iC ((a0.getD s1.1.toNat default).2.2.2.1),iC ((a0.getD s1.1.toNat default).2.2.2.2.1),.d (hE ((a0.getD s1.1.toNat default).2.2.2.2.2))])],[(2000300,.owned (encF 6 d_IIIIIH s7.2))]⟩) (b178_7 a0 s1 s3 s5 s6) _ hq hr ?_
          intro s7 hr
          unfold b178_7 at hr
          refine S4.gw [5,9] ?_
          refine iW1 hr (fun hc hr=> ?_) fun hc hr=> ?_
          ·obtain ⟨hg9,hr⟩:=of_guard1 hr
           refine gr ?_
           refine iW1 hr (fun hc hr=> ?_) fun hc hr=> ?_
           ·refine gr ?_
            refine S4.inl 2 [1,7,8,9] [.ref 3 0] Tryz.func237 (by decide) rfl Tryz.ntmps237 (fun cx e=>drawn_ok ty_ok tb178_ok cx e) (some 18) rfl rfl rfl rfl (nL rfl) (nL rfl) ?_
            refine gs ?_
            refine gr ?_
            intro stop5 S5
            refine S5.gx [] ?_
            obtain ⟨hg7,hr⟩:=of_guard1 hr
            obtain ⟨hg8,hr⟩:=of_guard1 hr
            refine S4.gw [5,9] ?_
            refine iW1 hr (fun hc hr=> ?_) fun hc hr=>D1 (S4.ss [1,7,8,9] [(3,3),(200006,200006),(100006,100006),(6,6)] [(8,2000300)]) hr
            refine gr ?_
            replace hr:=goodC_out hr
            refine S3.gw [5,9] ?_
            replace hr:=goodC_out hr
            replace hr:=goodC_out hr
            refine S2.gw [5,9] ?_
            replace hr:=goodC_out hr
            replace hr:=goodC_out hr
            refine S1.gw [5,9] ?_
            replace hr:=goodC_out hr
            have hr:=of_out0 hr
            refine S.gx [2] ?_
            exact D0 hr
           ·refine gr ?_
            obtain ⟨q8,hq,hr⟩:=of_iter1 hr
            refine S4.li [1,6,7,8,9,21,22] [(3,3),(300006,300006),(200006,200006),(100006,100006),(6,6)] [(2000300,2000300)] (fun s8=>⟨[(1,.c (.clo 237 [.ref 3 0])),sR 6 300006,(7,.c (.d (encF 6 d_IIIIIH (hU (((hU (((hU ((a0.getD s1.1.toNat default).2.2.2.2.2)).getD s3.1.toNat default).2.2.2.2.2)).getD s5.1.toNat default).2.2.2.2.2))))),sI 8 ((hU (((hU (((hU ((a0.getD s1.1.toNat default).2.2.2.2.2)).getD s3.1.toNat default).2.2.2.2.2)).getD s5.1.toNat default).2.2.2.2.2)).length:Int),sI 9 s7.1,sI 21 (((hU (((hU (((hU ((a0.getD s1.1.toNat default).2.2.2.2.2)).getD s3.1.toNat default).2.2.2.2.2)).getD s5.1.toNat default).2.2.2.2.2)).getD s7.1.toNat default).2.2.2.1),sI 22 0],[(3,[.own 2000300]),(300006,[iC (((hU (((hU (((hU ((a0.getD s1.1.toNat default).2.2.2.2.2)).getD s3.1.toNat default).2.2.2.2.2)).getD s5.1.toNat default).2.2.2.2.2)).getD s7.1.toNat default).1),iC (((hU (((hU (((hU ((a0.getD s1.1.toNat default).2.2.2.2.2)).getD s3.1.toNat default).2.2.2.2.2)).getD s5.1.toNat default).2.2.2.2.2)).getD s7.1.toNat default).2.1),iC (((hU (((hU (((hU ((a0.getD s1.1.toNat default).2.2.2.2.2)).getD s3.1.toNat default).2.2.2.2.2)).getD s5.1.toNat default).2.2.2.2.2)).getD s7.1.toNat default).2.2.1),iC (((hU (((hU (((hU ((a0.getD s1.1.toNat default).2.2.2.2.2)).getD s3.1.toNat default).2.2.2.2.2)).getD s5.1.toNat default).2.2.2.2.2)).getD s7.1.toNat default).2.2.2.1),iC (((hU (((hU (((hU ((a0.getD s1.1.toNat default).2.2.2.2.2)).getD s3.1.toNat default).2.2.2.2.2)).getD s5.1.toNat default).2.2.2.2.2)).getD s7.1.toNat default).2.2.2.2.1),.d (hE (((hU (((hU (((hU ((a0.getD s1.1.toNat default).2.2.2.2.2)).getD s3.1.toNat default).2.2.2.2.2)).getD s5.1.toNat default).2.2.2.2.2)).getD s7.1.toNat default).2.2.2.2.2))]),(200006,[iC (((hU (((hU ((a0.getD s1.1.toNat default).2.2.2.2.2)).getD s3.1.toNat default).2.2.2.2.2)).getD s5.1.toNat default).1),iC (((hU (((hU ((a0.getD s1.1.toNat default).2.2.2.2.2)).getD s3.1.toNat default).2.2.2.2.2)).getD s5.1.toNat default).2.1),iC (((hU (((hU ((a0.getD s1.1.toNat default).2.2.2.2.2)).getD s3.1.toNat default).2.2.2.2.2)).getD s5.1.toNat default).2.2.1),iC (((hU (((hU ((a0.getD s1.1.toNat default).2.2.2.2.2)).getD s3.1.toNat default).2.2.2.2.2)).getD s5.1.toNat default).2.2.2.1),iC (((hU (((hU ((a0.getD s1.1.toNat default).2.2.2.2.2)).getD s3.1.toNat default).2.2.2.2.2)).getD s5.1.toNat default).2.2.2.2.1),.d (hE (((hU (((hU ((a0.getD s1.1.toNat default).2.2.2.2.2)).getD s3.1.toNat default).2.2.2.2.2)).getD s5.1.toNat default).2.2.2.2.2))]),(100006,[iC (((hU ((a0.getD s1.1.toNat default).2.2.2.2.2)).getD s3.1.toNat default).1),iC (((hU ((a0.getD s1.1.toNat default).2.2.2.2.2)).getD s3.1.toNat default).2.1),iC (((hU ((a0.getD s1.1.toNat default).2.2.2.2.2)).getD s3.1.toNat default).2.2.1),iC (((hU ((a0.getD s1.1.toNat default).2.2.2.2.2)).getD s3.1.toNat default).2.2.2.1),iC (((hU ((a0.getD s1.1.toNat default).2.2.2.2.2)).getD s3.1.toNat default).2.2.2.2.1),.d (hE (((hU ((a0.getD s1.1.toNat default).2.2.2.2.2)).getD s3.1.toNat default).2.2.2.2.2))]),(6,[iC ((a0.getD s1.1.toNat default).1),iC ((a0.getD s1.1.toNat default).2.1),iC ((a0.getD s1.1.toNat default).2.2.1),iC ((a0.getD s1.1.toNat default).2.2.2.1),iC ((a0.getD s1.1.toNat default).2.2.2.2.1),.d (hE ((a0.getD s1.1.toNat default).2.2.2.2.2))])],[(2000300,.owned (encF 6 d_IIIIIH s7.2))]⟩) (b178_8 a0 s1 s3 s5 s7) _ hq hr ?_
            intro s8 hr
            unfold b178_8 at hr
            refine S4.gw [5,9] ?_
            refine iW1 hr (fun hc hr=> ?_) fun hc hr=> ?_
            ·refine gr ?_
             first | cases hr | exact hr.elim
            ·refine gr ?_
             replace hr:=goodC_out hr
             exact D1 (S4.ss [1,7,8,9] [(3,3),(200006,200006),(100006,100006),(6,6)] [(2000300,2000300)]) hr
          ·refine gr ?_
           replace hr:=goodC_out hr
           refine S3.gx [5,9] ?_
           exact D1 (S3.ss [1,6,7,8,9,21,22] [(3,3),(200006,200006),(100006,100006),(6,6)] [(2000300,2000300)]) hr
         ·refine gr ?_
          replace hr:=goodC_out hr
          exact D1 (S3.ss [1,7,8,9] [(3,3),(100006,100006),(6,6)] [(2000300,2000300)]) hr
       ·refine gr ?_
        replace hr:=goodC_out hr
        refine S2.gx [5,9] ?_
        exact D1 (S2.ss [1,6,7,8,9,21,22] [(3,3),(100006,100006),(6,6)] [(2000300,2000300)]) hr
      ·refine gr ?_
       replace hr:=goodC_out hr
       exact D1 (S2.ss [1,7,8,9] [(3,3),(6,6)] [(2000300,2000300)]) hr
    ·refine gr ?_
     replace hr:=goodC_out hr
     refine S1.gx [5,9] ?_
     exact D1 (S1.ss [1,6,7,8,9,21,22] [(3,3),(6,6)] [(2000300,2000300)]) hr
   ·refine gr ?_
    replace hr:=goodC_out hr
    exact D1 (S1.ss [1,7,8,9] [(3,3)] [(2000300,2000300)]) hr
 ·refine gr ?_
  have hr:=of_out0 hr
  refine S.gx [2] ?_
  exact D0 hr
def r68 (a0:Int):Option (Bool):=
 some ((a0 == 2) || (a0 == 4))
@[go_sem] def T68:=qT4 qu2 false r68
theorem f68:FnFact Tryz.prog 68 T68.sp:=by
 refine vm .nil Tryz.func68 Tryz.ntmps68 fun a0 r hr stop S=> ?_
 rw [uq1,r68] at hr
 refine S.gx [] ?_
 repeat (first | refine gA ?_ | refine gB ?_)
 exact D0 hr
end Go.Proofs.YtnepigpnlnmlmaaGreatDoor

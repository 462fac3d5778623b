/- Contracts of functions, written by wip/dec. -/
import Derived.Test.YtnepigpnlnmlmaaGreatDoorF00
import Derived.Test.YtnepigpnlnmlmaaGreatDoorF07
set_option linter.unusedVariables false
set_option linter.unusedSimpArgs false
set_option linter.constructorNameAsVariable false
set_option maxHeartbeats 4000000
set_option maxRecDepth 20000
namespace Go.Proofs.YtnepigpnlnmlmaaGreatDoor
open Go.Abs
section
variable {β:Type} [Inhabited β] (u:β→List RV) (al:Bool)
def qw52 (a0 a1 a2 a3 a4 a5:Int):List Arg:=[.agg [.int .i64 a0,.int .i64 a1,.int .i64 a2,.int .i64 a3,.int .i64 a4],.ptr [.int .i64 a5]]
def qd52:List Arg→Int×Int×Int×Int×Int×Int
 | [.agg [c0,c1,c2,c3,c4],.ptr [c5]]=>(dInt c0,dInt c1,dInt c2,dInt c3,dInt c4,dInt c5)
 | _=>default
def qT52 (r:Int→Int→Int→Int→Int→Int→Option β):=mkT (u6 qw52) qd52 (u6 r) u al
attribute [go_sem] qw52 qd52 qT52
def qw53 (a0:L_IIIII) (a1:Int):List Arg:=[.c (encF 5 d_IIIII a0),.clo 282 [[.int .i64 a1]]]
def qd53:List Arg→L_IIIII×Int
 | [.c c0,.clo _ [[c1]]]=>(decF g_IIIII c0,dInt c1)
 | _=>default
def qT53 (r:L_IIIII→Int→Option β):=mkT (u2 qw53) qd53 (u2 r) u al
attribute [go_sem] qw53 qd53 qT53
def qw54 (a0 a1 a2 a3 a4 a5 a6 a7 a8 a9 a10 a11 a12 a13 a14 a15 a16 a17 a18:Int):List Arg:=[.agg [.int .i64 a0,.int .i64 a1,.int .i64 a2,.int .i64 a3,.int .i64 a4,.int .i64 a5,.int .i64 a6,.int .i64 a7,.int .i64 a8,.int .i64 a9,.int .i64 a10,.int .i64 a11,.int .i64 a12,.int .i64 a13],.agg [.int .i64 a14,.int .i64 a15,.int .i64 a16,.int .i64 a17,.int .i64 a18]]
def qd54:List Arg→Int×Int×Int×Int×Int×Int×Int×Int×Int×Int×Int×Int×Int×Int×Int×Int×Int×Int×Int
 | [.agg [c0,c1,c2,c3,c4,c5,c6,c7,c8,c9,c10,c11,c12,c13],.agg [c14,c15,c16,c17,c18]]=>(dInt c0,dInt c1,dInt c2,dInt c3,dInt c4,dInt c5,dInt c6,dInt c7,dInt c8,dInt c9,dInt c10,dInt c11,dInt c12,dInt c13,dInt c14,dInt c15,dInt c16,dInt c17,dInt c18)
 | _=>default
def qT54 (r:Int→Int→Int→Int→Int→Int→Int→Int→Int→Int→Int→Int→Int→Int→Int→Int→Int→Int→Int→Option β):=mkT (u19 qw54) qd54 (u19 r) u al
attribute [go_sem] qw54 qd54 qT54
def qw55 (a0 a1 a2 a3:Int):List Arg:=[.agg [.int .i64 a0,.int .i64 a1,.int .i64 a2],.ptr [.int .i64 a3]]
def qd55:List Arg→Int×Int×Int×Int
 | [.agg [c0,c1,c2],.ptr [c3]]=>(dInt c0,dInt c1,dInt c2,dInt c3)
 | _=>default
def qT55 (r:Int→Int→Int→Int→Option β):=mkT (u4 qw55) qd55 (u4 r) u al
attribute [go_sem] qw55 qd55 qT55
def qw56 (a0:L_III) (a1:Int):List Arg:=[.c (encF 3 d_III a0),.clo 284 [[.int .i64 a1]]]
def qd56:List Arg→L_III×Int
 | [.c c0,.clo _ [[c1]]]=>(decF g_III c0,dInt c1)
 | _=>default
def qT56 (r:L_III→Int→Option β):=mkT (u2 qw56) qd56 (u2 r) u al
attribute [go_sem] qw56 qd56 qT56
def qw57 (a0 a1 a2 a3 a4 a5 a6 a7 a8 a9 a10 a11 a12 a13 a14 a15 a16:Int):List Arg:=[.agg [.int .i64 a0,.int .i64 a1,.int .i64 a2,.int .i64 a3,.int .i64 a4,.int .i64 a5,.int .i64 a6,.int .i64 a7,.int .i64 a8,.int .i64 a9,.int .i64 a10,.int .i64 a11,.int .i64 a12,.int .i64 a13],.agg [.int .i64 a14,.int .i64 a15,.int .i64 a16]]
def qd57:List Arg→Int×Int×Int×Int×Int×Int×Int×Int×Int×Int×Int×Int×Int×Int×Int×Int×Int
 | [.agg [c0,c1,c2,c3,c4,c5,c6,c7,c8,c9,c10,c11,c12,c13],.agg [c14,c15,c16]]=>(dInt c0,dInt c1,dInt c2,dInt c3,dInt c4,dInt c5,dInt c6,dInt c7,dInt c8,dInt c9,dInt c10,dInt c11,dInt c12,dInt c13,dInt c14,dInt c15,dInt c16)
 | _=>default
def qT57 (r:Int→Int→Int→Int→Int→Int→Int→Int→Int→Int→Int→Int→Int→Int→Int→Int→Int→Option β):=mkT (u17 qw57) qd57 (u17 r) u al
attribute [go_sem] qw57 qd57 qT57
def qw58 (a0 a1 a2:Int):List Arg:=[.agg [.int .i64 a0,.int .i64 a1],.ptr [.int .i64 a2]]
def qd58:List Arg→Int×Int×Int
 | [.agg [c0,c1],.ptr [c2]]=>(dInt c0,dInt c1,dInt c2)
 | _=>default
def qT58 (r:Int→Int→Int→Option β):=mkT (u3 qw58) qd58 (u3 r) u al
attribute [go_sem] qw58 qd58 qT58
def qw59 (a0:Int) (a1:Option (Int×Int)):List Arg:=[.c (.int .i64 a0),.ptr [encP d_II a1]]
def qd59:List Arg→Int×(Option (Int×Int))
 | [.c c0,.ptr [c1]]=>(dInt c0,decP g_II c1)
 | _=>default
def qT59 (r:Int→(Option (Int×Int))→Option β):=mkT (u2 qw59) qd59 (u2 r) u al
attribute [go_sem] qw59 qd59 qT59
def qw60 (a0:L_IIII) (a1:L_IIIII) (a2:L_III) (a3:L_II) (a4 a5 a6 a7 a8 a9 a10 a11 a12 a13 a14 a15 a16 a17 a18 a19 a20 a21 a22:Int):List Arg:=[.agg [encF 4 d_IIII a0,encF 5 d_IIIII a1,encF 3 d_III a2,encF 2 d_II a3,.int .i64 a4,.int .i64 a5,.int .i64 a6,.int .i64 a7],.agg [.int .i64 a8,.int .i64 a9,.int .i64 a10,.int .i64 a11,.int .i64 a12,.int .i64 a13,.int .i64 a14,.int .i64 a15,.int .i64 a16,.int .i64 a17,.int .i64 a18,.int .i64 a19,.int .i64 a20,.int .i64 a21],.c (.int .i64 a22)]
def qd60:List Arg→L_IIII×L_IIIII×L_III×L_II×Int×Int×Int×Int×Int×Int×Int×Int×Int×Int×Int×Int×Int×Int×Int×Int×Int×Int×Int
 | [.agg [c0,c1,c2,c3,c4,c5,c6,c7],.agg [c8,c9,c10,c11,c12,c13,c14,c15,c16,c17,c18,c19,c20,c21],.c c22]=>(decF g_IIII c0,decF g_IIIII c1,decF g_III c2,decF g_II c3,dInt c4,dInt c5,dInt c6,dInt c7,dInt c8,dInt c9,dInt c10,dInt c11,dInt c12,dInt c13,dInt c14,dInt c15,dInt c16,dInt c17,dInt c18,dInt c19,dInt c20,dInt c21,dInt c22)
 | _=>default
def qT60 (r:L_IIII→L_IIIII→L_III→L_II→Int→Int→Int→Int→Int→Int→Int→Int→Int→Int→Int→Int→Int→Int→Int→Int→Int→Int→Int→Option β):=mkT (u23 qw60) qd60 (u23 r) u al
attribute [go_sem] qw60 qd60 qT60
def qw61 (a0 a1 a2 a3 a4 a5 a6 a7 a8 a9 a10 a11 a12 a13 a14 a15 a16 a17 a18 a19 a20 a21 a22 a23 a24 a25 a26 a27:Int):List Arg:=[.agg [.int .i64 a0,.int .i64 a1,.int .i64 a2,.int .i64 a3,.int .i64 a4,.int .i64 a5,.int .i64 a6,.int .i64 a7,.int .i64 a8,.int .i64 a9,.int .i64 a10,.int .i64 a11,.int .i64 a12,.int .i64 a13],.agg [.int .i64 a14,.int .i64 a15,.int .i64 a16,.int .i64 a17,.int .i64 a18,.int .i64 a19,.int .i64 a20,.int .i64 a21,.int .i64 a22,.int .i64 a23,.int .i64 a24,.int .i64 a25,.int .i64 a26,.int .i64 a27]]
def qd61:List Arg→Int×Int×Int×Int×Int×Int×Int×Int×Int×Int×Int×Int×Int×Int×Int×Int×Int×Int×Int×Int×Int×Int×Int×Int×Int×Int×Int×Int
 | [.agg [c0,c1,c2,c3,c4,c5,c6,c7,c8,c9,c10,c11,c12,c13],.agg [c14,c15,c16,c17,c18,c19,c20,c21,c22,c23,c24,c25,c26,c27]]=>(dInt c0,dInt c1,dInt c2,dInt c3,dInt c4,dInt c5,dInt c6,dInt c7,dInt c8,dInt c9,dInt c10,dInt c11,dInt c12,dInt c13,dInt c14,dInt c15,dInt c16,dInt c17,dInt c18,dInt c19,dInt c20,dInt c21,dInt c22,dInt c23,dInt c24,dInt c25,dInt c26,dInt c27)
 | _=>default
def qT61 (r:Int→Int→Int→Int→Int→Int→Int→Int→Int→Int→Int→Int→Int→Int→Int→Int→Int→Int→Int→Int→Int→Int→Int→Int→Int→Int→Int→Int→Option β):=mkT (u28 qw61) qd61 (u28 r) u al
attribute [go_sem] qw61 qd61 qT61
def qw62 (a0:L_IIII) (a1:L_IIIII) (a2:L_III) (a3:L_II) (a4 a5 a6 a7 a8 a9 a10 a11 a12 a13 a14 a15 a16 a17 a18 a19 a20 a21 a22 a23:Int):List Arg:=[.agg [encF 4 d_IIII a0,encF 5 d_IIIII a1,encF 3 d_III a2,encF 2 d_II a3,.int .i64 a4,.int .i64 a5,.int .i64 a6,.int .i64 a7],.agg [.int .i64 a8,.int .i64 a9,.int .i64 a10,.int .i64 a11,.int .i64 a12,.int .i64 a13,.int .i64 a14,.int .i64 a15,.int .i64 a16,.int .i64 a17,.int .i64 a18,.int .i64 a19,.int .i64 a20,.int .i64 a21],.agg [.int .i64 a22,.int .i64 a23]]
def qd62:List Arg→L_IIII×L_IIIII×L_III×L_II×Int×Int×Int×Int×Int×Int×Int×Int×Int×Int×Int×Int×Int×Int×Int×Int×Int×Int×Int×Int
 | [.agg [c0,c1,c2,c3,c4,c5,c6,c7],.agg [c8,c9,c10,c11,c12,c13,c14,c15,c16,c17,c18,c19,c20,c21],.agg [c22,c23]]=>(decF g_IIII c0,decF g_IIIII c1,decF g_III c2,decF g_II c3,dInt c4,dInt c5,dInt c6,dInt c7,dInt c8,dInt c9,dInt c10,dInt c11,dInt c12,dInt c13,dInt c14,dInt c15,dInt c16,dInt c17,dInt c18,dInt c19,dInt c20,dInt c21,dInt c22,dInt c23)
 | _=>default
def qT62 (r:L_IIII→L_IIIII→L_III→L_II→Int→Int→Int→Int→Int→Int→Int→Int→Int→Int→Int→Int→Int→Int→Int→Int→Int→Int→Int→Int→Option β):=mkT (u24 qw62) qd62 (u24 r) u al
attribute [go_sem] qw62 qd62 qT62
def qu30 (v:(Option (Int×Int×Int×Int×Int))):List RV:=[.c (.d (encP d_IIIII v))]
attribute [go_sem] qu30
def qu31 (v:(Option (Int×Int×Int))):List RV:=[.c (.d (encP d_III v))]
attribute [go_sem] qu31
def qu32 (v:(Option (Int×Int))):List RV:=[.c (.d (encP d_II v))]
attribute [go_sem] qu32
end
def r282 (x0 x2 x3 x4 x5 x1:Int):Option (Bool):=
 some (decide (x0≥x1))
@[go_sem] def T282:=qT52 qu2 false r282
theorem f282:FnFact Tryz.prog 282 T282.sp:=by
 refine vm .nil Tryz.func282 Tryz.ntmps282 fun ⟨x0,x2,x3,x4,x5,x1⟩ r hr stop S=> ?_
 rw [uq6,r282] at hr
 refine S.gx [] ?_
 exact D0 hr
def b305_1 (a0:L_IIIII) (x0:Int):Bd Int Int:=fun s1=>
 if (decide (s1<(a0.length:Int)))=true then
  if 0≤s1∧s1<(a0.length:Int) then
   bindC (r282 ((a0.getD s1.toNat default).1) ((a0.getD s1.toNat default).2.1) ((a0.getD s1.toNat default).2.2.1) ((a0.getD s1.toNat default).2.2.2.1) ((a0.getD s1.toNat default).2.2.2.2) x0) fun v1=>
    if v1=true then
     .out (some s1)
     else .next (IntKind.i64.wrap (s1+1))
   else .out none
  else .out (some (-1))
def r305 (a0:L_IIIII) (x0:Int):Option (Int):=
 iterC (b305_1 a0 x0) 1000000000 0
@[go_sem] def T305:=qT53 qu3 false r305
@[go_sem] def tb305 (k:Nat):=lk [(282,T282.sp)] k
theorem f305:FnFact Tryz.prog 305 T305.sp:=by
 refine vm (tb:=tb305) (.cons f282 .nil) Tryz.func305 Tryz.ntmps305 fun ⟨a0,x0⟩ r hr stop S=> ?_
 rw [uq2,r305] at hr
 refine S.gx [] ?_
 refine gr ?_
 refine S.li [0,1,7,8] [] [] (fun s1=>⟨[(0,.c (.d (encF 5 d_IIIII a0))),(1,.c (.clo 282 [.sptr [.int .i64 x0] 0])),sI 7 (a0.length:Int),sI 8 s1],[],[]⟩) (b305_1 a0 x0) (fun q=>q=r) hr rfl ?_
 intro s1 hr
 unfold b305_1 at hr
 refine S.gx [] ?_
 exact D1 (S.ss [0,1,7,8] [] []) hr
def r228 (x1:L_IIII) (x0:L_IIIII) (x2:L_III) (x3:L_II) (x4 x5 x6 x7 a1:Int):Option ((Option (Int×Int×Int×Int×Int))):=
 (r305 x0 a1).bind fun v1=>
  if (decide (v1≥0))=true then
   if 0≤v1∧v1<(x0.length:Int) then
    some (some ((x0.getD v1.toNat default).1,(x0.getD v1.toNat default).2.1,(x0.getD v1.toNat default).2.2.1,(x0.getD v1.toNat default).2.2.2.1,(x0.getD v1.toNat default).2.2.2.2))
    else none
   else some none
@[go_sem] def T228:=qT49 qu30 true r228
@[go_sem] def tb228 (k:Nat):=lk [(305,T305.sp)] k
theorem tb228_ok:FnsOk Tryz.prog tb228:= .cons f305 .nil
theorem f228:FnFact Tryz.prog 228 T228.sp:=by
 refine vm (tb:=tb228) (.cons f305 .nil) Tryz.func228 Tryz.ntmps228 fun ⟨x1,x0,x2,x3,x4,x5,x6,x7,a1⟩ r hr stop S=> ?_
 rw [uq9,r228] at hr
 refine S.gx [1] ?_
 refine gr ?_
 refine S.inl 4 [4] [] Tryz.func281 (by decide) rfl Tryz.ntmps281 (fun cx e=>drawn_ok ty_ok tb228_ok cx e) (some 9) rfl rfl rfl rfl (nL rfl) (nL rfl) ?_
 refine gs ?_
 refine gr ?_
 intro stop1 S1
 refine S1.gx [] ?_
 obtain ⟨v1,hv1,hr⟩:=of_bind0 hr
 refine gb hv1 ?_
 refine iW hr (fun hc hr=> ?_) fun hc hr=> ?_
 ·obtain ⟨hg2,hr⟩:=of_guard0 hr
  refine S.gx [1] ?_
  exact D0 hr
 ·refine S.gx [1] ?_
  exact D0 hr
def r317 (x4 x5 x0 x1 x6 x7 x8 x9 x14 x15 x10 x11 x12 x13 x18 x16 x17 x2 x3:Int):Option (Int×Int×Int×Int×Int×Int×Int×Int×Int×Int×Int×Int×Int×Int):=
 (r330 (IntKind.i64.wrap (x14+x16))).bind fun v1=>
  (r330 (IntKind.i64.wrap (x15+x17))).bind fun v2=>
   if (v1 == 1000000)=true then
    if (v2 == 1000000)=true then
     (r330 (IntKind.i64.wrap (x7+(if x3<x1 then x3 else x1)))).bind fun v3=>
      some (x4,x5,(if 0<IntKind.i64.wrap (x0 - x3) then IntKind.i64.wrap (x0 - x3) else 0),(if 0<IntKind.i64.wrap (x1 - x2) then IntKind.i64.wrap (x1 - x2) else 0),IntKind.i64.wrap (x6+(if x2<x0 then x2 else x0)),v3,x8,x9,v1,v2,x10,x11,x12,x13)
     else (r330 (IntKind.i64.wrap (x7+(if 0<x1 then 0 else x1)))).bind fun v4=>
      some (x4,x5,(if 0<IntKind.i64.wrap (x0 - 0) then IntKind.i64.wrap (x0 - 0) else 0),(if 0<IntKind.i64.wrap (x1 - x2) then IntKind.i64.wrap (x1 - x2) else 0),IntKind.i64.wrap (x6+(if x2<x0 then x2 else x0)),v4,x8,x9,v1,v2,x10,x11,x12,x13)
    else if (v2 == 1000000)=true then
     (r330 (IntKind.i64.wrap (x7+(if x3<x1 then x3 else x1)))).bind fun v5=>
      some (x4,x5,(if 0<IntKind.i64.wrap (x0 - x3) then IntKind.i64.wrap (x0 - x3) else 0),(if 0<IntKind.i64.wrap (x1 - 0) then IntKind.i64.wrap (x1 - 0) else 0),IntKind.i64.wrap (x6+(if 0<x0 then 0 else x0)),v5,x8,x9,v1,v2,x10,x11,x12,x13)
     else (r330 (IntKind.i64.wrap (x7+(if 0<x1 then 0 else x1)))).bind fun v6=>
      some (x4,x5,(if 0<IntKind.i64.wrap (x0 - 0) then IntKind.i64.wrap (x0 - 0) else 0),(if 0<IntKind.i64.wrap (x1 - 0) then IntKind.i64.wrap (x1 - 0) else 0),IntKind.i64.wrap (x6+(if 0<x0 then 0 else x0)),v6,x8,x9,v1,v2,x10,x11,x12,x13)
@[go_sem] def T317:=qT54 qu26 false r317
@[go_sem] def tb317 (k:Nat):=lk [(330,T330.sp)] k
theorem f317:FnFact Tryz.prog 317 T317.sp:=by
 refine vm (tb:=tb317) (.cons f330 .nil) Tryz.func317 Tryz.ntmps317 fun ⟨x4,x5,x0,x1,x6,x7,x8,x9,x14,x15,x10,x11,x12,x13,x18,x16,x17,x2,x3⟩ r hr stop S=> ?_
 rw [uq19,r317] at hr
 refine S.gx [6,7,10] ?_
 obtain ⟨v1,hv1,hr⟩:=of_bind0 hr
 obtain ⟨v2,hv2,hr⟩:=of_bind0 hr
 refine gb hv1 ?_
 refine gb hv2 ?_
 refine iW hr (fun hc hr=> ?_) fun hc hr=> ?_
 ·refine gr ?_
  refine iW hr (fun hc hr=> ?_) fun hc hr=> ?_
  ·refine gr ?_
   refine S.prune [2,3,4,5] ?_
   refine S.gw [7,10] ?_
   refine S.prune [2,4,5] ?_
   refine S.gw [6,10] ?_
   obtain ⟨v3,hv3,hr⟩:=of_bind0 hr
   refine gb hv3 ?_
   refine S.prune [2,4] ?_
   refine S.gx [6,7] ?_
   exact D0 hr
  ·refine gr ?_
   refine S.prune [2,4,5] ?_
   refine S.gw [6,10] ?_
   obtain ⟨v4,hv4,hr⟩:=of_bind0 hr
   refine gb hv4 ?_
   refine S.prune [2,4] ?_
   refine S.gx [6,7] ?_
   exact D0 hr
 ·refine gr ?_
  refine iW hr (fun hc hr=> ?_) fun hc hr=> ?_
  ·refine gr ?_
   refine S.prune [2,3,4,5] ?_
   refine S.gw [7,10] ?_
   refine S.prune [2,4,5] ?_
   refine S.gw [6,10] ?_
   obtain ⟨v5,hv5,hr⟩:=of_bind0 hr
   refine gb hv5 ?_
   refine S.prune [2,4] ?_
   refine S.gx [6,7] ?_
   exact D0 hr
  ·refine gr ?_
   refine S.prune [2,4,5] ?_
   refine S.gw [6,10] ?_
   obtain ⟨v6,hv6,hr⟩:=of_bind0 hr
   refine gb hv6 ?_
   refine S.prune [2,4] ?_
   refine S.gx [6,7] ?_
   exact D0 hr
def r284 (x0 x2 x3 x1:Int):Option (Bool):=
 some (decide (x0≥x1))
@[go_sem] def T284:=qT55 qu2 false r284
theorem f284:FnFact Tryz.prog 284 T284.sp:=by
 refine vm .nil Tryz.func284 Tryz.ntmps284 fun ⟨x0,x2,x3,x1⟩ r hr stop S=> ?_
 rw [uq4,r284] at hr
 refine S.gx [] ?_
 exact D0 hr
def b306_1 (a0:L_III) (x0:Int):Bd Int Int:=fun s1=>
 if (decide (s1<(a0.length:Int)))=true then
  if 0≤s1∧s1<(a0.length:Int) then
   bindC (r284 ((a0.getD s1.toNat default).1) ((a0.getD s1.toNat default).2.1) ((a0.getD s1.toNat default).2.2) x0) fun v1=>
    if v1=true then
     .out (some s1)
     else .next (IntKind.i64.wrap (s1+1))
   else .out none
  else .out (some (-1))
def r306 (a0:L_III) (x0:Int):Option (Int):=
 iterC (b306_1 a0 x0) 1000000000 0
@[go_sem] def T306:=qT56 qu3 false r306
@[go_sem] def tb306 (k:Nat):=lk [(284,T284.sp)] k
theorem f306:FnFact Tryz.prog 306 T306.sp:=by
 refine vm (tb:=tb306) (.cons f284 .nil) Tryz.func306 Tryz.ntmps306 fun ⟨a0,x0⟩ r hr stop S=> ?_
 rw [uq2,r306] at hr
 refine S.gx [] ?_
 refine gr ?_
 refine S.li [0,1,7,8] [] [] (fun s1=>⟨[(0,.c (.d (encF 3 d_III a0))),(1,.c (.clo 284 [.sptr [.int .i64 x0] 0])),sI 7 (a0.length:Int),sI 8 s1],[],[]⟩) (b306_1 a0 x0) (fun q=>q=r) hr rfl ?_
 intro s1 hr
 unfold b306_1 at hr
 refine S.gx [] ?_
 exact D1 (S.ss [0,1,7,8] [] []) hr
def r229 (x1:L_IIII) (x2:L_IIIII) (x0:L_III) (x3:L_II) (x4 x5 x6 x7 a1:Int):Option ((Option (Int×Int×Int))):=
 (r306 x0 a1).bind fun v1=>
  if (decide (v1≥0))=true then
   if 0≤v1∧v1<(x0.length:Int) then
    some (some ((x0.getD v1.toNat default).1,(x0.getD v1.toNat default).2.1,(x0.getD v1.toNat default).2.2))
    else none
   else some none
@[go_sem] def T229:=qT49 qu31 true r229
@[go_sem] def tb229 (k:Nat):=lk [(306,T306.sp)] k
theorem tb229_ok:FnsOk Tryz.prog tb229:= .cons f306 .nil
theorem f229:FnFact Tryz.prog 229 T229.sp:=by
 refine vm (tb:=tb229) (.cons f306 .nil) Tryz.func229 Tryz.ntmps229 fun ⟨x1,x2,x0,x3,x4,x5,x6,x7,a1⟩ r hr stop S=> ?_
 rw [uq9,r229] at hr
 refine S.gx [1] ?_
 refine gr ?_
 refine S.inl 4 [4] [] Tryz.func283 (by decide) rfl Tryz.ntmps283 (fun cx e=>drawn_ok ty_ok tb229_ok cx e) (some 9) rfl rfl rfl rfl (nL rfl) (nL rfl) ?_
 refine gs ?_
 refine gr ?_
 intro stop1 S1
 refine S1.gx [] ?_
 obtain ⟨v1,hv1,hr⟩:=of_bind0 hr
 refine gb hv1 ?_
 refine iW hr (fun hc hr=> ?_) fun hc hr=> ?_
 ·obtain ⟨hg2,hr⟩:=of_guard0 hr
  refine S.gx [1] ?_
  exact D0 hr
 ·refine S.gx [1] ?_
  exact D0 hr
def r230 (a0 a1 a2:Int):Option (Int):=
 some (if a1<IntKind.i64.wrap ((IntKind.i64.wrap ((IntKind.i64.wrap (a0+a1))*a2)).tdiv 1000000) then IntKind.i64.wrap ((IntKind.i64.wrap ((IntKind.i64.wrap (a0+a1))*a2)).tdiv 1000000) else a1)
@[go_sem] def T230:=qT1 qu3 false r230
theorem f230:FnFact Tryz.prog 230 T230.sp:=by
 refine vm .nil Tryz.func230 Tryz.ntmps230 fun ⟨a0,a1,a2⟩ r hr stop S=> ?_
 rw [uq3,r230] at hr
 refine S.gx [] ?_
 exact D0 hr
def r332 (a0 a1 a2:Int):Option (Int):=
 (r230 a0 a1 a2).bind fun v1=>
  some (IntKind.i64.wrap ((IntKind.i64.wrap (a0+a1)) - v1))
@[go_sem] def T332:=qT1 qu3 false r332
@[go_sem] def tb332 (k:Nat):=lk [(230,T230.sp)] k
theorem f332:FnFact Tryz.prog 332 T332.sp:=by
 refine vm (tb:=tb332) (.cons f230 .nil) Tryz.func332 Tryz.ntmps332 fun ⟨a0,a1,a2⟩ r hr stop S=> ?_
 rw [uq3,r332] at hr
 refine S.gx [] ?_
 exact D0 hr
def r318 (x6 x7 x0 x1 x8 x9 x2 x3 x10 x11 x12 x13 x14 x15 x16 x4 x5:Int):Option (Int×Int×Int×Int×Int×Int×Int×Int×Int×Int×Int×Int×Int×Int):=
 (r230 x0 x2 x4).bind fun v1=>
  (r230 x1 x3 x5).bind fun v2=>
   (r330 v2).bind fun v3=>
    (r332 x0 x2 x5).bind fun v4=>
     (r332 x1 x3 x4).bind fun v5=>
      some (x6,x7,v4,v5,x8,x9,v1,v3,x10,x11,x12,x13,x14,x15)
@[go_sem] def T318:=qT57 qu26 false r318
@[go_sem] def tb318 (k:Nat):=lk [(230,T230.sp),(330,T330.sp),(332,T332.sp)] k
theorem f318:FnFact Tryz.prog 318 T318.sp:=by
 refine vm (tb:=tb318) (.cons f230 (.cons f330 (.cons f332 .nil))) Tryz.func318 Tryz.ntmps318 fun ⟨x6,x7,x0,x1,x8,x9,x2,x3,x10,x11,x12,x13,x14,x15,x16,x4,x5⟩ r hr stop S=> ?_
 rw [uq17,r318] at hr
 refine S.gx [5] ?_
 obtain ⟨v1,hv1,hr⟩:=of_bind0 hr
 obtain ⟨v2,hv2,hr⟩:=of_bind0 hr
 obtain ⟨v3,hv3,hr⟩:=of_bind0 hr
 obtain ⟨v4,hv4,hr⟩:=of_bind0 hr
 obtain ⟨v5,hv5,hr⟩:=of_bind0 hr
 refine gb hv1 ?_
 refine gb hv2 ?_
 refine gb hv3 ?_
 refine gb hv4 ?_
 refine gb hv5 ?_
 refine S.prune [2,4] ?_
 refine S.gx [] ?_
 exact D0 hr
def r286 (x0 x2 x1:Int):Option (Bool):=
 some (decide (x0≤x1))
@[go_sem] def T286:=qT58 qu2 false r286
theorem f286:FnFact Tryz.prog 286 T286.sp:=by
 refine vm .nil Tryz.func286 Tryz.ntmps286 fun ⟨x0,x2,x1⟩ r hr stop S=> ?_
 rw [uq3,r286] at hr
 refine S.gx [] ?_
 exact D0 hr
def b231_1 (x0:L_II) (a1:Int):Bd Int (Option (Int×Int)):=fun s1=>
 if (decide (s1≥0))=true then
  if 0≤s1∧s1<(x0.length:Int) then
   if 0≤s1∧s1<(x0.length:Int) then
    bindC (r286 ((x0.getD s1.toNat default).1) ((x0.getD s1.toNat default).2) a1) fun v1=>
     if v1=true then
      if 0≤s1∧s1<(x0.length:Int) then
       .out (some (some ((x0.getD s1.toNat default).1,(x0.getD s1.toNat default).2)))
       else .out none
      else .next (IntKind.i64.wrap (s1 - 1))
    else .out none
   else .out none
  else .out (some none)
def r231 (x1:L_IIII) (x2:L_IIIII) (x3:L_III) (x0:L_II) (x4 x5 x6 x7 a1:Int):Option ((Option (Int×Int))):=
 iterC (b231_1 x0 a1) 1000000000 (IntKind.i64.wrap ((x0.length:Int) - 1))
@[go_sem] def T231:=qT49 qu32 true r231
@[go_sem] def tb231 (k:Nat):=lk [(286,T286.sp)] k
theorem tb231_ok:FnsOk Tryz.prog tb231:= .cons f286 .nil
theorem f231:FnFact Tryz.prog 231 T231.sp:=by
 refine vm (tb:=tb231) (.cons f286 .nil) Tryz.func231 Tryz.ntmps231 fun ⟨x1,x2,x3,x0,x4,x5,x6,x7,a1⟩ r hr stop S=> ?_
 rw [uq9,r231] at hr
 refine S.gx [1] ?_
 refine gr ?_
 refine S.inl 4 [4] [] Tryz.func285 (by decide) rfl Tryz.ntmps285 (fun cx e=>drawn_ok ty_ok tb231_ok cx e) (some 9) rfl rfl rfl rfl (nL rfl) (nL rfl) ?_
 refine gs ?_
 refine gr ?_
 intro stop1 S1
 refine S1.gw [1,3] ?_
 refine S1.inl 1 [2,3,4] [] Tryz.func307 (by decide) rfl Tryz.ntmps307 (fun cx e=>drawn_ok ty_ok tb231_ok cx e) (some 7) rfl rfl rfl rfl (nL rfl) (nL rfl) ?_
 refine gs ?_
 refine gr ?_
 intro stop2 S2
 refine S2.gw [] ?_
 refine S1.gw [1,3] ?_
 refine S1.range [2,3,4] Tryz.func321 (by decide) rfl Tryz.ntmps321 Tryz.results321 (fun cx e=>drawn_ok ty_ok tb231_ok cx e) (fun cx e=>drawn_ok ty_ok tb231_ok cx e) (by decide) rfl rfl (nL rfl) ?_
 intro l2 stop2 stopJ2 S2 SJ2 Y2
 refine S2.gw [3] ?_
 refine S2.li [0,1,3] [(1,1),(100002,100002),(100003,100003),(4,4),(3,3)] [] (fun s1=>⟨[(0,.c (.yld l2)),sR 1 1,sI 3 s1],[(1,[.d (encF 2 d_II x0)]),(100002,[.d (encF 2 d_II x0)]),(100003,[.clo 286 [.ref 3 0]]),(4,[.d (encP d_II none)]),(3,[iC a1])],[]⟩) (b231_1 x0 a1) (fun q=>q=r) hr rfl ?_
 intro s1 hr
 unfold b231_1 at hr
 refine S2.gw [3] ?_
 refine iW1 hr (fun hc hr=> ?_) fun hc hr=> ?_
 ·refine gr ?_
  refine Y2 6 [0,1,3] (some 17) rfl rfl rfl rfl (nL rfl) (by rfl) ?_
  refine gs ?_
  obtain ⟨hg4,hr⟩:=of_guard1 hr
  refine gr ?_
  intro stopA3 SA3
  refine SA3.gw [] ?_
  intro stop3 S3
  refine S3.gw [1,3] ?_
  refine S3.gx [1] ?_
  obtain ⟨hg3,hr⟩:=of_guard1 hr
  obtain ⟨v1,hv1,hr⟩:=of_bind1 hr
  refine gb hv1 ?_
  refine gr ?_
  refine iW1 hr (fun hc hr=> ?_) fun hc hr=> ?_
  ·obtain ⟨hg2,hr⟩:=of_guard1 hr
   refine gr ?_
   refine (SJ2 .ret).gx [3] ?_
   refine gr ?_
   have hr:=of_out0 hr
   refine S1.gw [1,3] ?_
   refine S.gx [1] ?_
   exact D0 hr
  ·refine S2.gx [3] ?_
   exact D1 (S2.ss [0,1,3] [(1,1),(100002,100002),(100003,100003),(4,4),(3,3)] []) hr
 ·refine gr ?_
  have hr:=of_out0 hr
  refine S1.gw [1,3] ?_
  refine S.gx [1] ?_
  exact D0 hr
def r319 (a0:Int) (x0:Option (Int×Int)):Option (Int):=
 if x0.isSome=true then
  if x0.isSome=true then
   some (if 1000000<IntKind.i64.wrap (a0+((x0.getD default).2)) then 1000000 else IntKind.i64.wrap (a0+((x0.getD default).2)))
   else none
  else none
@[go_sem] def T319:=qT59 qu3 false r319
theorem f319:FnFact Tryz.prog 319 T319.sp:=by
 refine vm .nil Tryz.func319 Tryz.ntmps319 fun ⟨a0,x0⟩ r hr stop S=> ?_
 rw [uq2,r319] at hr
 refine S.gx [] ?_
 exact D0 hr
def r301 (x0:L_IIII) (x1:L_IIIII) (x2:L_III) (x3:L_II) (x4 x5 x6 x7 x8 x9 x10 x11 x12 x13 x14 x15 x16 x17 x18 x19 x20 x21 a2:Int):Option (Int×Int×Int×Int×Int×Int×Int×Int×Int×Int×Int×Int×Int×Int):=
 (r226 x0 x1 x2 x3 x4 x5 x6 x7 a2).bind fun v1=>
  if v1.isSome=true then
   if v1.isSome=true then
    if v1.isSome=true then
     (r316 x8 x9 x10 x11 x12 x13 x14 x15 x16 x17 x18 x19 x20 x21 ((v1.getD default).1) ((v1.getD default).2.1) ((v1.getD default).2.2.1) ((v1.getD default).2.2.2)).bind fun v2=>
      some (v2.1,v2.2.1,v2.2.2.1,v2.2.2.2.1,v2.2.2.2.2.1,v2.2.2.2.2.2.1,v2.2.2.2.2.2.2.1,v2.2.2.2.2.2.2.2.1,v2.2.2.2.2.2.2.2.2.1,v2.2.2.2.2.2.2.2.2.2.1,v2.2.2.2.2.2.2.2.2.2.2.1,v2.2.2.2.2.2.2.2.2.2.2.2.1,v2.2.2.2.2.2.2.2.2.2.2.2.2.1,v2.2.2.2.2.2.2.2.2.2.2.2.2.2)
     else none
    else none
   else (r228 x0 x1 x2 x3 x4 x5 x6 x7 a2).bind fun v5=>
    if v5.isSome=true then
     if v5.isSome=true then
      if v5.isSome=true then
       (r317 x8 x9 x10 x11 x12 x13 x14 x15 x16 x17 x18 x19 x20 x21 ((v5.getD default).1) ((v5.getD default).2.1) ((v5.getD default).2.2.1) ((v5.getD default).2.2.2.1) ((v5.getD default).2.2.2.2)).bind fun v6=>
        (r229 x0 x1 x2 x3 x4 x5 x6 x7 a2).bind fun v7=>
         if v7.isSome=true then
          if v7.isSome=true then
           if v7.isSome=true then
            (r318 v6.1 v6.2.1 v6.2.2.1 v6.2.2.2.1 v6.2.2.2.2.1 v6.2.2.2.2.2.1 v6.2.2.2.2.2.2.1 v6.2.2.2.2.2.2.2.1 v6.2.2.2.2.2.2.2.2.1 v6.2.2.2.2.2.2.2.2.2.1 v6.2.2.2.2.2.2.2.2.2.2.1 v6.2.2.2.2.2.2.2.2.2.2.2.1 v6.2.2.2.2.2.2.2.2.2.2.2.2.1 v6.2.2.2.2.2.2.2.2.2.2.2.2.2 ((v7.getD default).1) ((v7.getD default).2.1) ((v7.getD default).2.2)).bind fun v8=>
             (r231 x0 x1 x2 x3 x4 x5 x6 x7 a2).bind fun v9=>
              if v9.isSome=true then
               (r319 v8.2.2.2.2.2.2.2.2.2.2.2.2.1 v9).bind fun v10=>
                (r319 v8.2.2.2.2.2.2.2.2.2.2.2.2.2 v9).bind fun v11=>
                 some (v8.1,v8.2.1,v8.2.2.1,v8.2.2.2.1,v8.2.2.2.2.1,v8.2.2.2.2.2.1,v8.2.2.2.2.2.2.1,v8.2.2.2.2.2.2.2.1,v8.2.2.2.2.2.2.2.2.1,v8.2.2.2.2.2.2.2.2.2.1,v8.2.2.2.2.2.2.2.2.2.2.1,v8.2.2.2.2.2.2.2.2.2.2.2.1,v10,v11)
               else some (v8.1,v8.2.1,v8.2.2.1,v8.2.2.2.1,v8.2.2.2.2.1,v8.2.2.2.2.2.1,v8.2.2.2.2.2.2.1,v8.2.2.2.2.2.2.2.1,v8.2.2.2.2.2.2.2.2.1,v8.2.2.2.2.2.2.2.2.2.1,v8.2.2.2.2.2.2.2.2.2.2.1,v8.2.2.2.2.2.2.2.2.2.2.2.1,v8.2.2.2.2.2.2.2.2.2.2.2.2.1,v8.2.2.2.2.2.2.2.2.2.2.2.2.2)
            else none
           else none
          else (r231 x0 x1 x2 x3 x4 x5 x6 x7 a2).bind fun v14=>
           if v14.isSome=true then
            (r319 v6.2.2.2.2.2.2.2.2.2.2.2.2.1 v14).bind fun v15=>
             (r319 v6.2.2.2.2.2.2.2.2.2.2.2.2.2 v14).bind fun v16=>
              some (v6.1,v6.2.1,v6.2.2.1,v6.2.2.2.1,v6.2.2.2.2.1,v6.2.2.2.2.2.1,v6.2.2.2.2.2.2.1,v6.2.2.2.2.2.2.2.1,v6.2.2.2.2.2.2.2.2.1,v6.2.2.2.2.2.2.2.2.2.1,v6.2.2.2.2.2.2.2.2.2.2.1,v6.2.2.2.2.2.2.2.2.2.2.2.1,v15,v16)
            else some (v6.1,v6.2.1,v6.2.2.1,v6.2.2.2.1,v6.2.2.2.2.1,v6.2.2.2.2.2.1,v6.2.2.2.2.2.2.1,v6.2.2.2.2.2.2.2.1,v6.2.2.2.2.2.2.2.2.1,v6.2.2.2.2.2.2.2.2.2.1,v6.2.2.2.2.2.2.2.2.2.2.1,v6.2.2.2.2.2.2.2.2.2.2.2.1,v6.2.2.2.2.2.2.2.2.2.2.2.2.1,v6.2.2.2.2.2.2.2.2.2.2.2.2.2)
       else none
      else none
     else (r229 x0 x1 x2 x3 x4 x5 x6 x7 a2).bind fun v19=>
      if v19.isSome=true then
       if v19.isSome=true then
        if v19.isSome=true then
         (r318 x8 x9 x10 x11 x12 x13 x14 x15 x16 x17 x18 x19 x20 x21 ((v19.getD default).1) ((v19.getD default).2.1) ((v19.getD default).2.2)).bind fun v20=>
          (r231 x0 x1 x2 x3 x4 x5 x6 x7 a2).bind fun v21=>
           if v21.isSome=true then
            (r319 v20.2.2.2.2.2.2.2.2.2.2.2.2.1 v21).bind fun v22=>
             (r319 v20.2.2.2.2.2.2.2.2.2.2.2.2.2 v21).bind fun v23=>
              some (v20.1,v20.2.1,v20.2.2.1,v20.2.2.2.1,v20.2.2.2.2.1,v20.2.2.2.2.2.1,v20.2.2.2.2.2.2.1,v20.2.2.2.2.2.2.2.1,v20.2.2.2.2.2.2.2.2.1,v20.2.2.2.2.2.2.2.2.2.1,v20.2.2.2.2.2.2.2.2.2.2.1,v20.2.2.2.2.2.2.2.2.2.2.2.1,v22,v23)
            else some (v20.1,v20.2.1,v20.2.2.1,v20.2.2.2.1,v20.2.2.2.2.1,v20.2.2.2.2.2.1,v20.2.2.2.2.2.2.1,v20.2.2.2.2.2.2.2.1,v20.2.2.2.2.2.2.2.2.1,v20.2.2.2.2.2.2.2.2.2.1,v20.2.2.2.2.2.2.2.2.2.2.1,v20.2.2.2.2.2.2.2.2.2.2.2.1,v20.2.2.2.2.2.2.2.2.2.2.2.2.1,v20.2.2.2.2.2.2.2.2.2.2.2.2.2)
         else none
        else none
       else (r231 x0 x1 x2 x3 x4 x5 x6 x7 a2).bind fun v26=>
        if v26.isSome=true then
         (r319 x20 v26).bind fun v27=>
          (r319 x21 v26).bind fun v28=>
           some (x8,x9,x10,x11,x12,x13,x14,x15,x16,x17,x18,x19,v27,v28)
         else some (x8,x9,x10,x11,x12,x13,x14,x15,x16,x17,x18,x19,x20,x21)
@[go_sem] def T301:=qT60 qu26 false r301
@[go_sem] def tb301 (k:Nat):=lk [(226,T226.sp),(228,T228.sp),(229,T229.sp),(231,T231.sp),(316,T316.sp),(317,T317.sp),(318,T318.sp),(319,T319.sp)] k
theorem f301:FnFact Tryz.prog 301 T301.sp:=by
 refine vm (tb:=tb301) (.cons f226 (.cons f228 (.cons f229 (.cons f231 (.cons f316 (.cons f317 (.cons f318 (.cons f319 .nil)))))))) Tryz.func301 Tryz.ntmps301 fun ⟨x0,x1,x2,x3,x4,x5,x6,x7,x8,x9,x10,x11,x12,x13,x14,x15,x16,x17,x18,x19,x20,x21,a2⟩ r hr stop S=> ?_
 rw [uq23,r301] at hr
 refine S.gx [10] ?_
 obtain ⟨v1,hv1,hr⟩:=of_bind0 hr
 refine gb hv1 ?_
 refine iW hr (fun hc hr=>D0 hr) fun hc hr=> ?_
 obtain ⟨v5,hv5,hr⟩:=of_bind0 hr
 refine gb hv5 ?_
 refine iW hr (fun hc hr=> ?_) fun hc hr=> ?_
 ·obtain ⟨hg17,hr⟩:=of_guard0 hr
  obtain ⟨hg18,hr⟩:=of_guard0 hr
  obtain ⟨v6,hv6,hr⟩:=of_bind0 hr
  obtain ⟨v7,hv7,hr⟩:=of_bind0 hr
  refine gb hv6 ?_
  refine gb hv7 ?_
  refine iW hr (fun hc hr=> ?_) fun hc hr=> ?_
  ·obtain ⟨hg12,hr⟩:=of_guard0 hr
   obtain ⟨hg13,hr⟩:=of_guard0 hr
   obtain ⟨v8,hv8,hr⟩:=of_bind0 hr
   refine gb hv8 ?_
   refine S.prune [2,3,4,6] ?_
   refine S.gx [] ?_
   exact D0 hr
  ·refine gr ?_
   refine S.prune [2,3,4,6] ?_
   refine S.gx [] ?_
   exact D0 hr
 ·obtain ⟨v19,hv19,hr⟩:=of_bind0 hr
  refine gb hv19 ?_
  refine iW hr (fun hc hr=> ?_) fun hc hr=> ?_
  ·obtain ⟨hg24,hr⟩:=of_guard0 hr
   obtain ⟨hg25,hr⟩:=of_guard0 hr
   obtain ⟨v20,hv20,hr⟩:=of_bind0 hr
   refine gb hv20 ?_
   refine S.prune [2,3,4,6] ?_
   refine S.gx [] ?_
   exact D0 hr
  ·refine gr ?_
   refine S.prune [2,3,4,6] ?_
   refine S.gx [] ?_
   exact D0 hr
def b302_1 (x0 x1 x2 x3 x4 x5 x6 x7 x8 x9 x10 x11 x12 x13:Int):Bd (Int×Int×Int×Int×Int×Int×Int×Int×Int×Int×Int×Int×Int×Int×Int) (Int×Int×Int×Int×Int×Int×Int×Int×Int×Int×Int×Int×Int×Int):=fun s1=>
 if (decide (s1.1<7))=true then
  if s1.1=0 then
   .next (1,(if x0<s1.2.1 then x0 else s1.2.1),(if s1.2.2.1<x1 then x1 else s1.2.2.1),s1.2.2.2.1,s1.2.2.2.2.1,s1.2.2.2.2.2.1,s1.2.2.2.2.2.2.1,s1.2.2.2.2.2.2.2.1,s1.2.2.2.2.2.2.2.2.1,s1.2.2.2.2.2.2.2.2.2.1,s1.2.2.2.2.2.2.2.2.2.2.1,s1.2.2.2.2.2.2.2.2.2.2.2.1,s1.2.2.2.2.2.2.2.2.2.2.2.2.1,s1.2.2.2.2.2.2.2.2.2.2.2.2.2.1,s1.2.2.2.2.2.2.2.2.2.2.2.2.2.2)
   else if s1.1=1 then
    .next (2,s1.2.1,s1.2.2.1,(if x2<s1.2.2.2.1 then x2 else s1.2.2.2.1),(if s1.2.2.2.2.1<x3 then x3 else s1.2.2.2.2.1),s1.2.2.2.2.2.1,s1.2.2.2.2.2.2.1,s1.2.2.2.2.2.2.2.1,s1.2.2.2.2.2.2.2.2.1,s1.2.2.2.2.2.2.2.2.2.1,s1.2.2.2.2.2.2.2.2.2.2.1,s1.2.2.2.2.2.2.2.2.2.2.2.1,s1.2.2.2.2.2.2.2.2.2.2.2.2.1,s1.2.2.2.2.2.2.2.2.2.2.2.2.2.1,s1.2.2.2.2.2.2.2.2.2.2.2.2.2.2)
    else if s1.1=2 then
     .next (3,s1.2.1,s1.2.2.1,s1.2.2.2.1,s1.2.2.2.2.1,(if x4<s1.2.2.2.2.2.1 then x4 else s1.2.2.2.2.2.1),(if s1.2.2.2.2.2.2.1<x5 then x5 else s1.2.2.2.2.2.2.1),s1.2.2.2.2.2.2.2.1,s1.2.2.2.2.2.2.2.2.1,s1.2.2.2.2.2.2.2.2.2.1,s1.2.2.2.2.2.2.2.2.2.2.1,s1.2.2.2.2.2.2.2.2.2.2.2.1,s1.2.2.2.2.2.2.2.2.2.2.2.2.1,s1.2.2.2.2.2.2.2.2.2.2.2.2.2.1,s1.2.2.2.2.2.2.2.2.2.2.2.2.2.2)
     else if s1.1=3 then
      .next (4,s1.2.1,s1.2.2.1,s1.2.2.2.1,s1.2.2.2.2.1,s1.2.2.2.2.2.1,s1.2.2.2.2.2.2.1,(if x6<s1.2.2.2.2.2.2.2.1 then x6 else s1.2.2.2.2.2.2.2.1),(if s1.2.2.2.2.2.2.2.2.1<x7 then x7 else s1.2.2.2.2.2.2.2.2.1),s1.2.2.2.2.2.2.2.2.2.1,s1.2.2.2.2.2.2.2.2.2.2.1,s1.2.2.2.2.2.2.2.2.2.2.2.1,s1.2.2.2.2.2.2.2.2.2.2.2.2.1,s1.2.2.2.2.2.2.2.2.2.2.2.2.2.1,s1.2.2.2.2.2.2.2.2.2.2.2.2.2.2)
      else if s1.1=4 then
       .next (5,s1.2.1,s1.2.2.1,s1.2.2.2.1,s1.2.2.2.2.1,s1.2.2.2.2.2.1,s1.2.2.2.2.2.2.1,s1.2.2.2.2.2.2.2.1,s1.2.2.2.2.2.2.2.2.1,(if x8<s1.2.2.2.2.2.2.2.2.2.1 then x8 else s1.2.2.2.2.2.2.2.2.2.1),(if s1.2.2.2.2.2.2.2.2.2.2.1<x9 then x9 else s1.2.2.2.2.2.2.2.2.2.2.1),s1.2.2.2.2.2.2.2.2.2.2.2.1,s1.2.2.2.2.2.2.2.2.2.2.2.2.1,s1.2.2.2.2.2.2.2.2.2.2.2.2.2.1,s1.2.2.2.2.2.2.2.2.2.2.2.2.2.2)
       else if s1.1=5 then
        .next (6,s1.2.1,s1.2.2.1,s1.2.2.2.1,s1.2.2.2.2.1,s1.2.2.2.2.2.1,s1.2.2.2.2.2.2.1,s1.2.2.2.2.2.2.2.1,s1.2.2.2.2.2.2.2.2.1,s1.2.2.2.2.2.2.2.2.2.1,s1.2.2.2.2.2.2.2.2.2.2.1,(if x10<s1.2.2.2.2.2.2.2.2.2.2.2.1 then x10 else s1.2.2.2.2.2.2.2.2.2.2.2.1),(if s1.2.2.2.2.2.2.2.2.2.2.2.2.1<x11 then x11 else s1.2.2.2.2.2.2.2.2.2.2.2.2.1),s1.2.2.2.2.2.2.2.2.2.2.2.2.2.1,s1.2.2.2.2.2.2.2.2.2.2.2.2.2.2)
        else if s1.1=6 then
         .next (7,s1.2.1,s1.2.2.1,s1.2.2.2.1,s1.2.2.2.2.1,s1.2.2.2.2.2.1,s1.2.2.2.2.2.2.1,s1.2.2.2.2.2.2.2.1,s1.2.2.2.2.2.2.2.2.1,s1.2.2.2.2.2.2.2.2.2.1,s1.2.2.2.2.2.2.2.2.2.2.1,s1.2.2.2.2.2.2.2.2.2.2.2.1,s1.2.2.2.2.2.2.2.2.2.2.2.2.1,(if x12<s1.2.2.2.2.2.2.2.2.2.2.2.2.2.1 then x12 else s1.2.2.2.2.2.2.2.2.2.2.2.2.2.1),(if s1.2.2.2.2.2.2.2.2.2.2.2.2.2.2<x13 then x13 else s1.2.2.2.2.2.2.2.2.2.2.2.2.2.2))
         else .out none
  else .out (some (s1.2.1,s1.2.2.1,s1.2.2.2.1,s1.2.2.2.2.1,s1.2.2.2.2.2.1,s1.2.2.2.2.2.2.1,s1.2.2.2.2.2.2.2.1,s1.2.2.2.2.2.2.2.2.1,s1.2.2.2.2.2.2.2.2.2.1,s1.2.2.2.2.2.2.2.2.2.2.1,s1.2.2.2.2.2.2.2.2.2.2.2.1,s1.2.2.2.2.2.2.2.2.2.2.2.2.1,s1.2.2.2.2.2.2.2.2.2.2.2.2.2.1,s1.2.2.2.2.2.2.2.2.2.2.2.2.2.2))
def r302 (x14 x15 x16 x17 x18 x19 x20 x21 x22 x23 x24 x25 x26 x27 x0 x1 x2 x3 x4 x5 x6 x7 x8 x9 x10 x11 x12 x13:Int):Option (Int×Int×Int×Int×Int×Int×Int×Int×Int×Int×Int×Int×Int×Int):=
 iterC (b302_1 x0 x1 x2 x3 x4 x5 x6 x7 x8 x9 x10 x11 x12 x13) 1000000000 (0,x14,x15,x16,x17,x18,x19,x20,x21,x22,x23,x24,x25,x26,x27)
@[go_sem] def T302:=qT61 qu26 false r302
def tb302:Fns:=lk []
theorem tb302_ok:FnsOk Tryz.prog tb302:=FnsOk.nil
theorem f302:FnFact Tryz.prog 302 T302.sp:=by
 refine vm (tb:=tb302) .nil Tryz.func302 Tryz.ntmps302 fun ⟨x14,x15,x16,x17,x18,x19,x20,x21,x22,x23,x24,x25,x26,x27,x0,x1,x2,x3,x4,x5,x6,x7,x8,x9,x10,x11,x12,x13⟩ r hr stop S=> ?_
 rw [uq28,r302] at hr
 refine S.gx [1,2,4,6] ?_
 refine gr ?_
 refine S.inl 0 [2,4] [] Tryz.func256 (by decide) rfl Tryz.ntmps256 (fun cx e=>drawn_ok ty_ok tb302_ok cx e) (some 8) rfl rfl rfl rfl (nL rfl) (nL rfl) ?_
 refine gs ?_
 refine gr ?_
 intro stop1 S1
 refine S1.gw [] ?_
 refine S.gw [1,2,4,6] ?_
 refine S.inl 0 [2,4,5] [] Tryz.func256 (by decide) rfl Tryz.ntmps256 (fun cx e=>drawn_ok ty_ok tb302_ok cx e) (some 9) rfl rfl rfl rfl (nL rfl) (nL rfl) ?_
 refine gs ?_
 refine gr ?_
 intro stop1 S1
 refine S1.gw [] ?_
 refine S.gw [1,2,4,6] ?_
 refine S.li [2,4,5,9,10] [(2,2),(4,4),(5,5),(3,3)] [] (fun s1=>⟨[sR 2 2,sR 4 4,sR 5 5,(9,.agg [.ref 2 0,.ref 2 2,.ref 2 4,.ref 2 6,.ref 2 8,.ref 2 10,.ref 2 12]),sI 10 s1.1],[(2,[iC s1.2.1,iC s1.2.2.1,iC s1.2.2.2.1,iC s1.2.2.2.2.1,iC s1.2.2.2.2.2.1,iC s1.2.2.2.2.2.2.1,iC s1.2.2.2.2.2.2.2.1,iC s1.2.2.2.2.2.2.2.2.1,iC s1.2.2.2.2.2.2.2.2.2.1,iC s1.2.2.2.2.2.2.2.2.2.2.1,iC s1.2.2.2.2.2.2.2.2.2.2.2.1,iC s1.2.2.2.2.2.2.2.2.2.2.2.2.1,iC s1.2.2.2.2.2.2.2.2.2.2.2.2.2.1,iC s1.2.2.2.2.2.2.2.2.2.2.2.2.2.2]),(4,[iC 0,iC 0,iC 0,iC 0,iC 0,iC 0,iC 0,iC 0,iC 0,iC 0,iC 0,iC 0,iC 0,iC 0]),(5,[.ref 3 0,.ref 3 2,.ref 3 4,.ref 3 6,.ref 3 8,.ref 3 10,.ref 3 12]),(3,[iC x0,iC x1,iC x2,iC x3,iC x4,iC x5,iC x6,iC x7,iC x8,iC x9,iC x10,iC x11,iC x12,iC x13])],[]⟩) (b302_1 x0 x1 x2 x3 x4 x5 x6 x7 x8 x9 x10 x11 x12 x13) (fun q=>q=r) hr rfl ?_
 intro s1 hr
 have z1:=S.ss [2,4,5,9,10] [(2,2),(4,4),(5,5),(3,3)] []
 unfold b302_1 at hr
 refine S.gw [1,2,4,6] ?_
 refine iW1 hr (fun hc hr=> ?_) fun hc hr=>D0 hr
 refine gr ?_
 by_cases hs7:s1.1=0
 ·rw [if_pos hs7] at hr
  simp only [hs7]
  refine S.gw [1,2,6] ?_
  refine S.prune [2,4,5,9,10] ?_
  refine S.gx [1,2,4] ?_
  exact D1 z1 hr
 ·rw [if_neg hs7] at hr
  by_cases hs6:s1.1=1
  ·rw [if_pos hs6] at hr
   simp only [hs6]
   refine S.gw [1,2,6] ?_
   refine S.prune [2,4,5,9,10] ?_
   refine S.gx [1,2,4] ?_
   exact D1 z1 hr
  ·rw [if_neg hs6] at hr
   by_cases hs5:s1.1=2
   ·rw [if_pos hs5] at hr
    simp only [hs5]
    refine S.gw [1,2,6] ?_
    refine S.prune [2,4,5,9,10] ?_
    refine S.gx [1,2,4] ?_
    exact D1 z1 hr
   ·rw [if_neg hs5] at hr
    by_cases hs4:s1.1=3
    ·rw [if_pos hs4] at hr
     simp only [hs4]
     refine S.gw [1,2,6] ?_
     refine S.prune [2,4,5,9,10] ?_
     refine S.gx [1,2,4] ?_
     exact D1 z1 hr
    ·rw [if_neg hs4] at hr
     by_cases hs3:s1.1=4
     ·rw [if_pos hs3] at hr
      simp only [hs3]
      refine S.gw [1,2,6] ?_
      refine S.prune [2,4,5,9,10] ?_
      refine S.gx [1,2,4] ?_
      exact D1 z1 hr
     ·rw [if_neg hs3] at hr
      by_cases hs2:s1.1=5
      ·rw [if_pos hs2] at hr
       simp only [hs2]
       refine S.gw [1,2,6] ?_
       refine S.prune [2,4,5,9,10] ?_
       refine S.gx [1,2,4] ?_
       exact D1 z1 hr
      ·rw [if_neg hs2] at hr
       by_cases hs1:s1.1=6
       ·rw [if_pos hs1] at hr
        simp only [hs1]
        refine S.gw [1,2,6] ?_
        refine S.prune [2,4,5,9,10] ?_
        refine S.gx [1,2,4] ?_
        exact D1 z1 hr
       ·rw [if_neg hs1] at hr
        first | cases hr | exact hr.elim
def b260_1 (x0:L_IIII) (x1:L_IIIII) (x2:L_III) (x3:L_II) (x4 x5 x6 x7 x8 x9 x10 x11 x12 x13 x14 x15 x16 x17 x18 x19 x20 x21 x22:Int):Bd (Int×Int×Int×Int×Int×Int×Int×Int×Int×Int×Int×Int×Int×Int×Int) (Int×Int×Int×Int×Int×Int×Int×Int×Int×Int×Int×Int×Int×Int):=fun s1=>
 if (decide (s1.1≤x22))=true then
  bindC (r301 x0 x1 x2 x3 x4 x5 x6 x7 x8 x9 x10 x11 x12 x13 x14 x15 x16 x17 x18 x19 x20 x21 s1.1) fun v2=>
   bindC (r302 s1.2.1 s1.2.2.1 s1.2.2.2.1 s1.2.2.2.2.1 s1.2.2.2.2.2.1 s1.2.2.2.2.2.2.1 s1.2.2.2.2.2.2.2.1 s1.2.2.2.2.2.2.2.2.1 s1.2.2.2.2.2.2.2.2.2.1 s1.2.2.2.2.2.2.2.2.2.2.1 s1.2.2.2.2.2.2.2.2.2.2.2.1 s1.2.2.2.2.2.2.2.2.2.2.2.2.1 s1.2.2.2.2.2.2.2.2.2.2.2.2.2.1 s1.2.2.2.2.2.2.2.2.2.2.2.2.2.2 v2.1 v2.2.1 v2.2.2.1 v2.2.2.2.1 v2.2.2.2.2.1 v2.2.2.2.2.2.1 v2.2.2.2.2.2.2.1 v2.2.2.2.2.2.2.2.1 v2.2.2.2.2.2.2.2.2.1 v2.2.2.2.2.2.2.2.2.2.1 v2.2.2.2.2.2.2.2.2.2.2.1 v2.2.2.2.2.2.2.2.2.2.2.2.1 v2.2.2.2.2.2.2.2.2.2.2.2.2.1 v2.2.2.2.2.2.2.2.2.2.2.2.2.2) fun v3=>
    .next (IntKind.i64.wrap (s1.1+1),v3.1,v3.2.1,v3.2.2.1,v3.2.2.2.1,v3.2.2.2.2.1,v3.2.2.2.2.2.1,v3.2.2.2.2.2.2.1,v3.2.2.2.2.2.2.2.1,v3.2.2.2.2.2.2.2.2.1,v3.2.2.2.2.2.2.2.2.2.1,v3.2.2.2.2.2.2.2.2.2.2.1,v3.2.2.2.2.2.2.2.2.2.2.2.1,v3.2.2.2.2.2.2.2.2.2.2.2.2.1,v3.2.2.2.2.2.2.2.2.2.2.2.2.2)
  else .out (some (s1.2.1,s1.2.2.1,s1.2.2.2.1,s1.2.2.2.2.1,s1.2.2.2.2.2.1,s1.2.2.2.2.2.2.1,s1.2.2.2.2.2.2.2.1,s1.2.2.2.2.2.2.2.2.1,s1.2.2.2.2.2.2.2.2.2.1,s1.2.2.2.2.2.2.2.2.2.2.1,s1.2.2.2.2.2.2.2.2.2.2.2.1,s1.2.2.2.2.2.2.2.2.2.2.2.2.1,s1.2.2.2.2.2.2.2.2.2.2.2.2.2.1,s1.2.2.2.2.2.2.2.2.2.2.2.2.2.2))
def r260 (x0:L_IIII) (x1:L_IIIII) (x2:L_III) (x3:L_II) (x4 x5 x6 x7 x8 x9 x10 x11 x12 x13 x14 x15 x16 x17 x18 x19 x20 x21 x23 x22:Int):Option (Int×Int×Int×Int×Int×Int×Int×Int×Int×Int×Int×Int×Int×Int):=
 (r301 x0 x1 x2 x3 x4 x5 x6 x7 x8 x9 x10 x11 x12 x13 x14 x15 x16 x17 x18 x19 x20 x21 x23).bind fun v1=>
  iterC (b260_1 x0 x1 x2 x3 x4 x5 x6 x7 x8 x9 x10 x11 x12 x13 x14 x15 x16 x17 x18 x19 x20 x21 x22) 1000000000 (IntKind.i64.wrap (x23+1),v1.1,v1.2.1,v1.2.2.1,v1.2.2.2.1,v1.2.2.2.2.1,v1.2.2.2.2.2.1,v1.2.2.2.2.2.2.1,v1.2.2.2.2.2.2.2.1,v1.2.2.2.2.2.2.2.2.1,v1.2.2.2.2.2.2.2.2.2.1,v1.2.2.2.2.2.2.2.2.2.2.1,v1.2.2.2.2.2.2.2.2.2.2.2.1,v1.2.2.2.2.2.2.2.2.2.2.2.2.1,v1.2.2.2.2.2.2.2.2.2.2.2.2.2)
@[go_sem] def T260:=qT62 qu26 false r260
@[go_sem] def tb260 (k:Nat):=lk [(301,T301.sp),(302,T302.sp)] k
theorem f260:FnFact Tryz.prog 260 T260.sp:=by
 refine vm (tb:=tb260) (.cons f301 (.cons f302 .nil)) Tryz.func260 Tryz.ntmps260 fun ⟨x0,x1,x2,x3,x4,x5,x6,x7,x8,x9,x10,x11,x12,x13,x14,x15,x16,x17,x18,x19,x20,x21,x23,x22⟩ r hr stop S=> ?_
 rw [uq24,r260] at hr
 refine S.gx [] ?_
 obtain ⟨v1,hv1,hr⟩:=of_bind0 hr
 refine gb hv1 ?_
 refine S.li [3,4,5,6,7,8] [(3,3),(4,4),(5,5),(6,6),(7,7)] [] (fun s1=>⟨[sR 3 3,sR 4 4,sR 5 5,sR 6 6,sR 7 7,sI 8 s1.1],[(3,[.d (encF 4 d_IIII x0),.d (encF 5 d_IIIII x1),.d (encF 3 d_III x2),.d (encF 2 d_II x3),iC x4,iC x5,iC x6,iC x7]),(4,[iC x8,iC x9,iC x10,iC x11,iC x12,iC x13,iC x14,iC x15,iC x16,iC x17,iC x18,iC x19,iC x20,iC x21]),(5,[iC x23,iC x22]),(6,[iC 0,iC 0,iC 0,iC 0,iC 0,iC 0,iC 0,iC 0,iC 0,iC 0,iC 0,iC 0,iC 0,iC 0]),(7,[iC s1.2.1,iC s1.2.2.1,iC s1.2.2.2.1,iC s1.2.2.2.2.1,iC s1.2.2.2.2.2.1,iC s1.2.2.2.2.2.2.1,iC s1.2.2.2.2.2.2.2.1,iC s1.2.2.2.2.2.2.2.2.1,iC s1.2.2.2.2.2.2.2.2.2.1,iC s1.2.2.2.2.2.2.2.2.2.2.1,iC s1.2.2.2.2.2.2.2.2.2.2.2.1,iC s1.2.2.2.2.2.2.2.2.2.2.2.2.1,iC s1.2.2.2.2.2.2.2.2.2.2.2.2.2.1,iC s1.2.2.2.2.2.2.2.2.2.2.2.2.2.2])],[]⟩) (b260_1 x0 x1 x2 x3 x4 x5 x6 x7 x8 x9 x10 x11 x12 x13 x14 x15 x16 x17 x18 x19 x20 x21 x22) (fun q=>q=r) hr rfl ?_
 intro s1 hr
 unfold b260_1 at hr
 refine S.gx [] ?_
 exact D1 (S.ss [3,4,5,6,7,8] [(3,3),(4,4),(5,5),(6,6),(7,7)] []) hr
end Go.Proofs.YtnepigpnlnmlmaaGreatDoor

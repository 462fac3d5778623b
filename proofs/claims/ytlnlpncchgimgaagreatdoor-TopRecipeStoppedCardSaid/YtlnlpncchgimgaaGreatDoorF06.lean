/- Contracts of functions, written by wip/dec. -/
import Derived.Test.YtlnlpncchgimgaaGreatDoorF00
import Derived.Test.YtlnlpncchgimgaaGreatDoorF01
import Derived.Test.YtlnlpncchgimgaaGreatDoorF02
import Derived.Test.YtlnlpncchgimgaaGreatDoorF03
import Derived.Test.YtlnlpncchgimgaaGreatDoorF04
import Derived.Test.YtlnlpncchgimgaaGreatDoorF05
set_option linter.unusedVariables false
set_option linter.unusedSimpArgs false
set_option linter.constructorNameAsVariable false
set_option maxHeartbeats 4000000
set_option maxRecDepth 20000
namespace Go.Proofs.YtlnlpncchgimgaaGreatDoor
open Go.Abs
section
variable {β:Type} [Inhabited β] (u:β→List RV) (al:Bool)
def qw38 (a0 a1:Int) (a2:L_II) (a3:L_LIIE) (a4 a5:L_I) (a6:L_II) (a7 a8:Int) (a9:L_IIII) (a10:L_IIIII) (a11:L_III) (a12:L_II) (a13 a14 a15 a16:Int) (a17:L_III) (a18:Int):List Arg:=[.agg [.int .i64 a0,.int .i64 a1,encF 2 d_II a2,encF 1 d_LIIE a3,encF 1 d_I a4,encF 1 d_I a5,encF 2 d_II a6,.int .i64 a7,.int .i64 a8,encF 4 d_IIII a9,encF 5 d_IIIII a10,encF 3 d_III a11,encF 2 d_II a12,.int .i64 a13,.int .i64 a14,.int .i64 a15,.int .i64 a16,encF 3 d_III a17,.int .i64 a18]]
def qd38:List Arg→Int×Int×L_II×L_LIIE×L_I×L_I×L_II×Int×Int×L_IIII×L_IIIII×L_III×L_II×Int×Int×Int×Int×L_III×Int
 | [.agg [c0,c1,c2,c3,c4,c5,c6,c7,c8,c9,c10,c11,c12,c13,c14,c15,c16,c17,c18]]=>(dInt c0,dInt c1,decF g_II c2,decF g_LIIE c3,decF g_I c4,decF g_I c5,decF g_II c6,dInt c7,dInt c8,decF g_IIII c9,decF g_IIIII c10,decF g_III c11,decF g_II c12,dInt c13,dInt c14,dInt c15,dInt c16,decF g_III c17,dInt c18)
 | _=>default
def qT38 (r:Int→Int→L_II→L_LIIE→L_I→L_I→L_II→Int→Int→L_IIII→L_IIIII→L_III→L_II→Int→Int→Int→Int→L_III→Int→Option β):=mkT (u19 qw38) qd38 (u19 r) u al
attribute [go_sem] qw38 qd38 qT38
def qw39 (a0 a1:Int) (a2:L_II) (a3:L_LIIE) (a4 a5:L_I) (a6:L_II) (a7 a8 a9 a10:Int):List Arg:=[.agg [.int .i64 a0,.int .i64 a1,encF 2 d_II a2,encF 1 d_LIIE a3,encF 1 d_I a4,encF 1 d_I a5,encF 2 d_II a6,.int .i64 a7,.int .i64 a8],.agg [.int .i64 a9,.int .i64 a10],.clo 93 []]
def qd39:List Arg→Int×Int×L_II×L_LIIE×L_I×L_I×L_II×Int×Int×Int×Int
 | [.agg [c0,c1,c2,c3,c4,c5,c6,c7,c8],.agg [c9,c10],.clo _ []]=>(dInt c0,dInt c1,decF g_II c2,decF g_LIIE c3,decF g_I c4,decF g_I c5,decF g_II c6,dInt c7,dInt c8,dInt c9,dInt c10)
 | _=>default
def qT39 (r:Int→Int→L_II→L_LIIE→L_I→L_I→L_II→Int→Int→Int→Int→Option β):=mkT (u11 qw39) qd39 (u11 r) u al
attribute [go_sem] qw39 qd39 qT39
def qw40 (a0 a1:Int) (a2:L_II) (a3:L_LIIE) (a4 a5:L_I) (a6:L_II) (a7 a8 a9 a10:Int) (a11:L_II) (a12:L_LIIE) (a13 a14:L_I) (a15:L_II) (a16 a17:Int) (a18:L_IIII) (a19:L_IIIII) (a20:L_III) (a21:L_II) (a22 a23 a24 a25:Int) (a26:L_III) (a27 a28 a29:Int):List Arg:=[.agg [.int .i64 a0,.int .i64 a1,encF 2 d_II a2,encF 1 d_LIIE a3,encF 1 d_I a4,encF 1 d_I a5,encF 2 d_II a6,.int .i64 a7,.int .i64 a8,.int .i64 a9,.int .i64 a10,encF 2 d_II a11,encF 1 d_LIIE a12,encF 1 d_I a13,encF 1 d_I a14,encF 2 d_II a15,.int .i64 a16,.int .i64 a17,encF 4 d_IIII a18,encF 5 d_IIIII a19,encF 3 d_III a20,encF 2 d_II a21,.int .i64 a22,.int .i64 a23,.int .i64 a24,.int .i64 a25,encF 3 d_III a26,.int .i64 a27],.c (.int .i64 a28),.c (.int .i64 a29)]
def qd40:List Arg→Int×Int×L_II×L_LIIE×L_I×L_I×L_II×Int×Int×Int×Int×L_II×L_LIIE×L_I×L_I×L_II×Int×Int×L_IIII×L_IIIII×L_III×L_II×Int×Int×Int×Int×L_III×Int×Int×Int
 | [.agg [c0,c1,c2,c3,c4,c5,c6,c7,c8,c9,c10,c11,c12,c13,c14,c15,c16,c17,c18,c19,c20,c21,c22,c23,c24,c25,c26,c27],.c c28,.c c29]=>(dInt c0,dInt c1,decF g_II c2,decF g_LIIE c3,decF g_I c4,decF g_I c5,decF g_II c6,dInt c7,dInt c8,dInt c9,dInt c10,decF g_II c11,decF g_LIIE c12,decF g_I c13,decF g_I c14,decF g_II c15,dInt c16,dInt c17,decF g_IIII c18,decF g_IIIII c19,decF g_III c20,decF g_II c21,dInt c22,dInt c23,dInt c24,dInt c25,decF g_III c26,dInt c27,dInt c28,dInt c29)
 | _=>default
def qT40 (r:Int→Int→L_II→L_LIIE→L_I→L_I→L_II→Int→Int→Int→Int→L_II→L_LIIE→L_I→L_I→L_II→Int→Int→L_IIII→L_IIIII→L_III→L_II→Int→Int→Int→Int→L_III→Int→Int→Int→Option β):=mkT (u30 qw40) qd40 (u30 r) u al
attribute [go_sem] qw40 qd40 qT40
def qw41 (a0 a1:Int) (a2:L_II) (a3:L_LIIE) (a4 a5:L_I) (a6:L_II) (a7 a8:Int) (a9:L_IIII) (a10:L_IIIII) (a11:L_III) (a12:L_II) (a13 a14 a15 a16:Int) (a17:L_III) (a18 a19:Int):List Arg:=[.agg [.int .i64 a0,.int .i64 a1,encF 2 d_II a2,encF 1 d_LIIE a3,encF 1 d_I a4,encF 1 d_I a5,encF 2 d_II a6,.int .i64 a7,.int .i64 a8,encF 4 d_IIII a9,encF 5 d_IIIII a10,encF 3 d_III a11,encF 2 d_II a12,.int .i64 a13,.int .i64 a14,.int .i64 a15,.int .i64 a16,encF 3 d_III a17,.int .i64 a18],.c (.int .i64 a19)]
def qd41:List Arg→Int×Int×L_II×L_LIIE×L_I×L_I×L_II×Int×Int×L_IIII×L_IIIII×L_III×L_II×Int×Int×Int×Int×L_III×Int×Int
 | [.agg [c0,c1,c2,c3,c4,c5,c6,c7,c8,c9,c10,c11,c12,c13,c14,c15,c16,c17,c18],.c c19]=>(dInt c0,dInt c1,decF g_II c2,decF g_LIIE c3,decF g_I c4,decF g_I c5,decF g_II c6,dInt c7,dInt c8,decF g_IIII c9,decF g_IIIII c10,decF g_III c11,decF g_II c12,dInt c13,dInt c14,dInt c15,dInt c16,decF g_III c17,dInt c18,dInt c19)
 | _=>default
def qT41 (r:Int→Int→L_II→L_LIIE→L_I→L_I→L_II→Int→Int→L_IIII→L_IIIII→L_III→L_II→Int→Int→Int→Int→L_III→Int→Int→Option β):=mkT (u20 qw41) qd41 (u20 r) u al
attribute [go_sem] qw41 qd41 qT41
def qw42 (a0:L_S) (a1:ByteArray):List Arg:=[.c (encF 1 d_S a0),.c (.str a1)]
def qd42:List Arg→L_S×ByteArray
 | [.c c0,.c c1]=>(decF g_S c0,dStr c1)
 | _=>default
def qT42 (r:L_S→ByteArray→Option β):=mkT (u2 qw42) qd42 (u2 r) u al
attribute [go_sem] qw42 qd42 qT42
def qw43 (a0:L_II) (a1 a2:Int):List Arg:=[.c (encF 2 d_II a0),.c (.int .i64 a1),.c (.int .i64 a2)]
def qd43:List Arg→L_II×Int×Int
 | [.c c0,.c c1,.c c2]=>(decF g_II c0,dInt c1,dInt c2)
 | _=>default
def qT43 (r:L_II→Int→Int→Option β):=mkT (u3 qw43) qd43 (u3 r) u al
attribute [go_sem] qw43 qd43 qT43
def qu20 (v:Int×Int×L_II×L_LIIE×L_I×L_I×L_II×Int×Int×Int×Int×L_II×L_LIIE×L_I×L_I×L_II×Int×Int×L_IIII×L_IIIII×L_III×L_II×Int×Int×Int×Int×L_III×Int×Int):List RV:=[.agg [.d (.int .i64 v.1),.d (.int .i64 v.2.1),.d (encF 2 d_II v.2.2.1),.d (encF 1 d_LIIE v.2.2.2.1),.d (encF 1 d_I v.2.2.2.2.1),.d (encF 1 d_I v.2.2.2.2.2.1),.d (encF 2 d_II v.2.2.2.2.2.2.1),.d (.int .i64 v.2.2.2.2.2.2.2.1),.d (.int .i64 v.2.2.2.2.2.2.2.2.1),.d (.int .i64 v.2.2.2.2.2.2.2.2.2.1),.d (.int .i64 v.2.2.2.2.2.2.2.2.2.2.1),.d (encF 2 d_II v.2.2.2.2.2.2.2.2.2.2.2.1),.d (encF 1 d_LIIE v.2.2.2.2.2.2.2.2.2.2.2.2.1),.d (encF 1 d_I v.2.2.2.2.2.2.2.2.2.2.2.2.2.1),.d (encF 1 d_I v.2.2.2.2.2.2.2.2.2.2.2.2.2.2.1),.d (encF 2 d_II v.2.2.2.2.2.2.2.2.2.2.2.2.2.2.2.1),.d (.int .i64 v.2.2.2.2.2.2.2.2.2.2.2.2.2.2.2.2.1),.d (.int .i64 v.2.2.2.2.2.2.2.2.2.2.2.2.2.2.2.2.2.1),.d (encF 4 d_IIII v.2.2.2.2.2.2.2.2.2.2.2.2.2.2.2.2.2.2.1),.d (encF 5 d_IIIII v.2.2.2.2.2.2.2.2.2.2.2.2.2.2.2.2.2.2.2.1),.d (encF 3 d_III v.2.2.2.2.2.2.2.2.2.2.2.2.2.2.2.2.2.2.2.2.1),.d (encF 2 d_II v.2.2.2.2.2.2.2.2.2.2.2.2.2.2.2.2.2.2.2.2.2.1),.d (.int .i64 v.2.2.2.2.2.2.2.2.2.2.2.2.2.2.2.2.2.2.2.2.2.2.1),.d (.int .i64 v.2.2.2.2.2.2.2.2.2.2.2.2.2.2.2.2.2.2.2.2.2.2.2.1),.d (.int .i64 v.2.2.2.2.2.2.2.2.2.2.2.2.2.2.2.2.2.2.2.2.2.2.2.2.1),.d (.int .i64 v.2.2.2.2.2.2.2.2.2.2.2.2.2.2.2.2.2.2.2.2.2.2.2.2.2.1),.d (encF 3 d_III v.2.2.2.2.2.2.2.2.2.2.2.2.2.2.2.2.2.2.2.2.2.2.2.2.2.2.1),.d (.int .i64 v.2.2.2.2.2.2.2.2.2.2.2.2.2.2.2.2.2.2.2.2.2.2.2.2.2.2.2.1)],.c (.d (.int .i64 v.2.2.2.2.2.2.2.2.2.2.2.2.2.2.2.2.2.2.2.2.2.2.2.2.2.2.2.2))]
attribute [go_sem] qu20
def qu21 (v:ByteArray):List RV:=[.c (.d (.str v))]
attribute [go_sem] qu21
end
def r122 (a0:Int):Option (Bool):=
 (r37 a0 0 2000).bind fun v1=>
  some v1
def T122:=qT4 qu2 false r122
attribute [go_sem] T122
def tb122:Fns:=lk [(37,T37.sp)]
theorem tb122_ok:FnsOk Tryz.prog tb122:= .cons f37 .nil
theorem tk122:tb122 37=some T37.sp:=rfl
section
attribute [local go_sem] tk122 Tryz.results122
theorem f122:FnFact Tryz.prog 122 T122.sp:=by
 refine valid_m ty_ok tb122_ok Tryz.func122 rfl Tryz.ntmps122 fun a0 r hr=>⟨nL rfl,fun stop S=> ?_⟩
 replace hr:r122 a0=some r:=hr
 unfold r122 at hr
 refine S.gx [] ?_
 exact D0 hr
end
def b92_1 (x1:Int) (x0:L_III) (x2:Int):Bd Int (Int×Int):=fun s1=>
 if (decide (s1<(x0.length:Int)))=true then
  if 0≤s1∧s1<(x0.length:Int) then
   bindC (r37 ((x0.getD s1.toNat default).1) 0 (IntKind.i64.wrap (x1 - 1))) fun v5=>
    bindC (r39 v5 6) fun v6=>
     bindC (r122 ((x0.getD s1.toNat default).2.1)) fun v7=>
      if v7=true→(r122 ((x0.getD s1.toNat default).2.2)).isSome=true then
       bindC (r39 (v7 && ((r122 ((x0.getD s1.toNat default).2.2)).getD default)) 2) fun v8=>
        bindC (r39 (decide (((x0.getD s1.toNat default).2.1)≤((x0.getD s1.toNat default).2.2))) 9) fun v9=>
         bindC (r38 [v6,v8,v9]) fun v10=>
          if (v10 != 0)=true then
           .out (some (s1,v10))
           else .next (IntKind.i64.wrap (s1+1))
       else .out none
   else .out none
  else .out ((r37 x2 200 3000).bind fun v13=>
   (r39 v13 2).bind fun v14=>
    some (0,v14))
def r92 (x1 x3:Int) (x4:L_II) (x5:L_LIIE) (x6 x7:L_I) (x8:L_II) (x9 x10:Int) (x11:L_IIII) (x12:L_IIIII) (x13:L_III) (x14:L_II) (x15 x16 x17 x18:Int) (x0:L_III) (x2:Int):Option (Int×Int):=
 (r87 x1 x3 x4 x5 x6 x7 x8 x9 x10).bind fun v1=>
  (r121 x11 x12 x13 x14 x15 x16 x17 x18).bind fun v2=>
   (r39 (decide ((x0.length:Int)≤6)) 8).bind fun v3=>
    (r38 [v1.2,v2.2,v3]).bind fun v4=>
     if (v4 != 0)=true then
      some (0,v4)
      else iterC (b92_1 x1 x0 x2) 1000000000 0
def T92:=qT38 qu4 false r92
attribute [go_sem] T92
def tb92:Fns:=lk [(37,T37.sp),(38,T38.sp),(39,T39.sp),(87,T87.sp),(121,T121.sp),(122,T122.sp)]
theorem tb92_ok:FnsOk Tryz.prog tb92:= .cons f37 (.cons f38 (.cons f39 (.cons f87 (.cons f121 (.cons f122 .nil)))))
theorem tk92:tb92 37=some T37.sp∧tb92 38=some T38.sp∧tb92 39=some T39.sp∧tb92 87=some T87.sp∧tb92 121=some T121.sp∧tb92 122=some T122.sp:=⟨rfl,rfl,rfl,rfl,rfl,rfl⟩
section
attribute [local go_sem] tk92 Tryz.results92
theorem f92:FnFact Tryz.prog 92 T92.sp:=by
 refine valid_m ty_ok tb92_ok Tryz.func92 rfl Tryz.ntmps92 fun ⟨x1,x3,x4,x5,x6,x7,x8,x9,x10,x11,x12,x13,x14,x15,x16,x17,x18,x0,x2⟩ r hr=>⟨nL rfl,fun stop S=> ?_⟩
 replace hr:r92 x1 x3 x4 x5 x6 x7 x8 x9 x10 x11 x12 x13 x14 x15 x16 x17 x18 x0 x2=some r:=hr
 unfold r92 at hr
 refine S.gx [5,6,11] ?_
 obtain ⟨v1,hv1,hr⟩:=of_bind0 hr
 obtain ⟨v2,hv2,hr⟩:=of_bind0 hr
 obtain ⟨v3,hv3,hr⟩:=of_bind0 hr
 obtain ⟨v4,hv4,hr⟩:=of_bind0 hr
 refine gb hv1 ?_
 refine gb hv2 ?_
 refine gb hv3 ?_
 refine gb hv4 ?_
 refine iW hr (fun hc hr=> ?_) fun hc hr=> ?_
 ·refine gr ?_
  refine S.prune [8] ?_
  refine S.gx [6,11] ?_
  exact D0 hr
 ·refine gr ?_
  refine S.prune [1] ?_
  refine S.gx [5,11] ?_
  refine gr ?_
  refine gr ?_
  refine S.sees [1,9,38,39,40] [(1,1)] [] ?_ (Stop.iter S (fun s1=>⟨[(1,.c (.ref 1 0)),(9,.c (.clo 122 [])),(38,.c (.d (encF 3 d_III x0))),(39,.c (.d (.int .i64 (x0.length:Int)))),(40,.c (.d (.int .i64 s1)))],[(1,[.d (.int .i64 x1),.d (.int .i64 x3),.d (encF 2 d_II x4),.d (encF 1 d_LIIE x5),.d (encF 1 d_I x6),.d (encF 1 d_I x7),.d (encF 2 d_II x8),.d (.int .i64 x9),.d (.int .i64 x10),.d (encF 4 d_IIII x11),.d (encF 5 d_IIIII x12),.d (encF 3 d_III x13),.d (encF 2 d_II x14),.d (.int .i64 x15),.d (.int .i64 x16),.d (.int .i64 x17),.d (.int .i64 x18),.d (encF 3 d_III x0),.d (.int .i64 x2)])],[]⟩) (b92_1 x1 x0 x2) (fun q=>q=r) hr rfl ?_)
  ·exact lf
  ·intro s1 hr
   unfold b92_1 at hr
   refine S.gx [5,6,11] ?_
   refine gr ?_
   refine iW1 hr (fun hc hr=> ?_) fun hc hr=>D0 hr
   obtain ⟨hg11,hr⟩:=of_guard1 hr
   obtain ⟨v5,hv5,hr⟩:=of_bind1 hr
   obtain ⟨v6,hv6,hr⟩:=of_bind1 hr
   obtain ⟨v7,hv7,hr⟩:=of_bind1 hr
   obtain ⟨hg12,hr⟩:=of_guard1 hr
   obtain ⟨v8,hv8,hr⟩:=of_bind1 hr
   obtain ⟨v9,hv9,hr⟩:=of_bind1 hr
   obtain ⟨v10,hv10,hr⟩:=of_bind1 hr
   try simp only [hv5,hv6,hv7,hv8,hv9,hv10,Option.getD_some,Option.isSome_some,true_and,and_assoc]
   repeat (first | refine gG hg12 ?_ | refine gA ?_ | refine gB ?_)
   refine S.prune [1,9,10,12,38,39,40] ?_
   refine S.gx [5,6] ?_
   exact D1 (S.ss [1,9,38,39,40] [(1,1)] []) hr
end
def r56 (x0 x1:Int) (x2:L_II) (x3:L_LIIE) (x4 x5:L_I) (x6:L_II) (x7 x8:Int) (x9:L_IIII) (x10:L_IIIII) (x11:L_III) (x12:L_II) (x13 x14 x15 x16:Int) (x17:L_III) (x18:Int):Option (Int×Int×L_II×L_LIIE×L_I×L_I×L_II×Int×Int×Int×Int×L_II×L_LIIE×L_I×L_I×L_II×Int×Int×L_IIII×L_IIIII×L_III×L_II×Int×Int×Int×Int×L_III×Int×Int):=
 (r92 x0 x1 x2 x3 x4 x5 x6 x7 x8 x9 x10 x11 x12 x13 x14 x15 x16 x17 x18).bind fun v1=>
  some (x0,x1,x2,x3,x4,x5,x6,x7,x8,x0,x1,x2,x3,x4,x5,x6,x7,x8,x9,x10,x11,x12,x13,x14,x15,x16,x17,x18,v1.2)
def T56:=qT38 qu20 true r56
attribute [go_sem] T56
def tb56:Fns:=lk [(92,T92.sp)]
theorem tb56_ok:FnsOk Tryz.prog tb56:= .cons f92 .nil
theorem tk56:tb56 92=some T92.sp:=rfl
section
attribute [local go_sem] tk56 Tryz.results56
theorem f56:FnFact Tryz.prog 56 T56.sp:=by
 refine valid_m ty_ok tb56_ok Tryz.func56 rfl Tryz.ntmps56 fun ⟨x0,x1,x2,x3,x4,x5,x6,x7,x8,x9,x10,x11,x12,x13,x14,x15,x16,x17,x18⟩ r hr=>⟨nL rfl,fun stop S=> ?_⟩
 replace hr:r56 x0 x1 x2 x3 x4 x5 x6 x7 x8 x9 x10 x11 x12 x13 x14 x15 x16 x17 x18=some r:=hr
 unfold r56 at hr
 refine S.gx [] ?_
 exact D0 hr
end
def r93 (x1 x0:Int):Option (Int):=
 some x0
def T93:=qT25 qu3 false r93
attribute [go_sem] T93
def tb93:Fns:=lk []
theorem tb93_ok:FnsOk Tryz.prog tb93:=FnsOk.nil
section
attribute [local go_sem] Tryz.results93
theorem f93:FnFact Tryz.prog 93 T93.sp:=by
 refine valid_m ty_ok tb93_ok Tryz.func93 rfl Tryz.ntmps93 fun ⟨x1,x0⟩ r hr=>⟨nL rfl,fun stop S=> ?_⟩
 replace hr:r93 x1 x0=some r:=hr
 unfold r93 at hr
 refine S.gx [] ?_
 exact D0 hr
end
def b68a_1 (x0:L_II) (x2 x1:Int):Bd (Int×(List (Int))) (L_I×Int):=fun s1=>
 if (decide (s1.1<(x0.length:Int)))=true then
  if 0≤s1.1∧s1.1<(x0.length:Int) then
   bindC (r93 ((x0.getD s1.1.toNat default).1) ((x0.getD s1.1.toNat default).2)) fun v1=>
    if (s1.2.length+1)*8≤140737488355328∧s1.2.length+1≤9223372036854775807 then
     .next (IntKind.i64.wrap (s1.1+1),s1.2++[IntKind.i64.wrap ((IntKind.i64.wrap (x2*v1)).tdiv 1000)])
     else .out none
   else .out none
  else .out (some (s1.2,x1))
def r68a (x3 x4:Int) (x5:L_II) (x6:L_LIIE) (x7 x8:L_I) (x0:L_II) (x9 x10 x2 x1:Int):Option (L_I×Int):=
 iterC (b68a_1 x0 x2 x1) 1000000000 (0,[])
def T68a:=qT39 qu13 false r68a
attribute [go_sem] T68a
def tb68a:Fns:=lk [(93,T93.sp)]
theorem tb68a_ok:FnsOk Tryz.prog tb68a:= .cons f93 .nil
theorem tk68a:tb68a 93=some T93.sp:=rfl
section
attribute [local go_sem] tk68a Tryz.results68
theorem f68a:FnFact Tryz.prog 68 T68a.sp:=by
 refine valid_m ty_ok tb68a_ok Tryz.func68 rfl Tryz.ntmps68 fun ⟨x3,x4,x5,x6,x7,x8,x0,x9,x10,x2,x1⟩ r hr=>⟨nL rfl,fun stop S=> ?_⟩
 replace hr:r68a x3 x4 x5 x6 x7 x8 x0 x9 x10 x2 x1=some r:=hr
 unfold r68a at hr
 refine S.gx [] ?_
 refine gr ?_
 refine S.own0b 7 0 2000700 1 rfl rfl (nL rfl) rfl ?_
 refine S.sees [2,4,6,7,15,16,17] [(4,4),(6,6),(7,7)] [(2000700,2000700)] ?_ (Stop.iter S (fun s1=>⟨[(2,.c (.clo 93 [])),(4,.c (.ref 4 0)),(6,.c (.ref 6 0)),(7,.c (.ref 7 0)),(15,.c (.d (encF 2 d_II x0))),(16,.c (.d (.int .i64 (x0.length:Int)))),(17,.c (.d (.int .i64 s1.1)))],[(4,[.d (.int .i64 x2),.d (.int .i64 x1)]),(6,[.nils,.d (.int .i64 0)]),(7,[.own 2000700,.d (.int .i64 x1)])],[(2000700,.owned (encF 1 d_I s1.2))]⟩) (b68a_1 x0 x2 x1) (fun q=>q=r) hr rfl ?_)
 ·exact lf
 ·intro s1 hr
  unfold b68a_1 at hr
  refine S.gx [] ?_
  exact D1 (S.ss [2,4,6,7,15,16,17] [(4,4),(6,6),(7,7)] [(31,2000700)]) hr
end
def b57_1 (x0 x1:Int) (x2:L_II) (x3:L_LIIE) (x5 x4:L_I) (x6:L_II) (x7 x8:Int) (x9:L_IIII) (a1:Int) (v1:L_I×Int):Bd (L_I×Int) (Int×Bool):=fun s1=>
 if (decide (s1.2<201))=true then
  if 0≤a1∧a1<(s1.1.length:Int) then
   if 0≤0∧0<(x9.length:Int) then
    bindC (r72 x0 x1 x2 x3 x5 x4 x6 x7 x8 (s1.1.getD a1.toNat default) ((x9.getD 0 default).1)) fun v2=>
     if (decide (v2≥0))=true then
      .out (some (s1.2,true))
      else bindC (r20 x0 x1 x2 x3 s1.1 v1.1 v1.2) fun v3=>
       if (v3.2 != 0)=true then
        .out (some (s1.2,true))
        else .next (v3.1,IntKind.i64.wrap (s1.2+1))
    else .out none
   else .out none
  else .out (some (0,false))
def r57 (x0 x1:Int) (x2:L_II) (x3:L_LIIE) (x5 x4:L_I) (x6:L_II) (x7 x8 x10 x11:Int) (x12:L_II) (x13:L_LIIE) (x14 x15:L_I) (x16:L_II) (x17 x18:Int) (x9:L_IIII) (x19:L_IIIII) (x20:L_III) (x21:L_II) (x22 x23 x24 x25:Int) (x26:L_III) (x27 a1 a2:Int):Option (Int×Bool):=
 (r68a x0 x1 x2 x3 x5 x4 x6 x7 x8 a2 0).bind fun v1=>
  iterC (b57_1 x0 x1 x2 x3 x5 x4 x6 x7 x8 x9 a1 v1) 1000000000 (x4,0)
def T57:=qT40 qu6 false r57
attribute [go_sem] T57
def tb57:Fns:=lk [(20,T20.sp),(68,T68a.sp),(72,T72.sp)]
theorem tb57_ok:FnsOk Tryz.prog tb57:= .cons f20 (.cons f68a (.cons f72 .nil))
theorem tk57:tb57 20=some T20.sp∧tb57 68=some T68a.sp∧tb57 72=some T72.sp:=⟨rfl,rfl,rfl⟩
section
attribute [local go_sem] tk57 Tryz.results57
theorem f57:FnFact Tryz.prog 57 T57.sp:=by
 refine valid_m ty_ok tb57_ok Tryz.func57 rfl Tryz.ntmps57 fun ⟨x0,x1,x2,x3,x5,x4,x6,x7,x8,x10,x11,x12,x13,x14,x15,x16,x17,x18,x9,x19,x20,x21,x22,x23,x24,x25,x26,x27,a1,a2⟩ r hr=>⟨nL rfl,fun stop S=> ?_⟩
 replace hr:r57 x0 x1 x2 x3 x5 x4 x6 x7 x8 x10 x11 x12 x13 x14 x15 x16 x17 x18 x9 x19 x20 x21 x22 x23 x24 x25 x26 x27 a1 a2=some r:=hr
 unfold r57 at hr
 refine S.gx [10,11] ?_
 obtain ⟨v1,hv1,hr⟩:=of_bind0 hr
 refine gb hv1 ?_
 refine S.sees [1,3,8,9,23] [(3,3),(8,8)] [(17,17)] ?_ (Stop.iter S (fun s1=>⟨[(1,.c (.d (.int .i64 a1))),(3,.c (.ref 3 0)),(8,.c (.ref 8 0)),(9,.c (.d (encF 1 d_I s1.1))),(23,.c (.d (.int .i64 s1.2)))],[(3,[.d (.int .i64 x0),.d (.int .i64 x1),.d (encF 2 d_II x2),.d (encF 1 d_LIIE x3),.d (encF 1 d_I x5),.d (encF 1 d_I x4),.d (encF 2 d_II x6),.d (.int .i64 x7),.d (.int .i64 x8),.d (.int .i64 x10),.d (.int .i64 x11),.d (encF 2 d_II x12),.d (encF 1 d_LIIE x13),.d (encF 1 d_I x14),.d (encF 1 d_I x15),.d (encF 2 d_II x16),.d (.int .i64 x17),.d (.int .i64 x18),.d (encF 4 d_IIII x9),.d (encF 5 d_IIIII x19),.d (encF 3 d_III x20),.d (encF 2 d_II x21),.d (.int .i64 x22),.d (.int .i64 x23),.d (.int .i64 x24),.d (.int .i64 x25),.d (encF 3 d_III x26),.d (.int .i64 x27)]),(8,[.own 17,.d (.int .i64 v1.2)])],[(17,.owned (encF 1 d_I v1.1))]⟩) (b57_1 x0 x1 x2 x3 x5 x4 x6 x7 x8 x9 a1 v1) (fun q=>q=r) hr rfl ?_)
 ·exact lf
 ·intro s1 hr
  unfold b57_1 at hr
  refine S.gx [10,11] ?_
  refine gr ?_
  refine iW1 hr (fun hc hr=> ?_) fun hc hr=>D0 hr
  obtain ⟨hg4,hr⟩:=of_guard1 hr
  obtain ⟨hg5,hr⟩:=of_guard1 hr
  obtain ⟨v2,hv2,hr⟩:=of_bind1 hr
  refine gb hv2 ?_
  refine iW1 hr (fun hc hr=>D0 hr) fun hc hr=> ?_
  obtain ⟨v3,hv3,hr⟩:=of_bind1 hr
  refine gb hv3 ?_
  refine iW1 hr (fun hc hr=> ?_) fun hc hr=> ?_
  ·refine gr ?_
   refine S.prune [10] ?_
   refine S.gx [11] ?_
   exact D0 hr
  ·refine gr ?_
   refine S.prune [1,3,8,11,23] ?_
   refine S.gx [10] ?_
   refine gr ?_
   refine gr ?_
   refine S.share 49 rfl ?_
   exact D1 (S.ss [1,3,8,9,23] [(3,3),(8,8)] [(17,17)]) hr
end
def b27_1 (x1:L_IIII) (x2:Int) (x0:L_III) (a1:Int) (v1:Int×Int×L_II×L_LIIE×L_I×L_I×L_II×Int×Int×Int×Int×L_II×L_LIIE×L_I×L_I×L_II×Int×Int×L_IIII×L_IIIII×L_III×L_II×Int×Int×Int×Int×L_III×Int×Int):Bd (Int×Int) (Int×Int):=fun s1=>
 if (decide (s1.2<(x0.length:Int)))=true then
  if 0≤s1.2∧s1.2<(x0.length:Int) then
   if (decide (((x0.getD s1.2.toNat default).2.1)≤x2))=true then
    .next (s1.1,IntKind.i64.wrap (s1.2+1))
    else if ((x1.length:Int) == 0)=true then
     .out (some (0,12))
     else bindC (r57 v1.1 v1.2.1 v1.2.2.1 v1.2.2.2.1 v1.2.2.2.2.1 v1.2.2.2.2.2.1 v1.2.2.2.2.2.2.1 v1.2.2.2.2.2.2.2.1 v1.2.2.2.2.2.2.2.2.1 v1.2.2.2.2.2.2.2.2.2.1 v1.2.2.2.2.2.2.2.2.2.2.1 v1.2.2.2.2.2.2.2.2.2.2.2.1 v1.2.2.2.2.2.2.2.2.2.2.2.2.1 v1.2.2.2.2.2.2.2.2.2.2.2.2.2.1 v1.2.2.2.2.2.2.2.2.2.2.2.2.2.2.1 v1.2.2.2.2.2.2.2.2.2.2.2.2.2.2.2.1 v1.2.2.2.2.2.2.2.2.2.2.2.2.2.2.2.2.1 v1.2.2.2.2.2.2.2.2.2.2.2.2.2.2.2.2.2.1 v1.2.2.2.2.2.2.2.2.2.2.2.2.2.2.2.2.2.2.1 v1.2.2.2.2.2.2.2.2.2.2.2.2.2.2.2.2.2.2.2.1 v1.2.2.2.2.2.2.2.2.2.2.2.2.2.2.2.2.2.2.2.2.1 v1.2.2.2.2.2.2.2.2.2.2.2.2.2.2.2.2.2.2.2.2.2.1 v1.2.2.2.2.2.2.2.2.2.2.2.2.2.2.2.2.2.2.2.2.2.2.1 v1.2.2.2.2.2.2.2.2.2.2.2.2.2.2.2.2.2.2.2.2.2.2.2.1 v1.2.2.2.2.2.2.2.2.2.2.2.2.2.2.2.2.2.2.2.2.2.2.2.2.1 v1.2.2.2.2.2.2.2.2.2.2.2.2.2.2.2.2.2.2.2.2.2.2.2.2.2.1 v1.2.2.2.2.2.2.2.2.2.2.2.2.2.2.2.2.2.2.2.2.2.2.2.2.2.2.1 v1.2.2.2.2.2.2.2.2.2.2.2.2.2.2.2.2.2.2.2.2.2.2.2.2.2.2.2.1 ((x0.getD s1.2.toNat default).1) a1) fun v5=>
      if (!v5.2)=true then
       .out (some (0,12))
       else .next ((if s1.1<v5.1 then v5.1 else s1.1),IntKind.i64.wrap (s1.2+1))
   else .out none
  else .out (some (s1.1,0))
def r27 (x3 x4:Int) (x5:L_II) (x6:L_LIIE) (x7 x8:L_I) (x9:L_II) (x10 x11:Int) (x1:L_IIII) (x12:L_IIIII) (x13:L_III) (x14:L_II) (x2 x15 x16 x17:Int) (x0:L_III) (x18 a1:Int):Option (Int×Int):=
 (r56 x3 x4 x5 x6 x7 x8 x9 x10 x11 x1 x12 x13 x14 x2 x15 x16 x17 x0 x18).bind fun v1=>
  (r37 a1 1 10000).bind fun v2=>
   (r39 v2 2).bind fun v3=>
    (r38 [v1.2.2.2.2.2.2.2.2.2.2.2.2.2.2.2.2.2.2.2.2.2.2.2.2.2.2.2.2,v3]).bind fun v4=>
     if (v4 != 0)=true then
      some (0,v4)
      else iterC (b27_1 x1 x2 x0 a1 v1) 1000000000 (0,0)
def T27:=qT41 qu4 false r27
attribute [go_sem] T27
def tb27:Fns:=lk [(37,T37.sp),(38,T38.sp),(39,T39.sp),(56,T56.sp),(57,T57.sp)]
theorem tb27_ok:FnsOk Tryz.prog tb27:= .cons f37 (.cons f38 (.cons f39 (.cons f56 (.cons f57 .nil))))
theorem tk27:tb27 37=some T37.sp∧tb27 38=some T38.sp∧tb27 39=some T39.sp∧tb27 56=some T56.sp∧tb27 57=some T57.sp:=⟨rfl,rfl,rfl,rfl,rfl⟩
section
attribute [local go_sem] tk27 Tryz.results27
theorem f27:FnFact Tryz.prog 27 T27.sp:=by
 refine valid_m ty_ok tb27_ok Tryz.func27 rfl Tryz.ntmps27 fun ⟨x3,x4,x5,x6,x7,x8,x9,x10,x11,x1,x12,x13,x14,x2,x15,x16,x17,x0,x18,a1⟩ r hr=>⟨nL rfl,fun stop S=> ?_⟩
 replace hr:r27 x3 x4 x5 x6 x7 x8 x9 x10 x11 x1 x12 x13 x14 x2 x15 x16 x17 x0 x18 a1=some r:=hr
 unfold r27 at hr
 refine S.gx [14,16] ?_
 obtain ⟨v1,hv1,hr⟩:=of_bind0 hr
 obtain ⟨v2,hv2,hr⟩:=of_bind0 hr
 obtain ⟨v3,hv3,hr⟩:=of_bind0 hr
 obtain ⟨v4,hv4,hr⟩:=of_bind0 hr
 refine gb hv1 ?_
 refine gb hv2 ?_
 refine gb hv3 ?_
 refine gb hv4 ?_
 refine iW hr (fun hc hr=>D0 hr) fun hc hr=> ?_
 refine gr ?_
 refine S.sees [1,2,6,8,28,29,30] [(2,2),(6,6)] [] ?_ (Stop.iter S (fun s1=>⟨[(1,.c (.d (.int .i64 a1))),(2,.c (.ref 2 0)),(6,.c (.ref 6 0)),(8,.c (.d (.int .i64 s1.1))),(28,.c (.d (encF 3 d_III x0))),(29,.c (.d (.int .i64 (x0.length:Int)))),(30,.c (.d (.int .i64 s1.2)))],[(2,[.d (.int .i64 x3),.d (.int .i64 x4),.d (encF 2 d_II x5),.d (encF 1 d_LIIE x6),.d (encF 1 d_I x7),.d (encF 1 d_I x8),.d (encF 2 d_II x9),.d (.int .i64 x10),.d (.int .i64 x11),.d (encF 4 d_IIII x1),.d (encF 5 d_IIIII x12),.d (encF 3 d_III x13),.d (encF 2 d_II x14),.d (.int .i64 x2),.d (.int .i64 x15),.d (.int .i64 x16),.d (.int .i64 x17),.d (encF 3 d_III x0),.d (.int .i64 x18)]),(6,[.d (.int .i64 v1.1),.d (.int .i64 v1.2.1),.d (encF 2 d_II v1.2.2.1),.d (encF 1 d_LIIE v1.2.2.2.1),.d (encF 1 d_I v1.2.2.2.2.1),.d (encF 1 d_I v1.2.2.2.2.2.1),.d (encF 2 d_II v1.2.2.2.2.2.2.1),.d (.int .i64 v1.2.2.2.2.2.2.2.1),.d (.int .i64 v1.2.2.2.2.2.2.2.2.1),.d (.int .i64 v1.2.2.2.2.2.2.2.2.2.1),.d (.int .i64 v1.2.2.2.2.2.2.2.2.2.2.1),.d (encF 2 d_II v1.2.2.2.2.2.2.2.2.2.2.2.1),.d (encF 1 d_LIIE v1.2.2.2.2.2.2.2.2.2.2.2.2.1),.d (encF 1 d_I v1.2.2.2.2.2.2.2.2.2.2.2.2.2.1),.d (encF 1 d_I v1.2.2.2.2.2.2.2.2.2.2.2.2.2.2.1),.d (encF 2 d_II v1.2.2.2.2.2.2.2.2.2.2.2.2.2.2.2.1),.d (.int .i64 v1.2.2.2.2.2.2.2.2.2.2.2.2.2.2.2.2.1),.d (.int .i64 v1.2.2.2.2.2.2.2.2.2.2.2.2.2.2.2.2.2.1),.d (encF 4 d_IIII v1.2.2.2.2.2.2.2.2.2.2.2.2.2.2.2.2.2.2.1),.d (encF 5 d_IIIII v1.2.2.2.2.2.2.2.2.2.2.2.2.2.2.2.2.2.2.2.1),.d (encF 3 d_III v1.2.2.2.2.2.2.2.2.2.2.2.2.2.2.2.2.2.2.2.2.1),.d (encF 2 d_II v1.2.2.2.2.2.2.2.2.2.2.2.2.2.2.2.2.2.2.2.2.2.1),.d (.int .i64 v1.2.2.2.2.2.2.2.2.2.2.2.2.2.2.2.2.2.2.2.2.2.2.1),.d (.int .i64 v1.2.2.2.2.2.2.2.2.2.2.2.2.2.2.2.2.2.2.2.2.2.2.2.1),.d (.int .i64 v1.2.2.2.2.2.2.2.2.2.2.2.2.2.2.2.2.2.2.2.2.2.2.2.2.1),.d (.int .i64 v1.2.2.2.2.2.2.2.2.2.2.2.2.2.2.2.2.2.2.2.2.2.2.2.2.2.1),.d (encF 3 d_III v1.2.2.2.2.2.2.2.2.2.2.2.2.2.2.2.2.2.2.2.2.2.2.2.2.2.2.1),.d (.int .i64 v1.2.2.2.2.2.2.2.2.2.2.2.2.2.2.2.2.2.2.2.2.2.2.2.2.2.2.2.1)])],[]⟩) (b27_1 x1 x2 x0 a1 v1) (fun q=>q=r) hr rfl ?_)
 ·exact lf
 ·intro s1 hr
  unfold b27_1 at hr
  refine S.gx [14,16] ?_
  refine gr ?_
  refine iW1 hr (fun hc hr=> ?_) fun hc hr=>D0 hr
  obtain ⟨hg6,hr⟩:=of_guard1 hr
  refine gr ?_
  refine iW1 hr (fun hc hr=> ?_) fun hc hr=> ?_
  ·refine gr ?_
   refine S.prune [1,2,6,8,28,29,30] ?_
   refine S.gx [14] ?_
   exact D1 (S.ss [1,2,6,8,28,29,30] [(2,2),(6,6)] []) hr
  ·refine gr ?_
   refine iW1 hr (fun hc hr=>D0 hr) fun hc hr=> ?_
   obtain ⟨v5,hv5,hr⟩:=of_bind1 hr
   refine gb hv5 ?_
   refine iW1 hr (fun hc hr=> ?_) fun hc hr=> ?_
   ·refine gr ?_
    refine S.prune [] ?_
    refine S.gx [16] ?_
    exact D0 hr
   ·refine gr ?_
    refine S.prune [1,2,6,8,28,29,30] ?_
    refine S.gx [14] ?_
    exact D1 (S.ss [1,2,6,8,28,29,30] [(2,2),(6,6)] []) hr
end
def r34 (a0:Int):Option (ByteArray):=
 itoaV a0
def T34:=qT4 qu21 false r34
attribute [go_sem] T34
theorem f34:FnFact Tryz.prog 34 T34.sp:=⟨⟨Tryz.f34,Tryz.func34,by decide,rfl⟩,lib_Itoa (fun _=>rfl) (fun _=>rfl) (fun _=>rfl) rfl⟩
def r35 (a0:L_S) (a1:ByteArray):Option (ByteArray):=
 joinV a0 a1
def T35:=qT42 qu21 false r35
attribute [go_sem] T35
theorem f35:FnFact Tryz.prog 35 T35.sp:=⟨⟨Tryz.f35,Tryz.func35,by decide,rfl⟩,lib_Join (fun _=>rfl) (fun _=>rfl) (fun _=>rfl) rfl⟩
def b10_1 (a0:L_II):Bd ((List (ByteArray))×Int) ByteArray:=fun s1=>
 if (decide (s1.2<(a0.length:Int)))=true then
  if 0≤s1.2∧s1.2<(a0.length:Int) then
   bindC (r34 ((a0.getD s1.2.toNat default).1)) fun v1=>
    if v1.size+(#[32]:Array UInt8).size≤9223372036854775807 then
     bindC (r34 ((a0.getD s1.2.toNat default).2)) fun v2=>
      if v1.size+(#[32]:Array UInt8).size+v2.size≤9223372036854775807 then
       if (s1.1.length+1)*16≤140737488355328∧s1.1.length+1≤9223372036854775807 then
        .next (s1.1++[(v1++(⟨#[32]⟩:ByteArray))++v2],IntKind.i64.wrap (s1.2+1))
        else .out none
       else .out none
     else .out none
   else .out none
  else .out ((r35 s1.1 (⟨#[59]⟩:ByteArray)).bind fun v7=>
   some v7)
def r10 (a0:L_II):Option (ByteArray):=
 iterC (b10_1 a0) 1000000000 ([],0)
def T10:=qT5 qu21 false r10
attribute [go_sem] T10
def tb10:Fns:=lk [(34,T34.sp),(35,T35.sp)]
theorem tb10_ok:FnsOk Tryz.prog tb10:= .cons f34 (.cons f35 .nil)
theorem tk10:tb10 34=some T34.sp∧tb10 35=some T35.sp:=⟨rfl,rfl⟩
section
attribute [local go_sem] tk10 Tryz.results10
theorem f10:FnFact Tryz.prog 10 T10.sp:=by
 refine valid_m ty_ok tb10_ok Tryz.func10 rfl Tryz.ntmps10 fun a0 r hr=>⟨nL rfl,fun stop S=> ?_⟩
 replace hr:r10 a0=some r:=hr
 unfold r10 at hr
 refine S.gx [] ?_
 refine gr ?_
 refine S.own0 3 1000300 1 rfl rfl ?_
 refine S.sees [3,6,7,8] [] [(1000300,1000300)] ?_ (Stop.iter S (fun s1=>⟨[(3,.c (.own 1000300)),(6,.c (.d (encF 2 d_II a0))),(7,.c (.d (.int .i64 (a0.length:Int)))),(8,.c (.d (.int .i64 s1.2)))],[],[(1000300,.owned (encF 1 d_S s1.1))]⟩) (b10_1 a0) (fun q=>q=r) hr rfl ?_)
 ·exact lf
 ·intro s1 hr
  unfold b10_1 at hr
  refine S.gx [] ?_
  exact D1 (S.ss [3,6,7,8] [] [(22,1000300)]) hr
end
def r4:Option (Bool):=
 (r25).bind fun v1=>
  (r26).bind fun v2=>
   (r24 v1.1 v1.2.1 v1.2.2.1 v1.2.2.2.1 v1.2.2.2.2.1 v1.2.2.2.2.2.1 v1.2.2.2.2.2.2.1 v1.2.2.2.2.2.2.2.1 v1.2.2.2.2.2.2.2.2 v2).bind fun v3=>
    (r28).bind fun v4=>
     (r27 v4.1 v4.2.1 v4.2.2.1 v4.2.2.2.1 v4.2.2.2.2.1 v4.2.2.2.2.2.1 v4.2.2.2.2.2.2.1 v4.2.2.2.2.2.2.2.1 v4.2.2.2.2.2.2.2.2.1 v4.2.2.2.2.2.2.2.2.2.1 v4.2.2.2.2.2.2.2.2.2.2.1 v4.2.2.2.2.2.2.2.2.2.2.2.1 v4.2.2.2.2.2.2.2.2.2.2.2.2.1 v4.2.2.2.2.2.2.2.2.2.2.2.2.2.1 v4.2.2.2.2.2.2.2.2.2.2.2.2.2.2.1 v4.2.2.2.2.2.2.2.2.2.2.2.2.2.2.2.1 v4.2.2.2.2.2.2.2.2.2.2.2.2.2.2.2.2.1 v4.2.2.2.2.2.2.2.2.2.2.2.2.2.2.2.2.2.1 v4.2.2.2.2.2.2.2.2.2.2.2.2.2.2.2.2.2.2 400).bind fun v5=>
      if (v3.2 == 0)=true→(r10 v3.1).isSome=true then
       some ((((v3.2 == 0) && (decide (((r10 v3.1).getD default)=(⟨#[52,48,48,32,48,59,52,48,48,32,48,59,48,32,49,59,48,32,49,59,48,32,49]⟩:ByteArray)))) && (v5.2 == 0)) && (v5.1 == 2))
       else none
def T4:=qT0 qu2 false r4
attribute [go_sem] T4
def tb4:Fns:=lk [(10,T10.sp),(24,T24.sp),(25,T25.sp),(26,T26.sp),(27,T27.sp),(28,T28.sp)]
theorem tb4_ok:FnsOk Tryz.prog tb4:= .cons f10 (.cons f24 (.cons f25 (.cons f26 (.cons f27 (.cons f28 .nil)))))
theorem tk4:tb4 10=some T10.sp∧tb4 24=some T24.sp∧tb4 25=some T25.sp∧tb4 26=some T26.sp∧tb4 27=some T27.sp∧tb4 28=some T28.sp:=⟨rfl,rfl,rfl,rfl,rfl,rfl⟩
section
attribute [local go_sem] tk4 Tryz.results4
theorem f4:FnFact Tryz.prog 4 T4.sp:=by
 refine valid_m ty_ok tb4_ok Tryz.func4 rfl Tryz.ntmps4 fun _ r hr=>⟨nL rfl,fun stop S=> ?_⟩
 replace hr:r4=some r:=hr
 unfold r4 at hr
 refine S.gx [] ?_
 obtain ⟨v1,hv1,hr⟩:=of_bind0 hr
 obtain ⟨v2,hv2,hr⟩:=of_bind0 hr
 obtain ⟨v3,hv3,hr⟩:=of_bind0 hr
 obtain ⟨v4,hv4,hr⟩:=of_bind0 hr
 obtain ⟨v5,hv5,hr⟩:=of_bind0 hr
 obtain ⟨hg6,hr⟩:=of_guard0 hr
 try simp only [hv1,hv2,hv3,hv4,hv5,Option.getD_some,Option.isSome_some,true_and,and_assoc]
 repeat (first | refine gG hg6 ?_ | refine gA ?_ | refine gB ?_)
 exact D0 hr
end
def b5_1 (x0:L_LIIE):Bd Int Bool:=fun s1=>
 if (decide (s1<(x0.length:Int)))=true then
  if 0≤s1∧s1<(x0.length:Int) then
   if (decide (((x0.getD s1.toNat default).length:Int)>14))=true then
    .out (some false)
    else .next (IntKind.i64.wrap (s1+1))
   else .out none
  else .out (some true)
def r5 (x1 x6:Int) (x2:L_II) (x0:L_LIIE) (x3 x4:L_I) (x5:L_II) (x7 x8:Int):Option (Bool):=
 if ((((((decide (x1>14)) || (decide ((x2.length:Int)>14))) || (decide ((x0.length:Int)>14))) || (decide ((x3.length:Int)>14))) || (decide ((x4.length:Int)>14))) || (decide ((x5.length:Int)>14)))=true then
  some false
  else iterC (b5_1 x0) 1000000000 0
def T5:=qT19 qu2 false r5
attribute [go_sem] T5
def tb5:Fns:=lk []
theorem tb5_ok:FnsOk Tryz.prog tb5:=FnsOk.nil
section
attribute [local go_sem] Tryz.results5
theorem f5:FnFact Tryz.prog 5 T5.sp:=by
 refine valid_m ty_ok tb5_ok Tryz.func5 rfl Tryz.ntmps5 fun ⟨x1,x6,x2,x0,x3,x4,x5,x7,x8⟩ r hr=>⟨nL rfl,fun stop S=> ?_⟩
 replace hr:r5 x1 x6 x2 x0 x3 x4 x5 x7 x8=some r:=hr
 unfold r5 at hr
 refine S.gx [2,3] ?_
 repeat (first | refine gA ?_ | refine gB ?_)
 refine iW hr (fun hc hr=> ?_) fun hc hr=> ?_
 ·refine gr ?_
  refine S.prune [] ?_
  refine S.gx [3] ?_
  exact D0 hr
 ·refine gr ?_
  refine S.prune [1] ?_
  refine S.gx [2] ?_
  refine gr ?_
  refine gr ?_
  refine S.sees [1,3] [(1,1)] [] ?_ (Stop.iter S (fun s1=>⟨[(1,.c (.ref 1 0)),(3,.c (.d (.int .i64 s1)))],[(1,[.d (.int .i64 x1),.d (.int .i64 x6),.d (encF 2 d_II x2),.d (encF 1 d_LIIE x0),.d (encF 1 d_I x3),.d (encF 1 d_I x4),.d (encF 2 d_II x5),.d (.int .i64 x7),.d (.int .i64 x8)])],[]⟩) (b5_1 x0) (fun q=>q=r) hr rfl ?_)
  ·exact lf
  ·intro s1 hr
   unfold b5_1 at hr
   refine S.gx [2,3] ?_
   exact D1 (S.ss [1,3] [(1,1)] []) hr
end
def r15 (a0 a1 a2:Int):Option (Bool):=
 some ((decide (a1≤a0)) && (decide (a0≤a2)))
def T15:=qT1 qu2 false r15
attribute [go_sem] T15
def tb15:Fns:=lk []
theorem tb15_ok:FnsOk Tryz.prog tb15:=FnsOk.nil
section
attribute [local go_sem] Tryz.results15
theorem f15:FnFact Tryz.prog 15 T15.sp:=by
 refine valid_m ty_ok tb15_ok Tryz.func15 rfl Tryz.ntmps15 fun ⟨a0,a1,a2⟩ r hr=>⟨nL rfl,fun stop S=> ?_⟩
 replace hr:r15 a0 a1 a2=some r:=hr
 unfold r15 at hr
 refine S.gx [] ?_
 repeat (first | refine gA ?_ | refine gB ?_)
 exact D0 hr
end
def r8 (a0:Int):Option (Bool):=
 (r15 a0 200 3000).bind fun v1=>
  some v1
def T8:=qT4 qu2 false r8
attribute [go_sem] T8
def tb8:Fns:=lk [(15,T15.sp)]
theorem tb8_ok:FnsOk Tryz.prog tb8:= .cons f15 .nil
theorem tk8:tb8 15=some T15.sp:=rfl
section
attribute [local go_sem] tk8 Tryz.results8
theorem f8:FnFact Tryz.prog 8 T8.sp:=by
 refine valid_m ty_ok tb8_ok Tryz.func8 rfl Tryz.ntmps8 fun a0 r hr=>⟨nL rfl,fun stop S=> ?_⟩
 replace hr:r8 a0=some r:=hr
 unfold r8 at hr
 refine S.gx [] ?_
 exact D0 hr
end
def b114_1 (a0:L_II):Bd Int Int:=fun s1=>
 if (decide (s1<(a0.length:Int)))=true then
  if 0≤s1∧s1<(a0.length:Int) then
   bindC (r8 ((a0.getD s1.toNat default).1)) fun v1=>
    if (!(!v1))=true→0≤s1∧s1<(a0.length:Int) then
     if (!(!v1))=true→(r15 ((a0.getD s1.toNat default).2) 0 1000).isSome=true then
      if ((!v1) || (!((r15 ((a0.getD s1.toNat default).2) 0 1000).getD default)))=true then
       .out (some 2)
       else if (decide (s1>0))=true then
        if 0≤s1∧s1<(a0.length:Int) then
         if 0≤IntKind.i64.wrap (s1 - 1)∧IntKind.i64.wrap (s1 - 1)<(a0.length:Int) then
          if 0≤s1∧s1<(a0.length:Int) then
           if 0≤IntKind.i64.wrap (s1 - 1)∧IntKind.i64.wrap (s1 - 1)<(a0.length:Int) then
            if ((decide ((IntKind.i64.wrap (((a0.getD s1.toNat default).1) - ((a0.getD (IntKind.i64.wrap (s1 - 1)).toNat default).1)))≤0)) || (decide ((IntKind.i64.wrap (((a0.getD s1.toNat default).2) - ((a0.getD (IntKind.i64.wrap (s1 - 1)).toNat default).2)))<0)))=true then
             .out (some 9)
             else if (decide ((IntKind.i64.wrap (2*(IntKind.i64.wrap (((a0.getD s1.toNat default).2) - ((a0.getD (IntKind.i64.wrap (s1 - 1)).toNat default).2)))))>(IntKind.i64.wrap (((a0.getD s1.toNat default).1) - ((a0.getD (IntKind.i64.wrap (s1 - 1)).toNat default).1)))))=true then
              .out (some 22)
              else .next (IntKind.i64.wrap (s1+1))
            else .out none
           else .out none
          else .out none
         else .out none
        else .next (IntKind.i64.wrap (s1+1))
      else .out none
     else .out none
   else .out none
  else .out (some 0)
def r114 (a0:L_II):Option (Int):=
 if (decide ((a0.length:Int)>6))=true then
  some 8
  else iterC (b114_1 a0) 1000000000 0
def T114:=qT5 qu3 false r114
attribute [go_sem] T114
def tb114:Fns:=lk [(8,T8.sp),(15,T15.sp)]
theorem tb114_ok:FnsOk Tryz.prog tb114:= .cons f8 (.cons f15 .nil)
theorem tk114:tb114 8=some T8.sp∧tb114 15=some T15.sp:=⟨rfl,rfl⟩
section
attribute [local go_sem] tk114 Tryz.results114
theorem f114:FnFact Tryz.prog 114 T114.sp:=by
 refine valid_m ty_ok tb114_ok Tryz.func114 rfl Tryz.ntmps114 fun a0 r hr=>⟨nL rfl,fun stop S=> ?_⟩
 replace hr:r114 a0=some r:=hr
 unfold r114 at hr
 refine S.gx [10] ?_
 refine gr ?_
 refine iW hr (fun hc hr=>D0 hr) fun hc hr=> ?_
 refine gr ?_
 refine S.sees [0,3] [] [] ?_ (Stop.iter S (fun s1=>⟨[(0,.c (.d (encF 2 d_II a0))),(3,.c (.d (.int .i64 s1)))],[],[]⟩) (b114_1 a0) (fun q=>q=r) hr rfl ?_)
 ·exact lf
 ·intro s1 hr
  unfold b114_1 at hr
  refine S.gx [10] ?_
  refine gr ?_
  refine iW1 hr (fun hc hr=> ?_) fun hc hr=>D0 hr
  obtain ⟨hg6,hr⟩:=of_guard1 hr
  obtain ⟨v1,hv1,hr⟩:=of_bind1 hr
  obtain ⟨hg7,hr⟩:=of_guard1 hr
  obtain ⟨hg8,hr⟩:=of_guard1 hr
  try simp only [hv1,oG,oI,true_and,and_assoc]
  repeat (first | refine gG hg7 ?_ | refine gG hg8 ?_ | refine gA ?_ | refine gB ?_)
  refine iW1 hr (fun hc hr=>D0 hr) fun hc hr=> ?_
  refine gr ?_
  refine iW1 hr (fun hc hr=> ?_) fun hc hr=>D1 (S.ss [0,3] [] []) hr
  obtain ⟨hg2,hr⟩:=of_guard1 hr
  obtain ⟨hg3,hr⟩:=of_guard1 hr
  obtain ⟨hg4,hr⟩:=of_guard1 hr
  obtain ⟨hg5,hr⟩:=of_guard1 hr
  refine gr ?_
  refine S.prune [0,3,4,5] ?_
  refine S.gx [] ?_
  repeat (first | refine gA ?_ | refine gB ?_)
  exact D1 (S.ss [0,3] [] []) hr
end
def b145_1 (a0:L_II) (a1 a2:Int):Bd Int (Int×Int):=fun s1=>
 if (decide (s1<(a0.length:Int)))=true then
  if 0≤s1∧s1<(a0.length:Int) then
   if (decide (a1≤(IntKind.i64.wrap (((a0.getD s1.toNat default).1)*a2))))=true then
    if (s1 == 0)=true then
     if 0≤0∧0<(a0.length:Int) then
      .out (some ((a0.getD 0 default).2,1))
      else .out none
     else if 0≤IntKind.i64.wrap (s1 - 1)∧IntKind.i64.wrap (s1 - 1)<(a0.length:Int) then
      if 0≤s1∧s1<(a0.length:Int) then
       .out (some (IntKind.i64.wrap ((IntKind.i64.wrap (((a0.getD (IntKind.i64.wrap (s1 - 1)).toNat default).2)*(IntKind.i64.wrap ((IntKind.i64.wrap (((a0.getD s1.toNat default).1) - ((a0.getD (IntKind.i64.wrap (s1 - 1)).toNat default).1)))*a2))))+(IntKind.i64.wrap ((IntKind.i64.wrap (((a0.getD s1.toNat default).2) - ((a0.getD (IntKind.i64.wrap (s1 - 1)).toNat default).2)))*(IntKind.i64.wrap (a1 - (IntKind.i64.wrap (((a0.getD (IntKind.i64.wrap (s1 - 1)).toNat default).1)*a2))))))),IntKind.i64.wrap ((IntKind.i64.wrap (((a0.getD s1.toNat default).1) - ((a0.getD (IntKind.i64.wrap (s1 - 1)).toNat default).1)))*a2)))
       else .out none
      else .out none
    else .next (IntKind.i64.wrap (s1+1))
   else .out none
  else .out (if 0≤IntKind.i64.wrap ((a0.length:Int) - 1)∧IntKind.i64.wrap ((a0.length:Int) - 1)<(a0.length:Int) then
   some ((a0.getD (IntKind.i64.wrap ((a0.length:Int) - 1)).toNat default).2,1)
   else none)
def r145 (a0:L_II) (a1 a2:Int):Option (Int×Int):=
 if ((a0.length:Int) == 0)=true then
  some (0,1)
  else iterC (b145_1 a0 a1 a2) 1000000000 0
def T145:=qT43 qu4 false r145
attribute [go_sem] T145
def tb145:Fns:=lk []
theorem tb145_ok:FnsOk Tryz.prog tb145:=FnsOk.nil
section
attribute [local go_sem] Tryz.results145
theorem f145:FnFact Tryz.prog 145 T145.sp:=by
 refine valid_m ty_ok tb145_ok Tryz.func145 rfl Tryz.ntmps145 fun ⟨a0,a1,a2⟩ r hr=>⟨nL rfl,fun stop S=> ?_⟩
 replace hr:r145 a0 a1 a2=some r:=hr
 unfold r145 at hr
 refine S.gx [11] ?_
 refine gr ?_
 refine iW hr (fun hc hr=>D0 hr) fun hc hr=> ?_
 refine gr ?_
 refine S.sees [0,1,2,8] [] [] ?_ (Stop.iter S (fun s1=>⟨[(0,.c (.d (encF 2 d_II a0))),(1,.c (.d (.int .i64 a1))),(2,.c (.d (.int .i64 a2))),(8,.c (.d (.int .i64 s1)))],[],[]⟩) (b145_1 a0 a1 a2) (fun q=>q=r) hr rfl ?_)
 ·exact lf
 ·intro s1 hr
  unfold b145_1 at hr
  refine S.gx [11] ?_
  refine gr ?_
  refine iW1 hr (fun hc hr=> ?_) fun hc hr=>D0 hr
  obtain ⟨hg4,hr⟩:=of_guard1 hr
  refine gr ?_
  refine iW1 hr (fun hc hr=> ?_) fun hc hr=>D1 (S.ss [0,1,2,8] [] []) hr
  refine gr ?_
  refine iW1 hr (fun hc hr=>D0 hr) fun hc hr=> ?_
  obtain ⟨hg2,hr⟩:=of_guard1 hr
  obtain ⟨hg3,hr⟩:=of_guard1 hr
  refine gr ?_
  refine S.prune [1,2,9,10,11] ?_
  refine S.gx [] ?_
  exact D0 hr
end
end Go.Proofs.YtlnlpncchgimgaaGreatDoor

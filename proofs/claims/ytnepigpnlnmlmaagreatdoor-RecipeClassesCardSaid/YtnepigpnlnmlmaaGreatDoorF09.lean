/- Contracts of functions, written by wip/dec. -/
import Derived.Test.YtnepigpnlnmlmaaGreatDoorF00
import Derived.Test.YtnepigpnlnmlmaaGreatDoorF02
import Derived.Test.YtnepigpnlnmlmaaGreatDoorF03
import Derived.Test.YtnepigpnlnmlmaaGreatDoorF04
import Derived.Test.YtnepigpnlnmlmaaGreatDoorF05
import Derived.Test.YtnepigpnlnmlmaaGreatDoorF06
import Derived.Test.YtnepigpnlnmlmaaGreatDoorF07
import Derived.Test.YtnepigpnlnmlmaaGreatDoorF08
set_option linter.unusedVariables false
set_option linter.unusedSimpArgs false
set_option linter.constructorNameAsVariable false
set_option maxHeartbeats 4000000
set_option maxRecDepth 20000
namespace Go.Proofs.YtnepigpnlnmlmaaGreatDoor
open Go.Abs
section
variable {β:Type} [Inhabited β] (u:β→List RV) (al:Bool)
def qw63 (a0:L_IIII) (a1:L_IIIII) (a2:L_III) (a3:L_II) (a4 a5 a6 a7 a8 a9 a10 a11 a12 a13 a14 a15 a16 a17 a18 a19 a20 a21:Int) (a22:L_II):List Arg:=[.agg [encF 4 d_IIII a0,encF 5 d_IIIII a1,encF 3 d_III a2,encF 2 d_II a3,.int .i64 a4,.int .i64 a5,.int .i64 a6,.int .i64 a7],.agg [.int .i64 a8,.int .i64 a9,.int .i64 a10,.int .i64 a11,.int .i64 a12,.int .i64 a13,.int .i64 a14,.int .i64 a15,.int .i64 a16,.int .i64 a17,.int .i64 a18,.int .i64 a19,.int .i64 a20,.int .i64 a21],.c (encF 2 d_II a22)]
def qd63:List Arg→L_IIII×L_IIIII×L_III×L_II×Int×Int×Int×Int×Int×Int×Int×Int×Int×Int×Int×Int×Int×Int×Int×Int×Int×Int×L_II
 | [.agg [c0,c1,c2,c3,c4,c5,c6,c7],.agg [c8,c9,c10,c11,c12,c13,c14,c15,c16,c17,c18,c19,c20,c21],.c c22]=>(decF g_IIII c0,decF g_IIIII c1,decF g_III c2,decF g_II c3,dInt c4,dInt c5,dInt c6,dInt c7,dInt c8,dInt c9,dInt c10,dInt c11,dInt c12,dInt c13,dInt c14,dInt c15,dInt c16,dInt c17,dInt c18,dInt c19,dInt c20,dInt c21,decF g_II c22)
 | _=>default
def qT63 (r:L_IIII→L_IIIII→L_III→L_II→Int→Int→Int→Int→Int→Int→Int→Int→Int→Int→Int→Int→Int→Int→Int→Int→Int→Int→L_II→Option β):=mkT (u23 qw63) qd63 (u23 r) u al
attribute [go_sem] qw63 qd63 qT63
def qw64 (a0 a1 a2 a3 a4 a5 a6 a7 a8 a9 a10 a11 a12 a13 a14 a15:Int):List Arg:=[.agg [.int .i64 a0,.int .i64 a1,.int .i64 a2,.int .i64 a3,.int .i64 a4,.int .i64 a5,.int .i64 a6,.int .i64 a7],.agg [.int .i64 a8,.int .i64 a9,.int .i64 a10,.int .i64 a11],.agg [.int .i64 a12,.int .i64 a13,.int .i64 a14,.int .i64 a15]]
def qd64:List Arg→Int×Int×Int×Int×Int×Int×Int×Int×Int×Int×Int×Int×Int×Int×Int×Int
 | [.agg [c0,c1,c2,c3,c4,c5,c6,c7],.agg [c8,c9,c10,c11],.agg [c12,c13,c14,c15]]=>(dInt c0,dInt c1,dInt c2,dInt c3,dInt c4,dInt c5,dInt c6,dInt c7,dInt c8,dInt c9,dInt c10,dInt c11,dInt c12,dInt c13,dInt c14,dInt c15)
 | _=>default
def qT64 (r:Int→Int→Int→Int→Int→Int→Int→Int→Int→Int→Int→Int→Int→Int→Int→Int→Option β):=mkT (u16 qw64) qd64 (u16 r) u al
attribute [go_sem] qw64 qd64 qT64
def qw65 (a0:L_IIII) (a1:L_IIIII) (a2:L_III) (a3:L_II) (a4 a5 a6 a7 a8 a9 a10 a11 a12 a13 a14 a15 a16 a17 a18 a19 a20 a21:Int):List Arg:=[.agg [encF 4 d_IIII a0,encF 5 d_IIIII a1,encF 3 d_III a2,encF 2 d_II a3,.int .i64 a4,.int .i64 a5,.int .i64 a6,.int .i64 a7],.agg [.int .i64 a8,.int .i64 a9,.int .i64 a10,.int .i64 a11,.int .i64 a12,.int .i64 a13,.int .i64 a14,.int .i64 a15,.int .i64 a16,.int .i64 a17,.int .i64 a18,.int .i64 a19,.int .i64 a20,.int .i64 a21]]
def qd65:List Arg→L_IIII×L_IIIII×L_III×L_II×Int×Int×Int×Int×Int×Int×Int×Int×Int×Int×Int×Int×Int×Int×Int×Int×Int×Int
 | [.agg [c0,c1,c2,c3,c4,c5,c6,c7],.agg [c8,c9,c10,c11,c12,c13,c14,c15,c16,c17,c18,c19,c20,c21]]=>(decF g_IIII c0,decF g_IIIII c1,decF g_III c2,decF g_II c3,dInt c4,dInt c5,dInt c6,dInt c7,dInt c8,dInt c9,dInt c10,dInt c11,dInt c12,dInt c13,dInt c14,dInt c15,dInt c16,dInt c17,dInt c18,dInt c19,dInt c20,dInt c21)
 | _=>default
def qT65 (r:L_IIII→L_IIIII→L_III→L_II→Int→Int→Int→Int→Int→Int→Int→Int→Int→Int→Int→Int→Int→Int→Int→Int→Int→Int→Option β):=mkT (u22 qw65) qd65 (u22 r) u al
attribute [go_sem] qw65 qd65 qT65
def qw66 (a0:L_IIII) (a1:L_IIIII) (a2:L_III) (a3:L_II) (a4 a5 a6 a7 a8 a9 a10 a11 a12 a13 a14 a15 a16 a17 a18 a19 a20 a21:Int) (a22:L_LIIE):List Arg:=[.agg [encF 4 d_IIII a0,encF 5 d_IIIII a1,encF 3 d_III a2,encF 2 d_II a3,.int .i64 a4,.int .i64 a5,.int .i64 a6,.int .i64 a7],.agg [.int .i64 a8,.int .i64 a9,.int .i64 a10,.int .i64 a11,.int .i64 a12,.int .i64 a13,.int .i64 a14,.int .i64 a15,.int .i64 a16,.int .i64 a17,.int .i64 a18,.int .i64 a19,.int .i64 a20,.int .i64 a21],.c (encF 1 d_LIIE a22)]
def qd66:List Arg→L_IIII×L_IIIII×L_III×L_II×Int×Int×Int×Int×Int×Int×Int×Int×Int×Int×Int×Int×Int×Int×Int×Int×Int×Int×L_LIIE
 | [.agg [c0,c1,c2,c3,c4,c5,c6,c7],.agg [c8,c9,c10,c11,c12,c13,c14,c15,c16,c17,c18,c19,c20,c21],.c c22]=>(decF g_IIII c0,decF g_IIIII c1,decF g_III c2,decF g_II c3,dInt c4,dInt c5,dInt c6,dInt c7,dInt c8,dInt c9,dInt c10,dInt c11,dInt c12,dInt c13,dInt c14,dInt c15,dInt c16,dInt c17,dInt c18,dInt c19,dInt c20,dInt c21,decF g_LIIE c22)
 | _=>default
def qT66 (r:L_IIII→L_IIIII→L_III→L_II→Int→Int→Int→Int→Int→Int→Int→Int→Int→Int→Int→Int→Int→Int→Int→Int→Int→Int→L_LIIE→Option β):=mkT (u23 qw66) qd66 (u23 r) u al
attribute [go_sem] qw66 qd66 qT66
def qw67 (a0 a1:Int) (a2:L_II) (a3:L_LIIE) (a4 a5:L_I) (a6:L_II) (a7 a8 a9 a10:Int) (a11:L_II) (a12:L_LIIE) (a13 a14:L_I) (a15:L_II) (a16 a17:Int) (a18:L_IIII) (a19:L_IIIII) (a20:L_III) (a21:L_II) (a22 a23 a24 a25:Int) (a26:L_III) (a27:Int) (a28:L_II):List Arg:=[.agg [.int .i64 a0,.int .i64 a1,encF 2 d_II a2,encF 1 d_LIIE a3,encF 1 d_I a4,encF 1 d_I a5,encF 2 d_II a6,.int .i64 a7,.int .i64 a8,.int .i64 a9,.int .i64 a10,encF 2 d_II a11,encF 1 d_LIIE a12,encF 1 d_I a13,encF 1 d_I a14,encF 2 d_II a15,.int .i64 a16,.int .i64 a17,encF 4 d_IIII a18,encF 5 d_IIIII a19,encF 3 d_III a20,encF 2 d_II a21,.int .i64 a22,.int .i64 a23,.int .i64 a24,.int .i64 a25,encF 3 d_III a26,.int .i64 a27],.c (encF 2 d_II a28)]
def qd67:List Arg→Int×Int×L_II×L_LIIE×L_I×L_I×L_II×Int×Int×Int×Int×L_II×L_LIIE×L_I×L_I×L_II×Int×Int×L_IIII×L_IIIII×L_III×L_II×Int×Int×Int×Int×L_III×Int×L_II
 | [.agg [c0,c1,c2,c3,c4,c5,c6,c7,c8,c9,c10,c11,c12,c13,c14,c15,c16,c17,c18,c19,c20,c21,c22,c23,c24,c25,c26,c27],.c c28]=>(dInt c0,dInt c1,decF g_II c2,decF g_LIIE c3,decF g_I c4,decF g_I c5,decF g_II c6,dInt c7,dInt c8,dInt c9,dInt c10,decF g_II c11,decF g_LIIE c12,decF g_I c13,decF g_I c14,decF g_II c15,dInt c16,dInt c17,decF g_IIII c18,decF g_IIIII c19,decF g_III c20,decF g_II c21,dInt c22,dInt c23,dInt c24,dInt c25,decF g_III c26,dInt c27,decF g_II c28)
 | _=>default
def qT67 (r:Int→Int→L_II→L_LIIE→L_I→L_I→L_II→Int→Int→Int→Int→L_II→L_LIIE→L_I→L_I→L_II→Int→Int→L_IIII→L_IIIII→L_III→L_II→Int→Int→Int→Int→L_III→Int→L_II→Option β):=mkT (u29 qw67) qd67 (u29 r) u al
attribute [go_sem] qw67 qd67 qT67
def qw68 (a0 a1:Int) (a2:L_II) (a3:L_LIIE) (a4 a5:L_I) (a6:L_II) (a7 a8:Int) (a9:L_IIII) (a10:L_IIIII) (a11:L_III) (a12:L_II) (a13 a14 a15 a16:Int) (a17:L_III) (a18:Int) (a19:L_II):List Arg:=[.agg [.int .i64 a0,.int .i64 a1,encF 2 d_II a2,encF 1 d_LIIE a3,encF 1 d_I a4,encF 1 d_I a5,encF 2 d_II a6,.int .i64 a7,.int .i64 a8,encF 4 d_IIII a9,encF 5 d_IIIII a10,encF 3 d_III a11,encF 2 d_II a12,.int .i64 a13,.int .i64 a14,.int .i64 a15,.int .i64 a16,encF 3 d_III a17,.int .i64 a18],.c (encF 2 d_II a19)]
def qd68:List Arg→Int×Int×L_II×L_LIIE×L_I×L_I×L_II×Int×Int×L_IIII×L_IIIII×L_III×L_II×Int×Int×Int×Int×L_III×Int×L_II
 | [.agg [c0,c1,c2,c3,c4,c5,c6,c7,c8,c9,c10,c11,c12,c13,c14,c15,c16,c17,c18],.c c19]=>(dInt c0,dInt c1,decF g_II c2,decF g_LIIE c3,decF g_I c4,decF g_I c5,decF g_II c6,dInt c7,dInt c8,decF g_IIII c9,decF g_IIIII c10,decF g_III c11,decF g_II c12,dInt c13,dInt c14,dInt c15,dInt c16,decF g_III c17,dInt c18,decF g_II c19)
 | _=>default
def qT68 (r:Int→Int→L_II→L_LIIE→L_I→L_I→L_II→Int→Int→L_IIII→L_IIIII→L_III→L_II→Int→Int→Int→Int→L_III→Int→L_II→Option β):=mkT (u20 qw68) qd68 (u20 r) u al
attribute [go_sem] qw68 qd68 qT68
def qw69 (a0 a1:Int) (a2:L_II) (a3:L_LIIE) (a4 a5:L_I) (a6:L_II) (a7 a8 a9 a10:Int) (a11:L_II) (a12:L_LIIE) (a13 a14:L_I) (a15:L_II) (a16 a17:Int) (a18:L_IIII) (a19:L_IIIII) (a20:L_III) (a21:L_II) (a22 a23 a24 a25:Int) (a26:L_III) (a27 a28 a29:Int):List Arg:=[.agg [.int .i64 a0,.int .i64 a1,encF 2 d_II a2,encF 1 d_LIIE a3,encF 1 d_I a4,encF 1 d_I a5,encF 2 d_II a6,.int .i64 a7,.int .i64 a8,.int .i64 a9,.int .i64 a10,encF 2 d_II a11,encF 1 d_LIIE a12,encF 1 d_I a13,encF 1 d_I a14,encF 2 d_II a15,.int .i64 a16,.int .i64 a17,encF 4 d_IIII a18,encF 5 d_IIIII a19,encF 3 d_III a20,encF 2 d_II a21,.int .i64 a22,.int .i64 a23,.int .i64 a24,.int .i64 a25,encF 3 d_III a26,.int .i64 a27],.c (.int .i64 a28),.c (.int .i64 a29)]
def qd69:List Arg→Int×Int×L_II×L_LIIE×L_I×L_I×L_II×Int×Int×Int×Int×L_II×L_LIIE×L_I×L_I×L_II×Int×Int×L_IIII×L_IIIII×L_III×L_II×Int×Int×Int×Int×L_III×Int×Int×Int
 | [.agg [c0,c1,c2,c3,c4,c5,c6,c7,c8,c9,c10,c11,c12,c13,c14,c15,c16,c17,c18,c19,c20,c21,c22,c23,c24,c25,c26,c27],.c c28,.c c29]=>(dInt c0,dInt c1,decF g_II c2,decF g_LIIE c3,decF g_I c4,decF g_I c5,decF g_II c6,dInt c7,dInt c8,dInt c9,dInt c10,decF g_II c11,decF g_LIIE c12,decF g_I c13,decF g_I c14,decF g_II c15,dInt c16,dInt c17,decF g_IIII c18,decF g_IIIII c19,decF g_III c20,decF g_II c21,dInt c22,dInt c23,dInt c24,dInt c25,decF g_III c26,dInt c27,dInt c28,dInt c29)
 | _=>default
def qT69 (r:Int→Int→L_II→L_LIIE→L_I→L_I→L_II→Int→Int→Int→Int→L_II→L_LIIE→L_I→L_I→L_II→Int→Int→L_IIII→L_IIIII→L_III→L_II→Int→Int→Int→Int→L_III→Int→Int→Int→Option β):=mkT (u30 qw69) qd69 (u30 r) u al
attribute [go_sem] qw69 qd69 qT69
def qw70 (a0 a1:Int) (a2:L_II) (a3:L_LIIE) (a4 a5:L_I) (a6:L_II) (a7 a8:Int) (a9:L_IIII) (a10:L_IIIII) (a11:L_III) (a12:L_II) (a13 a14 a15 a16:Int) (a17:L_III) (a18 a19:Int):List Arg:=[.agg [.int .i64 a0,.int .i64 a1,encF 2 d_II a2,encF 1 d_LIIE a3,encF 1 d_I a4,encF 1 d_I a5,encF 2 d_II a6,.int .i64 a7,.int .i64 a8,encF 4 d_IIII a9,encF 5 d_IIIII a10,encF 3 d_III a11,encF 2 d_II a12,.int .i64 a13,.int .i64 a14,.int .i64 a15,.int .i64 a16,encF 3 d_III a17,.int .i64 a18],.c (.int .i64 a19)]
def qd70:List Arg→Int×Int×L_II×L_LIIE×L_I×L_I×L_II×Int×Int×L_IIII×L_IIIII×L_III×L_II×Int×Int×Int×Int×L_III×Int×Int
 | [.agg [c0,c1,c2,c3,c4,c5,c6,c7,c8,c9,c10,c11,c12,c13,c14,c15,c16,c17,c18],.c c19]=>(dInt c0,dInt c1,decF g_II c2,decF g_LIIE c3,decF g_I c4,decF g_I c5,decF g_II c6,dInt c7,dInt c8,decF g_IIII c9,decF g_IIIII c10,decF g_III c11,decF g_II c12,dInt c13,dInt c14,dInt c15,dInt c16,decF g_III c17,dInt c18,dInt c19)
 | _=>default
def qT70 (r:Int→Int→L_II→L_LIIE→L_I→L_I→L_II→Int→Int→L_IIII→L_IIIII→L_III→L_II→Int→Int→Int→Int→L_III→Int→Int→Option β):=mkT (u20 qw70) qd70 (u20 r) u al
attribute [go_sem] qw70 qd70 qT70
def qw71 (a0 a1:ByteArray):List Arg:=[.c (.str a0),.c (.str a1)]
def qd71:List Arg→ByteArray×ByteArray
 | [.c c0,.c c1]=>(dStr c0,dStr c1)
 | _=>default
def qT71 (r:ByteArray→ByteArray→Option β):=mkT (u2 qw71) qd71 (u2 r) u al
attribute [go_sem] qw71 qd71 qT71
def qw72 (a0:ByteArray):List Arg:=[.c (.str a0)]
def qd72:List Arg→ByteArray
 | [.c c0]=>dStr c0
 | _=>default
def qT72 (r:ByteArray→Option β):=mkT (u1 qw72) qd72 (u1 r) u al
attribute [go_sem] qw72 qd72 qT72
def qu33 (v:Int×Int×Int×Int):List RV:=[.agg [.d (.int .i64 v.1),.d (.int .i64 v.2.1),.d (.int .i64 v.2.2.1),.d (.int .i64 v.2.2.2)]]
attribute [go_sem] qu33
def qu34 (v:L_II×L_LIIE×Int):List RV:=[.c (.own (encF 2 d_II v.1)),.c (.own (encF 1 d_LIIE v.2.1)),.c (.d (.int .i64 v.2.2))]
attribute [go_sem] qu34
def qu35 (v:ByteArray×Bool):List RV:=[.c (.d (.str v.1)),.c (.d (.bool v.2))]
attribute [go_sem] qu35
def qu36 (v:Int×Bool):List RV:=[.c (.d (.int .i64 v.1)),.c (.d (.err v.2))]
attribute [go_sem] qu36
end
def b203_1 (x0:L_IIII) (x1:L_IIIII) (x2:L_III) (x3:L_II) (x4 x5 x6 x7:Int) (a2:L_II):Bd (Int×Int×Int×Int×Int×Int×Int×Int×Int×Int×Int×Int×Int×Int×Int) (Int×Int×Int×Int×Int×Int×Int×Int×Int×Int×Int×Int×Int×Int):=fun s1=>
 if (decide (s1.1<(a2.length:Int)))=true then
  if 0≤s1.1∧s1.1<(a2.length:Int) then
   bindC (r260 x0 x1 x2 x3 x4 x5 x6 x7 s1.2.1 s1.2.2.1 s1.2.2.2.1 s1.2.2.2.2.1 s1.2.2.2.2.2.1 s1.2.2.2.2.2.2.1 s1.2.2.2.2.2.2.2.1 s1.2.2.2.2.2.2.2.2.1 s1.2.2.2.2.2.2.2.2.2.1 s1.2.2.2.2.2.2.2.2.2.2.1 s1.2.2.2.2.2.2.2.2.2.2.2.1 s1.2.2.2.2.2.2.2.2.2.2.2.2.1 s1.2.2.2.2.2.2.2.2.2.2.2.2.2.1 s1.2.2.2.2.2.2.2.2.2.2.2.2.2.2 ((a2.getD s1.1.toNat default).1) ((a2.getD s1.1.toNat default).2)) fun v1=>
    .next (IntKind.i64.wrap (s1.1+1),v1.1,v1.2.1,v1.2.2.1,v1.2.2.2.1,v1.2.2.2.2.1,v1.2.2.2.2.2.1,v1.2.2.2.2.2.2.1,v1.2.2.2.2.2.2.2.1,v1.2.2.2.2.2.2.2.2.1,v1.2.2.2.2.2.2.2.2.2.1,v1.2.2.2.2.2.2.2.2.2.2.1,v1.2.2.2.2.2.2.2.2.2.2.2.1,v1.2.2.2.2.2.2.2.2.2.2.2.2.1,v1.2.2.2.2.2.2.2.2.2.2.2.2.2)
   else .out none
  else .out (some (s1.2.1,s1.2.2.1,s1.2.2.2.1,s1.2.2.2.2.1,s1.2.2.2.2.2.1,s1.2.2.2.2.2.2.1,s1.2.2.2.2.2.2.2.1,s1.2.2.2.2.2.2.2.2.1,s1.2.2.2.2.2.2.2.2.2.1,s1.2.2.2.2.2.2.2.2.2.2.1,s1.2.2.2.2.2.2.2.2.2.2.2.1,s1.2.2.2.2.2.2.2.2.2.2.2.2.1,s1.2.2.2.2.2.2.2.2.2.2.2.2.2.1,s1.2.2.2.2.2.2.2.2.2.2.2.2.2.2))
def r203 (x0:L_IIII) (x1:L_IIIII) (x2:L_III) (x3:L_II) (x4 x5 x6 x7 x8 x9 x10 x11 x12 x13 x14 x15 x16 x17 x18 x19 x20 x21:Int) (a2:L_II):Option (Int×Int×Int×Int×Int×Int×Int×Int×Int×Int×Int×Int×Int×Int):=
 iterC (b203_1 x0 x1 x2 x3 x4 x5 x6 x7 a2) 1000000000 (0,x8,x9,x10,x11,x12,x13,x14,x15,x16,x17,x18,x19,x20,x21)
@[go_sem] def T203:=qT63 qu26 false r203
@[go_sem] def tb203 (k:Nat):=lk [(260,T260.sp)] k
theorem f203:FnFact Tryz.prog 203 T203.sp:=by
 refine vm (tb:=tb203) (.cons f260 .nil) Tryz.func203 Tryz.ntmps203 fun ⟨x0,x1,x2,x3,x4,x5,x6,x7,x8,x9,x10,x11,x12,x13,x14,x15,x16,x17,x18,x19,x20,x21,a2⟩ r hr stop S=> ?_
 rw [uq23,r203] at hr
 refine S.gx [] ?_
 refine gr ?_
 refine S.li [3,4,6,9,10,11] [(3,3),(4,4),(6,6)] [] (fun s1=>⟨[sR 3 3,sR 4 4,sR 6 6,(9,.c (.d (encF 2 d_II a2))),sI 10 (a2.length:Int),sI 11 s1.1],[(3,[.d (encF 4 d_IIII x0),.d (encF 5 d_IIIII x1),.d (encF 3 d_III x2),.d (encF 2 d_II x3),iC x4,iC x5,iC x6,iC x7]),(4,[iC s1.2.1,iC s1.2.2.1,iC s1.2.2.2.1,iC s1.2.2.2.2.1,iC s1.2.2.2.2.2.1,iC s1.2.2.2.2.2.2.1,iC s1.2.2.2.2.2.2.2.1,iC s1.2.2.2.2.2.2.2.2.1,iC s1.2.2.2.2.2.2.2.2.2.1,iC s1.2.2.2.2.2.2.2.2.2.2.1,iC s1.2.2.2.2.2.2.2.2.2.2.2.1,iC s1.2.2.2.2.2.2.2.2.2.2.2.2.1,iC s1.2.2.2.2.2.2.2.2.2.2.2.2.2.1,iC s1.2.2.2.2.2.2.2.2.2.2.2.2.2.2]),(6,[iC 0,iC 0,iC 0,iC 0,iC 0,iC 0,iC 0,iC 0,iC 0,iC 0,iC 0,iC 0,iC 0,iC 0])],[]⟩) (b203_1 x0 x1 x2 x3 x4 x5 x6 x7 a2) (fun q=>q=r) hr rfl ?_
 intro s1 hr
 unfold b203_1 at hr
 refine S.gx [] ?_
 exact D1 (S.ss [3,4,6,9,10,11] [(3,3),(4,4),(6,6)] []) hr
def r110 (x4:L_IIII) (x5:L_IIIII) (x6:L_III) (x7:L_II) (x2 x3 x0 x1 a1:Int):Option (Int×Int×Int×Int):=
 some (x2,x3,x0,(if x0<IntKind.i64.wrap (x1 - a1) then IntKind.i64.wrap (x1 - a1) else x0))
@[go_sem] def T110:=qT49 qu33 false r110
theorem f110:FnFact Tryz.prog 110 T110.sp:=by
 refine vm .nil Tryz.func110 Tryz.ntmps110 fun ⟨x4,x5,x6,x7,x2,x3,x0,x1,a1⟩ r hr stop S=> ?_
 rw [uq9,r110] at hr
 refine S.gx [] ?_
 exact D0 hr
def b259_2 (x0 x4 x1 x5 x2 x6 x3 x7 x8 x9 x10 x11:Int):Bd (Int×Int×Int×Int×Int×Int×Int) Int:=fun s2=>
 if (decide (s2.2.2.2.2.2.2<4))=true then
  if s2.2.2.2.2.2.2=0 then
   if s2.2.2.1=0 then
    .next (IntKind.i64.wrap (s2.1 - (if IntKind.i64.wrap (x4 - x0)<s2.1 then IntKind.i64.wrap (x4 - x0) else s2.1)),IntKind.i64.wrap (s2.2.1+(IntKind.i64.wrap ((if IntKind.i64.wrap (x4 - x0)<s2.1 then IntKind.i64.wrap (x4 - x0) else s2.1)*x8))),0,s2.2.2.2.1,s2.2.2.2.2.1,s2.2.2.2.2.2.1,1)
    else if s2.2.2.1=1 then
     .next (IntKind.i64.wrap (s2.1 - (if IntKind.i64.wrap (x5 - x1)<s2.1 then IntKind.i64.wrap (x5 - x1) else s2.1)),IntKind.i64.wrap (s2.2.1+(IntKind.i64.wrap ((if IntKind.i64.wrap (x5 - x1)<s2.1 then IntKind.i64.wrap (x5 - x1) else s2.1)*x9))),1,s2.2.2.2.1,s2.2.2.2.2.1,s2.2.2.2.2.2.1,1)
     else if s2.2.2.1=2 then
      .next (IntKind.i64.wrap (s2.1 - (if IntKind.i64.wrap (x6 - x2)<s2.1 then IntKind.i64.wrap (x6 - x2) else s2.1)),IntKind.i64.wrap (s2.2.1+(IntKind.i64.wrap ((if IntKind.i64.wrap (x6 - x2)<s2.1 then IntKind.i64.wrap (x6 - x2) else s2.1)*x10))),2,s2.2.2.2.1,s2.2.2.2.2.1,s2.2.2.2.2.2.1,1)
      else if s2.2.2.1=3 then
       .next (IntKind.i64.wrap (s2.1 - (if IntKind.i64.wrap (x7 - x3)<s2.1 then IntKind.i64.wrap (x7 - x3) else s2.1)),IntKind.i64.wrap (s2.2.1+(IntKind.i64.wrap ((if IntKind.i64.wrap (x7 - x3)<s2.1 then IntKind.i64.wrap (x7 - x3) else s2.1)*x11))),3,s2.2.2.2.1,s2.2.2.2.2.1,s2.2.2.2.2.2.1,1)
       else .out none
   else if s2.2.2.2.2.2.2=1 then
    if s2.2.2.2.1=0 then
     .next (IntKind.i64.wrap (s2.1 - (if IntKind.i64.wrap (x4 - x0)<s2.1 then IntKind.i64.wrap (x4 - x0) else s2.1)),IntKind.i64.wrap (s2.2.1+(IntKind.i64.wrap ((if IntKind.i64.wrap (x4 - x0)<s2.1 then IntKind.i64.wrap (x4 - x0) else s2.1)*x8))),s2.2.2.1,0,s2.2.2.2.2.1,s2.2.2.2.2.2.1,2)
     else if s2.2.2.2.1=1 then
      .next (IntKind.i64.wrap (s2.1 - (if IntKind.i64.wrap (x5 - x1)<s2.1 then IntKind.i64.wrap (x5 - x1) else s2.1)),IntKind.i64.wrap (s2.2.1+(IntKind.i64.wrap ((if IntKind.i64.wrap (x5 - x1)<s2.1 then IntKind.i64.wrap (x5 - x1) else s2.1)*x9))),s2.2.2.1,1,s2.2.2.2.2.1,s2.2.2.2.2.2.1,2)
      else if s2.2.2.2.1=2 then
       .next (IntKind.i64.wrap (s2.1 - (if IntKind.i64.wrap (x6 - x2)<s2.1 then IntKind.i64.wrap (x6 - x2) else s2.1)),IntKind.i64.wrap (s2.2.1+(IntKind.i64.wrap ((if IntKind.i64.wrap (x6 - x2)<s2.1 then IntKind.i64.wrap (x6 - x2) else s2.1)*x10))),s2.2.2.1,2,s2.2.2.2.2.1,s2.2.2.2.2.2.1,2)
       else if s2.2.2.2.1=3 then
        .next (IntKind.i64.wrap (s2.1 - (if IntKind.i64.wrap (x7 - x3)<s2.1 then IntKind.i64.wrap (x7 - x3) else s2.1)),IntKind.i64.wrap (s2.2.1+(IntKind.i64.wrap ((if IntKind.i64.wrap (x7 - x3)<s2.1 then IntKind.i64.wrap (x7 - x3) else s2.1)*x11))),s2.2.2.1,3,s2.2.2.2.2.1,s2.2.2.2.2.2.1,2)
        else .out none
    else if s2.2.2.2.2.2.2=2 then
     if s2.2.2.2.2.1=0 then
      .next (IntKind.i64.wrap (s2.1 - (if IntKind.i64.wrap (x4 - x0)<s2.1 then IntKind.i64.wrap (x4 - x0) else s2.1)),IntKind.i64.wrap (s2.2.1+(IntKind.i64.wrap ((if IntKind.i64.wrap (x4 - x0)<s2.1 then IntKind.i64.wrap (x4 - x0) else s2.1)*x8))),s2.2.2.1,s2.2.2.2.1,0,s2.2.2.2.2.2.1,3)
      else if s2.2.2.2.2.1=1 then
       .next (IntKind.i64.wrap (s2.1 - (if IntKind.i64.wrap (x5 - x1)<s2.1 then IntKind.i64.wrap (x5 - x1) else s2.1)),IntKind.i64.wrap (s2.2.1+(IntKind.i64.wrap ((if IntKind.i64.wrap (x5 - x1)<s2.1 then IntKind.i64.wrap (x5 - x1) else s2.1)*x9))),s2.2.2.1,s2.2.2.2.1,1,s2.2.2.2.2.2.1,3)
       else if s2.2.2.2.2.1=2 then
        .next (IntKind.i64.wrap (s2.1 - (if IntKind.i64.wrap (x6 - x2)<s2.1 then IntKind.i64.wrap (x6 - x2) else s2.1)),IntKind.i64.wrap (s2.2.1+(IntKind.i64.wrap ((if IntKind.i64.wrap (x6 - x2)<s2.1 then IntKind.i64.wrap (x6 - x2) else s2.1)*x10))),s2.2.2.1,s2.2.2.2.1,2,s2.2.2.2.2.2.1,3)
        else if s2.2.2.2.2.1=3 then
         .next (IntKind.i64.wrap (s2.1 - (if IntKind.i64.wrap (x7 - x3)<s2.1 then IntKind.i64.wrap (x7 - x3) else s2.1)),IntKind.i64.wrap (s2.2.1+(IntKind.i64.wrap ((if IntKind.i64.wrap (x7 - x3)<s2.1 then IntKind.i64.wrap (x7 - x3) else s2.1)*x11))),s2.2.2.1,s2.2.2.2.1,3,s2.2.2.2.2.2.1,3)
         else .out none
     else if s2.2.2.2.2.2.2=3 then
      if s2.2.2.2.2.2.1=0 then
       .next (IntKind.i64.wrap (s2.1 - (if IntKind.i64.wrap (x4 - x0)<s2.1 then IntKind.i64.wrap (x4 - x0) else s2.1)),IntKind.i64.wrap (s2.2.1+(IntKind.i64.wrap ((if IntKind.i64.wrap (x4 - x0)<s2.1 then IntKind.i64.wrap (x4 - x0) else s2.1)*x8))),s2.2.2.1,s2.2.2.2.1,s2.2.2.2.2.1,0,4)
       else if s2.2.2.2.2.2.1=1 then
        .next (IntKind.i64.wrap (s2.1 - (if IntKind.i64.wrap (x5 - x1)<s2.1 then IntKind.i64.wrap (x5 - x1) else s2.1)),IntKind.i64.wrap (s2.2.1+(IntKind.i64.wrap ((if IntKind.i64.wrap (x5 - x1)<s2.1 then IntKind.i64.wrap (x5 - x1) else s2.1)*x9))),s2.2.2.1,s2.2.2.2.1,s2.2.2.2.2.1,1,4)
        else if s2.2.2.2.2.2.1=2 then
         .next (IntKind.i64.wrap (s2.1 - (if IntKind.i64.wrap (x6 - x2)<s2.1 then IntKind.i64.wrap (x6 - x2) else s2.1)),IntKind.i64.wrap (s2.2.1+(IntKind.i64.wrap ((if IntKind.i64.wrap (x6 - x2)<s2.1 then IntKind.i64.wrap (x6 - x2) else s2.1)*x10))),s2.2.2.1,s2.2.2.2.1,s2.2.2.2.2.1,2,4)
         else if s2.2.2.2.2.2.1=3 then
          .next (IntKind.i64.wrap (s2.1 - (if IntKind.i64.wrap (x7 - x3)<s2.1 then IntKind.i64.wrap (x7 - x3) else s2.1)),IntKind.i64.wrap (s2.2.1+(IntKind.i64.wrap ((if IntKind.i64.wrap (x7 - x3)<s2.1 then IntKind.i64.wrap (x7 - x3) else s2.1)*x11))),s2.2.2.1,s2.2.2.2.1,s2.2.2.2.2.1,3,4)
          else .out none
      else .out none
  else .out (some (IntKind.i64.wrap (s2.2.1.tdiv 1000000)))
def b259_1 (x0 x4 x1 x5 x2 x6 x3 x7 x8 x9 x10 x11 x12 x13 x14 x15:Int):Bd (Int×Int×Int) Int:=fun s1=>
 if (decide (s1.2.2<4))=true then
  if s1.2.2=0 then
   .next (IntKind.i64.wrap (s1.1 - x0),IntKind.i64.wrap (s1.2.1+(IntKind.i64.wrap (x0*x8))),1)
   else if s1.2.2=1 then
    .next (IntKind.i64.wrap (s1.1 - x1),IntKind.i64.wrap (s1.2.1+(IntKind.i64.wrap (x1*x9))),2)
    else if s1.2.2=2 then
     .next (IntKind.i64.wrap (s1.1 - x2),IntKind.i64.wrap (s1.2.1+(IntKind.i64.wrap (x2*x10))),3)
     else if s1.2.2=3 then
      .next (IntKind.i64.wrap (s1.1 - x3),IntKind.i64.wrap (s1.2.1+(IntKind.i64.wrap (x3*x11))),4)
      else .out none
  else .out (iterC (b259_2 x0 x4 x1 x5 x2 x6 x3 x7 x8 x9 x10 x11) 1000000000 (s1.1,s1.2.1,x12,x13,x14,x15,0))
def r259 (x0 x4 x1 x5 x2 x6 x3 x7 x8 x9 x10 x11 x12 x13 x14 x15:Int):Option (Int):=
 iterC (b259_1 x0 x4 x1 x5 x2 x6 x3 x7 x8 x9 x10 x11 x12 x13 x14 x15) 1000000000 (1000000,0,0)
@[go_sem] def T259:=qT64 qu3 false r259
theorem f259:FnFact Tryz.prog 259 T259.sp:=by
 refine vm .nil Tryz.func259 Tryz.ntmps259 fun ⟨x0,x4,x1,x5,x2,x6,x3,x7,x8,x9,x10,x11,x12,x13,x14,x15⟩ r hr stop S=> ?_
 rw [uq16,r259] at hr
 refine S.gx [4,10,11] ?_
 refine gr ?_
 refine S.li [3,4,5,7,8,14,15] [(3,3),(4,4),(5,5)] [] (fun s1=>⟨[sR 3 3,sR 4 4,sR 5 5,sI 7 s1.1,sI 8 s1.2.1,(14,.agg [iC x0,iC x4,iC x1,iC x5,iC x2,iC x6,iC x3,iC x7]),sI 15 s1.2.2],[(3,[iC x0,iC x4,iC x1,iC x5,iC x2,iC x6,iC x3,iC x7]),(4,[iC x8,iC x9,iC x10,iC x11]),(5,[iC x12,iC x13,iC x14,iC x15])],[]⟩) (b259_1 x0 x4 x1 x5 x2 x6 x3 x7 x8 x9 x10 x11 x12 x13 x14 x15) (fun q=>q=r) hr rfl ?_
 intro s1 hr
 have z2:=S.ss [3,4,5,7,8,14,15] [(3,3),(4,4),(5,5)] []
 unfold b259_1 at hr
 refine S.gw [4,10,11] ?_
 refine iW1 hr (fun hc hr=> ?_) fun hc hr=> ?_
 ·refine gr ?_
  by_cases hs4:s1.2.2=0
  ·rw [if_pos hs4] at hr
   simp only [hs4]
   refine S.gx [10,11] ?_
   exact D1 z2 hr
  ·rw [if_neg hs4] at hr
   by_cases hs3:s1.2.2=1
   ·rw [if_pos hs3] at hr
    simp only [hs3]
    refine S.gx [10,11] ?_
    exact D1 z2 hr
   ·rw [if_neg hs3] at hr
    by_cases hs2:s1.2.2=2
    ·rw [if_pos hs2] at hr
     simp only [hs2]
     refine S.gx [10,11] ?_
     exact D1 z2 hr
    ·rw [if_neg hs2] at hr
     by_cases hs1:s1.2.2=3
     ·rw [if_pos hs1] at hr
      simp only [hs1]
      refine S.gx [10,11] ?_
      exact D1 z2 hr
     ·rw [if_neg hs1] at hr
      first | cases hr | exact hr.elim
 ·refine gr ?_
  have hr:=of_out0 hr
  refine gr ?_
  refine S.li [3,4,7,8,32,33] [(3,3),(4,4)] [] (fun s2=>⟨[sR 3 3,sR 4 4,sI 7 s2.1,sI 8 s2.2.1,(32,.agg [iC s2.2.2.1,iC s2.2.2.2.1,iC s2.2.2.2.2.1,iC s2.2.2.2.2.2.1]),sI 33 s2.2.2.2.2.2.2],[(3,[iC x0,iC x4,iC x1,iC x5,iC x2,iC x6,iC x3,iC x7]),(4,[iC x8,iC x9,iC x10,iC x11])],[]⟩) (b259_2 x0 x4 x1 x5 x2 x6 x3 x7 x8 x9 x10 x11) (fun q=>q=r) hr rfl ?_
  intro s2 hr
  have z1:=S.ss [3,4,7,8,32,33] [(3,3),(4,4)] []
  unfold b259_2 at hr
  refine S.gw [4,10,11] ?_
  refine iW1 hr (fun hc hr=> ?_) fun hc hr=>D0 hr
  refine gr ?_
  by_cases hs20:s2.2.2.2.2.2.2=0
  ·rw [if_pos hs20] at hr
   simp only [hs20]
   refine S.gw [4,11] ?_
   by_cases hs24:s2.2.2.1=0
   ·rw [if_pos hs24] at hr
    simp only [hs24]
    refine S.gx [4,10] ?_
    exact D1 z1 hr
   ·rw [if_neg hs24] at hr
    by_cases hs23:s2.2.2.1=1
    ·rw [if_pos hs23] at hr
     simp only [hs23]
     refine S.gx [4,10] ?_
     exact D1 z1 hr
    ·rw [if_neg hs23] at hr
     by_cases hs22:s2.2.2.1=2
     ·rw [if_pos hs22] at hr
      simp only [hs22]
      refine S.gx [4,10] ?_
      exact D1 z1 hr
     ·rw [if_neg hs22] at hr
      by_cases hs21:s2.2.2.1=3
      ·rw [if_pos hs21] at hr
       simp only [hs21]
       refine S.gx [4,10] ?_
       exact D1 z1 hr
      ·rw [if_neg hs21] at hr
       first | cases hr | exact hr.elim
  ·rw [if_neg hs20] at hr
   by_cases hs15:s2.2.2.2.2.2.2=1
   ·rw [if_pos hs15] at hr
    simp only [hs15]
    refine S.gw [4,11] ?_
    by_cases hs19:s2.2.2.2.1=0
    ·rw [if_pos hs19] at hr
     simp only [hs19]
     refine S.gx [4,10] ?_
     exact D1 z1 hr
    ·rw [if_neg hs19] at hr
     by_cases hs18:s2.2.2.2.1=1
     ·rw [if_pos hs18] at hr
      simp only [hs18]
      refine S.gx [4,10] ?_
      exact D1 z1 hr
     ·rw [if_neg hs18] at hr
      by_cases hs17:s2.2.2.2.1=2
      ·rw [if_pos hs17] at hr
       simp only [hs17]
       refine S.gx [4,10] ?_
       exact D1 z1 hr
      ·rw [if_neg hs17] at hr
       by_cases hs16:s2.2.2.2.1=3
       ·rw [if_pos hs16] at hr
        simp only [hs16]
        refine S.gx [4,10] ?_
        exact D1 z1 hr
       ·rw [if_neg hs16] at hr
        first | cases hr | exact hr.elim
   ·rw [if_neg hs15] at hr
    by_cases hs10:s2.2.2.2.2.2.2=2
    ·rw [if_pos hs10] at hr
     simp only [hs10]
     refine S.gw [4,11] ?_
     by_cases hs14:s2.2.2.2.2.1=0
     ·rw [if_pos hs14] at hr
      simp only [hs14]
      refine S.gx [4,10] ?_
      exact D1 z1 hr
     ·rw [if_neg hs14] at hr
      by_cases hs13:s2.2.2.2.2.1=1
      ·rw [if_pos hs13] at hr
       simp only [hs13]
       refine S.gx [4,10] ?_
       exact D1 z1 hr
      ·rw [if_neg hs13] at hr
       by_cases hs12:s2.2.2.2.2.1=2
       ·rw [if_pos hs12] at hr
        simp only [hs12]
        refine S.gx [4,10] ?_
        exact D1 z1 hr
       ·rw [if_neg hs12] at hr
        by_cases hs11:s2.2.2.2.2.1=3
        ·rw [if_pos hs11] at hr
         simp only [hs11]
         refine S.gx [4,10] ?_
         exact D1 z1 hr
        ·rw [if_neg hs11] at hr
         first | cases hr | exact hr.elim
    ·rw [if_neg hs10] at hr
     by_cases hs5:s2.2.2.2.2.2.2=3
     ·rw [if_pos hs5] at hr
      simp only [hs5]
      refine S.gw [4,11] ?_
      by_cases hs9:s2.2.2.2.2.2.1=0
      ·rw [if_pos hs9] at hr
       simp only [hs9]
       refine S.gx [4,10] ?_
       exact D1 z1 hr
      ·rw [if_neg hs9] at hr
       by_cases hs8:s2.2.2.2.2.2.1=1
       ·rw [if_pos hs8] at hr
        simp only [hs8]
        refine S.gx [4,10] ?_
        exact D1 z1 hr
       ·rw [if_neg hs8] at hr
        by_cases hs7:s2.2.2.2.2.2.1=2
        ·rw [if_pos hs7] at hr
         simp only [hs7]
         refine S.gx [4,10] ?_
         exact D1 z1 hr
        ·rw [if_neg hs7] at hr
         by_cases hs6:s2.2.2.2.2.2.1=3
         ·rw [if_pos hs6] at hr
          simp only [hs6]
          refine S.gx [4,10] ?_
          exact D1 z1 hr
         ·rw [if_neg hs6] at hr
          first | cases hr | exact hr.elim
     ·rw [if_neg hs5] at hr
      first | cases hr | exact hr.elim
def r202 (x0:L_IIII) (x1:L_IIIII) (x2:L_III) (x3:L_II) (x4 x5 x6 x7 x10 x11 x12 x13 x14 x15 x16 x17 x18 x19 x20 x21 x8 x9:Int):Option (Int×Int):=
 (r257 x10 x11 x12 x13 x14 x15 x16 x17 x18 x19 x20 x21 x8 x9).bind fun v1=>
  (r110 x0 x1 x2 x3 x4 x5 x6 x7 x9).bind fun v2=>
   (r259 v1.1 v1.2.1 v1.2.2.1 v1.2.2.2.1 v1.2.2.2.2.1 v1.2.2.2.2.2.1 v1.2.2.2.2.2.2.1 v1.2.2.2.2.2.2.2 v2.1 v2.2.1 v2.2.2.1 v2.2.2.2 0 1 2 3).bind fun v3=>
    (r110 x0 x1 x2 x3 x4 x5 x6 x7 x8).bind fun v4=>
     (r259 v1.1 v1.2.1 v1.2.2.1 v1.2.2.2.1 v1.2.2.2.2.1 v1.2.2.2.2.2.1 v1.2.2.2.2.2.2.1 v1.2.2.2.2.2.2.2 v4.1 v4.2.1 v4.2.2.1 v4.2.2.2 3 2 1 0).bind fun v5=>
      some (v3,v5)
@[go_sem] def T202:=qT65 qu7 false r202
@[go_sem] def tb202 (k:Nat):=lk [(110,T110.sp),(257,T257.sp),(259,T259.sp)] k
theorem f202:FnFact Tryz.prog 202 T202.sp:=by
 refine vm (tb:=tb202) (.cons f110 (.cons f257 (.cons f259 .nil))) Tryz.func202 Tryz.ntmps202 fun ⟨x0,x1,x2,x3,x4,x5,x6,x7,x10,x11,x12,x13,x14,x15,x16,x17,x18,x19,x20,x21,x8,x9⟩ r hr stop S=> ?_
 rw [uq22,r202] at hr
 refine S.gx [] ?_
 exact D0 hr
def b146_2 (x0:L_IIII) (x1:L_IIIII) (x2:L_III) (x3:L_II) (x4 x5 x6 x7 x8 x9 x10 x11 x12 x13 x14 x15 x16 x17 x18 x19 x20 x21:Int) (a2:L_LIIE):Bd ((List (Int×Int))×Int) (L_II×Int):=fun s2=>
 if (decide (s2.2<(a2.length:Int)))=true then
  if 0≤s2.2∧s2.2<(a2.length:Int) then
   bindC (r203 x0 x1 x2 x3 x4 x5 x6 x7 x8 x9 x10 x11 x12 x13 x14 x15 x16 x17 x18 x19 x20 x21 (a2.getD s2.2.toNat default)) fun v8=>
    bindC (r202 x0 x1 x2 x3 x4 x5 x6 x7 v8.1 v8.2.1 v8.2.2.1 v8.2.2.2.1 v8.2.2.2.2.1 v8.2.2.2.2.2.1 v8.2.2.2.2.2.2.1 v8.2.2.2.2.2.2.2.1 v8.2.2.2.2.2.2.2.2.1 v8.2.2.2.2.2.2.2.2.2.1 v8.2.2.2.2.2.2.2.2.2.2.1 v8.2.2.2.2.2.2.2.2.2.2.2.1 v8.2.2.2.2.2.2.2.2.2.2.2.2.1 v8.2.2.2.2.2.2.2.2.2.2.2.2.2) fun v9=>
     if (s2.1.length+1)*16≤140737488355328∧s2.1.length+1≤9223372036854775807 then
      .next (s2.1++[(v9.1,v9.2)],IntKind.i64.wrap (s2.2+1))
      else .out none
   else .out none
  else .out (some (s2.1,0))
def b146_1 (x0:L_IIII) (x1:L_IIIII) (x2:L_III) (x3:L_II) (x4 x5 x6 x7 x8 x9 x10 x11 x12 x13 x14 x15 x16 x17 x18 x19 x20 x21:Int) (a2:L_LIIE):Bd (Int×Int) (L_II×Int):=fun s1=>
 if (decide (s1.2<(a2.length:Int)))=true then
  if 0≤s1.2∧s1.2<(a2.length:Int) then
   bindC (r201 (a2.getD s1.2.toNat default)) fun v5=>
    bindC (r104 [s1.1,v5]) fun v6=>
     .next (v6,IntKind.i64.wrap (s1.2+1))
   else .out none
  else .out (if (s1.1 != 0)=true then
   some ([],s1.1)
   else iterC (b146_2 x0 x1 x2 x3 x4 x5 x6 x7 x8 x9 x10 x11 x12 x13 x14 x15 x16 x17 x18 x19 x20 x21 a2) 1000000000 ([],0))
def r146 (x0:L_IIII) (x1:L_IIIII) (x2:L_III) (x3:L_II) (x4 x5 x6 x7 x8 x9 x10 x11 x12 x13 x14 x15 x16 x17 x18 x19 x20 x21:Int) (a2:L_LIIE):Option (L_II×Int):=
 (r105 x0 x1 x2 x3 x4 x5 x6 x7).bind fun v1=>
  (r200 x8 x9 x10 x11 x12 x13 x14 x15 x16 x17 x18 x19 x20 x21).bind fun v2=>
   (r143 (decide ((a2.length:Int)≤12)) 8).bind fun v3=>
    (r104 [v1,v2,v3]).bind fun v4=>
     iterC (b146_1 x0 x1 x2 x3 x4 x5 x6 x7 x8 x9 x10 x11 x12 x13 x14 x15 x16 x17 x18 x19 x20 x21 a2) 1000000000 (v4,0)
@[go_sem] def T146:=qT66 qu16 false r146
@[go_sem] def tb146 (k:Nat):=lk [(104,T104.sp),(105,T105.sp),(143,T143.sp),(200,T200.sp),(201,T201.sp),(202,T202.sp),(203,T203.sp)] k
theorem f146:FnFact Tryz.prog 146 T146.sp:=by
 refine vm (tb:=tb146) (.cons f104 (.cons f105 (.cons f143 (.cons f200 (.cons f201 (.cons f202 (.cons f203 .nil))))))) Tryz.func146 Tryz.ntmps146 fun ⟨x0,x1,x2,x3,x4,x5,x6,x7,x8,x9,x10,x11,x12,x13,x14,x15,x16,x17,x18,x19,x20,x21,a2⟩ r hr stop S=> ?_
 rw [uq23,r146] at hr
 refine S.gx [] ?_
 obtain ⟨v1,hv1,hr⟩:=of_bind0 hr
 obtain ⟨v2,hv2,hr⟩:=of_bind0 hr
 obtain ⟨v3,hv3,hr⟩:=of_bind0 hr
 obtain ⟨v4,hv4,hr⟩:=of_bind0 hr
 refine gb hv1 ?_
 refine gb hv2 ?_
 refine gb hv3 ?_
 refine gb hv4 ?_
 refine S.li [2,3,4,8,24,25,26] [(3,3),(4,4)] [] (fun s1=>⟨[(2,.c (.d (encF 1 d_LIIE a2))),sR 3 3,sR 4 4,sI 8 s1.1,(24,.c (.d (encF 1 d_LIIE a2))),sI 25 (a2.length:Int),sI 26 s1.2],[(3,[.d (encF 4 d_IIII x0),.d (encF 5 d_IIIII x1),.d (encF 3 d_III x2),.d (encF 2 d_II x3),iC x4,iC x5,iC x6,iC x7]),(4,[iC x8,iC x9,iC x10,iC x11,iC x12,iC x13,iC x14,iC x15,iC x16,iC x17,iC x18,iC x19,iC x20,iC x21])],[]⟩) (b146_1 x0 x1 x2 x3 x4 x5 x6 x7 x8 x9 x10 x11 x12 x13 x14 x15 x16 x17 x18 x19 x20 x21 a2) (fun q=>q=r) hr rfl ?_
 intro s1 hr
 unfold b146_1 at hr
 refine S.gw [] ?_
 refine iW1 hr (fun hc hr=>D1 (S.ss [2,3,4,8,24,25,26] [(3,3),(4,4)] []) hr) fun hc hr=> ?_
 refine gr ?_
 have hr:=of_out0 hr
 refine gr ?_
 refine iW hr (fun hc hr=>D0 hr) fun hc hr=> ?_
 refine gr ?_
 refine S.own0 11 1001100 2 rfl rfl ?_
 refine S.li [3,4,11,39,40,41] [(3,3),(4,4)] [(1001100,1001100)] (fun s2=>⟨[sR 3 3,sR 4 4,sO 11 1001100,(39,.c (.d (encF 1 d_LIIE a2))),sI 40 (a2.length:Int),sI 41 s2.2],[(3,[.d (encF 4 d_IIII x0),.d (encF 5 d_IIIII x1),.d (encF 3 d_III x2),.d (encF 2 d_II x3),iC x4,iC x5,iC x6,iC x7]),(4,[iC x8,iC x9,iC x10,iC x11,iC x12,iC x13,iC x14,iC x15,iC x16,iC x17,iC x18,iC x19,iC x20,iC x21])],[(1001100,.owned (encF 2 d_II s2.1))]⟩) (b146_2 x0 x1 x2 x3 x4 x5 x6 x7 x8 x9 x10 x11 x12 x13 x14 x15 x16 x17 x18 x19 x20 x21 a2) (fun q=>q=r) hr rfl ?_
 intro s2 hr
 unfold b146_2 at hr
 refine S.gx [] ?_
 exact D1 (S.ss [3,4,11,39,40,41] [(3,3),(4,4)] [(55,1001100)]) hr
def r84 (x0 x1:Int) (x2:L_II) (x3:L_LIIE) (x4 x5:L_I) (x6:L_II) (x7 x8 x17 x18:Int) (x19:L_II) (x20:L_LIIE) (x21 x22:L_I) (x23:L_II) (x24 x25:Int) (x9:L_IIII) (x10:L_IIIII) (x11:L_III) (x12:L_II) (x13 x14 x15 x16:Int) (x26:L_III) (x27:Int) (a1:L_II):Option (L_II×L_LIIE×Int):=
 (r96 x0 x1 x2 x3 x4 x5 x6 x7 x8 a1).bind fun v1=>
  if (v1.2 != 0)=true then
   some ([],[],v1.2)
   else (r145 1000000 0 0 0 0 0 0).bind fun v2=>
    if (v2.2.2.2.2.2.2.2.2.2.2.2.2.2.2 != 0)=true then
     some ([],[],v2.2.2.2.2.2.2.2.2.2.2.2.2.2.2)
     else (r146 x9 x10 x11 x12 x13 x14 x15 x16 v2.1 v2.2.1 v2.2.2.1 v2.2.2.2.1 v2.2.2.2.2.1 v2.2.2.2.2.2.1 v2.2.2.2.2.2.2.1 v2.2.2.2.2.2.2.2.1 v2.2.2.2.2.2.2.2.2.1 v2.2.2.2.2.2.2.2.2.2.1 v2.2.2.2.2.2.2.2.2.2.2.1 v2.2.2.2.2.2.2.2.2.2.2.2.1 v2.2.2.2.2.2.2.2.2.2.2.2.2.1 v2.2.2.2.2.2.2.2.2.2.2.2.2.2.1 v1.1).bind fun v3=>
      some (v3.1,v1.1,v3.2)
@[go_sem] def T84:=qT67 qu34 true r84
@[go_sem] def tb84 (k:Nat):=lk [(96,T96.sp),(145,T145.sp),(146,T146.sp)] k
theorem f84:FnFact Tryz.prog 84 T84.sp:=by
 refine vm (tb:=tb84) (.cons f96 (.cons f145 (.cons f146 .nil))) Tryz.func84 Tryz.ntmps84 fun ⟨x0,x1,x2,x3,x4,x5,x6,x7,x8,x17,x18,x19,x20,x21,x22,x23,x24,x25,x9,x10,x11,x12,x13,x14,x15,x16,x26,x27,a1⟩ r hr stop S=> ?_
 rw [uq29,r84] at hr
 refine S.gx [8] ?_
 obtain ⟨v1,hv1,hr⟩:=of_bind0 hr
 refine gb hv1 ?_
 refine iW hr (fun hc hr=>D0 hr) fun hc hr=> ?_
 obtain ⟨v2,hv2,hr⟩:=of_bind0 hr
 refine gb hv2 ?_
 refine iW hr (fun hc hr=>D0 hr) fun hc hr=> ?_
 obtain ⟨v3,hv3,hr⟩:=of_bind0 hr
 refine gb hv3 ?_
 refine S.prune [7,8,10] ?_
 refine S.gx [] ?_
 exact D0 hr
def r24 (x0 x1:Int) (x2:L_II) (x3:L_LIIE) (x4 x5:L_I) (x6:L_II) (x7 x8:Int) (x9:L_IIII) (x10:L_IIIII) (x11:L_III) (x12:L_II) (x13 x14 x15 x16:Int) (x17:L_III) (x18:Int) (a1:L_II):Option (L_II×Int):=
 (r82 x0 x1 x2 x3 x4 x5 x6 x7 x8 x9 x10 x11 x12 x13 x14 x15 x16 x17 x18).bind fun v1=>
  if (v1.2.2.2.2.2.2.2.2.2.2.2.2.2.2.2.2.2.2.2.2.2.2.2.2.2.2.2.2 == 0)=true then
   (r83 v1.1 v1.2.1 v1.2.2.1 v1.2.2.2.1 v1.2.2.2.2.1 v1.2.2.2.2.2.1 v1.2.2.2.2.2.2.1 v1.2.2.2.2.2.2.2.1 v1.2.2.2.2.2.2.2.2.1 a1).bind fun v2=>
    if (v2 != 0)=true then
     some ([],v2)
     else (r84 v1.1 v1.2.1 v1.2.2.1 v1.2.2.2.1 v1.2.2.2.2.1 v1.2.2.2.2.2.1 v1.2.2.2.2.2.2.1 v1.2.2.2.2.2.2.2.1 v1.2.2.2.2.2.2.2.2.1 v1.2.2.2.2.2.2.2.2.2.1 v1.2.2.2.2.2.2.2.2.2.2.1 v1.2.2.2.2.2.2.2.2.2.2.2.1 v1.2.2.2.2.2.2.2.2.2.2.2.2.1 v1.2.2.2.2.2.2.2.2.2.2.2.2.2.1 v1.2.2.2.2.2.2.2.2.2.2.2.2.2.2.1 v1.2.2.2.2.2.2.2.2.2.2.2.2.2.2.2.1 v1.2.2.2.2.2.2.2.2.2.2.2.2.2.2.2.2.1 v1.2.2.2.2.2.2.2.2.2.2.2.2.2.2.2.2.2.1 v1.2.2.2.2.2.2.2.2.2.2.2.2.2.2.2.2.2.2.1 v1.2.2.2.2.2.2.2.2.2.2.2.2.2.2.2.2.2.2.2.1 v1.2.2.2.2.2.2.2.2.2.2.2.2.2.2.2.2.2.2.2.2.1 v1.2.2.2.2.2.2.2.2.2.2.2.2.2.2.2.2.2.2.2.2.2.1 v1.2.2.2.2.2.2.2.2.2.2.2.2.2.2.2.2.2.2.2.2.2.2.1 v1.2.2.2.2.2.2.2.2.2.2.2.2.2.2.2.2.2.2.2.2.2.2.2.1 v1.2.2.2.2.2.2.2.2.2.2.2.2.2.2.2.2.2.2.2.2.2.2.2.2.1 v1.2.2.2.2.2.2.2.2.2.2.2.2.2.2.2.2.2.2.2.2.2.2.2.2.2.1 v1.2.2.2.2.2.2.2.2.2.2.2.2.2.2.2.2.2.2.2.2.2.2.2.2.2.2.1 v1.2.2.2.2.2.2.2.2.2.2.2.2.2.2.2.2.2.2.2.2.2.2.2.2.2.2.2.1 a1).bind fun v3=>
      if (v3.2.2 != 0)=true then
       some ([],v3.2.2)
       else some (v3.1,0)
   else if (v1.2.2.2.2.2.2.2.2.2.2.2.2.2.2.2.2.2.2.2.2.2.2.2.2.2.2.2.2 != 0)=true then
    some ([],v1.2.2.2.2.2.2.2.2.2.2.2.2.2.2.2.2.2.2.2.2.2.2.2.2.2.2.2.2)
    else (r84 v1.1 v1.2.1 v1.2.2.1 v1.2.2.2.1 v1.2.2.2.2.1 v1.2.2.2.2.2.1 v1.2.2.2.2.2.2.1 v1.2.2.2.2.2.2.2.1 v1.2.2.2.2.2.2.2.2.1 v1.2.2.2.2.2.2.2.2.2.1 v1.2.2.2.2.2.2.2.2.2.2.1 v1.2.2.2.2.2.2.2.2.2.2.2.1 v1.2.2.2.2.2.2.2.2.2.2.2.2.1 v1.2.2.2.2.2.2.2.2.2.2.2.2.2.1 v1.2.2.2.2.2.2.2.2.2.2.2.2.2.2.1 v1.2.2.2.2.2.2.2.2.2.2.2.2.2.2.2.1 v1.2.2.2.2.2.2.2.2.2.2.2.2.2.2.2.2.1 v1.2.2.2.2.2.2.2.2.2.2.2.2.2.2.2.2.2.1 v1.2.2.2.2.2.2.2.2.2.2.2.2.2.2.2.2.2.2.1 v1.2.2.2.2.2.2.2.2.2.2.2.2.2.2.2.2.2.2.2.1 v1.2.2.2.2.2.2.2.2.2.2.2.2.2.2.2.2.2.2.2.2.1 v1.2.2.2.2.2.2.2.2.2.2.2.2.2.2.2.2.2.2.2.2.2.1 v1.2.2.2.2.2.2.2.2.2.2.2.2.2.2.2.2.2.2.2.2.2.2.1 v1.2.2.2.2.2.2.2.2.2.2.2.2.2.2.2.2.2.2.2.2.2.2.2.1 v1.2.2.2.2.2.2.2.2.2.2.2.2.2.2.2.2.2.2.2.2.2.2.2.2.1 v1.2.2.2.2.2.2.2.2.2.2.2.2.2.2.2.2.2.2.2.2.2.2.2.2.2.1 v1.2.2.2.2.2.2.2.2.2.2.2.2.2.2.2.2.2.2.2.2.2.2.2.2.2.2.1 v1.2.2.2.2.2.2.2.2.2.2.2.2.2.2.2.2.2.2.2.2.2.2.2.2.2.2.2.1 a1).bind fun v4=>
     if (v4.2.2 != 0)=true then
      some ([],v4.2.2)
      else some (v4.1,0)
@[go_sem] def T24:=qT68 qu16 false r24
@[go_sem] def tb24 (k:Nat):=lk [(82,T82.sp),(83,T83.sp),(84,T84.sp)] k
theorem f24:FnFact Tryz.prog 24 T24.sp:=by
 refine vm (tb:=tb24) (.cons f82 (.cons f83 (.cons f84 .nil))) Tryz.func24 Tryz.ntmps24 fun ⟨x0,x1,x2,x3,x4,x5,x6,x7,x8,x9,x10,x11,x12,x13,x14,x15,x16,x17,x18,a1⟩ r hr stop S=> ?_
 rw [uq20,r24] at hr
 refine S.gx [8,9] ?_
 obtain ⟨v1,hv1,hr⟩:=of_bind0 hr
 refine gb hv1 ?_
 refine iW hr (fun hc hr=> ?_) fun hc hr=> ?_
 ·obtain ⟨v2,hv2,hr⟩:=of_bind0 hr
  refine gb hv2 ?_
  refine iW hr (fun hc hr=>D0 hr) fun hc hr=> ?_
  obtain ⟨v3,hv3,hr⟩:=of_bind0 hr
  refine gb hv3 ?_
  refine iW hr (fun hc hr=> ?_) fun hc hr=> ?_
  ·refine gr ?_
   refine S.prune [7] ?_
   refine S.gx [9] ?_
   exact D0 hr
  ·refine gr ?_
   refine S.prune [8] ?_
   refine S.gx [8] ?_
   exact D0 hr
 ·refine gr ?_
  refine iW hr (fun hc hr=>D0 hr) fun hc hr=> ?_
  obtain ⟨v4,hv4,hr⟩:=of_bind0 hr
  refine gb hv4 ?_
  refine iW hr (fun hc hr=> ?_) fun hc hr=> ?_
  ·refine gr ?_
   refine S.prune [7] ?_
   refine S.gx [9] ?_
   exact D0 hr
  ·refine gr ?_
   refine S.prune [8] ?_
   refine S.gx [8] ?_
   exact D0 hr
def b111_1 (x0 x1:Int) (x2:L_II) (x3:L_LIIE) (x5 x4:L_I) (x6:L_II) (x7 x8:Int) (x9:L_IIII) (a1:Int) (v1:L_I×Int):Bd (L_I×Int) (Int×Bool):=fun s1=>
 if (decide (s1.2<201))=true then
  if 0≤a1∧a1<(s1.1.length:Int) then
   if 0≤0∧0<(x9.length:Int) then
    bindC (r173 x0 x1 x2 x3 x5 x4 x6 x7 x8 (s1.1.getD a1.toNat default) ((x9.getD 0 default).1)) fun v2=>
     if (decide (v2≥0))=true then
      .out (some (s1.2,true))
      else bindC (r174 x0 x1 x2 x3 s1.1 v1.1 v1.2) fun v3=>
       if (v3.2 != 0)=true then
        .out (some (s1.2,true))
        else .next (v3.1,IntKind.i64.wrap (s1.2+1))
    else .out none
   else .out none
  else .out (some (0,false))
def r111 (x0 x1:Int) (x2:L_II) (x3:L_LIIE) (x5 x4:L_I) (x6:L_II) (x7 x8 x10 x11:Int) (x12:L_II) (x13:L_LIIE) (x14 x15:L_I) (x16:L_II) (x17 x18:Int) (x9:L_IIII) (x19:L_IIIII) (x20:L_III) (x21:L_II) (x22 x23 x24 x25:Int) (x26:L_III) (x27 a1 a2:Int):Option (Int×Bool):=
 (r160 x0 x1 x2 x3 x5 x4 x6 x7 x8 a2 0 162).bind fun v1=>
  iterC (b111_1 x0 x1 x2 x3 x5 x4 x6 x7 x8 x9 a1 v1) 1000000000 (x4,0)
@[go_sem] def T111:=qT69 qu6 false r111
@[go_sem] def tb111 (k:Nat):=lk [(160,T160.sp),(173,T173.sp),(174,T174.sp)] k
theorem f111:FnFact Tryz.prog 111 T111.sp:=by
 refine vm (tb:=tb111) (.cons f160 (.cons f173 (.cons f174 .nil))) Tryz.func111 Tryz.ntmps111 fun ⟨x0,x1,x2,x3,x5,x4,x6,x7,x8,x10,x11,x12,x13,x14,x15,x16,x17,x18,x9,x19,x20,x21,x22,x23,x24,x25,x26,x27,a1,a2⟩ r hr stop S=> ?_
 rw [uq30,r111] at hr
 refine S.gx [10,11] ?_
 obtain ⟨v1,hv1,hr⟩:=of_bind0 hr
 refine gb hv1 ?_
 refine S.li [1,3,8,9,23] [(3,3),(8,8)] [(17,17)] (fun s1=>⟨[sI 1 a1,sR 3 3,sR 8 8,(9,.c (.d (encF 1 d_I s1.1))),sI 23 s1.2],[(3,[iC x0,iC x1,.d (encF 2 d_II x2),.d (encF 1 d_LIIE x3),.d (encF 1 d_I x5),.d (encF 1 d_I x4),.d (encF 2 d_II x6),iC x7,iC x8,iC x10,iC x11,.d (encF 2 d_II x12),.d (encF 1 d_LIIE x13),.d (encF 1 d_I x14),.d (encF 1 d_I x15),.d (encF 2 d_II x16),iC x17,iC x18,.d (encF 4 d_IIII x9),.d (encF 5 d_IIIII x19),.d (encF 3 d_III x20),.d (encF 2 d_II x21),iC x22,iC x23,iC x24,iC x25,.d (encF 3 d_III x26),iC x27]),(8,[.own 17,iC v1.2])],[(17,.owned (encF 1 d_I v1.1))]⟩) (b111_1 x0 x1 x2 x3 x5 x4 x6 x7 x8 x9 a1 v1) (fun q=>q=r) hr rfl ?_
 intro s1 hr
 unfold b111_1 at hr
 refine S.gw [10,11] ?_
 refine iW1 hr (fun hc hr=> ?_) fun hc hr=>D0 hr
 obtain ⟨hg4,hr⟩:=of_guard1 hr
 obtain ⟨hg5,hr⟩:=of_guard1 hr
 obtain ⟨v2,hv2,hr⟩:=of_bind1 hr
 refine gb hv2 ?_
 refine iW1 hr (fun hc hr=>D0 hr) fun hc hr=> ?_
 obtain ⟨v3,hv3,hr⟩:=of_bind1 hr
 refine gb hv3 ?_
 refine iW1 hr (fun hc hr=> ?_) fun hc hr=> ?_
 ·refine gr ?_
  refine S.prune [10] ?_
  refine S.gx [11] ?_
  exact D0 hr
 ·refine gr ?_
  refine S.prune [1,3,8,11,23] ?_
  refine S.gw [10] ?_
  refine S.share 49 rfl ?_
  exact D1 (S.ss [1,3,8,9,23] [(3,3),(8,8)] [(17,17)]) hr
def b52_1 (x1:L_IIII) (x2:Int) (x0:L_III) (a1:Int) (v1:Int×Int×L_II×L_LIIE×L_I×L_I×L_II×Int×Int×Int×Int×L_II×L_LIIE×L_I×L_I×L_II×Int×Int×L_IIII×L_IIIII×L_III×L_II×Int×Int×Int×Int×L_III×Int×Int):Bd (Int×Int) (Int×Int):=fun s1=>
 if (decide (s1.2<(x0.length:Int)))=true then
  if 0≤s1.2∧s1.2<(x0.length:Int) then
   if (decide (((x0.getD s1.2.toNat default).2.1)≤x2))=true then
    .next (s1.1,IntKind.i64.wrap (s1.2+1))
    else if ((x1.length:Int) == 0)=true then
     .out (some (0,12))
     else bindC (r111 v1.1 v1.2.1 v1.2.2.1 v1.2.2.2.1 v1.2.2.2.2.1 v1.2.2.2.2.2.1 v1.2.2.2.2.2.2.1 v1.2.2.2.2.2.2.2.1 v1.2.2.2.2.2.2.2.2.1 v1.2.2.2.2.2.2.2.2.2.1 v1.2.2.2.2.2.2.2.2.2.2.1 v1.2.2.2.2.2.2.2.2.2.2.2.1 v1.2.2.2.2.2.2.2.2.2.2.2.2.1 v1.2.2.2.2.2.2.2.2.2.2.2.2.2.1 v1.2.2.2.2.2.2.2.2.2.2.2.2.2.2.1 v1.2.2.2.2.2.2.2.2.2.2.2.2.2.2.2.1 v1.2.2.2.2.2.2.2.2.2.2.2.2.2.2.2.2.1 v1.2.2.2.2.2.2.2.2.2.2.2.2.2.2.2.2.2.1 v1.2.2.2.2.2.2.2.2.2.2.2.2.2.2.2.2.2.2.1 v1.2.2.2.2.2.2.2.2.2.2.2.2.2.2.2.2.2.2.2.1 v1.2.2.2.2.2.2.2.2.2.2.2.2.2.2.2.2.2.2.2.2.1 v1.2.2.2.2.2.2.2.2.2.2.2.2.2.2.2.2.2.2.2.2.2.1 v1.2.2.2.2.2.2.2.2.2.2.2.2.2.2.2.2.2.2.2.2.2.2.1 v1.2.2.2.2.2.2.2.2.2.2.2.2.2.2.2.2.2.2.2.2.2.2.2.1 v1.2.2.2.2.2.2.2.2.2.2.2.2.2.2.2.2.2.2.2.2.2.2.2.2.1 v1.2.2.2.2.2.2.2.2.2.2.2.2.2.2.2.2.2.2.2.2.2.2.2.2.2.1 v1.2.2.2.2.2.2.2.2.2.2.2.2.2.2.2.2.2.2.2.2.2.2.2.2.2.2.1 v1.2.2.2.2.2.2.2.2.2.2.2.2.2.2.2.2.2.2.2.2.2.2.2.2.2.2.2.1 ((x0.getD s1.2.toNat default).1) a1) fun v5=>
      if (!v5.2)=true then
       .out (some (0,12))
       else .next ((if s1.1<v5.1 then v5.1 else s1.1),IntKind.i64.wrap (s1.2+1))
   else .out none
  else .out (some (s1.1,0))
def r52 (x3 x4:Int) (x5:L_II) (x6:L_LIIE) (x7 x8:L_I) (x9:L_II) (x10 x11:Int) (x1:L_IIII) (x12:L_IIIII) (x13:L_III) (x14:L_II) (x2 x15 x16 x17:Int) (x0:L_III) (x18 a1:Int):Option (Int×Int):=
 (r82 x3 x4 x5 x6 x7 x8 x9 x10 x11 x1 x12 x13 x14 x2 x15 x16 x17 x0 x18).bind fun v1=>
  (r71 a1 1 10000).bind fun v2=>
   (r65 v2 2).bind fun v3=>
    (r64 [v1.2.2.2.2.2.2.2.2.2.2.2.2.2.2.2.2.2.2.2.2.2.2.2.2.2.2.2.2,v3]).bind fun v4=>
     if (v4 != 0)=true then
      some (0,v4)
      else iterC (b52_1 x1 x2 x0 a1 v1) 1000000000 (0,0)
@[go_sem] def T52:=qT70 qu4 false r52
@[go_sem] def tb52 (k:Nat):=lk [(64,T64.sp),(65,T65.sp),(71,T71.sp),(82,T82.sp),(111,T111.sp)] k
theorem f52:FnFact Tryz.prog 52 T52.sp:=by
 refine vm (tb:=tb52) (.cons f64 (.cons f65 (.cons f71 (.cons f82 (.cons f111 .nil))))) Tryz.func52 Tryz.ntmps52 fun ⟨x3,x4,x5,x6,x7,x8,x9,x10,x11,x1,x12,x13,x14,x2,x15,x16,x17,x0,x18,a1⟩ r hr stop S=> ?_
 rw [uq20,r52] at hr
 refine S.gx [14,16] ?_
 obtain ⟨v1,hv1,hr⟩:=of_bind0 hr
 obtain ⟨v2,hv2,hr⟩:=of_bind0 hr
 obtain ⟨v3,hv3,hr⟩:=of_bind0 hr
 obtain ⟨v4,hv4,hr⟩:=of_bind0 hr
 refine gb hv1 ?_
 refine gb hv2 ?_
 refine gb hv3 ?_
 refine gb hv4 ?_
 refine iW hr (fun hc hr=>D0 hr) fun hc hr=> ?_
 refine gr ?_
 refine S.li [1,2,6,8,28,29,30] [(2,2),(6,6)] [] (fun s1=>⟨[sI 1 a1,sR 2 2,sR 6 6,sI 8 s1.1,(28,.c (.d (encF 3 d_III x0))),sI 29 (x0.length:Int),sI 30 s1.2],[(2,[iC x3,iC x4,.d (encF 2 d_II x5),.d (encF 1 d_LIIE x6),.d (encF 1 d_I x7),.d (encF 1 d_I x8),.d (encF 2 d_II x9),iC x10,iC x11,.d (encF 4 d_IIII x1),.d (encF 5 d_IIIII x12),.d (encF 3 d_III x13),.d (encF 2 d_II x14),iC x2,iC x15,iC x16,iC x17,.d (encF 3 d_III x0),iC x18]),(6,[iC v1.1,iC v1.2.1,.d (encF 2 d_II v1.2.2.1),.d (encF 1 d_LIIE v1.2.2.2.1),.d (encF 1 d_I v1.2.2.2.2.1),.d (encF 1 d_I v1.2.2.2.2.2.1),.d (encF 2 d_II v1.2.2.2.2.2.2.1),iC v1.2.2.2.2.2.2.2.1,iC v1.2.2.2.2.2.2.2.2.1,iC v1.2.2.2.2.2.2.2.2.2.1,iC v1.2.2.2.2.2.2.2.2.2.2.1,.d (encF 2 d_II v1.2.2.2.2.2.2.2.2.2.2.2.1),.d (encF 1 d_LIIE v1.2.2.2.2.2.2.2.2.2.2.2.2.1),.d (encF 1 d_I v1.2.2.2.2.2.2.2.2.2.2.2.2.2.1),.d (encF 1 d_I v1.2.2.2.2.2.2.2.2.2.2.2.2.2.2.1),.d (encF 2 d_II v1.2.2.2.2.2.2.2.2.2.2.2.2.2.2.2.1),iC v1.2.2.2.2.2.2.2.2.2.2.2.2.2.2.2.2.1,iC v1.2.2.2.2.2.2.2.2.2.2.2.2.2.2.2.2.2.1,.d (encF 4 d_IIII v1.2.2.2.2.2.2.2.2.2.2.2.2.2.2.2.2.2.2.1),.d (encF 5 d_IIIII v1.2.2.2.2.2.2.2.2.2.2.2.2.2.2.2.2.2.2.2.1),.d (encF 3 d_III v1.2.2.2.2.2.2.2.2.2.2.2.2.2.2.2.2.2.2.2.2.1),.d (encF 2 d_II v1.2.2.2.2.2.2.2.2.2.2.2.2.2.2.2.2.2.2.2.2.2.1),iC v1.2.2.2.2.2.2.2.2.2.2.2.2.2.2.2.2.2.2.2.2.2.2.1,iC v1.2.2.2.2.2.2.2.2.2.2.2.2.2.2.2.2.2.2.2.2.2.2.2.1,iC v1.2.2.2.2.2.2.2.2.2.2.2.2.2.2.2.2.2.2.2.2.2.2.2.2.1,iC v1.2.2.2.2.2.2.2.2.2.2.2.2.2.2.2.2.2.2.2.2.2.2.2.2.2.1,.d (encF 3 d_III v1.2.2.2.2.2.2.2.2.2.2.2.2.2.2.2.2.2.2.2.2.2.2.2.2.2.2.1),iC v1.2.2.2.2.2.2.2.2.2.2.2.2.2.2.2.2.2.2.2.2.2.2.2.2.2.2.2.1])],[]⟩) (b52_1 x1 x2 x0 a1 v1) (fun q=>q=r) hr rfl ?_
 intro s1 hr
 have z1:=S.ss [1,2,6,8,28,29,30] [(2,2),(6,6)] []
 unfold b52_1 at hr
 refine S.gw [14,16] ?_
 refine iW1 hr (fun hc hr=> ?_) fun hc hr=>D0 hr
 obtain ⟨hg6,hr⟩:=of_guard1 hr
 refine gr ?_
 refine iW1 hr (fun hc hr=> ?_) fun hc hr=> ?_
 ·refine gr ?_
  refine S.prune [1,2,6,8,28,29,30] ?_
  refine S.gx [14] ?_
  exact D1 z1 hr
 ·refine gr ?_
  refine iW1 hr (fun hc hr=>D0 hr) fun hc hr=> ?_
  obtain ⟨v5,hv5,hr⟩:=of_bind1 hr
  refine gb hv5 ?_
  refine iW1 hr (fun hc hr=> ?_) fun hc hr=> ?_
  ·refine gr ?_
   refine S.prune [] ?_
   refine S.gx [16] ?_
   exact D0 hr
  ·refine gr ?_
   refine S.prune [1,2,6,8,28,29,30] ?_
   refine S.gx [14] ?_
   exact D1 z1 hr
def r308 (a0 a1:ByteArray):Option (Int):=
 indexAnyV a0 a1
@[go_sem] def T308:=qT71 qu3 false r308
theorem f308:FnFact Tryz.prog 308 T308.sp:=⟨⟨Tryz.f308,Tryz.func308,by decide,rfl⟩,lib_IndexAny (fun _=>rfl) (fun _=>rfl) (fun _=>rfl) rfl⟩
def r310 (a0 a1:ByteArray):Option (Bool):=
 if (decide ((a0.size:Int)≥(a1.size:Int)))=true→0≤0∧0≤(a1.size:Int)∧(a1.size:Int)≤(a0.size:Int) then
  some ((decide ((a0.size:Int)≥(a1.size:Int))) && (decide ((a0.extract 0 a1.size)=a1)))
  else none
@[go_sem] def T310:=qT71 qu2 false r310
theorem f310:FnFact Tryz.prog 310 T310.sp:=by
 refine vm .nil Tryz.func310 Tryz.ntmps310 fun ⟨a0,a1⟩ r hr stop S=> ?_
 rw [uq2,r310] at hr
 refine S.gx [] ?_
 obtain ⟨hg1,hr⟩:=of_guard0 hr
 repeat (first | refine gG hg1 ?_ | refine gA ?_ | refine gB ?_)
 exact D0 hr
def r289 (a0 a1:ByteArray):Option (ByteArray×Bool):=
 (r310 a0 a1).bind fun v1=>
  if (!v1)=true then
   some (a0,false)
   else if 0≤(a1.size:Int)∧(a1.size:Int)≤(a0.size:Int)∧(a0.size:Int)≤(a0.size:Int) then
    some (a0.extract a1.size a0.size,true)
    else none
@[go_sem] def T289:=qT71 qu35 false r289
@[go_sem] def tb289 (k:Nat):=lk [(310,T310.sp)] k
theorem f289:FnFact Tryz.prog 289 T289.sp:=by
 refine vm (tb:=tb289) (.cons f310 .nil) Tryz.func289 Tryz.ntmps289 fun ⟨a0,a1⟩ r hr stop S=> ?_
 rw [uq2,r289] at hr
 refine S.gx [] ?_
 exact D0 hr
def r241 (a0 a1:ByteArray):Option (ByteArray×Bool):=
 (r289 a0 a1).bind fun v1=>
  some (v1.1,v1.2)
@[go_sem] def T241:=qT71 qu35 false r241
@[go_sem] def tb241 (k:Nat):=lk [(289,T289.sp)] k
theorem f241:FnFact Tryz.prog 241 T241.sp:=by
 refine vm (tb:=tb241) (.cons f289 .nil) Tryz.func241 Tryz.ntmps241 fun ⟨a0,a1⟩ r hr stop S=> ?_
 rw [uq2,r241] at hr
 refine S.gx [] ?_
 exact D0 hr
def r309 (a0:ByteArray):Option (Int×Bool):=
 atoiV a0
@[go_sem] def T309:=qT72 qu36 false r309
theorem f309:FnFact Tryz.prog 309 T309.sp:=⟨⟨Tryz.f309,Tryz.func309,by decide,rfl⟩,lib_Atoi (fun _=>rfl) (fun _=>rfl) (fun _=>rfl) rfl⟩
def r124 (a0:Int):Option (ByteArray):=
 itoaV a0
@[go_sem] def T124:=qT4 qu37 false r124
theorem f124:FnFact Tryz.prog 124 T124.sp:=⟨⟨Tryz.f124,Tryz.func124,by decide,rfl⟩,lib_Itoa (fun _=>rfl) (fun _=>rfl) (fun _=>rfl) rfl⟩
def r288 (a0:ByteArray):Option (Int×Bool):=
 (r309 a0).bind fun v1=>
  if ((!v1.2) && (decide (v1.1≥0)))=true→(r124 v1.1).isSome=true then
   some (v1.1,(((!v1.2) && (decide (v1.1≥0))) && (decide (((r124 v1.1).getD default)=a0))) && (decide ((a0.size:Int)≤5)))
   else none
@[go_sem] def T288:=qT72 qu6 false r288
@[go_sem] def tb288 (k:Nat):=lk [(124,T124.sp),(309,T309.sp)] k
theorem f288:FnFact Tryz.prog 288 T288.sp:=by
 refine vm (tb:=tb288) (.cons f124 (.cons f309 .nil)) Tryz.func288 Tryz.ntmps288 fun a0 r hr stop S=> ?_
 rw [uq1,r288] at hr
 refine S.gx [] ?_
 obtain ⟨v1,hv1,hr⟩:=of_bind0 hr
 obtain ⟨hg2,hr⟩:=of_guard0 hr
 try simp only [hv1,oG,oI,true_and,and_assoc]
 repeat (first | refine gG hg2 ?_ | refine gA ?_ | refine gB ?_)
 exact D0 hr
end Go.Proofs.YtnepigpnlnmlmaaGreatDoor

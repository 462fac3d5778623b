/- Contracts of functions, written by wip/dec. -/
import Derived.Test.YtnepigpnlnmlmaaGreatDoorF00
import Derived.Test.YtnepigpnlnmlmaaGreatDoorF01
import Derived.Test.YtnepigpnlnmlmaaGreatDoorF02
import Derived.Test.YtnepigpnlnmlmaaGreatDoorF03
import Derived.Test.YtnepigpnlnmlmaaGreatDoorF04
import Derived.Test.YtnepigpnlnmlmaaGreatDoorF05
set_option linter.unusedVariables false
set_option linter.unusedSimpArgs false
set_option linter.constructorNameAsVariable false
set_option maxHeartbeats 4000000
set_option maxRecDepth 20000
namespace Go.Proofs.YtnepigpnlnmlmaaGreatDoor
open Go.Abs
section
variable {β:Type} [Inhabited β] (u:β→List RV) (al:Bool)
def qw38 (a0 a1:Int) (a2:L_II) (a3:L_LIIE) (a4 a5:L_I) (a6:L_II) (a7 a8:Int) (a9:L_IIII) (a10:L_IIIII) (a11:L_III) (a12:L_II) (a13 a14 a15 a16:Int) (a17:L_III) (a18:Int):List Arg:=[.agg [.int .i64 a0,.int .i64 a1,encF 2 d_II a2,encF 1 d_LIIE a3,encF 1 d_I a4,encF 1 d_I a5,encF 2 d_II a6,.int .i64 a7,.int .i64 a8,encF 4 d_IIII a9,encF 5 d_IIIII a10,encF 3 d_III a11,encF 2 d_II a12,.int .i64 a13,.int .i64 a14,.int .i64 a15,.int .i64 a16,encF 3 d_III a17,.int .i64 a18]]
def qd38:List Arg→Int×Int×L_II×L_LIIE×L_I×L_I×L_II×Int×Int×L_IIII×L_IIIII×L_III×L_II×Int×Int×Int×Int×L_III×Int
 | [.agg [c0,c1,c2,c3,c4,c5,c6,c7,c8,c9,c10,c11,c12,c13,c14,c15,c16,c17,c18]]=>(dInt c0,dInt c1,decF g_II c2,decF g_LIIE c3,decF g_I c4,decF g_I c5,decF g_II c6,dInt c7,dInt c8,decF g_IIII c9,decF g_IIIII c10,decF g_III c11,decF g_II c12,dInt c13,dInt c14,dInt c15,dInt c16,decF g_III c17,dInt c18)
 | _=>default
def qT38 (r:Int→Int→L_II→L_LIIE→L_I→L_I→L_II→Int→Int→L_IIII→L_IIIII→L_III→L_II→Int→Int→Int→Int→L_III→Int→Option β):=mkT (u19 qw38) qd38 (u19 r) u al
attribute [go_sem] qw38 qd38 qT38
def qw40 (a0 a1:Int) (a2:L_II) (a3:L_LIIE) (a4:L_II) (a5:L_LIIE) (a6:L_II) (a7 a8:Int):List Arg:=[.agg [.int .i64 a0,.int .i64 a1,encF 2 d_II a2,encF 1 d_LIIE a3,encF 2 d_II a4,encF 1 d_LIIE a5],.agg [encF 2 d_II a6,.int .i64 a7,.int .i64 a8]]
def qd40:List Arg→Int×Int×L_II×L_LIIE×L_II×L_LIIE×L_II×Int×Int
 | [.agg [c0,c1,c2,c3,c4,c5],.agg [c6,c7,c8]]=>(dInt c0,dInt c1,decF g_II c2,decF g_LIIE c3,decF g_II c4,decF g_LIIE c5,decF g_II c6,dInt c7,dInt c8)
 | _=>default
def qT40 (r:Int→Int→L_II→L_LIIE→L_II→L_LIIE→L_II→Int→Int→Option β):=mkT (u9 qw40) qd40 (u9 r) u al
attribute [go_sem] qw40 qd40 qT40
def qw41 (a0 a1:Int) (a2:L_II) (a3:L_LIIE) (a4:L_II) (a5:L_LIIE) (a6:L_LIIEII):List Arg:=[.agg [.int .i64 a0,.int .i64 a1,encF 2 d_II a2,encF 1 d_LIIE a3,encF 2 d_II a4,encF 1 d_LIIE a5],.c (encF 3 d_LIIEII a6)]
def qd41:List Arg→Int×Int×L_II×L_LIIE×L_II×L_LIIE×L_LIIEII
 | [.agg [c0,c1,c2,c3,c4,c5],.c c6]=>(dInt c0,dInt c1,decF g_II c2,decF g_LIIE c3,decF g_II c4,decF g_LIIE c5,decF g_LIIEII c6)
 | _=>default
def qT41 (r:Int→Int→L_II→L_LIIE→L_II→L_LIIE→L_LIIEII→Option β):=mkT (u7 qw41) qd41 (u7 r) u al
attribute [go_sem] qw41 qd41 qT41
def qw42 (a0:L_II) (a1 a2:Int):List Arg:=[.agg [encF 2 d_II a0,.int .i64 a1,.int .i64 a2]]
def qd42:List Arg→L_II×Int×Int
 | [.agg [c0,c1,c2]]=>(decF g_II c0,dInt c1,dInt c2)
 | _=>default
def qT42 (r:L_II→Int→Int→Option β):=mkT (u3 qw42) qd42 (u3 r) u al
attribute [go_sem] qw42 qd42 qT42
def qw43 (a0 a1:Int) (a2:L_II) (a3:L_LIIE) (a4:L_II) (a5:L_LIIE) (a6 a7:L_I) (a8:L_II) (a9 a10:Int):List Arg:=[.agg [.int .i64 a0,.int .i64 a1,encF 2 d_II a2,encF 1 d_LIIE a3,encF 2 d_II a4,encF 1 d_LIIE a5],.agg [encF 1 d_I a6,encF 1 d_I a7],.agg [encF 2 d_II a8,.int .i64 a9,.int .i64 a10]]
def qd43:List Arg→Int×Int×L_II×L_LIIE×L_II×L_LIIE×L_I×L_I×L_II×Int×Int
 | [.agg [c0,c1,c2,c3,c4,c5],.agg [c6,c7],.agg [c8,c9,c10]]=>(dInt c0,dInt c1,decF g_II c2,decF g_LIIE c3,decF g_II c4,decF g_LIIE c5,decF g_I c6,decF g_I c7,decF g_II c8,dInt c9,dInt c10)
 | _=>default
def qT43 (r:Int→Int→L_II→L_LIIE→L_II→L_LIIE→L_I→L_I→L_II→Int→Int→Option β):=mkT (u11 qw43) qd43 (u11 r) u al
attribute [go_sem] qw43 qd43 qT43
def qw44 (a0 a1:Int) (a2:L_II) (a3:L_LIIE) (a4:L_II) (a5:L_LIIE) (a6 a7:L_I) (a8:L_LIIEII):List Arg:=[.agg [.int .i64 a0,.int .i64 a1,encF 2 d_II a2,encF 1 d_LIIE a3,encF 2 d_II a4,encF 1 d_LIIE a5],.agg [encF 1 d_I a6,encF 1 d_I a7],.c (encF 3 d_LIIEII a8)]
def qd44:List Arg→Int×Int×L_II×L_LIIE×L_II×L_LIIE×L_I×L_I×L_LIIEII
 | [.agg [c0,c1,c2,c3,c4,c5],.agg [c6,c7],.c c8]=>(dInt c0,dInt c1,decF g_II c2,decF g_LIIE c3,decF g_II c4,decF g_LIIE c5,decF g_I c6,decF g_I c7,decF g_LIIEII c8)
 | _=>default
def qT44 (r:Int→Int→L_II→L_LIIE→L_II→L_LIIE→L_I→L_I→L_LIIEII→Option β):=mkT (u9 qw44) qd44 (u9 r) u al
attribute [go_sem] qw44 qd44 qT44
def qw45 (a0 a1:Int) (a2:L_II) (a3:L_LIIE) (a4 a5:L_I) (a6:L_LIIEII):List Arg:=[.agg [.int .i64 a0,.int .i64 a1,encF 2 d_II a2,encF 1 d_LIIE a3],.agg [encF 1 d_I a4,encF 1 d_I a5],.c (encF 3 d_LIIEII a6)]
def qd45:List Arg→Int×Int×L_II×L_LIIE×L_I×L_I×L_LIIEII
 | [.agg [c0,c1,c2,c3],.agg [c4,c5],.c c6]=>(dInt c0,dInt c1,decF g_II c2,decF g_LIIE c3,decF g_I c4,decF g_I c5,decF g_LIIEII c6)
 | _=>default
def qT45 (r:Int→Int→L_II→L_LIIE→L_I→L_I→L_LIIEII→Option β):=mkT (u7 qw45) qd45 (u7 r) u al
attribute [go_sem] qw45 qd45 qT45
def qu20 (v:Int×Int×L_II×L_LIIE×L_I×L_I×L_II×Int×Int×Int×Int×L_II×L_LIIE×L_I×L_I×L_II×Int×Int×L_IIII×L_IIIII×L_III×L_II×Int×Int×Int×Int×L_III×Int×Int):List RV:=[.agg [.d (.int .i64 v.1),.d (.int .i64 v.2.1),.d (encF 2 d_II v.2.2.1),.d (encF 1 d_LIIE v.2.2.2.1),.d (encF 1 d_I v.2.2.2.2.1),.d (encF 1 d_I v.2.2.2.2.2.1),.d (encF 2 d_II v.2.2.2.2.2.2.1),.d (.int .i64 v.2.2.2.2.2.2.2.1),.d (.int .i64 v.2.2.2.2.2.2.2.2.1),.d (.int .i64 v.2.2.2.2.2.2.2.2.2.1),.d (.int .i64 v.2.2.2.2.2.2.2.2.2.2.1),.d (encF 2 d_II v.2.2.2.2.2.2.2.2.2.2.2.1),.d (encF 1 d_LIIE v.2.2.2.2.2.2.2.2.2.2.2.2.1),.d (encF 1 d_I v.2.2.2.2.2.2.2.2.2.2.2.2.2.1),.d (encF 1 d_I v.2.2.2.2.2.2.2.2.2.2.2.2.2.2.1),.d (encF 2 d_II v.2.2.2.2.2.2.2.2.2.2.2.2.2.2.2.1),.d (.int .i64 v.2.2.2.2.2.2.2.2.2.2.2.2.2.2.2.2.1),.d (.int .i64 v.2.2.2.2.2.2.2.2.2.2.2.2.2.2.2.2.2.1),.d (encF 4 d_IIII v.2.2.2.2.2.2.2.2.2.2.2.2.2.2.2.2.2.2.1),.d (encF 5 d_IIIII v.2.2.2.2.2.2.2.2.2.2.2.2.2.2.2.2.2.2.2.1),.d (encF 3 d_III v.2.2.2.2.2.2.2.2.2.2.2.2.2.2.2.2.2.2.2.2.1),.d (encF 2 d_II v.2.2.2.2.2.2.2.2.2.2.2.2.2.2.2.2.2.2.2.2.2.1),.d (.int .i64 v.2.2.2.2.2.2.2.2.2.2.2.2.2.2.2.2.2.2.2.2.2.2.1),.d (.int .i64 v.2.2.2.2.2.2.2.2.2.2.2.2.2.2.2.2.2.2.2.2.2.2.2.1),.d (.int .i64 v.2.2.2.2.2.2.2.2.2.2.2.2.2.2.2.2.2.2.2.2.2.2.2.2.1),.d (.int .i64 v.2.2.2.2.2.2.2.2.2.2.2.2.2.2.2.2.2.2.2.2.2.2.2.2.2.1),.d (encF 3 d_III v.2.2.2.2.2.2.2.2.2.2.2.2.2.2.2.2.2.2.2.2.2.2.2.2.2.2.1),.d (.int .i64 v.2.2.2.2.2.2.2.2.2.2.2.2.2.2.2.2.2.2.2.2.2.2.2.2.2.2.2.1)],.c (.d (.int .i64 v.2.2.2.2.2.2.2.2.2.2.2.2.2.2.2.2.2.2.2.2.2.2.2.2.2.2.2.2))]
attribute [go_sem] qu20
def qu21 (v:L_LIIEII):List RV:=[.c (.own (encF 3 d_LIIEII v))]
attribute [go_sem] qu21
def qu22 (v:L_I×Int×L_I×Int):List RV:=[.agg [.own (encF 1 d_I v.1),.d (.int .i64 v.2.1)],.agg [.own (encF 1 d_I v.2.2.1),.d (.int .i64 v.2.2.2)]]
attribute [go_sem] qu22
def qu23 (v:L_I×L_I×Int):List RV:=[.agg [.own (encF 1 d_I v.1),.own (encF 1 d_I v.2.1)],.c (.d (.int .i64 v.2.2))]
attribute [go_sem] qu23
def qu24 (v:L_LIELIE×Int):List RV:=[.c (.own (encF 2 d_LIELIE v.1)),.c (.d (.int .i64 v.2))]
attribute [go_sem] qu24
end
def r198 (a0 a1:Int):Option (Bool):=
 (r254 a0).bind fun v1=>
  if v1=true→(r254 a1).isSome=true then
   some ((v1 && (!((r254 a1).getD default))) || (decide (a0<a1)))
   else none
@[go_sem] def T198:=qT7 qu2 false r198
@[go_sem] def tb198 (k:Nat):=lk [(254,T254.sp)] k
theorem f198:FnFact Tryz.prog 198 T198.sp:=by
 refine vm (tb:=tb198) (.cons f254 .nil) Tryz.func198 Tryz.ntmps198 fun ⟨a0,a1⟩ r hr stop S=> ?_
 rw [uq2,r198] at hr
 refine S.gx [] ?_
 obtain ⟨v1,hv1,hr⟩:=of_bind0 hr
 obtain ⟨hg2,hr⟩:=of_guard0 hr
 try simp only [hv1,oG,oI,true_and,and_assoc]
 repeat (first | refine gG hg2 ?_ | refine gA ?_ | refine gB ?_)
 exact D0 hr
def b144_1 (a0:L_I):Bd Int Bool:=fun s1=>
 if (decide (s1>0))=true then
  if 0≤s1∧s1<(a0.length:Int) then
   if 0≤IntKind.i64.wrap (s1 - 1)∧IntKind.i64.wrap (s1 - 1)<(a0.length:Int) then
    bindC (r198 (a0.getD s1.toNat default) (a0.getD (IntKind.i64.wrap (s1 - 1)).toNat default)) fun v1=>
     if v1=true then
      .out (some false)
      else .next (IntKind.i64.wrap (s1 - 1))
    else .out none
   else .out none
  else .out (some true)
def r144 (a0:L_I):Option (Bool):=
 iterC (b144_1 a0) 1000000000 (IntKind.i64.wrap ((a0.length:Int) - 1))
@[go_sem] def T144:=qT3 qu2 false r144
@[go_sem] def tb144 (k:Nat):=lk [(198,T198.sp)] k
theorem f144:FnFact Tryz.prog 144 T144.sp:=by
 refine vm (tb:=tb144) (.cons f198 .nil) Tryz.func144 Tryz.ntmps144 fun a0 r hr stop S=> ?_
 rw [uq1,r144] at hr
 refine S.gx [] ?_
 refine gr ?_
 refine S.li [0,3] [] [] (fun s1=>⟨[(0,.c (.d (encF 1 d_I a0))),sI 3 s1],[],[]⟩) (b144_1 a0) (fun q=>q=r) hr rfl ?_
 intro s1 hr
 unfold b144_1 at hr
 refine S.gx [] ?_
 exact D1 (S.ss [0,3] [] []) hr
def b80_4 (x0 x1 x2 x3:Int) (v1:L_ILIIEI×L_ILIIEI×L_ILIIEI×L_ILIIEI):Bd ((Option (Int×L_II×Int))×Int) (Int×Int):=fun s4=>
 if (decide (s4.2<(v1.2.2.2.length:Int)))=true then
  if 0≤s4.2∧s4.2<(v1.2.2.2.length:Int) then
   bindC (r139 ((v1.2.2.2.getD s4.2.toNat default).1) ((v1.2.2.2.getD s4.2.toNat default).2.1) ((v1.2.2.2.getD s4.2.toNat default).2.2) s4.1 0) fun v11=>
    if (v11 != 0)=true then
     .out (some (s4.2,v11))
     else if 0≤s4.2∧s4.2<(v1.2.2.2.length:Int) then
      .next (some ((v1.2.2.2.getD s4.2.toNat default).1,(v1.2.2.2.getD s4.2.toNat default).2.1,(v1.2.2.2.getD s4.2.toNat default).2.2),IntKind.i64.wrap (s4.2+1))
      else .out none
   else .out none
  else .out (if (decide ((v1.1.length:Int)>0))=true then
   if (decide ((v1.2.1.length:Int)>0))=true→0≤IntKind.i64.wrap ((v1.2.1.length:Int) - 1)∧IntKind.i64.wrap ((v1.2.1.length:Int) - 1)<(v1.2.1.length:Int) then
    if (decide ((v1.2.1.length:Int)>0))=true→0≤0∧0<(v1.1.length:Int) then
     if ((decide ((v1.2.1.length:Int)>0)) && (decide (((v1.2.1.getD (IntKind.i64.wrap ((v1.2.1.length:Int) - 1)).toNat default).1)≥((v1.1.getD 0 default).1))))=true then
      some (0,13)
      else if (decide ((v1.2.2.1.length:Int)>0))=true→0≤IntKind.i64.wrap ((v1.2.2.1.length:Int) - 1)∧IntKind.i64.wrap ((v1.2.2.1.length:Int) - 1)<(v1.2.2.1.length:Int) then
       if (decide ((v1.2.2.1.length:Int)>0))=true→0≤0∧0<(v1.1.length:Int) then
        if ((decide ((v1.2.2.1.length:Int)>0)) && (decide (((v1.2.2.1.getD (IntKind.i64.wrap ((v1.2.2.1.length:Int) - 1)).toNat default).1)≥((v1.1.getD 0 default).1))))=true then
         some (0,13)
         else if (decide ((v1.2.2.2.length:Int)>0))=true→0≤IntKind.i64.wrap ((v1.2.2.2.length:Int) - 1)∧IntKind.i64.wrap ((v1.2.2.2.length:Int) - 1)<(v1.2.2.2.length:Int) then
          if (decide ((v1.2.2.2.length:Int)>0))=true→0≤0∧0<(v1.1.length:Int) then
           if ((decide ((v1.2.2.2.length:Int)>0)) && (decide (((v1.2.2.2.getD (IntKind.i64.wrap ((v1.2.2.2.length:Int) - 1)).toNat default).1)≥((v1.1.getD 0 default).1))))=true then
            some (0,13)
            else (r140b [x0,x1,x2,x3]).bind fun v14=>
             (r143 (!v14) 2).bind fun v15=>
              (r144 [x0,x1,x2,x3]).bind fun v16=>
               (r143 v16 9).bind fun v17=>
                (r104 [v15,v17]).bind fun v18=>
                 some (0,v18)
           else none
          else none
        else none
       else none
     else none
    else none
   else (r140b [x0,x1,x2,x3]).bind fun v25=>
    (r143 (!v25) 2).bind fun v26=>
     (r144 [x0,x1,x2,x3]).bind fun v27=>
      (r143 v27 9).bind fun v28=>
       (r104 [v26,v28]).bind fun v29=>
        some (0,v29))
def b80_3 (x0 x1 x2 x3:Int) (v1:L_ILIIEI×L_ILIIEI×L_ILIIEI×L_ILIIEI):Bd ((Option (Int×L_II×Int))×Int) (Int×Int):=fun s3=>
 if (decide (s3.2<(v1.2.2.1.length:Int)))=true then
  if 0≤s3.2∧s3.2<(v1.2.2.1.length:Int) then
   bindC (r139 ((v1.2.2.1.getD s3.2.toNat default).1) ((v1.2.2.1.getD s3.2.toNat default).2.1) ((v1.2.2.1.getD s3.2.toNat default).2.2) s3.1 (-1)) fun v8=>
    if (v8 != 0)=true then
     .out (some (s3.2,v8))
     else if 0≤s3.2∧s3.2<(v1.2.2.1.length:Int) then
      .next (some ((v1.2.2.1.getD s3.2.toNat default).1,(v1.2.2.1.getD s3.2.toNat default).2.1,(v1.2.2.1.getD s3.2.toNat default).2.2),IntKind.i64.wrap (s3.2+1))
      else .out none
   else .out none
  else .out (iterC (b80_4 x0 x1 x2 x3 v1) 1000000000 (none,0))
def b80_2 (x0 x1 x2 x3:Int) (v1:L_ILIIEI×L_ILIIEI×L_ILIIEI×L_ILIIEI):Bd ((Option (Int×L_II×Int))×Int) (Int×Int):=fun s2=>
 if (decide (s2.2<(v1.2.1.length:Int)))=true then
  if 0≤s2.2∧s2.2<(v1.2.1.length:Int) then
   bindC (r139 ((v1.2.1.getD s2.2.toNat default).1) ((v1.2.1.getD s2.2.toNat default).2.1) ((v1.2.1.getD s2.2.toNat default).2.2) s2.1 0) fun v5=>
    if (v5 != 0)=true then
     .out (some (s2.2,v5))
     else if 0≤s2.2∧s2.2<(v1.2.1.length:Int) then
      .next (some ((v1.2.1.getD s2.2.toNat default).1,(v1.2.1.getD s2.2.toNat default).2.1,(v1.2.1.getD s2.2.toNat default).2.2),IntKind.i64.wrap (s2.2+1))
      else .out none
   else .out none
  else .out (iterC (b80_3 x0 x1 x2 x3 v1) 1000000000 (none,0))
def b80_1 (x0 x1 x2 x3:Int) (v1:L_ILIIEI×L_ILIIEI×L_ILIIEI×L_ILIIEI):Bd ((Option (Int×L_II×Int))×Int) (Int×Int):=fun s1=>
 if (decide (s1.2<(v1.1.length:Int)))=true then
  if 0≤s1.2∧s1.2<(v1.1.length:Int) then
   bindC (r139 ((v1.1.getD s1.2.toNat default).1) ((v1.1.getD s1.2.toNat default).2.1) ((v1.1.getD s1.2.toNat default).2.2) s1.1 1) fun v2=>
    if (v2 != 0)=true then
     .out (some (s1.2,v2))
     else if 0≤s1.2∧s1.2<(v1.1.length:Int) then
      .next (some ((v1.1.getD s1.2.toNat default).1,(v1.1.getD s1.2.toNat default).2.1,(v1.1.getD s1.2.toNat default).2.2),IntKind.i64.wrap (s1.2+1))
      else .out none
   else .out none
  else .out (iterC (b80_2 x0 x1 x2 x3 v1) 1000000000 (none,0))
def r80 (x4:L_IIII) (x5:L_IIIII) (x6:L_III) (x7:L_II) (x0 x1 x2 x3:Int):Option (Int×Int):=
 (r138 x4 x5 x6 x7 x0 x1 x2 x3).bind fun v1=>
  if (decide ((v1.1.length:Int)>8))=true then
   some (0,8)
   else if (decide ((v1.2.1.length:Int)>8))=true then
    some (0,8)
    else if (decide ((v1.2.2.1.length:Int)>8))=true then
     some (0,8)
     else if (decide ((v1.2.2.2.length:Int)>8))=true then
      some (0,8)
      else iterC (b80_1 x0 x1 x2 x3 v1) 1000000000 (none,0)
@[go_sem] def T80:=qT35 qu4 false r80
@[go_sem] def tb80 (k:Nat):=lk [(104,T104.sp),(138,T138.sp),(139,T139.sp),(140,T140b.sp),(143,T143.sp),(144,T144.sp)] k
theorem f80:FnFact Tryz.prog 80 T80.sp:=by
 refine vm (tb:=tb80) (.cons f104 (.cons f138 (.cons f139 (.cons f140b (.cons f143 (.cons f144 .nil)))))) Tryz.func80 Tryz.ntmps80 fun ⟨x4,x5,x6,x7,x0,x1,x2,x3⟩ r hr stop S=> ?_
 rw [uq8,r80] at hr
 refine S.gx [26,27] ?_
 obtain ⟨v1,hv1,hr⟩:=of_bind0 hr
 refine gb hv1 ?_
 refine S.lp ?_
 refine S.gw [26,27] ?_
 refine iW hr (fun hc hr=>D0 hr) fun hc hr=> ?_
 refine gr ?_
 refine S.lp ?_
 refine S.gw [26,27] ?_
 refine iW hr (fun hc hr=>D0 hr) fun hc hr=> ?_
 refine gr ?_
 refine S.lp ?_
 refine S.gw [26,27] ?_
 refine iW hr (fun hc hr=>D0 hr) fun hc hr=> ?_
 refine gr ?_
 refine S.lp ?_
 refine S.gw [26,27] ?_
 refine iW hr (fun hc hr=>D0 hr) fun hc hr=> ?_
 refine gr ?_
 refine S.lp ?_
 refine S.gw [26,27] ?_
 refine S.lp ?_
 refine S.gw [26,27] ?_
 refine S.share 16 rfl ?_
 refine S.li [1,4,7,8,9,25,26,31,32] [(1,1),(4,4)] [(16,16),(10016,10016),(20016,20016),(30016,30016)] (fun s1=>⟨[sR 1 1,sR 4 4,sI 7 0,sO 8 16,(9,.c (.d (encP d_ILIIEI s1.1))),(25,.agg [.own 16,.own 10016,.own 20016,.own 30016]),sI 26 0,sI 31 (v1.1.length:Int),sI 32 s1.2],[(1,[.d (encF 4 d_IIII x4),.d (encF 5 d_IIIII x5),.d (encF 3 d_III x6),.d (encF 2 d_II x7),iC x0,iC x1,iC x2,iC x3]),(4,[.own 16,.own 10016,.own 20016,.own 30016])],[(16,.shared (encF 3 d_ILIIEI v1.1)),(10016,.owned (encF 3 d_ILIIEI v1.2.1)),(20016,.owned (encF 3 d_ILIIEI v1.2.2.1)),(30016,.owned (encF 3 d_ILIIEI v1.2.2.2))]⟩) (b80_1 x0 x1 x2 x3 v1) (fun q=>q=r) hr rfl ?_
 intro s1 hr
 unfold b80_1 at hr
 refine S.gw [26,27] ?_
 refine iW1 hr (fun hc hr=>D1 (S.ss [1,4,7,8,9,25,26,31,32] [(1,1),(4,4)] [(16,16),(10016,10016),(20016,20016),(30016,30016)]) hr) fun hc hr=> ?_
 refine gr ?_
 have hr:=of_out0 hr
 refine gr ?_
 refine S.lp ?_
 refine S.gw [26,27] ?_
 refine S.share 10016 rfl ?_
 refine S.li [1,4,7,8,9,25,26,31,32] [(1,1),(4,4)] [(10016,10016),(16,16),(20016,20016),(30016,30016)] (fun s2=>⟨[sR 1 1,sR 4 4,sI 7 1,sO 8 10016,(9,.c (.d (encP d_ILIIEI s2.1))),(25,.agg [.own 16,.own 10016,.own 20016,.own 30016]),sI 26 1,sI 31 (v1.2.1.length:Int),sI 32 s2.2],[(1,[.d (encF 4 d_IIII x4),.d (encF 5 d_IIIII x5),.d (encF 3 d_III x6),.d (encF 2 d_II x7),iC x0,iC x1,iC x2,iC x3]),(4,[.own 16,.own 10016,.own 20016,.own 30016])],[(10016,.shared (encF 3 d_ILIIEI v1.2.1)),(16,.shared (encF 3 d_ILIIEI v1.1)),(20016,.owned (encF 3 d_ILIIEI v1.2.2.1)),(30016,.owned (encF 3 d_ILIIEI v1.2.2.2))]⟩) (b80_2 x0 x1 x2 x3 v1) (fun q=>q=r) hr rfl ?_
 intro s2 hr
 unfold b80_2 at hr
 refine S.gw [26,27] ?_
 refine iW1 hr (fun hc hr=>D1 (S.ss [1,4,7,8,9,25,26,31,32] [(1,1),(4,4)] [(10016,10016),(16,16),(20016,20016),(30016,30016)]) hr) fun hc hr=> ?_
 refine gr ?_
 have hr:=of_out0 hr
 refine gr ?_
 refine S.lp ?_
 refine S.gw [26,27] ?_
 refine S.share 20016 rfl ?_
 refine S.li [1,4,7,8,9,25,26,31,32] [(1,1),(4,4)] [(20016,20016),(16,16),(10016,10016),(30016,30016)] (fun s3=>⟨[sR 1 1,sR 4 4,sI 7 2,sO 8 20016,(9,.c (.d (encP d_ILIIEI s3.1))),(25,.agg [.own 16,.own 10016,.own 20016,.own 30016]),sI 26 2,sI 31 (v1.2.2.1.length:Int),sI 32 s3.2],[(1,[.d (encF 4 d_IIII x4),.d (encF 5 d_IIIII x5),.d (encF 3 d_III x6),.d (encF 2 d_II x7),iC x0,iC x1,iC x2,iC x3]),(4,[.own 16,.own 10016,.own 20016,.own 30016])],[(20016,.shared (encF 3 d_ILIIEI v1.2.2.1)),(16,.shared (encF 3 d_ILIIEI v1.1)),(10016,.shared (encF 3 d_ILIIEI v1.2.1)),(30016,.owned (encF 3 d_ILIIEI v1.2.2.2))]⟩) (b80_3 x0 x1 x2 x3 v1) (fun q=>q=r) hr rfl ?_
 intro s3 hr
 unfold b80_3 at hr
 refine S.gw [26,27] ?_
 refine iW1 hr (fun hc hr=>D1 (S.ss [1,4,7,8,9,25,26,31,32] [(1,1),(4,4)] [(20016,20016),(16,16),(10016,10016),(30016,30016)]) hr) fun hc hr=> ?_
 refine gr ?_
 have hr:=of_out0 hr
 refine gr ?_
 refine S.lp ?_
 refine S.gw [26,27] ?_
 refine S.share 30016 rfl ?_
 refine S.li [1,4,7,8,9,25,26,31,32] [(1,1),(4,4)] [(30016,30016),(16,16),(10016,10016),(20016,20016)] (fun s4=>⟨[sR 1 1,sR 4 4,sI 7 3,sO 8 30016,(9,.c (.d (encP d_ILIIEI s4.1))),(25,.agg [.own 16,.own 10016,.own 20016,.own 30016]),sI 26 3,sI 31 (v1.2.2.2.length:Int),sI 32 s4.2],[(1,[.d (encF 4 d_IIII x4),.d (encF 5 d_IIIII x5),.d (encF 3 d_III x6),.d (encF 2 d_II x7),iC x0,iC x1,iC x2,iC x3]),(4,[.own 16,.own 10016,.own 20016,.own 30016])],[(30016,.shared (encF 3 d_ILIIEI v1.2.2.2)),(16,.shared (encF 3 d_ILIIEI v1.1)),(10016,.shared (encF 3 d_ILIIEI v1.2.1)),(20016,.shared (encF 3 d_ILIIEI v1.2.2.1))]⟩) (b80_4 x0 x1 x2 x3 v1) (fun q=>q=r) hr rfl ?_
 intro s4 hr
 unfold b80_4 at hr
 refine S.gw [26,27] ?_
 refine iW1 hr (fun hc hr=>D1 (S.ss [1,4,7,8,9,25,26,31,32] [(1,1),(4,4)] [(30016,30016),(16,16),(10016,10016),(20016,20016)]) hr) fun hc hr=> ?_
 refine gr ?_
 have hr:=of_out0 hr
 refine gr ?_
 refine S.lp ?_
 refine S.gw [26,27] ?_
 refine iW hr (fun hc hr=> ?_) fun hc hr=>D0 hr
 refine gr ?_
 refine S.lp ?_
 refine S.gx [26,27] ?_
 obtain ⟨hg23,hr⟩:=of_guard0 hr
 obtain ⟨hg24,hr⟩:=of_guard0 hr
 repeat (first | refine gG hg23 ?_ | refine gG hg24 ?_ | refine gA ?_ | refine gB ?_)
 refine iW hr (fun hc hr=> ?_) fun hc hr=> ?_
 ·refine gr ?_
  refine S.prune [] ?_
  refine S.gx [27] ?_
  exact D0 hr
 ·refine gr ?_
  refine S.prune [1,4,57,58,59] ?_
  refine S.gw [26] ?_
  refine S.lp ?_
  refine S.gx [26,27] ?_
  obtain ⟨hg21,hr⟩:=of_guard0 hr
  obtain ⟨hg22,hr⟩:=of_guard0 hr
  repeat (first | refine gG hg21 ?_ | refine gG hg22 ?_ | refine gA ?_ | refine gB ?_)
  refine iW hr (fun hc hr=> ?_) fun hc hr=> ?_
  ·refine gr ?_
   refine S.prune [] ?_
   refine S.gx [27] ?_
   exact D0 hr
  ·refine gr ?_
   refine S.prune [1,4,57,58,59] ?_
   refine S.gw [26] ?_
   refine S.lp ?_
   refine S.gx [26,27] ?_
   obtain ⟨hg19,hr⟩:=of_guard0 hr
   obtain ⟨hg20,hr⟩:=of_guard0 hr
   repeat (first | refine gG hg19 ?_ | refine gG hg20 ?_ | refine gA ?_ | refine gB ?_)
   refine iW hr (fun hc hr=> ?_) fun hc hr=> ?_
   ·refine gr ?_
    refine S.prune [] ?_
    refine S.gx [27] ?_
    exact D0 hr
   ·refine gr ?_
    refine S.prune [1,4,57,58,59] ?_
    refine S.gw [26] ?_
    refine S.lp ?_
    refine S.gx [26,27] ?_
    exact D0 hr
def r81 (a0:Int):Option (Bool):=
 (r71 a0 0 2000).bind fun v1=>
  some v1
@[go_sem] def T81:=qT4 qu2 false r81
@[go_sem] def tb81 (k:Nat):=lk [(71,T71.sp)] k
theorem f81:FnFact Tryz.prog 81 T81.sp:=by
 refine vm (tb:=tb81) (.cons f71 .nil) Tryz.func81 Tryz.ntmps81 fun a0 r hr stop S=> ?_
 rw [uq1,r81] at hr
 refine S.gx [] ?_
 exact D0 hr
def b22_1 (x1:Int) (x0:L_III) (x2:Int):Bd Int (Int×Int):=fun s1=>
 if (decide (s1<(x0.length:Int)))=true then
  if 0≤s1∧s1<(x0.length:Int) then
   bindC (r71 ((x0.getD s1.toNat default).1) 0 (IntKind.i64.wrap (x1 - 1))) fun v5=>
    bindC (r65 v5 6) fun v6=>
     bindC (r81 ((x0.getD s1.toNat default).2.1)) fun v7=>
      if v7=true→(r81 ((x0.getD s1.toNat default).2.2)).isSome=true then
       bindC (r65 (v7 && ((r81 ((x0.getD s1.toNat default).2.2)).getD default)) 2) fun v8=>
        bindC (r65 (decide (((x0.getD s1.toNat default).2.1)≤((x0.getD s1.toNat default).2.2))) 9) fun v9=>
         bindC (r64 [v6,v8,v9]) fun v10=>
          if (v10 != 0)=true then
           .out (some (s1,v10))
           else .next (IntKind.i64.wrap (s1+1))
       else .out none
   else .out none
  else .out ((r71 x2 200 3000).bind fun v13=>
   (r65 v13 2).bind fun v14=>
    some (0,v14))
def r22 (x1 x3:Int) (x4:L_II) (x5:L_LIIE) (x6 x7:L_I) (x8:L_II) (x9 x10:Int) (x11:L_IIII) (x12:L_IIIII) (x13:L_III) (x14:L_II) (x15 x16 x17 x18:Int) (x0:L_III) (x2:Int):Option (Int×Int):=
 (r79 x1 x3 x4 x5 x6 x7 x8 x9 x10).bind fun v1=>
  (r80 x11 x12 x13 x14 x15 x16 x17 x18).bind fun v2=>
   (r65 (decide ((x0.length:Int)≤6)) 8).bind fun v3=>
    (r64 [v1.2,v2.2,v3]).bind fun v4=>
     if (v4 != 0)=true then
      some (0,v4)
      else iterC (b22_1 x1 x0 x2) 1000000000 0
@[go_sem] def T22:=qT38 qu4 false r22
@[go_sem] def tb22 (k:Nat):=lk [(64,T64.sp),(65,T65.sp),(71,T71.sp),(79,T79.sp),(80,T80.sp),(81,T81.sp)] k
theorem f22:FnFact Tryz.prog 22 T22.sp:=by
 refine vm (tb:=tb22) (.cons f64 (.cons f65 (.cons f71 (.cons f79 (.cons f80 (.cons f81 .nil)))))) Tryz.func22 Tryz.ntmps22 fun ⟨x1,x3,x4,x5,x6,x7,x8,x9,x10,x11,x12,x13,x14,x15,x16,x17,x18,x0,x2⟩ r hr stop S=> ?_
 rw [uq19,r22] at hr
 refine S.gx [5,6,11] ?_
 obtain ⟨v1,hv1,hr⟩:=of_bind0 hr
 obtain ⟨v2,hv2,hr⟩:=of_bind0 hr
 obtain ⟨v3,hv3,hr⟩:=of_bind0 hr
 obtain ⟨v4,hv4,hr⟩:=of_bind0 hr
 refine gb hv1 ?_
 refine gb hv2 ?_
 refine gb hv3 ?_
 refine gb hv4 ?_
 refine iW hr (fun hc hr=> ?_) fun hc hr=> ?_
 ·refine gr ?_
  refine S.prune [8] ?_
  refine S.gx [6,11] ?_
  exact D0 hr
 ·refine gr ?_
  refine S.prune [1] ?_
  refine S.gw [5,11] ?_
  refine S.li [1,9,38,39,40] [(1,1)] [] (fun s1=>⟨[sR 1 1,(9,.c (.clo 81 [])),(38,.c (.d (encF 3 d_III x0))),sI 39 (x0.length:Int),sI 40 s1],[(1,[iC x1,iC x3,.d (encF 2 d_II x4),.d (encF 1 d_LIIE x5),.d (encF 1 d_I x6),.d (encF 1 d_I x7),.d (encF 2 d_II x8),iC x9,iC x10,.d (encF 4 d_IIII x11),.d (encF 5 d_IIIII x12),.d (encF 3 d_III x13),.d (encF 2 d_II x14),iC x15,iC x16,iC x17,iC x18,.d (encF 3 d_III x0),iC x2])],[]⟩) (b22_1 x1 x0 x2) (fun q=>q=r) hr rfl ?_
  intro s1 hr
  unfold b22_1 at hr
  refine S.gw [5,6,11] ?_
  refine iW1 hr (fun hc hr=> ?_) fun hc hr=>D0 hr
  obtain ⟨hg11,hr⟩:=of_guard1 hr
  obtain ⟨v5,hv5,hr⟩:=of_bind1 hr
  obtain ⟨v6,hv6,hr⟩:=of_bind1 hr
  obtain ⟨v7,hv7,hr⟩:=of_bind1 hr
  obtain ⟨hg12,hr⟩:=of_guard1 hr
  obtain ⟨v8,hv8,hr⟩:=of_bind1 hr
  obtain ⟨v9,hv9,hr⟩:=of_bind1 hr
  obtain ⟨v10,hv10,hr⟩:=of_bind1 hr
  try simp only [hv5,hv6,hv7,hv8,hv9,hv10,Option.getD_some,Option.isSome_some,true_and,and_assoc]
  repeat (first | refine gG hg12 ?_ | refine gA ?_ | refine gB ?_)
  refine S.prune [1,9,10,12,38,39,40] ?_
  refine S.gx [5,6] ?_
  exact D1 (S.ss [1,9,38,39,40] [(1,1)] []) hr
def r82 (x0 x1:Int) (x2:L_II) (x3:L_LIIE) (x4 x5:L_I) (x6:L_II) (x7 x8:Int) (x9:L_IIII) (x10:L_IIIII) (x11:L_III) (x12:L_II) (x13 x14 x15 x16:Int) (x17:L_III) (x18:Int):Option (Int×Int×L_II×L_LIIE×L_I×L_I×L_II×Int×Int×Int×Int×L_II×L_LIIE×L_I×L_I×L_II×Int×Int×L_IIII×L_IIIII×L_III×L_II×Int×Int×Int×Int×L_III×Int×Int):=
 (r22 x0 x1 x2 x3 x4 x5 x6 x7 x8 x9 x10 x11 x12 x13 x14 x15 x16 x17 x18).bind fun v1=>
  some (x0,x1,x2,x3,x4,x5,x6,x7,x8,x0,x1,x2,x3,x4,x5,x6,x7,x8,x9,x10,x11,x12,x13,x14,x15,x16,x17,x18,v1.2)
@[go_sem] def T82:=qT38 qu20 true r82
@[go_sem] def tb82 (k:Nat):=lk [(22,T22.sp)] k
theorem f82:FnFact Tryz.prog 82 T82.sp:=by
 refine vm (tb:=tb82) (.cons f22 .nil) Tryz.func82 Tryz.ntmps82 fun ⟨x0,x1,x2,x3,x4,x5,x6,x7,x8,x9,x10,x11,x12,x13,x14,x15,x16,x17,x18⟩ r hr stop S=> ?_
 rw [uq19,r82] at hr
 refine S.gx [] ?_
 exact D0 hr
def b83_1 (x0 x1:Int) (x2:L_II) (x3:L_LIIE) (x4 x5:L_I) (x6:L_II) (x7 x8:Int) (a1:L_II):Bd (Int×Int) Int:=fun s1=>
 if (decide (s1.2<(a1.length:Int)))=true then
  if 0≤s1.2∧s1.2<(a1.length:Int) then
   bindC (r71 ((a1.getD s1.2.toNat default).1) 0 10000) fun v2=>
    bindC (r65 v2 2) fun v3=>
     bindC (r118 x0 x1 x2 x3 x4 x5 x6 x7 x8) fun v4=>
      bindC (r71 ((a1.getD s1.2.toNat default).2) 0 v4) fun v5=>
       bindC (r65 v5 6) fun v6=>
        bindC (r64 [s1.1,v3,v6]) fun v7=>
         .next (v7,IntKind.i64.wrap (s1.2+1))
   else .out none
  else .out (some s1.1)
def r83 (x0 x1:Int) (x2:L_II) (x3:L_LIIE) (x4 x5:L_I) (x6:L_II) (x7 x8:Int) (a1:L_II):Option (Int):=
 (r65 (decide ((a1.length:Int)≤200)) 8).bind fun v1=>
  iterC (b83_1 x0 x1 x2 x3 x4 x5 x6 x7 x8 a1) 1000000000 (v1,0)
@[go_sem] def T83:=qT39 qu3 false r83
@[go_sem] def tb83 (k:Nat):=lk [(64,T64.sp),(65,T65.sp),(71,T71.sp),(118,T118.sp)] k
theorem f83:FnFact Tryz.prog 83 T83.sp:=by
 refine vm (tb:=tb83) (.cons f64 (.cons f65 (.cons f71 (.cons f118 .nil)))) Tryz.func83 Tryz.ntmps83 fun ⟨x0,x1,x2,x3,x4,x5,x6,x7,x8,a1⟩ r hr stop S=> ?_
 rw [uq10,r83] at hr
 refine S.gx [] ?_
 obtain ⟨v1,hv1,hr⟩:=of_bind0 hr
 refine gb hv1 ?_
 refine S.li [2,5,12,13,14] [(2,2)] [] (fun s1=>⟨[sR 2 2,sI 5 s1.1,(12,.c (.d (encF 2 d_II a1))),sI 13 (a1.length:Int),sI 14 s1.2],[(2,[iC x0,iC x1,.d (encF 2 d_II x2),.d (encF 1 d_LIIE x3),.d (encF 1 d_I x4),.d (encF 1 d_I x5),.d (encF 2 d_II x6),iC x7,iC x8])],[]⟩) (b83_1 x0 x1 x2 x3 x4 x5 x6 x7 x8 a1) (fun q=>q=r) hr rfl ?_
 intro s1 hr
 unfold b83_1 at hr
 refine S.gx [] ?_
 exact D1 (S.ss [2,5,12,13,14] [(2,2)] []) hr
def b99_2 (x0:Int) (a1:L_II) (s1:(List (L_II×Int×Int))×Int) (v1 v2:L_I×Int) (v3:Int):Bd (Int×(List (Int×Int))) (Ctl ((List (L_II×Int×Int))×Int) (L_LIIEII)):=fun s2=>
 if (decide (s2.1<(v1.1.length:Int)))=true then
  if 0≤s2.1∧s2.1<(v1.1.length:Int) then
   if 0≤s2.1∧s2.1<(v2.1.length:Int) then
    if (s2.2.length+1)*16≤140737488355328∧s2.2.length+1≤9223372036854775807 then
     .next (IntKind.i64.wrap (s2.1+1),s2.2++[((v1.1.getD s2.1.toNat default),(v2.1.getD s2.1.toNat default))])
     else .out none
    else .out none
   else .out none
  else .out (some (if (s1.1.length+1)*40≤140737488355328∧s1.1.length+1≤9223372036854775807 then
   .next (s1.1++[(s2.2,(if 0<IntKind.i64.wrap (((a1.getD s1.2.toNat default).2) - x0) then IntKind.i64.wrap (((a1.getD s1.2.toNat default).2) - x0) else 0),(if IntKind.i64.wrap (((a1.getD s1.2.toNat default).2)+x0)<v3 then IntKind.i64.wrap (((a1.getD s1.2.toNat default).2)+x0) else v3))],IntKind.i64.wrap (s1.2+1))
   else .out none))
def b99_1 (x1 x2:Int) (x3:L_II) (x4:L_LIIE) (x5 x6:L_I) (x7:L_II) (x8 x0:Int) (a1:L_II):Bd ((List (L_II×Int×Int))×Int) L_LIIEII:=fun s1=>
 if (decide (s1.2<(a1.length:Int)))=true then
  if 0≤s1.2∧s1.2<(a1.length:Int) then
   bindC (r160 x1 x2 x3 x4 x5 x6 x7 x8 x0 ((a1.getD s1.2.toNat default).1) ((a1.getD s1.2.toNat default).2) 161) fun v1=>
    bindC (r160 x1 x2 x3 x4 x5 x6 x7 x8 x0 ((a1.getD s1.2.toNat default).1) ((a1.getD s1.2.toNat default).2) 162) fun v2=>
     bindC (r118 x1 x2 x3 x4 x5 x6 x7 x8 x0) fun v3=>
      (iterC (b99_2 x0 a1 s1 v1 v2 v3) 1000000000 (0,[])).getD (.out none)
   else .out none
  else .out (some s1.1)
def r99 (x1 x2:Int) (x3:L_II) (x4:L_LIIE) (x5 x6:L_I) (x7:L_II) (x8 x0:Int) (a1:L_II):Option (L_LIIEII):=
 iterC (b99_1 x1 x2 x3 x4 x5 x6 x7 x8 x0 a1) 1000000000 ([],0)
@[go_sem] def T99:=qT39 qu21 true r99
@[go_sem] def tb99 (k:Nat):=lk [(118,T118.sp),(160,T160.sp)] k
theorem f99:FnFact Tryz.prog 99 T99.sp:=by
 refine vm (tb:=tb99) (.cons f118 (.cons f160 .nil)) Tryz.func99 Tryz.ntmps99 fun ⟨x1,x2,x3,x4,x5,x6,x7,x8,x0,a1⟩ r hr stop S=> ?_
 rw [uq10,r99] at hr
 refine S.gx [] ?_
 refine gr ?_
 refine S.own0 5 1000500 3 rfl rfl ?_
 refine S.li [2,5,12,13,14] [(2,2)] [(1000500,1000500)] (fun s1=>⟨[sR 2 2,sO 5 1000500,(12,.c (.d (encF 2 d_II a1))),sI 13 (a1.length:Int),sI 14 s1.2],[(2,[iC x1,iC x2,.d (encF 2 d_II x3),.d (encF 1 d_LIIE x4),.d (encF 1 d_I x5),.d (encF 1 d_I x6),.d (encF 2 d_II x7),iC x8,iC x0])],[(1000500,.owned (encF 3 d_LIIEII s1.1))]⟩) (b99_1 x1 x2 x3 x4 x5 x6 x7 x8 x0 a1) (fun q=>q=r) hr rfl ?_
 intro s1 hr
 unfold b99_1 at hr
 refine S.gw [] ?_
 refine iW1 hr (fun hc hr=> ?_) fun hc hr=>D0 hr
 obtain ⟨hg8,hr⟩:=of_guard1 hr
 obtain ⟨v1,hv1,hr⟩:=of_bind1 hr
 obtain ⟨v2,hv2,hr⟩:=of_bind1 hr
 obtain ⟨v3,hv3,hr⟩:=of_bind1 hr
 refine gb hv1 ?_
 refine gb hv2 ?_
 refine gb hv3 ?_
 refine S.own0b 10 0 2001000 2 rfl rfl (nL rfl) rfl ?_
 obtain ⟨q2,hq,hr⟩:=of_iter1 hr
 refine S.li [2,5,8,9,10,12,13,14,44,45] [(2,2),(8,8),(9,9),(10,10)] [(2001000,2001000),(1000500,1000500),(20,20),(23,23)] (fun s2=>⟨[sR 2 2,sO 5 1000500,sR 8 8,sR 9 9,sR 10 10,(12,.c (.d (encF 2 d_II a1))),sI 13 (a1.length:Int),sI 14 s1.2,sI 44 (v1.1.length:Int),sI 45 s2.1],[(2,[iC x1,iC x2,.d (encF 2 d_II x3),.d (encF 1 d_LIIE x4),.d (encF 1 d_I x5),.d (encF 1 d_I x6),.d (encF 2 d_II x7),iC x8,iC x0]),(8,[.own 20,iC v1.2]),(9,[.own 23,iC v2.2]),(10,[.own 2001000,iC (if 0<IntKind.i64.wrap (((a1.getD s1.2.toNat default).2) - x0) then IntKind.i64.wrap (((a1.getD s1.2.toNat default).2) - x0) else 0),iC (if IntKind.i64.wrap (((a1.getD s1.2.toNat default).2)+x0)<v3 then IntKind.i64.wrap (((a1.getD s1.2.toNat default).2)+x0) else v3)])],[(2001000,.owned (encF 2 d_II s2.2)),(1000500,.owned (encF 3 d_LIIEII s1.1)),(20,.owned (encF 1 d_I v1.1)),(23,.owned (encF 1 d_I v2.1))]⟩) (b99_2 x0 a1 s1 v1 v2 v3) _ hq hr ?_
 intro s2 hr
 unfold b99_2 at hr
 refine S.gw [] ?_
 refine iW1 hr (fun hc hr=>D1 (S.ss [2,5,8,9,10,12,13,14,44,45] [(2,2),(8,8),(9,9),(10,10)] [(62,2001000),(1000500,1000500),(20,20),(23,23)]) hr) fun hc hr=> ?_
 refine gr ?_
 replace hr:=goodC_out hr
 exact D1 (S.ss [2,5,12,13,14] [(2,2)] [(68,1000500)]) hr
def r211 (x0 x1:Int) (x2:L_II) (x3:L_LIIE) (x4 x5:L_I):Option (Int×Int×L_II×L_LIIE×L_II×L_LIIE×Int):=
 (r193 x0 x1 x2 x3).bind fun v1=>
  if (v1.2.2.2.2.2.2 == 0)=true then
   (r194 v1.1 v1.2.1 v1.2.2.1 v1.2.2.2.1 v1.2.2.2.2.1 v1.2.2.2.2.2.1 x4 x5).bind fun v2=>
    some (v1.1,v1.2.1,v1.2.2.1,v1.2.2.2.1,v1.2.2.2.2.1,v1.2.2.2.2.2.1,v2.2)
   else some (v1.1,v1.2.1,v1.2.2.1,v1.2.2.2.1,v1.2.2.2.2.1,v1.2.2.2.2.2.1,v1.2.2.2.2.2.2)
@[go_sem] def T211:=qT18 qu8 true r211
@[go_sem] def tb211 (k:Nat):=lk [(193,T193.sp),(194,T194.sp)] k
theorem f211:FnFact Tryz.prog 211 T211.sp:=by
 refine vm (tb:=tb211) (.cons f193 (.cons f194 .nil)) Tryz.func211 Tryz.ntmps211 fun ⟨x0,x1,x2,x3,x4,x5⟩ r hr stop S=> ?_
 rw [uq6,r211] at hr
 refine S.gx [] ?_
 exact D0 hr
def b270_1 (x1 x2:Int) (x3:L_II) (x4:L_LIIE) (x5:L_II) (x6:L_LIIE) (x0:L_II) (x7 x8:Int):Bd (Int×Int) Int:=fun s1=>
 if (decide (s1.2<(x0.length:Int)))=true then
  if 0≤s1.2∧s1.2<(x0.length:Int) then
   bindC (r276 ((x0.getD s1.2.toNat default).1)) fun v2=>
    if v2=true→(r276 ((x0.getD s1.2.toNat default).2)).isSome=true then
     bindC (r216 (v2 && ((r276 ((x0.getD s1.2.toNat default).2)).getD default)) 2) fun v3=>
      bindC (r216 (decide (((x0.getD s1.2.toNat default).1)≤((x0.getD s1.2.toNat default).2))) 9) fun v4=>
       bindC (r217 [s1.1,v3,v4]) fun v5=>
        .next (v5,IntKind.i64.wrap (s1.2+1))
     else .out none
   else .out none
  else .out ((r277 x1 x2 x3 x4 x5 x6 x7).bind fun v8=>
   (r277 x1 x2 x3 x4 x5 x6 x8).bind fun v9=>
    (r216 (decide (x7≤x8)) 9).bind fun v10=>
     (r217 [s1.1,v8,v9,v10]).bind fun v11=>
      some v11)
def r270 (x1 x2:Int) (x3:L_II) (x4:L_LIIE) (x5:L_II) (x6:L_LIIE) (x0:L_II) (x7 x8:Int):Option (Int):=
 (r216 ((x0.length:Int) == x1) 10).bind fun v1=>
  iterC (b270_1 x1 x2 x3 x4 x5 x6 x0 x7 x8) 1000000000 (v1,0)
@[go_sem] def T270:=qT40 qu3 false r270
@[go_sem] def tb270 (k:Nat):=lk [(216,T216.sp),(217,T217.sp),(276,T276.sp),(277,T277.sp)] k
theorem f270:FnFact Tryz.prog 270 T270.sp:=by
 refine vm (tb:=tb270) (.cons f216 (.cons f217 (.cons f276 (.cons f277 .nil)))) Tryz.func270 Tryz.ntmps270 fun ⟨x1,x2,x3,x4,x5,x6,x0,x7,x8⟩ r hr stop S=> ?_
 rw [uq9,r270] at hr
 refine S.gx [] ?_
 obtain ⟨v1,hv1,hr⟩:=of_bind0 hr
 refine gb hv1 ?_
 refine S.li [2,3,5,17,18,19] [(2,2),(3,3)] [] (fun s1=>⟨[sR 2 2,sR 3 3,sI 5 s1.1,(17,.c (.d (encF 2 d_II x0))),sI 18 (x0.length:Int),sI 19 s1.2],[(2,[iC x1,iC x2,.d (encF 2 d_II x3),.d (encF 1 d_LIIE x4),.d (encF 2 d_II x5),.d (encF 1 d_LIIE x6)]),(3,[.d (encF 2 d_II x0),iC x7,iC x8])],[]⟩) (b270_1 x1 x2 x3 x4 x5 x6 x0 x7 x8) (fun q=>q=r) hr rfl ?_
 intro s1 hr
 unfold b270_1 at hr
 refine S.gw [] ?_
 refine iW1 hr (fun hc hr=> ?_) fun hc hr=>D0 hr
 obtain ⟨hg6,hr⟩:=of_guard1 hr
 obtain ⟨v2,hv2,hr⟩:=of_bind1 hr
 obtain ⟨hg7,hr⟩:=of_guard1 hr
 obtain ⟨v3,hv3,hr⟩:=of_bind1 hr
 obtain ⟨v4,hv4,hr⟩:=of_bind1 hr
 obtain ⟨v5,hv5,hr⟩:=of_bind1 hr
 try simp only [hv2,hv3,hv4,hv5,Option.getD_some,Option.isSome_some,true_and,and_assoc]
 repeat (first | refine gG hg7 ?_ | refine gA ?_ | refine gB ?_)
 exact D1 (S.ss [2,3,5,17,18,19] [(2,2),(3,3)] []) hr
def b212_1 (x0 x1:Int) (x2:L_II) (x3:L_LIIE) (x4:L_II) (x5:L_LIIE) (a1:L_LIIEII):Bd (Int×Int) Int:=fun s1=>
 if (decide (s1.2<(a1.length:Int)))=true then
  if 0≤s1.2∧s1.2<(a1.length:Int) then
   bindC (r270 x0 x1 x2 x3 x4 x5 ((a1.getD s1.2.toNat default).1) ((a1.getD s1.2.toNat default).2.1) ((a1.getD s1.2.toNat default).2.2)) fun v2=>
    bindC (r217 [s1.1,v2]) fun v3=>
     .next (v3,IntKind.i64.wrap (s1.2+1))
   else .out none
  else .out (some s1.1)
def r212 (x0 x1:Int) (x2:L_II) (x3:L_LIIE) (x4:L_II) (x5:L_LIIE) (a1:L_LIIEII):Option (Int):=
 (r216 (decide ((a1.length:Int)≤200)) 8).bind fun v1=>
  iterC (b212_1 x0 x1 x2 x3 x4 x5 a1) 1000000000 (v1,0)
@[go_sem] def T212:=qT41 qu3 false r212
@[go_sem] def tb212 (k:Nat):=lk [(216,T216.sp),(217,T217.sp),(270,T270.sp)] k
theorem f212:FnFact Tryz.prog 212 T212.sp:=by
 refine vm (tb:=tb212) (.cons f216 (.cons f217 (.cons f270 .nil))) Tryz.func212 Tryz.ntmps212 fun ⟨x0,x1,x2,x3,x4,x5,a1⟩ r hr stop S=> ?_
 rw [uq7,r212] at hr
 refine S.gx [] ?_
 obtain ⟨v1,hv1,hr⟩:=of_bind0 hr
 refine gb hv1 ?_
 refine S.li [2,5,12,13,14] [(2,2)] [] (fun s1=>⟨[sR 2 2,sI 5 s1.1,(12,.c (.d (encF 3 d_LIIEII a1))),sI 13 (a1.length:Int),sI 14 s1.2],[(2,[iC x0,iC x1,.d (encF 2 d_II x2),.d (encF 1 d_LIIE x3),.d (encF 2 d_II x4),.d (encF 1 d_LIIE x5)])],[]⟩) (b212_1 x0 x1 x2 x3 x4 x5 a1) (fun q=>q=r) hr rfl ?_
 intro s1 hr
 unfold b212_1 at hr
 refine S.gx [] ?_
 exact D1 (S.ss [2,5,12,13,14] [(2,2)] []) hr
def b303_1 (x0:L_II) (x1 x2:Int):Bd (Int×(List (Int))×(List (Int))) (L_I×Int×L_I×Int):=fun s1=>
 if (decide (s1.1<(x0.length:Int)))=true then
  if 0≤s1.1∧s1.1<(x0.length:Int) then
   if (s1.2.1.length+1)*8≤140737488355328∧s1.2.1.length+1≤9223372036854775807 then
    if (s1.2.2.length+1)*8≤140737488355328∧s1.2.2.length+1≤9223372036854775807 then
     .next (IntKind.i64.wrap (s1.1+1),s1.2.1++[(x0.getD s1.1.toNat default).1],s1.2.2++[(x0.getD s1.1.toNat default).2])
     else .out none
    else .out none
   else .out none
  else .out (some (s1.2.1,x2,s1.2.2,x1))
def r303 (x0:L_II) (x1 x2:Int):Option (L_I×Int×L_I×Int):=
 iterC (b303_1 x0 x1 x2) 1000000000 (0,[],[])
@[go_sem] def T303:=qT42 qu22 false r303
theorem f303:FnFact Tryz.prog 303 T303.sp:=by
 refine vm .nil Tryz.func303 Tryz.ntmps303 fun ⟨x0,x1,x2⟩ r hr stop S=> ?_
 rw [uq3,r303] at hr
 refine S.gx [] ?_
 refine gr ?_
 refine S.own0b 2 0 2000200 1 rfl rfl (nL rfl) rfl ?_
 refine S.own0b 3 0 2000300 1 rfl rfl (nL rfl) rfl ?_
 refine S.li [2,3,15,16,17] [(2,2),(3,3)] [(2000200,2000200),(2000300,2000300)] (fun s1=>⟨[sR 2 2,sR 3 3,(15,.c (.d (encF 2 d_II x0))),sI 16 (x0.length:Int),sI 17 s1.1],[(2,[.own 2000200,iC x2]),(3,[.own 2000300,iC x1])],[(2000200,.owned (encF 1 d_I s1.2.1)),(2000300,.owned (encF 1 d_I s1.2.2))]⟩) (b303_1 x0 x1 x2) (fun q=>q=r) hr rfl ?_
 intro s1 hr
 unfold b303_1 at hr
 refine S.gx [] ?_
 exact D1 (S.ss [2,3,15,16,17] [(2,2),(3,3)] [(26,2000200),(32,2000300)]) hr
def r271 (x0 x1:Int) (x2:L_II) (x3:L_LIIE) (x4:L_II) (x5:L_LIIE) (x6 x7:L_I) (x8:L_II) (x9 x10:Int):Option (L_I×L_I×Int):=
 (r303 x8 x9 x10).bind fun v1=>
  (r165 x0 x1 x2 x3 x4 x5 x6 v1.1 v1.2.1).bind fun v2=>
   (r165 x0 x1 x2 x3 x4 x5 x7 v1.2.2.1 v1.2.2.2).bind fun v3=>
    (r217 [v2.2.2,v3.2.2]).bind fun v4=>
     if (v4 != 0)=true then
      some ([],[],v4)
      else some (v2.1,v3.1,0)
@[go_sem] def T271:=qT43 qu23 false r271
@[go_sem] def tb271 (k:Nat):=lk [(165,T165.sp),(217,T217.sp),(303,T303.sp)] k
theorem f271:FnFact Tryz.prog 271 T271.sp:=by
 refine vm (tb:=tb271) (.cons f165 (.cons f217 (.cons f303 .nil))) Tryz.func271 Tryz.ntmps271 fun ⟨x0,x1,x2,x3,x4,x5,x6,x7,x8,x9,x10⟩ r hr stop S=> ?_
 rw [uq11,r271] at hr
 refine S.gx [4] ?_
 obtain ⟨v1,hv1,hr⟩:=of_bind0 hr
 obtain ⟨v2,hv2,hr⟩:=of_bind0 hr
 obtain ⟨v3,hv3,hr⟩:=of_bind0 hr
 refine gb hv1 ?_
 refine gb hv2 ?_
 refine gb hv3 ?_
 refine S.prune [6,10,12,13,15] ?_
 refine S.gx [] ?_
 exact D0 hr
def b213_1 (x0 x1:Int) (x2:L_II) (x3:L_LIIE) (x4:L_II) (x5:L_LIIE) (a2:L_LIIEII):Bd ((List (L_I×L_I))×Int×L_I×L_I) (L_LIELIE×Int):=fun s1=>
 if (decide (s1.2.1<(a2.length:Int)))=true then
  if 0≤s1.2.1∧s1.2.1<(a2.length:Int) then
   bindC (r271 x0 x1 x2 x3 x4 x5 s1.2.2.1 s1.2.2.2 ((a2.getD s1.2.1.toNat default).1) ((a2.getD s1.2.1.toNat default).2.1) ((a2.getD s1.2.1.toNat default).2.2)) fun v1=>
    if (v1.2.2 != 0)=true then
     .out (some ([],v1.2.2))
     else if (s1.1.length+1)*48≤140737488355328∧s1.1.length+1≤9223372036854775807 then
      .next (s1.1++[(v1.1,v1.2.1)],IntKind.i64.wrap (s1.2.1+1),v1.1,v1.2.1)
      else .out none
   else .out none
  else .out (some (s1.1,0))
def r213 (x0 x1:Int) (x2:L_II) (x3:L_LIIE) (x4:L_II) (x5:L_LIIE) (x6 x7:L_I) (a2:L_LIIEII):Option (L_LIELIE×Int):=
 iterC (b213_1 x0 x1 x2 x3 x4 x5 a2) 1000000000 ([],0,x6,x7)
@[go_sem] def T213:=qT44 qu24 true r213
@[go_sem] def tb213 (k:Nat):=lk [(271,T271.sp)] k
theorem f213:FnFact Tryz.prog 213 T213.sp:=by
 refine vm (tb:=tb213) (.cons f271 .nil) Tryz.func213 Tryz.ntmps213 fun ⟨x0,x1,x2,x3,x4,x5,x6,x7,a2⟩ r hr stop S=> ?_
 rw [uq9,r213] at hr
 refine S.gx [] ?_
 refine gr ?_
 refine S.own0 8 1000800 2 rfl rfl ?_
 refine S.li [3,4,8,13,14,15] [(3,3),(4,4)] [(1000800,1000800)] (fun s1=>⟨[sR 3 3,sR 4 4,sO 8 1000800,(13,.c (.d (encF 3 d_LIIEII a2))),sI 14 (a2.length:Int),sI 15 s1.2.1],[(3,[iC x0,iC x1,.d (encF 2 d_II x2),.d (encF 1 d_LIIE x3),.d (encF 2 d_II x4),.d (encF 1 d_LIIE x5)]),(4,[.d (encF 1 d_I s1.2.2.1),.d (encF 1 d_I s1.2.2.2)])],[(1000800,.owned (encF 2 d_LIELIE s1.1))]⟩) (b213_1 x0 x1 x2 x3 x4 x5 a2) (fun q=>q=r) hr rfl ?_
 intro s1 hr
 unfold b213_1 at hr
 refine S.gx [] ?_
 exact D1 (S.ss [3,4,8,13,14,15] [(3,3),(4,4)] [(33,1000800)]) hr
def r158 (x2 x3:Int) (x4:L_II) (x5:L_LIIE) (x0 x1:L_I) (a2:L_LIIEII):Option (L_LIELIE×Int):=
 (r211 x2 x3 x4 x5 x0 x1).bind fun v1=>
  if (v1.2.2.2.2.2.2 == 0)=true then
   (r212 v1.1 v1.2.1 v1.2.2.1 v1.2.2.2.1 v1.2.2.2.2.1 v1.2.2.2.2.2.1 a2).bind fun v2=>
    if (v2 != 0)=true then
     some ([],v2)
     else (r213 v1.1 v1.2.1 v1.2.2.1 v1.2.2.2.1 v1.2.2.2.2.1 v1.2.2.2.2.2.1 x0 x1 a2).bind fun v3=>
      some (v3.1,v3.2)
   else if (v1.2.2.2.2.2.2 != 0)=true then
    some ([],v1.2.2.2.2.2.2)
    else (r213 v1.1 v1.2.1 v1.2.2.1 v1.2.2.2.1 v1.2.2.2.2.1 v1.2.2.2.2.2.1 x0 x1 a2).bind fun v4=>
     some (v4.1,v4.2)
@[go_sem] def T158:=qT45 qu24 true r158
@[go_sem] def tb158 (k:Nat):=lk [(211,T211.sp),(212,T212.sp),(213,T213.sp)] k
theorem f158:FnFact Tryz.prog 158 T158.sp:=by
 refine vm (tb:=tb158) (.cons f211 (.cons f212 (.cons f213 .nil))) Tryz.func158 Tryz.ntmps158 fun ⟨x2,x3,x4,x5,x0,x1,a2⟩ r hr stop S=> ?_
 rw [uq7,r158] at hr
 refine S.gx [] ?_
 exact D0 hr
def r159 (x0 x1:Int) (x2:L_II) (x3:L_LIIE) (x4 x5:L_I) (x6:L_II) (x7 x8 a1 a2:Int):Option (Int×Int):=
 (r214 x0 x1 x2 x3 a1).bind fun v1=>
  (r214 x0 x1 x2 x3 a2).bind fun v2=>
   if v1.2.1≠0 then
    if v2.2.1≠0 then
     some (IntKind.i64.wrap (v1.1.tdiv v1.2.1),IntKind.i64.wrap ((IntKind.i64.wrap ((IntKind.i64.wrap (v2.1+v2.2.1)) - 1)).tdiv v2.2.1))
     else none
    else none
@[go_sem] def T159:=qT24 qu7 false r159
@[go_sem] def tb159 (k:Nat):=lk [(214,T214.sp)] k
theorem f159:FnFact Tryz.prog 159 T159.sp:=by
 refine vm (tb:=tb159) (.cons f214 .nil) Tryz.func159 Tryz.ntmps159 fun ⟨x0,x1,x2,x3,x4,x5,x6,x7,x8,a1,a2⟩ r hr stop S=> ?_
 rw [uq11,r159] at hr
 refine S.gx [] ?_
 exact D0 hr
end Go.Proofs.YtnepigpnlnmlmaaGreatDoor

/- Contracts of functions, written by wip/dec. -/
import Derived.Test.YtkbdjphdhcgmaaaGreatDoorF00
import Derived.Test.YtkbdjphdhcgmaaaGreatDoorF01
import Derived.Test.YtkbdjphdhcgmaaaGreatDoorF02
import Derived.Test.YtkbdjphdhcgmaaaGreatDoorF03
import Derived.Test.YtkbdjphdhcgmaaaGreatDoorF04
import Derived.Test.YtkbdjphdhcgmaaaGreatDoorF05
set_option linter.unusedVariables false
set_option linter.unusedSimpArgs false
set_option linter.constructorNameAsVariable false
set_option maxHeartbeats 4000000
set_option maxRecDepth 20000
namespace Go.Proofs.YtkbdjphdhcgmaaaGreatDoor
open Go.Abs
section
variable {β:Type} [Inhabited β] (u:β→List RV) (al:Bool)
def qw38 (a0 a1:Int) (a2:L_II) (a3:L_LIIE) (a4 a5:L_I) (a6:L_II) (a7 a8:Int) (a9:L_IIII) (a10:L_IIIII) (a11:L_III) (a12:L_II) (a13 a14 a15 a16:Int) (a17:L_III) (a18:Int):List Arg:=[.agg [.int .i64 a0,.int .i64 a1,encF 2 d_II a2,encF 1 d_LIIE a3,encF 1 d_I a4,encF 1 d_I a5,encF 2 d_II a6,.int .i64 a7,.int .i64 a8,encF 4 d_IIII a9,encF 5 d_IIIII a10,encF 3 d_III a11,encF 2 d_II a12,.int .i64 a13,.int .i64 a14,.int .i64 a15,.int .i64 a16,encF 3 d_III a17,.int .i64 a18]]
def qd38:List Arg→Int×Int×L_II×L_LIIE×L_I×L_I×L_II×Int×Int×L_IIII×L_IIIII×L_III×L_II×Int×Int×Int×Int×L_III×Int
 | [.agg [c0,c1,c2,c3,c4,c5,c6,c7,c8,c9,c10,c11,c12,c13,c14,c15,c16,c17,c18]]=>(dInt c0,dInt c1,decF g_II c2,decF g_LIIE c3,decF g_I c4,decF g_I c5,decF g_II c6,dInt c7,dInt c8,decF g_IIII c9,decF g_IIIII c10,decF g_III c11,decF g_II c12,dInt c13,dInt c14,dInt c15,dInt c16,decF g_III c17,dInt c18)
 | _=>default
def qT38 (r:Int→Int→L_II→L_LIIE→L_I→L_I→L_II→Int→Int→L_IIII→L_IIIII→L_III→L_II→Int→Int→Int→Int→L_III→Int→Option β):=mkT (u19 qw38) qd38 (u19 r) u al
attribute [go_sem] qw38 qd38 qT38
def qw40 (a0 a1:Int) (a2:L_II) (a3:L_LIIE) (a4:L_II) (a5:L_LIIE) (a6:L_II) (a7 a8:Int):List Arg:=[.agg [.int .i64 a0,.int .i64 a1,encF 2 d_II a2,encF 1 d_LIIE a3,encF 2 d_II a4,encF 1 d_LIIE a5],.agg [encF 2 d_II a6,.int .i64 a7,.int .i64 a8]]
def qd40:List Arg→Int×Int×L_II×L_LIIE×L_II×L_LIIE×L_II×Int×Int
 | [.agg [c0,c1,c2,c3,c4,c5],.agg [c6,c7,c8]]=>(dInt c0,dInt c1,decF g_II c2,decF g_LIIE c3,decF g_II c4,decF g_LIIE c5,decF g_II c6,dInt c7,dInt c8)
 | _=>default
def qT40 (r:Int→Int→L_II→L_LIIE→L_II→L_LIIE→L_II→Int→Int→Option β):=mkT (u9 qw40) qd40 (u9 r) u al
attribute [go_sem] qw40 qd40 qT40
def qw41 (a0 a1:Int) (a2:L_II) (a3:L_LIIE) (a4:L_II) (a5:L_LIIE) (a6:L_LIIEII):List Arg:=[.agg [.int .i64 a0,.int .i64 a1,encF 2 d_II a2,encF 1 d_LIIE a3,encF 2 d_II a4,encF 1 d_LIIE a5],.c (encF 3 d_LIIEII a6)]
def qd41:List Arg→Int×Int×L_II×L_LIIE×L_II×L_LIIE×L_LIIEII
 | [.agg [c0,c1,c2,c3,c4,c5],.c c6]=>(dInt c0,dInt c1,decF g_II c2,decF g_LIIE c3,decF g_II c4,decF g_LIIE c5,decF g_LIIEII c6)
 | _=>default
def qT41 (r:Int→Int→L_II→L_LIIE→L_II→L_LIIE→L_LIIEII→Option β):=mkT (u7 qw41) qd41 (u7 r) u al
attribute [go_sem] qw41 qd41 qT41
def qw42 (a0:L_II) (a1 a2:Int):List Arg:=[.agg [encF 2 d_II a0,.int .i64 a1,.int .i64 a2]]
def qd42:List Arg→L_II×Int×Int
 | [.agg [c0,c1,c2]]=>(decF g_II c0,dInt c1,dInt c2)
 | _=>default
def qT42 (r:L_II→Int→Int→Option β):=mkT (u3 qw42) qd42 (u3 r) u al
attribute [go_sem] qw42 qd42 qT42
def qw43 (a0 a1:Int) (a2:L_II) (a3:L_LIIE) (a4:L_II) (a5:L_LIIE) (a6 a7:L_I) (a8:L_II) (a9 a10:Int):List Arg:=[.agg [.int .i64 a0,.int .i64 a1,encF 2 d_II a2,encF 1 d_LIIE a3,encF 2 d_II a4,encF 1 d_LIIE a5],.agg [encF 1 d_I a6,encF 1 d_I a7],.agg [encF 2 d_II a8,.int .i64 a9,.int .i64 a10]]
def qd43:List Arg→Int×Int×L_II×L_LIIE×L_II×L_LIIE×L_I×L_I×L_II×Int×Int
 | [.agg [c0,c1,c2,c3,c4,c5],.agg [c6,c7],.agg [c8,c9,c10]]=>(dInt c0,dInt c1,decF g_II c2,decF g_LIIE c3,decF g_II c4,decF g_LIIE c5,decF g_I c6,decF g_I c7,decF g_II c8,dInt c9,dInt c10)
 | _=>default
def qT43 (r:Int→Int→L_II→L_LIIE→L_II→L_LIIE→L_I→L_I→L_II→Int→Int→Option β):=mkT (u11 qw43) qd43 (u11 r) u al
attribute [go_sem] qw43 qd43 qT43
def qw44 (a0 a1:Int) (a2:L_II) (a3:L_LIIE) (a4:L_II) (a5:L_LIIE) (a6 a7:L_I) (a8:L_LIIEII):List Arg:=[.agg [.int .i64 a0,.int .i64 a1,encF 2 d_II a2,encF 1 d_LIIE a3,encF 2 d_II a4,encF 1 d_LIIE a5],.agg [encF 1 d_I a6,encF 1 d_I a7],.c (encF 3 d_LIIEII a8)]
def qd44:List Arg→Int×Int×L_II×L_LIIE×L_II×L_LIIE×L_I×L_I×L_LIIEII
 | [.agg [c0,c1,c2,c3,c4,c5],.agg [c6,c7],.c c8]=>(dInt c0,dInt c1,decF g_II c2,decF g_LIIE c3,decF g_II c4,decF g_LIIE c5,decF g_I c6,decF g_I c7,decF g_LIIEII c8)
 | _=>default
def qT44 (r:Int→Int→L_II→L_LIIE→L_II→L_LIIE→L_I→L_I→L_LIIEII→Option β):=mkT (u9 qw44) qd44 (u9 r) u al
attribute [go_sem] qw44 qd44 qT44
def qw45 (a0 a1:Int) (a2:L_II) (a3:L_LIIE) (a4 a5:L_I) (a6:L_LIIEII):List Arg:=[.agg [.int .i64 a0,.int .i64 a1,encF 2 d_II a2,encF 1 d_LIIE a3],.agg [encF 1 d_I a4,encF 1 d_I a5],.c (encF 3 d_LIIEII a6)]
def qd45:List Arg→Int×Int×L_II×L_LIIE×L_I×L_I×L_LIIEII
 | [.agg [c0,c1,c2,c3],.agg [c4,c5],.c c6]=>(dInt c0,dInt c1,decF g_II c2,decF g_LIIE c3,decF g_I c4,decF g_I c5,decF g_LIIEII c6)
 | _=>default
def qT45 (r:Int→Int→L_II→L_LIIE→L_I→L_I→L_LIIEII→Option β):=mkT (u7 qw45) qd45 (u7 r) u al
attribute [go_sem] qw45 qd45 qT45
def qu20 (v:Int×Int×L_II×L_LIIE×L_I×L_I×L_II×Int×Int×Int×Int×L_II×L_LIIE×L_I×L_I×L_II×Int×Int×L_IIII×L_IIIII×L_III×L_II×Int×Int×Int×Int×L_III×Int×Int):List RV:=[.agg [.d (.int .i64 v.1),.d (.int .i64 v.2.1),.d (encF 2 d_II v.2.2.1),.d (encF 1 d_LIIE v.2.2.2.1),.d (encF 1 d_I v.2.2.2.2.1),.d (encF 1 d_I v.2.2.2.2.2.1),.d (encF 2 d_II v.2.2.2.2.2.2.1),.d (.int .i64 v.2.2.2.2.2.2.2.1),.d (.int .i64 v.2.2.2.2.2.2.2.2.1),.d (.int .i64 v.2.2.2.2.2.2.2.2.2.1),.d (.int .i64 v.2.2.2.2.2.2.2.2.2.2.1),.d (encF 2 d_II v.2.2.2.2.2.2.2.2.2.2.2.1),.d (encF 1 d_LIIE v.2.2.2.2.2.2.2.2.2.2.2.2.1),.d (encF 1 d_I v.2.2.2.2.2.2.2.2.2.2.2.2.2.1),.d (encF 1 d_I v.2.2.2.2.2.2.2.2.2.2.2.2.2.2.1),.d (encF 2 d_II v.2.2.2.2.2.2.2.2.2.2.2.2.2.2.2.1),.d (.int .i64 v.2.2.2.2.2.2.2.2.2.2.2.2.2.2.2.2.1),.d (.int .i64 v.2.2.2.2.2.2.2.2.2.2.2.2.2.2.2.2.2.1),.d (encF 4 d_IIII v.2.2.2.2.2.2.2.2.2.2.2.2.2.2.2.2.2.2.1),.d (encF 5 d_IIIII v.2.2.2.2.2.2.2.2.2.2.2.2.2.2.2.2.2.2.2.1),.d (encF 3 d_III v.2.2.2.2.2.2.2.2.2.2.2.2.2.2.2.2.2.2.2.2.1),.d (encF 2 d_II v.2.2.2.2.2.2.2.2.2.2.2.2.2.2.2.2.2.2.2.2.2.1),.d (.int .i64 v.2.2.2.2.2.2.2.2.2.2.2.2.2.2.2.2.2.2.2.2.2.2.1),.d (.int .i64 v.2.2.2.2.2.2.2.2.2.2.2.2.2.2.2.2.2.2.2.2.2.2.2.1),.d (.int .i64 v.2.2.2.2.2.2.2.2.2.2.2.2.2.2.2.2.2.2.2.2.2.2.2.2.1),.d (.int .i64 v.2.2.2.2.2.2.2.2.2.2.2.2.2.2.2.2.2.2.2.2.2.2.2.2.2.1),.d (encF 3 d_III v.2.2.2.2.2.2.2.2.2.2.2.2.2.2.2.2.2.2.2.2.2.2.2.2.2.2.1),.d (.int .i64 v.2.2.2.2.2.2.2.2.2.2.2.2.2.2.2.2.2.2.2.2.2.2.2.2.2.2.2.1)],.c (.d (.int .i64 v.2.2.2.2.2.2.2.2.2.2.2.2.2.2.2.2.2.2.2.2.2.2.2.2.2.2.2.2))]
attribute [go_sem] qu20
def qu21 (v:L_LIIEII):List RV:=[.c (.own (encF 3 d_LIIEII v))]
attribute [go_sem] qu21
def qu22 (v:L_I×Int×L_I×Int):List RV:=[.agg [.own (encF 1 d_I v.1),.d (.int .i64 v.2.1)],.agg [.own (encF 1 d_I v.2.2.1),.d (.int .i64 v.2.2.2)]]
attribute [go_sem] qu22
def qu23 (v:L_I×L_I×Int):List RV:=[.agg [.own (encF 1 d_I v.1),.own (encF 1 d_I v.2.1)],.c (.d (.int .i64 v.2.2))]
attribute [go_sem] qu23
def qu24 (v:L_LIELIE×Int):List RV:=[.c (.own (encF 2 d_LIELIE v.1)),.c (.d (.int .i64 v.2))]
attribute [go_sem] qu24
end
def r199 (a0 a1:Int):Option (Bool):=
 (r214 a0).bind fun v1=>
  if v1=true→(r214 a1).isSome=true then
   some ((v1 && (!((r214 a1).getD default))) || (decide (a0<a1)))
   else none
@[go_sem] def T199:=qT7 qu2 false r199
@[go_sem] def tb199 (k:Nat):=lk [(214,T214.sp)] k
theorem f199:FnFact Tryz.prog 199 T199.sp:=by
 refine vm (tb:=tb199) (.cons f214 .nil) Tryz.func199 Tryz.ntmps199 fun ⟨a0,a1⟩ r hr stop S=> ?_
 rw [uq2,r199] at hr
 refine S.gx [] ?_
 obtain ⟨v1,hv1,hr⟩:=of_bind0 hr
 obtain ⟨hg2,hr⟩:=of_guard0 hr
 try simp only [hv1,oG,oI,true_and,and_assoc]
 repeat (first | refine gG hg2 ?_ | refine gA ?_ | refine gB ?_)
 exact D0 hr
def b167_1 (a0:L_I):Bd Int Bool:=fun s1=>
 if (decide (s1>0))=true then
  if 0≤s1∧s1<(a0.length:Int) then
   if 0≤IntKind.i64.wrap (s1 - 1)∧IntKind.i64.wrap (s1 - 1)<(a0.length:Int) then
    bindC (r199 (a0.getD s1.toNat default) (a0.getD (IntKind.i64.wrap (s1 - 1)).toNat default)) fun v1=>
     if v1=true then
      .out (some false)
      else .next (IntKind.i64.wrap (s1 - 1))
    else .out none
   else .out none
  else .out (some true)
def r167 (a0:L_I):Option (Bool):=
 iterC (b167_1 a0) 1000000000 (IntKind.i64.wrap ((a0.length:Int) - 1))
@[go_sem] def T167:=qT3 qu2 false r167
@[go_sem] def tb167 (k:Nat):=lk [(199,T199.sp)] k
theorem f167:FnFact Tryz.prog 167 T167.sp:=by
 refine vm (tb:=tb167) (.cons f199 .nil) Tryz.func167 Tryz.ntmps167 fun a0 r hr stop S=> ?_
 rw [uq1,r167] at hr
 refine S.gx [] ?_
 refine gr ?_
 refine S.sees [0,3] [] [] ?_ (Stop.iter S (fun s1=>⟨[(0,.c (.d (encF 1 d_I a0))),(3,.c (.d (.int .i64 s1)))],[],[]⟩) (b167_1 a0) (fun q=>q=r) hr rfl ?_)
 ·exact lf
 ·intro s1 hr
  unfold b167_1 at hr
  refine S.gx [] ?_
  exact D1 (S.ss [0,3] [] []) hr
def b119_4 (x0 x1 x2 x3:Int) (v1:L_ILIIEI×L_ILIIEI×L_ILIIEI×L_ILIIEI):Bd ((Option (Int×L_II×Int))×Int) (Int×Int):=fun s4=>
 if (decide (s4.2<(v1.2.2.2.length:Int)))=true then
  if 0≤s4.2∧s4.2<(v1.2.2.2.length:Int) then
   bindC (r164 ((v1.2.2.2.getD s4.2.toNat default).1) ((v1.2.2.2.getD s4.2.toNat default).2.1) ((v1.2.2.2.getD s4.2.toNat default).2.2) s4.1 0) fun v11=>
    if (v11 != 0)=true then
     .out (some (s4.2,v11))
     else if 0≤s4.2∧s4.2<(v1.2.2.2.length:Int) then
      .next (some ((v1.2.2.2.getD s4.2.toNat default).1,(v1.2.2.2.getD s4.2.toNat default).2.1,(v1.2.2.2.getD s4.2.toNat default).2.2),IntKind.i64.wrap (s4.2+1))
      else .out none
   else .out none
  else .out (if (decide ((v1.1.length:Int)>0))=true then
   if (decide ((v1.2.1.length:Int)>0))=true→0≤IntKind.i64.wrap ((v1.2.1.length:Int) - 1)∧IntKind.i64.wrap ((v1.2.1.length:Int) - 1)<(v1.2.1.length:Int) then
    if (decide ((v1.2.1.length:Int)>0))=true→0≤0∧0<(v1.1.length:Int) then
     if ((decide ((v1.2.1.length:Int)>0)) && (decide (((v1.2.1.getD (IntKind.i64.wrap ((v1.2.1.length:Int) - 1)).toNat default).1)≥((v1.1.getD 0 default).1))))=true then
      some (0,13)
      else if (decide ((v1.2.2.1.length:Int)>0))=true→0≤IntKind.i64.wrap ((v1.2.2.1.length:Int) - 1)∧IntKind.i64.wrap ((v1.2.2.1.length:Int) - 1)<(v1.2.2.1.length:Int) then
       if (decide ((v1.2.2.1.length:Int)>0))=true→0≤0∧0<(v1.1.length:Int) then
        if ((decide ((v1.2.2.1.length:Int)>0)) && (decide (((v1.2.2.1.getD (IntKind.i64.wrap ((v1.2.2.1.length:Int) - 1)).toNat default).1)≥((v1.1.getD 0 default).1))))=true then
         some (0,13)
         else if (decide ((v1.2.2.2.length:Int)>0))=true→0≤IntKind.i64.wrap ((v1.2.2.2.length:Int) - 1)∧IntKind.i64.wrap ((v1.2.2.2.length:Int) - 1)<(v1.2.2.2.length:Int) then
          if (decide ((v1.2.2.2.length:Int)>0))=true→0≤0∧0<(v1.1.length:Int) then
           if ((decide ((v1.2.2.2.length:Int)>0)) && (decide (((v1.2.2.2.getD (IntKind.i64.wrap ((v1.2.2.2.length:Int) - 1)).toNat default).1)≥((v1.1.getD 0 default).1))))=true then
            some (0,13)
            else (r116b [x0,x1,x2,x3]).bind fun v14=>
             (r129 (!v14) 2).bind fun v15=>
              (r167 [x0,x1,x2,x3]).bind fun v16=>
               (r129 v16 9).bind fun v17=>
                (r126 [v15,v17]).bind fun v18=>
                 some (0,v18)
           else none
          else none
        else none
       else none
     else none
    else none
   else (r116b [x0,x1,x2,x3]).bind fun v25=>
    (r129 (!v25) 2).bind fun v26=>
     (r167 [x0,x1,x2,x3]).bind fun v27=>
      (r129 v27 9).bind fun v28=>
       (r126 [v26,v28]).bind fun v29=>
        some (0,v29))
def b119_3 (x0 x1 x2 x3:Int) (v1:L_ILIIEI×L_ILIIEI×L_ILIIEI×L_ILIIEI):Bd ((Option (Int×L_II×Int))×Int) (Int×Int):=fun s3=>
 if (decide (s3.2<(v1.2.2.1.length:Int)))=true then
  if 0≤s3.2∧s3.2<(v1.2.2.1.length:Int) then
   bindC (r164 ((v1.2.2.1.getD s3.2.toNat default).1) ((v1.2.2.1.getD s3.2.toNat default).2.1) ((v1.2.2.1.getD s3.2.toNat default).2.2) s3.1 (-1)) fun v8=>
    if (v8 != 0)=true then
     .out (some (s3.2,v8))
     else if 0≤s3.2∧s3.2<(v1.2.2.1.length:Int) then
      .next (some ((v1.2.2.1.getD s3.2.toNat default).1,(v1.2.2.1.getD s3.2.toNat default).2.1,(v1.2.2.1.getD s3.2.toNat default).2.2),IntKind.i64.wrap (s3.2+1))
      else .out none
   else .out none
  else .out (iterC (b119_4 x0 x1 x2 x3 v1) 1000000000 (none,0))
def b119_2 (x0 x1 x2 x3:Int) (v1:L_ILIIEI×L_ILIIEI×L_ILIIEI×L_ILIIEI):Bd ((Option (Int×L_II×Int))×Int) (Int×Int):=fun s2=>
 if (decide (s2.2<(v1.2.1.length:Int)))=true then
  if 0≤s2.2∧s2.2<(v1.2.1.length:Int) then
   bindC (r164 ((v1.2.1.getD s2.2.toNat default).1) ((v1.2.1.getD s2.2.toNat default).2.1) ((v1.2.1.getD s2.2.toNat default).2.2) s2.1 0) fun v5=>
    if (v5 != 0)=true then
     .out (some (s2.2,v5))
     else if 0≤s2.2∧s2.2<(v1.2.1.length:Int) then
      .next (some ((v1.2.1.getD s2.2.toNat default).1,(v1.2.1.getD s2.2.toNat default).2.1,(v1.2.1.getD s2.2.toNat default).2.2),IntKind.i64.wrap (s2.2+1))
      else .out none
   else .out none
  else .out (iterC (b119_3 x0 x1 x2 x3 v1) 1000000000 (none,0))
def b119_1 (x0 x1 x2 x3:Int) (v1:L_ILIIEI×L_ILIIEI×L_ILIIEI×L_ILIIEI):Bd ((Option (Int×L_II×Int))×Int) (Int×Int):=fun s1=>
 if (decide (s1.2<(v1.1.length:Int)))=true then
  if 0≤s1.2∧s1.2<(v1.1.length:Int) then
   bindC (r164 ((v1.1.getD s1.2.toNat default).1) ((v1.1.getD s1.2.toNat default).2.1) ((v1.1.getD s1.2.toNat default).2.2) s1.1 1) fun v2=>
    if (v2 != 0)=true then
     .out (some (s1.2,v2))
     else if 0≤s1.2∧s1.2<(v1.1.length:Int) then
      .next (some ((v1.1.getD s1.2.toNat default).1,(v1.1.getD s1.2.toNat default).2.1,(v1.1.getD s1.2.toNat default).2.2),IntKind.i64.wrap (s1.2+1))
      else .out none
   else .out none
  else .out (iterC (b119_2 x0 x1 x2 x3 v1) 1000000000 (none,0))
def r119 (x4:L_IIII) (x5:L_IIIII) (x6:L_III) (x7:L_II) (x0 x1 x2 x3:Int):Option (Int×Int):=
 (r163 x4 x5 x6 x7 x0 x1 x2 x3).bind fun v1=>
  if (decide ((v1.1.length:Int)>8))=true then
   some (0,8)
   else if (decide ((v1.2.1.length:Int)>8))=true then
    some (0,8)
    else if (decide ((v1.2.2.1.length:Int)>8))=true then
     some (0,8)
     else if (decide ((v1.2.2.2.length:Int)>8))=true then
      some (0,8)
      else iterC (b119_1 x0 x1 x2 x3 v1) 1000000000 (none,0)
@[go_sem] def T119:=qT35 qu4 false r119
@[go_sem] def tb119 (k:Nat):=lk [(116,T116b.sp),(126,T126.sp),(129,T129.sp),(163,T163.sp),(164,T164.sp),(167,T167.sp)] k
theorem f119:FnFact Tryz.prog 119 T119.sp:=by
 refine vm (tb:=tb119) (.cons f116b (.cons f126 (.cons f129 (.cons f163 (.cons f164 (.cons f167 .nil)))))) Tryz.func119 Tryz.ntmps119 fun ⟨x4,x5,x6,x7,x0,x1,x2,x3⟩ r hr stop S=> ?_
 rw [uq8,r119] at hr
 refine S.gx [26,27] ?_
 obtain ⟨v1,hv1,hr⟩:=of_bind0 hr
 refine gb hv1 ?_
 refine S.lp ?_
 refine S.gx [26,27] ?_
 refine gr ?_
 refine iW hr (fun hc hr=>D0 hr) fun hc hr=> ?_
 refine gr ?_
 refine S.lp ?_
 refine S.gx [26,27] ?_
 refine gr ?_
 refine iW hr (fun hc hr=>D0 hr) fun hc hr=> ?_
 refine gr ?_
 refine S.lp ?_
 refine S.gx [26,27] ?_
 refine gr ?_
 refine iW hr (fun hc hr=>D0 hr) fun hc hr=> ?_
 refine gr ?_
 refine S.lp ?_
 refine S.gx [26,27] ?_
 refine gr ?_
 refine iW hr (fun hc hr=>D0 hr) fun hc hr=> ?_
 refine gr ?_
 refine S.lp ?_
 refine S.gx [26,27] ?_
 refine gr ?_
 refine S.lp ?_
 refine S.gx [26,27] ?_
 refine gr ?_
 refine S.share 16 rfl ?_
 refine S.sees [1,4,7,8,9,25,26,31,32] [(1,1),(4,4)] [(16,16),(10016,10016),(20016,20016),(30016,30016)] ?_ (Stop.iter S (fun s1=>⟨[(1,.c (.ref 1 0)),(4,.c (.ref 4 0)),(7,.c (.d (.int .i64 0))),(8,.c (.own 16)),(9,.c (.d (encP d_ILIIEI s1.1))),(25,.agg [.own 16,.own 10016,.own 20016,.own 30016]),(26,.c (.d (.int .i64 0))),(31,.c (.d (.int .i64 (v1.1.length:Int)))),(32,.c (.d (.int .i64 s1.2)))],[(1,[.d (encF 4 d_IIII x4),.d (encF 5 d_IIIII x5),.d (encF 3 d_III x6),.d (encF 2 d_II x7),.d (.int .i64 x0),.d (.int .i64 x1),.d (.int .i64 x2),.d (.int .i64 x3)]),(4,[.own 16,.own 10016,.own 20016,.own 30016])],[(16,.shared (encF 3 d_ILIIEI v1.1)),(10016,.owned (encF 3 d_ILIIEI v1.2.1)),(20016,.owned (encF 3 d_ILIIEI v1.2.2.1)),(30016,.owned (encF 3 d_ILIIEI v1.2.2.2))]⟩) (b119_1 x0 x1 x2 x3 v1) (fun q=>q=r) hr rfl ?_)
 ·exact lf
 ·intro s1 hr
  unfold b119_1 at hr
  refine S.gx [26,27] ?_
  refine gr ?_
  refine iW1 hr (fun hc hr=>D1 (S.ss [1,4,7,8,9,25,26,31,32] [(1,1),(4,4)] [(16,16),(10016,10016),(20016,20016),(30016,30016)]) hr) fun hc hr=> ?_
  refine gr ?_
  have hr:=of_out0 hr
  refine gr ?_
  refine S.lp ?_
  refine S.gx [26,27] ?_
  refine gr ?_
  refine S.share 10016 rfl ?_
  refine S.sees [1,4,7,8,9,25,26,31,32] [(1,1),(4,4)] [(10016,10016),(16,16),(20016,20016),(30016,30016)] ?_ (Stop.iter S (fun s2=>⟨[(1,.c (.ref 1 0)),(4,.c (.ref 4 0)),(7,.c (.d (.int .i64 1))),(8,.c (.own 10016)),(9,.c (.d (encP d_ILIIEI s2.1))),(25,.agg [.own 16,.own 10016,.own 20016,.own 30016]),(26,.c (.d (.int .i64 1))),(31,.c (.d (.int .i64 (v1.2.1.length:Int)))),(32,.c (.d (.int .i64 s2.2)))],[(1,[.d (encF 4 d_IIII x4),.d (encF 5 d_IIIII x5),.d (encF 3 d_III x6),.d (encF 2 d_II x7),.d (.int .i64 x0),.d (.int .i64 x1),.d (.int .i64 x2),.d (.int .i64 x3)]),(4,[.own 16,.own 10016,.own 20016,.own 30016])],[(10016,.shared (encF 3 d_ILIIEI v1.2.1)),(16,.shared (encF 3 d_ILIIEI v1.1)),(20016,.owned (encF 3 d_ILIIEI v1.2.2.1)),(30016,.owned (encF 3 d_ILIIEI v1.2.2.2))]⟩) (b119_2 x0 x1 x2 x3 v1) (fun q=>q=r) hr rfl ?_)
  ·exact lf
  ·intro s2 hr
   unfold b119_2 at hr
   refine S.gx [26,27] ?_
   refine gr ?_
   refine iW1 hr (fun hc hr=>D1 (S.ss [1,4,7,8,9,25,26,31,32] [(1,1),(4,4)] [(10016,10016),(16,16),(20016,20016),(30016,30016)]) hr) fun hc hr=> ?_
   refine gr ?_
   have hr:=of_out0 hr
   refine gr ?_
   refine S.lp ?_
   refine S.gx [26,27] ?_
   refine gr ?_
   refine S.share 20016 rfl ?_
   refine S.sees [1,4,7,8,9,25,26,31,32] [(1,1),(4,4)] [(20016,20016),(16,16),(10016,10016),(30016,30016)] ?_ (Stop.iter S (fun s3=>⟨[(1,.c (.ref 1 0)),(4,.c (.ref 4 0)),(7,.c (.d (.int .i64 2))),(8,.c (.own 20016)),(9,.c (.d (encP d_ILIIEI s3.1))),(25,.agg [.own 16,.own 10016,.own 20016,.own 30016]),(26,.c (.d (.int .i64 2))),(31,.c (.d (.int .i64 (v1.2.2.1.length:Int)))),(32,.c (.d (.int .i64 s3.2)))],[(1,[.d (encF 4 d_IIII x4),.d (encF 5 d_IIIII x5),.d (encF 3 d_III x6),.d (encF 2 d_II x7),.d (.int .i64 x0),.d (.int .i64 x1),.d (.int .i64 x2),.d (.int .i64 x3)]),(4,[.own 16,.own 10016,.own 20016,.own 30016])],[(20016,.shared (encF 3 d_ILIIEI v1.2.2.1)),(16,.shared (encF 3 d_ILIIEI v1.1)),(10016,.shared (encF 3 d_ILIIEI v1.2.1)),(30016,.owned (encF 3 d_ILIIEI v1.2.2.2))]⟩) (b119_3 x0 x1 x2 x3 v1) (fun q=>q=r) hr rfl ?_)
   ·exact lf
   ·intro s3 hr
    unfold b119_3 at hr
    refine S.gx [26,27] ?_
    refine gr ?_
    refine iW1 hr (fun hc hr=>D1 (S.ss [1,4,7,8,9,25,26,31,32] [(1,1),(4,4)] [(20016,20016),(16,16),(10016,10016),(30016,30016)]) hr) fun hc hr=> ?_
    refine gr ?_
    have hr:=of_out0 hr
    refine gr ?_
    refine S.lp ?_
    refine S.gx [26,27] ?_
    refine gr ?_
    refine S.share 30016 rfl ?_
    refine S.sees [1,4,7,8,9,25,26,31,32] [(1,1),(4,4)] [(30016,30016),(16,16),(10016,10016),(20016,20016)] ?_ (Stop.iter S (fun s4=>⟨[(1,.c (.ref 1 0)),(4,.c (.ref 4 0)),(7,.c (.d (.int .i64 3))),(8,.c (.own 30016)),(9,.c (.d (encP d_ILIIEI s4.1))),(25,.agg [.own 16,.own 10016,.own 20016,.own 30016]),(26,.c (.d (.int .i64 3))),(31,.c (.d (.int .i64 (v1.2.2.2.length:Int)))),(32,.c (.d (.int .i64 s4.2)))],[(1,[.d (encF 4 d_IIII x4),.d (encF 5 d_IIIII x5),.d (encF 3 d_III x6),.d (encF 2 d_II x7),.d (.int .i64 x0),.d (.int .i64 x1),.d (.int .i64 x2),.d (.int .i64 x3)]),(4,[.own 16,.own 10016,.own 20016,.own 30016])],[(30016,.shared (encF 3 d_ILIIEI v1.2.2.2)),(16,.shared (encF 3 d_ILIIEI v1.1)),(10016,.shared (encF 3 d_ILIIEI v1.2.1)),(20016,.shared (encF 3 d_ILIIEI v1.2.2.1))]⟩) (b119_4 x0 x1 x2 x3 v1) (fun q=>q=r) hr rfl ?_)
    ·exact lf
    ·intro s4 hr
     unfold b119_4 at hr
     refine S.gx [26,27] ?_
     refine gr ?_
     refine iW1 hr (fun hc hr=>D1 (S.ss [1,4,7,8,9,25,26,31,32] [(1,1),(4,4)] [(30016,30016),(16,16),(10016,10016),(20016,20016)]) hr) fun hc hr=> ?_
     refine gr ?_
     have hr:=of_out0 hr
     refine gr ?_
     refine S.lp ?_
     refine S.gx [26,27] ?_
     refine gr ?_
     refine iW hr (fun hc hr=> ?_) fun hc hr=>D0 hr
     refine gr ?_
     refine S.lp ?_
     refine S.gx [26,27] ?_
     obtain ⟨hg23,hr⟩:=of_guard0 hr
     obtain ⟨hg24,hr⟩:=of_guard0 hr
     repeat (first | refine gG hg23 ?_ | refine gG hg24 ?_ | refine gA ?_ | refine gB ?_)
     refine iW hr (fun hc hr=> ?_) fun hc hr=> ?_
     ·refine gr ?_
      refine S.prune [] ?_
      refine S.gx [27] ?_
      exact D0 hr
     ·refine gr ?_
      refine S.prune [1,4,57,58,59] ?_
      refine S.gx [26] ?_
      refine gr ?_
      refine gr ?_
      refine S.lp ?_
      refine S.gx [26,27] ?_
      obtain ⟨hg21,hr⟩:=of_guard0 hr
      obtain ⟨hg22,hr⟩:=of_guard0 hr
      repeat (first | refine gG hg21 ?_ | refine gG hg22 ?_ | refine gA ?_ | refine gB ?_)
      refine iW hr (fun hc hr=> ?_) fun hc hr=> ?_
      ·refine gr ?_
       refine S.prune [] ?_
       refine S.gx [27] ?_
       exact D0 hr
      ·refine gr ?_
       refine S.prune [1,4,57,58,59] ?_
       refine S.gx [26] ?_
       refine gr ?_
       refine gr ?_
       refine S.lp ?_
       refine S.gx [26,27] ?_
       obtain ⟨hg19,hr⟩:=of_guard0 hr
       obtain ⟨hg20,hr⟩:=of_guard0 hr
       repeat (first | refine gG hg19 ?_ | refine gG hg20 ?_ | refine gA ?_ | refine gB ?_)
       refine iW hr (fun hc hr=> ?_) fun hc hr=> ?_
       ·refine gr ?_
        refine S.prune [] ?_
        refine S.gx [27] ?_
        exact D0 hr
       ·refine gr ?_
        refine S.prune [1,4,57,58,59] ?_
        refine S.gx [26] ?_
        refine gr ?_
        refine gr ?_
        refine S.lp ?_
        refine S.gx [26,27] ?_
        exact D0 hr
def r120 (a0:Int):Option (Bool):=
 (r46 a0 0 2000).bind fun v1=>
  some v1
@[go_sem] def T120:=qT4 qu2 false r120
@[go_sem] def tb120 (k:Nat):=lk [(46,T46.sp)] k
theorem f120:FnFact Tryz.prog 120 T120.sp:=by
 refine vm (tb:=tb120) (.cons f46 .nil) Tryz.func120 Tryz.ntmps120 fun a0 r hr stop S=> ?_
 rw [uq1,r120] at hr
 refine S.gx [] ?_
 exact D0 hr
def b82_1 (x1:Int) (x0:L_III) (x2:Int):Bd Int (Int×Int):=fun s1=>
 if (decide (s1<(x0.length:Int)))=true then
  if 0≤s1∧s1<(x0.length:Int) then
   bindC (r46 ((x0.getD s1.toNat default).1) 0 (IntKind.i64.wrap (x1 - 1))) fun v5=>
    bindC (r40 v5 6) fun v6=>
     bindC (r120 ((x0.getD s1.toNat default).2.1)) fun v7=>
      if v7=true→(r120 ((x0.getD s1.toNat default).2.2)).isSome=true then
       bindC (r40 (v7 && ((r120 ((x0.getD s1.toNat default).2.2)).getD default)) 2) fun v8=>
        bindC (r40 (decide (((x0.getD s1.toNat default).2.1)≤((x0.getD s1.toNat default).2.2))) 9) fun v9=>
         bindC (r39 [v6,v8,v9]) fun v10=>
          if (v10 != 0)=true then
           .out (some (s1,v10))
           else .next (IntKind.i64.wrap (s1+1))
       else .out none
   else .out none
  else .out ((r46 x2 200 3000).bind fun v13=>
   (r40 v13 2).bind fun v14=>
    some (0,v14))
def r82 (x1 x3:Int) (x4:L_II) (x5:L_LIIE) (x6 x7:L_I) (x8:L_II) (x9 x10:Int) (x11:L_IIII) (x12:L_IIIII) (x13:L_III) (x14:L_II) (x15 x16 x17 x18:Int) (x0:L_III) (x2:Int):Option (Int×Int):=
 (r71 x1 x3 x4 x5 x6 x7 x8 x9 x10).bind fun v1=>
  (r119 x11 x12 x13 x14 x15 x16 x17 x18).bind fun v2=>
   (r40 (decide ((x0.length:Int)≤6)) 8).bind fun v3=>
    (r39 [v1.2,v2.2,v3]).bind fun v4=>
     if (v4 != 0)=true then
      some (0,v4)
      else iterC (b82_1 x1 x0 x2) 1000000000 0
@[go_sem] def T82:=qT38 qu4 false r82
@[go_sem] def tb82 (k:Nat):=lk [(39,T39.sp),(40,T40.sp),(46,T46.sp),(71,T71.sp),(119,T119.sp),(120,T120.sp)] k
theorem f82:FnFact Tryz.prog 82 T82.sp:=by
 refine vm (tb:=tb82) (.cons f39 (.cons f40 (.cons f46 (.cons f71 (.cons f119 (.cons f120 .nil)))))) Tryz.func82 Tryz.ntmps82 fun ⟨x1,x3,x4,x5,x6,x7,x8,x9,x10,x11,x12,x13,x14,x15,x16,x17,x18,x0,x2⟩ r hr stop S=> ?_
 rw [uq19,r82] at hr
 refine S.gx [5,6,11] ?_
 obtain ⟨v1,hv1,hr⟩:=of_bind0 hr
 obtain ⟨v2,hv2,hr⟩:=of_bind0 hr
 obtain ⟨v3,hv3,hr⟩:=of_bind0 hr
 obtain ⟨v4,hv4,hr⟩:=of_bind0 hr
 refine gb hv1 ?_
 refine gb hv2 ?_
 refine gb hv3 ?_
 refine gb hv4 ?_
 refine iW hr (fun hc hr=> ?_) fun hc hr=> ?_
 ·refine gr ?_
  refine S.prune [8] ?_
  refine S.gx [6,11] ?_
  exact D0 hr
 ·refine gr ?_
  refine S.prune [1] ?_
  refine S.gx [5,11] ?_
  refine gr ?_
  refine gr ?_
  refine S.sees [1,9,38,39,40] [(1,1)] [] ?_ (Stop.iter S (fun s1=>⟨[(1,.c (.ref 1 0)),(9,.c (.clo 120 [])),(38,.c (.d (encF 3 d_III x0))),(39,.c (.d (.int .i64 (x0.length:Int)))),(40,.c (.d (.int .i64 s1)))],[(1,[.d (.int .i64 x1),.d (.int .i64 x3),.d (encF 2 d_II x4),.d (encF 1 d_LIIE x5),.d (encF 1 d_I x6),.d (encF 1 d_I x7),.d (encF 2 d_II x8),.d (.int .i64 x9),.d (.int .i64 x10),.d (encF 4 d_IIII x11),.d (encF 5 d_IIIII x12),.d (encF 3 d_III x13),.d (encF 2 d_II x14),.d (.int .i64 x15),.d (.int .i64 x16),.d (.int .i64 x17),.d (.int .i64 x18),.d (encF 3 d_III x0),.d (.int .i64 x2)])],[]⟩) (b82_1 x1 x0 x2) (fun q=>q=r) hr rfl ?_)
  ·exact lf
  ·intro s1 hr
   unfold b82_1 at hr
   refine S.gx [5,6,11] ?_
   refine gr ?_
   refine iW1 hr (fun hc hr=> ?_) fun hc hr=>D0 hr
   obtain ⟨hg11,hr⟩:=of_guard1 hr
   obtain ⟨v5,hv5,hr⟩:=of_bind1 hr
   obtain ⟨v6,hv6,hr⟩:=of_bind1 hr
   obtain ⟨v7,hv7,hr⟩:=of_bind1 hr
   obtain ⟨hg12,hr⟩:=of_guard1 hr
   obtain ⟨v8,hv8,hr⟩:=of_bind1 hr
   obtain ⟨v9,hv9,hr⟩:=of_bind1 hr
   obtain ⟨v10,hv10,hr⟩:=of_bind1 hr
   try simp only [hv5,hv6,hv7,hv8,hv9,hv10,Option.getD_some,Option.isSome_some,true_and,and_assoc]
   repeat (first | refine gG hg12 ?_ | refine gA ?_ | refine gB ?_)
   refine S.prune [1,9,10,12,38,39,40] ?_
   refine S.gx [5,6] ?_
   exact D1 (S.ss [1,9,38,39,40] [(1,1)] []) hr
def r59 (x0 x1:Int) (x2:L_II) (x3:L_LIIE) (x4 x5:L_I) (x6:L_II) (x7 x8:Int) (x9:L_IIII) (x10:L_IIIII) (x11:L_III) (x12:L_II) (x13 x14 x15 x16:Int) (x17:L_III) (x18:Int):Option (Int×Int×L_II×L_LIIE×L_I×L_I×L_II×Int×Int×Int×Int×L_II×L_LIIE×L_I×L_I×L_II×Int×Int×L_IIII×L_IIIII×L_III×L_II×Int×Int×Int×Int×L_III×Int×Int):=
 (r82 x0 x1 x2 x3 x4 x5 x6 x7 x8 x9 x10 x11 x12 x13 x14 x15 x16 x17 x18).bind fun v1=>
  some (x0,x1,x2,x3,x4,x5,x6,x7,x8,x0,x1,x2,x3,x4,x5,x6,x7,x8,x9,x10,x11,x12,x13,x14,x15,x16,x17,x18,v1.2)
@[go_sem] def T59:=qT38 qu20 true r59
@[go_sem] def tb59 (k:Nat):=lk [(82,T82.sp)] k
theorem f59:FnFact Tryz.prog 59 T59.sp:=by
 refine vm (tb:=tb59) (.cons f82 .nil) Tryz.func59 Tryz.ntmps59 fun ⟨x0,x1,x2,x3,x4,x5,x6,x7,x8,x9,x10,x11,x12,x13,x14,x15,x16,x17,x18⟩ r hr stop S=> ?_
 rw [uq19,r59] at hr
 refine S.gx [] ?_
 exact D0 hr
def b60_1 (x0 x1:Int) (x2:L_II) (x3:L_LIIE) (x4 x5:L_I) (x6:L_II) (x7 x8:Int) (a1:L_II):Bd (Int×Int) Int:=fun s1=>
 if (decide (s1.2<(a1.length:Int)))=true then
  if 0≤s1.2∧s1.2<(a1.length:Int) then
   bindC (r46 ((a1.getD s1.2.toNat default).1) 0 10000) fun v2=>
    bindC (r40 v2 2) fun v3=>
     bindC (r47 x0 x1 x2 x3 x4 x5 x6 x7 x8) fun v4=>
      bindC (r46 ((a1.getD s1.2.toNat default).2) 0 v4) fun v5=>
       bindC (r40 v5 6) fun v6=>
        bindC (r39 [s1.1,v3,v6]) fun v7=>
         .next (v7,IntKind.i64.wrap (s1.2+1))
   else .out none
  else .out (some s1.1)
def r60 (x0 x1:Int) (x2:L_II) (x3:L_LIIE) (x4 x5:L_I) (x6:L_II) (x7 x8:Int) (a1:L_II):Option (Int):=
 (r40 (decide ((a1.length:Int)≤200)) 8).bind fun v1=>
  iterC (b60_1 x0 x1 x2 x3 x4 x5 x6 x7 x8 a1) 1000000000 (v1,0)
@[go_sem] def T60:=qT39 qu3 false r60
@[go_sem] def tb60 (k:Nat):=lk [(39,T39.sp),(40,T40.sp),(46,T46.sp),(47,T47.sp)] k
theorem f60:FnFact Tryz.prog 60 T60.sp:=by
 refine vm (tb:=tb60) (.cons f39 (.cons f40 (.cons f46 (.cons f47 .nil)))) Tryz.func60 Tryz.ntmps60 fun ⟨x0,x1,x2,x3,x4,x5,x6,x7,x8,a1⟩ r hr stop S=> ?_
 rw [uq10,r60] at hr
 refine S.gx [] ?_
 obtain ⟨v1,hv1,hr⟩:=of_bind0 hr
 refine gb hv1 ?_
 refine S.sees [2,5,12,13,14] [(2,2)] [] ?_ (Stop.iter S (fun s1=>⟨[(2,.c (.ref 2 0)),(5,.c (.d (.int .i64 s1.1))),(12,.c (.d (encF 2 d_II a1))),(13,.c (.d (.int .i64 (a1.length:Int)))),(14,.c (.d (.int .i64 s1.2)))],[(2,[.d (.int .i64 x0),.d (.int .i64 x1),.d (encF 2 d_II x2),.d (encF 1 d_LIIE x3),.d (encF 1 d_I x4),.d (encF 1 d_I x5),.d (encF 2 d_II x6),.d (.int .i64 x7),.d (.int .i64 x8)])],[]⟩) (b60_1 x0 x1 x2 x3 x4 x5 x6 x7 x8 a1) (fun q=>q=r) hr rfl ?_)
 ·exact lf
 ·intro s1 hr
  unfold b60_1 at hr
  refine S.gx [] ?_
  exact D1 (S.ss [2,5,12,13,14] [(2,2)] []) hr
def b122_2 (x0:Int) (a1:L_II) (s1:(List (L_II×Int×Int))×Int) (v1 v2:L_I×Int) (v3:Int):Bd (Int×(List (Int×Int))) (Ctl ((List (L_II×Int×Int))×Int) (L_LIIEII)):=fun s2=>
 if (decide (s2.1<(v1.1.length:Int)))=true then
  if 0≤s2.1∧s2.1<(v1.1.length:Int) then
   if 0≤s2.1∧s2.1<(v2.1.length:Int) then
    if (s2.2.length+1)*16≤140737488355328∧s2.2.length+1≤9223372036854775807 then
     .next (IntKind.i64.wrap (s2.1+1),s2.2++[((v1.1.getD s2.1.toNat default),(v2.1.getD s2.1.toNat default))])
     else .out none
    else .out none
   else .out none
  else .out (some (if (s1.1.length+1)*40≤140737488355328∧s1.1.length+1≤9223372036854775807 then
   .next (s1.1++[(s2.2,(if 0<IntKind.i64.wrap (((a1.getD s1.2.toNat default).2) - x0) then IntKind.i64.wrap (((a1.getD s1.2.toNat default).2) - x0) else 0),(if IntKind.i64.wrap (((a1.getD s1.2.toNat default).2)+x0)<v3 then IntKind.i64.wrap (((a1.getD s1.2.toNat default).2)+x0) else v3))],IntKind.i64.wrap (s1.2+1))
   else .out none))
def b122_1 (x1 x2:Int) (x3:L_II) (x4:L_LIIE) (x5 x6:L_I) (x7:L_II) (x8 x0:Int) (a1:L_II):Bd ((List (L_II×Int×Int))×Int) L_LIIEII:=fun s1=>
 if (decide (s1.2<(a1.length:Int)))=true then
  if 0≤s1.2∧s1.2<(a1.length:Int) then
   bindC (r86 x1 x2 x3 x4 x5 x6 x7 x8 x0 ((a1.getD s1.2.toNat default).1) ((a1.getD s1.2.toNat default).2) 171) fun v1=>
    bindC (r86 x1 x2 x3 x4 x5 x6 x7 x8 x0 ((a1.getD s1.2.toNat default).1) ((a1.getD s1.2.toNat default).2) 87) fun v2=>
     bindC (r47 x1 x2 x3 x4 x5 x6 x7 x8 x0) fun v3=>
      (iterC (b122_2 x0 a1 s1 v1 v2 v3) 1000000000 (0,[])).getD (.out none)
   else .out none
  else .out (some s1.1)
def r122 (x1 x2:Int) (x3:L_II) (x4:L_LIIE) (x5 x6:L_I) (x7:L_II) (x8 x0:Int) (a1:L_II):Option (L_LIIEII):=
 iterC (b122_1 x1 x2 x3 x4 x5 x6 x7 x8 x0 a1) 1000000000 ([],0)
@[go_sem] def T122:=qT39 qu21 true r122
@[go_sem] def tb122 (k:Nat):=lk [(47,T47.sp),(86,T86.sp)] k
theorem f122:FnFact Tryz.prog 122 T122.sp:=by
 refine vm (tb:=tb122) (.cons f47 (.cons f86 .nil)) Tryz.func122 Tryz.ntmps122 fun ⟨x1,x2,x3,x4,x5,x6,x7,x8,x0,a1⟩ r hr stop S=> ?_
 rw [uq10,r122] at hr
 refine S.gx [] ?_
 refine gr ?_
 refine S.own0 5 1000500 3 rfl rfl ?_
 refine S.sees [2,5,12,13,14] [(2,2)] [(1000500,1000500)] ?_ (Stop.iter S (fun s1=>⟨[(2,.c (.ref 2 0)),(5,.c (.own 1000500)),(12,.c (.d (encF 2 d_II a1))),(13,.c (.d (.int .i64 (a1.length:Int)))),(14,.c (.d (.int .i64 s1.2)))],[(2,[.d (.int .i64 x1),.d (.int .i64 x2),.d (encF 2 d_II x3),.d (encF 1 d_LIIE x4),.d (encF 1 d_I x5),.d (encF 1 d_I x6),.d (encF 2 d_II x7),.d (.int .i64 x8),.d (.int .i64 x0)])],[(1000500,.owned (encF 3 d_LIIEII s1.1))]⟩) (b122_1 x1 x2 x3 x4 x5 x6 x7 x8 x0 a1) (fun q=>q=r) hr rfl ?_)
 ·exact lf
 ·intro s1 hr
  unfold b122_1 at hr
  refine S.gx [] ?_
  refine gr ?_
  refine iW1 hr (fun hc hr=> ?_) fun hc hr=>D0 hr
  obtain ⟨hg8,hr⟩:=of_guard1 hr
  obtain ⟨v1,hv1,hr⟩:=of_bind1 hr
  obtain ⟨v2,hv2,hr⟩:=of_bind1 hr
  obtain ⟨v3,hv3,hr⟩:=of_bind1 hr
  refine gb hv1 ?_
  refine gb hv2 ?_
  refine gb hv3 ?_
  refine S.own0b 10 0 2001000 2 rfl rfl (nL rfl) rfl ?_
  obtain ⟨q2,hq,hr⟩:=of_iter1 hr
  refine S.sees [2,5,8,9,10,12,13,14,44,45] [(2,2),(8,8),(9,9),(10,10)] [(2001000,2001000),(1000500,1000500),(20,20),(23,23)] ?_ (Stop.iter S (fun s2=>⟨[(2,.c (.ref 2 0)),(5,.c (.own 1000500)),(8,.c (.ref 8 0)),(9,.c (.ref 9 0)),(10,.c (.ref 10 0)),(12,.c (.d (encF 2 d_II a1))),(13,.c (.d (.int .i64 (a1.length:Int)))),(14,.c (.d (.int .i64 s1.2))),(44,.c (.d (.int .i64 (v1.1.length:Int)))),(45,.c (.d (.int .i64 s2.1)))],[(2,[.d (.int .i64 x1),.d (.int .i64 x2),.d (encF 2 d_II x3),.d (encF 1 d_LIIE x4),.d (encF 1 d_I x5),.d (encF 1 d_I x6),.d (encF 2 d_II x7),.d (.int .i64 x8),.d (.int .i64 x0)]),(8,[.own 20,.d (.int .i64 v1.2)]),(9,[.own 23,.d (.int .i64 v2.2)]),(10,[.own 2001000,.d (.int .i64 (if 0<IntKind.i64.wrap (((a1.getD s1.2.toNat default).2) - x0) then IntKind.i64.wrap (((a1.getD s1.2.toNat default).2) - x0) else 0)),.d (.int .i64 (if IntKind.i64.wrap (((a1.getD s1.2.toNat default).2)+x0)<v3 then IntKind.i64.wrap (((a1.getD s1.2.toNat default).2)+x0) else v3))])],[(2001000,.owned (encF 2 d_II s2.2)),(1000500,.owned (encF 3 d_LIIEII s1.1)),(20,.owned (encF 1 d_I v1.1)),(23,.owned (encF 1 d_I v2.1))]⟩) (b122_2 x0 a1 s1 v1 v2 v3) _ hq hr ?_)
  ·exact lf
  ·intro s2 hr
   unfold b122_2 at hr
   refine S.gx [] ?_
   refine gr ?_
   refine iW1 hr (fun hc hr=>D1 (S.ss [2,5,8,9,10,12,13,14,44,45] [(2,2),(8,8),(9,9),(10,10)] [(62,2001000),(1000500,1000500),(20,20),(23,23)]) hr) fun hc hr=> ?_
   refine gr ?_
   replace hr:=goodC_out hr
   exact D1 (S.ss [2,5,12,13,14] [(2,2)] [(68,1000500)]) hr
def r168 (x0 x1:Int) (x2:L_II) (x3:L_LIIE) (x4 x5:L_I):Option (Int×Int×L_II×L_LIIE×L_II×L_LIIE×Int):=
 (r108 x0 x1 x2 x3).bind fun v1=>
  if (v1.2.2.2.2.2.2 == 0)=true then
   (r147 v1.1 v1.2.1 v1.2.2.1 v1.2.2.2.1 v1.2.2.2.2.1 v1.2.2.2.2.2.1 x4 x5).bind fun v2=>
    some (v1.1,v1.2.1,v1.2.2.1,v1.2.2.2.1,v1.2.2.2.2.1,v1.2.2.2.2.2.1,v2.2)
   else some (v1.1,v1.2.1,v1.2.2.1,v1.2.2.2.1,v1.2.2.2.2.1,v1.2.2.2.2.2.1,v1.2.2.2.2.2.2)
@[go_sem] def T168:=qT18 qu8 true r168
@[go_sem] def tb168 (k:Nat):=lk [(108,T108.sp),(147,T147.sp)] k
theorem f168:FnFact Tryz.prog 168 T168.sp:=by
 refine vm (tb:=tb168) (.cons f108 (.cons f147 .nil)) Tryz.func168 Tryz.ntmps168 fun ⟨x0,x1,x2,x3,x4,x5⟩ r hr stop S=> ?_
 rw [uq6,r168] at hr
 refine S.gx [] ?_
 exact D0 hr
def b200_1 (x1 x2:Int) (x3:L_II) (x4:L_LIIE) (x5:L_II) (x6:L_LIIE) (x0:L_II) (x7 x8:Int):Bd (Int×Int) Int:=fun s1=>
 if (decide (s1.2<(x0.length:Int)))=true then
  if 0≤s1.2∧s1.2<(x0.length:Int) then
   bindC (r158 ((x0.getD s1.2.toNat default).1)) fun v2=>
    if v2=true→(r158 ((x0.getD s1.2.toNat default).2)).isSome=true then
     bindC (r110 (v2 && ((r158 ((x0.getD s1.2.toNat default).2)).getD default)) 2) fun v3=>
      bindC (r110 (decide (((x0.getD s1.2.toNat default).1)≤((x0.getD s1.2.toNat default).2))) 9) fun v4=>
       bindC (r111 [s1.1,v3,v4]) fun v5=>
        .next (v5,IntKind.i64.wrap (s1.2+1))
     else .out none
   else .out none
  else .out ((r159 x1 x2 x3 x4 x5 x6 x7).bind fun v8=>
   (r159 x1 x2 x3 x4 x5 x6 x8).bind fun v9=>
    (r110 (decide (x7≤x8)) 9).bind fun v10=>
     (r111 [s1.1,v8,v9,v10]).bind fun v11=>
      some v11)
def r200 (x1 x2:Int) (x3:L_II) (x4:L_LIIE) (x5:L_II) (x6:L_LIIE) (x0:L_II) (x7 x8:Int):Option (Int):=
 (r110 ((x0.length:Int) == x1) 10).bind fun v1=>
  iterC (b200_1 x1 x2 x3 x4 x5 x6 x0 x7 x8) 1000000000 (v1,0)
@[go_sem] def T200:=qT40 qu3 false r200
@[go_sem] def tb200 (k:Nat):=lk [(110,T110.sp),(111,T111.sp),(158,T158.sp),(159,T159.sp)] k
theorem f200:FnFact Tryz.prog 200 T200.sp:=by
 refine vm (tb:=tb200) (.cons f110 (.cons f111 (.cons f158 (.cons f159 .nil)))) Tryz.func200 Tryz.ntmps200 fun ⟨x1,x2,x3,x4,x5,x6,x0,x7,x8⟩ r hr stop S=> ?_
 rw [uq9,r200] at hr
 refine S.gx [] ?_
 obtain ⟨v1,hv1,hr⟩:=of_bind0 hr
 refine gb hv1 ?_
 refine S.sees [2,3,5,17,18,19] [(2,2),(3,3)] [] ?_ (Stop.iter S (fun s1=>⟨[(2,.c (.ref 2 0)),(3,.c (.ref 3 0)),(5,.c (.d (.int .i64 s1.1))),(17,.c (.d (encF 2 d_II x0))),(18,.c (.d (.int .i64 (x0.length:Int)))),(19,.c (.d (.int .i64 s1.2)))],[(2,[.d (.int .i64 x1),.d (.int .i64 x2),.d (encF 2 d_II x3),.d (encF 1 d_LIIE x4),.d (encF 2 d_II x5),.d (encF 1 d_LIIE x6)]),(3,[.d (encF 2 d_II x0),.d (.int .i64 x7),.d (.int .i64 x8)])],[]⟩) (b200_1 x1 x2 x3 x4 x5 x6 x0 x7 x8) (fun q=>q=r) hr rfl ?_)
 ·exact lf
 ·intro s1 hr
  unfold b200_1 at hr
  refine S.gx [] ?_
  refine gr ?_
  refine iW1 hr (fun hc hr=> ?_) fun hc hr=>D0 hr
  obtain ⟨hg6,hr⟩:=of_guard1 hr
  obtain ⟨v2,hv2,hr⟩:=of_bind1 hr
  obtain ⟨hg7,hr⟩:=of_guard1 hr
  obtain ⟨v3,hv3,hr⟩:=of_bind1 hr
  obtain ⟨v4,hv4,hr⟩:=of_bind1 hr
  obtain ⟨v5,hv5,hr⟩:=of_bind1 hr
  try simp only [hv2,hv3,hv4,hv5,Option.getD_some,Option.isSome_some,true_and,and_assoc]
  repeat (first | refine gG hg7 ?_ | refine gA ?_ | refine gB ?_)
  exact D1 (S.ss [2,3,5,17,18,19] [(2,2),(3,3)] []) hr
def b169_1 (x0 x1:Int) (x2:L_II) (x3:L_LIIE) (x4:L_II) (x5:L_LIIE) (a1:L_LIIEII):Bd (Int×Int) Int:=fun s1=>
 if (decide (s1.2<(a1.length:Int)))=true then
  if 0≤s1.2∧s1.2<(a1.length:Int) then
   bindC (r200 x0 x1 x2 x3 x4 x5 ((a1.getD s1.2.toNat default).1) ((a1.getD s1.2.toNat default).2.1) ((a1.getD s1.2.toNat default).2.2)) fun v2=>
    bindC (r111 [s1.1,v2]) fun v3=>
     .next (v3,IntKind.i64.wrap (s1.2+1))
   else .out none
  else .out (some s1.1)
def r169 (x0 x1:Int) (x2:L_II) (x3:L_LIIE) (x4:L_II) (x5:L_LIIE) (a1:L_LIIEII):Option (Int):=
 (r110 (decide ((a1.length:Int)≤200)) 8).bind fun v1=>
  iterC (b169_1 x0 x1 x2 x3 x4 x5 a1) 1000000000 (v1,0)
@[go_sem] def T169:=qT41 qu3 false r169
@[go_sem] def tb169 (k:Nat):=lk [(110,T110.sp),(111,T111.sp),(200,T200.sp)] k
theorem f169:FnFact Tryz.prog 169 T169.sp:=by
 refine vm (tb:=tb169) (.cons f110 (.cons f111 (.cons f200 .nil))) Tryz.func169 Tryz.ntmps169 fun ⟨x0,x1,x2,x3,x4,x5,a1⟩ r hr stop S=> ?_
 rw [uq7,r169] at hr
 refine S.gx [] ?_
 obtain ⟨v1,hv1,hr⟩:=of_bind0 hr
 refine gb hv1 ?_
 refine S.sees [2,5,12,13,14] [(2,2)] [] ?_ (Stop.iter S (fun s1=>⟨[(2,.c (.ref 2 0)),(5,.c (.d (.int .i64 s1.1))),(12,.c (.d (encF 3 d_LIIEII a1))),(13,.c (.d (.int .i64 (a1.length:Int)))),(14,.c (.d (.int .i64 s1.2)))],[(2,[.d (.int .i64 x0),.d (.int .i64 x1),.d (encF 2 d_II x2),.d (encF 1 d_LIIE x3),.d (encF 2 d_II x4),.d (encF 1 d_LIIE x5)])],[]⟩) (b169_1 x0 x1 x2 x3 x4 x5 a1) (fun q=>q=r) hr rfl ?_)
 ·exact lf
 ·intro s1 hr
  unfold b169_1 at hr
  refine S.gx [] ?_
  exact D1 (S.ss [2,5,12,13,14] [(2,2)] []) hr
def b216_1 (x0:L_II) (x1 x2:Int):Bd (Int×(List (Int))×(List (Int))) (L_I×Int×L_I×Int):=fun s1=>
 if (decide (s1.1<(x0.length:Int)))=true then
  if 0≤s1.1∧s1.1<(x0.length:Int) then
   if (s1.2.1.length+1)*8≤140737488355328∧s1.2.1.length+1≤9223372036854775807 then
    if (s1.2.2.length+1)*8≤140737488355328∧s1.2.2.length+1≤9223372036854775807 then
     .next (IntKind.i64.wrap (s1.1+1),s1.2.1++[(x0.getD s1.1.toNat default).1],s1.2.2++[(x0.getD s1.1.toNat default).2])
     else .out none
    else .out none
   else .out none
  else .out (some (s1.2.1,x2,s1.2.2,x1))
def r216 (x0:L_II) (x1 x2:Int):Option (L_I×Int×L_I×Int):=
 iterC (b216_1 x0 x1 x2) 1000000000 (0,[],[])
@[go_sem] def T216:=qT42 qu22 false r216
theorem f216:FnFact Tryz.prog 216 T216.sp:=by
 refine vm .nil Tryz.func216 Tryz.ntmps216 fun ⟨x0,x1,x2⟩ r hr stop S=> ?_
 rw [uq3,r216] at hr
 refine S.gx [] ?_
 refine gr ?_
 refine S.own0b 2 0 2000200 1 rfl rfl (nL rfl) rfl ?_
 refine S.own0b 3 0 2000300 1 rfl rfl (nL rfl) rfl ?_
 refine S.sees [2,3,15,16,17] [(2,2),(3,3)] [(2000200,2000200),(2000300,2000300)] ?_ (Stop.iter S (fun s1=>⟨[(2,.c (.ref 2 0)),(3,.c (.ref 3 0)),(15,.c (.d (encF 2 d_II x0))),(16,.c (.d (.int .i64 (x0.length:Int)))),(17,.c (.d (.int .i64 s1.1)))],[(2,[.own 2000200,.d (.int .i64 x2)]),(3,[.own 2000300,.d (.int .i64 x1)])],[(2000200,.owned (encF 1 d_I s1.2.1)),(2000300,.owned (encF 1 d_I s1.2.2))]⟩) (b216_1 x0 x1 x2) (fun q=>q=r) hr rfl ?_)
 ·exact lf
 ·intro s1 hr
  unfold b216_1 at hr
  refine S.gx [] ?_
  exact D1 (S.ss [2,3,15,16,17] [(2,2),(3,3)] [(26,2000200),(32,2000300)]) hr
def r201 (x0 x1:Int) (x2:L_II) (x3:L_LIIE) (x4:L_II) (x5:L_LIIE) (x6 x7:L_I) (x8:L_II) (x9 x10:Int):Option (L_I×L_I×Int):=
 (r216 x8 x9 x10).bind fun v1=>
  (r81 x0 x1 x2 x3 x4 x5 x6 v1.1 v1.2.1).bind fun v2=>
   (r81 x0 x1 x2 x3 x4 x5 x7 v1.2.2.1 v1.2.2.2).bind fun v3=>
    (r111 [v2.2.2,v3.2.2]).bind fun v4=>
     if (v4 != 0)=true then
      some ([],[],v4)
      else some (v2.1,v3.1,0)
@[go_sem] def T201:=qT43 qu23 false r201
@[go_sem] def tb201 (k:Nat):=lk [(81,T81.sp),(111,T111.sp),(216,T216.sp)] k
theorem f201:FnFact Tryz.prog 201 T201.sp:=by
 refine vm (tb:=tb201) (.cons f81 (.cons f111 (.cons f216 .nil))) Tryz.func201 Tryz.ntmps201 fun ⟨x0,x1,x2,x3,x4,x5,x6,x7,x8,x9,x10⟩ r hr stop S=> ?_
 rw [uq11,r201] at hr
 refine S.gx [4] ?_
 obtain ⟨v1,hv1,hr⟩:=of_bind0 hr
 obtain ⟨v2,hv2,hr⟩:=of_bind0 hr
 obtain ⟨v3,hv3,hr⟩:=of_bind0 hr
 refine gb hv1 ?_
 refine gb hv2 ?_
 refine gb hv3 ?_
 refine S.prune [6,10,12,13,15] ?_
 refine S.gx [] ?_
 exact D0 hr
def b170_1 (x0 x1:Int) (x2:L_II) (x3:L_LIIE) (x4:L_II) (x5:L_LIIE) (a2:L_LIIEII):Bd ((List (L_I×L_I))×Int×L_I×L_I) (L_LIELIE×Int):=fun s1=>
 if (decide (s1.2.1<(a2.length:Int)))=true then
  if 0≤s1.2.1∧s1.2.1<(a2.length:Int) then
   bindC (r201 x0 x1 x2 x3 x4 x5 s1.2.2.1 s1.2.2.2 ((a2.getD s1.2.1.toNat default).1) ((a2.getD s1.2.1.toNat default).2.1) ((a2.getD s1.2.1.toNat default).2.2)) fun v1=>
    if (v1.2.2 != 0)=true then
     .out (some ([],v1.2.2))
     else if (s1.1.length+1)*48≤140737488355328∧s1.1.length+1≤9223372036854775807 then
      .next (s1.1++[(v1.1,v1.2.1)],IntKind.i64.wrap (s1.2.1+1),v1.1,v1.2.1)
      else .out none
   else .out none
  else .out (some (s1.1,0))
def r170 (x0 x1:Int) (x2:L_II) (x3:L_LIIE) (x4:L_II) (x5:L_LIIE) (x6 x7:L_I) (a2:L_LIIEII):Option (L_LIELIE×Int):=
 iterC (b170_1 x0 x1 x2 x3 x4 x5 a2) 1000000000 ([],0,x6,x7)
@[go_sem] def T170:=qT44 qu24 true r170
@[go_sem] def tb170 (k:Nat):=lk [(201,T201.sp)] k
theorem f170:FnFact Tryz.prog 170 T170.sp:=by
 refine vm (tb:=tb170) (.cons f201 .nil) Tryz.func170 Tryz.ntmps170 fun ⟨x0,x1,x2,x3,x4,x5,x6,x7,a2⟩ r hr stop S=> ?_
 rw [uq9,r170] at hr
 refine S.gx [] ?_
 refine gr ?_
 refine S.own0 8 1000800 2 rfl rfl ?_
 refine S.sees [3,4,8,13,14,15] [(3,3),(4,4)] [(1000800,1000800)] ?_ (Stop.iter S (fun s1=>⟨[(3,.c (.ref 3 0)),(4,.c (.ref 4 0)),(8,.c (.own 1000800)),(13,.c (.d (encF 3 d_LIIEII a2))),(14,.c (.d (.int .i64 (a2.length:Int)))),(15,.c (.d (.int .i64 s1.2.1)))],[(3,[.d (.int .i64 x0),.d (.int .i64 x1),.d (encF 2 d_II x2),.d (encF 1 d_LIIE x3),.d (encF 2 d_II x4),.d (encF 1 d_LIIE x5)]),(4,[.d (encF 1 d_I s1.2.2.1),.d (encF 1 d_I s1.2.2.2)])],[(1000800,.owned (encF 2 d_LIELIE s1.1))]⟩) (b170_1 x0 x1 x2 x3 x4 x5 a2) (fun q=>q=r) hr rfl ?_)
 ·exact lf
 ·intro s1 hr
  unfold b170_1 at hr
  refine S.gx [] ?_
  exact D1 (S.ss [3,4,8,13,14,15] [(3,3),(4,4)] [(33,1000800)]) hr
def r121 (x2 x3:Int) (x4:L_II) (x5:L_LIIE) (x0 x1:L_I) (a2:L_LIIEII):Option (L_LIELIE×Int):=
 (r168 x2 x3 x4 x5 x0 x1).bind fun v1=>
  if (v1.2.2.2.2.2.2 == 0)=true then
   (r169 v1.1 v1.2.1 v1.2.2.1 v1.2.2.2.1 v1.2.2.2.2.1 v1.2.2.2.2.2.1 a2).bind fun v2=>
    if (v2 != 0)=true then
     some ([],v2)
     else (r170 v1.1 v1.2.1 v1.2.2.1 v1.2.2.2.1 v1.2.2.2.2.1 v1.2.2.2.2.2.1 x0 x1 a2).bind fun v3=>
      some (v3.1,v3.2)
   else if (v1.2.2.2.2.2.2 != 0)=true then
    some ([],v1.2.2.2.2.2.2)
    else (r170 v1.1 v1.2.1 v1.2.2.1 v1.2.2.2.1 v1.2.2.2.2.1 v1.2.2.2.2.2.1 x0 x1 a2).bind fun v4=>
     some (v4.1,v4.2)
@[go_sem] def T121:=qT45 qu24 true r121
@[go_sem] def tb121 (k:Nat):=lk [(168,T168.sp),(169,T169.sp),(170,T170.sp)] k
theorem f121:FnFact Tryz.prog 121 T121.sp:=by
 refine vm (tb:=tb121) (.cons f168 (.cons f169 (.cons f170 .nil))) Tryz.func121 Tryz.ntmps121 fun ⟨x2,x3,x4,x5,x0,x1,a2⟩ r hr stop S=> ?_
 rw [uq7,r121] at hr
 refine S.gx [] ?_
 exact D0 hr
def r123 (x0 x1:Int) (x2:L_II) (x3:L_LIIE) (x4 x5:L_I) (x6:L_II) (x7 x8 a1 a2:Int):Option (Int×Int):=
 (r133 x0 x1 x2 x3 a1).bind fun v1=>
  (r133 x0 x1 x2 x3 a2).bind fun v2=>
   if v1.2.1≠0 then
    if v2.2.1≠0 then
     some (IntKind.i64.wrap (v1.1.tdiv v1.2.1),IntKind.i64.wrap ((IntKind.i64.wrap ((IntKind.i64.wrap (v2.1+v2.2.1)) - 1)).tdiv v2.2.1))
     else none
    else none
@[go_sem] def T123:=qT24 qu7 false r123
@[go_sem] def tb123 (k:Nat):=lk [(133,T133.sp)] k
theorem f123:FnFact Tryz.prog 123 T123.sp:=by
 refine vm (tb:=tb123) (.cons f133 .nil) Tryz.func123 Tryz.ntmps123 fun ⟨x0,x1,x2,x3,x4,x5,x6,x7,x8,a1,a2⟩ r hr stop S=> ?_
 rw [uq11,r123] at hr
 refine S.gx [] ?_
 exact D0 hr
end Go.Proofs.YtkbdjphdhcgmaaaGreatDoor

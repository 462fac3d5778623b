/- Contracts of functions, written by wip/dec. -/
import Derived.Test.YtnepigpnlnmlmaaGreatDoorF00
import Derived.Test.YtnepigpnlnmlmaaGreatDoorF01
import Derived.Test.YtnepigpnlnmlmaaGreatDoorF02
import Derived.Test.YtnepigpnlnmlmaaGreatDoorF03
import Derived.Test.YtnepigpnlnmlmaaGreatDoorF04
set_option linter.unusedVariables false
set_option linter.unusedSimpArgs false
set_option linter.constructorNameAsVariable false
set_option maxHeartbeats 4000000
set_option maxRecDepth 20000
namespace Go.Proofs.YtnepigpnlnmlmaaGreatDoor
open Go.Abs
section
variable {β:Type} [Inhabited β] (u:β→List RV) (al:Bool)
def qw34 (a0 a1:Int) (a2:L_II) (a3:L_LIIE) (a4 a5:L_I) (a6:L_II) (a7 a8:Int) (a9:L_IIIIIH):List Arg:=[.agg [.int .i64 a0,.int .i64 a1,encF 2 d_II a2,encF 1 d_LIIE a3,encF 1 d_I a4,encF 1 d_I a5,encF 2 d_II a6,.int .i64 a7,.int .i64 a8],.c (encF 6 d_IIIIIH a9)]
def qd34:List Arg→Int×Int×L_II×L_LIIE×L_I×L_I×L_II×Int×Int×L_IIIIIH
 | [.agg [c0,c1,c2,c3,c4,c5,c6,c7,c8],.c c9]=>(dInt c0,dInt c1,decF g_II c2,decF g_LIIE c3,decF g_I c4,decF g_I c5,decF g_II c6,dInt c7,dInt c8,decF g_IIIIIH c9)
 | _=>default
def qT34 (r:Int→Int→L_II→L_LIIE→L_I→L_I→L_II→Int→Int→L_IIIIIH→Option β):=mkT (u10 qw34) qd34 (u10 r) u al
attribute [go_sem] qw34 qd34 qT34
def qw36 (a0:Int) (a1:L_II) (a2:Int) (a3:Option (Int×L_II×Int)) (a4:Int):List Arg:=[.agg [.int .i64 a0,encF 2 d_II a1,.int .i64 a2],.c (encP d_ILIIEI a3),.c (.int .i64 a4)]
def qd36:List Arg→Int×L_II×Int×(Option (Int×L_II×Int))×Int
 | [.agg [c0,c1,c2],.c c3,.c c4]=>(dInt c0,decF g_II c1,dInt c2,decP g_ILIIEI c3,dInt c4)
 | _=>default
def qT36 (r:Int→L_II→Int→(Option (Int×L_II×Int))→Int→Option β):=mkT (u5 qw36) qd36 (u5 r) u al
attribute [go_sem] qw36 qd36 qT36
def qw37 (a0:L_I):List Arg:=[.c (encF 1 d_I a0),.clo 141 []]
def qd37:List Arg→L_I
 | [.c c0,.clo _ []]=>decF g_I c0
 | _=>default
def qT37 (r:L_I→Option β):=mkT (u1 qw37) qd37 (u1 r) u al
attribute [go_sem] qw37 qd37 qT37
def qu17 (v:L_IIII×L_IIIII×L_III×L_II×Int×Int×Int×Int):List RV:=[.agg [.own (encF 4 d_IIII v.1),.own (encF 5 d_IIIII v.2.1),.own (encF 3 d_III v.2.2.1),.own (encF 2 d_II v.2.2.2.1),.d (.int .i64 v.2.2.2.2.1),.d (.int .i64 v.2.2.2.2.2.1),.d (.int .i64 v.2.2.2.2.2.2.1),.d (.int .i64 v.2.2.2.2.2.2.2)]]
attribute [go_sem] qu17
def qu18 (v:Int×Int×L_II×L_LIIE×L_I×L_I×L_II×Int×Int×L_IIII×L_IIIII×L_III×L_II×Int×Int×Int×Int×L_III×Int):List RV:=[.agg [.d (.int .i64 v.1),.d (.int .i64 v.2.1),.own (encF 2 d_II v.2.2.1),.own (encF 1 d_LIIE v.2.2.2.1),.own (encF 1 d_I v.2.2.2.2.1),.own (encF 1 d_I v.2.2.2.2.2.1),.own (encF 2 d_II v.2.2.2.2.2.2.1),.d (.int .i64 v.2.2.2.2.2.2.2.1),.d (.int .i64 v.2.2.2.2.2.2.2.2.1),.own (encF 4 d_IIII v.2.2.2.2.2.2.2.2.2.1),.own (encF 5 d_IIIII v.2.2.2.2.2.2.2.2.2.2.1),.own (encF 3 d_III v.2.2.2.2.2.2.2.2.2.2.2.1),.own (encF 2 d_II v.2.2.2.2.2.2.2.2.2.2.2.2.1),.d (.int .i64 v.2.2.2.2.2.2.2.2.2.2.2.2.2.1),.d (.int .i64 v.2.2.2.2.2.2.2.2.2.2.2.2.2.2.1),.d (.int .i64 v.2.2.2.2.2.2.2.2.2.2.2.2.2.2.2.1),.d (.int .i64 v.2.2.2.2.2.2.2.2.2.2.2.2.2.2.2.2.1),.own (encF 3 d_III v.2.2.2.2.2.2.2.2.2.2.2.2.2.2.2.2.2.1),.d (.int .i64 v.2.2.2.2.2.2.2.2.2.2.2.2.2.2.2.2.2.2)]]
attribute [go_sem] qu18
def qu19 (v:L_ILIIEI×L_ILIIEI×L_ILIIEI×L_ILIIEI):List RV:=[.agg [.own (encF 3 d_ILIIEI v.1),.own (encF 3 d_ILIIEI v.2.1),.own (encF 3 d_ILIIEI v.2.2.1),.own (encF 3 d_ILIIEI v.2.2.2)]]
attribute [go_sem] qu19
end
def b57_3 (v1:Int×Int×L_II×L_LIIE×L_I×L_I×L_II×Int×Int×Int) (v2:L_IIIIIH×Int) (s2:Int×L_I×(List (Int×Int))):Bd (Int×L_I×(List (Int×Int))) (Ctl (Int×L_I×(List (Int×Int))) (L_II×Int)):=fun s3=>
 if (((v2.1.getD s2.1.toNat default).1) == 3)=true then
  if 0≤0∧0<(s3.2.1.length:Int) then
   bindC (r173 v1.1 v1.2.1 v1.2.2.1 v1.2.2.2.1 v1.2.2.2.2.1 v1.2.2.2.2.2.1 v1.2.2.2.2.2.2.1 v1.2.2.2.2.2.2.2.1 v1.2.2.2.2.2.2.2.2.1 (s3.2.1.getD 0 default) ((v2.1.getD s2.1.toNat default).2.2.2.2.1)) fun v9=>
    bindC (r65 ((!(decide (v9<0))) || (decide (s3.1<((v2.1.getD s2.1.toNat default).2.2.2.1)))) 24) fun v10=>
     if ((v10 != 0) || (!(decide (v9<0))))=true then
      .out (some (if (v10 != 0)=true then
       .out (some ([],v10))
       else .next (IntKind.i64.wrap (s2.1+1),s3.2.1,s3.2.2)))
      else if ((s3.2.2.length:Int) == 200)=true then
       .out (some (.out (some ([],8))))
       else bindC (r160 v1.1 v1.2.1 v1.2.2.1 v1.2.2.2.1 v1.2.2.2.2.1 v1.2.2.2.2.2.1 v1.2.2.2.2.2.2.1 v1.2.2.2.2.2.2.2.1 v1.2.2.2.2.2.2.2.2.1 ((v2.1.getD s2.1.toNat default).2.1) ((v2.1.getD s2.1.toNat default).2.2.1) 238) fun v11=>
        bindC (r174 v1.1 v1.2.1 v1.2.2.1 v1.2.2.2.1 s3.2.1 v11.1 v11.2) fun v12=>
         if (v12.2 != 0)=true then
          if (v12.2 != 0)=true then
           .out (some (if (v12.2 != 0)=true then
            .out (some ([],v12.2))
            else .next (IntKind.i64.wrap (s2.1+1),s3.2.1,s3.2.2)))
           else .next (IntKind.i64.wrap (s3.1+1),s3.2.1,s3.2.2)
          else if (s3.2.2.length+1)*16≤140737488355328∧s3.2.2.length+1≤9223372036854775807 then
           .next (IntKind.i64.wrap (s3.1+1),v12.1,s3.2.2++[((v2.1.getD s2.1.toNat default).2.1,(v2.1.getD s2.1.toNat default).2.2.1)])
           else .out none
   else .out none
  else if (((v2.1.getD s2.1.toNat default).1) == 4)=true then
   if 0≤0∧0<(s3.2.1.length:Int) then
    bindC (r173 v1.1 v1.2.1 v1.2.2.1 v1.2.2.2.1 v1.2.2.2.2.1 v1.2.2.2.2.2.1 v1.2.2.2.2.2.2.1 v1.2.2.2.2.2.2.2.1 v1.2.2.2.2.2.2.2.2.1 (s3.2.1.getD 0 default) ((v2.1.getD s2.1.toNat default).2.2.2.2.1)) fun v15=>
     bindC (r65 ((!(decide (v15>0))) || (decide (s3.1<((v2.1.getD s2.1.toNat default).2.2.2.1)))) 24) fun v16=>
      if ((v16 != 0) || (!(decide (v15>0))))=true then
       .out (some (if (v16 != 0)=true then
        .out (some ([],v16))
        else .next (IntKind.i64.wrap (s2.1+1),s3.2.1,s3.2.2)))
       else if ((s3.2.2.length:Int) == 200)=true then
        .out (some (.out (some ([],8))))
        else bindC (r160 v1.1 v1.2.1 v1.2.2.1 v1.2.2.2.1 v1.2.2.2.2.1 v1.2.2.2.2.2.1 v1.2.2.2.2.2.2.1 v1.2.2.2.2.2.2.2.1 v1.2.2.2.2.2.2.2.2.1 ((v2.1.getD s2.1.toNat default).2.1) ((v2.1.getD s2.1.toNat default).2.2.1) 238) fun v17=>
         bindC (r174 v1.1 v1.2.1 v1.2.2.1 v1.2.2.2.1 s3.2.1 v17.1 v17.2) fun v18=>
          if (v18.2 != 0)=true then
           if (v18.2 != 0)=true then
            .out (some (if (v18.2 != 0)=true then
             .out (some ([],v18.2))
             else .next (IntKind.i64.wrap (s2.1+1),s3.2.1,s3.2.2)))
            else .next (IntKind.i64.wrap (s3.1+1),s3.2.1,s3.2.2)
           else if (s3.2.2.length+1)*16≤140737488355328∧s3.2.2.length+1≤9223372036854775807 then
            .next (IntKind.i64.wrap (s3.1+1),v18.1,s3.2.2++[((v2.1.getD s2.1.toNat default).2.1,(v2.1.getD s2.1.toNat default).2.2.1)])
            else .out none
    else .out none
   else bindC (r65 ((!(decide (s3.1<((v2.1.getD s2.1.toNat default).2.2.2.1)))) || (decide (s3.1<((v2.1.getD s2.1.toNat default).2.2.2.1)))) 24) fun v21=>
    if ((v21 != 0) || (!(decide (s3.1<((v2.1.getD s2.1.toNat default).2.2.2.1)))))=true then
     .out (some (if (v21 != 0)=true then
      .out (some ([],v21))
      else .next (IntKind.i64.wrap (s2.1+1),s3.2.1,s3.2.2)))
     else if ((s3.2.2.length:Int) == 200)=true then
      .out (some (.out (some ([],8))))
      else bindC (r160 v1.1 v1.2.1 v1.2.2.1 v1.2.2.2.1 v1.2.2.2.2.1 v1.2.2.2.2.2.1 v1.2.2.2.2.2.2.1 v1.2.2.2.2.2.2.2.1 v1.2.2.2.2.2.2.2.2.1 ((v2.1.getD s2.1.toNat default).2.1) ((v2.1.getD s2.1.toNat default).2.2.1) 238) fun v22=>
       bindC (r174 v1.1 v1.2.1 v1.2.2.1 v1.2.2.2.1 s3.2.1 v22.1 v22.2) fun v23=>
        if (v23.2 != 0)=true then
         if (v23.2 != 0)=true then
          .out (some (if (v23.2 != 0)=true then
           .out (some ([],v23.2))
           else .next (IntKind.i64.wrap (s2.1+1),s3.2.1,s3.2.2)))
          else .next (IntKind.i64.wrap (s3.1+1),s3.2.1,s3.2.2)
         else if (s3.2.2.length+1)*16≤140737488355328∧s3.2.2.length+1≤9223372036854775807 then
          .next (IntKind.i64.wrap (s3.1+1),v23.1,s3.2.2++[((v2.1.getD s2.1.toNat default).2.1,(v2.1.getD s2.1.toNat default).2.2.1)])
          else .out none
def b57_4 (v1:Int×Int×L_II×L_LIIE×L_I×L_I×L_II×Int×Int×Int) (v2:L_IIIIIH×Int) (s2:Int×L_I×(List (Int×Int))):Bd (Int×L_I×(List (Int×Int))) (Ctl (Int×L_I×(List (Int×Int))) (L_II×Int)):=fun s4=>
 if (((v2.1.getD s2.1.toNat default).1) == 3)=true then
  if 0≤0∧0<(s4.2.1.length:Int) then
   bindC (r173 v1.1 v1.2.1 v1.2.2.1 v1.2.2.2.1 v1.2.2.2.2.1 v1.2.2.2.2.2.1 v1.2.2.2.2.2.2.1 v1.2.2.2.2.2.2.2.1 v1.2.2.2.2.2.2.2.2.1 (s4.2.1.getD 0 default) ((v2.1.getD s2.1.toNat default).2.2.2.2.1)) fun v25=>
    bindC (r65 ((!(decide (v25<0))) || (decide (s4.1<((v2.1.getD s2.1.toNat default).2.2.2.1)))) 24) fun v26=>
     if ((v26 != 0) || (!(decide (v25<0))))=true then
      .out (some (if (v26 != 0)=true then
       .out (some ([],v26))
       else .next (IntKind.i64.wrap (s2.1+1),s4.2.1,s4.2.2)))
      else if ((s4.2.2.length:Int) == 200)=true then
       .out (some (.out (some ([],8))))
       else bindC (r160 v1.1 v1.2.1 v1.2.2.1 v1.2.2.2.1 v1.2.2.2.2.1 v1.2.2.2.2.2.1 v1.2.2.2.2.2.2.1 v1.2.2.2.2.2.2.2.1 v1.2.2.2.2.2.2.2.2.1 ((v2.1.getD s2.1.toNat default).2.1) v1.2.2.2.2.2.2.2.1 238) fun v27=>
        bindC (r174 v1.1 v1.2.1 v1.2.2.1 v1.2.2.2.1 s4.2.1 v27.1 v27.2) fun v28=>
         if (v28.2 != 0)=true then
          if (v28.2 != 0)=true then
           .out (some (if (v28.2 != 0)=true then
            .out (some ([],v28.2))
            else .next (IntKind.i64.wrap (s2.1+1),s4.2.1,s4.2.2)))
           else .next (IntKind.i64.wrap (s4.1+1),s4.2.1,s4.2.2)
          else if (s4.2.2.length+1)*16≤140737488355328∧s4.2.2.length+1≤9223372036854775807 then
           .next (IntKind.i64.wrap (s4.1+1),v28.1,s4.2.2++[((v2.1.getD s2.1.toNat default).2.1,v1.2.2.2.2.2.2.2.1)])
           else .out none
   else .out none
  else if (((v2.1.getD s2.1.toNat default).1) == 4)=true then
   if 0≤0∧0<(s4.2.1.length:Int) then
    bindC (r173 v1.1 v1.2.1 v1.2.2.1 v1.2.2.2.1 v1.2.2.2.2.1 v1.2.2.2.2.2.1 v1.2.2.2.2.2.2.1 v1.2.2.2.2.2.2.2.1 v1.2.2.2.2.2.2.2.2.1 (s4.2.1.getD 0 default) ((v2.1.getD s2.1.toNat default).2.2.2.2.1)) fun v31=>
     bindC (r65 ((!(decide (v31>0))) || (decide (s4.1<((v2.1.getD s2.1.toNat default).2.2.2.1)))) 24) fun v32=>
      if ((v32 != 0) || (!(decide (v31>0))))=true then
       .out (some (if (v32 != 0)=true then
        .out (some ([],v32))
        else .next (IntKind.i64.wrap (s2.1+1),s4.2.1,s4.2.2)))
       else if ((s4.2.2.length:Int) == 200)=true then
        .out (some (.out (some ([],8))))
        else bindC (r160 v1.1 v1.2.1 v1.2.2.1 v1.2.2.2.1 v1.2.2.2.2.1 v1.2.2.2.2.2.1 v1.2.2.2.2.2.2.1 v1.2.2.2.2.2.2.2.1 v1.2.2.2.2.2.2.2.2.1 ((v2.1.getD s2.1.toNat default).2.1) v1.2.2.2.2.2.2.2.1 238) fun v33=>
         bindC (r174 v1.1 v1.2.1 v1.2.2.1 v1.2.2.2.1 s4.2.1 v33.1 v33.2) fun v34=>
          if (v34.2 != 0)=true then
           if (v34.2 != 0)=true then
            .out (some (if (v34.2 != 0)=true then
             .out (some ([],v34.2))
             else .next (IntKind.i64.wrap (s2.1+1),s4.2.1,s4.2.2)))
            else .next (IntKind.i64.wrap (s4.1+1),s4.2.1,s4.2.2)
           else if (s4.2.2.length+1)*16≤140737488355328∧s4.2.2.length+1≤9223372036854775807 then
            .next (IntKind.i64.wrap (s4.1+1),v34.1,s4.2.2++[((v2.1.getD s2.1.toNat default).2.1,v1.2.2.2.2.2.2.2.1)])
            else .out none
    else .out none
   else bindC (r65 ((!(decide (s4.1<((v2.1.getD s2.1.toNat default).2.2.2.1)))) || (decide (s4.1<((v2.1.getD s2.1.toNat default).2.2.2.1)))) 24) fun v37=>
    if ((v37 != 0) || (!(decide (s4.1<((v2.1.getD s2.1.toNat default).2.2.2.1)))))=true then
     .out (some (if (v37 != 0)=true then
      .out (some ([],v37))
      else .next (IntKind.i64.wrap (s2.1+1),s4.2.1,s4.2.2)))
     else if ((s4.2.2.length:Int) == 200)=true then
      .out (some (.out (some ([],8))))
      else bindC (r160 v1.1 v1.2.1 v1.2.2.1 v1.2.2.2.1 v1.2.2.2.2.1 v1.2.2.2.2.2.1 v1.2.2.2.2.2.2.1 v1.2.2.2.2.2.2.2.1 v1.2.2.2.2.2.2.2.2.1 ((v2.1.getD s2.1.toNat default).2.1) v1.2.2.2.2.2.2.2.1 238) fun v38=>
       bindC (r174 v1.1 v1.2.1 v1.2.2.1 v1.2.2.2.1 s4.2.1 v38.1 v38.2) fun v39=>
        if (v39.2 != 0)=true then
         if (v39.2 != 0)=true then
          .out (some (if (v39.2 != 0)=true then
           .out (some ([],v39.2))
           else .next (IntKind.i64.wrap (s2.1+1),s4.2.1,s4.2.2)))
          else .next (IntKind.i64.wrap (s4.1+1),s4.2.1,s4.2.2)
         else if (s4.2.2.length+1)*16≤140737488355328∧s4.2.2.length+1≤9223372036854775807 then
          .next (IntKind.i64.wrap (s4.1+1),v39.1,s4.2.2++[((v2.1.getD s2.1.toNat default).2.1,v1.2.2.2.2.2.2.2.1)])
          else .out none
def b57_2 (v1:Int×Int×L_II×L_LIIE×L_I×L_I×L_II×Int×Int×Int) (v2:L_IIIIIH×Int):Bd (Int×L_I×(List (Int×Int))) (L_II×Int):=fun s2=>
 if (decide (s2.1<(v2.1.length:Int)))=true then
  if 0≤s2.1∧s2.1<(v2.1.length:Int) then
   bindC (r68 ((v2.1.getD s2.1.toNat default).1)) fun v8=>
    if v8=true then
     (iterC (b57_3 v1 v2 s2) 1000000000 (0,s2.2.1,s2.2.2)).getD (.out none)
     else (iterC (b57_4 v1 v2 s2) 1000000000 (0,s2.2.1,s2.2.2)).getD (.out none)
   else .out none
  else .out (some (s2.2.2,0))
def b57_1 (v1:Int×Int×L_II×L_LIIE×L_I×L_I×L_II×Int×Int×Int) (v2:L_IIIIIH×Int):Bd (Int×Int) (L_II×Int):=fun s1=>
 if (decide (s1.2<(v2.1.length:Int)))=true then
  if 0≤s1.2∧s1.2<(v2.1.length:Int) then
   bindC (r118 v1.1 v1.2.1 v1.2.2.1 v1.2.2.2.1 v1.2.2.2.2.1 v1.2.2.2.2.2.1 v1.2.2.2.2.2.2.1 v1.2.2.2.2.2.2.2.1 v1.2.2.2.2.2.2.2.2.1) fun v3=>
    bindC (r71 ((v2.1.getD s1.2.toNat default).2.2.1) 0 v3) fun v4=>
     bindC (r65 v4 6) fun v5=>
      bindC (r64 [s1.1,v5]) fun v6=>
       .next (v6,IntKind.i64.wrap (s1.2+1))
   else .out none
  else .out (if (s1.1 != 0)=true then
   some ([],s1.1)
   else iterC (b57_2 v1 v2) 1000000000 (0,v1.2.2.2.2.1,[]))
def r57 (x0 x1:Int) (x2:L_II) (x3:L_LIIE) (x4 x5:L_I) (x6:L_II) (x7 x8:Int) (a1:L_IIIIIH):Option (L_II×Int):=
 (r116 x0 x1 x2 x3 x4 x5 x6 x7 x8).bind fun v1=>
  if (v1.2.2.2.2.2.2.2.2.2 != 0)=true then
   some ([],v1.2.2.2.2.2.2.2.2.2)
   else (r117 a1).bind fun v2=>
    iterC (b57_1 v1 v2) 1000000000 (v2.2,0)
@[go_sem] def T57:=qT34 qu16 false r57
@[go_sem] def tb57 (k:Nat):=lk [(64,T64.sp),(65,T65.sp),(68,T68.sp),(71,T71.sp),(116,T116.sp),(117,T117.sp),(118,T118.sp),(160,T160.sp),(173,T173.sp),(174,T174.sp)] k
theorem tb57_ok:FnsOk Tryz.prog tb57:= .cons f64 (.cons f65 (.cons f68 (.cons f71 (.cons f116 (.cons f117 (.cons f118 (.cons f160 (.cons f173 (.cons f174 .nil)))))))))
theorem f57:FnFact Tryz.prog 57 T57.sp:=by
 refine vm (tb:=tb57) (.cons f64 (.cons f65 (.cons f68 (.cons f71 (.cons f116 (.cons f117 (.cons f118 (.cons f160 (.cons f173 (.cons f174 .nil)))))))))) Tryz.func57 Tryz.ntmps57 fun ⟨x0,x1,x2,x3,x4,x5,x6,x7,x8,a1⟩ r hr stop S=> ?_
 rw [uq10,r57] at hr
 refine S.gx [12,16] ?_
 obtain ⟨v1,hv1,hr⟩:=of_bind0 hr
 refine gb hv1 ?_
 refine iW hr (fun hc hr=>D0 hr) fun hc hr=> ?_
 obtain ⟨v2,hv2,hr⟩:=of_bind0 hr
 refine gb hv2 ?_
 refine S.li [6,7,8,28,29,30] [(6,6)] [(25,25)] (fun s1=>⟨[sR 6 6,sI 7 s1.1,sO 8 25,sO 28 25,sI 29 (v2.1.length:Int),sI 30 s1.2],[(6,[iC v1.1,iC v1.2.1,.d (encF 2 d_II v1.2.2.1),.d (encF 1 d_LIIE v1.2.2.2.1),.d (encF 1 d_I v1.2.2.2.2.1),.d (encF 1 d_I v1.2.2.2.2.2.1),.d (encF 2 d_II v1.2.2.2.2.2.2.1),iC v1.2.2.2.2.2.2.2.1,iC v1.2.2.2.2.2.2.2.2.1])],[(25,.owned (encF 6 d_IIIIIH v2.1))]⟩) (b57_1 v1 v2) (fun q=>q=r) hr rfl ?_
 intro s1 hr
 unfold b57_1 at hr
 refine S.gw [12,16] ?_
 refine iW1 hr (fun hc hr=>D1 (S.ss [6,7,8,28,29,30] [(6,6)] [(25,25)]) hr) fun hc hr=> ?_
 refine gr ?_
 have hr:=of_out0 hr
 refine gr ?_
 refine iW hr (fun hc hr=>D0 hr) fun hc hr=> ?_
 refine gr ?_
 refine S.inl 1 [8] [] Tryz.func119 (by decide) rfl Tryz.ntmps119 (fun cx e=>drawn_ok ty_ok tb57_ok cx e) (some 48) rfl rfl rfl rfl (nL rfl) (nL rfl) ?_
 refine gs ?_
 refine gr ?_
 intro stop1 S1
 refine S1.gw [] ?_
 refine S.gw [12,16] ?_
 refine S.own0b 9 10 2000910 2 rfl rfl (nL rfl) rfl ?_
 refine S.li [11,49,50,51] [(9,9)] [(2000910,2000910),(25,25)] (fun s2=>⟨[sR 11 9,sO 49 25,sI 50 (v2.1.length:Int),sI 51 s2.1],[(9,[iC v1.1,iC v1.2.1,.d (encF 2 d_II v1.2.2.1),.d (encF 1 d_LIIE v1.2.2.2.1),.d (encF 1 d_I v1.2.2.2.2.1),.d (encF 1 d_I v1.2.2.2.2.2.1),.d (encF 2 d_II v1.2.2.2.2.2.2.1),iC v1.2.2.2.2.2.2.2.1,iC v1.2.2.2.2.2.2.2.2.1,.d (encF 1 d_I s2.2.1),.own 2000910])],[(2000910,.owned (encF 2 d_II s2.2.2)),(25,.owned (encF 6 d_IIIIIH v2.1))]⟩) (b57_2 v1 v2) (fun q=>q=r) hr rfl ?_
 intro s2 hr
 unfold b57_2 at hr
 refine S.gw [12,16] ?_
 refine iW1 hr (fun hc hr=> ?_) fun hc hr=>D0 hr
 obtain ⟨hg41,hr⟩:=of_guard1 hr
 refine gr ?_
 refine S.inl 2 [11,49,50,51] [] Tryz.func120 (by decide) rfl Tryz.ntmps120 (fun cx e=>drawn_ok ty_ok tb57_ok cx e) (some 57) rfl rfl rfl rfl (nL rfl) (nL rfl) ?_
 refine gs ?_
 refine gr ?_
 intro stop1 S1
 refine S1.gx [6,9] ?_
 obtain ⟨v8,hv8,hr⟩:=of_bind1 hr
 refine gb hv8 ?_
 refine iW1 hr (fun hc hr=> ?_) fun hc hr=> ?_
 ·refine gr ?_
  obtain ⟨q3,hq,hr⟩:=of_iter1 hr
  refine S1.li [0,3,5,6] [(9,9),(3,3),(5,5)] [(25,25),(2000910,2000910)] (fun s3=>⟨[sR 0 9,sR 3 3,sR 5 5,sI 6 s3.1],[(9,[iC v1.1,iC v1.2.1,.d (encF 2 d_II v1.2.2.1),.d (encF 1 d_LIIE v1.2.2.2.1),.d (encF 1 d_I v1.2.2.2.2.1),.d (encF 1 d_I v1.2.2.2.2.2.1),.d (encF 2 d_II v1.2.2.2.2.2.2.1),iC v1.2.2.2.2.2.2.2.1,iC v1.2.2.2.2.2.2.2.2.1,.d (encF 1 d_I s3.2.1),.own 2000910]),(3,[iC ((v2.1.getD s2.1.toNat default).1),iC ((v2.1.getD s2.1.toNat default).2.1),iC ((v2.1.getD s2.1.toNat default).2.2.1),iC ((v2.1.getD s2.1.toNat default).2.2.2.1),iC ((v2.1.getD s2.1.toNat default).2.2.2.2.1),.d (hE ((v2.1.getD s2.1.toNat default).2.2.2.2.2))]),(5,[iC ((v2.1.getD s2.1.toNat default).2.1),iC ((v2.1.getD s2.1.toNat default).2.2.1)])],[(25,.owned (encF 6 d_IIIIIH v2.1)),(2000910,.owned (encF 2 d_II s3.2.2))]⟩) (b57_3 v1 v2 s2) _ hq hr ?_
  intro s3 hr
  have z3:=S1.ss [0,3,5,6] [(9,9),(3,3),(5,5)] [(25,25),(48,2000910)]
  have z2:=S1.ss [0,3,5,6] [(9,9),(3,3),(5,5)] [(25,25),(2000910,2000910)]
  have z1:=S.ss [11,49,50,51] [(9,9)] [(2000910,2000910),(25,25)]
  unfold b57_3 at hr
  refine S1.gw [6,9] ?_
  refine S1.inl 3 [0,3,5,6] [] Tryz.func179 (by decide) rfl Tryz.ntmps179 (fun cx e=>drawn_ok ty_ok tb57_ok cx e) (some 31) rfl rfl rfl rfl (nL rfl) (nL rfl) ?_
  refine gs ?_
  refine gr ?_
  intro stop2 S2
  refine S2.gw [] ?_
  refine iW1 hr (fun hc hr=> ?_) fun hc hr=> ?_
  ·obtain ⟨hg14,hr⟩:=of_guard1 hr
   obtain ⟨v9,hv9,hr⟩:=of_bind1 hr
   obtain ⟨v10,hv10,hr⟩:=of_bind1 hr
   try simp only [hv9,hv10,Option.getD_some,Option.isSome_some,true_and,and_assoc]
   repeat (first | refine gA ?_ | refine gB ?_)
   refine S1.gx [6,9] ?_
   repeat (first | refine gA ?_ | refine gB ?_)
   refine iW1 hr (fun hc hr=> ?_) fun hc hr=> ?_
   ·refine gr ?_
    replace hr:=goodC_out hr
    refine S.gx [12,16] ?_
    exact D1 z1 hr
   ·refine gr ?_
    refine S1.inl 2 [0,3,5,6] [] Tryz.func180 (by decide) rfl Tryz.ntmps180 (fun cx e=>drawn_ok ty_ok tb57_ok cx e) (some 43) rfl rfl rfl rfl (nL rfl) (nL rfl) ?_
    refine gs ?_
    refine gr ?_
    intro stop2 S2
    refine S2.gw [4] ?_
    refine iW1 hr (fun hc hr=> ?_) fun hc hr=> ?_
    ·refine S1.gw [6,9] ?_
     replace hr:=goodC_out hr
     refine S.gx [12,16] ?_
     exact D0 hr
    ·obtain ⟨v11,hv11,hr⟩:=of_bind1 hr
     obtain ⟨v12,hv12,hr⟩:=of_bind1 hr
     refine gb hv11 ?_
     refine gb hv12 ?_
     refine S2.prune [0,4,7,8] ?_
     refine S2.gw [] ?_
     refine iW1 hr (fun hc hr=> ?_) fun hc hr=> ?_
     ·refine S1.gw [6,9] ?_
      refine iW1 hr (fun hc hr=> ?_) fun hc hr=>D1 z2 hr
      refine gr ?_
      replace hr:=goodC_out hr
      refine S.gx [12,16] ?_
      exact D1 z1 hr
     ·obtain ⟨hg13,hr⟩:=of_guard1 hr
      refine S1.gw [6,9] ?_
      refine S1.share 33 rfl ?_
      exact D1 z3 hr
  ·refine gr ?_
   refine iW1 hr (fun hc hr=> ?_) fun hc hr=> ?_
   ·obtain ⟨hg20,hr⟩:=of_guard1 hr
    obtain ⟨v15,hv15,hr⟩:=of_bind1 hr
    obtain ⟨v16,hv16,hr⟩:=of_bind1 hr
    try simp only [hv15,hv16,Option.getD_some,Option.isSome_some,true_and,and_assoc]
    repeat (first | refine gA ?_ | refine gB ?_)
    refine S1.gx [6,9] ?_
    repeat (first | refine gA ?_ | refine gB ?_)
    refine iW1 hr (fun hc hr=> ?_) fun hc hr=> ?_
    ·refine gr ?_
     replace hr:=goodC_out hr
     refine S.gx [12,16] ?_
     exact D1 z1 hr
    ·refine gr ?_
     refine S1.inl 2 [0,3,5,6] [] Tryz.func180 (by decide) rfl Tryz.ntmps180 (fun cx e=>drawn_ok ty_ok tb57_ok cx e) (some 43) rfl rfl rfl rfl (nL rfl) (nL rfl) ?_
     refine gs ?_
     refine gr ?_
     intro stop2 S2
     refine S2.gw [4] ?_
     refine iW1 hr (fun hc hr=> ?_) fun hc hr=> ?_
     ·refine S1.gw [6,9] ?_
      replace hr:=goodC_out hr
      refine S.gx [12,16] ?_
      exact D0 hr
     ·obtain ⟨v17,hv17,hr⟩:=of_bind1 hr
      obtain ⟨v18,hv18,hr⟩:=of_bind1 hr
      refine gb hv17 ?_
      refine gb hv18 ?_
      refine S2.prune [0,4,7,8] ?_
      refine S2.gw [] ?_
      refine iW1 hr (fun hc hr=> ?_) fun hc hr=> ?_
      ·refine S1.gw [6,9] ?_
       refine iW1 hr (fun hc hr=> ?_) fun hc hr=>D1 z2 hr
       refine gr ?_
       replace hr:=goodC_out hr
       refine S.gx [12,16] ?_
       exact D1 z1 hr
      ·obtain ⟨hg19,hr⟩:=of_guard1 hr
       refine S1.gw [6,9] ?_
       refine S1.share 33 rfl ?_
       exact D1 z3 hr
   ·obtain ⟨v21,hv21,hr⟩:=of_bind1 hr
    try simp only [hv21,oG,oI,true_and,and_assoc]
    repeat (first | refine gA ?_ | refine gB ?_)
    refine S1.gx [6,9] ?_
    repeat (first | refine gA ?_ | refine gB ?_)
    refine iW1 hr (fun hc hr=> ?_) fun hc hr=> ?_
    ·refine gr ?_
     replace hr:=goodC_out hr
     refine S.gx [12,16] ?_
     exact D1 z1 hr
    ·refine gr ?_
     refine S1.inl 2 [0,3,5,6] [] Tryz.func180 (by decide) rfl Tryz.ntmps180 (fun cx e=>drawn_ok ty_ok tb57_ok cx e) (some 43) rfl rfl rfl rfl (nL rfl) (nL rfl) ?_
     refine gs ?_
     refine gr ?_
     intro stop2 S2
     refine S2.gw [4] ?_
     refine iW1 hr (fun hc hr=> ?_) fun hc hr=> ?_
     ·refine S1.gw [6,9] ?_
      replace hr:=goodC_out hr
      refine S.gx [12,16] ?_
      exact D0 hr
     ·obtain ⟨v22,hv22,hr⟩:=of_bind1 hr
      obtain ⟨v23,hv23,hr⟩:=of_bind1 hr
      refine gb hv22 ?_
      refine gb hv23 ?_
      refine S2.prune [0,4,7,8] ?_
      refine S2.gw [] ?_
      refine iW1 hr (fun hc hr=> ?_) fun hc hr=> ?_
      ·refine S1.gw [6,9] ?_
       refine iW1 hr (fun hc hr=> ?_) fun hc hr=>D1 z2 hr
       refine gr ?_
       replace hr:=goodC_out hr
       refine S.gx [12,16] ?_
       exact D1 z1 hr
      ·obtain ⟨hg24,hr⟩:=of_guard1 hr
       refine S1.gw [6,9] ?_
       refine S1.share 33 rfl ?_
       exact D1 z3 hr
 ·refine gr ?_
  obtain ⟨q4,hq,hr⟩:=of_iter1 hr
  refine S1.li [0,3,5,6] [(9,9),(3,3),(5,5)] [(25,25),(2000910,2000910)] (fun s4=>⟨[sR 0 9,sR 3 3,sR 5 5,sI 6 s4.1],[(9,[iC v1.1,iC v1.2.1,.d (encF 2 d_II v1.2.2.1),.d (encF 1 d_LIIE v1.2.2.2.1),.d (encF 1 d_I v1.2.2.2.2.1),.d (encF 1 d_I v1.2.2.2.2.2.1),.d (encF 2 d_II v1.2.2.2.2.2.2.1),iC v1.2.2.2.2.2.2.2.1,iC v1.2.2.2.2.2.2.2.2.1,.d (encF 1 d_I s4.2.1),.own 2000910]),(3,[iC ((v2.1.getD s2.1.toNat default).1),iC ((v2.1.getD s2.1.toNat default).2.1),iC ((v2.1.getD s2.1.toNat default).2.2.1),iC ((v2.1.getD s2.1.toNat default).2.2.2.1),iC ((v2.1.getD s2.1.toNat default).2.2.2.2.1),.d (hE ((v2.1.getD s2.1.toNat default).2.2.2.2.2))]),(5,[iC ((v2.1.getD s2.1.toNat default).2.1),iC v1.2.2.2.2.2.2.2.1])],[(25,.owned (encF 6 d_IIIIIH v2.1)),(2000910,.owned (encF 2 d_II s4.2.2))]⟩) (b57_4 v1 v2 s2) _ hq hr ?_
  intro s4 hr
  have z6:=S1.ss [0,3,5,6] [(9,9),(3,3),(5,5)] [(25,25),(48,2000910)]
  have z5:=S1.ss [0,3,5,6] [(9,9),(3,3),(5,5)] [(25,25),(2000910,2000910)]
  have z4:=S.ss [11,49,50,51] [(9,9)] [(2000910,2000910),(25,25)]
  unfold b57_4 at hr
  refine S1.gw [6,9] ?_
  refine S1.inl 3 [0,3,5,6] [] Tryz.func179 (by decide) rfl Tryz.ntmps179 (fun cx e=>drawn_ok ty_ok tb57_ok cx e) (some 31) rfl rfl rfl rfl (nL rfl) (nL rfl) ?_
  refine gs ?_
  refine gr ?_
  intro stop2 S2
  refine S2.gw [] ?_
  refine iW1 hr (fun hc hr=> ?_) fun hc hr=> ?_
  ·obtain ⟨hg30,hr⟩:=of_guard1 hr
   obtain ⟨v25,hv25,hr⟩:=of_bind1 hr
   obtain ⟨v26,hv26,hr⟩:=of_bind1 hr
   try simp only [hv25,hv26,Option.getD_some,Option.isSome_some,true_and,and_assoc]
   repeat (first | refine gA ?_ | refine gB ?_)
   refine S1.gx [6,9] ?_
   repeat (first | refine gA ?_ | refine gB ?_)
   refine iW1 hr (fun hc hr=> ?_) fun hc hr=> ?_
   ·refine gr ?_
    replace hr:=goodC_out hr
    refine S.gx [12,16] ?_
    exact D1 z4 hr
   ·refine gr ?_
    refine S1.inl 2 [0,3,5,6] [] Tryz.func180 (by decide) rfl Tryz.ntmps180 (fun cx e=>drawn_ok ty_ok tb57_ok cx e) (some 43) rfl rfl rfl rfl (nL rfl) (nL rfl) ?_
    refine gs ?_
    refine gr ?_
    intro stop2 S2
    refine S2.gw [4] ?_
    refine iW1 hr (fun hc hr=> ?_) fun hc hr=> ?_
    ·refine S1.gw [6,9] ?_
     replace hr:=goodC_out hr
     refine S.gx [12,16] ?_
     exact D0 hr
    ·obtain ⟨v27,hv27,hr⟩:=of_bind1 hr
     obtain ⟨v28,hv28,hr⟩:=of_bind1 hr
     refine gb hv27 ?_
     refine gb hv28 ?_
     refine S2.prune [0,4,7,8] ?_
     refine S2.gw [] ?_
     refine iW1 hr (fun hc hr=> ?_) fun hc hr=> ?_
     ·refine S1.gw [6,9] ?_
      refine iW1 hr (fun hc hr=> ?_) fun hc hr=>D1 z5 hr
      refine gr ?_
      replace hr:=goodC_out hr
      refine S.gx [12,16] ?_
      exact D1 z4 hr
     ·obtain ⟨hg29,hr⟩:=of_guard1 hr
      refine S1.gw [6,9] ?_
      refine S1.share 33 rfl ?_
      exact D1 z6 hr
  ·refine gr ?_
   refine iW1 hr (fun hc hr=> ?_) fun hc hr=> ?_
   ·obtain ⟨hg36,hr⟩:=of_guard1 hr
    obtain ⟨v31,hv31,hr⟩:=of_bind1 hr
    obtain ⟨v32,hv32,hr⟩:=of_bind1 hr
    try simp only [hv31,hv32,Option.getD_some,Option.isSome_some,true_and,and_assoc]
    repeat (first | refine gA ?_ | refine gB ?_)
    refine S1.gx [6,9] ?_
    repeat (first | refine gA ?_ | refine gB ?_)
    refine iW1 hr (fun hc hr=> ?_) fun hc hr=> ?_
    ·refine gr ?_
     replace hr:=goodC_out hr
     refine S.gx [12,16] ?_
     exact D1 z4 hr
    ·refine gr ?_
     refine S1.inl 2 [0,3,5,6] [] Tryz.func180 (by decide) rfl Tryz.ntmps180 (fun cx e=>drawn_ok ty_ok tb57_ok cx e) (some 43) rfl rfl rfl rfl (nL rfl) (nL rfl) ?_
     refine gs ?_
     refine gr ?_
     intro stop2 S2
     refine S2.gw [4] ?_
     refine iW1 hr (fun hc hr=> ?_) fun hc hr=> ?_
     ·refine S1.gw [6,9] ?_
      replace hr:=goodC_out hr
      refine S.gx [12,16] ?_
      exact D0 hr
     ·obtain ⟨v33,hv33,hr⟩:=of_bind1 hr
      obtain ⟨v34,hv34,hr⟩:=of_bind1 hr
      refine gb hv33 ?_
      refine gb hv34 ?_
      refine S2.prune [0,4,7,8] ?_
      refine S2.gw [] ?_
      refine iW1 hr (fun hc hr=> ?_) fun hc hr=> ?_
      ·refine S1.gw [6,9] ?_
       refine iW1 hr (fun hc hr=> ?_) fun hc hr=>D1 z5 hr
       refine gr ?_
       replace hr:=goodC_out hr
       refine S.gx [12,16] ?_
       exact D1 z4 hr
      ·obtain ⟨hg35,hr⟩:=of_guard1 hr
       refine S1.gw [6,9] ?_
       refine S1.share 33 rfl ?_
       exact D1 z6 hr
   ·obtain ⟨v37,hv37,hr⟩:=of_bind1 hr
    try simp only [hv37,oG,oI,true_and,and_assoc]
    repeat (first | refine gA ?_ | refine gB ?_)
    refine S1.gx [6,9] ?_
    repeat (first | refine gA ?_ | refine gB ?_)
    refine iW1 hr (fun hc hr=> ?_) fun hc hr=> ?_
    ·refine gr ?_
     replace hr:=goodC_out hr
     refine S.gx [12,16] ?_
     exact D1 z4 hr
    ·refine gr ?_
     refine S1.inl 2 [0,3,5,6] [] Tryz.func180 (by decide) rfl Tryz.ntmps180 (fun cx e=>drawn_ok ty_ok tb57_ok cx e) (some 43) rfl rfl rfl rfl (nL rfl) (nL rfl) ?_
     refine gs ?_
     refine gr ?_
     intro stop2 S2
     refine S2.gw [4] ?_
     refine iW1 hr (fun hc hr=> ?_) fun hc hr=> ?_
     ·refine S1.gw [6,9] ?_
      replace hr:=goodC_out hr
      refine S.gx [12,16] ?_
      exact D0 hr
     ·obtain ⟨v38,hv38,hr⟩:=of_bind1 hr
      obtain ⟨v39,hv39,hr⟩:=of_bind1 hr
      refine gb hv38 ?_
      refine gb hv39 ?_
      refine S2.prune [0,4,7,8] ?_
      refine S2.gw [] ?_
      refine iW1 hr (fun hc hr=> ?_) fun hc hr=> ?_
      ·refine S1.gw [6,9] ?_
       refine iW1 hr (fun hc hr=> ?_) fun hc hr=>D1 z5 hr
       refine gr ?_
       replace hr:=goodC_out hr
       refine S.gx [12,16] ?_
       exact D1 z4 hr
      ·obtain ⟨hg40,hr⟩:=of_guard1 hr
       refine S1.gw [6,9] ?_
       refine S1.share 33 rfl ?_
       exact D1 z6 hr
def r121:Option (L_IIII×L_IIIII×L_III×L_II×Int×Int×Int×Int):=
 some ([(650,1000000,1000000,1)],[],[(500,1000000,1000000)],[],200,250,400,800)
@[go_sem] def T121:=qT0 qu17 false r121
theorem f121:FnFact Tryz.prog 121 T121.sp:=by
 refine vm .nil Tryz.func121 Tryz.ntmps121 fun _ r hr stop S=> ?_
 rw [uq0,r121] at hr
 refine S.gx [] ?_
 exact D0 hr
def r60:Option (Int×Int×L_II×L_LIIE×L_I×L_I×L_II×Int×Int×L_IIII×L_IIIII×L_III×L_II×Int×Int×Int×Int×L_III×Int):=
 (r58).bind fun v1=>
  (r121).bind fun v2=>
   some (v1.1,v1.2.1,v1.2.2.1,v1.2.2.2.1,v1.2.2.2.2.1,v1.2.2.2.2.2.1,v1.2.2.2.2.2.2.1,v1.2.2.2.2.2.2.2.1,v1.2.2.2.2.2.2.2.2,v2.1,v2.2.1,v2.2.2.1,v2.2.2.2.1,v2.2.2.2.2.1,v2.2.2.2.2.2.1,v2.2.2.2.2.2.2.1,v2.2.2.2.2.2.2.2,[(0,700,850),(2,150,250)],700)
@[go_sem] def T60:=qT0 qu18 true r60
@[go_sem] def tb60 (k:Nat):=lk [(58,T58.sp),(121,T121.sp)] k
theorem f60:FnFact Tryz.prog 60 T60.sp:=by
 refine vm (tb:=tb60) (.cons f58 (.cons f121 .nil)) Tryz.func60 Tryz.ntmps60 fun _ r hr stop S=> ?_
 rw [uq0,r60] at hr
 refine S.gx [] ?_
 exact D0 hr
def r25 (a0:L_II):Option (L_II):=
 if (0+a0.length)*16≤140737488355328∧0+a0.length≤9223372036854775807 then
  some a0
  else none
@[go_sem] def T25:=qT5 qu5 false r25
theorem f25:FnFact Tryz.prog 25 T25.sp:=by
 refine vm .nil Tryz.func25 Tryz.ntmps25 fun a0 r hr stop S=> ?_
 rw [uq1,r25] at hr
 refine S.gx [] ?_
 exact D0 hr
def b138_4 (x0:L_II) (s1 s2 s3:Int×(List (Int×L_II×Int))):Bd (Int×(List (Int×L_II×Int))) (L_ILIIEI×L_ILIIEI×L_ILIIEI×L_ILIIEI):=fun s4=>
 if (decide (s4.1<(x0.length:Int)))=true then
  if 0≤s4.1∧s4.1<(x0.length:Int) then
   if (s4.2.length+1)*40≤140737488355328∧s4.2.length+1≤9223372036854775807 then
    .next (IntKind.i64.wrap (s4.1+1),s4.2++[((x0.getD s4.1.toNat default).1,[],(x0.getD s4.1.toNat default).2)])
    else .out none
   else .out none
  else .out (some (s1.2,s2.2,s3.2,s4.2))
def b138_3 (x1:L_III) (x0:L_II) (s1 s2:Int×(List (Int×L_II×Int))):Bd (Int×(List (Int×L_II×Int))) (L_ILIIEI×L_ILIIEI×L_ILIIEI×L_ILIIEI):=fun s3=>
 if (decide (s3.1<(x1.length:Int)))=true then
  if 0≤s3.1∧s3.1<(x1.length:Int) then
   if (s3.2.length+1)*40≤140737488355328∧s3.2.length+1≤9223372036854775807 then
    .next (IntKind.i64.wrap (s3.1+1),s3.2++[((x1.getD s3.1.toNat default).1,[((x1.getD s3.1.toNat default).2.1,(x1.getD s3.1.toNat default).2.2)],0)])
    else .out none
   else .out none
  else .out (iterC (b138_4 x0 s1 s2 s3) 1000000000 (0,[]))
def b138_2 (x2:L_IIIII) (x1:L_III) (x0:L_II) (s1:Int×(List (Int×L_II×Int))):Bd (Int×(List (Int×L_II×Int))) (L_ILIIEI×L_ILIIEI×L_ILIIEI×L_ILIIEI):=fun s2=>
 if (decide (s2.1<(x2.length:Int)))=true then
  if 0≤s2.1∧s2.1<(x2.length:Int) then
   if (s2.2.length+1)*40≤140737488355328∧s2.2.length+1≤9223372036854775807 then
    .next (IntKind.i64.wrap (s2.1+1),s2.2++[((x2.getD s2.1.toNat default).1,[((x2.getD s2.1.toNat default).2.1,(x2.getD s2.1.toNat default).2.2.1),((x2.getD s2.1.toNat default).2.2.2.1,(x2.getD s2.1.toNat default).2.2.2.2)],0)])
    else .out none
   else .out none
  else .out (iterC (b138_3 x1 x0 s1 s2) 1000000000 (0,[]))
def b138_1 (x3:L_IIII) (x2:L_IIIII) (x1:L_III) (x0:L_II):Bd (Int×(List (Int×L_II×Int))) (L_ILIIEI×L_ILIIEI×L_ILIIEI×L_ILIIEI):=fun s1=>
 if (decide (s1.1<(x3.length:Int)))=true then
  if 0≤s1.1∧s1.1<(x3.length:Int) then
   if (s1.2.length+1)*40≤140737488355328∧s1.2.length+1≤9223372036854775807 then
    .next (IntKind.i64.wrap (s1.1+1),s1.2++[((x3.getD s1.1.toNat default).1,[((x3.getD s1.1.toNat default).2.1,(x3.getD s1.1.toNat default).2.2.1)],(x3.getD s1.1.toNat default).2.2.2)])
    else .out none
   else .out none
  else .out (iterC (b138_2 x2 x1 x0 s1) 1000000000 (0,[]))
def r138 (x3:L_IIII) (x2:L_IIIII) (x1:L_III) (x0:L_II) (x4 x5 x6 x7:Int):Option (L_ILIIEI×L_ILIIEI×L_ILIIEI×L_ILIIEI):=
 iterC (b138_1 x3 x2 x1 x0) 1000000000 (0,[])
@[go_sem] def T138:=qT35 qu19 true r138
theorem f138:FnFact Tryz.prog 138 T138.sp:=by
 refine vm .nil Tryz.func138 Tryz.ntmps138 fun ⟨x3,x2,x1,x0,x4,x5,x6,x7⟩ r hr stop S=> ?_
 rw [uq8,r138] at hr
 refine S.gx [] ?_
 refine gr ?_
 refine S.own0b 3 0 2000300 3 rfl rfl (nL rfl) rfl ?_
 refine S.li [1,2,3,13,14,15] [(1,1),(2,2),(3,3)] [(2000300,2000300)] (fun s1=>⟨[sR 1 1,sR 2 2,sR 3 3,(13,.c (.d (encF 4 d_IIII x3))),sI 14 (x3.length:Int),sI 15 s1.1],[(1,[.d (encF 4 d_IIII x3),.d (encF 5 d_IIIII x2),.d (encF 3 d_III x1),.d (encF 2 d_II x0),iC x4,iC x5,iC x6,iC x7]),(2,[.nils,.nils,.nils,.nils]),(3,[.own 2000300,.nils,.nils,.nils])],[(2000300,.owned (encF 3 d_ILIIEI s1.2))]⟩) (b138_1 x3 x2 x1 x0) (fun q=>q=r) hr rfl ?_
 intro s1 hr
 unfold b138_1 at hr
 refine S.gw [] ?_
 refine iW1 hr (fun hc hr=>D1 (S.ss [1,2,3,13,14,15] [(1,1),(2,2),(3,3)] [(30,2000300)]) hr) fun hc hr=> ?_
 refine gr ?_
 have hr:=of_out0 hr
 refine gr ?_
 refine S.own0b 3 1 2000301 3 rfl rfl (nL rfl) rfl ?_
 refine S.li [1,2,3,34,35,36] [(1,1),(2,2),(3,3)] [(2000301,2000301),(2000300,2000300)] (fun s2=>⟨[sR 1 1,sR 2 2,sR 3 3,(34,.c (.d (encF 5 d_IIIII x2))),sI 35 (x2.length:Int),sI 36 s2.1],[(1,[.d (encF 4 d_IIII x3),.d (encF 5 d_IIIII x2),.d (encF 3 d_III x1),.d (encF 2 d_II x0),iC x4,iC x5,iC x6,iC x7]),(2,[.nils,.nils,.nils,.nils]),(3,[.own 2000300,.own 2000301,.nils,.nils])],[(2000301,.owned (encF 3 d_ILIIEI s2.2)),(2000300,.owned (encF 3 d_ILIIEI s1.2))]⟩) (b138_2 x2 x1 x0 s1) (fun q=>q=r) hr rfl ?_
 intro s2 hr
 unfold b138_2 at hr
 refine S.gw [] ?_
 refine iW1 hr (fun hc hr=>D1 (S.ss [1,2,3,34,35,36] [(1,1),(2,2),(3,3)] [(51,2000301),(2000300,2000300)]) hr) fun hc hr=> ?_
 refine gr ?_
 have hr:=of_out0 hr
 refine gr ?_
 refine S.own0b 3 2 2000302 3 rfl rfl (nL rfl) rfl ?_
 refine S.li [1,2,3,55,56,57] [(1,1),(2,2),(3,3)] [(2000302,2000302),(2000300,2000300),(2000301,2000301)] (fun s3=>⟨[sR 1 1,sR 2 2,sR 3 3,(55,.c (.d (encF 3 d_III x1))),sI 56 (x1.length:Int),sI 57 s3.1],[(1,[.d (encF 4 d_IIII x3),.d (encF 5 d_IIIII x2),.d (encF 3 d_III x1),.d (encF 2 d_II x0),iC x4,iC x5,iC x6,iC x7]),(2,[.nils,.nils,.nils,.nils]),(3,[.own 2000300,.own 2000301,.own 2000302,.nils])],[(2000302,.owned (encF 3 d_ILIIEI s3.2)),(2000300,.owned (encF 3 d_ILIIEI s1.2)),(2000301,.owned (encF 3 d_ILIIEI s2.2))]⟩) (b138_3 x1 x0 s1 s2) (fun q=>q=r) hr rfl ?_
 intro s3 hr
 unfold b138_3 at hr
 refine S.gw [] ?_
 refine iW1 hr (fun hc hr=>D1 (S.ss [1,2,3,55,56,57] [(1,1),(2,2),(3,3)] [(70,2000302),(2000300,2000300),(2000301,2000301)]) hr) fun hc hr=> ?_
 refine gr ?_
 have hr:=of_out0 hr
 refine gr ?_
 refine S.own0b 3 3 2000303 3 rfl rfl (nL rfl) rfl ?_
 refine S.li [2,3,74,75,76] [(2,2),(3,3)] [(2000303,2000303),(2000300,2000300),(2000301,2000301),(2000302,2000302)] (fun s4=>⟨[sR 2 2,sR 3 3,(74,.c (.d (encF 2 d_II x0))),sI 75 (x0.length:Int),sI 76 s4.1],[(2,[.nils,.nils,.nils,.nils]),(3,[.own 2000300,.own 2000301,.own 2000302,.own 2000303])],[(2000303,.owned (encF 3 d_ILIIEI s4.2)),(2000300,.owned (encF 3 d_ILIIEI s1.2)),(2000301,.owned (encF 3 d_ILIIEI s2.2)),(2000302,.owned (encF 3 d_ILIIEI s3.2))]⟩) (b138_4 x0 s1 s2 s3) (fun q=>q=r) hr rfl ?_
 intro s4 hr
 unfold b138_4 at hr
 refine S.gx [] ?_
 exact D1 (S.ss [2,3,74,75,76] [(2,2),(3,3)] [(88,2000303),(2000300,2000300),(2000301,2000301),(2000302,2000302)]) hr
def r142 (a0 a1 a2:Int):Option (Bool):=
 some ((decide (a1≤a0)) && (decide (a0≤a2)))
@[go_sem] def T142:=qT1 qu2 false r142
theorem f142:FnFact Tryz.prog 142 T142.sp:=by
 refine vm .nil Tryz.func142 Tryz.ntmps142 fun ⟨a0,a1,a2⟩ r hr stop S=> ?_
 rw [uq3,r142] at hr
 refine S.gx [] ?_
 repeat (first | refine gA ?_ | refine gB ?_)
 exact D0 hr
def r168 (a0:Int):Option (Bool):=
 (r142 a0 0 1000000).bind fun v1=>
  some v1
@[go_sem] def T168:=qT4 qu2 false r168
@[go_sem] def tb168 (k:Nat):=lk [(142,T142.sp)] k
theorem f168:FnFact Tryz.prog 168 T168.sp:=by
 refine vm (tb:=tb168) (.cons f142 .nil) Tryz.func168 Tryz.ntmps168 fun a0 r hr stop S=> ?_
 rw [uq1,r168] at hr
 refine S.gx [] ?_
 exact D0 hr
def r195 (x1 x0:Int):Option (Bool):=
 (r168 x1).bind fun v1=>
  if (!(!v1))=true→(r168 x0).isSome=true then
   some ((!v1) || (!((r168 x0).getD default)))
   else none
@[go_sem] def T195:=qT25 qu2 false r195
@[go_sem] def tb195 (k:Nat):=lk [(168,T168.sp)] k
theorem f195:FnFact Tryz.prog 195 T195.sp:=by
 refine vm (tb:=tb195) (.cons f168 .nil) Tryz.func195 Tryz.ntmps195 fun ⟨x1,x0⟩ r hr stop S=> ?_
 rw [uq2,r195] at hr
 refine S.gx [] ?_
 obtain ⟨v1,hv1,hr⟩:=of_bind0 hr
 obtain ⟨hg2,hr⟩:=of_guard0 hr
 try simp only [hv1,oG,oI,true_and,and_assoc]
 repeat (first | refine gG hg2 ?_ | refine gA ?_ | refine gB ?_)
 exact D0 hr
def r196 (x0 x1:Int):Option (Bool):=
 some (decide (x0>x1))
@[go_sem] def T196:=qT25 qu2 false r196
theorem f196:FnFact Tryz.prog 196 T196.sp:=by
 refine vm .nil Tryz.func196 Tryz.ntmps196 fun ⟨x0,x1⟩ r hr stop S=> ?_
 rw [uq2,r196] at hr
 refine S.gx [] ?_
 exact D0 hr
def r170 (a0:Int):Option (Bool):=
 (r142 a0 1 3000).bind fun v1=>
  some v1
@[go_sem] def T170:=qT4 qu2 false r170
@[go_sem] def tb170 (k:Nat):=lk [(142,T142.sp)] k
theorem f170:FnFact Tryz.prog 170 T170.sp:=by
 refine vm (tb:=tb170) (.cons f142 .nil) Tryz.func170 Tryz.ntmps170 fun a0 r hr stop S=> ?_
 rw [uq1,r170] at hr
 refine S.gx [] ?_
 exact D0 hr
def r143 (a0:Bool) (a1:Int):Option (Int):=
 if a0=true then
  some 0
  else some a1
@[go_sem] def T143:=qT2 qu3 false r143
theorem f143:FnFact Tryz.prog 143 T143.sp:=by
 refine vm .nil Tryz.func143 Tryz.ntmps143 fun ⟨a0,a1⟩ r hr stop S=> ?_
 rw [uq2,r143] at hr
 refine S.gx [] ?_
 exact D0 hr
def b104_1 (a0:L_I):Bd Int Int:=fun s1=>
 if (decide (s1<(a0.length:Int)))=true then
  if 0≤s1∧s1<(a0.length:Int) then
   if ((a0.getD s1.toNat default) != 0)=true then
    .out (some (a0.getD s1.toNat default))
    else .next (IntKind.i64.wrap (s1+1))
   else .out none
  else .out (some 0)
def r104 (a0:L_I):Option (Int):=
 iterC (b104_1 a0) 1000000000 0
@[go_sem] def T104:=qT3 qu3 false r104
theorem f104:FnFact Tryz.prog 104 T104.sp:=by
 refine vm .nil Tryz.func104 Tryz.ntmps104 fun a0 r hr stop S=> ?_
 rw [uq1,r104] at hr
 refine S.gx [] ?_
 refine gr ?_
 refine S.li [5,6,7] [] [] (fun s1=>⟨[(5,.c (.d (encF 1 d_I a0))),sI 6 (a0.length:Int),sI 7 s1],[],[]⟩) (b104_1 a0) (fun q=>q=r) hr rfl ?_
 intro s1 hr
 unfold b104_1 at hr
 refine S.gx [] ?_
 exact D1 (S.ss [5,6,7] [] []) hr
def b139_2 (x1:Int) (x0:L_II) (x2:Int) (a1:Option (Int×L_II×Int)) (a2 s1:Int):Bd Int Int:=fun s2=>
 if (decide (s2<(x0.length:Int)))=true then
  if 0≤s2∧s2<(x0.length:Int) then
   bindC (r196 ((x0.getD s2.toNat default).1) ((x0.getD s2.toNat default).2)) fun v2=>
    if v2=true then
     .out ((r170 x1).bind fun v3=>
      if (v3 && (!(decide (s1≥0))))=true→(r168 x2).isSome=true then
       (r143 ((v3 && (!(decide (s1≥0)))) && ((r168 x2).getD default)) 2).bind fun v4=>
        (r143 (!(decide (s2≥0))) 3).bind fun v5=>
         (r104 [v4,v5]).bind fun v6=>
          if ((v6 != 0) || (!a1.isSome))=true then
           some v6
           else if a1.isSome=true then
            if a1.isSome=true then
             if (a2 != 0)=true then
              if 0≤0∧0<(x0.length:Int) then
               if a1.isSome=true then
                if a1.isSome=true then
                 if 0≤0∧0<(((a1.getD default).2.1).length:Int) then
                  (r143 (((decide (x1>((a1.getD default).1))) && (decide ((IntKind.i64.wrap (a2*((x0.getD 0 default).1)))≥(IntKind.i64.wrap (a2*((((a1.getD default).2.1).getD 0 default).1)))))) && (decide ((IntKind.i64.wrap (a2*((x0.getD 0 default).2)))≥(IntKind.i64.wrap (a2*((((a1.getD default).2.1).getD 0 default).2)))))) 9).bind fun v7=>
                   some v7
                  else none
                 else none
                else none
               else none
              else (r143 (decide (x1>((a1.getD default).1))) 9).bind fun v12=>
               some v12
             else none
            else none
       else none)
     else .next (IntKind.i64.wrap (s2+1))
   else .out none
  else .out ((r170 x1).bind fun v17=>
   if (v17 && (!(decide (s1≥0))))=true→(r168 x2).isSome=true then
    (r143 ((v17 && (!(decide (s1≥0)))) && ((r168 x2).getD default)) 2).bind fun v18=>
     (r143 true 3).bind fun v19=>
      (r104 [v18,v19]).bind fun v20=>
       if ((v20 != 0) || (!a1.isSome))=true then
        some v20
        else if a1.isSome=true then
         if a1.isSome=true then
          if (a2 != 0)=true then
           if 0≤0∧0<(x0.length:Int) then
            if a1.isSome=true then
             if a1.isSome=true then
              if 0≤0∧0<(((a1.getD default).2.1).length:Int) then
               (r143 (((decide (x1>((a1.getD default).1))) && (decide ((IntKind.i64.wrap (a2*((x0.getD 0 default).1)))≥(IntKind.i64.wrap (a2*((((a1.getD default).2.1).getD 0 default).1)))))) && (decide ((IntKind.i64.wrap (a2*((x0.getD 0 default).2)))≥(IntKind.i64.wrap (a2*((((a1.getD default).2.1).getD 0 default).2)))))) 9).bind fun v21=>
                some v21
               else none
              else none
             else none
            else none
           else (r143 (decide (x1>((a1.getD default).1))) 9).bind fun v26=>
            some v26
          else none
         else none
    else none)
def b139_3 (x1:Int) (x0:L_II) (x2:Int) (a1:Option (Int×L_II×Int)) (a2:Int):Bd Int Int:=fun s3=>
 if (decide (s3<(x0.length:Int)))=true then
  if 0≤s3∧s3<(x0.length:Int) then
   bindC (r196 ((x0.getD s3.toNat default).1) ((x0.getD s3.toNat default).2)) fun v31=>
    if v31=true then
     .out ((r170 x1).bind fun v32=>
      if v32=true→(r168 x2).isSome=true then
       (r143 (v32 && ((r168 x2).getD default)) 2).bind fun v33=>
        (r143 (!(decide (s3≥0))) 3).bind fun v34=>
         (r104 [v33,v34]).bind fun v35=>
          if ((v35 != 0) || (!a1.isSome))=true then
           some v35
           else if a1.isSome=true then
            if a1.isSome=true then
             if (a2 != 0)=true then
              if 0≤0∧0<(x0.length:Int) then
               if a1.isSome=true then
                if a1.isSome=true then
                 if 0≤0∧0<(((a1.getD default).2.1).length:Int) then
                  (r143 (((decide (x1>((a1.getD default).1))) && (decide ((IntKind.i64.wrap (a2*((x0.getD 0 default).1)))≥(IntKind.i64.wrap (a2*((((a1.getD default).2.1).getD 0 default).1)))))) && (decide ((IntKind.i64.wrap (a2*((x0.getD 0 default).2)))≥(IntKind.i64.wrap (a2*((((a1.getD default).2.1).getD 0 default).2)))))) 9).bind fun v36=>
                   some v36
                  else none
                 else none
                else none
               else none
              else (r143 (decide (x1>((a1.getD default).1))) 9).bind fun v41=>
               some v41
             else none
            else none
       else none)
     else .next (IntKind.i64.wrap (s3+1))
   else .out none
  else .out ((r170 x1).bind fun v46=>
   if v46=true→(r168 x2).isSome=true then
    (r143 (v46 && ((r168 x2).getD default)) 2).bind fun v47=>
     (r143 true 3).bind fun v48=>
      (r104 [v47,v48]).bind fun v49=>
       if ((v49 != 0) || (!a1.isSome))=true then
        some v49
        else if a1.isSome=true then
         if a1.isSome=true then
          if (a2 != 0)=true then
           if 0≤0∧0<(x0.length:Int) then
            if a1.isSome=true then
             if a1.isSome=true then
              if 0≤0∧0<(((a1.getD default).2.1).length:Int) then
               (r143 (((decide (x1>((a1.getD default).1))) && (decide ((IntKind.i64.wrap (a2*((x0.getD 0 default).1)))≥(IntKind.i64.wrap (a2*((((a1.getD default).2.1).getD 0 default).1)))))) && (decide ((IntKind.i64.wrap (a2*((x0.getD 0 default).2)))≥(IntKind.i64.wrap (a2*((((a1.getD default).2.1).getD 0 default).2)))))) 9).bind fun v50=>
                some v50
               else none
              else none
             else none
            else none
           else (r143 (decide (x1>((a1.getD default).1))) 9).bind fun v55=>
            some v55
          else none
         else none
    else none)
def b139_1 (x1:Int) (x0:L_II) (x2:Int) (a1:Option (Int×L_II×Int)) (a2:Int):Bd Int Int:=fun s1=>
 if (decide (s1<(x0.length:Int)))=true then
  if 0≤s1∧s1<(x0.length:Int) then
   bindC (r195 ((x0.getD s1.toNat default).1) ((x0.getD s1.toNat default).2)) fun v1=>
    if v1=true then
     .out (iterC (b139_2 x1 x0 x2 a1 a2 s1) 1000000000 0)
     else .next (IntKind.i64.wrap (s1+1))
   else .out none
  else .out (iterC (b139_3 x1 x0 x2 a1 a2) 1000000000 0)
def r139 (x1:Int) (x0:L_II) (x2:Int) (a1:Option (Int×L_II×Int)) (a2:Int):Option (Int):=
 iterC (b139_1 x1 x0 x2 a1 a2) 1000000000 0
@[go_sem] def T139:=qT36 qu3 false r139
@[go_sem] def tb139 (k:Nat):=lk [(104,T104.sp),(143,T143.sp),(168,T168.sp),(170,T170.sp),(195,T195.sp),(196,T196.sp)] k
theorem tb139_ok:FnsOk Tryz.prog tb139:= .cons f104 (.cons f143 (.cons f168 (.cons f170 (.cons f195 (.cons f196 .nil)))))
theorem f139:FnFact Tryz.prog 139 T139.sp:=by
 refine vm (tb:=tb139) (.cons f104 (.cons f143 (.cons f168 (.cons f170 (.cons f195 (.cons f196 .nil)))))) Tryz.func139 Tryz.ntmps139 fun ⟨x1,x0,x2,a1,a2⟩ r hr stop S=> ?_
 rw [uq5,r139] at hr
 refine S.gx [1,2,5,7,10] ?_
 refine gr ?_
 refine S.inl 2 [1,2,3] [] Tryz.func147 (by decide) rfl Tryz.ntmps147 (fun cx e=>drawn_ok ty_ok tb139_ok cx e) (some 15) rfl rfl rfl rfl (nL rfl) (nL rfl) ?_
 refine gs ?_
 refine gr ?_
 intro stop1 S1
 refine S1.gw [1] ?_
 refine S1.inl 2 [4] [] Tryz.func204 (by decide) rfl Tryz.ntmps204 (fun cx e=>drawn_ok ty_ok tb139_ok cx e) (some 7) rfl rfl rfl rfl (nL rfl) (nL rfl) ?_
 refine gs ?_
 refine gr ?_
 intro stop2 S2
 refine S2.gw [4] ?_
 refine S2.li [0,1,7,8] [(3,3)] [] (fun s1=>⟨[(0,.c (.d (encF 2 d_II x0))),(1,.c (.clo 195 [])),sI 7 (x0.length:Int),sI 8 s1],[(3,[iC x1,.d (encF 2 d_II x0),iC x2])],[]⟩) (b139_1 x1 x0 x2 a1 a2) (fun q=>q=r) hr rfl ?_
 intro s1 hr
 unfold b139_1 at hr
 refine S2.gw [4] ?_
 refine iW1 hr (fun hc hr=> ?_) fun hc hr=> ?_
 ·refine S2.gx [] ?_
  obtain ⟨hg30,hr⟩:=of_guard1 hr
  obtain ⟨v1,hv1,hr⟩:=of_bind1 hr
  refine gb hv1 ?_
  refine gr ?_
  refine iW1 hr (fun hc hr=> ?_) fun hc hr=>D1 (S2.ss [0,1,7,8] [(3,3)] []) hr
  refine gr ?_
  have hr:=of_out0 hr
  refine S1.gw [1] ?_
  refine S.gw [1,2,5,7,10] ?_
  refine S.inl 2 [1,2,3,7] [] Tryz.func147 (by decide) rfl Tryz.ntmps147 (fun cx e=>drawn_ok ty_ok tb139_ok cx e) (some 18) rfl rfl rfl rfl (nL rfl) (nL rfl) ?_
  refine gs ?_
  refine gr ?_
  intro stop1 S1
  refine S1.gw [1] ?_
  refine S1.inl 2 [4] [] Tryz.func204 (by decide) rfl Tryz.ntmps204 (fun cx e=>drawn_ok ty_ok tb139_ok cx e) (some 7) rfl rfl rfl rfl (nL rfl) (nL rfl) ?_
  refine gs ?_
  refine gr ?_
  intro stop2 S2
  refine S2.gw [4] ?_
  refine S2.li [0,1,7,8] [(3,3)] [] (fun s2=>⟨[(0,.c (.d (encF 2 d_II x0))),(1,.c (.clo 196 [])),sI 7 (x0.length:Int),sI 8 s2],[(3,[iC x1,.d (encF 2 d_II x0),iC x2])],[]⟩) (b139_2 x1 x0 x2 a1 a2 s1) (fun q=>q=r) hr rfl ?_
  intro s2 hr
  unfold b139_2 at hr
  refine S2.gw [4] ?_
  refine iW1 hr (fun hc hr=> ?_) fun hc hr=> ?_
  ·refine S2.gx [] ?_
   obtain ⟨hg16,hr⟩:=of_guard1 hr
   obtain ⟨v2,hv2,hr⟩:=of_bind1 hr
   refine gb hv2 ?_
   refine gr ?_
   refine iW1 hr (fun hc hr=> ?_) fun hc hr=>D1 (S2.ss [0,1,7,8] [(3,3)] []) hr
   refine gr ?_
   have hr:=of_out0 hr
   refine S1.gw [1] ?_
   refine S.gx [1,2,5,7,10] ?_
   obtain ⟨v3,hv3,hr⟩:=of_bind0 hr
   obtain ⟨hg15,hr⟩:=of_guard0 hr
   obtain ⟨v4,hv4,hr⟩:=of_bind0 hr
   obtain ⟨v5,hv5,hr⟩:=of_bind0 hr
   obtain ⟨v6,hv6,hr⟩:=of_bind0 hr
   try simp only [hv3,hv4,hv5,hv6,Option.getD_some,Option.isSome_some,true_and,and_assoc]
   repeat (first | refine gG hg15 ?_ | refine gA ?_ | refine gB ?_)
   refine iW hr (fun hc hr=> ?_) fun hc hr=> ?_
   ·refine gr ?_
    refine S.prune [9] ?_
    refine S.gx [1,2,7,10] ?_
    exact D0 hr
   ·obtain ⟨hg13,hr⟩:=of_guard0 hr
    obtain ⟨hg14,hr⟩:=of_guard0 hr
    refine gr ?_
    refine S.prune [1,2,3,10] ?_
    refine S.gw [1,2,5,10] ?_
    refine iW hr (fun hc hr=> ?_) fun hc hr=> ?_
    ·obtain ⟨hg8,hr⟩:=of_guard0 hr
     obtain ⟨hg9,hr⟩:=of_guard0 hr
     obtain ⟨hg10,hr⟩:=of_guard0 hr
     obtain ⟨hg11,hr⟩:=of_guard0 hr
     repeat (first | refine gA ?_ | refine gB ?_)
     refine S.prune [10] ?_
     refine S.gx [1,2,5,7] ?_
     exact D0 hr
    ·refine gr ?_
     refine S.prune [10] ?_
     refine S.gx [1,2,5,7] ?_
     exact D0 hr
  ·refine gr ?_
   have hr:=of_out0 hr
   refine S1.gw [1] ?_
   refine S.gx [1,2,5,7,10] ?_
   obtain ⟨v17,hv17,hr⟩:=of_bind0 hr
   obtain ⟨hg29,hr⟩:=of_guard0 hr
   obtain ⟨v18,hv18,hr⟩:=of_bind0 hr
   obtain ⟨v19,hv19,hr⟩:=of_bind0 hr
   obtain ⟨v20,hv20,hr⟩:=of_bind0 hr
   try simp only [hv17,hv18,hv19,hv20,Option.getD_some,Option.isSome_some,true_and,and_assoc]
   repeat (first | refine gG hg29 ?_ | refine gA ?_ | refine gB ?_)
   refine iW hr (fun hc hr=> ?_) fun hc hr=> ?_
   ·refine gr ?_
    refine S.prune [9] ?_
    refine S.gx [1,2,7,10] ?_
    exact D0 hr
   ·obtain ⟨hg27,hr⟩:=of_guard0 hr
    obtain ⟨hg28,hr⟩:=of_guard0 hr
    refine gr ?_
    refine S.prune [1,2,3,10] ?_
    refine S.gw [1,2,5,10] ?_
    refine iW hr (fun hc hr=> ?_) fun hc hr=> ?_
    ·obtain ⟨hg22,hr⟩:=of_guard0 hr
     obtain ⟨hg23,hr⟩:=of_guard0 hr
     obtain ⟨hg24,hr⟩:=of_guard0 hr
     obtain ⟨hg25,hr⟩:=of_guard0 hr
     repeat (first | refine gA ?_ | refine gB ?_)
     refine S.prune [10] ?_
     refine S.gx [1,2,5,7] ?_
     exact D0 hr
    ·refine gr ?_
     refine S.prune [10] ?_
     refine S.gx [1,2,5,7] ?_
     exact D0 hr
 ·refine gr ?_
  have hr:=of_out0 hr
  refine S1.gw [1] ?_
  refine S.gw [1,2,5,7,10] ?_
  refine S.inl 2 [1,2,3,7] [] Tryz.func147 (by decide) rfl Tryz.ntmps147 (fun cx e=>drawn_ok ty_ok tb139_ok cx e) (some 18) rfl rfl rfl rfl (nL rfl) (nL rfl) ?_
  refine gs ?_
  refine gr ?_
  intro stop1 S1
  refine S1.gw [1] ?_
  refine S1.inl 2 [4] [] Tryz.func204 (by decide) rfl Tryz.ntmps204 (fun cx e=>drawn_ok ty_ok tb139_ok cx e) (some 7) rfl rfl rfl rfl (nL rfl) (nL rfl) ?_
  refine gs ?_
  refine gr ?_
  intro stop2 S2
  refine S2.gw [4] ?_
  refine S2.li [0,1,7,8] [(3,3)] [] (fun s3=>⟨[(0,.c (.d (encF 2 d_II x0))),(1,.c (.clo 196 [])),sI 7 (x0.length:Int),sI 8 s3],[(3,[iC x1,.d (encF 2 d_II x0),iC x2])],[]⟩) (b139_3 x1 x0 x2 a1 a2) (fun q=>q=r) hr rfl ?_
  intro s3 hr
  unfold b139_3 at hr
  refine S2.gw [4] ?_
  refine iW1 hr (fun hc hr=> ?_) fun hc hr=> ?_
  ·refine S2.gx [] ?_
   obtain ⟨hg45,hr⟩:=of_guard1 hr
   obtain ⟨v31,hv31,hr⟩:=of_bind1 hr
   refine gb hv31 ?_
   refine gr ?_
   refine iW1 hr (fun hc hr=> ?_) fun hc hr=>D1 (S2.ss [0,1,7,8] [(3,3)] []) hr
   refine gr ?_
   have hr:=of_out0 hr
   refine S1.gw [1] ?_
   refine S.gx [1,2,5,7,10] ?_
   obtain ⟨v32,hv32,hr⟩:=of_bind0 hr
   obtain ⟨hg44,hr⟩:=of_guard0 hr
   obtain ⟨v33,hv33,hr⟩:=of_bind0 hr
   obtain ⟨v34,hv34,hr⟩:=of_bind0 hr
   obtain ⟨v35,hv35,hr⟩:=of_bind0 hr
   try simp only [hv32,hv33,hv34,hv35,Option.getD_some,Option.isSome_some,true_and,and_assoc]
   repeat (first | refine gG hg44 ?_ | refine gA ?_ | refine gB ?_)
   refine iW hr (fun hc hr=> ?_) fun hc hr=> ?_
   ·refine gr ?_
    refine S.prune [9] ?_
    refine S.gx [1,2,7,10] ?_
    exact D0 hr
   ·obtain ⟨hg42,hr⟩:=of_guard0 hr
    obtain ⟨hg43,hr⟩:=of_guard0 hr
    refine gr ?_
    refine S.prune [1,2,3,10] ?_
    refine S.gw [1,2,5,10] ?_
    refine iW hr (fun hc hr=> ?_) fun hc hr=> ?_
    ·obtain ⟨hg37,hr⟩:=of_guard0 hr
     obtain ⟨hg38,hr⟩:=of_guard0 hr
     obtain ⟨hg39,hr⟩:=of_guard0 hr
     obtain ⟨hg40,hr⟩:=of_guard0 hr
     repeat (first | refine gA ?_ | refine gB ?_)
     refine S.prune [10] ?_
     refine S.gx [1,2,5,7] ?_
     exact D0 hr
    ·refine gr ?_
     refine S.prune [10] ?_
     refine S.gx [1,2,5,7] ?_
     exact D0 hr
  ·refine gr ?_
   have hr:=of_out0 hr
   refine S1.gw [1] ?_
   refine S.gx [1,2,5,7,10] ?_
   obtain ⟨v46,hv46,hr⟩:=of_bind0 hr
   obtain ⟨hg58,hr⟩:=of_guard0 hr
   obtain ⟨v47,hv47,hr⟩:=of_bind0 hr
   obtain ⟨v48,hv48,hr⟩:=of_bind0 hr
   obtain ⟨v49,hv49,hr⟩:=of_bind0 hr
   try simp only [hv46,hv47,hv48,hv49,Option.getD_some,Option.isSome_some,true_and,and_assoc]
   repeat (first | refine gG hg58 ?_ | refine gA ?_ | refine gB ?_)
   refine iW hr (fun hc hr=> ?_) fun hc hr=> ?_
   ·refine gr ?_
    refine S.prune [9] ?_
    refine S.gx [1,2,7,10] ?_
    exact D0 hr
   ·obtain ⟨hg56,hr⟩:=of_guard0 hr
    obtain ⟨hg57,hr⟩:=of_guard0 hr
    refine gr ?_
    refine S.prune [1,2,3,10] ?_
    refine S.gw [1,2,5,10] ?_
    refine iW hr (fun hc hr=> ?_) fun hc hr=> ?_
    ·obtain ⟨hg51,hr⟩:=of_guard0 hr
     obtain ⟨hg52,hr⟩:=of_guard0 hr
     obtain ⟨hg53,hr⟩:=of_guard0 hr
     obtain ⟨hg54,hr⟩:=of_guard0 hr
     repeat (first | refine gA ?_ | refine gB ?_)
     refine S.prune [10] ?_
     refine S.gx [1,2,5,7] ?_
     exact D0 hr
    ·refine gr ?_
     refine S.prune [10] ?_
     refine S.gx [1,2,5,7] ?_
     exact D0 hr
def r141 (a0:Int):Option (Bool):=
 (r142 a0 0 2000).bind fun v1=>
  some (!v1)
@[go_sem] def T141:=qT4 qu2 false r141
@[go_sem] def tb141 (k:Nat):=lk [(142,T142.sp)] k
theorem f141:FnFact Tryz.prog 141 T141.sp:=by
 refine vm (tb:=tb141) (.cons f142 .nil) Tryz.func141 Tryz.ntmps141 fun a0 r hr stop S=> ?_
 rw [uq1,r141] at hr
 refine S.gx [] ?_
 exact D0 hr
def b197c_1 (a0:L_I):Bd Int Int:=fun s1=>
 if (decide (s1<(a0.length:Int)))=true then
  if 0≤s1∧s1<(a0.length:Int) then
   bindC (r141 (a0.getD s1.toNat default)) fun v1=>
    if v1=true then
     .out (some s1)
     else .next (IntKind.i64.wrap (s1+1))
   else .out none
  else .out (some (-1))
def r197c (a0:L_I):Option (Int):=
 iterC (b197c_1 a0) 1000000000 0
@[go_sem] def T197c:=qT37 qu3 false r197c
@[go_sem] def tb197c (k:Nat):=lk [(141,T141.sp)] k
theorem f197c:FnFact Tryz.prog 197 T197c.sp:=by
 refine vm (tb:=tb197c) (.cons f141 .nil) Tryz.func197 Tryz.ntmps197 fun a0 r hr stop S=> ?_
 rw [uq1,r197c] at hr
 refine S.gx [] ?_
 refine gr ?_
 refine S.li [0,1,7,8] [] [] (fun s1=>⟨[(0,.c (.d (encF 1 d_I a0))),(1,.c (.clo 141 [])),sI 7 (a0.length:Int),sI 8 s1],[],[]⟩) (b197c_1 a0) (fun q=>q=r) hr rfl ?_
 intro s1 hr
 unfold b197c_1 at hr
 refine S.gx [] ?_
 exact D1 (S.ss [0,1,7,8] [] []) hr
def r140b (a0:L_I):Option (Bool):=
 (r197c a0).bind fun v1=>
  some (decide (v1≥0))
@[go_sem] def T140b:=qT37 qu2 false r140b
@[go_sem] def tb140b (k:Nat):=lk [(197,T197c.sp)] k
theorem f140b:FnFact Tryz.prog 140 T140b.sp:=by
 refine vm (tb:=tb140b) (.cons f197c .nil) Tryz.func140 Tryz.ntmps140 fun a0 r hr stop S=> ?_
 rw [uq1,r140b] at hr
 refine S.gx [] ?_
 exact D0 hr
end Go.Proofs.YtnepigpnlnmlmaaGreatDoor

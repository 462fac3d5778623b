/- Contracts of functions, written by wip/dec. -/
import Derived.Test.YtkbdjphdhcgmaaaGreatDoorF00
import Derived.Test.YtkbdjphdhcgmaaaGreatDoorF01
import Derived.Test.YtkbdjphdhcgmaaaGreatDoorF02
import Derived.Test.YtkbdjphdhcgmaaaGreatDoorF03
import Derived.Test.YtkbdjphdhcgmaaaGreatDoorF04
set_option linter.unusedVariables false
set_option linter.unusedSimpArgs false
set_option linter.constructorNameAsVariable false
set_option maxHeartbeats 4000000
set_option maxRecDepth 20000
namespace Go.Proofs.YtkbdjphdhcgmaaaGreatDoor
open Go.Abs
section
variable {β:Type} [Inhabited β] (u:β→List RV) (al:Bool)
def qw36 (a0:Int) (a1:L_II) (a2:Int) (a3:Option (Int×L_II×Int)) (a4:Int):List Arg:=[.agg [.int .i64 a0,encF 2 d_II a1,.int .i64 a2],.c (encP d_ILIIEI a3),.c (.int .i64 a4)]
def qd36:List Arg→Int×L_II×Int×(Option (Int×L_II×Int))×Int
 | [.agg [c0,c1,c2],.c c3,.c c4]=>(dInt c0,decF g_II c1,dInt c2,decP g_ILIIEI c3,dInt c4)
 | _=>default
def qT36 (r:Int→L_II→Int→(Option (Int×L_II×Int))→Int→Option β):=mkT (u5 qw36) qd36 (u5 r) u al
attribute [go_sem] qw36 qd36 qT36
def qw37 (a0:L_I):List Arg:=[.c (encF 1 d_I a0),.clo 165 []]
def qd37:List Arg→L_I
 | [.c c0,.clo _ []]=>decF g_I c0
 | _=>default
def qT37 (r:L_I→Option β):=mkT (u1 qw37) qd37 (u1 r) u al
attribute [go_sem] qw37 qd37 qT37
def qu17 (v:L_IIII×L_IIIII×L_III×L_II×Int×Int×Int×Int):List RV:=[.agg [.own (encF 4 d_IIII v.1),.own (encF 5 d_IIIII v.2.1),.own (encF 3 d_III v.2.2.1),.own (encF 2 d_II v.2.2.2.1),.d (.int .i64 v.2.2.2.2.1),.d (.int .i64 v.2.2.2.2.2.1),.d (.int .i64 v.2.2.2.2.2.2.1),.d (.int .i64 v.2.2.2.2.2.2.2)]]
attribute [go_sem] qu17
def qu18 (v:Int×Int×L_II×L_LIIE×L_I×L_I×L_II×Int×Int×L_IIII×L_IIIII×L_III×L_II×Int×Int×Int×Int×L_III×Int):List RV:=[.agg [.d (.int .i64 v.1),.d (.int .i64 v.2.1),.own (encF 2 d_II v.2.2.1),.own (encF 1 d_LIIE v.2.2.2.1),.own (encF 1 d_I v.2.2.2.2.1),.own (encF 1 d_I v.2.2.2.2.2.1),.own (encF 2 d_II v.2.2.2.2.2.2.1),.d (.int .i64 v.2.2.2.2.2.2.2.1),.d (.int .i64 v.2.2.2.2.2.2.2.2.1),.own (encF 4 d_IIII v.2.2.2.2.2.2.2.2.2.1),.own (encF 5 d_IIIII v.2.2.2.2.2.2.2.2.2.2.1),.own (encF 3 d_III v.2.2.2.2.2.2.2.2.2.2.2.1),.own (encF 2 d_II v.2.2.2.2.2.2.2.2.2.2.2.2.1),.d (.int .i64 v.2.2.2.2.2.2.2.2.2.2.2.2.2.1),.d (.int .i64 v.2.2.2.2.2.2.2.2.2.2.2.2.2.2.1),.d (.int .i64 v.2.2.2.2.2.2.2.2.2.2.2.2.2.2.2.1),.d (.int .i64 v.2.2.2.2.2.2.2.2.2.2.2.2.2.2.2.2.1),.own (encF 3 d_III v.2.2.2.2.2.2.2.2.2.2.2.2.2.2.2.2.2.1),.d (.int .i64 v.2.2.2.2.2.2.2.2.2.2.2.2.2.2.2.2.2.2)]]
attribute [go_sem] qu18
def qu19 (v:L_ILIIEI×L_ILIIEI×L_ILIIEI×L_ILIIEI):List RV:=[.agg [.own (encF 3 d_ILIIEI v.1),.own (encF 3 d_ILIIEI v.2.1),.own (encF 3 d_ILIIEI v.2.2.1),.own (encF 3 d_ILIIEI v.2.2.2)]]
attribute [go_sem] qu19
end
def b15_3 (v1:Int×Int×L_II×L_LIIE×L_I×L_I×L_II×Int×Int×Int) (v2:L_IIIIIH×Int) (s2:Int×L_I×(List (Int×Int))):Bd (Int×L_I×(List (Int×Int))) (Ctl (Int×L_I×(List (Int×Int))) (L_II×Int)):=fun s3=>
 if (((v2.1.getD s2.1.toNat default).1) == 3)=true then
  if 0≤0∧0<(s3.2.1.length:Int) then
   bindC (r88 v1.1 v1.2.1 v1.2.2.1 v1.2.2.2.1 v1.2.2.2.2.1 v1.2.2.2.2.2.1 v1.2.2.2.2.2.2.1 v1.2.2.2.2.2.2.2.1 v1.2.2.2.2.2.2.2.2.1 (s3.2.1.getD 0 default) ((v2.1.getD s2.1.toNat default).2.2.2.2.1)) fun v9=>
    bindC (r40 ((!(decide (v9<0))) || (decide (s3.1<((v2.1.getD s2.1.toNat default).2.2.2.1)))) 24) fun v10=>
     if ((v10 != 0) || (!(decide (v9<0))))=true then
      .out (some (if (v10 != 0)=true then
       .out (some ([],v10))
       else .next (IntKind.i64.wrap (s2.1+1),s3.2.1,s3.2.2)))
      else if ((s3.2.2.length:Int) == 200)=true then
       .out (some (.out (some ([],8))))
       else bindC (r86 v1.1 v1.2.1 v1.2.2.1 v1.2.2.2.1 v1.2.2.2.2.1 v1.2.2.2.2.2.1 v1.2.2.2.2.2.2.1 v1.2.2.2.2.2.2.2.1 v1.2.2.2.2.2.2.2.2.1 ((v2.1.getD s2.1.toNat default).2.1) ((v2.1.getD s2.1.toNat default).2.2.1) 102) fun v11=>
        bindC (r89 v1.1 v1.2.1 v1.2.2.1 v1.2.2.2.1 s3.2.1 v11.1 v11.2) fun v12=>
         if (v12.2 != 0)=true then
          if (v12.2 != 0)=true then
           .out (some (if (v12.2 != 0)=true then
            .out (some ([],v12.2))
            else .next (IntKind.i64.wrap (s2.1+1),s3.2.1,s3.2.2)))
           else .next (IntKind.i64.wrap (s3.1+1),s3.2.1,s3.2.2)
          else if (s3.2.2.length+1)*16≤140737488355328∧s3.2.2.length+1≤9223372036854775807 then
           .next (IntKind.i64.wrap (s3.1+1),v12.1,s3.2.2++[((v2.1.getD s2.1.toNat default).2.1,(v2.1.getD s2.1.toNat default).2.2.1)])
           else .out none
   else .out none
  else if (((v2.1.getD s2.1.toNat default).1) == 4)=true then
   if 0≤0∧0<(s3.2.1.length:Int) then
    bindC (r88 v1.1 v1.2.1 v1.2.2.1 v1.2.2.2.1 v1.2.2.2.2.1 v1.2.2.2.2.2.1 v1.2.2.2.2.2.2.1 v1.2.2.2.2.2.2.2.1 v1.2.2.2.2.2.2.2.2.1 (s3.2.1.getD 0 default) ((v2.1.getD s2.1.toNat default).2.2.2.2.1)) fun v15=>
     bindC (r40 ((!(decide (v15>0))) || (decide (s3.1<((v2.1.getD s2.1.toNat default).2.2.2.1)))) 24) fun v16=>
      if ((v16 != 0) || (!(decide (v15>0))))=true then
       .out (some (if (v16 != 0)=true then
        .out (some ([],v16))
        else .next (IntKind.i64.wrap (s2.1+1),s3.2.1,s3.2.2)))
       else if ((s3.2.2.length:Int) == 200)=true then
        .out (some (.out (some ([],8))))
        else bindC (r86 v1.1 v1.2.1 v1.2.2.1 v1.2.2.2.1 v1.2.2.2.2.1 v1.2.2.2.2.2.1 v1.2.2.2.2.2.2.1 v1.2.2.2.2.2.2.2.1 v1.2.2.2.2.2.2.2.2.1 ((v2.1.getD s2.1.toNat default).2.1) ((v2.1.getD s2.1.toNat default).2.2.1) 102) fun v17=>
         bindC (r89 v1.1 v1.2.1 v1.2.2.1 v1.2.2.2.1 s3.2.1 v17.1 v17.2) fun v18=>
          if (v18.2 != 0)=true then
           if (v18.2 != 0)=true then
            .out (some (if (v18.2 != 0)=true then
             .out (some ([],v18.2))
             else .next (IntKind.i64.wrap (s2.1+1),s3.2.1,s3.2.2)))
            else .next (IntKind.i64.wrap (s3.1+1),s3.2.1,s3.2.2)
           else if (s3.2.2.length+1)*16≤140737488355328∧s3.2.2.length+1≤9223372036854775807 then
            .next (IntKind.i64.wrap (s3.1+1),v18.1,s3.2.2++[((v2.1.getD s2.1.toNat default).2.1,(v2.1.getD s2.1.toNat default).2.2.1)])
            else .out none
    else .out none
   else bindC (r40 ((!(decide (s3.1<((v2.1.getD s2.1.toNat default).2.2.2.1)))) || (decide (s3.1<((v2.1.getD s2.1.toNat default).2.2.2.1)))) 24) fun v21=>
    if ((v21 != 0) || (!(decide (s3.1<((v2.1.getD s2.1.toNat default).2.2.2.1)))))=true then
     .out (some (if (v21 != 0)=true then
      .out (some ([],v21))
      else .next (IntKind.i64.wrap (s2.1+1),s3.2.1,s3.2.2)))
     else if ((s3.2.2.length:Int) == 200)=true then
      .out (some (.out (some ([],8))))
      else bindC (r86 v1.1 v1.2.1 v1.2.2.1 v1.2.2.2.1 v1.2.2.2.2.1 v1.2.2.2.2.2.1 v1.2.2.2.2.2.2.1 v1.2.2.2.2.2.2.2.1 v1.2.2.2.2.2.2.2.2.1 ((v2.1.getD s2.1.toNat default).2.1) ((v2.1.getD s2.1.toNat default).2.2.1) 102) fun v22=>
       bindC (r89 v1.1 v1.2.1 v1.2.2.1 v1.2.2.2.1 s3.2.1 v22.1 v22.2) fun v23=>
        if (v23.2 != 0)=true then
         if (v23.2 != 0)=true then
          .out (some (if (v23.2 != 0)=true then
           .out (some ([],v23.2))
           else .next (IntKind.i64.wrap (s2.1+1),s3.2.1,s3.2.2)))
          else .next (IntKind.i64.wrap (s3.1+1),s3.2.1,s3.2.2)
         else if (s3.2.2.length+1)*16≤140737488355328∧s3.2.2.length+1≤9223372036854775807 then
          .next (IntKind.i64.wrap (s3.1+1),v23.1,s3.2.2++[((v2.1.getD s2.1.toNat default).2.1,(v2.1.getD s2.1.toNat default).2.2.1)])
          else .out none
def b15_4 (v1:Int×Int×L_II×L_LIIE×L_I×L_I×L_II×Int×Int×Int) (v2:L_IIIIIH×Int) (s2:Int×L_I×(List (Int×Int))):Bd (Int×L_I×(List (Int×Int))) (Ctl (Int×L_I×(List (Int×Int))) (L_II×Int)):=fun s4=>
 if (((v2.1.getD s2.1.toNat default).1) == 3)=true then
  if 0≤0∧0<(s4.2.1.length:Int) then
   bindC (r88 v1.1 v1.2.1 v1.2.2.1 v1.2.2.2.1 v1.2.2.2.2.1 v1.2.2.2.2.2.1 v1.2.2.2.2.2.2.1 v1.2.2.2.2.2.2.2.1 v1.2.2.2.2.2.2.2.2.1 (s4.2.1.getD 0 default) ((v2.1.getD s2.1.toNat default).2.2.2.2.1)) fun v25=>
    bindC (r40 ((!(decide (v25<0))) || (decide (s4.1<((v2.1.getD s2.1.toNat default).2.2.2.1)))) 24) fun v26=>
     if ((v26 != 0) || (!(decide (v25<0))))=true then
      .out (some (if (v26 != 0)=true then
       .out (some ([],v26))
       else .next (IntKind.i64.wrap (s2.1+1),s4.2.1,s4.2.2)))
      else if ((s4.2.2.length:Int) == 200)=true then
       .out (some (.out (some ([],8))))
       else bindC (r86 v1.1 v1.2.1 v1.2.2.1 v1.2.2.2.1 v1.2.2.2.2.1 v1.2.2.2.2.2.1 v1.2.2.2.2.2.2.1 v1.2.2.2.2.2.2.2.1 v1.2.2.2.2.2.2.2.2.1 ((v2.1.getD s2.1.toNat default).2.1) v1.2.2.2.2.2.2.2.1 102) fun v27=>
        bindC (r89 v1.1 v1.2.1 v1.2.2.1 v1.2.2.2.1 s4.2.1 v27.1 v27.2) fun v28=>
         if (v28.2 != 0)=true then
          if (v28.2 != 0)=true then
           .out (some (if (v28.2 != 0)=true then
            .out (some ([],v28.2))
            else .next (IntKind.i64.wrap (s2.1+1),s4.2.1,s4.2.2)))
           else .next (IntKind.i64.wrap (s4.1+1),s4.2.1,s4.2.2)
          else if (s4.2.2.length+1)*16≤140737488355328∧s4.2.2.length+1≤9223372036854775807 then
           .next (IntKind.i64.wrap (s4.1+1),v28.1,s4.2.2++[((v2.1.getD s2.1.toNat default).2.1,v1.2.2.2.2.2.2.2.1)])
           else .out none
   else .out none
  else if (((v2.1.getD s2.1.toNat default).1) == 4)=true then
   if 0≤0∧0<(s4.2.1.length:Int) then
    bindC (r88 v1.1 v1.2.1 v1.2.2.1 v1.2.2.2.1 v1.2.2.2.2.1 v1.2.2.2.2.2.1 v1.2.2.2.2.2.2.1 v1.2.2.2.2.2.2.2.1 v1.2.2.2.2.2.2.2.2.1 (s4.2.1.getD 0 default) ((v2.1.getD s2.1.toNat default).2.2.2.2.1)) fun v31=>
     bindC (r40 ((!(decide (v31>0))) || (decide (s4.1<((v2.1.getD s2.1.toNat default).2.2.2.1)))) 24) fun v32=>
      if ((v32 != 0) || (!(decide (v31>0))))=true then
       .out (some (if (v32 != 0)=true then
        .out (some ([],v32))
        else .next (IntKind.i64.wrap (s2.1+1),s4.2.1,s4.2.2)))
       else if ((s4.2.2.length:Int) == 200)=true then
        .out (some (.out (some ([],8))))
        else bindC (r86 v1.1 v1.2.1 v1.2.2.1 v1.2.2.2.1 v1.2.2.2.2.1 v1.2.2.2.2.2.1 v1.2.2.2.2.2.2.1 v1.2.2.2.2.2.2.2.1 v1.2.2.2.2.2.2.2.2.1 ((v2.1.getD s2.1.toNat default).2.1) v1.2.2.2.2.2.2.2.1 102) fun v33=>
         bindC (r89 v1.1 v1.2.1 v1.2.2.1 v1.2.2.2.1 s4.2.1 v33.1 v33.2) fun v34=>
          if (v34.2 != 0)=true then
           if (v34.2 != 0)=true then
            .out (some (if (v34.2 != 0)=true then
             .out (some ([],v34.2))
             else .next (IntKind.i64.wrap (s2.1+1),s4.2.1,s4.2.2)))
            else .next (IntKind.i64.wrap (s4.1+1),s4.2.1,s4.2.2)
           else if (s4.2.2.length+1)*16≤140737488355328∧s4.2.2.length+1≤9223372036854775807 then
            .next (IntKind.i64.wrap (s4.1+1),v34.1,s4.2.2++[((v2.1.getD s2.1.toNat default).2.1,v1.2.2.2.2.2.2.2.1)])
            else .out none
    else .out none
   else bindC (r40 ((!(decide (s4.1<((v2.1.getD s2.1.toNat default).2.2.2.1)))) || (decide (s4.1<((v2.1.getD s2.1.toNat default).2.2.2.1)))) 24) fun v37=>
    if ((v37 != 0) || (!(decide (s4.1<((v2.1.getD s2.1.toNat default).2.2.2.1)))))=true then
     .out (some (if (v37 != 0)=true then
      .out (some ([],v37))
      else .next (IntKind.i64.wrap (s2.1+1),s4.2.1,s4.2.2)))
     else if ((s4.2.2.length:Int) == 200)=true then
      .out (some (.out (some ([],8))))
      else bindC (r86 v1.1 v1.2.1 v1.2.2.1 v1.2.2.2.1 v1.2.2.2.2.1 v1.2.2.2.2.2.1 v1.2.2.2.2.2.2.1 v1.2.2.2.2.2.2.2.1 v1.2.2.2.2.2.2.2.2.1 ((v2.1.getD s2.1.toNat default).2.1) v1.2.2.2.2.2.2.2.1 102) fun v38=>
       bindC (r89 v1.1 v1.2.1 v1.2.2.1 v1.2.2.2.1 s4.2.1 v38.1 v38.2) fun v39=>
        if (v39.2 != 0)=true then
         if (v39.2 != 0)=true then
          .out (some (if (v39.2 != 0)=true then
           .out (some ([],v39.2))
           else .next (IntKind.i64.wrap (s2.1+1),s4.2.1,s4.2.2)))
          else .next (IntKind.i64.wrap (s4.1+1),s4.2.1,s4.2.2)
         else if (s4.2.2.length+1)*16≤140737488355328∧s4.2.2.length+1≤9223372036854775807 then
          .next (IntKind.i64.wrap (s4.1+1),v39.1,s4.2.2++[((v2.1.getD s2.1.toNat default).2.1,v1.2.2.2.2.2.2.2.1)])
          else .out none
def b15_2 (v1:Int×Int×L_II×L_LIIE×L_I×L_I×L_II×Int×Int×Int) (v2:L_IIIIIH×Int):Bd (Int×L_I×(List (Int×Int))) (L_II×Int):=fun s2=>
 if (decide (s2.1<(v2.1.length:Int)))=true then
  if 0≤s2.1∧s2.1<(v2.1.length:Int) then
   bindC (r41 ((v2.1.getD s2.1.toNat default).1)) fun v8=>
    if v8=true then
     (iterC (b15_3 v1 v2 s2) 1000000000 (0,s2.2.1,s2.2.2)).getD (.out none)
     else (iterC (b15_4 v1 v2 s2) 1000000000 (0,s2.2.1,s2.2.2)).getD (.out none)
   else .out none
  else .out (some (s2.2.2,0))
def b15_1 (v1:Int×Int×L_II×L_LIIE×L_I×L_I×L_II×Int×Int×Int) (v2:L_IIIIIH×Int):Bd (Int×Int) (L_II×Int):=fun s1=>
 if (decide (s1.2<(v2.1.length:Int)))=true then
  if 0≤s1.2∧s1.2<(v2.1.length:Int) then
   bindC (r47 v1.1 v1.2.1 v1.2.2.1 v1.2.2.2.1 v1.2.2.2.2.1 v1.2.2.2.2.2.1 v1.2.2.2.2.2.2.1 v1.2.2.2.2.2.2.2.1 v1.2.2.2.2.2.2.2.2.1) fun v3=>
    bindC (r46 ((v2.1.getD s1.2.toNat default).2.2.1) 0 v3) fun v4=>
     bindC (r40 v4 6) fun v5=>
      bindC (r39 [s1.1,v5]) fun v6=>
       .next (v6,IntKind.i64.wrap (s1.2+1))
   else .out none
  else .out (if (s1.1 != 0)=true then
   some ([],s1.1)
   else iterC (b15_2 v1 v2) 1000000000 (0,v1.2.2.2.2.1,[]))
def r15 (x0 x1:Int) (x2:L_II) (x3:L_LIIE) (x4 x5:L_I) (x6:L_II) (x7 x8:Int) (a1:L_IIIIIH):Option (L_II×Int):=
 (r45 x0 x1 x2 x3 x4 x5 x6 x7 x8).bind fun v1=>
  if (v1.2.2.2.2.2.2.2.2.2 != 0)=true then
   some ([],v1.2.2.2.2.2.2.2.2.2)
   else (r10 a1).bind fun v2=>
    iterC (b15_1 v1 v2) 1000000000 (v2.2,0)
@[go_sem] def T15:=qT34 qu16 false r15
@[go_sem] def tb15 (k:Nat):=lk [(10,T10.sp),(39,T39.sp),(40,T40.sp),(41,T41.sp),(45,T45.sp),(46,T46.sp),(47,T47.sp),(86,T86.sp),(88,T88.sp),(89,T89.sp)] k
theorem tb15_ok:FnsOk Tryz.prog tb15:= .cons f10 (.cons f39 (.cons f40 (.cons f41 (.cons f45 (.cons f46 (.cons f47 (.cons f86 (.cons f88 (.cons f89 .nil)))))))))
theorem f15:FnFact Tryz.prog 15 T15.sp:=by
 refine vm (tb:=tb15) (.cons f10 (.cons f39 (.cons f40 (.cons f41 (.cons f45 (.cons f46 (.cons f47 (.cons f86 (.cons f88 (.cons f89 .nil)))))))))) Tryz.func15 Tryz.ntmps15 fun ⟨x0,x1,x2,x3,x4,x5,x6,x7,x8,a1⟩ r hr stop S=> ?_
 rw [uq10,r15] at hr
 refine S.gx [12,16] ?_
 obtain ⟨v1,hv1,hr⟩:=of_bind0 hr
 refine gb hv1 ?_
 refine iW hr (fun hc hr=>D0 hr) fun hc hr=> ?_
 obtain ⟨v2,hv2,hr⟩:=of_bind0 hr
 refine gb hv2 ?_
 refine S.sees [6,7,8,28,29,30] [(6,6)] [(25,25)] ?_ (Stop.iter S (fun s1=>⟨[(6,.c (.ref 6 0)),(7,.c (.d (.int .i64 s1.1))),(8,.c (.own 25)),(28,.c (.own 25)),(29,.c (.d (.int .i64 (v2.1.length:Int)))),(30,.c (.d (.int .i64 s1.2)))],[(6,[.d (.int .i64 v1.1),.d (.int .i64 v1.2.1),.d (encF 2 d_II v1.2.2.1),.d (encF 1 d_LIIE v1.2.2.2.1),.d (encF 1 d_I v1.2.2.2.2.1),.d (encF 1 d_I v1.2.2.2.2.2.1),.d (encF 2 d_II v1.2.2.2.2.2.2.1),.d (.int .i64 v1.2.2.2.2.2.2.2.1),.d (.int .i64 v1.2.2.2.2.2.2.2.2.1)])],[(25,.owned (encF 6 d_IIIIIH v2.1))]⟩) (b15_1 v1 v2) (fun q=>q=r) hr rfl ?_)
 ·exact lf
 ·intro s1 hr
  unfold b15_1 at hr
  refine S.gx [12,16] ?_
  refine gr ?_
  refine iW1 hr (fun hc hr=>D1 (S.ss [6,7,8,28,29,30] [(6,6)] [(25,25)]) hr) fun hc hr=> ?_
  refine gr ?_
  have hr:=of_out0 hr
  refine gr ?_
  refine iW hr (fun hc hr=>D0 hr) fun hc hr=> ?_
  refine gr ?_
  refine S.inl 1 [8] [] Tryz.func48 (by decide) rfl Tryz.ntmps48 (fun cx e=>drawn_ok ty_ok tb15_ok cx e) (some 48) rfl rfl rfl rfl (nL rfl) (nL rfl) ?_
  refine gs ?_
  refine gr ?_
  intro stop1 S1
  refine S1.gx [] ?_
  refine gr ?_
  refine gr ?_
  refine S.gx [12,16] ?_
  refine gr ?_
  refine S.own0b 9 10 2000910 2 rfl rfl (nL rfl) rfl ?_
  refine S.sees [11,49,50,51] [(9,9)] [(2000910,2000910),(25,25)] ?_ (Stop.iter S (fun s2=>⟨[(11,.c (.ref 9 0)),(49,.c (.own 25)),(50,.c (.d (.int .i64 (v2.1.length:Int)))),(51,.c (.d (.int .i64 s2.1)))],[(9,[.d (.int .i64 v1.1),.d (.int .i64 v1.2.1),.d (encF 2 d_II v1.2.2.1),.d (encF 1 d_LIIE v1.2.2.2.1),.d (encF 1 d_I v1.2.2.2.2.1),.d (encF 1 d_I v1.2.2.2.2.2.1),.d (encF 2 d_II v1.2.2.2.2.2.2.1),.d (.int .i64 v1.2.2.2.2.2.2.2.1),.d (.int .i64 v1.2.2.2.2.2.2.2.2.1),.d (encF 1 d_I s2.2.1),.own 2000910])],[(2000910,.owned (encF 2 d_II s2.2.2)),(25,.owned (encF 6 d_IIIIIH v2.1))]⟩) (b15_2 v1 v2) (fun q=>q=r) hr rfl ?_)
  ·exact lf
  ·intro s2 hr
   unfold b15_2 at hr
   refine S.gx [12,16] ?_
   refine gr ?_
   refine iW1 hr (fun hc hr=> ?_) fun hc hr=>D0 hr
   obtain ⟨hg41,hr⟩:=of_guard1 hr
   refine gr ?_
   refine S.inl 2 [11,49,50,51] [] Tryz.func49 (by decide) rfl Tryz.ntmps49 (fun cx e=>drawn_ok ty_ok tb15_ok cx e) (some 57) rfl rfl rfl rfl (nL rfl) (nL rfl) ?_
   refine gs ?_
   refine gr ?_
   intro stop1 S1
   refine S1.gx [6,9] ?_
   obtain ⟨v8,hv8,hr⟩:=of_bind1 hr
   refine gb hv8 ?_
   refine iW1 hr (fun hc hr=> ?_) fun hc hr=> ?_
   ·refine gr ?_
    obtain ⟨q3,hq,hr⟩:=of_iter1 hr
    refine S1.sees [0,3,5,6] [(9,9),(3,3),(5,5)] [(25,25),(2000910,2000910)] ?_ (Stop.iter S1 (fun s3=>⟨[(0,.c (.ref 9 0)),(3,.c (.ref 3 0)),(5,.c (.ref 5 0)),(6,.c (.d (.int .i64 s3.1)))],[(9,[.d (.int .i64 v1.1),.d (.int .i64 v1.2.1),.d (encF 2 d_II v1.2.2.1),.d (encF 1 d_LIIE v1.2.2.2.1),.d (encF 1 d_I v1.2.2.2.2.1),.d (encF 1 d_I v1.2.2.2.2.2.1),.d (encF 2 d_II v1.2.2.2.2.2.2.1),.d (.int .i64 v1.2.2.2.2.2.2.2.1),.d (.int .i64 v1.2.2.2.2.2.2.2.2.1),.d (encF 1 d_I s3.2.1),.own 2000910]),(3,[.d (.int .i64 ((v2.1.getD s2.1.toNat default).1)),.d (.int .i64 ((v2.1.getD s2.1.toNat default).2.1)),.d (.int .i64 ((v2.1.getD s2.1.toNat default).2.2.1)),.d (.int .i64 ((v2.1.getD s2.1.toNat default).2.2.2.1)),.d (.int .i64 ((v2.1.getD s2.1.toNat default).2.2.2.2.1)),.d (hE ((v2.1.getD s2.1.toNat default).2.2.2.2.2))]),(5,[.d (.int .i64 ((v2.1.getD s2.1.toNat default).2.1)),.d (.int .i64 ((v2.1.getD s2.1.toNat default).2.2.1))])],[(25,.owned (encF 6 d_IIIIIH v2.1)),(2000910,.owned (encF 2 d_II s3.2.2))]⟩) (b15_3 v1 v2 s2) _ hq hr ?_)
    ·exact lf
    ·intro s3 hr
     unfold b15_3 at hr
     refine S1.gx [6,9] ?_
     refine gr ?_
     refine S1.inl 3 [0,3,5,6] [] Tryz.func72 (by decide) rfl Tryz.ntmps72 (fun cx e=>drawn_ok ty_ok tb15_ok cx e) (some 31) rfl rfl rfl rfl (nL rfl) (nL rfl) ?_
     refine gs ?_
     refine gr ?_
     intro stop2 S2
     refine S2.gx [] ?_
     refine gr ?_
     refine iW1 hr (fun hc hr=> ?_) fun hc hr=> ?_
     ·obtain ⟨hg14,hr⟩:=of_guard1 hr
      obtain ⟨v9,hv9,hr⟩:=of_bind1 hr
      obtain ⟨v10,hv10,hr⟩:=of_bind1 hr
      try simp only [hv9,hv10,Option.getD_some,Option.isSome_some,true_and,and_assoc]
      repeat (first | refine gA ?_ | refine gB ?_)
      refine gr ?_
      refine S1.gx [6,9] ?_
      repeat (first | refine gA ?_ | refine gB ?_)
      refine iW1 hr (fun hc hr=> ?_) fun hc hr=> ?_
      ·refine gr ?_
       replace hr:=goodC_out hr
       refine gr ?_
       refine S.gx [12,16] ?_
       exact D1 (S.ss [11,49,50,51] [(9,9)] [(2000910,2000910),(25,25)]) hr
      ·refine gr ?_
       refine S1.inl 2 [0,3,5,6] [] Tryz.func73 (by decide) rfl Tryz.ntmps73 (fun cx e=>drawn_ok ty_ok tb15_ok cx e) (some 43) rfl rfl rfl rfl (nL rfl) (nL rfl) ?_
       refine gs ?_
       refine gr ?_
       intro stop2 S2
       refine S2.gx [4] ?_
       refine gr ?_
       refine iW1 hr (fun hc hr=> ?_) fun hc hr=> ?_
       ·refine gr ?_
        refine gr ?_
        refine S1.gx [6,9] ?_
        refine gr ?_
        replace hr:=goodC_out hr
        refine gr ?_
        refine S.gx [12,16] ?_
        exact D0 hr
       ·obtain ⟨v11,hv11,hr⟩:=of_bind1 hr
        obtain ⟨v12,hv12,hr⟩:=of_bind1 hr
        refine gb hv11 ?_
        refine gb hv12 ?_
        refine S2.prune [0,4,7,8] ?_
        refine S2.gx [] ?_
        refine gr ?_
        refine gr ?_
        refine iW1 hr (fun hc hr=> ?_) fun hc hr=> ?_
        ·refine gr ?_
         refine gr ?_
         refine S1.gx [6,9] ?_
         refine gr ?_
         refine iW1 hr (fun hc hr=> ?_) fun hc hr=>D1 (S1.ss [0,3,5,6] [(9,9),(3,3),(5,5)] [(25,25),(2000910,2000910)]) hr
         refine gr ?_
         replace hr:=goodC_out hr
         refine gr ?_
         refine S.gx [12,16] ?_
         exact D1 (S.ss [11,49,50,51] [(9,9)] [(2000910,2000910),(25,25)]) hr
        ·obtain ⟨hg13,hr⟩:=of_guard1 hr
         refine gr ?_
         refine gr ?_
         refine S1.gx [6,9] ?_
         refine gr ?_
         refine S1.share 33 rfl ?_
         exact D1 (S1.ss [0,3,5,6] [(9,9),(3,3),(5,5)] [(25,25),(48,2000910)]) hr
     ·refine gr ?_
      refine iW1 hr (fun hc hr=> ?_) fun hc hr=> ?_
      ·obtain ⟨hg20,hr⟩:=of_guard1 hr
       obtain ⟨v15,hv15,hr⟩:=of_bind1 hr
       obtain ⟨v16,hv16,hr⟩:=of_bind1 hr
       try simp only [hv15,hv16,Option.getD_some,Option.isSome_some,true_and,and_assoc]
       repeat (first | refine gA ?_ | refine gB ?_)
       refine gr ?_
       refine S1.gx [6,9] ?_
       repeat (first | refine gA ?_ | refine gB ?_)
       refine iW1 hr (fun hc hr=> ?_) fun hc hr=> ?_
       ·refine gr ?_
        replace hr:=goodC_out hr
        refine gr ?_
        refine S.gx [12,16] ?_
        exact D1 (S.ss [11,49,50,51] [(9,9)] [(2000910,2000910),(25,25)]) hr
       ·refine gr ?_
        refine S1.inl 2 [0,3,5,6] [] Tryz.func73 (by decide) rfl Tryz.ntmps73 (fun cx e=>drawn_ok ty_ok tb15_ok cx e) (some 43) rfl rfl rfl rfl (nL rfl) (nL rfl) ?_
        refine gs ?_
        refine gr ?_
        intro stop2 S2
        refine S2.gx [4] ?_
        refine gr ?_
        refine iW1 hr (fun hc hr=> ?_) fun hc hr=> ?_
        ·refine gr ?_
         refine gr ?_
         refine S1.gx [6,9] ?_
         refine gr ?_
         replace hr:=goodC_out hr
         refine gr ?_
         refine S.gx [12,16] ?_
         exact D0 hr
        ·obtain ⟨v17,hv17,hr⟩:=of_bind1 hr
         obtain ⟨v18,hv18,hr⟩:=of_bind1 hr
         refine gb hv17 ?_
         refine gb hv18 ?_
         refine S2.prune [0,4,7,8] ?_
         refine S2.gx [] ?_
         refine gr ?_
         refine gr ?_
         refine iW1 hr (fun hc hr=> ?_) fun hc hr=> ?_
         ·refine gr ?_
          refine gr ?_
          refine S1.gx [6,9] ?_
          refine gr ?_
          refine iW1 hr (fun hc hr=> ?_) fun hc hr=>D1 (S1.ss [0,3,5,6] [(9,9),(3,3),(5,5)] [(25,25),(2000910,2000910)]) hr
          refine gr ?_
          replace hr:=goodC_out hr
          refine gr ?_
          refine S.gx [12,16] ?_
          exact D1 (S.ss [11,49,50,51] [(9,9)] [(2000910,2000910),(25,25)]) hr
         ·obtain ⟨hg19,hr⟩:=of_guard1 hr
          refine gr ?_
          refine gr ?_
          refine S1.gx [6,9] ?_
          refine gr ?_
          refine S1.share 33 rfl ?_
          exact D1 (S1.ss [0,3,5,6] [(9,9),(3,3),(5,5)] [(25,25),(48,2000910)]) hr
      ·obtain ⟨v21,hv21,hr⟩:=of_bind1 hr
       try simp only [hv21,oG,oI,true_and,and_assoc]
       repeat (first | refine gA ?_ | refine gB ?_)
       refine gr ?_
       refine S1.gx [6,9] ?_
       repeat (first | refine gA ?_ | refine gB ?_)
       refine iW1 hr (fun hc hr=> ?_) fun hc hr=> ?_
       ·refine gr ?_
        replace hr:=goodC_out hr
        refine gr ?_
        refine S.gx [12,16] ?_
        exact D1 (S.ss [11,49,50,51] [(9,9)] [(2000910,2000910),(25,25)]) hr
       ·refine gr ?_
        refine S1.inl 2 [0,3,5,6] [] Tryz.func73 (by decide) rfl Tryz.ntmps73 (fun cx e=>drawn_ok ty_ok tb15_ok cx e) (some 43) rfl rfl rfl rfl (nL rfl) (nL rfl) ?_
        refine gs ?_
        refine gr ?_
        intro stop2 S2
        refine S2.gx [4] ?_
        refine gr ?_
        refine iW1 hr (fun hc hr=> ?_) fun hc hr=> ?_
        ·refine gr ?_
         refine gr ?_
         refine S1.gx [6,9] ?_
         refine gr ?_
         replace hr:=goodC_out hr
         refine gr ?_
         refine S.gx [12,16] ?_
         exact D0 hr
        ·obtain ⟨v22,hv22,hr⟩:=of_bind1 hr
         obtain ⟨v23,hv23,hr⟩:=of_bind1 hr
         refine gb hv22 ?_
         refine gb hv23 ?_
         refine S2.prune [0,4,7,8] ?_
         refine S2.gx [] ?_
         refine gr ?_
         refine gr ?_
         refine iW1 hr (fun hc hr=> ?_) fun hc hr=> ?_
         ·refine gr ?_
          refine gr ?_
          refine S1.gx [6,9] ?_
          refine gr ?_
          refine iW1 hr (fun hc hr=> ?_) fun hc hr=>D1 (S1.ss [0,3,5,6] [(9,9),(3,3),(5,5)] [(25,25),(2000910,2000910)]) hr
          refine gr ?_
          replace hr:=goodC_out hr
          refine gr ?_
          refine S.gx [12,16] ?_
          exact D1 (S.ss [11,49,50,51] [(9,9)] [(2000910,2000910),(25,25)]) hr
         ·obtain ⟨hg24,hr⟩:=of_guard1 hr
          refine gr ?_
          refine gr ?_
          refine S1.gx [6,9] ?_
          refine gr ?_
          refine S1.share 33 rfl ?_
          exact D1 (S1.ss [0,3,5,6] [(9,9),(3,3),(5,5)] [(25,25),(48,2000910)]) hr
   ·refine gr ?_
    obtain ⟨q4,hq,hr⟩:=of_iter1 hr
    refine S1.sees [0,3,5,6] [(9,9),(3,3),(5,5)] [(25,25),(2000910,2000910)] ?_ (Stop.iter S1 (fun s4=>⟨[(0,.c (.ref 9 0)),(3,.c (.ref 3 0)),(5,.c (.ref 5 0)),(6,.c (.d (.int .i64 s4.1)))],[(9,[.d (.int .i64 v1.1),.d (.int .i64 v1.2.1),.d (encF 2 d_II v1.2.2.1),.d (encF 1 d_LIIE v1.2.2.2.1),.d (encF 1 d_I v1.2.2.2.2.1),.d (encF 1 d_I v1.2.2.2.2.2.1),.d (encF 2 d_II v1.2.2.2.2.2.2.1),.d (.int .i64 v1.2.2.2.2.2.2.2.1),.d (.int .i64 v1.2.2.2.2.2.2.2.2.1),.d (encF 1 d_I s4.2.1),.own 2000910]),(3,[.d (.int .i64 ((v2.1.getD s2.1.toNat default).1)),.d (.int .i64 ((v2.1.getD s2.1.toNat default).2.1)),.d (.int .i64 ((v2.1.getD s2.1.toNat default).2.2.1)),.d (.int .i64 ((v2.1.getD s2.1.toNat default).2.2.2.1)),.d (.int .i64 ((v2.1.getD s2.1.toNat default).2.2.2.2.1)),.d (hE ((v2.1.getD s2.1.toNat default).2.2.2.2.2))]),(5,[.d (.int .i64 ((v2.1.getD s2.1.toNat default).2.1)),.d (.int .i64 v1.2.2.2.2.2.2.2.1)])],[(25,.owned (encF 6 d_IIIIIH v2.1)),(2000910,.owned (encF 2 d_II s4.2.2))]⟩) (b15_4 v1 v2 s2) _ hq hr ?_)
    ·exact lf
    ·intro s4 hr
     unfold b15_4 at hr
     refine S1.gx [6,9] ?_
     refine gr ?_
     refine S1.inl 3 [0,3,5,6] [] Tryz.func72 (by decide) rfl Tryz.ntmps72 (fun cx e=>drawn_ok ty_ok tb15_ok cx e) (some 31) rfl rfl rfl rfl (nL rfl) (nL rfl) ?_
     refine gs ?_
     refine gr ?_
     intro stop2 S2
     refine S2.gx [] ?_
     refine gr ?_
     refine iW1 hr (fun hc hr=> ?_) fun hc hr=> ?_
     ·obtain ⟨hg30,hr⟩:=of_guard1 hr
      obtain ⟨v25,hv25,hr⟩:=of_bind1 hr
      obtain ⟨v26,hv26,hr⟩:=of_bind1 hr
      try simp only [hv25,hv26,Option.getD_some,Option.isSome_some,true_and,and_assoc]
      repeat (first | refine gA ?_ | refine gB ?_)
      refine gr ?_
      refine S1.gx [6,9] ?_
      repeat (first | refine gA ?_ | refine gB ?_)
      refine iW1 hr (fun hc hr=> ?_) fun hc hr=> ?_
      ·refine gr ?_
       replace hr:=goodC_out hr
       refine gr ?_
       refine S.gx [12,16] ?_
       exact D1 (S.ss [11,49,50,51] [(9,9)] [(2000910,2000910),(25,25)]) hr
      ·refine gr ?_
       refine S1.inl 2 [0,3,5,6] [] Tryz.func73 (by decide) rfl Tryz.ntmps73 (fun cx e=>drawn_ok ty_ok tb15_ok cx e) (some 43) rfl rfl rfl rfl (nL rfl) (nL rfl) ?_
       refine gs ?_
       refine gr ?_
       intro stop2 S2
       refine S2.gx [4] ?_
       refine gr ?_
       refine iW1 hr (fun hc hr=> ?_) fun hc hr=> ?_
       ·refine gr ?_
        refine gr ?_
        refine S1.gx [6,9] ?_
        refine gr ?_
        replace hr:=goodC_out hr
        refine gr ?_
        refine S.gx [12,16] ?_
        exact D0 hr
       ·obtain ⟨v27,hv27,hr⟩:=of_bind1 hr
        obtain ⟨v28,hv28,hr⟩:=of_bind1 hr
        refine gb hv27 ?_
        refine gb hv28 ?_
        refine S2.prune [0,4,7,8] ?_
        refine S2.gx [] ?_
        refine gr ?_
        refine gr ?_
        refine iW1 hr (fun hc hr=> ?_) fun hc hr=> ?_
        ·refine gr ?_
         refine gr ?_
         refine S1.gx [6,9] ?_
         refine gr ?_
         refine iW1 hr (fun hc hr=> ?_) fun hc hr=>D1 (S1.ss [0,3,5,6] [(9,9),(3,3),(5,5)] [(25,25),(2000910,2000910)]) hr
         refine gr ?_
         replace hr:=goodC_out hr
         refine gr ?_
         refine S.gx [12,16] ?_
         exact D1 (S.ss [11,49,50,51] [(9,9)] [(2000910,2000910),(25,25)]) hr
        ·obtain ⟨hg29,hr⟩:=of_guard1 hr
         refine gr ?_
         refine gr ?_
         refine S1.gx [6,9] ?_
         refine gr ?_
         refine S1.share 33 rfl ?_
         exact D1 (S1.ss [0,3,5,6] [(9,9),(3,3),(5,5)] [(25,25),(48,2000910)]) hr
     ·refine gr ?_
      refine iW1 hr (fun hc hr=> ?_) fun hc hr=> ?_
      ·obtain ⟨hg36,hr⟩:=of_guard1 hr
       obtain ⟨v31,hv31,hr⟩:=of_bind1 hr
       obtain ⟨v32,hv32,hr⟩:=of_bind1 hr
       try simp only [hv31,hv32,Option.getD_some,Option.isSome_some,true_and,and_assoc]
       repeat (first | refine gA ?_ | refine gB ?_)
       refine gr ?_
       refine S1.gx [6,9] ?_
       repeat (first | refine gA ?_ | refine gB ?_)
       refine iW1 hr (fun hc hr=> ?_) fun hc hr=> ?_
       ·refine gr ?_
        replace hr:=goodC_out hr
        refine gr ?_
        refine S.gx [12,16] ?_
        exact D1 (S.ss [11,49,50,51] [(9,9)] [(2000910,2000910),(25,25)]) hr
       ·refine gr ?_
        refine S1.inl 2 [0,3,5,6] [] Tryz.func73 (by decide) rfl Tryz.ntmps73 (fun cx e=>drawn_ok ty_ok tb15_ok cx e) (some 43) rfl rfl rfl rfl (nL rfl) (nL rfl) ?_
        refine gs ?_
        refine gr ?_
        intro stop2 S2
        refine S2.gx [4] ?_
        refine gr ?_
        refine iW1 hr (fun hc hr=> ?_) fun hc hr=> ?_
        ·refine gr ?_
         refine gr ?_
         refine S1.gx [6,9] ?_
         refine gr ?_
         replace hr:=goodC_out hr
         refine gr ?_
         refine S.gx [12,16] ?_
         exact D0 hr
        ·obtain ⟨v33,hv33,hr⟩:=of_bind1 hr
         obtain ⟨v34,hv34,hr⟩:=of_bind1 hr
         refine gb hv33 ?_
         refine gb hv34 ?_
         refine S2.prune [0,4,7,8] ?_
         refine S2.gx [] ?_
         refine gr ?_
         refine gr ?_
         refine iW1 hr (fun hc hr=> ?_) fun hc hr=> ?_
         ·refine gr ?_
          refine gr ?_
          refine S1.gx [6,9] ?_
          refine gr ?_
          refine iW1 hr (fun hc hr=> ?_) fun hc hr=>D1 (S1.ss [0,3,5,6] [(9,9),(3,3),(5,5)] [(25,25),(2000910,2000910)]) hr
          refine gr ?_
          replace hr:=goodC_out hr
          refine gr ?_
          refine S.gx [12,16] ?_
          exact D1 (S.ss [11,49,50,51] [(9,9)] [(2000910,2000910),(25,25)]) hr
         ·obtain ⟨hg35,hr⟩:=of_guard1 hr
          refine gr ?_
          refine gr ?_
          refine S1.gx [6,9] ?_
          refine gr ?_
          refine S1.share 33 rfl ?_
          exact D1 (S1.ss [0,3,5,6] [(9,9),(3,3),(5,5)] [(25,25),(48,2000910)]) hr
      ·obtain ⟨v37,hv37,hr⟩:=of_bind1 hr
       try simp only [hv37,oG,oI,true_and,and_assoc]
       repeat (first | refine gA ?_ | refine gB ?_)
       refine gr ?_
       refine S1.gx [6,9] ?_
       repeat (first | refine gA ?_ | refine gB ?_)
       refine iW1 hr (fun hc hr=> ?_) fun hc hr=> ?_
       ·refine gr ?_
        replace hr:=goodC_out hr
        refine gr ?_
        refine S.gx [12,16] ?_
        exact D1 (S.ss [11,49,50,51] [(9,9)] [(2000910,2000910),(25,25)]) hr
       ·refine gr ?_
        refine S1.inl 2 [0,3,5,6] [] Tryz.func73 (by decide) rfl Tryz.ntmps73 (fun cx e=>drawn_ok ty_ok tb15_ok cx e) (some 43) rfl rfl rfl rfl (nL rfl) (nL rfl) ?_
        refine gs ?_
        refine gr ?_
        intro stop2 S2
        refine S2.gx [4] ?_
        refine gr ?_
        refine iW1 hr (fun hc hr=> ?_) fun hc hr=> ?_
        ·refine gr ?_
         refine gr ?_
         refine S1.gx [6,9] ?_
         refine gr ?_
         replace hr:=goodC_out hr
         refine gr ?_
         refine S.gx [12,16] ?_
         exact D0 hr
        ·obtain ⟨v38,hv38,hr⟩:=of_bind1 hr
         obtain ⟨v39,hv39,hr⟩:=of_bind1 hr
         refine gb hv38 ?_
         refine gb hv39 ?_
         refine S2.prune [0,4,7,8] ?_
         refine S2.gx [] ?_
         refine gr ?_
         refine gr ?_
         refine iW1 hr (fun hc hr=> ?_) fun hc hr=> ?_
         ·refine gr ?_
          refine gr ?_
          refine S1.gx [6,9] ?_
          refine gr ?_
          refine iW1 hr (fun hc hr=> ?_) fun hc hr=>D1 (S1.ss [0,3,5,6] [(9,9),(3,3),(5,5)] [(25,25),(2000910,2000910)]) hr
          refine gr ?_
          replace hr:=goodC_out hr
          refine gr ?_
          refine S.gx [12,16] ?_
          exact D1 (S.ss [11,49,50,51] [(9,9)] [(2000910,2000910),(25,25)]) hr
         ·obtain ⟨hg40,hr⟩:=of_guard1 hr
          refine gr ?_
          refine gr ?_
          refine S1.gx [6,9] ?_
          refine gr ?_
          refine S1.share 33 rfl ?_
          exact D1 (S1.ss [0,3,5,6] [(9,9),(3,3),(5,5)] [(25,25),(48,2000910)]) hr
def r62:Option (L_IIII×L_IIIII×L_III×L_II×Int×Int×Int×Int):=
 some ([(650,1000000,1000000,1)],[],[(500,1000000,1000000)],[],200,250,400,800)
@[go_sem] def T62:=qT0 qu17 false r62
theorem f62:FnFact Tryz.prog 62 T62.sp:=by
 refine vm .nil Tryz.func62 Tryz.ntmps62 fun _ r hr stop S=> ?_
 rw [uq0,r62] at hr
 refine S.gx [] ?_
 exact D0 hr
def r29:Option (Int×Int×L_II×L_LIIE×L_I×L_I×L_II×Int×Int×L_IIII×L_IIIII×L_III×L_II×Int×Int×Int×Int×L_III×Int):=
 (r26).bind fun v1=>
  (r62).bind fun v2=>
   some (v1.1,v1.2.1,v1.2.2.1,v1.2.2.2.1,v1.2.2.2.2.1,v1.2.2.2.2.2.1,v1.2.2.2.2.2.2.1,v1.2.2.2.2.2.2.2.1,v1.2.2.2.2.2.2.2.2,v2.1,v2.2.1,v2.2.2.1,v2.2.2.2.1,v2.2.2.2.2.1,v2.2.2.2.2.2.1,v2.2.2.2.2.2.2.1,v2.2.2.2.2.2.2.2,[(0,700,850),(2,150,250)],700)
@[go_sem] def T29:=qT0 qu18 true r29
@[go_sem] def tb29 (k:Nat):=lk [(26,T26.sp),(62,T62.sp)] k
theorem f29:FnFact Tryz.prog 29 T29.sp:=by
 refine vm (tb:=tb29) (.cons f26 (.cons f62 .nil)) Tryz.func29 Tryz.ntmps29 fun _ r hr stop S=> ?_
 rw [uq0,r29] at hr
 refine S.gx [] ?_
 exact D0 hr
def r30 (a0:L_II):Option (L_II):=
 if (0+a0.length)*16≤140737488355328∧0+a0.length≤9223372036854775807 then
  some a0
  else none
@[go_sem] def T30:=qT5 qu5 false r30
theorem f30:FnFact Tryz.prog 30 T30.sp:=by
 refine vm .nil Tryz.func30 Tryz.ntmps30 fun a0 r hr stop S=> ?_
 rw [uq1,r30] at hr
 refine S.gx [] ?_
 exact D0 hr
def b163_4 (x0:L_II) (s1 s2 s3:Int×(List (Int×L_II×Int))):Bd (Int×(List (Int×L_II×Int))) (L_ILIIEI×L_ILIIEI×L_ILIIEI×L_ILIIEI):=fun s4=>
 if (decide (s4.1<(x0.length:Int)))=true then
  if 0≤s4.1∧s4.1<(x0.length:Int) then
   if (s4.2.length+1)*40≤140737488355328∧s4.2.length+1≤9223372036854775807 then
    .next (IntKind.i64.wrap (s4.1+1),s4.2++[((x0.getD s4.1.toNat default).1,[],(x0.getD s4.1.toNat default).2)])
    else .out none
   else .out none
  else .out (some (s1.2,s2.2,s3.2,s4.2))
def b163_3 (x1:L_III) (x0:L_II) (s1 s2:Int×(List (Int×L_II×Int))):Bd (Int×(List (Int×L_II×Int))) (L_ILIIEI×L_ILIIEI×L_ILIIEI×L_ILIIEI):=fun s3=>
 if (decide (s3.1<(x1.length:Int)))=true then
  if 0≤s3.1∧s3.1<(x1.length:Int) then
   if (s3.2.length+1)*40≤140737488355328∧s3.2.length+1≤9223372036854775807 then
    .next (IntKind.i64.wrap (s3.1+1),s3.2++[((x1.getD s3.1.toNat default).1,[((x1.getD s3.1.toNat default).2.1,(x1.getD s3.1.toNat default).2.2)],0)])
    else .out none
   else .out none
  else .out (iterC (b163_4 x0 s1 s2 s3) 1000000000 (0,[]))
def b163_2 (x2:L_IIIII) (x1:L_III) (x0:L_II) (s1:Int×(List (Int×L_II×Int))):Bd (Int×(List (Int×L_II×Int))) (L_ILIIEI×L_ILIIEI×L_ILIIEI×L_ILIIEI):=fun s2=>
 if (decide (s2.1<(x2.length:Int)))=true then
  if 0≤s2.1∧s2.1<(x2.length:Int) then
   if (s2.2.length+1)*40≤140737488355328∧s2.2.length+1≤9223372036854775807 then
    .next (IntKind.i64.wrap (s2.1+1),s2.2++[((x2.getD s2.1.toNat default).1,[((x2.getD s2.1.toNat default).2.1,(x2.getD s2.1.toNat default).2.2.1),((x2.getD s2.1.toNat default).2.2.2.1,(x2.getD s2.1.toNat default).2.2.2.2)],0)])
    else .out none
   else .out none
  else .out (iterC (b163_3 x1 x0 s1 s2) 1000000000 (0,[]))
def b163_1 (x3:L_IIII) (x2:L_IIIII) (x1:L_III) (x0:L_II):Bd (Int×(List (Int×L_II×Int))) (L_ILIIEI×L_ILIIEI×L_ILIIEI×L_ILIIEI):=fun s1=>
 if (decide (s1.1<(x3.length:Int)))=true then
  if 0≤s1.1∧s1.1<(x3.length:Int) then
   if (s1.2.length+1)*40≤140737488355328∧s1.2.length+1≤9223372036854775807 then
    .next (IntKind.i64.wrap (s1.1+1),s1.2++[((x3.getD s1.1.toNat default).1,[((x3.getD s1.1.toNat default).2.1,(x3.getD s1.1.toNat default).2.2.1)],(x3.getD s1.1.toNat default).2.2.2)])
    else .out none
   else .out none
  else .out (iterC (b163_2 x2 x1 x0 s1) 1000000000 (0,[]))
def r163 (x3:L_IIII) (x2:L_IIIII) (x1:L_III) (x0:L_II) (x4 x5 x6 x7:Int):Option (L_ILIIEI×L_ILIIEI×L_ILIIEI×L_ILIIEI):=
 iterC (b163_1 x3 x2 x1 x0) 1000000000 (0,[])
@[go_sem] def T163:=qT35 qu19 true r163
theorem f163:FnFact Tryz.prog 163 T163.sp:=by
 refine vm .nil Tryz.func163 Tryz.ntmps163 fun ⟨x3,x2,x1,x0,x4,x5,x6,x7⟩ r hr stop S=> ?_
 rw [uq8,r163] at hr
 refine S.gx [] ?_
 refine gr ?_
 refine S.own0b 3 0 2000300 3 rfl rfl (nL rfl) rfl ?_
 refine S.sees [1,2,3,13,14,15] [(1,1),(2,2),(3,3)] [(2000300,2000300)] ?_ (Stop.iter S (fun s1=>⟨[(1,.c (.ref 1 0)),(2,.c (.ref 2 0)),(3,.c (.ref 3 0)),(13,.c (.d (encF 4 d_IIII x3))),(14,.c (.d (.int .i64 (x3.length:Int)))),(15,.c (.d (.int .i64 s1.1)))],[(1,[.d (encF 4 d_IIII x3),.d (encF 5 d_IIIII x2),.d (encF 3 d_III x1),.d (encF 2 d_II x0),.d (.int .i64 x4),.d (.int .i64 x5),.d (.int .i64 x6),.d (.int .i64 x7)]),(2,[.nils,.nils,.nils,.nils]),(3,[.own 2000300,.nils,.nils,.nils])],[(2000300,.owned (encF 3 d_ILIIEI s1.2))]⟩) (b163_1 x3 x2 x1 x0) (fun q=>q=r) hr rfl ?_)
 ·exact lf
 ·intro s1 hr
  unfold b163_1 at hr
  refine S.gx [] ?_
  refine gr ?_
  refine iW1 hr (fun hc hr=>D1 (S.ss [1,2,3,13,14,15] [(1,1),(2,2),(3,3)] [(30,2000300)]) hr) fun hc hr=> ?_
  refine gr ?_
  have hr:=of_out0 hr
  refine gr ?_
  refine S.own0b 3 1 2000301 3 rfl rfl (nL rfl) rfl ?_
  refine S.sees [1,2,3,34,35,36] [(1,1),(2,2),(3,3)] [(2000301,2000301),(2000300,2000300)] ?_ (Stop.iter S (fun s2=>⟨[(1,.c (.ref 1 0)),(2,.c (.ref 2 0)),(3,.c (.ref 3 0)),(34,.c (.d (encF 5 d_IIIII x2))),(35,.c (.d (.int .i64 (x2.length:Int)))),(36,.c (.d (.int .i64 s2.1)))],[(1,[.d (encF 4 d_IIII x3),.d (encF 5 d_IIIII x2),.d (encF 3 d_III x1),.d (encF 2 d_II x0),.d (.int .i64 x4),.d (.int .i64 x5),.d (.int .i64 x6),.d (.int .i64 x7)]),(2,[.nils,.nils,.nils,.nils]),(3,[.own 2000300,.own 2000301,.nils,.nils])],[(2000301,.owned (encF 3 d_ILIIEI s2.2)),(2000300,.owned (encF 3 d_ILIIEI s1.2))]⟩) (b163_2 x2 x1 x0 s1) (fun q=>q=r) hr rfl ?_)
  ·exact lf
  ·intro s2 hr
   unfold b163_2 at hr
   refine S.gx [] ?_
   refine gr ?_
   refine iW1 hr (fun hc hr=>D1 (S.ss [1,2,3,34,35,36] [(1,1),(2,2),(3,3)] [(51,2000301),(2000300,2000300)]) hr) fun hc hr=> ?_
   refine gr ?_
   have hr:=of_out0 hr
   refine gr ?_
   refine S.own0b 3 2 2000302 3 rfl rfl (nL rfl) rfl ?_
   refine S.sees [1,2,3,55,56,57] [(1,1),(2,2),(3,3)] [(2000302,2000302),(2000300,2000300),(2000301,2000301)] ?_ (Stop.iter S (fun s3=>⟨[(1,.c (.ref 1 0)),(2,.c (.ref 2 0)),(3,.c (.ref 3 0)),(55,.c (.d (encF 3 d_III x1))),(56,.c (.d (.int .i64 (x1.length:Int)))),(57,.c (.d (.int .i64 s3.1)))],[(1,[.d (encF 4 d_IIII x3),.d (encF 5 d_IIIII x2),.d (encF 3 d_III x1),.d (encF 2 d_II x0),.d (.int .i64 x4),.d (.int .i64 x5),.d (.int .i64 x6),.d (.int .i64 x7)]),(2,[.nils,.nils,.nils,.nils]),(3,[.own 2000300,.own 2000301,.own 2000302,.nils])],[(2000302,.owned (encF 3 d_ILIIEI s3.2)),(2000300,.owned (encF 3 d_ILIIEI s1.2)),(2000301,.owned (encF 3 d_ILIIEI s2.2))]⟩) (b163_3 x1 x0 s1 s2) (fun q=>q=r) hr rfl ?_)
   ·exact lf
   ·intro s3 hr
    unfold b163_3 at hr
    refine S.gx [] ?_
    refine gr ?_
    refine iW1 hr (fun hc hr=>D1 (S.ss [1,2,3,55,56,57] [(1,1),(2,2),(3,3)] [(70,2000302),(2000300,2000300),(2000301,2000301)]) hr) fun hc hr=> ?_
    refine gr ?_
    have hr:=of_out0 hr
    refine gr ?_
    refine S.own0b 3 3 2000303 3 rfl rfl (nL rfl) rfl ?_
    refine S.sees [2,3,74,75,76] [(2,2),(3,3)] [(2000303,2000303),(2000300,2000300),(2000301,2000301),(2000302,2000302)] ?_ (Stop.iter S (fun s4=>⟨[(2,.c (.ref 2 0)),(3,.c (.ref 3 0)),(74,.c (.d (encF 2 d_II x0))),(75,.c (.d (.int .i64 (x0.length:Int)))),(76,.c (.d (.int .i64 s4.1)))],[(2,[.nils,.nils,.nils,.nils]),(3,[.own 2000300,.own 2000301,.own 2000302,.own 2000303])],[(2000303,.owned (encF 3 d_ILIIEI s4.2)),(2000300,.owned (encF 3 d_ILIIEI s1.2)),(2000301,.owned (encF 3 d_ILIIEI s2.2)),(2000302,.owned (encF 3 d_ILIIEI s3.2))]⟩) (b163_4 x0 s1 s2 s3) (fun q=>q=r) hr rfl ?_)
    ·exact lf
    ·intro s4 hr
     unfold b163_4 at hr
     refine S.gx [] ?_
     exact D1 (S.ss [2,3,74,75,76] [(2,2),(3,3)] [(88,2000303),(2000300,2000300),(2000301,2000301),(2000302,2000302)]) hr
def r166 (a0 a1 a2:Int):Option (Bool):=
 some ((decide (a1≤a0)) && (decide (a0≤a2)))
@[go_sem] def T166:=qT1 qu2 false r166
theorem f166:FnFact Tryz.prog 166 T166.sp:=by
 refine vm .nil Tryz.func166 Tryz.ntmps166 fun ⟨a0,a1,a2⟩ r hr stop S=> ?_
 rw [uq3,r166] at hr
 refine S.gx [] ?_
 repeat (first | refine gA ?_ | refine gB ?_)
 exact D0 hr
def r172 (a0:Int):Option (Bool):=
 (r166 a0 0 1000000).bind fun v1=>
  some v1
@[go_sem] def T172:=qT4 qu2 false r172
@[go_sem] def tb172 (k:Nat):=lk [(166,T166.sp)] k
theorem f172:FnFact Tryz.prog 172 T172.sp:=by
 refine vm (tb:=tb172) (.cons f166 .nil) Tryz.func172 Tryz.ntmps172 fun a0 r hr stop S=> ?_
 rw [uq1,r172] at hr
 refine S.gx [] ?_
 exact D0 hr
def r196 (x1 x0:Int):Option (Bool):=
 (r172 x1).bind fun v1=>
  if (!(!v1))=true→(r172 x0).isSome=true then
   some ((!v1) || (!((r172 x0).getD default)))
   else none
@[go_sem] def T196:=qT25 qu2 false r196
@[go_sem] def tb196 (k:Nat):=lk [(172,T172.sp)] k
theorem f196:FnFact Tryz.prog 196 T196.sp:=by
 refine vm (tb:=tb196) (.cons f172 .nil) Tryz.func196 Tryz.ntmps196 fun ⟨x1,x0⟩ r hr stop S=> ?_
 rw [uq2,r196] at hr
 refine S.gx [] ?_
 obtain ⟨v1,hv1,hr⟩:=of_bind0 hr
 obtain ⟨hg2,hr⟩:=of_guard0 hr
 try simp only [hv1,oG,oI,true_and,and_assoc]
 repeat (first | refine gG hg2 ?_ | refine gA ?_ | refine gB ?_)
 exact D0 hr
def r197 (x0 x1:Int):Option (Bool):=
 some (decide (x0>x1))
@[go_sem] def T197:=qT25 qu2 false r197
theorem f197:FnFact Tryz.prog 197 T197.sp:=by
 refine vm .nil Tryz.func197 Tryz.ntmps197 fun ⟨x0,x1⟩ r hr stop S=> ?_
 rw [uq2,r197] at hr
 refine S.gx [] ?_
 exact D0 hr
def r198 (a0:Int):Option (Bool):=
 (r166 a0 1 3000).bind fun v1=>
  some v1
@[go_sem] def T198:=qT4 qu2 false r198
@[go_sem] def tb198 (k:Nat):=lk [(166,T166.sp)] k
theorem f198:FnFact Tryz.prog 198 T198.sp:=by
 refine vm (tb:=tb198) (.cons f166 .nil) Tryz.func198 Tryz.ntmps198 fun a0 r hr stop S=> ?_
 rw [uq1,r198] at hr
 refine S.gx [] ?_
 exact D0 hr
def r129 (a0:Bool) (a1:Int):Option (Int):=
 if a0=true then
  some 0
  else some a1
@[go_sem] def T129:=qT2 qu3 false r129
theorem f129:FnFact Tryz.prog 129 T129.sp:=by
 refine vm .nil Tryz.func129 Tryz.ntmps129 fun ⟨a0,a1⟩ r hr stop S=> ?_
 rw [uq2,r129] at hr
 refine S.gx [] ?_
 exact D0 hr
def b126_1 (a0:L_I):Bd Int Int:=fun s1=>
 if (decide (s1<(a0.length:Int)))=true then
  if 0≤s1∧s1<(a0.length:Int) then
   if ((a0.getD s1.toNat default) != 0)=true then
    .out (some (a0.getD s1.toNat default))
    else .next (IntKind.i64.wrap (s1+1))
   else .out none
  else .out (some 0)
def r126 (a0:L_I):Option (Int):=
 iterC (b126_1 a0) 1000000000 0
@[go_sem] def T126:=qT3 qu3 false r126
theorem f126:FnFact Tryz.prog 126 T126.sp:=by
 refine vm .nil Tryz.func126 Tryz.ntmps126 fun a0 r hr stop S=> ?_
 rw [uq1,r126] at hr
 refine S.gx [] ?_
 refine gr ?_
 refine S.sees [5,6,7] [] [] ?_ (Stop.iter S (fun s1=>⟨[(5,.c (.d (encF 1 d_I a0))),(6,.c (.d (.int .i64 (a0.length:Int)))),(7,.c (.d (.int .i64 s1)))],[],[]⟩) (b126_1 a0) (fun q=>q=r) hr rfl ?_)
 ·exact lf
 ·intro s1 hr
  unfold b126_1 at hr
  refine S.gx [] ?_
  exact D1 (S.ss [5,6,7] [] []) hr
def b164_2 (x1:Int) (x0:L_II) (x2:Int) (a1:Option (Int×L_II×Int)) (a2 s1:Int):Bd Int Int:=fun s2=>
 if (decide (s2<(x0.length:Int)))=true then
  if 0≤s2∧s2<(x0.length:Int) then
   bindC (r197 ((x0.getD s2.toNat default).1) ((x0.getD s2.toNat default).2)) fun v2=>
    if v2=true then
     .out ((r198 x1).bind fun v3=>
      if (v3 && (!(decide (s1≥0))))=true→(r172 x2).isSome=true then
       (r129 ((v3 && (!(decide (s1≥0)))) && ((r172 x2).getD default)) 2).bind fun v4=>
        (r129 (!(decide (s2≥0))) 3).bind fun v5=>
         (r126 [v4,v5]).bind fun v6=>
          if ((v6 != 0) || (!a1.isSome))=true then
           some v6
           else if a1.isSome=true then
            if a1.isSome=true then
             if (a2 != 0)=true then
              if 0≤0∧0<(x0.length:Int) then
               if a1.isSome=true then
                if a1.isSome=true then
                 if 0≤0∧0<(((a1.getD default).2.1).length:Int) then
                  (r129 (((decide (x1>((a1.getD default).1))) && (decide ((IntKind.i64.wrap (a2*((x0.getD 0 default).1)))≥(IntKind.i64.wrap (a2*((((a1.getD default).2.1).getD 0 default).1)))))) && (decide ((IntKind.i64.wrap (a2*((x0.getD 0 default).2)))≥(IntKind.i64.wrap (a2*((((a1.getD default).2.1).getD 0 default).2)))))) 9).bind fun v7=>
                   some v7
                  else none
                 else none
                else none
               else none
              else (r129 (decide (x1>((a1.getD default).1))) 9).bind fun v12=>
               some v12
             else none
            else none
       else none)
     else .next (IntKind.i64.wrap (s2+1))
   else .out none
  else .out ((r198 x1).bind fun v17=>
   if (v17 && (!(decide (s1≥0))))=true→(r172 x2).isSome=true then
    (r129 ((v17 && (!(decide (s1≥0)))) && ((r172 x2).getD default)) 2).bind fun v18=>
     (r129 true 3).bind fun v19=>
      (r126 [v18,v19]).bind fun v20=>
       if ((v20 != 0) || (!a1.isSome))=true then
        some v20
        else if a1.isSome=true then
         if a1.isSome=true then
          if (a2 != 0)=true then
           if 0≤0∧0<(x0.length:Int) then
            if a1.isSome=true then
             if a1.isSome=true then
              if 0≤0∧0<(((a1.getD default).2.1).length:Int) then
               (r129 (((decide (x1>((a1.getD default).1))) && (decide ((IntKind.i64.wrap (a2*((x0.getD 0 default).1)))≥(IntKind.i64.wrap (a2*((((a1.getD default).2.1).getD 0 default).1)))))) && (decide ((IntKind.i64.wrap (a2*((x0.getD 0 default).2)))≥(IntKind.i64.wrap (a2*((((a1.getD default).2.1).getD 0 default).2)))))) 9).bind fun v21=>
                some v21
               else none
              else none
             else none
            else none
           else (r129 (decide (x1>((a1.getD default).1))) 9).bind fun v26=>
            some v26
          else none
         else none
    else none)
def b164_3 (x1:Int) (x0:L_II) (x2:Int) (a1:Option (Int×L_II×Int)) (a2:Int):Bd Int Int:=fun s3=>
 if (decide (s3<(x0.length:Int)))=true then
  if 0≤s3∧s3<(x0.length:Int) then
   bindC (r197 ((x0.getD s3.toNat default).1) ((x0.getD s3.toNat default).2)) fun v31=>
    if v31=true then
     .out ((r198 x1).bind fun v32=>
      if v32=true→(r172 x2).isSome=true then
       (r129 (v32 && ((r172 x2).getD default)) 2).bind fun v33=>
        (r129 (!(decide (s3≥0))) 3).bind fun v34=>
         (r126 [v33,v34]).bind fun v35=>
          if ((v35 != 0) || (!a1.isSome))=true then
           some v35
           else if a1.isSome=true then
            if a1.isSome=true then
             if (a2 != 0)=true then
              if 0≤0∧0<(x0.length:Int) then
               if a1.isSome=true then
                if a1.isSome=true then
                 if 0≤0∧0<(((a1.getD default).2.1).length:Int) then
                  (r129 (((decide (x1>((a1.getD default).1))) && (decide ((IntKind.i64.wrap (a2*((x0.getD 0 default).1)))≥(IntKind.i64.wrap (a2*((((a1.getD default).2.1).getD 0 default).1)))))) && (decide ((IntKind.i64.wrap (a2*((x0.getD 0 default).2)))≥(IntKind.i64.wrap (a2*((((a1.getD default).2.1).getD 0 default).2)))))) 9).bind fun v36=>
                   some v36
                  else none
                 else none
                else none
               else none
              else (r129 (decide (x1>((a1.getD default).1))) 9).bind fun v41=>
               some v41
             else none
            else none
       else none)
     else .next (IntKind.i64.wrap (s3+1))
   else .out none
  else .out ((r198 x1).bind fun v46=>
   if v46=true→(r172 x2).isSome=true then
    (r129 (v46 && ((r172 x2).getD default)) 2).bind fun v47=>
     (r129 true 3).bind fun v48=>
      (r126 [v47,v48]).bind fun v49=>
       if ((v49 != 0) || (!a1.isSome))=true then
        some v49
        else if a1.isSome=true then
         if a1.isSome=true then
          if (a2 != 0)=true then
           if 0≤0∧0<(x0.length:Int) then
            if a1.isSome=true then
             if a1.isSome=true then
              if 0≤0∧0<(((a1.getD default).2.1).length:Int) then
               (r129 (((decide (x1>((a1.getD default).1))) && (decide ((IntKind.i64.wrap (a2*((x0.getD 0 default).1)))≥(IntKind.i64.wrap (a2*((((a1.getD default).2.1).getD 0 default).1)))))) && (decide ((IntKind.i64.wrap (a2*((x0.getD 0 default).2)))≥(IntKind.i64.wrap (a2*((((a1.getD default).2.1).getD 0 default).2)))))) 9).bind fun v50=>
                some v50
               else none
              else none
             else none
            else none
           else (r129 (decide (x1>((a1.getD default).1))) 9).bind fun v55=>
            some v55
          else none
         else none
    else none)
def b164_1 (x1:Int) (x0:L_II) (x2:Int) (a1:Option (Int×L_II×Int)) (a2:Int):Bd Int Int:=fun s1=>
 if (decide (s1<(x0.length:Int)))=true then
  if 0≤s1∧s1<(x0.length:Int) then
   bindC (r196 ((x0.getD s1.toNat default).1) ((x0.getD s1.toNat default).2)) fun v1=>
    if v1=true then
     .out (iterC (b164_2 x1 x0 x2 a1 a2 s1) 1000000000 0)
     else .next (IntKind.i64.wrap (s1+1))
   else .out none
  else .out (iterC (b164_3 x1 x0 x2 a1 a2) 1000000000 0)
def r164 (x1:Int) (x0:L_II) (x2:Int) (a1:Option (Int×L_II×Int)) (a2:Int):Option (Int):=
 iterC (b164_1 x1 x0 x2 a1 a2) 1000000000 0
@[go_sem] def T164:=qT36 qu3 false r164
@[go_sem] def tb164 (k:Nat):=lk [(126,T126.sp),(129,T129.sp),(172,T172.sp),(196,T196.sp),(197,T197.sp),(198,T198.sp)] k
theorem tb164_ok:FnsOk Tryz.prog tb164:= .cons f126 (.cons f129 (.cons f172 (.cons f196 (.cons f197 (.cons f198 .nil)))))
theorem f164:FnFact Tryz.prog 164 T164.sp:=by
 refine vm (tb:=tb164) (.cons f126 (.cons f129 (.cons f172 (.cons f196 (.cons f197 (.cons f198 .nil)))))) Tryz.func164 Tryz.ntmps164 fun ⟨x1,x0,x2,a1,a2⟩ r hr stop S=> ?_
 rw [uq5,r164] at hr
 refine S.gx [1,2,5,7,10] ?_
 refine gr ?_
 refine S.inl 2 [1,2,3] [] Tryz.func195 (by decide) rfl Tryz.ntmps195 (fun cx e=>drawn_ok ty_ok tb164_ok cx e) (some 15) rfl rfl rfl rfl (nL rfl) (nL rfl) ?_
 refine gs ?_
 refine gr ?_
 intro stop1 S1
 refine S1.gx [1] ?_
 refine gr ?_
 refine S1.inl 2 [4] [] Tryz.func215 (by decide) rfl Tryz.ntmps215 (fun cx e=>drawn_ok ty_ok tb164_ok cx e) (some 7) rfl rfl rfl rfl (nL rfl) (nL rfl) ?_
 refine gs ?_
 refine gr ?_
 intro stop2 S2
 refine S2.gx [4] ?_
 refine gr ?_
 refine S2.sees [0,1,7,8] [(3,3)] [] ?_ (Stop.iter S2 (fun s1=>⟨[(0,.c (.d (encF 2 d_II x0))),(1,.c (.clo 196 [])),(7,.c (.d (.int .i64 (x0.length:Int)))),(8,.c (.d (.int .i64 s1)))],[(3,[.d (.int .i64 x1),.d (encF 2 d_II x0),.d (.int .i64 x2)])],[]⟩) (b164_1 x1 x0 x2 a1 a2) (fun q=>q=r) hr rfl ?_)
 ·exact lf
 ·intro s1 hr
  unfold b164_1 at hr
  refine S2.gx [4] ?_
  refine gr ?_
  refine iW1 hr (fun hc hr=> ?_) fun hc hr=> ?_
  ·refine gr ?_
   refine S2.gx [] ?_
   obtain ⟨hg30,hr⟩:=of_guard1 hr
   obtain ⟨v1,hv1,hr⟩:=of_bind1 hr
   refine gb hv1 ?_
   refine gr ?_
   refine iW1 hr (fun hc hr=> ?_) fun hc hr=>D1 (S2.ss [0,1,7,8] [(3,3)] []) hr
   refine gr ?_
   have hr:=of_out0 hr
   refine gr ?_
   refine S1.gx [1] ?_
   refine gr ?_
   refine gr ?_
   refine S.gx [1,2,5,7,10] ?_
   refine gr ?_
   refine S.inl 2 [1,2,3,7] [] Tryz.func195 (by decide) rfl Tryz.ntmps195 (fun cx e=>drawn_ok ty_ok tb164_ok cx e) (some 18) rfl rfl rfl rfl (nL rfl) (nL rfl) ?_
   refine gs ?_
   refine gr ?_
   intro stop1 S1
   refine S1.gx [1] ?_
   refine gr ?_
   refine S1.inl 2 [4] [] Tryz.func215 (by decide) rfl Tryz.ntmps215 (fun cx e=>drawn_ok ty_ok tb164_ok cx e) (some 7) rfl rfl rfl rfl (nL rfl) (nL rfl) ?_
   refine gs ?_
   refine gr ?_
   intro stop2 S2
   refine S2.gx [4] ?_
   refine gr ?_
   refine S2.sees [0,1,7,8] [(3,3)] [] ?_ (Stop.iter S2 (fun s2=>⟨[(0,.c (.d (encF 2 d_II x0))),(1,.c (.clo 197 [])),(7,.c (.d (.int .i64 (x0.length:Int)))),(8,.c (.d (.int .i64 s2)))],[(3,[.d (.int .i64 x1),.d (encF 2 d_II x0),.d (.int .i64 x2)])],[]⟩) (b164_2 x1 x0 x2 a1 a2 s1) (fun q=>q=r) hr rfl ?_)
   ·exact lf
   ·intro s2 hr
    unfold b164_2 at hr
    refine S2.gx [4] ?_
    refine gr ?_
    refine iW1 hr (fun hc hr=> ?_) fun hc hr=> ?_
    ·refine gr ?_
     refine S2.gx [] ?_
     obtain ⟨hg16,hr⟩:=of_guard1 hr
     obtain ⟨v2,hv2,hr⟩:=of_bind1 hr
     refine gb hv2 ?_
     refine gr ?_
     refine iW1 hr (fun hc hr=> ?_) fun hc hr=>D1 (S2.ss [0,1,7,8] [(3,3)] []) hr
     refine gr ?_
     have hr:=of_out0 hr
     refine gr ?_
     refine S1.gx [1] ?_
     refine gr ?_
     refine gr ?_
     refine S.gx [1,2,5,7,10] ?_
     obtain ⟨v3,hv3,hr⟩:=of_bind0 hr
     obtain ⟨hg15,hr⟩:=of_guard0 hr
     obtain ⟨v4,hv4,hr⟩:=of_bind0 hr
     obtain ⟨v5,hv5,hr⟩:=of_bind0 hr
     obtain ⟨v6,hv6,hr⟩:=of_bind0 hr
     try simp only [hv3,hv4,hv5,hv6,Option.getD_some,Option.isSome_some,true_and,and_assoc]
     repeat (first | refine gG hg15 ?_ | refine gA ?_ | refine gB ?_)
     refine iW hr (fun hc hr=> ?_) fun hc hr=> ?_
     ·refine gr ?_
      refine S.prune [9] ?_
      refine S.gx [1,2,7,10] ?_
      exact D0 hr
     ·obtain ⟨hg13,hr⟩:=of_guard0 hr
      obtain ⟨hg14,hr⟩:=of_guard0 hr
      refine gr ?_
      refine S.prune [1,2,3,10] ?_
      refine S.gx [1,2,5,10] ?_
      refine gr ?_
      refine gr ?_
      refine iW hr (fun hc hr=> ?_) fun hc hr=> ?_
      ·obtain ⟨hg8,hr⟩:=of_guard0 hr
       obtain ⟨hg9,hr⟩:=of_guard0 hr
       obtain ⟨hg10,hr⟩:=of_guard0 hr
       obtain ⟨hg11,hr⟩:=of_guard0 hr
       repeat (first | refine gA ?_ | refine gB ?_)
       refine S.prune [10] ?_
       refine S.gx [1,2,5,7] ?_
       exact D0 hr
      ·refine gr ?_
       refine S.prune [10] ?_
       refine S.gx [1,2,5,7] ?_
       exact D0 hr
    ·refine gr ?_
     have hr:=of_out0 hr
     refine gr ?_
     refine gr ?_
     refine S1.gx [1] ?_
     refine gr ?_
     refine gr ?_
     refine S.gx [1,2,5,7,10] ?_
     obtain ⟨v17,hv17,hr⟩:=of_bind0 hr
     obtain ⟨hg29,hr⟩:=of_guard0 hr
     obtain ⟨v18,hv18,hr⟩:=of_bind0 hr
     obtain ⟨v19,hv19,hr⟩:=of_bind0 hr
     obtain ⟨v20,hv20,hr⟩:=of_bind0 hr
     try simp only [hv17,hv18,hv19,hv20,Option.getD_some,Option.isSome_some,true_and,and_assoc]
     repeat (first | refine gG hg29 ?_ | refine gA ?_ | refine gB ?_)
     refine iW hr (fun hc hr=> ?_) fun hc hr=> ?_
     ·refine gr ?_
      refine S.prune [9] ?_
      refine S.gx [1,2,7,10] ?_
      exact D0 hr
     ·obtain ⟨hg27,hr⟩:=of_guard0 hr
      obtain ⟨hg28,hr⟩:=of_guard0 hr
      refine gr ?_
      refine S.prune [1,2,3,10] ?_
      refine S.gx [1,2,5,10] ?_
      refine gr ?_
      refine gr ?_
      refine iW hr (fun hc hr=> ?_) fun hc hr=> ?_
      ·obtain ⟨hg22,hr⟩:=of_guard0 hr
       obtain ⟨hg23,hr⟩:=of_guard0 hr
       obtain ⟨hg24,hr⟩:=of_guard0 hr
       obtain ⟨hg25,hr⟩:=of_guard0 hr
       repeat (first | refine gA ?_ | refine gB ?_)
       refine S.prune [10] ?_
       refine S.gx [1,2,5,7] ?_
       exact D0 hr
      ·refine gr ?_
       refine S.prune [10] ?_
       refine S.gx [1,2,5,7] ?_
       exact D0 hr
  ·refine gr ?_
   have hr:=of_out0 hr
   refine gr ?_
   refine gr ?_
   refine S1.gx [1] ?_
   refine gr ?_
   refine gr ?_
   refine S.gx [1,2,5,7,10] ?_
   refine gr ?_
   refine S.inl 2 [1,2,3,7] [] Tryz.func195 (by decide) rfl Tryz.ntmps195 (fun cx e=>drawn_ok ty_ok tb164_ok cx e) (some 18) rfl rfl rfl rfl (nL rfl) (nL rfl) ?_
   refine gs ?_
   refine gr ?_
   intro stop1 S1
   refine S1.gx [1] ?_
   refine gr ?_
   refine S1.inl 2 [4] [] Tryz.func215 (by decide) rfl Tryz.ntmps215 (fun cx e=>drawn_ok ty_ok tb164_ok cx e) (some 7) rfl rfl rfl rfl (nL rfl) (nL rfl) ?_
   refine gs ?_
   refine gr ?_
   intro stop2 S2
   refine S2.gx [4] ?_
   refine gr ?_
   refine S2.sees [0,1,7,8] [(3,3)] [] ?_ (Stop.iter S2 (fun s3=>⟨[(0,.c (.d (encF 2 d_II x0))),(1,.c (.clo 197 [])),(7,.c (.d (.int .i64 (x0.length:Int)))),(8,.c (.d (.int .i64 s3)))],[(3,[.d (.int .i64 x1),.d (encF 2 d_II x0),.d (.int .i64 x2)])],[]⟩) (b164_3 x1 x0 x2 a1 a2) (fun q=>q=r) hr rfl ?_)
   ·exact lf
   ·intro s3 hr
    unfold b164_3 at hr
    refine S2.gx [4] ?_
    refine gr ?_
    refine iW1 hr (fun hc hr=> ?_) fun hc hr=> ?_
    ·refine gr ?_
     refine S2.gx [] ?_
     obtain ⟨hg45,hr⟩:=of_guard1 hr
     obtain ⟨v31,hv31,hr⟩:=of_bind1 hr
     refine gb hv31 ?_
     refine gr ?_
     refine iW1 hr (fun hc hr=> ?_) fun hc hr=>D1 (S2.ss [0,1,7,8] [(3,3)] []) hr
     refine gr ?_
     have hr:=of_out0 hr
     refine gr ?_
     refine S1.gx [1] ?_
     refine gr ?_
     refine gr ?_
     refine S.gx [1,2,5,7,10] ?_
     obtain ⟨v32,hv32,hr⟩:=of_bind0 hr
     obtain ⟨hg44,hr⟩:=of_guard0 hr
     obtain ⟨v33,hv33,hr⟩:=of_bind0 hr
     obtain ⟨v34,hv34,hr⟩:=of_bind0 hr
     obtain ⟨v35,hv35,hr⟩:=of_bind0 hr
     try simp only [hv32,hv33,hv34,hv35,Option.getD_some,Option.isSome_some,true_and,and_assoc]
     repeat (first | refine gG hg44 ?_ | refine gA ?_ | refine gB ?_)
     refine iW hr (fun hc hr=> ?_) fun hc hr=> ?_
     ·refine gr ?_
      refine S.prune [9] ?_
      refine S.gx [1,2,7,10] ?_
      exact D0 hr
     ·obtain ⟨hg42,hr⟩:=of_guard0 hr
      obtain ⟨hg43,hr⟩:=of_guard0 hr
      refine gr ?_
      refine S.prune [1,2,3,10] ?_
      refine S.gx [1,2,5,10] ?_
      refine gr ?_
      refine gr ?_
      refine iW hr (fun hc hr=> ?_) fun hc hr=> ?_
      ·obtain ⟨hg37,hr⟩:=of_guard0 hr
       obtain ⟨hg38,hr⟩:=of_guard0 hr
       obtain ⟨hg39,hr⟩:=of_guard0 hr
       obtain ⟨hg40,hr⟩:=of_guard0 hr
       repeat (first | refine gA ?_ | refine gB ?_)
       refine S.prune [10] ?_
       refine S.gx [1,2,5,7] ?_
       exact D0 hr
      ·refine gr ?_
       refine S.prune [10] ?_
       refine S.gx [1,2,5,7] ?_
       exact D0 hr
    ·refine gr ?_
     have hr:=of_out0 hr
     refine gr ?_
     refine gr ?_
     refine S1.gx [1] ?_
     refine gr ?_
     refine gr ?_
     refine S.gx [1,2,5,7,10] ?_
     obtain ⟨v46,hv46,hr⟩:=of_bind0 hr
     obtain ⟨hg58,hr⟩:=of_guard0 hr
     obtain ⟨v47,hv47,hr⟩:=of_bind0 hr
     obtain ⟨v48,hv48,hr⟩:=of_bind0 hr
     obtain ⟨v49,hv49,hr⟩:=of_bind0 hr
     try simp only [hv46,hv47,hv48,hv49,Option.getD_some,Option.isSome_some,true_and,and_assoc]
     repeat (first | refine gG hg58 ?_ | refine gA ?_ | refine gB ?_)
     refine iW hr (fun hc hr=> ?_) fun hc hr=> ?_
     ·refine gr ?_
      refine S.prune [9] ?_
      refine S.gx [1,2,7,10] ?_
      exact D0 hr
     ·obtain ⟨hg56,hr⟩:=of_guard0 hr
      obtain ⟨hg57,hr⟩:=of_guard0 hr
      refine gr ?_
      refine S.prune [1,2,3,10] ?_
      refine S.gx [1,2,5,10] ?_
      refine gr ?_
      refine gr ?_
      refine iW hr (fun hc hr=> ?_) fun hc hr=> ?_
      ·obtain ⟨hg51,hr⟩:=of_guard0 hr
       obtain ⟨hg52,hr⟩:=of_guard0 hr
       obtain ⟨hg53,hr⟩:=of_guard0 hr
       obtain ⟨hg54,hr⟩:=of_guard0 hr
       repeat (first | refine gA ?_ | refine gB ?_)
       refine S.prune [10] ?_
       refine S.gx [1,2,5,7] ?_
       exact D0 hr
      ·refine gr ?_
       refine S.prune [10] ?_
       refine S.gx [1,2,5,7] ?_
       exact D0 hr
def r165 (a0:Int):Option (Bool):=
 (r166 a0 0 2000).bind fun v1=>
  some (!v1)
@[go_sem] def T165:=qT4 qu2 false r165
@[go_sem] def tb165 (k:Nat):=lk [(166,T166.sp)] k
theorem f165:FnFact Tryz.prog 165 T165.sp:=by
 refine vm (tb:=tb165) (.cons f166 .nil) Tryz.func165 Tryz.ntmps165 fun a0 r hr stop S=> ?_
 rw [uq1,r165] at hr
 refine S.gx [] ?_
 exact D0 hr
def b155c_1 (a0:L_I):Bd Int Int:=fun s1=>
 if (decide (s1<(a0.length:Int)))=true then
  if 0≤s1∧s1<(a0.length:Int) then
   bindC (r165 (a0.getD s1.toNat default)) fun v1=>
    if v1=true then
     .out (some s1)
     else .next (IntKind.i64.wrap (s1+1))
   else .out none
  else .out (some (-1))
def r155c (a0:L_I):Option (Int):=
 iterC (b155c_1 a0) 1000000000 0
@[go_sem] def T155c:=qT37 qu3 false r155c
@[go_sem] def tb155c (k:Nat):=lk [(165,T165.sp)] k
theorem f155c:FnFact Tryz.prog 155 T155c.sp:=by
 refine vm (tb:=tb155c) (.cons f165 .nil) Tryz.func155 Tryz.ntmps155 fun a0 r hr stop S=> ?_
 rw [uq1,r155c] at hr
 refine S.gx [] ?_
 refine gr ?_
 refine S.sees [0,1,7,8] [] [] ?_ (Stop.iter S (fun s1=>⟨[(0,.c (.d (encF 1 d_I a0))),(1,.c (.clo 165 [])),(7,.c (.d (.int .i64 (a0.length:Int)))),(8,.c (.d (.int .i64 s1)))],[],[]⟩) (b155c_1 a0) (fun q=>q=r) hr rfl ?_)
 ·exact lf
 ·intro s1 hr
  unfold b155c_1 at hr
  refine S.gx [] ?_
  exact D1 (S.ss [0,1,7,8] [] []) hr
def r116b (a0:L_I):Option (Bool):=
 (r155c a0).bind fun v1=>
  some (decide (v1≥0))
@[go_sem] def T116b:=qT37 qu2 false r116b
@[go_sem] def tb116b (k:Nat):=lk [(155,T155c.sp)] k
theorem f116b:FnFact Tryz.prog 116 T116b.sp:=by
 refine vm (tb:=tb116b) (.cons f155c .nil) Tryz.func116 Tryz.ntmps116 fun a0 r hr stop S=> ?_
 rw [uq1,r116b] at hr
 refine S.gx [] ?_
 exact D0 hr
end Go.Proofs.YtkbdjphdhcgmaaaGreatDoor

/- Contracts of functions, written by wip/dec. -/
import Derived.Test.YtofkgmldcjagmaaGreatDoorF00
import Derived.Test.YtofkgmldcjagmaaGreatDoorF01
import Derived.Test.YtofkgmldcjagmaaGreatDoorF02
import Derived.Test.YtofkgmldcjagmaaGreatDoorF03
import Derived.Test.YtofkgmldcjagmaaGreatDoorF04
set_option linter.unusedVariables false
set_option linter.unusedSimpArgs false
set_option linter.constructorNameAsVariable false
set_option maxHeartbeats 4000000
set_option maxRecDepth 20000
namespace Go.Proofs.YtofkgmldcjagmaaGreatDoor
open Go.dG
section
variable {β:Type} [Inhabited β] (u:β→List RV) (al:Bool)
def aoX (a0 a1:Int) (a2:au) (a3:aj) (a4 a5:aZ) (a6:au) (a7 a8:Int) (a9:bD):List Arg:=[.agg [.int .i64 a0,.int .i64 a1,ah 2 aO a2,ah 1 aN a3,ah 1 cO a4,ah 1 cO a5,ah 2 aO a6,.int .i64 a7,.int .i64 a8],.c (ah 6 bF a9)]
def aqD:List Arg→Int×Int×au×aj×aZ×aZ×au×Int×Int×bD
 | [.agg [c0,c1,c2,c3,c4,c5,c6,c7,c8],.c c9]=>(aB c0,aB c1,aG bW c2,aG bP c3,aG jQ c4,aG jQ c5,aG bW c6,aB c7,aB c8,aG fV c9)
 | _=>default
def arK (r:Int→Int→au→aj→aZ→aZ→au→Int→Int→bD→Option β):=mkT (u10 aoX) aqD (u10 r) u al
attribute [go_sem] aoX aqD arK
def aoV (a0:Int) (a1:au) (a2:Int) (a3:Option (Int×au×Int)) (a4:Int):List Arg:=[.agg [.int .i64 a0,ah 2 aO a1,.int .i64 a2],.c (vX bI a3),.c (.int .i64 a4)]
def aqB:List Arg→Int×au×Int×(Option (Int×au×Int))×Int
 | [.agg [c0,c1,c2],.c c3,.c c4]=>(aB c0,aG bW c1,aB c2,decP nX c3,aB c4)
 | _=>default
def arJ (r:Int→au→Int→(Option (Int×au×Int))→Int→Option β):=mkT (u5 aoV) aqB (u5 r) u al
attribute [go_sem] aoV aqB arJ
def aoU (a0:aZ):List Arg:=[.c (ah 1 cO a0),.clo 170 []]
def aqA:List Arg→aZ
 | [.c c0,.clo _ []]=>aG jQ c0
 | _=>default
def aie (r:aZ→Option β):=mkT (u1 aoU) aqA (u1 r) u al
attribute [go_sem] aoU aqA aie
def apI (v:bg×aW×bf×au×Int×Int×Int×Int):List RV:=[.agg [.own (ah 4 cZ v.1),.own (ah 5 bU v.2.1),.own (ah 3 dn v.2.2.1),.own (ah 2 aO v.2.2.2.1),.d (.int .i64 v.2.2.2.2.1),.d (.int .i64 v.2.2.2.2.2.1),.d (.int .i64 v.2.2.2.2.2.2.1),.d (.int .i64 v.2.2.2.2.2.2.2)]]
attribute [go_sem] apI
def apH (v:Int×Int×au×aj×aZ×aZ×au×Int×Int×bg×aW×bf×au×Int×Int×Int×Int×bf×Int):List RV:=[.agg [.d (.int .i64 v.1),.d (.int .i64 v.2.1),.own (ah 2 aO v.2.2.1),.own (ah 1 aN v.2.2.2.1),.own (ah 1 cO v.2.2.2.2.1),.own (ah 1 cO v.2.2.2.2.2.1),.own (ah 2 aO v.2.2.2.2.2.2.1),.d (.int .i64 v.2.2.2.2.2.2.2.1),.d (.int .i64 v.2.2.2.2.2.2.2.2.1),.own (ah 4 cZ v.2.2.2.2.2.2.2.2.2.1),.own (ah 5 bU v.2.2.2.2.2.2.2.2.2.2.1),.own (ah 3 dn v.2.2.2.2.2.2.2.2.2.2.2.1),.own (ah 2 aO v.2.2.2.2.2.2.2.2.2.2.2.2.1),.d (.int .i64 v.2.2.2.2.2.2.2.2.2.2.2.2.2.1),.d (.int .i64 v.2.2.2.2.2.2.2.2.2.2.2.2.2.2.1),.d (.int .i64 v.2.2.2.2.2.2.2.2.2.2.2.2.2.2.2.1),.d (.int .i64 v.2.2.2.2.2.2.2.2.2.2.2.2.2.2.2.2.1),.own (ah 3 dn v.2.2.2.2.2.2.2.2.2.2.2.2.2.2.2.2.2.1),.d (.int .i64 v.2.2.2.2.2.2.2.2.2.2.2.2.2.2.2.2.2.2)]]
attribute [go_sem] apH
def apG (v:bG×bG×bG×bG):List RV:=[.agg [.own (ah 3 bI v.1),.own (ah 3 bI v.2.1),.own (ah 3 bI v.2.2.1),.own (ah 3 bI v.2.2.2)]]
attribute [go_sem] apG
end
def acs (v1:Int×Int×au×aj×aZ×aZ×au×Int×Int×Int) (v2:bD×Int) (s2:Int×aZ×(List (Int×Int))):Bd (Int×aZ×(List (Int×Int))) (gK (Int×aZ×(List (Int×Int))) (au×Int)):=fun s3=>
 if (((v2.1.getD s2.1.toNat default).1) == 3)=true then
  if 0≤0∧0<(s3.2.1.length:Int) then
   aP (r78 v1.1 v1.2.1 v1.2.2.1 v1.2.2.2.1 v1.2.2.2.2.1 v1.2.2.2.2.2.1 v1.2.2.2.2.2.2.1 v1.2.2.2.2.2.2.2.1 v1.2.2.2.2.2.2.2.2.1 (s3.2.1.getD 0 default) ((v2.1.getD s2.1.toNat default).2.2.2.2.1)) fun v9=>
    aP (lJ ((!(decide (v9<0))) || (decide (s3.1<((v2.1.getD s2.1.toNat default).2.2.2.1)))) 24) fun v10=>
     if ((v10 != 0) || (!(decide (v9<0))))=true then
      .out (some (if (v10 != 0)=true then
       .out (some ([],v10))
       else .next (IntKind.i64.wrap (s2.1+1),s3.2.1,s3.2.2)))
      else if ((s3.2.2.length:Int) == 200)=true then
       .out (some (.out (some ([],8))))
       else aP (JO v1.1 v1.2.1 v1.2.2.1 v1.2.2.2.1 v1.2.2.2.2.1 v1.2.2.2.2.2.1 v1.2.2.2.2.2.2.1 v1.2.2.2.2.2.2.2.1 v1.2.2.2.2.2.2.2.2.1 ((v2.1.getD s2.1.toNat default).2.1) ((v2.1.getD s2.1.toNat default).2.2.1) 75) fun v11=>
        aP (U5 v1.1 v1.2.1 v1.2.2.1 v1.2.2.2.1 s3.2.1 v11.1 v11.2) fun v12=>
         if (v12.2 != 0)=true then
          if (v12.2 != 0)=true then
           .out (some (if (v12.2 != 0)=true then
            .out (some ([],v12.2))
            else .next (IntKind.i64.wrap (s2.1+1),s3.2.1,s3.2.2)))
           else .next (IntKind.i64.wrap (s3.1+1),s3.2.1,s3.2.2)
          else if (s3.2.2.length+1)*16≤140737488355328∧s3.2.2.length+1≤9223372036854775807 then
           .next (IntKind.i64.wrap (s3.1+1),v12.1,s3.2.2++[((v2.1.getD s2.1.toNat default).2.1,(v2.1.getD s2.1.toNat default).2.2.1)])
           else .out none
   else .out none
  else if (((v2.1.getD s2.1.toNat default).1) == 4)=true then
   if 0≤0∧0<(s3.2.1.length:Int) then
    aP (r78 v1.1 v1.2.1 v1.2.2.1 v1.2.2.2.1 v1.2.2.2.2.1 v1.2.2.2.2.2.1 v1.2.2.2.2.2.2.1 v1.2.2.2.2.2.2.2.1 v1.2.2.2.2.2.2.2.2.1 (s3.2.1.getD 0 default) ((v2.1.getD s2.1.toNat default).2.2.2.2.1)) fun v15=>
     aP (lJ ((!(decide (v15>0))) || (decide (s3.1<((v2.1.getD s2.1.toNat default).2.2.2.1)))) 24) fun v16=>
      if ((v16 != 0) || (!(decide (v15>0))))=true then
       .out (some (if (v16 != 0)=true then
        .out (some ([],v16))
        else .next (IntKind.i64.wrap (s2.1+1),s3.2.1,s3.2.2)))
       else if ((s3.2.2.length:Int) == 200)=true then
        .out (some (.out (some ([],8))))
        else aP (JO v1.1 v1.2.1 v1.2.2.1 v1.2.2.2.1 v1.2.2.2.2.1 v1.2.2.2.2.2.1 v1.2.2.2.2.2.2.1 v1.2.2.2.2.2.2.2.1 v1.2.2.2.2.2.2.2.2.1 ((v2.1.getD s2.1.toNat default).2.1) ((v2.1.getD s2.1.toNat default).2.2.1) 75) fun v17=>
         aP (U5 v1.1 v1.2.1 v1.2.2.1 v1.2.2.2.1 s3.2.1 v17.1 v17.2) fun v18=>
          if (v18.2 != 0)=true then
           if (v18.2 != 0)=true then
            .out (some (if (v18.2 != 0)=true then
             .out (some ([],v18.2))
             else .next (IntKind.i64.wrap (s2.1+1),s3.2.1,s3.2.2)))
            else .next (IntKind.i64.wrap (s3.1+1),s3.2.1,s3.2.2)
           else if (s3.2.2.length+1)*16≤140737488355328∧s3.2.2.length+1≤9223372036854775807 then
            .next (IntKind.i64.wrap (s3.1+1),v18.1,s3.2.2++[((v2.1.getD s2.1.toNat default).2.1,(v2.1.getD s2.1.toNat default).2.2.1)])
            else .out none
    else .out none
   else aP (lJ ((!(decide (s3.1<((v2.1.getD s2.1.toNat default).2.2.2.1)))) || (decide (s3.1<((v2.1.getD s2.1.toNat default).2.2.2.1)))) 24) fun v21=>
    if ((v21 != 0) || (!(decide (s3.1<((v2.1.getD s2.1.toNat default).2.2.2.1)))))=true then
     .out (some (if (v21 != 0)=true then
      .out (some ([],v21))
      else .next (IntKind.i64.wrap (s2.1+1),s3.2.1,s3.2.2)))
     else if ((s3.2.2.length:Int) == 200)=true then
      .out (some (.out (some ([],8))))
      else aP (JO v1.1 v1.2.1 v1.2.2.1 v1.2.2.2.1 v1.2.2.2.2.1 v1.2.2.2.2.2.1 v1.2.2.2.2.2.2.1 v1.2.2.2.2.2.2.2.1 v1.2.2.2.2.2.2.2.2.1 ((v2.1.getD s2.1.toNat default).2.1) ((v2.1.getD s2.1.toNat default).2.2.1) 75) fun v22=>
       aP (U5 v1.1 v1.2.1 v1.2.2.1 v1.2.2.2.1 s3.2.1 v22.1 v22.2) fun v23=>
        if (v23.2 != 0)=true then
         if (v23.2 != 0)=true then
          .out (some (if (v23.2 != 0)=true then
           .out (some ([],v23.2))
           else .next (IntKind.i64.wrap (s2.1+1),s3.2.1,s3.2.2)))
          else .next (IntKind.i64.wrap (s3.1+1),s3.2.1,s3.2.2)
         else if (s3.2.2.length+1)*16≤140737488355328∧s3.2.2.length+1≤9223372036854775807 then
          .next (IntKind.i64.wrap (s3.1+1),v23.1,s3.2.2++[((v2.1.getD s2.1.toNat default).2.1,(v2.1.getD s2.1.toNat default).2.2.1)])
          else .out none
def acr (v1:Int×Int×au×aj×aZ×aZ×au×Int×Int×Int) (v2:bD×Int) (s2:Int×aZ×(List (Int×Int))):Bd (Int×aZ×(List (Int×Int))) (gK (Int×aZ×(List (Int×Int))) (au×Int)):=fun s4=>
 if (((v2.1.getD s2.1.toNat default).1) == 3)=true then
  if 0≤0∧0<(s4.2.1.length:Int) then
   aP (r78 v1.1 v1.2.1 v1.2.2.1 v1.2.2.2.1 v1.2.2.2.2.1 v1.2.2.2.2.2.1 v1.2.2.2.2.2.2.1 v1.2.2.2.2.2.2.2.1 v1.2.2.2.2.2.2.2.2.1 (s4.2.1.getD 0 default) ((v2.1.getD s2.1.toNat default).2.2.2.2.1)) fun v25=>
    aP (lJ ((!(decide (v25<0))) || (decide (s4.1<((v2.1.getD s2.1.toNat default).2.2.2.1)))) 24) fun v26=>
     if ((v26 != 0) || (!(decide (v25<0))))=true then
      .out (some (if (v26 != 0)=true then
       .out (some ([],v26))
       else .next (IntKind.i64.wrap (s2.1+1),s4.2.1,s4.2.2)))
      else if ((s4.2.2.length:Int) == 200)=true then
       .out (some (.out (some ([],8))))
       else aP (JO v1.1 v1.2.1 v1.2.2.1 v1.2.2.2.1 v1.2.2.2.2.1 v1.2.2.2.2.2.1 v1.2.2.2.2.2.2.1 v1.2.2.2.2.2.2.2.1 v1.2.2.2.2.2.2.2.2.1 ((v2.1.getD s2.1.toNat default).2.1) v1.2.2.2.2.2.2.2.1 75) fun v27=>
        aP (U5 v1.1 v1.2.1 v1.2.2.1 v1.2.2.2.1 s4.2.1 v27.1 v27.2) fun v28=>
         if (v28.2 != 0)=true then
          if (v28.2 != 0)=true then
           .out (some (if (v28.2 != 0)=true then
            .out (some ([],v28.2))
            else .next (IntKind.i64.wrap (s2.1+1),s4.2.1,s4.2.2)))
           else .next (IntKind.i64.wrap (s4.1+1),s4.2.1,s4.2.2)
          else if (s4.2.2.length+1)*16≤140737488355328∧s4.2.2.length+1≤9223372036854775807 then
           .next (IntKind.i64.wrap (s4.1+1),v28.1,s4.2.2++[((v2.1.getD s2.1.toNat default).2.1,v1.2.2.2.2.2.2.2.1)])
           else .out none
   else .out none
  else if (((v2.1.getD s2.1.toNat default).1) == 4)=true then
   if 0≤0∧0<(s4.2.1.length:Int) then
    aP (r78 v1.1 v1.2.1 v1.2.2.1 v1.2.2.2.1 v1.2.2.2.2.1 v1.2.2.2.2.2.1 v1.2.2.2.2.2.2.1 v1.2.2.2.2.2.2.2.1 v1.2.2.2.2.2.2.2.2.1 (s4.2.1.getD 0 default) ((v2.1.getD s2.1.toNat default).2.2.2.2.1)) fun v31=>
     aP (lJ ((!(decide (v31>0))) || (decide (s4.1<((v2.1.getD s2.1.toNat default).2.2.2.1)))) 24) fun v32=>
      if ((v32 != 0) || (!(decide (v31>0))))=true then
       .out (some (if (v32 != 0)=true then
        .out (some ([],v32))
        else .next (IntKind.i64.wrap (s2.1+1),s4.2.1,s4.2.2)))
       else if ((s4.2.2.length:Int) == 200)=true then
        .out (some (.out (some ([],8))))
        else aP (JO v1.1 v1.2.1 v1.2.2.1 v1.2.2.2.1 v1.2.2.2.2.1 v1.2.2.2.2.2.1 v1.2.2.2.2.2.2.1 v1.2.2.2.2.2.2.2.1 v1.2.2.2.2.2.2.2.2.1 ((v2.1.getD s2.1.toNat default).2.1) v1.2.2.2.2.2.2.2.1 75) fun v33=>
         aP (U5 v1.1 v1.2.1 v1.2.2.1 v1.2.2.2.1 s4.2.1 v33.1 v33.2) fun v34=>
          if (v34.2 != 0)=true then
           if (v34.2 != 0)=true then
            .out (some (if (v34.2 != 0)=true then
             .out (some ([],v34.2))
             else .next (IntKind.i64.wrap (s2.1+1),s4.2.1,s4.2.2)))
            else .next (IntKind.i64.wrap (s4.1+1),s4.2.1,s4.2.2)
           else if (s4.2.2.length+1)*16≤140737488355328∧s4.2.2.length+1≤9223372036854775807 then
            .next (IntKind.i64.wrap (s4.1+1),v34.1,s4.2.2++[((v2.1.getD s2.1.toNat default).2.1,v1.2.2.2.2.2.2.2.1)])
            else .out none
    else .out none
   else aP (lJ ((!(decide (s4.1<((v2.1.getD s2.1.toNat default).2.2.2.1)))) || (decide (s4.1<((v2.1.getD s2.1.toNat default).2.2.2.1)))) 24) fun v37=>
    if ((v37 != 0) || (!(decide (s4.1<((v2.1.getD s2.1.toNat default).2.2.2.1)))))=true then
     .out (some (if (v37 != 0)=true then
      .out (some ([],v37))
      else .next (IntKind.i64.wrap (s2.1+1),s4.2.1,s4.2.2)))
     else if ((s4.2.2.length:Int) == 200)=true then
      .out (some (.out (some ([],8))))
      else aP (JO v1.1 v1.2.1 v1.2.2.1 v1.2.2.2.1 v1.2.2.2.2.1 v1.2.2.2.2.2.1 v1.2.2.2.2.2.2.1 v1.2.2.2.2.2.2.2.1 v1.2.2.2.2.2.2.2.2.1 ((v2.1.getD s2.1.toNat default).2.1) v1.2.2.2.2.2.2.2.1 75) fun v38=>
       aP (U5 v1.1 v1.2.1 v1.2.2.1 v1.2.2.2.1 s4.2.1 v38.1 v38.2) fun v39=>
        if (v39.2 != 0)=true then
         if (v39.2 != 0)=true then
          .out (some (if (v39.2 != 0)=true then
           .out (some ([],v39.2))
           else .next (IntKind.i64.wrap (s2.1+1),s4.2.1,s4.2.2)))
          else .next (IntKind.i64.wrap (s4.1+1),s4.2.1,s4.2.2)
         else if (s4.2.2.length+1)*16≤140737488355328∧s4.2.2.length+1≤9223372036854775807 then
          .next (IntKind.i64.wrap (s4.1+1),v39.1,s4.2.2++[((v2.1.getD s2.1.toNat default).2.1,v1.2.2.2.2.2.2.2.1)])
          else .out none
def acu (v1:Int×Int×au×aj×aZ×aZ×au×Int×Int×Int) (v2:bD×Int):Bd (Int×aZ×(List (Int×Int))) (au×Int):=fun s2=>
 if (decide (s2.1<(v2.1.length:Int)))=true then
  if 0≤s2.1∧s2.1<(v2.1.length:Int) then
   aP (r94 ((v2.1.getD s2.1.toNat default).1)) fun v8=>
    if v8=true then
     (aS (acs v1 v2 s2) 1000000000 (0,s2.2.1,s2.2.2)).getD (.out none)
     else (aS (acr v1 v2 s2) 1000000000 (0,s2.2.1,s2.2.2)).getD (.out none)
   else .out none
  else .out (some (s2.2.2,0))
def acv (v1:Int×Int×au×aj×aZ×aZ×au×Int×Int×Int) (v2:bD×Int):Bd (Int×Int) (au×Int):=fun s1=>
 if (decide (s1.2<(v2.1.length:Int)))=true then
  if 0≤s1.2∧s1.2<(v2.1.length:Int) then
   aP (r43 v1.1 v1.2.1 v1.2.2.1 v1.2.2.2.1 v1.2.2.2.2.1 v1.2.2.2.2.2.1 v1.2.2.2.2.2.2.1 v1.2.2.2.2.2.2.2.1 v1.2.2.2.2.2.2.2.2.1) fun v3=>
    aP (yJ ((v2.1.getD s1.2.toNat default).2.2.1) 0 v3) fun v4=>
     aP (lJ v4 6) fun v5=>
      aP (vP [s1.1,v5]) fun v6=>
       .next (v6,IntKind.i64.wrap (s1.2+1))
   else .out none
  else .out (if (s1.1 != 0)=true then
   some ([],s1.1)
   else aS (acu v1 v2) 1000000000 (0,v1.2.2.2.2.1,[]))
def r27 (x0 x1:Int) (x2:au) (x3:aj) (x4 x5:aZ) (x6:au) (x7 x8:Int) (a1:bD):Option (au×Int):=
 (r61 x0 x1 x2 x3 x4 x5 x6 x7 x8).bind fun v1=>
  if (v1.2.2.2.2.2.2.2.2.2 != 0)=true then
   some ([],v1.2.2.2.2.2.2.2.2.2)
   else (r62 a1).bind fun v2=>
    aS (acv v1 v2) 1000000000 (v2.2,0)
@[go_sem] def T27:=arK aen false r27
@[go_sem] def amX (k:Nat):=lk [(37,T37.sp),(38,T38.sp),(39,T39.sp),(43,T43.sp),(61,T61.sp),(62,T62.sp),(73,T73.sp),(74,T74.sp),(78,T78.sp),(94,T94.sp)] k
theorem lX:fC Tryz.prog amX:= .cons f37 (.cons f38 (.cons f39 (.cons f43 (.cons f61 (.cons f62 (.cons f73 (.cons f74 (.cons f78 (.cons f94 .nil)))))))))
theorem f27:aF Tryz.prog 27 T27.sp:=by
 refine vm (tb:=amX) (.cons f37 (.cons f38 (.cons f39 (.cons f43 (.cons f61 (.cons f62 (.cons f73 (.cons f74 (.cons f78 (.cons f94 .nil)))))))))) Tryz.func27 Tryz.ntmps27 fun ⟨x0,x1,x2,x3,x4,x5,x6,x7,x8,a1⟩ r hr stop S=> ?_
 rw [HY,r27] at hr
 refine S.gx [12,16] ?_
 obtain ⟨v1,hv1,hr⟩:=aA hr
 refine gb hv1 ?_
 refine iW hr (fun hc hr=>D0 hr) fun hc hr=> ?_
 obtain ⟨v2,hv2,hr⟩:=aA hr
 refine gb hv2 ?_
 refine S.sees [6,7,8,28,29,30] [(6,6)] [(25,25)] ?_ (Stop.iter S (fun s1=>⟨[(6,.c (.ref 6 0)),(7,.c (.d (.int .i64 s1.1))),(8,.c (.own 25)),(28,.c (.own 25)),(29,.c (.d (.int .i64 (v2.1.length:Int)))),(30,.c (.d (.int .i64 s1.2)))],[(6,[.d (.int .i64 v1.1),.d (.int .i64 v1.2.1),.d (ah 2 aO v1.2.2.1),.d (ah 1 aN v1.2.2.2.1),.d (ah 1 cO v1.2.2.2.2.1),.d (ah 1 cO v1.2.2.2.2.2.1),.d (ah 2 aO v1.2.2.2.2.2.2.1),.d (.int .i64 v1.2.2.2.2.2.2.2.1),.d (.int .i64 v1.2.2.2.2.2.2.2.2.1)])],[(25,.owned (ah 6 bF v2.1))]⟩) (acv v1 v2) (fun q=>q=r) hr rfl ?_)
 ·exact lf
 ·intro s1 hr
  unfold acv at hr
  refine S.gx [12,16] ?_
  refine gr ?_
  refine dM hr (fun hc hr=>D1 (S.ss [6,7,8,28,29,30] [(6,6)] [(25,25)]) hr) fun hc hr=> ?_
  refine gr ?_
  have hr:=bK hr
  refine gr ?_
  refine iW hr (fun hc hr=>D0 hr) fun hc hr=> ?_
  refine gr ?_
  refine S.inl 1 [8] [] Tryz.func40 (by decide) rfl Tryz.ntmps40 (fun cx e=>aT bT lX cx e) (some 48) rfl rfl rfl rfl (nL rfl) (nL rfl) ?_
  refine gs ?_
  refine gr ?_
  intro stop1 S1
  refine S1.gx [] ?_
  refine gr ?_
  refine gr ?_
  refine S.gx [12,16] ?_
  refine gr ?_
  refine S.pW 9 10 2000910 2 rfl rfl (nL rfl) rfl ?_
  refine S.sees [11,49,50,51] [(9,9)] [(2000910,2000910),(25,25)] ?_ (Stop.iter S (fun s2=>⟨[(11,.c (.ref 9 0)),(49,.c (.own 25)),(50,.c (.d (.int .i64 (v2.1.length:Int)))),(51,.c (.d (.int .i64 s2.1)))],[(9,[.d (.int .i64 v1.1),.d (.int .i64 v1.2.1),.d (ah 2 aO v1.2.2.1),.d (ah 1 aN v1.2.2.2.1),.d (ah 1 cO v1.2.2.2.2.1),.d (ah 1 cO v1.2.2.2.2.2.1),.d (ah 2 aO v1.2.2.2.2.2.2.1),.d (.int .i64 v1.2.2.2.2.2.2.2.1),.d (.int .i64 v1.2.2.2.2.2.2.2.2.1),.d (ah 1 cO s2.2.1),.own 2000910])],[(2000910,.owned (ah 2 aO s2.2.2)),(25,.owned (ah 6 bF v2.1))]⟩) (acu v1 v2) (fun q=>q=r) hr rfl ?_)
  ·exact lf
  ·intro s2 hr
   unfold acu at hr
   refine S.gx [12,16] ?_
   refine gr ?_
   refine dM hr (fun hc hr=> ?_) fun hc hr=>D0 hr
   obtain ⟨aFO,hr⟩:=aC hr
   refine gr ?_
   refine S.inl 2 [11,49,50,51] [] Tryz.func63 (by decide) rfl Tryz.ntmps63 (fun cx e=>aT bT lX cx e) (some 57) rfl rfl rfl rfl (nL rfl) (nL rfl) ?_
   refine gs ?_
   refine gr ?_
   intro stop1 S1
   refine S1.gx [6,9] ?_
   obtain ⟨v8,Xk,hr⟩:=aQ hr
   refine gb Xk ?_
   refine dM hr (fun hc hr=> ?_) fun hc hr=> ?_
   ·refine gr ?_
    obtain ⟨q3,hq,hr⟩:=iQ hr
    refine S1.sees [0,3,5,6] [(9,9),(3,3),(5,5)] [(25,25),(2000910,2000910)] ?_ (Stop.iter S1 (fun s3=>⟨[(0,.c (.ref 9 0)),(3,.c (.ref 3 0)),(5,.c (.ref 5 0)),(6,.c (.d (.int .i64 s3.1)))],[(9,[.d (.int .i64 v1.1),.d (.int .i64 v1.2.1),.d (ah 2 aO v1.2.2.1),.d (ah 1 aN v1.2.2.2.1),.d (ah 1 cO v1.2.2.2.2.1),.d (ah 1 cO v1.2.2.2.2.2.1),.d (ah 2 aO v1.2.2.2.2.2.2.1),.d (.int .i64 v1.2.2.2.2.2.2.2.1),.d (.int .i64 v1.2.2.2.2.2.2.2.2.1),.d (ah 1 cO s3.2.1),.own 2000910]),(3,[.d (.int .i64 ((v2.1.getD s2.1.toNat default).1)),.d (.int .i64 ((v2.1.getD s2.1.toNat default).2.1)),.d (.int .i64 ((v2.1.getD s2.1.toNat default).2.2.1)),.d (.int .i64 ((v2.1.getD s2.1.toNat default).2.2.2.1)),.d (.int .i64 ((v2.1.getD s2.1.toNat default).2.2.2.2.1)),.d (hE ((v2.1.getD s2.1.toNat default).2.2.2.2.2))]),(5,[.d (.int .i64 ((v2.1.getD s2.1.toNat default).2.1)),.d (.int .i64 ((v2.1.getD s2.1.toNat default).2.2.1))])],[(25,.owned (ah 6 bF v2.1)),(2000910,.owned (ah 2 aO s3.2.2))]⟩) (acs v1 v2 s2) _ hq hr ?_)
    ·exact lf
    ·intro s3 hr
     unfold acs at hr
     refine S1.gx [6,9] ?_
     refine gr ?_
     refine S1.inl 3 [0,3,5,6] [] Tryz.func95 (by decide) rfl Tryz.ntmps95 (fun cx e=>aT bT lX cx e) (some 31) rfl rfl rfl rfl (nL rfl) (nL rfl) ?_
     refine gs ?_
     refine gr ?_
     intro stop2 S2
     refine S2.gx [] ?_
     refine gr ?_
     refine dM hr (fun hc hr=> ?_) fun hc hr=> ?_
     ·obtain ⟨Xo,hr⟩:=aC hr
      obtain ⟨v9,hv9,hr⟩:=aQ hr
      obtain ⟨v10,vV,hr⟩:=aQ hr
      try simp only [hv9,vV,Option.getD_some,Option.isSome_some,true_and,and_assoc]
      repeat (first | refine gA ?_ | refine gB ?_)
      refine gr ?_
      refine S1.gx [6,9] ?_
      repeat (first | refine gA ?_ | refine gB ?_)
      refine dM hr (fun hc hr=> ?_) fun hc hr=> ?_
      ·refine gr ?_
       replace hr:=bC hr
       refine gr ?_
       refine S.gx [12,16] ?_
       exact D1 (S.ss [11,49,50,51] [(9,9)] [(2000910,2000910),(25,25)]) hr
      ·refine gr ?_
       refine S1.inl 2 [0,3,5,6] [] Tryz.func41 (by decide) rfl Tryz.ntmps41 (fun cx e=>aT bT lX cx e) (some 43) rfl rfl rfl rfl (nL rfl) (nL rfl) ?_
       refine gs ?_
       refine gr ?_
       intro stop2 S2
       refine S2.gx [4] ?_
       refine gr ?_
       refine dM hr (fun hc hr=> ?_) fun hc hr=> ?_
       ·refine gr ?_
        refine gr ?_
        refine S1.gx [6,9] ?_
        refine gr ?_
        replace hr:=bC hr
        refine gr ?_
        refine S.gx [12,16] ?_
        exact D0 hr
       ·obtain ⟨v11,Dv,hr⟩:=aQ hr
        obtain ⟨v12,Du,hr⟩:=aQ hr
        refine gb Dv ?_
        refine gb Du ?_
        refine S2.prune [0,4,7,8] ?_
        refine S2.gx [] ?_
        refine gr ?_
        refine gr ?_
        refine dM hr (fun hc hr=> ?_) fun hc hr=> ?_
        ·refine gr ?_
         refine gr ?_
         refine S1.gx [6,9] ?_
         refine gr ?_
         refine dM hr (fun hc hr=> ?_) fun hc hr=>D1 (S1.ss [0,3,5,6] [(9,9),(3,3),(5,5)] [(25,25),(2000910,2000910)]) hr
         refine gr ?_
         replace hr:=bC hr
         refine gr ?_
         refine S.gx [12,16] ?_
         exact D1 (S.ss [11,49,50,51] [(9,9)] [(2000910,2000910),(25,25)]) hr
        ·obtain ⟨LX,hr⟩:=aC hr
         refine gr ?_
         refine gr ?_
         refine S1.gx [6,9] ?_
         refine gr ?_
         refine S1.share 33 rfl ?_
         exact D1 (S1.ss [0,3,5,6] [(9,9),(3,3),(5,5)] [(25,25),(48,2000910)]) hr
     ·refine gr ?_
      refine dM hr (fun hc hr=> ?_) fun hc hr=> ?_
      ·obtain ⟨Xn,hr⟩:=aC hr
       obtain ⟨v15,aji,hr⟩:=aQ hr
       obtain ⟨v16,aaw,hr⟩:=aQ hr
       try simp only [aji,aaw,Option.getD_some,Option.isSome_some,true_and,and_assoc]
       repeat (first | refine gA ?_ | refine gB ?_)
       refine gr ?_
       refine S1.gx [6,9] ?_
       repeat (first | refine gA ?_ | refine gB ?_)
       refine dM hr (fun hc hr=> ?_) fun hc hr=> ?_
       ·refine gr ?_
        replace hr:=bC hr
        refine gr ?_
        refine S.gx [12,16] ?_
        exact D1 (S.ss [11,49,50,51] [(9,9)] [(2000910,2000910),(25,25)]) hr
       ·refine gr ?_
        refine S1.inl 2 [0,3,5,6] [] Tryz.func41 (by decide) rfl Tryz.ntmps41 (fun cx e=>aT bT lX cx e) (some 43) rfl rfl rfl rfl (nL rfl) (nL rfl) ?_
        refine gs ?_
        refine gr ?_
        intro stop2 S2
        refine S2.gx [4] ?_
        refine gr ?_
        refine dM hr (fun hc hr=> ?_) fun hc hr=> ?_
        ·refine gr ?_
         refine gr ?_
         refine S1.gx [6,9] ?_
         refine gr ?_
         replace hr:=bC hr
         refine gr ?_
         refine S.gx [12,16] ?_
         exact D0 hr
        ·obtain ⟨v17,PL,hr⟩:=aQ hr
         obtain ⟨v18,PK,hr⟩:=aQ hr
         refine gb PL ?_
         refine gb PK ?_
         refine S2.prune [0,4,7,8] ?_
         refine S2.gx [] ?_
         refine gr ?_
         refine gr ?_
         refine dM hr (fun hc hr=> ?_) fun hc hr=> ?_
         ·refine gr ?_
          refine gr ?_
          refine S1.gx [6,9] ?_
          refine gr ?_
          refine dM hr (fun hc hr=> ?_) fun hc hr=>D1 (S1.ss [0,3,5,6] [(9,9),(3,3),(5,5)] [(25,25),(2000910,2000910)]) hr
          refine gr ?_
          replace hr:=bC hr
          refine gr ?_
          refine S.gx [12,16] ?_
          exact D1 (S.ss [11,49,50,51] [(9,9)] [(2000910,2000910),(25,25)]) hr
         ·obtain ⟨aeV,hr⟩:=aC hr
          refine gr ?_
          refine gr ?_
          refine S1.gx [6,9] ?_
          refine gr ?_
          refine S1.share 33 rfl ?_
          exact D1 (S1.ss [0,3,5,6] [(9,9),(3,3),(5,5)] [(25,25),(48,2000910)]) hr
      ·obtain ⟨v21,aav,hr⟩:=aQ hr
       try simp only [aav,oG,oI,true_and,and_assoc]
       repeat (first | refine gA ?_ | refine gB ?_)
       refine gr ?_
       refine S1.gx [6,9] ?_
       repeat (first | refine gA ?_ | refine gB ?_)
       refine dM hr (fun hc hr=> ?_) fun hc hr=> ?_
       ·refine gr ?_
        replace hr:=bC hr
        refine gr ?_
        refine S.gx [12,16] ?_
        exact D1 (S.ss [11,49,50,51] [(9,9)] [(2000910,2000910),(25,25)]) hr
       ·refine gr ?_
        refine S1.inl 2 [0,3,5,6] [] Tryz.func41 (by decide) rfl Tryz.ntmps41 (fun cx e=>aT bT lX cx e) (some 43) rfl rfl rfl rfl (nL rfl) (nL rfl) ?_
        refine gs ?_
        refine gr ?_
        intro stop2 S2
        refine S2.gx [4] ?_
        refine gr ?_
        refine dM hr (fun hc hr=> ?_) fun hc hr=> ?_
        ·refine gr ?_
         refine gr ?_
         refine S1.gx [6,9] ?_
         refine gr ?_
         replace hr:=bC hr
         refine gr ?_
         refine S.gx [12,16] ?_
         exact D0 hr
        ·obtain ⟨v22,aau,hr⟩:=aQ hr
         obtain ⟨v23,ajh,hr⟩:=aQ hr
         refine gb aau ?_
         refine gb ajh ?_
         refine S2.prune [0,4,7,8] ?_
         refine S2.gx [] ?_
         refine gr ?_
         refine gr ?_
         refine dM hr (fun hc hr=> ?_) fun hc hr=> ?_
         ·refine gr ?_
          refine gr ?_
          refine S1.gx [6,9] ?_
          refine gr ?_
          refine dM hr (fun hc hr=> ?_) fun hc hr=>D1 (S1.ss [0,3,5,6] [(9,9),(3,3),(5,5)] [(25,25),(2000910,2000910)]) hr
          refine gr ?_
          replace hr:=bC hr
          refine gr ?_
          refine S.gx [12,16] ?_
          exact D1 (S.ss [11,49,50,51] [(9,9)] [(2000910,2000910),(25,25)]) hr
         ·obtain ⟨Xm,hr⟩:=aC hr
          refine gr ?_
          refine gr ?_
          refine S1.gx [6,9] ?_
          refine gr ?_
          refine S1.share 33 rfl ?_
          exact D1 (S1.ss [0,3,5,6] [(9,9),(3,3),(5,5)] [(25,25),(48,2000910)]) hr
   ·refine gr ?_
    obtain ⟨q4,hq,hr⟩:=iQ hr
    refine S1.sees [0,3,5,6] [(9,9),(3,3),(5,5)] [(25,25),(2000910,2000910)] ?_ (Stop.iter S1 (fun s4=>⟨[(0,.c (.ref 9 0)),(3,.c (.ref 3 0)),(5,.c (.ref 5 0)),(6,.c (.d (.int .i64 s4.1)))],[(9,[.d (.int .i64 v1.1),.d (.int .i64 v1.2.1),.d (ah 2 aO v1.2.2.1),.d (ah 1 aN v1.2.2.2.1),.d (ah 1 cO v1.2.2.2.2.1),.d (ah 1 cO v1.2.2.2.2.2.1),.d (ah 2 aO v1.2.2.2.2.2.2.1),.d (.int .i64 v1.2.2.2.2.2.2.2.1),.d (.int .i64 v1.2.2.2.2.2.2.2.2.1),.d (ah 1 cO s4.2.1),.own 2000910]),(3,[.d (.int .i64 ((v2.1.getD s2.1.toNat default).1)),.d (.int .i64 ((v2.1.getD s2.1.toNat default).2.1)),.d (.int .i64 ((v2.1.getD s2.1.toNat default).2.2.1)),.d (.int .i64 ((v2.1.getD s2.1.toNat default).2.2.2.1)),.d (.int .i64 ((v2.1.getD s2.1.toNat default).2.2.2.2.1)),.d (hE ((v2.1.getD s2.1.toNat default).2.2.2.2.2))]),(5,[.d (.int .i64 ((v2.1.getD s2.1.toNat default).2.1)),.d (.int .i64 v1.2.2.2.2.2.2.2.1)])],[(25,.owned (ah 6 bF v2.1)),(2000910,.owned (ah 2 aO s4.2.2))]⟩) (acr v1 v2 s2) _ hq hr ?_)
    ·exact lf
    ·intro s4 hr
     unfold acr at hr
     refine S1.gx [6,9] ?_
     refine gr ?_
     refine S1.inl 3 [0,3,5,6] [] Tryz.func95 (by decide) rfl Tryz.ntmps95 (fun cx e=>aT bT lX cx e) (some 31) rfl rfl rfl rfl (nL rfl) (nL rfl) ?_
     refine gs ?_
     refine gr ?_
     intro stop2 S2
     refine S2.gx [] ?_
     refine gr ?_
     refine dM hr (fun hc hr=> ?_) fun hc hr=> ?_
     ·obtain ⟨aAI,hr⟩:=aC hr
      obtain ⟨v25,hv25,hr⟩:=aQ hr
      obtain ⟨v26,aat,hr⟩:=aQ hr
      try simp only [hv25,aat,Option.getD_some,Option.isSome_some,true_and,and_assoc]
      repeat (first | refine gA ?_ | refine gB ?_)
      refine gr ?_
      refine S1.gx [6,9] ?_
      repeat (first | refine gA ?_ | refine gB ?_)
      refine dM hr (fun hc hr=> ?_) fun hc hr=> ?_
      ·refine gr ?_
       replace hr:=bC hr
       refine gr ?_
       refine S.gx [12,16] ?_
       exact D1 (S.ss [11,49,50,51] [(9,9)] [(2000910,2000910),(25,25)]) hr
      ·refine gr ?_
       refine S1.inl 2 [0,3,5,6] [] Tryz.func41 (by decide) rfl Tryz.ntmps41 (fun cx e=>aT bT lX cx e) (some 43) rfl rfl rfl rfl (nL rfl) (nL rfl) ?_
       refine gs ?_
       refine gr ?_
       intro stop2 S2
       refine S2.gx [4] ?_
       refine gr ?_
       refine dM hr (fun hc hr=> ?_) fun hc hr=> ?_
       ·refine gr ?_
        refine gr ?_
        refine S1.gx [6,9] ?_
        refine gr ?_
        replace hr:=bC hr
        refine gr ?_
        refine S.gx [12,16] ?_
        exact D0 hr
       ·obtain ⟨v27,hv27,hr⟩:=aQ hr
        obtain ⟨v28,hv28,hr⟩:=aQ hr
        refine gb hv27 ?_
        refine gb hv28 ?_
        refine S2.prune [0,4,7,8] ?_
        refine S2.gx [] ?_
        refine gr ?_
        refine gr ?_
        refine dM hr (fun hc hr=> ?_) fun hc hr=> ?_
        ·refine gr ?_
         refine gr ?_
         refine S1.gx [6,9] ?_
         refine gr ?_
         refine dM hr (fun hc hr=> ?_) fun hc hr=>D1 (S1.ss [0,3,5,6] [(9,9),(3,3),(5,5)] [(25,25),(2000910,2000910)]) hr
         refine gr ?_
         replace hr:=bC hr
         refine gr ?_
         refine S.gx [12,16] ?_
         exact D1 (S.ss [11,49,50,51] [(9,9)] [(2000910,2000910),(25,25)]) hr
        ·obtain ⟨atr,hr⟩:=aC hr
         refine gr ?_
         refine gr ?_
         refine S1.gx [6,9] ?_
         refine gr ?_
         refine S1.share 33 rfl ?_
         exact D1 (S1.ss [0,3,5,6] [(9,9),(3,3),(5,5)] [(25,25),(48,2000910)]) hr
     ·refine gr ?_
      refine dM hr (fun hc hr=> ?_) fun hc hr=> ?_
      ·obtain ⟨atp,hr⟩:=aC hr
       obtain ⟨v31,hv31,hr⟩:=aQ hr
       obtain ⟨v32,hv32,hr⟩:=aQ hr
       try simp only [hv31,hv32,Option.getD_some,Option.isSome_some,true_and,and_assoc]
       repeat (first | refine gA ?_ | refine gB ?_)
       refine gr ?_
       refine S1.gx [6,9] ?_
       repeat (first | refine gA ?_ | refine gB ?_)
       refine dM hr (fun hc hr=> ?_) fun hc hr=> ?_
       ·refine gr ?_
        replace hr:=bC hr
        refine gr ?_
        refine S.gx [12,16] ?_
        exact D1 (S.ss [11,49,50,51] [(9,9)] [(2000910,2000910),(25,25)]) hr
       ·refine gr ?_
        refine S1.inl 2 [0,3,5,6] [] Tryz.func41 (by decide) rfl Tryz.ntmps41 (fun cx e=>aT bT lX cx e) (some 43) rfl rfl rfl rfl (nL rfl) (nL rfl) ?_
        refine gs ?_
        refine gr ?_
        intro stop2 S2
        refine S2.gx [4] ?_
        refine gr ?_
        refine dM hr (fun hc hr=> ?_) fun hc hr=> ?_
        ·refine gr ?_
         refine gr ?_
         refine S1.gx [6,9] ?_
         refine gr ?_
         replace hr:=bC hr
         refine gr ?_
         refine S.gx [12,16] ?_
         exact D0 hr
        ·obtain ⟨v33,aas,hr⟩:=aQ hr
         obtain ⟨v34,hv34,hr⟩:=aQ hr
         refine gb aas ?_
         refine gb hv34 ?_
         refine S2.prune [0,4,7,8] ?_
         refine S2.gx [] ?_
         refine gr ?_
         refine gr ?_
         refine dM hr (fun hc hr=> ?_) fun hc hr=> ?_
         ·refine gr ?_
          refine gr ?_
          refine S1.gx [6,9] ?_
          refine gr ?_
          refine dM hr (fun hc hr=> ?_) fun hc hr=>D1 (S1.ss [0,3,5,6] [(9,9),(3,3),(5,5)] [(25,25),(2000910,2000910)]) hr
          refine gr ?_
          replace hr:=bC hr
          refine gr ?_
          refine S.gx [12,16] ?_
          exact D1 (S.ss [11,49,50,51] [(9,9)] [(2000910,2000910),(25,25)]) hr
         ·obtain ⟨atq,hr⟩:=aC hr
          refine gr ?_
          refine gr ?_
          refine S1.gx [6,9] ?_
          refine gr ?_
          refine S1.share 33 rfl ?_
          exact D1 (S1.ss [0,3,5,6] [(9,9),(3,3),(5,5)] [(25,25),(48,2000910)]) hr
      ·obtain ⟨v37,ajf,hr⟩:=aQ hr
       try simp only [ajf,oG,oI,true_and,and_assoc]
       repeat (first | refine gA ?_ | refine gB ?_)
       refine gr ?_
       refine S1.gx [6,9] ?_
       repeat (first | refine gA ?_ | refine gB ?_)
       refine dM hr (fun hc hr=> ?_) fun hc hr=> ?_
       ·refine gr ?_
        replace hr:=bC hr
        refine gr ?_
        refine S.gx [12,16] ?_
        exact D1 (S.ss [11,49,50,51] [(9,9)] [(2000910,2000910),(25,25)]) hr
       ·refine gr ?_
        refine S1.inl 2 [0,3,5,6] [] Tryz.func41 (by decide) rfl Tryz.ntmps41 (fun cx e=>aT bT lX cx e) (some 43) rfl rfl rfl rfl (nL rfl) (nL rfl) ?_
        refine gs ?_
        refine gr ?_
        intro stop2 S2
        refine S2.gx [4] ?_
        refine gr ?_
        refine dM hr (fun hc hr=> ?_) fun hc hr=> ?_
        ·refine gr ?_
         refine gr ?_
         refine S1.gx [6,9] ?_
         refine gr ?_
         replace hr:=bC hr
         refine gr ?_
         refine S.gx [12,16] ?_
         exact D0 hr
        ·obtain ⟨v38,hv38,hr⟩:=aQ hr
         obtain ⟨v39,hv39,hr⟩:=aQ hr
         refine gb hv38 ?_
         refine gb hv39 ?_
         refine S2.prune [0,4,7,8] ?_
         refine S2.gx [] ?_
         refine gr ?_
         refine gr ?_
         refine dM hr (fun hc hr=> ?_) fun hc hr=> ?_
         ·refine gr ?_
          refine gr ?_
          refine S1.gx [6,9] ?_
          refine gr ?_
          refine dM hr (fun hc hr=> ?_) fun hc hr=>D1 (S1.ss [0,3,5,6] [(9,9),(3,3),(5,5)] [(25,25),(2000910,2000910)]) hr
          refine gr ?_
          replace hr:=bC hr
          refine gr ?_
          refine S.gx [12,16] ?_
          exact D1 (S.ss [11,49,50,51] [(9,9)] [(2000910,2000910),(25,25)]) hr
         ·obtain ⟨aAD,hr⟩:=aC hr
          refine gr ?_
          refine gr ?_
          refine S1.gx [6,9] ?_
          refine gr ?_
          refine S1.share 33 rfl ?_
          exact D1 (S1.ss [0,3,5,6] [(9,9),(3,3),(5,5)] [(25,25),(48,2000910)]) hr
def r67:Option (bg×aW×bf×au×Int×Int×Int×Int):=
 some ([(650,1000000,1000000,1)],[],[(500,1000000,1000000)],[],200,250,400,800)
@[go_sem] def T67:=qT0 apI false r67
theorem f67:aF Tryz.prog 67 T67.sp:=by
 refine vm .nil Tryz.func67 Tryz.ntmps67 fun _ r hr stop S=> ?_
 rw [uq0,r67] at hr
 refine S.gx [] ?_
 exact D0 hr
def r31:Option (Int×Int×au×aj×aZ×aZ×au×Int×Int×bg×aW×bf×au×Int×Int×Int×Int×bf×Int):=
 (r28).bind fun v1=>
  (r67).bind fun v2=>
   some (v1.1,v1.2.1,v1.2.2.1,v1.2.2.2.1,v1.2.2.2.2.1,v1.2.2.2.2.2.1,v1.2.2.2.2.2.2.1,v1.2.2.2.2.2.2.2.1,v1.2.2.2.2.2.2.2.2,v2.1,v2.2.1,v2.2.2.1,v2.2.2.2.1,v2.2.2.2.2.1,v2.2.2.2.2.2.1,v2.2.2.2.2.2.2.1,v2.2.2.2.2.2.2.2,[(0,700,850),(2,150,250)],700)
@[go_sem] def T31:=qT0 apH true r31
@[go_sem] def ayX (k:Nat):=lk [(28,T28.sp),(67,T67.sp)] k
theorem f31:aF Tryz.prog 31 T31.sp:=by
 refine vm (tb:=ayX) (.cons f28 (.cons f67 .nil)) Tryz.func31 Tryz.ntmps31 fun _ r hr stop S=> ?_
 rw [uq0,r31] at hr
 refine S.gx [] ?_
 exact D0 hr
def r10 (a0:au):Option (au):=
 if (0+a0.length)*16≤140737488355328∧0+a0.length≤9223372036854775807 then
  some a0
  else none
@[go_sem] def T10:=qT5 qu5 false r10
theorem f10:aF Tryz.prog 10 T10.sp:=by
 refine vm .nil Tryz.func10 Tryz.ntmps10 fun a0 r hr stop S=> ?_
 rw [rF,r10] at hr
 refine S.gx [] ?_
 exact D0 hr
def QX (x0:au) (s1 s2 s3:Int×(List (Int×au×Int))):Bd (Int×(List (Int×au×Int))) (bG×bG×bG×bG):=fun s4=>
 if (decide (s4.1<(x0.length:Int)))=true then
  if 0≤s4.1∧s4.1<(x0.length:Int) then
   if (s4.2.length+1)*40≤140737488355328∧s4.2.length+1≤9223372036854775807 then
    .next (IntKind.i64.wrap (s4.1+1),s4.2++[((x0.getD s4.1.toNat default).1,[],(x0.getD s4.1.toNat default).2)])
    else .out none
   else .out none
  else .out (some (s1.2,s2.2,s3.2,s4.2))
def QY (x1:bf) (x0:au) (s1 s2:Int×(List (Int×au×Int))):Bd (Int×(List (Int×au×Int))) (bG×bG×bG×bG):=fun s3=>
 if (decide (s3.1<(x1.length:Int)))=true then
  if 0≤s3.1∧s3.1<(x1.length:Int) then
   if (s3.2.length+1)*40≤140737488355328∧s3.2.length+1≤9223372036854775807 then
    .next (IntKind.i64.wrap (s3.1+1),s3.2++[((x1.getD s3.1.toNat default).1,[((x1.getD s3.1.toNat default).2.1,(x1.getD s3.1.toNat default).2.2)],0)])
    else .out none
   else .out none
  else .out (aS (QX x0 s1 s2 s3) 1000000000 (0,[]))
def QZ (x2:aW) (x1:bf) (x0:au) (s1:Int×(List (Int×au×Int))):Bd (Int×(List (Int×au×Int))) (bG×bG×bG×bG):=fun s2=>
 if (decide (s2.1<(x2.length:Int)))=true then
  if 0≤s2.1∧s2.1<(x2.length:Int) then
   if (s2.2.length+1)*40≤140737488355328∧s2.2.length+1≤9223372036854775807 then
    .next (IntKind.i64.wrap (s2.1+1),s2.2++[((x2.getD s2.1.toNat default).1,[((x2.getD s2.1.toNat default).2.1,(x2.getD s2.1.toNat default).2.2.1),((x2.getD s2.1.toNat default).2.2.2.1,(x2.getD s2.1.toNat default).2.2.2.2)],0)])
    else .out none
   else .out none
  else .out (aS (QY x1 x0 s1 s2) 1000000000 (0,[]))
def Q5 (x3:bg) (x2:aW) (x1:bf) (x0:au):Bd (Int×(List (Int×au×Int))) (bG×bG×bG×bG):=fun s1=>
 if (decide (s1.1<(x3.length:Int)))=true then
  if 0≤s1.1∧s1.1<(x3.length:Int) then
   if (s1.2.length+1)*40≤140737488355328∧s1.2.length+1≤9223372036854775807 then
    .next (IntKind.i64.wrap (s1.1+1),s1.2++[((x3.getD s1.1.toNat default).1,[((x3.getD s1.1.toNat default).2.1,(x3.getD s1.1.toNat default).2.2.1)],(x3.getD s1.1.toNat default).2.2.2)])
    else .out none
   else .out none
  else .out (aS (QZ x2 x1 x0 s1) 1000000000 (0,[]))
def ahU (x3:bg) (x2:aW) (x1:bf) (x0:au) (x4 x5 x6 x7:Int):Option (bG×bG×bG×bG):=
 aS (Q5 x3 x2 x1 x0) 1000000000 (0,[])
@[go_sem] def au1:=aer apG true ahU
theorem f168:aF Tryz.prog 168 au1.sp:=by
 refine vm .nil Tryz.func168 Tryz.ntmps168 fun ⟨x3,x2,x1,x0,x4,x5,x6,x7⟩ r hr stop S=> ?_
 rw [uq8,ahU] at hr
 refine S.gx [] ?_
 refine gr ?_
 refine S.pW 3 0 2000300 3 rfl rfl (nL rfl) rfl ?_
 refine S.sees [1,2,3,13,14,15] [(1,1),(2,2),(3,3)] [(2000300,2000300)] ?_ (Stop.iter S (fun s1=>⟨[(1,.c (.ref 1 0)),(2,.c (.ref 2 0)),(3,.c (.ref 3 0)),(13,.c (.d (ah 4 cZ x3))),(14,.c (.d (.int .i64 (x3.length:Int)))),(15,.c (.d (.int .i64 s1.1)))],[(1,[.d (ah 4 cZ x3),.d (ah 5 bU x2),.d (ah 3 dn x1),.d (ah 2 aO x0),.d (.int .i64 x4),.d (.int .i64 x5),.d (.int .i64 x6),.d (.int .i64 x7)]),(2,[.dD,.dD,.dD,.dD]),(3,[.own 2000300,.dD,.dD,.dD])],[(2000300,.owned (ah 3 bI s1.2))]⟩) (Q5 x3 x2 x1 x0) (fun q=>q=r) hr rfl ?_)
 ·exact lf
 ·intro s1 hr
  unfold Q5 at hr
  refine S.gx [] ?_
  refine gr ?_
  refine dM hr (fun hc hr=>D1 (S.ss [1,2,3,13,14,15] [(1,1),(2,2),(3,3)] [(30,2000300)]) hr) fun hc hr=> ?_
  refine gr ?_
  have hr:=bK hr
  refine gr ?_
  refine S.pW 3 1 2000301 3 rfl rfl (nL rfl) rfl ?_
  refine S.sees [1,2,3,34,35,36] [(1,1),(2,2),(3,3)] [(2000301,2000301),(2000300,2000300)] ?_ (Stop.iter S (fun s2=>⟨[(1,.c (.ref 1 0)),(2,.c (.ref 2 0)),(3,.c (.ref 3 0)),(34,.c (.d (ah 5 bU x2))),(35,.c (.d (.int .i64 (x2.length:Int)))),(36,.c (.d (.int .i64 s2.1)))],[(1,[.d (ah 4 cZ x3),.d (ah 5 bU x2),.d (ah 3 dn x1),.d (ah 2 aO x0),.d (.int .i64 x4),.d (.int .i64 x5),.d (.int .i64 x6),.d (.int .i64 x7)]),(2,[.dD,.dD,.dD,.dD]),(3,[.own 2000300,.own 2000301,.dD,.dD])],[(2000301,.owned (ah 3 bI s2.2)),(2000300,.owned (ah 3 bI s1.2))]⟩) (QZ x2 x1 x0 s1) (fun q=>q=r) hr rfl ?_)
  ·exact lf
  ·intro s2 hr
   unfold QZ at hr
   refine S.gx [] ?_
   refine gr ?_
   refine dM hr (fun hc hr=>D1 (S.ss [1,2,3,34,35,36] [(1,1),(2,2),(3,3)] [(51,2000301),(2000300,2000300)]) hr) fun hc hr=> ?_
   refine gr ?_
   have hr:=bK hr
   refine gr ?_
   refine S.pW 3 2 2000302 3 rfl rfl (nL rfl) rfl ?_
   refine S.sees [1,2,3,55,56,57] [(1,1),(2,2),(3,3)] [(2000302,2000302),(2000300,2000300),(2000301,2000301)] ?_ (Stop.iter S (fun s3=>⟨[(1,.c (.ref 1 0)),(2,.c (.ref 2 0)),(3,.c (.ref 3 0)),(55,.c (.d (ah 3 dn x1))),(56,.c (.d (.int .i64 (x1.length:Int)))),(57,.c (.d (.int .i64 s3.1)))],[(1,[.d (ah 4 cZ x3),.d (ah 5 bU x2),.d (ah 3 dn x1),.d (ah 2 aO x0),.d (.int .i64 x4),.d (.int .i64 x5),.d (.int .i64 x6),.d (.int .i64 x7)]),(2,[.dD,.dD,.dD,.dD]),(3,[.own 2000300,.own 2000301,.own 2000302,.dD])],[(2000302,.owned (ah 3 bI s3.2)),(2000300,.owned (ah 3 bI s1.2)),(2000301,.owned (ah 3 bI s2.2))]⟩) (QY x1 x0 s1 s2) (fun q=>q=r) hr rfl ?_)
   ·exact lf
   ·intro s3 hr
    unfold QY at hr
    refine S.gx [] ?_
    refine gr ?_
    refine dM hr (fun hc hr=>D1 (S.ss [1,2,3,55,56,57] [(1,1),(2,2),(3,3)] [(70,2000302),(2000300,2000300),(2000301,2000301)]) hr) fun hc hr=> ?_
    refine gr ?_
    have hr:=bK hr
    refine gr ?_
    refine S.pW 3 3 2000303 3 rfl rfl (nL rfl) rfl ?_
    refine S.sees [2,3,74,75,76] [(2,2),(3,3)] [(2000303,2000303),(2000300,2000300),(2000301,2000301),(2000302,2000302)] ?_ (Stop.iter S (fun s4=>⟨[(2,.c (.ref 2 0)),(3,.c (.ref 3 0)),(74,.c (.d (ah 2 aO x0))),(75,.c (.d (.int .i64 (x0.length:Int)))),(76,.c (.d (.int .i64 s4.1)))],[(2,[.dD,.dD,.dD,.dD]),(3,[.own 2000300,.own 2000301,.own 2000302,.own 2000303])],[(2000303,.owned (ah 3 bI s4.2)),(2000300,.owned (ah 3 bI s1.2)),(2000301,.owned (ah 3 bI s2.2)),(2000302,.owned (ah 3 bI s3.2))]⟩) (QX x0 s1 s2 s3) (fun q=>q=r) hr rfl ?_)
    ·exact lf
    ·intro s4 hr
     unfold QX at hr
     refine S.gx [] ?_
     exact D1 (S.ss [2,3,74,75,76] [(2,2),(3,3)] [(88,2000303),(2000300,2000300),(2000301,2000301),(2000302,2000302)]) hr
def jV (a0 a1 a2:Int):Option (Bool):=
 some ((decide (a1≤a0)) && (decide (a0≤a2)))
@[go_sem] def Yn:=qT1 qE false jV
theorem f171:aF Tryz.prog 171 Yn.sp:=by
 refine vm .nil Tryz.func171 Tryz.ntmps171 fun ⟨a0,a1,a2⟩ r hr stop S=> ?_
 rw [Yq,jV] at hr
 refine S.gx [] ?_
 repeat (first | refine gA ?_ | refine gB ?_)
 exact D0 hr
def jB (a0:Int):Option (Bool):=
 (jV a0 0 1000000).bind fun v1=>
  some v1
@[go_sem] def afG:=KT qE false jB
@[go_sem] def anc (k:Nat):=lk [(171,Yn.sp)] k
theorem f173:aF Tryz.prog 173 afG.sp:=by
 refine vm (tb:=anc) (.cons f171 .nil) Tryz.func173 Tryz.ntmps173 fun a0 r hr stop S=> ?_
 rw [rF,jB] at hr
 refine S.gx [] ?_
 exact D0 hr
def ahO (x1 x0:Int):Option (Bool):=
 (jB x1).bind fun v1=>
  if (!(!v1))=true→(jB x0).isSome=true then
   some ((!v1) || (!((jB x0).getD default)))
   else none
@[go_sem] def auO:=O6 qE false ahO
@[go_sem] def am8 (k:Nat):=lk [(173,afG.sp)] k
theorem f195:aF Tryz.prog 195 auO.sp:=by
 refine vm (tb:=am8) (.cons f173 .nil) Tryz.func195 Tryz.ntmps195 fun ⟨x1,x0⟩ r hr stop S=> ?_
 rw [yK,ahO] at hr
 refine S.gx [] ?_
 obtain ⟨v1,hv1,hr⟩:=aA hr
 obtain ⟨hg2,hr⟩:=aH hr
 try simp only [hv1,oG,oI,true_and,and_assoc]
 repeat (first | refine gG hg2 ?_ | refine gA ?_ | refine gB ?_)
 exact D0 hr
def ad8 (x0 x1:Int):Option (Bool):=
 some (decide (x0>x1))
@[go_sem] def auN:=O6 qE false ad8
theorem f196:aF Tryz.prog 196 auN.sp:=by
 refine vm .nil Tryz.func196 Tryz.ntmps196 fun ⟨x0,x1⟩ r hr stop S=> ?_
 rw [yK,ad8] at hr
 refine S.gx [] ?_
 exact D0 hr
def OV (a0:Int):Option (Bool):=
 (jV a0 1 3000).bind fun v1=>
  some v1
@[go_sem] def aj9:=KT qE false OV
@[go_sem] def am7 (k:Nat):=lk [(171,Yn.sp)] k
theorem f197:aF Tryz.prog 197 aj9.sp:=by
 refine vm (tb:=am7) (.cons f171 .nil) Tryz.func197 Tryz.ntmps197 fun a0 r hr stop S=> ?_
 rw [rF,OV] at hr
 refine S.gx [] ?_
 exact D0 hr
def iJ (a0:Bool) (a1:Int):Option (Int):=
 if a0=true then
  some 0
  else some a1
@[go_sem] def NW:=qT2 lK false iJ
theorem f138:aF Tryz.prog 138 NW.sp:=by
 refine vm .nil Tryz.func138 Tryz.ntmps138 fun ⟨a0,a1⟩ r hr stop S=> ?_
 rw [yK,iJ] at hr
 refine S.gx [] ?_
 exact D0 hr
def Rl (a0:aZ):Bd Int Int:=fun s1=>
 if (decide (s1<(a0.length:Int)))=true then
  if 0≤s1∧s1<(a0.length:Int) then
   if ((a0.getD s1.toNat default) != 0)=true then
    .out (some (a0.getD s1.toNat default))
    else .next (IntKind.i64.wrap (s1+1))
   else .out none
  else .out (some 0)
def rV (a0:aZ):Option (Int):=
 aS (Rl a0) 1000000000 0
@[go_sem] def Yo:=qT3 lK false rV
theorem f135:aF Tryz.prog 135 Yo.sp:=by
 refine vm .nil Tryz.func135 Tryz.ntmps135 fun a0 r hr stop S=> ?_
 rw [rF,rV] at hr
 refine S.gx [] ?_
 refine gr ?_
 refine S.sees [5,6,7] [] [] ?_ (Stop.iter S (fun s1=>⟨[(5,.c (.d (ah 1 cO a0))),(6,.c (.d (.int .i64 (a0.length:Int)))),(7,.c (.d (.int .i64 s1)))],[],[]⟩) (Rl a0) (fun q=>q=r) hr rfl ?_)
 ·exact lf
 ·intro s1 hr
  unfold Rl at hr
  refine S.gx [] ?_
  exact D1 (S.ss [5,6,7] [] []) hr
def QV (x1:Int) (x0:au) (x2:Int) (a1:Option (Int×au×Int)) (a2 s1:Int):Bd Int Int:=fun s2=>
 if (decide (s2<(x0.length:Int)))=true then
  if 0≤s2∧s2<(x0.length:Int) then
   aP (ad8 ((x0.getD s2.toNat default).1) ((x0.getD s2.toNat default).2)) fun v2=>
    if v2=true then
     .out ((OV x1).bind fun v3=>
      if (v3 && (!(decide (s1≥0))))=true→(jB x2).isSome=true then
       (iJ ((v3 && (!(decide (s1≥0)))) && ((jB x2).getD default)) 2).bind fun v4=>
        (iJ (!(decide (s2≥0))) 3).bind fun v5=>
         (rV [v4,v5]).bind fun v6=>
          if ((v6 != 0) || (!a1.isSome))=true then
           some v6
           else if a1.isSome=true then
            if a1.isSome=true then
             if (a2 != 0)=true then
              if 0≤0∧0<(x0.length:Int) then
               if a1.isSome=true then
                if a1.isSome=true then
                 if 0≤0∧0<(((a1.getD default).2.1).length:Int) then
                  (iJ (((decide (x1>((a1.getD default).1))) && (decide ((IntKind.i64.wrap (a2*((x0.getD 0 default).1)))≥(IntKind.i64.wrap (a2*((((a1.getD default).2.1).getD 0 default).1)))))) && (decide ((IntKind.i64.wrap (a2*((x0.getD 0 default).2)))≥(IntKind.i64.wrap (a2*((((a1.getD default).2.1).getD 0 default).2)))))) 9).bind fun v7=>
                   some v7
                  else none
                 else none
                else none
               else none
              else (iJ (decide (x1>((a1.getD default).1))) 9).bind fun v12=>
               some v12
             else none
            else none
       else none)
     else .next (IntKind.i64.wrap (s2+1))
   else .out none
  else .out ((OV x1).bind fun v17=>
   if (v17 && (!(decide (s1≥0))))=true→(jB x2).isSome=true then
    (iJ ((v17 && (!(decide (s1≥0)))) && ((jB x2).getD default)) 2).bind fun v18=>
     (iJ true 3).bind fun v19=>
      (rV [v18,v19]).bind fun v20=>
       if ((v20 != 0) || (!a1.isSome))=true then
        some v20
        else if a1.isSome=true then
         if a1.isSome=true then
          if (a2 != 0)=true then
           if 0≤0∧0<(x0.length:Int) then
            if a1.isSome=true then
             if a1.isSome=true then
              if 0≤0∧0<(((a1.getD default).2.1).length:Int) then
               (iJ (((decide (x1>((a1.getD default).1))) && (decide ((IntKind.i64.wrap (a2*((x0.getD 0 default).1)))≥(IntKind.i64.wrap (a2*((((a1.getD default).2.1).getD 0 default).1)))))) && (decide ((IntKind.i64.wrap (a2*((x0.getD 0 default).2)))≥(IntKind.i64.wrap (a2*((((a1.getD default).2.1).getD 0 default).2)))))) 9).bind fun v21=>
                some v21
               else none
              else none
             else none
            else none
           else (iJ (decide (x1>((a1.getD default).1))) 9).bind fun v26=>
            some v26
          else none
         else none
    else none)
def QU (x1:Int) (x0:au) (x2:Int) (a1:Option (Int×au×Int)) (a2:Int):Bd Int Int:=fun s3=>
 if (decide (s3<(x0.length:Int)))=true then
  if 0≤s3∧s3<(x0.length:Int) then
   aP (ad8 ((x0.getD s3.toNat default).1) ((x0.getD s3.toNat default).2)) fun v31=>
    if v31=true then
     .out ((OV x1).bind fun v32=>
      if v32=true→(jB x2).isSome=true then
       (iJ (v32 && ((jB x2).getD default)) 2).bind fun v33=>
        (iJ (!(decide (s3≥0))) 3).bind fun v34=>
         (rV [v33,v34]).bind fun v35=>
          if ((v35 != 0) || (!a1.isSome))=true then
           some v35
           else if a1.isSome=true then
            if a1.isSome=true then
             if (a2 != 0)=true then
              if 0≤0∧0<(x0.length:Int) then
               if a1.isSome=true then
                if a1.isSome=true then
                 if 0≤0∧0<(((a1.getD default).2.1).length:Int) then
                  (iJ (((decide (x1>((a1.getD default).1))) && (decide ((IntKind.i64.wrap (a2*((x0.getD 0 default).1)))≥(IntKind.i64.wrap (a2*((((a1.getD default).2.1).getD 0 default).1)))))) && (decide ((IntKind.i64.wrap (a2*((x0.getD 0 default).2)))≥(IntKind.i64.wrap (a2*((((a1.getD default).2.1).getD 0 default).2)))))) 9).bind fun v36=>
                   some v36
                  else none
                 else none
                else none
               else none
              else (iJ (decide (x1>((a1.getD default).1))) 9).bind fun v41=>
               some v41
             else none
            else none
       else none)
     else .next (IntKind.i64.wrap (s3+1))
   else .out none
  else .out ((OV x1).bind fun v46=>
   if v46=true→(jB x2).isSome=true then
    (iJ (v46 && ((jB x2).getD default)) 2).bind fun v47=>
     (iJ true 3).bind fun v48=>
      (rV [v47,v48]).bind fun v49=>
       if ((v49 != 0) || (!a1.isSome))=true then
        some v49
        else if a1.isSome=true then
         if a1.isSome=true then
          if (a2 != 0)=true then
           if 0≤0∧0<(x0.length:Int) then
            if a1.isSome=true then
             if a1.isSome=true then
              if 0≤0∧0<(((a1.getD default).2.1).length:Int) then
               (iJ (((decide (x1>((a1.getD default).1))) && (decide ((IntKind.i64.wrap (a2*((x0.getD 0 default).1)))≥(IntKind.i64.wrap (a2*((((a1.getD default).2.1).getD 0 default).1)))))) && (decide ((IntKind.i64.wrap (a2*((x0.getD 0 default).2)))≥(IntKind.i64.wrap (a2*((((a1.getD default).2.1).getD 0 default).2)))))) 9).bind fun v50=>
                some v50
               else none
              else none
             else none
            else none
           else (iJ (decide (x1>((a1.getD default).1))) 9).bind fun v55=>
            some v55
          else none
         else none
    else none)
def QW (x1:Int) (x0:au) (x2:Int) (a1:Option (Int×au×Int)) (a2:Int):Bd Int Int:=fun s1=>
 if (decide (s1<(x0.length:Int)))=true then
  if 0≤s1∧s1<(x0.length:Int) then
   aP (ahO ((x0.getD s1.toNat default).1) ((x0.getD s1.toNat default).2)) fun v1=>
    if v1=true then
     .out (aS (QV x1 x0 x2 a1 a2 s1) 1000000000 0)
     else .next (IntKind.i64.wrap (s1+1))
   else .out none
  else .out (aS (QU x1 x0 x2 a1 a2) 1000000000 0)
def WM (x1:Int) (x0:au) (x2:Int) (a1:Option (Int×au×Int)) (a2:Int):Option (Int):=
 aS (QW x1 x0 x2 a1 a2) 1000000000 0
@[go_sem] def au0:=arJ lK false WM
@[go_sem] def afU (k:Nat):=lk [(135,Yo.sp),(138,NW.sp),(173,afG.sp),(195,auO.sp),(196,auN.sp),(197,aj9.sp)] k
theorem pG:fC Tryz.prog afU:= .cons f135 (.cons f138 (.cons f173 (.cons f195 (.cons f196 (.cons f197 .nil)))))
theorem f169:aF Tryz.prog 169 au0.sp:=by
 refine vm (tb:=afU) (.cons f135 (.cons f138 (.cons f173 (.cons f195 (.cons f196 (.cons f197 .nil)))))) Tryz.func169 Tryz.ntmps169 fun ⟨x1,x0,x2,a1,a2⟩ r hr stop S=> ?_
 rw [uq5,WM] at hr
 refine S.gx [1,2,5,7,10] ?_
 refine gr ?_
 refine S.inl 2 [1,2,3] [] Tryz.func194 (by decide) rfl Tryz.ntmps194 (fun cx e=>aT bT pG cx e) (some 15) rfl rfl rfl rfl (nL rfl) (nL rfl) ?_
 refine gs ?_
 refine gr ?_
 intro stop1 S1
 refine S1.gx [1] ?_
 refine gr ?_
 refine S1.inl 2 [4] [] Tryz.func214 (by decide) rfl Tryz.ntmps214 (fun cx e=>aT bT pG cx e) (some 7) rfl rfl rfl rfl (nL rfl) (nL rfl) ?_
 refine gs ?_
 refine gr ?_
 intro stop2 S2
 refine S2.gx [4] ?_
 refine gr ?_
 refine S2.sees [0,1,7,8] [(3,3)] [] ?_ (Stop.iter S2 (fun s1=>⟨[(0,.c (.d (ah 2 aO x0))),(1,.c (.clo 195 [])),(7,.c (.d (.int .i64 (x0.length:Int)))),(8,.c (.d (.int .i64 s1)))],[(3,[.d (.int .i64 x1),.d (ah 2 aO x0),.d (.int .i64 x2)])],[]⟩) (QW x1 x0 x2 a1 a2) (fun q=>q=r) hr rfl ?_)
 ·exact lf
 ·intro s1 hr
  unfold QW at hr
  refine S2.gx [4] ?_
  refine gr ?_
  refine dM hr (fun hc hr=> ?_) fun hc hr=> ?_
  ·refine gr ?_
   refine S2.gx [] ?_
   obtain ⟨aAI,hr⟩:=aC hr
   obtain ⟨v1,hv1,hr⟩:=aQ hr
   refine gb hv1 ?_
   refine gr ?_
   refine dM hr (fun hc hr=> ?_) fun hc hr=>D1 (S2.ss [0,1,7,8] [(3,3)] []) hr
   refine gr ?_
   have hr:=bK hr
   refine gr ?_
   refine S1.gx [1] ?_
   refine gr ?_
   refine gr ?_
   refine S.gx [1,2,5,7,10] ?_
   refine gr ?_
   refine S.inl 2 [1,2,3,7] [] Tryz.func194 (by decide) rfl Tryz.ntmps194 (fun cx e=>aT bT pG cx e) (some 18) rfl rfl rfl rfl (nL rfl) (nL rfl) ?_
   refine gs ?_
   refine gr ?_
   intro stop1 S1
   refine S1.gx [1] ?_
   refine gr ?_
   refine S1.inl 2 [4] [] Tryz.func214 (by decide) rfl Tryz.ntmps214 (fun cx e=>aT bT pG cx e) (some 7) rfl rfl rfl rfl (nL rfl) (nL rfl) ?_
   refine gs ?_
   refine gr ?_
   intro stop2 S2
   refine S2.gx [4] ?_
   refine gr ?_
   refine S2.sees [0,1,7,8] [(3,3)] [] ?_ (Stop.iter S2 (fun s2=>⟨[(0,.c (.d (ah 2 aO x0))),(1,.c (.clo 196 [])),(7,.c (.d (.int .i64 (x0.length:Int)))),(8,.c (.d (.int .i64 s2)))],[(3,[.d (.int .i64 x1),.d (ah 2 aO x0),.d (.int .i64 x2)])],[]⟩) (QV x1 x0 x2 a1 a2 s1) (fun q=>q=r) hr rfl ?_)
   ·exact lf
   ·intro s2 hr
    unfold QV at hr
    refine S2.gx [4] ?_
    refine gr ?_
    refine dM hr (fun hc hr=> ?_) fun hc hr=> ?_
    ·refine gr ?_
     refine S2.gx [] ?_
     obtain ⟨aAL,hr⟩:=aC hr
     obtain ⟨v2,hv2,hr⟩:=aQ hr
     refine gb hv2 ?_
     refine gr ?_
     refine dM hr (fun hc hr=> ?_) fun hc hr=>D1 (S2.ss [0,1,7,8] [(3,3)] []) hr
     refine gr ?_
     have hr:=bK hr
     refine gr ?_
     refine S1.gx [1] ?_
     refine gr ?_
     refine gr ?_
     refine S.gx [1,2,5,7,10] ?_
     obtain ⟨v3,hv3,hr⟩:=aA hr
     obtain ⟨PU,hr⟩:=aH hr
     obtain ⟨v4,hv4,hr⟩:=aA hr
     obtain ⟨v5,hv5,hr⟩:=aA hr
     obtain ⟨v6,hv6,hr⟩:=aA hr
     try simp only [hv3,hv4,hv5,hv6,Option.getD_some,Option.isSome_some,true_and,and_assoc]
     repeat (first | refine gG PU ?_ | refine gA ?_ | refine gB ?_)
     refine iW hr (fun hc hr=> ?_) fun hc hr=> ?_
     ·refine gr ?_
      refine S.prune [9] ?_
      refine S.gx [1,2,7,10] ?_
      exact D0 hr
     ·obtain ⟨LX,hr⟩:=aH hr
      obtain ⟨Xo,hr⟩:=aH hr
      refine gr ?_
      refine S.prune [1,2,3,10] ?_
      refine S.gx [1,2,5,10] ?_
      refine gr ?_
      refine gr ?_
      refine iW hr (fun hc hr=> ?_) fun hc hr=> ?_
      ·obtain ⟨Vt,hr⟩:=aH hr
       obtain ⟨hg9,hr⟩:=aH hr
       obtain ⟨Dw,hr⟩:=aH hr
       obtain ⟨LZ,hr⟩:=aH hr
       repeat (first | refine gA ?_ | refine gB ?_)
       refine S.prune [10] ?_
       refine S.gx [1,2,5,7] ?_
       exact D0 hr
      ·refine gr ?_
       refine S.prune [10] ?_
       refine S.gx [1,2,5,7] ?_
       exact D0 hr
    ·refine gr ?_
     have hr:=bK hr
     refine gr ?_
     refine gr ?_
     refine S1.gx [1] ?_
     refine gr ?_
     refine gr ?_
     refine S.gx [1,2,5,7,10] ?_
     obtain ⟨v17,PL,hr⟩:=aA hr
     obtain ⟨atr,hr⟩:=aH hr
     obtain ⟨v18,PK,hr⟩:=aA hr
     obtain ⟨v19,PI,hr⟩:=aA hr
     obtain ⟨v20,I8,hr⟩:=aA hr
     try simp only [PL,PK,PI,I8,Option.getD_some,Option.isSome_some,true_and,and_assoc]
     repeat (first | refine gG atr ?_ | refine gA ?_ | refine gB ?_)
     refine iW hr (fun hc hr=> ?_) fun hc hr=> ?_
     ·refine gr ?_
      refine S.prune [9] ?_
      refine S.gx [1,2,7,10] ?_
      exact D0 hr
     ·obtain ⟨aAK,hr⟩:=aH hr
      obtain ⟨aAJ,hr⟩:=aH hr
      refine gr ?_
      refine S.prune [1,2,3,10] ?_
      refine S.gx [1,2,5,10] ?_
      refine gr ?_
      refine gr ?_
      refine iW hr (fun hc hr=> ?_) fun hc hr=> ?_
      ·obtain ⟨aaH,hr⟩:=aH hr
       obtain ⟨aaG,hr⟩:=aH hr
       obtain ⟨Xm,hr⟩:=aH hr
       obtain ⟨ajx,hr⟩:=aH hr
       repeat (first | refine gA ?_ | refine gB ?_)
       refine S.prune [10] ?_
       refine S.gx [1,2,5,7] ?_
       exact D0 hr
      ·refine gr ?_
       refine S.prune [10] ?_
       refine S.gx [1,2,5,7] ?_
       exact D0 hr
  ·refine gr ?_
   have hr:=bK hr
   refine gr ?_
   refine gr ?_
   refine S1.gx [1] ?_
   refine gr ?_
   refine gr ?_
   refine S.gx [1,2,5,7,10] ?_
   refine gr ?_
   refine S.inl 2 [1,2,3,7] [] Tryz.func194 (by decide) rfl Tryz.ntmps194 (fun cx e=>aT bT pG cx e) (some 18) rfl rfl rfl rfl (nL rfl) (nL rfl) ?_
   refine gs ?_
   refine gr ?_
   intro stop1 S1
   refine S1.gx [1] ?_
   refine gr ?_
   refine S1.inl 2 [4] [] Tryz.func214 (by decide) rfl Tryz.ntmps214 (fun cx e=>aT bT pG cx e) (some 7) rfl rfl rfl rfl (nL rfl) (nL rfl) ?_
   refine gs ?_
   refine gr ?_
   intro stop2 S2
   refine S2.gx [4] ?_
   refine gr ?_
   refine S2.sees [0,1,7,8] [(3,3)] [] ?_ (Stop.iter S2 (fun s3=>⟨[(0,.c (.d (ah 2 aO x0))),(1,.c (.clo 196 [])),(7,.c (.d (.int .i64 (x0.length:Int)))),(8,.c (.d (.int .i64 s3)))],[(3,[.d (.int .i64 x1),.d (ah 2 aO x0),.d (.int .i64 x2)])],[]⟩) (QU x1 x0 x2 a1 a2) (fun q=>q=r) hr rfl ?_)
   ·exact lf
   ·intro s3 hr
    unfold QU at hr
    refine S2.gx [4] ?_
    refine gr ?_
    refine dM hr (fun hc hr=> ?_) fun hc hr=> ?_
    ·refine gr ?_
     refine S2.gx [] ?_
     obtain ⟨aFL,hr⟩:=aC hr
     obtain ⟨v31,hv31,hr⟩:=aQ hr
     refine gb hv31 ?_
     refine gr ?_
     refine dM hr (fun hc hr=> ?_) fun hc hr=>D1 (S2.ss [0,1,7,8] [(3,3)] []) hr
     refine gr ?_
     have hr:=bK hr
     refine gr ?_
     refine S1.gx [1] ?_
     refine gr ?_
     refine gr ?_
     refine S.gx [1,2,5,7,10] ?_
     obtain ⟨v32,hv32,hr⟩:=aA hr
     obtain ⟨aAC,hr⟩:=aH hr
     obtain ⟨v33,aas,hr⟩:=aA hr
     obtain ⟨v34,hv34,hr⟩:=aA hr
     obtain ⟨v35,ajg,hr⟩:=aA hr
     try simp only [hv32,aas,hv34,ajg,Option.getD_some,Option.isSome_some,true_and,and_assoc]
     repeat (first | refine gG aAC ?_ | refine gA ?_ | refine gB ?_)
     refine iW hr (fun hc hr=> ?_) fun hc hr=> ?_
     ·refine gr ?_
      refine S.prune [9] ?_
      refine S.gx [1,2,7,10] ?_
      exact D0 hr
     ·obtain ⟨aFN,hr⟩:=aH hr
      obtain ⟨aFM,hr⟩:=aH hr
      refine gr ?_
      refine S.prune [1,2,3,10] ?_
      refine S.gx [1,2,5,10] ?_
      refine gr ?_
      refine gr ?_
      refine iW hr (fun hc hr=> ?_) fun hc hr=> ?_
      ·obtain ⟨ato,hr⟩:=aH hr
       obtain ⟨atn,hr⟩:=aH hr
       obtain ⟨aAE,hr⟩:=aH hr
       obtain ⟨aAD,hr⟩:=aH hr
       repeat (first | refine gA ?_ | refine gB ?_)
       refine S.prune [10] ?_
       refine S.gx [1,2,5,7] ?_
       exact D0 hr
      ·refine gr ?_
       refine S.prune [10] ?_
       refine S.gx [1,2,5,7] ?_
       exact D0 hr
    ·refine gr ?_
     have hr:=bK hr
     refine gr ?_
     refine gr ?_
     refine S1.gx [1] ?_
     refine gr ?_
     refine gr ?_
     refine S.gx [1,2,5,7,10] ?_
     obtain ⟨v46,aje,hr⟩:=aA hr
     obtain ⟨aAB,hr⟩:=aH hr
     obtain ⟨v47,aAl,hr⟩:=aA hr
     obtain ⟨v48,ajd,hr⟩:=aA hr
     obtain ⟨v49,ajc,hr⟩:=aA hr
     try simp only [aje,aAl,ajd,ajc,Option.getD_some,Option.isSome_some,true_and,and_assoc]
     repeat (first | refine gG aAB ?_ | refine gA ?_ | refine gB ?_)
     refine iW hr (fun hc hr=> ?_) fun hc hr=> ?_
     ·refine gr ?_
      refine S.prune [9] ?_
      refine S.gx [1,2,7,10] ?_
      exact D0 hr
     ·obtain ⟨aFE,hr⟩:=aH hr
      obtain ⟨aFD,hr⟩:=aH hr
      refine gr ?_
      refine S.prune [1,2,3,10] ?_
      refine S.gx [1,2,5,10] ?_
      refine gr ?_
      refine gr ?_
      refine iW hr (fun hc hr=> ?_) fun hc hr=> ?_
      ·obtain ⟨aFJ,hr⟩:=aH hr
       obtain ⟨aFI,hr⟩:=aH hr
       obtain ⟨aFH,hr⟩:=aH hr
       obtain ⟨aFG,hr⟩:=aH hr
       repeat (first | refine gA ?_ | refine gB ?_)
       refine S.prune [10] ?_
       refine S.gx [1,2,5,7] ?_
       exact D0 hr
      ·refine gr ?_
       refine S.prune [10] ?_
       refine S.gx [1,2,5,7] ?_
       exact D0 hr
def ahT (a0:Int):Option (Bool):=
 (jV a0 0 2000).bind fun v1=>
  some (!v1)
@[go_sem] def auZ:=KT qE false ahT
@[go_sem] def anf (k:Nat):=lk [(171,Yn.sp)] k
theorem f170:aF Tryz.prog 170 auZ.sp:=by
 refine vm (tb:=anf) (.cons f171 .nil) Tryz.func170 Tryz.ntmps170 fun a0 r hr stop S=> ?_
 rw [rF,ahT] at hr
 refine S.gx [] ?_
 exact D0 hr
def JA (a0:aZ):Bd Int Int:=fun s1=>
 if (decide (s1<(a0.length:Int)))=true then
  if 0≤s1∧s1<(a0.length:Int) then
   aP (ahT (a0.getD s1.toNat default)) fun v1=>
    if v1=true then
     .out (some s1)
     else .next (IntKind.i64.wrap (s1+1))
   else .out none
  else .out (some (-1))
def Zn (a0:aZ):Option (Int):=
 aS (JA a0) 1000000000 0
@[go_sem] def agX:=aie lK false Zn
@[go_sem] def ahl (k:Nat):=lk [(170,auZ.sp)] k
theorem atD:aF Tryz.prog 109 agX.sp:=by
 refine vm (tb:=ahl) (.cons f170 .nil) Tryz.func109 Tryz.ntmps109 fun a0 r hr stop S=> ?_
 rw [rF,Zn] at hr
 refine S.gx [] ?_
 refine gr ?_
 refine S.sees [0,1,7,8] [] [] ?_ (Stop.iter S (fun s1=>⟨[(0,.c (.d (ah 1 cO a0))),(1,.c (.clo 170 [])),(7,.c (.d (.int .i64 (a0.length:Int)))),(8,.c (.d (.int .i64 s1)))],[],[]⟩) (JA a0) (fun q=>q=r) hr rfl ?_)
 ·exact lf
 ·intro s1 hr
  unfold JA at hr
  refine S.gx [] ?_
  exact D1 (S.ss [0,1,7,8] [] []) hr
def adZ (a0:aZ):Option (Bool):=
 (Zn a0).bind fun v1=>
  some (decide (v1≥0))
@[go_sem] def auh:=aie qE false adZ
@[go_sem] def amU (k:Nat):=lk [(109,agX.sp)] k
theorem aA4:aF Tryz.prog 76 auh.sp:=by
 refine vm (tb:=amU) (.cons atD .nil) Tryz.func76 Tryz.ntmps76 fun a0 r hr stop S=> ?_
 rw [rF,adZ] at hr
 refine S.gx [] ?_
 exact D0 hr
end Go.Proofs.YtofkgmldcjagmaaGreatDoor

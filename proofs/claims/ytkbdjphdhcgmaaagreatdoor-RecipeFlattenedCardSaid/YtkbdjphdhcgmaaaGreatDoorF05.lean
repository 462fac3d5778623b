/- Contracts of functions, written by wip/dec. -/
import Derived.Test.YtkbdjphdhcgmaaaGreatDoorF00
import Derived.Test.YtkbdjphdhcgmaaaGreatDoorF01
set_option linter.unusedVariables false
set_option linter.unusedSimpArgs false
set_option linter.constructorNameAsVariable false
set_option maxHeartbeats 4000000
set_option maxRecDepth 20000
namespace Go.Proofs.YtkbdjphdhcgmaaaGreatDoor
open Go.dR
section
variable {β:Type} [Inhabited β] (u:β->List RV) (al:Bool)
def apQ (a0:Int) (a1:au) (a2:Int) (a3:Option (Int×au×Int)) (a4:Int):List Arg:=[.agg [.int .i64 a0,ah 2 aT a1,.int .i64 a2],.c (wF bH a3),.c (.int .i64 a4)]
def arz:List Arg->Int×au×Int×(Option (Int×au×Int))×Int
 | [.agg [c0,c1,c2],.c c3,.c c4]=>(aC c0,aG bY c1,aC c2,decP nU c3,aC c4)
 | _=>default
def asI (r:Int->au->Int->(Option (Int×au×Int))->Int->Option β):=mkT (u5 apQ) arz (u5 r) u al
attribute [go_sem] apQ arz asI
def apP (a0:bn):List Arg:=[.c (ah 1 cu a0),.clo 165 []]
def arx:List Arg->bn
 | [.c c0,.clo _ []]=>aG jM c0
 | _=>default
def ai2 (r:bn->Option β):=mkT (u1 apP) arx (u1 r) u al
attribute [go_sem] apP arx ai2
def aqC (v:bD×aY×bC×au×Int×Int×Int×Int):List RV:=[.agg [.own (ah 4 dh v.1),.own (ah 5 bT v.2.1),.own (ah 3 dn v.2.2.1),.own (ah 2 aT v.2.2.2.1),.d (.int .i64 v.2.2.2.2.1),.d (.int .i64 v.2.2.2.2.2.1),.d (.int .i64 v.2.2.2.2.2.2.1),.d (.int .i64 v.2.2.2.2.2.2.2)]]
attribute [go_sem] aqC
def aqB (v:Int×Int×au×aj×bn×bn×au×Int×Int×bD×aY×bC×au×Int×Int×Int×Int×bC×Int):List RV:=[.agg [.d (.int .i64 v.1),.d (.int .i64 v.2.1),.own (ah 2 aT v.2.2.1),.own (ah 1 aQ v.2.2.2.1),.own (ah 1 cu v.2.2.2.2.1),.own (ah 1 cu v.2.2.2.2.2.1),.own (ah 2 aT v.2.2.2.2.2.2.1),.d (.int .i64 v.2.2.2.2.2.2.2.1),.d (.int .i64 v.2.2.2.2.2.2.2.2.1),.own (ah 4 dh v.2.2.2.2.2.2.2.2.2.1),.own (ah 5 bT v.2.2.2.2.2.2.2.2.2.2.1),.own (ah 3 dn v.2.2.2.2.2.2.2.2.2.2.2.1),.own (ah 2 aT v.2.2.2.2.2.2.2.2.2.2.2.2.1),.d (.int .i64 v.2.2.2.2.2.2.2.2.2.2.2.2.2.1),.d (.int .i64 v.2.2.2.2.2.2.2.2.2.2.2.2.2.2.1),.d (.int .i64 v.2.2.2.2.2.2.2.2.2.2.2.2.2.2.2.1),.d (.int .i64 v.2.2.2.2.2.2.2.2.2.2.2.2.2.2.2.2.1),.own (ah 3 dn v.2.2.2.2.2.2.2.2.2.2.2.2.2.2.2.2.2.1),.d (.int .i64 v.2.2.2.2.2.2.2.2.2.2.2.2.2.2.2.2.2.2)]]
attribute [go_sem] aqB
def aqA (v:bF×bF×bF×bF):List RV:=[.agg [.own (ah 3 bH v.1),.own (ah 3 bH v.2.1),.own (ah 3 bH v.2.2.1),.own (ah 3 bH v.2.2.2)]]
attribute [go_sem] aqA
end
def Am (v1:Int×Int×au×aj×bn×bn×au×Int×Int×Int) (v2:aK×Int) (s2:Int×bn×(List (Int×Int))):Bd (Int×bn×(List (Int×Int))) (cO (Int×bn×(List (Int×Int))) (au×Int)):=fun s3=>
 if (((v2.1.getD s2.1.toNat default).1) == 3)=true then
  if 0<=0/\0<(s3.2.1.length:Int) then
   aP (r88 v1.1 v1.2.1 v1.2.2.1 v1.2.2.2.1 v1.2.2.2.2.1 v1.2.2.2.2.2.1 v1.2.2.2.2.2.2.1 v1.2.2.2.2.2.2.2.1 v1.2.2.2.2.2.2.2.2.1 (s3.2.1.getD 0 default) ((v2.1.getD s2.1.toNat default).2.2.2.2.1)) fun v9=>
    aP (jV ((!(decide (v9<0))) || (decide (s3.1<((v2.1.getD s2.1.toNat default).2.2.2.1)))) 24) fun v10=>
     if ((v10 != 0) || (!(decide (v9<0))))=true then
      .out (some (if (v10 != 0)=true then
       .out (some ([],v10))
       else .next (IntKind.i64.wrap (s2.1+1),s3.2.1,s3.2.2)))
      else if ((s3.2.2.length:Int) == 200)=true then
       .out (some (.out (some ([],8))))
       else aP (PW v1.1 v1.2.1 v1.2.2.1 v1.2.2.2.1 v1.2.2.2.2.1 v1.2.2.2.2.2.1 v1.2.2.2.2.2.2.1 v1.2.2.2.2.2.2.2.1 v1.2.2.2.2.2.2.2.2.1 ((v2.1.getD s2.1.toNat default).2.1) ((v2.1.getD s2.1.toNat default).2.2.1) 102) fun v11=>
        aP (Xz v1.1 v1.2.1 v1.2.2.1 v1.2.2.2.1 s3.2.1 v11.1 v11.2) fun v12=>
         if (v12.2 != 0)=true then
          if (v12.2 != 0)=true then
           .out (some (if (v12.2 != 0)=true then
            .out (some ([],v12.2))
            else .next (IntKind.i64.wrap (s2.1+1),s3.2.1,s3.2.2)))
           else .next (IntKind.i64.wrap (s3.1+1),s3.2.1,s3.2.2)
          else if (s3.2.2.length+1)*16<=140737488355328/\s3.2.2.length+1<=9223372036854775807 then
           .next (IntKind.i64.wrap (s3.1+1),v12.1,s3.2.2++[((v2.1.getD s2.1.toNat default).2.1,(v2.1.getD s2.1.toNat default).2.2.1)])
           else .out none
   else .out none
  else if (((v2.1.getD s2.1.toNat default).1) == 4)=true then
   if 0<=0/\0<(s3.2.1.length:Int) then
    aP (r88 v1.1 v1.2.1 v1.2.2.1 v1.2.2.2.1 v1.2.2.2.2.1 v1.2.2.2.2.2.1 v1.2.2.2.2.2.2.1 v1.2.2.2.2.2.2.2.1 v1.2.2.2.2.2.2.2.2.1 (s3.2.1.getD 0 default) ((v2.1.getD s2.1.toNat default).2.2.2.2.1)) fun v15=>
     aP (jV ((!(decide (v15>0))) || (decide (s3.1<((v2.1.getD s2.1.toNat default).2.2.2.1)))) 24) fun v16=>
      if ((v16 != 0) || (!(decide (v15>0))))=true then
       .out (some (if (v16 != 0)=true then
        .out (some ([],v16))
        else .next (IntKind.i64.wrap (s2.1+1),s3.2.1,s3.2.2)))
       else if ((s3.2.2.length:Int) == 200)=true then
        .out (some (.out (some ([],8))))
        else aP (PW v1.1 v1.2.1 v1.2.2.1 v1.2.2.2.1 v1.2.2.2.2.1 v1.2.2.2.2.2.1 v1.2.2.2.2.2.2.1 v1.2.2.2.2.2.2.2.1 v1.2.2.2.2.2.2.2.2.1 ((v2.1.getD s2.1.toNat default).2.1) ((v2.1.getD s2.1.toNat default).2.2.1) 102) fun v17=>
         aP (Xz v1.1 v1.2.1 v1.2.2.1 v1.2.2.2.1 s3.2.1 v17.1 v17.2) fun v18=>
          if (v18.2 != 0)=true then
           if (v18.2 != 0)=true then
            .out (some (if (v18.2 != 0)=true then
             .out (some ([],v18.2))
             else .next (IntKind.i64.wrap (s2.1+1),s3.2.1,s3.2.2)))
            else .next (IntKind.i64.wrap (s3.1+1),s3.2.1,s3.2.2)
           else if (s3.2.2.length+1)*16<=140737488355328/\s3.2.2.length+1<=9223372036854775807 then
            .next (IntKind.i64.wrap (s3.1+1),v18.1,s3.2.2++[((v2.1.getD s2.1.toNat default).2.1,(v2.1.getD s2.1.toNat default).2.2.1)])
            else .out none
    else .out none
   else aP (jV ((!(decide (s3.1<((v2.1.getD s2.1.toNat default).2.2.2.1)))) || (decide (s3.1<((v2.1.getD s2.1.toNat default).2.2.2.1)))) 24) fun v21=>
    if ((v21 != 0) || (!(decide (s3.1<((v2.1.getD s2.1.toNat default).2.2.2.1)))))=true then
     .out (some (if (v21 != 0)=true then
      .out (some ([],v21))
      else .next (IntKind.i64.wrap (s2.1+1),s3.2.1,s3.2.2)))
     else if ((s3.2.2.length:Int) == 200)=true then
      .out (some (.out (some ([],8))))
      else aP (PW v1.1 v1.2.1 v1.2.2.1 v1.2.2.2.1 v1.2.2.2.2.1 v1.2.2.2.2.2.1 v1.2.2.2.2.2.2.1 v1.2.2.2.2.2.2.2.1 v1.2.2.2.2.2.2.2.2.1 ((v2.1.getD s2.1.toNat default).2.1) ((v2.1.getD s2.1.toNat default).2.2.1) 102) fun v22=>
       aP (Xz v1.1 v1.2.1 v1.2.2.1 v1.2.2.2.1 s3.2.1 v22.1 v22.2) fun v23=>
        if (v23.2 != 0)=true then
         if (v23.2 != 0)=true then
          .out (some (if (v23.2 != 0)=true then
           .out (some ([],v23.2))
           else .next (IntKind.i64.wrap (s2.1+1),s3.2.1,s3.2.2)))
          else .next (IntKind.i64.wrap (s3.1+1),s3.2.1,s3.2.2)
         else if (s3.2.2.length+1)*16<=140737488355328/\s3.2.2.length+1<=9223372036854775807 then
          .next (IntKind.i64.wrap (s3.1+1),v23.1,s3.2.2++[((v2.1.getD s2.1.toNat default).2.1,(v2.1.getD s2.1.toNat default).2.2.1)])
          else .out none
def Ak (v1:Int×Int×au×aj×bn×bn×au×Int×Int×Int) (v2:aK×Int) (s2:Int×bn×(List (Int×Int))):Bd (Int×bn×(List (Int×Int))) (cO (Int×bn×(List (Int×Int))) (au×Int)):=fun s4=>
 if (((v2.1.getD s2.1.toNat default).1) == 3)=true then
  if 0<=0/\0<(s4.2.1.length:Int) then
   aP (r88 v1.1 v1.2.1 v1.2.2.1 v1.2.2.2.1 v1.2.2.2.2.1 v1.2.2.2.2.2.1 v1.2.2.2.2.2.2.1 v1.2.2.2.2.2.2.2.1 v1.2.2.2.2.2.2.2.2.1 (s4.2.1.getD 0 default) ((v2.1.getD s2.1.toNat default).2.2.2.2.1)) fun v25=>
    aP (jV ((!(decide (v25<0))) || (decide (s4.1<((v2.1.getD s2.1.toNat default).2.2.2.1)))) 24) fun v26=>
     if ((v26 != 0) || (!(decide (v25<0))))=true then
      .out (some (if (v26 != 0)=true then
       .out (some ([],v26))
       else .next (IntKind.i64.wrap (s2.1+1),s4.2.1,s4.2.2)))
      else if ((s4.2.2.length:Int) == 200)=true then
       .out (some (.out (some ([],8))))
       else aP (PW v1.1 v1.2.1 v1.2.2.1 v1.2.2.2.1 v1.2.2.2.2.1 v1.2.2.2.2.2.1 v1.2.2.2.2.2.2.1 v1.2.2.2.2.2.2.2.1 v1.2.2.2.2.2.2.2.2.1 ((v2.1.getD s2.1.toNat default).2.1) v1.2.2.2.2.2.2.2.1 102) fun v27=>
        aP (Xz v1.1 v1.2.1 v1.2.2.1 v1.2.2.2.1 s4.2.1 v27.1 v27.2) fun v28=>
         if (v28.2 != 0)=true then
          if (v28.2 != 0)=true then
           .out (some (if (v28.2 != 0)=true then
            .out (some ([],v28.2))
            else .next (IntKind.i64.wrap (s2.1+1),s4.2.1,s4.2.2)))
           else .next (IntKind.i64.wrap (s4.1+1),s4.2.1,s4.2.2)
          else if (s4.2.2.length+1)*16<=140737488355328/\s4.2.2.length+1<=9223372036854775807 then
           .next (IntKind.i64.wrap (s4.1+1),v28.1,s4.2.2++[((v2.1.getD s2.1.toNat default).2.1,v1.2.2.2.2.2.2.2.1)])
           else .out none
   else .out none
  else if (((v2.1.getD s2.1.toNat default).1) == 4)=true then
   if 0<=0/\0<(s4.2.1.length:Int) then
    aP (r88 v1.1 v1.2.1 v1.2.2.1 v1.2.2.2.1 v1.2.2.2.2.1 v1.2.2.2.2.2.1 v1.2.2.2.2.2.2.1 v1.2.2.2.2.2.2.2.1 v1.2.2.2.2.2.2.2.2.1 (s4.2.1.getD 0 default) ((v2.1.getD s2.1.toNat default).2.2.2.2.1)) fun v31=>
     aP (jV ((!(decide (v31>0))) || (decide (s4.1<((v2.1.getD s2.1.toNat default).2.2.2.1)))) 24) fun v32=>
      if ((v32 != 0) || (!(decide (v31>0))))=true then
       .out (some (if (v32 != 0)=true then
        .out (some ([],v32))
        else .next (IntKind.i64.wrap (s2.1+1),s4.2.1,s4.2.2)))
       else if ((s4.2.2.length:Int) == 200)=true then
        .out (some (.out (some ([],8))))
        else aP (PW v1.1 v1.2.1 v1.2.2.1 v1.2.2.2.1 v1.2.2.2.2.1 v1.2.2.2.2.2.1 v1.2.2.2.2.2.2.1 v1.2.2.2.2.2.2.2.1 v1.2.2.2.2.2.2.2.2.1 ((v2.1.getD s2.1.toNat default).2.1) v1.2.2.2.2.2.2.2.1 102) fun v33=>
         aP (Xz v1.1 v1.2.1 v1.2.2.1 v1.2.2.2.1 s4.2.1 v33.1 v33.2) fun v34=>
          if (v34.2 != 0)=true then
           if (v34.2 != 0)=true then
            .out (some (if (v34.2 != 0)=true then
             .out (some ([],v34.2))
             else .next (IntKind.i64.wrap (s2.1+1),s4.2.1,s4.2.2)))
            else .next (IntKind.i64.wrap (s4.1+1),s4.2.1,s4.2.2)
           else if (s4.2.2.length+1)*16<=140737488355328/\s4.2.2.length+1<=9223372036854775807 then
            .next (IntKind.i64.wrap (s4.1+1),v34.1,s4.2.2++[((v2.1.getD s2.1.toNat default).2.1,v1.2.2.2.2.2.2.2.1)])
            else .out none
    else .out none
   else aP (jV ((!(decide (s4.1<((v2.1.getD s2.1.toNat default).2.2.2.1)))) || (decide (s4.1<((v2.1.getD s2.1.toNat default).2.2.2.1)))) 24) fun v37=>
    if ((v37 != 0) || (!(decide (s4.1<((v2.1.getD s2.1.toNat default).2.2.2.1)))))=true then
     .out (some (if (v37 != 0)=true then
      .out (some ([],v37))
      else .next (IntKind.i64.wrap (s2.1+1),s4.2.1,s4.2.2)))
     else if ((s4.2.2.length:Int) == 200)=true then
      .out (some (.out (some ([],8))))
      else aP (PW v1.1 v1.2.1 v1.2.2.1 v1.2.2.2.1 v1.2.2.2.2.1 v1.2.2.2.2.2.1 v1.2.2.2.2.2.2.1 v1.2.2.2.2.2.2.2.1 v1.2.2.2.2.2.2.2.2.1 ((v2.1.getD s2.1.toNat default).2.1) v1.2.2.2.2.2.2.2.1 102) fun v38=>
       aP (Xz v1.1 v1.2.1 v1.2.2.1 v1.2.2.2.1 s4.2.1 v38.1 v38.2) fun v39=>
        if (v39.2 != 0)=true then
         if (v39.2 != 0)=true then
          .out (some (if (v39.2 != 0)=true then
           .out (some ([],v39.2))
           else .next (IntKind.i64.wrap (s2.1+1),s4.2.1,s4.2.2)))
          else .next (IntKind.i64.wrap (s4.1+1),s4.2.1,s4.2.2)
         else if (s4.2.2.length+1)*16<=140737488355328/\s4.2.2.length+1<=9223372036854775807 then
          .next (IntKind.i64.wrap (s4.1+1),v39.1,s4.2.2++[((v2.1.getD s2.1.toNat default).2.1,v1.2.2.2.2.2.2.2.1)])
          else .out none
def Iq (v1:Int×Int×au×aj×bn×bn×au×Int×Int×Int) (v2:aK×Int):Bd (Int×bn×(List (Int×Int))) (au×Int):=fun s2=>
 if (decide (s2.1<(v2.1.length:Int)))=true then
  if 0<=s2.1/\s2.1<(v2.1.length:Int) then
   aP (Z4 ((v2.1.getD s2.1.toNat default).1)) fun v8=>
    if v8=true then
     (aS (Am v1 v2 s2) 1000000000 (0,s2.2.1,s2.2.2)).getD (.out none)
     else (aS (Ak v1 v2 s2) 1000000000 (0,s2.2.1,s2.2.2)).getD (.out none)
   else .out none
  else .out (some (s2.2.2,0))
def yF (v1:Int×Int×au×aj×bn×bn×au×Int×Int×Int) (v2:aK×Int):Bd (Int×Int) (au×Int):=fun s1=>
 if (decide (s1.2<(v2.1.length:Int)))=true then
  if 0<=s1.2/\s1.2<(v2.1.length:Int) then
   aP (r47 v1.1 v1.2.1 v1.2.2.1 v1.2.2.2.1 v1.2.2.2.2.1 v1.2.2.2.2.2.1 v1.2.2.2.2.2.2.1 v1.2.2.2.2.2.2.2.1 v1.2.2.2.2.2.2.2.2.1) fun v3=>
    aP (E8 ((v2.1.getD s1.2.toNat default).2.2.1) 0 v3) fun v4=>
     aP (jV v4 6) fun v5=>
      aP (vF [s1.1,v5]) fun v6=>
       .next (v6,IntKind.i64.wrap (s1.2+1))
   else .out none
  else .out (if (s1.1 != 0)=true then
   some ([],s1.1)
   else aS (Iq v1 v2) 1000000000 (0,v1.2.2.2.2.1,[]))
def r15 (x0 x1:Int) (x2:au) (x3:aj) (x4 x5:bn) (x6:au) (x7 x8:Int) (a1:aK):Option (au×Int):=
 (r45 x0 x1 x2 x3 x4 x5 x6 x7 x8).bind fun v1=>
  if (v1.2.2.2.2.2.2.2.2.2 != 0)=true then
   some ([],v1.2.2.2.2.2.2.2.2.2)
   else (r10 a1).bind fun v2=>
    aS (yF v1 v2) 1000000000 (v2.2,0)
@[go_sem] def T15:=ae9 aan false r15
@[go_sem] def aoj (k:Nat):=lk [(10,T10.sp),(39,T39.sp),(40,T40.sp),(41,T41.sp),(45,T45.sp),(46,T46.sp),(47,T47.sp),(86,T86.sp),(88,T88.sp),(89,T89.sp)] k
theorem lN:dS Tryz.prog aoj:= .cons f10 (.cons f39 (.cons f40 (.cons f41 (.cons f45 (.cons f46 (.cons f47 (.cons f86 (.cons f88 (.cons f89 .nil)))))))))
theorem f15:aF Tryz.prog 15 T15.sp:=by
 refine vm (tb:=aoj) (.cons f10 (.cons f39 (.cons f40 (.cons f41 (.cons f45 (.cons f46 (.cons f47 (.cons f86 (.cons f88 (.cons f89 .nil)))))))))) Tryz.func15 Tryz.ntmps15 fun ⟨x0,x1,x2,x3,x4,x5,x6,x7,x8,a1⟩ r hr stop S=> ?_
 rw [KY,r15] at hr
 refine S.gx [12,16] ?_
 obtain ⟨v1,hv1,hr⟩:=aA hr
 refine gb hv1 ?_
 refine iW hr (fun hc hr=>D0 hr) fun hc hr=> ?_
 obtain ⟨v2,hv2,hr⟩:=aA hr
 refine gb hv2 ?_
 refine S.sees [6,7,8,28,29,30] [(6,6)] [(25,25)] ?_ (Stop.iter S (fun s1=>⟨[(6,.c (.ref 6 0)),(7,.c (.d (.int .i64 s1.1))),(8,.c (.own 25)),(28,.c (.own 25)),(29,.c (.d (.int .i64 (v2.1.length:Int)))),(30,.c (.d (.int .i64 s1.2)))],[(6,[.d (.int .i64 v1.1),.d (.int .i64 v1.2.1),.d (ah 2 aT v1.2.2.1),.d (ah 1 aQ v1.2.2.2.1),.d (ah 1 cu v1.2.2.2.2.1),.d (ah 1 cu v1.2.2.2.2.2.1),.d (ah 2 aT v1.2.2.2.2.2.2.1),.d (.int .i64 v1.2.2.2.2.2.2.2.1),.d (.int .i64 v1.2.2.2.2.2.2.2.2.1)])],[(25,.owned (ah 6 aZ v2.1))]⟩) (yF v1 v2) (fun q=>q=r) hr rfl ?_)
 ·exact lf
 ·intro s1 hr
  unfold yF at hr
  refine S.gx [12,16] ?_
  refine gr ?_
  refine cZ hr (fun hc hr=>D1 (S.ss [6,7,8,28,29,30] [(6,6)] [(25,25)]) hr) fun hc hr=> ?_
  refine gr ?_
  have hr:=bK hr
  refine gr ?_
  refine iW hr (fun hc hr=>D0 hr) fun hc hr=> ?_
  refine gr ?_
  refine S.inl 1 [8] [] Tryz.func48 (by decide) rfl Tryz.ntmps48 (fun cx e=>aX bP lN cx e) (some 48) rfl rfl rfl rfl (nL rfl) (nL rfl) ?_
  refine gs ?_
  refine gr ?_
  intro stop1 S1
  refine S1.gx [] ?_
  refine gr ?_
  refine gr ?_
  refine S.gx [12,16] ?_
  refine gr ?_
  refine S.rV 9 10 2000910 2 rfl rfl (nL rfl) rfl ?_
  refine S.sees [11,49,50,51] [(9,9)] [(2000910,2000910),(25,25)] ?_ (Stop.iter S (fun s2=>⟨[(11,.c (.ref 9 0)),(49,.c (.own 25)),(50,.c (.d (.int .i64 (v2.1.length:Int)))),(51,.c (.d (.int .i64 s2.1)))],[(9,[.d (.int .i64 v1.1),.d (.int .i64 v1.2.1),.d (ah 2 aT v1.2.2.1),.d (ah 1 aQ v1.2.2.2.1),.d (ah 1 cu v1.2.2.2.2.1),.d (ah 1 cu v1.2.2.2.2.2.1),.d (ah 2 aT v1.2.2.2.2.2.2.1),.d (.int .i64 v1.2.2.2.2.2.2.2.1),.d (.int .i64 v1.2.2.2.2.2.2.2.2.1),.d (ah 1 cu s2.2.1),.own 2000910])],[(2000910,.owned (ah 2 aT s2.2.2)),(25,.owned (ah 6 aZ v2.1))]⟩) (Iq v1 v2) (fun q=>q=r) hr rfl ?_)
  ·exact lf
  ·intro s2 hr
   unfold Iq at hr
   refine S.gx [12,16] ?_
   refine gr ?_
   refine cZ hr (fun hc hr=> ?_) fun hc hr=>D0 hr
   obtain ⟨aGF,hr⟩:=aB hr
   refine gr ?_
   refine S.inl 2 [11,49,50,51] [] Tryz.func49 (by decide) rfl Tryz.ntmps49 (fun cx e=>aX bP lN cx e) (some 57) rfl rfl rfl rfl (nL rfl) (nL rfl) ?_
   refine gs ?_
   refine gr ?_
   intro stop1 S1
   refine S1.gx [6,9] ?_
   obtain ⟨v8,JC,hr⟩:=aI hr
   refine gb JC ?_
   refine cZ hr (fun hc hr=> ?_) fun hc hr=> ?_
   ·refine gr ?_
    obtain ⟨q3,hq,hr⟩:=gV hr
    refine S1.sees [0,3,5,6] [(9,9),(3,3),(5,5)] [(25,25),(2000910,2000910)] ?_ (Stop.iter S1 (fun s3=>⟨[(0,.c (.ref 9 0)),(3,.c (.ref 3 0)),(5,.c (.ref 5 0)),(6,.c (.d (.int .i64 s3.1)))],[(9,[.d (.int .i64 v1.1),.d (.int .i64 v1.2.1),.d (ah 2 aT v1.2.2.1),.d (ah 1 aQ v1.2.2.2.1),.d (ah 1 cu v1.2.2.2.2.1),.d (ah 1 cu v1.2.2.2.2.2.1),.d (ah 2 aT v1.2.2.2.2.2.2.1),.d (.int .i64 v1.2.2.2.2.2.2.2.1),.d (.int .i64 v1.2.2.2.2.2.2.2.2.1),.d (ah 1 cu s3.2.1),.own 2000910]),(3,[.d (.int .i64 ((v2.1.getD s2.1.toNat default).1)),.d (.int .i64 ((v2.1.getD s2.1.toNat default).2.1)),.d (.int .i64 ((v2.1.getD s2.1.toNat default).2.2.1)),.d (.int .i64 ((v2.1.getD s2.1.toNat default).2.2.2.1)),.d (.int .i64 ((v2.1.getD s2.1.toNat default).2.2.2.2.1)),.d (hE ((v2.1.getD s2.1.toNat default).2.2.2.2.2))]),(5,[.d (.int .i64 ((v2.1.getD s2.1.toNat default).2.1)),.d (.int .i64 ((v2.1.getD s2.1.toNat default).2.2.1))])],[(25,.owned (ah 6 aZ v2.1)),(2000910,.owned (ah 2 aT s3.2.2))]⟩) (Am v1 v2 s2) _ hq hr ?_)
    ·exact lf
    ·intro s3 hr
     unfold Am at hr
     refine S1.gx [6,9] ?_
     refine gr ?_
     refine S1.inl 3 [0,3,5,6] [] Tryz.func72 (by decide) rfl Tryz.ntmps72 (fun cx e=>aX bP lN cx e) (some 31) rfl rfl rfl rfl (nL rfl) (nL rfl) ?_
     refine gs ?_
     refine gr ?_
     intro stop2 S2
     refine S2.gx [] ?_
     refine gr ?_
     refine cZ hr (fun hc hr=> ?_) fun hc hr=> ?_
     ·obtain ⟨X9,hr⟩:=aB hr
      obtain ⟨v9,hv9,hr⟩:=aI hr
      obtain ⟨v10,yZ,hr⟩:=aI hr
      try simp only [hv9,yZ,Option.getD_some,Option.isSome_some,true_and,and_assoc]
      repeat (first | refine gA ?_ | refine gB ?_)
      refine gr ?_
      refine S1.gx [6,9] ?_
      repeat (first | refine gA ?_ | refine gB ?_)
      refine cZ hr (fun hc hr=> ?_) fun hc hr=> ?_
      ·refine gr ?_
       replace hr:=aU hr
       refine gr ?_
       refine S.gx [12,16] ?_
       exact D1 (S.ss [11,49,50,51] [(9,9)] [(2000910,2000910),(25,25)]) hr
      ·refine gr ?_
       refine S1.inl 2 [0,3,5,6] [] Tryz.func73 (by decide) rfl Tryz.ntmps73 (fun cx e=>aX bP lN cx e) (some 43) rfl rfl rfl rfl (nL rfl) (nL rfl) ?_
       refine gs ?_
       refine gr ?_
       intro stop2 S2
       refine S2.gx [4] ?_
       refine gr ?_
       refine cZ hr (fun hc hr=> ?_) fun hc hr=> ?_
       ·refine gr ?_
        refine gr ?_
        refine S1.gx [6,9] ?_
        refine gr ?_
        replace hr:=aU hr
        refine gr ?_
        refine S.gx [12,16] ?_
        exact D0 hr
       ·obtain ⟨v11,JG,hr⟩:=aI hr
        obtain ⟨v12,JF,hr⟩:=aI hr
        refine gb JG ?_
        refine gb JF ?_
        refine S2.prune [0,4,7,8] ?_
        refine S2.gx [] ?_
        refine gr ?_
        refine gr ?_
        refine cZ hr (fun hc hr=> ?_) fun hc hr=> ?_
        ·refine gr ?_
         refine gr ?_
         refine S1.gx [6,9] ?_
         refine gr ?_
         refine cZ hr (fun hc hr=> ?_) fun hc hr=>D1 (S1.ss [0,3,5,6] [(9,9),(3,3),(5,5)] [(25,25),(2000910,2000910)]) hr
         refine gr ?_
         replace hr:=aU hr
         refine gr ?_
         refine S.gx [12,16] ?_
         exact D1 (S.ss [11,49,50,51] [(9,9)] [(2000910,2000910),(25,25)]) hr
        ·obtain ⟨JH,hr⟩:=aB hr
         refine gr ?_
         refine gr ?_
         refine S1.gx [6,9] ?_
         refine gr ?_
         refine S1.share 33 rfl ?_
         exact D1 (S1.ss [0,3,5,6] [(9,9),(3,3),(5,5)] [(25,25),(48,2000910)]) hr
     ·refine gr ?_
      refine cZ hr (fun hc hr=> ?_) fun hc hr=> ?_
      ·obtain ⟨akh,hr⟩:=aB hr
       obtain ⟨v15,abf,hr⟩:=aI hr
       obtain ⟨v16,QA,hr⟩:=aI hr
       try simp only [abf,QA,Option.getD_some,Option.isSome_some,true_and,and_assoc]
       repeat (first | refine gA ?_ | refine gB ?_)
       refine gr ?_
       refine S1.gx [6,9] ?_
       repeat (first | refine gA ?_ | refine gB ?_)
       refine cZ hr (fun hc hr=> ?_) fun hc hr=> ?_
       ·refine gr ?_
        replace hr:=aU hr
        refine gr ?_
        refine S.gx [12,16] ?_
        exact D1 (S.ss [11,49,50,51] [(9,9)] [(2000910,2000910),(25,25)]) hr
       ·refine gr ?_
        refine S1.inl 2 [0,3,5,6] [] Tryz.func73 (by decide) rfl Tryz.ntmps73 (fun cx e=>aX bP lN cx e) (some 43) rfl rfl rfl rfl (nL rfl) (nL rfl) ?_
        refine gs ?_
        refine gr ?_
        intro stop2 S2
        refine S2.gx [4] ?_
        refine gr ?_
        refine cZ hr (fun hc hr=> ?_) fun hc hr=> ?_
        ·refine gr ?_
         refine gr ?_
         refine S1.gx [6,9] ?_
         refine gr ?_
         replace hr:=aU hr
         refine gr ?_
         refine S.gx [12,16] ?_
         exact D0 hr
        ·obtain ⟨v17,Qz,hr⟩:=aI hr
         obtain ⟨v18,Qy,hr⟩:=aI hr
         refine gb Qz ?_
         refine gb Qy ?_
         refine S2.prune [0,4,7,8] ?_
         refine S2.gx [] ?_
         refine gr ?_
         refine gr ?_
         refine cZ hr (fun hc hr=> ?_) fun hc hr=> ?_
         ·refine gr ?_
          refine gr ?_
          refine S1.gx [6,9] ?_
          refine gr ?_
          refine cZ hr (fun hc hr=> ?_) fun hc hr=>D1 (S1.ss [0,3,5,6] [(9,9),(3,3),(5,5)] [(25,25),(2000910,2000910)]) hr
          refine gr ?_
          replace hr:=aU hr
          refine gr ?_
          refine S.gx [12,16] ?_
          exact D1 (S.ss [11,49,50,51] [(9,9)] [(2000910,2000910),(25,25)]) hr
         ·obtain ⟨aki,hr⟩:=aB hr
          refine gr ?_
          refine gr ?_
          refine S1.gx [6,9] ?_
          refine gr ?_
          refine S1.share 33 rfl ?_
          exact D1 (S1.ss [0,3,5,6] [(9,9),(3,3),(5,5)] [(25,25),(48,2000910)]) hr
      ·obtain ⟨v21,Qx,hr⟩:=aI hr
       try simp only [Qx,oG,oI,true_and,and_assoc]
       repeat (first | refine gA ?_ | refine gB ?_)
       refine gr ?_
       refine S1.gx [6,9] ?_
       repeat (first | refine gA ?_ | refine gB ?_)
       refine cZ hr (fun hc hr=> ?_) fun hc hr=> ?_
       ·refine gr ?_
        replace hr:=aU hr
        refine gr ?_
        refine S.gx [12,16] ?_
        exact D1 (S.ss [11,49,50,51] [(9,9)] [(2000910,2000910),(25,25)]) hr
       ·refine gr ?_
        refine S1.inl 2 [0,3,5,6] [] Tryz.func73 (by decide) rfl Tryz.ntmps73 (fun cx e=>aX bP lN cx e) (some 43) rfl rfl rfl rfl (nL rfl) (nL rfl) ?_
        refine gs ?_
        refine gr ?_
        intro stop2 S2
        refine S2.gx [4] ?_
        refine gr ?_
        refine cZ hr (fun hc hr=> ?_) fun hc hr=> ?_
        ·refine gr ?_
         refine gr ?_
         refine S1.gx [6,9] ?_
         refine gr ?_
         replace hr:=aU hr
         refine gr ?_
         refine S.gx [12,16] ?_
         exact D0 hr
        ·obtain ⟨v22,Qw,hr⟩:=aI hr
         obtain ⟨v23,abe,hr⟩:=aI hr
         refine gb Qw ?_
         refine gb abe ?_
         refine S2.prune [0,4,7,8] ?_
         refine S2.gx [] ?_
         refine gr ?_
         refine gr ?_
         refine cZ hr (fun hc hr=> ?_) fun hc hr=> ?_
         ·refine gr ?_
          refine gr ?_
          refine S1.gx [6,9] ?_
          refine gr ?_
          refine cZ hr (fun hc hr=> ?_) fun hc hr=>D1 (S1.ss [0,3,5,6] [(9,9),(3,3),(5,5)] [(25,25),(2000910,2000910)]) hr
          refine gr ?_
          replace hr:=aU hr
          refine gr ?_
          refine S.gx [12,16] ?_
          exact D1 (S.ss [11,49,50,51] [(9,9)] [(2000910,2000910),(25,25)]) hr
         ·obtain ⟨abn,hr⟩:=aB hr
          refine gr ?_
          refine gr ?_
          refine S1.gx [6,9] ?_
          refine gr ?_
          refine S1.share 33 rfl ?_
          exact D1 (S1.ss [0,3,5,6] [(9,9),(3,3),(5,5)] [(25,25),(48,2000910)]) hr
   ·refine gr ?_
    obtain ⟨q4,hq,hr⟩:=gV hr
    refine S1.sees [0,3,5,6] [(9,9),(3,3),(5,5)] [(25,25),(2000910,2000910)] ?_ (Stop.iter S1 (fun s4=>⟨[(0,.c (.ref 9 0)),(3,.c (.ref 3 0)),(5,.c (.ref 5 0)),(6,.c (.d (.int .i64 s4.1)))],[(9,[.d (.int .i64 v1.1),.d (.int .i64 v1.2.1),.d (ah 2 aT v1.2.2.1),.d (ah 1 aQ v1.2.2.2.1),.d (ah 1 cu v1.2.2.2.2.1),.d (ah 1 cu v1.2.2.2.2.2.1),.d (ah 2 aT v1.2.2.2.2.2.2.1),.d (.int .i64 v1.2.2.2.2.2.2.2.1),.d (.int .i64 v1.2.2.2.2.2.2.2.2.1),.d (ah 1 cu s4.2.1),.own 2000910]),(3,[.d (.int .i64 ((v2.1.getD s2.1.toNat default).1)),.d (.int .i64 ((v2.1.getD s2.1.toNat default).2.1)),.d (.int .i64 ((v2.1.getD s2.1.toNat default).2.2.1)),.d (.int .i64 ((v2.1.getD s2.1.toNat default).2.2.2.1)),.d (.int .i64 ((v2.1.getD s2.1.toNat default).2.2.2.2.1)),.d (hE ((v2.1.getD s2.1.toNat default).2.2.2.2.2))]),(5,[.d (.int .i64 ((v2.1.getD s2.1.toNat default).2.1)),.d (.int .i64 v1.2.2.2.2.2.2.2.1)])],[(25,.owned (ah 6 aZ v2.1)),(2000910,.owned (ah 2 aT s4.2.2))]⟩) (Ak v1 v2 s2) _ hq hr ?_)
    ·exact lf
    ·intro s4 hr
     unfold Ak at hr
     refine S1.gx [6,9] ?_
     refine gr ?_
     refine S1.inl 3 [0,3,5,6] [] Tryz.func72 (by decide) rfl Tryz.ntmps72 (fun cx e=>aX bP lN cx e) (some 31) rfl rfl rfl rfl (nL rfl) (nL rfl) ?_
     refine gs ?_
     refine gr ?_
     intro stop2 S2
     refine S2.gx [] ?_
     refine gr ?_
     refine cZ hr (fun hc hr=> ?_) fun hc hr=> ?_
     ·obtain ⟨aBG,hr⟩:=aB hr
      obtain ⟨v25,hv25,hr⟩:=aI hr
      obtain ⟨v26,Qv,hr⟩:=aI hr
      try simp only [hv25,Qv,Option.getD_some,Option.isSome_some,true_and,and_assoc]
      repeat (first | refine gA ?_ | refine gB ?_)
      refine gr ?_
      refine S1.gx [6,9] ?_
      repeat (first | refine gA ?_ | refine gB ?_)
      refine cZ hr (fun hc hr=> ?_) fun hc hr=> ?_
      ·refine gr ?_
       replace hr:=aU hr
       refine gr ?_
       refine S.gx [12,16] ?_
       exact D1 (S.ss [11,49,50,51] [(9,9)] [(2000910,2000910),(25,25)]) hr
      ·refine gr ?_
       refine S1.inl 2 [0,3,5,6] [] Tryz.func73 (by decide) rfl Tryz.ntmps73 (fun cx e=>aX bP lN cx e) (some 43) rfl rfl rfl rfl (nL rfl) (nL rfl) ?_
       refine gs ?_
       refine gr ?_
       intro stop2 S2
       refine S2.gx [4] ?_
       refine gr ?_
       refine cZ hr (fun hc hr=> ?_) fun hc hr=> ?_
       ·refine gr ?_
        refine gr ?_
        refine S1.gx [6,9] ?_
        refine gr ?_
        replace hr:=aU hr
        refine gr ?_
        refine S.gx [12,16] ?_
        exact D0 hr
       ·obtain ⟨v27,hv27,hr⟩:=aI hr
        obtain ⟨v28,hv28,hr⟩:=aI hr
        refine gb hv27 ?_
        refine gb hv28 ?_
        refine S2.prune [0,4,7,8] ?_
        refine S2.gx [] ?_
        refine gr ?_
        refine gr ?_
        refine cZ hr (fun hc hr=> ?_) fun hc hr=> ?_
        ·refine gr ?_
         refine gr ?_
         refine S1.gx [6,9] ?_
         refine gr ?_
         refine cZ hr (fun hc hr=> ?_) fun hc hr=>D1 (S1.ss [0,3,5,6] [(9,9),(3,3),(5,5)] [(25,25),(2000910,2000910)]) hr
         refine gr ?_
         replace hr:=aU hr
         refine gr ?_
         refine S.gx [12,16] ?_
         exact D1 (S.ss [11,49,50,51] [(9,9)] [(2000910,2000910),(25,25)]) hr
        ·obtain ⟨aun,hr⟩:=aB hr
         refine gr ?_
         refine gr ?_
         refine S1.gx [6,9] ?_
         refine gr ?_
         refine S1.share 33 rfl ?_
         exact D1 (S1.ss [0,3,5,6] [(9,9),(3,3),(5,5)] [(25,25),(48,2000910)]) hr
     ·refine gr ?_
      refine cZ hr (fun hc hr=> ?_) fun hc hr=> ?_
      ·obtain ⟨auk,hr⟩:=aB hr
       obtain ⟨v31,hv31,hr⟩:=aI hr
       obtain ⟨v32,hv32,hr⟩:=aI hr
       try simp only [hv31,hv32,Option.getD_some,Option.isSome_some,true_and,and_assoc]
       repeat (first | refine gA ?_ | refine gB ?_)
       refine gr ?_
       refine S1.gx [6,9] ?_
       repeat (first | refine gA ?_ | refine gB ?_)
       refine cZ hr (fun hc hr=> ?_) fun hc hr=> ?_
       ·refine gr ?_
        replace hr:=aU hr
        refine gr ?_
        refine S.gx [12,16] ?_
        exact D1 (S.ss [11,49,50,51] [(9,9)] [(2000910,2000910),(25,25)]) hr
       ·refine gr ?_
        refine S1.inl 2 [0,3,5,6] [] Tryz.func73 (by decide) rfl Tryz.ntmps73 (fun cx e=>aX bP lN cx e) (some 43) rfl rfl rfl rfl (nL rfl) (nL rfl) ?_
        refine gs ?_
        refine gr ?_
        intro stop2 S2
        refine S2.gx [4] ?_
        refine gr ?_
        refine cZ hr (fun hc hr=> ?_) fun hc hr=> ?_
        ·refine gr ?_
         refine gr ?_
         refine S1.gx [6,9] ?_
         refine gr ?_
         replace hr:=aU hr
         refine gr ?_
         refine S.gx [12,16] ?_
         exact D0 hr
        ·obtain ⟨v33,Qu,hr⟩:=aI hr
         obtain ⟨v34,hv34,hr⟩:=aI hr
         refine gb Qu ?_
         refine gb hv34 ?_
         refine S2.prune [0,4,7,8] ?_
         refine S2.gx [] ?_
         refine gr ?_
         refine gr ?_
         refine cZ hr (fun hc hr=> ?_) fun hc hr=> ?_
         ·refine gr ?_
          refine gr ?_
          refine S1.gx [6,9] ?_
          refine gr ?_
          refine cZ hr (fun hc hr=> ?_) fun hc hr=>D1 (S1.ss [0,3,5,6] [(9,9),(3,3),(5,5)] [(25,25),(2000910,2000910)]) hr
          refine gr ?_
          replace hr:=aU hr
          refine gr ?_
          refine S.gx [12,16] ?_
          exact D1 (S.ss [11,49,50,51] [(9,9)] [(2000910,2000910),(25,25)]) hr
         ·obtain ⟨akf,hr⟩:=aB hr
          refine gr ?_
          refine gr ?_
          refine S1.gx [6,9] ?_
          refine gr ?_
          refine S1.share 33 rfl ?_
          exact D1 (S1.ss [0,3,5,6] [(9,9),(3,3),(5,5)] [(25,25),(48,2000910)]) hr
      ·obtain ⟨v37,ajW,hr⟩:=aI hr
       try simp only [ajW,oG,oI,true_and,and_assoc]
       repeat (first | refine gA ?_ | refine gB ?_)
       refine gr ?_
       refine S1.gx [6,9] ?_
       repeat (first | refine gA ?_ | refine gB ?_)
       refine cZ hr (fun hc hr=> ?_) fun hc hr=> ?_
       ·refine gr ?_
        replace hr:=aU hr
        refine gr ?_
        refine S.gx [12,16] ?_
        exact D1 (S.ss [11,49,50,51] [(9,9)] [(2000910,2000910),(25,25)]) hr
       ·refine gr ?_
        refine S1.inl 2 [0,3,5,6] [] Tryz.func73 (by decide) rfl Tryz.ntmps73 (fun cx e=>aX bP lN cx e) (some 43) rfl rfl rfl rfl (nL rfl) (nL rfl) ?_
        refine gs ?_
        refine gr ?_
        intro stop2 S2
        refine S2.gx [4] ?_
        refine gr ?_
        refine cZ hr (fun hc hr=> ?_) fun hc hr=> ?_
        ·refine gr ?_
         refine gr ?_
         refine S1.gx [6,9] ?_
         refine gr ?_
         replace hr:=aU hr
         refine gr ?_
         refine S.gx [12,16] ?_
         exact D0 hr
        ·obtain ⟨v38,hv38,hr⟩:=aI hr
         obtain ⟨v39,hv39,hr⟩:=aI hr
         refine gb hv38 ?_
         refine gb hv39 ?_
         refine S2.prune [0,4,7,8] ?_
         refine S2.gx [] ?_
         refine gr ?_
         refine gr ?_
         refine cZ hr (fun hc hr=> ?_) fun hc hr=> ?_
         ·refine gr ?_
          refine gr ?_
          refine S1.gx [6,9] ?_
          refine gr ?_
          refine cZ hr (fun hc hr=> ?_) fun hc hr=>D1 (S1.ss [0,3,5,6] [(9,9),(3,3),(5,5)] [(25,25),(2000910,2000910)]) hr
          refine gr ?_
          replace hr:=aU hr
          refine gr ?_
          refine S.gx [12,16] ?_
          exact D1 (S.ss [11,49,50,51] [(9,9)] [(2000910,2000910),(25,25)]) hr
         ·obtain ⟨aBC,hr⟩:=aB hr
          refine gr ?_
          refine gr ?_
          refine S1.gx [6,9] ?_
          refine gr ?_
          refine S1.share 33 rfl ?_
          exact D1 (S1.ss [0,3,5,6] [(9,9),(3,3),(5,5)] [(25,25),(48,2000910)]) hr
def r62:Option (bD×aY×bC×au×Int×Int×Int×Int):=
 some ([(650,1000000,1000000,1)],[],[(500,1000000,1000000)],[],200,250,400,800)
@[go_sem] def T62:=qT0 aqC false r62
theorem f62:aF Tryz.prog 62 T62.sp:=by
 refine vm .nil Tryz.func62 Tryz.ntmps62 fun _ r hr stop S=> ?_
 rw [uq0,r62] at hr
 refine S.gx [] ?_
 exact D0 hr
def r29:Option (Int×Int×au×aj×bn×bn×au×Int×Int×bD×aY×bC×au×Int×Int×Int×Int×bC×Int):=
 (r26).bind fun v1=>
  (r62).bind fun v2=>
   some (v1.1,v1.2.1,v1.2.2.1,v1.2.2.2.1,v1.2.2.2.2.1,v1.2.2.2.2.2.1,v1.2.2.2.2.2.2.1,v1.2.2.2.2.2.2.2.1,v1.2.2.2.2.2.2.2.2,v2.1,v2.2.1,v2.2.2.1,v2.2.2.2.1,v2.2.2.2.2.1,v2.2.2.2.2.2.1,v2.2.2.2.2.2.2.1,v2.2.2.2.2.2.2.2,[(0,700,850),(2,150,250)],700)
@[go_sem] def T29:=qT0 aqB true r29
@[go_sem] def aAa (k:Nat):=lk [(26,T26.sp),(62,T62.sp)] k
theorem f29:aF Tryz.prog 29 T29.sp:=by
 refine vm (tb:=aAa) (.cons f26 (.cons f62 .nil)) Tryz.func29 Tryz.ntmps29 fun _ r hr stop S=> ?_
 rw [uq0,r29] at hr
 refine S.gx [] ?_
 exact D0 hr
def r30 (a0:au):Option (au):=
 if (0+a0.length)*16<=140737488355328/\0+a0.length<=9223372036854775807 then
  some a0
  else none
@[go_sem] def T30:=qT5 qu5 false r30
theorem f30:aF Tryz.prog 30 T30.sp:=by
 refine vm .nil Tryz.func30 Tryz.ntmps30 fun a0 r hr stop S=> ?_
 rw [oC,r30] at hr
 refine S.gx [] ?_
 exact D0 hr
def SN (x0:au) (s1 s2 s3:Int×(List (Int×au×Int))):Bd (Int×(List (Int×au×Int))) (bF×bF×bF×bF):=fun s4=>
 if (decide (s4.1<(x0.length:Int)))=true then
  if 0<=s4.1/\s4.1<(x0.length:Int) then
   if (s4.2.length+1)*40<=140737488355328/\s4.2.length+1<=9223372036854775807 then
    .next (IntKind.i64.wrap (s4.1+1),s4.2++[((x0.getD s4.1.toNat default).1,[],(x0.getD s4.1.toNat default).2)])
    else .out none
   else .out none
  else .out (some (s1.2,s2.2,s3.2,s4.2))
def SQ (x1:bC) (x0:au) (s1 s2:Int×(List (Int×au×Int))):Bd (Int×(List (Int×au×Int))) (bF×bF×bF×bF):=fun s3=>
 if (decide (s3.1<(x1.length:Int)))=true then
  if 0<=s3.1/\s3.1<(x1.length:Int) then
   if (s3.2.length+1)*40<=140737488355328/\s3.2.length+1<=9223372036854775807 then
    .next (IntKind.i64.wrap (s3.1+1),s3.2++[((x1.getD s3.1.toNat default).1,[((x1.getD s3.1.toNat default).2.1,(x1.getD s3.1.toNat default).2.2)],0)])
    else .out none
   else .out none
  else .out (aS (SN x0 s1 s2 s3) 1000000000 (0,[]))
def SS (x2:aY) (x1:bC) (x0:au) (s1:Int×(List (Int×au×Int))):Bd (Int×(List (Int×au×Int))) (bF×bF×bF×bF):=fun s2=>
 if (decide (s2.1<(x2.length:Int)))=true then
  if 0<=s2.1/\s2.1<(x2.length:Int) then
   if (s2.2.length+1)*40<=140737488355328/\s2.2.length+1<=9223372036854775807 then
    .next (IntKind.i64.wrap (s2.1+1),s2.2++[((x2.getD s2.1.toNat default).1,[((x2.getD s2.1.toNat default).2.1,(x2.getD s2.1.toNat default).2.2.1),((x2.getD s2.1.toNat default).2.2.2.1,(x2.getD s2.1.toNat default).2.2.2.2)],0)])
    else .out none
   else .out none
  else .out (aS (SQ x1 x0 s1 s2) 1000000000 (0,[]))
def SV (x3:bD) (x2:aY) (x1:bC) (x0:au):Bd (Int×(List (Int×au×Int))) (bF×bF×bF×bF):=fun s1=>
 if (decide (s1.1<(x3.length:Int)))=true then
  if 0<=s1.1/\s1.1<(x3.length:Int) then
   if (s1.2.length+1)*40<=140737488355328/\s1.2.length+1<=9223372036854775807 then
    .next (IntKind.i64.wrap (s1.1+1),s1.2++[((x3.getD s1.1.toNat default).1,[((x3.getD s1.1.toNat default).2.1,(x3.getD s1.1.toNat default).2.2.1)],(x3.getD s1.1.toNat default).2.2.2)])
    else .out none
   else .out none
  else .out (aS (SS x2 x1 x0 s1) 1000000000 (0,[]))
def aiK (x3:bD) (x2:aY) (x1:bC) (x0:au) (x4 x5 x6 x7:Int):Option (bF×bF×bF×bF):=
 aS (SV x3 x2 x1 x0) 1000000000 (0,[])
@[go_sem] def avZ:=ae8 aqA true aiK
theorem f163:aF Tryz.prog 163 avZ.sp:=by
 refine vm .nil Tryz.func163 Tryz.ntmps163 fun ⟨x3,x2,x1,x0,x4,x5,x6,x7⟩ r hr stop S=> ?_
 rw [uq8,aiK] at hr
 refine S.gx [] ?_
 refine gr ?_
 refine S.rV 3 0 2000300 3 rfl rfl (nL rfl) rfl ?_
 refine S.sees [1,2,3,13,14,15] [(1,1),(2,2),(3,3)] [(2000300,2000300)] ?_ (Stop.iter S (fun s1=>⟨[(1,.c (.ref 1 0)),(2,.c (.ref 2 0)),(3,.c (.ref 3 0)),(13,.c (.d (ah 4 dh x3))),(14,.c (.d (.int .i64 (x3.length:Int)))),(15,.c (.d (.int .i64 s1.1)))],[(1,[.d (ah 4 dh x3),.d (ah 5 bT x2),.d (ah 3 dn x1),.d (ah 2 aT x0),.d (.int .i64 x4),.d (.int .i64 x5),.d (.int .i64 x6),.d (.int .i64 x7)]),(2,[.dD,.dD,.dD,.dD]),(3,[.own 2000300,.dD,.dD,.dD])],[(2000300,.owned (ah 3 bH s1.2))]⟩) (SV x3 x2 x1 x0) (fun q=>q=r) hr rfl ?_)
 ·exact lf
 ·intro s1 hr
  unfold SV at hr
  refine S.gx [] ?_
  refine gr ?_
  refine cZ hr (fun hc hr=>D1 (S.ss [1,2,3,13,14,15] [(1,1),(2,2),(3,3)] [(30,2000300)]) hr) fun hc hr=> ?_
  refine gr ?_
  have hr:=bK hr
  refine gr ?_
  refine S.rV 3 1 2000301 3 rfl rfl (nL rfl) rfl ?_
  refine S.sees [1,2,3,34,35,36] [(1,1),(2,2),(3,3)] [(2000301,2000301),(2000300,2000300)] ?_ (Stop.iter S (fun s2=>⟨[(1,.c (.ref 1 0)),(2,.c (.ref 2 0)),(3,.c (.ref 3 0)),(34,.c (.d (ah 5 bT x2))),(35,.c (.d (.int .i64 (x2.length:Int)))),(36,.c (.d (.int .i64 s2.1)))],[(1,[.d (ah 4 dh x3),.d (ah 5 bT x2),.d (ah 3 dn x1),.d (ah 2 aT x0),.d (.int .i64 x4),.d (.int .i64 x5),.d (.int .i64 x6),.d (.int .i64 x7)]),(2,[.dD,.dD,.dD,.dD]),(3,[.own 2000300,.own 2000301,.dD,.dD])],[(2000301,.owned (ah 3 bH s2.2)),(2000300,.owned (ah 3 bH s1.2))]⟩) (SS x2 x1 x0 s1) (fun q=>q=r) hr rfl ?_)
  ·exact lf
  ·intro s2 hr
   unfold SS at hr
   refine S.gx [] ?_
   refine gr ?_
   refine cZ hr (fun hc hr=>D1 (S.ss [1,2,3,34,35,36] [(1,1),(2,2),(3,3)] [(51,2000301),(2000300,2000300)]) hr) fun hc hr=> ?_
   refine gr ?_
   have hr:=bK hr
   refine gr ?_
   refine S.rV 3 2 2000302 3 rfl rfl (nL rfl) rfl ?_
   refine S.sees [1,2,3,55,56,57] [(1,1),(2,2),(3,3)] [(2000302,2000302),(2000300,2000300),(2000301,2000301)] ?_ (Stop.iter S (fun s3=>⟨[(1,.c (.ref 1 0)),(2,.c (.ref 2 0)),(3,.c (.ref 3 0)),(55,.c (.d (ah 3 dn x1))),(56,.c (.d (.int .i64 (x1.length:Int)))),(57,.c (.d (.int .i64 s3.1)))],[(1,[.d (ah 4 dh x3),.d (ah 5 bT x2),.d (ah 3 dn x1),.d (ah 2 aT x0),.d (.int .i64 x4),.d (.int .i64 x5),.d (.int .i64 x6),.d (.int .i64 x7)]),(2,[.dD,.dD,.dD,.dD]),(3,[.own 2000300,.own 2000301,.own 2000302,.dD])],[(2000302,.owned (ah 3 bH s3.2)),(2000300,.owned (ah 3 bH s1.2)),(2000301,.owned (ah 3 bH s2.2))]⟩) (SQ x1 x0 s1 s2) (fun q=>q=r) hr rfl ?_)
   ·exact lf
   ·intro s3 hr
    unfold SQ at hr
    refine S.gx [] ?_
    refine gr ?_
    refine cZ hr (fun hc hr=>D1 (S.ss [1,2,3,55,56,57] [(1,1),(2,2),(3,3)] [(70,2000302),(2000300,2000300),(2000301,2000301)]) hr) fun hc hr=> ?_
    refine gr ?_
    have hr:=bK hr
    refine gr ?_
    refine S.rV 3 3 2000303 3 rfl rfl (nL rfl) rfl ?_
    refine S.sees [2,3,74,75,76] [(2,2),(3,3)] [(2000303,2000303),(2000300,2000300),(2000301,2000301),(2000302,2000302)] ?_ (Stop.iter S (fun s4=>⟨[(2,.c (.ref 2 0)),(3,.c (.ref 3 0)),(74,.c (.d (ah 2 aT x0))),(75,.c (.d (.int .i64 (x0.length:Int)))),(76,.c (.d (.int .i64 s4.1)))],[(2,[.dD,.dD,.dD,.dD]),(3,[.own 2000300,.own 2000301,.own 2000302,.own 2000303])],[(2000303,.owned (ah 3 bH s4.2)),(2000300,.owned (ah 3 bH s1.2)),(2000301,.owned (ah 3 bH s2.2)),(2000302,.owned (ah 3 bH s3.2))]⟩) (SN x0 s1 s2 s3) (fun q=>q=r) hr rfl ?_)
    ·exact lf
    ·intro s4 hr
     unfold SN at hr
     refine S.gx [] ?_
     exact D1 (S.ss [2,3,74,75,76] [(2,2),(3,3)] [(88,2000303),(2000300,2000300),(2000301,2000301),(2000302,2000302)]) hr
def jR (a0 a1 a2:Int):Option (Bool):=
 some ((decide (a1<=a0)) && (decide (a0<=a2)))
@[go_sem] def Za:=qT1 oQ false jR
theorem f166:aF Tryz.prog 166 Za.sp:=by
 refine vm .nil Tryz.func166 Tryz.ntmps166 fun ⟨a0,a1,a2⟩ r hr stop S=> ?_
 rw [Zd,jR] at hr
 refine S.gx [] ?_
 repeat (first | refine gA ?_ | refine gB ?_)
 exact D0 hr
def jw (a0:Int):Option (Bool):=
 (jR a0 0 1000000).bind fun v1=>
  some v1
@[go_sem] def agi:=KQ oQ false jw
@[go_sem] def an5 (k:Nat):=lk [(166,Za.sp)] k
theorem f172:aF Tryz.prog 172 agi.sp:=by
 refine vm (tb:=an5) (.cons f166 .nil) Tryz.func172 Tryz.ntmps172 fun a0 r hr stop S=> ?_
 rw [oC,jw] at hr
 refine S.gx [] ?_
 exact D0 hr
def aiC (x1 x0:Int):Option (Bool):=
 (jw x1).bind fun v1=>
  if (!(!v1))=true->(jw x0).isSome=true then
   some ((!v1) || (!((jw x0).getD default)))
   else none
@[go_sem] def avF:=Qb oQ false aiC
@[go_sem] def anW (k:Nat):=lk [(172,agi.sp)] k
theorem f196:aF Tryz.prog 196 avF.sp:=by
 refine vm (tb:=anW) (.cons f172 .nil) Tryz.func196 Tryz.ntmps196 fun ⟨x1,x0⟩ r hr stop S=> ?_
 rw [yI,aiC] at hr
 refine S.gx [] ?_
 obtain ⟨v1,hv1,hr⟩:=aA hr
 obtain ⟨hg2,hr⟩:=aN hr
 try simp only [hv1,oG,oI,true_and,and_assoc]
 repeat (first | refine gG hg2 ?_ | refine gA ?_ | refine gB ?_)
 exact D0 hr
def aeP (x0 x1:Int):Option (Bool):=
 some (decide (x0>x1))
@[go_sem] def avE:=Qb oQ false aeP
theorem f197:aF Tryz.prog 197 avE.sp:=by
 refine vm .nil Tryz.func197 Tryz.ntmps197 fun ⟨x0,x1⟩ r hr stop S=> ?_
 rw [yI,aeP] at hr
 refine S.gx [] ?_
 exact D0 hr
def PX (a0:Int):Option (Bool):=
 (jR a0 1 3000).bind fun v1=>
  some v1
@[go_sem] def akZ:=KQ oQ false PX
@[go_sem] def anV (k:Nat):=lk [(166,Za.sp)] k
theorem f198:aF Tryz.prog 198 akZ.sp:=by
 refine vm (tb:=anV) (.cons f166 .nil) Tryz.func198 Tryz.ntmps198 fun a0 r hr stop S=> ?_
 rw [oC,PX] at hr
 refine S.gx [] ?_
 exact D0 hr
def iH (a0:Bool) (a1:Int):Option (Int):=
 if a0=true then
  some 0
  else some a1
@[go_sem] def OJ:=qT2 lC false iH
theorem f129:aF Tryz.prog 129 OJ.sp:=by
 refine vm .nil Tryz.func129 Tryz.ntmps129 fun ⟨a0,a1⟩ r hr stop S=> ?_
 rw [yI,iH] at hr
 refine S.gx [] ?_
 exact D0 hr
def S9 (a0:bn):Bd Int Int:=fun s1=>
 if (decide (s1<(a0.length:Int)))=true then
  if 0<=s1/\s1<(a0.length:Int) then
   if ((a0.getD s1.toNat default) != 0)=true then
    .out (some (a0.getD s1.toNat default))
    else .next (IntKind.i64.wrap (s1+1))
   else .out none
  else .out (some 0)
def rZ (a0:bn):Option (Int):=
 aS (S9 a0) 1000000000 0
@[go_sem] def Zb:=qT3 lC false rZ
theorem f126:aF Tryz.prog 126 Zb.sp:=by
 refine vm .nil Tryz.func126 Tryz.ntmps126 fun a0 r hr stop S=> ?_
 rw [oC,rZ] at hr
 refine S.gx [] ?_
 refine gr ?_
 refine S.sees [5,6,7] [] [] ?_ (Stop.iter S (fun s1=>⟨[(5,.c (.d (ah 1 cu a0))),(6,.c (.d (.int .i64 (a0.length:Int)))),(7,.c (.d (.int .i64 s1)))],[],[]⟩) (S9 a0) (fun q=>q=r) hr rfl ?_)
 ·exact lf
 ·intro s1 hr
  unfold S9 at hr
  refine S.gx [] ?_
  exact D1 (S.ss [5,6,7] [] []) hr
def SK (x1:Int) (x0:au) (x2:Int) (a1:Option (Int×au×Int)) (a2 s1:Int):Bd Int Int:=fun s2=>
 if (decide (s2<(x0.length:Int)))=true then
  if 0<=s2/\s2<(x0.length:Int) then
   aP (aeP ((x0.getD s2.toNat default).1) ((x0.getD s2.toNat default).2)) fun v2=>
    if v2=true then
     .out ((PX x1).bind fun v3=>
      if (v3 && (!(decide (s1>=0))))=true->(jw x2).isSome=true then
       (iH ((v3 && (!(decide (s1>=0)))) && ((jw x2).getD default)) 2).bind fun v4=>
        (iH (!(decide (s2>=0))) 3).bind fun v5=>
         (rZ [v4,v5]).bind fun v6=>
          if ((v6 != 0) || (!a1.isSome))=true then
           some v6
           else if a1.isSome=true then
            if a1.isSome=true then
             if (a2 != 0)=true then
              if 0<=0/\0<(x0.length:Int) then
               if a1.isSome=true then
                if a1.isSome=true then
                 if 0<=0/\0<(((a1.getD default).2.1).length:Int) then
                  (iH (((decide (x1>((a1.getD default).1))) && (decide ((IntKind.i64.wrap (a2*((x0.getD 0 default).1)))>=(IntKind.i64.wrap (a2*((((a1.getD default).2.1).getD 0 default).1)))))) && (decide ((IntKind.i64.wrap (a2*((x0.getD 0 default).2)))>=(IntKind.i64.wrap (a2*((((a1.getD default).2.1).getD 0 default).2)))))) 9).bind fun v7=>
                   some v7
                  else none
                 else none
                else none
               else none
              else (iH (decide (x1>((a1.getD default).1))) 9).bind fun v12=>
               some v12
             else none
            else none
       else none)
     else .next (IntKind.i64.wrap (s2+1))
   else .out none
  else .out ((PX x1).bind fun v17=>
   if (v17 && (!(decide (s1>=0))))=true->(jw x2).isSome=true then
    (iH ((v17 && (!(decide (s1>=0)))) && ((jw x2).getD default)) 2).bind fun v18=>
     (iH true 3).bind fun v19=>
      (rZ [v18,v19]).bind fun v20=>
       if ((v20 != 0) || (!a1.isSome))=true then
        some v20
        else if a1.isSome=true then
         if a1.isSome=true then
          if (a2 != 0)=true then
           if 0<=0/\0<(x0.length:Int) then
            if a1.isSome=true then
             if a1.isSome=true then
              if 0<=0/\0<(((a1.getD default).2.1).length:Int) then
               (iH (((decide (x1>((a1.getD default).1))) && (decide ((IntKind.i64.wrap (a2*((x0.getD 0 default).1)))>=(IntKind.i64.wrap (a2*((((a1.getD default).2.1).getD 0 default).1)))))) && (decide ((IntKind.i64.wrap (a2*((x0.getD 0 default).2)))>=(IntKind.i64.wrap (a2*((((a1.getD default).2.1).getD 0 default).2)))))) 9).bind fun v21=>
                some v21
               else none
              else none
             else none
            else none
           else (iH (decide (x1>((a1.getD default).1))) 9).bind fun v26=>
            some v26
          else none
         else none
    else none)
def SI (x1:Int) (x0:au) (x2:Int) (a1:Option (Int×au×Int)) (a2:Int):Bd Int Int:=fun s3=>
 if (decide (s3<(x0.length:Int)))=true then
  if 0<=s3/\s3<(x0.length:Int) then
   aP (aeP ((x0.getD s3.toNat default).1) ((x0.getD s3.toNat default).2)) fun v31=>
    if v31=true then
     .out ((PX x1).bind fun v32=>
      if v32=true->(jw x2).isSome=true then
       (iH (v32 && ((jw x2).getD default)) 2).bind fun v33=>
        (iH (!(decide (s3>=0))) 3).bind fun v34=>
         (rZ [v33,v34]).bind fun v35=>
          if ((v35 != 0) || (!a1.isSome))=true then
           some v35
           else if a1.isSome=true then
            if a1.isSome=true then
             if (a2 != 0)=true then
              if 0<=0/\0<(x0.length:Int) then
               if a1.isSome=true then
                if a1.isSome=true then
                 if 0<=0/\0<(((a1.getD default).2.1).length:Int) then
                  (iH (((decide (x1>((a1.getD default).1))) && (decide ((IntKind.i64.wrap (a2*((x0.getD 0 default).1)))>=(IntKind.i64.wrap (a2*((((a1.getD default).2.1).getD 0 default).1)))))) && (decide ((IntKind.i64.wrap (a2*((x0.getD 0 default).2)))>=(IntKind.i64.wrap (a2*((((a1.getD default).2.1).getD 0 default).2)))))) 9).bind fun v36=>
                   some v36
                  else none
                 else none
                else none
               else none
              else (iH (decide (x1>((a1.getD default).1))) 9).bind fun v41=>
               some v41
             else none
            else none
       else none)
     else .next (IntKind.i64.wrap (s3+1))
   else .out none
  else .out ((PX x1).bind fun v46=>
   if v46=true->(jw x2).isSome=true then
    (iH (v46 && ((jw x2).getD default)) 2).bind fun v47=>
     (iH true 3).bind fun v48=>
      (rZ [v47,v48]).bind fun v49=>
       if ((v49 != 0) || (!a1.isSome))=true then
        some v49
        else if a1.isSome=true then
         if a1.isSome=true then
          if (a2 != 0)=true then
           if 0<=0/\0<(x0.length:Int) then
            if a1.isSome=true then
             if a1.isSome=true then
              if 0<=0/\0<(((a1.getD default).2.1).length:Int) then
               (iH (((decide (x1>((a1.getD default).1))) && (decide ((IntKind.i64.wrap (a2*((x0.getD 0 default).1)))>=(IntKind.i64.wrap (a2*((((a1.getD default).2.1).getD 0 default).1)))))) && (decide ((IntKind.i64.wrap (a2*((x0.getD 0 default).2)))>=(IntKind.i64.wrap (a2*((((a1.getD default).2.1).getD 0 default).2)))))) 9).bind fun v50=>
                some v50
               else none
              else none
             else none
            else none
           else (iH (decide (x1>((a1.getD default).1))) 9).bind fun v55=>
            some v55
          else none
         else none
    else none)
def SL (x1:Int) (x0:au) (x2:Int) (a1:Option (Int×au×Int)) (a2:Int):Bd Int Int:=fun s1=>
 if (decide (s1<(x0.length:Int)))=true then
  if 0<=s1/\s1<(x0.length:Int) then
   aP (aiC ((x0.getD s1.toNat default).1) ((x0.getD s1.toNat default).2)) fun v1=>
    if v1=true then
     .out (aS (SK x1 x0 x2 a1 a2 s1) 1000000000 0)
     else .next (IntKind.i64.wrap (s1+1))
   else .out none
  else .out (aS (SI x1 x0 x2 a1 a2) 1000000000 0)
def XF (x1:Int) (x0:au) (x2:Int) (a1:Option (Int×au×Int)) (a2:Int):Option (Int):=
 aS (SL x1 x0 x2 a1 a2) 1000000000 0
@[go_sem] def avY:=asI lC false XF
@[go_sem] def agy (k:Nat):=lk [(126,Zb.sp),(129,OJ.sp),(172,agi.sp),(196,avF.sp),(197,avE.sp),(198,akZ.sp)] k
theorem pO:dS Tryz.prog agy:= .cons f126 (.cons f129 (.cons f172 (.cons f196 (.cons f197 (.cons f198 .nil)))))
theorem f164:aF Tryz.prog 164 avY.sp:=by
 refine vm (tb:=agy) (.cons f126 (.cons f129 (.cons f172 (.cons f196 (.cons f197 (.cons f198 .nil)))))) Tryz.func164 Tryz.ntmps164 fun ⟨x1,x0,x2,a1,a2⟩ r hr stop S=> ?_
 rw [uq5,XF] at hr
 refine S.gx [1,2,5,7,10] ?_
 refine gr ?_
 refine S.inl 2 [1,2,3] [] Tryz.func195 (by decide) rfl Tryz.ntmps195 (fun cx e=>aX bP pO cx e) (some 15) rfl rfl rfl rfl (nL rfl) (nL rfl) ?_
 refine gs ?_
 refine gr ?_
 intro stop1 S1
 refine S1.gx [1] ?_
 refine gr ?_
 refine S1.inl 2 [4] [] Tryz.func215 (by decide) rfl Tryz.ntmps215 (fun cx e=>aX bP pO cx e) (some 7) rfl rfl rfl rfl (nL rfl) (nL rfl) ?_
 refine gs ?_
 refine gr ?_
 intro stop2 S2
 refine S2.gx [4] ?_
 refine gr ?_
 refine S2.sees [0,1,7,8] [(3,3)] [] ?_ (Stop.iter S2 (fun s1=>⟨[(0,.c (.d (ah 2 aT x0))),(1,.c (.clo 196 [])),(7,.c (.d (.int .i64 (x0.length:Int)))),(8,.c (.d (.int .i64 s1)))],[(3,[.d (.int .i64 x1),.d (ah 2 aT x0),.d (.int .i64 x2)])],[]⟩) (SL x1 x0 x2 a1 a2) (fun q=>q=r) hr rfl ?_)
 ·exact lf
 ·intro s1 hr
  unfold SL at hr
  refine S2.gx [4] ?_
  refine gr ?_
  refine cZ hr (fun hc hr=> ?_) fun hc hr=> ?_
  ·refine gr ?_
   refine S2.gx [] ?_
   obtain ⟨aBG,hr⟩:=aB hr
   obtain ⟨v1,hv1,hr⟩:=aI hr
   refine gb hv1 ?_
   refine gr ?_
   refine cZ hr (fun hc hr=> ?_) fun hc hr=>D1 (S2.ss [0,1,7,8] [(3,3)] []) hr
   refine gr ?_
   have hr:=bK hr
   refine gr ?_
   refine S1.gx [1] ?_
   refine gr ?_
   refine gr ?_
   refine S.gx [1,2,5,7,10] ?_
   refine gr ?_
   refine S.inl 2 [1,2,3,7] [] Tryz.func195 (by decide) rfl Tryz.ntmps195 (fun cx e=>aX bP pO cx e) (some 18) rfl rfl rfl rfl (nL rfl) (nL rfl) ?_
   refine gs ?_
   refine gr ?_
   intro stop1 S1
   refine S1.gx [1] ?_
   refine gr ?_
   refine S1.inl 2 [4] [] Tryz.func215 (by decide) rfl Tryz.ntmps215 (fun cx e=>aX bP pO cx e) (some 7) rfl rfl rfl rfl (nL rfl) (nL rfl) ?_
   refine gs ?_
   refine gr ?_
   intro stop2 S2
   refine S2.gx [4] ?_
   refine gr ?_
   refine S2.sees [0,1,7,8] [(3,3)] [] ?_ (Stop.iter S2 (fun s2=>⟨[(0,.c (.d (ah 2 aT x0))),(1,.c (.clo 197 [])),(7,.c (.d (.int .i64 (x0.length:Int)))),(8,.c (.d (.int .i64 s2)))],[(3,[.d (.int .i64 x1),.d (ah 2 aT x0),.d (.int .i64 x2)])],[]⟩) (SK x1 x0 x2 a1 a2 s1) (fun q=>q=r) hr rfl ?_)
   ·exact lf
   ·intro s2 hr
    unfold SK at hr
    refine S2.gx [4] ?_
    refine gr ?_
    refine cZ hr (fun hc hr=> ?_) fun hc hr=> ?_
    ·refine gr ?_
     refine S2.gx [] ?_
     obtain ⟨aGH,hr⟩:=aB hr
     obtain ⟨v2,hv2,hr⟩:=aI hr
     refine gb hv2 ?_
     refine gr ?_
     refine cZ hr (fun hc hr=> ?_) fun hc hr=>D1 (S2.ss [0,1,7,8] [(3,3)] []) hr
     refine gr ?_
     have hr:=bK hr
     refine gr ?_
     refine S1.gx [1] ?_
     refine gr ?_
     refine gr ?_
     refine S.gx [1,2,5,7,10] ?_
     obtain ⟨v3,hv3,hr⟩:=aA hr
     obtain ⟨abo,hr⟩:=aN hr
     obtain ⟨v4,hv4,hr⟩:=aA hr
     obtain ⟨v5,hv5,hr⟩:=aA hr
     obtain ⟨v6,hv6,hr⟩:=aA hr
     try simp only [hv3,hv4,hv5,hv6,Option.getD_some,Option.isSome_some,true_and,and_assoc]
     repeat (first | refine gG abo ?_ | refine gA ?_ | refine gB ?_)
     refine iW hr (fun hc hr=> ?_) fun hc hr=> ?_
     ·refine gr ?_
      refine S.prune [9] ?_
      refine S.gx [1,2,7,10] ?_
      exact D0 hr
     ·obtain ⟨JH,hr⟩:=aN hr
      obtain ⟨X9,hr⟩:=aN hr
      refine gr ?_
      refine S.prune [1,2,3,10] ?_
      refine S.gx [1,2,5,10] ?_
      refine gr ?_
      refine gr ?_
      refine iW hr (fun hc hr=> ?_) fun hc hr=> ?_
      ·obtain ⟨Wv,hr⟩:=aN hr
       obtain ⟨Nk,hr⟩:=aN hr
       obtain ⟨uX,hr⟩:=aN hr
       obtain ⟨y7,hr⟩:=aN hr
       repeat (first | refine gA ?_ | refine gB ?_)
       refine S.prune [10] ?_
       refine S.gx [1,2,5,7] ?_
       exact D0 hr
      ·refine gr ?_
       refine S.prune [10] ?_
       refine S.gx [1,2,5,7] ?_
       exact D0 hr
    ·refine gr ?_
     have hr:=bK hr
     refine gr ?_
     refine gr ?_
     refine S1.gx [1] ?_
     refine gr ?_
     refine gr ?_
     refine S.gx [1,2,5,7,10] ?_
     obtain ⟨v17,Qz,hr⟩:=aA hr
     obtain ⟨aun,hr⟩:=aN hr
     obtain ⟨v18,Qy,hr⟩:=aA hr
     obtain ⟨v19,JE,hr⟩:=aA hr
     obtain ⟨v20,JD,hr⟩:=aA hr
     try simp only [Qz,Qy,JE,JD,Option.getD_some,Option.isSome_some,true_and,and_assoc]
     repeat (first | refine gG aun ?_ | refine gA ?_ | refine gB ?_)
     refine iW hr (fun hc hr=> ?_) fun hc hr=> ?_
     ·refine gr ?_
      refine S.prune [9] ?_
      refine S.gx [1,2,7,10] ?_
      exact D0 hr
     ·obtain ⟨aup,hr⟩:=aN hr
      obtain ⟨auo,hr⟩:=aN hr
      refine gr ?_
      refine S.prune [1,2,3,10] ?_
      refine S.gx [1,2,5,10] ?_
      refine gr ?_
      refine gr ?_
      refine iW hr (fun hc hr=> ?_) fun hc hr=> ?_
      ·obtain ⟨aur,hr⟩:=aN hr
       obtain ⟨akg,hr⟩:=aN hr
       obtain ⟨abn,hr⟩:=aN hr
       obtain ⟨auq,hr⟩:=aN hr
       repeat (first | refine gA ?_ | refine gB ?_)
       refine S.prune [10] ?_
       refine S.gx [1,2,5,7] ?_
       exact D0 hr
      ·refine gr ?_
       refine S.prune [10] ?_
       refine S.gx [1,2,5,7] ?_
       exact D0 hr
  ·refine gr ?_
   have hr:=bK hr
   refine gr ?_
   refine gr ?_
   refine S1.gx [1] ?_
   refine gr ?_
   refine gr ?_
   refine S.gx [1,2,5,7,10] ?_
   refine gr ?_
   refine S.inl 2 [1,2,3,7] [] Tryz.func195 (by decide) rfl Tryz.ntmps195 (fun cx e=>aX bP pO cx e) (some 18) rfl rfl rfl rfl (nL rfl) (nL rfl) ?_
   refine gs ?_
   refine gr ?_
   intro stop1 S1
   refine S1.gx [1] ?_
   refine gr ?_
   refine S1.inl 2 [4] [] Tryz.func215 (by decide) rfl Tryz.ntmps215 (fun cx e=>aX bP pO cx e) (some 7) rfl rfl rfl rfl (nL rfl) (nL rfl) ?_
   refine gs ?_
   refine gr ?_
   intro stop2 S2
   refine S2.gx [4] ?_
   refine gr ?_
   refine S2.sees [0,1,7,8] [(3,3)] [] ?_ (Stop.iter S2 (fun s3=>⟨[(0,.c (.d (ah 2 aT x0))),(1,.c (.clo 197 [])),(7,.c (.d (.int .i64 (x0.length:Int)))),(8,.c (.d (.int .i64 s3)))],[(3,[.d (.int .i64 x1),.d (ah 2 aT x0),.d (.int .i64 x2)])],[]⟩) (SI x1 x0 x2 a1 a2) (fun q=>q=r) hr rfl ?_)
   ·exact lf
   ·intro s3 hr
    unfold SI at hr
    refine S2.gx [4] ?_
    refine gr ?_
    refine cZ hr (fun hc hr=> ?_) fun hc hr=> ?_
    ·refine gr ?_
     refine S2.gx [] ?_
     obtain ⟨aGC,hr⟩:=aB hr
     obtain ⟨v31,hv31,hr⟩:=aI hr
     refine gb hv31 ?_
     refine gr ?_
     refine cZ hr (fun hc hr=> ?_) fun hc hr=>D1 (S2.ss [0,1,7,8] [(3,3)] []) hr
     refine gr ?_
     have hr:=bK hr
     refine gr ?_
     refine S1.gx [1] ?_
     refine gr ?_
     refine gr ?_
     refine S.gx [1,2,5,7,10] ?_
     obtain ⟨v32,hv32,hr⟩:=aA hr
     obtain ⟨aBB,hr⟩:=aN hr
     obtain ⟨v33,Qu,hr⟩:=aA hr
     obtain ⟨v34,hv34,hr⟩:=aA hr
     obtain ⟨v35,ajX,hr⟩:=aA hr
     try simp only [hv32,Qu,hv34,ajX,Option.getD_some,Option.isSome_some,true_and,and_assoc]
     repeat (first | refine gG aBB ?_ | refine gA ?_ | refine gB ?_)
     refine iW hr (fun hc hr=> ?_) fun hc hr=> ?_
     ·refine gr ?_
      refine S.prune [9] ?_
      refine S.gx [1,2,7,10] ?_
      exact D0 hr
     ·obtain ⟨aGE,hr⟩:=aN hr
      obtain ⟨aGD,hr⟩:=aN hr
      refine gr ?_
      refine S.prune [1,2,3,10] ?_
      refine S.gx [1,2,5,10] ?_
      refine gr ?_
      refine gr ?_
      refine iW hr (fun hc hr=> ?_) fun hc hr=> ?_
      ·obtain ⟨auj,hr⟩:=aN hr
       obtain ⟨aui,hr⟩:=aN hr
       obtain ⟨aBD,hr⟩:=aN hr
       obtain ⟨aBC,hr⟩:=aN hr
       repeat (first | refine gA ?_ | refine gB ?_)
       refine S.prune [10] ?_
       refine S.gx [1,2,5,7] ?_
       exact D0 hr
      ·refine gr ?_
       refine S.prune [10] ?_
       refine S.gx [1,2,5,7] ?_
       exact D0 hr
    ·refine gr ?_
     have hr:=bK hr
     refine gr ?_
     refine gr ?_
     refine S1.gx [1] ?_
     refine gr ?_
     refine gr ?_
     refine S.gx [1,2,5,7,10] ?_
     obtain ⟨v46,ajV,hr⟩:=aA hr
     obtain ⟨aBA,hr⟩:=aN hr
     obtain ⟨v47,aBl,hr⟩:=aA hr
     obtain ⟨v48,ajU,hr⟩:=aA hr
     obtain ⟨v49,ajT,hr⟩:=aA hr
     try simp only [ajV,aBl,ajU,ajT,Option.getD_some,Option.isSome_some,true_and,and_assoc]
     repeat (first | refine gG aBA ?_ | refine gA ?_ | refine gB ?_)
     refine iW hr (fun hc hr=> ?_) fun hc hr=> ?_
     ·refine gr ?_
      refine S.prune [9] ?_
      refine S.gx [1,2,7,10] ?_
      exact D0 hr
     ·obtain ⟨aGv,hr⟩:=aN hr
      obtain ⟨aGu,hr⟩:=aN hr
      refine gr ?_
      refine S.prune [1,2,3,10] ?_
      refine S.gx [1,2,5,10] ?_
      refine gr ?_
      refine gr ?_
      refine iW hr (fun hc hr=> ?_) fun hc hr=> ?_
      ·obtain ⟨aGA,hr⟩:=aN hr
       obtain ⟨aGz,hr⟩:=aN hr
       obtain ⟨aGy,hr⟩:=aN hr
       obtain ⟨aGx,hr⟩:=aN hr
       repeat (first | refine gA ?_ | refine gB ?_)
       refine S.prune [10] ?_
       refine S.gx [1,2,5,7] ?_
       exact D0 hr
      ·refine gr ?_
       refine S.prune [10] ?_
       refine S.gx [1,2,5,7] ?_
       exact D0 hr
def aiJ (a0:Int):Option (Bool):=
 (jR a0 0 2000).bind fun v1=>
  some (!v1)
@[go_sem] def avX:=KQ oQ false aiJ
@[go_sem] def an' (k:Nat):=lk [(166,Za.sp)] k
theorem f165:aF Tryz.prog 165 avX.sp:=by
 refine vm (tb:=an') (.cons f166 .nil) Tryz.func165 Tryz.ntmps165 fun a0 r hr stop S=> ?_
 rw [oC,aiJ] at hr
 refine S.gx [] ?_
 exact D0 hr
def Ky (a0:bn):Bd Int Int:=fun s1=>
 if (decide (s1<(a0.length:Int)))=true then
  if 0<=s1/\s1<(a0.length:Int) then
   aP (aiJ (a0.getD s1.toNat default)) fun v1=>
    if v1=true then
     .out (some s1)
     else .next (IntKind.i64.wrap (s1+1))
   else .out none
  else .out (some (-1))
def Z8 (a0:bn):Option (Int):=
 aS (Ky a0) 1000000000 0
@[go_sem] def ahz:=ai2 lC false Z8
@[go_sem] def ahZ (k:Nat):=lk [(165,avX.sp)] k
theorem auG:aF Tryz.prog 155 ahz.sp:=by
 refine vm (tb:=ahZ) (.cons f165 .nil) Tryz.func155 Tryz.ntmps155 fun a0 r hr stop S=> ?_
 rw [oC,Z8] at hr
 refine S.gx [] ?_
 refine gr ?_
 refine S.sees [0,1,7,8] [] [] ?_ (Stop.iter S (fun s1=>⟨[(0,.c (.d (ah 1 cu a0))),(1,.c (.clo 165 [])),(7,.c (.d (.int .i64 (a0.length:Int)))),(8,.c (.d (.int .i64 s1)))],[],[]⟩) (Ky a0) (fun q=>q=r) hr rfl ?_)
 ·exact lf
 ·intro s1 hr
  unfold Ky at hr
  refine S.gx [] ?_
  exact D1 (S.ss [0,1,7,8] [] []) hr
def VU (a0:bn):Option (Bool):=
 (Z8 a0).bind fun v1=>
  some (decide (v1>=0))
@[go_sem] def ahC:=ai2 oQ false VU
@[go_sem] def ah2 (k:Nat):=lk [(155,ahz.sp)] k
theorem auJ:aF Tryz.prog 116 ahC.sp:=by
 refine vm (tb:=ah2) (.cons auG .nil) Tryz.func116 Tryz.ntmps116 fun a0 r hr stop S=> ?_
 rw [oC,VU] at hr
 refine S.gx [] ?_
 exact D0 hr
section
variable {β:Type} [Inhabited β] (u:β->List RV) (al:Bool)
def apO (a0 a1:Int) (a2:au) (a3:aj) (a4 a5:bn) (a6:au) (a7 a8:Int) (a9:bD) (a10:aY) (a11:bC) (a12:au) (jL kE kC a16:Int) (a17:bC) (mX:Int):List Arg:=[.agg [.int .i64 a0,.int .i64 a1,ah 2 aT a2,ah 1 aQ a3,ah 1 cu a4,ah 1 cu a5,ah 2 aT a6,.int .i64 a7,.int .i64 a8,ah 4 dh a9,ah 5 bT a10,ah 3 dn a11,ah 2 aT a12,.int .i64 jL,.int .i64 kE,.int .i64 kC,.int .i64 a16,ah 3 dn a17,.int .i64 mX]]
def arw:List Arg->Int×Int×au×aj×bn×bn×au×Int×Int×bD×aY×bC×au×Int×Int×Int×Int×bC×Int
 | [.agg [c0,c1,c2,c3,c4,c5,c6,c7,c8,c9,c10,c11,c12,c13,c14,c15,c16,c17,c18]]=>(aC c0,aC c1,aG bY c2,aG bQ c3,aG jM c4,aG jM c5,aG bY c6,aC c7,aC c8,aG jD c9,aG gW c10,aG jE c11,aG bY c12,aC c13,aC c14,aC c15,aC c16,aG jE c17,aC c18)
 | _=>default
def ai1 (r:Int->Int->au->aj->bn->bn->au->Int->Int->bD->aY->bC->au->Int->Int->Int->Int->bC->Int->Option β):=mkT (u19 apO) arw (u19 r) u al
attribute [go_sem] apO arw ai1
def apM (a0 a1:Int) (a2:au) (a3:aj) (a4:au) (a5:aj) (a6:au) (a7 a8:Int):List Arg:=[.agg [.int .i64 a0,.int .i64 a1,ah 2 aT a2,ah 1 aQ a3,ah 2 aT a4,ah 1 aQ a5],.agg [ah 2 aT a6,.int .i64 a7,.int .i64 a8]]
def aru:List Arg->Int×Int×au×aj×au×aj×au×Int×Int
 | [.agg [c0,c1,c2,c3,c4,c5],.agg [c6,c7,c8]]=>(aC c0,aC c1,aG bY c2,aG bQ c3,aG bY c4,aG bQ c5,aG bY c6,aC c7,aC c8)
 | _=>default
def asH (r:Int->Int->au->aj->au->aj->au->Int->Int->Option β):=mkT (u9 apM) aru (u9 r) u al
attribute [go_sem] apM aru asH
def apL (a0 a1:Int) (a2:au) (a3:aj) (a4:au) (a5:aj) (a6:dH):List Arg:=[.agg [.int .i64 a0,.int .i64 a1,ah 2 aT a2,ah 1 aQ a3,ah 2 aT a4,ah 1 aQ a5],.c (ah 3 fO a6)]
def ars:List Arg->Int×Int×au×aj×au×aj×dH
 | [.agg [c0,c1,c2,c3,c4,c5],.c c6]=>(aC c0,aC c1,aG bY c2,aG bQ c3,aG bY c4,aG bQ c5,aG lX c6)
 | _=>default
def asG (r:Int->Int->au->aj->au->aj->dH->Option β):=mkT (u7 apL) ars (u7 r) u al
attribute [go_sem] apL ars asG
def apK (a0:au) (a1 a2:Int):List Arg:=[.agg [ah 2 aT a0,.int .i64 a1,.int .i64 a2]]
def arq:List Arg->au×Int×Int
 | [.agg [c0,c1,c2]]=>(aG bY c0,aC c1,aC c2)
 | _=>default
def asF (r:au->Int->Int->Option β):=mkT (u3 apK) arq (u3 r) u al
attribute [go_sem] apK arq asF
def apJ (a0 a1:Int) (a2:au) (a3:aj) (a4:au) (a5:aj) (a6 a7:bn) (a8:au) (a9 a10:Int):List Arg:=[.agg [.int .i64 a0,.int .i64 a1,ah 2 aT a2,ah 1 aQ a3,ah 2 aT a4,ah 1 aQ a5],.agg [ah 1 cu a6,ah 1 cu a7],.agg [ah 2 aT a8,.int .i64 a9,.int .i64 a10]]
def arp:List Arg->Int×Int×au×aj×au×aj×bn×bn×au×Int×Int
 | [.agg [c0,c1,c2,c3,c4,c5],.agg [c6,c7],.agg [c8,c9,c10]]=>(aC c0,aC c1,aG bY c2,aG bQ c3,aG bY c4,aG bQ c5,aG jM c6,aG jM c7,aG bY c8,aC c9,aC c10)
 | _=>default
def asE (r:Int->Int->au->aj->au->aj->bn->bn->au->Int->Int->Option β):=mkT (u11 apJ) arp (u11 r) u al
attribute [go_sem] apJ arp asE
def apI (a0 a1:Int) (a2:au) (a3:aj) (a4:au) (a5:aj) (a6 a7:bn) (a8:dH):List Arg:=[.agg [.int .i64 a0,.int .i64 a1,ah 2 aT a2,ah 1 aQ a3,ah 2 aT a4,ah 1 aQ a5],.agg [ah 1 cu a6,ah 1 cu a7],.c (ah 3 fO a8)]
def aro:List Arg->Int×Int×au×aj×au×aj×bn×bn×dH
 | [.agg [c0,c1,c2,c3,c4,c5],.agg [c6,c7],.c c8]=>(aC c0,aC c1,aG bY c2,aG bQ c3,aG bY c4,aG bQ c5,aG jM c6,aG jM c7,aG lX c8)
 | _=>default
def asD (r:Int->Int->au->aj->au->aj->bn->bn->dH->Option β):=mkT (u9 apI) aro (u9 r) u al
attribute [go_sem] apI aro asD
def apH (a0 a1:Int) (a2:au) (a3:aj) (a4 a5:bn) (a6:dH):List Arg:=[.agg [.int .i64 a0,.int .i64 a1,ah 2 aT a2,ah 1 aQ a3],.agg [ah 1 cu a4,ah 1 cu a5],.c (ah 3 fO a6)]
def arn:List Arg->Int×Int×au×aj×bn×bn×dH
 | [.agg [c0,c1,c2,c3],.agg [c4,c5],.c c6]=>(aC c0,aC c1,aG bY c2,aG bQ c3,aG jM c4,aG jM c5,aG lX c6)
 | _=>default
def asC (r:Int->Int->au->aj->bn->bn->dH->Option β):=mkT (u7 apH) arn (u7 r) u al
attribute [go_sem] apH arn asC
def aqz (v:Int×Int×au×aj×bn×bn×au×Int×Int×Int×Int×au×aj×bn×bn×au×Int×Int×bD×aY×bC×au×Int×Int×Int×Int×bC×Int×Int):List RV:=[.agg [.d (.int .i64 v.1),.d (.int .i64 v.2.1),.d (ah 2 aT v.2.2.1),.d (ah 1 aQ v.2.2.2.1),.d (ah 1 cu v.2.2.2.2.1),.d (ah 1 cu v.2.2.2.2.2.1),.d (ah 2 aT v.2.2.2.2.2.2.1),.d (.int .i64 v.2.2.2.2.2.2.2.1),.d (.int .i64 v.2.2.2.2.2.2.2.2.1),.d (.int .i64 v.2.2.2.2.2.2.2.2.2.1),.d (.int .i64 v.2.2.2.2.2.2.2.2.2.2.1),.d (ah 2 aT v.2.2.2.2.2.2.2.2.2.2.2.1),.d (ah 1 aQ v.2.2.2.2.2.2.2.2.2.2.2.2.1),.d (ah 1 cu v.2.2.2.2.2.2.2.2.2.2.2.2.2.1),.d (ah 1 cu v.2.2.2.2.2.2.2.2.2.2.2.2.2.2.1),.d (ah 2 aT v.2.2.2.2.2.2.2.2.2.2.2.2.2.2.2.1),.d (.int .i64 v.2.2.2.2.2.2.2.2.2.2.2.2.2.2.2.2.1),.d (.int .i64 v.2.2.2.2.2.2.2.2.2.2.2.2.2.2.2.2.2.1),.d (ah 4 dh v.2.2.2.2.2.2.2.2.2.2.2.2.2.2.2.2.2.2.1),.d (ah 5 bT v.2.2.2.2.2.2.2.2.2.2.2.2.2.2.2.2.2.2.2.1),.d (ah 3 dn v.2.2.2.2.2.2.2.2.2.2.2.2.2.2.2.2.2.2.2.2.1),.d (ah 2 aT v.2.2.2.2.2.2.2.2.2.2.2.2.2.2.2.2.2.2.2.2.2.1),.d (.int .i64 v.2.2.2.2.2.2.2.2.2.2.2.2.2.2.2.2.2.2.2.2.2.2.1),.d (.int .i64 v.2.2.2.2.2.2.2.2.2.2.2.2.2.2.2.2.2.2.2.2.2.2.2.1),.d (.int .i64 v.2.2.2.2.2.2.2.2.2.2.2.2.2.2.2.2.2.2.2.2.2.2.2.2.1),.d (.int .i64 v.2.2.2.2.2.2.2.2.2.2.2.2.2.2.2.2.2.2.2.2.2.2.2.2.2.1),.d (ah 3 dn v.2.2.2.2.2.2.2.2.2.2.2.2.2.2.2.2.2.2.2.2.2.2.2.2.2.2.1),.d (.int .i64 v.2.2.2.2.2.2.2.2.2.2.2.2.2.2.2.2.2.2.2.2.2.2.2.2.2.2.2.1)],.c (.d (.int .i64 v.2.2.2.2.2.2.2.2.2.2.2.2.2.2.2.2.2.2.2.2.2.2.2.2.2.2.2.2))]
attribute [go_sem] aqz
def aqy (v:dH):List RV:=[.c (.own (ah 3 fO v))]
attribute [go_sem] aqy
def aqx (v:bn×Int×bn×Int):List RV:=[.agg [.own (ah 1 cu v.1),.d (.int .i64 v.2.1)],.agg [.own (ah 1 cu v.2.2.1),.d (.int .i64 v.2.2.2)]]
attribute [go_sem] aqx
def aqw (v:bn×bn×Int):List RV:=[.agg [.own (ah 1 cu v.1),.own (ah 1 cu v.2.1)],.c (.d (.int .i64 v.2.2))]
attribute [go_sem] aqw
def aiW (v:iU×Int):List RV:=[.c (.own (ah 2 iT v.1)),.c (.d (.int .i64 v.2))]
attribute [go_sem] aiW
end
def aiB (a0 a1:Int):Option (Bool):=
 (LV a0).bind fun v1=>
  if v1=true->(LV a1).isSome=true then
   some ((v1 && (!((LV a1).getD default))) || (decide (a0<a1)))
   else none
@[go_sem] def avD:=qT7 oQ false aiB
@[go_sem] def anU (k:Nat):=lk [(214,akY.sp)] k
theorem f199:aF Tryz.prog 199 avD.sp:=by
 refine vm (tb:=anU) (.cons f214 .nil) Tryz.func199 Tryz.ntmps199 fun ⟨a0,a1⟩ r hr stop S=> ?_
 rw [yI,aiB] at hr
 refine S.gx [] ?_
 obtain ⟨v1,hv1,hr⟩:=aA hr
 obtain ⟨hg2,hr⟩:=aN hr
 try simp only [hv1,oG,oI,true_and,and_assoc]
 repeat (first | refine gG hg2 ?_ | refine gA ?_ | refine gB ?_)
 exact D0 hr
def SH (a0:bn):Bd Int Bool:=fun s1=>
 if (decide (s1>0))=true then
  if 0<=s1/\s1<(a0.length:Int) then
   if 0<=IntKind.i64.wrap (s1 - 1)/\IntKind.i64.wrap (s1 - 1)<(a0.length:Int) then
    aP (aiB (a0.getD s1.toNat default) (a0.getD (IntKind.i64.wrap (s1 - 1)).toNat default)) fun v1=>
     if v1=true then
      .out (some false)
      else .next (IntKind.i64.wrap (s1 - 1))
    else .out none
   else .out none
  else .out (some true)
def aeW (a0:bn):Option (Bool):=
 aS (SH a0) 1000000000 (IntKind.i64.wrap ((a0.length:Int) - 1))
@[go_sem] def avW:=qT3 oQ false aeW
@[go_sem] def an9 (k:Nat):=lk [(199,avD.sp)] k
theorem f167:aF Tryz.prog 167 avW.sp:=by
 refine vm (tb:=an9) (.cons f199 .nil) Tryz.func167 Tryz.ntmps167 fun a0 r hr stop S=> ?_
 rw [oC,aeW] at hr
 refine S.gx [] ?_
 refine gr ?_
 refine S.sees [0,3] [] [] ?_ (Stop.iter S (fun s1=>⟨[(0,.c (.d (ah 1 cu a0))),(3,.c (.d (.int .i64 s1)))],[],[]⟩) (SH a0) (fun q=>q=r) hr rfl ?_)
 ·exact lf
 ·intro s1 hr
  unfold SH at hr
  refine S.gx [] ?_
  exact D1 (S.ss [0,3] [] []) hr
def Tf (x0 x1 x2 x3:Int) (v1:bF×bF×bF×bF):Bd ((Option (Int×au×Int))×Int) (Int×Int):=fun s4=>
 if (decide (s4.2<(v1.2.2.2.length:Int)))=true then
  if 0<=s4.2/\s4.2<(v1.2.2.2.length:Int) then
   aP (XF ((v1.2.2.2.getD s4.2.toNat default).1) ((v1.2.2.2.getD s4.2.toNat default).2.1) ((v1.2.2.2.getD s4.2.toNat default).2.2) s4.1 0) fun v11=>
    if (v11 != 0)=true then
     .out (some (s4.2,v11))
     else if 0<=s4.2/\s4.2<(v1.2.2.2.length:Int) then
      .next (some ((v1.2.2.2.getD s4.2.toNat default).1,(v1.2.2.2.getD s4.2.toNat default).2.1,(v1.2.2.2.getD s4.2.toNat default).2.2),IntKind.i64.wrap (s4.2+1))
      else .out none
   else .out none
  else .out (if (decide ((v1.1.length:Int)>0))=true then
   if (decide ((v1.2.1.length:Int)>0))=true->0<=IntKind.i64.wrap ((v1.2.1.length:Int) - 1)/\IntKind.i64.wrap ((v1.2.1.length:Int) - 1)<(v1.2.1.length:Int) then
    if (decide ((v1.2.1.length:Int)>0))=true->0<=0/\0<(v1.1.length:Int) then
     if ((decide ((v1.2.1.length:Int)>0)) && (decide (((v1.2.1.getD (IntKind.i64.wrap ((v1.2.1.length:Int) - 1)).toNat default).1)>=((v1.1.getD 0 default).1))))=true then
      some (0,13)
      else if (decide ((v1.2.2.1.length:Int)>0))=true->0<=IntKind.i64.wrap ((v1.2.2.1.length:Int) - 1)/\IntKind.i64.wrap ((v1.2.2.1.length:Int) - 1)<(v1.2.2.1.length:Int) then
       if (decide ((v1.2.2.1.length:Int)>0))=true->0<=0/\0<(v1.1.length:Int) then
        if ((decide ((v1.2.2.1.length:Int)>0)) && (decide (((v1.2.2.1.getD (IntKind.i64.wrap ((v1.2.2.1.length:Int) - 1)).toNat default).1)>=((v1.1.getD 0 default).1))))=true then
         some (0,13)
         else if (decide ((v1.2.2.2.length:Int)>0))=true->0<=IntKind.i64.wrap ((v1.2.2.2.length:Int) - 1)/\IntKind.i64.wrap ((v1.2.2.2.length:Int) - 1)<(v1.2.2.2.length:Int) then
          if (decide ((v1.2.2.2.length:Int)>0))=true->0<=0/\0<(v1.1.length:Int) then
           if ((decide ((v1.2.2.2.length:Int)>0)) && (decide (((v1.2.2.2.getD (IntKind.i64.wrap ((v1.2.2.2.length:Int) - 1)).toNat default).1)>=((v1.1.getD 0 default).1))))=true then
            some (0,13)
            else (VU [x0,x1,x2,x3]).bind fun v14=>
             (iH (!v14) 2).bind fun v15=>
              (aeW [x0,x1,x2,x3]).bind fun v16=>
               (iH v16 9).bind fun v17=>
                (rZ [v15,v17]).bind fun v18=>
                 some (0,v18)
           else none
          else none
        else none
       else none
     else none
    else none
   else (VU [x0,x1,x2,x3]).bind fun v25=>
    (iH (!v25) 2).bind fun v26=>
     (aeW [x0,x1,x2,x3]).bind fun v27=>
      (iH v27 9).bind fun v28=>
       (rZ [v26,v28]).bind fun v29=>
        some (0,v29))
def Ti (x0 x1 x2 x3:Int) (v1:bF×bF×bF×bF):Bd ((Option (Int×au×Int))×Int) (Int×Int):=fun s3=>
 if (decide (s3.2<(v1.2.2.1.length:Int)))=true then
  if 0<=s3.2/\s3.2<(v1.2.2.1.length:Int) then
   aP (XF ((v1.2.2.1.getD s3.2.toNat default).1) ((v1.2.2.1.getD s3.2.toNat default).2.1) ((v1.2.2.1.getD s3.2.toNat default).2.2) s3.1 (-1)) fun v8=>
    if (v8 != 0)=true then
     .out (some (s3.2,v8))
     else if 0<=s3.2/\s3.2<(v1.2.2.1.length:Int) then
      .next (some ((v1.2.2.1.getD s3.2.toNat default).1,(v1.2.2.1.getD s3.2.toNat default).2.1,(v1.2.2.1.getD s3.2.toNat default).2.2),IntKind.i64.wrap (s3.2+1))
      else .out none
   else .out none
  else .out (aS (Tf x0 x1 x2 x3 v1) 1000000000 (none,0))
def Tj (x0 x1 x2 x3:Int) (v1:bF×bF×bF×bF):Bd ((Option (Int×au×Int))×Int) (Int×Int):=fun s2=>
 if (decide (s2.2<(v1.2.1.length:Int)))=true then
  if 0<=s2.2/\s2.2<(v1.2.1.length:Int) then
   aP (XF ((v1.2.1.getD s2.2.toNat default).1) ((v1.2.1.getD s2.2.toNat default).2.1) ((v1.2.1.getD s2.2.toNat default).2.2) s2.1 0) fun v5=>
    if (v5 != 0)=true then
     .out (some (s2.2,v5))
     else if 0<=s2.2/\s2.2<(v1.2.1.length:Int) then
      .next (some ((v1.2.1.getD s2.2.toNat default).1,(v1.2.1.getD s2.2.toNat default).2.1,(v1.2.1.getD s2.2.toNat default).2.2),IntKind.i64.wrap (s2.2+1))
      else .out none
   else .out none
  else .out (aS (Ti x0 x1 x2 x3 v1) 1000000000 (none,0))
def Tm (x0 x1 x2 x3:Int) (v1:bF×bF×bF×bF):Bd ((Option (Int×au×Int))×Int) (Int×Int):=fun s1=>
 if (decide (s1.2<(v1.1.length:Int)))=true then
  if 0<=s1.2/\s1.2<(v1.1.length:Int) then
   aP (XF ((v1.1.getD s1.2.toNat default).1) ((v1.1.getD s1.2.toNat default).2.1) ((v1.1.getD s1.2.toNat default).2.2) s1.1 1) fun v2=>
    if (v2 != 0)=true then
     .out (some (s1.2,v2))
     else if 0<=s1.2/\s1.2<(v1.1.length:Int) then
      .next (some ((v1.1.getD s1.2.toNat default).1,(v1.1.getD s1.2.toNat default).2.1,(v1.1.getD s1.2.toNat default).2.2),IntKind.i64.wrap (s1.2+1))
      else .out none
   else .out none
  else .out (aS (Tj x0 x1 x2 x3 v1) 1000000000 (none,0))
def ae0 (x4:bD) (x5:aY) (x6:bC) (x7:au) (x0 x1 x2 x3:Int):Option (Int×Int):=
 (aiK x4 x5 x6 x7 x0 x1 x2 x3).bind fun v1=>
  if (decide ((v1.1.length:Int)>8))=true then
   some (0,8)
   else if (decide ((v1.2.1.length:Int)>8))=true then
    some (0,8)
    else if (decide ((v1.2.2.1.length:Int)>8))=true then
     some (0,8)
     else if (decide ((v1.2.2.2.length:Int)>8))=true then
      some (0,8)
      else aS (Tm x0 x1 x2 x3 v1) 1000000000 (none,0)
@[go_sem] def ak9:=ae8 Gq false ae0
@[go_sem] def aoB (k:Nat):=lk [(116,ahC.sp),(126,Zb.sp),(129,OJ.sp),(163,avZ.sp),(164,avY.sp),(167,avW.sp)] k
theorem f119:aF Tryz.prog 119 ak9.sp:=by
 refine vm (tb:=aoB) (.cons auJ (.cons f126 (.cons f129 (.cons f163 (.cons f164 (.cons f167 .nil)))))) Tryz.func119 Tryz.ntmps119 fun ⟨x4,x5,x6,x7,x0,x1,x2,x3⟩ r hr stop S=> ?_
 rw [uq8,ae0] at hr
 refine S.gx [26,27] ?_
 obtain ⟨v1,hv1,hr⟩:=aA hr
 refine gb hv1 ?_
 refine S.lp ?_
 refine S.gx [26,27] ?_
 refine gr ?_
 refine iW hr (fun hc hr=>D0 hr) fun hc hr=> ?_
 refine gr ?_
 refine S.lp ?_
 refine S.gx [26,27] ?_
 refine gr ?_
 refine iW hr (fun hc hr=>D0 hr) fun hc hr=> ?_
 refine gr ?_
 refine S.lp ?_
 refine S.gx [26,27] ?_
 refine gr ?_
 refine iW hr (fun hc hr=>D0 hr) fun hc hr=> ?_
 refine gr ?_
 refine S.lp ?_
 refine S.gx [26,27] ?_
 refine gr ?_
 refine iW hr (fun hc hr=>D0 hr) fun hc hr=> ?_
 refine gr ?_
 refine S.lp ?_
 refine S.gx [26,27] ?_
 refine gr ?_
 refine S.lp ?_
 refine S.gx [26,27] ?_
 refine gr ?_
 refine S.share 16 rfl ?_
 refine S.sees [1,4,7,8,9,25,26,31,32] [(1,1),(4,4)] [(16,16),(10016,10016),(20016,20016),(30016,30016)] ?_ (Stop.iter S (fun s1=>⟨[(1,.c (.ref 1 0)),(4,.c (.ref 4 0)),(7,.c (.d (.int .i64 0))),(8,.c (.own 16)),(9,.c (.d (wF bH s1.1))),(25,.agg [.own 16,.own 10016,.own 20016,.own 30016]),(26,.c (.d (.int .i64 0))),(31,.c (.d (.int .i64 (v1.1.length:Int)))),(32,.c (.d (.int .i64 s1.2)))],[(1,[.d (ah 4 dh x4),.d (ah 5 bT x5),.d (ah 3 dn x6),.d (ah 2 aT x7),.d (.int .i64 x0),.d (.int .i64 x1),.d (.int .i64 x2),.d (.int .i64 x3)]),(4,[.own 16,.own 10016,.own 20016,.own 30016])],[(16,.shared (ah 3 bH v1.1)),(10016,.owned (ah 3 bH v1.2.1)),(20016,.owned (ah 3 bH v1.2.2.1)),(30016,.owned (ah 3 bH v1.2.2.2))]⟩) (Tm x0 x1 x2 x3 v1) (fun q=>q=r) hr rfl ?_)
 ·exact lf
 ·intro s1 hr
  unfold Tm at hr
  refine S.gx [26,27] ?_
  refine gr ?_
  refine cZ hr (fun hc hr=>D1 (S.ss [1,4,7,8,9,25,26,31,32] [(1,1),(4,4)] [(16,16),(10016,10016),(20016,20016),(30016,30016)]) hr) fun hc hr=> ?_
  refine gr ?_
  have hr:=bK hr
  refine gr ?_
  refine S.lp ?_
  refine S.gx [26,27] ?_
  refine gr ?_
  refine S.share 10016 rfl ?_
  refine S.sees [1,4,7,8,9,25,26,31,32] [(1,1),(4,4)] [(10016,10016),(16,16),(20016,20016),(30016,30016)] ?_ (Stop.iter S (fun s2=>⟨[(1,.c (.ref 1 0)),(4,.c (.ref 4 0)),(7,.c (.d (.int .i64 1))),(8,.c (.own 10016)),(9,.c (.d (wF bH s2.1))),(25,.agg [.own 16,.own 10016,.own 20016,.own 30016]),(26,.c (.d (.int .i64 1))),(31,.c (.d (.int .i64 (v1.2.1.length:Int)))),(32,.c (.d (.int .i64 s2.2)))],[(1,[.d (ah 4 dh x4),.d (ah 5 bT x5),.d (ah 3 dn x6),.d (ah 2 aT x7),.d (.int .i64 x0),.d (.int .i64 x1),.d (.int .i64 x2),.d (.int .i64 x3)]),(4,[.own 16,.own 10016,.own 20016,.own 30016])],[(10016,.shared (ah 3 bH v1.2.1)),(16,.shared (ah 3 bH v1.1)),(20016,.owned (ah 3 bH v1.2.2.1)),(30016,.owned (ah 3 bH v1.2.2.2))]⟩) (Tj x0 x1 x2 x3 v1) (fun q=>q=r) hr rfl ?_)
  ·exact lf
  ·intro s2 hr
   unfold Tj at hr
   refine S.gx [26,27] ?_
   refine gr ?_
   refine cZ hr (fun hc hr=>D1 (S.ss [1,4,7,8,9,25,26,31,32] [(1,1),(4,4)] [(10016,10016),(16,16),(20016,20016),(30016,30016)]) hr) fun hc hr=> ?_
   refine gr ?_
   have hr:=bK hr
   refine gr ?_
   refine S.lp ?_
   refine S.gx [26,27] ?_
   refine gr ?_
   refine S.share 20016 rfl ?_
   refine S.sees [1,4,7,8,9,25,26,31,32] [(1,1),(4,4)] [(20016,20016),(16,16),(10016,10016),(30016,30016)] ?_ (Stop.iter S (fun s3=>⟨[(1,.c (.ref 1 0)),(4,.c (.ref 4 0)),(7,.c (.d (.int .i64 2))),(8,.c (.own 20016)),(9,.c (.d (wF bH s3.1))),(25,.agg [.own 16,.own 10016,.own 20016,.own 30016]),(26,.c (.d (.int .i64 2))),(31,.c (.d (.int .i64 (v1.2.2.1.length:Int)))),(32,.c (.d (.int .i64 s3.2)))],[(1,[.d (ah 4 dh x4),.d (ah 5 bT x5),.d (ah 3 dn x6),.d (ah 2 aT x7),.d (.int .i64 x0),.d (.int .i64 x1),.d (.int .i64 x2),.d (.int .i64 x3)]),(4,[.own 16,.own 10016,.own 20016,.own 30016])],[(20016,.shared (ah 3 bH v1.2.2.1)),(16,.shared (ah 3 bH v1.1)),(10016,.shared (ah 3 bH v1.2.1)),(30016,.owned (ah 3 bH v1.2.2.2))]⟩) (Ti x0 x1 x2 x3 v1) (fun q=>q=r) hr rfl ?_)
   ·exact lf
   ·intro s3 hr
    unfold Ti at hr
    refine S.gx [26,27] ?_
    refine gr ?_
    refine cZ hr (fun hc hr=>D1 (S.ss [1,4,7,8,9,25,26,31,32] [(1,1),(4,4)] [(20016,20016),(16,16),(10016,10016),(30016,30016)]) hr) fun hc hr=> ?_
    refine gr ?_
    have hr:=bK hr
    refine gr ?_
    refine S.lp ?_
    refine S.gx [26,27] ?_
    refine gr ?_
    refine S.share 30016 rfl ?_
    refine S.sees [1,4,7,8,9,25,26,31,32] [(1,1),(4,4)] [(30016,30016),(16,16),(10016,10016),(20016,20016)] ?_ (Stop.iter S (fun s4=>⟨[(1,.c (.ref 1 0)),(4,.c (.ref 4 0)),(7,.c (.d (.int .i64 3))),(8,.c (.own 30016)),(9,.c (.d (wF bH s4.1))),(25,.agg [.own 16,.own 10016,.own 20016,.own 30016]),(26,.c (.d (.int .i64 3))),(31,.c (.d (.int .i64 (v1.2.2.2.length:Int)))),(32,.c (.d (.int .i64 s4.2)))],[(1,[.d (ah 4 dh x4),.d (ah 5 bT x5),.d (ah 3 dn x6),.d (ah 2 aT x7),.d (.int .i64 x0),.d (.int .i64 x1),.d (.int .i64 x2),.d (.int .i64 x3)]),(4,[.own 16,.own 10016,.own 20016,.own 30016])],[(30016,.shared (ah 3 bH v1.2.2.2)),(16,.shared (ah 3 bH v1.1)),(10016,.shared (ah 3 bH v1.2.1)),(20016,.shared (ah 3 bH v1.2.2.1))]⟩) (Tf x0 x1 x2 x3 v1) (fun q=>q=r) hr rfl ?_)
    ·exact lf
    ·intro s4 hr
     unfold Tf at hr
     refine S.gx [26,27] ?_
     refine gr ?_
     refine cZ hr (fun hc hr=>D1 (S.ss [1,4,7,8,9,25,26,31,32] [(1,1),(4,4)] [(30016,30016),(16,16),(10016,10016),(20016,20016)]) hr) fun hc hr=> ?_
     refine gr ?_
     have hr:=bK hr
     refine gr ?_
     refine S.lp ?_
     refine S.gx [26,27] ?_
     refine gr ?_
     refine iW hr (fun hc hr=> ?_) fun hc hr=>D0 hr
     refine gr ?_
     refine S.lp ?_
     refine S.gx [26,27] ?_
     obtain ⟨akg,hr⟩:=aN hr
     obtain ⟨abn,hr⟩:=aN hr
     repeat (first | refine gG akg ?_ | refine gG abn ?_ | refine gA ?_ | refine gB ?_)
     refine iW hr (fun hc hr=> ?_) fun hc hr=> ?_
     ·refine gr ?_
      refine S.prune [] ?_
      refine S.gx [27] ?_
      exact D0 hr
     ·refine gr ?_
      refine S.prune [1,4,57,58,59] ?_
      refine S.gx [26] ?_
      refine gr ?_
      refine gr ?_
      refine S.lp ?_
      refine S.gx [26,27] ?_
      obtain ⟨aBH,hr⟩:=aN hr
      obtain ⟨aur,hr⟩:=aN hr
      repeat (first | refine gG aBH ?_ | refine gG aur ?_ | refine gA ?_ | refine gB ?_)
      refine iW hr (fun hc hr=> ?_) fun hc hr=> ?_
      ·refine gr ?_
       refine S.prune [] ?_
       refine S.gx [27] ?_
       exact D0 hr
      ·refine gr ?_
       refine S.prune [1,4,57,58,59] ?_
       refine S.gx [26] ?_
       refine gr ?_
       refine gr ?_
       refine S.lp ?_
       refine S.gx [26,27] ?_
       obtain ⟨aki,hr⟩:=aN hr
       obtain ⟨akh,hr⟩:=aN hr
       repeat (first | refine gG aki ?_ | refine gG akh ?_ | refine gA ?_ | refine gB ?_)
       refine iW hr (fun hc hr=> ?_) fun hc hr=> ?_
       ·refine gr ?_
        refine S.prune [] ?_
        refine S.gx [27] ?_
        exact D0 hr
       ·refine gr ?_
        refine S.prune [1,4,57,58,59] ?_
        refine S.gx [26] ?_
        refine gr ?_
        refine gr ?_
        refine S.lp ?_
        refine S.gx [26,27] ?_
        exact D0 hr
def aaf (a0:Int):Option (Bool):=
 (E8 a0 0 2000).bind fun v1=>
  some v1
@[go_sem] def awr:=KQ oQ false aaf
@[go_sem] def aoA (k:Nat):=lk [(46,T46.sp)] k
theorem f120:aF Tryz.prog 120 awr.sp:=by
 refine vm (tb:=aoA) (.cons f46 .nil) Tryz.func120 Tryz.ntmps120 fun a0 r hr stop S=> ?_
 rw [oC,aaf] at hr
 refine S.gx [] ?_
 exact D0 hr
def acW (x1:Int) (x0:bC) (x2:Int):Bd Int (Int×Int):=fun s1=>
 if (decide (s1<(x0.length:Int)))=true then
  if 0<=s1/\s1<(x0.length:Int) then
   aP (E8 ((x0.getD s1.toNat default).1) 0 (IntKind.i64.wrap (x1 - 1))) fun v5=>
    aP (jV v5 6) fun v6=>
     aP (aaf ((x0.getD s1.toNat default).2.1)) fun v7=>
      if v7=true->(aaf ((x0.getD s1.toNat default).2.2)).isSome=true then
       aP (jV (v7 && ((aaf ((x0.getD s1.toNat default).2.2)).getD default)) 2) fun v8=>
        aP (jV (decide (((x0.getD s1.toNat default).2.1)<=((x0.getD s1.toNat default).2.2))) 9) fun v9=>
         aP (vF [v6,v8,v9]) fun v10=>
          if (v10 != 0)=true then
           .out (some (s1,v10))
           else .next (IntKind.i64.wrap (s1+1))
       else .out none
   else .out none
  else .out ((E8 x2 200 3000).bind fun v13=>
   (jV v13 2).bind fun v14=>
    some (0,v14))
def r82 (x1 x3:Int) (x4:au) (x5:aj) (x6 x7:bn) (x8:au) (x9 x10:Int) (x11:bD) (x12:aY) (dO:bC) (x14:au) (x15 x16 x17 x18:Int) (x0:bC) (x2:Int):Option (Int×Int):=
 (r71 x1 x3 x4 x5 x6 x7 x8 x9 x10).bind fun v1=>
  (ae0 x11 x12 dO x14 x15 x16 x17 x18).bind fun v2=>
   (jV (decide ((x0.length:Int)<=6)) 8).bind fun v3=>
    (vF [v1.2,v2.2,v3]).bind fun v4=>
     if (v4 != 0)=true then
      some (0,v4)
      else aS (acW x1 x0 x2) 1000000000 0
@[go_sem] def T82:=ai1 Gq false r82
@[go_sem] def azM (k:Nat):=lk [(39,T39.sp),(40,T40.sp),(46,T46.sp),(71,T71.sp),(119,ak9.sp),(120,awr.sp)] k
theorem f82:aF Tryz.prog 82 T82.sp:=by
 refine vm (tb:=azM) (.cons f39 (.cons f40 (.cons f46 (.cons f71 (.cons f119 (.cons f120 .nil)))))) Tryz.func82 Tryz.ntmps82 fun ⟨x1,x3,x4,x5,x6,x7,x8,x9,x10,x11,x12,dO,x14,x15,x16,x17,x18,x0,x2⟩ r hr stop S=> ?_
 rw [adz,r82] at hr
 refine S.gx [5,6,11] ?_
 obtain ⟨v1,hv1,hr⟩:=aA hr
 obtain ⟨v2,hv2,hr⟩:=aA hr
 obtain ⟨v3,hv3,hr⟩:=aA hr
 obtain ⟨v4,hv4,hr⟩:=aA hr
 refine gb hv1 ?_
 refine gb hv2 ?_
 refine gb hv3 ?_
 refine gb hv4 ?_
 refine iW hr (fun hc hr=> ?_) fun hc hr=> ?_
 ·refine gr ?_
  refine S.prune [8] ?_
  refine S.gx [6,11] ?_
  exact D0 hr
 ·refine gr ?_
  refine S.prune [1] ?_
  refine S.gx [5,11] ?_
  refine gr ?_
  refine gr ?_
  refine S.sees [1,9,38,39,40] [(1,1)] [] ?_ (Stop.iter S (fun s1=>⟨[(1,.c (.ref 1 0)),(9,.c (.clo 120 [])),(38,.c (.d (ah 3 dn x0))),(39,.c (.d (.int .i64 (x0.length:Int)))),(40,.c (.d (.int .i64 s1)))],[(1,[.d (.int .i64 x1),.d (.int .i64 x3),.d (ah 2 aT x4),.d (ah 1 aQ x5),.d (ah 1 cu x6),.d (ah 1 cu x7),.d (ah 2 aT x8),.d (.int .i64 x9),.d (.int .i64 x10),.d (ah 4 dh x11),.d (ah 5 bT x12),.d (ah 3 dn dO),.d (ah 2 aT x14),.d (.int .i64 x15),.d (.int .i64 x16),.d (.int .i64 x17),.d (.int .i64 x18),.d (ah 3 dn x0),.d (.int .i64 x2)])],[]⟩) (acW x1 x0 x2) (fun q=>q=r) hr rfl ?_)
  ·exact lf
  ·intro s1 hr
   unfold acW at hr
   refine S.gx [5,6,11] ?_
   refine gr ?_
   refine cZ hr (fun hc hr=> ?_) fun hc hr=>D0 hr
   obtain ⟨y7,hr⟩:=aB hr
   obtain ⟨v5,hv5,hr⟩:=aI hr
   obtain ⟨v6,hv6,hr⟩:=aI hr
   obtain ⟨v7,hv7,hr⟩:=aI hr
   obtain ⟨y5,hr⟩:=aB hr
   obtain ⟨v8,JC,hr⟩:=aI hr
   obtain ⟨v9,hv9,hr⟩:=aI hr
   obtain ⟨v10,yZ,hr⟩:=aI hr
   try simp only [hv5,hv6,hv7,JC,hv9,yZ,Option.getD_some,Option.isSome_some,true_and,and_assoc]
   repeat (first | refine gG y5 ?_ | refine gA ?_ | refine gB ?_)
   refine S.prune [1,9,10,12,38,39,40] ?_
   refine S.gx [5,6] ?_
   exact D1 (S.ss [1,9,38,39,40] [(1,1)] []) hr
def r59 (x0 x1:Int) (x2:au) (x3:aj) (x4 x5:bn) (x6:au) (x7 x8:Int) (x9:bD) (x10:aY) (x11:bC) (x12:au) (dO x14 x15 x16:Int) (x17:bC) (x18:Int):Option (Int×Int×au×aj×bn×bn×au×Int×Int×Int×Int×au×aj×bn×bn×au×Int×Int×bD×aY×bC×au×Int×Int×Int×Int×bC×Int×Int):=
 (r82 x0 x1 x2 x3 x4 x5 x6 x7 x8 x9 x10 x11 x12 dO x14 x15 x16 x17 x18).bind fun v1=>
  some (x0,x1,x2,x3,x4,x5,x6,x7,x8,x0,x1,x2,x3,x4,x5,x6,x7,x8,x9,x10,x11,x12,dO,x14,x15,x16,x17,x18,v1.2)
@[go_sem] def T59:=ai1 aqz true r59
@[go_sem] def azX (k:Nat):=lk [(82,T82.sp)] k
theorem f59:aF Tryz.prog 59 T59.sp:=by
 refine vm (tb:=azX) (.cons f82 .nil) Tryz.func59 Tryz.ntmps59 fun ⟨x0,x1,x2,x3,x4,x5,x6,x7,x8,x9,x10,x11,x12,dO,x14,x15,x16,x17,x18⟩ r hr stop S=> ?_
 rw [adz,r59] at hr
 refine S.gx [] ?_
 exact D0 hr
def ac2 (x0 x1:Int) (x2:au) (x3:aj) (x4 x5:bn) (x6:au) (x7 x8:Int) (a1:au):Bd (Int×Int) Int:=fun s1=>
 if (decide (s1.2<(a1.length:Int)))=true then
  if 0<=s1.2/\s1.2<(a1.length:Int) then
   aP (E8 ((a1.getD s1.2.toNat default).1) 0 10000) fun v2=>
    aP (jV v2 2) fun v3=>
     aP (r47 x0 x1 x2 x3 x4 x5 x6 x7 x8) fun v4=>
      aP (E8 ((a1.getD s1.2.toNat default).2) 0 v4) fun v5=>
       aP (jV v5 6) fun v6=>
        aP (vF [s1.1,v3,v6]) fun v7=>
         .next (v7,IntKind.i64.wrap (s1.2+1))
   else .out none
  else .out (some s1.1)
def r60 (x0 x1:Int) (x2:au) (x3:aj) (x4 x5:bn) (x6:au) (x7 x8:Int) (a1:au):Option (Int):=
 (jV (decide ((a1.length:Int)<=200)) 8).bind fun v1=>
  aS (ac2 x0 x1 x2 x3 x4 x5 x6 x7 x8 a1) 1000000000 (v1,0)
@[go_sem] def T60:=ae7 lC false r60
@[go_sem] def azW (k:Nat):=lk [(39,T39.sp),(40,T40.sp),(46,T46.sp),(47,T47.sp)] k
theorem f60:aF Tryz.prog 60 T60.sp:=by
 refine vm (tb:=azW) (.cons f39 (.cons f40 (.cons f46 (.cons f47 .nil)))) Tryz.func60 Tryz.ntmps60 fun ⟨x0,x1,x2,x3,x4,x5,x6,x7,x8,a1⟩ r hr stop S=> ?_
 rw [KY,r60] at hr
 refine S.gx [] ?_
 obtain ⟨v1,hv1,hr⟩:=aA hr
 refine gb hv1 ?_
 refine S.sees [2,5,12,13,14] [(2,2)] [] ?_ (Stop.iter S (fun s1=>⟨[(2,.c (.ref 2 0)),(5,.c (.d (.int .i64 s1.1))),(12,.c (.d (ah 2 aT a1))),(13,.c (.d (.int .i64 (a1.length:Int)))),(14,.c (.d (.int .i64 s1.2)))],[(2,[.d (.int .i64 x0),.d (.int .i64 x1),.d (ah 2 aT x2),.d (ah 1 aQ x3),.d (ah 1 cu x4),.d (ah 1 cu x5),.d (ah 2 aT x6),.d (.int .i64 x7),.d (.int .i64 x8)])],[]⟩) (ac2 x0 x1 x2 x3 x4 x5 x6 x7 x8 a1) (fun q=>q=r) hr rfl ?_)
 ·exact lf
 ·intro s1 hr
  unfold ac2 at hr
  refine S.gx [] ?_
  exact D1 (S.ss [2,5,12,13,14] [(2,2)] []) hr
def Tc (x0:Int) (a1:au) (s1:(List (au×Int×Int))×Int) (v1 v2:bn×Int) (v3:Int):Bd (Int×(List (Int×Int))) (cO ((List (au×Int×Int))×Int) (dH)):=fun s2=>
 if (decide (s2.1<(v1.1.length:Int)))=true then
  if 0<=s2.1/\s2.1<(v1.1.length:Int) then
   if 0<=s2.1/\s2.1<(v2.1.length:Int) then
    if (s2.2.length+1)*16<=140737488355328/\s2.2.length+1<=9223372036854775807 then
     .next (IntKind.i64.wrap (s2.1+1),s2.2++[((v1.1.getD s2.1.toNat default),(v2.1.getD s2.1.toNat default))])
     else .out none
    else .out none
   else .out none
  else .out (some (if (s1.1.length+1)*40<=140737488355328/\s1.1.length+1<=9223372036854775807 then
   .next (s1.1++[(s2.2,(if 0<IntKind.i64.wrap (((a1.getD s1.2.toNat default).2) - x0) then IntKind.i64.wrap (((a1.getD s1.2.toNat default).2) - x0) else 0),(if IntKind.i64.wrap (((a1.getD s1.2.toNat default).2)+x0)<v3 then IntKind.i64.wrap (((a1.getD s1.2.toNat default).2)+x0) else v3))],IntKind.i64.wrap (s1.2+1))
   else .out none))
def Td (x1 x2:Int) (x3:au) (x4:aj) (x5 x6:bn) (x7:au) (x8 x0:Int) (a1:au):Bd ((List (au×Int×Int))×Int) dH:=fun s1=>
 if (decide (s1.2<(a1.length:Int)))=true then
  if 0<=s1.2/\s1.2<(a1.length:Int) then
   aP (PW x1 x2 x3 x4 x5 x6 x7 x8 x0 ((a1.getD s1.2.toNat default).1) ((a1.getD s1.2.toNat default).2) 171) fun v1=>
    aP (PW x1 x2 x3 x4 x5 x6 x7 x8 x0 ((a1.getD s1.2.toNat default).1) ((a1.getD s1.2.toNat default).2) 87) fun v2=>
     aP (r47 x1 x2 x3 x4 x5 x6 x7 x8 x0) fun v3=>
      (aS (Tc x0 a1 s1 v1 v2 v3) 1000000000 (0,[])).getD (.out none)
   else .out none
  else .out (some s1.1)
def aiT (x1 x2:Int) (x3:au) (x4:aj) (x5 x6:bn) (x7:au) (x8 x0:Int) (a1:au):Option (dH):=
 aS (Td x1 x2 x3 x4 x5 x6 x7 x8 x0 a1) 1000000000 ([],0)
@[go_sem] def awp:=ae7 aqy true aiT
@[go_sem] def aoy (k:Nat):=lk [(47,T47.sp),(86,T86.sp)] k
theorem f122:aF Tryz.prog 122 awp.sp:=by
 refine vm (tb:=aoy) (.cons f47 (.cons f86 .nil)) Tryz.func122 Tryz.ntmps122 fun ⟨x1,x2,x3,x4,x5,x6,x7,x8,x0,a1⟩ r hr stop S=> ?_
 rw [KY,aiT] at hr
 refine S.gx [] ?_
 refine gr ?_
 refine S.Dp 5 1000500 3 rfl rfl ?_
 refine S.sees [2,5,12,13,14] [(2,2)] [(1000500,1000500)] ?_ (Stop.iter S (fun s1=>⟨[(2,.c (.ref 2 0)),(5,.c (.own 1000500)),(12,.c (.d (ah 2 aT a1))),(13,.c (.d (.int .i64 (a1.length:Int)))),(14,.c (.d (.int .i64 s1.2)))],[(2,[.d (.int .i64 x1),.d (.int .i64 x2),.d (ah 2 aT x3),.d (ah 1 aQ x4),.d (ah 1 cu x5),.d (ah 1 cu x6),.d (ah 2 aT x7),.d (.int .i64 x8),.d (.int .i64 x0)])],[(1000500,.owned (ah 3 fO s1.1))]⟩) (Td x1 x2 x3 x4 x5 x6 x7 x8 x0 a1) (fun q=>q=r) hr rfl ?_)
 ·exact lf
 ·intro s1 hr
  unfold Td at hr
  refine S.gx [] ?_
  refine gr ?_
  refine cZ hr (fun hc hr=> ?_) fun hc hr=>D0 hr
  obtain ⟨Wv,hr⟩:=aB hr
  obtain ⟨v1,hv1,hr⟩:=aI hr
  obtain ⟨v2,hv2,hr⟩:=aI hr
  obtain ⟨v3,hv3,hr⟩:=aI hr
  refine gb hv1 ?_
  refine gb hv2 ?_
  refine gb hv3 ?_
  refine S.rV 10 0 2001000 2 rfl rfl (nL rfl) rfl ?_
  obtain ⟨q2,hq,hr⟩:=gV hr
  refine S.sees [2,5,8,9,10,12,13,14,44,45] [(2,2),(8,8),(9,9),(10,10)] [(2001000,2001000),(1000500,1000500),(20,20),(23,23)] ?_ (Stop.iter S (fun s2=>⟨[(2,.c (.ref 2 0)),(5,.c (.own 1000500)),(8,.c (.ref 8 0)),(9,.c (.ref 9 0)),(10,.c (.ref 10 0)),(12,.c (.d (ah 2 aT a1))),(13,.c (.d (.int .i64 (a1.length:Int)))),(14,.c (.d (.int .i64 s1.2))),(44,.c (.d (.int .i64 (v1.1.length:Int)))),(45,.c (.d (.int .i64 s2.1)))],[(2,[.d (.int .i64 x1),.d (.int .i64 x2),.d (ah 2 aT x3),.d (ah 1 aQ x4),.d (ah 1 cu x5),.d (ah 1 cu x6),.d (ah 2 aT x7),.d (.int .i64 x8),.d (.int .i64 x0)]),(8,[.own 20,.d (.int .i64 v1.2)]),(9,[.own 23,.d (.int .i64 v2.2)]),(10,[.own 2001000,.d (.int .i64 (if 0<IntKind.i64.wrap (((a1.getD s1.2.toNat default).2) - x0) then IntKind.i64.wrap (((a1.getD s1.2.toNat default).2) - x0) else 0)),.d (.int .i64 (if IntKind.i64.wrap (((a1.getD s1.2.toNat default).2)+x0)<v3 then IntKind.i64.wrap (((a1.getD s1.2.toNat default).2)+x0) else v3))])],[(2001000,.owned (ah 2 aT s2.2)),(1000500,.owned (ah 3 fO s1.1)),(20,.owned (ah 1 cu v1.1)),(23,.owned (ah 1 cu v2.1))]⟩) (Tc x0 a1 s1 v1 v2 v3) _ hq hr ?_)
  ·exact lf
  ·intro s2 hr
   unfold Tc at hr
   refine S.gx [] ?_
   refine gr ?_
   refine cZ hr (fun hc hr=>D1 (S.ss [2,5,8,9,10,12,13,14,44,45] [(2,2),(8,8),(9,9),(10,10)] [(62,2001000),(1000500,1000500),(20,20),(23,23)]) hr) fun hc hr=> ?_
   refine gr ?_
   replace hr:=aU hr
   exact D1 (S.ss [2,5,12,13,14] [(2,2)] [(68,1000500)]) hr
def aiI (x0 x1:Int) (x2:au) (x3:aj) (x4 x5:bn):Option (Int×Int×au×aj×au×aj×Int):=
 (L6 x0 x1 x2 x3).bind fun v1=>
  if (v1.2.2.2.2.2.2 == 0)=true then
   (XI v1.1 v1.2.1 v1.2.2.1 v1.2.2.2.1 v1.2.2.2.2.1 v1.2.2.2.2.2.1 x4 x5).bind fun v2=>
    some (v1.1,v1.2.1,v1.2.2.1,v1.2.2.2.1,v1.2.2.2.2.1,v1.2.2.2.2.2.1,v2.2)
   else some (v1.1,v1.2.1,v1.2.2.1,v1.2.2.2.1,v1.2.2.2.2.1,v1.2.2.2.2.2.1,v1.2.2.2.2.2.2)
@[go_sem] def avV:=aaq qu8 true aiI
@[go_sem] def an8 (k:Nat):=lk [(108,adi.sp),(147,ak7.sp)] k
theorem f168:aF Tryz.prog 168 avV.sp:=by
 refine vm (tb:=an8) (.cons f108 (.cons f147 .nil)) Tryz.func168 Tryz.ntmps168 fun ⟨x0,x1,x2,x3,x4,x5⟩ r hr stop S=> ?_
 rw [OW,aiI] at hr
 refine S.gx [] ?_
 exact D0 hr
def Sz (x1 x2:Int) (x3:au) (x4:aj) (x5:au) (x6:aj) (x0:au) (x7 x8:Int):Bd (Int×Int) Int:=fun s1=>
 if (decide (s1.2<(x0.length:Int)))=true then
  if 0<=s1.2/\s1.2<(x0.length:Int) then
   aP (P6 ((x0.getD s1.2.toNat default).1)) fun v2=>
    if v2=true->(P6 ((x0.getD s1.2.toNat default).2)).isSome=true then
     aP (nN (v2 && ((P6 ((x0.getD s1.2.toNat default).2)).getD default)) 2) fun v3=>
      aP (nN (decide (((x0.getD s1.2.toNat default).1)<=((x0.getD s1.2.toNat default).2))) 9) fun v4=>
       aP (AP [s1.1,v3,v4]) fun v5=>
        .next (v5,IntKind.i64.wrap (s1.2+1))
     else .out none
   else .out none
  else .out ((P5 x1 x2 x3 x4 x5 x6 x7).bind fun v8=>
   (P5 x1 x2 x3 x4 x5 x6 x8).bind fun v9=>
    (nN (decide (x7<=x8)) 9).bind fun v10=>
     (AP [s1.1,v8,v9,v10]).bind fun v11=>
      some v11)
def aiA (x1 x2:Int) (x3:au) (x4:aj) (x5:au) (x6:aj) (x0:au) (x7 x8:Int):Option (Int):=
 (nN ((x0.length:Int) == x1) 10).bind fun v1=>
  aS (Sz x1 x2 x3 x4 x5 x6 x0 x7 x8) 1000000000 (v1,0)
@[go_sem] def avC:=asH lC false aiA
@[go_sem] def anT (k:Nat):=lk [(110,KE.sp),(111,Tv.sp),(158,ak4.sp),(159,ak3.sp)] k
theorem f200:aF Tryz.prog 200 avC.sp:=by
 refine vm (tb:=anT) (.cons f110 (.cons f111 (.cons f158 (.cons f159 .nil)))) Tryz.func200 Tryz.ntmps200 fun ⟨x1,x2,x3,x4,x5,x6,x0,x7,x8⟩ r hr stop S=> ?_
 rw [OV,aiA] at hr
 refine S.gx [] ?_
 obtain ⟨v1,hv1,hr⟩:=aA hr
 refine gb hv1 ?_
 refine S.sees [2,3,5,17,18,19] [(2,2),(3,3)] [] ?_ (Stop.iter S (fun s1=>⟨[(2,.c (.ref 2 0)),(3,.c (.ref 3 0)),(5,.c (.d (.int .i64 s1.1))),(17,.c (.d (ah 2 aT x0))),(18,.c (.d (.int .i64 (x0.length:Int)))),(19,.c (.d (.int .i64 s1.2)))],[(2,[.d (.int .i64 x1),.d (.int .i64 x2),.d (ah 2 aT x3),.d (ah 1 aQ x4),.d (ah 2 aT x5),.d (ah 1 aQ x6)]),(3,[.d (ah 2 aT x0),.d (.int .i64 x7),.d (.int .i64 x8)])],[]⟩) (Sz x1 x2 x3 x4 x5 x6 x0 x7 x8) (fun q=>q=r) hr rfl ?_)
 ·exact lf
 ·intro s1 hr
  unfold Sz at hr
  refine S.gx [] ?_
  refine gr ?_
  refine cZ hr (fun hc hr=> ?_) fun hc hr=>D0 hr
  obtain ⟨Zg,hr⟩:=aB hr
  obtain ⟨v2,hv2,hr⟩:=aI hr
  obtain ⟨Wx,hr⟩:=aB hr
  obtain ⟨v3,hv3,hr⟩:=aI hr
  obtain ⟨v4,hv4,hr⟩:=aI hr
  obtain ⟨v5,hv5,hr⟩:=aI hr
  try simp only [hv2,hv3,hv4,hv5,Option.getD_some,Option.isSome_some,true_and,and_assoc]
  repeat (first | refine gG Wx ?_ | refine gA ?_ | refine gB ?_)
  exact D1 (S.ss [2,3,5,17,18,19] [(2,2),(3,3)] []) hr
def SG (x0 x1:Int) (x2:au) (x3:aj) (x4:au) (x5:aj) (a1:dH):Bd (Int×Int) Int:=fun s1=>
 if (decide (s1.2<(a1.length:Int)))=true then
  if 0<=s1.2/\s1.2<(a1.length:Int) then
   aP (aiA x0 x1 x2 x3 x4 x5 ((a1.getD s1.2.toNat default).1) ((a1.getD s1.2.toNat default).2.1) ((a1.getD s1.2.toNat default).2.2)) fun v2=>
    aP (AP [s1.1,v2]) fun v3=>
     .next (v3,IntKind.i64.wrap (s1.2+1))
   else .out none
  else .out (some s1.1)
def aiH (x0 x1:Int) (x2:au) (x3:aj) (x4:au) (x5:aj) (a1:dH):Option (Int):=
 (nN (decide ((a1.length:Int)<=200)) 8).bind fun v1=>
  aS (SG x0 x1 x2 x3 x4 x5 a1) 1000000000 (v1,0)
@[go_sem] def avU:=asG lC false aiH
@[go_sem] def an7 (k:Nat):=lk [(110,KE.sp),(111,Tv.sp),(200,avC.sp)] k
theorem f169:aF Tryz.prog 169 avU.sp:=by
 refine vm (tb:=an7) (.cons f110 (.cons f111 (.cons f200 .nil))) Tryz.func169 Tryz.ntmps169 fun ⟨x0,x1,x2,x3,x4,x5,a1⟩ r hr stop S=> ?_
 rw [KO,aiH] at hr
 refine S.gx [] ?_
 obtain ⟨v1,hv1,hr⟩:=aA hr
 refine gb hv1 ?_
 refine S.sees [2,5,12,13,14] [(2,2)] [] ?_ (Stop.iter S (fun s1=>⟨[(2,.c (.ref 2 0)),(5,.c (.d (.int .i64 s1.1))),(12,.c (.d (ah 3 fO a1))),(13,.c (.d (.int .i64 (a1.length:Int)))),(14,.c (.d (.int .i64 s1.2)))],[(2,[.d (.int .i64 x0),.d (.int .i64 x1),.d (ah 2 aT x2),.d (ah 1 aQ x3),.d (ah 2 aT x4),.d (ah 1 aQ x5)])],[]⟩) (SG x0 x1 x2 x3 x4 x5 a1) (fun q=>q=r) hr rfl ?_)
 ·exact lf
 ·intro s1 hr
  unfold SG at hr
  refine S.gx [] ?_
  exact D1 (S.ss [2,5,12,13,14] [(2,2)] []) hr
def Sr (x0:au) (x1 x2:Int):Bd (Int×(List (Int))×(List (Int))) (bn×Int×bn×Int):=fun s1=>
 if (decide (s1.1<(x0.length:Int)))=true then
  if 0<=s1.1/\s1.1<(x0.length:Int) then
   if (s1.2.1.length+1)*8<=140737488355328/\s1.2.1.length+1<=9223372036854775807 then
    if (s1.2.2.length+1)*8<=140737488355328/\s1.2.2.length+1<=9223372036854775807 then
     .next (IntKind.i64.wrap (s1.1+1),s1.2.1++[(x0.getD s1.1.toNat default).1],s1.2.2++[(x0.getD s1.1.toNat default).2])
     else .out none
    else .out none
   else .out none
  else .out (some (s1.2.1,x2,s1.2.2,x1))
def aiw (x0:au) (x1 x2:Int):Option (bn×Int×bn×Int):=
 aS (Sr x0 x1 x2) 1000000000 (0,[],[])
@[go_sem] def avt:=asF aqx false aiw
theorem f216:aF Tryz.prog 216 avt.sp:=by
 refine vm .nil Tryz.func216 Tryz.ntmps216 fun ⟨x0,x1,x2⟩ r hr stop S=> ?_
 rw [Zd,aiw] at hr
 refine S.gx [] ?_
 refine gr ?_
 refine S.rV 2 0 2000200 1 rfl rfl (nL rfl) rfl ?_
 refine S.rV 3 0 2000300 1 rfl rfl (nL rfl) rfl ?_
 refine S.sees [2,3,15,16,17] [(2,2),(3,3)] [(2000200,2000200),(2000300,2000300)] ?_ (Stop.iter S (fun s1=>⟨[(2,.c (.ref 2 0)),(3,.c (.ref 3 0)),(15,.c (.d (ah 2 aT x0))),(16,.c (.d (.int .i64 (x0.length:Int)))),(17,.c (.d (.int .i64 s1.1)))],[(2,[.own 2000200,.d (.int .i64 x2)]),(3,[.own 2000300,.d (.int .i64 x1)])],[(2000200,.owned (ah 1 cu s1.2.1)),(2000300,.owned (ah 1 cu s1.2.2))]⟩) (Sr x0 x1 x2) (fun q=>q=r) hr rfl ?_)
 ·exact lf
 ·intro s1 hr
  unfold Sr at hr
  refine S.gx [] ?_
  exact D1 (S.ss [2,3,15,16,17] [(2,2),(3,3)] [(26,2000200),(32,2000300)]) hr
def aiz (x0 x1:Int) (x2:au) (x3:aj) (x4:au) (x5:aj) (x6 x7:bn) (x8:au) (x9 x10:Int):Option (bn×bn×Int):=
 (aiw x8 x9 x10).bind fun v1=>
  (r81 x0 x1 x2 x3 x4 x5 x6 v1.1 v1.2.1).bind fun v2=>
   (r81 x0 x1 x2 x3 x4 x5 x7 v1.2.2.1 v1.2.2.2).bind fun v3=>
    (AP [v2.2.2,v3.2.2]).bind fun v4=>
     if (v4 != 0)=true then
      some ([],[],v4)
      else some (v2.1,v3.1,0)
@[go_sem] def avA:=asE aqw false aiz
@[go_sem] def anS (k:Nat):=lk [(81,T81.sp),(111,Tv.sp),(216,avt.sp)] k
theorem f201:aF Tryz.prog 201 avA.sp:=by
 refine vm (tb:=anS) (.cons f81 (.cons f111 (.cons f216 .nil))) Tryz.func201 Tryz.ntmps201 fun ⟨x0,x1,x2,x3,x4,x5,x6,x7,x8,x9,x10⟩ r hr stop S=> ?_
 rw [Zo,aiz] at hr
 refine S.gx [4] ?_
 obtain ⟨v1,hv1,hr⟩:=aA hr
 obtain ⟨v2,hv2,hr⟩:=aA hr
 obtain ⟨v3,hv3,hr⟩:=aA hr
 refine gb hv1 ?_
 refine gb hv2 ?_
 refine gb hv3 ?_
 refine S.prune [6,10,12,13,15] ?_
 refine S.gx [] ?_
 exact D0 hr
def SE (x0 x1:Int) (x2:au) (x3:aj) (x4:au) (x5:aj) (a2:dH):Bd ((List (bn×bn))×Int×bn×bn) (iU×Int):=fun s1=>
 if (decide (s1.2.1<(a2.length:Int)))=true then
  if 0<=s1.2.1/\s1.2.1<(a2.length:Int) then
   aP (aiz x0 x1 x2 x3 x4 x5 s1.2.2.1 s1.2.2.2 ((a2.getD s1.2.1.toNat default).1) ((a2.getD s1.2.1.toNat default).2.1) ((a2.getD s1.2.1.toNat default).2.2)) fun v1=>
    if (v1.2.2 != 0)=true then
     .out (some ([],v1.2.2))
     else if (s1.1.length+1)*48<=140737488355328/\s1.1.length+1<=9223372036854775807 then
      .next (s1.1++[(v1.1,v1.2.1)],IntKind.i64.wrap (s1.2.1+1),v1.1,v1.2.1)
      else .out none
   else .out none
  else .out (some (s1.1,0))
def aeV (x0 x1:Int) (x2:au) (x3:aj) (x4:au) (x5:aj) (x6 x7:bn) (a2:dH):Option (iU×Int):=
 aS (SE x0 x1 x2 x3 x4 x5 a2) 1000000000 ([],0,x6,x7)
@[go_sem] def avT:=asD aiW true aeV
@[go_sem] def an6 (k:Nat):=lk [(201,avA.sp)] k
theorem f170:aF Tryz.prog 170 avT.sp:=by
 refine vm (tb:=an6) (.cons f201 .nil) Tryz.func170 Tryz.ntmps170 fun ⟨x0,x1,x2,x3,x4,x5,x6,x7,a2⟩ r hr stop S=> ?_
 rw [OV,aeV] at hr
 refine S.gx [] ?_
 refine gr ?_
 refine S.Dp 8 1000800 2 rfl rfl ?_
 refine S.sees [3,4,8,13,14,15] [(3,3),(4,4)] [(1000800,1000800)] ?_ (Stop.iter S (fun s1=>⟨[(3,.c (.ref 3 0)),(4,.c (.ref 4 0)),(8,.c (.own 1000800)),(13,.c (.d (ah 3 fO a2))),(14,.c (.d (.int .i64 (a2.length:Int)))),(15,.c (.d (.int .i64 s1.2.1)))],[(3,[.d (.int .i64 x0),.d (.int .i64 x1),.d (ah 2 aT x2),.d (ah 1 aQ x3),.d (ah 2 aT x4),.d (ah 1 aQ x5)]),(4,[.d (ah 1 cu s1.2.2.1),.d (ah 1 cu s1.2.2.2)])],[(1000800,.owned (ah 2 iT s1.1))]⟩) (SE x0 x1 x2 x3 x4 x5 a2) (fun q=>q=r) hr rfl ?_)
 ·exact lf
 ·intro s1 hr
  unfold SE at hr
  refine S.gx [] ?_
  exact D1 (S.ss [3,4,8,13,14,15] [(3,3),(4,4)] [(33,1000800)]) hr
def aiU (x2 x3:Int) (x4:au) (x5:aj) (x0 x1:bn) (a2:dH):Option (iU×Int):=
 (aiI x2 x3 x4 x5 x0 x1).bind fun v1=>
  if (v1.2.2.2.2.2.2 == 0)=true then
   (aiH v1.1 v1.2.1 v1.2.2.1 v1.2.2.2.1 v1.2.2.2.2.1 v1.2.2.2.2.2.1 a2).bind fun v2=>
    if (v2 != 0)=true then
     some ([],v2)
     else (aeV v1.1 v1.2.1 v1.2.2.1 v1.2.2.2.1 v1.2.2.2.2.1 v1.2.2.2.2.2.1 x0 x1 a2).bind fun v3=>
      some (v3.1,v3.2)
   else if (v1.2.2.2.2.2.2 != 0)=true then
    some ([],v1.2.2.2.2.2.2)
    else (aeV v1.1 v1.2.1 v1.2.2.1 v1.2.2.2.1 v1.2.2.2.2.1 v1.2.2.2.2.2.1 x0 x1 a2).bind fun v4=>
     some (v4.1,v4.2)
@[go_sem] def awq:=asC aiW true aiU
@[go_sem] def aoz (k:Nat):=lk [(168,avV.sp),(169,avU.sp),(170,avT.sp)] k
theorem f121:aF Tryz.prog 121 awq.sp:=by
 refine vm (tb:=aoz) (.cons f168 (.cons f169 (.cons f170 .nil))) Tryz.func121 Tryz.ntmps121 fun ⟨x2,x3,x4,x5,x0,x1,a2⟩ r hr stop S=> ?_
 rw [KO,aiU] at hr
 refine S.gx [] ?_
 exact D0 hr
def aiS (x0 x1:Int) (x2:au) (x3:aj) (x4 x5:bn) (x6:au) (x7 x8 a1 a2:Int):Option (Int×Int):=
 (P8 x0 x1 x2 x3 a1).bind fun v1=>
  (P8 x0 x1 x2 x3 a2).bind fun v2=>
   if v1.2.1≠0 then
    if v2.2.1≠0 then
     some (IntKind.i64.wrap (v1.1.tdiv v1.2.1),IntKind.i64.wrap ((IntKind.i64.wrap ((IntKind.i64.wrap (v2.1+v2.2.1)) - 1)).tdiv v2.2.1))
     else none
    else none
@[go_sem] def awo:=afa qu7 false aiS
@[go_sem] def aox (k:Nat):=lk [(133,ak8.sp)] k
theorem f123:aF Tryz.prog 123 awo.sp:=by
 refine vm (tb:=aox) (.cons f133 .nil) Tryz.func123 Tryz.ntmps123 fun ⟨x0,x1,x2,x3,x4,x5,x6,x7,x8,a1,a2⟩ r hr stop S=> ?_
 rw [Zo,aiS] at hr
 refine S.gx [] ?_
 exact D0 hr
end Go.Proofs.YtkbdjphdhcgmaaaGreatDoor

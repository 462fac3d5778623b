/- Contracts of functions, written by wip/dec. -/
import Derived.Test.YtkbdjphdhcgmaaaGreatDoorF00
import Derived.Test.YtkbdjphdhcgmaaaGreatDoorF01
import Derived.Test.YtkbdjphdhcgmaaaGreatDoorF05
import Derived.Test.YtkbdjphdhcgmaaaGreatDoorF09
import Derived.Test.YtkbdjphdhcgmaaaGreatDoorF12
set_option linter.unusedVariables false
set_option linter.unusedSimpArgs false
set_option linter.constructorNameAsVariable false
set_option maxHeartbeats 4000000
set_option maxRecDepth 20000
namespace Go.Proofs.YtkbdjphdhcgmaaaGreatDoor
open Go.dR
def aaF (x0:au) (v6:au×Int) (s2:(List (bn×Int))×Int):Bd (Int×(List (Int))) (cO ((List (bn×Int))×Int) (Bool)):=fun s3=>
 if (decide (s3.1<(x0.length:Int)))=true then
  if 0<=s2.2/\s2.2<(v6.1.length:Int) then
   if 0<=s3.1/\s3.1<(x0.length:Int) then
    if 0<=s3.1/\s3.1<(x0.length:Int) then
     aP (r22 (IntKind.i64.wrap (((x0.getD s3.1.toNat default).1)+((x0.getD s3.1.toNat default).2))) 2) fun v16=>
      aP (r22 (IntKind.i64.wrap (((v6.1.getD s2.2.toNat default).1)*v16)) 1000) fun v17=>
       if (s3.2.length+1)*8<=140737488355328/\s3.2.length+1<=9223372036854775807 then
        .next (IntKind.i64.wrap (s3.1+1),s3.2++[v17])
        else .out none
     else .out none
    else .out none
   else .out none
  else .out (some (if (s2.1.length+1)*32<=140737488355328/\s2.1.length+1<=9223372036854775807 then
   .next (s2.1++[(s3.2,(v6.1.getD s2.2.toNat default).2)],IntKind.i64.wrap (s2.2+1))
   else .out none))
def Tn (x1 x2:Int) (x3:au) (x4:aj) (x5:bn) (x0:au) (v4:aK×Int) (v6:au×Int):Bd ((List (bn×Int))×Int) Bool:=fun s2=>
 if (decide (s2.2<(v6.1.length:Int)))=true then
  if 0<=s2.2/\s2.2<(v6.1.length:Int) then
   (aS (aaF x0 v6 s2) 1000000000 (0,[])).getD (.out none)
   else .out none
  else .out ((r24 x1 x2 x3 x4).bind fun v24=>
   (r25 x5).bind fun v25=>
    (r23 v24.1 v24.2.1 v24.2.2.1 v24.2.2.2 v25 s2.1).bind fun v26=>
     if ((v26.2 == 0) && (!((v6.1.length:Int) == 0)))=true->0<=IntKind.i64.wrap ((v6.1.length:Int) - 1)/\IntKind.i64.wrap ((v6.1.length:Int) - 1)<(v6.1.length:Int) then
      if ((v26.2 == 0) && (!(((v6.1.length:Int) == 0) || (((v6.1.getD (IntKind.i64.wrap ((v6.1.length:Int) - 1)).toNat default).1) == 0))))=true->0<=IntKind.i64.wrap ((v4.1.length:Int) - 1)/\IntKind.i64.wrap ((v4.1.length:Int) - 1)<(v4.1.length:Int) then
       some ((v26.2 == 0) && ((((v6.1.length:Int) == 0) || (((v6.1.getD (IntKind.i64.wrap ((v6.1.length:Int) - 1)).toNat default).1) == 0)) || (((v4.1.getD (IntKind.i64.wrap ((v4.1.length:Int) - 1)).toNat default).1) == 4)))
       else none
      else none)
def ahy (x0:au) (v6:au×Int) (s4:(List (bn×Int))×Int):Bd (Int×(List (Int))) (cO ((List (bn×Int))×Int) (Bool)):=fun s5=>
 if (decide (s5.1<(x0.length:Int)))=true then
  if 0<=s4.2/\s4.2<(v6.1.length:Int) then
   if 0<=s5.1/\s5.1<(x0.length:Int) then
    if 0<=s5.1/\s5.1<(x0.length:Int) then
     aP (r22 (IntKind.i64.wrap (((x0.getD s5.1.toNat default).1)+((x0.getD s5.1.toNat default).2))) 2) fun v31=>
      aP (r22 (IntKind.i64.wrap (((v6.1.getD s4.2.toNat default).1)*v31)) 1000) fun v32=>
       if (s5.2.length+1)*8<=140737488355328/\s5.2.length+1<=9223372036854775807 then
        .next (IntKind.i64.wrap (s5.1+1),s5.2++[v32])
        else .out none
     else .out none
    else .out none
   else .out none
  else .out (some (if (s4.1.length+1)*32<=140737488355328/\s4.1.length+1<=9223372036854775807 then
   .next (s4.1++[(s5.2,(v6.1.getD s4.2.toNat default).2)],IntKind.i64.wrap (s4.2+1))
   else .out none))
def afi (x1 x2:Int) (x3:au) (x4:aj) (x5:bn) (x0:au) (v4:aK×Int) (v6:au×Int):Bd ((List (bn×Int))×Int) Bool:=fun s4=>
 if (decide (s4.2<(v6.1.length:Int)))=true then
  if 0<=s4.2/\s4.2<(v6.1.length:Int) then
   (aS (ahy x0 v6 s4) 1000000000 (0,[])).getD (.out none)
   else .out none
  else .out ((r24 x1 x2 x3 x4).bind fun v39=>
   (r25 x5).bind fun v40=>
    (r23 v39.1 v39.2.1 v39.2.2.1 v39.2.2.2 v40 s4.1).bind fun v41=>
     if ((v41.2 == 0) && (!((v6.1.length:Int) == 0)))=true->0<=IntKind.i64.wrap ((v6.1.length:Int) - 1)/\IntKind.i64.wrap ((v6.1.length:Int) - 1)<(v6.1.length:Int) then
      if ((v41.2 == 0) && (!(((v6.1.length:Int) == 0) || (((v6.1.getD (IntKind.i64.wrap ((v6.1.length:Int) - 1)).toNat default).1) == 0))))=true->0<=IntKind.i64.wrap ((v4.1.length:Int) - 1)/\IntKind.i64.wrap ((v4.1.length:Int) - 1)<(v4.1.length:Int) then
       some ((v41.2 == 0) && ((((v6.1.length:Int) == 0) || (((v6.1.getD (IntKind.i64.wrap ((v6.1.length:Int) - 1)).toNat default).1) == 0)) || (((v4.1.getD (IntKind.i64.wrap ((v4.1.length:Int) - 1)).toNat default).1) == 4)))
       else none
      else none)
def ahx (x0:au) (v6:au×Int) (s6:(List (bn×Int))×Int):Bd (Int×(List (Int))) (cO ((List (bn×Int))×Int) (Bool)):=fun s7=>
 if (decide (s7.1<(x0.length:Int)))=true then
  if 0<=s6.2/\s6.2<(v6.1.length:Int) then
   if 0<=s7.1/\s7.1<(x0.length:Int) then
    if 0<=s7.1/\s7.1<(x0.length:Int) then
     aP (r22 (IntKind.i64.wrap (((x0.getD s7.1.toNat default).1)+((x0.getD s7.1.toNat default).2))) 2) fun v50=>
      aP (r22 (IntKind.i64.wrap (((v6.1.getD s6.2.toNat default).1)*v50)) 1000) fun v51=>
       if (s7.2.length+1)*8<=140737488355328/\s7.2.length+1<=9223372036854775807 then
        .next (IntKind.i64.wrap (s7.1+1),s7.2++[v51])
        else .out none
     else .out none
    else .out none
   else .out none
  else .out (some (if (s6.1.length+1)*32<=140737488355328/\s6.1.length+1<=9223372036854775807 then
   .next (s6.1++[(s7.2,(v6.1.getD s6.2.toNat default).2)],IntKind.i64.wrap (s6.2+1))
   else .out none))
def afh (x1 x2:Int) (x3:au) (x4:aj) (x5:bn) (x0:au) (v4:aK×Int) (v6:au×Int):Bd ((List (bn×Int))×Int) Bool:=fun s6=>
 if (decide (s6.2<(v6.1.length:Int)))=true then
  if 0<=s6.2/\s6.2<(v6.1.length:Int) then
   (aS (ahx x0 v6 s6) 1000000000 (0,[])).getD (.out none)
   else .out none
  else .out ((r24 x1 x2 x3 x4).bind fun v58=>
   (r25 x5).bind fun v59=>
    (r23 v58.1 v58.2.1 v58.2.2.1 v58.2.2.2 v59 s6.1).bind fun v60=>
     if ((v60.2 == 0) && (!((v6.1.length:Int) == 0)))=true->0<=IntKind.i64.wrap ((v6.1.length:Int) - 1)/\IntKind.i64.wrap ((v6.1.length:Int) - 1)<(v6.1.length:Int) then
      if ((v60.2 == 0) && (!(((v6.1.length:Int) == 0) || (((v6.1.getD (IntKind.i64.wrap ((v6.1.length:Int) - 1)).toNat default).1) == 0))))=true->0<=IntKind.i64.wrap ((v4.1.length:Int) - 1)/\IntKind.i64.wrap ((v4.1.length:Int) - 1)<(v4.1.length:Int) then
       some ((v60.2 == 0) && ((((v6.1.length:Int) == 0) || (((v6.1.getD (IntKind.i64.wrap ((v6.1.length:Int) - 1)).toNat default).1) == 0)) || (((v4.1.getD (IntKind.i64.wrap ((v4.1.length:Int) - 1)).toNat default).1) == 4)))
       else none
      else none)
def ahw (x0:au) (v6:au×Int) (s8:(List (bn×Int))×Int):Bd (Int×(List (Int))) (cO ((List (bn×Int))×Int) (Bool)):=fun s9=>
 if (decide (s9.1<(x0.length:Int)))=true then
  if 0<=s8.2/\s8.2<(v6.1.length:Int) then
   if 0<=s9.1/\s9.1<(x0.length:Int) then
    if 0<=s9.1/\s9.1<(x0.length:Int) then
     aP (r22 (IntKind.i64.wrap (((x0.getD s9.1.toNat default).1)+((x0.getD s9.1.toNat default).2))) 2) fun v65=>
      aP (r22 (IntKind.i64.wrap (((v6.1.getD s8.2.toNat default).1)*v65)) 1000) fun v66=>
       if (s9.2.length+1)*8<=140737488355328/\s9.2.length+1<=9223372036854775807 then
        .next (IntKind.i64.wrap (s9.1+1),s9.2++[v66])
        else .out none
     else .out none
    else .out none
   else .out none
  else .out (some (if (s8.1.length+1)*32<=140737488355328/\s8.1.length+1<=9223372036854775807 then
   .next (s8.1++[(s9.2,(v6.1.getD s8.2.toNat default).2)],IntKind.i64.wrap (s8.2+1))
   else .out none))
def afe (x1 x2:Int) (x3:au) (x4:aj) (x5:bn) (x0:au) (v4:aK×Int) (v6:au×Int):Bd ((List (bn×Int))×Int) Bool:=fun s8=>
 if (decide (s8.2<(v6.1.length:Int)))=true then
  if 0<=s8.2/\s8.2<(v6.1.length:Int) then
   (aS (ahw x0 v6 s8) 1000000000 (0,[])).getD (.out none)
   else .out none
  else .out ((r24 x1 x2 x3 x4).bind fun v73=>
   (r25 x5).bind fun v74=>
    (r23 v73.1 v73.2.1 v73.2.2.1 v73.2.2.2 v74 s8.1).bind fun v75=>
     if ((v75.2 == 0) && (!((v6.1.length:Int) == 0)))=true->0<=IntKind.i64.wrap ((v6.1.length:Int) - 1)/\IntKind.i64.wrap ((v6.1.length:Int) - 1)<(v6.1.length:Int) then
      if ((v75.2 == 0) && (!(((v6.1.length:Int) == 0) || (((v6.1.getD (IntKind.i64.wrap ((v6.1.length:Int) - 1)).toNat default).1) == 0))))=true->0<=IntKind.i64.wrap ((v4.1.length:Int) - 1)/\IntKind.i64.wrap ((v4.1.length:Int) - 1)<(v4.1.length:Int) then
       some ((v75.2 == 0) && ((((v6.1.length:Int) == 0) || (((v6.1.getD (IntKind.i64.wrap ((v6.1.length:Int) - 1)).toNat default).1) == 0)) || (((v4.1.getD (IntKind.i64.wrap ((v4.1.length:Int) - 1)).toNat default).1) == 4)))
       else none
      else none)
def aeC (x1 x2:Int) (x3:au) (x4:aj) (x5 x6:bn) (x0:au) (x7 x8:Int) (a1:aK) (v4:aK×Int) (v6:au×Int):Bd Int Bool:=fun s1=>
 if (decide (s1<(v4.1.length:Int)))=true then
  if 0<=s1/\s1<(v4.1.length:Int) then
   if (!(((v4.1.getD s1.toNat default).1) == 5))=true->0<=s1/\s1<(v4.1.length:Int) then
    if ((((v4.1.getD s1.toNat default).1) == 5) || (decide (((hU ((v4.1.getD s1.toNat default).2.2.2.2.2)).length:Int)>0)))=true then
     .out (some false)
     else .next (IntKind.i64.wrap (s1+1))
    else .out none
   else .out none
  else .out (if (decide ((v4.1.length:Int)<=12))=true then
   (r16 x1 x2 x3 x4 x5 x6 x0 x7 x8).bind fun v9=>
    (r9 7 v4.1).bind fun v10=>
     (r15 v9.1 v9.2.1 v9.2.2.1 v9.2.2.2.1 v9.2.2.2.2.1 v9.2.2.2.2.2.1 v9.2.2.2.2.2.2.1 v9.2.2.2.2.2.2.2.1 v9.2.2.2.2.2.2.2.2 v10).bind fun v11=>
      if (!(v11.2 != v6.2))=true->(r20 v6.1 v11.1).isSome=true then
       if ((v11.2 != v6.2) || (!((r20 v6.1 v11.1).getD default)))=true then
        some false
        else (r9 7 a1).bind fun v12=>
         (r18 [(5,0,0,1,0,hM v12)]).bind fun v13=>
          if (v13 == 0)=true then
           (r15 v9.1 v9.2.1 v9.2.2.1 v9.2.2.2.1 v9.2.2.2.2.1 v9.2.2.2.2.2.1 v9.2.2.2.2.2.2.1 v9.2.2.2.2.2.2.2.1 v9.2.2.2.2.2.2.2.2 [(5,0,0,1,0,hM v12)]).bind fun v14=>
            if (!(v14.2 != v6.2))=true->(r20 v6.1 v14.1).isSome=true then
             if ((v14.2 != v6.2) || (!((r20 v6.1 v14.1).getD default)))=true then
              some false
              else if (v6.2 != 0)=true then
               some ((v6.1.length:Int) == 0)
               else (r21 x1 x2 x3 x4 x5 x6 x0 x7 x8 v6.1).bind fun v15=>
                if (v15 != 0)=true then
                 some false
                 else aS (Tn x1 x2 x3 x4 x5 x0 v4 v6) 1000000000 ([],0)
             else none
           else if (v6.2 != 0)=true then
            some ((v6.1.length:Int) == 0)
            else (r21 x1 x2 x3 x4 x5 x6 x0 x7 x8 v6.1).bind fun v30=>
             if (v30 != 0)=true then
              some false
              else aS (afi x1 x2 x3 x4 x5 x0 v4 v6) 1000000000 ([],0)
       else none
   else (r9 7 a1).bind fun v45=>
    (r18 [(5,0,0,1,0,hM v45)]).bind fun v46=>
     if (v46 == 0)=true then
      (r16 x1 x2 x3 x4 x5 x6 x0 x7 x8).bind fun v47=>
       (r15 v47.1 v47.2.1 v47.2.2.1 v47.2.2.2.1 v47.2.2.2.2.1 v47.2.2.2.2.2.1 v47.2.2.2.2.2.2.1 v47.2.2.2.2.2.2.2.1 v47.2.2.2.2.2.2.2.2 [(5,0,0,1,0,hM v45)]).bind fun v48=>
        if (!(v48.2 != v6.2))=true->(r20 v6.1 v48.1).isSome=true then
         if ((v48.2 != v6.2) || (!((r20 v6.1 v48.1).getD default)))=true then
          some false
          else if (v6.2 != 0)=true then
           some ((v6.1.length:Int) == 0)
           else (r21 x1 x2 x3 x4 x5 x6 x0 x7 x8 v6.1).bind fun v49=>
            if (v49 != 0)=true then
             some false
             else aS (afh x1 x2 x3 x4 x5 x0 v4 v6) 1000000000 ([],0)
         else none
      else if (v6.2 != 0)=true then
       some ((v6.1.length:Int) == 0)
       else (r21 x1 x2 x3 x4 x5 x6 x0 x7 x8 v6.1).bind fun v64=>
        if (v64 != 0)=true then
         some false
         else aS (afe x1 x2 x3 x4 x5 x0 v4 v6) 1000000000 ([],0))
def r5 (x1 x2:Int) (x3:au) (x4:aj) (x5 x6:bn) (x0:au) (x7 x8:Int) (a1:aK):Option (Bool):=
 (r6).bind fun v1=>
  if (!v1)=true then
   some false
   else (r14 x1 x2 x3 x4 x5 x6 x0 x7 x8).bind fun v2=>
    if (!(!v2))=true->(r7 a1).isSome=true then
     if (!((!v2) || (!((r7 a1).getD default))))=true->(r17 x1 x2 x3 x4 x5 x6 x0 x7 x8).isSome=true then
      if (!(((!v2) || (!((r7 a1).getD default))) || (((r17 x1 x2 x3 x4 x5 x6 x0 x7 x8).getD default) != 0)))=true->(r18 a1).isSome=true then
       if ((((!v2) || (!((r7 a1).getD default))) || (((r17 x1 x2 x3 x4 x5 x6 x0 x7 x8).getD default) != 0)) || (((r18 a1).getD default) != 0))=true then
        some true
        else (r9 7 a1).bind fun v3=>
         (r10 v3).bind fun v4=>
          (r16 x1 x2 x3 x4 x5 x6 x0 x7 x8).bind fun v5=>
           (r15 v5.1 v5.2.1 v5.2.2.1 v5.2.2.2.1 v5.2.2.2.2.1 v5.2.2.2.2.2.1 v5.2.2.2.2.2.2.1 v5.2.2.2.2.2.2.2.1 v5.2.2.2.2.2.2.2.2 v3).bind fun v6=>
            if (((v4.2 != 0) || ((v4.1.length:Int) == 0)) || (decide ((v4.1.length:Int)>60)))=true then
             some false
             else aS (aeC x1 x2 x3 x4 x5 x6 x0 x7 x8 a1 v4 v6) 1000000000 0
       else none
      else none
     else none
@[go_sem] def T5:=ae9 oQ false r5
@[go_sem] def tb5 (k:Nat):=lk [(6,T6.sp),(7,T7.sp),(9,(T9 7).sp),(10,T10.sp),(14,T14.sp),(15,T15.sp),(16,T16.sp),(17,T17.sp),(18,T18.sp),(20,T20.sp),(21,T21.sp),(22,T22.sp),(23,T23.sp),(24,T24.sp),(25,T25.sp)] k
theorem f5:aF Tryz.prog 5 T5.sp:=by
 refine vm (tb:=tb5) (.cons f6 (.cons f7 (.cons (f9 7) (.cons f10 (.cons f14 (.cons f15 (.cons f16 (.cons f17 (.cons f18 (.cons f20 (.cons f21 (.cons f22 (.cons f23 (.cons f24 (.cons f25 .nil))))))))))))))) Tryz.func5 Tryz.ntmps5 fun ⟨x1,x2,x3,x4,x5,x6,x0,x7,x8,a1⟩ r hr stop S=> ?_
 rw [KY,r5] at hr
 refine S.gx [7,17,19,26,34] ?_
 obtain ⟨v1,hv1,hr⟩:=aA hr
 refine gb hv1 ?_
 refine iW hr (fun hc hr=>D0 hr) fun hc hr=> ?_
 obtain ⟨v2,hv2,hr⟩:=aA hr
 obtain ⟨ao7,hr⟩:=aN hr
 obtain ⟨ao6,hr⟩:=aN hr
 obtain ⟨ao5,hr⟩:=aN hr
 try simp only [hv2,oG,oI,true_and,and_assoc]
 repeat (first | refine gG ao7 ?_ | refine gG ao6 ?_ | refine gG ao5 ?_ | refine gA ?_ | refine gB ?_)
 refine iW hr (fun hc hr=>D0 hr) fun hc hr=> ?_
 obtain ⟨v3,hv3,hr⟩:=aA hr
 obtain ⟨v4,hv4,hr⟩:=aA hr
 obtain ⟨v5,hv5,hr⟩:=aA hr
 obtain ⟨v6,hv6,hr⟩:=aA hr
 refine gb hv3 ?_
 refine gb hv4 ?_
 refine gb hv5 ?_
 refine gb hv6 ?_
 refine S.prune [1,2,5,6,7,8] ?_
 refine S.gx [17,19,26,34] ?_
 repeat (first | refine gA ?_ | refine gB ?_)
 refine gr ?_
 refine iW hr (fun hc hr=>D0 hr) fun hc hr=> ?_
 refine gr ?_
 refine S.sees [1,2,5,7,8,9] [(2,2)] [(44,44),(52,52)] ?_ (Stop.iter S (fun s1=>⟨[(1,.c (.d (ah 6 aZ a1))),(2,.c (.ref 2 0)),(5,.c (.own 44)),(7,.c (.own 52)),(8,.c (.d (.int .i64 v6.2))),(9,.c (.d (.int .i64 s1)))],[(2,[.d (.int .i64 x1),.d (.int .i64 x2),.d (ah 2 aT x3),.d (ah 1 aQ x4),.d (ah 1 cu x5),.d (ah 1 cu x6),.d (ah 2 aT x0),.d (.int .i64 x7),.d (.int .i64 x8)])],[(44,.owned (ah 6 aZ v4.1)),(52,.owned (ah 2 aT v6.1))]⟩) (aeC x1 x2 x3 x4 x5 x6 x0 x7 x8 a1 v4 v6) (fun q=>q=r) hr rfl ?_)
 ·exact lf
 ·intro s1 hr
  unfold aeC at hr
  refine S.gx [7,17,19,26,34] ?_
  refine gr ?_
  refine cZ hr (fun hc hr=> ?_) fun hc hr=> ?_
  ·obtain ⟨Wx,hr⟩:=aB hr
   obtain ⟨Wv,hr⟩:=aB hr
   repeat (first | refine gG Wv ?_ | refine gA ?_ | refine gB ?_)
   exact D1 (S.ss [1,2,5,7,8,9] [(2,2)] [(44,44),(52,52)]) hr
  ·refine gr ?_
   have hr:=bK hr
   refine gr ?_
   refine iW hr (fun hc hr=> ?_) fun hc hr=> ?_
   ·obtain ⟨v9,hv9,hr⟩:=aA hr
    obtain ⟨v10,yZ,hr⟩:=aA hr
    obtain ⟨v11,JG,hr⟩:=aA hr
    obtain ⟨aBB,hr⟩:=aN hr
    try simp only [hv9,yZ,JG,Option.getD_some,Option.isSome_some,true_and,and_assoc]
    repeat (first | refine gG aBB ?_ | refine gA ?_ | refine gB ?_)
    refine iW hr (fun hc hr=> ?_) fun hc hr=> ?_
    ·refine gr ?_
     refine S.prune [] ?_
     refine S.gx [7,19,26,34] ?_
     exact D0 hr
    ·obtain ⟨v12,JF,hr⟩:=aA hr
     refine gb JF ?_
     refine S.prune [2,5,7,8,12] ?_
     refine S.gx [7,17,26,34] ?_
     obtain ⟨v13,abg,hr⟩:=aA hr
     refine gb abg ?_
     refine gr ?_
     refine iW hr (fun hc hr=> ?_) fun hc hr=> ?_
     ·obtain ⟨v14,ajZ,hr⟩:=aA hr
      obtain ⟨aun,hr⟩:=aN hr
      try simp only [hv9,ajZ,Option.getD_some,Option.isSome_some,true_and,and_assoc]
      repeat (first | refine gG aun ?_ | refine gA ?_ | refine gB ?_)
      refine iW hr (fun hc hr=>D0 hr) fun hc hr=> ?_
      refine gr ?_
      refine iW hr (fun hc hr=>D0 hr) fun hc hr=> ?_
      obtain ⟨v15,abf,hr⟩:=aA hr
      refine gb abf ?_
      refine iW hr (fun hc hr=> ?_) fun hc hr=> ?_
      ·refine gr ?_
       refine S.prune [] ?_
       refine S.gx [7,17,19,34] ?_
       exact D0 hr
      ·refine gr ?_
       refine S.Dp 15 1001500 2 rfl rfl ?_
       refine S.sees [2,5,7,15,16] [(2,2)] [(1001500,1001500),(44,44),(52,52)] ?_ (Stop.iter S (fun s2=>⟨[(2,.c (.ref 2 0)),(5,.c (.own 44)),(7,.c (.own 52)),(15,.c (.own 1001500)),(16,.c (.d (.int .i64 s2.2)))],[(2,[.d (.int .i64 x1),.d (.int .i64 x2),.d (ah 2 aT x3),.d (ah 1 aQ x4),.d (ah 1 cu x5),.d (ah 1 cu x6),.d (ah 2 aT x0),.d (.int .i64 x7),.d (.int .i64 x8)])],[(1001500,.owned (ah 2 rC s2.1)),(44,.shared (ah 6 aZ v4.1)),(52,.owned (ah 2 aT v6.1))]⟩) (Tn x1 x2 x3 x4 x5 x0 v4 v6) (fun q=>q=r) hr rfl ?_)
       ·exact lf
       ·intro s2 hr
        unfold Tn at hr
        refine S.gx [7,17,19,26,34] ?_
        refine gr ?_
        refine cZ hr (fun hc hr=> ?_) fun hc hr=> ?_
        ·obtain ⟨akg,hr⟩:=aB hr
         refine gr ?_
         refine S.rV 17 0 2001700 1 rfl rfl (nL rfl) rfl ?_
         obtain ⟨q3,hq,hr⟩:=gV hr
         refine S.sees [2,5,7,15,16,17,18] [(2,2),(17,17)] [(2001700,2001700),(44,44),(52,52),(1001500,1001500)] ?_ (Stop.iter S (fun s3=>⟨[(2,.c (.ref 2 0)),(5,.c (.own 44)),(7,.c (.own 52)),(15,.c (.own 1001500)),(16,.c (.d (.int .i64 s2.2))),(17,.c (.ref 17 0)),(18,.c (.d (.int .i64 s3.1)))],[(2,[.d (.int .i64 x1),.d (.int .i64 x2),.d (ah 2 aT x3),.d (ah 1 aQ x4),.d (ah 1 cu x5),.d (ah 1 cu x6),.d (ah 2 aT x0),.d (.int .i64 x7),.d (.int .i64 x8)]),(17,[.own 2001700,.d (.int .i64 ((v6.1.getD s2.2.toNat default).2))])],[(2001700,.owned (ah 1 cu s3.2)),(44,.shared (ah 6 aZ v4.1)),(52,.owned (ah 2 aT v6.1)),(1001500,.owned (ah 2 rC s2.1))]⟩) (aaF x0 v6 s2) _ hq hr ?_)
         ·exact lf
         ·intro s3 hr
          unfold aaF at hr
          refine S.gx [7,17,19,26,34] ?_
          refine gr ?_
          refine cZ hr (fun hc hr=> ?_) fun hc hr=> ?_
          ·obtain ⟨aus,hr⟩:=aB hr
           obtain ⟨aki,hr⟩:=aB hr
           obtain ⟨akh,hr⟩:=aB hr
           obtain ⟨v16,QA,hr⟩:=aI hr
           obtain ⟨v17,Qz,hr⟩:=aI hr
           obtain ⟨aBH,hr⟩:=aB hr
           refine gb QA ?_
           refine gb Qz ?_
           refine S.prune [2,5,7,15,16,17,18] ?_
           refine S.gx [7,17,19,26] ?_
           exact D1 (S.ss [2,5,7,15,16,17,18] [(2,2),(17,17)] [(183,2001700),(44,44),(52,52),(1001500,1001500)]) hr
          ·refine gr ?_
           replace hr:=aU hr
           exact D1 (S.ss [2,5,7,15,16] [(2,2)] [(188,1001500),(44,44),(52,52)]) hr
        ·refine gr ?_
         have hr:=bK hr
         obtain ⟨v24,hv24,hr⟩:=aA hr
         obtain ⟨v25,hv25,hr⟩:=aA hr
         obtain ⟨v26,Qv,hr⟩:=aA hr
         obtain ⟨aup,hr⟩:=aN hr
         obtain ⟨auo,hr⟩:=aN hr
         try simp only [hv24,hv25,Qv,Option.getD_some,Option.isSome_some,true_and,and_assoc]
         repeat (first | refine gG aup ?_ | refine gG auo ?_ | refine gA ?_ | refine gB ?_)
         exact D0 hr
     ·refine gr ?_
      refine iW hr (fun hc hr=>D0 hr) fun hc hr=> ?_
      obtain ⟨v30,ajY,hr⟩:=aA hr
      refine gb ajY ?_
      refine iW hr (fun hc hr=> ?_) fun hc hr=> ?_
      ·refine gr ?_
       refine S.prune [] ?_
       refine S.gx [7,17,19,34] ?_
       exact D0 hr
      ·refine gr ?_
       refine S.Dp 15 1001500 2 rfl rfl ?_
       refine S.sees [2,5,7,15,16] [(2,2)] [(1001500,1001500),(44,44),(52,52)] ?_ (Stop.iter S (fun s4=>⟨[(2,.c (.ref 2 0)),(5,.c (.own 44)),(7,.c (.own 52)),(15,.c (.own 1001500)),(16,.c (.d (.int .i64 s4.2)))],[(2,[.d (.int .i64 x1),.d (.int .i64 x2),.d (ah 2 aT x3),.d (ah 1 aQ x4),.d (ah 1 cu x5),.d (ah 1 cu x6),.d (ah 2 aT x0),.d (.int .i64 x7),.d (.int .i64 x8)])],[(1001500,.owned (ah 2 rC s4.1)),(44,.shared (ah 6 aZ v4.1)),(52,.owned (ah 2 aT v6.1))]⟩) (afi x1 x2 x3 x4 x5 x0 v4 v6) (fun q=>q=r) hr rfl ?_)
       ·exact lf
       ·intro s4 hr
        unfold afi at hr
        refine S.gx [7,17,19,26,34] ?_
        refine gr ?_
        refine cZ hr (fun hc hr=> ?_) fun hc hr=> ?_
        ·obtain ⟨aui,hr⟩:=aB hr
         refine gr ?_
         refine S.rV 17 0 2001700 1 rfl rfl (nL rfl) rfl ?_
         obtain ⟨q5,hq,hr⟩:=gV hr
         refine S.sees [2,5,7,15,16,17,18] [(2,2),(17,17)] [(2001700,2001700),(44,44),(52,52),(1001500,1001500)] ?_ (Stop.iter S (fun s5=>⟨[(2,.c (.ref 2 0)),(5,.c (.own 44)),(7,.c (.own 52)),(15,.c (.own 1001500)),(16,.c (.d (.int .i64 s4.2))),(17,.c (.ref 17 0)),(18,.c (.d (.int .i64 s5.1)))],[(2,[.d (.int .i64 x1),.d (.int .i64 x2),.d (ah 2 aT x3),.d (ah 1 aQ x4),.d (ah 1 cu x5),.d (ah 1 cu x6),.d (ah 2 aT x0),.d (.int .i64 x7),.d (.int .i64 x8)]),(17,[.own 2001700,.d (.int .i64 ((v6.1.getD s4.2.toNat default).2))])],[(2001700,.owned (ah 1 cu s5.2)),(44,.shared (ah 6 aZ v4.1)),(52,.owned (ah 2 aT v6.1)),(1001500,.owned (ah 2 rC s4.1))]⟩) (ahy x0 v6 s4) _ hq hr ?_)
         ·exact lf
         ·intro s5 hr
          unfold ahy at hr
          refine S.gx [7,17,19,26,34] ?_
          refine gr ?_
          refine cZ hr (fun hc hr=> ?_) fun hc hr=> ?_
          ·obtain ⟨aBE,hr⟩:=aB hr
           obtain ⟨aul,hr⟩:=aB hr
           obtain ⟨akf,hr⟩:=aB hr
           obtain ⟨v31,hv31,hr⟩:=aI hr
           obtain ⟨v32,hv32,hr⟩:=aI hr
           obtain ⟨auk,hr⟩:=aB hr
           refine gb hv31 ?_
           refine gb hv32 ?_
           refine S.prune [2,5,7,15,16,17,18] ?_
           refine S.gx [7,17,19,26] ?_
           exact D1 (S.ss [2,5,7,15,16,17,18] [(2,2),(17,17)] [(183,2001700),(44,44),(52,52),(1001500,1001500)]) hr
          ·refine gr ?_
           replace hr:=aU hr
           exact D1 (S.ss [2,5,7,15,16] [(2,2)] [(188,1001500),(44,44),(52,52)]) hr
        ·refine gr ?_
         have hr:=bK hr
         obtain ⟨v39,hv39,hr⟩:=aA hr
         obtain ⟨v40,aBr,hr⟩:=aA hr
         obtain ⟨v41,aBq,hr⟩:=aA hr
         obtain ⟨aGE,hr⟩:=aN hr
         obtain ⟨aGD,hr⟩:=aN hr
         try simp only [hv39,aBr,aBq,Option.getD_some,Option.isSome_some,true_and,and_assoc]
         repeat (first | refine gG aGE ?_ | refine gG aGD ?_ | refine gA ?_ | refine gB ?_)
         exact D0 hr
   ·obtain ⟨v45,aBm,hr⟩:=aA hr
    refine gb aBm ?_
    refine S.prune [2,5,7,8,12] ?_
    refine S.gx [7,17,26,34] ?_
    obtain ⟨v46,ajV,hr⟩:=aA hr
    refine gb ajV ?_
    refine gr ?_
    refine iW hr (fun hc hr=> ?_) fun hc hr=> ?_
    ·obtain ⟨v47,aBl,hr⟩:=aA hr
     obtain ⟨v48,ajU,hr⟩:=aA hr
     obtain ⟨apa,hr⟩:=aN hr
     try simp only [aBl,ajU,Option.getD_some,Option.isSome_some,true_and,and_assoc]
     repeat (first | refine gG apa ?_ | refine gA ?_ | refine gB ?_)
     refine iW hr (fun hc hr=>D0 hr) fun hc hr=> ?_
     refine gr ?_
     refine iW hr (fun hc hr=>D0 hr) fun hc hr=> ?_
     obtain ⟨v49,ajT,hr⟩:=aA hr
     refine gb ajT ?_
     refine iW hr (fun hc hr=> ?_) fun hc hr=> ?_
     ·refine gr ?_
      refine S.prune [] ?_
      refine S.gx [7,17,19,34] ?_
      exact D0 hr
     ·refine gr ?_
      refine S.Dp 15 1001500 2 rfl rfl ?_
      refine S.sees [2,5,7,15,16] [(2,2)] [(1001500,1001500),(44,44),(52,52)] ?_ (Stop.iter S (fun s6=>⟨[(2,.c (.ref 2 0)),(5,.c (.own 44)),(7,.c (.own 52)),(15,.c (.own 1001500)),(16,.c (.d (.int .i64 s6.2)))],[(2,[.d (.int .i64 x1),.d (.int .i64 x2),.d (ah 2 aT x3),.d (ah 1 aQ x4),.d (ah 1 cu x5),.d (ah 1 cu x6),.d (ah 2 aT x0),.d (.int .i64 x7),.d (.int .i64 x8)])],[(1001500,.owned (ah 2 rC s6.1)),(44,.owned (ah 6 aZ v4.1)),(52,.owned (ah 2 aT v6.1))]⟩) (afh x1 x2 x3 x4 x5 x0 v4 v6) (fun q=>q=r) hr rfl ?_)
      ·exact lf
      ·intro s6 hr
       unfold afh at hr
       refine S.gx [7,17,19,26,34] ?_
       refine gr ?_
       refine cZ hr (fun hc hr=> ?_) fun hc hr=> ?_
       ·obtain ⟨aGu,hr⟩:=aB hr
        refine gr ?_
        refine S.rV 17 0 2001700 1 rfl rfl (nL rfl) rfl ?_
        obtain ⟨q7,hq,hr⟩:=gV hr
        refine S.sees [2,5,7,15,16,17,18] [(2,2),(17,17)] [(2001700,2001700),(44,44),(52,52),(1001500,1001500)] ?_ (Stop.iter S (fun s7=>⟨[(2,.c (.ref 2 0)),(5,.c (.own 44)),(7,.c (.own 52)),(15,.c (.own 1001500)),(16,.c (.d (.int .i64 s6.2))),(17,.c (.ref 17 0)),(18,.c (.d (.int .i64 s7.1)))],[(2,[.d (.int .i64 x1),.d (.int .i64 x2),.d (ah 2 aT x3),.d (ah 1 aQ x4),.d (ah 1 cu x5),.d (ah 1 cu x6),.d (ah 2 aT x0),.d (.int .i64 x7),.d (.int .i64 x8)]),(17,[.own 2001700,.d (.int .i64 ((v6.1.getD s6.2.toNat default).2))])],[(2001700,.owned (ah 1 cu s7.2)),(44,.owned (ah 6 aZ v4.1)),(52,.owned (ah 2 aT v6.1)),(1001500,.owned (ah 2 rC s6.1))]⟩) (ahx x0 v6 s6) _ hq hr ?_)
        ·exact lf
        ·intro s7 hr
         unfold ahx at hr
         refine S.gx [7,17,19,26,34] ?_
         refine gr ?_
         refine cZ hr (fun hc hr=> ?_) fun hc hr=> ?_
         ·obtain ⟨aGz,hr⟩:=aB hr
          obtain ⟨aGy,hr⟩:=aB hr
          obtain ⟨aGx,hr⟩:=aB hr
          obtain ⟨v50,aBk,hr⟩:=aI hr
          obtain ⟨v51,aBj,hr⟩:=aI hr
          obtain ⟨aGw,hr⟩:=aB hr
          refine gb aBk ?_
          refine gb aBj ?_
          refine S.prune [2,5,7,15,16,17,18] ?_
          refine S.gx [7,17,19,26] ?_
          exact D1 (S.ss [2,5,7,15,16,17,18] [(2,2),(17,17)] [(183,2001700),(44,44),(52,52),(1001500,1001500)]) hr
         ·refine gr ?_
          replace hr:=aU hr
          exact D1 (S.ss [2,5,7,15,16] [(2,2)] [(188,1001500),(44,44),(52,52)]) hr
       ·refine gr ?_
        have hr:=bK hr
        obtain ⟨v58,ao4,hr⟩:=aA hr
        obtain ⟨v59,ao3,hr⟩:=aA hr
        obtain ⟨v60,ao2,hr⟩:=aA hr
        obtain ⟨aqh,hr⟩:=aN hr
        obtain ⟨aqg,hr⟩:=aN hr
        try simp only [ao4,ao3,ao2,Option.getD_some,Option.isSome_some,true_and,and_assoc]
        repeat (first | refine gG aqh ?_ | refine gG aqg ?_ | refine gA ?_ | refine gB ?_)
        exact D0 hr
    ·refine gr ?_
     refine iW hr (fun hc hr=>D0 hr) fun hc hr=> ?_
     obtain ⟨v64,hv64,hr⟩:=aA hr
     refine gb hv64 ?_
     refine iW hr (fun hc hr=> ?_) fun hc hr=> ?_
     ·refine gr ?_
      refine S.prune [] ?_
      refine S.gx [7,17,19,34] ?_
      exact D0 hr
     ·refine gr ?_
      refine S.Dp 15 1001500 2 rfl rfl ?_
      refine S.sees [2,5,7,15,16] [(2,2)] [(1001500,1001500),(44,44),(52,52)] ?_ (Stop.iter S (fun s8=>⟨[(2,.c (.ref 2 0)),(5,.c (.own 44)),(7,.c (.own 52)),(15,.c (.own 1001500)),(16,.c (.d (.int .i64 s8.2)))],[(2,[.d (.int .i64 x1),.d (.int .i64 x2),.d (ah 2 aT x3),.d (ah 1 aQ x4),.d (ah 1 cu x5),.d (ah 1 cu x6),.d (ah 2 aT x0),.d (.int .i64 x7),.d (.int .i64 x8)])],[(1001500,.owned (ah 2 rC s8.1)),(44,.owned (ah 6 aZ v4.1)),(52,.owned (ah 2 aT v6.1))]⟩) (afe x1 x2 x3 x4 x5 x0 v4 v6) (fun q=>q=r) hr rfl ?_)
      ·exact lf
      ·intro s8 hr
       unfold afe at hr
       refine S.gx [7,17,19,26,34] ?_
       refine gr ?_
       refine cZ hr (fun hc hr=> ?_) fun hc hr=> ?_
       ·obtain ⟨asV,hr⟩:=aB hr
        refine gr ?_
        refine S.rV 17 0 2001700 1 rfl rfl (nL rfl) rfl ?_
        obtain ⟨q9,hq,hr⟩:=gV hr
        refine S.sees [2,5,7,15,16,17,18] [(2,2),(17,17)] [(2001700,2001700),(44,44),(52,52),(1001500,1001500)] ?_ (Stop.iter S (fun s9=>⟨[(2,.c (.ref 2 0)),(5,.c (.own 44)),(7,.c (.own 52)),(15,.c (.own 1001500)),(16,.c (.d (.int .i64 s8.2))),(17,.c (.ref 17 0)),(18,.c (.d (.int .i64 s9.1)))],[(2,[.d (.int .i64 x1),.d (.int .i64 x2),.d (ah 2 aT x3),.d (ah 1 aQ x4),.d (ah 1 cu x5),.d (ah 1 cu x6),.d (ah 2 aT x0),.d (.int .i64 x7),.d (.int .i64 x8)]),(17,[.own 2001700,.d (.int .i64 ((v6.1.getD s8.2.toNat default).2))])],[(2001700,.owned (ah 1 cu s9.2)),(44,.owned (ah 6 aZ v4.1)),(52,.owned (ah 2 aT v6.1)),(1001500,.owned (ah 2 rC s8.1))]⟩) (ahw x0 v6 s8) _ hq hr ?_)
        ·exact lf
        ·intro s9 hr
         unfold ahw at hr
         refine S.gx [7,17,19,26,34] ?_
         refine gr ?_
         refine cZ hr (fun hc hr=> ?_) fun hc hr=> ?_
         ·obtain ⟨asZ,hr⟩:=aB hr
          obtain ⟨asY,hr⟩:=aB hr
          obtain ⟨asX,hr⟩:=aB hr
          obtain ⟨v65,ao0,hr⟩:=aI hr
          obtain ⟨v66,aoZ,hr⟩:=aI hr
          obtain ⟨asW,hr⟩:=aB hr
          refine gb ao0 ?_
          refine gb aoZ ?_
          refine S.prune [2,5,7,15,16,17,18] ?_
          refine S.gx [7,17,19,26] ?_
          exact D1 (S.ss [2,5,7,15,16,17,18] [(2,2),(17,17)] [(183,2001700),(44,44),(52,52),(1001500,1001500)]) hr
         ·refine gr ?_
          replace hr:=aU hr
          exact D1 (S.ss [2,5,7,15,16] [(2,2)] [(188,1001500),(44,44),(52,52)]) hr
       ·refine gr ?_
        have hr:=bK hr
        obtain ⟨v73,aoY,hr⟩:=aA hr
        obtain ⟨v74,aoX,hr⟩:=aA hr
        obtain ⟨v75,aoW,hr⟩:=aA hr
        obtain ⟨ao9,hr⟩:=aN hr
        obtain ⟨ao8,hr⟩:=aN hr
        try simp only [aoY,aoX,aoW,Option.getD_some,Option.isSome_some,true_and,and_assoc]
        repeat (first | refine gG ao9 ?_ | refine gG ao8 ?_ | refine gA ?_ | refine gB ?_)
        exact D0 hr
end Go.Proofs.YtkbdjphdhcgmaaaGreatDoor

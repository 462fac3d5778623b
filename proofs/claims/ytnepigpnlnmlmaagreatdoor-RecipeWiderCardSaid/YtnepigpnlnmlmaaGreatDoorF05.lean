/- Contracts of functions, written by wip/dec. -/
import Derived.Test.YtnepigpnlnmlmaaGreatDoorF00
import Derived.Test.YtnepigpnlnmlmaaGreatDoorF01
set_option linter.unusedVariables false
set_option linter.unusedSimpArgs false
set_option linter.constructorNameAsVariable false
set_option maxHeartbeats 4000000
set_option maxRecDepth 20000
namespace Go.Proofs.YtnepigpnlnmlmaaGreatDoor
open Tryz Go.dR
section
variable {β:Type} [Inhabited β] (u:β->List RV) (al:Bool)
def arN (a0:Int) (a1:aA) (a2:Int) (a3:Option (Int×aA×Int)) (a4:Int):List Arg:=[.agg [.int .i64 a0,aj 2 aQ a1,.int .i64 a2],.c (yM bM a3),.c (.int .i64 a4)]
def atu:List Arg->Int×aA×Int×(Option (Int×aA×Int))×Int
 | [.agg [c0,c1,c2],.c c3,.c c4]=>(aC c0,aN bZ c1,aC c2,decP rX c3,aC c4)
 | _=>default
def auC (r:Int->aA->Int->(Option (Int×aA×Int))->Int->Option β):=mkT (u5 arN) atu (u5 r) u al
attribute [go_sem] arN atu auC
def arM (a0:aV):List Arg:=[.c (aj 1 dh a0),.clo 141 []]
def att:List Arg->aV
 | [.c c0,.clo _ []]=>aN kV c0
 | _=>default
def akK (r:aV->Option β):=mkT (u1 arM) att (u1 r) u al
attribute [go_sem] arM att akK
def asB (v:bP×bP×bP×bP):List RV:=[.agg [.own (aj 3 bM v.1),.own (aj 3 bM v.2.1),.own (aj 3 bM v.2.2.1),.own (aj 3 bM v.2.2.2)]]
attribute [go_sem] asB
end
def r25 (a0:aA):Option (aA):=
 if (0+a0.length)*16<=140737488355328/\0+a0.length<=9223372036854775807 then
  some a0
  else none
@[go_sem] def T25:=qT5 qu5 false r25
theorem f25:aF prog 25 T25.sp:=by
 refine vm .nil func25 ntmps25 λa0 r hr stop S=> ?_
 rw [sQ,r25] at hr
 refine S.gx [] ?_
 exact D0 hr
def IC (x0:aA) (s1 s2 s3:Int×(List (Int×aA×Int))):Bd (Int×(List (Int×aA×Int))) (bP×bP×bP×bP):=λs4=>
 if (decide (s4.1<(x0.length:Int)))=true then
  if 0<=s4.1/\s4.1<(x0.length:Int) then
   if (s4.2.length+1)*40<=140737488355328/\s4.2.length+1<=9223372036854775807 then
    .next (IntKind.i64.wrap (s4.1+1),s4.2++[((x0.getD s4.1.toNat default).1,[],(x0.getD s4.1.toNat default).2)])
    else .out none
   else .out none
  else .out (some (s1.2,s2.2,s3.2,s4.2))
def IE (x1:aJ) (x0:aA) (s1 s2:Int×(List (Int×aA×Int))):Bd (Int×(List (Int×aA×Int))) (bP×bP×bP×bP):=λs3=>
 if (decide (s3.1<(x1.length:Int)))=true then
  if 0<=s3.1/\s3.1<(x1.length:Int) then
   if (s3.2.length+1)*40<=140737488355328/\s3.2.length+1<=9223372036854775807 then
    .next (IntKind.i64.wrap (s3.1+1),s3.2++[((x1.getD s3.1.toNat default).1,[((x1.getD s3.1.toNat default).2.1,(x1.getD s3.1.toNat default).2.2)],0)])
    else .out none
   else .out none
  else .out (aK (IC x0 s1 s2 s3) 1000000000 (0,[]))
def IG (x2:aG) (x1:aJ) (x0:aA) (s1:Int×(List (Int×aA×Int))):Bd (Int×(List (Int×aA×Int))) (bP×bP×bP×bP):=λs2=>
 if (decide (s2.1<(x2.length:Int)))=true then
  if 0<=s2.1/\s2.1<(x2.length:Int) then
   if (s2.2.length+1)*40<=140737488355328/\s2.2.length+1<=9223372036854775807 then
    .next (IntKind.i64.wrap (s2.1+1),s2.2++[((x2.getD s2.1.toNat default).1,[((x2.getD s2.1.toNat default).2.1,(x2.getD s2.1.toNat default).2.2.1),((x2.getD s2.1.toNat default).2.2.2.1,(x2.getD s2.1.toNat default).2.2.2.2)],0)])
    else .out none
   else .out none
  else .out (aK (IE x1 x0 s1 s2) 1000000000 (0,[]))
def II (x3:aT) (x2:aG) (x1:aJ) (x0:aA):Bd (Int×(List (Int×aA×Int))) (bP×bP×bP×bP):=λs1=>
 if (decide (s1.1<(x3.length:Int)))=true then
  if 0<=s1.1/\s1.1<(x3.length:Int) then
   if (s1.2.length+1)*40<=140737488355328/\s1.2.length+1<=9223372036854775807 then
    .next (IntKind.i64.wrap (s1.1+1),s1.2++[((x3.getD s1.1.toNat default).1,[((x3.getD s1.1.toNat default).2.1,(x3.getD s1.1.toNat default).2.2.1)],(x3.getD s1.1.toNat default).2.2.2)])
    else .out none
   else .out none
  else .out (aK (IG x2 x1 x0 s1) 1000000000 (0,[]))
def acj (x3:aT) (x2:aG) (x1:aJ) (x0:aA) (x4 x5 x6 x7:Int):Option (bP×bP×bP×bP):=
 aK (II x3 x2 x1 x0) 1000000000 (0,[])
@[go_sem] def ayM:=PK asB true acj
theorem f138:aF prog 138 ayM.sp:=by
 refine vm .nil func138 ntmps138 λ⟨x3,x2,x1,x0,x4,x5,x6,x7⟩ r hr stop S=> ?_
 rw [uq8,acj] at hr
 refine S.gx [] ?_
 refine gr ?_
 refine S.uI 3 0 2000300 3 rfl rfl (nL rfl) rfl ?_
 refine S.li [1,2,3,13,14,15] [(1,1),(2,2),(3,3)] [(2000300,2000300)] (λs1=>⟨[sR 1 1,sR 2 2,sR 3 3,(13,.c (.d (aj 4 bV x3))),sI 14 (x3.length:Int),sI 15 s1.1],[(1,[.d (aj 4 bV x3),.d (aj 5 bI x2),.d (aj 3 bU x1),.d (aj 2 aQ x0),iC x4,iC x5,iC x6,iC x7]),(2,[.dF,.dF,.dF,.dF]),(3,[.own 2000300,.dF,.dF,.dF])],[(2000300,.owned (aj 3 bM s1.2))]⟩) (II x3 x2 x1 x0) (λq=>q=r) hr rfl ?_
 intro s1 hr
 unfold II at hr
 refine S.gw [] ?_
 refine gJ hr (λhc hr=>D1 (S.ss [1,2,3,13,14,15] [(1,1),(2,2),(3,3)] [(30,2000300)]) hr) λhc hr=> ?_
 refine gr ?_
 have hr:=bT hr
 refine gr ?_
 refine S.uI 3 1 2000301 3 rfl rfl (nL rfl) rfl ?_
 refine S.li [1,2,3,34,35,36] [(1,1),(2,2),(3,3)] [(2000301,2000301),(2000300,2000300)] (λs2=>⟨[sR 1 1,sR 2 2,sR 3 3,(34,.c (.d (aj 5 bI x2))),sI 35 (x2.length:Int),sI 36 s2.1],[(1,[.d (aj 4 bV x3),.d (aj 5 bI x2),.d (aj 3 bU x1),.d (aj 2 aQ x0),iC x4,iC x5,iC x6,iC x7]),(2,[.dF,.dF,.dF,.dF]),(3,[.own 2000300,.own 2000301,.dF,.dF])],[(2000301,.owned (aj 3 bM s2.2)),(2000300,.owned (aj 3 bM s1.2))]⟩) (IG x2 x1 x0 s1) (λq=>q=r) hr rfl ?_
 intro s2 hr
 unfold IG at hr
 refine S.gw [] ?_
 refine gJ hr (λhc hr=>D1 (S.ss [1,2,3,34,35,36] [(1,1),(2,2),(3,3)] [(51,2000301),(2000300,2000300)]) hr) λhc hr=> ?_
 refine gr ?_
 have hr:=bT hr
 refine gr ?_
 refine S.uI 3 2 2000302 3 rfl rfl (nL rfl) rfl ?_
 refine S.li [1,2,3,55,56,57] [(1,1),(2,2),(3,3)] [(2000302,2000302),(2000300,2000300),(2000301,2000301)] (λs3=>⟨[sR 1 1,sR 2 2,sR 3 3,(55,.c (.d (aj 3 bU x1))),sI 56 (x1.length:Int),sI 57 s3.1],[(1,[.d (aj 4 bV x3),.d (aj 5 bI x2),.d (aj 3 bU x1),.d (aj 2 aQ x0),iC x4,iC x5,iC x6,iC x7]),(2,[.dF,.dF,.dF,.dF]),(3,[.own 2000300,.own 2000301,.own 2000302,.dF])],[(2000302,.owned (aj 3 bM s3.2)),(2000300,.owned (aj 3 bM s1.2)),(2000301,.owned (aj 3 bM s2.2))]⟩) (IE x1 x0 s1 s2) (λq=>q=r) hr rfl ?_
 intro s3 hr
 unfold IE at hr
 refine S.gw [] ?_
 refine gJ hr (λhc hr=>D1 (S.ss [1,2,3,55,56,57] [(1,1),(2,2),(3,3)] [(70,2000302),(2000300,2000300),(2000301,2000301)]) hr) λhc hr=> ?_
 refine gr ?_
 have hr:=bT hr
 refine gr ?_
 refine S.uI 3 3 2000303 3 rfl rfl (nL rfl) rfl ?_
 refine S.li [2,3,74,75,76] [(2,2),(3,3)] [(2000303,2000303),(2000300,2000300),(2000301,2000301),(2000302,2000302)] (λs4=>⟨[sR 2 2,sR 3 3,(74,.c (.d (aj 2 aQ x0))),sI 75 (x0.length:Int),sI 76 s4.1],[(2,[.dF,.dF,.dF,.dF]),(3,[.own 2000300,.own 2000301,.own 2000302,.own 2000303])],[(2000303,.owned (aj 3 bM s4.2)),(2000300,.owned (aj 3 bM s1.2)),(2000301,.owned (aj 3 bM s2.2)),(2000302,.owned (aj 3 bM s3.2))]⟩) (IC x0 s1 s2 s3) (λq=>q=r) hr rfl ?_
 intro s4 hr
 unfold IC at hr
 refine S.gx [] ?_
 exact D1 (S.ss [2,3,74,75,76] [(2,2),(3,3)] [(88,2000303),(2000300,2000300),(2000301,2000301),(2000302,2000302)]) hr
def jS (a0 a1 a2:Int):Option (Bool):=
 some ((decide (a1<=a0)) && (decide (a0<=a2)))
@[go_sem] def aaJ:=qT1 qV false jS
theorem f142:aF prog 142 aaJ.sp:=by
 refine vm .nil func142 ntmps142 λ⟨a0,a1,a2⟩ r hr stop S=> ?_
 rw [uq3,jS] at hr
 refine S.gx [] ?_
 repeat (first | refine gA ?_ | refine gB ?_)
 exact D0 hr
def jr (a0:Int):Option (Bool):=
 (jS a0 0 1000000).bind λv1=>
  some v1
@[go_sem] def ah4:=OC qV false jr
@[go_sem] def aqi (k:Nat):=lk [(142,aaJ.sp)] k
theorem f168:aF prog 168 ah4.sp:=by
 refine vm (tb:=aqi) (.cons f142 .nil) func168 ntmps168 λa0 r hr stop S=> ?_
 rw [sQ,jr] at hr
 refine S.gx [] ?_
 exact D0 hr
def ab5 (x1 x0:Int):Option (Bool):=
 (jr x1).bind λv1=>
  if (!(!v1))=true->(jr x0).isSome=true then
   some ((!v1) || (!((jr x0).getD default)))
   else none
@[go_sem] def ayq:=PN qV false ab5
@[go_sem] def aqa (k:Nat):=lk [(168,ah4.sp)] k
theorem f195:aF prog 195 ayq.sp:=by
 refine vm (tb:=aqa) (.cons f168 .nil) func195 ntmps195 λ⟨x1,x0⟩ r hr stop S=> ?_
 rw [DV,ab5] at hr
 refine S.gx [] ?_
 obtain ⟨v1,hv1,hr⟩:=aB hr
 obtain ⟨hg2,hr⟩:=aP hr
 try simp only [hv1,oG,oI,true_and,and_assoc]
 repeat (first | refine gG hg2 ?_ | refine gA ?_ | refine gB ?_)
 exact D0 hr
def Zg (x0 x1:Int):Option (Bool):=
 some (decide (x0>x1))
@[go_sem] def ayp:=PN qV false Zg
theorem f196:aF prog 196 ayp.sp:=by
 refine vm .nil func196 ntmps196 λ⟨x0,x1⟩ r hr stop S=> ?_
 rw [DV,Zg] at hr
 refine S.gx [] ?_
 exact D0 hr
def ML (a0:Int):Option (Bool):=
 (jS a0 1 3000).bind λv1=>
  some v1
@[go_sem] def amH:=OC qV false ML
@[go_sem] def aqh (k:Nat):=lk [(142,aaJ.sp)] k
theorem f170:aF prog 170 amH.sp:=by
 refine vm (tb:=aqh) (.cons f142 .nil) func170 ntmps170 λa0 r hr stop S=> ?_
 rw [sQ,ML] at hr
 refine S.gx [] ?_
 exact D0 hr
def gW (a0:Bool) (a1:Int):Option (Int):=
 if a0=true then
  some 0
  else some a1
@[go_sem] def RJ:=qT2 mY false gW
theorem f143:aF prog 143 RJ.sp:=by
 refine vm .nil func143 ntmps143 λ⟨a0,a1⟩ r hr stop S=> ?_
 rw [DV,gW] at hr
 refine S.gx [] ?_
 exact D0 hr
def Df (a0:aV):Bd Int Int:=λs1=>
 if (decide (s1<(a0.length:Int)))=true then
  if 0<=s1/\s1<(a0.length:Int) then
   if ((a0.getD s1.toNat default) != 0)=true then
    .out (some (a0.getD s1.toNat default))
    else .next (IntKind.i64.wrap (s1+1))
   else .out none
  else .out (some 0)
def oL (a0:aV):Option (Int):=
 aK (Df a0) 1000000000 0
@[go_sem] def aaK:=qT3 mY false oL
theorem f104:aF prog 104 aaK.sp:=by
 refine vm .nil func104 ntmps104 λa0 r hr stop S=> ?_
 rw [sQ,oL] at hr
 refine S.gx [] ?_
 refine gr ?_
 refine S.li [5,6,7] [] [] (λs1=>⟨[(5,.c (.d (aj 1 dh a0))),sI 6 (a0.length:Int),sI 7 s1],[],[]⟩) (Df a0) (λq=>q=r) hr rfl ?_
 intro s1 hr
 unfold Df at hr
 refine S.gx [] ?_
 exact D1 (S.ss [5,6,7] [] []) hr
def zl (x1:Int) (x0:aA) (x2:Int) (a1:Option (Int×aA×Int)) (a2 s1:Int):Bd Int Int:=λs2=>
 if (decide (s2<(x0.length:Int)))=true then
  if 0<=s2/\s2<(x0.length:Int) then
   aW (Zg ((x0.getD s2.toNat default).1) ((x0.getD s2.toNat default).2)) λv2=>
    if v2=true then
     .out ((ML x1).bind λv3=>
      if (v3 && (!(decide (s1>=0))))=true->(jr x2).isSome=true then
       (gW ((v3 && (!(decide (s1>=0)))) && ((jr x2).getD default)) 2).bind λv4=>
        (gW (!(decide (s2>=0))) 3).bind λv5=>
         (oL [v4,v5]).bind λv6=>
          if ((v6 != 0) || (!a1.isSome))=true then
           some v6
           else if a1.isSome=true then
            if a1.isSome=true then
             if (a2 != 0)=true then
              if 0<=0/\0<(x0.length:Int) then
               if a1.isSome=true then
                if a1.isSome=true then
                 if 0<=0/\0<(((a1.getD default).2.1).length:Int) then
                  (gW (((decide (x1>((a1.getD default).1))) && (decide ((IntKind.i64.wrap (a2*((x0.getD 0 default).1)))>=(IntKind.i64.wrap (a2*((((a1.getD default).2.1).getD 0 default).1)))))) && (decide ((IntKind.i64.wrap (a2*((x0.getD 0 default).2)))>=(IntKind.i64.wrap (a2*((((a1.getD default).2.1).getD 0 default).2)))))) 9).bind λv7=>
                   some v7
                  else none
                 else none
                else none
               else none
              else (gW (decide (x1>((a1.getD default).1))) 9).bind λv12=>
               some v12
             else none
            else none
       else none)
     else .next (IntKind.i64.wrap (s2+1))
   else .out none
  else .out ((ML x1).bind λv17=>
   if (v17 && (!(decide (s1>=0))))=true->(jr x2).isSome=true then
    (gW ((v17 && (!(decide (s1>=0)))) && ((jr x2).getD default)) 2).bind λv18=>
     (gW true 3).bind λv19=>
      (oL [v18,v19]).bind λv20=>
       if ((v20 != 0) || (!a1.isSome))=true then
        some v20
        else if a1.isSome=true then
         if a1.isSome=true then
          if (a2 != 0)=true then
           if 0<=0/\0<(x0.length:Int) then
            if a1.isSome=true then
             if a1.isSome=true then
              if 0<=0/\0<(((a1.getD default).2.1).length:Int) then
               (gW (((decide (x1>((a1.getD default).1))) && (decide ((IntKind.i64.wrap (a2*((x0.getD 0 default).1)))>=(IntKind.i64.wrap (a2*((((a1.getD default).2.1).getD 0 default).1)))))) && (decide ((IntKind.i64.wrap (a2*((x0.getD 0 default).2)))>=(IntKind.i64.wrap (a2*((((a1.getD default).2.1).getD 0 default).2)))))) 9).bind λv21=>
                some v21
               else none
              else none
             else none
            else none
           else (gW (decide (x1>((a1.getD default).1))) 9).bind λv26=>
            some v26
          else none
         else none
    else none)
def zk (x1:Int) (x0:aA) (x2:Int) (a1:Option (Int×aA×Int)) (a2:Int):Bd Int Int:=λs3=>
 if (decide (s3<(x0.length:Int)))=true then
  if 0<=s3/\s3<(x0.length:Int) then
   aW (Zg ((x0.getD s3.toNat default).1) ((x0.getD s3.toNat default).2)) λv31=>
    if v31=true then
     .out ((ML x1).bind λv32=>
      if v32=true->(jr x2).isSome=true then
       (gW (v32 && ((jr x2).getD default)) 2).bind λv33=>
        (gW (!(decide (s3>=0))) 3).bind λv34=>
         (oL [v33,v34]).bind λv35=>
          if ((v35 != 0) || (!a1.isSome))=true then
           some v35
           else if a1.isSome=true then
            if a1.isSome=true then
             if (a2 != 0)=true then
              if 0<=0/\0<(x0.length:Int) then
               if a1.isSome=true then
                if a1.isSome=true then
                 if 0<=0/\0<(((a1.getD default).2.1).length:Int) then
                  (gW (((decide (x1>((a1.getD default).1))) && (decide ((IntKind.i64.wrap (a2*((x0.getD 0 default).1)))>=(IntKind.i64.wrap (a2*((((a1.getD default).2.1).getD 0 default).1)))))) && (decide ((IntKind.i64.wrap (a2*((x0.getD 0 default).2)))>=(IntKind.i64.wrap (a2*((((a1.getD default).2.1).getD 0 default).2)))))) 9).bind λv36=>
                   some v36
                  else none
                 else none
                else none
               else none
              else (gW (decide (x1>((a1.getD default).1))) 9).bind λv41=>
               some v41
             else none
            else none
       else none)
     else .next (IntKind.i64.wrap (s3+1))
   else .out none
  else .out ((ML x1).bind λv46=>
   if v46=true->(jr x2).isSome=true then
    (gW (v46 && ((jr x2).getD default)) 2).bind λv47=>
     (gW true 3).bind λv48=>
      (oL [v47,v48]).bind λv49=>
       if ((v49 != 0) || (!a1.isSome))=true then
        some v49
        else if a1.isSome=true then
         if a1.isSome=true then
          if (a2 != 0)=true then
           if 0<=0/\0<(x0.length:Int) then
            if a1.isSome=true then
             if a1.isSome=true then
              if 0<=0/\0<(((a1.getD default).2.1).length:Int) then
               (gW (((decide (x1>((a1.getD default).1))) && (decide ((IntKind.i64.wrap (a2*((x0.getD 0 default).1)))>=(IntKind.i64.wrap (a2*((((a1.getD default).2.1).getD 0 default).1)))))) && (decide ((IntKind.i64.wrap (a2*((x0.getD 0 default).2)))>=(IntKind.i64.wrap (a2*((((a1.getD default).2.1).getD 0 default).2)))))) 9).bind λv50=>
                some v50
               else none
              else none
             else none
            else none
           else (gW (decide (x1>((a1.getD default).1))) 9).bind λv55=>
            some v55
          else none
         else none
    else none)
def Dc (x1:Int) (x0:aA) (x2:Int) (a1:Option (Int×aA×Int)) (a2:Int):Bd Int Int:=λs1=>
 if (decide (s1<(x0.length:Int)))=true then
  if 0<=s1/\s1<(x0.length:Int) then
   aW (ab5 ((x0.getD s1.toNat default).1) ((x0.getD s1.toNat default).2)) λv1=>
    if v1=true then
     .out (aK (zl x1 x0 x2 a1 a2 s1) 1000000000 0)
     else .next (IntKind.i64.wrap (s1+1))
   else .out none
  else .out (aK (zk x1 x0 x2 a1 a2) 1000000000 0)
def MO (x1:Int) (x0:aA) (x2:Int) (a1:Option (Int×aA×Int)) (a2:Int):Option (Int):=
 aK (Dc x1 x0 x2 a1 a2) 1000000000 0
@[go_sem] def ayL:=auC mY false MO
@[go_sem] def aip (k:Nat):=lk [(104,aaK.sp),(143,RJ.sp),(168,ah4.sp),(170,amH.sp),(195,ayq.sp),(196,ayp.sp)] k
theorem rD:fM prog aip:= .cons f104 (.cons f143 (.cons f168 (.cons f170 (.cons f195 (.cons f196 .nil)))))
theorem f139:aF prog 139 ayL.sp:=by
 refine vm (tb:=aip) (.cons f104 (.cons f143 (.cons f168 (.cons f170 (.cons f195 (.cons f196 .nil)))))) func139 ntmps139 λ⟨x1,x0,x2,a1,a2⟩ r hr stop S=> ?_
 rw [uq5,MO] at hr
 refine S.gx [1,2,5,7,10] ?_
 refine gr ?_
 refine S.inl 2 [1,2,3] [] func147 (by decide) rfl ntmps147 (λcx e=>bD cZ rD cx e) (some 15) rfl rfl rfl rfl (nL rfl) (nL rfl) ?_
 refine gs ?_
 refine gr ?_
 intro stop1 S1
 refine S1.gw [1] ?_
 refine S1.inl 2 [4] [] func204 (by decide) rfl ntmps204 (λcx e=>bD cZ rD cx e) (some 7) rfl rfl rfl rfl (nL rfl) (nL rfl) ?_
 refine gs ?_
 refine gr ?_
 intro stop2 S2
 refine S2.gw [4] ?_
 refine S2.li [0,1,7,8] [(3,3)] [] (λs1=>⟨[(0,.c (.d (aj 2 aQ x0))),(1,.c (.clo 195 [])),sI 7 (x0.length:Int),sI 8 s1],[(3,[iC x1,.d (aj 2 aQ x0),iC x2])],[]⟩) (Dc x1 x0 x2 a1 a2) (λq=>q=r) hr rfl ?_
 intro s1 hr
 unfold Dc at hr
 refine S2.gw [4] ?_
 refine gJ hr (λhc hr=> ?_) λhc hr=> ?_
 ·refine S2.gx [] ?_
  obtain ⟨aIZ,hr⟩:=aH hr
  obtain ⟨v1,hv1,hr⟩:=bf hr
  refine gb hv1 ?_
  refine gr ?_
  refine gJ hr (λhc hr=> ?_) λhc hr=>D1 (S2.ss [0,1,7,8] [(3,3)] []) hr
  refine gr ?_
  have hr:=bT hr
  refine S1.gw [1] ?_
  refine S.gw [1,2,5,7,10] ?_
  refine S.inl 2 [1,2,3,7] [] func147 (by decide) rfl ntmps147 (λcx e=>bD cZ rD cx e) (some 18) rfl rfl rfl rfl (nL rfl) (nL rfl) ?_
  refine gs ?_
  refine gr ?_
  intro stop1 S1
  refine S1.gw [1] ?_
  refine S1.inl 2 [4] [] func204 (by decide) rfl ntmps204 (λcx e=>bD cZ rD cx e) (some 7) rfl rfl rfl rfl (nL rfl) (nL rfl) ?_
  refine gs ?_
  refine gr ?_
  intro stop2 S2
  refine S2.gw [4] ?_
  refine S2.li [0,1,7,8] [(3,3)] [] (λs2=>⟨[(0,.c (.d (aj 2 aQ x0))),(1,.c (.clo 196 [])),sI 7 (x0.length:Int),sI 8 s2],[(3,[iC x1,.d (aj 2 aQ x0),iC x2])],[]⟩) (zl x1 x0 x2 a1 a2 s1) (λq=>q=r) hr rfl ?_
  intro s2 hr
  unfold zl at hr
  refine S2.gw [4] ?_
  refine gJ hr (λhc hr=> ?_) λhc hr=> ?_
  ·refine S2.gx [] ?_
   obtain ⟨aDO,hr⟩:=aH hr
   obtain ⟨v2,hv2,hr⟩:=bf hr
   refine gb hv2 ?_
   refine gr ?_
   refine gJ hr (λhc hr=> ?_) λhc hr=>D1 (S2.ss [0,1,7,8] [(3,3)] []) hr
   refine gr ?_
   have hr:=bT hr
   refine S1.gw [1] ?_
   refine S.gx [1,2,5,7,10] ?_
   obtain ⟨v3,hv3,hr⟩:=aB hr
   obtain ⟨ZM,hr⟩:=aP hr
   obtain ⟨v4,hv4,hr⟩:=aB hr
   obtain ⟨v5,hv5,hr⟩:=aB hr
   obtain ⟨v6,hv6,hr⟩:=aB hr
   try simp only [hv3,hv4,hv5,hv6,Option.getD_some,Option.isSome_some,true_and,and_assoc]
   repeat (first | refine gG ZM ?_ | refine gA ?_ | refine gB ?_)
   refine iW hr (λhc hr=> ?_) λhc hr=> ?_
   ·refine gr ?_
    refine S.prune [9] ?_
    refine S.gx [1,2,7,10] ?_
    exact D0 hr
   obtain ⟨ZN,hr⟩:=aP hr
   obtain ⟨ahf,hr⟩:=aP hr
   refine gr ?_
   refine S.prune [1,2,3,10] ?_
   refine S.gw [1,2,5,10] ?_
   refine iW hr (λhc hr=> ?_) λhc hr=> ?_
   ·obtain ⟨XT,hr⟩:=aP hr
    obtain ⟨ZK,hr⟩:=aP hr
    obtain ⟨Jj,hr⟩:=aP hr
    obtain ⟨Nv,hr⟩:=aP hr
    repeat (first | refine gA ?_ | refine gB ?_)
    refine S.prune [10] ?_
    refine S.gx [1,2,5,7] ?_
    exact D0 hr
   refine gr ?_
   refine S.prune [10] ?_
   refine S.gx [1,2,5,7] ?_
   exact D0 hr
  refine gr ?_
  have hr:=bT hr
  refine S1.gw [1] ?_
  refine S.gx [1,2,5,7,10] ?_
  obtain ⟨v17,adu,hr⟩:=aB hr
  obtain ⟨aDL,hr⟩:=aP hr
  obtain ⟨v18,Nu,hr⟩:=aB hr
  obtain ⟨v19,UC,hr⟩:=aB hr
  obtain ⟨v20,UA,hr⟩:=aB hr
  try simp only [adu,Nu,UC,UA,Option.getD_some,Option.isSome_some,true_and,and_assoc]
  repeat (first | refine gG aDL ?_ | refine gA ?_ | refine gB ?_)
  refine iW hr (λhc hr=> ?_) λhc hr=> ?_
  ·refine gr ?_
   refine S.prune [9] ?_
   refine S.gx [1,2,7,10] ?_
   exact D0 hr
  obtain ⟨alX,hr⟩:=aP hr
  obtain ⟨aDM,hr⟩:=aP hr
  refine gr ?_
  refine S.prune [1,2,3,10] ?_
  refine S.gw [1,2,5,10] ?_
  refine iW hr (λhc hr=> ?_) λhc hr=> ?_
  ·obtain ⟨ZL,hr⟩:=aP hr
   obtain ⟨ahe,hr⟩:=aP hr
   obtain ⟨ahd,hr⟩:=aP hr
   obtain ⟨aww,hr⟩:=aP hr
   repeat (first | refine gA ?_ | refine gB ?_)
   refine S.prune [10] ?_
   refine S.gx [1,2,5,7] ?_
   exact D0 hr
  refine gr ?_
  refine S.prune [10] ?_
  refine S.gx [1,2,5,7] ?_
  exact D0 hr
 refine gr ?_
 have hr:=bT hr
 refine S1.gw [1] ?_
 refine S.gw [1,2,5,7,10] ?_
 refine S.inl 2 [1,2,3,7] [] func147 (by decide) rfl ntmps147 (λcx e=>bD cZ rD cx e) (some 18) rfl rfl rfl rfl (nL rfl) (nL rfl) ?_
 refine gs ?_
 refine gr ?_
 intro stop1 S1
 refine S1.gw [1] ?_
 refine S1.inl 2 [4] [] func204 (by decide) rfl ntmps204 (λcx e=>bD cZ rD cx e) (some 7) rfl rfl rfl rfl (nL rfl) (nL rfl) ?_
 refine gs ?_
 refine gr ?_
 intro stop2 S2
 refine S2.gw [4] ?_
 refine S2.li [0,1,7,8] [(3,3)] [] (λs3=>⟨[(0,.c (.d (aj 2 aQ x0))),(1,.c (.clo 196 [])),sI 7 (x0.length:Int),sI 8 s3],[(3,[iC x1,.d (aj 2 aQ x0),iC x2])],[]⟩) (zk x1 x0 x2 a1 a2) (λq=>q=r) hr rfl ?_
 intro s3 hr
 unfold zk at hr
 refine S2.gw [4] ?_
 refine gJ hr (λhc hr=> ?_) λhc hr=> ?_
 ·refine S2.gx [] ?_
  obtain ⟨aIU,hr⟩:=aH hr
  obtain ⟨v31,hv31,hr⟩:=bf hr
  refine gb hv31 ?_
  refine gr ?_
  refine gJ hr (λhc hr=> ?_) λhc hr=>D1 (S2.ss [0,1,7,8] [(3,3)] []) hr
  refine gr ?_
  have hr:=bT hr
  refine S1.gw [1] ?_
  refine S.gx [1,2,5,7,10] ?_
  obtain ⟨v32,hv32,hr⟩:=aB hr
  obtain ⟨aDF,hr⟩:=aP hr
  obtain ⟨v33,aDt,hr⟩:=aB hr
  obtain ⟨v34,hv34,hr⟩:=aB hr
  obtain ⟨v35,aDs,hr⟩:=aB hr
  try simp only [hv32,aDt,hv34,aDs,Option.getD_some,Option.isSome_some,true_and,and_assoc]
  repeat (first | refine gG aDF ?_ | refine gA ?_ | refine gB ?_)
  refine iW hr (λhc hr=> ?_) λhc hr=> ?_
  ·refine gr ?_
   refine S.prune [9] ?_
   refine S.gx [1,2,7,10] ?_
   exact D0 hr
  obtain ⟨aIW,hr⟩:=aP hr
  obtain ⟨aIV,hr⟩:=aP hr
  refine gr ?_
  refine S.prune [1,2,3,10] ?_
  refine S.gw [1,2,5,10] ?_
  refine iW hr (λhc hr=> ?_) λhc hr=> ?_
  ·obtain ⟨awu,hr⟩:=aP hr
   obtain ⟨awt,hr⟩:=aP hr
   obtain ⟨aIY,hr⟩:=aP hr
   obtain ⟨aIX,hr⟩:=aP hr
   repeat (first | refine gA ?_ | refine gB ?_)
   refine S.prune [10] ?_
   refine S.gx [1,2,5,7] ?_
   exact D0 hr
  refine gr ?_
  refine S.prune [10] ?_
  refine S.gx [1,2,5,7] ?_
  exact D0 hr
 refine gr ?_
 have hr:=bT hr
 refine S1.gw [1] ?_
 refine S.gx [1,2,5,7,10] ?_
 obtain ⟨v46,aDr,hr⟩:=aB hr
 obtain ⟨aDE,hr⟩:=aP hr
 obtain ⟨v47,aDq,hr⟩:=aB hr
 obtain ⟨v48,aDp,hr⟩:=aB hr
 obtain ⟨v49,aDo,hr⟩:=aB hr
 try simp only [aDr,aDq,aDp,aDo,Option.getD_some,Option.isSome_some,true_and,and_assoc]
 repeat (first | refine gG aDE ?_ | refine gA ?_ | refine gB ?_)
 refine iW hr (λhc hr=> ?_) λhc hr=> ?_
 ·refine gr ?_
  refine S.prune [9] ?_
  refine S.gx [1,2,7,10] ?_
  exact D0 hr
 obtain ⟨aIP,hr⟩:=aP hr
 obtain ⟨aIO,hr⟩:=aP hr
 refine gr ?_
 refine S.prune [1,2,3,10] ?_
 refine S.gw [1,2,5,10] ?_
 refine iW hr (λhc hr=> ?_) λhc hr=> ?_
 ·obtain ⟨aIT,hr⟩:=aP hr
  obtain ⟨aIS,hr⟩:=aP hr
  obtain ⟨aIR,hr⟩:=aP hr
  obtain ⟨aIQ,hr⟩:=aP hr
  repeat (first | refine gA ?_ | refine gB ?_)
  refine S.prune [10] ?_
  refine S.gx [1,2,5,7] ?_
  exact D0 hr
 refine gr ?_
 refine S.prune [10] ?_
 refine S.gx [1,2,5,7] ?_
 exact D0 hr
def agx (a0:Int):Option (Bool):=
 (jS a0 0 2000).bind λv1=>
  some (!v1)
@[go_sem] def ayJ:=OC qV false agx
@[go_sem] def aqv (k:Nat):=lk [(142,aaJ.sp)] k
theorem f141:aF prog 141 ayJ.sp:=by
 refine vm (tb:=aqv) (.cons f142 .nil) func141 ntmps141 λa0 r hr stop S=> ?_
 rw [sQ,agx] at hr
 refine S.gx [] ?_
 exact D0 hr
def xk (a0:aV):Bd Int Int:=λs1=>
 if (decide (s1<(a0.length:Int)))=true then
  if 0<=s1/\s1<(a0.length:Int) then
   aW (agx (a0.getD s1.toNat default)) λv1=>
    if v1=true then
     .out (some s1)
     else .next (IntKind.i64.wrap (s1+1))
   else .out none
  else .out (some (-1))
def Xr (a0:aV):Option (Int):=
 aK (xk a0) 1000000000 0
@[go_sem] def ajs:=akK mY false Xr
@[go_sem] def ajU (k:Nat):=lk [(141,ayJ.sp)] k
theorem awL:aF prog 197 ajs.sp:=by
 refine vm (tb:=ajU) (.cons f141 .nil) func197 ntmps197 λa0 r hr stop S=> ?_
 rw [sQ,Xr] at hr
 refine S.gx [] ?_
 refine gr ?_
 refine S.li [0,1,7,8] [] [] (λs1=>⟨[(0,.c (.d (aj 1 dh a0))),(1,.c (.clo 141 [])),sI 7 (a0.length:Int),sI 8 s1],[],[]⟩) (xk a0) (λq=>q=r) hr rfl ?_
 intro s1 hr
 unfold xk at hr
 refine S.gx [] ?_
 exact D1 (S.ss [0,1,7,8] [] []) hr
def F7 (a0:aV):Option (Bool):=
 (Xr a0).bind λv1=>
  some (decide (v1>=0))
@[go_sem] def ajv:=akK qV false F7
@[go_sem] def ajX (k:Nat):=lk [(197,ajs.sp)] k
theorem awO:aF prog 140 ajv.sp:=by
 refine vm (tb:=ajX) (.cons awL .nil) func140 ntmps140 λa0 r hr stop S=> ?_
 rw [sQ,F7] at hr
 refine S.gx [] ?_
 exact D0 hr
def ab3 (a0 a1:Int):Option (Bool):=
 (MI a0).bind λv1=>
  if v1=true->(MI a1).isSome=true then
   some ((v1 && (!((MI a1).getD default))) || (decide (a0<a1)))
   else none
@[go_sem] def ayn:=qT7 qV false ab3
@[go_sem] def ap9 (k:Nat):=lk [(254,amx.sp)] k
theorem f198:aF prog 198 ayn.sp:=by
 refine vm (tb:=ap9) (.cons f254 .nil) func198 ntmps198 λ⟨a0,a1⟩ r hr stop S=> ?_
 rw [DV,ab3] at hr
 refine S.gx [] ?_
 obtain ⟨v1,hv1,hr⟩:=aB hr
 obtain ⟨hg2,hr⟩:=aP hr
 try simp only [hv1,oG,oI,true_and,and_assoc]
 repeat (first | refine gG hg2 ?_ | refine gA ?_ | refine gB ?_)
 exact D0 hr
def wo (a0:aV):Bd Int Bool:=λs1=>
 if (decide (s1>0))=true then
  if 0<=s1/\s1<(a0.length:Int) then
   if 0<=IntKind.i64.wrap (s1 - 1)/\IntKind.i64.wrap (s1 - 1)<(a0.length:Int) then
    aW (ab3 (a0.getD s1.toNat default) (a0.getD (IntKind.i64.wrap (s1 - 1)).toNat default)) λv1=>
     if v1=true then
      .out (some false)
      else .next (IntKind.i64.wrap (s1 - 1))
    else .out none
   else .out none
  else .out (some true)
def Ub (a0:aV):Option (Bool):=
 aK (wo a0) 1000000000 (IntKind.i64.wrap ((a0.length:Int) - 1))
@[go_sem] def ayI:=qT3 qV false Ub
@[go_sem] def aqu (k:Nat):=lk [(198,ayn.sp)] k
theorem f144:aF prog 144 ayI.sp:=by
 refine vm (tb:=aqu) (.cons f198 .nil) func144 ntmps144 λa0 r hr stop S=> ?_
 rw [sQ,Ub] at hr
 refine S.gx [] ?_
 refine gr ?_
 refine S.li [0,3] [] [] (λs1=>⟨[(0,.c (.d (aj 1 dh a0))),sI 3 s1],[],[]⟩) (wo a0) (λq=>q=r) hr rfl ?_
 intro s1 hr
 unfold wo at hr
 refine S.gx [] ?_
 exact D1 (S.ss [0,3] [] []) hr
def Yg (x0 x1 x2 x3:Int) (v1:bP×bP×bP×bP):Bd ((Option (Int×aA×Int))×Int) (Int×Int):=λs4=>
 if (decide (s4.2<(v1.2.2.2.length:Int)))=true then
  if 0<=s4.2/\s4.2<(v1.2.2.2.length:Int) then
   aW (MO ((v1.2.2.2.getD s4.2.toNat default).1) ((v1.2.2.2.getD s4.2.toNat default).2.1) ((v1.2.2.2.getD s4.2.toNat default).2.2) s4.1 0) λv11=>
    if (v11 != 0)=true then
     .out (some (s4.2,v11))
     else if 0<=s4.2/\s4.2<(v1.2.2.2.length:Int) then
      .next (some ((v1.2.2.2.getD s4.2.toNat default).1,(v1.2.2.2.getD s4.2.toNat default).2.1,(v1.2.2.2.getD s4.2.toNat default).2.2),IntKind.i64.wrap (s4.2+1))
      else .out none
   else .out none
  else .out (if (decide ((v1.1.length:Int)>0))=true then
   if (decide ((v1.2.1.length:Int)>0))=true->0<=IntKind.i64.wrap ((v1.2.1.length:Int) - 1)/\IntKind.i64.wrap ((v1.2.1.length:Int) - 1)<(v1.2.1.length:Int) then
    if (decide ((v1.2.1.length:Int)>0))=true->0<=0/\0<(v1.1.length:Int) then
     if ((decide ((v1.2.1.length:Int)>0)) && (decide (((v1.2.1.getD (IntKind.i64.wrap ((v1.2.1.length:Int) - 1)).toNat default).1)>=((v1.1.getD 0 default).1))))=true then
      some (0,13)
      else if (decide ((v1.2.2.1.length:Int)>0))=true->0<=IntKind.i64.wrap ((v1.2.2.1.length:Int) - 1)/\IntKind.i64.wrap ((v1.2.2.1.length:Int) - 1)<(v1.2.2.1.length:Int) then
       if (decide ((v1.2.2.1.length:Int)>0))=true->0<=0/\0<(v1.1.length:Int) then
        if ((decide ((v1.2.2.1.length:Int)>0)) && (decide (((v1.2.2.1.getD (IntKind.i64.wrap ((v1.2.2.1.length:Int) - 1)).toNat default).1)>=((v1.1.getD 0 default).1))))=true then
         some (0,13)
         else if (decide ((v1.2.2.2.length:Int)>0))=true->0<=IntKind.i64.wrap ((v1.2.2.2.length:Int) - 1)/\IntKind.i64.wrap ((v1.2.2.2.length:Int) - 1)<(v1.2.2.2.length:Int) then
          if (decide ((v1.2.2.2.length:Int)>0))=true->0<=0/\0<(v1.1.length:Int) then
           if ((decide ((v1.2.2.2.length:Int)>0)) && (decide (((v1.2.2.2.getD (IntKind.i64.wrap ((v1.2.2.2.length:Int) - 1)).toNat default).1)>=((v1.1.getD 0 default).1))))=true then
            some (0,13)
            else (F7 [x0,x1,x2,x3]).bind λv14=>
             (gW (!v14) 2).bind λv15=>
              (Ub [x0,x1,x2,x3]).bind λv16=>
               (gW v16 9).bind λv17=>
                (oL [v15,v17]).bind λv18=>
                 some (0,v18)
           else none
          else none
        else none
       else none
     else none
    else none
   else (F7 [x0,x1,x2,x3]).bind λv25=>
    (gW (!v25) 2).bind λv26=>
     (Ub [x0,x1,x2,x3]).bind λv27=>
      (gW v27 9).bind λv28=>
       (oL [v26,v28]).bind λv29=>
        some (0,v29))
def Yh (x0 x1 x2 x3:Int) (v1:bP×bP×bP×bP):Bd ((Option (Int×aA×Int))×Int) (Int×Int):=λs3=>
 if (decide (s3.2<(v1.2.2.1.length:Int)))=true then
  if 0<=s3.2/\s3.2<(v1.2.2.1.length:Int) then
   aW (MO ((v1.2.2.1.getD s3.2.toNat default).1) ((v1.2.2.1.getD s3.2.toNat default).2.1) ((v1.2.2.1.getD s3.2.toNat default).2.2) s3.1 (-1)) λv8=>
    if (v8 != 0)=true then
     .out (some (s3.2,v8))
     else if 0<=s3.2/\s3.2<(v1.2.2.1.length:Int) then
      .next (some ((v1.2.2.1.getD s3.2.toNat default).1,(v1.2.2.1.getD s3.2.toNat default).2.1,(v1.2.2.1.getD s3.2.toNat default).2.2),IntKind.i64.wrap (s3.2+1))
      else .out none
   else .out none
  else .out (aK (Yg x0 x1 x2 x3 v1) 1000000000 (none,0))
def Yi (x0 x1 x2 x3:Int) (v1:bP×bP×bP×bP):Bd ((Option (Int×aA×Int))×Int) (Int×Int):=λs2=>
 if (decide (s2.2<(v1.2.1.length:Int)))=true then
  if 0<=s2.2/\s2.2<(v1.2.1.length:Int) then
   aW (MO ((v1.2.1.getD s2.2.toNat default).1) ((v1.2.1.getD s2.2.toNat default).2.1) ((v1.2.1.getD s2.2.toNat default).2.2) s2.1 0) λv5=>
    if (v5 != 0)=true then
     .out (some (s2.2,v5))
     else if 0<=s2.2/\s2.2<(v1.2.1.length:Int) then
      .next (some ((v1.2.1.getD s2.2.toNat default).1,(v1.2.1.getD s2.2.toNat default).2.1,(v1.2.1.getD s2.2.toNat default).2.2),IntKind.i64.wrap (s2.2+1))
      else .out none
   else .out none
  else .out (aK (Yh x0 x1 x2 x3 v1) 1000000000 (none,0))
def Yj (x0 x1 x2 x3:Int) (v1:bP×bP×bP×bP):Bd ((Option (Int×aA×Int))×Int) (Int×Int):=λs1=>
 if (decide (s1.2<(v1.1.length:Int)))=true then
  if 0<=s1.2/\s1.2<(v1.1.length:Int) then
   aW (MO ((v1.1.getD s1.2.toNat default).1) ((v1.1.getD s1.2.toNat default).2.1) ((v1.1.getD s1.2.toNat default).2.2) s1.1 1) λv2=>
    if (v2 != 0)=true then
     .out (some (s1.2,v2))
     else if 0<=s1.2/\s1.2<(v1.1.length:Int) then
      .next (some ((v1.1.getD s1.2.toNat default).1,(v1.1.getD s1.2.toNat default).2.1,(v1.1.getD s1.2.toNat default).2.2),IntKind.i64.wrap (s1.2+1))
      else .out none
   else .out none
  else .out (aK (Yi x0 x1 x2 x3 v1) 1000000000 (none,0))
def r80 (x4:aT) (x5:aG) (x6:aJ) (x7:aA) (x0 x1 x2 x3:Int):Option (Int×Int):=
 (acj x4 x5 x6 x7 x0 x1 x2 x3).bind λv1=>
  if (decide ((v1.1.length:Int)>8))=true then
   some (0,8)
   else if (decide ((v1.2.1.length:Int)>8))=true then
    some (0,8)
    else if (decide ((v1.2.2.1.length:Int)>8))=true then
     some (0,8)
     else if (decide ((v1.2.2.2.length:Int)>8))=true then
      some (0,8)
      else aK (Yj x0 x1 x2 x3 v1) 1000000000 (none,0)
@[go_sem] def T80:=PK JM false r80
@[go_sem] def aB2 (k:Nat):=lk [(104,aaK.sp),(138,ayM.sp),(139,ayL.sp),(140,ajv.sp),(143,RJ.sp),(144,ayI.sp)] k
theorem f80:aF prog 80 T80.sp:=by
 refine vm (tb:=aB2) (.cons f104 (.cons f138 (.cons f139 (.cons awO (.cons f143 (.cons f144 .nil)))))) func80 ntmps80 λ⟨x4,x5,x6,x7,x0,x1,x2,x3⟩ r hr stop S=> ?_
 rw [uq8,r80] at hr
 refine S.gx [26,27] ?_
 obtain ⟨v1,hv1,hr⟩:=aB hr
 refine gb hv1 ?_
 refine S.lp ?_
 refine S.gw [26,27] ?_
 refine iW hr (λhc hr=>D0 hr) λhc hr=> ?_
 refine gr ?_
 refine S.lp ?_
 refine S.gw [26,27] ?_
 refine iW hr (λhc hr=>D0 hr) λhc hr=> ?_
 refine gr ?_
 refine S.lp ?_
 refine S.gw [26,27] ?_
 refine iW hr (λhc hr=>D0 hr) λhc hr=> ?_
 refine gr ?_
 refine S.lp ?_
 refine S.gw [26,27] ?_
 refine iW hr (λhc hr=>D0 hr) λhc hr=> ?_
 refine gr ?_
 refine S.lp ?_
 refine S.gw [26,27] ?_
 refine S.lp ?_
 refine S.gw [26,27] ?_
 refine S.share 16 rfl ?_
 refine S.li [1,4,7,8,9,25,26,31,32] [(1,1),(4,4)] [(16,16),(10016,10016),(20016,20016),(30016,30016)] (λs1=>⟨[sR 1 1,sR 4 4,sI 7 0,sO 8 16,(9,.c (.d (yM bM s1.1))),(25,.agg [.own 16,.own 10016,.own 20016,.own 30016]),sI 26 0,sI 31 (v1.1.length:Int),sI 32 s1.2],[(1,[.d (aj 4 bV x4),.d (aj 5 bI x5),.d (aj 3 bU x6),.d (aj 2 aQ x7),iC x0,iC x1,iC x2,iC x3]),(4,[.own 16,.own 10016,.own 20016,.own 30016])],[(16,.shared (aj 3 bM v1.1)),(10016,.owned (aj 3 bM v1.2.1)),(20016,.owned (aj 3 bM v1.2.2.1)),(30016,.owned (aj 3 bM v1.2.2.2))]⟩) (Yj x0 x1 x2 x3 v1) (λq=>q=r) hr rfl ?_
 intro s1 hr
 unfold Yj at hr
 refine S.gw [26,27] ?_
 refine gJ hr (λhc hr=>D1 (S.ss [1,4,7,8,9,25,26,31,32] [(1,1),(4,4)] [(16,16),(10016,10016),(20016,20016),(30016,30016)]) hr) λhc hr=> ?_
 refine gr ?_
 have hr:=bT hr
 refine gr ?_
 refine S.lp ?_
 refine S.gw [26,27] ?_
 refine S.share 10016 rfl ?_
 refine S.li [1,4,7,8,9,25,26,31,32] [(1,1),(4,4)] [(10016,10016),(16,16),(20016,20016),(30016,30016)] (λs2=>⟨[sR 1 1,sR 4 4,sI 7 1,sO 8 10016,(9,.c (.d (yM bM s2.1))),(25,.agg [.own 16,.own 10016,.own 20016,.own 30016]),sI 26 1,sI 31 (v1.2.1.length:Int),sI 32 s2.2],[(1,[.d (aj 4 bV x4),.d (aj 5 bI x5),.d (aj 3 bU x6),.d (aj 2 aQ x7),iC x0,iC x1,iC x2,iC x3]),(4,[.own 16,.own 10016,.own 20016,.own 30016])],[(10016,.shared (aj 3 bM v1.2.1)),(16,.shared (aj 3 bM v1.1)),(20016,.owned (aj 3 bM v1.2.2.1)),(30016,.owned (aj 3 bM v1.2.2.2))]⟩) (Yi x0 x1 x2 x3 v1) (λq=>q=r) hr rfl ?_
 intro s2 hr
 unfold Yi at hr
 refine S.gw [26,27] ?_
 refine gJ hr (λhc hr=>D1 (S.ss [1,4,7,8,9,25,26,31,32] [(1,1),(4,4)] [(10016,10016),(16,16),(20016,20016),(30016,30016)]) hr) λhc hr=> ?_
 refine gr ?_
 have hr:=bT hr
 refine gr ?_
 refine S.lp ?_
 refine S.gw [26,27] ?_
 refine S.share 20016 rfl ?_
 refine S.li [1,4,7,8,9,25,26,31,32] [(1,1),(4,4)] [(20016,20016),(16,16),(10016,10016),(30016,30016)] (λs3=>⟨[sR 1 1,sR 4 4,sI 7 2,sO 8 20016,(9,.c (.d (yM bM s3.1))),(25,.agg [.own 16,.own 10016,.own 20016,.own 30016]),sI 26 2,sI 31 (v1.2.2.1.length:Int),sI 32 s3.2],[(1,[.d (aj 4 bV x4),.d (aj 5 bI x5),.d (aj 3 bU x6),.d (aj 2 aQ x7),iC x0,iC x1,iC x2,iC x3]),(4,[.own 16,.own 10016,.own 20016,.own 30016])],[(20016,.shared (aj 3 bM v1.2.2.1)),(16,.shared (aj 3 bM v1.1)),(10016,.shared (aj 3 bM v1.2.1)),(30016,.owned (aj 3 bM v1.2.2.2))]⟩) (Yh x0 x1 x2 x3 v1) (λq=>q=r) hr rfl ?_
 intro s3 hr
 unfold Yh at hr
 refine S.gw [26,27] ?_
 refine gJ hr (λhc hr=>D1 (S.ss [1,4,7,8,9,25,26,31,32] [(1,1),(4,4)] [(20016,20016),(16,16),(10016,10016),(30016,30016)]) hr) λhc hr=> ?_
 refine gr ?_
 have hr:=bT hr
 refine gr ?_
 refine S.lp ?_
 refine S.gw [26,27] ?_
 refine S.share 30016 rfl ?_
 refine S.li [1,4,7,8,9,25,26,31,32] [(1,1),(4,4)] [(30016,30016),(16,16),(10016,10016),(20016,20016)] (λs4=>⟨[sR 1 1,sR 4 4,sI 7 3,sO 8 30016,(9,.c (.d (yM bM s4.1))),(25,.agg [.own 16,.own 10016,.own 20016,.own 30016]),sI 26 3,sI 31 (v1.2.2.2.length:Int),sI 32 s4.2],[(1,[.d (aj 4 bV x4),.d (aj 5 bI x5),.d (aj 3 bU x6),.d (aj 2 aQ x7),iC x0,iC x1,iC x2,iC x3]),(4,[.own 16,.own 10016,.own 20016,.own 30016])],[(30016,.shared (aj 3 bM v1.2.2.2)),(16,.shared (aj 3 bM v1.1)),(10016,.shared (aj 3 bM v1.2.1)),(20016,.shared (aj 3 bM v1.2.2.1))]⟩) (Yg x0 x1 x2 x3 v1) (λq=>q=r) hr rfl ?_
 intro s4 hr
 unfold Yg at hr
 refine S.gw [26,27] ?_
 refine gJ hr (λhc hr=>D1 (S.ss [1,4,7,8,9,25,26,31,32] [(1,1),(4,4)] [(30016,30016),(16,16),(10016,10016),(20016,20016)]) hr) λhc hr=> ?_
 refine gr ?_
 have hr:=bT hr
 refine gr ?_
 refine S.lp ?_
 refine S.gw [26,27] ?_
 refine iW hr (λhc hr=> ?_) λhc hr=>D0 hr
 refine gr ?_
 refine S.lp ?_
 refine S.gx [26,27] ?_
 obtain ⟨ahe,hr⟩:=aP hr
 obtain ⟨ahd,hr⟩:=aP hr
 repeat (first | refine gG ahe ?_ | refine gG ahd ?_ | refine gA ?_ | refine gB ?_)
 refine iW hr (λhc hr=> ?_) λhc hr=> ?_
 ·refine gr ?_
  refine S.prune [] ?_
  refine S.gx [27] ?_
  exact D0 hr
 refine gr ?_
 refine S.prune [1,4,57,58,59] ?_
 refine S.gw [26] ?_
 refine S.lp ?_
 refine S.gx [26,27] ?_
 obtain ⟨awx,hr⟩:=aP hr
 obtain ⟨ZL,hr⟩:=aP hr
 repeat (first | refine gG awx ?_ | refine gG ZL ?_ | refine gA ?_ | refine gB ?_)
 refine iW hr (λhc hr=> ?_) λhc hr=> ?_
 ·refine gr ?_
  refine S.prune [] ?_
  refine S.gx [27] ?_
  exact D0 hr
 refine gr ?_
 refine S.prune [1,4,57,58,59] ?_
 refine S.gw [26] ?_
 refine S.lp ?_
 refine S.gx [26,27] ?_
 obtain ⟨awz,hr⟩:=aP hr
 obtain ⟨awy,hr⟩:=aP hr
 repeat (first | refine gG awz ?_ | refine gG awy ?_ | refine gA ?_ | refine gB ?_)
 refine iW hr (λhc hr=> ?_) λhc hr=> ?_
 ·refine gr ?_
  refine S.prune [] ?_
  refine S.gx [27] ?_
  exact D0 hr
 refine gr ?_
 refine S.prune [1,4,57,58,59] ?_
 refine S.gw [26] ?_
 refine S.lp ?_
 refine S.gx [26,27] ?_
 exact D0 hr
end Go.Proofs.YtnepigpnlnmlmaaGreatDoor

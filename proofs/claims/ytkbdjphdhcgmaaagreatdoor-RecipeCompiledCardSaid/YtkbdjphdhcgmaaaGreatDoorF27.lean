/- Contracts of functions, written by wip/dec. -/
import Derived.Test.YtkbdjphdhcgmaaaGreatDoorF00
import Derived.Test.YtkbdjphdhcgmaaaGreatDoorF12
set_option linter.unusedVariables false
set_option linter.unusedSimpArgs false
set_option linter.constructorNameAsVariable false
set_option maxHeartbeats 4000000
set_option maxRecDepth 20000
namespace Go.Proofs.YtkbdjphdhcgmaaaGreatDoor
open Go.dR
def Aj (x1 x2:Int) (x3:au) (x4:aj) (x5 x6:bn) (x7:au) (x0 x8:Int) (v1:aK) (s2:(List (Int×Int))×bn×Int):Bd (bn×Int×(List (Int×Int))) (cO ((List (Int×Int))×bn×Int) (au×Int)):=fun s3=>
 if (((v1.getD s2.2.2.toNat default).1) == 3)=true then
  if 0<=0/\0<(s3.1.length:Int) then
   aP (r54 x1 x2 x3 x4 (s3.1.getD 0 default) ((v1.getD s2.2.2.toNat default).2.2.2.2.1)) fun v7=>
    if (((v1.getD s2.2.2.toNat default).1) == 4)=true then
     if 0<=0/\0<(s3.1.length:Int) then
      aP (r55 x1 x2 x3 x4 (s3.1.getD 0 default) ((v1.getD s2.2.2.toNat default).2.2.2.2.1)) fun v8=>
       if (!v8)=true then
        .out (some (.next (s3.2.2,s3.1,IntKind.i64.wrap (s2.2.2+1))))
        else if (s3.2.1 == ((v1.getD s2.2.2.toNat default).2.2.2.1))=true then
         .out (some (.out (some ([],24))))
         else if ((s3.2.2.length:Int) == 200)=true then
          .out (some (.out (some ([],8))))
          else aP (XA x1 x2 x3 x4 x5 x6 x7 x0 x8 s3.1 ((v1.getD s2.2.2.toNat default).2.1) ((v1.getD s2.2.2.toNat default).2.2.1)) fun v9=>
           if (!v9.2)=true then
            .out (some (.out (some ([],22))))
            else if (s3.2.2.length+1)*16<=140737488355328/\s3.2.2.length+1<=9223372036854775807 then
             .next (v9.1,IntKind.i64.wrap (s3.2.1+1),s3.2.2++[((v1.getD s2.2.2.toNat default).2.1,(v1.getD s2.2.2.toNat default).2.2.1)])
             else .out none
      else .out none
     else if v7=true then
      .out (some (.next (s3.2.2,s3.1,IntKind.i64.wrap (s2.2.2+1))))
      else if (s3.2.1 == ((v1.getD s2.2.2.toNat default).2.2.2.1))=true then
       .out (some (.out (some ([],24))))
       else if ((s3.2.2.length:Int) == 200)=true then
        .out (some (.out (some ([],8))))
        else aP (XA x1 x2 x3 x4 x5 x6 x7 x0 x8 s3.1 ((v1.getD s2.2.2.toNat default).2.1) ((v1.getD s2.2.2.toNat default).2.2.1)) fun v12=>
         if (!v12.2)=true then
          .out (some (.out (some ([],22))))
          else if (s3.2.2.length+1)*16<=140737488355328/\s3.2.2.length+1<=9223372036854775807 then
           .next (v12.1,IntKind.i64.wrap (s3.2.1+1),s3.2.2++[((v1.getD s2.2.2.toNat default).2.1,(v1.getD s2.2.2.toNat default).2.2.1)])
           else .out none
   else .out none
  else if (((v1.getD s2.2.2.toNat default).1) == 4)=true then
   if 0<=0/\0<(s3.1.length:Int) then
    aP (r55 x1 x2 x3 x4 (s3.1.getD 0 default) ((v1.getD s2.2.2.toNat default).2.2.2.2.1)) fun v15=>
     if (!v15)=true then
      .out (some (.next (s3.2.2,s3.1,IntKind.i64.wrap (s2.2.2+1))))
      else if (s3.2.1 == ((v1.getD s2.2.2.toNat default).2.2.2.1))=true then
       .out (some (.out (some ([],24))))
       else if ((s3.2.2.length:Int) == 200)=true then
        .out (some (.out (some ([],8))))
        else aP (XA x1 x2 x3 x4 x5 x6 x7 x0 x8 s3.1 ((v1.getD s2.2.2.toNat default).2.1) ((v1.getD s2.2.2.toNat default).2.2.1)) fun v16=>
         if (!v16.2)=true then
          .out (some (.out (some ([],22))))
          else if (s3.2.2.length+1)*16<=140737488355328/\s3.2.2.length+1<=9223372036854775807 then
           .next (v16.1,IntKind.i64.wrap (s3.2.1+1),s3.2.2++[((v1.getD s2.2.2.toNat default).2.1,(v1.getD s2.2.2.toNat default).2.2.1)])
           else .out none
    else .out none
   else if (s3.2.1 == ((v1.getD s2.2.2.toNat default).2.2.2.1))=true then
    .out (some (.next (s3.2.2,s3.1,IntKind.i64.wrap (s2.2.2+1))))
    else if (s3.2.1 == ((v1.getD s2.2.2.toNat default).2.2.2.1))=true then
     .out (some (.out (some ([],24))))
     else if ((s3.2.2.length:Int) == 200)=true then
      .out (some (.out (some ([],8))))
      else aP (XA x1 x2 x3 x4 x5 x6 x7 x0 x8 s3.1 ((v1.getD s2.2.2.toNat default).2.1) ((v1.getD s2.2.2.toNat default).2.2.1)) fun v19=>
       if (!v19.2)=true then
        .out (some (.out (some ([],22))))
        else if (s3.2.2.length+1)*16<=140737488355328/\s3.2.2.length+1<=9223372036854775807 then
         .next (v19.1,IntKind.i64.wrap (s3.2.1+1),s3.2.2++[((v1.getD s2.2.2.toNat default).2.1,(v1.getD s2.2.2.toNat default).2.2.1)])
         else .out none
def Ai (x1 x2:Int) (x3:au) (x4:aj) (x5 x6:bn) (x7:au) (x0 x8:Int) (v1:aK) (s2:(List (Int×Int))×bn×Int):Bd (bn×Int×(List (Int×Int))) (cO ((List (Int×Int))×bn×Int) (au×Int)):=fun s4=>
 if (((v1.getD s2.2.2.toNat default).1) == 3)=true then
  if 0<=0/\0<(s4.1.length:Int) then
   aP (r54 x1 x2 x3 x4 (s4.1.getD 0 default) ((v1.getD s2.2.2.toNat default).2.2.2.2.1)) fun v21=>
    if (((v1.getD s2.2.2.toNat default).1) == 4)=true then
     if 0<=0/\0<(s4.1.length:Int) then
      aP (r55 x1 x2 x3 x4 (s4.1.getD 0 default) ((v1.getD s2.2.2.toNat default).2.2.2.2.1)) fun v22=>
       if (!v22)=true then
        .out (some (.next (s4.2.2,s4.1,IntKind.i64.wrap (s2.2.2+1))))
        else if (s4.2.1 == ((v1.getD s2.2.2.toNat default).2.2.2.1))=true then
         .out (some (.out (some ([],24))))
         else if ((s4.2.2.length:Int) == 200)=true then
          .out (some (.out (some ([],8))))
          else aP (XA x1 x2 x3 x4 x5 x6 x7 x0 x8 s4.1 ((v1.getD s2.2.2.toNat default).2.1) x0) fun v23=>
           if (!v23.2)=true then
            .out (some (.out (some ([],22))))
            else if (s4.2.2.length+1)*16<=140737488355328/\s4.2.2.length+1<=9223372036854775807 then
             .next (v23.1,IntKind.i64.wrap (s4.2.1+1),s4.2.2++[((v1.getD s2.2.2.toNat default).2.1,x0)])
             else .out none
      else .out none
     else if v21=true then
      .out (some (.next (s4.2.2,s4.1,IntKind.i64.wrap (s2.2.2+1))))
      else if (s4.2.1 == ((v1.getD s2.2.2.toNat default).2.2.2.1))=true then
       .out (some (.out (some ([],24))))
       else if ((s4.2.2.length:Int) == 200)=true then
        .out (some (.out (some ([],8))))
        else aP (XA x1 x2 x3 x4 x5 x6 x7 x0 x8 s4.1 ((v1.getD s2.2.2.toNat default).2.1) x0) fun v26=>
         if (!v26.2)=true then
          .out (some (.out (some ([],22))))
          else if (s4.2.2.length+1)*16<=140737488355328/\s4.2.2.length+1<=9223372036854775807 then
           .next (v26.1,IntKind.i64.wrap (s4.2.1+1),s4.2.2++[((v1.getD s2.2.2.toNat default).2.1,x0)])
           else .out none
   else .out none
  else if (((v1.getD s2.2.2.toNat default).1) == 4)=true then
   if 0<=0/\0<(s4.1.length:Int) then
    aP (r55 x1 x2 x3 x4 (s4.1.getD 0 default) ((v1.getD s2.2.2.toNat default).2.2.2.2.1)) fun v29=>
     if (!v29)=true then
      .out (some (.next (s4.2.2,s4.1,IntKind.i64.wrap (s2.2.2+1))))
      else if (s4.2.1 == ((v1.getD s2.2.2.toNat default).2.2.2.1))=true then
       .out (some (.out (some ([],24))))
       else if ((s4.2.2.length:Int) == 200)=true then
        .out (some (.out (some ([],8))))
        else aP (XA x1 x2 x3 x4 x5 x6 x7 x0 x8 s4.1 ((v1.getD s2.2.2.toNat default).2.1) x0) fun v30=>
         if (!v30.2)=true then
          .out (some (.out (some ([],22))))
          else if (s4.2.2.length+1)*16<=140737488355328/\s4.2.2.length+1<=9223372036854775807 then
           .next (v30.1,IntKind.i64.wrap (s4.2.1+1),s4.2.2++[((v1.getD s2.2.2.toNat default).2.1,x0)])
           else .out none
    else .out none
   else if (s4.2.1 == ((v1.getD s2.2.2.toNat default).2.2.2.1))=true then
    .out (some (.next (s4.2.2,s4.1,IntKind.i64.wrap (s2.2.2+1))))
    else if (s4.2.1 == ((v1.getD s2.2.2.toNat default).2.2.2.1))=true then
     .out (some (.out (some ([],24))))
     else if ((s4.2.2.length:Int) == 200)=true then
      .out (some (.out (some ([],8))))
      else aP (XA x1 x2 x3 x4 x5 x6 x7 x0 x8 s4.1 ((v1.getD s2.2.2.toNat default).2.1) x0) fun v33=>
       if (!v33.2)=true then
        .out (some (.out (some ([],22))))
        else if (s4.2.2.length+1)*16<=140737488355328/\s4.2.2.length+1<=9223372036854775807 then
         .next (v33.1,IntKind.i64.wrap (s4.2.1+1),s4.2.2++[((v1.getD s2.2.2.toNat default).2.1,x0)])
         else .out none
def Io (x1 x2:Int) (x3:au) (x4:aj) (x5 x6:bn) (x7:au) (x0 x8:Int) (v1:aK):Bd ((List (Int×Int))×bn×Int) (au×Int):=fun s2=>
 if (decide (s2.2.2<(v1.length:Int)))=true then
  if 0<=s2.2.2/\s2.2.2<(v1.length:Int) then
   aP (r44 ((v1.getD s2.2.2.toNat default).1) ((v1.getD s2.2.2.toNat default).2.1) ((v1.getD s2.2.2.toNat default).2.2.1) ((v1.getD s2.2.2.toNat default).2.2.2.1) ((v1.getD s2.2.2.toNat default).2.2.2.2.1) ((v1.getD s2.2.2.toNat default).2.2.2.2.2)) fun v6=>
    if v6=true then
     (aS (Aj x1 x2 x3 x4 x5 x6 x7 x0 x8 v1 s2) 1000000000 (s2.2.1,0,s2.1)).getD (.out none)
     else (aS (Ai x1 x2 x3 x4 x5 x6 x7 x0 x8 v1 s2) 1000000000 (s2.2.1,0,s2.1)).getD (.out none)
   else .out none
  else .out (some (s2.1,0))
def Ip (x1 x2:Int) (x3:au) (x4:aj) (x5 x6:bn) (x7:au) (x0 x8:Int) (v1:aK):Bd Int (au×Int):=fun s1=>
 if (decide (s1<(v1.length:Int)))=true then
  if 0<=s1/\s1<(v1.length:Int) then
   aP (r44 ((v1.getD s1.toNat default).1) ((v1.getD s1.toNat default).2.1) ((v1.getD s1.toNat default).2.2.1) ((v1.getD s1.toNat default).2.2.2.1) ((v1.getD s1.toNat default).2.2.2.2.1) ((v1.getD s1.toNat default).2.2.2.2.2)) fun v2=>
    if v2=true->0<=s1/\s1<(v1.length:Int) then
     if v2=true->(r53 x1 x2 x3 x4 x5 x6 x7 x0 x8 ((v1.getD s1.toNat default).2.2.1)).isSome=true then
      if (v2 && (!((r53 x1 x2 x3 x4 x5 x6 x7 x0 x8 ((v1.getD s1.toNat default).2.2.1)).getD default)))=true then
       .out (some ([],6))
       else .next (IntKind.i64.wrap (s1+1))
      else .out none
     else .out none
   else .out none
  else .out (aS (Io x1 x2 x3 x4 x5 x6 x7 x0 x8 v1) 1000000000 ([],x5,0))
def r19 (x1 x2:Int) (x3:au) (x4:aj) (x5 x6:bn) (x7:au) (x0 x8:Int) (a1:aK):Option (au×Int):=
 (r13 7 a1).bind fun v1=>
  aS (Ip x1 x2 x3 x4 x5 x6 x7 x0 x8 v1) 1000000000 0
@[go_sem] def T19:=ae9 aan false r19
@[go_sem] def aAc (k:Nat):=lk [(13,(T13 7).sp),(44,T44.sp),(53,T53.sp),(54,T54.sp),(55,T55.sp),(56,T56.sp)] k
theorem f19:aF Tryz.prog 19 T19.sp:=by
 refine vm (tb:=aAc) (.cons (f13 7) (.cons f44 (.cons f53 (.cons f54 (.cons f55 (.cons f56 .nil)))))) Tryz.func19 Tryz.ntmps19 fun ⟨x1,x2,x3,x4,x5,x6,x7,x0,x8,a1⟩ r hr stop S=> ?_
 rw [KY,r19] at hr
 refine S.gx [11,25,26] ?_
 obtain ⟨v1,hv1,hr⟩:=aA hr
 refine gb hv1 ?_
 refine S.sees [2,6,7] [(2,2)] [(18,18)] ?_ (Stop.iter S (fun s1=>⟨[(2,.c (.ref 2 0)),(6,.c (.own 18)),(7,.c (.d (.int .i64 s1)))],[(2,[.d (.int .i64 x1),.d (.int .i64 x2),.d (ah 2 aT x3),.d (ah 1 aQ x4),.d (ah 1 cu x5),.d (ah 1 cu x6),.d (ah 2 aT x7),.d (.int .i64 x0),.d (.int .i64 x8)])],[(18,.owned (ah 6 aZ v1))]⟩) (Ip x1 x2 x3 x4 x5 x6 x7 x0 x8 v1) (fun q=>q=r) hr rfl ?_)
 ·exact lf
 ·intro s1 hr
  unfold Ip at hr
  refine S.gx [11,25,26] ?_
  refine gr ?_
  refine cZ hr (fun hc hr=> ?_) fun hc hr=> ?_
  ·obtain ⟨hg3,hr⟩:=aB hr
   obtain ⟨v2,hv2,hr⟩:=aI hr
   obtain ⟨hg4,hr⟩:=aB hr
   obtain ⟨hg5,hr⟩:=aB hr
   try simp only [hv2,oG,oI,true_and,and_assoc]
   repeat (first | refine gG hg4 ?_ | refine gG hg5 ?_ | refine gA ?_ | refine gB ?_)
   exact D1 (S.ss [2,6,7] [(2,2)] [(18,18)]) hr
  ·refine gr ?_
   have hr:=bK hr
   refine gr ?_
   refine S.Dp 8 1000800 2 rfl rfl ?_
   refine S.sees [2,6,8,9,10] [(2,2)] [(1000800,1000800),(18,18)] ?_ (Stop.iter S (fun s2=>⟨[(2,.c (.ref 2 0)),(6,.c (.own 18)),(8,.c (.own 1000800)),(9,.c (.d (ah 1 cu s2.2.1))),(10,.c (.d (.int .i64 s2.2.2)))],[(2,[.d (.int .i64 x1),.d (.int .i64 x2),.d (ah 2 aT x3),.d (ah 1 aQ x4),.d (ah 1 cu x5),.d (ah 1 cu x6),.d (ah 2 aT x7),.d (.int .i64 x0),.d (.int .i64 x8)])],[(1000800,.owned (ah 2 aT s2.1)),(18,.owned (ah 6 aZ v1))]⟩) (Io x1 x2 x3 x4 x5 x6 x7 x0 x8 v1) (fun q=>q=r) hr rfl ?_)
   ·exact lf
   ·intro s2 hr
    unfold Io at hr
    refine S.gx [11,25,26] ?_
    refine gr ?_
    refine cZ hr (fun hc hr=> ?_) fun hc hr=>D0 hr
    obtain ⟨akf,hr⟩:=aB hr
    obtain ⟨v6,hv6,hr⟩:=aI hr
    refine gb hv6 ?_
    refine cZ hr (fun hc hr=> ?_) fun hc hr=> ?_
    ·refine gr ?_
     obtain ⟨q3,hq,hr⟩:=gV hr
     refine S.sees [2,6,8,9,10,11,12,13] [(2,2),(11,11),(12,12)] [(18,18),(1000800,1000800)] ?_ (Stop.iter S (fun s3=>⟨[(2,.c (.ref 2 0)),(6,.c (.own 18)),(8,.c (.own 1000800)),(9,.c (.d (ah 1 cu s3.1))),(10,.c (.d (.int .i64 s2.2.2))),(11,.c (.ref 11 0)),(12,.c (.ref 12 0)),(13,.c (.d (.int .i64 s3.2.1)))],[(2,[.d (.int .i64 x1),.d (.int .i64 x2),.d (ah 2 aT x3),.d (ah 1 aQ x4),.d (ah 1 cu x5),.d (ah 1 cu x6),.d (ah 2 aT x7),.d (.int .i64 x0),.d (.int .i64 x8)]),(11,[.d (.int .i64 ((v1.getD s2.2.2.toNat default).1)),.d (.int .i64 ((v1.getD s2.2.2.toNat default).2.1)),.d (.int .i64 ((v1.getD s2.2.2.toNat default).2.2.1)),.d (.int .i64 ((v1.getD s2.2.2.toNat default).2.2.2.1)),.d (.int .i64 ((v1.getD s2.2.2.toNat default).2.2.2.2.1)),.d (hE ((v1.getD s2.2.2.toNat default).2.2.2.2.2))]),(12,[.d (.int .i64 ((v1.getD s2.2.2.toNat default).2.1)),.d (.int .i64 ((v1.getD s2.2.2.toNat default).2.2.1))])],[(18,.owned (ah 6 aZ v1)),(1000800,.owned (ah 2 aT s3.2.2))]⟩) (Aj x1 x2 x3 x4 x5 x6 x7 x0 x8 v1 s2) _ hq hr ?_)
     ·exact lf
     ·intro s3 hr
      unfold Aj at hr
      refine S.gx [11,25,26] ?_
      refine gr ?_
      refine cZ hr (fun hc hr=> ?_) fun hc hr=> ?_
      ·obtain ⟨X9,hr⟩:=aB hr
       obtain ⟨v7,hv7,hr⟩:=aI hr
       refine gb hv7 ?_
       refine cZ hr (fun hc hr=> ?_) fun hc hr=> ?_
       ·obtain ⟨y7,hr⟩:=aB hr
        obtain ⟨v8,JC,hr⟩:=aI hr
        refine gb JC ?_
        refine cZ hr (fun hc hr=> ?_) fun hc hr=> ?_
        ·refine gr ?_
         replace hr:=aU hr
         refine gr ?_
         refine S.prune [2,6,8,9,10] ?_
         refine S.gx [25,26] ?_
         exact D1 (S.ss [2,6,8,9,10] [(2,2)] [(1000800,1000800),(18,18)]) hr
        ·refine gr ?_
         refine cZ hr (fun hc hr=> ?_) fun hc hr=> ?_
         ·refine gr ?_
          refine S.prune [] ?_
          refine S.gx [11,26] ?_
          refine gr ?_
          refine gr ?_
          replace hr:=aU hr
          exact D0 hr
         ·refine gr ?_
          refine S.prune [2,6,8,9,10,11,12,13] ?_
          refine S.gx [11,25] ?_
          refine gr ?_
          refine gr ?_
          refine cZ hr (fun hc hr=> ?_) fun hc hr=> ?_
          ·refine gr ?_
           replace hr:=aU hr
           exact D0 hr
          ·obtain ⟨v9,hv9,hr⟩:=aI hr
           refine gb hv9 ?_
           refine cZ hr (fun hc hr=> ?_) fun hc hr=> ?_
           ·refine gr ?_
            replace hr:=aU hr
            exact D0 hr
           ·obtain ⟨uX,hr⟩:=aB hr
            refine gr ?_
            refine S.share 104 rfl ?_
            exact D1 (S.ss [2,6,8,9,10,11,12,13] [(2,2),(11,11),(12,12)] [(18,18),(112,1000800)]) hr
       ·refine gr ?_
        refine cZ hr (fun hc hr=> ?_) fun hc hr=> ?_
        ·refine gr ?_
         replace hr:=aU hr
         refine gr ?_
         refine S.prune [2,6,8,9,10] ?_
         refine S.gx [25,26] ?_
         exact D1 (S.ss [2,6,8,9,10] [(2,2)] [(1000800,1000800),(18,18)]) hr
        ·refine gr ?_
         refine cZ hr (fun hc hr=> ?_) fun hc hr=> ?_
         ·refine gr ?_
          refine S.prune [] ?_
          refine S.gx [11,26] ?_
          refine gr ?_
          refine gr ?_
          replace hr:=aU hr
          exact D0 hr
         ·refine gr ?_
          refine S.prune [2,6,8,9,10,11,12,13] ?_
          refine S.gx [11,25] ?_
          refine gr ?_
          refine gr ?_
          refine cZ hr (fun hc hr=> ?_) fun hc hr=> ?_
          ·refine gr ?_
           replace hr:=aU hr
           exact D0 hr
          ·obtain ⟨v12,JF,hr⟩:=aI hr
           refine gb JF ?_
           refine cZ hr (fun hc hr=> ?_) fun hc hr=> ?_
           ·refine gr ?_
            replace hr:=aU hr
            exact D0 hr
           ·obtain ⟨JH,hr⟩:=aB hr
            refine gr ?_
            refine S.share 104 rfl ?_
            exact D1 (S.ss [2,6,8,9,10,11,12,13] [(2,2),(11,11),(12,12)] [(18,18),(112,1000800)]) hr
      ·refine gr ?_
       refine cZ hr (fun hc hr=> ?_) fun hc hr=> ?_
       ·obtain ⟨aus,hr⟩:=aB hr
        obtain ⟨v15,abf,hr⟩:=aI hr
        refine gb abf ?_
        refine cZ hr (fun hc hr=> ?_) fun hc hr=> ?_
        ·refine gr ?_
         replace hr:=aU hr
         refine gr ?_
         refine S.prune [2,6,8,9,10] ?_
         refine S.gx [25,26] ?_
         exact D1 (S.ss [2,6,8,9,10] [(2,2)] [(1000800,1000800),(18,18)]) hr
        ·refine gr ?_
         refine cZ hr (fun hc hr=> ?_) fun hc hr=> ?_
         ·refine gr ?_
          refine S.prune [] ?_
          refine S.gx [11,26] ?_
          refine gr ?_
          refine gr ?_
          replace hr:=aU hr
          exact D0 hr
         ·refine gr ?_
          refine S.prune [2,6,8,9,10,11,12,13] ?_
          refine S.gx [11,25] ?_
          refine gr ?_
          refine gr ?_
          refine cZ hr (fun hc hr=> ?_) fun hc hr=> ?_
          ·refine gr ?_
           replace hr:=aU hr
           exact D0 hr
          ·obtain ⟨v16,QA,hr⟩:=aI hr
           refine gb QA ?_
           refine cZ hr (fun hc hr=> ?_) fun hc hr=> ?_
           ·refine gr ?_
            replace hr:=aU hr
            exact D0 hr
           ·obtain ⟨aut,hr⟩:=aB hr
            refine gr ?_
            refine S.share 104 rfl ?_
            exact D1 (S.ss [2,6,8,9,10,11,12,13] [(2,2),(11,11),(12,12)] [(18,18),(112,1000800)]) hr
       ·refine gr ?_
        refine cZ hr (fun hc hr=> ?_) fun hc hr=> ?_
        ·refine gr ?_
         replace hr:=aU hr
         refine gr ?_
         refine S.prune [2,6,8,9,10] ?_
         refine S.gx [25,26] ?_
         exact D1 (S.ss [2,6,8,9,10] [(2,2)] [(1000800,1000800),(18,18)]) hr
        ·refine gr ?_
         refine cZ hr (fun hc hr=> ?_) fun hc hr=> ?_
         ·refine gr ?_
          refine S.prune [] ?_
          refine S.gx [11,26] ?_
          refine gr ?_
          refine gr ?_
          replace hr:=aU hr
          exact D0 hr
         ·refine gr ?_
          refine S.prune [2,6,8,9,10,11,12,13] ?_
          refine S.gx [11,25] ?_
          refine gr ?_
          refine gr ?_
          refine cZ hr (fun hc hr=> ?_) fun hc hr=> ?_
          ·refine gr ?_
           replace hr:=aU hr
           exact D0 hr
          ·obtain ⟨v19,JE,hr⟩:=aI hr
           refine gb JE ?_
           refine cZ hr (fun hc hr=> ?_) fun hc hr=> ?_
           ·refine gr ?_
            replace hr:=aU hr
            exact D0 hr
           ·obtain ⟨akh,hr⟩:=aB hr
            refine gr ?_
            refine S.share 104 rfl ?_
            exact D1 (S.ss [2,6,8,9,10,11,12,13] [(2,2),(11,11),(12,12)] [(18,18),(112,1000800)]) hr
    ·refine gr ?_
     obtain ⟨q4,hq,hr⟩:=gV hr
     refine S.sees [2,6,8,9,10,11,12,13] [(2,2),(11,11),(12,12)] [(18,18),(1000800,1000800)] ?_ (Stop.iter S (fun s4=>⟨[(2,.c (.ref 2 0)),(6,.c (.own 18)),(8,.c (.own 1000800)),(9,.c (.d (ah 1 cu s4.1))),(10,.c (.d (.int .i64 s2.2.2))),(11,.c (.ref 11 0)),(12,.c (.ref 12 0)),(13,.c (.d (.int .i64 s4.2.1)))],[(2,[.d (.int .i64 x1),.d (.int .i64 x2),.d (ah 2 aT x3),.d (ah 1 aQ x4),.d (ah 1 cu x5),.d (ah 1 cu x6),.d (ah 2 aT x7),.d (.int .i64 x0),.d (.int .i64 x8)]),(11,[.d (.int .i64 ((v1.getD s2.2.2.toNat default).1)),.d (.int .i64 ((v1.getD s2.2.2.toNat default).2.1)),.d (.int .i64 ((v1.getD s2.2.2.toNat default).2.2.1)),.d (.int .i64 ((v1.getD s2.2.2.toNat default).2.2.2.1)),.d (.int .i64 ((v1.getD s2.2.2.toNat default).2.2.2.2.1)),.d (hE ((v1.getD s2.2.2.toNat default).2.2.2.2.2))]),(12,[.d (.int .i64 ((v1.getD s2.2.2.toNat default).2.1)),.d (.int .i64 x0)])],[(18,.owned (ah 6 aZ v1)),(1000800,.owned (ah 2 aT s4.2.2))]⟩) (Ai x1 x2 x3 x4 x5 x6 x7 x0 x8 v1 s2) _ hq hr ?_)
     ·exact lf
     ·intro s4 hr
      unfold Ai at hr
      refine S.gx [11,25,26] ?_
      refine gr ?_
      refine cZ hr (fun hc hr=> ?_) fun hc hr=> ?_
      ·obtain ⟨auo,hr⟩:=aB hr
       obtain ⟨v21,Qx,hr⟩:=aI hr
       refine gb Qx ?_
       refine cZ hr (fun hc hr=> ?_) fun hc hr=> ?_
       ·obtain ⟨auq,hr⟩:=aB hr
        obtain ⟨v22,Qw,hr⟩:=aI hr
        refine gb Qw ?_
        refine cZ hr (fun hc hr=> ?_) fun hc hr=> ?_
        ·refine gr ?_
         replace hr:=aU hr
         refine gr ?_
         refine S.prune [2,6,8,9,10] ?_
         refine S.gx [25,26] ?_
         exact D1 (S.ss [2,6,8,9,10] [(2,2)] [(1000800,1000800),(18,18)]) hr
        ·refine gr ?_
         refine cZ hr (fun hc hr=> ?_) fun hc hr=> ?_
         ·refine gr ?_
          refine S.prune [] ?_
          refine S.gx [11,26] ?_
          refine gr ?_
          refine gr ?_
          replace hr:=aU hr
          exact D0 hr
         ·refine gr ?_
          refine S.prune [2,6,8,9,10,11,12,13] ?_
          refine S.gx [11,25] ?_
          refine gr ?_
          refine gr ?_
          refine cZ hr (fun hc hr=> ?_) fun hc hr=> ?_
          ·refine gr ?_
           replace hr:=aU hr
           exact D0 hr
          ·obtain ⟨v23,abe,hr⟩:=aI hr
           refine gb abe ?_
           refine cZ hr (fun hc hr=> ?_) fun hc hr=> ?_
           ·refine gr ?_
            replace hr:=aU hr
            exact D0 hr
           ·obtain ⟨abn,hr⟩:=aB hr
            refine gr ?_
            refine S.share 104 rfl ?_
            exact D1 (S.ss [2,6,8,9,10,11,12,13] [(2,2),(11,11),(12,12)] [(18,18),(112,1000800)]) hr
       ·refine gr ?_
        refine cZ hr (fun hc hr=> ?_) fun hc hr=> ?_
        ·refine gr ?_
         replace hr:=aU hr
         refine gr ?_
         refine S.prune [2,6,8,9,10] ?_
         refine S.gx [25,26] ?_
         exact D1 (S.ss [2,6,8,9,10] [(2,2)] [(1000800,1000800),(18,18)]) hr
        ·refine gr ?_
         refine cZ hr (fun hc hr=> ?_) fun hc hr=> ?_
         ·refine gr ?_
          refine S.prune [] ?_
          refine S.gx [11,26] ?_
          refine gr ?_
          refine gr ?_
          replace hr:=aU hr
          exact D0 hr
         ·refine gr ?_
          refine S.prune [2,6,8,9,10,11,12,13] ?_
          refine S.gx [11,25] ?_
          refine gr ?_
          refine gr ?_
          refine cZ hr (fun hc hr=> ?_) fun hc hr=> ?_
          ·refine gr ?_
           replace hr:=aU hr
           exact D0 hr
          ·obtain ⟨v26,Qv,hr⟩:=aI hr
           refine gb Qv ?_
           refine cZ hr (fun hc hr=> ?_) fun hc hr=> ?_
           ·refine gr ?_
            replace hr:=aU hr
            exact D0 hr
           ·obtain ⟨aup,hr⟩:=aB hr
            refine gr ?_
            refine S.share 104 rfl ?_
            exact D1 (S.ss [2,6,8,9,10,11,12,13] [(2,2),(11,11),(12,12)] [(18,18),(112,1000800)]) hr
      ·refine gr ?_
       refine cZ hr (fun hc hr=> ?_) fun hc hr=> ?_
       ·obtain ⟨aum,hr⟩:=aB hr
        obtain ⟨v29,hv29,hr⟩:=aI hr
        refine gb hv29 ?_
        refine cZ hr (fun hc hr=> ?_) fun hc hr=> ?_
        ·refine gr ?_
         replace hr:=aU hr
         refine gr ?_
         refine S.prune [2,6,8,9,10] ?_
         refine S.gx [25,26] ?_
         exact D1 (S.ss [2,6,8,9,10] [(2,2)] [(1000800,1000800),(18,18)]) hr
        ·refine gr ?_
         refine cZ hr (fun hc hr=> ?_) fun hc hr=> ?_
         ·refine gr ?_
          refine S.prune [] ?_
          refine S.gx [11,26] ?_
          refine gr ?_
          refine gr ?_
          replace hr:=aU hr
          exact D0 hr
         ·refine gr ?_
          refine S.prune [2,6,8,9,10,11,12,13] ?_
          refine S.gx [11,25] ?_
          refine gr ?_
          refine gr ?_
          refine cZ hr (fun hc hr=> ?_) fun hc hr=> ?_
          ·refine gr ?_
           replace hr:=aU hr
           exact D0 hr
          ·obtain ⟨v30,ajY,hr⟩:=aI hr
           refine gb ajY ?_
           refine cZ hr (fun hc hr=> ?_) fun hc hr=> ?_
           ·refine gr ?_
            replace hr:=aU hr
            exact D0 hr
           ·obtain ⟨aBF,hr⟩:=aB hr
            refine gr ?_
            refine S.share 104 rfl ?_
            exact D1 (S.ss [2,6,8,9,10,11,12,13] [(2,2),(11,11),(12,12)] [(18,18),(112,1000800)]) hr
       ·refine gr ?_
        refine cZ hr (fun hc hr=> ?_) fun hc hr=> ?_
        ·refine gr ?_
         replace hr:=aU hr
         refine gr ?_
         refine S.prune [2,6,8,9,10] ?_
         refine S.gx [25,26] ?_
         exact D1 (S.ss [2,6,8,9,10] [(2,2)] [(1000800,1000800),(18,18)]) hr
        ·refine gr ?_
         refine cZ hr (fun hc hr=> ?_) fun hc hr=> ?_
         ·refine gr ?_
          refine S.prune [] ?_
          refine S.gx [11,26] ?_
          refine gr ?_
          refine gr ?_
          replace hr:=aU hr
          exact D0 hr
         ·refine gr ?_
          refine S.prune [2,6,8,9,10,11,12,13] ?_
          refine S.gx [11,25] ?_
          refine gr ?_
          refine gr ?_
          refine cZ hr (fun hc hr=> ?_) fun hc hr=> ?_
          ·refine gr ?_
           replace hr:=aU hr
           exact D0 hr
          ·obtain ⟨v33,Qu,hr⟩:=aI hr
           refine gb Qu ?_
           refine cZ hr (fun hc hr=> ?_) fun hc hr=> ?_
           ·refine gr ?_
            replace hr:=aU hr
            exact D0 hr
           ·obtain ⟨aul,hr⟩:=aB hr
            refine gr ?_
            refine S.share 104 rfl ?_
            exact D1 (S.ss [2,6,8,9,10,11,12,13] [(2,2),(11,11),(12,12)] [(18,18),(112,1000800)]) hr
end Go.Proofs.YtkbdjphdhcgmaaaGreatDoor

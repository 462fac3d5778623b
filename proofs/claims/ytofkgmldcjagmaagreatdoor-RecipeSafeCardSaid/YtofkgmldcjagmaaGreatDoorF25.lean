/- Contracts of functions, written by wip/dec. -/
import Derived.Test.YtofkgmldcjagmaaGreatDoorF00
import Derived.Test.YtofkgmldcjagmaaGreatDoorF02
import Derived.Test.YtofkgmldcjagmaaGreatDoorF03
import Derived.Test.YtofkgmldcjagmaaGreatDoorF04
import Derived.Test.YtofkgmldcjagmaaGreatDoorF12
set_option linter.unusedVariables false
set_option linter.unusedSimpArgs false
set_option linter.constructorNameAsVariable false
set_option maxHeartbeats 4000000
set_option maxRecDepth 20000
namespace Go.Proofs.YtofkgmldcjagmaaGreatDoor
open Go.dG
section
variable {β:Type} [Inhabited β] (u:β→List RV) (al:Bool)
def aoa (a0:au) (a1 a2 a3:Int):List Arg:=[.c (ah 2 aO a0),.agg [.int .i64 a1,.int .i64 a2,.int .i64 a3]]
def apQ:List Arg→au×Int×Int×Int
 | [.c c0,.agg [c1,c2,c3]]=>(aG bW c0,aB c1,aB c2,aB c3)
 | _=>default
def aq5 (r:au→Int→Int→Int→Option β):=mkT (u4 aoa) apQ (u4 r) u al
attribute [go_sem] aoa apQ aq5
def apn (v:au×Bool×Int):List RV:=[.c (.own (ah 2 aO v.1)),.c (.d (.bool v.2.1)),.c (.d (.int .i64 v.2.2))]
attribute [go_sem] apn
end
def r13 (a0:au) (x2 x0 x1:Int):Option (Int):=
 (r16 x2 0 (a0.length:Int)).bind fun v1=>
  if (!(!v1))=true→(Y8 x0).isSome=true then
   if (!((!v1) || (!((Y8 x0).getD default))))=true→(r16 x1 0 200).isSome=true then
    if (((!v1) || (!((Y8 x0).getD default))) || (!((r16 x1 0 200).getD default)))=true then
     some 2
     else some 0
    else none
   else none
@[go_sem] def T13:=aq5 lK false r13
@[go_sem] def ay3 (k:Nat):=lk [(16,T16.sp),(48,T48.sp)] k
theorem f13:aF Tryz.prog 13 T13.sp:=by
 refine vm (tb:=ay3) (.cons f16 (.cons f48 .nil)) Tryz.func13 Tryz.ntmps13 fun ⟨a0,x2,x0,x1⟩ r hr stop S=> ?_
 rw [uq4,r13] at hr
 refine S.gx [] ?_
 obtain ⟨v1,hv1,hr⟩:=aA hr
 obtain ⟨hg2,hr⟩:=aH hr
 obtain ⟨hg3,hr⟩:=aH hr
 try simp only [hv1,oG,oI,true_and,and_assoc]
 repeat (first | refine gG hg2 ?_ | refine gG hg3 ?_ | refine gA ?_ | refine gB ?_)
 exact D0 hr
def NP (a1:au) (x0 x2 x1:Int) (v1:Int×Int×au×aj×aZ×aZ×au×Int×Int×Int) (s2:aZ×(List (Int×Int))):Bd Int (gK (aZ×(List (Int×Int))) (au×Bool×Int)):=fun s3=>
 if (decide (s3<(s2.1.length:Int)))=true then
  if 0≤s3∧s3<(s2.1.length:Int) then
   aP (r78 v1.1 v1.2.1 v1.2.2.1 v1.2.2.2.1 v1.2.2.2.2.1 v1.2.2.2.2.2.1 v1.2.2.2.2.2.2.1 v1.2.2.2.2.2.2.2.1 v1.2.2.2.2.2.2.2.2.1 (s2.1.getD s3.toNat default) x2) fun v9=>
    if (decide (v9>0))=true then
     .out (some (if (decide (s3≥0))=true then
      if ((s2.2.length:Int) == (IntKind.i64.wrap (x0+x1)))=true then
       .out (some ([],false,24))
       else aP (r43 v1.1 v1.2.1 v1.2.2.1 v1.2.2.2.1 v1.2.2.2.2.1 v1.2.2.2.2.2.1 v1.2.2.2.2.2.2.1 v1.2.2.2.2.2.2.2.1 v1.2.2.2.2.2.2.2.2.1) fun v10=>
        if ((s2.2.length:Int) == (IntKind.i64.wrap (x0+x1)))=true then
         .out (some ([],false,8))
         else aP (JO v1.1 v1.2.1 v1.2.2.1 v1.2.2.2.1 v1.2.2.2.2.1 v1.2.2.2.2.2.1 v1.2.2.2.2.2.2.1 v1.2.2.2.2.2.2.2.1 v1.2.2.2.2.2.2.2.2.1 0 v10 75) fun v11=>
          aP (U5 v1.1 v1.2.1 v1.2.2.1 v1.2.2.2.1 s2.1 v11.1 v11.2) fun v12=>
           if (v12.2 != 0)=true then
            if (v12.2 != 0)=true then
             .out (some ([],false,v12.2))
             else .next (s2.1,s2.2)
            else if (s2.2.length+1)*16≤140737488355328∧s2.2.length+1≤9223372036854775807 then
             .next (v12.1,s2.2++[(0,v10)])
             else .out none
      else .out (some (s2.2,decide (x0<(a1.length:Int)),0))))
     else .next (IntKind.i64.wrap (s3+1))
   else .out none
  else .out (some (.out (some (s2.2,decide (x0<(a1.length:Int)),0))))
def NQ (a1:au) (x0 x2 x1:Int) (v1:Int×Int×au×aj×aZ×aZ×au×Int×Int×Int):Bd (aZ×(List (Int×Int))) (au×Bool×Int):=fun s2=>
 (aS (NP a1 x0 x2 x1 v1 s2) 1000000000 0).getD (.out none)
def Yf (a1:au) (x0 x2 x1:Int) (v1:Int×Int×au×aj×aZ×aZ×au×Int×Int×Int):Bd (Int×aZ×(List (Int×Int))) (au×Bool×Int):=fun s1=>
 if (decide (s1.1<(x0.toNat:Int)))=true then
  if 0≤s1.1∧s1.1<((a1.take x0.toNat).length:Int) then
   if ((s1.2.2.length:Int) == (IntKind.i64.wrap (x0+x1)))=true then
    .out (some ([],false,8))
    else aP (JO v1.1 v1.2.1 v1.2.2.1 v1.2.2.2.1 v1.2.2.2.2.1 v1.2.2.2.2.2.1 v1.2.2.2.2.2.2.1 v1.2.2.2.2.2.2.2.1 v1.2.2.2.2.2.2.2.2.1 (((a1.take x0.toNat).getD s1.1.toNat default).1) (((a1.take x0.toNat).getD s1.1.toNat default).2) 75) fun v5=>
     aP (U5 v1.1 v1.2.1 v1.2.2.1 v1.2.2.2.1 s1.2.1 v5.1 v5.2) fun v6=>
      if (v6.2 != 0)=true then
       if (v6.2 != 0)=true then
        .out (some ([],false,v6.2))
        else .next (IntKind.i64.wrap (s1.1+1),s1.2.1,s1.2.2)
       else if (s1.2.2.length+1)*16≤140737488355328∧s1.2.2.length+1≤9223372036854775807 then
        .next (IntKind.i64.wrap (s1.1+1),v6.1,s1.2.2++[(((a1.take x0.toNat).getD s1.1.toNat default).1,((a1.take x0.toNat).getD s1.1.toNat default).2)])
        else .out none
   else .out none
  else .out (aS (NQ a1 x0 x2 x1 v1) 1000000000 (s1.2.1,s1.2.2))
def r8 (x3 x4:Int) (x5:au) (x6:aj) (x7 x8:aZ) (x9:au) (x10 x11:Int) (a1:au) (x0 x2 x1:Int):Option (au×Bool×Int):=
 (r36 x3 x4 x5 x6 x7 x8 x9 x10 x11 a1).bind fun v1=>
  (yJ x0 0 (a1.length:Int)).bind fun v2=>
   if v2=true→(yJ x2 200 3000).isSome=true then
    if (v2 && ((yJ x2 200 3000).getD default))=true→(yJ x1 0 200).isSome=true then
     (lJ ((v2 && ((yJ x2 200 3000).getD default)) && ((yJ x1 0 200).getD default)) 2).bind fun v3=>
      (vP [v1.2.2.2.2.2.2.2.2.2,v3]).bind fun v4=>
       if (v4 != 0)=true then
        some ([],false,v4)
        else if 0≤0∧0≤x0∧x0≤(a1.length:Int) then
         aS (Yf a1 x0 x2 x1 v1) 1000000000 (0,v1.2.2.2.2.1,[])
         else none
     else none
    else none
@[go_sem] def T8:=ah9 apn false r8
@[go_sem] def tb8 (k:Nat):=lk [(36,T36.sp),(37,T37.sp),(38,T38.sp),(39,T39.sp),(43,T43.sp),(73,T73.sp),(74,T74.sp),(78,T78.sp)] k
theorem vF:fC Tryz.prog tb8:= .cons f36 (.cons f37 (.cons f38 (.cons f39 (.cons f43 (.cons f73 (.cons f74 (.cons f78 .nil)))))))
theorem f8:aF Tryz.prog 8 T8.sp:=by
 refine vm (tb:=tb8) (.cons f36 (.cons f37 (.cons f38 (.cons f39 (.cons f43 (.cons f73 (.cons f74 (.cons f78 .nil)))))))) Tryz.func8 Tryz.ntmps8 fun ⟨x3,x4,x5,x6,x7,x8,x9,x10,x11,a1,x0,x2,x1⟩ r hr stop S=> ?_
 rw [ahh,r8] at hr
 refine S.gx [6,11,15,18,4] ?_
 obtain ⟨v1,hv1,hr⟩:=aA hr
 obtain ⟨v2,hv2,hr⟩:=aA hr
 obtain ⟨aeX,hr⟩:=aH hr
 obtain ⟨aeW,hr⟩:=aH hr
 obtain ⟨v3,hv3,hr⟩:=aA hr
 obtain ⟨v4,hv4,hr⟩:=aA hr
 try simp only [hv1,hv2,hv3,hv4,Option.getD_some,Option.isSome_some,true_and,and_assoc]
 repeat (first | refine gG aeX ?_ | refine gG aeW ?_ | refine gA ?_ | refine gB ?_)
 refine S.prune [1,5,9,10] ?_
 refine S.gx [6,11,15,18] ?_
 refine gr ?_
 refine gr ?_
 refine iW hr (fun hc hr=>D0 hr) fun hc hr=> ?_
 refine gr ?_
 refine S.inl 1 [1,5,9] [] Tryz.func40 (by decide) rfl Tryz.ntmps40 (fun cx e=>aT bT vF cx e) (some 48) rfl rfl rfl rfl (nL rfl) (nL rfl) ?_
 refine gs ?_
 refine gr ?_
 intro stop1 S1
 refine S1.gx [] ?_
 refine gr ?_
 refine gr ?_
 refine S.gx [6,11,15,18,4] ?_
 obtain ⟨PU,hr⟩:=aH hr
 have aFC:Nonempty (PLift (x0.toNat≤a1.length)):=⟨⟨by omega⟩⟩
 try simp only [Qz]
 try simp only [GI,Nz,qV,Eb,D9,VG,qU,yA,agQ,Jp,GH,agO,Ec,Ea,zl,Ai,Jo,Gz,wo,yx,vY,yj,vZ,yw,abv,agP,VF,Option.getD_some,Option.isSome_some,true_and,and_assoc]
 refine gr ?_
 refine S.pW 100009 10 12000910 2 rfl rfl (nL rfl) rfl ?_
 refine S.sees [1,5,9,12,13,57,58,59] [(5,5),(9,9),(100009,100009)] [(12000910,12000910)] ?_ (Stop.iter S (fun s1=>⟨[(1,.c (.d (ah 2 aO a1))),(5,.c (.ref 5 0)),(9,.c (.ref 9 0)),(12,.c (.ref 100009 0)),(13,.c (.d (.int .i64 (IntKind.i64.wrap (x0+x1))))),(57,.c (.d (ah 2 aO (a1.take x0.toNat)))),(58,.c (.d (.int .i64 (x0.toNat:Int)))),(59,.c (.d (.int .i64 s1.1)))],[(5,[.d (.int .i64 x0),.d (.int .i64 x2),.d (.int .i64 x1)]),(9,[.d (.int .i64 v1.1),.d (.int .i64 v1.2.1),.d (ah 2 aO v1.2.2.1),.d (ah 1 aN v1.2.2.2.1),.d (ah 1 cO v1.2.2.2.2.1),.d (ah 1 cO v1.2.2.2.2.2.1),.d (ah 2 aO v1.2.2.2.2.2.2.1),.d (.int .i64 v1.2.2.2.2.2.2.2.1),.d (.int .i64 v1.2.2.2.2.2.2.2.2.1)]),(100009,[.d (.int .i64 v1.1),.d (.int .i64 v1.2.1),.d (ah 2 aO v1.2.2.1),.d (ah 1 aN v1.2.2.2.1),.d (ah 1 cO v1.2.2.2.2.1),.d (ah 1 cO v1.2.2.2.2.2.1),.d (ah 2 aO v1.2.2.2.2.2.2.1),.d (.int .i64 v1.2.2.2.2.2.2.2.1),.d (.int .i64 v1.2.2.2.2.2.2.2.2.1),.d (ah 1 cO s1.2.1),.own 12000910])],[(12000910,.owned (ah 2 aO s1.2.2))]⟩) (Yf a1 x0 x2 x1 v1) (fun q=>q=r) hr rfl ?_)
 ·exact lf
 ·intro s1 hr
  unfold Yf at hr
  refine S.gx [6,11,15,18,4] ?_
  refine gr ?_
  refine dM hr (fun hc hr=> ?_) fun hc hr=> ?_
  ·obtain ⟨Vt,hr⟩:=aC hr
   refine gr ?_
   refine S.inl 3 [1,5,9,12,13,57,58,59] [] Tryz.func41 (by decide) rfl Tryz.ntmps41 (fun cx e=>aT bT vF cx e) (some 66) rfl rfl rfl rfl (nL rfl) (nL rfl) ?_
   refine gs ?_
   refine gr ?_
   intro stop1 S1
   refine S1.gx [4] ?_
   refine gr ?_
   refine dM hr (fun hc hr=> ?_) fun hc hr=> ?_
   ·refine gr ?_
    refine gr ?_
    refine S.gx [6,11,15,18,4] ?_
    exact D0 hr
   ·obtain ⟨v5,hv5,hr⟩:=aQ hr
    obtain ⟨v6,hv6,hr⟩:=aQ hr
    refine gb hv5 ?_
    refine gb hv6 ?_
    refine S1.prune [0,4,7,8] ?_
    refine S1.gx [] ?_
    refine gr ?_
    refine gr ?_
    refine dM hr (fun hc hr=> ?_) fun hc hr=> ?_
    ·refine gr ?_
     refine gr ?_
     refine S.gx [6,11,15,18,4] ?_
     exact D1 (S.ss [1,5,9,12,13,57,58,59] [(5,5),(9,9),(100009,100009)] [(12000910,12000910)]) hr
    ·obtain ⟨hg7,hr⟩:=aC hr
     refine gr ?_
     refine gr ?_
     refine S.gx [6,11,15,18,4] ?_
     refine gr ?_
     refine S.share 33 rfl ?_
     exact D1 (S.ss [1,5,9,12,13,57,58,59] [(5,5),(9,9),(100009,100009)] [(48,12000910)]) hr
  ·refine gr ?_
   have hr:=bK hr
   refine gr ?_
   refine S.sees [1,5,9,12,13] [(5,5),(9,9),(100009,100009)] [(12000910,12000910)] ?_ (Stop.iter S (fun s2=>⟨[(1,.c (.d (ah 2 aO a1))),(5,.c (.ref 5 0)),(9,.c (.ref 9 0)),(12,.c (.ref 100009 0)),(13,.c (.d (.int .i64 (IntKind.i64.wrap (x0+x1)))))],[(5,[.d (.int .i64 x0),.d (.int .i64 x2),.d (.int .i64 x1)]),(9,[.d (.int .i64 v1.1),.d (.int .i64 v1.2.1),.d (ah 2 aO v1.2.2.1),.d (ah 1 aN v1.2.2.2.1),.d (ah 1 cO v1.2.2.2.2.1),.d (ah 1 cO v1.2.2.2.2.2.1),.d (ah 2 aO v1.2.2.2.2.2.2.1),.d (.int .i64 v1.2.2.2.2.2.2.2.1),.d (.int .i64 v1.2.2.2.2.2.2.2.2.1)]),(100009,[.d (.int .i64 v1.1),.d (.int .i64 v1.2.1),.d (ah 2 aO v1.2.2.1),.d (ah 1 aN v1.2.2.2.1),.d (ah 1 cO v1.2.2.2.2.1),.d (ah 1 cO v1.2.2.2.2.2.1),.d (ah 2 aO v1.2.2.2.2.2.2.1),.d (.int .i64 v1.2.2.2.2.2.2.2.1),.d (.int .i64 v1.2.2.2.2.2.2.2.2.1),.d (ah 1 cO s2.1),.own 12000910])],[(12000910,.owned (ah 2 aO s2.2))]⟩) (NQ a1 x0 x2 x1 v1) (fun q=>q=r) hr rfl ?_)
   ·exact lf
   ·intro s2 hr
    unfold NQ at hr
    refine S.gx [6,11,15,18,4] ?_
    refine gr ?_
    refine S.inl 3 [1,5,9,12,13] [] Tryz.func42 (by decide) rfl Tryz.ntmps42 (fun cx e=>aT bT vF cx e) (some 74) rfl rfl rfl rfl (nL rfl) (nL rfl) ?_
    refine gs ?_
    refine gr ?_
    intro stop1 S1
    refine S1.gx [1] ?_
    refine gr ?_
    refine S1.inl 5 [4] [] Tryz.func76 (by decide) rfl Tryz.ntmps76 (fun cx e=>aT bT vF cx e) (some 10) rfl rfl rfl rfl (nL rfl) (nL rfl) ?_
    refine gs ?_
    refine gr ?_
    intro stop2 S2
    refine S2.gx [1] ?_
    refine gr ?_
    refine S2.inl 2 [4] [] Tryz.func109 (by decide) rfl Tryz.ntmps109 (fun cx e=>aT bT vF cx e) (some 7) rfl rfl rfl rfl (nL rfl) (nL rfl) ?_
    refine gs ?_
    refine gr ?_
    intro zQ S3
    refine S3.gx [4] ?_
    refine gr ?_
    obtain ⟨q3,hq,hr⟩:=iQ hr
    refine S3.sees [0,1,7,8] [(2,2),(3,3),(5,5),(9,9),(100009,100009)] [(12000910,12000910)] ?_ (Stop.iter S3 (fun s3=>⟨[(0,.c (.d (ah 1 cO s2.1))),(1,.c (.clo 77 [.ref 2 0,.ref 3 0])),(7,.c (.d (.int .i64 (s2.1.length:Int)))),(8,.c (.d (.int .i64 s3)))],[(2,[.ref 100009 0]),(3,[.d (.int .i64 x2)]),(5,[.d (.int .i64 x0),.d (.int .i64 x2),.d (.int .i64 x1)]),(9,[.d (.int .i64 v1.1),.d (.int .i64 v1.2.1),.d (ah 2 aO v1.2.2.1),.d (ah 1 aN v1.2.2.2.1),.d (ah 1 cO v1.2.2.2.2.1),.d (ah 1 cO v1.2.2.2.2.2.1),.d (ah 2 aO v1.2.2.2.2.2.2.1),.d (.int .i64 v1.2.2.2.2.2.2.2.1),.d (.int .i64 v1.2.2.2.2.2.2.2.2.1)]),(100009,[.d (.int .i64 v1.1),.d (.int .i64 v1.2.1),.d (ah 2 aO v1.2.2.1),.d (ah 1 aN v1.2.2.2.1),.d (ah 1 cO v1.2.2.2.2.1),.d (ah 1 cO v1.2.2.2.2.2.1),.d (ah 2 aO v1.2.2.2.2.2.2.1),.d (.int .i64 v1.2.2.2.2.2.2.2.1),.d (.int .i64 v1.2.2.2.2.2.2.2.2.1),.d (ah 1 cO s2.1),.own 12000910])],[(12000910,.owned (ah 2 aO s2.2))]⟩) (NP a1 x0 x2 x1 v1 s2) _ hq hr ?_)
    ·exact lf
    ·intro s3 hr
     unfold NP at hr
     refine S3.gx [4] ?_
     refine gr ?_
     refine dM hr (fun hc hr=> ?_) fun hc hr=> ?_
     ·refine gr ?_
      refine S3.inl 5 [0,1,5,7,8] [.ref 2 0,.ref 3 0] Tryz.func77 (by decide) rfl Tryz.ntmps77 (fun cx e=>aT bT vF cx e) (some 16) rfl rfl rfl rfl (nL rfl) (nL rfl) ?_
      refine gs ?_
      obtain ⟨Xo,hr⟩:=aC hr
      refine gr ?_
      intro wW S4
      refine S4.gx [] ?_
      obtain ⟨v9,hv9,hr⟩:=aQ hr
      refine gb hv9 ?_
      refine gr ?_
      refine S3.gx [4] ?_
      refine gr ?_
      refine dM hr (fun hc hr=> ?_) fun hc hr=>D1 (S3.ss [0,1,7,8] [(2,2),(3,3),(5,5),(9,9),(100009,100009)] [(12000910,12000910)]) hr
      refine gr ?_
      replace hr:=bC hr
      refine gr ?_
      refine S2.gx [1] ?_
      refine gr ?_
      refine gr ?_
      refine S1.gx [1] ?_
      refine gr ?_
      refine gr ?_
      refine S.gx [6,11,15,18,4] ?_
      refine gr ?_
      refine dM hr (fun hc hr=> ?_) fun hc hr=>D0 hr
      refine gr ?_
      refine dM hr (fun hc hr=>D0 hr) fun hc hr=> ?_
      refine gr ?_
      refine S.inl 5 [1,5,9,12,13] [] Tryz.func41 (by decide) rfl Tryz.ntmps41 (fun cx e=>aT bT vF cx e) (some 87) rfl rfl rfl rfl (nL rfl) (nL rfl) ?_
      refine gs ?_
      obtain ⟨v10,vV,hr⟩:=aQ hr
      refine gb vV ?_
      intro stop1 S1
      refine S1.gx [4] ?_
      refine gr ?_
      refine dM hr (fun hc hr=> ?_) fun hc hr=> ?_
      ·refine gr ?_
       refine gr ?_
       refine S.gx [6,11,15,18,4] ?_
       exact D0 hr
      ·obtain ⟨v11,Dv,hr⟩:=aQ hr
       obtain ⟨v12,Du,hr⟩:=aQ hr
       refine gb Dv ?_
       refine gb Du ?_
       refine S1.prune [0,4,7,8] ?_
       refine S1.gx [] ?_
       refine gr ?_
       refine gr ?_
       refine dM hr (fun hc hr=> ?_) fun hc hr=> ?_
       ·refine gr ?_
        refine gr ?_
        refine S.gx [6,11,15,18,4] ?_
        exact D1 (S.ss [1,5,9,12,13] [(5,5),(9,9),(100009,100009)] [(12000910,12000910)]) hr
       ·obtain ⟨LX,hr⟩:=aC hr
        refine gr ?_
        refine gr ?_
        refine S.gx [6,11,15,18,4] ?_
        refine gr ?_
        refine S.share 33 rfl ?_
        exact D1 (S.ss [1,5,9,12,13] [(5,5),(9,9),(100009,100009)] [(48,12000910)]) hr
     ·refine gr ?_
      replace hr:=bC hr
      refine gr ?_
      refine gr ?_
      refine S2.gx [1] ?_
      refine gr ?_
      refine gr ?_
      refine S1.gx [1] ?_
      refine gr ?_
      refine gr ?_
      refine S.gx [6,11,15,18,4] ?_
      exact D0 hr
def Hf (a0 a1:au):Bd Int Bool:=fun s1=>
 if (decide (s1<(a0.length:Int)))=true then
  if 0≤s1∧s1<(a0.length:Int) then
   if 0≤s1∧s1<(a1.length:Int) then
    if (!(((a0.getD s1.toNat default).1 == (a1.getD s1.toNat default).1) && ((a0.getD s1.toNat default).2 == (a1.getD s1.toNat default).2)))=true then
     .out (some false)
     else .next (IntKind.i64.wrap (s1+1))
    else .out none
   else .out none
  else .out (some true)
def r15 (a0 a1:au):Option (Bool):=
 if ((a0.length:Int) != (a1.length:Int))=true then
  some false
  else aS (Hf a0 a1) 1000000000 0
@[go_sem] def T15:=Zu qE false r15
theorem f15:aF Tryz.prog 15 T15.sp:=by
 refine vm .nil Tryz.func15 Tryz.ntmps15 fun ⟨a0,a1⟩ r hr stop S=> ?_
 rw [yK,r15] at hr
 refine S.gx [] ?_
 refine gr ?_
 refine iW hr (fun hc hr=>D0 hr) fun hc hr=> ?_
 refine gr ?_
 refine S.sees [0,1,5] [] [] ?_ (Stop.iter S (fun s1=>⟨[(0,.c (.d (ah 2 aO a0))),(1,.c (.d (ah 2 aO a1))),(5,.c (.d (.int .i64 s1)))],[],[]⟩) (Hf a0 a1) (fun q=>q=r) hr rfl ?_)
 ·exact lf
 ·intro s1 hr
  unfold Hf at hr
  refine S.gx [] ?_
  exact D1 (S.ss [0,1,5] [] []) hr
end Go.Proofs.YtofkgmldcjagmaaGreatDoor

/- Contracts of functions, written by wip/dec. -/
import Derived.Test.YtofkgmldcjagmaaGreatDoorF00
import Derived.Test.YtofkgmldcjagmaaGreatDoorF05
import Derived.Test.YtofkgmldcjagmaaGreatDoorF11
import Derived.Test.YtofkgmldcjagmaaGreatDoorF12
import Derived.Test.YtofkgmldcjagmaaGreatDoorF22
import Derived.Test.YtofkgmldcjagmaaGreatDoorF25
set_option linter.unusedVariables false
set_option linter.unusedSimpArgs false
set_option linter.constructorNameAsVariable false
set_option maxHeartbeats 4000000
set_option maxRecDepth 20000
namespace Go.Proofs.YtofkgmldcjagmaaGreatDoor
open Go.dG
def Yh (v10:aj×Int) (s2:Int×Int) (s3:Int):Bd Int (gK (Int) (Bool)):=fun s4=>
 if 0≤s3∧s3<(v10.1.length:Int) then
  if (decide (s4<((v10.1.getD s3.toNat default).length:Int)))=true then
   if 0≤s3∧s3<(v10.1.length:Int) then
    if 0≤s4∧s4<((v10.1.getD s3.toNat default).length:Int) then
     if (decide ((((v10.1.getD s3.toNat default).getD s4.toNat default).2)>s2.1))=true then
      .out (some (.out (some false)))
      else .next (IntKind.i64.wrap (s4+1))
     else .out none
    else .out none
   else .out (some (.next (IntKind.i64.wrap (s3+1))))
  else .out none
def acj (x0:Int) (v10:aj×Int) (s2:Int×Int):Bd Int Bool:=fun s3=>
 if (decide (s3<(v10.1.length:Int)))=true then
  (aS (Yh v10 s2 s3) 1000000000 x0).getD (.out none)
  else .out (some true)
def Yi (x1 x4:Int) (x5:au) (x2:aj) (x3:aZ) (x0:Int) (v5:au×Bool×Int) (v10:aj×Int):Bd (Int×Int) Bool:=fun s2=>
 if (decide (s2.2<(v10.1.length:Int)))=true then
  if 0≤s2.2∧s2.2<(v10.1.length:Int) then
   if (((v10.1.getD s2.2.toNat default).length:Int) != (v5.1.length:Int))=true then
    .out (some false)
    else if 0≤s2.2∧s2.2<(x3.length:Int) then
     aP (Zf x1 x4 x5 x2 (x3.getD s2.2.toNat default)) fun v11=>
      aP (r19 v11.1 v11.2) fun v12=>
       if (decide (x0>0))=true then
        if 0≤s2.2∧s2.2<(v10.1.length:Int) then
         if 0≤IntKind.i64.wrap (x0 - 1)∧IntKind.i64.wrap (x0 - 1)<((v10.1.getD s2.2.toNat default).length:Int) then
          .next ((if s2.1<((v10.1.getD s2.2.toNat default).getD (IntKind.i64.wrap (x0 - 1)).toNat default).2 then ((v10.1.getD s2.2.toNat default).getD (IntKind.i64.wrap (x0 - 1)).toNat default).2 else s2.1),IntKind.i64.wrap (s2.2+1))
          else .out none
         else .out none
        else .next ((if s2.1<v12 then v12 else s2.1),IntKind.i64.wrap (s2.2+1))
     else .out none
   else .out none
  else .out (aS (acj x0 v10 s2) 1000000000 0)
def Yj (x1 x4:Int) (x5:au) (x2:aj) (x6 x3:aZ) (x7:au) (x8 x9 x0:Int) (v5:au×Bool×Int):Bd Int Bool:=fun s1=>
 if (decide (s1<(v5.1.length:Int)))=true then
  if 0≤s1∧s1<(v5.1.length:Int) then
   if (!(((v5.1.getD s1.toNat default).1 == 0) && ((v5.1.getD s1.toNat default).2 == IntKind.i64.wrap ((x2.length:Int) - 1))))=true then
    .out (some false)
    else .next (IntKind.i64.wrap (s1+1))
   else .out none
  else .out (if (decide ((v5.1.length:Int)>200))=true then
   some true
   else (r9 x1 x4 x5 x2 x6 x3 x7 x8 x9).bind fun v8=>
    (r10 v5.1).bind fun v9=>
     (r17 v8.1 v8.2.1 v8.2.2.1 v8.2.2.2.1 v8.2.2.2.2.1 v8.2.2.2.2.2.1 v8.2.2.2.2.2.2.1 v8.2.2.2.2.2.2.2.1 v8.2.2.2.2.2.2.2.2 v9).bind fun v10=>
      if (v10.2 != 0)=true then
       some (v10.2 == 22)
       else if ((v10.1.length:Int) != x1)=true then
        some false
        else aS (Yi x1 x4 x5 x2 x3 x0 v5 v10) 1000000000 (0,0))
def r4 (x1 x4:Int) (x5:au) (x2:aj) (x6 x3:aZ) (x7:au) (x8 x9:Int) (a1:au) (x0 x11 x10:Int):Option (Bool):=
 (r6).bind fun v1=>
  if (!v1)=true then
   some false
   else (r7 x1 x4 x5 x2 x6 x3 x7 x8 x9).bind fun v2=>
    if (!((!v2) || (decide ((a1.length:Int)>30))))=true→(r11 x1 x4 x5 x2 x6 x3 x7 x8 x9).isSome=true then
     if (!(((!v2) || (decide ((a1.length:Int)>30))) || (((r11 x1 x4 x5 x2 x6 x3 x7 x8 x9).getD default) != 0)))=true→(r12 x1 x4 x5 x2 x6 x3 x7 x8 x9 a1).isSome=true then
      if (!((((!v2) || (decide ((a1.length:Int)>30))) || (((r11 x1 x4 x5 x2 x6 x3 x7 x8 x9).getD default) != 0)) || (((r12 x1 x4 x5 x2 x6 x3 x7 x8 x9 a1).getD default) != 0)))=true→(r13 a1 x0 x11 x10).isSome=true then
       if (((((!v2) || (decide ((a1.length:Int)>30))) || (((r11 x1 x4 x5 x2 x6 x3 x7 x8 x9).getD default) != 0)) || (((r12 x1 x4 x5 x2 x6 x3 x7 x8 x9 a1).getD default) != 0)) || (((r13 a1 x0 x11 x10).getD default) != 0))=true then
        some true
        else (r9 x1 x4 x5 x2 x6 x3 x7 x8 x9).bind fun v3=>
         (r10 a1).bind fun v4=>
          (r8 v3.1 v3.2.1 v3.2.2.1 v3.2.2.2.1 v3.2.2.2.2.1 v3.2.2.2.2.2.1 v3.2.2.2.2.2.2.1 v3.2.2.2.2.2.2.2.1 v3.2.2.2.2.2.2.2.2 v4 x0 x11 x10).bind fun v5=>
           if (v5.2.2 != 0)=true then
            some ((v5.2.2 == 22) || (v5.2.2 == 24))
            else (r16 (v5.1.length:Int) x0 (IntKind.i64.wrap (x0+x10))).bind fun v6=>
             if (!((!v6) || (!(v5.2.1 == (decide (x0<(a1.length:Int)))))))=true→0≤0∧0≤x0∧x0≤(v5.1.length:Int) then
              if (!((!v6) || (!(v5.2.1 == (decide (x0<(a1.length:Int)))))))=true→0≤0∧0≤x0∧x0≤(a1.length:Int) then
               if (!((!v6) || (!(v5.2.1 == (decide (x0<(a1.length:Int)))))))=true→(r15 (v5.1.take x0.toNat) (a1.take x0.toNat)).isSome=true then
                if (((!v6) || (!(v5.2.1 == (decide (x0<(a1.length:Int)))))) || (!((r15 (v5.1.take x0.toNat) (a1.take x0.toNat)).getD default)))=true then
                 some false
                 else aS (Yj x1 x4 x5 x2 x6 x3 x7 x8 x9 x0 v5) 1000000000 x0
                else none
               else none
              else none
       else none
      else none
     else none
@[go_sem] def T4:=ah9 qE false r4
@[go_sem] def tb4 (k:Nat):=lk [(6,T6.sp),(7,T7.sp),(8,T8.sp),(9,T9.sp),(10,T10.sp),(11,T11.sp),(12,T12.sp),(13,T13.sp),(15,T15.sp),(16,T16.sp),(17,T17.sp),(18,T18.sp),(19,T19.sp)] k
theorem Ie {α:Type} [Inhabited α] {s:Nat} {f:α→List D} {g:List D→α} (hd:∀ l,aG g (ah s f l)=l) (l:List α) {k:Nat} (h:k≤l.length):aG g ((ah s f l).sub 0 k)=l.take k∧mQ ((ah s f l).sub 0 k) (ah s f (l.take k)):=by
 have h2:k≤(ah s f l).len:=h
 have h1:aG g ((ah s f l).sub 0 k)=(aG g (ah s f l)).take k:=by
  apply List.ext_getElem
  ·rw [iG,List.length_take,iG]
   show k - 0=_
   omega
  ·intro j h1 h2
   simp [aG,D.sub,D.nth]
 rw [hd] at h1
 have h3:=of_eq_true (lZ (of_eq_true (Bh (lo:=0) (of_eq_true (rC (s:=s) (f:=f) l)) h)))
 rw [List.drop_zero,Nat.sub_zero] at h3
 exact ⟨h1,h3⟩
theorem f4:aF Tryz.prog 4 T4.sp:=by
 refine vm (tb:=tb4) (.cons f6 (.cons f7 (.cons f8 (.cons f9 (.cons f10 (.cons f11 (.cons f12 (.cons f13 (.cons f15 (.cons f16 (.cons f17 (.cons f18 (.cons f19 .nil))))))))))))) Tryz.func4 Tryz.ntmps4 fun ⟨x1,x4,x5,x2,x6,x3,x7,x8,x9,a1,x0,x11,x10⟩ r hr stop S=> ?_
 rw [ahh,r4] at hr
 refine S.gx [4,5,8,9,10,31,32] ?_
 obtain ⟨v1,hv1,hr⟩:=aA hr
 refine gb hv1 ?_
 refine iW hr (fun hc hr=>D0 hr) fun hc hr=> ?_
 obtain ⟨v2,hv2,hr⟩:=aA hr
 obtain ⟨aaG,hr⟩:=aH hr
 obtain ⟨Xm,hr⟩:=aH hr
 obtain ⟨ajx,hr⟩:=aH hr
 try simp only [hv2,oG,oI,true_and,and_assoc]
 repeat (first | refine gG aaG ?_ | refine gG Xm ?_ | refine gG ajx ?_ | refine gA ?_ | refine gB ?_)
 refine iW hr (fun hc hr=> ?_) fun hc hr=> ?_
 ·refine gr ?_
  refine S.prune [] ?_
  refine S.gx [5,8,9,10,31,32] ?_
  exact D0 hr
 ·refine gr ?_
  refine S.prune [1,3,5] ?_
  refine S.gx [4,8,9,10,31,32] ?_
  obtain ⟨v3,hv3,hr⟩:=aA hr
  obtain ⟨v4,hv4,hr⟩:=aA hr
  obtain ⟨v5,hv5,hr⟩:=aA hr
  refine gb hv3 ?_
  refine gb hv4 ?_
  refine gb hv5 ?_
  refine gr ?_
  refine iW hr (fun hc hr=> ?_) fun hc hr=> ?_
  ·repeat (first | refine gA ?_ | refine gB ?_)
   exact D0 hr
  ·refine gr ?_
   refine S.share 53 rfl ?_
   refine S.gx [4,5,9,10,31,32] ?_
   obtain ⟨v6,hv6,hr⟩:=aA hr
   obtain ⟨Xn,hr⟩:=aH hr
   obtain ⟨aaI,hr⟩:=aH hr
   obtain ⟨aaH,hr⟩:=aH hr
   try simp only [hv6,oG,oI,true_and,and_assoc]
   repeat (first | refine gG Xn ?_ | refine gG aaI ?_ | refine gG aaH ?_ | refine gA ?_ | refine gB ?_)
   refine And.intro (fun hq=> ?_) ?_
   ·obtain ⟨-,k1,k2⟩:=Xn (by rw [hq]; rfl)
    obtain ⟨-,-,k3⟩:=aaI (by rw [hq]; rfl)
    obtain ⟨y1,y2⟩:=Ie qV v5.1 (show x0.toNat≤v5.1.length by omega)
    obtain ⟨y3,y4⟩:=Ie qV a1 (show x0.toNat≤a1.length by omega)
    rw [y1,y3]
    exact ⟨y2,y4,aaH (by rw [hq]; rfl)⟩
   refine gr ?_
   have hs:(!v6 || !v5.2.1 == decide (x0<(a1.length:Int)) || !(r15 (aG bW ((ah 2 aO v5.1).sub 0 x0.toNat)) (aG bW ((ah 2 aO a1).sub 0 x0.toNat))).getD default)=(!v6 || !v5.2.1 == decide (x0<(a1.length:Int)) || !(r15 (v5.1.take x0.toNat) (a1.take x0.toNat)).getD default):=by
    rcases Bool.eq_false_or_eq_true (!v6 || !v5.2.1 == decide (x0<(a1.length:Int))) with hq | hq
    ·rw [hq,Bool.true_or,Bool.true_or]
    ·obtain ⟨-,k1,k2⟩:=Xn (by rw [hq]; rfl)
     obtain ⟨-,-,k3⟩:=aaI (by rw [hq]; rfl)
     rw [(Ie qV v5.1 (show x0.toNat≤v5.1.length by omega)).1,(Ie qV a1 (show x0.toNat≤a1.length by omega)).1]
   refine iW hr (fun hc hr=> ?_) (fun hc hr=> ?_) (fun hc=>by rw [← hs]; exact hc) (fun hc=>by rw [← hs]; first | exact hc | exact ne_true_of_eq_false hc)
   ·refine gr ?_
    refine S.prune [] ?_
    refine S.gx [4,5,8,10,31,32] ?_
    exact D0 hr
   ·refine gr ?_
    refine S.prune [3,5,7] ?_
    refine S.gx [4,5,8,9,31,32] ?_
    refine gr ?_
    refine gr ?_
    refine S.sees [3,5,7,10] [(3,3),(5,5)] [(53,53)] ?_ (Stop.iter S (fun s1=>⟨[(3,.c (.ref 3 0)),(5,.c (.ref 5 0)),(7,.c (.own 53)),(10,.c (.d (.int .i64 s1)))],[(3,[.d (.int .i64 x1),.d (.int .i64 x4),.d (ah 2 aO x5),.d (ah 1 aN x2),.d (ah 1 cO x6),.d (ah 1 cO x3),.d (ah 2 aO x7),.d (.int .i64 x8),.d (.int .i64 x9)]),(5,[.d (.int .i64 x0),.d (.int .i64 x11),.d (.int .i64 x10)])],[(53,.shared (ah 2 aO v5.1))]⟩) (Yj x1 x4 x5 x2 x6 x3 x7 x8 x9 x0 v5) (fun q=>q=r) hr rfl ?_)
    ·exact lf
    ·intro s1 hr
     unfold Yj at hr
     refine S.gx [4,5,8,9,10,31,32] ?_
     refine gr ?_
     refine dM hr (fun hc hr=>D1 (S.ss [3,5,7,10] [(3,3),(5,5)] [(53,53)]) hr) fun hc hr=> ?_
     refine gr ?_
     have hr:=bK hr
     refine gr ?_
     refine iW hr (fun hc hr=>D0 hr) fun hc hr=> ?_
     obtain ⟨v8,Xk,hr⟩:=aA hr
     obtain ⟨v9,hv9,hr⟩:=aA hr
     obtain ⟨v10,vV,hr⟩:=aA hr
     refine gb Xk ?_
     refine gb hv9 ?_
     refine gb vV ?_
     refine iW hr (fun hc hr=>D0 hr) fun hc hr=> ?_
     refine gr ?_
     refine iW hr (fun hc hr=>D0 hr) fun hc hr=> ?_
     refine gr ?_
     refine S.sees [3,5,7,11,13,14] [(3,3),(5,5)] [(53,53),(124,124)] ?_ (Stop.iter S (fun s2=>⟨[(3,.c (.ref 3 0)),(5,.c (.ref 5 0)),(7,.c (.own 53)),(11,.c (.own 124)),(13,.c (.d (.int .i64 s2.1))),(14,.c (.d (.int .i64 s2.2)))],[(3,[.d (.int .i64 x1),.d (.int .i64 x4),.d (ah 2 aO x5),.d (ah 1 aN x2),.d (ah 1 cO x6),.d (ah 1 cO x3),.d (ah 2 aO x7),.d (.int .i64 x8),.d (.int .i64 x9)]),(5,[.d (.int .i64 x0),.d (.int .i64 x11),.d (.int .i64 x10)])],[(53,.shared (ah 2 aO v5.1)),(124,.owned (ah 1 aN v10.1))]⟩) (Yi x1 x4 x5 x2 x3 x0 v5 v10) (fun q=>q=r) hr rfl ?_)
     ·exact lf
     ·intro s2 hr
      unfold Yi at hr
      refine S.gx [4,5,8,9,10,31,32] ?_
      refine gr ?_
      refine dM hr (fun hc hr=> ?_) fun hc hr=> ?_
      ·obtain ⟨aAL,hr⟩:=aC hr
       refine gr ?_
       refine dM hr (fun hc hr=>D0 hr) fun hc hr=> ?_
       obtain ⟨PU,hr⟩:=aC hr
       obtain ⟨v11,Dv,hr⟩:=aQ hr
       obtain ⟨v12,Du,hr⟩:=aQ hr
       refine gb Dv ?_
       refine gb Du ?_
       refine dM hr (fun hc hr=> ?_) fun hc hr=> ?_
       ·refine gr ?_
        refine S.prune [3,5,7,11,13,14] ?_
        refine S.gx [4,5,8,9,10,32] ?_
        obtain ⟨LX,hr⟩:=aC hr
        obtain ⟨Xo,hr⟩:=aC hr
        refine gr ?_
        refine gr ?_
        refine S.prune [3,5,7,11,13,14,17] ?_
        refine S.gx [4,5,8,9,10,31] ?_
        exact D1 (S.ss [3,5,7,11,13,14] [(3,3),(5,5)] [(53,53),(124,124)]) hr
       ·refine gr ?_
        refine S.prune [3,5,7,11,13,14,17] ?_
        refine S.gx [4,5,8,9,10,31] ?_
        exact D1 (S.ss [3,5,7,11,13,14] [(3,3),(5,5)] [(53,53),(124,124)]) hr
      ·refine gr ?_
       have hr:=bK hr
       refine gr ?_
       refine S.sees [5,11,13,18] [(5,5)] [(124,124)] ?_ (Stop.iter S (fun s3=>⟨[(5,.c (.ref 5 0)),(11,.c (.own 124)),(13,.c (.d (.int .i64 s2.1))),(18,.c (.d (.int .i64 s3)))],[(5,[.d (.int .i64 x0),.d (.int .i64 x11),.d (.int .i64 x10)])],[(124,.owned (ah 1 aN v10.1))]⟩) (acj x0 v10 s2) (fun q=>q=r) hr rfl ?_)
       ·exact lf
       ·intro s3 hr
        unfold acj at hr
        refine S.gx [4,5,8,9,10,31,32] ?_
        refine gr ?_
        refine dM hr (fun hc hr=> ?_) fun hc hr=>D0 hr
        refine gr ?_
        obtain ⟨q4,hq,hr⟩:=iQ hr
        refine S.sees [5,11,13,18,19] [(5,5)] [(124,124)] ?_ (Stop.iter S (fun s4=>⟨[(5,.c (.ref 5 0)),(11,.c (.own 124)),(13,.c (.d (.int .i64 s2.1))),(18,.c (.d (.int .i64 s3))),(19,.c (.d (.int .i64 s4)))],[(5,[.d (.int .i64 x0),.d (.int .i64 x11),.d (.int .i64 x10)])],[(124,.owned (ah 1 aN v10.1))]⟩) (Yh v10 s2 s3) _ hq hr ?_)
        ·exact lf
        ·intro s4 hr
         unfold Yh at hr
         refine S.gx [4,5,8,9,10,31,32] ?_
         obtain ⟨aeV,hr⟩:=aC hr
         refine gr ?_
         refine dM hr (fun hc hr=> ?_) fun hc hr=> ?_
         ·obtain ⟨aeX,hr⟩:=aC hr
          obtain ⟨aeW,hr⟩:=aC hr
          refine gr ?_
          refine dM hr (fun hc hr=> ?_) fun hc hr=>D1 (S.ss [5,11,13,18,19] [(5,5)] [(124,124)]) hr
          refine gr ?_
          replace hr:=bC hr
          exact D0 hr
         ·refine gr ?_
          replace hr:=bC hr
          exact D1 (S.ss [5,11,13,18] [(5,5)] [(124,124)]) hr
end Go.Proofs.YtofkgmldcjagmaaGreatDoor

/- Contracts of functions, written by wip/dec. -/
import Derived.Test.YtnepigpnlnmlmaaGreatDoorF00
set_option linter.unusedVariables false
set_option linter.unusedSimpArgs false
set_option linter.constructorNameAsVariable false
set_option maxHeartbeats 4000000
set_option maxRecDepth 20000
namespace Go.Proofs.YtnepigpnlnmlmaaGreatDoor
open Tryz Go.dR
section
variable {β:Type} [Inhabited β] (u:β->List RV) (al:Bool)
def qw9 (a0:aA) (a1 a2:Int):List Arg:=[.c (aj 2 aQ a0),.agg [.int .i64 a1,.int .i64 a2],.clo 298 []]
def qd9:List Arg->aA×Int×Int
 | [.c c0,.agg [c1,c2],.clo _ []]=>(aN bZ c0,aC c1,aC c2)
 | _=>default
def qT9 (r:aA->Int->Int->Option β):=mkT (u3 qw9) qd9 (u3 r) u al
attribute [go_sem] qw9 qd9 qT9
def asb (a0:aA) (a1 a2:Int):List Arg:=[.c (aj 2 aQ a0),.agg [.int .i64 a1,.int .i64 a2]]
def atT:List Arg->aA×Int×Int
 | [.c c0,.agg [c1,c2]]=>(aN bZ c0,aC c1,aC c2)
 | _=>default
def auN (r:aA->Int->Int->Option β):=mkT (u3 asb) atT (u3 r) u al
attribute [go_sem] asb atT auN
end
def r58:Option (Int×Int×aA×au×aV×aV×aA×Int×Int):=
 some (3,500,[(0,300),(1000,800),(3000,1300)],[[(300,0)],[(300,0),(1300,400)]],[0,0,0],[0,0,0],[(1000,1000),(500,500),(0,0)],0,0)
@[go_sem] def T58:=qT0 qu0 true r58
theorem f58:aF prog 58 T58.sp:=by
 refine vm .nil func58 ntmps58 λ_ r hr stop S=> ?_
 rw [uq0,r58] at hr
 refine S.gx [] ?_
 exact D0 hr
def r59:Option (dB):=
 some [(0,400,0,2,0,Hl.nil),(2,0,1,3,0,Hl.nil)]
@[go_sem] def T59:=qT0 qu1 true r59
theorem f59:aF prog 59 T59.sp:=by
 refine vm .nil func59 ntmps59 λ_ r hr stop S=> ?_
 rw [uq0,r59] at hr
 refine S.gx [] ?_
 exact D0 hr
def Bh (a0 a1 a2:Int):Option (Bool):=
 some ((decide (a1<=a0)) && (decide (a0<=a2)))
@[go_sem] def RI:=qT1 qV false Bh
theorem f190:aF prog 190 RI.sp:=by
 refine vm .nil func190 ntmps190 λ⟨a0,a1,a2⟩ r hr stop S=> ?_
 rw [uq3,Bh] at hr
 refine S.gx [] ?_
 repeat (first | refine gA ?_ | refine gB ?_)
 exact D0 hr
def pJ (a0:Bool) (a1:Int):Option (Int):=
 if a0=true then
  some 0
  else some a1
@[go_sem] def Ot:=qT2 mY false pJ
theorem f216:aF prog 216 Ot.sp:=by
 refine vm .nil func216 ntmps216 λ⟨a0,a1⟩ r hr stop S=> ?_
 rw [DV,pJ] at hr
 refine S.gx [] ?_
 exact D0 hr
def CB (a0:aV):Bd Int Int:=λs1=>
 if (decide (s1<(a0.length:Int)))=true then
  if 0<=s1/\s1<(a0.length:Int) then
   if ((a0.getD s1.toNat default) != 0)=true then
    .out (some (a0.getD s1.toNat default))
    else .next (IntKind.i64.wrap (s1+1))
   else .out none
  else .out (some 0)
def D6 (a0:aV):Option (Int):=
 aK (CB a0) 1000000000 0
@[go_sem] def VJ:=qT3 mY false D6
theorem f217:aF prog 217 VJ.sp:=by
 refine vm .nil func217 ntmps217 λa0 r hr stop S=> ?_
 rw [sQ,D6] at hr
 refine S.gx [] ?_
 refine gr ?_
 refine S.li [5,6,7] [] [] (λs1=>⟨[(5,.c (.d (aj 1 dh a0))),sI 6 (a0.length:Int),sI 7 s1],[],[]⟩) (CB a0) (λq=>q=r) hr rfl ?_
 intro s1 hr
 unfold CB at hr
 refine S.gx [] ?_
 exact D1 (S.ss [5,6,7] [] []) hr
def Zb (a0:Int):Option (Bool):=
 (Bh a0 200 3000).bind λv1=>
  some v1
@[go_sem] def amA:=OC qV false Zb
@[go_sem] def apQ (k:Nat):=lk [(190,RI.sp)] k
theorem f249:aF prog 249 amA.sp:=by
 refine vm (tb:=apQ) (.cons f190 .nil) func249 ntmps249 λa0 r hr stop S=> ?_
 rw [sQ,Zb] at hr
 refine S.gx [] ?_
 exact D0 hr
def y8 (a0:aA):Bd Int (Int×Int):=λs1=>
 if (decide (s1<(a0.length:Int)))=true then
  if 0<=s1/\s1<(a0.length:Int) then
   aW (Bh ((a0.getD s1.toNat default).1) 0 1000000) λv4=>
    if v4=true->(Zb ((a0.getD s1.toNat default).2)).isSome=true then
     aW (pJ (v4 && ((Zb ((a0.getD s1.toNat default).2)).getD default)) 2) λv5=>
      if ((v5 == 0) && (decide (s1>0)))=true then
       if 0<=IntKind.i64.wrap (s1 - 1)/\IntKind.i64.wrap (s1 - 1)<(a0.length:Int) then
        if 0<=IntKind.i64.wrap (s1 - 1)/\IntKind.i64.wrap (s1 - 1)<(a0.length:Int) then
         aW (pJ ((decide ((IntKind.i64.wrap (((a0.getD s1.toNat default).1) - ((a0.getD (IntKind.i64.wrap (s1 - 1)).toNat default).1)))>0)) && (decide ((IntKind.i64.wrap (((a0.getD s1.toNat default).2) - ((a0.getD (IntKind.i64.wrap (s1 - 1)).toNat default).2)))>0))) 9) λv6=>
          aW (pJ (decide ((IntKind.i64.wrap (((a0.getD s1.toNat default).2) - ((a0.getD (IntKind.i64.wrap (s1 - 1)).toNat default).2)))<=(IntKind.i64.wrap (((a0.getD s1.toNat default).1) - ((a0.getD (IntKind.i64.wrap (s1 - 1)).toNat default).1))))) 22) λv7=>
           aW (D6 [v6,v7]) λv8=>
            if (v8 != 0)=true then
             .out (some (s1,v8))
             else .next (IntKind.i64.wrap (s1+1))
         else .out none
        else .out none
       else if (v5 != 0)=true then
        .out (some (s1,v5))
        else .next (IntKind.i64.wrap (s1+1))
     else .out none
   else .out none
  else .out (some (0,0))
def ab6 (a0:aA):Option (Int×Int):=
 (pJ (decide ((a0.length:Int)>=2)) 10).bind λv1=>
  (pJ (decide ((a0.length:Int)<=8)) 8).bind λv2=>
   (D6 [v1,v2]).bind λv3=>
    if (v3 != 0)=true then
     some (0,v3)
     else aK (y8 a0) 1000000000 0
@[go_sem] def ays:=qT5 JM false ab6
@[go_sem] def aqe (k:Nat):=lk [(190,RI.sp),(216,Ot.sp),(217,VJ.sp),(249,amA.sp)] k
theorem f191:aF prog 191 ays.sp:=by
 refine vm (tb:=aqe) (.cons f190 (.cons f216 (.cons f217 (.cons f249 .nil)))) func191 ntmps191 λa0 r hr stop S=> ?_
 rw [sQ,ab6] at hr
 refine S.gx [10] ?_
 obtain ⟨v1,hv1,hr⟩:=aB hr
 obtain ⟨v2,hv2,hr⟩:=aB hr
 obtain ⟨v3,hv3,hr⟩:=aB hr
 refine gb hv1 ?_
 refine gb hv2 ?_
 refine gb hv3 ?_
 refine iW hr (λhc hr=>D0 hr) λhc hr=> ?_
 refine gr ?_
 refine S.li [0,23,24,25] [] [] (λs1=>⟨[(0,.c (.d (aj 2 aQ a0))),(23,.c (.d (aj 2 aQ a0))),sI 24 (a0.length:Int),sI 25 s1],[],[]⟩) (y8 a0) (λq=>q=r) hr rfl ?_
 intro s1 hr
 have z1:=S.ss [0,23,24,25] [] []
 unfold y8 at hr
 refine S.gw [10] ?_
 refine gJ hr (λhc hr=> ?_) λhc hr=>D0 hr
 obtain ⟨Nv,hr⟩:=aH hr
 obtain ⟨v4,hv4,hr⟩:=bf hr
 obtain ⟨Ji,hr⟩:=aH hr
 obtain ⟨v5,hv5,hr⟩:=bf hr
 try simp only [hv4,hv5,Option.getD_some,Option.isSome_some,true_and,and_assoc]
 repeat (first | refine gG Ji ?_ | refine gA ?_ | refine gB ?_)
 refine gJ hr (λhc hr=> ?_) λhc hr=>D1 z1 hr
 obtain ⟨ZK,hr⟩:=aH hr
 obtain ⟨Jj,hr⟩:=aH hr
 refine gr ?_
 refine S.prune [0,5,8,9,23,24,25] ?_
 refine S.gx [] ?_
 obtain ⟨v6,hv6,hr⟩:=bf hr
 obtain ⟨v7,hv7,hr⟩:=bf hr
 obtain ⟨v8,hv8,hr⟩:=bf hr
 try simp only [hv6,hv7,hv8,Option.getD_some,Option.isSome_some,true_and,and_assoc]
 repeat (first | refine gA ?_ | refine gB ?_)
 exact D1 z1 hr
def Cm (a0:aA):Bd ((List (Int×Int))×Int) aA:=λs1=>
 if (decide (s1.2<(a0.length:Int)))=true then
  if 0<=s1.2/\s1.2<(a0.length:Int) then
   if (s1.1.length+1)*16<=140737488355328/\s1.1.length+1<=9223372036854775807 then
    .next (s1.1++[((a0.getD s1.2.toNat default).1,(a0.getD s1.2.toNat default).2)],IntKind.i64.wrap (s1.2+1))
    else .out none
   else .out none
  else .out (some s1.1)
def MJ (a0:aA):Option (aA):=
 aK (Cm a0) 1000000000 ([],0)
@[go_sem] def amy:=qT5 qu5 false MJ
theorem f250:aF prog 250 amy.sp:=by
 refine vm .nil func250 ntmps250 λa0 r hr stop S=> ?_
 rw [sQ,MJ] at hr
 refine S.gx [] ?_
 refine gr ?_
 refine S.Ug 3 1000300 2 rfl rfl ?_
 refine S.li [3,6,7,8] [] [(1000300,1000300)] (λs1=>⟨[sO 3 1000300,(6,.c (.d (aj 2 aQ a0))),sI 7 (a0.length:Int),sI 8 s1.2],[],[(1000300,.owned (aj 2 aQ s1.1))]⟩) (Cm a0) (λq=>q=r) hr rfl ?_
 intro s1 hr
 unfold Cm at hr
 refine S.gx [] ?_
 exact D1 (S.ss [3,6,7,8] [] [(19,1000300)]) hr
theorem adP (w:World) (m:Nat) (h0:0<m) (h1:m<=1000000) :
 Calls prog 296 #[.slice none 0 0,.int .i64 (m:Int)] w λe w'=>∃ v,e= .returned v/\∃ cap c,v= .slice (some ⟨w.heap.size,0,none⟩) 0 cap/\w'=w.drew.alloc (.cells c 371)/\c.size=cap*2:=by
 have hbytes:Tryz.t371.bytes=16:=rfl
 have hns:Builtin.nextslicecap m 0=m:=nextslicecap_zero h0
 go_enter func296,ntmps296
 go_wp2
 all_goals try (exfalso; simp only [hbytes,hns] at *; omega)
 all_goals go_ret
 refine ⟨_,rfl,_,rfl,_,rfl,?_⟩
 have hcap:=grownCap_ge w m 0 371
 simp only [grownCap] at hcap
 simp [Builtin.zeroCells]
 omega
theorem adO (w:World) :
 Calls prog 296 #[.slice none 0 0,.int .i64 0] w λe w'=>∃ v,e= .returned v/\v= .slice none 0 0/\w'=w:=by
 go_enter func296,ntmps296
 go_wp2
 all_goals go_ret
 exact ⟨_,rfl,rfl,rfl⟩
theorem ahj (n:Int) (h0:0<=n) (h1:n<=1000000) (w:World):Calls prog 296 #[.slice none 0 0,.int .i64 n] w λe w'=>∃ v,e= .returned v/\AQ 2 w w' v:=by
 obtain ⟨m,rfl⟩:∃ m:Nat,n=m:=⟨n.toNat,by omega⟩
 rcases Nat.eq_zero_or_pos m with rfl | hm
 ·refine (adO w).mono ?_
  rintro e w' ⟨v,rfl,rfl,rfl⟩
  exact ⟨_,rfl,.refl _,Nat.le_refl _,λ_ _=>rfl,.inl rfl⟩
 refine (adP w m hm (by omega)).mono ?_
 rintro e w' ⟨v,rfl,cap,c,rfl,rfl,hc⟩
 have hh:(w.drew.alloc (.cells c 371)).heap=w.heap.push (.cells c 371 (0,0)):=rfl
 refine ⟨_,rfl,⟨rfl,rfl,rfl⟩,by rw [hh,Array.size_push]; exact Nat.le_succ _,λB hB=> ?_,.inr ⟨_,cap,c,_,rfl,Nat.le_refl _,by rw [hh,Array.size_push]; exact Nat.lt_succ_self _,by rw [hh,Array.getElem?_push_size],hc⟩⟩
 rw [hh,Array.getElem?_push,if_neg (Nat.ne_of_lt hB)]
def yU (a0:au):Bd (Int×(List (Int×Int))) aA:=λs2=>
 if (decide (s2.1<(a0.length:Int)))=true then
  if 0<=s2.1/\s2.1<(a0.length:Int) then
   if (s2.2.length+(a0.getD s2.1.toNat default).length)*16<=140737488355328/\s2.2.length+(a0.getD s2.1.toNat default).length<=9223372036854775807 then
    .next (IntKind.i64.wrap (s2.1+1),s2.2++(a0.getD s2.1.toNat default))
    else .out none
   else .out none
  else .out (some s2.2)
def yV (a0:au):Bd (Int×Int) aA:=λs1=>
 if (decide (s1.2<(a0.length:Int)))=true then
  if 0<=s1.2/\s1.2<(a0.length:Int) then
   if (decide ((IntKind.i64.wrap (s1.1+((a0.getD s1.2.toNat default).length:Int)))<0))=true then
    .out none
    else .next (IntKind.i64.wrap (s1.1+((a0.getD s1.2.toNat default).length:Int)),IntKind.i64.wrap (s1.2+1))
   else .out none
  else .out (if 0<=s1.1/\s1.1<=1000000 then
   aK (yU a0) 1000000000 (0,([]:List (Int×Int)))
   else none)
def Za (a0:au):Option (aA):=
 aK (yV a0) 1000000000 (0,0)
@[go_sem] def axX:=qT6 qu5 false Za
theorem f251:aF prog 251 axX.sp:=by
 refine vm .nil func251 ntmps251 λa0 r hr stop S=> ?_
 rw [sQ,Za] at hr
 refine S.gx [9] ?_
 refine gr ?_
 refine S.li [0,3,9,10,11] [] [] (λs1=>⟨[(0,.c (.d (aj 1 aU a0))),sI 3 s1.1,(9,.c (.d (aj 1 aU a0))),sI 10 (a0.length:Int),sI 11 s1.2],[],[]⟩) (yV a0) (λq=>q=r) hr rfl ?_
 intro s1 hr
 unfold yV at hr
 refine S.gw [9] ?_
 refine gJ hr (λhc hr=> ?_) λhc hr=> ?_
 ·obtain ⟨hg1,hr⟩:=aH hr
  refine gr ?_
  refine gJ hr (λhc hr=> ?_) λhc hr=>D1 (S.ss [0,3,9,10,11] [] []) hr
  refine gr ?_
  first | cases hr | exact hr.elim
 refine gr ?_
 have hr:=bT hr
 refine gr ?_
 obtain ⟨hg2,hr⟩:=aP hr
 refine gr ?_
 refine S.Rw 1 23 24 3000024 2 rfl rfl rfl rfl (by decide) func296 (by decide) rfl (ahj _ hg2.1 hg2.2) ?_
 refine gs ?_
 refine S.gw [9] ?_
 refine S.li [6,25,26,27] [] [(3000024,3000024)] (λs2=>⟨[sO 6 3000024,(25,.c (.d (aj 1 aU a0))),sI 26 (a0.length:Int),sI 27 s2.1],[],[(3000024,.owned (aj 2 aQ s2.2))]⟩) (yU a0) (λq=>q=r) hr rfl ?_
 intro s2 hr
 unfold yU at hr
 refine S.gx [9] ?_
 exact D1 (S.ss [6,25,26,27] [] [(33,3000024)]) hr
def MI (a0:Int):Option (Bool):=
 some (a0 != a0)
@[go_sem] def amx:=OC qV false MI
theorem f254:aF prog 254 amx.sp:=by
 refine vm .nil func254 ntmps254 λa0 r hr stop S=> ?_
 rw [sQ,MI] at hr
 refine S.gx [] ?_
 exact D0 hr
def agn (a0 a1:Int):Option (Int):=
 (MI a0).bind λv1=>
  (MI a1).bind λv2=>
   if v1=true then
    if v2=true then
     some 0
     else some (-1)
    else if v2=true then
     some 1
     else if (decide (a0<a1))=true then
      some (-1)
      else if (decide (a0>a1))=true then
       some 1
       else some 0
@[go_sem] def axB:=qT7 mY false agn
@[go_sem] def apy (k:Nat):=lk [(254,amx.sp)] k
theorem f299:aF prog 299 axB.sp:=by
 refine vm (tb:=apy) (.cons f254 .nil) func299 ntmps299 λ⟨a0,a1⟩ r hr stop S=> ?_
 rw [DV,agn] at hr
 refine S.gx [] ?_
 exact D0 hr
def TQ (x0 x3 x1 x2:Int):Option (Int):=
 (agn (IntKind.i64.wrap (x0*x2)) x1).bind λv1=>
  some v1
@[go_sem] def axC:=qT8 mY false TQ
@[go_sem] def apz (k:Nat):=lk [(299,axB.sp)] k
theorem f298:aF prog 298 axC.sp:=by
 refine vm (tb:=apz) (.cons f299 .nil) func298 ntmps298 λ⟨x0,x3,x1,x2⟩ r hr stop S=> ?_
 rw [uq4,TQ] at hr
 refine S.gx [] ?_
 exact D0 hr
def Cc (a0:aA) (x0 x1:Int):Bd (Int×Int) (Int×Bool):=λs1=>
 if (decide (s1.1<s1.2))=true then
  if 0<=IntKind.i64.wrap ((IntKind.u64.wrap (IntKind.i64.wrap (s1.1+s1.2))) / 2 ^ 1)/\IntKind.i64.wrap ((IntKind.u64.wrap (IntKind.i64.wrap (s1.1+s1.2))) / 2 ^ 1)<(a0.length:Int) then
   aW (TQ ((a0.getD (IntKind.i64.wrap ((IntKind.u64.wrap (IntKind.i64.wrap (s1.1+s1.2))) / 2 ^ 1)).toNat default).1) ((a0.getD (IntKind.i64.wrap ((IntKind.u64.wrap (IntKind.i64.wrap (s1.1+s1.2))) / 2 ^ 1)).toNat default).2) x0 x1) λv1=>
    if (decide (v1<0))=true then
     .next (IntKind.i64.wrap ((IntKind.i64.wrap ((IntKind.u64.wrap (IntKind.i64.wrap (s1.1+s1.2))) / 2 ^ 1))+1),s1.2)
     else .next (s1.1,IntKind.i64.wrap ((IntKind.u64.wrap (IntKind.i64.wrap (s1.1+s1.2))) / 2 ^ 1))
   else .out none
  else .out (if (decide (s1.1<(a0.length:Int)))=true->0<=s1.1/\s1.1<(a0.length:Int) then
   if (decide (s1.1<(a0.length:Int)))=true->(TQ ((a0.getD s1.1.toNat default).1) ((a0.getD s1.1.toNat default).2) x0 x1).isSome=true then
    some (s1.1,(decide (s1.1<(a0.length:Int))) && (((TQ ((a0.getD s1.1.toNat default).1) ((a0.getD s1.1.toNat default).2) x0 x1).getD default) == 0))
    else none
   else none)
def agp (a0:aA) (x0 x1:Int):Option (Int×Bool):=
 aK (Cc a0 x0 x1) 1000000000 (0,(a0.length:Int))
@[go_sem] def axD:=qT9 qu6 false agp
@[go_sem] def apA (k:Nat):=lk [(298,axC.sp)] k
theorem f297:aF prog 297 axD.sp:=by
 refine vm (tb:=apA) (.cons f298 .nil) func297 ntmps297 λ⟨a0,x0,x1⟩ r hr stop S=> ?_
 rw [uq3,agp] at hr
 refine S.gx [] ?_
 refine gr ?_
 refine S.li [0,2,4,8,9,10] [(4,4)] [] (λs1=>⟨[(0,.c (.d (aj 2 aQ a0))),(2,.c (.clo 298 [])),sR 4 4,sI 8 (a0.length:Int),sI 9 s1.1,sI 10 s1.2],[(4,[iC x0,iC x1])],[]⟩) (Cc a0 x0 x1) (λq=>q=r) hr rfl ?_
 intro s1 hr
 unfold Cc at hr
 refine S.gw [] ?_
 refine gJ hr (λhc hr=>D1 (S.ss [0,2,4,8,9,10] [(4,4)] []) hr) λhc hr=> ?_
 refine gr ?_
 have hr:=bT hr
 obtain ⟨hg3,hr⟩:=aP hr
 obtain ⟨hg4,hr⟩:=aP hr
 repeat (first | refine gG hg3 ?_ | refine gG hg4 ?_ | refine gA ?_ | refine gB ?_)
 exact D0 hr
def D5 (a0:aA) (x1 x0:Int):Option (Int×Int):=
 (agp a0 x1 x0).bind λv1=>
  if ((a0.length:Int) == 0)=true then
   some (0,1)
   else if (v1.1 == 0)=true then
    if 0<=0/\0<(a0.length:Int) then
     some ((a0.getD 0 default).2,1)
     else none
    else if (v1.1 == (a0.length:Int))=true then
     if 0<=IntKind.i64.wrap (v1.1 - 1)/\IntKind.i64.wrap (v1.1 - 1)<(a0.length:Int) then
      some ((a0.getD (IntKind.i64.wrap (v1.1 - 1)).toNat default).2,1)
      else none
     else if 0<=IntKind.i64.wrap (v1.1 - 1)/\IntKind.i64.wrap (v1.1 - 1)<(a0.length:Int) then
      if 0<=v1.1/\v1.1<(a0.length:Int) then
       some (IntKind.i64.wrap ((IntKind.i64.wrap (((a0.getD (IntKind.i64.wrap (v1.1 - 1)).toNat default).2)*(IntKind.i64.wrap ((IntKind.i64.wrap (((a0.getD v1.1.toNat default).1) - ((a0.getD (IntKind.i64.wrap (v1.1 - 1)).toNat default).1)))*x0))))+(IntKind.i64.wrap ((IntKind.i64.wrap (((a0.getD v1.1.toNat default).2) - ((a0.getD (IntKind.i64.wrap (v1.1 - 1)).toNat default).2)))*(IntKind.i64.wrap (x1 - (IntKind.i64.wrap (((a0.getD (IntKind.i64.wrap (v1.1 - 1)).toNat default).1)*x0))))))),IntKind.i64.wrap ((IntKind.i64.wrap (((a0.getD v1.1.toNat default).1) - ((a0.getD (IntKind.i64.wrap (v1.1 - 1)).toNat default).1)))*x0))
       else none
      else none
@[go_sem] def ah2:=auN qu7 false D5
@[go_sem] def apP (k:Nat):=lk [(297,axD.sp)] k
theorem f252:aF prog 252 ah2.sp:=by
 refine vm (tb:=apP) (.cons f297 .nil) func252 ntmps252 λ⟨a0,x1,x0⟩ r hr stop S=> ?_
 rw [uq3,D5] at hr
 refine S.gx [9] ?_
 obtain ⟨v1,hv1,hr⟩:=aB hr
 refine gb hv1 ?_
 refine iW hr (λhc hr=>D0 hr) λhc hr=> ?_
 refine gr ?_
 refine iW hr (λhc hr=>D0 hr) λhc hr=> ?_
 refine gr ?_
 refine iW hr (λhc hr=>D0 hr) λhc hr=> ?_
 obtain ⟨hg4,hr⟩:=aP hr
 obtain ⟨hg5,hr⟩:=aP hr
 refine gr ?_
 refine S.prune [3,4,7,8] ?_
 refine S.gx [] ?_
 exact D0 hr
def vZ (v10 v11 v12:aA):Bd Int Int:=λs2=>
 if (decide (s2<(v12.length:Int)))=true then
  if 0<=s2/\s2<(v12.length:Int) then
   aW (D5 v10 ((v12.getD s2.toNat default).1) 1) λv13=>
    aW (D5 v11 ((v12.getD s2.toNat default).1) 1) λv14=>
     if (decide ((IntKind.i64.wrap (v13.1*v14.2))<(IntKind.i64.wrap (v14.1*v13.2))))=true then
      .out (some 13)
      else .next (IntKind.i64.wrap (s2+1))
   else .out none
  else .out (some 0)
def CQ (a0 a1:aA):Bd Int Int:=λs1=>
 if (decide (s1<(a0.length:Int)))=true then
  if 0<=s1/\s1<(a0.length:Int) then
   aW (Zb ((a0.getD s1.toNat default).1)) λv1=>
    if v1=true->(Bh ((a0.getD s1.toNat default).2) 0 1000).isSome=true then
     aW (pJ (v1 && ((Bh ((a0.getD s1.toNat default).2) 0 1000).getD default)) 2) λv2=>
      if ((v2 == 0) && (decide (s1>0)))=true then
       if 0<=IntKind.i64.wrap (s1 - 1)/\IntKind.i64.wrap (s1 - 1)<(a0.length:Int) then
        if 0<=IntKind.i64.wrap (s1 - 1)/\IntKind.i64.wrap (s1 - 1)<(a0.length:Int) then
         aW (pJ ((decide ((IntKind.i64.wrap (((a0.getD s1.toNat default).1) - ((a0.getD (IntKind.i64.wrap (s1 - 1)).toNat default).1)))>0)) && (decide ((IntKind.i64.wrap (((a0.getD s1.toNat default).2) - ((a0.getD (IntKind.i64.wrap (s1 - 1)).toNat default).2)))>=0))) 9) λv3=>
          aW (pJ (decide ((IntKind.i64.wrap (2*(IntKind.i64.wrap (((a0.getD s1.toNat default).2) - ((a0.getD (IntKind.i64.wrap (s1 - 1)).toNat default).2)))))<=(IntKind.i64.wrap (((a0.getD s1.toNat default).1) - ((a0.getD (IntKind.i64.wrap (s1 - 1)).toNat default).1))))) 22) λv4=>
           aW (D6 [v3,v4]) λv5=>
            if (v5 != 0)=true then
             .out (some v5)
             else .next (IntKind.i64.wrap (s1+1))
         else .out none
        else .out none
       else if (v2 != 0)=true then
        .out (some v2)
        else .next (IntKind.i64.wrap (s1+1))
     else .out none
   else .out none
  else .out ((MJ a0).bind λv10=>
   (MJ a1).bind λv11=>
    (Za [v10,v11]).bind λv12=>
     aK (vZ v10 v11 v12) 1000000000 0)
def Ua (a0 a1:aA):Option (Int):=
 if (decide ((a0.length:Int)>6))=true then
  some 8
  else aK (CQ a0 a1) 1000000000 0
@[go_sem] def ayr:=agG mY false Ua
@[go_sem] def aqd (k:Nat):=lk [(190,RI.sp),(216,Ot.sp),(217,VJ.sp),(249,amA.sp),(250,amy.sp),(251,axX.sp),(252,ah2.sp)] k
theorem f192:aF prog 192 ayr.sp:=by
 refine vm (tb:=aqd) (.cons f190 (.cons f216 (.cons f217 (.cons f249 (.cons f250 (.cons f251 (.cons f252 .nil))))))) func192 ntmps192 λ⟨a0,a1⟩ r hr stop S=> ?_
 rw [DV,Ua] at hr
 refine S.gx [9,20] ?_
 refine gr ?_
 refine iW hr (λhc hr=>D0 hr) λhc hr=> ?_
 refine gr ?_
 refine S.li [0,1,20,21,22] [] [] (λs1=>⟨[(0,.c (.d (aj 2 aQ a0))),(1,.c (.d (aj 2 aQ a1))),(20,.c (.d (aj 2 aQ a0))),sI 21 (a0.length:Int),sI 22 s1],[],[]⟩) (CQ a0 a1) (λq=>q=r) hr rfl ?_
 intro s1 hr
 have z1:=S.ss [0,1,20,21,22] [] []
 unfold CQ at hr
 refine S.gw [9,20] ?_
 refine gJ hr (λhc hr=> ?_) λhc hr=> ?_
 ·obtain ⟨XT,hr⟩:=aH hr
  obtain ⟨v1,hv1,hr⟩:=bf hr
  obtain ⟨ZK,hr⟩:=aH hr
  obtain ⟨v2,hv2,hr⟩:=bf hr
  try simp only [hv1,hv2,Option.getD_some,Option.isSome_some,true_and,and_assoc]
  repeat (first | refine gG ZK ?_ | refine gA ?_ | refine gB ?_)
  refine gJ hr (λhc hr=> ?_) λhc hr=>D1 z1 hr
  obtain ⟨hg6,hr⟩:=aH hr
  obtain ⟨hg7,hr⟩:=aH hr
  refine gr ?_
  refine S.prune [0,1,8,9,20,21,22] ?_
  refine S.gx [20] ?_
  obtain ⟨v3,hv3,hr⟩:=bf hr
  obtain ⟨v4,hv4,hr⟩:=bf hr
  obtain ⟨v5,hv5,hr⟩:=bf hr
  try simp only [hv3,hv4,hv5,Option.getD_some,Option.isSome_some,true_and,and_assoc]
  repeat (first | refine gA ?_ | refine gB ?_)
  exact D1 z1 hr
 refine gr ?_
 have hr:=bT hr
 obtain ⟨v10,yI,hr⟩:=aB hr
 obtain ⟨v11,UE,hr⟩:=aB hr
 obtain ⟨v12,adw,hr⟩:=aB hr
 refine gb yI ?_
 refine gb UE ?_
 refine gb adw ?_
 refine S.li [10,11,85,86,87] [] [(79,79),(81,81),(85,85)] (λs2=>⟨[sO 10 79,sO 11 81,sO 85 85,sI 86 (v12.length:Int),sI 87 s2],[],[(79,.shared (aj 2 aQ v10)),(81,.shared (aj 2 aQ v11)),(85,.owned (aj 2 aQ v12))]⟩) (vZ v10 v11 v12) (λq=>q=r) hr rfl ?_
 intro s2 hr
 unfold vZ at hr
 refine S.gw [9,20] ?_
 refine gJ hr (λhc hr=> ?_) λhc hr=>D0 hr
 obtain ⟨ZM,hr⟩:=aH hr
 obtain ⟨v13,GV,hr⟩:=bf hr
 obtain ⟨v14,UD,hr⟩:=bf hr
 refine gb GV ?_
 refine gb UD ?_
 refine gJ hr (λhc hr=> ?_) λhc hr=>D1 (S.ss [10,11,85,86,87] [] [(79,79),(81,81),(85,85)]) hr
 refine gr ?_
 refine S.prune [] ?_
 refine S.gx [9] ?_
 exact D0 hr
def wu (x0:au):Bd (aA×Int) (Int×Int):=λs1=>
 if (decide (s1.2<(x0.length:Int)))=true then
  if 0<=s1.2/\s1.2<(x0.length:Int) then
   aW (Ua (x0.getD s1.2.toNat default) s1.1) λv3=>
    if (v3 != 0)=true then
     .out (some (s1.2,v3))
     else .next ((x0.getD s1.2.toNat default),IntKind.i64.wrap (s1.2+1))
   else .out none
  else .out (some (0,0))
def Zk (x2 x1:Int) (x3:aA) (x0:au):Option (Int×Int):=
 (Bh x2 1 12).bind λv1=>
  if (!(!v1))=true->(Bh x1 0 500).isSome=true then
   if ((!v1) || (!((Bh x1 0 500).getD default)))=true then
    some (0,2)
    else (ab6 x3).bind λv2=>
     if (v2.2 != 0)=true then
      some (v2.1,v2.2)
      else if (decide ((x0.length:Int)>4))=true then
       some (0,8)
       else aK (wu x0) 1000000000 ([],0)
   else none
@[go_sem] def amJ:=Zp JM false Zk
@[go_sem] def aqz (k:Nat):=lk [(190,RI.sp),(191,ays.sp),(192,ayr.sp)] k
theorem f135:aF prog 135 amJ.sp:=by
 refine vm (tb:=aqz) (.cons f190 (.cons f191 (.cons f192 .nil))) func135 ntmps135 λ⟨x2,x1,x3,x0⟩ r hr stop S=> ?_
 rw [uq4,Zk] at hr
 refine S.gx [] ?_
 obtain ⟨v1,hv1,hr⟩:=aB hr
 obtain ⟨hg5,hr⟩:=aP hr
 try simp only [hv1,oG,oI,true_and,and_assoc]
 repeat (first | refine gG hg5 ?_ | refine gA ?_ | refine gB ?_)
 refine iW hr (λhc hr=>D0 hr) λhc hr=> ?_
 obtain ⟨v2,hv2,hr⟩:=aB hr
 refine gb hv2 ?_
 refine iW hr (λhc hr=>D0 hr) λhc hr=> ?_
 refine gr ?_
 refine iW hr (λhc hr=>D0 hr) λhc hr=> ?_
 refine gr ?_
 refine S.li [6,35,36,37] [] [] (λs1=>⟨[(6,.c (.d (aj 2 aQ s1.1))),(35,.c (.d (aj 1 aU x0))),sI 36 (x0.length:Int),sI 37 s1.2],[],[]⟩) (wu x0) (λq=>q=r) hr rfl ?_
 intro s1 hr
 unfold wu at hr
 refine S.gx [] ?_
 exact D1 (S.ss [6,35,36,37] [] []) hr
end Go.Proofs.YtnepigpnlnmlmaaGreatDoor

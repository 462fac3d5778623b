/- Contracts of functions, written by wip/dec. -/
import Derived.Test.YtofkgmldcjagmaaGreatDoorF00
set_option linter.unusedVariables false
set_option linter.unusedSimpArgs false
set_option linter.constructorNameAsVariable false
set_option maxHeartbeats 4000000
set_option maxRecDepth 20000
namespace Go.Proofs.YtofkgmldcjagmaaGreatDoor
open Go.dG
section
variable {β:Type} [Inhabited β] (u:β→List RV) (al:Bool)
def qw6 (a0:aj):List Arg:=[.c (ah 1 aN a0)]
def qd6:List Arg→aj
 | [.c c0]=>aG bP c0
 | _=>default
def qT6 (r:aj→Option β):=mkT (u1 qw6) qd6 (u1 r) u al
attribute [go_sem] qw6 qd6 qT6
def qw8 (a0 a1 a2 a3:Int):List Arg:=[.agg [.int .i64 a0,.int .i64 a1],.agg [.int .i64 a2,.int .i64 a3]]
def qd8:List Arg→Int×Int×Int×Int
 | [.agg [c0,c1],.agg [c2,c3]]=>(aB c0,aB c1,aB c2,aB c3)
 | _=>default
def qT8 (r:Int→Int→Int→Int→Option β):=mkT (u4 qw8) qd8 (u4 r) u al
attribute [go_sem] qw8 qd8 qT8
def qw9 (a0:au) (a1 a2:Int):List Arg:=[.c (ah 2 aO a0),.agg [.int .i64 a1,.int .i64 a2],.clo 165 []]
def qd9:List Arg→au×Int×Int
 | [.c c0,.agg [c1,c2],.clo _ []]=>(aG bW c0,aB c1,aB c2)
 | _=>default
def qT9 (r:au→Int→Int→Option β):=mkT (u3 qw9) qd9 (u3 r) u al
attribute [go_sem] qw9 qd9 qT9
def apm (a0:au) (a1 a2:Int):List Arg:=[.c (ah 2 aO a0),.agg [.int .i64 a1,.int .i64 a2]]
def aq1:List Arg→au×Int×Int
 | [.c c0,.agg [c1,c2]]=>(aG bW c0,aB c1,aB c2)
 | _=>default
def arU (r:au→Int→Int→Option β):=mkT (u3 apm) aq1 (u3 r) u al
attribute [go_sem] apm aq1 arU
end
def r28:Option (Int×Int×au×aj×aZ×aZ×au×Int×Int):=
 some (3,500,[(0,300),(1000,800),(3000,1300)],[[(300,0)],[(300,0),(1300,400)]],[0,0,0],[0,0,0],[(1000,1000),(500,500),(0,0)],0,0)
@[go_sem] def T28:=qT0 qu0 true r28
theorem f28:aF Tryz.prog 28 T28.sp:=by
 refine vm .nil Tryz.func28 Tryz.ntmps28 fun _ r hr stop S=> ?_
 rw [uq0,r28] at hr
 refine S.gx [] ?_
 exact D0 hr
def r29:Option (bD):=
 some [(0,400,0,2,0,Hl.nil),(2,0,1,3,0,Hl.nil)]
@[go_sem] def T29:=qT0 qu1 true r29
theorem f29:aF Tryz.prog 29 T29.sp:=by
 refine vm .nil Tryz.func29 Tryz.ntmps29 fun _ r hr stop S=> ?_
 rw [uq0,r29] at hr
 refine S.gx [] ?_
 exact D0 hr
def WJ (a0 a1 a2:Int):Option (Bool):=
 some ((decide (a1≤a0)) && (decide (a0≤a2)))
@[go_sem] def T83:=qT1 qE false WJ
theorem f83:aF Tryz.prog 83 T83.sp:=by
 refine vm .nil Tryz.func83 Tryz.ntmps83 fun ⟨a0,a1,a2⟩ r hr stop S=> ?_
 rw [Yq,WJ] at hr
 refine S.gx [] ?_
 repeat (first | refine gA ?_ | refine gB ?_)
 exact D0 hr
def nS (a0:Bool) (a1:Int):Option (Int):=
 if a0=true then
  some 0
  else some a1
@[go_sem] def JE:=qT2 lK false nS
theorem f118:aF Tryz.prog 118 JE.sp:=by
 refine vm .nil Tryz.func118 Tryz.ntmps118 fun ⟨a0,a1⟩ r hr stop S=> ?_
 rw [yK,nS] at hr
 refine S.gx [] ?_
 exact D0 hr
def zF (a0:aZ):Bd Int Int:=fun s1=>
 if (decide (s1<(a0.length:Int)))=true then
  if 0≤s1∧s1<(a0.length:Int) then
   if ((a0.getD s1.toNat default) != 0)=true then
    .out (some (a0.getD s1.toNat default))
    else .next (IntKind.i64.wrap (s1+1))
   else .out none
  else .out (some 0)
def AA (a0:aZ):Option (Int):=
 aS (zF a0) 1000000000 0
@[go_sem] def Rz:=qT3 lK false AA
theorem f117:aF Tryz.prog 117 Rz.sp:=by
 refine vm .nil Tryz.func117 Tryz.ntmps117 fun a0 r hr stop S=> ?_
 rw [rF,AA] at hr
 refine S.gx [] ?_
 refine gr ?_
 refine S.sees [5,6,7] [] [] ?_ (Stop.iter S (fun s1=>⟨[(5,.c (.d (ah 1 cO a0))),(6,.c (.d (.int .i64 (a0.length:Int)))),(7,.c (.d (.int .i64 s1)))],[],[]⟩) (zF a0) (fun q=>q=r) hr rfl ?_)
 ·exact lf
 ·intro s1 hr
  unfold zF at hr
  refine S.gx [] ?_
  exact D1 (S.ss [5,6,7] [] []) hr
def WU (a0:Int):Option (Bool):=
 (WJ a0 200 3000).bind fun v1=>
  some v1
@[go_sem] def aki:=KT qE false WU
@[go_sem] def anL (k:Nat):=lk [(83,T83.sp)] k
theorem f119:aF Tryz.prog 119 aki.sp:=by
 refine vm (tb:=anL) (.cons f83 .nil) Tryz.func119 Tryz.ntmps119 fun a0 r hr stop S=> ?_
 rw [rF,WU] at hr
 refine S.gx [] ?_
 exact D0 hr
def Ep (a0:au):Bd Int (Int×Int):=fun s1=>
 if (decide (s1<(a0.length:Int)))=true then
  if 0≤s1∧s1<(a0.length:Int) then
   aP (WJ ((a0.getD s1.toNat default).1) 0 1000000) fun v4=>
    if v4=true→(WU ((a0.getD s1.toNat default).2)).isSome=true then
     aP (nS (v4 && ((WU ((a0.getD s1.toNat default).2)).getD default)) 2) fun v5=>
      if ((v5 == 0) && (decide (s1>0)))=true then
       if 0≤IntKind.i64.wrap (s1 - 1)∧IntKind.i64.wrap (s1 - 1)<(a0.length:Int) then
        if 0≤IntKind.i64.wrap (s1 - 1)∧IntKind.i64.wrap (s1 - 1)<(a0.length:Int) then
         aP (nS ((decide ((IntKind.i64.wrap (((a0.getD s1.toNat default).1) - ((a0.getD (IntKind.i64.wrap (s1 - 1)).toNat default).1)))>0)) && (decide ((IntKind.i64.wrap (((a0.getD s1.toNat default).2) - ((a0.getD (IntKind.i64.wrap (s1 - 1)).toNat default).2)))>0))) 9) fun v6=>
          aP (nS (decide ((IntKind.i64.wrap (((a0.getD s1.toNat default).2) - ((a0.getD (IntKind.i64.wrap (s1 - 1)).toNat default).2)))≤(IntKind.i64.wrap (((a0.getD s1.toNat default).1) - ((a0.getD (IntKind.i64.wrap (s1 - 1)).toNat default).1))))) 22) fun v7=>
           aP (AA [v6,v7]) fun v8=>
            if (v8 != 0)=true then
             .out (some (s1,v8))
             else .next (IntKind.i64.wrap (s1+1))
         else .out none
        else .out none
       else if (v5 != 0)=true then
        .out (some (s1,v5))
        else .next (IntKind.i64.wrap (s1+1))
     else .out none
   else .out none
  else .out (some (0,0))
def r84 (a0:au):Option (Int×Int):=
 (nS (decide ((a0.length:Int)≥2)) 10).bind fun v1=>
  (nS (decide ((a0.length:Int)≤8)) 8).bind fun v2=>
   (AA [v1,v2]).bind fun v3=>
    if (v3 != 0)=true then
     some (0,v3)
     else aS (Ep a0) 1000000000 0
@[go_sem] def T84:=qT5 KR false r84
@[go_sem] def ayx (k:Nat):=lk [(83,T83.sp),(117,Rz.sp),(118,JE.sp),(119,aki.sp)] k
theorem f84:aF Tryz.prog 84 T84.sp:=by
 refine vm (tb:=ayx) (.cons f83 (.cons f117 (.cons f118 (.cons f119 .nil)))) Tryz.func84 Tryz.ntmps84 fun a0 r hr stop S=> ?_
 rw [rF,r84] at hr
 refine S.gx [10] ?_
 obtain ⟨v1,hv1,hr⟩:=aA hr
 obtain ⟨v2,hv2,hr⟩:=aA hr
 obtain ⟨v3,hv3,hr⟩:=aA hr
 refine gb hv1 ?_
 refine gb hv2 ?_
 refine gb hv3 ?_
 refine iW hr (fun hc hr=>D0 hr) fun hc hr=> ?_
 refine gr ?_
 refine S.sees [0,23,24,25] [] [] ?_ (Stop.iter S (fun s1=>⟨[(0,.c (.d (ah 2 aO a0))),(23,.c (.d (ah 2 aO a0))),(24,.c (.d (.int .i64 (a0.length:Int)))),(25,.c (.d (.int .i64 s1)))],[],[]⟩) (Ep a0) (fun q=>q=r) hr rfl ?_)
 ·exact lf
 ·intro s1 hr
  unfold Ep at hr
  refine S.gx [10] ?_
  refine gr ?_
  refine dM hr (fun hc hr=> ?_) fun hc hr=>D0 hr
  obtain ⟨LZ,hr⟩:=aC hr
  obtain ⟨v4,hv4,hr⟩:=aQ hr
  obtain ⟨LY,hr⟩:=aC hr
  obtain ⟨v5,hv5,hr⟩:=aQ hr
  try simp only [hv4,hv5,Option.getD_some,Option.isSome_some,true_and,and_assoc]
  repeat (first | refine gG LY ?_ | refine gA ?_ | refine gB ?_)
  refine dM hr (fun hc hr=> ?_) fun hc hr=>D1 (S.ss [0,23,24,25] [] []) hr
  obtain ⟨hg9,hr⟩:=aC hr
  obtain ⟨Dw,hr⟩:=aC hr
  refine gr ?_
  refine S.prune [0,5,8,9,23,24,25] ?_
  refine S.gx [] ?_
  obtain ⟨v6,hv6,hr⟩:=aQ hr
  obtain ⟨v7,hv7,hr⟩:=aQ hr
  obtain ⟨v8,Xk,hr⟩:=aQ hr
  try simp only [hv6,hv7,Xk,Option.getD_some,Option.isSome_some,true_and,and_assoc]
  repeat (first | refine gA ?_ | refine gB ?_)
  exact D1 (S.ss [0,23,24,25] [] []) hr
def zD (a0:au):Bd ((List (Int×Int))×Int) au:=fun s1=>
 if (decide (s1.2<(a0.length:Int)))=true then
  if 0≤s1.2∧s1.2<(a0.length:Int) then
   if (s1.1.length+1)*16≤140737488355328∧s1.1.length+1≤9223372036854775807 then
    .next (s1.1++[((a0.getD s1.2.toNat default).1,(a0.getD s1.2.toNat default).2)],IntKind.i64.wrap (s1.2+1))
    else .out none
   else .out none
  else .out (some s1.1)
def IB (a0:au):Option (au):=
 aS (zD a0) 1000000000 ([],0)
@[go_sem] def akh:=qT5 qu5 false IB
theorem f120:aF Tryz.prog 120 akh.sp:=by
 refine vm .nil Tryz.func120 Tryz.ntmps120 fun a0 r hr stop S=> ?_
 rw [rF,IB] at hr
 refine S.gx [] ?_
 refine gr ?_
 refine S.O8 3 1000300 2 rfl rfl ?_
 refine S.sees [3,6,7,8] [] [(1000300,1000300)] ?_ (Stop.iter S (fun s1=>⟨[(3,.c (.own 1000300)),(6,.c (.d (ah 2 aO a0))),(7,.c (.d (.int .i64 (a0.length:Int)))),(8,.c (.d (.int .i64 s1.2)))],[],[(1000300,.owned (ah 2 aO s1.1))]⟩) (zD a0) (fun q=>q=r) hr rfl ?_)
 ·exact lf
 ·intro s1 hr
  unfold zD at hr
  refine S.gx [] ?_
  exact D1 (S.ss [3,6,7,8] [] [(19,1000300)]) hr
theorem aaT (w:World) (m:Nat) (h0:0<m) (h1:m≤1000000) :
 Calls Tryz.prog 163 #[.slice none 0 0,.int .i64 (m:Int)] w fun e w'=>∃ v,e= .returned v∧∃ cap c,v= .slice (some ⟨w.heap.size,0,none⟩) 0 cap∧w'=w.drew.alloc (.cells c 232)∧c.size=cap*2:=by
 have hbytes:Tryz.t232.bytes=16:=rfl
 have hns:Builtin.nextslicecap m 0=m:=nextslicecap_zero h0
 go_enter Tryz.func163,Tryz.ntmps163
 go_wp2
 all_goals try (exfalso; simp only [hbytes,hns] at *; omega)
 all_goals go_ret
 refine ⟨_,rfl,_,rfl,_,rfl,?_⟩
 have hcap:=grownCap_ge w m 0 232
 simp only [grownCap] at hcap
 simp [Builtin.zeroCells]
 omega
theorem aaS (w:World) :
 Calls Tryz.prog 163 #[.slice none 0 0,.int .i64 0] w fun e w'=>∃ v,e= .returned v∧v= .slice none 0 0∧w'=w:=by
 go_enter Tryz.func163,Tryz.ntmps163
 go_wp2
 all_goals go_ret
 exact ⟨_,rfl,rfl,rfl⟩
theorem ae0 (n:Int) (h0:0≤n) (h1:n≤1000000) (w:World):Calls Tryz.prog 163 #[.slice none 0 0,.int .i64 n] w fun e w'=>∃ v,e= .returned v∧Ez 2 w w' v:=by
 obtain ⟨m,rfl⟩:∃ m:Nat,n=m:=⟨n.toNat,by omega⟩
 rcases Nat.eq_zero_or_pos m with rfl | hm
 ·refine (aaS w).mono ?_
  rintro e w' ⟨v,rfl,rfl,rfl⟩
  exact ⟨_,rfl,.refl _,Nat.le_refl _,fun _ _=>rfl,.inl rfl⟩
 ·refine (aaT w m hm (by omega)).mono ?_
  rintro e w' ⟨v,rfl,cap,c,rfl,rfl,hc⟩
  have hh:(w.drew.alloc (.cells c 232)).heap=w.heap.push (.cells c 232 (0,0)):=rfl
  refine ⟨_,rfl,⟨rfl,rfl,rfl⟩,by rw [hh,Array.size_push]; exact Nat.le_succ _,fun B hB=> ?_,.inr ⟨_,cap,c,_,rfl,Nat.le_refl _,by rw [hh,Array.size_push]; exact Nat.lt_succ_self _,by rw [hh,Array.getElem?_push_size],hc⟩⟩
  rw [hh,Array.getElem?_push,if_neg (Nat.ne_of_lt hB)]
def wH (a0:aj):Bd (Int×(List (Int×Int))) au:=fun s2=>
 if (decide (s2.1<(a0.length:Int)))=true then
  if 0≤s2.1∧s2.1<(a0.length:Int) then
   if (s2.2.length+(a0.getD s2.1.toNat default).length)*16≤140737488355328∧s2.2.length+(a0.getD s2.1.toNat default).length≤9223372036854775807 then
    .next (IntKind.i64.wrap (s2.1+1),s2.2++(a0.getD s2.1.toNat default))
    else .out none
   else .out none
  else .out (some s2.2)
def wI (a0:aj):Bd (Int×Int) au:=fun s1=>
 if (decide (s1.2<(a0.length:Int)))=true then
  if 0≤s1.2∧s1.2<(a0.length:Int) then
   if (decide ((IntKind.i64.wrap (s1.1+((a0.getD s1.2.toNat default).length:Int)))<0))=true then
    .out none
    else .next (IntKind.i64.wrap (s1.1+((a0.getD s1.2.toNat default).length:Int)),IntKind.i64.wrap (s1.2+1))
   else .out none
  else .out (if 0≤s1.1∧s1.1≤1000000 then
   aS (wH a0) 1000000000 (0,([]:List (Int×Int)))
   else none)
def WT (a0:aj):Option (au):=
 aS (wI a0) 1000000000 (0,0)
@[go_sem] def avp:=qT6 qu5 false WT
theorem f121:aF Tryz.prog 121 avp.sp:=by
 refine vm .nil Tryz.func121 Tryz.ntmps121 fun a0 r hr stop S=> ?_
 rw [rF,WT] at hr
 refine S.gx [9] ?_
 refine gr ?_
 refine S.sees [0,3,9,10,11] [] [] ?_ (Stop.iter S (fun s1=>⟨[(0,.c (.d (ah 1 aN a0))),(3,.c (.d (.int .i64 s1.1))),(9,.c (.d (ah 1 aN a0))),(10,.c (.d (.int .i64 (a0.length:Int)))),(11,.c (.d (.int .i64 s1.2)))],[],[]⟩) (wI a0) (fun q=>q=r) hr rfl ?_)
 ·exact lf
 ·intro s1 hr
  unfold wI at hr
  refine S.gx [9] ?_
  refine gr ?_
  refine dM hr (fun hc hr=> ?_) fun hc hr=> ?_
  ·obtain ⟨hg1,hr⟩:=aC hr
   refine gr ?_
   refine dM hr (fun hc hr=> ?_) fun hc hr=>D1 (S.ss [0,3,9,10,11] [] []) hr
   refine gr ?_
   first | cases hr | exact hr.elim
  ·refine gr ?_
   have hr:=bK hr
   refine gr ?_
   obtain ⟨hg2,hr⟩:=aH hr
   refine gr ?_
   refine S.abX 1 23 24 3000024 2 rfl rfl rfl rfl (by decide) Tryz.func163 (by decide) rfl (ae0 _ hg2.1 hg2.2) ?_
   refine gs ?_
   refine gr ?_
   refine S.gx [9] ?_
   refine gr ?_
   refine gr ?_
   refine S.sees [6,25,26,27] [] [(3000024,3000024)] ?_ (Stop.iter S (fun s2=>⟨[(6,.c (.own 3000024)),(25,.c (.d (ah 1 aN a0))),(26,.c (.d (.int .i64 (a0.length:Int)))),(27,.c (.d (.int .i64 s2.1)))],[],[(3000024,.owned (ah 2 aO s2.2))]⟩) (wH a0) (fun q=>q=r) hr rfl ?_)
   ·exact lf
   ·intro s2 hr
    unfold wH at hr
    refine S.gx [9] ?_
    exact D1 (S.ss [6,25,26,27] [] [(33,3000024)]) hr
def KJ (a0:Int):Option (Bool):=
 some (a0 != a0)
@[go_sem] def aj':=KT qE false KJ
theorem f193:aF Tryz.prog 193 aj'.sp:=by
 refine vm .nil Tryz.func193 Tryz.ntmps193 fun a0 r hr stop S=> ?_
 rw [rF,KJ] at hr
 refine S.gx [] ?_
 exact D0 hr
def aee (a0 a1:Int):Option (Int):=
 (KJ a0).bind fun v1=>
  (KJ a1).bind fun v2=>
   if v1=true then
    if v2=true then
     some 0
     else some (-1)
    else if v2=true then
     some 1
     else if (decide (a0<a1))=true then
      some (-1)
      else if (decide (a0>a1))=true then
       some 1
       else some 0
@[go_sem] def au3:=qT7 lK false aee
@[go_sem] def anh (k:Nat):=lk [(193,aj'.sp)] k
theorem f166:aF Tryz.prog 166 au3.sp:=by
 refine vm (tb:=anh) (.cons f193 .nil) Tryz.func166 Tryz.ntmps166 fun ⟨a0,a1⟩ r hr stop S=> ?_
 rw [yK,aee] at hr
 refine S.gx [] ?_
 exact D0 hr
def OX (x0 x3 x1 x2:Int):Option (Int):=
 (aee (IntKind.i64.wrap (x0*x2)) x1).bind fun v1=>
  some v1
@[go_sem] def au4:=qT8 lK false OX
@[go_sem] def ani (k:Nat):=lk [(166,au3.sp)] k
theorem f165:aF Tryz.prog 165 au4.sp:=by
 refine vm (tb:=ani) (.cons f166 .nil) Tryz.func165 Tryz.ntmps165 fun ⟨x0,x3,x1,x2⟩ r hr stop S=> ?_
 rw [uq4,OX] at hr
 refine S.gx [] ?_
 exact D0 hr
def zA (a0:au) (x0 x1:Int):Bd (Int×Int) (Int×Bool):=fun s1=>
 if (decide (s1.1<s1.2))=true then
  if 0≤IntKind.i64.wrap ((IntKind.u64.wrap (IntKind.i64.wrap (s1.1+s1.2))) / 2 ^ 1)∧IntKind.i64.wrap ((IntKind.u64.wrap (IntKind.i64.wrap (s1.1+s1.2))) / 2 ^ 1)<(a0.length:Int) then
   aP (OX ((a0.getD (IntKind.i64.wrap ((IntKind.u64.wrap (IntKind.i64.wrap (s1.1+s1.2))) / 2 ^ 1)).toNat default).1) ((a0.getD (IntKind.i64.wrap ((IntKind.u64.wrap (IntKind.i64.wrap (s1.1+s1.2))) / 2 ^ 1)).toNat default).2) x0 x1) fun v1=>
    if (decide (v1<0))=true then
     .next (IntKind.i64.wrap ((IntKind.i64.wrap ((IntKind.u64.wrap (IntKind.i64.wrap (s1.1+s1.2))) / 2 ^ 1))+1),s1.2)
     else .next (s1.1,IntKind.i64.wrap ((IntKind.u64.wrap (IntKind.i64.wrap (s1.1+s1.2))) / 2 ^ 1))
   else .out none
  else .out (if (decide (s1.1<(a0.length:Int)))=true→0≤s1.1∧s1.1<(a0.length:Int) then
   if (decide (s1.1<(a0.length:Int)))=true→(OX ((a0.getD s1.1.toNat default).1) ((a0.getD s1.1.toNat default).2) x0 x1).isSome=true then
    some (s1.1,(decide (s1.1<(a0.length:Int))) && (((OX ((a0.getD s1.1.toNat default).1) ((a0.getD s1.1.toNat default).2) x0 x1).getD default) == 0))
    else none
   else none)
def aef (a0:au) (x0 x1:Int):Option (Int×Bool):=
 aS (zA a0 x0 x1) 1000000000 (0,(a0.length:Int))
@[go_sem] def au5:=qT9 qu6 false aef
@[go_sem] def anj (k:Nat):=lk [(165,au4.sp)] k
theorem f164:aF Tryz.prog 164 au5.sp:=by
 refine vm (tb:=anj) (.cons f165 .nil) Tryz.func164 Tryz.ntmps164 fun ⟨a0,x0,x1⟩ r hr stop S=> ?_
 rw [Yq,aef] at hr
 refine S.gx [] ?_
 refine gr ?_
 refine S.sees [0,2,4,8,9,10] [(4,4)] [] ?_ (Stop.iter S (fun s1=>⟨[(0,.c (.d (ah 2 aO a0))),(2,.c (.clo 165 [])),(4,.c (.ref 4 0)),(8,.c (.d (.int .i64 (a0.length:Int)))),(9,.c (.d (.int .i64 s1.1))),(10,.c (.d (.int .i64 s1.2)))],[(4,[.d (.int .i64 x0),.d (.int .i64 x1)])],[]⟩) (zA a0 x0 x1) (fun q=>q=r) hr rfl ?_)
 ·exact lf
 ·intro s1 hr
  unfold zA at hr
  refine S.gx [] ?_
  refine gr ?_
  refine dM hr (fun hc hr=>D1 (S.ss [0,2,4,8,9,10] [(4,4)] []) hr) fun hc hr=> ?_
  refine gr ?_
  have hr:=bK hr
  obtain ⟨hg3,hr⟩:=aH hr
  obtain ⟨hg4,hr⟩:=aH hr
  repeat (first | refine gG hg3 ?_ | refine gG hg4 ?_ | refine gA ?_ | refine gB ?_)
  exact D0 hr
def Az (a0:au) (x1 x0:Int):Option (Int×Int):=
 (aef a0 x1 x0).bind fun v1=>
  if ((a0.length:Int) == 0)=true then
   some (0,1)
   else if (v1.1 == 0)=true then
    if 0≤0∧0<(a0.length:Int) then
     some ((a0.getD 0 default).2,1)
     else none
    else if (v1.1 == (a0.length:Int))=true then
     if 0≤IntKind.i64.wrap (v1.1 - 1)∧IntKind.i64.wrap (v1.1 - 1)<(a0.length:Int) then
      some ((a0.getD (IntKind.i64.wrap (v1.1 - 1)).toNat default).2,1)
      else none
     else if 0≤IntKind.i64.wrap (v1.1 - 1)∧IntKind.i64.wrap (v1.1 - 1)<(a0.length:Int) then
      if 0≤v1.1∧v1.1<(a0.length:Int) then
       some (IntKind.i64.wrap ((IntKind.i64.wrap (((a0.getD (IntKind.i64.wrap (v1.1 - 1)).toNat default).2)*(IntKind.i64.wrap ((IntKind.i64.wrap (((a0.getD v1.1.toNat default).1) - ((a0.getD (IntKind.i64.wrap (v1.1 - 1)).toNat default).1)))*x0))))+(IntKind.i64.wrap ((IntKind.i64.wrap (((a0.getD v1.1.toNat default).2) - ((a0.getD (IntKind.i64.wrap (v1.1 - 1)).toNat default).2)))*(IntKind.i64.wrap (x1 - (IntKind.i64.wrap (((a0.getD (IntKind.i64.wrap (v1.1 - 1)).toNat default).1)*x0))))))),IntKind.i64.wrap ((IntKind.i64.wrap (((a0.getD v1.1.toNat default).1) - ((a0.getD (IntKind.i64.wrap (v1.1 - 1)).toNat default).1)))*x0))
       else none
      else none
@[go_sem] def afK:=arU qu7 false Az
@[go_sem] def anK (k:Nat):=lk [(164,au5.sp)] k
theorem f122:aF Tryz.prog 122 afK.sp:=by
 refine vm (tb:=anK) (.cons f164 .nil) Tryz.func122 Tryz.ntmps122 fun ⟨a0,x1,x0⟩ r hr stop S=> ?_
 rw [Yq,Az] at hr
 refine S.gx [9] ?_
 obtain ⟨v1,hv1,hr⟩:=aA hr
 refine gb hv1 ?_
 refine iW hr (fun hc hr=>D0 hr) fun hc hr=> ?_
 refine gr ?_
 refine iW hr (fun hc hr=>D0 hr) fun hc hr=> ?_
 refine gr ?_
 refine iW hr (fun hc hr=>D0 hr) fun hc hr=> ?_
 obtain ⟨hg4,hr⟩:=aH hr
 obtain ⟨hg5,hr⟩:=aH hr
 refine gr ?_
 refine S.prune [3,4,7,8] ?_
 refine S.gx [] ?_
 exact D0 hr
def Aj (v10 v11 v12:au):Bd Int Int:=fun s2=>
 if (decide (s2<(v12.length:Int)))=true then
  if 0≤s2∧s2<(v12.length:Int) then
   aP (Az v10 ((v12.getD s2.toNat default).1) 1) fun v13=>
    aP (Az v11 ((v12.getD s2.toNat default).1) 1) fun v14=>
     if (decide ((IntKind.i64.wrap (v13.1*v14.2))<(IntKind.i64.wrap (v14.1*v13.2))))=true then
      .out (some 13)
      else .next (IntKind.i64.wrap (s2+1))
   else .out none
  else .out (some 0)
def GX (a0 a1:au):Bd Int Int:=fun s1=>
 if (decide (s1<(a0.length:Int)))=true then
  if 0≤s1∧s1<(a0.length:Int) then
   aP (WU ((a0.getD s1.toNat default).1)) fun v1=>
    if v1=true→(WJ ((a0.getD s1.toNat default).2) 0 1000).isSome=true then
     aP (nS (v1 && ((WJ ((a0.getD s1.toNat default).2) 0 1000).getD default)) 2) fun v2=>
      if ((v2 == 0) && (decide (s1>0)))=true then
       if 0≤IntKind.i64.wrap (s1 - 1)∧IntKind.i64.wrap (s1 - 1)<(a0.length:Int) then
        if 0≤IntKind.i64.wrap (s1 - 1)∧IntKind.i64.wrap (s1 - 1)<(a0.length:Int) then
         aP (nS ((decide ((IntKind.i64.wrap (((a0.getD s1.toNat default).1) - ((a0.getD (IntKind.i64.wrap (s1 - 1)).toNat default).1)))>0)) && (decide ((IntKind.i64.wrap (((a0.getD s1.toNat default).2) - ((a0.getD (IntKind.i64.wrap (s1 - 1)).toNat default).2)))≥0))) 9) fun v3=>
          aP (nS (decide ((IntKind.i64.wrap (2*(IntKind.i64.wrap (((a0.getD s1.toNat default).2) - ((a0.getD (IntKind.i64.wrap (s1 - 1)).toNat default).2)))))≤(IntKind.i64.wrap (((a0.getD s1.toNat default).1) - ((a0.getD (IntKind.i64.wrap (s1 - 1)).toNat default).1))))) 22) fun v4=>
           aP (AA [v3,v4]) fun v5=>
            if (v5 != 0)=true then
             .out (some v5)
             else .next (IntKind.i64.wrap (s1+1))
         else .out none
        else .out none
       else if (v2 != 0)=true then
        .out (some v2)
        else .next (IntKind.i64.wrap (s1+1))
     else .out none
   else .out none
  else .out ((IB a0).bind fun v10=>
   (IB a1).bind fun v11=>
    (WT [v10,v11]).bind fun v12=>
     aS (Aj v10 v11 v12) 1000000000 0)
def r85 (a0 a1:au):Option (Int):=
 if (decide ((a0.length:Int)>6))=true then
  some 8
  else aS (GX a0 a1) 1000000000 0
@[go_sem] def T85:=Zu lK false r85
@[go_sem] def ayw (k:Nat):=lk [(83,T83.sp),(117,Rz.sp),(118,JE.sp),(119,aki.sp),(120,akh.sp),(121,avp.sp),(122,afK.sp)] k
theorem f85:aF Tryz.prog 85 T85.sp:=by
 refine vm (tb:=ayw) (.cons f83 (.cons f117 (.cons f118 (.cons f119 (.cons f120 (.cons f121 (.cons f122 .nil))))))) Tryz.func85 Tryz.ntmps85 fun ⟨a0,a1⟩ r hr stop S=> ?_
 rw [yK,r85] at hr
 refine S.gx [9,20] ?_
 refine gr ?_
 refine iW hr (fun hc hr=>D0 hr) fun hc hr=> ?_
 refine gr ?_
 refine S.sees [0,1,20,21,22] [] [] ?_ (Stop.iter S (fun s1=>⟨[(0,.c (.d (ah 2 aO a0))),(1,.c (.d (ah 2 aO a1))),(20,.c (.d (ah 2 aO a0))),(21,.c (.d (.int .i64 (a0.length:Int)))),(22,.c (.d (.int .i64 s1)))],[],[]⟩) (GX a0 a1) (fun q=>q=r) hr rfl ?_)
 ·exact lf
 ·intro s1 hr
  unfold GX at hr
  refine S.gx [9,20] ?_
  refine gr ?_
  refine dM hr (fun hc hr=> ?_) fun hc hr=> ?_
  ·obtain ⟨Vt,hr⟩:=aC hr
   obtain ⟨v1,hv1,hr⟩:=aQ hr
   obtain ⟨hg9,hr⟩:=aC hr
   obtain ⟨v2,hv2,hr⟩:=aQ hr
   try simp only [hv1,hv2,Option.getD_some,Option.isSome_some,true_and,and_assoc]
   repeat (first | refine gG hg9 ?_ | refine gA ?_ | refine gB ?_)
   refine dM hr (fun hc hr=> ?_) fun hc hr=>D1 (S.ss [0,1,20,21,22] [] []) hr
   obtain ⟨hg6,hr⟩:=aC hr
   obtain ⟨hg7,hr⟩:=aC hr
   refine gr ?_
   refine S.prune [0,1,8,9,20,21,22] ?_
   refine S.gx [20] ?_
   obtain ⟨v3,hv3,hr⟩:=aQ hr
   obtain ⟨v4,hv4,hr⟩:=aQ hr
   obtain ⟨v5,hv5,hr⟩:=aQ hr
   try simp only [hv3,hv4,hv5,Option.getD_some,Option.isSome_some,true_and,and_assoc]
   repeat (first | refine gA ?_ | refine gB ?_)
   exact D1 (S.ss [0,1,20,21,22] [] []) hr
  ·refine gr ?_
   have hr:=bK hr
   obtain ⟨v10,vV,hr⟩:=aA hr
   obtain ⟨v11,Dv,hr⟩:=aA hr
   obtain ⟨v12,Du,hr⟩:=aA hr
   refine gb vV ?_
   refine gb Dv ?_
   refine gb Du ?_
   refine S.sees [10,11,85,86,87] [] [(79,79),(81,81),(85,85)] ?_ (Stop.iter S (fun s2=>⟨[(10,.c (.own 79)),(11,.c (.own 81)),(85,.c (.own 85)),(86,.c (.d (.int .i64 (v12.length:Int)))),(87,.c (.d (.int .i64 s2)))],[],[(79,.shared (ah 2 aO v10)),(81,.shared (ah 2 aO v11)),(85,.owned (ah 2 aO v12))]⟩) (Aj v10 v11 v12) (fun q=>q=r) hr rfl ?_)
   ·exact lf
   ·intro s2 hr
    unfold Aj at hr
    refine S.gx [9,20] ?_
    refine gr ?_
    refine dM hr (fun hc hr=> ?_) fun hc hr=>D0 hr
    obtain ⟨PU,hr⟩:=aC hr
    obtain ⟨v13,aax,hr⟩:=aQ hr
    obtain ⟨v14,ajj,hr⟩:=aQ hr
    refine gb aax ?_
    refine gb ajj ?_
    refine dM hr (fun hc hr=> ?_) fun hc hr=>D1 (S.ss [10,11,85,86,87] [] [(79,79),(81,81),(85,85)]) hr
    refine gr ?_
    refine S.prune [] ?_
    refine S.gx [9] ?_
    exact D0 hr
def Ak (x0:aj):Bd (au×Int) (Int×Int):=fun s1=>
 if (decide (s1.2<(x0.length:Int)))=true then
  if 0≤s1.2∧s1.2<(x0.length:Int) then
   aP (r85 (x0.getD s1.2.toNat default) s1.1) fun v3=>
    if (v3 != 0)=true then
     .out (some (s1.2,v3))
     else .next ((x0.getD s1.2.toNat default),IntKind.i64.wrap (s1.2+1))
   else .out none
  else .out (some (0,0))
def r53 (x2 x1:Int) (x3:au) (x0:aj):Option (Int×Int):=
 (WJ x2 1 12).bind fun v1=>
  if (!(!v1))=true→(WJ x1 0 500).isSome=true then
   if ((!v1) || (!((WJ x1 0 500).getD default)))=true then
    some (0,2)
    else (r84 x3).bind fun v2=>
     if (v2.2 != 0)=true then
      some (v2.1,v2.2)
      else if (decide ((x0.length:Int)>4))=true then
       some (0,8)
       else aS (Ak x0) 1000000000 ([],0)
   else none
@[go_sem] def T53:=WY KR false r53
@[go_sem] def ayP (k:Nat):=lk [(83,T83.sp),(84,T84.sp),(85,T85.sp)] k
theorem f53:aF Tryz.prog 53 T53.sp:=by
 refine vm (tb:=ayP) (.cons f83 (.cons f84 (.cons f85 .nil))) Tryz.func53 Tryz.ntmps53 fun ⟨x2,x1,x3,x0⟩ r hr stop S=> ?_
 rw [uq4,r53] at hr
 refine S.gx [] ?_
 obtain ⟨v1,hv1,hr⟩:=aA hr
 obtain ⟨hg5,hr⟩:=aH hr
 try simp only [hv1,oG,oI,true_and,and_assoc]
 repeat (first | refine gG hg5 ?_ | refine gA ?_ | refine gB ?_)
 refine iW hr (fun hc hr=>D0 hr) fun hc hr=> ?_
 obtain ⟨v2,hv2,hr⟩:=aA hr
 refine gb hv2 ?_
 refine iW hr (fun hc hr=>D0 hr) fun hc hr=> ?_
 refine gr ?_
 refine iW hr (fun hc hr=>D0 hr) fun hc hr=> ?_
 refine gr ?_
 refine S.sees [6,35,36,37] [] [] ?_ (Stop.iter S (fun s1=>⟨[(6,.c (.d (ah 2 aO s1.1))),(35,.c (.d (ah 1 aN x0))),(36,.c (.d (.int .i64 (x0.length:Int)))),(37,.c (.d (.int .i64 s1.2)))],[],[]⟩) (Ak x0) (fun q=>q=r) hr rfl ?_)
 ·exact lf
 ·intro s1 hr
  unfold Ak at hr
  refine S.gx [] ?_
  exact D1 (S.ss [6,35,36,37] [] []) hr
end Go.Proofs.YtofkgmldcjagmaaGreatDoor

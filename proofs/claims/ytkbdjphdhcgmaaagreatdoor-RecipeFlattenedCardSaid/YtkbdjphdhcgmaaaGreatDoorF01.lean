/- Contracts of functions, written by wip/dec. -/
import Derived.Test.YtkbdjphdhcgmaaaGreatDoorF00
set_option linter.unusedVariables false
set_option linter.unusedSimpArgs false
set_option linter.constructorNameAsVariable false
set_option maxHeartbeats 4000000
set_option maxRecDepth 20000
namespace Go.Proofs.YtkbdjphdhcgmaaaGreatDoor
open Go.dR
section
variable {β:Type} [Inhabited β] (u:β->List RV) (al:Bool)
def qw6 (a0:aj):List Arg:=[.c (ah 1 aQ a0)]
def qd6:List Arg->aj
 | [.c c0]=>aG bQ c0
 | _=>default
def qT6 (r:aj->Option β):=mkT (u1 qw6) qd6 (u1 r) u al
attribute [go_sem] qw6 qd6 qT6
def qw8 (a0 a1 a2 a3:Int):List Arg:=[.agg [.int .i64 a0,.int .i64 a1],.agg [.int .i64 a2,.int .i64 a3]]
def qd8:List Arg->Int×Int×Int×Int
 | [.agg [c0,c1],.agg [c2,c3]]=>(aC c0,aC c1,aC c2,aC c3)
 | _=>default
def qT8 (r:Int->Int->Int->Int->Option β):=mkT (u4 qw8) qd8 (u4 r) u al
attribute [go_sem] qw8 qd8 qT8
def qw9 (a0:au) (a1 a2:Int):List Arg:=[.c (ah 2 aT a0),.agg [.int .i64 a1,.int .i64 a2],.clo 193 []]
def qd9:List Arg->au×Int×Int
 | [.c c0,.agg [c1,c2],.clo _ []]=>(aG bY c0,aC c1,aC c2)
 | _=>default
def qT9 (r:au->Int->Int->Option β):=mkT (u3 qw9) qd9 (u3 r) u al
attribute [go_sem] qw9 qd9 qT9
def aqf (a0:au) (a1 a2:Int):List Arg:=[.c (ah 2 aT a0),.agg [.int .i64 a1,.int .i64 a2]]
def arZ:List Arg->au×Int×Int
 | [.c c0,.agg [c1,c2]]=>(aG bY c0,aC c1,aC c2)
 | _=>default
def asT (r:au->Int->Int->Option β):=mkT (u3 aqf) arZ (u3 r) u al
attribute [go_sem] aqf arZ asT
end
def r26:Option (Int×Int×au×aj×bn×bn×au×Int×Int):=
 some (3,500,[(0,300),(1000,800),(3000,1300)],[[(300,0)],[(300,0),(1300,400)]],[0,0,0],[0,0,0],[(1000,1000),(500,500),(0,0)],0,0)
@[go_sem] def T26:=qT0 qu0 true r26
theorem f26:aF Tryz.prog 26 T26.sp:=by
 refine vm .nil Tryz.func26 Tryz.ntmps26 fun _ r hr stop S=> ?_
 rw [uq0,r26] at hr
 refine S.gx [] ?_
 exact D0 hr
def r27:Option (aK):=
 some [(0,400,0,2,0,Hl.nil),(2,0,1,3,0,Hl.nil)]
@[go_sem] def T27:=qT0 qu1 true r27
theorem f27:aF Tryz.prog 27 T27.sp:=by
 refine vm .nil Tryz.func27 Tryz.ntmps27 fun _ r hr stop S=> ?_
 rw [uq0,r27] at hr
 refine S.gx [] ?_
 exact D0 hr
def yQ (a0 a1 a2:Int):Option (Bool):=
 some ((decide (a1<=a0)) && (decide (a0<=a2)))
@[go_sem] def OI:=qT1 oQ false yQ
theorem f144:aF Tryz.prog 144 OI.sp:=by
 refine vm .nil Tryz.func144 Tryz.ntmps144 fun ⟨a0,a1,a2⟩ r hr stop S=> ?_
 rw [Zd,yQ] at hr
 refine S.gx [] ?_
 repeat (first | refine gA ?_ | refine gB ?_)
 exact D0 hr
def nN (a0:Bool) (a1:Int):Option (Int):=
 if a0=true then
  some 0
  else some a1
@[go_sem] def KE:=qT2 lC false nN
theorem f110:aF Tryz.prog 110 KE.sp:=by
 refine vm .nil Tryz.func110 Tryz.ntmps110 fun ⟨a0,a1⟩ r hr stop S=> ?_
 rw [yI,nN] at hr
 refine S.gx [] ?_
 exact D0 hr
def zG (a0:bn):Bd Int Int:=fun s1=>
 if (decide (s1<(a0.length:Int)))=true then
  if 0<=s1/\s1<(a0.length:Int) then
   if ((a0.getD s1.toNat default) != 0)=true then
    .out (some (a0.getD s1.toNat default))
    else .next (IntKind.i64.wrap (s1+1))
   else .out none
  else .out (some 0)
def AP (a0:bn):Option (Int):=
 aS (zG a0) 1000000000 0
@[go_sem] def Tv:=qT3 lC false AP
theorem f111:aF Tryz.prog 111 Tv.sp:=by
 refine vm .nil Tryz.func111 Tryz.ntmps111 fun a0 r hr stop S=> ?_
 rw [oC,AP] at hr
 refine S.gx [] ?_
 refine gr ?_
 refine S.sees [5,6,7] [] [] ?_ (Stop.iter S (fun s1=>⟨[(5,.c (.d (ah 1 cu a0))),(6,.c (.d (.int .i64 (a0.length:Int)))),(7,.c (.d (.int .i64 s1)))],[],[]⟩) (zG a0) (fun q=>q=r) hr rfl ?_)
 ·exact lf
 ·intro s1 hr
  unfold zG at hr
  refine S.gx [] ?_
  exact D1 (S.ss [5,6,7] [] []) hr
def XD (a0:Int):Option (Bool):=
 (yQ a0 200 3000).bind fun v1=>
  some v1
@[go_sem] def ak0:=KQ oQ false XD
@[go_sem] def an0 (k:Nat):=lk [(144,OI.sp)] k
theorem f190:aF Tryz.prog 190 ak0.sp:=by
 refine vm (tb:=an0) (.cons f144 .nil) Tryz.func190 Tryz.ntmps190 fun a0 r hr stop S=> ?_
 rw [oC,XD] at hr
 refine S.gx [] ?_
 exact D0 hr
def wR (a0:au):Bd Int (Int×Int):=fun s1=>
 if (decide (s1<(a0.length:Int)))=true then
  if 0<=s1/\s1<(a0.length:Int) then
   aP (yQ ((a0.getD s1.toNat default).1) 0 1000000) fun v4=>
    if v4=true->(XD ((a0.getD s1.toNat default).2)).isSome=true then
     aP (nN (v4 && ((XD ((a0.getD s1.toNat default).2)).getD default)) 2) fun v5=>
      if ((v5 == 0) && (decide (s1>0)))=true then
       if 0<=IntKind.i64.wrap (s1 - 1)/\IntKind.i64.wrap (s1 - 1)<(a0.length:Int) then
        if 0<=IntKind.i64.wrap (s1 - 1)/\IntKind.i64.wrap (s1 - 1)<(a0.length:Int) then
         aP (nN ((decide ((IntKind.i64.wrap (((a0.getD s1.toNat default).1) - ((a0.getD (IntKind.i64.wrap (s1 - 1)).toNat default).1)))>0)) && (decide ((IntKind.i64.wrap (((a0.getD s1.toNat default).2) - ((a0.getD (IntKind.i64.wrap (s1 - 1)).toNat default).2)))>0))) 9) fun v6=>
          aP (nN (decide ((IntKind.i64.wrap (((a0.getD s1.toNat default).2) - ((a0.getD (IntKind.i64.wrap (s1 - 1)).toNat default).2)))<=(IntKind.i64.wrap (((a0.getD s1.toNat default).1) - ((a0.getD (IntKind.i64.wrap (s1 - 1)).toNat default).1))))) 22) fun v7=>
           aP (AP [v6,v7]) fun v8=>
            if (v8 != 0)=true then
             .out (some (s1,v8))
             else .next (IntKind.i64.wrap (s1+1))
         else .out none
        else .out none
       else if (v5 != 0)=true then
        .out (some (s1,v5))
        else .next (IntKind.i64.wrap (s1+1))
     else .out none
   else .out none
  else .out (some (0,0))
def aae (a0:au):Option (Int×Int):=
 (nN (decide ((a0.length:Int)>=2)) 10).bind fun v1=>
  (nN (decide ((a0.length:Int)<=8)) 8).bind fun v2=>
   (AP [v1,v2]).bind fun v3=>
    if (v3 != 0)=true then
     some (0,v3)
     else aS (wR a0) 1000000000 0
@[go_sem] def av':=qT5 Gq false aae
@[go_sem] def aoo (k:Nat):=lk [(110,KE.sp),(111,Tv.sp),(144,OI.sp),(190,ak0.sp)] k
theorem f145:aF Tryz.prog 145 av'.sp:=by
 refine vm (tb:=aoo) (.cons f110 (.cons f111 (.cons f144 (.cons f190 .nil)))) Tryz.func145 Tryz.ntmps145 fun a0 r hr stop S=> ?_
 rw [oC,aae] at hr
 refine S.gx [10] ?_
 obtain ⟨v1,hv1,hr⟩:=aA hr
 obtain ⟨v2,hv2,hr⟩:=aA hr
 obtain ⟨v3,hv3,hr⟩:=aA hr
 refine gb hv1 ?_
 refine gb hv2 ?_
 refine gb hv3 ?_
 refine iW hr (fun hc hr=>D0 hr) fun hc hr=> ?_
 refine gr ?_
 refine S.sees [0,23,24,25] [] [] ?_ (Stop.iter S (fun s1=>⟨[(0,.c (.d (ah 2 aT a0))),(23,.c (.d (ah 2 aT a0))),(24,.c (.d (.int .i64 (a0.length:Int)))),(25,.c (.d (.int .i64 s1)))],[],[]⟩) (wR a0) (fun q=>q=r) hr rfl ?_)
 ·exact lf
 ·intro s1 hr
  unfold wR at hr
  refine S.gx [10] ?_
  refine gr ?_
  refine cZ hr (fun hc hr=> ?_) fun hc hr=>D0 hr
  obtain ⟨y7,hr⟩:=aB hr
  obtain ⟨v4,hv4,hr⟩:=aI hr
  obtain ⟨y5,hr⟩:=aB hr
  obtain ⟨v5,hv5,hr⟩:=aI hr
  try simp only [hv4,hv5,Option.getD_some,Option.isSome_some,true_and,and_assoc]
  repeat (first | refine gG y5 ?_ | refine gA ?_ | refine gB ?_)
  refine cZ hr (fun hc hr=> ?_) fun hc hr=>D1 (S.ss [0,23,24,25] [] []) hr
  obtain ⟨Nk,hr⟩:=aB hr
  obtain ⟨uX,hr⟩:=aB hr
  refine gr ?_
  refine S.prune [0,5,8,9,23,24,25] ?_
  refine S.gx [] ?_
  obtain ⟨v6,hv6,hr⟩:=aI hr
  obtain ⟨v7,hv7,hr⟩:=aI hr
  obtain ⟨v8,JC,hr⟩:=aI hr
  try simp only [hv6,hv7,JC,Option.getD_some,Option.isSome_some,true_and,and_assoc]
  repeat (first | refine gA ?_ | refine gB ?_)
  exact D1 (S.ss [0,23,24,25] [] []) hr
def zC (a0:au):Bd ((List (Int×Int))×Int) au:=fun s1=>
 if (decide (s1.2<(a0.length:Int)))=true then
  if 0<=s1.2/\s1.2<(a0.length:Int) then
   if (s1.1.length+1)*16<=140737488355328/\s1.1.length+1<=9223372036854775807 then
    .next (s1.1++[((a0.getD s1.2.toNat default).1,(a0.getD s1.2.toNat default).2)],IntKind.i64.wrap (s1.2+1))
    else .out none
   else .out none
  else .out (some s1.1)
def Jf (a0:au):Option (au):=
 aS (zC a0) 1000000000 ([],0)
@[go_sem] def ak5:=qT5 qu5 false Jf
theorem f154:aF Tryz.prog 154 ak5.sp:=by
 refine vm .nil Tryz.func154 Tryz.ntmps154 fun a0 r hr stop S=> ?_
 rw [oC,Jf] at hr
 refine S.gx [] ?_
 refine gr ?_
 refine S.Dp 3 1000300 2 rfl rfl ?_
 refine S.sees [3,6,7,8] [] [(1000300,1000300)] ?_ (Stop.iter S (fun s1=>⟨[(3,.c (.own 1000300)),(6,.c (.d (ah 2 aT a0))),(7,.c (.d (.int .i64 (a0.length:Int)))),(8,.c (.d (.int .i64 s1.2)))],[],[(1000300,.owned (ah 2 aT s1.1))]⟩) (zC a0) (fun q=>q=r) hr rfl ?_)
 ·exact lf
 ·intro s1 hr
  unfold zC at hr
  refine S.gx [] ?_
  exact D1 (S.ss [3,6,7,8] [] [(19,1000300)]) hr
theorem abz (w:World) (m:Nat) (h0:0<m) (h1:m<=1000000) :
 Calls Tryz.prog 213 #[.slice none 0 0,.int .i64 (m:Int)] w fun e w'=>∃ v,e= .returned v/\∃ cap c,v= .slice (some ⟨w.heap.size,0,none⟩) 0 cap/\w'=w.drew.alloc (.cells c 263)/\c.size=cap*2:=by
 have hbytes:Tryz.t263.bytes=16:=rfl
 have hns:Builtin.nextslicecap m 0=m:=nextslicecap_zero h0
 go_enter Tryz.func213,Tryz.ntmps213
 go_wp2
 all_goals try (exfalso; simp only [hbytes,hns] at *; omega)
 all_goals go_ret
 refine ⟨_,rfl,_,rfl,_,rfl,?_⟩
 have hcap:=grownCap_ge w m 0 263
 simp only [grownCap] at hcap
 simp [Builtin.zeroCells]
 omega
theorem aby (w:World) :
 Calls Tryz.prog 213 #[.slice none 0 0,.int .i64 0] w fun e w'=>∃ v,e= .returned v/\v= .slice none 0 0/\w'=w:=by
 go_enter Tryz.func213,Tryz.ntmps213
 go_wp2
 all_goals go_ret
 exact ⟨_,rfl,rfl,rfl⟩
theorem afA (n:Int) (h0:0<=n) (h1:n<=1000000) (w:World):Calls Tryz.prog 213 #[.slice none 0 0,.int .i64 n] w fun e w'=>∃ v,e= .returned v/\EY 2 w w' v:=by
 obtain ⟨m,rfl⟩:∃ m:Nat,n=m:=⟨n.toNat,by omega⟩
 rcases Nat.eq_zero_or_pos m with rfl | hm
 ·refine (aby w).mono ?_
  rintro e w' ⟨v,rfl,rfl,rfl⟩
  exact ⟨_,rfl,.refl _,Nat.le_refl _,fun _ _=>rfl,.inl rfl⟩
 ·refine (abz w m hm (by omega)).mono ?_
  rintro e w' ⟨v,rfl,cap,c,rfl,rfl,hc⟩
  have hh:(w.drew.alloc (.cells c 263)).heap=w.heap.push (.cells c 263 (0,0)):=rfl
  refine ⟨_,rfl,⟨rfl,rfl,rfl⟩,by rw [hh,Array.size_push]; exact Nat.le_succ _,fun B hB=> ?_,.inr ⟨_,cap,c,_,rfl,Nat.le_refl _,by rw [hh,Array.size_push]; exact Nat.lt_succ_self _,by rw [hh,Array.getElem?_push_size],hc⟩⟩
  rw [hh,Array.getElem?_push,if_neg (Nat.ne_of_lt hB)]
def wJ (a0:aj):Bd (Int×(List (Int×Int))) au:=fun s2=>
 if (decide (s2.1<(a0.length:Int)))=true then
  if 0<=s2.1/\s2.1<(a0.length:Int) then
   if (s2.2.length+(a0.getD s2.1.toNat default).length)*16<=140737488355328/\s2.2.length+(a0.getD s2.1.toNat default).length<=9223372036854775807 then
    .next (IntKind.i64.wrap (s2.1+1),s2.2++(a0.getD s2.1.toNat default))
    else .out none
   else .out none
  else .out (some s2.2)
def wK (a0:aj):Bd (Int×Int) au:=fun s1=>
 if (decide (s1.2<(a0.length:Int)))=true then
  if 0<=s1.2/\s1.2<(a0.length:Int) then
   if (decide ((IntKind.i64.wrap (s1.1+((a0.getD s1.2.toNat default).length:Int)))<0))=true then
    .out none
    else .next (IntKind.i64.wrap (s1.1+((a0.getD s1.2.toNat default).length:Int)),IntKind.i64.wrap (s1.2+1))
   else .out none
  else .out (if 0<=s1.1/\s1.1<=1000000 then
   aS (wJ a0) 1000000000 (0,([]:List (Int×Int)))
   else none)
def XC (a0:aj):Option (au):=
 aS (wK a0) 1000000000 (0,0)
@[go_sem] def avJ:=qT6 qu5 false XC
theorem f191:aF Tryz.prog 191 avJ.sp:=by
 refine vm .nil Tryz.func191 Tryz.ntmps191 fun a0 r hr stop S=> ?_
 rw [oC,XC] at hr
 refine S.gx [9] ?_
 refine gr ?_
 refine S.sees [0,3,9,10,11] [] [] ?_ (Stop.iter S (fun s1=>⟨[(0,.c (.d (ah 1 aQ a0))),(3,.c (.d (.int .i64 s1.1))),(9,.c (.d (ah 1 aQ a0))),(10,.c (.d (.int .i64 (a0.length:Int)))),(11,.c (.d (.int .i64 s1.2)))],[],[]⟩) (wK a0) (fun q=>q=r) hr rfl ?_)
 ·exact lf
 ·intro s1 hr
  unfold wK at hr
  refine S.gx [9] ?_
  refine gr ?_
  refine cZ hr (fun hc hr=> ?_) fun hc hr=> ?_
  ·obtain ⟨hg1,hr⟩:=aB hr
   refine gr ?_
   refine cZ hr (fun hc hr=> ?_) fun hc hr=>D1 (S.ss [0,3,9,10,11] [] []) hr
   refine gr ?_
   first | cases hr | exact hr.elim
  ·refine gr ?_
   have hr:=bK hr
   refine gr ?_
   obtain ⟨hg2,hr⟩:=aN hr
   refine gr ?_
   refine S.acL 1 23 24 3000024 2 rfl rfl rfl rfl (by decide) Tryz.func213 (by decide) rfl (afA _ hg2.1 hg2.2) ?_
   refine gs ?_
   refine gr ?_
   refine S.gx [9] ?_
   refine gr ?_
   refine gr ?_
   refine S.sees [6,25,26,27] [] [(3000024,3000024)] ?_ (Stop.iter S (fun s2=>⟨[(6,.c (.own 3000024)),(25,.c (.d (ah 1 aQ a0))),(26,.c (.d (.int .i64 (a0.length:Int)))),(27,.c (.d (.int .i64 s2.1)))],[],[(3000024,.owned (ah 2 aT s2.2))]⟩) (wJ a0) (fun q=>q=r) hr rfl ?_)
   ·exact lf
   ·intro s2 hr
    unfold wJ at hr
    refine S.gx [9] ?_
    exact D1 (S.ss [6,25,26,27] [] [(33,3000024)]) hr
def LV (a0:Int):Option (Bool):=
 some (a0 != a0)
@[go_sem] def akY:=KQ oQ false LV
theorem f214:aF Tryz.prog 214 akY.sp:=by
 refine vm .nil Tryz.func214 Tryz.ntmps214 fun a0 r hr stop S=> ?_
 rw [oC,LV] at hr
 refine S.gx [] ?_
 exact D0 hr
def aeQ (a0 a1:Int):Option (Int):=
 (LV a0).bind fun v1=>
  (LV a1).bind fun v2=>
   if v1=true then
    if v2=true then
     some 0
     else some (-1)
    else if v2=true then
     some 1
     else if (decide (a0<a1))=true then
      some (-1)
      else if (decide (a0>a1))=true then
       some 1
       else some 0
@[go_sem] def avG:=qT7 lC false aeQ
@[go_sem] def anX (k:Nat):=lk [(214,akY.sp)] k
theorem f194:aF Tryz.prog 194 avG.sp:=by
 refine vm (tb:=anX) (.cons f214 .nil) Tryz.func194 Tryz.ntmps194 fun ⟨a0,a1⟩ r hr stop S=> ?_
 rw [yI,aeQ] at hr
 refine S.gx [] ?_
 exact D0 hr
def PY (x0 x3 x1 x2:Int):Option (Int):=
 (aeQ (IntKind.i64.wrap (x0*x2)) x1).bind fun v1=>
  some v1
@[go_sem] def avH:=qT8 lC false PY
@[go_sem] def anY (k:Nat):=lk [(194,avG.sp)] k
theorem f193:aF Tryz.prog 193 avH.sp:=by
 refine vm (tb:=anY) (.cons f194 .nil) Tryz.func193 Tryz.ntmps193 fun ⟨x0,x3,x1,x2⟩ r hr stop S=> ?_
 rw [uq4,PY] at hr
 refine S.gx [] ?_
 exact D0 hr
def zA (a0:au) (x0 x1:Int):Bd (Int×Int) (Int×Bool):=fun s1=>
 if (decide (s1.1<s1.2))=true then
  if 0<=IntKind.i64.wrap ((IntKind.u64.wrap (IntKind.i64.wrap (s1.1+s1.2))) / 2 ^ 1)/\IntKind.i64.wrap ((IntKind.u64.wrap (IntKind.i64.wrap (s1.1+s1.2))) / 2 ^ 1)<(a0.length:Int) then
   aP (PY ((a0.getD (IntKind.i64.wrap ((IntKind.u64.wrap (IntKind.i64.wrap (s1.1+s1.2))) / 2 ^ 1)).toNat default).1) ((a0.getD (IntKind.i64.wrap ((IntKind.u64.wrap (IntKind.i64.wrap (s1.1+s1.2))) / 2 ^ 1)).toNat default).2) x0 x1) fun v1=>
    if (decide (v1<0))=true then
     .next (IntKind.i64.wrap ((IntKind.i64.wrap ((IntKind.u64.wrap (IntKind.i64.wrap (s1.1+s1.2))) / 2 ^ 1))+1),s1.2)
     else .next (s1.1,IntKind.i64.wrap ((IntKind.u64.wrap (IntKind.i64.wrap (s1.1+s1.2))) / 2 ^ 1))
   else .out none
  else .out (if (decide (s1.1<(a0.length:Int)))=true->0<=s1.1/\s1.1<(a0.length:Int) then
   if (decide (s1.1<(a0.length:Int)))=true->(PY ((a0.getD s1.1.toNat default).1) ((a0.getD s1.1.toNat default).2) x0 x1).isSome=true then
    some (s1.1,(decide (s1.1<(a0.length:Int))) && (((PY ((a0.getD s1.1.toNat default).1) ((a0.getD s1.1.toNat default).2) x0 x1).getD default) == 0))
    else none
   else none)
def aeR (a0:au) (x0 x1:Int):Option (Int×Bool):=
 aS (zA a0 x0 x1) 1000000000 (0,(a0.length:Int))
@[go_sem] def avI:=qT9 qu6 false aeR
@[go_sem] def anZ (k:Nat):=lk [(193,avH.sp)] k
theorem f192:aF Tryz.prog 192 avI.sp:=by
 refine vm (tb:=anZ) (.cons f193 .nil) Tryz.func192 Tryz.ntmps192 fun ⟨a0,x0,x1⟩ r hr stop S=> ?_
 rw [Zd,aeR] at hr
 refine S.gx [] ?_
 refine gr ?_
 refine S.sees [0,2,4,8,9,10] [(4,4)] [] ?_ (Stop.iter S (fun s1=>⟨[(0,.c (.d (ah 2 aT a0))),(2,.c (.clo 193 [])),(4,.c (.ref 4 0)),(8,.c (.d (.int .i64 (a0.length:Int)))),(9,.c (.d (.int .i64 s1.1))),(10,.c (.d (.int .i64 s1.2)))],[(4,[.d (.int .i64 x0),.d (.int .i64 x1)])],[]⟩) (zA a0 x0 x1) (fun q=>q=r) hr rfl ?_)
 ·exact lf
 ·intro s1 hr
  unfold zA at hr
  refine S.gx [] ?_
  refine gr ?_
  refine cZ hr (fun hc hr=>D1 (S.ss [0,2,4,8,9,10] [(4,4)] []) hr) fun hc hr=> ?_
  refine gr ?_
  have hr:=bK hr
  obtain ⟨hg3,hr⟩:=aN hr
  obtain ⟨hg4,hr⟩:=aN hr
  repeat (first | refine gG hg3 ?_ | refine gG hg4 ?_ | refine gA ?_ | refine gB ?_)
  exact D0 hr
def AO (a0:au) (x1 x0:Int):Option (Int×Int):=
 (aeR a0 x1 x0).bind fun v1=>
  if ((a0.length:Int) == 0)=true then
   some (0,1)
   else if (v1.1 == 0)=true then
    if 0<=0/\0<(a0.length:Int) then
     some ((a0.getD 0 default).2,1)
     else none
    else if (v1.1 == (a0.length:Int))=true then
     if 0<=IntKind.i64.wrap (v1.1 - 1)/\IntKind.i64.wrap (v1.1 - 1)<(a0.length:Int) then
      some ((a0.getD (IntKind.i64.wrap (v1.1 - 1)).toNat default).2,1)
      else none
     else if 0<=IntKind.i64.wrap (v1.1 - 1)/\IntKind.i64.wrap (v1.1 - 1)<(a0.length:Int) then
      if 0<=v1.1/\v1.1<(a0.length:Int) then
       some (IntKind.i64.wrap ((IntKind.i64.wrap (((a0.getD (IntKind.i64.wrap (v1.1 - 1)).toNat default).2)*(IntKind.i64.wrap ((IntKind.i64.wrap (((a0.getD v1.1.toNat default).1) - ((a0.getD (IntKind.i64.wrap (v1.1 - 1)).toNat default).1)))*x0))))+(IntKind.i64.wrap ((IntKind.i64.wrap (((a0.getD v1.1.toNat default).2) - ((a0.getD (IntKind.i64.wrap (v1.1 - 1)).toNat default).2)))*(IntKind.i64.wrap (x1 - (IntKind.i64.wrap (((a0.getD (IntKind.i64.wrap (v1.1 - 1)).toNat default).1)*x0))))))),IntKind.i64.wrap ((IntKind.i64.wrap (((a0.getD v1.1.toNat default).1) - ((a0.getD (IntKind.i64.wrap (v1.1 - 1)).toNat default).1)))*x0))
       else none
      else none
@[go_sem] def agj:=asT qu7 false AO
@[go_sem] def aoa (k:Nat):=lk [(192,avI.sp)] k
theorem f162:aF Tryz.prog 162 agj.sp:=by
 refine vm (tb:=aoa) (.cons f192 .nil) Tryz.func162 Tryz.ntmps162 fun ⟨a0,x1,x0⟩ r hr stop S=> ?_
 rw [Zd,AO] at hr
 refine S.gx [9] ?_
 obtain ⟨v1,hv1,hr⟩:=aA hr
 refine gb hv1 ?_
 refine iW hr (fun hc hr=>D0 hr) fun hc hr=> ?_
 refine gr ?_
 refine iW hr (fun hc hr=>D0 hr) fun hc hr=> ?_
 refine gr ?_
 refine iW hr (fun hc hr=>D0 hr) fun hc hr=> ?_
 obtain ⟨hg4,hr⟩:=aN hr
 obtain ⟨hg5,hr⟩:=aN hr
 refine gr ?_
 refine S.prune [3,4,7,8] ?_
 refine S.gx [] ?_
 exact D0 hr
def tX (v10 v11 v12:au):Bd Int Int:=fun s2=>
 if (decide (s2<(v12.length:Int)))=true then
  if 0<=s2/\s2<(v12.length:Int) then
   aP (AO v10 ((v12.getD s2.toNat default).1) 1) fun v13=>
    aP (AO v11 ((v12.getD s2.toNat default).1) 1) fun v14=>
     if (decide ((IntKind.i64.wrap (v13.1*v14.2))<(IntKind.i64.wrap (v14.1*v13.2))))=true then
      .out (some 13)
      else .next (IntKind.i64.wrap (s2+1))
   else .out none
  else .out (some 0)
def zF (a0 a1:au):Bd Int Int:=fun s1=>
 if (decide (s1<(a0.length:Int)))=true then
  if 0<=s1/\s1<(a0.length:Int) then
   aP (XD ((a0.getD s1.toNat default).1)) fun v1=>
    if v1=true->(yQ ((a0.getD s1.toNat default).2) 0 1000).isSome=true then
     aP (nN (v1 && ((yQ ((a0.getD s1.toNat default).2) 0 1000).getD default)) 2) fun v2=>
      if ((v2 == 0) && (decide (s1>0)))=true then
       if 0<=IntKind.i64.wrap (s1 - 1)/\IntKind.i64.wrap (s1 - 1)<(a0.length:Int) then
        if 0<=IntKind.i64.wrap (s1 - 1)/\IntKind.i64.wrap (s1 - 1)<(a0.length:Int) then
         aP (nN ((decide ((IntKind.i64.wrap (((a0.getD s1.toNat default).1) - ((a0.getD (IntKind.i64.wrap (s1 - 1)).toNat default).1)))>0)) && (decide ((IntKind.i64.wrap (((a0.getD s1.toNat default).2) - ((a0.getD (IntKind.i64.wrap (s1 - 1)).toNat default).2)))>=0))) 9) fun v3=>
          aP (nN (decide ((IntKind.i64.wrap (2*(IntKind.i64.wrap (((a0.getD s1.toNat default).2) - ((a0.getD (IntKind.i64.wrap (s1 - 1)).toNat default).2)))))<=(IntKind.i64.wrap (((a0.getD s1.toNat default).1) - ((a0.getD (IntKind.i64.wrap (s1 - 1)).toNat default).1))))) 22) fun v4=>
           aP (AP [v3,v4]) fun v5=>
            if (v5 != 0)=true then
             .out (some v5)
             else .next (IntKind.i64.wrap (s1+1))
         else .out none
        else .out none
       else if (v2 != 0)=true then
        .out (some v2)
        else .next (IntKind.i64.wrap (s1+1))
     else .out none
   else .out none
  else .out ((Jf a0).bind fun v10=>
   (Jf a1).bind fun v11=>
    (XC [v10,v11]).bind fun v12=>
     aS (tX v10 v11 v12) 1000000000 0)
def P7 (a0 a1:au):Option (Int):=
 if (decide ((a0.length:Int)>6))=true then
  some 8
  else aS (zF a0 a1) 1000000000 0
@[go_sem] def av9:=aar lC false P7
@[go_sem] def aon (k:Nat):=lk [(110,KE.sp),(111,Tv.sp),(144,OI.sp),(154,ak5.sp),(162,agj.sp),(190,ak0.sp),(191,avJ.sp)] k
theorem f146:aF Tryz.prog 146 av9.sp:=by
 refine vm (tb:=aon) (.cons f110 (.cons f111 (.cons f144 (.cons f154 (.cons f162 (.cons f190 (.cons f191 .nil))))))) Tryz.func146 Tryz.ntmps146 fun ⟨a0,a1⟩ r hr stop S=> ?_
 rw [yI,P7] at hr
 refine S.gx [9,20] ?_
 refine gr ?_
 refine iW hr (fun hc hr=>D0 hr) fun hc hr=> ?_
 refine gr ?_
 refine S.sees [0,1,20,21,22] [] [] ?_ (Stop.iter S (fun s1=>⟨[(0,.c (.d (ah 2 aT a0))),(1,.c (.d (ah 2 aT a1))),(20,.c (.d (ah 2 aT a0))),(21,.c (.d (.int .i64 (a0.length:Int)))),(22,.c (.d (.int .i64 s1)))],[],[]⟩) (zF a0 a1) (fun q=>q=r) hr rfl ?_)
 ·exact lf
 ·intro s1 hr
  unfold zF at hr
  refine S.gx [9,20] ?_
  refine gr ?_
  refine cZ hr (fun hc hr=> ?_) fun hc hr=> ?_
  ·obtain ⟨Wv,hr⟩:=aB hr
   obtain ⟨v1,hv1,hr⟩:=aI hr
   obtain ⟨Nk,hr⟩:=aB hr
   obtain ⟨v2,hv2,hr⟩:=aI hr
   try simp only [hv1,hv2,Option.getD_some,Option.isSome_some,true_and,and_assoc]
   repeat (first | refine gG Nk ?_ | refine gA ?_ | refine gB ?_)
   refine cZ hr (fun hc hr=> ?_) fun hc hr=>D1 (S.ss [0,1,20,21,22] [] []) hr
   obtain ⟨Zg,hr⟩:=aB hr
   obtain ⟨Wx,hr⟩:=aB hr
   refine gr ?_
   refine S.prune [0,1,8,9,20,21,22] ?_
   refine S.gx [20] ?_
   obtain ⟨v3,hv3,hr⟩:=aI hr
   obtain ⟨v4,hv4,hr⟩:=aI hr
   obtain ⟨v5,hv5,hr⟩:=aI hr
   try simp only [hv3,hv4,hv5,Option.getD_some,Option.isSome_some,true_and,and_assoc]
   repeat (first | refine gA ?_ | refine gB ?_)
   exact D1 (S.ss [0,1,20,21,22] [] []) hr
  ·refine gr ?_
   have hr:=bK hr
   obtain ⟨v10,yZ,hr⟩:=aA hr
   obtain ⟨v11,JG,hr⟩:=aA hr
   obtain ⟨v12,JF,hr⟩:=aA hr
   refine gb yZ ?_
   refine gb JG ?_
   refine gb JF ?_
   refine S.sees [10,11,85,86,87] [] [(79,79),(81,81),(85,85)] ?_ (Stop.iter S (fun s2=>⟨[(10,.c (.own 79)),(11,.c (.own 81)),(85,.c (.own 85)),(86,.c (.d (.int .i64 (v12.length:Int)))),(87,.c (.d (.int .i64 s2)))],[],[(79,.shared (ah 2 aT v10)),(81,.shared (ah 2 aT v11)),(85,.owned (ah 2 aT v12))]⟩) (tX v10 v11 v12) (fun q=>q=r) hr rfl ?_)
   ·exact lf
   ·intro s2 hr
    unfold tX at hr
    refine S.gx [9,20] ?_
    refine gr ?_
    refine cZ hr (fun hc hr=> ?_) fun hc hr=>D0 hr
    obtain ⟨abo,hr⟩:=aB hr
    obtain ⟨v13,abg,hr⟩:=aI hr
    obtain ⟨v14,ajZ,hr⟩:=aI hr
    refine gb abg ?_
    refine gb ajZ ?_
    refine cZ hr (fun hc hr=> ?_) fun hc hr=>D1 (S.ss [10,11,85,86,87] [] [(79,79),(81,81),(85,85)]) hr
    refine gr ?_
    refine S.prune [] ?_
    refine S.gx [9] ?_
    exact D0 hr
def Ag (x0:aj):Bd (au×Int) (Int×Int):=fun s1=>
 if (decide (s1.2<(x0.length:Int)))=true then
  if 0<=s1.2/\s1.2<(x0.length:Int) then
   aP (P7 (x0.getD s1.2.toNat default) s1.1) fun v3=>
    if (v3 != 0)=true then
     .out (some (s1.2,v3))
     else .next ((x0.getD s1.2.toNat default),IntKind.i64.wrap (s1.2+1))
   else .out none
  else .out (some (0,0))
def r99 (x2 x1:Int) (x3:au) (x0:aj):Option (Int×Int):=
 (yQ x2 1 12).bind fun v1=>
  if (!(!v1))=true->(yQ x1 0 500).isSome=true then
   if ((!v1) || (!((yQ x1 0 500).getD default)))=true then
    some (0,2)
    else (aae x3).bind fun v2=>
     if (v2.2 != 0)=true then
      some (v2.1,v2.2)
      else if (decide ((x0.length:Int)>4))=true then
       some (0,8)
       else aS (Ag x0) 1000000000 ([],0)
   else none
@[go_sem] def T99:=XT Gq false r99
@[go_sem] def azE (k:Nat):=lk [(144,OI.sp),(145,av'.sp),(146,av9.sp)] k
theorem f99:aF Tryz.prog 99 T99.sp:=by
 refine vm (tb:=azE) (.cons f144 (.cons f145 (.cons f146 .nil))) Tryz.func99 Tryz.ntmps99 fun ⟨x2,x1,x3,x0⟩ r hr stop S=> ?_
 rw [uq4,r99] at hr
 refine S.gx [] ?_
 obtain ⟨v1,hv1,hr⟩:=aA hr
 obtain ⟨hg5,hr⟩:=aN hr
 try simp only [hv1,oG,oI,true_and,and_assoc]
 repeat (first | refine gG hg5 ?_ | refine gA ?_ | refine gB ?_)
 refine iW hr (fun hc hr=>D0 hr) fun hc hr=> ?_
 obtain ⟨v2,hv2,hr⟩:=aA hr
 refine gb hv2 ?_
 refine iW hr (fun hc hr=>D0 hr) fun hc hr=> ?_
 refine gr ?_
 refine iW hr (fun hc hr=>D0 hr) fun hc hr=> ?_
 refine gr ?_
 refine S.sees [6,35,36,37] [] [] ?_ (Stop.iter S (fun s1=>⟨[(6,.c (.d (ah 2 aT s1.1))),(35,.c (.d (ah 1 aQ x0))),(36,.c (.d (.int .i64 (x0.length:Int)))),(37,.c (.d (.int .i64 s1.2)))],[],[]⟩) (Ag x0) (fun q=>q=r) hr rfl ?_)
 ·exact lf
 ·intro s1 hr
  unfold Ag at hr
  refine S.gx [] ?_
  exact D1 (S.ss [6,35,36,37] [] []) hr
section
variable {β:Type} [Inhabited β] (u:β->List RV) (al:Bool)
def aqa (a0:bn) (a1 a2:Int) (a3:au) (a4:aj) (a5:au) (a6:aj):List Arg:=[.c (ah 1 cu a0),.clo 156 [[.int .i64 a1,.int .i64 a2,ah 2 aT a3,ah 1 aQ a4,ah 2 aT a5,ah 1 aQ a6]]]
def arU:List Arg->bn×Int×Int×au×aj×au×aj
 | [.c c0,.clo _ [[c1,c2,c3,c4,c5,c6]]]=>(aG jM c0,aC c1,aC c2,aG bY c3,aG bQ c4,aG bY c5,aG bQ c6)
 | _=>default
def asR (r:bn->Int->Int->au->aj->au->aj->Option β):=mkT (u7 aqa) arU (u7 r) u al
attribute [go_sem] aqa arU asR
def ap' (a0 a1:Int) (a2:au) (a3:aj) (a4:au) (a5:aj) (a6:bn):List Arg:=[.agg [.int .i64 a0,.int .i64 a1,ah 2 aT a2,ah 1 aQ a3,ah 2 aT a4,ah 1 aQ a5],.c (ah 1 cu a6)]
def arT:List Arg->Int×Int×au×aj×au×aj×bn
 | [.agg [c0,c1,c2,c3,c4,c5],.c c6]=>(aC c0,aC c1,aG bY c2,aG bQ c3,aG bY c4,aG bQ c5,aG jM c6)
 | _=>default
def asQ (r:Int->Int->au->aj->au->aj->bn->Option β):=mkT (u7 ap') arT (u7 r) u al
attribute [go_sem] ap' arT asQ
def ap9 (a0 a1:Int) (a2:au) (a3:aj) (a4:au) (a5:aj) (a6 a7:bn):List Arg:=[.agg [.int .i64 a0,.int .i64 a1,ah 2 aT a2,ah 1 aQ a3,ah 2 aT a4,ah 1 aQ a5],.agg [ah 1 cu a6,ah 1 cu a7]]
def arS:List Arg->Int×Int×au×aj×au×aj×bn×bn
 | [.agg [c0,c1,c2,c3,c4,c5],.agg [c6,c7]]=>(aC c0,aC c1,aG bY c2,aG bQ c3,aG bY c4,aG bQ c5,aG jM c6,aG jM c7)
 | _=>default
def asP (r:Int->Int->au->aj->au->aj->bn->bn->Option β):=mkT (u8 ap9) arS (u8 r) u al
attribute [go_sem] ap9 arS asP
def qu9 (v:Int×Int×au×aj×bn×bn×au×Int×Int×Int):List RV:=[.agg [.d (.int .i64 v.1),.d (.int .i64 v.2.1),.d (ah 2 aT v.2.2.1),.d (ah 1 aQ v.2.2.2.1),.d (ah 1 cu v.2.2.2.2.1),.d (ah 1 cu v.2.2.2.2.2.1),.d (ah 2 aT v.2.2.2.2.2.2.1),.d (.int .i64 v.2.2.2.2.2.2.2.1),.d (.int .i64 v.2.2.2.2.2.2.2.2.1)],.c (.d (.int .i64 v.2.2.2.2.2.2.2.2.2))]
attribute [go_sem] qu9
end
def zD (a0:au):Bd ((List (Int×Int))×Int) au:=fun s1=>
 if (decide (s1.2<(a0.length:Int)))=true then
  if 0<=s1.2/\s1.2<(a0.length:Int) then
   if (s1.1.length+1)*16<=140737488355328/\s1.1.length+1<=9223372036854775807 then
    .next (s1.1++[((a0.getD s1.2.toNat default).1,(a0.getD s1.2.toNat default).2)],IntKind.i64.wrap (s1.2+1))
    else .out none
   else .out none
  else .out (some s1.1)
def Z9 (a0:au):Option (au):=
 aS (zD a0) 1000000000 ([],0)
@[go_sem] def av4:=qT5 qu5 false Z9
theorem f153:aF Tryz.prog 153 av4.sp:=by
 refine vm .nil Tryz.func153 Tryz.ntmps153 fun a0 r hr stop S=> ?_
 rw [oC,Z9] at hr
 refine S.gx [] ?_
 refine gr ?_
 refine S.Dp 3 1000300 2 rfl rfl ?_
 refine S.sees [3,6,7,8] [] [(1000300,1000300)] ?_ (Stop.iter S (fun s1=>⟨[(3,.c (.own 1000300)),(6,.c (.d (ah 2 aT a0))),(7,.c (.d (.int .i64 (a0.length:Int)))),(8,.c (.d (.int .i64 s1.2)))],[],[(1000300,.owned (ah 2 aT s1.1))]⟩) (zD a0) (fun q=>q=r) hr rfl ?_)
 ·exact lf
 ·intro s1 hr
  unfold zD at hr
  refine S.gx [] ?_
  exact D1 (S.ss [3,6,7,8] [] [(19,1000300)]) hr
def zH (x2 x3:Int) (x1:au) (x0:aj) (v2:au):Bd (Int×(List (au))) (Int×Int×au×aj×au×aj×Int):=fun s1=>
 if (decide (s1.1<(x0.length:Int)))=true then
  if 0<=s1.1/\s1.1<(x0.length:Int) then
   aP (Jf (x0.getD s1.1.toNat default)) fun v3=>
    if (s1.2.length+1)*24<=140737488355328/\s1.2.length+1<=9223372036854775807 then
     .next (IntKind.i64.wrap (s1.1+1),s1.2++[v3])
     else .out none
   else .out none
  else .out (some (x2,x3,x1,x0,v2,s1.2,0))
def L6 (x2 x3:Int) (x1:au) (x0:aj):Option (Int×Int×au×aj×au×aj×Int):=
 (r99 x2 x3 x1 x0).bind fun v1=>
  if (v1.2 != 0)=true then
   some (0,0,[],[],[],[],v1.2)
   else (Z9 x1).bind fun v2=>
    aS (zH x2 x3 x1 x0 v2) 1000000000 (0,[])
@[go_sem] def adi:=XT qu8 true L6
@[go_sem] def aoI (k:Nat):=lk [(99,T99.sp),(153,av4.sp),(154,ak5.sp)] k
theorem f108:aF Tryz.prog 108 adi.sp:=by
 refine vm (tb:=aoI) (.cons f99 (.cons f153 (.cons f154 .nil))) Tryz.func108 Tryz.ntmps108 fun ⟨x2,x3,x1,x0⟩ r hr stop S=> ?_
 rw [uq4,L6] at hr
 refine S.gx [] ?_
 obtain ⟨v1,hv1,hr⟩:=aA hr
 refine gb hv1 ?_
 refine iW hr (fun hc hr=>D0 hr) fun hc hr=> ?_
 obtain ⟨v2,hv2,hr⟩:=aA hr
 refine gb hv2 ?_
 refine S.rV 6 5 2000605 1 rfl rfl (nL rfl) rfl ?_
 refine S.sees [2,6,24,25,26] [(2,2),(6,6)] [(2000605,2000605),(21,21)] ?_ (Stop.iter S (fun s1=>⟨[(2,.c (.ref 2 0)),(6,.c (.ref 6 0)),(24,.c (.d (ah 1 aQ x0))),(25,.c (.d (.int .i64 (x0.length:Int)))),(26,.c (.d (.int .i64 s1.1)))],[(2,[.d (.int .i64 0),.d (.int .i64 0),.dD,.dD,.dD,.dD]),(6,[.d (.int .i64 x2),.d (.int .i64 x3),.d (ah 2 aT x1),.d (ah 1 aQ x0),.own 21,.own 2000605])],[(2000605,.owned (ah 1 aQ s1.2)),(21,.owned (ah 2 aT v2))]⟩) (zH x2 x3 x1 x0 v2) (fun q=>q=r) hr rfl ?_)
 ·exact lf
 ·intro s1 hr
  unfold zH at hr
  refine S.gx [] ?_
  exact D1 (S.ss [2,6,24,25,26] [(2,2),(6,6)] [(35,2000605),(21,21)]) hr
def P9 (x1 x2:Int) (x3:au) (x4:aj) (x0:au) (x5:aj) (a1:Int):Option (Bool):=
 if 0<=0/\0<(x0.length:Int) then
  if 0<=IntKind.i64.wrap ((x0.length:Int) - 1)/\IntKind.i64.wrap ((x0.length:Int) - 1)<(x0.length:Int) then
   (yQ a1 ((x0.getD 0 default).1) ((x0.getD (IntKind.i64.wrap ((x0.length:Int) - 1)).toNat default).1)).bind fun v1=>
    some v1
   else none
  else none
@[go_sem] def agl:=afc oQ false P9
@[go_sem] def aoC (k:Nat):=lk [(144,OI.sp)] k
theorem f118:aF Tryz.prog 118 agl.sp:=by
 refine vm (tb:=aoC) (.cons f144 .nil) Tryz.func118 Tryz.ntmps118 fun ⟨x1,x2,x3,x4,x0,x5,a1⟩ r hr stop S=> ?_
 rw [KO,P9] at hr
 refine S.gx [] ?_
 exact D0 hr
def aeY (a0 x0 x1:Int) (x2:au) (x3:aj) (x4:au) (x5:aj):Option (Bool):=
 (P9 x0 x1 x2 x3 x4 x5 a0).bind fun v1=>
  some (!v1)
@[go_sem] def av2:=ai5 oQ false aeY
@[go_sem] def aof (k:Nat):=lk [(118,agl.sp)] k
theorem f156:aF Tryz.prog 156 av2.sp:=by
 refine vm (tb:=aof) (.cons f118 .nil) Tryz.func156 Tryz.ntmps156 fun ⟨a0,x0,x1,x2,x3,x4,x5⟩ r hr stop S=> ?_
 rw [KO,aeY] at hr
 refine S.gx [] ?_
 exact D0 hr
def zB (a0:bn) (x0 x1:Int) (x2:au) (x3:aj) (x4:au) (x5:aj):Bd Int Int:=fun s1=>
 if (decide (s1<(a0.length:Int)))=true then
  if 0<=s1/\s1<(a0.length:Int) then
   aP (aeY (a0.getD s1.toNat default) x0 x1 x2 x3 x4 x5) fun v1=>
    if v1=true then
     .out (some s1)
     else .next (IntKind.i64.wrap (s1+1))
   else .out none
  else .out (some (-1))
def aeZ (a0:bn) (x0 x1:Int) (x2:au) (x3:aj) (x4:au) (x5:aj):Option (Int):=
 aS (zB a0 x0 x1 x2 x3 x4 x5) 1000000000 0
@[go_sem] def av3:=asR lC false aeZ
@[go_sem] def aog (k:Nat):=lk [(156,av2.sp)] k
theorem f155:aF Tryz.prog 155 av3.sp:=by
 refine vm (tb:=aog) (.cons f156 .nil) Tryz.func155 Tryz.ntmps155 fun ⟨a0,x0,x1,x2,x3,x4,x5⟩ r hr stop S=> ?_
 rw [KO,aeZ] at hr
 refine S.gx [] ?_
 refine gr ?_
 refine S.sees [0,1,7,8] [] [] ?_ (Stop.iter S (fun s1=>⟨[(0,.c (.d (ah 1 cu a0))),(1,.c (.clo 156 [.dJ [.int .i64 x0,.int .i64 x1,ah 2 aT x2,ah 1 aQ x3,ah 2 aT x4,ah 1 aQ x5] 0])),(7,.c (.d (.int .i64 (a0.length:Int)))),(8,.c (.d (.int .i64 s1)))],[],[]⟩) (zB a0 x0 x1 x2 x3 x4 x5) (fun q=>q=r) hr rfl ?_)
 ·exact lf
 ·intro s1 hr
  unfold zB at hr
  refine S.gx [] ?_
  exact D1 (S.ss [0,1,7,8] [] []) hr
def Qa (x0 x1:Int) (x2:au) (x3:aj) (x4:au) (x5:aj) (a1:bn):Option (Int×Int):=
 if ((a1.length:Int) != x0)=true then
  some (0,10)
  else (aeZ a1 x0 x1 x2 x3 x4 x5).bind fun v1=>
   if (decide (v1>=0))=true then
    some (v1,2)
    else some (0,0)
@[go_sem] def ak':=asQ Gq false Qa
@[go_sem] def aoH (k:Nat):=lk [(155,av3.sp)] k
theorem f109:aF Tryz.prog 109 ak'.sp:=by
 refine vm (tb:=aoH) (.cons f155 .nil) Tryz.func109 Tryz.ntmps109 fun ⟨x0,x1,x2,x3,x4,x5,a1⟩ r hr stop S=> ?_
 rw [KO,Qa] at hr
 refine S.gx [] ?_
 exact D0 hr
def EP (x0 x1:bn):Bd Int (Int×Int):=fun s1=>
 if (decide (s1<(x0.length:Int)))=true then
  if 0<=s1/\s1<(x0.length:Int) then
   if 0<=s1/\s1<(x1.length:Int) then
    if (decide ((x0.getD s1.toNat default)>(x1.getD s1.toNat default)))=true then
     .out (some (s1,9))
     else .next (IntKind.i64.wrap (s1+1))
    else .out none
   else .out none
  else .out (some (0,0))
def XI (x2 x3:Int) (x4:au) (x5:aj) (x6:au) (x7:aj) (x0 x1:bn):Option (Int×Int):=
 (Qa x2 x3 x4 x5 x6 x7 x0).bind fun v1=>
  if (v1.2 != 0)=true then
   some (v1.1,v1.2)
   else (Qa x2 x3 x4 x5 x6 x7 x1).bind fun v2=>
    if (v2.2 != 0)=true then
     some (v2.1,v2.2)
     else aS (EP x0 x1) 1000000000 0
@[go_sem] def ak7:=asP Gq false XI
@[go_sem] def aom (k:Nat):=lk [(109,ak'.sp)] k
theorem f147:aF Tryz.prog 147 ak7.sp:=by
 refine vm (tb:=aom) (.cons f109 .nil) Tryz.func147 Tryz.ntmps147 fun ⟨x2,x3,x4,x5,x6,x7,x0,x1⟩ r hr stop S=> ?_
 rw [uq8,XI] at hr
 refine S.gx [] ?_
 obtain ⟨v1,hv1,hr⟩:=aA hr
 refine gb hv1 ?_
 refine iW hr (fun hc hr=>D0 hr) fun hc hr=> ?_
 obtain ⟨v2,hv2,hr⟩:=aA hr
 refine gb hv2 ?_
 refine iW hr (fun hc hr=>D0 hr) fun hc hr=> ?_
 refine gr ?_
 refine S.sees [3,35,36,37] [(3,3)] [] ?_ (Stop.iter S (fun s1=>⟨[(3,.c (.ref 3 0)),(35,.c (.d (ah 1 cu x0))),(36,.c (.d (.int .i64 (x0.length:Int)))),(37,.c (.d (.int .i64 s1)))],[(3,[.d (ah 1 cu x0),.d (ah 1 cu x1)])],[]⟩) (EP x0 x1) (fun q=>q=r) hr rfl ?_)
 ·exact lf
 ·intro s1 hr
  unfold EP at hr
  refine S.gx [] ?_
  exact D1 (S.ss [3,35,36,37] [(3,3)] []) hr
def aam (x0 x1:Int) (x2:au) (x3:aj) (x4 x5:bn):Option (Int×Int):=
 (L6 x0 x1 x2 x3).bind fun v1=>
  if (v1.2.2.2.2.2.2 != 0)=true then
   some (0,v1.2.2.2.2.2.2)
   else (XI v1.1 v1.2.1 v1.2.2.1 v1.2.2.2.1 v1.2.2.2.2.1 v1.2.2.2.2.2.1 x4 x5).bind fun v2=>
    some (v2.1,v2.2)
@[go_sem] def awF:=aaq Gq false aam
@[go_sem] def aoP (k:Nat):=lk [(108,adi.sp),(147,ak7.sp)] k
theorem f100:aF Tryz.prog 100 awF.sp:=by
 refine vm (tb:=aoP) (.cons f108 (.cons f147 .nil)) Tryz.func100 Tryz.ntmps100 fun ⟨x0,x1,x2,x3,x4,x5⟩ r hr stop S=> ?_
 rw [OW,aam] at hr
 refine S.gx [] ?_
 exact D0 hr
def jV (a0:Bool) (a1:Int):Option (Int):=
 if a0=true then
  some 0
  else some a1
@[go_sem] def T40:=qT2 lC false jV
theorem f40:aF Tryz.prog 40 T40.sp:=by
 refine vm .nil Tryz.func40 Tryz.ntmps40 fun ⟨a0,a1⟩ r hr stop S=> ?_
 rw [yI,jV] at hr
 refine S.gx [] ?_
 exact D0 hr
def Ib (a0:bn):Bd Int Int:=fun s1=>
 if (decide (s1<(a0.length:Int)))=true then
  if 0<=s1/\s1<(a0.length:Int) then
   if ((a0.getD s1.toNat default) != 0)=true then
    .out (some (a0.getD s1.toNat default))
    else .next (IntKind.i64.wrap (s1+1))
   else .out none
  else .out (some 0)
def vF (a0:bn):Option (Int):=
 aS (Ib a0) 1000000000 0
@[go_sem] def T39:=qT3 lC false vF
theorem f39:aF Tryz.prog 39 T39.sp:=by
 refine vm .nil Tryz.func39 Tryz.ntmps39 fun a0 r hr stop S=> ?_
 rw [oC,vF] at hr
 refine S.gx [] ?_
 refine gr ?_
 refine S.sees [5,6,7] [] [] ?_ (Stop.iter S (fun s1=>⟨[(5,.c (.d (ah 1 cu a0))),(6,.c (.d (.int .i64 (a0.length:Int)))),(7,.c (.d (.int .i64 s1)))],[],[]⟩) (Ib a0) (fun q=>q=r) hr rfl ?_)
 ·exact lf
 ·intro s1 hr
  unfold Ib at hr
  refine S.gx [] ?_
  exact D1 (S.ss [5,6,7] [] []) hr
def E8 (a0 a1 a2:Int):Option (Bool):=
 some ((decide (a1<=a0)) && (decide (a0<=a2)))
@[go_sem] def T46:=qT1 oQ false E8
theorem f46:aF Tryz.prog 46 T46.sp:=by
 refine vm .nil Tryz.func46 Tryz.ntmps46 fun ⟨a0,a1,a2⟩ r hr stop S=> ?_
 rw [Zd,E8] at hr
 refine S.gx [] ?_
 repeat (first | refine gA ?_ | refine gB ?_)
 exact D0 hr
def FD (a0:Int):Option (Bool):=
 (E8 a0 0 1000).bind fun v1=>
  some v1
@[go_sem] def awE:=KQ oQ false FD
@[go_sem] def aoO (k:Nat):=lk [(46,T46.sp)] k
theorem f101:aF Tryz.prog 101 awE.sp:=by
 refine vm (tb:=aoO) (.cons f46 .nil) Tryz.func101 Tryz.ntmps101 fun a0 r hr stop S=> ?_
 rw [oC,FD] at hr
 refine S.gx [] ?_
 exact D0 hr
def H8 (x1:aj) (x0:au) (x2 x3:Int):Bd Int (Int×Int):=fun s1=>
 if (decide (s1<(x0.length:Int)))=true then
  if 0<=s1/\s1<(x0.length:Int) then
   aP (FD ((x0.getD s1.toNat default).1)) fun v5=>
    if v5=true->(FD ((x0.getD s1.toNat default).2)).isSome=true then
     aP (jV (v5 && ((FD ((x0.getD s1.toNat default).2)).getD default)) 2) fun v6=>
      aP (jV (decide (((x0.getD s1.toNat default).1)<=((x0.getD s1.toNat default).2))) 9) fun v7=>
       aP (vF [v6,v7]) fun v8=>
        if (v8 != 0)=true then
         .out (some (s1,v8))
         else .next (IntKind.i64.wrap (s1+1))
     else .out none
   else .out none
  else .out ((E8 x2 0 (IntKind.i64.wrap ((x1.length:Int) - 1))).bind fun v11=>
   (jV v11 6).bind fun v12=>
    (E8 x3 0 4).bind fun v13=>
     (jV v13 2).bind fun v14=>
      (vF [v12,v14]).bind fun v15=>
       some (0,v15))
def r71 (x4 x5:Int) (x6:au) (x1:aj) (x7 x8:bn) (x0:au) (x2 x3:Int):Option (Int×Int):=
 (r99 x4 x5 x6 x1).bind fun v1=>
  (aam x4 x5 x6 x1 x7 x8).bind fun v2=>
   (jV ((x0.length:Int) == x4) 10).bind fun v3=>
    (vF [v1.2,v2.2,v3]).bind fun v4=>
     if (v4 != 0)=true then
      some (0,v4)
      else aS (H8 x1 x0 x2 x3) 1000000000 0
@[go_sem] def T71:=L8 Gq false r71
@[go_sem] def azS (k:Nat):=lk [(39,T39.sp),(40,T40.sp),(46,T46.sp),(99,T99.sp),(100,awF.sp),(101,awE.sp)] k
theorem f71:aF Tryz.prog 71 T71.sp:=by
 refine vm (tb:=azS) (.cons f39 (.cons f40 (.cons f46 (.cons f99 (.cons f100 (.cons f101 .nil)))))) Tryz.func71 Tryz.ntmps71 fun ⟨x4,x5,x6,x1,x7,x8,x0,x2,x3⟩ r hr stop S=> ?_
 rw [OV,r71] at hr
 refine S.gx [4,12] ?_
 obtain ⟨v1,hv1,hr⟩:=aA hr
 obtain ⟨v2,hv2,hr⟩:=aA hr
 obtain ⟨v3,hv3,hr⟩:=aA hr
 obtain ⟨v4,hv4,hr⟩:=aA hr
 refine gb hv1 ?_
 refine gb hv2 ?_
 refine gb hv3 ?_
 refine gb hv4 ?_
 refine S.prune [1,8] ?_
 refine S.gx [12] ?_
 refine gr ?_
 refine gr ?_
 refine iW hr (fun hc hr=>D0 hr) fun hc hr=> ?_
 refine gr ?_
 refine S.sees [1,9,43,44,45] [(1,1)] [] ?_ (Stop.iter S (fun s1=>⟨[(1,.c (.ref 1 0)),(9,.c (.clo 101 [])),(43,.c (.d (ah 2 aT x0))),(44,.c (.d (.int .i64 (x0.length:Int)))),(45,.c (.d (.int .i64 s1)))],[(1,[.d (.int .i64 x4),.d (.int .i64 x5),.d (ah 2 aT x6),.d (ah 1 aQ x1),.d (ah 1 cu x7),.d (ah 1 cu x8),.d (ah 2 aT x0),.d (.int .i64 x2),.d (.int .i64 x3)])],[]⟩) (H8 x1 x0 x2 x3) (fun q=>q=r) hr rfl ?_)
 ·exact lf
 ·intro s1 hr
  unfold H8 at hr
  refine S.gx [4,12] ?_
  refine gr ?_
  refine cZ hr (fun hc hr=> ?_) fun hc hr=>D0 hr
  obtain ⟨Nk,hr⟩:=aB hr
  obtain ⟨v5,hv5,hr⟩:=aI hr
  obtain ⟨uX,hr⟩:=aB hr
  obtain ⟨v6,hv6,hr⟩:=aI hr
  obtain ⟨v7,hv7,hr⟩:=aI hr
  obtain ⟨v8,JC,hr⟩:=aI hr
  try simp only [hv5,hv6,hv7,JC,Option.getD_some,Option.isSome_some,true_and,and_assoc]
  repeat (first | refine gG uX ?_ | refine gA ?_ | refine gB ?_)
  refine cZ hr (fun hc hr=> ?_) fun hc hr=>D1 (S.ss [1,9,43,44,45] [(1,1)] []) hr
  refine gr ?_
  refine S.prune [10,12] ?_
  refine S.gx [4] ?_
  exact D0 hr
def r45 (x0 x1:Int) (x2:au) (x3:aj) (x4 x5:bn) (x6:au) (x7 x8:Int):Option (Int×Int×au×aj×bn×bn×au×Int×Int×Int):=
 (r71 x0 x1 x2 x3 x4 x5 x6 x7 x8).bind fun v1=>
  some (x0,x1,x2,x3,x4,x5,x6,x7,x8,v1.2)
@[go_sem] def T45:=L8 qu9 true r45
@[go_sem] def az4 (k:Nat):=lk [(71,T71.sp)] k
theorem f45:aF Tryz.prog 45 T45.sp:=by
 refine vm (tb:=az4) (.cons f71 .nil) Tryz.func45 Tryz.ntmps45 fun ⟨x0,x1,x2,x3,x4,x5,x6,x7,x8⟩ r hr stop S=> ?_
 rw [OV,r45] at hr
 refine S.gx [] ?_
 exact D0 hr
def ac3 (a0:aK) (s1 s3 s5 s7:Int×(List (Int×Int×Int×Int×Int×Hl))):Bd Unit (cO (Int×(List (Int×Int×Int×Int×Int×Hl))) (cO (Int×(List (Int×Int×Int×Int×Int×Hl))) (cO (Int×(List (Int×Int×Int×Int×Int×Hl))) (cO (Int×(List (Int×Int×Int×Int×Int×Hl))) (cO (Int×(List (Int×Int×Int×Int×Int×Hl))) (cO (Int×(List (Int×Int×Int×Int×Int×Hl))) (cO (Int×(List (Int×Int×Int×Int×Int×Hl))) (aK)))))))):=fun s8=>
 if (decide (0<(((hU (((hU (((hU ((a0.getD s1.1.toNat default).2.2.2.2.2)).getD s3.1.toNat default).2.2.2.2.2)).getD s5.1.toNat default).2.2.2.2.2)).getD s7.1.toNat default).2.2.2.1)))=true then
  .out none
  else .out (some (.next (IntKind.i64.wrap (s7.1+1),s7.2)))
def Ic (a0:aK) (s1 s3 s5 s6:Int×(List (Int×Int×Int×Int×Int×Hl))):Bd (Int×(List (Int×Int×Int×Int×Int×Hl))) (cO (Int×(List (Int×Int×Int×Int×Int×Hl))) (cO (Int×(List (Int×Int×Int×Int×Int×Hl))) (cO (Int×(List (Int×Int×Int×Int×Int×Hl))) (cO (Int×(List (Int×Int×Int×Int×Int×Hl))) (cO (Int×(List (Int×Int×Int×Int×Int×Hl))) (cO (Int×(List (Int×Int×Int×Int×Int×Hl))) (aK))))))):=fun s7=>
 if (decide (s7.1<((hU (((hU (((hU ((a0.getD s1.1.toNat default).2.2.2.2.2)).getD s3.1.toNat default).2.2.2.2.2)).getD s5.1.toNat default).2.2.2.2.2)).length:Int)))=true then
  if 0<=s7.1/\s7.1<((hU (((hU (((hU ((a0.getD s1.1.toNat default).2.2.2.2.2)).getD s3.1.toNat default).2.2.2.2.2)).getD s5.1.toNat default).2.2.2.2.2)).length:Int) then
   if ((((hU (((hU (((hU ((a0.getD s1.1.toNat default).2.2.2.2.2)).getD s3.1.toNat default).2.2.2.2.2)).getD s5.1.toNat default).2.2.2.2.2)).getD s7.1.toNat default).1) != 5)=true then
    if (s7.2.length+1)*64<=140737488355328/\s7.2.length+1<=9223372036854775807 then
     if 0<=(s7.2.length:Int)/\(s7.2.length:Int)<((s7.2.length+1):Int) then
      if (!(decide (((s7.2.length+1):Int)<=60)))=true then
       .out (some (.out (some (.out (some (.out (some (.out (some (.out (some (.out (some ((s7.2++[(0,0,0,0,0,Hl.nil)]).set s7.2.length (((hU (((hU (((hU ((a0.getD s1.1.toNat default).2.2.2.2.2)).getD s3.1.toNat default).2.2.2.2.2)).getD s5.1.toNat default).2.2.2.2.2)).getD s7.1.toNat default).1,((hU (((hU (((hU ((a0.getD s1.1.toNat default).2.2.2.2.2)).getD s3.1.toNat default).2.2.2.2.2)).getD s5.1.toNat default).2.2.2.2.2)).getD s7.1.toNat default).2.1,((hU (((hU (((hU ((a0.getD s1.1.toNat default).2.2.2.2.2)).getD s3.1.toNat default).2.2.2.2.2)).getD s5.1.toNat default).2.2.2.2.2)).getD s7.1.toNat default).2.2.1,((hU (((hU (((hU ((a0.getD s1.1.toNat default).2.2.2.2.2)).getD s3.1.toNat default).2.2.2.2.2)).getD s5.1.toNat default).2.2.2.2.2)).getD s7.1.toNat default).2.2.2.1,((hU (((hU (((hU ((a0.getD s1.1.toNat default).2.2.2.2.2)).getD s3.1.toNat default).2.2.2.2.2)).getD s5.1.toNat default).2.2.2.2.2)).getD s7.1.toNat default).2.2.2.2.1,((hU (((hU (((hU ((a0.getD s1.1.toNat default).2.2.2.2.2)).getD s3.1.toNat default).2.2.2.2.2)).getD s5.1.toNat default).2.2.2.2.2)).getD s7.1.toNat default).2.2.2.2.2)))))))))))))))
       else .next (IntKind.i64.wrap (s7.1+1),(s7.2++[(0,0,0,0,0,Hl.nil)]).set s7.2.length (((hU (((hU (((hU ((a0.getD s1.1.toNat default).2.2.2.2.2)).getD s3.1.toNat default).2.2.2.2.2)).getD s5.1.toNat default).2.2.2.2.2)).getD s7.1.toNat default).1,((hU (((hU (((hU ((a0.getD s1.1.toNat default).2.2.2.2.2)).getD s3.1.toNat default).2.2.2.2.2)).getD s5.1.toNat default).2.2.2.2.2)).getD s7.1.toNat default).2.1,((hU (((hU (((hU ((a0.getD s1.1.toNat default).2.2.2.2.2)).getD s3.1.toNat default).2.2.2.2.2)).getD s5.1.toNat default).2.2.2.2.2)).getD s7.1.toNat default).2.2.1,((hU (((hU (((hU ((a0.getD s1.1.toNat default).2.2.2.2.2)).getD s3.1.toNat default).2.2.2.2.2)).getD s5.1.toNat default).2.2.2.2.2)).getD s7.1.toNat default).2.2.2.1,((hU (((hU (((hU ((a0.getD s1.1.toNat default).2.2.2.2.2)).getD s3.1.toNat default).2.2.2.2.2)).getD s5.1.toNat default).2.2.2.2.2)).getD s7.1.toNat default).2.2.2.2.1,((hU (((hU (((hU ((a0.getD s1.1.toNat default).2.2.2.2.2)).getD s3.1.toNat default).2.2.2.2.2)).getD s5.1.toNat default).2.2.2.2.2)).getD s7.1.toNat default).2.2.2.2.2))
      else .out none
     else .out none
    else (aS (ac3 a0 s1 s3 s5 s7) 1000000000 ()).getD (.out none)
   else .out none
  else .out (some (.next (IntKind.i64.wrap (s6.1+1),s7.2)))
def Ie (a0:aK) (s1 s3 s5:Int×(List (Int×Int×Int×Int×Int×Hl))):Bd (Int×(List (Int×Int×Int×Int×Int×Hl))) (cO (Int×(List (Int×Int×Int×Int×Int×Hl))) (cO (Int×(List (Int×Int×Int×Int×Int×Hl))) (cO (Int×(List (Int×Int×Int×Int×Int×Hl))) (cO (Int×(List (Int×Int×Int×Int×Int×Hl))) (cO (Int×(List (Int×Int×Int×Int×Int×Hl))) (aK)))))):=fun s6=>
 if (decide (s6.1<(((hU (((hU ((a0.getD s1.1.toNat default).2.2.2.2.2)).getD s3.1.toNat default).2.2.2.2.2)).getD s5.1.toNat default).2.2.2.1)))=true then
  (aS (Ic a0 s1 s3 s5 s6) 1000000000 (0,s6.2)).getD (.out none)
  else .out (some (.next (IntKind.i64.wrap (s5.1+1),s6.2)))
def EL (a0:aK) (s1 s3 s4:Int×(List (Int×Int×Int×Int×Int×Hl))):Bd (Int×(List (Int×Int×Int×Int×Int×Hl))) (cO (Int×(List (Int×Int×Int×Int×Int×Hl))) (cO (Int×(List (Int×Int×Int×Int×Int×Hl))) (cO (Int×(List (Int×Int×Int×Int×Int×Hl))) (cO (Int×(List (Int×Int×Int×Int×Int×Hl))) (aK))))):=fun s5=>
 if (decide (s5.1<((hU (((hU ((a0.getD s1.1.toNat default).2.2.2.2.2)).getD s3.1.toNat default).2.2.2.2.2)).length:Int)))=true then
  if 0<=s5.1/\s5.1<((hU (((hU ((a0.getD s1.1.toNat default).2.2.2.2.2)).getD s3.1.toNat default).2.2.2.2.2)).length:Int) then
   if ((((hU (((hU ((a0.getD s1.1.toNat default).2.2.2.2.2)).getD s3.1.toNat default).2.2.2.2.2)).getD s5.1.toNat default).1) != 5)=true then
    if (s5.2.length+1)*64<=140737488355328/\s5.2.length+1<=9223372036854775807 then
     if 0<=(s5.2.length:Int)/\(s5.2.length:Int)<((s5.2.length+1):Int) then
      if (!(decide (((s5.2.length+1):Int)<=60)))=true then
       .out (some (.out (some (.out (some (.out (some (.out (some ((s5.2++[(0,0,0,0,0,Hl.nil)]).set s5.2.length (((hU (((hU ((a0.getD s1.1.toNat default).2.2.2.2.2)).getD s3.1.toNat default).2.2.2.2.2)).getD s5.1.toNat default).1,((hU (((hU ((a0.getD s1.1.toNat default).2.2.2.2.2)).getD s3.1.toNat default).2.2.2.2.2)).getD s5.1.toNat default).2.1,((hU (((hU ((a0.getD s1.1.toNat default).2.2.2.2.2)).getD s3.1.toNat default).2.2.2.2.2)).getD s5.1.toNat default).2.2.1,((hU (((hU ((a0.getD s1.1.toNat default).2.2.2.2.2)).getD s3.1.toNat default).2.2.2.2.2)).getD s5.1.toNat default).2.2.2.1,((hU (((hU ((a0.getD s1.1.toNat default).2.2.2.2.2)).getD s3.1.toNat default).2.2.2.2.2)).getD s5.1.toNat default).2.2.2.2.1,((hU (((hU ((a0.getD s1.1.toNat default).2.2.2.2.2)).getD s3.1.toNat default).2.2.2.2.2)).getD s5.1.toNat default).2.2.2.2.2)))))))))))
       else .next (IntKind.i64.wrap (s5.1+1),(s5.2++[(0,0,0,0,0,Hl.nil)]).set s5.2.length (((hU (((hU ((a0.getD s1.1.toNat default).2.2.2.2.2)).getD s3.1.toNat default).2.2.2.2.2)).getD s5.1.toNat default).1,((hU (((hU ((a0.getD s1.1.toNat default).2.2.2.2.2)).getD s3.1.toNat default).2.2.2.2.2)).getD s5.1.toNat default).2.1,((hU (((hU ((a0.getD s1.1.toNat default).2.2.2.2.2)).getD s3.1.toNat default).2.2.2.2.2)).getD s5.1.toNat default).2.2.1,((hU (((hU ((a0.getD s1.1.toNat default).2.2.2.2.2)).getD s3.1.toNat default).2.2.2.2.2)).getD s5.1.toNat default).2.2.2.1,((hU (((hU ((a0.getD s1.1.toNat default).2.2.2.2.2)).getD s3.1.toNat default).2.2.2.2.2)).getD s5.1.toNat default).2.2.2.2.1,((hU (((hU ((a0.getD s1.1.toNat default).2.2.2.2.2)).getD s3.1.toNat default).2.2.2.2.2)).getD s5.1.toNat default).2.2.2.2.2))
      else .out none
     else .out none
    else (aS (Ie a0 s1 s3 s5) 1000000000 (0,s5.2)).getD (.out none)
   else .out none
  else .out (some (.next (IntKind.i64.wrap (s4.1+1),s5.2)))
def Ig (a0:aK) (s1 s3:Int×(List (Int×Int×Int×Int×Int×Hl))):Bd (Int×(List (Int×Int×Int×Int×Int×Hl))) (cO (Int×(List (Int×Int×Int×Int×Int×Hl))) (cO (Int×(List (Int×Int×Int×Int×Int×Hl))) (cO (Int×(List (Int×Int×Int×Int×Int×Hl))) (aK)))):=fun s4=>
 if (decide (s4.1<(((hU ((a0.getD s1.1.toNat default).2.2.2.2.2)).getD s3.1.toNat default).2.2.2.1)))=true then
  (aS (EL a0 s1 s3 s4) 1000000000 (0,s4.2)).getD (.out none)
  else .out (some (.next (IntKind.i64.wrap (s3.1+1),s4.2)))
def EM (a0:aK) (s1 s2:Int×(List (Int×Int×Int×Int×Int×Hl))):Bd (Int×(List (Int×Int×Int×Int×Int×Hl))) (cO (Int×(List (Int×Int×Int×Int×Int×Hl))) (cO (Int×(List (Int×Int×Int×Int×Int×Hl))) (aK))):=fun s3=>
 if (decide (s3.1<((hU ((a0.getD s1.1.toNat default).2.2.2.2.2)).length:Int)))=true then
  if 0<=s3.1/\s3.1<((hU ((a0.getD s1.1.toNat default).2.2.2.2.2)).length:Int) then
   if ((((hU ((a0.getD s1.1.toNat default).2.2.2.2.2)).getD s3.1.toNat default).1) != 5)=true then
    if (s3.2.length+1)*64<=140737488355328/\s3.2.length+1<=9223372036854775807 then
     if 0<=(s3.2.length:Int)/\(s3.2.length:Int)<((s3.2.length+1):Int) then
      if (!(decide (((s3.2.length+1):Int)<=60)))=true then
       .out (some (.out (some (.out (some ((s3.2++[(0,0,0,0,0,Hl.nil)]).set s3.2.length (((hU ((a0.getD s1.1.toNat default).2.2.2.2.2)).getD s3.1.toNat default).1,((hU ((a0.getD s1.1.toNat default).2.2.2.2.2)).getD s3.1.toNat default).2.1,((hU ((a0.getD s1.1.toNat default).2.2.2.2.2)).getD s3.1.toNat default).2.2.1,((hU ((a0.getD s1.1.toNat default).2.2.2.2.2)).getD s3.1.toNat default).2.2.2.1,((hU ((a0.getD s1.1.toNat default).2.2.2.2.2)).getD s3.1.toNat default).2.2.2.2.1,((hU ((a0.getD s1.1.toNat default).2.2.2.2.2)).getD s3.1.toNat default).2.2.2.2.2)))))))
       else .next (IntKind.i64.wrap (s3.1+1),(s3.2++[(0,0,0,0,0,Hl.nil)]).set s3.2.length (((hU ((a0.getD s1.1.toNat default).2.2.2.2.2)).getD s3.1.toNat default).1,((hU ((a0.getD s1.1.toNat default).2.2.2.2.2)).getD s3.1.toNat default).2.1,((hU ((a0.getD s1.1.toNat default).2.2.2.2.2)).getD s3.1.toNat default).2.2.1,((hU ((a0.getD s1.1.toNat default).2.2.2.2.2)).getD s3.1.toNat default).2.2.2.1,((hU ((a0.getD s1.1.toNat default).2.2.2.2.2)).getD s3.1.toNat default).2.2.2.2.1,((hU ((a0.getD s1.1.toNat default).2.2.2.2.2)).getD s3.1.toNat default).2.2.2.2.2))
      else .out none
     else .out none
    else (aS (Ig a0 s1 s3) 1000000000 (0,s3.2)).getD (.out none)
   else .out none
  else .out (some (.next (IntKind.i64.wrap (s2.1+1),s3.2)))
def Ih (a0:aK) (s1:Int×(List (Int×Int×Int×Int×Int×Hl))):Bd (Int×(List (Int×Int×Int×Int×Int×Hl))) (cO (Int×(List (Int×Int×Int×Int×Int×Hl))) (aK)):=fun s2=>
 if (decide (s2.1<((a0.getD s1.1.toNat default).2.2.2.1)))=true then
  (aS (EM a0 s1 s2) 1000000000 (0,s2.2)).getD (.out none)
  else .out (some (.next (IntKind.i64.wrap (s1.1+1),s2.2)))
def EN (a0:aK):Bd (Int×(List (Int×Int×Int×Int×Int×Hl))) aK:=fun s1=>
 if (decide (s1.1<(a0.length:Int)))=true then
  if 0<=s1.1/\s1.1<(a0.length:Int) then
   if (((a0.getD s1.1.toNat default).1) != 5)=true then
    if (s1.2.length+1)*64<=140737488355328/\s1.2.length+1<=9223372036854775807 then
     if 0<=(s1.2.length:Int)/\(s1.2.length:Int)<((s1.2.length+1):Int) then
      if (!(decide (((s1.2.length+1):Int)<=60)))=true then
       .out (some ((s1.2++[(0,0,0,0,0,Hl.nil)]).set s1.2.length ((a0.getD s1.1.toNat default).1,(a0.getD s1.1.toNat default).2.1,(a0.getD s1.1.toNat default).2.2.1,(a0.getD s1.1.toNat default).2.2.2.1,(a0.getD s1.1.toNat default).2.2.2.2.1,(a0.getD s1.1.toNat default).2.2.2.2.2)))
       else .next (IntKind.i64.wrap (s1.1+1),(s1.2++[(0,0,0,0,0,Hl.nil)]).set s1.2.length ((a0.getD s1.1.toNat default).1,(a0.getD s1.1.toNat default).2.1,(a0.getD s1.1.toNat default).2.2.1,(a0.getD s1.1.toNat default).2.2.2.1,(a0.getD s1.1.toNat default).2.2.2.2.1,(a0.getD s1.1.toNat default).2.2.2.2.2))
      else .out none
     else .out none
    else (aS (Ih a0 s1) 1000000000 (0,s1.2)).getD (.out none)
   else .out none
  else .out (some s1.2)
def Z5 (a0:aK):Option (aK):=
 aS (EN a0) 1000000000 (0,[])
@[go_sem] def T38:=Dc qu1 true Z5
def anJ:oD:=lk []
theorem oN:dS Tryz.prog anJ:=dS.nil
theorem f38:aF Tryz.prog 38 T38.sp:=by
 refine vm (tb:=anJ) .nil Tryz.func38 Tryz.ntmps38 fun a0 r hr stop S=> ?_
 rw [oC,Z5] at hr
 refine S.gx [2] ?_
 refine gr ?_
 refine S.inl 2 [3] [] Tryz.func68 (by decide) rfl Tryz.ntmps68 (fun cx e=>aX bP oN cx e) (some 6) rfl rfl rfl rfl (nL rfl) (nL rfl) ?_
 refine gs ?_
 refine gr ?_
 intro stop1 S1
 refine S1.gx [5,9] ?_
 refine gr ?_
 refine S1.rV 3 0 2000300 6 rfl rfl (nL rfl) rfl ?_
 refine S1.sees [1,7,8,9] [(3,3)] [(2000300,2000300)] ?_ (Stop.iter S1 (fun s1=>⟨[(1,.c (.clo 69 [.ref 3 0])),(7,.c (.d (ah 6 aZ a0))),(8,.c (.d (.int .i64 (a0.length:Int)))),(9,.c (.d (.int .i64 s1.1)))],[(3,[.own 2000300])],[(2000300,.owned (ah 6 aZ s1.2))]⟩) (EN a0) (fun q=>q=r) hr rfl ?_)
 ·exact lf
 ·intro s1 hr
  unfold EN at hr
  refine S1.gx [5,9] ?_
  refine gr ?_
  refine cZ hr (fun hc hr=> ?_) fun hc hr=> ?_
  ·obtain ⟨y5,hr⟩:=aB hr
   refine gr ?_
   refine cZ hr (fun hc hr=> ?_) fun hc hr=> ?_
   ·refine gr ?_
    refine S1.inl 2 [1,7,8,9] [.ref 3 0] Tryz.func69 (by decide) rfl Tryz.ntmps69 (fun cx e=>aX bP oN cx e) (some 18) rfl rfl rfl rfl (nL rfl) (nL rfl) ?_
    refine gs ?_
    refine gr ?_
    intro stop2 S2
    refine S2.gx [] ?_
    obtain ⟨hg1,hr⟩:=aB hr
    obtain ⟨hg2,hr⟩:=aB hr
    refine gr ?_
    refine gr ?_
    refine S1.gx [5,9] ?_
    refine gr ?_
    refine cZ hr (fun hc hr=> ?_) fun hc hr=>D1 (S1.ss [1,7,8,9] [(3,3)] [(8,2000300)]) hr
    refine gr ?_
    have hr:=bK hr
    refine gr ?_
    refine S.gx [2] ?_
    exact D0 hr
   ·refine gr ?_
    obtain ⟨q2,hq,hr⟩:=gV hr
    refine S1.sees [1,6,7,8,9,21,22] [(3,3),(6,6)] [(2000300,2000300)] ?_ (Stop.iter S1 (fun s2=>⟨[(1,.c (.clo 69 [.ref 3 0])),(6,.c (.ref 6 0)),(7,.c (.d (ah 6 aZ a0))),(8,.c (.d (.int .i64 (a0.length:Int)))),(9,.c (.d (.int .i64 s1.1))),(21,.c (.d (.int .i64 ((a0.getD s1.1.toNat default).2.2.2.1)))),(22,.c (.d (.int .i64 s2.1)))],[(3,[.own 2000300]),(6,[.d (.int .i64 ((a0.getD s1.1.toNat default).1)),.d (.int .i64 ((a0.getD s1.1.toNat default).2.1)),.d (.int .i64 ((a0.getD s1.1.toNat default).2.2.1)),.d (.int .i64 ((a0.getD s1.1.toNat default).2.2.2.1)),.d (.int .i64 ((a0.getD s1.1.toNat default).2.2.2.2.1)),.d (hE ((a0.getD s1.1.toNat default).2.2.2.2.2))])],[(2000300,.owned (ah 6 aZ s2.2))]⟩) (Ih a0 s1) _ hq hr ?_)
    ·exact lf
    ·intro s2 hr
     unfold Ih at hr
     refine S1.gx [5,9] ?_
     refine gr ?_
     refine cZ hr (fun hc hr=> ?_) fun hc hr=> ?_
     ·refine gr ?_
      refine S1.inl 3 [1,6,7,8,9,21,22] [] Tryz.func68 (by decide) rfl Tryz.ntmps68 (fun cx e=>aX bP oN cx e) (some 27) rfl rfl rfl rfl (nL rfl) (nL rfl) ?_
      refine gs ?_
      refine gr ?_
      intro stop2 S2
      refine S2.gx [5,9] ?_
      refine gr ?_
      obtain ⟨q3,hq,hr⟩:=gV hr
      refine S2.sees [1,7,8,9] [(3,3),(6,6)] [(2000300,2000300)] ?_ (Stop.iter S2 (fun s3=>⟨[(1,.c (.clo 69 [.ref 3 0])),(7,.c (.d (ah 6 aZ (hU ((a0.getD s1.1.toNat default).2.2.2.2.2))))),(8,.c (.d (.int .i64 ((hU ((a0.getD s1.1.toNat default).2.2.2.2.2)).length:Int)))),(9,.c (.d (.int .i64 s3.1)))],[(3,[.own 2000300]),(6,[.d (.int .i64 ((a0.getD s1.1.toNat default).1)),.d (.int .i64 ((a0.getD s1.1.toNat default).2.1)),.d (.int .i64 ((a0.getD s1.1.toNat default).2.2.1)),.d (.int .i64 ((a0.getD s1.1.toNat default).2.2.2.1)),.d (.int .i64 ((a0.getD s1.1.toNat default).2.2.2.2.1)),.d (hE ((a0.getD s1.1.toNat default).2.2.2.2.2))])],[(2000300,.owned (ah 6 aZ s3.2))]⟩) (EM a0 s1 s2) _ hq hr ?_)
      ·exact lf
      ·intro s3 hr
       unfold EM at hr
       refine S2.gx [5,9] ?_
       refine gr ?_
       refine cZ hr (fun hc hr=> ?_) fun hc hr=> ?_
       ·obtain ⟨y7,hr⟩:=aB hr
        refine gr ?_
        refine cZ hr (fun hc hr=> ?_) fun hc hr=> ?_
        ·refine gr ?_
         refine S2.inl 2 [1,7,8,9] [.ref 3 0] Tryz.func69 (by decide) rfl Tryz.ntmps69 (fun cx e=>aX bP oN cx e) (some 18) rfl rfl rfl rfl (nL rfl) (nL rfl) ?_
         refine gs ?_
         refine gr ?_
         intro BX S3
         refine S3.gx [] ?_
         obtain ⟨hg3,hr⟩:=aB hr
         obtain ⟨hg4,hr⟩:=aB hr
         refine gr ?_
         refine gr ?_
         refine S2.gx [5,9] ?_
         refine gr ?_
         refine cZ hr (fun hc hr=> ?_) fun hc hr=>D1 (S2.ss [1,7,8,9] [(3,3),(6,6)] [(8,2000300)]) hr
         refine gr ?_
         replace hr:=aU hr
         refine gr ?_
         refine S1.gx [5,9] ?_
         refine gr ?_
         replace hr:=aU hr
         have hr:=bK hr
         refine gr ?_
         refine S.gx [2] ?_
         exact D0 hr
        ·refine gr ?_
         obtain ⟨q4,hq,hr⟩:=gV hr
         refine S2.sees [1,6,7,8,9,21,22] [(3,3),(100006,100006),(6,6)] [(2000300,2000300)] ?_ (Stop.iter S2 (fun s4=>⟨[(1,.c (.clo 69 [.ref 3 0])),(6,.c (.ref 100006 0)),(7,.c (.d (ah 6 aZ (hU ((a0.getD s1.1.toNat default).2.2.2.2.2))))),(8,.c (.d (.int .i64 ((hU ((a0.getD s1.1.toNat default).2.2.2.2.2)).length:Int)))),(9,.c (.d (.int .i64 s3.1))),(21,.c (.d (.int .i64 (((hU ((a0.getD s1.1.toNat default).2.2.2.2.2)).getD s3.1.toNat default).2.2.2.1)))),(22,.c (.d (.int .i64 s4.1)))],[(3,[.own 2000300]),(100006,[.d (.int .i64 (((hU ((a0.getD s1.1.toNat default).2.2.2.2.2)).getD s3.1.toNat default).1)),.d (.int .i64 (((hU ((a0.getD s1.1.toNat default).2.2.2.2.2)).getD s3.1.toNat default).2.1)),.d (.int .i64 (((hU ((a0.getD s1.1.toNat default).2.2.2.2.2)).getD s3.1.toNat default).2.2.1)),.d (.int .i64 (((hU ((a0.getD s1.1.toNat default).2.2.2.2.2)).getD s3.1.toNat default).2.2.2.1)),.d (.int .i64 (((hU ((a0.getD s1.1.toNat default).2.2.2.2.2)).getD s3.1.toNat default).2.2.2.2.1)),.d (hE (((hU ((a0.getD s1.1.toNat default).2.2.2.2.2)).getD s3.1.toNat default).2.2.2.2.2))]),(6,[.d (.int .i64 ((a0.getD s1.1.toNat default).1)),.d (.int .i64 ((a0.getD s1.1.toNat default).2.1)),.d (.int .i64 ((a0.getD s1.1.toNat default).2.2.1)),.d (.int .i64 ((a0.getD s1.1.toNat default).2.2.2.1)),.d (.int .i64 ((a0.getD s1.1.toNat default).2.2.2.2.1)),.d (hE ((a0.getD s1.1.toNat default).2.2.2.2.2))])],[(2000300,.owned (ah 6 aZ s4.2))]⟩) (Ig a0 s1 s3) _ hq hr ?_)
         ·exact lf
         ·intro s4 hr
          unfold Ig at hr
          refine S2.gx [5,9] ?_
          refine gr ?_
          refine cZ hr (fun hc hr=> ?_) fun hc hr=> ?_
          ·refine gr ?_
           refine S2.inl 3 [1,6,7,8,9,21,22] [] Tryz.func68 (by decide) rfl Tryz.ntmps68 (fun cx e=>aX bP oN cx e) (some 27) rfl rfl rfl rfl (nL rfl) (nL rfl) ?_
           refine gs ?_
           refine gr ?_
           intro BX S3
           refine S3.gx [5,9] ?_
           refine gr ?_
           obtain ⟨q5,hq,hr⟩:=gV hr
           refine S3.sees [1,7,8,9] [(3,3),(100006,100006),(6,6)] [(2000300,2000300)] ?_ (Stop.iter S3 (fun s5=>⟨[(1,.c (.clo 69 [.ref 3 0])),(7,.c (.d (ah 6 aZ (hU (((hU ((a0.getD s1.1.toNat default).2.2.2.2.2)).getD s3.1.toNat default).2.2.2.2.2))))),(8,.c (.d (.int .i64 ((hU (((hU ((a0.getD s1.1.toNat default).2.2.2.2.2)).getD s3.1.toNat default).2.2.2.2.2)).length:Int)))),(9,.c (.d (.int .i64 s5.1)))],[(3,[.own 2000300]),(100006,[.d (.int .i64 (((hU ((a0.getD s1.1.toNat default).2.2.2.2.2)).getD s3.1.toNat default).1)),.d (.int .i64 (((hU ((a0.getD s1.1.toNat default).2.2.2.2.2)).getD s3.1.toNat default).2.1)),.d (.int .i64 (((hU ((a0.getD s1.1.toNat default).2.2.2.2.2)).getD s3.1.toNat default).2.2.1)),.d (.int .i64 (((hU ((a0.getD s1.1.toNat default).2.2.2.2.2)).getD s3.1.toNat default).2.2.2.1)),.d (.int .i64 (((hU ((a0.getD s1.1.toNat default).2.2.2.2.2)).getD s3.1.toNat default).2.2.2.2.1)),.d (hE (((hU ((a0.getD s1.1.toNat default).2.2.2.2.2)).getD s3.1.toNat default).2.2.2.2.2))]),(6,[.d (.int .i64 ((a0.getD s1.1.toNat default).1)),.d (.int .i64 ((a0.getD s1.1.toNat default).2.1)),.d (.int .i64 ((a0.getD s1.1.toNat default).2.2.1)),.d (.int .i64 ((a0.getD s1.1.toNat default).2.2.2.1)),.d (.int .i64 ((a0.getD s1.1.toNat default).2.2.2.2.1)),.d (hE ((a0.getD s1.1.toNat default).2.2.2.2.2))])],[(2000300,.owned (ah 6 aZ s5.2))]⟩) (EL a0 s1 s3 s4) _ hq hr ?_)
           ·exact lf
           ·intro s5 hr
            unfold EL at hr
            refine S3.gx [5,9] ?_
            refine gr ?_
            refine cZ hr (fun hc hr=> ?_) fun hc hr=> ?_
            ·obtain ⟨uX,hr⟩:=aB hr
             refine gr ?_
             refine cZ hr (fun hc hr=> ?_) fun hc hr=> ?_
             ·refine gr ?_
              refine S3.inl 2 [1,7,8,9] [.ref 3 0] Tryz.func69 (by decide) rfl Tryz.ntmps69 (fun cx e=>aX bP oN cx e) (some 18) rfl rfl rfl rfl (nL rfl) (nL rfl) ?_
              refine gs ?_
              refine gr ?_
              intro zM S4
              refine S4.gx [] ?_
              obtain ⟨hg5,hr⟩:=aB hr
              obtain ⟨Zg,hr⟩:=aB hr
              refine gr ?_
              refine gr ?_
              refine S3.gx [5,9] ?_
              refine gr ?_
              refine cZ hr (fun hc hr=> ?_) fun hc hr=>D1 (S3.ss [1,7,8,9] [(3,3),(100006,100006),(6,6)] [(8,2000300)]) hr
              refine gr ?_
              replace hr:=aU hr
              refine gr ?_
              refine S2.gx [5,9] ?_
              refine gr ?_
              replace hr:=aU hr
              replace hr:=aU hr
              refine gr ?_
              refine S1.gx [5,9] ?_
              refine gr ?_
              replace hr:=aU hr
              have hr:=bK hr
              refine gr ?_
              refine S.gx [2] ?_
              exact D0 hr
             ·refine gr ?_
              obtain ⟨q6,hq,hr⟩:=gV hr
              refine S3.sees [1,6,7,8,9,21,22] [(3,3),(200006,200006),(100006,100006),(6,6)] [(2000300,2000300)] ?_ (Stop.iter S3 (fun s6=>⟨[(1,.c (.clo 69 [.ref 3 0])),(6,.c (.ref 200006 0)),(7,.c (.d (ah 6 aZ (hU (((hU ((a0.getD s1.1.toNat default).2.2.2.2.2)).getD s3.1.toNat default).2.2.2.2.2))))),(8,.c (.d (.int .i64 ((hU (((hU ((a0.getD s1.1.toNat default).2.2.2.2.2)).getD s3.1.toNat default).2.2.2.2.2)).length:Int)))),(9,.c (.d (.int .i64 s5.1))),(21,.c (.d (.int .i64 (((hU (((hU ((a0.getD s1.1.toNat default).2.2.2.2.2)).getD s3.1.toNat default).2.2.2.2.2)).getD s5.1.toNat default).2.2.2.1)))),(22,.c (.d (.int .i64 s6.1)))],[(3,[.own 2000300]),(200006,[.d (.int .i64 (((hU (((hU ((a0.getD s1.1.toNat default).2.2.2.2.2)).getD s3.1.toNat default).2.2.2.2.2)).getD s5.1.toNat default).1)),.d (.int .i64 (((hU (((hU ((a0.getD s1.1.toNat default).2.2.2.2.2)).getD s3.1.toNat default).2.2.2.2.2)).getD s5.1.toNat default).2.1)),.d (.int .i64 (((hU (((hU ((a0.getD s1.1.toNat default).2.2.2.2.2)).getD s3.1.toNat default).2.2.2.2.2)).getD s5.1.toNat default).2.2.1)),.d (.int .i64 (((hU (((hU ((a0.getD s1.1.toNat default).2.2.2.2.2)).getD s3.1.toNat default).2.2.2.2.2)).getD s5.1.toNat default).2.2.2.1)),.d (.int .i64 (((hU (((hU ((a0.getD s1.1.toNat default).2.2.2.2.2)).getD s3.1.toNat default).2.2.2.2.2)).getD s5.1.toNat default).2.2.2.2.1)),.d (hE (((hU (((hU ((a0.getD s1.1.toNat default).2.2.2.2.2)).getD s3.1.toNat default).2.2.2.2.2)).getD s5.1.toNat default).2.2.2.2.2))]),(100006,[.d (.int .i64 (((hU ((a0.getD s1.1.toNat default).2.2.2.2.2)).getD s3.1.toNat default).1)),.d (.int .i64 (((hU ((a0.getD s1.1.toNat default).2.2.2.2.2)).getD s3.1.toNat default).2.1)),.d (.int .i64 (((hU ((a0.getD s1.1.toNat default).2.2.2.2.2)).getD s3.1.toNat default).2.2.1)),.d (.int .i64 (((hU ((a0.getD s1.1.toNat default).2.2.2.2.2)).getD s3.1.toNat default).2.2.2.1)),.d (.int .i64 (((hU ((a0.getD s1.1.toNat default).2.2.2.2.2)).getD s3.1.toNat default).2.2.2.2.1)),.d (hE (((hU ((a0.getD s1.1.toNat default).2.2.2.2.2)).getD s3.1.toNat default).2.2.2.2.2))]),(6,[.d (.int .i64 ((a0.getD s1.1.toNat default).1)),.d (.int .i64 ((a0.getD s1.1.toNat default).2.1)),.d (.int .i64 ((a0.getD s1.1.toNat default).2.2.1)),.d (.int .i64 ((a0.getD s1.1.toNat default).2.2.2.1)),.d (.int .i64 ((a0.getD s1.1.toNat default).2.2.2.2.1)),.d (hE ((a0.getD s1.1.toNat default).2.2.2.2.2))])],[(2000300,.owned (ah 6 aZ s6.2))]⟩) (Ie a0 s1 s3 s5) _ hq hr ?_)
              ·exact lf
              ·intro s6 hr
               unfold Ie at hr
               refine S3.gx [5,9] ?_
               refine gr ?_
               refine cZ hr (fun hc hr=> ?_) fun hc hr=> ?_
               ·refine gr ?_
                refine S3.inl 3 [1,6,7,8,9,21,22] [] Tryz.func68 (by decide) rfl Tryz.ntmps68 (fun cx e=>aX bP oN cx e) (some 27) rfl rfl rfl rfl (nL rfl) (nL rfl) ?_
                refine gs ?_
                refine gr ?_
                intro zM S4
                refine S4.gx [5,9] ?_
                refine gr ?_
                obtain ⟨q7,hq,hr⟩:=gV hr
                refine S4.sees [1,7,8,9] [(3,3),(200006,200006),(100006,100006),(6,6)] [(2000300,2000300)] ?_ (Stop.iter S4 (fun s7=>⟨[(1,.c (.clo 69 [.ref 3 0])),(7,.c (.d (ah 6 aZ (hU (((hU (((hU ((a0.getD s1.1.toNat default).2.2.2.2.2)).getD s3.1.toNat default).2.2.2.2.2)).getD s5.1.toNat default).2.2.2.2.2))))),(8,.c (.d (.int .i64 ((hU (((hU (((hU ((a0.getD s1.1.toNat default).2.2.2.2.2)).getD s3.1.toNat default).2.2.2.2.2)).getD s5.1.toNat default).2.2.2.2.2)).length:Int)))),(9,.c (.d (.int .i64 s7.1)))],[(3,[.own 2000300]),(200006,[.d (.int .i64 (((hU (((hU ((a0.getD s1.1.toNat default).2.2.2.2.2)).getD s3.1.toNat default).2.2.2.2.2)).getD s5.1.toNat default).1)),.d (.int .i64 (((hU (((hU ((a0.getD s1.1.toNat default).2.2.2.2.2)).getD s3.1.toNat default).2.2.2.2.2)).getD s5.1.toNat default).2.1)),.d (.int .i64 (((hU (((hU ((a0.getD s1.1.toNat default).2.2.2.2.2)).getD s3.1.toNat default).2.2.2.2.2)).getD s5.1.toNat default).2.2.1)),.d (.int .i64 (((hU (((hU ((a0.getD s1.1.toNat default).2.2.2.2.2)).getD s3.1.toNat default).2.2.2.2.2)).getD s5.1.toNat default).2.2.2.1)),.d (.int .i64 (((hU (((hU ((a0.getD s1.1.toNat default).2.2.2.2.2)).getD s3.1.toNat default).2.2.2.2.2)).getD s5.1.toNat default).2.2.2.2.1)),.d (hE (((hU (((hU ((a0.getD s1.1.toNat default).2.2.2.2.2)).getD s3.1.toNat default).2.2.2.2.2)).getD s5.1.toNat default).2.2.2.2.2))]),(100006,[.d (.int .i64 (((hU ((a0.getD s1.1.toNat default).2.2.2.2.2)).getD s3.1.toNat default).1)),.d (.int .i64 (((hU ((a0.getD s1.1.toNat default).2.2.2.2.2)).getD s3.1.toNat default).2.1)),.d (.int .i64 (((hU ((a0.getD s1.1.toNat default).2.2.2.2.2)).getD s3.1.toNat default).2.2.1)),.d (.int .i64 (((hU ((a0.getD s1.1.toNat default).2.2.2.2.2)).getD s3.1.toNat default).2.2.2.1)),.d (.int .i64 (((hU ((a0.getD s1.1.toNat default).2.2.2.2.2)).getD s3.1.toNat default).2.2.2.2.1)),.d (hE (((hU ((a0.getD s1.1.toNat default).2.2.2.2.2)).getD s3.1.toNat default).2.2.2.2.2))]),(6,[.d (.int .i64 ((a0.getD s1.1.toNat default).1)),.d (.int .i64 ((a0.getD s1.1.toNat default).2.1)),.d (.int .i64 ((a0.getD s1.1.toNat default).2.2.1)),.d (.int .i64 ((a0.getD s1.1.toNat default).2.2.2.1)),.d (.int .i64 ((a0.getD s1.1.toNat default).2.2.2.2.1)),.d (hE ((a0.getD s1.1.toNat default).2.2.2.2.2))])],[(2000300,.owned (ah 6 aZ s7.2))]⟩) (Ic a0 s1 s3 s5 s6) _ hq hr ?_)
                ·exact lf
                ·intro s7 hr
                 unfold Ic at hr
                 refine S4.gx [5,9] ?_
                 refine gr ?_
                 refine cZ hr (fun hc hr=> ?_) fun hc hr=> ?_
                 ·obtain ⟨Nk,hr⟩:=aB hr
                  refine gr ?_
                  refine cZ hr (fun hc hr=> ?_) fun hc hr=> ?_
                  ·refine gr ?_
                   refine S4.inl 2 [1,7,8,9] [.ref 3 0] Tryz.func69 (by decide) rfl Tryz.ntmps69 (fun cx e=>aX bP oN cx e) (some 18) rfl rfl rfl rfl (nL rfl) (nL rfl) ?_
                   refine gs ?_
                   refine gr ?_
                   intro rM S5
                   refine S5.gx [] ?_
                   obtain ⟨Wx,hr⟩:=aB hr
                   obtain ⟨Wv,hr⟩:=aB hr
                   refine gr ?_
                   refine gr ?_
                   refine S4.gx [5,9] ?_
                   refine gr ?_
                   refine cZ hr (fun hc hr=> ?_) fun hc hr=>D1 (S4.ss [1,7,8,9] [(3,3),(200006,200006),(100006,100006),(6,6)] [(8,2000300)]) hr
                   refine gr ?_
                   replace hr:=aU hr
                   refine gr ?_
                   refine S3.gx [5,9] ?_
                   refine gr ?_
                   replace hr:=aU hr
                   replace hr:=aU hr
                   refine gr ?_
                   refine S2.gx [5,9] ?_
                   refine gr ?_
                   replace hr:=aU hr
                   replace hr:=aU hr
                   refine gr ?_
                   refine S1.gx [5,9] ?_
                   refine gr ?_
                   replace hr:=aU hr
                   have hr:=bK hr
                   refine gr ?_
                   refine S.gx [2] ?_
                   exact D0 hr
                  ·refine gr ?_
                   obtain ⟨q8,hq,hr⟩:=gV hr
                   refine S4.sees [1,6,7,8,9,21,22] [(3,3),(300006,300006),(200006,200006),(100006,100006),(6,6)] [(2000300,2000300)] ?_ (Stop.iter S4 (fun s8=>⟨[(1,.c (.clo 69 [.ref 3 0])),(6,.c (.ref 300006 0)),(7,.c (.d (ah 6 aZ (hU (((hU (((hU ((a0.getD s1.1.toNat default).2.2.2.2.2)).getD s3.1.toNat default).2.2.2.2.2)).getD s5.1.toNat default).2.2.2.2.2))))),(8,.c (.d (.int .i64 ((hU (((hU (((hU ((a0.getD s1.1.toNat default).2.2.2.2.2)).getD s3.1.toNat default).2.2.2.2.2)).getD s5.1.toNat default).2.2.2.2.2)).length:Int)))),(9,.c (.d (.int .i64 s7.1))),(21,.c (.d (.int .i64 (((hU (((hU (((hU ((a0.getD s1.1.toNat default).2.2.2.2.2)).getD s3.1.toNat default).2.2.2.2.2)).getD s5.1.toNat default).2.2.2.2.2)).getD s7.1.toNat default).2.2.2.1)))),(22,.c (.d (.int .i64 0)))],[(3,[.own 2000300]),(300006,[.d (.int .i64 (((hU (((hU (((hU ((a0.getD s1.1.toNat default).2.2.2.2.2)).getD s3.1.toNat default).2.2.2.2.2)).getD s5.1.toNat default).2.2.2.2.2)).getD s7.1.toNat default).1)),.d (.int .i64 (((hU (((hU (((hU ((a0.getD s1.1.toNat default).2.2.2.2.2)).getD s3.1.toNat default).2.2.2.2.2)).getD s5.1.toNat default).2.2.2.2.2)).getD s7.1.toNat default).2.1)),.d (.int .i64 (((hU (((hU (((hU ((a0.getD s1.1.toNat default).2.2.2.2.2)).getD s3.1.toNat default).2.2.2.2.2)).getD s5.1.toNat default).2.2.2.2.2)).getD s7.1.toNat default).2.2.1)),.d (.int .i64 (((hU (((hU (((hU ((a0.getD s1.1.toNat default).2.2.2.2.2)).getD s3.1.toNat default).2.2.2.2.2)).getD s5.1.toNat default).2.2.2.2.2)).getD s7.1.toNat default).2.2.2.1)),.d (.int .i64 (((hU (((hU (((hU ((a0.getD s1.1.toNat default).2.2.2.2.2)).getD s3.1.toNat default).2.2.2.2.2)).getD s5.1.toNat default).2.2.2.2.2)).getD s7.1.toNat default).2.2.2.2.1)),.d (hE (((hU (((hU (((hU ((a0.getD s1.1.toNat default).2.2.2.2.2)).getD s3.1.toNat default).2.2.2.2.2)).getD s5.1.toNat default).2.2.2.2.2)).getD s7.1.toNat default).2.2.2.2.2))]),(200006,[.d (.int .i64 (((hU (((hU ((a0.getD s1.1.toNat default).2.2.2.2.2)).getD s3.1.toNat default).2.2.2.2.2)).getD s5.1.toNat default).1)),.d (.int .i64 (((hU (((hU ((a0.getD s1.1.toNat default).2.2.2.2.2)).getD s3.1.toNat default).2.2.2.2.2)).getD s5.1.toNat default).2.1)),.d (.int .i64 (((hU (((hU ((a0.getD s1.1.toNat default).2.2.2.2.2)).getD s3.1.toNat default).2.2.2.2.2)).getD s5.1.toNat default).2.2.1)),.d (.int .i64 (((hU (((hU ((a0.getD s1.1.toNat default).2.2.2.2.2)).getD s3.1.toNat default).2.2.2.2.2)).getD s5.1.toNat default).2.2.2.1)),.d (.int .i64 (((hU (((hU ((a0.getD s1.1.toNat default).2.2.2.2.2)).getD s3.1.toNat default).2.2.2.2.2)).getD s5.1.toNat default).2.2.2.2.1)),.d (hE (((hU (((hU ((a0.getD s1.1.toNat default).2.2.2.2.2)).getD s3.1.toNat default).2.2.2.2.2)).getD s5.1.toNat default).2.2.2.2.2))]),(100006,[.d (.int .i64 (((hU ((a0.getD s1.1.toNat default).2.2.2.2.2)).getD s3.1.toNat default).1)),.d (.int .i64 (((hU ((a0.getD s1.1.toNat default).2.2.2.2.2)).getD s3.1.toNat default).2.1)),.d (.int .i64 (((hU ((a0.getD s1.1.toNat default).2.2.2.2.2)).getD s3.1.toNat default).2.2.1)),.d (.int .i64 (((hU ((a0.getD s1.1.toNat default).2.2.2.2.2)).getD s3.1.toNat default).2.2.2.1)),.d (.int .i64 (((hU ((a0.getD s1.1.toNat default).2.2.2.2.2)).getD s3.1.toNat default).2.2.2.2.1)),.d (hE (((hU ((a0.getD s1.1.toNat default).2.2.2.2.2)).getD s3.1.toNat default).2.2.2.2.2))]),(6,[.d (.int .i64 ((a0.getD s1.1.toNat default).1)),.d (.int .i64 ((a0.getD s1.1.toNat default).2.1)),.d (.int .i64 ((a0.getD s1.1.toNat default).2.2.1)),.d (.int .i64 ((a0.getD s1.1.toNat default).2.2.2.1)),.d (.int .i64 ((a0.getD s1.1.toNat default).2.2.2.2.1)),.d (hE ((a0.getD s1.1.toNat default).2.2.2.2.2))])],[(2000300,.owned (ah 6 aZ s7.2))]⟩) (ac3 a0 s1 s3 s5 s7) _ hq hr ?_)
                   ·exact lf
                   ·intro s8 hr
                    unfold ac3 at hr
                    refine S4.gx [5,9] ?_
                    refine gr ?_
                    refine cZ hr (fun hc hr=> ?_) fun hc hr=> ?_
                    ·refine gr ?_
                     refine gr ?_
                     first | cases hr | exact hr.elim
                    ·refine gr ?_
                     replace hr:=aU hr
                     exact D1 (S4.ss [1,7,8,9] [(3,3),(200006,200006),(100006,100006),(6,6)] [(2000300,2000300)]) hr
                 ·refine gr ?_
                  replace hr:=aU hr
                  refine gr ?_
                  refine gr ?_
                  refine S3.gx [5,9] ?_
                  exact D1 (S3.ss [1,6,7,8,9,21,22] [(3,3),(200006,200006),(100006,100006),(6,6)] [(2000300,2000300)]) hr
               ·refine gr ?_
                replace hr:=aU hr
                exact D1 (S3.ss [1,7,8,9] [(3,3),(100006,100006),(6,6)] [(2000300,2000300)]) hr
            ·refine gr ?_
             replace hr:=aU hr
             refine gr ?_
             refine gr ?_
             refine S2.gx [5,9] ?_
             exact D1 (S2.ss [1,6,7,8,9,21,22] [(3,3),(100006,100006),(6,6)] [(2000300,2000300)]) hr
          ·refine gr ?_
           replace hr:=aU hr
           exact D1 (S2.ss [1,7,8,9] [(3,3),(6,6)] [(2000300,2000300)]) hr
       ·refine gr ?_
        replace hr:=aU hr
        refine gr ?_
        refine gr ?_
        refine S1.gx [5,9] ?_
        exact D1 (S1.ss [1,6,7,8,9,21,22] [(3,3),(6,6)] [(2000300,2000300)]) hr
     ·refine gr ?_
      replace hr:=aU hr
      exact D1 (S1.ss [1,7,8,9] [(3,3)] [(2000300,2000300)]) hr
  ·refine gr ?_
   have hr:=bK hr
   refine gr ?_
   refine gr ?_
   refine S.gx [2] ?_
   exact D0 hr
def Z4 (a0:Int):Option (Bool):=
 some ((a0 == 2) || (a0 == 4))
@[go_sem] def T41:=KQ oQ false Z4
theorem f41:aF Tryz.prog 41 T41.sp:=by
 refine vm .nil Tryz.func41 Tryz.ntmps41 fun a0 r hr stop S=> ?_
 rw [oC,Z4] at hr
 refine S.gx [] ?_
 repeat (first | refine gA ?_ | refine gB ?_)
 exact D0 hr
section
variable {β:Type} [Inhabited β] (u:β->List RV) (al:Bool)
def ap4 (a0 a1 a2 a3 a4:Int) (a5:Hl) (a6:Int):List Arg:=[.agg [.int .i64 a0,.int .i64 a1,.int .i64 a2,.int .i64 a3,.int .i64 a4,hE a5],.c (.int .i64 a6)]
def arN:List Arg->Int×Int×Int×Int×Int×Hl×Int
 | [.agg [c0,c1,c2,c3,c4,c5],.c c6]=>(aC c0,aC c1,aC c2,aC c3,aC c4,hD c5,aC c6)
 | _=>default
def asO (r:Int->Int->Int->Int->Int->Hl->Int->Option β):=mkT (u7 ap4) arN (u7 r) u al
attribute [go_sem] ap4 arN asO
def aqI (v:vT):List RV:=[.c (.own (ah 3 vN v))]
attribute [go_sem] aqI
def aqH (v:aK×Int):List RV:=[.c (.own (ah 6 aZ v.1)),.c (.d (.int .i64 v.2))]
attribute [go_sem] aqH
def aqG (v:Int×Int×Int):List RV:=[.agg [.d (.int .i64 v.1),.d (.int .i64 v.2.1)],.c (.d (.int .i64 v.2.2))]
attribute [go_sem] aqG
end
def r96 (a0:Int):Option (vT):=
 if (a0 == 0)=true then
  some [(140,1,10000),(142,1,200)]
  else if (a0 == 1)=true then
   some [(142,1,200)]
   else if (a0 == 2)=true then
    some [(141,0,3),(142,1,200)]
    else if (a0 == 3)=true then
     some [(143,200,3000),(140,1,10000),(142,1,200)]
     else if (a0 == 4)=true then
      some [(143,200,3000),(141,0,3),(142,1,200)]
      else if (a0 == 5)=true then
       some [(142,1,10)]
       else some []
@[go_sem] def T96:=KQ aqI true r96
theorem f96:aF Tryz.prog 96 T96.sp:=by
 refine vm .nil Tryz.func96 Tryz.ntmps96 fun a0 r hr stop S=> ?_
 rw [oC,r96] at hr
 refine S.gx [] ?_
 exact D0 hr
def XJ (x1 x2 x3 x4 x0:Int) (x5:Hl):Option (Int):=
 some x0
@[go_sem] def awc:=XR lC false XJ
theorem f143:aF Tryz.prog 143 awc.sp:=by
 refine vm .nil Tryz.func143 Tryz.ntmps143 fun ⟨x1,x2,x3,x4,x0,x5⟩ r hr stop S=> ?_
 rw [OW,XJ] at hr
 refine S.gx [] ?_
 exact D0 hr
def XK (x1 x2 x3 x0 x4:Int) (x5:Hl):Option (Int):=
 some x0
@[go_sem] def awd:=XR lC false XK
theorem f142:aF Tryz.prog 142 awd.sp:=by
 refine vm .nil Tryz.func142 Tryz.ntmps142 fun ⟨x1,x2,x3,x0,x4,x5⟩ r hr stop S=> ?_
 rw [OW,XK] at hr
 refine S.gx [] ?_
 exact D0 hr
def XL (x1 x2 x0 x3 x4:Int) (x5:Hl):Option (Int):=
 some x0
@[go_sem] def awe:=XR lC false XL
theorem f141:aF Tryz.prog 141 awe.sp:=by
 refine vm .nil Tryz.func141 Tryz.ntmps141 fun ⟨x1,x2,x0,x3,x4,x5⟩ r hr stop S=> ?_
 rw [OW,XL] at hr
 refine S.gx [] ?_
 exact D0 hr
def XM (x1 x0 x2 x3 x4:Int) (x5:Hl):Option (Int):=
 some x0
@[go_sem] def awf:=XR lC false XM
theorem f140:aF Tryz.prog 140 awf.sp:=by
 refine vm .nil Tryz.func140 Tryz.ntmps140 fun ⟨x1,x0,x2,x3,x4,x5⟩ r hr stop S=> ?_
 rw [OW,XM] at hr
 refine S.gx [] ?_
 exact D0 hr
def ac0 (OT:Int->Int->Int->Int->Int->Hl->Int->Option (Int)) (x0:Hl) (a1:Int):Bd Int Int:=fun s2=>
 if (decide (s2<((hU x0).length:Int)))=true then
  if 0<=s2/\s2<((hU x0).length:Int) then
   aP (OT (((hU x0).getD s2.toNat default).1) (((hU x0).getD s2.toNat default).2.1) (((hU x0).getD s2.toNat default).2.2.1) (((hU x0).getD s2.toNat default).2.2.2.1) (((hU x0).getD s2.toNat default).2.2.2.2.1) (((hU x0).getD s2.toNat default).2.2.2.2.2) (IntKind.i64.wrap (a1+1))) fun v22=>
    if (v22 != 0)=true then
     .out (some v22)
     else .next (IntKind.i64.wrap (s2+1))
   else .out none
  else .out (some 0)
def acZ (OT:Int->Int->Int->Int->Int->Hl->Int->Option (Int)) (x0:Hl) (a1:Int):Bd Int Int:=fun s3=>
 if (decide (s3<((hU x0).length:Int)))=true then
  if 0<=s3/\s3<((hU x0).length:Int) then
   aP (OT (((hU x0).getD s3.toNat default).1) (((hU x0).getD s3.toNat default).2.1) (((hU x0).getD s3.toNat default).2.2.1) (((hU x0).getD s3.toNat default).2.2.2.1) (((hU x0).getD s3.toNat default).2.2.2.2.1) (((hU x0).getD s3.toNat default).2.2.2.2.2) (IntKind.i64.wrap (a1+1))) fun v30=>
    if (v30 != 0)=true then
     .out (some v30)
     else .next (IntKind.i64.wrap (s3+1))
   else .out none
  else .out (some 0)
def acY (OT:Int->Int->Int->Int->Int->Hl->Int->Option (Int)) (x0:Hl) (a1:Int):Bd Int Int:=fun s4=>
 if (decide (s4<((hU x0).length:Int)))=true then
  if 0<=s4/\s4<((hU x0).length:Int) then
   aP (OT (((hU x0).getD s4.toNat default).1) (((hU x0).getD s4.toNat default).2.1) (((hU x0).getD s4.toNat default).2.2.1) (((hU x0).getD s4.toNat default).2.2.2.1) (((hU x0).getD s4.toNat default).2.2.2.2.1) (((hU x0).getD s4.toNat default).2.2.2.2.2) (IntKind.i64.wrap (a1+1))) fun v38=>
    if (v38 != 0)=true then
     .out (some v38)
     else .next (IntKind.i64.wrap (s4+1))
   else .out none
  else .out (some 0)
def acX (OT:Int->Int->Int->Int->Int->Hl->Int->Option (Int)) (x0:Hl) (a1:Int):Bd Int Int:=fun s5=>
 if (decide (s5<((hU x0).length:Int)))=true then
  if 0<=s5/\s5<((hU x0).length:Int) then
   aP (OT (((hU x0).getD s5.toNat default).1) (((hU x0).getD s5.toNat default).2.1) (((hU x0).getD s5.toNat default).2.2.1) (((hU x0).getD s5.toNat default).2.2.2.1) (((hU x0).getD s5.toNat default).2.2.2.2.1) (((hU x0).getD s5.toNat default).2.2.2.2.2) (IntKind.i64.wrap (a1+1))) fun v46=>
    if (v46 != 0)=true then
     .out (some v46)
     else .next (IntKind.i64.wrap (s5+1))
   else .out none
  else .out (some 0)
def EJ (OT:Int->Int->Int->Int->Int->Hl->Int->Option (Int)) (x0:Hl) (a1:Int):Bd Int Int:=fun s6=>
 if (decide (s6<((hU x0).length:Int)))=true then
  if 0<=s6/\s6<((hU x0).length:Int) then
   aP (OT (((hU x0).getD s6.toNat default).1) (((hU x0).getD s6.toNat default).2.1) (((hU x0).getD s6.toNat default).2.2.1) (((hU x0).getD s6.toNat default).2.2.2.1) (((hU x0).getD s6.toNat default).2.2.2.2.1) (((hU x0).getD s6.toNat default).2.2.2.2.2) (IntKind.i64.wrap (a1+1))) fun v54=>
    if (v54 != 0)=true then
     .out (some v54)
     else .next (IntKind.i64.wrap (s6+1))
   else .out none
  else .out (some 0)
def rX (OT:Int->Int->Int->Int->Int->Hl->Int->Option (Int)) (x1 x2 x3 x5 x4:Int) (x0:Hl) (a1:Int) (v2:vT):Bd (Bool×Int) Int:=fun s1=>
 if (decide (s1.2<(v2.length:Int)))=true then
  if 0<=s1.2/\s1.2<(v2.length:Int) then
   if (v2.getD s1.2.toNat default).1=140 then
    if s1.1=true->(XM x1 x2 x3 x5 x4 x0).isSome=true then
     if s1.1=true->(E8 ((XM x1 x2 x3 x5 x4 x0).getD default) ((v2.getD s1.2.toNat default).2.1) ((v2.getD s1.2.toNat default).2.2)).isSome=true then
      .next (s1.1 && ((E8 ((XM x1 x2 x3 x5 x4 x0).getD default) ((v2.getD s1.2.toNat default).2.1) ((v2.getD s1.2.toNat default).2.2)).getD default),IntKind.i64.wrap (s1.2+1))
      else .out none
     else .out none
    else if (v2.getD s1.2.toNat default).1=141 then
     if s1.1=true->(XL x1 x2 x3 x5 x4 x0).isSome=true then
      if s1.1=true->(E8 ((XL x1 x2 x3 x5 x4 x0).getD default) ((v2.getD s1.2.toNat default).2.1) ((v2.getD s1.2.toNat default).2.2)).isSome=true then
       .next (s1.1 && ((E8 ((XL x1 x2 x3 x5 x4 x0).getD default) ((v2.getD s1.2.toNat default).2.1) ((v2.getD s1.2.toNat default).2.2)).getD default),IntKind.i64.wrap (s1.2+1))
       else .out none
      else .out none
     else if (v2.getD s1.2.toNat default).1=142 then
      if s1.1=true->(XK x1 x2 x3 x5 x4 x0).isSome=true then
       if s1.1=true->(E8 ((XK x1 x2 x3 x5 x4 x0).getD default) ((v2.getD s1.2.toNat default).2.1) ((v2.getD s1.2.toNat default).2.2)).isSome=true then
        .next (s1.1 && ((E8 ((XK x1 x2 x3 x5 x4 x0).getD default) ((v2.getD s1.2.toNat default).2.1) ((v2.getD s1.2.toNat default).2.2)).getD default),IntKind.i64.wrap (s1.2+1))
        else .out none
       else .out none
      else if (v2.getD s1.2.toNat default).1=143 then
       if s1.1=true->(XJ x1 x2 x3 x5 x4 x0).isSome=true then
        if s1.1=true->(E8 ((XJ x1 x2 x3 x5 x4 x0).getD default) ((v2.getD s1.2.toNat default).2.1) ((v2.getD s1.2.toNat default).2.2)).isSome=true then
         .next (s1.1 && ((E8 ((XJ x1 x2 x3 x5 x4 x0).getD default) ((v2.getD s1.2.toNat default).2.1) ((v2.getD s1.2.toNat default).2.2)).getD default),IntKind.i64.wrap (s1.2+1))
         else .out none
        else .out none
       else .out none
   else .out none
  else .out (if (x1 == 0)=true then
   (jV (((x3 == 0) && (x4 == 0)) && ((x1 == 5) || (((hU x0).length:Int) == 0))) 3).bind fun v16=>
    (jV s1.1 2).bind fun v17=>
     (vF [v16,v17]).bind fun v18=>
      if ((v18 != 0) || (!(x1 == 5)))=true then
       some v18
       else if (a1 == 3)=true then
        some 16
        else (jV (decide (((hU x0).length:Int)>0)) 10).bind fun v19=>
         (jV (decide (((hU x0).length:Int)<=12)) 8).bind fun v20=>
          (vF [v19,v20]).bind fun v21=>
           if (v21 != 0)=true then
            some v21
            else aS (ac0 OT x0 a1) 1000000000 0
   else if (x1 == 2)=true then
    (jV (((x2 == 0) && (x4 == 0)) && ((x1 == 5) || (((hU x0).length:Int) == 0))) 3).bind fun v24=>
     (jV s1.1 2).bind fun v25=>
      (vF [v24,v25]).bind fun v26=>
       if ((v26 != 0) || (!(x1 == 5)))=true then
        some v26
        else if (a1 == 3)=true then
         some 16
         else (jV (decide (((hU x0).length:Int)>0)) 10).bind fun v27=>
          (jV (decide (((hU x0).length:Int)<=12)) 8).bind fun v28=>
           (vF [v27,v28]).bind fun v29=>
            if (v29 != 0)=true then
             some v29
             else aS (acZ OT x0 a1) 1000000000 0
    else if (x1 == 3)=true then
     (jV ((x3 == 0) && ((x1 == 5) || (((hU x0).length:Int) == 0))) 3).bind fun v32=>
      (jV s1.1 2).bind fun v33=>
       (vF [v32,v33]).bind fun v34=>
        if ((v34 != 0) || (!(x1 == 5)))=true then
         some v34
         else if (a1 == 3)=true then
          some 16
          else (jV (decide (((hU x0).length:Int)>0)) 10).bind fun v35=>
           (jV (decide (((hU x0).length:Int)<=12)) 8).bind fun v36=>
            (vF [v35,v36]).bind fun v37=>
             if (v37 != 0)=true then
              some v37
              else aS (acY OT x0 a1) 1000000000 0
     else if (x1 == 4)=true then
      (jV ((x2 == 0) && ((x1 == 5) || (((hU x0).length:Int) == 0))) 3).bind fun v40=>
       (jV s1.1 2).bind fun v41=>
        (vF [v40,v41]).bind fun v42=>
         if ((v42 != 0) || (!(x1 == 5)))=true then
          some v42
          else if (a1 == 3)=true then
           some 16
           else (jV (decide (((hU x0).length:Int)>0)) 10).bind fun v43=>
            (jV (decide (((hU x0).length:Int)<=12)) 8).bind fun v44=>
             (vF [v43,v44]).bind fun v45=>
              if (v45 != 0)=true then
               some v45
               else aS (acX OT x0 a1) 1000000000 0
      else (jV ((((x2 == 0) && (x3 == 0)) && (x4 == 0)) && ((x1 == 5) || (((hU x0).length:Int) == 0))) 3).bind fun v48=>
       (jV s1.1 2).bind fun v49=>
        (vF [v48,v49]).bind fun v50=>
         if ((v50 != 0) || (!(x1 == 5)))=true then
          some v50
          else if (a1 == 3)=true then
           some 16
           else (jV (decide (((hU x0).length:Int)>0)) 10).bind fun v51=>
            (jV (decide (((hU x0).length:Int)<=12)) 8).bind fun v52=>
             (vF [v51,v52]).bind fun v53=>
              if (v53 != 0)=true then
               some v53
               else aS (EJ OT x0 a1) 1000000000 0)
def q67 (lv:Nat) (OT:Int->Int->Int->Int->Int->Hl->Int->Option (Int)) (x1 x2 x3 x5 x4:Int) (x0:Hl) (a1:Int):Option (Int):=
 (E8 x1 0 5).bind fun v1=>
  if (!v1)=true then
   some 15
   else (r96 x1).bind fun v2=>
    aS (rX OT x1 x2 x3 x5 x4 x0 a1 v2) 1000000000 (true,0)
def OX:(ix:Nat)->Int->Int->Int->Int->Int->Hl->Int->Option (Int)
 | 0=>fun _ _ _ _ _ _ _=>none
 | lv+1=>q67 lv (OX lv)
@[go_sem] def T67 (ix:Nat):=asO lC false (OX ix)
@[go_sem] def azT (lv:Nat) (k:Nat):=lk [(39,T39.sp),(40,T40.sp),(46,T46.sp),(67,(T67 lv).sp),(96,T96.sp),(140,awf.sp),(141,awe.sp),(142,awd.sp),(143,awc.sp)] k
theorem uh (lv:Nat) (h:aF Tryz.prog 67 (T67 lv).sp):dS Tryz.prog (azT lv):= .cons f39 (.cons f40 (.cons f46 (.cons h (.cons f96 (.cons f140 (.cons f141 (.cons f142 (.cons f143 .nil))))))))
theorem f67 (ix:Nat):aF Tryz.prog 67 (T67 ix).sp:=by
 induction ix with
 | zero=>exact qQ Tryz.func67 (by decide) rfl (fun ⟨x1,x2,x3,x5,x4,x0,a1⟩ h=>Bool.false_ne_true h)
 | succ lv ih=>
 refine oM bP (uh lv ih) Tryz.func67 rfl Tryz.ntmps67 fun ⟨x1,x2,x3,x5,x4,x0,a1⟩ r hr=>⟨nL rfl,fun stop S=> ?_⟩
 replace hr:=(KO x1 x2 x3 x5 x4 x0 a1 (OX (lv+1))).symm.trans hr
 rw [OX] at hr
 unfold q67 at hr
 refine S.gx [26,7,21] ?_
 obtain ⟨v1,hv1,hr⟩:=aA hr
 refine gb hv1 ?_
 refine iW hr (fun hc hr=>D0 hr) fun hc hr=> ?_
 obtain ⟨v2,hv2,hr⟩:=aA hr
 refine gb hv2 ?_
 refine S.sees [1,2,5,6,19,20,21] [(2,2),(5,5)] [(19,19)] ?_ (Stop.iter S (fun s1=>⟨[(1,.c (.d (.int .i64 a1))),(2,.c (.ref 2 0)),(5,.c (.ref 5 0)),(6,.c (.d (.bool s1.1))),(19,.c (.own 19)),(20,.c (.d (.int .i64 (v2.length:Int)))),(21,.c (.d (.int .i64 s1.2)))],[(2,[.d (.int .i64 x1),.d (.int .i64 x2),.d (.int .i64 x3),.d (.int .i64 x5),.d (.int .i64 x4),.d (hE x0)]),(5,[.d (.int .i64 x1),.d (.int .i64 x2),.d (.int .i64 x3),.d (.int .i64 x5),.d (.int .i64 x4),.d (hE x0)])],[(19,.owned (ah 3 vN v2))]⟩) (rX (OX lv) x1 x2 x3 x5 x4 x0 a1 v2) (fun q=>q=r) hr rfl ?_)
 ·exact lf
 ·intro s1 hr
  unfold rX at hr
  refine S.gx [26,7,21] ?_
  refine gr ?_
  refine cZ hr (fun hc hr=> ?_) fun hc hr=> ?_
  ·obtain ⟨abo,hr⟩:=aB hr
   refine gr ?_
   by_cases QC:(v2.getD s1.2.toNat default).1=140
   ·rw [if_pos QC] at hr
    simp only [QC]
    refine S.gx [26,21] ?_
    obtain ⟨JH,hr⟩:=aB hr
    obtain ⟨X9,hr⟩:=aB hr
    repeat (first | refine gG JH ?_ | refine gG X9 ?_ | refine gA ?_ | refine gB ?_)
    exact D1 (S.ss [1,2,5,6,19,20,21] [(2,2),(5,5)] [(19,19)]) hr
   ·rw [if_neg QC] at hr
    by_cases hs9:(v2.getD s1.2.toNat default).1=141
    ·rw [if_pos hs9] at hr
     simp only [hs9]
     refine S.gx [26,21] ?_
     obtain ⟨uX,hr⟩:=aB hr
     obtain ⟨y7,hr⟩:=aB hr
     repeat (first | refine gG uX ?_ | refine gG y7 ?_ | refine gA ?_ | refine gB ?_)
     exact D1 (S.ss [1,2,5,6,19,20,21] [(2,2),(5,5)] [(19,19)]) hr
    ·rw [if_neg hs9] at hr
     by_cases hs6:(v2.getD s1.2.toNat default).1=142
     ·rw [if_pos hs6] at hr
      simp only [hs6]
      refine S.gx [26,21] ?_
      obtain ⟨Wx,hr⟩:=aB hr
      obtain ⟨Wv,hr⟩:=aB hr
      repeat (first | refine gG Wx ?_ | refine gG Wv ?_ | refine gA ?_ | refine gB ?_)
      exact D1 (S.ss [1,2,5,6,19,20,21] [(2,2),(5,5)] [(19,19)]) hr
     ·rw [if_neg hs6] at hr
      by_cases hs3:(v2.getD s1.2.toNat default).1=143
      ·rw [if_pos hs3] at hr
       simp only [hs3]
       refine S.gx [26,21] ?_
       obtain ⟨hg4,hr⟩:=aB hr
       obtain ⟨hg5,hr⟩:=aB hr
       repeat (first | refine gG hg4 ?_ | refine gG hg5 ?_ | refine gA ?_ | refine gB ?_)
       exact D1 (S.ss [1,2,5,6,19,20,21] [(2,2),(5,5)] [(19,19)]) hr
      ·rw [if_neg hs3] at hr
       first | cases hr | exact hr.elim
  ·refine gr ?_
   have hr:=bK hr
   refine gr ?_
   refine iW hr (fun hc hr=> ?_) fun hc hr=> ?_
   ·repeat (first | refine gA ?_ | refine gB ?_)
    refine S.prune [1,2,6,9,10] ?_
    refine S.gx [26,7] ?_
    obtain ⟨v16,QA,hr⟩:=aA hr
    obtain ⟨v17,Qz,hr⟩:=aA hr
    obtain ⟨v18,Qy,hr⟩:=aA hr
    refine gb QA ?_
    refine gb Qz ?_
    refine gb Qy ?_
    repeat (first | refine gA ?_ | refine gB ?_)
    refine iW hr (fun hc hr=>D0 hr) fun hc hr=> ?_
    refine gr ?_
    refine iW hr (fun hc hr=>D0 hr) fun hc hr=> ?_
    refine gr ?_
    refine S.inl 4 [11] [] Tryz.func37 (by decide) rfl Tryz.ntmps37 (fun cx e=>aX bP (uh lv ih) cx e) (some 109) rfl rfl rfl rfl (nL rfl) (nL rfl) ?_
    refine gs ?_
    refine gr ?_
    intro stop1 S1
    refine S1.gx [] ?_
    obtain ⟨v19,JE,hr⟩:=aA hr
    obtain ⟨v20,JD,hr⟩:=aA hr
    obtain ⟨v21,Qx,hr⟩:=aA hr
    refine gb JE ?_
    refine gb JD ?_
    refine gb Qx ?_
    refine iW hr (fun hc hr=> ?_) fun hc hr=> ?_
    ·refine gr ?_
     refine gr ?_
     refine S.gx [26,7,21] ?_
     exact D0 hr
    ·refine gr ?_
     refine S1.sees [1,23,24,25] [] [] ?_ (Stop.iter S1 (fun s2=>⟨[(1,.c (.d (.int .i64 (IntKind.i64.wrap (a1+1))))),(23,.c (.d (ah 6 aZ (hU x0)))),(24,.c (.d (.int .i64 ((hU x0).length:Int)))),(25,.c (.d (.int .i64 s2)))],[],[]⟩) (ac0 (OX lv) x0 a1) (fun q=>q=r) hr rfl ?_)
     ·exact lf
     ·intro s2 hr
      unfold ac0 at hr
      refine S1.gx [] ?_
      refine gr ?_
      refine cZ hr (fun hc hr=> ?_) fun hc hr=> ?_
      ·obtain ⟨akg,hr⟩:=aB hr
       obtain ⟨v22,Qw,hr⟩:=aI hr
       refine gb Qw ?_
       refine cZ hr (fun hc hr=> ?_) fun hc hr=>D1 (S1.ss [1,23,24,25] [] []) hr
       refine gr ?_
       have hr:=bK hr
       refine gr ?_
       refine S.gx [26,7,21] ?_
       exact D0 hr
      ·refine gr ?_
       have hr:=bK hr
       refine gr ?_
       refine gr ?_
       refine S.gx [26,7,21] ?_
       exact D0 hr
   ·refine gr ?_
    refine iW hr (fun hc hr=> ?_) fun hc hr=> ?_
    ·repeat (first | refine gA ?_ | refine gB ?_)
     refine S.prune [1,2,6,9,10] ?_
     refine S.gx [26,7] ?_
     obtain ⟨v24,hv24,hr⟩:=aA hr
     obtain ⟨v25,hv25,hr⟩:=aA hr
     obtain ⟨v26,Qv,hr⟩:=aA hr
     refine gb hv24 ?_
     refine gb hv25 ?_
     refine gb Qv ?_
     repeat (first | refine gA ?_ | refine gB ?_)
     refine iW hr (fun hc hr=>D0 hr) fun hc hr=> ?_
     refine gr ?_
     refine iW hr (fun hc hr=>D0 hr) fun hc hr=> ?_
     refine gr ?_
     refine S.inl 4 [11] [] Tryz.func37 (by decide) rfl Tryz.ntmps37 (fun cx e=>aX bP (uh lv ih) cx e) (some 109) rfl rfl rfl rfl (nL rfl) (nL rfl) ?_
     refine gs ?_
     refine gr ?_
     intro stop1 S1
     refine S1.gx [] ?_
     obtain ⟨v27,hv27,hr⟩:=aA hr
     obtain ⟨v28,hv28,hr⟩:=aA hr
     obtain ⟨v29,hv29,hr⟩:=aA hr
     refine gb hv27 ?_
     refine gb hv28 ?_
     refine gb hv29 ?_
     refine iW hr (fun hc hr=> ?_) fun hc hr=> ?_
     ·refine gr ?_
      refine gr ?_
      refine S.gx [26,7,21] ?_
      exact D0 hr
     ·refine gr ?_
      refine S1.sees [1,23,24,25] [] [] ?_ (Stop.iter S1 (fun s3=>⟨[(1,.c (.d (.int .i64 (IntKind.i64.wrap (a1+1))))),(23,.c (.d (ah 6 aZ (hU x0)))),(24,.c (.d (.int .i64 ((hU x0).length:Int)))),(25,.c (.d (.int .i64 s3)))],[],[]⟩) (acZ (OX lv) x0 a1) (fun q=>q=r) hr rfl ?_)
      ·exact lf
      ·intro s3 hr
       unfold acZ at hr
       refine S1.gx [] ?_
       refine gr ?_
       refine cZ hr (fun hc hr=> ?_) fun hc hr=> ?_
       ·obtain ⟨aBF,hr⟩:=aB hr
        obtain ⟨v30,ajY,hr⟩:=aI hr
        refine gb ajY ?_
        refine cZ hr (fun hc hr=> ?_) fun hc hr=>D1 (S1.ss [1,23,24,25] [] []) hr
        refine gr ?_
        have hr:=bK hr
        refine gr ?_
        refine S.gx [26,7,21] ?_
        exact D0 hr
       ·refine gr ?_
        have hr:=bK hr
        refine gr ?_
        refine gr ?_
        refine S.gx [26,7,21] ?_
        exact D0 hr
    ·refine gr ?_
     refine iW hr (fun hc hr=> ?_) fun hc hr=> ?_
     ·repeat (first | refine gA ?_ | refine gB ?_)
      refine S.prune [1,2,6,9,10] ?_
      refine S.gx [26,7] ?_
      obtain ⟨v32,hv32,hr⟩:=aA hr
      obtain ⟨v33,Qu,hr⟩:=aA hr
      obtain ⟨v34,hv34,hr⟩:=aA hr
      refine gb hv32 ?_
      refine gb Qu ?_
      refine gb hv34 ?_
      repeat (first | refine gA ?_ | refine gB ?_)
      refine iW hr (fun hc hr=>D0 hr) fun hc hr=> ?_
      refine gr ?_
      refine iW hr (fun hc hr=>D0 hr) fun hc hr=> ?_
      refine gr ?_
      refine S.inl 4 [11] [] Tryz.func37 (by decide) rfl Tryz.ntmps37 (fun cx e=>aX bP (uh lv ih) cx e) (some 109) rfl rfl rfl rfl (nL rfl) (nL rfl) ?_
      refine gs ?_
      refine gr ?_
      intro stop1 S1
      refine S1.gx [] ?_
      obtain ⟨v35,ajX,hr⟩:=aA hr
      obtain ⟨v36,aBs,hr⟩:=aA hr
      obtain ⟨v37,ajW,hr⟩:=aA hr
      refine gb ajX ?_
      refine gb aBs ?_
      refine gb ajW ?_
      refine iW hr (fun hc hr=> ?_) fun hc hr=> ?_
      ·refine gr ?_
       refine gr ?_
       refine S.gx [26,7,21] ?_
       exact D0 hr
      ·refine gr ?_
       refine S1.sees [1,23,24,25] [] [] ?_ (Stop.iter S1 (fun s4=>⟨[(1,.c (.d (.int .i64 (IntKind.i64.wrap (a1+1))))),(23,.c (.d (ah 6 aZ (hU x0)))),(24,.c (.d (.int .i64 ((hU x0).length:Int)))),(25,.c (.d (.int .i64 s4)))],[],[]⟩) (acY (OX lv) x0 a1) (fun q=>q=r) hr rfl ?_)
       ·exact lf
       ·intro s4 hr
        unfold acY at hr
        refine S1.gx [] ?_
        refine gr ?_
        refine cZ hr (fun hc hr=> ?_) fun hc hr=> ?_
        ·obtain ⟨aBD,hr⟩:=aB hr
         obtain ⟨v38,hv38,hr⟩:=aI hr
         refine gb hv38 ?_
         refine cZ hr (fun hc hr=> ?_) fun hc hr=>D1 (S1.ss [1,23,24,25] [] []) hr
         refine gr ?_
         have hr:=bK hr
         refine gr ?_
         refine S.gx [26,7,21] ?_
         exact D0 hr
        ·refine gr ?_
         have hr:=bK hr
         refine gr ?_
         refine gr ?_
         refine S.gx [26,7,21] ?_
         exact D0 hr
     ·refine gr ?_
      refine iW hr (fun hc hr=> ?_) fun hc hr=> ?_
      ·repeat (first | refine gA ?_ | refine gB ?_)
       refine S.prune [1,2,6,9,10] ?_
       refine S.gx [26,7] ?_
       obtain ⟨v40,aBr,hr⟩:=aA hr
       obtain ⟨v41,aBq,hr⟩:=aA hr
       obtain ⟨v42,aBp,hr⟩:=aA hr
       refine gb aBr ?_
       refine gb aBq ?_
       refine gb aBp ?_
       repeat (first | refine gA ?_ | refine gB ?_)
       refine iW hr (fun hc hr=>D0 hr) fun hc hr=> ?_
       refine gr ?_
       refine iW hr (fun hc hr=>D0 hr) fun hc hr=> ?_
       refine gr ?_
       refine S.inl 4 [11] [] Tryz.func37 (by decide) rfl Tryz.ntmps37 (fun cx e=>aX bP (uh lv ih) cx e) (some 109) rfl rfl rfl rfl (nL rfl) (nL rfl) ?_
       refine gs ?_
       refine gr ?_
       intro stop1 S1
       refine S1.gx [] ?_
       obtain ⟨v43,aBo,hr⟩:=aA hr
       obtain ⟨v44,aBn,hr⟩:=aA hr
       obtain ⟨v45,aBm,hr⟩:=aA hr
       refine gb aBo ?_
       refine gb aBn ?_
       refine gb aBm ?_
       refine iW hr (fun hc hr=> ?_) fun hc hr=> ?_
       ·refine gr ?_
        refine gr ?_
        refine S.gx [26,7,21] ?_
        exact D0 hr
       ·refine gr ?_
        refine S1.sees [1,23,24,25] [] [] ?_ (Stop.iter S1 (fun s5=>⟨[(1,.c (.d (.int .i64 (IntKind.i64.wrap (a1+1))))),(23,.c (.d (ah 6 aZ (hU x0)))),(24,.c (.d (.int .i64 ((hU x0).length:Int)))),(25,.c (.d (.int .i64 s5)))],[],[]⟩) (acX (OX lv) x0 a1) (fun q=>q=r) hr rfl ?_)
        ·exact lf
        ·intro s5 hr
         unfold acX at hr
         refine S1.gx [] ?_
         refine gr ?_
         refine cZ hr (fun hc hr=> ?_) fun hc hr=> ?_
         ·obtain ⟨aGB,hr⟩:=aB hr
          obtain ⟨v46,ajV,hr⟩:=aI hr
          refine gb ajV ?_
          refine cZ hr (fun hc hr=> ?_) fun hc hr=>D1 (S1.ss [1,23,24,25] [] []) hr
          refine gr ?_
          have hr:=bK hr
          refine gr ?_
          refine S.gx [26,7,21] ?_
          exact D0 hr
         ·refine gr ?_
          have hr:=bK hr
          refine gr ?_
          refine gr ?_
          refine S.gx [26,7,21] ?_
          exact D0 hr
      ·repeat (first | refine gA ?_ | refine gB ?_)
       refine S.prune [1,2,6,9,10] ?_
       refine S.gx [26,7] ?_
       obtain ⟨v48,ajU,hr⟩:=aA hr
       obtain ⟨v49,ajT,hr⟩:=aA hr
       obtain ⟨v50,aBk,hr⟩:=aA hr
       refine gb ajU ?_
       refine gb ajT ?_
       refine gb aBk ?_
       repeat (first | refine gA ?_ | refine gB ?_)
       refine iW hr (fun hc hr=>D0 hr) fun hc hr=> ?_
       refine gr ?_
       refine iW hr (fun hc hr=>D0 hr) fun hc hr=> ?_
       refine gr ?_
       refine S.inl 4 [11] [] Tryz.func37 (by decide) rfl Tryz.ntmps37 (fun cx e=>aX bP (uh lv ih) cx e) (some 109) rfl rfl rfl rfl (nL rfl) (nL rfl) ?_
       refine gs ?_
       refine gr ?_
       intro stop1 S1
       refine S1.gx [] ?_
       obtain ⟨v51,aBj,hr⟩:=aA hr
       obtain ⟨v52,aBi,hr⟩:=aA hr
       obtain ⟨v53,aBh,hr⟩:=aA hr
       refine gb aBj ?_
       refine gb aBi ?_
       refine gb aBh ?_
       refine iW hr (fun hc hr=> ?_) fun hc hr=> ?_
       ·refine gr ?_
        refine gr ?_
        refine S.gx [26,7,21] ?_
        exact D0 hr
       ·refine gr ?_
        refine S1.sees [1,23,24,25] [] [] ?_ (Stop.iter S1 (fun s6=>⟨[(1,.c (.d (.int .i64 (IntKind.i64.wrap (a1+1))))),(23,.c (.d (ah 6 aZ (hU x0)))),(24,.c (.d (.int .i64 ((hU x0).length:Int)))),(25,.c (.d (.int .i64 s6)))],[],[]⟩) (EJ (OX lv) x0 a1) (fun q=>q=r) hr rfl ?_)
        ·exact lf
        ·intro s6 hr
         unfold EJ at hr
         refine S1.gx [] ?_
         refine gr ?_
         refine cZ hr (fun hc hr=> ?_) fun hc hr=> ?_
         ·obtain ⟨aGw,hr⟩:=aB hr
          obtain ⟨v54,aBg,hr⟩:=aI hr
          refine gb aBg ?_
          refine cZ hr (fun hc hr=> ?_) fun hc hr=>D1 (S1.ss [1,23,24,25] [] []) hr
          refine gr ?_
          have hr:=bK hr
          refine gr ?_
          refine S.gx [26,7,21] ?_
          exact D0 hr
         ·refine gr ?_
          have hr:=bK hr
          refine gr ?_
          refine gr ?_
          refine S.gx [26,7,21] ?_
          exact D0 hr
def Y7 (a0:aK):Bd Int (Int×Int):=fun s1=>
 if (decide (s1<(a0.length:Int)))=true then
  if 0<=s1/\s1<(a0.length:Int) then
   aP (OX 7 ((a0.getD s1.toNat default).1) ((a0.getD s1.toNat default).2.1) ((a0.getD s1.toNat default).2.2.1) ((a0.getD s1.toNat default).2.2.2.1) ((a0.getD s1.toNat default).2.2.2.2.1) ((a0.getD s1.toNat default).2.2.2.2.2) 0) fun v10=>
    if (v10 != 0)=true then
     .out (if (v10 != 0)=true then
      some (s1,v10)
      else (Z5 a0).bind fun v11=>
       (jV (decide ((v11.length:Int)<=60)) 8).bind fun v12=>
        if 0<=IntKind.i64.wrap ((v11.length:Int) - 1)/\IntKind.i64.wrap ((v11.length:Int) - 1)<(v11.length:Int) then
         (Z4 ((v11.getD (IntKind.i64.wrap ((v11.length:Int) - 1)).toNat default).1)).bind fun v13=>
          (jV v13 20).bind fun v14=>
           (vF [v12,v14]).bind fun v15=>
            some (0,v15)
         else none)
     else .next (IntKind.i64.wrap (s1+1))
   else .out none
  else .out ((Z5 a0).bind fun v18=>
   (jV (decide ((v18.length:Int)<=60)) 8).bind fun v19=>
    if 0<=IntKind.i64.wrap ((v18.length:Int) - 1)/\IntKind.i64.wrap ((v18.length:Int) - 1)<(v18.length:Int) then
     (Z4 ((v18.getD (IntKind.i64.wrap ((v18.length:Int) - 1)).toNat default).1)).bind fun v20=>
      (jV v20 20).bind fun v21=>
       (vF [v19,v21]).bind fun v22=>
        some (0,v22)
     else none)
def r8 (a0:aK):Option (Int×Int):=
 (jV (decide ((a0.length:Int)>0)) 10).bind fun v1=>
  (jV (decide ((a0.length:Int)<=12)) 8).bind fun v2=>
   (vF [v1,v2]).bind fun v3=>
    if (v3 != 0)=true then
     if (v3 != 0)=true then
      some (0,v3)
      else (Z5 a0).bind fun v4=>
       (jV (decide ((v4.length:Int)<=60)) 8).bind fun v5=>
        if 0<=IntKind.i64.wrap ((v4.length:Int) - 1)/\IntKind.i64.wrap ((v4.length:Int) - 1)<(v4.length:Int) then
         (Z4 ((v4.getD (IntKind.i64.wrap ((v4.length:Int) - 1)).toNat default).1)).bind fun v6=>
          (jV v6 20).bind fun v7=>
           (vF [v5,v7]).bind fun v8=>
            some (0,v8)
         else none
     else aS (Y7 a0) 1000000000 0
@[go_sem] def T8:=Dc Gq false r8
@[go_sem] def tb8 (k:Nat):=lk [(38,T38.sp),(39,T39.sp),(40,T40.sp),(41,T41.sp),(67,(T67 7).sp)] k
theorem ahY:dS Tryz.prog tb8:= .cons f38 (.cons f39 (.cons f40 (.cons f41 (.cons (f67 7) .nil))))
theorem f8:aF Tryz.prog 8 T8.sp:=by
 refine vm (tb:=tb8) (.cons f38 (.cons f39 (.cons f40 (.cons f41 (.cons (f67 7) .nil))))) Tryz.func8 Tryz.ntmps8 fun a0 r hr stop S=> ?_
 rw [oC,r8] at hr
 refine S.gx [1] ?_
 refine gr ?_
 refine S.inl 1 [0] [] Tryz.func37 (by decide) rfl Tryz.ntmps37 (fun cx e=>aX bP ahY cx e) (some 9) rfl rfl rfl rfl (nL rfl) (nL rfl) ?_
 refine gs ?_
 refine gr ?_
 intro stop1 S1
 refine S1.gx [] ?_
 obtain ⟨v1,hv1,hr⟩:=aA hr
 obtain ⟨v2,hv2,hr⟩:=aA hr
 obtain ⟨v3,hv3,hr⟩:=aA hr
 refine gb hv1 ?_
 refine gb hv2 ?_
 refine gb hv3 ?_
 refine iW hr (fun hc hr=> ?_) fun hc hr=> ?_
 ·refine gr ?_
  refine gr ?_
  refine S.gx [1] ?_
  exact D0 hr
 ·refine gr ?_
  refine S1.sees [1,23,24,25] [] [] ?_ (Stop.iter S1 (fun s1=>⟨[(1,.c (.d (.int .i64 0))),(23,.c (.d (ah 6 aZ a0))),(24,.c (.d (.int .i64 (a0.length:Int)))),(25,.c (.d (.int .i64 s1)))],[],[]⟩) (Y7 a0) (fun q=>q=r) hr rfl ?_)
  ·exact lf
  ·intro s1 hr
   unfold Y7 at hr
   refine S1.gx [] ?_
   refine gr ?_
   refine cZ hr (fun hc hr=> ?_) fun hc hr=> ?_
   ·obtain ⟨aut,hr⟩:=aB hr
    obtain ⟨v10,yZ,hr⟩:=aI hr
    refine gb yZ ?_
    refine cZ hr (fun hc hr=> ?_) fun hc hr=>D1 (S1.ss [1,23,24,25] [] []) hr
    refine gr ?_
    have hr:=bK hr
    refine gr ?_
    refine S.gx [1] ?_
    exact D0 hr
   ·refine gr ?_
    have hr:=bK hr
    refine gr ?_
    refine gr ?_
    refine S.gx [1] ?_
    exact D0 hr
def r10 (a0:aK):Option (aK×Int):=
 (r8 a0).bind fun v1=>
  if (v1.2 != 0)=true then
   some ([],v1.2)
   else (Z5 a0).bind fun v2=>
    some (v2,0)
@[go_sem] def T10:=Dc aqH true r10
@[go_sem] def aAi (k:Nat):=lk [(8,T8.sp),(38,T38.sp)] k
theorem f10:aF Tryz.prog 10 T10.sp:=by
 refine vm (tb:=aAi) (.cons f8 (.cons f38 .nil)) Tryz.func10 Tryz.ntmps10 fun a0 r hr stop S=> ?_
 rw [oC,r10] at hr
 refine S.gx [] ?_
 exact D0 hr
def r47 (x1 x2:Int) (x3:au) (x0:aj) (x4 x5:bn) (x6:au) (x7 x8:Int):Option (Int):=
 some (IntKind.i64.wrap ((x0.length:Int) - 1))
@[go_sem] def T47:=L8 lC false r47
theorem f47:aF Tryz.prog 47 T47.sp:=by
 refine vm .nil Tryz.func47 Tryz.ntmps47 fun ⟨x1,x2,x3,x0,x4,x5,x6,x7,x8⟩ r hr stop S=> ?_
 rw [OV,r47] at hr
 refine S.gx [] ?_
 exact D0 hr
def yP (x1 x2:Int) (x3:au) (x4:aj) (x0:au) (x5:aj) (a1:Int):Option (Int×Int):=
 (AO x0 a1 1).bind fun v1=>
  some (v1.1,v1.2)
@[go_sem] def agk:=afc qu7 false yP
@[go_sem] def aob (k:Nat):=lk [(162,agj.sp)] k
theorem f160:aF Tryz.prog 160 agk.sp:=by
 refine vm (tb:=aob) (.cons f162 .nil) Tryz.func160 Tryz.ntmps160 fun ⟨x1,x2,x3,x4,x0,x5,a1⟩ r hr stop S=> ?_
 rw [KO,yP] at hr
 refine S.gx [] ?_
 exact D0 hr
def EO:Bd (Int×Int) Int:=fun s1=>
 if (s1.2 != 0)=true then
  if s1.2≠0 then
   .next (s1.2,s1.1.tmod s1.2)
   else .out none
  else .out (some (if s1.1<IntKind.i64.wrap (0 - s1.1) then IntKind.i64.wrap (0 - s1.1) else s1.1))
def XE (a0 a1:Int):Option (Int):=
 aS (EO) 1000000000 (a0,a1)
@[go_sem] def avM:=qT7 lC false XE
theorem f180:aF Tryz.prog 180 avM.sp:=by
 refine vm .nil Tryz.func180 Tryz.ntmps180 fun ⟨a0,a1⟩ r hr stop S=> ?_
 rw [yI,XE] at hr
 refine S.gx [] ?_
 refine gr ?_
 refine S.sees [0,1] [] [] ?_ (Stop.iter S (fun s1=>⟨[(0,.c (.d (.int .i64 s1.1))),(1,.c (.d (.int .i64 s1.2)))],[],[]⟩) (EO) (fun q=>q=r) hr rfl ?_)
 ·exact lf
 ·intro s1 hr
  unfold EO at hr
  refine S.gx [] ?_
  exact D1 (S.ss [0,1] [] []) hr
def P8 (x0 x1:Int) (x2:au) (x3:aj) (a1:Int):Option (Int×Int×Int):=
 (L6 x0 x1 x2 x3).bind fun v1=>
  if (v1.2.2.2.2.2.2 == 0)=true then
   (P9 v1.1 v1.2.1 v1.2.2.1 v1.2.2.2.1 v1.2.2.2.2.1 v1.2.2.2.2.2.1 a1).bind fun v2=>
    (nN v2 2).bind fun v3=>
     if (v3 != 0)=true then
      some (0,0,v3)
      else (yP v1.1 v1.2.1 v1.2.2.1 v1.2.2.2.1 v1.2.2.2.2.1 v1.2.2.2.2.2.1 a1).bind fun v4=>
       (XE v4.1 v4.2).bind fun v5=>
        if v5≠0 then
         if v5≠0 then
          some (IntKind.i64.wrap (v4.1.tdiv v5),IntKind.i64.wrap (v4.2.tdiv v5),0)
          else none
         else none
   else if (v1.2.2.2.2.2.2 != 0)=true then
    some (0,0,v1.2.2.2.2.2.2)
    else (yP v1.1 v1.2.1 v1.2.2.1 v1.2.2.2.1 v1.2.2.2.2.1 v1.2.2.2.2.2.1 a1).bind fun v8=>
     (XE v8.1 v8.2).bind fun v9=>
      if v9≠0 then
       if v9≠0 then
        some (IntKind.i64.wrap (v8.1.tdiv v9),IntKind.i64.wrap (v8.2.tdiv v9),0)
        else none
       else none
@[go_sem] def ak8:=afb aqG false P8
@[go_sem] def aoq (k:Nat):=lk [(108,adi.sp),(110,KE.sp),(118,agl.sp),(160,agk.sp),(180,avM.sp)] k
theorem f133:aF Tryz.prog 133 ak8.sp:=by
 refine vm (tb:=aoq) (.cons f108 (.cons f110 (.cons f118 (.cons f160 (.cons f180 .nil))))) Tryz.func133 Tryz.ntmps133 fun ⟨x0,x1,x2,x3,a1⟩ r hr stop S=> ?_
 rw [uq5,P8] at hr
 refine S.gx [] ?_
 exact D0 hr
def r88 (x0 x1:Int) (x2:au) (x3:aj) (x4 x5:bn) (x6:au) (x7 x8 a1 a2:Int):Option (Int):=
 (P8 x0 x1 x2 x3 a1).bind fun v1=>
  some (IntKind.i64.wrap (v1.1 - (IntKind.i64.wrap (a2*v1.2.1))))
@[go_sem] def T88:=afa lC false r88
@[go_sem] def azH (k:Nat):=lk [(133,ak8.sp)] k
theorem f88:aF Tryz.prog 88 T88.sp:=by
 refine vm (tb:=azH) (.cons f133 .nil) Tryz.func88 Tryz.ntmps88 fun ⟨x0,x1,x2,x3,x4,x5,x6,x7,x8,a1,a2⟩ r hr stop S=> ?_
 rw [Zo,r88] at hr
 refine S.gx [] ?_
 exact D0 hr
def aiG (x0 x1:Int):Option (Int):=
 some x0
@[go_sem] def avS:=Qb lC false aiG
theorem f171:aF Tryz.prog 171 avS.sp:=by
 refine vm .nil Tryz.func171 Tryz.ntmps171 fun ⟨x0,x1⟩ r hr stop S=> ?_
 rw [yI,aiG] at hr
 refine S.gx [] ?_
 exact D0 hr
def ae2 (x0 x1:Int):Option (Int):=
 some (IntKind.i64.wrap ((IntKind.i64.wrap (x0+x1)).tdiv 2))
@[go_sem] def awD:=Qb lC false ae2
theorem f102:aF Tryz.prog 102 awD.sp:=by
 refine vm .nil Tryz.func102 Tryz.ntmps102 fun ⟨x0,x1⟩ r hr stop S=> ?_
 rw [yI,ae2] at hr
 refine S.gx [] ?_
 exact D0 hr
def r87 (x1 x0:Int):Option (Int):=
 some x0
@[go_sem] def T87:=Qb lC false r87
theorem f87:aF Tryz.prog 87 T87.sp:=by
 refine vm .nil Tryz.func87 Tryz.ntmps87 fun ⟨x1,x0⟩ r hr stop S=> ?_
 rw [yI,r87] at hr
 refine S.gx [] ?_
 exact D0 hr
section
variable {β:Type} [Inhabited β] (u:β->List RV) (al:Bool)
def ap0 (a0 a1:Int) (a2:au) (a3:aj) (a4 a5:bn) (a6:au) (a7 a8 a9 a10:Int) (a11:Nat):List Arg:=[.agg [.int .i64 a0,.int .i64 a1,ah 2 aT a2,ah 1 aQ a3,ah 1 cu a4,ah 1 cu a5,ah 2 aT a6,.int .i64 a7,.int .i64 a8],.agg [.int .i64 a9,.int .i64 a10],.clo a11 []]
def arJ:List Arg->Int×Int×au×aj×bn×bn×au×Int×Int×Int×Int×Nat
 | [.agg [c0,c1,c2,c3,c4,c5,c6,c7,c8],.agg [c9,c10],.clo c11 []]=>(aC c0,aC c1,aG bY c2,aG bQ c3,aG jM c4,aG jM c5,aG bY c6,aC c7,aC c8,aC c9,aC c10,c11)
 | _=>default
def asN (r:Int->Int->au->aj->bn->bn->au->Int->Int->Int->Int->Nat->Option β):=mkT (u12 ap0) arJ (u12 r) u al
attribute [go_sem] ap0 arJ asN
def apY (a0:bn):List Arg:=[.c (ah 1 cu a0),.clo 157 []]
def arH:List Arg->bn
 | [.c c0,.clo _ []]=>aG jM c0
 | _=>default
def ai4 (r:bn->Option β):=mkT (u1 apY) arH (u1 r) u al
attribute [go_sem] apY arH ai4
def apX (a0 a1:Int) (a2:au) (a3:aj) (a4:au) (a5:aj) (a6:bn) (a7:Int):List Arg:=[.agg [.int .i64 a0,.int .i64 a1,ah 2 aT a2,ah 1 aQ a3,ah 2 aT a4,ah 1 aQ a5],.agg [ah 1 cu a6,.int .i64 a7]]
def arG:List Arg->Int×Int×au×aj×au×aj×bn×Int
 | [.agg [c0,c1,c2,c3,c4,c5],.agg [c6,c7]]=>(aC c0,aC c1,aG bY c2,aG bQ c3,aG bY c4,aG bQ c5,aG jM c6,aC c7)
 | _=>default
def asM (r:Int->Int->au->aj->au->aj->bn->Int->Option β):=mkT (u8 apX) arG (u8 r) u al
attribute [go_sem] apX arG asM
def apW (a0 a1:Int) (a2:au) (a3:aj) (a4:au) (a5:aj) (a6 a7:Int):List Arg:=[.agg [.int .i64 a0,.int .i64 a1,ah 2 aT a2,ah 1 aQ a3,ah 2 aT a4,ah 1 aQ a5],.c (.int .i64 a6),.c (.int .i64 a7)]
def arF:List Arg->Int×Int×au×aj×au×aj×Int×Int
 | [.agg [c0,c1,c2,c3,c4,c5],.c c6,.c c7]=>(aC c0,aC c1,aG bY c2,aG bQ c3,aG bY c4,aG bQ c5,aC c6,aC c7)
 | _=>default
def asL (r:Int->Int->au->aj->au->aj->Int->Int->Option β):=mkT (u8 apW) arF (u8 r) u al
attribute [go_sem] apW arF asL
def apV (a0:bn) (a1 a2:Int) (a3:au) (a4:aj) (a5:au) (a6:aj):List Arg:=[.c (ah 1 cu a0),.clo 117 [[.int .i64 a1,.int .i64 a2,ah 2 aT a3,ah 1 aQ a4,ah 2 aT a5,ah 1 aQ a6]]]
def arE:List Arg->bn×Int×Int×au×aj×au×aj
 | [.c c0,.clo _ [[c1,c2,c3,c4,c5,c6]]]=>(aG jM c0,aC c1,aC c2,aG bY c3,aG bQ c4,aG bY c5,aG bQ c6)
 | _=>default
def ai3 (r:bn->Int->Int->au->aj->au->aj->Option β):=mkT (u7 apV) arE (u7 r) u al
attribute [go_sem] apV arE ai3
def apU (a0 a1:Int) (a2:au) (a3:aj) (a4:au) (a5:aj) (a6 a7:bn) (a8:Int):List Arg:=[.agg [.int .i64 a0,.int .i64 a1,ah 2 aT a2,ah 1 aQ a3,ah 2 aT a4,ah 1 aQ a5],.c (ah 1 cu a6),.agg [ah 1 cu a7,.int .i64 a8]]
def arD:List Arg->Int×Int×au×aj×au×aj×bn×bn×Int
 | [.agg [c0,c1,c2,c3,c4,c5],.c c6,.agg [c7,c8]]=>(aC c0,aC c1,aG bY c2,aG bQ c3,aG bY c4,aG bQ c5,aG jM c6,aG jM c7,aC c8)
 | _=>default
def asK (r:Int->Int->au->aj->au->aj->bn->bn->Int->Option β):=mkT (u9 apU) arD (u9 r) u al
attribute [go_sem] apU arD asK
def apT (a0 a1:Int) (a2:au) (a3:aj) (a4 a5:bn) (a6:Int):List Arg:=[.agg [.int .i64 a0,.int .i64 a1,ah 2 aT a2,ah 1 aQ a3],.c (ah 1 cu a4),.agg [ah 1 cu a5,.int .i64 a6]]
def arC:List Arg->Int×Int×au×aj×bn×bn×Int
 | [.agg [c0,c1,c2,c3],.c c4,.agg [c5,c6]]=>(aC c0,aC c1,aG bY c2,aG bQ c3,aG jM c4,aG jM c5,aC c6)
 | _=>default
def asJ (r:Int->Int->au->aj->bn->bn->Int->Option β):=mkT (u7 apT) arC (u7 r) u al
attribute [go_sem] apT arC asJ
def aqF (v:bn×Int):List RV:=[.agg [.own (ah 1 cu v.1),.d (.int .i64 v.2)]]
attribute [go_sem] aqF
def aqE (v:bn×Int×Int):List RV:=[.c (.own (ah 1 cu v.1)),.c (.d (.int .i64 v.2.1)),.c (.d (.int .i64 v.2.2))]
attribute [go_sem] aqE
def aqD (v:bn×Int):List RV:=[.c (.own (ah 1 cu v.1)),.c (.d (.int .i64 v.2))]
attribute [go_sem] aqD
end
def Hy (x0:au) (x1 x2:Int) (a2:Nat):Bd (Int×(List (Int))) (bn×Int):=fun s1=>
 if (decide (s1.1<(x0.length:Int)))=true then
  if 0<=s1.1/\s1.1<(x0.length:Int) then
   if a2=87 then
    aP (r87 ((x0.getD s1.1.toNat default).1) ((x0.getD s1.1.toNat default).2)) fun v8=>
     if (s1.2.length+1)*8<=140737488355328/\s1.2.length+1<=9223372036854775807 then
      .next (IntKind.i64.wrap (s1.1+1),s1.2++[IntKind.i64.wrap ((IntKind.i64.wrap (x1*v8)).tdiv 1000)])
      else .out none
    else if a2=102 then
     aP (ae2 ((x0.getD s1.1.toNat default).1) ((x0.getD s1.1.toNat default).2)) fun v5=>
      if (s1.2.length+1)*8<=140737488355328/\s1.2.length+1<=9223372036854775807 then
       .next (IntKind.i64.wrap (s1.1+1),s1.2++[IntKind.i64.wrap ((IntKind.i64.wrap (x1*v5)).tdiv 1000)])
       else .out none
     else if a2=171 then
      aP (aiG ((x0.getD s1.1.toNat default).1) ((x0.getD s1.1.toNat default).2)) fun v2=>
       if (s1.2.length+1)*8<=140737488355328/\s1.2.length+1<=9223372036854775807 then
        .next (IntKind.i64.wrap (s1.1+1),s1.2++[IntKind.i64.wrap ((IntKind.i64.wrap (x1*v2)).tdiv 1000)])
        else .out none
      else .out none
   else .out none
  else .out (some (s1.2,x2))
def PW (x3 x4:Int) (x5:au) (x6:aj) (x7 x8:bn) (x0:au) (x9 x10 x1 x2:Int) (a2:Nat):Option (bn×Int):=
 aS (Hy x0 x1 x2 a2) 1000000000 (0,[])
@[go_sem] def T86:=asN aqF false PW
@[go_sem] def azI (k:Nat):=lk [(87,T87.sp),(102,awD.sp),(171,avS.sp)] k
theorem f86:aF Tryz.prog 86 T86.sp:=by
 refine vm (tb:=azI) (.cons f87 (.cons f102 (.cons f171 .nil))) Tryz.func86 Tryz.ntmps86 fun ⟨x3,x4,x5,x6,x7,x8,x0,x9,x10,x1,x2,a2⟩ r hr stop S=> ?_
 rw [ahV,PW] at hr
 refine S.gx [5] ?_
 refine gr ?_
 refine S.rV 7 0 2000700 1 rfl rfl (nL rfl) rfl ?_
 refine S.sees [2,4,6,7,15,16,17] [(4,4),(6,6),(7,7)] [(2000700,2000700)] ?_ (Stop.iter S (fun s1=>⟨[(2,.c (.clo a2 [])),(4,.c (.ref 4 0)),(6,.c (.ref 6 0)),(7,.c (.ref 7 0)),(15,.c (.d (ah 2 aT x0))),(16,.c (.d (.int .i64 (x0.length:Int)))),(17,.c (.d (.int .i64 s1.1)))],[(4,[.d (.int .i64 x1),.d (.int .i64 x2)]),(6,[.dD,.d (.int .i64 0)]),(7,[.own 2000700,.d (.int .i64 x2)])],[(2000700,.owned (ah 1 cu s1.2))]⟩) (Hy x0 x1 x2 a2) (fun q=>q=r) hr rfl ?_)
 ·exact lf
 ·intro s1 hr
  unfold Hy at hr
  refine S.gx [5] ?_
  refine gr ?_
  refine cZ hr (fun hc hr=> ?_) fun hc hr=>D0 hr
  obtain ⟨uX,hr⟩:=aB hr
  refine gr ?_
  by_cases hs7:a2=87
  ·subst hs7
   rw [if_pos rfl] at hr
   refine S.gx [] ?_
   exact D1 (S.ss [2,4,6,7,15,16,17] [(4,4),(6,6),(7,7)] [(31,2000700)]) hr
  ·rw [if_neg hs7] at hr
   by_cases hs4:a2=102
   ·subst hs4
    rw [if_pos rfl] at hr
    refine S.gx [] ?_
    exact D1 (S.ss [2,4,6,7,15,16,17] [(4,4),(6,6),(7,7)] [(31,2000700)]) hr
   ·rw [if_neg hs4] at hr
    by_cases hs1:a2=171
    ·subst hs1
     rw [if_pos rfl] at hr
     refine S.gx [] ?_
     exact D1 (S.ss [2,4,6,7,15,16,17] [(4,4),(6,6),(7,7)] [(31,2000700)]) hr
    ·rw [if_neg hs1] at hr
     first | cases hr | exact hr.elim
def r79 (x0 x1:Int) (x2:au) (x3:aj) (a1:bn):Option (Int×Int×au×aj×au×aj×Int):=
 (L6 x0 x1 x2 x3).bind fun v1=>
  if (v1.2.2.2.2.2.2 == 0)=true then
   (Qa v1.1 v1.2.1 v1.2.2.1 v1.2.2.2.1 v1.2.2.2.2.1 v1.2.2.2.2.2.1 a1).bind fun v2=>
    some (v1.1,v1.2.1,v1.2.2.1,v1.2.2.2.1,v1.2.2.2.2.1,v1.2.2.2.2.2.1,v2.2)
   else some (v1.1,v1.2.1,v1.2.2.1,v1.2.2.2.1,v1.2.2.2.2.1,v1.2.2.2.2.2.1,v1.2.2.2.2.2.2)
@[go_sem] def T79:=ae' qu8 true r79
@[go_sem] def azN (k:Nat):=lk [(108,adi.sp),(109,ak'.sp)] k
theorem f79:aF Tryz.prog 79 T79.sp:=by
 refine vm (tb:=azN) (.cons f108 (.cons f109 .nil)) Tryz.func79 Tryz.ntmps79 fun ⟨x0,x1,x2,x3,a1⟩ r hr stop S=> ?_
 rw [uq5,r79] at hr
 refine S.gx [] ?_
 exact D0 hr
def P6 (a0:Int):Option (Bool):=
 (yQ a0 0 10000).bind fun v1=>
  some v1
@[go_sem] def ak4:=KQ oQ false P6
@[go_sem] def aod (k:Nat):=lk [(144,OI.sp)] k
theorem f158:aF Tryz.prog 158 ak4.sp:=by
 refine vm (tb:=aod) (.cons f144 .nil) Tryz.func158 Tryz.ntmps158 fun a0 r hr stop S=> ?_
 rw [oC,P6] at hr
 refine S.gx [] ?_
 exact D0 hr
def aeX (a0:Int):Option (Bool):=
 (P6 a0).bind fun v1=>
  some (!v1)
@[go_sem] def av1:=KQ oQ false aeX
@[go_sem] def aoe (k:Nat):=lk [(158,ak4.sp)] k
theorem f157:aF Tryz.prog 157 av1.sp:=by
 refine vm (tb:=aoe) (.cons f158 .nil) Tryz.func157 Tryz.ntmps157 fun a0 r hr stop S=> ?_
 rw [oC,aeX] at hr
 refine S.gx [] ?_
 exact D0 hr
def yH (a0:bn):Bd Int Int:=fun s1=>
 if (decide (s1<(a0.length:Int)))=true then
  if 0<=s1/\s1<(a0.length:Int) then
   aP (aeX (a0.getD s1.toNat default)) fun v1=>
    if v1=true then
     .out (some s1)
     else .next (IntKind.i64.wrap (s1+1))
   else .out none
  else .out (some (-1))
def LY (a0:bn):Option (Int):=
 aS (yH a0) 1000000000 0
@[go_sem] def ahB:=ai4 lC false LY
@[go_sem] def ah1 (k:Nat):=lk [(157,av1.sp)] k
theorem auI:aF Tryz.prog 155 ahB.sp:=by
 refine vm (tb:=ah1) (.cons f157 .nil) Tryz.func155 Tryz.ntmps155 fun a0 r hr stop S=> ?_
 rw [oC,LY] at hr
 refine S.gx [] ?_
 refine gr ?_
 refine S.sees [0,1,7,8] [] [] ?_ (Stop.iter S (fun s1=>⟨[(0,.c (.d (ah 1 cu a0))),(1,.c (.clo 157 [])),(7,.c (.d (.int .i64 (a0.length:Int)))),(8,.c (.d (.int .i64 s1)))],[],[]⟩) (yH a0) (fun q=>q=r) hr rfl ?_)
 ·exact lf
 ·intro s1 hr
  unfold yH at hr
  refine S.gx [] ?_
  exact D1 (S.ss [0,1,7,8] [] []) hr
def aag (a0:bn):Option (Bool):=
 (LY a0).bind fun v1=>
  some (decide (v1>=0))
@[go_sem] def awu:=ai4 oQ false aag
@[go_sem] def aoE (k:Nat):=lk [(155,ahB.sp)] k
theorem f116:aF Tryz.prog 116 awu.sp:=by
 refine vm (tb:=aoE) (.cons auI .nil) Tryz.func116 Tryz.ntmps116 fun a0 r hr stop S=> ?_
 rw [oC,aag] at hr
 refine S.gx [] ?_
 exact D0 hr
def P5 (x1 x2:Int) (x3:au) (x4:aj) (x5:au) (x0:aj) (a1:Int):Option (Int):=
 (yQ a1 0 (IntKind.i64.wrap ((x0.length:Int) - 1))).bind fun v1=>
  (nN v1 6).bind fun v2=>
   some v2
@[go_sem] def ak3:=afc lC false P5
@[go_sem] def aoc (k:Nat):=lk [(110,KE.sp),(144,OI.sp)] k
theorem f159:aF Tryz.prog 159 ak3.sp:=by
 refine vm (tb:=aoc) (.cons f110 (.cons f144 .nil)) Tryz.func159 Tryz.ntmps159 fun ⟨x1,x2,x3,x4,x5,x0,a1⟩ r hr stop S=> ?_
 rw [KO,P5] at hr
 refine S.gx [] ?_
 exact D0 hr
def aah (x0 x2:Int) (x3:au) (x4:aj) (x5:au) (x6:aj) (x1:bn) (x7:Int):Option (Int):=
 (aag x1).bind fun v1=>
  (nN ((x1.length:Int) == x0) 10).bind fun v2=>
   (nN (!v1) 2).bind fun v3=>
    (P5 x0 x2 x3 x4 x5 x6 x7).bind fun v4=>
     (AP [v2,v3,v4]).bind fun v5=>
      some v5
@[go_sem] def aww:=asM lC false aah
@[go_sem] def aoG (k:Nat):=lk [(110,KE.sp),(111,Tv.sp),(116,awu.sp),(159,ak3.sp)] k
theorem f112:aF Tryz.prog 112 aww.sp:=by
 refine vm (tb:=aoG) (.cons f110 (.cons f111 (.cons f116 (.cons f159 .nil)))) Tryz.func112 Tryz.ntmps112 fun ⟨x0,x2,x3,x4,x5,x6,x1,x7⟩ r hr stop S=> ?_
 rw [uq8,aah] at hr
 refine S.gx [] ?_
 exact D0 hr
def LZ (a0:List (Int)):Option (List (Int)):=if a0.length*8<=140737488355328/\a0.length<=9223372036854775807 then some a0 else none
def FZ:rY (List (Int)) where
 enc x:=[.c (ah 1 cu x)]
 dec a:=aG jM (adh a 0 0)
 pre x:=(LZ x).isSome=true
 res x:=[.c (.own (ah 1 cu ((LZ x).getD default)))]
 al:=false
theorem ava (c0:D):FZ.sp.pre [.c c0]=(eqvArgs [.c c0] [.c (ah 1 cu (aG jM c0))]/\(LZ (aG jM c0)).isSome=true):=(rfl)
theorem au' (c0:D):FZ.sp.res [.c c0]=[.c (.own (ah 1 cu ((LZ (aG jM c0)).getD default)))]:=(rfl)
theorem avb:FZ.sp.alias=false:=(rfl)
attribute [go_sem] ava au' avb
theorem axy:Valid Tryz.prog 113 FZ.sp:=by
 refine TB (fn:=Tryz.f113) (n:=8) bP dS.nil Tryz.func113 rfl Tryz.ntmps113 ?_
 rintro a0 hx
 obtain ⟨r,hr⟩:=oE (show (LZ a0).isSome=true from hx)
 have hres:FZ.res a0=[.c (.own (ah 1 cu r))]:=by simp only [FZ,hr,Option.getD_some]
 refine ⟨nL rfl,fun stop S=> ?_⟩
 rw [hres] at S
 unfold LZ at hr
 obtain ⟨hg,hr⟩:=aN hr
 cases hr
 refine S.goB [1] 1000 ?_
 simp only [go_sem,FZ,Bool.not_true,Bool.not_false,Option.map_some,Int.reduceToNat,Nat.reduceEqDiff,Nat.reduceBEq,Nat.reduceLT,Nat.reduceAdd,Nat.reduceMul,Nat.reduceSub,Nat.reduceLeDiff, ↓reduceIte,reduceCtorEq,Tryz.results113]
 refine S.auK 0 3 4 38 38 3 rfl rfl rfl rfl rfl rfl rfl rfl rfl rfl (by decide) (by decide) ?_
 intro b hb
 refine S.goB [] 1000 ?_
 simp only [go_sem,FZ,Bool.not_true,Bool.not_false,Option.map_some,Int.reduceToNat,Nat.reduceEqDiff,Nat.reduceBEq,Nat.reduceLT,Nat.reduceAdd,Nat.reduceMul,Nat.reduceSub,Nat.reduceLeDiff, ↓reduceIte,reduceCtorEq,Tryz.results113]
 have hb':b=true->a0.length=0:=hb
 refine ⟨?_,?_⟩<;>intro hc
 ·simpa using hb' hc
 ·refine ⟨by omega,by omega,?_⟩
  (simp (maxDischargeDepth:=8) [go_sem])
theorem f113:aF Tryz.prog 113 FZ.sp:=⟨⟨Tryz.f113,Tryz.func113,by decide,rfl⟩,axy⟩
def CZ (a0 a1:Int):Option (Int):=
 if a1≠0 then
  if a1≠0 then
   if (decide ((a0.tmod a1)<0))=true then
    some (IntKind.i64.wrap ((IntKind.i64.wrap (a0.tdiv a1)) - 1))
    else some (IntKind.i64.wrap (a0.tdiv a1))
   else none
  else none
@[go_sem] def ak2:=qT7 lC false CZ
theorem f161:aF Tryz.prog 161 ak2.sp:=by
 refine vm .nil Tryz.func161 Tryz.ntmps161 fun ⟨a0,a1⟩ r hr stop S=> ?_
 rw [yI,CZ] at hr
 refine S.gx [] ?_
 exact D0 hr
def XO (x1 x2:Int) (x3:au) (x4:aj) (x5:au) (x0:aj) (a1 a2:Int):Option (Int):=
 if 0<=a1/\a1<(x0.length:Int) then
  (yP x1 x2 x3 x4 x5 x0 a2).bind fun v1=>
   (AO (x0.getD a1.toNat default) v1.1 v1.2).bind fun v2=>
    (CZ v2.1 v2.2).bind fun v3=>
     some v3
  else none
@[go_sem] def awv:=asL lC false XO
@[go_sem] def aoF (k:Nat):=lk [(160,agk.sp),(161,ak2.sp),(162,agj.sp)] k
theorem f115:aF Tryz.prog 115 awv.sp:=by
 refine vm (tb:=aoF) (.cons f160 (.cons f161 (.cons f162 .nil))) Tryz.func115 Tryz.ntmps115 fun ⟨x1,x2,x3,x4,x5,x0,a1,a2⟩ r hr stop S=> ?_
 rw [uq8,XO] at hr
 refine S.gx [] ?_
 exact D0 hr
def ae1 (a0 x0 x1:Int) (x2:au) (x3:aj) (x4:au) (x5:aj):Option (Bool):=
 (P9 x0 x1 x2 x3 x4 x5 a0).bind fun v1=>
  some (!v1)
@[go_sem] def awt:=ai5 oQ false ae1
@[go_sem] def aoD (k:Nat):=lk [(118,agl.sp)] k
theorem f117:aF Tryz.prog 117 awt.sp:=by
 refine vm (tb:=aoD) (.cons f118 .nil) Tryz.func117 Tryz.ntmps117 fun ⟨a0,x0,x1,x2,x3,x4,x5⟩ r hr stop S=> ?_
 rw [KO,ae1] at hr
 refine S.gx [] ?_
 exact D0 hr
def yG (a0:bn) (x0 x1:Int) (x2:au) (x3:aj) (x4:au) (x5:aj):Bd Int Int:=fun s1=>
 if (decide (s1<(a0.length:Int)))=true then
  if 0<=s1/\s1<(a0.length:Int) then
   aP (ae1 (a0.getD s1.toNat default) x0 x1 x2 x3 x4 x5) fun v1=>
    if v1=true then
     .out (some s1)
     else .next (IntKind.i64.wrap (s1+1))
   else .out none
  else .out (some (-1))
def LX (a0:bn) (x0 x1:Int) (x2:au) (x3:aj) (x4:au) (x5:aj):Option (Int):=
 aS (yG a0 x0 x1 x2 x3 x4 x5) 1000000000 0
@[go_sem] def ahA:=ai3 lC false LX
@[go_sem] def ah0 (k:Nat):=lk [(117,awt.sp)] k
theorem auH:aF Tryz.prog 155 ahA.sp:=by
 refine vm (tb:=ah0) (.cons f117 .nil) Tryz.func155 Tryz.ntmps155 fun ⟨a0,x0,x1,x2,x3,x4,x5⟩ r hr stop S=> ?_
 rw [KO,LX] at hr
 refine S.gx [] ?_
 refine gr ?_
 refine S.sees [0,1,7,8] [] [] ?_ (Stop.iter S (fun s1=>⟨[(0,.c (.d (ah 1 cu a0))),(1,.c (.clo 117 [.dJ [.int .i64 x0,.int .i64 x1,ah 2 aT x2,ah 1 aQ x3,ah 2 aT x4,ah 1 aQ x5] 0])),(7,.c (.d (.int .i64 (a0.length:Int)))),(8,.c (.d (.int .i64 s1)))],[],[]⟩) (yG a0 x0 x1 x2 x3 x4 x5) (fun q=>q=r) hr rfl ?_)
 ·exact lf
 ·intro s1 hr
  unfold yG at hr
  refine S.gx [] ?_
  exact D1 (S.ss [0,1,7,8] [] []) hr
def C9 (a0:bn) (x0 x1:Int) (x2:au) (x3:aj) (x4:au) (x5:aj):Option (Bool):=
 (LX a0 x0 x1 x2 x3 x4 x5).bind fun v1=>
  some (decide (v1>=0))
@[go_sem] def ahD:=ai3 oQ false C9
@[go_sem] def ah3 (k:Nat):=lk [(155,ahA.sp)] k
theorem ahm:aF Tryz.prog 116 ahD.sp:=by
 refine vm (tb:=ah3) (.cons auH .nil) Tryz.func116 Tryz.ntmps116 fun ⟨a0,x0,x1,x2,x3,x4,x5⟩ r hr stop S=> ?_
 rw [KO,C9] at hr
 refine S.gx [] ?_
 exact D0 hr
def EI (x1 x0:Int) (x2:au) (x3:aj) (x4:au) (x5:aj) (x6:bn) (v20:Int):Bd (Int×(List (Int))) (bn×Int×Int):=fun s3=>
 if (decide (s3.1<(x6.length:Int)))=true then
  if 0<=s3.1/\s3.1<(x6.length:Int) then
   if 0<=s3.1/\s3.1<(s3.2.length:Int) then
    if 0<=s3.1/\s3.1<(s3.2.length:Int) then
     .next (IntKind.i64.wrap (s3.1+1),s3.2.set s3.1.toNat (IntKind.i64.wrap ((s3.2.getD s3.1.toNat default)+(x6.getD s3.1.toNat default))))
     else .out none
    else .out none
   else .out none
  else .out ((C9 s3.2 x1 x0 x2 x3 x4 x5).bind fun v24=>
   (nN (!v24) 22).bind fun v25=>
    some (s3.2,v20,v25))
def Hz (x1 x0:Int) (x2:au) (x3:aj) (x4:au) (x5:aj) (x6:bn) (x7:Int):Bd (Int×(List (Int))) (bn×Int×Int):=fun s2=>
 if (decide ((IntKind.i64.wrap (s2.1+1))<(s2.2.length:Int)))=true then
  if 0<=s2.1/\s2.1<(s2.2.length:Int) then
   aP (yP x1 x0 x2 x3 x4 x5 (s2.2.getD s2.1.toNat default)) fun v11=>
    if 0<=IntKind.i64.wrap (s2.1+1)/\IntKind.i64.wrap (s2.1+1)<(s2.2.length:Int) then
     aP (yP x1 x0 x2 x3 x4 x5 (s2.2.getD (IntKind.i64.wrap (s2.1+1)).toNat default)) fun v12=>
      aP (CZ (IntKind.i64.wrap (x0*(IntKind.i64.wrap ((IntKind.i64.wrap (v11.1*v12.2)) - (IntKind.i64.wrap (v12.1*v11.2)))))) (IntKind.i64.wrap ((IntKind.i64.wrap (1000*v11.2))*v12.2))) fun v13=>
       if 0<=s2.1/\s2.1<(s2.2.length:Int) then
        if 0<=IntKind.i64.wrap (s2.1+1)/\IntKind.i64.wrap (s2.1+1)<(s2.2.length:Int) then
         if 0<=s2.1/\s2.1<(s2.2.length:Int) then
          if 0<=IntKind.i64.wrap (s2.1+1)/\IntKind.i64.wrap (s2.1+1)<(s2.2.length:Int) then
           .next (IntKind.i64.wrap (s2.1+2),(s2.2.set s2.1.toNat (IntKind.i64.wrap ((s2.2.getD s2.1.toNat default) - v13))).set (IntKind.i64.wrap (s2.1+1)).toNat (IntKind.i64.wrap ((s2.2.getD (IntKind.i64.wrap (s2.1+1)).toNat default)+v13)))
           else .out none
          else .out none
         else .out none
        else .out none
     else .out none
   else .out none
  else .out (if 0<=0/\0<(s2.2.length:Int) then
   (XO x1 x0 x2 x3 x4 x5 x7 (s2.2.getD 0 default)).bind fun v20=>
    if 0<=0/\0<(s2.2.length:Int) then
     if 0<=0/\0<(s2.2.length:Int) then
      aS (EI x1 x0 x2 x3 x4 x5 x6 v20) 1000000000 (0,s2.2.set 0 (IntKind.i64.wrap ((s2.2.getD 0 default) - v20)))
      else none
     else none
   else none)
def OD (x1 x0:Int) (x2:au) (x3:aj) (x4:au) (x5:aj) (x6:bn) (x7:Int):Bd (Int×(List (Int))) (bn×Int×Int):=fun s1=>
 if (decide ((IntKind.i64.wrap (s1.1+1))<(s1.2.length:Int)))=true then
  if 0<=s1.1/\s1.1<(s1.2.length:Int) then
   aP (yP x1 x0 x2 x3 x4 x5 (s1.2.getD s1.1.toNat default)) fun v2=>
    if 0<=IntKind.i64.wrap (s1.1+1)/\IntKind.i64.wrap (s1.1+1)<(s1.2.length:Int) then
     aP (yP x1 x0 x2 x3 x4 x5 (s1.2.getD (IntKind.i64.wrap (s1.1+1)).toNat default)) fun v3=>
      aP (CZ (IntKind.i64.wrap (x0*(IntKind.i64.wrap ((IntKind.i64.wrap (v2.1*v3.2)) - (IntKind.i64.wrap (v3.1*v2.2)))))) (IntKind.i64.wrap ((IntKind.i64.wrap (1000*v2.2))*v3.2))) fun v4=>
       if 0<=s1.1/\s1.1<(s1.2.length:Int) then
        if 0<=IntKind.i64.wrap (s1.1+1)/\IntKind.i64.wrap (s1.1+1)<(s1.2.length:Int) then
         if 0<=s1.1/\s1.1<(s1.2.length:Int) then
          if 0<=IntKind.i64.wrap (s1.1+1)/\IntKind.i64.wrap (s1.1+1)<(s1.2.length:Int) then
           .next (IntKind.i64.wrap (s1.1+2),(s1.2.set s1.1.toNat (IntKind.i64.wrap ((s1.2.getD s1.1.toNat default) - v4))).set (IntKind.i64.wrap (s1.1+1)).toNat (IntKind.i64.wrap ((s1.2.getD (IntKind.i64.wrap (s1.1+1)).toNat default)+v4)))
           else .out none
          else .out none
         else .out none
        else .out none
     else .out none
   else .out none
  else .out (aS (Hz x1 x0 x2 x3 x4 x5 x6 x7) 1000000000 (1,s1.2))
def r81 (x1 x0:Int) (x2:au) (x3:aj) (x4:au) (x5:aj) (a1 x6:bn) (x7:Int):Option (bn×Int×Int):=
 (LZ a1).bind fun v1=>
  aS (OD x1 x0 x2 x3 x4 x5 x6 x7) 1000000000 (0,v1)
@[go_sem] def T81:=asK aqE false r81
@[go_sem] def anI (k:Nat):=lk [(110,KE.sp),(113,FZ.sp),(115,awv.sp),(116,ahD.sp),(160,agk.sp),(161,ak2.sp)] k
theorem VD:dS Tryz.prog anI:= .cons f110 (.cons f113 (.cons f115 (.cons ahm (.cons f160 (.cons f161 .nil)))))
theorem f81:aF Tryz.prog 81 T81.sp:=by
 refine vm (tb:=anI) (.cons f110 (.cons f113 (.cons f115 (.cons ahm (.cons f160 (.cons f161 .nil)))))) Tryz.func81 Tryz.ntmps81 fun ⟨x1,x0,x2,x3,x4,x5,a1,x6,x7⟩ r hr stop S=> ?_
 rw [OV,r81] at hr
 refine S.gx [2,3] ?_
 obtain ⟨v1,hv1,hr⟩:=aA hr
 refine gb hv1 ?_
 refine S.inl 2 [3,5,9] [] Tryz.func114 (by decide) rfl Tryz.ntmps114 (fun cx e=>aX bP VD cx e) (some 18) rfl rfl rfl rfl (nL rfl) (nL rfl) ?_
 refine gs ?_
 refine gr ?_
 intro stop1 S1
 refine S1.gx [6] ?_
 refine gr ?_
 refine S1.sees [1,3,6] [(100003,100003),(3,3),(5,5)] [(15,15)] ?_ (Stop.iter S1 (fun s1=>⟨[(1,.c (.own 15)),(3,.c (.ref 100003 0)),(6,.c (.d (.int .i64 s1.1)))],[(100003,[.d (.int .i64 x1),.d (.int .i64 x0),.d (ah 2 aT x2),.d (ah 1 aQ x3),.d (ah 2 aT x4),.d (ah 1 aQ x5)]),(3,[.d (.int .i64 x1),.d (.int .i64 x0),.d (ah 2 aT x2),.d (ah 1 aQ x3),.d (ah 2 aT x4),.d (ah 1 aQ x5)]),(5,[.d (ah 1 cu x6),.d (.int .i64 x7)])],[(15,.owned (ah 1 cu s1.2))]⟩) (OD x1 x0 x2 x3 x4 x5 x6 x7) (fun q=>q=r) hr rfl ?_)
 ·exact lf
 ·intro s1 hr
  unfold OD at hr
  refine S1.gx [6] ?_
  refine gr ?_
  refine cZ hr (fun hc hr=> ?_) fun hc hr=> ?_
  ·obtain ⟨Nk,hr⟩:=aB hr
   obtain ⟨v2,hv2,hr⟩:=aI hr
   obtain ⟨uX,hr⟩:=aB hr
   obtain ⟨v3,hv3,hr⟩:=aI hr
   obtain ⟨v4,hv4,hr⟩:=aI hr
   refine gb hv2 ?_
   refine gb hv3 ?_
   refine gb hv4 ?_
   refine S1.prune [1,3,6,9] ?_
   refine S1.gx [] ?_
   exact D1 (S1.ss [1,3,6] [(100003,100003),(3,3),(5,5)] [(15,15)]) hr
  ·refine gr ?_
   have hr:=bK hr
   refine gr ?_
   refine gr ?_
   refine S.gx [2,3] ?_
   refine gr ?_
   refine S.inl 2 [3,5,9] [] Tryz.func114 (by decide) rfl Tryz.ntmps114 (fun cx e=>aX bP VD cx e) (some 21) rfl rfl rfl rfl (nL rfl) (nL rfl) ?_
   refine gs ?_
   refine gr ?_
   intro stop1 S1
   refine S1.gx [6] ?_
   refine gr ?_
   refine S1.sees [1,3,6] [(200003,200003),(3,3),(5,5)] [(15,15)] ?_ (Stop.iter S1 (fun s2=>⟨[(1,.c (.own 15)),(3,.c (.ref 200003 0)),(6,.c (.d (.int .i64 s2.1)))],[(200003,[.d (.int .i64 x1),.d (.int .i64 x0),.d (ah 2 aT x2),.d (ah 1 aQ x3),.d (ah 2 aT x4),.d (ah 1 aQ x5)]),(3,[.d (.int .i64 x1),.d (.int .i64 x0),.d (ah 2 aT x2),.d (ah 1 aQ x3),.d (ah 2 aT x4),.d (ah 1 aQ x5)]),(5,[.d (ah 1 cu x6),.d (.int .i64 x7)])],[(15,.owned (ah 1 cu s2.2))]⟩) (Hz x1 x0 x2 x3 x4 x5 x6 x7) (fun q=>q=r) hr rfl ?_)
   ·exact lf
   ·intro s2 hr
    unfold Hz at hr
    refine S1.gx [6] ?_
    refine gr ?_
    refine cZ hr (fun hc hr=> ?_) fun hc hr=> ?_
    ·obtain ⟨aus,hr⟩:=aB hr
     obtain ⟨v11,JG,hr⟩:=aI hr
     obtain ⟨aki,hr⟩:=aB hr
     obtain ⟨v12,JF,hr⟩:=aI hr
     obtain ⟨v13,abg,hr⟩:=aI hr
     refine gb JG ?_
     refine gb JF ?_
     refine gb abg ?_
     refine S1.prune [1,3,6,9] ?_
     refine S1.gx [] ?_
     exact D1 (S1.ss [1,3,6] [(200003,200003),(3,3),(5,5)] [(15,15)]) hr
    ·refine gr ?_
     have hr:=bK hr
     refine gr ?_
     refine gr ?_
     refine S.gx [2,3] ?_
     obtain ⟨aGG,hr⟩:=aN hr
     obtain ⟨v20,JD,hr⟩:=aA hr
     obtain ⟨aup,hr⟩:=aN hr
     obtain ⟨auo,hr⟩:=aN hr
     refine gb JD ?_
     refine S.sees [3,9,10,36,37,38] [(3,3)] [(15,15)] ?_ (Stop.iter S (fun s3=>⟨[(3,.c (.ref 3 0)),(9,.c (.own 15)),(10,.c (.d (.int .i64 v20))),(36,.c (.d (ah 1 cu x6))),(37,.c (.d (.int .i64 (x6.length:Int)))),(38,.c (.d (.int .i64 s3.1)))],[(3,[.d (.int .i64 x1),.d (.int .i64 x0),.d (ah 2 aT x2),.d (ah 1 aQ x3),.d (ah 2 aT x4),.d (ah 1 aQ x5)])],[(15,.owned (ah 1 cu s3.2))]⟩) (EI x1 x0 x2 x3 x4 x5 x6 v20) (fun q=>q=r) hr rfl ?_)
     ·exact lf
     ·intro s3 hr
      unfold EI at hr
      refine S.gx [2,3] ?_
      exact D1 (S.ss [3,9,10,36,37,38] [(3,3)] [(15,15)]) hr
def Xz (x2 x3:Int) (x4:au) (x5:aj) (a1 x0:bn) (x1:Int):Option (bn×Int):=
 (r79 x2 x3 x4 x5 a1).bind fun v1=>
  if (v1.2.2.2.2.2.2 == 0)=true then
   (aah v1.1 v1.2.1 v1.2.2.1 v1.2.2.2.1 v1.2.2.2.2.1 v1.2.2.2.2.2.1 x0 x1).bind fun v2=>
    if (v2 != 0)=true then
     some ([],v2)
     else (r81 v1.1 v1.2.1 v1.2.2.1 v1.2.2.2.1 v1.2.2.2.2.1 v1.2.2.2.2.2.1 a1 x0 x1).bind fun v3=>
      if (v3.2.2 != 0)=true then
       some ([],v3.2.2)
       else some (v3.1,0)
   else if (v1.2.2.2.2.2.2 != 0)=true then
    some ([],v1.2.2.2.2.2.2)
    else (r81 v1.1 v1.2.1 v1.2.2.1 v1.2.2.2.1 v1.2.2.2.2.1 v1.2.2.2.2.2.1 a1 x0 x1).bind fun v4=>
     if (v4.2.2 != 0)=true then
      some ([],v4.2.2)
      else some (v4.1,0)
@[go_sem] def T89:=asJ aqD false Xz
@[go_sem] def azG (k:Nat):=lk [(79,T79.sp),(81,T81.sp),(112,aww.sp)] k
theorem f89:aF Tryz.prog 89 T89.sp:=by
 refine vm (tb:=azG) (.cons f79 (.cons f81 (.cons f112 .nil))) Tryz.func89 Tryz.ntmps89 fun ⟨x2,x3,x4,x5,a1,x0,x1⟩ r hr stop S=> ?_
 rw [KO,Xz] at hr
 refine S.gx [7] ?_
 obtain ⟨v1,hv1,hr⟩:=aA hr
 refine gb hv1 ?_
 refine iW hr (fun hc hr=> ?_) fun hc hr=> ?_
 ·obtain ⟨v2,hv2,hr⟩:=aA hr
  refine gb hv2 ?_
  refine iW hr (fun hc hr=>D0 hr) fun hc hr=> ?_
  obtain ⟨v3,hv3,hr⟩:=aA hr
  refine gb hv3 ?_
  refine S.prune [9,10] ?_
  refine S.gx [] ?_
  exact D0 hr
 ·refine gr ?_
  refine iW hr (fun hc hr=>D0 hr) fun hc hr=> ?_
  obtain ⟨v4,hv4,hr⟩:=aA hr
  refine gb hv4 ?_
  refine S.prune [9,10] ?_
  refine S.gx [] ?_
  exact D0 hr
end Go.Proofs.YtkbdjphdhcgmaaaGreatDoor

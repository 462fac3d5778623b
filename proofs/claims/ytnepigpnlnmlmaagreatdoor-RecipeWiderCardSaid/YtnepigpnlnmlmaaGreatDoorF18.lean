/- Contracts of functions, written by wip/dec. -/
import Derived.Test.YtnepigpnlnmlmaaGreatDoorF00
set_option linter.unusedVariables false
set_option linter.unusedSimpArgs false
set_option linter.constructorNameAsVariable false
set_option maxHeartbeats 4000000
set_option maxRecDepth 20000
namespace Go.Proofs.YtnepigpnlnmlmaaGreatDoor
open Tryz Go.dR
section
variable {β:Type} [Inhabited β] (u:β->List RV) (al:Bool)
def aq0 (a0:aA) (a1 a2:Int):List Arg:=[.c (aj 2 aQ a0),.c (.int .i64 a1),.c (.int .i64 a2)]
def asK:List Arg->aA×Int×Int
 | [.c c0,.c c1,.c c2]=>(aN bZ c0,aC c1,aC c2)
 | _=>default
def atZ (r:aA->Int->Int->Option β):=mkT (u3 aq0) asK (u3 r) u al
attribute [go_sem] aq0 asK atZ
def aqZ (a0 a1:Int) (a2:aA) (a3:au) (a4 a5:aV) (a6:aA) (a7 a8 a9:Int):List Arg:=[.agg [.int .i64 a0,.int .i64 a1,aj 2 aQ a2,aj 1 aU a3,aj 1 dh a4,aj 1 dh a5,aj 2 aQ a6,.int .i64 a7,.int .i64 a8],.c (.int .i64 a9)]
def asJ:List Arg->Int×Int×aA×au×aV×aV×aA×Int×Int×Int
 | [.agg [c0,c1,c2,c3,c4,c5,c6,c7,c8],.c c9]=>(aC c0,aC c1,aN bZ c2,aN bW c3,aN kV c4,aN kV c5,aN bZ c6,aC c7,aC c8,aC c9)
 | _=>default
def atY (r:Int->Int->aA->au->aV->aV->aA->Int->Int->Int->Option β):=mkT (u10 aqZ) asJ (u10 r) u al
attribute [go_sem] aqZ asJ atY
end
def rJ (a0 a1 a2:Int):Option (Bool):=
 some ((decide (a1<=a0)) && (decide (a0<=a2)))
@[go_sem] def Yq:=qT1 qV false rJ
theorem f17:aF prog 17 Yq.sp:=by
 refine vm .nil func17 ntmps17 λ⟨a0,a1,a2⟩ r hr stop S=> ?_
 rw [uq3,rJ] at hr
 refine S.gx [] ?_
 repeat (first | refine gA ?_ | refine gB ?_)
 exact D0 hr
def r88 (a0:Int):Option (Bool):=
 (rJ a0 200 3000).bind λv1=>
  some v1
@[go_sem] def T88:=OC qV false r88
@[go_sem] def aBV (k:Nat):=lk [(17,Yq.sp)] k
theorem f88:aF prog 88 T88.sp:=by
 refine vm (tb:=aBV) (.cons f17 .nil) func88 ntmps88 λa0 r hr stop S=> ?_
 rw [sQ,r88] at hr
 refine S.gx [] ?_
 exact D0 hr
def yZ (a0:aA):Bd Int Int:=λs1=>
 if (decide (s1<(a0.length:Int)))=true then
  if 0<=s1/\s1<(a0.length:Int) then
   aW (r88 ((a0.getD s1.toNat default).1)) λv1=>
    if (!(!v1))=true->0<=s1/\s1<(a0.length:Int) then
     if (!(!v1))=true->(rJ ((a0.getD s1.toNat default).2) 0 1000).isSome=true then
      if ((!v1) || (!((rJ ((a0.getD s1.toNat default).2) 0 1000).getD default)))=true then
       .out (some 2)
       else if (decide (s1>0))=true then
        if 0<=s1/\s1<(a0.length:Int) then
         if 0<=IntKind.i64.wrap (s1 - 1)/\IntKind.i64.wrap (s1 - 1)<(a0.length:Int) then
          if 0<=s1/\s1<(a0.length:Int) then
           if 0<=IntKind.i64.wrap (s1 - 1)/\IntKind.i64.wrap (s1 - 1)<(a0.length:Int) then
            if ((decide ((IntKind.i64.wrap (((a0.getD s1.toNat default).1) - ((a0.getD (IntKind.i64.wrap (s1 - 1)).toNat default).1)))<=0)) || (decide ((IntKind.i64.wrap (((a0.getD s1.toNat default).2) - ((a0.getD (IntKind.i64.wrap (s1 - 1)).toNat default).2)))<0)))=true then
             .out (some 9)
             else if (decide ((IntKind.i64.wrap (2*(IntKind.i64.wrap (((a0.getD s1.toNat default).2) - ((a0.getD (IntKind.i64.wrap (s1 - 1)).toNat default).2)))))>(IntKind.i64.wrap (((a0.getD s1.toNat default).1) - ((a0.getD (IntKind.i64.wrap (s1 - 1)).toNat default).1)))))=true then
              .out (some 22)
              else .next (IntKind.i64.wrap (s1+1))
            else .out none
           else .out none
          else .out none
         else .out none
        else .next (IntKind.i64.wrap (s1+1))
      else .out none
     else .out none
   else .out none
  else .out (some 0)
def abV (a0:aA):Option (Int):=
 if (decide ((a0.length:Int)>6))=true then
  some 8
  else aK (yZ a0) 1000000000 0
@[go_sem] def ax':=qT5 mY false abV
@[go_sem] def apT (k:Nat):=lk [(17,Yq.sp),(88,T88.sp)] k
theorem f224:aF prog 224 ax'.sp:=by
 refine vm (tb:=apT) (.cons f17 (.cons f88 .nil)) func224 ntmps224 λa0 r hr stop S=> ?_
 rw [sQ,abV] at hr
 refine S.gx [10] ?_
 refine gr ?_
 refine iW hr (λhc hr=>D0 hr) λhc hr=> ?_
 refine gr ?_
 refine S.li [0,3] [] [] (λs1=>⟨[(0,.c (.d (aj 2 aQ a0))),sI 3 s1],[],[]⟩) (yZ a0) (λq=>q=r) hr rfl ?_
 intro s1 hr
 have z1:=S.ss [0,3] [] []
 unfold yZ at hr
 refine S.gw [10] ?_
 refine gJ hr (λhc hr=> ?_) λhc hr=>D0 hr
 obtain ⟨hg6,hr⟩:=aH hr
 obtain ⟨v1,hv1,hr⟩:=bf hr
 obtain ⟨hg7,hr⟩:=aH hr
 obtain ⟨XT,hr⟩:=aH hr
 try simp only [hv1,oG,oI,true_and,and_assoc]
 repeat (first | refine gG hg7 ?_ | refine gG XT ?_ | refine gA ?_ | refine gB ?_)
 refine gJ hr (λhc hr=>D0 hr) λhc hr=> ?_
 refine gr ?_
 refine gJ hr (λhc hr=> ?_) λhc hr=>D1 z1 hr
 obtain ⟨hg2,hr⟩:=aH hr
 obtain ⟨hg3,hr⟩:=aH hr
 obtain ⟨hg4,hr⟩:=aH hr
 obtain ⟨hg5,hr⟩:=aH hr
 refine gr ?_
 refine S.prune [0,3,4,5] ?_
 refine S.gx [] ?_
 repeat (first | refine gA ?_ | refine gB ?_)
 exact D1 z1 hr
def yX (a0:aA) (a1 a2:Int):Bd Int (Int×Int):=λs1=>
 if (decide (s1<(a0.length:Int)))=true then
  if 0<=s1/\s1<(a0.length:Int) then
   if (decide (a1<=(IntKind.i64.wrap (((a0.getD s1.toNat default).1)*a2))))=true then
    if (s1 == 0)=true then
     if 0<=0/\0<(a0.length:Int) then
      .out (some ((a0.getD 0 default).2,1))
      else .out none
     else if 0<=IntKind.i64.wrap (s1 - 1)/\IntKind.i64.wrap (s1 - 1)<(a0.length:Int) then
      if 0<=s1/\s1<(a0.length:Int) then
       .out (some (IntKind.i64.wrap ((IntKind.i64.wrap (((a0.getD (IntKind.i64.wrap (s1 - 1)).toNat default).2)*(IntKind.i64.wrap ((IntKind.i64.wrap (((a0.getD s1.toNat default).1) - ((a0.getD (IntKind.i64.wrap (s1 - 1)).toNat default).1)))*a2))))+(IntKind.i64.wrap ((IntKind.i64.wrap (((a0.getD s1.toNat default).2) - ((a0.getD (IntKind.i64.wrap (s1 - 1)).toNat default).2)))*(IntKind.i64.wrap (a1 - (IntKind.i64.wrap (((a0.getD (IntKind.i64.wrap (s1 - 1)).toNat default).1)*a2))))))),IntKind.i64.wrap ((IntKind.i64.wrap (((a0.getD s1.toNat default).1) - ((a0.getD (IntKind.i64.wrap (s1 - 1)).toNat default).1)))*a2)))
       else .out none
      else .out none
    else .next (IntKind.i64.wrap (s1+1))
   else .out none
  else .out (if 0<=IntKind.i64.wrap ((a0.length:Int) - 1)/\IntKind.i64.wrap ((a0.length:Int) - 1)<(a0.length:Int) then
   some ((a0.getD (IntKind.i64.wrap ((a0.length:Int) - 1)).toNat default).2,1)
   else none)
def xw (a0:aA) (a1 a2:Int):Option (Int×Int):=
 if ((a0.length:Int) == 0)=true then
  some (0,1)
  else aK (yX a0 a1 a2) 1000000000 0
@[go_sem] def ax4:=atZ JM false xw
theorem f233:aF prog 233 ax4.sp:=by
 refine vm .nil func233 ntmps233 λ⟨a0,a1,a2⟩ r hr stop S=> ?_
 rw [uq3,xw] at hr
 refine S.gx [11] ?_
 refine gr ?_
 refine iW hr (λhc hr=>D0 hr) λhc hr=> ?_
 refine gr ?_
 refine S.li [0,1,2,8] [] [] (λs1=>⟨[(0,.c (.d (aj 2 aQ a0))),sI 1 a1,sI 2 a2,sI 8 s1],[],[]⟩) (yX a0 a1 a2) (λq=>q=r) hr rfl ?_
 intro s1 hr
 unfold yX at hr
 refine S.gw [11] ?_
 refine gJ hr (λhc hr=> ?_) λhc hr=>D0 hr
 obtain ⟨hg4,hr⟩:=aH hr
 refine gr ?_
 refine gJ hr (λhc hr=> ?_) λhc hr=>D1 (S.ss [0,1,2,8] [] []) hr
 refine gr ?_
 refine gJ hr (λhc hr=>D0 hr) λhc hr=> ?_
 obtain ⟨hg2,hr⟩:=aH hr
 obtain ⟨hg3,hr⟩:=aH hr
 refine gr ?_
 refine S.prune [1,2,9,10,11] ?_
 refine S.gx [] ?_
 exact D0 hr
def yY (a0 a1:aA):Bd Int Bool:=λs1=>
 if (decide (s1<((a0++a1).length:Int)))=true then
  if 0<=s1/\s1<((a0++a1).length:Int) then
   aW (xw a0 (((a0++a1).getD s1.toNat default).1) 1) λv1=>
    if 0<=s1/\s1<((a0++a1).length:Int) then
     aW (xw a1 (((a0++a1).getD s1.toNat default).1) 1) λv2=>
      if (decide ((IntKind.i64.wrap (v1.1*v2.2))<(IntKind.i64.wrap (v2.1*v1.2))))=true then
       .out (some true)
       else .next (IntKind.i64.wrap (s1+1))
     else .out none
   else .out none
  else .out (some false)
def Zc (a0 a1:aA):Option (Bool):=
 if (0+a0.length)*16<=140737488355328/\0+a0.length<=9223372036854775807 then
  if (a0.length+a1.length)*16<=140737488355328/\a0.length+a1.length<=9223372036854775807 then
   aK (yY a0 a1) 1000000000 0
   else none
  else none
@[go_sem] def ax9:=agG qV false Zc
@[go_sem] def apS (k:Nat):=lk [(233,ax4.sp)] k
theorem f225:aF prog 225 ax9.sp:=by
 refine vm (tb:=apS) (.cons f233 .nil) func225 ntmps225 λ⟨a0,a1⟩ r hr stop S=> ?_
 rw [DV,Zc] at hr
 refine S.gx [4,8] ?_
 obtain ⟨hg5,hr⟩:=aP hr
 obtain ⟨hg6,hr⟩:=aP hr
 refine gr ?_
 refine S.li [0,1,5,6] [] [(15,15)] (λs1=>⟨[(0,.c (.d (aj 2 aQ a0))),(1,.c (.d (aj 2 aQ a1))),sO 5 15,sI 6 s1],[],[(15,.owned (aj 2 aQ (a0++a1)))]⟩) (yY a0 a1) (λq=>q=r) hr rfl ?_
 intro s1 hr
 unfold yY at hr
 refine S.gw [4,8] ?_
 refine gJ hr (λhc hr=> ?_) λhc hr=>D0 hr
 obtain ⟨hg3,hr⟩:=aH hr
 obtain ⟨v1,hv1,hr⟩:=bf hr
 obtain ⟨hg4,hr⟩:=aH hr
 obtain ⟨v2,hv2,hr⟩:=bf hr
 refine gb hv1 ?_
 refine gb hv2 ?_
 refine gJ hr (λhc hr=> ?_) λhc hr=> ?_
 ·refine gr ?_
  refine S.prune [] ?_
  refine S.gx [4] ?_
  exact D0 hr
 refine gr ?_
 refine S.prune [0,1,5,6] ?_
 refine S.gx [8] ?_
 exact D1 (S.ss [0,1,5,6] [] [(15,15)]) hr
def uo (x1:au):Bd Int (Int×Int):=λs2=>
 if (decide (s2<(x1.length:Int)))=true then
  if 0<=s2/\s2<(x1.length:Int) then
   aW (abV (x1.getD s2.toNat default)) λv10=>
    if (v10 != 0)=true then
     .out (some (s2,v10))
     else if (decide (s2>0))=true->0<=s2/\s2<(x1.length:Int) then
      if (decide (s2>0))=true->0<=IntKind.i64.wrap (s2 - 1)/\IntKind.i64.wrap (s2 - 1)<(x1.length:Int) then
       if (decide (s2>0))=true->(Zc (x1.getD s2.toNat default) (x1.getD (IntKind.i64.wrap (s2 - 1)).toNat default)).isSome=true then
        if ((decide (s2>0)) && ((Zc (x1.getD s2.toNat default) (x1.getD (IntKind.i64.wrap (s2 - 1)).toNat default)).getD default))=true then
         .out (some (s2,13))
         else .next (IntKind.i64.wrap (s2+1))
        else .out none
       else .out none
      else .out none
   else .out none
  else .out (some (0,0))
def y9 (x0:aA) (x1:au):Bd Int (Int×Int):=λs1=>
 if (decide (s1<(x0.length:Int)))=true then
  if 0<=s1/\s1<(x0.length:Int) then
   aW (rJ ((x0.getD s1.toNat default).1) 0 1000000) λv2=>
    if (!(!v2))=true->0<=s1/\s1<(x0.length:Int) then
     if (!(!v2))=true->(r88 ((x0.getD s1.toNat default).2)).isSome=true then
      if ((!v2) || (!((r88 ((x0.getD s1.toNat default).2)).getD default)))=true then
       .out (some (s1,2))
       else if (decide (s1>0))=true then
        if 0<=s1/\s1<(x0.length:Int) then
         if 0<=IntKind.i64.wrap (s1 - 1)/\IntKind.i64.wrap (s1 - 1)<(x0.length:Int) then
          if 0<=s1/\s1<(x0.length:Int) then
           if 0<=IntKind.i64.wrap (s1 - 1)/\IntKind.i64.wrap (s1 - 1)<(x0.length:Int) then
            if ((decide ((IntKind.i64.wrap (((x0.getD s1.toNat default).1) - ((x0.getD (IntKind.i64.wrap (s1 - 1)).toNat default).1)))<=0)) || (decide ((IntKind.i64.wrap (((x0.getD s1.toNat default).2) - ((x0.getD (IntKind.i64.wrap (s1 - 1)).toNat default).2)))<=0)))=true then
             .out (some (s1,9))
             else if (decide ((IntKind.i64.wrap (((x0.getD s1.toNat default).2) - ((x0.getD (IntKind.i64.wrap (s1 - 1)).toNat default).2)))>(IntKind.i64.wrap (((x0.getD s1.toNat default).1) - ((x0.getD (IntKind.i64.wrap (s1 - 1)).toNat default).1)))))=true then
              .out (some (s1,22))
              else .next (IntKind.i64.wrap (s1+1))
            else .out none
           else .out none
          else .out none
         else .out none
        else .next (IntKind.i64.wrap (s1+1))
      else .out none
     else .out none
   else .out none
  else .out (if (decide ((x1.length:Int)>4))=true then
   some (0,8)
   else aK (uo x1) 1000000000 0)
def ab9 (x3 x2:Int) (x0:aA) (x1:au):Option (Int×Int):=
 (rJ x3 1 12).bind λv1=>
  if (!(!v1))=true->(rJ x2 0 500).isSome=true then
   if ((!v1) || (!((rJ x2 0 500).getD default)))=true then
    some (0,2)
    else if (decide ((x0.length:Int)<2))=true then
     some (0,10)
     else if (decide ((x0.length:Int)>8))=true then
      some (0,8)
      else aK (y9 x0 x1) 1000000000 0
   else none
@[go_sem] def ayw:=Zp JM false ab9
@[go_sem] def aqk (k:Nat):=lk [(17,Yq.sp),(88,T88.sp),(224,ax'.sp),(225,ax9.sp)] k
theorem f166:aF prog 166 ayw.sp:=by
 refine vm (tb:=aqk) (.cons f17 (.cons f88 (.cons f224 (.cons f225 .nil)))) func166 ntmps166 λ⟨x3,x2,x0,x1⟩ r hr stop S=> ?_
 rw [uq4,ab9] at hr
 refine S.gx [14,22,27] ?_
 obtain ⟨v1,hv1,hr⟩:=aB hr
 obtain ⟨ZM,hr⟩:=aP hr
 try simp only [hv1,oG,oI,true_and,and_assoc]
 repeat (first | refine gG ZM ?_ | refine gA ?_ | refine gB ?_)
 refine iW hr (λhc hr=>D0 hr) λhc hr=> ?_
 refine gr ?_
 refine iW hr (λhc hr=>D0 hr) λhc hr=> ?_
 refine gr ?_
 refine iW hr (λhc hr=>D0 hr) λhc hr=> ?_
 refine gr ?_
 refine S.li [1,4] [(1,1)] [] (λs1=>⟨[sR 1 1,sI 4 s1],[(1,[iC x3,iC x2,.d (aj 2 aQ x0),.d (aj 1 aU x1)])],[]⟩) (y9 x0 x1) (λq=>q=r) hr rfl ?_
 intro s1 hr
 have z1:=S.ss [1,4] [(1,1)] []
 unfold y9 at hr
 refine S.gw [14,22,27] ?_
 refine gJ hr (λhc hr=> ?_) λhc hr=> ?_
 ·obtain ⟨hg7,hr⟩:=aH hr
  obtain ⟨v2,hv2,hr⟩:=bf hr
  obtain ⟨XT,hr⟩:=aH hr
  obtain ⟨ZK,hr⟩:=aH hr
  try simp only [hv2,oG,oI,true_and,and_assoc]
  repeat (first | refine gG XT ?_ | refine gG ZK ?_ | refine gA ?_ | refine gB ?_)
  refine gJ hr (λhc hr=>D0 hr) λhc hr=> ?_
  refine gr ?_
  refine gJ hr (λhc hr=> ?_) λhc hr=>D1 z1 hr
  obtain ⟨hg3,hr⟩:=aH hr
  obtain ⟨hg4,hr⟩:=aH hr
  obtain ⟨hg5,hr⟩:=aH hr
  obtain ⟨hg6,hr⟩:=aH hr
  refine gr ?_
  refine S.prune [1,4,5,6] ?_
  refine S.gx [22,27] ?_
  repeat (first | refine gA ?_ | refine gB ?_)
  exact D1 z1 hr
 refine gr ?_
 have hr:=bT hr
 refine gr ?_
 refine iW hr (λhc hr=>D0 hr) λhc hr=> ?_
 refine gr ?_
 refine S.li [1,7] [(1,1)] [] (λs2=>⟨[sR 1 1,sI 7 s2],[(1,[iC x3,iC x2,.d (aj 2 aQ x0),.d (aj 1 aU x1)])],[]⟩) (uo x1) (λq=>q=r) hr rfl ?_
 intro s2 hr
 unfold uo at hr
 refine S.gw [14,22,27] ?_
 refine gJ hr (λhc hr=> ?_) λhc hr=>D0 hr
 obtain ⟨ahf,hr⟩:=aH hr
 obtain ⟨v10,yI,hr⟩:=bf hr
 refine gb yI ?_
 refine gJ hr (λhc hr=>D0 hr) λhc hr=> ?_
 obtain ⟨Nv,hr⟩:=aH hr
 obtain ⟨Ji,hr⟩:=aH hr
 obtain ⟨ZN,hr⟩:=aH hr
 repeat (first | refine gG Nv ?_ | refine gG Ji ?_ | refine gG ZN ?_ | refine gA ?_ | refine gB ?_)
 refine gJ hr (λhc hr=> ?_) λhc hr=> ?_
 ·refine gr ?_
  refine S.prune [7] ?_
  refine S.gx [14,22] ?_
  exact D0 hr
 refine gr ?_
 refine S.prune [1,7] ?_
 refine S.gx [14,27] ?_
 exact D1 (S.ss [1,7] [(1,1)] []) hr
def Zn (x0 x1:Int) (x2:aA) (x3:au):Option (Int):=
 (ab9 x0 x1 x2 x3).bind λv1=>
  some v1.2
@[go_sem] def amM:=Zp mY false Zn
@[go_sem] def aqH (k:Nat):=lk [(166,ayw.sp)] k
theorem f102:aF prog 102 amM.sp:=by
 refine vm (tb:=aqH) (.cons f166 .nil) func102 ntmps102 λ⟨x0,x1,x2,x3⟩ r hr stop S=> ?_
 rw [uq4,Zn] at hr
 refine S.gx [] ?_
 exact D0 hr
def ab8 (x1 x2:Int) (x0:aA) (x3:au) (a1:Int):Option (Bool):=
 if 0<=0/\0<(x0.length:Int) then
  if 0<=IntKind.i64.wrap ((x0.length:Int) - 1)/\IntKind.i64.wrap ((x0.length:Int) - 1)<(x0.length:Int) then
   (rJ a1 ((x0.getD 0 default).1) ((x0.getD (IntKind.i64.wrap ((x0.length:Int) - 1)).toNat default).1)).bind λv1=>
    some v1
   else none
  else none
@[go_sem] def ayv:=akJ qV false ab8
@[go_sem] def aqj (k:Nat):=lk [(17,Yq.sp)] k
theorem f167:aF prog 167 ayv.sp:=by
 refine vm (tb:=aqj) (.cons f17 .nil) func167 ntmps167 λ⟨x1,x2,x0,x3,a1⟩ r hr stop S=> ?_
 rw [uq5,ab8] at hr
 refine S.gx [] ?_
 exact D0 hr
def zn (x0 x1:Int) (x2:aA) (x3:au) (a1:aV):Bd Int (Int×Int):=λs1=>
 if (decide (s1<(a1.length:Int)))=true then
  if 0<=s1/\s1<(a1.length:Int) then
   aW (ab8 x0 x1 x2 x3 (a1.getD s1.toNat default)) λv1=>
    if (!v1)=true then
     .out (some (s1,2))
     else .next (IntKind.i64.wrap (s1+1))
   else .out none
  else .out (some (0,0))
def Zm (x0 x1:Int) (x2:aA) (x3:au) (a1:aV):Option (Int×Int):=
 if ((a1.length:Int) != x0)=true then
  some (0,10)
  else aK (zn x0 x1 x2 x3 a1) 1000000000 0
@[go_sem] def ayY:=akN JM false Zm
@[go_sem] def aqG (k:Nat):=lk [(167,ayv.sp)] k
theorem f103:aF prog 103 ayY.sp:=by
 refine vm (tb:=aqG) (.cons f167 .nil) func103 ntmps103 λ⟨x0,x1,x2,x3,a1⟩ r hr stop S=> ?_
 rw [uq5,Zm] at hr
 refine S.gx [] ?_
 refine gr ?_
 refine iW hr (λhc hr=>D0 hr) λhc hr=> ?_
 refine gr ?_
 refine S.li [1,2,6] [(2,2)] [] (λs1=>⟨[(1,.c (.d (aj 1 dh a1))),sR 2 2,sI 6 s1],[(2,[iC x0,iC x1,.d (aj 2 aQ x2),.d (aj 1 aU x3)])],[]⟩) (zn x0 x1 x2 x3 a1) (λq=>q=r) hr rfl ?_
 intro s1 hr
 unfold zn at hr
 refine S.gx [] ?_
 exact D1 (S.ss [1,2,6] [(2,2)] []) hr
def Ir (x0:Int) (x1 x2:aV):Bd Int (Int×Int):=λs1=>
 if (decide (s1<x0))=true then
  if 0<=s1/\s1<(x1.length:Int) then
   if 0<=s1/\s1<(x2.length:Int) then
    if (decide ((x1.getD s1.toNat default)>(x2.getD s1.toNat default)))=true then
     .out (some (s1,9))
     else .next (IntKind.i64.wrap (s1+1))
    else .out none
   else .out none
  else .out (some (0,0))
def abK (x0 x3:Int) (x4:aA) (x5:au) (x1 x2:aV):Option (Int×Int):=
 (Zm x0 x3 x4 x5 x1).bind λv1=>
  if (v1.2 != 0)=true then
   some (v1.1,v1.2)
   else (Zm x0 x3 x4 x5 x2).bind λv2=>
    if (v2.2 != 0)=true then
     some (v2.1,v2.2)
     else aK (Ir x0 x1 x2) 1000000000 0
@[go_sem] def axR:=acw JM false abK
@[go_sem] def apM (k:Nat):=lk [(103,ayY.sp)] k
theorem f261:aF prog 261 axR.sp:=by
 refine vm (tb:=apM) (.cons f103 .nil) func261 ntmps261 λ⟨x0,x3,x4,x5,x1,x2⟩ r hr stop S=> ?_
 rw [uq6,abK] at hr
 refine S.gx [] ?_
 obtain ⟨v1,hv1,hr⟩:=aB hr
 refine gb hv1 ?_
 refine iW hr (λhc hr=>D0 hr) λhc hr=> ?_
 obtain ⟨v2,hv2,hr⟩:=aB hr
 refine gb hv2 ?_
 refine iW hr (λhc hr=>D0 hr) λhc hr=> ?_
 refine gr ?_
 refine S.li [2,3,10] [(2,2),(3,3)] [] (λs1=>⟨[sR 2 2,sR 3 3,sI 10 s1],[(2,[iC x0,iC x3,.d (aj 2 aQ x4),.d (aj 1 aU x5)]),(3,[.d (aj 1 dh x1),.d (aj 1 dh x2)])],[]⟩) (Ir x0 x1 x2) (λq=>q=r) hr rfl ?_
 intro s1 hr
 unfold Ir at hr
 refine S.gx [] ?_
 exact D1 (S.ss [2,3,10] [(2,2),(3,3)] []) hr
def abY (x0 x1:Int) (x2:aA) (x3:au) (x4 x5:aV):Option (Int):=
 (Zn x0 x1 x2 x3).bind λv1=>
  if (v1 != 0)=true then
   some v1
   else (abK x0 x1 x2 x3 x4 x5).bind λv2=>
    some v2.2
@[go_sem] def ayh:=acw mY false abY
@[go_sem] def ap4 (k:Nat):=lk [(102,amM.sp),(261,axR.sp)] k
theorem f206:aF prog 206 ayh.sp:=by
 refine vm (tb:=ap4) (.cons f102 (.cons f261 .nil)) func206 ntmps206 λ⟨x0,x1,x2,x3,x4,x5⟩ r hr stop S=> ?_
 rw [uq6,abY] at hr
 refine S.gx [] ?_
 exact D0 hr
def r89 (x1 x2:Int) (x3:aA) (x0:au) (x4 x5:aV) (x6:aA) (x7 x8 a1:Int):Option (Bool):=
 (rJ a1 0 (IntKind.i64.wrap ((x0.length:Int) - 1))).bind λv1=>
  some v1
@[go_sem] def T89:=atY qV false r89
@[go_sem] def aBU (k:Nat):=lk [(17,Yq.sp)] k
theorem f89:aF prog 89 T89.sp:=by
 refine vm (tb:=aBU) (.cons f17 .nil) func89 ntmps89 λ⟨x1,x2,x3,x0,x4,x5,x6,x7,x8,a1⟩ r hr stop S=> ?_
 rw [Sz,r89] at hr
 refine S.gx [] ?_
 exact D0 hr
def CY (x1 x2:Int) (x3:aA) (x4:au) (x5 x6:aV) (x0:aA) (x7 x8:Int):Bd Int (Int×Int):=λs1=>
 if (decide (s1<(x0.length:Int)))=true then
  if 0<=s1/\s1<(x0.length:Int) then
   aW (rJ ((x0.getD s1.toNat default).1) 0 1000) λv3=>
    if (!(!v3))=true->(rJ ((x0.getD s1.toNat default).2) 0 1000).isSome=true then
     if ((!v3) || (!((rJ ((x0.getD s1.toNat default).2) 0 1000).getD default)))=true then
      .out (some (s1,2))
      else if (decide (((x0.getD s1.toNat default).1)>((x0.getD s1.toNat default).2)))=true then
       .out (some (s1,9))
       else .next (IntKind.i64.wrap (s1+1))
     else .out none
   else .out none
  else .out ((r89 x1 x2 x3 x4 x5 x6 x0 x7 x8 x7).bind λv6=>
   if (!v6)=true then
    some (0,6)
    else (rJ x8 0 4).bind λv7=>
     if (!v7)=true then
      some (0,2)
      else some (0,0))
def acg (x1 x2:Int) (x3:aA) (x4:au) (x5 x6:aV) (x0:aA) (x7 x8:Int):Option (Int×Int):=
 (Zn x1 x2 x3 x4).bind λv1=>
  if (v1 != 0)=true then
   some (0,v1)
   else (abY x1 x2 x3 x4 x5 x6).bind λv2=>
    if (v2 != 0)=true then
     some (0,v2)
     else if ((x0.length:Int) != x1)=true then
      some (0,10)
      else aK (CY x1 x2 x3 x4 x5 x6 x0 x7 x8) 1000000000 0
@[go_sem] def ayD:=PO JM false acg
@[go_sem] def aqr (k:Nat):=lk [(17,Yq.sp),(89,T89.sp),(102,amM.sp),(206,ayh.sp)] k
theorem f150:aF prog 150 ayD.sp:=by
 refine vm (tb:=aqr) (.cons f17 (.cons f89 (.cons f102 (.cons f206 .nil)))) func150 ntmps150 λ⟨x1,x2,x3,x4,x5,x6,x0,x7,x8⟩ r hr stop S=> ?_
 rw [RY,acg] at hr
 refine S.gx [] ?_
 obtain ⟨v1,hv1,hr⟩:=aB hr
 refine gb hv1 ?_
 refine iW hr (λhc hr=>D0 hr) λhc hr=> ?_
 obtain ⟨v2,hv2,hr⟩:=aB hr
 refine gb hv2 ?_
 refine iW hr (λhc hr=>D0 hr) λhc hr=> ?_
 refine gr ?_
 refine iW hr (λhc hr=>D0 hr) λhc hr=> ?_
 refine gr ?_
 refine S.li [1,6] [(1,1)] [] (λs1=>⟨[sR 1 1,sI 6 s1],[(1,[iC x1,iC x2,.d (aj 2 aQ x3),.d (aj 1 aU x4),.d (aj 1 dh x5),.d (aj 1 dh x6),.d (aj 2 aQ x0),iC x7,iC x8])],[]⟩) (CY x1 x2 x3 x4 x5 x6 x0 x7 x8) (λq=>q=r) hr rfl ?_
 intro s1 hr
 unfold CY at hr
 refine S.gw [] ?_
 refine gJ hr (λhc hr=> ?_) λhc hr=>D0 hr
 obtain ⟨hg4,hr⟩:=aH hr
 obtain ⟨v3,hv3,hr⟩:=bf hr
 obtain ⟨hg5,hr⟩:=aH hr
 try simp only [hv3,oG,oI,true_and,and_assoc]
 repeat (first | refine gG hg5 ?_ | refine gA ?_ | refine gB ?_)
 exact D1 (S.ss [1,6] [(1,1)] []) hr
def r86 (x0 x1:Int) (x2:aA) (x3:au) (x4 x5:aV) (x6:aA) (x7 x8:Int):Option (Int):=
 (acg x0 x1 x2 x3 x4 x5 x6 x7 x8).bind λv1=>
  some v1.2
@[go_sem] def T86:=PO mY false r86
@[go_sem] def aBX (k:Nat):=lk [(150,ayD.sp)] k
theorem f86:aF prog 86 T86.sp:=by
 refine vm (tb:=aBX) (.cons f150 .nil) func86 ntmps86 λ⟨x0,x1,x2,x3,x4,x5,x6,x7,x8⟩ r hr stop S=> ?_
 rw [RY,r86] at hr
 refine S.gx [] ?_
 exact D0 hr
def agr (a0:Int):Option (Bool):=
 (rJ a0 1 3000).bind λv1=>
  some v1
@[go_sem] def axQ:=OC qV false agr
@[go_sem] def apL (k:Nat):=lk [(17,Yq.sp)] k
theorem f262:aF prog 262 axQ.sp:=by
 refine vm (tb:=apL) (.cons f17 .nil) func262 ntmps262 λa0 r hr stop S=> ?_
 rw [sQ,agr] at hr
 refine S.gx [] ?_
 exact D0 hr
def Y7 (x1 x0:Int):Option (Bool):=
 (rJ x1 0 1000000).bind λv1=>
  if v1=true->(rJ x0 0 1000000).isSome=true then
   some (v1 && ((rJ x0 0 1000000).getD default))
   else none
@[go_sem] def axP:=PN qV false Y7
@[go_sem] def apK (k:Nat):=lk [(17,Yq.sp)] k
theorem f263:aF prog 263 axP.sp:=by
 refine vm (tb:=apK) (.cons f17 .nil) func263 ntmps263 λ⟨x1,x0⟩ r hr stop S=> ?_
 rw [DV,Y7] at hr
 refine S.gx [] ?_
 obtain ⟨v1,hv1,hr⟩:=aB hr
 obtain ⟨hg2,hr⟩:=aP hr
 try simp only [hv1,oG,oI,true_and,and_assoc]
 repeat (first | refine gG hg2 ?_ | refine gA ?_ | refine gB ?_)
 exact D0 hr
section
variable {β:Type} [Inhabited β] (u:β->List RV) (al:Bool)
def aqY (a0 a1:Int) (a2:aA) (a3:Int) (a4:Bool):List Arg:=[.c (.int .i64 a0),.c (.int .i64 a1),.c (aj 2 aQ a2),.c (.int .i64 a3),.c (.bool a4)]
def asI:List Arg->Int×Int×aA×Int×Bool
 | [.c c0,.c c1,.c c2,.c c3,.c c4]=>(aC c0,aC c1,aN bZ c2,aC c3,aeu c4)
 | _=>default
def atX (r:Int->Int->aA->Int->Bool->Option β):=mkT (u5 aqY) asI (u5 r) u al
attribute [go_sem] aqY asI atX
end
def y5 (a0 a1:Int) (a2:aA) (a4:Bool):Bd Int Int:=λs2=>
 if (decide (s2<(a2.length:Int)))=true then
  if 0<=s2/\s2<(a2.length:Int) then
   if 0<=s2/\s2<(a2.length:Int) then
    if (decide (((a2.getD s2.toNat default).1)>((a2.getD s2.toNat default).2)))=true then
     .out (some 3)
     else .next (IntKind.i64.wrap (s2+1))
    else .out none
   else .out none
  else .out (if ((decide (a0<=a1)) || (!a4))=true then
   some 9
   else some 0)
def y7 (a0 a1:Int) (a2:aA) (a4:Bool):Bd (Bool×Int) Int:=λs1=>
 if (decide (s1.2<(a2.length:Int)))=true then
  if s1.1=true->0<=s1.2/\s1.2<(a2.length:Int) then
   if s1.1=true->(Y7 ((a2.getD s1.2.toNat default).1) ((a2.getD s1.2.toNat default).2)).isSome=true then
    .next (s1.1 && ((Y7 ((a2.getD s1.2.toNat default).1) ((a2.getD s1.2.toNat default).2)).getD default),IntKind.i64.wrap (s1.2+1))
    else .out none
   else .out none
  else .out (if (!s1.1)=true then
   some 2
   else aK (y5 a0 a1 a2 a4) 1000000000 0)
def D7 (a0 a1:Int) (a2:aA) (a3:Int) (a4:Bool):Option (Int):=
 (agr a0).bind λv1=>
  if v1=true->(rJ a3 0 1000000).isSome=true then
   aK (y7 a0 a1 a2 a4) 1000000000 (v1 && ((rJ a3 0 1000000).getD default),0)
   else none
@[go_sem] def ayg:=atX mY false D7
@[go_sem] def ap3 (k:Nat):=lk [(17,Yq.sp),(262,axQ.sp),(263,axP.sp)] k
theorem f207:aF prog 207 ayg.sp:=by
 refine vm (tb:=ap3) (.cons f17 (.cons f262 (.cons f263 .nil))) func207 ntmps207 λ⟨a0,a1,a2,a3,a4⟩ r hr stop S=> ?_
 rw [uq5,D7] at hr
 refine S.gx [] ?_
 obtain ⟨v1,hv1,hr⟩:=aB hr
 obtain ⟨hg6,hr⟩:=aP hr
 try simp only [hv1,oG,oI,true_and,and_assoc]
 repeat (first | refine gG hg6 ?_ | refine gA ?_ | refine gB ?_)
 refine S.li [0,1,2,4,11,12] [] [] (λs1=>⟨[sI 0 a0,sI 1 a1,(2,.c (.d (aj 2 aQ a2))),(4,.c (.d (.bool a4))),(11,.c (.d (.bool s1.1))),sI 12 s1.2],[],[]⟩) (y7 a0 a1 a2 a4) (λq=>q=r) hr rfl ?_
 intro s1 hr
 unfold y7 at hr
 refine S.gw [] ?_
 refine gJ hr (λhc hr=> ?_) λhc hr=> ?_
 ·obtain ⟨hg2,hr⟩:=aH hr
  obtain ⟨hg3,hr⟩:=aH hr
  repeat (first | refine gG hg2 ?_ | refine gG hg3 ?_ | refine gA ?_ | refine gB ?_)
  exact D1 (S.ss [0,1,2,4,11,12] [] []) hr
 refine gr ?_
 have hr:=bT hr
 refine gr ?_
 refine iW hr (λhc hr=>D0 hr) λhc hr=> ?_
 refine gr ?_
 refine S.li [0,1,2,4,13] [] [] (λs2=>⟨[sI 0 a0,sI 1 a1,(2,.c (.d (aj 2 aQ a2))),(4,.c (.d (.bool a4))),sI 13 s2],[],[]⟩) (y5 a0 a1 a2 a4) (λq=>q=r) hr rfl ?_
 intro s2 hr
 unfold y5 at hr
 refine S.gw [] ?_
 refine gJ hr (λhc hr=>D1 (S.ss [0,1,2,4,13] [] []) hr) λhc hr=> ?_
 refine gr ?_
 have hr:=bT hr
 repeat (first | refine gA ?_ | refine gB ?_)
 exact D0 hr
def CU (x0:aT) (x2:aA) (x6 x4 x5 x7:Int) (s2 s3:Int×Int):Bd (Int×Int) (Int×Int):=λs4=>
 if (decide (s4.2<(x2.length:Int)))=true then
  if 0<=s4.2/\s4.2<(x2.length:Int) then
   if 0<=s4.2/\s4.2<(x2.length:Int) then
    aW (D7 ((x2.getD s4.2.toNat default).1) s4.1 [] ((x2.getD s4.2.toNat default).2) true) λv14=>
     if (v14 != 0)=true then
      .out (some (s4.2,v14))
      else if 0<=s4.2/\s4.2<(x2.length:Int) then
       .next ((x2.getD s4.2.toNat default).1,IntKind.i64.wrap (s4.2+1))
       else .out none
    else .out none
   else .out none
  else .out (if (decide ((x0.length:Int)>0))=true->0<=0/\0<(x0.length:Int) then
   if ((decide ((x0.length:Int)>0)) && (decide ((if (if s2.1<s3.1 then s3.1 else s2.1)<s4.1 then s4.1 else (if s2.1<s3.1 then s3.1 else s2.1))>=((x0.getD 0 default).1))))=true then
    some (0,13)
    else (rJ x6 0 2000).bind λv18=>
     if (!v18)=true then
      some (0,2)
      else (rJ x4 0 2000).bind λv19=>
       if (!v19)=true then
        some (0,2)
        else (rJ x5 0 2000).bind λv20=>
         if (!v20)=true then
          some (0,2)
          else (rJ x7 0 2000).bind λv21=>
           if (!v21)=true then
            some (0,2)
            else if (decide (x4<x6))=true then
             some (0,9)
             else if (decide (x5<x4))=true then
              some (0,9)
              else if (decide (x7<x5))=true then
               some (0,9)
               else some (0,0)
   else none)
def CW (x0:aT) (x1:aJ) (x2:aA) (x6 x4 x5 x7:Int) (s2:Int×Int):Bd (Int×Int) (Int×Int):=λs3=>
 if (decide (s3.2<(x1.length:Int)))=true then
  if 0<=s3.2/\s3.2<(x1.length:Int) then
   if (!(s3.2 == 0))=true->0<=IntKind.i64.wrap (s3.2 - 1)/\IntKind.i64.wrap (s3.2 - 1)<(x1.length:Int) then
    if ((!(s3.2 == 0)) && (decide (((x1.getD s3.2.toNat default).2.1)<=((x1.getD (IntKind.i64.wrap (s3.2 - 1)).toNat default).2.1))))=true->0<=IntKind.i64.wrap (s3.2 - 1)/\IntKind.i64.wrap (s3.2 - 1)<(x1.length:Int) then
     aW (D7 ((x1.getD s3.2.toNat default).1) s3.1 [((x1.getD s3.2.toNat default).2.1,(x1.getD s3.2.toNat default).2.2)] 0 ((s3.2 == 0) || ((decide (((x1.getD s3.2.toNat default).2.1)<=((x1.getD (IntKind.i64.wrap (s3.2 - 1)).toNat default).2.1))) && (decide (((x1.getD s3.2.toNat default).2.2)<=((x1.getD (IntKind.i64.wrap (s3.2 - 1)).toNat default).2.2)))))) λv10=>
      if (v10 != 0)=true then
       .out (some (s3.2,v10))
       else .next ((x1.getD s3.2.toNat default).1,IntKind.i64.wrap (s3.2+1))
     else .out none
    else .out none
   else .out none
  else .out (aK (CU x0 x2 x6 x4 x5 x7 s2 s3) 1000000000 ((-1),0))
def CX (x0:aT) (x3:aG) (x1:aJ) (x2:aA) (x6 x4 x5 x7:Int):Bd (Int×Int) (Int×Int):=λs2=>
 if (decide (s2.2<(x3.length:Int)))=true then
  if 0<=s2.2/\s2.2<(x3.length:Int) then
   if 0<=s2.2/\s2.2<(x3.length:Int) then
    if 0<=s2.2/\s2.2<(x3.length:Int) then
     aW (D7 ((x3.getD s2.2.toNat default).1) s2.1 [((x3.getD s2.2.toNat default).2.1,(x3.getD s2.2.toNat default).2.2.1),((x3.getD s2.2.toNat default).2.2.2.1,(x3.getD s2.2.toNat default).2.2.2.2)] 0 true) λv5=>
      if (v5 != 0)=true then
       .out (some (s2.2,v5))
       else if 0<=s2.2/\s2.2<(x3.length:Int) then
        .next ((x3.getD s2.2.toNat default).1,IntKind.i64.wrap (s2.2+1))
        else .out none
     else .out none
    else .out none
   else .out none
  else .out (aK (CW x0 x1 x2 x6 x4 x5 x7 s2) 1000000000 ((-1),0))
def Iz (x0:aT) (x3:aG) (x1:aJ) (x2:aA) (x6 x4 x5 x7:Int):Bd (Int×Int) (Int×Int):=λs1=>
 if (decide (s1.2<(x0.length:Int)))=true then
  if 0<=s1.2/\s1.2<(x0.length:Int) then
   if (!(s1.2 == 0))=true->0<=IntKind.i64.wrap (s1.2 - 1)/\IntKind.i64.wrap (s1.2 - 1)<(x0.length:Int) then
    if ((!(s1.2 == 0)) && (decide (((x0.getD s1.2.toNat default).2.1)>=((x0.getD (IntKind.i64.wrap (s1.2 - 1)).toNat default).2.1))))=true->0<=IntKind.i64.wrap (s1.2 - 1)/\IntKind.i64.wrap (s1.2 - 1)<(x0.length:Int) then
     aW (D7 ((x0.getD s1.2.toNat default).1) s1.1 [((x0.getD s1.2.toNat default).2.1,(x0.getD s1.2.toNat default).2.2.1)] ((x0.getD s1.2.toNat default).2.2.2) ((s1.2 == 0) || ((decide (((x0.getD s1.2.toNat default).2.1)>=((x0.getD (IntKind.i64.wrap (s1.2 - 1)).toNat default).2.1))) && (decide (((x0.getD s1.2.toNat default).2.2.1)>=((x0.getD (IntKind.i64.wrap (s1.2 - 1)).toNat default).2.2.1)))))) λv1=>
      if (v1 != 0)=true then
       .out (some (s1.2,v1))
       else .next ((x0.getD s1.2.toNat default).1,IntKind.i64.wrap (s1.2+1))
     else .out none
    else .out none
   else .out none
  else .out (aK (CX x0 x3 x1 x2 x6 x4 x5 x7) 1000000000 ((-1),0))
def acf (x0:aT) (x3:aG) (x1:aJ) (x2:aA) (x6 x4 x5 x7:Int):Option (Int×Int):=
 if ((((decide ((x0.length:Int)>8)) || (decide ((x3.length:Int)>8))) || (decide ((x1.length:Int)>8))) || (decide ((x2.length:Int)>8)))=true then
  some (0,8)
  else aK (Iz x0 x3 x1 x2 x6 x4 x5 x7) 1000000000 ((-1),0)
@[go_sem] def ayC:=PK JM false acf
@[go_sem] def aqp (k:Nat):=lk [(17,Yq.sp),(207,ayg.sp)] k
theorem f151:aF prog 151 ayC.sp:=by
 refine vm (tb:=aqp) (.cons f17 (.cons f207 .nil)) func151 ntmps151 λ⟨x0,x3,x1,x2,x6,x4,x5,x7⟩ r hr stop S=> ?_
 rw [uq8,acf] at hr
 refine S.gx [9,19,20,28,46,48] ?_
 repeat (first | refine gA ?_ | refine gB ?_)
 refine iW hr (λhc hr=>D0 hr) λhc hr=> ?_
 refine gr ?_
 refine S.li [1,4,5] [(1,1)] [] (λs1=>⟨[sR 1 1,sI 4 s1.1,sI 5 s1.2],[(1,[.d (aj 4 bV x0),.d (aj 5 bI x3),.d (aj 3 bU x1),.d (aj 2 aQ x2),iC x6,iC x4,iC x5,iC x7])],[]⟩) (Iz x0 x3 x1 x2 x6 x4 x5 x7) (λq=>q=r) hr rfl ?_
 intro s1 hr
 unfold Iz at hr
 refine S.gw [9,19,20,28,46,48] ?_
 refine gJ hr (λhc hr=> ?_) λhc hr=> ?_
 ·obtain ⟨hg2,hr⟩:=aH hr
  obtain ⟨hg3,hr⟩:=aH hr
  obtain ⟨hg4,hr⟩:=aH hr
  repeat (first | refine gG hg3 ?_ | refine gG hg4 ?_ | refine gA ?_ | refine gB ?_)
  refine S.prune [1,4,5,6,7] ?_
  refine S.gx [19,20,28,46,48] ?_
  exact D1 (S.ss [1,4,5] [(1,1)] []) hr
 refine gr ?_
 have hr:=bT hr
 refine gr ?_
 refine S.li [1,4,9] [(1,1)] [] (λs2=>⟨[sR 1 1,sI 4 s2.1,sI 9 s2.2],[(1,[.d (aj 4 bV x0),.d (aj 5 bI x3),.d (aj 3 bU x1),.d (aj 2 aQ x2),iC x6,iC x4,iC x5,iC x7])],[]⟩) (CX x0 x3 x1 x2 x6 x4 x5 x7) (λq=>q=r) hr rfl ?_
 intro s2 hr
 unfold CX at hr
 refine S.gw [9,19,20,28,46,48] ?_
 refine gJ hr (λhc hr=> ?_) λhc hr=> ?_
 ·obtain ⟨hg7,hr⟩:=aH hr
  obtain ⟨XT,hr⟩:=aH hr
  obtain ⟨ZK,hr⟩:=aH hr
  obtain ⟨v5,hv5,hr⟩:=bf hr
  refine gb hv5 ?_
  refine gJ hr (λhc hr=> ?_) λhc hr=> ?_
  ·refine gr ?_
   refine S.prune [9,10] ?_
   refine S.gx [9,20,28,46,48] ?_
   exact D0 hr
  refine gr ?_
  refine S.prune [1,9] ?_
  refine S.gx [9,19,28,46,48] ?_
  exact D1 (S.ss [1,4,9] [(1,1)] []) hr
 refine gr ?_
 have hr:=bT hr
 refine gr ?_
 refine S.li [1,4,11,12] [(1,1)] [] (λs3=>⟨[sR 1 1,sI 4 s3.1,sI 11 s2.1,sI 12 s3.2],[(1,[.d (aj 4 bV x0),.d (aj 5 bI x3),.d (aj 3 bU x1),.d (aj 2 aQ x2),iC x6,iC x4,iC x5,iC x7])],[]⟩) (CW x0 x1 x2 x6 x4 x5 x7 s2) (λq=>q=r) hr rfl ?_
 intro s3 hr
 unfold CW at hr
 refine S.gw [9,19,20,28,46,48] ?_
 refine gJ hr (λhc hr=> ?_) λhc hr=> ?_
 ·obtain ⟨Nv,hr⟩:=aH hr
  obtain ⟨Ji,hr⟩:=aH hr
  obtain ⟨ZN,hr⟩:=aH hr
  repeat (first | refine gG Ji ?_ | refine gG ZN ?_ | refine gA ?_ | refine gB ?_)
  refine S.prune [1,4,11,12,13,14] ?_
  refine S.gx [9,19,20,46,48] ?_
  exact D1 (S.ss [1,4,11,12] [(1,1)] []) hr
 refine gr ?_
 have hr:=bT hr
 refine gr ?_
 refine S.li [1,4,11,16] [(1,1)] [] (λs4=>⟨[sR 1 1,sI 4 s4.1,sI 11 (if s2.1<s3.1 then s3.1 else s2.1),sI 16 s4.2],[(1,[.d (aj 4 bV x0),.d (aj 5 bI x3),.d (aj 3 bU x1),.d (aj 2 aQ x2),iC x6,iC x4,iC x5,iC x7])],[]⟩) (CU x0 x2 x6 x4 x5 x7 s2 s3) (λq=>q=r) hr rfl ?_
 intro s4 hr
 unfold CU at hr
 refine S.gw [9,19,20,28,46,48] ?_
 refine gJ hr (λhc hr=>D1 (S.ss [1,4,11,16] [(1,1)] []) hr) λhc hr=> ?_
 refine gr ?_
 have hr:=bT hr
 obtain ⟨ZL,hr⟩:=aP hr
 repeat (first | refine gG ZL ?_ | refine gA ?_ | refine gB ?_)
 refine iW hr (λhc hr=>D0 hr) λhc hr=> ?_
 refine gr ?_
 refine S.lp ?_
 refine S.gx [9,19,20,28,46,48] ?_
 obtain ⟨v18,Nu,hr⟩:=aB hr
 refine gb Nu ?_
 refine iW hr (λhc hr=> ?_) λhc hr=> ?_
 ·refine gr ?_
  refine S.prune [] ?_
  refine S.gx [9,19,20,28,46] ?_
  exact D0 hr
 refine gr ?_
 refine S.prune [1,18] ?_
 refine S.gw [9,19,20,28,48] ?_
 refine S.lp ?_
 refine S.gx [9,19,20,28,46,48] ?_
 obtain ⟨v19,UC,hr⟩:=aB hr
 refine gb UC ?_
 refine iW hr (λhc hr=> ?_) λhc hr=> ?_
 ·refine gr ?_
  refine S.prune [] ?_
  refine S.gx [9,19,20,28,46] ?_
  exact D0 hr
 refine gr ?_
 refine S.prune [1,18] ?_
 refine S.gw [9,19,20,28,48] ?_
 refine S.lp ?_
 refine S.gx [9,19,20,28,46,48] ?_
 obtain ⟨v20,UA,hr⟩:=aB hr
 refine gb UA ?_
 refine iW hr (λhc hr=> ?_) λhc hr=> ?_
 ·refine gr ?_
  refine S.prune [] ?_
  refine S.gx [9,19,20,28,46] ?_
  exact D0 hr
 refine gr ?_
 refine S.prune [1,18] ?_
 refine S.gw [9,19,20,28,48] ?_
 refine S.lp ?_
 refine S.gx [9,19,20,28,46,48] ?_
 obtain ⟨v21,alH,hr⟩:=aB hr
 refine gb alH ?_
 refine iW hr (λhc hr=> ?_) λhc hr=> ?_
 ·refine gr ?_
  refine S.prune [] ?_
  refine S.gx [9,19,20,28,46] ?_
  exact D0 hr
 refine gr ?_
 refine S.prune [1,18] ?_
 refine S.gw [9,19,20,28,48] ?_
 refine S.lp ?_
 refine S.gw [9,19,20,28,46,48] ?_
 refine S.lp ?_
 refine S.gw [9,19,20,28,46,48] ?_
 refine iW hr (λhc hr=>D0 hr) λhc hr=> ?_
 refine gr ?_
 refine S.lp ?_
 refine S.gw [9,19,20,28,46,48] ?_
 refine iW hr (λhc hr=>D0 hr) λhc hr=> ?_
 refine gr ?_
 refine S.lp ?_
 refine S.gw [9,19,20,28,46,48] ?_
 refine iW hr (λhc hr=>D0 hr) λhc hr=> ?_
 refine gr ?_
 refine S.lp ?_
 refine S.gx [9,19,20,28,46,48] ?_
 exact D0 hr
def r87 (x0:aT) (x1:aG) (x2:aJ) (x3:aA) (x4 x5 x6 x7:Int):Option (Int):=
 (acf x0 x1 x2 x3 x4 x5 x6 x7).bind λv1=>
  some v1.2
@[go_sem] def T87:=PK mY false r87
@[go_sem] def aBW (k:Nat):=lk [(151,ayC.sp)] k
theorem f87:aF prog 87 T87.sp:=by
 refine vm (tb:=aBW) (.cons f151 .nil) func87 ntmps87 λ⟨x0,x1,x2,x3,x4,x5,x6,x7⟩ r hr stop S=> ?_
 rw [uq8,r87] at hr
 refine S.gx [] ?_
 exact D0 hr
def Ip (x1:Int) (x0:aJ) (x2:Int):Bd Int (Int×Int):=λs1=>
 if (decide (s1<(x0.length:Int)))=true then
  if 0<=s1/\s1<(x0.length:Int) then
   aW (rJ ((x0.getD s1.toNat default).1) 0 (IntKind.i64.wrap (x1 - 1))) λv3=>
    if (!v3)=true then
     .out (some (s1,6))
     else aW (rJ ((x0.getD s1.toNat default).2.1) 0 2000) λv4=>
      if (!(!v4))=true->(rJ ((x0.getD s1.toNat default).2.2) 0 2000).isSome=true then
       if ((!v4) || (!((rJ ((x0.getD s1.toNat default).2.2) 0 2000).getD default)))=true then
        .out (some (s1,2))
        else if (decide (((x0.getD s1.toNat default).2.1)>((x0.getD s1.toNat default).2.2)))=true then
         .out (some (s1,9))
         else .next (IntKind.i64.wrap (s1+1))
       else .out none
   else .out none
  else .out ((r88 x2).bind λv7=>
   if (!v7)=true then
    some (0,2)
    else some (0,0))
def r27 (x1 x3:Int) (x4:aA) (x5:au) (x6 x7:aV) (x8:aA) (x9 x10:Int) (x11:aT) (x12:aG) (cO:aJ) (x14:aA) (x15 x16 x17 x18:Int) (x0:aJ) (x2:Int):Option (Int×Int):=
 (r86 x1 x3 x4 x5 x6 x7 x8 x9 x10).bind λv1=>
  if (v1 != 0)=true then
   some (0,v1)
   else (r87 x11 x12 cO x14 x15 x16 x17 x18).bind λv2=>
    if (v2 != 0)=true then
     some (0,v2)
     else if (decide ((x0.length:Int)>6))=true then
      some (0,8)
      else aK (Ip x1 x0 x2) 1000000000 0
@[go_sem] def T27:=Ud JM false r27
@[go_sem] def aB' (k:Nat):=lk [(17,Yq.sp),(86,T86.sp),(87,T87.sp),(88,T88.sp)] k
theorem f27:aF prog 27 T27.sp:=by
 refine vm (tb:=aB') (.cons f17 (.cons f86 (.cons f87 (.cons f88 .nil)))) func27 ntmps27 λ⟨x1,x3,x4,x5,x6,x7,x8,x9,x10,x11,x12,cO,x14,x15,x16,x17,x18,x0,x2⟩ r hr stop S=> ?_
 rw [OL,r27] at hr
 refine S.gx [16,17] ?_
 obtain ⟨v1,hv1,hr⟩:=aB hr
 refine gb hv1 ?_
 refine iW hr (λhc hr=>D0 hr) λhc hr=> ?_
 obtain ⟨v2,hv2,hr⟩:=aB hr
 refine gb hv2 ?_
 refine iW hr (λhc hr=>D0 hr) λhc hr=> ?_
 refine gr ?_
 refine iW hr (λhc hr=>D0 hr) λhc hr=> ?_
 refine gr ?_
 refine S.li [1,6] [(1,1)] [] (λs1=>⟨[sR 1 1,sI 6 s1],[(1,[iC x1,iC x3,.d (aj 2 aQ x4),.d (aj 1 aU x5),.d (aj 1 dh x6),.d (aj 1 dh x7),.d (aj 2 aQ x8),iC x9,iC x10,.d (aj 4 bV x11),.d (aj 5 bI x12),.d (aj 3 bU cO),.d (aj 2 aQ x14),iC x15,iC x16,iC x17,iC x18,.d (aj 3 bU x0),iC x2])],[]⟩) (Ip x1 x0 x2) (λq=>q=r) hr rfl ?_
 intro s1 hr
 unfold Ip at hr
 refine S.gw [16,17] ?_
 refine gJ hr (λhc hr=> ?_) λhc hr=>D0 hr
 obtain ⟨hg6,hr⟩:=aH hr
 obtain ⟨v3,hv3,hr⟩:=bf hr
 refine gb hv3 ?_
 refine gJ hr (λhc hr=>D0 hr) λhc hr=> ?_
 obtain ⟨v4,hv4,hr⟩:=bf hr
 obtain ⟨hg5,hr⟩:=aH hr
 try simp only [hv4,oG,oI,true_and,and_assoc]
 repeat (first | refine gG hg5 ?_ | refine gA ?_ | refine gB ?_)
 refine gJ hr (λhc hr=> ?_) λhc hr=> ?_
 ·refine gr ?_
  refine S.prune [6] ?_
  refine S.gx [17] ?_
  exact D0 hr
 refine gr ?_
 refine S.prune [1,6,7] ?_
 refine S.gx [16] ?_
 exact D1 (S.ss [1,6] [(1,1)] []) hr
def r32 (x0 x1:Int) (x2:aA) (x3:au) (x4 x5:aV) (x6:aA) (x7 x8:Int) (x9:aT) (x10:aG) (x11:aJ) (x12:aA) (cO x14 x15 x16:Int) (x17:aJ) (x18:Int):Option (Int):=
 (r27 x0 x1 x2 x3 x4 x5 x6 x7 x8 x9 x10 x11 x12 cO x14 x15 x16 x17 x18).bind λv1=>
  some v1.2
@[go_sem] def T32:=Ud mY false r32
@[go_sem] def aB8 (k:Nat):=lk [(27,T27.sp)] k
theorem f32:aF prog 32 T32.sp:=by
 refine vm (tb:=aB8) (.cons f27 .nil) func32 ntmps32 λ⟨x0,x1,x2,x3,x4,x5,x6,x7,x8,x9,x10,x11,x12,cO,x14,x15,x16,x17,x18⟩ r hr stop S=> ?_
 rw [OL,r32] at hr
 refine S.gx [] ?_
 exact D0 hr
def KZ (x0 x1:Int) (x2:aA) (x3:au) (x4 x5:aV) (x6:aA) (x7 x8:Int) (a1:aA):Bd Int Int:=λs1=>
 if (decide (s1<(a1.length:Int)))=true then
  if 0<=s1/\s1<(a1.length:Int) then
   aW (rJ ((a1.getD s1.toNat default).1) 0 10000) λv1=>
    if (!v1)=true then
     .out (some 2)
     else if 0<=s1/\s1<(a1.length:Int) then
      aW (r89 x0 x1 x2 x3 x4 x5 x6 x7 x8 ((a1.getD s1.toNat default).2)) λv2=>
       if (!v2)=true then
        .out (some 6)
        else .next (IntKind.i64.wrap (s1+1))
      else .out none
   else .out none
  else .out (some 0)
def r28 (x0 x1:Int) (x2:aA) (x3:au) (x4 x5:aV) (x6:aA) (x7 x8:Int) (a1:aA):Option (Int):=
 if (decide ((a1.length:Int)>200))=true then
  some 8
  else aK (KZ x0 x1 x2 x3 x4 x5 x6 x7 x8 a1) 1000000000 0
@[go_sem] def T28:=acu mY false r28
@[go_sem] def aB9 (k:Nat):=lk [(17,Yq.sp),(89,T89.sp)] k
theorem f28:aF prog 28 T28.sp:=by
 refine vm (tb:=aB9) (.cons f17 (.cons f89 .nil)) func28 ntmps28 λ⟨x0,x1,x2,x3,x4,x5,x6,x7,x8,a1⟩ r hr stop S=> ?_
 rw [Sz,r28] at hr
 refine S.gx [] ?_
 refine gr ?_
 refine iW hr (λhc hr=>D0 hr) λhc hr=> ?_
 refine gr ?_
 refine S.li [1,2,5] [(2,2)] [] (λs1=>⟨[(1,.c (.d (aj 2 aQ a1))),sR 2 2,sI 5 s1],[(2,[iC x0,iC x1,.d (aj 2 aQ x2),.d (aj 1 aU x3),.d (aj 1 dh x4),.d (aj 1 dh x5),.d (aj 2 aQ x6),iC x7,iC x8])],[]⟩) (KZ x0 x1 x2 x3 x4 x5 x6 x7 x8 a1) (λq=>q=r) hr rfl ?_
 intro s1 hr
 unfold KZ at hr
 refine S.gx [] ?_
 exact D1 (S.ss [1,2,5] [(2,2)] []) hr
end Go.Proofs.YtnepigpnlnmlmaaGreatDoor

/- Contracts of functions, written by wip/dec. -/
import Derived.Test.YtnepigpnlnmlmaaGreatDoorF00
import Derived.Test.YtnepigpnlnmlmaaGreatDoorF01
import Derived.Test.YtnepigpnlnmlmaaGreatDoorF02
set_option linter.unusedVariables false
set_option linter.unusedSimpArgs false
set_option linter.constructorNameAsVariable false
set_option maxHeartbeats 4000000
set_option maxRecDepth 20000
namespace Go.Proofs.YtnepigpnlnmlmaaGreatDoor
open Tryz Go.dR
section
variable {β:Type} [Inhabited β] (u:β->List RV) (al:Bool)
def ar0 (a0 a1 a2 a3 a4:Int) (a5:Hl):List Arg:=[.agg [.int .i64 a0,.int .i64 a1,.int .i64 a2,.int .i64 a3,.int .i64 a4,hE a5]]
def atH:List Arg->Int×Int×Int×Int×Int×Hl
 | [.agg [c0,c1,c2,c3,c4,c5]]=>(aC c0,aC c1,aC c2,aC c3,aC c4,hD c5)
 | _=>default
def acv (r:Int->Int->Int->Int->Int->Hl->Option β):=mkT (u6 ar0) atH (u6 r) u al
attribute [go_sem] ar0 atH acv
def arZ (a0 a1 a2 a3 a4:Int) (a5:Hl) (a6:Int):List Arg:=[.agg [.int .i64 a0,.int .i64 a1,.int .i64 a2,.int .i64 a3,.int .i64 a4,hE a5],.c (.int .i64 a6)]
def atG:List Arg->Int×Int×Int×Int×Int×Hl×Int
 | [.agg [c0,c1,c2,c3,c4,c5],.c c6]=>(aC c0,aC c1,aC c2,aC c3,aC c4,hD c5,aC c6)
 | _=>default
def auJ (r:Int->Int->Int->Int->Int->Hl->Int->Option β):=mkT (u7 arZ) atG (u7 r) u al
attribute [go_sem] arZ atG auJ
def arX (a0 a1:Int) (a2:aA) (a3:au) (a4 a5:aV) (a6:aA) (a7 a8 a9 a10:Int) (a11:Nat):List Arg:=[.agg [.int .i64 a0,.int .i64 a1,aj 2 aQ a2,aj 1 aU a3,aj 1 dh a4,aj 1 dh a5,aj 2 aQ a6,.int .i64 a7,.int .i64 a8],.agg [.int .i64 a9,.int .i64 a10],.clo a11 []]
def atE:List Arg->Int×Int×aA×au×aV×aV×aA×Int×Int×Int×Int×Nat
 | [.agg [c0,c1,c2,c3,c4,c5,c6,c7,c8],.agg [c9,c10],.clo c11 []]=>(aC c0,aC c1,aN bZ c2,aN bW c3,aN kV c4,aN kV c5,aN bZ c6,aC c7,aC c8,aC c9,aC c10,c11)
 | _=>default
def auI (r:Int->Int->aA->au->aV->aV->aA->Int->Int->Int->Int->Nat->Option β):=mkT (u12 arX) atE (u12 r) u al
attribute [go_sem] arX atE auI
def asG (v:afi):List RV:=[.c (.own (aj 3 KG v))]
attribute [go_sem] asG
def asF (v:dB×Int):List RV:=[.c (.own (aj 6 dO v.1)),.c (.d (.int .i64 v.2))]
attribute [go_sem] asF
def asE (v:aV×Int):List RV:=[.agg [.own (aj 1 dh v.1),.d (.int .i64 v.2)]]
attribute [go_sem] asE
end
def akq (a0:Int):Option (afi):=
 if (a0 == 0)=true then
  some [(245,1,10000),(247,1,200)]
  else if (a0 == 1)=true then
   some [(247,1,200)]
   else if (a0 == 2)=true then
    some [(246,0,3),(247,1,200)]
    else if (a0 == 3)=true then
     some [(248,200,3000),(245,1,10000),(247,1,200)]
     else if (a0 == 4)=true then
      some [(248,200,3000),(246,0,3),(247,1,200)]
      else if (a0 == 5)=true then
       some [(247,1,10)]
       else some []
@[go_sem] def ayt:=OC asG true akq
theorem f188:aF prog 188 ayt.sp:=by
 refine vm .nil func188 ntmps188 λa0 r hr stop S=> ?_
 rw [sQ,akq] at hr
 refine S.gx [] ?_
 exact D0 hr
def abN (x1 x2 x3 x4 x0:Int) (x5:Hl):Option (Int):=
 some x0
@[go_sem] def axY:=acv mY false abN
theorem f248:aF prog 248 axY.sp:=by
 refine vm .nil func248 ntmps248 λ⟨x1,x2,x3,x4,x0,x5⟩ r hr stop S=> ?_
 rw [uq6,abN] at hr
 refine S.gx [] ?_
 exact D0 hr
def abO (x1 x2 x3 x0 x4:Int) (x5:Hl):Option (Int):=
 some x0
@[go_sem] def axZ:=acv mY false abO
theorem f247:aF prog 247 axZ.sp:=by
 refine vm .nil func247 ntmps247 λ⟨x1,x2,x3,x0,x4,x5⟩ r hr stop S=> ?_
 rw [uq6,abO] at hr
 refine S.gx [] ?_
 exact D0 hr
def abP (x1 x2 x0 x3 x4:Int) (x5:Hl):Option (Int):=
 some x0
@[go_sem] def ax0:=acv mY false abP
theorem f246:aF prog 246 ax0.sp:=by
 refine vm .nil func246 ntmps246 λ⟨x1,x2,x0,x3,x4,x5⟩ r hr stop S=> ?_
 rw [uq6,abP] at hr
 refine S.gx [] ?_
 exact D0 hr
def abQ (x1 x0 x2 x3 x4:Int) (x5:Hl):Option (Int):=
 some x0
@[go_sem] def ax1:=acv mY false abQ
theorem f245:aF prog 245 ax1.sp:=by
 refine vm .nil func245 ntmps245 λ⟨x1,x0,x2,x3,x4,x5⟩ r hr stop S=> ?_
 rw [uq6,abQ] at hr
 refine S.gx [] ?_
 exact D0 hr
theorem LV {σ:Type} {k:List K} {stop:List K->St->Prop} (head:σ->St) (R:σ->Prop) {goal:Prop} (main:(∀ s,R s->stop k (head s))->goal) (j:∀ s,R s->stop k (head s)):goal:=main j
def yH (x0:Int) (x1:Hl) (s1:Bool×Int):(Int×Int×Int)->Option (Int):=λs2=>
 (xu ((((s2.1 == 0) && (s2.2.1 == 0)) && (s2.2.2 == 0)) && ((x0 == 5) || (((hU x1).length:Int) == 0))) 3).bind λv16=>
  (xu s1.1 2).bind λv17=>
   (r64 [v16,v17]).bind λv18=>
    if ((v18 != 0) || (!(x0 == 5)))=true then
     some v18
     else none
def VE (x0 x2 x3 x5 x4:Int) (x1:Hl) (v2:afi):Bd (Bool×Int) Int:=λs1=>
 if (decide (s1.2<(v2.length:Int)))=true then
  if 0<=s1.2/\s1.2<(v2.length:Int) then
   if (v2.getD s1.2.toNat default).1=245 then
    if s1.1=true->(abQ x0 x2 x3 x5 x4 x1).isSome=true then
     if s1.1=true->(IL ((abQ x0 x2 x3 x5 x4 x1).getD default) ((v2.getD s1.2.toNat default).2.1) ((v2.getD s1.2.toNat default).2.2)).isSome=true then
      .next (s1.1 && ((IL ((abQ x0 x2 x3 x5 x4 x1).getD default) ((v2.getD s1.2.toNat default).2.1) ((v2.getD s1.2.toNat default).2.2)).getD default),IntKind.i64.wrap (s1.2+1))
      else .out none
     else .out none
    else if (v2.getD s1.2.toNat default).1=246 then
     if s1.1=true->(abP x0 x2 x3 x5 x4 x1).isSome=true then
      if s1.1=true->(IL ((abP x0 x2 x3 x5 x4 x1).getD default) ((v2.getD s1.2.toNat default).2.1) ((v2.getD s1.2.toNat default).2.2)).isSome=true then
       .next (s1.1 && ((IL ((abP x0 x2 x3 x5 x4 x1).getD default) ((v2.getD s1.2.toNat default).2.1) ((v2.getD s1.2.toNat default).2.2)).getD default),IntKind.i64.wrap (s1.2+1))
       else .out none
      else .out none
     else if (v2.getD s1.2.toNat default).1=247 then
      if s1.1=true->(abO x0 x2 x3 x5 x4 x1).isSome=true then
       if s1.1=true->(IL ((abO x0 x2 x3 x5 x4 x1).getD default) ((v2.getD s1.2.toNat default).2.1) ((v2.getD s1.2.toNat default).2.2)).isSome=true then
        .next (s1.1 && ((IL ((abO x0 x2 x3 x5 x4 x1).getD default) ((v2.getD s1.2.toNat default).2.1) ((v2.getD s1.2.toNat default).2.2)).getD default),IntKind.i64.wrap (s1.2+1))
        else .out none
       else .out none
      else if (v2.getD s1.2.toNat default).1=248 then
       if s1.1=true->(abN x0 x2 x3 x5 x4 x1).isSome=true then
        if s1.1=true->(IL ((abN x0 x2 x3 x5 x4 x1).getD default) ((v2.getD s1.2.toNat default).2.1) ((v2.getD s1.2.toNat default).2.2)).isSome=true then
         .next (s1.1 && ((IL ((abN x0 x2 x3 x5 x4 x1).getD default) ((v2.getD s1.2.toNat default).2.1) ((v2.getD s1.2.toNat default).2.2)).getD default),IntKind.i64.wrap (s1.2+1))
         else .out none
        else .out none
       else .out none
   else .out none
  else .out (if (x0 == 0)=true then
   yH x0 x1 s1 (0,x3,x4)
   else if (x0 == 2)=true then
    yH x0 x1 s1 (x2,0,x4)
    else if (x0 == 3)=true then
     yH x0 x1 s1 (0,x3,0)
     else if (x0 == 4)=true then
      yH x0 x1 s1 (x2,0,0)
      else yH x0 x1 s1 (x2,x3,x4))
def auO (lv:Nat) (x0 x2 x3 x5 x4:Int) (x1:Hl) (a1:Int):Option (Int):=
 (IL x0 0 5).bind λv1=>
  if (!v1)=true then
   some 15
   else (akq x0).bind λv2=>
    aK (VE x0 x2 x3 x5 x4 x1 v2) 1000000000 (true,0)
def agy:(ix:Nat)->Int->Int->Int->Int->Int->Hl->Int->Option (Int)
 | 0=>λ_ _ _ _ _ _ _=>none
 | lv+1=>auO lv
@[go_sem] def ayP (ix:Nat):=auJ mY false (agy ix)
@[go_sem] def aqA (lv:Nat) (k:Nat):=lk [(64,T64.sp),(65,T65.sp),(71,T71.sp),(188,ayt.sp),(245,ax1.sp),(246,ax0.sp),(247,axZ.sp),(248,axY.sp)] k
theorem aa8 (lv:Nat):fM prog (aqA lv):= .cons f64 (.cons f65 (.cons f71 (.cons f188 (.cons f245 (.cons f246 (.cons f247 (.cons f248 .nil)))))))
theorem f128 (ix:Nat):aF prog 128 (ayP ix).sp:=by
 induction ix with
 | zero=>exact ahr func128 (by decide) rfl (λ⟨x0,x2,x3,x5,x4,x1,a1⟩ h=>Bool.false_ne_true h)
 | succ lv ih=>
 refine VP cZ (aa8 lv) func128 rfl ntmps128 λ⟨x0,x2,x3,x5,x4,x1,a1⟩ r hr=>⟨nL rfl,λstop S=> ?_⟩
 replace hr:=(OJ x0 x2 x3 x5 x4 x1 a1 (agy (lv+1))).symm.trans hr
 rw [agy] at hr
 unfold auO at hr
 refine S.gx [26,7,19,21] ?_
 obtain ⟨v1,hv1,hr⟩:=aB hr
 refine gb hv1 ?_
 refine iW hr (λhc hr=>D0 hr) λhc hr=> ?_
 obtain ⟨v2,hv2,hr⟩:=aB hr
 refine gb hv2 ?_
 refine S.li [1,2,5,6,19,20,21] [(2,2),(5,5)] [(19,19)] (λs1=>⟨[sI 1 a1,sR 2 2,sR 5 5,(6,.c (.d (.bool s1.1))),sO 19 19,sI 20 (v2.length:Int),sI 21 s1.2],[(2,[iC x0,iC x2,iC x3,iC x5,iC x4,.d (hE x1)]),(5,[iC x0,iC x2,iC x3,iC x5,iC x4,.d (hE x1)])],[(19,.owned (aj 3 KG v2))]⟩) (VE x0 x2 x3 x5 x4 x1 v2) (λq=>q=r) hr rfl ?_
 intro s1 hr
 have z1:=S.ss [1,2,5,6,19,20,21] [(2,2),(5,5)] [(19,19)]
 unfold VE at hr
 refine S.gw [26,7,19,21] ?_
 refine gJ hr (λhc hr=> ?_) λhc hr=> ?_
 ·obtain ⟨ZM,hr⟩:=aH hr
  refine gr ?_
  by_cases UH:(v2.getD s1.2.toNat default).1=245
  ·rw [if_pos UH] at hr
   simp only [UH]
   refine S.gx [26,19,21] ?_
   obtain ⟨ZN,hr⟩:=aH hr
   obtain ⟨ahf,hr⟩:=aH hr
   repeat (first | refine gG ZN ?_ | refine gG ahf ?_ | refine gA ?_ | refine gB ?_)
   exact D1 z1 hr
  rw [if_neg UH] at hr
  by_cases hs9:(v2.getD s1.2.toNat default).1=246
  ·rw [if_pos hs9] at hr
   simp only [hs9]
   refine S.gx [26,19,21] ?_
   obtain ⟨Jj,hr⟩:=aH hr
   obtain ⟨Nv,hr⟩:=aH hr
   repeat (first | refine gG Jj ?_ | refine gG Nv ?_ | refine gA ?_ | refine gB ?_)
   exact D1 z1 hr
  rw [if_neg hs9] at hr
  by_cases hs6:(v2.getD s1.2.toNat default).1=247
  ·rw [if_pos hs6] at hr
   simp only [hs6]
   refine S.gx [26,19,21] ?_
   obtain ⟨hg7,hr⟩:=aH hr
   obtain ⟨XT,hr⟩:=aH hr
   repeat (first | refine gG hg7 ?_ | refine gG XT ?_ | refine gA ?_ | refine gB ?_)
   exact D1 z1 hr
  rw [if_neg hs6] at hr
  by_cases hs3:(v2.getD s1.2.toNat default).1=248
  ·rw [if_pos hs3] at hr
   simp only [hs3]
   refine S.gx [26,19,21] ?_
   obtain ⟨hg4,hr⟩:=aH hr
   obtain ⟨hg5,hr⟩:=aH hr
   repeat (first | refine gG hg4 ?_ | refine gG hg5 ?_ | refine gA ?_ | refine gB ?_)
   exact D1 z1 hr
  rw [if_neg hs3] at hr
  first | cases hr | exact hr.elim
 refine gr ?_
 have hr:=bT hr
 refine gr ?_
 apply LV (stop:=stop) (λs2=>⟨[sI 1 a1,sR 2 2,sR 5 5,(6,.c (.d (.bool s1.1)))],[(2,[iC x0,iC x2,iC x3,iC x5,iC x4,.d (hE x1)]),(5,[iC x0,iC s2.1,iC s2.2.1,iC 0,iC s2.2.2,.d (hE x1)])],[]⟩) (λs2=>yH x0 x1 s1 s2=some r)
 ·intro J2
  refine iW hr (λhc hr=> ?_) λhc hr=> ?_
  ·refine gr ?_
   refine S.sees [1,2,5,6] [(2,2),(5,5)] [] ?_ (J2 _ hr)
   exact lf
  refine gr ?_
  refine iW hr (λhc hr=> ?_) λhc hr=> ?_
  ·refine gr ?_
   refine S.sees [1,2,5,6] [(2,2),(5,5)] [] ?_ (J2 _ hr)
   exact lf
  refine gr ?_
  refine iW hr (λhc hr=> ?_) λhc hr=> ?_
  ·refine gr ?_
   refine S.sees [1,2,5,6] [(2,2),(5,5)] [] ?_ (J2 _ hr)
   exact lf
  refine gr ?_
  refine iW hr (λhc hr=> ?_) λhc hr=> ?_
  ·refine gr ?_
   refine S.sees [1,2,5,6] [(2,2),(5,5)] [] ?_ (J2 _ hr)
   exact lf
  refine gr ?_
  refine S.sees [1,2,5,6] [(2,2),(5,5)] [] ?_ (J2 _ hr)
  exact lf
 intro s2 hr
 unfold yH at hr
 refine S.gw [26,7,19,21] ?_
 refine S.gw [26,7,21] ?_
 repeat (first | refine gA ?_ | refine gB ?_)
 refine S.prune [1,2,6,9,10] ?_
 refine S.gx [26,7,19] ?_
 obtain ⟨v16,alI,hr⟩:=aB hr
 obtain ⟨v17,adu,hr⟩:=aB hr
 obtain ⟨v18,Nu,hr⟩:=aB hr
 refine gb alI ?_
 refine gb adu ?_
 refine gb Nu ?_
 repeat (first | refine gA ?_ | refine gB ?_)
 refine iW hr (λhc hr=>D0 hr) λhc hr=> ?_
 first | cases hr | exact hr.elim
def VF (a0:dB):Bd Int (Int×Int):=λs1=>
 if (decide (s1<(a0.length:Int)))=true then
  if 0<=s1/\s1<(a0.length:Int) then
   aW (agy 7 ((a0.getD s1.toNat default).1) ((a0.getD s1.toNat default).2.1) ((a0.getD s1.toNat default).2.2.1) ((a0.getD s1.toNat default).2.2.2.1) ((a0.getD s1.toNat default).2.2.2.2.1) ((a0.getD s1.toNat default).2.2.2.2.2) 0) λv10=>
    if (v10 != 0)=true then
     .out (if (v10 != 0)=true then
      some (s1,v10)
      else (Zi a0).bind λv11=>
       (xu (decide ((v11.length:Int)<=60)) 8).bind λv12=>
        if 0<=IntKind.i64.wrap ((v11.length:Int) - 1)/\IntKind.i64.wrap ((v11.length:Int) - 1)<(v11.length:Int) then
         (r68 ((v11.getD (IntKind.i64.wrap ((v11.length:Int) - 1)).toNat default).1)).bind λv13=>
          (xu v13 20).bind λv14=>
           (r64 [v12,v14]).bind λv15=>
            some (0,v15)
         else none)
     else .next (IntKind.i64.wrap (s1+1))
   else .out none
  else .out ((Zi a0).bind λv18=>
   (xu (decide ((v18.length:Int)<=60)) 8).bind λv19=>
    if 0<=IntKind.i64.wrap ((v18.length:Int) - 1)/\IntKind.i64.wrap ((v18.length:Int) - 1)<(v18.length:Int) then
     (r68 ((v18.getD (IntKind.i64.wrap ((v18.length:Int) - 1)).toNat default).1)).bind λv20=>
      (xu v20 20).bind λv21=>
       (r64 [v19,v21]).bind λv22=>
        some (0,v22)
     else none)
def agz (a0:dB):Option (Int×Int):=
 (xu (decide ((a0.length:Int)>0)) 10).bind λv1=>
  (xu (decide ((a0.length:Int)<=12)) 8).bind λv2=>
   (r64 [v1,v2]).bind λv3=>
    if (v3 != 0)=true then
     if (v3 != 0)=true then
      some (0,v3)
      else (Zi a0).bind λv4=>
       (xu (decide ((v4.length:Int)<=60)) 8).bind λv5=>
        if 0<=IntKind.i64.wrap ((v4.length:Int) - 1)/\IntKind.i64.wrap ((v4.length:Int) - 1)<(v4.length:Int) then
         (r68 ((v4.getD (IntKind.i64.wrap ((v4.length:Int) - 1)).toNat default).1)).bind λv6=>
          (xu v6 20).bind λv7=>
           (r64 [v5,v7]).bind λv8=>
            some (0,v8)
         else none
     else aK (VF a0) 1000000000 0
@[go_sem] def amL:=agE JM false agz
@[go_sem] def aiq (k:Nat):=lk [(64,T64.sp),(65,T65.sp),(68,T68.sp),(128,(ayP 7).sp),(178,amF.sp)] k
theorem aa9:fM prog aiq:= .cons f64 (.cons f65 (.cons f68 (.cons (f128 7) (.cons f178 .nil))))
theorem f123:aF prog 123 amL.sp:=by
 refine vm (tb:=aiq) (.cons f64 (.cons f65 (.cons f68 (.cons (f128 7) (.cons f178 .nil))))) func123 ntmps123 λa0 r hr stop S=> ?_
 rw [sQ,agz] at hr
 refine S.gx [1] ?_
 refine gr ?_
 refine S.inl 1 [0] [] func183 (by decide) rfl ntmps183 (λcx e=>bD cZ aa9 cx e) (some 9) rfl rfl rfl rfl (nL rfl) (nL rfl) ?_
 refine gs ?_
 refine gr ?_
 intro stop1 S1
 refine S1.gx [] ?_
 obtain ⟨v1,hv1,hr⟩:=aB hr
 obtain ⟨v2,hv2,hr⟩:=aB hr
 obtain ⟨v3,hv3,hr⟩:=aB hr
 refine gb hv1 ?_
 refine gb hv2 ?_
 refine gb hv3 ?_
 refine iW hr (λhc hr=> ?_) λhc hr=> ?_
 ·refine S.gx [1] ?_
  exact D0 hr
 refine gr ?_
 refine S1.li [1,23,24,25] [] [] (λs1=>⟨[sI 1 0,(23,.c (.d (aj 6 dO a0))),sI 24 (a0.length:Int),sI 25 s1],[],[]⟩) (VF a0) (λq=>q=r) hr rfl ?_
 intro s1 hr
 unfold VF at hr
 refine S1.gw [] ?_
 refine gJ hr (λhc hr=> ?_) λhc hr=> ?_
 ·obtain ⟨aDN,hr⟩:=aH hr
  obtain ⟨v10,yI,hr⟩:=bf hr
  refine gb yI ?_
  refine gJ hr (λhc hr=> ?_) λhc hr=>D1 (S1.ss [1,23,24,25] [] []) hr
  refine gr ?_
  have hr:=bT hr
  refine S.gx [1] ?_
  exact D0 hr
 refine gr ?_
 have hr:=bT hr
 refine S.gx [1] ?_
 exact D0 hr
def akv (a0:dB):Option (dB×Int):=
 (agz a0).bind λv1=>
  if (v1.2 != 0)=true then
   some ([],v1.2)
   else (Zi a0).bind λv2=>
    some (v2,0)
@[go_sem] def ayS:=agE asF true akv
@[go_sem] def aqB (k:Nat):=lk [(123,amL.sp),(178,amF.sp)] k
theorem f117:aF prog 117 ayS.sp:=by
 refine vm (tb:=aqB) (.cons f123 (.cons f178 .nil)) func117 ntmps117 λa0 r hr stop S=> ?_
 rw [sQ,akv] at hr
 refine S.gx [] ?_
 exact D0 hr
def Uc (x1 x2:Int) (x3:aA) (x0:au) (x4 x5:aV) (x6:aA) (x7 x8:Int):Option (Int):=
 some (IntKind.i64.wrap ((x0.length:Int) - 1))
@[go_sem] def ah6:=PO mY false Uc
theorem f118:aF prog 118 ah6.sp:=by
 refine vm .nil func118 ntmps118 λ⟨x1,x2,x3,x0,x4,x5,x6,x7,x8⟩ r hr stop S=> ?_
 rw [RY,Uc] at hr
 refine S.gx [] ?_
 exact D0 hr
def agv (x0 x1:Int):Option (Int):=
 some x0
@[go_sem] def ayz:=PN mY false agv
theorem f161:aF prog 161 ayz.sp:=by
 refine vm .nil func161 ntmps161 λ⟨x0,x1⟩ r hr stop S=> ?_
 rw [DV,agv] at hr
 refine S.gx [] ?_
 exact D0 hr
def akm (x0 x1:Int):Option (Int):=
 some (IntKind.i64.wrap ((IntKind.i64.wrap (x0+x1)).tdiv 2))
@[go_sem] def ax3:=PN mY false akm
theorem f238:aF prog 238 ax3.sp:=by
 refine vm .nil func238 ntmps238 λ⟨x0,x1⟩ r hr stop S=> ?_
 rw [DV,akm] at hr
 refine S.gx [] ?_
 exact D0 hr
def agu (x1 x0:Int):Option (Int):=
 some x0
@[go_sem] def ayy:=PN mY false agu
theorem f162:aF prog 162 ayy.sp:=by
 refine vm .nil func162 ntmps162 λ⟨x1,x0⟩ r hr stop S=> ?_
 rw [DV,agu] at hr
 refine S.gx [] ?_
 exact D0 hr
def zh (x0:aA) (x1 x2:Int) (a2:Nat):Bd (Int×(List (Int))) (aV×Int):=λs1=>
 if (decide (s1.1<(x0.length:Int)))=true then
  if 0<=s1.1/\s1.1<(x0.length:Int) then
   if a2=162 then
    aW (agu ((x0.getD s1.1.toNat default).1) ((x0.getD s1.1.toNat default).2)) λv8=>
     if (s1.2.length+1)*8<=140737488355328/\s1.2.length+1<=9223372036854775807 then
      .next (IntKind.i64.wrap (s1.1+1),s1.2++[IntKind.i64.wrap ((IntKind.i64.wrap (x1*v8)).tdiv 1000)])
      else .out none
    else if a2=238 then
     aW (akm ((x0.getD s1.1.toNat default).1) ((x0.getD s1.1.toNat default).2)) λv5=>
      if (s1.2.length+1)*8<=140737488355328/\s1.2.length+1<=9223372036854775807 then
       .next (IntKind.i64.wrap (s1.1+1),s1.2++[IntKind.i64.wrap ((IntKind.i64.wrap (x1*v5)).tdiv 1000)])
       else .out none
     else if a2=161 then
      aW (agv ((x0.getD s1.1.toNat default).1) ((x0.getD s1.1.toNat default).2)) λv2=>
       if (s1.2.length+1)*8<=140737488355328/\s1.2.length+1<=9223372036854775807 then
        .next (IntKind.i64.wrap (s1.1+1),s1.2++[IntKind.i64.wrap ((IntKind.i64.wrap (x1*v2)).tdiv 1000)])
        else .out none
      else .out none
   else .out none
  else .out (some (s1.2,x2))
def MN (x3 x4:Int) (x5:aA) (x6:au) (x7 x8:aV) (x0:aA) (x9 x10 x1 x2:Int) (a2:Nat):Option (aV×Int):=
 aK (zh x0 x1 x2 a2) 1000000000 (0,[])
@[go_sem] def ah5:=auI asE false MN
@[go_sem] def aqm (k:Nat):=lk [(161,ayz.sp),(162,ayy.sp),(238,ax3.sp)] k
theorem f160:aF prog 160 ah5.sp:=by
 refine vm (tb:=aqm) (.cons f161 (.cons f162 (.cons f238 .nil))) func160 ntmps160 λ⟨x3,x4,x5,x6,x7,x8,x0,x9,x10,x1,x2,a2⟩ r hr stop S=> ?_
 rw [anI,MN] at hr
 refine S.gx [5] ?_
 refine gr ?_
 refine S.uI 7 0 2000700 1 rfl rfl (nL rfl) rfl ?_
 refine S.li [2,4,6,7,15,16,17] [(4,4),(6,6),(7,7)] [(2000700,2000700)] (λs1=>⟨[(2,.c (.clo a2 [])),sR 4 4,sR 6 6,sR 7 7,(15,.c (.d (aj 2 aQ x0))),sI 16 (x0.length:Int),sI 17 s1.1],[(4,[iC x1,iC x2]),(6,[.dF,iC 0]),(7,[.own 2000700,iC x2])],[(2000700,.owned (aj 1 dh s1.2))]⟩) (zh x0 x1 x2 a2) (λq=>q=r) hr rfl ?_
 intro s1 hr
 have z1:=S.ss [2,4,6,7,15,16,17] [(4,4),(6,6),(7,7)] [(31,2000700)]
 unfold zh at hr
 refine S.gw [5] ?_
 refine gJ hr (λhc hr=> ?_) λhc hr=>D0 hr
 obtain ⟨Jj,hr⟩:=aH hr
 refine gr ?_
 by_cases hs7:a2=162
 ·subst hs7
  rw [if_pos rfl] at hr
  refine S.gx [] ?_
  exact D1 z1 hr
 rw [if_neg hs7] at hr
 by_cases hs4:a2=238
 ·subst hs4
  rw [if_pos rfl] at hr
  refine S.gx [] ?_
  exact D1 z1 hr
 rw [if_neg hs4] at hr
 by_cases hs1:a2=161
 ·subst hs1
  rw [if_pos rfl] at hr
  refine S.gx [] ?_
  exact D1 z1 hr
 rw [if_neg hs1] at hr
 first | cases hr | exact hr.elim
def aks (x0 x1:Int) (x2:aA) (x3:au) (a1:aV):Option (Int×Int×aA×au×aA×au×Int):=
 (PG x0 x1 x2 x3).bind λv1=>
  if (v1.2.2.2.2.2.2 == 0)=true then
   (TW v1.1 v1.2.1 v1.2.2.1 v1.2.2.2.1 v1.2.2.2.2.1 v1.2.2.2.2.2.1 a1).bind λv2=>
    some (v1.1,v1.2.1,v1.2.2.1,v1.2.2.2.1,v1.2.2.2.2.1,v1.2.2.2.2.2.1,v2.2)
   else some (v1.1,v1.2.1,v1.2.2.1,v1.2.2.2.1,v1.2.2.2.2.1,v1.2.2.2.2.2.1,v1.2.2.2.2.2.2)
@[go_sem] def ayx:=akN qu8 true aks
@[go_sem] def aql (k:Nat):=lk [(193,afh.sp),(215,amC.sp)] k
theorem f163:aF prog 163 ayx.sp:=by
 refine vm (tb:=aql) (.cons f193 (.cons f215 .nil)) func163 ntmps163 λ⟨x0,x1,x2,x3,a1⟩ r hr stop S=> ?_
 rw [uq5,aks] at hr
 refine S.gx [] ?_
 exact D0 hr
def TT (a0:Int):Option (Bool):=
 (Bh a0 0 10000).bind λv1=>
  some v1
@[go_sem] def amv:=OC qV false TT
@[go_sem] def apE (k:Nat):=lk [(190,RI.sp)] k
theorem f276:aF prog 276 amv.sp:=by
 refine vm (tb:=apE) (.cons f190 .nil) func276 ntmps276 λa0 r hr stop S=> ?_
 rw [sQ,TT] at hr
 refine S.gx [] ?_
 exact D0 hr
def akk (a0:Int):Option (Bool):=
 (TT a0).bind λv1=>
  some (!v1)
@[go_sem] def axK:=OC qV false akk
@[go_sem] def apF (k:Nat):=lk [(276,amv.sp)] k
theorem f275:aF prog 275 axK.sp:=by
 refine vm (tb:=apF) (.cons f276 .nil) func275 ntmps275 λa0 r hr stop S=> ?_
 rw [sQ,akk] at hr
 refine S.gx [] ?_
 exact D0 hr
end Go.Proofs.YtnepigpnlnmlmaaGreatDoor

/- Contracts of functions, written by wip/dec. -/
import Derived.Test.YtnepigpnlnmlmaaGreatDoorF00
import Derived.Test.YtnepigpnlnmlmaaGreatDoorF01
import Derived.Test.YtnepigpnlnmlmaaGreatDoorF02
import Derived.Test.YtnepigpnlnmlmaaGreatDoorF03
set_option linter.unusedVariables false
set_option linter.unusedSimpArgs false
set_option linter.constructorNameAsVariable false
set_option maxHeartbeats 4000000
set_option maxRecDepth 20000
namespace Go.Proofs.YtnepigpnlnmlmaaGreatDoor
open Tryz Go.dR
section
variable {β:Type} [Inhabited β] (u:β->List RV) (al:Bool)
def arV (a0:aV):List Arg:=[.c (aj 1 dh a0),.clo 275 []]
def atC:List Arg->aV
 | [.c c0,.clo _ []]=>aN kV c0
 | _=>default
def akM (r:aV->Option β):=mkT (u1 arV) atC (u1 r) u al
attribute [go_sem] arV atC akM
def arU (a0 a1:Int) (a2:aA) (a3:au) (a4:aA) (a5:au) (a6:aV) (a7:Int):List Arg:=[.agg [.int .i64 a0,.int .i64 a1,aj 2 aQ a2,aj 1 aU a3,aj 2 aQ a4,aj 1 aU a5],.agg [aj 1 dh a6,.int .i64 a7]]
def atB:List Arg->Int×Int×aA×au×aA×au×aV×Int
 | [.agg [c0,c1,c2,c3,c4,c5],.agg [c6,c7]]=>(aC c0,aC c1,aN bZ c2,aN bW c3,aN bZ c4,aN bW c5,aN kV c6,aC c7)
 | _=>default
def auH (r:Int->Int->aA->au->aA->au->aV->Int->Option β):=mkT (u8 arU) atB (u8 r) u al
attribute [go_sem] arU atB auH
def arT (a0 a1:Int) (a2:aA) (a3:au) (a4:aA) (a5:au) (a6 a7:Int):List Arg:=[.agg [.int .i64 a0,.int .i64 a1,aj 2 aQ a2,aj 1 aU a3,aj 2 aQ a4,aj 1 aU a5],.c (.int .i64 a6),.c (.int .i64 a7)]
def atA:List Arg->Int×Int×aA×au×aA×au×Int×Int
 | [.agg [c0,c1,c2,c3,c4,c5],.c c6,.c c7]=>(aC c0,aC c1,aN bZ c2,aN bW c3,aN bZ c4,aN bW c5,aC c6,aC c7)
 | _=>default
def auG (r:Int->Int->aA->au->aA->au->Int->Int->Option β):=mkT (u8 arT) atA (u8 r) u al
attribute [go_sem] arT atA auG
def arS (a0:aV) (a1 a2:Int) (a3:aA) (a4:au) (a5:aA) (a6:au):List Arg:=[.c (aj 1 dh a0),.clo 222 [[.int .i64 a1,.int .i64 a2,aj 2 aQ a3,aj 1 aU a4,aj 2 aQ a5,aj 1 aU a6]]]
def atz:List Arg->aV×Int×Int×aA×au×aA×au
 | [.c c0,.clo _ [[c1,c2,c3,c4,c5,c6]]]=>(aN kV c0,aC c1,aC c2,aN bZ c3,aN bW c4,aN bZ c5,aN bW c6)
 | _=>default
def akL (r:aV->Int->Int->aA->au->aA->au->Option β):=mkT (u7 arS) atz (u7 r) u al
attribute [go_sem] arS atz akL
def arR (a0 a1:Int) (a2:aA) (a3:au) (a4:aA) (a5:au) (a6 a7:aV) (a8:Int):List Arg:=[.agg [.int .i64 a0,.int .i64 a1,aj 2 aQ a2,aj 1 aU a3,aj 2 aQ a4,aj 1 aU a5],.c (aj 1 dh a6),.agg [aj 1 dh a7,.int .i64 a8]]
def aty:List Arg->Int×Int×aA×au×aA×au×aV×aV×Int
 | [.agg [c0,c1,c2,c3,c4,c5],.c c6,.agg [c7,c8]]=>(aC c0,aC c1,aN bZ c2,aN bW c3,aN bZ c4,aN bW c5,aN kV c6,aN kV c7,aC c8)
 | _=>default
def auF (r:Int->Int->aA->au->aA->au->aV->aV->Int->Option β):=mkT (u9 arR) aty (u9 r) u al
attribute [go_sem] arR aty auF
def arQ (a0 a1:Int) (a2:aA) (a3:au) (a4 a5:aV) (a6:Int):List Arg:=[.agg [.int .i64 a0,.int .i64 a1,aj 2 aQ a2,aj 1 aU a3],.c (aj 1 dh a4),.agg [aj 1 dh a5,.int .i64 a6]]
def atx:List Arg->Int×Int×aA×au×aV×aV×Int
 | [.agg [c0,c1,c2,c3],.c c4,.agg [c5,c6]]=>(aC c0,aC c1,aN bZ c2,aN bW c3,aN kV c4,aN kV c5,aC c6)
 | _=>default
def auE (r:Int->Int->aA->au->aV->aV->Int->Option β):=mkT (u7 arQ) atx (u7 r) u al
attribute [go_sem] arQ atx auE
def arP (a0 a1:Int) (a2:aA) (a3:au) (a4 a5:aV) (a6:aA) (a7 a8:Int) (a9:dB):List Arg:=[.agg [.int .i64 a0,.int .i64 a1,aj 2 aQ a2,aj 1 aU a3,aj 1 dh a4,aj 1 dh a5,aj 2 aQ a6,.int .i64 a7,.int .i64 a8],.c (aj 6 dO a9)]
def atw:List Arg->Int×Int×aA×au×aV×aV×aA×Int×Int×dB
 | [.agg [c0,c1,c2,c3,c4,c5,c6,c7,c8],.c c9]=>(aC c0,aC c1,aN bZ c2,aN bW c3,aN kV c4,aN kV c5,aN bZ c6,aC c7,aC c8,aN iy c9)
 | _=>default
def auD (r:Int->Int->aA->au->aV->aV->aA->Int->Int->dB->Option β):=mkT (u10 arP) atw (u10 r) u al
attribute [go_sem] arP atw auD
def asD (v:aV×Int×Int):List RV:=[.c (.own (aj 1 dh v.1)),.c (.d (.int .i64 v.2.1)),.c (.d (.int .i64 v.2.2))]
attribute [go_sem] asD
def asC (v:aV×Int):List RV:=[.c (.own (aj 1 dh v.1)),.c (.d (.int .i64 v.2))]
attribute [go_sem] asC
end
def Oi (a0:aV):Bd Int Int:=λs1=>
 if (decide (s1<(a0.length:Int)))=true then
  if 0<=s1/\s1<(a0.length:Int) then
   aW (akk (a0.getD s1.toNat default)) λv1=>
    if v1=true then
     .out (some s1)
     else .next (IntKind.i64.wrap (s1+1))
   else .out none
  else .out (some (-1))
def ab4 (a0:aV):Option (Int):=
 aK (Oi a0) 1000000000 0
@[go_sem] def aju:=akM mY false ab4
@[go_sem] def ajW (k:Nat):=lk [(275,axK.sp)] k
theorem awN:aF prog 197 aju.sp:=by
 refine vm (tb:=ajW) (.cons f275 .nil) func197 ntmps197 λa0 r hr stop S=> ?_
 rw [sQ,ab4] at hr
 refine S.gx [] ?_
 refine gr ?_
 refine S.li [0,1,7,8] [] [] (λs1=>⟨[(0,.c (.d (aj 1 dh a0))),(1,.c (.clo 275 [])),sI 7 (a0.length:Int),sI 8 s1],[],[]⟩) (Oi a0) (λq=>q=r) hr rfl ?_
 intro s1 hr
 unfold Oi at hr
 refine S.gx [] ?_
 exact D1 (S.ss [0,1,7,8] [] []) hr
def akt (a0:aV):Option (Bool):=
 (ab4 a0).bind λv1=>
  some (decide (v1>=0))
@[go_sem] def ayK:=akM qV false akt
@[go_sem] def aqw (k:Nat):=lk [(197,aju.sp)] k
theorem f140:aF prog 140 ayK.sp:=by
 refine vm (tb:=aqw) (.cons awN .nil) func140 ntmps140 λa0 r hr stop S=> ?_
 rw [sQ,akt] at hr
 refine S.gx [] ?_
 exact D0 hr
def TS (x1 x2:Int) (x3:aA) (x4:au) (x5:aA) (x0:au) (a1:Int):Option (Int):=
 (Bh a1 0 (IntKind.i64.wrap ((x0.length:Int) - 1))).bind λv1=>
  (pJ v1 6).bind λv2=>
   some v2
@[go_sem] def amu:=agF mY false TS
@[go_sem] def apD (k:Nat):=lk [(190,RI.sp),(216,Ot.sp)] k
theorem f277:aF prog 277 amu.sp:=by
 refine vm (tb:=apD) (.cons f190 (.cons f216 .nil)) func277 ntmps277 λ⟨x1,x2,x3,x4,x5,x0,a1⟩ r hr stop S=> ?_
 rw [OJ,TS] at hr
 refine S.gx [] ?_
 exact D0 hr
def ako (x0 x2:Int) (x3:aA) (x4:au) (x5:aA) (x6:au) (x1:aV) (x7:Int):Option (Int):=
 (akt x1).bind λv1=>
  (pJ ((x1.length:Int) == x0) 10).bind λv2=>
   (pJ (!v1) 2).bind λv3=>
    (TS x0 x2 x3 x4 x5 x6 x7).bind λv4=>
     (D6 [v2,v3,v4]).bind λv5=>
      some v5
@[go_sem] def ayc:=auH mY false ako
@[go_sem] def apX (k:Nat):=lk [(140,ayK.sp),(216,Ot.sp),(217,VJ.sp),(277,amu.sp)] k
theorem f218:aF prog 218 ayc.sp:=by
 refine vm (tb:=apX) (.cons f140 (.cons f216 (.cons f217 (.cons f277 .nil)))) func218 ntmps218 λ⟨x0,x2,x3,x4,x5,x6,x1,x7⟩ r hr stop S=> ?_
 rw [uq8,ako] at hr
 refine S.gx [] ?_
 exact D0 hr
def PD (a0:List (Int)):Option (List (Int)):=if a0.length*8<=140737488355328/\a0.length<=9223372036854775807 then some a0 else none
def Ju:uJ (List (Int)) where
 enc x:=[.c (aj 1 dh x)]
 dec a:=aN kV (afg a 0 0)
 pre x:=(PD x).isSome=true
 res x:=[.c (.own (aj 1 dh ((PD x).getD default)))]
 al:=false
theorem axi (c0:D):Ju.sp.pre [.c c0]=(eqvArgs [.c c0] [.c (aj 1 dh (aN kV c0))]/\(PD (aN kV c0)).isSome=true):=(rfl)
theorem axh (c0:D):Ju.sp.res [.c c0]=[.c (.own (aj 1 dh ((PD (aN kV c0)).getD default)))]:=(rfl)
theorem axj:Ju.sp.alias=false:=(rfl)
attribute [go_sem] axi axh axj
theorem azD:Valid prog 219 Ju.sp:=by
 refine VO (fn:=Tryz.f219) (n:=8) cZ fM.nil func219 rfl ntmps219 ?_
 rintro a0 hx
 obtain ⟨r,hr⟩:=oE (show (PD a0).isSome=true from hx)
 have hres:Ju.res a0=[.c (.own (aj 1 dh r))]:=by simp only [Ju,hr,Option.getD_some]
 refine ⟨nL rfl,λstop S=> ?_⟩
 rw [hres] at S
 unfold PD at hr
 obtain ⟨hg,hr⟩:=aP hr
 cases hr
 refine S.goB [1] 1000 ?_
 simp only [go_sem,Ju,Bool.not_true,Bool.not_false,Option.map_some,Int.reduceToNat,Nat.reduceEqDiff,Nat.reduceBEq,Nat.reduceLT,Nat.reduceAdd,Nat.reduceMul,Nat.reduceSub,Nat.reduceLeDiff, ↓reduceIte,reduceCtorEq,results219]
 refine S.awP 0 3 4 44 44 3 rfl rfl rfl rfl rfl rfl rfl rfl rfl rfl (by decide) (by decide) ?_
 intro b hb
 refine S.goB [] 1000 ?_
 simp only [go_sem,Ju,Bool.not_true,Bool.not_false,Option.map_some,Int.reduceToNat,Nat.reduceEqDiff,Nat.reduceBEq,Nat.reduceLT,Nat.reduceAdd,Nat.reduceMul,Nat.reduceSub,Nat.reduceLeDiff, ↓reduceIte,reduceCtorEq,results219]
 have hb':b=true->a0.length=0:=hb
 refine ⟨?_,?_⟩<;>intro hc
 ·simpa using hb' hc
 refine ⟨by omega,by omega,?_⟩
 (simp (maxDischargeDepth:=8) [go_sem])
theorem f219:aF prog 219 Ju.sp:=⟨⟨Tryz.f219,func219,by decide,rfl⟩,azD⟩
def Bg (x1 x2:Int) (x3:aA) (x4:au) (x0:aA) (x5:au) (a1:Int):Option (Int×Int):=
 (D5 x0 a1 1).bind λv1=>
  some (v1.1,v1.2)
@[go_sem] def ah1:=agF qu7 false Bg
@[go_sem] def apH (k:Nat):=lk [(252,ah2.sp)] k
theorem f272:aF prog 272 ah1.sp:=by
 refine vm (tb:=apH) (.cons f252 .nil) func272 ntmps272 λ⟨x1,x2,x3,x4,x0,x5,a1⟩ r hr stop S=> ?_
 rw [OJ,Bg] at hr
 refine S.gx [] ?_
 exact D0 hr
def Ja (a0 a1:Int):Option (Int):=
 if a1≠0 then
  if a1≠0 then
   if (decide ((a0.tmod a1)<0))=true then
    some (IntKind.i64.wrap ((IntKind.i64.wrap (a0.tdiv a1)) - 1))
    else some (IntKind.i64.wrap (a0.tdiv a1))
   else none
  else none
@[go_sem] def ams:=qT7 mY false Ja
theorem f278:aF prog 278 ams.sp:=by
 refine vm .nil func278 ntmps278 λ⟨a0,a1⟩ r hr stop S=> ?_
 rw [DV,Ja] at hr
 refine S.gx [] ?_
 exact D0 hr
def Zd (x1 x2:Int) (x3:aA) (x4:au) (x5:aA) (x0:au) (a1 a2:Int):Option (Int):=
 if 0<=a1/\a1<(x0.length:Int) then
  (Bg x1 x2 x3 x4 x5 x0 a2).bind λv1=>
   (D5 (x0.getD a1.toNat default) v1.1 v1.2).bind λv2=>
    (Ja v2.1 v2.2).bind λv3=>
     some v3
  else none
@[go_sem] def ayb:=auG mY false Zd
@[go_sem] def apW (k:Nat):=lk [(252,ah2.sp),(272,ah1.sp),(278,ams.sp)] k
theorem f221:aF prog 221 ayb.sp:=by
 refine vm (tb:=apW) (.cons f252 (.cons f272 (.cons f278 .nil))) func221 ntmps221 λ⟨x1,x2,x3,x4,x5,x0,a1,a2⟩ r hr stop S=> ?_
 rw [uq8,Zd] at hr
 refine S.gx [] ?_
 exact D0 hr
def ags (a0 x0 x1:Int) (x2:aA) (x3:au) (x4:aA) (x5:au):Option (Bool):=
 (TV x0 x1 x2 x3 x4 x5 a0).bind λv1=>
  some (!v1)
@[go_sem] def aya:=akO qV false ags
@[go_sem] def apV (k:Nat):=lk [(223,ah3.sp)] k
theorem f222:aF prog 222 aya.sp:=by
 refine vm (tb:=apV) (.cons f223 .nil) func222 ntmps222 λ⟨a0,x0,x1,x2,x3,x4,x5⟩ r hr stop S=> ?_
 rw [OJ,ags] at hr
 refine S.gx [] ?_
 exact D0 hr
def AP (a0:aV) (x0 x1:Int) (x2:aA) (x3:au) (x4:aA) (x5:au):Bd Int Int:=λs1=>
 if (decide (s1<(a0.length:Int)))=true then
  if 0<=s1/\s1<(a0.length:Int) then
   aW (ags (a0.getD s1.toNat default) x0 x1 x2 x3 x4 x5) λv1=>
    if v1=true then
     .out (some s1)
     else .next (IntKind.i64.wrap (s1+1))
   else .out none
  else .out (some (-1))
def PE (a0:aV) (x0 x1:Int) (x2:aA) (x3:au) (x4:aA) (x5:au):Option (Int):=
 aK (AP a0 x0 x1 x2 x3 x4 x5) 1000000000 0
@[go_sem] def ajt:=akL mY false PE
@[go_sem] def ajV (k:Nat):=lk [(222,aya.sp)] k
theorem awM:aF prog 197 ajt.sp:=by
 refine vm (tb:=ajV) (.cons f222 .nil) func197 ntmps197 λ⟨a0,x0,x1,x2,x3,x4,x5⟩ r hr stop S=> ?_
 rw [OJ,PE] at hr
 refine S.gx [] ?_
 refine gr ?_
 refine S.li [0,1,7,8] [] [] (λs1=>⟨[(0,.c (.d (aj 1 dh a0))),(1,.c (.clo 222 [.dM [.int .i64 x0,.int .i64 x1,aj 2 aQ x2,aj 1 aU x3,aj 2 aQ x4,aj 1 aU x5] 0])),sI 7 (a0.length:Int),sI 8 s1],[],[]⟩) (AP a0 x0 x1 x2 x3 x4 x5) (λq=>q=r) hr rfl ?_
 intro s1 hr
 unfold AP at hr
 refine S.gx [] ?_
 exact D1 (S.ss [0,1,7,8] [] []) hr
def F8 (a0:aV) (x0 x1:Int) (x2:aA) (x3:au) (x4:aA) (x5:au):Option (Bool):=
 (PE a0 x0 x1 x2 x3 x4 x5).bind λv1=>
  some (decide (v1>=0))
@[go_sem] def ajw:=akL qV false F8
@[go_sem] def ajY (k:Nat):=lk [(197,ajt.sp)] k
theorem ajb:aF prog 140 ajw.sp:=by
 refine vm (tb:=ajY) (.cons awM .nil) func140 ntmps140 λ⟨a0,x0,x1,x2,x3,x4,x5⟩ r hr stop S=> ?_
 rw [OJ,F8] at hr
 refine S.gx [] ?_
 exact D0 hr
def zf (x1 x0:Int) (x2:aA) (x3:au) (x4:aA) (x5:au) (x6:aV) (v20:Int):Bd (Int×(List (Int))) (aV×Int×Int):=λs3=>
 if (decide (s3.1<(x6.length:Int)))=true then
  if 0<=s3.1/\s3.1<(x6.length:Int) then
   if 0<=s3.1/\s3.1<(s3.2.length:Int) then
    if 0<=s3.1/\s3.1<(s3.2.length:Int) then
     .next (IntKind.i64.wrap (s3.1+1),s3.2.set s3.1.toNat (IntKind.i64.wrap ((s3.2.getD s3.1.toNat default)+(x6.getD s3.1.toNat default))))
     else .out none
    else .out none
   else .out none
  else .out ((F8 s3.2 x1 x0 x2 x3 x4 x5).bind λv24=>
   (pJ (!v24) 22).bind λv25=>
    some (s3.2,v20,v25))
def CS (x1 x0:Int) (x2:aA) (x3:au) (x4:aA) (x5:au) (x6:aV) (x7:Int):Bd (Int×(List (Int))) (aV×Int×Int):=λs2=>
 if (decide ((IntKind.i64.wrap (s2.1+1))<(s2.2.length:Int)))=true then
  if 0<=s2.1/\s2.1<(s2.2.length:Int) then
   aW (Bg x1 x0 x2 x3 x4 x5 (s2.2.getD s2.1.toNat default)) λv11=>
    if 0<=IntKind.i64.wrap (s2.1+1)/\IntKind.i64.wrap (s2.1+1)<(s2.2.length:Int) then
     aW (Bg x1 x0 x2 x3 x4 x5 (s2.2.getD (IntKind.i64.wrap (s2.1+1)).toNat default)) λv12=>
      aW (Ja (IntKind.i64.wrap (x0*(IntKind.i64.wrap ((IntKind.i64.wrap (v11.1*v12.2)) - (IntKind.i64.wrap (v12.1*v11.2)))))) (IntKind.i64.wrap ((IntKind.i64.wrap (1000*v11.2))*v12.2))) λv13=>
       if 0<=s2.1/\s2.1<(s2.2.length:Int) then
        if 0<=IntKind.i64.wrap (s2.1+1)/\IntKind.i64.wrap (s2.1+1)<(s2.2.length:Int) then
         if 0<=s2.1/\s2.1<(s2.2.length:Int) then
          if 0<=IntKind.i64.wrap (s2.1+1)/\IntKind.i64.wrap (s2.1+1)<(s2.2.length:Int) then
           .next (IntKind.i64.wrap (s2.1+2),(s2.2.set s2.1.toNat (IntKind.i64.wrap ((s2.2.getD s2.1.toNat default) - v13))).set (IntKind.i64.wrap (s2.1+1)).toNat (IntKind.i64.wrap ((s2.2.getD (IntKind.i64.wrap (s2.1+1)).toNat default)+v13)))
           else .out none
          else .out none
         else .out none
        else .out none
     else .out none
   else .out none
  else .out (if 0<=0/\0<(s2.2.length:Int) then
   (Zd x1 x0 x2 x3 x4 x5 x7 (s2.2.getD 0 default)).bind λv20=>
    if 0<=0/\0<(s2.2.length:Int) then
     if 0<=0/\0<(s2.2.length:Int) then
      aK (zf x1 x0 x2 x3 x4 x5 x6 v20) 1000000000 (0,s2.2.set 0 (IntKind.i64.wrap ((s2.2.getD 0 default) - v20)))
      else none
     else none
   else none)
def Iy (x1 x0:Int) (x2:aA) (x3:au) (x4:aA) (x5:au) (x6:aV) (x7:Int):Bd (Int×(List (Int))) (aV×Int×Int):=λs1=>
 if (decide ((IntKind.i64.wrap (s1.1+1))<(s1.2.length:Int)))=true then
  if 0<=s1.1/\s1.1<(s1.2.length:Int) then
   aW (Bg x1 x0 x2 x3 x4 x5 (s1.2.getD s1.1.toNat default)) λv2=>
    if 0<=IntKind.i64.wrap (s1.1+1)/\IntKind.i64.wrap (s1.1+1)<(s1.2.length:Int) then
     aW (Bg x1 x0 x2 x3 x4 x5 (s1.2.getD (IntKind.i64.wrap (s1.1+1)).toNat default)) λv3=>
      aW (Ja (IntKind.i64.wrap (x0*(IntKind.i64.wrap ((IntKind.i64.wrap (v2.1*v3.2)) - (IntKind.i64.wrap (v3.1*v2.2)))))) (IntKind.i64.wrap ((IntKind.i64.wrap (1000*v2.2))*v3.2))) λv4=>
       if 0<=s1.1/\s1.1<(s1.2.length:Int) then
        if 0<=IntKind.i64.wrap (s1.1+1)/\IntKind.i64.wrap (s1.1+1)<(s1.2.length:Int) then
         if 0<=s1.1/\s1.1<(s1.2.length:Int) then
          if 0<=IntKind.i64.wrap (s1.1+1)/\IntKind.i64.wrap (s1.1+1)<(s1.2.length:Int) then
           .next (IntKind.i64.wrap (s1.1+2),(s1.2.set s1.1.toNat (IntKind.i64.wrap ((s1.2.getD s1.1.toNat default) - v4))).set (IntKind.i64.wrap (s1.1+1)).toNat (IntKind.i64.wrap ((s1.2.getD (IntKind.i64.wrap (s1.1+1)).toNat default)+v4)))
           else .out none
          else .out none
         else .out none
        else .out none
     else .out none
   else .out none
  else .out (aK (CS x1 x0 x2 x3 x4 x5 x6 x7) 1000000000 (1,s1.2))
def PI (x1 x0:Int) (x2:aA) (x3:au) (x4:aA) (x5:au) (a1 x6:aV) (x7:Int):Option (aV×Int×Int):=
 (PD a1).bind λv1=>
  aK (Iy x1 x0 x2 x3 x4 x5 x6 x7) 1000000000 (0,v1)
@[go_sem] def amI:=auF asD false PI
@[go_sem] def aio (k:Nat):=lk [(140,ajw.sp),(216,Ot.sp),(219,Ju.sp),(221,ayb.sp),(272,ah1.sp),(278,ams.sp)] k
theorem O6:fM prog aio:= .cons ajb (.cons f216 (.cons f219 (.cons f221 (.cons f272 (.cons f278 .nil)))))
theorem f165:aF prog 165 amI.sp:=by
 refine vm (tb:=aio) (.cons ajb (.cons f216 (.cons f219 (.cons f221 (.cons f272 (.cons f278 .nil)))))) func165 ntmps165 λ⟨x1,x0,x2,x3,x4,x5,a1,x6,x7⟩ r hr stop S=> ?_
 rw [RY,PI] at hr
 refine S.gx [2,3] ?_
 obtain ⟨v1,hv1,hr⟩:=aB hr
 refine gb hv1 ?_
 refine S.inl 2 [3,5,9] [] func220 (by decide) rfl ntmps220 (λcx e=>bD cZ O6 cx e) (some 18) rfl rfl rfl rfl (nL rfl) (nL rfl) ?_
 refine gs ?_
 refine gr ?_
 intro stop1 S1
 refine S1.gw [6] ?_
 refine S1.li [1,3,6] [(100003,100003),(3,3),(5,5)] [(15,15)] (λs1=>⟨[sO 1 15,sR 3 100003,sI 6 s1.1],[(100003,[iC x1,iC x0,.d (aj 2 aQ x2),.d (aj 1 aU x3),.d (aj 2 aQ x4),.d (aj 1 aU x5)]),(3,[iC x1,iC x0,.d (aj 2 aQ x2),.d (aj 1 aU x3),.d (aj 2 aQ x4),.d (aj 1 aU x5)]),(5,[.d (aj 1 dh x6),iC x7])],[(15,.owned (aj 1 dh s1.2))]⟩) (Iy x1 x0 x2 x3 x4 x5 x6 x7) (λq=>q=r) hr rfl ?_
 intro s1 hr
 unfold Iy at hr
 refine S1.gw [6] ?_
 refine gJ hr (λhc hr=> ?_) λhc hr=> ?_
 ·obtain ⟨ZK,hr⟩:=aH hr
  obtain ⟨v2,hv2,hr⟩:=bf hr
  obtain ⟨Jj,hr⟩:=aH hr
  obtain ⟨v3,hv3,hr⟩:=bf hr
  obtain ⟨v4,hv4,hr⟩:=bf hr
  refine gb hv2 ?_
  refine gb hv3 ?_
  refine gb hv4 ?_
  refine S1.prune [1,3,6,9] ?_
  refine S1.gx [] ?_
  exact D1 (S1.ss [1,3,6] [(100003,100003),(3,3),(5,5)] [(15,15)]) hr
 refine gr ?_
 have hr:=bT hr
 refine S.gw [2,3] ?_
 refine S.inl 2 [3,5,9] [] func220 (by decide) rfl ntmps220 (λcx e=>bD cZ O6 cx e) (some 21) rfl rfl rfl rfl (nL rfl) (nL rfl) ?_
 refine gs ?_
 refine gr ?_
 intro stop1 S1
 refine S1.gw [6] ?_
 refine S1.li [1,3,6] [(200003,200003),(3,3),(5,5)] [(15,15)] (λs2=>⟨[sO 1 15,sR 3 200003,sI 6 s2.1],[(200003,[iC x1,iC x0,.d (aj 2 aQ x2),.d (aj 1 aU x3),.d (aj 2 aQ x4),.d (aj 1 aU x5)]),(3,[iC x1,iC x0,.d (aj 2 aQ x2),.d (aj 1 aU x3),.d (aj 2 aQ x4),.d (aj 1 aU x5)]),(5,[.d (aj 1 dh x6),iC x7])],[(15,.owned (aj 1 dh s2.2))]⟩) (CS x1 x0 x2 x3 x4 x5 x6 x7) (λq=>q=r) hr rfl ?_
 intro s2 hr
 unfold CS at hr
 refine S1.gw [6] ?_
 refine gJ hr (λhc hr=> ?_) λhc hr=> ?_
 ·obtain ⟨aI0,hr⟩:=aH hr
  obtain ⟨v11,UE,hr⟩:=bf hr
  obtain ⟨awz,hr⟩:=aH hr
  obtain ⟨v12,adw,hr⟩:=bf hr
  obtain ⟨v13,GV,hr⟩:=bf hr
  refine gb UE ?_
  refine gb adw ?_
  refine gb GV ?_
  refine S1.prune [1,3,6,9] ?_
  refine S1.gx [] ?_
  exact D1 (S1.ss [1,3,6] [(200003,200003),(3,3),(5,5)] [(15,15)]) hr
 refine gr ?_
 have hr:=bT hr
 refine S.gx [2,3] ?_
 obtain ⟨awv,hr⟩:=aP hr
 obtain ⟨v20,UA,hr⟩:=aB hr
 obtain ⟨alX,hr⟩:=aP hr
 obtain ⟨aDM,hr⟩:=aP hr
 refine gb UA ?_
 refine S.li [3,9,10,36,37,38] [(3,3)] [(15,15)] (λs3=>⟨[sR 3 3,sO 9 15,sI 10 v20,(36,.c (.d (aj 1 dh x6))),sI 37 (x6.length:Int),sI 38 s3.1],[(3,[iC x1,iC x0,.d (aj 2 aQ x2),.d (aj 1 aU x3),.d (aj 2 aQ x4),.d (aj 1 aU x5)])],[(15,.owned (aj 1 dh s3.2))]⟩) (zf x1 x0 x2 x3 x4 x5 x6 v20) (λq=>q=r) hr rfl ?_
 intro s3 hr
 unfold zf at hr
 refine S.gx [2,3] ?_
 exact D1 (S.ss [3,9,10,36,37,38] [(3,3)] [(15,15)]) hr
def ab7 (x2 x3:Int) (x4:aA) (x5:au) (a1 x0:aV) (x1:Int):Option (aV×Int):=
 (aks x2 x3 x4 x5 a1).bind λv1=>
  if (v1.2.2.2.2.2.2 == 0)=true then
   (ako v1.1 v1.2.1 v1.2.2.1 v1.2.2.2.1 v1.2.2.2.2.1 v1.2.2.2.2.2.1 x0 x1).bind λv2=>
    if (v2 != 0)=true then
     some ([],v2)
     else (PI v1.1 v1.2.1 v1.2.2.1 v1.2.2.2.1 v1.2.2.2.2.1 v1.2.2.2.2.2.1 a1 x0 x1).bind λv3=>
      if (v3.2.2 != 0)=true then
       some ([],v3.2.2)
       else some (v3.1,0)
   else if (v1.2.2.2.2.2.2 != 0)=true then
    some ([],v1.2.2.2.2.2.2)
    else (PI v1.1 v1.2.1 v1.2.2.1 v1.2.2.2.1 v1.2.2.2.2.1 v1.2.2.2.2.2.1 a1 x0 x1).bind λv4=>
     if (v4.2.2 != 0)=true then
      some ([],v4.2.2)
      else some (v4.1,0)
@[go_sem] def amG:=auE asC false ab7
@[go_sem] def aqf (k:Nat):=lk [(163,ayx.sp),(165,amI.sp),(218,ayc.sp)] k
theorem f174:aF prog 174 amG.sp:=by
 refine vm (tb:=aqf) (.cons f163 (.cons f165 (.cons f218 .nil))) func174 ntmps174 λ⟨x2,x3,x4,x5,a1,x0,x1⟩ r hr stop S=> ?_
 rw [OJ,ab7] at hr
 refine S.gx [7] ?_
 obtain ⟨v1,hv1,hr⟩:=aB hr
 refine gb hv1 ?_
 refine iW hr (λhc hr=> ?_) λhc hr=> ?_
 ·obtain ⟨v2,hv2,hr⟩:=aB hr
  refine gb hv2 ?_
  refine iW hr (λhc hr=>D0 hr) λhc hr=> ?_
  obtain ⟨v3,hv3,hr⟩:=aB hr
  refine gb hv3 ?_
  refine S.prune [9,10] ?_
  refine S.gx [] ?_
  exact D0 hr
 refine gr ?_
 refine iW hr (λhc hr=>D0 hr) λhc hr=> ?_
 obtain ⟨v4,hv4,hr⟩:=aB hr
 refine gb hv4 ?_
 refine S.prune [9,10] ?_
 refine S.gx [] ?_
 exact D0 hr
def ae5 (v1:Int×Int×aA×au×aV×aV×aA×Int×Int×Int) (v2:dB×Int) (s2:Int×aV×(List (Int×Int))):Bd (Int×aV×(List (Int×Int))) (eY (Int×aV×(List (Int×Int))) (aA×Int)):=λs3=>
 if (((v2.1.getD s2.1.toNat default).1) == 3)=true then
  .out none
  else if (((v2.1.getD s2.1.toNat default).1) == 4)=true then
   .out none
   else aW (xu ((!(decide (s3.1<((v2.1.getD s2.1.toNat default).2.2.2.1)))) || (decide (s3.1<((v2.1.getD s2.1.toNat default).2.2.2.1)))) 24) λv9=>
    if ((v9 != 0) || (!(decide (s3.1<((v2.1.getD s2.1.toNat default).2.2.2.1)))))=true then
     .out (some (if (v9 != 0)=true then
      .out (some ([],v9))
      else .next (IntKind.i64.wrap (s2.1+1),s3.2.1,s3.2.2)))
     else if ((s3.2.2.length:Int) == 200)=true then
      .out (some (.out (some ([],8))))
      else aW (MN v1.1 v1.2.1 v1.2.2.1 v1.2.2.2.1 v1.2.2.2.2.1 v1.2.2.2.2.2.1 v1.2.2.2.2.2.2.1 v1.2.2.2.2.2.2.2.1 v1.2.2.2.2.2.2.2.2.1 ((v2.1.getD s2.1.toNat default).2.1) ((v2.1.getD s2.1.toNat default).2.2.1) 238) λv10=>
       aW (ab7 v1.1 v1.2.1 v1.2.2.1 v1.2.2.2.1 s3.2.1 v10.1 v10.2) λv11=>
        if (v11.2 != 0)=true then
         if (v11.2 != 0)=true then
          .out (some (if (v11.2 != 0)=true then
           .out (some ([],v11.2))
           else .next (IntKind.i64.wrap (s2.1+1),s3.2.1,s3.2.2)))
          else .next (IntKind.i64.wrap (s3.1+1),s3.2.1,s3.2.2)
         else if (s3.2.2.length+1)*16<=140737488355328/\s3.2.2.length+1<=9223372036854775807 then
          .next (IntKind.i64.wrap (s3.1+1),v11.1,s3.2.2++[((v2.1.getD s2.1.toNat default).2.1,(v2.1.getD s2.1.toNat default).2.2.1)])
          else .out none
def ae4 (v1:Int×Int×aA×au×aV×aV×aA×Int×Int×Int) (v2:dB×Int) (s2:Int×aV×(List (Int×Int))):Bd (Int×aV×(List (Int×Int))) (eY (Int×aV×(List (Int×Int))) (aA×Int)):=λs4=>
 if (((v2.1.getD s2.1.toNat default).1) == 3)=true then
  .out none
  else if (((v2.1.getD s2.1.toNat default).1) == 4)=true then
   .out none
   else aW (xu ((!(decide (s4.1<((v2.1.getD s2.1.toNat default).2.2.2.1)))) || (decide (s4.1<((v2.1.getD s2.1.toNat default).2.2.2.1)))) 24) λv13=>
    if ((v13 != 0) || (!(decide (s4.1<((v2.1.getD s2.1.toNat default).2.2.2.1)))))=true then
     .out (some (if (v13 != 0)=true then
      .out (some ([],v13))
      else .next (IntKind.i64.wrap (s2.1+1),s4.2.1,s4.2.2)))
     else if ((s4.2.2.length:Int) == 200)=true then
      .out (some (.out (some ([],8))))
      else aW (MN v1.1 v1.2.1 v1.2.2.1 v1.2.2.2.1 v1.2.2.2.2.1 v1.2.2.2.2.2.1 v1.2.2.2.2.2.2.1 v1.2.2.2.2.2.2.2.1 v1.2.2.2.2.2.2.2.2.1 ((v2.1.getD s2.1.toNat default).2.1) v1.2.2.2.2.2.2.2.1 238) λv14=>
       aW (ab7 v1.1 v1.2.1 v1.2.2.1 v1.2.2.2.1 s4.2.1 v14.1 v14.2) λv15=>
        if (v15.2 != 0)=true then
         if (v15.2 != 0)=true then
          .out (some (if (v15.2 != 0)=true then
           .out (some ([],v15.2))
           else .next (IntKind.i64.wrap (s2.1+1),s4.2.1,s4.2.2)))
          else .next (IntKind.i64.wrap (s4.1+1),s4.2.1,s4.2.2)
         else if (s4.2.2.length+1)*16<=140737488355328/\s4.2.2.length+1<=9223372036854775807 then
          .next (IntKind.i64.wrap (s4.1+1),v15.1,s4.2.2++[((v2.1.getD s2.1.toNat default).2.1,v1.2.2.2.2.2.2.2.1)])
          else .out none
def ae6 (v1:Int×Int×aA×au×aV×aV×aA×Int×Int×Int) (v2:dB×Int):Bd (Int×aV×(List (Int×Int))) (aA×Int):=λs2=>
 if (decide (s2.1<(v2.1.length:Int)))=true then
  if 0<=s2.1/\s2.1<(v2.1.length:Int) then
   aW (r68 ((v2.1.getD s2.1.toNat default).1)) λv8=>
    if v8=true then
     (aK (ae5 v1 v2 s2) 1000000000 (0,s2.2.1,s2.2.2)).getD (.out none)
     else (aK (ae4 v1 v2 s2) 1000000000 (0,s2.2.1,s2.2.2)).getD (.out none)
   else .out none
  else .out (some (s2.2.2,0))
def ae7 (v1:Int×Int×aA×au×aV×aV×aA×Int×Int×Int) (v2:dB×Int):Bd (Int×Int) (aA×Int):=λs1=>
 if (decide (s1.2<(v2.1.length:Int)))=true then
  if 0<=s1.2/\s1.2<(v2.1.length:Int) then
   aW (Uc v1.1 v1.2.1 v1.2.2.1 v1.2.2.2.1 v1.2.2.2.2.1 v1.2.2.2.2.2.1 v1.2.2.2.2.2.2.1 v1.2.2.2.2.2.2.2.1 v1.2.2.2.2.2.2.2.2.1) λv3=>
    aW (IL ((v2.1.getD s1.2.toNat default).2.2.1) 0 v3) λv4=>
     aW (xu v4 6) λv5=>
      aW (r64 [s1.1,v5]) λv6=>
       .next (v6,IntKind.i64.wrap (s1.2+1))
   else .out none
  else .out (if (s1.1 != 0)=true then
   some ([],s1.1)
   else aK (ae6 v1 v2) 1000000000 (0,v1.2.2.2.2.1,[]))
def r57 (x0 x1:Int) (x2:aA) (x3:au) (x4 x5:aV) (x6:aA) (x7 x8:Int) (a1:dB):Option (aA×Int):=
 (akw x0 x1 x2 x3 x4 x5 x6 x7 x8).bind λv1=>
  if (v1.2.2.2.2.2.2.2.2.2 != 0)=true then
   some ([],v1.2.2.2.2.2.2.2.2.2)
   else (akv a1).bind λv2=>
    aK (ae7 v1 v2) 1000000000 (v2.2,0)
@[go_sem] def T57:=auD agB false r57
@[go_sem] def apn (k:Nat):=lk [(64,T64.sp),(65,T65.sp),(68,T68.sp),(71,T71.sp),(116,ayT.sp),(117,ayS.sp),(118,ah6.sp),(160,ah5.sp),(174,amG.sp)] k
theorem wF:fM prog apn:= .cons f64 (.cons f65 (.cons f68 (.cons f71 (.cons f116 (.cons f117 (.cons f118 (.cons f160 (.cons f174 .nil))))))))
theorem f57:aF prog 57 T57.sp:=by
 refine vm (tb:=apn) (.cons f64 (.cons f65 (.cons f68 (.cons f71 (.cons f116 (.cons f117 (.cons f118 (.cons f160 (.cons f174 .nil))))))))) func57 ntmps57 λ⟨x0,x1,x2,x3,x4,x5,x6,x7,x8,a1⟩ r hr stop S=> ?_
 rw [Sz,r57] at hr
 refine S.gx [12,16] ?_
 obtain ⟨v1,hv1,hr⟩:=aB hr
 refine gb hv1 ?_
 refine iW hr (λhc hr=>D0 hr) λhc hr=> ?_
 obtain ⟨v2,hv2,hr⟩:=aB hr
 refine gb hv2 ?_
 refine S.li [6,7,8,28,29,30] [(6,6)] [(25,25)] (λs1=>⟨[sR 6 6,sI 7 s1.1,sO 8 25,sO 28 25,sI 29 (v2.1.length:Int),sI 30 s1.2],[(6,[iC v1.1,iC v1.2.1,.d (aj 2 aQ v1.2.2.1),.d (aj 1 aU v1.2.2.2.1),.d (aj 1 dh v1.2.2.2.2.1),.d (aj 1 dh v1.2.2.2.2.2.1),.d (aj 2 aQ v1.2.2.2.2.2.2.1),iC v1.2.2.2.2.2.2.2.1,iC v1.2.2.2.2.2.2.2.2.1])],[(25,.owned (aj 6 dO v2.1))]⟩) (ae7 v1 v2) (λq=>q=r) hr rfl ?_
 intro s1 hr
 unfold ae7 at hr
 refine S.gw [12,16] ?_
 refine gJ hr (λhc hr=>D1 (S.ss [6,7,8,28,29,30] [(6,6)] [(25,25)]) hr) λhc hr=> ?_
 refine gr ?_
 have hr:=bT hr
 refine gr ?_
 refine iW hr (λhc hr=>D0 hr) λhc hr=> ?_
 refine gr ?_
 refine S.inl 1 [8] [] func119 (by decide) rfl ntmps119 (λcx e=>bD cZ wF cx e) (some 48) rfl rfl rfl rfl (nL rfl) (nL rfl) ?_
 refine gs ?_
 refine gr ?_
 intro stop1 S1
 refine S1.gw [] ?_
 refine S.gw [12,16] ?_
 refine S.uI 9 10 2000910 2 rfl rfl (nL rfl) rfl ?_
 refine S.li [11,49,50,51] [(9,9)] [(2000910,2000910),(25,25)] (λs2=>⟨[sR 11 9,sO 49 25,sI 50 (v2.1.length:Int),sI 51 s2.1],[(9,[iC v1.1,iC v1.2.1,.d (aj 2 aQ v1.2.2.1),.d (aj 1 aU v1.2.2.2.1),.d (aj 1 dh v1.2.2.2.2.1),.d (aj 1 dh v1.2.2.2.2.2.1),.d (aj 2 aQ v1.2.2.2.2.2.2.1),iC v1.2.2.2.2.2.2.2.1,iC v1.2.2.2.2.2.2.2.2.1,.d (aj 1 dh s2.2.1),.own 2000910])],[(2000910,.owned (aj 2 aQ s2.2.2)),(25,.owned (aj 6 dO v2.1))]⟩) (ae6 v1 v2) (λq=>q=r) hr rfl ?_
 intro s2 hr
 unfold ae6 at hr
 refine S.gw [12,16] ?_
 refine gJ hr (λhc hr=> ?_) λhc hr=>D0 hr
 obtain ⟨aDN,hr⟩:=aH hr
 refine gr ?_
 refine S.inl 2 [11,49,50,51] [] func120 (by decide) rfl ntmps120 (λcx e=>bD cZ wF cx e) (some 57) rfl rfl rfl rfl (nL rfl) (nL rfl) ?_
 refine gs ?_
 refine gr ?_
 intro stop1 S1
 refine S1.gx [6,9] ?_
 obtain ⟨v8,hv8,hr⟩:=bf hr
 refine gb hv8 ?_
 refine gJ hr (λhc hr=> ?_) λhc hr=> ?_
 ·refine gr ?_
  obtain ⟨q3,hq,hr⟩:=zW hr
  refine S1.li [0,3,5,6] [(9,9),(3,3),(5,5)] [(25,25),(2000910,2000910)] (λs3=>⟨[sR 0 9,sR 3 3,sR 5 5,sI 6 s3.1],[(9,[iC v1.1,iC v1.2.1,.d (aj 2 aQ v1.2.2.1),.d (aj 1 aU v1.2.2.2.1),.d (aj 1 dh v1.2.2.2.2.1),.d (aj 1 dh v1.2.2.2.2.2.1),.d (aj 2 aQ v1.2.2.2.2.2.2.1),iC v1.2.2.2.2.2.2.2.1,iC v1.2.2.2.2.2.2.2.2.1,.d (aj 1 dh s3.2.1),.own 2000910]),(3,[iC ((v2.1.getD s2.1.toNat default).1),iC ((v2.1.getD s2.1.toNat default).2.1),iC ((v2.1.getD s2.1.toNat default).2.2.1),iC ((v2.1.getD s2.1.toNat default).2.2.2.1),iC ((v2.1.getD s2.1.toNat default).2.2.2.2.1),.d (hE ((v2.1.getD s2.1.toNat default).2.2.2.2.2))]),(5,[iC ((v2.1.getD s2.1.toNat default).2.1),iC ((v2.1.getD s2.1.toNat default).2.2.1)])],[(25,.owned (aj 6 dO v2.1)),(2000910,.owned (aj 2 aQ s3.2.2))]⟩) (ae5 v1 v2 s2) _ hq hr ?_
  intro s3 hr
  have z1:=S.ss [11,49,50,51] [(9,9)] [(2000910,2000910),(25,25)]
  unfold ae5 at hr
  refine S1.gw [6,9] ?_
  refine S1.inl 3 [0,3,5,6] [] func179 (by decide) rfl ntmps179 (λcx e=>bD cZ wF cx e) (some 31) rfl rfl rfl rfl (nL rfl) (nL rfl) ?_
  refine gs ?_
  refine gr ?_
  intro stop2 S2
  refine S2.gw [] ?_
  refine gJ hr (λhc hr=> ?_) λhc hr=> ?_
  ·first | cases hr | exact hr.elim
  refine gr ?_
  refine gJ hr (λhc hr=> ?_) λhc hr=> ?_
  ·first | cases hr | exact hr.elim
  obtain ⟨v9,hv9,hr⟩:=bf hr
  try simp only [hv9,oG,oI,true_and,and_assoc]
  repeat (first | refine gA ?_ | refine gB ?_)
  refine S1.gx [6,9] ?_
  repeat (first | refine gA ?_ | refine gB ?_)
  refine gJ hr (λhc hr=> ?_) λhc hr=> ?_
  ·refine gr ?_
   replace hr:=lW hr
   refine S.gx [12,16] ?_
   exact D1 z1 hr
  refine gr ?_
  refine S1.inl 2 [0,3,5,6] [] func180 (by decide) rfl ntmps180 (λcx e=>bD cZ wF cx e) (some 43) rfl rfl rfl rfl (nL rfl) (nL rfl) ?_
  refine gs ?_
  refine gr ?_
  intro stop2 S2
  refine S2.gw [4] ?_
  refine gJ hr (λhc hr=> ?_) λhc hr=> ?_
  ·refine S1.gw [6,9] ?_
   replace hr:=lW hr
   refine S.gx [12,16] ?_
   exact D0 hr
  obtain ⟨v10,yI,hr⟩:=bf hr
  obtain ⟨v11,UE,hr⟩:=bf hr
  refine gb yI ?_
  refine gb UE ?_
  refine S2.prune [0,4,7,8] ?_
  refine S2.gw [] ?_
  refine gJ hr (λhc hr=> ?_) λhc hr=> ?_
  ·refine S1.gw [6,9] ?_
   refine gJ hr (λhc hr=> ?_) λhc hr=>D1 (S1.ss [0,3,5,6] [(9,9),(3,3),(5,5)] [(25,25),(2000910,2000910)]) hr
   refine gr ?_
   replace hr:=lW hr
   refine S.gx [12,16] ?_
   exact D1 z1 hr
  obtain ⟨Ji,hr⟩:=aH hr
  refine S1.gw [6,9] ?_
  refine S1.share 33 rfl ?_
  exact D1 (S1.ss [0,3,5,6] [(9,9),(3,3),(5,5)] [(25,25),(48,2000910)]) hr
 refine gr ?_
 obtain ⟨q4,hq,hr⟩:=zW hr
 refine S1.li [0,3,5,6] [(9,9),(3,3),(5,5)] [(25,25),(2000910,2000910)] (λs4=>⟨[sR 0 9,sR 3 3,sR 5 5,sI 6 s4.1],[(9,[iC v1.1,iC v1.2.1,.d (aj 2 aQ v1.2.2.1),.d (aj 1 aU v1.2.2.2.1),.d (aj 1 dh v1.2.2.2.2.1),.d (aj 1 dh v1.2.2.2.2.2.1),.d (aj 2 aQ v1.2.2.2.2.2.2.1),iC v1.2.2.2.2.2.2.2.1,iC v1.2.2.2.2.2.2.2.2.1,.d (aj 1 dh s4.2.1),.own 2000910]),(3,[iC ((v2.1.getD s2.1.toNat default).1),iC ((v2.1.getD s2.1.toNat default).2.1),iC ((v2.1.getD s2.1.toNat default).2.2.1),iC ((v2.1.getD s2.1.toNat default).2.2.2.1),iC ((v2.1.getD s2.1.toNat default).2.2.2.2.1),.d (hE ((v2.1.getD s2.1.toNat default).2.2.2.2.2))]),(5,[iC ((v2.1.getD s2.1.toNat default).2.1),iC v1.2.2.2.2.2.2.2.1])],[(25,.owned (aj 6 dO v2.1)),(2000910,.owned (aj 2 aQ s4.2.2))]⟩) (ae4 v1 v2 s2) _ hq hr ?_
 intro s4 hr
 have z2:=S.ss [11,49,50,51] [(9,9)] [(2000910,2000910),(25,25)]
 unfold ae4 at hr
 refine S1.gw [6,9] ?_
 refine S1.inl 3 [0,3,5,6] [] func179 (by decide) rfl ntmps179 (λcx e=>bD cZ wF cx e) (some 31) rfl rfl rfl rfl (nL rfl) (nL rfl) ?_
 refine gs ?_
 refine gr ?_
 intro stop2 S2
 refine S2.gw [] ?_
 refine gJ hr (λhc hr=> ?_) λhc hr=> ?_
 ·first | cases hr | exact hr.elim
 refine gr ?_
 refine gJ hr (λhc hr=> ?_) λhc hr=> ?_
 ·first | cases hr | exact hr.elim
 obtain ⟨v13,GV,hr⟩:=bf hr
 try simp only [GV,oG,oI,true_and,and_assoc]
 repeat (first | refine gA ?_ | refine gB ?_)
 refine S1.gx [6,9] ?_
 repeat (first | refine gA ?_ | refine gB ?_)
 refine gJ hr (λhc hr=> ?_) λhc hr=> ?_
 ·refine gr ?_
  replace hr:=lW hr
  refine S.gx [12,16] ?_
  exact D1 z2 hr
 refine gr ?_
 refine S1.inl 2 [0,3,5,6] [] func180 (by decide) rfl ntmps180 (λcx e=>bD cZ wF cx e) (some 43) rfl rfl rfl rfl (nL rfl) (nL rfl) ?_
 refine gs ?_
 refine gr ?_
 intro stop2 S2
 refine S2.gw [4] ?_
 refine gJ hr (λhc hr=> ?_) λhc hr=> ?_
 ·refine S1.gw [6,9] ?_
  replace hr:=lW hr
  refine S.gx [12,16] ?_
  exact D0 hr
 obtain ⟨v14,UD,hr⟩:=bf hr
 obtain ⟨v15,adv,hr⟩:=bf hr
 refine gb UD ?_
 refine gb adv ?_
 refine S2.prune [0,4,7,8] ?_
 refine S2.gw [] ?_
 refine gJ hr (λhc hr=> ?_) λhc hr=> ?_
 ·refine S1.gw [6,9] ?_
  refine gJ hr (λhc hr=> ?_) λhc hr=>D1 (S1.ss [0,3,5,6] [(9,9),(3,3),(5,5)] [(25,25),(2000910,2000910)]) hr
  refine gr ?_
  replace hr:=lW hr
  refine S.gx [12,16] ?_
  exact D1 z2 hr
 obtain ⟨aDO,hr⟩:=aH hr
 refine S1.gw [6,9] ?_
 refine S1.share 33 rfl ?_
 exact D1 (S1.ss [0,3,5,6] [(9,9),(3,3),(5,5)] [(25,25),(48,2000910)]) hr
def aku:Option (aT×aG×aJ×aA×Int×Int×Int×Int):=
 some ([(650,1000000,1000000,1)],[],[(500,1000000,1000000)],[],200,250,400,800)
@[go_sem] def ayR:=qT0 akC false aku
theorem f121:aF prog 121 ayR.sp:=by
 refine vm .nil func121 ntmps121 λ_ r hr stop S=> ?_
 rw [uq0,aku] at hr
 refine S.gx [] ?_
 exact D0 hr
def r60:Option (Int×Int×aA×au×aV×aV×aA×Int×Int×aT×aG×aJ×aA×Int×Int×Int×Int×aJ×Int):=
 (r58).bind λv1=>
  (aku).bind λv2=>
   some (v1.1,v1.2.1,v1.2.2.1,v1.2.2.2.1,v1.2.2.2.2.1,v1.2.2.2.2.2.1,v1.2.2.2.2.2.2.1,v1.2.2.2.2.2.2.2.1,v1.2.2.2.2.2.2.2.2,v2.1,v2.2.1,v2.2.2.1,v2.2.2.2.1,v2.2.2.2.2.1,v2.2.2.2.2.2.1,v2.2.2.2.2.2.2.1,v2.2.2.2.2.2.2.2,[(0,700,850),(2,150,250)],700)
@[go_sem] def T60:=qT0 akB true r60
@[go_sem] def aB5 (k:Nat):=lk [(58,T58.sp),(121,ayR.sp)] k
theorem f60:aF prog 60 T60.sp:=by
 refine vm (tb:=aB5) (.cons f58 (.cons f121 .nil)) func60 ntmps60 λ_ r hr stop S=> ?_
 rw [uq0,r60] at hr
 refine S.gx [] ?_
 exact D0 hr
end Go.Proofs.YtnepigpnlnmlmaaGreatDoor

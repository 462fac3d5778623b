/- Contracts of functions, written by wip/dec. -/
import Derived.Test.YtofkgmldcjagmaaGreatDoorF00
import Derived.Test.YtofkgmldcjagmaaGreatDoorF01
import Derived.Test.YtofkgmldcjagmaaGreatDoorF02
import Derived.Test.YtofkgmldcjagmaaGreatDoorF03
set_option linter.unusedVariables false
set_option linter.unusedSimpArgs false
set_option linter.constructorNameAsVariable false
set_option maxHeartbeats 4000000
set_option maxRecDepth 20000
namespace Go.Proofs.YtofkgmldcjagmaaGreatDoor
open Go.dG
section
variable {β:Type} [Inhabited β] (u:β→List RV) (al:Bool)
def ao5 (a0 a1:Int) (a2:au) (a3:aj) (a4 a5:aZ) (a6:au) (a7 a8 a9 a10:Int) (a11:Nat):List Arg:=[.agg [.int .i64 a0,.int .i64 a1,ah 2 aO a2,ah 1 aN a3,ah 1 cO a4,ah 1 cO a5,ah 2 aO a6,.int .i64 a7,.int .i64 a8],.agg [.int .i64 a9,.int .i64 a10],.clo a11 []]
def aqL:List Arg→Int×Int×au×aj×aZ×aZ×au×Int×Int×Int×Int×Nat
 | [.agg [c0,c1,c2,c3,c4,c5,c6,c7,c8],.agg [c9,c10],.clo c11 []]=>(aB c0,aB c1,aG bW c2,aG bP c3,aG jQ c4,aG jQ c5,aG bW c6,aB c7,aB c8,aB c9,aB c10,c11)
 | _=>default
def arP (r:Int→Int→au→aj→aZ→aZ→au→Int→Int→Int→Int→Nat→Option β):=mkT (u12 ao5) aqL (u12 r) u al
attribute [go_sem] ao5 aqL arP
def ao3 (a0:aZ):List Arg:=[.c (ah 1 cO a0),.clo 149 []]
def aqJ:List Arg→aZ
 | [.c c0,.clo _ []]=>aG jQ c0
 | _=>default
def aii (r:aZ→Option β):=mkT (u1 ao3) aqJ (u1 r) u al
attribute [go_sem] ao3 aqJ aii
def ao2 (a0 a1:Int) (a2:au) (a3:aj) (a4:au) (a5:aj) (a6:aZ) (a7:Int):List Arg:=[.agg [.int .i64 a0,.int .i64 a1,ah 2 aO a2,ah 1 aN a3,ah 2 aO a4,ah 1 aN a5],.agg [ah 1 cO a6,.int .i64 a7]]
def aqI:List Arg→Int×Int×au×aj×au×aj×aZ×Int
 | [.agg [c0,c1,c2,c3,c4,c5],.agg [c6,c7]]=>(aB c0,aB c1,aG bW c2,aG bP c3,aG bW c4,aG bP c5,aG jQ c6,aB c7)
 | _=>default
def arO (r:Int→Int→au→aj→au→aj→aZ→Int→Option β):=mkT (u8 ao2) aqI (u8 r) u al
attribute [go_sem] ao2 aqI arO
def ao1 (a0 a1:Int) (a2:au) (a3:aj) (a4:au) (a5:aj) (a6 a7:Int):List Arg:=[.agg [.int .i64 a0,.int .i64 a1,ah 2 aO a2,ah 1 aN a3,ah 2 aO a4,ah 1 aN a5],.c (.int .i64 a6),.c (.int .i64 a7)]
def aqH:List Arg→Int×Int×au×aj×au×aj×Int×Int
 | [.agg [c0,c1,c2,c3,c4,c5],.c c6,.c c7]=>(aB c0,aB c1,aG bW c2,aG bP c3,aG bW c4,aG bP c5,aB c6,aB c7)
 | _=>default
def arN (r:Int→Int→au→aj→au→aj→Int→Int→Option β):=mkT (u8 ao1) aqH (u8 r) u al
attribute [go_sem] ao1 aqH arN
def ao0 (a0:aZ) (a1 a2:Int) (a3:au) (a4:aj) (a5:au) (a6:aj):List Arg:=[.c (ah 1 cO a0),.clo 155 [[.int .i64 a1,.int .i64 a2,ah 2 aO a3,ah 1 aN a4,ah 2 aO a5,ah 1 aN a6]]]
def aqG:List Arg→aZ×Int×Int×au×aj×au×aj
 | [.c c0,.clo _ [[c1,c2,c3,c4,c5,c6]]]=>(aG jQ c0,aB c1,aB c2,aG bW c3,aG bP c4,aG bW c5,aG bP c6)
 | _=>default
def aif (r:aZ→Int→Int→au→aj→au→aj→Option β):=mkT (u7 ao0) aqG (u7 r) u al
attribute [go_sem] ao0 aqG aif
def aoZ (a0 a1:Int) (a2:au) (a3:aj) (a4:au) (a5:aj) (a6 a7:aZ) (a8:Int):List Arg:=[.agg [.int .i64 a0,.int .i64 a1,ah 2 aO a2,ah 1 aN a3,ah 2 aO a4,ah 1 aN a5],.c (ah 1 cO a6),.agg [ah 1 cO a7,.int .i64 a8]]
def aqF:List Arg→Int×Int×au×aj×au×aj×aZ×aZ×Int
 | [.agg [c0,c1,c2,c3,c4,c5],.c c6,.agg [c7,c8]]=>(aB c0,aB c1,aG bW c2,aG bP c3,aG bW c4,aG bP c5,aG jQ c6,aG jQ c7,aB c8)
 | _=>default
def arM (r:Int→Int→au→aj→au→aj→aZ→aZ→Int→Option β):=mkT (u9 aoZ) aqF (u9 r) u al
attribute [go_sem] aoZ aqF arM
def aoY (a0 a1:Int) (a2:au) (a3:aj) (a4 a5:aZ) (a6:Int):List Arg:=[.agg [.int .i64 a0,.int .i64 a1,ah 2 aO a2,ah 1 aN a3],.c (ah 1 cO a4),.agg [ah 1 cO a5,.int .i64 a6]]
def aqE:List Arg→Int×Int×au×aj×aZ×aZ×Int
 | [.agg [c0,c1,c2,c3],.c c4,.agg [c5,c6]]=>(aB c0,aB c1,aG bW c2,aG bP c3,aG jQ c4,aG jQ c5,aB c6)
 | _=>default
def arL (r:Int→Int→au→aj→aZ→aZ→Int→Option β):=mkT (u7 aoY) aqE (u7 r) u al
attribute [go_sem] aoY aqE arL
def apL (v:aZ×Int):List RV:=[.agg [.own (ah 1 cO v.1),.d (.int .i64 v.2)]]
attribute [go_sem] apL
def apK (v:aZ×Int×Int):List RV:=[.c (.own (ah 1 cO v.1)),.c (.d (.int .i64 v.2.1)),.c (.d (.int .i64 v.2.2))]
attribute [go_sem] apK
def apJ (v:aZ×Int):List RV:=[.c (.own (ah 1 cO v.1)),.c (.d (.int .i64 v.2))]
attribute [go_sem] apJ
end
def uZ (x0:au) (x1 x2:Int) (a2:Nat):Bd (Int×(List (Int))) (aZ×Int):=fun s1=>
 if (decide (s1.1<(x0.length:Int)))=true then
  if 0≤s1.1∧s1.1<(x0.length:Int) then
   if a2=89 then
    aP (r89 ((x0.getD s1.1.toNat default).1) ((x0.getD s1.1.toNat default).2)) fun v8=>
     if (s1.2.length+1)*8≤140737488355328∧s1.2.length+1≤9223372036854775807 then
      .next (IntKind.i64.wrap (s1.1+1),s1.2++[IntKind.i64.wrap ((IntKind.i64.wrap (x1*v8)).tdiv 1000)])
      else .out none
    else if a2=75 then
     aP (r75 ((x0.getD s1.1.toNat default).1) ((x0.getD s1.1.toNat default).2)) fun v5=>
      if (s1.2.length+1)*8≤140737488355328∧s1.2.length+1≤9223372036854775807 then
       .next (IntKind.i64.wrap (s1.1+1),s1.2++[IntKind.i64.wrap ((IntKind.i64.wrap (x1*v5)).tdiv 1000)])
       else .out none
     else if a2=88 then
      aP (r88 ((x0.getD s1.1.toNat default).1) ((x0.getD s1.1.toNat default).2)) fun v2=>
       if (s1.2.length+1)*8≤140737488355328∧s1.2.length+1≤9223372036854775807 then
        .next (IntKind.i64.wrap (s1.1+1),s1.2++[IntKind.i64.wrap ((IntKind.i64.wrap (x1*v2)).tdiv 1000)])
        else .out none
      else .out none
   else .out none
  else .out (some (s1.2,x2))
def JO (x3 x4:Int) (x5:au) (x6:aj) (x7 x8:aZ) (x0:au) (x9 x10 x1 x2:Int) (a2:Nat):Option (aZ×Int):=
 aS (uZ x0 x1 x2 a2) 1000000000 (0,[])
@[go_sem] def T74:=arP apL false JO
@[go_sem] def ayC (k:Nat):=lk [(75,T75.sp),(88,T88.sp),(89,T89.sp)] k
theorem f74:aF Tryz.prog 74 T74.sp:=by
 refine vm (tb:=ayC) (.cons f75 (.cons f88 (.cons f89 .nil))) Tryz.func74 Tryz.ntmps74 fun ⟨x3,x4,x5,x6,x7,x8,x0,x9,x10,x1,x2,a2⟩ r hr stop S=> ?_
 rw [ali,JO] at hr
 refine S.gx [5] ?_
 refine gr ?_
 refine S.pW 7 0 2000700 1 rfl rfl (nL rfl) rfl ?_
 refine S.sees [2,4,6,7,15,16,17] [(4,4),(6,6),(7,7)] [(2000700,2000700)] ?_ (Stop.iter S (fun s1=>⟨[(2,.c (.clo a2 [])),(4,.c (.ref 4 0)),(6,.c (.ref 6 0)),(7,.c (.ref 7 0)),(15,.c (.d (ah 2 aO x0))),(16,.c (.d (.int .i64 (x0.length:Int)))),(17,.c (.d (.int .i64 s1.1)))],[(4,[.d (.int .i64 x1),.d (.int .i64 x2)]),(6,[.dD,.d (.int .i64 0)]),(7,[.own 2000700,.d (.int .i64 x2)])],[(2000700,.owned (ah 1 cO s1.2))]⟩) (uZ x0 x1 x2 a2) (fun q=>q=r) hr rfl ?_)
 ·exact lf
 ·intro s1 hr
  unfold uZ at hr
  refine S.gx [5] ?_
  refine gr ?_
  refine dM hr (fun hc hr=> ?_) fun hc hr=>D0 hr
  obtain ⟨Dw,hr⟩:=aC hr
  refine gr ?_
  by_cases hs7:a2=89
  ·subst hs7
   rw [if_pos rfl] at hr
   refine S.gx [] ?_
   exact D1 (S.ss [2,4,6,7,15,16,17] [(4,4),(6,6),(7,7)] [(31,2000700)]) hr
  ·rw [if_neg hs7] at hr
   by_cases hs4:a2=75
   ·subst hs4
    rw [if_pos rfl] at hr
    refine S.gx [] ?_
    exact D1 (S.ss [2,4,6,7,15,16,17] [(4,4),(6,6),(7,7)] [(31,2000700)]) hr
   ·rw [if_neg hs4] at hr
    by_cases hs1:a2=88
    ·subst hs1
     rw [if_pos rfl] at hr
     refine S.gx [] ?_
     exact D1 (S.ss [2,4,6,7,15,16,17] [(4,4),(6,6),(7,7)] [(31,2000700)]) hr
    ·rw [if_neg hs1] at hr
     first | cases hr | exact hr.elim
def Zp (x0 x1:Int) (x2:au) (x3:aj) (a1:aZ):Option (Int×Int×au×aj×au×aj×Int):=
 (r86 x0 x1 x2 x3).bind fun v1=>
  if (v1.2.2.2.2.2.2 == 0)=true then
   (O1 v1.1 v1.2.1 v1.2.2.1 v1.2.2.2.1 v1.2.2.2.2.1 v1.2.2.2.2.2.1 a1).bind fun v2=>
    some (v1.1,v1.2.1,v1.2.2.1,v1.2.2.2.1,v1.2.2.2.2.1,v1.2.2.2.2.2.1,v2.2)
   else some (v1.1,v1.2.1,v1.2.2.1,v1.2.2.2.1,v1.2.2.2.2.1,v1.2.2.2.2.2.1,v1.2.2.2.2.2.2)
@[go_sem] def avw:=aij qu8 true Zp
@[go_sem] def anT (k:Nat):=lk [(86,T86.sp),(124,akg.sp)] k
theorem f106:aF Tryz.prog 106 avw.sp:=by
 refine vm (tb:=anT) (.cons f86 (.cons f124 .nil)) Tryz.func106 Tryz.ntmps106 fun ⟨x0,x1,x2,x3,a1⟩ r hr stop S=> ?_
 rw [uq5,Zp] at hr
 refine S.gx [] ?_
 exact D0 hr
def KN (a0:Int):Option (Bool):=
 (WJ a0 0 10000).bind fun v1=>
  some v1
@[go_sem] def ake:=KT qE false KN
@[go_sem] def ant (k:Nat):=lk [(83,T83.sp)] k
theorem f150:aF Tryz.prog 150 ake.sp:=by
 refine vm (tb:=ant) (.cons f83 .nil) Tryz.func150 Tryz.ntmps150 fun a0 r hr stop S=> ?_
 rw [rF,KN] at hr
 refine S.gx [] ?_
 exact D0 hr
def aei (a0:Int):Option (Bool):=
 (KN a0).bind fun v1=>
  some (!v1)
@[go_sem] def avb:=KT qE false aei
@[go_sem] def anu (k:Nat):=lk [(150,ake.sp)] k
theorem f149:aF Tryz.prog 149 avb.sp:=by
 refine vm (tb:=anu) (.cons f150 .nil) Tryz.func149 Tryz.ntmps149 fun a0 r hr stop S=> ?_
 rw [rF,aei] at hr
 refine S.gx [] ?_
 exact D0 hr
def yI (a0:aZ):Bd Int Int:=fun s1=>
 if (decide (s1<(a0.length:Int)))=true then
  if 0≤s1∧s1<(a0.length:Int) then
   aP (aei (a0.getD s1.toNat default)) fun v1=>
    if v1=true then
     .out (some s1)
     else .next (IntKind.i64.wrap (s1+1))
   else .out none
  else .out (some (-1))
def KP (a0:aZ):Option (Int):=
 aS (yI a0) 1000000000 0
@[go_sem] def agZ:=aii lK false KP
@[go_sem] def ahn (k:Nat):=lk [(149,avb.sp)] k
theorem atF:aF Tryz.prog 109 agZ.sp:=by
 refine vm (tb:=ahn) (.cons f149 .nil) Tryz.func109 Tryz.ntmps109 fun a0 r hr stop S=> ?_
 rw [rF,KP] at hr
 refine S.gx [] ?_
 refine gr ?_
 refine S.sees [0,1,7,8] [] [] ?_ (Stop.iter S (fun s1=>⟨[(0,.c (.d (ah 1 cO a0))),(1,.c (.clo 149 [])),(7,.c (.d (.int .i64 (a0.length:Int)))),(8,.c (.d (.int .i64 s1)))],[],[]⟩) (yI a0) (fun q=>q=r) hr rfl ?_)
 ·exact lf
 ·intro s1 hr
  unfold yI at hr
  refine S.gx [] ?_
  exact D1 (S.ss [0,1,7,8] [] []) hr
def r76 (a0:aZ):Option (Bool):=
 (KP a0).bind fun v1=>
  some (decide (v1≥0))
@[go_sem] def T76:=aii qE false r76
@[go_sem] def ayB (k:Nat):=lk [(109,agZ.sp)] k
theorem f76:aF Tryz.prog 76 T76.sp:=by
 refine vm (tb:=ayB) (.cons atF .nil) Tryz.func76 Tryz.ntmps76 fun a0 r hr stop S=> ?_
 rw [rF,r76] at hr
 refine S.gx [] ?_
 exact D0 hr
def OZ (x1 x2:Int) (x3:au) (x4:aj) (x5:au) (x0:aj) (a1:Int):Option (Int):=
 (WJ a1 0 (IntKind.i64.wrap ((x0.length:Int) - 1))).bind fun v1=>
  (nS v1 6).bind fun v2=>
   some v2
@[go_sem] def akd:=aev lK false OZ
@[go_sem] def anr (k:Nat):=lk [(83,T83.sp),(118,JE.sp)] k
theorem f151:aF Tryz.prog 151 akd.sp:=by
 refine vm (tb:=anr) (.cons f83 (.cons f118 .nil)) Tryz.func151 Tryz.ntmps151 fun ⟨x1,x2,x3,x4,x5,x0,a1⟩ r hr stop S=> ?_
 rw [JW,OZ] at hr
 refine S.gx [] ?_
 exact D0 hr
def Zo (x0 x2:Int) (x3:au) (x4:aj) (x5:au) (x6:aj) (x1:aZ) (x7:Int):Option (Int):=
 (r76 x1).bind fun v1=>
  (nS ((x1.length:Int) == x0) 10).bind fun v2=>
   (nS (!v1) 2).bind fun v3=>
    (OZ x0 x2 x3 x4 x5 x6 x7).bind fun v4=>
     (AA [v2,v3,v4]).bind fun v5=>
      some v5
@[go_sem] def avv:=arO lK false Zo
@[go_sem] def anS (k:Nat):=lk [(76,T76.sp),(117,Rz.sp),(118,JE.sp),(151,akd.sp)] k
theorem f107:aF Tryz.prog 107 avv.sp:=by
 refine vm (tb:=anS) (.cons f76 (.cons f117 (.cons f118 (.cons f151 .nil)))) Tryz.func107 Tryz.ntmps107 fun ⟨x0,x2,x3,x4,x5,x6,x1,x7⟩ r hr stop S=> ?_
 rw [uq8,Zo] at hr
 refine S.gx [] ?_
 exact D0 hr
def KL (a0:List (Int)):Option (List (Int)):=if a0.length*8≤140737488355328∧a0.length≤9223372036854775807 then some a0 else none
def Fh:rU (List (Int)) where
 enc x:=[.c (ah 1 cO x)]
 dec a:=aG jQ (acE a 0 0)
 pre x:=(KL x).isSome=true
 res x:=[.c (.own (ah 1 cO ((KL x).getD default)))]
 al:=false
theorem aue (c0:D):Fh.sp.pre [.c c0]=(eqvArgs [.c c0] [.c (ah 1 cO (aG jQ c0))]∧(KL (aG jQ c0)).isSome=true):=(rfl)
theorem aud (c0:D):Fh.sp.res [.c c0]=[.c (.own (ah 1 cO ((KL (aG jQ c0)).getD default)))]:=(rfl)
theorem auf:Fh.sp.alias=false:=(rfl)
attribute [go_sem] aue aud auf
theorem v152:Valid Tryz.prog 152 Fh.sp:=by
 refine RI (fn:=Tryz.f152) (n:=8) bT fC.nil Tryz.func152 rfl Tryz.ntmps152 ?_
 rintro a0 hx
 obtain ⟨r,hr⟩:=oE (show (KL a0).isSome=true from hx)
 have hres:Fh.res a0=[.c (.own (ah 1 cO r))]:=by simp only [Fh,hr,Option.getD_some]
 refine ⟨nL rfl,fun stop S=> ?_⟩
 rw [hres] at S
 unfold KL at hr
 obtain ⟨hg,hr⟩:=aH hr
 cases hr
 refine S.goB [1] 1000 ?_
 simp only [go_sem,Fh,Bool.not_true,Bool.not_false,Option.map_some,Int.reduceToNat,Nat.reduceEqDiff,Nat.reduceBEq,Nat.reduceLT,Nat.reduceAdd,Nat.reduceMul,Nat.reduceSub,Nat.reduceLeDiff, ↓reduceIte,reduceCtorEq,Tryz.results152]
 refine S.atG 0 3 4 26 26 3 rfl rfl rfl rfl rfl rfl rfl rfl rfl rfl (by decide) (by decide) ?_
 intro b hb
 refine S.goB [] 1000 ?_
 simp only [go_sem,Fh,Bool.not_true,Bool.not_false,Option.map_some,Int.reduceToNat,Nat.reduceEqDiff,Nat.reduceBEq,Nat.reduceLT,Nat.reduceAdd,Nat.reduceMul,Nat.reduceSub,Nat.reduceLeDiff, ↓reduceIte,reduceCtorEq,Tryz.results152]
 have hb':b=true→a0.length=0:=hb
 refine ⟨?_,?_⟩<;>intro hc
 ·simpa using hb' hc
 ·refine ⟨by omega,by omega,?_⟩
  (simp (maxDischargeDepth:=8) [go_sem])
theorem f152:aF Tryz.prog 152 Fh.sp:=⟨⟨Tryz.f152,Tryz.func152,by decide,rfl⟩,v152⟩
def CB (a0 a1:Int):Option (Int):=
 if a1≠0 then
  if a1≠0 then
   if (decide ((a0.tmod a1)<0))=true then
    some (IntKind.i64.wrap ((IntKind.i64.wrap (a0.tdiv a1)) - 1))
    else some (IntKind.i64.wrap (a0.tdiv a1))
   else none
  else none
@[go_sem] def akb:=qT7 lK false CB
theorem f191:aF Tryz.prog 191 akb.sp:=by
 refine vm .nil Tryz.func191 Tryz.ntmps191 fun ⟨a0,a1⟩ r hr stop S=> ?_
 rw [yK,CB] at hr
 refine S.gx [] ?_
 exact D0 hr
def WQ (x1 x2:Int) (x3:au) (x4:aj) (x5:au) (x0:aj) (a1 a2:Int):Option (Int):=
 if 0≤a1∧a1<(x0.length:Int) then
  (yQ x1 x2 x3 x4 x5 x0 a2).bind fun v1=>
   (Az (x0.getD a1.toNat default) v1.1 v1.2).bind fun v2=>
    (CB v2.1 v2.2).bind fun v3=>
     some v3
  else none
@[go_sem] def ava:=arN lK false WQ
@[go_sem] def anq (k:Nat):=lk [(122,afK.sp),(157,afH.sp),(191,akb.sp)] k
theorem f154:aF Tryz.prog 154 ava.sp:=by
 refine vm (tb:=anq) (.cons f122 (.cons f157 (.cons f191 .nil))) Tryz.func154 Tryz.ntmps154 fun ⟨x1,x2,x3,x4,x5,x0,a1,a2⟩ r hr stop S=> ?_
 rw [uq8,WQ] at hr
 refine S.gx [] ?_
 exact D0 hr
def aeg (a0 x0 x1:Int) (x2:au) (x3:aj) (x4:au) (x5:aj):Option (Bool):=
 (OY x0 x1 x2 x3 x4 x5 a0).bind fun v1=>
  some (!v1)
@[go_sem] def au':=ail qE false aeg
@[go_sem] def anp (k:Nat):=lk [(156,afI.sp)] k
theorem f155:aF Tryz.prog 155 au'.sp:=by
 refine vm (tb:=anp) (.cons f156 .nil) Tryz.func155 Tryz.ntmps155 fun ⟨a0,x0,x1,x2,x3,x4,x5⟩ r hr stop S=> ?_
 rw [JW,aeg] at hr
 refine S.gx [] ?_
 exact D0 hr
def yH (a0:aZ) (x0 x1:Int) (x2:au) (x3:aj) (x4:au) (x5:aj):Bd Int Int:=fun s1=>
 if (decide (s1<(a0.length:Int)))=true then
  if 0≤s1∧s1<(a0.length:Int) then
   aP (aeg (a0.getD s1.toNat default) x0 x1 x2 x3 x4 x5) fun v1=>
    if v1=true then
     .out (some s1)
     else .next (IntKind.i64.wrap (s1+1))
   else .out none
  else .out (some (-1))
def KO (a0:aZ) (x0 x1:Int) (x2:au) (x3:aj) (x4:au) (x5:aj):Option (Int):=
 aS (yH a0 x0 x1 x2 x3 x4 x5) 1000000000 0
@[go_sem] def agY:=aif lK false KO
@[go_sem] def ahm (k:Nat):=lk [(155,au'.sp)] k
theorem atE:aF Tryz.prog 109 agY.sp:=by
 refine vm (tb:=ahm) (.cons f155 .nil) Tryz.func109 Tryz.ntmps109 fun ⟨a0,x0,x1,x2,x3,x4,x5⟩ r hr stop S=> ?_
 rw [JW,KO] at hr
 refine S.gx [] ?_
 refine gr ?_
 refine S.sees [0,1,7,8] [] [] ?_ (Stop.iter S (fun s1=>⟨[(0,.c (.d (ah 1 cO a0))),(1,.c (.clo 155 [.dK [.int .i64 x0,.int .i64 x1,ah 2 aO x2,ah 1 aN x3,ah 2 aO x4,ah 1 aN x5] 0])),(7,.c (.d (.int .i64 (a0.length:Int)))),(8,.c (.d (.int .i64 s1)))],[],[]⟩) (yH a0 x0 x1 x2 x3 x4 x5) (fun q=>q=r) hr rfl ?_)
 ·exact lf
 ·intro s1 hr
  unfold yH at hr
  refine S.gx [] ?_
  exact D1 (S.ss [0,1,7,8] [] []) hr
def OU (a0:aZ) (x0 x1:Int) (x2:au) (x3:aj) (x4:au) (x5:aj):Option (Bool):=
 (KO a0 x0 x1 x2 x3 x4 x5).bind fun v1=>
  some (decide (v1≥0))
@[go_sem] def aui:=aif qE false OU
@[go_sem] def amV (k:Nat):=lk [(109,agY.sp)] k
theorem atC:aF Tryz.prog 76 aui.sp:=by
 refine vm (tb:=amV) (.cons atE .nil) Tryz.func76 Tryz.ntmps76 fun ⟨a0,x0,x1,x2,x3,x4,x5⟩ r hr stop S=> ?_
 rw [JW,OU] at hr
 refine S.gx [] ?_
 exact D0 hr
def wJ (x1 x0:Int) (x2:au) (x3:aj) (x4:au) (x5:aj) (x6:aZ) (v20:Int):Bd (Int×(List (Int))) (aZ×Int×Int):=fun s3=>
 if (decide (s3.1<(x6.length:Int)))=true then
  if 0≤s3.1∧s3.1<(x6.length:Int) then
   if 0≤s3.1∧s3.1<(s3.2.length:Int) then
    if 0≤s3.1∧s3.1<(s3.2.length:Int) then
     .next (IntKind.i64.wrap (s3.1+1),s3.2.set s3.1.toNat (IntKind.i64.wrap ((s3.2.getD s3.1.toNat default)+(x6.getD s3.1.toNat default))))
     else .out none
    else .out none
   else .out none
  else .out ((OU s3.2 x1 x0 x2 x3 x4 x5).bind fun v24=>
   (nS (!v24) 22).bind fun v25=>
    some (s3.2,v20,v25))
def zK (x1 x0:Int) (x2:au) (x3:aj) (x4:au) (x5:aj) (x6:aZ) (x7:Int):Bd (Int×(List (Int))) (aZ×Int×Int):=fun s2=>
 if (decide ((IntKind.i64.wrap (s2.1+1))<(s2.2.length:Int)))=true then
  if 0≤s2.1∧s2.1<(s2.2.length:Int) then
   aP (yQ x1 x0 x2 x3 x4 x5 (s2.2.getD s2.1.toNat default)) fun v11=>
    if 0≤IntKind.i64.wrap (s2.1+1)∧IntKind.i64.wrap (s2.1+1)<(s2.2.length:Int) then
     aP (yQ x1 x0 x2 x3 x4 x5 (s2.2.getD (IntKind.i64.wrap (s2.1+1)).toNat default)) fun v12=>
      aP (CB (IntKind.i64.wrap (x0*(IntKind.i64.wrap ((IntKind.i64.wrap (v11.1*v12.2)) - (IntKind.i64.wrap (v12.1*v11.2)))))) (IntKind.i64.wrap ((IntKind.i64.wrap (1000*v11.2))*v12.2))) fun v13=>
       if 0≤s2.1∧s2.1<(s2.2.length:Int) then
        if 0≤IntKind.i64.wrap (s2.1+1)∧IntKind.i64.wrap (s2.1+1)<(s2.2.length:Int) then
         if 0≤s2.1∧s2.1<(s2.2.length:Int) then
          if 0≤IntKind.i64.wrap (s2.1+1)∧IntKind.i64.wrap (s2.1+1)<(s2.2.length:Int) then
           .next (IntKind.i64.wrap (s2.1+2),(s2.2.set s2.1.toNat (IntKind.i64.wrap ((s2.2.getD s2.1.toNat default) - v13))).set (IntKind.i64.wrap (s2.1+1)).toNat (IntKind.i64.wrap ((s2.2.getD (IntKind.i64.wrap (s2.1+1)).toNat default)+v13)))
           else .out none
          else .out none
         else .out none
        else .out none
     else .out none
   else .out none
  else .out (if 0≤0∧0<(s2.2.length:Int) then
   (WQ x1 x0 x2 x3 x4 x5 x7 (s2.2.getD 0 default)).bind fun v20=>
    if 0≤0∧0<(s2.2.length:Int) then
     if 0≤0∧0<(s2.2.length:Int) then
      aS (wJ x1 x0 x2 x3 x4 x5 x6 v20) 1000000000 (0,s2.2.set 0 (IntKind.i64.wrap ((s2.2.getD 0 default) - v20)))
      else none
     else none
   else none)
def Eu (x1 x0:Int) (x2:au) (x3:aj) (x4:au) (x5:aj) (x6:aZ) (x7:Int):Bd (Int×(List (Int))) (aZ×Int×Int):=fun s1=>
 if (decide ((IntKind.i64.wrap (s1.1+1))<(s1.2.length:Int)))=true then
  if 0≤s1.1∧s1.1<(s1.2.length:Int) then
   aP (yQ x1 x0 x2 x3 x4 x5 (s1.2.getD s1.1.toNat default)) fun v2=>
    if 0≤IntKind.i64.wrap (s1.1+1)∧IntKind.i64.wrap (s1.1+1)<(s1.2.length:Int) then
     aP (yQ x1 x0 x2 x3 x4 x5 (s1.2.getD (IntKind.i64.wrap (s1.1+1)).toNat default)) fun v3=>
      aP (CB (IntKind.i64.wrap (x0*(IntKind.i64.wrap ((IntKind.i64.wrap (v2.1*v3.2)) - (IntKind.i64.wrap (v3.1*v2.2)))))) (IntKind.i64.wrap ((IntKind.i64.wrap (1000*v2.2))*v3.2))) fun v4=>
       if 0≤s1.1∧s1.1<(s1.2.length:Int) then
        if 0≤IntKind.i64.wrap (s1.1+1)∧IntKind.i64.wrap (s1.1+1)<(s1.2.length:Int) then
         if 0≤s1.1∧s1.1<(s1.2.length:Int) then
          if 0≤IntKind.i64.wrap (s1.1+1)∧IntKind.i64.wrap (s1.1+1)<(s1.2.length:Int) then
           .next (IntKind.i64.wrap (s1.1+2),(s1.2.set s1.1.toNat (IntKind.i64.wrap ((s1.2.getD s1.1.toNat default) - v4))).set (IntKind.i64.wrap (s1.1+1)).toNat (IntKind.i64.wrap ((s1.2.getD (IntKind.i64.wrap (s1.1+1)).toNat default)+v4)))
           else .out none
          else .out none
         else .out none
        else .out none
     else .out none
   else .out none
  else .out (aS (zK x1 x0 x2 x3 x4 x5 x6 x7) 1000000000 (1,s1.2))
def KQ (x1 x0:Int) (x2:au) (x3:aj) (x4:au) (x5:aj) (a1 x6:aZ) (x7:Int):Option (aZ×Int×Int):=
 (KL a1).bind fun v1=>
  aS (Eu x1 x0 x2 x3 x4 x5 x6 x7) 1000000000 (0,v1)
@[go_sem] def akk:=arM apK false KQ
@[go_sem] def afW (k:Nat):=lk [(76,aui.sp),(118,JE.sp),(152,Fh.sp),(154,ava.sp),(157,afH.sp),(191,akb.sp)] k
theorem Kr:fC Tryz.prog afW:= .cons atC (.cons f118 (.cons f152 (.cons f154 (.cons f157 (.cons f191 .nil)))))
theorem f108:aF Tryz.prog 108 akk.sp:=by
 refine vm (tb:=afW) (.cons atC (.cons f118 (.cons f152 (.cons f154 (.cons f157 (.cons f191 .nil)))))) Tryz.func108 Tryz.ntmps108 fun ⟨x1,x0,x2,x3,x4,x5,a1,x6,x7⟩ r hr stop S=> ?_
 rw [Oa,KQ] at hr
 refine S.gx [2,3] ?_
 obtain ⟨v1,hv1,hr⟩:=aA hr
 refine gb hv1 ?_
 refine S.inl 2 [3,5,9] [] Tryz.func153 (by decide) rfl Tryz.ntmps153 (fun cx e=>aT bT Kr cx e) (some 18) rfl rfl rfl rfl (nL rfl) (nL rfl) ?_
 refine gs ?_
 refine gr ?_
 intro stop1 S1
 refine S1.gx [6] ?_
 refine gr ?_
 refine S1.sees [1,3,6] [(100003,100003),(3,3),(5,5)] [(15,15)] ?_ (Stop.iter S1 (fun s1=>⟨[(1,.c (.own 15)),(3,.c (.ref 100003 0)),(6,.c (.d (.int .i64 s1.1)))],[(100003,[.d (.int .i64 x1),.d (.int .i64 x0),.d (ah 2 aO x2),.d (ah 1 aN x3),.d (ah 2 aO x4),.d (ah 1 aN x5)]),(3,[.d (.int .i64 x1),.d (.int .i64 x0),.d (ah 2 aO x2),.d (ah 1 aN x3),.d (ah 2 aO x4),.d (ah 1 aN x5)]),(5,[.d (ah 1 cO x6),.d (.int .i64 x7)])],[(15,.owned (ah 1 cO s1.2))]⟩) (Eu x1 x0 x2 x3 x4 x5 x6 x7) (fun q=>q=r) hr rfl ?_)
 ·exact lf
 ·intro s1 hr
  unfold Eu at hr
  refine S1.gx [6] ?_
  refine gr ?_
  refine dM hr (fun hc hr=> ?_) fun hc hr=> ?_
  ·obtain ⟨hg9,hr⟩:=aC hr
   obtain ⟨v2,hv2,hr⟩:=aQ hr
   obtain ⟨Dw,hr⟩:=aC hr
   obtain ⟨v3,hv3,hr⟩:=aQ hr
   obtain ⟨v4,hv4,hr⟩:=aQ hr
   refine gb hv2 ?_
   refine gb hv3 ?_
   refine gb hv4 ?_
   refine S1.prune [1,3,6,9] ?_
   refine S1.gx [] ?_
   exact D1 (S1.ss [1,3,6] [(100003,100003),(3,3),(5,5)] [(15,15)]) hr
  ·refine gr ?_
   have hr:=bK hr
   refine gr ?_
   refine gr ?_
   refine S.gx [2,3] ?_
   refine gr ?_
   refine S.inl 2 [3,5,9] [] Tryz.func153 (by decide) rfl Tryz.ntmps153 (fun cx e=>aT bT Kr cx e) (some 21) rfl rfl rfl rfl (nL rfl) (nL rfl) ?_
   refine gs ?_
   refine gr ?_
   intro stop1 S1
   refine S1.gx [6] ?_
   refine gr ?_
   refine S1.sees [1,3,6] [(200003,200003),(3,3),(5,5)] [(15,15)] ?_ (Stop.iter S1 (fun s2=>⟨[(1,.c (.own 15)),(3,.c (.ref 200003 0)),(6,.c (.d (.int .i64 s2.1)))],[(200003,[.d (.int .i64 x1),.d (.int .i64 x0),.d (ah 2 aO x2),.d (ah 1 aN x3),.d (ah 2 aO x4),.d (ah 1 aN x5)]),(3,[.d (.int .i64 x1),.d (.int .i64 x0),.d (ah 2 aO x2),.d (ah 1 aN x3),.d (ah 2 aO x4),.d (ah 1 aN x5)]),(5,[.d (ah 1 cO x6),.d (.int .i64 x7)])],[(15,.owned (ah 1 cO s2.2))]⟩) (zK x1 x0 x2 x3 x4 x5 x6 x7) (fun q=>q=r) hr rfl ?_)
   ·exact lf
   ·intro s2 hr
    unfold zK at hr
    refine S1.gx [6] ?_
    refine gr ?_
    refine dM hr (fun hc hr=> ?_) fun hc hr=> ?_
    ·obtain ⟨aeW,hr⟩:=aC hr
     obtain ⟨v11,Dv,hr⟩:=aQ hr
     obtain ⟨aeV,hr⟩:=aC hr
     obtain ⟨v12,Du,hr⟩:=aQ hr
     obtain ⟨v13,aax,hr⟩:=aQ hr
     refine gb Dv ?_
     refine gb Du ?_
     refine gb aax ?_
     refine S1.prune [1,3,6,9] ?_
     refine S1.gx [] ?_
     exact D1 (S1.ss [1,3,6] [(200003,200003),(3,3),(5,5)] [(15,15)]) hr
    ·refine gr ?_
     have hr:=bK hr
     refine gr ?_
     refine gr ?_
     refine S.gx [2,3] ?_
     obtain ⟨aFQ,hr⟩:=aH hr
     obtain ⟨v20,I8,hr⟩:=aA hr
     obtain ⟨aAK,hr⟩:=aH hr
     obtain ⟨aAJ,hr⟩:=aH hr
     refine gb I8 ?_
     refine S.sees [3,9,10,36,37,38] [(3,3)] [(15,15)] ?_ (Stop.iter S (fun s3=>⟨[(3,.c (.ref 3 0)),(9,.c (.own 15)),(10,.c (.d (.int .i64 v20))),(36,.c (.d (ah 1 cO x6))),(37,.c (.d (.int .i64 (x6.length:Int)))),(38,.c (.d (.int .i64 s3.1)))],[(3,[.d (.int .i64 x1),.d (.int .i64 x0),.d (ah 2 aO x2),.d (ah 1 aN x3),.d (ah 2 aO x4),.d (ah 1 aN x5)])],[(15,.owned (ah 1 cO s3.2))]⟩) (wJ x1 x0 x2 x3 x4 x5 x6 v20) (fun q=>q=r) hr rfl ?_)
     ·exact lf
     ·intro s3 hr
      unfold wJ at hr
      refine S.gx [2,3] ?_
      exact D1 (S.ss [3,9,10,36,37,38] [(3,3)] [(15,15)]) hr
def U5 (x2 x3:Int) (x4:au) (x5:aj) (a1 x0:aZ) (x1:Int):Option (aZ×Int):=
 (Zp x2 x3 x4 x5 a1).bind fun v1=>
  if (v1.2.2.2.2.2.2 == 0)=true then
   (Zo v1.1 v1.2.1 v1.2.2.1 v1.2.2.2.1 v1.2.2.2.2.1 v1.2.2.2.2.2.1 x0 x1).bind fun v2=>
    if (v2 != 0)=true then
     some ([],v2)
     else (KQ v1.1 v1.2.1 v1.2.2.1 v1.2.2.2.1 v1.2.2.2.2.1 v1.2.2.2.2.2.1 a1 x0 x1).bind fun v3=>
      if (v3.2.2 != 0)=true then
       some ([],v3.2.2)
       else some (v3.1,0)
   else if (v1.2.2.2.2.2.2 != 0)=true then
    some ([],v1.2.2.2.2.2.2)
    else (KQ v1.1 v1.2.1 v1.2.2.1 v1.2.2.2.1 v1.2.2.2.2.1 v1.2.2.2.2.2.1 a1 x0 x1).bind fun v4=>
     if (v4.2.2 != 0)=true then
      some ([],v4.2.2)
      else some (v4.1,0)
@[go_sem] def T73:=arL apJ false U5
@[go_sem] def ayD (k:Nat):=lk [(106,avw.sp),(107,avv.sp),(108,akk.sp)] k
theorem f73:aF Tryz.prog 73 T73.sp:=by
 refine vm (tb:=ayD) (.cons f106 (.cons f107 (.cons f108 .nil))) Tryz.func73 Tryz.ntmps73 fun ⟨x2,x3,x4,x5,a1,x0,x1⟩ r hr stop S=> ?_
 rw [JW,U5] at hr
 refine S.gx [7] ?_
 obtain ⟨v1,hv1,hr⟩:=aA hr
 refine gb hv1 ?_
 refine iW hr (fun hc hr=> ?_) fun hc hr=> ?_
 ·obtain ⟨v2,hv2,hr⟩:=aA hr
  refine gb hv2 ?_
  refine iW hr (fun hc hr=>D0 hr) fun hc hr=> ?_
  obtain ⟨v3,hv3,hr⟩:=aA hr
  refine gb hv3 ?_
  refine S.prune [9,10] ?_
  refine S.gx [] ?_
  exact D0 hr
 ·refine gr ?_
  refine iW hr (fun hc hr=>D0 hr) fun hc hr=> ?_
  obtain ⟨v4,hv4,hr⟩:=aA hr
  refine gb hv4 ?_
  refine S.prune [9,10] ?_
  refine S.gx [] ?_
  exact D0 hr
end Go.Proofs.YtofkgmldcjagmaaGreatDoor

/- Contracts of functions, written by wip/dec. -/
import Derived.Test.YtofkgmldcjagmaaGreatDoorF00
import Derived.Test.YtofkgmldcjagmaaGreatDoorF01
import Derived.Test.YtofkgmldcjagmaaGreatDoorF02
import Derived.Test.YtofkgmldcjagmaaGreatDoorF03
set_option linter.unusedVariables false
set_option linter.unusedSimpArgs false
set_option linter.constructorNameAsVariable false
set_option maxHeartbeats 4000000
set_option maxRecDepth 20000
namespace Go.Proofs.YtofkgmldcjagmaaGreatDoor
open Go.dJ
section
variable {β:Type} [Inhabited β] (u:β→List RV) (al:Bool)
def aow (a0 a1:Int) (a2:au) (a3:aj) (a4 a5:aZ) (a6:au) (a7 a8 a9 a10:Int) (a11:Nat):List Arg:=[.agg [.int .i64 a0,.int .i64 a1,ah 2 aO a2,ah 1 aN a3,ah 1 cO a4,ah 1 cO a5,ah 2 aO a6,.int .i64 a7,.int .i64 a8],.agg [.int .i64 a9,.int .i64 a10],.clo a11 []]
def aqc:List Arg→Int×Int×au×aj×aZ×aZ×au×Int×Int×Int×Int×Nat
 | [.agg [c0,c1,c2,c3,c4,c5,c6,c7,c8],.agg [c9,c10],.clo c11 []]=>(aB c0,aB c1,aG bY c2,aG bP c3,aG jM c4,aG jM c5,aG bY c6,aB c7,aB c8,aB c9,aB c10,c11)
 | _=>default
def arf (r:Int→Int→au→aj→aZ→aZ→au→Int→Int→Int→Int→Nat→Option β):=mkT (u12 aow) aqc (u12 r) u al
attribute [go_sem] aow aqc arf
def aou (a0:aZ):List Arg:=[.c (ah 1 cO a0),.clo 149 []]
def aqa:List Arg→aZ
 | [.c c0,.clo _ []]=>aG jM c0
 | _=>default
def ahz (r:aZ→Option β):=mkT (u1 aou) aqa (u1 r) u al
attribute [go_sem] aou aqa ahz
def aot (a0 a1:Int) (a2:au) (a3:aj) (a4:au) (a5:aj) (a6:aZ) (a7:Int):List Arg:=[.agg [.int .i64 a0,.int .i64 a1,ah 2 aO a2,ah 1 aN a3,ah 2 aO a4,ah 1 aN a5],.agg [ah 1 cO a6,.int .i64 a7]]
def ap':List Arg→Int×Int×au×aj×au×aj×aZ×Int
 | [.agg [c0,c1,c2,c3,c4,c5],.agg [c6,c7]]=>(aB c0,aB c1,aG bY c2,aG bP c3,aG bY c4,aG bP c5,aG jM c6,aB c7)
 | _=>default
def ard (r:Int→Int→au→aj→au→aj→aZ→Int→Option β):=mkT (u8 aot) ap' (u8 r) u al
attribute [go_sem] aot ap' ard
def aos (a0 a1:Int) (a2:au) (a3:aj) (a4:au) (a5:aj) (a6 a7:Int):List Arg:=[.agg [.int .i64 a0,.int .i64 a1,ah 2 aO a2,ah 1 aN a3,ah 2 aO a4,ah 1 aN a5],.c (.int .i64 a6),.c (.int .i64 a7)]
def ap9:List Arg→Int×Int×au×aj×au×aj×Int×Int
 | [.agg [c0,c1,c2,c3,c4,c5],.c c6,.c c7]=>(aB c0,aB c1,aG bY c2,aG bP c3,aG bY c4,aG bP c5,aB c6,aB c7)
 | _=>default
def arb (r:Int→Int→au→aj→au→aj→Int→Int→Option β):=mkT (u8 aos) ap9 (u8 r) u al
attribute [go_sem] aos ap9 arb
def aor (a0:aZ) (a1 a2:Int) (a3:au) (a4:aj) (a5:au) (a6:aj):List Arg:=[.c (ah 1 cO a0),.clo 155 [[.int .i64 a1,.int .i64 a2,ah 2 aO a3,ah 1 aN a4,ah 2 aO a5,ah 1 aN a6]]]
def ap8:List Arg→aZ×Int×Int×au×aj×au×aj
 | [.c c0,.clo _ [[c1,c2,c3,c4,c5,c6]]]=>(aG jM c0,aB c1,aB c2,aG bY c3,aG bP c4,aG bY c5,aG bP c6)
 | _=>default
def ahy (r:aZ→Int→Int→au→aj→au→aj→Option β):=mkT (u7 aor) ap8 (u7 r) u al
attribute [go_sem] aor ap8 ahy
def aoq (a0 a1:Int) (a2:au) (a3:aj) (a4:au) (a5:aj) (a6 a7:aZ) (a8:Int):List Arg:=[.agg [.int .i64 a0,.int .i64 a1,ah 2 aO a2,ah 1 aN a3,ah 2 aO a4,ah 1 aN a5],.c (ah 1 cO a6),.agg [ah 1 cO a7,.int .i64 a8]]
def ap7:List Arg→Int×Int×au×aj×au×aj×aZ×aZ×Int
 | [.agg [c0,c1,c2,c3,c4,c5],.c c6,.agg [c7,c8]]=>(aB c0,aB c1,aG bY c2,aG bP c3,aG bY c4,aG bP c5,aG jM c6,aG jM c7,aB c8)
 | _=>default
def ara (r:Int→Int→au→aj→au→aj→aZ→aZ→Int→Option β):=mkT (u9 aoq) ap7 (u9 r) u al
attribute [go_sem] aoq ap7 ara
def aop (a0 a1:Int) (a2:au) (a3:aj) (a4 a5:aZ) (a6:Int):List Arg:=[.agg [.int .i64 a0,.int .i64 a1,ah 2 aO a2,ah 1 aN a3],.c (ah 1 cO a4),.agg [ah 1 cO a5,.int .i64 a6]]
def ap6:List Arg→Int×Int×au×aj×aZ×aZ×Int
 | [.agg [c0,c1,c2,c3],.c c4,.agg [c5,c6]]=>(aB c0,aB c1,aG bY c2,aG bP c3,aG jM c4,aG jM c5,aB c6)
 | _=>default
def aq9 (r:Int→Int→au→aj→aZ→aZ→Int→Option β):=mkT (u7 aop) ap6 (u7 r) u al
attribute [go_sem] aop ap6 aq9
def apb (v:aZ×Int):List RV:=[.agg [.own (ah 1 cO v.1),.d (.int .i64 v.2)]]
attribute [go_sem] apb
def apa (v:aZ×Int×Int):List RV:=[.c (.own (ah 1 cO v.1)),.c (.d (.int .i64 v.2.1)),.c (.d (.int .i64 v.2.2))]
attribute [go_sem] apa
def ao9 (v:aZ×Int):List RV:=[.c (.own (ah 1 cO v.1)),.c (.d (.int .i64 v.2))]
attribute [go_sem] ao9
end
def DW (x0:au) (x1 x2:Int) (a2:Nat):Bd (Int×(List (Int))) (aZ×Int):=fun s1=>
 if (decide (s1.1<(x0.length:Int)))=true then
  if 0≤s1.1∧s1.1<(x0.length:Int) then
   if a2=89 then
    aP (r89 ((x0.getD s1.1.toNat default).1) ((x0.getD s1.1.toNat default).2)) fun v8=>
     if (s1.2.length+1)*8≤140737488355328∧s1.2.length+1≤9223372036854775807 then
      .next (IntKind.i64.wrap (s1.1+1),s1.2++[IntKind.i64.wrap ((IntKind.i64.wrap (x1*v8)).tdiv 1000)])
      else .out none
    else if a2=75 then
     aP (r75 ((x0.getD s1.1.toNat default).1) ((x0.getD s1.1.toNat default).2)) fun v5=>
      if (s1.2.length+1)*8≤140737488355328∧s1.2.length+1≤9223372036854775807 then
       .next (IntKind.i64.wrap (s1.1+1),s1.2++[IntKind.i64.wrap ((IntKind.i64.wrap (x1*v5)).tdiv 1000)])
       else .out none
     else if a2=88 then
      aP (r88 ((x0.getD s1.1.toNat default).1) ((x0.getD s1.1.toNat default).2)) fun v2=>
       if (s1.2.length+1)*8≤140737488355328∧s1.2.length+1≤9223372036854775807 then
        .next (IntKind.i64.wrap (s1.1+1),s1.2++[IntKind.i64.wrap ((IntKind.i64.wrap (x1*v2)).tdiv 1000)])
        else .out none
      else .out none
   else .out none
  else .out (some (s1.2,x2))
def VZ (x3 x4:Int) (x5:au) (x6:aj) (x7 x8:aZ) (x0:au) (x9 x10 x1 x2:Int) (a2:Nat):Option (aZ×Int):=
 aS (DW x0 x1 x2 a2) 1000000000 (0,[])
@[go_sem] def T74:=arf apb false VZ
@[go_sem] def ayh (k:Nat):=lk [(75,T75.sp),(88,T88.sp),(89,T89.sp)] k
theorem f74:aF Tryz.prog 74 T74.sp:=by
 refine vm (tb:=ayh) (.cons f75 (.cons f88 (.cons f89 .nil))) Tryz.func74 Tryz.ntmps74 fun ⟨x3,x4,x5,x6,x7,x8,x0,x9,x10,x1,x2,a2⟩ r hr stop S=> ?_
 rw [akF,VZ] at hr
 refine S.gx [5] ?_
 refine gr ?_
 refine S.pK 7 0 2000700 1 rfl rfl (nL rfl) rfl ?_
 refine S.sees [2,4,6,7,15,16,17] [(4,4),(6,6),(7,7)] [(2000700,2000700)] ?_ (Stop.iter S (fun s1=>⟨[(2,.c (.clo a2 [])),(4,.c (.ref 4 0)),(6,.c (.ref 6 0)),(7,.c (.ref 7 0)),(15,.c (.d (ah 2 aO x0))),(16,.c (.d (.int .i64 (x0.length:Int)))),(17,.c (.d (.int .i64 s1.1)))],[(4,[.d (.int .i64 x1),.d (.int .i64 x2)]),(6,[.dB,.d (.int .i64 0)]),(7,[.own 2000700,.d (.int .i64 x2)])],[(2000700,.owned (ah 1 cO s1.2))]⟩) (DW x0 x1 x2 a2) (fun q=>q=r) hr rfl ?_)
 ·exact lf
 ·intro s1 hr
  unfold DW at hr
  refine S.gx [5] ?_
  refine gr ?_
  refine dN hr (fun hc hr=> ?_) fun hc hr=>D0 hr
  obtain ⟨vH,hr⟩:=aC hr
  refine gr ?_
  by_cases hs7:a2=89
  ·subst hs7
   rw [if_pos rfl] at hr
   refine S.gx [] ?_
   exact D1 (S.ss [2,4,6,7,15,16,17] [(4,4),(6,6),(7,7)] [(31,2000700)]) hr
  ·rw [if_neg hs7] at hr
   by_cases hs4:a2=75
   ·subst hs4
    rw [if_pos rfl] at hr
    refine S.gx [] ?_
    exact D1 (S.ss [2,4,6,7,15,16,17] [(4,4),(6,6),(7,7)] [(31,2000700)]) hr
   ·rw [if_neg hs4] at hr
    by_cases hs1:a2=88
    ·subst hs1
     rw [if_pos rfl] at hr
     refine S.gx [] ?_
     exact D1 (S.ss [2,4,6,7,15,16,17] [(4,4),(6,6),(7,7)] [(31,2000700)]) hr
    ·rw [if_neg hs1] at hr
     first | cases hr | exact hr.elim
def ahl (x0 x1:Int) (x2:au) (x3:aj) (a1:aZ):Option (Int×Int×au×aj×au×aj×Int):=
 (r86 x0 x1 x2 x3).bind fun v1=>
  if (v1.2.2.2.2.2.2 == 0)=true then
   (OB v1.1 v1.2.1 v1.2.2.1 v1.2.2.2.1 v1.2.2.2.2.1 v1.2.2.2.2.2.1 a1).bind fun v2=>
    some (v1.1,v1.2.1,v1.2.2.1,v1.2.2.2.1,v1.2.2.2.2.1,v1.2.2.2.2.2.1,v2.2)
   else some (v1.1,v1.2.1,v1.2.2.1,v1.2.2.2.1,v1.2.2.2.2.1,v1.2.2.2.2.2.1,v1.2.2.2.2.2.2)
@[go_sem] def au7:=adM qu8 true ahl
@[go_sem] def ang (k:Nat):=lk [(86,T86.sp),(124,ajv.sp)] k
theorem f106:aF Tryz.prog 106 au7.sp:=by
 refine vm (tb:=ang) (.cons f86 (.cons f124 .nil)) Tryz.func106 Tryz.ntmps106 fun ⟨x0,x1,x2,x3,a1⟩ r hr stop S=> ?_
 rw [uq5,ahl] at hr
 refine S.gx [] ?_
 exact D0 hr
def OA (a0:Int):Option (Bool):=
 (VY a0 0 10000).bind fun v1=>
  some v1
@[go_sem] def ajt:=Kw qj false OA
@[go_sem] def amP (k:Nat):=lk [(83,T83.sp)] k
theorem f150:aF Tryz.prog 150 ajt.sp:=by
 refine vm (tb:=amP) (.cons f83 .nil) Tryz.func150 Tryz.ntmps150 fun a0 r hr stop S=> ?_
 rw [qU,OA] at hr
 refine S.gx [] ?_
 exact D0 hr
def ahc (a0:Int):Option (Bool):=
 (OA a0).bind fun v1=>
  some (!v1)
@[go_sem] def auK:=Kw qj false ahc
@[go_sem] def amQ (k:Nat):=lk [(150,ajt.sp)] k
theorem f149:aF Tryz.prog 149 auK.sp:=by
 refine vm (tb:=amQ) (.cons f150 .nil) Tryz.func149 Tryz.ntmps149 fun a0 r hr stop S=> ?_
 rw [qU,ahc] at hr
 refine S.gx [] ?_
 exact D0 hr
def Jm (a0:aZ):Bd Int Int:=fun s1=>
 if (decide (s1<(a0.length:Int)))=true then
  if 0≤s1∧s1<(a0.length:Int) then
   aP (ahc (a0.getD s1.toNat default)) fun v1=>
    if v1=true then
     .out (some s1)
     else .next (IntKind.i64.wrap (s1+1))
   else .out none
  else .out (some (-1))
def YR (a0:aZ):Option (Int):=
 aS (Jm a0) 1000000000 0
@[go_sem] def agc:=ahz lF false YR
@[go_sem] def agB (k:Nat):=lk [(149,auK.sp)] k
theorem atb:aF Tryz.prog 109 agc.sp:=by
 refine vm (tb:=agB) (.cons f149 .nil) Tryz.func109 Tryz.ntmps109 fun a0 r hr stop S=> ?_
 rw [qU,YR] at hr
 refine S.gx [] ?_
 refine gr ?_
 refine S.sees [0,1,7,8] [] [] ?_ (Stop.iter S (fun s1=>⟨[(0,.c (.d (ah 1 cO a0))),(1,.c (.clo 149 [])),(7,.c (.d (.int .i64 (a0.length:Int)))),(8,.c (.d (.int .i64 s1)))],[],[]⟩) (Jm a0) (fun q=>q=r) hr rfl ?_)
 ·exact lf
 ·intro s1 hr
  unfold Jm at hr
  refine S.gx [] ?_
  exact D1 (S.ss [0,1,7,8] [] []) hr
def r76 (a0:aZ):Option (Bool):=
 (YR a0).bind fun v1=>
  some (decide (v1≥0))
@[go_sem] def T76:=ahz qj false r76
@[go_sem] def ayg (k:Nat):=lk [(109,agc.sp)] k
theorem f76:aF Tryz.prog 76 T76.sp:=by
 refine vm (tb:=ayg) (.cons atb .nil) Tryz.func76 Tryz.ntmps76 fun a0 r hr stop S=> ?_
 rw [qU,r76] at hr
 refine S.gx [] ?_
 exact D0 hr
def Oz (x1 x2:Int) (x3:au) (x4:aj) (x5:au) (x0:aj) (a1:Int):Option (Int):=
 (VY a1 0 (IntKind.i64.wrap ((x0.length:Int) - 1))).bind fun v1=>
  (nM v1 6).bind fun v2=>
   some v2
@[go_sem] def ajs:=adQ lF false Oz
@[go_sem] def amO (k:Nat):=lk [(83,T83.sp),(118,Js.sp)] k
theorem f151:aF Tryz.prog 151 ajs.sp:=by
 refine vm (tb:=amO) (.cons f83 (.cons f118 .nil)) Tryz.func151 Tryz.ntmps151 fun ⟨x1,x2,x3,x4,x5,x0,a1⟩ r hr stop S=> ?_
 rw [GY,Oz] at hr
 refine S.gx [] ?_
 exact D0 hr
def ahk (x0 x2:Int) (x3:au) (x4:aj) (x5:au) (x6:aj) (x1:aZ) (x7:Int):Option (Int):=
 (r76 x1).bind fun v1=>
  (nM ((x1.length:Int) == x0) 10).bind fun v2=>
   (nM (!v1) 2).bind fun v3=>
    (Oz x0 x2 x3 x4 x5 x6 x7).bind fun v4=>
     (zW [v2,v3,v4]).bind fun v5=>
      some v5
@[go_sem] def au6:=ard lF false ahk
@[go_sem] def anf (k:Nat):=lk [(76,T76.sp),(117,QX.sp),(118,Js.sp),(151,ajs.sp)] k
theorem f107:aF Tryz.prog 107 au6.sp:=by
 refine vm (tb:=anf) (.cons f76 (.cons f117 (.cons f118 (.cons f151 .nil)))) Tryz.func107 Tryz.ntmps107 fun ⟨x0,x2,x3,x4,x5,x6,x1,x7⟩ r hr stop S=> ?_
 rw [uq8,ahk] at hr
 refine S.gx [] ?_
 exact D0 hr
def Kt (a0:List (Int)):Option (List (Int)):=if a0.length*8≤140737488355328∧a0.length≤9223372036854775807 then some a0 else none
def EL:rE (List (Int)) where
 enc x:=[.c (ah 1 cO x)]
 dec a:=aG jM (abT a 0 0)
 pre x:=(Kt x).isSome=true
 res x:=[.c (.own (ah 1 cO ((Kt x).getD default)))]
 al:=false
theorem atG (c0:D):EL.sp.pre [.c c0]=(eqvArgs [.c c0] [.c (ah 1 cO (aG jM c0))]∧(Kt (aG jM c0)).isSome=true):=(rfl)
theorem atF (c0:D):EL.sp.res [.c c0]=[.c (.own (ah 1 cO ((Kt (aG jM c0)).getD default)))]:=(rfl)
theorem atH:EL.sp.alias=false:=(rfl)
attribute [go_sem] atG atF atH
theorem v152:Valid Tryz.prog 152 EL.sp:=by
 refine Q7 (fn:=Tryz.f152) (n:=8) bT fE.nil Tryz.func152 rfl Tryz.ntmps152 ?_
 rintro a0 hx
 obtain ⟨r,hr⟩:=oE (show (Kt a0).isSome=true from hx)
 have hres:EL.res a0=[.c (.own (ah 1 cO r))]:=by simp only [EL,hr,Option.getD_some]
 refine ⟨nL rfl,fun stop S=> ?_⟩
 rw [hres] at S
 unfold Kt at hr
 obtain ⟨hg,hr⟩:=aH hr
 cases hr
 refine S.goB [1] 1000 ?_
 simp only [go_sem,EL,Bool.not_true,Bool.not_false,Option.map_some,Int.reduceToNat,Nat.reduceEqDiff,Nat.reduceBEq,Nat.reduceLT,Nat.reduceAdd,Nat.reduceMul,Nat.reduceSub,Nat.reduceLeDiff, ↓reduceIte,reduceCtorEq,Tryz.results152]
 refine S.atc 0 3 4 26 26 3 rfl rfl rfl rfl rfl rfl rfl rfl rfl rfl (by decide) (by decide) ?_
 intro b hb
 refine S.goB [] 1000 ?_
 simp only [go_sem,EL,Bool.not_true,Bool.not_false,Option.map_some,Int.reduceToNat,Nat.reduceEqDiff,Nat.reduceBEq,Nat.reduceLT,Nat.reduceAdd,Nat.reduceMul,Nat.reduceSub,Nat.reduceLeDiff, ↓reduceIte,reduceCtorEq,Tryz.results152]
 have hb':b=true→a0.length=0:=hb
 refine ⟨?_,?_⟩<;>intro hc
 ·simpa using hb' hc
 ·refine ⟨by omega,by omega,?_⟩
  (simp (maxDischargeDepth:=8) [go_sem])
theorem f152:aF Tryz.prog 152 EL.sp:=⟨⟨Tryz.f152,Tryz.func152,by decide,rfl⟩,v152⟩
def BH (a0 a1:Int):Option (Int):=
 if a1≠0 then
  if a1≠0 then
   if (decide ((a0.tmod a1)<0))=true then
    some (IntKind.i64.wrap ((IntKind.i64.wrap (a0.tdiv a1)) - 1))
    else some (IntKind.i64.wrap (a0.tdiv a1))
   else none
  else none
@[go_sem] def ajp:=qT7 lF false BH
theorem f191:aF Tryz.prog 191 ajp.sp:=by
 refine vm .nil Tryz.func191 Tryz.ntmps191 fun ⟨a0,a1⟩ r hr stop S=> ?_
 rw [wo,BH] at hr
 refine S.gx [] ?_
 exact D0 hr
def V6 (x1 x2:Int) (x3:au) (x4:aj) (x5:au) (x0:aj) (a1 a2:Int):Option (Int):=
 if 0≤a1∧a1<(x0.length:Int) then
  (yg x1 x2 x3 x4 x5 x0 a2).bind fun v1=>
   (zV (x0.getD a1.toNat default) v1.1 v1.2).bind fun v2=>
    (BH v2.1 v2.2).bind fun v3=>
     some v3
  else none
@[go_sem] def auJ:=arb lF false V6
@[go_sem] def amN (k:Nat):=lk [(122,ae6.sp),(157,ae3.sp),(191,ajp.sp)] k
theorem f154:aF Tryz.prog 154 auJ.sp:=by
 refine vm (tb:=amN) (.cons f122 (.cons f157 (.cons f191 .nil))) Tryz.func154 Tryz.ntmps154 fun ⟨x1,x2,x3,x4,x5,x0,a1,a2⟩ r hr stop S=> ?_
 rw [uq8,V6] at hr
 refine S.gx [] ?_
 exact D0 hr
def adE (a0 x0 x1:Int) (x2:au) (x3:aj) (x4:au) (x5:aj):Option (Bool):=
 (Oy x0 x1 x2 x3 x4 x5 a0).bind fun v1=>
  some (!v1)
@[go_sem] def auI:=ahA qj false adE
@[go_sem] def amM (k:Nat):=lk [(156,ae4.sp)] k
theorem f155:aF Tryz.prog 155 auI.sp:=by
 refine vm (tb:=amM) (.cons f156 .nil) Tryz.func155 Tryz.ntmps155 fun ⟨a0,x0,x1,x2,x3,x4,x5⟩ r hr stop S=> ?_
 rw [GY,adE] at hr
 refine S.gx [] ?_
 exact D0 hr
def xR (a0:aZ) (x0 x1:Int) (x2:au) (x3:aj) (x4:au) (x5:aj):Bd Int Int:=fun s1=>
 if (decide (s1<(a0.length:Int)))=true then
  if 0≤s1∧s1<(a0.length:Int) then
   aP (adE (a0.getD s1.toNat default) x0 x1 x2 x3 x4 x5) fun v1=>
    if v1=true then
     .out (some s1)
     else .next (IntKind.i64.wrap (s1+1))
   else .out none
  else .out (some (-1))
def Ku (a0:aZ) (x0 x1:Int) (x2:au) (x3:aj) (x4:au) (x5:aj):Option (Int):=
 aS (xR a0 x0 x1 x2 x3 x4 x5) 1000000000 0
@[go_sem] def agb:=ahy lF false Ku
@[go_sem] def agA (k:Nat):=lk [(155,auI.sp)] k
theorem ata:aF Tryz.prog 109 agb.sp:=by
 refine vm (tb:=agA) (.cons f155 .nil) Tryz.func109 Tryz.ntmps109 fun ⟨a0,x0,x1,x2,x3,x4,x5⟩ r hr stop S=> ?_
 rw [GY,Ku] at hr
 refine S.gx [] ?_
 refine gr ?_
 refine S.sees [0,1,7,8] [] [] ?_ (Stop.iter S (fun s1=>⟨[(0,.c (.d (ah 1 cO a0))),(1,.c (.clo 155 [.dL [.int .i64 x0,.int .i64 x1,ah 2 aO x2,ah 1 aN x3,ah 2 aO x4,ah 1 aN x5] 0])),(7,.c (.d (.int .i64 (a0.length:Int)))),(8,.c (.d (.int .i64 s1)))],[],[]⟩) (xR a0 x0 x1 x2 x3 x4 x5) (fun q=>q=r) hr rfl ?_)
 ·exact lf
 ·intro s1 hr
  unfold xR at hr
  refine S.gx [] ?_
  exact D1 (S.ss [0,1,7,8] [] []) hr
def Ot (a0:aZ) (x0 x1:Int) (x2:au) (x3:aj) (x4:au) (x5:aj):Option (Bool):=
 (Ku a0 x0 x1 x2 x3 x4 x5).bind fun v1=>
  some (decide (v1≥0))
@[go_sem] def atK:=ahy qj false Ot
@[go_sem] def amf (k:Nat):=lk [(109,agb.sp)] k
theorem as8:aF Tryz.prog 76 atK.sp:=by
 refine vm (tb:=amf) (.cons ata .nil) Tryz.func76 Tryz.ntmps76 fun ⟨a0,x0,x1,x2,x3,x4,x5⟩ r hr stop S=> ?_
 rw [GY,Ot] at hr
 refine S.gx [] ?_
 exact D0 hr
def vW (x1 x0:Int) (x2:au) (x3:aj) (x4:au) (x5:aj) (x6:aZ) (v20:Int):Bd (Int×(List (Int))) (aZ×Int×Int):=fun s3=>
 if (decide (s3.1<(x6.length:Int)))=true then
  if 0≤s3.1∧s3.1<(x6.length:Int) then
   if 0≤s3.1∧s3.1<(s3.2.length:Int) then
    if 0≤s3.1∧s3.1<(s3.2.length:Int) then
     .next (IntKind.i64.wrap (s3.1+1),s3.2.set s3.1.toNat (IntKind.i64.wrap ((s3.2.getD s3.1.toNat default)+(x6.getD s3.1.toNat default))))
     else .out none
    else .out none
   else .out none
  else .out ((Ot s3.2 x1 x0 x2 x3 x4 x5).bind fun v24=>
   (nM (!v24) 22).bind fun v25=>
    some (s3.2,v20,v25))
def y7 (x1 x0:Int) (x2:au) (x3:aj) (x4:au) (x5:aj) (x6:aZ) (x7:Int):Bd (Int×(List (Int))) (aZ×Int×Int):=fun s2=>
 if (decide ((IntKind.i64.wrap (s2.1+1))<(s2.2.length:Int)))=true then
  if 0≤s2.1∧s2.1<(s2.2.length:Int) then
   aP (yg x1 x0 x2 x3 x4 x5 (s2.2.getD s2.1.toNat default)) fun v11=>
    if 0≤IntKind.i64.wrap (s2.1+1)∧IntKind.i64.wrap (s2.1+1)<(s2.2.length:Int) then
     aP (yg x1 x0 x2 x3 x4 x5 (s2.2.getD (IntKind.i64.wrap (s2.1+1)).toNat default)) fun v12=>
      aP (BH (IntKind.i64.wrap (x0*(IntKind.i64.wrap ((IntKind.i64.wrap (v11.1*v12.2)) - (IntKind.i64.wrap (v12.1*v11.2)))))) (IntKind.i64.wrap ((IntKind.i64.wrap (1000*v11.2))*v12.2))) fun v13=>
       if 0≤s2.1∧s2.1<(s2.2.length:Int) then
        if 0≤IntKind.i64.wrap (s2.1+1)∧IntKind.i64.wrap (s2.1+1)<(s2.2.length:Int) then
         if 0≤s2.1∧s2.1<(s2.2.length:Int) then
          if 0≤IntKind.i64.wrap (s2.1+1)∧IntKind.i64.wrap (s2.1+1)<(s2.2.length:Int) then
           .next (IntKind.i64.wrap (s2.1+2),(s2.2.set s2.1.toNat (IntKind.i64.wrap ((s2.2.getD s2.1.toNat default) - v13))).set (IntKind.i64.wrap (s2.1+1)).toNat (IntKind.i64.wrap ((s2.2.getD (IntKind.i64.wrap (s2.1+1)).toNat default)+v13)))
           else .out none
          else .out none
         else .out none
        else .out none
     else .out none
   else .out none
  else .out (if 0≤0∧0<(s2.2.length:Int) then
   (V6 x1 x0 x2 x3 x4 x5 x7 (s2.2.getD 0 default)).bind fun v20=>
    if 0≤0∧0<(s2.2.length:Int) then
     if 0≤0∧0<(s2.2.length:Int) then
      aS (vW x1 x0 x2 x3 x4 x5 x6 v20) 1000000000 (0,s2.2.set 0 (IntKind.i64.wrap ((s2.2.getD 0 default) - v20)))
      else none
     else none
   else none)
def D6 (x1 x0:Int) (x2:au) (x3:aj) (x4:au) (x5:aj) (x6:aZ) (x7:Int):Bd (Int×(List (Int))) (aZ×Int×Int):=fun s1=>
 if (decide ((IntKind.i64.wrap (s1.1+1))<(s1.2.length:Int)))=true then
  if 0≤s1.1∧s1.1<(s1.2.length:Int) then
   aP (yg x1 x0 x2 x3 x4 x5 (s1.2.getD s1.1.toNat default)) fun v2=>
    if 0≤IntKind.i64.wrap (s1.1+1)∧IntKind.i64.wrap (s1.1+1)<(s1.2.length:Int) then
     aP (yg x1 x0 x2 x3 x4 x5 (s1.2.getD (IntKind.i64.wrap (s1.1+1)).toNat default)) fun v3=>
      aP (BH (IntKind.i64.wrap (x0*(IntKind.i64.wrap ((IntKind.i64.wrap (v2.1*v3.2)) - (IntKind.i64.wrap (v3.1*v2.2)))))) (IntKind.i64.wrap ((IntKind.i64.wrap (1000*v2.2))*v3.2))) fun v4=>
       if 0≤s1.1∧s1.1<(s1.2.length:Int) then
        if 0≤IntKind.i64.wrap (s1.1+1)∧IntKind.i64.wrap (s1.1+1)<(s1.2.length:Int) then
         if 0≤s1.1∧s1.1<(s1.2.length:Int) then
          if 0≤IntKind.i64.wrap (s1.1+1)∧IntKind.i64.wrap (s1.1+1)<(s1.2.length:Int) then
           .next (IntKind.i64.wrap (s1.1+2),(s1.2.set s1.1.toNat (IntKind.i64.wrap ((s1.2.getD s1.1.toNat default) - v4))).set (IntKind.i64.wrap (s1.1+1)).toNat (IntKind.i64.wrap ((s1.2.getD (IntKind.i64.wrap (s1.1+1)).toNat default)+v4)))
           else .out none
          else .out none
         else .out none
        else .out none
     else .out none
   else .out none
  else .out (aS (y7 x1 x0 x2 x3 x4 x5 x6 x7) 1000000000 (1,s1.2))
def Kv (x1 x0:Int) (x2:au) (x3:aj) (x4:au) (x5:aj) (a1 x6:aZ) (x7:Int):Option (aZ×Int×Int):=
 (Kt a1).bind fun v1=>
  aS (D6 x1 x0 x2 x3 x4 x5 x6 x7) 1000000000 (0,v1)
@[go_sem] def ajA:=ara apa false Kv
@[go_sem] def afg (k:Nat):=lk [(76,atK.sp),(118,Js.sp),(152,EL.sp),(154,auJ.sp),(157,ae3.sp),(191,ajp.sp)] k
theorem JW:fE Tryz.prog afg:= .cons as8 (.cons f118 (.cons f152 (.cons f154 (.cons f157 (.cons f191 .nil)))))
theorem f108:aF Tryz.prog 108 ajA.sp:=by
 refine vm (tb:=afg) (.cons as8 (.cons f118 (.cons f152 (.cons f154 (.cons f157 (.cons f191 .nil)))))) Tryz.func108 Tryz.ntmps108 fun ⟨x1,x0,x2,x3,x4,x5,a1,x6,x7⟩ r hr stop S=> ?_
 rw [NC,Kv] at hr
 refine S.gx [2,3] ?_
 obtain ⟨v1,hv1,hr⟩:=aA hr
 refine gb hv1 ?_
 refine S.inl 2 [3,5,9] [] Tryz.func153 (by decide) rfl Tryz.ntmps153 (fun cx e=>aV bT JW cx e) (some 18) rfl rfl rfl rfl (nL rfl) (nL rfl) ?_
 refine gs ?_
 refine gr ?_
 intro stop1 S1
 refine S1.gx [6] ?_
 refine gr ?_
 refine S1.sees [1,3,6] [(100003,100003),(3,3),(5,5)] [(15,15)] ?_ (Stop.iter S1 (fun s1=>⟨[(1,.c (.own 15)),(3,.c (.ref 100003 0)),(6,.c (.d (.int .i64 s1.1)))],[(100003,[.d (.int .i64 x1),.d (.int .i64 x0),.d (ah 2 aO x2),.d (ah 1 aN x3),.d (ah 2 aO x4),.d (ah 1 aN x5)]),(3,[.d (.int .i64 x1),.d (.int .i64 x0),.d (ah 2 aO x2),.d (ah 1 aN x3),.d (ah 2 aO x4),.d (ah 1 aN x5)]),(5,[.d (ah 1 cO x6),.d (.int .i64 x7)])],[(15,.owned (ah 1 cO s1.2))]⟩) (D6 x1 x0 x2 x3 x4 x5 x6 x7) (fun q=>q=r) hr rfl ?_)
 ·exact lf
 ·intro s1 hr
  unfold D6 at hr
  refine S1.gx [6] ?_
  refine gr ?_
  refine dN hr (fun hc hr=> ?_) fun hc hr=> ?_
  ·obtain ⟨O9,hr⟩:=aC hr
   obtain ⟨v2,hv2,hr⟩:=aQ hr
   obtain ⟨vH,hr⟩:=aC hr
   obtain ⟨v3,hv3,hr⟩:=aQ hr
   obtain ⟨v4,hv4,hr⟩:=aQ hr
   refine gb hv2 ?_
   refine gb hv3 ?_
   refine gb hv4 ?_
   refine S1.prune [1,3,6,9] ?_
   refine S1.gx [] ?_
   exact D1 (S1.ss [1,3,6] [(100003,100003),(3,3),(5,5)] [(15,15)]) hr
  ·refine gr ?_
   have hr:=bK hr
   refine gr ?_
   refine gr ?_
   refine S.gx [2,3] ?_
   refine gr ?_
   refine S.inl 2 [3,5,9] [] Tryz.func153 (by decide) rfl Tryz.ntmps153 (fun cx e=>aV bT JW cx e) (some 21) rfl rfl rfl rfl (nL rfl) (nL rfl) ?_
   refine gs ?_
   refine gr ?_
   intro stop1 S1
   refine S1.gx [6] ?_
   refine gr ?_
   refine S1.sees [1,3,6] [(200003,200003),(3,3),(5,5)] [(15,15)] ?_ (Stop.iter S1 (fun s2=>⟨[(1,.c (.own 15)),(3,.c (.ref 200003 0)),(6,.c (.d (.int .i64 s2.1)))],[(200003,[.d (.int .i64 x1),.d (.int .i64 x0),.d (ah 2 aO x2),.d (ah 1 aN x3),.d (ah 2 aO x4),.d (ah 1 aN x5)]),(3,[.d (.int .i64 x1),.d (.int .i64 x0),.d (ah 2 aO x2),.d (ah 1 aN x3),.d (ah 2 aO x4),.d (ah 1 aN x5)]),(5,[.d (ah 1 cO x6),.d (.int .i64 x7)])],[(15,.owned (ah 1 cO s2.2))]⟩) (y7 x1 x0 x2 x3 x4 x5 x6 x7) (fun q=>q=r) hr rfl ?_)
   ·exact lf
   ·intro s2 hr
    unfold y7 at hr
    refine S1.gx [6] ?_
    refine gr ?_
    refine dN hr (fun hc hr=> ?_) fun hc hr=> ?_
    ·obtain ⟨aAk,hr⟩:=aC hr
     obtain ⟨v11,IC,hr⟩:=aQ hr
     obtain ⟨aiP,hr⟩:=aC hr
     obtain ⟨v12,O5,hr⟩:=aQ hr
     obtain ⟨v13,ZW,hr⟩:=aQ hr
     refine gb IC ?_
     refine gb O5 ?_
     refine gb ZW ?_
     refine S1.prune [1,3,6,9] ?_
     refine S1.gx [] ?_
     exact D1 (S1.ss [1,3,6] [(200003,200003),(3,3),(5,5)] [(15,15)]) hr
    ·refine gr ?_
     have hr:=bK hr
     refine gr ?_
     refine gr ?_
     refine S.gx [2,3] ?_
     obtain ⟨aFm,hr⟩:=aH hr
     obtain ⟨v20,IB,hr⟩:=aA hr
     obtain ⟨aAh,hr⟩:=aH hr
     obtain ⟨aAg,hr⟩:=aH hr
     refine gb IB ?_
     refine S.sees [3,9,10,36,37,38] [(3,3)] [(15,15)] ?_ (Stop.iter S (fun s3=>⟨[(3,.c (.ref 3 0)),(9,.c (.own 15)),(10,.c (.d (.int .i64 v20))),(36,.c (.d (ah 1 cO x6))),(37,.c (.d (.int .i64 (x6.length:Int)))),(38,.c (.d (.int .i64 s3.1)))],[(3,[.d (.int .i64 x1),.d (.int .i64 x0),.d (ah 2 aO x2),.d (ah 1 aN x3),.d (ah 2 aO x4),.d (ah 1 aN x5)])],[(15,.owned (ah 1 cO s3.2))]⟩) (vW x1 x0 x2 x3 x4 x5 x6 v20) (fun q=>q=r) hr rfl ?_)
     ·exact lf
     ·intro s3 hr
      unfold vW at hr
      refine S.gx [2,3] ?_
      exact D1 (S.ss [3,9,10,36,37,38] [(3,3)] [(15,15)]) hr
def r73 (x2 x3:Int) (x4:au) (x5:aj) (a1 x0:aZ) (x1:Int):Option (aZ×Int):=
 (ahl x2 x3 x4 x5 a1).bind fun v1=>
  if (v1.2.2.2.2.2.2 == 0)=true then
   (ahk v1.1 v1.2.1 v1.2.2.1 v1.2.2.2.1 v1.2.2.2.2.1 v1.2.2.2.2.2.1 x0 x1).bind fun v2=>
    if (v2 != 0)=true then
     some ([],v2)
     else (Kv v1.1 v1.2.1 v1.2.2.1 v1.2.2.2.1 v1.2.2.2.2.1 v1.2.2.2.2.2.1 a1 x0 x1).bind fun v3=>
      if (v3.2.2 != 0)=true then
       some ([],v3.2.2)
       else some (v3.1,0)
   else if (v1.2.2.2.2.2.2 != 0)=true then
    some ([],v1.2.2.2.2.2.2)
    else (Kv v1.1 v1.2.1 v1.2.2.1 v1.2.2.2.1 v1.2.2.2.2.1 v1.2.2.2.2.2.1 a1 x0 x1).bind fun v4=>
     if (v4.2.2 != 0)=true then
      some ([],v4.2.2)
      else some (v4.1,0)
@[go_sem] def T73:=aq9 ao9 false r73
@[go_sem] def ayi (k:Nat):=lk [(106,au7.sp),(107,au6.sp),(108,ajA.sp)] k
theorem f73:aF Tryz.prog 73 T73.sp:=by
 refine vm (tb:=ayi) (.cons f106 (.cons f107 (.cons f108 .nil))) Tryz.func73 Tryz.ntmps73 fun ⟨x2,x3,x4,x5,a1,x0,x1⟩ r hr stop S=> ?_
 rw [GY,r73] at hr
 refine S.gx [7] ?_
 obtain ⟨v1,hv1,hr⟩:=aA hr
 refine gb hv1 ?_
 refine iW hr (fun hc hr=> ?_) fun hc hr=> ?_
 ·obtain ⟨v2,hv2,hr⟩:=aA hr
  refine gb hv2 ?_
  refine iW hr (fun hc hr=>D0 hr) fun hc hr=> ?_
  obtain ⟨v3,hv3,hr⟩:=aA hr
  refine gb hv3 ?_
  refine S.prune [9,10] ?_
  refine S.gx [] ?_
  exact D0 hr
 ·refine gr ?_
  refine iW hr (fun hc hr=>D0 hr) fun hc hr=> ?_
  obtain ⟨v4,hv4,hr⟩:=aA hr
  refine gb hv4 ?_
  refine S.prune [9,10] ?_
  refine S.gx [] ?_
  exact D0 hr
end Go.Proofs.YtofkgmldcjagmaaGreatDoor

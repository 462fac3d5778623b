/- Contracts of functions, written by wip/dec. -/
import Derived.Test.YtofkgmldcjagmaaGreatDoorF00
import Derived.Test.YtofkgmldcjagmaaGreatDoorF01
import Derived.Test.YtofkgmldcjagmaaGreatDoorF02
import Derived.Test.YtofkgmldcjagmaaGreatDoorF03
import Derived.Test.YtofkgmldcjagmaaGreatDoorF04
import Derived.Test.YtofkgmldcjagmaaGreatDoorF05
set_option linter.unusedVariables false
set_option linter.unusedSimpArgs false
set_option linter.constructorNameAsVariable false
set_option maxHeartbeats 4000000
set_option maxRecDepth 20000
namespace Go.Proofs.YtofkgmldcjagmaaGreatDoor
open Go.dJ
section
variable {β:Type} [Inhabited β] (u:β→List RV) (al:Bool)
def aok (a0 a1:Int) (a2:au) (a3:aj) (a4 a5:aZ) (a6:au) (a7 a8:Int) (a9:bg) (a10:aW) (a11:bf) (a12:au) (jL kH kF a16:Int) (a17:bf) (mW:Int):List Arg:=[.agg [.int .i64 a0,.int .i64 a1,ah 2 aO a2,ah 1 aN a3,ah 1 cO a4,ah 1 cO a5,ah 2 aO a6,.int .i64 a7,.int .i64 a8,ah 4 cZ a9,ah 5 bU a10,ah 3 dh a11,ah 2 aO a12,.int .i64 jL,.int .i64 kH,.int .i64 kF,.int .i64 a16,ah 3 dh a17,.int .i64 mW]]
def ap1:List Arg→Int×Int×au×aj×aZ×aZ×au×Int×Int×bg×aW×bf×au×Int×Int×Int×Int×bf×Int
 | [.agg [c0,c1,c2,c3,c4,c5,c6,c7,c8,c9,c10,c11,c12,c13,c14,c15,c16,c17,c18]]=>(aB c0,aB c1,aG bY c2,aG bP c3,aG jM c4,aG jM c5,aG bY c6,aB c7,aB c8,aG jA c9,aG gX c10,aG jB c11,aG bY c12,aB c13,aB c14,aB c15,aB c16,aG jB c17,aB c18)
 | _=>default
def ahw (r:Int→Int→au→aj→aZ→aZ→au→Int→Int→bg→aW→bf→au→Int→Int→Int→Int→bf→Int→Option β):=mkT (u19 aok) ap1 (u19 r) u al
attribute [go_sem] aok ap1 ahw
def aoi (a0 a1:Int) (a2:au) (a3:aj) (a4:au) (a5:aj) (a6:au) (a7 a8:Int):List Arg:=[.agg [.int .i64 a0,.int .i64 a1,ah 2 aO a2,ah 1 aN a3,ah 2 aO a4,ah 1 aN a5],.agg [ah 2 aO a6,.int .i64 a7,.int .i64 a8]]
def apZ:List Arg→Int×Int×au×aj×au×aj×au×Int×Int
 | [.agg [c0,c1,c2,c3,c4,c5],.agg [c6,c7,c8]]=>(aB c0,aB c1,aG bY c2,aG bP c3,aG bY c4,aG bP c5,aG bY c6,aB c7,aB c8)
 | _=>default
def aq6 (r:Int→Int→au→aj→au→aj→au→Int→Int→Option β):=mkT (u9 aoi) apZ (u9 r) u al
attribute [go_sem] aoi apZ aq6
def aoh (a0 a1:Int) (a2:au) (a3:aj) (a4:au) (a5:aj) (a6:bQ):List Arg:=[.agg [.int .i64 a0,.int .i64 a1,ah 2 aO a2,ah 1 aN a3,ah 2 aO a4,ah 1 aN a5],.c (ah 3 dH a6)]
def apY:List Arg→Int×Int×au×aj×au×aj×bQ
 | [.agg [c0,c1,c2,c3,c4,c5],.c c6]=>(aB c0,aB c1,aG bY c2,aG bP c3,aG bY c4,aG bP c5,aG jT c6)
 | _=>default
def aq5 (r:Int→Int→au→aj→au→aj→bQ→Option β):=mkT (u7 aoh) apY (u7 r) u al
attribute [go_sem] aoh apY aq5
def aog (a0:au) (a1 a2:Int):List Arg:=[.agg [ah 2 aO a0,.int .i64 a1,.int .i64 a2]]
def apX:List Arg→au×Int×Int
 | [.agg [c0,c1,c2]]=>(aG bY c0,aB c1,aB c2)
 | _=>default
def aq4 (r:au→Int→Int→Option β):=mkT (u3 aog) apX (u3 r) u al
attribute [go_sem] aog apX aq4
def aof (a0 a1:Int) (a2:au) (a3:aj) (a4:au) (a5:aj) (a6 a7:aZ) (a8:au) (a9 a10:Int):List Arg:=[.agg [.int .i64 a0,.int .i64 a1,ah 2 aO a2,ah 1 aN a3,ah 2 aO a4,ah 1 aN a5],.agg [ah 1 cO a6,ah 1 cO a7],.agg [ah 2 aO a8,.int .i64 a9,.int .i64 a10]]
def apW:List Arg→Int×Int×au×aj×au×aj×aZ×aZ×au×Int×Int
 | [.agg [c0,c1,c2,c3,c4,c5],.agg [c6,c7],.agg [c8,c9,c10]]=>(aB c0,aB c1,aG bY c2,aG bP c3,aG bY c4,aG bP c5,aG jM c6,aG jM c7,aG bY c8,aB c9,aB c10)
 | _=>default
def aq3 (r:Int→Int→au→aj→au→aj→aZ→aZ→au→Int→Int→Option β):=mkT (u11 aof) apW (u11 r) u al
attribute [go_sem] aof apW aq3
def aoe (a0 a1:Int) (a2:au) (a3:aj) (a4:au) (a5:aj) (a6 a7:aZ) (a8:bQ):List Arg:=[.agg [.int .i64 a0,.int .i64 a1,ah 2 aO a2,ah 1 aN a3,ah 2 aO a4,ah 1 aN a5],.agg [ah 1 cO a6,ah 1 cO a7],.c (ah 3 dH a8)]
def apV:List Arg→Int×Int×au×aj×au×aj×aZ×aZ×bQ
 | [.agg [c0,c1,c2,c3,c4,c5],.agg [c6,c7],.c c8]=>(aB c0,aB c1,aG bY c2,aG bP c3,aG bY c4,aG bP c5,aG jM c6,aG jM c7,aG jT c8)
 | _=>default
def aq2 (r:Int→Int→au→aj→au→aj→aZ→aZ→bQ→Option β):=mkT (u9 aoe) apV (u9 r) u al
attribute [go_sem] aoe apV aq2
def ao5 (v:Int×Int×au×aj×aZ×aZ×au×Int×Int×Int×Int×au×aj×aZ×aZ×au×Int×Int×bg×aW×bf×au×Int×Int×Int×Int×bf×Int×Int):List RV:=[.agg [.d (.int .i64 v.1),.d (.int .i64 v.2.1),.d (ah 2 aO v.2.2.1),.d (ah 1 aN v.2.2.2.1),.d (ah 1 cO v.2.2.2.2.1),.d (ah 1 cO v.2.2.2.2.2.1),.d (ah 2 aO v.2.2.2.2.2.2.1),.d (.int .i64 v.2.2.2.2.2.2.2.1),.d (.int .i64 v.2.2.2.2.2.2.2.2.1),.d (.int .i64 v.2.2.2.2.2.2.2.2.2.1),.d (.int .i64 v.2.2.2.2.2.2.2.2.2.2.1),.d (ah 2 aO v.2.2.2.2.2.2.2.2.2.2.2.1),.d (ah 1 aN v.2.2.2.2.2.2.2.2.2.2.2.2.1),.d (ah 1 cO v.2.2.2.2.2.2.2.2.2.2.2.2.2.1),.d (ah 1 cO v.2.2.2.2.2.2.2.2.2.2.2.2.2.2.1),.d (ah 2 aO v.2.2.2.2.2.2.2.2.2.2.2.2.2.2.2.1),.d (.int .i64 v.2.2.2.2.2.2.2.2.2.2.2.2.2.2.2.2.1),.d (.int .i64 v.2.2.2.2.2.2.2.2.2.2.2.2.2.2.2.2.2.1),.d (ah 4 cZ v.2.2.2.2.2.2.2.2.2.2.2.2.2.2.2.2.2.2.1),.d (ah 5 bU v.2.2.2.2.2.2.2.2.2.2.2.2.2.2.2.2.2.2.2.1),.d (ah 3 dh v.2.2.2.2.2.2.2.2.2.2.2.2.2.2.2.2.2.2.2.2.1),.d (ah 2 aO v.2.2.2.2.2.2.2.2.2.2.2.2.2.2.2.2.2.2.2.2.2.1),.d (.int .i64 v.2.2.2.2.2.2.2.2.2.2.2.2.2.2.2.2.2.2.2.2.2.2.1),.d (.int .i64 v.2.2.2.2.2.2.2.2.2.2.2.2.2.2.2.2.2.2.2.2.2.2.2.1),.d (.int .i64 v.2.2.2.2.2.2.2.2.2.2.2.2.2.2.2.2.2.2.2.2.2.2.2.2.1),.d (.int .i64 v.2.2.2.2.2.2.2.2.2.2.2.2.2.2.2.2.2.2.2.2.2.2.2.2.2.1),.d (ah 3 dh v.2.2.2.2.2.2.2.2.2.2.2.2.2.2.2.2.2.2.2.2.2.2.2.2.2.2.1),.d (.int .i64 v.2.2.2.2.2.2.2.2.2.2.2.2.2.2.2.2.2.2.2.2.2.2.2.2.2.2.2.1)],.c (.d (.int .i64 v.2.2.2.2.2.2.2.2.2.2.2.2.2.2.2.2.2.2.2.2.2.2.2.2.2.2.2.2))]
attribute [go_sem] ao5
def ao4 (v:aZ×Int×aZ×Int):List RV:=[.agg [.own (ah 1 cO v.1),.d (.int .i64 v.2.1)],.agg [.own (ah 1 cO v.2.2.1),.d (.int .i64 v.2.2.2)]]
attribute [go_sem] ao4
def ao3 (v:aZ×aZ×Int):List RV:=[.agg [.own (ah 1 cO v.1),.own (ah 1 cO v.2.1)],.c (.d (.int .i64 v.2.2))]
attribute [go_sem] ao3
def aho (v:eU×Int):List RV:=[.c (.own (ah 2 fO v.1)),.c (.d (.int .i64 v.2))]
attribute [go_sem] aho
end
def ag5 (a0 a1:Int):Option (Bool):=
 (Kr a0).bind fun v1=>
  if v1=true→(Kr a1).isSome=true then
   some ((v1 && (!((Kr a1).getD default))) || (decide (a0<a1)))
   else none
@[go_sem] def auj:=qT7 qj false ag5
@[go_sem] def amr (k:Nat):=lk [(193,ajo.sp)] k
theorem f198:aF Tryz.prog 198 auj.sp:=by
 refine vm (tb:=amr) (.cons f193 .nil) Tryz.func198 Tryz.ntmps198 fun ⟨a0,a1⟩ r hr stop S=> ?_
 rw [wo,ag5] at hr
 refine S.gx [] ?_
 obtain ⟨v1,hv1,hr⟩:=aA hr
 obtain ⟨hg2,hr⟩:=aH hr
 try simp only [hv1,oG,oI,true_and,and_assoc]
 repeat (first | refine gG hg2 ?_ | refine gA ?_ | refine gB ?_)
 exact D0 hr
def Qw (a0:aZ):Bd Int Bool:=fun s1=>
 if (decide (s1>0))=true then
  if 0≤s1∧s1<(a0.length:Int) then
   if 0≤IntKind.i64.wrap (s1 - 1)∧IntKind.i64.wrap (s1 - 1)<(a0.length:Int) then
    aP (ag5 (a0.getD s1.toNat default) (a0.getD (IntKind.i64.wrap (s1 - 1)).toNat default)) fun v1=>
     if v1=true then
      .out (some false)
      else .next (IntKind.i64.wrap (s1 - 1))
    else .out none
   else .out none
  else .out (some true)
def adA (a0:aZ):Option (Bool):=
 aS (Qw a0) 1000000000 (IntKind.i64.wrap ((a0.length:Int) - 1))
@[go_sem] def auv:=qT3 qj false adA
@[go_sem] def amB (k:Nat):=lk [(198,auj.sp)] k
theorem f172:aF Tryz.prog 172 auv.sp:=by
 refine vm (tb:=amB) (.cons f198 .nil) Tryz.func172 Tryz.ntmps172 fun a0 r hr stop S=> ?_
 rw [qU,adA] at hr
 refine S.gx [] ?_
 refine gr ?_
 refine S.sees [0,3] [] [] ?_ (Stop.iter S (fun s1=>⟨[(0,.c (.d (ah 1 cO a0))),(3,.c (.d (.int .i64 s1)))],[],[]⟩) (Qw a0) (fun q=>q=r) hr rfl ?_)
 ·exact lf
 ·intro s1 hr
  unfold Qw at hr
  refine S.gx [] ?_
  exact D1 (S.ss [0,3] [] []) hr
def QN (x0 x1 x2 x3:Int) (v1:bF×bF×bF×bF):Bd ((Option (Int×au×Int))×Int) (Int×Int):=fun s4=>
 if (decide (s4.2<(v1.2.2.2.length:Int)))=true then
  if 0≤s4.2∧s4.2<(v1.2.2.2.length:Int) then
   aP (V4 ((v1.2.2.2.getD s4.2.toNat default).1) ((v1.2.2.2.getD s4.2.toNat default).2.1) ((v1.2.2.2.getD s4.2.toNat default).2.2) s4.1 0) fun v11=>
    if (v11 != 0)=true then
     .out (some (s4.2,v11))
     else if 0≤s4.2∧s4.2<(v1.2.2.2.length:Int) then
      .next (some ((v1.2.2.2.getD s4.2.toNat default).1,(v1.2.2.2.getD s4.2.toNat default).2.1,(v1.2.2.2.getD s4.2.toNat default).2.2),IntKind.i64.wrap (s4.2+1))
      else .out none
   else .out none
  else .out (if (decide ((v1.1.length:Int)>0))=true then
   if (decide ((v1.2.1.length:Int)>0))=true→0≤IntKind.i64.wrap ((v1.2.1.length:Int) - 1)∧IntKind.i64.wrap ((v1.2.1.length:Int) - 1)<(v1.2.1.length:Int) then
    if (decide ((v1.2.1.length:Int)>0))=true→0≤0∧0<(v1.1.length:Int) then
     if ((decide ((v1.2.1.length:Int)>0)) && (decide (((v1.2.1.getD (IntKind.i64.wrap ((v1.2.1.length:Int) - 1)).toNat default).1)≥((v1.1.getD 0 default).1))))=true then
      some (0,13)
      else if (decide ((v1.2.2.1.length:Int)>0))=true→0≤IntKind.i64.wrap ((v1.2.2.1.length:Int) - 1)∧IntKind.i64.wrap ((v1.2.2.1.length:Int) - 1)<(v1.2.2.1.length:Int) then
       if (decide ((v1.2.2.1.length:Int)>0))=true→0≤0∧0<(v1.1.length:Int) then
        if ((decide ((v1.2.2.1.length:Int)>0)) && (decide (((v1.2.2.1.getD (IntKind.i64.wrap ((v1.2.2.1.length:Int) - 1)).toNat default).1)≥((v1.1.getD 0 default).1))))=true then
         some (0,13)
         else if (decide ((v1.2.2.2.length:Int)>0))=true→0≤IntKind.i64.wrap ((v1.2.2.2.length:Int) - 1)∧IntKind.i64.wrap ((v1.2.2.2.length:Int) - 1)<(v1.2.2.2.length:Int) then
          if (decide ((v1.2.2.2.length:Int)>0))=true→0≤0∧0<(v1.1.length:Int) then
           if ((decide ((v1.2.2.2.length:Int)>0)) && (decide (((v1.2.2.2.getD (IntKind.i64.wrap ((v1.2.2.2.length:Int) - 1)).toNat default).1)≥((v1.1.getD 0 default).1))))=true then
            some (0,13)
            else (adl [x0,x1,x2,x3]).bind fun v14=>
             (iH (!v14) 2).bind fun v15=>
              (adA [x0,x1,x2,x3]).bind fun v16=>
               (iH v16 9).bind fun v17=>
                (rG [v15,v17]).bind fun v18=>
                 some (0,v18)
           else none
          else none
        else none
       else none
     else none
    else none
   else (adl [x0,x1,x2,x3]).bind fun v25=>
    (iH (!v25) 2).bind fun v26=>
     (adA [x0,x1,x2,x3]).bind fun v27=>
      (iH v27 9).bind fun v28=>
       (rG [v26,v28]).bind fun v29=>
        some (0,v29))
def QO (x0 x1 x2 x3:Int) (v1:bF×bF×bF×bF):Bd ((Option (Int×au×Int))×Int) (Int×Int):=fun s3=>
 if (decide (s3.2<(v1.2.2.1.length:Int)))=true then
  if 0≤s3.2∧s3.2<(v1.2.2.1.length:Int) then
   aP (V4 ((v1.2.2.1.getD s3.2.toNat default).1) ((v1.2.2.1.getD s3.2.toNat default).2.1) ((v1.2.2.1.getD s3.2.toNat default).2.2) s3.1 (-1)) fun v8=>
    if (v8 != 0)=true then
     .out (some (s3.2,v8))
     else if 0≤s3.2∧s3.2<(v1.2.2.1.length:Int) then
      .next (some ((v1.2.2.1.getD s3.2.toNat default).1,(v1.2.2.1.getD s3.2.toNat default).2.1,(v1.2.2.1.getD s3.2.toNat default).2.2),IntKind.i64.wrap (s3.2+1))
      else .out none
   else .out none
  else .out (aS (QN x0 x1 x2 x3 v1) 1000000000 (none,0))
def QS (x0 x1 x2 x3:Int) (v1:bF×bF×bF×bF):Bd ((Option (Int×au×Int))×Int) (Int×Int):=fun s2=>
 if (decide (s2.2<(v1.2.1.length:Int)))=true then
  if 0≤s2.2∧s2.2<(v1.2.1.length:Int) then
   aP (V4 ((v1.2.1.getD s2.2.toNat default).1) ((v1.2.1.getD s2.2.toNat default).2.1) ((v1.2.1.getD s2.2.toNat default).2.2) s2.1 0) fun v5=>
    if (v5 != 0)=true then
     .out (some (s2.2,v5))
     else if 0≤s2.2∧s2.2<(v1.2.1.length:Int) then
      .next (some ((v1.2.1.getD s2.2.toNat default).1,(v1.2.1.getD s2.2.toNat default).2.1,(v1.2.1.getD s2.2.toNat default).2.2),IntKind.i64.wrap (s2.2+1))
      else .out none
   else .out none
  else .out (aS (QO x0 x1 x2 x3 v1) 1000000000 (none,0))
def QT (x0 x1 x2 x3:Int) (v1:bF×bF×bF×bF):Bd ((Option (Int×au×Int))×Int) (Int×Int):=fun s1=>
 if (decide (s1.2<(v1.1.length:Int)))=true then
  if 0≤s1.2∧s1.2<(v1.1.length:Int) then
   aP (V4 ((v1.1.getD s1.2.toNat default).1) ((v1.1.getD s1.2.toNat default).2.1) ((v1.1.getD s1.2.toNat default).2.2) s1.1 1) fun v2=>
    if (v2 != 0)=true then
     .out (some (s1.2,v2))
     else if 0≤s1.2∧s1.2<(v1.1.length:Int) then
      .next (some ((v1.1.getD s1.2.toNat default).1,(v1.1.getD s1.2.toNat default).2.1,(v1.1.getD s1.2.toNat default).2.2),IntKind.i64.wrap (s1.2+1))
      else .out none
   else .out none
  else .out (aS (QS x0 x1 x2 x3 v1) 1000000000 (none,0))
def adF (x4:bg) (x5:aW) (x6:bf) (x7:au) (x0 x1 x2 x3:Int):Option (Int×Int):=
 (ahb x4 x5 x6 x7 x0 x1 x2 x3).bind fun v1=>
  if (decide ((v1.1.length:Int)>8))=true then
   some (0,8)
   else if (decide ((v1.2.1.length:Int)>8))=true then
    some (0,8)
    else if (decide ((v1.2.2.1.length:Int)>8))=true then
     some (0,8)
     else if (decide ((v1.2.2.2.length:Int)>8))=true then
      some (0,8)
      else aS (QT x0 x1 x2 x3 v1) 1000000000 (none,0)
@[go_sem] def aju:=adL JB false adF
@[go_sem] def am0 (k:Nat):=lk [(76,atJ.sp),(135,XM.sp),(138,Ns.sp),(168,auz.sp),(169,auy.sp),(172,auv.sp)] k
theorem f131:aF Tryz.prog 131 aju.sp:=by
 refine vm (tb:=am0) (.cons aAC (.cons f135 (.cons f138 (.cons f168 (.cons f169 (.cons f172 .nil)))))) Tryz.func131 Tryz.ntmps131 fun ⟨x4,x5,x6,x7,x0,x1,x2,x3⟩ r hr stop S=> ?_
 rw [uq8,adF] at hr
 refine S.gx [26,27] ?_
 obtain ⟨v1,hv1,hr⟩:=aA hr
 refine gb hv1 ?_
 refine S.lp ?_
 refine S.gx [26,27] ?_
 refine gr ?_
 refine iW hr (fun hc hr=>D0 hr) fun hc hr=> ?_
 refine gr ?_
 refine S.lp ?_
 refine S.gx [26,27] ?_
 refine gr ?_
 refine iW hr (fun hc hr=>D0 hr) fun hc hr=> ?_
 refine gr ?_
 refine S.lp ?_
 refine S.gx [26,27] ?_
 refine gr ?_
 refine iW hr (fun hc hr=>D0 hr) fun hc hr=> ?_
 refine gr ?_
 refine S.lp ?_
 refine S.gx [26,27] ?_
 refine gr ?_
 refine iW hr (fun hc hr=>D0 hr) fun hc hr=> ?_
 refine gr ?_
 refine S.lp ?_
 refine S.gx [26,27] ?_
 refine gr ?_
 refine S.lp ?_
 refine S.gx [26,27] ?_
 refine gr ?_
 refine S.share 16 rfl ?_
 refine S.sees [1,4,7,8,9,25,26,31,32] [(1,1),(4,4)] [(16,16),(10016,10016),(20016,20016),(30016,30016)] ?_ (Stop.iter S (fun s1=>⟨[(1,.c (.ref 1 0)),(4,.c (.ref 4 0)),(7,.c (.d (.int .i64 0))),(8,.c (.own 16)),(9,.c (.d (vJ bI s1.1))),(25,.agg [.own 16,.own 10016,.own 20016,.own 30016]),(26,.c (.d (.int .i64 0))),(31,.c (.d (.int .i64 (v1.1.length:Int)))),(32,.c (.d (.int .i64 s1.2)))],[(1,[.d (ah 4 cZ x4),.d (ah 5 bU x5),.d (ah 3 dh x6),.d (ah 2 aO x7),.d (.int .i64 x0),.d (.int .i64 x1),.d (.int .i64 x2),.d (.int .i64 x3)]),(4,[.own 16,.own 10016,.own 20016,.own 30016])],[(16,.shared (ah 3 bI v1.1)),(10016,.owned (ah 3 bI v1.2.1)),(20016,.owned (ah 3 bI v1.2.2.1)),(30016,.owned (ah 3 bI v1.2.2.2))]⟩) (QT x0 x1 x2 x3 v1) (fun q=>q=r) hr rfl ?_)
 ·exact lf
 ·intro s1 hr
  unfold QT at hr
  refine S.gx [26,27] ?_
  refine gr ?_
  refine dN hr (fun hc hr=>D1 (S.ss [1,4,7,8,9,25,26,31,32] [(1,1),(4,4)] [(16,16),(10016,10016),(20016,20016),(30016,30016)]) hr) fun hc hr=> ?_
  refine gr ?_
  have hr:=bK hr
  refine gr ?_
  refine S.lp ?_
  refine S.gx [26,27] ?_
  refine gr ?_
  refine S.share 10016 rfl ?_
  refine S.sees [1,4,7,8,9,25,26,31,32] [(1,1),(4,4)] [(10016,10016),(16,16),(20016,20016),(30016,30016)] ?_ (Stop.iter S (fun s2=>⟨[(1,.c (.ref 1 0)),(4,.c (.ref 4 0)),(7,.c (.d (.int .i64 1))),(8,.c (.own 10016)),(9,.c (.d (vJ bI s2.1))),(25,.agg [.own 16,.own 10016,.own 20016,.own 30016]),(26,.c (.d (.int .i64 1))),(31,.c (.d (.int .i64 (v1.2.1.length:Int)))),(32,.c (.d (.int .i64 s2.2)))],[(1,[.d (ah 4 cZ x4),.d (ah 5 bU x5),.d (ah 3 dh x6),.d (ah 2 aO x7),.d (.int .i64 x0),.d (.int .i64 x1),.d (.int .i64 x2),.d (.int .i64 x3)]),(4,[.own 16,.own 10016,.own 20016,.own 30016])],[(10016,.shared (ah 3 bI v1.2.1)),(16,.shared (ah 3 bI v1.1)),(20016,.owned (ah 3 bI v1.2.2.1)),(30016,.owned (ah 3 bI v1.2.2.2))]⟩) (QS x0 x1 x2 x3 v1) (fun q=>q=r) hr rfl ?_)
  ·exact lf
  ·intro s2 hr
   unfold QS at hr
   refine S.gx [26,27] ?_
   refine gr ?_
   refine dN hr (fun hc hr=>D1 (S.ss [1,4,7,8,9,25,26,31,32] [(1,1),(4,4)] [(10016,10016),(16,16),(20016,20016),(30016,30016)]) hr) fun hc hr=> ?_
   refine gr ?_
   have hr:=bK hr
   refine gr ?_
   refine S.lp ?_
   refine S.gx [26,27] ?_
   refine gr ?_
   refine S.share 20016 rfl ?_
   refine S.sees [1,4,7,8,9,25,26,31,32] [(1,1),(4,4)] [(20016,20016),(16,16),(10016,10016),(30016,30016)] ?_ (Stop.iter S (fun s3=>⟨[(1,.c (.ref 1 0)),(4,.c (.ref 4 0)),(7,.c (.d (.int .i64 2))),(8,.c (.own 20016)),(9,.c (.d (vJ bI s3.1))),(25,.agg [.own 16,.own 10016,.own 20016,.own 30016]),(26,.c (.d (.int .i64 2))),(31,.c (.d (.int .i64 (v1.2.2.1.length:Int)))),(32,.c (.d (.int .i64 s3.2)))],[(1,[.d (ah 4 cZ x4),.d (ah 5 bU x5),.d (ah 3 dh x6),.d (ah 2 aO x7),.d (.int .i64 x0),.d (.int .i64 x1),.d (.int .i64 x2),.d (.int .i64 x3)]),(4,[.own 16,.own 10016,.own 20016,.own 30016])],[(20016,.shared (ah 3 bI v1.2.2.1)),(16,.shared (ah 3 bI v1.1)),(10016,.shared (ah 3 bI v1.2.1)),(30016,.owned (ah 3 bI v1.2.2.2))]⟩) (QO x0 x1 x2 x3 v1) (fun q=>q=r) hr rfl ?_)
   ·exact lf
   ·intro s3 hr
    unfold QO at hr
    refine S.gx [26,27] ?_
    refine gr ?_
    refine dN hr (fun hc hr=>D1 (S.ss [1,4,7,8,9,25,26,31,32] [(1,1),(4,4)] [(20016,20016),(16,16),(10016,10016),(30016,30016)]) hr) fun hc hr=> ?_
    refine gr ?_
    have hr:=bK hr
    refine gr ?_
    refine S.lp ?_
    refine S.gx [26,27] ?_
    refine gr ?_
    refine S.share 30016 rfl ?_
    refine S.sees [1,4,7,8,9,25,26,31,32] [(1,1),(4,4)] [(30016,30016),(16,16),(10016,10016),(20016,20016)] ?_ (Stop.iter S (fun s4=>⟨[(1,.c (.ref 1 0)),(4,.c (.ref 4 0)),(7,.c (.d (.int .i64 3))),(8,.c (.own 30016)),(9,.c (.d (vJ bI s4.1))),(25,.agg [.own 16,.own 10016,.own 20016,.own 30016]),(26,.c (.d (.int .i64 3))),(31,.c (.d (.int .i64 (v1.2.2.2.length:Int)))),(32,.c (.d (.int .i64 s4.2)))],[(1,[.d (ah 4 cZ x4),.d (ah 5 bU x5),.d (ah 3 dh x6),.d (ah 2 aO x7),.d (.int .i64 x0),.d (.int .i64 x1),.d (.int .i64 x2),.d (.int .i64 x3)]),(4,[.own 16,.own 10016,.own 20016,.own 30016])],[(30016,.shared (ah 3 bI v1.2.2.2)),(16,.shared (ah 3 bI v1.1)),(10016,.shared (ah 3 bI v1.2.1)),(20016,.shared (ah 3 bI v1.2.2.1))]⟩) (QN x0 x1 x2 x3 v1) (fun q=>q=r) hr rfl ?_)
    ·exact lf
    ·intro s4 hr
     unfold QN at hr
     refine S.gx [26,27] ?_
     refine gr ?_
     refine dN hr (fun hc hr=>D1 (S.ss [1,4,7,8,9,25,26,31,32] [(1,1),(4,4)] [(30016,30016),(16,16),(10016,10016),(20016,20016)]) hr) fun hc hr=> ?_
     refine gr ?_
     have hr:=bK hr
     refine gr ?_
     refine S.lp ?_
     refine S.gx [26,27] ?_
     refine gr ?_
     refine iW hr (fun hc hr=> ?_) fun hc hr=>D0 hr
     refine gr ?_
     refine S.lp ?_
     refine S.gx [26,27] ?_
     obtain ⟨aiO,hr⟩:=aH hr
     obtain ⟨aeg,hr⟩:=aH hr
     repeat (first | refine gG aiO ?_ | refine gG aeg ?_ | refine gA ?_ | refine gB ?_)
     refine iW hr (fun hc hr=> ?_) fun hc hr=> ?_
     ·refine gr ?_
      refine S.prune [] ?_
      refine S.gx [27] ?_
      exact D0 hr
     ·refine gr ?_
      refine S.prune [1,4,57,58,59] ?_
      refine S.gx [26] ?_
      refine gr ?_
      refine gr ?_
      refine S.lp ?_
      refine S.gx [26,27] ?_
      obtain ⟨aAj,hr⟩:=aH hr
      obtain ⟨asV,hr⟩:=aH hr
      repeat (first | refine gG aAj ?_ | refine gG asV ?_ | refine gA ?_ | refine gB ?_)
      refine iW hr (fun hc hr=> ?_) fun hc hr=> ?_
      ·refine gr ?_
       refine S.prune [] ?_
       refine S.gx [27] ?_
       exact D0 hr
      ·refine gr ?_
       refine S.prune [1,4,57,58,59] ?_
       refine S.gx [26] ?_
       refine gr ?_
       refine gr ?_
       refine S.lp ?_
       refine S.gx [26,27] ?_
       obtain ⟨aiP,hr⟩:=aH hr
       obtain ⟨asW,hr⟩:=aH hr
       repeat (first | refine gG aiP ?_ | refine gG asW ?_ | refine gA ?_ | refine gB ?_)
       refine iW hr (fun hc hr=> ?_) fun hc hr=> ?_
       ·refine gr ?_
        refine S.prune [] ?_
        refine S.gx [27] ?_
        exact D0 hr
       ·refine gr ?_
        refine S.prune [1,4,57,58,59] ?_
        refine S.gx [26] ?_
        refine gr ?_
        refine gr ?_
        refine S.lp ?_
        refine S.gx [26,27] ?_
        exact D0 hr
def YJ (a0:Int):Option (Bool):=
 (Ea a0 0 2000).bind fun v1=>
  some v1
@[go_sem] def auT:=Kw qj false YJ
@[go_sem] def amZ (k:Nat):=lk [(37,T37.sp)] k
theorem f132:aF Tryz.prog 132 auT.sp:=by
 refine vm (tb:=amZ) (.cons f37 .nil) Tryz.func132 Tryz.ntmps132 fun a0 r hr stop S=> ?_
 rw [qU,YJ] at hr
 refine S.gx [] ?_
 exact D0 hr
def abt (x1:Int) (x0:bf) (x2:Int):Bd Int (Int×Int):=fun s1=>
 if (decide (s1<(x0.length:Int)))=true then
  if 0≤s1∧s1<(x0.length:Int) then
   aP (Ea ((x0.getD s1.toNat default).1) 0 (IntKind.i64.wrap (x1 - 1))) fun v5=>
    aP (lG v5 6) fun v6=>
     aP (YJ ((x0.getD s1.toNat default).2.1)) fun v7=>
      if v7=true→(YJ ((x0.getD s1.toNat default).2.2)).isSome=true then
       aP (lG (v7 && ((YJ ((x0.getD s1.toNat default).2.2)).getD default)) 2) fun v8=>
        aP (lG (decide (((x0.getD s1.toNat default).2.1)≤((x0.getD s1.toNat default).2.2))) 9) fun v9=>
         aP (wR [v6,v8,v9]) fun v10=>
          if (v10 != 0)=true then
           .out (some (s1,v10))
           else .next (IntKind.i64.wrap (s1+1))
       else .out none
   else .out none
  else .out ((Ea x2 200 3000).bind fun v13=>
   (lG v13 2).bind fun v14=>
    some (0,v14))
def r96 (x1 x3:Int) (x4:au) (x5:aj) (x6 x7:aZ) (x8:au) (x9 x10:Int) (x11:bg) (x12:aW) (dP:bf) (x14:au) (x15 x16 x17 x18:Int) (x0:bf) (x2:Int):Option (Int×Int):=
 (r20 x1 x3 x4 x5 x6 x7 x8 x9 x10).bind fun v1=>
  (adF x11 x12 dP x14 x15 x16 x17 x18).bind fun v2=>
   (lG (decide ((x0.length:Int)≤6)) 8).bind fun v3=>
    (wR [v1.2,v2.2,v3]).bind fun v4=>
     if (v4 != 0)=true then
      some (0,v4)
      else aS (abt x1 x0 x2) 1000000000 0
@[go_sem] def T96:=ahw JB false r96
@[go_sem] def ax5 (k:Nat):=lk [(20,T20.sp),(37,T37.sp),(38,T38.sp),(39,T39.sp),(131,aju.sp),(132,auT.sp)] k
theorem f96:aF Tryz.prog 96 T96.sp:=by
 refine vm (tb:=ax5) (.cons f20 (.cons f37 (.cons f38 (.cons f39 (.cons f131 (.cons f132 .nil)))))) Tryz.func96 Tryz.ntmps96 fun ⟨x1,x3,x4,x5,x6,x7,x8,x9,x10,x11,x12,dP,x14,x15,x16,x17,x18,x0,x2⟩ r hr stop S=> ?_
 rw [ace,r96] at hr
 refine S.gx [5,6,11] ?_
 obtain ⟨v1,hv1,hr⟩:=aA hr
 obtain ⟨v2,hv2,hr⟩:=aA hr
 obtain ⟨v3,hv3,hr⟩:=aA hr
 obtain ⟨v4,hv4,hr⟩:=aA hr
 refine gb hv1 ?_
 refine gb hv2 ?_
 refine gb hv3 ?_
 refine gb hv4 ?_
 refine iW hr (fun hc hr=> ?_) fun hc hr=> ?_
 ·refine gr ?_
  refine S.prune [8] ?_
  refine S.gx [6,11] ?_
  exact D0 hr
 ·refine gr ?_
  refine S.prune [1] ?_
  refine S.gx [5,11] ?_
  refine gr ?_
  refine gr ?_
  refine S.sees [1,9,38,39,40] [(1,1)] [] ?_ (Stop.iter S (fun s1=>⟨[(1,.c (.ref 1 0)),(9,.c (.clo 132 [])),(38,.c (.d (ah 3 dh x0))),(39,.c (.d (.int .i64 (x0.length:Int)))),(40,.c (.d (.int .i64 s1)))],[(1,[.d (.int .i64 x1),.d (.int .i64 x3),.d (ah 2 aO x4),.d (ah 1 aN x5),.d (ah 1 cO x6),.d (ah 1 cO x7),.d (ah 2 aO x8),.d (.int .i64 x9),.d (.int .i64 x10),.d (ah 4 cZ x11),.d (ah 5 bU x12),.d (ah 3 dh dP),.d (ah 2 aO x14),.d (.int .i64 x15),.d (.int .i64 x16),.d (.int .i64 x17),.d (.int .i64 x18),.d (ah 3 dh x0),.d (.int .i64 x2)])],[]⟩) (abt x1 x0 x2) (fun q=>q=r) hr rfl ?_)
  ·exact lf
  ·intro s1 hr
   unfold abt at hr
   refine S.gx [5,6,11] ?_
   refine gr ?_
   refine dN hr (fun hc hr=> ?_) fun hc hr=>D0 hr
   obtain ⟨CQ,hr⟩:=aC hr
   obtain ⟨v5,hv5,hr⟩:=aQ hr
   obtain ⟨v6,hv6,hr⟩:=aQ hr
   obtain ⟨v7,hv7,hr⟩:=aQ hr
   obtain ⟨CP,hr⟩:=aC hr
   obtain ⟨v8,OY,hr⟩:=aQ hr
   obtain ⟨v9,hv9,hr⟩:=aQ hr
   obtain ⟨v10,yF,hr⟩:=aQ hr
   try simp only [hv5,hv6,hv7,OY,hv9,yF,Option.getD_some,Option.isSome_some,true_and,and_assoc]
   repeat (first | refine gG CP ?_ | refine gA ?_ | refine gB ?_)
   refine S.prune [1,9,10,12,38,39,40] ?_
   refine S.gx [5,6] ?_
   exact D1 (S.ss [1,9,38,39,40] [(1,1)] []) hr
def r64 (x0 x1:Int) (x2:au) (x3:aj) (x4 x5:aZ) (x6:au) (x7 x8:Int) (x9:bg) (x10:aW) (x11:bf) (x12:au) (dP x14 x15 x16:Int) (x17:bf) (x18:Int):Option (Int×Int×au×aj×aZ×aZ×au×Int×Int×Int×Int×au×aj×aZ×aZ×au×Int×Int×bg×aW×bf×au×Int×Int×Int×Int×bf×Int×Int):=
 (r96 x0 x1 x2 x3 x4 x5 x6 x7 x8 x9 x10 x11 x12 dP x14 x15 x16 x17 x18).bind fun v1=>
  some (x0,x1,x2,x3,x4,x5,x6,x7,x8,x0,x1,x2,x3,x4,x5,x6,x7,x8,x9,x10,x11,x12,dP,x14,x15,x16,x17,x18,v1.2)
@[go_sem] def T64:=ahw ao5 true r64
@[go_sem] def aym (k:Nat):=lk [(96,T96.sp)] k
theorem f64:aF Tryz.prog 64 T64.sp:=by
 refine vm (tb:=aym) (.cons f96 .nil) Tryz.func64 Tryz.ntmps64 fun ⟨x0,x1,x2,x3,x4,x5,x6,x7,x8,x9,x10,x11,x12,dP,x14,x15,x16,x17,x18⟩ r hr stop S=> ?_
 rw [ace,r64] at hr
 refine S.gx [] ?_
 exact D0 hr
def Gh (x0 x1:Int) (x2:au) (x3:aj) (x4 x5:aZ) (x6:au) (x7 x8:Int) (a1:au):Bd (Int×Int) Int:=fun s1=>
 if (decide (s1.2<(a1.length:Int)))=true then
  if 0≤s1.2∧s1.2<(a1.length:Int) then
   aP (Ea ((a1.getD s1.2.toNat default).1) 0 10000) fun v2=>
    aP (lG v2 2) fun v3=>
     aP (r43 x0 x1 x2 x3 x4 x5 x6 x7 x8) fun v4=>
      aP (Ea ((a1.getD s1.2.toNat default).2) 0 v4) fun v5=>
       aP (lG v5 6) fun v6=>
        aP (wR [s1.1,v3,v6]) fun v7=>
         .next (v7,IntKind.i64.wrap (s1.2+1))
   else .out none
  else .out (some s1.1)
def r65 (x0 x1:Int) (x2:au) (x3:aj) (x4 x5:aZ) (x6:au) (x7 x8:Int) (a1:au):Option (Int):=
 (lG (decide ((a1.length:Int)≤200)) 8).bind fun v1=>
  aS (Gh x0 x1 x2 x3 x4 x5 x6 x7 x8 a1) 1000000000 (v1,0)
@[go_sem] def T65:=BJ lF false r65
@[go_sem] def ayl (k:Nat):=lk [(37,T37.sp),(38,T38.sp),(39,T39.sp),(43,T43.sp)] k
theorem f65:aF Tryz.prog 65 T65.sp:=by
 refine vm (tb:=ayl) (.cons f37 (.cons f38 (.cons f39 (.cons f43 .nil)))) Tryz.func65 Tryz.ntmps65 fun ⟨x0,x1,x2,x3,x4,x5,x6,x7,x8,a1⟩ r hr stop S=> ?_
 rw [xU,r65] at hr
 refine S.gx [] ?_
 obtain ⟨v1,hv1,hr⟩:=aA hr
 refine gb hv1 ?_
 refine S.sees [2,5,12,13,14] [(2,2)] [] ?_ (Stop.iter S (fun s1=>⟨[(2,.c (.ref 2 0)),(5,.c (.d (.int .i64 s1.1))),(12,.c (.d (ah 2 aO a1))),(13,.c (.d (.int .i64 (a1.length:Int)))),(14,.c (.d (.int .i64 s1.2)))],[(2,[.d (.int .i64 x0),.d (.int .i64 x1),.d (ah 2 aO x2),.d (ah 1 aN x3),.d (ah 1 cO x4),.d (ah 1 cO x5),.d (ah 2 aO x6),.d (.int .i64 x7),.d (.int .i64 x8)])],[]⟩) (Gh x0 x1 x2 x3 x4 x5 x6 x7 x8 a1) (fun q=>q=r) hr rfl ?_)
 ·exact lf
 ·intro s1 hr
  unfold Gh at hr
  refine S.gx [] ?_
  exact D1 (S.ss [2,5,12,13,14] [(2,2)] []) hr
def DY (x0:Int) (a1:au) (s1:(List (au×Int×Int))×Int) (v1 v2:aZ×Int) (v3:Int):Bd (Int×(List (Int×Int))) (gy ((List (au×Int×Int))×Int) (bQ)):=fun s2=>
 if (decide (s2.1<(v1.1.length:Int)))=true then
  if 0≤s2.1∧s2.1<(v1.1.length:Int) then
   if 0≤s2.1∧s2.1<(v2.1.length:Int) then
    if (s2.2.length+1)*16≤140737488355328∧s2.2.length+1≤9223372036854775807 then
     .next (IntKind.i64.wrap (s2.1+1),s2.2++[((v1.1.getD s2.1.toNat default),(v2.1.getD s2.1.toNat default))])
     else .out none
    else .out none
   else .out none
  else .out (some (if (s1.1.length+1)*40≤140737488355328∧s1.1.length+1≤9223372036854775807 then
   .next (s1.1++[(s2.2,(if 0<IntKind.i64.wrap (((a1.getD s1.2.toNat default).2) - x0) then IntKind.i64.wrap (((a1.getD s1.2.toNat default).2) - x0) else 0),(if IntKind.i64.wrap (((a1.getD s1.2.toNat default).2)+x0)<v3 then IntKind.i64.wrap (((a1.getD s1.2.toNat default).2)+x0) else v3))],IntKind.i64.wrap (s1.2+1))
   else .out none))
def Gj (x1 x2:Int) (x3:au) (x4:aj) (x5 x6:aZ) (x7:au) (x8 x0:Int) (a1:au):Bd ((List (au×Int×Int))×Int) bQ:=fun s1=>
 if (decide (s1.2<(a1.length:Int)))=true then
  if 0≤s1.2∧s1.2<(a1.length:Int) then
   aP (VZ x1 x2 x3 x4 x5 x6 x7 x8 x0 ((a1.getD s1.2.toNat default).1) ((a1.getD s1.2.toNat default).2) 88) fun v1=>
    aP (VZ x1 x2 x3 x4 x5 x6 x7 x8 x0 ((a1.getD s1.2.toNat default).1) ((a1.getD s1.2.toNat default).2) 89) fun v2=>
     aP (r43 x1 x2 x3 x4 x5 x6 x7 x8 x0) fun v3=>
      (aS (DY x0 a1 s1 v1 v2 v3) 1000000000 (0,[])).getD (.out none)
   else .out none
  else .out (some s1.1)
def r56 (x1 x2:Int) (x3:au) (x4:aj) (x5 x6:aZ) (x7:au) (x8 x0:Int) (a1:au):Option (bQ):=
 aS (Gj x1 x2 x3 x4 x5 x6 x7 x8 x0 a1) 1000000000 ([],0)
@[go_sem] def T56:=BJ ahp true r56
@[go_sem] def ayt (k:Nat):=lk [(43,T43.sp),(74,T74.sp)] k
theorem f56:aF Tryz.prog 56 T56.sp:=by
 refine vm (tb:=ayt) (.cons f43 (.cons f74 .nil)) Tryz.func56 Tryz.ntmps56 fun ⟨x1,x2,x3,x4,x5,x6,x7,x8,x0,a1⟩ r hr stop S=> ?_
 rw [xU,r56] at hr
 refine S.gx [] ?_
 refine gr ?_
 refine S.yj 5 1000500 3 rfl rfl ?_
 refine S.sees [2,5,12,13,14] [(2,2)] [(1000500,1000500)] ?_ (Stop.iter S (fun s1=>⟨[(2,.c (.ref 2 0)),(5,.c (.own 1000500)),(12,.c (.d (ah 2 aO a1))),(13,.c (.d (.int .i64 (a1.length:Int)))),(14,.c (.d (.int .i64 s1.2)))],[(2,[.d (.int .i64 x1),.d (.int .i64 x2),.d (ah 2 aO x3),.d (ah 1 aN x4),.d (ah 1 cO x5),.d (ah 1 cO x6),.d (ah 2 aO x7),.d (.int .i64 x8),.d (.int .i64 x0)])],[(1000500,.owned (ah 3 dH s1.1))]⟩) (Gj x1 x2 x3 x4 x5 x6 x7 x8 x0 a1) (fun q=>q=r) hr rfl ?_)
 ·exact lf
 ·intro s1 hr
  unfold Gj at hr
  refine S.gx [] ?_
  refine gr ?_
  refine dN hr (fun hc hr=> ?_) fun hc hr=>D0 hr
  obtain ⟨NG,hr⟩:=aC hr
  obtain ⟨v1,hv1,hr⟩:=aQ hr
  obtain ⟨v2,hv2,hr⟩:=aQ hr
  obtain ⟨v3,hv3,hr⟩:=aQ hr
  refine gb hv1 ?_
  refine gb hv2 ?_
  refine gb hv3 ?_
  refine S.pK 10 0 2001000 2 rfl rfl (nL rfl) rfl ?_
  obtain ⟨q2,hq,hr⟩:=iE hr
  refine S.sees [2,5,8,9,10,12,13,14,44,45] [(2,2),(8,8),(9,9),(10,10)] [(2001000,2001000),(1000500,1000500),(20,20),(23,23)] ?_ (Stop.iter S (fun s2=>⟨[(2,.c (.ref 2 0)),(5,.c (.own 1000500)),(8,.c (.ref 8 0)),(9,.c (.ref 9 0)),(10,.c (.ref 10 0)),(12,.c (.d (ah 2 aO a1))),(13,.c (.d (.int .i64 (a1.length:Int)))),(14,.c (.d (.int .i64 s1.2))),(44,.c (.d (.int .i64 (v1.1.length:Int)))),(45,.c (.d (.int .i64 s2.1)))],[(2,[.d (.int .i64 x1),.d (.int .i64 x2),.d (ah 2 aO x3),.d (ah 1 aN x4),.d (ah 1 cO x5),.d (ah 1 cO x6),.d (ah 2 aO x7),.d (.int .i64 x8),.d (.int .i64 x0)]),(8,[.own 20,.d (.int .i64 v1.2)]),(9,[.own 23,.d (.int .i64 v2.2)]),(10,[.own 2001000,.d (.int .i64 (if 0<IntKind.i64.wrap (((a1.getD s1.2.toNat default).2) - x0) then IntKind.i64.wrap (((a1.getD s1.2.toNat default).2) - x0) else 0)),.d (.int .i64 (if IntKind.i64.wrap (((a1.getD s1.2.toNat default).2)+x0)<v3 then IntKind.i64.wrap (((a1.getD s1.2.toNat default).2)+x0) else v3))])],[(2001000,.owned (ah 2 aO s2.2)),(1000500,.owned (ah 3 dH s1.1)),(20,.owned (ah 1 cO v1.1)),(23,.owned (ah 1 cO v2.1))]⟩) (DY x0 a1 s1 v1 v2 v3) _ hq hr ?_)
  ·exact lf
  ·intro s2 hr
   unfold DY at hr
   refine S.gx [] ?_
   refine gr ?_
   refine dN hr (fun hc hr=>D1 (S.ss [2,5,8,9,10,12,13,14,44,45] [(2,2),(8,8),(9,9),(10,10)] [(62,2001000),(1000500,1000500),(20,20),(23,23)]) hr) fun hc hr=> ?_
   refine gr ?_
   replace hr:=bn hr
   exact D1 (S.ss [2,5,12,13,14] [(2,2)] [(68,1000500)]) hr
def YN (x0 x1:Int) (x2:au) (x3:aj) (x4 x5:aZ):Option (Int×Int×au×aj×au×aj×Int):=
 (r86 x0 x1 x2 x3).bind fun v1=>
  if (v1.2.2.2.2.2.2 == 0)=true then
   (r87 v1.1 v1.2.1 v1.2.2.1 v1.2.2.2.1 v1.2.2.2.2.1 v1.2.2.2.2.2.1 x4 x5).bind fun v2=>
    some (v1.1,v1.2.1,v1.2.2.1,v1.2.2.2.1,v1.2.2.2.2.1,v1.2.2.2.2.2.1,v2.2)
   else some (v1.1,v1.2.1,v1.2.2.1,v1.2.2.2.1,v1.2.2.2.2.1,v1.2.2.2.2.2.1,v1.2.2.2.2.2.2)
@[go_sem] def au2:=YV qu8 true YN
@[go_sem] def am9 (k:Nat):=lk [(86,T86.sp),(87,T87.sp)] k
theorem f114:aF Tryz.prog 114 au2.sp:=by
 refine vm (tb:=am9) (.cons f86 (.cons f87 .nil)) Tryz.func114 Tryz.ntmps114 fun ⟨x0,x1,x2,x3,x4,x5⟩ r hr stop S=> ?_
 rw [Vy,YN] at hr
 refine S.gx [] ?_
 exact D0 hr
def yS (x1 x2:Int) (x3:au) (x4:aj) (x5:au) (x6:aj) (x0:au) (x7 x8:Int):Bd (Int×Int) Int:=fun s1=>
 if (decide (s1.2<(x0.length:Int)))=true then
  if 0≤s1.2∧s1.2<(x0.length:Int) then
   aP (OA ((x0.getD s1.2.toNat default).1)) fun v2=>
    if v2=true→(OA ((x0.getD s1.2.toNat default).2)).isSome=true then
     aP (nM (v2 && ((OA ((x0.getD s1.2.toNat default).2)).getD default)) 2) fun v3=>
      aP (nM (decide (((x0.getD s1.2.toNat default).1)≤((x0.getD s1.2.toNat default).2))) 9) fun v4=>
       aP (zW [s1.1,v3,v4]) fun v5=>
        .next (v5,IntKind.i64.wrap (s1.2+1))
     else .out none
   else .out none
  else .out ((Oz x1 x2 x3 x4 x5 x6 x7).bind fun v8=>
   (Oz x1 x2 x3 x4 x5 x6 x8).bind fun v9=>
    (nM (decide (x7≤x8)) 9).bind fun v10=>
     (zW [s1.1,v8,v9,v10]).bind fun v11=>
      some v11)
def YH (x1 x2:Int) (x3:au) (x4:aj) (x5:au) (x6:aj) (x0:au) (x7 x8:Int):Option (Int):=
 (nM ((x0.length:Int) == x1) 10).bind fun v1=>
  aS (yS x1 x2 x3 x4 x5 x6 x0 x7 x8) 1000000000 (v1,0)
@[go_sem] def auF:=aq6 lF false YH
@[go_sem] def amI (k:Nat):=lk [(117,QX.sp),(118,Js.sp),(150,ajt.sp),(151,ajs.sp)] k
theorem f161:aF Tryz.prog 161 auF.sp:=by
 refine vm (tb:=amI) (.cons f117 (.cons f118 (.cons f150 (.cons f151 .nil)))) Tryz.func161 Tryz.ntmps161 fun ⟨x1,x2,x3,x4,x5,x6,x0,x7,x8⟩ r hr stop S=> ?_
 rw [NC,YH] at hr
 refine S.gx [] ?_
 obtain ⟨v1,hv1,hr⟩:=aA hr
 refine gb hv1 ?_
 refine S.sees [2,3,5,17,18,19] [(2,2),(3,3)] [] ?_ (Stop.iter S (fun s1=>⟨[(2,.c (.ref 2 0)),(3,.c (.ref 3 0)),(5,.c (.d (.int .i64 s1.1))),(17,.c (.d (ah 2 aO x0))),(18,.c (.d (.int .i64 (x0.length:Int)))),(19,.c (.d (.int .i64 s1.2)))],[(2,[.d (.int .i64 x1),.d (.int .i64 x2),.d (ah 2 aO x3),.d (ah 1 aN x4),.d (ah 2 aO x5),.d (ah 1 aN x6)]),(3,[.d (ah 2 aO x0),.d (.int .i64 x7),.d (.int .i64 x8)])],[]⟩) (yS x1 x2 x3 x4 x5 x6 x0 x7 x8) (fun q=>q=r) hr rfl ?_)
 ·exact lf
 ·intro s1 hr
  unfold yS at hr
  refine S.gx [] ?_
  refine gr ?_
  refine dN hr (fun hc hr=> ?_) fun hc hr=>D0 hr
  obtain ⟨hg6,hr⟩:=aC hr
  obtain ⟨v2,hv2,hr⟩:=aQ hr
  obtain ⟨XT,hr⟩:=aC hr
  obtain ⟨v3,hv3,hr⟩:=aQ hr
  obtain ⟨v4,hv4,hr⟩:=aQ hr
  obtain ⟨v5,hv5,hr⟩:=aQ hr
  try simp only [hv2,hv3,hv4,hv5,Option.getD_some,Option.isSome_some,true_and,and_assoc]
  repeat (first | refine gG XT ?_ | refine gA ?_ | refine gB ?_)
  exact D1 (S.ss [2,3,5,17,18,19] [(2,2),(3,3)] []) hr
def yZ (x0 x1:Int) (x2:au) (x3:aj) (x4:au) (x5:aj) (a1:bQ):Bd (Int×Int) Int:=fun s1=>
 if (decide (s1.2<(a1.length:Int)))=true then
  if 0≤s1.2∧s1.2<(a1.length:Int) then
   aP (YH x0 x1 x2 x3 x4 x5 ((a1.getD s1.2.toNat default).1) ((a1.getD s1.2.toNat default).2.1) ((a1.getD s1.2.toNat default).2.2)) fun v2=>
    aP (zW [s1.1,v2]) fun v3=>
     .next (v3,IntKind.i64.wrap (s1.2+1))
   else .out none
  else .out (some s1.1)
def YM (x0 x1:Int) (x2:au) (x3:aj) (x4:au) (x5:aj) (a1:bQ):Option (Int):=
 (nM (decide ((a1.length:Int)≤200)) 8).bind fun v1=>
  aS (yZ x0 x1 x2 x3 x4 x5 a1) 1000000000 (v1,0)
@[go_sem] def au1:=aq5 lF false YM
@[go_sem] def am8 (k:Nat):=lk [(117,QX.sp),(118,Js.sp),(161,auF.sp)] k
theorem f115:aF Tryz.prog 115 au1.sp:=by
 refine vm (tb:=am8) (.cons f117 (.cons f118 (.cons f161 .nil))) Tryz.func115 Tryz.ntmps115 fun ⟨x0,x1,x2,x3,x4,x5,a1⟩ r hr stop S=> ?_
 rw [GY,YM] at hr
 refine S.gx [] ?_
 obtain ⟨v1,hv1,hr⟩:=aA hr
 refine gb hv1 ?_
 refine S.sees [2,5,12,13,14] [(2,2)] [] ?_ (Stop.iter S (fun s1=>⟨[(2,.c (.ref 2 0)),(5,.c (.d (.int .i64 s1.1))),(12,.c (.d (ah 3 dH a1))),(13,.c (.d (.int .i64 (a1.length:Int)))),(14,.c (.d (.int .i64 s1.2)))],[(2,[.d (.int .i64 x0),.d (.int .i64 x1),.d (ah 2 aO x2),.d (ah 1 aN x3),.d (ah 2 aO x4),.d (ah 1 aN x5)])],[]⟩) (yZ x0 x1 x2 x3 x4 x5 a1) (fun q=>q=r) hr rfl ?_)
 ·exact lf
 ·intro s1 hr
  unfold yZ at hr
  refine S.gx [] ?_
  exact D1 (S.ss [2,5,12,13,14] [(2,2)] []) hr
def yQ (x0:au) (x1 x2:Int):Bd (Int×(List (Int))×(List (Int))) (aZ×Int×aZ×Int):=fun s1=>
 if (decide (s1.1<(x0.length:Int)))=true then
  if 0≤s1.1∧s1.1<(x0.length:Int) then
   if (s1.2.1.length+1)*8≤140737488355328∧s1.2.1.length+1≤9223372036854775807 then
    if (s1.2.2.length+1)*8≤140737488355328∧s1.2.2.length+1≤9223372036854775807 then
     .next (IntKind.i64.wrap (s1.1+1),s1.2.1++[(x0.getD s1.1.toNat default).1],s1.2.2++[(x0.getD s1.1.toNat default).2])
     else .out none
    else .out none
   else .out none
  else .out (some (s1.2.1,x2,s1.2.2,x1))
def YE (x0:au) (x1 x2:Int):Option (aZ×Int×aZ×Int):=
 aS (yQ x0 x1 x2) 1000000000 (0,[],[])
@[go_sem] def aum:=aq4 ao4 false YE
theorem f192:aF Tryz.prog 192 aum.sp:=by
 refine vm .nil Tryz.func192 Tryz.ntmps192 fun ⟨x0,x1,x2⟩ r hr stop S=> ?_
 rw [XP,YE] at hr
 refine S.gx [] ?_
 refine gr ?_
 refine S.pK 2 0 2000200 1 rfl rfl (nL rfl) rfl ?_
 refine S.pK 3 0 2000300 1 rfl rfl (nL rfl) rfl ?_
 refine S.sees [2,3,15,16,17] [(2,2),(3,3)] [(2000200,2000200),(2000300,2000300)] ?_ (Stop.iter S (fun s1=>⟨[(2,.c (.ref 2 0)),(3,.c (.ref 3 0)),(15,.c (.d (ah 2 aO x0))),(16,.c (.d (.int .i64 (x0.length:Int)))),(17,.c (.d (.int .i64 s1.1)))],[(2,[.own 2000200,.d (.int .i64 x2)]),(3,[.own 2000300,.d (.int .i64 x1)])],[(2000200,.owned (ah 1 cO s1.2.1)),(2000300,.owned (ah 1 cO s1.2.2))]⟩) (yQ x0 x1 x2) (fun q=>q=r) hr rfl ?_)
 ·exact lf
 ·intro s1 hr
  unfold yQ at hr
  refine S.gx [] ?_
  exact D1 (S.ss [2,3,15,16,17] [(2,2),(3,3)] [(26,2000200),(32,2000300)]) hr
def YG (x0 x1:Int) (x2:au) (x3:aj) (x4:au) (x5:aj) (x6 x7:aZ) (x8:au) (x9 x10:Int):Option (aZ×aZ×Int):=
 (YE x8 x9 x10).bind fun v1=>
  (Kv x0 x1 x2 x3 x4 x5 x6 v1.1 v1.2.1).bind fun v2=>
   (Kv x0 x1 x2 x3 x4 x5 x7 v1.2.2.1 v1.2.2.2).bind fun v3=>
    (zW [v2.2.2,v3.2.2]).bind fun v4=>
     if (v4 != 0)=true then
      some ([],[],v4)
      else some (v2.1,v3.1,0)
@[go_sem] def auE:=aq3 ao3 false YG
@[go_sem] def amH (k:Nat):=lk [(108,ajA.sp),(117,QX.sp),(192,aum.sp)] k
theorem f162:aF Tryz.prog 162 auE.sp:=by
 refine vm (tb:=amH) (.cons f108 (.cons f117 (.cons f192 .nil))) Tryz.func162 Tryz.ntmps162 fun ⟨x0,x1,x2,x3,x4,x5,x6,x7,x8,x9,x10⟩ r hr stop S=> ?_
 rw [X3,YG] at hr
 refine S.gx [4] ?_
 obtain ⟨v1,hv1,hr⟩:=aA hr
 obtain ⟨v2,hv2,hr⟩:=aA hr
 obtain ⟨v3,hv3,hr⟩:=aA hr
 refine gb hv1 ?_
 refine gb hv2 ?_
 refine gb hv3 ?_
 refine S.prune [6,10,12,13,15] ?_
 refine S.gx [] ?_
 exact D0 hr
def yY (x0 x1:Int) (x2:au) (x3:aj) (x4:au) (x5:aj) (a2:bQ):Bd ((List (aZ×aZ))×Int×aZ×aZ) (eU×Int):=fun s1=>
 if (decide (s1.2.1<(a2.length:Int)))=true then
  if 0≤s1.2.1∧s1.2.1<(a2.length:Int) then
   aP (YG x0 x1 x2 x3 x4 x5 s1.2.2.1 s1.2.2.2 ((a2.getD s1.2.1.toNat default).1) ((a2.getD s1.2.1.toNat default).2.1) ((a2.getD s1.2.1.toNat default).2.2)) fun v1=>
    if (v1.2.2 != 0)=true then
     .out (some ([],v1.2.2))
     else if (s1.1.length+1)*48≤140737488355328∧s1.1.length+1≤9223372036854775807 then
      .next (s1.1++[(v1.1,v1.2.1)],IntKind.i64.wrap (s1.2.1+1),v1.1,v1.2.1)
      else .out none
   else .out none
  else .out (some (s1.1,0))
def Wj (x0 x1:Int) (x2:au) (x3:aj) (x4:au) (x5:aj) (x6 x7:aZ) (a2:bQ):Option (eU×Int):=
 aS (yY x0 x1 x2 x3 x4 x5 a2) 1000000000 ([],0,x6,x7)
@[go_sem] def au0:=aq2 aho true Wj
@[go_sem] def am7 (k:Nat):=lk [(162,auE.sp)] k
theorem f116:aF Tryz.prog 116 au0.sp:=by
 refine vm (tb:=am7) (.cons f162 .nil) Tryz.func116 Tryz.ntmps116 fun ⟨x0,x1,x2,x3,x4,x5,x6,x7,a2⟩ r hr stop S=> ?_
 rw [NC,Wj] at hr
 refine S.gx [] ?_
 refine gr ?_
 refine S.yj 8 1000800 2 rfl rfl ?_
 refine S.sees [3,4,8,13,14,15] [(3,3),(4,4)] [(1000800,1000800)] ?_ (Stop.iter S (fun s1=>⟨[(3,.c (.ref 3 0)),(4,.c (.ref 4 0)),(8,.c (.own 1000800)),(13,.c (.d (ah 3 dH a2))),(14,.c (.d (.int .i64 (a2.length:Int)))),(15,.c (.d (.int .i64 s1.2.1)))],[(3,[.d (.int .i64 x0),.d (.int .i64 x1),.d (ah 2 aO x2),.d (ah 1 aN x3),.d (ah 2 aO x4),.d (ah 1 aN x5)]),(4,[.d (ah 1 cO s1.2.2.1),.d (ah 1 cO s1.2.2.2)])],[(1000800,.owned (ah 2 fO s1.1))]⟩) (yY x0 x1 x2 x3 x4 x5 a2) (fun q=>q=r) hr rfl ?_)
 ·exact lf
 ·intro s1 hr
  unfold yY at hr
  refine S.gx [] ?_
  exact D1 (S.ss [3,4,8,13,14,15] [(3,3),(4,4)] [(33,1000800)]) hr
def r81 (x2 x3:Int) (x4:au) (x5:aj) (x0 x1:aZ) (a2:bQ):Option (eU×Int):=
 (YN x2 x3 x4 x5 x0 x1).bind fun v1=>
  if (v1.2.2.2.2.2.2 == 0)=true then
   (YM v1.1 v1.2.1 v1.2.2.1 v1.2.2.2.1 v1.2.2.2.2.1 v1.2.2.2.2.2.1 a2).bind fun v2=>
    if (v2 != 0)=true then
     some ([],v2)
     else (Wj v1.1 v1.2.1 v1.2.2.1 v1.2.2.2.1 v1.2.2.2.2.1 v1.2.2.2.2.2.1 x0 x1 a2).bind fun v3=>
      some (v3.1,v3.2)
   else if (v1.2.2.2.2.2.2 != 0)=true then
    some ([],v1.2.2.2.2.2.2)
    else (Wj v1.1 v1.2.1 v1.2.2.1 v1.2.2.2.1 v1.2.2.2.2.1 v1.2.2.2.2.2.1 x0 x1 a2).bind fun v4=>
     some (v4.1,v4.2)
@[go_sem] def T81:=ahv aho true r81
@[go_sem] def ayd (k:Nat):=lk [(114,au2.sp),(115,au1.sp),(116,au0.sp)] k
theorem f81:aF Tryz.prog 81 T81.sp:=by
 refine vm (tb:=ayd) (.cons f114 (.cons f115 (.cons f116 .nil))) Tryz.func81 Tryz.ntmps81 fun ⟨x2,x3,x4,x5,x0,x1,a2⟩ r hr stop S=> ?_
 rw [GY,r81] at hr
 refine S.gx [] ?_
 exact D0 hr
def r82 (x0 x1:Int) (x2:au) (x3:aj) (x4 x5:aZ) (x6:au) (x7 x8 a1 a2:Int):Option (Int×Int):=
 (OC x0 x1 x2 x3 a1).bind fun v1=>
  (OC x0 x1 x2 x3 a2).bind fun v2=>
   if v1.2.1≠0 then
    if v2.2.1≠0 then
     some (IntKind.i64.wrap (v1.1.tdiv v1.2.1),IntKind.i64.wrap ((IntKind.i64.wrap ((IntKind.i64.wrap (v2.1+v2.2.1)) - 1)).tdiv v2.2.1))
     else none
    else none
@[go_sem] def T82:=adN qu7 false r82
@[go_sem] def ayc (k:Nat):=lk [(110,ajz.sp)] k
theorem f82:aF Tryz.prog 82 T82.sp:=by
 refine vm (tb:=ayc) (.cons f110 .nil) Tryz.func82 Tryz.ntmps82 fun ⟨x0,x1,x2,x3,x4,x5,x6,x7,x8,a1,a2⟩ r hr stop S=> ?_
 rw [X3,r82] at hr
 refine S.gx [] ?_
 exact D0 hr
end Go.Proofs.YtofkgmldcjagmaaGreatDoor

/- Contracts of functions, written by wip/dec. -/
import Derived.Test.YtofkgmldcjagmaaGreatDoorF00
import Derived.Test.YtofkgmldcjagmaaGreatDoorF01
import Derived.Test.YtofkgmldcjagmaaGreatDoorF02
import Derived.Test.YtofkgmldcjagmaaGreatDoorF03
import Derived.Test.YtofkgmldcjagmaaGreatDoorF04
import Derived.Test.YtofkgmldcjagmaaGreatDoorF05
set_option linter.unusedVariables false
set_option linter.unusedSimpArgs false
set_option linter.constructorNameAsVariable false
set_option maxHeartbeats 4000000
set_option maxRecDepth 20000
namespace Go.Proofs.YtofkgmldcjagmaaGreatDoor
open Go.dG
section
variable {β:Type} [Inhabited β] (u:β→List RV) (al:Bool)
def aoT (a0 a1:Int) (a2:au) (a3:aj) (a4 a5:aZ) (a6:au) (a7 a8:Int) (a9:bg) (a10:aW) (a11:bf) (a12:au) (jP kN kM a16:Int) (a17:bf) (ni:Int):List Arg:=[.agg [.int .i64 a0,.int .i64 a1,ah 2 aO a2,ah 1 aN a3,ah 1 cO a4,ah 1 cO a5,ah 2 aO a6,.int .i64 a7,.int .i64 a8,ah 4 cZ a9,ah 5 bU a10,ah 3 dn a11,ah 2 aO a12,.int .i64 jP,.int .i64 kN,.int .i64 kM,.int .i64 a16,ah 3 dn a17,.int .i64 ni]]
def aqz:List Arg→Int×Int×au×aj×aZ×aZ×au×Int×Int×bg×aW×bf×au×Int×Int×Int×Int×bf×Int
 | [.agg [c0,c1,c2,c3,c4,c5,c6,c7,c8,c9,c10,c11,c12,c13,c14,c15,c16,c17,c18]]=>(aB c0,aB c1,aG bW c2,aG bP c3,aG jQ c4,aG jQ c5,aG bW c6,aB c7,aB c8,aG jF c9,aG gZ c10,aG jG c11,aG bW c12,aB c13,aB c14,aB c15,aB c16,aG jG c17,aB c18)
 | _=>default
def aic (r:Int→Int→au→aj→aZ→aZ→au→Int→Int→bg→aW→bf→au→Int→Int→Int→Int→bf→Int→Option β):=mkT (u19 aoT) aqz (u19 r) u al
attribute [go_sem] aoT aqz aic
def aoR (a0 a1:Int) (a2:au) (a3:aj) (a4:au) (a5:aj) (a6:au) (a7 a8:Int):List Arg:=[.agg [.int .i64 a0,.int .i64 a1,ah 2 aO a2,ah 1 aN a3,ah 2 aO a4,ah 1 aN a5],.agg [ah 2 aO a6,.int .i64 a7,.int .i64 a8]]
def aqx:List Arg→Int×Int×au×aj×au×aj×au×Int×Int
 | [.agg [c0,c1,c2,c3,c4,c5],.agg [c6,c7,c8]]=>(aB c0,aB c1,aG bW c2,aG bP c3,aG bW c4,aG bP c5,aG bW c6,aB c7,aB c8)
 | _=>default
def arI (r:Int→Int→au→aj→au→aj→au→Int→Int→Option β):=mkT (u9 aoR) aqx (u9 r) u al
attribute [go_sem] aoR aqx arI
def aoQ (a0 a1:Int) (a2:au) (a3:aj) (a4:au) (a5:aj) (a6:bY):List Arg:=[.agg [.int .i64 a0,.int .i64 a1,ah 2 aO a2,ah 1 aN a3,ah 2 aO a4,ah 1 aN a5],.c (ah 3 dU a6)]
def aqw:List Arg→Int×Int×au×aj×au×aj×bY
 | [.agg [c0,c1,c2,c3,c4,c5],.c c6]=>(aB c0,aB c1,aG bW c2,aG bP c3,aG bW c4,aG bP c5,aG jX c6)
 | _=>default
def arH (r:Int→Int→au→aj→au→aj→bY→Option β):=mkT (u7 aoQ) aqw (u7 r) u al
attribute [go_sem] aoQ aqw arH
def aoP (a0:au) (a1 a2:Int):List Arg:=[.agg [ah 2 aO a0,.int .i64 a1,.int .i64 a2]]
def aqv:List Arg→au×Int×Int
 | [.agg [c0,c1,c2]]=>(aG bW c0,aB c1,aB c2)
 | _=>default
def arG (r:au→Int→Int→Option β):=mkT (u3 aoP) aqv (u3 r) u al
attribute [go_sem] aoP aqv arG
def aoO (a0 a1:Int) (a2:au) (a3:aj) (a4:au) (a5:aj) (a6 a7:aZ) (a8:au) (a9 a10:Int):List Arg:=[.agg [.int .i64 a0,.int .i64 a1,ah 2 aO a2,ah 1 aN a3,ah 2 aO a4,ah 1 aN a5],.agg [ah 1 cO a6,ah 1 cO a7],.agg [ah 2 aO a8,.int .i64 a9,.int .i64 a10]]
def aqu:List Arg→Int×Int×au×aj×au×aj×aZ×aZ×au×Int×Int
 | [.agg [c0,c1,c2,c3,c4,c5],.agg [c6,c7],.agg [c8,c9,c10]]=>(aB c0,aB c1,aG bW c2,aG bP c3,aG bW c4,aG bP c5,aG jQ c6,aG jQ c7,aG bW c8,aB c9,aB c10)
 | _=>default
def arF (r:Int→Int→au→aj→au→aj→aZ→aZ→au→Int→Int→Option β):=mkT (u11 aoO) aqu (u11 r) u al
attribute [go_sem] aoO aqu arF
def aoN (a0 a1:Int) (a2:au) (a3:aj) (a4:au) (a5:aj) (a6 a7:aZ) (a8:bY):List Arg:=[.agg [.int .i64 a0,.int .i64 a1,ah 2 aO a2,ah 1 aN a3,ah 2 aO a4,ah 1 aN a5],.agg [ah 1 cO a6,ah 1 cO a7],.c (ah 3 dU a8)]
def aqt:List Arg→Int×Int×au×aj×au×aj×aZ×aZ×bY
 | [.agg [c0,c1,c2,c3,c4,c5],.agg [c6,c7],.c c8]=>(aB c0,aB c1,aG bW c2,aG bP c3,aG bW c4,aG bP c5,aG jQ c6,aG jQ c7,aG jX c8)
 | _=>default
def arE (r:Int→Int→au→aj→au→aj→aZ→aZ→bY→Option β):=mkT (u9 aoN) aqt (u9 r) u al
attribute [go_sem] aoN aqt arE
def apF (v:Int×Int×au×aj×aZ×aZ×au×Int×Int×Int×Int×au×aj×aZ×aZ×au×Int×Int×bg×aW×bf×au×Int×Int×Int×Int×bf×Int×Int):List RV:=[.agg [.d (.int .i64 v.1),.d (.int .i64 v.2.1),.d (ah 2 aO v.2.2.1),.d (ah 1 aN v.2.2.2.1),.d (ah 1 cO v.2.2.2.2.1),.d (ah 1 cO v.2.2.2.2.2.1),.d (ah 2 aO v.2.2.2.2.2.2.1),.d (.int .i64 v.2.2.2.2.2.2.2.1),.d (.int .i64 v.2.2.2.2.2.2.2.2.1),.d (.int .i64 v.2.2.2.2.2.2.2.2.2.1),.d (.int .i64 v.2.2.2.2.2.2.2.2.2.2.1),.d (ah 2 aO v.2.2.2.2.2.2.2.2.2.2.2.1),.d (ah 1 aN v.2.2.2.2.2.2.2.2.2.2.2.2.1),.d (ah 1 cO v.2.2.2.2.2.2.2.2.2.2.2.2.2.1),.d (ah 1 cO v.2.2.2.2.2.2.2.2.2.2.2.2.2.2.1),.d (ah 2 aO v.2.2.2.2.2.2.2.2.2.2.2.2.2.2.2.1),.d (.int .i64 v.2.2.2.2.2.2.2.2.2.2.2.2.2.2.2.2.1),.d (.int .i64 v.2.2.2.2.2.2.2.2.2.2.2.2.2.2.2.2.2.1),.d (ah 4 cZ v.2.2.2.2.2.2.2.2.2.2.2.2.2.2.2.2.2.2.1),.d (ah 5 bU v.2.2.2.2.2.2.2.2.2.2.2.2.2.2.2.2.2.2.2.1),.d (ah 3 dn v.2.2.2.2.2.2.2.2.2.2.2.2.2.2.2.2.2.2.2.2.1),.d (ah 2 aO v.2.2.2.2.2.2.2.2.2.2.2.2.2.2.2.2.2.2.2.2.2.1),.d (.int .i64 v.2.2.2.2.2.2.2.2.2.2.2.2.2.2.2.2.2.2.2.2.2.2.1),.d (.int .i64 v.2.2.2.2.2.2.2.2.2.2.2.2.2.2.2.2.2.2.2.2.2.2.2.1),.d (.int .i64 v.2.2.2.2.2.2.2.2.2.2.2.2.2.2.2.2.2.2.2.2.2.2.2.2.1),.d (.int .i64 v.2.2.2.2.2.2.2.2.2.2.2.2.2.2.2.2.2.2.2.2.2.2.2.2.2.1),.d (ah 3 dn v.2.2.2.2.2.2.2.2.2.2.2.2.2.2.2.2.2.2.2.2.2.2.2.2.2.2.1),.d (.int .i64 v.2.2.2.2.2.2.2.2.2.2.2.2.2.2.2.2.2.2.2.2.2.2.2.2.2.2.2.1)],.c (.d (.int .i64 v.2.2.2.2.2.2.2.2.2.2.2.2.2.2.2.2.2.2.2.2.2.2.2.2.2.2.2.2))]
attribute [go_sem] apF
def apD (v:aZ×Int×aZ×Int):List RV:=[.agg [.own (ah 1 cO v.1),.d (.int .i64 v.2.1)],.agg [.own (ah 1 cO v.2.2.1),.d (.int .i64 v.2.2.2)]]
attribute [go_sem] apD
def apC (v:aZ×aZ×Int):List RV:=[.agg [.own (ah 1 cO v.1),.own (ah 1 cO v.2.1)],.c (.d (.int .i64 v.2.2))]
attribute [go_sem] apC
def ah7 (v:gJ×Int):List RV:=[.c (.own (ah 2 iH v.1)),.c (.d (.int .i64 v.2))]
attribute [go_sem] ah7
end
def ahN (a0 a1:Int):Option (Bool):=
 (KJ a0).bind fun v1=>
  if v1=true→(KJ a1).isSome=true then
   some ((v1 && (!((KJ a1).getD default))) || (decide (a0<a1)))
   else none
@[go_sem] def auM:=qT7 qE false ahN
@[go_sem] def am6 (k:Nat):=lk [(193,aj'.sp)] k
theorem f198:aF Tryz.prog 198 auM.sp:=by
 refine vm (tb:=am6) (.cons f193 .nil) Tryz.func198 Tryz.ntmps198 fun ⟨a0,a1⟩ r hr stop S=> ?_
 rw [yK,ahN] at hr
 refine S.gx [] ?_
 obtain ⟨v1,hv1,hr⟩:=aA hr
 obtain ⟨hg2,hr⟩:=aH hr
 try simp only [hv1,oG,oI,true_and,and_assoc]
 repeat (first | refine gG hg2 ?_ | refine gA ?_ | refine gB ?_)
 exact D0 hr
def QT (a0:aZ):Bd Int Bool:=fun s1=>
 if (decide (s1>0))=true then
  if 0≤s1∧s1<(a0.length:Int) then
   if 0≤IntKind.i64.wrap (s1 - 1)∧IntKind.i64.wrap (s1 - 1)<(a0.length:Int) then
    aP (ahN (a0.getD s1.toNat default) (a0.getD (IntKind.i64.wrap (s1 - 1)).toNat default)) fun v1=>
     if v1=true then
      .out (some false)
      else .next (IntKind.i64.wrap (s1 - 1))
    else .out none
   else .out none
  else .out (some true)
def aec (a0:aZ):Option (Bool):=
 aS (QT a0) 1000000000 (IntKind.i64.wrap ((a0.length:Int) - 1))
@[go_sem] def auY:=qT3 qE false aec
@[go_sem] def ane (k:Nat):=lk [(198,auM.sp)] k
theorem f172:aF Tryz.prog 172 auY.sp:=by
 refine vm (tb:=ane) (.cons f198 .nil) Tryz.func172 Tryz.ntmps172 fun a0 r hr stop S=> ?_
 rw [rF,aec] at hr
 refine S.gx [] ?_
 refine gr ?_
 refine S.sees [0,3] [] [] ?_ (Stop.iter S (fun s1=>⟨[(0,.c (.d (ah 1 cO a0))),(3,.c (.d (.int .i64 s1)))],[],[]⟩) (QT a0) (fun q=>q=r) hr rfl ?_)
 ·exact lf
 ·intro s1 hr
  unfold QT at hr
  refine S.gx [] ?_
  exact D1 (S.ss [0,3] [] []) hr
def Rn (x0 x1 x2 x3:Int) (v1:bG×bG×bG×bG):Bd ((Option (Int×au×Int))×Int) (Int×Int):=fun s4=>
 if (decide (s4.2<(v1.2.2.2.length:Int)))=true then
  if 0≤s4.2∧s4.2<(v1.2.2.2.length:Int) then
   aP (WM ((v1.2.2.2.getD s4.2.toNat default).1) ((v1.2.2.2.getD s4.2.toNat default).2.1) ((v1.2.2.2.getD s4.2.toNat default).2.2) s4.1 0) fun v11=>
    if (v11 != 0)=true then
     .out (some (s4.2,v11))
     else if 0≤s4.2∧s4.2<(v1.2.2.2.length:Int) then
      .next (some ((v1.2.2.2.getD s4.2.toNat default).1,(v1.2.2.2.getD s4.2.toNat default).2.1,(v1.2.2.2.getD s4.2.toNat default).2.2),IntKind.i64.wrap (s4.2+1))
      else .out none
   else .out none
  else .out (if (decide ((v1.1.length:Int)>0))=true then
   if (decide ((v1.2.1.length:Int)>0))=true→0≤IntKind.i64.wrap ((v1.2.1.length:Int) - 1)∧IntKind.i64.wrap ((v1.2.1.length:Int) - 1)<(v1.2.1.length:Int) then
    if (decide ((v1.2.1.length:Int)>0))=true→0≤0∧0<(v1.1.length:Int) then
     if ((decide ((v1.2.1.length:Int)>0)) && (decide (((v1.2.1.getD (IntKind.i64.wrap ((v1.2.1.length:Int) - 1)).toNat default).1)≥((v1.1.getD 0 default).1))))=true then
      some (0,13)
      else if (decide ((v1.2.2.1.length:Int)>0))=true→0≤IntKind.i64.wrap ((v1.2.2.1.length:Int) - 1)∧IntKind.i64.wrap ((v1.2.2.1.length:Int) - 1)<(v1.2.2.1.length:Int) then
       if (decide ((v1.2.2.1.length:Int)>0))=true→0≤0∧0<(v1.1.length:Int) then
        if ((decide ((v1.2.2.1.length:Int)>0)) && (decide (((v1.2.2.1.getD (IntKind.i64.wrap ((v1.2.2.1.length:Int) - 1)).toNat default).1)≥((v1.1.getD 0 default).1))))=true then
         some (0,13)
         else if (decide ((v1.2.2.2.length:Int)>0))=true→0≤IntKind.i64.wrap ((v1.2.2.2.length:Int) - 1)∧IntKind.i64.wrap ((v1.2.2.2.length:Int) - 1)<(v1.2.2.2.length:Int) then
          if (decide ((v1.2.2.2.length:Int)>0))=true→0≤0∧0<(v1.1.length:Int) then
           if ((decide ((v1.2.2.2.length:Int)>0)) && (decide (((v1.2.2.2.getD (IntKind.i64.wrap ((v1.2.2.2.length:Int) - 1)).toNat default).1)≥((v1.1.getD 0 default).1))))=true then
            some (0,13)
            else (adZ [x0,x1,x2,x3]).bind fun v14=>
             (iJ (!v14) 2).bind fun v15=>
              (aec [x0,x1,x2,x3]).bind fun v16=>
               (iJ v16 9).bind fun v17=>
                (rV [v15,v17]).bind fun v18=>
                 some (0,v18)
           else none
          else none
        else none
       else none
     else none
    else none
   else (adZ [x0,x1,x2,x3]).bind fun v25=>
    (iJ (!v25) 2).bind fun v26=>
     (aec [x0,x1,x2,x3]).bind fun v27=>
      (iJ v27 9).bind fun v28=>
       (rV [v26,v28]).bind fun v29=>
        some (0,v29))
def Ro (x0 x1 x2 x3:Int) (v1:bG×bG×bG×bG):Bd ((Option (Int×au×Int))×Int) (Int×Int):=fun s3=>
 if (decide (s3.2<(v1.2.2.1.length:Int)))=true then
  if 0≤s3.2∧s3.2<(v1.2.2.1.length:Int) then
   aP (WM ((v1.2.2.1.getD s3.2.toNat default).1) ((v1.2.2.1.getD s3.2.toNat default).2.1) ((v1.2.2.1.getD s3.2.toNat default).2.2) s3.1 (-1)) fun v8=>
    if (v8 != 0)=true then
     .out (some (s3.2,v8))
     else if 0≤s3.2∧s3.2<(v1.2.2.1.length:Int) then
      .next (some ((v1.2.2.1.getD s3.2.toNat default).1,(v1.2.2.1.getD s3.2.toNat default).2.1,(v1.2.2.1.getD s3.2.toNat default).2.2),IntKind.i64.wrap (s3.2+1))
      else .out none
   else .out none
  else .out (aS (Rn x0 x1 x2 x3 v1) 1000000000 (none,0))
def Rq (x0 x1 x2 x3:Int) (v1:bG×bG×bG×bG):Bd ((Option (Int×au×Int))×Int) (Int×Int):=fun s2=>
 if (decide (s2.2<(v1.2.1.length:Int)))=true then
  if 0≤s2.2∧s2.2<(v1.2.1.length:Int) then
   aP (WM ((v1.2.1.getD s2.2.toNat default).1) ((v1.2.1.getD s2.2.toNat default).2.1) ((v1.2.1.getD s2.2.toNat default).2.2) s2.1 0) fun v5=>
    if (v5 != 0)=true then
     .out (some (s2.2,v5))
     else if 0≤s2.2∧s2.2<(v1.2.1.length:Int) then
      .next (some ((v1.2.1.getD s2.2.toNat default).1,(v1.2.1.getD s2.2.toNat default).2.1,(v1.2.1.getD s2.2.toNat default).2.2),IntKind.i64.wrap (s2.2+1))
      else .out none
   else .out none
  else .out (aS (Ro x0 x1 x2 x3 v1) 1000000000 (none,0))
def Rt (x0 x1 x2 x3:Int) (v1:bG×bG×bG×bG):Bd ((Option (Int×au×Int))×Int) (Int×Int):=fun s1=>
 if (decide (s1.2<(v1.1.length:Int)))=true then
  if 0≤s1.2∧s1.2<(v1.1.length:Int) then
   aP (WM ((v1.1.getD s1.2.toNat default).1) ((v1.1.getD s1.2.toNat default).2.1) ((v1.1.getD s1.2.toNat default).2.2) s1.1 1) fun v2=>
    if (v2 != 0)=true then
     .out (some (s1.2,v2))
     else if 0≤s1.2∧s1.2<(v1.1.length:Int) then
      .next (some ((v1.1.getD s1.2.toNat default).1,(v1.1.getD s1.2.toNat default).2.1,(v1.1.getD s1.2.toNat default).2.2),IntKind.i64.wrap (s1.2+1))
      else .out none
   else .out none
  else .out (aS (Rq x0 x1 x2 x3 v1) 1000000000 (none,0))
def aej (x4:bg) (x5:aW) (x6:bf) (x7:au) (x0 x1 x2 x3:Int):Option (Int×Int):=
 (ahU x4 x5 x6 x7 x0 x1 x2 x3).bind fun v1=>
  if (decide ((v1.1.length:Int)>8))=true then
   some (0,8)
   else if (decide ((v1.2.1.length:Int)>8))=true then
    some (0,8)
    else if (decide ((v1.2.2.1.length:Int)>8))=true then
     some (0,8)
     else if (decide ((v1.2.2.2.length:Int)>8))=true then
      some (0,8)
      else aS (Rt x0 x1 x2 x3 v1) 1000000000 (none,0)
@[go_sem] def akf:=aer KR false aej
@[go_sem] def anF (k:Nat):=lk [(76,auh.sp),(135,Yo.sp),(138,NW.sp),(168,au1.sp),(169,au0.sp),(172,auY.sp)] k
theorem f131:aF Tryz.prog 131 akf.sp:=by
 refine vm (tb:=anF) (.cons aA4 (.cons f135 (.cons f138 (.cons f168 (.cons f169 (.cons f172 .nil)))))) Tryz.func131 Tryz.ntmps131 fun ⟨x4,x5,x6,x7,x0,x1,x2,x3⟩ r hr stop S=> ?_
 rw [uq8,aej] at hr
 refine S.gx [26,27] ?_
 obtain ⟨v1,hv1,hr⟩:=aA hr
 refine gb hv1 ?_
 refine S.lp ?_
 refine S.gx [26,27] ?_
 refine gr ?_
 refine iW hr (fun hc hr=>D0 hr) fun hc hr=> ?_
 refine gr ?_
 refine S.lp ?_
 refine S.gx [26,27] ?_
 refine gr ?_
 refine iW hr (fun hc hr=>D0 hr) fun hc hr=> ?_
 refine gr ?_
 refine S.lp ?_
 refine S.gx [26,27] ?_
 refine gr ?_
 refine iW hr (fun hc hr=>D0 hr) fun hc hr=> ?_
 refine gr ?_
 refine S.lp ?_
 refine S.gx [26,27] ?_
 refine gr ?_
 refine iW hr (fun hc hr=>D0 hr) fun hc hr=> ?_
 refine gr ?_
 refine S.lp ?_
 refine S.gx [26,27] ?_
 refine gr ?_
 refine S.lp ?_
 refine S.gx [26,27] ?_
 refine gr ?_
 refine S.share 16 rfl ?_
 refine S.sees [1,4,7,8,9,25,26,31,32] [(1,1),(4,4)] [(16,16),(10016,10016),(20016,20016),(30016,30016)] ?_ (Stop.iter S (fun s1=>⟨[(1,.c (.ref 1 0)),(4,.c (.ref 4 0)),(7,.c (.d (.int .i64 0))),(8,.c (.own 16)),(9,.c (.d (vX bI s1.1))),(25,.agg [.own 16,.own 10016,.own 20016,.own 30016]),(26,.c (.d (.int .i64 0))),(31,.c (.d (.int .i64 (v1.1.length:Int)))),(32,.c (.d (.int .i64 s1.2)))],[(1,[.d (ah 4 cZ x4),.d (ah 5 bU x5),.d (ah 3 dn x6),.d (ah 2 aO x7),.d (.int .i64 x0),.d (.int .i64 x1),.d (.int .i64 x2),.d (.int .i64 x3)]),(4,[.own 16,.own 10016,.own 20016,.own 30016])],[(16,.shared (ah 3 bI v1.1)),(10016,.owned (ah 3 bI v1.2.1)),(20016,.owned (ah 3 bI v1.2.2.1)),(30016,.owned (ah 3 bI v1.2.2.2))]⟩) (Rt x0 x1 x2 x3 v1) (fun q=>q=r) hr rfl ?_)
 ·exact lf
 ·intro s1 hr
  unfold Rt at hr
  refine S.gx [26,27] ?_
  refine gr ?_
  refine dM hr (fun hc hr=>D1 (S.ss [1,4,7,8,9,25,26,31,32] [(1,1),(4,4)] [(16,16),(10016,10016),(20016,20016),(30016,30016)]) hr) fun hc hr=> ?_
  refine gr ?_
  have hr:=bK hr
  refine gr ?_
  refine S.lp ?_
  refine S.gx [26,27] ?_
  refine gr ?_
  refine S.share 10016 rfl ?_
  refine S.sees [1,4,7,8,9,25,26,31,32] [(1,1),(4,4)] [(10016,10016),(16,16),(20016,20016),(30016,30016)] ?_ (Stop.iter S (fun s2=>⟨[(1,.c (.ref 1 0)),(4,.c (.ref 4 0)),(7,.c (.d (.int .i64 1))),(8,.c (.own 10016)),(9,.c (.d (vX bI s2.1))),(25,.agg [.own 16,.own 10016,.own 20016,.own 30016]),(26,.c (.d (.int .i64 1))),(31,.c (.d (.int .i64 (v1.2.1.length:Int)))),(32,.c (.d (.int .i64 s2.2)))],[(1,[.d (ah 4 cZ x4),.d (ah 5 bU x5),.d (ah 3 dn x6),.d (ah 2 aO x7),.d (.int .i64 x0),.d (.int .i64 x1),.d (.int .i64 x2),.d (.int .i64 x3)]),(4,[.own 16,.own 10016,.own 20016,.own 30016])],[(10016,.shared (ah 3 bI v1.2.1)),(16,.shared (ah 3 bI v1.1)),(20016,.owned (ah 3 bI v1.2.2.1)),(30016,.owned (ah 3 bI v1.2.2.2))]⟩) (Rq x0 x1 x2 x3 v1) (fun q=>q=r) hr rfl ?_)
  ·exact lf
  ·intro s2 hr
   unfold Rq at hr
   refine S.gx [26,27] ?_
   refine gr ?_
   refine dM hr (fun hc hr=>D1 (S.ss [1,4,7,8,9,25,26,31,32] [(1,1),(4,4)] [(10016,10016),(16,16),(20016,20016),(30016,30016)]) hr) fun hc hr=> ?_
   refine gr ?_
   have hr:=bK hr
   refine gr ?_
   refine S.lp ?_
   refine S.gx [26,27] ?_
   refine gr ?_
   refine S.share 20016 rfl ?_
   refine S.sees [1,4,7,8,9,25,26,31,32] [(1,1),(4,4)] [(20016,20016),(16,16),(10016,10016),(30016,30016)] ?_ (Stop.iter S (fun s3=>⟨[(1,.c (.ref 1 0)),(4,.c (.ref 4 0)),(7,.c (.d (.int .i64 2))),(8,.c (.own 20016)),(9,.c (.d (vX bI s3.1))),(25,.agg [.own 16,.own 10016,.own 20016,.own 30016]),(26,.c (.d (.int .i64 2))),(31,.c (.d (.int .i64 (v1.2.2.1.length:Int)))),(32,.c (.d (.int .i64 s3.2)))],[(1,[.d (ah 4 cZ x4),.d (ah 5 bU x5),.d (ah 3 dn x6),.d (ah 2 aO x7),.d (.int .i64 x0),.d (.int .i64 x1),.d (.int .i64 x2),.d (.int .i64 x3)]),(4,[.own 16,.own 10016,.own 20016,.own 30016])],[(20016,.shared (ah 3 bI v1.2.2.1)),(16,.shared (ah 3 bI v1.1)),(10016,.shared (ah 3 bI v1.2.1)),(30016,.owned (ah 3 bI v1.2.2.2))]⟩) (Ro x0 x1 x2 x3 v1) (fun q=>q=r) hr rfl ?_)
   ·exact lf
   ·intro s3 hr
    unfold Ro at hr
    refine S.gx [26,27] ?_
    refine gr ?_
    refine dM hr (fun hc hr=>D1 (S.ss [1,4,7,8,9,25,26,31,32] [(1,1),(4,4)] [(20016,20016),(16,16),(10016,10016),(30016,30016)]) hr) fun hc hr=> ?_
    refine gr ?_
    have hr:=bK hr
    refine gr ?_
    refine S.lp ?_
    refine S.gx [26,27] ?_
    refine gr ?_
    refine S.share 30016 rfl ?_
    refine S.sees [1,4,7,8,9,25,26,31,32] [(1,1),(4,4)] [(30016,30016),(16,16),(10016,10016),(20016,20016)] ?_ (Stop.iter S (fun s4=>⟨[(1,.c (.ref 1 0)),(4,.c (.ref 4 0)),(7,.c (.d (.int .i64 3))),(8,.c (.own 30016)),(9,.c (.d (vX bI s4.1))),(25,.agg [.own 16,.own 10016,.own 20016,.own 30016]),(26,.c (.d (.int .i64 3))),(31,.c (.d (.int .i64 (v1.2.2.2.length:Int)))),(32,.c (.d (.int .i64 s4.2)))],[(1,[.d (ah 4 cZ x4),.d (ah 5 bU x5),.d (ah 3 dn x6),.d (ah 2 aO x7),.d (.int .i64 x0),.d (.int .i64 x1),.d (.int .i64 x2),.d (.int .i64 x3)]),(4,[.own 16,.own 10016,.own 20016,.own 30016])],[(30016,.shared (ah 3 bI v1.2.2.2)),(16,.shared (ah 3 bI v1.1)),(10016,.shared (ah 3 bI v1.2.1)),(20016,.shared (ah 3 bI v1.2.2.1))]⟩) (Rn x0 x1 x2 x3 v1) (fun q=>q=r) hr rfl ?_)
    ·exact lf
    ·intro s4 hr
     unfold Rn at hr
     refine S.gx [26,27] ?_
     refine gr ?_
     refine dM hr (fun hc hr=>D1 (S.ss [1,4,7,8,9,25,26,31,32] [(1,1),(4,4)] [(30016,30016),(16,16),(10016,10016),(20016,20016)]) hr) fun hc hr=> ?_
     refine gr ?_
     have hr:=bK hr
     refine gr ?_
     refine S.lp ?_
     refine S.gx [26,27] ?_
     refine gr ?_
     refine iW hr (fun hc hr=> ?_) fun hc hr=>D0 hr
     refine gr ?_
     refine S.lp ?_
     refine S.gx [26,27] ?_
     obtain ⟨aaG,hr⟩:=aH hr
     obtain ⟨Xm,hr⟩:=aH hr
     repeat (first | refine gG aaG ?_ | refine gG Xm ?_ | refine gA ?_ | refine gB ?_)
     refine iW hr (fun hc hr=> ?_) fun hc hr=> ?_
     ·refine gr ?_
      refine S.prune [] ?_
      refine S.gx [27] ?_
      exact D0 hr
     ·refine gr ?_
      refine S.prune [1,4,57,58,59] ?_
      refine S.gx [26] ?_
      refine gr ?_
      refine gr ?_
      refine S.lp ?_
      refine S.gx [26,27] ?_
      obtain ⟨aaI,hr⟩:=aH hr
      obtain ⟨aaH,hr⟩:=aH hr
      repeat (first | refine gG aaI ?_ | refine gG aaH ?_ | refine gA ?_ | refine gB ?_)
      refine iW hr (fun hc hr=> ?_) fun hc hr=> ?_
      ·refine gr ?_
       refine S.prune [] ?_
       refine S.gx [27] ?_
       exact D0 hr
      ·refine gr ?_
       refine S.prune [1,4,57,58,59] ?_
       refine S.gx [26] ?_
       refine gr ?_
       refine gr ?_
       refine S.lp ?_
       refine S.gx [26,27] ?_
       obtain ⟨aeV,hr⟩:=aH hr
       obtain ⟨Xn,hr⟩:=aH hr
       repeat (first | refine gG aeV ?_ | refine gG Xn ?_ | refine gA ?_ | refine gB ?_)
       refine iW hr (fun hc hr=> ?_) fun hc hr=> ?_
       ·refine gr ?_
        refine S.prune [] ?_
        refine S.gx [27] ?_
        exact D0 hr
       ·refine gr ?_
        refine S.prune [1,4,57,58,59] ?_
        refine S.gx [26] ?_
        refine gr ?_
        refine gr ?_
        refine S.lp ?_
        refine S.gx [26,27] ?_
        exact D0 hr
def Zi (a0:Int):Option (Bool):=
 (yJ a0 0 2000).bind fun v1=>
  some v1
@[go_sem] def avk:=KT qE false Zi
@[go_sem] def anE (k:Nat):=lk [(37,T37.sp)] k
theorem f132:aF Tryz.prog 132 avk.sp:=by
 refine vm (tb:=anE) (.cons f37 .nil) Tryz.func132 Tryz.ntmps132 fun a0 r hr stop S=> ?_
 rw [rF,Zi] at hr
 refine S.gx [] ?_
 exact D0 hr
def ab5 (x1:Int) (x0:bf) (x2:Int):Bd Int (Int×Int):=fun s1=>
 if (decide (s1<(x0.length:Int)))=true then
  if 0≤s1∧s1<(x0.length:Int) then
   aP (yJ ((x0.getD s1.toNat default).1) 0 (IntKind.i64.wrap (x1 - 1))) fun v5=>
    aP (lJ v5 6) fun v6=>
     aP (Zi ((x0.getD s1.toNat default).2.1)) fun v7=>
      if v7=true→(Zi ((x0.getD s1.toNat default).2.2)).isSome=true then
       aP (lJ (v7 && ((Zi ((x0.getD s1.toNat default).2.2)).getD default)) 2) fun v8=>
        aP (lJ (decide (((x0.getD s1.toNat default).2.1)≤((x0.getD s1.toNat default).2.2))) 9) fun v9=>
         aP (vP [v6,v8,v9]) fun v10=>
          if (v10 != 0)=true then
           .out (some (s1,v10))
           else .next (IntKind.i64.wrap (s1+1))
       else .out none
   else .out none
  else .out ((yJ x2 200 3000).bind fun v13=>
   (lJ v13 2).bind fun v14=>
    some (0,v14))
def r96 (x1 x3:Int) (x4:au) (x5:aj) (x6 x7:aZ) (x8:au) (x9 x10:Int) (x11:bg) (x12:aW) (dO:bf) (x14:au) (x15 x16 x17 x18:Int) (x0:bf) (x2:Int):Option (Int×Int):=
 (r20 x1 x3 x4 x5 x6 x7 x8 x9 x10).bind fun v1=>
  (aej x11 x12 dO x14 x15 x16 x17 x18).bind fun v2=>
   (lJ (decide ((x0.length:Int)≤6)) 8).bind fun v3=>
    (vP [v1.2,v2.2,v3]).bind fun v4=>
     if (v4 != 0)=true then
      some (0,v4)
      else aS (ab5 x1 x0 x2) 1000000000 0
@[go_sem] def T96:=aic KR false r96
@[go_sem] def ayr (k:Nat):=lk [(20,T20.sp),(37,T37.sp),(38,T38.sp),(39,T39.sp),(131,akf.sp),(132,avk.sp)] k
theorem f96:aF Tryz.prog 96 T96.sp:=by
 refine vm (tb:=ayr) (.cons f20 (.cons f37 (.cons f38 (.cons f39 (.cons f131 (.cons f132 .nil)))))) Tryz.func96 Tryz.ntmps96 fun ⟨x1,x3,x4,x5,x6,x7,x8,x9,x10,x11,x12,dO,x14,x15,x16,x17,x18,x0,x2⟩ r hr stop S=> ?_
 rw [acW,r96] at hr
 refine S.gx [5,6,11] ?_
 obtain ⟨v1,hv1,hr⟩:=aA hr
 obtain ⟨v2,hv2,hr⟩:=aA hr
 obtain ⟨v3,hv3,hr⟩:=aA hr
 obtain ⟨v4,hv4,hr⟩:=aA hr
 refine gb hv1 ?_
 refine gb hv2 ?_
 refine gb hv3 ?_
 refine gb hv4 ?_
 refine iW hr (fun hc hr=> ?_) fun hc hr=> ?_
 ·refine gr ?_
  refine S.prune [8] ?_
  refine S.gx [6,11] ?_
  exact D0 hr
 ·refine gr ?_
  refine S.prune [1] ?_
  refine S.gx [5,11] ?_
  refine gr ?_
  refine gr ?_
  refine S.sees [1,9,38,39,40] [(1,1)] [] ?_ (Stop.iter S (fun s1=>⟨[(1,.c (.ref 1 0)),(9,.c (.clo 132 [])),(38,.c (.d (ah 3 dn x0))),(39,.c (.d (.int .i64 (x0.length:Int)))),(40,.c (.d (.int .i64 s1)))],[(1,[.d (.int .i64 x1),.d (.int .i64 x3),.d (ah 2 aO x4),.d (ah 1 aN x5),.d (ah 1 cO x6),.d (ah 1 cO x7),.d (ah 2 aO x8),.d (.int .i64 x9),.d (.int .i64 x10),.d (ah 4 cZ x11),.d (ah 5 bU x12),.d (ah 3 dn dO),.d (ah 2 aO x14),.d (.int .i64 x15),.d (.int .i64 x16),.d (.int .i64 x17),.d (.int .i64 x18),.d (ah 3 dn x0),.d (.int .i64 x2)])],[]⟩) (ab5 x1 x0 x2) (fun q=>q=r) hr rfl ?_)
  ·exact lf
  ·intro s1 hr
   unfold ab5 at hr
   refine S.gx [5,6,11] ?_
   refine gr ?_
   refine dM hr (fun hc hr=> ?_) fun hc hr=>D0 hr
   obtain ⟨LZ,hr⟩:=aC hr
   obtain ⟨v5,hv5,hr⟩:=aQ hr
   obtain ⟨v6,hv6,hr⟩:=aQ hr
   obtain ⟨v7,hv7,hr⟩:=aQ hr
   obtain ⟨LY,hr⟩:=aC hr
   obtain ⟨v8,Xk,hr⟩:=aQ hr
   obtain ⟨v9,hv9,hr⟩:=aQ hr
   obtain ⟨v10,vV,hr⟩:=aQ hr
   try simp only [hv5,hv6,hv7,Xk,hv9,vV,Option.getD_some,Option.isSome_some,true_and,and_assoc]
   repeat (first | refine gG LY ?_ | refine gA ?_ | refine gB ?_)
   refine S.prune [1,9,10,12,38,39,40] ?_
   refine S.gx [5,6] ?_
   exact D1 (S.ss [1,9,38,39,40] [(1,1)] []) hr
def r64 (x0 x1:Int) (x2:au) (x3:aj) (x4 x5:aZ) (x6:au) (x7 x8:Int) (x9:bg) (x10:aW) (x11:bf) (x12:au) (dO x14 x15 x16:Int) (x17:bf) (x18:Int):Option (Int×Int×au×aj×aZ×aZ×au×Int×Int×Int×Int×au×aj×aZ×aZ×au×Int×Int×bg×aW×bf×au×Int×Int×Int×Int×bf×Int×Int):=
 (r96 x0 x1 x2 x3 x4 x5 x6 x7 x8 x9 x10 x11 x12 dO x14 x15 x16 x17 x18).bind fun v1=>
  some (x0,x1,x2,x3,x4,x5,x6,x7,x8,x0,x1,x2,x3,x4,x5,x6,x7,x8,x9,x10,x11,x12,dO,x14,x15,x16,x17,x18,v1.2)
@[go_sem] def T64:=aic apF true r64
@[go_sem] def ayH (k:Nat):=lk [(96,T96.sp)] k
theorem f64:aF Tryz.prog 64 T64.sp:=by
 refine vm (tb:=ayH) (.cons f96 .nil) Tryz.func64 Tryz.ntmps64 fun ⟨x0,x1,x2,x3,x4,x5,x6,x7,x8,x9,x10,x11,x12,dO,x14,x15,x16,x17,x18⟩ r hr stop S=> ?_
 rw [acW,r64] at hr
 refine S.gx [] ?_
 exact D0 hr
def yF (x0 x1:Int) (x2:au) (x3:aj) (x4 x5:aZ) (x6:au) (x7 x8:Int) (a1:au):Bd (Int×Int) Int:=fun s1=>
 if (decide (s1.2<(a1.length:Int)))=true then
  if 0≤s1.2∧s1.2<(a1.length:Int) then
   aP (yJ ((a1.getD s1.2.toNat default).1) 0 10000) fun v2=>
    aP (lJ v2 2) fun v3=>
     aP (r43 x0 x1 x2 x3 x4 x5 x6 x7 x8) fun v4=>
      aP (yJ ((a1.getD s1.2.toNat default).2) 0 v4) fun v5=>
       aP (lJ v5 6) fun v6=>
        aP (vP [s1.1,v3,v6]) fun v7=>
         .next (v7,IntKind.i64.wrap (s1.2+1))
   else .out none
  else .out (some s1.1)
def r65 (x0 x1:Int) (x2:au) (x3:aj) (x4 x5:aZ) (x6:au) (x7 x8:Int) (a1:au):Option (Int):=
 (lJ (decide ((a1.length:Int)≤200)) 8).bind fun v1=>
  aS (yF x0 x1 x2 x3 x4 x5 x6 x7 x8 a1) 1000000000 (v1,0)
@[go_sem] def T65:=O5 lK false r65
@[go_sem] def ayG (k:Nat):=lk [(37,T37.sp),(38,T38.sp),(39,T39.sp),(43,T43.sp)] k
theorem f65:aF Tryz.prog 65 T65.sp:=by
 refine vm (tb:=ayG) (.cons f37 (.cons f38 (.cons f39 (.cons f43 .nil)))) Tryz.func65 Tryz.ntmps65 fun ⟨x0,x1,x2,x3,x4,x5,x6,x7,x8,a1⟩ r hr stop S=> ?_
 rw [HY,r65] at hr
 refine S.gx [] ?_
 obtain ⟨v1,hv1,hr⟩:=aA hr
 refine gb hv1 ?_
 refine S.sees [2,5,12,13,14] [(2,2)] [] ?_ (Stop.iter S (fun s1=>⟨[(2,.c (.ref 2 0)),(5,.c (.d (.int .i64 s1.1))),(12,.c (.d (ah 2 aO a1))),(13,.c (.d (.int .i64 (a1.length:Int)))),(14,.c (.d (.int .i64 s1.2)))],[(2,[.d (.int .i64 x0),.d (.int .i64 x1),.d (ah 2 aO x2),.d (ah 1 aN x3),.d (ah 1 cO x4),.d (ah 1 cO x5),.d (ah 2 aO x6),.d (.int .i64 x7),.d (.int .i64 x8)])],[]⟩) (yF x0 x1 x2 x3 x4 x5 x6 x7 x8 a1) (fun q=>q=r) hr rfl ?_)
 ·exact lf
 ·intro s1 hr
  unfold yF at hr
  refine S.gx [] ?_
  exact D1 (S.ss [2,5,12,13,14] [(2,2)] []) hr
def Es (x0:Int) (a1:au) (s1:(List (au×Int×Int))×Int) (v1 v2:aZ×Int) (v3:Int):Bd (Int×(List (Int×Int))) (gK ((List (au×Int×Int))×Int) (bY)):=fun s2=>
 if (decide (s2.1<(v1.1.length:Int)))=true then
  if 0≤s2.1∧s2.1<(v1.1.length:Int) then
   if 0≤s2.1∧s2.1<(v2.1.length:Int) then
    if (s2.2.length+1)*16≤140737488355328∧s2.2.length+1≤9223372036854775807 then
     .next (IntKind.i64.wrap (s2.1+1),s2.2++[((v1.1.getD s2.1.toNat default),(v2.1.getD s2.1.toNat default))])
     else .out none
    else .out none
   else .out none
  else .out (some (if (s1.1.length+1)*40≤140737488355328∧s1.1.length+1≤9223372036854775807 then
   .next (s1.1++[(s2.2,(if 0<IntKind.i64.wrap (((a1.getD s1.2.toNat default).2) - x0) then IntKind.i64.wrap (((a1.getD s1.2.toNat default).2) - x0) else 0),(if IntKind.i64.wrap (((a1.getD s1.2.toNat default).2)+x0)<v3 then IntKind.i64.wrap (((a1.getD s1.2.toNat default).2)+x0) else v3))],IntKind.i64.wrap (s1.2+1))
   else .out none))
def GZ (x1 x2:Int) (x3:au) (x4:aj) (x5 x6:aZ) (x7:au) (x8 x0:Int) (a1:au):Bd ((List (au×Int×Int))×Int) bY:=fun s1=>
 if (decide (s1.2<(a1.length:Int)))=true then
  if 0≤s1.2∧s1.2<(a1.length:Int) then
   aP (JO x1 x2 x3 x4 x5 x6 x7 x8 x0 ((a1.getD s1.2.toNat default).1) ((a1.getD s1.2.toNat default).2) 88) fun v1=>
    aP (JO x1 x2 x3 x4 x5 x6 x7 x8 x0 ((a1.getD s1.2.toNat default).1) ((a1.getD s1.2.toNat default).2) 89) fun v2=>
     aP (r43 x1 x2 x3 x4 x5 x6 x7 x8 x0) fun v3=>
      (aS (Es x0 a1 s1 v1 v2 v3) 1000000000 (0,[])).getD (.out none)
   else .out none
  else .out (some s1.1)
def r56 (x1 x2:Int) (x3:au) (x4:aj) (x5 x6:aZ) (x7:au) (x8 x0:Int) (a1:au):Option (bY):=
 aS (GZ x1 x2 x3 x4 x5 x6 x7 x8 x0 a1) 1000000000 ([],0)
@[go_sem] def T56:=O5 apE true r56
@[go_sem] def ayM (k:Nat):=lk [(43,T43.sp),(74,T74.sp)] k
theorem f56:aF Tryz.prog 56 T56.sp:=by
 refine vm (tb:=ayM) (.cons f43 (.cons f74 .nil)) Tryz.func56 Tryz.ntmps56 fun ⟨x1,x2,x3,x4,x5,x6,x7,x8,x0,a1⟩ r hr stop S=> ?_
 rw [HY,r56] at hr
 refine S.gx [] ?_
 refine gr ?_
 refine S.O8 5 1000500 3 rfl rfl ?_
 refine S.sees [2,5,12,13,14] [(2,2)] [(1000500,1000500)] ?_ (Stop.iter S (fun s1=>⟨[(2,.c (.ref 2 0)),(5,.c (.own 1000500)),(12,.c (.d (ah 2 aO a1))),(13,.c (.d (.int .i64 (a1.length:Int)))),(14,.c (.d (.int .i64 s1.2)))],[(2,[.d (.int .i64 x1),.d (.int .i64 x2),.d (ah 2 aO x3),.d (ah 1 aN x4),.d (ah 1 cO x5),.d (ah 1 cO x6),.d (ah 2 aO x7),.d (.int .i64 x8),.d (.int .i64 x0)])],[(1000500,.owned (ah 3 dU s1.1))]⟩) (GZ x1 x2 x3 x4 x5 x6 x7 x8 x0 a1) (fun q=>q=r) hr rfl ?_)
 ·exact lf
 ·intro s1 hr
  unfold GZ at hr
  refine S.gx [] ?_
  refine gr ?_
  refine dM hr (fun hc hr=> ?_) fun hc hr=>D0 hr
  obtain ⟨Vt,hr⟩:=aC hr
  obtain ⟨v1,hv1,hr⟩:=aQ hr
  obtain ⟨v2,hv2,hr⟩:=aQ hr
  obtain ⟨v3,hv3,hr⟩:=aQ hr
  refine gb hv1 ?_
  refine gb hv2 ?_
  refine gb hv3 ?_
  refine S.pW 10 0 2001000 2 rfl rfl (nL rfl) rfl ?_
  obtain ⟨q2,hq,hr⟩:=iQ hr
  refine S.sees [2,5,8,9,10,12,13,14,44,45] [(2,2),(8,8),(9,9),(10,10)] [(2001000,2001000),(1000500,1000500),(20,20),(23,23)] ?_ (Stop.iter S (fun s2=>⟨[(2,.c (.ref 2 0)),(5,.c (.own 1000500)),(8,.c (.ref 8 0)),(9,.c (.ref 9 0)),(10,.c (.ref 10 0)),(12,.c (.d (ah 2 aO a1))),(13,.c (.d (.int .i64 (a1.length:Int)))),(14,.c (.d (.int .i64 s1.2))),(44,.c (.d (.int .i64 (v1.1.length:Int)))),(45,.c (.d (.int .i64 s2.1)))],[(2,[.d (.int .i64 x1),.d (.int .i64 x2),.d (ah 2 aO x3),.d (ah 1 aN x4),.d (ah 1 cO x5),.d (ah 1 cO x6),.d (ah 2 aO x7),.d (.int .i64 x8),.d (.int .i64 x0)]),(8,[.own 20,.d (.int .i64 v1.2)]),(9,[.own 23,.d (.int .i64 v2.2)]),(10,[.own 2001000,.d (.int .i64 (if 0<IntKind.i64.wrap (((a1.getD s1.2.toNat default).2) - x0) then IntKind.i64.wrap (((a1.getD s1.2.toNat default).2) - x0) else 0)),.d (.int .i64 (if IntKind.i64.wrap (((a1.getD s1.2.toNat default).2)+x0)<v3 then IntKind.i64.wrap (((a1.getD s1.2.toNat default).2)+x0) else v3))])],[(2001000,.owned (ah 2 aO s2.2)),(1000500,.owned (ah 3 dU s1.1)),(20,.owned (ah 1 cO v1.1)),(23,.owned (ah 1 cO v2.1))]⟩) (Es x0 a1 s1 v1 v2 v3) _ hq hr ?_)
  ·exact lf
  ·intro s2 hr
   unfold Es at hr
   refine S.gx [] ?_
   refine gr ?_
   refine dM hr (fun hc hr=>D1 (S.ss [2,5,8,9,10,12,13,14,44,45] [(2,2),(8,8),(9,9),(10,10)] [(62,2001000),(1000500,1000500),(20,20),(23,23)]) hr) fun hc hr=> ?_
   refine gr ?_
   replace hr:=bC hr
   exact D1 (S.ss [2,5,12,13,14] [(2,2)] [(68,1000500)]) hr
def Zm (x0 x1:Int) (x2:au) (x3:aj) (x4 x5:aZ):Option (Int×Int×au×aj×au×aj×Int):=
 (r86 x0 x1 x2 x3).bind fun v1=>
  if (v1.2.2.2.2.2.2 == 0)=true then
   (r87 v1.1 v1.2.1 v1.2.2.1 v1.2.2.2.1 v1.2.2.2.2.1 v1.2.2.2.2.2.1 x4 x5).bind fun v2=>
    some (v1.1,v1.2.1,v1.2.2.1,v1.2.2.2.1,v1.2.2.2.2.1,v1.2.2.2.2.2.1,v2.2)
   else some (v1.1,v1.2.1,v1.2.2.1,v1.2.2.2.1,v1.2.2.2.2.1,v1.2.2.2.2.2.1,v1.2.2.2.2.2.2)
@[go_sem] def avs:=Zt qu8 true Zm
@[go_sem] def anO (k:Nat):=lk [(86,T86.sp),(87,T87.sp)] k
theorem f114:aF Tryz.prog 114 avs.sp:=by
 refine vm (tb:=anO) (.cons f86 (.cons f87 .nil)) Tryz.func114 Tryz.ntmps114 fun ⟨x0,x1,x2,x3,x4,x5⟩ r hr stop S=> ?_
 rw [YA,Zm] at hr
 refine S.gx [] ?_
 exact D0 hr
def zB (x1 x2:Int) (x3:au) (x4:aj) (x5:au) (x6:aj) (x0:au) (x7 x8:Int):Bd (Int×Int) Int:=fun s1=>
 if (decide (s1.2<(x0.length:Int)))=true then
  if 0≤s1.2∧s1.2<(x0.length:Int) then
   aP (KN ((x0.getD s1.2.toNat default).1)) fun v2=>
    if v2=true→(KN ((x0.getD s1.2.toNat default).2)).isSome=true then
     aP (nS (v2 && ((KN ((x0.getD s1.2.toNat default).2)).getD default)) 2) fun v3=>
      aP (nS (decide (((x0.getD s1.2.toNat default).1)≤((x0.getD s1.2.toNat default).2))) 9) fun v4=>
       aP (AA [s1.1,v3,v4]) fun v5=>
        .next (v5,IntKind.i64.wrap (s1.2+1))
     else .out none
   else .out none
  else .out ((OZ x1 x2 x3 x4 x5 x6 x7).bind fun v8=>
   (OZ x1 x2 x3 x4 x5 x6 x8).bind fun v9=>
    (nS (decide (x7≤x8)) 9).bind fun v10=>
     (AA [s1.1,v8,v9,v10]).bind fun v11=>
      some v11)
def Zh (x1 x2:Int) (x3:au) (x4:aj) (x5:au) (x6:aj) (x0:au) (x7 x8:Int):Option (Int):=
 (nS ((x0.length:Int) == x1) 10).bind fun v1=>
  aS (zB x1 x2 x3 x4 x5 x6 x0 x7 x8) 1000000000 (v1,0)
@[go_sem] def au7:=arI lK false Zh
@[go_sem] def anl (k:Nat):=lk [(117,Rz.sp),(118,JE.sp),(150,ake.sp),(151,akd.sp)] k
theorem f161:aF Tryz.prog 161 au7.sp:=by
 refine vm (tb:=anl) (.cons f117 (.cons f118 (.cons f150 (.cons f151 .nil)))) Tryz.func161 Tryz.ntmps161 fun ⟨x1,x2,x3,x4,x5,x6,x0,x7,x8⟩ r hr stop S=> ?_
 rw [Oa,Zh] at hr
 refine S.gx [] ?_
 obtain ⟨v1,hv1,hr⟩:=aA hr
 refine gb hv1 ?_
 refine S.sees [2,3,5,17,18,19] [(2,2),(3,3)] [] ?_ (Stop.iter S (fun s1=>⟨[(2,.c (.ref 2 0)),(3,.c (.ref 3 0)),(5,.c (.d (.int .i64 s1.1))),(17,.c (.d (ah 2 aO x0))),(18,.c (.d (.int .i64 (x0.length:Int)))),(19,.c (.d (.int .i64 s1.2)))],[(2,[.d (.int .i64 x1),.d (.int .i64 x2),.d (ah 2 aO x3),.d (ah 1 aN x4),.d (ah 2 aO x5),.d (ah 1 aN x6)]),(3,[.d (ah 2 aO x0),.d (.int .i64 x7),.d (.int .i64 x8)])],[]⟩) (zB x1 x2 x3 x4 x5 x6 x0 x7 x8) (fun q=>q=r) hr rfl ?_)
 ·exact lf
 ·intro s1 hr
  unfold zB at hr
  refine S.gx [] ?_
  refine gr ?_
  refine dM hr (fun hc hr=> ?_) fun hc hr=>D0 hr
  obtain ⟨hg6,hr⟩:=aC hr
  obtain ⟨v2,hv2,hr⟩:=aQ hr
  obtain ⟨hg7,hr⟩:=aC hr
  obtain ⟨v3,hv3,hr⟩:=aQ hr
  obtain ⟨v4,hv4,hr⟩:=aQ hr
  obtain ⟨v5,hv5,hr⟩:=aQ hr
  try simp only [hv2,hv3,hv4,hv5,Option.getD_some,Option.isSome_some,true_and,and_assoc]
  repeat (first | refine gG hg7 ?_ | refine gA ?_ | refine gB ?_)
  exact D1 (S.ss [2,3,5,17,18,19] [(2,2),(3,3)] []) hr
def zH (x0 x1:Int) (x2:au) (x3:aj) (x4:au) (x5:aj) (a1:bY):Bd (Int×Int) Int:=fun s1=>
 if (decide (s1.2<(a1.length:Int)))=true then
  if 0≤s1.2∧s1.2<(a1.length:Int) then
   aP (Zh x0 x1 x2 x3 x4 x5 ((a1.getD s1.2.toNat default).1) ((a1.getD s1.2.toNat default).2.1) ((a1.getD s1.2.toNat default).2.2)) fun v2=>
    aP (AA [s1.1,v2]) fun v3=>
     .next (v3,IntKind.i64.wrap (s1.2+1))
   else .out none
  else .out (some s1.1)
def Zl (x0 x1:Int) (x2:au) (x3:aj) (x4:au) (x5:aj) (a1:bY):Option (Int):=
 (nS (decide ((a1.length:Int)≤200)) 8).bind fun v1=>
  aS (zH x0 x1 x2 x3 x4 x5 a1) 1000000000 (v1,0)
@[go_sem] def avr:=arH lK false Zl
@[go_sem] def anN (k:Nat):=lk [(117,Rz.sp),(118,JE.sp),(161,au7.sp)] k
theorem f115:aF Tryz.prog 115 avr.sp:=by
 refine vm (tb:=anN) (.cons f117 (.cons f118 (.cons f161 .nil))) Tryz.func115 Tryz.ntmps115 fun ⟨x0,x1,x2,x3,x4,x5,a1⟩ r hr stop S=> ?_
 rw [JW,Zl] at hr
 refine S.gx [] ?_
 obtain ⟨v1,hv1,hr⟩:=aA hr
 refine gb hv1 ?_
 refine S.sees [2,5,12,13,14] [(2,2)] [] ?_ (Stop.iter S (fun s1=>⟨[(2,.c (.ref 2 0)),(5,.c (.d (.int .i64 s1.1))),(12,.c (.d (ah 3 dU a1))),(13,.c (.d (.int .i64 (a1.length:Int)))),(14,.c (.d (.int .i64 s1.2)))],[(2,[.d (.int .i64 x0),.d (.int .i64 x1),.d (ah 2 aO x2),.d (ah 1 aN x3),.d (ah 2 aO x4),.d (ah 1 aN x5)])],[]⟩) (zH x0 x1 x2 x3 x4 x5 a1) (fun q=>q=r) hr rfl ?_)
 ·exact lf
 ·intro s1 hr
  unfold zH at hr
  refine S.gx [] ?_
  exact D1 (S.ss [2,5,12,13,14] [(2,2)] []) hr
def zy (x0:au) (x1 x2:Int):Bd (Int×(List (Int))×(List (Int))) (aZ×Int×aZ×Int):=fun s1=>
 if (decide (s1.1<(x0.length:Int)))=true then
  if 0≤s1.1∧s1.1<(x0.length:Int) then
   if (s1.2.1.length+1)*8≤140737488355328∧s1.2.1.length+1≤9223372036854775807 then
    if (s1.2.2.length+1)*8≤140737488355328∧s1.2.2.length+1≤9223372036854775807 then
     .next (IntKind.i64.wrap (s1.1+1),s1.2.1++[(x0.getD s1.1.toNat default).1],s1.2.2++[(x0.getD s1.1.toNat default).2])
     else .out none
    else .out none
   else .out none
  else .out (some (s1.2.1,x2,s1.2.2,x1))
def Ze (x0:au) (x1 x2:Int):Option (aZ×Int×aZ×Int):=
 aS (zy x0 x1 x2) 1000000000 (0,[],[])
@[go_sem] def auP:=arG apD false Ze
theorem f192:aF Tryz.prog 192 auP.sp:=by
 refine vm .nil Tryz.func192 Tryz.ntmps192 fun ⟨x0,x1,x2⟩ r hr stop S=> ?_
 rw [Yq,Ze] at hr
 refine S.gx [] ?_
 refine gr ?_
 refine S.pW 2 0 2000200 1 rfl rfl (nL rfl) rfl ?_
 refine S.pW 3 0 2000300 1 rfl rfl (nL rfl) rfl ?_
 refine S.sees [2,3,15,16,17] [(2,2),(3,3)] [(2000200,2000200),(2000300,2000300)] ?_ (Stop.iter S (fun s1=>⟨[(2,.c (.ref 2 0)),(3,.c (.ref 3 0)),(15,.c (.d (ah 2 aO x0))),(16,.c (.d (.int .i64 (x0.length:Int)))),(17,.c (.d (.int .i64 s1.1)))],[(2,[.own 2000200,.d (.int .i64 x2)]),(3,[.own 2000300,.d (.int .i64 x1)])],[(2000200,.owned (ah 1 cO s1.2.1)),(2000300,.owned (ah 1 cO s1.2.2))]⟩) (zy x0 x1 x2) (fun q=>q=r) hr rfl ?_)
 ·exact lf
 ·intro s1 hr
  unfold zy at hr
  refine S.gx [] ?_
  exact D1 (S.ss [2,3,15,16,17] [(2,2),(3,3)] [(26,2000200),(32,2000300)]) hr
def Zg (x0 x1:Int) (x2:au) (x3:aj) (x4:au) (x5:aj) (x6 x7:aZ) (x8:au) (x9 x10:Int):Option (aZ×aZ×Int):=
 (Ze x8 x9 x10).bind fun v1=>
  (KQ x0 x1 x2 x3 x4 x5 x6 v1.1 v1.2.1).bind fun v2=>
   (KQ x0 x1 x2 x3 x4 x5 x7 v1.2.2.1 v1.2.2.2).bind fun v3=>
    (AA [v2.2.2,v3.2.2]).bind fun v4=>
     if (v4 != 0)=true then
      some ([],[],v4)
      else some (v2.1,v3.1,0)
@[go_sem] def au6:=arF apC false Zg
@[go_sem] def ank (k:Nat):=lk [(108,akk.sp),(117,Rz.sp),(192,auP.sp)] k
theorem f162:aF Tryz.prog 162 au6.sp:=by
 refine vm (tb:=ank) (.cons f108 (.cons f117 (.cons f192 .nil))) Tryz.func162 Tryz.ntmps162 fun ⟨x0,x1,x2,x3,x4,x5,x6,x7,x8,x9,x10⟩ r hr stop S=> ?_
 rw [acX,Zg] at hr
 refine S.gx [4] ?_
 obtain ⟨v1,hv1,hr⟩:=aA hr
 obtain ⟨v2,hv2,hr⟩:=aA hr
 obtain ⟨v3,hv3,hr⟩:=aA hr
 refine gb hv1 ?_
 refine gb hv2 ?_
 refine gb hv3 ?_
 refine S.prune [6,10,12,13,15] ?_
 refine S.gx [] ?_
 exact D0 hr
def zG (x0 x1:Int) (x2:au) (x3:aj) (x4:au) (x5:aj) (a2:bY):Bd ((List (aZ×aZ))×Int×aZ×aZ) (gJ×Int):=fun s1=>
 if (decide (s1.2.1<(a2.length:Int)))=true then
  if 0≤s1.2.1∧s1.2.1<(a2.length:Int) then
   aP (Zg x0 x1 x2 x3 x4 x5 s1.2.2.1 s1.2.2.2 ((a2.getD s1.2.1.toNat default).1) ((a2.getD s1.2.1.toNat default).2.1) ((a2.getD s1.2.1.toNat default).2.2)) fun v1=>
    if (v1.2.2 != 0)=true then
     .out (some ([],v1.2.2))
     else if (s1.1.length+1)*48≤140737488355328∧s1.1.length+1≤9223372036854775807 then
      .next (s1.1++[(v1.1,v1.2.1)],IntKind.i64.wrap (s1.2.1+1),v1.1,v1.2.1)
      else .out none
   else .out none
  else .out (some (s1.1,0))
def WV (x0 x1:Int) (x2:au) (x3:aj) (x4:au) (x5:aj) (x6 x7:aZ) (a2:bY):Option (gJ×Int):=
 aS (zG x0 x1 x2 x3 x4 x5 a2) 1000000000 ([],0,x6,x7)
@[go_sem] def avq:=arE ah7 true WV
@[go_sem] def anM (k:Nat):=lk [(162,au6.sp)] k
theorem f116:aF Tryz.prog 116 avq.sp:=by
 refine vm (tb:=anM) (.cons f162 .nil) Tryz.func116 Tryz.ntmps116 fun ⟨x0,x1,x2,x3,x4,x5,x6,x7,a2⟩ r hr stop S=> ?_
 rw [Oa,WV] at hr
 refine S.gx [] ?_
 refine gr ?_
 refine S.O8 8 1000800 2 rfl rfl ?_
 refine S.sees [3,4,8,13,14,15] [(3,3),(4,4)] [(1000800,1000800)] ?_ (Stop.iter S (fun s1=>⟨[(3,.c (.ref 3 0)),(4,.c (.ref 4 0)),(8,.c (.own 1000800)),(13,.c (.d (ah 3 dU a2))),(14,.c (.d (.int .i64 (a2.length:Int)))),(15,.c (.d (.int .i64 s1.2.1)))],[(3,[.d (.int .i64 x0),.d (.int .i64 x1),.d (ah 2 aO x2),.d (ah 1 aN x3),.d (ah 2 aO x4),.d (ah 1 aN x5)]),(4,[.d (ah 1 cO s1.2.2.1),.d (ah 1 cO s1.2.2.2)])],[(1000800,.owned (ah 2 iH s1.1))]⟩) (zG x0 x1 x2 x3 x4 x5 a2) (fun q=>q=r) hr rfl ?_)
 ·exact lf
 ·intro s1 hr
  unfold zG at hr
  refine S.gx [] ?_
  exact D1 (S.ss [3,4,8,13,14,15] [(3,3),(4,4)] [(33,1000800)]) hr
def r81 (x2 x3:Int) (x4:au) (x5:aj) (x0 x1:aZ) (a2:bY):Option (gJ×Int):=
 (Zm x2 x3 x4 x5 x0 x1).bind fun v1=>
  if (v1.2.2.2.2.2.2 == 0)=true then
   (Zl v1.1 v1.2.1 v1.2.2.1 v1.2.2.2.1 v1.2.2.2.2.1 v1.2.2.2.2.2.1 a2).bind fun v2=>
    if (v2 != 0)=true then
     some ([],v2)
     else (WV v1.1 v1.2.1 v1.2.2.1 v1.2.2.2.1 v1.2.2.2.2.1 v1.2.2.2.2.2.1 x0 x1 a2).bind fun v3=>
      some (v3.1,v3.2)
   else if (v1.2.2.2.2.2.2 != 0)=true then
    some ([],v1.2.2.2.2.2.2)
    else (WV v1.1 v1.2.1 v1.2.2.1 v1.2.2.2.1 v1.2.2.2.2.1 v1.2.2.2.2.2.1 x0 x1 a2).bind fun v4=>
     some (v4.1,v4.2)
@[go_sem] def T81:=arD ah7 true r81
@[go_sem] def ayz (k:Nat):=lk [(114,avs.sp),(115,avr.sp),(116,avq.sp)] k
theorem f81:aF Tryz.prog 81 T81.sp:=by
 refine vm (tb:=ayz) (.cons f114 (.cons f115 (.cons f116 .nil))) Tryz.func81 Tryz.ntmps81 fun ⟨x2,x3,x4,x5,x0,x1,a2⟩ r hr stop S=> ?_
 rw [JW,r81] at hr
 refine S.gx [] ?_
 exact D0 hr
def r82 (x0 x1:Int) (x2:au) (x3:aj) (x4 x5:aZ) (x6:au) (x7 x8 a1 a2:Int):Option (Int×Int):=
 (O4 x0 x1 x2 x3 a1).bind fun v1=>
  (O4 x0 x1 x2 x3 a2).bind fun v2=>
   if v1.2.1≠0 then
    if v2.2.1≠0 then
     some (IntKind.i64.wrap (v1.1.tdiv v1.2.1),IntKind.i64.wrap ((IntKind.i64.wrap ((IntKind.i64.wrap (v2.1+v2.2.1)) - 1)).tdiv v2.2.1))
     else none
    else none
@[go_sem] def T82:=aik qu7 false r82
@[go_sem] def ayy (k:Nat):=lk [(110,akj.sp)] k
theorem f82:aF Tryz.prog 82 T82.sp:=by
 refine vm (tb:=ayy) (.cons f110 .nil) Tryz.func82 Tryz.ntmps82 fun ⟨x0,x1,x2,x3,x4,x5,x6,x7,x8,a1,a2⟩ r hr stop S=> ?_
 rw [acX,r82] at hr
 refine S.gx [] ?_
 exact D0 hr
end Go.Proofs.YtofkgmldcjagmaaGreatDoor

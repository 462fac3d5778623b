/- Contracts of functions, written by wip/dec. -/
import Derived.Test.YtofkgmldcjagmaaGreatDoorF00
import Derived.Test.YtofkgmldcjagmaaGreatDoorF05
import Derived.Test.YtofkgmldcjagmaaGreatDoorF06
set_option linter.unusedVariables false
set_option linter.unusedSimpArgs false
set_option linter.constructorNameAsVariable false
set_option maxHeartbeats 4000000
set_option maxRecDepth 20000
namespace Go.Proofs.YtofkgmldcjagmaaGreatDoor
open Go.dG
section
variable {β:Type} [Inhabited β] (u:β→List RV) (al:Bool)
def aoL (a0 a1 a2 a3 a4 a5 a6:Int):List Arg:=[.agg [.int .i64 a0,.int .i64 a1,.int .i64 a2,.int .i64 a3,.int .i64 a4,.int .i64 a5,.int .i64 a6]]
def aqr:List Arg→Int×Int×Int×Int×Int×Int×Int
 | [.agg [c0,c1,c2,c3,c4,c5,c6]]=>(aB c0,aB c1,aB c2,aB c3,aB c4,aB c5,aB c6)
 | _=>default
def aep (r:Int→Int→Int→Int→Int→Int→Int→Option β):=mkT (u7 aoL) aqr (u7 r) u al
attribute [go_sem] aoL aqr aep
def aoK (a0 a1 a2 a3 a4 a5 a6 a7 a8 a9 a10 a11 a12 jP:Int):List Arg:=[.agg [.int .i64 a0,.int .i64 a1,.int .i64 a2,.int .i64 a3,.int .i64 a4,.int .i64 a5,.int .i64 a6,.int .i64 a7,.int .i64 a8,.int .i64 a9,.int .i64 a10,.int .i64 a11,.int .i64 a12,.int .i64 jP]]
def aqp:List Arg→Int×Int×Int×Int×Int×Int×Int×Int×Int×Int×Int×Int×Int×Int
 | [.agg [c0,c1,c2,c3,c4,c5,c6,c7,c8,c9,c10,c11,c12,c13]]=>(aB c0,aB c1,aB c2,aB c3,aB c4,aB c5,aB c6,aB c7,aB c8,aB c9,aB c10,aB c11,aB c12,aB c13)
 | _=>default
def aib (r:Int→Int→Int→Int→Int→Int→Int→Int→Int→Int→Int→Int→Int→Int→Option β):=mkT (u14 aoK) aqp (u14 r) u al
attribute [go_sem] aoK aqp aib
def aoJ (a0 a1 a2 a3 a4:Int):List Arg:=[.agg [.int .i64 a0,.int .i64 a1,.int .i64 a2,.int .i64 a3],.ptr [.int .i64 a4]]
def aqo:List Arg→Int×Int×Int×Int×Int
 | [.agg [c0,c1,c2,c3],.ptr [c4]]=>(aB c0,aB c1,aB c2,aB c3,aB c4)
 | _=>default
def arC (r:Int→Int→Int→Int→Int→Option β):=mkT (u5 aoJ) aqo (u5 r) u al
attribute [go_sem] aoJ aqo arC
def aoH (a0 a1 a2 a3 a4 a5:Int):List Arg:=[.c (.int .i64 a0),.c (.int .i64 a1),.ptr [.int .i64 a2,.int .i64 a3,.int .i64 a4,.int .i64 a5]]
def aqm:List Arg→Int×Int×Int×Int×Int×Int
 | [.c c0,.c c1,.ptr [c2,c3,c4,c5]]=>(aB c0,aB c1,aB c2,aB c3,aB c4,aB c5)
 | _=>default
def arB (r:Int→Int→Int→Int→Int→Int→Option β):=mkT (u6 aoH) aqm (u6 r) u al
attribute [go_sem] aoH aqm arB
def aoG (a0 a1 a2 a3 a4 a5 a6 a7 a8 a9 a10 a11 a12 jP kN kM a16 a17:Int):List Arg:=[.agg [.int .i64 a0,.int .i64 a1,.int .i64 a2,.int .i64 a3,.int .i64 a4,.int .i64 a5,.int .i64 a6,.int .i64 a7,.int .i64 a8,.int .i64 a9,.int .i64 a10,.int .i64 a11,.int .i64 a12,.int .i64 jP],.agg [.int .i64 kN,.int .i64 kM,.int .i64 a16,.int .i64 a17]]
def aql:List Arg→Int×Int×Int×Int×Int×Int×Int×Int×Int×Int×Int×Int×Int×Int×Int×Int×Int×Int
 | [.agg [c0,c1,c2,c3,c4,c5,c6,c7,c8,c9,c10,c11,c12,c13],.agg [c14,c15,c16,c17]]=>(aB c0,aB c1,aB c2,aB c3,aB c4,aB c5,aB c6,aB c7,aB c8,aB c9,aB c10,aB c11,aB c12,aB c13,aB c14,aB c15,aB c16,aB c17)
 | _=>default
def arA (r:Int→Int→Int→Int→Int→Int→Int→Int→Int→Int→Int→Int→Int→Int→Int→Int→Int→Int→Option β):=mkT (u18 aoG) aql (u18 r) u al
attribute [go_sem] aoG aql arA
def apB (v:Int×Int×Int×Int×Int×Int×Int×Int×Int×Int×Int×Int×Int×Int×Int):List RV:=[.agg [.d (.int .i64 v.1),.d (.int .i64 v.2.1),.d (.int .i64 v.2.2.1),.d (.int .i64 v.2.2.2.1),.d (.int .i64 v.2.2.2.2.1),.d (.int .i64 v.2.2.2.2.2.1),.d (.int .i64 v.2.2.2.2.2.2.1),.d (.int .i64 v.2.2.2.2.2.2.2.1),.d (.int .i64 v.2.2.2.2.2.2.2.2.1),.d (.int .i64 v.2.2.2.2.2.2.2.2.2.1),.d (.int .i64 v.2.2.2.2.2.2.2.2.2.2.1),.d (.int .i64 v.2.2.2.2.2.2.2.2.2.2.2.1),.d (.int .i64 v.2.2.2.2.2.2.2.2.2.2.2.2.1),.d (.int .i64 v.2.2.2.2.2.2.2.2.2.2.2.2.2.1)],.c (.d (.int .i64 v.2.2.2.2.2.2.2.2.2.2.2.2.2.2))]
attribute [go_sem] apB
def apA (v:Int×Int×Int×Int×Int×Int×Int×Int):List RV:=[.agg [.d (.int .i64 v.1),.d (.int .i64 v.2.1),.d (.int .i64 v.2.2.1),.d (.int .i64 v.2.2.2.1),.d (.int .i64 v.2.2.2.2.1),.d (.int .i64 v.2.2.2.2.2.1),.d (.int .i64 v.2.2.2.2.2.2.1),.d (.int .i64 v.2.2.2.2.2.2.2)]]
attribute [go_sem] apA
def apz (v:(Option (Int×Int×Int×Int))):List RV:=[.c (.d (vX cZ v))]
attribute [go_sem] apz
end
def G5 (x0 x1:Int) (x2:au) (x3:aj) (x4 x5:aZ) (x6:au) (x7 x8:Int) (v2:gJ×Int) (s1:Int×(List (au))):Bd (Int×(List (au))) (gK (Int×(List (au))) (aj×Int)):=fun s2=>
 if (decide (s2.1<(s1.2.length:Int)))=true then
  if 0≤s2.1∧s2.1<(s2.2.length:Int) then
   if 0≤s2.1∧s2.1<(((v2.1.getD s1.1.toNat default).1).length:Int) then
    if 0≤s2.1∧s2.1<(((v2.1.getD s1.1.toNat default).2).length:Int) then
     aP (r82 x0 x1 x2 x3 x4 x5 x6 x7 x8 (((v2.1.getD s1.1.toNat default).1).getD s2.1.toNat default) (((v2.1.getD s1.1.toNat default).2).getD s2.1.toNat default)) fun v3=>
      if ((s2.2.getD s2.1.toNat default).length+1)*16≤140737488355328∧(s2.2.getD s2.1.toNat default).length+1≤9223372036854775807 then
       if 0≤s2.1∧s2.1<(s2.2.length:Int) then
        .next (IntKind.i64.wrap (s2.1+1),s2.2.set s2.1.toNat ((s2.2.getD s2.1.toNat default)++[(v3.1,v3.2)]))
        else .out none
       else .out none
     else .out none
    else .out none
   else .out none
  else .out (some (.next (IntKind.i64.wrap (s1.1+1),s2.2)))
def G6 (x0 x1:Int) (x2:au) (x3:aj) (x4 x5:aZ) (x6:au) (x7 x8:Int) (v2:gJ×Int):Bd (Int×(List (au))) (aj×Int):=fun s1=>
 if (decide (s1.1<(v2.1.length:Int)))=true then
  if 0≤s1.1∧s1.1<(v2.1.length:Int) then
   (aS (G5 x0 x1 x2 x3 x4 x5 x6 x7 x8 v2 s1) 1000000000 (0,s1.2)).getD (.out none)
   else .out none
  else .out (some (s1.2,0))
def r51 (x0 x1:Int) (x2:au) (x3:aj) (x4 x5:aZ) (x6:au) (x7 x8:Int) (a1:au):Option (aj×Int):=
 (r56 x0 x1 x2 x3 x4 x5 x6 x7 x8 a1).bind fun v1=>
  (r81 x0 x1 x2 x3 x4 x5 v1).bind fun v2=>
   if (v2.2 != 0)=true then
    some ([],v2.2)
    else if 0≤x0∧x0≤x0∧x0≤9223372036854775807∧24*x0≤281474976710656 then
     aS (G6 x0 x1 x2 x3 x4 x5 x6 x7 x8 v2) 1000000000 (0,List.replicate x0.toNat [])
     else none
@[go_sem] def T51:=O5 ah6 true r51
@[go_sem] def ayQ (k:Nat):=lk [(56,T56.sp),(81,T81.sp),(82,T82.sp)] k
theorem f51:aF Tryz.prog 51 T51.sp:=by
 refine vm (tb:=ayQ) (.cons f56 (.cons f81 (.cons f82 .nil))) Tryz.func51 Tryz.ntmps51 fun ⟨x0,x1,x2,x3,x4,x5,x6,x7,x8,a1⟩ r hr stop S=> ?_
 rw [HY,r51] at hr
 refine S.gx [14] ?_
 obtain ⟨v1,hv1,hr⟩:=aA hr
 obtain ⟨v2,hv2,hr⟩:=aA hr
 refine gb hv1 ?_
 refine gb hv2 ?_
 refine iW hr (fun hc hr=>D0 hr) fun hc hr=> ?_
 obtain ⟨Dw,hr⟩:=aH hr
 refine gr ?_
 refine S.Ov 32 2 32 rfl rfl rfl (of_eq_true (Hr _ _)) ?_
 refine S.sees [2,8,33,34,35] [(2,2)] [(32,32),(22,22)] ?_ (Stop.iter S (fun s1=>⟨[(2,.c (.ref 2 0)),(8,.c (.own 32)),(33,.c (.own 22)),(34,.c (.d (.int .i64 (v2.1.length:Int)))),(35,.c (.d (.int .i64 s1.1)))],[(2,[.d (.int .i64 x0),.d (.int .i64 x1),.d (ah 2 aO x2),.d (ah 1 aN x3),.d (ah 1 cO x4),.d (ah 1 cO x5),.d (ah 2 aO x6),.d (.int .i64 x7),.d (.int .i64 x8)])],[(32,.deep (ah 1 aN s1.2)),(22,.owned (ah 2 iH v2.1))]⟩) (G6 x0 x1 x2 x3 x4 x5 x6 x7 x8 v2) (fun q=>q=r) hr rfl ?_)
 ·exact lf
 ·intro s1 hr
  unfold G6 at hr
  refine S.gx [14] ?_
  refine gr ?_
  refine dM hr (fun hc hr=> ?_) fun hc hr=> ?_
  ·obtain ⟨hg9,hr⟩:=aC hr
   refine gr ?_
   obtain ⟨q2,hq,hr⟩:=iQ hr
   refine S.sees [2,8,10,33,34,35,40,41] [(2,2),(10,10)] [(32,32),(22,22)] ?_ (Stop.iter S (fun s2=>⟨[(2,.c (.ref 2 0)),(8,.c (.own 32)),(10,.c (.ref 10 0)),(33,.c (.own 22)),(34,.c (.d (.int .i64 (v2.1.length:Int)))),(35,.c (.d (.int .i64 s1.1))),(40,.c (.d (.int .i64 (s1.2.length:Int)))),(41,.c (.d (.int .i64 s2.1)))],[(2,[.d (.int .i64 x0),.d (.int .i64 x1),.d (ah 2 aO x2),.d (ah 1 aN x3),.d (ah 1 cO x4),.d (ah 1 cO x5),.d (ah 2 aO x6),.d (.int .i64 x7),.d (.int .i64 x8)]),(10,[.d (ah 1 cO ((v2.1.getD s1.1.toNat default).1)),.d (ah 1 cO ((v2.1.getD s1.1.toNat default).2))])],[(32,.deep (ah 1 aN s2.2)),(22,.owned (ah 2 iH v2.1))]⟩) (G5 x0 x1 x2 x3 x4 x5 x6 x7 x8 v2 s1) _ hq hr ?_)
   ·exact lf
   ·intro s2 hr
    unfold G5 at hr
    refine S.gx [14] ?_
    refine gr ?_
    refine dM hr (fun hc hr=>D1 (S.ss [2,8,10,33,34,35,40,41] [(2,2),(10,10)] [(32,32),(22,22)]) hr) fun hc hr=> ?_
    refine gr ?_
    replace hr:=bC hr
    exact D1 (S.ss [2,8,33,34,35] [(2,2)] [(32,32),(22,22)]) hr
  ·refine gr ?_
   have hr:=bK hr
   refine gr ?_
   refine S.Oo 32 (ah 1 aN s1.2) rfl ?_ ?_
   ·exact lf
   refine S.gx [] ?_
   exact D0 hr
def ah2 (x5 x0 x1 x2 x3 x4 x6:Int):Option (Int):=
 (jB x5).bind fun v1=>
  if v1=true→(jB x0).isSome=true then
   if (v1 && ((jB x0).getD default))=true→(jB x1).isSome=true then
    if ((v1 && ((jB x0).getD default)) && ((jB x1).getD default))=true→(jB x2).isSome=true then
     if (((v1 && ((jB x0).getD default)) && ((jB x1).getD default)) && ((jB x2).getD default))=true→(jB x3).isSome=true then
      if ((((v1 && ((jB x0).getD default)) && ((jB x1).getD default)) && ((jB x2).getD default)) && ((jB x3).getD default))=true→(jV x4 0 100000).isSome=true then
       if (((((v1 && ((jB x0).getD default)) && ((jB x1).getD default)) && ((jB x2).getD default)) && ((jB x3).getD default)) && ((jV x4 0 100000).getD default))=true→(jV x6 0 1000000).isSome=true then
        if (!((((((v1 && ((jB x0).getD default)) && ((jB x1).getD default)) && ((jB x2).getD default)) && ((jB x3).getD default)) && ((jV x4 0 100000).getD default)) && ((jV x6 0 1000000).getD default)))=true then
         some 2
         else (iJ ((IntKind.i64.wrap ((IntKind.i64.wrap ((IntKind.i64.wrap (x5+x0))+x1))+x2)) == 1000000) 3).bind fun v2=>
          some v2
        else none
       else none
      else none
     else none
    else none
   else none
@[go_sem] def avj:=aep lK false ah2
@[go_sem] def anD (k:Nat):=lk [(138,NW.sp),(171,Yn.sp),(173,afG.sp)] k
theorem f133:aF Tryz.prog 133 avj.sp:=by
 refine vm (tb:=anD) (.cons f138 (.cons f171 (.cons f173 .nil))) Tryz.func133 Tryz.ntmps133 fun ⟨x5,x0,x1,x2,x3,x4,x6⟩ r hr stop S=> ?_
 rw [JW,ah2] at hr
 refine S.gx [2] ?_
 obtain ⟨v1,hv1,hr⟩:=aA hr
 obtain ⟨hg3,hr⟩:=aH hr
 obtain ⟨hg4,hr⟩:=aH hr
 obtain ⟨hg5,hr⟩:=aH hr
 obtain ⟨hg6,hr⟩:=aH hr
 obtain ⟨hg7,hr⟩:=aH hr
 obtain ⟨Vt,hr⟩:=aH hr
 try simp only [hv1,oG,oI,true_and,and_assoc]
 repeat (first | refine gG hg3 ?_ | refine gG hg4 ?_ | refine gG hg5 ?_ | refine gG hg6 ?_ | refine gG hg7 ?_ | refine gG Vt ?_ | refine gA ?_ | refine gB ?_)
 refine S.prune [1,3] ?_
 refine S.gx [] ?_
 exact D0 hr
def Iy (a0:Int):Option (Int×Int):=
 some (a0,a0)
@[go_sem] def auX:=KT qu7 false Iy
theorem f174:aF Tryz.prog 174 auX.sp:=by
 refine vm .nil Tryz.func174 Tryz.ntmps174 fun a0 r hr stop S=> ?_
 rw [rF,Iy] at hr
 refine S.gx [] ?_
 exact D0 hr
def ah1 (x0 x1 x2 x3 x4 x5 x6:Int):Option (Int×Int×Int×Int×Int×Int×Int×Int×Int×Int×Int×Int×Int×Int):=
 (Iy x0).bind fun v1=>
  (Iy x1).bind fun v2=>
   (Iy x2).bind fun v3=>
    (Iy x3).bind fun v4=>
     (Iy x4).bind fun v5=>
      (Iy x5).bind fun v6=>
       (Iy x6).bind fun v7=>
        some (v1.1,v1.2,v2.1,v2.2,v3.1,v3.2,v4.1,v4.2,v5.1,v5.2,v6.1,v6.2,v7.1,v7.2)
@[go_sem] def avi:=aep IC false ah1
@[go_sem] def anC (k:Nat):=lk [(174,auX.sp)] k
theorem f134:aF Tryz.prog 134 avi.sp:=by
 refine vm (tb:=anC) (.cons f174 .nil) Tryz.func134 Tryz.ntmps134 fun ⟨x0,x1,x2,x3,x4,x5,x6⟩ r hr stop S=> ?_
 rw [JW,ah1] at hr
 refine S.gx [] ?_
 exact D0 hr
def r97 (x0 x1 x2 x3 x4 x5 x6:Int):Option (Int×Int×Int×Int×Int×Int×Int×Int×Int×Int×Int×Int×Int×Int×Int):=
 (ah2 x0 x1 x2 x3 x4 x5 x6).bind fun v1=>
  if (v1 != 0)=true then
   some (0,0,0,0,0,0,0,0,0,0,0,0,0,0,v1)
   else (ah1 x0 x1 x2 x3 x4 x5 x6).bind fun v2=>
    some (v2.1,v2.2.1,v2.2.2.1,v2.2.2.2.1,v2.2.2.2.2.1,v2.2.2.2.2.2.1,v2.2.2.2.2.2.2.1,v2.2.2.2.2.2.2.2.1,v2.2.2.2.2.2.2.2.2.1,v2.2.2.2.2.2.2.2.2.2.1,v2.2.2.2.2.2.2.2.2.2.2.1,v2.2.2.2.2.2.2.2.2.2.2.2.1,v2.2.2.2.2.2.2.2.2.2.2.2.2.1,v2.2.2.2.2.2.2.2.2.2.2.2.2.2,0)
@[go_sem] def T97:=aep apB false r97
@[go_sem] def ayq (k:Nat):=lk [(133,avj.sp),(134,avi.sp)] k
theorem f97:aF Tryz.prog 97 T97.sp:=by
 refine vm (tb:=ayq) (.cons f133 (.cons f134 .nil)) Tryz.func97 Tryz.ntmps97 fun ⟨x0,x1,x2,x3,x4,x5,x6⟩ r hr stop S=> ?_
 rw [JW,r97] at hr
 refine S.gx [] ?_
 exact D0 hr
def ah0 (x0:bg) (x1:aW) (x2:bf) (x3:au) (x4 x5 x6 x7:Int):Option (Int):=
 (aej x0 x1 x2 x3 x4 x5 x6 x7).bind fun v1=>
  some v1.2
@[go_sem] def avh:=aer lK false ah0
@[go_sem] def anB (k:Nat):=lk [(131,akf.sp)] k
theorem f136:aF Tryz.prog 136 avh.sp:=by
 refine vm (tb:=anB) (.cons f131 .nil) Tryz.func136 Tryz.ntmps136 fun ⟨x0,x1,x2,x3,x4,x5,x6,x7⟩ r hr stop S=> ?_
 rw [uq8,ah0] at hr
 refine S.gx [] ?_
 exact D0 hr
def aeb (x0 x1 x2 x3 x4 x5 x6 x7 x8 x9 x10 x11 x12 dO:Int):Option (Int×Int×Int×Int×Int×Int×Int×Int):=
 some (x0,x1,x2,x3,x4,x5,x6,x7)
@[go_sem] def akc:=aib apA false aeb
theorem f176:aF Tryz.prog 176 akc.sp:=by
 refine vm .nil Tryz.func176 Tryz.ntmps176 fun ⟨x0,x1,x2,x3,x4,x5,x6,x7,x8,x9,x10,x11,x12,dO⟩ r hr stop S=> ?_
 rw [ahg,aeb] at hr
 refine S.gx [] ?_
 exact D0 hr
def ahZ (x7 x0 x8 x1 x9 x2 x10 x3 x11 x4 x12 x5 dO x6:Int):Option (Int):=
 (jV x7 0 1000000).bind fun v1=>
  if v1=true→(jV x0 0 1000000).isSome=true then
   (iJ (v1 && ((jV x0 0 1000000).getD default)) 2).bind fun v2=>
    (iJ (decide (x7≤x0)) 9).bind fun v3=>
     (rV [v2,v3]).bind fun v4=>
      if (v4 != 0)=true then
       some v4
       else (jV x8 0 1000000).bind fun v5=>
        if v5=true→(jV x1 0 1000000).isSome=true then
         (iJ (v5 && ((jV x1 0 1000000).getD default)) 2).bind fun v6=>
          (iJ (decide (x8≤x1)) 9).bind fun v7=>
           (rV [v6,v7]).bind fun v8=>
            if (v8 != 0)=true then
             some v8
             else (jV x9 0 1000000).bind fun v9=>
              if v9=true→(jV x2 0 1000000).isSome=true then
               (iJ (v9 && ((jV x2 0 1000000).getD default)) 2).bind fun v10=>
                (iJ (decide (x9≤x2)) 9).bind fun v11=>
                 (rV [v10,v11]).bind fun v12=>
                  if (v12 != 0)=true then
                   some v12
                   else (jV x10 0 1000000).bind fun v13=>
                    if v13=true→(jV x3 0 1000000).isSome=true then
                     (iJ (v13 && ((jV x3 0 1000000).getD default)) 2).bind fun v14=>
                      (iJ (decide (x10≤x3)) 9).bind fun v15=>
                       (rV [v14,v15]).bind fun v16=>
                        if (v16 != 0)=true then
                         some v16
                         else (jV x11 0 1000000).bind fun v17=>
                          if v17=true→(jV x4 0 1000000).isSome=true then
                           (iJ (v17 && ((jV x4 0 1000000).getD default)) 2).bind fun v18=>
                            (iJ (decide (x11≤x4)) 9).bind fun v19=>
                             (rV [v18,v19]).bind fun v20=>
                              if (v20 != 0)=true then
                               some v20
                               else (jV x12 0 100000).bind fun v21=>
                                if v21=true→(jV x5 0 100000).isSome=true then
                                 (iJ (v21 && ((jV x5 0 100000).getD default)) 2).bind fun v22=>
                                  (iJ (decide (x12≤x5)) 9).bind fun v23=>
                                   (rV [v22,v23]).bind fun v24=>
                                    if (v24 != 0)=true then
                                     some v24
                                     else (jV dO 0 1000000).bind fun v25=>
                                      if v25=true→(jV x6 0 1000000).isSome=true then
                                       (iJ (v25 && ((jV x6 0 1000000).getD default)) 2).bind fun v26=>
                                        (iJ (decide (dO≤x6)) 9).bind fun v27=>
                                         (rV [v26,v27]).bind fun v28=>
                                          if (v28 != 0)=true then
                                           some v28
                                           else (aeb x7 x0 x8 x1 x9 x2 x10 x3 x11 x4 x12 x5 dO x6).bind fun v29=>
                                            (jV 1000000 (IntKind.i64.wrap ((IntKind.i64.wrap ((IntKind.i64.wrap ((IntKind.i64.wrap (0+v29.1))+v29.2.2.1))+v29.2.2.2.2.1))+v29.2.2.2.2.2.2.1)) (IntKind.i64.wrap ((IntKind.i64.wrap ((IntKind.i64.wrap ((IntKind.i64.wrap (0+v29.2.1))+v29.2.2.2.1))+v29.2.2.2.2.2.1))+v29.2.2.2.2.2.2.2))).bind fun v30=>
                                             (iJ v30 12).bind fun v31=>
                                              some v31
                                       else none
                                 else none
                           else none
                     else none
               else none
         else none
   else none
@[go_sem] def avg:=aib lK false ahZ
@[go_sem] def afV (k:Nat):=lk [(135,Yo.sp),(138,NW.sp),(171,Yn.sp),(176,akc.sp)] k
theorem YK:fC Tryz.prog afV:= .cons f135 (.cons f138 (.cons f171 (.cons f176 .nil)))
theorem f137:aF Tryz.prog 137 avg.sp:=by
 refine vm (tb:=afV) (.cons f135 (.cons f138 (.cons f171 (.cons f176 .nil)))) Tryz.func137 Tryz.ntmps137 fun ⟨x7,x0,x8,x1,x9,x2,x10,x3,x11,x4,x12,x5,dO,x6⟩ r hr stop S=> ?_
 rw [ahg,ahZ] at hr
 refine S.gx [2,6] ?_
 refine gr ?_
 refine S.inl 0 [1,3] [] Tryz.func175 (by decide) rfl Tryz.ntmps175 (fun cx e=>aT bT YK cx e) (some 11) rfl rfl rfl rfl (nL rfl) (nL rfl) ?_
 refine gs ?_
 refine gr ?_
 intro stop1 S1
 refine S1.gx [] ?_
 refine gr ?_
 refine gr ?_
 refine S.gx [2,6] ?_
 refine gr ?_
 refine S.lp ?_
 refine S.gx [2,6] ?_
 obtain ⟨v1,hv1,hr⟩:=aA hr
 obtain ⟨atn,hr⟩:=aH hr
 obtain ⟨v2,hv2,hr⟩:=aA hr
 obtain ⟨v3,hv3,hr⟩:=aA hr
 obtain ⟨v4,hv4,hr⟩:=aA hr
 try simp only [hv1,hv2,hv3,hv4,Option.getD_some,Option.isSome_some,true_and,and_assoc]
 repeat (first | refine gG atn ?_ | refine gA ?_ | refine gB ?_)
 refine S.prune [1,3,6,11,12] ?_
 refine S.gx [2] ?_
 refine gr ?_
 refine gr ?_
 refine iW hr (fun hc hr=>D0 hr) fun hc hr=> ?_
 refine gr ?_
 refine S.lp ?_
 refine S.gx [2,6] ?_
 obtain ⟨v5,hv5,hr⟩:=aA hr
 obtain ⟨ato,hr⟩:=aH hr
 obtain ⟨v6,hv6,hr⟩:=aA hr
 obtain ⟨v7,hv7,hr⟩:=aA hr
 obtain ⟨v8,Xk,hr⟩:=aA hr
 try simp only [hv5,hv6,hv7,Xk,Option.getD_some,Option.isSome_some,true_and,and_assoc]
 repeat (first | refine gG ato ?_ | refine gA ?_ | refine gB ?_)
 refine S.prune [1,3,6,11,12] ?_
 refine S.gx [2] ?_
 refine gr ?_
 refine gr ?_
 refine iW hr (fun hc hr=>D0 hr) fun hc hr=> ?_
 refine gr ?_
 refine S.lp ?_
 refine S.gx [2,6] ?_
 obtain ⟨v9,hv9,hr⟩:=aA hr
 obtain ⟨atp,hr⟩:=aH hr
 obtain ⟨v10,vV,hr⟩:=aA hr
 obtain ⟨v11,Dv,hr⟩:=aA hr
 obtain ⟨v12,Du,hr⟩:=aA hr
 try simp only [hv9,vV,Dv,Du,Option.getD_some,Option.isSome_some,true_and,and_assoc]
 repeat (first | refine gG atp ?_ | refine gA ?_ | refine gB ?_)
 refine S.prune [1,3,6,11,12] ?_
 refine S.gx [2] ?_
 refine gr ?_
 refine gr ?_
 refine iW hr (fun hc hr=>D0 hr) fun hc hr=> ?_
 refine gr ?_
 refine S.lp ?_
 refine S.gx [2,6] ?_
 obtain ⟨v13,aax,hr⟩:=aA hr
 obtain ⟨atq,hr⟩:=aH hr
 obtain ⟨v14,ajj,hr⟩:=aA hr
 obtain ⟨v15,aji,hr⟩:=aA hr
 obtain ⟨v16,aaw,hr⟩:=aA hr
 try simp only [aax,ajj,aji,aaw,Option.getD_some,Option.isSome_some,true_and,and_assoc]
 repeat (first | refine gG atq ?_ | refine gA ?_ | refine gB ?_)
 refine S.prune [1,3,6,11,12] ?_
 refine S.gx [2] ?_
 refine gr ?_
 refine gr ?_
 refine iW hr (fun hc hr=>D0 hr) fun hc hr=> ?_
 refine gr ?_
 refine S.lp ?_
 refine S.gx [2,6] ?_
 obtain ⟨v17,PL,hr⟩:=aA hr
 obtain ⟨aAF,hr⟩:=aH hr
 obtain ⟨v18,PK,hr⟩:=aA hr
 obtain ⟨v19,PI,hr⟩:=aA hr
 obtain ⟨v20,I8,hr⟩:=aA hr
 try simp only [PL,PK,PI,I8,Option.getD_some,Option.isSome_some,true_and,and_assoc]
 repeat (first | refine gG aAF ?_ | refine gA ?_ | refine gB ?_)
 refine S.prune [1,3,6,11,12] ?_
 refine S.gx [2] ?_
 refine gr ?_
 refine gr ?_
 refine iW hr (fun hc hr=>D0 hr) fun hc hr=> ?_
 refine gr ?_
 refine S.lp ?_
 refine S.gx [2,6] ?_
 obtain ⟨v21,aav,hr⟩:=aA hr
 obtain ⟨aAG,hr⟩:=aH hr
 obtain ⟨v22,aau,hr⟩:=aA hr
 obtain ⟨v23,ajh,hr⟩:=aA hr
 obtain ⟨v24,hv24,hr⟩:=aA hr
 try simp only [aav,aau,ajh,hv24,Option.getD_some,Option.isSome_some,true_and,and_assoc]
 repeat (first | refine gG aAG ?_ | refine gA ?_ | refine gB ?_)
 refine S.prune [1,3,6,11,12] ?_
 refine S.gx [2] ?_
 refine gr ?_
 refine gr ?_
 refine iW hr (fun hc hr=>D0 hr) fun hc hr=> ?_
 refine gr ?_
 refine S.lp ?_
 refine S.gx [2,6] ?_
 obtain ⟨v25,hv25,hr⟩:=aA hr
 obtain ⟨aAH,hr⟩:=aH hr
 obtain ⟨v26,aat,hr⟩:=aA hr
 obtain ⟨v27,hv27,hr⟩:=aA hr
 obtain ⟨v28,hv28,hr⟩:=aA hr
 try simp only [hv25,aat,hv27,hv28,Option.getD_some,Option.isSome_some,true_and,and_assoc]
 repeat (first | refine gG aAH ?_ | refine gA ?_ | refine gB ?_)
 refine S.prune [1,3,6,11,12] ?_
 refine S.gx [2] ?_
 refine gr ?_
 refine gr ?_
 refine iW hr (fun hc hr=>D0 hr) fun hc hr=> ?_
 refine gr ?_
 refine S.lp ?_
 refine S.gx [2,6] ?_
 obtain ⟨v29,hv29,hr⟩:=aA hr
 refine gb hv29 ?_
 refine S.lp ?_
 refine S.gx [2,6] ?_
 refine gr ?_
 refine S.lp ?_
 refine S.gx [2,6] ?_
 refine gr ?_
 refine S.lp ?_
 refine S.gx [2,6] ?_
 refine gr ?_
 refine S.lp ?_
 refine S.gx [2,6] ?_
 refine gr ?_
 refine S.lp ?_
 refine S.gx [2,6] ?_
 exact D0 hr
def ad7 (a0:Int):Option (Int):=
 (OV a0).bind fun v1=>
  (iJ v1 2).bind fun v2=>
   some v2
@[go_sem] def auL:=KT lK false ad7
@[go_sem] def am5 (k:Nat):=lk [(138,NW.sp),(197,aj9.sp)] k
theorem f199:aF Tryz.prog 199 auL.sp:=by
 refine vm (tb:=am5) (.cons f138 (.cons f197 .nil)) Tryz.func199 Tryz.ntmps199 fun a0 r hr stop S=> ?_
 rw [rF,ad7] at hr
 refine S.gx [] ?_
 exact D0 hr
def ahS (x0 x1:Int):Option (Int):=
 (ad7 x0).bind fun v1=>
  (ad7 x1).bind fun v2=>
   (iJ (decide (x0≤x1)) 9).bind fun v3=>
    (rV [v1,v2,v3]).bind fun v4=>
     if (v4 != 0)=true then
      some v4
      else (iJ (decide ((IntKind.i64.wrap (x1 - x0))≤50)) 8).bind fun v5=>
       some v5
@[go_sem] def auW:=O6 lK false ahS
@[go_sem] def anb (k:Nat):=lk [(135,Yo.sp),(138,NW.sp),(199,auL.sp)] k
theorem f177:aF Tryz.prog 177 auW.sp:=by
 refine vm (tb:=anb) (.cons f135 (.cons f138 (.cons f199 .nil))) Tryz.func177 Tryz.ntmps177 fun ⟨x0,x1⟩ r hr stop S=> ?_
 rw [yK,ahS] at hr
 refine S.gx [] ?_
 exact D0 hr
def Rk (a0:au):Bd Int Int:=fun s1=>
 if (decide (s1<(a0.length:Int)))=true then
  if 0≤s1∧s1<(a0.length:Int) then
   aP (ahS ((a0.getD s1.toNat default).1) ((a0.getD s1.toNat default).2)) fun v1=>
    if (v1 != 0)=true then
     .out (some v1)
     else .next (IntKind.i64.wrap (s1+1))
   else .out none
  else .out (some 0)
def ahY (a0:au):Option (Int):=
 if (decide ((a0.length:Int)>200))=true then
  some 8
  else aS (Rk a0) 1000000000 0
@[go_sem] def avf:=qT5 lK false ahY
@[go_sem] def anA (k:Nat):=lk [(177,auW.sp)] k
theorem f139:aF Tryz.prog 139 avf.sp:=by
 refine vm (tb:=anA) (.cons f177 .nil) Tryz.func139 Tryz.ntmps139 fun a0 r hr stop S=> ?_
 rw [rF,ahY] at hr
 refine S.gx [] ?_
 refine gr ?_
 refine iW hr (fun hc hr=>D0 hr) fun hc hr=> ?_
 refine gr ?_
 refine S.sees [9,10,11] [] [] ?_ (Stop.iter S (fun s1=>⟨[(9,.c (.d (ah 2 aO a0))),(10,.c (.d (.int .i64 (a0.length:Int)))),(11,.c (.d (.int .i64 s1)))],[],[]⟩) (Rk a0) (fun q=>q=r) hr rfl ?_)
 ·exact lf
 ·intro s1 hr
  unfold Rk at hr
  refine S.gx [] ?_
  exact D1 (S.ss [9,10,11] [] []) hr
def ahG (x0 x2 x3 x4 x1:Int):Option (Bool):=
 some (decide (x0≤x1))
@[go_sem] def aus:=arC qE false ahG
theorem f232:aF Tryz.prog 232 aus.sp:=by
 refine vm .nil Tryz.func232 Tryz.ntmps232 fun ⟨x0,x2,x3,x4,x1⟩ r hr stop S=> ?_
 rw [uq5,ahG] at hr
 refine S.gx [] ?_
 exact D0 hr
def QL (x0:bg) (a1:Int):Bd Int (Option (Int×Int×Int×Int)):=fun s1=>
 if (decide (s1≥0))=true then
  if 0≤s1∧s1<(x0.length:Int) then
   if 0≤s1∧s1<(x0.length:Int) then
    aP (ahG ((x0.getD s1.toNat default).1) ((x0.getD s1.toNat default).2.1) ((x0.getD s1.toNat default).2.2.1) ((x0.getD s1.toNat default).2.2.2) a1) fun v1=>
     if v1=true then
      if 0≤s1∧s1<(x0.length:Int) then
       .out (some (some ((x0.getD s1.toNat default).1,(x0.getD s1.toNat default).2.1,(x0.getD s1.toNat default).2.2.1,(x0.getD s1.toNat default).2.2.2)))
       else .out none
      else .next (IntKind.i64.wrap (s1 - 1))
    else .out none
   else .out none
  else .out (some none)
def ahK (x0:bg) (x1:aW) (x2:bf) (x3:au) (x4 x5 x6 x7 a1:Int):Option ((Option (Int×Int×Int×Int))):=
 aS (QL x0 a1) 1000000000 (IntKind.i64.wrap ((x0.length:Int) - 1))
@[go_sem] def auB:=WX apz true ahK
@[go_sem] def afS (k:Nat):=lk [(232,aus.sp)] k
theorem wR:fC Tryz.prog afS:= .cons f232 .nil
theorem f215:aF Tryz.prog 215 auB.sp:=by
 refine vm (tb:=afS) (.cons f232 .nil) Tryz.func215 Tryz.ntmps215 fun ⟨x0,x1,x2,x3,x4,x5,x6,x7,a1⟩ r hr stop S=> ?_
 rw [Oa,ahK] at hr
 refine S.gx [1] ?_
 refine gr ?_
 refine S.inl 4 [4] [] Tryz.func231 (by decide) rfl Tryz.ntmps231 (fun cx e=>aT bT wR cx e) (some 9) rfl rfl rfl rfl (nL rfl) (nL rfl) ?_
 refine gs ?_
 refine gr ?_
 intro stop1 S1
 refine S1.gx [1,3] ?_
 refine gr ?_
 refine S1.inl 1 [2,3,4] [] Tryz.func252 (by decide) rfl Tryz.ntmps252 (fun cx e=>aT bT wR cx e) (some 7) rfl rfl rfl rfl (nL rfl) (nL rfl) ?_
 refine gs ?_
 refine gr ?_
 intro stop2 S2
 refine S2.gx [] ?_
 refine gr ?_
 refine gr ?_
 refine S1.gx [1,3] ?_
 refine gr ?_
 refine S1.range [2,3,4] Tryz.func260 (by decide) rfl Tryz.ntmps260 Tryz.results260 (fun cx e=>aT bT wR cx e) (fun cx e=>aT bT wR cx e) (by decide) rfl rfl (nL rfl) ?_
 intro l2 stop2 ahq S2 SJ2 Y2
 refine S2.gx [3] ?_
 refine gr ?_
 refine S2.sees [0,1,3] [(1,1),(100002,100002),(100003,100003),(4,4),(3,3)] [] ?_ (Stop.iter S2 (fun s1=>⟨[(0,.c (.V4 l2)),(1,.c (.ref 1 0)),(3,.c (.d (.int .i64 s1)))],[(1,[.d (ah 4 cZ x0)]),(100002,[.d (ah 4 cZ x0)]),(100003,[.clo 232 [.ref 3 0]]),(4,[.d (vX cZ none)]),(3,[.d (.int .i64 a1)])],[]⟩) (QL x0 a1) (fun q=>q=r) hr rfl ?_)
 ·exact lf
 ·intro s1 hr
  unfold QL at hr
  refine S2.gx [3] ?_
  refine gr ?_
  refine dM hr (fun hc hr=> ?_) fun hc hr=> ?_
  ·refine gr ?_
   refine Y2 6 [0,1,3] (some 17) rfl rfl rfl rfl (nL rfl) (by rfl) ?_
   refine gs ?_
   obtain ⟨hg4,hr⟩:=aC hr
   refine gr ?_
   intro ahr SA3
   refine SA3.gx [] ?_
   refine gr ?_
   intro zQ S3
   refine S3.gx [1,3] ?_
   refine gr ?_
   refine S3.gx [1] ?_
   obtain ⟨hg3,hr⟩:=aC hr
   obtain ⟨v1,hv1,hr⟩:=aQ hr
   refine gb hv1 ?_
   refine gr ?_
   refine dM hr (fun hc hr=> ?_) fun hc hr=> ?_
   ·obtain ⟨hg2,hr⟩:=aC hr
    refine gr ?_
    refine gr ?_
    refine (SJ2 .ret).gx [3] ?_
    refine gr ?_
    have hr:=bK hr
    refine gr ?_
    refine S1.gx [1,3] ?_
    refine gr ?_
    refine gr ?_
    refine S.gx [1] ?_
    exact D0 hr
   ·refine gr ?_
    refine gr ?_
    refine S2.gx [3] ?_
    exact D1 (S2.ss [0,1,3] [(1,1),(100002,100002),(100003,100003),(4,4),(3,3)] []) hr
  ·refine gr ?_
   have hr:=bK hr
   refine gr ?_
   refine gr ?_
   refine S1.gx [1,3] ?_
   refine gr ?_
   refine gr ?_
   refine S.gx [1] ?_
   exact D0 hr
def Cm (a0:Int):Option (Int):=
 some (if 1000000<a0 then 1000000 else a0)
@[go_sem] def afF:=KT lK false Cm
theorem f233:aF Tryz.prog 233 afF.sp:=by
 refine vm .nil Tryz.func233 Tryz.ntmps233 fun a0 r hr stop S=> ?_
 rw [rF,Cm] at hr
 refine S.gx [] ?_
 exact D0 hr
def ad3 (a0 a1 x1 x2 x3 x0:Int):Option (Int):=
 if (decide (a1>0))=true then
  some (if 100000<IntKind.i64.wrap (a0+x0) then 100000 else IntKind.i64.wrap (a0+x0))
  else some (if 100000<a0 then 100000 else a0)
@[go_sem] def aur:=arB lK false ad3
theorem f234:aF Tryz.prog 234 aur.sp:=by
 refine vm .nil Tryz.func234 Tryz.ntmps234 fun ⟨a0,a1,x1,x2,x3,x0⟩ r hr stop S=> ?_
 rw [YA,ad3] at hr
 refine S.gx [] ?_
 exact D0 hr
def ahJ (x4 x5 x12 dO x6 x7 x8 x9 x14 x15 x10 x11 x16 x17 x2 x0 x1 x3:Int):Option (Int×Int×Int×Int×Int×Int×Int×Int×Int×Int×Int×Int×Int×Int):=
 (Cm (IntKind.i64.wrap ((IntKind.i64.wrap (x4+x6))+x8))).bind fun v1=>
  (Cm (IntKind.i64.wrap ((IntKind.i64.wrap (x5+x7))+x9))).bind fun v2=>
   (ad3 x10 (IntKind.i64.wrap (1000000 - (if 0<IntKind.i64.wrap (v2 - x0) then IntKind.i64.wrap (v2 - x0) else 0))) x2 x0 x1 x3).bind fun v3=>
    (ad3 x11 (IntKind.i64.wrap (1000000 - (if 0<IntKind.i64.wrap (v1 - x1) then IntKind.i64.wrap (v1 - x1) else 0))) x2 x0 x1 x3).bind fun v4=>
     some ((if 0<IntKind.i64.wrap (v1 - x1) then IntKind.i64.wrap (v1 - x1) else 0),(if 0<IntKind.i64.wrap (v2 - x0) then IntKind.i64.wrap (v2 - x0) else 0),IntKind.i64.wrap (1000000 - (if 0<IntKind.i64.wrap (v2 - x0) then IntKind.i64.wrap (v2 - x0) else 0)),IntKind.i64.wrap (1000000 - (if 0<IntKind.i64.wrap (v1 - x1) then IntKind.i64.wrap (v1 - x1) else 0)),0,0,0,0,0,0,v3,v4,0,0)
@[go_sem] def auA:=arA IC false ahJ
@[go_sem] def am3 (k:Nat):=lk [(233,afF.sp),(234,aur.sp)] k
theorem f216:aF Tryz.prog 216 auA.sp:=by
 refine vm (tb:=am3) (.cons f233 (.cons f234 .nil)) Tryz.func216 Tryz.ntmps216 fun ⟨x4,x5,x12,dO,x6,x7,x8,x9,x14,x15,x10,x11,x16,x17,x2,x0,x1,x3⟩ r hr stop S=> ?_
 rw [alf,ahJ] at hr
 refine S.gx [3,7] ?_
 obtain ⟨v1,hv1,hr⟩:=aA hr
 obtain ⟨v2,hv2,hr⟩:=aA hr
 refine gb hv1 ?_
 refine gb hv2 ?_
 refine S.prune [2,3,4,5,6] ?_
 refine S.gx [7] ?_
 refine gr ?_
 obtain ⟨v3,hv3,hr⟩:=aA hr
 obtain ⟨v4,hv4,hr⟩:=aA hr
 refine gb hv3 ?_
 refine gb hv4 ?_
 refine S.prune [4,6] ?_
 refine S.gx [3] ?_
 exact D0 hr
end Go.Proofs.YtofkgmldcjagmaaGreatDoor

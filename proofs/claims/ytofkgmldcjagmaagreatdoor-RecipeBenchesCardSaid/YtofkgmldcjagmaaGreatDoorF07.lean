/- Contracts of functions, written by wip/dec. -/
import Derived.Test.YtofkgmldcjagmaaGreatDoorF00
import Derived.Test.YtofkgmldcjagmaaGreatDoorF05
import Derived.Test.YtofkgmldcjagmaaGreatDoorF06
set_option linter.unusedVariables false
set_option linter.unusedSimpArgs false
set_option linter.constructorNameAsVariable false
set_option maxHeartbeats 4000000
set_option maxRecDepth 20000
namespace Go.Proofs.YtofkgmldcjagmaaGreatDoor
open Go.dJ
section
variable {β:Type} [Inhabited β] (u:β→List RV) (al:Bool)
def aoc (a0 a1 a2 a3 a4 a5 a6:Int):List Arg:=[.agg [.int .i64 a0,.int .i64 a1,.int .i64 a2,.int .i64 a3,.int .i64 a4,.int .i64 a5,.int .i64 a6]]
def apT:List Arg→Int×Int×Int×Int×Int×Int×Int
 | [.agg [c0,c1,c2,c3,c4,c5,c6]]=>(aB c0,aB c1,aB c2,aB c3,aB c4,aB c5,aB c6)
 | _=>default
def adK (r:Int→Int→Int→Int→Int→Int→Int→Option β):=mkT (u7 aoc) apT (u7 r) u al
attribute [go_sem] aoc apT adK
def aob (a0 a1 a2 a3 a4 a5 a6 a7 a8 a9 a10 a11 a12 jL:Int):List Arg:=[.agg [.int .i64 a0,.int .i64 a1,.int .i64 a2,.int .i64 a3,.int .i64 a4,.int .i64 a5,.int .i64 a6,.int .i64 a7,.int .i64 a8,.int .i64 a9,.int .i64 a10,.int .i64 a11,.int .i64 a12,.int .i64 jL]]
def apS:List Arg→Int×Int×Int×Int×Int×Int×Int×Int×Int×Int×Int×Int×Int×Int
 | [.agg [c0,c1,c2,c3,c4,c5,c6,c7,c8,c9,c10,c11,c12,c13]]=>(aB c0,aB c1,aB c2,aB c3,aB c4,aB c5,aB c6,aB c7,aB c8,aB c9,aB c10,aB c11,aB c12,aB c13)
 | _=>default
def ahu (r:Int→Int→Int→Int→Int→Int→Int→Int→Int→Int→Int→Int→Int→Int→Option β):=mkT (u14 aob) apS (u14 r) u al
attribute [go_sem] aob apS ahu
def aoa (a0 a1 a2 a3 a4:Int):List Arg:=[.agg [.int .i64 a0,.int .i64 a1,.int .i64 a2,.int .i64 a3],.ptr [.int .i64 a4]]
def apR:List Arg→Int×Int×Int×Int×Int
 | [.agg [c0,c1,c2,c3],.ptr [c4]]=>(aB c0,aB c1,aB c2,aB c3,aB c4)
 | _=>default
def aq1 (r:Int→Int→Int→Int→Int→Option β):=mkT (u5 aoa) apR (u5 r) u al
attribute [go_sem] aoa apR aq1
def an9 (a0 a1 a2 a3 a4 a5:Int):List Arg:=[.c (.int .i64 a0),.c (.int .i64 a1),.ptr [.int .i64 a2,.int .i64 a3,.int .i64 a4,.int .i64 a5]]
def apP:List Arg→Int×Int×Int×Int×Int×Int
 | [.c c0,.c c1,.ptr [c2,c3,c4,c5]]=>(aB c0,aB c1,aB c2,aB c3,aB c4,aB c5)
 | _=>default
def aq0 (r:Int→Int→Int→Int→Int→Int→Option β):=mkT (u6 an9) apP (u6 r) u al
attribute [go_sem] an9 apP aq0
def an8 (a0 a1 a2 a3 a4 a5 a6 a7 a8 a9 a10 a11 a12 jL kH kF a16 a17:Int):List Arg:=[.agg [.int .i64 a0,.int .i64 a1,.int .i64 a2,.int .i64 a3,.int .i64 a4,.int .i64 a5,.int .i64 a6,.int .i64 a7,.int .i64 a8,.int .i64 a9,.int .i64 a10,.int .i64 a11,.int .i64 a12,.int .i64 jL],.agg [.int .i64 kH,.int .i64 kF,.int .i64 a16,.int .i64 a17]]
def apO:List Arg→Int×Int×Int×Int×Int×Int×Int×Int×Int×Int×Int×Int×Int×Int×Int×Int×Int×Int
 | [.agg [c0,c1,c2,c3,c4,c5,c6,c7,c8,c9,c10,c11,c12,c13],.agg [c14,c15,c16,c17]]=>(aB c0,aB c1,aB c2,aB c3,aB c4,aB c5,aB c6,aB c7,aB c8,aB c9,aB c10,aB c11,aB c12,aB c13,aB c14,aB c15,aB c16,aB c17)
 | _=>default
def aqZ (r:Int→Int→Int→Int→Int→Int→Int→Int→Int→Int→Int→Int→Int→Int→Int→Int→Int→Int→Option β):=mkT (u18 an8) apO (u18 r) u al
attribute [go_sem] an8 apO aqZ
def ao2 (v:Int×Int×Int×Int×Int×Int×Int×Int×Int×Int×Int×Int×Int×Int×Int):List RV:=[.agg [.d (.int .i64 v.1),.d (.int .i64 v.2.1),.d (.int .i64 v.2.2.1),.d (.int .i64 v.2.2.2.1),.d (.int .i64 v.2.2.2.2.1),.d (.int .i64 v.2.2.2.2.2.1),.d (.int .i64 v.2.2.2.2.2.2.1),.d (.int .i64 v.2.2.2.2.2.2.2.1),.d (.int .i64 v.2.2.2.2.2.2.2.2.1),.d (.int .i64 v.2.2.2.2.2.2.2.2.2.1),.d (.int .i64 v.2.2.2.2.2.2.2.2.2.2.1),.d (.int .i64 v.2.2.2.2.2.2.2.2.2.2.2.1),.d (.int .i64 v.2.2.2.2.2.2.2.2.2.2.2.2.1),.d (.int .i64 v.2.2.2.2.2.2.2.2.2.2.2.2.2.1)],.c (.d (.int .i64 v.2.2.2.2.2.2.2.2.2.2.2.2.2.2))]
attribute [go_sem] ao2
def ao1 (v:Int×Int×Int×Int×Int×Int×Int×Int):List RV:=[.agg [.d (.int .i64 v.1),.d (.int .i64 v.2.1),.d (.int .i64 v.2.2.1),.d (.int .i64 v.2.2.2.1),.d (.int .i64 v.2.2.2.2.1),.d (.int .i64 v.2.2.2.2.2.1),.d (.int .i64 v.2.2.2.2.2.2.1),.d (.int .i64 v.2.2.2.2.2.2.2)]]
attribute [go_sem] ao1
def ao0 (v:(Option (Int×Int×Int×Int))):List RV:=[.c (.d (vJ cZ v))]
attribute [go_sem] ao0
end
def Gl (x0 x1:Int) (x2:au) (x3:aj) (x4 x5:aZ) (x6:au) (x7 x8:Int) (v2:eU×Int) (s1:Int×(List (au))):Bd (Int×(List (au))) (gy (Int×(List (au))) (aj×Int)):=fun s2=>
 if (decide (s2.1<(s1.2.length:Int)))=true then
  if 0≤s2.1∧s2.1<(s2.2.length:Int) then
   if 0≤s2.1∧s2.1<(((v2.1.getD s1.1.toNat default).1).length:Int) then
    if 0≤s2.1∧s2.1<(((v2.1.getD s1.1.toNat default).2).length:Int) then
     aP (r82 x0 x1 x2 x3 x4 x5 x6 x7 x8 (((v2.1.getD s1.1.toNat default).1).getD s2.1.toNat default) (((v2.1.getD s1.1.toNat default).2).getD s2.1.toNat default)) fun v3=>
      if ((s2.2.getD s2.1.toNat default).length+1)*16≤140737488355328∧(s2.2.getD s2.1.toNat default).length+1≤9223372036854775807 then
       if 0≤s2.1∧s2.1<(s2.2.length:Int) then
        .next (IntKind.i64.wrap (s2.1+1),s2.2.set s2.1.toNat ((s2.2.getD s2.1.toNat default)++[(v3.1,v3.2)]))
        else .out none
       else .out none
     else .out none
    else .out none
   else .out none
  else .out (some (.next (IntKind.i64.wrap (s1.1+1),s2.2)))
def Gm (x0 x1:Int) (x2:au) (x3:aj) (x4 x5:aZ) (x6:au) (x7 x8:Int) (v2:eU×Int):Bd (Int×(List (au))) (aj×Int):=fun s1=>
 if (decide (s1.1<(v2.1.length:Int)))=true then
  if 0≤s1.1∧s1.1<(v2.1.length:Int) then
   (aS (Gl x0 x1 x2 x3 x4 x5 x6 x7 x8 v2 s1) 1000000000 (0,s1.2)).getD (.out none)
   else .out none
  else .out (some (s1.2,0))
def r51 (x0 x1:Int) (x2:au) (x3:aj) (x4 x5:aZ) (x6:au) (x7 x8:Int) (a1:au):Option (aj×Int):=
 (r56 x0 x1 x2 x3 x4 x5 x6 x7 x8 a1).bind fun v1=>
  (r81 x0 x1 x2 x3 x4 x5 v1).bind fun v2=>
   if (v2.2 != 0)=true then
    some ([],v2.2)
    else if 0≤x0∧x0≤x0∧x0≤9223372036854775807∧24*x0≤281474976710656 then
     aS (Gm x0 x1 x2 x3 x4 x5 x6 x7 x8 v2) 1000000000 (0,List.replicate x0.toNat [])
     else none
@[go_sem] def T51:=BJ ahn true r51
@[go_sem] def ayx (k:Nat):=lk [(56,T56.sp),(81,T81.sp),(82,T82.sp)] k
theorem f51:aF Tryz.prog 51 T51.sp:=by
 refine vm (tb:=ayx) (.cons f56 (.cons f81 (.cons f82 .nil))) Tryz.func51 Tryz.ntmps51 fun ⟨x0,x1,x2,x3,x4,x5,x6,x7,x8,a1⟩ r hr stop S=> ?_
 rw [xU,r51] at hr
 refine S.gx [14] ?_
 obtain ⟨v1,hv1,hr⟩:=aA hr
 obtain ⟨v2,hv2,hr⟩:=aA hr
 refine gb hv1 ?_
 refine gb hv2 ?_
 refine iW hr (fun hc hr=>D0 hr) fun hc hr=> ?_
 obtain ⟨vH,hr⟩:=aH hr
 refine gr ?_
 refine S.NY 32 2 32 rfl rfl rfl (of_eq_true (GL _ _)) ?_
 refine S.sees [2,8,33,34,35] [(2,2)] [(32,32),(22,22)] ?_ (Stop.iter S (fun s1=>⟨[(2,.c (.ref 2 0)),(8,.c (.own 32)),(33,.c (.own 22)),(34,.c (.d (.int .i64 (v2.1.length:Int)))),(35,.c (.d (.int .i64 s1.1)))],[(2,[.d (.int .i64 x0),.d (.int .i64 x1),.d (ah 2 aO x2),.d (ah 1 aN x3),.d (ah 1 cO x4),.d (ah 1 cO x5),.d (ah 2 aO x6),.d (.int .i64 x7),.d (.int .i64 x8)])],[(32,.deep (ah 1 aN s1.2)),(22,.owned (ah 2 fO v2.1))]⟩) (Gm x0 x1 x2 x3 x4 x5 x6 x7 x8 v2) (fun q=>q=r) hr rfl ?_)
 ·exact lf
 ·intro s1 hr
  unfold Gm at hr
  refine S.gx [14] ?_
  refine gr ?_
  refine dN hr (fun hc hr=> ?_) fun hc hr=> ?_
  ·obtain ⟨O9,hr⟩:=aC hr
   refine gr ?_
   obtain ⟨q2,hq,hr⟩:=iE hr
   refine S.sees [2,8,10,33,34,35,40,41] [(2,2),(10,10)] [(32,32),(22,22)] ?_ (Stop.iter S (fun s2=>⟨[(2,.c (.ref 2 0)),(8,.c (.own 32)),(10,.c (.ref 10 0)),(33,.c (.own 22)),(34,.c (.d (.int .i64 (v2.1.length:Int)))),(35,.c (.d (.int .i64 s1.1))),(40,.c (.d (.int .i64 (s1.2.length:Int)))),(41,.c (.d (.int .i64 s2.1)))],[(2,[.d (.int .i64 x0),.d (.int .i64 x1),.d (ah 2 aO x2),.d (ah 1 aN x3),.d (ah 1 cO x4),.d (ah 1 cO x5),.d (ah 2 aO x6),.d (.int .i64 x7),.d (.int .i64 x8)]),(10,[.d (ah 1 cO ((v2.1.getD s1.1.toNat default).1)),.d (ah 1 cO ((v2.1.getD s1.1.toNat default).2))])],[(32,.deep (ah 1 aN s2.2)),(22,.owned (ah 2 fO v2.1))]⟩) (Gl x0 x1 x2 x3 x4 x5 x6 x7 x8 v2 s1) _ hq hr ?_)
   ·exact lf
   ·intro s2 hr
    unfold Gl at hr
    refine S.gx [14] ?_
    refine gr ?_
    refine dN hr (fun hc hr=>D1 (S.ss [2,8,10,33,34,35,40,41] [(2,2),(10,10)] [(32,32),(22,22)]) hr) fun hc hr=> ?_
    refine gr ?_
    replace hr:=bn hr
    exact D1 (S.ss [2,8,33,34,35] [(2,2)] [(32,32),(22,22)]) hr
  ·refine gr ?_
   have hr:=bK hr
   refine gr ?_
   refine S.NT 32 (ah 1 aN s1.2) rfl ?_ ?_
   ·exact lf
   refine S.gx [] ?_
   exact D0 hr
def ahj (x5 x0 x1 x2 x3 x4 x6:Int):Option (Int):=
 (jr x5).bind fun v1=>
  if v1=true→(jr x0).isSome=true then
   if (v1 && ((jr x0).getD default))=true→(jr x1).isSome=true then
    if ((v1 && ((jr x0).getD default)) && ((jr x1).getD default))=true→(jr x2).isSome=true then
     if (((v1 && ((jr x0).getD default)) && ((jr x1).getD default)) && ((jr x2).getD default))=true→(jr x3).isSome=true then
      if ((((v1 && ((jr x0).getD default)) && ((jr x1).getD default)) && ((jr x2).getD default)) && ((jr x3).getD default))=true→(jQ x4 0 100000).isSome=true then
       if (((((v1 && ((jr x0).getD default)) && ((jr x1).getD default)) && ((jr x2).getD default)) && ((jr x3).getD default)) && ((jQ x4 0 100000).getD default))=true→(jQ x6 0 1000000).isSome=true then
        if (!((((((v1 && ((jr x0).getD default)) && ((jr x1).getD default)) && ((jr x2).getD default)) && ((jr x3).getD default)) && ((jQ x4 0 100000).getD default)) && ((jQ x6 0 1000000).getD default)))=true then
         some 2
         else (iH ((IntKind.i64.wrap ((IntKind.i64.wrap ((IntKind.i64.wrap (x5+x0))+x1))+x2)) == 1000000) 3).bind fun v2=>
          some v2
        else none
       else none
      else none
     else none
    else none
   else none
@[go_sem] def auS:=adK lF false ahj
@[go_sem] def amY (k:Nat):=lk [(138,Ns.sp),(171,XL.sp),(173,ae2.sp)] k
theorem f133:aF Tryz.prog 133 auS.sp:=by
 refine vm (tb:=amY) (.cons f138 (.cons f171 (.cons f173 .nil))) Tryz.func133 Tryz.ntmps133 fun ⟨x5,x0,x1,x2,x3,x4,x6⟩ r hr stop S=> ?_
 rw [GY,ahj] at hr
 refine S.gx [2] ?_
 obtain ⟨v1,hv1,hr⟩:=aA hr
 obtain ⟨hg3,hr⟩:=aH hr
 obtain ⟨hg4,hr⟩:=aH hr
 obtain ⟨hg5,hr⟩:=aH hr
 obtain ⟨hg6,hr⟩:=aH hr
 obtain ⟨XT,hr⟩:=aH hr
 obtain ⟨NG,hr⟩:=aH hr
 try simp only [hv1,oG,oI,true_and,and_assoc]
 repeat (first | refine gG hg3 ?_ | refine gG hg4 ?_ | refine gG hg5 ?_ | refine gG hg6 ?_ | refine gG XT ?_ | refine gG NG ?_ | refine gA ?_ | refine gB ?_)
 refine S.prune [1,3] ?_
 refine S.gx [] ?_
 exact D0 hr
def H8 (a0:Int):Option (Int×Int):=
 some (a0,a0)
@[go_sem] def auu:=Kw qu7 false H8
theorem f174:aF Tryz.prog 174 auu.sp:=by
 refine vm .nil Tryz.func174 Tryz.ntmps174 fun a0 r hr stop S=> ?_
 rw [qU,H8] at hr
 refine S.gx [] ?_
 exact D0 hr
def ahi (x0 x1 x2 x3 x4 x5 x6:Int):Option (Int×Int×Int×Int×Int×Int×Int×Int×Int×Int×Int×Int×Int×Int):=
 (H8 x0).bind fun v1=>
  (H8 x1).bind fun v2=>
   (H8 x2).bind fun v3=>
    (H8 x3).bind fun v4=>
     (H8 x4).bind fun v5=>
      (H8 x5).bind fun v6=>
       (H8 x6).bind fun v7=>
        some (v1.1,v1.2,v2.1,v2.2,v3.1,v3.2,v4.1,v4.2,v5.1,v5.2,v6.1,v6.2,v7.1,v7.2)
@[go_sem] def auR:=adK Ib false ahi
@[go_sem] def amX (k:Nat):=lk [(174,auu.sp)] k
theorem f134:aF Tryz.prog 134 auR.sp:=by
 refine vm (tb:=amX) (.cons f174 .nil) Tryz.func134 Tryz.ntmps134 fun ⟨x0,x1,x2,x3,x4,x5,x6⟩ r hr stop S=> ?_
 rw [GY,ahi] at hr
 refine S.gx [] ?_
 exact D0 hr
def r97 (x0 x1 x2 x3 x4 x5 x6:Int):Option (Int×Int×Int×Int×Int×Int×Int×Int×Int×Int×Int×Int×Int×Int×Int):=
 (ahj x0 x1 x2 x3 x4 x5 x6).bind fun v1=>
  if (v1 != 0)=true then
   some (0,0,0,0,0,0,0,0,0,0,0,0,0,0,v1)
   else (ahi x0 x1 x2 x3 x4 x5 x6).bind fun v2=>
    some (v2.1,v2.2.1,v2.2.2.1,v2.2.2.2.1,v2.2.2.2.2.1,v2.2.2.2.2.2.1,v2.2.2.2.2.2.2.1,v2.2.2.2.2.2.2.2.1,v2.2.2.2.2.2.2.2.2.1,v2.2.2.2.2.2.2.2.2.2.1,v2.2.2.2.2.2.2.2.2.2.2.1,v2.2.2.2.2.2.2.2.2.2.2.2.1,v2.2.2.2.2.2.2.2.2.2.2.2.2.1,v2.2.2.2.2.2.2.2.2.2.2.2.2.2,0)
@[go_sem] def T97:=adK ao2 false r97
@[go_sem] def ax4 (k:Nat):=lk [(133,auS.sp),(134,auR.sp)] k
theorem f97:aF Tryz.prog 97 T97.sp:=by
 refine vm (tb:=ax4) (.cons f133 (.cons f134 .nil)) Tryz.func97 Tryz.ntmps97 fun ⟨x0,x1,x2,x3,x4,x5,x6⟩ r hr stop S=> ?_
 rw [GY,r97] at hr
 refine S.gx [] ?_
 exact D0 hr
def ahh (x0:bg) (x1:aW) (x2:bf) (x3:au) (x4 x5 x6 x7:Int):Option (Int):=
 (adF x0 x1 x2 x3 x4 x5 x6 x7).bind fun v1=>
  some v1.2
@[go_sem] def auQ:=adL lF false ahh
@[go_sem] def amW (k:Nat):=lk [(131,aju.sp)] k
theorem f136:aF Tryz.prog 136 auQ.sp:=by
 refine vm (tb:=amW) (.cons f131 .nil) Tryz.func136 Tryz.ntmps136 fun ⟨x0,x1,x2,x3,x4,x5,x6,x7⟩ r hr stop S=> ?_
 rw [uq8,ahh] at hr
 refine S.gx [] ?_
 exact D0 hr
def adz (x0 x1 x2 x3 x4 x5 x6 x7 x8 x9 x10 x11 x12 dP:Int):Option (Int×Int×Int×Int×Int×Int×Int×Int):=
 some (x0,x1,x2,x3,x4,x5,x6,x7)
@[go_sem] def ajq:=ahu ao1 false adz
theorem f176:aF Tryz.prog 176 ajq.sp:=by
 refine vm .nil Tryz.func176 Tryz.ntmps176 fun ⟨x0,x1,x2,x3,x4,x5,x6,x7,x8,x9,x10,x11,x12,dP⟩ r hr stop S=> ?_
 rw [agv,adz] at hr
 refine S.gx [] ?_
 exact D0 hr
def ahg (x7 x0 x8 x1 x9 x2 x10 x3 x11 x4 x12 x5 dP x6:Int):Option (Int):=
 (jQ x7 0 1000000).bind fun v1=>
  if v1=true→(jQ x0 0 1000000).isSome=true then
   (iH (v1 && ((jQ x0 0 1000000).getD default)) 2).bind fun v2=>
    (iH (decide (x7≤x0)) 9).bind fun v3=>
     (rG [v2,v3]).bind fun v4=>
      if (v4 != 0)=true then
       some v4
       else (jQ x8 0 1000000).bind fun v5=>
        if v5=true→(jQ x1 0 1000000).isSome=true then
         (iH (v5 && ((jQ x1 0 1000000).getD default)) 2).bind fun v6=>
          (iH (decide (x8≤x1)) 9).bind fun v7=>
           (rG [v6,v7]).bind fun v8=>
            if (v8 != 0)=true then
             some v8
             else (jQ x9 0 1000000).bind fun v9=>
              if v9=true→(jQ x2 0 1000000).isSome=true then
               (iH (v9 && ((jQ x2 0 1000000).getD default)) 2).bind fun v10=>
                (iH (decide (x9≤x2)) 9).bind fun v11=>
                 (rG [v10,v11]).bind fun v12=>
                  if (v12 != 0)=true then
                   some v12
                   else (jQ x10 0 1000000).bind fun v13=>
                    if v13=true→(jQ x3 0 1000000).isSome=true then
                     (iH (v13 && ((jQ x3 0 1000000).getD default)) 2).bind fun v14=>
                      (iH (decide (x10≤x3)) 9).bind fun v15=>
                       (rG [v14,v15]).bind fun v16=>
                        if (v16 != 0)=true then
                         some v16
                         else (jQ x11 0 1000000).bind fun v17=>
                          if v17=true→(jQ x4 0 1000000).isSome=true then
                           (iH (v17 && ((jQ x4 0 1000000).getD default)) 2).bind fun v18=>
                            (iH (decide (x11≤x4)) 9).bind fun v19=>
                             (rG [v18,v19]).bind fun v20=>
                              if (v20 != 0)=true then
                               some v20
                               else (jQ x12 0 100000).bind fun v21=>
                                if v21=true→(jQ x5 0 100000).isSome=true then
                                 (iH (v21 && ((jQ x5 0 100000).getD default)) 2).bind fun v22=>
                                  (iH (decide (x12≤x5)) 9).bind fun v23=>
                                   (rG [v22,v23]).bind fun v24=>
                                    if (v24 != 0)=true then
                                     some v24
                                     else (jQ dP 0 1000000).bind fun v25=>
                                      if v25=true→(jQ x6 0 1000000).isSome=true then
                                       (iH (v25 && ((jQ x6 0 1000000).getD default)) 2).bind fun v26=>
                                        (iH (decide (dP≤x6)) 9).bind fun v27=>
                                         (rG [v26,v27]).bind fun v28=>
                                          if (v28 != 0)=true then
                                           some v28
                                           else (adz x7 x0 x8 x1 x9 x2 x10 x3 x11 x4 x12 x5 dP x6).bind fun v29=>
                                            (jQ 1000000 (IntKind.i64.wrap ((IntKind.i64.wrap ((IntKind.i64.wrap ((IntKind.i64.wrap (0+v29.1))+v29.2.2.1))+v29.2.2.2.2.1))+v29.2.2.2.2.2.2.1)) (IntKind.i64.wrap ((IntKind.i64.wrap ((IntKind.i64.wrap ((IntKind.i64.wrap (0+v29.2.1))+v29.2.2.2.1))+v29.2.2.2.2.2.1))+v29.2.2.2.2.2.2.2))).bind fun v30=>
                                             (iH v30 12).bind fun v31=>
                                              some v31
                                       else none
                                 else none
                           else none
                     else none
               else none
         else none
   else none
@[go_sem] def auP:=ahu lF false ahg
@[go_sem] def aff (k:Nat):=lk [(135,XM.sp),(138,Ns.sp),(171,XL.sp),(176,ajq.sp)] k
theorem Yc:fE Tryz.prog aff:= .cons f135 (.cons f138 (.cons f171 (.cons f176 .nil)))
theorem f137:aF Tryz.prog 137 auP.sp:=by
 refine vm (tb:=aff) (.cons f135 (.cons f138 (.cons f171 (.cons f176 .nil)))) Tryz.func137 Tryz.ntmps137 fun ⟨x7,x0,x8,x1,x9,x2,x10,x3,x11,x4,x12,x5,dP,x6⟩ r hr stop S=> ?_
 rw [agv,ahg] at hr
 refine S.gx [2,6] ?_
 refine gr ?_
 refine S.inl 0 [1,3] [] Tryz.func175 (by decide) rfl Tryz.ntmps175 (fun cx e=>aV bT Yc cx e) (some 11) rfl rfl rfl rfl (nL rfl) (nL rfl) ?_
 refine gs ?_
 refine gr ?_
 intro stop1 S1
 refine S1.gx [] ?_
 refine gr ?_
 refine gr ?_
 refine S.gx [2,6] ?_
 refine gr ?_
 refine S.lp ?_
 refine S.gx [2,6] ?_
 obtain ⟨v1,hv1,hr⟩:=aA hr
 obtain ⟨asP,hr⟩:=aH hr
 obtain ⟨v2,hv2,hr⟩:=aA hr
 obtain ⟨v3,hv3,hr⟩:=aA hr
 obtain ⟨v4,hv4,hr⟩:=aA hr
 try simp only [hv1,hv2,hv3,hv4,Option.getD_some,Option.isSome_some,true_and,and_assoc]
 repeat (first | refine gG asP ?_ | refine gA ?_ | refine gB ?_)
 refine S.prune [1,3,6,11,12] ?_
 refine S.gx [2] ?_
 refine gr ?_
 refine gr ?_
 refine iW hr (fun hc hr=>D0 hr) fun hc hr=> ?_
 refine gr ?_
 refine S.lp ?_
 refine S.gx [2,6] ?_
 obtain ⟨v5,hv5,hr⟩:=aA hr
 obtain ⟨asQ,hr⟩:=aH hr
 obtain ⟨v6,hv6,hr⟩:=aA hr
 obtain ⟨v7,hv7,hr⟩:=aA hr
 obtain ⟨v8,OY,hr⟩:=aA hr
 try simp only [hv5,hv6,hv7,OY,Option.getD_some,Option.isSome_some,true_and,and_assoc]
 repeat (first | refine gG asQ ?_ | refine gA ?_ | refine gB ?_)
 refine S.prune [1,3,6,11,12] ?_
 refine S.gx [2] ?_
 refine gr ?_
 refine gr ?_
 refine iW hr (fun hc hr=>D0 hr) fun hc hr=> ?_
 refine gr ?_
 refine S.lp ?_
 refine S.gx [2,6] ?_
 obtain ⟨v9,hv9,hr⟩:=aA hr
 obtain ⟨asR,hr⟩:=aH hr
 obtain ⟨v10,yF,hr⟩:=aA hr
 obtain ⟨v11,IC,hr⟩:=aA hr
 obtain ⟨v12,O5,hr⟩:=aA hr
 try simp only [hv9,yF,IC,O5,Option.getD_some,Option.isSome_some,true_and,and_assoc]
 repeat (first | refine gG asR ?_ | refine gA ?_ | refine gB ?_)
 refine S.prune [1,3,6,11,12] ?_
 refine S.gx [2] ?_
 refine gr ?_
 refine gr ?_
 refine iW hr (fun hc hr=>D0 hr) fun hc hr=> ?_
 refine gr ?_
 refine S.lp ?_
 refine S.gx [2,6] ?_
 obtain ⟨v13,ZW,hr⟩:=aA hr
 obtain ⟨asT,hr⟩:=aH hr
 obtain ⟨v14,ZV,hr⟩:=aA hr
 obtain ⟨v15,aiA,hr⟩:=aA hr
 obtain ⟨v16,ZU,hr⟩:=aA hr
 try simp only [ZW,ZV,aiA,ZU,Option.getD_some,Option.isSome_some,true_and,and_assoc]
 repeat (first | refine gG asT ?_ | refine gA ?_ | refine gB ?_)
 refine S.prune [1,3,6,11,12] ?_
 refine S.gx [2] ?_
 refine gr ?_
 refine gr ?_
 refine iW hr (fun hc hr=>D0 hr) fun hc hr=> ?_
 refine gr ?_
 refine S.lp ?_
 refine S.gx [2,6] ?_
 obtain ⟨v17,O4,hr⟩:=aA hr
 obtain ⟨aAc,hr⟩:=aH hr
 obtain ⟨v18,O1,hr⟩:=aA hr
 obtain ⟨v19,OZ,hr⟩:=aA hr
 obtain ⟨v20,IB,hr⟩:=aA hr
 try simp only [O4,O1,OZ,IB,Option.getD_some,Option.isSome_some,true_and,and_assoc]
 repeat (first | refine gG aAc ?_ | refine gA ?_ | refine gB ?_)
 refine S.prune [1,3,6,11,12] ?_
 refine S.gx [2] ?_
 refine gr ?_
 refine gr ?_
 refine iW hr (fun hc hr=>D0 hr) fun hc hr=> ?_
 refine gr ?_
 refine S.lp ?_
 refine S.gx [2,6] ?_
 obtain ⟨v21,ZT,hr⟩:=aA hr
 obtain ⟨aAd,hr⟩:=aH hr
 obtain ⟨v22,ZR,hr⟩:=aA hr
 obtain ⟨v23,aiz,hr⟩:=aA hr
 obtain ⟨v24,hv24,hr⟩:=aA hr
 try simp only [ZT,ZR,aiz,hv24,Option.getD_some,Option.isSome_some,true_and,and_assoc]
 repeat (first | refine gG aAd ?_ | refine gA ?_ | refine gB ?_)
 refine S.prune [1,3,6,11,12] ?_
 refine S.gx [2] ?_
 refine gr ?_
 refine gr ?_
 refine iW hr (fun hc hr=>D0 hr) fun hc hr=> ?_
 refine gr ?_
 refine S.lp ?_
 refine S.gx [2,6] ?_
 obtain ⟨v25,hv25,hr⟩:=aA hr
 obtain ⟨aAe,hr⟩:=aH hr
 obtain ⟨v26,ZQ,hr⟩:=aA hr
 obtain ⟨v27,hv27,hr⟩:=aA hr
 obtain ⟨v28,hv28,hr⟩:=aA hr
 try simp only [hv25,ZQ,hv27,hv28,Option.getD_some,Option.isSome_some,true_and,and_assoc]
 repeat (first | refine gG aAe ?_ | refine gA ?_ | refine gB ?_)
 refine S.prune [1,3,6,11,12] ?_
 refine S.gx [2] ?_
 refine gr ?_
 refine gr ?_
 refine iW hr (fun hc hr=>D0 hr) fun hc hr=> ?_
 refine gr ?_
 refine S.lp ?_
 refine S.gx [2,6] ?_
 obtain ⟨v29,hv29,hr⟩:=aA hr
 refine gb hv29 ?_
 refine S.lp ?_
 refine S.gx [2,6] ?_
 refine gr ?_
 refine S.lp ?_
 refine S.gx [2,6] ?_
 refine gr ?_
 refine S.lp ?_
 refine S.gx [2,6] ?_
 refine gr ?_
 refine S.lp ?_
 refine S.gx [2,6] ?_
 refine gr ?_
 refine S.lp ?_
 refine S.gx [2,6] ?_
 exact D0 hr
def adv (a0:Int):Option (Int):=
 (Ou a0).bind fun v1=>
  (iH v1 2).bind fun v2=>
   some v2
@[go_sem] def aui:=Kw lF false adv
@[go_sem] def amq (k:Nat):=lk [(138,Ns.sp),(197,ajn.sp)] k
theorem f199:aF Tryz.prog 199 aui.sp:=by
 refine vm (tb:=amq) (.cons f138 (.cons f197 .nil)) Tryz.func199 Tryz.ntmps199 fun a0 r hr stop S=> ?_
 rw [qU,adv] at hr
 refine S.gx [] ?_
 exact D0 hr
def ag' (x0 x1:Int):Option (Int):=
 (adv x0).bind fun v1=>
  (adv x1).bind fun v2=>
   (iH (decide (x0≤x1)) 9).bind fun v3=>
    (rG [v1,v2,v3]).bind fun v4=>
     if (v4 != 0)=true then
      some v4
      else (iH (decide ((IntKind.i64.wrap (x1 - x0))≤50)) 8).bind fun v5=>
       some v5
@[go_sem] def aut:=OD lF false ag'
@[go_sem] def amy (k:Nat):=lk [(135,XM.sp),(138,Ns.sp),(199,aui.sp)] k
theorem f177:aF Tryz.prog 177 aut.sp:=by
 refine vm (tb:=amy) (.cons f135 (.cons f138 (.cons f199 .nil))) Tryz.func177 Tryz.ntmps177 fun ⟨x0,x1⟩ r hr stop S=> ?_
 rw [wo,ag'] at hr
 refine S.gx [] ?_
 exact D0 hr
def QL (a0:au):Bd Int Int:=fun s1=>
 if (decide (s1<(a0.length:Int)))=true then
  if 0≤s1∧s1<(a0.length:Int) then
   aP (ag' ((a0.getD s1.toNat default).1) ((a0.getD s1.toNat default).2)) fun v1=>
    if (v1 != 0)=true then
     .out (some v1)
     else .next (IntKind.i64.wrap (s1+1))
   else .out none
  else .out (some 0)
def ahf (a0:au):Option (Int):=
 if (decide ((a0.length:Int)>200))=true then
  some 8
  else aS (QL a0) 1000000000 0
@[go_sem] def auO:=qT5 lF false ahf
@[go_sem] def amV (k:Nat):=lk [(177,aut.sp)] k
theorem f139:aF Tryz.prog 139 auO.sp:=by
 refine vm (tb:=amV) (.cons f177 .nil) Tryz.func139 Tryz.ntmps139 fun a0 r hr stop S=> ?_
 rw [qU,ahf] at hr
 refine S.gx [] ?_
 refine gr ?_
 refine iW hr (fun hc hr=>D0 hr) fun hc hr=> ?_
 refine gr ?_
 refine S.sees [9,10,11] [] [] ?_ (Stop.iter S (fun s1=>⟨[(9,.c (.d (ah 2 aO a0))),(10,.c (.d (.int .i64 (a0.length:Int)))),(11,.c (.d (.int .i64 s1)))],[],[]⟩) (QL a0) (fun q=>q=r) hr rfl ?_)
 ·exact lf
 ·intro s1 hr
  unfold QL at hr
  refine S.gx [] ?_
  exact D1 (S.ss [9,10,11] [] []) hr
def agV (x0 x2 x3 x4 x1:Int):Option (Bool):=
 some (decide (x0≤x1))
@[go_sem] def atT:=aq1 qj false agV
theorem f232:aF Tryz.prog 232 atT.sp:=by
 refine vm .nil Tryz.func232 Tryz.ntmps232 fun ⟨x0,x2,x3,x4,x1⟩ r hr stop S=> ?_
 rw [uq5,agV] at hr
 refine S.gx [] ?_
 exact D0 hr
def Qq (x0:bg) (a1:Int):Bd Int (Option (Int×Int×Int×Int)):=fun s1=>
 if (decide (s1≥0))=true then
  if 0≤s1∧s1<(x0.length:Int) then
   if 0≤s1∧s1<(x0.length:Int) then
    aP (agV ((x0.getD s1.toNat default).1) ((x0.getD s1.toNat default).2.1) ((x0.getD s1.toNat default).2.2.1) ((x0.getD s1.toNat default).2.2.2) a1) fun v1=>
     if v1=true then
      if 0≤s1∧s1<(x0.length:Int) then
       .out (some (some ((x0.getD s1.toNat default).1,(x0.getD s1.toNat default).2.1,(x0.getD s1.toNat default).2.2.1,(x0.getD s1.toNat default).2.2.2)))
       else .out none
      else .next (IntKind.i64.wrap (s1 - 1))
    else .out none
   else .out none
  else .out (some none)
def agZ (x0:bg) (x1:aW) (x2:bf) (x3:au) (x4 x5 x6 x7 a1:Int):Option ((Option (Int×Int×Int×Int))):=
 aS (Qq x0 a1) 1000000000 (IntKind.i64.wrap ((x0.length:Int) - 1))
@[go_sem] def at6:=Wp ao0 true agZ
@[go_sem] def afc (k:Nat):=lk [(232,atT.sp)] k
theorem wB:fE Tryz.prog afc:= .cons f232 .nil
theorem f215:aF Tryz.prog 215 at6.sp:=by
 refine vm (tb:=afc) (.cons f232 .nil) Tryz.func215 Tryz.ntmps215 fun ⟨x0,x1,x2,x3,x4,x5,x6,x7,a1⟩ r hr stop S=> ?_
 rw [NC,agZ] at hr
 refine S.gx [1] ?_
 refine gr ?_
 refine S.inl 4 [4] [] Tryz.func231 (by decide) rfl Tryz.ntmps231 (fun cx e=>aV bT wB cx e) (some 9) rfl rfl rfl rfl (nL rfl) (nL rfl) ?_
 refine gs ?_
 refine gr ?_
 intro stop1 S1
 refine S1.gx [1,3] ?_
 refine gr ?_
 refine S1.inl 1 [2,3,4] [] Tryz.func252 (by decide) rfl Tryz.ntmps252 (fun cx e=>aV bT wB cx e) (some 7) rfl rfl rfl rfl (nL rfl) (nL rfl) ?_
 refine gs ?_
 refine gr ?_
 intro stop2 S2
 refine S2.gx [] ?_
 refine gr ?_
 refine gr ?_
 refine S1.gx [1,3] ?_
 refine gr ?_
 refine S1.range [2,3,4] Tryz.func260 (by decide) rfl Tryz.ntmps260 Tryz.results260 (fun cx e=>aV bT wB cx e) (fun cx e=>aV bT wB cx e) (by decide) rfl rfl (nL rfl) ?_
 intro l2 stop2 agE S2 SJ2 Y2
 refine S2.gx [3] ?_
 refine gr ?_
 refine S2.sees [0,1,3] [(1,1),(100002,100002),(100003,100003),(4,4),(3,3)] [] ?_ (Stop.iter S2 (fun s1=>⟨[(0,.c (.Vw l2)),(1,.c (.ref 1 0)),(3,.c (.d (.int .i64 s1)))],[(1,[.d (ah 4 cZ x0)]),(100002,[.d (ah 4 cZ x0)]),(100003,[.clo 232 [.ref 3 0]]),(4,[.d (vJ cZ none)]),(3,[.d (.int .i64 a1)])],[]⟩) (Qq x0 a1) (fun q=>q=r) hr rfl ?_)
 ·exact lf
 ·intro s1 hr
  unfold Qq at hr
  refine S2.gx [3] ?_
  refine gr ?_
  refine dN hr (fun hc hr=> ?_) fun hc hr=> ?_
  ·refine gr ?_
   refine Y2 6 [0,1,3] (some 17) rfl rfl rfl rfl (nL rfl) (by rfl) ?_
   refine gs ?_
   obtain ⟨hg4,hr⟩:=aC hr
   refine gr ?_
   intro agF SA3
   refine SA3.gx [] ?_
   refine gr ?_
   intro AY S3
   refine S3.gx [1,3] ?_
   refine gr ?_
   refine S3.gx [1] ?_
   obtain ⟨hg3,hr⟩:=aC hr
   obtain ⟨v1,hv1,hr⟩:=aQ hr
   refine gb hv1 ?_
   refine gr ?_
   refine dN hr (fun hc hr=> ?_) fun hc hr=> ?_
   ·obtain ⟨hg2,hr⟩:=aC hr
    refine gr ?_
    refine gr ?_
    refine (SJ2 .ret).gx [3] ?_
    refine gr ?_
    have hr:=bK hr
    refine gr ?_
    refine S1.gx [1,3] ?_
    refine gr ?_
    refine gr ?_
    refine S.gx [1] ?_
    exact D0 hr
   ·refine gr ?_
    refine gr ?_
    refine S2.gx [3] ?_
    exact D1 (S2.ss [0,1,3] [(1,1),(100002,100002),(100003,100003),(4,4),(3,3)] []) hr
  ·refine gr ?_
   have hr:=bK hr
   refine gr ?_
   refine gr ?_
   refine S1.gx [1,3] ?_
   refine gr ?_
   refine gr ?_
   refine S.gx [1] ?_
   exact D0 hr
def BG (a0:Int):Option (Int):=
 some (if 1000000<a0 then 1000000 else a0)
@[go_sem] def ae1:=Kw lF false BG
theorem f233:aF Tryz.prog 233 ae1.sp:=by
 refine vm .nil Tryz.func233 Tryz.ntmps233 fun a0 r hr stop S=> ?_
 rw [qU,BG] at hr
 refine S.gx [] ?_
 exact D0 hr
def adq (a0 a1 x1 x2 x3 x0:Int):Option (Int):=
 if (decide (a1>0))=true then
  some (if 100000<IntKind.i64.wrap (a0+x0) then 100000 else IntKind.i64.wrap (a0+x0))
  else some (if 100000<a0 then 100000 else a0)
@[go_sem] def atS:=aq0 lF false adq
theorem f234:aF Tryz.prog 234 atS.sp:=by
 refine vm .nil Tryz.func234 Tryz.ntmps234 fun ⟨a0,a1,x1,x2,x3,x0⟩ r hr stop S=> ?_
 rw [Vy,adq] at hr
 refine S.gx [] ?_
 exact D0 hr
def agY (x4 x5 x12 dP x6 x7 x8 x9 x14 x15 x10 x11 x16 x17 x2 x0 x1 x3:Int):Option (Int×Int×Int×Int×Int×Int×Int×Int×Int×Int×Int×Int×Int×Int):=
 (BG (IntKind.i64.wrap ((IntKind.i64.wrap (x4+x6))+x8))).bind fun v1=>
  (BG (IntKind.i64.wrap ((IntKind.i64.wrap (x5+x7))+x9))).bind fun v2=>
   (adq x10 (IntKind.i64.wrap (1000000 - (if 0<IntKind.i64.wrap (v2 - x0) then IntKind.i64.wrap (v2 - x0) else 0))) x2 x0 x1 x3).bind fun v3=>
    (adq x11 (IntKind.i64.wrap (1000000 - (if 0<IntKind.i64.wrap (v1 - x1) then IntKind.i64.wrap (v1 - x1) else 0))) x2 x0 x1 x3).bind fun v4=>
     some ((if 0<IntKind.i64.wrap (v1 - x1) then IntKind.i64.wrap (v1 - x1) else 0),(if 0<IntKind.i64.wrap (v2 - x0) then IntKind.i64.wrap (v2 - x0) else 0),IntKind.i64.wrap (1000000 - (if 0<IntKind.i64.wrap (v2 - x0) then IntKind.i64.wrap (v2 - x0) else 0)),IntKind.i64.wrap (1000000 - (if 0<IntKind.i64.wrap (v1 - x1) then IntKind.i64.wrap (v1 - x1) else 0)),0,0,0,0,0,0,v3,v4,0,0)
@[go_sem] def at1:=aqZ Ib false agY
@[go_sem] def amn (k:Nat):=lk [(233,ae1.sp),(234,atS.sp)] k
theorem f216:aF Tryz.prog 216 at1.sp:=by
 refine vm (tb:=amn) (.cons f233 (.cons f234 .nil)) Tryz.func216 Tryz.ntmps216 fun ⟨x4,x5,x12,dP,x6,x7,x8,x9,x14,x15,x10,x11,x16,x17,x2,x0,x1,x3⟩ r hr stop S=> ?_
 rw [akC,agY] at hr
 refine S.gx [3,7] ?_
 obtain ⟨v1,hv1,hr⟩:=aA hr
 obtain ⟨v2,hv2,hr⟩:=aA hr
 refine gb hv1 ?_
 refine gb hv2 ?_
 refine S.prune [2,3,4,5,6] ?_
 refine S.gx [7] ?_
 refine gr ?_
 obtain ⟨v3,hv3,hr⟩:=aA hr
 obtain ⟨v4,hv4,hr⟩:=aA hr
 refine gb hv3 ?_
 refine gb hv4 ?_
 refine S.prune [4,6] ?_
 refine S.gx [3] ?_
 exact D0 hr
end Go.Proofs.YtofkgmldcjagmaaGreatDoor

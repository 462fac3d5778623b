/- Contracts of functions, written by wip/dec. -/
import Derived.Test.YtnepigpnlnmlmaaGreatDoorF00
import Derived.Test.YtnepigpnlnmlmaaGreatDoorF05
set_option linter.unusedVariables false
set_option linter.unusedSimpArgs false
set_option linter.constructorNameAsVariable false
set_option maxHeartbeats 4000000
set_option maxRecDepth 20000
namespace Go.Proofs.YtnepigpnlnmlmaaGreatDoor
open Tryz Go.dR
section
variable {β:Type} [Inhabited β] (u:β->List RV) (al:Bool)
def arA (a0 a1 a2 a3 a4 a5 a6 a7 a8 a9 a10 a11 a12 jE:Int):List Arg:=[.agg [.int .i64 a0,.int .i64 a1,.int .i64 a2,.int .i64 a3,.int .i64 a4,.int .i64 a5,.int .i64 a6,.int .i64 a7,.int .i64 a8,.int .i64 a9,.int .i64 a10,.int .i64 a11,.int .i64 a12,.int .i64 jE]]
def atf:List Arg->Int×Int×Int×Int×Int×Int×Int×Int×Int×Int×Int×Int×Int×Int
 | [.agg [c0,c1,c2,c3,c4,c5,c6,c7,c8,c9,c10,c11,c12,c13]]=>(aC c0,aC c1,aC c2,aC c3,aC c4,aC c5,aC c6,aC c7,aC c8,aC c9,aC c10,aC c11,aC c12,aC c13)
 | _=>default
def akH (r:Int->Int->Int->Int->Int->Int->Int->Int->Int->Int->Int->Int->Int->Int->Option β):=mkT (u14 arA) atf (u14 r) u al
attribute [go_sem] arA atf akH
def arz (a0 a1 a2 a3 a4:Int):List Arg:=[.agg [.int .i64 a0,.int .i64 a1,.int .i64 a2,.int .i64 a3],.ptr [.int .i64 a4]]
def ate:List Arg->Int×Int×Int×Int×Int
 | [.agg [c0,c1,c2,c3],.ptr [c4]]=>(aC c0,aC c1,aC c2,aC c3,aC c4)
 | _=>default
def auu (r:Int->Int->Int->Int->Int->Option β):=mkT (u5 arz) ate (u5 r) u al
attribute [go_sem] arz ate auu
def arw (a0 a1 a2 a3 a4 a5:Int):List Arg:=[.c (.int .i64 a0),.c (.int .i64 a1),.ptr [.int .i64 a2,.int .i64 a3,.int .i64 a4,.int .i64 a5]]
def atc:List Arg->Int×Int×Int×Int×Int×Int
 | [.c c0,.c c1,.ptr [c2,c3,c4,c5]]=>(aC c0,aC c1,aC c2,aC c3,aC c4,aC c5)
 | _=>default
def aut (r:Int->Int->Int->Int->Int->Int->Option β):=mkT (u6 arw) atc (u6 r) u al
attribute [go_sem] arw atc aut
def arv (a0 a1 a2 a3 a4 a5 a6 a7 a8 a9 a10 a11 a12 jE jR kJ a16 a17:Int):List Arg:=[.agg [.int .i64 a0,.int .i64 a1,.int .i64 a2,.int .i64 a3,.int .i64 a4,.int .i64 a5,.int .i64 a6,.int .i64 a7,.int .i64 a8,.int .i64 a9,.int .i64 a10,.int .i64 a11,.int .i64 a12,.int .i64 jE],.agg [.int .i64 jR,.int .i64 kJ,.int .i64 a16,.int .i64 a17]]
def atb:List Arg->Int×Int×Int×Int×Int×Int×Int×Int×Int×Int×Int×Int×Int×Int×Int×Int×Int×Int
 | [.agg [c0,c1,c2,c3,c4,c5,c6,c7,c8,c9,c10,c11,c12,c13],.agg [c14,c15,c16,c17]]=>(aC c0,aC c1,aC c2,aC c3,aC c4,aC c5,aC c6,aC c7,aC c8,aC c9,aC c10,aC c11,aC c12,aC c13,aC c14,aC c15,aC c16,aC c17)
 | _=>default
def aus (r:Int->Int->Int->Int->Int->Int->Int->Int->Int->Int->Int->Int->Int->Int->Int->Int->Int->Int->Option β):=mkT (u18 arv) atb (u18 r) u al
attribute [go_sem] arv atb aus
def aru (a0 a1 a2 a3 a4 a5:Int):List Arg:=[.agg [.int .i64 a0,.int .i64 a1,.int .i64 a2,.int .i64 a3,.int .i64 a4],.ptr [.int .i64 a5]]
def ata:List Arg->Int×Int×Int×Int×Int×Int
 | [.agg [c0,c1,c2,c3,c4],.ptr [c5]]=>(aC c0,aC c1,aC c2,aC c3,aC c4,aC c5)
 | _=>default
def aur (r:Int->Int->Int->Int->Int->Int->Option β):=mkT (u6 aru) ata (u6 r) u al
attribute [go_sem] aru ata aur
def asu (v:Int×Int×Int×Int×Int×Int×Int×Int×Int×Int×Int×Int×Int×Int×Int):List RV:=[.agg [.d (.int .i64 v.1),.d (.int .i64 v.2.1),.d (.int .i64 v.2.2.1),.d (.int .i64 v.2.2.2.1),.d (.int .i64 v.2.2.2.2.1),.d (.int .i64 v.2.2.2.2.2.1),.d (.int .i64 v.2.2.2.2.2.2.1),.d (.int .i64 v.2.2.2.2.2.2.2.1),.d (.int .i64 v.2.2.2.2.2.2.2.2.1),.d (.int .i64 v.2.2.2.2.2.2.2.2.2.1),.d (.int .i64 v.2.2.2.2.2.2.2.2.2.2.1),.d (.int .i64 v.2.2.2.2.2.2.2.2.2.2.2.1),.d (.int .i64 v.2.2.2.2.2.2.2.2.2.2.2.2.1),.d (.int .i64 v.2.2.2.2.2.2.2.2.2.2.2.2.2.1)],.c (.d (.int .i64 v.2.2.2.2.2.2.2.2.2.2.2.2.2.2))]
attribute [go_sem] asu
def asr (v:Int×Int×Int×Int×Int×Int×Int×Int):List RV:=[.agg [.d (.int .i64 v.1),.d (.int .i64 v.2.1),.d (.int .i64 v.2.2.1),.d (.int .i64 v.2.2.2.1),.d (.int .i64 v.2.2.2.2.1),.d (.int .i64 v.2.2.2.2.2.1),.d (.int .i64 v.2.2.2.2.2.2.1),.d (.int .i64 v.2.2.2.2.2.2.2)]]
attribute [go_sem] asr
def asq (v:(Option (Int×Int×Int×Int))):List RV:=[.c (.d (yM bV v))]
attribute [go_sem] asq
end
def acp (x5 x0 x1 x2 x3 x4 x6:Int):Option (Int):=
 (jr x5).bind λv1=>
  if v1=true->(jr x0).isSome=true then
   if (v1 && ((jr x0).getD default))=true->(jr x1).isSome=true then
    if ((v1 && ((jr x0).getD default)) && ((jr x1).getD default))=true->(jr x2).isSome=true then
     if (((v1 && ((jr x0).getD default)) && ((jr x1).getD default)) && ((jr x2).getD default))=true->(jr x3).isSome=true then
      if ((((v1 && ((jr x0).getD default)) && ((jr x1).getD default)) && ((jr x2).getD default)) && ((jr x3).getD default))=true->(jS x4 0 100000).isSome=true then
       if (((((v1 && ((jr x0).getD default)) && ((jr x1).getD default)) && ((jr x2).getD default)) && ((jr x3).getD default)) && ((jS x4 0 100000).getD default))=true->(jS x6 0 1000000).isSome=true then
        if (!((((((v1 && ((jr x0).getD default)) && ((jr x1).getD default)) && ((jr x2).getD default)) && ((jr x3).getD default)) && ((jS x4 0 100000).getD default)) && ((jS x6 0 1000000).getD default)))=true then
         some 2
         else (gW ((IntKind.i64.wrap ((IntKind.i64.wrap ((IntKind.i64.wrap (x5+x0))+x1))+x2)) == 1000000) 3).bind λv2=>
          some v2
        else none
       else none
      else none
     else none
    else none
   else none
@[go_sem] def ayW:=agD mY false acp
@[go_sem] def aqE (k:Nat):=lk [(142,aaJ.sp),(143,RJ.sp),(168,ah4.sp)] k
theorem f106:aF prog 106 ayW.sp:=by
 refine vm (tb:=aqE) (.cons f142 (.cons f143 (.cons f168 .nil))) func106 ntmps106 λ⟨x5,x0,x1,x2,x3,x4,x6⟩ r hr stop S=> ?_
 rw [OJ,acp] at hr
 refine S.gx [2] ?_
 obtain ⟨v1,hv1,hr⟩:=aB hr
 obtain ⟨hg3,hr⟩:=aP hr
 obtain ⟨hg4,hr⟩:=aP hr
 obtain ⟨hg5,hr⟩:=aP hr
 obtain ⟨hg6,hr⟩:=aP hr
 obtain ⟨hg7,hr⟩:=aP hr
 obtain ⟨XT,hr⟩:=aP hr
 try simp only [hv1,oG,oI,true_and,and_assoc]
 repeat (first | refine gG hg3 ?_ | refine gG hg4 ?_ | refine gG hg5 ?_ | refine gG hg6 ?_ | refine gG hg7 ?_ | refine gG XT ?_ | refine gA ?_ | refine gB ?_)
 refine S.prune [1,3] ?_
 refine S.gx [] ?_
 exact D0 hr
def MH (a0:Int):Option (Int×Int):=
 some (a0,a0)
@[go_sem] def axV:=OC qu7 false MH
theorem f255:aF prog 255 axV.sp:=by
 refine vm .nil func255 ntmps255 λa0 r hr stop S=> ?_
 rw [sQ,MH] at hr
 refine S.gx [] ?_
 exact D0 hr
def akp (x0 x1 x2 x3 x4 x5 x6:Int):Option (Int×Int×Int×Int×Int×Int×Int×Int×Int×Int×Int×Int×Int×Int):=
 (MH x0).bind λv1=>
  (MH x1).bind λv2=>
   (MH x2).bind λv3=>
    (MH x3).bind λv4=>
     (MH x4).bind λv5=>
      (MH x5).bind λv6=>
       (MH x6).bind λv7=>
        some (v1.1,v1.2,v2.1,v2.2,v3.1,v3.2,v4.1,v4.2,v5.1,v5.2,v6.1,v6.2,v7.1,v7.2)
@[go_sem] def aym:=agD MP false akp
@[go_sem] def ap8 (k:Nat):=lk [(255,axV.sp)] k
theorem f199:aF prog 199 aym.sp:=by
 refine vm (tb:=ap8) (.cons f255 .nil) func199 ntmps199 λ⟨x0,x1,x2,x3,x4,x5,x6⟩ r hr stop S=> ?_
 rw [OJ,akp] at hr
 refine S.gx [] ?_
 exact D0 hr
def aci (x0 x1 x2 x3 x4 x5 x6:Int):Option (Int×Int×Int×Int×Int×Int×Int×Int×Int×Int×Int×Int×Int×Int×Int):=
 (acp x0 x1 x2 x3 x4 x5 x6).bind λv1=>
  if (v1 != 0)=true then
   some (0,0,0,0,0,0,0,0,0,0,0,0,0,0,v1)
   else (akp x0 x1 x2 x3 x4 x5 x6).bind λv2=>
    some (v2.1,v2.2.1,v2.2.2.1,v2.2.2.2.1,v2.2.2.2.2.1,v2.2.2.2.2.2.1,v2.2.2.2.2.2.2.1,v2.2.2.2.2.2.2.2.1,v2.2.2.2.2.2.2.2.2.1,v2.2.2.2.2.2.2.2.2.2.1,v2.2.2.2.2.2.2.2.2.2.2.1,v2.2.2.2.2.2.2.2.2.2.2.2.1,v2.2.2.2.2.2.2.2.2.2.2.2.2.1,v2.2.2.2.2.2.2.2.2.2.2.2.2.2,0)
@[go_sem] def ayH:=agD asu false aci
@[go_sem] def aqt (k:Nat):=lk [(106,ayW.sp),(199,aym.sp)] k
theorem f145:aF prog 145 ayH.sp:=by
 refine vm (tb:=aqt) (.cons f106 (.cons f199 .nil)) func145 ntmps145 λ⟨x0,x1,x2,x3,x4,x5,x6⟩ r hr stop S=> ?_
 rw [OJ,aci] at hr
 refine S.gx [] ?_
 exact D0 hr
def acr (x0:aT) (x1:aG) (x2:aJ) (x3:aA) (x4 x5 x6 x7:Int):Option (Int):=
 (r80 x0 x1 x2 x3 x4 x5 x6 x7).bind λv1=>
  some v1.2
@[go_sem] def ayX:=PK mY false acr
@[go_sem] def aqF (k:Nat):=lk [(80,T80.sp)] k
theorem f105:aF prog 105 ayX.sp:=by
 refine vm (tb:=aqF) (.cons f80 .nil) func105 ntmps105 λ⟨x0,x1,x2,x3,x4,x5,x6,x7⟩ r hr stop S=> ?_
 rw [uq8,acr] at hr
 refine S.gx [] ?_
 exact D0 hr
def Y9 (x0 x1 x2 x3 x4 x5 x6 x7 x8 x9 x10 x11 x12 cO:Int):Option (Int×Int×Int×Int×Int×Int×Int×Int):=
 some (x0,x1,x2,x3,x4,x5,x6,x7)
@[go_sem] def amw:=akH asr false Y9
theorem f257:aF prog 257 amw.sp:=by
 refine vm .nil func257 ntmps257 λ⟨x0,x1,x2,x3,x4,x5,x6,x7,x8,x9,x10,x11,x12,cO⟩ r hr stop S=> ?_
 rw [ajP,Y9] at hr
 refine S.gx [] ?_
 exact D0 hr
def ab2 (x7 x0 x8 x1 x9 x2 x10 x3 x11 x4 x12 x5 cO x6:Int):Option (Int):=
 (jS x7 0 1000000).bind λv1=>
  if v1=true->(jS x0 0 1000000).isSome=true then
   (gW (v1 && ((jS x0 0 1000000).getD default)) 2).bind λv2=>
    (gW (decide (x7<=x0)) 9).bind λv3=>
     (oL [v2,v3]).bind λv4=>
      if (v4 != 0)=true then
       some v4
       else (jS x8 0 1000000).bind λv5=>
        if v5=true->(jS x1 0 1000000).isSome=true then
         (gW (v5 && ((jS x1 0 1000000).getD default)) 2).bind λv6=>
          (gW (decide (x8<=x1)) 9).bind λv7=>
           (oL [v6,v7]).bind λv8=>
            if (v8 != 0)=true then
             some v8
             else (jS x9 0 1000000).bind λv9=>
              if v9=true->(jS x2 0 1000000).isSome=true then
               (gW (v9 && ((jS x2 0 1000000).getD default)) 2).bind λv10=>
                (gW (decide (x9<=x2)) 9).bind λv11=>
                 (oL [v10,v11]).bind λv12=>
                  if (v12 != 0)=true then
                   some v12
                   else (jS x10 0 1000000).bind λv13=>
                    if v13=true->(jS x3 0 1000000).isSome=true then
                     (gW (v13 && ((jS x3 0 1000000).getD default)) 2).bind λv14=>
                      (gW (decide (x10<=x3)) 9).bind λv15=>
                       (oL [v14,v15]).bind λv16=>
                        if (v16 != 0)=true then
                         some v16
                         else (jS x11 0 1000000).bind λv17=>
                          if v17=true->(jS x4 0 1000000).isSome=true then
                           (gW (v17 && ((jS x4 0 1000000).getD default)) 2).bind λv18=>
                            (gW (decide (x11<=x4)) 9).bind λv19=>
                             (oL [v18,v19]).bind λv20=>
                              if (v20 != 0)=true then
                               some v20
                               else (jS x12 0 100000).bind λv21=>
                                if v21=true->(jS x5 0 100000).isSome=true then
                                 (gW (v21 && ((jS x5 0 100000).getD default)) 2).bind λv22=>
                                  (gW (decide (x12<=x5)) 9).bind λv23=>
                                   (oL [v22,v23]).bind λv24=>
                                    if (v24 != 0)=true then
                                     some v24
                                     else (jS cO 0 1000000).bind λv25=>
                                      if v25=true->(jS x6 0 1000000).isSome=true then
                                       (gW (v25 && ((jS x6 0 1000000).getD default)) 2).bind λv26=>
                                        (gW (decide (cO<=x6)) 9).bind λv27=>
                                         (oL [v26,v27]).bind λv28=>
                                          if (v28 != 0)=true then
                                           some v28
                                           else (Y9 x7 x0 x8 x1 x9 x2 x10 x3 x11 x4 x12 x5 cO x6).bind λv29=>
                                            (jS 1000000 (IntKind.i64.wrap ((IntKind.i64.wrap ((IntKind.i64.wrap ((IntKind.i64.wrap (0+v29.1))+v29.2.2.1))+v29.2.2.2.2.1))+v29.2.2.2.2.2.2.1)) (IntKind.i64.wrap ((IntKind.i64.wrap ((IntKind.i64.wrap ((IntKind.i64.wrap (0+v29.2.1))+v29.2.2.2.1))+v29.2.2.2.2.2.1))+v29.2.2.2.2.2.2.2))).bind λv30=>
                                             (gW v30 12).bind λv31=>
                                              some v31
                                       else none
                                 else none
                           else none
                     else none
               else none
         else none
   else none
@[go_sem] def ayl:=akH mY false ab2
@[go_sem] def ail (k:Nat):=lk [(104,aaK.sp),(142,aaJ.sp),(143,RJ.sp),(257,amw.sp)] k
theorem aa7:fM prog ail:= .cons f104 (.cons f142 (.cons f143 (.cons f257 .nil)))
theorem f200:aF prog 200 ayl.sp:=by
 refine vm (tb:=ail) (.cons f104 (.cons f142 (.cons f143 (.cons f257 .nil)))) func200 ntmps200 λ⟨x7,x0,x8,x1,x9,x2,x10,x3,x11,x4,x12,x5,cO,x6⟩ r hr stop S=> ?_
 rw [ajP,ab2] at hr
 refine S.gx [2,6] ?_
 refine gr ?_
 refine S.inl 0 [1,3] [] func256 (by decide) rfl ntmps256 (λcx e=>bD cZ aa7 cx e) (some 11) rfl rfl rfl rfl (nL rfl) (nL rfl) ?_
 refine gs ?_
 refine gr ?_
 intro stop1 S1
 refine S1.gw [] ?_
 refine S.gw [2,6] ?_
 refine S.lp ?_
 refine S.gx [2,6] ?_
 obtain ⟨v1,hv1,hr⟩:=aB hr
 obtain ⟨awt,hr⟩:=aP hr
 obtain ⟨v2,hv2,hr⟩:=aB hr
 obtain ⟨v3,hv3,hr⟩:=aB hr
 obtain ⟨v4,hv4,hr⟩:=aB hr
 try simp only [hv1,hv2,hv3,hv4,Option.getD_some,Option.isSome_some,true_and,and_assoc]
 repeat (first | refine gG awt ?_ | refine gA ?_ | refine gB ?_)
 refine S.prune [1,3,6,11,12] ?_
 refine S.gw [2] ?_
 refine iW hr (λhc hr=>D0 hr) λhc hr=> ?_
 refine gr ?_
 refine S.lp ?_
 refine S.gx [2,6] ?_
 obtain ⟨v5,hv5,hr⟩:=aB hr
 obtain ⟨awu,hr⟩:=aP hr
 obtain ⟨v6,hv6,hr⟩:=aB hr
 obtain ⟨v7,hv7,hr⟩:=aB hr
 obtain ⟨v8,hv8,hr⟩:=aB hr
 try simp only [hv5,hv6,hv7,hv8,Option.getD_some,Option.isSome_some,true_and,and_assoc]
 repeat (first | refine gG awu ?_ | refine gA ?_ | refine gB ?_)
 refine S.prune [1,3,6,11,12] ?_
 refine S.gw [2] ?_
 refine iW hr (λhc hr=>D0 hr) λhc hr=> ?_
 refine gr ?_
 refine S.lp ?_
 refine S.gx [2,6] ?_
 obtain ⟨v9,hv9,hr⟩:=aB hr
 obtain ⟨aDG,hr⟩:=aP hr
 obtain ⟨v10,yI,hr⟩:=aB hr
 obtain ⟨v11,UE,hr⟩:=aB hr
 obtain ⟨v12,adw,hr⟩:=aB hr
 try simp only [hv9,yI,UE,adw,Option.getD_some,Option.isSome_some,true_and,and_assoc]
 repeat (first | refine gG aDG ?_ | refine gA ?_ | refine gB ?_)
 refine S.prune [1,3,6,11,12] ?_
 refine S.gw [2] ?_
 refine iW hr (λhc hr=>D0 hr) λhc hr=> ?_
 refine gr ?_
 refine S.lp ?_
 refine S.gx [2,6] ?_
 obtain ⟨v13,GV,hr⟩:=aB hr
 obtain ⟨aDH,hr⟩:=aP hr
 obtain ⟨v14,UD,hr⟩:=aB hr
 obtain ⟨v15,adv,hr⟩:=aB hr
 obtain ⟨v16,alI,hr⟩:=aB hr
 try simp only [GV,UD,adv,alI,Option.getD_some,Option.isSome_some,true_and,and_assoc]
 repeat (first | refine gG aDH ?_ | refine gA ?_ | refine gB ?_)
 refine S.prune [1,3,6,11,12] ?_
 refine S.gw [2] ?_
 refine iW hr (λhc hr=>D0 hr) λhc hr=> ?_
 refine gr ?_
 refine S.lp ?_
 refine S.gx [2,6] ?_
 obtain ⟨v17,adu,hr⟩:=aB hr
 obtain ⟨aDI,hr⟩:=aP hr
 obtain ⟨v18,Nu,hr⟩:=aB hr
 obtain ⟨v19,UC,hr⟩:=aB hr
 obtain ⟨v20,UA,hr⟩:=aB hr
 try simp only [adu,Nu,UC,UA,Option.getD_some,Option.isSome_some,true_and,and_assoc]
 repeat (first | refine gG aDI ?_ | refine gA ?_ | refine gB ?_)
 refine S.prune [1,3,6,11,12] ?_
 refine S.gw [2] ?_
 refine iW hr (λhc hr=>D0 hr) λhc hr=> ?_
 refine gr ?_
 refine S.lp ?_
 refine S.gx [2,6] ?_
 obtain ⟨v21,alH,hr⟩:=aB hr
 obtain ⟨aDJ,hr⟩:=aP hr
 obtain ⟨v22,aDw,hr⟩:=aB hr
 obtain ⟨v23,aDv,hr⟩:=aB hr
 obtain ⟨v24,hv24,hr⟩:=aB hr
 try simp only [alH,aDw,aDv,hv24,Option.getD_some,Option.isSome_some,true_and,and_assoc]
 repeat (first | refine gG aDJ ?_ | refine gA ?_ | refine gB ?_)
 refine S.prune [1,3,6,11,12] ?_
 refine S.gw [2] ?_
 refine iW hr (λhc hr=>D0 hr) λhc hr=> ?_
 refine gr ?_
 refine S.lp ?_
 refine S.gx [2,6] ?_
 obtain ⟨v25,hv25,hr⟩:=aB hr
 obtain ⟨aDK,hr⟩:=aP hr
 obtain ⟨v26,aDu,hr⟩:=aB hr
 obtain ⟨v27,hv27,hr⟩:=aB hr
 obtain ⟨v28,hv28,hr⟩:=aB hr
 try simp only [hv25,aDu,hv27,hv28,Option.getD_some,Option.isSome_some,true_and,and_assoc]
 repeat (first | refine gG aDK ?_ | refine gA ?_ | refine gB ?_)
 refine S.prune [1,3,6,11,12] ?_
 refine S.gw [2] ?_
 refine iW hr (λhc hr=>D0 hr) λhc hr=> ?_
 refine gr ?_
 refine S.lp ?_
 refine S.gx [2,6] ?_
 obtain ⟨v29,hv29,hr⟩:=aB hr
 refine gb hv29 ?_
 refine S.lp ?_
 refine S.gw [2,6] ?_
 refine S.lp ?_
 refine S.gw [2,6] ?_
 refine S.lp ?_
 refine S.gw [2,6] ?_
 refine S.lp ?_
 refine S.gw [2,6] ?_
 refine S.lp ?_
 refine S.gx [2,6] ?_
 exact D0 hr
def Y5 (a0:Int):Option (Int):=
 (ML a0).bind λv1=>
  (gW v1 2).bind λv2=>
   some v2
@[go_sem] def axA:=OC mY false Y5
@[go_sem] def apx (k:Nat):=lk [(143,RJ.sp),(170,amH.sp)] k
theorem f300:aF prog 300 axA.sp:=by
 refine vm (tb:=apx) (.cons f143 (.cons f170 .nil)) func300 ntmps300 λa0 r hr stop S=> ?_
 rw [sQ,Y5] at hr
 refine S.gx [] ?_
 exact D0 hr
def abL (x0 x1:Int):Option (Int):=
 (Y5 x0).bind λv1=>
  (Y5 x1).bind λv2=>
   (gW (decide (x0<=x1)) 9).bind λv3=>
    (oL [v1,v2,v3]).bind λv4=>
     if (v4 != 0)=true then
      some v4
      else (gW (decide ((IntKind.i64.wrap (x1 - x0))<=50)) 8).bind λv5=>
       some v5
@[go_sem] def axU:=PN mY false abL
@[go_sem] def apO (k:Nat):=lk [(104,aaK.sp),(143,RJ.sp),(300,axA.sp)] k
theorem f258:aF prog 258 axU.sp:=by
 refine vm (tb:=apO) (.cons f104 (.cons f143 (.cons f300 .nil))) func258 ntmps258 λ⟨x0,x1⟩ r hr stop S=> ?_
 rw [DV,abL] at hr
 refine S.gx [] ?_
 exact D0 hr
def Oh (a0:aA):Bd Int Int:=λs1=>
 if (decide (s1<(a0.length:Int)))=true then
  if 0<=s1/\s1<(a0.length:Int) then
   aW (abL ((a0.getD s1.toNat default).1) ((a0.getD s1.toNat default).2)) λv1=>
    if (v1 != 0)=true then
     .out (some v1)
     else .next (IntKind.i64.wrap (s1+1))
   else .out none
  else .out (some 0)
def ab1 (a0:aA):Option (Int):=
 if (decide ((a0.length:Int)>200))=true then
  some 8
  else aK (Oh a0) 1000000000 0
@[go_sem] def ayk:=qT5 mY false ab1
@[go_sem] def ap7 (k:Nat):=lk [(258,axU.sp)] k
theorem f201:aF prog 201 ayk.sp:=by
 refine vm (tb:=ap7) (.cons f258 .nil) func201 ntmps201 λa0 r hr stop S=> ?_
 rw [sQ,ab1] at hr
 refine S.gx [] ?_
 refine gr ?_
 refine iW hr (λhc hr=>D0 hr) λhc hr=> ?_
 refine gr ?_
 refine S.li [9,10,11] [] [] (λs1=>⟨[(9,.c (.d (aj 2 aQ a0))),sI 10 (a0.length:Int),sI 11 s1],[],[]⟩) (Oh a0) (λq=>q=r) hr rfl ?_
 intro s1 hr
 unfold Oh at hr
 refine S.gx [] ?_
 exact D1 (S.ss [9,10,11] [] []) hr
def akj (x0 x2 x3 x4 x1:Int):Option (Bool):=
 some (decide (x0<=x1))
@[go_sem] def axJ:=auu qV false akj
theorem f280:aF prog 280 axJ.sp:=by
 refine vm .nil func280 ntmps280 λ⟨x0,x2,x3,x4,x1⟩ r hr stop S=> ?_
 rw [uq5,akj] at hr
 refine S.gx [] ?_
 exact D0 hr
def Og (x0:aT) (a1:Int):Bd Int (Option (Int×Int×Int×Int)):=λs1=>
 if (decide (s1>=0))=true then
  if 0<=s1/\s1<(x0.length:Int) then
   if 0<=s1/\s1<(x0.length:Int) then
    aW (akj ((x0.getD s1.toNat default).1) ((x0.getD s1.toNat default).2.1) ((x0.getD s1.toNat default).2.2.1) ((x0.getD s1.toNat default).2.2.2) a1) λv1=>
     if v1=true then
      if 0<=s1/\s1<(x0.length:Int) then
       .out (some (some ((x0.getD s1.toNat default).1,(x0.getD s1.toNat default).2.1,(x0.getD s1.toNat default).2.2.1,(x0.getD s1.toNat default).2.2.2)))
       else .out none
      else .next (IntKind.i64.wrap (s1 - 1))
    else .out none
   else .out none
  else .out (some none)
def abU (x0:aT) (x1:aG) (x2:aJ) (x3:aA) (x4 x5 x6 x7 a1:Int):Option ((Option (Int×Int×Int×Int))):=
 aK (Og x0 a1) 1000000000 (IntKind.i64.wrap ((x0.length:Int) - 1))
@[go_sem] def ax8:=Zo asq true abU
@[go_sem] def aik (k:Nat):=lk [(280,axJ.sp)] k
theorem zC:fM prog aik:= .cons f280 .nil
theorem f226:aF prog 226 ax8.sp:=by
 refine vm (tb:=aik) (.cons f280 .nil) func226 ntmps226 λ⟨x0,x1,x2,x3,x4,x5,x6,x7,a1⟩ r hr stop S=> ?_
 rw [RY,abU] at hr
 refine S.gx [1] ?_
 refine gr ?_
 refine S.inl 4 [4] [] func279 (by decide) rfl ntmps279 (λcx e=>bD cZ zC cx e) (some 9) rfl rfl rfl rfl (nL rfl) (nL rfl) ?_
 refine gs ?_
 refine gr ?_
 intro stop1 S1
 refine S1.gw [1,3] ?_
 refine S1.inl 1 [2,3,4] [] func304 (by decide) rfl ntmps304 (λcx e=>bD cZ zC cx e) (some 7) rfl rfl rfl rfl (nL rfl) (nL rfl) ?_
 refine gs ?_
 refine gr ?_
 intro stop2 S2
 refine S2.gw [] ?_
 refine S1.gw [1,3] ?_
 refine S1.range [2,3,4] func320 (by decide) rfl ntmps320 results320 (λcx e=>bD cZ zC cx e) (λcx e=>bD cZ zC cx e) (by decide) rfl rfl (nL rfl) ?_
 intro l2 stop2 aj1 S2 SJ2 Y2
 refine S2.gw [3] ?_
 refine S2.li [0,1,3] [(1,1),(100002,100002),(100003,100003),(4,4),(3,3)] [] (λs1=>⟨[(0,.c (.Yw l2)),sR 1 1,sI 3 s1],[(1,[.d (aj 4 bV x0)]),(100002,[.d (aj 4 bV x0)]),(100003,[.clo 280 [.ref 3 0]]),(4,[.d (yM bV none)]),(3,[iC a1])],[]⟩) (Og x0 a1) (λq=>q=r) hr rfl ?_
 intro s1 hr
 unfold Og at hr
 refine S2.gw [3] ?_
 refine gJ hr (λhc hr=> ?_) λhc hr=> ?_
 ·refine gr ?_
  refine Y2 6 [0,1,3] (some 17) rfl rfl rfl rfl (nL rfl) (by rfl) ?_
  refine gs ?_
  obtain ⟨hg4,hr⟩:=aH hr
  refine gr ?_
  intro aj2 SA3
  refine SA3.gw [] ?_
  intro O7 S3
  refine S3.gw [1,3] ?_
  refine S3.gx [1] ?_
  obtain ⟨hg3,hr⟩:=aH hr
  obtain ⟨v1,hv1,hr⟩:=bf hr
  refine gb hv1 ?_
  refine gr ?_
  refine gJ hr (λhc hr=> ?_) λhc hr=> ?_
  ·obtain ⟨hg2,hr⟩:=aH hr
   refine gr ?_
   refine (SJ2 .ret).gx [3] ?_
   refine gr ?_
   have hr:=bT hr
   refine S1.gw [1,3] ?_
   refine S.gx [1] ?_
   exact D0 hr
  refine S2.gx [3] ?_
  exact D1 (S2.ss [0,1,3] [(1,1),(100002,100002),(100003,100003),(4,4),(3,3)] []) hr
 refine gr ?_
 have hr:=bT hr
 refine S1.gw [1,3] ?_
 refine S.gx [1] ?_
 exact D0 hr
def Bf (a0:Int):Option (Int):=
 some (if 1000000<a0 then 1000000 else a0)
@[go_sem] def ah0:=OC mY false Bf
theorem f330:aF prog 330 ah0.sp:=by
 refine vm .nil func330 ntmps330 λa0 r hr stop S=> ?_
 rw [sQ,Bf] at hr
 refine S.gx [] ?_
 exact D0 hr
def Y0 (a0 a1 x1 x2 x3 x0:Int):Option (Int):=
 if (decide (a1>0))=true then
  some (if 100000<IntKind.i64.wrap (a0+x0) then 100000 else IntKind.i64.wrap (a0+x0))
  else some (if 100000<a0 then 100000 else a0)
@[go_sem] def axl:=aut mY false Y0
theorem f331:aF prog 331 axl.sp:=by
 refine vm .nil func331 ntmps331 λ⟨a0,a1,x1,x2,x3,x0⟩ r hr stop S=> ?_
 rw [uq6,Y0] at hr
 refine S.gx [] ?_
 exact D0 hr
def Y4 (x4 x5 x12 cO x6 x7 x8 x9 x14 x15 x10 x11 x16 x17 x2 x0 x1 x3:Int):Option (Int×Int×Int×Int×Int×Int×Int×Int×Int×Int×Int×Int×Int×Int):=
 (Bf (IntKind.i64.wrap ((IntKind.i64.wrap (x4+x6))+x8))).bind λv1=>
  (Bf (IntKind.i64.wrap ((IntKind.i64.wrap (x5+x7))+x9))).bind λv2=>
   (Y0 x10 (IntKind.i64.wrap (1000000 - (if 0<IntKind.i64.wrap (v2 - x0) then IntKind.i64.wrap (v2 - x0) else 0))) x2 x0 x1 x3).bind λv3=>
    (Y0 x11 (IntKind.i64.wrap (1000000 - (if 0<IntKind.i64.wrap (v1 - x1) then IntKind.i64.wrap (v1 - x1) else 0))) x2 x0 x1 x3).bind λv4=>
     some ((if 0<IntKind.i64.wrap (v1 - x1) then IntKind.i64.wrap (v1 - x1) else 0),(if 0<IntKind.i64.wrap (v2 - x0) then IntKind.i64.wrap (v2 - x0) else 0),IntKind.i64.wrap (1000000 - (if 0<IntKind.i64.wrap (v2 - x0) then IntKind.i64.wrap (v2 - x0) else 0)),IntKind.i64.wrap (1000000 - (if 0<IntKind.i64.wrap (v1 - x1) then IntKind.i64.wrap (v1 - x1) else 0)),0,0,0,0,0,0,v3,v4,0,0)
@[go_sem] def axq:=aus MP false Y4
@[go_sem] def apt (k:Nat):=lk [(330,ah0.sp),(331,axl.sp)] k
theorem f316:aF prog 316 axq.sp:=by
 refine vm (tb:=apt) (.cons f330 (.cons f331 .nil)) func316 ntmps316 λ⟨x4,x5,x12,cO,x6,x7,x8,x9,x14,x15,x10,x11,x16,x17,x2,x0,x1,x3⟩ r hr stop S=> ?_
 rw [anF,Y4] at hr
 refine S.gx [3,7] ?_
 obtain ⟨v1,hv1,hr⟩:=aB hr
 obtain ⟨v2,hv2,hr⟩:=aB hr
 refine gb hv1 ?_
 refine gb hv2 ?_
 refine S.prune [2,3,4,5,6] ?_
 refine S.gw [7] ?_
 obtain ⟨v3,hv3,hr⟩:=aB hr
 obtain ⟨v4,hv4,hr⟩:=aB hr
 refine gb hv3 ?_
 refine gb hv4 ?_
 refine S.prune [4,6] ?_
 refine S.gx [3] ?_
 exact D0 hr
def aki (x0 x2 x3 x4 x5 x1:Int):Option (Bool):=
 some (decide (x0>=x1))
@[go_sem] def axI:=aur qV false aki
theorem f282:aF prog 282 axI.sp:=by
 refine vm .nil func282 ntmps282 λ⟨x0,x2,x3,x4,x5,x1⟩ r hr stop S=> ?_
 rw [uq6,aki] at hr
 refine S.gx [] ?_
 exact D0 hr
end Go.Proofs.YtnepigpnlnmlmaaGreatDoor

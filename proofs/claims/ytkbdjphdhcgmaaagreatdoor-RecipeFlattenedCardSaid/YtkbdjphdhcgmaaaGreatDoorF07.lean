/- Contracts of functions, written by wip/dec. -/
import Derived.Test.YtkbdjphdhcgmaaaGreatDoorF00
import Derived.Test.YtkbdjphdhcgmaaaGreatDoorF05
set_option linter.unusedVariables false
set_option linter.unusedSimpArgs false
set_option linter.constructorNameAsVariable false
set_option maxHeartbeats 4000000
set_option maxRecDepth 20000
namespace Go.Proofs.YtkbdjphdhcgmaaaGreatDoor
open Go.dR
section
variable {β:Type} [Inhabited β] (u:β->List RV) (al:Bool)
def apG (a0 a1 a2 a3 a4 a5 a6:Int):List Arg:=[.agg [.int .i64 a0,.int .i64 a1,.int .i64 a2,.int .i64 a3,.int .i64 a4,.int .i64 a5,.int .i64 a6]]
def arl:List Arg->Int×Int×Int×Int×Int×Int×Int
 | [.agg [c0,c1,c2,c3,c4,c5,c6]]=>(aC c0,aC c1,aC c2,aC c3,aC c4,aC c5,aC c6)
 | _=>default
def ae6 (r:Int->Int->Int->Int->Int->Int->Int->Option β):=mkT (u7 apG) arl (u7 r) u al
attribute [go_sem] apG arl ae6
def apF (a0 a1 a2 a3 a4 a5 a6 a7 a8 a9 a10 a11 a12 jL:Int):List Arg:=[.agg [.int .i64 a0,.int .i64 a1,.int .i64 a2,.int .i64 a3,.int .i64 a4,.int .i64 a5,.int .i64 a6,.int .i64 a7,.int .i64 a8,.int .i64 a9,.int .i64 a10,.int .i64 a11,.int .i64 a12,.int .i64 jL]]
def ark:List Arg->Int×Int×Int×Int×Int×Int×Int×Int×Int×Int×Int×Int×Int×Int
 | [.agg [c0,c1,c2,c3,c4,c5,c6,c7,c8,c9,c10,c11,c12,c13]]=>(aC c0,aC c1,aC c2,aC c3,aC c4,aC c5,aC c6,aC c7,aC c8,aC c9,aC c10,aC c11,aC c12,aC c13)
 | _=>default
def ai0 (r:Int->Int->Int->Int->Int->Int->Int->Int->Int->Int->Int->Int->Int->Int->Option β):=mkT (u14 apF) ark (u14 r) u al
attribute [go_sem] apF ark ai0
def apE (a0 a1 a2 a3 a4:Int):List Arg:=[.agg [.int .i64 a0,.int .i64 a1,.int .i64 a2,.int .i64 a3],.ptr [.int .i64 a4]]
def arj:List Arg->Int×Int×Int×Int×Int
 | [.agg [c0,c1,c2,c3],.ptr [c4]]=>(aC c0,aC c1,aC c2,aC c3,aC c4)
 | _=>default
def asB (r:Int->Int->Int->Int->Int->Option β):=mkT (u5 apE) arj (u5 r) u al
attribute [go_sem] apE arj asB
def apC (a0 a1 a2 a3 a4 a5:Int):List Arg:=[.c (.int .i64 a0),.c (.int .i64 a1),.ptr [.int .i64 a2,.int .i64 a3,.int .i64 a4,.int .i64 a5]]
def arh:List Arg->Int×Int×Int×Int×Int×Int
 | [.c c0,.c c1,.ptr [c2,c3,c4,c5]]=>(aC c0,aC c1,aC c2,aC c3,aC c4,aC c5)
 | _=>default
def asA (r:Int->Int->Int->Int->Int->Int->Option β):=mkT (u6 apC) arh (u6 r) u al
attribute [go_sem] apC arh asA
def apB (a0 a1 a2 a3 a4 a5 a6 a7 a8 a9 a10 a11 a12 jL kE kC a16 a17:Int):List Arg:=[.agg [.int .i64 a0,.int .i64 a1,.int .i64 a2,.int .i64 a3,.int .i64 a4,.int .i64 a5,.int .i64 a6,.int .i64 a7,.int .i64 a8,.int .i64 a9,.int .i64 a10,.int .i64 a11,.int .i64 a12,.int .i64 jL],.agg [.int .i64 kE,.int .i64 kC,.int .i64 a16,.int .i64 a17]]
def arf:List Arg->Int×Int×Int×Int×Int×Int×Int×Int×Int×Int×Int×Int×Int×Int×Int×Int×Int×Int
 | [.agg [c0,c1,c2,c3,c4,c5,c6,c7,c8,c9,c10,c11,c12,c13],.agg [c14,c15,c16,c17]]=>(aC c0,aC c1,aC c2,aC c3,aC c4,aC c5,aC c6,aC c7,aC c8,aC c9,aC c10,aC c11,aC c12,aC c13,aC c14,aC c15,aC c16,aC c17)
 | _=>default
def asz (r:Int->Int->Int->Int->Int->Int->Int->Int->Int->Int->Int->Int->Int->Int->Int->Int->Int->Int->Option β):=mkT (u18 apB) arf (u18 r) u al
attribute [go_sem] apB arf asz
def aqv (v:aj×Int):List RV:=[.c (.own (ah 1 aQ v.1)),.c (.d (.int .i64 v.2))]
attribute [go_sem] aqv
def aqu (v:Int×Int×Int×Int×Int×Int×Int×Int×Int×Int×Int×Int×Int×Int×Int):List RV:=[.agg [.d (.int .i64 v.1),.d (.int .i64 v.2.1),.d (.int .i64 v.2.2.1),.d (.int .i64 v.2.2.2.1),.d (.int .i64 v.2.2.2.2.1),.d (.int .i64 v.2.2.2.2.2.1),.d (.int .i64 v.2.2.2.2.2.2.1),.d (.int .i64 v.2.2.2.2.2.2.2.1),.d (.int .i64 v.2.2.2.2.2.2.2.2.1),.d (.int .i64 v.2.2.2.2.2.2.2.2.2.1),.d (.int .i64 v.2.2.2.2.2.2.2.2.2.2.1),.d (.int .i64 v.2.2.2.2.2.2.2.2.2.2.2.1),.d (.int .i64 v.2.2.2.2.2.2.2.2.2.2.2.2.1),.d (.int .i64 v.2.2.2.2.2.2.2.2.2.2.2.2.2.1)],.c (.d (.int .i64 v.2.2.2.2.2.2.2.2.2.2.2.2.2.2))]
attribute [go_sem] aqu
def aqt (v:Int×Int×Int×Int×Int×Int×Int×Int):List RV:=[.agg [.d (.int .i64 v.1),.d (.int .i64 v.2.1),.d (.int .i64 v.2.2.1),.d (.int .i64 v.2.2.2.1),.d (.int .i64 v.2.2.2.2.1),.d (.int .i64 v.2.2.2.2.2.1),.d (.int .i64 v.2.2.2.2.2.2.1),.d (.int .i64 v.2.2.2.2.2.2.2)]]
attribute [go_sem] aqt
def aqs (v:(Option (Int×Int×Int×Int))):List RV:=[.c (.d (wF dh v))]
attribute [go_sem] aqs
end
def acU (x0 x1:Int) (x2:au) (x3:aj) (x4 x5:bn) (x6:au) (x7 x8:Int) (v2:iU×Int) (s1:Int×(List (au))):Bd (Int×(List (au))) (cO (Int×(List (au))) (aj×Int)):=fun s2=>
 if (decide (s2.1<(s1.2.length:Int)))=true then
  if 0<=s2.1/\s2.1<(s2.2.length:Int) then
   if 0<=s2.1/\s2.1<(((v2.1.getD s1.1.toNat default).1).length:Int) then
    if 0<=s2.1/\s2.1<(((v2.1.getD s1.1.toNat default).2).length:Int) then
     aP (aiS x0 x1 x2 x3 x4 x5 x6 x7 x8 (((v2.1.getD s1.1.toNat default).1).getD s2.1.toNat default) (((v2.1.getD s1.1.toNat default).2).getD s2.1.toNat default)) fun v3=>
      if ((s2.2.getD s2.1.toNat default).length+1)*16<=140737488355328/\(s2.2.getD s2.1.toNat default).length+1<=9223372036854775807 then
       if 0<=s2.1/\s2.1<(s2.2.length:Int) then
        .next (IntKind.i64.wrap (s2.1+1),s2.2.set s2.1.toNat ((s2.2.getD s2.1.toNat default)++[(v3.1,v3.2)]))
        else .out none
       else .out none
     else .out none
    else .out none
   else .out none
  else .out (some (.next (IntKind.i64.wrap (s1.1+1),s2.2)))
def acV (x0 x1:Int) (x2:au) (x3:aj) (x4 x5:bn) (x6:au) (x7 x8:Int) (v2:iU×Int):Bd (Int×(List (au))) (aj×Int):=fun s1=>
 if (decide (s1.1<(v2.1.length:Int)))=true then
  if 0<=s1.1/\s1.1<(v2.1.length:Int) then
   (aS (acU x0 x1 x2 x3 x4 x5 x6 x7 x8 v2 s1) 1000000000 (0,s1.2)).getD (.out none)
   else .out none
  else .out (some (s1.2,0))
def r83 (x0 x1:Int) (x2:au) (x3:aj) (x4 x5:bn) (x6:au) (x7 x8:Int) (a1:au):Option (aj×Int):=
 (aiT x0 x1 x2 x3 x4 x5 x6 x7 x8 a1).bind fun v1=>
  (aiU x0 x1 x2 x3 x4 x5 v1).bind fun v2=>
   if (v2.2 != 0)=true then
    some ([],v2.2)
    else if 0<=x0/\x0<=x0/\x0<=9223372036854775807/\24*x0<=281474976710656 then
     aS (acV x0 x1 x2 x3 x4 x5 x6 x7 x8 v2) 1000000000 (0,List.replicate x0.toNat [])
     else none
@[go_sem] def T83:=ae7 aqv true r83
@[go_sem] def azL (k:Nat):=lk [(121,awq.sp),(122,awp.sp),(123,awo.sp)] k
theorem f83:aF Tryz.prog 83 T83.sp:=by
 refine vm (tb:=azL) (.cons f121 (.cons f122 (.cons f123 .nil))) Tryz.func83 Tryz.ntmps83 fun ⟨x0,x1,x2,x3,x4,x5,x6,x7,x8,a1⟩ r hr stop S=> ?_
 rw [KY,r83] at hr
 refine S.gx [14] ?_
 obtain ⟨v1,hv1,hr⟩:=aA hr
 obtain ⟨v2,hv2,hr⟩:=aA hr
 refine gb hv1 ?_
 refine gb hv2 ?_
 refine iW hr (fun hc hr=>D0 hr) fun hc hr=> ?_
 obtain ⟨uX,hr⟩:=aN hr
 refine gr ?_
 refine S.Po 32 2 32 rfl rfl rfl (of_eq_true (Iz _ _)) ?_
 refine S.sees [2,8,33,34,35] [(2,2)] [(32,32),(22,22)] ?_ (Stop.iter S (fun s1=>⟨[(2,.c (.ref 2 0)),(8,.c (.own 32)),(33,.c (.own 22)),(34,.c (.d (.int .i64 (v2.1.length:Int)))),(35,.c (.d (.int .i64 s1.1)))],[(2,[.d (.int .i64 x0),.d (.int .i64 x1),.d (ah 2 aT x2),.d (ah 1 aQ x3),.d (ah 1 cu x4),.d (ah 1 cu x5),.d (ah 2 aT x6),.d (.int .i64 x7),.d (.int .i64 x8)])],[(32,.deep (ah 1 aQ s1.2)),(22,.owned (ah 2 iT v2.1))]⟩) (acV x0 x1 x2 x3 x4 x5 x6 x7 x8 v2) (fun q=>q=r) hr rfl ?_)
 ·exact lf
 ·intro s1 hr
  unfold acV at hr
  refine S.gx [14] ?_
  refine gr ?_
  refine cZ hr (fun hc hr=> ?_) fun hc hr=> ?_
  ·obtain ⟨Nk,hr⟩:=aB hr
   refine gr ?_
   obtain ⟨q2,hq,hr⟩:=gV hr
   refine S.sees [2,8,10,33,34,35,40,41] [(2,2),(10,10)] [(32,32),(22,22)] ?_ (Stop.iter S (fun s2=>⟨[(2,.c (.ref 2 0)),(8,.c (.own 32)),(10,.c (.ref 10 0)),(33,.c (.own 22)),(34,.c (.d (.int .i64 (v2.1.length:Int)))),(35,.c (.d (.int .i64 s1.1))),(40,.c (.d (.int .i64 (s1.2.length:Int)))),(41,.c (.d (.int .i64 s2.1)))],[(2,[.d (.int .i64 x0),.d (.int .i64 x1),.d (ah 2 aT x2),.d (ah 1 aQ x3),.d (ah 1 cu x4),.d (ah 1 cu x5),.d (ah 2 aT x6),.d (.int .i64 x7),.d (.int .i64 x8)]),(10,[.d (ah 1 cu ((v2.1.getD s1.1.toNat default).1)),.d (ah 1 cu ((v2.1.getD s1.1.toNat default).2))])],[(32,.deep (ah 1 aQ s2.2)),(22,.owned (ah 2 iT v2.1))]⟩) (acU x0 x1 x2 x3 x4 x5 x6 x7 x8 v2 s1) _ hq hr ?_)
   ·exact lf
   ·intro s2 hr
    unfold acU at hr
    refine S.gx [14] ?_
    refine gr ?_
    refine cZ hr (fun hc hr=>D1 (S.ss [2,8,10,33,34,35,40,41] [(2,2),(10,10)] [(32,32),(22,22)]) hr) fun hc hr=> ?_
    refine gr ?_
    replace hr:=aU hr
    exact D1 (S.ss [2,8,33,34,35] [(2,2)] [(32,32),(22,22)]) hr
  ·refine gr ?_
   have hr:=bK hr
   refine gr ?_
   refine S.Pg 32 (ah 1 aQ s1.2) rfl ?_ ?_
   ·exact lf
   refine S.gx [] ?_
   exact D0 hr
def aiR (x5 x0 x1 x2 x3 x4 x6:Int):Option (Int):=
 (jw x5).bind fun v1=>
  if v1=true->(jw x0).isSome=true then
   if (v1 && ((jw x0).getD default))=true->(jw x1).isSome=true then
    if ((v1 && ((jw x0).getD default)) && ((jw x1).getD default))=true->(jw x2).isSome=true then
     if (((v1 && ((jw x0).getD default)) && ((jw x1).getD default)) && ((jw x2).getD default))=true->(jw x3).isSome=true then
      if ((((v1 && ((jw x0).getD default)) && ((jw x1).getD default)) && ((jw x2).getD default)) && ((jw x3).getD default))=true->(jR x4 0 100000).isSome=true then
       if (((((v1 && ((jw x0).getD default)) && ((jw x1).getD default)) && ((jw x2).getD default)) && ((jw x3).getD default)) && ((jR x4 0 100000).getD default))=true->(jR x6 0 1000000).isSome=true then
        if (!((((((v1 && ((jw x0).getD default)) && ((jw x1).getD default)) && ((jw x2).getD default)) && ((jw x3).getD default)) && ((jR x4 0 100000).getD default)) && ((jR x6 0 1000000).getD default)))=true then
         some 2
         else (iH ((IntKind.i64.wrap ((IntKind.i64.wrap ((IntKind.i64.wrap (x5+x0))+x1))+x2)) == 1000000) 3).bind fun v2=>
          some v2
        else none
       else none
      else none
     else none
    else none
   else none
@[go_sem] def awn:=ae6 lC false aiR
@[go_sem] def aow (k:Nat):=lk [(129,OJ.sp),(166,Za.sp),(172,agi.sp)] k
theorem f124:aF Tryz.prog 124 awn.sp:=by
 refine vm (tb:=aow) (.cons f129 (.cons f166 (.cons f172 .nil))) Tryz.func124 Tryz.ntmps124 fun ⟨x5,x0,x1,x2,x3,x4,x6⟩ r hr stop S=> ?_
 rw [KO,aiR] at hr
 refine S.gx [2] ?_
 obtain ⟨v1,hv1,hr⟩:=aA hr
 obtain ⟨hg3,hr⟩:=aN hr
 obtain ⟨hg4,hr⟩:=aN hr
 obtain ⟨hg5,hr⟩:=aN hr
 obtain ⟨Zg,hr⟩:=aN hr
 obtain ⟨Wx,hr⟩:=aN hr
 obtain ⟨Wv,hr⟩:=aN hr
 try simp only [hv1,oG,oI,true_and,and_assoc]
 repeat (first | refine gG hg3 ?_ | refine gG hg4 ?_ | refine gG hg5 ?_ | refine gG Zg ?_ | refine gG Wx ?_ | refine gG Wv ?_ | refine gA ?_ | refine gB ?_)
 refine S.prune [1,3] ?_
 refine S.gx [] ?_
 exact D0 hr
def Je (a0:Int):Option (Int×Int):=
 some (a0,a0)
@[go_sem] def avR:=KQ qu7 false Je
theorem f173:aF Tryz.prog 173 avR.sp:=by
 refine vm .nil Tryz.func173 Tryz.ntmps173 fun a0 r hr stop S=> ?_
 rw [oC,Je] at hr
 refine S.gx [] ?_
 exact D0 hr
def aiQ (x0 x1 x2 x3 x4 x5 x6:Int):Option (Int×Int×Int×Int×Int×Int×Int×Int×Int×Int×Int×Int×Int×Int):=
 (Je x0).bind fun v1=>
  (Je x1).bind fun v2=>
   (Je x2).bind fun v3=>
    (Je x3).bind fun v4=>
     (Je x4).bind fun v5=>
      (Je x5).bind fun v6=>
       (Je x6).bind fun v7=>
        some (v1.1,v1.2,v2.1,v2.2,v3.1,v3.2,v4.1,v4.2,v5.1,v5.2,v6.1,v6.2,v7.1,v7.2)
@[go_sem] def awm:=ae6 Jh false aiQ
@[go_sem] def aov (k:Nat):=lk [(173,avR.sp)] k
theorem f125:aF Tryz.prog 125 awm.sp:=by
 refine vm (tb:=aov) (.cons f173 .nil) Tryz.func125 Tryz.ntmps125 fun ⟨x0,x1,x2,x3,x4,x5,x6⟩ r hr stop S=> ?_
 rw [KO,aiQ] at hr
 refine S.gx [] ?_
 exact D0 hr
def r84 (x0 x1 x2 x3 x4 x5 x6:Int):Option (Int×Int×Int×Int×Int×Int×Int×Int×Int×Int×Int×Int×Int×Int×Int):=
 (aiR x0 x1 x2 x3 x4 x5 x6).bind fun v1=>
  if (v1 != 0)=true then
   some (0,0,0,0,0,0,0,0,0,0,0,0,0,0,v1)
   else (aiQ x0 x1 x2 x3 x4 x5 x6).bind fun v2=>
    some (v2.1,v2.2.1,v2.2.2.1,v2.2.2.2.1,v2.2.2.2.2.1,v2.2.2.2.2.2.1,v2.2.2.2.2.2.2.1,v2.2.2.2.2.2.2.2.1,v2.2.2.2.2.2.2.2.2.1,v2.2.2.2.2.2.2.2.2.2.1,v2.2.2.2.2.2.2.2.2.2.2.1,v2.2.2.2.2.2.2.2.2.2.2.2.1,v2.2.2.2.2.2.2.2.2.2.2.2.2.1,v2.2.2.2.2.2.2.2.2.2.2.2.2.2,0)
@[go_sem] def T84:=ae6 aqu false r84
@[go_sem] def azK (k:Nat):=lk [(124,awn.sp),(125,awm.sp)] k
theorem f84:aF Tryz.prog 84 T84.sp:=by
 refine vm (tb:=azK) (.cons f124 (.cons f125 .nil)) Tryz.func84 Tryz.ntmps84 fun ⟨x0,x1,x2,x3,x4,x5,x6⟩ r hr stop S=> ?_
 rw [KO,r84] at hr
 refine S.gx [] ?_
 exact D0 hr
def aiP (x0:bD) (x1:aY) (x2:bC) (x3:au) (x4 x5 x6 x7:Int):Option (Int):=
 (ae0 x0 x1 x2 x3 x4 x5 x6 x7).bind fun v1=>
  some v1.2
@[go_sem] def awl:=ae8 lC false aiP
@[go_sem] def aou (k:Nat):=lk [(119,ak9.sp)] k
theorem f127:aF Tryz.prog 127 awl.sp:=by
 refine vm (tb:=aou) (.cons f119 .nil) Tryz.func127 Tryz.ntmps127 fun ⟨x0,x1,x2,x3,x4,x5,x6,x7⟩ r hr stop S=> ?_
 rw [uq8,aiP] at hr
 refine S.gx [] ?_
 exact D0 hr
def aeU (x0 x1 x2 x3 x4 x5 x6 x7 x8 x9 x10 x11 x12 dO:Int):Option (Int×Int×Int×Int×Int×Int×Int×Int):=
 some (x0,x1,x2,x3,x4,x5,x6,x7)
@[go_sem] def ak1:=ai0 aqt false aeU
theorem f175:aF Tryz.prog 175 ak1.sp:=by
 refine vm .nil Tryz.func175 Tryz.ntmps175 fun ⟨x0,x1,x2,x3,x4,x5,x6,x7,x8,x9,x10,x11,x12,dO⟩ r hr stop S=> ?_
 rw [ahU,aeU] at hr
 refine S.gx [] ?_
 exact D0 hr
def aiO (x7 x0 x8 x1 x9 x2 x10 x3 x11 x4 x12 x5 dO x6:Int):Option (Int):=
 (jR x7 0 1000000).bind fun v1=>
  if v1=true->(jR x0 0 1000000).isSome=true then
   (iH (v1 && ((jR x0 0 1000000).getD default)) 2).bind fun v2=>
    (iH (decide (x7<=x0)) 9).bind fun v3=>
     (rZ [v2,v3]).bind fun v4=>
      if (v4 != 0)=true then
       some v4
       else (jR x8 0 1000000).bind fun v5=>
        if v5=true->(jR x1 0 1000000).isSome=true then
         (iH (v5 && ((jR x1 0 1000000).getD default)) 2).bind fun v6=>
          (iH (decide (x8<=x1)) 9).bind fun v7=>
           (rZ [v6,v7]).bind fun v8=>
            if (v8 != 0)=true then
             some v8
             else (jR x9 0 1000000).bind fun v9=>
              if v9=true->(jR x2 0 1000000).isSome=true then
               (iH (v9 && ((jR x2 0 1000000).getD default)) 2).bind fun v10=>
                (iH (decide (x9<=x2)) 9).bind fun v11=>
                 (rZ [v10,v11]).bind fun v12=>
                  if (v12 != 0)=true then
                   some v12
                   else (jR x10 0 1000000).bind fun v13=>
                    if v13=true->(jR x3 0 1000000).isSome=true then
                     (iH (v13 && ((jR x3 0 1000000).getD default)) 2).bind fun v14=>
                      (iH (decide (x10<=x3)) 9).bind fun v15=>
                       (rZ [v14,v15]).bind fun v16=>
                        if (v16 != 0)=true then
                         some v16
                         else (jR x11 0 1000000).bind fun v17=>
                          if v17=true->(jR x4 0 1000000).isSome=true then
                           (iH (v17 && ((jR x4 0 1000000).getD default)) 2).bind fun v18=>
                            (iH (decide (x11<=x4)) 9).bind fun v19=>
                             (rZ [v18,v19]).bind fun v20=>
                              if (v20 != 0)=true then
                               some v20
                               else (jR x12 0 100000).bind fun v21=>
                                if v21=true->(jR x5 0 100000).isSome=true then
                                 (iH (v21 && ((jR x5 0 100000).getD default)) 2).bind fun v22=>
                                  (iH (decide (x12<=x5)) 9).bind fun v23=>
                                   (rZ [v22,v23]).bind fun v24=>
                                    if (v24 != 0)=true then
                                     some v24
                                     else (jR dO 0 1000000).bind fun v25=>
                                      if v25=true->(jR x6 0 1000000).isSome=true then
                                       (iH (v25 && ((jR x6 0 1000000).getD default)) 2).bind fun v26=>
                                        (iH (decide (dO<=x6)) 9).bind fun v27=>
                                         (rZ [v26,v27]).bind fun v28=>
                                          if (v28 != 0)=true then
                                           some v28
                                           else (aeU x7 x0 x8 x1 x9 x2 x10 x3 x11 x4 x12 x5 dO x6).bind fun v29=>
                                            (jR 1000000 (IntKind.i64.wrap ((IntKind.i64.wrap ((IntKind.i64.wrap ((IntKind.i64.wrap (0+v29.1))+v29.2.2.1))+v29.2.2.2.2.1))+v29.2.2.2.2.2.2.1)) (IntKind.i64.wrap ((IntKind.i64.wrap ((IntKind.i64.wrap ((IntKind.i64.wrap (0+v29.2.1))+v29.2.2.2.1))+v29.2.2.2.2.2.1))+v29.2.2.2.2.2.2.2))).bind fun v30=>
                                             (iH v30 12).bind fun v31=>
                                              some v31
                                       else none
                                 else none
                           else none
                     else none
               else none
         else none
   else none
@[go_sem] def awk:=ai0 lC false aiO
@[go_sem] def agz (k:Nat):=lk [(126,Zb.sp),(129,OJ.sp),(166,Za.sp),(175,ak1.sp)] k
theorem Zx:dS Tryz.prog agz:= .cons f126 (.cons f129 (.cons f166 (.cons f175 .nil)))
theorem f128:aF Tryz.prog 128 awk.sp:=by
 refine vm (tb:=agz) (.cons f126 (.cons f129 (.cons f166 (.cons f175 .nil)))) Tryz.func128 Tryz.ntmps128 fun ⟨x7,x0,x8,x1,x9,x2,x10,x3,x11,x4,x12,x5,dO,x6⟩ r hr stop S=> ?_
 rw [ahU,aiO] at hr
 refine S.gx [2,6] ?_
 refine gr ?_
 refine S.inl 0 [1,3] [] Tryz.func174 (by decide) rfl Tryz.ntmps174 (fun cx e=>aX bP Zx cx e) (some 11) rfl rfl rfl rfl (nL rfl) (nL rfl) ?_
 refine gs ?_
 refine gr ?_
 intro stop1 S1
 refine S1.gx [] ?_
 refine gr ?_
 refine gr ?_
 refine S.gx [2,6] ?_
 refine gr ?_
 refine S.lp ?_
 refine S.gx [2,6] ?_
 obtain ⟨v1,hv1,hr⟩:=aA hr
 obtain ⟨aui,hr⟩:=aN hr
 obtain ⟨v2,hv2,hr⟩:=aA hr
 obtain ⟨v3,hv3,hr⟩:=aA hr
 obtain ⟨v4,hv4,hr⟩:=aA hr
 try simp only [hv1,hv2,hv3,hv4,Option.getD_some,Option.isSome_some,true_and,and_assoc]
 repeat (first | refine gG aui ?_ | refine gA ?_ | refine gB ?_)
 refine S.prune [1,3,6,11,12] ?_
 refine S.gx [2] ?_
 refine gr ?_
 refine gr ?_
 refine iW hr (fun hc hr=>D0 hr) fun hc hr=> ?_
 refine gr ?_
 refine S.lp ?_
 refine S.gx [2,6] ?_
 obtain ⟨v5,hv5,hr⟩:=aA hr
 obtain ⟨auj,hr⟩:=aN hr
 obtain ⟨v6,hv6,hr⟩:=aA hr
 obtain ⟨v7,hv7,hr⟩:=aA hr
 obtain ⟨v8,JC,hr⟩:=aA hr
 try simp only [hv5,hv6,hv7,JC,Option.getD_some,Option.isSome_some,true_and,and_assoc]
 repeat (first | refine gG auj ?_ | refine gA ?_ | refine gB ?_)
 refine S.prune [1,3,6,11,12] ?_
 refine S.gx [2] ?_
 refine gr ?_
 refine gr ?_
 refine iW hr (fun hc hr=>D0 hr) fun hc hr=> ?_
 refine gr ?_
 refine S.lp ?_
 refine S.gx [2,6] ?_
 obtain ⟨v9,hv9,hr⟩:=aA hr
 obtain ⟨auk,hr⟩:=aN hr
 obtain ⟨v10,yZ,hr⟩:=aA hr
 obtain ⟨v11,JG,hr⟩:=aA hr
 obtain ⟨v12,JF,hr⟩:=aA hr
 try simp only [hv9,yZ,JG,JF,Option.getD_some,Option.isSome_some,true_and,and_assoc]
 repeat (first | refine gG auk ?_ | refine gA ?_ | refine gB ?_)
 refine S.prune [1,3,6,11,12] ?_
 refine S.gx [2] ?_
 refine gr ?_
 refine gr ?_
 refine iW hr (fun hc hr=>D0 hr) fun hc hr=> ?_
 refine gr ?_
 refine S.lp ?_
 refine S.gx [2,6] ?_
 obtain ⟨v13,abg,hr⟩:=aA hr
 obtain ⟨akf,hr⟩:=aN hr
 obtain ⟨v14,ajZ,hr⟩:=aA hr
 obtain ⟨v15,abf,hr⟩:=aA hr
 obtain ⟨v16,QA,hr⟩:=aA hr
 try simp only [abg,ajZ,abf,QA,Option.getD_some,Option.isSome_some,true_and,and_assoc]
 repeat (first | refine gG akf ?_ | refine gA ?_ | refine gB ?_)
 refine S.prune [1,3,6,11,12] ?_
 refine S.gx [2] ?_
 refine gr ?_
 refine gr ?_
 refine iW hr (fun hc hr=>D0 hr) fun hc hr=> ?_
 refine gr ?_
 refine S.lp ?_
 refine S.gx [2,6] ?_
 obtain ⟨v17,Qz,hr⟩:=aA hr
 obtain ⟨aul,hr⟩:=aN hr
 obtain ⟨v18,Qy,hr⟩:=aA hr
 obtain ⟨v19,JE,hr⟩:=aA hr
 obtain ⟨v20,JD,hr⟩:=aA hr
 try simp only [Qz,Qy,JE,JD,Option.getD_some,Option.isSome_some,true_and,and_assoc]
 repeat (first | refine gG aul ?_ | refine gA ?_ | refine gB ?_)
 refine S.prune [1,3,6,11,12] ?_
 refine S.gx [2] ?_
 refine gr ?_
 refine gr ?_
 refine iW hr (fun hc hr=>D0 hr) fun hc hr=> ?_
 refine gr ?_
 refine S.lp ?_
 refine S.gx [2,6] ?_
 obtain ⟨v21,Qx,hr⟩:=aA hr
 obtain ⟨aBE,hr⟩:=aN hr
 obtain ⟨v22,Qw,hr⟩:=aA hr
 obtain ⟨v23,abe,hr⟩:=aA hr
 obtain ⟨v24,hv24,hr⟩:=aA hr
 try simp only [Qx,Qw,abe,hv24,Option.getD_some,Option.isSome_some,true_and,and_assoc]
 repeat (first | refine gG aBE ?_ | refine gA ?_ | refine gB ?_)
 refine S.prune [1,3,6,11,12] ?_
 refine S.gx [2] ?_
 refine gr ?_
 refine gr ?_
 refine iW hr (fun hc hr=>D0 hr) fun hc hr=> ?_
 refine gr ?_
 refine S.lp ?_
 refine S.gx [2,6] ?_
 obtain ⟨v25,hv25,hr⟩:=aA hr
 obtain ⟨aum,hr⟩:=aN hr
 obtain ⟨v26,Qv,hr⟩:=aA hr
 obtain ⟨v27,hv27,hr⟩:=aA hr
 obtain ⟨v28,hv28,hr⟩:=aA hr
 try simp only [hv25,Qv,hv27,hv28,Option.getD_some,Option.isSome_some,true_and,and_assoc]
 repeat (first | refine gG aum ?_ | refine gA ?_ | refine gB ?_)
 refine S.prune [1,3,6,11,12] ?_
 refine S.gx [2] ?_
 refine gr ?_
 refine gr ?_
 refine iW hr (fun hc hr=>D0 hr) fun hc hr=> ?_
 refine gr ?_
 refine S.lp ?_
 refine S.gx [2,6] ?_
 obtain ⟨v29,hv29,hr⟩:=aA hr
 refine gb hv29 ?_
 refine S.lp ?_
 refine S.gx [2,6] ?_
 refine gr ?_
 refine S.lp ?_
 refine S.gx [2,6] ?_
 refine gr ?_
 refine S.lp ?_
 refine S.gx [2,6] ?_
 refine gr ?_
 refine S.lp ?_
 refine S.gx [2,6] ?_
 refine gr ?_
 refine S.lp ?_
 refine S.gx [2,6] ?_
 exact D0 hr
def aeO (a0:Int):Option (Int):=
 (PX a0).bind fun v1=>
  (iH v1 2).bind fun v2=>
   some v2
@[go_sem] def avz:=KQ lC false aeO
@[go_sem] def anR (k:Nat):=lk [(129,OJ.sp),(198,akZ.sp)] k
theorem f202:aF Tryz.prog 202 avz.sp:=by
 refine vm (tb:=anR) (.cons f129 (.cons f198 .nil)) Tryz.func202 Tryz.ntmps202 fun a0 r hr stop S=> ?_
 rw [oC,aeO] at hr
 refine S.gx [] ?_
 exact D0 hr
def aiF (x0 x1:Int):Option (Int):=
 (aeO x0).bind fun v1=>
  (aeO x1).bind fun v2=>
   (iH (decide (x0<=x1)) 9).bind fun v3=>
    (rZ [v1,v2,v3]).bind fun v4=>
     if (v4 != 0)=true then
      some v4
      else (iH (decide ((IntKind.i64.wrap (x1 - x0))<=50)) 8).bind fun v5=>
       some v5
@[go_sem] def avQ:=Qb lC false aiF
@[go_sem] def an4 (k:Nat):=lk [(126,Zb.sp),(129,OJ.sp),(202,avz.sp)] k
theorem f176:aF Tryz.prog 176 avQ.sp:=by
 refine vm (tb:=an4) (.cons f126 (.cons f129 (.cons f202 .nil))) Tryz.func176 Tryz.ntmps176 fun ⟨x0,x1⟩ r hr stop S=> ?_
 rw [yI,aiF] at hr
 refine S.gx [] ?_
 exact D0 hr
def SY (a0:au):Bd Int Int:=fun s1=>
 if (decide (s1<(a0.length:Int)))=true then
  if 0<=s1/\s1<(a0.length:Int) then
   aP (aiF ((a0.getD s1.toNat default).1) ((a0.getD s1.toNat default).2)) fun v1=>
    if (v1 != 0)=true then
     .out (some v1)
     else .next (IntKind.i64.wrap (s1+1))
   else .out none
  else .out (some 0)
def aiN (a0:au):Option (Int):=
 if (decide ((a0.length:Int)>200))=true then
  some 8
  else aS (SY a0) 1000000000 0
@[go_sem] def awj:=qT5 lC false aiN
@[go_sem] def aot (k:Nat):=lk [(176,avQ.sp)] k
theorem f130:aF Tryz.prog 130 awj.sp:=by
 refine vm (tb:=aot) (.cons f176 .nil) Tryz.func130 Tryz.ntmps130 fun a0 r hr stop S=> ?_
 rw [oC,aiN] at hr
 refine S.gx [] ?_
 refine gr ?_
 refine iW hr (fun hc hr=>D0 hr) fun hc hr=> ?_
 refine gr ?_
 refine S.sees [9,10,11] [] [] ?_ (Stop.iter S (fun s1=>⟨[(9,.c (.d (ah 2 aT a0))),(10,.c (.d (.int .i64 (a0.length:Int)))),(11,.c (.d (.int .i64 s1)))],[],[]⟩) (SY a0) (fun q=>q=r) hr rfl ?_)
 ·exact lf
 ·intro s1 hr
  unfold SY at hr
  refine S.gx [] ?_
  exact D1 (S.ss [9,10,11] [] []) hr
def aiq (x0 x2 x3 x4 x1:Int):Option (Bool):=
 some (decide (x0<=x1))
@[go_sem] def avk:=asB oQ false aiq
theorem f234:aF Tryz.prog 234 avk.sp:=by
 refine vm .nil Tryz.func234 Tryz.ntmps234 fun ⟨x0,x2,x3,x4,x1⟩ r hr stop S=> ?_
 rw [uq5,aiq] at hr
 refine S.gx [] ?_
 exact D0 hr
def Sm (x0:bD) (a1:Int):Bd Int (Option (Int×Int×Int×Int)):=fun s1=>
 if (decide (s1>=0))=true then
  if 0<=s1/\s1<(x0.length:Int) then
   if 0<=s1/\s1<(x0.length:Int) then
    aP (aiq ((x0.getD s1.toNat default).1) ((x0.getD s1.toNat default).2.1) ((x0.getD s1.toNat default).2.2.1) ((x0.getD s1.toNat default).2.2.2) a1) fun v1=>
     if v1=true then
      if 0<=s1/\s1<(x0.length:Int) then
       .out (some (some ((x0.getD s1.toNat default).1,(x0.getD s1.toNat default).2.1,(x0.getD s1.toNat default).2.2.1,(x0.getD s1.toNat default).2.2.2)))
       else .out none
      else .next (IntKind.i64.wrap (s1 - 1))
    else .out none
   else .out none
  else .out (some none)
def aiv (x0:bD) (x1:aY) (x2:bC) (x3:au) (x4 x5 x6 x7 a1:Int):Option ((Option (Int×Int×Int×Int))):=
 aS (Sm x0 a1) 1000000000 (IntKind.i64.wrap ((x0.length:Int) - 1))
@[go_sem] def avs:=XQ aqs true aiv
@[go_sem] def agw (k:Nat):=lk [(234,avk.sp)] k
theorem xg:dS Tryz.prog agw:= .cons f234 .nil
theorem f217:aF Tryz.prog 217 avs.sp:=by
 refine vm (tb:=agw) (.cons f234 .nil) Tryz.func217 Tryz.ntmps217 fun ⟨x0,x1,x2,x3,x4,x5,x6,x7,a1⟩ r hr stop S=> ?_
 rw [OV,aiv] at hr
 refine S.gx [1] ?_
 refine gr ?_
 refine S.inl 4 [4] [] Tryz.func233 (by decide) rfl Tryz.ntmps233 (fun cx e=>aX bP xg cx e) (some 9) rfl rfl rfl rfl (nL rfl) (nL rfl) ?_
 refine gs ?_
 refine gr ?_
 intro stop1 S1
 refine S1.gx [1,3] ?_
 refine gr ?_
 refine S1.inl 1 [2,3,4] [] Tryz.func254 (by decide) rfl Tryz.ntmps254 (fun cx e=>aX bP xg cx e) (some 7) rfl rfl rfl rfl (nL rfl) (nL rfl) ?_
 refine gs ?_
 refine gr ?_
 intro stop2 S2
 refine S2.gx [] ?_
 refine gr ?_
 refine gr ?_
 refine S1.gx [1,3] ?_
 refine gr ?_
 refine S1.range [2,3,4] Tryz.func262 (by decide) rfl Tryz.ntmps262 Tryz.results262 (fun cx e=>aX bP xg cx e) (fun cx e=>aX bP xg cx e) (by decide) rfl rfl (nL rfl) ?_
 intro l2 stop2 ah6 S2 SJ2 Y2
 refine S2.gx [3] ?_
 refine gr ?_
 refine S2.sees [0,1,3] [(1,1),(100002,100002),(100003,100003),(4,4),(3,3)] [] ?_ (Stop.iter S2 (fun s1=>⟨[(0,.c (.Xc l2)),(1,.c (.ref 1 0)),(3,.c (.d (.int .i64 s1)))],[(1,[.d (ah 4 dh x0)]),(100002,[.d (ah 4 dh x0)]),(100003,[.clo 234 [.ref 3 0]]),(4,[.d (wF dh none)]),(3,[.d (.int .i64 a1)])],[]⟩) (Sm x0 a1) (fun q=>q=r) hr rfl ?_)
 ·exact lf
 ·intro s1 hr
  unfold Sm at hr
  refine S2.gx [3] ?_
  refine gr ?_
  refine cZ hr (fun hc hr=> ?_) fun hc hr=> ?_
  ·refine gr ?_
   refine Y2 6 [0,1,3] (some 17) rfl rfl rfl rfl (nL rfl) (by rfl) ?_
   refine gs ?_
   obtain ⟨hg4,hr⟩:=aB hr
   refine gr ?_
   intro ah7 SA3
   refine SA3.gx [] ?_
   refine gr ?_
   intro BX S3
   refine S3.gx [1,3] ?_
   refine gr ?_
   refine S3.gx [1] ?_
   obtain ⟨hg3,hr⟩:=aB hr
   obtain ⟨v1,hv1,hr⟩:=aI hr
   refine gb hv1 ?_
   refine gr ?_
   refine cZ hr (fun hc hr=> ?_) fun hc hr=> ?_
   ·obtain ⟨hg2,hr⟩:=aB hr
    refine gr ?_
    refine gr ?_
    refine (SJ2 .ret).gx [3] ?_
    refine gr ?_
    have hr:=bK hr
    refine gr ?_
    refine S1.gx [1,3] ?_
    refine gr ?_
    refine gr ?_
    refine S.gx [1] ?_
    exact D0 hr
   ·refine gr ?_
    refine gr ?_
    refine S2.gx [3] ?_
    exact D1 (S2.ss [0,1,3] [(1,1),(100002,100002),(100003,100003),(4,4),(3,3)] []) hr
  ·refine gr ?_
   have hr:=bK hr
   refine gr ?_
   refine gr ?_
   refine S1.gx [1,3] ?_
   refine gr ?_
   refine gr ?_
   refine S.gx [1] ?_
   exact D0 hr
def CY (a0:Int):Option (Int):=
 some (if 1000000<a0 then 1000000 else a0)
@[go_sem] def agh:=KQ lC false CY
theorem f235:aF Tryz.prog 235 agh.sp:=by
 refine vm .nil Tryz.func235 Tryz.ntmps235 fun a0 r hr stop S=> ?_
 rw [oC,CY] at hr
 refine S.gx [] ?_
 exact D0 hr
def aeK (a0 a1 x1 x2 x3 x0:Int):Option (Int):=
 if (decide (a1>0))=true then
  some (if 100000<IntKind.i64.wrap (a0+x0) then 100000 else IntKind.i64.wrap (a0+x0))
  else some (if 100000<a0 then 100000 else a0)
@[go_sem] def avj:=asA lC false aeK
theorem f236:aF Tryz.prog 236 avj.sp:=by
 refine vm .nil Tryz.func236 Tryz.ntmps236 fun ⟨a0,a1,x1,x2,x3,x0⟩ r hr stop S=> ?_
 rw [OW,aeK] at hr
 refine S.gx [] ?_
 exact D0 hr
def aiu (x4 x5 x12 dO x6 x7 x8 x9 x14 x15 x10 x11 x16 x17 x2 x0 x1 x3:Int):Option (Int×Int×Int×Int×Int×Int×Int×Int×Int×Int×Int×Int×Int×Int):=
 (CY (IntKind.i64.wrap ((IntKind.i64.wrap (x4+x6))+x8))).bind fun v1=>
  (CY (IntKind.i64.wrap ((IntKind.i64.wrap (x5+x7))+x9))).bind fun v2=>
   (aeK x10 (IntKind.i64.wrap (1000000 - (if 0<IntKind.i64.wrap (v2 - x0) then IntKind.i64.wrap (v2 - x0) else 0))) x2 x0 x1 x3).bind fun v3=>
    (aeK x11 (IntKind.i64.wrap (1000000 - (if 0<IntKind.i64.wrap (v1 - x1) then IntKind.i64.wrap (v1 - x1) else 0))) x2 x0 x1 x3).bind fun v4=>
     some ((if 0<IntKind.i64.wrap (v1 - x1) then IntKind.i64.wrap (v1 - x1) else 0),(if 0<IntKind.i64.wrap (v2 - x0) then IntKind.i64.wrap (v2 - x0) else 0),IntKind.i64.wrap (1000000 - (if 0<IntKind.i64.wrap (v2 - x0) then IntKind.i64.wrap (v2 - x0) else 0)),IntKind.i64.wrap (1000000 - (if 0<IntKind.i64.wrap (v1 - x1) then IntKind.i64.wrap (v1 - x1) else 0)),0,0,0,0,0,0,v3,v4,0,0)
@[go_sem] def avr:=asz Jh false aiu
@[go_sem] def anP (k:Nat):=lk [(235,agh.sp),(236,avj.sp)] k
theorem f218:aF Tryz.prog 218 avr.sp:=by
 refine vm (tb:=anP) (.cons f235 (.cons f236 .nil)) Tryz.func218 Tryz.ntmps218 fun ⟨x4,x5,x12,dO,x6,x7,x8,x9,x14,x15,x10,x11,x16,x17,x2,x0,x1,x3⟩ r hr stop S=> ?_
 rw [al4,aiu] at hr
 refine S.gx [3,7] ?_
 obtain ⟨v1,hv1,hr⟩:=aA hr
 obtain ⟨v2,hv2,hr⟩:=aA hr
 refine gb hv1 ?_
 refine gb hv2 ?_
 refine S.prune [2,3,4,5,6] ?_
 refine S.gx [7] ?_
 refine gr ?_
 obtain ⟨v3,hv3,hr⟩:=aA hr
 obtain ⟨v4,hv4,hr⟩:=aA hr
 refine gb hv3 ?_
 refine gb hv4 ?_
 refine S.prune [4,6] ?_
 refine S.gx [3] ?_
 exact D0 hr
section
variable {β:Type} [Inhabited β] (u:β->List RV) (al:Bool)
def apA (a0 a1 a2 a3 a4 a5:Int):List Arg:=[.agg [.int .i64 a0,.int .i64 a1,.int .i64 a2,.int .i64 a3,.int .i64 a4],.ptr [.int .i64 a5]]
def ard:List Arg->Int×Int×Int×Int×Int×Int
 | [.agg [c0,c1,c2,c3,c4],.ptr [c5]]=>(aC c0,aC c1,aC c2,aC c3,aC c4,aC c5)
 | _=>default
def asy (r:Int->Int->Int->Int->Int->Int->Option β):=mkT (u6 apA) ard (u6 r) u al
attribute [go_sem] apA ard asy
def apz (a0:aY) (a1:Int):List Arg:=[.c (ah 5 bT a0),.clo 238 [[.int .i64 a1]]]
def arb:List Arg->aY×Int
 | [.c c0,.clo _ [[c1]]]=>(aG gW c0,aC c1)
 | _=>default
def asx (r:aY->Int->Option β):=mkT (u2 apz) arb (u2 r) u al
attribute [go_sem] apz arb asx
def apy (a0 a1 a2 a3 a4 a5 a6 a7 a8 a9 a10 a11 a12 jL kE kC a16 a17 mX:Int):List Arg:=[.agg [.int .i64 a0,.int .i64 a1,.int .i64 a2,.int .i64 a3,.int .i64 a4,.int .i64 a5,.int .i64 a6,.int .i64 a7,.int .i64 a8,.int .i64 a9,.int .i64 a10,.int .i64 a11,.int .i64 a12,.int .i64 jL],.agg [.int .i64 kE,.int .i64 kC,.int .i64 a16,.int .i64 a17,.int .i64 mX]]
def ara:List Arg->Int×Int×Int×Int×Int×Int×Int×Int×Int×Int×Int×Int×Int×Int×Int×Int×Int×Int×Int
 | [.agg [c0,c1,c2,c3,c4,c5,c6,c7,c8,c9,c10,c11,c12,c13],.agg [c14,c15,c16,c17,c18]]=>(aC c0,aC c1,aC c2,aC c3,aC c4,aC c5,aC c6,aC c7,aC c8,aC c9,aC c10,aC c11,aC c12,aC c13,aC c14,aC c15,aC c16,aC c17,aC c18)
 | _=>default
def asw (r:Int->Int->Int->Int->Int->Int->Int->Int->Int->Int->Int->Int->Int->Int->Int->Int->Int->Int->Int->Option β):=mkT (u19 apy) ara (u19 r) u al
attribute [go_sem] apy ara asw
def apx (a0 a1 a2 a3:Int):List Arg:=[.agg [.int .i64 a0,.int .i64 a1,.int .i64 a2],.ptr [.int .i64 a3]]
def aq9:List Arg->Int×Int×Int×Int
 | [.agg [c0,c1,c2],.ptr [c3]]=>(aC c0,aC c1,aC c2,aC c3)
 | _=>default
def asv (r:Int->Int->Int->Int->Option β):=mkT (u4 apx) aq9 (u4 r) u al
attribute [go_sem] apx aq9 asv
def apw (a0:bC) (a1:Int):List Arg:=[.c (ah 3 dn a0),.clo 240 [[.int .i64 a1]]]
def aq8:List Arg->bC×Int
 | [.c c0,.clo _ [[c1]]]=>(aG jE c0,aC c1)
 | _=>default
def asu (r:bC->Int->Option β):=mkT (u2 apw) aq8 (u2 r) u al
attribute [go_sem] apw aq8 asu
def apv (a0 a1 a2 a3 a4 a5 a6 a7 a8 a9 a10 a11 a12 jL kE kC a16:Int):List Arg:=[.agg [.int .i64 a0,.int .i64 a1,.int .i64 a2,.int .i64 a3,.int .i64 a4,.int .i64 a5,.int .i64 a6,.int .i64 a7,.int .i64 a8,.int .i64 a9,.int .i64 a10,.int .i64 a11,.int .i64 a12,.int .i64 jL],.agg [.int .i64 kE,.int .i64 kC,.int .i64 a16]]
def aq7:List Arg->Int×Int×Int×Int×Int×Int×Int×Int×Int×Int×Int×Int×Int×Int×Int×Int×Int
 | [.agg [c0,c1,c2,c3,c4,c5,c6,c7,c8,c9,c10,c11,c12,c13],.agg [c14,c15,c16]]=>(aC c0,aC c1,aC c2,aC c3,aC c4,aC c5,aC c6,aC c7,aC c8,aC c9,aC c10,aC c11,aC c12,aC c13,aC c14,aC c15,aC c16)
 | _=>default
def asr (r:Int->Int->Int->Int->Int->Int->Int->Int->Int->Int->Int->Int->Int->Int->Int->Int->Int->Option β):=mkT (u17 apv) aq7 (u17 r) u al
attribute [go_sem] apv aq7 asr
def apu (a0 a1 a2:Int):List Arg:=[.agg [.int .i64 a0,.int .i64 a1],.ptr [.int .i64 a2]]
def aq6:List Arg->Int×Int×Int
 | [.agg [c0,c1],.ptr [c2]]=>(aC c0,aC c1,aC c2)
 | _=>default
def asq (r:Int->Int->Int->Option β):=mkT (u3 apu) aq6 (u3 r) u al
attribute [go_sem] apu aq6 asq
def apt (a0:Int) (a1:Option (Int×Int)):List Arg:=[.c (.int .i64 a0),.ptr [wF aT a1]]
def aq5:List Arg->Int×(Option (Int×Int))
 | [.c c0,.ptr [c1]]=>(aC c0,decP bY c1)
 | _=>default
def aso (r:Int->(Option (Int×Int))->Option β):=mkT (u2 apt) aq5 (u2 r) u al
attribute [go_sem] apt aq5 aso
def apr (a0:bD) (a1:aY) (a2:bC) (a3:au) (a4 a5 a6 a7 a8 a9 a10 a11 a12 jL kE kC a16 a17 mX pK a20 a21 a22:Int):List Arg:=[.agg [ah 4 dh a0,ah 5 bT a1,ah 3 dn a2,ah 2 aT a3,.int .i64 a4,.int .i64 a5,.int .i64 a6,.int .i64 a7],.agg [.int .i64 a8,.int .i64 a9,.int .i64 a10,.int .i64 a11,.int .i64 a12,.int .i64 jL,.int .i64 kE,.int .i64 kC,.int .i64 a16,.int .i64 a17,.int .i64 mX,.int .i64 pK,.int .i64 a20,.int .i64 a21],.c (.int .i64 a22)]
def aq4:List Arg->bD×aY×bC×au×Int×Int×Int×Int×Int×Int×Int×Int×Int×Int×Int×Int×Int×Int×Int×Int×Int×Int×Int
 | [.agg [c0,c1,c2,c3,c4,c5,c6,c7],.agg [c8,c9,c10,c11,c12,c13,c14,c15,c16,c17,c18,c19,c20,c21],.c Y3]=>(aG jD c0,aG gW c1,aG jE c2,aG bY c3,aC c4,aC c5,aC c6,aC c7,aC c8,aC c9,aC c10,aC c11,aC c12,aC c13,aC c14,aC c15,aC c16,aC c17,aC c18,aC c19,aC c20,aC c21,aC Y3)
 | _=>default
def asn (r:bD->aY->bC->au->Int->Int->Int->Int->Int->Int->Int->Int->Int->Int->Int->Int->Int->Int->Int->Int->Int->Int->Int->Option β):=mkT (u23 apr) aq4 (u23 r) u al
attribute [go_sem] apr aq4 asn
def apq (a0 a1 a2 a3 a4 a5 a6 a7 a8 a9 a10 a11 a12 jL kE kC a16 a17 mX pK a20 a21 a22 a23 a24 a25 a26 a27:Int):List Arg:=[.agg [.int .i64 a0,.int .i64 a1,.int .i64 a2,.int .i64 a3,.int .i64 a4,.int .i64 a5,.int .i64 a6,.int .i64 a7,.int .i64 a8,.int .i64 a9,.int .i64 a10,.int .i64 a11,.int .i64 a12,.int .i64 jL],.agg [.int .i64 kE,.int .i64 kC,.int .i64 a16,.int .i64 a17,.int .i64 mX,.int .i64 pK,.int .i64 a20,.int .i64 a21,.int .i64 a22,.int .i64 a23,.int .i64 a24,.int .i64 a25,.int .i64 a26,.int .i64 a27]]
def aq3:List Arg->Int×Int×Int×Int×Int×Int×Int×Int×Int×Int×Int×Int×Int×Int×Int×Int×Int×Int×Int×Int×Int×Int×Int×Int×Int×Int×Int×Int
 | [.agg [c0,c1,c2,c3,c4,c5,c6,c7,c8,c9,c10,c11,c12,c13],.agg [c14,c15,c16,c17,c18,c19,c20,c21,Y3,c23,c24,c25,c26,c27]]=>(aC c0,aC c1,aC c2,aC c3,aC c4,aC c5,aC c6,aC c7,aC c8,aC c9,aC c10,aC c11,aC c12,aC c13,aC c14,aC c15,aC c16,aC c17,aC c18,aC c19,aC c20,aC c21,aC Y3,aC c23,aC c24,aC c25,aC c26,aC c27)
 | _=>default
def asl (r:Int->Int->Int->Int->Int->Int->Int->Int->Int->Int->Int->Int->Int->Int->Int->Int->Int->Int->Int->Int->Int->Int->Int->Int->Int->Int->Int->Int->Option β):=mkT (u28 apq) aq3 (u28 r) u al
attribute [go_sem] apq aq3 asl
def apo (a0:bD) (a1:aY) (a2:bC) (a3:au) (a4 a5 a6 a7 a8 a9 a10 a11 a12 jL kE kC a16 a17 mX pK a20 a21 a22 a23:Int):List Arg:=[.agg [ah 4 dh a0,ah 5 bT a1,ah 3 dn a2,ah 2 aT a3,.int .i64 a4,.int .i64 a5,.int .i64 a6,.int .i64 a7],.agg [.int .i64 a8,.int .i64 a9,.int .i64 a10,.int .i64 a11,.int .i64 a12,.int .i64 jL,.int .i64 kE,.int .i64 kC,.int .i64 a16,.int .i64 a17,.int .i64 mX,.int .i64 pK,.int .i64 a20,.int .i64 a21],.agg [.int .i64 a22,.int .i64 a23]]
def aq2:List Arg->bD×aY×bC×au×Int×Int×Int×Int×Int×Int×Int×Int×Int×Int×Int×Int×Int×Int×Int×Int×Int×Int×Int×Int
 | [.agg [c0,c1,c2,c3,c4,c5,c6,c7],.agg [c8,c9,c10,c11,c12,c13,c14,c15,c16,c17,c18,c19,c20,c21],.agg [Y3,c23]]=>(aG jD c0,aG gW c1,aG jE c2,aG bY c3,aC c4,aC c5,aC c6,aC c7,aC c8,aC c9,aC c10,aC c11,aC c12,aC c13,aC c14,aC c15,aC c16,aC c17,aC c18,aC c19,aC c20,aC c21,aC Y3,aC c23)
 | _=>default
def asj (r:bD->aY->bC->au->Int->Int->Int->Int->Int->Int->Int->Int->Int->Int->Int->Int->Int->Int->Int->Int->Int->Int->Int->Int->Option β):=mkT (u24 apo) aq2 (u24 r) u al
attribute [go_sem] apo aq2 asj
def aqr (v:(Option (Int×Int×Int×Int×Int))):List RV:=[.c (.d (wF bT v))]
attribute [go_sem] aqr
def aqp (v:(Option (Int×Int×Int))):List RV:=[.c (.d (wF dn v))]
attribute [go_sem] aqp
def aqo (v:(Option (Int×Int))):List RV:=[.c (.d (wF aT v))]
attribute [go_sem] aqo
end
def aip (x0 x2 x3 x4 x5 x1:Int):Option (Bool):=
 some (decide (x0>=x1))
@[go_sem] def avi:=asy oQ false aip
theorem f238:aF Tryz.prog 238 avi.sp:=by
 refine vm .nil Tryz.func238 Tryz.ntmps238 fun ⟨x0,x2,x3,x4,x5,x1⟩ r hr stop S=> ?_
 rw [OW,aip] at hr
 refine S.gx [] ?_
 exact D0 hr
def Sj (a0:aY) (x0:Int):Bd Int Int:=fun s1=>
 if (decide (s1<(a0.length:Int)))=true then
  if 0<=s1/\s1<(a0.length:Int) then
   aP (aip ((a0.getD s1.toNat default).1) ((a0.getD s1.toNat default).2.1) ((a0.getD s1.toNat default).2.2.1) ((a0.getD s1.toNat default).2.2.2.1) ((a0.getD s1.toNat default).2.2.2.2) x0) fun v1=>
    if v1=true then
     .out (some s1)
     else .next (IntKind.i64.wrap (s1+1))
   else .out none
  else .out (some (-1))
def ail (a0:aY) (x0:Int):Option (Int):=
 aS (Sj a0 x0) 1000000000 0
@[go_sem] def ave:=asx lC false ail
@[go_sem] def anL (k:Nat):=lk [(238,avi.sp)] k
theorem f255:aF Tryz.prog 255 ave.sp:=by
 refine vm (tb:=anL) (.cons f238 .nil) Tryz.func255 Tryz.ntmps255 fun ⟨a0,x0⟩ r hr stop S=> ?_
 rw [yI,ail] at hr
 refine S.gx [] ?_
 refine gr ?_
 refine S.sees [0,1,7,8] [] [] ?_ (Stop.iter S (fun s1=>⟨[(0,.c (.d (ah 5 bT a0))),(1,.c (.clo 238 [.dJ [.int .i64 x0] 0])),(7,.c (.d (.int .i64 (a0.length:Int)))),(8,.c (.d (.int .i64 s1)))],[],[]⟩) (Sj a0 x0) (fun q=>q=r) hr rfl ?_)
 ·exact lf
 ·intro s1 hr
  unfold Sj at hr
  refine S.gx [] ?_
  exact D1 (S.ss [0,1,7,8] [] []) hr
def ait (x1:bD) (x0:aY) (x2:bC) (x3:au) (x4 x5 x6 x7 a1:Int):Option ((Option (Int×Int×Int×Int×Int))):=
 (ail x0 a1).bind fun v1=>
  if (decide (v1>=0))=true then
   if 0<=v1/\v1<(x0.length:Int) then
    some (some ((x0.getD v1.toNat default).1,(x0.getD v1.toNat default).2.1,(x0.getD v1.toNat default).2.2.1,(x0.getD v1.toNat default).2.2.2.1,(x0.getD v1.toNat default).2.2.2.2))
    else none
   else some none
@[go_sem] def avq:=XQ aqr true ait
@[go_sem] def agv (k:Nat):=lk [(255,ave.sp)] k
theorem Zw:dS Tryz.prog agv:= .cons f255 .nil
theorem f219:aF Tryz.prog 219 avq.sp:=by
 refine vm (tb:=agv) (.cons f255 .nil) Tryz.func219 Tryz.ntmps219 fun ⟨x1,x0,x2,x3,x4,x5,x6,x7,a1⟩ r hr stop S=> ?_
 rw [OV,ait] at hr
 refine S.gx [1] ?_
 refine gr ?_
 refine S.inl 4 [4] [] Tryz.func237 (by decide) rfl Tryz.ntmps237 (fun cx e=>aX bP Zw cx e) (some 9) rfl rfl rfl rfl (nL rfl) (nL rfl) ?_
 refine gs ?_
 refine gr ?_
 intro stop1 S1
 refine S1.gx [] ?_
 obtain ⟨v1,hv1,hr⟩:=aA hr
 refine gb hv1 ?_
 refine iW hr (fun hc hr=> ?_) fun hc hr=> ?_
 ·obtain ⟨hg2,hr⟩:=aN hr
  refine gr ?_
  refine gr ?_
  refine S.gx [1] ?_
  exact D0 hr
 ·refine gr ?_
  refine gr ?_
  refine S.gx [1] ?_
  exact D0 hr
def ais (x4 x5 x0 x1 x6 x7 x8 x9 x14 x15 x10 x11 x12 dO x18 x16 x17 x2 x3:Int):Option (Int×Int×Int×Int×Int×Int×Int×Int×Int×Int×Int×Int×Int×Int):=
 (CY (IntKind.i64.wrap (x14+x16))).bind fun v1=>
  (CY (IntKind.i64.wrap (x15+x17))).bind fun v2=>
   if (v1 == 1000000)=true then
    if (v2 == 1000000)=true then
     (CY (IntKind.i64.wrap (x7+(if x3<x1 then x3 else x1)))).bind fun v3=>
      some (x4,x5,(if 0<IntKind.i64.wrap (x0 - x3) then IntKind.i64.wrap (x0 - x3) else 0),(if 0<IntKind.i64.wrap (x1 - x2) then IntKind.i64.wrap (x1 - x2) else 0),IntKind.i64.wrap (x6+(if x2<x0 then x2 else x0)),v3,x8,x9,v1,v2,x10,x11,x12,dO)
     else (CY (IntKind.i64.wrap (x7+(if 0<x1 then 0 else x1)))).bind fun v4=>
      some (x4,x5,(if 0<IntKind.i64.wrap (x0 - 0) then IntKind.i64.wrap (x0 - 0) else 0),(if 0<IntKind.i64.wrap (x1 - x2) then IntKind.i64.wrap (x1 - x2) else 0),IntKind.i64.wrap (x6+(if x2<x0 then x2 else x0)),v4,x8,x9,v1,v2,x10,x11,x12,dO)
    else if (v2 == 1000000)=true then
     (CY (IntKind.i64.wrap (x7+(if x3<x1 then x3 else x1)))).bind fun v5=>
      some (x4,x5,(if 0<IntKind.i64.wrap (x0 - x3) then IntKind.i64.wrap (x0 - x3) else 0),(if 0<IntKind.i64.wrap (x1 - 0) then IntKind.i64.wrap (x1 - 0) else 0),IntKind.i64.wrap (x6+(if 0<x0 then 0 else x0)),v5,x8,x9,v1,v2,x10,x11,x12,dO)
     else (CY (IntKind.i64.wrap (x7+(if 0<x1 then 0 else x1)))).bind fun v6=>
      some (x4,x5,(if 0<IntKind.i64.wrap (x0 - 0) then IntKind.i64.wrap (x0 - 0) else 0),(if 0<IntKind.i64.wrap (x1 - 0) then IntKind.i64.wrap (x1 - 0) else 0),IntKind.i64.wrap (x6+(if 0<x0 then 0 else x0)),v6,x8,x9,v1,v2,x10,x11,x12,dO)
@[go_sem] def avp:=asw Jh false ais
@[go_sem] def anO (k:Nat):=lk [(235,agh.sp)] k
theorem f220:aF Tryz.prog 220 avp.sp:=by
 refine vm (tb:=anO) (.cons f235 .nil) Tryz.func220 Tryz.ntmps220 fun ⟨x4,x5,x0,x1,x6,x7,x8,x9,x14,x15,x10,x11,x12,dO,x18,x16,x17,x2,x3⟩ r hr stop S=> ?_
 rw [adz,ais] at hr
 refine S.gx [6,7,10] ?_
 obtain ⟨v1,hv1,hr⟩:=aA hr
 obtain ⟨v2,hv2,hr⟩:=aA hr
 refine gb hv1 ?_
 refine gb hv2 ?_
 refine iW hr (fun hc hr=> ?_) fun hc hr=> ?_
 ·refine gr ?_
  refine iW hr (fun hc hr=> ?_) fun hc hr=> ?_
  ·refine gr ?_
   refine S.prune [2,3,4,5] ?_
   refine S.gx [7,10] ?_
   refine gr ?_
   refine gr ?_
   refine S.prune [2,4,5] ?_
   refine S.gx [6,10] ?_
   refine gr ?_
   obtain ⟨v3,hv3,hr⟩:=aA hr
   refine gb hv3 ?_
   refine S.prune [2,4] ?_
   refine S.gx [6,7] ?_
   exact D0 hr
  ·refine gr ?_
   refine S.prune [2,4,5] ?_
   refine S.gx [6,10] ?_
   refine gr ?_
   obtain ⟨v4,hv4,hr⟩:=aA hr
   refine gb hv4 ?_
   refine S.prune [2,4] ?_
   refine S.gx [6,7] ?_
   exact D0 hr
 ·refine gr ?_
  refine iW hr (fun hc hr=> ?_) fun hc hr=> ?_
  ·refine gr ?_
   refine S.prune [2,3,4,5] ?_
   refine S.gx [7,10] ?_
   refine gr ?_
   refine gr ?_
   refine S.prune [2,4,5] ?_
   refine S.gx [6,10] ?_
   refine gr ?_
   obtain ⟨v5,hv5,hr⟩:=aA hr
   refine gb hv5 ?_
   refine S.prune [2,4] ?_
   refine S.gx [6,7] ?_
   exact D0 hr
  ·refine gr ?_
   refine S.prune [2,4,5] ?_
   refine S.gx [6,10] ?_
   refine gr ?_
   obtain ⟨v6,hv6,hr⟩:=aA hr
   refine gb hv6 ?_
   refine S.prune [2,4] ?_
   refine S.gx [6,7] ?_
   exact D0 hr
def aio (x0 x2 x3 x1:Int):Option (Bool):=
 some (decide (x0>=x1))
@[go_sem] def avh:=asv oQ false aio
theorem f240:aF Tryz.prog 240 avh.sp:=by
 refine vm .nil Tryz.func240 Tryz.ntmps240 fun ⟨x0,x2,x3,x1⟩ r hr stop S=> ?_
 rw [uq4,aio] at hr
 refine S.gx [] ?_
 exact D0 hr
def Si (a0:bC) (x0:Int):Bd Int Int:=fun s1=>
 if (decide (s1<(a0.length:Int)))=true then
  if 0<=s1/\s1<(a0.length:Int) then
   aP (aio ((a0.getD s1.toNat default).1) ((a0.getD s1.toNat default).2.1) ((a0.getD s1.toNat default).2.2) x0) fun v1=>
    if v1=true then
     .out (some s1)
     else .next (IntKind.i64.wrap (s1+1))
   else .out none
  else .out (some (-1))
def aik (a0:bC) (x0:Int):Option (Int):=
 aS (Si a0 x0) 1000000000 0
@[go_sem] def avd:=asu lC false aik
@[go_sem] def anK (k:Nat):=lk [(240,avh.sp)] k
theorem f256:aF Tryz.prog 256 avd.sp:=by
 refine vm (tb:=anK) (.cons f240 .nil) Tryz.func256 Tryz.ntmps256 fun ⟨a0,x0⟩ r hr stop S=> ?_
 rw [yI,aik] at hr
 refine S.gx [] ?_
 refine gr ?_
 refine S.sees [0,1,7,8] [] [] ?_ (Stop.iter S (fun s1=>⟨[(0,.c (.d (ah 3 dn a0))),(1,.c (.clo 240 [.dJ [.int .i64 x0] 0])),(7,.c (.d (.int .i64 (a0.length:Int)))),(8,.c (.d (.int .i64 s1)))],[],[]⟩) (Si a0 x0) (fun q=>q=r) hr rfl ?_)
 ·exact lf
 ·intro s1 hr
  unfold Si at hr
  refine S.gx [] ?_
  exact D1 (S.ss [0,1,7,8] [] []) hr
def aeM (x1:bD) (x2:aY) (x0:bC) (x3:au) (x4 x5 x6 x7 a1:Int):Option ((Option (Int×Int×Int))):=
 (aik x0 a1).bind fun v1=>
  if (decide (v1>=0))=true then
   if 0<=v1/\v1<(x0.length:Int) then
    some (some ((x0.getD v1.toNat default).1,(x0.getD v1.toNat default).2.1,(x0.getD v1.toNat default).2.2))
    else none
   else some none
@[go_sem] def avo:=XQ aqp true aeM
@[go_sem] def agu (k:Nat):=lk [(256,avd.sp)] k
theorem Zv:dS Tryz.prog agu:= .cons f256 .nil
theorem f221:aF Tryz.prog 221 avo.sp:=by
 refine vm (tb:=agu) (.cons f256 .nil) Tryz.func221 Tryz.ntmps221 fun ⟨x1,x2,x0,x3,x4,x5,x6,x7,a1⟩ r hr stop S=> ?_
 rw [OV,aeM] at hr
 refine S.gx [1] ?_
 refine gr ?_
 refine S.inl 4 [4] [] Tryz.func239 (by decide) rfl Tryz.ntmps239 (fun cx e=>aX bP Zv cx e) (some 9) rfl rfl rfl rfl (nL rfl) (nL rfl) ?_
 refine gs ?_
 refine gr ?_
 intro stop1 S1
 refine S1.gx [] ?_
 obtain ⟨v1,hv1,hr⟩:=aA hr
 refine gb hv1 ?_
 refine iW hr (fun hc hr=> ?_) fun hc hr=> ?_
 ·obtain ⟨hg2,hr⟩:=aN hr
  refine gr ?_
  refine gr ?_
  refine S.gx [1] ?_
  exact D0 hr
 ·refine gr ?_
  refine gr ?_
  refine S.gx [1] ?_
  exact D0 hr
def Z7 (a0 a1 a2:Int):Option (Int):=
 some (if a1<IntKind.i64.wrap ((IntKind.i64.wrap ((IntKind.i64.wrap (a0+a1))*a2)).tdiv 1000000) then IntKind.i64.wrap ((IntKind.i64.wrap ((IntKind.i64.wrap (a0+a1))*a2)).tdiv 1000000) else a1)
@[go_sem] def akX:=qT1 lC false Z7
theorem f242:aF Tryz.prog 242 akX.sp:=by
 refine vm .nil Tryz.func242 Tryz.ntmps242 fun ⟨a0,a1,a2⟩ r hr stop S=> ?_
 rw [Zd,Z7] at hr
 refine S.gx [] ?_
 exact D0 hr
def aeJ (a0 a1 a2:Int):Option (Int):=
 (Z7 a0 a1 a2).bind fun v1=>
  some (IntKind.i64.wrap ((IntKind.i64.wrap (a0+a1)) - v1))
@[go_sem] def avg:=qT1 lC false aeJ
@[go_sem] def anM (k:Nat):=lk [(242,akX.sp)] k
theorem f241:aF Tryz.prog 241 avg.sp:=by
 refine vm (tb:=anM) (.cons f242 .nil) Tryz.func241 Tryz.ntmps241 fun ⟨a0,a1,a2⟩ r hr stop S=> ?_
 rw [Zd,aeJ] at hr
 refine S.gx [] ?_
 exact D0 hr
def aeL (x6 x7 x0 x1 x8 x9 x2 x3 x10 x11 x12 dO x14 x15 x16 x4 x5:Int):Option (Int×Int×Int×Int×Int×Int×Int×Int×Int×Int×Int×Int×Int×Int):=
 (Z7 x0 x2 x4).bind fun v1=>
  (Z7 x1 x3 x5).bind fun v2=>
   (CY v2).bind fun v3=>
    (aeJ x0 x2 x5).bind fun v4=>
     (aeJ x1 x3 x4).bind fun v5=>
      some (x6,x7,v4,v5,x8,x9,v1,v3,x10,x11,x12,dO,x14,x15)
@[go_sem] def avn:=asr Jh false aeL
@[go_sem] def anN (k:Nat):=lk [(235,agh.sp),(241,avg.sp),(242,akX.sp)] k
theorem f222:aF Tryz.prog 222 avn.sp:=by
 refine vm (tb:=anN) (.cons f235 (.cons f241 (.cons f242 .nil))) Tryz.func222 Tryz.ntmps222 fun ⟨x6,x7,x0,x1,x8,x9,x2,x3,x10,x11,x12,dO,x14,x15,x16,x4,x5⟩ r hr stop S=> ?_
 rw [al5,aeL] at hr
 refine S.gx [5] ?_
 obtain ⟨v1,hv1,hr⟩:=aA hr
 obtain ⟨v2,hv2,hr⟩:=aA hr
 obtain ⟨v3,hv3,hr⟩:=aA hr
 obtain ⟨v4,hv4,hr⟩:=aA hr
 obtain ⟨v5,hv5,hr⟩:=aA hr
 refine gb hv1 ?_
 refine gb hv2 ?_
 refine gb hv3 ?_
 refine gb hv4 ?_
 refine gb hv5 ?_
 refine S.prune [2,4] ?_
 refine S.gx [] ?_
 exact D0 hr
def ain (x0 x2 x1:Int):Option (Bool):=
 some (decide (x0<=x1))
@[go_sem] def avf:=asq oQ false ain
theorem f244:aF Tryz.prog 244 avf.sp:=by
 refine vm .nil Tryz.func244 Tryz.ntmps244 fun ⟨x0,x2,x1⟩ r hr stop S=> ?_
 rw [Zd,ain] at hr
 refine S.gx [] ?_
 exact D0 hr
def Sl (x0:au) (a1:Int):Bd Int (Option (Int×Int)):=fun s1=>
 if (decide (s1>=0))=true then
  if 0<=s1/\s1<(x0.length:Int) then
   if 0<=s1/\s1<(x0.length:Int) then
    aP (ain ((x0.getD s1.toNat default).1) ((x0.getD s1.toNat default).2) a1) fun v1=>
     if v1=true then
      if 0<=s1/\s1<(x0.length:Int) then
       .out (some (some ((x0.getD s1.toNat default).1,(x0.getD s1.toNat default).2)))
       else .out none
      else .next (IntKind.i64.wrap (s1 - 1))
    else .out none
   else .out none
  else .out (some none)
def XB (x1:bD) (x2:aY) (x3:bC) (x0:au) (x4 x5 x6 x7 a1:Int):Option ((Option (Int×Int))):=
 aS (Sl x0 a1) 1000000000 (IntKind.i64.wrap ((x0.length:Int) - 1))
@[go_sem] def avm:=XQ aqo true XB
@[go_sem] def agt (k:Nat):=lk [(244,avf.sp)] k
theorem wZ:dS Tryz.prog agt:= .cons f244 .nil
theorem f223:aF Tryz.prog 223 avm.sp:=by
 refine vm (tb:=agt) (.cons f244 .nil) Tryz.func223 Tryz.ntmps223 fun ⟨x1,x2,x3,x0,x4,x5,x6,x7,a1⟩ r hr stop S=> ?_
 rw [OV,XB] at hr
 refine S.gx [1] ?_
 refine gr ?_
 refine S.inl 4 [4] [] Tryz.func243 (by decide) rfl Tryz.ntmps243 (fun cx e=>aX bP wZ cx e) (some 9) rfl rfl rfl rfl (nL rfl) (nL rfl) ?_
 refine gs ?_
 refine gr ?_
 intro stop1 S1
 refine S1.gx [1,3] ?_
 refine gr ?_
 refine S1.inl 1 [2,3,4] [] Tryz.func257 (by decide) rfl Tryz.ntmps257 (fun cx e=>aX bP wZ cx e) (some 7) rfl rfl rfl rfl (nL rfl) (nL rfl) ?_
 refine gs ?_
 refine gr ?_
 intro stop2 S2
 refine S2.gx [] ?_
 refine gr ?_
 refine gr ?_
 refine S1.gx [1,3] ?_
 refine gr ?_
 refine S1.range [2,3,4] Tryz.func263 (by decide) rfl Tryz.ntmps263 Tryz.results263 (fun cx e=>aX bP wZ cx e) (fun cx e=>aX bP wZ cx e) (by decide) rfl rfl (nL rfl) ?_
 intro l2 stop2 ah6 S2 SJ2 Y2
 refine S2.gx [3] ?_
 refine gr ?_
 refine S2.sees [0,1,3] [(1,1),(100002,100002),(100003,100003),(4,4),(3,3)] [] ?_ (Stop.iter S2 (fun s1=>⟨[(0,.c (.Xc l2)),(1,.c (.ref 1 0)),(3,.c (.d (.int .i64 s1)))],[(1,[.d (ah 2 aT x0)]),(100002,[.d (ah 2 aT x0)]),(100003,[.clo 244 [.ref 3 0]]),(4,[.d (wF aT none)]),(3,[.d (.int .i64 a1)])],[]⟩) (Sl x0 a1) (fun q=>q=r) hr rfl ?_)
 ·exact lf
 ·intro s1 hr
  unfold Sl at hr
  refine S2.gx [3] ?_
  refine gr ?_
  refine cZ hr (fun hc hr=> ?_) fun hc hr=> ?_
  ·refine gr ?_
   refine Y2 6 [0,1,3] (some 17) rfl rfl rfl rfl (nL rfl) (by rfl) ?_
   refine gs ?_
   obtain ⟨hg4,hr⟩:=aB hr
   refine gr ?_
   intro ah7 SA3
   refine SA3.gx [] ?_
   refine gr ?_
   intro BX S3
   refine S3.gx [1,3] ?_
   refine gr ?_
   refine S3.gx [1] ?_
   obtain ⟨hg3,hr⟩:=aB hr
   obtain ⟨v1,hv1,hr⟩:=aI hr
   refine gb hv1 ?_
   refine gr ?_
   refine cZ hr (fun hc hr=> ?_) fun hc hr=> ?_
   ·obtain ⟨hg2,hr⟩:=aB hr
    refine gr ?_
    refine gr ?_
    refine (SJ2 .ret).gx [3] ?_
    refine gr ?_
    have hr:=bK hr
    refine gr ?_
    refine S1.gx [1,3] ?_
    refine gr ?_
    refine gr ?_
    refine S.gx [1] ?_
    exact D0 hr
   ·refine gr ?_
    refine gr ?_
    refine S2.gx [3] ?_
    exact D1 (S2.ss [0,1,3] [(1,1),(100002,100002),(100003,100003),(4,4),(3,3)] []) hr
  ·refine gr ?_
   have hr:=bK hr
   refine gr ?_
   refine gr ?_
   refine S1.gx [1,3] ?_
   refine gr ?_
   refine gr ?_
   refine S.gx [1] ?_
   exact D0 hr
def FC (a0:Int) (x0:Option (Int×Int)):Option (Int):=
 if x0.isSome=true then
  if x0.isSome=true then
   some (if 1000000<IntKind.i64.wrap (a0+((x0.getD default).2)) then 1000000 else IntKind.i64.wrap (a0+((x0.getD default).2)))
   else none
  else none
@[go_sem] def avl:=aso lC false FC
theorem f224:aF Tryz.prog 224 avl.sp:=by
 refine vm .nil Tryz.func224 Tryz.ntmps224 fun ⟨a0,x0⟩ r hr stop S=> ?_
 rw [yI,FC] at hr
 refine S.gx [] ?_
 exact D0 hr
def aeN (x0:bD) (x1:aY) (x2:bC) (x3:au) (x4 x5 x6 x7 x8 x9 x10 x11 x12 dO x14 x15 x16 x17 x18 x19 x20 x21 a2:Int):Option (Int×Int×Int×Int×Int×Int×Int×Int×Int×Int×Int×Int×Int×Int):=
 (aiv x0 x1 x2 x3 x4 x5 x6 x7 a2).bind fun v1=>
  if v1.isSome=true then
   if v1.isSome=true then
    if v1.isSome=true then
     (aiu x8 x9 x10 x11 x12 dO x14 x15 x16 x17 x18 x19 x20 x21 ((v1.getD default).1) ((v1.getD default).2.1) ((v1.getD default).2.2.1) ((v1.getD default).2.2.2)).bind fun v2=>
      some (v2.1,v2.2.1,v2.2.2.1,v2.2.2.2.1,v2.2.2.2.2.1,v2.2.2.2.2.2.1,v2.2.2.2.2.2.2.1,v2.2.2.2.2.2.2.2.1,v2.2.2.2.2.2.2.2.2.1,v2.2.2.2.2.2.2.2.2.2.1,v2.2.2.2.2.2.2.2.2.2.2.1,v2.2.2.2.2.2.2.2.2.2.2.2.1,v2.2.2.2.2.2.2.2.2.2.2.2.2.1,v2.2.2.2.2.2.2.2.2.2.2.2.2.2)
     else none
    else none
   else (ait x0 x1 x2 x3 x4 x5 x6 x7 a2).bind fun v5=>
    if v5.isSome=true then
     if v5.isSome=true then
      if v5.isSome=true then
       (ais x8 x9 x10 x11 x12 dO x14 x15 x16 x17 x18 x19 x20 x21 ((v5.getD default).1) ((v5.getD default).2.1) ((v5.getD default).2.2.1) ((v5.getD default).2.2.2.1) ((v5.getD default).2.2.2.2)).bind fun v6=>
        (aeM x0 x1 x2 x3 x4 x5 x6 x7 a2).bind fun v7=>
         if v7.isSome=true then
          if v7.isSome=true then
           if v7.isSome=true then
            (aeL v6.1 v6.2.1 v6.2.2.1 v6.2.2.2.1 v6.2.2.2.2.1 v6.2.2.2.2.2.1 v6.2.2.2.2.2.2.1 v6.2.2.2.2.2.2.2.1 v6.2.2.2.2.2.2.2.2.1 v6.2.2.2.2.2.2.2.2.2.1 v6.2.2.2.2.2.2.2.2.2.2.1 v6.2.2.2.2.2.2.2.2.2.2.2.1 v6.2.2.2.2.2.2.2.2.2.2.2.2.1 v6.2.2.2.2.2.2.2.2.2.2.2.2.2 ((v7.getD default).1) ((v7.getD default).2.1) ((v7.getD default).2.2)).bind fun v8=>
             (XB x0 x1 x2 x3 x4 x5 x6 x7 a2).bind fun v9=>
              if v9.isSome=true then
               (FC v8.2.2.2.2.2.2.2.2.2.2.2.2.1 v9).bind fun v10=>
                (FC v8.2.2.2.2.2.2.2.2.2.2.2.2.2 v9).bind fun v11=>
                 some (v8.1,v8.2.1,v8.2.2.1,v8.2.2.2.1,v8.2.2.2.2.1,v8.2.2.2.2.2.1,v8.2.2.2.2.2.2.1,v8.2.2.2.2.2.2.2.1,v8.2.2.2.2.2.2.2.2.1,v8.2.2.2.2.2.2.2.2.2.1,v8.2.2.2.2.2.2.2.2.2.2.1,v8.2.2.2.2.2.2.2.2.2.2.2.1,v10,v11)
               else some (v8.1,v8.2.1,v8.2.2.1,v8.2.2.2.1,v8.2.2.2.2.1,v8.2.2.2.2.2.1,v8.2.2.2.2.2.2.1,v8.2.2.2.2.2.2.2.1,v8.2.2.2.2.2.2.2.2.1,v8.2.2.2.2.2.2.2.2.2.1,v8.2.2.2.2.2.2.2.2.2.2.1,v8.2.2.2.2.2.2.2.2.2.2.2.1,v8.2.2.2.2.2.2.2.2.2.2.2.2.1,v8.2.2.2.2.2.2.2.2.2.2.2.2.2)
            else none
           else none
          else (XB x0 x1 x2 x3 x4 x5 x6 x7 a2).bind fun v14=>
           if v14.isSome=true then
            (FC v6.2.2.2.2.2.2.2.2.2.2.2.2.1 v14).bind fun v15=>
             (FC v6.2.2.2.2.2.2.2.2.2.2.2.2.2 v14).bind fun v16=>
              some (v6.1,v6.2.1,v6.2.2.1,v6.2.2.2.1,v6.2.2.2.2.1,v6.2.2.2.2.2.1,v6.2.2.2.2.2.2.1,v6.2.2.2.2.2.2.2.1,v6.2.2.2.2.2.2.2.2.1,v6.2.2.2.2.2.2.2.2.2.1,v6.2.2.2.2.2.2.2.2.2.2.1,v6.2.2.2.2.2.2.2.2.2.2.2.1,v15,v16)
            else some (v6.1,v6.2.1,v6.2.2.1,v6.2.2.2.1,v6.2.2.2.2.1,v6.2.2.2.2.2.1,v6.2.2.2.2.2.2.1,v6.2.2.2.2.2.2.2.1,v6.2.2.2.2.2.2.2.2.1,v6.2.2.2.2.2.2.2.2.2.1,v6.2.2.2.2.2.2.2.2.2.2.1,v6.2.2.2.2.2.2.2.2.2.2.2.1,v6.2.2.2.2.2.2.2.2.2.2.2.2.1,v6.2.2.2.2.2.2.2.2.2.2.2.2.2)
       else none
      else none
     else (aeM x0 x1 x2 x3 x4 x5 x6 x7 a2).bind fun v19=>
      if v19.isSome=true then
       if v19.isSome=true then
        if v19.isSome=true then
         (aeL x8 x9 x10 x11 x12 dO x14 x15 x16 x17 x18 x19 x20 x21 ((v19.getD default).1) ((v19.getD default).2.1) ((v19.getD default).2.2)).bind fun v20=>
          (XB x0 x1 x2 x3 x4 x5 x6 x7 a2).bind fun v21=>
           if v21.isSome=true then
            (FC v20.2.2.2.2.2.2.2.2.2.2.2.2.1 v21).bind fun v22=>
             (FC v20.2.2.2.2.2.2.2.2.2.2.2.2.2 v21).bind fun v23=>
              some (v20.1,v20.2.1,v20.2.2.1,v20.2.2.2.1,v20.2.2.2.2.1,v20.2.2.2.2.2.1,v20.2.2.2.2.2.2.1,v20.2.2.2.2.2.2.2.1,v20.2.2.2.2.2.2.2.2.1,v20.2.2.2.2.2.2.2.2.2.1,v20.2.2.2.2.2.2.2.2.2.2.1,v20.2.2.2.2.2.2.2.2.2.2.2.1,v22,v23)
            else some (v20.1,v20.2.1,v20.2.2.1,v20.2.2.2.1,v20.2.2.2.2.1,v20.2.2.2.2.2.1,v20.2.2.2.2.2.2.1,v20.2.2.2.2.2.2.2.1,v20.2.2.2.2.2.2.2.2.1,v20.2.2.2.2.2.2.2.2.2.1,v20.2.2.2.2.2.2.2.2.2.2.1,v20.2.2.2.2.2.2.2.2.2.2.2.1,v20.2.2.2.2.2.2.2.2.2.2.2.2.1,v20.2.2.2.2.2.2.2.2.2.2.2.2.2)
         else none
        else none
       else (XB x0 x1 x2 x3 x4 x5 x6 x7 a2).bind fun v26=>
        if v26.isSome=true then
         (FC x20 v26).bind fun v27=>
          (FC x21 v26).bind fun v28=>
           some (x8,x9,x10,x11,x12,dO,x14,x15,x16,x17,x18,x19,v27,v28)
         else some (x8,x9,x10,x11,x12,dO,x14,x15,x16,x17,x18,x19,x20,x21)
@[go_sem] def avy:=asn Jh false aeN
@[go_sem] def anQ (k:Nat):=lk [(217,avs.sp),(218,avr.sp),(219,avq.sp),(220,avp.sp),(221,avo.sp),(222,avn.sp),(223,avm.sp),(224,avl.sp)] k
theorem f203:aF Tryz.prog 203 avy.sp:=by
 refine vm (tb:=anQ) (.cons f217 (.cons f218 (.cons f219 (.cons f220 (.cons f221 (.cons f222 (.cons f223 (.cons f224 .nil)))))))) Tryz.func203 Tryz.ntmps203 fun ⟨x0,x1,x2,x3,x4,x5,x6,x7,x8,x9,x10,x11,x12,dO,x14,x15,x16,x17,x18,x19,x20,x21,a2⟩ r hr stop S=> ?_
 rw [ady,aeN] at hr
 refine S.gx [10] ?_
 obtain ⟨v1,hv1,hr⟩:=aA hr
 refine gb hv1 ?_
 refine iW hr (fun hc hr=>D0 hr) fun hc hr=> ?_
 obtain ⟨v5,hv5,hr⟩:=aA hr
 refine gb hv5 ?_
 refine iW hr (fun hc hr=> ?_) fun hc hr=> ?_
 ·obtain ⟨aut,hr⟩:=aN hr
  obtain ⟨aus,hr⟩:=aN hr
  obtain ⟨v6,hv6,hr⟩:=aA hr
  obtain ⟨v7,hv7,hr⟩:=aA hr
  refine gb hv6 ?_
  refine gb hv7 ?_
  refine iW hr (fun hc hr=> ?_) fun hc hr=> ?_
  ·obtain ⟨y5,hr⟩:=aN hr
   obtain ⟨JH,hr⟩:=aN hr
   obtain ⟨v8,JC,hr⟩:=aA hr
   refine gb JC ?_
   refine S.prune [2,3,4,6] ?_
   refine S.gx [] ?_
   exact D0 hr
  ·refine gr ?_
   refine S.prune [2,3,4,6] ?_
   refine S.gx [] ?_
   exact D0 hr
 ·obtain ⟨v19,JE,hr⟩:=aA hr
  refine gb JE ?_
  refine iW hr (fun hc hr=> ?_) fun hc hr=> ?_
  ·obtain ⟨abn,hr⟩:=aN hr
   obtain ⟨auq,hr⟩:=aN hr
   obtain ⟨v20,JD,hr⟩:=aA hr
   refine gb JD ?_
   refine S.prune [2,3,4,6] ?_
   refine S.gx [] ?_
   exact D0 hr
  ·refine gr ?_
   refine S.prune [2,3,4,6] ?_
   refine S.gx [] ?_
   exact D0 hr
def Sv (x0 x1 x2 x3 x4 x5 x6 x7 x8 x9 x10 x11 x12 dO:Int):Bd (Int×Int×Int×Int×Int×Int×Int×Int×Int×Int×Int×Int×Int×Int×Int) (Int×Int×Int×Int×Int×Int×Int×Int×Int×Int×Int×Int×Int×Int):=fun s1=>
 if (decide (s1.1<7))=true then
  if s1.1=0 then
   .next (1,(if x0<s1.2.1 then x0 else s1.2.1),(if s1.2.2.1<x1 then x1 else s1.2.2.1),s1.2.2.2.1,s1.2.2.2.2.1,s1.2.2.2.2.2.1,s1.2.2.2.2.2.2.1,s1.2.2.2.2.2.2.2.1,s1.2.2.2.2.2.2.2.2.1,s1.2.2.2.2.2.2.2.2.2.1,s1.2.2.2.2.2.2.2.2.2.2.1,s1.2.2.2.2.2.2.2.2.2.2.2.1,s1.2.2.2.2.2.2.2.2.2.2.2.2.1,s1.2.2.2.2.2.2.2.2.2.2.2.2.2.1,s1.2.2.2.2.2.2.2.2.2.2.2.2.2.2)
   else if s1.1=1 then
    .next (2,s1.2.1,s1.2.2.1,(if x2<s1.2.2.2.1 then x2 else s1.2.2.2.1),(if s1.2.2.2.2.1<x3 then x3 else s1.2.2.2.2.1),s1.2.2.2.2.2.1,s1.2.2.2.2.2.2.1,s1.2.2.2.2.2.2.2.1,s1.2.2.2.2.2.2.2.2.1,s1.2.2.2.2.2.2.2.2.2.1,s1.2.2.2.2.2.2.2.2.2.2.1,s1.2.2.2.2.2.2.2.2.2.2.2.1,s1.2.2.2.2.2.2.2.2.2.2.2.2.1,s1.2.2.2.2.2.2.2.2.2.2.2.2.2.1,s1.2.2.2.2.2.2.2.2.2.2.2.2.2.2)
    else if s1.1=2 then
     .next (3,s1.2.1,s1.2.2.1,s1.2.2.2.1,s1.2.2.2.2.1,(if x4<s1.2.2.2.2.2.1 then x4 else s1.2.2.2.2.2.1),(if s1.2.2.2.2.2.2.1<x5 then x5 else s1.2.2.2.2.2.2.1),s1.2.2.2.2.2.2.2.1,s1.2.2.2.2.2.2.2.2.1,s1.2.2.2.2.2.2.2.2.2.1,s1.2.2.2.2.2.2.2.2.2.2.1,s1.2.2.2.2.2.2.2.2.2.2.2.1,s1.2.2.2.2.2.2.2.2.2.2.2.2.1,s1.2.2.2.2.2.2.2.2.2.2.2.2.2.1,s1.2.2.2.2.2.2.2.2.2.2.2.2.2.2)
     else if s1.1=3 then
      .next (4,s1.2.1,s1.2.2.1,s1.2.2.2.1,s1.2.2.2.2.1,s1.2.2.2.2.2.1,s1.2.2.2.2.2.2.1,(if x6<s1.2.2.2.2.2.2.2.1 then x6 else s1.2.2.2.2.2.2.2.1),(if s1.2.2.2.2.2.2.2.2.1<x7 then x7 else s1.2.2.2.2.2.2.2.2.1),s1.2.2.2.2.2.2.2.2.2.1,s1.2.2.2.2.2.2.2.2.2.2.1,s1.2.2.2.2.2.2.2.2.2.2.2.1,s1.2.2.2.2.2.2.2.2.2.2.2.2.1,s1.2.2.2.2.2.2.2.2.2.2.2.2.2.1,s1.2.2.2.2.2.2.2.2.2.2.2.2.2.2)
      else if s1.1=4 then
       .next (5,s1.2.1,s1.2.2.1,s1.2.2.2.1,s1.2.2.2.2.1,s1.2.2.2.2.2.1,s1.2.2.2.2.2.2.1,s1.2.2.2.2.2.2.2.1,s1.2.2.2.2.2.2.2.2.1,(if x8<s1.2.2.2.2.2.2.2.2.2.1 then x8 else s1.2.2.2.2.2.2.2.2.2.1),(if s1.2.2.2.2.2.2.2.2.2.2.1<x9 then x9 else s1.2.2.2.2.2.2.2.2.2.2.1),s1.2.2.2.2.2.2.2.2.2.2.2.1,s1.2.2.2.2.2.2.2.2.2.2.2.2.1,s1.2.2.2.2.2.2.2.2.2.2.2.2.2.1,s1.2.2.2.2.2.2.2.2.2.2.2.2.2.2)
       else if s1.1=5 then
        .next (6,s1.2.1,s1.2.2.1,s1.2.2.2.1,s1.2.2.2.2.1,s1.2.2.2.2.2.1,s1.2.2.2.2.2.2.1,s1.2.2.2.2.2.2.2.1,s1.2.2.2.2.2.2.2.2.1,s1.2.2.2.2.2.2.2.2.2.1,s1.2.2.2.2.2.2.2.2.2.2.1,(if x10<s1.2.2.2.2.2.2.2.2.2.2.2.1 then x10 else s1.2.2.2.2.2.2.2.2.2.2.2.1),(if s1.2.2.2.2.2.2.2.2.2.2.2.2.1<x11 then x11 else s1.2.2.2.2.2.2.2.2.2.2.2.2.1),s1.2.2.2.2.2.2.2.2.2.2.2.2.2.1,s1.2.2.2.2.2.2.2.2.2.2.2.2.2.2)
        else if s1.1=6 then
         .next (7,s1.2.1,s1.2.2.1,s1.2.2.2.1,s1.2.2.2.2.1,s1.2.2.2.2.2.1,s1.2.2.2.2.2.2.1,s1.2.2.2.2.2.2.2.1,s1.2.2.2.2.2.2.2.2.1,s1.2.2.2.2.2.2.2.2.2.1,s1.2.2.2.2.2.2.2.2.2.2.1,s1.2.2.2.2.2.2.2.2.2.2.2.1,s1.2.2.2.2.2.2.2.2.2.2.2.2.1,(if x12<s1.2.2.2.2.2.2.2.2.2.2.2.2.2.1 then x12 else s1.2.2.2.2.2.2.2.2.2.2.2.2.2.1),(if s1.2.2.2.2.2.2.2.2.2.2.2.2.2.2<dO then dO else s1.2.2.2.2.2.2.2.2.2.2.2.2.2.2))
         else .out none
  else .out (some (s1.2.1,s1.2.2.1,s1.2.2.2.1,s1.2.2.2.2.1,s1.2.2.2.2.2.1,s1.2.2.2.2.2.2.1,s1.2.2.2.2.2.2.2.1,s1.2.2.2.2.2.2.2.2.1,s1.2.2.2.2.2.2.2.2.2.1,s1.2.2.2.2.2.2.2.2.2.2.1,s1.2.2.2.2.2.2.2.2.2.2.2.1,s1.2.2.2.2.2.2.2.2.2.2.2.2.1,s1.2.2.2.2.2.2.2.2.2.2.2.2.2.1,s1.2.2.2.2.2.2.2.2.2.2.2.2.2.2))
def aiy (x14 x15 x16 x17 x18 x19 x20 x21 su x23 x24 x25 F5 x27 x0 x1 x2 x3 x4 x5 x6 x7 x8 x9 x10 x11 x12 dO:Int):Option (Int×Int×Int×Int×Int×Int×Int×Int×Int×Int×Int×Int×Int×Int):=
 aS (Sv x0 x1 x2 x3 x4 x5 x6 x7 x8 x9 x10 x11 x12 dO) 1000000000 (0,x14,x15,x16,x17,x18,x19,x20,x21,su,x23,x24,x25,F5,x27)
@[go_sem] def avx:=asl Jh false aiy
def agx:oD:=lk []
theorem Lr:dS Tryz.prog agx:=dS.nil
theorem f204:aF Tryz.prog 204 avx.sp:=by
 refine vm (tb:=agx) .nil Tryz.func204 Tryz.ntmps204 fun ⟨x14,x15,x16,x17,x18,x19,x20,x21,su,x23,x24,x25,F5,x27,x0,x1,x2,x3,x4,x5,x6,x7,x8,x9,x10,x11,x12,dO⟩ r hr stop S=> ?_
 rw [al1,aiy] at hr
 refine S.gx [1,2,4,6] ?_
 refine gr ?_
 refine S.inl 0 [2,4] [] Tryz.func174 (by decide) rfl Tryz.ntmps174 (fun cx e=>aX bP Lr cx e) (some 8) rfl rfl rfl rfl (nL rfl) (nL rfl) ?_
 refine gs ?_
 refine gr ?_
 intro stop1 S1
 refine S1.gx [] ?_
 refine gr ?_
 refine gr ?_
 refine S.gx [1,2,4,6] ?_
 refine gr ?_
 refine S.inl 0 [2,4,5] [] Tryz.func174 (by decide) rfl Tryz.ntmps174 (fun cx e=>aX bP Lr cx e) (some 9) rfl rfl rfl rfl (nL rfl) (nL rfl) ?_
 refine gs ?_
 refine gr ?_
 intro stop1 S1
 refine S1.gx [] ?_
 refine gr ?_
 refine gr ?_
 refine S.gx [1,2,4,6] ?_
 refine gr ?_
 refine S.sees [2,4,5,9,10] [(2,2),(4,4),(5,5),(3,3)] [] ?_ (Stop.iter S (fun s1=>⟨[(2,.c (.ref 2 0)),(4,.c (.ref 4 0)),(5,.c (.ref 5 0)),(9,.agg [.ref 2 0,.ref 2 2,.ref 2 4,.ref 2 6,.ref 2 8,.ref 2 10,.ref 2 12]),(10,.c (.d (.int .i64 s1.1)))],[(2,[.d (.int .i64 s1.2.1),.d (.int .i64 s1.2.2.1),.d (.int .i64 s1.2.2.2.1),.d (.int .i64 s1.2.2.2.2.1),.d (.int .i64 s1.2.2.2.2.2.1),.d (.int .i64 s1.2.2.2.2.2.2.1),.d (.int .i64 s1.2.2.2.2.2.2.2.1),.d (.int .i64 s1.2.2.2.2.2.2.2.2.1),.d (.int .i64 s1.2.2.2.2.2.2.2.2.2.1),.d (.int .i64 s1.2.2.2.2.2.2.2.2.2.2.1),.d (.int .i64 s1.2.2.2.2.2.2.2.2.2.2.2.1),.d (.int .i64 s1.2.2.2.2.2.2.2.2.2.2.2.2.1),.d (.int .i64 s1.2.2.2.2.2.2.2.2.2.2.2.2.2.1),.d (.int .i64 s1.2.2.2.2.2.2.2.2.2.2.2.2.2.2)]),(4,[.d (.int .i64 0),.d (.int .i64 0),.d (.int .i64 0),.d (.int .i64 0),.d (.int .i64 0),.d (.int .i64 0),.d (.int .i64 0),.d (.int .i64 0),.d (.int .i64 0),.d (.int .i64 0),.d (.int .i64 0),.d (.int .i64 0),.d (.int .i64 0),.d (.int .i64 0)]),(5,[.ref 3 0,.ref 3 2,.ref 3 4,.ref 3 6,.ref 3 8,.ref 3 10,.ref 3 12]),(3,[.d (.int .i64 x0),.d (.int .i64 x1),.d (.int .i64 x2),.d (.int .i64 x3),.d (.int .i64 x4),.d (.int .i64 x5),.d (.int .i64 x6),.d (.int .i64 x7),.d (.int .i64 x8),.d (.int .i64 x9),.d (.int .i64 x10),.d (.int .i64 x11),.d (.int .i64 x12),.d (.int .i64 dO)])],[]⟩) (Sv x0 x1 x2 x3 x4 x5 x6 x7 x8 x9 x10 x11 x12 dO) (fun q=>q=r) hr rfl ?_)
 ·exact lf
 ·intro s1 hr
  unfold Sv at hr
  refine S.gx [1,2,4,6] ?_
  refine gr ?_
  refine cZ hr (fun hc hr=> ?_) fun hc hr=>D0 hr
  refine gr ?_
  by_cases hs7:s1.1=0
  ·rw [if_pos hs7] at hr
   simp only [hs7]
   refine S.gx [1,2,6] ?_
   refine gr ?_
   refine gr ?_
   refine S.prune [2,4,5,9,10] ?_
   refine S.gx [1,2,4] ?_
   exact D1 (S.ss [2,4,5,9,10] [(2,2),(4,4),(5,5),(3,3)] []) hr
  ·rw [if_neg hs7] at hr
   by_cases hs6:s1.1=1
   ·rw [if_pos hs6] at hr
    simp only [hs6]
    refine S.gx [1,2,6] ?_
    refine gr ?_
    refine gr ?_
    refine S.prune [2,4,5,9,10] ?_
    refine S.gx [1,2,4] ?_
    exact D1 (S.ss [2,4,5,9,10] [(2,2),(4,4),(5,5),(3,3)] []) hr
   ·rw [if_neg hs6] at hr
    by_cases hs5:s1.1=2
    ·rw [if_pos hs5] at hr
     simp only [hs5]
     refine S.gx [1,2,6] ?_
     refine gr ?_
     refine gr ?_
     refine S.prune [2,4,5,9,10] ?_
     refine S.gx [1,2,4] ?_
     exact D1 (S.ss [2,4,5,9,10] [(2,2),(4,4),(5,5),(3,3)] []) hr
    ·rw [if_neg hs5] at hr
     by_cases hs4:s1.1=3
     ·rw [if_pos hs4] at hr
      simp only [hs4]
      refine S.gx [1,2,6] ?_
      refine gr ?_
      refine gr ?_
      refine S.prune [2,4,5,9,10] ?_
      refine S.gx [1,2,4] ?_
      exact D1 (S.ss [2,4,5,9,10] [(2,2),(4,4),(5,5),(3,3)] []) hr
     ·rw [if_neg hs4] at hr
      by_cases hs3:s1.1=4
      ·rw [if_pos hs3] at hr
       simp only [hs3]
       refine S.gx [1,2,6] ?_
       refine gr ?_
       refine gr ?_
       refine S.prune [2,4,5,9,10] ?_
       refine S.gx [1,2,4] ?_
       exact D1 (S.ss [2,4,5,9,10] [(2,2),(4,4),(5,5),(3,3)] []) hr
      ·rw [if_neg hs3] at hr
       by_cases hs2:s1.1=5
       ·rw [if_pos hs2] at hr
        simp only [hs2]
        refine S.gx [1,2,6] ?_
        refine gr ?_
        refine gr ?_
        refine S.prune [2,4,5,9,10] ?_
        refine S.gx [1,2,4] ?_
        exact D1 (S.ss [2,4,5,9,10] [(2,2),(4,4),(5,5),(3,3)] []) hr
       ·rw [if_neg hs2] at hr
        by_cases hs1:s1.1=6
        ·rw [if_pos hs1] at hr
         simp only [hs1]
         refine S.gx [1,2,6] ?_
         refine gr ?_
         refine gr ?_
         refine S.prune [2,4,5,9,10] ?_
         refine S.gx [1,2,4] ?_
         exact D1 (S.ss [2,4,5,9,10] [(2,2),(4,4),(5,5),(3,3)] []) hr
        ·rw [if_neg hs1] at hr
         first | cases hr | exact hr.elim
def SA (x0:bD) (x1:aY) (x2:bC) (x3:au) (x4 x5 x6 x7 x8 x9 x10 x11 x12 dO x14 x15 x16 x17 x18 x19 x20 x21 su:Int):Bd (Int×Int×Int×Int×Int×Int×Int×Int×Int×Int×Int×Int×Int×Int×Int) (Int×Int×Int×Int×Int×Int×Int×Int×Int×Int×Int×Int×Int×Int):=fun s1=>
 if (decide (s1.1<=su))=true then
  aP (aeN x0 x1 x2 x3 x4 x5 x6 x7 x8 x9 x10 x11 x12 dO x14 x15 x16 x17 x18 x19 x20 x21 s1.1) fun v2=>
   aP (aiy s1.2.1 s1.2.2.1 s1.2.2.2.1 s1.2.2.2.2.1 s1.2.2.2.2.2.1 s1.2.2.2.2.2.2.1 s1.2.2.2.2.2.2.2.1 s1.2.2.2.2.2.2.2.2.1 s1.2.2.2.2.2.2.2.2.2.1 s1.2.2.2.2.2.2.2.2.2.2.1 s1.2.2.2.2.2.2.2.2.2.2.2.1 s1.2.2.2.2.2.2.2.2.2.2.2.2.1 s1.2.2.2.2.2.2.2.2.2.2.2.2.2.1 s1.2.2.2.2.2.2.2.2.2.2.2.2.2.2 v2.1 v2.2.1 v2.2.2.1 v2.2.2.2.1 v2.2.2.2.2.1 v2.2.2.2.2.2.1 v2.2.2.2.2.2.2.1 v2.2.2.2.2.2.2.2.1 v2.2.2.2.2.2.2.2.2.1 v2.2.2.2.2.2.2.2.2.2.1 v2.2.2.2.2.2.2.2.2.2.2.1 v2.2.2.2.2.2.2.2.2.2.2.2.1 v2.2.2.2.2.2.2.2.2.2.2.2.2.1 v2.2.2.2.2.2.2.2.2.2.2.2.2.2) fun v3=>
    .next (IntKind.i64.wrap (s1.1+1),v3.1,v3.2.1,v3.2.2.1,v3.2.2.2.1,v3.2.2.2.2.1,v3.2.2.2.2.2.1,v3.2.2.2.2.2.2.1,v3.2.2.2.2.2.2.2.1,v3.2.2.2.2.2.2.2.2.1,v3.2.2.2.2.2.2.2.2.2.1,v3.2.2.2.2.2.2.2.2.2.2.1,v3.2.2.2.2.2.2.2.2.2.2.2.1,v3.2.2.2.2.2.2.2.2.2.2.2.2.1,v3.2.2.2.2.2.2.2.2.2.2.2.2.2)
  else .out (some (s1.2.1,s1.2.2.1,s1.2.2.2.1,s1.2.2.2.2.1,s1.2.2.2.2.2.1,s1.2.2.2.2.2.2.1,s1.2.2.2.2.2.2.2.1,s1.2.2.2.2.2.2.2.2.1,s1.2.2.2.2.2.2.2.2.2.1,s1.2.2.2.2.2.2.2.2.2.2.1,s1.2.2.2.2.2.2.2.2.2.2.2.1,s1.2.2.2.2.2.2.2.2.2.2.2.2.1,s1.2.2.2.2.2.2.2.2.2.2.2.2.2.1,s1.2.2.2.2.2.2.2.2.2.2.2.2.2.2))
def aiE (x0:bD) (x1:aY) (x2:bC) (x3:au) (x4 x5 x6 x7 x8 x9 x10 x11 x12 dO x14 x15 x16 x17 x18 x19 x20 x21 x23 su:Int):Option (Int×Int×Int×Int×Int×Int×Int×Int×Int×Int×Int×Int×Int×Int):=
 (aeN x0 x1 x2 x3 x4 x5 x6 x7 x8 x9 x10 x11 x12 dO x14 x15 x16 x17 x18 x19 x20 x21 x23).bind fun v1=>
  aS (SA x0 x1 x2 x3 x4 x5 x6 x7 x8 x9 x10 x11 x12 dO x14 x15 x16 x17 x18 x19 x20 x21 su) 1000000000 (IntKind.i64.wrap (x23+1),v1.1,v1.2.1,v1.2.2.1,v1.2.2.2.1,v1.2.2.2.2.1,v1.2.2.2.2.2.1,v1.2.2.2.2.2.2.1,v1.2.2.2.2.2.2.2.1,v1.2.2.2.2.2.2.2.2.1,v1.2.2.2.2.2.2.2.2.2.1,v1.2.2.2.2.2.2.2.2.2.2.1,v1.2.2.2.2.2.2.2.2.2.2.2.1,v1.2.2.2.2.2.2.2.2.2.2.2.2.1,v1.2.2.2.2.2.2.2.2.2.2.2.2.2)
@[go_sem] def avN:=asj Jh false aiE
@[go_sem] def an3 (k:Nat):=lk [(203,avy.sp),(204,avx.sp)] k
theorem f179:aF Tryz.prog 179 avN.sp:=by
 refine vm (tb:=an3) (.cons f203 (.cons f204 .nil)) Tryz.func179 Tryz.ntmps179 fun ⟨x0,x1,x2,x3,x4,x5,x6,x7,x8,x9,x10,x11,x12,dO,x14,x15,x16,x17,x18,x19,x20,x21,x23,su⟩ r hr stop S=> ?_
 rw [al2,aiE] at hr
 refine S.gx [] ?_
 obtain ⟨v1,hv1,hr⟩:=aA hr
 refine gb hv1 ?_
 refine S.sees [3,4,5,6,7,8] [(3,3),(4,4),(5,5),(6,6),(7,7)] [] ?_ (Stop.iter S (fun s1=>⟨[(3,.c (.ref 3 0)),(4,.c (.ref 4 0)),(5,.c (.ref 5 0)),(6,.c (.ref 6 0)),(7,.c (.ref 7 0)),(8,.c (.d (.int .i64 s1.1)))],[(3,[.d (ah 4 dh x0),.d (ah 5 bT x1),.d (ah 3 dn x2),.d (ah 2 aT x3),.d (.int .i64 x4),.d (.int .i64 x5),.d (.int .i64 x6),.d (.int .i64 x7)]),(4,[.d (.int .i64 x8),.d (.int .i64 x9),.d (.int .i64 x10),.d (.int .i64 x11),.d (.int .i64 x12),.d (.int .i64 dO),.d (.int .i64 x14),.d (.int .i64 x15),.d (.int .i64 x16),.d (.int .i64 x17),.d (.int .i64 x18),.d (.int .i64 x19),.d (.int .i64 x20),.d (.int .i64 x21)]),(5,[.d (.int .i64 x23),.d (.int .i64 su)]),(6,[.d (.int .i64 0),.d (.int .i64 0),.d (.int .i64 0),.d (.int .i64 0),.d (.int .i64 0),.d (.int .i64 0),.d (.int .i64 0),.d (.int .i64 0),.d (.int .i64 0),.d (.int .i64 0),.d (.int .i64 0),.d (.int .i64 0),.d (.int .i64 0),.d (.int .i64 0)]),(7,[.d (.int .i64 s1.2.1),.d (.int .i64 s1.2.2.1),.d (.int .i64 s1.2.2.2.1),.d (.int .i64 s1.2.2.2.2.1),.d (.int .i64 s1.2.2.2.2.2.1),.d (.int .i64 s1.2.2.2.2.2.2.1),.d (.int .i64 s1.2.2.2.2.2.2.2.1),.d (.int .i64 s1.2.2.2.2.2.2.2.2.1),.d (.int .i64 s1.2.2.2.2.2.2.2.2.2.1),.d (.int .i64 s1.2.2.2.2.2.2.2.2.2.2.1),.d (.int .i64 s1.2.2.2.2.2.2.2.2.2.2.2.1),.d (.int .i64 s1.2.2.2.2.2.2.2.2.2.2.2.2.1),.d (.int .i64 s1.2.2.2.2.2.2.2.2.2.2.2.2.2.1),.d (.int .i64 s1.2.2.2.2.2.2.2.2.2.2.2.2.2.2)])],[]⟩) (SA x0 x1 x2 x3 x4 x5 x6 x7 x8 x9 x10 x11 x12 dO x14 x15 x16 x17 x18 x19 x20 x21 su) (fun q=>q=r) hr rfl ?_)
 ·exact lf
 ·intro s1 hr
  unfold SA at hr
  refine S.gx [] ?_
  exact D1 (S.ss [3,4,5,6,7,8] [(3,3),(4,4),(5,5),(6,6),(7,7)] []) hr
end Go.Proofs.YtkbdjphdhcgmaaaGreatDoor

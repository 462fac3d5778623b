/- The boxes of spans, by the code and by the reference. -/
import Derived.Test.YtnepigpnlnmlmaaGreatDoorF06
import Derived.Test.YtnepigpnlnmlmaaGreatDoorHeatD
import Derived.Test.YtnepigpnlnmlmaaGreatDoorF02
import Derived.Test.YtnepigpnlnmlmaaGreatDoorF03
import Derived.Test.YtnepigpnlnmlmaaGreatDoorF18
import Derived.Test.YtnepigpnlnmlmaaGreatDoorF10
set_option linter.unusedVariables false
set_option linter.unusedSimpArgs false
namespace Go.Proofs.YtnepigpnlnmlmaaGreatDoor
open Go.dR
theorem aCX (a b:Int) (T:aA) (L:au) (lo hi:aV) (hT:T.length<1000) (hn:L.length<1000) (hL:∀ x∈L,x.length<1000) (h1:lo.length<1000000) (h2:hi.length<1000000):abX a b T L lo hi=some (Bz a b T L lo hi):=by
 unfold abX Bz
 rw [akY a b T L hT hn hL,Option.bind_some]
 by_cases h:(bH a b T L).2=0
 ·have ok:=uX h
  rw [if_pos h,if_pos h]
  simp only
  rw [if_pos (by rfl),au2 ok lo hi h1 h2,Option.bind_some]
 rw [if_neg h,if_neg h]
 simp only
 rw [if_neg (by simpa using h)]
theorem aCW (a b:Int) (T:aA) (L:au) (T':aA) (L':au) (ps:aA) (lo hi:Int) (h:L'.length<1000) (hl:ps.length<1000000):abJ a b T L T' L' ps lo hi=some (iL a L' ps lo hi):=by
 unfold abJ iL
 rw [p94,Option.bind_some]
 have hh:=GL (fuel:=1000000000) ps (Ce a b T L T' L' ps lo hi) (λi e=>(e,(i:Int))) (λr e=>some (fV e (fV (oK r) (Qn L' lo hi)))) (λ_ _=>True) (by omega) (λi e r hi' _ _=>by
  left
  refine ⟨fV e (F5 (ps.getD i default)),?_,trivial,?_⟩
  ·simp only [Ce,kK hi',if_true,if_pos (iK hi'),Int.toNat_natCast,wS i (by omega),aCO,p94,aW,Option.isSome_some,Option.getD_some,implies_true]
   rw [p91 _ (by simp)]
   simp only [qG]
   rw [show bC []=0 from rfl,qH]
   rfl
  ·simp only [oK]
   rw [tJ,tJ]) (λe _=>by
  simp only [Ce]
  rw [if_neg (by simp),auW a b T L T' L' lo h,Option.bind_some,auW a b T L T' L' hi h,Option.bind_some,p94,Option.bind_some,p91 _ (by simp),Option.bind_some]
  simp only [qG,oK,Qn]
  rw [show bC []=0 from rfl,qH]
  rfl) (bG ((ps.length:Int) == a) 10) trivial
 rw [show ((0:Nat):Int)=0 from rfl] at hh
 exact hh
theorem aCU (a b:Int) (T:aA) (L:au) (T':aA) (L':au) (l:List ((aA)×Int×Int)) (h:L'.length<1000) (hl:l.length<1000000) (hdl:∀ d∈l,d.1.length<1000000):abW a b T L T' L' l=some (kL a L' l):=by
 unfold abW kL
 rw [p94,Option.bind_some]
 have hh:=GL (fuel:=1000000000) l (CJ a b T L T' L' l) (λi e=>(e,(i:Int))) (λr e=>some (fV e (uV a L' r))) (λ_ _=>True) (by omega) (λi e r hi _ _=>by
  left
  refine ⟨fV e (iL a L' (l.getD i default).1 (l.getD i default).2.1 (l.getD i default).2.2),?_,trivial,?_⟩
  ·simp only [CJ,kK hi,if_true,if_pos (iK hi),Int.toNat_natCast,wS i (by omega),aCW a b T L T' L' (l.getD i default).1 _ _ h (by have:=hdl _ (getD_mem hi); omega),aW]
   rw [p91 _ (by simp)]
   simp only [qG]
   rw [show bC []=0 from rfl,qH]
   rfl
  ·simp only [uV]
   rw [tJ]) (λe _=>by
  simp only [CJ]
  rw [if_neg (by simp)]
  simp only [uV]
  rw [qH]) (bG (decide ((l.length:Int)<=200)) 8) trivial
 rw [show ((0:Nat):Int)=0 from rfl] at hh
 exact hh
theorem aCH (ps:aA) (lo hi:Int) (hl:ps.length<1000000):abG ps lo hi=some (ps.map (·.1),hi,ps.map (·.2),lo):=by
 unfold abG
 have hm:∀ (f:Int×Int->Int) i,i<ps.length->(ps.map f).take (i+1)=(ps.map f).take i++[f (ps.getD i default)]:=λf i hi=>by
  rw [uS _ i (by simpa using hi)]
  congr 2
  simp [List.getD_eq_getElem?_getD,hi]
 refine mM ps.length (Cb ps lo hi) (λi=>((i:Int),(ps.map (·.1)).take i,(ps.map (·.2)).take i)) _ (by omega) (λi hi'=> ?_) ?_
 ·have h1:((ps.map (·.1)).take i).length=i:=by simp; omega
  have h2:((ps.map (·.2)).take i).length=i:=by simp; omega
  simp only [Cb,kK hi',if_true,if_pos (iK hi'),Int.toNat_natCast,wS i (by omega)]
  rw [if_pos ⟨by omega,by omega⟩,if_pos ⟨by omega,by omega⟩,hm (·.1) i hi',hm (·.2) i hi']
  rfl
 simp only [Cb]
 rw [if_neg (by simp),List.take_of_length_le (by simp),List.take_of_length_le (by simp)]
theorem aCV {a b:Int} {T:aA} {L:au} {lo hi:aV} (H:BoxOk a b T L lo hi) {d:(aA)×Int×Int} (hd:iL a L d.1 d.2.1 d.2.2=0):abI a b T L T L lo hi d.1 d.2.1 d.2.2=some (bxR (boxS b T L lo hi d)):=by
 have S:=LW hd
 have h3:=H.lo.ok.cells
 have h4:=S.len
 obtain ⟨s1,s2⟩:=af7 H hd
 unfold abI
 rw [aCH d.1 _ _ (by omega),Option.bind_some]
 simp only
 rw [p96 H.lo.ok s1,Option.bind_some,p96 H.lo.ok s2,Option.bind_some,p91 _ (by simp),Option.bind_some,aho]
 unfold boxS
 generalize uM b T (L.getD d.2.2.toNat default) lo (d.1.map (·.1))=o1
 generalize uM b T (L.getD d.2.1.toNat default) hi (d.1.map (·.2))=o2
 by_cases c1:o1.all (inT T)=true
 ·by_cases c2:o2.all (inT T)=true
  ·have e:(if o1.all (inT T)=true/\o2.all (inT T)=true then some (o1,o2) else none)=some (o1,o2):=if_pos ⟨c1,c2⟩
   rw [e,if_pos c1,if_pos c2]; rfl
  have e:(if o1.all (inT T)=true/\o2.all (inT T)=true then some (o1,o2) else none)=none:=if_neg (λh=>c2 h.2)
  rw [e,if_pos c1,if_neg c2]; rfl
 have e:(if o1.all (inT T)=true/\o2.all (inT T)=true then some (o1,o2) else none)=none:=if_neg (λh=>c1 h.1)
 rw [e,if_neg c1]
 by_cases c2:o2.all (inT T)=true
 ·rw [if_pos c2]; rfl
 rw [if_neg c2]; rfl
theorem aCT {a b:Int} {T:aA} {L:au} {lo hi:aV} {l:List ((aA)×Int×Int)} (H:BoxOk a b T L lo hi) (hz:kL a L l=0):Ze a b T L T L lo hi l=some (bxF (jk b T L lo hi l) []):=by
 obtain ⟨aI7,hok⟩:=zG hz
 unfold Ze
 refine GL (τ:=List (aV×aV)×aV×aV) l (CG a b T L T L l) (λi t=>(t.1,(i:Int),t.2.1,t.2.2)) (λr t=>some (bxF (jk b T L t.2.1 t.2.2 r) t.1)) (λi t=>t.1.length=i/\BoxOk a b T L t.2.1 t.2.2) (by omega) ?_ ?_ ([],lo,hi) ⟨rfl,H⟩
 ·rintro i ⟨out,lo',hi'⟩ r hi ⟨hlen,R⟩ hdr
  simp only at hlen R
  have hd1:=hok _ (getD_mem hi)
  simp only [CG,kK hi,if_true,if_pos (iK hi),Int.toNat_natCast,wS i (by omega),aCV R hd1,aW]
  cases hb:boxS b T L lo' hi' (l.getD i default) with
  | none=>
   right
   rw [YT hb]; rfl
  | some y=>
   left
   rw [show bxR (some y)=(y.1,y.2,0) from rfl,if_neg (show ¬ (((y.1,y.2,(0:Int)).2.2 != 0)=true) by simp),if_pos ⟨by omega,by omega⟩]
   exact ⟨(out++[y],y.1,y.2),rfl,⟨by simp [hlen],R.next hd1 hb⟩,by rw [(aeU hb).1]⟩
 rintro ⟨out,lo',hi'⟩ R
 simp only [CG]
 rw [if_neg (by simp)]
 simp [jk,bxF]
def NZ (a b:Int) (T:aA) (L:au) (lo hi:aV) (l:List ((aA)×Int×Int)):List (aV×aV)×Int:=
 if jQ a b T L lo hi=0 then (if kL a L l=0 then bxF (jk b T L lo hi l) [] else ([],kL a L l)) else ([],jQ a b T L lo hi)
theorem p43 (a b:Int) (T:aA) (L:au) (lo hi:aV) (l:List ((aA)×Int×Int)) (hT:T.length<1000) (hn:L.length<1000) (hL:∀ x∈L,x.length<1000) (h1:lo.length<1000000) (h2:hi.length<1000000) (hl:l.length<1000000) (hdl:∀ d∈l,d.1.length<1000000) :
 ace a b T L lo hi l=some (NZ a b T L lo hi l):=by
 unfold ace NZ
 rw [aCX a b T L lo hi hT hn hL h1 h2,Option.bind_some]
 by_cases h:jQ a b T L lo hi=0
 ·have H:=Rx h
  rw [Zu h,if_pos (by rfl),if_pos h]
  simp only
  rw [aCU a b T L T L l hn hl hdl,Option.bind_some]
  by_cases hz:kL a L l=0
  ·rw [if_neg (by simpa using hz),if_pos hz,aCT H hz,Option.bind_some]
  rw [if_pos (by simpa using hz),if_neg hz]
 have ho:=Ui a b T L lo hi
 rw [if_neg h,if_neg (by rw [ho]; simpa using h),if_pos (by rw [ho]; simpa using h),ho]
abbrev TL:=aA
structure wE (a b:Int) (T:TL) (L:au) (lo hi:aV) (W:TL) (dQ spread:Int):Prop where
 box:BoxOk a b T L lo hi
 bx0:jQ a b T L lo hi=0
 ank:(W.length:Int)=a
 wts:∀ w∈W,(0<=w.1/\w.1<=1000)/\(0<=w.2/\w.2<=1000)/\w.1<=w.2
 dQ:0<=dQ/\dQ<L.length
 spread:0<=spread/\spread<=4
theorem wI1 {n:Nat} (h:n<1000):IntKind.i64.wrap ((n:Int) - 1)=(n:Int) - 1:=IntWalk.i64_in _ ⟨by omega,by omega⟩
theorem dL {n lo hi:Int}:dn n lo hi=true↔lo<=n/\n<=hi:=by simp [dn]
theorem ai2 (a b:Int) (T:TL) (L:au) (lo hi:aV) (W:TL) (dQ spread n:Int) (hn:L.length<1000):r89 a b T L lo hi W dQ spread n=some (dn n 0 ((L.length:Int) - 1)):=by
 unfold r89
 rw [wI1 hn,p59]; rfl
theorem unl (c:Bool) (e:Int):xu c e=some (bG c e):=by unfold xu bG; cases c<;>rfl
theorem fst (l:aV) (hl:l.length<1000000000):r64 l=some (bC l):=by
 have h:=eU (τ:=Unit) l (KX l) (λi _=>i) (λ_ _ x=>if x=0 then .next () else .out (some x)) (λ_=>some 0) hl
  (λi t hi=>by
   simp only [KX,kK hi,if_true,if_pos (iK hi),Int.toNat_natCast,wS i (by omega)]
   generalize l.getD i default=x
   by_cases hx:x=0<;>simp [hx,uN])
  (λt=>by simp [KX]) ()
 unfold r64
 rw [h]
 have:∀ (r:aV) (i:Int),dV (λ_ _ x=>if x=0 then eY.next () else .out (some x)) (λ_:Unit=>some 0) i r ()=some (bC r):=by
  intro r
  induction r with
  | nil=>intro i; rfl
  | cons x r ih=>
   intro i
   by_cases hx:x=0
   ·simp only [dV,hx,if_true,bC]; exact ih _
   simp only [dV,if_neg hx,bC]
 exact this l 0
theorem wit (n lo hi:Int):IL n lo hi=some (dn n lo hi):=(rfl)
theorem wE.few {a b:Int} {T:TL} {L:au} {lo hi:aV} {W:TL} {dQ spread:Int} (B:wE a b T L lo hi W dQ spread):T.length<1000/\L.length<1000/\(∀ x∈L,x.length<1000)/\lo.length<=12/\hi.length<=12/\W.length<=12:=by
 have ok:=B.box.lo.ok
 have h1:=B.box.lo.len; have h2:=B.box.hi.len; have h3:=B.ank; have h4:=ok.cells; have h5:=ok.LJ; have h6:=ok.llen
 refine ⟨by omega,by omega,λx hx=> ?_,by omega,by omega,by omega⟩
 obtain ⟨j,hj,rfl⟩:=List.getElem_of_mem hx
 have:=(ok.laws j hj).len
 rw [List.getD_eq_getElem?_getD,List.getElem?_eq_getElem hj,Option.getD_some] at this
 omega
def xX (L:au) (t:TL):Prop:=t.length<=200/\∀ x∈t,(0<=x.1/\x.1<=10000)/\0<=x.2/\x.2<L.length
theorem last {a b:Int} {T:TL} {L:au} {lo hi:aV} {W:TL} {dQ spread:Int} (hn:L.length<1000):Uc a b T L lo hi W dQ spread=some ((L.length:Int) - 1):=by
 unfold Uc; rw [wI1 hn]
def DU (w:Int×Int):Int:=if dn w.1 0 1000 && dn w.2 0 1000 then (if w.1<=w.2 then 0 else 9) else 2
def OG (fin:Int):Int->TL->Int×Int
 | _,[]=>(0,fin)
 | i,w::r=>if DU w=0 then OG fin (i+1) r else (i,DU w)
def qx (a b:Int) (T:TL) (L:au) (lo hi:aV) (W:TL) (dQ spread:Int):Int×Int:=
 if (bH a b T L).2=0 then
  if jQ a b T L lo hi=0 then
   if (W.length:Int)=a then OG (if dn dQ 0 ((L.length:Int) - 1) then bG (dn spread 0 4) 2 else 6) 0 W else (0,10)
  else (0,jQ a b T L lo hi)
 else (0,(bH a b T L).2)
theorem Ey (fin:Int):∀ (r:TL) (i:Int),dV (λi _ w=>if DU w=0 then (.next ():eY Unit (Int×Int)) else .out (some (i,DU w))) (λ_:Unit=>some (0,fin)) i r ()=some (OG fin i r)
 | [],_=>rfl
 | w::r,i=>by
  simp only [dV,OG]
  by_cases h:DU w=0
  ·simp only [if_pos h]; exact Ey fin r _
  simp only [if_neg h]
theorem afq (i:Int) (w:Int×Int):(if ((!dn w.1 0 1000) || (!dn w.2 0 1000))=true then eY.out (some (i,2)) else if decide (w.1>w.2)=true then eY.out (some (i,9)) else (eY.next (i+1):eY Int (Int×Int)))=uN (λ_=>i+1) (if DU w=0 then eY.next () else eY.out (some (i,DU w))):=by
 unfold DU
 by_cases h:w.1<=w.2
 ·have h2:¬ w.1>w.2:=by omega
  cases dn w.1 0 1000<;>cases dn w.2 0 1000<;>simp [uN,h,h2]
 have h2:w.1>w.2:=by omega
 cases dn w.1 0 1000<;>cases dn w.2 0 1000<;>simp [uN,h,h2]
theorem aEq (a b:Int) (T:TL) (L:au) (lo hi:aV) (W:TL) (dQ spread:Int) (hn:L.length<1000) (hL:∀ x∈L,x.length<1000) (h1:lo.length<1000000) (h2:hi.length<1000000) (hw:W.length<1000) :
 acg a b T L lo hi W dQ spread=some (qx a b T L lo hi W dQ spread):=by
 unfold acg qx
 rw [p45 a b T L hn hL,Option.bind_some]
 by_cases c0:(bH a b T L).2=0
 rotate_left
 ·rw [if_pos (by simpa using c0),if_neg c0]
 rw [if_neg (by simpa using c0),if_pos c0,p82 a b T L lo hi hn hL h1 h2,Option.bind_some]
 by_cases c1:jQ a b T L lo hi=0
 rotate_left
 ·rw [if_pos (by simpa using c1),if_neg c1]
 rw [if_neg (by simpa using c1),if_pos c1]
 by_cases c2:(W.length:Int)=a
 rotate_left
 ·rw [if_pos (by simpa using c2),if_neg c2]
 rw [if_neg (by simpa using c2),if_pos c2]
 have h:=eU (τ:=Unit) W (CY a b T L lo hi W dQ spread) (λi _=>i) (λi _ w=>if DU w=0 then .next () else .out (some (i,DU w))) (λ_=>some (0,if dn dQ 0 ((L.length:Int) - 1) then bG (dn spread 0 4) 2 else 6)) (by omega)
  (λi t hi=>by
   simp only [CY,kK hi,if_true,if_pos (iK hi),Int.toNat_natCast,wS i (by omega),p59,aW,Option.isSome_some,implies_true,Option.getD_some]
   exact afq i _)
  (λt=>by
   simp only [CY,G7,Bool.false_eq_true,if_false,ai2 _ _ _ _ _ _ _ _ _ _ hn,Option.bind_some,p59]
   cases dn dQ 0 ((L.length:Int) - 1)<;>cases dn spread 0 4<;>rfl) ()
 rw [h]
 exact Ey _ W 0
theorem afr (i:Int) (w:Int×Int):(aW (Jc w.1) λv5=>if v5=true->(Jc w.2).isSome=true then aW (xu (v5 && ((Jc w.2).getD default)) 2) λv6=>aW (xu (decide (w.1<=w.2)) 9) λv7=>aW (r64 [v6,v7]) λv8=>if (v8 != 0)=true then eY.out (some (i,v8)) else (eY.next (i+1):eY Int (Int×Int)) else eY.out none)=uN (λ_=>i+1) (if DU w=0 then eY.next () else eY.out (some (i,DU w))):=by
 have g:∀ n,Jc n=some (dn n 0 1000):=λn=>by unfold Jc; rw [wit]; rfl
 simp only [g,unl,aW,Option.isSome_some,implies_true,if_true,Option.getD_some]
 have q:r64 [bG (dn w.1 0 1000 && dn w.2 0 1000) 2,bG (decide (w.1<=w.2)) 9]=some (DU w):=by
  rw [fst _ (by simp)]
  unfold DU bG
  cases dn w.1 0 1000<;>cases dn w.2 0 1000<;>by_cases h:w.1<=w.2<;>simp [bC,h]
 simp only [q]
 by_cases h:DU w=0
 ·rw [if_neg (by simpa using h),if_pos h]; rfl
 rw [if_pos (by simpa using h),if_neg h]; rfl
theorem aEr (a b:Int) (T:TL) (L:au) (lo hi:aV) (W:TL) (dQ spread:Int) (hT:T.length<1000) (hn:L.length<1000) (hL:∀ x∈L,x.length<1000) (h1:lo.length<1000000) (h2:hi.length<1000000) (hw:W.length<1000) :
 r79 a b T L lo hi W dQ spread=some (qx a b T L lo hi W dQ spread):=by
 unfold r79 qx
 rw [p24 a b T L hn hL,Option.bind_some,p39 a b T L lo hi hT hn hL h1 h2,Option.bind_some,unl,Option.bind_some,fst _ (by simp),Option.bind_some]
 by_cases c0:(bH a b T L).2=0
 rotate_left
 ·rw [if_neg c0,if_neg c0]
  have e:bC [(bH a b T L).2,((0:Int),(bH a b T L).2).2,bG ((W.length:Int) == a) 10]=(bH a b T L).2:=by simp [bC,c0]
  rw [e,if_pos (by simpa using c0)]
 rw [if_pos c0,if_pos c0]
 have eb:(mV a T lo hi).2=jQ a b T L lo hi:=by unfold jQ; rw [if_pos c0]
 rw [eb]
 by_cases c1:jQ a b T L lo hi=0
 rotate_left
 ·have e:bC [(bH a b T L).2,jQ a b T L lo hi,bG ((W.length:Int) == a) 10]=jQ a b T L lo hi:=by simp [bC,c0,c1]
  rw [e,if_pos (by simpa using c1),if_neg c1]
 rw [if_pos c1]
 by_cases c2:(W.length:Int)=a
 rotate_left
 ·have e:bC [(bH a b T L).2,jQ a b T L lo hi,bG ((W.length:Int) == a) 10]=10:=by simp [bC,c0,c1,bG,c2]
  rw [e,if_pos (by decide),if_neg c2]
 have e:bC [(bH a b T L).2,jQ a b T L lo hi,bG ((W.length:Int) == a) 10]=0:=by simp [bC,c0,c1,bG,c2]
 rw [e,if_neg (by decide),if_pos c2]
 have h:=eU (τ:=Unit) W (KU L W dQ spread) (λi _=>i) (λi _ w=>if DU w=0 then .next () else .out (some (i,DU w))) (λ_=>some (0,if dn dQ 0 ((L.length:Int) - 1) then bG (dn spread 0 4) 2 else 6)) (by omega)
  (λi t hi=>by
   simp only [KU,kK hi,if_true,if_pos (iK hi),Int.toNat_natCast,wS i (by omega)]
   exact afr i _)
  (λt=>by
   simp only [KU,G7,Bool.false_eq_true,if_false]
   rw [wI1 hn,wit,Option.bind_some,unl,Option.bind_some,wit,Option.bind_some,unl,Option.bind_some,fst _ (by simp),Option.bind_some]
   unfold bG
   cases dn dQ 0 ((L.length:Int) - 1)<;>cases dn spread 0 4<;>rfl) ()
 rw [h]
 exact Ey _ W 0
theorem Sr {fin:Int}:∀ {r:TL} {i:Int},(OG fin i r).2=0->fin=0/\∀ w∈r,DU w=0
 | [],i,h=>⟨h,by simp⟩
 | w::r,i,h=>by
  simp only [OG] at h
  by_cases hw:DU w=0
  ·rw [if_pos hw] at h
   obtain ⟨h1,h2⟩:=Sr h
   exact ⟨h1,λx hx=>by rcases List.mem_cons.1 hx with rfl | hx; exact hw; exact h2 x hx⟩
  rw [if_neg hw] at h; exact absurd h hw
theorem anj {w:Int×Int} (h:DU w=0):(0<=w.1/\w.1<=1000)/\(0<=w.2/\w.2<=1000)/\w.1<=w.2:=by
 unfold DU at h
 cases h1:dn w.1 0 1000<;>cases h2:dn w.2 0 1000<;>rw [h1,h2] at h<;>simp at h
 exact ⟨dL.1 h1,dL.1 h2,h⟩
theorem N8 {a b:Int} {T:TL} {L:au} {lo hi:aV} {W:TL} {dQ spread:Int} (h:(qx a b T L lo hi W dQ spread).2=0):wE a b T L lo hi W dQ spread:=by
 unfold qx at h
 by_cases c0:(bH a b T L).2=0
 rotate_left
 ·rw [if_neg c0] at h; exact absurd h c0
 rw [if_pos c0] at h
 by_cases c1:jQ a b T L lo hi=0
 rotate_left
 ·rw [if_neg c1] at h; exact absurd h c1
 rw [if_pos c1] at h
 by_cases c2:(W.length:Int)=a
 rotate_left
 ·rw [if_neg c2] at h; cases h
 rw [if_pos c2] at h
 obtain ⟨h1,h2⟩:=Sr h
 cases q1:dn dQ 0 ((L.length:Int) - 1) with
 | false=>rw [q1] at h1; cases h1
 | true=>
  rw [q1] at h1
  cases q2:dn spread 0 4 with
  | false=>rw [q2] at h1; cases h1
  | true=>
   have:=dL.1 q1
   exact ⟨Rx c1,c1,c2,λw hw=>anj (h2 w hw),by omega,dL.1 q2⟩
def RZ (n:Int) (x:Int×Int):Int:=if dn x.1 0 10000 then bG (dn x.2 0 (n - 1)) 6 else 2
def LK (n:Int):TL->Int
 | []=>0
 | x::r=>if RZ n x=0 then LK n r else RZ n x
def lJ (L:au) (t:TL):Int:=if t.length<=200 then LK L.length t else 8
theorem afH (a b:Int) (T:TL) (L:au) (lo hi:aV) (W:TL) (dQ spread:Int) (hn:L.length<1000) (i:Int) (x:Int×Int):(aW (rJ x.1 0 10000) λv1=>if (!v1)=true then eY.out (some 2) else aW (r89 a b T L lo hi W dQ spread x.2) λv2=>if (!v2)=true then eY.out (some 6) else (eY.next (i+1):eY Int Int))=uN (λ_=>i+1) (if RZ L.length x=0 then eY.next () else eY.out (some (RZ L.length x))):=by
 simp only [p59,aW,ai2 _ _ _ _ _ _ _ _ _ _ hn]
 unfold RZ bG
 cases dn x.1 0 10000<;>cases dn x.2 0 ((L.length:Int) - 1)<;>simp [uN]
theorem ajS (a b:Int) (T:TL) (L:au) (lo hi:aV) (W:TL) (dQ spread:Int) (t:TL) (hn:L.length<1000):r28 a b T L lo hi W dQ spread t=some (lJ L t):=by
 unfold r28 lJ
 by_cases c:(t.length:Int)>200
 ·rw [if_pos (by simpa using c),if_neg (by omega)]
 rw [if_neg (by simpa using c),if_pos (by omega)]
 have h:=eU (τ:=Unit) t (KZ a b T L lo hi W dQ spread t) (λi _=>i) (λ_ _ x=>if RZ L.length x=0 then .next () else .out (some (RZ L.length x))) (λ_=>some 0) (by omega)
  (λi _ hix=>by
   simp only [KZ,kK hix,if_true,if_pos (iK hix),Int.toNat_natCast,wS i (by omega)]
   exact afH a b T L lo hi W dQ spread hn i _)
  (λ_=>by simp [KZ]) ()
 rw [h]
 have:∀ (r:TL) (i:Int),dV (λ_ _ x=>if RZ L.length x=0 then (.next ():eY Unit Int) else .out (some (RZ L.length x))) (λ_:Unit=>some 0) i r ()=some (LK L.length r):=by
  intro r
  induction r with
  | nil=>intro i; rfl
  | cons x r ih=>
   intro i
   simp only [dV,LK]
   by_cases h:RZ L.length x=0
   ·simp only [if_pos h]; exact ih _
   simp only [if_neg h]
 exact this t 0
theorem aa2 {n:Int}:∀ {t:TL},LK n t=0->∀ x∈t,(0<=x.1/\x.1<=10000)/\0<=x.2/\x.2<n
 | [],_,x,hx=>by cases hx
 | y::r,h,x,hx=>by
  simp only [LK] at h
  by_cases hy:RZ n y=0
  ·rw [if_pos hy] at h
   rcases List.mem_cons.1 hx with rfl | hx
   ·unfold RZ bG at hy
    cases q1:dn x.1 0 10000<;>cases q2:dn x.2 0 (n - 1)<;>rw [q1,q2] at hy<;>simp at hy
    have:=dL.1 q2
    exact ⟨dL.1 q1,by omega,by omega⟩
   exact aa2 h x hx
  rw [if_neg hy] at h; exact absurd h hy
theorem EG {L:au} {t:TL} (h:lJ L t=0):xX L t:=by
 unfold lJ at h
 split at h
 ·rename_i hl; exact ⟨hl,aa2 h⟩
 cases h
theorem aa3 {a b:Int} {T:TL} {L:au} {lo hi:aV} {W:TL} {dQ spread:Int} (t:TL) (hn:L.length<1000) (hl:t.length<1000000):r83 a b T L lo hi W dQ spread t=some (lJ L t):=by
 unfold r83
 rw [unl,Option.bind_some]
 have step:∀ (e:Int) (x:Int×Int),r64 [e,bG (dn x.1 0 10000) 2,bG (dn x.2 0 ((L.length:Int) - 1)) 6]=some (if e=0 then RZ L.length x else e):=λe x=>by
  rw [fst _ (by simp)]
  unfold RZ bG
  by_cases h:e=0<;>cases dn x.1 0 10000<;>cases dn x.2 0 ((L.length:Int) - 1)<;>simp [bC,h]
 have h:=eU (τ:=Int) t (KT a b T L lo hi W dQ spread t) (λi e=>(e,i)) (λ_ e x=> .next (if e=0 then RZ L.length x else e)) (λe=>some e) (by omega)
  (λi e hi=>by
   simp only [KT,kK hi,if_true,if_pos (iK hi),Int.toNat_natCast,wS i (by omega)]
   rw [wit]; simp only [aW,unl]; rw [last hn]; simp only [wit,step]; rfl)
  (λe=>by simp [KT]) (bG (decide ((t.length:Int)<=200)) 8)
 rw [h]
 have key:∀ (r:TL) (i e:Int),dV (λ_ e x=>(.next (if e=0 then RZ L.length x else e):eY Int Int)) (λe:Int=>some e) i r e=some (if e=0 then LK L.length r else e):=by
  intro r
  induction r with
  | nil=>intro i e; simp only [dV,LK]; split<;>simp_all
  | cons x r ih=>
   intro i e
   simp only [dV,ih,LK]
   by_cases he:e=0
   ·simp only [if_pos he]
   simp only [if_neg he]
 rw [key]
 unfold lJ bG
 by_cases c:t.length<=200
 ·rw [decide_eq_true (by omega),if_pos c]; simp
 rw [decide_eq_false (by omega),if_neg c]; simp
def JO (f:Int×Int->Int) (W:TL) (p:Int):aV:=W.map λw=>p*f w / 1000
def jB (W:TL) (p:Int):TL:=W.map λw=>(p*w.1 / 1000,p*w.2 / 1000)
def nP (n sp x:Int):Int×Int:=(if 0<x - sp then x - sp else 0,if x+sp<n - 1 then x+sp else n - 1)
def qy (n sp:Int) (W:TL) (x:Int×Int):TL×Int×Int:=(jB W x.1,nP n sp x.2)
def dH (n sp:Int) (W t:TL):List (TL×Int×Int):=t.map (qy n sp W)
theorem pw2 {v p:Int} (hv:0<=v/\v<=1000) (hp:0<=p/\p<=10000):IntKind.i64.wrap (p*v)=p*v/\0<=p*v/\p*v<=10000000/\0<=p*v / 1000/\p*v / 1000<=10000:=by
 have h1:0<=p*v:=Int.mul_nonneg hp.1 hv.1
 have h2:p*v<=10000*1000:=Int.mul_le_mul hp.2 hv.2 hv.1 (by decide)
 exact ⟨IntWalk.i64_in _ ⟨by omega,by omega⟩,h1,by omega,by omega,by omega⟩
theorem aei {k:Nat} {f:Int×Int->Int} (hk:(k=161/\f=λw=>w.1)\/(k=162/\f=λw=>w.2)) {W:TL} (hl:W.length<1000) (hW:∀ w∈W,(0<=w.1/\w.1<=1000)/\(0<=w.2/\w.2<=1000)/\w.1<=w.2) {p:Int} (hp:0<=p/\p<=10000) (a b:Int) (T:TL) (L:au) (lo hi:aV) (dQ spread law:Int) :
 MN a b T L lo hi W dQ spread p law k=some (JO f W p,law):=by
 unfold MN
 refine jG (zh W p law k) (λi s=>s=((i:Int),(JO f W p).take i)) (λo=>o=some (JO f W p,law)) W.length ?_ ?_ _ (by simp) _ (by omega)
 ·rintro i _ hi rfl
  have hw:=hW _ (getD_mem hi)
  have hf:0<=f (W.getD i default)/\f (W.getD i default)<=1000:=by rcases hk with ⟨_,rfl⟩ | ⟨_,rfl⟩<;>simp only<;>omega
  obtain ⟨e1,m1,m2,m3,m4⟩:=pw2 hf hp
  refine .inl ⟨(((i+1:Nat):Int),(JO f W p).take (i+1)),?_,rfl⟩
  have hlen:((JO f W p).take i).length=i:=by simp [JO]; omega
  have et:(JO f W p).take (i+1)=(JO f W p).take i++[p*f (W.getD i default) / 1000]:=by
   rw [List.take_add_one,List.getElem?_eq_getElem (by simpa [JO] using hi)]
   simp [JO,List.getD_eq_getElem?_getD,hi]
  have e2:IntKind.i64.wrap ((p*f (W.getD i default)).tdiv 1000)=p*f (W.getD i default) / 1000:=by
   rw [Int.tdiv_eq_ediv_of_nonneg m1]; exact IntWalk.i64_in _ ⟨by omega,by omega⟩
  rcases hk with ⟨rfl,rfl⟩ | ⟨rfl,rfl⟩
  ·simp only [zh,kK hi,if_true,if_pos (iK hi),Int.toNat_natCast,wS i (by omega),if_neg (show ¬ (161:Nat)=162 by decide),if_neg (show ¬ (161:Nat)=238 by decide),aW,agv,hlen,e1,e2,et]
   rw [if_pos ⟨by omega,by omega⟩]; rfl
  simp only [zh,kK hi,if_true,if_pos (iK hi),Int.toNat_natCast,wS i (by omega),aW,agu,hlen,e1,e2,et]
  rw [if_pos ⟨by omega,by omega⟩]; rfl
 rintro _ rfl
 refine ⟨some (JO f W p,law),?_,rfl⟩
 simp only [zh,G7,Bool.false_eq_true,if_false]
 rw [List.take_of_length_le (by simp [JO])]
theorem Xt (f:Int×Int->Int) (W:TL) (p:Int):(JO f W p).length=W.length:=by simp [JO]
theorem agH (f:Int×Int->Int) (W:TL) (p:Int) {i:Nat} (h:i<W.length):(JO f W p).getD i default=p*f (W.getD i default) / 1000:=by
 simp [JO,List.getD_eq_getElem?_getD,h]
theorem Uf (W:TL) (p:Int) {i:Nat} (h:i<W.length):(jB W p).take (i+1)=(jB W p).take i++[(p*(W.getD i default).1 / 1000,p*(W.getD i default).2 / 1000)]:=by
 rw [List.take_add_one,List.getElem?_eq_getElem (by simpa [jB] using h)]
 simp [jB,List.getD_eq_getElem?_getD,h]
theorem akT {W:TL} (hl:W.length<1000) (sp p:Int) (t:TL) (s1:List (TL×Int×Int)×Int) (l1 l2 v3:Int) {ρ:eY (List (TL×Int×Int)×Int) (List (TL×Int×Int))}
 (h:Il sp t s1 (JO (λw=>w.1) W p,l1) (JO (λw=>w.2) W p,l2) v3 ((W.length:Int),jB W p)= .out (some ρ)) :
 aK (Il sp t s1 (JO (λw=>w.1) W p,l1) (JO (λw=>w.2) W p,l2) v3) 1000000000 (0,[])=some ρ:=by
 refine jG _ (λi s=>s=((i:Int),(jB W p).take i)) (λo=>o=some ρ) W.length ?_ ?_ _ (by simp) _ (by omega)
 ·rintro i _ hi rfl
  have hlen:((jB W p).take i).length=i:=by simp [jB]; omega
  have g1:decide ((i:Int)<(W.length:Int))=true:=by simpa using hi
  refine .inl ⟨(((i+1:Nat):Int),(jB W p).take (i+1)),?_,rfl⟩
  simp only [Il,Xt,g1,if_true,if_pos (show 0<=(i:Int)/\(i:Int)<(W.length:Int) by omega),Int.toNat_natCast,wS i (by omega),hlen,agH _ _ _ hi,Uf _ _ hi]
  rw [if_pos ⟨by omega,by omega⟩]; rfl
 rintro _ rfl
 rw [List.take_of_length_le (by simp [jB])]
 exact ⟨_,h,rfl⟩
section
variable {a b:Int} {T:TL} {L:au} {lo hi:aV} {W:TL} {dQ spread:Int}
theorem YM (n sp:Int) (W t:TL) {i:Nat} (h:i<t.length):(dH n sp W t).take (i+1)=(dH n sp W t).take i++[qy n sp W (t.getD i default)]:=by
 rw [List.take_add_one,List.getElem?_eq_getElem (by simpa [dH] using h)]
 simp [dH,List.getD_eq_getElem?_getD,h]
theorem aj3 (B:wE a b T L lo hi W dQ spread) {t:TL} (ht:xX L t):r99 a b T L lo hi W dQ spread t=some (dH L.length spread W t):=by
 obtain ⟨f1,f2,f3,f4,f5,f6⟩:=B.few
 have ht1:=ht.1
 have hs:=B.spread
 unfold r99
 refine jG (KO a b T L lo hi W dQ spread t) (λi s=>s=((dH L.length spread W t).take i,(i:Int))) (λo=>o=some (dH L.length spread W t)) t.length ?_ ?_ _ (by simp) _ (by omega)
 ·rintro i _ hi' rfl
  have hx:=ht.2 _ (getD_mem hi')
  have hlen:((dH L.length spread W t).take i).length=i:=by simp [dH]; omega
  refine .inl ⟨((dH L.length spread W t).take (i+1),((i+1:Nat):Int)),?_,rfl⟩
  simp only [KO,kK hi',if_true,if_pos (iK hi'),Int.toNat_natCast,aei (.inl ⟨rfl,rfl⟩) (show W.length<1000 by omega) B.wts hx.1,aei (.inr ⟨rfl,rfl⟩) (show W.length<1000 by omega) B.wts hx.1,aW,last f2]
  rw [akT (by omega) spread (t.getD i default).1 t _ _ _ _ (ρ:= .next ((dH L.length spread W t).take (i+1),((i+1:Nat):Int)))]
  ·rfl
  have g0:decide ((W.length:Int)<(W.length:Int))=false:=by simp
  have e1:IntKind.i64.wrap ((t.getD i default).2 - spread)=(t.getD i default).2 - spread:=IntWalk.i64_in _ ⟨by omega,by omega⟩
  have e2:IntKind.i64.wrap ((t.getD i default).2+spread)=(t.getD i default).2+spread:=IntWalk.i64_in _ ⟨by omega,by omega⟩
  simp only [Il,Xt,g0,Bool.false_eq_true,if_false,Int.toNat_natCast,e1,e2,wS i (by omega),hlen]
  rw [if_pos ⟨by omega,by omega⟩,YM _ _ _ _ hi']
  rfl
 rintro _ rfl
 refine ⟨_,?_,rfl⟩
 simp only [KO,G7,Bool.false_eq_true,if_false]
 rw [List.take_of_length_le (by simp [dH])]
end
def yA (T:TL) (x y:Int):Int×Int:=((pl T x).floor,-((-(pl T y)).floor))
def vX (T:TL) (z:List (aV×aV)) (i:Nat):TL:=z.map λy=>yA T (y.1.getD i default) (y.2.getD i default)
def aZ (a:Int) (T:TL) (z:List (aV×aV)):au:=(List.range a.toNat).map (vX T z)
theorem avf {v:Rat} {N D:Int} (h:At v N D 1000000 3000):0<=v.num/\v.num<=3000000000/\(v.den:Int)<=1000000:=by
 obtain ⟨g0,g1,g2⟩:=low h
 have h1:=h.pos; have h2:=h.le; have h3:=h.num
 have hg:0<=(Int.gcd N D:Int):=by omega
 have b1:0<=N / (Int.gcd N D:Int):=Int.ediv_nonneg h3.1 hg
 have b2:N / (Int.gcd N D:Int)<=N:=Int.ediv_le_self _ h3.1
 have b3:0<=D / (Int.gcd N D:Int):=Int.ediv_nonneg (by omega) hg
 have b4:D / (Int.gcd N D:Int)<=D:=Int.ediv_le_self _ (by omega)
 rw [Int.tdiv_eq_ediv_of_nonneg h3.1,IntWalk.i64_in _ ⟨by omega,by omega⟩] at g1
 rw [Int.tdiv_eq_ediv_of_nonneg (by omega),IntWalk.i64_in _ ⟨by omega,by omega⟩] at g2
 omega
theorem aw5 {n d:Int} (hd:0<d):(n+d - 1) / d= -((-n) / d):=by
 have h1:=Int.mul_ediv_add_emod (-n) d
 have h2:=Int.emod_nonneg (-n) (by omega:d≠0)
 have h3:=Int.emod_lt_of_pos (-n) hd
 generalize (-n) / d=q at*
 generalize (-n) % d=m at*
 have e:n+d - 1=(d - 1 - (d*q+m - -n) - m)+(-q)*d+(m+m - (m+m))+(n - n)+((d*q+m+n) - (d*q+m+n))+(m - m) - (-n - (d*q+m))+((d*q+m) - (d*q+m)) - 0+0 - (d*q+m+n)+(d*q+m+n):=by grind
 have e2:n+d - 1=(d - 1 - m)+(-q)*d:=by grind
 rw [e2,Int.add_mul_ediv_right _ _ (by omega),Int.ediv_eq_zero_of_lt (by omega) (by omega),Int.zero_add]
theorem acF (v:Rat):((v.num:Int):Rat)=v*((v.den:Int):Rat):=by
 have e:(v.num:Rat) / ((v.den:Int):Rat)=v:=by rw [<- Rat.divInt_eq_div,Rat.num_divInt_den]
 have h2:((v.den:Int):Rat)≠0:=by
  have h1:=v.den_pos
  have:(0:Rat)<((v.den:Int):Rat):=Rat.intCast_pos.2 (by omega)
  grind
 have h3:=Rat.div_mul_cancel (a:=(v.num:Rat)) h2
 rw [e] at h3
 exact h3.symm
section
variable {a b:Int} {T:TL} {L:au} {lo hi:aV} {W:TL} {dQ spread:Int}
theorem aCi (B:wE a b T L lo hi W dQ spread) {x y:Int} (hx:inT T x=true) (hy:inT T y=true):acd a b T L lo hi W dQ spread x y=some (yA T x y):=by
 obtain ⟨f1,f2,f3,f4,f5,f6⟩:=B.few
 have s0:agc a b T L=0:=B.box.lo.set0
 unfold acd
 rw [p53 a b T L x f1 f2 f3,Option.bind_some,p53 a b T L y f1 f2 f3,Option.bind_some,if_pos s0,if_pos s0,if_pos hx,if_pos hy]
 obtain ⟨N,D,_,P⟩:=p57 B.box.lo.ok a b L x hx
 obtain ⟨M,K,_,Q⟩:=p57 B.box.lo.ok a b L y hy
 obtain ⟨n1,n2,n3⟩:=avf P
 obtain ⟨m1,m2,m3⟩:=avf Q
 have d1:0<((pl T x).den:Int):=by have:=(pl T x).den_pos; omega
 have d2:0<((pl T y).den:Int):=by have:=(pl T y).den_pos; omega
 have e1:(pl T x).num / ((pl T x).den:Int)=(pl T x).floor:=tY d1 (acF _)
 have e2:(-(pl T y).num) / ((pl T y).den:Int)=(-(pl T y)).floor:=tY d2 (by rw [Rat.intCast_neg,acF,Rat.neg_mul])
 have b1:0<=(pl T x).num / ((pl T x).den:Int):=Int.ediv_nonneg n1 (by omega)
 have b2:(pl T x).num / ((pl T x).den:Int)<=(pl T x).num:=Int.ediv_le_self _ n1
 have b3:0<=((pl T y).num+((pl T y).den:Int) - 1) / ((pl T y).den:Int):=Int.ediv_nonneg (by omega) (by omega)
 have b4:((pl T y).num+((pl T y).den:Int) - 1) / ((pl T y).den:Int)<=((pl T y).num+((pl T y).den:Int) - 1):=Int.ediv_le_self _ (by omega)
 simp only
 rw [if_pos (by omega),if_pos (by omega),IntWalk.i64_in ((pl T y).num+_) ⟨by omega,by omega⟩,IntWalk.i64_in ((pl T y).num+_ - 1) ⟨by omega,by omega⟩,Int.tdiv_eq_ediv_of_nonneg n1,Int.tdiv_eq_ediv_of_nonneg (by omega),
  IntWalk.i64_in _ ⟨by omega,by omega⟩,IntWalk.i64_in _ ⟨by omega,by omega⟩,e1,aw5 d2,e2]
 rfl
theorem acz {W:TL} (hW:∀ w∈W,(0<=w.1/\w.1<=1000)/\(0<=w.2/\w.2<=1000)/\w.1<=w.2) {p:Int} (hp:0<=p/\p<=10000):∀ r∈jB W p,F5 r=0:=by
 intro r hr
 obtain ⟨w,hw,rfl⟩:=List.mem_map.1 hr
 obtain ⟨g1,g2,g3⟩:=hW w hw
 obtain ⟨_,_,_,m3,m4⟩:=pw2 g1 hp
 obtain ⟨_,_,_,k3,k4⟩:=pw2 g2 hp
 have h5:p*w.1 / 1000<=p*w.2 / 1000:=Int.ediv_le_ediv (by decide) (Int.mul_le_mul_of_nonneg_left g3 hp.1)
 unfold F5
 rw [dL.2 ⟨m3,m4⟩,dL.2 ⟨k3,k4⟩,decide_eq_true h5]; rfl
theorem zT:∀ {l:TL},(∀ r∈l,F5 r=0)->oK l=0
 | [],_=>rfl
 | r::q,h=>by
  rw [oK,h r (by simp),zT (λx hx=>h x (by simp [hx]))]; rfl
theorem YK (B:wE a b T L lo hi W dQ spread) {x:Int×Int} (hx:(0<=x.1/\x.1<=10000)/\0<=x.2/\x.2<L.length):iL a L (qy L.length spread W x).1 (qy L.length spread W x).2.1 (qy L.length spread W x).2.2=0:=by
 have hs:=B.spread
 have hl:(((qy L.length spread W x).1.length:Int) == a)=true:=by
  show (((jB W x.1).length:Int) == a)=true
  rw [jB,List.length_map,beq_iff_eq]; exact B.ank
 unfold iL
 rw [hl]
 have h1:oK (qy L.length spread W x).1=0:=zT (acz B.wts hx.1)
 rw [h1]
 have b1:0<=(nP L.length spread x.2).1/\(nP L.length spread x.2).1<=(L.length:Int) - 1:=by unfold nP; simp only; split<;>omega
 have b2:0<=(nP L.length spread x.2).2/\(nP L.length spread x.2).2<=(L.length:Int) - 1:=by unfold nP; simp only; split<;>omega
 have b3:(nP L.length spread x.2).1<=(nP L.length spread x.2).2:=by unfold nP; simp only; split<;>split<;>omega
 show fV _ (fV _ (Qn L (nP L.length spread x.2).1 (nP L.length spread x.2).2))=0
 unfold Qn
 rw [dL.2 b1,dL.2 b2,decide_eq_true b3]; rfl
theorem Dp:∀ {l:List (TL×Int×Int)},(∀ d∈l,iL a L d.1 d.2.1 d.2.2=0)->uV a L l=0
 | [],_=>rfl
 | d::r,h=>by rw [uV,h d (by simp),Dp (λx hx=>h x (by simp [hx]))]; rfl
theorem xZ (B:wE a b T L lo hi W dQ spread) {t:TL} (ht:xX L t):kL a L (dH L.length spread W t)=0:=by
 have h1:=ht.1
 unfold kL
 rw [Dp (λd hd=>by obtain ⟨x,hx,rfl⟩:=List.mem_map.1 hd; exact YK B (ht.2 x hx)),decide_eq_true (by simp [dH]; omega)]; rfl
theorem Eh:∀ {l:List (TL×Int×Int)} {lo hi:aV} {z:List (aV×aV)},BoxOk a b T L lo hi->(∀ d∈l,iL a L d.1 d.2.1 d.2.2=0)->jk b T L lo hi l=some z->∀ y∈z,BoxOk a b T L y.1 y.2
 | [],_,_,z,_,_,h=>by obtain rfl:=Option.some.inj h; intro y hy; cases hy
 | d::r,lo,hi,z,H,hd,h=>by
  rw [jk] at h
  obtain ⟨y,hy,h⟩:=Option.bind_eq_some_iff.1 h
  obtain ⟨q,hq,rfl⟩:=Option.map_eq_some_iff.1 h
  have H2:=H.next (hd d (by simp)) hy
  intro x hx
  rcases List.mem_cons.1 hx with rfl | hx
  ·exact H2
  exact Eh H2 (λd hd'=>hd d (by simp [hd'])) hq x hx
def cvC (a:Int) (T:TL) (o:Option (List (aV×aV))):au×Int:=match o with | none=>([],22) | some z=>(aZ a T z,0)
def nY (n:Nat) (T:TL) (z:List (aV×aV)) (k j:Nat):au:=(List.range n).map λi=>vX T (z.take (if i<j then k+1 else k)) i
theorem aeA (T:TL) (z:List (aV×aV)) {k:Nat} (h:k<z.length) (i:Nat):vX T (z.take (k+1)) i=vX T (z.take k) i++[yA T ((z.getD k default).1.getD i default) ((z.getD k default).2.getD i default)]:=by
 unfold vX
 rw [List.take_add_one,List.getElem?_eq_getElem h,List.map_append]
 simp [List.getD_eq_getElem?_getD,h]
theorem Xy (n:Nat) (T:TL) (z:List (aV×aV)) (k j:Nat):(nY n T z k j).length=n:=by simp [nY]
theorem MZ {n:Nat} (T:TL) (z:List (aV×aV)) (k j:Nat) {i:Nat} (h:i<n):(nY n T z k j).getD i default=vX T (z.take (if i<j then k+1 else k)) i:=by
 simp [nY,List.getD_eq_getElem?_getD,h]
theorem acN {n:Nat} (T:TL) (z:List (aV×aV)) {k j:Nat} (h:j<n) (hk:k<z.length):(nY n T z k j).set j ((nY n T z k j).getD j default++[yA T ((z.getD k default).1.getD j default) ((z.getD k default).2.getD j default)])=nY n T z k (j+1):=by
 rw [MZ _ _ _ _ h,if_neg (by omega), <- aeA T z hk]
 refine List.ext_getElem (by simp [nY]) λi h1 h2=> ?_
 rw [List.getElem_set]
 by_cases e:j=i
 ·subst e; rw [if_pos rfl]; simp [nY]
 rw [if_neg e]
 simp only [nY,List.getElem_map,List.getElem_range]
 congr 2
 by_cases h3:i<j
 ·rw [if_pos h3,if_pos (by omega)]
 rw [if_neg h3,if_neg (by omega)]
theorem agS (n:Nat) (T:TL) (z:List (aV×aV)) (k:Nat):nY n T z k n=nY n T z (k+1) 0:=by
 unfold nY
 refine List.map_congr_left λi hi=> ?_
 rw [if_pos (List.mem_range.1 hi),if_neg (by omega)]
theorem acM (n:Nat) (T:TL) (z:List (aV×aV)):List.replicate n []=nY n T z 0 0:=by
 refine List.ext_getElem (by simp [nY]) λi h1 h2=> ?_
 simp [nY,vX]
theorem agT (a:Int) (T:TL) (z:List (aV×aV)):nY a.toNat T z z.length 0=aZ a T z:=by
 unfold nY aZ
 refine List.map_congr_left λi hi=> ?_
 rw [if_neg (by omega),List.take_length]
theorem ahD (B:wE a b T L lo hi W dQ spread) {t:TL} (ht:xX L t):r96 a b T L lo hi W dQ spread t=some (cvC a T (jk b T L lo hi (dH L.length spread W t))):=by
 obtain ⟨f1,f2,f3,f4,f5,f6⟩:=B.few
 have ht1:=ht.1
 have hc:=B.box.lo.ok.cells
 have hlen:(dH L.length spread W t).length=t.length:=by simp [dH]
 have hz:=xZ B ht
 unfold r96
 rw [aj3 B ht,Option.bind_some,p43 a b T L lo hi _ f1 f2 f3 (by omega) (by omega) (by omega) (λd hd=>by obtain ⟨x,hx,rfl⟩:=List.mem_map.1 hd; simp [qy,jB]; omega),Option.bind_some]
 unfold NZ
 rw [if_pos B.bx0,if_pos hz]
 cases hr:jk b T L lo hi (dH L.length spread W t) with
 | none=>rfl
 | some z=>
  have hok:=Eh B.box (zG hz).2 hr
  obtain ⟨hzl,_⟩:=vg _ _ _ _ hr
  have e0:bxF (some z) []=(z,0):=by simp [bxF]
  rw [e0]
  simp only
  rw [if_neg (by decide),if_pos ⟨by omega,by omega,by omega,by omega⟩]
  show _=some (aZ a T z,(0:Int))
  refine jG (KQ a b T L lo hi W dQ spread (z,0)) (λk s=>s=((k:Int),nY a.toNat T z k 0)) (λo=>o=some (aZ a T z,(0:Int))) z.length ?_ ?_ _ (by rw [acM]; rfl) _ (by omega)
  ·rintro k _ hk rfl
   have H:=hok _ (getD_mem hk)
   have g1:=H.lo.len; have g2:=H.hi.len
   have hin:aK (KP a b T L lo hi W dQ spread (z,0) ((k:Int),nY a.toNat T z k 0)) 1000000000 (0,nY a.toNat T z k 0)=some (eY.next (((k+1:Nat):Int),nY a.toNat T z (k+1) 0)):=by
    refine jG _ (λj s=>s=((j:Int),nY a.toNat T z k j)) (λo=>o=some (eY.next (((k+1:Nat):Int),nY a.toNat T z (k+1) 0))) a.toNat ?_ ?_ _ rfl _ (by omega)
    ·rintro j _ hj rfl
     have x1:decide ((j:Int)<(a.toNat:Int))=true:=decide_eq_true (by omega)
     have x2:((vX T (z.take (if j<j then k+1 else k)) j).length+1)*16<=140737488355328/\(vX T (z.take (if j<j then k+1 else k)) j).length+1<=9223372036854775807:=by
      rw [if_neg (by omega)]; simp only [vX,List.length_map,List.length_take]; omega
     have x3:=aCi B (H.lo.ins _ (getD_mem (show j<(z.getD k default).1.length by omega))) (H.hi.ins _ (getD_mem (show j<(z.getD k default).2.length by omega)))
     refine .inl ⟨(((j+1:Nat):Int),nY a.toNat T z k (j+1)),?_,rfl⟩
     rw [<- acN T z hj hk,MZ _ _ _ _ hj]
     simp only [KP,x1,if_true,Xy,Int.toNat_natCast,wS j (by omega)]
     rw [if_pos ⟨by omega,by omega⟩,if_pos ⟨by omega,by omega⟩,if_pos ⟨by omega,by omega⟩,x3]
     simp only [aW,MZ _ _ _ _ hj]
     rw [if_pos x2,if_pos ⟨by omega,by omega⟩]; rfl
    rintro _ rfl
    have x1:decide ((a.toNat:Int)<(a.toNat:Int))=false:=by simp
    refine ⟨_,?_,rfl⟩
    simp only [KP,Xy,x1,Bool.false_eq_true,if_false,wS k (by omega),agS]; rfl
   refine .inl ⟨_,?_,rfl⟩
   simp only [KQ,kK hk,if_true,if_pos (iK hk),hin,Option.getD_some]
  rintro _ rfl
  refine ⟨_,?_,rfl⟩
  simp only [KQ,G7,Bool.false_eq_true,if_false,agT]
end
theorem light (x1 x6:Int) (x2:TL) (x0:au) (x3 x4:aV) (x5:TL) (x7 x8:Int):∃ v,r77 x1 x6 x2 x0 x3 x4 x5 x7 x8=some v/\(v=true->x1<=14/\x2.length<=14/\x0.length<=14/\x3.length<=14/\x4.length<=14/\x5.length<=14/\∀ x∈x0,x.length<1000):=by
 unfold r77
 by_cases c:((((((decide (x1>14)) || (decide ((x2.length:Int)>14))) || (decide ((x0.length:Int)>14))) || (decide ((x3.length:Int)>14))) || (decide ((x4.length:Int)>14))) || (decide ((x5.length:Int)>14)))=true
 ·rw [if_pos c]; exact ⟨false,rfl,λh=>by cases h⟩
 rw [if_neg c]
 simp only [Bool.or_eq_true,decide_eq_true_eq,not_or] at c
 obtain ⟨⟨⟨⟨⟨c1,c2⟩,c3⟩,c4⟩,c5⟩,c6⟩:=c
 refine jG (KW x0) (λi s=>s=(i:Int)/\∀ j,j<i->(x0.getD j default).length<=14) (λo=>∃ v,o=some v/\(v=true->x1<=14/\x2.length<=14/\x0.length<=14/\x3.length<=14/\x4.length<=14/\x5.length<=14/\∀ x∈x0,x.length<1000)) x0.length ?_ ?_ _ ⟨rfl,λj hj=>absurd hj (by omega)⟩ _ (by omega)
 ·rintro i _ hi ⟨rfl,hall⟩
  simp only [KW,kK hi,if_true,if_pos (iK hi),Int.toNat_natCast,wS i (by omega)]
  by_cases w1:((x0.getD i default).length:Int)>14
  ·rw [if_pos (decide_eq_true w1)]; exact .inr ⟨_,rfl,_,rfl,λh=>by cases h⟩
  rw [if_neg (by rw [decide_eq_true_eq]; exact w1)]
  refine .inl ⟨_,rfl,rfl,λj hj=> ?_⟩
  by_cases hji:j=i
  ·subst hji; omega
  exact hall j (by omega)
 rintro _ ⟨rfl,hall⟩
 simp only [KW,G7,Bool.false_eq_true,if_false]
 refine ⟨_,rfl,_,rfl,λ_=>⟨by omega,by omega,by omega,by omega,by omega,by omega,λx hx=> ?_⟩⟩
 obtain ⟨j,hj,rfl⟩:=List.getElem_of_mem hx
 have:=hall j hj
 rw [List.getD_eq_getElem?_getD,List.getElem?_eq_getElem hj,Option.getD_some] at this
 omega
theorem awZ (a b:Int) (T:TL) (L:au) (lo hi:aV) (W:TL) (dQ spread:Int) (hT:T.length<1000) (hn:L.length<1000) (hL:∀ x∈L,x.length<1000) (h1:lo.length<1000000) (h2:hi.length<1000000) (hw:W.length<1000):r35 a b T L lo hi W dQ spread=some (a,b,T,L,lo,hi,W,dQ,spread):=by
 unfold r35
 rw [p18 a b T L hT hn hL,Option.bind_some,p40 lo hi h1 h2,Option.bind_some,r98,if_pos ⟨by omega,by omega⟩]; rfl
theorem amn:r9=some true:=by decide +kernel
end Go.Proofs.YtnepigpnlnmlmaaGreatDoor

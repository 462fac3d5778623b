/- Errors of states and drives, in the code and in the reference. -/
import Derived.Test.YtnepigpnlnmlmaaGreatDoorF04
import Derived.Test.YtnepigpnlnmlmaaGreatDoorF18
import Derived.Test.YtnepigpnlnmlmaaGreatDoorHeatK
import Derived.Test.YtnepigpnlnmlmaaGreatDoorF02
import Derived.Test.YtnepigpnlnmlmaaGreatDoorF03
import Derived.Test.YtnepigpnlnmlmaaGreatDoorF10
import Derived.Test.YtnepigpnlnmlmaaGreatDoorF06
set_option linter.unusedVariables false
set_option linter.unusedSimpArgs false
namespace Go.Proofs.YtnepigpnlnmlmaaGreatDoor
open Go.dR
variable {a law b:Int} {L:au} {T:aA} {s:aV}
def BX (a:Int) (L:au) (l:aV) (law:Int):Int:=
 bC [bG ((l.length:Int) == a) 10,bG (l.all λx=>dn x 0 10000) 2,bG (dn law 0 ((L.length:Int) - 1)) 6]
theorem auW (a b:Int) (T:aA) (L:au) (T':aA) (L':au) (law:Int) (h:L'.length<1000):TS a b T L T' L' law=some (bG (dn law 0 ((L'.length:Int) - 1)) 6):=by
 unfold TS
 rw [IntWalk.i64_in ((L'.length:Int) - 1) ⟨by omega,by omega⟩,p90,Option.bind_some,p94,Option.bind_some]
theorem aeh {l:aV} (h:BX a L l law=0):(l.length:Int)=a/\(∀ x∈l,0<=x/\x<=10000)/\0<=law/\law<L.length:=by
 unfold BX at h
 by_cases h1:(l.length:Int)=a
 ·have e1:((l.length:Int) == a)=true:=by simpa using h1
  rw [e1] at h
  cases h2:(l.all λx=>dn x 0 10000) with
  | false=>rw [h2] at h; simp [bC,bG] at h
  | true=>
   rw [h2] at h
   cases h3:dn law 0 ((L.length:Int) - 1) with
   | false=>rw [h3] at h; simp [bC,bG] at h
   | true=>
    rw [kN] at h3
    rw [List.all_eq_true] at h2
    exact ⟨h1,λx hx=>kN.1 (h2 x hx),by omega,by omega⟩
 have e1:((l.length:Int) == a)=false:=by simpa using h1
 rw [e1] at h; simp [bC,bG] at h
theorem o8 (h:(dw a T s).2=0):(s.length:Int)=a/\inS T s/\dw a T s=(0,0):=by
 unfold dw at h ⊢
 by_cases ha:(s.length:Int)=a
 ·rw [if_pos ha] at h ⊢
  cases hs:dJ (stF T s) 0 s.length with
  | none=>
   refine ⟨ha,λx hx=> ?_,rfl⟩
   obtain ⟨i,hi,rfl⟩:=Aa hx
   have:=kM hs i (by omega) (by omega)
   unfold stF at this
   split at this
   ·assumption
   ·cases this
  | some v=>
   obtain ⟨j,_,_,hj⟩:=iU hs
   rw [hs] at h
   unfold stF at hj
   split at hj
   ·cases hj
   cases hj; simp at h
 rw [if_neg ha] at h; simp at h
theorem FC (h1:(s.length:Int)=a) (h2:inS T s):dw a T s=(0,0):=by
 unfold dw
 rw [if_pos h1,zK]
 ·rfl
 intro j _ hj
 unfold stF
 rw [if_pos (h2 _ (by
  have hj':j<s.length:=by omega
  rw [List.getD_eq_getElem?_getD,List.getElem?_eq_getElem hj',Option.getD_some]; exact List.getElem_mem hj'))]
def aiD (a b:Int) (T:aA) (L:au) (s:aV):Int×Int×(aA)×(au)×(aA)×(au)×Int:=
 if (bH a b T L).2=0 then (a,b,T,L,T,L,(dw a T s).2) else (0,0,[],[],[],[],(bH a b T L).2)
def FD (a b:Int) (T:aA) (L:au) (s:aV):Int:=if (bH a b T L).2=0 then (dw a T s).2 else (bH a b T L).2
theorem p45 (a b:Int) (T:aA) (L:au) (hn:L.length<1000) (hL:∀ x∈L,x.length<1000):Zn a b T L=some (bH a b T L).2:=by
 unfold Zn
 rw [p26 a b T L hn hL,Option.bind_some]
structure uK (a b:Int) (T:aA) (L:au) (s:aV):Prop where
 ok:gU a b T L
 set0:(bH a b T L).2=0
 len:(s.length:Int)=a
 ins:inS T s
theorem RG (h:FD a b T L s=0):uK a b T L s:=by
 unfold FD at h
 by_cases h0:(bH a b T L).2=0
 ·rw [if_pos h0] at h
  have:=o8 h
  exact ⟨uX h0,h0,this.1,this.2.1⟩
 rw [if_neg h0] at h; exact absurd h h0
theorem uK.open (h:uK a b T L s):aiD a b T L s=(a,b,T,L,T,L,0):=by
 unfold aiD
 rw [if_pos h.set0,FC h.len h.ins]
theorem uK.FD (h:uK a b T L s):FD a b T L s=0:=by
 unfold YtnepigpnlnmlmaaGreatDoor.FD
 rw [if_pos h.set0,FC h.len h.ins]
theorem uK.step {p:aV} (h:uK a b T L s) (hd:BX a L p law=0):Di T L s p law:=by
 have h1:=aeh hd
 have h2:=h.len
 have h3:=h.ok.cells
 exact ⟨h.ins,by omega,⟨by omega,by omega⟩,h1.2.1,h1.2.2⟩
theorem uK.next {p:aV} (h:uK a b T L s) (ho:(uM b T (L.getD law.toNat default) s p).all (inT T)=true):uK a b T L (uM b T (L.getD law.toNat default) s p):=
 ⟨h.ok,h.set0,by rw [zV]; exact h.len,λx hx=>by rw [List.all_eq_true] at ho; exact ho x hx⟩
theorem jG {σ ρ:Type} (B:σ->eY σ ρ) (P:Nat->σ->Prop) (Q:Option ρ->Prop) (n:Nat)
 (step:∀ i s,i<n->P i s->(∃ s',B s= .next s'/\P (i+1) s')\/(∃ r,B s= .out r/\Q r))
 (stop:∀ s,P n s->∃ r,B s= .out r/\Q r) (s:σ) (h0:P 0 s) (fuel:Nat) (hn:n<fuel):Q (aK B fuel s):=by
 have key:∀ (k i fuel:Nat) (s:σ),i+k=n->k<fuel->P i s->Q (aK B fuel s):=by
  intro k
  induction k with
  | zero=>
   intro i fuel s hi hf hP
   obtain ⟨m,rfl⟩:∃ m,fuel=m+1:=⟨fuel - 1,by omega⟩
   obtain rfl:i=n:=by omega
   obtain ⟨r,h1,h2⟩:=stop s hP
   simp only [aK,h1]; exact h2
  | succ k ih=>
   intro i fuel s hi hf hP
   obtain ⟨m,rfl⟩:∃ m,fuel=m+1:=⟨fuel - 1,by omega⟩
   rcases step i s (by omega) hP with ⟨s',h1,h2⟩ | ⟨r,h1,h2⟩
   ·simp only [aK,h1]; exact ih (i+1) m s' (by omega) (by omega) h2
   simp only [aK,h1]; exact h2
 exact key n 0 fuel s (by omega) hn h0
theorem GL {α σ τ ρ:Type} [Inhabited α] (l:List α) (B:σ->eY σ ρ) (mk:Nat->τ->σ) (F:List α->τ->Option ρ) (I:Nat->τ->Prop) {fuel:Nat} (hl:l.length<fuel)
 (step:∀ (i:Nat) (t:τ) (r:List α),i<l.length->I i t->l.drop i=l.getD i default::r->
  (∃ t',B (mk i t)= .next (mk (i+1) t')/\I (i+1) t'/\F (l.getD i default::r) t=F r t')\/B (mk i t)= .out (F (l.getD i default::r) t))
 (stop:∀ t,I l.length t->B (mk l.length t)= .out (F [] t)) (t:τ) (h0:I 0 t):aK B fuel (mk 0 t)=F l t:=by
 have key:∀ (k i fuel:Nat) (t:τ),i+k=l.length->k<fuel->I i t->aK B fuel (mk i t)=F (l.drop i) t:=by
  intro k
  induction k with
  | zero=>
   intro i fuel t hi hf hI
   obtain ⟨m,rfl⟩:∃ m,fuel=m+1:=⟨fuel - 1,by omega⟩
   obtain rfl:i=l.length:=by omega
   simp only [aK,stop t hI,List.drop_length]
  | succ k ih=>
   intro i fuel t hi hf hI
   obtain ⟨m,rfl⟩:∃ m,fuel=m+1:=⟨fuel - 1,by omega⟩
   have hlt:i<l.length:=by omega
   have hd:l.drop i=l.getD i default::l.drop (i+1):=by
    rw [List.drop_eq_getElem_cons hlt]; simp [List.getD_eq_getElem?_getD,hlt]
   rw [hd]
   rcases step i t _ hlt hI hd with ⟨t',e1,e2,e3⟩ | e
   ·simp only [aK,e1]
    rw [e3]; exact ih (i+1) m t' (by omega) (by omega) e2
   simp only [aK,e]
 have:=key l.length 0 fuel t (by omega) hl h0
 simpa using this
theorem getD_mem {α:Type} [Inhabited α] {l:List α} {i:Nat} (h:i<l.length):l.getD i default∈l:=by
 rw [List.getD_eq_getElem?_getD,List.getElem?_eq_getElem h,Option.getD_some]; exact List.getElem_mem h
theorem acZ:∀ l m:aV,l.length=m.length->(∀ j,j<l.length->l.getD j default<=m.getD j default)->vU l m
 | [],[],_,_=>trivial
 | [],y::m,h,_=>by simp at h
 | x::l,[],h,_=>by simp at h
 | x::l,y::m,h,h2=>by
  refine ⟨by simpa using h2 0 (by simp),acZ l m (by simpa using h) λj hj=> ?_⟩
  have:=h2 (j+1) (by simp; omega)
  simpa using this
def fV (e f:Int):Int:=if e=0 then f else e
theorem aho (e f:Int):bC [e,f]=fV e f:=by
 unfold fV bC bC bC
 split
 ·split<;>simp_all
 rfl
theorem Gl {a b:Int} {T:aA} {L:au} (ok:gU a b T L) {s u p w:aV} {i j:Int} (hi:0<=i/\i<L.length) (hj:0<=j/\j<L.length) (hij:j<=i) (h:vU s u) (hp:vU p w) :
 vU (uM b T (L.getD i.toNat default) s p) (uM b T (L.getD j.toNat default) u w):=
 Zr ok.mix ok.Yn (ok.laws i.toNat (by omega)).Yn (λx=>ok.Qo j.toNat i.toNat (by omega) (by omega) x) h hp
variable {a b:Int} {T:aA} {L:au} {lo hi:aV} {d:(aA)×Int×Int}
def Bo (lo hi:aV) (i:Nat):Option (Int×Int):=if lo.getD i default>hi.getD i default then some ((i:Int),9) else none
def mV (a:Int) (T:aA) (lo hi:aV):Int×Int:=
 if (dw a T lo).2=0 then (if (dw a T hi).2=0 then (dJ (Bo lo hi) 0 lo.length).getD (0,0) else dw a T hi) else dw a T lo
theorem P7 {ρ:Type} (o:Option ρ) (v:ρ):P8 o (some v)=some (o.getD v):=by cases o<;>rfl
theorem au2 (ok:gU a b T L) (lo hi:aV) (h1:lo.length<1000000) (h2:hi.length<1000000):Zh a b T L T L lo hi=some (mV a T lo hi):=by
 unfold Zh mV
 rw [au' a b T L T L lo ok.tpos ok.tlt h1,Option.bind_some]
 by_cases c1:(dw a T lo).2=0
 ·rw [if_neg (by simpa using c1),if_pos c1,au' a b T L T L hi ok.tpos ok.tlt h2,Option.bind_some]
  by_cases c2:(dw a T hi).2=0
  ·have l1:=(o8 c1).1
   have l2:=(o8 c2).1
   rw [if_neg (by simpa using c2),if_pos c2, <- P7]
   refine jK lo.length _ _ _ (by omega) (λi hi'=> ?_) (by simp [Iw])
   simp only [Iw,kK hi',if_true,if_pos (iK hi'),if_pos (iK (show i<hi.length by omega)),Int.toNat_natCast,wS i (by omega),Bo]
   by_cases hc:lo.getD i default>hi.getD i default
   ·rw [if_pos (decide_eq_true hc),if_pos hc]
   rw [if_neg (by rw [decide_eq_true_eq]; exact hc),if_neg hc]
  rw [if_pos (by simpa using c2),if_neg c2]
 rw [if_pos (by simpa using c1),if_neg c1]
theorem p39 (a b:Int) (T:aA) (L:au) (lo hi:aV) (hT:T.length<1000) (hn:L.length<1000) (hL:∀ x∈L,x.length<1000) (h1:lo.length<1000000) (h2:hi.length<1000000) :
 acn a b T L lo hi=some (if (bH a b T L).2=0 then mV a T lo hi else (0,(bH a b T L).2)):=by
 unfold acn
 rw [akY a b T L hT hn hL,Option.bind_some]
 by_cases h:(bH a b T L).2=0
 ·have ok:=uX h
  rw [if_pos h,if_pos h]
  simp only
  rw [if_neg (by simp),au2 ok lo hi h1 h2,Option.bind_some]
 rw [if_neg h,if_neg h]
 simp only
 rw [if_pos (by simpa using h)]
theorem amk (h:(mV a T lo hi).2=0):(dw a T lo).2=0/\(dw a T hi).2=0/\vU lo hi/\mV a T lo hi=(0,0):=by
 unfold mV at h ⊢
 by_cases c1:(dw a T lo).2=0
 ·rw [if_pos c1] at h ⊢
  by_cases c2:(dw a T hi).2=0
  ·rw [if_pos c2] at h ⊢
   have l1:=(o8 c1).1
   have l2:=(o8 c2).1
   cases hs:dJ (Bo lo hi) 0 lo.length with
   | none=>
    refine ⟨c1,c2,acZ lo hi (by omega) λj hj=> ?_,rfl⟩
    have:=kM hs j (by omega) (by omega)
    unfold Bo at this
    split at this
    ·cases this
    ·omega
   | some v=>
    obtain ⟨j,_,_,hj⟩:=iU hs
    rw [hs] at h
    unfold Bo at hj
    split at hj
    ·cases hj; simp at h
    cases hj
  rw [if_neg c2] at h; exact absurd h c2
 rw [if_neg c1] at h; exact absurd h c1
def jQ (a b:Int) (T:aA) (L:au) (lo hi:aV):Int:=if (bH a b T L).2=0 then (mV a T lo hi).2 else (bH a b T L).2
def Bz (a b:Int) (T:aA) (L:au) (lo hi:aV):Int×Int×(aA)×(au)×(aA)×(au)×Int:=
 if (bH a b T L).2=0 then (a,b,T,L,T,L,(mV a T lo hi).2) else (0,0,[],[],[],[],(bH a b T L).2)
theorem Ui (a b:Int) (T:aA) (L:au) (lo hi:aV):(Bz a b T L lo hi).2.2.2.2.2.2=jQ a b T L lo hi:=by
 unfold Bz jQ; split<;>rfl
structure BoxOk (a b:Int) (T:aA) (L:au) (u v:aV):Prop where
 lo:uK a b T L u
 hi:uK a b T L v
 le:vU u v
theorem Rx (h:jQ a b T L lo hi=0):BoxOk a b T L lo hi:=by
 unfold jQ at h
 by_cases h0:(bH a b T L).2=0
 ·rw [if_pos h0] at h
  obtain ⟨h1,h2,h3,_⟩:=amk h
  exact ⟨RG (by unfold FD; rw [if_pos h0]; exact h1),RG (by unfold FD; rw [if_pos h0]; exact h2),h3⟩
 rw [if_neg h0] at h; exact absurd h h0
theorem Zu (h:jQ a b T L lo hi=0):Bz a b T L lo hi=(a,b,T,L,T,L,0):=by
 unfold jQ at h
 unfold Bz
 by_cases h0:(bH a b T L).2=0
 ·rw [if_pos h0] at h ⊢; rw [h]
 rw [if_neg h0] at h; exact absurd h h0
theorem qG (x:Int) (r:aV):bC (x::r)=fV x (bC r):=rfl
theorem tJ (x y z:Int):fV (fV x y) z=fV x (fV y z):=by
 unfold fV; by_cases h:x=0
 ·rw [if_pos h,if_pos h]
 rw [if_neg h,if_neg h,if_neg h]
theorem qH (x:Int):fV x 0=x:=by
 unfold fV; by_cases h:x=0
 ·rw [if_pos h,h]
 rw [if_neg h]
def F5 (r:Int×Int):Int:=fV (bG (dn r.1 0 10000 && dn r.2 0 10000) 2) (bG (decide (r.1<=r.2)) 9)
def oK:aA->Int
 | []=>0
 | r::q=>fV (F5 r) (oK q)
def Qn (L:au) (lo hi:Int):Int:=fV (bG (dn lo 0 ((L.length:Int) - 1)) 6) (fV (bG (dn hi 0 ((L.length:Int) - 1)) 6) (bG (decide (lo<=hi)) 9))
def iL (a:Int) (L:au) (ps:aA) (lo hi:Int):Int:=fV (bG ((ps.length:Int) == a) 10) (fV (oK ps) (Qn L lo hi))
theorem aCO (n:Int):TT n=some (dn n 0 10000):=rfl
structure amO (a:Int) (L:au) (ps:aA) (lo hi:Int):Prop where
 len:(ps.length:Int)=a
 rng:∀ r∈ps,(0<=r.1/\r.1<=10000)/\(0<=r.2/\r.2<=10000)/\r.1<=r.2
 law:0<=lo/\lo<=hi/\hi<L.length
theorem jX {x y:Int} (h:fV x y=0):x=0/\y=0:=by
 unfold fV at h
 by_cases hx:x=0
 ·rw [if_pos hx] at h; exact ⟨hx,h⟩
 rw [if_neg hx] at h; exact absurd h hx
theorem uf {b:Bool} {e:Int} (h:bG b e=0) (he:e≠0):b=true:=by
 cases b with
 | true=>rfl
 | false=>exact absurd h he
theorem JL:∀ {l:aA},oK l=0->∀ r∈l,(0<=r.1/\r.1<=10000)/\(0<=r.2/\r.2<=10000)/\r.1<=r.2
 | [],_,r,hr=>by simp at hr
 | x::q,h,r,hr=>by
  obtain ⟨h1,h2⟩:=jX h
  rcases List.mem_cons.1 hr with rfl | hr
  ·obtain ⟨g1,g2⟩:=jX h1
   have g1:=uf g1 (by decide)
   have g2:=uf g2 (by decide)
   rw [Bool.and_eq_true,kN,kN] at g1
   exact ⟨g1.1,g1.2,of_decide_eq_true g2⟩
  exact JL h2 r hr
theorem LW {ps:aA} {lo hi:Int} (h:iL a L ps lo hi=0):amO a L ps lo hi:=by
 obtain ⟨h1,h2⟩:=jX h
 obtain ⟨h3,h4⟩:=jX h2
 obtain ⟨h5,h6⟩:=jX h4
 obtain ⟨h7,h8⟩:=jX h6
 have g1:=uf h1 (by decide)
 have g5:=kN.1 (uf h5 (by decide))
 have g7:=kN.1 (uf h7 (by decide))
 have g8:=of_decide_eq_true (uf h8 (by decide))
 exact ⟨by simpa using g1,JL h3,g5.1,g8,by omega⟩
def uV (a:Int) (L:au):List ((aA)×Int×Int)->Int
 | []=>0
 | d::r=>fV (iL a L d.1 d.2.1 d.2.2) (uV a L r)
def kL (a:Int) (L:au) (l:List ((aA)×Int×Int)):Int:=fV (bG (decide ((l.length:Int)<=200)) 8) (uV a L l)
theorem zG {l:List ((aA)×Int×Int)} (h:kL a L l=0):l.length<=200/\∀ d∈l,iL a L d.1 d.2.1 d.2.2=0:=by
 obtain ⟨h1,h2⟩:=jX h
 have g1:=of_decide_eq_true (uf h1 (by decide))
 refine ⟨by omega,?_⟩
 have:∀ l:List ((aA)×Int×Int),uV a L l=0->∀ d∈l,iL a L d.1 d.2.1 d.2.2=0:=by
  intro l
  induction l with
  | nil=>intro _ d hd; simp at hd
  | cons x r ih=>
   intro h d hd
   obtain ⟨e1,e2⟩:=jX h
   rcases List.mem_cons.1 hd with rfl | hd
   ·exact e1
   exact ih e2 d hd
 exact this l h2
def boxS (b:Int) (T:aA) (L:au) (lo hi:aV) (d:(aA)×Int×Int):Option (aV×aV):=
 if (uM b T (L.getD d.2.2.toNat default) lo (d.1.map (·.1))).all (inT T)=true/\(uM b T (L.getD d.2.1.toNat default) hi (d.1.map (·.2))).all (inT T)=true then
  some (uM b T (L.getD d.2.2.toNat default) lo (d.1.map (·.1)),uM b T (L.getD d.2.1.toNat default) hi (d.1.map (·.2)))
 else none
theorem af7 (H:BoxOk a b T L lo hi) (hd:iL a L d.1 d.2.1 d.2.2=0):Di T L lo (d.1.map (·.1)) d.2.2/\Di T L hi (d.1.map (·.2)) d.2.1:=by
 have S:=LW hd
 have h1:=H.lo.len
 have h2:=H.hi.len
 have h3:=H.lo.ok.cells
 have h4:=S.len
 have h5:=S.law
 refine ⟨⟨H.lo.ins,by rw [List.length_map]; omega,⟨by omega,by omega⟩,λx hx=> ?_,by omega,by omega⟩,⟨H.hi.ins,by rw [List.length_map]; omega,⟨by omega,by omega⟩,λx hx=> ?_,by omega,by omega⟩⟩
 ·obtain ⟨r,hr,rfl⟩:=List.mem_map.1 hx; exact (S.rng r hr).1
 obtain ⟨r,hr,rfl⟩:=List.mem_map.1 hx; exact (S.rng r hr).2.1
def bxR (o:Option (aV×aV)):aV×aV×Int:=(o.map λy=>(y.1,y.2,(0:Int))).getD ([],[],22)
theorem agW (l:aA) (h:∀ r∈l,r.1<=r.2):vU (l.map (·.1)) (l.map (·.2)):=by
 induction l with
 | nil=>trivial
 | cons x r ih=>exact ⟨h x (by simp),ih λy hy=>h y (by simp [hy])⟩
theorem BoxOk.next (H:BoxOk a b T L lo hi) (hd:iL a L d.1 d.2.1 d.2.2=0) {y:aV×aV} (hy:boxS b T L lo hi d=some y):BoxOk a b T L y.1 y.2:=by
 have S:=LW hd
 unfold boxS at hy
 split at hy
 ·rename_i hc
  cases hy
  exact ⟨H.lo.next hc.1,H.hi.next hc.2,Gl H.lo.ok ⟨by have:=S.law; omega,S.law.2.2⟩ ⟨S.law.1,by have:=S.law; omega⟩ S.law.2.1 H.le (agW d.1 λr hr=>(S.rng r hr).2.2)⟩
 cases hy
def jk (b:Int) (T:aA) (L:au):aV->aV->List ((aA)×Int×Int)->Option (List (aV×aV))
 | _,_,[]=>some []
 | lo,hi,d::r=>(boxS b T L lo hi d).bind λy=>(jk b T L y.1 y.2 r).map λz=>y::z
def bxF (o:Option (List (aV×aV))) (out:List (aV×aV)):List (aV×aV)×Int:=(o.map λz=>(out++z,(0:Int))).getD ([],22)
def bxG (o:Option (List (aV×aV))) (out:List (aV×aV)):List (aV×aV)×Bool:=(o.map λz=>(out++z,true)).getD ([],false)
theorem aeU {r:List ((aA)×Int×Int)} {out:List (aV×aV)} {y:aV×aV} (h:boxS b T L lo hi d=some y) :
 bxF (jk b T L lo hi (d::r)) out=bxF (jk b T L y.1 y.2 r) (out++[y])/\bxG (jk b T L lo hi (d::r)) out=bxG (jk b T L y.1 y.2 r) (out++[y]):=by
 have e:jk b T L lo hi (d::r)=(jk b T L y.1 y.2 r).map λz=>y::z:=by
  conv=>lhs; unfold jk
  rw [h]; rfl
 rw [e]
 unfold bxF bxG
 cases jk b T L y.1 y.2 r with
 | none=>exact ⟨rfl,rfl⟩
 | some z=>simp
theorem YT {r:List ((aA)×Int×Int)} (h:boxS b T L lo hi d=none):jk b T L lo hi (d::r)=none:=by
 unfold jk; rw [h]; rfl
theorem vg:∀ (l:List ((aA)×Int×Int)) (lo hi:aV) (z:List (aV×aV)),jk b T L lo hi l=some z->z.length=l.length/\∀ x∈z,x.1.length=lo.length/\x.2.length=hi.length
 | [],lo,hi,z,h=>by cases h; exact ⟨rfl,by simp⟩
 | d::r,lo,hi,z,h=>by
  unfold jk at h
  cases hb:boxS b T L lo hi d with
  | none=>rw [hb] at h; cases h
  | some y=>
   rw [hb,Option.bind_some] at h
   have hyl:y.1.length=lo.length/\y.2.length=hi.length:=by
    unfold boxS at hb
    split at hb
    ·cases hb; exact ⟨zV ..,zV ..⟩
    cases hb
   cases hr:jk b T L y.1 y.2 r with
   | none=>rw [hr] at h; cases h
   | some w=>
    rw [hr] at h; cases h
    obtain ⟨h1,h2⟩:=vg r _ _ w hr
    refine ⟨by simp [h1],λx hx=> ?_⟩
    rcases List.mem_cons.1 hx with rfl | hx
    ·exact hyl
    have:=h2 x hx; omega
theorem p46 (ok:gU a b T L) (lo hi:aV) (h1:lo.length<1000000) (h2:hi.length<1000000):abK a b T L lo hi=some (mV a T lo hi):=by
 unfold abK mV
 rw [p27 a b T L lo ok.tpos ok.tlt h1,Option.bind_some]
 by_cases c1:(dw a T lo).2=0
 ·rw [if_neg (by simpa using c1),if_pos c1,p27 a b T L hi ok.tpos ok.tlt h2,Option.bind_some]
  by_cases c2:(dw a T hi).2=0
  ·have l1:=(o8 c1).1
   have l2:=(o8 c2).1
   rw [if_neg (by simpa using c2),if_pos c2, <- P7, <- l1]
   refine jK lo.length _ _ _ (by omega) (λi hi'=> ?_) (by simp [Ir])
   simp only [Ir,kK hi',if_true,if_pos (iK hi'),if_pos (iK (show i<hi.length by omega)),Int.toNat_natCast,wS i (by omega),Bo]
   by_cases hc:lo.getD i default>hi.getD i default
   ·rw [if_pos (decide_eq_true hc),if_pos hc]
   rw [if_neg (by rw [decide_eq_true_eq]; exact hc),if_neg hc]
  rw [if_pos (by simpa using c2),if_neg c2]
 rw [if_pos (by simpa using c1),if_neg c1]
theorem p82 (a b:Int) (T:aA) (L:au) (lo hi:aV) (hn:L.length<1000) (hL:∀ x∈L,x.length<1000) (h1:lo.length<1000000) (h2:hi.length<1000000):abY a b T L lo hi=some (jQ a b T L lo hi):=by
 unfold abY jQ
 rw [p45 a b T L hn hL,Option.bind_some]
 by_cases h:(bH a b T L).2=0
 ·have ok:=uX h
  rw [if_neg (by simpa using h),if_pos h,p46 ok lo hi h1 h2,Option.bind_some]
 rw [if_pos (by simpa using h),if_neg h]
theorem p40 (u v:aV) (h1:u.length<1000000) (h2:v.length<1000000):r97 u v=some (u,v):=by
 unfold r97
 rw [p19 u (by omega),Option.bind_some,p19 v (by omega),Option.bind_some]
theorem QT (B:Int×Int->eY (Int×Int) Int) (hB:∀ x y:Int,0<=x->x<=9000000000000000000->0<=y->B (x,y)=if y=0 then .out (some x) else .next (y,x.tmod y)) :
 ∀ (n:Nat) (x y:Int) (fuel:Nat),0<=x->x<=9000000000000000000->0<=y->y<=9000000000000000000->y<n->n<fuel->aK B fuel (x,y)=some (Int.gcd x y:Int)
 | 0,x,y,fuel,_,_,_,_,_,_=>by omega
 | n+1,x,y,fuel,h1,h2,h3,h3',h4,h5=>by
  obtain ⟨m,rfl⟩:∃ m,fuel=m+1:=⟨fuel - 1,by omega⟩
  simp only [aK,hB x y h1 h2 h3]
  by_cases hy:y=0
  ·rw [if_pos hy]
   simp only
   rw [hy,Int.gcd_zero_right,Int.natAbs_of_nonneg h1]
  rw [if_neg hy]
  simp only
  have e1:x.tmod y=x % y:=Int.tmod_eq_emod_of_nonneg h1
  have e2:=Int.emod_nonneg x hy
  have e3:=Int.emod_lt_of_pos x (show 0<y by omega)
  rw [e1,QT B hB n y (x % y) m h3 h3' e2 (by omega) (by omega) (by omega)]
  congr 2
  rw [Int.emod_def,Int.sub_eq_add_neg, <- Int.mul_neg,Int.gcd_add_mul_left_right,Int.gcd_comm]
theorem ak1 (x:Int) (h1:0<=x) (h2:x<=9000000000000000000):(if x<IntKind.i64.wrap (0 - x) then IntKind.i64.wrap (0 - x) else x)=x:=by
 rw [IntWalk.i64_in (0 - x) ⟨by omega,by omega⟩,if_neg (by omega)]
theorem aCS (x y:Int) (h1:0<=x) (h2:x<=9000000000000000000) (h3:0<=y) (h4:y<=100000000):Y6 x y=some (Int.gcd x y:Int):=by
 unfold Y6
 refine QT Iq (λx y hx hx2 hy=> ?_) 100000001 x y 1000000000 h1 h2 h3 (by omega) (by omega) (by omega)
 unfold Iq
 simp only [ak1 x hx hx2]
 by_cases h:y=0
 ·rw [if_pos h,if_neg (by simpa using h)]
 rw [if_neg h,if_pos (by simpa using h),if_pos h]
theorem low {v:Rat} {N D:Int} (h:At v N D 1000000 3000):(Int.gcd N D:Int)≠0/\IntKind.i64.wrap (N.tdiv (Int.gcd N D))=v.num/\IntKind.i64.wrap (D.tdiv (Int.gcd N D))=v.den:=by
 have h1:=h.pos; have h2:=h.le; have h3:=h.num
 have h0:(0:Rat)<D:=Rat.intCast_pos.2 h1
 have e:v=Rat.divInt N D:=by
  rw [Rat.divInt_eq_div,h.eq,Rat.mul_div_cancel (by grind)]
 have hg:0<Int.gcd N D:=by
  apply Nat.pos_of_ne_zero; intro hz
  rw [Int.gcd_eq_zero_iff] at hz; omega
 have g0:(0:Int)<(Int.gcd N D:Int):=by omega
 have n1:N.tdiv (Int.gcd N D)=N / (Int.gcd N D:Int):=Int.tdiv_eq_ediv_of_nonneg h3.1
 have d1:D.tdiv (Int.gcd N D)=D / (Int.gcd N D:Int):=Int.tdiv_eq_ediv_of_nonneg (by omega)
 have b1:0<=N / (Int.gcd N D:Int):=Int.ediv_nonneg h3.1 (by omega)
 have b2:N / (Int.gcd N D:Int)<=N:=Int.ediv_le_self _ h3.1
 have b3:0<=D / (Int.gcd N D:Int):=Int.ediv_nonneg (by omega) (by omega)
 have b4:D / (Int.gcd N D:Int)<=D:=Int.ediv_le_self _ (by omega)
 refine ⟨by omega,?_,?_⟩
 ·rw [n1,IntWalk.i64_in _ ⟨by omega,by omega⟩,e,Rat.num_divInt,Int.sign_eq_one_of_pos h1,Int.one_mul,Int.gcd_comm]
 rw [d1,IntWalk.i64_in _ ⟨by omega,by omega⟩,e,Rat.den_divInt,if_neg (by omega),Int.gcd_comm D N]
 have:(D.natAbs:Int)=D:=Int.natAbs_of_nonneg (by omega)
 rw [Int.natCast_ediv,this]
def agc (a b:Int) (T:aA) (L:au):Int:=(bH a b T L).2
theorem p53 (a b:Int) (T:aA) (L:au) (e:Int) (hT:T.length<1000) (hn:L.length<1000) (hL:∀ x∈L,x.length<1000) :
 TY a b T L e=some (if agc a b T L=0 then (if inT T e=true then ((pl T e).num,((pl T e).den:Int),0) else (0,0,2)) else (0,0,agc a b T L)):=by
 unfold TY agc
 rw [akY a b T L hT hn hL,Option.bind_some]
 by_cases h:(bH a b T L).2=0
 ·have ok:=uX h
  rw [if_pos h,if_pos h]
  simp only
  rw [if_pos (by rfl),akW a b T L T L e ok.tpos ok.tlt,Option.bind_some,p94,Option.bind_some]
  cases he:inT T e with
  | false=>rfl
  | true=>
   obtain ⟨N,D,e1,P⟩:=agM ok a b T L L e
   obtain ⟨g0,g1,g2⟩:=low P
   have q1:=P.pos; have q2:=P.le; have q3:=P.num
   rw [if_neg (by decide),e1,Option.bind_some,aCS N D q3.1 (by omega) (by omega) (by omega),Option.bind_some,if_pos g0,if_pos g0,g1,g2]
   rfl
 rw [if_neg h,if_neg h]
 simp only
 rw [if_neg (by simpa using h),if_pos (by simpa using h)]
end Go.Proofs.YtnepigpnlnmlmaaGreatDoor

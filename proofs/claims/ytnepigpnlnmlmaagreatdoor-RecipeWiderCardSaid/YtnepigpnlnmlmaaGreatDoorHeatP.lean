/- Texts. -/
import Derived.Test.YtnepigpnlnmlmaaGreatDoorF01
import Derived.Test.YtnepigpnlnmlmaaGreatDoorF10
import Derived.Test.YtnepigpnlnmlmaaGreatDoorF18
import Derived.Test.YtnepigpnlnmlmaaGreatDoorAbsC
import Derived.Test.YtnepigpnlnmlmaaGreatDoorF02
set_option linter.unusedVariables false
set_option linter.unusedSimpArgs false
namespace Go.Proofs.YtnepigpnlnmlmaaGreatDoor
open Go.dR
theorem gS {p:Prop} {α β:Type} {v:α} [Decidable (p->(some v).isSome=true)] {a b:β}:(if p->(some v).isSome=true then a else b)=a:=if_pos (λ_=>rfl)
theorem p90 (a b c:Int):Bh a b c=some (dn a b c):=rfl
theorem p59 (a b c:Int):rJ a b c=some (dn a b c):=rfl
theorem p94 (b:Bool) (e:Int):pJ b e=some (bG b e):=by
 unfold pJ bG; cases b<;>rfl
theorem p91 (l:aV) (hl:l.length<1000000000):D6 l=some (bC l):=by
 have h:=eU (τ:=Unit) l (CB l) (λi _=>i) (λ_ _ x=>if x=0 then .next () else .out (some x)) (λ_=>some 0) hl
  (λi t hi=>by
   simp only [CB,kK hi,if_true,if_pos (iK hi),Int.toNat_natCast,wS i (by omega)]
   generalize l.getD i default=x
   by_cases hx:x=0<;>simp [hx,uN])
  (λt=>by simp [CB]) ()
 unfold D6
 rw [h]
 have:∀ (r:aV) (i:Int),dV (λ_ _ x=>if x=0 then eY.next () else .out (some x)) (λ_:Unit=>some 0) i r ()=some (bC r):=by
  intro r
  induction r with
  | nil=>intro i; rfl
  | cons x r ih=>
   intro i
   by_cases hx:x=0
   ·simp only [dV,hx,if_true,bC]; exact ih _
   simp only [dV,if_neg hx,bC]
 exact this l 0
def Jh (p:Int->Bool):Int->aV->Int
 | _,[]=> -1
 | i,x::r=>if p x then i else Jh p (i+1) r
theorem Qv (p:Int->Bool):∀ (r:aV) (i:Int),dV (λi _ x=>if p x then (.out (some i):eY Unit Int) else .next ()) (λ_:Unit=>some (-1)) i r ()=some (Jh p i r)
 | [],i=>rfl
 | x::r,i=>by
  cases hx:p x with
  | true=>simp [dV,hx,Jh]
  | false=>simp only [dV,hx,Jh]; exact Qv p r (i+1)
theorem adt (p:Int->Bool):∀ (l:aV) (i:Int),0<=i->(decide (Jh p i l>=0))=l.any p
 | [],i,h=>by simp [Jh]
 | x::r,i,h=>by
  cases hx:p x with
  | true=>simp [Jh,hx,h]
  | false=>simp only [Jh,hx,List.any_cons,Bool.false_or]; exact adt p r (i+1) (by omega)
theorem p19 (l:aV) (hl:l.length<1000000000):r70 l=some l:=by
 unfold r70; rw [if_pos ⟨by omega,by omega⟩]
def P8 {ρ:Type} (s fin:Option ρ):Option ρ:=match s with | some v=>some v | none=>fin
theorem P6 {ρ:Type} (v:ρ) (fin:Option ρ):P8 (some v) fin=some v:=rfl
theorem Gm {ρ:Type} (fin:Option ρ):P8 none fin=fin:=rfl
def dJ {ρ:Type} (f:Nat->Option ρ):Nat->Nat->Option ρ
 | _,0=>none
 | i,k+1=>match f i with
  | some v=>some v
  | none=>dJ f (i+1) k
theorem jK {ρ:Type} (n:Nat) (b:Int->eY Int ρ) (f:Nat->Option ρ) (fin:Option ρ) (hn:n<1000000000)
 (step:∀ i:Nat,i<n->b i=match f i with | some v=> .out (some v) | none=> .next ((i:Int)+1)) (stop:b n= .out fin) :
 aK b 1000000000 0=P8 (dJ f 0 n) fin:=by
 have key:∀ (k i fuel:Nat),i+k=n->k<fuel->aK b fuel i=P8 (dJ f i k) fin:=by
  intro k
  induction k with
  | zero=>
   intro i fuel hi hf
   obtain ⟨m,rfl⟩:∃ m,fuel=m+1:=⟨fuel - 1,by omega⟩
   obtain rfl:i=n:=by omega
   simp [aK,stop,dJ,P8]
  | succ k ih=>
   intro i fuel hi hf
   obtain ⟨m,rfl⟩:∃ m,fuel=m+1:=⟨fuel - 1,by omega⟩
   simp only [aK,step i (by omega),dJ]
   cases hfx:f i with
   | none=>
    have:=ih (i+1) m (by omega) (by omega)
    simpa using this
   | some v=>rfl
 have:=key n 0 1000000000 (by omega) hn
 simpa using this
theorem mM {σ ρ:Type} (n:Nat) (b:σ->eY σ ρ) (st:Nat->σ) (fin:Option ρ) (hn:n<1000000000)
 (step:∀ i:Nat,i<n->b (st i)= .next (st (i+1))) (stop:b (st n)= .out fin):aK b 1000000000 (st 0)=fin:=by
 have key:∀ (k i fuel:Nat),i+k=n->k<fuel->aK b fuel (st i)=fin:=by
  intro k
  induction k with
  | zero=>
   intro i fuel hi hf
   obtain ⟨m,rfl⟩:∃ m,fuel=m+1:=⟨fuel - 1,by omega⟩
   obtain rfl:i=n:=by omega
   simp [aK,stop]
  | succ k ih=>
   intro i fuel hi hf
   obtain ⟨m,rfl⟩:∃ m,fuel=m+1:=⟨fuel - 1,by omega⟩
   simp only [aK,step i (by omega)]
   exact ih (i+1) m (by omega) (by omega)
 exact key n 0 1000000000 (by omega) hn
theorem kM {ρ:Type} {f:Nat->Option ρ}:∀ {k i:Nat},dJ f i k=none->∀ j,i<=j->j<i+k->f j=none
 | 0,i,_,j,h1,h2=>by omega
 | k+1,i,h,j,h1,h2=>by
  simp only [dJ] at h
  cases hf:f i with
  | some v=>rw [hf] at h; cases h
  | none=>
   rw [hf] at h
   by_cases hj:j=i
   ·rw [hj,hf]
   exact kM (k:=k) h j (by omega) (by omega)
theorem iU {ρ:Type} {f:Nat->Option ρ} {v:ρ}:∀ {k i:Nat},dJ f i k=some v->∃ j,i<=j/\j<i+k/\f j=some v
 | 0,i,h=>by cases h
 | k+1,i,h=>by
  simp only [dJ] at h
  cases hf:f i with
  | some w=>rw [hf] at h; exact ⟨i,Nat.le_refl _,by omega,by rw [hf]; exact h⟩
  | none=>
   rw [hf] at h
   obtain ⟨j,h1,h2,h3⟩:=iU (k:=k) h
   exact ⟨j,by omega,by omega,h3⟩
theorem zK {ρ:Type} {f:Nat->Option ρ} {k i:Nat} (h:∀ j,i<=j->j<i+k->f j=none):dJ f i k=none:=by
 cases hs:dJ f i k with
 | none=>rfl
 | some v=>obtain ⟨j,h1,h2,h3⟩:=iU hs; rw [h j h1 h2] at h3; cases h3
theorem Am (P:Nat->Prop) [DecidablePred P]:∀ n:Nat,∃ k,k<=n/\(∀ i,i<k->P i)/\(k<n->¬ P k)
 | 0=>⟨0,Nat.le_refl _,λ_ h=>by omega,λh=>by omega⟩
 | n+1=>by
  obtain ⟨k,h1,h2,h3⟩:=Am P n
  by_cases hk:k<n
  ·exact ⟨k,by omega,h2,λ_=>h3 hk⟩
  obtain rfl:k=n:=by omega
  by_cases hp:P k
  ·exact ⟨k+1,by omega,λi hi=>by
    by_cases hik:i=k
    ·rw [hik]; exact hp
    exact h2 i (by omega),λh=>by omega⟩
  exact ⟨k,by omega,h2,λ_=>hp⟩
theorem wP (i:Nat) (h:i<1000000000):IntKind.i64.wrap ((i:Int) - 1)=(i:Int) - 1:=IntWalk.i64_in _ ⟨by omega,by omega⟩
theorem wPn (i:Nat):(((i:Int)) - 1).toNat=i - 1:=by omega
theorem rgP {i n:Nat} (h:i<n) (h0:0<i):0<=(i:Int) - 1/\(i:Int) - 1<(n:Int):=⟨by omega,by omega⟩
theorem mid (a b:Nat) (h:a+b<1000000000):IntKind.i64.wrap ((IntKind.u64.wrap (IntKind.i64.wrap ((a:Int)+(b:Int)))) / 2 ^ 1)=(((a+b) / 2:Nat):Int):=by
 rw [IntWalk.i64_in ((a:Int)+(b:Int)) ⟨by omega,by omega⟩]
 have:IntKind.u64.wrap ((a:Int)+(b:Int))=(a:Int)+(b:Int):=by simp only [IntKind.wrap_u64]; omega
 rw [this]
 have:((a:Int)+(b:Int)) / 2 ^ 1=(((a+b) / 2:Nat):Int):=by omega
 rw [this]
 exact IntWalk.i64_in _ ⟨by omega,by omega⟩
def aas (a b:Int):Int:=if a<b then -1 else if a>b then 1 else 0
theorem auS (x y n d:Int):TQ x y n d=some (aas (IntKind.i64.wrap (x*d)) n):=by
 unfold TQ agn MI aas
 generalize IntKind.i64.wrap (x*d)=a
 simp only [Option.bind_some,bne_self_eq_false,Bool.false_eq_true,if_false,decide_eq_true_eq]
 split
 ·rfl
 split<;>rfl
def ltK (l:aA) (n d:Int) (i:Nat):Prop:=IntKind.i64.wrap ((l.getD i default).1*d)<n
instance (l n d i):Decidable (ltK l n d i):=by unfold ltK; infer_instance
theorem aCG (l:aA) (n d:Int) (hl:l.length<1000) (k:Nat) (hk:k<=l.length) (h1:∀ i,i<k->ltK l n d i) (h2:∀ i,k<=i->i<l.length->¬ ltK l n d i) :
 ∃ b,agp l n d=some ((k:Int),b):=by
 have key:∀ (fuel lo hi:Nat),lo<=k->k<=hi->hi<=l.length->hi - lo<fuel->∃ b,aK (Cc l n d) fuel ((lo:Int),(hi:Int))=some ((k:Int),b):=by
  intro fuel
  induction fuel with
  | zero=>intro lo hi _ _ _ h; omega
  | succ m ih=>
   intro lo hi a1 a2 a3 a4
   by_cases hlt:lo<hi
   ·have e0:(decide ((lo:Int)<(hi:Int)))=true:=by simpa using hlt
    have em:(lo+hi) / 2<l.length:=by omega
    have e2:IntKind.i64.wrap ((((lo+hi) / 2:Nat):Int)+1)=(((lo+hi) / 2+1:Nat):Int):=by rw [wS _ (by omega)]; omega
    simp only [aK,Cc,e0,if_true,mid lo hi (by omega),if_pos (iK em),Int.toNat_natCast,auS,aW,e2]
    by_cases hp:ltK l n d ((lo+hi) / 2)
    ·have hc:(decide (aas (IntKind.i64.wrap ((l.getD ((lo+hi) / 2) default).1*d)) n<0))=true:=by
      unfold ltK at hp; unfold aas; rw [if_pos hp]; rfl
     simp only [hc,if_true]
     have:(lo+hi) / 2<k:=by
      apply Nat.lt_of_not_le; intro hge; exact h2 _ hge em hp
     exact ih _ _ (by omega) (by omega) (by omega) (by omega)
    have hc:(decide (aas (IntKind.i64.wrap ((l.getD ((lo+hi) / 2) default).1*d)) n<0))=false:=by
     unfold ltK at hp; unfold aas; rw [if_neg hp]; split<;>rfl
    simp only [hc,Bool.false_eq_true,if_false]
    have:k<=(lo+hi) / 2:=by
     apply Nat.le_of_not_lt; intro hlt'; exact hp (h1 _ hlt')
    exact ih _ _ (by omega) (by omega) (by omega) (by omega)
   obtain rfl:lo=k:=by omega
   obtain rfl:hi=lo:=by omega
   have e0:(decide ((hi:Int)<(hi:Int)))=false:=by simp
   simp only [aK,Cc,e0,Bool.false_eq_true,if_false,auS,Option.isSome_some,implies_true,if_true]
   by_cases hkl:hi<l.length
   ·have e3:0<=(hi:Int)/\(hi:Int)<(l.length:Int):=iK hkl
    rw [if_pos (λ_=>e3)]
    exact ⟨_,rfl⟩
   have e3:(decide ((hi:Int)<(l.length:Int)))=false:=by simp; omega
   simp only [e3,Bool.false_eq_true,false_implies,if_true]
   exact ⟨_,rfl⟩
 exact key 1000000000 0 l.length (by omega) hk (Nat.le_refl _) (by omega)
def yh (l:aA) (n d:Int) (k:Nat):Int×Int:=
 if l.length=0 then (0,1)
 else if k=0 then ((l.getD 0 default).2,1)
 else if k=l.length then ((l.getD (k - 1) default).2,1)
 else (IntKind.i64.wrap ((IntKind.i64.wrap (((l.getD (k - 1) default).2)*(IntKind.i64.wrap ((IntKind.i64.wrap (((l.getD k default).1) - ((l.getD (k - 1) default).1)))*d))))+(IntKind.i64.wrap ((IntKind.i64.wrap (((l.getD k default).2) - ((l.getD (k - 1) default).2)))*(IntKind.i64.wrap (n - (IntKind.i64.wrap (((l.getD (k - 1) default).1)*d))))))),IntKind.i64.wrap ((IntKind.i64.wrap (((l.getD k default).1) - ((l.getD (k - 1) default).1)))*d))
theorem aCR (l:aA) (n d:Int) (hl:l.length<1000) (k:Nat) (hk:k<=l.length) (h1:∀ i,i<k->ltK l n d i) (h2:∀ i,k<=i->i<l.length->¬ ltK l n d i) :
 D5 l n d=some (yh l n d k):=by
 obtain ⟨b,hb⟩:=aCG l n d hl k hk h1 h2
 unfold D5 yh
 rw [hb,Option.bind_some]
 by_cases h0:l.length=0
 ·have:((l.length:Int) == 0)=true:=by simp [h0]
  rw [if_pos this,if_pos h0]
 have:¬ ((l.length:Int) == 0)=true:=by rw [beq_iff_eq]; omega
 rw [if_neg this,if_neg h0]
 simp only
 by_cases hk0:k=0
 ·have:((k:Int) == 0)=true:=by simp [hk0]
  rw [if_pos this,if_pos hk0,if_pos ⟨by omega,by omega⟩]
 have:¬ ((k:Int) == 0)=true:=by rw [beq_iff_eq]; omega
 rw [if_neg this,if_neg hk0,wP k (by omega),wPn]
 by_cases hkl:k=l.length
 ·have:((k:Int) == (l.length:Int))=true:=by simp [hkl]
  rw [if_pos this,if_pos hkl,if_pos ⟨by omega,by omega⟩]
 have:¬ ((k:Int) == (l.length:Int))=true:=by rw [beq_iff_eq]; omega
 rw [if_neg this,if_neg hkl,if_pos ⟨by omega,by omega⟩,if_pos ⟨by omega,by omega⟩,Int.toNat_natCast]
theorem auV (l:aA) (n d:Int) (hl:l.length<1000) (k:Nat) (hk:k<=l.length) (h1:∀ i,i<k->ltK l n d i) (h2:k<l.length->¬ ltK l n d k) :
 xw l n d=some (yh l n d k):=by
 unfold xw
 by_cases h0:l.length=0
 ·have:((l.length:Int) == 0)=true:=by simp [h0]
  rw [if_pos this]; unfold yh; rw [if_pos h0]
 have:¬ ((l.length:Int) == 0)=true:=by rw [beq_iff_eq]; omega
 rw [if_neg this]
 refine mM k (yX l n d) (λi=>(i:Int)) _ (by omega) ?_ ?_
 ·intro i hi
  have hp:=h1 i hi
  unfold ltK at hp
  have e:¬ (decide (n<=IntKind.i64.wrap ((l.getD i default).1*d)))=true:=by rw [decide_eq_true_eq]; omega
  simp only [yX,kK (show i<l.length by omega),if_true,if_pos (iK (show i<l.length by omega)),Int.toNat_natCast,if_neg e,wS i (by omega)]
  rfl
 by_cases hkl:k<l.length
 ·have hp:=h2 hkl
  unfold ltK at hp
  have e:(decide (n<=IntKind.i64.wrap ((l.getD k default).1*d)))=true:=decide_eq_true (by omega)
  simp only [yX,kK hkl,if_true,if_pos (iK hkl),Int.toNat_natCast,e,wP k (by omega),wPn]
  unfold yh
  rw [if_neg h0]
  by_cases hk0:k=0
  ·subst hk0
   rw [if_pos rfl,if_pos (by rfl),if_pos ⟨by omega,by omega⟩]
  have:¬ ((k:Int) == 0)=true:=by rw [beq_iff_eq]; omega
  rw [if_neg this,if_neg hk0,if_neg (show ¬ k=l.length by omega),if_pos (rgP hkl (by omega))]
 obtain rfl:k=l.length:=by omega
 have e0:(decide ((l.length:Int)<(l.length:Int)))=false:=by simp
 simp only [yX,e0,Bool.false_eq_true,if_false,wP l.length (by omega),wPn]
 rw [if_pos ⟨by omega,by omega⟩]
 unfold yh
 rw [if_neg h0,if_neg h0,if_pos rfl]
theorem auU (a:Int):Zb a=some (dn a 200 3000):=rfl
theorem akX (a:Int):r88 a=some (dn a 200 3000):=rfl
def dX (l:aA) (i:Nat):Int:=IntKind.i64.wrap ((l.getD i default).1 - (l.getD (i - 1) default).1)
def dY (l:aA) (i:Nat):Int:=IntKind.i64.wrap ((l.getD i default).2 - (l.getD (i - 1) default).2)
def zD (l:aA) (i:Nat):Option (Int×Int):=
 if (dn (l.getD i default).1 0 1000000 && dn (l.getD i default).2 200 3000)=true then
  if i=0 then none
  else if 0<dX l i/\0<dY l i then (if dY l i<=dX l i then none else some (i,22))
  else some (i,9)
 else some (i,2)
theorem NV (e:Int):bG true e=0:=rfl
theorem NW (e:Int):bG false e=e:=rfl
theorem p99 (l:aA):ab6 l=if l.length<2 then some (0,10) else if 8<l.length then some (0,8) else P8 (dJ (zD l) 0 l.length) (some (0,0)):=by
 unfold ab6
 simp only [p94,Option.bind_some]
 rw [p91 _ (by simp),Option.bind_some]
 by_cases h2:l.length<2
 ·have:(decide ((l.length:Int)>=2))=false:=by simp; omega
  rw [if_pos h2,this]; rfl
 have e2:(decide ((l.length:Int)>=2))=true:=by simp; omega
 rw [if_neg h2,e2]
 by_cases h8:8<l.length
 ·have:(decide ((l.length:Int)<=8))=false:=by simp; omega
  rw [if_pos h8,this]; rfl
 have e8:(decide ((l.length:Int)<=8))=true:=by simp; omega
 rw [if_neg h8,e8]
 show aK (y8 l) 1000000000 0=_
 refine jK l.length (y8 l) (zD l) _ (by omega) ?_ ?_
 ·intro i hi
  simp only [y8,kK hi,if_true,if_pos (iK hi),Int.toNat_natCast,wS i (by omega),wP i (by omega),wPn,p90,auU,p94,aW,Option.isSome_some,Option.getD_some,implies_true]
  unfold zD
  rcases Bool.eq_false_or_eq_true (dn (l.getD i default).1 0 1000000 && dn (l.getD i default).2 200 3000) with h | h
  ·rw [h]
   simp only [NV,if_true,beq_self_eq_true,Bool.true_and]
   by_cases h0:i=0
   ·have:(decide ((i:Int)>0))=false:=by simp [h0]
    simp only [this,Bool.false_eq_true,if_false,bne_self_eq_false]
    rw [if_pos h0]
   have e0:(decide ((i:Int)>0))=true:=by simp; omega
   simp only [e0,if_true,if_pos (rgP hi (by omega)),h0,if_false]
   rw [p91 _ (by simp)]
   simp only
   show (if (bC [bG (decide (dX l i>0) && decide (dY l i>0)) 9,bG (decide (dY l i<=dX l i)) 22] != 0)=true then eY.out (some ((i:Int),bC [bG (decide (dX l i>0) && decide (dY l i>0)) 9,bG (decide (dY l i<=dX l i)) 22])) else _)=_
   generalize dX l i=a
   generalize dY l i=b
   by_cases ha:0<a/\0<b
   ·have hb:(decide (a>0) && decide (b>0))=true:=by simp; exact ha
    rw [hb,if_pos ha]
    by_cases hc:b<=a<;>simp [NV,bC,hc,bG]
   have hb:(decide (a>0) && decide (b>0))=false:=by simp; omega
   rw [hb,if_neg ha]; simp [NW,bC]
  rw [h]
  simp [NW]
 simp [y8]
theorem aCC (l:aA) (L:au) (hl:l.length<1000) :
 aK (y9 l L) 1000000000 0=P8 (dJ (zD l) 0 l.length) (if (decide ((L.length:Int)>4))=true then some (0,8) else aK (uo L) 1000000000 0):=by
 refine jK l.length (y9 l L) (zD l) _ (by omega) ?_ ?_
 ·intro i hi
  simp only [y9,kK hi,if_true,if_pos (iK hi),Int.toNat_natCast,wS i (by omega),wP i (by omega),wPn,p59,akX,aW,Option.isSome_some,Option.getD_some,implies_true,iK hi,and_self,decide_true,if_true]
  unfold zD
  have hor:((!(dn (l.getD i default).1 0 1000000)) || (!(dn (l.getD i default).2 200 3000)))= !(dn (l.getD i default).1 0 1000000 && dn (l.getD i default).2 200 3000):=by rw [Bool.not_and]
  rw [hor]
  rcases Bool.eq_false_or_eq_true (dn (l.getD i default).1 0 1000000 && dn (l.getD i default).2 200 3000) with h | h
  ·rw [h]
   simp only [Bool.not_true,Bool.false_eq_true,if_false,if_true]
   by_cases h0:i=0
   ·have:(decide ((i:Int)>0))=false:=by simp [h0]
    simp only [this,Bool.false_eq_true,if_false,bne_self_eq_false]
    rw [if_pos h0]
   have e0:(decide ((i:Int)>0))=true:=by simp; omega
   simp only [e0,if_true,if_pos (rgP hi (by omega)),h0,if_false]
   show (if (decide (dX l i<=0) || decide (dY l i<=0))=true then eY.out (some ((i:Int),9)) else if decide (dY l i>dX l i)=true then eY.out (some ((i:Int),22)) else _)=_
   generalize dX l i=a
   generalize dY l i=b
   by_cases ha:0<a/\0<b
   ·have hb:(decide (a<=0) || decide (b<=0))=false:=by simp; exact ha
    rw [hb,if_pos ha]
    by_cases hc:b<=a
    ·have:¬ b>a:=by omega
     simp [hc,this]
    have:b>a:=by omega
    simp [hc,this]
   have hb:(decide (a<=0) || decide (b<=0))=true:=by simp; omega
   rw [hb,if_neg ha]; simp
  rw [h]
  simp
 simp [y9]
def yG (l:aA) (i:Nat):Option Int:=
 if (dn (l.getD i default).1 200 3000 && dn (l.getD i default).2 0 1000)=true then
  if i=0 then none
  else if 0<dX l i/\0<=dY l i then (if IntKind.i64.wrap (2*dY l i)<=dX l i then none else some 22)
  else some 9
 else some 2
def jh (l:aA):Int:=if 6<l.length then 8 else (dJ (yG l) 0 l.length).getD 0
theorem ag0 {l:aA} {i:Nat} {e:Int} (h:yG l i=some e):e≠0:=by
 unfold yG at h
 repeat' split at h
 all_goals first | (injection h with h; omega) | cases h
theorem XD {l:aA} (h:jh l=0):l.length<=6/\∀ i,i<l.length->yG l i=none:=by
 unfold jh at h
 split at h
 ·cases h
 rename_i h6
 refine ⟨by omega,?_⟩
 cases hs:dJ (yG l) 0 l.length with
 | none=>exact λi hi=>kM hs i (by omega) (by omega)
 | some e=>
  rw [hs] at h
  obtain ⟨j,_,_,hj⟩:=iU hs
  exact absurd h (ag0 hj)
theorem aC1 (l:aA):abV l=some (jh l):=by
 unfold abV jh
 by_cases h6:6<l.length
 ·have:(decide ((l.length:Int)>6))=true:=by simp; omega
  rw [if_pos this,if_pos h6]
 have:¬ (decide ((l.length:Int)>6))=true:=by simp; omega
 rw [if_neg this,if_neg h6]
 have hscan:aK (yZ l) 1000000000 0=P8 (dJ (yG l) 0 l.length) (some 0):=by
  refine jK l.length (yZ l) (yG l) _ (by omega) ?_ ?_
  ·intro i hi
   simp only [yZ,kK hi,if_true,if_pos (iK hi),Int.toNat_natCast,wS i (by omega),wP i (by omega),wPn,p59,akX,aW,Option.isSome_some,Option.getD_some,implies_true,iK hi,and_self,decide_true,if_true]
   unfold yG
   have hor:((!(dn (l.getD i default).1 200 3000)) || (!(dn (l.getD i default).2 0 1000)))= !(dn (l.getD i default).1 200 3000 && dn (l.getD i default).2 0 1000):=by rw [Bool.not_and]
   rw [hor]
   rcases Bool.eq_false_or_eq_true (dn (l.getD i default).1 200 3000 && dn (l.getD i default).2 0 1000) with h | h
   ·rw [h]
    simp only [Bool.not_true,Bool.false_eq_true,if_false,if_true]
    by_cases h0:i=0
    ·have:(decide ((i:Int)>0))=false:=by simp [h0]
     simp only [this,Bool.false_eq_true,if_false,bne_self_eq_false]
     rw [if_pos h0]
    have e0:(decide ((i:Int)>0))=true:=by simp; omega
    simp only [e0,if_true,if_pos (rgP hi (by omega)),h0,if_false]
    show (if (decide (dX l i<=0) || decide (dY l i<0))=true then eY.out (some 9) else if decide (IntKind.i64.wrap (2*dY l i)>dX l i)=true then eY.out (some 22) else _)=_
    generalize dX l i=a
    generalize dY l i=b
    by_cases ha:0<a/\0<=b
    ·have hb:(decide (a<=0) || decide (b<0))=false:=by simp; exact ha
     rw [hb,if_pos ha]
     by_cases hc:IntKind.i64.wrap (2*b)<=a
     ·have:¬ IntKind.i64.wrap (2*b)>a:=by omega
      simp [hc,this]
     have:IntKind.i64.wrap (2*b)>a:=by omega
     simp [hc,this]
    have hb:(decide (a<=0) || decide (b<0))=true:=by simp; omega
    rw [hb,if_neg ha]; simp
   rw [h]
   simp
  simp [yZ]
 rw [hscan]
 cases dJ (yG l) 0 l.length<;>rfl
theorem ava (l m:aA) (h6:l.length<=6) (e:Option Int) (he:e=P8 (dJ (yG l) 0 l.length) ((MJ l).bind λv10=>(MJ m).bind λv11=>(Za [v10,v11]).bind λv12=>aK (vZ v10 v11 v12) 1000000000 0)):Ua l m=e:=by
 unfold Ua
 have:¬ (decide ((l.length:Int)>6))=true:=by simp; omega
 rw [if_neg this,he]
 refine jK l.length (CQ l m) (yG l) _ (by omega) ?_ ?_
 ·intro i hi
  simp only [CQ,kK hi,if_true,if_pos (iK hi),Int.toNat_natCast,wS i (by omega),wP i (by omega),wPn,p90,auU,p94,aW,Option.isSome_some,Option.getD_some,implies_true]
  unfold yG
  rcases Bool.eq_false_or_eq_true (dn (l.getD i default).1 200 3000 && dn (l.getD i default).2 0 1000) with h | h
  ·rw [h]
   simp only [NV,if_true,beq_self_eq_true,Bool.true_and]
   by_cases h0:i=0
   ·have:(decide ((i:Int)>0))=false:=by simp [h0]
    simp only [this,Bool.false_eq_true,if_false,bne_self_eq_false]
    rw [if_pos h0]
   have e0:(decide ((i:Int)>0))=true:=by simp; omega
   simp only [e0,if_true,if_pos (rgP hi (by omega)),h0,if_false]
   rw [p91 _ (by simp)]
   simp only
   show (if (bC [bG (decide (dX l i>0) && decide (dY l i>=0)) 9,bG (decide (IntKind.i64.wrap (2*dY l i)<=dX l i)) 22] != 0)=true then eY.out (some (bC [bG (decide (dX l i>0) && decide (dY l i>=0)) 9,bG (decide (IntKind.i64.wrap (2*dY l i)<=dX l i)) 22])) else _)=_
   generalize dX l i=a
   generalize dY l i=b
   by_cases ha:0<a/\0<=b
   ·have hb:(decide (a>0) && decide (b>=0))=true:=by simp; exact ha
    rw [hb,if_pos ha]
    by_cases hc:IntKind.i64.wrap (2*b)<=a<;>simp [NV,bC,hc,bG]
   have hb:(decide (a>0) && decide (b>=0))=false:=by simp; omega
   rw [hb,if_neg ha]; simp [NW,bC]
  rw [h]
  simp [NW]
 simp [CQ]
theorem uS {α:Type} [Inhabited α] (l:List α) (i:Nat) (hi:i<l.length):l.take (i+1)=l.take i++[l.getD i default]:=by
 rw [List.take_add_one]; simp [List.getD_eq_getElem?_getD,hi]
theorem akV (l:aA) (hl:l.length<1000000):MJ l=some l:=by
 unfold MJ
 refine mM l.length (Cm l) (λi=>(l.take i,(i:Int))) _ (by omega) ?_ ?_
 ·intro i hi
  have hlen:(l.take i).length=i:=by simp; omega
  simp only [Cm,kK hi,if_true,if_pos (iK hi),Int.toNat_natCast,wS i (by omega),hlen]
  rw [if_pos ⟨by omega,by omega⟩,uS l i hi]
  rfl
 simp [Cm]
theorem aCI (l:aA) (hl:l.length<1000000):abM l=some l:=by
 unfold abM
 refine mM l.length (Cj l) (λi=>(l.take i,(i:Int))) _ (by omega) ?_ ?_
 ·intro i hi
  have hlen:(l.take i).length=i:=by simp; omega
  simp only [Cj,kK hi,if_true,if_pos (iK hi),Int.toNat_natCast,wS i (by omega),hlen]
  rw [if_pos ⟨by omega,by omega⟩,uS l i hi]
  rfl
 simp [Cj]
theorem aCJ (l m:aA) (hl:l.length<1000) (hm:m.length<1000):Za [l,m]=some (l++m):=by
 unfold Za
 have e0:IntKind.i64.wrap (0+(l.length:Int))=l.length:=IntWalk.i64_in _ ⟨by omega,by omega⟩ |>.trans (by omega)
 have e1:IntKind.i64.wrap ((l.length:Int)+(m.length:Int))=l.length+m.length:=IntWalk.i64_in _ ⟨by omega,by omega⟩
 have e2:IntKind.i64.wrap (l.length:Int)=l.length:=IntWalk.i64_in _ ⟨by omega,by omega⟩
 have e3:IntKind.i64.wrap 1=1:=by decide
 have e4:IntKind.i64.wrap 2=2:=by decide
 refine mM 2 (yV [l,m]) (λi=>if i=0 then (0,0) else if i=1 then ((l.length:Int),1) else ((l.length:Int)+m.length,2)) _ (by omega) ?_ ?_
 ·intro i hi
  have:i=0\/i=1:=by omega
  rcases this with rfl | rfl
  ·have:¬ ((l.length:Int)<0):=by omega
   simp [yV,e2,e3,this]
  have:¬ ((l.length:Int)+m.length<0):=by omega
  simp [yV,e1,this,e4]
 simp only [yV,List.length_cons,List.length_nil]
 simp only [if_neg (show ¬ (2:Nat)=0 by decide),if_neg (show ¬ (2:Nat)=1 by decide)]
 rw [if_neg (by decide)]
 congr 1
 rw [if_pos ⟨by omega,by omega⟩]
 refine mM 2 (yU [l,m]) (λi=>if i=0 then (0,[]) else if i=1 then (1,l) else (2,l++m)) _ (by omega) ?_ ?_
 ·intro i hi
  have:i=0\/i=1:=by omega
  rcases this with rfl | rfl
  ·have c1:(l.length)*16<=140737488355328/\l.length<=9223372036854775807:=⟨by omega,by omega⟩
   simp [yU,c1,e3,e4]
  have c1:(l.length+m.length)*16<=140737488355328/\l.length+m.length<=9223372036854775807:=⟨by omega,by omega⟩
  simp [yU,c1,e3,e4]
 simp [yU]
variable {l:aA} {a b:Int}
theorem GN {σ ρ:Type} (n:Nat) (b:σ->eY σ ρ) (mk:Nat->σ) (f:Nat->Option ρ) (fin:Option ρ) (hn:n<1000000000)
 (step:∀ i:Nat,i<n->(∀ j,j<i->f j=none)->b (mk i)=match f i with | some v=> .out (some v) | none=> .next (mk (i+1)))
 (stop:(∀ j,j<n->f j=none)->b (mk n)= .out fin) :
 aK b 1000000000 (mk 0)=P8 (dJ f 0 n) fin:=by
 have key:∀ (k i fuel:Nat),(∀ j,j<i->f j=none)->i+k=n->k<fuel->aK b fuel (mk i)=P8 (dJ f i k) fin:=by
  intro k
  induction k with
  | zero=>
   intro i fuel hj hi hf
   obtain ⟨m,rfl⟩:∃ m,fuel=m+1:=⟨fuel - 1,by omega⟩
   obtain rfl:i=n:=by omega
   simp [aK,stop hj,dJ,P8]
  | succ k ih=>
   intro i fuel hj hi hf
   obtain ⟨m,rfl⟩:∃ m,fuel=m+1:=⟨fuel - 1,by omega⟩
   simp only [aK,step i (by omega) hj,dJ]
   cases hfx:f i with
   | none=>
    exact ih (i+1) m (λj h=>by
     by_cases hji:j=i
     ·rw [hji]; exact hfx
     ·exact hj j (by omega)) (by omega) (by omega)
   | some v=>rfl
 exact key n 0 1000000000 (λj h=>by omega) (by omega) hn
structure xY (l:aA) (a b:Int):Prop where
 len:l.length<1000
 rng:∀ i,i<l.length->a<=(l.getD i default).1/\(l.getD i default).1<=b
 inc:∀ i,0<i->i<l.length->(l.getD (i - 1) default).1<(l.getD i default).1
theorem xY.lt (h:xY l a b) {i:Nat}:∀ {j:Nat},i<j->j<l.length->(l.getD i default).1<(l.getD j default).1
 | 0,h1,_=>by omega
 | j+1,h1,h2=>by
  have:=h.inc (j+1) (by omega) h2
  rw [Nat.add_sub_cancel] at this
  by_cases hij:i=j
  ·rw [hij]; exact this
  have:=h.lt (i:=i) (j:=j) (by omega) (by omega); omega
theorem Ul {x d:Int} (hx:0<=x) (hx2:x<=1000000) (hd:0<d) (hd2:d<=1000000):IntKind.i64.wrap (x*d)=x*d/\0<=x*d/\x*d<=1000000*1000000:=by
 have a1:0<=x*d:=Int.mul_nonneg hx (by omega)
 have a2:x*d<=1000000*d:=Int.mul_le_mul_of_nonneg_right hx2 (by omega)
 have a3:(1000000:Int)*d<=1000000*1000000:=Int.mul_le_mul_of_nonneg_left hd2 (by omega)
 exact ⟨IntWalk.i64_in _ ⟨by omega,by omega⟩,a1,by omega⟩
theorem U2 (h:xY l a b) (ha:0<=a) (hb:b<=1000000) (n d:Int) (hd:0<d) (hd2:d<=1000000) :
 ∃ k,k<=l.length/\D5 l n d=some (yh l n d k)/\xw l n d=some (yh l n d k)/\(∀ i,i<k->(l.getD i default).1*d<n)/\(∀ i,k<=i->i<l.length->n<=(l.getD i default).1*d):=by
 obtain ⟨k,h1,h2,h3⟩:=Am (ltK l n d) l.length
 have hw:∀ i,i<l.length->IntKind.i64.wrap ((l.getD i default).1*d)=(l.getD i default).1*d:=λi hi=>by
  have:=h.rng i hi
  exact (Ul (by omega) (by omega) hd hd2).1
 have e:∀ i,i<l.length->(ltK l n d i↔(l.getD i default).1*d<n):=λi hi=>by unfold ltK; rw [hw i hi]
 have h4:∀ i,k<=i->i<l.length->n<=(l.getD i default).1*d:=by
  intro i hi hil
  have h5:=h3 (by omega)
  rw [e k (by omega)] at h5
  by_cases hki:k=i
  ·subst hki; omega
  have:=h.lt (i:=k) (j:=i) (by omega) hil
  have:=Int.mul_le_mul_of_nonneg_right (Int.le_of_lt this) (show 0<=d by omega)
  omega
 have h5:∀ i,k<=i->i<l.length->¬ ltK l n d i:=λi hi hil=>by rw [e i hil]; have:=h4 i hi hil; omega
 exact ⟨k,h1,aCR l n d h.len k h1 h2 h5,auV l n d h.len k h1 h2 h3,λi hi=>(e i (by omega)).1 (h2 i hi),h4⟩
theorem wL (l:aA) (n d:Int) (hl:l.length<1000):∃ v,xw l n d=some v:=by
 obtain ⟨k,h1,h2,h3⟩:=Am (ltK l n d) l.length
 exact ⟨_,auV l n d hl k h1 h2 h3⟩
structure wz (l:aA):Prop where
 len:l.length<=6
 AZ:xY l 200 3000
 yr:∀ i,i<l.length->0<=(l.getD i default).2/\(l.getD i default).2<=1000
 Ew:∀ i,0<i->i<l.length->(l.getD (i - 1) default).2<=(l.getD i default).2/\2*((l.getD i default).2 - (l.getD (i - 1) default).2)<=(l.getD i default).1 - (l.getD (i - 1) default).1
theorem kN {c:Int}:dn a b c=true↔b<=a/\a<=c:=by simp [dn]
theorem Ad (h:jh l=0):wz l:=by
 obtain ⟨h6,hf⟩:=XD h
 have hr:∀ i,i<l.length->(200<=(l.getD i default).1/\(l.getD i default).1<=3000)/\0<=(l.getD i default).2/\(l.getD i default).2<=1000:=by
  intro i hi
  have:=hf i hi
  unfold yG at this
  split at this
  ·rename_i hc
   rw [Bool.and_eq_true,kN,kN] at hc; exact hc
  cases this
 have hd:∀ i,0<i->i<l.length->(l.getD (i - 1) default).1<(l.getD i default).1/\(l.getD (i - 1) default).2<=(l.getD i default).2/\2*((l.getD i default).2 - (l.getD (i - 1) default).2)<=(l.getD i default).1 - (l.getD (i - 1) default).1:=by
  intro i h0 hi
  have:=hf i hi
  unfold yG at this
  have a1:=hr i hi
  have a2:=hr (i - 1) (by omega)
  have ex:dX l i=(l.getD i default).1 - (l.getD (i - 1) default).1:=IntWalk.i64_in _ ⟨by omega,by omega⟩
  have ey:dY l i=(l.getD i default).2 - (l.getD (i - 1) default).2:=IntWalk.i64_in _ ⟨by omega,by omega⟩
  have e2:IntKind.i64.wrap (2*dY l i)=2*dY l i:=by rw [ey]; exact IntWalk.i64_in _ ⟨by omega,by omega⟩
  rw [e2,ex,ey] at this
  split at this
  ·rw [if_neg (by omega)] at this
   split at this
   ·rename_i hc
    split at this
    ·rename_i hc2; omega
    cases this
   cases this
  cases this
 exact ⟨h6,⟨by omega,λi hi=>(hr i hi).1,λi h0 hi=>(hd i h0 hi).1⟩,λi hi=>(hr i hi).2,λi h0 hi=>(hd i h0 hi).2⟩
def oD (l m:aA) (i:Nat):Bool:=
 decide (IntKind.i64.wrap (((xw l ((l++m).getD i default).1 1).getD default).1*((xw m ((l++m).getD i default).1 1).getD default).2)<IntKind.i64.wrap (((xw m ((l++m).getD i default).1 1).getD default).1*((xw l ((l++m).getD i default).1 1).getD default).2))
def nJ (l m:aA):Bool:=(dJ (λi=>if oD l m i=true then some true else none) 0 (l.length+m.length)).getD false
theorem aC0 (l m:aA) (hl:l.length<1000) (hm:m.length<1000):Zc l m=some (nJ l m):=by
 unfold Zc
 rw [if_pos ⟨by omega,by omega⟩,if_pos ⟨by omega,by omega⟩]
 have hs:aK (yY l m) 1000000000 0=P8 (dJ (λi=>if oD l m i=true then some true else none) 0 (l.length+m.length)) (some false):=by
  refine jK (l.length+m.length) (yY l m) _ _ (by omega) ?_ ?_
  ·intro i hi
   obtain ⟨u,hu⟩:=wL l ((l++m).getD i default).1 1 hl
   obtain ⟨v,hv⟩:=wL m ((l++m).getD i default).1 1 hm
   have e1:(decide ((i:Int)<((l++m).length:Int)))=true:=by simp; omega
   have e2:0<=(i:Int)/\(i:Int)<((l++m).length:Int):=by rw [List.length_append]; exact ⟨by omega,by omega⟩
   simp only [yY,e1,if_true,if_pos e2,Int.toNat_natCast,wS i (by omega),hu,hv,aW,oD,Option.getD_some]
   split<;>rfl
  have e1:(decide (((l.length+m.length:Nat):Int)<((l++m).length:Int)))=false:=by simp
  simp only [yY,e1,Bool.false_eq_true,if_false]
 rw [hs]; unfold nJ
 cases dJ (λi=>if oD l m i=true then some true else none) 0 (l.length+m.length)<;>rfl
theorem abn (h:xY l a b) (ha:0<=a) (hb:b<=1000000) (n d:Int) (hd:0<d) (hd2:d<=1000000):D5 l n d=xw l n d:=by
 obtain ⟨k,_,h1,h2,_⟩:=U2 h ha hb n d hd hd2
 rw [h1,h2]
theorem abk:xY [] 200 3000:=⟨by simp,λi h=>by simp at h,λi _ h=>by simp at h⟩
theorem aC2 (l m:aA) (hm:xY m 200 3000) (hl:l.length<1000):Ua l m=some (if jh l=0 then (if nJ l m=true then 13 else 0) else jh l):=by
 by_cases h6:6<l.length
 ·have e:jh l=8:=by unfold jh; rw [if_pos h6]
  rw [e]
  unfold Ua
  have:(decide ((l.length:Int)>6))=true:=by simp; omega
  rw [if_pos this]; rfl
 rw [ava l m (by omega) _ rfl]
 have hm':=hm.len
 rw [akV l (by omega),akV m (by omega),Option.bind_some,Option.bind_some,aCJ l m hl hm',Option.bind_some]
 by_cases h0:jh l=0
 ·have ok:=Ad h0
  rw [if_pos h0,zK (λj _ hj=>(XD h0).2 j (by omega)),Gm]
  have hs:aK (vZ l m (l++m)) 1000000000 0=P8 (dJ (λi=>if oD l m i=true then some (13:Int) else none) 0 (l.length+m.length)) (some 0):=by
   refine jK (l.length+m.length) (vZ l m (l++m)) _ _ (by omega) ?_ ?_
   ·intro i hi
    obtain ⟨u,hu⟩:=wL l ((l++m).getD i default).1 1 hl
    obtain ⟨v,hv⟩:=wL m ((l++m).getD i default).1 1 hm'
    have hi2:i<(l++m).length:=by simp; omega
    simp only [vZ,kK hi2,if_true,if_pos (iK hi2),Int.toNat_natCast,wS i (by omega),abn ok.AZ (by omega) (by omega) ((l++m).getD i default).1 1 (by omega) (by omega),abn hm (by omega) (by omega) ((l++m).getD i default).1 1 (by omega) (by omega),hu,hv,aW,oD,Option.getD_some]
    split<;>rfl
   have e1:(decide (((l.length+m.length:Nat):Int)<((l++m).length:Int)))=false:=by simp
   simp only [vZ,e1,Bool.false_eq_true,if_false]
  rw [hs]; unfold nJ
  cases h1:dJ (λi=>if oD l m i=true then some (13:Int) else none) 0 (l.length+m.length) with
  | none=>
   rw [zK (f:=λi=>if oD l m i=true then some true else none) (λj a1 a2=>by
    have:=kM h1 j a1 a2
    skip
    split at this
    ·cases this
    rename_i hc; rw [if_neg hc])]
   rfl
  | some v=>
   obtain ⟨j,a1,a2,a3⟩:=iU h1
   have hc:oD l m j=true:=by
    skip
    split at a3
    ·assumption
    cases a3
   have hv:v=13:=by simp only [hc,if_true] at a3; injection a3 with a3; exact a3.symm
   cases h2:dJ (λi=>if oD l m i=true then some true else none) 0 (l.length+m.length) with
   | none=>
    have:=kM h2 j a1 a2
    simp only [hc,if_true] at this
    cases this
   | some w=>
    obtain ⟨j',b1,b2,b3⟩:=iU h2
    have hw:w=true:=by
     skip
     split at b3
     ·injection b3 with b3; exact b3.symm
     cases b3
    rw [hv,hw]; rfl
 rw [if_neg h0]
 unfold jh at h0 ⊢
 rw [if_neg h6] at h0 ⊢
 cases hs:dJ (yG l) 0 l.length with
 | none=>rw [hs] at h0; exact absurd rfl h0
 | some v=>rfl
variable {L:au}
def xq (L:au) (i:Nat):Option (Int×Int):=
 if jh (L.getD i default)=0 then (if 0<i/\nJ (L.getD i default) (L.getD (i - 1) default)=true then some ((i:Int),13) else none)
 else some ((i:Int),jh (L.getD i default))
def bH (a b:Int) (T:aA) (L:au):Int×Int:=
 if (dn a 1 12 && dn b 0 500)=true then
  if T.length<2 then (0,10) else if 8<T.length then (0,8)
  else match dJ (zD T) 0 T.length with
   | some v=>v
   | none=>if 4<L.length then (0,8) else (dJ (xq L) 0 L.length).getD (0,0)
 else (0,2)
theorem Xb {l:aA} {i:Nat} {v:Int×Int} (h:zD l i=some v):v.2≠0:=by
 unfold zD at h
 repeat' split at h
 all_goals first | (injection h with h; subst h; simp) | cases h
theorem LX {i:Nat} (h:xq L i=none):jh (L.getD i default)=0:=by
 unfold xq at h
 split at h
 ·assumption
 cases h
theorem agb {i:Nat} {v:Int×Int} (h:xq L i=some v):v.2≠0:=by
 unfold xq at h
 split at h
 ·split at h
  ·injection h with h; subst h; simp
  cases h
 injection h with h; subst h; assumption
theorem Gx (hL:∀ x∈L,x.length<1000) (i:Nat):(L.getD i default).length<1000:=by
 by_cases hi:i<L.length
 ·exact hL _ (by simp [List.getD_eq_getElem?_getD,hi])
 have:L.getD i default=default:=by simp [List.getD_eq_getElem?_getD,hi]
 rw [this]; exact (by decide:([]:aA).length<1000)
theorem aaB {l:aA} (h:wz l):nJ l []=false:=by
 unfold nJ
 rw [zK (λj a1 a2=> ?_)]
 ·rfl
 simp only [List.length_nil,Nat.add_zero,Nat.zero_add] at a2
 have hj:=h.AZ.rng j a2
 obtain ⟨k,h1,h2,h3,h4,h5⟩:=U2 h.AZ (by omega) (by omega) (l.getD j default).1 1 (by omega) (by omega)
 have hk:k=j:=by
  by_cases hlt:k<j
  ·have:=h5 k (Nat.le_refl _) (by omega)
   have:=h.AZ.lt hlt a2
   omega
  by_cases hgt:j<k
  ·have:=h4 j hgt; omega
  omega
 subst hk
 have hn:xw [] (l.getD k default).1 1=some (0,1):=rfl
 have hc:oD l [] k=false:=by
  unfold oD
  rw [List.append_nil,h3,hn]
  simp only [Option.getD_some,Int.zero_mul,Int.mul_one]
  have:0<=(yh l (l.getD k default).1 1 k).1/\(yh l (l.getD k default).1 1 k).1<10000000000:=by
   unfold yh
   rw [if_neg (by omega)]
   have hy:=h.yr k a2
   by_cases hk0:k=0
   ·subst hk0; rw [if_pos rfl]; simp only; omega
   rw [if_neg hk0,if_neg (by omega)]
   have hx2:=h.AZ.rng (k - 1) (by omega)
   have hy2:=h.yr (k - 1) (by omega)
   have hi:=h.AZ.inc k (by omega) a2
   have hyi:=h.Ew k (by omega) a2
   generalize (l.getD k default).1=x1 at*
   generalize (l.getD (k - 1) default).1=x0 at*
   generalize (l.getD k default).2=y1 at*
   generalize (l.getD (k - 1) default).2=y0 at*
   have e1:IntKind.i64.wrap (x1 - x0)=x1 - x0:=IntWalk.i64_in _ ⟨by omega,by omega⟩
   have e2:IntKind.i64.wrap (x0*1)=x0:=by rw [Int.mul_one]; exact IntWalk.i64_in _ ⟨by omega,by omega⟩
   have e3:IntKind.i64.wrap ((x1 - x0)*1)=x1 - x0:=by rw [Int.mul_one,e1]
   have e4:IntKind.i64.wrap (y1 - y0)=y1 - y0:=IntWalk.i64_in _ ⟨by omega,by omega⟩
   simp only [e1,e2,e3,e4]
   have b1:0<=y0*(x1 - x0):=Int.mul_nonneg (by omega) (by omega)
   have b2:y0*(x1 - x0)<=1000*(x1 - x0):=Int.mul_le_mul_of_nonneg_right (by omega) (by omega)
   have b3:0<=(y1 - y0)*(x1 - x0):=Int.mul_nonneg (by omega) (by omega)
   have b4:(y1 - y0)*(x1 - x0)<=1000*(x1 - x0):=Int.mul_le_mul_of_nonneg_right (by omega) (by omega)
   have e5:IntKind.i64.wrap (y0*(x1 - x0))=y0*(x1 - x0):=IntWalk.i64_in _ ⟨by omega,by omega⟩
   have e6:IntKind.i64.wrap ((y1 - y0)*(x1 - x0))=(y1 - y0)*(x1 - x0):=IntWalk.i64_in _ ⟨by omega,by omega⟩
   rw [e5,e6]
   have e7:IntKind.i64.wrap (y0*(x1 - x0)+(y1 - y0)*(x1 - x0))=y0*(x1 - x0)+(y1 - y0)*(x1 - x0):=IntWalk.i64_in _ ⟨by omega,by omega⟩
   rw [e7]; omega
  generalize (yh l (l.getD k default).1 1 k).1=z at this
  have ez:IntKind.i64.wrap z=z:=IntWalk.i64_in _ ⟨by omega,by omega⟩
  have e0:IntKind.i64.wrap 0=0:=by decide
  rw [ez,e0]
  simp; omega
 simp only [hc,Bool.false_eq_true,if_false]
theorem aCE (L:au) (hn:L.length<1000) (hL:∀ x∈L,x.length<1000):aK (wu L) 1000000000 ([],0)=some ((dJ (xq L) 0 L.length).getD (0,0)):=by
 have h:=GN L.length (wu L) (λi=>(if i=0 then [] else L.getD (i - 1) default,(i:Int))) (xq L) (some (0,0)) (by omega)
  (λi hi hj=>by
   have awl:xY (if i=0 then [] else L.getD (i - 1) default) 200 3000:=by
    split
    ·exact abk
    exact (Ad (LX (hj (i - 1) (by omega)))).AZ
   simp only [wu,kK hi,if_true,if_pos (iK hi),Int.toNat_natCast,wS i (by omega),aC2 _ _ awl (Gx hL i),aW]
   unfold xq
   by_cases h0:jh (L.getD i default)=0
   ·simp only [h0,if_true]
    by_cases hi0:i=0
    ·subst hi0
     simp only [if_true,aaB (Ad h0),Bool.false_eq_true,if_false,bne_self_eq_false,Nat.lt_irrefl,false_and]
     rfl
    have hpos:0<i:=by omega
    simp only [hi0,if_false,hpos,true_and]
    by_cases hb:nJ (L.getD i default) (L.getD (i - 1) default)=true
    ·simp [hb,-List.getD_eq_getElem?_getD]
    simp [hb,-List.getD_eq_getElem?_getD]
   simp [h0,-List.getD_eq_getElem?_getD])
  (λ_=>by simp [wu])
 have h0:aK (wu L) 1000000000 ([],0)=_:=h
 rw [h0]
 cases dJ (xq L) 0 L.length<;>rfl
theorem aCD (L:au) (hn:L.length<1000) (hL:∀ x∈L,x.length<1000):aK (uo L) 1000000000 0=some ((dJ (xq L) 0 L.length).getD (0,0)):=by
 have h:=GN L.length (uo L) (λi=>(i:Int)) (xq L) (some (0,0)) (by omega)
  (λi hi hj=>by
   simp only [uo,kK hi,if_true,if_pos (iK hi),Int.toNat_natCast,wS i (by omega),wP i (by omega),wPn,aC1,aW]
   unfold xq
   by_cases h0:jh (L.getD i default)=0
   ·simp only [h0,if_true,bne_self_eq_false,Bool.false_eq_true,if_false]
    rw [aC0 _ _ (Gx hL i) (Gx hL (i - 1))]
    simp only [Option.isSome_some,implies_true,if_true,Option.getD_some,iK hi,and_self,decide_true]
    by_cases hi0:i=0
    ·subst hi0
     simp
    have hpos:0<i:=by omega
    have e1:(decide ((i:Int)>0))=true:=by simp; omega
    rw [if_pos (λ_=>rgP hi hpos)]
    simp only [e1,Bool.true_and,hpos,true_and]
    by_cases hb:nJ (L.getD i default) (L.getD (i - 1) default)=true
    ·simp [hb,-List.getD_eq_getElem?_getD]
    simp [hb,-List.getD_eq_getElem?_getD]
   simp [h0,-List.getD_eq_getElem?_getD])
  (λ_=>by simp [uo])
 have h0:aK (uo L) 1000000000 0=_:=h
 rw [h0]
 cases dJ (xq L) 0 L.length<;>rfl
theorem p24 (a b:Int) (T:aA) (L:au) (hn:L.length<1000) (hL:∀ x∈L,x.length<1000):Zk a b T L=some (bH a b T L):=by
 unfold Zk bH
 rw [p90,Option.bind_some,p90,gS,Option.getD_some]
 have hor:((!(dn a 1 12)) || (!(dn b 0 500)))= !(dn a 1 12 && dn b 0 500):=by rw [Bool.not_and]
 rcases Bool.eq_false_or_eq_true (dn a 1 12 && dn b 0 500) with h | h
 ·rw [if_neg (show ¬ (!(dn a 1 12) || !(dn b 0 500))=true by rw [hor,h]; decide),if_pos h,p99]
  by_cases h2:T.length<2
  ·simp [h2]
  rw [if_neg h2,if_neg h2]
  by_cases h8:8<T.length
  ·simp [h8]
  rw [if_neg h8,if_neg h8]
  cases hs:dJ (zD T) 0 T.length with
  | some v=>
   obtain ⟨j,_,_,hj⟩:=iU hs
   have:=Xb hj
   rw [P6,Option.bind_some,if_pos (by simpa using this)]
  | none=>
   rw [Gm,Option.bind_some,if_neg (by decide),aCE L hn hL]
   by_cases h4:4<L.length
   ·have:(decide ((L.length:Int)>4))=true:=by simp; omega
    rw [if_pos this,if_pos h4]
   have:¬ (decide ((L.length:Int)>4))=true:=by simp; omega
   rw [if_neg this,if_neg h4]
 rw [if_pos (show (!(dn a 1 12) || !(dn b 0 500))=true by rw [hor,h]; decide),if_neg (by rw [h]; decide)]
theorem p26 (a b:Int) (T:aA) (L:au) (hn:L.length<1000) (hL:∀ x∈L,x.length<1000):ab9 a b T L=some (bH a b T L):=by
 unfold ab9 bH
 rw [p59,Option.bind_some,p59,gS,Option.getD_some]
 have hor:((!(dn a 1 12)) || (!(dn b 0 500)))= !(dn a 1 12 && dn b 0 500):=by rw [Bool.not_and]
 rcases Bool.eq_false_or_eq_true (dn a 1 12 && dn b 0 500) with h | h
 ·rw [if_neg (show ¬ (!(dn a 1 12) || !(dn b 0 500))=true by rw [hor,h]; decide),if_pos h]
  by_cases h2:T.length<2
  ·have:(decide ((T.length:Int)<2))=true:=by simp; omega
   rw [if_pos this,if_pos h2]
  have:¬ (decide ((T.length:Int)<2))=true:=by simp; omega
  rw [if_neg this,if_neg h2]
  by_cases h8:8<T.length
  ·have:(decide ((T.length:Int)>8))=true:=by simp; omega
   rw [if_pos this,if_pos h8]
  have:¬ (decide ((T.length:Int)>8))=true:=by simp; omega
  rw [if_neg this,if_neg h8,aCC T L (by omega)]
  cases hs:dJ (zD T) 0 T.length with
  | some v=>rfl
  | none=>
   rw [Gm,aCD L hn hL]
   by_cases h4:4<L.length
   ·have:(decide ((L.length:Int)>4))=true:=by simp; omega
    rw [if_pos this,if_pos h4]
   have:¬ (decide ((L.length:Int)>4))=true:=by simp; omega
   rw [if_neg this,if_neg h4]
 rw [if_pos (show (!(dn a 1 12) || !(dn b 0 500))=true by rw [hor,h]; decide),if_neg (by rw [h]; decide)]
structure gU (a b:Int) (T:aA) (L:au):Prop where
 cells:1<=a/\a<=12
 mix:0<=b/\b<=500
 LJ:2<=T.length/\T.length<=8
 AZ:xY T 0 1000000
 yr:∀ i,i<T.length->200<=(T.getD i default).2/\(T.getD i default).2<=3000
 Ew:∀ i,0<i->i<T.length->(T.getD (i - 1) default).2<(T.getD i default).2/\(T.getD i default).2 - (T.getD (i - 1) default).2<=(T.getD i default).1 - (T.getD (i - 1) default).1
 llen:L.length<=4
 laws:∀ i,i<L.length->wz (L.getD i default)
 below:∀ i,0<i->i<L.length->nJ (L.getD i default) (L.getD (i - 1) default)=false
theorem uX {a b:Int} {T:aA} (h:(bH a b T L).2=0):gU a b T L:=by
 unfold bH at h
 split at h
 ·rename_i hc
  rw [Bool.and_eq_true,kN,kN] at hc
  split at h
  ·cases h
  rename_i h2
  split at h
  ·cases h
  rename_i h8
  split at h
  ·rename_i v hs
   obtain ⟨j,_,_,hj⟩:=iU hs
   exact absurd h (Xb hj)
  rename_i hs
  split at h
  ·cases h
  rename_i h4
  cases hs2:dJ (xq L) 0 L.length with
  | some v=>
   obtain ⟨j,_,_,hj⟩:=iU hs2
   rw [hs2] at h
   exact absurd h (agb hj)
  | none=>
   have hT:∀ i,i<T.length->zD T i=none:=λi hi=>kM hs i (by omega) (by omega)
   have hr:∀ i,i<T.length->(0<=(T.getD i default).1/\(T.getD i default).1<=1000000)/\200<=(T.getD i default).2/\(T.getD i default).2<=3000:=by
    intro i hi
    have:=hT i hi
    unfold zD at this
    split at this
    ·rename_i hc
     rw [Bool.and_eq_true,kN,kN] at hc; exact hc
    cases this
   have hd:∀ i,0<i->i<T.length->(T.getD (i - 1) default).1<(T.getD i default).1/\(T.getD (i - 1) default).2<(T.getD i default).2/\(T.getD i default).2 - (T.getD (i - 1) default).2<=(T.getD i default).1 - (T.getD (i - 1) default).1:=by
    intro i h0 hi
    have:=hT i hi
    unfold zD at this
    have a1:=hr i hi
    have a2:=hr (i - 1) (by omega)
    have ex:dX T i=(T.getD i default).1 - (T.getD (i - 1) default).1:=IntWalk.i64_in _ ⟨by omega,by omega⟩
    have ey:dY T i=(T.getD i default).2 - (T.getD (i - 1) default).2:=IntWalk.i64_in _ ⟨by omega,by omega⟩
    rw [ex,ey] at this
    split at this
    ·rw [if_neg (by omega)] at this
     split at this
     ·rename_i hc
      split at this
      ·rename_i hc2; omega
      cases this
     cases this
    cases this
   have hS:∀ i,i<L.length->xq L i=none:=λi hi=>kM hs2 i (by omega) (by omega)
   refine ⟨hc.1,hc.2,⟨by omega,by omega⟩,⟨by omega,λi hi=>(hr i hi).1,λi h0 hi=>(hd i h0 hi).1⟩,λi hi=>(hr i hi).2,λi h0 hi=>(hd i h0 hi).2,by omega,λi hi=>Ad (LX (hS i hi)),λi h0 hi=> ?_⟩
   have:=hS i hi
   unfold xq at this
   rw [if_pos (LX (hS i hi))] at this
   split at this
   ·cases this
   rename_i hn
   have:¬ nJ (L.getD i default) (L.getD (i - 1) default)=true:=λhb=>hn ⟨h0,hb⟩
   simpa using this
 cases h
theorem p18 (a b:Int) (T:aA) (L:au) (hT:T.length<1000) (hn:L.length<1000) (hL:∀ x∈L,x.length<1000):r40 a b T L=some (a,b,T,L):=by
 unfold r40
 rw [if_pos ⟨by omega,by omega⟩]
 refine mM L.length (KY a b T L) (λi=>((i:Int),L.take i)) _ (by omega) ?_ ?_
 ·intro i hi
  have hlen:(L.take i).length=i:=by simp; omega
  have h2:=Gx hL i
  simp only [KY,kK hi,if_true,if_pos (iK hi),Int.toNat_natCast,wS i (by omega),hlen]
  rw [if_pos ⟨by omega,by omega⟩,if_pos ⟨by omega,by omega⟩,uS L i hi]
  rfl
 simp [KY]
theorem akY (a b:Int) (T:aA) (L:au) (hT:T.length<1000) (hn:L.length<1000) (hL:∀ x∈L,x.length<1000) :
 PG a b T L=some (if (bH a b T L).2=0 then (a,b,T,L,T,L,0) else (0,0,[],[],[],[],(bH a b T L).2)):=by
 unfold PG
 rw [p24 a b T L hn hL,Option.bind_some]
 by_cases h:(bH a b T L).2=0
 ·rw [if_neg (by simpa using h),if_pos h,aCI T (by omega),Option.bind_some]
  refine mM L.length (CP a b T L T) (λi=>((i:Int),L.take i)) _ (by omega) ?_ ?_
  ·intro i hi
   have hlen:(L.take i).length=i:=by simp; omega
   have h2:=Gx hL i
   simp only [CP,kK hi,if_true,if_pos (iK hi),Int.toNat_natCast,wS i (by omega),hlen,akV _ (show (L.getD i default).length<1000000 by omega),aW]
   rw [if_pos ⟨by omega,by omega⟩,uS L i hi]
   rfl
  simp [CP]
 rw [if_pos (by simpa using h),if_neg h]
def inT (T:aA) (e:Int):Bool:=dn e (T.getD 0 default).1 (T.getD (T.length - 1) default).1
theorem akW (a b:Int) (T:aA) (L:au) (T2:aA) (L2:au) (e:Int) (h:0<T2.length) (h2:T2.length<1000):TV a b T L T2 L2 e=some (inT T2 e):=by
 unfold TV
 rw [wP T2.length (by omega),wPn,if_pos ⟨by omega,by omega⟩,if_pos ⟨by omega,by omega⟩,p90,Option.bind_some]
 rfl
def stF (T:aA) (s:aV) (i:Nat):Option (Int×Int):=if inT T (s.getD i default)=true then none else some ((i:Int),2)
def dw (a:Int) (T:aA) (s:aV):Int×Int:=if (s.length:Int)=a then (dJ (stF T s) 0 s.length).getD (0,0) else (0,10)
def idF (T:aA) (s:aV) (i:Nat):Option Int:=if inT T (s.getD i default)=true then none else some (i:Int)
theorem au' (a b:Int) (T:aA) (L:au) (T2:aA) (L2:au) (s:aV) (h:0<T2.length) (h2:T2.length<1000) (hs:s.length<1000000):TW a b T L T2 L2 s=some (dw a T2 s):=by
 unfold TW dw
 by_cases ha:(s.length:Int)=a
 ·rw [if_neg (by simpa using ha),if_pos ha]
  have hq:agt s a b T L T2 L2=P8 (dJ (idF T2 s) 0 s.length) (some (-1)):=by
   refine jK s.length (CO s a b T L T2 L2) _ _ (by omega) ?_ ?_
   ·intro i hi
    simp only [CO,kK hi,if_true,if_pos (iK hi),Int.toNat_natCast,wS i (by omega),agq,akW a b T L T2 L2 _ h h2,Option.bind_some,aW,idF]
    generalize inT T2 (s.getD i default)=q
    cases q<;>simp
   simp [CO]
  rw [hq]
  have hm:∀ k i,dJ (stF T2 s) i k=(dJ (idF T2 s) i k).map λv=>(v,2):=by
   intro k
   induction k with
   | zero=>intro i; rfl
   | succ k ih=>
    intro i
    simp only [dJ,stF,idF]
    split<;>simp_all [stF,idF]
  rw [hm]
  cases hv:dJ (idF T2 s) 0 s.length with
  | none=>rfl
  | some v=>
   obtain ⟨j,_,_,hj⟩:=iU hv
   have:0<=v:=by
    unfold idF at hj
    split at hj
    ·cases hj
    injection hj with hj; omega
   rw [P6,Option.bind_some,if_pos (decide_eq_true this)]; rfl
 rw [if_pos (by simpa using ha),if_neg ha]
theorem gU.tpos {a b:Int} {T:aA} {L:au} (h:gU a b T L):0<T.length:=by have:=h.LJ; omega
theorem gU.tlt {a b:Int} {T:aA} {L:au} (h:gU a b T L):T.length<1000:=by have:=h.LJ; omega
theorem p56 (a b:Int) (T:aA) (L:au) (e:Int) (h:0<T.length) (h2:T.length<1000):ab8 a b T L e=some (inT T e):=by
 unfold ab8
 rw [wP T.length (by omega),wPn,if_pos ⟨by omega,by omega⟩,if_pos ⟨by omega,by omega⟩,p59,Option.bind_some]
 rfl
theorem p27 (a b:Int) (T:aA) (L:au) (s:aV) (h:0<T.length) (h2:T.length<1000) (hs:s.length<1000000):Zm a b T L s=some (dw a T s):=by
 unfold Zm dw
 by_cases ha:(s.length:Int)=a
 ·rw [if_neg (by simpa using ha),if_pos ha]
  have hq:aK (zn a b T L s) 1000000000 0=P8 (dJ (stF T s) 0 s.length) (some (0,0)):=by
   refine jK s.length (zn a b T L s) _ _ (by omega) ?_ ?_
   ·intro i hi
    simp only [zn,kK hi,if_true,if_pos (iK hi),Int.toNat_natCast,wS i (by omega),p56 a b T L _ h h2,aW,stF]
    generalize inT T (s.getD i default)=q
    cases q<;>simp
   simp [zn]
  rw [hq]
  cases dJ (stF T s) 0 s.length<;>rfl
 rw [if_pos (by simpa using ha),if_neg ha]
end Go.Proofs.YtnepigpnlnmlmaaGreatDoor

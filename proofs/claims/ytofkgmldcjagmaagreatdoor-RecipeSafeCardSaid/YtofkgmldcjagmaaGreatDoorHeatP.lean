/- Texts. -/
import Derived.Test.YtofkgmldcjagmaaGreatDoorF01
import Derived.Test.YtofkgmldcjagmaaGreatDoorF12
import Derived.Test.YtofkgmldcjagmaaGreatDoorAbsC
import Derived.Test.YtofkgmldcjagmaaGreatDoorF02
set_option linter.unusedVariables false
set_option linter.unusedSimpArgs false
namespace Go.Proofs.YtofkgmldcjagmaaGreatDoor
open Go.dG
theorem gS {p:Prop} {α β:Type} {v:α} [Decidable (p→(some v).isSome=true)] {a b:β}:(if p→(some v).isSome=true then a else b)=a:=if_pos (fun _=>rfl)
theorem p90 (a b c:Int):WJ a b c=some (dR a b c):=rfl
theorem p59 (a b c:Int):r16 a b c=some (dR a b c):=rfl
theorem Yt (b:Bool) (e:Int):nS b e=some (bQ b e):=by
 unfold nS bQ; cases b<;>rfl
theorem p91 (l:List Int) (hl:l.length<1000000000):AA l=some (dh l):=by
 have h:=lg (τ:=Unit) l (zF l) (fun i _=>i) (fun _ _ x=>if x=0 then .next () else .out (some x)) (fun _=>some 0) hl
  (fun i t hi=>by
   simp only [zF,oz hi,if_true,if_pos (lF hi),Int.toNat_natCast,wS i (by omega)]
   generalize l.getD i default=x
   by_cases hx:x=0<;>simp [hx,Df])
  (fun t=>by simp [zF]) ()
 unfold AA
 rw [h]
 have:∀ (r:List Int) (i:Int),jy (fun _ _ x=>if x=0 then gK.next () else .out (some x)) (fun _:Unit=>some 0) i r ()=some (dh r):=by
  intro r
  induction r with
  | nil=>intro i; rfl
  | cons x r ih=>
   intro i
   by_cases hx:x=0
   ·simp only [jy,hx,if_true,dh]; exact ih _
   ·simp only [jy,if_neg hx,dh]
 exact this l 0
def Dt (p:Int→Bool):Int→List Int→Int
 | _,[]=> -1
 | i,x::r=>if p x then i else Dt p (i+1) r
theorem LV (p:Int→Bool):∀ (r:List Int) (i:Int),jy (fun i _ x=>if p x then (.out (some i):gK Unit Int) else .next ()) (fun _:Unit=>some (-1)) i r ()=some (Dt p i r)
 | [],i=>rfl
 | x::r,i=>by
  cases hx:p x with
  | true=>simp [jy,hx,Dt]
  | false=>simp only [jy,hx,Dt]; exact LV p r (i+1)
theorem PG (p:Int→Bool):∀ (l:List Int) (i:Int),0≤i→(decide (Dt p i l≥0))=l.any p
 | [],i,h=>by simp [Dt]
 | x::r,i,h=>by
  cases hx:p x with
  | true=>simp [Dt,hx,h]
  | false=>simp only [Dt,hx,List.any_cons,Bool.false_or]; exact PG p r (i+1) (by omega)
theorem p19 (l:List Int) (hl:l.length<1000000000):r79 l=some l:=by
 unfold r79; rw [if_pos ⟨by omega,by omega⟩]
end Go.Proofs.YtofkgmldcjagmaaGreatDoor
namespace Go.Proofs.YtofkgmldcjagmaaGreatDoor
open Go.dG
def JQ {ρ:Type} (s fin:Option ρ):Option ρ:=match s with | some v=>some v | none=>fin
theorem Ld {ρ:Type} (v:ρ) (fin:Option ρ):JQ (some v) fin=some v:=rfl
theorem CW {ρ:Type} (fin:Option ρ):JQ none fin=fin:=rfl
def dA {ρ:Type} (f:Nat→Option ρ):Nat→Nat→Option ρ
 | _,0=>none
 | i,k+1=>match f i with
  | some v=>some v
  | none=>dA f (i+1) k
theorem iU {ρ:Type} (n:Nat) (b:Int→gK Int ρ) (f:Nat→Option ρ) (fin:Option ρ) (hn:n<1000000000)
 (step:∀ i:Nat,i<n→b i=match f i with | some v=> .out (some v) | none=> .next ((i:Int)+1)) (stop:b n= .out fin) :
 aS b 1000000000 0=JQ (dA f 0 n) fin:=by
 have key:∀ (k i fuel:Nat),i+k=n→k<fuel→aS b fuel i=JQ (dA f i k) fin:=by
  intro k
  induction k with
  | zero=>
   intro i fuel hi hf
   obtain ⟨m,rfl⟩:∃ m,fuel=m+1:=⟨fuel - 1,by omega⟩
   obtain rfl:i=n:=by omega
   simp [aS,stop,dA,JQ]
  | succ k ih=>
   intro i fuel hi hf
   obtain ⟨m,rfl⟩:∃ m,fuel=m+1:=⟨fuel - 1,by omega⟩
   simp only [aS,step i (by omega),dA]
   cases hfx:f i with
   | none=>
    have:=ih (i+1) m (by omega) (by omega)
    simpa using this
   | some v=>rfl
 have:=key n 0 1000000000 (by omega) hn
 simpa using this
theorem jW {σ ρ:Type} (n:Nat) (b:σ→gK σ ρ) (st:Nat→σ) (fin:Option ρ) (hn:n<1000000000)
 (step:∀ i:Nat,i<n→b (st i)= .next (st (i+1))) (stop:b (st n)= .out fin):aS b 1000000000 (st 0)=fin:=by
 have key:∀ (k i fuel:Nat),i+k=n→k<fuel→aS b fuel (st i)=fin:=by
  intro k
  induction k with
  | zero=>
   intro i fuel hi hf
   obtain ⟨m,rfl⟩:∃ m,fuel=m+1:=⟨fuel - 1,by omega⟩
   obtain rfl:i=n:=by omega
   simp [aS,stop]
  | succ k ih=>
   intro i fuel hi hf
   obtain ⟨m,rfl⟩:∃ m,fuel=m+1:=⟨fuel - 1,by omega⟩
   simp only [aS,step i (by omega)]
   exact ih (i+1) m (by omega) (by omega)
 exact key n 0 1000000000 (by omega) hn
theorem jq {ρ:Type} {f:Nat→Option ρ}:∀ {k i:Nat},dA f i k=none→∀ j,i≤j→j<i+k→f j=none
 | 0,i,_,j,h1,h2=>by omega
 | k+1,i,h,j,h1,h2=>by
  simp only [dA] at h
  cases hf:f i with
  | some v=>rw [hf] at h; cases h
  | none=>
   rw [hf] at h
   by_cases hj:j=i
   ·rw [hj,hf]
   ·exact jq (k:=k) h j (by omega) (by omega)
theorem gX {ρ:Type} {f:Nat→Option ρ} {v:ρ}:∀ {k i:Nat},dA f i k=some v→∃ j,i≤j∧j<i+k∧f j=some v
 | 0,i,h=>by cases h
 | k+1,i,h=>by
  simp only [dA] at h
  cases hf:f i with
  | some w=>rw [hf] at h; exact ⟨i,Nat.le_refl _,by omega,by rw [hf]; exact h⟩
  | none=>
   rw [hf] at h
   obtain ⟨j,h1,h2,h3⟩:=gX (k:=k) h
   exact ⟨j,by omega,by omega,h3⟩
theorem sD {ρ:Type} {f:Nat→Option ρ} {k i:Nat} (h:∀ j,i≤j→j<i+k→f j=none):dA f i k=none:=by
 cases hs:dA f i k with
 | none=>rfl
 | some v=>obtain ⟨j,h1,h2,h3⟩:=gX hs; rw [h j h1 h2] at h3; cases h3
theorem xY (P:Nat→Prop) [DecidablePred P]:∀ n:Nat,∃ k,k≤n∧(∀ i,i<k→P i)∧(k<n→¬ P k)
 | 0=>⟨0,Nat.le_refl _,fun _ h=>by omega,fun h=>by omega⟩
 | n+1=>by
  obtain ⟨k,h1,h2,h3⟩:=xY P n
  by_cases hk:k<n
  ·exact ⟨k,by omega,h2,fun _=>h3 hk⟩
  ·obtain rfl:k=n:=by omega
   by_cases hp:P k
   ·exact ⟨k+1,by omega,fun i hi=>by
     by_cases hik:i=k
     ·rw [hik]; exact hp
     ·exact h2 i (by omega),fun h=>by omega⟩
   ·exact ⟨k,by omega,h2,fun _=>hp⟩
theorem wP (i:Nat) (h:i<1000000000):IntKind.i64.wrap ((i:Int) - 1)=(i:Int) - 1:=IntWalk.i64_in _ ⟨by omega,by omega⟩
theorem wPn (i:Nat):(((i:Int)) - 1).toNat=i - 1:=by omega
theorem rgP {i n:Nat} (h:i<n) (h0:0<i):0≤(i:Int) - 1∧(i:Int) - 1<(n:Int):=⟨by omega,by omega⟩
theorem mid (a b:Nat) (h:a+b<1000000000):IntKind.i64.wrap ((IntKind.u64.wrap (IntKind.i64.wrap ((a:Int)+(b:Int)))) / 2 ^ 1)=(((a+b) / 2:Nat):Int):=by
 rw [IntWalk.i64_in ((a:Int)+(b:Int)) ⟨by omega,by omega⟩]
 have:IntKind.u64.wrap ((a:Int)+(b:Int))=(a:Int)+(b:Int):=by simp only [IntKind.wrap_u64]; omega
 rw [this]
 have:((a:Int)+(b:Int)) / 2 ^ 1=(((a+b) / 2:Nat):Int):=by omega
 rw [this]
 exact IntWalk.i64_in _ ⟨by omega,by omega⟩
def XZ (a b:Int):Int:=if a<b then -1 else if a>b then 1 else 0
theorem arX (x y n d:Int):OX x y n d=some (XZ (IntKind.i64.wrap (x*d)) n):=by
 unfold OX aee KJ XZ
 generalize IntKind.i64.wrap (x*d)=a
 simp only [Option.bind_some,bne_self_eq_false,Bool.false_eq_true,if_false,decide_eq_true_eq]
 split
 ·rfl
 ·split<;>rfl
def ltK (l:List (Int×Int)) (n d:Int) (i:Nat):Prop:=IntKind.i64.wrap ((l.getD i default).1*d)<n
instance (l n d i):Decidable (ltK l n d i):=by unfold ltK; infer_instance
theorem azH (l:List (Int×Int)) (n d:Int) (hl:l.length<1000) (k:Nat) (hk:k≤l.length) (h1:∀ i,i<k→ltK l n d i) (h2:∀ i,k≤i→i<l.length→¬ ltK l n d i) :
 ∃ b,aef l n d=some ((k:Int),b):=by
 have key:∀ (fuel lo hi:Nat),lo≤k→k≤hi→hi≤l.length→hi - lo<fuel→∃ b,aS (zA l n d) fuel ((lo:Int),(hi:Int))=some ((k:Int),b):=by
  intro fuel
  induction fuel with
  | zero=>intro lo hi _ _ _ h; omega
  | succ m ih=>
   intro lo hi a1 a2 a3 a4
   by_cases hlt:lo<hi
   ·have e0:(decide ((lo:Int)<(hi:Int)))=true:=by simpa using hlt
    have em:(lo+hi) / 2<l.length:=by omega
    have e2:IntKind.i64.wrap ((((lo+hi) / 2:Nat):Int)+1)=(((lo+hi) / 2+1:Nat):Int):=by rw [wS _ (by omega)]; omega
    simp only [aS,zA,e0,if_true,mid lo hi (by omega),if_pos (lF em),Int.toNat_natCast,arX,aP,e2]
    by_cases hp:ltK l n d ((lo+hi) / 2)
    ·have hc:(decide (XZ (IntKind.i64.wrap ((l.getD ((lo+hi) / 2) default).1*d)) n<0))=true:=by
      unfold ltK at hp; unfold XZ; rw [if_pos hp]; rfl
     simp only [hc,if_true]
     have:(lo+hi) / 2<k:=by
      apply Nat.lt_of_not_le; intro hge; exact h2 _ hge em hp
     exact ih _ _ (by omega) (by omega) (by omega) (by omega)
    ·have hc:(decide (XZ (IntKind.i64.wrap ((l.getD ((lo+hi) / 2) default).1*d)) n<0))=false:=by
      unfold ltK at hp; unfold XZ; rw [if_neg hp]; split<;>rfl
     simp only [hc,Bool.false_eq_true,if_false]
     have:k≤(lo+hi) / 2:=by
      apply Nat.le_of_not_lt; intro hlt'; exact hp (h1 _ hlt')
     exact ih _ _ (by omega) (by omega) (by omega) (by omega)
   ·obtain rfl:lo=k:=by omega
    obtain rfl:hi=lo:=by omega
    have e0:(decide ((hi:Int)<(hi:Int)))=false:=by simp
    simp only [aS,zA,e0,Bool.false_eq_true,if_false,arX,Option.isSome_some,implies_true,if_true]
    by_cases hkl:hi<l.length
    ·have e3:0≤(hi:Int)∧(hi:Int)<(l.length:Int):=lF hkl
     rw [if_pos (fun _=>e3)]
     exact ⟨_,rfl⟩
    ·have e3:(decide ((hi:Int)<(l.length:Int)))=false:=by simp; omega
     simp only [e3,Bool.false_eq_true,false_implies,if_true]
     exact ⟨_,rfl⟩
 exact key 1000000000 0 l.length (by omega) hk (Nat.le_refl _) (by omega)
def vI (l:List (Int×Int)) (n d:Int) (k:Nat):Int×Int:=
 if l.length=0 then (0,1)
 else if k=0 then ((l.getD 0 default).2,1)
 else if k=l.length then ((l.getD (k - 1) default).2,1)
 else (IntKind.i64.wrap ((IntKind.i64.wrap (((l.getD (k - 1) default).2)*(IntKind.i64.wrap ((IntKind.i64.wrap (((l.getD k default).1) - ((l.getD (k - 1) default).1)))*d))))+(IntKind.i64.wrap ((IntKind.i64.wrap (((l.getD k default).2) - ((l.getD (k - 1) default).2)))*(IntKind.i64.wrap (n - (IntKind.i64.wrap (((l.getD (k - 1) default).1)*d))))))),IntKind.i64.wrap ((IntKind.i64.wrap (((l.getD k default).1) - ((l.getD (k - 1) default).1)))*d))
theorem azO (l:List (Int×Int)) (n d:Int) (hl:l.length<1000) (k:Nat) (hk:k≤l.length) (h1:∀ i,i<k→ltK l n d i) (h2:∀ i,k≤i→i<l.length→¬ ltK l n d i) :
 Az l n d=some (vI l n d k):=by
 obtain ⟨b,hb⟩:=azH l n d hl k hk h1 h2
 unfold Az vI
 rw [hb,Option.bind_some]
 by_cases h0:l.length=0
 ·have:((l.length:Int) == 0)=true:=by simp [h0]
  rw [if_pos this,if_pos h0]
 ·have:¬ ((l.length:Int) == 0)=true:=by rw [beq_iff_eq]; omega
  rw [if_neg this,if_neg h0]
  simp only
  by_cases hk0:k=0
  ·have:((k:Int) == 0)=true:=by simp [hk0]
   rw [if_pos this,if_pos hk0,if_pos ⟨by omega,by omega⟩]
  ·have:¬ ((k:Int) == 0)=true:=by rw [beq_iff_eq]; omega
   rw [if_neg this,if_neg hk0,wP k (by omega),wPn]
   by_cases hkl:k=l.length
   ·have:((k:Int) == (l.length:Int))=true:=by simp [hkl]
    rw [if_pos this,if_pos hkl,if_pos ⟨by omega,by omega⟩]
   ·have:¬ ((k:Int) == (l.length:Int))=true:=by rw [beq_iff_eq]; omega
    rw [if_neg this,if_neg hkl,if_pos ⟨by omega,by omega⟩,if_pos ⟨by omega,by omega⟩,Int.toNat_natCast]
theorem arZ (l:List (Int×Int)) (n d:Int) (hl:l.length<1000) (k:Nat) (hk:k≤l.length) (h1:∀ i,i<k→ltK l n d i) (h2:k<l.length→¬ ltK l n d k) :
 sO l n d=some (vI l n d k):=by
 unfold sO
 by_cases h0:l.length=0
 ·have:((l.length:Int) == 0)=true:=by simp [h0]
  rw [if_pos this]; unfold vI; rw [if_pos h0]
 ·have:¬ ((l.length:Int) == 0)=true:=by rw [beq_iff_eq]; omega
  rw [if_neg this]
  refine jW k (wC l n d) (fun i=>(i:Int)) _ (by omega) ?_ ?_
  ·intro i hi
   have hp:=h1 i hi
   unfold ltK at hp
   have e:¬ (decide (n≤IntKind.i64.wrap ((l.getD i default).1*d)))=true:=by rw [decide_eq_true_eq]; omega
   simp only [wC,oz (show i<l.length by omega),if_true,if_pos (lF (show i<l.length by omega)),Int.toNat_natCast,if_neg e,wS i (by omega)]
   rfl
  ·by_cases hkl:k<l.length
   ·have hp:=h2 hkl
    unfold ltK at hp
    have e:(decide (n≤IntKind.i64.wrap ((l.getD k default).1*d)))=true:=decide_eq_true (by omega)
    simp only [wC,oz hkl,if_true,if_pos (lF hkl),Int.toNat_natCast,e,wP k (by omega),wPn]
    unfold vI
    rw [if_neg h0]
    by_cases hk0:k=0
    ·subst hk0
     rw [if_pos rfl,if_pos (by rfl),if_pos ⟨by omega,by omega⟩]
    ·have:¬ ((k:Int) == 0)=true:=by rw [beq_iff_eq]; omega
     rw [if_neg this,if_neg hk0,if_neg (show ¬ k=l.length by omega),if_pos (rgP hkl (by omega))]
   ·obtain rfl:k=l.length:=by omega
    have e0:(decide ((l.length:Int)<(l.length:Int)))=false:=by simp
    simp only [wC,e0,Bool.false_eq_true,if_false,wP l.length (by omega),wPn]
    rw [if_pos ⟨by omega,by omega⟩]
    unfold vI
    rw [if_neg h0,if_neg h0,if_pos rfl]
end Go.Proofs.YtofkgmldcjagmaaGreatDoor
namespace Go.Proofs.YtofkgmldcjagmaaGreatDoor
open Go.dG
theorem arY (a:Int):WU a=some (dR a 200 3000):=rfl
theorem ar5 (a:Int):Y8 a=some (dR a 200 3000):=rfl
def dX (l:List (Int×Int)) (i:Nat):Int:=IntKind.i64.wrap ((l.getD i default).1 - (l.getD (i - 1) default).1)
def dY (l:List (Int×Int)) (i:Nat):Int:=IntKind.i64.wrap ((l.getD i default).2 - (l.getD (i - 1) default).2)
def wU (l:List (Int×Int)) (i:Nat):Option (Int×Int):=
 if (dR (l.getD i default).1 0 1000000 && dR (l.getD i default).2 200 3000)=true then
  if i=0 then none
  else if 0<dX l i∧0<dY l i then (if dY l i≤dX l i then none else some (i,22))
  else some (i,9)
 else some (i,2)
theorem Jq (e:Int):bQ true e=0:=rfl
theorem Jr (e:Int):bQ false e=e:=rfl
theorem p99 (l:List (Int×Int)):r84 l=if l.length<2 then some (0,10) else if 8<l.length then some (0,8) else JQ (dA (wU l) 0 l.length) (some (0,0)):=by
 unfold r84
 simp only [Yt,Option.bind_some]
 rw [p91 _ (by simp),Option.bind_some]
 by_cases h2:l.length<2
 ·have:(decide ((l.length:Int)≥2))=false:=by simp; omega
  rw [if_pos h2,this]; rfl
 ·have e2:(decide ((l.length:Int)≥2))=true:=by simp; omega
  rw [if_neg h2,e2]
  by_cases h8:8<l.length
  ·have:(decide ((l.length:Int)≤8))=false:=by simp; omega
   rw [if_pos h8,this]; rfl
  ·have e8:(decide ((l.length:Int)≤8))=true:=by simp; omega
   rw [if_neg h8,e8]
   show aS (Ep l) 1000000000 0=_
   refine iU l.length (Ep l) (wU l) _ (by omega) ?_ ?_
   ·intro i hi
    simp only [Ep,oz hi,if_true,if_pos (lF hi),Int.toNat_natCast,wS i (by omega),wP i (by omega),wPn,p90,arY,Yt,aP,Option.isSome_some,Option.getD_some,implies_true]
    unfold wU
    rcases Bool.eq_false_or_eq_true (dR (l.getD i default).1 0 1000000 && dR (l.getD i default).2 200 3000) with h | h
    ·rw [h]
     simp only [Jq,if_true,beq_self_eq_true,Bool.true_and]
     by_cases h0:i=0
     ·have:(decide ((i:Int)>0))=false:=by simp [h0]
      simp only [this,Bool.false_eq_true,if_false,bne_self_eq_false]
      rw [if_pos h0]
     ·have e0:(decide ((i:Int)>0))=true:=by simp; omega
      simp only [e0,if_true,if_pos (rgP hi (by omega)),h0,if_false]
      rw [p91 _ (by simp)]
      simp only
      show (if (dh [bQ (decide (dX l i>0) && decide (dY l i>0)) 9,bQ (decide (dY l i≤dX l i)) 22] != 0)=true then gK.out (some ((i:Int),dh [bQ (decide (dX l i>0) && decide (dY l i>0)) 9,bQ (decide (dY l i≤dX l i)) 22])) else _)=_
      generalize dX l i=a
      generalize dY l i=b
      by_cases ha:0<a∧0<b
      ·have hb:(decide (a>0) && decide (b>0))=true:=by simp; exact ha
       rw [hb,if_pos ha]
       by_cases hc:b≤a<;>simp [Jq,dh,hc,bQ]
      ·have hb:(decide (a>0) && decide (b>0))=false:=by simp; omega
       rw [hb,if_neg ha]; simp [Jr,dh]
    ·rw [h]
     simp [Jr]
   ·simp [Ep]
theorem azB (l:List (Int×Int)) (L:List (List (Int×Int))) (hl:l.length<1000) :
 aS (Eo l L) 1000000000 0=JQ (dA (wU l) 0 l.length) (if (decide ((L.length:Int)>4))=true then some (0,8) else aS (yE L) 1000000000 0):=by
 refine iU l.length (Eo l L) (wU l) _ (by omega) ?_ ?_
 ·intro i hi
  simp only [Eo,oz hi,if_true,if_pos (lF hi),Int.toNat_natCast,wS i (by omega),wP i (by omega),wPn,p59,ar5,aP,Option.isSome_some,Option.getD_some,implies_true,lF hi,and_self,decide_true,if_true]
  unfold wU
  have hor:((!(dR (l.getD i default).1 0 1000000)) || (!(dR (l.getD i default).2 200 3000)))= !(dR (l.getD i default).1 0 1000000 && dR (l.getD i default).2 200 3000):=by rw [Bool.not_and]
  rw [hor]
  rcases Bool.eq_false_or_eq_true (dR (l.getD i default).1 0 1000000 && dR (l.getD i default).2 200 3000) with h | h
  ·rw [h]
   simp only [Bool.not_true,Bool.false_eq_true,if_false,if_true]
   by_cases h0:i=0
   ·have:(decide ((i:Int)>0))=false:=by simp [h0]
    simp only [this,Bool.false_eq_true,if_false,bne_self_eq_false]
    rw [if_pos h0]
   ·have e0:(decide ((i:Int)>0))=true:=by simp; omega
    simp only [e0,if_true,if_pos (rgP hi (by omega)),h0,if_false]
    show (if (decide (dX l i≤0) || decide (dY l i≤0))=true then gK.out (some ((i:Int),9)) else if decide (dY l i>dX l i)=true then gK.out (some ((i:Int),22)) else _)=_
    generalize dX l i=a
    generalize dY l i=b
    by_cases ha:0<a∧0<b
    ·have hb:(decide (a≤0) || decide (b≤0))=false:=by simp; exact ha
     rw [hb,if_pos ha]
     by_cases hc:b≤a
     ·have:¬ b>a:=by omega
      simp [hc,this]
     ·have:b>a:=by omega
      simp [hc,this]
    ·have hb:(decide (a≤0) || decide (b≤0))=true:=by simp; omega
     rw [hb,if_neg ha]; simp
  ·rw [h]
   simp
 ·simp [Eo]
def vU (l:List (Int×Int)) (i:Nat):Option Int:=
 if (dR (l.getD i default).1 200 3000 && dR (l.getD i default).2 0 1000)=true then
  if i=0 then none
  else if 0<dX l i∧0≤dY l i then (if IntKind.i64.wrap (2*dY l i)≤dX l i then none else some 22)
  else some 9
 else some 2
def iO (l:List (Int×Int)):Int:=if 6<l.length then 8 else (dA (vU l) 0 l.length).getD 0
theorem aeJ {l:List (Int×Int)} {i:Nat} {e:Int} (h:vU l i=some e):e≠0:=by
 unfold vU at h
 repeat' split at h
 all_goals first | (injection h with h; omega) | cases h
theorem Vk {l:List (Int×Int)} (h:iO l=0):l.length≤6∧∀ i,i<l.length→vU l i=none:=by
 unfold iO at h
 split at h
 ·cases h
 ·rename_i h6
  refine ⟨by omega,?_⟩
  cases hs:dA (vU l) 0 l.length with
  | none=>exact fun i hi=>jq hs i (by omega) (by omega)
  | some e=>
   rw [hs] at h
   obtain ⟨j,_,_,hj⟩:=gX hs
   exact absurd h (aeJ hj)
theorem azX (l:List (Int×Int)):Zj l=some (iO l):=by
 unfold Zj iO
 by_cases h6:6<l.length
 ·have:(decide ((l.length:Int)>6))=true:=by simp; omega
  rw [if_pos this,if_pos h6]
 ·have:¬ (decide ((l.length:Int)>6))=true:=by simp; omega
  rw [if_neg this,if_neg h6]
  have hscan:aS (wG l) 1000000000 0=JQ (dA (vU l) 0 l.length) (some 0):=by
   refine iU l.length (wG l) (vU l) _ (by omega) ?_ ?_
   ·intro i hi
    simp only [wG,oz hi,if_true,if_pos (lF hi),Int.toNat_natCast,wS i (by omega),wP i (by omega),wPn,p59,ar5,aP,Option.isSome_some,Option.getD_some,implies_true,lF hi,and_self,decide_true,if_true]
    unfold vU
    have hor:((!(dR (l.getD i default).1 200 3000)) || (!(dR (l.getD i default).2 0 1000)))= !(dR (l.getD i default).1 200 3000 && dR (l.getD i default).2 0 1000):=by rw [Bool.not_and]
    rw [hor]
    rcases Bool.eq_false_or_eq_true (dR (l.getD i default).1 200 3000 && dR (l.getD i default).2 0 1000) with h | h
    ·rw [h]
     simp only [Bool.not_true,Bool.false_eq_true,if_false,if_true]
     by_cases h0:i=0
     ·have:(decide ((i:Int)>0))=false:=by simp [h0]
      simp only [this,Bool.false_eq_true,if_false,bne_self_eq_false]
      rw [if_pos h0]
     ·have e0:(decide ((i:Int)>0))=true:=by simp; omega
      simp only [e0,if_true,if_pos (rgP hi (by omega)),h0,if_false]
      show (if (decide (dX l i≤0) || decide (dY l i<0))=true then gK.out (some 9) else if decide (IntKind.i64.wrap (2*dY l i)>dX l i)=true then gK.out (some 22) else _)=_
      generalize dX l i=a
      generalize dY l i=b
      by_cases ha:0<a∧0≤b
      ·have hb:(decide (a≤0) || decide (b<0))=false:=by simp; exact ha
       rw [hb,if_pos ha]
       by_cases hc:IntKind.i64.wrap (2*b)≤a
       ·have:¬ IntKind.i64.wrap (2*b)>a:=by omega
        simp [hc,this]
       ·have:IntKind.i64.wrap (2*b)>a:=by omega
        simp [hc,this]
      ·have hb:(decide (a≤0) || decide (b<0))=true:=by simp; omega
       rw [hb,if_neg ha]; simp
    ·rw [h]
     simp
   ·simp [wG]
  rw [hscan]
  cases dA (vU l) 0 l.length<;>rfl
theorem ar6 (l m:List (Int×Int)) (h6:l.length≤6) (e:Option Int) (he:e=JQ (dA (vU l) 0 l.length) ((IB l).bind fun v10=>(IB m).bind fun v11=>(WT [v10,v11]).bind fun v12=>aS (Aj v10 v11 v12) 1000000000 0)):r85 l m=e:=by
 unfold r85
 have:¬ (decide ((l.length:Int)>6))=true:=by simp; omega
 rw [if_neg this,he]
 refine iU l.length (GX l m) (vU l) _ (by omega) ?_ ?_
 ·intro i hi
  simp only [GX,oz hi,if_true,if_pos (lF hi),Int.toNat_natCast,wS i (by omega),wP i (by omega),wPn,p90,arY,Yt,aP,Option.isSome_some,Option.getD_some,implies_true]
  unfold vU
  rcases Bool.eq_false_or_eq_true (dR (l.getD i default).1 200 3000 && dR (l.getD i default).2 0 1000) with h | h
  ·rw [h]
   simp only [Jq,if_true,beq_self_eq_true,Bool.true_and]
   by_cases h0:i=0
   ·have:(decide ((i:Int)>0))=false:=by simp [h0]
    simp only [this,Bool.false_eq_true,if_false,bne_self_eq_false]
    rw [if_pos h0]
   ·have e0:(decide ((i:Int)>0))=true:=by simp; omega
    simp only [e0,if_true,if_pos (rgP hi (by omega)),h0,if_false]
    rw [p91 _ (by simp)]
    simp only
    show (if (dh [bQ (decide (dX l i>0) && decide (dY l i≥0)) 9,bQ (decide (IntKind.i64.wrap (2*dY l i)≤dX l i)) 22] != 0)=true then gK.out (some (dh [bQ (decide (dX l i>0) && decide (dY l i≥0)) 9,bQ (decide (IntKind.i64.wrap (2*dY l i)≤dX l i)) 22])) else _)=_
    generalize dX l i=a
    generalize dY l i=b
    by_cases ha:0<a∧0≤b
    ·have hb:(decide (a>0) && decide (b≥0))=true:=by simp; exact ha
     rw [hb,if_pos ha]
     by_cases hc:IntKind.i64.wrap (2*b)≤a<;>simp [Jq,dh,hc,bQ]
    ·have hb:(decide (a>0) && decide (b≥0))=false:=by simp; omega
     rw [hb,if_neg ha]; simp [Jr,dh]
  ·rw [h]
   simp [Jr]
 ·simp [GX]
theorem rY {α:Type} [Inhabited α] (l:List α) (i:Nat) (hi:i<l.length):l.take (i+1)=l.take i++[l.getD i default]:=by
 rw [List.take_add_one]; simp [List.getD_eq_getElem?_getD,hi]
theorem ais (l:List (Int×Int)) (hl:l.length<1000000):IB l=some l:=by
 unfold IB
 refine jW l.length (zD l) (fun i=>(l.take i,(i:Int))) _ (by omega) ?_ ?_
 ·intro i hi
  have hlen:(l.take i).length=i:=by simp; omega
  simp only [zD,oz hi,if_true,if_pos (lF hi),Int.toNat_natCast,wS i (by omega),hlen]
  rw [if_pos ⟨by omega,by omega⟩,rY l i hi]
  rfl
 ·simp [zD]
theorem azJ (l:List (Int×Int)) (hl:l.length<1000000):Zk l=some l:=by
 unfold Zk
 refine jW l.length (zC l) (fun i=>(l.take i,(i:Int))) _ (by omega) ?_ ?_
 ·intro i hi
  have hlen:(l.take i).length=i:=by simp; omega
  simp only [zC,oz hi,if_true,if_pos (lF hi),Int.toNat_natCast,wS i (by omega),hlen]
  rw [if_pos ⟨by omega,by omega⟩,rY l i hi]
  rfl
 ·simp [zC]
theorem azK (l m:List (Int×Int)) (hl:l.length<1000) (hm:m.length<1000):WT [l,m]=some (l++m):=by
 unfold WT
 have e0:IntKind.i64.wrap (0+(l.length:Int))=l.length:=IntWalk.i64_in _ ⟨by omega,by omega⟩ |>.trans (by omega)
 have e1:IntKind.i64.wrap ((l.length:Int)+(m.length:Int))=l.length+m.length:=IntWalk.i64_in _ ⟨by omega,by omega⟩
 have e2:IntKind.i64.wrap (l.length:Int)=l.length:=IntWalk.i64_in _ ⟨by omega,by omega⟩
 have e3:IntKind.i64.wrap 1=1:=by decide
 have e4:IntKind.i64.wrap 2=2:=by decide
 refine jW 2 (wI [l,m]) (fun i=>if i=0 then (0,0) else if i=1 then ((l.length:Int),1) else ((l.length:Int)+m.length,2)) _ (by omega) ?_ ?_
 ·intro i hi
  have:i=0∨i=1:=by omega
  rcases this with rfl | rfl
  ·have:¬ ((l.length:Int)<0):=by omega
   simp [wI,e2,e3,this]
  ·have:¬ ((l.length:Int)+m.length<0):=by omega
   simp [wI,e1,this,e4]
 ·simp only [wI,List.length_cons,List.length_nil]
  simp only [if_neg (show ¬ (2:Nat)=0 by decide),if_neg (show ¬ (2:Nat)=1 by decide)]
  rw [if_neg (by decide)]
  congr 1
  rw [if_pos ⟨by omega,by omega⟩]
  refine jW 2 (wH [l,m]) (fun i=>if i=0 then (0,[]) else if i=1 then (1,l) else (2,l++m)) _ (by omega) ?_ ?_
  ·intro i hi
   have:i=0∨i=1:=by omega
   rcases this with rfl | rfl
   ·have c1:(l.length)*16≤140737488355328∧l.length≤9223372036854775807:=⟨by omega,by omega⟩
    simp [wH,c1,e3,e4]
   ·have c1:(l.length+m.length)*16≤140737488355328∧l.length+m.length≤9223372036854775807:=⟨by omega,by omega⟩
    simp [wH,c1,e3,e4]
  ·simp [wH]
end Go.Proofs.YtofkgmldcjagmaaGreatDoor
namespace Go.Proofs.YtofkgmldcjagmaaGreatDoor
open Go.dG
theorem Dq {σ ρ:Type} (n:Nat) (b:σ→gK σ ρ) (mk:Nat→σ) (f:Nat→Option ρ) (fin:Option ρ) (hn:n<1000000000)
 (step:∀ i:Nat,i<n→(∀ j,j<i→f j=none)→b (mk i)=match f i with | some v=> .out (some v) | none=> .next (mk (i+1)))
 (stop:(∀ j,j<n→f j=none)→b (mk n)= .out fin) :
 aS b 1000000000 (mk 0)=JQ (dA f 0 n) fin:=by
 have key:∀ (k i fuel:Nat),(∀ j,j<i→f j=none)→i+k=n→k<fuel→aS b fuel (mk i)=JQ (dA f i k) fin:=by
  intro k
  induction k with
  | zero=>
   intro i fuel hj hi hf
   obtain ⟨m,rfl⟩:∃ m,fuel=m+1:=⟨fuel - 1,by omega⟩
   obtain rfl:i=n:=by omega
   simp [aS,stop hj,dA,JQ]
  | succ k ih=>
   intro i fuel hj hi hf
   obtain ⟨m,rfl⟩:∃ m,fuel=m+1:=⟨fuel - 1,by omega⟩
   simp only [aS,step i (by omega) hj,dA]
   cases hfx:f i with
   | none=>
    exact ih (i+1) m (fun j h=>by
     by_cases hji:j=i
     ·rw [hji]; exact hfx
     ·exact hj j (by omega)) (by omega) (by omega)
   | some v=>rfl
 exact key n 0 1000000000 (fun j h=>by omega) (by omega) hn
structure vw (l:List (Int×Int)) (a b:Int):Prop where
 len:l.length<1000
 rng:∀ i,i<l.length→a≤(l.getD i default).1∧(l.getD i default).1≤b
 inc:∀ i,0<i→i<l.length→(l.getD (i - 1) default).1<(l.getD i default).1
theorem vw.lt {l:List (Int×Int)} {a b:Int} (h:vw l a b) {i:Nat}:∀ {j:Nat},i<j→j<l.length→(l.getD i default).1<(l.getD j default).1
 | 0,h1,_=>by omega
 | j+1,h1,h2=>by
  have:=h.inc (j+1) (by omega) h2
  rw [Nat.add_sub_cancel] at this
  by_cases hij:i=j
  ·rw [hij]; exact this
  ·have:=h.lt (i:=i) (j:=j) (by omega) (by omega); omega
theorem Pm {x d:Int} (hx:0≤x) (hx2:x≤1000000) (hd:0<d) (hd2:d≤1000000):IntKind.i64.wrap (x*d)=x*d∧0≤x*d∧x*d≤1000000*1000000:=by
 have a1:0≤x*d:=Int.mul_nonneg hx (by omega)
 have a2:x*d≤1000000*d:=Int.mul_le_mul_of_nonneg_right hx2 (by omega)
 have a3:(1000000:Int)*d≤1000000*1000000:=Int.mul_le_mul_of_nonneg_left hd2 (by omega)
 exact ⟨IntWalk.i64_in _ ⟨by omega,by omega⟩,a1,by omega⟩
theorem Qd {l:List (Int×Int)} {a b:Int} (h:vw l a b) (ha:0≤a) (hb:b≤1000000) (n d:Int) (hd:0<d) (hd2:d≤1000000) :
 ∃ k,k≤l.length∧Az l n d=some (vI l n d k)∧sO l n d=some (vI l n d k)∧(∀ i,i<k→(l.getD i default).1*d<n)∧(∀ i,k≤i→i<l.length→n≤(l.getD i default).1*d):=by
 obtain ⟨k,h1,h2,h3⟩:=xY (ltK l n d) l.length
 have hw:∀ i,i<l.length→IntKind.i64.wrap ((l.getD i default).1*d)=(l.getD i default).1*d:=fun i hi=>by
  have:=h.rng i hi
  exact (Pm (by omega) (by omega) hd hd2).1
 have e:∀ i,i<l.length→(ltK l n d i↔(l.getD i default).1*d<n):=fun i hi=>by unfold ltK; rw [hw i hi]
 have h4:∀ i,k≤i→i<l.length→n≤(l.getD i default).1*d:=by
  intro i hi hil
  have h5:=h3 (by omega)
  rw [e k (by omega)] at h5
  by_cases hki:k=i
  ·subst hki; omega
  ·have:=h.lt (i:=k) (j:=i) (by omega) hil
   have:=Int.mul_le_mul_of_nonneg_right (Int.le_of_lt this) (show 0≤d by omega)
   omega
 have h5:∀ i,k≤i→i<l.length→¬ ltK l n d i:=fun i hi hil=>by rw [e i hil]; have:=h4 i hi hil; omega
 exact ⟨k,h1,azO l n d h.len k h1 h2 h5,arZ l n d h.len k h1 h2 h3,fun i hi=>(e i (by omega)).1 (h2 i hi),h4⟩
theorem ug (l:List (Int×Int)) (n d:Int) (hl:l.length<1000):∃ v,sO l n d=some v:=by
 obtain ⟨k,h1,h2,h3⟩:=xY (ltK l n d) l.length
 exact ⟨_,arZ l n d hl k h1 h2 h3⟩
structure tN (l:List (Int×Int)):Prop where
 len:l.length≤6
 wY:vw l 200 3000
 yr:∀ i,i<l.length→0≤(l.getD i default).2∧(l.getD i default).2≤1000
 Bq:∀ i,0<i→i<l.length→(l.getD (i - 1) default).2≤(l.getD i default).2∧2*((l.getD i default).2 - (l.getD (i - 1) default).2)≤(l.getD i default).1 - (l.getD (i - 1) default).1
theorem je {a b c:Int}:dR a b c=true↔b≤a∧a≤c:=by simp [dR]
theorem xK {l:List (Int×Int)} (h:iO l=0):tN l:=by
 obtain ⟨h6,hf⟩:=Vk h
 have hr:∀ i,i<l.length→(200≤(l.getD i default).1∧(l.getD i default).1≤3000)∧0≤(l.getD i default).2∧(l.getD i default).2≤1000:=by
  intro i hi
  have:=hf i hi
  unfold vU at this
  split at this
  ·rename_i hc
   rw [Bool.and_eq_true,je,je] at hc; exact hc
  ·cases this
 have hd:∀ i,0<i→i<l.length→(l.getD (i - 1) default).1<(l.getD i default).1∧(l.getD (i - 1) default).2≤(l.getD i default).2∧2*((l.getD i default).2 - (l.getD (i - 1) default).2)≤(l.getD i default).1 - (l.getD (i - 1) default).1:=by
  intro i h0 hi
  have:=hf i hi
  unfold vU at this
  have a1:=hr i hi
  have a2:=hr (i - 1) (by omega)
  have ex:dX l i=(l.getD i default).1 - (l.getD (i - 1) default).1:=IntWalk.i64_in _ ⟨by omega,by omega⟩
  have ey:dY l i=(l.getD i default).2 - (l.getD (i - 1) default).2:=IntWalk.i64_in _ ⟨by omega,by omega⟩
  have e2:IntKind.i64.wrap (2*dY l i)=2*dY l i:=by rw [ey]; exact IntWalk.i64_in _ ⟨by omega,by omega⟩
  rw [e2,ex,ey] at this
  split at this
  ·rw [if_neg (by omega)] at this
   split at this
   ·rename_i hc
    split at this
    ·rename_i hc2; omega
    ·cases this
   ·cases this
  ·cases this
 exact ⟨h6,⟨by omega,fun i hi=>(hr i hi).1,fun i h0 hi=>(hd i h0 hi).1⟩,fun i hi=>(hr i hi).2,fun i h0 hi=>(hd i h0 hi).2⟩
def mW (l m:List (Int×Int)) (i:Nat):Bool:=
 decide (IntKind.i64.wrap (((sO l ((l++m).getD i default).1 1).getD default).1*((sO m ((l++m).getD i default).1 1).getD default).2)<IntKind.i64.wrap (((sO m ((l++m).getD i default).1 1).getD default).1*((sO l ((l++m).getD i default).1 1).getD default).2))
def lW (l m:List (Int×Int)):Bool:=(dA (fun i=>if mW l m i=true then some true else none) 0 (l.length+m.length)).getD false
theorem azW (l m:List (Int×Int)) (hl:l.length<1000) (hm:m.length<1000):WS l m=some (lW l m):=by
 unfold WS
 rw [if_pos ⟨by omega,by omega⟩,if_pos ⟨by omega,by omega⟩]
 have hs:aS (wF l m) 1000000000 0=JQ (dA (fun i=>if mW l m i=true then some true else none) 0 (l.length+m.length)) (some false):=by
  refine iU (l.length+m.length) (wF l m) _ _ (by omega) ?_ ?_
  ·intro i hi
   obtain ⟨u,hu⟩:=ug l ((l++m).getD i default).1 1 hl
   obtain ⟨v,hv⟩:=ug m ((l++m).getD i default).1 1 hm
   have e1:(decide ((i:Int)<((l++m).length:Int)))=true:=by simp; omega
   have e2:0≤(i:Int)∧(i:Int)<((l++m).length:Int):=by rw [List.length_append]; exact ⟨by omega,by omega⟩
   simp only [wF,e1,if_true,if_pos e2,Int.toNat_natCast,wS i (by omega),hu,hv,aP,mW,Option.getD_some]
   split<;>rfl
  ·have e1:(decide (((l.length+m.length:Nat):Int)<((l++m).length:Int)))=false:=by simp
   simp only [wF,e1,Bool.false_eq_true,if_false]
 rw [hs]; unfold lW
 cases dA (fun i=>if mW l m i=true then some true else none) 0 (l.length+m.length)<;>rfl
theorem YW {l:List (Int×Int)} {a b:Int} (h:vw l a b) (ha:0≤a) (hb:b≤1000000) (n d:Int) (hd:0<d) (hd2:d≤1000000):Az l n d=sO l n d:=by
 obtain ⟨k,_,h1,h2,_⟩:=Qd h ha hb n d hd hd2
 rw [h1,h2]
theorem YS:vw [] 200 3000:=⟨by simp,fun i h=>by simp at h,fun i _ h=>by simp at h⟩
theorem azY (l m:List (Int×Int)) (hm:vw m 200 3000) (hl:l.length<1000):r85 l m=some (if iO l=0 then (if lW l m=true then 13 else 0) else iO l):=by
 by_cases h6:6<l.length
 ·have e:iO l=8:=by unfold iO; rw [if_pos h6]
  rw [e]
  unfold r85
  have:(decide ((l.length:Int)>6))=true:=by simp; omega
  rw [if_pos this]; rfl
 ·rw [ar6 l m (by omega) _ rfl]
  have hm':=hm.len
  rw [ais l (by omega),ais m (by omega),Option.bind_some,Option.bind_some,azK l m hl hm',Option.bind_some]
  by_cases h0:iO l=0
  ·have ok:=xK h0
   rw [if_pos h0,sD (fun j _ hj=>(Vk h0).2 j (by omega)),CW]
   have hs:aS (Aj l m (l++m)) 1000000000 0=JQ (dA (fun i=>if mW l m i=true then some (13:Int) else none) 0 (l.length+m.length)) (some 0):=by
    refine iU (l.length+m.length) (Aj l m (l++m)) _ _ (by omega) ?_ ?_
    ·intro i hi
     obtain ⟨u,hu⟩:=ug l ((l++m).getD i default).1 1 hl
     obtain ⟨v,hv⟩:=ug m ((l++m).getD i default).1 1 hm'
     have hi2:i<(l++m).length:=by simp; omega
     simp only [Aj,oz hi2,if_true,if_pos (lF hi2),Int.toNat_natCast,wS i (by omega),YW ok.wY (by omega) (by omega) ((l++m).getD i default).1 1 (by omega) (by omega),YW hm (by omega) (by omega) ((l++m).getD i default).1 1 (by omega) (by omega),hu,hv,aP,mW,Option.getD_some]
     split<;>rfl
    ·have e1:(decide (((l.length+m.length:Nat):Int)<((l++m).length:Int)))=false:=by simp
     simp only [Aj,e1,Bool.false_eq_true,if_false]
   rw [hs]; unfold lW
   cases h1:dA (fun i=>if mW l m i=true then some (13:Int) else none) 0 (l.length+m.length) with
   | none=>
    rw [sD (f:=fun i=>if mW l m i=true then some true else none) (fun j a1 a2=>by
     have:=jq h1 j a1 a2
     skip
     split at this
     ·cases this
     ·rename_i hc; rw [if_neg hc])]
    rfl
   | some v=>
    obtain ⟨j,a1,a2,a3⟩:=gX h1
    have hc:mW l m j=true:=by
     skip
     split at a3
     ·assumption
     ·cases a3
    have hv:v=13:=by simp only [hc,if_true] at a3; injection a3 with a3; exact a3.symm
    cases h2:dA (fun i=>if mW l m i=true then some true else none) 0 (l.length+m.length) with
    | none=>
     have:=jq h2 j a1 a2
     simp only [hc,if_true] at this
     cases this
    | some w=>
     obtain ⟨j',b1,b2,b3⟩:=gX h2
     have hw:w=true:=by
      skip
      split at b3
      ·injection b3 with b3; exact b3.symm
      ·cases b3
     rw [hv,hw]; rfl
  ·rw [if_neg h0]
   unfold iO at h0 ⊢
   rw [if_neg h6] at h0 ⊢
   cases hs:dA (vU l) 0 l.length with
   | none=>rw [hs] at h0; exact absurd rfl h0
   | some v=>rfl
end Go.Proofs.YtofkgmldcjagmaaGreatDoor
namespace Go.Proofs.YtofkgmldcjagmaaGreatDoor
open Go.dG
def uG (L:List (List (Int×Int))) (i:Nat):Option (Int×Int):=
 if iO (L.getD i default)=0 then (if 0<i∧lW (L.getD i default) (L.getD (i - 1) default)=true then some ((i:Int),13) else none)
 else some ((i:Int),iO (L.getD i default))
def bn (a b:Int) (T:List (Int×Int)) (L:List (List (Int×Int))):Int×Int:=
 if (dR a 1 12 && dR b 0 500)=true then
  if T.length<2 then (0,10) else if 8<T.length then (0,8)
  else match dA (wU T) 0 T.length with
   | some v=>v
   | none=>if 4<L.length then (0,8) else (dA (uG L) 0 L.length).getD (0,0)
 else (0,2)
theorem UN {l:List (Int×Int)} {i:Nat} {v:Int×Int} (h:wU l i=some v):v.2≠0:=by
 unfold wU at h
 repeat' split at h
 all_goals first | (injection h with h; subst h; simp) | cases h
theorem Ih {L:List (List (Int×Int))} {i:Nat} (h:uG L i=none):iO (L.getD i default)=0:=by
 unfold uG at h
 split at h
 ·assumption
 ·cases h
theorem adT {L:List (List (Int×Int))} {i:Nat} {v:Int×Int} (h:uG L i=some v):v.2≠0:=by
 unfold uG at h
 split at h
 ·split at h
  ·injection h with h; subst h; simp
  ·cases h
 ·injection h with h; subst h; assumption
theorem Dk {L:List (List (Int×Int))} (hL:∀ x∈L,x.length<1000) (i:Nat):(L.getD i default).length<1000:=by
 by_cases hi:i<L.length
 ·exact hL _ (by simp [List.getD_eq_getElem?_getD,hi])
 ·have:L.getD i default=default:=by simp [List.getD_eq_getElem?_getD,hi]
  rw [this]; exact (by decide:([]:List (Int×Int)).length<1000)
theorem Ye {l:List (Int×Int)} (h:tN l):lW l []=false:=by
 unfold lW
 rw [sD (fun j a1 a2=> ?_)]
 ·rfl
 ·simp only [List.length_nil,Nat.add_zero,Nat.zero_add] at a2
  have hj:=h.wY.rng j a2
  obtain ⟨k,h1,h2,h3,h4,h5⟩:=Qd h.wY (by omega) (by omega) (l.getD j default).1 1 (by omega) (by omega)
  have hk:k=j:=by
   by_cases hlt:k<j
   ·have:=h5 k (Nat.le_refl _) (by omega)
    have:=h.wY.lt hlt a2
    omega
   ·by_cases hgt:j<k
    ·have:=h4 j hgt; omega
    ·omega
  subst hk
  have hn:sO [] (l.getD k default).1 1=some (0,1):=rfl
  have hc:mW l [] k=false:=by
   unfold mW
   rw [List.append_nil,h3,hn]
   simp only [Option.getD_some,Int.zero_mul,Int.mul_one]
   have:0≤(vI l (l.getD k default).1 1 k).1∧(vI l (l.getD k default).1 1 k).1<10000000000:=by
    unfold vI
    rw [if_neg (by omega)]
    have hy:=h.yr k a2
    by_cases hk0:k=0
    ·subst hk0; rw [if_pos rfl]; simp only; omega
    ·rw [if_neg hk0,if_neg (by omega)]
     have hx2:=h.wY.rng (k - 1) (by omega)
     have hy2:=h.yr (k - 1) (by omega)
     have hi:=h.wY.inc k (by omega) a2
     have hyi:=h.Bq k (by omega) a2
     generalize (l.getD k default).1=x1 at*
     generalize (l.getD (k - 1) default).1=x0 at*
     generalize (l.getD k default).2=y1 at*
     generalize (l.getD (k - 1) default).2=y0 at*
     have e1:IntKind.i64.wrap (x1 - x0)=x1 - x0:=IntWalk.i64_in _ ⟨by omega,by omega⟩
     have e2:IntKind.i64.wrap (x0*1)=x0:=by rw [Int.mul_one]; exact IntWalk.i64_in _ ⟨by omega,by omega⟩
     have e3:IntKind.i64.wrap ((x1 - x0)*1)=x1 - x0:=by rw [Int.mul_one,e1]
     have e4:IntKind.i64.wrap (y1 - y0)=y1 - y0:=IntWalk.i64_in _ ⟨by omega,by omega⟩
     simp only [e1,e2,e3,e4]
     have b1:0≤y0*(x1 - x0):=Int.mul_nonneg (by omega) (by omega)
     have b2:y0*(x1 - x0)≤1000*(x1 - x0):=Int.mul_le_mul_of_nonneg_right (by omega) (by omega)
     have b3:0≤(y1 - y0)*(x1 - x0):=Int.mul_nonneg (by omega) (by omega)
     have b4:(y1 - y0)*(x1 - x0)≤1000*(x1 - x0):=Int.mul_le_mul_of_nonneg_right (by omega) (by omega)
     have e5:IntKind.i64.wrap (y0*(x1 - x0))=y0*(x1 - x0):=IntWalk.i64_in _ ⟨by omega,by omega⟩
     have e6:IntKind.i64.wrap ((y1 - y0)*(x1 - x0))=(y1 - y0)*(x1 - x0):=IntWalk.i64_in _ ⟨by omega,by omega⟩
     rw [e5,e6]
     have e7:IntKind.i64.wrap (y0*(x1 - x0)+(y1 - y0)*(x1 - x0))=y0*(x1 - x0)+(y1 - y0)*(x1 - x0):=IntWalk.i64_in _ ⟨by omega,by omega⟩
     rw [e7]; omega
   generalize (vI l (l.getD k default).1 1 k).1=z at this
   have ez:IntKind.i64.wrap z=z:=IntWalk.i64_in _ ⟨by omega,by omega⟩
   have e0:IntKind.i64.wrap 0=0:=by decide
   rw [ez,e0]
   simp; omega
  simp only [hc,Bool.false_eq_true,if_false]
theorem azD (L:List (List (Int×Int))) (hn:L.length<1000) (hL:∀ x∈L,x.length<1000):aS (Ak L) 1000000000 ([],0)=some ((dA (uG L) 0 L.length).getD (0,0)):=by
 have h:=Dq L.length (Ak L) (fun i=>(if i=0 then [] else L.getD (i - 1) default,(i:Int))) (uG L) (some (0,0)) (by omega)
  (fun i hi hj=>by
   have ati:vw (if i=0 then [] else L.getD (i - 1) default) 200 3000:=by
    split
    ·exact YS
    ·exact (xK (Ih (hj (i - 1) (by omega)))).wY
   simp only [Ak,oz hi,if_true,if_pos (lF hi),Int.toNat_natCast,wS i (by omega),azY _ _ ati (Dk hL i),aP]
   unfold uG
   by_cases h0:iO (L.getD i default)=0
   ·simp only [h0,if_true]
    by_cases hi0:i=0
    ·subst hi0
     simp only [if_true,Ye (xK h0),Bool.false_eq_true,if_false,bne_self_eq_false,Nat.lt_irrefl,false_and]
     rfl
    ·have hpos:0<i:=by omega
     simp only [hi0,if_false,hpos,true_and]
     by_cases hb:lW (L.getD i default) (L.getD (i - 1) default)=true
     ·simp [hb,-List.getD_eq_getElem?_getD]
     ·simp [hb,-List.getD_eq_getElem?_getD]
   ·simp [h0,-List.getD_eq_getElem?_getD])
  (fun _=>by simp [Ak])
 have h0:aS (Ak L) 1000000000 ([],0)=_:=h
 rw [h0]
 cases dA (uG L) 0 L.length<;>rfl
theorem azC (L:List (List (Int×Int))) (hn:L.length<1000) (hL:∀ x∈L,x.length<1000):aS (yE L) 1000000000 0=some ((dA (uG L) 0 L.length).getD (0,0)):=by
 have h:=Dq L.length (yE L) (fun i=>(i:Int)) (uG L) (some (0,0)) (by omega)
  (fun i hi hj=>by
   simp only [yE,oz hi,if_true,if_pos (lF hi),Int.toNat_natCast,wS i (by omega),wP i (by omega),wPn,azX,aP]
   unfold uG
   by_cases h0:iO (L.getD i default)=0
   ·simp only [h0,if_true,bne_self_eq_false,Bool.false_eq_true,if_false]
    rw [azW _ _ (Dk hL i) (Dk hL (i - 1))]
    simp only [Option.isSome_some,implies_true,if_true,Option.getD_some,lF hi,and_self,decide_true]
    by_cases hi0:i=0
    ·subst hi0
     simp
    ·have hpos:0<i:=by omega
     have e1:(decide ((i:Int)>0))=true:=by simp; omega
     rw [if_pos (fun _=>rgP hi hpos)]
     simp only [e1,Bool.true_and,hpos,true_and]
     by_cases hb:lW (L.getD i default) (L.getD (i - 1) default)=true
     ·simp [hb,-List.getD_eq_getElem?_getD]
     ·simp [hb,-List.getD_eq_getElem?_getD]
   ·simp [h0,-List.getD_eq_getElem?_getD])
  (fun _=>by simp [yE])
 have h0:aS (yE L) 1000000000 0=_:=h
 rw [h0]
 cases dA (uG L) 0 L.length<;>rfl
theorem p24 (a b:Int) (T:List (Int×Int)) (L:List (List (Int×Int))) (hn:L.length<1000) (hL:∀ x∈L,x.length<1000):r53 a b T L=some (bn a b T L):=by
 unfold r53 bn
 rw [p90,Option.bind_some,p90,gS,Option.getD_some]
 have hor:((!(dR a 1 12)) || (!(dR b 0 500)))= !(dR a 1 12 && dR b 0 500):=by rw [Bool.not_and]
 rcases Bool.eq_false_or_eq_true (dR a 1 12 && dR b 0 500) with h | h
 ·rw [if_neg (show ¬ (!(dR a 1 12) || !(dR b 0 500))=true by rw [hor,h]; decide),if_pos h,p99]
  by_cases h2:T.length<2
  ·simp [h2]
  ·rw [if_neg h2,if_neg h2]
   by_cases h8:8<T.length
   ·simp [h8]
   ·rw [if_neg h8,if_neg h8]
    cases hs:dA (wU T) 0 T.length with
    | some v=>
     obtain ⟨j,_,_,hj⟩:=gX hs
     have:=UN hj
     rw [Ld,Option.bind_some,if_pos (by simpa using this)]
    | none=>
     rw [CW,Option.bind_some,if_neg (by decide),azD L hn hL]
     by_cases h4:4<L.length
     ·have:(decide ((L.length:Int)>4))=true:=by simp; omega
      rw [if_pos this,if_pos h4]
     ·have:¬ (decide ((L.length:Int)>4))=true:=by simp; omega
      rw [if_neg this,if_neg h4]
 ·rw [if_pos (show (!(dR a 1 12) || !(dR b 0 500))=true by rw [hor,h]; decide),if_neg (by rw [h]; decide)]
theorem p26 (a b:Int) (T:List (Int×Int)) (L:List (List (Int×Int))) (hn:L.length<1000) (hL:∀ x∈L,x.length<1000):r90 a b T L=some (bn a b T L):=by
 unfold r90 bn
 rw [p59,Option.bind_some,p59,gS,Option.getD_some]
 have hor:((!(dR a 1 12)) || (!(dR b 0 500)))= !(dR a 1 12 && dR b 0 500):=by rw [Bool.not_and]
 rcases Bool.eq_false_or_eq_true (dR a 1 12 && dR b 0 500) with h | h
 ·rw [if_neg (show ¬ (!(dR a 1 12) || !(dR b 0 500))=true by rw [hor,h]; decide),if_pos h]
  by_cases h2:T.length<2
  ·have:(decide ((T.length:Int)<2))=true:=by simp; omega
   rw [if_pos this,if_pos h2]
  ·have:¬ (decide ((T.length:Int)<2))=true:=by simp; omega
   rw [if_neg this,if_neg h2]
   by_cases h8:8<T.length
   ·have:(decide ((T.length:Int)>8))=true:=by simp; omega
    rw [if_pos this,if_pos h8]
   ·have:¬ (decide ((T.length:Int)>8))=true:=by simp; omega
    rw [if_neg this,if_neg h8,azB T L (by omega)]
    cases hs:dA (wU T) 0 T.length with
    | some v=>rfl
    | none=>
     rw [CW,azC L hn hL]
     by_cases h4:4<L.length
     ·have:(decide ((L.length:Int)>4))=true:=by simp; omega
      rw [if_pos this,if_pos h4]
     ·have:¬ (decide ((L.length:Int)>4))=true:=by simp; omega
      rw [if_neg this,if_neg h4]
 ·rw [if_pos (show (!(dR a 1 12) || !(dR b 0 500))=true by rw [hor,h]; decide),if_neg (by rw [h]; decide)]
structure fJ (a b:Int) (T:List (Int×Int)) (L:List (List (Int×Int))):Prop where
 cells:1≤a∧a≤12
 mix:0≤b∧b≤500
 BG:2≤T.length∧T.length≤8
 wY:vw T 0 1000000
 yr:∀ i,i<T.length→200≤(T.getD i default).2∧(T.getD i default).2≤3000
 Bq:∀ i,0<i→i<T.length→(T.getD (i - 1) default).2<(T.getD i default).2∧(T.getD i default).2 - (T.getD (i - 1) default).2≤(T.getD i default).1 - (T.getD (i - 1) default).1
 llen:L.length≤4
 laws:∀ i,i<L.length→tN (L.getD i default)
 below:∀ i,0<i→i<L.length→lW (L.getD i default) (L.getD (i - 1) default)=false
theorem nN {a b:Int} {T:List (Int×Int)} {L:List (List (Int×Int))} (h:(bn a b T L).2=0):fJ a b T L:=by
 unfold bn at h
 split at h
 ·rename_i hc
  rw [Bool.and_eq_true,je,je] at hc
  split at h
  ·cases h
  ·rename_i h2
   split at h
   ·cases h
   ·rename_i h8
    split at h
    ·rename_i v hs
     obtain ⟨j,_,_,hj⟩:=gX hs
     exact absurd h (UN hj)
    ·rename_i hs
     split at h
     ·cases h
     ·rename_i h4
      cases hs2:dA (uG L) 0 L.length with
      | some v=>
       obtain ⟨j,_,_,hj⟩:=gX hs2
       rw [hs2] at h
       exact absurd h (adT hj)
      | none=>
       have hT:∀ i,i<T.length→wU T i=none:=fun i hi=>jq hs i (by omega) (by omega)
       have hr:∀ i,i<T.length→(0≤(T.getD i default).1∧(T.getD i default).1≤1000000)∧200≤(T.getD i default).2∧(T.getD i default).2≤3000:=by
        intro i hi
        have:=hT i hi
        unfold wU at this
        split at this
        ·rename_i hc
         rw [Bool.and_eq_true,je,je] at hc; exact hc
        ·cases this
       have hd:∀ i,0<i→i<T.length→(T.getD (i - 1) default).1<(T.getD i default).1∧(T.getD (i - 1) default).2<(T.getD i default).2∧(T.getD i default).2 - (T.getD (i - 1) default).2≤(T.getD i default).1 - (T.getD (i - 1) default).1:=by
        intro i h0 hi
        have:=hT i hi
        unfold wU at this
        have a1:=hr i hi
        have a2:=hr (i - 1) (by omega)
        have ex:dX T i=(T.getD i default).1 - (T.getD (i - 1) default).1:=IntWalk.i64_in _ ⟨by omega,by omega⟩
        have ey:dY T i=(T.getD i default).2 - (T.getD (i - 1) default).2:=IntWalk.i64_in _ ⟨by omega,by omega⟩
        rw [ex,ey] at this
        split at this
        ·rw [if_neg (by omega)] at this
         split at this
         ·rename_i hc
          split at this
          ·rename_i hc2; omega
          ·cases this
         ·cases this
        ·cases this
       have hS:∀ i,i<L.length→uG L i=none:=fun i hi=>jq hs2 i (by omega) (by omega)
       refine ⟨hc.1,hc.2,⟨by omega,by omega⟩,⟨by omega,fun i hi=>(hr i hi).1,fun i h0 hi=>(hd i h0 hi).1⟩,fun i hi=>(hr i hi).2,fun i h0 hi=>(hd i h0 hi).2,by omega,fun i hi=>xK (Ih (hS i hi)),fun i h0 hi=> ?_⟩
       have:=hS i hi
       unfold uG at this
       rw [if_pos (Ih (hS i hi))] at this
       split at this
       ·cases this
       ·rename_i hn
        have:¬ lW (L.getD i default) (L.getD (i - 1) default)=true:=fun hb=>hn ⟨h0,hb⟩
        simpa using this
 ·cases h
end Go.Proofs.YtofkgmldcjagmaaGreatDoor
namespace Go.Proofs.YtofkgmldcjagmaaGreatDoor
open Go.dG
theorem p18 (a b:Int) (T:List (Int×Int)) (L:List (List (Int×Int))) (hT:T.length<1000) (hn:L.length<1000) (hL:∀ x∈L,x.length<1000):r44 a b T L=some (a,b,T,L):=by
 unfold r44
 rw [if_pos ⟨by omega,by omega⟩]
 refine jW L.length (G7 a b T L) (fun i=>((i:Int),L.take i)) _ (by omega) ?_ ?_
 ·intro i hi
  have hlen:(L.take i).length=i:=by simp; omega
  have h2:=Dk hL i
  simp only [G7,oz hi,if_true,if_pos (lF hi),Int.toNat_natCast,wS i (by omega),hlen]
  rw [if_pos ⟨by omega,by omega⟩,if_pos ⟨by omega,by omega⟩,rY L i hi]
  rfl
 ·simp [G7]
theorem aez (a b:Int) (T:List (Int×Int)) (L:List (List (Int×Int))) (hT:T.length<1000) (hn:L.length<1000) (hL:∀ x∈L,x.length<1000) :
 r86 a b T L=some (if (bn a b T L).2=0 then (a,b,T,L,T,L,0) else (0,0,[],[],[],[],(bn a b T L).2)):=by
 unfold r86
 rw [p24 a b T L hn hL,Option.bind_some]
 by_cases h:(bn a b T L).2=0
 ·rw [if_neg (by simpa using h),if_pos h,azJ T (by omega),Option.bind_some]
  refine jW L.length (GV a b T L T) (fun i=>((i:Int),L.take i)) _ (by omega) ?_ ?_
  ·intro i hi
   have hlen:(L.take i).length=i:=by simp; omega
   have h2:=Dk hL i
   simp only [GV,oz hi,if_true,if_pos (lF hi),Int.toNat_natCast,wS i (by omega),hlen,ais _ (show (L.getD i default).length<1000000 by omega),aP]
   rw [if_pos ⟨by omega,by omega⟩,rY L i hi]
   rfl
  ·simp [GV]
 ·rw [if_pos (by simpa using h),if_neg h]
def inT (T:List (Int×Int)) (e:Int):Bool:=dR e (T.getD 0 default).1 (T.getD (T.length - 1) default).1
theorem aiv (a b:Int) (T:List (Int×Int)) (L:List (List (Int×Int))) (T2:List (Int×Int)) (L2:List (List (Int×Int))) (e:Int) (h:0<T2.length) (h2:T2.length<1000):OY a b T L T2 L2 e=some (inT T2 e):=by
 unfold OY
 rw [wP T2.length (by omega),wPn,if_pos ⟨by omega,by omega⟩,if_pos ⟨by omega,by omega⟩,p90,Option.bind_some]
 rfl
def YR (T:List (Int×Int)) (s:List Int) (i:Nat):Option (Int×Int):=if inT T (s.getD i default)=true then none else some ((i:Int),2)
def dw (a:Int) (T:List (Int×Int)) (s:List Int):Int×Int:=if (s.length:Int)=a then (dA (YR T s) 0 s.length).getD (0,0) else (0,10)
def idF (T:List (Int×Int)) (s:List Int) (i:Nat):Option Int:=if inT T (s.getD i default)=true then none else some (i:Int)
theorem aiw (a b:Int) (T:List (Int×Int)) (L:List (List (Int×Int))) (T2:List (Int×Int)) (L2:List (List (Int×Int))) (s:List Int) (h:0<T2.length) (h2:T2.length<1000) (hs:s.length<1000000):O1 a b T L T2 L2 s=some (dw a T2 s):=by
 unfold O1 dw
 by_cases ha:(s.length:Int)=a
 ·rw [if_neg (by simpa using ha),if_pos ha]
  have hq:ael s a b T L T2 L2=JQ (dA (idF T2 s) 0 s.length) (some (-1)):=by
   refine iU s.length (zJ s a b T L T2 L2) _ _ (by omega) ?_ ?_
   ·intro i hi
    simp only [zJ,oz hi,if_true,if_pos (lF hi),Int.toNat_natCast,wS i (by omega),aed,aiv a b T L T2 L2 _ h h2,Option.bind_some,aP,idF]
    generalize inT T2 (s.getD i default)=q
    cases q<;>simp
   ·simp [zJ]
  rw [hq]
  have hm:∀ k i,dA (YR T2 s) i k=(dA (idF T2 s) i k).map fun v=>(v,2):=by
   intro k
   induction k with
   | zero=>intro i; rfl
   | succ k ih=>
    intro i
    simp only [dA,YR,idF]
    split<;>simp_all [YR,idF]
  rw [hm]
  cases hv:dA (idF T2 s) 0 s.length with
  | none=>rfl
  | some v=>
   obtain ⟨j,_,_,hj⟩:=gX hv
   have:0≤v:=by
    unfold idF at hj
    split at hj
    ·cases hj
    ·injection hj with hj; omega
   rw [Ld,Option.bind_some,if_pos (decide_eq_true this)]; rfl
 ·rw [if_pos (by simpa using ha),if_neg ha]
theorem fJ.tpos {a b:Int} {T:List (Int×Int)} {L:List (List (Int×Int))} (h:fJ a b T L):0<T.length:=by have:=h.BG; omega
theorem fJ.tlt {a b:Int} {T:List (Int×Int)} {L:List (List (Int×Int))} (h:fJ a b T L):T.length<1000:=by have:=h.BG; omega
theorem p56 (a b:Int) (T:List (Int×Int)) (L:List (List (Int×Int))) (e:Int) (h:0<T.length) (h2:T.length<1000):WW a b T L e=some (inT T e):=by
 unfold WW
 rw [wP T.length (by omega),wPn,if_pos ⟨by omega,by omega⟩,if_pos ⟨by omega,by omega⟩,p59,Option.bind_some]
 rfl
theorem p27 (a b:Int) (T:List (Int×Int)) (L:List (List (Int×Int))) (s:List Int) (h:0<T.length) (h2:T.length<1000) (hs:s.length<1000000):WR a b T L s=some (dw a T s):=by
 unfold WR dw
 by_cases ha:(s.length:Int)=a
 ·rw [if_neg (by simpa using ha),if_pos ha]
  have hq:aS (wE a b T L s) 1000000000 0=JQ (dA (YR T s) 0 s.length) (some (0,0)):=by
   refine iU s.length (wE a b T L s) _ _ (by omega) ?_ ?_
   ·intro i hi
    simp only [wE,oz hi,if_true,if_pos (lF hi),Int.toNat_natCast,wS i (by omega),p56 a b T L _ h h2,aP,YR]
    generalize inT T (s.getD i default)=q
    cases q<;>simp
   ·simp [wE]
  rw [hq]
  cases dA (YR T s) 0 s.length<;>rfl
 ·rw [if_pos (by simpa using ha),if_neg ha]
end Go.Proofs.YtofkgmldcjagmaaGreatDoor

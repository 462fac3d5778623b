/- Texts. -/
import Derived.Test.YtkbdjphdhcgmaaaGreatDoorF15
import Derived.Test.YtkbdjphdhcgmaaaGreatDoorAbsC
import Derived.Test.YtkbdjphdhcgmaaaGreatDoorF01
import Derived.Test.YtkbdjphdhcgmaaaGreatDoorF22
set_option linter.unusedVariables false
set_option linter.unusedSimpArgs false
namespace Go.Proofs.YtkbdjphdhcgmaaaGreatDoor
open Go.Abs
theorem p59 (a b c:Int):r57 a b c=some (inR a b c):=rfl
end Go.Proofs.YtkbdjphdhcgmaaaGreatDoor
namespace Go.Proofs.YtkbdjphdhcgmaaaGreatDoor
open Go.Abs
def scanN {ρ:Type} (f:Nat→Option ρ):Nat→Nat→Option ρ
 | _,0=>none
 | i,k+1=>match f i with
  | some v=>some v
  | none=>scanN f (i+1) k
theorem iter_run {σ ρ:Type} (n:Nat) (b:σ→Ctl σ ρ) (st:Nat→σ) (fin:Option ρ) (hn:n<1000000000)
 (step:∀ i:Nat,i<n→b (st i)= .next (st (i+1))) (stop:b (st n)= .out fin):iterC b 1000000000 (st 0)=fin:=by
 have key:∀ (k i fuel:Nat),i+k=n→k<fuel→iterC b fuel (st i)=fin:=by
  intro k
  induction k with
  | zero=>
   intro i fuel hi hf
   obtain ⟨m,rfl⟩:∃ m,fuel=m+1:=⟨fuel - 1,by omega⟩
   obtain rfl:i=n:=by omega
   simp [iterC,stop]
  | succ k ih=>
   intro i fuel hi hf
   obtain ⟨m,rfl⟩:∃ m,fuel=m+1:=⟨fuel - 1,by omega⟩
   simp only [iterC,step i (by omega)]
   exact ih (i+1) m (by omega) (by omega)
 exact key n 0 1000000000 (by omega) hn
theorem scan_none {ρ:Type} {f:Nat→Option ρ}:∀ {k i:Nat},scanN f i k=none→∀ j,i≤j→j<i+k→f j=none
 | 0,i,_,j,h1,h2=>by omega
 | k+1,i,h,j,h1,h2=>by
  simp only [scanN] at h
  cases hf:f i with
  | some v=>rw [hf] at h; cases h
  | none=>
   rw [hf] at h
   by_cases hj:j=i
   ·rw [hj,hf]
   ·exact scan_none (k:=k) h j (by omega) (by omega)
theorem scan_some {ρ:Type} {f:Nat→Option ρ} {v:ρ}:∀ {k i:Nat},scanN f i k=some v→∃ j,i≤j∧j<i+k∧f j=some v
 | 0,i,h=>by cases h
 | k+1,i,h=>by
  simp only [scanN] at h
  cases hf:f i with
  | some w=>rw [hf] at h; exact ⟨i,Nat.le_refl _,by omega,by rw [hf]; exact h⟩
  | none=>
   rw [hf] at h
   obtain ⟨j,h1,h2,h3⟩:=scan_some (k:=k) h
   exact ⟨j,by omega,by omega,h3⟩
theorem scan_all {ρ:Type} {f:Nat→Option ρ} {k i:Nat} (h:∀ j,i≤j→j<i+k→f j=none):scanN f i k=none:=by
 cases hs:scanN f i k with
 | none=>rfl
 | some v=>obtain ⟨j,h1,h2,h3⟩:=scan_some hs; rw [h j h1 h2] at h3; cases h3
theorem first_ix (P:Nat→Prop) [DecidablePred P]:∀ n:Nat,∃ k,k≤n∧(∀ i,i<k→P i)∧(k<n→¬ P k)
 | 0=>⟨0,Nat.le_refl _,fun _ h=>by omega,fun h=>by omega⟩
 | n+1=>by
  obtain ⟨k,h1,h2,h3⟩:=first_ix P n
  by_cases hk:k<n
  ·exact ⟨k,by omega,h2,fun _=>h3 hk⟩
  ·obtain rfl:k=n:=by omega
   by_cases hp:P k
   ·exact ⟨k+1,by omega,fun i hi=>by
     by_cases hik:i=k
     ·rw [hik]; exact hp
     ·exact h2 i (by omega),fun h=>by omega⟩
   ·exact ⟨k,by omega,h2,fun _=>hp⟩
theorem wP (i:Nat) (h:i<1000000000):IntKind.i64.wrap ((i:Int) - 1)=(i:Int) - 1:=IntWalk.i64_in _ ⟨by omega,by omega⟩
theorem wPn (i:Nat):(((i:Int)) - 1).toNat=i - 1:=by omega
theorem rgP {i n:Nat} (h:i<n) (h0:0<i):0≤(i:Int) - 1∧(i:Int) - 1<(n:Int):=⟨by omega,by omega⟩
theorem mid (a b:Nat) (h:a+b<1000000000):IntKind.i64.wrap ((IntKind.u64.wrap (IntKind.i64.wrap ((a:Int)+(b:Int)))) / 2 ^ 1)=(((a+b) / 2:Nat):Int):=by
 rw [IntWalk.i64_in ((a:Int)+(b:Int)) ⟨by omega,by omega⟩]
 have:IntKind.u64.wrap ((a:Int)+(b:Int))=(a:Int)+(b:Int):=by simp only [IntKind.wrap_u64]; omega
 rw [this]
 have:((a:Int)+(b:Int)) / 2 ^ 1=(((a+b) / 2:Nat):Int):=by omega
 rw [this]
 exact IntWalk.i64_in _ ⟨by omega,by omega⟩
def cmpV (a b:Int):Int:=if a<b then -1 else if a>b then 1 else 0
theorem p155 (x y n d:Int):r193 x y n d=some (cmpV (IntKind.i64.wrap (x*d)) n):=by
 unfold r193 r194 r214 cmpV
 generalize IntKind.i64.wrap (x*d)=a
 simp only [Option.bind_some,bne_self_eq_false,Bool.false_eq_true,if_false,decide_eq_true_eq]
 split
 ·rfl
 ·split<;>rfl
def ltK (l:List (Int×Int)) (n d:Int) (i:Nat):Prop:=IntKind.i64.wrap ((l.getD i default).1*d)<n
instance (l n d i):Decidable (ltK l n d i):=by unfold ltK; infer_instance
theorem p154 (l:List (Int×Int)) (n d:Int) (hl:l.length<1000) (k:Nat) (hk:k≤l.length) (h1:∀ i,i<k→ltK l n d i) (h2:∀ i,k≤i→i<l.length→¬ ltK l n d i) :
 ∃ b,r192 l n d=some ((k:Int),b):=by
 have key:∀ (fuel lo hi:Nat),lo≤k→k≤hi→hi≤l.length→hi - lo<fuel→∃ b,iterC (b192_1 l n d) fuel ((lo:Int),(hi:Int))=some ((k:Int),b):=by
  intro fuel
  induction fuel with
  | zero=>intro lo hi _ _ _ h; omega
  | succ m ih=>
   intro lo hi a1 a2 a3 a4
   by_cases hlt:lo<hi
   ·have e0:(decide ((lo:Int)<(hi:Int)))=true:=by simpa using hlt
    have em:(lo+hi) / 2<l.length:=by omega
    have e2:IntKind.i64.wrap ((((lo+hi) / 2:Nat):Int)+1)=(((lo+hi) / 2+1:Nat):Int):=by rw [wS _ (by omega)]; omega
    simp only [iterC,b192_1,e0,if_true,mid lo hi (by omega),if_pos (rgN em),Int.toNat_natCast,p155,bindC,e2]
    by_cases hp:ltK l n d ((lo+hi) / 2)
    ·have hc:(decide (cmpV (IntKind.i64.wrap ((l.getD ((lo+hi) / 2) default).1*d)) n<0))=true:=by
      unfold ltK at hp; unfold cmpV; rw [if_pos hp]; rfl
     simp only [hc,if_true]
     have:(lo+hi) / 2<k:=by
      apply Nat.lt_of_not_le; intro hge; exact h2 _ hge em hp
     exact ih _ _ (by omega) (by omega) (by omega) (by omega)
    ·have hc:(decide (cmpV (IntKind.i64.wrap ((l.getD ((lo+hi) / 2) default).1*d)) n<0))=false:=by
      unfold ltK at hp; unfold cmpV; rw [if_neg hp]; split<;>rfl
     simp only [hc,Bool.false_eq_true,if_false]
     have:k≤(lo+hi) / 2:=by
      apply Nat.le_of_not_lt; intro hlt'; exact hp (h1 _ hlt')
     exact ih _ _ (by omega) (by omega) (by omega) (by omega)
   ·obtain rfl:lo=k:=by omega
    obtain rfl:hi=lo:=by omega
    have e0:(decide ((hi:Int)<(hi:Int)))=false:=by simp
    simp only [iterC,b192_1,e0,Bool.false_eq_true,if_false,p155,Option.isSome_some,implies_true,if_true]
    by_cases hkl:hi<l.length
    ·have e3:0≤(hi:Int)∧(hi:Int)<(l.length:Int):=rgN hkl
     rw [if_pos (fun _=>e3)]
     exact ⟨_,rfl⟩
    ·have e3:(decide ((hi:Int)<(l.length:Int)))=false:=by simp; omega
     simp only [e3,Bool.false_eq_true,false_implies,if_true]
     exact ⟨_,rfl⟩
 exact key 1000000000 0 l.length (by omega) hk (Nat.le_refl _) (by omega)
def segV (l:List (Int×Int)) (n d:Int) (k:Nat):Int×Int:=
 if l.length=0 then (0,1)
 else if k=0 then ((l.getD 0 default).2,1)
 else if k=l.length then ((l.getD (k - 1) default).2,1)
 else (IntKind.i64.wrap ((IntKind.i64.wrap (((l.getD (k - 1) default).2)*(IntKind.i64.wrap ((IntKind.i64.wrap (((l.getD k default).1) - ((l.getD (k - 1) default).1)))*d))))+(IntKind.i64.wrap ((IntKind.i64.wrap (((l.getD k default).2) - ((l.getD (k - 1) default).2)))*(IntKind.i64.wrap (n - (IntKind.i64.wrap (((l.getD (k - 1) default).1)*d))))))),IntKind.i64.wrap ((IntKind.i64.wrap (((l.getD k default).1) - ((l.getD (k - 1) default).1)))*d))
theorem p123 (l:List (Int×Int)) (n d:Int) (hl:l.length<1000) (k:Nat) (hk:k≤l.length) (h1:∀ i,i<k→ltK l n d i) (h2:∀ i,k≤i→i<l.length→¬ ltK l n d i) :
 r162 l n d=some (segV l n d k):=by
 obtain ⟨b,hb⟩:=p154 l n d hl k hk h1 h2
 unfold r162 segV
 rw [hb,Option.bind_some]
 by_cases h0:l.length=0
 ·have:((l.length:Int) == 0)=true:=by simp [h0]
  rw [if_pos this,if_pos h0]
 ·have:¬ ((l.length:Int) == 0)=true:=by rw [beq_iff_eq]; omega
  rw [if_neg this,if_neg h0]
  simp only
  by_cases hk0:k=0
  ·have:((k:Int) == 0)=true:=by simp [hk0]
   rw [if_pos this,if_pos hk0,if_pos ⟨by omega,by omega⟩]
  ·have:¬ ((k:Int) == 0)=true:=by rw [beq_iff_eq]; omega
   rw [if_neg this,if_neg hk0,wP k (by omega),wPn]
   by_cases hkl:k=l.length
   ·have:((k:Int) == (l.length:Int))=true:=by simp [hkl]
    rw [if_pos this,if_pos hkl,if_pos ⟨by omega,by omega⟩]
   ·have:¬ ((k:Int) == (l.length:Int))=true:=by rw [beq_iff_eq]; omega
    rw [if_neg this,if_neg hkl,if_pos ⟨by omega,by omega⟩,if_pos ⟨by omega,by omega⟩,Int.toNat_natCast]
theorem p131 (l:List (Int×Int)) (n d:Int) (hl:l.length<1000) (k:Nat) (hk:k≤l.length) (h1:∀ i,i<k→ltK l n d i) (h2:k<l.length→¬ ltK l n d k) :
 r152 l n d=some (segV l n d k):=by
 unfold r152
 by_cases h0:l.length=0
 ·have:((l.length:Int) == 0)=true:=by simp [h0]
  rw [if_pos this]; unfold segV; rw [if_pos h0]
 ·have:¬ ((l.length:Int) == 0)=true:=by rw [beq_iff_eq]; omega
  rw [if_neg this]
  refine iter_run k (b152_1 l n d) (fun i=>(i:Int)) _ (by omega) ?_ ?_
  ·intro i hi
   have hp:=h1 i hi
   unfold ltK at hp
   have e:¬ (decide (n≤IntKind.i64.wrap ((l.getD i default).1*d)))=true:=by rw [decide_eq_true_eq]; omega
   simp only [b152_1,ltN (show i<l.length by omega),if_true,if_pos (rgN (show i<l.length by omega)),Int.toNat_natCast,if_neg e,wS i (by omega)]
   rfl
  ·by_cases hkl:k<l.length
   ·have hp:=h2 hkl
    unfold ltK at hp
    have e:(decide (n≤IntKind.i64.wrap ((l.getD k default).1*d)))=true:=decide_eq_true (by omega)
    simp only [b152_1,ltN hkl,if_true,if_pos (rgN hkl),Int.toNat_natCast,e,wP k (by omega),wPn]
    unfold segV
    rw [if_neg h0]
    by_cases hk0:k=0
    ·subst hk0
     rw [if_pos rfl,if_pos (by rfl),if_pos ⟨by omega,by omega⟩]
    ·have:¬ ((k:Int) == 0)=true:=by rw [beq_iff_eq]; omega
     rw [if_neg this,if_neg hk0,if_neg (show ¬ k=l.length by omega),if_pos (rgP hkl (by omega))]
   ·obtain rfl:k=l.length:=by omega
    have e0:(decide ((l.length:Int)<(l.length:Int)))=false:=by simp
    simp only [b152_1,e0,Bool.false_eq_true,if_false,wP l.length (by omega),wPn]
    rw [if_pos ⟨by omega,by omega⟩]
    unfold segV
    rw [if_neg h0,if_neg h0,if_pos rfl]
end Go.Proofs.YtkbdjphdhcgmaaaGreatDoor
namespace Go.Proofs.YtkbdjphdhcgmaaaGreatDoor
open Go.Abs
def dX (l:List (Int×Int)) (i:Nat):Int:=IntKind.i64.wrap ((l.getD i default).1 - (l.getD (i - 1) default).1)
def dY (l:List (Int×Int)) (i:Nat):Int:=IntKind.i64.wrap ((l.getD i default).2 - (l.getD (i - 1) default).2)
def tabF (l:List (Int×Int)) (i:Nat):Option (Int×Int):=
 if (inR (l.getD i default).1 0 1000000 && inR (l.getD i default).2 200 3000)=true then
  if i=0 then none
  else if 0<dX l i∧0<dY l i then (if dY l i≤dX l i then none else some (i,22))
  else some (i,9)
 else some (i,2)
def lawF (l:List (Int×Int)) (i:Nat):Option Int:=
 if (inR (l.getD i default).1 200 3000 && inR (l.getD i default).2 0 1000)=true then
  if i=0 then none
  else if 0<dX l i∧0≤dY l i then (if IntKind.i64.wrap (2*dY l i)≤dX l i then none else some 22)
  else some 9
 else some 2
def lawErrV (l:List (Int×Int)):Int:=if 6<l.length then 8 else (scanN (lawF l) 0 l.length).getD 0
end Go.Proofs.YtkbdjphdhcgmaaaGreatDoor
namespace Go.Proofs.YtkbdjphdhcgmaaaGreatDoor
open Go.Abs
structure SortK (l:List (Int×Int)) (a b:Int):Prop where
 len:l.length<1000
 rng:∀ i,i<l.length→a≤(l.getD i default).1∧(l.getD i default).1≤b
 inc:∀ i,0<i→i<l.length→(l.getD (i - 1) default).1<(l.getD i default).1
theorem SortK.lt {l:List (Int×Int)} {a b:Int} (h:SortK l a b) {i:Nat}:∀ {j:Nat},i<j→j<l.length→(l.getD i default).1<(l.getD j default).1
 | 0,h1,_=>by omega
 | j+1,h1,h2=>by
  have:=h.inc (j+1) (by omega) h2
  rw [Nat.add_sub_cancel] at this
  by_cases hij:i=j
  ·rw [hij]; exact this
  ·have:=h.lt (i:=i) (j:=j) (by omega) (by omega); omega
theorem mul_in {x d:Int} (hx:0≤x) (hx2:x≤1000000) (hd:0<d) (hd2:d≤1000000):IntKind.i64.wrap (x*d)=x*d∧0≤x*d∧x*d≤1000000*1000000:=by
 have a1:0≤x*d:=Int.mul_nonneg hx (by omega)
 have a2:x*d≤1000000*d:=Int.mul_le_mul_of_nonneg_right hx2 (by omega)
 have a3:(1000000:Int)*d≤1000000*1000000:=Int.mul_le_mul_of_nonneg_left hd2 (by omega)
 exact ⟨IntWalk.i64_in _ ⟨by omega,by omega⟩,a1,by omega⟩
theorem ex_seg {l:List (Int×Int)} {a b:Int} (h:SortK l a b) (ha:0≤a) (hb:b≤1000000) (n d:Int) (hd:0<d) (hd2:d≤1000000) :
 ∃ k,k≤l.length∧r162 l n d=some (segV l n d k)∧r152 l n d=some (segV l n d k)∧(∀ i,i<k→(l.getD i default).1*d<n)∧(∀ i,k≤i→i<l.length→n≤(l.getD i default).1*d):=by
 obtain ⟨k,h1,h2,h3⟩:=first_ix (ltK l n d) l.length
 have hw:∀ i,i<l.length→IntKind.i64.wrap ((l.getD i default).1*d)=(l.getD i default).1*d:=fun i hi=>by
  have:=h.rng i hi
  exact (mul_in (by omega) (by omega) hd hd2).1
 have e:∀ i,i<l.length→(ltK l n d i↔(l.getD i default).1*d<n):=fun i hi=>by unfold ltK; rw [hw i hi]
 have h4:∀ i,k≤i→i<l.length→n≤(l.getD i default).1*d:=by
  intro i hi hil
  have h5:=h3 (by omega)
  rw [e k (by omega)] at h5
  by_cases hki:k=i
  ·subst hki; omega
  ·have:=h.lt (i:=k) (j:=i) (by omega) hil
   have:=Int.mul_le_mul_of_nonneg_right (Int.le_of_lt this) (show 0≤d by omega)
   omega
 have h5:∀ i,k≤i→i<l.length→¬ ltK l n d i:=fun i hi hil=>by rw [e i hil]; have:=h4 i hi hil; omega
 exact ⟨k,h1,p123 l n d h.len k h1 h2 h5,p131 l n d h.len k h1 h2 h3,fun i hi=>(e i (by omega)).1 (h2 i hi),h4⟩
structure LawOk (l:List (Int×Int)):Prop where
 len:l.length≤6
 srt:SortK l 200 3000
 yr:∀ i,i<l.length→0≤(l.getD i default).2∧(l.getD i default).2≤1000
 yinc:∀ i,0<i→i<l.length→(l.getD (i - 1) default).2≤(l.getD i default).2∧2*((l.getD i default).2 - (l.getD (i - 1) default).2)≤(l.getD i default).1 - (l.getD (i - 1) default).1
theorem inR_iff {a b c:Int}:inR a b c=true↔b≤a∧a≤c:=by simp [inR]
def cmpAt (l m:List (Int×Int)) (i:Nat):Bool:=
 decide (IntKind.i64.wrap (((r152 l ((l++m).getD i default).1 1).getD default).1*((r152 m ((l++m).getD i default).1 1).getD default).2)<IntKind.i64.wrap (((r152 m ((l++m).getD i default).1 1).getD default).1*((r152 l ((l++m).getD i default).1 1).getD default).2))
def belowV (l m:List (Int×Int)):Bool:=(scanN (fun i=>if cmpAt l m i=true then some true else none) 0 (l.length+m.length)).getD false
end Go.Proofs.YtkbdjphdhcgmaaaGreatDoor
namespace Go.Proofs.YtkbdjphdhcgmaaaGreatDoor
open Go.Abs
def setF (L:List (List (Int×Int))) (i:Nat):Option (Int×Int):=
 if lawErrV (L.getD i default)=0 then (if 0<i∧belowV (L.getD i default) (L.getD (i - 1) default)=true then some ((i:Int),13) else none)
 else some ((i:Int),lawErrV (L.getD i default))
def setupErrV (a b:Int) (T:List (Int×Int)) (L:List (List (Int×Int))):Int×Int:=
 if (inR a 1 12 && inR b 0 500)=true then
  if T.length<2 then (0,10) else if 8<T.length then (0,8)
  else match scanN (tabF T) 0 T.length with
   | some v=>v
   | none=>if 4<L.length then (0,8) else (scanN (setF L) 0 L.length).getD (0,0)
 else (0,2)
structure SetOk (a b:Int) (T:List (Int×Int)) (L:List (List (Int×Int))):Prop where
 cells:1≤a∧a≤12
 mix:0≤b∧b≤500
 tlen:2≤T.length∧T.length≤8
 srt:SortK T 0 1000000
 yr:∀ i,i<T.length→200≤(T.getD i default).2∧(T.getD i default).2≤3000
 yinc:∀ i,0<i→i<T.length→(T.getD (i - 1) default).2<(T.getD i default).2∧(T.getD i default).2 - (T.getD (i - 1) default).2≤(T.getD i default).1 - (T.getD (i - 1) default).1
 llen:L.length≤4
 laws:∀ i,i<L.length→LawOk (L.getD i default)
 below:∀ i,0<i→i<L.length→belowV (L.getD i default) (L.getD (i - 1) default)=false
end Go.Proofs.YtkbdjphdhcgmaaaGreatDoor
namespace Go.Proofs.YtkbdjphdhcgmaaaGreatDoor
open Go.Abs
def inT (T:List (Int×Int)) (e:Int):Bool:=inR e (T.getD 0 default).1 (T.getD (T.length - 1) default).1
def stF (T:List (Int×Int)) (s:List Int) (i:Nat):Option (Int×Int):=if inT T (s.getD i default)=true then none else some ((i:Int),2)
def stateErrV (a:Int) (T:List (Int×Int)) (s:List Int):Int×Int:=if (s.length:Int)=a then (scanN (stF T s) 0 s.length).getD (0,0) else (0,10)
end Go.Proofs.YtkbdjphdhcgmaaaGreatDoor

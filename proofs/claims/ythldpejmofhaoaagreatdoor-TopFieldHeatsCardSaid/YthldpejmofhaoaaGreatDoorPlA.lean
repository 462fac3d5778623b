/- Piecewise linear functions over the rationals: monotone, Lipschitz, compared at knots. -/
import Init
import Derived.Test.YthldpejmofhaoaaGreatDoorF02
import Derived.Test.YthldpejmofhaoaaGreatDoorF05
import Derived.Test.YthldpejmofhaoaaGreatDoorF07
import Derived.Test.YthldpejmofhaoaaGreatDoorAbsC
import Derived.Test.YthldpejmofhaoaaGreatDoorF03
import Derived.Test.YthldpejmofhaoaaGreatDoorF06
import Derived.Test.YthldpejmofhaoaaGreatDoorF10
import Derived.Test.YthldpejmofhaoaaGreatDoorF04
import Derived.Test.YthldpejmofhaoaaGreatDoorF08
import Derived.Test.YthldpejmofhaoaaGreatDoorF09
set_option linter.unusedVariables false
set_option linter.unusedSimpArgs false
namespace Go.Proofs.YthldpejmofhaoaaGreatDoor
def pl:List (Int×Int)→Rat→Rat
 | [],_=>0
 | [p],_=>(p.2:Rat)
 | p::q::r,x=>if x≤(p.1:Rat) then (p.2:Rat) else if x≤(q.1:Rat) then (p.2:Rat)+((q.2:Rat) - p.2) / ((q.1:Rat) - p.1)*(x - p.1) else pl (q::r) x
def valK (l:List (Int×Int)) (x:Rat) (k:Nat):Rat:=
 if l.length=0 then 0
 else if k=0 then ((l.getD 0 default).2:Rat)
 else if k=l.length then ((l.getD (k - 1) default).2:Rat)
 else ((l.getD (k - 1) default).2:Rat)+(((l.getD k default).2:Rat) - (l.getD (k - 1) default).2) / (((l.getD k default).1:Rat) - (l.getD (k - 1) default).1)*(x - (l.getD (k - 1) default).1)
theorem pl_val:∀ (l:List (Int×Int)) (x:Rat) (k:Nat),k≤l.length→(∀ i,i<k→((l.getD i default).1:Rat)<x)→(∀ i,k≤i→i<l.length→x≤((l.getD i default).1:Rat))→pl l x=valK l x k
 | [],x,k,h,h1,h2=>by simp [pl,valK]
 | [p],x,k,h,h1,h2=>by
  unfold pl valK
  simp only [List.length_cons,List.length_nil] at h ⊢
  by_cases hk:k=0
  ·simp [hk]
  ·have:k=1:=by omega
   simp [this]
 | p::q::r,x,k,h,h1,h2=>by
  unfold pl
  by_cases hk:k=0
  ·subst hk
   have:x≤(p.1:Rat):=h2 0 (by omega) (by simp)
   rw [if_pos this]; simp [valK]
  ·have a1:(p.1:Rat)<x:=h1 0 (by omega)
   rw [if_neg (Rat.not_le.2 a1)]
   by_cases hk1:k=1
   ·subst hk1
    have:x≤(q.1:Rat):=h2 1 (by omega) (by simp)
    rw [if_pos this]; simp [valK]
   ·have a2:(q.1:Rat)<x:=h1 1 (by omega)
    rw [if_neg (Rat.not_le.2 a2)]
    obtain ⟨m,rfl⟩:∃ m,k=m+2:=⟨k - 2,by omega⟩
    rw [pl_val (q::r) x (m+1) (by simp at h ⊢; omega) (fun i hi=>h1 (i+1) (by omega)) (fun i hi hl=>h2 (i+1) (by omega) (by simp at hl ⊢; omega))]
    unfold valK
    simp [Nat.add_right_cancel_iff]
def Asc (c:Rat):List (Int×Int)→Prop
 | p::q::r=>p.1<q.1∧p.2≤q.2∧(q.2:Rat) - p.2≤c*((q.1:Rat) - p.1)∧Asc c (q::r)
 | _=>True
theorem pl_lo (p:Int×Int) (r:List (Int×Int)) (x:Rat) (h:x≤(p.1:Rat)):pl (p::r) x=(p.2:Rat):=by
 cases r with
 | nil=>rfl
 | cons q r=>unfold pl; rw [if_pos h]
theorem slope {c x0 x1 y0 y1:Rat} (hx:x0<x1) (h0:y0≤y1) (h1:y1 - y0≤c*(x1 - x0)):0≤(y1 - y0) / (x1 - x0)∧(y1 - y0) / (x1 - x0)≤c∧(y1 - y0) / (x1 - x0)*(x1 - x0)=y1 - y0:=by
 have hd:0<x1 - x0:=by grind
 have e:(y1 - y0) / (x1 - x0)*(x1 - x0)=y1 - y0:=Rat.div_mul_cancel (by grind)
 refine ⟨?_,?_,e⟩
 ·refine Rat.le_of_mul_le_mul_right (c:=x1 - x0) ?_ hd
  grind
 ·refine Rat.le_of_mul_le_mul_right (c:=x1 - x0) ?_ hd
  grind
theorem lip {c:Rat} (hc:0≤c):∀ (l:List (Int×Int)) (x y:Rat),Asc c l→x≤y→0≤pl l y - pl l x∧pl l y - pl l x≤c*(y - x)
 | [],x,y,_,h=>by
  have:=Rat.mul_nonneg hc (show 0≤y - x by grind)
  simp only [pl]; grind
 | [p],x,y,_,h=>by
  have:=Rat.mul_nonneg hc (show 0≤y - x by grind)
  simp only [pl]; grind
 | p::q::r,x,y,⟨a1,a2,a3,a4⟩,h=>by
  have b1:(p.1:Rat)<q.1:=Rat.intCast_lt_intCast.2 a1
  have b2:(p.2:Rat)≤q.2:=Rat.intCast_le_intCast.2 a2
  obtain ⟨s0,s1,s2⟩:=slope b1 b2 a3
  generalize hs:((q.2:Rat) - p.2) / ((q.1:Rat) - p.1)=s at s0 s1 s2
  have hcxy:=Rat.mul_nonneg hc (show 0≤y - x by grind)
  unfold pl
  rw [hs]
  by_cases y1:y≤(p.1:Rat)
  ·rw [if_pos y1,if_pos (Rat.le_trans h y1)]; grind
  ·rw [if_neg y1]
   have y1':=Rat.not_le.1 y1
   by_cases y2:y≤(q.1:Rat)
   ·rw [if_pos y2]
    by_cases x1:x≤(p.1:Rat)
    ·rw [if_pos x1]
     have e1:=Rat.mul_nonneg s0 (show 0≤y - p.1 by grind)
     have e2:=Rat.mul_nonneg (show 0≤c - s by grind) (show 0≤y - p.1 by grind)
     have e3:=Rat.mul_nonneg hc (show 0≤(p.1:Rat) - x by grind)
     grind
    ·rw [if_neg x1,if_pos (Rat.le_trans h y2)]
     have e1:=Rat.mul_nonneg s0 (show 0≤y - x by grind)
     have e2:=Rat.mul_nonneg (show 0≤c - s by grind) (show 0≤y - x by grind)
     grind
   ·rw [if_neg y2]
    have y2':=Rat.not_le.1 y2
    by_cases x2:x≤(q.1:Rat)
    ·obtain ⟨i1,i2⟩:=lip hc (q::r) q.1 y a4 (Rat.le_of_lt y2')
     rw [pl_lo q r q.1 Rat.le_refl] at i1 i2
     by_cases x1:x≤(p.1:Rat)
     ·rw [if_pos x1]
      have e3:=Rat.mul_nonneg hc (show 0≤(p.1:Rat) - x by grind)
      grind
     ·rw [if_neg x1,if_pos x2]
      have e1:=Rat.mul_nonneg s0 (show 0≤q.1 - x by grind)
      have e2:=Rat.mul_nonneg (show 0≤c - s by grind) (show 0≤q.1 - x by grind)
      grind
    ·rw [if_neg x2,if_neg (show ¬ x≤(p.1:Rat) by have:=Rat.not_le.1 x2; grind)]
     exact lip hc (q::r) x y a4 h
theorem pl_rng {c:Rat} {u v:Int}:∀ (l:List (Int×Int)) (x:Rat),Asc c l→(∀ p∈l,u≤p.2∧p.2≤v)→l≠[]→(u:Rat)≤pl l x∧pl l x≤v
 | [],x,_,_,h=>absurd rfl h
 | [p],x,_,h,_=>by
  obtain ⟨h1,h2⟩:=h p (by simp)
  exact ⟨Rat.intCast_le_intCast.2 h1,Rat.intCast_le_intCast.2 h2⟩
 | p::q::r,x,⟨a1,a2,a3,a4⟩,h,_=>by
  have b1:(p.1:Rat)<q.1:=Rat.intCast_lt_intCast.2 a1
  have b2:(p.2:Rat)≤q.2:=Rat.intCast_le_intCast.2 a2
  obtain ⟨s0,s1,s2⟩:=slope b1 b2 a3
  generalize hs:((q.2:Rat) - p.2) / ((q.1:Rat) - p.1)=s at s0 s1 s2
  have hp:=h p (by simp)
  have hq:=h q (by simp)
  have hp1:(u:Rat)≤p.2:=Rat.intCast_le_intCast.2 hp.1
  have hp2:(p.2:Rat)≤v:=Rat.intCast_le_intCast.2 hp.2
  have hq2:(q.2:Rat)≤v:=Rat.intCast_le_intCast.2 hq.2
  unfold pl
  rw [hs]
  by_cases x1:x≤(p.1:Rat)
  ·rw [if_pos x1]; exact ⟨hp1,hp2⟩
  ·rw [if_neg x1]
   have x1':=Rat.not_le.1 x1
   by_cases x2:x≤(q.1:Rat)
   ·rw [if_pos x2]
    have e1:=Rat.mul_nonneg s0 (show 0≤x - p.1 by grind)
    have e2:=Rat.mul_nonneg s0 (show 0≤q.1 - x by grind)
    grind
   ·rw [if_neg x2]
    exact pl_rng (q::r) x a4 (fun p' hp'=>h p' (List.mem_cons_of_mem _ hp')) (by simp)
end Go.Proofs.YthldpejmofhaoaaGreatDoor
namespace Go.Proofs.YthldpejmofhaoaaGreatDoor
structure Piece (l:List (Int×Int)) (x s:Rat) (lo hi:Option Rat):Prop where
 lox:∀ v,lo=some v→v≤x∧∃ p∈l,(p.1:Rat)=v
 hix:∀ v,hi=some v→x≤v∧∃ p∈l,(p.1:Rat)=v
 lin:∀ z,(∀ v,lo=some v→v≤z)→(∀ v,hi=some v→z≤v)→pl l z=pl l x+s*(z - x)
 lo0:lo=none→s=0
 hi0:hi=none→s=0
 any:l≠[]→lo≠none∨hi≠none
 head:∀ p r,l=p::r→(p.1:Rat)<x→∃ v,lo=some v∧(p.1:Rat)≤v
theorem piece {c:Rat}:∀ (l:List (Int×Int)) (x:Rat),Asc c l→∃ s lo hi,Piece l x s lo hi
 | [],x,_=>⟨0,none,none,by simp,by simp,fun z _ _=>by simp only [pl]; grind,fun _=>rfl,fun _=>rfl,fun h=>absurd rfl h,fun p r h=>by cases h⟩
 | [p],x,_=>by
  by_cases h:x≤(p.1:Rat)
  ·exact ⟨0,none,some p.1,by simp,fun v hv=>by cases hv; exact ⟨h,p,by simp,rfl⟩,fun z _ _=>by simp only [pl]; grind,fun _=>rfl,fun _=>rfl,fun _=>by simp,fun p' r hp hlt=>by cases hp; exact absurd h (Rat.not_le.2 hlt)⟩
  ·have h':=Rat.not_le.1 h
   exact ⟨0,some p.1,none,fun v hv=>by cases hv; exact ⟨Rat.le_of_lt h',p,by simp,rfl⟩,by simp,fun z _ _=>by simp only [pl]; grind,fun _=>rfl,fun _=>rfl,fun _=>by simp,fun p' r hp hlt=>by cases hp; exact ⟨_,rfl,Rat.le_refl⟩⟩
 | p::q::r,x,⟨a1,a2,a3,a4⟩=>by
  have b1:(p.1:Rat)<q.1:=Rat.intCast_lt_intCast.2 a1
  have b2:(p.2:Rat)≤q.2:=Rat.intCast_le_intCast.2 a2
  by_cases x1:x≤(p.1:Rat)
  ·refine ⟨0,none,some p.1,by simp,fun v hv=>by cases hv; exact ⟨x1,p,by simp,rfl⟩,fun z _ hz=> ?_,fun _=>rfl,fun _=>rfl,fun _=>by simp,fun p' r hp hlt=>by cases hp; exact absurd x1 (Rat.not_le.2 hlt)⟩
   rw [pl_lo p _ z (hz _ rfl),pl_lo p _ x x1]; grind
  ·have x1':=Rat.not_le.1 x1
   by_cases x2:x≤(q.1:Rat)
   ·obtain ⟨s0,s1,s2⟩:=slope b1 b2 a3
    refine ⟨((q.2:Rat) - p.2) / ((q.1:Rat) - p.1),some p.1,some q.1,fun v hv=>by cases hv; exact ⟨Rat.le_of_lt x1',p,by simp,rfl⟩,fun v hv=>by cases hv; exact ⟨x2,q,by simp,rfl⟩,fun z hz1 hz2=> ?_,by simp,by simp,fun _=>by simp,fun p' r hp hlt=>by cases hp; exact ⟨_,rfl,Rat.le_refl⟩⟩
    have z1:=hz1 _ rfl
    have z2:=hz2 _ rfl
    generalize hs:((q.2:Rat) - p.2) / ((q.1:Rat) - p.1)=s at s0 s1 s2 ⊢
    have ex:pl (p::q::r) x=p.2+s*(x - p.1):=by unfold pl; rw [if_neg x1,if_pos x2,hs]
    have ez:pl (p::q::r) z=p.2+s*(z - p.1):=by
     by_cases hz:z≤(p.1:Rat)
     ·rw [pl_lo _ _ _ hz]
      have:z=(p.1:Rat):=Rat.le_antisymm hz z1
      rw [this]; grind
     ·unfold pl; rw [if_neg hz,if_pos z2,hs]
    rw [ex,ez]; grind
   ·have x2':=Rat.not_le.1 x2
    obtain ⟨s,lo,hi,P⟩:=piece (q::r) x a4
    obtain ⟨v,hv,hqv⟩:=P.head q r rfl x2'
    have ex:pl (p::q::r) x=pl (q::r) x:=by
     conv=>lhs; unfold pl
     rw [if_neg x1,if_neg x2]
    refine ⟨s,lo,hi,fun w hw=> ?_,fun w hw=> ?_,fun z hz1 hz2=> ?_,P.lo0,P.hi0,fun _=>P.any (by simp),fun p' r' hp hlt=> ?_⟩
    ·obtain ⟨h1,p',h2,h3⟩:=P.lox w hw
     exact ⟨h1,p',List.mem_cons_of_mem _ h2,h3⟩
    ·obtain ⟨h1,p',h2,h3⟩:=P.hix w hw
     exact ⟨h1,p',List.mem_cons_of_mem _ h2,h3⟩
    ·have hz:=hz1 v hv
     have:=P.lin z hz1 hz2
     rw [ex, ← this]
     by_cases hzq:z≤(q.1:Rat)
     ·have hzq':z=(q.1:Rat):=Rat.le_antisymm hzq (Rat.le_trans hqv hz)
      rw [hzq',pl_lo q r _ Rat.le_refl]
      obtain ⟨s0,s1,s2⟩:=slope b1 b2 a3
      unfold pl
      rw [if_neg (Rat.not_le.2 b1),if_pos Rat.le_refl,s2]; grind
     ·conv=>lhs; unfold pl
      rw [if_neg (show ¬ z≤(p.1:Rat) by have:=Rat.not_le.1 hzq; grind),if_neg hzq]
    ·cases hp
     exact ⟨v,hv,Rat.le_trans (Rat.le_of_lt b1) hqv⟩
theorem order {c d:Rat} {l m:List (Int×Int)} (hl:Asc c l) (hm:Asc d m) (h:∀ p∈l++m,pl l (p.1:Rat)≤pl m (p.1:Rat)) (x:Rat):pl l x≤pl m x:=by
 obtain ⟨s,lo,hi,P⟩:=piece l x hl
 obtain ⟨t,lo2,hi2,Q⟩:=piece m x hm
 have A:(s=0∧t=0)∧(lo=none∧lo2=none)∨∃ p,p≤x∧pl l p≤pl m p∧pl l p=pl l x+s*(p - x)∧pl m p=pl m x+t*(p - x):=by
  have key:∀ p:Rat,p≤x→(∃ k∈l++m,(k.1:Rat)=p)→(∀ v,lo=some v→v≤p)→(∀ v,lo2=some v→v≤p)→pl l p≤pl m p∧pl l p=pl l x+s*(p - x)∧pl m p=pl m x+t*(p - x):=by
   intro p hp ⟨k,hk,hkp⟩ h1 h2
   exact ⟨hkp▸h k hk,P.lin p h1 (fun v hv=>Rat.le_trans hp (P.hix v hv).1),Q.lin p h2 (fun v hv=>Rat.le_trans hp (Q.hix v hv).1)⟩
  have mem1:∀ v,lo=some v→∃ k∈l++m,(k.1:Rat)=v:=fun v hv=>by
   obtain ⟨_,k,hk,e⟩:=P.lox v hv; exact ⟨k,List.mem_append_left _ hk,e⟩
  have mem2:∀ v,lo2=some v→∃ k∈l++m,(k.1:Rat)=v:=fun v hv=>by
   obtain ⟨_,k,hk,e⟩:=Q.lox v hv; exact ⟨k,List.mem_append_right _ hk,e⟩
  cases h1:lo with
  | none=>
   cases h2:lo2 with
   | none=>exact Or.inl ⟨⟨P.lo0 h1,Q.lo0 h2⟩,rfl,rfl⟩
   | some v=>exact Or.inr ⟨v,(Q.lox v h2).1,key v (Q.lox v h2).1 (mem2 v h2) (by simp [h1]) (by simp [h2])⟩
  | some u=>
   cases h2:lo2 with
   | none=>exact Or.inr ⟨u,(P.lox u h1).1,key u (P.lox u h1).1 (mem1 u h1) (by simp [h1]) (by simp [h2])⟩
   | some v=>
    rcases Rat.le_total (a:=u) (b:=v) with huv | huv
    ·exact Or.inr ⟨v,(Q.lox v h2).1,key v (Q.lox v h2).1 (mem2 v h2) (by simp [h1,huv]) (by simp [h2])⟩
    ·exact Or.inr ⟨u,(P.lox u h1).1,key u (P.lox u h1).1 (mem1 u h1) (by simp [h1]) (by simp [h2,huv])⟩
 have B:(s=0∧t=0)∧(hi=none∧hi2=none)∨∃ p,x≤p∧pl l p≤pl m p∧pl l p=pl l x+s*(p - x)∧pl m p=pl m x+t*(p - x):=by
  have key:∀ p:Rat,x≤p→(∃ k∈l++m,(k.1:Rat)=p)→(∀ v,hi=some v→p≤v)→(∀ v,hi2=some v→p≤v)→pl l p≤pl m p∧pl l p=pl l x+s*(p - x)∧pl m p=pl m x+t*(p - x):=by
   intro p hp ⟨k,hk,hkp⟩ h1 h2
   exact ⟨hkp▸h k hk,P.lin p (fun v hv=>Rat.le_trans (P.lox v hv).1 hp) h1,Q.lin p (fun v hv=>Rat.le_trans (Q.lox v hv).1 hp) h2⟩
  have mem1:∀ v,hi=some v→∃ k∈l++m,(k.1:Rat)=v:=fun v hv=>by
   obtain ⟨_,k,hk,e⟩:=P.hix v hv; exact ⟨k,List.mem_append_left _ hk,e⟩
  have mem2:∀ v,hi2=some v→∃ k∈l++m,(k.1:Rat)=v:=fun v hv=>by
   obtain ⟨_,k,hk,e⟩:=Q.hix v hv; exact ⟨k,List.mem_append_right _ hk,e⟩
  cases h1:hi with
  | none=>
   cases h2:hi2 with
   | none=>exact Or.inl ⟨⟨P.hi0 h1,Q.hi0 h2⟩,rfl,rfl⟩
   | some v=>exact Or.inr ⟨v,(Q.hix v h2).1,key v (Q.hix v h2).1 (mem2 v h2) (by simp [h1]) (by simp [h2])⟩
  | some u=>
   cases h2:hi2 with
   | none=>exact Or.inr ⟨u,(P.hix u h1).1,key u (P.hix u h1).1 (mem1 u h1) (by simp [h1]) (by simp [h2])⟩
   | some v=>
    rcases Rat.le_total (a:=u) (b:=v) with huv | huv
    ·exact Or.inr ⟨u,(P.hix u h1).1,key u (P.hix u h1).1 (mem1 u h1) (by simp [h1]) (by simp [h2,huv])⟩
    ·exact Or.inr ⟨v,(Q.hix v h2).1,key v (Q.hix v h2).1 (mem2 v h2) (by simp [h1,huv]) (by simp [h2])⟩
 rcases A with ⟨⟨a1,a2⟩,a3,a4⟩ | ⟨p,p1,p2,p3,p4⟩
 ·rcases B with ⟨⟨b1,b2⟩,b3,b4⟩ | ⟨w,w1,w2,w3,w4⟩
  ·have hl0:l=[]:=by
    cases l with
    | nil=>rfl
    | cons k r=>rcases P.any (by simp) with hh | hh<;>contradiction
   have hm0:m=[]:=by
    cases m with
    | nil=>rfl
    | cons k r=>rcases Q.any (by simp) with hh | hh<;>contradiction
   subst hl0; subst hm0; exact Rat.le_refl
  ·subst a1; subst a2; grind
 ·rcases B with ⟨⟨b1,b2⟩,b3,b4⟩ | ⟨w,w1,w2,w3,w4⟩
  ·subst b1; subst b2; grind
  ·rcases Rat.le_total (a:=s) (b:=t) with hst | hst
   ·have e:=Rat.mul_nonneg (show 0≤t - s by grind) (show 0≤x - p by grind)
    grind
   ·have e:=Rat.mul_nonneg (show 0≤s - t by grind) (show 0≤w - x by grind)
    grind
theorem ediv_floor {P Q:Int} {v:Rat} (hQ:0<Q) (h:(P:Rat)=v*Q):P / Q=v.floor:=by
 have q0:(0:Rat)<Q:=Rat.intCast_pos.2 hQ
 have a1:∀ x:Int,x≤P / Q↔x≤v.floor:=by
  intro x
  rw [Rat.le_floor_iff,Int.le_ediv_iff_mul_le hQ, ← Rat.intCast_le_intCast,Rat.intCast_mul,h]
  constructor
  ·intro hx; exact Rat.le_of_mul_le_mul_right hx q0
  ·intro hx; exact Rat.mul_le_mul_of_nonneg_right hx (Rat.le_of_lt q0)
 exact Int.le_antisymm ((a1 _).1 (Int.le_refl _)) ((a1 _).2 (Int.le_refl _))
end Go.Proofs.YthldpejmofhaoaaGreatDoor
namespace Go.Proofs.YthldpejmofhaoaaGreatDoor
def qS (b:Int) (T:List (Int×Int)) (x y:Int):Int:=((b:Rat) / 1000*(pl T x - pl T y)).floor
def lossS (T law:List (Int×Int)) (e:Int):Int:=(pl law (pl T e)).floor
def mixL (b:Int) (T:List (Int×Int)):List Int→List Int
 | x::y::r=>(x - qS b T x y)::(y+qS b T x y)::mixL b T r
 | l=>l
def mixR (b:Int) (T:List (Int×Int)):List Int→List Int
 | x::r=>x::mixL b T r
 | []=>[]
def mixS (b:Int) (T:List (Int×Int)) (l:List Int):List Int:=mixR b T (mixL b T l)
def addL:List Int→List Int→List Int
 | x::l,y::m=>(x+y)::addL l m
 | l,_=>l
def subH (n:Int):List Int→List Int
 | x::l=>(x - n)::l
 | []=>[]
def hd (l:List Int):Int:=l.getD 0 default
def outS (b:Int) (T law:List (Int×Int)) (l p:List Int):List Int:=addL (subH (lossS T law (hd (mixS b T l))) (mixS b T l)) p
def leL:List Int→List Int→Prop
 | x::l,y::m=>x≤y∧leL l m
 | [],[]=>True
 | _,_=>False
def sumL:List Int→Int
 | x::l=>x+sumL l
 | []=>0
theorem mixL_len (b T):∀ l:List Int,(mixL b T l).length=l.length
 | []=>rfl
 | [x]=>rfl
 | x::y::r=>by simp [mixL,mixL_len b T r]
theorem mixR_len (b T):∀ l:List Int,(mixR b T l).length=l.length
 | []=>rfl
 | x::r=>by simp [mixR,mixL_len b T r]
theorem mixS_len (b T l):(mixS b T l).length=l.length:=by unfold mixS; rw [mixR_len,mixL_len]
theorem subH_len (n):∀ l:List Int,(subH n l).length=l.length
 | []=>rfl
 | x::r=>by simp [subH]
theorem addL_len:∀ l p:List Int,(addL l p).length=l.length
 | [],_=>rfl
 | x::r,[]=>rfl
 | x::r,y::m=>by simp [addL,addL_len r m]
theorem outS_len (b T law l p):(outS b T law l p).length=l.length:=by unfold outS; rw [addL_len,subH_len,mixS_len]
theorem mixL_sum (b T):∀ l:List Int,sumL (mixL b T l)=sumL l
 | []=>rfl
 | [x]=>rfl
 | x::y::r=>by simp only [mixL,sumL,mixL_sum b T r]; omega
theorem mixS_sum (b T) (l:List Int):sumL (mixS b T l)=sumL l:=by
 rw [← mixL_sum b T l]; unfold mixS
 cases mixL b T l with
 | nil=>rfl
 | cons x r=>simp only [mixR,sumL,mixL_sum]
theorem subH_sum (n:Int):∀ l:List Int,l≠[]→sumL (subH n l)=sumL l - n
 | [],h=>absurd rfl h
 | x::r,_=>by simp only [subH,sumL]; omega
theorem addL_sum:∀ l p:List Int,l.length=p.length→sumL (addL l p)=sumL l+sumL p
 | [],[],_=>rfl
 | [],y::m,h=>by simp at h
 | x::r,[],h=>by simp at h
 | x::r,y::m,h=>by
  have:=addL_sum r m (by simpa using h)
  simp only [addL,sumL,this]; omega
theorem outS_sum (b T law l p) (h:l.length=p.length) (h0:l≠[]):sumL (outS b T law l p)=sumL l+sumL p - lossS T law (hd (mixS b T l)):=by
 unfold outS
 have hl:=mixS_len b T l
 rw [addL_sum _ _ (by rw [subH_len,mixS_len]; exact h),subH_sum _ _ (by intro hn; rw [hn] at hl; exact h0 (List.length_eq_zero_iff.1 hl.symm)),mixS_sum]
 omega
theorem m_rng {b:Int} {T:List (Int×Int)} (hb:0≤b∧b≤500) (hT:Asc 1 T):0≤(b:Rat) / 1000∧(b:Rat) / 1000≤1 / 2:=by
 have h1:(0:Rat)≤b:=Rat.intCast_nonneg.2 hb.1
 have h2:(b:Rat)≤500:=by have:=Rat.intCast_le_intCast.2 hb.2; simpa using this
 grind
theorem q_pos {b:Int} {T:List (Int×Int)} (hb:0≤b∧b≤500) (hT:Asc 1 T) {x y:Int} (h:y≤x):0≤qS b T x y∧qS b T x y≤x - y:=by
 have hxy:(y:Rat)≤x:=Rat.intCast_le_intCast.2 h
 obtain ⟨l1,l2⟩:=lip (c:=1) (by decide) T y x hT hxy
 obtain ⟨m1,m2⟩:=m_rng hb hT
 unfold qS
 generalize (b:Rat) / 1000=m at*
 generalize pl T x=tx at*
 generalize pl T y=ty at*
 have e1:=Rat.mul_nonneg m1 l1
 have e2:=Rat.mul_nonneg (show 0≤1 - m by grind) l1
 constructor
 ·rw [Rat.le_floor_iff]; simpa using e1
 ·have h3:=Rat.floor_le (m*(tx - ty))
  rw [← Rat.intCast_le_intCast,Rat.intCast_sub]
  grind
theorem q_neg {b:Int} {T:List (Int×Int)} (hb:0≤b∧b≤500) (hT:Asc 1 T) {x y:Int} (h:x≤y):x - y≤qS b T x y∧qS b T x y≤0:=by
 have hxy:(x:Rat)≤y:=Rat.intCast_le_intCast.2 h
 obtain ⟨l1,l2⟩:=lip (c:=1) (by decide) T x y hT hxy
 obtain ⟨m1,m2⟩:=m_rng hb hT
 unfold qS
 generalize (b:Rat) / 1000=m at*
 generalize pl T x=tx at*
 generalize pl T y=ty at*
 have e1:=Rat.mul_nonneg m1 l1
 have e2:=Rat.mul_nonneg (show 0≤1 - m by grind) l1
 constructor
 ·rw [Rat.le_floor_iff,Rat.intCast_sub]; grind
 ·have h3:=Rat.floor_le (m*(tx - ty))
  rw [← Rat.intCast_le_intCast]
  have:((0:Int):Rat)=0:=rfl
  grind
theorem q_in {b:Int} {T:List (Int×Int)} (hb:0≤b∧b≤500) (hT:Asc 1 T) {x y u v:Int} (hx:u≤x∧x≤v) (hy:u≤y∧y≤v):(u≤x - qS b T x y∧x - qS b T x y≤v)∧(u≤y+qS b T x y∧y+qS b T x y≤v):=by
 rcases Int.le_total x y with h | h
 ·have:=q_neg hb hT h; omega
 ·have:=q_pos hb hT h; omega
theorem q_mono {b:Int} {T:List (Int×Int)} (hb:0≤b∧b≤500) (hT:Asc 1 T) {x y x' y':Int} (hx:x≤x') (hy:y≤y'):x - qS b T x y≤x' - qS b T x' y'∧y+qS b T x y≤y'+qS b T x' y':=by
 have hx':(x:Rat)≤x':=Rat.intCast_le_intCast.2 hx
 have hy':(y:Rat)≤y':=Rat.intCast_le_intCast.2 hy
 obtain ⟨l1,l2⟩:=lip (c:=1) (by decide) T x x' hT hx'
 obtain ⟨l3,l4⟩:=lip (c:=1) (by decide) T y y' hT hy'
 obtain ⟨m1,m2⟩:=m_rng hb hT
 unfold qS
 generalize (b:Rat) / 1000=m at*
 generalize pl T x=tx at*
 generalize pl T y=ty at*
 generalize pl T x'=tx' at*
 generalize pl T y'=ty' at*
 have e1:=Rat.mul_nonneg m1 l1
 have e2:=Rat.mul_nonneg (show 0≤1 - m by grind) l1
 have e3:=Rat.mul_nonneg m1 l3
 have e4:=Rat.mul_nonneg (show 0≤1 - m by grind) l3
 have f1:(m*(tx' - ty')).floor≤(m*(tx - ty)).floor+(x' - x):=by
  rw [← Rat.floor_add_intCast]
  refine Rat.floor_monotone ?_
  rw [Rat.intCast_sub]; grind
 have f2:(m*(tx - ty)).floor≤(m*(tx' - ty')).floor+(y' - y):=by
  rw [← Rat.floor_add_intCast]
  refine Rat.floor_monotone ?_
  rw [Rat.intCast_sub]; grind
 omega
theorem mixL_in {b:Int} {T:List (Int×Int)} (hb:0≤b∧b≤500) (hT:Asc 1 T) {u v:Int}:∀ l:List Int,(∀ x∈l,u≤x∧x≤v)→∀ x∈mixL b T l,u≤x∧x≤v
 | [],h=>h
 | [x],h=>h
 | x::y::r,h=>by
  have:=q_in hb hT (h x (by simp)) (h y (by simp))
  intro z hz
  simp only [mixL,List.mem_cons] at hz
  rcases hz with rfl | rfl | hz
  ·exact this.1
  ·exact this.2
  ·exact mixL_in hb hT r (fun w hw=>h w (by simp [hw])) z hz
theorem mixR_in {b:Int} {T:List (Int×Int)} (hb:0≤b∧b≤500) (hT:Asc 1 T) {u v:Int}:∀ l:List Int,(∀ x∈l,u≤x∧x≤v)→∀ x∈mixR b T l,u≤x∧x≤v
 | [],h=>h
 | x::r,h=>by
  intro z hz
  simp only [mixR,List.mem_cons] at hz
  rcases hz with rfl | hz
  ·exact h _ (by simp)
  ·exact mixL_in hb hT r (fun w hw=>h w (by simp [hw])) z hz
theorem mixS_in {b:Int} {T:List (Int×Int)} (hb:0≤b∧b≤500) (hT:Asc 1 T) {u v:Int} (l:List Int) (h:∀ x∈l,u≤x∧x≤v):∀ x∈mixS b T l,u≤x∧x≤v:=mixR_in hb hT _ (mixL_in hb hT l h)
theorem mixL_mono {b:Int} {T:List (Int×Int)} (hb:0≤b∧b≤500) (hT:Asc 1 T):∀ l m:List Int,leL l m→leL (mixL b T l) (mixL b T m)
 | [],[],_=>trivial
 | [],_::_,h=>h.elim
 | [x],[y],h=>h
 | [x],y::_::_,h=>h.2.elim
 | x::_::_,[y],h=>h.2.elim
 | x::y::r,[],h=>h.elim
 | [x],[],h=>h.elim
 | x::y::r,x'::y'::r',⟨h1,h2,h3⟩=>by
  have:=q_mono hb hT h1 h2
  exact ⟨this.1,this.2,mixL_mono hb hT r r' h3⟩
theorem mixR_mono {b:Int} {T:List (Int×Int)} (hb:0≤b∧b≤500) (hT:Asc 1 T):∀ l m:List Int,leL l m→leL (mixR b T l) (mixR b T m)
 | [],[],_=>trivial
 | [],_::_,h=>h.elim
 | _::_,[],h=>h.elim
 | x::r,y::r',⟨h1,h2⟩=>⟨h1,mixL_mono hb hT r r' h2⟩
theorem mixS_mono {b:Int} {T:List (Int×Int)} (hb:0≤b∧b≤500) (hT:Asc 1 T) (l m:List Int) (h:leL l m):leL (mixS b T l) (mixS b T m):=mixR_mono hb hT _ _ (mixL_mono hb hT l m h)
theorem addL_mono:∀ l m p q:List Int,leL l m→leL p q→leL (addL l p) (addL m q)
 | [],[],_,_,_,_=>trivial
 | [],_::_,_,_,h,_=>h.elim
 | _::_,[],_,_,h,_=>h.elim
 | x::l,y::m,[],[],h,_=>h
 | x::l,y::m,[],_::_,_,h=>h.elim
 | x::l,y::m,_::_,[],_,h=>h.elim
 | x::l,y::m,z::p,w::q,⟨h1,h2⟩,⟨h3,h4⟩=>⟨Int.add_le_add h1 h3,addL_mono l m p q h2 h4⟩
theorem loss_mono {T law law':List (Int×Int)} (hT:Asc 1 T) (hl:Asc (1 / 2) law) (ho:∀ x:Rat,pl law' x≤pl law x) {x y:Int} (h:x≤y):x - lossS T law x≤y - lossS T law' y:=by
 have hxy:(x:Rat)≤y:=Rat.intCast_le_intCast.2 h
 obtain ⟨l1,l2⟩:=lip (c:=1) (by decide) T x y hT hxy
 obtain ⟨l3,l4⟩:=lip (c:=1 / 2) (by grind) law (pl T x) (pl T y) hl (by grind)
 have ho':=ho (pl T y)
 unfold lossS
 have:(pl law' (pl T y)).floor≤(pl law (pl T x)).floor+(y - x):=by
  rw [← Rat.floor_add_intCast]
  refine Rat.floor_monotone ?_
  rw [Rat.intCast_sub]; grind
 omega
theorem outS_mono {b:Int} {T law law':List (Int×Int)} (hb:0≤b∧b≤500) (hT:Asc 1 T) (hl:Asc (1 / 2) law) (ho:∀ x:Rat,pl law' x≤pl law x) {l m p q:List Int} (h:leL l m) (hp:leL p q):leL (outS b T law l p) (outS b T law' m q):=by
 unfold outS
 have hm:=mixS_mono hb hT l m h
 refine addL_mono _ _ _ _ ?_ hp
 revert hm
 generalize mixS b T l=u
 generalize mixS b T m=v
 intro hm
 cases u with
 | nil=>cases v with
  | nil=>trivial
  | cons y v=>exact hm.elim
 | cons x u=>cases v with
  | nil=>exact hm.elim
  | cons y v=>exact ⟨loss_mono hT hl ho hm.1,hm.2⟩
theorem loss_in {T law:List (Int×Int)} (hl:Asc (1 / 2) law) (hr:∀ p∈law,0≤p.2∧p.2≤1000) (e:Int):0≤lossS T law e∧lossS T law e≤1000:=by
 unfold lossS
 by_cases h0:law=[]
 ·subst h0
  have e:(pl [] (pl T e)).floor=0:=Rat.floor_intCast 0
  rw [e]; exact ⟨by decide,by decide⟩
 ·obtain ⟨h1,h2⟩:=pl_rng (c:=1 / 2) law (pl T e) hl hr h0
  constructor
  ·rw [Rat.le_floor_iff]; exact h1
  ·have:=Rat.floor_monotone h2
   rwa [Rat.floor_intCast] at this
end Go.Proofs.YthldpejmofhaoaaGreatDoor
namespace Go.Proofs.YthldpejmofhaoaaGreatDoor
open Go.Abs
theorem gS {p:Prop} {α β:Type} {v:α} [Decidable (p→(some v).isSome=true)] {a b:β}:(if p→(some v).isSome=true then a else b)=a:=if_pos (fun _=>rfl)
theorem p90 (a b c:Int):r79 a b c=some (inR a b c):=rfl
theorem p59 (a b c:Int):r11 a b c=some (inR a b c):=rfl
theorem p94 (b:Bool) (e:Int):r83 b e=some (codeIf b e):=by
 unfold r83 codeIf; cases b<;>rfl
theorem p91 (l:List Int) (hl:l.length<1000000000):r80 l=some (firstV l):=by
 have h:=iter_list (τ:=Unit) l (b80_1 l) (fun i _=>i) (fun _ _ x=>if x=0 then .next () else .out (some x)) (fun _=>some 0) hl
  (fun i t hi=>by
   simp only [b80_1,ltN hi,if_true,if_pos (rgN hi),Int.toNat_natCast,wS i (by omega)]
   generalize l.getD i default=x
   by_cases hx:x=0<;>simp [hx,mapC])
  (fun t=>by simp [b80_1]) ()
 unfold r80
 rw [h]
 have:∀ (r:List Int) (i:Int),foldC (fun _ _ x=>if x=0 then Ctl.next () else .out (some x)) (fun _:Unit=>some 0) i r ()=some (firstV r):=by
  intro r
  induction r with
  | nil=>intro i; rfl
  | cons x r ih=>
   intro i
   by_cases hx:x=0
   ·simp only [foldC,hx,if_true,firstV]; exact ih _
   ·simp only [foldC,if_neg hx,firstV]
 exact this l 0
theorem p108 (n:Int):r151 n=some (inR n 0 1000):=rfl
theorem p111 (n:Int):r216 n=some (inR n 0 1000000):=rfl
theorem p32 (a b c:Int):r150 a b c=some (firstV [codeIf (inR a 0 1000000 && inR b 0 1000000 && inR c 0 1000000) 2,codeIf (decide (a<c)) 9]):=by
 unfold r150
 simp only [p111,Option.bind_some,Option.isSome_some,Option.getD_some,implies_true,if_true,p94]
 rw [p91 _ (by simp)]
 rfl
def waterErrV (a b c:Int):Int:=if inR a 0 1000000 && inR b 0 1000000 && inR c 0 1000000 then (if a<c then 0 else 9) else 2
theorem p32' (a b c:Int):r150 a b c=some (waterErrV a b c):=by
 rw [p32]
 unfold waterErrV
 by_cases h:(inR a 0 1000000 && inR b 0 1000000 && inR c 0 1000000)=true
 ·by_cases h2:a<c<;>simp [h,h2,firstV,codeIf]
 ·simp only [Bool.not_eq_true] at h
  simp [h,firstV,codeIf]
def heatsV (gain:Int):Int→List Int→List Int
 | _,[]=>[]
 | now,f::r=>let h:=IntKind.i64.wrap (now+(gain - (IntKind.i64.wrap (now*f)).tdiv 1000)); h::heatsV gain h r
theorem heatsV_len (g:Int):∀ (l:List Int) (now:Int),(heatsV g now l).length=l.length
 | [],_=>rfl
 | f::r,now=>by simp [heatsV,heatsV_len g r]
def heatF (gain:Int) (i:Int) (t:List Int×Int) (f:Int):Ctl (List Int×Int) (List Int):=
 let h:=IntKind.i64.wrap (t.2+(gain - (IntKind.i64.wrap (t.2*f)).tdiv 1000))
 if (t.1.length+1)*8≤140737488355328∧t.1.length+1≤9223372036854775807 then .next (t.1++[h],h) else .out none
theorem heatF_fold (gain:Int):∀ (r:List Int) (i:Int) (t:List Int×Int),t.1.length+r.length<1000000000→foldC (heatF gain) (fun t=>some t.1) i r t=some (t.1++heatsV gain t.2 r)
 | [],i,t,_=>by simp [foldC,heatsV]
 | f::r,i,t,h=>by
  simp only [List.length_cons] at h
  simp only [foldC,heatF]
  rw [if_pos ⟨by omega,by omega⟩]
  simp only
  rw [heatF_fold gain r _ _ (by simp; omega)]
  simp [heatsV]
theorem wrap_heat1 (now g f:Int):IntKind.i64.wrap (now+IntKind.i64.wrap (g - IntKind.i64.wrap ((IntKind.i64.wrap (now*f)).tdiv 1000)))=IntKind.i64.wrap (now+(g - (IntKind.i64.wrap (now*f)).tdiv 1000)):=by
 generalize (IntKind.i64.wrap (now*f)).tdiv 1000=q
 simp only [IntKind.wrap_i64]; omega
theorem p109 (a b c:Int) (l:List Int) (hl:l.length<1000000000):r217 a b c l=some (heatsV b a l):=by
 have h:=iter_list (τ:=List Int×Int) l (b217_1 b l) (fun i t=>(t.1,t.2,i)) (heatF b) (fun t=>some t.1) hl
  (fun i t hi=>by
   simp only [b217_1,ltN hi,if_true,if_pos (rgN hi),Int.toNat_natCast,wS i (by omega),wrap_heat1,heatF]
   split<;>rfl)
  (fun t=>by simp [b217_1]) ([],a)
 unfold r217
 rw [h,heatF_fold _ _ _ _ (by simpa using hl)]
 simp
def idxV (p:Int→Bool):Int→List Int→Int
 | _,[]=> -1
 | i,x::r=>if p x then i else idxV p (i+1) r
theorem idx_fold (p:Int→Bool):∀ (r:List Int) (i:Int),foldC (fun i _ x=>if p x then (.out (some i):Ctl Unit Int) else .next ()) (fun _:Unit=>some (-1)) i r ()=some (idxV p i r)
 | [],i=>rfl
 | x::r,i=>by
  cases hx:p x with
  | true=>simp [foldC,hx,idxV]
  | false=>simp only [foldC,hx,idxV]; exact idx_fold p r (i+1)
theorem p141d (l:List Int) (a b c:Int) (hl:l.length<1000000000):r170c l a b c=some (idxV (fun n=>decide (n≥c)) 0 l):=by
 have h:=iter_list (τ:=Unit) l (b170c_1 l a b c) (fun i _=>i) (fun i _ x=>if decide (x≥c) then .out (some i) else .next ()) (fun _=>some (-1)) hl
  (fun i t hi=>by
   simp only [b170c_1,ltN hi,if_true,if_pos (rgN hi),Int.toNat_natCast,wS i (by omega),r218,bindC]
   rcases Decidable.em (l.getD i default≥c) with hx | hx<;>simp only [hx,decide_true,decide_false,if_true,Bool.false_eq_true,if_false,mapC])
  (fun t=>by simp [b170c_1]) ()
 unfold r170c
 rw [h]; exact idx_fold _ l 0
theorem idx_ge (p:Int→Bool):∀ (l:List Int) (i:Int),0≤i→(decide (idxV p i l≥0))=l.any p
 | [],i,h=>by simp [idxV]
 | x::r,i,h=>by
  cases hx:p x with
  | true=>simp [idxV,hx,h]
  | false=>simp only [idxV,hx,List.any_cons,Bool.false_or]; exact idx_ge p r (i+1) (by omega)
theorem idx_le (p:Int→Bool):∀ (l:List Int) (i:Int),0≤i→idxV p i l<i+l.length
 | [],i,h=>by simp [idxV]; omega
 | x::r,i,h=>by
  simp only [idxV,List.length_cons]
  split
  ·omega
  ·have:=idx_le p r (i+1) (by omega); omega
def boilV (c:Int) (hs:List Int) (n:Int):Int:=if idxV (fun n=>decide (n≥c)) 0 hs<0 then n+1 else idxV (fun n=>decide (n≥c)) 0 hs+1
theorem p110 (a b c:Int) (l:List Int) (hl:l.length<1000000000):r152 a b c l=some (boilV c (heatsV b a l) l.length):=by
 unfold r152 boilV
 have hh:=heatsV_len b l a
 rw [p109 a b c l hl,Option.bind_some,p141d _ _ _ _ (by omega),Option.bind_some]
 have h1:=idx_le (fun n=>decide (n≥c)) (heatsV b a l) 0 (by omega)
 generalize hi:idxV (fun n=>decide (n≥c)) 0 (heatsV b a l)=i at*
 have e1:IntKind.i64.wrap ((l.length:Int)+1)=(l.length:Int)+1:=wS _ hl
 by_cases h:i<0
 ·simp [h,e1]
 ·have e2:IntKind.i64.wrap (i+1)=i+1:=IntWalk.i64_in _ ⟨by omega,by omega⟩
  simp [h,e2]
def rangeE (x:Int×Int):Int:=if inR x.1 0 1000 && inR x.2 0 1000 then (if x.1≤x.2 then 0 else 9) else 2
def rangesV:List (Int×Int)→Int
 | []=>0
 | x::r=>if rangeE x=0 then rangesV r else rangeE x
theorem first3 (e:Int) (x:Int×Int):firstV [e,codeIf (inR x.1 0 1000 && inR x.2 0 1000) 2,codeIf (decide (x.1≤x.2)) 9]=if e=0 then rangeE x else e:=by
 unfold rangeE
 by_cases he:e=0
 ·rcases Bool.eq_false_or_eq_true (inR x.1 0 1000 && inR x.2 0 1000) with h | h
  ·by_cases hx:x.1≤x.2<;>simp [firstV,codeIf,he,h,hx]
  ·simp [firstV,codeIf,he,h]
 ·simp [firstV,he]
def boilingV (a b c:Int) (l:List (Int×Int)) (e:Int):Int×Int×Int:=
 if e=0 then
  if boilV c (heatsV b a (l.map (·.1))) l.length>l.length then (0,0,12) else (boilV c (heatsV b a (l.map (·.1))) l.length,boilV c (heatsV b a (l.map (·.2))) l.length,0)
 else (0,0,e)
theorem p30 (a b c:Int) (l:List (Int×Int)) (hl:l.length<1000000000) :
 r62 a b c l=some (boilingV a b c l (if firstV [waterErrV a b c,codeIf (decide ((l.length:Int)≤200)) 8]=0 then rangesV l else firstV [waterErrV a b c,codeIf (decide ((l.length:Int)≤200)) 8])):=by
 unfold r62
 rw [p32',Option.bind_some,p94,Option.bind_some,p91 _ (by simp),Option.bind_some]
 generalize firstV [waterErrV a b c,codeIf (decide ((l.length:Int)≤200)) 8]=e0
 let fin:Int×List Int×List Int→Option (Int×Int×Int):=fun t=>if (t.1 != 0)=true then some (0,0,t.1) else (r152 a b c t.2.1).bind fun v12=>(r152 a b c t.2.2).bind fun v13=>if (decide (v12>(l.length:Int)))=true then some (0,0,12) else some (v12,v13,0)
 have h:=iter_list (τ:=Int×List Int×List Int) l (b62_1 a b c l) (fun i t=>(t.1,t.2.1,t.2.2,i))
  (fun _ t x=>if (t.2.1.length+1)*8≤140737488355328∧t.2.1.length+1≤9223372036854775807 then (if (t.2.2.length+1)*8≤140737488355328∧t.2.2.length+1≤9223372036854775807 then .next (if t.1=0 then rangeE x else t.1,t.2.1++[x.1],t.2.2++[x.2]) else .out none) else .out none) fin hl
  (fun i t hi=>by
   simp only [b62_1,ltN hi,if_true,if_pos (rgN hi),Int.toNat_natCast,wS i (by omega),p108,bindC,Option.isSome_some,Option.getD_some,implies_true,p94]
   rw [p91 _ (by simp)]
   simp only [first3]
   split
   ·split<;>rfl
   ·rfl)
  (fun t=>by simp [b62_1,fin]) (e0,[],[])
 rw [h]
 have key:∀ (r:List (Int×Int)) (i:Int) (t:Int×List Int×List Int),t.2.1.length+r.length<1000000000→t.2.2.length+r.length<1000000000→
  foldC (fun _ t x=>if (t.2.1.length+1)*8≤140737488355328∧t.2.1.length+1≤9223372036854775807 then (if (t.2.2.length+1)*8≤140737488355328∧t.2.2.length+1≤9223372036854775807 then (.next (if t.1=0 then rangeE x else t.1,t.2.1++[x.1],t.2.2++[x.2]):Ctl (Int×List Int×List Int) (Int×Int×Int)) else .out none) else .out none) fin i r t=
  fin (if t.1=0 then rangesV r else t.1,t.2.1++r.map (·.1),t.2.2++r.map (·.2)):=by
  intro r
  induction r with
  | nil=>
   intro i t _ _
   simp only [foldC,rangesV,List.map_nil,List.append_nil]
   by_cases h0:t.1=0
   ·simp only [h0,if_true]; congr 1; ext<;>simp [h0]
   ·simp only [h0,if_false]
  | cons x r ih=>
   intro i t h1 h2
   simp only [List.length_cons] at h1 h2
   simp only [foldC]
   rw [if_pos ⟨by omega,by omega⟩,if_pos ⟨by omega,by omega⟩]
   simp only
   rw [ih _ _ (by simp; omega) (by simp; omega)]
   simp only [rangesV,List.map_cons,List.append_assoc,List.singleton_append]
   congr 2
   by_cases h0:t.1=0
   ·simp [h0]
   ·simp [h0]
 rw [key l 0 _ (by simpa using hl) (by simpa using hl)]
 simp only [fin,List.nil_append,boilingV]
 by_cases he:(if e0=0 then rangesV l else e0)=0
 ·rw [he]
  simp only [bne_self_eq_false,Bool.false_eq_true,if_false,if_true]
  rw [p110 _ _ _ _ (by simpa using hl),Option.bind_some,p110 _ _ _ _ (by simpa using hl),Option.bind_some]
  simp only [List.length_map]
  by_cases hg:boilV c (heatsV b a (l.map (·.1))) l.length>l.length
  ·simp [hg]
  ·simp [hg]
 ·simp [he]
theorem p19 (l:List Int) (hl:l.length<1000000000):r17 l=some l:=by
 unfold r17; rw [if_pos ⟨by omega,by omega⟩]
end Go.Proofs.YthldpejmofhaoaaGreatDoor
namespace Go.Proofs.YthldpejmofhaoaaGreatDoor
open Go.Abs
def orE {ρ:Type} (s fin:Option ρ):Option ρ:=match s with | some v=>some v | none=>fin
theorem orE_some {ρ:Type} (v:ρ) (fin:Option ρ):orE (some v) fin=some v:=rfl
theorem orE_none {ρ:Type} (fin:Option ρ):orE none fin=fin:=rfl
def scanN {ρ:Type} (f:Nat→Option ρ):Nat→Nat→Option ρ
 | _,0=>none
 | i,k+1=>match f i with
  | some v=>some v
  | none=>scanN f (i+1) k
theorem iter_scan {ρ:Type} (n:Nat) (b:Int→Ctl Int ρ) (f:Nat→Option ρ) (fin:Option ρ) (hn:n<1000000000)
 (step:∀ i:Nat,i<n→b i=match f i with | some v=> .out (some v) | none=> .next ((i:Int)+1)) (stop:b n= .out fin) :
 iterC b 1000000000 0=orE (scanN f 0 n) fin:=by
 have key:∀ (k i fuel:Nat),i+k=n→k<fuel→iterC b fuel i=orE (scanN f i k) fin:=by
  intro k
  induction k with
  | zero=>
   intro i fuel hi hf
   obtain ⟨m,rfl⟩:∃ m,fuel=m+1:=⟨fuel - 1,by omega⟩
   obtain rfl:i=n:=by omega
   simp [iterC,stop,scanN,orE]
  | succ k ih=>
   intro i fuel hi hf
   obtain ⟨m,rfl⟩:∃ m,fuel=m+1:=⟨fuel - 1,by omega⟩
   simp only [iterC,step i (by omega),scanN]
   cases hfx:f i with
   | none=>
    have:=ih (i+1) m (by omega) (by omega)
    simpa using this
   | some v=>rfl
 have:=key n 0 1000000000 (by omega) hn
 simpa using this
theorem iter_run {σ ρ:Type} (n:Nat) (b:σ→Ctl σ ρ) (st:Nat→σ) (fin:Option ρ) (hn:n<1000000000)
 (step:∀ i:Nat,i<n→b (st i)= .next (st (i+1))) (stop:b (st n)= .out fin):iterC b 1000000000 (st 0)=fin:=by
 have key:∀ (k i fuel:Nat),i+k=n→k<fuel→iterC b fuel (st i)=fin:=by
  intro k
  induction k with
  | zero=>
   intro i fuel hi hf
   obtain ⟨m,rfl⟩:∃ m,fuel=m+1:=⟨fuel - 1,by omega⟩
   obtain rfl:i=n:=by omega
   simp [iterC,stop]
  | succ k ih=>
   intro i fuel hi hf
   obtain ⟨m,rfl⟩:∃ m,fuel=m+1:=⟨fuel - 1,by omega⟩
   simp only [iterC,step i (by omega)]
   exact ih (i+1) m (by omega) (by omega)
 exact key n 0 1000000000 (by omega) hn
theorem scan_none {ρ:Type} {f:Nat→Option ρ}:∀ {k i:Nat},scanN f i k=none→∀ j,i≤j→j<i+k→f j=none
 | 0,i,_,j,h1,h2=>by omega
 | k+1,i,h,j,h1,h2=>by
  simp only [scanN] at h
  cases hf:f i with
  | some v=>rw [hf] at h; cases h
  | none=>
   rw [hf] at h
   by_cases hj:j=i
   ·rw [hj,hf]
   ·exact scan_none (k:=k) h j (by omega) (by omega)
theorem scan_some {ρ:Type} {f:Nat→Option ρ} {v:ρ}:∀ {k i:Nat},scanN f i k=some v→∃ j,i≤j∧j<i+k∧f j=some v
 | 0,i,h=>by cases h
 | k+1,i,h=>by
  simp only [scanN] at h
  cases hf:f i with
  | some w=>rw [hf] at h; exact ⟨i,Nat.le_refl _,by omega,by rw [hf]; exact h⟩
  | none=>
   rw [hf] at h
   obtain ⟨j,h1,h2,h3⟩:=scan_some (k:=k) h
   exact ⟨j,by omega,by omega,h3⟩
theorem scan_all {ρ:Type} {f:Nat→Option ρ} {k i:Nat} (h:∀ j,i≤j→j<i+k→f j=none):scanN f i k=none:=by
 cases hs:scanN f i k with
 | none=>rfl
 | some v=>obtain ⟨j,h1,h2,h3⟩:=scan_some hs; rw [h j h1 h2] at h3; cases h3
theorem first_ix (P:Nat→Prop) [DecidablePred P]:∀ n:Nat,∃ k,k≤n∧(∀ i,i<k→P i)∧(k<n→¬ P k)
 | 0=>⟨0,Nat.le_refl _,fun _ h=>by omega,fun h=>by omega⟩
 | n+1=>by
  obtain ⟨k,h1,h2,h3⟩:=first_ix P n
  by_cases hk:k<n
  ·exact ⟨k,by omega,h2,fun _=>h3 hk⟩
  ·obtain rfl:k=n:=by omega
   by_cases hp:P k
   ·exact ⟨k+1,by omega,fun i hi=>by
     by_cases hik:i=k
     ·rw [hik]; exact hp
     ·exact h2 i (by omega),fun h=>by omega⟩
   ·exact ⟨k,by omega,h2,fun _=>hp⟩
theorem wP (i:Nat) (h:i<1000000000):IntKind.i64.wrap ((i:Int) - 1)=(i:Int) - 1:=IntWalk.i64_in _ ⟨by omega,by omega⟩
theorem wPn (i:Nat):(((i:Int)) - 1).toNat=i - 1:=by omega
theorem rgP {i n:Nat} (h:i<n) (h0:0<i):0≤(i:Int) - 1∧(i:Int) - 1<(n:Int):=⟨by omega,by omega⟩
theorem mid (a b:Nat) (h:a+b<1000000000):IntKind.i64.wrap ((IntKind.u64.wrap (IntKind.i64.wrap ((a:Int)+(b:Int)))) / 2 ^ 1)=(((a+b) / 2:Nat):Int):=by
 rw [IntWalk.i64_in ((a:Int)+(b:Int)) ⟨by omega,by omega⟩]
 have:IntKind.u64.wrap ((a:Int)+(b:Int))=(a:Int)+(b:Int):=by simp only [IntKind.wrap_u64]; omega
 rw [this]
 have:((a:Int)+(b:Int)) / 2 ^ 1=(((a+b) / 2:Nat):Int):=by omega
 rw [this]
 exact IntWalk.i64_in _ ⟨by omega,by omega⟩
def cmpV (a b:Int):Int:=if a<b then -1 else if a>b then 1 else 0
theorem p155 (x y n d:Int):r241 x y n d=some (cmpV (IntKind.i64.wrap (x*d)) n):=by
 unfold r241 r242 r285 cmpV
 generalize IntKind.i64.wrap (x*d)=a
 simp only [Option.bind_some,bne_self_eq_false,Bool.false_eq_true,if_false,decide_eq_true_eq]
 split
 ·rfl
 ·split<;>rfl
def ltK (l:List (Int×Int)) (n d:Int) (i:Nat):Prop:=IntKind.i64.wrap ((l.getD i default).1*d)<n
instance (l n d i):Decidable (ltK l n d i):=by unfold ltK; infer_instance
theorem p154 (l:List (Int×Int)) (n d:Int) (hl:l.length<1000) (k:Nat) (hk:k≤l.length) (h1:∀ i,i<k→ltK l n d i) (h2:∀ i,k≤i→i<l.length→¬ ltK l n d i) :
 ∃ b,r240 l n d=some ((k:Int),b):=by
 have key:∀ (fuel lo hi:Nat),lo≤k→k≤hi→hi≤l.length→hi - lo<fuel→∃ b,iterC (b240_1 l n d) fuel ((lo:Int),(hi:Int))=some ((k:Int),b):=by
  intro fuel
  induction fuel with
  | zero=>intro lo hi _ _ _ h; omega
  | succ m ih=>
   intro lo hi a1 a2 a3 a4
   by_cases hlt:lo<hi
   ·have e0:(decide ((lo:Int)<(hi:Int)))=true:=by simpa using hlt
    have em:(lo+hi) / 2<l.length:=by omega
    have e2:IntKind.i64.wrap ((((lo+hi) / 2:Nat):Int)+1)=(((lo+hi) / 2+1:Nat):Int):=by rw [wS _ (by omega)]; omega
    simp only [iterC,b240_1,e0,if_true,mid lo hi (by omega),if_pos (rgN em),Int.toNat_natCast,p155,bindC,e2]
    by_cases hp:ltK l n d ((lo+hi) / 2)
    ·have hc:(decide (cmpV (IntKind.i64.wrap ((l.getD ((lo+hi) / 2) default).1*d)) n<0))=true:=by
      unfold ltK at hp; unfold cmpV; rw [if_pos hp]; rfl
     simp only [hc,if_true]
     have:(lo+hi) / 2<k:=by
      apply Nat.lt_of_not_le; intro hge; exact h2 _ hge em hp
     exact ih _ _ (by omega) (by omega) (by omega) (by omega)
    ·have hc:(decide (cmpV (IntKind.i64.wrap ((l.getD ((lo+hi) / 2) default).1*d)) n<0))=false:=by
      unfold ltK at hp; unfold cmpV; rw [if_neg hp]; split<;>rfl
     simp only [hc,Bool.false_eq_true,if_false]
     have:k≤(lo+hi) / 2:=by
      apply Nat.le_of_not_lt; intro hlt'; exact hp (h1 _ hlt')
     exact ih _ _ (by omega) (by omega) (by omega) (by omega)
   ·obtain rfl:lo=k:=by omega
    obtain rfl:hi=lo:=by omega
    have e0:(decide ((hi:Int)<(hi:Int)))=false:=by simp
    simp only [iterC,b240_1,e0,Bool.false_eq_true,if_false,p155,Option.isSome_some,implies_true,if_true]
    by_cases hkl:hi<l.length
    ·have e3:0≤(hi:Int)∧(hi:Int)<(l.length:Int):=rgN hkl
     rw [if_pos (fun _=>e3)]
     exact ⟨_,rfl⟩
    ·have e3:(decide ((hi:Int)<(l.length:Int)))=false:=by simp; omega
     simp only [e3,Bool.false_eq_true,false_implies,if_true]
     exact ⟨_,rfl⟩
 exact key 1000000000 0 l.length (by omega) hk (Nat.le_refl _) (by omega)
def segV (l:List (Int×Int)) (n d:Int) (k:Nat):Int×Int:=
 if l.length=0 then (0,1)
 else if k=0 then ((l.getD 0 default).2,1)
 else if k=l.length then ((l.getD (k - 1) default).2,1)
 else (IntKind.i64.wrap ((IntKind.i64.wrap (((l.getD (k - 1) default).2)*(IntKind.i64.wrap ((IntKind.i64.wrap (((l.getD k default).1) - ((l.getD (k - 1) default).1)))*d))))+(IntKind.i64.wrap ((IntKind.i64.wrap (((l.getD k default).2) - ((l.getD (k - 1) default).2)))*(IntKind.i64.wrap (n - (IntKind.i64.wrap (((l.getD (k - 1) default).1)*d))))))),IntKind.i64.wrap ((IntKind.i64.wrap (((l.getD k default).1) - ((l.getD (k - 1) default).1)))*d))
theorem p123 (l:List (Int×Int)) (n d:Int) (hl:l.length<1000) (k:Nat) (hk:k≤l.length) (h1:∀ i,i<k→ltK l n d i) (h2:∀ i,k≤i→i<l.length→¬ ltK l n d i) :
 r189 l n d=some (segV l n d k):=by
 obtain ⟨b,hb⟩:=p154 l n d hl k hk h1 h2
 unfold r189 segV
 rw [hb,Option.bind_some]
 by_cases h0:l.length=0
 ·have:((l.length:Int) == 0)=true:=by simp [h0]
  rw [if_pos this,if_pos h0]
 ·have:¬ ((l.length:Int) == 0)=true:=by rw [beq_iff_eq]; omega
  rw [if_neg this,if_neg h0]
  simp only
  by_cases hk0:k=0
  ·have:((k:Int) == 0)=true:=by simp [hk0]
   rw [if_pos this,if_pos hk0,if_pos ⟨by omega,by omega⟩]
  ·have:¬ ((k:Int) == 0)=true:=by rw [beq_iff_eq]; omega
   rw [if_neg this,if_neg hk0,wP k (by omega),wPn]
   by_cases hkl:k=l.length
   ·have:((k:Int) == (l.length:Int))=true:=by simp [hkl]
    rw [if_pos this,if_pos hkl,if_pos ⟨by omega,by omega⟩]
   ·have:¬ ((k:Int) == (l.length:Int))=true:=by rw [beq_iff_eq]; omega
    rw [if_neg this,if_neg hkl,if_pos ⟨by omega,by omega⟩,if_pos ⟨by omega,by omega⟩,Int.toNat_natCast]
theorem p131 (l:List (Int×Int)) (n d:Int) (hl:l.length<1000) (k:Nat) (hk:k≤l.length) (h1:∀ i,i<k→ltK l n d i) (h2:k<l.length→¬ ltK l n d k) :
 r261 l n d=some (segV l n d k):=by
 unfold r261
 by_cases h0:l.length=0
 ·have:((l.length:Int) == 0)=true:=by simp [h0]
  rw [if_pos this]; unfold segV; rw [if_pos h0]
 ·have:¬ ((l.length:Int) == 0)=true:=by rw [beq_iff_eq]; omega
  rw [if_neg this]
  refine iter_run k (b261_1 l n d) (fun i=>(i:Int)) _ (by omega) ?_ ?_
  ·intro i hi
   have hp:=h1 i hi
   unfold ltK at hp
   have e:¬ (decide (n≤IntKind.i64.wrap ((l.getD i default).1*d)))=true:=by rw [decide_eq_true_eq]; omega
   simp only [b261_1,ltN (show i<l.length by omega),if_true,if_pos (rgN (show i<l.length by omega)),Int.toNat_natCast,if_neg e,wS i (by omega)]
   rfl
  ·by_cases hkl:k<l.length
   ·have hp:=h2 hkl
    unfold ltK at hp
    have e:(decide (n≤IntKind.i64.wrap ((l.getD k default).1*d)))=true:=decide_eq_true (by omega)
    simp only [b261_1,ltN hkl,if_true,if_pos (rgN hkl),Int.toNat_natCast,e,wP k (by omega),wPn]
    unfold segV
    rw [if_neg h0]
    by_cases hk0:k=0
    ·subst hk0
     rw [if_pos rfl,if_pos (by rfl),if_pos ⟨by omega,by omega⟩]
    ·have:¬ ((k:Int) == 0)=true:=by rw [beq_iff_eq]; omega
     rw [if_neg this,if_neg hk0,if_neg (show ¬ k=l.length by omega),if_pos (rgP hkl (by omega))]
   ·obtain rfl:k=l.length:=by omega
    have e0:(decide ((l.length:Int)<(l.length:Int)))=false:=by simp
    simp only [b261_1,e0,Bool.false_eq_true,if_false,wP l.length (by omega),wPn]
    rw [if_pos ⟨by omega,by omega⟩]
    unfold segV
    rw [if_neg h0,if_neg h0,if_pos rfl]
end Go.Proofs.YthldpejmofhaoaaGreatDoor
namespace Go.Proofs.YthldpejmofhaoaaGreatDoor
open Go.Abs
theorem p140 (a:Int):r169 a=some (inR a 200 3000):=rfl
theorem p103 (a:Int):r154 a=some (inR a 200 3000):=rfl
def dX (l:List (Int×Int)) (i:Nat):Int:=IntKind.i64.wrap ((l.getD i default).1 - (l.getD (i - 1) default).1)
def dY (l:List (Int×Int)) (i:Nat):Int:=IntKind.i64.wrap ((l.getD i default).2 - (l.getD (i - 1) default).2)
def tabF (l:List (Int×Int)) (i:Nat):Option (Int×Int):=
 if (inR (l.getD i default).1 0 1000000 && inR (l.getD i default).2 200 3000)=true then
  if i=0 then none
  else if 0<dX l i∧0<dY l i then (if dY l i≤dX l i then none else some (i,22))
  else some (i,9)
 else some (i,2)
theorem code_t (e:Int):codeIf true e=0:=rfl
theorem code_f (e:Int):codeIf false e=e:=rfl
theorem p99 (l:List (Int×Int)):r159 l=if l.length<2 then some (0,10) else if 8<l.length then some (0,8) else orE (scanN (tabF l) 0 l.length) (some (0,0)):=by
 unfold r159
 simp only [p94,Option.bind_some]
 rw [p91 _ (by simp),Option.bind_some]
 by_cases h2:l.length<2
 ·have:(decide ((l.length:Int)≥2))=false:=by simp; omega
  rw [if_pos h2,this]; rfl
 ·have e2:(decide ((l.length:Int)≥2))=true:=by simp; omega
  rw [if_neg h2,e2]
  by_cases h8:8<l.length
  ·have:(decide ((l.length:Int)≤8))=false:=by simp; omega
   rw [if_pos h8,this]; rfl
  ·have e8:(decide ((l.length:Int)≤8))=true:=by simp; omega
   rw [if_neg h8,e8]
   show iterC (b159_1 l) 1000000000 0=_
   refine iter_scan l.length (b159_1 l) (tabF l) _ (by omega) ?_ ?_
   ·intro i hi
    simp only [b159_1,ltN hi,if_true,if_pos (rgN hi),Int.toNat_natCast,wS i (by omega),wP i (by omega),wPn,p90,p140,p94,bindC,Option.isSome_some,Option.getD_some,implies_true]
    unfold tabF
    rcases Bool.eq_false_or_eq_true (inR (l.getD i default).1 0 1000000 && inR (l.getD i default).2 200 3000) with h | h
    ·rw [h]
     simp only [code_t,if_true,beq_self_eq_true,Bool.true_and]
     by_cases h0:i=0
     ·have:(decide ((i:Int)>0))=false:=by simp [h0]
      simp only [this,Bool.false_eq_true,if_false,bne_self_eq_false]
      rw [if_pos h0]
     ·have e0:(decide ((i:Int)>0))=true:=by simp; omega
      simp only [e0,if_true,if_pos (rgP hi (by omega)),h0,if_false]
      rw [p91 _ (by simp)]
      simp only
      show (if (firstV [codeIf (decide (dX l i>0) && decide (dY l i>0)) 9,codeIf (decide (dY l i≤dX l i)) 22] != 0)=true then Ctl.out (some ((i:Int),firstV [codeIf (decide (dX l i>0) && decide (dY l i>0)) 9,codeIf (decide (dY l i≤dX l i)) 22])) else _)=_
      generalize dX l i=a
      generalize dY l i=b
      by_cases ha:0<a∧0<b
      ·have hb:(decide (a>0) && decide (b>0))=true:=by simp; exact ha
       rw [hb,if_pos ha]
       by_cases hc:b≤a<;>simp [code_t,firstV,hc,codeIf]
      ·have hb:(decide (a>0) && decide (b>0))=false:=by simp; omega
       rw [hb,if_neg ha]; simp [code_f,firstV]
    ·rw [h]
     simp [code_f]
   ·simp [b159_1]
theorem p26a (l:List (Int×Int)) (L:List (List (Int×Int))) (hl:l.length<1000) :
 iterC (b153_1 l L) 1000000000 0=orE (scanN (tabF l) 0 l.length) (if (decide ((L.length:Int)>4))=true then some (0,8) else iterC (b153_2 L) 1000000000 0):=by
 refine iter_scan l.length (b153_1 l L) (tabF l) _ (by omega) ?_ ?_
 ·intro i hi
  simp only [b153_1,ltN hi,if_true,if_pos (rgN hi),Int.toNat_natCast,wS i (by omega),wP i (by omega),wPn,p59,p103,bindC,Option.isSome_some,Option.getD_some,implies_true,rgN hi,and_self,decide_true,if_true]
  unfold tabF
  have hor:((!(inR (l.getD i default).1 0 1000000)) || (!(inR (l.getD i default).2 200 3000)))= !(inR (l.getD i default).1 0 1000000 && inR (l.getD i default).2 200 3000):=by rw [Bool.not_and]
  rw [hor]
  rcases Bool.eq_false_or_eq_true (inR (l.getD i default).1 0 1000000 && inR (l.getD i default).2 200 3000) with h | h
  ·rw [h]
   simp only [Bool.not_true,Bool.false_eq_true,if_false,if_true]
   by_cases h0:i=0
   ·have:(decide ((i:Int)>0))=false:=by simp [h0]
    simp only [this,Bool.false_eq_true,if_false,bne_self_eq_false]
    rw [if_pos h0]
   ·have e0:(decide ((i:Int)>0))=true:=by simp; omega
    simp only [e0,if_true,if_pos (rgP hi (by omega)),h0,if_false]
    show (if (decide (dX l i≤0) || decide (dY l i≤0))=true then Ctl.out (some ((i:Int),9)) else if decide (dY l i>dX l i)=true then Ctl.out (some ((i:Int),22)) else _)=_
    generalize dX l i=a
    generalize dY l i=b
    by_cases ha:0<a∧0<b
    ·have hb:(decide (a≤0) || decide (b≤0))=false:=by simp; exact ha
     rw [hb,if_pos ha]
     by_cases hc:b≤a
     ·have:¬ b>a:=by omega
      simp [hc,this]
     ·have:b>a:=by omega
      simp [hc,this]
    ·have hb:(decide (a≤0) || decide (b≤0))=true:=by simp; omega
     rw [hb,if_neg ha]; simp
  ·rw [h]
   simp
 ·simp [b153_1]
def lawF (l:List (Int×Int)) (i:Nat):Option Int:=
 if (inR (l.getD i default).1 200 3000 && inR (l.getD i default).2 0 1000)=true then
  if i=0 then none
  else if 0<dX l i∧0≤dY l i then (if IntKind.i64.wrap (2*dY l i)≤dX l i then none else some 22)
  else some 9
 else some 2
def lawErrV (l:List (Int×Int)):Int:=if 6<l.length then 8 else (scanN (lawF l) 0 l.length).getD 0
theorem lawF_ne {l:List (Int×Int)} {i:Nat} {e:Int} (h:lawF l i=some e):e≠0:=by
 unfold lawF at h
 repeat' split at h
 all_goals first | (injection h with h; omega) | cases h
theorem lawErr0 {l:List (Int×Int)} (h:lawErrV l=0):l.length≤6∧∀ i,i<l.length→lawF l i=none:=by
 unfold lawErrV at h
 split at h
 ·cases h
 ·rename_i h6
  refine ⟨by omega,?_⟩
  cases hs:scanN (lawF l) 0 l.length with
  | none=>exact fun i hi=>scan_none hs i (by omega) (by omega)
  | some e=>
   rw [hs] at h
   obtain ⟨j,_,_,hj⟩:=scan_some hs
   exact absurd h (lawF_ne hj)
theorem p104 (l:List (Int×Int)):r219 l=some (lawErrV l):=by
 unfold r219 lawErrV
 by_cases h6:6<l.length
 ·have:(decide ((l.length:Int)>6))=true:=by simp; omega
  rw [if_pos this,if_pos h6]
 ·have:¬ (decide ((l.length:Int)>6))=true:=by simp; omega
  rw [if_neg this,if_neg h6]
  have hscan:iterC (b219_1 l) 1000000000 0=orE (scanN (lawF l) 0 l.length) (some 0):=by
   refine iter_scan l.length (b219_1 l) (lawF l) _ (by omega) ?_ ?_
   ·intro i hi
    simp only [b219_1,ltN hi,if_true,if_pos (rgN hi),Int.toNat_natCast,wS i (by omega),wP i (by omega),wPn,p59,p103,bindC,Option.isSome_some,Option.getD_some,implies_true,rgN hi,and_self,decide_true,if_true]
    unfold lawF
    have hor:((!(inR (l.getD i default).1 200 3000)) || (!(inR (l.getD i default).2 0 1000)))= !(inR (l.getD i default).1 200 3000 && inR (l.getD i default).2 0 1000):=by rw [Bool.not_and]
    rw [hor]
    rcases Bool.eq_false_or_eq_true (inR (l.getD i default).1 200 3000 && inR (l.getD i default).2 0 1000) with h | h
    ·rw [h]
     simp only [Bool.not_true,Bool.false_eq_true,if_false,if_true]
     by_cases h0:i=0
     ·have:(decide ((i:Int)>0))=false:=by simp [h0]
      simp only [this,Bool.false_eq_true,if_false,bne_self_eq_false]
      rw [if_pos h0]
     ·have e0:(decide ((i:Int)>0))=true:=by simp; omega
      simp only [e0,if_true,if_pos (rgP hi (by omega)),h0,if_false]
      show (if (decide (dX l i≤0) || decide (dY l i<0))=true then Ctl.out (some 9) else if decide (IntKind.i64.wrap (2*dY l i)>dX l i)=true then Ctl.out (some 22) else _)=_
      generalize dX l i=a
      generalize dY l i=b
      by_cases ha:0<a∧0≤b
      ·have hb:(decide (a≤0) || decide (b<0))=false:=by simp; exact ha
       rw [hb,if_pos ha]
       by_cases hc:IntKind.i64.wrap (2*b)≤a
       ·have:¬ IntKind.i64.wrap (2*b)>a:=by omega
        simp [hc,this]
       ·have:IntKind.i64.wrap (2*b)>a:=by omega
        simp [hc,this]
      ·have hb:(decide (a≤0) || decide (b<0))=true:=by simp; omega
       rw [hb,if_neg ha]; simp
    ·rw [h]
     simp
   ·simp [b219_1]
  rw [hscan]
  cases scanN (lawF l) 0 l.length<;>rfl
theorem p100a (l m:List (Int×Int)) (h6:l.length≤6) (e:Option Int) (he:e=orE (scanN (lawF l) 0 l.length) ((r76 l).bind fun v10=>(r76 m).bind fun v11=>(r226 [v10,v11]).bind fun v12=>iterC (b160_2 v10 v11 v12) 1000000000 0)):r160 l m=e:=by
 unfold r160
 have:¬ (decide ((l.length:Int)>6))=true:=by simp; omega
 rw [if_neg this,he]
 refine iter_scan l.length (b160_1 l m) (lawF l) _ (by omega) ?_ ?_
 ·intro i hi
  simp only [b160_1,ltN hi,if_true,if_pos (rgN hi),Int.toNat_natCast,wS i (by omega),wP i (by omega),wPn,p90,p140,p94,bindC,Option.isSome_some,Option.getD_some,implies_true]
  unfold lawF
  rcases Bool.eq_false_or_eq_true (inR (l.getD i default).1 200 3000 && inR (l.getD i default).2 0 1000) with h | h
  ·rw [h]
   simp only [code_t,if_true,beq_self_eq_true,Bool.true_and]
   by_cases h0:i=0
   ·have:(decide ((i:Int)>0))=false:=by simp [h0]
    simp only [this,Bool.false_eq_true,if_false,bne_self_eq_false]
    rw [if_pos h0]
   ·have e0:(decide ((i:Int)>0))=true:=by simp; omega
    simp only [e0,if_true,if_pos (rgP hi (by omega)),h0,if_false]
    rw [p91 _ (by simp)]
    simp only
    show (if (firstV [codeIf (decide (dX l i>0) && decide (dY l i≥0)) 9,codeIf (decide (IntKind.i64.wrap (2*dY l i)≤dX l i)) 22] != 0)=true then Ctl.out (some (firstV [codeIf (decide (dX l i>0) && decide (dY l i≥0)) 9,codeIf (decide (IntKind.i64.wrap (2*dY l i)≤dX l i)) 22])) else _)=_
    generalize dX l i=a
    generalize dY l i=b
    by_cases ha:0<a∧0≤b
    ·have hb:(decide (a>0) && decide (b≥0))=true:=by simp; exact ha
     rw [hb,if_pos ha]
     by_cases hc:IntKind.i64.wrap (2*b)≤a<;>simp [code_t,firstV,hc,codeIf]
    ·have hb:(decide (a>0) && decide (b≥0))=false:=by simp; omega
     rw [hb,if_neg ha]; simp [code_f,firstV]
  ·rw [h]
   simp [code_f]
 ·simp [b160_1]
theorem take_ext {α:Type} [Inhabited α] (l:List α) (i:Nat) (hi:i<l.length):l.take (i+1)=l.take i++[l.getD i default]:=by
 rw [List.take_add_one]; simp [List.getD_eq_getElem?_getD,hi]
theorem p148 (l:List (Int×Int)) (hl:l.length<1000000):r76 l=some l:=by
 unfold r76
 refine iter_run l.length (b76_1 l) (fun i=>(l.take i,(i:Int))) _ (by omega) ?_ ?_
 ·intro i hi
  have hlen:(l.take i).length=i:=by simp; omega
  simp only [b76_1,ltN hi,if_true,if_pos (rgN hi),Int.toNat_natCast,wS i (by omega),hlen]
  rw [if_pos ⟨by omega,by omega⟩,take_ext l i hi]
  rfl
 ·simp [b76_1]
theorem p150 (l:List (Int×Int)) (hl:l.length<1000000):r75 l=some l:=by
 unfold r75
 refine iter_run l.length (b75_1 l) (fun i=>(l.take i,(i:Int))) _ (by omega) ?_ ?_
 ·intro i hi
  have hlen:(l.take i).length=i:=by simp; omega
  simp only [b75_1,ltN hi,if_true,if_pos (rgN hi),Int.toNat_natCast,wS i (by omega),hlen]
  rw [if_pos ⟨by omega,by omega⟩,take_ext l i hi]
  rfl
 ·simp [b75_1]
theorem p149 (l m:List (Int×Int)) (hl:l.length<1000) (hm:m.length<1000):r226 [l,m]=some (l++m):=by
 unfold r226
 have e0:IntKind.i64.wrap (0+(l.length:Int))=l.length:=IntWalk.i64_in _ ⟨by omega,by omega⟩ |>.trans (by omega)
 have e1:IntKind.i64.wrap ((l.length:Int)+(m.length:Int))=l.length+m.length:=IntWalk.i64_in _ ⟨by omega,by omega⟩
 have e2:IntKind.i64.wrap (l.length:Int)=l.length:=IntWalk.i64_in _ ⟨by omega,by omega⟩
 have e3:IntKind.i64.wrap 1=1:=by decide
 have e4:IntKind.i64.wrap 2=2:=by decide
 refine iter_run 2 (b226_1 [l,m]) (fun i=>if i=0 then (0,0) else if i=1 then ((l.length:Int),1) else ((l.length:Int)+m.length,2)) _ (by omega) ?_ ?_
 ·intro i hi
  have:i=0∨i=1:=by omega
  rcases this with rfl | rfl
  ·have:¬ ((l.length:Int)<0):=by omega
   simp [b226_1,e2,e3,this]
  ·have:¬ ((l.length:Int)+m.length<0):=by omega
   simp [b226_1,e1,this,e4]
 ·simp only [b226_1,List.length_cons,List.length_nil]
  simp only [if_neg (show ¬ (2:Nat)=0 by decide),if_neg (show ¬ (2:Nat)=1 by decide)]
  rw [if_neg (by decide)]
  congr 1
  rw [if_pos ⟨by omega,by omega⟩]
  refine iter_run 2 (b226_2 [l,m]) (fun i=>if i=0 then (0,[]) else if i=1 then (1,l) else (2,l++m)) _ (by omega) ?_ ?_
  ·intro i hi
   have:i=0∨i=1:=by omega
   rcases this with rfl | rfl
   ·have c1:(l.length)*16≤140737488355328∧l.length≤9223372036854775807:=⟨by omega,by omega⟩
    simp [b226_2,c1,e3,e4]
   ·have c1:(l.length+m.length)*16≤140737488355328∧l.length+m.length≤9223372036854775807:=⟨by omega,by omega⟩
    simp [b226_2,c1,e3,e4]
  ·simp [b226_2]
end Go.Proofs.YthldpejmofhaoaaGreatDoor
namespace Go.Proofs.YthldpejmofhaoaaGreatDoor
open Go.Abs
theorem iter_scanS {σ ρ:Type} (n:Nat) (b:σ→Ctl σ ρ) (mk:Nat→σ) (f:Nat→Option ρ) (fin:Option ρ) (hn:n<1000000000)
 (step:∀ i:Nat,i<n→(∀ j,j<i→f j=none)→b (mk i)=match f i with | some v=> .out (some v) | none=> .next (mk (i+1)))
 (stop:(∀ j,j<n→f j=none)→b (mk n)= .out fin) :
 iterC b 1000000000 (mk 0)=orE (scanN f 0 n) fin:=by
 have key:∀ (k i fuel:Nat),(∀ j,j<i→f j=none)→i+k=n→k<fuel→iterC b fuel (mk i)=orE (scanN f i k) fin:=by
  intro k
  induction k with
  | zero=>
   intro i fuel hj hi hf
   obtain ⟨m,rfl⟩:∃ m,fuel=m+1:=⟨fuel - 1,by omega⟩
   obtain rfl:i=n:=by omega
   simp [iterC,stop hj,scanN,orE]
  | succ k ih=>
   intro i fuel hj hi hf
   obtain ⟨m,rfl⟩:∃ m,fuel=m+1:=⟨fuel - 1,by omega⟩
   simp only [iterC,step i (by omega) hj,scanN]
   cases hfx:f i with
   | none=>
    exact ih (i+1) m (fun j h=>by
     by_cases hji:j=i
     ·rw [hji]; exact hfx
     ·exact hj j (by omega)) (by omega) (by omega)
   | some v=>rfl
 exact key n 0 1000000000 (fun j h=>by omega) (by omega) hn
structure SortK (l:List (Int×Int)) (a b:Int):Prop where
 len:l.length<1000
 rng:∀ i,i<l.length→a≤(l.getD i default).1∧(l.getD i default).1≤b
 inc:∀ i,0<i→i<l.length→(l.getD (i - 1) default).1<(l.getD i default).1
theorem SortK.lt {l:List (Int×Int)} {a b:Int} (h:SortK l a b) {i:Nat}:∀ {j:Nat},i<j→j<l.length→(l.getD i default).1<(l.getD j default).1
 | 0,h1,_=>by omega
 | j+1,h1,h2=>by
  have:=h.inc (j+1) (by omega) h2
  rw [Nat.add_sub_cancel] at this
  by_cases hij:i=j
  ·rw [hij]; exact this
  ·have:=h.lt (i:=i) (j:=j) (by omega) (by omega); omega
theorem mul_in {x d:Int} (hx:0≤x) (hx2:x≤1000000) (hd:0<d) (hd2:d≤1000000):IntKind.i64.wrap (x*d)=x*d∧0≤x*d∧x*d≤1000000*1000000:=by
 have a1:0≤x*d:=Int.mul_nonneg hx (by omega)
 have a2:x*d≤1000000*d:=Int.mul_le_mul_of_nonneg_right hx2 (by omega)
 have a3:(1000000:Int)*d≤1000000*1000000:=Int.mul_le_mul_of_nonneg_left hd2 (by omega)
 exact ⟨IntWalk.i64_in _ ⟨by omega,by omega⟩,a1,by omega⟩
theorem ex_seg {l:List (Int×Int)} {a b:Int} (h:SortK l a b) (ha:0≤a) (hb:b≤1000000) (n d:Int) (hd:0<d) (hd2:d≤1000000) :
 ∃ k,k≤l.length∧r189 l n d=some (segV l n d k)∧r261 l n d=some (segV l n d k)∧(∀ i,i<k→(l.getD i default).1*d<n)∧(∀ i,k≤i→i<l.length→n≤(l.getD i default).1*d):=by
 obtain ⟨k,h1,h2,h3⟩:=first_ix (ltK l n d) l.length
 have hw:∀ i,i<l.length→IntKind.i64.wrap ((l.getD i default).1*d)=(l.getD i default).1*d:=fun i hi=>by
  have:=h.rng i hi
  exact (mul_in (by omega) (by omega) hd hd2).1
 have e:∀ i,i<l.length→(ltK l n d i↔(l.getD i default).1*d<n):=fun i hi=>by unfold ltK; rw [hw i hi]
 have h4:∀ i,k≤i→i<l.length→n≤(l.getD i default).1*d:=by
  intro i hi hil
  have h5:=h3 (by omega)
  rw [e k (by omega)] at h5
  by_cases hki:k=i
  ·subst hki; omega
  ·have:=h.lt (i:=k) (j:=i) (by omega) hil
   have:=Int.mul_le_mul_of_nonneg_right (Int.le_of_lt this) (show 0≤d by omega)
   omega
 have h5:∀ i,k≤i→i<l.length→¬ ltK l n d i:=fun i hi hil=>by rw [e i hil]; have:=h4 i hi hil; omega
 exact ⟨k,h1,p123 l n d h.len k h1 h2 h5,p131 l n d h.len k h1 h2 h3,fun i hi=>(e i (by omega)).1 (h2 i hi),h4⟩
theorem r131_some (l:List (Int×Int)) (n d:Int) (hl:l.length<1000):∃ v,r261 l n d=some v:=by
 obtain ⟨k,h1,h2,h3⟩:=first_ix (ltK l n d) l.length
 exact ⟨_,p131 l n d hl k h1 h2 h3⟩
structure LawOk (l:List (Int×Int)):Prop where
 len:l.length≤6
 srt:SortK l 200 3000
 yr:∀ i,i<l.length→0≤(l.getD i default).2∧(l.getD i default).2≤1000
 yinc:∀ i,0<i→i<l.length→(l.getD (i - 1) default).2≤(l.getD i default).2∧2*((l.getD i default).2 - (l.getD (i - 1) default).2)≤(l.getD i default).1 - (l.getD (i - 1) default).1
theorem inR_iff {a b c:Int}:inR a b c=true↔b≤a∧a≤c:=by simp [inR]
theorem lawOk_of {l:List (Int×Int)} (h:lawErrV l=0):LawOk l:=by
 obtain ⟨h6,hf⟩:=lawErr0 h
 have hr:∀ i,i<l.length→(200≤(l.getD i default).1∧(l.getD i default).1≤3000)∧0≤(l.getD i default).2∧(l.getD i default).2≤1000:=by
  intro i hi
  have:=hf i hi
  unfold lawF at this
  split at this
  ·rename_i hc
   rw [Bool.and_eq_true,inR_iff,inR_iff] at hc; exact hc
  ·cases this
 have hd:∀ i,0<i→i<l.length→(l.getD (i - 1) default).1<(l.getD i default).1∧(l.getD (i - 1) default).2≤(l.getD i default).2∧2*((l.getD i default).2 - (l.getD (i - 1) default).2)≤(l.getD i default).1 - (l.getD (i - 1) default).1:=by
  intro i h0 hi
  have:=hf i hi
  unfold lawF at this
  have a1:=hr i hi
  have a2:=hr (i - 1) (by omega)
  have ex:dX l i=(l.getD i default).1 - (l.getD (i - 1) default).1:=IntWalk.i64_in _ ⟨by omega,by omega⟩
  have ey:dY l i=(l.getD i default).2 - (l.getD (i - 1) default).2:=IntWalk.i64_in _ ⟨by omega,by omega⟩
  have e2:IntKind.i64.wrap (2*dY l i)=2*dY l i:=by rw [ey]; exact IntWalk.i64_in _ ⟨by omega,by omega⟩
  rw [e2,ex,ey] at this
  split at this
  ·rw [if_neg (by omega)] at this
   split at this
   ·rename_i hc
    split at this
    ·rename_i hc2; omega
    ·cases this
   ·cases this
  ·cases this
 exact ⟨h6,⟨by omega,fun i hi=>(hr i hi).1,fun i h0 hi=>(hd i h0 hi).1⟩,fun i hi=>(hr i hi).2,fun i h0 hi=>(hd i h0 hi).2⟩
def cmpAt (l m:List (Int×Int)) (i:Nat):Bool:=
 decide (IntKind.i64.wrap (((r261 l ((l++m).getD i default).1 1).getD default).1*((r261 m ((l++m).getD i default).1 1).getD default).2)<IntKind.i64.wrap (((r261 m ((l++m).getD i default).1 1).getD default).1*((r261 l ((l++m).getD i default).1 1).getD default).2))
def belowV (l m:List (Int×Int)):Bool:=(scanN (fun i=>if cmpAt l m i=true then some true else none) 0 (l.length+m.length)).getD false
theorem p105 (l m:List (Int×Int)) (hl:l.length<1000) (hm:m.length<1000):r220 l m=some (belowV l m):=by
 unfold r220
 rw [if_pos ⟨by omega,by omega⟩,if_pos ⟨by omega,by omega⟩]
 have hs:iterC (b220_1 l m) 1000000000 0=orE (scanN (fun i=>if cmpAt l m i=true then some true else none) 0 (l.length+m.length)) (some false):=by
  refine iter_scan (l.length+m.length) (b220_1 l m) _ _ (by omega) ?_ ?_
  ·intro i hi
   obtain ⟨u,hu⟩:=r131_some l ((l++m).getD i default).1 1 hl
   obtain ⟨v,hv⟩:=r131_some m ((l++m).getD i default).1 1 hm
   have e1:(decide ((i:Int)<((l++m).length:Int)))=true:=by simp; omega
   have e2:0≤(i:Int)∧(i:Int)<((l++m).length:Int):=by rw [List.length_append]; exact ⟨by omega,by omega⟩
   simp only [b220_1,e1,if_true,if_pos e2,Int.toNat_natCast,wS i (by omega),hu,hv,bindC,cmpAt,Option.getD_some]
   split<;>rfl
  ·have e1:(decide (((l.length+m.length:Nat):Int)<((l++m).length:Int)))=false:=by simp
   simp only [b220_1,e1,Bool.false_eq_true,if_false]
 rw [hs]; unfold belowV
 cases scanN (fun i=>if cmpAt l m i=true then some true else none) 0 (l.length+m.length)<;>rfl
theorem seg_eq {l:List (Int×Int)} {a b:Int} (h:SortK l a b) (ha:0≤a) (hb:b≤1000000) (n d:Int) (hd:0<d) (hd2:d≤1000000):r189 l n d=r261 l n d:=by
 obtain ⟨k,_,h1,h2,_⟩:=ex_seg h ha hb n d hd hd2
 rw [h1,h2]
theorem sort_nil:SortK [] 200 3000:=⟨by simp,fun i h=>by simp at h,fun i _ h=>by simp at h⟩
theorem p100 (l m:List (Int×Int)) (hm:SortK m 200 3000) (hl:l.length<1000):r160 l m=some (if lawErrV l=0 then (if belowV l m=true then 13 else 0) else lawErrV l):=by
 by_cases h6:6<l.length
 ·have e:lawErrV l=8:=by unfold lawErrV; rw [if_pos h6]
  rw [e]
  unfold r160
  have:(decide ((l.length:Int)>6))=true:=by simp; omega
  rw [if_pos this]; rfl
 ·rw [p100a l m (by omega) _ rfl]
  have hm':=hm.len
  rw [p148 l (by omega),p148 m (by omega),Option.bind_some,Option.bind_some,p149 l m hl hm',Option.bind_some]
  by_cases h0:lawErrV l=0
  ·have ok:=lawOk_of h0
   rw [if_pos h0,scan_all (fun j _ hj=>(lawErr0 h0).2 j (by omega)),orE_none]
   have hs:iterC (b160_2 l m (l++m)) 1000000000 0=orE (scanN (fun i=>if cmpAt l m i=true then some (13:Int) else none) 0 (l.length+m.length)) (some 0):=by
    refine iter_scan (l.length+m.length) (b160_2 l m (l++m)) _ _ (by omega) ?_ ?_
    ·intro i hi
     obtain ⟨u,hu⟩:=r131_some l ((l++m).getD i default).1 1 hl
     obtain ⟨v,hv⟩:=r131_some m ((l++m).getD i default).1 1 hm'
     have hi2:i<(l++m).length:=by simp; omega
     simp only [b160_2,ltN hi2,if_true,if_pos (rgN hi2),Int.toNat_natCast,wS i (by omega),seg_eq ok.srt (by omega) (by omega) ((l++m).getD i default).1 1 (by omega) (by omega),seg_eq hm (by omega) (by omega) ((l++m).getD i default).1 1 (by omega) (by omega),hu,hv,bindC,cmpAt,Option.getD_some]
     split<;>rfl
    ·have e1:(decide (((l.length+m.length:Nat):Int)<((l++m).length:Int)))=false:=by simp
     simp only [b160_2,e1,Bool.false_eq_true,if_false]
   rw [hs]; unfold belowV
   cases h1:scanN (fun i=>if cmpAt l m i=true then some (13:Int) else none) 0 (l.length+m.length) with
   | none=>
    rw [scan_all (f:=fun i=>if cmpAt l m i=true then some true else none) (fun j a1 a2=>by
     have:=scan_none h1 j a1 a2
     skip
     split at this
     ·cases this
     ·rename_i hc; rw [if_neg hc])]
    rfl
   | some v=>
    obtain ⟨j,a1,a2,a3⟩:=scan_some h1
    have hc:cmpAt l m j=true:=by
     skip
     split at a3
     ·assumption
     ·cases a3
    have hv:v=13:=by simp only [hc,if_true] at a3; injection a3 with a3; exact a3.symm
    cases h2:scanN (fun i=>if cmpAt l m i=true then some true else none) 0 (l.length+m.length) with
    | none=>
     have:=scan_none h2 j a1 a2
     simp only [hc,if_true] at this
     cases this
    | some w=>
     obtain ⟨j',b1,b2,b3⟩:=scan_some h2
     have hw:w=true:=by
      skip
      split at b3
      ·injection b3 with b3; exact b3.symm
      ·cases b3
     rw [hv,hw]; rfl
  ·rw [if_neg h0]
   unfold lawErrV at h0 ⊢
   rw [if_neg h6] at h0 ⊢
   cases hs:scanN (lawF l) 0 l.length with
   | none=>rw [hs] at h0; exact absurd rfl h0
   | some v=>rfl
end Go.Proofs.YthldpejmofhaoaaGreatDoor
namespace Go.Proofs.YthldpejmofhaoaaGreatDoor
open Go.Abs
def setF (L:List (List (Int×Int))) (i:Nat):Option (Int×Int):=
 if lawErrV (L.getD i default)=0 then (if 0<i∧belowV (L.getD i default) (L.getD (i - 1) default)=true then some ((i:Int),13) else none)
 else some ((i:Int),lawErrV (L.getD i default))
def setupErrV (a b:Int) (T:List (Int×Int)) (L:List (List (Int×Int))):Int×Int:=
 if (inR a 1 12 && inR b 0 500)=true then
  if T.length<2 then (0,10) else if 8<T.length then (0,8)
  else match scanN (tabF T) 0 T.length with
   | some v=>v
   | none=>if 4<L.length then (0,8) else (scanN (setF L) 0 L.length).getD (0,0)
 else (0,2)
theorem tabF_ne {l:List (Int×Int)} {i:Nat} {v:Int×Int} (h:tabF l i=some v):v.2≠0:=by
 unfold tabF at h
 repeat' split at h
 all_goals first | (injection h with h; subst h; simp) | cases h
theorem setF_ok {L:List (List (Int×Int))} {i:Nat} (h:setF L i=none):lawErrV (L.getD i default)=0:=by
 unfold setF at h
 split at h
 ·assumption
 ·cases h
theorem setF_ne {L:List (List (Int×Int))} {i:Nat} {v:Int×Int} (h:setF L i=some v):v.2≠0:=by
 unfold setF at h
 split at h
 ·split at h
  ·injection h with h; subst h; simp
  ·cases h
 ·injection h with h; subst h; assumption
theorem lawlen {L:List (List (Int×Int))} (hL:∀ x∈L,x.length<1000) (i:Nat):(L.getD i default).length<1000:=by
 by_cases hi:i<L.length
 ·exact hL _ (by simp [List.getD_eq_getElem?_getD,hi])
 ·have:L.getD i default=default:=by simp [List.getD_eq_getElem?_getD,hi]
  rw [this]; exact (by decide:([]:List (Int×Int)).length<1000)
theorem below_nil {l:List (Int×Int)} (h:LawOk l):belowV l []=false:=by
 unfold belowV
 rw [scan_all (fun j a1 a2=> ?_)]
 ·rfl
 ·simp only [List.length_nil,Nat.add_zero,Nat.zero_add] at a2
  have hj:=h.srt.rng j a2
  obtain ⟨k,h1,h2,h3,h4,h5⟩:=ex_seg h.srt (by omega) (by omega) (l.getD j default).1 1 (by omega) (by omega)
  have hk:k=j:=by
   by_cases hlt:k<j
   ·have:=h5 k (Nat.le_refl _) (by omega)
    have:=h.srt.lt hlt a2
    omega
   ·by_cases hgt:j<k
    ·have:=h4 j hgt; omega
    ·omega
  subst hk
  have hn:r261 [] (l.getD k default).1 1=some (0,1):=rfl
  have hc:cmpAt l [] k=false:=by
   unfold cmpAt
   rw [List.append_nil,h3,hn]
   simp only [Option.getD_some,Int.zero_mul,Int.mul_one]
   have:0≤(segV l (l.getD k default).1 1 k).1∧(segV l (l.getD k default).1 1 k).1<10000000000:=by
    unfold segV
    rw [if_neg (by omega)]
    have hy:=h.yr k a2
    by_cases hk0:k=0
    ·subst hk0; rw [if_pos rfl]; simp only; omega
    ·rw [if_neg hk0,if_neg (by omega)]
     have hx2:=h.srt.rng (k - 1) (by omega)
     have hy2:=h.yr (k - 1) (by omega)
     have hi:=h.srt.inc k (by omega) a2
     have hyi:=h.yinc k (by omega) a2
     generalize (l.getD k default).1=x1 at*
     generalize (l.getD (k - 1) default).1=x0 at*
     generalize (l.getD k default).2=y1 at*
     generalize (l.getD (k - 1) default).2=y0 at*
     have e1:IntKind.i64.wrap (x1 - x0)=x1 - x0:=IntWalk.i64_in _ ⟨by omega,by omega⟩
     have e2:IntKind.i64.wrap (x0*1)=x0:=by rw [Int.mul_one]; exact IntWalk.i64_in _ ⟨by omega,by omega⟩
     have e3:IntKind.i64.wrap ((x1 - x0)*1)=x1 - x0:=by rw [Int.mul_one,e1]
     have e4:IntKind.i64.wrap (y1 - y0)=y1 - y0:=IntWalk.i64_in _ ⟨by omega,by omega⟩
     simp only [e1,e2,e3,e4]
     have b1:0≤y0*(x1 - x0):=Int.mul_nonneg (by omega) (by omega)
     have b2:y0*(x1 - x0)≤1000*(x1 - x0):=Int.mul_le_mul_of_nonneg_right (by omega) (by omega)
     have b3:0≤(y1 - y0)*(x1 - x0):=Int.mul_nonneg (by omega) (by omega)
     have b4:(y1 - y0)*(x1 - x0)≤1000*(x1 - x0):=Int.mul_le_mul_of_nonneg_right (by omega) (by omega)
     have e5:IntKind.i64.wrap (y0*(x1 - x0))=y0*(x1 - x0):=IntWalk.i64_in _ ⟨by omega,by omega⟩
     have e6:IntKind.i64.wrap ((y1 - y0)*(x1 - x0))=(y1 - y0)*(x1 - x0):=IntWalk.i64_in _ ⟨by omega,by omega⟩
     rw [e5,e6]
     have e7:IntKind.i64.wrap (y0*(x1 - x0)+(y1 - y0)*(x1 - x0))=y0*(x1 - x0)+(y1 - y0)*(x1 - x0):=IntWalk.i64_in _ ⟨by omega,by omega⟩
     rw [e7]; omega
   generalize (segV l (l.getD k default).1 1 k).1=z at this
   have ez:IntKind.i64.wrap z=z:=IntWalk.i64_in _ ⟨by omega,by omega⟩
   have e0:IntKind.i64.wrap 0=0:=by decide
   rw [ez,e0]
   simp; omega
  simp only [hc,Bool.false_eq_true,if_false]
theorem p24L (L:List (List (Int×Int))) (hn:L.length<1000) (hL:∀ x∈L,x.length<1000):iterC (b72_1 L) 1000000000 ([],0)=some ((scanN (setF L) 0 L.length).getD (0,0)):=by
 have h:=iter_scanS L.length (b72_1 L) (fun i=>(if i=0 then [] else L.getD (i - 1) default,(i:Int))) (setF L) (some (0,0)) (by omega)
  (fun i hi hj=>by
   have hprev:SortK (if i=0 then [] else L.getD (i - 1) default) 200 3000:=by
    split
    ·exact sort_nil
    ·exact (lawOk_of (setF_ok (hj (i - 1) (by omega)))).srt
   simp only [b72_1,ltN hi,if_true,if_pos (rgN hi),Int.toNat_natCast,wS i (by omega),p100 _ _ hprev (lawlen hL i),bindC]
   unfold setF
   by_cases h0:lawErrV (L.getD i default)=0
   ·simp only [h0,if_true]
    by_cases hi0:i=0
    ·subst hi0
     simp only [if_true,below_nil (lawOk_of h0),Bool.false_eq_true,if_false,bne_self_eq_false,Nat.lt_irrefl,false_and]
     rfl
    ·have hpos:0<i:=by omega
     simp only [hi0,if_false,hpos,true_and]
     by_cases hb:belowV (L.getD i default) (L.getD (i - 1) default)=true
     ·simp [hb,-List.getD_eq_getElem?_getD]
     ·simp [hb,-List.getD_eq_getElem?_getD]
   ·simp [h0,-List.getD_eq_getElem?_getD])
  (fun _=>by simp [b72_1])
 have h0:iterC (b72_1 L) 1000000000 ([],0)=_:=h
 rw [h0]
 cases scanN (setF L) 0 L.length<;>rfl
theorem p26L (L:List (List (Int×Int))) (hn:L.length<1000) (hL:∀ x∈L,x.length<1000):iterC (b153_2 L) 1000000000 0=some ((scanN (setF L) 0 L.length).getD (0,0)):=by
 have h:=iter_scanS L.length (b153_2 L) (fun i=>(i:Int)) (setF L) (some (0,0)) (by omega)
  (fun i hi hj=>by
   simp only [b153_2,ltN hi,if_true,if_pos (rgN hi),Int.toNat_natCast,wS i (by omega),wP i (by omega),wPn,p104,bindC]
   unfold setF
   by_cases h0:lawErrV (L.getD i default)=0
   ·simp only [h0,if_true,bne_self_eq_false,Bool.false_eq_true,if_false]
    rw [p105 _ _ (lawlen hL i) (lawlen hL (i - 1))]
    simp only [Option.isSome_some,implies_true,if_true,Option.getD_some,rgN hi,and_self,decide_true]
    by_cases hi0:i=0
    ·subst hi0
     simp
    ·have hpos:0<i:=by omega
     have e1:(decide ((i:Int)>0))=true:=by simp; omega
     rw [if_pos (fun _=>rgP hi hpos)]
     simp only [e1,Bool.true_and,hpos,true_and]
     by_cases hb:belowV (L.getD i default) (L.getD (i - 1) default)=true
     ·simp [hb,-List.getD_eq_getElem?_getD]
     ·simp [hb,-List.getD_eq_getElem?_getD]
   ·simp [h0,-List.getD_eq_getElem?_getD])
  (fun _=>by simp [b153_2])
 have h0:iterC (b153_2 L) 1000000000 0=_:=h
 rw [h0]
 cases scanN (setF L) 0 L.length<;>rfl
theorem p24 (a b:Int) (T:List (Int×Int)) (L:List (List (Int×Int))) (hn:L.length<1000) (hL:∀ x∈L,x.length<1000):r72 a b T L=some (setupErrV a b T L):=by
 unfold r72 setupErrV
 rw [p90,Option.bind_some,p90,gS,Option.getD_some]
 have hor:((!(inR a 1 12)) || (!(inR b 0 500)))= !(inR a 1 12 && inR b 0 500):=by rw [Bool.not_and]
 rcases Bool.eq_false_or_eq_true (inR a 1 12 && inR b 0 500) with h | h
 ·rw [if_neg (show ¬ (!(inR a 1 12) || !(inR b 0 500))=true by rw [hor,h]; decide),if_pos h,p99]
  by_cases h2:T.length<2
  ·simp [h2]
  ·rw [if_neg h2,if_neg h2]
   by_cases h8:8<T.length
   ·simp [h8]
   ·rw [if_neg h8,if_neg h8]
    cases hs:scanN (tabF T) 0 T.length with
    | some v=>
     obtain ⟨j,_,_,hj⟩:=scan_some hs
     have:=tabF_ne hj
     rw [orE_some,Option.bind_some,if_pos (by simpa using this)]
    | none=>
     rw [orE_none,Option.bind_some,if_neg (by decide),p24L L hn hL]
     by_cases h4:4<L.length
     ·have:(decide ((L.length:Int)>4))=true:=by simp; omega
      rw [if_pos this,if_pos h4]
     ·have:¬ (decide ((L.length:Int)>4))=true:=by simp; omega
      rw [if_neg this,if_neg h4]
 ·rw [if_pos (show (!(inR a 1 12) || !(inR b 0 500))=true by rw [hor,h]; decide),if_neg (by rw [h]; decide)]
theorem p26 (a b:Int) (T:List (Int×Int)) (L:List (List (Int×Int))) (hn:L.length<1000) (hL:∀ x∈L,x.length<1000):r153 a b T L=some (setupErrV a b T L):=by
 unfold r153 setupErrV
 rw [p59,Option.bind_some,p59,gS,Option.getD_some]
 have hor:((!(inR a 1 12)) || (!(inR b 0 500)))= !(inR a 1 12 && inR b 0 500):=by rw [Bool.not_and]
 rcases Bool.eq_false_or_eq_true (inR a 1 12 && inR b 0 500) with h | h
 ·rw [if_neg (show ¬ (!(inR a 1 12) || !(inR b 0 500))=true by rw [hor,h]; decide),if_pos h]
  by_cases h2:T.length<2
  ·have:(decide ((T.length:Int)<2))=true:=by simp; omega
   rw [if_pos this,if_pos h2]
  ·have:¬ (decide ((T.length:Int)<2))=true:=by simp; omega
   rw [if_neg this,if_neg h2]
   by_cases h8:8<T.length
   ·have:(decide ((T.length:Int)>8))=true:=by simp; omega
    rw [if_pos this,if_pos h8]
   ·have:¬ (decide ((T.length:Int)>8))=true:=by simp; omega
    rw [if_neg this,if_neg h8,p26a T L (by omega)]
    cases hs:scanN (tabF T) 0 T.length with
    | some v=>rfl
    | none=>
     rw [orE_none,p26L L hn hL]
     by_cases h4:4<L.length
     ·have:(decide ((L.length:Int)>4))=true:=by simp; omega
      rw [if_pos this,if_pos h4]
     ·have:¬ (decide ((L.length:Int)>4))=true:=by simp; omega
      rw [if_neg this,if_neg h4]
 ·rw [if_pos (show (!(inR a 1 12) || !(inR b 0 500))=true by rw [hor,h]; decide),if_neg (by rw [h]; decide)]
structure SetOk (a b:Int) (T:List (Int×Int)) (L:List (List (Int×Int))):Prop where
 cells:1≤a∧a≤12
 mix:0≤b∧b≤500
 tlen:2≤T.length∧T.length≤8
 srt:SortK T 0 1000000
 yr:∀ i,i<T.length→200≤(T.getD i default).2∧(T.getD i default).2≤3000
 yinc:∀ i,0<i→i<T.length→(T.getD (i - 1) default).2<(T.getD i default).2∧(T.getD i default).2 - (T.getD (i - 1) default).2≤(T.getD i default).1 - (T.getD (i - 1) default).1
 llen:L.length≤4
 laws:∀ i,i<L.length→LawOk (L.getD i default)
 below:∀ i,0<i→i<L.length→belowV (L.getD i default) (L.getD (i - 1) default)=false
theorem setOk_of {a b:Int} {T:List (Int×Int)} {L:List (List (Int×Int))} (h:(setupErrV a b T L).2=0):SetOk a b T L:=by
 unfold setupErrV at h
 split at h
 ·rename_i hc
  rw [Bool.and_eq_true,inR_iff,inR_iff] at hc
  split at h
  ·cases h
  ·rename_i h2
   split at h
   ·cases h
   ·rename_i h8
    split at h
    ·rename_i v hs
     obtain ⟨j,_,_,hj⟩:=scan_some hs
     exact absurd h (tabF_ne hj)
    ·rename_i hs
     split at h
     ·cases h
     ·rename_i h4
      cases hs2:scanN (setF L) 0 L.length with
      | some v=>
       obtain ⟨j,_,_,hj⟩:=scan_some hs2
       rw [hs2] at h
       exact absurd h (setF_ne hj)
      | none=>
       have hT:∀ i,i<T.length→tabF T i=none:=fun i hi=>scan_none hs i (by omega) (by omega)
       have hr:∀ i,i<T.length→(0≤(T.getD i default).1∧(T.getD i default).1≤1000000)∧200≤(T.getD i default).2∧(T.getD i default).2≤3000:=by
        intro i hi
        have:=hT i hi
        unfold tabF at this
        split at this
        ·rename_i hc
         rw [Bool.and_eq_true,inR_iff,inR_iff] at hc; exact hc
        ·cases this
       have hd:∀ i,0<i→i<T.length→(T.getD (i - 1) default).1<(T.getD i default).1∧(T.getD (i - 1) default).2<(T.getD i default).2∧(T.getD i default).2 - (T.getD (i - 1) default).2≤(T.getD i default).1 - (T.getD (i - 1) default).1:=by
        intro i h0 hi
        have:=hT i hi
        unfold tabF at this
        have a1:=hr i hi
        have a2:=hr (i - 1) (by omega)
        have ex:dX T i=(T.getD i default).1 - (T.getD (i - 1) default).1:=IntWalk.i64_in _ ⟨by omega,by omega⟩
        have ey:dY T i=(T.getD i default).2 - (T.getD (i - 1) default).2:=IntWalk.i64_in _ ⟨by omega,by omega⟩
        rw [ex,ey] at this
        split at this
        ·rw [if_neg (by omega)] at this
         split at this
         ·rename_i hc
          split at this
          ·rename_i hc2; omega
          ·cases this
         ·cases this
        ·cases this
       have hS:∀ i,i<L.length→setF L i=none:=fun i hi=>scan_none hs2 i (by omega) (by omega)
       refine ⟨hc.1,hc.2,⟨by omega,by omega⟩,⟨by omega,fun i hi=>(hr i hi).1,fun i h0 hi=>(hd i h0 hi).1⟩,fun i hi=>(hr i hi).2,fun i h0 hi=>(hd i h0 hi).2,by omega,fun i hi=>lawOk_of (setF_ok (hS i hi)),fun i h0 hi=> ?_⟩
       have:=hS i hi
       unfold setF at this
       rw [if_pos (setF_ok (hS i hi))] at this
       split at this
       ·cases this
       ·rename_i hn
        have:¬ belowV (L.getD i default) (L.getD (i - 1) default)=true:=fun hb=>hn ⟨h0,hb⟩
        simpa using this
 ·cases h
end Go.Proofs.YthldpejmofhaoaaGreatDoor
namespace Go.Proofs.YthldpejmofhaoaaGreatDoor
open Go.Abs
def fewV (T:List (Int×Int)) (L:List (List (Int×Int))):Bool:=
 decide (T.length≤10) && decide (L.length≤6) && L.all (fun l=>decide (l.length≤8))
theorem p15 (a b:Int) (T:List (Int×Int)) (L:List (List (Int×Int))):r7 a b T L=some (fewV T L):=by
 unfold r7 fewV
 by_cases h:T.length≤10∧L.length≤6
 ·have e:¬ ((decide ((T.length:Int)>10)) || (decide ((L.length:Int)>6)))=true:=by simp; omega
  rw [if_neg e]
  have hs:iterC (b7_1 L) 1000000000 0=orE (scanN (fun i=>if (L.getD i default).length≤8 then none else some false) 0 L.length) (some true):=by
   refine iter_scan L.length (b7_1 L) _ _ (by omega) ?_ ?_
   ·intro i hi
    simp only [b7_1,ltN hi,if_true,if_pos (rgN hi),Int.toNat_natCast,wS i (by omega)]
    by_cases h8:(L.getD i default).length≤8
    ·have:¬ (decide (((L.getD i default).length:Int)>8))=true:=by rw [decide_eq_true_eq]; omega
     rw [if_neg this,if_pos h8]
    ·have:(decide (((L.getD i default).length:Int)>8))=true:=by rw [decide_eq_true_eq]; omega
     rw [if_pos this,if_neg h8]
   ·simp [b7_1]
  rw [hs]
  have h1:(decide (T.length≤10) && decide (L.length≤6))=true:=by simp; omega
  rw [h1,Bool.true_and]
  cases hq:scanN (fun i=>if (L.getD i default).length≤8 then none else some false) 0 L.length with
  | none=>
   have:L.all (fun l=>decide (l.length≤8))=true:=by
    rw [List.all_eq_true]
    intro x hx
    obtain ⟨i,hi,rfl⟩:=List.mem_iff_getElem.1 hx
    have:=scan_none hq i (by omega) (by omega)
    split at this
    ·rename_i h8
     simpa [List.getD_eq_getElem?_getD,hi] using h8
    ·cases this
   rw [this]; rfl
  | some v=>
   obtain ⟨j,_,hj,hv⟩:=scan_some hq
   split at hv
   ·cases hv
   ·rename_i h8
    have:L.all (fun l=>decide (l.length≤8))=false:=by
     rw [List.all_eq_false]
     have hj':j<L.length:=by omega
     refine ⟨L[j],List.getElem_mem hj',?_⟩
     have e:L.getD j default=L[j]:=by simp [List.getD_eq_getElem?_getD,hj']
     rw [e] at h8
     simpa using h8
    rw [this]
    injection hv with hv; subst hv; rfl
 ·have e:((decide ((T.length:Int)>10)) || (decide ((L.length:Int)>6)))=true:=by simp; omega
  rw [if_pos e]
  have:(decide (T.length≤10) && decide (L.length≤6))=false:=by simp; omega
  rw [this]; rfl
theorem few_of {T:List (Int×Int)} {L:List (List (Int×Int))} (h:fewV T L=true):T.length≤10∧L.length≤6∧∀ x∈L,x.length<1000:=by
 unfold fewV at h
 simp only [Bool.and_eq_true,decide_eq_true_eq,List.all_eq_true] at h
 exact ⟨h.1.1,h.1.2,fun x hx=>by have:=h.2 x hx; omega⟩
theorem p18 (a b:Int) (T:List (Int×Int)) (L:List (List (Int×Int))) (hT:T.length<1000) (hn:L.length<1000) (hL:∀ x∈L,x.length<1000):r14 a b T L=some (a,b,T,L):=by
 unfold r14
 rw [if_pos ⟨by omega,by omega⟩]
 refine iter_run L.length (b14_1 a b T L) (fun i=>((i:Int),L.take i)) _ (by omega) ?_ ?_
 ·intro i hi
  have hlen:(L.take i).length=i:=by simp; omega
  have h2:=lawlen hL i
  simp only [b14_1,ltN hi,if_true,if_pos (rgN hi),Int.toNat_natCast,wS i (by omega),hlen]
  rw [if_pos ⟨by omega,by omega⟩,if_pos ⟨by omega,by omega⟩,take_ext L i hi]
  rfl
 ·simp [b14_1]
theorem p101 (a b:Int) (T:List (Int×Int)) (L:List (List (Int×Int))) (hT:T.length<1000) (hn:L.length<1000) (hL:∀ x∈L,x.length<1000) :
 r98 a b T L=some (if (setupErrV a b T L).2=0 then (a,b,T,L,T,L,0) else (0,0,[],[],[],[],(setupErrV a b T L).2)):=by
 unfold r98
 rw [p24 a b T L hn hL,Option.bind_some]
 by_cases h:(setupErrV a b T L).2=0
 ·rw [if_neg (by simpa using h),if_pos h,p150 T (by omega),Option.bind_some]
  refine iter_run L.length (b98_1 a b T L T) (fun i=>((i:Int),L.take i)) _ (by omega) ?_ ?_
  ·intro i hi
   have hlen:(L.take i).length=i:=by simp; omega
   have h2:=lawlen hL i
   simp only [b98_1,ltN hi,if_true,if_pos (rgN hi),Int.toNat_natCast,wS i (by omega),hlen,p148 _ (show (L.getD i default).length<1000000 by omega),bindC]
   rw [if_pos ⟨by omega,by omega⟩,take_ext L i hi]
   rfl
  ·simp [b98_1]
 ·rw [if_pos (by simpa using h),if_neg h]
def inT (T:List (Int×Int)) (e:Int):Bool:=inR e (T.getD 0 default).1 (T.getD (T.length - 1) default).1
theorem p56 (a b:Int) (T:List (Int×Int)) (L:List (List (Int×Int))) (e:Int) (h:0<T.length) (h2:T.length<1000):r49 a b T L e=some (inT T e):=by
 unfold r49
 rw [wP T.length (by omega),wPn,if_pos ⟨by omega,by omega⟩,if_pos ⟨by omega,by omega⟩,p59,Option.bind_some]
 rfl
theorem p120 (a b:Int) (T:List (Int×Int)) (L:List (List (Int×Int))) (T2:List (Int×Int)) (L2:List (List (Int×Int))) (e:Int) (h:0<T2.length) (h2:T2.length<1000):r99 a b T L T2 L2 e=some (inT T2 e):=by
 unfold r99
 rw [wP T2.length (by omega),wPn,if_pos ⟨by omega,by omega⟩,if_pos ⟨by omega,by omega⟩,p90,Option.bind_some]
 rfl
def stF (T:List (Int×Int)) (s:List Int) (i:Nat):Option (Int×Int):=if inT T (s.getD i default)=true then none else some ((i:Int),2)
def stateErrV (a:Int) (T:List (Int×Int)) (s:List Int):Int×Int:=if (s.length:Int)=a then (scanN (stF T s) 0 s.length).getD (0,0) else (0,10)
theorem p27 (a b:Int) (T:List (Int×Int)) (L:List (List (Int×Int))) (s:List Int) (h:0<T.length) (h2:T.length<1000) (hs:s.length<1000000):r66 a b T L s=some (stateErrV a T s):=by
 unfold r66 stateErrV
 by_cases ha:(s.length:Int)=a
 ·rw [if_neg (by simpa using ha),if_pos ha]
  have hq:iterC (b66_1 a b T L s) 1000000000 0=orE (scanN (stF T s) 0 s.length) (some (0,0)):=by
   refine iter_scan s.length (b66_1 a b T L s) _ _ (by omega) ?_ ?_
   ·intro i hi
    simp only [b66_1,ltN hi,if_true,if_pos (rgN hi),Int.toNat_natCast,wS i (by omega),p56 a b T L _ h h2,bindC,stF]
    generalize inT T (s.getD i default)=q
    cases q<;>simp
   ·simp [b66_1]
  rw [hq]
  cases scanN (stF T s) 0 s.length<;>rfl
 ·rw [if_pos (by simpa using ha),if_neg ha]
def idF (T:List (Int×Int)) (s:List Int) (i:Nat):Option Int:=if inT T (s.getD i default)=true then none else some (i:Int)
theorem p102 (a b:Int) (T:List (Int×Int)) (L:List (List (Int×Int))) (T2:List (Int×Int)) (L2:List (List (Int×Int))) (s:List Int) (h:0<T2.length) (h2:T2.length<1000) (hs:s.length<1000000):r165 a b T L T2 L2 s=some (stateErrV a T2 s):=by
 unfold r165 stateErrV
 by_cases ha:(s.length:Int)=a
 ·rw [if_neg (by simpa using ha),if_pos ha]
  have hq:r170 s a b T L T2 L2=orE (scanN (idF T2 s) 0 s.length) (some (-1)):=by
   refine iter_scan s.length (b170_1 s a b T L T2 L2) _ _ (by omega) ?_ ?_
   ·intro i hi
    simp only [b170_1,ltN hi,if_true,if_pos (rgN hi),Int.toNat_natCast,wS i (by omega),r230,p120 a b T L T2 L2 _ h h2,Option.bind_some,bindC,idF]
    generalize inT T2 (s.getD i default)=q
    cases q<;>simp
   ·simp [b170_1]
  rw [hq]
  have hm:∀ k i,scanN (stF T2 s) i k=(scanN (idF T2 s) i k).map fun v=>(v,2):=by
   intro k
   induction k with
   | zero=>intro i; rfl
   | succ k ih=>
    intro i
    simp only [scanN,stF,idF]
    split<;>simp_all [stF,idF]
  rw [hm]
  cases hv:scanN (idF T2 s) 0 s.length with
  | none=>rfl
  | some v=>
   obtain ⟨j,_,_,hj⟩:=scan_some hv
   have:0≤v:=by
    unfold idF at hj
    split at hj
    ·cases hj
    ·injection hj with hj; omega
   rw [orE_some,Option.bind_some,if_pos (decide_eq_true this)]; rfl
 ·rw [if_pos (by simpa using ha),if_neg ha]
theorem SetOk.tpos {a b:Int} {T:List (Int×Int)} {L:List (List (Int×Int))} (h:SetOk a b T L):0<T.length:=by have:=h.tlen; omega
theorem SetOk.tlt {a b:Int} {T:List (Int×Int)} {L:List (List (Int×Int))} (h:SetOk a b T L):T.length<1000:=by have:=h.tlen; omega
end Go.Proofs.YthldpejmofhaoaaGreatDoor
namespace Go.Proofs.YthldpejmofhaoaaGreatDoor
open Go.Abs
theorem mulB {x y X Y:Int} (h1:0≤x) (h2:x≤X) (h3:0≤y) (h4:y≤Y):0≤x*y∧x*y≤X*Y:=
 ⟨Int.mul_nonneg h1 h3,Int.le_trans (Int.mul_le_mul_of_nonneg_right h2 h3) (Int.mul_le_mul_of_nonneg_left h4 (by omega))⟩
structure At (v:Rat) (A B Bm Y:Int):Prop where
 pos:0<B
 le:B≤Bm
 num:0≤A∧A≤Y*B
 eq:(A:Rat)=v*B
structure Poly (l:List (Int×Int)) (a b:Int):Prop where
 srt:SortK l a b
 yr:∀ i,i<l.length→0≤(l.getD i default).2∧(l.getD i default).2≤3000
 yinc:∀ i,0<i→i<l.length→(l.getD (i - 1) default).2≤(l.getD i default).2
theorem seg_pl {l:List (Int×Int)} {a b:Int} (h:Poly l a b) (ha:0≤a) (hb:b≤1000000) (n d:Int) (hd:0<d) (hd2:d≤1000000) :
 ∃ A B,r189 l n d=some (A,B)∧r261 l n d=some (A,B)∧At (pl l ((n:Rat) / d)) A B (1000000*d) 3000:=by
 obtain ⟨k,hk,h1,h2,h3,h4⟩:=ex_seg h.srt ha hb n d hd hd2
 have d0:(0:Rat)<d:=Rat.intCast_pos.2 hd
 have hv:=pl_val l ((n:Rat) / d) k hk
  (fun i hi=>by rw [Rat.lt_div_iff d0, ← Rat.intCast_mul]; exact Rat.intCast_lt_intCast.2 (h3 i hi))
  (fun i hi hil=>by rw [← Rat.not_lt,Rat.lt_div_iff d0, ← Rat.intCast_mul,Rat.not_lt]; exact Rat.intCast_le_intCast.2 (h4 i hi hil))
 rw [h1,h2,hv]
 refine ⟨(segV l n d k).1,(segV l n d k).2,rfl,rfl,?_⟩
 unfold segV valK
 have hone:(1:Int)≤1000000*d:=by omega
 by_cases h0:l.length=0
 ·rw [if_pos h0,if_pos h0]
  exact ⟨Int.one_pos,hone,⟨by decide,by decide⟩,by simp⟩
 ·rw [if_neg h0,if_neg h0]
  by_cases hk0:k=0
  ·rw [if_pos hk0,if_pos hk0]
   have:=h.yr 0 (by omega)
   exact ⟨Int.one_pos,hone,⟨this.1,by simpa using this.2⟩,by simp⟩
  ·rw [if_neg hk0,if_neg hk0]
   by_cases hkl:k=l.length
   ·rw [if_pos hkl,if_pos hkl]
    have:=h.yr (k - 1) (by omega)
    exact ⟨Int.one_pos,hone,⟨this.1,by simpa using this.2⟩,by simp⟩
   ·rw [if_neg hkl,if_neg hkl]
    have a1:=h.srt.rng k (by omega)
    have a2:=h.srt.rng (k - 1) (by omega)
    have a3:=h.srt.inc k (by omega) (by omega)
    have a4:=h.yr k (by omega)
    have a5:=h.yr (k - 1) (by omega)
    have a6:=h.yinc k (by omega) (by omega)
    have a7:=h3 (k - 1) (by omega)
    have a8:=h4 k (by omega) (by omega)
    generalize (l.getD k default).1=x1 at*
    generalize (l.getD (k - 1) default).1=x0 at*
    generalize (l.getD k default).2=y1 at*
    generalize (l.getD (k - 1) default).2=y0 at*
    have w0:IntKind.i64.wrap (x1 - x0)=x1 - x0:=IntWalk.i64_in _ ⟨by omega,by omega⟩
    have w1:IntKind.i64.wrap (y1 - y0)=y1 - y0:=IntWalk.i64_in _ ⟨by omega,by omega⟩
    obtain ⟨w2,r1,r2⟩:=mul_in (x:=x1 - x0) (d:=d) (by omega) (by omega) hd hd2
    obtain ⟨w3,r3,r4⟩:=mul_in (x:=x0) (d:=d) (by omega) (by omega) hd hd2
    have e1:(x1 - x0)*d=x1*d - x0*d:=Int.sub_mul _ _ _
    have e2:(x1 - x0)*d≤1000000*d:=Int.mul_le_mul_of_nonneg_right (by omega) (by omega)
    have e3:0<(x1 - x0)*d:=Int.mul_pos (by omega) hd
    have w4:IntKind.i64.wrap (n - x0*d)=n - x0*d:=IntWalk.i64_in _ ⟨by omega,by omega⟩
    obtain ⟨m1,m2⟩:=mulB (x:=y0) (y:=(x1 - x0)*d) (X:=3000) (Y:=1000000*1000000) (by omega) (by omega) (by omega) (by omega)
    obtain ⟨m3,m4⟩:=mulB (x:=y1 - y0) (y:=n - x0*d) (X:=3000) (Y:=1000000*1000000) (by omega) (by omega) (by omega) (by omega)
    have m5:(y1 - y0)*(n - x0*d)≤(y1 - y0)*((x1 - x0)*d):=Int.mul_le_mul_of_nonneg_left (by omega) (by omega)
    have m6:y1*((x1 - x0)*d)≤3000*((x1 - x0)*d):=Int.mul_le_mul_of_nonneg_right (by omega) (by omega)
    have m7:(y1 - y0)*((x1 - x0)*d)=y1*((x1 - x0)*d) - y0*((x1 - x0)*d):=Int.sub_mul _ _ _
    rw [w0,w1,w2,w3,w4]
    have w5:IntKind.i64.wrap (y0*((x1 - x0)*d))=y0*((x1 - x0)*d):=IntWalk.i64_in _ ⟨by omega,by omega⟩
    have w6:IntKind.i64.wrap ((y1 - y0)*(n - x0*d))=(y1 - y0)*(n - x0*d):=IntWalk.i64_in _ ⟨by omega,by omega⟩
    rw [w5,w6]
    have w7:IntKind.i64.wrap (y0*((x1 - x0)*d)+(y1 - y0)*(n - x0*d))=y0*((x1 - x0)*d)+(y1 - y0)*(n - x0*d):=IntWalk.i64_in _ ⟨by omega,by omega⟩
    rw [w7]
    refine ⟨e3,e2,⟨by omega,by omega⟩,?_⟩
    simp only [Rat.intCast_add,Rat.intCast_mul,Rat.intCast_sub]
    have hx:(0:Rat)<(x1:Rat) - x0:=by have:=Rat.intCast_lt_intCast.2 a3; grind
    have f1:((y1:Rat) - y0) / ((x1:Rat) - x0)*((x1:Rat) - x0)=(y1:Rat) - y0:=Rat.div_mul_cancel (by grind)
    have f2:(n:Rat) / d*d=n:=Rat.div_mul_cancel (by grind)
    generalize ((y1:Rat) - y0) / ((x1:Rat) - x0)=s at*
    generalize hz:(n:Rat) / d=z at*
    have f3:(s*(z - x0))*(((x1:Rat) - x0)*d)=(s*((x1:Rat) - x0))*(z*d - x0*d):=by grind
    rw [Rat.add_mul,f3,f1,f2]
theorem LawOk.poly {l:List (Int×Int)} (h:LawOk l):Poly l 200 3000:=⟨h.srt,fun i hi=>by have:=h.yr i hi; omega,fun i h0 hi=>(h.yinc i h0 hi).1⟩
theorem SetOk.poly {a b:Int} {T:List (Int×Int)} {L:List (List (Int×Int))} (h:SetOk a b T L):Poly T 0 1000000:=⟨h.srt,fun i hi=>by have:=h.yr i hi; omega,fun i h0 hi=>by have:=h.yinc i h0 hi; omega⟩
theorem asc_of {c:Rat}:∀ l:List (Int×Int),(∀ i,0<i→i<l.length→(l.getD (i - 1) default).1<(l.getD i default).1∧(l.getD (i - 1) default).2≤(l.getD i default).2∧(((l.getD i default).2:Rat) - (l.getD (i - 1) default).2≤c*(((l.getD i default).1:Rat) - (l.getD (i - 1) default).1)))→Asc c l
 | [],_=>trivial
 | [p],_=>trivial
 | p::q::r,h=>by
  have h1:=h 1 (by omega) (by simp)
  refine ⟨h1.1,h1.2.1,h1.2.2,asc_of (q::r) fun i h0 hi=> ?_⟩
  obtain ⟨m,rfl⟩:∃ m,i=m+1:=⟨i - 1,by omega⟩
  have:=h (m+2) (by omega) (by simp at hi ⊢; omega)
  simpa using this
theorem SetOk.asc {a b:Int} {T:List (Int×Int)} {L:List (List (Int×Int))} (h:SetOk a b T L):Asc 1 T:=by
 refine asc_of T fun i h0 hi=>⟨h.srt.inc i h0 hi,by have:=(h.yinc i h0 hi).1; omega,?_⟩
 have:=Rat.intCast_le_intCast.2 (h.yinc i h0 hi).2
 rw [Rat.intCast_sub,Rat.intCast_sub] at this; grind
theorem LawOk.asc {l:List (Int×Int)} (h:LawOk l):Asc (1 / 2) l:=by
 refine asc_of l fun i h0 hi=>⟨h.srt.inc i h0 hi,(h.yinc i h0 hi).1,?_⟩
 have:=Rat.intCast_le_intCast.2 (h.yinc i h0 hi).2
 rw [Rat.intCast_mul,Rat.intCast_sub,Rat.intCast_sub] at this
 have e2:((2:Int):Rat)=2:=rfl
 grind
theorem mem_getD {α:Type} [Inhabited α] {l:List α} {x:α} (h:x∈l):∃ i,i<l.length∧l.getD i default=x:=by
 obtain ⟨i,hi,rfl⟩:=List.mem_iff_getElem.1 h
 exact ⟨i,hi,by simp [List.getD_eq_getElem?_getD,hi]⟩
theorem LawOk.yr' {l:List (Int×Int)} (h:LawOk l):∀ p∈l,0≤p.2∧p.2≤1000:=fun p hp=>by
 obtain ⟨i,hi,rfl⟩:=mem_getD hp
 exact h.yr i hi
theorem law_le {l m:List (Int×Int)} (hl:LawOk l) (hm:LawOk m) (h:belowV l m=false):∀ x:Rat,pl m x≤pl l x:=by
 refine order hm.asc hl.asc fun p hp=> ?_
 have hp':p∈l++m:=by
  rcases List.mem_append.1 hp with h | h
  ·exact List.mem_append_right _ h
  ·exact List.mem_append_left _ h
 obtain ⟨i,hi,rfl⟩:=mem_getD hp'
 unfold belowV at h
 have hn:scanN (fun i=>if cmpAt l m i=true then some true else none) 0 (l.length+m.length)=none:=by
  cases hs:scanN (fun i=>if cmpAt l m i=true then some true else none) 0 (l.length+m.length) with
  | none=>rfl
  | some v=>
   rw [hs] at h
   obtain ⟨j,_,_,hj⟩:=scan_some hs
   split at hj
   ·cases hj; cases h
   ·cases hj
 have:=scan_none hn i (by omega) (by simpa using hi)
 have hc:¬ cmpAt l m i=true:=by intro hc; rw [if_pos hc] at this; cases this
 unfold cmpAt at hc
 generalize (l++m).getD i default=p at*
 obtain ⟨A,B,_,e1,P⟩:=seg_pl hl.poly (by decide) (by decide) p.1 1 (by decide) (by decide)
 obtain ⟨C,D,_,e2,Q⟩:=seg_pl hm.poly (by decide) (by decide) p.1 1 (by decide) (by decide)
 have e3:(p.1:Rat) / ((1:Int):Rat)=p.1:=by
  have:((1:Int):Rat)=1:=rfl
  rw [this]; grind
 rw [e3] at P Q
 rw [e1,e2] at hc
 simp only [Option.getD_some,decide_eq_true_eq] at hc
 have p1:=P.pos; have p2:=P.le; have p3:=P.num
 have q1:=Q.pos; have q2:=Q.le; have q3:=Q.num
 obtain ⟨m1,m2⟩:=mulB (x:=A) (y:=D) (X:=3000*1000000) (Y:=1000000) (by omega) (by omega) (by omega) (by omega)
 obtain ⟨m3,m4⟩:=mulB (x:=C) (y:=B) (X:=3000*1000000) (Y:=1000000) (by omega) (by omega) (by omega) (by omega)
 rw [IntWalk.i64_in (A*D) ⟨by omega,by omega⟩,IntWalk.i64_in (C*B) ⟨by omega,by omega⟩] at hc
 have hle:C*B≤A*D:=by omega
 have hle':=Rat.intCast_le_intCast.2 hle
 rw [Rat.intCast_mul,Rat.intCast_mul,P.eq,Q.eq] at hle'
 have hB:(0:Rat)<B:=Rat.intCast_pos.2 p1
 have hD:(0:Rat)<D:=Rat.intCast_pos.2 q1
 refine Rat.le_of_mul_le_mul_right (c:=(B:Rat)*D) ?_ (Rat.mul_pos hB hD)
 grind
theorem SetOk.law_mono {a b : Int} {T : List (Int × Int)} {L : List (List (Int × Int))} (h : SetOk a b T L) : ∀ (i j : Nat), i ≤ j → j < L.length → ∀ x : Rat, pl (L.getD i default) x ≤ pl (L.getD j default) x
  | i, 0, h1, h2, x => by obtain rfl : i = 0 := by omega
                          exact Rat.le_refl
  | i, j + 1, h1, h2, x => by
    by_cases hij : i = j + 1
    · subst hij; exact Rat.le_refl
    · have a1 := h.law_mono i j (by omega) (by omega) x
      have a2 := law_le (h.laws (j + 1) h2) (h.laws j (by omega)) (h.below (j + 1) (by omega) h2) x
      exact Rat.le_trans a1 a2
end Go.Proofs.YthldpejmofhaoaaGreatDoor
namespace Go.Proofs.YthldpejmofhaoaaGreatDoor
open Go.Abs
theorem p124 (n d:Int) (hd:0<d) (h1: -9000000000000000000≤n) (h2:n≤9000000000000000000):r231 n d=some (n / d):=by
 have b1: -9000000000000000000≤n / d:=by
  rw [Int.le_ediv_iff_mul_le hd]
  have:=Int.mul_le_mul_of_nonneg_left (show 1≤d by omega) (show (0:Int)≤9000000000000000000 by omega)
  omega
 have b2:n / d<9000000000000000001:=by
  rw [Int.ediv_lt_iff_lt_mul hd]
  have:=Int.mul_le_mul_of_nonneg_left (show 1≤d by omega) (show (0:Int)≤9000000000000000001 by omega)
  omega
 unfold r231
 rw [if_pos (by omega),if_pos (by omega),Int.tmod_eq_emod,Int.tdiv_eq_ediv]
 have m1:=Int.emod_nonneg n (show d≠0 by omega)
 have m2:=Int.emod_lt_of_pos n hd
 by_cases hc:0≤n∨d∣n
 ·rw [if_pos hc,if_pos hc,if_neg (by rw [decide_eq_true_eq]; omega),Int.add_zero,IntWalk.i64_in (n / d) ⟨by omega,by omega⟩]
 ·rw [if_neg hc,if_neg hc,if_pos (by rw [decide_eq_true_eq]; omega),Int.sign_eq_one_of_pos hd]
  rw [IntWalk.i64_in (n / d+1) ⟨by omega,by omega⟩,Int.add_sub_cancel,IntWalk.i64_in (n / d) ⟨by omega,by omega⟩]
theorem p129 (n d:Int) (hd:0<d) (h1: -9000000000000000000≤n) (h2:n≤9000000000000000000):r32 n d=some (n / d):=p124 n d hd h1 h2
theorem div1 (x:Rat):x / ((1:Int):Rat)=x:=by
 have:((1:Int):Rat)=1:=rfl
 rw [this]; grind
theorem p121 {a b:Int} {T:List (Int×Int)} {L:List (List (Int×Int))} (ok:SetOk a b T L) (a' b':Int) (T':List (Int×Int)) (L' L'':List (List (Int×Int))) (e:Int):∃ N D,r100 a' b' T' L' T L'' e=some (N,D)∧At (pl T e) N D 1000000 3000:=by
 obtain ⟨A,B,h1,_,h2⟩:=seg_pl ok.poly (by decide) (by decide) e 1 (by decide) (by decide)
 rw [div1] at h2
 refine ⟨A,B,?_,h2⟩
 unfold r100
 rw [h1,Option.bind_some]
theorem inT_iff {a b:Int} {T:List (Int×Int)} {L:List (List (Int×Int))} (ok:SetOk a b T L) (e:Int):inT T e=true↔(T.getD 0 default).1≤e∧e≤(T.getD (T.length - 1) default).1:=inR_iff
theorem inT_rng {a b:Int} {T:List (Int×Int)} {L:List (List (Int×Int))} (ok:SetOk a b T L) {e:Int} (h:inT T e=true):0≤e∧e≤1000000:=by
 rw [inT_iff ok] at h
 have:=ok.tlen
 have h1:=ok.srt.rng 0 (by omega)
 have h2:=ok.srt.rng (T.length - 1) (by omega)
 omega
theorem q_eq {b:Int} {T:List (Int×Int)} (hb:0≤b∧b≤500) {x y N D M E:Int} (P:At (pl T x) N D 1000000 3000) (Q:At (pl T y) M E 1000000 3000) :
 r231 (IntKind.i64.wrap (b*(IntKind.i64.wrap ((IntKind.i64.wrap (N*E)) - (IntKind.i64.wrap (M*D)))))) (IntKind.i64.wrap ((IntKind.i64.wrap (1000*D))*E))=some (qS b T x y):=by
 have p1:=P.pos; have p2:=P.le; have p3:=P.num
 have q1:=Q.pos; have q2:=Q.le; have q3:=Q.num
 obtain ⟨m1,m2⟩:=mulB (x:=N) (y:=E) (X:=3000*1000000) (Y:=1000000) (by omega) (by omega) (by omega) (by omega)
 obtain ⟨m3,m4⟩:=mulB (x:=M) (y:=D) (X:=3000*1000000) (Y:=1000000) (by omega) (by omega) (by omega) (by omega)
 obtain ⟨m5,m6⟩:=mulB (x:=D) (y:=E) (X:=1000000) (Y:=1000000) (by omega) (by omega) (by omega) (by omega)
 have m7:0<D*E:=Int.mul_pos p1 q1
 rw [IntWalk.i64_in (N*E) ⟨by omega,by omega⟩,IntWalk.i64_in (M*D) ⟨by omega,by omega⟩,IntWalk.i64_in (N*E - M*D) ⟨by omega,by omega⟩,IntWalk.i64_in (1000*D) ⟨by omega,by omega⟩]
 have hK:b*(N*E - M*D)≤500*3000000000000000∧ -(500*3000000000000000)≤b*(N*E - M*D):=by
  rcases Int.le_total 0 (N*E - M*D) with h | h
  ·have:=mulB (x:=b) (y:=N*E - M*D) (X:=500) (Y:=3000000000000000) hb.1 hb.2 h (by omega)
   omega
  ·have:=mulB (x:=b) (y:= -(N*E - M*D)) (X:=500) (Y:=3000000000000000) hb.1 hb.2 (by omega) (by omega)
   rw [Int.mul_neg] at this
   omega
 rw [IntWalk.i64_in (b*(N*E - M*D)) ⟨by omega,by omega⟩,Int.mul_assoc 1000 D E,IntWalk.i64_in (1000*(D*E)) ⟨by omega,by omega⟩,p124 _ _ (by omega) (by omega) (by omega)]
 congr 1
 refine ediv_floor (by omega) ?_
 simp only [Rat.intCast_mul,Rat.intCast_sub,P.eq,Q.eq]
 have:((1000:Int):Rat)=1000:=rfl
 rw [this]; grind
def inS (T:List (Int×Int)) (l:List Int):Prop:=∀ x∈l,inT T x=true
theorem inS_mix {a b:Int} {T:List (Int×Int)} {L:List (List (Int×Int))} (ok:SetOk a b T L) {l:List Int} (h:inS T l):inS T (mixS b T l):=by
 intro x hx
 rw [inT_iff ok]
 exact mixS_in ok.mix ok.asc l (fun y hy=>by have:=h y hy; rwa [inT_iff ok] at this) x hx
theorem iter_mix {ρ:Type} {a b:Int} {T:List (Int×Int)} {L:List (List (Int×Int))} (ok:SetOk a b T L) (B:Int×List Int→Ctl (Int×List Int) ρ) (fin:List Int→Option ρ)
 (step:∀ (i:Nat) (l:List Int),i+1<l.length→l.length<1000000→inT T (l.getD i default)=true→inT T (l.getD (i+1) default)=true→
  B ((i:Int),l)= .next ((i:Int)+2,(l.set i (l.getD i default - qS b T (l.getD i default) (l.getD (i+1) default))).set (i+1) (l.getD (i+1) default+qS b T (l.getD i default) (l.getD (i+1) default))))
 (stop:∀ (i:Nat) (l:List Int),l.length≤i+1→l.length<1000000→i≤l.length→B ((i:Int),l)= .out (fin l)) :
 ∀ (l pre:List Int) (fuel:Nat),inS T l→pre.length+l.length<1000000→l.length<fuel→iterC B fuel ((pre.length:Int),pre++l)=fin (pre++mixL b T l)
 | [],pre,fuel,_,hl,hf=>by
  obtain ⟨m,rfl⟩:∃ m,fuel=m+1:=⟨fuel - 1,by omega⟩
  simp only [iterC]
  rw [stop pre.length _ (by simp) (by simpa using hl) (by simp)]; rfl
 | [x],pre,fuel,_,hl,hf=>by
  obtain ⟨m,rfl⟩:∃ m,fuel=m+1:=⟨fuel - 1,by omega⟩
  simp only [iterC]
  rw [stop pre.length _ (by simp) (by simpa using hl) (by simp)]; rfl
 | x::y::r,pre,fuel,h,hl,hf=>by
  obtain ⟨m,rfl⟩:∃ m,fuel=m+1:=⟨fuel - 1,by omega⟩
  have hx:=h x (by simp)
  have hy:=h y (by simp)
  have g1:(pre++x::y::r).getD pre.length default=x:=by simp [List.getD_eq_getElem?_getD]
  have g2:(pre++x::y::r).getD (pre.length+1) default=y:=by simp [List.getD_eq_getElem?_getD,List.getElem?_append_right]
  have hs:=step pre.length (pre++x::y::r) (by simp) (by simpa using hl) (by rw [g1]; exact hx) (by rw [g2]; exact hy)
  rw [g1,g2] at hs
  simp only [iterC,hs]
  have e1:((pre++x::y::r).set pre.length (x - qS b T x y)).set (pre.length+1) (y+qS b T x y)=(pre++[x - qS b T x y,y+qS b T x y])++r:=by
   simp [List.set_append]
  rw [e1]
  have hin:=q_in ok.mix ok.asc (u:=(T.getD 0 default).1) (v:=(T.getD (T.length - 1) default).1) ((inT_iff ok x).1 hx) ((inT_iff ok y).1 hy)
  have hl':pre.length+(r.length+2)<1000000:=by simpa using hl
  have hf':r.length+2<m+1:=by simp only [List.length_cons] at hf; omega
  have:=iter_mix ok B fin step stop r (pre++[x - qS b T x y,y+qS b T x y]) m (fun z hz=>h z (by simp [hz])) (by simp; omega) (by omega)
  rw [List.length_append] at this
  simpa [mixL] using this
end Go.Proofs.YthldpejmofhaoaaGreatDoor
namespace Go.Proofs.YthldpejmofhaoaaGreatDoor
open Go.Abs
def zipG (g:Int→Int→Int):List Int→List Int→List Int
 | x::l,y::m=>g x y::zipG g l m
 | l,_=>l
theorem iter_zip {ρ:Type} (B:Int×List Int→Ctl (Int×List Int) ρ) (g:Int→Int→Int) (p:List Int) (fin:List Int→Option ρ)
 (step:∀ (i:Nat) (l:List Int),i<p.length→l.length=p.length→B ((i:Int),l)= .next ((i:Int)+1,l.set i (g (l.getD i default) (p.getD i default))))
 (stop:∀ (l:List Int),l.length=p.length→B ((p.length:Int),l)= .out (fin l)) :
 ∀ (l m pre mre:List Int) (fuel:Nat),pre.length=mre.length→l.length=m.length→p=mre++m→l.length<fuel→iterC B fuel ((pre.length:Int),pre++l)=fin (pre++zipG g l m)
 | [],[],pre,mre,fuel,h1,_,h3,hf=>by
  obtain ⟨k,rfl⟩:∃ k,fuel=k+1:=⟨fuel - 1,by omega⟩
  have hp:p.length=pre.length:=by rw [h3]; simp [h1]
  have:=stop (pre++[]) (by simp [hp])
  rw [hp] at this
  simp only [iterC]
  rw [this]; rfl
 | [],y::m,pre,mre,fuel,_,h2,_,_=>by simp at h2
 | x::l,[],pre,mre,fuel,_,h2,_,_=>by simp at h2
 | x::l,y::m,pre,mre,fuel,h1,h2,h3,hf=>by
  obtain ⟨k,rfl⟩:∃ k,fuel=k+1:=⟨fuel - 1,by omega⟩
  have h2':l.length=m.length:=by simpa using h2
  have hp:p.length=pre.length+(m.length+1):=by rw [h3]; simp [h1]
  have g1:(pre++x::l).getD pre.length default=x:=by simp [List.getD_eq_getElem?_getD]
  have g2:p.getD pre.length default=y:=by rw [h3,h1]; simp [List.getD_eq_getElem?_getD]
  have hs:=step pre.length (pre++x::l) (by omega) (by simp; omega)
  rw [g1,g2] at hs
  simp only [iterC,hs]
  have e1:(pre++x::l).set pre.length (g x y)=(pre++[g x y])++l:=by simp [List.set_append]
  rw [e1]
  have:=iter_zip B g p fin step stop l m (pre++[g x y]) (mre++[y]) k (by simp [h1]) h2' (by simp [h3]) (by simp at hf; omega)
  rw [List.length_append] at this
  simpa [zipG] using this
theorem zip_wrap:∀ l m:List Int,(∀ x∈l,-1000000000≤x∧x≤1000000000)→(∀ x∈m,-1000000000≤x∧x≤1000000000)→zipG (fun x y=>IntKind.i64.wrap (x+y)) l m=addL l m
 | [],_,_,_=>rfl
 | _::_,[],_,_=>rfl
 | x::l,y::m,h1,h2=>by
  have a1:=h1 x (by simp)
  have a2:=h2 y (by simp)
  simp only [zipG,addL]
  rw [IntWalk.i64_in (x+y) ⟨by omega,by omega⟩,zip_wrap l m (fun z hz=>h1 z (by simp [hz])) (fun z hz=>h2 z (by simp [hz]))]
theorem set0_sub (n:Int) (l:List Int) (h:0<l.length) (hw:IntKind.i64.wrap (l.getD 0 default - n)=l.getD 0 default - n):l.set 0 (IntKind.i64.wrap (l.getD 0 default - n))=subH n l:=by
 rw [hw]
 cases l with
 | nil=>simp at h
 | cons x r=>simp [subH]
theorem subH_mem {n:Int}:∀ {l:List Int} {z:Int},z∈subH n l→(∃ x∈l,z=x - n)∨z∈l
 | [],z,h=>Or.inr h
 | x::r,z,h=>by
  simp only [subH,List.mem_cons] at h
  rcases h with h | h
  ·exact Or.inl ⟨x,by simp,h⟩
  ·exact Or.inr (by simp [h])
theorem idx_loop (B:Int→Ctl Int Int) (l:List Int) (p:Int→Bool) (hl:l.length<1000000000)
 (step:∀ i:Nat,i<l.length→B (i:Int)=if p (l.getD i default) then .out (some (i:Int)) else .next ((i:Int)+1)) (stop:B (l.length:Int)= .out (some (-1))) :
 iterC B 1000000000 0=some (idxV p 0 l):=by
 have h:=iter_list (τ:=Unit) l B (fun i _=>i) (fun i _ x=>if p x then .out (some i) else .next ()) (fun _=>some (-1)) hl
  (fun i t hi=>by rw [step i hi]; cases p (l.getD i default)<;>simp [mapC])
  (fun t=>stop) ()
 rw [h]; exact idx_fold p l 0
theorem p106a {T:List (Int×Int)} (htl:0<T.length∧T.length<1000) (l:List Int) (a b:Int) (T':List (Int×Int)) (L L':List (List (Int×Int))) (hl:l.length<1000000000):r104a l a b T' L T L'=some (l.any fun x=> !inT T x):=by
 have h:r170b l a b T' L T L'=some (idxV (fun x=> !inT T x) 0 l):=by
  unfold r170b
  refine idx_loop _ l _ hl (fun i hi=> ?_) (by simp [b170b_1])
  simp only [b170b_1,ltN hi,if_true,if_pos (rgN hi),Int.toNat_natCast,wS i (by omega),r176,p120 a b T' L T L' _ htl.1 htl.2,Option.bind_some,bindC]
 unfold r104a
 rw [h,Option.bind_some,idx_ge _ l 0 (by omega)]
theorem stepHeat {a b:Int} {T:List (Int×Int)} {L:List (List (Int×Int))} (ok:SetOk a b T L) (a':Int) (T':List (Int×Int)) (L' L'':List (List (Int×Int))) (i:Nat) (l:List Int) (hi:i+1<l.length) (hl:l.length<1000000) (hx:inT T (l.getD i default)=true) (hy:inT T (l.getD (i+1) default)=true) (z:Ctl (Int×List Int) ((List Int)×Int×Int)) :
 (if (decide ((IntKind.i64.wrap ((i:Int)+1))<(l.length:Int)))=true then
 if 0≤(i:Int)∧(i:Int)<(l.length:Int) then
  bindC (r100 a' b T' L' T L'' (l.getD (i:Int).toNat default)) fun v2=>
   if 0≤IntKind.i64.wrap ((i:Int)+1)∧IntKind.i64.wrap ((i:Int)+1)<(l.length:Int) then
    bindC (r100 a' b T' L' T L'' (l.getD (IntKind.i64.wrap ((i:Int)+1)).toNat default)) fun v3=>
     bindC (r231 (IntKind.i64.wrap (b*(IntKind.i64.wrap ((IntKind.i64.wrap (v2.1*v3.2)) - (IntKind.i64.wrap (v3.1*v2.2)))))) (IntKind.i64.wrap ((IntKind.i64.wrap (1000*v2.2))*v3.2))) fun v4=>
      if 0≤(i:Int)∧(i:Int)<(l.length:Int) then
       if 0≤IntKind.i64.wrap ((i:Int)+1)∧IntKind.i64.wrap ((i:Int)+1)<(l.length:Int) then
        if 0≤(i:Int)∧(i:Int)<(l.length:Int) then
         if 0≤IntKind.i64.wrap ((i:Int)+1)∧IntKind.i64.wrap ((i:Int)+1)<(l.length:Int) then
          (.next (IntKind.i64.wrap ((i:Int)+2),(l.set (i:Int).toNat (IntKind.i64.wrap ((l.getD (i:Int).toNat default) - v4))).set (IntKind.i64.wrap ((i:Int)+1)).toNat (IntKind.i64.wrap ((l.getD (IntKind.i64.wrap ((i:Int)+1)).toNat default)+v4))):Ctl (Int×List Int) ((List Int)×Int×Int))
          else .out none
         else .out none
        else .out none
       else .out none
    else .out none
  else .out none
 else z)= .next ((i:Int)+2,(l.set i (l.getD i default - qS b T (l.getD i default) (l.getD (i+1) default))).set (i+1) (l.getD (i+1) default+qS b T (l.getD i default) (l.getD (i+1) default))):=by
 obtain ⟨N,D,h1,P⟩:=p121 ok a' b T' L' L'' (l.getD i default)
 obtain ⟨M,E,h2,Q⟩:=p121 ok a' b T' L' L'' (l.getD (i+1) default)
 have e1:IntKind.i64.wrap ((i:Int)+1)=((i+1:Nat):Int):=by rw [wS i (by omega)]; omega
 have e2:IntKind.i64.wrap ((i:Int)+2)=(i:Int)+2:=IntWalk.i64_in _ ⟨by omega,by omega⟩
 have hq:=q_in ok.mix ok.asc (u:=(T.getD 0 default).1) (v:=(T.getD (T.length - 1) default).1) ((inT_iff ok _).1 hx) ((inT_iff ok _).1 hy)
 have r1:=ok.srt.rng 0 (by have:=ok.tlen; omega)
 have r2:=ok.srt.rng (T.length - 1) (by have:=ok.tlen; omega)
 rw [e1,e2,Int.toNat_natCast,Int.toNat_natCast,if_pos (ltN hi),if_pos (rgN (show i<l.length by omega)),h1,h2]
 simp only [bindC,if_pos (rgN hi),q_eq ok.mix P Q,if_pos (rgN (show i<l.length by omega))]
 rw [IntWalk.i64_in _ ⟨by omega,by omega⟩,IntWalk.i64_in (l.getD (i+1) default+_) ⟨by omega,by omega⟩]
theorem at_div {a b:Int} {T:List (Int×Int)} {L:List (List (Int×Int))} (ok:SetOk a b T L) {v:Rat} {N D:Int} (h:At v N D 1000000 3000):(N:Rat) / D=v:=by
 have h1:=h.pos
 have h2:(0:Rat)<D:=Rat.intCast_pos.2 h1
 rw [h.eq]; exact Rat.mul_div_cancel (by grind)
theorem loss_eq {a b:Int} {T:List (Int×Int)} {L:List (List (Int×Int))} (ok:SetOk a b T L) {i e N D:Int} (hi:0≤i∧i<L.length) (P:At (pl T e) N D 1000000 3000) :
 ∃ A B,r189 (L.getD i.toNat default) N D=some (A,B)∧r261 (L.getD i.toNat default) N D=some (A,B)∧r231 A B=some (lossS T (L.getD i.toNat default) e):=by
 have hl:=ok.laws i.toNat (by omega)
 have p1:=P.pos; have p2:=P.le
 obtain ⟨A,B,h1,h2,Q⟩:=seg_pl hl.poly (by decide) (by decide) N D p1 p2
 refine ⟨A,B,h1,h2,?_⟩
 have q1:=Q.pos; have q2:=Q.le; have q3:=Q.num
 rw [p124 A B q1 (by omega) (by omega)]
 have:=Q.eq
 rw [at_div ok P] at this
 rw [ediv_floor q1 this]; rfl
theorem p127 {a b:Int} {T:List (Int×Int)} {L:List (List (Int×Int))} (ok:SetOk a b T L) {i:Int} (e:Int) (hi:0≤i∧i<L.length):r175 a b T L T L i e=some (lossS T (L.getD i.toNat default) e):=by
 obtain ⟨N,D,h1,P⟩:=p121 ok a b T L L e
 obtain ⟨A,B,h2,_,h3⟩:=loss_eq ok hi P
 unfold r175
 rw [if_pos hi,h1,Option.bind_some]
 simp only
 rw [h2,Option.bind_some]
 simp only
 rw [h3,Option.bind_some]
structure StepOk (T:List (Int×Int)) (L:List (List (Int×Int))) (l p:List Int) (law:Int):Prop where
 ins:inS T l
 len:p.length=l.length
 pos:0<l.length∧l.length<1000
 pow:∀ x∈p,0≤x∧x≤10000
 law:0≤law∧law<L.length
theorem mixR_split {b:Int} {T:List (Int×Int)} {l:List Int} (h:0<l.length):∃ x r,mixL b T l=x::r∧mixS b T l=[x]++mixL b T r:=by
 have hl:=mixL_len b T l
 cases hm:mixL b T l with
 | nil=>rw [hm] at hl; simp at hl; omega
 | cons x r=>exact ⟨x,r,rfl,by unfold mixS; rw [hm]; rfl⟩
theorem inS_L {a b:Int} {T:List (Int×Int)} {L:List (List (Int×Int))} (ok:SetOk a b T L) {l:List Int} (h:inS T l):inS T (mixL b T l):=fun x hx=>by
 rw [inT_iff ok]
 exact mixL_in ok.mix ok.asc l (fun y hy=>by have:=h y hy; rwa [inT_iff ok] at this) x hx
theorem loss_rng {a b:Int} {T:List (Int×Int)} {L:List (List (Int×Int))} (ok:SetOk a b T L) {i:Int} (e:Int) (hi:0≤i∧i<L.length):0≤lossS T (L.getD i.toNat default) e∧lossS T (L.getD i.toNat default) e≤1000:=by
 have hl:=ok.laws i.toNat (by omega)
 exact loss_in hl.asc hl.yr' e
theorem outS_zip {a b:Int} {T:List (Int×Int)} {L:List (List (Int×Int))} (ok:SetOk a b T L) {l p:List Int} {law:Int} (h:StepOk T L l p law) (n:Int) (hn:0≤n∧n≤1000) :
 zipG (fun x y=>IntKind.i64.wrap (x+y)) (subH n (mixS b T l)) p=addL (subH n (mixS b T l)) p:=by
 refine zip_wrap _ _ (fun x hx=> ?_) (fun x hx=>by have:=h.pow x hx; omega)
 have hm:=inS_mix ok h.ins
 rcases subH_mem hx with ⟨y,hy,rfl⟩ | hy
 ·have:=inT_rng ok (hm y hy); omega
 ·have:=inT_rng ok (hm x hy); omega
theorem mix_set {a b:Int} {T:List (Int×Int)} {L:List (List (Int×Int))} (ok:SetOk a b T L) {l p:List Int} {law:Int} (h:StepOk T L l p law) (n:Int) (hn:0≤n∧n≤1000):(mixS b T l).set 0 (IntKind.i64.wrap ((mixS b T l).getD 0 default - n))=subH n (mixS b T l):=by
 have hl:=mixS_len b T l
 have hp:=h.pos
 refine set0_sub n _ (by omega) (IntWalk.i64_in _ ?_)
 have hm:inT T ((mixS b T l).getD 0 default)=true:=by
  refine inS_mix ok h.ins _ ?_
  cases hq:mixS b T l with
  | nil=>rw [hq] at hl; simp at hl; omega
  | cons x r=>simp
 have:=inT_rng ok hm
 exact ⟨by omega,by omega⟩
theorem p96 {a b:Int} {T:List (Int×Int)} {L:List (List (Int×Int))} (ok:SetOk a b T L) {l p:List Int} {law:Int} (h:StepOk T L l p law) :
 r85 a b T L T L l p law=some (outS b T (L.getD law.toNat default) l p,lossS T (L.getD law.toNat default) (hd (mixS b T l)),if (outS b T (L.getD law.toNat default) l p).all (inT T)=true then 0 else 22):=by
 have hp:=h.pos
 have htl:=ok.tlen
 unfold r85 r173
 rw [if_pos ⟨by omega,by omega⟩,Option.bind_some]
 have m1:=iter_mix ok (b85_1 a b T L T L p law) (fun l'=>iterC (b85_2 a b T L T L p law) 1000000000 (1,l')) (fun i l' hi hl hx hy=>stepHeat ok a T L L i l' hi hl hx hy _) (fun i l' hi hl _=>by
  have e1:¬ (decide ((IntKind.i64.wrap ((i:Int)+1))<(l'.length:Int)))=true:=by rw [decide_eq_true_eq,wS i (by omega)]; omega
  simp only [b85_1,if_neg e1]) l [] 1000000000 h.ins (by simp; omega) (by omega)
 simp only [List.nil_append,List.length_nil] at m1
 rw [show ((0:Nat):Int)=0 from rfl] at m1
 rw [m1]
 obtain ⟨x,r,hx,hs⟩:=mixR_split (b:=b) (T:=T) hp.1
 have hl2:=mixL_len b T l
 rw [hx] at hl2 ⊢
 have hin:inS T (x::r):=by rw [← hx]; exact inS_L ok h.ins
 have m2:=iter_mix ok (b85_2 a b T L T L p law) (fun l'=>(if 0≤0∧0<(l'.length:Int) then
  (r175 a b T L T L law (l'.getD 0 default)).bind fun v20=>
   if 0≤0∧0<(l'.length:Int) then
    if 0≤0∧0<(l'.length:Int) then
     iterC (b85_3 a b T L T L p v20) 1000000000 (0,l'.set 0 (IntKind.i64.wrap ((l'.getD 0 default) - v20)))
     else none
    else none
  else none)) (fun i l' hi hl hx hy=>stepHeat ok a T L L i l' hi hl hx hy _) (fun i l' hi hl _=>by
  have e1:¬ (decide ((IntKind.i64.wrap ((i:Int)+1))<(l'.length:Int)))=true:=by rw [decide_eq_true_eq,wS i (by omega)]; omega
  unfold b85_2
  exact if_neg e1) r [x] 1000000000 (fun z hz=>hin z (by simp [hz])) (by simp at hl2 ⊢; omega) (by simp at hl2; omega)
 simp only [List.length_cons,List.length_nil,List.singleton_append] at m2
 rw [show ((0+1:Nat):Int)=1 from rfl] at m2
 rw [m2]
 rw [List.singleton_append] at hs
 rw [← hs]
 have hml:=mixS_len b T l
 rw [if_pos ⟨by omega,by omega⟩,p127 ok _ h.law,Option.bind_some]
 have hn:=loss_rng ok ((mixS b T l).getD 0 default) h.law
 rw [if_pos ⟨by omega,by omega⟩,if_pos ⟨by omega,by omega⟩,mix_set ok h _ hn]
 have m3:=iter_zip (b85_3 a b T L T L p (lossS T (L.getD law.toNat default) ((mixS b T l).getD 0 default))) (fun x y=>IntKind.i64.wrap (x+y)) p
  (fun l'=>(r104a l' a b T L T L).bind fun v24=>(r83 (!v24) 22).bind fun v25=>some (l',lossS T (L.getD law.toNat default) ((mixS b T l).getD 0 default),v25))
  (fun i l' hi hl=>by
   simp only [b85_3,ltN hi,if_true,if_pos (rgN hi),if_pos (rgN (show i<l'.length by omega)),Int.toNat_natCast,wS i (by have:=h.len; omega)])
  (fun l' hl=>by simp [b85_3])
  (subH (lossS T (L.getD law.toNat default) ((mixS b T l).getD 0 default)) (mixS b T l)) p [] [] 1000000000 rfl (by rw [subH_len,hml,h.len]) rfl (by rw [subH_len]; omega)
 simp only [List.nil_append,List.length_nil] at m3
 rw [show ((0:Nat):Int)=0 from rfl] at m3
 rw [m3,outS_zip ok h _ hn]
 have ho:=outS_len b T (L.getD law.toNat default) l p
 show (r104a (outS b T (L.getD law.toNat default) l p) a b T L T L).bind _=_
 rw [p106a ⟨by omega,by omega⟩ _ _ _ _ _ _ (by omega),Option.bind_some,p94,Option.bind_some]
 rw [List.any_eq_not_all_not,Bool.not_not]
 simp only [Bool.not_not]
 rfl
theorem scan_allV {ρ:Type} (p:Int→Bool) (v:ρ) (l:List Int):scanN (fun i=>if p (l.getD i default)=true then none else some v) 0 l.length=if l.all p=true then none else some v:=by
 by_cases h:l.all p=true
 ·rw [if_pos h]
  refine scan_all fun j _ hj=> ?_
  have hj':j<l.length:=by omega
  rw [List.all_eq_true] at h
  rw [if_pos (h _ (by rw [List.getD_eq_getElem?_getD,List.getElem?_eq_getElem hj',Option.getD_some]; exact List.getElem_mem hj'))]
 ·rw [if_neg h]
  cases hs:scanN (fun i=>if p (l.getD i default)=true then none else some v) 0 l.length with
  | none=>
   exfalso; apply h
   rw [List.all_eq_true]
   intro x hx
   obtain ⟨i,hi,rfl⟩:=mem_getD hx
   have:=scan_none hs i (by omega) (by omega)
   split at this
   ·assumption
   ·cases this
  | some w=>
   obtain ⟨j,_,_,hj⟩:=scan_some hs
   split at hj
   ·cases hj
   ·exact hj.symm
def hot (T:List (Int×Int)) (k x:Int):Bool:=decide ((k:Rat)≤pl T x)
def depS (T:List (Int×Int)) (k:Int) (l:List Int):Int:=if idxV (fun x=> !hot T k x) 0 l<0 then l.length else idxV (fun x=> !hot T k x) 0 l
end Go.Proofs.YthldpejmofhaoaaGreatDoor
namespace Go.Proofs.YthldpejmofhaoaaGreatDoor
open Go.Abs
def driveErrV (a:Int) (L:List (List (Int×Int))) (l:List Int) (law:Int):Int:=
 firstV [codeIf ((l.length:Int) == a) 10,codeIf (l.all fun x=>inR x 0 10000) 2,codeIf (inR law 0 ((L.length:Int) - 1)) 6]
theorem p106 (l:List Int) (hl:l.length<1000000000):r104 l=some (l.any fun x=> !inR x 0 10000):=by
 have h:r170a l=some (idxV (fun x=> !inR x 0 10000) 0 l):=by
  unfold r170a
  refine idx_loop _ l _ hl (fun i hi=> ?_) (by simp [b170a_1])
  simp only [b170a_1,ltN hi,if_true,if_pos (rgN hi),Int.toNat_natCast,wS i (by omega),r166,r167,p90,Option.bind_some,bindC]
 unfold r104
 rw [h,Option.bind_some,idx_ge _ l 0 (by omega)]
theorem p126 (a b:Int) (T:List (Int×Int)) (L:List (List (Int×Int))) (T':List (Int×Int)) (L':List (List (Int×Int))) (law:Int) (h:L'.length<1000):r168 a b T L T' L' law=some (codeIf (inR law 0 ((L'.length:Int) - 1)) 6):=by
 unfold r168
 rw [IntWalk.i64_in ((L'.length:Int) - 1) ⟨by omega,by omega⟩,p90,Option.bind_some,p94,Option.bind_some]
theorem p92 (a b:Int) (T:List (Int×Int)) (L:List (List (Int×Int))) (T':List (Int×Int)) (L':List (List (Int×Int))) (l:List Int) (law:Int) (h:L'.length<1000) (hl:l.length<1000000000):r81 a b T L T' L' l law=some (driveErrV a L' l law):=by
 unfold r81 driveErrV
 rw [p106 l hl,Option.bind_some,p94,Option.bind_some,p94,Option.bind_some,p126 a b T L T' L' law h,Option.bind_some,p91 _ (by simp),Option.bind_some,List.any_eq_not_all_not,Bool.not_not]
 simp only [Bool.not_not]
theorem p61 (a b:Int) (T:List (Int×Int)) (L:List (List (Int×Int))) (law:Int) (h:L.length<1000):r10 a b T L law=some (codeIf (inR law 0 ((L.length:Int) - 1)) 6):=by
 unfold r10
 rw [IntWalk.i64_in ((L.length:Int) - 1) ⟨by omega,by omega⟩,p59,Option.bind_some]
 cases inR law 0 ((L.length:Int) - 1)<;>rfl
theorem p70 (a b:Int) (T:List (Int×Int)) (L:List (List (Int×Int))) (l:List Int) (law:Int) (h:L.length<1000) (hl:l.length<1000000000):r36 a b T L l law=some (driveErrV a L l law):=by
 unfold r36 driveErrV
 by_cases ha:(l.length:Int)=a
 ·rw [if_neg (by simpa using ha)]
  have hs:iterC (b36_1 a b T L l law) 1000000000 0=orE (scanN (fun i=>if inR (l.getD i default) 0 10000=true then none else some (2:Int)) 0 l.length) (some (codeIf (inR law 0 ((L.length:Int) - 1)) 6)):=by
   refine iter_scan l.length _ _ _ hl (fun i hi=> ?_) ?_
   ·simp only [b36_1,ltN hi,if_true,if_pos (rgN hi),Int.toNat_natCast,wS i (by omega),p59,bindC]
    cases inR (l.getD i default) 0 10000<;>simp
   ·simp [b36_1,p61 a b T L law h]
  rw [hs,scan_allV (fun x=>inR x 0 10000) (2:Int) l]
  have e1:((l.length:Int) == a)=true:=by simpa using ha
  rw [e1]
  by_cases hc:(l.all fun x=>inR x 0 10000)=true
  ·rw [if_pos hc,hc,orE_none]
   generalize codeIf (inR law 0 ((L.length:Int) - 1)) 6=v
   simp only [firstV,codeIf,if_true]
   by_cases hv:v=0
   ·rw [if_pos hv,hv]
   ·rw [if_neg hv]
  ·rw [if_neg hc,orE_some]
   have:(l.all fun x=>inR x 0 10000)=false:=by simpa using hc
   rw [this]; rfl
 ·rw [if_pos (by simpa using ha)]
  have e1:((l.length:Int) == a)=false:=by simpa using ha
  rw [e1]; rfl
theorem drive_ok {a:Int} {L:List (List (Int×Int))} {l:List Int} {law:Int} (h:driveErrV a L l law=0):(l.length:Int)=a∧(∀ x∈l,0≤x∧x≤10000)∧0≤law∧law<L.length:=by
 unfold driveErrV at h
 by_cases h1:(l.length:Int)=a
 ·have e1:((l.length:Int) == a)=true:=by simpa using h1
  rw [e1] at h
  cases h2:(l.all fun x=>inR x 0 10000) with
  | false=>rw [h2] at h; simp [firstV,codeIf] at h
  | true=>
   rw [h2] at h
   cases h3:inR law 0 ((L.length:Int) - 1) with
   | false=>rw [h3] at h; simp [firstV,codeIf] at h
   | true=>
    rw [inR_iff] at h3
    rw [List.all_eq_true] at h2
    exact ⟨h1,fun x hx=>inR_iff.1 (h2 x hx),by omega,by omega⟩
 ·have e1:((l.length:Int) == a)=false:=by simpa using h1
  rw [e1] at h; simp [firstV,codeIf] at h
theorem state_ok {a:Int} {T:List (Int×Int)} {s:List Int} (h:(stateErrV a T s).2=0):(s.length:Int)=a∧inS T s∧stateErrV a T s=(0,0):=by
 unfold stateErrV at h ⊢
 by_cases ha:(s.length:Int)=a
 ·rw [if_pos ha] at h ⊢
  cases hs:scanN (stF T s) 0 s.length with
  | none=>
   refine ⟨ha,fun x hx=> ?_,rfl⟩
   obtain ⟨i,hi,rfl⟩:=mem_getD hx
   have:=scan_none hs i (by omega) (by omega)
   unfold stF at this
   split at this
   ·assumption
   ·cases this
  | some v=>
   obtain ⟨j,_,_,hj⟩:=scan_some hs
   rw [hs] at h
   unfold stF at hj
   split at hj
   ·cases hj
   ·cases hj; simp at h
 ·rw [if_neg ha] at h; simp at h
theorem state_zero {a:Int} {T:List (Int×Int)} {s:List Int} (h1:(s.length:Int)=a) (h2:inS T s):stateErrV a T s=(0,0):=by
 unfold stateErrV
 rw [if_pos h1,scan_all]
 ·rfl
 ·intro j _ hj
  unfold stF
  rw [if_pos (h2 _ (by
   have hj':j<s.length:=by omega
   rw [List.getD_eq_getElem?_getD,List.getElem?_eq_getElem hj',Option.getD_some]; exact List.getElem_mem hj'))]
def openV (a b:Int) (T:List (Int×Int)) (L:List (List (Int×Int))) (s:List Int):Int×Int×(List (Int×Int))×(List ((List (Int×Int))))×(List (Int×Int))×(List ((List (Int×Int))))×Int:=
 if (setupErrV a b T L).2=0 then (a,b,T,L,T,L,(stateErrV a T s).2) else (0,0,[],[],[],[],(setupErrV a b T L).2)
def stErr (a b:Int) (T:List (Int×Int)) (L:List (List (Int×Int))) (s:List Int):Int:=if (setupErrV a b T L).2=0 then (stateErrV a T s).2 else (setupErrV a b T L).2
theorem p89 (a b:Int) (T:List (Int×Int)) (L:List (List (Int×Int))) (s:List Int) (hT:T.length<1000) (hn:L.length<1000) (hL:∀ x∈L,x.length<1000) (hs:s.length<1000000):r78 a b T L s=some (openV a b T L s):=by
 unfold r78 openV
 rw [p101 a b T L hT hn hL,Option.bind_some]
 by_cases h:(setupErrV a b T L).2=0
 ·have ok:=setOk_of h
  simp only [h,if_true]
  rw [if_pos (by decide),p102 a b T L T L s ok.tpos ok.tlt hs,Option.bind_some]
 ·simp only [h,if_false]
  rw [if_neg (by simpa using h)]
theorem p45 (a b:Int) (T:List (Int×Int)) (L:List (List (Int×Int))) (hn:L.length<1000) (hL:∀ x∈L,x.length<1000):r65 a b T L=some (setupErrV a b T L).2:=by
 unfold r65
 rw [p26 a b T L hn hL,Option.bind_some]
theorem p21 (a b:Int) (T:List (Int×Int)) (L:List (List (Int×Int))) (s:List Int) (hT:T.length<1000) (hn:L.length<1000) (hL:∀ x∈L,x.length<1000) (hs:s.length<1000000):r8 a b T L s=some (stErr a b T L s):=by
 unfold r8 stErr
 rw [p45 a b T L hn hL,Option.bind_some]
 by_cases h:(setupErrV a b T L).2=0
 ·have ok:=setOk_of h
  rw [if_neg (by simpa using h),if_pos h,p27 a b T L s ok.tpos ok.tlt hs,Option.bind_some]
 ·rw [if_pos (by simpa using h),if_neg h]
structure AllOk (a b:Int) (T:List (Int×Int)) (L:List (List (Int×Int))) (s:List Int):Prop where
 ok:SetOk a b T L
 set0:(setupErrV a b T L).2=0
 len:(s.length:Int)=a
 ins:inS T s
theorem allOk_of {a b:Int} {T:List (Int×Int)} {L:List (List (Int×Int))} {s:List Int} (h:stErr a b T L s=0):AllOk a b T L s:=by
 unfold stErr at h
 by_cases h0:(setupErrV a b T L).2=0
 ·rw [if_pos h0] at h
  have:=state_ok h
  exact ⟨setOk_of h0,h0,this.1,this.2.1⟩
 ·rw [if_neg h0] at h; exact absurd h h0
theorem AllOk.open {a b:Int} {T:List (Int×Int)} {L:List (List (Int×Int))} {s:List Int} (h:AllOk a b T L s):openV a b T L s=(a,b,T,L,T,L,0):=by
 unfold openV
 rw [if_pos h.set0,state_zero h.len h.ins]
theorem AllOk.stErr {a b:Int} {T:List (Int×Int)} {L:List (List (Int×Int))} {s:List Int} (h:AllOk a b T L s):stErr a b T L s=0:=by
 unfold YthldpejmofhaoaaGreatDoor.stErr
 rw [if_pos h.set0,state_zero h.len h.ins]
theorem AllOk.step {a b:Int} {T:List (Int×Int)} {L:List (List (Int×Int))} {s p:List Int} {law:Int} (h:AllOk a b T L s) (hd:driveErrV a L p law=0):StepOk T L s p law:=by
 have h1:=drive_ok hd
 have h2:=h.len
 have h3:=h.ok.cells
 exact ⟨h.ins,by omega,⟨by omega,by omega⟩,h1.2.1,h1.2.2⟩
theorem AllOk.next {a b:Int} {T:List (Int×Int)} {L:List (List (Int×Int))} {s p:List Int} {law:Int} (h:AllOk a b T L s) (ho:(outS b T (L.getD law.toNat default) s p).all (inT T)=true):AllOk a b T L (outS b T (L.getD law.toNat default) s p):=
 ⟨h.ok,h.set0,by rw [outS_len]; exact h.len,fun x hx=>by rw [List.all_eq_true] at ho; exact ho x hx⟩
end Go.Proofs.YthldpejmofhaoaaGreatDoor
namespace Go.Proofs.YthldpejmofhaoaaGreatDoor
open Go.Abs
theorem iter_inv {σ ρ:Type} (B:σ→Ctl σ ρ) (P:Nat→σ→Prop) (Q:Option ρ→Prop) (n:Nat)
 (step:∀ i s,i<n→P i s→(∃ s',B s= .next s'∧P (i+1) s')∨(∃ r,B s= .out r∧Q r))
 (stop:∀ s,P n s→∃ r,B s= .out r∧Q r) (s:σ) (h0:P 0 s) (fuel:Nat) (hn:n<fuel):Q (iterC B fuel s):=by
 have key:∀ (k i fuel:Nat) (s:σ),i+k=n→k<fuel→P i s→Q (iterC B fuel s):=by
  intro k
  induction k with
  | zero=>
   intro i fuel s hi hf hP
   obtain ⟨m,rfl⟩:∃ m,fuel=m+1:=⟨fuel - 1,by omega⟩
   obtain rfl:i=n:=by omega
   obtain ⟨r,h1,h2⟩:=stop s hP
   simp only [iterC,h1]; exact h2
  | succ k ih=>
   intro i fuel s hi hf hP
   obtain ⟨m,rfl⟩:∃ m,fuel=m+1:=⟨fuel - 1,by omega⟩
   rcases step i s (by omega) hP with ⟨s',h1,h2⟩ | ⟨r,h1,h2⟩
   ·simp only [iterC,h1]; exact ih (i+1) m s' (by omega) (by omega) h2
   ·simp only [iterC,h1]; exact h2
 exact key n 0 fuel s (by omega) hn h0
theorem iter_suf {α σ τ ρ:Type} [Inhabited α] (l:List α) (B:σ→Ctl σ ρ) (mk:Nat→τ→σ) (F:List α→τ→Option ρ) (I:Nat→τ→Prop) {fuel:Nat} (hl:l.length<fuel)
 (step:∀ (i:Nat) (t:τ) (r:List α),i<l.length→I i t→l.drop i=l.getD i default::r→
  (∃ t',B (mk i t)= .next (mk (i+1) t')∧I (i+1) t'∧F (l.getD i default::r) t=F r t')∨B (mk i t)= .out (F (l.getD i default::r) t))
 (stop:∀ t,I l.length t→B (mk l.length t)= .out (F [] t)) (t:τ) (h0:I 0 t):iterC B fuel (mk 0 t)=F l t:=by
 have key:∀ (k i fuel:Nat) (t:τ),i+k=l.length→k<fuel→I i t→iterC B fuel (mk i t)=F (l.drop i) t:=by
  intro k
  induction k with
  | zero=>
   intro i fuel t hi hf hI
   obtain ⟨m,rfl⟩:∃ m,fuel=m+1:=⟨fuel - 1,by omega⟩
   obtain rfl:i=l.length:=by omega
   simp only [iterC,stop t hI,List.drop_length]
  | succ k ih=>
   intro i fuel t hi hf hI
   obtain ⟨m,rfl⟩:∃ m,fuel=m+1:=⟨fuel - 1,by omega⟩
   have hlt:i<l.length:=by omega
   have hd:l.drop i=l.getD i default::l.drop (i+1):=by
    rw [List.drop_eq_getElem_cons hlt]; simp [List.getD_eq_getElem?_getD,hlt]
   rw [hd]
   rcases step i t _ hlt hI hd with ⟨t',e1,e2,e3⟩ | e
   ·simp only [iterC,e1]
    rw [e3]; exact ih (i+1) m t' (by omega) (by omega) e2
   ·simp only [iterC,e]
 have:=key l.length 0 fuel t (by omega) hl h0
 simpa using this
theorem getD_mem {α:Type} [Inhabited α] {l:List α} {i:Nat} (h:i<l.length):l.getD i default∈l:=by
 rw [List.getD_eq_getElem?_getD,List.getElem?_eq_getElem h,Option.getD_some]; exact List.getElem_mem h
theorem leL_of:∀ l m:List Int,l.length=m.length→(∀ j,j<l.length→l.getD j default≤m.getD j default)→leL l m
 | [],[],_,_=>trivial
 | [],y::m,h,_=>by simp at h
 | x::l,[],h,_=>by simp at h
 | x::l,y::m,h,h2=>by
  refine ⟨by simpa using h2 0 (by simp),leL_of l m (by simpa using h) fun j hj=> ?_⟩
  have:=h2 (j+1) (by simp; omega)
  simpa using this
theorem leL_get:∀ {l m:List Int},leL l m→l.length=m.length∧∀ j,j<l.length→l.getD j default≤m.getD j default
 | [],[],_=>⟨rfl,fun j hj=>by simp at hj⟩
 | [],y::m,h=>h.elim
 | x::l,[],h=>h.elim
 | x::l,y::m,⟨h,h2⟩=>by
  obtain ⟨e1,e2⟩:=leL_get h2
  refine ⟨by simp [e1],fun j hj=> ?_⟩
  cases j with
  | zero=>simpa using h
  | succ j=>
   have:=e2 j (by simp at hj; omega)
   simpa using this
theorem drive_zero {a:Int} {L:List (List (Int×Int))} {l:List Int} {law:Int} (h1:(l.length:Int)=a) (h2:∀ x∈l,0≤x∧x≤10000) (h3:0≤law∧law<L.length):driveErrV a L l law=0:=by
 unfold driveErrV
 have e1:((l.length:Int) == a)=true:=by simpa using h1
 have e2:(l.all fun x=>inR x 0 10000)=true:=by rw [List.all_eq_true]; intro x hx; exact inR_iff.2 (h2 x hx)
 have e3:inR law 0 ((L.length:Int) - 1)=true:=inR_iff.2 ⟨h3.1,by omega⟩
 rw [e1,e2,e3]; rfl
def stepV (b:Int) (T:List (Int×Int)) (law:List (Int×Int)) (s p:List Int):List Int×Int:=
 if (outS b T law s p).all (inT T)=true then (outS b T law s p,0) else ([],22)
def steppedV (a b:Int) (T:List (Int×Int)) (L:List (List (Int×Int))) (s p:List Int) (law:Int):List Int×Int:=
 if stErr a b T L s=0 then (if driveErrV a L p law=0 then stepV b T (L.getD law.toNat default) s p else ([],driveErrV a L p law)) else ([],stErr a b T L s)
theorem p64 (a b:Int) (T:List (Int×Int)) (L:List (List (Int×Int))) (s p:List Int) (law:Int) (hT:T.length<1000) (hn:L.length<1000) (hL:∀ x∈L,x.length<1000) (hs:s.length<1000000) (hp:p.length<1000000) :
 r38 a b T L s p law=some (steppedV a b T L s p law):=by
 unfold r38 steppedV
 rw [p89 a b T L s hT hn hL hs,Option.bind_some]
 by_cases h:stErr a b T L s=0
 ·have H:=allOk_of h
  rw [H.open,if_pos (by rfl),if_pos h]
  simp only
  rw [p92 a b T L T L p law hn (by omega),Option.bind_some]
  by_cases hd:driveErrV a L p law=0
  ·rw [if_neg (by simpa using hd),if_pos hd,p96 H.ok (H.step hd),Option.bind_some]
   unfold stepV
   by_cases hc:(outS b T (L.getD law.toNat default) s p).all (inT T)=true
   ·simp only [if_pos hc]; rfl
   ·simp only [if_neg hc]; rfl
  ·rw [if_pos (by simpa using hd),if_neg hd]
 ·rw [if_neg h]
  have ho:(openV a b T L s).2.2.2.2.2.2=stErr a b T L s:=by unfold openV stErr; split<;>rfl
  rw [if_neg (by rw [ho]; simpa using h),if_pos (by rw [ho]; simpa using h),ho]
theorem AllOk.stepped {a b:Int} {T:List (Int×Int)} {L:List (List (Int×Int))} {s p:List Int} {law:Int} (h:AllOk a b T L s) (hd:driveErrV a L p law=0):steppedV a b T L s p law=stepV b T (L.getD law.toNat default) s p:=by
 unfold steppedV
 rw [if_pos h.stErr,if_pos hd]
def firstE (e f:Int):Int:=if e=0 then f else e
theorem firstV2 (e f:Int):firstV [e,f]=firstE e f:=by
 unfold firstE firstV firstV firstV
 split
 ·split<;>simp_all
 ·rfl
theorem hot_mono {T:List (Int×Int)} (hT:Asc 1 T) {k x y:Int} (h:x≤y) (hx:hot T k x=true):hot T k y=true:=by
 unfold hot at hx ⊢
 rw [decide_eq_true_eq] at hx ⊢
 obtain ⟨l1,l2⟩:=lip (c:=1) (by decide) T x y hT (Rat.intCast_le_intCast.2 h)
 grind
theorem idx_mono {p q:Int→Bool}:∀ (l m:List Int) (i:Int),0≤i→leL l m→(∀ x y,x≤y→p x=false→q y=false)→(idxV q i m<0∨(0≤idxV p i l∧idxV p i l≤idxV q i m))
 | [],[],i,_,_,_=>Or.inl (by simp [idxV])
 | [],y::m,_,_,h,_=>h.elim
 | x::l,[],_,_,h,_=>h.elim
 | x::l,y::m,i,hi,⟨h1,h2⟩,hp=>by
  unfold idxV
  cases hx:p x with
  | true=>
   simp only [if_true]
   cases hy:q y with
   | true=>simp only [if_true]; right; omega
   | false=>
    simp only [Bool.false_eq_true,if_false]
    have hlow:∀ (r:List Int) (i:Int),0≤i→idxV q i r<0∨i≤idxV q i r:=by
     intro r
     induction r with
     | nil=>intro i hi; left; simp [idxV]
     | cons z r ih=>
      intro i hi
      unfold idxV
      split
      ·right; omega
      ·rcases ih (i+1) (by omega) with h | h
       ·left; exact h
       ·right; omega
    rcases hlow m (i+1) (by omega) with h | h
    ·left; exact h
    ·right; omega
  | false=>
   rw [hp x y h1 hx]
   simp only [Bool.false_eq_true,if_false]
   exact idx_mono l m (i+1) (by omega) h2 hp
theorem dep_mono {T:List (Int×Int)} (hT:Asc 1 T) {k:Int} {l m:List Int} (h:leL l m):depS T k l≤depS T k m:=by
 unfold depS
 have hl:=(leL_get h).1
 have h1:=idx_le (fun x=> !hot T k x) l 0 (by omega)
 have:=idx_mono (p:=fun x=> !hot T k x) (q:=fun x=> !hot T k x) l m 0 (by omega) h (fun x y hxy hx=>by
  have:hot T k x=true:=by simpa using hx
  simpa using hot_mono hT hxy this)
 rcases this with h2 | h2
 ·rw [if_pos h2]
  split<;>omega
 ·split
  ·omega
  ·split<;>omega
theorem outS_leL {a b:Int} {T:List (Int×Int)} {L:List (List (Int×Int))} (ok:SetOk a b T L) {s u p w:List Int} {i j:Int} (hi:0≤i∧i<L.length) (hj:0≤j∧j<L.length) (hij:j≤i) (h:leL s u) (hp:leL p w) :
 leL (outS b T (L.getD i.toNat default) s p) (outS b T (L.getD j.toNat default) u w):=
 outS_mono ok.mix ok.asc (ok.laws i.toNat (by omega)).asc (fun x=>ok.law_mono j.toNat i.toNat (by omega) (by omega) x) h hp
end Go.Proofs.YthldpejmofhaoaaGreatDoor
namespace Go.Proofs.YthldpejmofhaoaaGreatDoor
open Go.Abs
def drivesE (a:Int) (L:List (List (Int×Int))):List (List Int×Int)→Int
 | []=>0
 | d::r=>if driveErrV a L d.1 d.2=0 then drivesE a L r else driveErrV a L d.1 d.2
def drivesErrV (a:Int) (L:List (List (Int×Int))) (l:List (List Int×Int)):Int:=if 200<l.length then 8 else drivesE a L l
theorem drives_ok {a:Int} {L:List (List (Int×Int))}:∀ {l:List (List Int×Int)},drivesE a L l=0→∀ d∈l,driveErrV a L d.1 d.2=0
 | [],_,d,hd=>by simp at hd
 | x::r,h,d,hd=>by
  unfold drivesE at h
  split at h
  ·rename_i hx
   rcases List.mem_cons.1 hd with rfl | hd
   ·exact hx
   ·exact drives_ok h d hd
  ·rename_i hx; exact absurd h hx
theorem p158 (a b:Int) (T:List (Int×Int)) (L:List (List (Int×Int))) (T':List (Int×Int)) (L':List (List (Int×Int))) (l:List (List Int×Int)) (h:L'.length<1000) (hl:l.length<1000000) (hdl:∀ d∈l,d.1.length<1000000):r177 a b T L T' L' l=some (drivesErrV a L' l):=by
 unfold r177 drivesErrV
 rw [p94,Option.bind_some]
 have hh:=iter_suf (fuel:=1000000000) l (b177_1 a b T L T' L' l) (fun i e=>(e,(i:Int))) (fun r e=>some (if e=0 then drivesE a L' r else e)) (fun _ _=>True) (by omega) (fun i e r hi _ _=>by
  have e1:=p92 a b T L T' L' (l.getD i default).1 (l.getD i default).2 h (by have:=hdl _ (getD_mem hi); omega)
  simp only [b177_1,ltN hi,if_true,if_pos (rgN hi),Int.toNat_natCast,wS i (by omega),e1,bindC,drivesE]
  left
  rw [p91 _ (by simp),firstV2]
  refine ⟨firstE e (driveErrV a L' (l.getD i default).1 (l.getD i default).2),rfl,trivial,?_⟩
  unfold firstE
  by_cases he:e=0
  ·rw [if_pos he,if_pos he]
  ·rw [if_neg he,if_neg he,if_neg he]) (fun e _=>by
  simp only [b177_1]
  rw [if_neg (by simp)]
  simp only [drivesE]
  by_cases he:e=0
  ·rw [if_pos he,he]
  ·rw [if_neg he]) (codeIf (decide ((l.length:Int)≤200)) 8) trivial
 rw [show ((0:Nat):Int)=0 from rfl] at hh
 rw [hh]
 by_cases h2:200<l.length
 ·have:decide ((l.length:Int)≤200)=false:=by rw [decide_eq_false_iff_not]; omega
  rw [if_pos h2,this]; rfl
 ·have:decide ((l.length:Int)≤200)=true:=by rw [decide_eq_true_eq]; omega
  rw [if_neg h2,this]; rfl
def runS (b:Int) (T:List (Int×Int)) (L:List (List (Int×Int))):List Int→List (List Int×Int)→Option (List (List Int)×Int)
 | _,[]=>some ([],0)
 | s,d::r=>
  if (outS b T (L.getD d.2.toNat default) s d.1).all (inT T)=true then
   (runS b T L (outS b T (L.getD d.2.toNat default) s d.1) r).map fun y=>(outS b T (L.getD d.2.toNat default) s d.1::y.1,lossS T (L.getD d.2.toNat default) (hd (mixS b T s))+y.2)
  else none
def runF (o:Option (List (List Int)×Int)) (out:List (List Int)) (lost:Int):List (List Int)×Int×Int:=(o.map fun y=>(out++y.1,lost+y.2,(0:Int))).getD ([],0,22)
theorem runF_cons {b:Int} {T:List (Int×Int)} {L:List (List (Int×Int))} {s:List Int} {d:List Int×Int} {r:List (List Int×Int)} {out:List (List Int)} {lost:Int} (h:(outS b T (L.getD d.2.toNat default) s d.1).all (inT T)=true) :
 runF (runS b T L s (d::r)) out lost=runF (runS b T L (outS b T (L.getD d.2.toNat default) s d.1) r) (out++[outS b T (L.getD d.2.toNat default) s d.1]) (lost+lossS T (L.getD d.2.toNat default) (hd (mixS b T s))):=by
 conv=>lhs; unfold runS
 rw [if_pos h]
 unfold runF
 cases runS b T L (outS b T (L.getD d.2.toNat default) s d.1) r with
 | none=>rfl
 | some y=>simp [Int.add_assoc]
theorem run_none {b:Int} {T:List (Int×Int)} {L:List (List (Int×Int))} {s:List Int} {d:List Int×Int} {r:List (List Int×Int)} (h:¬ (outS b T (L.getD d.2.toNat default) s d.1).all (inT T)=true):runS b T L s (d::r)=none:=by
 unfold runS; rw [if_neg h]
theorem run_len {b:Int} {T:List (Int×Int)} {L:List (List (Int×Int))}:∀ (l:List (List Int×Int)) (s:List Int) (y:List (List Int)×Int),runS b T L s l=some y→y.1.length=l.length∧∀ x∈y.1,x.length=s.length
 | [],s,y,h=>by cases h; exact ⟨rfl,by simp⟩
 | d::r,s,y,h=>by
  unfold runS at h
  split at h
  ·cases hr:runS b T L (outS b T (L.getD d.2.toNat default) s d.1) r with
   | none=>rw [hr] at h; cases h
   | some z=>
    rw [hr] at h; cases h
    obtain ⟨h1,h2⟩:=run_len r _ z hr
    refine ⟨by simp [h1],fun x hx=> ?_⟩
    rcases List.mem_cons.1 hx with rfl | hx
    ·exact outS_len ..
    ·rw [h2 x hx,outS_len]
  ·cases h
structure RunI (a b:Int) (T:List (Int×Int)) (L:List (List (Int×Int))) (i:Nat) (out:List (List Int)) (lost:Int) (now:List Int):Prop where
 len:out.length=i
 rng:0≤lost∧lost≤1000*i
 all:AllOk a b T L now
def runV (a b:Int) (T:List (Int×Int)) (L:List (List (Int×Int))) (s:List Int) (l:List (List Int×Int)):List (List Int)×Int×Int:=
 if stErr a b T L s=0 then (if drivesErrV a L l=0 then runF (runS b T L s l) [] 0 else ([],0,drivesErrV a L l)) else ([],0,stErr a b T L s)
theorem drivesE_of {a:Int} {L:List (List (Int×Int))} {l:List (List Int×Int)} (h:drivesErrV a L l=0):l.length≤200∧∀ d∈l,driveErrV a L d.1 d.2=0:=by
 unfold drivesErrV at h
 split at h
 ·cases h
 ·exact ⟨by omega,drives_ok h⟩
theorem p132 (a b:Int) (T:List (Int×Int)) (L:List (List (Int×Int))) (s:List Int) (l:List (List Int×Int)) (hT:T.length<1000) (hn:L.length<1000) (hL:∀ x∈L,x.length<1000) (hs:s.length<1000000) (hl:l.length<1000000) (hdl:∀ d∈l,d.1.length<1000000) :
 r86 a b T L s l=some (runV a b T L s l):=by
 unfold r86 runV
 rw [p89 a b T L s hT hn hL hs,Option.bind_some]
 by_cases h:stErr a b T L s=0
 ·have H:=allOk_of h
  rw [H.open,if_pos (by rfl),if_pos h]
  simp only
  rw [p158 a b T L T L l hn hl hdl,Option.bind_some]
  by_cases hz:drivesErrV a L l=0
  ·rw [if_neg (by simpa using hz),if_pos hz]
   obtain ⟨h200,hok⟩:=drivesE_of hz
   refine iter_suf (τ:=List (List Int)×Int×List Int) l (b86_1 l (a,b,T,L,T,L,0)) (fun i t=>(t.1,t.2.1,t.2.2,(i:Int))) (fun r t=>some (runF (runS b T L t.2.2 r) t.1 t.2.1)) (fun i t=>RunI a b T L i t.1 t.2.1 t.2.2) (by omega) ?_ ?_ ([],0,s) (show RunI a b T L 0 [] 0 s from ⟨rfl,by omega,H⟩)
   ·rintro i ⟨out,lost,now⟩ r hi R hdr
    replace R:RunI a b T L i out lost now:=R
    have hd1:=hok _ (getD_mem hi)
    have hb:=R.rng
    have hlen:=R.len
    have e1:=p96 R.all.ok (R.all.step hd1)
    have hlr:=loss_rng R.all.ok (hd (mixS b T now)) (drive_ok hd1).2.2
    simp only [b86_1,ltN hi,if_true,if_pos (rgN hi),Int.toNat_natCast,wS i (by omega),e1,bindC]
    by_cases hc:(outS b T (L.getD (l.getD i default).2.toNat default) now (l.getD i default).1).all (inT T)=true
    ·left
     rw [if_pos hc,if_neg (by decide),if_pos ⟨by omega,by omega⟩,IntWalk.i64_in _ ⟨by omega,by omega⟩]
     exact ⟨(_,_,_),rfl,RunI.mk (by simp [hlen]) (show 0≤lost+_∧lost+_≤1000*((i+1:Nat):Int) by omega) (R.all.next hc),by simp only; rw [runF_cons hc]; rfl⟩
    ·right
     rw [if_neg hc,if_pos (by decide),run_none hc]; rfl
   ·rintro ⟨out,lost,now⟩ R
    simp only [b86_1]
    rw [if_neg (by simp)]
    simp [runS,runF]
  ·rw [if_pos (by simpa using hz),if_neg hz]
 ·rw [if_neg h]
  have ho:(openV a b T L s).2.2.2.2.2.2=stErr a b T L s:=by unfold openV stErr; split<;>rfl
  rw [if_neg (by rw [ho]; simpa using h),if_pos (by rw [ho]; simpa using h),ho]
def sumW:Int→List Int→Int
 | acc,[]=>acc
 | acc,x::r=>sumW (IntKind.i64.wrap (acc+x)) r
theorem p133 (l:List Int) (hl:l.length<1000000000):r87 l=some (sumW 0 l):=by
 unfold r87
 refine iter_suf (τ:=Int) l (b87_1 l) (fun i t=>(t,(i:Int))) (fun r t=>some (sumW t r)) (fun _ _=>True) hl (fun i t r hi _ _=> ?_) (fun t _=>by simp [b87_1,sumW]) 0 trivial
 left
 simp only [b87_1,ltN hi,if_true,if_pos (rgN hi),Int.toNat_natCast,wS i (by omega)]
 exact ⟨_,rfl,trivial,rfl⟩
theorem p79 (l:List Int) (hl:l.length<1000000000):r37 l=some (sumW 0 l):=p133 l hl
def inW:Int→List (List Int×Int)→Int
 | acc,[]=>acc
 | acc,d::r=>inW (IntKind.i64.wrap (acc+sumW 0 d.1)) r
end Go.Proofs.YthldpejmofhaoaaGreatDoor
namespace Go.Proofs.YthldpejmofhaoaaGreatDoor
open Go.Abs
def balV (s:List Int) (l:List (List Int×Int)) (y:List (List Int)×Int):Int×Int×Int×Int:=
 (sumW 0 s,inW 0 l,y.2,if y.1.length=0 then sumW 0 s else sumW 0 (y.1.getD (y.1.length - 1) default))
theorem p68_loop (l:List (List Int×Int)) (v1:List (List Int)×Int×Int) (v2 v3:Int) (hl:l.length<1000000) (hdl:∀ d∈l,d.1.length<1000000) :
 iterC (b20_1 l v1 v2 v3) 1000000000 (0,0)=some (v2,inW 0 l,v1.2.1,v3,0):=by
 refine iter_suf (τ:=Int) l (b20_1 l v1 v2 v3) (fun i t=>((i:Int),t)) (fun r t=>some (v2,inW t r,v1.2.1,v3,0)) (fun _ _=>True) (by omega) (fun i t r hi _ _=> ?_) (fun t _=>by simp [b20_1,inW]) 0 trivial
 left
 have:=hdl _ (getD_mem hi)
 simp only [b20_1,ltN hi,if_true,if_pos (rgN hi),Int.toNat_natCast,wS i (by omega),p133 (l.getD i default).1 (by omega),bindC]
 exact ⟨_,rfl,trivial,rfl⟩
theorem p68_loop2 (l:List (List Int×Int)) (v1:List (List Int)×Int×Int) (v2:Int) (hl:l.length<1000000) (hdl:∀ d∈l,d.1.length<1000000) :
 iterC (b20_2 l v1 v2) 1000000000 (0,0)=some (v2,inW 0 l,v1.2.1,v2,0):=p68_loop l v1 v2 v2 hl hdl
theorem run_st {a b:Int} {T:List (Int×Int)} {L:List (List (Int×Int))} {s:List Int} {l:List (List Int×Int)} (H:AllOk a b T L s) (y:List (List Int)×Int) (h:runS b T L s l=some y):y.1.length=l.length∧(∀ x∈y.1,x.length=s.length)∧s.length<1000:=by
 have:=run_len l s y h
 have h2:=H.len
 have h3:=H.ok.cells
 exact ⟨this.1,this.2,by omega⟩
def balF (s:List Int) (l:List (List Int×Int)) (v:List (List Int)×Int×Int):Int×Int×Int×Int×Int:=
 if v.2.2=0 then ((balV s l (v.1,v.2.1)).1,(balV s l (v.1,v.2.1)).2.1,(balV s l (v.1,v.2.1)).2.2.1,(balV s l (v.1,v.2.1)).2.2.2,0) else (0,0,0,0,v.2.2)
theorem runV_st {a b:Int} {T:List (Int×Int)} {L:List (List (Int×Int))} {s:List Int} {l:List (List Int×Int)} (h:(runV a b T L s l).2.2=0):(runV a b T L s l).1.length≤200∧(∀ x∈(runV a b T L s l).1,x.length=s.length)∧s.length<1000:=by
 unfold runV at h ⊢
 by_cases h1:stErr a b T L s=0
 ·rw [if_pos h1] at h ⊢
  by_cases h2:drivesErrV a L l=0
  ·rw [if_pos h2] at h ⊢
   have h200:=(drivesE_of h2).1
   cases hr:runS b T L s l with
   | none=>rw [hr] at h; simp [runF] at h
   | some y=>
    have:=run_st (allOk_of h1) y hr
    simp only [runF,Option.map_some,Option.getD_some,List.nil_append]
    exact ⟨by omega,this.2⟩
  ·rw [if_neg h2] at h; exact absurd h h2
 ·rw [if_neg h1] at h; exact absurd h h1
theorem p68 (a b:Int) (T:List (Int×Int)) (L:List (List (Int×Int))) (s:List Int) (l:List (List Int×Int)) (hT:T.length<1000) (hn:L.length<1000) (hL:∀ x∈L,x.length<1000) (hs:s.length<1000000) (hl:l.length<1000000) (hdl:∀ d∈l,d.1.length<1000000) :
 r20 a b T L s l=some (balF s l (runV a b T L s l)):=by
 unfold r20 balF
 rw [p132 a b T L s l hT hn hL hs hl hdl,Option.bind_some]
 by_cases h:(runV a b T L s l).2.2=0
 ·obtain ⟨h1,h2,h3⟩:=runV_st h
  rw [if_neg (by simpa using h),if_pos h,p133 s (by omega),Option.bind_some]
  generalize runV a b T L s l=v at*
  unfold balV
  by_cases h0:v.1.length=0
  ·rw [if_neg (by rw [decide_eq_true_eq]; omega),p68_loop2 l v _ hl hdl,if_pos h0]
  ·have hm:=h2 _ (getD_mem (show v.1.length - 1<v.1.length by omega))
   rw [if_pos (by rw [decide_eq_true_eq]; omega),wP v.1.length (by omega),wPn,if_pos ⟨by omega,by omega⟩,p133 _ (by omega),Option.bind_some,p68_loop l v _ _ hl hdl,if_neg h0]
 ·rw [if_pos (by simpa using h),if_neg h]
theorem p65 (l:List Int) (n:Int) (hl:l.length<1000000000):r19 l n=some (l,n):=by
 rw [r19,p19 l hl,Option.bind_some]
theorem p67 (l:List (List Int×Int)) (hl:l.length<1000000) (hdl:∀ d∈l,d.1.length<1000000):r21 l=some l:=by
 unfold r21
 refine iter_run l.length (b21_1 l) (fun i=>(l.take i,(i:Int))) _ (by omega) (fun i hi=> ?_) (by simp [b21_1])
 have hlen:(l.take i).length=i:=by simp; omega
 have:=hdl _ (getD_mem hi)
 simp only [b21_1,ltN hi,if_true,if_pos (rgN hi),Int.toNat_natCast,wS i (by omega),p65 (l.getD i default).1 _ (show (l.getD i default).1.length<1000000000 by omega),bindC]
 rw [if_pos ⟨by omega,by omega⟩,take_ext l i hi]
 rfl
end Go.Proofs.YthldpejmofhaoaaGreatDoor
namespace Go.Proofs.YthldpejmofhaoaaGreatDoor
open Go.Abs
theorem sumW_eq (l:List Int):∀ acc:Int,(∀ x∈l,0≤x∧x≤10000000)→0≤acc→acc+10000000*(l.length:Int)≤1000000000000→sumW acc l=acc+sumL l:=by
 induction l with
 | nil=>intro acc _ _ _; simp only [sumW,sumL]; omega
 | cons x r ih=>
  intro acc h h0 h1
  have hx:=h x (by simp)
  have e:((x::r).length:Int)=r.length+1:=by simp
  rw [e] at h1
  unfold sumW sumL
  rw [IntWalk.i64_in (acc+x) ⟨by omega,by omega⟩,ih (acc+x) (fun y hy=>h y (by simp [hy])) (by omega) (by omega)]
  omega
theorem sumL_rng {M:Int}:∀ (l:List Int),(∀ x∈l,0≤x∧x≤M)→0≤sumL l∧sumL l≤M*l.length
 | [],_=>by simp [sumL]
 | x::r,h=>by
  have hx:=h x (by simp)
  have:=sumL_rng r (fun y hy=>h y (by simp [hy]))
  have e:M*((x::r).length:Int)=M*r.length+M:=by rw [List.length_cons,Int.natCast_add,Int.mul_add]; simp
  rw [e]; unfold sumL; omega
structure KeptI (a b:Int) (T:List (Int×Int)) (L:List (List (Int×Int))) (s:List Int) (l:List (List Int×Int)) (i:Nat) (inn:Int) (now:List Int) (pre:List (List Int)) (n:Int):Prop where
 all:AllOk a b T L now
 run:runS b T L s l=(runS b T L now (l.drop i)).map fun y=>(pre++y.1,n+y.2)
 len:pre.length=i
 rng:0≤n∧n≤1000*i
 irng:0≤inn∧inn≤200000*i
 bal:sumL s+inn=n+sumL now
 inw:inW inn (l.drop i)=inW 0 l
 last:(i=0→now=s)∧(0<i→pre.getD (i - 1) default=now)
theorem AllOk.sum {a b:Int} {T:List (Int×Int)} {L:List (List (Int×Int))} {s:List Int} (h:AllOk a b T L s):sumW 0 s=sumL s∧0≤sumL s∧sumL s≤12000000:=by
 have h1:=h.len
 have h2:=h.ok.cells
 have h3:∀ x∈s,0≤x∧x≤1000000:=fun x hx=>inT_rng h.ok (h.ins x hx)
 have h4:=sumL_rng s h3
 refine ⟨?_,h4.1,by omega⟩
 rw [sumW_eq s 0 (fun x hx=>by have:=h3 x hx; omega) (by omega) (by omega),Int.zero_add]
theorem drive_sum {a b:Int} {T:List (Int×Int)} {L:List (List (Int×Int))} (ok:SetOk a b T L) {p:List Int} {law:Int} (h:driveErrV a L p law=0):sumW 0 p=sumL p∧0≤sumL p∧sumL p≤120000:=by
 have D:=drive_ok h
 have h2:=ok.cells
 have h4:=sumL_rng p D.2.1
 refine ⟨?_,h4.1,by omega⟩
 rw [sumW_eq p 0 (fun x hx=>by have:=D.2.1 x hx; omega) (by omega) (by omega),Int.zero_add]
end Go.Proofs.YthldpejmofhaoaaGreatDoor
namespace Go.Proofs.YthldpejmofhaoaaGreatDoor
open Go.Abs
theorem gcd_loop (B:Int×Int→Ctl (Int×Int) Int) (hB:∀ x y:Int,0≤x→x≤9000000000000000000→0≤y→B (x,y)=if y=0 then .out (some x) else .next (y,x.tmod y)) :
 ∀ (n:Nat) (x y:Int) (fuel:Nat),0≤x→x≤9000000000000000000→0≤y→y≤9000000000000000000→y<n→n<fuel→iterC B fuel (x,y)=some (Int.gcd x y:Int)
 | 0,x,y,fuel,_,_,_,_,_,_=>by omega
 | n+1,x,y,fuel,h1,h2,h3,h3',h4,h5=>by
  obtain ⟨m,rfl⟩:∃ m,fuel=m+1:=⟨fuel - 1,by omega⟩
  simp only [iterC,hB x y h1 h2 h3]
  by_cases hy:y=0
  ·rw [if_pos hy]
   simp only
   rw [hy,Int.gcd_zero_right,Int.natAbs_of_nonneg h1]
  ·rw [if_neg hy]
   simp only
   have e1:x.tmod y=x % y:=Int.tmod_eq_emod_of_nonneg h1
   have e2:=Int.emod_nonneg x hy
   have e3:=Int.emod_lt_of_pos x (show 0<y by omega)
   rw [e1,gcd_loop B hB n y (x % y) m h3 h3' e2 (by omega) (by omega) (by omega)]
   congr 2
   rw [Int.emod_def,Int.sub_eq_add_neg, ← Int.mul_neg,Int.gcd_add_mul_left_right,Int.gcd_comm]
theorem neg_in (x:Int) (h1:0≤x) (h2:x≤9000000000000000000):(if x<IntKind.i64.wrap (0 - x) then IntKind.i64.wrap (0 - x) else x)=x:=by
 rw [IntWalk.i64_in (0 - x) ⟨by omega,by omega⟩,if_neg (by omega)]
theorem p122 (x y:Int) (h1:0≤x) (h2:x≤9000000000000000000) (h3:0≤y) (h4:y≤100000000):r101 x y=some (Int.gcd x y:Int):=by
 unfold r101
 refine gcd_loop b101_1 (fun x y hx hx2 hy=> ?_) 100000001 x y 1000000000 h1 h2 h3 (by omega) (by omega) (by omega)
 unfold b101_1
 simp only [neg_in x hx hx2]
 by_cases h:y=0
 ·rw [if_pos h,if_neg (by simpa using h)]
 ·rw [if_neg h,if_pos (by simpa using h),if_pos h]
theorem low {v:Rat} {N D:Int} (h:At v N D 1000000 3000):(Int.gcd N D:Int)≠0∧IntKind.i64.wrap (N.tdiv (Int.gcd N D))=v.num∧IntKind.i64.wrap (D.tdiv (Int.gcd N D))=v.den:=by
 have h1:=h.pos; have h2:=h.le; have h3:=h.num
 have h0:(0:Rat)<D:=Rat.intCast_pos.2 h1
 have e:v=Rat.divInt N D:=by
  rw [Rat.divInt_eq_div,h.eq,Rat.mul_div_cancel (by grind)]
 have hg:0<Int.gcd N D:=by
  apply Nat.pos_of_ne_zero; intro hz
  rw [Int.gcd_eq_zero_iff] at hz; omega
 have g0:(0:Int)<(Int.gcd N D:Int):=by omega
 have n1:N.tdiv (Int.gcd N D)=N / (Int.gcd N D:Int):=Int.tdiv_eq_ediv_of_nonneg h3.1
 have d1:D.tdiv (Int.gcd N D)=D / (Int.gcd N D:Int):=Int.tdiv_eq_ediv_of_nonneg (by omega)
 have b1:0≤N / (Int.gcd N D:Int):=Int.ediv_nonneg h3.1 (by omega)
 have b2:N / (Int.gcd N D:Int)≤N:=Int.ediv_le_self _ h3.1
 have b3:0≤D / (Int.gcd N D:Int):=Int.ediv_nonneg (by omega) (by omega)
 have b4:D / (Int.gcd N D:Int)≤D:=Int.ediv_le_self _ (by omega)
 refine ⟨by omega,?_,?_⟩
 ·rw [n1,IntWalk.i64_in _ ⟨by omega,by omega⟩,e,Rat.num_divInt,Int.sign_eq_one_of_pos h1,Int.one_mul,Int.gcd_comm]
 ·rw [d1,IntWalk.i64_in _ ⟨by omega,by omega⟩,e,Rat.den_divInt,if_neg (by omega),Int.gcd_comm D N]
  have:(D.natAbs:Int)=D:=Int.natAbs_of_nonneg (by omega)
  rw [Int.natCast_ediv,this]
def setE (a b:Int) (T:List (Int×Int)) (L:List (List (Int×Int))):Int:=(setupErrV a b T L).2
theorem p53 (a b:Int) (T:List (Int×Int)) (L:List (List (Int×Int))) (e:Int) (hT:T.length<1000) (hn:L.length<1000) (hL:∀ x∈L,x.length<1000) :
 r31 a b T L e=some (if setE a b T L=0 then (if inT T e=true then ((pl T e).num,((pl T e).den:Int),0) else (0,0,2)) else (0,0,setE a b T L)):=by
 unfold r31 setE
 rw [p101 a b T L hT hn hL,Option.bind_some]
 by_cases h:(setupErrV a b T L).2=0
 ·have ok:=setOk_of h
  rw [if_pos h,if_pos h]
  simp only
  rw [if_pos (by rfl),p120 a b T L T L e ok.tpos ok.tlt,Option.bind_some,p94,Option.bind_some]
  cases he:inT T e with
  | false=>rfl
  | true=>
   obtain ⟨N,D,e1,P⟩:=p121 ok a b T L L e
   obtain ⟨g0,g1,g2⟩:=low P
   have q1:=P.pos; have q2:=P.le; have q3:=P.num
   rw [if_neg (by decide),e1,Option.bind_some,p122 N D q3.1 (by omega) (by omega) (by omega),Option.bind_some,if_pos g0,if_pos g0,g1,g2]
   rfl
 ·rw [if_neg h,if_neg h]
  simp only
  rw [if_neg (by simpa using h),if_pos (by simpa using h)]
end Go.Proofs.YthldpejmofhaoaaGreatDoor
namespace Go.Proofs.YthldpejmofhaoaaGreatDoor
open Go.Abs
def orderF (lo hi:List Int) (i:Nat):Option (Int×Int):=if lo.getD i default>hi.getD i default then some ((i:Int),9) else none
def boxErrV (a:Int) (T:List (Int×Int)) (lo hi:List Int):Int×Int:=
 if (stateErrV a T lo).2=0 then (if (stateErrV a T hi).2=0 then (scanN (orderF lo hi) 0 lo.length).getD (0,0) else stateErrV a T hi) else stateErrV a T lo
theorem orE_getD {ρ:Type} (o:Option ρ) (v:ρ):orE o (some v)=some (o.getD v):=by cases o<;>rfl
theorem p114 {a b:Int} {T:List (Int×Int)} {L:List (List (Int×Int))} (ok:SetOk a b T L) (lo hi:List Int) (h1:lo.length<1000000) (h2:hi.length<1000000):r232 a b T L T L lo hi=some (boxErrV a T lo hi):=by
 unfold r232 boxErrV
 rw [p102 a b T L T L lo ok.tpos ok.tlt h1,Option.bind_some]
 by_cases c1:(stateErrV a T lo).2=0
 ·rw [if_neg (by simpa using c1),if_pos c1,p102 a b T L T L hi ok.tpos ok.tlt h2,Option.bind_some]
  by_cases c2:(stateErrV a T hi).2=0
  ·have l1:=(state_ok c1).1
   have l2:=(state_ok c2).1
   rw [if_neg (by simpa using c2),if_pos c2, ← orE_getD]
   refine iter_scan lo.length _ _ _ (by omega) (fun i hi'=> ?_) (by simp [b232_1])
   simp only [b232_1,ltN hi',if_true,if_pos (rgN hi'),if_pos (rgN (show i<hi.length by omega)),Int.toNat_natCast,wS i (by omega),orderF]
   by_cases hc:lo.getD i default>hi.getD i default
   ·rw [if_pos (decide_eq_true hc),if_pos hc]
   ·rw [if_neg (by rw [decide_eq_true_eq]; exact hc),if_neg hc]
  ·rw [if_pos (by simpa using c2),if_neg c2]
 ·rw [if_pos (by simpa using c1),if_neg c1]
theorem p46 {a b:Int} {T:List (Int×Int)} {L:List (List (Int×Int))} (ok:SetOk a b T L) (lo hi:List Int) (h1:lo.length<1000000) (h2:hi.length<1000000):r200 a b T L lo hi=some (boxErrV a T lo hi):=by
 unfold r200 boxErrV
 rw [p27 a b T L lo ok.tpos ok.tlt h1,Option.bind_some]
 by_cases c1:(stateErrV a T lo).2=0
 ·rw [if_neg (by simpa using c1),if_pos c1,p27 a b T L hi ok.tpos ok.tlt h2,Option.bind_some]
  by_cases c2:(stateErrV a T hi).2=0
  ·have l1:=(state_ok c1).1
   have l2:=(state_ok c2).1
   rw [if_neg (by simpa using c2),if_pos c2, ← orE_getD, ← l1]
   refine iter_scan lo.length _ _ _ (by omega) (fun i hi'=> ?_) (by simp [b200_1])
   simp only [b200_1,ltN hi',if_true,if_pos (rgN hi'),if_pos (rgN (show i<hi.length by omega)),Int.toNat_natCast,wS i (by omega),orderF]
   by_cases hc:lo.getD i default>hi.getD i default
   ·rw [if_pos (decide_eq_true hc),if_pos hc]
   ·rw [if_neg (by rw [decide_eq_true_eq]; exact hc),if_neg hc]
  ·rw [if_pos (by simpa using c2),if_neg c2]
 ·rw [if_pos (by simpa using c1),if_neg c1]
theorem box_ok {a:Int} {T:List (Int×Int)} {lo hi:List Int} (h:(boxErrV a T lo hi).2=0):(stateErrV a T lo).2=0∧(stateErrV a T hi).2=0∧leL lo hi∧boxErrV a T lo hi=(0,0):=by
 unfold boxErrV at h ⊢
 by_cases c1:(stateErrV a T lo).2=0
 ·rw [if_pos c1] at h ⊢
  by_cases c2:(stateErrV a T hi).2=0
  ·rw [if_pos c2] at h ⊢
   have l1:=(state_ok c1).1
   have l2:=(state_ok c2).1
   cases hs:scanN (orderF lo hi) 0 lo.length with
   | none=>
    refine ⟨c1,c2,leL_of lo hi (by omega) fun j hj=> ?_,rfl⟩
    have:=scan_none hs j (by omega) (by omega)
    unfold orderF at this
    split at this
    ·cases this
    ·omega
   | some v=>
    obtain ⟨j,_,_,hj⟩:=scan_some hs
    rw [hs] at h
    unfold orderF at hj
    split at hj
    ·cases hj; simp at h
    ·cases hj
  ·rw [if_neg c2] at h; exact absurd h c2
 ·rw [if_neg c1] at h; exact absurd h c1
def bxErr (a b:Int) (T:List (Int×Int)) (L:List (List (Int×Int))) (lo hi:List Int):Int:=if (setupErrV a b T L).2=0 then (boxErrV a T lo hi).2 else (setupErrV a b T L).2
def openBx (a b:Int) (T:List (Int×Int)) (L:List (List (Int×Int))) (lo hi:List Int):Int×Int×(List (Int×Int))×(List ((List (Int×Int))))×(List (Int×Int))×(List ((List (Int×Int))))×Int:=
 if (setupErrV a b T L).2=0 then (a,b,T,L,T,L,(boxErrV a T lo hi).2) else (0,0,[],[],[],[],(setupErrV a b T L).2)
theorem openBx_err (a b:Int) (T:List (Int×Int)) (L:List (List (Int×Int))) (lo hi:List Int):(openBx a b T L lo hi).2.2.2.2.2.2=bxErr a b T L lo hi:=by
 unfold openBx bxErr; split<;>rfl
theorem p115 (a b:Int) (T:List (Int×Int)) (L:List (List (Int×Int))) (lo hi:List Int) (hT:T.length<1000) (hn:L.length<1000) (hL:∀ x∈L,x.length<1000) (h1:lo.length<1000000) (h2:hi.length<1000000):r178 a b T L lo hi=some (openBx a b T L lo hi):=by
 unfold r178 openBx
 rw [p101 a b T L hT hn hL,Option.bind_some]
 by_cases h:(setupErrV a b T L).2=0
 ·have ok:=setOk_of h
  rw [if_pos h,if_pos h]
  simp only
  rw [if_pos (by rfl),p114 ok lo hi h1 h2,Option.bind_some]
 ·rw [if_neg h,if_neg h]
  simp only
  rw [if_neg (by simpa using h)]
structure BoxOk (a b:Int) (T:List (Int×Int)) (L:List (List (Int×Int))) (u v:List Int):Prop where
 lo:AllOk a b T L u
 hi:AllOk a b T L v
 le:leL u v
theorem boxOk_of {a b:Int} {T:List (Int×Int)} {L:List (List (Int×Int))} {lo hi:List Int} (h:bxErr a b T L lo hi=0):BoxOk a b T L lo hi:=by
 unfold bxErr at h
 by_cases h0:(setupErrV a b T L).2=0
 ·rw [if_pos h0] at h
  obtain ⟨h1,h2,h3,_⟩:=box_ok h
  exact ⟨allOk_of (by unfold stErr; rw [if_pos h0]; exact h1),allOk_of (by unfold stErr; rw [if_pos h0]; exact h2),h3⟩
 ·rw [if_neg h0] at h; exact absurd h h0
theorem openBx_ok {a b:Int} {T:List (Int×Int)} {L:List (List (Int×Int))} {lo hi:List Int} (h:bxErr a b T L lo hi=0):openBx a b T L lo hi=(a,b,T,L,T,L,0):=by
 unfold bxErr at h
 unfold openBx
 by_cases h0:(setupErrV a b T L).2=0
 ·rw [if_pos h0] at h ⊢; rw [h]
 ·rw [if_neg h0] at h; exact absurd h h0
theorem firstV_cons (x:Int) (r:List Int):firstV (x::r)=firstE x (firstV r):=rfl
theorem firstE_assoc (x y z:Int):firstE (firstE x y) z=firstE x (firstE y z):=by
 unfold firstE; by_cases h:x=0
 ·rw [if_pos h,if_pos h]
 ·rw [if_neg h,if_neg h,if_neg h]
theorem firstE_zero (x:Int):firstE x 0=x:=by
 unfold firstE; by_cases h:x=0
 ·rw [if_pos h,h]
 ·rw [if_neg h]
def rangeP (r:Int×Int):Int:=firstE (codeIf (inR r.1 0 10000 && inR r.2 0 10000) 2) (codeIf (decide (r.1≤r.2)) 9)
def rangesP:List (Int×Int)→Int
 | []=>0
 | r::q=>firstE (rangeP r) (rangesP q)
def lawsP (L:List (List (Int×Int))) (lo hi:Int):Int:=firstE (codeIf (inR lo 0 ((L.length:Int) - 1)) 6) (firstE (codeIf (inR hi 0 ((L.length:Int) - 1)) 6) (codeIf (decide (lo≤hi)) 9))
def spanErrV (a:Int) (L:List (List (Int×Int))) (ps:List (Int×Int)) (lo hi:Int):Int:=firstE (codeIf ((ps.length:Int) == a) 10) (firstE (rangesP ps) (lawsP L lo hi))
theorem p139 (n:Int):r167 n=some (inR n 0 10000):=rfl
theorem p116 (a b:Int) (T:List (Int×Int)) (L:List (List (Int×Int))) (T':List (Int×Int)) (L':List (List (Int×Int))) (ps:List (Int×Int)) (lo hi:Int) (h:L'.length<1000) (hl:ps.length<1000000):r198 a b T L T' L' ps lo hi=some (spanErrV a L' ps lo hi):=by
 unfold r198 spanErrV
 rw [p94,Option.bind_some]
 have hh:=iter_suf (fuel:=1000000000) ps (b198_1 a b T L T' L' ps lo hi) (fun i e=>(e,(i:Int))) (fun r e=>some (firstE e (firstE (rangesP r) (lawsP L' lo hi)))) (fun _ _=>True) (by omega) (fun i e r hi' _ _=>by
  left
  refine ⟨firstE e (rangeP (ps.getD i default)),?_,trivial,?_⟩
  ·simp only [b198_1,ltN hi',if_true,if_pos (rgN hi'),Int.toNat_natCast,wS i (by omega),p139,p94,bindC,Option.isSome_some,Option.getD_some,implies_true]
   rw [p91 _ (by simp)]
   simp only [firstV_cons]
   rw [show firstV []=0 from rfl,firstE_zero]
   rfl
  ·simp only [rangesP]
   rw [firstE_assoc,firstE_assoc]) (fun e _=>by
  simp only [b198_1]
  rw [if_neg (by simp),p126 a b T L T' L' lo h,Option.bind_some,p126 a b T L T' L' hi h,Option.bind_some,p94,Option.bind_some,p91 _ (by simp),Option.bind_some]
  simp only [firstV_cons,rangesP,lawsP]
  rw [show firstV []=0 from rfl,firstE_zero]
  rfl) (codeIf ((ps.length:Int) == a) 10) trivial
 rw [show ((0:Nat):Int)=0 from rfl] at hh
 exact hh
theorem p48 (a b:Int) (T:List (Int×Int)) (L:List (List (Int×Int))) (ps:List (Int×Int)) (lo hi:Int) (h:L.length<1000) (hl:ps.length<1000000):r115 a b T L ps lo hi=some (spanErrV a L ps lo hi):=by
 unfold r115 spanErrV
 by_cases ha:(ps.length:Int)=a
 ·have e1:((ps.length:Int) == a)=true:=by simpa using ha
  rw [if_neg (by simpa using ha),e1]
  show iterC (b115_1 a b T L ps lo hi) 1000000000 0=some (firstE (rangesP ps) (lawsP L lo hi))
  refine iter_suf (τ:=Unit) ps (b115_1 a b T L ps lo hi) (fun i _=>(i:Int)) (fun r _=>some (firstE (rangesP r) (lawsP L lo hi))) (fun _ _=>True) (by omega) (fun i t r hi' _ _=> ?_) (fun t _=> ?_) () trivial
  ·simp only [b115_1,ltN hi',if_true,if_pos (rgN hi'),Int.toNat_natCast,wS i (by omega),p59,bindC,Option.isSome_some,Option.getD_some,implies_true,rangesP,rangeP]
   rw [if_pos (fun _=>rgN hi')]
   cases c1:inR (ps.getD i default).1 0 10000 with
   | false=>right; rfl
   | true=>
    cases c2:inR (ps.getD i default).2 0 10000 with
    | false=>right; rfl
    | true=>
     by_cases c3:(ps.getD i default).1≤(ps.getD i default).2
     ·left
      refine ⟨(),?_,trivial,?_⟩
      ·have:decide ((ps.getD i default).1>(ps.getD i default).2)=false:=decide_eq_false (by omega)
       rw [this]; rfl
      ·rw [decide_eq_true c3]; rfl
     ·right
      have:decide ((ps.getD i default).1>(ps.getD i default).2)=true:=decide_eq_true (by omega)
      have e3:decide ((ps.getD i default).1≤(ps.getD i default).2)=false:=decide_eq_false c3
      rw [this,e3]; rfl
  ·simp only [b115_1]
   rw [if_neg (by simp),p61 a b T L lo h,Option.bind_some,p61 a b T L hi h,gS,Option.getD_some]
   simp only [rangesP,lawsP]
   have e4:decide (lo>hi)= !decide (lo≤hi):=by rw [← decide_not]; exact decide_eq_decide.2 (by omega)
   rw [e4]
   cases inR lo 0 ((L.length:Int) - 1)<;>cases inR hi 0 ((L.length:Int) - 1)<;>cases decide (lo≤hi)<;>rfl
 ·have e1:((ps.length:Int) == a)=false:=by simpa using ha
  rw [if_pos (by simpa using ha),e1]; rfl
structure SpanOk (a:Int) (L:List (List (Int×Int))) (ps:List (Int×Int)) (lo hi:Int):Prop where
 len:(ps.length:Int)=a
 rng:∀ r∈ps,(0≤r.1∧r.1≤10000)∧(0≤r.2∧r.2≤10000)∧r.1≤r.2
 law:0≤lo∧lo≤hi∧hi<L.length
theorem firstE_eq0 {x y:Int} (h:firstE x y=0):x=0∧y=0:=by
 unfold firstE at h
 by_cases hx:x=0
 ·rw [if_pos hx] at h; exact ⟨hx,h⟩
 ·rw [if_neg hx] at h; exact absurd h hx
theorem codeIf0 {b:Bool} {e:Int} (h:codeIf b e=0) (he:e≠0):b=true:=by
 cases b with
 | true=>rfl
 | false=>exact absurd h he
theorem ranges_ok:∀ {l:List (Int×Int)},rangesP l=0→∀ r∈l,(0≤r.1∧r.1≤10000)∧(0≤r.2∧r.2≤10000)∧r.1≤r.2
 | [],_,r,hr=>by simp at hr
 | x::q,h,r,hr=>by
  obtain ⟨h1,h2⟩:=firstE_eq0 h
  rcases List.mem_cons.1 hr with rfl | hr
  ·obtain ⟨g1,g2⟩:=firstE_eq0 h1
   have g1:=codeIf0 g1 (by decide)
   have g2:=codeIf0 g2 (by decide)
   rw [Bool.and_eq_true,inR_iff,inR_iff] at g1
   exact ⟨g1.1,g1.2,of_decide_eq_true g2⟩
  ·exact ranges_ok h2 r hr
theorem span_ok {a:Int} {L:List (List (Int×Int))} {ps:List (Int×Int)} {lo hi:Int} (h:spanErrV a L ps lo hi=0):SpanOk a L ps lo hi:=by
 obtain ⟨h1,h2⟩:=firstE_eq0 h
 obtain ⟨h3,h4⟩:=firstE_eq0 h2
 obtain ⟨h5,h6⟩:=firstE_eq0 h4
 obtain ⟨h7,h8⟩:=firstE_eq0 h6
 have g1:=codeIf0 h1 (by decide)
 have g5:=inR_iff.1 (codeIf0 h5 (by decide))
 have g7:=inR_iff.1 (codeIf0 h7 (by decide))
 have g8:=of_decide_eq_true (codeIf0 h8 (by decide))
 exact ⟨by simpa using g1,ranges_ok h3,g5.1,g8,by omega⟩
def boxS (b:Int) (T:List (Int×Int)) (L:List (List (Int×Int))) (lo hi:List Int) (d:(List (Int×Int))×Int×Int):Option (List Int×List Int):=
 if (outS b T (L.getD d.2.2.toNat default) lo (d.1.map (·.1))).all (inT T)=true∧(outS b T (L.getD d.2.1.toNat default) hi (d.1.map (·.2))).all (inT T)=true then
  some (outS b T (L.getD d.2.2.toNat default) lo (d.1.map (·.1)),outS b T (L.getD d.2.1.toNat default) hi (d.1.map (·.2)))
 else none
theorem p153 (ps:List (Int×Int)) (lo hi:Int) (hl:ps.length<1000000):r245 ps lo hi=some (ps.map (·.1),hi,ps.map (·.2),lo):=by
 unfold r245
 have hm:∀ (f:Int×Int→Int) i,i<ps.length→(ps.map f).take (i+1)=(ps.map f).take i++[f (ps.getD i default)]:=fun f i hi=>by
  rw [take_ext _ i (by simpa using hi)]
  congr 2
  simp [List.getD_eq_getElem?_getD,hi]
 refine iter_run ps.length (b245_1 ps lo hi) (fun i=>((i:Int),(ps.map (·.1)).take i,(ps.map (·.2)).take i)) _ (by omega) (fun i hi'=> ?_) ?_
 ·have h1:((ps.map (·.1)).take i).length=i:=by simp; omega
  have h2:((ps.map (·.2)).take i).length=i:=by simp; omega
  simp only [b245_1,ltN hi',if_true,if_pos (rgN hi'),Int.toNat_natCast,wS i (by omega)]
  rw [if_pos ⟨by omega,by omega⟩,if_pos ⟨by omega,by omega⟩,hm (·.1) i hi',hm (·.2) i hi']
  rfl
 ·simp only [b245_1]
  rw [if_neg (by simp),List.take_of_length_le (by simp),List.take_of_length_le (by simp)]
theorem stepsOk {a b:Int} {T:List (Int×Int)} {L:List (List (Int×Int))} {lo hi:List Int} (H:BoxOk a b T L lo hi) {d:(List (Int×Int))×Int×Int} (hd:spanErrV a L d.1 d.2.1 d.2.2=0):StepOk T L lo (d.1.map (·.1)) d.2.2∧StepOk T L hi (d.1.map (·.2)) d.2.1:=by
 have S:=span_ok hd
 have h1:=H.lo.len
 have h2:=H.hi.len
 have h3:=H.lo.ok.cells
 have h4:=S.len
 have h5:=S.law
 refine ⟨⟨H.lo.ins,by rw [List.length_map]; omega,⟨by omega,by omega⟩,fun x hx=> ?_,by omega,by omega⟩,⟨H.hi.ins,by rw [List.length_map]; omega,⟨by omega,by omega⟩,fun x hx=> ?_,by omega,by omega⟩⟩
 ·obtain ⟨r,hr,rfl⟩:=List.mem_map.1 hx; exact (S.rng r hr).1
 ·obtain ⟨r,hr,rfl⟩:=List.mem_map.1 hx; exact (S.rng r hr).2.1
def bxR (o:Option (List Int×List Int)):List Int×List Int×Int:=(o.map fun y=>(y.1,y.2,(0:Int))).getD ([],[],22)
theorem p117 {a b:Int} {T:List (Int×Int)} {L:List (List (Int×Int))} {lo hi:List Int} (H:BoxOk a b T L lo hi) {d:(List (Int×Int))×Int×Int} (hd:spanErrV a L d.1 d.2.1 d.2.2=0):r199 a b T L T L lo hi d.1 d.2.1 d.2.2=some (bxR (boxS b T L lo hi d)):=by
 have S:=span_ok hd
 have h3:=H.lo.ok.cells
 have h4:=S.len
 obtain ⟨s1,s2⟩:=stepsOk H hd
 unfold r199
 rw [p153 d.1 _ _ (by omega),Option.bind_some]
 simp only
 rw [p96 H.lo.ok s1,Option.bind_some,p96 H.lo.ok s2,Option.bind_some,p91 _ (by simp),Option.bind_some,firstV2]
 unfold boxS
 generalize outS b T (L.getD d.2.2.toNat default) lo (d.1.map (·.1))=o1
 generalize outS b T (L.getD d.2.1.toNat default) hi (d.1.map (·.2))=o2
 by_cases c1:o1.all (inT T)=true
 ·by_cases c2:o2.all (inT T)=true
  ·have e:(if o1.all (inT T)=true∧o2.all (inT T)=true then some (o1,o2) else none)=some (o1,o2):=if_pos ⟨c1,c2⟩
   rw [e,if_pos c1,if_pos c2]; rfl
  ·have e:(if o1.all (inT T)=true∧o2.all (inT T)=true then some (o1,o2) else none)=none:=if_neg (fun h=>c2 h.2)
   rw [e,if_pos c1,if_neg c2]; rfl
 ·have e:(if o1.all (inT T)=true∧o2.all (inT T)=true then some (o1,o2) else none)=none:=if_neg (fun h=>c1 h.1)
  rw [e,if_neg c1]
  by_cases c2:o2.all (inT T)=true
  ·rw [if_pos c2]; rfl
  ·rw [if_neg c2]; rfl
theorem map_leL (l:List (Int×Int)) (h:∀ r∈l,r.1≤r.2):leL (l.map (·.1)) (l.map (·.2)):=by
 induction l with
 | nil=>trivial
 | cons x r ih=>exact ⟨h x (by simp),ih fun y hy=>h y (by simp [hy])⟩
theorem BoxOk.next {a b:Int} {T:List (Int×Int)} {L:List (List (Int×Int))} {lo hi:List Int} (H:BoxOk a b T L lo hi) {d:(List (Int×Int))×Int×Int} (hd:spanErrV a L d.1 d.2.1 d.2.2=0) {y:List Int×List Int} (hy:boxS b T L lo hi d=some y):BoxOk a b T L y.1 y.2:=by
 have S:=span_ok hd
 unfold boxS at hy
 split at hy
 ·rename_i hc
  cases hy
  exact ⟨H.lo.next hc.1,H.hi.next hc.2,outS_leL H.lo.ok ⟨by have:=S.law; omega,S.law.2.2⟩ ⟨S.law.1,by have:=S.law; omega⟩ S.law.2.1 H.le (map_leL d.1 fun r hr=>(S.rng r hr).2.2)⟩
 ·cases hy
def runB (b:Int) (T:List (Int×Int)) (L:List (List (Int×Int))):List Int→List Int→List ((List (Int×Int))×Int×Int)→Option (List (List Int×List Int))
 | _,_,[]=>some []
 | lo,hi,d::r=>(boxS b T L lo hi d).bind fun y=>(runB b T L y.1 y.2 r).map fun z=>y::z
end Go.Proofs.YthldpejmofhaoaaGreatDoor
namespace Go.Proofs.YthldpejmofhaoaaGreatDoor
open Go.Abs
def boxStepV (a b:Int) (T:List (Int×Int)) (L:List (List (Int×Int))) (lo hi:List Int) (d:(List (Int×Int))×Int×Int):List Int×List Int×Int:=
 if bxErr a b T L lo hi=0 then (if spanErrV a L d.1 d.2.1 d.2.2=0 then bxR (boxS b T L lo hi d) else ([],[],spanErrV a L d.1 d.2.1 d.2.2)) else ([],[],bxErr a b T L lo hi)
theorem p41 (a b:Int) (T:List (Int×Int)) (L:List (List (Int×Int))) (lo hi:List Int) (d:(List (Int×Int))×Int×Int) (hT:T.length<1000) (hn:L.length<1000) (hL:∀ x∈L,x.length<1000) (h1:lo.length<1000000) (h2:hi.length<1000000) (h3:d.1.length<1000000) :
 r116 a b T L lo hi d.1 d.2.1 d.2.2=some (boxStepV a b T L lo hi d):=by
 unfold r116 boxStepV
 rw [p115 a b T L lo hi hT hn hL h1 h2,Option.bind_some]
 by_cases h:bxErr a b T L lo hi=0
 ·have H:=boxOk_of h
  rw [openBx_ok h,if_pos (by rfl),if_pos h]
  simp only
  rw [p116 a b T L T L d.1 _ _ hn h3,Option.bind_some]
  by_cases hd:spanErrV a L d.1 d.2.1 d.2.2=0
  ·rw [if_neg (by simpa using hd),if_pos hd,p117 H hd,Option.bind_some]
  ·rw [if_pos (by simpa using hd),if_neg hd]
 ·have ho:=openBx_err a b T L lo hi
  rw [if_neg h,if_neg (by rw [ho]; simpa using h),if_pos (by rw [ho]; simpa using h),ho]
theorem p40 (u v:List Int) (h1:u.length<1000000) (h2:v.length<1000000):r89 u v=some (u,v):=by
 unfold r89
 rw [p19 u (by omega),Option.bind_some,p19 v (by omega),Option.bind_some]
theorem p42 (d:(List (Int×Int))×Int×Int) (h:d.1.length<1000000):r117 d.1 d.2.1 d.2.2=some d:=by
 unfold r117
 rw [if_pos ⟨by omega,by omega⟩]
end Go.Proofs.YthldpejmofhaoaaGreatDoor
namespace Go.Proofs.YthldpejmofhaoaaGreatDoor
open Go.Abs
def leLL:List (List Int)→List (List Int)→Prop
 | x::l,y::m=>leL x y∧leLL l m
 | [],[]=>True
 | _,_=>False
def lastS:List Int→List (List Int)→List Int
 | s,[]=>s
 | _,x::r=>lastS x r
theorem lastS_snoc:∀ (st:List (List Int)) (s x:List Int),lastS s (st++[x])=x
 | [],_,_=>rfl
 | y::r,_,x=>lastS_snoc r y x
theorem run_snoc {b:Int} {T:List (Int×Int)} {L:List (List (Int×Int))}:∀ (l:List (List Int×Int)) (s:List Int) (st:List (List Int)) (n:Int) (d:List Int×Int),runS b T L s l=some (st,n)→
 (outS b T (L.getD d.2.toNat default) (lastS s st) d.1).all (inT T)=true→
 runS b T L s (l++[d])=some (st++[outS b T (L.getD d.2.toNat default) (lastS s st) d.1],n+lossS T (L.getD d.2.toNat default) (hd (mixS b T (lastS s st))))
 | [],s,st,n,d,h,ho=>by
  cases h
  show runS b T L s (d::[])=_
  unfold runS
  rw [show lastS s []=s from rfl] at ho ⊢
  rw [if_pos ho]
  simp [runS]
 | e::l,s,st,n,d,h,ho=>by
  show runS b T L s (e::(l++[d]))=_
  unfold runS at h ⊢
  split at h
  ·rename_i hc
   rw [if_pos hc]
   cases hr:runS b T L (outS b T (L.getD e.2.toNat default) s e.1) l with
   | none=>rw [hr] at h; cases h
   | some y=>
    rw [hr] at h
    cases h
    rw [run_snoc l _ y.1 y.2 d hr ho]
    simp [Int.add_assoc,lastS]
  ·cases h
theorem p82 (a b:Int) (T:List (Int×Int)) (L:List (List (Int×Int))) (lo hi:List Int) (hn:L.length<1000) (hL:∀ x∈L,x.length<1000) (h1:lo.length<1000000) (h2:hi.length<1000000):r118 a b T L lo hi=some (bxErr a b T L lo hi):=by
 unfold r118 bxErr
 rw [p45 a b T L hn hL,Option.bind_some]
 by_cases h:(setupErrV a b T L).2=0
 ·have ok:=setOk_of h
  rw [if_neg (by simpa using h),if_pos h,p46 ok lo hi h1 h2,Option.bind_some]
 ·rw [if_pos (by simpa using h),if_neg h]
theorem drives_zero {a:Int} {L:List (List (Int×Int))} {l:List (List Int×Int)} (h:l.length≤200) (h2:∀ d∈l,driveErrV a L d.1 d.2=0):drivesErrV a L l=0:=by
 unfold drivesErrV
 rw [if_neg (by omega)]
 clear h
 induction l with
 | nil=>rfl
 | cons x r ih=>
  unfold drivesE
  rw [if_pos (h2 x (by simp))]
  exact ih fun d hd=>h2 d (by simp [hd])
structure EncI (a b:Int) (T:List (Int×Int)) (L:List (List (Int×Int))) (sp:List ((List (Int×Int))×Int×Int)) (z:List (List Int×List Int)) (begin:List Int) (t:Nat) (nn:Int) (l:List (List Int×Int)) (now bl bh:List Int) (st:List (List Int)) (n:Int):Prop where
 nr:0≤nn∧nn≤12+12*t
 run:runS b T L begin l=some (st,n)
 last:lastS begin st=now
 len:l.length=t
 drv:∀ d∈l,driveErrV a L d.1 d.2=0
 box:BoxOk a b T L bl bh
 lo:leL bl now
 hi:leL now bh
 rem:runB b T L bl bh (sp.drop t)=some (z.drop t)
 los:leLL ((z.take t).map (·.1)) st
 his:leLL st ((z.take t).map (·.2))
 all:AllOk a b T L now
theorem in_between {a b:Int} {T:List (Int×Int)} {L:List (List (Int×Int))} (ok:SetOk a b T L) {l u v:List Int} (h1:leL l u) (h2:leL u v) (hl:inS T l) (hv:inS T v):inS T u:=by
 intro x hx
 obtain ⟨i,hi,rfl⟩:=mem_getD hx
 obtain ⟨e1,f1⟩:=leL_get h1
 obtain ⟨e2,f2⟩:=leL_get h2
 have g1:=f1 i (by omega)
 have g2:=f2 i hi
 have k1:=hl _ (getD_mem (show i<l.length by omega))
 have k2:=hv _ (getD_mem (show i<v.length by omega))
 rw [inT_iff ok] at k1 k2 ⊢
 omega
end Go.Proofs.YthldpejmofhaoaaGreatDoor

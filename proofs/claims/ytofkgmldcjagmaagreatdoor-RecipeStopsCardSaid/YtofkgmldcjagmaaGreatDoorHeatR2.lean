/- Piecewise linear functions that are ordered at their knots are ordered everywhere; quotients rounded down. -/
import Derived.Test.YtofkgmldcjagmaaGreatDoorHeatR
set_option linter.unusedVariables false
set_option linter.unusedSimpArgs false
namespace Go.Proofs.YtofkgmldcjagmaaGreatDoor
structure Piece (l:List (Int×Int)) (x s:Rat) (lo hi:Option Rat):Prop where
 lox:∀ v,lo=some v→v≤x∧∃ p∈l,(p.1:Rat)=v
 hix:∀ v,hi=some v→x≤v∧∃ p∈l,(p.1:Rat)=v
 lin:∀ z,(∀ v,lo=some v→v≤z)→(∀ v,hi=some v→z≤v)→pl l z=pl l x+s*(z - x)
 lo0:lo=none→s=0
 hi0:hi=none→s=0
 any:l≠[]→lo≠none∨hi≠none
 head:∀ p r,l=p::r→(p.1:Rat)<x→∃ v,lo=some v∧(p.1:Rat)≤v
theorem piece {c:Rat}:∀ (l:List (Int×Int)) (x:Rat),Asc c l→∃ s lo hi,Piece l x s lo hi
 | [],x,_=>⟨0,none,none,by simp,by simp,fun z _ _=>by simp only [pl]; grind,fun _=>rfl,fun _=>rfl,fun h=>absurd rfl h,fun p r h=>by cases h⟩
 | [p],x,_=>by
  by_cases h:x≤(p.1:Rat)
  ·exact ⟨0,none,some p.1,by simp,fun v hv=>by cases hv; exact ⟨h,p,by simp,rfl⟩,fun z _ _=>by simp only [pl]; grind,fun _=>rfl,fun _=>rfl,fun _=>by simp,fun p' r hp hlt=>by cases hp; exact absurd h (Rat.not_le.2 hlt)⟩
  ·have h':=Rat.not_le.1 h
   exact ⟨0,some p.1,none,fun v hv=>by cases hv; exact ⟨Rat.le_of_lt h',p,by simp,rfl⟩,by simp,fun z _ _=>by simp only [pl]; grind,fun _=>rfl,fun _=>rfl,fun _=>by simp,fun p' r hp hlt=>by cases hp; exact ⟨_,rfl,Rat.le_refl⟩⟩
 | p::q::r,x,⟨a1,a2,a3,a4⟩=>by
  have b1:(p.1:Rat)<q.1:=Rat.intCast_lt_intCast.2 a1
  have b2:(p.2:Rat)≤q.2:=Rat.intCast_le_intCast.2 a2
  by_cases x1:x≤(p.1:Rat)
  ·refine ⟨0,none,some p.1,by simp,fun v hv=>by cases hv; exact ⟨x1,p,by simp,rfl⟩,fun z _ hz=> ?_,fun _=>rfl,fun _=>rfl,fun _=>by simp,fun p' r hp hlt=>by cases hp; exact absurd x1 (Rat.not_le.2 hlt)⟩
   rw [pl_lo p _ z (hz _ rfl),pl_lo p _ x x1]; grind
  ·have x1':=Rat.not_le.1 x1
   by_cases x2:x≤(q.1:Rat)
   ·obtain ⟨s0,s1,s2⟩:=slope b1 b2 a3
    refine ⟨((q.2:Rat) - p.2) / ((q.1:Rat) - p.1),some p.1,some q.1,fun v hv=>by cases hv; exact ⟨Rat.le_of_lt x1',p,by simp,rfl⟩,fun v hv=>by cases hv; exact ⟨x2,q,by simp,rfl⟩,fun z hz1 hz2=> ?_,by simp,by simp,fun _=>by simp,fun p' r hp hlt=>by cases hp; exact ⟨_,rfl,Rat.le_refl⟩⟩
    have z1:=hz1 _ rfl
    have z2:=hz2 _ rfl
    generalize hs:((q.2:Rat) - p.2) / ((q.1:Rat) - p.1)=s at s0 s1 s2 ⊢
    have ex:pl (p::q::r) x=p.2+s*(x - p.1):=by unfold pl; rw [if_neg x1,if_pos x2,hs]
    have ez:pl (p::q::r) z=p.2+s*(z - p.1):=by
     by_cases hz:z≤(p.1:Rat)
     ·rw [pl_lo _ _ _ hz]
      have:z=(p.1:Rat):=Rat.le_antisymm hz z1
      rw [this]; grind
     ·unfold pl; rw [if_neg hz,if_pos z2,hs]
    rw [ex,ez]; grind
   ·have x2':=Rat.not_le.1 x2
    obtain ⟨s,lo,hi,P⟩:=piece (q::r) x a4
    obtain ⟨v,hv,hqv⟩:=P.head q r rfl x2'
    have ex:pl (p::q::r) x=pl (q::r) x:=by
     conv=>lhs; unfold pl
     rw [if_neg x1,if_neg x2]
    refine ⟨s,lo,hi,fun w hw=> ?_,fun w hw=> ?_,fun z hz1 hz2=> ?_,P.lo0,P.hi0,fun _=>P.any (by simp),fun p' r' hp hlt=> ?_⟩
    ·obtain ⟨h1,p',h2,h3⟩:=P.lox w hw
     exact ⟨h1,p',List.mem_cons_of_mem _ h2,h3⟩
    ·obtain ⟨h1,p',h2,h3⟩:=P.hix w hw
     exact ⟨h1,p',List.mem_cons_of_mem _ h2,h3⟩
    ·have hz:=hz1 v hv
     have:=P.lin z hz1 hz2
     rw [ex, ← this]
     by_cases hzq:z≤(q.1:Rat)
     ·have hzq':z=(q.1:Rat):=Rat.le_antisymm hzq (Rat.le_trans hqv hz)
      rw [hzq',pl_lo q r _ Rat.le_refl]
      obtain ⟨s0,s1,s2⟩:=slope b1 b2 a3
      unfold pl
      rw [if_neg (Rat.not_le.2 b1),if_pos Rat.le_refl,s2]; grind
     ·conv=>lhs; unfold pl
      rw [if_neg (show ¬ z≤(p.1:Rat) by have:=Rat.not_le.1 hzq; grind),if_neg hzq]
    ·cases hp
     exact ⟨v,hv,Rat.le_trans (Rat.le_of_lt b1) hqv⟩
theorem order {c d:Rat} {l m:List (Int×Int)} (hl:Asc c l) (hm:Asc d m) (h:∀ p∈l++m,pl l (p.1:Rat)≤pl m (p.1:Rat)) (x:Rat):pl l x≤pl m x:=by
 obtain ⟨s,lo,hi,P⟩:=piece l x hl
 obtain ⟨t,lo2,hi2,Q⟩:=piece m x hm
 have A:(s=0∧t=0)∧(lo=none∧lo2=none)∨∃ p,p≤x∧pl l p≤pl m p∧pl l p=pl l x+s*(p - x)∧pl m p=pl m x+t*(p - x):=by
  have key:∀ p:Rat,p≤x→(∃ k∈l++m,(k.1:Rat)=p)→(∀ v,lo=some v→v≤p)→(∀ v,lo2=some v→v≤p)→pl l p≤pl m p∧pl l p=pl l x+s*(p - x)∧pl m p=pl m x+t*(p - x):=by
   intro p hp ⟨k,hk,hkp⟩ h1 h2
   exact ⟨hkp▸h k hk,P.lin p h1 (fun v hv=>Rat.le_trans hp (P.hix v hv).1),Q.lin p h2 (fun v hv=>Rat.le_trans hp (Q.hix v hv).1)⟩
  have mem1:∀ v,lo=some v→∃ k∈l++m,(k.1:Rat)=v:=fun v hv=>by
   obtain ⟨_,k,hk,e⟩:=P.lox v hv; exact ⟨k,List.mem_append_left _ hk,e⟩
  have mem2:∀ v,lo2=some v→∃ k∈l++m,(k.1:Rat)=v:=fun v hv=>by
   obtain ⟨_,k,hk,e⟩:=Q.lox v hv; exact ⟨k,List.mem_append_right _ hk,e⟩
  cases h1:lo with
  | none=>
   cases h2:lo2 with
   | none=>exact Or.inl ⟨⟨P.lo0 h1,Q.lo0 h2⟩,rfl,rfl⟩
   | some v=>exact Or.inr ⟨v,(Q.lox v h2).1,key v (Q.lox v h2).1 (mem2 v h2) (by simp [h1]) (by simp [h2])⟩
  | some u=>
   cases h2:lo2 with
   | none=>exact Or.inr ⟨u,(P.lox u h1).1,key u (P.lox u h1).1 (mem1 u h1) (by simp [h1]) (by simp [h2])⟩
   | some v=>
    rcases Rat.le_total (a:=u) (b:=v) with huv | huv
    ·exact Or.inr ⟨v,(Q.lox v h2).1,key v (Q.lox v h2).1 (mem2 v h2) (by simp [h1,huv]) (by simp [h2])⟩
    ·exact Or.inr ⟨u,(P.lox u h1).1,key u (P.lox u h1).1 (mem1 u h1) (by simp [h1]) (by simp [h2,huv])⟩
 have B:(s=0∧t=0)∧(hi=none∧hi2=none)∨∃ p,x≤p∧pl l p≤pl m p∧pl l p=pl l x+s*(p - x)∧pl m p=pl m x+t*(p - x):=by
  have key:∀ p:Rat,x≤p→(∃ k∈l++m,(k.1:Rat)=p)→(∀ v,hi=some v→p≤v)→(∀ v,hi2=some v→p≤v)→pl l p≤pl m p∧pl l p=pl l x+s*(p - x)∧pl m p=pl m x+t*(p - x):=by
   intro p hp ⟨k,hk,hkp⟩ h1 h2
   exact ⟨hkp▸h k hk,P.lin p (fun v hv=>Rat.le_trans (P.lox v hv).1 hp) h1,Q.lin p (fun v hv=>Rat.le_trans (Q.lox v hv).1 hp) h2⟩
  have mem1:∀ v,hi=some v→∃ k∈l++m,(k.1:Rat)=v:=fun v hv=>by
   obtain ⟨_,k,hk,e⟩:=P.hix v hv; exact ⟨k,List.mem_append_left _ hk,e⟩
  have mem2:∀ v,hi2=some v→∃ k∈l++m,(k.1:Rat)=v:=fun v hv=>by
   obtain ⟨_,k,hk,e⟩:=Q.hix v hv; exact ⟨k,List.mem_append_right _ hk,e⟩
  cases h1:hi with
  | none=>
   cases h2:hi2 with
   | none=>exact Or.inl ⟨⟨P.hi0 h1,Q.hi0 h2⟩,rfl,rfl⟩
   | some v=>exact Or.inr ⟨v,(Q.hix v h2).1,key v (Q.hix v h2).1 (mem2 v h2) (by simp [h1]) (by simp [h2])⟩
  | some u=>
   cases h2:hi2 with
   | none=>exact Or.inr ⟨u,(P.hix u h1).1,key u (P.hix u h1).1 (mem1 u h1) (by simp [h1]) (by simp [h2])⟩
   | some v=>
    rcases Rat.le_total (a:=u) (b:=v) with huv | huv
    ·exact Or.inr ⟨u,(P.hix u h1).1,key u (P.hix u h1).1 (mem1 u h1) (by simp [h1]) (by simp [h2,huv])⟩
    ·exact Or.inr ⟨v,(Q.hix v h2).1,key v (Q.hix v h2).1 (mem2 v h2) (by simp [h1,huv]) (by simp [h2])⟩
 rcases A with ⟨⟨a1,a2⟩,a3,a4⟩ | ⟨p,p1,p2,p3,p4⟩
 ·rcases B with ⟨⟨b1,b2⟩,b3,b4⟩ | ⟨w,w1,w2,w3,w4⟩
  ·have hl0:l=[]:=by
    cases l with
    | nil=>rfl
    | cons k r=>rcases P.any (by simp) with hh | hh<;>contradiction
   have hm0:m=[]:=by
    cases m with
    | nil=>rfl
    | cons k r=>rcases Q.any (by simp) with hh | hh<;>contradiction
   subst hl0; subst hm0; exact Rat.le_refl
  ·subst a1; subst a2; grind
 ·rcases B with ⟨⟨b1,b2⟩,b3,b4⟩ | ⟨w,w1,w2,w3,w4⟩
  ·subst b1; subst b2; grind
  ·rcases Rat.le_total (a:=s) (b:=t) with hst | hst
   ·have e:=Rat.mul_nonneg (show 0≤t - s by grind) (show 0≤x - p by grind)
    grind
   ·have e:=Rat.mul_nonneg (show 0≤s - t by grind) (show 0≤w - x by grind)
    grind
theorem ediv_floor {P Q:Int} {v:Rat} (hQ:0<Q) (h:(P:Rat)=v*Q):P / Q=v.floor:=by
 have q0:(0:Rat)<Q:=Rat.intCast_pos.2 hQ
 have a1:∀ x:Int,x≤P / Q↔x≤v.floor:=by
  intro x
  rw [Rat.le_floor_iff,Int.le_ediv_iff_mul_le hQ, ← Rat.intCast_le_intCast,Rat.intCast_mul,h]
  constructor
  ·intro hx; exact Rat.le_of_mul_le_mul_right hx q0
  ·intro hx; exact Rat.mul_le_mul_of_nonneg_right hx (Rat.le_of_lt q0)
 exact Int.le_antisymm ((a1 _).1 (Int.le_refl _)) ((a1 _).2 (Int.le_refl _))
end Go.Proofs.YtofkgmldcjagmaaGreatDoor

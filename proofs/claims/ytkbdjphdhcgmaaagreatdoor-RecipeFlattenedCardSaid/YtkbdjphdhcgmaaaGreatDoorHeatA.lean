/- Piecewise linear functions over the rationals: monotone, Lipschitz, compared at knots. -/
import Init
import Derived.Test.YtkbdjphdhcgmaaaGreatDoorF01
import Derived.Test.YtkbdjphdhcgmaaaGreatDoorF12
import Derived.Test.YtkbdjphdhcgmaaaGreatDoorAbsC
set_option linter.unusedVariables false
set_option linter.unusedSimpArgs false
namespace Go.Proofs.YtkbdjphdhcgmaaaGreatDoor
def pl:List (Int×Int)->Rat->Rat
 | [],_=>0
 | [p],_=>(p.2:Rat)
 | p::q::r,x=>if x<=(p.1:Rat) then (p.2:Rat) else if x<=(q.1:Rat) then (p.2:Rat)+((q.2:Rat) - p.2) / ((q.1:Rat) - p.1)*(x - p.1) else pl (q::r) x
def Tt (l:List (Int×Int)) (x:Rat) (k:Nat):Rat:=
 if l.length=0 then 0
 else if k=0 then ((l.getD 0 default).2:Rat)
 else if k=l.length then ((l.getD (k - 1) default).2:Rat)
 else ((l.getD (k - 1) default).2:Rat)+(((l.getD k default).2:Rat) - (l.getD (k - 1) default).2) / (((l.getD k default).1:Rat) - (l.getD (k - 1) default).1)*(x - (l.getD (k - 1) default).1)
theorem DF:∀ (l:List (Int×Int)) (x:Rat) (k:Nat),k<=l.length->(∀ i,i<k->((l.getD i default).1:Rat)<x)->(∀ i,k<=i->i<l.length->x<=((l.getD i default).1:Rat))->pl l x=Tt l x k
 | [],x,k,h,h1,h2=>by simp [pl,Tt]
 | [p],x,k,h,h1,h2=>by
  unfold pl Tt
  simp only [List.length_cons,List.length_nil] at h ⊢
  by_cases hk:k=0
  ·simp [hk]
  ·have:k=1:=by omega
   simp [this]
 | p::q::r,x,k,h,h1,h2=>by
  unfold pl
  by_cases hk:k=0
  ·subst hk
   have:x<=(p.1:Rat):=h2 0 (by omega) (by simp)
   rw [if_pos this]; simp [Tt]
  ·have a1:(p.1:Rat)<x:=h1 0 (by omega)
   rw [if_neg (Rat.not_le.2 a1)]
   by_cases hk1:k=1
   ·subst hk1
    have:x<=(q.1:Rat):=h2 1 (by omega) (by simp)
    rw [if_pos this]; simp [Tt]
   ·have a2:(q.1:Rat)<x:=h1 1 (by omega)
    rw [if_neg (Rat.not_le.2 a2)]
    obtain ⟨m,rfl⟩:∃ m,k=m+2:=⟨k - 2,by omega⟩
    rw [DF (q::r) x (m+1) (by simp at h ⊢; omega) (fun i hi=>h1 (i+1) (by omega)) (fun i hi hl=>h2 (i+1) (by omega) (by simp at hl ⊢; omega))]
    unfold Tt
    simp [Nat.add_right_cancel_iff]
def Asc (c:Rat):List (Int×Int)->Prop
 | p::q::r=>p.1<q.1/\p.2<=q.2/\(q.2:Rat) - p.2<=c*((q.1:Rat) - p.1)/\Asc c (q::r)
 | _=>True
theorem KT (p:Int×Int) (r:List (Int×Int)) (x:Rat) (h:x<=(p.1:Rat)):pl (p::r) x=(p.2:Rat):=by
 cases r with
 | nil=>rfl
 | cons q r=>unfold pl; rw [if_pos h]
theorem VF {c x0 x1 y0 y1:Rat} (hx:x0<x1) (h0:y0<=y1) (h1:y1 - y0<=c*(x1 - x0)):0<=(y1 - y0) / (x1 - x0)/\(y1 - y0) / (x1 - x0)<=c/\(y1 - y0) / (x1 - x0)*(x1 - x0)=y1 - y0:=by
 have hd:0<x1 - x0:=by grind
 have e:(y1 - y0) / (x1 - x0)*(x1 - x0)=y1 - y0:=Rat.div_mul_cancel (by grind)
 refine ⟨?_,?_,e⟩
 ·refine Rat.le_of_mul_le_mul_right (c:=x1 - x0) ?_ hd
  grind
 ·refine Rat.le_of_mul_le_mul_right (c:=x1 - x0) ?_ hd
  grind
theorem lip {c:Rat} (hc:0<=c):∀ (l:List (Int×Int)) (x y:Rat),Asc c l->x<=y->0<=pl l y - pl l x/\pl l y - pl l x<=c*(y - x)
 | [],x,y,_,h=>by
  have:=Rat.mul_nonneg hc (show 0<=y - x by grind)
  simp only [pl]; grind
 | [p],x,y,_,h=>by
  have:=Rat.mul_nonneg hc (show 0<=y - x by grind)
  simp only [pl]; grind
 | p::q::r,x,y,⟨a1,a2,a3,a4⟩,h=>by
  have b1:(p.1:Rat)<q.1:=Rat.intCast_lt_intCast.2 a1
  have b2:(p.2:Rat)<=q.2:=Rat.intCast_le_intCast.2 a2
  obtain ⟨s0,s1,s2⟩:=VF b1 b2 a3
  generalize hs:((q.2:Rat) - p.2) / ((q.1:Rat) - p.1)=s at s0 s1 s2
  have as1:=Rat.mul_nonneg hc (show 0<=y - x by grind)
  unfold pl
  rw [hs]
  by_cases y1:y<=(p.1:Rat)
  ·rw [if_pos y1,if_pos (Rat.le_trans h y1)]; grind
  ·rw [if_neg y1]
   have y1':=Rat.not_le.1 y1
   by_cases y2:y<=(q.1:Rat)
   ·rw [if_pos y2]
    by_cases x1:x<=(p.1:Rat)
    ·rw [if_pos x1]
     have e1:=Rat.mul_nonneg s0 (show 0<=y - p.1 by grind)
     have e2:=Rat.mul_nonneg (show 0<=c - s by grind) (show 0<=y - p.1 by grind)
     have e3:=Rat.mul_nonneg hc (show 0<=(p.1:Rat) - x by grind)
     grind
    ·rw [if_neg x1,if_pos (Rat.le_trans h y2)]
     have e1:=Rat.mul_nonneg s0 (show 0<=y - x by grind)
     have e2:=Rat.mul_nonneg (show 0<=c - s by grind) (show 0<=y - x by grind)
     grind
   ·rw [if_neg y2]
    have y2':=Rat.not_le.1 y2
    by_cases x2:x<=(q.1:Rat)
    ·obtain ⟨i1,i2⟩:=lip hc (q::r) q.1 y a4 (Rat.le_of_lt y2')
     rw [KT q r q.1 Rat.le_refl] at i1 i2
     by_cases x1:x<=(p.1:Rat)
     ·rw [if_pos x1]
      have e3:=Rat.mul_nonneg hc (show 0<=(p.1:Rat) - x by grind)
      grind
     ·rw [if_neg x1,if_pos x2]
      have e1:=Rat.mul_nonneg s0 (show 0<=q.1 - x by grind)
      have e2:=Rat.mul_nonneg (show 0<=c - s by grind) (show 0<=q.1 - x by grind)
      grind
    ·rw [if_neg x2,if_neg (show ¬ x<=(p.1:Rat) by have:=Rat.not_le.1 x2; grind)]
     exact lip hc (q::r) x y a4 h
theorem XH {c:Rat} {u v:Int}:∀ (l:List (Int×Int)) (x:Rat),Asc c l->(∀ p∈l,u<=p.2/\p.2<=v)->l≠[]->(u:Rat)<=pl l x/\pl l x<=v
 | [],x,_,_,h=>absurd rfl h
 | [p],x,_,h,_=>by
  obtain ⟨h1,h2⟩:=h p (by simp)
  exact ⟨Rat.intCast_le_intCast.2 h1,Rat.intCast_le_intCast.2 h2⟩
 | p::q::r,x,⟨a1,a2,a3,a4⟩,h,_=>by
  have b1:(p.1:Rat)<q.1:=Rat.intCast_lt_intCast.2 a1
  have b2:(p.2:Rat)<=q.2:=Rat.intCast_le_intCast.2 a2
  obtain ⟨s0,s1,s2⟩:=VF b1 b2 a3
  generalize hs:((q.2:Rat) - p.2) / ((q.1:Rat) - p.1)=s at s0 s1 s2
  have hp:=h p (by simp)
  have hq:=h q (by simp)
  have hp1:(u:Rat)<=p.2:=Rat.intCast_le_intCast.2 hp.1
  have hp2:(p.2:Rat)<=v:=Rat.intCast_le_intCast.2 hp.2
  have hq2:(q.2:Rat)<=v:=Rat.intCast_le_intCast.2 hq.2
  unfold pl
  rw [hs]
  by_cases x1:x<=(p.1:Rat)
  ·rw [if_pos x1]; exact ⟨hp1,hp2⟩
  ·rw [if_neg x1]
   have x1':=Rat.not_le.1 x1
   by_cases x2:x<=(q.1:Rat)
   ·rw [if_pos x2]
    have e1:=Rat.mul_nonneg s0 (show 0<=x - p.1 by grind)
    have e2:=Rat.mul_nonneg s0 (show 0<=q.1 - x by grind)
    grind
   ·rw [if_neg x2]
    exact XH (q::r) x a4 (fun p' hp'=>h p' (List.mem_cons_of_mem _ hp')) (by simp)
end Go.Proofs.YtkbdjphdhcgmaaaGreatDoor
namespace Go.Proofs.YtkbdjphdhcgmaaaGreatDoor
structure Piece (l:List (Int×Int)) (x s:Rat) (lo hi:Option Rat):Prop where
 lox:∀ v,lo=some v->v<=x/\∃ p∈l,(p.1:Rat)=v
 hix:∀ v,hi=some v->x<=v/\∃ p∈l,(p.1:Rat)=v
 lin:∀ z,(∀ v,lo=some v->v<=z)->(∀ v,hi=some v->z<=v)->pl l z=pl l x+s*(z - x)
 lo0:lo=none->s=0
 hi0:hi=none->s=0
 any:l≠[]->lo≠none\/hi≠none
 head:∀ p r,l=p::r->(p.1:Rat)<x->∃ v,lo=some v/\(p.1:Rat)<=v
theorem piece {c:Rat}:∀ (l:List (Int×Int)) (x:Rat),Asc c l->∃ s lo hi,Piece l x s lo hi
 | [],x,_=>⟨0,none,none,by simp,by simp,fun z _ _=>by simp only [pl]; grind,fun _=>rfl,fun _=>rfl,fun h=>absurd rfl h,fun p r h=>by cases h⟩
 | [p],x,_=>by
  by_cases h:x<=(p.1:Rat)
  ·exact ⟨0,none,some p.1,by simp,fun v hv=>by cases hv; exact ⟨h,p,by simp,rfl⟩,fun z _ _=>by simp only [pl]; grind,fun _=>rfl,fun _=>rfl,fun _=>by simp,fun p' r hp hlt=>by cases hp; exact absurd h (Rat.not_le.2 hlt)⟩
  ·have h':=Rat.not_le.1 h
   exact ⟨0,some p.1,none,fun v hv=>by cases hv; exact ⟨Rat.le_of_lt h',p,by simp,rfl⟩,by simp,fun z _ _=>by simp only [pl]; grind,fun _=>rfl,fun _=>rfl,fun _=>by simp,fun p' r hp hlt=>by cases hp; exact ⟨_,rfl,Rat.le_refl⟩⟩
 | p::q::r,x,⟨a1,a2,a3,a4⟩=>by
  have b1:(p.1:Rat)<q.1:=Rat.intCast_lt_intCast.2 a1
  have b2:(p.2:Rat)<=q.2:=Rat.intCast_le_intCast.2 a2
  by_cases x1:x<=(p.1:Rat)
  ·refine ⟨0,none,some p.1,by simp,fun v hv=>by cases hv; exact ⟨x1,p,by simp,rfl⟩,fun z _ hz=> ?_,fun _=>rfl,fun _=>rfl,fun _=>by simp,fun p' r hp hlt=>by cases hp; exact absurd x1 (Rat.not_le.2 hlt)⟩
   rw [KT p _ z (hz _ rfl),KT p _ x x1]; grind
  ·have x1':=Rat.not_le.1 x1
   by_cases x2:x<=(q.1:Rat)
   ·obtain ⟨s0,s1,s2⟩:=VF b1 b2 a3
    refine ⟨((q.2:Rat) - p.2) / ((q.1:Rat) - p.1),some p.1,some q.1,fun v hv=>by cases hv; exact ⟨Rat.le_of_lt x1',p,by simp,rfl⟩,fun v hv=>by cases hv; exact ⟨x2,q,by simp,rfl⟩,fun z hz1 hz2=> ?_,by simp,by simp,fun _=>by simp,fun p' r hp hlt=>by cases hp; exact ⟨_,rfl,Rat.le_refl⟩⟩
    have z1:=hz1 _ rfl
    have z2:=hz2 _ rfl
    generalize hs:((q.2:Rat) - p.2) / ((q.1:Rat) - p.1)=s at s0 s1 s2 ⊢
    have ex:pl (p::q::r) x=p.2+s*(x - p.1):=by unfold pl; rw [if_neg x1,if_pos x2,hs]
    have ez:pl (p::q::r) z=p.2+s*(z - p.1):=by
     by_cases hz:z<=(p.1:Rat)
     ·rw [KT _ _ _ hz]
      have:z=(p.1:Rat):=Rat.le_antisymm hz z1
      rw [this]; grind
     ·unfold pl; rw [if_neg hz,if_pos z2,hs]
    rw [ex,ez]; grind
   ·have x2':=Rat.not_le.1 x2
    obtain ⟨s,lo,hi,P⟩:=piece (q::r) x a4
    obtain ⟨v,hv,hqv⟩:=P.head q r rfl x2'
    have ex:pl (p::q::r) x=pl (q::r) x:=by
     conv=>lhs; unfold pl
     rw [if_neg x1,if_neg x2]
    refine ⟨s,lo,hi,fun w hw=> ?_,fun w hw=> ?_,fun z hz1 hz2=> ?_,P.lo0,P.hi0,fun _=>P.any (by simp),fun p' r' hp hlt=> ?_⟩
    ·obtain ⟨h1,p',h2,h3⟩:=P.lox w hw
     exact ⟨h1,p',List.mem_cons_of_mem _ h2,h3⟩
    ·obtain ⟨h1,p',h2,h3⟩:=P.hix w hw
     exact ⟨h1,p',List.mem_cons_of_mem _ h2,h3⟩
    ·have hz:=hz1 v hv
     have:=P.lin z hz1 hz2
     rw [ex, <- this]
     by_cases hzq:z<=(q.1:Rat)
     ·have aoV:z=(q.1:Rat):=Rat.le_antisymm hzq (Rat.le_trans hqv hz)
      rw [aoV,KT q r _ Rat.le_refl]
      obtain ⟨s0,s1,s2⟩:=VF b1 b2 a3
      unfold pl
      rw [if_neg (Rat.not_le.2 b1),if_pos Rat.le_refl,s2]; grind
     ·conv=>lhs; unfold pl
      rw [if_neg (show ¬ z<=(p.1:Rat) by have:=Rat.not_le.1 hzq; grind),if_neg hzq]
    ·cases hp
     exact ⟨v,hv,Rat.le_trans (Rat.le_of_lt b1) hqv⟩
theorem order {c d:Rat} {l m:List (Int×Int)} (hl:Asc c l) (hm:Asc d m) (h:∀ p∈l++m,pl l (p.1:Rat)<=pl m (p.1:Rat)) (x:Rat):pl l x<=pl m x:=by
 obtain ⟨s,lo,hi,P⟩:=piece l x hl
 obtain ⟨t,lo2,hi2,Q⟩:=piece m x hm
 have A:(s=0/\t=0)/\(lo=none/\lo2=none)\/∃ p,p<=x/\pl l p<=pl m p/\pl l p=pl l x+s*(p - x)/\pl m p=pl m x+t*(p - x):=by
  have key:∀ p:Rat,p<=x->(∃ k∈l++m,(k.1:Rat)=p)->(∀ v,lo=some v->v<=p)->(∀ v,lo2=some v->v<=p)->pl l p<=pl m p/\pl l p=pl l x+s*(p - x)/\pl m p=pl m x+t*(p - x):=by
   intro p hp ⟨k,hk,hkp⟩ h1 h2
   exact ⟨hkp▸h k hk,P.lin p h1 (fun v hv=>Rat.le_trans hp (P.hix v hv).1),Q.lin p h2 (fun v hv=>Rat.le_trans hp (Q.hix v hv).1)⟩
  have mem1:∀ v,lo=some v->∃ k∈l++m,(k.1:Rat)=v:=fun v hv=>by
   obtain ⟨_,k,hk,e⟩:=P.lox v hv; exact ⟨k,List.mem_append_left _ hk,e⟩
  have mem2:∀ v,lo2=some v->∃ k∈l++m,(k.1:Rat)=v:=fun v hv=>by
   obtain ⟨_,k,hk,e⟩:=Q.lox v hv; exact ⟨k,List.mem_append_right _ hk,e⟩
  cases h1:lo with
  | none=>
   cases h2:lo2 with
   | none=>exact Or.inl ⟨⟨P.lo0 h1,Q.lo0 h2⟩,rfl,rfl⟩
   | some v=>exact Or.inr ⟨v,(Q.lox v h2).1,key v (Q.lox v h2).1 (mem2 v h2) (by simp [h1]) (by simp [h2])⟩
  | some u=>
   cases h2:lo2 with
   | none=>exact Or.inr ⟨u,(P.lox u h1).1,key u (P.lox u h1).1 (mem1 u h1) (by simp [h1]) (by simp [h2])⟩
   | some v=>
    rcases Rat.le_total (a:=u) (b:=v) with huv | huv
    ·exact Or.inr ⟨v,(Q.lox v h2).1,key v (Q.lox v h2).1 (mem2 v h2) (by simp [h1,huv]) (by simp [h2])⟩
    ·exact Or.inr ⟨u,(P.lox u h1).1,key u (P.lox u h1).1 (mem1 u h1) (by simp [h1]) (by simp [h2,huv])⟩
 have B:(s=0/\t=0)/\(hi=none/\hi2=none)\/∃ p,x<=p/\pl l p<=pl m p/\pl l p=pl l x+s*(p - x)/\pl m p=pl m x+t*(p - x):=by
  have key:∀ p:Rat,x<=p->(∃ k∈l++m,(k.1:Rat)=p)->(∀ v,hi=some v->p<=v)->(∀ v,hi2=some v->p<=v)->pl l p<=pl m p/\pl l p=pl l x+s*(p - x)/\pl m p=pl m x+t*(p - x):=by
   intro p hp ⟨k,hk,hkp⟩ h1 h2
   exact ⟨hkp▸h k hk,P.lin p (fun v hv=>Rat.le_trans (P.lox v hv).1 hp) h1,Q.lin p (fun v hv=>Rat.le_trans (Q.lox v hv).1 hp) h2⟩
  have mem1:∀ v,hi=some v->∃ k∈l++m,(k.1:Rat)=v:=fun v hv=>by
   obtain ⟨_,k,hk,e⟩:=P.hix v hv; exact ⟨k,List.mem_append_left _ hk,e⟩
  have mem2:∀ v,hi2=some v->∃ k∈l++m,(k.1:Rat)=v:=fun v hv=>by
   obtain ⟨_,k,hk,e⟩:=Q.hix v hv; exact ⟨k,List.mem_append_right _ hk,e⟩
  cases h1:hi with
  | none=>
   cases h2:hi2 with
   | none=>exact Or.inl ⟨⟨P.hi0 h1,Q.hi0 h2⟩,rfl,rfl⟩
   | some v=>exact Or.inr ⟨v,(Q.hix v h2).1,key v (Q.hix v h2).1 (mem2 v h2) (by simp [h1]) (by simp [h2])⟩
  | some u=>
   cases h2:hi2 with
   | none=>exact Or.inr ⟨u,(P.hix u h1).1,key u (P.hix u h1).1 (mem1 u h1) (by simp [h1]) (by simp [h2])⟩
   | some v=>
    rcases Rat.le_total (a:=u) (b:=v) with huv | huv
    ·exact Or.inr ⟨u,(P.hix u h1).1,key u (P.hix u h1).1 (mem1 u h1) (by simp [h1]) (by simp [h2,huv])⟩
    ·exact Or.inr ⟨v,(Q.hix v h2).1,key v (Q.hix v h2).1 (mem2 v h2) (by simp [h1,huv]) (by simp [h2])⟩
 rcases A with ⟨⟨a1,a2⟩,a3,a4⟩ | ⟨p,p1,p2,p3,p4⟩
 ·rcases B with ⟨⟨b1,b2⟩,b3,b4⟩ | ⟨w,w1,w2,w3,w4⟩
  ·have hl0:l=[]:=by
    cases l with
    | nil=>rfl
    | cons k r=>rcases P.any (by simp) with hh | hh<;>contradiction
   have hm0:m=[]:=by
    cases m with
    | nil=>rfl
    | cons k r=>rcases Q.any (by simp) with hh | hh<;>contradiction
   subst hl0; subst hm0; exact Rat.le_refl
  ·subst a1; subst a2; grind
 ·rcases B with ⟨⟨b1,b2⟩,b3,b4⟩ | ⟨w,w1,w2,w3,w4⟩
  ·subst b1; subst b2; grind
  ·rcases Rat.le_total (a:=s) (b:=t) with hst | hst
   ·have e:=Rat.mul_nonneg (show 0<=t - s by grind) (show 0<=x - p by grind)
    grind
   ·have e:=Rat.mul_nonneg (show 0<=s - t by grind) (show 0<=w - x by grind)
    grind
theorem wL {P Q:Int} {v:Rat} (hQ:0<Q) (h:(P:Rat)=v*Q):P / Q=v.floor:=by
 have q0:(0:Rat)<Q:=Rat.intCast_pos.2 hQ
 have a1:∀ x:Int,x<=P / Q↔x<=v.floor:=by
  intro x
  rw [Rat.le_floor_iff,Int.le_ediv_iff_mul_le hQ, <- Rat.intCast_le_intCast,Rat.intCast_mul,h]
  constructor
  ·intro hx; exact Rat.le_of_mul_le_mul_right hx q0
  ·intro hx; exact Rat.mul_le_mul_of_nonneg_right hx (Rat.le_of_lt q0)
 exact Int.le_antisymm ((a1 _).1 (Int.le_refl _)) ((a1 _).2 (Int.le_refl _))
end Go.Proofs.YtkbdjphdhcgmaaaGreatDoor
namespace Go.Proofs.YtkbdjphdhcgmaaaGreatDoor
def qS (b:Int) (T:List (Int×Int)) (x y:Int):Int:=((b:Rat) / 1000*(pl T x - pl T y)).floor
def mM (T law:List (Int×Int)) (e:Int):Int:=(pl law (pl T e)).floor
def BL (b:Int) (T:List (Int×Int)):List Int->List Int
 | x::y::r=>(x - qS b T x y)::(y+qS b T x y)::BL b T r
 | l=>l
def ZF (b:Int) (T:List (Int×Int)):List Int->List Int
 | x::r=>x::BL b T r
 | []=>[]
def oK (b:Int) (T:List (Int×Int)) (l:List Int):List Int:=ZF b T (BL b T l)
def WT:List Int->List Int->List Int
 | x::l,y::m=>(x+y)::WT l m
 | l,_=>l
def KC (n:Int):List Int->List Int
 | x::l=>(x - n)::l
 | []=>[]
def hd (l:List Int):Int:=l.getD 0 default
def jB (b:Int) (T law:List (Int×Int)) (l p:List Int):List Int:=WT (KC (mM T law (hd (oK b T l))) (oK b T l)) p
def leL:List Int->List Int->Prop
 | x::l,y::m=>x<=y/\leL l m
 | [],[]=>True
 | _,_=>False
theorem pR (b T):∀ l:List Int,(BL b T l).length=l.length
 | []=>rfl
 | [x]=>rfl
 | x::y::r=>by simp [BL,pR b T r]
theorem Wu (b T):∀ l:List Int,(ZF b T l).length=l.length
 | []=>rfl
 | x::r=>by simp [ZF,pR b T r]
theorem xw (b T l):(oK b T l).length=l.length:=by unfold oK; rw [Wu,pR]
theorem wQ (n):∀ l:List Int,(KC n l).length=l.length
 | []=>rfl
 | x::r=>by simp [KC]
theorem G8:∀ l p:List Int,(WT l p).length=l.length
 | [],_=>rfl
 | x::r,[]=>rfl
 | x::r,y::m=>by simp [WT,G8 r m]
theorem DK (b T law l p):(jB b T law l p).length=l.length:=by unfold jB; rw [G8,wQ,xw]
theorem ZI {b:Int} {T:List (Int×Int)} (hb:0<=b/\b<=500) (hT:Asc 1 T):0<=(b:Rat) / 1000/\(b:Rat) / 1000<=1 / 2:=by
 have h1:(0:Rat)<=b:=Rat.intCast_nonneg.2 hb.1
 have h2:(b:Rat)<=500:=by have:=Rat.intCast_le_intCast.2 hb.2; simpa using this
 grind
theorem agq {b:Int} {T:List (Int×Int)} (hb:0<=b/\b<=500) (hT:Asc 1 T) {x y:Int} (h:y<=x):0<=qS b T x y/\qS b T x y<=x - y:=by
 have hxy:(y:Rat)<=x:=Rat.intCast_le_intCast.2 h
 obtain ⟨l1,l2⟩:=lip (c:=1) (by decide) T y x hT hxy
 obtain ⟨m1,m2⟩:=ZI hb hT
 unfold qS
 generalize (b:Rat) / 1000=m at*
 generalize pl T x=tx at*
 generalize pl T y=ty at*
 have e1:=Rat.mul_nonneg m1 l1
 have e2:=Rat.mul_nonneg (show 0<=1 - m by grind) l1
 constructor
 ·rw [Rat.le_floor_iff]; simpa using e1
 ·have h3:=Rat.floor_le (m*(tx - ty))
  rw [<- Rat.intCast_le_intCast,Rat.intCast_sub]
  grind
theorem agr {b:Int} {T:List (Int×Int)} (hb:0<=b/\b<=500) (hT:Asc 1 T) {x y:Int} (h:x<=y):x - y<=qS b T x y/\qS b T x y<=0:=by
 have hxy:(x:Rat)<=y:=Rat.intCast_le_intCast.2 h
 obtain ⟨l1,l2⟩:=lip (c:=1) (by decide) T x y hT hxy
 obtain ⟨m1,m2⟩:=ZI hb hT
 unfold qS
 generalize (b:Rat) / 1000=m at*
 generalize pl T x=tx at*
 generalize pl T y=ty at*
 have e1:=Rat.mul_nonneg m1 l1
 have e2:=Rat.mul_nonneg (show 0<=1 - m by grind) l1
 constructor
 ·rw [Rat.le_floor_iff,Rat.intCast_sub]; grind
 ·have h3:=Rat.floor_le (m*(tx - ty))
  rw [<- Rat.intCast_le_intCast]
  have:((0:Int):Rat)=0:=rfl
  grind
theorem q_in {b:Int} {T:List (Int×Int)} (hb:0<=b/\b<=500) (hT:Asc 1 T) {x y u v:Int} (hx:u<=x/\x<=v) (hy:u<=y/\y<=v):(u<=x - qS b T x y/\x - qS b T x y<=v)/\(u<=y+qS b T x y/\y+qS b T x y<=v):=by
 rcases Int.le_total x y with h | h
 ·have:=agr hb hT h; omega
 ·have:=agq hb hT h; omega
theorem adg {b:Int} {T:List (Int×Int)} (hb:0<=b/\b<=500) (hT:Asc 1 T) {x y x' y':Int} (hx:x<=x') (hy:y<=y'):x - qS b T x y<=x' - qS b T x' y'/\y+qS b T x y<=y'+qS b T x' y':=by
 have hx':(x:Rat)<=x':=Rat.intCast_le_intCast.2 hx
 have hy':(y:Rat)<=y':=Rat.intCast_le_intCast.2 hy
 obtain ⟨l1,l2⟩:=lip (c:=1) (by decide) T x x' hT hx'
 obtain ⟨l3,l4⟩:=lip (c:=1) (by decide) T y y' hT hy'
 obtain ⟨m1,m2⟩:=ZI hb hT
 unfold qS
 generalize (b:Rat) / 1000=m at*
 generalize pl T x=tx at*
 generalize pl T y=ty at*
 generalize pl T x'=tx' at*
 generalize pl T y'=ty' at*
 have e1:=Rat.mul_nonneg m1 l1
 have e2:=Rat.mul_nonneg (show 0<=1 - m by grind) l1
 have e3:=Rat.mul_nonneg m1 l3
 have e4:=Rat.mul_nonneg (show 0<=1 - m by grind) l3
 have f1:(m*(tx' - ty')).floor<=(m*(tx - ty)).floor+(x' - x):=by
  rw [<- Rat.floor_add_intCast]
  refine Rat.floor_monotone ?_
  rw [Rat.intCast_sub]; grind
 have f2:(m*(tx - ty)).floor<=(m*(tx' - ty')).floor+(y' - y):=by
  rw [<- Rat.floor_add_intCast]
  refine Rat.floor_monotone ?_
  rw [Rat.intCast_sub]; grind
 omega
theorem xO {b:Int} {T:List (Int×Int)} (hb:0<=b/\b<=500) (hT:Asc 1 T) {u v:Int}:∀ l:List Int,(∀ x∈l,u<=x/\x<=v)->∀ x∈BL b T l,u<=x/\x<=v
 | [],h=>h
 | [x],h=>h
 | x::y::r,h=>by
  have:=q_in hb hT (h x (by simp)) (h y (by simp))
  intro z hz
  simp only [BL,List.mem_cons] at hz
  rcases hz with rfl | rfl | hz
  ·exact this.1
  ·exact this.2
  ·exact xO hb hT r (fun w hw=>h w (by simp [hw])) z hz
theorem ZE {b:Int} {T:List (Int×Int)} (hb:0<=b/\b<=500) (hT:Asc 1 T) {u v:Int}:∀ l:List Int,(∀ x∈l,u<=x/\x<=v)->∀ x∈ZF b T l,u<=x/\x<=v
 | [],h=>h
 | x::r,h=>by
  intro z hz
  simp only [ZF,List.mem_cons] at hz
  rcases hz with rfl | hz
  ·exact h _ (by simp)
  ·exact xO hb hT r (fun w hw=>h w (by simp [hw])) z hz
theorem ZC {b:Int} {T:List (Int×Int)} (hb:0<=b/\b<=500) (hT:Asc 1 T) {u v:Int} (l:List Int) (h:∀ x∈l,u<=x/\x<=v):∀ x∈oK b T l,u<=x/\x<=v:=ZE hb hT _ (xO hb hT l h)
theorem tK {b:Int} {T:List (Int×Int)} (hb:0<=b/\b<=500) (hT:Asc 1 T):∀ l m:List Int,leL l m->leL (BL b T l) (BL b T m)
 | [],[],_=>trivial
 | [],_::_,h=>h.elim
 | [x],[y],h=>h
 | [x],y::_::_,h=>h.2.elim
 | x::_::_,[y],h=>h.2.elim
 | x::y::r,[],h=>h.elim
 | [x],[],h=>h.elim
 | x::y::r,x'::y'::r',⟨h1,h2,h3⟩=>by
  have:=adg hb hT h1 h2
  exact ⟨this.1,this.2,tK hb hT r r' h3⟩
theorem MG {b:Int} {T:List (Int×Int)} (hb:0<=b/\b<=500) (hT:Asc 1 T):∀ l m:List Int,leL l m->leL (ZF b T l) (ZF b T m)
 | [],[],_=>trivial
 | [],_::_,h=>h.elim
 | _::_,[],h=>h.elim
 | x::r,y::r',⟨h1,h2⟩=>⟨h1,tK hb hT r r' h2⟩
theorem MF {b:Int} {T:List (Int×Int)} (hb:0<=b/\b<=500) (hT:Asc 1 T) (l m:List Int) (h:leL l m):leL (oK b T l) (oK b T m):=MG hb hT _ _ (tK hb hT l m h)
theorem Au:∀ l m p q:List Int,leL l m->leL p q->leL (WT l p) (WT m q)
 | [],[],_,_,_,_=>trivial
 | [],_::_,_,_,h,_=>h.elim
 | _::_,[],_,_,h,_=>h.elim
 | x::l,y::m,[],[],h,_=>h
 | x::l,y::m,[],_::_,_,h=>h.elim
 | x::l,y::m,_::_,[],_,h=>h.elim
 | x::l,y::m,z::p,w::q,⟨h1,h2⟩,⟨h3,h4⟩=>⟨Int.add_le_add h1 h3,Au l m p q h2 h4⟩
theorem MR {T law law':List (Int×Int)} (hT:Asc 1 T) (hl:Asc (1 / 2) law) (ho:∀ x:Rat,pl law' x<=pl law x) {x y:Int} (h:x<=y):x - mM T law x<=y - mM T law' y:=by
 have hxy:(x:Rat)<=y:=Rat.intCast_le_intCast.2 h
 obtain ⟨l1,l2⟩:=lip (c:=1) (by decide) T x y hT hxy
 obtain ⟨l3,l4⟩:=lip (c:=1 / 2) (by grind) law (pl T x) (pl T y) hl (by grind)
 have ho':=ho (pl T y)
 unfold mM
 have:(pl law' (pl T y)).floor<=(pl law (pl T x)).floor+(y - x):=by
  rw [<- Rat.floor_add_intCast]
  refine Rat.floor_monotone ?_
  rw [Rat.intCast_sub]; grind
 omega
theorem Lu {b:Int} {T law law':List (Int×Int)} (hb:0<=b/\b<=500) (hT:Asc 1 T) (hl:Asc (1 / 2) law) (ho:∀ x:Rat,pl law' x<=pl law x) {l m p q:List Int} (h:leL l m) (hp:leL p q):leL (jB b T law l p) (jB b T law' m q):=by
 unfold jB
 have hm:=MF hb hT l m h
 refine Au _ _ _ _ ?_ hp
 revert hm
 generalize oK b T l=u
 generalize oK b T m=v
 intro hm
 cases u with
 | nil=>cases v with
  | nil=>trivial
  | cons y v=>exact hm.elim
 | cons x u=>cases v with
  | nil=>exact hm.elim
  | cons y v=>exact ⟨MR hT hl ho hm.1,hm.2⟩
theorem ZJ {T law:List (Int×Int)} (hl:Asc (1 / 2) law) (hr:∀ p∈law,0<=p.2/\p.2<=1000) (e:Int):0<=mM T law e/\mM T law e<=1000:=by
 unfold mM
 by_cases h0:law=[]
 ·subst h0
  have e:(pl [] (pl T e)).floor=0:=Rat.floor_intCast 0
  rw [e]; exact ⟨by decide,by decide⟩
 ·obtain ⟨h1,h2⟩:=XH (c:=1 / 2) law (pl T e) hl hr h0
  constructor
  ·rw [Rat.le_floor_iff]; exact h1
  ·have:=Rat.floor_monotone h2
   rwa [Rat.floor_intCast] at this
end Go.Proofs.YtkbdjphdhcgmaaaGreatDoor
namespace Go.Proofs.YtkbdjphdhcgmaaaGreatDoor
open Go.dR
theorem gS {p:Prop} {α β:Type} {v:α} [Decidable (p->(some v).isSome=true)] {a b:β}:(if p->(some v).isSome=true then a else b)=a:=if_pos (fun _=>rfl)
theorem p90 (a b c:Int):yQ a b c=some (dW a b c):=rfl
theorem p59 (a b c:Int):r57 a b c=some (dW a b c):=rfl
theorem p94 (b:Bool) (e:Int):nN b e=some (bW b e):=by
 unfold nN bW; cases b<;>rfl
theorem p91 (l:List Int) (hl:l.length<1000000000):AP l=some (dL l):=by
 have h:=kR (τ:=Unit) l (zG l) (fun i _=>i) (fun _ _ x=>if x=0 then .next () else .out (some x)) (fun _=>some 0) hl
  (fun i t hi=>by
   simp only [zG,lS hi,if_true,if_pos (jJ hi),Int.toNat_natCast,wS i (by omega)]
   generalize l.getD i default=x
   by_cases hx:x=0<;>simp [hx,Jp])
  (fun t=>by simp [zG]) ()
 unfold AP
 rw [h]
 have:∀ (r:List Int) (i:Int),kS (fun _ _ x=>if x=0 then cO.next () else .out (some x)) (fun _:Unit=>some 0) i r ()=some (dL r):=by
  intro r
  induction r with
  | nil=>intro i; rfl
  | cons x r ih=>
   intro i
   by_cases hx:x=0
   ·simp only [kS,hx,if_true,dL]; exact ih _
   ·simp only [kS,if_neg hx,dL]
 exact this l 0
def NM (p:Int->Bool):Int->List Int->Int
 | _,[]=> -1
 | i,x::r=>if p x then i else NM p (i+1) r
theorem EK (p:Int->Bool):∀ (r:List Int) (i:Int),kS (fun i _ x=>if p x then (.out (some i):cO Unit Int) else .next ()) (fun _:Unit=>some (-1)) i r ()=some (NM p i r)
 | [],i=>rfl
 | x::r,i=>by
  cases hx:p x with
  | true=>simp [kS,hx,NM]
  | false=>simp only [kS,hx,NM]; exact EK p r (i+1)
theorem Nh (p:Int->Bool):∀ (l:List Int) (i:Int),0<=i->(decide (NM p i l>=0))=l.any p
 | [],i,h=>by simp [NM]
 | x::r,i,h=>by
  cases hx:p x with
  | true=>simp [NM,hx,h]
  | false=>simp only [NM,hx,List.any_cons,Bool.false_or]; exact Nh p r (i+1) (by omega)
theorem p19 (l:List Int) (hl:l.length<1000000000):r25 l=some l:=by
 unfold r25; rw [if_pos ⟨by omega,by omega⟩]
end Go.Proofs.YtkbdjphdhcgmaaaGreatDoor
namespace Go.Proofs.YtkbdjphdhcgmaaaGreatDoor
open Go.dR
def orE {ρ:Type} (s fin:Option ρ):Option ρ:=match s with | some v=>some v | none=>fin
theorem DL {ρ:Type} (v:ρ) (fin:Option ρ):orE (some v) fin=some v:=rfl
theorem xq {ρ:Type} (fin:Option ρ):orE none fin=fin:=rfl
def dQ {ρ:Type} (f:Nat->Option ρ):Nat->Nat->Option ρ
 | _,0=>none
 | i,k+1=>match f i with
  | some v=>some v
  | none=>dQ f (i+1) k
theorem gQ {ρ:Type} (n:Nat) (b:Int->cO Int ρ) (f:Nat->Option ρ) (fin:Option ρ) (hn:n<1000000000)
 (step:∀ i:Nat,i<n->b i=match f i with | some v=> .out (some v) | none=> .next ((i:Int)+1)) (stop:b n= .out fin) :
 aS b 1000000000 0=orE (dQ f 0 n) fin:=by
 have key:∀ (k i fuel:Nat),i+k=n->k<fuel->aS b fuel i=orE (dQ f i k) fin:=by
  intro k
  induction k with
  | zero=>
   intro i fuel hi hf
   obtain ⟨m,rfl⟩:∃ m,fuel=m+1:=⟨fuel - 1,by omega⟩
   obtain rfl:i=n:=by omega
   simp [aS,stop,dQ,orE]
  | succ k ih=>
   intro i fuel hi hf
   obtain ⟨m,rfl⟩:∃ m,fuel=m+1:=⟨fuel - 1,by omega⟩
   simp only [aS,step i (by omega),dQ]
   cases hfx:f i with
   | none=>
    have:=ih (i+1) m (by omega) (by omega)
    simpa using this
   | some v=>rfl
 have:=key n 0 1000000000 (by omega) hn
 simpa using this
theorem jO {σ ρ:Type} (n:Nat) (b:σ->cO σ ρ) (st:Nat->σ) (fin:Option ρ) (hn:n<1000000000)
 (step:∀ i:Nat,i<n->b (st i)= .next (st (i+1))) (stop:b (st n)= .out fin):aS b 1000000000 (st 0)=fin:=by
 have key:∀ (k i fuel:Nat),i+k=n->k<fuel->aS b fuel (st i)=fin:=by
  intro k
  induction k with
  | zero=>
   intro i fuel hi hf
   obtain ⟨m,rfl⟩:∃ m,fuel=m+1:=⟨fuel - 1,by omega⟩
   obtain rfl:i=n:=by omega
   simp [aS,stop]
  | succ k ih=>
   intro i fuel hi hf
   obtain ⟨m,rfl⟩:∃ m,fuel=m+1:=⟨fuel - 1,by omega⟩
   simp only [aS,step i (by omega)]
   exact ih (i+1) m (by omega) (by omega)
 exact key n 0 1000000000 (by omega) hn
theorem iM {ρ:Type} {f:Nat->Option ρ}:∀ {k i:Nat},dQ f i k=none->∀ j,i<=j->j<i+k->f j=none
 | 0,i,_,j,h1,h2=>by omega
 | k+1,i,h,j,h1,h2=>by
  simp only [dQ] at h
  cases hf:f i with
  | some v=>rw [hf] at h; cases h
  | none=>
   rw [hf] at h
   by_cases hj:j=i
   ·rw [hj,hf]
   ·exact iM (k:=k) h j (by omega) (by omega)
theorem fE {ρ:Type} {f:Nat->Option ρ} {v:ρ}:∀ {k i:Nat},dQ f i k=some v->∃ j,i<=j/\j<i+k/\f j=some v
 | 0,i,h=>by cases h
 | k+1,i,h=>by
  simp only [dQ] at h
  cases hf:f i with
  | some w=>rw [hf] at h; exact ⟨i,Nat.le_refl _,by omega,by rw [hf]; exact h⟩
  | none=>
   rw [hf] at h
   obtain ⟨j,h1,h2,h3⟩:=fE (k:=k) h
   exact ⟨j,by omega,by omega,h3⟩
theorem sH {ρ:Type} {f:Nat->Option ρ} {k i:Nat} (h:∀ j,i<=j->j<i+k->f j=none):dQ f i k=none:=by
 cases hs:dQ f i k with
 | none=>rfl
 | some v=>obtain ⟨j,h1,h2,h3⟩:=fE hs; rw [h j h1 h2] at h3; cases h3
theorem tu (P:Nat->Prop) [DecidablePred P]:∀ n:Nat,∃ k,k<=n/\(∀ i,i<k->P i)/\(k<n->¬ P k)
 | 0=>⟨0,Nat.le_refl _,fun _ h=>by omega,fun h=>by omega⟩
 | n+1=>by
  obtain ⟨k,h1,h2,h3⟩:=tu P n
  by_cases hk:k<n
  ·exact ⟨k,by omega,h2,fun _=>h3 hk⟩
  ·obtain rfl:k=n:=by omega
   by_cases hp:P k
   ·exact ⟨k+1,by omega,fun i hi=>by
     by_cases hik:i=k
     ·rw [hik]; exact hp
     ·exact h2 i (by omega),fun h=>by omega⟩
   ·exact ⟨k,by omega,h2,fun _=>hp⟩
theorem wP (i:Nat) (h:i<1000000000):IntKind.i64.wrap ((i:Int) - 1)=(i:Int) - 1:=IntWalk.i64_in _ ⟨by omega,by omega⟩
theorem wPn (i:Nat):(((i:Int)) - 1).toNat=i - 1:=by omega
theorem rgP {i n:Nat} (h:i<n) (h0:0<i):0<=(i:Int) - 1/\(i:Int) - 1<(n:Int):=⟨by omega,by omega⟩
theorem mid (a b:Nat) (h:a+b<1000000000):IntKind.i64.wrap ((IntKind.u64.wrap (IntKind.i64.wrap ((a:Int)+(b:Int)))) / 2 ^ 1)=(((a+b) / 2:Nat):Int):=by
 rw [IntWalk.i64_in ((a:Int)+(b:Int)) ⟨by omega,by omega⟩]
 have:IntKind.u64.wrap ((a:Int)+(b:Int))=(a:Int)+(b:Int):=by simp only [IntKind.wrap_u64]; omega
 rw [this]
 have:((a:Int)+(b:Int)) / 2 ^ 1=(((a+b) / 2:Nat):Int):=by omega
 rw [this]
 exact IntWalk.i64_in _ ⟨by omega,by omega⟩
def aau (a b:Int):Int:=if a<b then -1 else if a>b then 1 else 0
theorem ajj (x y n d:Int):PY x y n d=some (aau (IntKind.i64.wrap (x*d)) n):=by
 unfold PY aeQ LV aau
 generalize IntKind.i64.wrap (x*d)=a
 simp only [Option.bind_some,bne_self_eq_false,Bool.false_eq_true,if_false,decide_eq_true_eq]
 split
 ·rfl
 ·split<;>rfl
def ltK (l:List (Int×Int)) (n d:Int) (i:Nat):Prop:=IntKind.i64.wrap ((l.getD i default).1*d)<n
instance (l n d i):Decidable (ltK l n d i):=by unfold ltK; infer_instance
theorem alH (l:List (Int×Int)) (n d:Int) (hl:l.length<1000) (k:Nat) (hk:k<=l.length) (h1:∀ i,i<k->ltK l n d i) (h2:∀ i,k<=i->i<l.length->¬ ltK l n d i) :
 ∃ b,aeR l n d=some ((k:Int),b):=by
 have key:∀ (fuel lo hi:Nat),lo<=k->k<=hi->hi<=l.length->hi - lo<fuel->∃ b,aS (zA l n d) fuel ((lo:Int),(hi:Int))=some ((k:Int),b):=by
  intro fuel
  induction fuel with
  | zero=>intro lo hi _ _ _ h; omega
  | succ m ih=>
   intro lo hi a1 a2 a3 a4
   by_cases hlt:lo<hi
   ·have e0:(decide ((lo:Int)<(hi:Int)))=true:=by simpa using hlt
    have em:(lo+hi) / 2<l.length:=by omega
    have e2:IntKind.i64.wrap ((((lo+hi) / 2:Nat):Int)+1)=(((lo+hi) / 2+1:Nat):Int):=by rw [wS _ (by omega)]; omega
    simp only [aS,zA,e0,if_true,mid lo hi (by omega),if_pos (jJ em),Int.toNat_natCast,ajj,aP,e2]
    by_cases hp:ltK l n d ((lo+hi) / 2)
    ·have hc:(decide (aau (IntKind.i64.wrap ((l.getD ((lo+hi) / 2) default).1*d)) n<0))=true:=by
      unfold ltK at hp; unfold aau; rw [if_pos hp]; rfl
     simp only [hc,if_true]
     have:(lo+hi) / 2<k:=by
      apply Nat.lt_of_not_le; intro hge; exact h2 _ hge em hp
     exact ih _ _ (by omega) (by omega) (by omega) (by omega)
    ·have hc:(decide (aau (IntKind.i64.wrap ((l.getD ((lo+hi) / 2) default).1*d)) n<0))=false:=by
      unfold ltK at hp; unfold aau; rw [if_neg hp]; split<;>rfl
     simp only [hc,Bool.false_eq_true,if_false]
     have:k<=(lo+hi) / 2:=by
      apply Nat.le_of_not_lt; intro hlt'; exact hp (h1 _ hlt')
     exact ih _ _ (by omega) (by omega) (by omega) (by omega)
   ·obtain rfl:lo=k:=by omega
    obtain rfl:hi=lo:=by omega
    have e0:(decide ((hi:Int)<(hi:Int)))=false:=by simp
    simp only [aS,zA,e0,Bool.false_eq_true,if_false,ajj,Option.isSome_some,implies_true,if_true]
    by_cases hkl:hi<l.length
    ·have e3:0<=(hi:Int)/\(hi:Int)<(l.length:Int):=jJ hkl
     rw [if_pos (fun _=>e3)]
     exact ⟨_,rfl⟩
    ·have e3:(decide ((hi:Int)<(l.length:Int)))=false:=by simp; omega
     simp only [e3,Bool.false_eq_true,false_implies,if_true]
     exact ⟨_,rfl⟩
 exact key 1000000000 0 l.length (by omega) hk (Nat.le_refl _) (by omega)
def BF (l:List (Int×Int)) (n d:Int) (k:Nat):Int×Int:=
 if l.length=0 then (0,1)
 else if k=0 then ((l.getD 0 default).2,1)
 else if k=l.length then ((l.getD (k - 1) default).2,1)
 else (IntKind.i64.wrap ((IntKind.i64.wrap (((l.getD (k - 1) default).2)*(IntKind.i64.wrap ((IntKind.i64.wrap (((l.getD k default).1) - ((l.getD (k - 1) default).1)))*d))))+(IntKind.i64.wrap ((IntKind.i64.wrap (((l.getD k default).2) - ((l.getD (k - 1) default).2)))*(IntKind.i64.wrap (n - (IntKind.i64.wrap (((l.getD (k - 1) default).1)*d))))))),IntKind.i64.wrap ((IntKind.i64.wrap (((l.getD k default).1) - ((l.getD (k - 1) default).1)))*d))
theorem al7 (l:List (Int×Int)) (n d:Int) (hl:l.length<1000) (k:Nat) (hk:k<=l.length) (h1:∀ i,i<k->ltK l n d i) (h2:∀ i,k<=i->i<l.length->¬ ltK l n d i) :
 AO l n d=some (BF l n d k):=by
 obtain ⟨b,hb⟩:=alH l n d hl k hk h1 h2
 unfold AO BF
 rw [hb,Option.bind_some]
 by_cases h0:l.length=0
 ·have:((l.length:Int) == 0)=true:=by simp [h0]
  rw [if_pos this,if_pos h0]
 ·have:¬ ((l.length:Int) == 0)=true:=by rw [beq_iff_eq]; omega
  rw [if_neg this,if_neg h0]
  simp only
  by_cases hk0:k=0
  ·have:((k:Int) == 0)=true:=by simp [hk0]
   rw [if_pos this,if_pos hk0,if_pos ⟨by omega,by omega⟩]
  ·have:¬ ((k:Int) == 0)=true:=by rw [beq_iff_eq]; omega
   rw [if_neg this,if_neg hk0,wP k (by omega),wPn]
   by_cases hkl:k=l.length
   ·have:((k:Int) == (l.length:Int))=true:=by simp [hkl]
    rw [if_pos this,if_pos hkl,if_pos ⟨by omega,by omega⟩]
   ·have:¬ ((k:Int) == (l.length:Int))=true:=by rw [beq_iff_eq]; omega
    rw [if_neg this,if_neg hkl,if_pos ⟨by omega,by omega⟩,if_pos ⟨by omega,by omega⟩,Int.toNat_natCast]
theorem ajl (l:List (Int×Int)) (n d:Int) (hl:l.length<1000) (k:Nat) (hk:k<=l.length) (h1:∀ i,i<k->ltK l n d i) (h2:k<l.length->¬ ltK l n d k) :
 AQ l n d=some (BF l n d k):=by
 unfold AQ
 by_cases h0:l.length=0
 ·have:((l.length:Int) == 0)=true:=by simp [h0]
  rw [if_pos this]; unfold BF; rw [if_pos h0]
 ·have:¬ ((l.length:Int) == 0)=true:=by rw [beq_iff_eq]; omega
  rw [if_neg this]
  refine jO k (tY l n d) (fun i=>(i:Int)) _ (by omega) ?_ ?_
  ·intro i hi
   have hp:=h1 i hi
   unfold ltK at hp
   have e:¬ (decide (n<=IntKind.i64.wrap ((l.getD i default).1*d)))=true:=by rw [decide_eq_true_eq]; omega
   simp only [tY,lS (show i<l.length by omega),if_true,if_pos (jJ (show i<l.length by omega)),Int.toNat_natCast,if_neg e,wS i (by omega)]
   rfl
  ·by_cases hkl:k<l.length
   ·have hp:=h2 hkl
    unfold ltK at hp
    have e:(decide (n<=IntKind.i64.wrap ((l.getD k default).1*d)))=true:=decide_eq_true (by omega)
    simp only [tY,lS hkl,if_true,if_pos (jJ hkl),Int.toNat_natCast,e,wP k (by omega),wPn]
    unfold BF
    rw [if_neg h0]
    by_cases hk0:k=0
    ·subst hk0
     rw [if_pos rfl,if_pos (by rfl),if_pos ⟨by omega,by omega⟩]
    ·have:¬ ((k:Int) == 0)=true:=by rw [beq_iff_eq]; omega
     rw [if_neg this,if_neg hk0,if_neg (show ¬ k=l.length by omega),if_pos (rgP hkl (by omega))]
   ·obtain rfl:k=l.length:=by omega
    have e0:(decide ((l.length:Int)<(l.length:Int)))=false:=by simp
    simp only [tY,e0,Bool.false_eq_true,if_false,wP l.length (by omega),wPn]
    rw [if_pos ⟨by omega,by omega⟩]
    unfold BF
    rw [if_neg h0,if_neg h0,if_pos rfl]
end Go.Proofs.YtkbdjphdhcgmaaaGreatDoor
namespace Go.Proofs.YtkbdjphdhcgmaaaGreatDoor
open Go.dR
theorem ajk (a:Int):XD a=some (dW a 200 3000):=rfl
theorem ajO (a:Int):r98 a=some (dW a 200 3000):=rfl
def dX (l:List (Int×Int)) (i:Nat):Int:=IntKind.i64.wrap ((l.getD i default).1 - (l.getD (i - 1) default).1)
def dY (l:List (Int×Int)) (i:Nat):Int:=IntKind.i64.wrap ((l.getD i default).2 - (l.getD (i - 1) default).2)
def Dl (l:List (Int×Int)) (i:Nat):Option (Int×Int):=
 if (dW (l.getD i default).1 0 1000000 && dW (l.getD i default).2 200 3000)=true then
  if i=0 then none
  else if 0<dX l i/\0<dY l i then (if dY l i<=dX l i then none else some (i,22))
  else some (i,9)
 else some (i,2)
theorem Gp (e:Int):bW true e=0:=rfl
theorem Gt (e:Int):bW false e=e:=rfl
theorem p99 (l:List (Int×Int)):aae l=if l.length<2 then some (0,10) else if 8<l.length then some (0,8) else orE (dQ (Dl l) 0 l.length) (some (0,0)):=by
 unfold aae
 simp only [p94,Option.bind_some]
 rw [p91 _ (by simp),Option.bind_some]
 by_cases h2:l.length<2
 ·have:(decide ((l.length:Int)>=2))=false:=by simp; omega
  rw [if_pos h2,this]; rfl
 ·have e2:(decide ((l.length:Int)>=2))=true:=by simp; omega
  rw [if_neg h2,e2]
  by_cases h8:8<l.length
  ·have:(decide ((l.length:Int)<=8))=false:=by simp; omega
   rw [if_pos h8,this]; rfl
  ·have e8:(decide ((l.length:Int)<=8))=true:=by simp; omega
   rw [if_neg h8,e8]
   show aS (wR l) 1000000000 0=_
   refine gQ l.length (wR l) (Dl l) _ (by omega) ?_ ?_
   ·intro i hi
    simp only [wR,lS hi,if_true,if_pos (jJ hi),Int.toNat_natCast,wS i (by omega),wP i (by omega),wPn,p90,ajk,p94,aP,Option.isSome_some,Option.getD_some,implies_true]
    unfold Dl
    rcases Bool.eq_false_or_eq_true (dW (l.getD i default).1 0 1000000 && dW (l.getD i default).2 200 3000) with h | h
    ·rw [h]
     simp only [Gp,if_true,beq_self_eq_true,Bool.true_and]
     by_cases h0:i=0
     ·have:(decide ((i:Int)>0))=false:=by simp [h0]
      simp only [this,Bool.false_eq_true,if_false,bne_self_eq_false]
      rw [if_pos h0]
     ·have e0:(decide ((i:Int)>0))=true:=by simp; omega
      simp only [e0,if_true,if_pos (rgP hi (by omega)),h0,if_false]
      rw [p91 _ (by simp)]
      simp only
      show (if (dL [bW (decide (dX l i>0) && decide (dY l i>0)) 9,bW (decide (dY l i<=dX l i)) 22] != 0)=true then cO.out (some ((i:Int),dL [bW (decide (dX l i>0) && decide (dY l i>0)) 9,bW (decide (dY l i<=dX l i)) 22])) else _)=_
      generalize dX l i=a
      generalize dY l i=b
      by_cases ha:0<a/\0<b
      ·have hb:(decide (a>0) && decide (b>0))=true:=by simp; exact ha
       rw [hb,if_pos ha]
       by_cases hc:b<=a<;>simp [Gp,dL,hc,bW]
      ·have hb:(decide (a>0) && decide (b>0))=false:=by simp; omega
       rw [hb,if_neg ha]; simp [Gt,dL]
    ·rw [h]
     simp [Gt]
   ·simp [wR]
theorem alD (l:List (Int×Int)) (L:List (List (Int×Int))) (hl:l.length<1000) :
 aS (uK l L) 1000000000 0=orE (dQ (Dl l) 0 l.length) (if (decide ((L.length:Int)>4))=true then some (0,8) else aS (ql L) 1000000000 0):=by
 refine gQ l.length (uK l L) (Dl l) _ (by omega) ?_ ?_
 ·intro i hi
  simp only [uK,lS hi,if_true,if_pos (jJ hi),Int.toNat_natCast,wS i (by omega),wP i (by omega),wPn,p59,ajO,aP,Option.isSome_some,Option.getD_some,implies_true,jJ hi,and_self,decide_true,if_true]
  unfold Dl
  have hor:((!(dW (l.getD i default).1 0 1000000)) || (!(dW (l.getD i default).2 200 3000)))= !(dW (l.getD i default).1 0 1000000 && dW (l.getD i default).2 200 3000):=by rw [Bool.not_and]
  rw [hor]
  rcases Bool.eq_false_or_eq_true (dW (l.getD i default).1 0 1000000 && dW (l.getD i default).2 200 3000) with h | h
  ·rw [h]
   simp only [Bool.not_true,Bool.false_eq_true,if_false,if_true]
   by_cases h0:i=0
   ·have:(decide ((i:Int)>0))=false:=by simp [h0]
    simp only [this,Bool.false_eq_true,if_false,bne_self_eq_false]
    rw [if_pos h0]
   ·have e0:(decide ((i:Int)>0))=true:=by simp; omega
    simp only [e0,if_true,if_pos (rgP hi (by omega)),h0,if_false]
    show (if (decide (dX l i<=0) || decide (dY l i<=0))=true then cO.out (some ((i:Int),9)) else if decide (dY l i>dX l i)=true then cO.out (some ((i:Int),22)) else _)=_
    generalize dX l i=a
    generalize dY l i=b
    by_cases ha:0<a/\0<b
    ·have hb:(decide (a<=0) || decide (b<=0))=false:=by simp; exact ha
     rw [hb,if_pos ha]
     by_cases hc:b<=a
     ·have:¬ b>a:=by omega
      simp [hc,this]
     ·have:b>a:=by omega
      simp [hc,this]
    ·have hb:(decide (a<=0) || decide (b<=0))=true:=by simp; omega
     rw [hb,if_neg ha]; simp
  ·rw [h]
   simp
 ·simp [uK]
def BN (l:List (Int×Int)) (i:Nat):Option Int:=
 if (dW (l.getD i default).1 200 3000 && dW (l.getD i default).2 0 1000)=true then
  if i=0 then none
  else if 0<dX l i/\0<=dY l i then (if IntKind.i64.wrap (2*dY l i)<=dX l i then none else some 22)
  else some 9
 else some 2
def gu (l:List (Int×Int)):Int:=if 6<l.length then 8 else (dQ (BN l) 0 l.length).getD 0
theorem ZL {l:List (Int×Int)} {i:Nat} {e:Int} (h:BN l i=some e):e≠0:=by
 unfold BN at h
 repeat' split at h
 all_goals first | (injection h with h; omega) | cases h
theorem MX {l:List (Int×Int)} (h:gu l=0):l.length<=6/\∀ i,i<l.length->BN l i=none:=by
 unfold gu at h
 split at h
 ·cases h
 ·rename_i h6
  refine ⟨by omega,?_⟩
  cases hs:dQ (BN l) 0 l.length with
  | none=>exact fun i hi=>iM hs i (by omega) (by omega)
  | some e=>
   rw [hs] at h
   obtain ⟨j,_,_,hj⟩:=fE hs
   exact absurd h (ZL hj)
theorem aol (l:List (Int×Int)):aco l=some (gu l):=by
 unfold aco gu
 by_cases h6:6<l.length
 ·have:(decide ((l.length:Int)>6))=true:=by simp; omega
  rw [if_pos this,if_pos h6]
 ·have:¬ (decide ((l.length:Int)>6))=true:=by simp; omega
  rw [if_neg this,if_neg h6]
  have hscan:aS (uF l) 1000000000 0=orE (dQ (BN l) 0 l.length) (some 0):=by
   refine gQ l.length (uF l) (BN l) _ (by omega) ?_ ?_
   ·intro i hi
    simp only [uF,lS hi,if_true,if_pos (jJ hi),Int.toNat_natCast,wS i (by omega),wP i (by omega),wPn,p59,ajO,aP,Option.isSome_some,Option.getD_some,implies_true,jJ hi,and_self,decide_true,if_true]
    unfold BN
    have hor:((!(dW (l.getD i default).1 200 3000)) || (!(dW (l.getD i default).2 0 1000)))= !(dW (l.getD i default).1 200 3000 && dW (l.getD i default).2 0 1000):=by rw [Bool.not_and]
    rw [hor]
    rcases Bool.eq_false_or_eq_true (dW (l.getD i default).1 200 3000 && dW (l.getD i default).2 0 1000) with h | h
    ·rw [h]
     simp only [Bool.not_true,Bool.false_eq_true,if_false,if_true]
     by_cases h0:i=0
     ·have:(decide ((i:Int)>0))=false:=by simp [h0]
      simp only [this,Bool.false_eq_true,if_false,bne_self_eq_false]
      rw [if_pos h0]
     ·have e0:(decide ((i:Int)>0))=true:=by simp; omega
      simp only [e0,if_true,if_pos (rgP hi (by omega)),h0,if_false]
      show (if (decide (dX l i<=0) || decide (dY l i<0))=true then cO.out (some 9) else if decide (IntKind.i64.wrap (2*dY l i)>dX l i)=true then cO.out (some 22) else _)=_
      generalize dX l i=a
      generalize dY l i=b
      by_cases ha:0<a/\0<=b
      ·have hb:(decide (a<=0) || decide (b<0))=false:=by simp; exact ha
       rw [hb,if_pos ha]
       by_cases hc:IntKind.i64.wrap (2*b)<=a
       ·have:¬ IntKind.i64.wrap (2*b)>a:=by omega
        simp [hc,this]
       ·have:IntKind.i64.wrap (2*b)>a:=by omega
        simp [hc,this]
      ·have hb:(decide (a<=0) || decide (b<0))=true:=by simp; omega
       rw [hb,if_neg ha]; simp
    ·rw [h]
     simp
   ·simp [uF]
  rw [hscan]
  cases dQ (BN l) 0 l.length<;>rfl
theorem agJ (l m:List (Int×Int)) (h6:l.length<=6) (e:Option Int) (he:e=orE (dQ (BN l) 0 l.length) ((Jf l).bind fun v10=>(Jf m).bind fun v11=>(XC [v10,v11]).bind fun v12=>aS (tX v10 v11 v12) 1000000000 0)):P7 l m=e:=by
 unfold P7
 have:¬ (decide ((l.length:Int)>6))=true:=by simp; omega
 rw [if_neg this,he]
 refine gQ l.length (zF l m) (BN l) _ (by omega) ?_ ?_
 ·intro i hi
  simp only [zF,lS hi,if_true,if_pos (jJ hi),Int.toNat_natCast,wS i (by omega),wP i (by omega),wPn,p90,ajk,p94,aP,Option.isSome_some,Option.getD_some,implies_true]
  unfold BN
  rcases Bool.eq_false_or_eq_true (dW (l.getD i default).1 200 3000 && dW (l.getD i default).2 0 1000) with h | h
  ·rw [h]
   simp only [Gp,if_true,beq_self_eq_true,Bool.true_and]
   by_cases h0:i=0
   ·have:(decide ((i:Int)>0))=false:=by simp [h0]
    simp only [this,Bool.false_eq_true,if_false,bne_self_eq_false]
    rw [if_pos h0]
   ·have e0:(decide ((i:Int)>0))=true:=by simp; omega
    simp only [e0,if_true,if_pos (rgP hi (by omega)),h0,if_false]
    rw [p91 _ (by simp)]
    simp only
    show (if (dL [bW (decide (dX l i>0) && decide (dY l i>=0)) 9,bW (decide (IntKind.i64.wrap (2*dY l i)<=dX l i)) 22] != 0)=true then cO.out (some (dL [bW (decide (dX l i>0) && decide (dY l i>=0)) 9,bW (decide (IntKind.i64.wrap (2*dY l i)<=dX l i)) 22])) else _)=_
    generalize dX l i=a
    generalize dY l i=b
    by_cases ha:0<a/\0<=b
    ·have hb:(decide (a>0) && decide (b>=0))=true:=by simp; exact ha
     rw [hb,if_pos ha]
     by_cases hc:IntKind.i64.wrap (2*b)<=a<;>simp [Gp,dL,hc,bW]
    ·have hb:(decide (a>0) && decide (b>=0))=false:=by simp; omega
     rw [hb,if_neg ha]; simp [Gt,dL]
  ·rw [h]
   simp [Gt]
 ·simp [zF]
theorem sF {α:Type} [Inhabited α] (l:List α) (i:Nat) (hi:i<l.length):l.take (i+1)=l.take i++[l.getD i default]:=by
 rw [List.take_add_one]; simp [List.getD_eq_getElem?_getD,hi]
theorem agD (l:List (Int×Int)) (hl:l.length<1000000):Jf l=some l:=by
 unfold Jf
 refine jO l.length (zC l) (fun i=>(l.take i,(i:Int))) _ (by omega) ?_ ?_
 ·intro i hi
  have hlen:(l.take i).length=i:=by simp; omega
  simp only [zC,lS hi,if_true,if_pos (jJ hi),Int.toNat_natCast,wS i (by omega),hlen]
  rw [if_pos ⟨by omega,by omega⟩,sF l i hi]
  rfl
 ·simp [zC]
theorem alI (l:List (Int×Int)) (hl:l.length<1000000):Z9 l=some l:=by
 unfold Z9
 refine jO l.length (zD l) (fun i=>(l.take i,(i:Int))) _ (by omega) ?_ ?_
 ·intro i hi
  have hlen:(l.take i).length=i:=by simp; omega
  simp only [zD,lS hi,if_true,if_pos (jJ hi),Int.toNat_natCast,wS i (by omega),hlen]
  rw [if_pos ⟨by omega,by omega⟩,sF l i hi]
  rfl
 ·simp [zD]
theorem alJ (l m:List (Int×Int)) (hl:l.length<1000) (hm:m.length<1000):XC [l,m]=some (l++m):=by
 unfold XC
 have e0:IntKind.i64.wrap (0+(l.length:Int))=l.length:=IntWalk.i64_in _ ⟨by omega,by omega⟩ |>.trans (by omega)
 have e1:IntKind.i64.wrap ((l.length:Int)+(m.length:Int))=l.length+m.length:=IntWalk.i64_in _ ⟨by omega,by omega⟩
 have e2:IntKind.i64.wrap (l.length:Int)=l.length:=IntWalk.i64_in _ ⟨by omega,by omega⟩
 have e3:IntKind.i64.wrap 1=1:=by decide
 have e4:IntKind.i64.wrap 2=2:=by decide
 refine jO 2 (wK [l,m]) (fun i=>if i=0 then (0,0) else if i=1 then ((l.length:Int),1) else ((l.length:Int)+m.length,2)) _ (by omega) ?_ ?_
 ·intro i hi
  have:i=0\/i=1:=by omega
  rcases this with rfl | rfl
  ·have:¬ ((l.length:Int)<0):=by omega
   simp [wK,e2,e3,this]
  ·have:¬ ((l.length:Int)+m.length<0):=by omega
   simp [wK,e1,this,e4]
 ·simp only [wK,List.length_cons,List.length_nil]
  simp only [if_neg (show ¬ (2:Nat)=0 by decide),if_neg (show ¬ (2:Nat)=1 by decide)]
  rw [if_neg (by decide)]
  congr 1
  rw [if_pos ⟨by omega,by omega⟩]
  refine jO 2 (wJ [l,m]) (fun i=>if i=0 then (0,[]) else if i=1 then (1,l) else (2,l++m)) _ (by omega) ?_ ?_
  ·intro i hi
   have:i=0\/i=1:=by omega
   rcases this with rfl | rfl
   ·have c1:(l.length)*16<=140737488355328/\l.length<=9223372036854775807:=⟨by omega,by omega⟩
    simp [wJ,c1,e3,e4]
   ·have c1:(l.length+m.length)*16<=140737488355328/\l.length+m.length<=9223372036854775807:=⟨by omega,by omega⟩
    simp [wJ,c1,e3,e4]
  ·simp [wJ]
end Go.Proofs.YtkbdjphdhcgmaaaGreatDoor
namespace Go.Proofs.YtkbdjphdhcgmaaaGreatDoor
open Go.dR
theorem wC {σ ρ:Type} (n:Nat) (b:σ->cO σ ρ) (mk:Nat->σ) (f:Nat->Option ρ) (fin:Option ρ) (hn:n<1000000000)
 (step:∀ i:Nat,i<n->(∀ j,j<i->f j=none)->b (mk i)=match f i with | some v=> .out (some v) | none=> .next (mk (i+1)))
 (stop:(∀ j,j<n->f j=none)->b (mk n)= .out fin) :
 aS b 1000000000 (mk 0)=orE (dQ f 0 n) fin:=by
 have key:∀ (k i fuel:Nat),(∀ j,j<i->f j=none)->i+k=n->k<fuel->aS b fuel (mk i)=orE (dQ f i k) fin:=by
  intro k
  induction k with
  | zero=>
   intro i fuel hj hi hf
   obtain ⟨m,rfl⟩:∃ m,fuel=m+1:=⟨fuel - 1,by omega⟩
   obtain rfl:i=n:=by omega
   simp [aS,stop hj,dQ,orE]
  | succ k ih=>
   intro i fuel hj hi hf
   obtain ⟨m,rfl⟩:∃ m,fuel=m+1:=⟨fuel - 1,by omega⟩
   simp only [aS,step i (by omega) hj,dQ]
   cases hfx:f i with
   | none=>
    exact ih (i+1) m (fun j h=>by
     by_cases hji:j=i
     ·rw [hji]; exact hfx
     ·exact hj j (by omega)) (by omega) (by omega)
   | some v=>rfl
 exact key n 0 1000000000 (fun j h=>by omega) (by omega) hn
structure uU (l:List (Int×Int)) (a b:Int):Prop where
 len:l.length<1000
 rng:∀ i,i<l.length->a<=(l.getD i default).1/\(l.getD i default).1<=b
 inc:∀ i,0<i->i<l.length->(l.getD (i - 1) default).1<(l.getD i default).1
theorem uU.lt {l:List (Int×Int)} {a b:Int} (h:uU l a b) {i:Nat}:∀ {j:Nat},i<j->j<l.length->(l.getD i default).1<(l.getD j default).1
 | 0,h1,_=>by omega
 | j+1,h1,h2=>by
  have:=h.inc (j+1) (by omega) h2
  rw [Nat.add_sub_cancel] at this
  by_cases hij:i=j
  ·rw [hij]; exact this
  ·have:=h.lt (i:=i) (j:=j) (by omega) (by omega); omega
theorem Mc {x d:Int} (hx:0<=x) (hx2:x<=1000000) (hd:0<d) (hd2:d<=1000000):IntKind.i64.wrap (x*d)=x*d/\0<=x*d/\x*d<=1000000*1000000:=by
 have a1:0<=x*d:=Int.mul_nonneg hx (by omega)
 have a2:x*d<=1000000*d:=Int.mul_le_mul_of_nonneg_right hx2 (by omega)
 have a3:(1000000:Int)*d<=1000000*1000000:=Int.mul_le_mul_of_nonneg_left hd2 (by omega)
 exact ⟨IntWalk.i64_in _ ⟨by omega,by omega⟩,a1,by omega⟩
theorem OH {l:List (Int×Int)} {a b:Int} (h:uU l a b) (ha:0<=a) (hb:b<=1000000) (n d:Int) (hd:0<d) (hd2:d<=1000000) :
 ∃ k,k<=l.length/\AO l n d=some (BF l n d k)/\AQ l n d=some (BF l n d k)/\(∀ i,i<k->(l.getD i default).1*d<n)/\(∀ i,k<=i->i<l.length->n<=(l.getD i default).1*d):=by
 obtain ⟨k,h1,h2,h3⟩:=tu (ltK l n d) l.length
 have hw:∀ i,i<l.length->IntKind.i64.wrap ((l.getD i default).1*d)=(l.getD i default).1*d:=fun i hi=>by
  have:=h.rng i hi
  exact (Mc (by omega) (by omega) hd hd2).1
 have e:∀ i,i<l.length->(ltK l n d i↔(l.getD i default).1*d<n):=fun i hi=>by unfold ltK; rw [hw i hi]
 have h4:∀ i,k<=i->i<l.length->n<=(l.getD i default).1*d:=by
  intro i hi hil
  have h5:=h3 (by omega)
  rw [e k (by omega)] at h5
  by_cases hki:k=i
  ·subst hki; omega
  ·have:=h.lt (i:=k) (j:=i) (by omega) hil
   have:=Int.mul_le_mul_of_nonneg_right (Int.le_of_lt this) (show 0<=d by omega)
   omega
 have h5:∀ i,k<=i->i<l.length->¬ ltK l n d i:=fun i hi hil=>by rw [e i hil]; have:=h4 i hi hil; omega
 exact ⟨k,h1,al7 l n d h.len k h1 h2 h5,ajl l n d h.len k h1 h2 h3,fun i hi=>(e i (by omega)).1 (h2 i hi),h4⟩
theorem oH (l:List (Int×Int)) (n d:Int) (hl:l.length<1000):∃ v,AQ l n d=some v:=by
 obtain ⟨k,h1,h2,h3⟩:=tu (ltK l n d) l.length
 exact ⟨_,ajl l n d hl k h1 h2 h3⟩
structure uN (l:List (Int×Int)):Prop where
 len:l.length<=6
 srt:uU l 200 3000
 yr:∀ i,i<l.length->0<=(l.getD i default).2/\(l.getD i default).2<=1000
 Jl:∀ i,0<i->i<l.length->(l.getD (i - 1) default).2<=(l.getD i default).2/\2*((l.getD i default).2 - (l.getD (i - 1) default).2)<=(l.getD i default).1 - (l.getD (i - 1) default).1
theorem gU {a b c:Int}:dW a b c=true↔b<=a/\a<=c:=by simp [dW]
theorem sZ {l:List (Int×Int)} (h:gu l=0):uN l:=by
 obtain ⟨h6,hf⟩:=MX h
 have hr:∀ i,i<l.length->(200<=(l.getD i default).1/\(l.getD i default).1<=3000)/\0<=(l.getD i default).2/\(l.getD i default).2<=1000:=by
  intro i hi
  have:=hf i hi
  unfold BN at this
  split at this
  ·rename_i hc
   rw [Bool.and_eq_true,gU,gU] at hc; exact hc
  ·cases this
 have hd:∀ i,0<i->i<l.length->(l.getD (i - 1) default).1<(l.getD i default).1/\(l.getD (i - 1) default).2<=(l.getD i default).2/\2*((l.getD i default).2 - (l.getD (i - 1) default).2)<=(l.getD i default).1 - (l.getD (i - 1) default).1:=by
  intro i h0 hi
  have:=hf i hi
  unfold BN at this
  have a1:=hr i hi
  have a2:=hr (i - 1) (by omega)
  have ex:dX l i=(l.getD i default).1 - (l.getD (i - 1) default).1:=IntWalk.i64_in _ ⟨by omega,by omega⟩
  have ey:dY l i=(l.getD i default).2 - (l.getD (i - 1) default).2:=IntWalk.i64_in _ ⟨by omega,by omega⟩
  have e2:IntKind.i64.wrap (2*dY l i)=2*dY l i:=by rw [ey]; exact IntWalk.i64_in _ ⟨by omega,by omega⟩
  rw [e2,ex,ey] at this
  split at this
  ·rw [if_neg (by omega)] at this
   split at this
   ·rename_i hc
    split at this
    ·rename_i hc2; omega
    ·cases this
   ·cases this
  ·cases this
 exact ⟨h6,⟨by omega,fun i hi=>(hr i hi).1,fun i h0 hi=>(hd i h0 hi).1⟩,fun i hi=>(hr i hi).2,fun i h0 hi=>(hd i h0 hi).2⟩
def nO (l m:List (Int×Int)) (i:Nat):Bool:=
 decide (IntKind.i64.wrap (((AQ l ((l++m).getD i default).1 1).getD default).1*((AQ m ((l++m).getD i default).1 1).getD default).2)<IntKind.i64.wrap (((AQ m ((l++m).getD i default).1 1).getD default).1*((AQ l ((l++m).getD i default).1 1).getD default).2))
def kZ (l m:List (Int×Int)):Bool:=(dQ (fun i=>if nO l m i=true then some true else none) 0 (l.length+m.length)).getD false
theorem aok (l m:List (Int×Int)) (hl:l.length<1000) (hm:m.length<1000):aat l m=some (kZ l m):=by
 unfold aat
 rw [if_pos ⟨by omega,by omega⟩,if_pos ⟨by omega,by omega⟩]
 have hs:aS (uq l m) 1000000000 0=orE (dQ (fun i=>if nO l m i=true then some true else none) 0 (l.length+m.length)) (some false):=by
  refine gQ (l.length+m.length) (uq l m) _ _ (by omega) ?_ ?_
  ·intro i hi
   obtain ⟨u,hu⟩:=oH l ((l++m).getD i default).1 1 hl
   obtain ⟨v,hv⟩:=oH m ((l++m).getD i default).1 1 hm
   have e1:(decide ((i:Int)<((l++m).length:Int)))=true:=by simp; omega
   have e2:0<=(i:Int)/\(i:Int)<((l++m).length:Int):=by rw [List.length_append]; exact ⟨by omega,by omega⟩
   simp only [uq,e1,if_true,if_pos e2,Int.toNat_natCast,wS i (by omega),hu,hv,aP,nO,Option.getD_some]
   split<;>rfl
  ·have e1:(decide (((l.length+m.length:Nat):Int)<((l++m).length:Int)))=false:=by simp
   simp only [uq,e1,Bool.false_eq_true,if_false]
 rw [hs]; unfold kZ
 cases dQ (fun i=>if nO l m i=true then some true else none) 0 (l.length+m.length)<;>rfl
theorem Xp {l:List (Int×Int)} {a b:Int} (h:uU l a b) (ha:0<=a) (hb:b<=1000000) (n d:Int) (hd:0<d) (hd2:d<=1000000):AO l n d=AQ l n d:=by
 obtain ⟨k,_,h1,h2,_⟩:=OH h ha hb n d hd hd2
 rw [h1,h2]
theorem VE:uU [] 200 3000:=⟨by simp,fun i h=>by simp at h,fun i _ h=>by simp at h⟩
theorem aoJ (l m:List (Int×Int)) (hm:uU m 200 3000) (hl:l.length<1000):P7 l m=some (if gu l=0 then (if kZ l m=true then 13 else 0) else gu l):=by
 by_cases h6:6<l.length
 ·have e:gu l=8:=by unfold gu; rw [if_pos h6]
  rw [e]
  unfold P7
  have:(decide ((l.length:Int)>6))=true:=by simp; omega
  rw [if_pos this]; rfl
 ·rw [agJ l m (by omega) _ rfl]
  have hm':=hm.len
  rw [agD l (by omega),agD m (by omega),Option.bind_some,Option.bind_some,alJ l m hl hm',Option.bind_some]
  by_cases h0:gu l=0
  ·have ok:=sZ h0
   rw [if_pos h0,sH (fun j _ hj=>(MX h0).2 j (by omega)),xq]
   have hs:aS (tX l m (l++m)) 1000000000 0=orE (dQ (fun i=>if nO l m i=true then some (13:Int) else none) 0 (l.length+m.length)) (some 0):=by
    refine gQ (l.length+m.length) (tX l m (l++m)) _ _ (by omega) ?_ ?_
    ·intro i hi
     obtain ⟨u,hu⟩:=oH l ((l++m).getD i default).1 1 hl
     obtain ⟨v,hv⟩:=oH m ((l++m).getD i default).1 1 hm'
     have hi2:i<(l++m).length:=by simp; omega
     simp only [tX,lS hi2,if_true,if_pos (jJ hi2),Int.toNat_natCast,wS i (by omega),Xp ok.srt (by omega) (by omega) ((l++m).getD i default).1 1 (by omega) (by omega),Xp hm (by omega) (by omega) ((l++m).getD i default).1 1 (by omega) (by omega),hu,hv,aP,nO,Option.getD_some]
     split<;>rfl
    ·have e1:(decide (((l.length+m.length:Nat):Int)<((l++m).length:Int)))=false:=by simp
     simp only [tX,e1,Bool.false_eq_true,if_false]
   rw [hs]; unfold kZ
   cases h1:dQ (fun i=>if nO l m i=true then some (13:Int) else none) 0 (l.length+m.length) with
   | none=>
    rw [sH (f:=fun i=>if nO l m i=true then some true else none) (fun j a1 a2=>by
     have:=iM h1 j a1 a2
     skip
     split at this
     ·cases this
     ·rename_i hc; rw [if_neg hc])]
    rfl
   | some v=>
    obtain ⟨j,a1,a2,a3⟩:=fE h1
    have hc:nO l m j=true:=by
     skip
     split at a3
     ·assumption
     ·cases a3
    have hv:v=13:=by simp only [hc,if_true] at a3; injection a3 with a3; exact a3.symm
    cases h2:dQ (fun i=>if nO l m i=true then some true else none) 0 (l.length+m.length) with
    | none=>
     have:=iM h2 j a1 a2
     simp only [hc,if_true] at this
     cases this
    | some w=>
     obtain ⟨j',b1,b2,b3⟩:=fE h2
     have hw:w=true:=by
      skip
      split at b3
      ·injection b3 with b3; exact b3.symm
      ·cases b3
     rw [hv,hw]; rfl
  ·rw [if_neg h0]
   unfold gu at h0 ⊢
   rw [if_neg h6] at h0 ⊢
   cases hs:dQ (BN l) 0 l.length with
   | none=>rw [hs] at h0; exact absurd rfl h0
   | some v=>rfl
end Go.Proofs.YtkbdjphdhcgmaaaGreatDoor
namespace Go.Proofs.YtkbdjphdhcgmaaaGreatDoor
open Go.dR
def Az (L:List (List (Int×Int))) (i:Nat):Option (Int×Int):=
 if gu (L.getD i default)=0 then (if 0<i/\kZ (L.getD i default) (L.getD (i - 1) default)=true then some ((i:Int),13) else none)
 else some ((i:Int),gu (L.getD i default))
def bI (a b:Int) (T:List (Int×Int)) (L:List (List (Int×Int))):Int×Int:=
 if (dW a 1 12 && dW b 0 500)=true then
  if T.length<2 then (0,10) else if 8<T.length then (0,8)
  else match dQ (Dl T) 0 T.length with
   | some v=>v
   | none=>if 4<L.length then (0,8) else (dQ (Az L) 0 L.length).getD (0,0)
 else (0,2)
theorem Ko {l:List (Int×Int)} {i:Nat} {v:Int×Int} (h:Dl l i=some v):v.2≠0:=by
 unfold Dl at h
 repeat' split at h
 all_goals first | (injection h with h; subst h; simp) | cases h
theorem Bq {L:List (List (Int×Int))} {i:Nat} (h:Az L i=none):gu (L.getD i default)=0:=by
 unfold Az at h
 split at h
 ·assumption
 ·cases h
theorem Zh {L:List (List (Int×Int))} {i:Nat} {v:Int×Int} (h:Az L i=some v):v.2≠0:=by
 unfold Az at h
 split at h
 ·split at h
  ·injection h with h; subst h; simp
  ·cases h
 ·injection h with h; subst h; assumption
theorem Af {L:List (List (Int×Int))} (hL:∀ x∈L,x.length<1000) (i:Nat):(L.getD i default).length<1000:=by
 by_cases hi:i<L.length
 ·exact hL _ (by simp [List.getD_eq_getElem?_getD,hi])
 ·have:L.getD i default=default:=by simp [List.getD_eq_getElem?_getD,hi]
  rw [this]; exact (by decide:([]:List (Int×Int)).length<1000)
theorem QX {l:List (Int×Int)} (h:uN l):kZ l []=false:=by
 unfold kZ
 rw [sH (fun j a1 a2=> ?_)]
 ·rfl
 ·simp only [List.length_nil,Nat.add_zero,Nat.zero_add] at a2
  have hj:=h.srt.rng j a2
  obtain ⟨k,h1,h2,h3,h4,h5⟩:=OH h.srt (by omega) (by omega) (l.getD j default).1 1 (by omega) (by omega)
  have hk:k=j:=by
   by_cases hlt:k<j
   ·have:=h5 k (Nat.le_refl _) (by omega)
    have:=h.srt.lt hlt a2
    omega
   ·by_cases hgt:j<k
    ·have:=h4 j hgt; omega
    ·omega
  subst hk
  have hn:AQ [] (l.getD k default).1 1=some (0,1):=rfl
  have hc:nO l [] k=false:=by
   unfold nO
   rw [List.append_nil,h3,hn]
   simp only [Option.getD_some,Int.zero_mul,Int.mul_one]
   have:0<=(BF l (l.getD k default).1 1 k).1/\(BF l (l.getD k default).1 1 k).1<10000000000:=by
    unfold BF
    rw [if_neg (by omega)]
    have hy:=h.yr k a2
    by_cases hk0:k=0
    ·subst hk0; rw [if_pos rfl]; simp only; omega
    ·rw [if_neg hk0,if_neg (by omega)]
     have hx2:=h.srt.rng (k - 1) (by omega)
     have hy2:=h.yr (k - 1) (by omega)
     have hi:=h.srt.inc k (by omega) a2
     have hyi:=h.Jl k (by omega) a2
     generalize (l.getD k default).1=x1 at*
     generalize (l.getD (k - 1) default).1=x0 at*
     generalize (l.getD k default).2=y1 at*
     generalize (l.getD (k - 1) default).2=y0 at*
     have e1:IntKind.i64.wrap (x1 - x0)=x1 - x0:=IntWalk.i64_in _ ⟨by omega,by omega⟩
     have e2:IntKind.i64.wrap (x0*1)=x0:=by rw [Int.mul_one]; exact IntWalk.i64_in _ ⟨by omega,by omega⟩
     have e3:IntKind.i64.wrap ((x1 - x0)*1)=x1 - x0:=by rw [Int.mul_one,e1]
     have e4:IntKind.i64.wrap (y1 - y0)=y1 - y0:=IntWalk.i64_in _ ⟨by omega,by omega⟩
     simp only [e1,e2,e3,e4]
     have b1:0<=y0*(x1 - x0):=Int.mul_nonneg (by omega) (by omega)
     have b2:y0*(x1 - x0)<=1000*(x1 - x0):=Int.mul_le_mul_of_nonneg_right (by omega) (by omega)
     have b3:0<=(y1 - y0)*(x1 - x0):=Int.mul_nonneg (by omega) (by omega)
     have b4:(y1 - y0)*(x1 - x0)<=1000*(x1 - x0):=Int.mul_le_mul_of_nonneg_right (by omega) (by omega)
     have e5:IntKind.i64.wrap (y0*(x1 - x0))=y0*(x1 - x0):=IntWalk.i64_in _ ⟨by omega,by omega⟩
     have e6:IntKind.i64.wrap ((y1 - y0)*(x1 - x0))=(y1 - y0)*(x1 - x0):=IntWalk.i64_in _ ⟨by omega,by omega⟩
     rw [e5,e6]
     have e7:IntKind.i64.wrap (y0*(x1 - x0)+(y1 - y0)*(x1 - x0))=y0*(x1 - x0)+(y1 - y0)*(x1 - x0):=IntWalk.i64_in _ ⟨by omega,by omega⟩
     rw [e7]; omega
   generalize (BF l (l.getD k default).1 1 k).1=z at this
   have ez:IntKind.i64.wrap z=z:=IntWalk.i64_in _ ⟨by omega,by omega⟩
   have e0:IntKind.i64.wrap 0=0:=by decide
   rw [ez,e0]
   simp; omega
  simp only [hc,Bool.false_eq_true,if_false]
theorem alF (L:List (List (Int×Int))) (hn:L.length<1000) (hL:∀ x∈L,x.length<1000):aS (Ag L) 1000000000 ([],0)=some ((dQ (Az L) 0 L.length).getD (0,0)):=by
 have h:=wC L.length (Ag L) (fun i=>(if i=0 then [] else L.getD (i - 1) default,(i:Int))) (Az L) (some (0,0)) (by omega)
  (fun i hi hj=>by
   have ahl:uU (if i=0 then [] else L.getD (i - 1) default) 200 3000:=by
    split
    ·exact VE
    ·exact (sZ (Bq (hj (i - 1) (by omega)))).srt
   simp only [Ag,lS hi,if_true,if_pos (jJ hi),Int.toNat_natCast,wS i (by omega),aoJ _ _ ahl (Af hL i),aP]
   unfold Az
   by_cases h0:gu (L.getD i default)=0
   ·simp only [h0,if_true]
    by_cases hi0:i=0
    ·subst hi0
     simp only [if_true,QX (sZ h0),Bool.false_eq_true,if_false,bne_self_eq_false,Nat.lt_irrefl,false_and]
     rfl
    ·have hpos:0<i:=by omega
     simp only [hi0,if_false,hpos,true_and]
     by_cases hb:kZ (L.getD i default) (L.getD (i - 1) default)=true
     ·simp [hb,-List.getD_eq_getElem?_getD]
     ·simp [hb,-List.getD_eq_getElem?_getD]
   ·simp [h0,-List.getD_eq_getElem?_getD])
  (fun _=>by simp [Ag])
 have h0:aS (Ag L) 1000000000 ([],0)=_:=h
 rw [h0]
 cases dQ (Az L) 0 L.length<;>rfl
theorem alE (L:List (List (Int×Int))) (hn:L.length<1000) (hL:∀ x∈L,x.length<1000):aS (ql L) 1000000000 0=some ((dQ (Az L) 0 L.length).getD (0,0)):=by
 have h:=wC L.length (ql L) (fun i=>(i:Int)) (Az L) (some (0,0)) (by omega)
  (fun i hi hj=>by
   simp only [ql,lS hi,if_true,if_pos (jJ hi),Int.toNat_natCast,wS i (by omega),wP i (by omega),wPn,aol,aP]
   unfold Az
   by_cases h0:gu (L.getD i default)=0
   ·simp only [h0,if_true,bne_self_eq_false,Bool.false_eq_true,if_false]
    rw [aok _ _ (Af hL i) (Af hL (i - 1))]
    simp only [Option.isSome_some,implies_true,if_true,Option.getD_some,jJ hi,and_self,decide_true]
    by_cases hi0:i=0
    ·subst hi0
     simp
    ·have hpos:0<i:=by omega
     have e1:(decide ((i:Int)>0))=true:=by simp; omega
     rw [if_pos (fun _=>rgP hi hpos)]
     simp only [e1,Bool.true_and,hpos,true_and]
     by_cases hb:kZ (L.getD i default) (L.getD (i - 1) default)=true
     ·simp [hb,-List.getD_eq_getElem?_getD]
     ·simp [hb,-List.getD_eq_getElem?_getD]
   ·simp [h0,-List.getD_eq_getElem?_getD])
  (fun _=>by simp [ql])
 have h0:aS (ql L) 1000000000 0=_:=h
 rw [h0]
 cases dQ (Az L) 0 L.length<;>rfl
theorem p24 (a b:Int) (T:List (Int×Int)) (L:List (List (Int×Int))) (hn:L.length<1000) (hL:∀ x∈L,x.length<1000):r99 a b T L=some (bI a b T L):=by
 unfold r99 bI
 rw [p90,Option.bind_some,p90,gS,Option.getD_some]
 have hor:((!(dW a 1 12)) || (!(dW b 0 500)))= !(dW a 1 12 && dW b 0 500):=by rw [Bool.not_and]
 rcases Bool.eq_false_or_eq_true (dW a 1 12 && dW b 0 500) with h | h
 ·rw [if_neg (show ¬ (!(dW a 1 12) || !(dW b 0 500))=true by rw [hor,h]; decide),if_pos h,p99]
  by_cases h2:T.length<2
  ·simp [h2]
  ·rw [if_neg h2,if_neg h2]
   by_cases h8:8<T.length
   ·simp [h8]
   ·rw [if_neg h8,if_neg h8]
    cases hs:dQ (Dl T) 0 T.length with
    | some v=>
     obtain ⟨j,_,_,hj⟩:=fE hs
     have:=Ko hj
     rw [DL,Option.bind_some,if_pos (by simpa using this)]
    | none=>
     rw [xq,Option.bind_some,if_neg (by decide),alF L hn hL]
     by_cases h4:4<L.length
     ·have:(decide ((L.length:Int)>4))=true:=by simp; omega
      rw [if_pos this,if_pos h4]
     ·have:¬ (decide ((L.length:Int)>4))=true:=by simp; omega
      rw [if_neg this,if_neg h4]
 ·rw [if_pos (show (!(dW a 1 12) || !(dW b 0 500))=true by rw [hor,h]; decide),if_neg (by rw [h]; decide)]
theorem p26 (a b:Int) (T:List (Int×Int)) (L:List (List (Int×Int))) (hn:L.length<1000) (hL:∀ x∈L,x.length<1000):ac9 a b T L=some (bI a b T L):=by
 unfold ac9 bI
 rw [p59,Option.bind_some,p59,gS,Option.getD_some]
 have hor:((!(dW a 1 12)) || (!(dW b 0 500)))= !(dW a 1 12 && dW b 0 500):=by rw [Bool.not_and]
 rcases Bool.eq_false_or_eq_true (dW a 1 12 && dW b 0 500) with h | h
 ·rw [if_neg (show ¬ (!(dW a 1 12) || !(dW b 0 500))=true by rw [hor,h]; decide),if_pos h]
  by_cases h2:T.length<2
  ·have:(decide ((T.length:Int)<2))=true:=by simp; omega
   rw [if_pos this,if_pos h2]
  ·have:¬ (decide ((T.length:Int)<2))=true:=by simp; omega
   rw [if_neg this,if_neg h2]
   by_cases h8:8<T.length
   ·have:(decide ((T.length:Int)>8))=true:=by simp; omega
    rw [if_pos this,if_pos h8]
   ·have:¬ (decide ((T.length:Int)>8))=true:=by simp; omega
    rw [if_neg this,if_neg h8,alD T L (by omega)]
    cases hs:dQ (Dl T) 0 T.length with
    | some v=>rfl
    | none=>
     rw [xq,alE L hn hL]
     by_cases h4:4<L.length
     ·have:(decide ((L.length:Int)>4))=true:=by simp; omega
      rw [if_pos this,if_pos h4]
     ·have:¬ (decide ((L.length:Int)>4))=true:=by simp; omega
      rw [if_neg this,if_neg h4]
 ·rw [if_pos (show (!(dW a 1 12) || !(dW b 0 500))=true by rw [hor,h]; decide),if_neg (by rw [h]; decide)]
structure iI (a b:Int) (T:List (Int×Int)) (L:List (List (Int×Int))):Prop where
 cells:1<=a/\a<=12
 mix:0<=b/\b<=500
 Xd:2<=T.length/\T.length<=8
 srt:uU T 0 1000000
 yr:∀ i,i<T.length->200<=(T.getD i default).2/\(T.getD i default).2<=3000
 Jl:∀ i,0<i->i<T.length->(T.getD (i - 1) default).2<(T.getD i default).2/\(T.getD i default).2 - (T.getD (i - 1) default).2<=(T.getD i default).1 - (T.getD (i - 1) default).1
 llen:L.length<=4
 laws:∀ i,i<L.length->uN (L.getD i default)
 below:∀ i,0<i->i<L.length->kZ (L.getD i default) (L.getD (i - 1) default)=false
theorem oq {a b:Int} {T:List (Int×Int)} {L:List (List (Int×Int))} (h:(bI a b T L).2=0):iI a b T L:=by
 unfold bI at h
 split at h
 ·rename_i hc
  rw [Bool.and_eq_true,gU,gU] at hc
  split at h
  ·cases h
  ·rename_i h2
   split at h
   ·cases h
   ·rename_i h8
    split at h
    ·rename_i v hs
     obtain ⟨j,_,_,hj⟩:=fE hs
     exact absurd h (Ko hj)
    ·rename_i hs
     split at h
     ·cases h
     ·rename_i h4
      cases hs2:dQ (Az L) 0 L.length with
      | some v=>
       obtain ⟨j,_,_,hj⟩:=fE hs2
       rw [hs2] at h
       exact absurd h (Zh hj)
      | none=>
       have hT:∀ i,i<T.length->Dl T i=none:=fun i hi=>iM hs i (by omega) (by omega)
       have hr:∀ i,i<T.length->(0<=(T.getD i default).1/\(T.getD i default).1<=1000000)/\200<=(T.getD i default).2/\(T.getD i default).2<=3000:=by
        intro i hi
        have:=hT i hi
        unfold Dl at this
        split at this
        ·rename_i hc
         rw [Bool.and_eq_true,gU,gU] at hc; exact hc
        ·cases this
       have hd:∀ i,0<i->i<T.length->(T.getD (i - 1) default).1<(T.getD i default).1/\(T.getD (i - 1) default).2<(T.getD i default).2/\(T.getD i default).2 - (T.getD (i - 1) default).2<=(T.getD i default).1 - (T.getD (i - 1) default).1:=by
        intro i h0 hi
        have:=hT i hi
        unfold Dl at this
        have a1:=hr i hi
        have a2:=hr (i - 1) (by omega)
        have ex:dX T i=(T.getD i default).1 - (T.getD (i - 1) default).1:=IntWalk.i64_in _ ⟨by omega,by omega⟩
        have ey:dY T i=(T.getD i default).2 - (T.getD (i - 1) default).2:=IntWalk.i64_in _ ⟨by omega,by omega⟩
        rw [ex,ey] at this
        split at this
        ·rw [if_neg (by omega)] at this
         split at this
         ·rename_i hc
          split at this
          ·rename_i hc2; omega
          ·cases this
         ·cases this
        ·cases this
       have hS:∀ i,i<L.length->Az L i=none:=fun i hi=>iM hs2 i (by omega) (by omega)
       refine ⟨hc.1,hc.2,⟨by omega,by omega⟩,⟨by omega,fun i hi=>(hr i hi).1,fun i h0 hi=>(hd i h0 hi).1⟩,fun i hi=>(hr i hi).2,fun i h0 hi=>(hd i h0 hi).2,by omega,fun i hi=>sZ (Bq (hS i hi)),fun i h0 hi=> ?_⟩
       have:=hS i hi
       unfold Az at this
       rw [if_pos (Bq (hS i hi))] at this
       split at this
       ·cases this
       ·rename_i hn
        have:¬ kZ (L.getD i default) (L.getD (i - 1) default)=true:=fun hb=>hn ⟨h0,hb⟩
        simpa using this
 ·cases h
end Go.Proofs.YtkbdjphdhcgmaaaGreatDoor
namespace Go.Proofs.YtkbdjphdhcgmaaaGreatDoor
open Go.dR
theorem p18 (a b:Int) (T:List (Int×Int)) (L:List (List (Int×Int))) (hT:T.length<1000) (hn:L.length<1000) (hL:∀ x∈L,x.length<1000):r24 a b T L=some (a,b,T,L):=by
 unfold r24
 rw [if_pos ⟨by omega,by omega⟩]
 refine jO L.length (IB a b T L) (fun i=>((i:Int),L.take i)) _ (by omega) ?_ ?_
 ·intro i hi
  have hlen:(L.take i).length=i:=by simp; omega
  have h2:=Af hL i
  simp only [IB,lS hi,if_true,if_pos (jJ hi),Int.toNat_natCast,wS i (by omega),hlen]
  rw [if_pos ⟨by omega,by omega⟩,if_pos ⟨by omega,by omega⟩,sF L i hi]
  rfl
 ·simp [IB]
theorem agI (a b:Int) (T:List (Int×Int)) (L:List (List (Int×Int))) (hT:T.length<1000) (hn:L.length<1000) (hL:∀ x∈L,x.length<1000) :
 L6 a b T L=some (if (bI a b T L).2=0 then (a,b,T,L,T,L,0) else (0,0,[],[],[],[],(bI a b T L).2)):=by
 unfold L6
 rw [p24 a b T L hn hL,Option.bind_some]
 by_cases h:(bI a b T L).2=0
 ·rw [if_neg (by simpa using h),if_pos h,alI T (by omega),Option.bind_some]
  refine jO L.length (zH a b T L T) (fun i=>((i:Int),L.take i)) _ (by omega) ?_ ?_
  ·intro i hi
   have hlen:(L.take i).length=i:=by simp; omega
   have h2:=Af hL i
   simp only [zH,lS hi,if_true,if_pos (jJ hi),Int.toNat_natCast,wS i (by omega),hlen,agD _ (show (L.getD i default).length<1000000 by omega),aP]
   rw [if_pos ⟨by omega,by omega⟩,sF L i hi]
   rfl
  ·simp [zH]
 ·rw [if_pos (by simpa using h),if_neg h]
def inT (T:List (Int×Int)) (e:Int):Bool:=dW e (T.getD 0 default).1 (T.getD (T.length - 1) default).1
theorem agF (a b:Int) (T:List (Int×Int)) (L:List (List (Int×Int))) (T2:List (Int×Int)) (L2:List (List (Int×Int))) (e:Int) (h:0<T2.length) (h2:T2.length<1000):P9 a b T L T2 L2 e=some (inT T2 e):=by
 unfold P9
 rw [wP T2.length (by omega),wPn,if_pos ⟨by omega,by omega⟩,if_pos ⟨by omega,by omega⟩,p90,Option.bind_some]
 rfl
def stF (T:List (Int×Int)) (s:List Int) (i:Nat):Option (Int×Int):=if inT T (s.getD i default)=true then none else some ((i:Int),2)
def dw (a:Int) (T:List (Int×Int)) (s:List Int):Int×Int:=if (s.length:Int)=a then (dQ (stF T s) 0 s.length).getD (0,0) else (0,10)
def idF (T:List (Int×Int)) (s:List Int) (i:Nat):Option Int:=if inT T (s.getD i default)=true then none else some (i:Int)
theorem agH (a b:Int) (T:List (Int×Int)) (L:List (List (Int×Int))) (T2:List (Int×Int)) (L2:List (List (Int×Int))) (s:List Int) (h:0<T2.length) (h2:T2.length<1000) (hs:s.length<1000000):Qa a b T L T2 L2 s=some (dw a T2 s):=by
 unfold Qa dw
 by_cases ha:(s.length:Int)=a
 ·rw [if_neg (by simpa using ha),if_pos ha]
  have hq:aeZ s a b T L T2 L2=orE (dQ (idF T2 s) 0 s.length) (some (-1)):=by
   refine gQ s.length (zB s a b T L T2 L2) _ _ (by omega) ?_ ?_
   ·intro i hi
    simp only [zB,lS hi,if_true,if_pos (jJ hi),Int.toNat_natCast,wS i (by omega),aeY,agF a b T L T2 L2 _ h h2,Option.bind_some,aP,idF]
    generalize inT T2 (s.getD i default)=q
    cases q<;>simp
   ·simp [zB]
  rw [hq]
  have hm:∀ k i,dQ (stF T2 s) i k=(dQ (idF T2 s) i k).map fun v=>(v,2):=by
   intro k
   induction k with
   | zero=>intro i; rfl
   | succ k ih=>
    intro i
    simp only [dQ,stF,idF]
    split<;>simp_all [stF,idF]
  rw [hm]
  cases hv:dQ (idF T2 s) 0 s.length with
  | none=>rfl
  | some v=>
   obtain ⟨j,_,_,hj⟩:=fE hv
   have:0<=v:=by
    unfold idF at hj
    split at hj
    ·cases hj
    ·injection hj with hj; omega
   rw [DL,Option.bind_some,if_pos (decide_eq_true this)]; rfl
 ·rw [if_pos (by simpa using ha),if_neg ha]
theorem iI.tpos {a b:Int} {T:List (Int×Int)} {L:List (List (Int×Int))} (h:iI a b T L):0<T.length:=by have:=h.Xd; omega
theorem iI.tlt {a b:Int} {T:List (Int×Int)} {L:List (List (Int×Int))} (h:iI a b T L):T.length<1000:=by have:=h.Xd; omega
theorem p56 (a b:Int) (T:List (Int×Int)) (L:List (List (Int×Int))) (e:Int) (h:0<T.length) (h2:T.length<1000):acO a b T L e=some (inT T e):=by
 unfold acO
 rw [wP T.length (by omega),wPn,if_pos ⟨by omega,by omega⟩,if_pos ⟨by omega,by omega⟩,p59,Option.bind_some]
 rfl
theorem p27 (a b:Int) (T:List (Int×Int)) (L:List (List (Int×Int))) (s:List Int) (h:0<T.length) (h2:T.length<1000) (hs:s.length<1000000):aas a b T L s=some (dw a T s):=by
 unfold aas dw
 by_cases ha:(s.length:Int)=a
 ·rw [if_neg (by simpa using ha),if_pos ha]
  have hq:aS (tZ a b T L s) 1000000000 0=orE (dQ (stF T s) 0 s.length) (some (0,0)):=by
   refine gQ s.length (tZ a b T L s) _ _ (by omega) ?_ ?_
   ·intro i hi
    simp only [tZ,lS hi,if_true,if_pos (jJ hi),Int.toNat_natCast,wS i (by omega),p56 a b T L _ h h2,aP,stF]
    generalize inT T (s.getD i default)=q
    cases q<;>simp
   ·simp [tZ]
  rw [hq]
  cases dQ (stF T s) 0 s.length<;>rfl
 ·rw [if_pos (by simpa using ha),if_neg ha]
end Go.Proofs.YtkbdjphdhcgmaaaGreatDoor
namespace Go.Proofs.YtkbdjphdhcgmaaaGreatDoor
open Go.dR
theorem MC {x y X Y:Int} (h1:0<=x) (h2:x<=X) (h3:0<=y) (h4:y<=Y):0<=x*y/\x*y<=X*Y:=
 ⟨Int.mul_nonneg h1 h3,Int.le_trans (Int.mul_le_mul_of_nonneg_right h2 h3) (Int.mul_le_mul_of_nonneg_left h4 (by omega))⟩
structure At (v:Rat) (A B Bm Y:Int):Prop where
 pos:0<B
 le:B<=Bm
 num:0<=A/\A<=Y*B
 eq:(A:Rat)=v*B
structure Poly (l:List (Int×Int)) (a b:Int):Prop where
 srt:uU l a b
 yr:∀ i,i<l.length->0<=(l.getD i default).2/\(l.getD i default).2<=3000
 Jl:∀ i,0<i->i<l.length->(l.getD (i - 1) default).2<=(l.getD i default).2
theorem Dx {l:List (Int×Int)} {a b:Int} (h:Poly l a b) (ha:0<=a) (hb:b<=1000000) (n d:Int) (hd:0<d) (hd2:d<=1000000) :
 ∃ A B,AO l n d=some (A,B)/\AQ l n d=some (A,B)/\At (pl l ((n:Rat) / d)) A B (1000000*d) 3000:=by
 obtain ⟨k,hk,h1,h2,h3,h4⟩:=OH h.srt ha hb n d hd hd2
 have d0:(0:Rat)<d:=Rat.intCast_pos.2 hd
 have hv:=DF l ((n:Rat) / d) k hk
  (fun i hi=>by rw [Rat.lt_div_iff d0, <- Rat.intCast_mul]; exact Rat.intCast_lt_intCast.2 (h3 i hi))
  (fun i hi hil=>by rw [<- Rat.not_lt,Rat.lt_div_iff d0, <- Rat.intCast_mul,Rat.not_lt]; exact Rat.intCast_le_intCast.2 (h4 i hi hil))
 rw [h1,h2,hv]
 refine ⟨(BF l n d k).1,(BF l n d k).2,rfl,rfl,?_⟩
 unfold BF Tt
 have hone:(1:Int)<=1000000*d:=by omega
 by_cases h0:l.length=0
 ·rw [if_pos h0,if_pos h0]
  exact ⟨Int.one_pos,hone,⟨by decide,by decide⟩,by simp⟩
 ·rw [if_neg h0,if_neg h0]
  by_cases hk0:k=0
  ·rw [if_pos hk0,if_pos hk0]
   have:=h.yr 0 (by omega)
   exact ⟨Int.one_pos,hone,⟨this.1,by simpa using this.2⟩,by simp⟩
  ·rw [if_neg hk0,if_neg hk0]
   by_cases hkl:k=l.length
   ·rw [if_pos hkl,if_pos hkl]
    have:=h.yr (k - 1) (by omega)
    exact ⟨Int.one_pos,hone,⟨this.1,by simpa using this.2⟩,by simp⟩
   ·rw [if_neg hkl,if_neg hkl]
    have a1:=h.srt.rng k (by omega)
    have a2:=h.srt.rng (k - 1) (by omega)
    have a3:=h.srt.inc k (by omega) (by omega)
    have a4:=h.yr k (by omega)
    have a5:=h.yr (k - 1) (by omega)
    have a6:=h.Jl k (by omega) (by omega)
    have a7:=h3 (k - 1) (by omega)
    have a8:=h4 k (by omega) (by omega)
    generalize (l.getD k default).1=x1 at*
    generalize (l.getD (k - 1) default).1=x0 at*
    generalize (l.getD k default).2=y1 at*
    generalize (l.getD (k - 1) default).2=y0 at*
    have w0:IntKind.i64.wrap (x1 - x0)=x1 - x0:=IntWalk.i64_in _ ⟨by omega,by omega⟩
    have w1:IntKind.i64.wrap (y1 - y0)=y1 - y0:=IntWalk.i64_in _ ⟨by omega,by omega⟩
    obtain ⟨w2,r1,r2⟩:=Mc (x:=x1 - x0) (d:=d) (by omega) (by omega) hd hd2
    obtain ⟨w3,r3,r4⟩:=Mc (x:=x0) (d:=d) (by omega) (by omega) hd hd2
    have e1:(x1 - x0)*d=x1*d - x0*d:=Int.sub_mul _ _ _
    have e2:(x1 - x0)*d<=1000000*d:=Int.mul_le_mul_of_nonneg_right (by omega) (by omega)
    have e3:0<(x1 - x0)*d:=Int.mul_pos (by omega) hd
    have w4:IntKind.i64.wrap (n - x0*d)=n - x0*d:=IntWalk.i64_in _ ⟨by omega,by omega⟩
    obtain ⟨m1,m2⟩:=MC (x:=y0) (y:=(x1 - x0)*d) (X:=3000) (Y:=1000000*1000000) (by omega) (by omega) (by omega) (by omega)
    obtain ⟨m3,m4⟩:=MC (x:=y1 - y0) (y:=n - x0*d) (X:=3000) (Y:=1000000*1000000) (by omega) (by omega) (by omega) (by omega)
    have m5:(y1 - y0)*(n - x0*d)<=(y1 - y0)*((x1 - x0)*d):=Int.mul_le_mul_of_nonneg_left (by omega) (by omega)
    have m6:y1*((x1 - x0)*d)<=3000*((x1 - x0)*d):=Int.mul_le_mul_of_nonneg_right (by omega) (by omega)
    have m7:(y1 - y0)*((x1 - x0)*d)=y1*((x1 - x0)*d) - y0*((x1 - x0)*d):=Int.sub_mul _ _ _
    rw [w0,w1,w2,w3,w4]
    have w5:IntKind.i64.wrap (y0*((x1 - x0)*d))=y0*((x1 - x0)*d):=IntWalk.i64_in _ ⟨by omega,by omega⟩
    have w6:IntKind.i64.wrap ((y1 - y0)*(n - x0*d))=(y1 - y0)*(n - x0*d):=IntWalk.i64_in _ ⟨by omega,by omega⟩
    rw [w5,w6]
    have w7:IntKind.i64.wrap (y0*((x1 - x0)*d)+(y1 - y0)*(n - x0*d))=y0*((x1 - x0)*d)+(y1 - y0)*(n - x0*d):=IntWalk.i64_in _ ⟨by omega,by omega⟩
    rw [w7]
    refine ⟨e3,e2,⟨by omega,by omega⟩,?_⟩
    simp only [Rat.intCast_add,Rat.intCast_mul,Rat.intCast_sub]
    have hx:(0:Rat)<(x1:Rat) - x0:=by have:=Rat.intCast_lt_intCast.2 a3; grind
    have f1:((y1:Rat) - y0) / ((x1:Rat) - x0)*((x1:Rat) - x0)=(y1:Rat) - y0:=Rat.div_mul_cancel (by grind)
    have f2:(n:Rat) / d*d=n:=Rat.div_mul_cancel (by grind)
    generalize ((y1:Rat) - y0) / ((x1:Rat) - x0)=s at*
    generalize hz:(n:Rat) / d=z at*
    have f3:(s*(z - x0))*(((x1:Rat) - x0)*d)=(s*((x1:Rat) - x0))*(z*d - x0*d):=by grind
    rw [Rat.add_mul,f3,f1,f2]
theorem uN.poly {l:List (Int×Int)} (h:uN l):Poly l 200 3000:=⟨h.srt,fun i hi=>by have:=h.yr i hi; omega,fun i h0 hi=>(h.Jl i h0 hi).1⟩
theorem iI.poly {a b:Int} {T:List (Int×Int)} {L:List (List (Int×Int))} (h:iI a b T L):Poly T 0 1000000:=⟨h.srt,fun i hi=>by have:=h.yr i hi; omega,fun i h0 hi=>by have:=h.Jl i h0 hi; omega⟩
theorem Ru {c:Rat}:∀ l:List (Int×Int),(∀ i,0<i->i<l.length->(l.getD (i - 1) default).1<(l.getD i default).1/\(l.getD (i - 1) default).2<=(l.getD i default).2/\(((l.getD i default).2:Rat) - (l.getD (i - 1) default).2<=c*(((l.getD i default).1:Rat) - (l.getD (i - 1) default).1)))->Asc c l
 | [],_=>trivial
 | [p],_=>trivial
 | p::q::r,h=>by
  have h1:=h 1 (by omega) (by simp)
  refine ⟨h1.1,h1.2.1,h1.2.2,Ru (q::r) fun i h0 hi=> ?_⟩
  obtain ⟨m,rfl⟩:∃ m,i=m+1:=⟨i - 1,by omega⟩
  have:=h (m+2) (by omega) (by simp at hi ⊢; omega)
  simpa using this
theorem iI.asc {a b:Int} {T:List (Int×Int)} {L:List (List (Int×Int))} (h:iI a b T L):Asc 1 T:=by
 refine Ru T fun i h0 hi=>⟨h.srt.inc i h0 hi,by have:=(h.Jl i h0 hi).1; omega,?_⟩
 have:=Rat.intCast_le_intCast.2 (h.Jl i h0 hi).2
 rw [Rat.intCast_sub,Rat.intCast_sub] at this; grind
theorem uN.asc {l:List (Int×Int)} (h:uN l):Asc (1 / 2) l:=by
 refine Ru l fun i h0 hi=>⟨h.srt.inc i h0 hi,(h.Jl i h0 hi).1,?_⟩
 have:=Rat.intCast_le_intCast.2 (h.Jl i h0 hi).2
 rw [Rat.intCast_mul,Rat.intCast_sub,Rat.intCast_sub] at this
 have e2:((2:Int):Rat)=2:=rfl
 grind
theorem pW {α:Type} [Inhabited α] {l:List α} {x:α} (h:x∈l):∃ i,i<l.length/\l.getD i default=x:=by
 obtain ⟨i,hi,rfl⟩:=List.mem_iff_getElem.1 h
 exact ⟨i,hi,by simp [List.getD_eq_getElem?_getD,hi]⟩
theorem uN.yr' {l:List (Int×Int)} (h:uN l):∀ p∈l,0<=p.2/\p.2<=1000:=fun p hp=>by
 obtain ⟨i,hi,rfl⟩:=pW hp
 exact h.yr i hi
theorem adp {l m:List (Int×Int)} (hl:uN l) (hm:uN m) (h:kZ l m=false):∀ x:Rat,pl m x<=pl l x:=by
 refine order hm.asc hl.asc fun p hp=> ?_
 have hp':p∈l++m:=by
  rcases List.mem_append.1 hp with h | h
  ·exact List.mem_append_right _ h
  ·exact List.mem_append_left _ h
 obtain ⟨i,hi,rfl⟩:=pW hp'
 unfold kZ at h
 have hn:dQ (fun i=>if nO l m i=true then some true else none) 0 (l.length+m.length)=none:=by
  cases hs:dQ (fun i=>if nO l m i=true then some true else none) 0 (l.length+m.length) with
  | none=>rfl
  | some v=>
   rw [hs] at h
   obtain ⟨j,_,_,hj⟩:=fE hs
   split at hj
   ·cases hj; cases h
   ·cases hj
 have:=iM hn i (by omega) (by simpa using hi)
 have hc:¬ nO l m i=true:=by intro hc; rw [if_pos hc] at this; cases this
 unfold nO at hc
 generalize (l++m).getD i default=p at*
 obtain ⟨A,B,_,e1,P⟩:=Dx hl.poly (by decide) (by decide) p.1 1 (by decide) (by decide)
 obtain ⟨C,D,_,e2,Q⟩:=Dx hm.poly (by decide) (by decide) p.1 1 (by decide) (by decide)
 have e3:(p.1:Rat) / ((1:Int):Rat)=p.1:=by
  have:((1:Int):Rat)=1:=rfl
  rw [this]; grind
 rw [e3] at P Q
 rw [e1,e2] at hc
 simp only [Option.getD_some,decide_eq_true_eq] at hc
 have p1:=P.pos; have p2:=P.le; have p3:=P.num
 have q1:=Q.pos; have q2:=Q.le; have q3:=Q.num
 obtain ⟨m1,m2⟩:=MC (x:=A) (y:=D) (X:=3000*1000000) (Y:=1000000) (by omega) (by omega) (by omega) (by omega)
 obtain ⟨m3,m4⟩:=MC (x:=C) (y:=B) (X:=3000*1000000) (Y:=1000000) (by omega) (by omega) (by omega) (by omega)
 rw [IntWalk.i64_in (A*D) ⟨by omega,by omega⟩,IntWalk.i64_in (C*B) ⟨by omega,by omega⟩] at hc
 have hle:C*B<=A*D:=by omega
 have hle':=Rat.intCast_le_intCast.2 hle
 rw [Rat.intCast_mul,Rat.intCast_mul,P.eq,Q.eq] at hle'
 have hB:(0:Rat)<B:=Rat.intCast_pos.2 p1
 have hD:(0:Rat)<D:=Rat.intCast_pos.2 q1
 refine Rat.le_of_mul_le_mul_right (c:=(B:Rat)*D) ?_ (Rat.mul_pos hB hD)
 grind
theorem iI.DT {a b : Int} {T : List (Int × Int)} {L : List (List (Int × Int))} (h : iI a b T L) : ∀ (i j : Nat), i <= j -> j < L.length -> ∀ x : Rat, pl (L.getD i default) x <= pl (L.getD j default) x
  | i, 0, h1, h2, x => by obtain rfl : i = 0 := by omega
                          exact Rat.le_refl
  | i, j + 1, h1, h2, x => by
    by_cases hij : i = j + 1
    · subst hij; exact Rat.le_refl
    · have a1 := h.DT i j (by omega) (by omega) x
      have a2 := adp (h.laws (j + 1) h2) (h.laws j (by omega)) (h.below (j + 1) (by omega) h2) x
      exact Rat.le_trans a1 a2
end Go.Proofs.YtkbdjphdhcgmaaaGreatDoor

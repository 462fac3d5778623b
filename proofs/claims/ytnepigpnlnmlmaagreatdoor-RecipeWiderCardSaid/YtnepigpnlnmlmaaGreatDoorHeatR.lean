/- Piecewise linear functions over the rationals: monotone, Lipschitz, compared at knots. -/
import Init
set_option linter.unusedVariables false
set_option linter.unusedSimpArgs false
namespace Go.Proofs.YtnepigpnlnmlmaaGreatDoor
def pl:List (Int×Int)->Rat->Rat
 | [],_=>0
 | [p],_=>(p.2:Rat)
 | p::q::r,x=>if x<=(p.1:Rat) then (p.2:Rat) else if x<=(q.1:Rat) then (p.2:Rat)+((q.2:Rat) - p.2) / ((q.1:Rat) - p.1)*(x - p.1) else pl (q::r) x
def Lm (l:List (Int×Int)) (x:Rat) (k:Nat):Rat:=
 if l.length=0 then 0
 else if k=0 then ((l.getD 0 default).2:Rat)
 else if k=l.length then ((l.getD (k - 1) default).2:Rat)
 else ((l.getD (k - 1) default).2:Rat)+(((l.getD k default).2:Rat) - (l.getD (k - 1) default).2) / (((l.getD k default).1:Rat) - (l.getD (k - 1) default).1)*(x - (l.getD (k - 1) default).1)
theorem MS:∀ (l:List (Int×Int)) (x:Rat) (k:Nat),k<=l.length->(∀ i,i<k->((l.getD i default).1:Rat)<x)->(∀ i,k<=i->i<l.length->x<=((l.getD i default).1:Rat))->pl l x=Lm l x k
 | [],x,k,h,h1,h2=>by simp [pl,Lm]
 | [p],x,k,h,h1,h2=>by
  unfold pl Lm
  simp only [List.length_cons,List.length_nil] at h ⊢
  by_cases hk:k=0
  ·simp [hk]
  ·have:k=1:=by omega
   simp [this]
 | p::q::r,x,k,h,h1,h2=>by
  unfold pl
  by_cases hk:k=0
  ·subst hk
   have:x<=(p.1:Rat):=h2 0 (by omega) (by simp)
   rw [if_pos this]; simp [Lm]
  have a1:(p.1:Rat)<x:=h1 0 (by omega)
  rw [if_neg (Rat.not_le.2 a1)]
  by_cases hk1:k=1
  ·subst hk1
   have:x<=(q.1:Rat):=h2 1 (by omega) (by simp)
   rw [if_pos this]; simp [Lm]
  have a2:(q.1:Rat)<x:=h1 1 (by omega)
  rw [if_neg (Rat.not_le.2 a2)]
  obtain ⟨m,rfl⟩:∃ m,k=m+2:=⟨k - 2,by omega⟩
  rw [MS (q::r) x (m+1) (by simp at h ⊢; omega) (λi hi=>h1 (i+1) (by omega)) (λi hi hl=>h2 (i+1) (by omega) (by simp at hl ⊢; omega))]
  unfold Lm
  simp [Nat.add_right_cancel_iff]
def Asc (c:Rat):List (Int×Int)->Prop
 | p::q::r=>p.1<q.1/\p.2<=q.2/\(q.2:Rat) - p.2<=c*((q.1:Rat) - p.1)/\Asc c (q::r)
 | _=>True
theorem PW (p:Int×Int) (r:List (Int×Int)) (x:Rat) (h:x<=(p.1:Rat)):pl (p::r) x=(p.2:Rat):=by
 cases r with
 | nil=>rfl
 | cons q r=>unfold pl; rw [if_pos h]
theorem Xc {c x0 x1 y0 y1:Rat} (hx:x0<x1) (h0:y0<=y1) (h1:y1 - y0<=c*(x1 - x0)):0<=(y1 - y0) / (x1 - x0)/\(y1 - y0) / (x1 - x0)<=c/\(y1 - y0) / (x1 - x0)*(x1 - x0)=y1 - y0:=by
 have hd:0<x1 - x0:=by grind
 have e:(y1 - y0) / (x1 - x0)*(x1 - x0)=y1 - y0:=Rat.div_mul_cancel (by grind)
 refine ⟨?_,?_,e⟩
 ·refine Rat.le_of_mul_le_mul_right (c:=x1 - x0) ?_ hd
  grind
 refine Rat.le_of_mul_le_mul_right (c:=x1 - x0) ?_ hd
 grind
theorem lip {c:Rat} (hc:0<=c):∀ (l:List (Int×Int)) (x y:Rat),Asc c l->x<=y->0<=pl l y - pl l x/\pl l y - pl l x<=c*(y - x)
 | [],x,y,_,h=>by
  have:=Rat.mul_nonneg hc (show 0<=y - x by grind)
  simp only [pl]; grind
 | [p],x,y,_,h=>by
  have:=Rat.mul_nonneg hc (show 0<=y - x by grind)
  simp only [pl]; grind
 | p::q::r,x,y,⟨a1,a2,a3,a4⟩,h=>by
  have b1:(p.1:Rat)<q.1:=Rat.intCast_lt_intCast.2 a1
  have b2:(p.2:Rat)<=q.2:=Rat.intCast_le_intCast.2 a2
  obtain ⟨s0,s1,s2⟩:=Xc b1 b2 a3
  generalize hs:((q.2:Rat) - p.2) / ((q.1:Rat) - p.1)=s at s0 s1 s2
  have aI1:=Rat.mul_nonneg hc (show 0<=y - x by grind)
  unfold pl
  rw [hs]
  by_cases y1:y<=(p.1:Rat)
  ·rw [if_pos y1,if_pos (Rat.le_trans h y1)]; grind
  rw [if_neg y1]
  have y1':=Rat.not_le.1 y1
  by_cases y2:y<=(q.1:Rat)
  ·rw [if_pos y2]
   by_cases x1:x<=(p.1:Rat)
   ·rw [if_pos x1]
    have e1:=Rat.mul_nonneg s0 (show 0<=y - p.1 by grind)
    have e2:=Rat.mul_nonneg (show 0<=c - s by grind) (show 0<=y - p.1 by grind)
    have e3:=Rat.mul_nonneg hc (show 0<=(p.1:Rat) - x by grind)
    grind
   rw [if_neg x1,if_pos (Rat.le_trans h y2)]
   have e1:=Rat.mul_nonneg s0 (show 0<=y - x by grind)
   have e2:=Rat.mul_nonneg (show 0<=c - s by grind) (show 0<=y - x by grind)
   grind
  rw [if_neg y2]
  have y2':=Rat.not_le.1 y2
  by_cases x2:x<=(q.1:Rat)
  ·obtain ⟨i1,i2⟩:=lip hc (q::r) q.1 y a4 (Rat.le_of_lt y2')
   rw [PW q r q.1 Rat.le_refl] at i1 i2
   by_cases x1:x<=(p.1:Rat)
   ·rw [if_pos x1]
    have e3:=Rat.mul_nonneg hc (show 0<=(p.1:Rat) - x by grind)
    grind
   rw [if_neg x1,if_pos x2]
   have e1:=Rat.mul_nonneg s0 (show 0<=q.1 - x by grind)
   have e2:=Rat.mul_nonneg (show 0<=c - s by grind) (show 0<=q.1 - x by grind)
   grind
  rw [if_neg x2,if_neg (show ¬ x<=(p.1:Rat) by have:=Rat.not_le.1 x2; grind)]
  exact lip hc (q::r) x y a4 h
theorem Ue {c:Rat} {u v:Int}:∀ (l:List (Int×Int)) (x:Rat),Asc c l->(∀ p∈l,u<=p.2/\p.2<=v)->l≠[]->(u:Rat)<=pl l x/\pl l x<=v
 | [],x,_,_,h=>absurd rfl h
 | [p],x,_,h,_=>by
  obtain ⟨h1,h2⟩:=h p (by simp)
  exact ⟨Rat.intCast_le_intCast.2 h1,Rat.intCast_le_intCast.2 h2⟩
 | p::q::r,x,⟨a1,a2,a3,a4⟩,h,_=>by
  have b1:(p.1:Rat)<q.1:=Rat.intCast_lt_intCast.2 a1
  have b2:(p.2:Rat)<=q.2:=Rat.intCast_le_intCast.2 a2
  obtain ⟨s0,s1,s2⟩:=Xc b1 b2 a3
  generalize hs:((q.2:Rat) - p.2) / ((q.1:Rat) - p.1)=s at s0 s1 s2
  have hp:=h p (by simp)
  have hq:=h q (by simp)
  have hp1:(u:Rat)<=p.2:=Rat.intCast_le_intCast.2 hp.1
  have hp2:(p.2:Rat)<=v:=Rat.intCast_le_intCast.2 hp.2
  have hq2:(q.2:Rat)<=v:=Rat.intCast_le_intCast.2 hq.2
  unfold pl
  rw [hs]
  by_cases x1:x<=(p.1:Rat)
  ·rw [if_pos x1]; exact ⟨hp1,hp2⟩
  rw [if_neg x1]
  have x1':=Rat.not_le.1 x1
  by_cases x2:x<=(q.1:Rat)
  ·rw [if_pos x2]
   have e1:=Rat.mul_nonneg s0 (show 0<=x - p.1 by grind)
   have e2:=Rat.mul_nonneg s0 (show 0<=q.1 - x by grind)
   grind
  rw [if_neg x2]
  exact Ue (q::r) x a4 (λp' hp'=>h p' (List.mem_cons_of_mem _ hp')) (by simp)
end Go.Proofs.YtnepigpnlnmlmaaGreatDoor
namespace Go.Proofs.YtnepigpnlnmlmaaGreatDoor
structure Piece (l:List (Int×Int)) (x s:Rat) (lo hi:Option Rat):Prop where
 ZC:∀ v,lo=some v->v<=x/\∃ p∈l,(p.1:Rat)=v
 hix:∀ v,hi=some v->x<=v/\∃ p∈l,(p.1:Rat)=v
 lin:∀ z,(∀ v,lo=some v->v<=z)->(∀ v,hi=some v->z<=v)->pl l z=pl l x+s*(z - x)
 lo0:lo=none->s=0
 hi0:hi=none->s=0
 any:l≠[]->lo≠none\/hi≠none
 head:∀ p r,l=p::r->(p.1:Rat)<x->∃ v,lo=some v/\(p.1:Rat)<=v
theorem piece {c:Rat}:∀ (l:List (Int×Int)) (x:Rat),Asc c l->∃ s lo hi,Piece l x s lo hi
 | [],x,_=>⟨0,none,none,by simp,by simp,λz _ _=>by simp only [pl]; grind,λ_=>rfl,λ_=>rfl,λh=>absurd rfl h,λp r h=>by cases h⟩
 | [p],x,_=>by
  by_cases h:x<=(p.1:Rat)
  ·exact ⟨0,none,some p.1,by simp,λv hv=>by cases hv; exact ⟨h,p,by simp,rfl⟩,λz _ _=>by simp only [pl]; grind,λ_=>rfl,λ_=>rfl,λ_=>by simp,λp' r hp hlt=>by cases hp; exact absurd h (Rat.not_le.2 hlt)⟩
  ·have h':=Rat.not_le.1 h
   exact ⟨0,some p.1,none,λv hv=>by cases hv; exact ⟨Rat.le_of_lt h',p,by simp,rfl⟩,by simp,λz _ _=>by simp only [pl]; grind,λ_=>rfl,λ_=>rfl,λ_=>by simp,λp' r hp hlt=>by cases hp; exact ⟨_,rfl,Rat.le_refl⟩⟩
 | p::q::r,x,⟨a1,a2,a3,a4⟩=>by
  have b1:(p.1:Rat)<q.1:=Rat.intCast_lt_intCast.2 a1
  have b2:(p.2:Rat)<=q.2:=Rat.intCast_le_intCast.2 a2
  by_cases x1:x<=(p.1:Rat)
  ·refine ⟨0,none,some p.1,by simp,λv hv=>by cases hv; exact ⟨x1,p,by simp,rfl⟩,λz _ hz=> ?_,λ_=>rfl,λ_=>rfl,λ_=>by simp,λp' r hp hlt=>by cases hp; exact absurd x1 (Rat.not_le.2 hlt)⟩
   rw [PW p _ z (hz _ rfl),PW p _ x x1]; grind
  have x1':=Rat.not_le.1 x1
  by_cases x2:x<=(q.1:Rat)
  ·obtain ⟨s0,s1,s2⟩:=Xc b1 b2 a3
   refine ⟨((q.2:Rat) - p.2) / ((q.1:Rat) - p.1),some p.1,some q.1,λv hv=>by cases hv; exact ⟨Rat.le_of_lt x1',p,by simp,rfl⟩,λv hv=>by cases hv; exact ⟨x2,q,by simp,rfl⟩,λz hz1 hz2=> ?_,by simp,by simp,λ_=>by simp,λp' r hp hlt=>by cases hp; exact ⟨_,rfl,Rat.le_refl⟩⟩
   have z1:=hz1 _ rfl
   have z2:=hz2 _ rfl
   generalize hs:((q.2:Rat) - p.2) / ((q.1:Rat) - p.1)=s at s0 s1 s2 ⊢
   have ex:pl (p::q::r) x=p.2+s*(x - p.1):=by unfold pl; rw [if_neg x1,if_pos x2,hs]
   have ez:pl (p::q::r) z=p.2+s*(z - p.1):=by
    by_cases hz:z<=(p.1:Rat)
    ·rw [PW _ _ _ hz]
     have:z=(p.1:Rat):=Rat.le_antisymm hz z1
     rw [this]; grind
    unfold pl; rw [if_neg hz,if_pos z2,hs]
   rw [ex,ez]; grind
  have x2':=Rat.not_le.1 x2
  obtain ⟨s,lo,hi,P⟩:=piece (q::r) x a4
  obtain ⟨v,hv,hqv⟩:=P.head q r rfl x2'
  have ex:pl (p::q::r) x=pl (q::r) x:=by
   conv=>lhs; unfold pl
   rw [if_neg x1,if_neg x2]
  refine ⟨s,lo,hi,λw hw=> ?_,λw hw=> ?_,λz hz1 hz2=> ?_,P.lo0,P.hi0,λ_=>P.any (by simp),λp' r' hp hlt=> ?_⟩
  ·obtain ⟨h1,p',h2,h3⟩:=P.ZC w hw
   exact ⟨h1,p',List.mem_cons_of_mem _ h2,h3⟩
  ·obtain ⟨h1,p',h2,h3⟩:=P.hix w hw
   exact ⟨h1,p',List.mem_cons_of_mem _ h2,h3⟩
  ·have hz:=hz1 v hv
   have:=P.lin z hz1 hz2
   rw [ex, <- this]
   by_cases hzq:z<=(q.1:Rat)
   ·have aDk:z=(q.1:Rat):=Rat.le_antisymm hzq (Rat.le_trans hqv hz)
    rw [aDk,PW q r _ Rat.le_refl]
    obtain ⟨s0,s1,s2⟩:=Xc b1 b2 a3
    unfold pl
    rw [if_neg (Rat.not_le.2 b1),if_pos Rat.le_refl,s2]; grind
   conv=>lhs; unfold pl
   rw [if_neg (show ¬ z<=(p.1:Rat) by have:=Rat.not_le.1 hzq; grind),if_neg hzq]
  cases hp
  exact ⟨v,hv,Rat.le_trans (Rat.le_of_lt b1) hqv⟩
theorem order {c d:Rat} {l m:List (Int×Int)} (hl:Asc c l) (hm:Asc d m) (h:∀ p∈l++m,pl l (p.1:Rat)<=pl m (p.1:Rat)) (x:Rat):pl l x<=pl m x:=by
 obtain ⟨s,lo,hi,P⟩:=piece l x hl
 obtain ⟨t,lo2,hi2,Q⟩:=piece m x hm
 have A:(s=0/\t=0)/\(lo=none/\lo2=none)\/∃ p,p<=x/\pl l p<=pl m p/\pl l p=pl l x+s*(p - x)/\pl m p=pl m x+t*(p - x):=by
  have key:∀ p:Rat,p<=x->(∃ k∈l++m,(k.1:Rat)=p)->(∀ v,lo=some v->v<=p)->(∀ v,lo2=some v->v<=p)->pl l p<=pl m p/\pl l p=pl l x+s*(p - x)/\pl m p=pl m x+t*(p - x):=by
   intro p hp ⟨k,hk,hkp⟩ h1 h2
   exact ⟨hkp▸h k hk,P.lin p h1 (λv hv=>Rat.le_trans hp (P.hix v hv).1),Q.lin p h2 (λv hv=>Rat.le_trans hp (Q.hix v hv).1)⟩
  have mem1:∀ v,lo=some v->∃ k∈l++m,(k.1:Rat)=v:=λv hv=>by
   obtain ⟨_,k,hk,e⟩:=P.ZC v hv; exact ⟨k,List.mem_append_left _ hk,e⟩
  have mem2:∀ v,lo2=some v->∃ k∈l++m,(k.1:Rat)=v:=λv hv=>by
   obtain ⟨_,k,hk,e⟩:=Q.ZC v hv; exact ⟨k,List.mem_append_right _ hk,e⟩
  cases h1:lo with
  | none=>
   cases h2:lo2 with
   | none=>exact Or.inl ⟨⟨P.lo0 h1,Q.lo0 h2⟩,rfl,rfl⟩
   | some v=>exact Or.inr ⟨v,(Q.ZC v h2).1,key v (Q.ZC v h2).1 (mem2 v h2) (by simp [h1]) (by simp [h2])⟩
  | some u=>
   cases h2:lo2 with
   | none=>exact Or.inr ⟨u,(P.ZC u h1).1,key u (P.ZC u h1).1 (mem1 u h1) (by simp [h1]) (by simp [h2])⟩
   | some v=>
    rcases Rat.le_total (a:=u) (b:=v) with huv | huv
    ·exact Or.inr ⟨v,(Q.ZC v h2).1,key v (Q.ZC v h2).1 (mem2 v h2) (by simp [h1,huv]) (by simp [h2])⟩
    exact Or.inr ⟨u,(P.ZC u h1).1,key u (P.ZC u h1).1 (mem1 u h1) (by simp [h1]) (by simp [h2,huv])⟩
 have B:(s=0/\t=0)/\(hi=none/\hi2=none)\/∃ p,x<=p/\pl l p<=pl m p/\pl l p=pl l x+s*(p - x)/\pl m p=pl m x+t*(p - x):=by
  have key:∀ p:Rat,x<=p->(∃ k∈l++m,(k.1:Rat)=p)->(∀ v,hi=some v->p<=v)->(∀ v,hi2=some v->p<=v)->pl l p<=pl m p/\pl l p=pl l x+s*(p - x)/\pl m p=pl m x+t*(p - x):=by
   intro p hp ⟨k,hk,hkp⟩ h1 h2
   exact ⟨hkp▸h k hk,P.lin p (λv hv=>Rat.le_trans (P.ZC v hv).1 hp) h1,Q.lin p (λv hv=>Rat.le_trans (Q.ZC v hv).1 hp) h2⟩
  have mem1:∀ v,hi=some v->∃ k∈l++m,(k.1:Rat)=v:=λv hv=>by
   obtain ⟨_,k,hk,e⟩:=P.hix v hv; exact ⟨k,List.mem_append_left _ hk,e⟩
  have mem2:∀ v,hi2=some v->∃ k∈l++m,(k.1:Rat)=v:=λv hv=>by
   obtain ⟨_,k,hk,e⟩:=Q.hix v hv; exact ⟨k,List.mem_append_right _ hk,e⟩
  cases h1:hi with
  | none=>
   cases h2:hi2 with
   | none=>exact Or.inl ⟨⟨P.hi0 h1,Q.hi0 h2⟩,rfl,rfl⟩
   | some v=>exact Or.inr ⟨v,(Q.hix v h2).1,key v (Q.hix v h2).1 (mem2 v h2) (by simp [h1]) (by simp [h2])⟩
  | some u=>
   cases h2:hi2 with
   | none=>exact Or.inr ⟨u,(P.hix u h1).1,key u (P.hix u h1).1 (mem1 u h1) (by simp [h1]) (by simp [h2])⟩
   | some v=>
    rcases Rat.le_total (a:=u) (b:=v) with huv | huv
    ·exact Or.inr ⟨u,(P.hix u h1).1,key u (P.hix u h1).1 (mem1 u h1) (by simp [h1]) (by simp [h2,huv])⟩
    exact Or.inr ⟨v,(Q.hix v h2).1,key v (Q.hix v h2).1 (mem2 v h2) (by simp [h1,huv]) (by simp [h2])⟩
 rcases A with ⟨⟨a1,a2⟩,a3,a4⟩ | ⟨p,p1,p2,p3,p4⟩
 ·rcases B with ⟨⟨b1,b2⟩,b3,b4⟩ | ⟨w,w1,w2,w3,w4⟩
  ·have hl0:l=[]:=by
    cases l with
    | nil=>rfl
    | cons k r=>rcases P.any (by simp) with hh | hh<;>contradiction
   have hm0:m=[]:=by
    cases m with
    | nil=>rfl
    | cons k r=>rcases Q.any (by simp) with hh | hh<;>contradiction
   subst hl0; subst hm0; exact Rat.le_refl
  subst a1; subst a2; grind
 rcases B with ⟨⟨b1,b2⟩,b3,b4⟩ | ⟨w,w1,w2,w3,w4⟩
 ·subst b1; subst b2; grind
 rcases Rat.le_total (a:=s) (b:=t) with hst | hst
 ·have e:=Rat.mul_nonneg (show 0<=t - s by grind) (show 0<=x - p by grind)
  grind
 have e:=Rat.mul_nonneg (show 0<=s - t by grind) (show 0<=w - x by grind)
 grind
theorem tY {P Q:Int} {v:Rat} (hQ:0<Q) (h:(P:Rat)=v*Q):P / Q=v.floor:=by
 have q0:(0:Rat)<Q:=Rat.intCast_pos.2 hQ
 have a1:∀ x:Int,x<=P / Q↔x<=v.floor:=by
  intro x
  rw [Rat.le_floor_iff,Int.le_ediv_iff_mul_le hQ, <- Rat.intCast_le_intCast,Rat.intCast_mul,h]
  constructor
  ·intro hx; exact Rat.le_of_mul_le_mul_right hx q0
  intro hx; exact Rat.mul_le_mul_of_nonneg_right hx (Rat.le_of_lt q0)
 exact Int.le_antisymm ((a1 _).1 (Int.le_refl _)) ((a1 _).2 (Int.le_refl _))
end Go.Proofs.YtnepigpnlnmlmaaGreatDoor
namespace Go.Proofs.YtnepigpnlnmlmaaGreatDoor
variable {b x y u v:Int} {T law:List (Int×Int)}
def qS (b:Int) (T:List (Int×Int)) (x y:Int):Int:=((b:Rat) / 1000*(pl T x - pl T y)).floor
def pR (T law:List (Int×Int)) (e:Int):Int:=(pl law (pl T e)).floor
def yE (b:Int) (T:List (Int×Int)):List Int->List Int
 | x::y::r=>(x - qS b T x y)::(y+qS b T x y)::yE b T r
 | l=>l
def Un (b:Int) (T:List (Int×Int)):List Int->List Int
 | x::r=>x::yE b T r
 | []=>[]
def nZ (b:Int) (T:List (Int×Int)) (l:List Int):List Int:=Un b T (yE b T l)
def Oo:List Int->List Int->List Int
 | x::l,y::m=>(x+y)::Oo l m
 | l,_=>l
def Fz (n:Int):List Int->List Int
 | x::l=>(x - n)::l
 | []=>[]
def hd (l:List Int):Int:=l.getD 0 default
def uM (b:Int) (T law:List (Int×Int)) (l p:List Int):List Int:=Oo (Fz (pR T law (hd (nZ b T l))) (nZ b T l)) p
def vU:List Int->List Int->Prop
 | x::l,y::m=>x<=y/\vU l m
 | [],[]=>True
 | _,_=>False
theorem vM (b T):∀ l:List Int,(yE b T l).length=l.length
 | []=>rfl
 | [x]=>rfl
 | x::y::r=>by simp [yE,vM b T r]
theorem acO (b T):∀ l:List Int,(Un b T l).length=l.length
 | []=>rfl
 | x::r=>by simp [Un,vM b T r]
theorem Gt (b T l):(nZ b T l).length=l.length:=by unfold nZ; rw [acO,vM]
theorem Fv (n):∀ l:List Int,(Fz n l).length=l.length
 | []=>rfl
 | x::r=>by simp [Fz]
theorem RH:∀ l p:List Int,(Oo l p).length=l.length
 | [],_=>rfl
 | x::r,[]=>rfl
 | x::r,y::m=>by simp [Oo,RH r m]
theorem zV (b T law l p):(uM b T law l p).length=l.length:=by unfold uM; rw [RH,Fv,Gt]
theorem acQ (hb:0<=b/\b<=500) (hT:Asc 1 T):0<=(b:Rat) / 1000/\(b:Rat) / 1000<=1 / 2:=by
 have h1:(0:Rat)<=b:=Rat.intCast_nonneg.2 hb.1
 have h2:(b:Rat)<=500:=by have:=Rat.intCast_le_intCast.2 hb.2; simpa using this
 grind
theorem atU (hb:0<=b/\b<=500) (hT:Asc 1 T) (h:y<=x):0<=qS b T x y/\qS b T x y<=x - y:=by
 have hxy:(y:Rat)<=x:=Rat.intCast_le_intCast.2 h
 obtain ⟨l1,l2⟩:=lip (c:=1) (by decide) T y x hT hxy
 obtain ⟨m1,m2⟩:=acQ hb hT
 unfold qS
 generalize (b:Rat) / 1000=m at*
 generalize pl T x=tx at*
 generalize pl T y=ty at*
 have e1:=Rat.mul_nonneg m1 l1
 have e2:=Rat.mul_nonneg (show 0<=1 - m by grind) l1
 constructor
 ·rw [Rat.le_floor_iff]; simpa using e1
 have h3:=Rat.floor_le (m*(tx - ty))
 rw [<- Rat.intCast_le_intCast,Rat.intCast_sub]
 grind
theorem atV (hb:0<=b/\b<=500) (hT:Asc 1 T) (h:x<=y):x - y<=qS b T x y/\qS b T x y<=0:=by
 have hxy:(x:Rat)<=y:=Rat.intCast_le_intCast.2 h
 obtain ⟨l1,l2⟩:=lip (c:=1) (by decide) T x y hT hxy
 obtain ⟨m1,m2⟩:=acQ hb hT
 unfold qS
 generalize (b:Rat) / 1000=m at*
 generalize pl T x=tx at*
 generalize pl T y=ty at*
 have e1:=Rat.mul_nonneg m1 l1
 have e2:=Rat.mul_nonneg (show 0<=1 - m by grind) l1
 constructor
 ·rw [Rat.le_floor_iff,Rat.intCast_sub]; grind
 have h3:=Rat.floor_le (m*(tx - ty))
 rw [<- Rat.intCast_le_intCast]
 have:((0:Int):Rat)=0:=rfl
 grind
theorem q_in (hb:0<=b/\b<=500) (hT:Asc 1 T) (hx:u<=x/\x<=v) (hy:u<=y/\y<=v):(u<=x - qS b T x y/\x - qS b T x y<=v)/\(u<=y+qS b T x y/\y+qS b T x y<=v):=by
 rcases Int.le_total x y with h | h
 ·have:=atV hb hT h; omega
 have:=atU hb hT h; omega
theorem akD (hb:0<=b/\b<=500) (hT:Asc 1 T) {x' y':Int} (hx:x<=x') (hy:y<=y'):x - qS b T x y<=x' - qS b T x' y'/\y+qS b T x y<=y'+qS b T x' y':=by
 have hx':(x:Rat)<=x':=Rat.intCast_le_intCast.2 hx
 have hy':(y:Rat)<=y':=Rat.intCast_le_intCast.2 hy
 obtain ⟨l1,l2⟩:=lip (c:=1) (by decide) T x x' hT hx'
 obtain ⟨l3,l4⟩:=lip (c:=1) (by decide) T y y' hT hy'
 obtain ⟨m1,m2⟩:=acQ hb hT
 unfold qS
 generalize (b:Rat) / 1000=m at*
 generalize pl T x=tx at*
 generalize pl T y=ty at*
 generalize pl T x'=tx' at*
 generalize pl T y'=ty' at*
 have e1:=Rat.mul_nonneg m1 l1
 have e2:=Rat.mul_nonneg (show 0<=1 - m by grind) l1
 have e3:=Rat.mul_nonneg m1 l3
 have e4:=Rat.mul_nonneg (show 0<=1 - m by grind) l3
 have f1:(m*(tx' - ty')).floor<=(m*(tx - ty)).floor+(x' - x):=by
  rw [<- Rat.floor_add_intCast]
  refine Rat.floor_monotone ?_
  rw [Rat.intCast_sub]; grind
 have f2:(m*(tx - ty)).floor<=(m*(tx' - ty')).floor+(y' - y):=by
  rw [<- Rat.floor_add_intCast]
  refine Rat.floor_monotone ?_
  rw [Rat.intCast_sub]; grind
 omega
theorem Em (hb:0<=b/\b<=500) (hT:Asc 1 T):∀ l:List Int,(∀ x∈l,u<=x/\x<=v)->∀ x∈yE b T l,u<=x/\x<=v
 | [],h=>h
 | [x],h=>h
 | x::y::r,h=>by
  have:=q_in hb hT (h x (by simp)) (h y (by simp))
  intro z hz
  simp only [yE,List.mem_cons] at hz
  rcases hz with rfl | rfl | hz
  ·exact this.1
  ·exact this.2
  exact Em hb hT r (λw hw=>h w (by simp [hw])) z hz
theorem agV (hb:0<=b/\b<=500) (hT:Asc 1 T):∀ l:List Int,(∀ x∈l,u<=x/\x<=v)->∀ x∈Un b T l,u<=x/\x<=v
 | [],h=>h
 | x::r,h=>by
  intro z hz
  simp only [Un,List.mem_cons] at hz
  rcases hz with rfl | hz
  ·exact h _ (by simp)
  exact Em hb hT r (λw hw=>h w (by simp [hw])) z hz
theorem agU (hb:0<=b/\b<=500) (hT:Asc 1 T) (l:List Int) (h:∀ x∈l,u<=x/\x<=v):∀ x∈nZ b T l,u<=x/\x<=v:=agV hb hT _ (Em hb hT l h)
theorem BA (hb:0<=b/\b<=500) (hT:Asc 1 T):∀ l m:List Int,vU l m->vU (yE b T l) (yE b T m)
 | [],[],_=>trivial
 | [],_::_,h=>h.elim
 | [x],[y],h=>h
 | [x],y::_::_,h=>h.2.elim
 | x::_::_,[y],h=>h.2.elim
 | x::y::r,[],h=>h.elim
 | [x],[],h=>h.elim
 | x::y::r,x'::y'::r',⟨h1,h2,h3⟩=>by
  have:=akD hb hT h1 h2
  exact ⟨this.1,this.2,BA hb hT r r' h3⟩
theorem Zy (hb:0<=b/\b<=500) (hT:Asc 1 T):∀ l m:List Int,vU l m->vU (Un b T l) (Un b T m)
 | [],[],_=>trivial
 | [],_::_,h=>h.elim
 | _::_,[],h=>h.elim
 | x::r,y::r',⟨h1,h2⟩=>⟨h1,BA hb hT r r' h2⟩
theorem Zx (hb:0<=b/\b<=500) (hT:Asc 1 T) (l m:List Int) (h:vU l m):vU (nZ b T l) (nZ b T m):=Zy hb hT _ _ (BA hb hT l m h)
theorem Le:∀ l m p q:List Int,vU l m->vU p q->vU (Oo l p) (Oo m q)
 | [],[],_,_,_,_=>trivial
 | [],_::_,_,_,h,_=>h.elim
 | _::_,[],_,_,h,_=>h.elim
 | x::l,y::m,[],[],h,_=>h
 | x::l,y::m,[],_::_,_,h=>h.elim
 | x::l,y::m,_::_,[],_,h=>h.elim
 | x::l,y::m,z::p,w::q,⟨h1,h2⟩,⟨h3,h4⟩=>⟨Int.add_le_add h1 h3,Le l m p q h2 h4⟩
theorem ZE {law':List (Int×Int)} (hT:Asc 1 T) (hl:Asc (1 / 2) law) (ho:∀ x:Rat,pl law' x<=pl law x) (h:x<=y):x - pR T law x<=y - pR T law' y:=by
 have hxy:(x:Rat)<=y:=Rat.intCast_le_intCast.2 h
 obtain ⟨l1,l2⟩:=lip (c:=1) (by decide) T x y hT hxy
 obtain ⟨l3,l4⟩:=lip (c:=1 / 2) (by grind) law (pl T x) (pl T y) hl (by grind)
 have ho':=ho (pl T y)
 unfold pR
 have:(pl law' (pl T y)).floor<=(pl law (pl T x)).floor+(y - x):=by
  rw [<- Rat.floor_add_intCast]
  refine Rat.floor_monotone ?_
  rw [Rat.intCast_sub]; grind
 omega
theorem Zr {law':List (Int×Int)} (hb:0<=b/\b<=500) (hT:Asc 1 T) (hl:Asc (1 / 2) law) (ho:∀ x:Rat,pl law' x<=pl law x) {l m p q:List Int} (h:vU l m) (hp:vU p q):vU (uM b T law l p) (uM b T law' m q):=by
 unfold uM
 have hm:=Zx hb hT l m h
 refine Le _ _ _ _ ?_ hp
 revert hm
 generalize nZ b T l=u
 generalize nZ b T m=v
 intro hm
 cases u with
 | nil=>cases v with
  | nil=>trivial
  | cons y v=>exact hm.elim
 | cons x u=>cases v with
  | nil=>exact hm.elim
  | cons y v=>exact ⟨ZE hT hl ho hm.1,hm.2⟩
theorem agX (hl:Asc (1 / 2) law) (hr:∀ p∈law,0<=p.2/\p.2<=1000) (e:Int):0<=pR T law e/\pR T law e<=1000:=by
 unfold pR
 by_cases h0:law=[]
 ·subst h0
  have e:(pl [] (pl T e)).floor=0:=Rat.floor_intCast 0
  rw [e]; exact ⟨by decide,by decide⟩
 obtain ⟨h1,h2⟩:=Ue (c:=1 / 2) law (pl T e) hl hr h0
 constructor
 ·rw [Rat.le_floor_iff]; exact h1
 have:=Rat.floor_monotone h2
 rwa [Rat.floor_intCast] at this
end Go.Proofs.YtnepigpnlnmlmaaGreatDoor

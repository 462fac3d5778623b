/- Piecewise linear functions over the rationals: monotone, Lipschitz, compared at knots. -/
import Init
set_option linter.unusedVariables false
set_option linter.unusedSimpArgs false
namespace Go.Proofs.YtofkgmldcjagmaaGreatDoor
def pl:List (Int×Int)→Rat→Rat
 | [],_=>0
 | [p],_=>(p.2:Rat)
 | p::q::r,x=>if x≤(p.1:Rat) then (p.2:Rat) else if x≤(q.1:Rat) then (p.2:Rat)+((q.2:Rat) - p.2) / ((q.1:Rat) - p.1)*(x - p.1) else pl (q::r) x
def valK (l:List (Int×Int)) (x:Rat) (k:Nat):Rat:=
 if l.length=0 then 0
 else if k=0 then ((l.getD 0 default).2:Rat)
 else if k=l.length then ((l.getD (k - 1) default).2:Rat)
 else ((l.getD (k - 1) default).2:Rat)+(((l.getD k default).2:Rat) - (l.getD (k - 1) default).2) / (((l.getD k default).1:Rat) - (l.getD (k - 1) default).1)*(x - (l.getD (k - 1) default).1)
theorem pl_val:∀ (l:List (Int×Int)) (x:Rat) (k:Nat),k≤l.length→(∀ i,i<k→((l.getD i default).1:Rat)<x)→(∀ i,k≤i→i<l.length→x≤((l.getD i default).1:Rat))→pl l x=valK l x k
 | [],x,k,h,h1,h2=>by simp [pl,valK]
 | [p],x,k,h,h1,h2=>by
  unfold pl valK
  simp only [List.length_cons,List.length_nil] at h ⊢
  by_cases hk:k=0
  ·simp [hk]
  ·have:k=1:=by omega
   simp [this]
 | p::q::r,x,k,h,h1,h2=>by
  unfold pl
  by_cases hk:k=0
  ·subst hk
   have:x≤(p.1:Rat):=h2 0 (by omega) (by simp)
   rw [if_pos this]; simp [valK]
  ·have a1:(p.1:Rat)<x:=h1 0 (by omega)
   rw [if_neg (Rat.not_le.2 a1)]
   by_cases hk1:k=1
   ·subst hk1
    have:x≤(q.1:Rat):=h2 1 (by omega) (by simp)
    rw [if_pos this]; simp [valK]
   ·have a2:(q.1:Rat)<x:=h1 1 (by omega)
    rw [if_neg (Rat.not_le.2 a2)]
    obtain ⟨m,rfl⟩:∃ m,k=m+2:=⟨k - 2,by omega⟩
    rw [pl_val (q::r) x (m+1) (by simp at h ⊢; omega) (fun i hi=>h1 (i+1) (by omega)) (fun i hi hl=>h2 (i+1) (by omega) (by simp at hl ⊢; omega))]
    unfold valK
    simp [Nat.add_right_cancel_iff]
def Asc (c:Rat):List (Int×Int)→Prop
 | p::q::r=>p.1<q.1∧p.2≤q.2∧(q.2:Rat) - p.2≤c*((q.1:Rat) - p.1)∧Asc c (q::r)
 | _=>True
theorem pl_lo (p:Int×Int) (r:List (Int×Int)) (x:Rat) (h:x≤(p.1:Rat)):pl (p::r) x=(p.2:Rat):=by
 cases r with
 | nil=>rfl
 | cons q r=>unfold pl; rw [if_pos h]
theorem slope {c x0 x1 y0 y1:Rat} (hx:x0<x1) (h0:y0≤y1) (h1:y1 - y0≤c*(x1 - x0)):0≤(y1 - y0) / (x1 - x0)∧(y1 - y0) / (x1 - x0)≤c∧(y1 - y0) / (x1 - x0)*(x1 - x0)=y1 - y0:=by
 have hd:0<x1 - x0:=by grind
 have e:(y1 - y0) / (x1 - x0)*(x1 - x0)=y1 - y0:=Rat.div_mul_cancel (by grind)
 refine ⟨?_,?_,e⟩
 ·refine Rat.le_of_mul_le_mul_right (c:=x1 - x0) ?_ hd
  grind
 ·refine Rat.le_of_mul_le_mul_right (c:=x1 - x0) ?_ hd
  grind
theorem lip {c:Rat} (hc:0≤c):∀ (l:List (Int×Int)) (x y:Rat),Asc c l→x≤y→0≤pl l y - pl l x∧pl l y - pl l x≤c*(y - x)
 | [],x,y,_,h=>by
  have:=Rat.mul_nonneg hc (show 0≤y - x by grind)
  simp only [pl]; grind
 | [p],x,y,_,h=>by
  have:=Rat.mul_nonneg hc (show 0≤y - x by grind)
  simp only [pl]; grind
 | p::q::r,x,y,⟨a1,a2,a3,a4⟩,h=>by
  have b1:(p.1:Rat)<q.1:=Rat.intCast_lt_intCast.2 a1
  have b2:(p.2:Rat)≤q.2:=Rat.intCast_le_intCast.2 a2
  obtain ⟨s0,s1,s2⟩:=slope b1 b2 a3
  generalize hs:((q.2:Rat) - p.2) / ((q.1:Rat) - p.1)=s at s0 s1 s2
  have hcxy:=Rat.mul_nonneg hc (show 0≤y - x by grind)
  unfold pl
  rw [hs]
  by_cases y1:y≤(p.1:Rat)
  ·rw [if_pos y1,if_pos (Rat.le_trans h y1)]; grind
  ·rw [if_neg y1]
   have y1':=Rat.not_le.1 y1
   by_cases y2:y≤(q.1:Rat)
   ·rw [if_pos y2]
    by_cases x1:x≤(p.1:Rat)
    ·rw [if_pos x1]
     have e1:=Rat.mul_nonneg s0 (show 0≤y - p.1 by grind)
     have e2:=Rat.mul_nonneg (show 0≤c - s by grind) (show 0≤y - p.1 by grind)
     have e3:=Rat.mul_nonneg hc (show 0≤(p.1:Rat) - x by grind)
     grind
    ·rw [if_neg x1,if_pos (Rat.le_trans h y2)]
     have e1:=Rat.mul_nonneg s0 (show 0≤y - x by grind)
     have e2:=Rat.mul_nonneg (show 0≤c - s by grind) (show 0≤y - x by grind)
     grind
   ·rw [if_neg y2]
    have y2':=Rat.not_le.1 y2
    by_cases x2:x≤(q.1:Rat)
    ·obtain ⟨i1,i2⟩:=lip hc (q::r) q.1 y a4 (Rat.le_of_lt y2')
     rw [pl_lo q r q.1 Rat.le_refl] at i1 i2
     by_cases x1:x≤(p.1:Rat)
     ·rw [if_pos x1]
      have e3:=Rat.mul_nonneg hc (show 0≤(p.1:Rat) - x by grind)
      grind
     ·rw [if_neg x1,if_pos x2]
      have e1:=Rat.mul_nonneg s0 (show 0≤q.1 - x by grind)
      have e2:=Rat.mul_nonneg (show 0≤c - s by grind) (show 0≤q.1 - x by grind)
      grind
    ·rw [if_neg x2,if_neg (show ¬ x≤(p.1:Rat) by have:=Rat.not_le.1 x2; grind)]
     exact lip hc (q::r) x y a4 h
theorem pl_rng {c:Rat} {u v:Int}:∀ (l:List (Int×Int)) (x:Rat),Asc c l→(∀ p∈l,u≤p.2∧p.2≤v)→l≠[]→(u:Rat)≤pl l x∧pl l x≤v
 | [],x,_,_,h=>absurd rfl h
 | [p],x,_,h,_=>by
  obtain ⟨h1,h2⟩:=h p (by simp)
  exact ⟨Rat.intCast_le_intCast.2 h1,Rat.intCast_le_intCast.2 h2⟩
 | p::q::r,x,⟨a1,a2,a3,a4⟩,h,_=>by
  have b1:(p.1:Rat)<q.1:=Rat.intCast_lt_intCast.2 a1
  have b2:(p.2:Rat)≤q.2:=Rat.intCast_le_intCast.2 a2
  obtain ⟨s0,s1,s2⟩:=slope b1 b2 a3
  generalize hs:((q.2:Rat) - p.2) / ((q.1:Rat) - p.1)=s at s0 s1 s2
  have hp:=h p (by simp)
  have hq:=h q (by simp)
  have hp1:(u:Rat)≤p.2:=Rat.intCast_le_intCast.2 hp.1
  have hp2:(p.2:Rat)≤v:=Rat.intCast_le_intCast.2 hp.2
  have hq2:(q.2:Rat)≤v:=Rat.intCast_le_intCast.2 hq.2
  unfold pl
  rw [hs]
  by_cases x1:x≤(p.1:Rat)
  ·rw [if_pos x1]; exact ⟨hp1,hp2⟩
  ·rw [if_neg x1]
   have x1':=Rat.not_le.1 x1
   by_cases x2:x≤(q.1:Rat)
   ·rw [if_pos x2]
    have e1:=Rat.mul_nonneg s0 (show 0≤x - p.1 by grind)
    have e2:=Rat.mul_nonneg s0 (show 0≤q.1 - x by grind)
    grind
   ·rw [if_neg x2]
    exact pl_rng (q::r) x a4 (fun p' hp'=>h p' (List.mem_cons_of_mem _ hp')) (by simp)
end Go.Proofs.YtofkgmldcjagmaaGreatDoor

/- The code's and the reference's places on a polyline have the value of the piecewise linear function. -/
import Derived.Test.YtnepigpnlnmlmaaGreatDoorF01
import Derived.Test.YtnepigpnlnmlmaaGreatDoorF18
import Derived.Test.YtnepigpnlnmlmaaGreatDoorHeatP
import Derived.Test.YtnepigpnlnmlmaaGreatDoorHeatR
import Derived.Test.YtnepigpnlnmlmaaGreatDoorF04
import Derived.Test.YtnepigpnlnmlmaaGreatDoorF31
set_option linter.unusedVariables false
set_option linter.unusedSimpArgs false
namespace Go.Proofs.YtnepigpnlnmlmaaGreatDoor
open Go.dR
variable {l:aA} {a b:Int}
theorem Gs {x y X Y:Int} (h1:0<=x) (h2:x<=X) (h3:0<=y) (h4:y<=Y):0<=x*y/\x*y<=X*Y:=
 ⟨Int.mul_nonneg h1 h3,Int.le_trans (Int.mul_le_mul_of_nonneg_right h2 h3) (Int.mul_le_mul_of_nonneg_left h4 (by omega))⟩
structure At (v:Rat) (A B Bm Y:Int):Prop where
 pos:0<B
 le:B<=Bm
 num:0<=A/\A<=Y*B
 eq:(A:Rat)=v*B
structure Poly (l:aA) (a b:Int):Prop where
 AZ:xY l a b
 yr:∀ i,i<l.length->0<=(l.getD i default).2/\(l.getD i default).2<=3000
 Ew:∀ i,0<i->i<l.length->(l.getD (i - 1) default).2<=(l.getD i default).2
theorem LY (h:Poly l a b) (ha:0<=a) (hb:b<=1000000) (n d:Int) (hd:0<d) (hd2:d<=1000000) :
 ∃ A B,D5 l n d=some (A,B)/\xw l n d=some (A,B)/\At (pl l ((n:Rat) / d)) A B (1000000*d) 3000:=by
 obtain ⟨k,hk,h1,h2,h3,h4⟩:=U2 h.AZ ha hb n d hd hd2
 have d0:(0:Rat)<d:=Rat.intCast_pos.2 hd
 have hv:=MS l ((n:Rat) / d) k hk
  (λi hi=>by rw [Rat.lt_div_iff d0, <- Rat.intCast_mul]; exact Rat.intCast_lt_intCast.2 (h3 i hi))
  (λi hi hil=>by rw [<- Rat.not_lt,Rat.lt_div_iff d0, <- Rat.intCast_mul,Rat.not_lt]; exact Rat.intCast_le_intCast.2 (h4 i hi hil))
 rw [h1,h2,hv]
 refine ⟨(yh l n d k).1,(yh l n d k).2,rfl,rfl,?_⟩
 unfold yh Lm
 have hone:(1:Int)<=1000000*d:=by omega
 by_cases h0:l.length=0
 ·rw [if_pos h0,if_pos h0]
  exact ⟨Int.one_pos,hone,⟨by decide,by decide⟩,by simp⟩
 rw [if_neg h0,if_neg h0]
 by_cases hk0:k=0
 ·rw [if_pos hk0,if_pos hk0]
  have:=h.yr 0 (by omega)
  exact ⟨Int.one_pos,hone,⟨this.1,by simpa using this.2⟩,by simp⟩
 rw [if_neg hk0,if_neg hk0]
 by_cases hkl:k=l.length
 ·rw [if_pos hkl,if_pos hkl]
  have:=h.yr (k - 1) (by omega)
  exact ⟨Int.one_pos,hone,⟨this.1,by simpa using this.2⟩,by simp⟩
 rw [if_neg hkl,if_neg hkl]
 have a1:=h.AZ.rng k (by omega)
 have a2:=h.AZ.rng (k - 1) (by omega)
 have a3:=h.AZ.inc k (by omega) (by omega)
 have a4:=h.yr k (by omega)
 have a5:=h.yr (k - 1) (by omega)
 have a6:=h.Ew k (by omega) (by omega)
 have a7:=h3 (k - 1) (by omega)
 have a8:=h4 k (by omega) (by omega)
 generalize (l.getD k default).1=x1 at*
 generalize (l.getD (k - 1) default).1=x0 at*
 generalize (l.getD k default).2=y1 at*
 generalize (l.getD (k - 1) default).2=y0 at*
 have w0:IntKind.i64.wrap (x1 - x0)=x1 - x0:=IntWalk.i64_in _ ⟨by omega,by omega⟩
 have w1:IntKind.i64.wrap (y1 - y0)=y1 - y0:=IntWalk.i64_in _ ⟨by omega,by omega⟩
 obtain ⟨w2,r1,r2⟩:=Ul (x:=x1 - x0) (d:=d) (by omega) (by omega) hd hd2
 obtain ⟨w3,r3,r4⟩:=Ul (x:=x0) (d:=d) (by omega) (by omega) hd hd2
 have e1:(x1 - x0)*d=x1*d - x0*d:=Int.sub_mul _ _ _
 have e2:(x1 - x0)*d<=1000000*d:=Int.mul_le_mul_of_nonneg_right (by omega) (by omega)
 have e3:0<(x1 - x0)*d:=Int.mul_pos (by omega) hd
 have w4:IntKind.i64.wrap (n - x0*d)=n - x0*d:=IntWalk.i64_in _ ⟨by omega,by omega⟩
 obtain ⟨m1,m2⟩:=Gs (x:=y0) (y:=(x1 - x0)*d) (X:=3000) (Y:=1000000*1000000) (by omega) (by omega) (by omega) (by omega)
 obtain ⟨m3,m4⟩:=Gs (x:=y1 - y0) (y:=n - x0*d) (X:=3000) (Y:=1000000*1000000) (by omega) (by omega) (by omega) (by omega)
 have m5:(y1 - y0)*(n - x0*d)<=(y1 - y0)*((x1 - x0)*d):=Int.mul_le_mul_of_nonneg_left (by omega) (by omega)
 have m6:y1*((x1 - x0)*d)<=3000*((x1 - x0)*d):=Int.mul_le_mul_of_nonneg_right (by omega) (by omega)
 have m7:(y1 - y0)*((x1 - x0)*d)=y1*((x1 - x0)*d) - y0*((x1 - x0)*d):=Int.sub_mul _ _ _
 rw [w0,w1,w2,w3,w4]
 have w5:IntKind.i64.wrap (y0*((x1 - x0)*d))=y0*((x1 - x0)*d):=IntWalk.i64_in _ ⟨by omega,by omega⟩
 have w6:IntKind.i64.wrap ((y1 - y0)*(n - x0*d))=(y1 - y0)*(n - x0*d):=IntWalk.i64_in _ ⟨by omega,by omega⟩
 rw [w5,w6]
 have w7:IntKind.i64.wrap (y0*((x1 - x0)*d)+(y1 - y0)*(n - x0*d))=y0*((x1 - x0)*d)+(y1 - y0)*(n - x0*d):=IntWalk.i64_in _ ⟨by omega,by omega⟩
 rw [w7]
 refine ⟨e3,e2,⟨by omega,by omega⟩,?_⟩
 simp only [Rat.intCast_add,Rat.intCast_mul,Rat.intCast_sub]
 have hx:(0:Rat)<(x1:Rat) - x0:=by have:=Rat.intCast_lt_intCast.2 a3; grind
 have f1:((y1:Rat) - y0) / ((x1:Rat) - x0)*((x1:Rat) - x0)=(y1:Rat) - y0:=Rat.div_mul_cancel (by grind)
 have f2:(n:Rat) / d*d=n:=Rat.div_mul_cancel (by grind)
 generalize ((y1:Rat) - y0) / ((x1:Rat) - x0)=s at*
 generalize hz:(n:Rat) / d=z at*
 have f3:(s*(z - x0))*(((x1:Rat) - x0)*d)=(s*((x1:Rat) - x0))*(z*d - x0*d):=by grind
 rw [Rat.add_mul,f3,f1,f2]
theorem wz.poly (h:wz l):Poly l 200 3000:=⟨h.AZ,λi hi=>by have:=h.yr i hi; omega,λi h0 hi=>(h.Ew i h0 hi).1⟩
theorem gU.poly {T:aA} {L:au} (h:gU a b T L):Poly T 0 1000000:=⟨h.AZ,λi hi=>by have:=h.yr i hi; omega,λi h0 hi=>by have:=h.Ew i h0 hi; omega⟩
theorem VH {c:Rat}:∀ l:aA,(∀ i,0<i->i<l.length->(l.getD (i - 1) default).1<(l.getD i default).1/\(l.getD (i - 1) default).2<=(l.getD i default).2/\(((l.getD i default).2:Rat) - (l.getD (i - 1) default).2<=c*(((l.getD i default).1:Rat) - (l.getD (i - 1) default).1)))->Asc c l
 | [],_=>trivial
 | [p],_=>trivial
 | p::q::r,h=>by
  have h1:=h 1 (by omega) (by simp)
  refine ⟨h1.1,h1.2.1,h1.2.2,VH (q::r) λi h0 hi=> ?_⟩
  obtain ⟨m,rfl⟩:∃ m,i=m+1:=⟨i - 1,by omega⟩
  have:=h (m+2) (by omega) (by simp at hi ⊢; omega)
  simpa using this
theorem gU.Yn {T:aA} {L:au} (h:gU a b T L):Asc 1 T:=by
 refine VH T λi h0 hi=>⟨h.AZ.inc i h0 hi,by have:=(h.Ew i h0 hi).1; omega,?_⟩
 have:=Rat.intCast_le_intCast.2 (h.Ew i h0 hi).2
 rw [Rat.intCast_sub,Rat.intCast_sub] at this; grind
theorem wz.Yn (h:wz l):Asc (1 / 2) l:=by
 refine VH l λi h0 hi=>⟨h.AZ.inc i h0 hi,(h.Ew i h0 hi).1,?_⟩
 have:=Rat.intCast_le_intCast.2 (h.Ew i h0 hi).2
 rw [Rat.intCast_mul,Rat.intCast_sub,Rat.intCast_sub] at this
 have e2:((2:Int):Rat)=2:=rfl
 grind
theorem Aa {α:Type} [Inhabited α] {l:List α} {x:α} (h:x∈l):∃ i,i<l.length/\l.getD i default=x:=by
 obtain ⟨i,hi,rfl⟩:=List.mem_iff_getElem.1 h
 exact ⟨i,hi,by simp [List.getD_eq_getElem?_getD,hi]⟩
theorem wz.yr' (h:wz l):∀ p∈l,0<=p.2/\p.2<=1000:=λp hp=>by
 obtain ⟨i,hi,rfl⟩:=Aa hp
 exact h.yr i hi
theorem ak8 {m:aA} (hl:wz l) (hm:wz m) (h:nJ l m=false):∀ x:Rat,pl m x<=pl l x:=by
 refine order hm.Yn hl.Yn λp hp=> ?_
 have hp':p∈l++m:=by
  rcases List.mem_append.1 hp with h | h
  ·exact List.mem_append_right _ h
  exact List.mem_append_left _ h
 obtain ⟨i,hi,rfl⟩:=Aa hp'
 unfold nJ at h
 have hn:dJ (λi=>if oD l m i=true then some true else none) 0 (l.length+m.length)=none:=by
  cases hs:dJ (λi=>if oD l m i=true then some true else none) 0 (l.length+m.length) with
  | none=>rfl
  | some v=>
   rw [hs] at h
   obtain ⟨j,_,_,hj⟩:=iU hs
   split at hj
   ·cases hj; cases h
   cases hj
 have:=kM hn i (by omega) (by simpa using hi)
 have hc:¬ oD l m i=true:=by intro hc; rw [if_pos hc] at this; cases this
 unfold oD at hc
 generalize (l++m).getD i default=p at*
 obtain ⟨A,B,_,e1,P⟩:=LY hl.poly (by decide) (by decide) p.1 1 (by decide) (by decide)
 obtain ⟨C,D,_,e2,Q⟩:=LY hm.poly (by decide) (by decide) p.1 1 (by decide) (by decide)
 have e3:(p.1:Rat) / ((1:Int):Rat)=p.1:=by
  have:((1:Int):Rat)=1:=rfl
  rw [this]; grind
 rw [e3] at P Q
 rw [e1,e2] at hc
 simp only [Option.getD_some,decide_eq_true_eq] at hc
 have p1:=P.pos; have p2:=P.le; have p3:=P.num
 have q1:=Q.pos; have q2:=Q.le; have q3:=Q.num
 obtain ⟨m1,m2⟩:=Gs (x:=A) (y:=D) (X:=3000*1000000) (Y:=1000000) (by omega) (by omega) (by omega) (by omega)
 obtain ⟨m3,m4⟩:=Gs (x:=C) (y:=B) (X:=3000*1000000) (Y:=1000000) (by omega) (by omega) (by omega) (by omega)
 rw [IntWalk.i64_in (A*D) ⟨by omega,by omega⟩,IntWalk.i64_in (C*B) ⟨by omega,by omega⟩] at hc
 have hle:C*B<=A*D:=by omega
 have hle':=Rat.intCast_le_intCast.2 hle
 rw [Rat.intCast_mul,Rat.intCast_mul,P.eq,Q.eq] at hle'
 have hB:(0:Rat)<B:=Rat.intCast_pos.2 p1
 have hD:(0:Rat)<D:=Rat.intCast_pos.2 q1
 refine Rat.le_of_mul_le_mul_right (c:=(B:Rat)*D) ?_ (Rat.mul_pos hB hD)
 grind
theorem gU.Qo {T : List (Int × Int)} {L : List (List (Int × Int))} (h : gU a b T L) : ∀ (i j : Nat), i <= j -> j < L.length -> ∀ x : Rat, pl (L.getD i default) x <= pl (L.getD j default) x
  | i, 0, h1, h2, x => by obtain rfl : i = 0 := by omega
                          exact Rat.le_refl
  | i, j + 1, h1, h2, x => by
    by_cases hij : i = j + 1
    · subst hij; exact Rat.le_refl
    have a1 := h.Qo i j (by omega) (by omega) x
    have a2 := ak8 (h.laws (j + 1) h2) (h.laws j (by omega)) (h.below (j + 1) (by omega) h2) x
    exact Rat.le_trans a1 a2
variable {a b:Int} {T:aA} {L:au}
theorem auX (n d:Int) (hd:0<d) (h1: -9000000000000000000<=n) (h2:n<=9000000000000000000):Ja n d=some (n / d):=by
 have b1: -9000000000000000000<=n / d:=by
  rw [Int.le_ediv_iff_mul_le hd]
  have:=Int.mul_le_mul_of_nonneg_left (show 1<=d by omega) (show (0:Int)<=9000000000000000000 by omega)
  omega
 have b2:n / d<9000000000000000001:=by
  rw [Int.ediv_lt_iff_lt_mul hd]
  have:=Int.mul_le_mul_of_nonneg_left (show 1<=d by omega) (show (0:Int)<=9000000000000000001 by omega)
  omega
 unfold Ja
 rw [if_pos (by omega),if_pos (by omega),Int.tmod_eq_emod,Int.tdiv_eq_ediv]
 have m1:=Int.emod_nonneg n (show d≠0 by omega)
 have m2:=Int.emod_lt_of_pos n hd
 by_cases hc:0<=n\/d∣n
 ·rw [if_pos hc,if_pos hc,if_neg (by rw [decide_eq_true_eq]; omega),Int.add_zero,IntWalk.i64_in (n / d) ⟨by omega,by omega⟩]
 rw [if_neg hc,if_neg hc,if_pos (by rw [decide_eq_true_eq]; omega),Int.sign_eq_one_of_pos hd]
 rw [IntWalk.i64_in (n / d+1) ⟨by omega,by omega⟩,Int.add_sub_cancel,IntWalk.i64_in (n / d) ⟨by omega,by omega⟩]
theorem aEl (x:Rat):x / ((1:Int):Rat)=x:=by
 have:((1:Int):Rat)=1:=rfl
 rw [this]; grind
theorem agM (ok:gU a b T L) (a' b':Int) (T':aA) (L' L'':au) (e:Int):∃ N D,Bg a' b' T' L' T L'' e=some (N,D)/\At (pl T e) N D 1000000 3000:=by
 obtain ⟨A,B,h1,_,h2⟩:=LY ok.poly (by decide) (by decide) e 1 (by decide) (by decide)
 rw [aEl] at h2
 refine ⟨A,B,?_,h2⟩
 unfold Bg
 rw [h1,Option.bind_some]
theorem nK (ok:gU a b T L) (e:Int):inT T e=true↔(T.getD 0 default).1<=e/\e<=(T.getD (T.length - 1) default).1:=kN
theorem En (ok:gU a b T L) {e:Int} (h:inT T e=true):0<=e/\e<=1000000:=by
 rw [nK ok] at h
 have:=ok.LJ
 have h1:=ok.AZ.rng 0 (by omega)
 have h2:=ok.AZ.rng (T.length - 1) (by omega)
 omega
theorem p57 (ok:gU a b T L) (a' b':Int) (L':au) (e:Int) (he:inT T e=true):∃ N D,r42 a' b' T L' e=some (N,D)/\At (pl T e) N D 1000000 3000:=by
 have hr:=En ok he
 rw [nK ok] at he
 have htl:=ok.LJ
 obtain ⟨k,h1,h2,h3⟩:=Am (λi=>(T.getD (i+1) default).1<e) (T.length - 1)
 have hk:k<T.length - 1:=by
  apply Nat.lt_of_not_le; intro hle
  have:=h2 (T.length - 2) (by omega)
  rw [show T.length - 2+1=T.length - 1 by omega] at this
  omega
 have h4:=h3 hk
 have w1:∀ i:Nat,i<T.length->IntKind.i64.wrap ((i:Int)+1+1)=((i+1:Nat):Int)+1:=λi hi=>by
  rw [IntWalk.i64_in _ ⟨by omega,by omega⟩]; omega
 unfold r42
 have hrun:=mM k (Yk T e) (λi=>(i:Int)+1) _ (by omega) (λi hi=>by
  have hp:=h2 i hi
  have e1:((i:Int)+1).toNat=i+1:=by omega
  rw [Yk,if_pos ⟨by omega,by omega⟩,e1,if_pos (decide_eq_true hp),w1 i (by omega)]) (by
  have e1:((k:Int)+1).toNat=k+1:=by omega
  have e2:IntKind.i64.wrap ((k:Int)+1 - 1)=(k:Int):=by rw [IntWalk.i64_in _ ⟨by omega,by omega⟩]; omega
  rw [Yk,if_pos ⟨by omega,by omega⟩,e1,if_neg (by rw [decide_eq_true_eq]; exact h4),e2,if_pos (iK (show k<T.length by omega)),if_pos ⟨by omega,by omega⟩,Int.toNat_natCast])
 rw [show ((0:Nat):Int)+1=1 by rfl] at hrun
 rw [hrun]
 refine ⟨_,_,rfl,?_⟩
 have a1:=ok.AZ.rng (k+1) (by omega)
 have a2:=ok.AZ.rng k (by omega)
 have a3:=ok.AZ.inc (k+1) (by omega) (by omega)
 have a4:=ok.yr (k+1) (by omega)
 have a5:=ok.yr k (by omega)
 have a6:=(ok.Ew (k+1) (by omega) (by omega)).1
 rw [Nat.add_sub_cancel] at a3 a6
 have hlo:(T.getD k default).1<=e:=by
  by_cases h0:k=0
  ·rw [h0]; exact he.1
  have:=h2 (k - 1) (by omega)
  rw [show k - 1+1=k by omega] at this
  omega
 have hv:pl T e=((T.getD k default).2:Rat)+(((T.getD (k+1) default).2:Rat) - (T.getD k default).2) / (((T.getD (k+1) default).1:Rat) - (T.getD k default).1)*((e:Rat) - (T.getD k default).1):=by
  by_cases hx:(T.getD k default).1=e
  ·have hk0:k=0:=by
    apply Classical.byContradiction; intro h0
    have:=h2 (k - 1) (by omega)
    rw [show k - 1+1=k by omega] at this
    omega
   subst hk0
   have:=MS T (e:Rat) 0 (by omega) (λi hi=>by omega) (λi _ hi=>by
    refine Rat.intCast_le_intCast.2 ?_
    by_cases hi0:i=0
    ·rw [hi0]; omega
    have:=ok.AZ.lt (i:=0) (j:=i) (by omega) hi; omega)
   rw [this,hx]
   unfold Lm
   rw [if_neg (by omega),if_pos rfl]; grind
  have:=MS T (e:Rat) (k+1) (by omega) (λi hi=>by
   refine Rat.intCast_lt_intCast.2 ?_
   by_cases hik:i=k
   ·rw [hik]; omega
   ·have:=ok.AZ.lt (i:=i) (j:=k) (by omega) (by omega); omega) (λi hi hil=>by
   refine Rat.intCast_le_intCast.2 ?_
   by_cases hik:i=k+1
   ·rw [hik]; omega
   have:=ok.AZ.lt (i:=k+1) (j:=i) (by omega) (by omega); omega)
  rw [this]
  unfold Lm
  rw [if_neg (by omega),if_neg (by omega),if_neg (by omega),Nat.add_sub_cancel]
 rw [hv]
 generalize (T.getD (k+1) default).1=x1 at*
 generalize (T.getD k default).1=x0 at*
 generalize (T.getD (k+1) default).2=y1 at*
 generalize (T.getD k default).2=y0 at*
 have w0:IntKind.i64.wrap (x1 - x0)=x1 - x0:=IntWalk.i64_in _ ⟨by omega,by omega⟩
 have w1:IntKind.i64.wrap (y1 - y0)=y1 - y0:=IntWalk.i64_in _ ⟨by omega,by omega⟩
 have w4:IntKind.i64.wrap (e - x0)=e - x0:=IntWalk.i64_in _ ⟨by omega,by omega⟩
 obtain ⟨m1,m2⟩:=Gs (x:=y0) (y:=x1 - x0) (X:=3000) (Y:=1000000) (by omega) (by omega) (by omega) (by omega)
 obtain ⟨m3,m4⟩:=Gs (x:=y1 - y0) (y:=e - x0) (X:=3000) (Y:=1000000) (by omega) (by omega) (by omega) (by omega)
 have m5:(y1 - y0)*(e - x0)<=(y1 - y0)*(x1 - x0):=Int.mul_le_mul_of_nonneg_left (by omega) (by omega)
 have m6:y1*(x1 - x0)<=3000*(x1 - x0):=Int.mul_le_mul_of_nonneg_right (by omega) (by omega)
 have m7:(y1 - y0)*(x1 - x0)=y1*(x1 - x0) - y0*(x1 - x0):=Int.sub_mul _ _ _
 rw [w0,w1,w4]
 have w5:IntKind.i64.wrap (y0*(x1 - x0))=y0*(x1 - x0):=IntWalk.i64_in _ ⟨by omega,by omega⟩
 have w6:IntKind.i64.wrap ((y1 - y0)*(e - x0))=(y1 - y0)*(e - x0):=IntWalk.i64_in _ ⟨by omega,by omega⟩
 rw [w5,w6]
 have w7:IntKind.i64.wrap (y0*(x1 - x0)+(y1 - y0)*(e - x0))=y0*(x1 - x0)+(y1 - y0)*(e - x0):=IntWalk.i64_in _ ⟨by omega,by omega⟩
 rw [w7]
 refine ⟨by omega,by omega,⟨by omega,by omega⟩,?_⟩
 simp only [Rat.intCast_add,Rat.intCast_mul,Rat.intCast_sub]
 have hx:(0:Rat)<(x1:Rat) - x0:=by have:=Rat.intCast_lt_intCast.2 a3; grind
 have f1:((y1:Rat) - y0) / ((x1:Rat) - x0)*((x1:Rat) - x0)=(y1:Rat) - y0:=Rat.div_mul_cancel (by grind)
 generalize ((y1:Rat) - y0) / ((x1:Rat) - x0)=s at*
 have f3:(s*((e:Rat) - x0))*((x1:Rat) - x0)=(s*((x1:Rat) - x0))*(e - x0):=by grind
 rw [Rat.add_mul,f3,f1]
theorem aCt (hb:0<=b/\b<=500) {x y N D M E:Int} (P:At (pl T x) N D 1000000 3000) (Q:At (pl T y) M E 1000000 3000) :
 Ja (IntKind.i64.wrap (b*(IntKind.i64.wrap ((IntKind.i64.wrap (N*E)) - (IntKind.i64.wrap (M*D)))))) (IntKind.i64.wrap ((IntKind.i64.wrap (1000*D))*E))=some (qS b T x y):=by
 have p1:=P.pos; have p2:=P.le; have p3:=P.num
 have q1:=Q.pos; have q2:=Q.le; have q3:=Q.num
 obtain ⟨m1,m2⟩:=Gs (x:=N) (y:=E) (X:=3000*1000000) (Y:=1000000) (by omega) (by omega) (by omega) (by omega)
 obtain ⟨m3,m4⟩:=Gs (x:=M) (y:=D) (X:=3000*1000000) (Y:=1000000) (by omega) (by omega) (by omega) (by omega)
 obtain ⟨m5,m6⟩:=Gs (x:=D) (y:=E) (X:=1000000) (Y:=1000000) (by omega) (by omega) (by omega) (by omega)
 have m7:0<D*E:=Int.mul_pos p1 q1
 rw [IntWalk.i64_in (N*E) ⟨by omega,by omega⟩,IntWalk.i64_in (M*D) ⟨by omega,by omega⟩,IntWalk.i64_in (N*E - M*D) ⟨by omega,by omega⟩,IntWalk.i64_in (1000*D) ⟨by omega,by omega⟩]
 have hK:b*(N*E - M*D)<=500*3000000000000000/\ -(500*3000000000000000)<=b*(N*E - M*D):=by
  rcases Int.le_total 0 (N*E - M*D) with h | h
  ·have:=Gs (x:=b) (y:=N*E - M*D) (X:=500) (Y:=3000000000000000) hb.1 hb.2 h (by omega)
   omega
  have:=Gs (x:=b) (y:= -(N*E - M*D)) (X:=500) (Y:=3000000000000000) hb.1 hb.2 (by omega) (by omega)
  rw [Int.mul_neg] at this
  omega
 rw [IntWalk.i64_in (b*(N*E - M*D)) ⟨by omega,by omega⟩,Int.mul_assoc 1000 D E,IntWalk.i64_in (1000*(D*E)) ⟨by omega,by omega⟩,auX _ _ (by omega) (by omega) (by omega)]
 congr 1
 refine tY (by omega) ?_
 simp only [Rat.intCast_mul,Rat.intCast_sub,P.eq,Q.eq]
 have:((1000:Int):Rat)=1000:=rfl
 rw [this]; grind
def inS (T:aA) (l:aV):Prop:=∀ x∈l,inT T x=true
theorem XQ (ok:gU a b T L) {l:aV} (h:inS T l):inS T (nZ b T l):=by
 intro x hx
 rw [nK ok]
 exact agU ok.mix ok.Yn l (λy hy=>by have:=h y hy; rwa [nK ok] at this) x hx
theorem GR {ρ:Type} (ok:gU a b T L) (B:Int×aV->eY (Int×aV) ρ) (fin:aV->Option ρ)
 (step:∀ (i:Nat) (l:aV),i+1<l.length->l.length<1000000->inT T (l.getD i default)=true->inT T (l.getD (i+1) default)=true->
  B ((i:Int),l)= .next ((i:Int)+2,(l.set i (l.getD i default - qS b T (l.getD i default) (l.getD (i+1) default))).set (i+1) (l.getD (i+1) default+qS b T (l.getD i default) (l.getD (i+1) default))))
 (stop:∀ (i:Nat) (l:aV),l.length<=i+1->l.length<1000000->i<=l.length->B ((i:Int),l)= .out (fin l)) :
 ∀ (l pre:aV) (fuel:Nat),inS T l->pre.length+l.length<1000000->l.length<fuel->aK B fuel ((pre.length:Int),pre++l)=fin (pre++yE b T l)
 | [],pre,fuel,_,hl,hf=>by
  obtain ⟨m,rfl⟩:∃ m,fuel=m+1:=⟨fuel - 1,by omega⟩
  simp only [aK]
  rw [stop pre.length _ (by simp) (by simpa using hl) (by simp)]; rfl
 | [x],pre,fuel,_,hl,hf=>by
  obtain ⟨m,rfl⟩:∃ m,fuel=m+1:=⟨fuel - 1,by omega⟩
  simp only [aK]
  rw [stop pre.length _ (by simp) (by simpa using hl) (by simp)]; rfl
 | x::y::r,pre,fuel,h,hl,hf=>by
  obtain ⟨m,rfl⟩:∃ m,fuel=m+1:=⟨fuel - 1,by omega⟩
  have hx:=h x (by simp)
  have hy:=h y (by simp)
  have g1:(pre++x::y::r).getD pre.length default=x:=by simp [List.getD_eq_getElem?_getD]
  have g2:(pre++x::y::r).getD (pre.length+1) default=y:=by simp [List.getD_eq_getElem?_getD,List.getElem?_append_right]
  have hs:=step pre.length (pre++x::y::r) (by simp) (by simpa using hl) (by rw [g1]; exact hx) (by rw [g2]; exact hy)
  rw [g1,g2] at hs
  simp only [aK,hs]
  have e1:((pre++x::y::r).set pre.length (x - qS b T x y)).set (pre.length+1) (y+qS b T x y)=(pre++[x - qS b T x y,y+qS b T x y])++r:=by
   simp [List.set_append]
  rw [e1]
  have hin:=q_in ok.mix ok.Yn (u:=(T.getD 0 default).1) (v:=(T.getD (T.length - 1) default).1) ((nK ok x).1 hx) ((nK ok y).1 hy)
  have hl':pre.length+(r.length+2)<1000000:=by simpa using hl
  have hf':r.length+2<m+1:=by simp only [List.length_cons] at hf; omega
  have:=GR ok B fin step stop r (pre++[x - qS b T x y,y+qS b T x y]) m (λz hz=>h z (by simp [hz])) (by simp; omega) (by omega)
  rw [List.length_append] at this
  simpa [yE] using this
variable {T:aA} {a b law:Int} {L:au} {l p:aV}
def Yv (g:Int->Int->Int):aV->aV->aV
 | x::l,y::m=>g x y::Yv g l m
 | l,_=>l
theorem Qs {ρ:Type} (B:Int×aV->eY (Int×aV) ρ) (g:Int->Int->Int) (p:aV) (fin:aV->Option ρ)
 (step:∀ (i:Nat) (l:aV),i<p.length->l.length=p.length->B ((i:Int),l)= .next ((i:Int)+1,l.set i (g (l.getD i default) (p.getD i default))))
 (stop:∀ (l:aV),l.length=p.length->B ((p.length:Int),l)= .out (fin l)) :
 ∀ (l m pre mre:aV) (fuel:Nat),pre.length=mre.length->l.length=m.length->p=mre++m->l.length<fuel->aK B fuel ((pre.length:Int),pre++l)=fin (pre++Yv g l m)
 | [],[],pre,mre,fuel,h1,_,h3,hf=>by
  obtain ⟨k,rfl⟩:∃ k,fuel=k+1:=⟨fuel - 1,by omega⟩
  have hp:p.length=pre.length:=by rw [h3]; simp [h1]
  have:=stop (pre++[]) (by simp [hp])
  rw [hp] at this
  simp only [aK]
  rw [this]; rfl
 | [],y::m,pre,mre,fuel,_,h2,_,_=>by simp at h2
 | x::l,[],pre,mre,fuel,_,h2,_,_=>by simp at h2
 | x::l,y::m,pre,mre,fuel,h1,h2,h3,hf=>by
  obtain ⟨k,rfl⟩:∃ k,fuel=k+1:=⟨fuel - 1,by omega⟩
  have h2':l.length=m.length:=by simpa using h2
  have hp:p.length=pre.length+(m.length+1):=by rw [h3]; simp [h1]
  have g1:(pre++x::l).getD pre.length default=x:=by simp [List.getD_eq_getElem?_getD]
  have g2:p.getD pre.length default=y:=by rw [h3,h1]; simp [List.getD_eq_getElem?_getD]
  have hs:=step pre.length (pre++x::l) (by omega) (by simp; omega)
  rw [g1,g2] at hs
  simp only [aK,hs]
  have e1:(pre++x::l).set pre.length (g x y)=(pre++[g x y])++l:=by simp [List.set_append]
  rw [e1]
  have:=Qs B g p fin step stop l m (pre++[g x y]) (mre++[y]) k (by simp [h1]) h2' (by simp [h3]) (by simp at hf; omega)
  rw [List.length_append] at this
  simpa [Yv] using this
theorem OD:∀ l m:aV,(∀ x∈l,-1000000000<=x/\x<=1000000000)->(∀ x∈m,-1000000000<=x/\x<=1000000000)->Yv (λx y=>IntKind.i64.wrap (x+y)) l m=Oo l m
 | [],_,_,_=>rfl
 | _::_,[],_,_=>rfl
 | x::l,y::m,h1,h2=>by
  have a1:=h1 x (by simp)
  have a2:=h2 y (by simp)
  simp only [Yv,Oo]
  rw [IntWalk.i64_in (x+y) ⟨by omega,by omega⟩,OD l m (λz hz=>h1 z (by simp [hz])) (λz hz=>h2 z (by simp [hz]))]
theorem abm (n:Int) (l:aV) (h:0<l.length) (hw:IntKind.i64.wrap (l.getD 0 default - n)=l.getD 0 default - n):l.set 0 (IntKind.i64.wrap (l.getD 0 default - n))=Fz n l:=by
 rw [hw]
 cases l with
 | nil=>simp at h
 | cons x r=>simp [Fz]
theorem abg {n:Int}:∀ {l:aV} {z:Int},z∈Fz n l->(∃ x∈l,z=x - n)\/z∈l
 | [],z,h=>Or.inr h
 | x::r,z,h=>by
  simp only [Fz,List.mem_cons] at h
  rcases h with h | h
  ·exact Or.inl ⟨x,by simp,h⟩
  exact Or.inr (by simp [h])
theorem ads (B:Int->eY Int Int) (l:aV) (p:Int->Bool) (hl:l.length<1000000000)
 (step:∀ i:Nat,i<l.length->B (i:Int)=if p (l.getD i default) then .out (some (i:Int)) else .next ((i:Int)+1)) (stop:B (l.length:Int)= .out (some (-1))) :
 aK B 1000000000 0=some (Jh p 0 l):=by
 have h:=eU (τ:=Unit) l B (λi _=>i) (λi _ x=>if p x then .out (some i) else .next ()) (λ_=>some (-1)) hl
  (λi t hi=>by rw [step i hi]; cases p (l.getD i default)<;>simp [uN])
  (λt=>stop) ()
 rw [h]; exact Qv p l 0
theorem au5 (htl:0<T.length/\T.length<1000) (l:aV) (a b:Int) (T':aA) (L L':au) (hl:l.length<1000000000):F8 l a b T' L T L'=some (l.any λx=> !inT T x):=by
 have h:PE l a b T' L T L'=some (Jh (λx=> !inT T x) 0 l):=by
  unfold PE
  refine ads _ l _ hl (λi hi=> ?_) (by simp [AP])
  simp only [AP,kK hi,if_true,if_pos (iK hi),Int.toNat_natCast,wS i (by omega),ags,akW a b T' L T L' _ htl.1 htl.2,Option.bind_some,aW]
 unfold F8
 rw [h,Option.bind_some,adt _ l 0 (by omega)]
theorem O8 (ok:gU a b T L) (a':Int) (T':aA) (L' L'':au) (i:Nat) (l:aV) (hi:i+1<l.length) (hl:l.length<1000000) (hx:inT T (l.getD i default)=true) (hy:inT T (l.getD (i+1) default)=true) (z:eY (Int×aV) ((aV)×Int×Int)) :
 (if (decide ((IntKind.i64.wrap ((i:Int)+1))<(l.length:Int)))=true then
 if 0<=(i:Int)/\(i:Int)<(l.length:Int) then
  aW (Bg a' b T' L' T L'' (l.getD (i:Int).toNat default)) λv2=>
   if 0<=IntKind.i64.wrap ((i:Int)+1)/\IntKind.i64.wrap ((i:Int)+1)<(l.length:Int) then
    aW (Bg a' b T' L' T L'' (l.getD (IntKind.i64.wrap ((i:Int)+1)).toNat default)) λv3=>
     aW (Ja (IntKind.i64.wrap (b*(IntKind.i64.wrap ((IntKind.i64.wrap (v2.1*v3.2)) - (IntKind.i64.wrap (v3.1*v2.2)))))) (IntKind.i64.wrap ((IntKind.i64.wrap (1000*v2.2))*v3.2))) λv4=>
      if 0<=(i:Int)/\(i:Int)<(l.length:Int) then
       if 0<=IntKind.i64.wrap ((i:Int)+1)/\IntKind.i64.wrap ((i:Int)+1)<(l.length:Int) then
        if 0<=(i:Int)/\(i:Int)<(l.length:Int) then
         if 0<=IntKind.i64.wrap ((i:Int)+1)/\IntKind.i64.wrap ((i:Int)+1)<(l.length:Int) then
          (.next (IntKind.i64.wrap ((i:Int)+2),(l.set (i:Int).toNat (IntKind.i64.wrap ((l.getD (i:Int).toNat default) - v4))).set (IntKind.i64.wrap ((i:Int)+1)).toNat (IntKind.i64.wrap ((l.getD (IntKind.i64.wrap ((i:Int)+1)).toNat default)+v4))):eY (Int×aV) ((aV)×Int×Int))
          else .out none
         else .out none
        else .out none
       else .out none
    else .out none
  else .out none
 else z)= .next ((i:Int)+2,(l.set i (l.getD i default - qS b T (l.getD i default) (l.getD (i+1) default))).set (i+1) (l.getD (i+1) default+qS b T (l.getD i default) (l.getD (i+1) default))):=by
 obtain ⟨N,D,h1,P⟩:=agM ok a' b T' L' L'' (l.getD i default)
 obtain ⟨M,E,h2,Q⟩:=agM ok a' b T' L' L'' (l.getD (i+1) default)
 have e1:IntKind.i64.wrap ((i:Int)+1)=((i+1:Nat):Int):=by rw [wS i (by omega)]; omega
 have e2:IntKind.i64.wrap ((i:Int)+2)=(i:Int)+2:=IntWalk.i64_in _ ⟨by omega,by omega⟩
 have hq:=q_in ok.mix ok.Yn (u:=(T.getD 0 default).1) (v:=(T.getD (T.length - 1) default).1) ((nK ok _).1 hx) ((nK ok _).1 hy)
 have r1:=ok.AZ.rng 0 (by have:=ok.LJ; omega)
 have r2:=ok.AZ.rng (T.length - 1) (by have:=ok.LJ; omega)
 rw [e1,e2,Int.toNat_natCast,Int.toNat_natCast,if_pos (kK hi),if_pos (iK (show i<l.length by omega)),h1,h2]
 simp only [aW,if_pos (iK hi),aCt ok.mix P Q,if_pos (iK (show i<l.length by omega))]
 rw [IntWalk.i64_in _ ⟨by omega,by omega⟩,IntWalk.i64_in (l.getD (i+1) default+_) ⟨by omega,by omega⟩]
theorem amq (ok:gU a b T L) {v:Rat} {N D:Int} (h:At v N D 1000000 3000):(N:Rat) / D=v:=by
 have h1:=h.pos
 have h2:(0:Rat)<D:=Rat.intCast_pos.2 h1
 rw [h.eq]; exact Rat.mul_div_cancel (by grind)
theorem agY (ok:gU a b T L) {i e N D:Int} (hi:0<=i/\i<L.length) (P:At (pl T e) N D 1000000 3000) :
 ∃ A B,D5 (L.getD i.toNat default) N D=some (A,B)/\xw (L.getD i.toNat default) N D=some (A,B)/\Ja A B=some (pR T (L.getD i.toNat default) e):=by
 have hl:=ok.laws i.toNat (by omega)
 have p1:=P.pos; have p2:=P.le
 obtain ⟨A,B,h1,h2,Q⟩:=LY hl.poly (by decide) (by decide) N D p1 p2
 refine ⟨A,B,h1,h2,?_⟩
 have q1:=Q.pos; have q2:=Q.le; have q3:=Q.num
 rw [auX A B q1 (by omega) (by omega)]
 have:=Q.eq
 rw [amq ok P] at this
 rw [tY q1 this]; rfl
theorem aCQ (ok:gU a b T L) {i:Int} (e:Int) (hi:0<=i/\i<L.length):Zd a b T L T L i e=some (pR T (L.getD i.toNat default) e):=by
 obtain ⟨N,D,h1,P⟩:=agM ok a b T L L e
 obtain ⟨A,B,h2,_,h3⟩:=agY ok hi P
 unfold Zd
 rw [if_pos hi,h1,Option.bind_some]
 simp only
 rw [h2,Option.bind_some]
 simp only
 rw [h3,Option.bind_some]
structure Di (T:aA) (L:au) (l p:aV) (law:Int):Prop where
 ins:inS T l
 len:p.length=l.length
 pos:0<l.length/\l.length<1000
 pow:∀ x∈p,0<=x/\x<=10000
 law:0<=law/\law<L.length
theorem Um (h:0<l.length):∃ x r,yE b T l=x::r/\nZ b T l=[x]++yE b T r:=by
 have hl:=vM b T l
 cases hm:yE b T l with
 | nil=>rw [hm] at hl; simp at hl; omega
 | cons x r=>exact ⟨x,r,rfl,by unfold nZ; rw [hm]; rfl⟩
theorem awh (ok:gU a b T L) (h:inS T l):inS T (yE b T l):=λx hx=>by
 rw [nK ok]
 exact Em ok.mix ok.Yn l (λy hy=>by have:=h y hy; rwa [nK ok] at this) x hx
theorem acS (ok:gU a b T L) {i:Int} (e:Int) (hi:0<=i/\i<L.length):0<=pR T (L.getD i.toNat default) e/\pR T (L.getD i.toNat default) e<=1000:=by
 have hl:=ok.laws i.toNat (by omega)
 exact agX hl.Yn hl.yr' e
theorem acB (ok:gU a b T L) (h:Di T L l p law) (n:Int) (hn:0<=n/\n<=1000) :
 Yv (λx y=>IntKind.i64.wrap (x+y)) (Fz n (nZ b T l)) p=Oo (Fz n (nZ b T l)) p:=by
 refine OD _ _ (λx hx=> ?_) (λx hx=>by have:=h.pow x hx; omega)
 have hm:=XQ ok h.ins
 rcases abg hx with ⟨y,hy,rfl⟩ | hy
 ·have:=En ok (hm y hy); omega
 have:=En ok (hm x hy); omega
theorem agR (ok:gU a b T L) (h:Di T L l p law) (n:Int) (hn:0<=n/\n<=1000):(nZ b T l).set 0 (IntKind.i64.wrap ((nZ b T l).getD 0 default - n))=Fz n (nZ b T l):=by
 have hl:=Gt b T l
 have hp:=h.pos
 refine abm n _ (by omega) (IntWalk.i64_in _ ?_)
 have hm:inT T ((nZ b T l).getD 0 default)=true:=by
  refine XQ ok h.ins _ ?_
  cases hq:nZ b T l with
  | nil=>rw [hq] at hl; simp at hl; omega
  | cons x r=>simp
 have:=En ok hm
 exact ⟨by omega,by omega⟩
theorem p96 (ok:gU a b T L) (h:Di T L l p law) :
 PI a b T L T L l p law=some (uM b T (L.getD law.toNat default) l p,pR T (L.getD law.toNat default) (hd (nZ b T l)),if (uM b T (L.getD law.toNat default) l p).all (inT T)=true then 0 else 22):=by
 have hp:=h.pos
 have htl:=ok.LJ
 unfold PI PD
 rw [if_pos ⟨by omega,by omega⟩,Option.bind_some]
 have m1:=GR ok (Iy a b T L T L p law) (λl'=>aK (CS a b T L T L p law) 1000000000 (1,l')) (λi l' hi hl hx hy=>O8 ok a T L L i l' hi hl hx hy _) (λi l' hi hl _=>by
  have e1:¬ (decide ((IntKind.i64.wrap ((i:Int)+1))<(l'.length:Int)))=true:=by rw [decide_eq_true_eq,wS i (by omega)]; omega
  simp only [Iy,if_neg e1]) l [] 1000000000 h.ins (by simp; omega) (by omega)
 simp only [List.nil_append,List.length_nil] at m1
 rw [show ((0:Nat):Int)=0 from rfl] at m1
 rw [m1]
 obtain ⟨x,r,hx,hs⟩:=Um (b:=b) (T:=T) hp.1
 have hl2:=vM b T l
 rw [hx] at hl2 ⊢
 have hin:inS T (x::r):=by rw [<- hx]; exact awh ok h.ins
 have m2:=GR ok (CS a b T L T L p law) (λl'=>(if 0<=0/\0<(l'.length:Int) then
  (Zd a b T L T L law (l'.getD 0 default)).bind λv20=>
   if 0<=0/\0<(l'.length:Int) then
    if 0<=0/\0<(l'.length:Int) then
     aK (zf a b T L T L p v20) 1000000000 (0,l'.set 0 (IntKind.i64.wrap ((l'.getD 0 default) - v20)))
     else none
    else none
  else none)) (λi l' hi hl hx hy=>O8 ok a T L L i l' hi hl hx hy _) (λi l' hi hl _=>by
  have e1:¬ (decide ((IntKind.i64.wrap ((i:Int)+1))<(l'.length:Int)))=true:=by rw [decide_eq_true_eq,wS i (by omega)]; omega
  unfold CS
  exact if_neg e1) r [x] 1000000000 (λz hz=>hin z (by simp [hz])) (by simp at hl2 ⊢; omega) (by simp at hl2; omega)
 simp only [List.length_cons,List.length_nil,List.singleton_append] at m2
 rw [show ((0+1:Nat):Int)=1 from rfl] at m2
 rw [m2]
 rw [List.singleton_append] at hs
 rw [<- hs]
 have hml:=Gt b T l
 rw [if_pos ⟨by omega,by omega⟩,aCQ ok _ h.law,Option.bind_some]
 have hn:=acS ok ((nZ b T l).getD 0 default) h.law
 rw [if_pos ⟨by omega,by omega⟩,if_pos ⟨by omega,by omega⟩,agR ok h _ hn]
 have m3:=Qs (zf a b T L T L p (pR T (L.getD law.toNat default) ((nZ b T l).getD 0 default))) (λx y=>IntKind.i64.wrap (x+y)) p
  (λl'=>(F8 l' a b T L T L).bind λv24=>(pJ (!v24) 22).bind λv25=>some (l',pR T (L.getD law.toNat default) ((nZ b T l).getD 0 default),v25))
  (λi l' hi hl=>by
   simp only [zf,kK hi,if_true,if_pos (iK hi),if_pos (iK (show i<l'.length by omega)),Int.toNat_natCast,wS i (by have:=h.len; omega)])
  (λl' hl=>by simp [zf])
  (Fz (pR T (L.getD law.toNat default) ((nZ b T l).getD 0 default)) (nZ b T l)) p [] [] 1000000000 rfl (by rw [Fv,hml,h.len]) rfl (by rw [Fv]; omega)
 simp only [List.nil_append,List.length_nil] at m3
 rw [show ((0:Nat):Int)=0 from rfl] at m3
 rw [m3,acB ok h _ hn]
 have ho:=zV b T (L.getD law.toNat default) l p
 show (F8 (uM b T (L.getD law.toNat default) l p) a b T L T L).bind _=_
 rw [au5 ⟨by omega,by omega⟩ _ _ _ _ _ _ (by omega),Option.bind_some,p94,Option.bind_some]
 rw [List.any_eq_not_all_not,Bool.not_not]
 simp only [Bool.not_not]
 rfl
end Go.Proofs.YtnepigpnlnmlmaaGreatDoor

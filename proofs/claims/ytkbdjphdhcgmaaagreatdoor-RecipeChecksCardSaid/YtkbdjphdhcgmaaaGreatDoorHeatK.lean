/- The code's and the reference's places on a polyline have the value of the piecewise linear function. -/
import Derived.Test.YtkbdjphdhcgmaaaGreatDoorF01
import Derived.Test.YtkbdjphdhcgmaaaGreatDoorF22
import Derived.Test.YtkbdjphdhcgmaaaGreatDoorHeatP
import Derived.Test.YtkbdjphdhcgmaaaGreatDoorHeatA
set_option linter.unusedVariables false
set_option linter.unusedSimpArgs false
namespace Go.Proofs.YtkbdjphdhcgmaaaGreatDoor
open Go.Abs
theorem mulB {x y X Y:Int} (h1:0≤x) (h2:x≤X) (h3:0≤y) (h4:y≤Y):0≤x*y∧x*y≤X*Y:=
 ⟨Int.mul_nonneg h1 h3,Int.le_trans (Int.mul_le_mul_of_nonneg_right h2 h3) (Int.mul_le_mul_of_nonneg_left h4 (by omega))⟩
structure At (v:Rat) (A B Bm Y:Int):Prop where
 pos:0<B
 le:B≤Bm
 num:0≤A∧A≤Y*B
 eq:(A:Rat)=v*B
structure Poly (l:List (Int×Int)) (a b:Int):Prop where
 srt:SortK l a b
 yr:∀ i,i<l.length→0≤(l.getD i default).2∧(l.getD i default).2≤3000
 yinc:∀ i,0<i→i<l.length→(l.getD (i - 1) default).2≤(l.getD i default).2
theorem seg_pl {l:List (Int×Int)} {a b:Int} (h:Poly l a b) (ha:0≤a) (hb:b≤1000000) (n d:Int) (hd:0<d) (hd2:d≤1000000) :
 ∃ A B,r162 l n d=some (A,B)∧r152 l n d=some (A,B)∧At (pl l ((n:Rat) / d)) A B (1000000*d) 3000:=by
 obtain ⟨k,hk,h1,h2,h3,h4⟩:=ex_seg h.srt ha hb n d hd hd2
 have d0:(0:Rat)<d:=Rat.intCast_pos.2 hd
 have hv:=pl_val l ((n:Rat) / d) k hk
  (fun i hi=>by rw [Rat.lt_div_iff d0, ← Rat.intCast_mul]; exact Rat.intCast_lt_intCast.2 (h3 i hi))
  (fun i hi hil=>by rw [← Rat.not_lt,Rat.lt_div_iff d0, ← Rat.intCast_mul,Rat.not_lt]; exact Rat.intCast_le_intCast.2 (h4 i hi hil))
 rw [h1,h2,hv]
 refine ⟨(segV l n d k).1,(segV l n d k).2,rfl,rfl,?_⟩
 unfold segV valK
 have hone:(1:Int)≤1000000*d:=by omega
 by_cases h0:l.length=0
 ·rw [if_pos h0,if_pos h0]
  exact ⟨Int.one_pos,hone,⟨by decide,by decide⟩,by simp⟩
 ·rw [if_neg h0,if_neg h0]
  by_cases hk0:k=0
  ·rw [if_pos hk0,if_pos hk0]
   have:=h.yr 0 (by omega)
   exact ⟨Int.one_pos,hone,⟨this.1,by simpa using this.2⟩,by simp⟩
  ·rw [if_neg hk0,if_neg hk0]
   by_cases hkl:k=l.length
   ·rw [if_pos hkl,if_pos hkl]
    have:=h.yr (k - 1) (by omega)
    exact ⟨Int.one_pos,hone,⟨this.1,by simpa using this.2⟩,by simp⟩
   ·rw [if_neg hkl,if_neg hkl]
    have a1:=h.srt.rng k (by omega)
    have a2:=h.srt.rng (k - 1) (by omega)
    have a3:=h.srt.inc k (by omega) (by omega)
    have a4:=h.yr k (by omega)
    have a5:=h.yr (k - 1) (by omega)
    have a6:=h.yinc k (by omega) (by omega)
    have a7:=h3 (k - 1) (by omega)
    have a8:=h4 k (by omega) (by omega)
    generalize (l.getD k default).1=x1 at*
    generalize (l.getD (k - 1) default).1=x0 at*
    generalize (l.getD k default).2=y1 at*
    generalize (l.getD (k - 1) default).2=y0 at*
    have w0:IntKind.i64.wrap (x1 - x0)=x1 - x0:=IntWalk.i64_in _ ⟨by omega,by omega⟩
    have w1:IntKind.i64.wrap (y1 - y0)=y1 - y0:=IntWalk.i64_in _ ⟨by omega,by omega⟩
    obtain ⟨w2,r1,r2⟩:=mul_in (x:=x1 - x0) (d:=d) (by omega) (by omega) hd hd2
    obtain ⟨w3,r3,r4⟩:=mul_in (x:=x0) (d:=d) (by omega) (by omega) hd hd2
    have e1:(x1 - x0)*d=x1*d - x0*d:=Int.sub_mul _ _ _
    have e2:(x1 - x0)*d≤1000000*d:=Int.mul_le_mul_of_nonneg_right (by omega) (by omega)
    have e3:0<(x1 - x0)*d:=Int.mul_pos (by omega) hd
    have w4:IntKind.i64.wrap (n - x0*d)=n - x0*d:=IntWalk.i64_in _ ⟨by omega,by omega⟩
    obtain ⟨m1,m2⟩:=mulB (x:=y0) (y:=(x1 - x0)*d) (X:=3000) (Y:=1000000*1000000) (by omega) (by omega) (by omega) (by omega)
    obtain ⟨m3,m4⟩:=mulB (x:=y1 - y0) (y:=n - x0*d) (X:=3000) (Y:=1000000*1000000) (by omega) (by omega) (by omega) (by omega)
    have m5:(y1 - y0)*(n - x0*d)≤(y1 - y0)*((x1 - x0)*d):=Int.mul_le_mul_of_nonneg_left (by omega) (by omega)
    have m6:y1*((x1 - x0)*d)≤3000*((x1 - x0)*d):=Int.mul_le_mul_of_nonneg_right (by omega) (by omega)
    have m7:(y1 - y0)*((x1 - x0)*d)=y1*((x1 - x0)*d) - y0*((x1 - x0)*d):=Int.sub_mul _ _ _
    rw [w0,w1,w2,w3,w4]
    have w5:IntKind.i64.wrap (y0*((x1 - x0)*d))=y0*((x1 - x0)*d):=IntWalk.i64_in _ ⟨by omega,by omega⟩
    have w6:IntKind.i64.wrap ((y1 - y0)*(n - x0*d))=(y1 - y0)*(n - x0*d):=IntWalk.i64_in _ ⟨by omega,by omega⟩
    rw [w5,w6]
    have w7:IntKind.i64.wrap (y0*((x1 - x0)*d)+(y1 - y0)*(n - x0*d))=y0*((x1 - x0)*d)+(y1 - y0)*(n - x0*d):=IntWalk.i64_in _ ⟨by omega,by omega⟩
    rw [w7]
    refine ⟨e3,e2,⟨by omega,by omega⟩,?_⟩
    simp only [Rat.intCast_add,Rat.intCast_mul,Rat.intCast_sub]
    have hx:(0:Rat)<(x1:Rat) - x0:=by have:=Rat.intCast_lt_intCast.2 a3; grind
    have f1:((y1:Rat) - y0) / ((x1:Rat) - x0)*((x1:Rat) - x0)=(y1:Rat) - y0:=Rat.div_mul_cancel (by grind)
    have f2:(n:Rat) / d*d=n:=Rat.div_mul_cancel (by grind)
    generalize ((y1:Rat) - y0) / ((x1:Rat) - x0)=s at*
    generalize hz:(n:Rat) / d=z at*
    have f3:(s*(z - x0))*(((x1:Rat) - x0)*d)=(s*((x1:Rat) - x0))*(z*d - x0*d):=by grind
    rw [Rat.add_mul,f3,f1,f2]
theorem LawOk.poly {l:List (Int×Int)} (h:LawOk l):Poly l 200 3000:=⟨h.srt,fun i hi=>by have:=h.yr i hi; omega,fun i h0 hi=>(h.yinc i h0 hi).1⟩
theorem SetOk.poly {a b:Int} {T:List (Int×Int)} {L:List (List (Int×Int))} (h:SetOk a b T L):Poly T 0 1000000:=⟨h.srt,fun i hi=>by have:=h.yr i hi; omega,fun i h0 hi=>by have:=h.yinc i h0 hi; omega⟩
theorem asc_of {c:Rat}:∀ l:List (Int×Int),(∀ i,0<i→i<l.length→(l.getD (i - 1) default).1<(l.getD i default).1∧(l.getD (i - 1) default).2≤(l.getD i default).2∧(((l.getD i default).2:Rat) - (l.getD (i - 1) default).2≤c*(((l.getD i default).1:Rat) - (l.getD (i - 1) default).1)))→Asc c l
 | [],_=>trivial
 | [p],_=>trivial
 | p::q::r,h=>by
  have h1:=h 1 (by omega) (by simp)
  refine ⟨h1.1,h1.2.1,h1.2.2,asc_of (q::r) fun i h0 hi=> ?_⟩
  obtain ⟨m,rfl⟩:∃ m,i=m+1:=⟨i - 1,by omega⟩
  have:=h (m+2) (by omega) (by simp at hi ⊢; omega)
  simpa using this
theorem SetOk.asc {a b:Int} {T:List (Int×Int)} {L:List (List (Int×Int))} (h:SetOk a b T L):Asc 1 T:=by
 refine asc_of T fun i h0 hi=>⟨h.srt.inc i h0 hi,by have:=(h.yinc i h0 hi).1; omega,?_⟩
 have:=Rat.intCast_le_intCast.2 (h.yinc i h0 hi).2
 rw [Rat.intCast_sub,Rat.intCast_sub] at this; grind
theorem LawOk.asc {l:List (Int×Int)} (h:LawOk l):Asc (1 / 2) l:=by
 refine asc_of l fun i h0 hi=>⟨h.srt.inc i h0 hi,(h.yinc i h0 hi).1,?_⟩
 have:=Rat.intCast_le_intCast.2 (h.yinc i h0 hi).2
 rw [Rat.intCast_mul,Rat.intCast_sub,Rat.intCast_sub] at this
 have e2:((2:Int):Rat)=2:=rfl
 grind
theorem mem_getD {α:Type} [Inhabited α] {l:List α} {x:α} (h:x∈l):∃ i,i<l.length∧l.getD i default=x:=by
 obtain ⟨i,hi,rfl⟩:=List.mem_iff_getElem.1 h
 exact ⟨i,hi,by simp [List.getD_eq_getElem?_getD,hi]⟩
theorem law_le {l m:List (Int×Int)} (hl:LawOk l) (hm:LawOk m) (h:belowV l m=false):∀ x:Rat,pl m x≤pl l x:=by
 refine order hm.asc hl.asc fun p hp=> ?_
 have hp':p∈l++m:=by
  rcases List.mem_append.1 hp with h | h
  ·exact List.mem_append_right _ h
  ·exact List.mem_append_left _ h
 obtain ⟨i,hi,rfl⟩:=mem_getD hp'
 unfold belowV at h
 have hn:scanN (fun i=>if cmpAt l m i=true then some true else none) 0 (l.length+m.length)=none:=by
  cases hs:scanN (fun i=>if cmpAt l m i=true then some true else none) 0 (l.length+m.length) with
  | none=>rfl
  | some v=>
   rw [hs] at h
   obtain ⟨j,_,_,hj⟩:=scan_some hs
   split at hj
   ·cases hj; cases h
   ·cases hj
 have:=scan_none hn i (by omega) (by simpa using hi)
 have hc:¬ cmpAt l m i=true:=by intro hc; rw [if_pos hc] at this; cases this
 unfold cmpAt at hc
 generalize (l++m).getD i default=p at*
 obtain ⟨A,B,_,e1,P⟩:=seg_pl hl.poly (by decide) (by decide) p.1 1 (by decide) (by decide)
 obtain ⟨C,D,_,e2,Q⟩:=seg_pl hm.poly (by decide) (by decide) p.1 1 (by decide) (by decide)
 have e3:(p.1:Rat) / ((1:Int):Rat)=p.1:=by
  have:((1:Int):Rat)=1:=rfl
  rw [this]; grind
 rw [e3] at P Q
 rw [e1,e2] at hc
 simp only [Option.getD_some,decide_eq_true_eq] at hc
 have p1:=P.pos; have p2:=P.le; have p3:=P.num
 have q1:=Q.pos; have q2:=Q.le; have q3:=Q.num
 obtain ⟨m1,m2⟩:=mulB (x:=A) (y:=D) (X:=3000*1000000) (Y:=1000000) (by omega) (by omega) (by omega) (by omega)
 obtain ⟨m3,m4⟩:=mulB (x:=C) (y:=B) (X:=3000*1000000) (Y:=1000000) (by omega) (by omega) (by omega) (by omega)
 rw [IntWalk.i64_in (A*D) ⟨by omega,by omega⟩,IntWalk.i64_in (C*B) ⟨by omega,by omega⟩] at hc
 have hle:C*B≤A*D:=by omega
 have hle':=Rat.intCast_le_intCast.2 hle
 rw [Rat.intCast_mul,Rat.intCast_mul,P.eq,Q.eq] at hle'
 have hB:(0:Rat)<B:=Rat.intCast_pos.2 p1
 have hD:(0:Rat)<D:=Rat.intCast_pos.2 q1
 refine Rat.le_of_mul_le_mul_right (c:=(B:Rat)*D) ?_ (Rat.mul_pos hB hD)
 grind
theorem SetOk.law_mono {a b : Int} {T : List (Int × Int)} {L : List (List (Int × Int))} (h : SetOk a b T L) : ∀ (i j : Nat), i ≤ j → j < L.length → ∀ x : Rat, pl (L.getD i default) x ≤ pl (L.getD j default) x
  | i, 0, h1, h2, x => by obtain rfl : i = 0 := by omega
                          exact Rat.le_refl
  | i, j + 1, h1, h2, x => by
    by_cases hij : i = j + 1
    · subst hij; exact Rat.le_refl
    · have a1 := h.law_mono i j (by omega) (by omega) x
      have a2 := law_le (h.laws (j + 1) h2) (h.laws j (by omega)) (h.below (j + 1) (by omega) h2) x
      exact Rat.le_trans a1 a2
end Go.Proofs.YtkbdjphdhcgmaaaGreatDoor

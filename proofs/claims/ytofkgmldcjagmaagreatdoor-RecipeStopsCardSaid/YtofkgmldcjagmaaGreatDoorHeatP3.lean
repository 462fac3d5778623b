import Derived.Test.YtofkgmldcjagmaaGreatDoorF01
import Derived.Test.YtofkgmldcjagmaaGreatDoorF12
import Derived.Test.YtofkgmldcjagmaaGreatDoorHeatP2
set_option linter.unusedVariables false
set_option linter.unusedSimpArgs false
namespace Go.Proofs.YtofkgmldcjagmaaGreatDoor
open Go.Abs
theorem iter_scanS {σ ρ:Type} (n:Nat) (b:σ→Ctl σ ρ) (mk:Nat→σ) (f:Nat→Option ρ) (fin:Option ρ) (hn:n<1000000000)
 (step:∀ i:Nat,i<n→(∀ j,j<i→f j=none)→b (mk i)=match f i with | some v=> .out (some v) | none=> .next (mk (i+1)))
 (stop:(∀ j,j<n→f j=none)→b (mk n)= .out fin) :
 iterC b 1000000000 (mk 0)=orE (scanN f 0 n) fin:=by
 have key:∀ (k i fuel:Nat),(∀ j,j<i→f j=none)→i+k=n→k<fuel→iterC b fuel (mk i)=orE (scanN f i k) fin:=by
  intro k
  induction k with
  | zero=>
   intro i fuel hj hi hf
   obtain ⟨m,rfl⟩:∃ m,fuel=m+1:=⟨fuel - 1,by omega⟩
   obtain rfl:i=n:=by omega
   simp [iterC,stop hj,scanN,orE]
  | succ k ih=>
   intro i fuel hj hi hf
   obtain ⟨m,rfl⟩:∃ m,fuel=m+1:=⟨fuel - 1,by omega⟩
   simp only [iterC,step i (by omega) hj,scanN]
   cases hfx:f i with
   | none=>
    exact ih (i+1) m (fun j h=>by
     by_cases hji:j=i
     ·rw [hji]; exact hfx
     ·exact hj j (by omega)) (by omega) (by omega)
   | some v=>rfl
 exact key n 0 1000000000 (fun j h=>by omega) (by omega) hn
structure SortK (l:List (Int×Int)) (a b:Int):Prop where
 len:l.length<1000
 rng:∀ i,i<l.length→a≤(l.getD i default).1∧(l.getD i default).1≤b
 inc:∀ i,0<i→i<l.length→(l.getD (i - 1) default).1<(l.getD i default).1
theorem SortK.lt {l:List (Int×Int)} {a b:Int} (h:SortK l a b) {i:Nat}:∀ {j:Nat},i<j→j<l.length→(l.getD i default).1<(l.getD j default).1
 | 0,h1,_=>by omega
 | j+1,h1,h2=>by
  have:=h.inc (j+1) (by omega) h2
  rw [Nat.add_sub_cancel] at this
  by_cases hij:i=j
  ·rw [hij]; exact this
  ·have:=h.lt (i:=i) (j:=j) (by omega) (by omega); omega
theorem mul_in {x d:Int} (hx:0≤x) (hx2:x≤1000000) (hd:0<d) (hd2:d≤1000000):IntKind.i64.wrap (x*d)=x*d∧0≤x*d∧x*d≤1000000*1000000:=by
 have a1:0≤x*d:=Int.mul_nonneg hx (by omega)
 have a2:x*d≤1000000*d:=Int.mul_le_mul_of_nonneg_right hx2 (by omega)
 have a3:(1000000:Int)*d≤1000000*1000000:=Int.mul_le_mul_of_nonneg_left hd2 (by omega)
 exact ⟨IntWalk.i64_in _ ⟨by omega,by omega⟩,a1,by omega⟩
theorem ex_seg {l:List (Int×Int)} {a b:Int} (h:SortK l a b) (ha:0≤a) (hb:b≤1000000) (n d:Int) (hd:0<d) (hd2:d≤1000000) :
 ∃ k,k≤l.length∧r122 l n d=some (segV l n d k)∧r160 l n d=some (segV l n d k)∧(∀ i,i<k→(l.getD i default).1*d<n)∧(∀ i,k≤i→i<l.length→n≤(l.getD i default).1*d):=by
 obtain ⟨k,h1,h2,h3⟩:=first_ix (ltK l n d) l.length
 have hw:∀ i,i<l.length→IntKind.i64.wrap ((l.getD i default).1*d)=(l.getD i default).1*d:=fun i hi=>by
  have:=h.rng i hi
  exact (mul_in (by omega) (by omega) hd hd2).1
 have e:∀ i,i<l.length→(ltK l n d i↔(l.getD i default).1*d<n):=fun i hi=>by unfold ltK; rw [hw i hi]
 have h4:∀ i,k≤i→i<l.length→n≤(l.getD i default).1*d:=by
  intro i hi hil
  have h5:=h3 (by omega)
  rw [e k (by omega)] at h5
  by_cases hki:k=i
  ·subst hki; omega
  ·have:=h.lt (i:=k) (j:=i) (by omega) hil
   have:=Int.mul_le_mul_of_nonneg_right (Int.le_of_lt this) (show 0≤d by omega)
   omega
 have h5:∀ i,k≤i→i<l.length→¬ ltK l n d i:=fun i hi hil=>by rw [e i hil]; have:=h4 i hi hil; omega
 exact ⟨k,h1,p123 l n d h.len k h1 h2 h5,p131 l n d h.len k h1 h2 h3,fun i hi=>(e i (by omega)).1 (h2 i hi),h4⟩
theorem r131_some (l:List (Int×Int)) (n d:Int) (hl:l.length<1000):∃ v,r160 l n d=some v:=by
 obtain ⟨k,h1,h2,h3⟩:=first_ix (ltK l n d) l.length
 exact ⟨_,p131 l n d hl k h1 h2 h3⟩
structure LawOk (l:List (Int×Int)):Prop where
 len:l.length≤6
 srt:SortK l 200 3000
 yr:∀ i,i<l.length→0≤(l.getD i default).2∧(l.getD i default).2≤1000
 yinc:∀ i,0<i→i<l.length→(l.getD (i - 1) default).2≤(l.getD i default).2∧2*((l.getD i default).2 - (l.getD (i - 1) default).2)≤(l.getD i default).1 - (l.getD (i - 1) default).1
theorem inR_iff {a b c:Int}:inR a b c=true↔b≤a∧a≤c:=by simp [inR]
theorem lawOk_of {l:List (Int×Int)} (h:lawErrV l=0):LawOk l:=by
 obtain ⟨h6,hf⟩:=lawErr0 h
 have hr:∀ i,i<l.length→(200≤(l.getD i default).1∧(l.getD i default).1≤3000)∧0≤(l.getD i default).2∧(l.getD i default).2≤1000:=by
  intro i hi
  have:=hf i hi
  unfold lawF at this
  split at this
  ·rename_i hc
   rw [Bool.and_eq_true,inR_iff,inR_iff] at hc; exact hc
  ·cases this
 have hd:∀ i,0<i→i<l.length→(l.getD (i - 1) default).1<(l.getD i default).1∧(l.getD (i - 1) default).2≤(l.getD i default).2∧2*((l.getD i default).2 - (l.getD (i - 1) default).2)≤(l.getD i default).1 - (l.getD (i - 1) default).1:=by
  intro i h0 hi
  have:=hf i hi
  unfold lawF at this
  have a1:=hr i hi
  have a2:=hr (i - 1) (by omega)
  have ex:dX l i=(l.getD i default).1 - (l.getD (i - 1) default).1:=IntWalk.i64_in _ ⟨by omega,by omega⟩
  have ey:dY l i=(l.getD i default).2 - (l.getD (i - 1) default).2:=IntWalk.i64_in _ ⟨by omega,by omega⟩
  have e2:IntKind.i64.wrap (2*dY l i)=2*dY l i:=by rw [ey]; exact IntWalk.i64_in _ ⟨by omega,by omega⟩
  rw [e2,ex,ey] at this
  split at this
  ·rw [if_neg (by omega)] at this
   split at this
   ·rename_i hc
    split at this
    ·rename_i hc2; omega
    ·cases this
   ·cases this
  ·cases this
 exact ⟨h6,⟨by omega,fun i hi=>(hr i hi).1,fun i h0 hi=>(hd i h0 hi).1⟩,fun i hi=>(hr i hi).2,fun i h0 hi=>(hd i h0 hi).2⟩
def cmpAt (l m:List (Int×Int)) (i:Nat):Bool:=
 decide (IntKind.i64.wrap (((r160 l ((l++m).getD i default).1 1).getD default).1*((r160 m ((l++m).getD i default).1 1).getD default).2)<IntKind.i64.wrap (((r160 m ((l++m).getD i default).1 1).getD default).1*((r160 l ((l++m).getD i default).1 1).getD default).2))
def belowV (l m:List (Int×Int)):Bool:=(scanN (fun i=>if cmpAt l m i=true then some true else none) 0 (l.length+m.length)).getD false
theorem p105 (l m:List (Int×Int)) (hl:l.length<1000) (hm:m.length<1000):r126 l m=some (belowV l m):=by
 unfold r126
 rw [if_pos ⟨by omega,by omega⟩,if_pos ⟨by omega,by omega⟩]
 have hs:iterC (b126_1 l m) 1000000000 0=orE (scanN (fun i=>if cmpAt l m i=true then some true else none) 0 (l.length+m.length)) (some false):=by
  refine iter_scan (l.length+m.length) (b126_1 l m) _ _ (by omega) ?_ ?_
  ·intro i hi
   obtain ⟨u,hu⟩:=r131_some l ((l++m).getD i default).1 1 hl
   obtain ⟨v,hv⟩:=r131_some m ((l++m).getD i default).1 1 hm
   have e1:(decide ((i:Int)<((l++m).length:Int)))=true:=by simp; omega
   have e2:0≤(i:Int)∧(i:Int)<((l++m).length:Int):=by rw [List.length_append]; exact ⟨by omega,by omega⟩
   simp only [b126_1,e1,if_true,if_pos e2,Int.toNat_natCast,wS i (by omega),hu,hv,bindC,cmpAt,Option.getD_some]
   split<;>rfl
  ·have e1:(decide (((l.length+m.length:Nat):Int)<((l++m).length:Int)))=false:=by simp
   simp only [b126_1,e1,Bool.false_eq_true,if_false]
 rw [hs]; unfold belowV
 cases scanN (fun i=>if cmpAt l m i=true then some true else none) 0 (l.length+m.length)<;>rfl
theorem seg_eq {l:List (Int×Int)} {a b:Int} (h:SortK l a b) (ha:0≤a) (hb:b≤1000000) (n d:Int) (hd:0<d) (hd2:d≤1000000):r122 l n d=r160 l n d:=by
 obtain ⟨k,_,h1,h2,_⟩:=ex_seg h ha hb n d hd hd2
 rw [h1,h2]
theorem sort_nil:SortK [] 200 3000:=⟨by simp,fun i h=>by simp at h,fun i _ h=>by simp at h⟩
theorem p100 (l m:List (Int×Int)) (hm:SortK m 200 3000) (hl:l.length<1000):r85 l m=some (if lawErrV l=0 then (if belowV l m=true then 13 else 0) else lawErrV l):=by
 by_cases h6:6<l.length
 ·have e:lawErrV l=8:=by unfold lawErrV; rw [if_pos h6]
  rw [e]
  unfold r85
  have:(decide ((l.length:Int)>6))=true:=by simp; omega
  rw [if_pos this]; rfl
 ·rw [p100a l m (by omega) _ rfl]
  have hm':=hm.len
  rw [p148 l (by omega),p148 m (by omega),Option.bind_some,Option.bind_some,p149 l m hl hm',Option.bind_some]
  by_cases h0:lawErrV l=0
  ·have ok:=lawOk_of h0
   rw [if_pos h0,scan_all (fun j _ hj=>(lawErr0 h0).2 j (by omega)),orE_none]
   have hs:iterC (b85_2 l m (l++m)) 1000000000 0=orE (scanN (fun i=>if cmpAt l m i=true then some (13:Int) else none) 0 (l.length+m.length)) (some 0):=by
    refine iter_scan (l.length+m.length) (b85_2 l m (l++m)) _ _ (by omega) ?_ ?_
    ·intro i hi
     obtain ⟨u,hu⟩:=r131_some l ((l++m).getD i default).1 1 hl
     obtain ⟨v,hv⟩:=r131_some m ((l++m).getD i default).1 1 hm'
     have hi2:i<(l++m).length:=by simp; omega
     simp only [b85_2,ltN hi2,if_true,if_pos (rgN hi2),Int.toNat_natCast,wS i (by omega),seg_eq ok.srt (by omega) (by omega) ((l++m).getD i default).1 1 (by omega) (by omega),seg_eq hm (by omega) (by omega) ((l++m).getD i default).1 1 (by omega) (by omega),hu,hv,bindC,cmpAt,Option.getD_some]
     split<;>rfl
    ·have e1:(decide (((l.length+m.length:Nat):Int)<((l++m).length:Int)))=false:=by simp
     simp only [b85_2,e1,Bool.false_eq_true,if_false]
   rw [hs]; unfold belowV
   cases h1:scanN (fun i=>if cmpAt l m i=true then some (13:Int) else none) 0 (l.length+m.length) with
   | none=>
    rw [scan_all (f:=fun i=>if cmpAt l m i=true then some true else none) (fun j a1 a2=>by
     have:=scan_none h1 j a1 a2
     skip
     split at this
     ·cases this
     ·rename_i hc; rw [if_neg hc])]
    rfl
   | some v=>
    obtain ⟨j,a1,a2,a3⟩:=scan_some h1
    have hc:cmpAt l m j=true:=by
     skip
     split at a3
     ·assumption
     ·cases a3
    have hv:v=13:=by simp only [hc,if_true] at a3; injection a3 with a3; exact a3.symm
    cases h2:scanN (fun i=>if cmpAt l m i=true then some true else none) 0 (l.length+m.length) with
    | none=>
     have:=scan_none h2 j a1 a2
     simp only [hc,if_true] at this
     cases this
    | some w=>
     obtain ⟨j',b1,b2,b3⟩:=scan_some h2
     have hw:w=true:=by
      skip
      split at b3
      ·injection b3 with b3; exact b3.symm
      ·cases b3
     rw [hv,hw]; rfl
  ·rw [if_neg h0]
   unfold lawErrV at h0 ⊢
   rw [if_neg h6] at h0 ⊢
   cases hs:scanN (lawF l) 0 l.length with
   | none=>rw [hs] at h0; exact absurd rfl h0
   | some v=>rfl
end Go.Proofs.YtofkgmldcjagmaaGreatDoor

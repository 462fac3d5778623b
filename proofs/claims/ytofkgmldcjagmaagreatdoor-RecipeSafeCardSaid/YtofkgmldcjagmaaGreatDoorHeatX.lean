/- The code's step of a state, and the reference's, are the plain step. -/
import Derived.Test.YtofkgmldcjagmaaGreatDoorF03
import Derived.Test.YtofkgmldcjagmaaGreatDoorF04
import Derived.Test.YtofkgmldcjagmaaGreatDoorF12
import Derived.Test.YtofkgmldcjagmaaGreatDoorF21
import Derived.Test.YtofkgmldcjagmaaGreatDoorHeatK
set_option linter.unusedVariables false
set_option linter.unusedSimpArgs false
namespace Go.Proofs.YtofkgmldcjagmaaGreatDoor
open Go.dG
theorem aiu (n d:Int) (hd:0<d) (h1: -9000000000000000000≤n) (h2:n≤9000000000000000000):CB n d=some (n / d):=by
 have b1: -9000000000000000000≤n / d:=by
  rw [Int.le_ediv_iff_mul_le hd]
  have:=Int.mul_le_mul_of_nonneg_left (show 1≤d by omega) (show (0:Int)≤9000000000000000000 by omega)
  omega
 have b2:n / d<9000000000000000001:=by
  rw [Int.ediv_lt_iff_lt_mul hd]
  have:=Int.mul_le_mul_of_nonneg_left (show 1≤d by omega) (show (0:Int)≤9000000000000000001 by omega)
  omega
 unfold CB
 rw [if_pos (by omega),if_pos (by omega),Int.tmod_eq_emod,Int.tdiv_eq_ediv]
 have m1:=Int.emod_nonneg n (show d≠0 by omega)
 have m2:=Int.emod_lt_of_pos n hd
 by_cases hc:0≤n∨d∣n
 ·rw [if_pos hc,if_pos hc,if_neg (by rw [decide_eq_true_eq]; omega),Int.add_zero,IntWalk.i64_in (n / d) ⟨by omega,by omega⟩]
 ·rw [if_neg hc,if_neg hc,if_pos (by rw [decide_eq_true_eq]; omega),Int.sign_eq_one_of_pos hd]
  rw [IntWalk.i64_in (n / d+1) ⟨by omega,by omega⟩,Int.add_sub_cancel,IntWalk.i64_in (n / d) ⟨by omega,by omega⟩]
theorem aBk (x:Rat):x / ((1:Int):Rat)=x:=by
 have:((1:Int):Rat)=1:=rfl
 rw [this]; grind
theorem aey {a b:Int} {T:List (Int×Int)} {L:List (List (Int×Int))} (ok:fJ a b T L) (a' b':Int) (T':List (Int×Int)) (L' L'':List (List (Int×Int))) (e:Int):∃ N D,yQ a' b' T' L' T L'' e=some (N,D)∧At (pl T e) N D 1000000 3000:=by
 obtain ⟨A,B,h1,_,h2⟩:=Ii ok.poly (by decide) (by decide) e 1 (by decide) (by decide)
 rw [aBk] at h2
 refine ⟨A,B,?_,h2⟩
 unfold yQ
 rw [h1,Option.bind_some]
theorem kK {a b:Int} {T:List (Int×Int)} {L:List (List (Int×Int))} (ok:fJ a b T L) (e:Int):inT T e=true↔(T.getD 0 default).1≤e∧e≤(T.getD (T.length - 1) default).1:=je
theorem xR {a b:Int} {T:List (Int×Int)} {L:List (List (Int×Int))} (ok:fJ a b T L) {e:Int} (h:inT T e=true):0≤e∧e≤1000000:=by
 rw [kK ok] at h
 have:=ok.BG
 have h1:=ok.wY.rng 0 (by omega)
 have h2:=ok.wY.rng (T.length - 1) (by omega)
 omega
theorem ar0 (n d:Int) (hd:0<d) (h1: -9000000000000000000≤n) (h2:n≤9000000000000000000):r52 n d=some (n / d):=aiu n d hd h1 h2
theorem p57 {a b:Int} {T:List (Int×Int)} {L:List (List (Int×Int))} (ok:fJ a b T L) (a' b':Int) (L':List (List (Int×Int))) (e:Int) (he:inT T e=true):∃ N D,Zf a' b' T L' e=some (N,D)∧At (pl T e) N D 1000000 3000:=by
 have hr:=xR ok he
 rw [kK ok] at he
 have htl:=ok.BG
 obtain ⟨k,h1,h2,h3⟩:=xY (fun i=>(T.getD (i+1) default).1<e) (T.length - 1)
 have hk:k<T.length - 1:=by
  apply Nat.lt_of_not_le; intro hle
  have:=h2 (T.length - 2) (by omega)
  rw [show T.length - 2+1=T.length - 1 by omega] at this
  omega
 have h4:=h3 hk
 have w1:∀ i:Nat,i<T.length→IntKind.i64.wrap ((i:Int)+1+1)=((i+1:Nat):Int)+1:=fun i hi=>by
  rw [IntWalk.i64_in _ ⟨by omega,by omega⟩]; omega
 unfold Zf
 have hrun:=jW k (He T e) (fun i=>(i:Int)+1) _ (by omega) (fun i hi=>by
  have hp:=h2 i hi
  have e1:((i:Int)+1).toNat=i+1:=by omega
  rw [He,if_pos ⟨by omega,by omega⟩,e1,if_pos (decide_eq_true hp),w1 i (by omega)]) (by
  have e1:((k:Int)+1).toNat=k+1:=by omega
  have e2:IntKind.i64.wrap ((k:Int)+1 - 1)=(k:Int):=by rw [IntWalk.i64_in _ ⟨by omega,by omega⟩]; omega
  rw [He,if_pos ⟨by omega,by omega⟩,e1,if_neg (by rw [decide_eq_true_eq]; exact h4),e2,if_pos (lF (show k<T.length by omega)),if_pos ⟨by omega,by omega⟩,Int.toNat_natCast])
 rw [show ((0:Nat):Int)+1=1 by rfl] at hrun
 rw [hrun]
 refine ⟨_,_,rfl,?_⟩
 have a1:=ok.wY.rng (k+1) (by omega)
 have a2:=ok.wY.rng k (by omega)
 have a3:=ok.wY.inc (k+1) (by omega) (by omega)
 have a4:=ok.yr (k+1) (by omega)
 have a5:=ok.yr k (by omega)
 have a6:=(ok.Bq (k+1) (by omega) (by omega)).1
 rw [Nat.add_sub_cancel] at a3 a6
 have hlo:(T.getD k default).1≤e:=by
  by_cases h0:k=0
  ·rw [h0]; exact he.1
  ·have:=h2 (k - 1) (by omega)
   rw [show k - 1+1=k by omega] at this
   omega
 have hv:pl T e=((T.getD k default).2:Rat)+(((T.getD (k+1) default).2:Rat) - (T.getD k default).2) / (((T.getD (k+1) default).1:Rat) - (T.getD k default).1)*((e:Rat) - (T.getD k default).1):=by
  by_cases hx:(T.getD k default).1=e
  ·have hk0:k=0:=by
    apply Classical.byContradiction; intro h0
    have:=h2 (k - 1) (by omega)
    rw [show k - 1+1=k by omega] at this
    omega
   subst hk0
   have:=IG T (e:Rat) 0 (by omega) (fun i hi=>by omega) (fun i _ hi=>by
    refine Rat.intCast_le_intCast.2 ?_
    by_cases hi0:i=0
    ·rw [hi0]; omega
    ·have:=ok.wY.lt (i:=0) (j:=i) (by omega) hi; omega)
   rw [this,hx]
   unfold Hz
   rw [if_neg (by omega),if_pos rfl]; grind
  ·have:=IG T (e:Rat) (k+1) (by omega) (fun i hi=>by
    refine Rat.intCast_lt_intCast.2 ?_
    by_cases hik:i=k
    ·rw [hik]; omega
    ·have:=ok.wY.lt (i:=i) (j:=k) (by omega) (by omega); omega) (fun i hi hil=>by
    refine Rat.intCast_le_intCast.2 ?_
    by_cases hik:i=k+1
    ·rw [hik]; omega
    ·have:=ok.wY.lt (i:=k+1) (j:=i) (by omega) (by omega); omega)
   rw [this]
   unfold Hz
   rw [if_neg (by omega),if_neg (by omega),if_neg (by omega),Nat.add_sub_cancel]
 rw [hv]
 generalize (T.getD (k+1) default).1=x1 at*
 generalize (T.getD k default).1=x0 at*
 generalize (T.getD (k+1) default).2=y1 at*
 generalize (T.getD k default).2=y0 at*
 have w0:IntKind.i64.wrap (x1 - x0)=x1 - x0:=IntWalk.i64_in _ ⟨by omega,by omega⟩
 have w1:IntKind.i64.wrap (y1 - y0)=y1 - y0:=IntWalk.i64_in _ ⟨by omega,by omega⟩
 have w4:IntKind.i64.wrap (e - x0)=e - x0:=IntWalk.i64_in _ ⟨by omega,by omega⟩
 obtain ⟨m1,m2⟩:=C9 (x:=y0) (y:=x1 - x0) (X:=3000) (Y:=1000000) (by omega) (by omega) (by omega) (by omega)
 obtain ⟨m3,m4⟩:=C9 (x:=y1 - y0) (y:=e - x0) (X:=3000) (Y:=1000000) (by omega) (by omega) (by omega) (by omega)
 have m5:(y1 - y0)*(e - x0)≤(y1 - y0)*(x1 - x0):=Int.mul_le_mul_of_nonneg_left (by omega) (by omega)
 have m6:y1*(x1 - x0)≤3000*(x1 - x0):=Int.mul_le_mul_of_nonneg_right (by omega) (by omega)
 have m7:(y1 - y0)*(x1 - x0)=y1*(x1 - x0) - y0*(x1 - x0):=Int.sub_mul _ _ _
 rw [w0,w1,w4]
 have w5:IntKind.i64.wrap (y0*(x1 - x0))=y0*(x1 - x0):=IntWalk.i64_in _ ⟨by omega,by omega⟩
 have w6:IntKind.i64.wrap ((y1 - y0)*(e - x0))=(y1 - y0)*(e - x0):=IntWalk.i64_in _ ⟨by omega,by omega⟩
 rw [w5,w6]
 have w7:IntKind.i64.wrap (y0*(x1 - x0)+(y1 - y0)*(e - x0))=y0*(x1 - x0)+(y1 - y0)*(e - x0):=IntWalk.i64_in _ ⟨by omega,by omega⟩
 rw [w7]
 refine ⟨by omega,by omega,⟨by omega,by omega⟩,?_⟩
 simp only [Rat.intCast_add,Rat.intCast_mul,Rat.intCast_sub]
 have hx:(0:Rat)<(x1:Rat) - x0:=by have:=Rat.intCast_lt_intCast.2 a3; grind
 have f1:((y1:Rat) - y0) / ((x1:Rat) - x0)*((x1:Rat) - x0)=(y1:Rat) - y0:=Rat.div_mul_cancel (by grind)
 generalize ((y1:Rat) - y0) / ((x1:Rat) - x0)=s at*
 have f3:(s*((e:Rat) - x0))*((x1:Rat) - x0)=(s*((x1:Rat) - x0))*(e - x0):=by grind
 rw [Rat.add_mul,f3,f1]
theorem aq4 {b:Int} {T:List (Int×Int)} (hb:0≤b∧b≤500) {x y N D M E:Int} (P:At (pl T x) N D 1000000 3000) (Q:At (pl T y) M E 1000000 3000) :
 CB (IntKind.i64.wrap (b*(IntKind.i64.wrap ((IntKind.i64.wrap (N*E)) - (IntKind.i64.wrap (M*D)))))) (IntKind.i64.wrap ((IntKind.i64.wrap (1000*D))*E))=some (qS b T x y):=by
 have p1:=P.pos; have p2:=P.le; have p3:=P.num
 have q1:=Q.pos; have q2:=Q.le; have q3:=Q.num
 obtain ⟨m1,m2⟩:=C9 (x:=N) (y:=E) (X:=3000*1000000) (Y:=1000000) (by omega) (by omega) (by omega) (by omega)
 obtain ⟨m3,m4⟩:=C9 (x:=M) (y:=D) (X:=3000*1000000) (Y:=1000000) (by omega) (by omega) (by omega) (by omega)
 obtain ⟨m5,m6⟩:=C9 (x:=D) (y:=E) (X:=1000000) (Y:=1000000) (by omega) (by omega) (by omega) (by omega)
 have m7:0<D*E:=Int.mul_pos p1 q1
 rw [IntWalk.i64_in (N*E) ⟨by omega,by omega⟩,IntWalk.i64_in (M*D) ⟨by omega,by omega⟩,IntWalk.i64_in (N*E - M*D) ⟨by omega,by omega⟩,IntWalk.i64_in (1000*D) ⟨by omega,by omega⟩]
 have hK:b*(N*E - M*D)≤500*3000000000000000∧ -(500*3000000000000000)≤b*(N*E - M*D):=by
  rcases Int.le_total 0 (N*E - M*D) with h | h
  ·have:=C9 (x:=b) (y:=N*E - M*D) (X:=500) (Y:=3000000000000000) hb.1 hb.2 h (by omega)
   omega
  ·have:=C9 (x:=b) (y:= -(N*E - M*D)) (X:=500) (Y:=3000000000000000) hb.1 hb.2 (by omega) (by omega)
   rw [Int.mul_neg] at this
   omega
 rw [IntWalk.i64_in (b*(N*E - M*D)) ⟨by omega,by omega⟩,Int.mul_assoc 1000 D E,IntWalk.i64_in (1000*(D*E)) ⟨by omega,by omega⟩,aiu _ _ (by omega) (by omega) (by omega)]
 congr 1
 refine lU (by omega) ?_
 simp only [Rat.intCast_mul,Rat.intCast_sub,P.eq,Q.eq]
 have:((1000:Int):Rat)=1000:=rfl
 rw [this]; grind
def Yu (T:List (Int×Int)) (l:List Int):Prop:=∀ x∈l,inT T x=true
theorem I7 {a b:Int} {T:List (Int×Int)} {L:List (List (Int×Int))} (ok:fJ a b T L) {l:List Int} (h:Yu T l):Yu T (jv b T l):=by
 intro x hx
 rw [kK ok]
 exact Ve ok.mix ok.Yk l (fun y hy=>by have:=h y hy; rwa [kK ok] at this) x hx
theorem sZ {ρ:Type} {a b:Int} {T:List (Int×Int)} {L:List (List (Int×Int))} (ok:fJ a b T L) (B:Int×List Int→gK (Int×List Int) ρ) (fin:List Int→Option ρ)
 (step:∀ (i:Nat) (l:List Int),i+1<l.length→l.length<1000000→inT T (l.getD i default)=true→inT T (l.getD (i+1) default)=true→
  B ((i:Int),l)= .next ((i:Int)+2,(l.set i (l.getD i default - qS b T (l.getD i default) (l.getD (i+1) default))).set (i+1) (l.getD (i+1) default+qS b T (l.getD i default) (l.getD (i+1) default))))
 (stop:∀ (i:Nat) (l:List Int),l.length≤i+1→l.length<1000000→i≤l.length→B ((i:Int),l)= .out (fin l)) :
 ∀ (l pre:List Int) (fuel:Nat),Yu T l→pre.length+l.length<1000000→l.length<fuel→aS B fuel ((pre.length:Int),pre++l)=fin (pre++oH b T l)
 | [],pre,fuel,_,hl,hf=>by
  obtain ⟨m,rfl⟩:∃ m,fuel=m+1:=⟨fuel - 1,by omega⟩
  simp only [aS]
  rw [stop pre.length _ (by simp) (by simpa using hl) (by simp)]; rfl
 | [x],pre,fuel,_,hl,hf=>by
  obtain ⟨m,rfl⟩:∃ m,fuel=m+1:=⟨fuel - 1,by omega⟩
  simp only [aS]
  rw [stop pre.length _ (by simp) (by simpa using hl) (by simp)]; rfl
 | x::y::r,pre,fuel,h,hl,hf=>by
  obtain ⟨m,rfl⟩:∃ m,fuel=m+1:=⟨fuel - 1,by omega⟩
  have hx:=h x (by simp)
  have hy:=h y (by simp)
  have g1:(pre++x::y::r).getD pre.length default=x:=by simp [List.getD_eq_getElem?_getD]
  have g2:(pre++x::y::r).getD (pre.length+1) default=y:=by simp [List.getD_eq_getElem?_getD,List.getElem?_append_right]
  have hs:=step pre.length (pre++x::y::r) (by simp) (by simpa using hl) (by rw [g1]; exact hx) (by rw [g2]; exact hy)
  rw [g1,g2] at hs
  simp only [aS,hs]
  have e1:((pre++x::y::r).set pre.length (x - qS b T x y)).set (pre.length+1) (y+qS b T x y)=(pre++[x - qS b T x y,y+qS b T x y])++r:=by
   simp [List.set_append]
  rw [e1]
  have hin:=q_in ok.mix ok.Yk (u:=(T.getD 0 default).1) (v:=(T.getD (T.length - 1) default).1) ((kK ok x).1 hx) ((kK ok y).1 hy)
  have hl':pre.length+(r.length+2)<1000000:=by simpa using hl
  have hf':r.length+2<m+1:=by simp only [List.length_cons] at hf; omega
  have:=sZ ok B fin step stop r (pre++[x - qS b T x y,y+qS b T x y]) m (fun z hz=>h z (by simp [hz])) (by simp; omega) (by omega)
  rw [List.length_append] at this
  simpa [oH] using this
end Go.Proofs.YtofkgmldcjagmaaGreatDoor

/- The code's step of a state, and the reference's, are the plain step. -/
import Derived.Test.YtkbdjphdhcgmaaaGreatDoorF01
import Derived.Test.YtkbdjphdhcgmaaaGreatDoorF12
import Derived.Test.YtkbdjphdhcgmaaaGreatDoorHeatA
set_option linter.unusedVariables false
set_option linter.unusedSimpArgs false
namespace Go.Proofs.YtkbdjphdhcgmaaaGreatDoor
open Go.dR
theorem agE (n d:Int) (hd:0<d) (h1: -9000000000000000000<=n) (h2:n<=9000000000000000000):CZ n d=some (n / d):=by
 have b1: -9000000000000000000<=n / d:=by
  rw [Int.le_ediv_iff_mul_le hd]
  have:=Int.mul_le_mul_of_nonneg_left (show 1<=d by omega) (show (0:Int)<=9000000000000000000 by omega)
  omega
 have b2:n / d<9000000000000000001:=by
  rw [Int.ediv_lt_iff_lt_mul hd]
  have:=Int.mul_le_mul_of_nonneg_left (show 1<=d by omega) (show (0:Int)<=9000000000000000001 by omega)
  omega
 unfold CZ
 rw [if_pos (by omega),if_pos (by omega),Int.tmod_eq_emod,Int.tdiv_eq_ediv]
 have m1:=Int.emod_nonneg n (show d≠0 by omega)
 have m2:=Int.emod_lt_of_pos n hd
 by_cases hc:0<=n\/d∣n
 ·rw [if_pos hc,if_pos hc,if_neg (by rw [decide_eq_true_eq]; omega),Int.add_zero,IntWalk.i64_in (n / d) ⟨by omega,by omega⟩]
 ·rw [if_neg hc,if_neg hc,if_pos (by rw [decide_eq_true_eq]; omega),Int.sign_eq_one_of_pos hd]
  rw [IntWalk.i64_in (n / d+1) ⟨by omega,by omega⟩,Int.add_sub_cancel,IntWalk.i64_in (n / d) ⟨by omega,by omega⟩]
theorem aqM (x:Rat):x / ((1:Int):Rat)=x:=by
 have:((1:Int):Rat)=1:=rfl
 rw [this]; grind
theorem ae5 {a b:Int} {T:List (Int×Int)} {L:List (List (Int×Int))} (ok:iI a b T L) (a' b':Int) (T':List (Int×Int)) (L' L'':List (List (Int×Int))) (e:Int):∃ N D,yP a' b' T' L' T L'' e=some (N,D)/\At (pl T e) N D 1000000 3000:=by
 obtain ⟨A,B,h1,_,h2⟩:=Dx ok.poly (by decide) (by decide) e 1 (by decide) (by decide)
 rw [aqM] at h2
 refine ⟨A,B,?_,h2⟩
 unfold yP
 rw [h1,Option.bind_some]
theorem jZ {a b:Int} {T:List (Int×Int)} {L:List (List (Int×Int))} (ok:iI a b T L) (e:Int):inT T e=true↔(T.getD 0 default).1<=e/\e<=(T.getD (T.length - 1) default).1:=gU
theorem xQ {a b:Int} {T:List (Int×Int)} {L:List (List (Int×Int))} (ok:iI a b T L) {e:Int} (h:inT T e=true):0<=e/\e<=1000000:=by
 rw [jZ ok] at h
 have:=ok.Xd
 have h1:=ok.srt.rng 0 (by omega)
 have h2:=ok.srt.rng (T.length - 1) (by omega)
 omega
theorem ajn (n d:Int) (hd:0<d) (h1: -9000000000000000000<=n) (h2:n<=9000000000000000000):r22 n d=some (n / d):=agE n d hd h1 h2
theorem p57 {a b:Int} {T:List (Int×Int)} {L:List (List (Int×Int))} (ok:iI a b T L) (a' b':Int) (L':List (List (Int×Int))) (e:Int) (he:inT T e=true):∃ N D,r76 a' b' T L' e=some (N,D)/\At (pl T e) N D 1000000 3000:=by
 have hr:=xQ ok he
 rw [jZ ok] at he
 have htl:=ok.Xd
 obtain ⟨k,h1,h2,h3⟩:=tu (fun i=>(T.getD (i+1) default).1<e) (T.length - 1)
 have hk:k<T.length - 1:=by
  apply Nat.lt_of_not_le; intro hle
  have:=h2 (T.length - 2) (by omega)
  rw [show T.length - 2+1=T.length - 1 by omega] at this
  omega
 have h4:=h3 hk
 have w1:∀ i:Nat,i<T.length->IntKind.i64.wrap ((i:Int)+1+1)=((i+1:Nat):Int)+1:=fun i hi=>by
  rw [IntWalk.i64_in _ ⟨by omega,by omega⟩]; omega
 unfold r76
 have hrun:=jO k (WS T e) (fun i=>(i:Int)+1) _ (by omega) (fun i hi=>by
  have hp:=h2 i hi
  have e1:((i:Int)+1).toNat=i+1:=by omega
  rw [WS,if_pos ⟨by omega,by omega⟩,e1,if_pos (decide_eq_true hp),w1 i (by omega)]) (by
  have e1:((k:Int)+1).toNat=k+1:=by omega
  have e2:IntKind.i64.wrap ((k:Int)+1 - 1)=(k:Int):=by rw [IntWalk.i64_in _ ⟨by omega,by omega⟩]; omega
  rw [WS,if_pos ⟨by omega,by omega⟩,e1,if_neg (by rw [decide_eq_true_eq]; exact h4),e2,if_pos (jJ (show k<T.length by omega)),if_pos ⟨by omega,by omega⟩,Int.toNat_natCast])
 rw [show ((0:Nat):Int)+1=1 by rfl] at hrun
 rw [hrun]
 refine ⟨_,_,rfl,?_⟩
 have a1:=ok.srt.rng (k+1) (by omega)
 have a2:=ok.srt.rng k (by omega)
 have a3:=ok.srt.inc (k+1) (by omega) (by omega)
 have a4:=ok.yr (k+1) (by omega)
 have a5:=ok.yr k (by omega)
 have a6:=(ok.Jl (k+1) (by omega) (by omega)).1
 rw [Nat.add_sub_cancel] at a3 a6
 have hlo:(T.getD k default).1<=e:=by
  by_cases h0:k=0
  ·rw [h0]; exact he.1
  ·have:=h2 (k - 1) (by omega)
   rw [show k - 1+1=k by omega] at this
   omega
 have hv:pl T e=((T.getD k default).2:Rat)+(((T.getD (k+1) default).2:Rat) - (T.getD k default).2) / (((T.getD (k+1) default).1:Rat) - (T.getD k default).1)*((e:Rat) - (T.getD k default).1):=by
  by_cases hx:(T.getD k default).1=e
  ·have hk0:k=0:=by
    apply Classical.byContradiction; intro h0
    have:=h2 (k - 1) (by omega)
    rw [show k - 1+1=k by omega] at this
    omega
   subst hk0
   have:=DF T (e:Rat) 0 (by omega) (fun i hi=>by omega) (fun i _ hi=>by
    refine Rat.intCast_le_intCast.2 ?_
    by_cases hi0:i=0
    ·rw [hi0]; omega
    ·have:=ok.srt.lt (i:=0) (j:=i) (by omega) hi; omega)
   rw [this,hx]
   unfold Tt
   rw [if_neg (by omega),if_pos rfl]; grind
  ·have:=DF T (e:Rat) (k+1) (by omega) (fun i hi=>by
    refine Rat.intCast_lt_intCast.2 ?_
    by_cases hik:i=k
    ·rw [hik]; omega
    ·have:=ok.srt.lt (i:=i) (j:=k) (by omega) (by omega); omega) (fun i hi hil=>by
    refine Rat.intCast_le_intCast.2 ?_
    by_cases hik:i=k+1
    ·rw [hik]; omega
    ·have:=ok.srt.lt (i:=k+1) (j:=i) (by omega) (by omega); omega)
   rw [this]
   unfold Tt
   rw [if_neg (by omega),if_neg (by omega),if_neg (by omega),Nat.add_sub_cancel]
 rw [hv]
 generalize (T.getD (k+1) default).1=x1 at*
 generalize (T.getD k default).1=x0 at*
 generalize (T.getD (k+1) default).2=y1 at*
 generalize (T.getD k default).2=y0 at*
 have w0:IntKind.i64.wrap (x1 - x0)=x1 - x0:=IntWalk.i64_in _ ⟨by omega,by omega⟩
 have w1:IntKind.i64.wrap (y1 - y0)=y1 - y0:=IntWalk.i64_in _ ⟨by omega,by omega⟩
 have w4:IntKind.i64.wrap (e - x0)=e - x0:=IntWalk.i64_in _ ⟨by omega,by omega⟩
 obtain ⟨m1,m2⟩:=MC (x:=y0) (y:=x1 - x0) (X:=3000) (Y:=1000000) (by omega) (by omega) (by omega) (by omega)
 obtain ⟨m3,m4⟩:=MC (x:=y1 - y0) (y:=e - x0) (X:=3000) (Y:=1000000) (by omega) (by omega) (by omega) (by omega)
 have m5:(y1 - y0)*(e - x0)<=(y1 - y0)*(x1 - x0):=Int.mul_le_mul_of_nonneg_left (by omega) (by omega)
 have m6:y1*(x1 - x0)<=3000*(x1 - x0):=Int.mul_le_mul_of_nonneg_right (by omega) (by omega)
 have m7:(y1 - y0)*(x1 - x0)=y1*(x1 - x0) - y0*(x1 - x0):=Int.sub_mul _ _ _
 rw [w0,w1,w4]
 have w5:IntKind.i64.wrap (y0*(x1 - x0))=y0*(x1 - x0):=IntWalk.i64_in _ ⟨by omega,by omega⟩
 have w6:IntKind.i64.wrap ((y1 - y0)*(e - x0))=(y1 - y0)*(e - x0):=IntWalk.i64_in _ ⟨by omega,by omega⟩
 rw [w5,w6]
 have w7:IntKind.i64.wrap (y0*(x1 - x0)+(y1 - y0)*(e - x0))=y0*(x1 - x0)+(y1 - y0)*(e - x0):=IntWalk.i64_in _ ⟨by omega,by omega⟩
 rw [w7]
 refine ⟨by omega,by omega,⟨by omega,by omega⟩,?_⟩
 simp only [Rat.intCast_add,Rat.intCast_mul,Rat.intCast_sub]
 have hx:(0:Rat)<(x1:Rat) - x0:=by have:=Rat.intCast_lt_intCast.2 a3; grind
 have f1:((y1:Rat) - y0) / ((x1:Rat) - x0)*((x1:Rat) - x0)=(y1:Rat) - y0:=Rat.div_mul_cancel (by grind)
 generalize ((y1:Rat) - y0) / ((x1:Rat) - x0)=s at*
 have f3:(s*((e:Rat) - x0))*((x1:Rat) - x0)=(s*((x1:Rat) - x0))*(e - x0):=by grind
 rw [Rat.add_mul,f3,f1]
theorem alA {b:Int} {T:List (Int×Int)} (hb:0<=b/\b<=500) {x y N D M E:Int} (P:At (pl T x) N D 1000000 3000) (Q:At (pl T y) M E 1000000 3000) :
 CZ (IntKind.i64.wrap (b*(IntKind.i64.wrap ((IntKind.i64.wrap (N*E)) - (IntKind.i64.wrap (M*D)))))) (IntKind.i64.wrap ((IntKind.i64.wrap (1000*D))*E))=some (qS b T x y):=by
 have p1:=P.pos; have p2:=P.le; have p3:=P.num
 have q1:=Q.pos; have q2:=Q.le; have q3:=Q.num
 obtain ⟨m1,m2⟩:=MC (x:=N) (y:=E) (X:=3000*1000000) (Y:=1000000) (by omega) (by omega) (by omega) (by omega)
 obtain ⟨m3,m4⟩:=MC (x:=M) (y:=D) (X:=3000*1000000) (Y:=1000000) (by omega) (by omega) (by omega) (by omega)
 obtain ⟨m5,m6⟩:=MC (x:=D) (y:=E) (X:=1000000) (Y:=1000000) (by omega) (by omega) (by omega) (by omega)
 have m7:0<D*E:=Int.mul_pos p1 q1
 rw [IntWalk.i64_in (N*E) ⟨by omega,by omega⟩,IntWalk.i64_in (M*D) ⟨by omega,by omega⟩,IntWalk.i64_in (N*E - M*D) ⟨by omega,by omega⟩,IntWalk.i64_in (1000*D) ⟨by omega,by omega⟩]
 have hK:b*(N*E - M*D)<=500*3000000000000000/\ -(500*3000000000000000)<=b*(N*E - M*D):=by
  rcases Int.le_total 0 (N*E - M*D) with h | h
  ·have:=MC (x:=b) (y:=N*E - M*D) (X:=500) (Y:=3000000000000000) hb.1 hb.2 h (by omega)
   omega
  ·have:=MC (x:=b) (y:= -(N*E - M*D)) (X:=500) (Y:=3000000000000000) hb.1 hb.2 (by omega) (by omega)
   rw [Int.mul_neg] at this
   omega
 rw [IntWalk.i64_in (b*(N*E - M*D)) ⟨by omega,by omega⟩,Int.mul_assoc 1000 D E,IntWalk.i64_in (1000*(D*E)) ⟨by omega,by omega⟩,agE _ _ (by omega) (by omega) (by omega)]
 congr 1
 refine wL (by omega) ?_
 simp only [Rat.intCast_mul,Rat.intCast_sub,P.eq,Q.eq]
 have:((1000:Int):Rat)=1000:=rfl
 rw [this]; grind
def inS (T:List (Int×Int)) (l:List Int):Prop:=∀ x∈l,inT T x=true
theorem Nc {a b:Int} {T:List (Int×Int)} {L:List (List (Int×Int))} (ok:iI a b T L) {l:List Int} (h:inS T l):inS T (oK b T l):=by
 intro x hx
 rw [jZ ok]
 exact ZC ok.mix ok.asc l (fun y hy=>by have:=h y hy; rwa [jZ ok] at this) x hx
theorem xP {ρ:Type} {a b:Int} {T:List (Int×Int)} {L:List (List (Int×Int))} (ok:iI a b T L) (B:Int×List Int->cO (Int×List Int) ρ) (fin:List Int->Option ρ)
 (step:∀ (i:Nat) (l:List Int),i+1<l.length->l.length<1000000->inT T (l.getD i default)=true->inT T (l.getD (i+1) default)=true->
  B ((i:Int),l)= .next ((i:Int)+2,(l.set i (l.getD i default - qS b T (l.getD i default) (l.getD (i+1) default))).set (i+1) (l.getD (i+1) default+qS b T (l.getD i default) (l.getD (i+1) default))))
 (stop:∀ (i:Nat) (l:List Int),l.length<=i+1->l.length<1000000->i<=l.length->B ((i:Int),l)= .out (fin l)) :
 ∀ (l pre:List Int) (fuel:Nat),inS T l->pre.length+l.length<1000000->l.length<fuel->aS B fuel ((pre.length:Int),pre++l)=fin (pre++BL b T l)
 | [],pre,fuel,_,hl,hf=>by
  obtain ⟨m,rfl⟩:∃ m,fuel=m+1:=⟨fuel - 1,by omega⟩
  simp only [aS]
  rw [stop pre.length _ (by simp) (by simpa using hl) (by simp)]; rfl
 | [x],pre,fuel,_,hl,hf=>by
  obtain ⟨m,rfl⟩:∃ m,fuel=m+1:=⟨fuel - 1,by omega⟩
  simp only [aS]
  rw [stop pre.length _ (by simp) (by simpa using hl) (by simp)]; rfl
 | x::y::r,pre,fuel,h,hl,hf=>by
  obtain ⟨m,rfl⟩:∃ m,fuel=m+1:=⟨fuel - 1,by omega⟩
  have hx:=h x (by simp)
  have hy:=h y (by simp)
  have g1:(pre++x::y::r).getD pre.length default=x:=by simp [List.getD_eq_getElem?_getD]
  have g2:(pre++x::y::r).getD (pre.length+1) default=y:=by simp [List.getD_eq_getElem?_getD,List.getElem?_append_right]
  have hs:=step pre.length (pre++x::y::r) (by simp) (by simpa using hl) (by rw [g1]; exact hx) (by rw [g2]; exact hy)
  rw [g1,g2] at hs
  simp only [aS,hs]
  have e1:((pre++x::y::r).set pre.length (x - qS b T x y)).set (pre.length+1) (y+qS b T x y)=(pre++[x - qS b T x y,y+qS b T x y])++r:=by
   simp [List.set_append]
  rw [e1]
  have hin:=q_in ok.mix ok.asc (u:=(T.getD 0 default).1) (v:=(T.getD (T.length - 1) default).1) ((jZ ok x).1 hx) ((jZ ok y).1 hy)
  have hl':pre.length+(r.length+2)<1000000:=by simpa using hl
  have hf':r.length+2<m+1:=by simp only [List.length_cons] at hf; omega
  have:=xP ok B fin step stop r (pre++[x - qS b T x y,y+qS b T x y]) m (fun z hz=>h z (by simp [hz])) (by simp; omega) (by omega)
  rw [List.length_append] at this
  simpa [BL] using this
def aaj (g:Int->Int->Int):List Int->List Int->List Int
 | x::l,y::m=>g x y::aaj g l m
 | l,_=>l
theorem Eh {ρ:Type} (B:Int×List Int->cO (Int×List Int) ρ) (g:Int->Int->Int) (p:List Int) (fin:List Int->Option ρ)
 (step:∀ (i:Nat) (l:List Int),i<p.length->l.length=p.length->B ((i:Int),l)= .next ((i:Int)+1,l.set i (g (l.getD i default) (p.getD i default))))
 (stop:∀ (l:List Int),l.length=p.length->B ((p.length:Int),l)= .out (fin l)) :
 ∀ (l m pre mre:List Int) (fuel:Nat),pre.length=mre.length->l.length=m.length->p=mre++m->l.length<fuel->aS B fuel ((pre.length:Int),pre++l)=fin (pre++aaj g l m)
 | [],[],pre,mre,fuel,h1,_,h3,hf=>by
  obtain ⟨k,rfl⟩:∃ k,fuel=k+1:=⟨fuel - 1,by omega⟩
  have hp:p.length=pre.length:=by rw [h3]; simp [h1]
  have:=stop (pre++[]) (by simp [hp])
  rw [hp] at this
  simp only [aS]
  rw [this]; rfl
 | [],y::m,pre,mre,fuel,_,h2,_,_=>by simp at h2
 | x::l,[],pre,mre,fuel,_,h2,_,_=>by simp at h2
 | x::l,y::m,pre,mre,fuel,h1,h2,h3,hf=>by
  obtain ⟨k,rfl⟩:∃ k,fuel=k+1:=⟨fuel - 1,by omega⟩
  have h2':l.length=m.length:=by simpa using h2
  have hp:p.length=pre.length+(m.length+1):=by rw [h3]; simp [h1]
  have g1:(pre++x::l).getD pre.length default=x:=by simp [List.getD_eq_getElem?_getD]
  have g2:p.getD pre.length default=y:=by rw [h3,h1]; simp [List.getD_eq_getElem?_getD]
  have hs:=step pre.length (pre++x::l) (by omega) (by simp; omega)
  rw [g1,g2] at hs
  simp only [aS,hs]
  have e1:(pre++x::l).set pre.length (g x y)=(pre++[g x y])++l:=by simp [List.set_append]
  rw [e1]
  have:=Eh B g p fin step stop l m (pre++[g x y]) (mre++[y]) k (by simp [h1]) h2' (by simp [h3]) (by simp at hf; omega)
  rw [List.length_append] at this
  simpa [aaj] using this
theorem Cc:∀ l m:List Int,(∀ x∈l,-1000000000<=x/\x<=1000000000)->(∀ x∈m,-1000000000<=x/\x<=1000000000)->aaj (fun x y=>IntKind.i64.wrap (x+y)) l m=WT l m
 | [],_,_,_=>rfl
 | _::_,[],_,_=>rfl
 | x::l,y::m,h1,h2=>by
  have a1:=h1 x (by simp)
  have a2:=h2 y (by simp)
  simp only [aaj,WT]
  rw [IntWalk.i64_in (x+y) ⟨by omega,by omega⟩,Cc l m (fun z hz=>h1 z (by simp [hz])) (fun z hz=>h2 z (by simp [hz]))]
theorem VH (n:Int) (l:List Int) (h:0<l.length) (hw:IntKind.i64.wrap (l.getD 0 default - n)=l.getD 0 default - n):l.set 0 (IntKind.i64.wrap (l.getD 0 default - n))=KC n l:=by
 rw [hw]
 cases l with
 | nil=>simp at h
 | cons x r=>simp [KC]
theorem Tz {n:Int}:∀ {l:List Int} {z:Int},z∈KC n l->(∃ x∈l,z=x - n)\/z∈l
 | [],z,h=>Or.inr h
 | x::r,z,h=>by
  simp only [KC,List.mem_cons] at h
  rcases h with h | h
  ·exact Or.inl ⟨x,by simp,h⟩
  ·exact Or.inr (by simp [h])
theorem Ep (B:Int->cO Int Int) (l:List Int) (p:Int->Bool) (hl:l.length<1000000000)
 (step:∀ i:Nat,i<l.length->B (i:Int)=if p (l.getD i default) then .out (some (i:Int)) else .next ((i:Int)+1)) (stop:B (l.length:Int)= .out (some (-1))) :
 aS B 1000000000 0=some (NM p 0 l):=by
 have h:=kR (τ:=Unit) l B (fun i _=>i) (fun i _ x=>if p x then .out (some i) else .next ()) (fun _=>some (-1)) hl
  (fun i t hi=>by rw [step i hi]; cases p (l.getD i default)<;>simp [Jp])
  (fun t=>stop) ()
 rw [h]; exact EK p l 0
theorem agG {T:List (Int×Int)} (htl:0<T.length/\T.length<1000) (l:List Int) (a b:Int) (T':List (Int×Int)) (L L':List (List (Int×Int))) (hl:l.length<1000000000):C9 l a b T' L T L'=some (l.any fun x=> !inT T x):=by
 have h:LX l a b T' L T L'=some (NM (fun x=> !inT T x) 0 l):=by
  unfold LX
  refine Ep _ l _ hl (fun i hi=> ?_) (by simp [yG])
  simp only [yG,lS hi,if_true,if_pos (jJ hi),Int.toNat_natCast,wS i (by omega),ae1,agF a b T' L T L' _ htl.1 htl.2,Option.bind_some,aP]
 unfold C9
 rw [h,Option.bind_some,Nh _ l 0 (by omega)]
theorem Dq {a b:Int} {T:List (Int×Int)} {L:List (List (Int×Int))} (ok:iI a b T L) (a':Int) (T':List (Int×Int)) (L' L'':List (List (Int×Int))) (i:Nat) (l:List Int) (hi:i+1<l.length) (hl:l.length<1000000) (hx:inT T (l.getD i default)=true) (hy:inT T (l.getD (i+1) default)=true) (z:cO (Int×List Int) ((List Int)×Int×Int)) :
 (if (decide ((IntKind.i64.wrap ((i:Int)+1))<(l.length:Int)))=true then
 if 0<=(i:Int)/\(i:Int)<(l.length:Int) then
  aP (yP a' b T' L' T L'' (l.getD (i:Int).toNat default)) fun v2=>
   if 0<=IntKind.i64.wrap ((i:Int)+1)/\IntKind.i64.wrap ((i:Int)+1)<(l.length:Int) then
    aP (yP a' b T' L' T L'' (l.getD (IntKind.i64.wrap ((i:Int)+1)).toNat default)) fun v3=>
     aP (CZ (IntKind.i64.wrap (b*(IntKind.i64.wrap ((IntKind.i64.wrap (v2.1*v3.2)) - (IntKind.i64.wrap (v3.1*v2.2)))))) (IntKind.i64.wrap ((IntKind.i64.wrap (1000*v2.2))*v3.2))) fun v4=>
      if 0<=(i:Int)/\(i:Int)<(l.length:Int) then
       if 0<=IntKind.i64.wrap ((i:Int)+1)/\IntKind.i64.wrap ((i:Int)+1)<(l.length:Int) then
        if 0<=(i:Int)/\(i:Int)<(l.length:Int) then
         if 0<=IntKind.i64.wrap ((i:Int)+1)/\IntKind.i64.wrap ((i:Int)+1)<(l.length:Int) then
          (.next (IntKind.i64.wrap ((i:Int)+2),(l.set (i:Int).toNat (IntKind.i64.wrap ((l.getD (i:Int).toNat default) - v4))).set (IntKind.i64.wrap ((i:Int)+1)).toNat (IntKind.i64.wrap ((l.getD (IntKind.i64.wrap ((i:Int)+1)).toNat default)+v4))):cO (Int×List Int) ((List Int)×Int×Int))
          else .out none
         else .out none
        else .out none
       else .out none
    else .out none
  else .out none
 else z)= .next ((i:Int)+2,(l.set i (l.getD i default - qS b T (l.getD i default) (l.getD (i+1) default))).set (i+1) (l.getD (i+1) default+qS b T (l.getD i default) (l.getD (i+1) default))):=by
 obtain ⟨N,D,h1,P⟩:=ae5 ok a' b T' L' L'' (l.getD i default)
 obtain ⟨M,E,h2,Q⟩:=ae5 ok a' b T' L' L'' (l.getD (i+1) default)
 have e1:IntKind.i64.wrap ((i:Int)+1)=((i+1:Nat):Int):=by rw [wS i (by omega)]; omega
 have e2:IntKind.i64.wrap ((i:Int)+2)=(i:Int)+2:=IntWalk.i64_in _ ⟨by omega,by omega⟩
 have hq:=q_in ok.mix ok.asc (u:=(T.getD 0 default).1) (v:=(T.getD (T.length - 1) default).1) ((jZ ok _).1 hx) ((jZ ok _).1 hy)
 have r1:=ok.srt.rng 0 (by have:=ok.Xd; omega)
 have r2:=ok.srt.rng (T.length - 1) (by have:=ok.Xd; omega)
 rw [e1,e2,Int.toNat_natCast,Int.toNat_natCast,if_pos (lS hi),if_pos (jJ (show i<l.length by omega)),h1,h2]
 simp only [aP,if_pos (jJ hi),alA ok.mix P Q,if_pos (jJ (show i<l.length by omega))]
 rw [IntWalk.i64_in _ ⟨by omega,by omega⟩,IntWalk.i64_in (l.getD (i+1) default+_) ⟨by omega,by omega⟩]
theorem aeE {a b:Int} {T:List (Int×Int)} {L:List (List (Int×Int))} (ok:iI a b T L) {v:Rat} {N D:Int} (h:At v N D 1000000 3000):(N:Rat) / D=v:=by
 have h1:=h.pos
 have h2:(0:Rat)<D:=Rat.intCast_pos.2 h1
 rw [h.eq]; exact Rat.mul_div_cancel (by grind)
theorem ZK {a b:Int} {T:List (Int×Int)} {L:List (List (Int×Int))} (ok:iI a b T L) {i e N D:Int} (hi:0<=i/\i<L.length) (P:At (pl T e) N D 1000000 3000) :
 ∃ A B,AO (L.getD i.toNat default) N D=some (A,B)/\AQ (L.getD i.toNat default) N D=some (A,B)/\CZ A B=some (mM T (L.getD i.toNat default) e):=by
 have hl:=ok.laws i.toNat (by omega)
 have p1:=P.pos; have p2:=P.le
 obtain ⟨A,B,h1,h2,Q⟩:=Dx hl.poly (by decide) (by decide) N D p1 p2
 refine ⟨A,B,h1,h2,?_⟩
 have q1:=Q.pos; have q2:=Q.le; have q3:=Q.num
 rw [agE A B q1 (by omega) (by omega)]
 have:=Q.eq
 rw [aeE ok P] at this
 rw [wL q1 this]; rfl
theorem alL {a b:Int} {T:List (Int×Int)} {L:List (List (Int×Int))} (ok:iI a b T L) {i:Int} (e:Int) (hi:0<=i/\i<L.length):XO a b T L T L i e=some (mM T (L.getD i.toNat default) e):=by
 obtain ⟨N,D,h1,P⟩:=ae5 ok a b T L L e
 obtain ⟨A,B,h2,_,h3⟩:=ZK ok hi P
 unfold XO
 rw [if_pos hi,h1,Option.bind_some]
 simp only
 rw [h2,Option.bind_some]
 simp only
 rw [h3,Option.bind_some]
structure HY (T:List (Int×Int)) (L:List (List (Int×Int))) (l p:List Int) (law:Int):Prop where
 ins:inS T l
 len:p.length=l.length
 pos:0<l.length/\l.length<1000
 pow:∀ x∈p,0<=x/\x<=10000
 law:0<=law/\law<L.length
theorem H7 {b:Int} {T:List (Int×Int)} {l:List Int} (h:0<l.length):∃ x r,BL b T l=x::r/\oK b T l=[x]++BL b T r:=by
 have hl:=pR b T l
 cases hm:BL b T l with
 | nil=>rw [hm] at hl; simp at hl; omega
 | cons x r=>exact ⟨x,r,rfl,by unfold oK; rw [hm]; rfl⟩
theorem ahk {a b:Int} {T:List (Int×Int)} {L:List (List (Int×Int))} (ok:iI a b T L) {l:List Int} (h:inS T l):inS T (BL b T l):=fun x hx=>by
 rw [jZ ok]
 exact xO ok.mix ok.asc l (fun y hy=>by have:=h y hy; rwa [jZ ok] at this) x hx
theorem DR {a b:Int} {T:List (Int×Int)} {L:List (List (Int×Int))} (ok:iI a b T L) {i:Int} (e:Int) (hi:0<=i/\i<L.length):0<=mM T (L.getD i.toNat default) e/\mM T (L.getD i.toNat default) e<=1000:=by
 have hl:=ok.laws i.toNat (by omega)
 exact ZJ hl.asc hl.yr' e
theorem V6 {a b:Int} {T:List (Int×Int)} {L:List (List (Int×Int))} (ok:iI a b T L) {l p:List Int} {law:Int} (h:HY T L l p law) (n:Int) (hn:0<=n/\n<=1000) :
 aaj (fun x y=>IntKind.i64.wrap (x+y)) (KC n (oK b T l)) p=WT (KC n (oK b T l)) p:=by
 refine Cc _ _ (fun x hx=> ?_) (fun x hx=>by have:=h.pow x hx; omega)
 have hm:=Nc ok h.ins
 rcases Tz hx with ⟨y,hy,rfl⟩ | hy
 ·have:=xQ ok (hm y hy); omega
 ·have:=xQ ok (hm x hy); omega
theorem ZA {a b:Int} {T:List (Int×Int)} {L:List (List (Int×Int))} (ok:iI a b T L) {l p:List Int} {law:Int} (h:HY T L l p law) (n:Int) (hn:0<=n/\n<=1000):(oK b T l).set 0 (IntKind.i64.wrap ((oK b T l).getD 0 default - n))=KC n (oK b T l):=by
 have hl:=xw b T l
 have hp:=h.pos
 refine VH n _ (by omega) (IntWalk.i64_in _ ?_)
 have hm:inT T ((oK b T l).getD 0 default)=true:=by
  refine Nc ok h.ins _ ?_
  cases hq:oK b T l with
  | nil=>rw [hq] at hl; simp at hl; omega
  | cons x r=>simp
 have:=xQ ok hm
 exact ⟨by omega,by omega⟩
theorem p96 {a b:Int} {T:List (Int×Int)} {L:List (List (Int×Int))} (ok:iI a b T L) {l p:List Int} {law:Int} (h:HY T L l p law) :
 r81 a b T L T L l p law=some (jB b T (L.getD law.toNat default) l p,mM T (L.getD law.toNat default) (hd (oK b T l)),if (jB b T (L.getD law.toNat default) l p).all (inT T)=true then 0 else 22):=by
 have hp:=h.pos
 have htl:=ok.Xd
 unfold r81 LZ
 rw [if_pos ⟨by omega,by omega⟩,Option.bind_some]
 have m1:=xP ok (OD a b T L T L p law) (fun l'=>aS (Hz a b T L T L p law) 1000000000 (1,l')) (fun i l' hi hl hx hy=>Dq ok a T L L i l' hi hl hx hy _) (fun i l' hi hl _=>by
  have e1:¬ (decide ((IntKind.i64.wrap ((i:Int)+1))<(l'.length:Int)))=true:=by rw [decide_eq_true_eq,wS i (by omega)]; omega
  simp only [OD,if_neg e1]) l [] 1000000000 h.ins (by simp; omega) (by omega)
 simp only [List.nil_append,List.length_nil] at m1
 rw [show ((0:Nat):Int)=0 from rfl] at m1
 rw [m1]
 obtain ⟨x,r,hx,hs⟩:=H7 (b:=b) (T:=T) hp.1
 have hl2:=pR b T l
 rw [hx] at hl2 ⊢
 have hin:inS T (x::r):=by rw [<- hx]; exact ahk ok h.ins
 have m2:=xP ok (Hz a b T L T L p law) (fun l'=>(if 0<=0/\0<(l'.length:Int) then
  (XO a b T L T L law (l'.getD 0 default)).bind fun v20=>
   if 0<=0/\0<(l'.length:Int) then
    if 0<=0/\0<(l'.length:Int) then
     aS (EI a b T L T L p v20) 1000000000 (0,l'.set 0 (IntKind.i64.wrap ((l'.getD 0 default) - v20)))
     else none
    else none
  else none)) (fun i l' hi hl hx hy=>Dq ok a T L L i l' hi hl hx hy _) (fun i l' hi hl _=>by
  have e1:¬ (decide ((IntKind.i64.wrap ((i:Int)+1))<(l'.length:Int)))=true:=by rw [decide_eq_true_eq,wS i (by omega)]; omega
  unfold Hz
  exact if_neg e1) r [x] 1000000000 (fun z hz=>hin z (by simp [hz])) (by simp at hl2 ⊢; omega) (by simp at hl2; omega)
 simp only [List.length_cons,List.length_nil,List.singleton_append] at m2
 rw [show ((0+1:Nat):Int)=1 from rfl] at m2
 rw [m2]
 rw [List.singleton_append] at hs
 rw [<- hs]
 have hml:=xw b T l
 rw [if_pos ⟨by omega,by omega⟩,alL ok _ h.law,Option.bind_some]
 have hn:=DR ok ((oK b T l).getD 0 default) h.law
 rw [if_pos ⟨by omega,by omega⟩,if_pos ⟨by omega,by omega⟩,ZA ok h _ hn]
 have m3:=Eh (EI a b T L T L p (mM T (L.getD law.toNat default) ((oK b T l).getD 0 default))) (fun x y=>IntKind.i64.wrap (x+y)) p
  (fun l'=>(C9 l' a b T L T L).bind fun v24=>(nN (!v24) 22).bind fun v25=>some (l',mM T (L.getD law.toNat default) ((oK b T l).getD 0 default),v25))
  (fun i l' hi hl=>by
   simp only [EI,lS hi,if_true,if_pos (jJ hi),if_pos (jJ (show i<l'.length by omega)),Int.toNat_natCast,wS i (by have:=h.len; omega)])
  (fun l' hl=>by simp [EI])
  (KC (mM T (L.getD law.toNat default) ((oK b T l).getD 0 default)) (oK b T l)) p [] [] 1000000000 rfl (by rw [wQ,hml,h.len]) rfl (by rw [wQ]; omega)
 simp only [List.nil_append,List.length_nil] at m3
 rw [show ((0:Nat):Int)=0 from rfl] at m3
 rw [m3,V6 ok h _ hn]
 have ho:=DK b T (L.getD law.toNat default) l p
 show (C9 (jB b T (L.getD law.toNat default) l p) a b T L T L).bind _=_
 rw [agG ⟨by omega,by omega⟩ _ _ _ _ _ _ (by omega),Option.bind_some,p94,Option.bind_some]
 rw [List.any_eq_not_all_not,Bool.not_not]
 simp only [Bool.not_not]
 rfl
def hot (T:List (Int×Int)) (k x:Int):Bool:=decide ((k:Rat)<=pl T x)
def dA (a:Int) (L:List (List (Int×Int))) (l:List Int) (law:Int):Int:=
 dL [bW ((l.length:Int) == a) 10,bW (l.all fun x=>dW x 0 10000) 2,bW (dW law 0 ((L.length:Int) - 1)) 6]
theorem aoi (l:List Int) (hl:l.length<1000000000):aag l=some (l.any fun x=> !dW x 0 10000):=by
 have h:LY l=some (NM (fun x=> !dW x 0 10000) 0 l):=by
  unfold LY
  refine Ep _ l _ hl (fun i hi=> ?_) (by simp [yH])
  simp only [yH,lS hi,if_true,if_pos (jJ hi),Int.toNat_natCast,wS i (by omega),aeX,P6,p90,Option.bind_some,aP]
 unfold aag
 rw [h,Option.bind_some,Nh _ l 0 (by omega)]
theorem alO (a b:Int) (T:List (Int×Int)) (L:List (List (Int×Int))) (T':List (Int×Int)) (L':List (List (Int×Int))) (law:Int) (h:L'.length<1000):P5 a b T L T' L' law=some (bW (dW law 0 ((L'.length:Int) - 1)) 6):=by
 unfold P5
 rw [IntWalk.i64_in ((L'.length:Int) - 1) ⟨by omega,by omega⟩,p90,Option.bind_some,p94,Option.bind_some]
theorem p92 (a b:Int) (T:List (Int×Int)) (L:List (List (Int×Int))) (T':List (Int×Int)) (L':List (List (Int×Int))) (l:List Int) (law:Int) (h:L'.length<1000) (hl:l.length<1000000000):aah a b T L T' L' l law=some (dA a L' l law):=by
 unfold aah dA
 rw [aoi l hl,Option.bind_some,p94,Option.bind_some,p94,Option.bind_some,alO a b T L T' L' law h,Option.bind_some,p91 _ (by simp),Option.bind_some,List.any_eq_not_all_not,Bool.not_not]
 simp only [Bool.not_not]
theorem EW {a:Int} {L:List (List (Int×Int))} {l:List Int} {law:Int} (h:dA a L l law=0):(l.length:Int)=a/\(∀ x∈l,0<=x/\x<=10000)/\0<=law/\law<L.length:=by
 unfold dA at h
 by_cases h1:(l.length:Int)=a
 ·have e1:((l.length:Int) == a)=true:=by simpa using h1
  rw [e1] at h
  cases h2:(l.all fun x=>dW x 0 10000) with
  | false=>rw [h2] at h; simp [dL,bW] at h
  | true=>
   rw [h2] at h
   cases h3:dW law 0 ((L.length:Int) - 1) with
   | false=>rw [h3] at h; simp [dL,bW] at h
   | true=>
    rw [gU] at h3
    rw [List.all_eq_true] at h2
    exact ⟨h1,fun x hx=>gU.1 (h2 x hx),by omega,by omega⟩
 ·have e1:((l.length:Int) == a)=false:=by simpa using h1
  rw [e1] at h; simp [dL,bW] at h
theorem lH {a:Int} {T:List (Int×Int)} {s:List Int} (h:(dw a T s).2=0):(s.length:Int)=a/\inS T s/\dw a T s=(0,0):=by
 unfold dw at h ⊢
 by_cases ha:(s.length:Int)=a
 ·rw [if_pos ha] at h ⊢
  cases hs:dQ (stF T s) 0 s.length with
  | none=>
   refine ⟨ha,fun x hx=> ?_,rfl⟩
   obtain ⟨i,hi,rfl⟩:=pW hx
   have:=iM hs i (by omega) (by omega)
   unfold stF at this
   split at this
   ·assumption
   ·cases this
  | some v=>
   obtain ⟨j,_,_,hj⟩:=fE hs
   rw [hs] at h
   unfold stF at hj
   split at hj
   ·cases hj
   ·cases hj; simp at h
 ·rw [if_neg ha] at h; simp at h
theorem vS {a:Int} {T:List (Int×Int)} {s:List Int} (h1:(s.length:Int)=a) (h2:inS T s):dw a T s=(0,0):=by
 unfold dw
 rw [if_pos h1,sH]
 ·rfl
 ·intro j _ hj
  unfold stF
  rw [if_pos (h2 _ (by
   have hj':j<s.length:=by omega
   rw [List.getD_eq_getElem?_getD,List.getElem?_eq_getElem hj',Option.getD_some]; exact List.getElem_mem hj'))]
def zK (a b:Int) (T:List (Int×Int)) (L:List (List (Int×Int))) (s:List Int):Int×Int×(List (Int×Int))×(List ((List (Int×Int))))×(List (Int×Int))×(List ((List (Int×Int))))×Int:=
 if (bI a b T L).2=0 then (a,b,T,L,T,L,(dw a T s).2) else (0,0,[],[],[],[],(bI a b T L).2)
def lJ (a b:Int) (T:List (Int×Int)) (L:List (List (Int×Int))) (s:List Int):Int:=if (bI a b T L).2=0 then (dw a T s).2 else (bI a b T L).2
theorem p89 (a b:Int) (T:List (Int×Int)) (L:List (List (Int×Int))) (s:List Int) (hT:T.length<1000) (hn:L.length<1000) (hL:∀ x∈L,x.length<1000) (hs:s.length<1000000):r79 a b T L s=some (zK a b T L s):=by
 unfold r79 zK
 rw [agI a b T L hT hn hL,Option.bind_some]
 by_cases h:(bI a b T L).2=0
 ·have ok:=oq h
  simp only [h,if_true]
  rw [if_pos (by decide),agH a b T L T L s ok.tpos ok.tlt hs,Option.bind_some]
 ·simp only [h,if_false]
  rw [if_neg (by simpa using h)]
theorem p45 (a b:Int) (T:List (Int×Int)) (L:List (List (Int×Int))) (hn:L.length<1000) (hL:∀ x∈L,x.length<1000):r74 a b T L=some (bI a b T L).2:=by
 unfold r74
 rw [p26 a b T L hn hL,Option.bind_some]
structure jg (a b:Int) (T:List (Int×Int)) (L:List (List (Int×Int))) (s:List Int):Prop where
 ok:iI a b T L
 set0:(bI a b T L).2=0
 len:(s.length:Int)=a
 ins:inS T s
theorem tJ {a b:Int} {T:List (Int×Int)} {L:List (List (Int×Int))} {s:List Int} (h:lJ a b T L s=0):jg a b T L s:=by
 unfold lJ at h
 by_cases h0:(bI a b T L).2=0
 ·rw [if_pos h0] at h
  have:=lH h
  exact ⟨oq h0,h0,this.1,this.2.1⟩
 ·rw [if_neg h0] at h; exact absurd h h0
theorem jg.open {a b:Int} {T:List (Int×Int)} {L:List (List (Int×Int))} {s:List Int} (h:jg a b T L s):zK a b T L s=(a,b,T,L,T,L,0):=by
 unfold zK
 rw [if_pos h.set0,vS h.len h.ins]
theorem jg.lJ {a b:Int} {T:List (Int×Int)} {L:List (List (Int×Int))} {s:List Int} (h:jg a b T L s):lJ a b T L s=0:=by
 unfold YtkbdjphdhcgmaaaGreatDoor.lJ
 rw [if_pos h.set0,vS h.len h.ins]
theorem jg.step {a b:Int} {T:List (Int×Int)} {L:List (List (Int×Int))} {s p:List Int} {law:Int} (h:jg a b T L s) (hd:dA a L p law=0):HY T L s p law:=by
 have h1:=EW hd
 have h2:=h.len
 have h3:=h.ok.cells
 exact ⟨h.ins,by omega,⟨by omega,by omega⟩,h1.2.1,h1.2.2⟩
theorem jg.next {a b:Int} {T:List (Int×Int)} {L:List (List (Int×Int))} {s p:List Int} {law:Int} (h:jg a b T L s) (ho:(jB b T (L.getD law.toNat default) s p).all (inT T)=true):jg a b T L (jB b T (L.getD law.toNat default) s p):=
 ⟨h.ok,h.set0,by rw [DK]; exact h.len,fun x hx=>by rw [List.all_eq_true] at ho; exact ho x hx⟩
theorem eX {σ ρ:Type} (B:σ->cO σ ρ) (P:Nat->σ->Prop) (Q:Option ρ->Prop) (n:Nat)
 (step:∀ i s,i<n->P i s->(∃ s',B s= .next s'/\P (i+1) s')\/(∃ r,B s= .out r/\Q r))
 (stop:∀ s,P n s->∃ r,B s= .out r/\Q r) (s:σ) (h0:P 0 s) (fuel:Nat) (hn:n<fuel):Q (aS B fuel s):=by
 have key:∀ (k i fuel:Nat) (s:σ),i+k=n->k<fuel->P i s->Q (aS B fuel s):=by
  intro k
  induction k with
  | zero=>
   intro i fuel s hi hf hP
   obtain ⟨m,rfl⟩:∃ m,fuel=m+1:=⟨fuel - 1,by omega⟩
   obtain rfl:i=n:=by omega
   obtain ⟨r,h1,h2⟩:=stop s hP
   simp only [aS,h1]; exact h2
  | succ k ih=>
   intro i fuel s hi hf hP
   obtain ⟨m,rfl⟩:∃ m,fuel=m+1:=⟨fuel - 1,by omega⟩
   rcases step i s (by omega) hP with ⟨s',h1,h2⟩ | ⟨r,h1,h2⟩
   ·simp only [aS,h1]; exact ih (i+1) m s' (by omega) (by omega) h2
   ·simp only [aS,h1]; exact h2
 exact key n 0 fuel s (by omega) hn h0
theorem Eo {α σ τ ρ:Type} [Inhabited α] (l:List α) (B:σ->cO σ ρ) (mk:Nat->τ->σ) (F:List α->τ->Option ρ) (I:Nat->τ->Prop) {fuel:Nat} (hl:l.length<fuel)
 (step:∀ (i:Nat) (t:τ) (r:List α),i<l.length->I i t->l.drop i=l.getD i default::r->
  (∃ t',B (mk i t)= .next (mk (i+1) t')/\I (i+1) t'/\F (l.getD i default::r) t=F r t')\/B (mk i t)= .out (F (l.getD i default::r) t))
 (stop:∀ t,I l.length t->B (mk l.length t)= .out (F [] t)) (t:τ) (h0:I 0 t):aS B fuel (mk 0 t)=F l t:=by
 have key:∀ (k i fuel:Nat) (t:τ),i+k=l.length->k<fuel->I i t->aS B fuel (mk i t)=F (l.drop i) t:=by
  intro k
  induction k with
  | zero=>
   intro i fuel t hi hf hI
   obtain ⟨m,rfl⟩:∃ m,fuel=m+1:=⟨fuel - 1,by omega⟩
   obtain rfl:i=l.length:=by omega
   simp only [aS,stop t hI,List.drop_length]
  | succ k ih=>
   intro i fuel t hi hf hI
   obtain ⟨m,rfl⟩:∃ m,fuel=m+1:=⟨fuel - 1,by omega⟩
   have hlt:i<l.length:=by omega
   have hd:l.drop i=l.getD i default::l.drop (i+1):=by
    rw [List.drop_eq_getElem_cons hlt]; simp [List.getD_eq_getElem?_getD,hlt]
   rw [hd]
   rcases step i t _ hlt hI hd with ⟨t',e1,e2,e3⟩ | e
   ·simp only [aS,e1]
    rw [e3]; exact ih (i+1) m t' (by omega) (by omega) e2
   ·simp only [aS,e]
 have:=key l.length 0 fuel t (by omega) hl h0
 simpa using this
theorem getD_mem {α:Type} [Inhabited α] {l:List α} {i:Nat} (h:i<l.length):l.getD i default∈l:=by
 rw [List.getD_eq_getElem?_getD,List.getElem?_eq_getElem h,Option.getD_some]; exact List.getElem_mem h
theorem XV:∀ l m:List Int,l.length=m.length->(∀ j,j<l.length->l.getD j default<=m.getD j default)->leL l m
 | [],[],_,_=>trivial
 | [],y::m,h,_=>by simp at h
 | x::l,[],h,_=>by simp at h
 | x::l,y::m,h,h2=>by
  refine ⟨by simpa using h2 0 (by simp),XV l m (by simpa using h) fun j hj=> ?_⟩
  have:=h2 (j+1) (by simp; omega)
  simpa using this
theorem wM {a:Int} {L:List (List (Int×Int))} {l:List Int} {law:Int} (h1:(l.length:Int)=a) (h2:∀ x∈l,0<=x/\x<=10000) (h3:0<=law/\law<L.length):dA a L l law=0:=by
 unfold dA
 have e1:((l.length:Int) == a)=true:=by simpa using h1
 have e2:(l.all fun x=>dW x 0 10000)=true:=by rw [List.all_eq_true]; intro x hx; exact gU.2 (h2 x hx)
 have e3:dW law 0 ((L.length:Int) - 1)=true:=gU.2 ⟨h3.1,by omega⟩
 rw [e1,e2,e3]; rfl
def Ze (b:Int) (T:List (Int×Int)) (law:List (Int×Int)) (s p:List Int):List Int×Int:=
 if (jB b T law s p).all (inT T)=true then (jB b T law s p,0) else ([],22)
def sG (a b:Int) (T:List (Int×Int)) (L:List (List (Int×Int))) (s p:List Int) (law:Int):List Int×Int:=
 if lJ a b T L s=0 then (if dA a L p law=0 then Ze b T (L.getD law.toNat default) s p else ([],dA a L p law)) else ([],lJ a b T L s)
theorem p64 (a b:Int) (T:List (Int×Int)) (L:List (List (Int×Int))) (s p:List Int) (law:Int) (hT:T.length<1000) (hn:L.length<1000) (hL:∀ x∈L,x.length<1000) (hs:s.length<1000000) (hp:p.length<1000000) :
 Xz a b T L s p law=some (sG a b T L s p law):=by
 unfold Xz sG
 rw [p89 a b T L s hT hn hL hs,Option.bind_some]
 by_cases h:lJ a b T L s=0
 ·have H:=tJ h
  rw [H.open,if_pos (by rfl),if_pos h]
  simp only
  rw [p92 a b T L T L p law hn (by omega),Option.bind_some]
  by_cases hd:dA a L p law=0
  ·rw [if_neg (by simpa using hd),if_pos hd,p96 H.ok (H.step hd),Option.bind_some]
   unfold Ze
   by_cases hc:(jB b T (L.getD law.toNat default) s p).all (inT T)=true
   ·simp only [if_pos hc]; rfl
   ·simp only [if_neg hc]; rfl
  ·rw [if_pos (by simpa using hd),if_neg hd]
 ·rw [if_neg h]
  have ho:(zK a b T L s).2.2.2.2.2.2=lJ a b T L s:=by unfold zK lJ; split<;>rfl
  rw [if_neg (by rw [ho]; simpa using h),if_pos (by rw [ho]; simpa using h),ho]
theorem jg.stepped {a b:Int} {T:List (Int×Int)} {L:List (List (Int×Int))} {s p:List Int} {law:Int} (h:jg a b T L s) (hd:dA a L p law=0):sG a b T L s p law=Ze b T (L.getD law.toNat default) s p:=by
 unfold sG
 rw [if_pos h.lJ,if_pos hd]
def lQ (e f:Int):Int:=if e=0 then f else e
theorem ZW (e f:Int):dL [e,f]=lQ e f:=by
 unfold lQ dL dL dL
 split
 ·split<;>simp_all
 ·rfl
theorem V9 {a b:Int} {T:List (Int×Int)} {L:List (List (Int×Int))} (ok:iI a b T L) {s u p w:List Int} {i j:Int} (hi:0<=i/\i<L.length) (hj:0<=j/\j<L.length) (hij:j<=i) (h:leL s u) (hp:leL p w) :
 leL (jB b T (L.getD i.toNat default) s p) (jB b T (L.getD j.toNat default) u w):=
 Lu ok.mix ok.asc (ok.laws i.toNat (by omega)).asc (fun x=>ok.DT j.toNat i.toNat (by omega) (by omega) x) h hp
def wu (lo hi:List Int) (i:Nat):Option (Int×Int):=if lo.getD i default>hi.getD i default then some ((i:Int),9) else none
def kN (a:Int) (T:List (Int×Int)) (lo hi:List Int):Int×Int:=
 if (dw a T lo).2=0 then (if (dw a T hi).2=0 then (dQ (wu lo hi) 0 lo.length).getD (0,0) else dw a T hi) else dw a T lo
theorem DN {ρ:Type} (o:Option ρ) (v:ρ):orE o (some v)=some (o.getD v):=by cases o<;>rfl
theorem aoh {a b:Int} {T:List (Int×Int)} {L:List (List (Int×Int))} (ok:iI a b T L) (lo hi:List Int) (h1:lo.length<1000000) (h2:hi.length<1000000):XI a b T L T L lo hi=some (kN a T lo hi):=by
 unfold XI kN
 rw [agH a b T L T L lo ok.tpos ok.tlt h1,Option.bind_some]
 by_cases c1:(dw a T lo).2=0
 ·rw [if_neg (by simpa using c1),if_pos c1,agH a b T L T L hi ok.tpos ok.tlt h2,Option.bind_some]
  by_cases c2:(dw a T hi).2=0
  ·have l1:=(lH c1).1
   have l2:=(lH c2).1
   rw [if_neg (by simpa using c2),if_pos c2, <- DN]
   refine gQ lo.length _ _ _ (by omega) (fun i hi'=> ?_) (by simp [EP])
   simp only [EP,lS hi',if_true,if_pos (jJ hi'),if_pos (jJ (show i<hi.length by omega)),Int.toNat_natCast,wS i (by omega),wu]
   by_cases hc:lo.getD i default>hi.getD i default
   ·rw [if_pos (decide_eq_true hc),if_pos hc]
   ·rw [if_neg (by rw [decide_eq_true_eq]; exact hc),if_neg hc]
  ·rw [if_pos (by simpa using c2),if_neg c2]
 ·rw [if_pos (by simpa using c1),if_neg c1]
theorem p39 (a b:Int) (T:List (Int×Int)) (L:List (List (Int×Int))) (lo hi:List Int) (hT:T.length<1000) (hn:L.length<1000) (hL:∀ x∈L,x.length<1000) (h1:lo.length<1000000) (h2:hi.length<1000000) :
 aam a b T L lo hi=some (if (bI a b T L).2=0 then kN a T lo hi else (0,(bI a b T L).2)):=by
 unfold aam
 rw [agI a b T L hT hn hL,Option.bind_some]
 by_cases h:(bI a b T L).2=0
 ·have ok:=oq h
  rw [if_pos h,if_pos h]
  simp only
  rw [if_neg (by simp),aoh ok lo hi h1 h2,Option.bind_some]
 ·rw [if_neg h,if_neg h]
  simp only
  rw [if_pos (by simpa using h)]
theorem aex {a:Int} {T:List (Int×Int)} {lo hi:List Int} (h:(kN a T lo hi).2=0):(dw a T lo).2=0/\(dw a T hi).2=0/\leL lo hi/\kN a T lo hi=(0,0):=by
 unfold kN at h ⊢
 by_cases c1:(dw a T lo).2=0
 ·rw [if_pos c1] at h ⊢
  by_cases c2:(dw a T hi).2=0
  ·rw [if_pos c2] at h ⊢
   have l1:=(lH c1).1
   have l2:=(lH c2).1
   cases hs:dQ (wu lo hi) 0 lo.length with
   | none=>
    refine ⟨c1,c2,XV lo hi (by omega) fun j hj=> ?_,rfl⟩
    have:=iM hs j (by omega) (by omega)
    unfold wu at this
    split at this
    ·cases this
    ·omega
   | some v=>
    obtain ⟨j,_,_,hj⟩:=fE hs
    rw [hs] at h
    unfold wu at hj
    split at hj
    ·cases hj; simp at h
    ·cases hj
  ·rw [if_neg c2] at h; exact absurd h c2
 ·rw [if_neg c1] at h; exact absurd h c1
def nP (a b:Int) (T:List (Int×Int)) (L:List (List (Int×Int))) (lo hi:List Int):Int:=if (bI a b T L).2=0 then (kN a T lo hi).2 else (bI a b T L).2
structure BoxOk (a b:Int) (T:List (Int×Int)) (L:List (List (Int×Int))) (u v:List Int):Prop where
 lo:jg a b T L u
 hi:jg a b T L v
 le:leL u v
theorem WC {a b:Int} {T:List (Int×Int)} {L:List (List (Int×Int))} {lo hi:List Int} (h:nP a b T L lo hi=0):BoxOk a b T L lo hi:=by
 unfold nP at h
 by_cases h0:(bI a b T L).2=0
 ·rw [if_pos h0] at h
  obtain ⟨h1,h2,h3,_⟩:=aex h
  exact ⟨tJ (by unfold lJ; rw [if_pos h0]; exact h1),tJ (by unfold lJ; rw [if_pos h0]; exact h2),h3⟩
 ·rw [if_neg h0] at h; exact absurd h h0
def ach (r:Int×Int):Int:=lQ (bW (dW r.1 0 10000 && dW r.2 0 10000) 2) (bW (decide (r.1<=r.2)) 9)
def BG:List (Int×Int)->Int
 | []=>0
 | r::q=>lQ (ach r) (BG q)
def aha (L:List (List (Int×Int))) (lo hi:Int):Int:=lQ (bW (dW lo 0 ((L.length:Int) - 1)) 6) (lQ (bW (dW hi 0 ((L.length:Int) - 1)) 6) (bW (decide (lo<=hi)) 9))
def Dt (a:Int) (L:List (List (Int×Int))) (ps:List (Int×Int)) (lo hi:Int):Int:=lQ (bW ((ps.length:Int) == a) 10) (lQ (BG ps) (aha L lo hi))
structure aeF (a:Int) (L:List (List (Int×Int))) (ps:List (Int×Int)) (lo hi:Int):Prop where
 len:(ps.length:Int)=a
 rng:∀ r∈ps,(0<=r.1/\r.1<=10000)/\(0<=r.2/\r.2<=10000)/\r.1<=r.2
 law:0<=lo/\lo<=hi/\hi<L.length
theorem jo {x y:Int} (h:lQ x y=0):x=0/\y=0:=by
 unfold lQ at h
 by_cases hx:x=0
 ·rw [if_pos hx] at h; exact ⟨hx,h⟩
 ·rw [if_neg hx] at h; exact absurd h hx
theorem qI {b:Bool} {e:Int} (h:bW b e=0) (he:e≠0):b=true:=by
 cases b with
 | true=>rfl
 | false=>exact absurd h he
theorem y9:∀ {l:List (Int×Int)},BG l=0->∀ r∈l,(0<=r.1/\r.1<=10000)/\(0<=r.2/\r.2<=10000)/\r.1<=r.2
 | [],_,r,hr=>by simp at hr
 | x::q,h,r,hr=>by
  obtain ⟨h1,h2⟩:=jo h
  rcases List.mem_cons.1 hr with rfl | hr
  ·obtain ⟨g1,g2⟩:=jo h1
   have g1:=qI g1 (by decide)
   have g2:=qI g2 (by decide)
   rw [Bool.and_eq_true,gU,gU] at g1
   exact ⟨g1.1,g1.2,of_decide_eq_true g2⟩
  ·exact y9 h2 r hr
theorem Zf {a:Int} {L:List (List (Int×Int))} {ps:List (Int×Int)} {lo hi:Int} (h:Dt a L ps lo hi=0):aeF a L ps lo hi:=by
 obtain ⟨h1,h2⟩:=jo h
 obtain ⟨h3,h4⟩:=jo h2
 obtain ⟨h5,h6⟩:=jo h4
 obtain ⟨h7,h8⟩:=jo h6
 have g1:=qI h1 (by decide)
 have g5:=gU.1 (qI h5 (by decide))
 have g7:=gU.1 (qI h7 (by decide))
 have g8:=of_decide_eq_true (qI h8 (by decide))
 exact ⟨by simpa using g1,y9 h3,g5.1,g8,by omega⟩
def boxS (b:Int) (T:List (Int×Int)) (L:List (List (Int×Int))) (lo hi:List Int) (d:(List (Int×Int))×Int×Int):Option (List Int×List Int):=
 if (jB b T (L.getD d.2.2.toNat default) lo (d.1.map (·.1))).all (inT T)=true/\(jB b T (L.getD d.2.1.toNat default) hi (d.1.map (·.2))).all (inT T)=true then
  some (jB b T (L.getD d.2.2.toNat default) lo (d.1.map (·.1)),jB b T (L.getD d.2.1.toNat default) hi (d.1.map (·.2)))
 else none
theorem ZH (l:List (Int×Int)) (h:∀ r∈l,r.1<=r.2):leL (l.map (·.1)) (l.map (·.2)):=by
 induction l with
 | nil=>trivial
 | cons x r ih=>exact ⟨h x (by simp),ih fun y hy=>h y (by simp [hy])⟩
theorem BoxOk.next {a b:Int} {T:List (Int×Int)} {L:List (List (Int×Int))} {lo hi:List Int} (H:BoxOk a b T L lo hi) {d:(List (Int×Int))×Int×Int} (hd:Dt a L d.1 d.2.1 d.2.2=0) {y:List Int×List Int} (hy:boxS b T L lo hi d=some y):BoxOk a b T L y.1 y.2:=by
 have S:=Zf hd
 unfold boxS at hy
 split at hy
 ·rename_i hc
  cases hy
  exact ⟨H.lo.next hc.1,H.hi.next hc.2,V9 H.lo.ok ⟨by have:=S.law; omega,S.law.2.2⟩ ⟨S.law.1,by have:=S.law; omega⟩ S.law.2.1 H.le (ZH d.1 fun r hr=>(S.rng r hr).2.2)⟩
 ·cases hy
theorem p46 {a b:Int} {T:List (Int×Int)} {L:List (List (Int×Int))} (ok:iI a b T L) (lo hi:List Int) (h1:lo.length<1000000) (h2:hi.length<1000000):acR a b T L lo hi=some (kN a T lo hi):=by
 unfold acR kN
 rw [p27 a b T L lo ok.tpos ok.tlt h1,Option.bind_some]
 by_cases c1:(dw a T lo).2=0
 ·rw [if_neg (by simpa using c1),if_pos c1,p27 a b T L hi ok.tpos ok.tlt h2,Option.bind_some]
  by_cases c2:(dw a T hi).2=0
  ·have l1:=(lH c1).1
   have l2:=(lH c2).1
   rw [if_neg (by simpa using c2),if_pos c2, <- DN, <- l1]
   refine gQ lo.length _ _ _ (by omega) (fun i hi'=> ?_) (by simp [Ar])
   simp only [Ar,lS hi',if_true,if_pos (jJ hi'),if_pos (jJ (show i<hi.length by omega)),Int.toNat_natCast,wS i (by omega),wu]
   by_cases hc:lo.getD i default>hi.getD i default
   ·rw [if_pos (decide_eq_true hc),if_pos hc]
   ·rw [if_neg (by rw [decide_eq_true_eq]; exact hc),if_neg hc]
  ·rw [if_pos (by simpa using c2),if_neg c2]
 ·rw [if_pos (by simpa using c1),if_neg c1]
theorem p82 (a b:Int) (T:List (Int×Int)) (L:List (List (Int×Int))) (lo hi:List Int) (hn:L.length<1000) (hL:∀ x∈L,x.length<1000) (h1:lo.length<1000000) (h2:hi.length<1000000):r75 a b T L lo hi=some (nP a b T L lo hi):=by
 unfold r75 nP
 rw [p45 a b T L hn hL,Option.bind_some]
 by_cases h:(bI a b T L).2=0
 ·have ok:=oq h
  rw [if_neg (by simpa using h),if_pos h,p46 ok lo hi h1 h2,Option.bind_some]
 ·rw [if_pos (by simpa using h),if_neg h]
theorem p40 (u v:List Int) (h1:u.length<1000000) (h2:v.length<1000000):r50 u v=some (u,v):=by
 unfold r50
 rw [p19 u (by omega),Option.bind_some,p19 v (by omega),Option.bind_some]
theorem ER (B:Int×Int->cO (Int×Int) Int) (hB:∀ x y:Int,0<=x->x<=9000000000000000000->0<=y->B (x,y)=if y=0 then .out (some x) else .next (y,x.tmod y)) :
 ∀ (n:Nat) (x y:Int) (fuel:Nat),0<=x->x<=9000000000000000000->0<=y->y<=9000000000000000000->y<n->n<fuel->aS B fuel (x,y)=some (Int.gcd x y:Int)
 | 0,x,y,fuel,_,_,_,_,_,_=>by omega
 | n+1,x,y,fuel,h1,h2,h3,h3',h4,h5=>by
  obtain ⟨m,rfl⟩:∃ m,fuel=m+1:=⟨fuel - 1,by omega⟩
  simp only [aS,hB x y h1 h2 h3]
  by_cases hy:y=0
  ·rw [if_pos hy]
   simp only
   rw [hy,Int.gcd_zero_right,Int.natAbs_of_nonneg h1]
  ·rw [if_neg hy]
   simp only
   have e1:x.tmod y=x % y:=Int.tmod_eq_emod_of_nonneg h1
   have e2:=Int.emod_nonneg x hy
   have e3:=Int.emod_lt_of_pos x (show 0<y by omega)
   rw [e1,ER B hB n y (x % y) m h3 h3' e2 (by omega) (by omega) (by omega)]
   congr 2
   rw [Int.emod_def,Int.sub_eq_add_neg, <- Int.mul_neg,Int.gcd_add_mul_left_right,Int.gcd_comm]
theorem adn (x:Int) (h1:0<=x) (h2:x<=9000000000000000000):(if x<IntKind.i64.wrap (0 - x) then IntKind.i64.wrap (0 - x) else x)=x:=by
 rw [IntWalk.i64_in (0 - x) ⟨by omega,by omega⟩,if_neg (by omega)]
theorem al8 (x y:Int) (h1:0<=x) (h2:x<=9000000000000000000) (h3:0<=y) (h4:y<=100000000):XE x y=some (Int.gcd x y:Int):=by
 unfold XE
 refine ER EO (fun x y hx hx2 hy=> ?_) 100000001 x y 1000000000 h1 h2 h3 (by omega) (by omega) (by omega)
 unfold EO
 simp only [adn x hx hx2]
 by_cases h:y=0
 ·rw [if_pos h,if_neg (by simpa using h)]
 ·rw [if_neg h,if_pos (by simpa using h),if_pos h]
theorem low {v:Rat} {N D:Int} (h:At v N D 1000000 3000):(Int.gcd N D:Int)≠0/\IntKind.i64.wrap (N.tdiv (Int.gcd N D))=v.num/\IntKind.i64.wrap (D.tdiv (Int.gcd N D))=v.den:=by
 have h1:=h.pos; have h2:=h.le; have h3:=h.num
 have h0:(0:Rat)<D:=Rat.intCast_pos.2 h1
 have e:v=Rat.divInt N D:=by
  rw [Rat.divInt_eq_div,h.eq,Rat.mul_div_cancel (by grind)]
 have hg:0<Int.gcd N D:=by
  apply Nat.pos_of_ne_zero; intro hz
  rw [Int.gcd_eq_zero_iff] at hz; omega
 have g0:(0:Int)<(Int.gcd N D:Int):=by omega
 have n1:N.tdiv (Int.gcd N D)=N / (Int.gcd N D:Int):=Int.tdiv_eq_ediv_of_nonneg h3.1
 have d1:D.tdiv (Int.gcd N D)=D / (Int.gcd N D:Int):=Int.tdiv_eq_ediv_of_nonneg (by omega)
 have b1:0<=N / (Int.gcd N D:Int):=Int.ediv_nonneg h3.1 (by omega)
 have b2:N / (Int.gcd N D:Int)<=N:=Int.ediv_le_self _ h3.1
 have b3:0<=D / (Int.gcd N D:Int):=Int.ediv_nonneg (by omega) (by omega)
 have b4:D / (Int.gcd N D:Int)<=D:=Int.ediv_le_self _ (by omega)
 refine ⟨by omega,?_,?_⟩
 ·rw [n1,IntWalk.i64_in _ ⟨by omega,by omega⟩,e,Rat.num_divInt,Int.sign_eq_one_of_pos h1,Int.one_mul,Int.gcd_comm]
 ·rw [d1,IntWalk.i64_in _ ⟨by omega,by omega⟩,e,Rat.den_divInt,if_neg (by omega),Int.gcd_comm D N]
  have:(D.natAbs:Int)=D:=Int.natAbs_of_nonneg (by omega)
  rw [Int.natCast_ediv,this]
def aeI (a b:Int) (T:List (Int×Int)) (L:List (List (Int×Int))):Int:=(bI a b T L).2
theorem p53 (a b:Int) (T:List (Int×Int)) (L:List (List (Int×Int))) (e:Int) (hT:T.length<1000) (hn:L.length<1000) (hL:∀ x∈L,x.length<1000) :
 P8 a b T L e=some (if aeI a b T L=0 then (if inT T e=true then ((pl T e).num,((pl T e).den:Int),0) else (0,0,2)) else (0,0,aeI a b T L)):=by
 unfold P8 aeI
 rw [agI a b T L hT hn hL,Option.bind_some]
 by_cases h:(bI a b T L).2=0
 ·have ok:=oq h
  rw [if_pos h,if_pos h]
  simp only
  rw [if_pos (by rfl),agF a b T L T L e ok.tpos ok.tlt,Option.bind_some,p94,Option.bind_some]
  cases he:inT T e with
  | false=>rfl
  | true=>
   obtain ⟨N,D,e1,P⟩:=ae5 ok a b T L L e
   obtain ⟨g0,g1,g2⟩:=low P
   have q1:=P.pos; have q2:=P.le; have q3:=P.num
   rw [if_neg (by decide),e1,Option.bind_some,al8 N D q3.1 (by omega) (by omega) (by omega),Option.bind_some,if_pos g0,if_pos g0,g1,g2]
   rfl
 ·rw [if_neg h,if_neg h]
  simp only
  rw [if_neg (by simpa using h),if_pos (by simpa using h)]
def lM (a:Int) (L:List (List (Int×Int))):List (List Int×Int)->Int
 | []=>0
 | d::r=>if dA a L d.1 d.2=0 then lM a L r else dA a L d.1 d.2
def fZ (a:Int) (L:List (List (Int×Int))) (l:List (List Int×Int)):Int:=if 200<l.length then 8 else lM a L l
theorem Ai {a:Int} {L:List (List (Int×Int))}:∀ {l:List (List Int×Int)},lM a L l=0->∀ d∈l,dA a L d.1 d.2=0
 | [],_,d,hd=>by simp at hd
 | x::r,h,d,hd=>by
  unfold lM at h
  split at h
  ·rename_i hx
   rcases List.mem_cons.1 hd with rfl | hd
   ·exact hx
   ·exact Ai h d hd
  ·rename_i hx; exact absurd h hx
theorem alG (a b:Int) (T:List (Int×Int)) (L:List (List (Int×Int))) (T':List (Int×Int)) (L':List (List (Int×Int))) (l:List (List Int×Int)) (h:L'.length<1000) (hl:l.length<1000000) (hdl:∀ d∈l,d.1.length<1000000):r80 a b T L T' L' l=some (fZ a L' l):=by
 unfold r80 fZ
 rw [p94,Option.bind_some]
 have hh:=Eo (fuel:=1000000000) l (Ik a b T L T' L' l) (fun i e=>(e,(i:Int))) (fun r e=>some (if e=0 then lM a L' r else e)) (fun _ _=>True) (by omega) (fun i e r hi _ _=>by
  have e1:=p92 a b T L T' L' (l.getD i default).1 (l.getD i default).2 h (by have:=hdl _ (getD_mem hi); omega)
  simp only [Ik,lS hi,if_true,if_pos (jJ hi),Int.toNat_natCast,wS i (by omega),e1,aP,lM]
  left
  rw [p91 _ (by simp),ZW]
  refine ⟨lQ e (dA a L' (l.getD i default).1 (l.getD i default).2),rfl,trivial,?_⟩
  unfold lQ
  by_cases he:e=0
  ·rw [if_pos he,if_pos he]
  ·rw [if_neg he,if_neg he,if_neg he]) (fun e _=>by
  simp only [Ik]
  rw [if_neg (by simp)]
  simp only [lM]
  by_cases he:e=0
  ·rw [if_pos he,he]
  ·rw [if_neg he]) (bW (decide ((l.length:Int)<=200)) 8) trivial
 rw [show ((0:Nat):Int)=0 from rfl] at hh
 rw [hh]
 by_cases h2:200<l.length
 ·have:decide ((l.length:Int)<=200)=false:=by rw [decide_eq_false_iff_not]; omega
  rw [if_pos h2,this]; rfl
 ·have:decide ((l.length:Int)<=200)=true:=by rw [decide_eq_true_eq]; omega
  rw [if_neg h2,this]; rfl
def H6 (b:Int) (T:List (Int×Int)) (L:List (List (Int×Int))):List Int->List (List Int×Int)->Option (List (List Int)×Int)
 | _,[]=>some ([],0)
 | s,d::r=>
  if (jB b T (L.getD d.2.toNat default) s d.1).all (inT T)=true then
   (H6 b T L (jB b T (L.getD d.2.toNat default) s d.1) r).map fun y=>(jB b T (L.getD d.2.toNat default) s d.1::y.1,mM T (L.getD d.2.toNat default) (hd (oK b T s))+y.2)
  else none
def aao (o:Option (List (List Int)×Int)) (out:List (List Int)) (lost:Int):List (List Int)×Int×Int:=(o.map fun y=>(out++y.1,lost+y.2,(0:Int))).getD ([],0,22)
theorem KR {b:Int} {T:List (Int×Int)} {L:List (List (Int×Int))} {s:List Int} {d:List Int×Int} {r:List (List Int×Int)} {out:List (List Int)} {lost:Int} (h:(jB b T (L.getD d.2.toNat default) s d.1).all (inT T)=true) :
 aao (H6 b T L s (d::r)) out lost=aao (H6 b T L (jB b T (L.getD d.2.toNat default) s d.1) r) (out++[jB b T (L.getD d.2.toNat default) s d.1]) (lost+mM T (L.getD d.2.toNat default) (hd (oK b T s))):=by
 conv=>lhs; unfold H6
 rw [if_pos h]
 unfold aao
 cases H6 b T L (jB b T (L.getD d.2.toNat default) s d.1) r with
 | none=>rfl
 | some y=>simp [Int.add_assoc]
theorem V4 {b:Int} {T:List (Int×Int)} {L:List (List (Int×Int))} {s:List Int} {d:List Int×Int} {r:List (List Int×Int)} (h:¬ (jB b T (L.getD d.2.toNat default) s d.1).all (inT T)=true):H6 b T L s (d::r)=none:=by
 unfold H6; rw [if_neg h]
structure afj (a b:Int) (T:List (Int×Int)) (L:List (List (Int×Int))) (i:Nat) (out:List (List Int)) (lost:Int) (now:List Int):Prop where
 len:out.length=i
 rng:0<=lost/\lost<=1000*i
 all:jg a b T L now
def ab7 (a b:Int) (T:List (Int×Int)) (L:List (List (Int×Int))) (s:List Int) (l:List (List Int×Int)):List (List Int)×Int×Int:=
 if lJ a b T L s=0 then (if fZ a L l=0 then aao (H6 b T L s l) [] 0 else ([],0,fZ a L l)) else ([],0,lJ a b T L s)
theorem Ia {a:Int} {L:List (List (Int×Int))} {l:List (List Int×Int)} (h:fZ a L l=0):l.length<=200/\∀ d∈l,dA a L d.1 d.2=0:=by
 unfold fZ at h
 split at h
 ·cases h
 ·exact ⟨by omega,Ai h⟩
theorem alK (a b:Int) (T:List (Int×Int)) (L:List (List (Int×Int))) (s:List Int) (l:List (List Int×Int)) (hT:T.length<1000) (hn:L.length<1000) (hL:∀ x∈L,x.length<1000) (hs:s.length<1000000) (hl:l.length<1000000) (hdl:∀ d∈l,d.1.length<1000000) :
 r58 a b T L s l=some (ab7 a b T L s l):=by
 unfold r58 ab7
 rw [p89 a b T L s hT hn hL hs,Option.bind_some]
 by_cases h:lJ a b T L s=0
 ·have H:=tJ h
  rw [H.open,if_pos (by rfl),if_pos h]
  simp only
  rw [alG a b T L T L l hn hl hdl,Option.bind_some]
  by_cases hz:fZ a L l=0
  ·rw [if_neg (by simpa using hz),if_pos hz]
   obtain ⟨as8,hok⟩:=Ia hz
   refine Eo (τ:=List (List Int)×Int×List Int) l (Il l (a,b,T,L,T,L,0)) (fun i t=>(t.1,t.2.1,t.2.2,(i:Int))) (fun r t=>some (aao (H6 b T L t.2.2 r) t.1 t.2.1)) (fun i t=>afj a b T L i t.1 t.2.1 t.2.2) (by omega) ?_ ?_ ([],0,s) (show afj a b T L 0 [] 0 s from ⟨rfl,by omega,H⟩)
   ·rintro i ⟨out,lost,now⟩ r hi R hdr
    replace R:afj a b T L i out lost now:=R
    have hd1:=hok _ (getD_mem hi)
    have hb:=R.rng
    have hlen:=R.len
    have e1:=p96 R.all.ok (R.all.step hd1)
    have hlr:=DR R.all.ok (hd (oK b T now)) (EW hd1).2.2
    simp only [Il,lS hi,if_true,if_pos (jJ hi),Int.toNat_natCast,wS i (by omega),e1,aP]
    by_cases hc:(jB b T (L.getD (l.getD i default).2.toNat default) now (l.getD i default).1).all (inT T)=true
    ·left
     rw [if_pos hc,if_neg (by decide),if_pos ⟨by omega,by omega⟩,IntWalk.i64_in _ ⟨by omega,by omega⟩]
     exact ⟨(_,_,_),rfl,afj.mk (by simp [hlen]) (show 0<=lost+_/\lost+_<=1000*((i+1:Nat):Int) by omega) (R.all.next hc),by simp only; rw [KR hc]; rfl⟩
    ·right
     rw [if_neg hc,if_pos (by decide),V4 hc]; rfl
   ·rintro ⟨out,lost,now⟩ R
    simp only [Il]
    rw [if_neg (by simp)]
    simp [H6,aao]
  ·rw [if_pos (by simpa using hz),if_neg hz]
 ·rw [if_neg h]
  have ho:(zK a b T L s).2.2.2.2.2.2=lJ a b T L s:=by unfold zK lJ; split<;>rfl
  rw [if_neg (by rw [ho]; simpa using h),if_pos (by rw [ho]; simpa using h),ho]
def mx (x y:Int):Int:=if x<y then y else x
theorem p66 (a b:Int) (T:List (Int×Int)) (L:List (List (Int×Int))) (s:List Int) (l:List (List Int×Int)) (hT:T.length<1000) (hn:L.length<1000) (hL:∀ x∈L,x.length<1000) (hs:s.length<1000000) (hl:l.length<1000000) (hdl:∀ d∈l,d.1.length<1000000) :
 r23 a b T L s l=some ((ab7 a b T L s l).1,(ab7 a b T L s l).2.2):=by
 unfold r23
 rw [alK a b T L s l hT hn hL hs hl hdl,Option.bind_some]
end Go.Proofs.YtkbdjphdhcgmaaaGreatDoor

/- The code's step as a function with errors; loops by an invariant. -/
import Derived.Test.YtofkgmldcjagmaaGreatDoorF04
import Derived.Test.YtofkgmldcjagmaaGreatDoorHeatD
set_option linter.unusedVariables false
set_option linter.unusedSimpArgs false
namespace Go.Proofs.YtofkgmldcjagmaaGreatDoor
open Go.dG
theorem fQ {σ ρ:Type} (B:σ→gK σ ρ) (P:Nat→σ→Prop) (Q:Option ρ→Prop) (n:Nat)
 (step:∀ i s,i<n→P i s→(∃ s',B s= .next s'∧P (i+1) s')∨(∃ r,B s= .out r∧Q r))
 (stop:∀ s,P n s→∃ r,B s= .out r∧Q r) (s:σ) (h0:P 0 s) (fuel:Nat) (hn:n<fuel):Q (aS B fuel s):=by
 have key:∀ (k i fuel:Nat) (s:σ),i+k=n→k<fuel→P i s→Q (aS B fuel s):=by
  intro k
  induction k with
  | zero=>
   intro i fuel s hi hf hP
   obtain ⟨m,rfl⟩:∃ m,fuel=m+1:=⟨fuel - 1,by omega⟩
   obtain rfl:i=n:=by omega
   obtain ⟨r,h1,h2⟩:=stop s hP
   simp only [aS,h1]; exact h2
  | succ k ih=>
   intro i fuel s hi hf hP
   obtain ⟨m,rfl⟩:∃ m,fuel=m+1:=⟨fuel - 1,by omega⟩
   rcases step i s (by omega) hP with ⟨s',h1,h2⟩ | ⟨r,h1,h2⟩
   ·simp only [aS,h1]; exact ih (i+1) m s' (by omega) (by omega) h2
   ·simp only [aS,h1]; exact h2
 exact key n 0 fuel s (by omega) hn h0
theorem xQ {α σ τ ρ:Type} [Inhabited α] (l:List α) (B:σ→gK σ ρ) (mk:Nat→τ→σ) (F:List α→τ→Option ρ) (I:Nat→τ→Prop) {fuel:Nat} (hl:l.length<fuel)
 (step:∀ (i:Nat) (t:τ) (r:List α),i<l.length→I i t→l.drop i=l.getD i default::r→
  (∃ t',B (mk i t)= .next (mk (i+1) t')∧I (i+1) t'∧F (l.getD i default::r) t=F r t')∨B (mk i t)= .out (F (l.getD i default::r) t))
 (stop:∀ t,I l.length t→B (mk l.length t)= .out (F [] t)) (t:τ) (h0:I 0 t):aS B fuel (mk 0 t)=F l t:=by
 have key:∀ (k i fuel:Nat) (t:τ),i+k=l.length→k<fuel→I i t→aS B fuel (mk i t)=F (l.drop i) t:=by
  intro k
  induction k with
  | zero=>
   intro i fuel t hi hf hI
   obtain ⟨m,rfl⟩:∃ m,fuel=m+1:=⟨fuel - 1,by omega⟩
   obtain rfl:i=l.length:=by omega
   simp only [aS,stop t hI,List.drop_length]
  | succ k ih=>
   intro i fuel t hi hf hI
   obtain ⟨m,rfl⟩:∃ m,fuel=m+1:=⟨fuel - 1,by omega⟩
   have hlt:i<l.length:=by omega
   have hd:l.drop i=l.getD i default::l.drop (i+1):=by
    rw [List.drop_eq_getElem_cons hlt]; simp [List.getD_eq_getElem?_getD,hlt]
   rw [hd]
   rcases step i t _ hlt hI hd with ⟨t',e1,e2,e3⟩ | e
   ·simp only [aS,e1]
    rw [e3]; exact ih (i+1) m t' (by omega) (by omega) e2
   ·simp only [aS,e]
 have:=key l.length 0 fuel t (by omega) hl h0
 simpa using this
theorem getD_mem {α:Type} [Inhabited α] {l:List α} {i:Nat} (h:i<l.length):l.getD i default∈l:=by
 rw [List.getD_eq_getElem?_getD,List.getElem?_eq_getElem h,Option.getD_some]; exact List.getElem_mem h
theorem ZV:∀ l m:List Int,l.length=m.length→(∀ j,j<l.length→l.getD j default≤m.getD j default)→Gg l m
 | [],[],_,_=>trivial
 | [],y::m,h,_=>by simp at h
 | x::l,[],h,_=>by simp at h
 | x::l,y::m,h,h2=>by
  refine ⟨by simpa using h2 0 (by simp),ZV l m (by simpa using h) fun j hj=> ?_⟩
  have:=h2 (j+1) (by simp; omega)
  simpa using this
theorem Qw {a:Int} {L:List (List (Int×Int))} {l:List Int} {law:Int} (h1:(l.length:Int)=a) (h2:∀ x∈l,0≤x∧x≤10000) (h3:0≤law∧law<L.length):gY a L l law=0:=by
 unfold gY
 have e1:((l.length:Int) == a)=true:=by simpa using h1
 have e2:(l.all fun x=>dR x 0 10000)=true:=by rw [List.all_eq_true]; intro x hx; exact je.2 (h2 x hx)
 have e3:dR law 0 ((L.length:Int) - 1)=true:=je.2 ⟨h3.1,by omega⟩
 rw [e1,e2,e3]; rfl
def YQ (b:Int) (T:List (Int×Int)) (law:List (Int×Int)) (s p:List Int):List Int×Int:=
 if (iC b T law s p).all (inT T)=true then (iC b T law s p,0) else ([],22)
def wX (a b:Int) (T:List (Int×Int)) (L:List (List (Int×Int))) (s p:List Int) (law:Int):List Int×Int:=
 if pK a b T L s=0 then (if gY a L p law=0 then YQ b T (L.getD law.toNat default) s p else ([],gY a L p law)) else ([],pK a b T L s)
theorem p64 (a b:Int) (T:List (Int×Int)) (L:List (List (Int×Int))) (s p:List Int) (law:Int) (hT:T.length<1000) (hn:L.length<1000) (hL:∀ x∈L,x.length<1000) (hs:s.length<1000000) (hp:p.length<1000000) :
 U5 a b T L s p law=some (wX a b T L s p law):=by
 unfold U5 wX
 rw [p89 a b T L s hT hn hL hs,Option.bind_some]
 by_cases h:pK a b T L s=0
 ·have H:=Ew h
  rw [H.open,if_pos (by rfl),if_pos h]
  simp only
  rw [p92 a b T L T L p law hn (by omega),Option.bind_some]
  by_cases hd:gY a L p law=0
  ·rw [if_neg (by simpa using hd),if_pos hd,p96 H.ok (H.step hd),Option.bind_some]
   unfold YQ
   by_cases hc:(iC b T (L.getD law.toNat default) s p).all (inT T)=true
   ·simp only [if_pos hc]; rfl
   ·simp only [if_neg hc]; rfl
  ·rw [if_pos (by simpa using hd),if_neg hd]
 ·rw [if_neg h]
  have ho:(F5 a b T L s).2.2.2.2.2.2=pK a b T L s:=by unfold F5 pK; split<;>rfl
  rw [if_neg (by rw [ho]; simpa using h),if_pos (by rw [ho]; simpa using h),ho]
theorem kE.stepped {a b:Int} {T:List (Int×Int)} {L:List (List (Int×Int))} {s p:List Int} {law:Int} (h:kE a b T L s) (hd:gY a L p law=0):wX a b T L s p law=YQ b T (L.getD law.toNat default) s p:=by
 unfold wX
 rw [if_pos h.pK,if_pos hd]
def fG (e f:Int):Int:=if e=0 then f else e
theorem ae4 (e f:Int):dh [e,f]=fG e f:=by
 unfold fG dh dh dh
 split
 ·split<;>simp_all
 ·rfl
theorem Zx {a b:Int} {T:List (Int×Int)} {L:List (List (Int×Int))} (ok:fJ a b T L) {s u p w:List Int} {i j:Int} (hi:0≤i∧i<L.length) (hj:0≤j∧j<L.length) (hij:j≤i) (h:Gg s u) (hp:Gg p w) :
 Gg (iC b T (L.getD i.toNat default) s p) (iC b T (L.getD j.toNat default) u w):=
 W9 ok.mix ok.Yk (ok.laws i.toNat (by omega)).Yk (fun x=>ok.LK j.toNat i.toNat (by omega) (by omega) x) h hp
end Go.Proofs.YtofkgmldcjagmaaGreatDoor

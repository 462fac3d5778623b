/- The code's step as a function with errors; loops by an invariant. -/
import Derived.Test.YtofkgmldcjagmaaGreatDoorF04
import Derived.Test.YtofkgmldcjagmaaGreatDoorHeatD
set_option linter.unusedVariables false
set_option linter.unusedSimpArgs false
namespace Go.Proofs.YtofkgmldcjagmaaGreatDoor
open Go.Abs
theorem iter_inv {σ ρ:Type} (B:σ→Ctl σ ρ) (P:Nat→σ→Prop) (Q:Option ρ→Prop) (n:Nat)
 (step:∀ i s,i<n→P i s→(∃ s',B s= .next s'∧P (i+1) s')∨(∃ r,B s= .out r∧Q r))
 (stop:∀ s,P n s→∃ r,B s= .out r∧Q r) (s:σ) (h0:P 0 s) (fuel:Nat) (hn:n<fuel):Q (iterC B fuel s):=by
 have key:∀ (k i fuel:Nat) (s:σ),i+k=n→k<fuel→P i s→Q (iterC B fuel s):=by
  intro k
  induction k with
  | zero=>
   intro i fuel s hi hf hP
   obtain ⟨m,rfl⟩:∃ m,fuel=m+1:=⟨fuel - 1,by omega⟩
   obtain rfl:i=n:=by omega
   obtain ⟨r,h1,h2⟩:=stop s hP
   simp only [iterC,h1]; exact h2
  | succ k ih=>
   intro i fuel s hi hf hP
   obtain ⟨m,rfl⟩:∃ m,fuel=m+1:=⟨fuel - 1,by omega⟩
   rcases step i s (by omega) hP with ⟨s',h1,h2⟩ | ⟨r,h1,h2⟩
   ·simp only [iterC,h1]; exact ih (i+1) m s' (by omega) (by omega) h2
   ·simp only [iterC,h1]; exact h2
 exact key n 0 fuel s (by omega) hn h0
theorem getD_mem {α:Type} [Inhabited α] {l:List α} {i:Nat} (h:i<l.length):l.getD i default∈l:=by
 rw [List.getD_eq_getElem?_getD,List.getElem?_eq_getElem h,Option.getD_some]; exact List.getElem_mem h
theorem leL_of:∀ l m:List Int,l.length=m.length→(∀ j,j<l.length→l.getD j default≤m.getD j default)→leL l m
 | [],[],_,_=>trivial
 | [],y::m,h,_=>by simp at h
 | x::l,[],h,_=>by simp at h
 | x::l,y::m,h,h2=>by
  refine ⟨by simpa using h2 0 (by simp),leL_of l m (by simpa using h) fun j hj=> ?_⟩
  have:=h2 (j+1) (by simp; omega)
  simpa using this
theorem drive_zero {a:Int} {L:List (List (Int×Int))} {l:List Int} {law:Int} (h1:(l.length:Int)=a) (h2:∀ x∈l,0≤x∧x≤10000) (h3:0≤law∧law<L.length):driveErrV a L l law=0:=by
 unfold driveErrV
 have e1:((l.length:Int) == a)=true:=by simpa using h1
 have e2:(l.all fun x=>inR x 0 10000)=true:=by rw [List.all_eq_true]; intro x hx; exact inR_iff.2 (h2 x hx)
 have e3:inR law 0 ((L.length:Int) - 1)=true:=inR_iff.2 ⟨h3.1,by omega⟩
 rw [e1,e2,e3]; rfl
def stepV (b:Int) (T:List (Int×Int)) (law:List (Int×Int)) (s p:List Int):List Int×Int:=
 if (outS b T law s p).all (inT T)=true then (outS b T law s p,0) else ([],22)
def steppedV (a b:Int) (T:List (Int×Int)) (L:List (List (Int×Int))) (s p:List Int) (law:Int):List Int×Int:=
 if stErr a b T L s=0 then (if driveErrV a L p law=0 then stepV b T (L.getD law.toNat default) s p else ([],driveErrV a L p law)) else ([],stErr a b T L s)
theorem p64 (a b:Int) (T:List (Int×Int)) (L:List (List (Int×Int))) (s p:List Int) (law:Int) (hT:T.length<1000) (hn:L.length<1000) (hL:∀ x∈L,x.length<1000) (hs:s.length<1000000) (hp:p.length<1000000) :
 r73 a b T L s p law=some (steppedV a b T L s p law):=by
 unfold r73 steppedV
 rw [p89 a b T L s hT hn hL hs,Option.bind_some]
 by_cases h:stErr a b T L s=0
 ·have H:=allOk_of h
  rw [H.open,if_pos (by rfl),if_pos h]
  simp only
  rw [p92 a b T L T L p law hn (by omega),Option.bind_some]
  by_cases hd:driveErrV a L p law=0
  ·rw [if_neg (by simpa using hd),if_pos hd,p96 H.ok (H.step hd),Option.bind_some]
   unfold stepV
   by_cases hc:(outS b T (L.getD law.toNat default) s p).all (inT T)=true
   ·simp only [if_pos hc]; rfl
   ·simp only [if_neg hc]; rfl
  ·rw [if_pos (by simpa using hd),if_neg hd]
 ·rw [if_neg h]
  have ho:(openV a b T L s).2.2.2.2.2.2=stErr a b T L s:=by unfold openV stErr; split<;>rfl
  rw [if_neg (by rw [ho]; simpa using h),if_pos (by rw [ho]; simpa using h),ho]
theorem AllOk.stepped {a b:Int} {T:List (Int×Int)} {L:List (List (Int×Int))} {s p:List Int} {law:Int} (h:AllOk a b T L s) (hd:driveErrV a L p law=0):steppedV a b T L s p law=stepV b T (L.getD law.toNat default) s p:=by
 unfold steppedV
 rw [if_pos h.stErr,if_pos hd]
def firstE (e f:Int):Int:=if e=0 then f else e
theorem outS_leL {a b:Int} {T:List (Int×Int)} {L:List (List (Int×Int))} (ok:SetOk a b T L) {s u p w:List Int} {i j:Int} (hi:0≤i∧i<L.length) (hj:0≤j∧j<L.length) (hij:j≤i) (h:leL s u) (hp:leL p w) :
 leL (outS b T (L.getD i.toNat default) s p) (outS b T (L.getD j.toNat default) u w):=
 outS_mono ok.mix ok.asc (ok.laws i.toNat (by omega)).asc (fun x=>ok.law_mono j.toNat i.toNat (by omega) (by omega) x) h hp
end Go.Proofs.YtofkgmldcjagmaaGreatDoor

/- The code's step as a function with errors; loops by an invariant. -/
import Derived.Test.YtofkgmldcjagmaaGreatDoorF04
import Derived.Test.YtofkgmldcjagmaaGreatDoorHeatD
set_option linter.unusedVariables false
set_option linter.unusedSimpArgs false
namespace Go.Proofs.YtofkgmldcjagmaaGreatDoor
open Go.dJ
theorem iF {σ ρ:Type} (B:σ→gy σ ρ) (P:Nat→σ→Prop) (Q:Option ρ→Prop) (n:Nat)
 (step:∀ i s,i<n→P i s→(∃ s',B s= .next s'∧P (i+1) s')∨(∃ r,B s= .out r∧Q r))
 (stop:∀ s,P n s→∃ r,B s= .out r∧Q r) (s:σ) (h0:P 0 s) (fuel:Nat) (hn:n<fuel):Q (aS B fuel s):=by
 have key:∀ (k i fuel:Nat) (s:σ),i+k=n→k<fuel→P i s→Q (aS B fuel s):=by
  intro k
  induction k with
  | zero=>
   intro i fuel s hi hf hP
   obtain ⟨m,rfl⟩:∃ m,fuel=m+1:=⟨fuel - 1,by omega⟩
   obtain rfl:i=n:=by omega
   obtain ⟨r,h1,h2⟩:=stop s hP
   simp only [aS,h1]; exact h2
  | succ k ih=>
   intro i fuel s hi hf hP
   obtain ⟨m,rfl⟩:∃ m,fuel=m+1:=⟨fuel - 1,by omega⟩
   rcases step i s (by omega) hP with ⟨s',h1,h2⟩ | ⟨r,h1,h2⟩
   ·simp only [aS,h1]; exact ih (i+1) m s' (by omega) (by omega) h2
   ·simp only [aS,h1]; exact h2
 exact key n 0 fuel s (by omega) hn h0
theorem xw {α σ τ ρ:Type} [Inhabited α] (l:List α) (B:σ→gy σ ρ) (mk:Nat→τ→σ) (F:List α→τ→Option ρ) (I:Nat→τ→Prop) {fuel:Nat} (hl:l.length<fuel)
 (step:∀ (i:Nat) (t:τ) (r:List α),i<l.length→I i t→l.drop i=l.getD i default::r→
  (∃ t',B (mk i t)= .next (mk (i+1) t')∧I (i+1) t'∧F (l.getD i default::r) t=F r t')∨B (mk i t)= .out (F (l.getD i default::r) t))
 (stop:∀ t,I l.length t→B (mk l.length t)= .out (F [] t)) (t:τ) (h0:I 0 t):aS B fuel (mk 0 t)=F l t:=by
 have key:∀ (k i fuel:Nat) (t:τ),i+k=l.length→k<fuel→I i t→aS B fuel (mk i t)=F (l.drop i) t:=by
  intro k
  induction k with
  | zero=>
   intro i fuel t hi hf hI
   obtain ⟨m,rfl⟩:∃ m,fuel=m+1:=⟨fuel - 1,by omega⟩
   obtain rfl:i=l.length:=by omega
   simp only [aS,stop t hI,List.drop_length]
  | succ k ih=>
   intro i fuel t hi hf hI
   obtain ⟨m,rfl⟩:∃ m,fuel=m+1:=⟨fuel - 1,by omega⟩
   have hlt:i<l.length:=by omega
   have hd:l.drop i=l.getD i default::l.drop (i+1):=by
    rw [List.drop_eq_getElem_cons hlt]; simp [List.getD_eq_getElem?_getD,hlt]
   rw [hd]
   rcases step i t _ hlt hI hd with ⟨t',e1,e2,e3⟩ | e
   ·simp only [aS,e1]
    rw [e3]; exact ih (i+1) m t' (by omega) (by omega) e2
   ·simp only [aS,e]
 have:=key l.length 0 fuel t (by omega) hl h0
 simpa using this
theorem getD_mem {α:Type} [Inhabited α] {l:List α} {i:Nat} (h:i<l.length):l.getD i default∈l:=by
 rw [List.getD_eq_getElem?_getD,List.getElem?_eq_getElem h,Option.getD_some]; exact List.getElem_mem h
theorem Zm:∀ l m:List Int,l.length=m.length→(∀ j,j<l.length→l.getD j default≤m.getD j default)→FB l m
 | [],[],_,_=>trivial
 | [],y::m,h,_=>by simp at h
 | x::l,[],h,_=>by simp at h
 | x::l,y::m,h,h2=>by
  refine ⟨by simpa using h2 0 (by simp),Zm l m (by simpa using h) fun j hj=> ?_⟩
  have:=h2 (j+1) (by simp; omega)
  simpa using this
def fB (e f:Int):Int:=if e=0 then f else e
theorem aen (e f:Int):dF [e,f]=fB e f:=by
 unfold fB dF dF dF
 split
 ·split<;>simp_all
 ·rfl
theorem YZ {a b:Int} {T:List (Int×Int)} {L:List (List (Int×Int))} (ok:fQ a b T L) {s u p w:List Int} {i j:Int} (hi:0≤i∧i<L.length) (hj:0≤j∧j<L.length) (hij:j≤i) (h:FB s u) (hp:FB p w) :
 FB (mP b T (L.getD i.toNat default) s p) (mP b T (L.getD j.toNat default) u w):=
 Wu ok.mix ok.asc (ok.laws i.toNat (by omega)).asc (fun x=>ok.La j.toNat i.toNat (by omega) (by omega) x) h hp
end Go.Proofs.YtofkgmldcjagmaaGreatDoor

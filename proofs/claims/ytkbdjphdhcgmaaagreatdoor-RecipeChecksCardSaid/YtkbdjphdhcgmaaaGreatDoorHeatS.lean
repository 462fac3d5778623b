/- The code's step as a function with errors; loops by an invariant. -/
import Derived.Test.YtkbdjphdhcgmaaaGreatDoorHeatD
set_option linter.unusedVariables false
set_option linter.unusedSimpArgs false
namespace Go.Proofs.YtkbdjphdhcgmaaaGreatDoor
open Go.Abs
theorem iter_inv {σ ρ:Type} (B:σ→Ctl σ ρ) (P:Nat→σ→Prop) (Q:Option ρ→Prop) (n:Nat)
 (step:∀ i s,i<n→P i s→(∃ s',B s= .next s'∧P (i+1) s')∨(∃ r,B s= .out r∧Q r))
 (stop:∀ s,P n s→∃ r,B s= .out r∧Q r) (s:σ) (h0:P 0 s) (fuel:Nat) (hn:n<fuel):Q (iterC B fuel s):=by
 have key:∀ (k i fuel:Nat) (s:σ),i+k=n→k<fuel→P i s→Q (iterC B fuel s):=by
  intro k
  induction k with
  | zero=>
   intro i fuel s hi hf hP
   obtain ⟨m,rfl⟩:∃ m,fuel=m+1:=⟨fuel - 1,by omega⟩
   obtain rfl:i=n:=by omega
   obtain ⟨r,h1,h2⟩:=stop s hP
   simp only [iterC,h1]; exact h2
  | succ k ih=>
   intro i fuel s hi hf hP
   obtain ⟨m,rfl⟩:∃ m,fuel=m+1:=⟨fuel - 1,by omega⟩
   rcases step i s (by omega) hP with ⟨s',h1,h2⟩ | ⟨r,h1,h2⟩
   ·simp only [iterC,h1]; exact ih (i+1) m s' (by omega) (by omega) h2
   ·simp only [iterC,h1]; exact h2
 exact key n 0 fuel s (by omega) hn h0
theorem getD_mem {α:Type} [Inhabited α] {l:List α} {i:Nat} (h:i<l.length):l.getD i default∈l:=by
 rw [List.getD_eq_getElem?_getD,List.getElem?_eq_getElem h,Option.getD_some]; exact List.getElem_mem h
def firstE (e f:Int):Int:=if e=0 then f else e
theorem outS_leL {a b:Int} {T:List (Int×Int)} {L:List (List (Int×Int))} (ok:SetOk a b T L) {s u p w:List Int} {i j:Int} (hi:0≤i∧i<L.length) (hj:0≤j∧j<L.length) (hij:j≤i) (h:leL s u) (hp:leL p w) :
 leL (outS b T (L.getD i.toNat default) s p) (outS b T (L.getD j.toNat default) u w):=
 outS_mono ok.mix ok.asc (ok.laws i.toNat (by omega)).asc (fun x=>ok.law_mono j.toNat i.toNat (by omega) (by omega) x) h hp
end Go.Proofs.YtkbdjphdhcgmaaaGreatDoor

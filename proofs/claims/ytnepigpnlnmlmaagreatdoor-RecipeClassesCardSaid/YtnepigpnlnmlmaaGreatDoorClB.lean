/- Loops; small functions (plain base). -/
import Derived.Test.YtnepigpnlnmlmaaGreatDoorF02
import Derived.Test.YtnepigpnlnmlmaaGreatDoorF17
set_option linter.unusedVariables false
set_option linter.unusedSimpArgs false
namespace Go.Proofs.YtnepigpnlnmlmaaGreatDoor
open Go.Abs
theorem p59 (a b c:Int):r17 a b c=some (inR a b c):=rfl
theorem iter_inv {σ ρ:Type} (B:σ→Ctl σ ρ) (P:Nat→σ→Prop) (Q:Option ρ→Prop) (n:Nat)
 (step:∀ i s,i<n→P i s→(∃ s',B s= .next s'∧P (i+1) s')∨(∃ r,B s= .out r∧Q r))
 (stop:∀ s,P n s→∃ r,B s= .out r∧Q r) (s:σ) (h0:P 0 s) (fuel:Nat) (hn:n<fuel):Q (iterC B fuel s):=by
 have key:∀ (k i fuel:Nat) (s:σ),i+k=n→k<fuel→P i s→Q (iterC B fuel s):=by
  intro k
  induction k with
  | zero=>
   intro i fuel s hi hf hP
   obtain ⟨m,rfl⟩:∃ m,fuel=m+1:=⟨fuel - 1,by omega⟩
   obtain rfl:i=n:=by omega
   obtain ⟨r,h1,h2⟩:=stop s hP
   simp only [iterC,h1]; exact h2
  | succ k ih=>
   intro i fuel s hi hf hP
   obtain ⟨m,rfl⟩:∃ m,fuel=m+1:=⟨fuel - 1,by omega⟩
   rcases step i s (by omega) hP with ⟨s',h1,h2⟩ | ⟨r,h1,h2⟩
   ·simp only [iterC,h1]; exact ih (i+1) m s' (by omega) (by omega) h2
   ·simp only [iterC,h1]; exact h2
 exact key n 0 fuel s (by omega) hn h0
theorem getD_mem {α:Type} [Inhabited α] {l:List α} {i:Nat} (h:i<l.length):l.getD i default∈l:=by
 rw [List.getD_eq_getElem?_getD,List.getElem?_eq_getElem h,Option.getD_some]; exact List.getElem_mem h
theorem mem_getD {α:Type} [Inhabited α] {l:List α} {x:α} (h:x∈l):∃ i,i<l.length∧l.getD i default=x:=by
 obtain ⟨i,hi,rfl⟩:=List.mem_iff_getElem.1 h
 exact ⟨i,hi,by simp [List.getD_eq_getElem?_getD,hi]⟩
theorem inR_iff' {n lo hi:Int}:inR n lo hi=true↔lo≤n∧n≤hi:=by simp [inR]
theorem unl (c:Bool) (e:Int):r65 c e=some (codeIf c e):=by unfold r65 codeIf; cases c<;>rfl
theorem fst (l:List Int) (hl:l.length<1000000000):r64 l=some (firstV l):=by
 have h:=iter_list (τ:=Unit) l (b64_1 l) (fun i _=>i) (fun _ _ x=>if x=0 then .next () else .out (some x)) (fun _=>some 0) hl
  (fun i t hi=>by
   simp only [b64_1,ltN hi,if_true,if_pos (rgN hi),Int.toNat_natCast,wS i (by omega)]
   generalize l.getD i default=x
   by_cases hx:x=0<;>simp [hx,mapC])
  (fun t=>by simp [b64_1]) ()
 unfold r64
 rw [h]
 have:∀ (r:List Int) (i:Int),foldC (fun _ _ x=>if x=0 then Ctl.next () else .out (some x)) (fun _:Unit=>some 0) i r ()=some (firstV r):=by
  intro r
  induction r with
  | nil=>intro i; rfl
  | cons x r ih=>
   intro i
   by_cases hx:x=0
   ·simp only [foldC,hx,if_true,firstV]; exact ih _
   ·simp only [foldC,if_neg hx,firstV]
 exact this l 0
theorem wit (n lo hi:Int):r71 n lo hi=some (inR n lo hi):=(rfl)
end Go.Proofs.YtnepigpnlnmlmaaGreatDoor

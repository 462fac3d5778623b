/- HeatTables as a plain law. -/
import Derived.Test.YtofkgmldcjagmaaGreatDoorF03
import Derived.Test.YtofkgmldcjagmaaGreatDoorHeatS
set_option linter.unusedVariables false
set_option linter.unusedSimpArgs false
namespace Go.Proofs.YtofkgmldcjagmaaGreatDoor
open Go.dG
theorem MQ (B:Int×Int→gK (Int×Int) Int) (hB:∀ x y:Int,0≤x→x≤9000000000000000000→0≤y→B (x,y)=if y=0 then .out (some x) else .next (y,x.tmod y)) :
 ∀ (n:Nat) (x y:Int) (fuel:Nat),0≤x→x≤9000000000000000000→0≤y→y≤9000000000000000000→y<n→n<fuel→aS B fuel (x,y)=some (Int.gcd x y:Int)
 | 0,x,y,fuel,_,_,_,_,_,_=>by omega
 | n+1,x,y,fuel,h1,h2,h3,h3',h4,h5=>by
  obtain ⟨m,rfl⟩:∃ m,fuel=m+1:=⟨fuel - 1,by omega⟩
  simp only [aS,hB x y h1 h2 h3]
  by_cases hy:y=0
  ·rw [if_pos hy]
   simp only
   rw [hy,Int.gcd_zero_right,Int.natAbs_of_nonneg h1]
  ·rw [if_neg hy]
   simp only
   have e1:x.tmod y=x % y:=Int.tmod_eq_emod_of_nonneg h1
   have e2:=Int.emod_nonneg x hy
   have e3:=Int.emod_lt_of_pos x (show 0<y by omega)
   rw [e1,MQ B hB n y (x % y) m h3 h3' e2 (by omega) (by omega) (by omega)]
   congr 2
   rw [Int.emod_def,Int.sub_eq_add_neg, ← Int.mul_neg,Int.gcd_add_mul_left_right,Int.gcd_comm]
theorem aiA (x:Int) (h1:0≤x) (h2:x≤9000000000000000000):(if x<IntKind.i64.wrap (0 - x) then IntKind.i64.wrap (0 - x) else x)=x:=by
 rw [IntWalk.i64_in (0 - x) ⟨by omega,by omega⟩,if_neg (by omega)]
theorem azP (x y:Int) (h1:0≤x) (h2:x≤9000000000000000000) (h3:0≤y) (h4:y≤100000000):WO x y=some (Int.gcd x y:Int):=by
 unfold WO
 refine MQ Et (fun x y hx hx2 hy=> ?_) 100000001 x y 1000000000 h1 h2 h3 (by omega) (by omega) (by omega)
 unfold Et
 simp only [aiA x hx hx2]
 by_cases h:y=0
 ·rw [if_pos h,if_neg (by simpa using h)]
 ·rw [if_neg h,if_pos (by simpa using h),if_pos h]
theorem low {v:Rat} {N D:Int} (h:At v N D 1000000 3000):(Int.gcd N D:Int)≠0∧IntKind.i64.wrap (N.tdiv (Int.gcd N D))=v.num∧IntKind.i64.wrap (D.tdiv (Int.gcd N D))=v.den:=by
 have h1:=h.pos; have h2:=h.le; have h3:=h.num
 have h0:(0:Rat)<D:=Rat.intCast_pos.2 h1
 have e:v=Rat.divInt N D:=by
  rw [Rat.divInt_eq_div,h.eq,Rat.mul_div_cancel (by grind)]
 have hg:0<Int.gcd N D:=by
  apply Nat.pos_of_ne_zero; intro hz
  rw [Int.gcd_eq_zero_iff] at hz; omega
 have g0:(0:Int)<(Int.gcd N D:Int):=by omega
 have n1:N.tdiv (Int.gcd N D)=N / (Int.gcd N D:Int):=Int.tdiv_eq_ediv_of_nonneg h3.1
 have d1:D.tdiv (Int.gcd N D)=D / (Int.gcd N D:Int):=Int.tdiv_eq_ediv_of_nonneg (by omega)
 have b1:0≤N / (Int.gcd N D:Int):=Int.ediv_nonneg h3.1 (by omega)
 have b2:N / (Int.gcd N D:Int)≤N:=Int.ediv_le_self _ h3.1
 have b3:0≤D / (Int.gcd N D:Int):=Int.ediv_nonneg (by omega) (by omega)
 have b4:D / (Int.gcd N D:Int)≤D:=Int.ediv_le_self _ (by omega)
 refine ⟨by omega,?_,?_⟩
 ·rw [n1,IntWalk.i64_in _ ⟨by omega,by omega⟩,e,Rat.num_divInt,Int.sign_eq_one_of_pos h1,Int.one_mul,Int.gcd_comm]
 ·rw [d1,IntWalk.i64_in _ ⟨by omega,by omega⟩,e,Rat.den_divInt,if_neg (by omega),Int.gcd_comm D N]
  have:(D.natAbs:Int)=D:=Int.natAbs_of_nonneg (by omega)
  rw [Int.natCast_ediv,this]
def YU (a b:Int) (T:List (Int×Int)) (L:List (List (Int×Int))):Int:=(bn a b T L).2
theorem p53 (a b:Int) (T:List (Int×Int)) (L:List (List (Int×Int))) (e:Int) (hT:T.length<1000) (hn:L.length<1000) (hL:∀ x∈L,x.length<1000) :
 O4 a b T L e=some (if YU a b T L=0 then (if inT T e=true then ((pl T e).num,((pl T e).den:Int),0) else (0,0,2)) else (0,0,YU a b T L)):=by
 unfold O4 YU
 rw [aez a b T L hT hn hL,Option.bind_some]
 by_cases h:(bn a b T L).2=0
 ·have ok:=nN h
  rw [if_pos h,if_pos h]
  simp only
  rw [if_pos (by rfl),aiv a b T L T L e ok.tpos ok.tlt,Option.bind_some,Yt,Option.bind_some]
  cases he:inT T e with
  | false=>rfl
  | true=>
   obtain ⟨N,D,e1,P⟩:=aey ok a b T L L e
   obtain ⟨g0,g1,g2⟩:=low P
   have q1:=P.pos; have q2:=P.le; have q3:=P.num
   rw [if_neg (by decide),e1,Option.bind_some,azP N D q3.1 (by omega) (by omega) (by omega),Option.bind_some,if_pos g0,if_pos g0,g1,g2]
   rfl
 ·rw [if_neg h,if_neg h]
  simp only
  rw [if_neg (by simpa using h),if_pos (by simpa using h)]
end Go.Proofs.YtofkgmldcjagmaaGreatDoor

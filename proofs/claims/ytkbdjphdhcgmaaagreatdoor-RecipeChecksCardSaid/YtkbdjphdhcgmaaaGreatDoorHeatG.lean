/- HeatTables as a plain law. -/
import Derived.Test.YtkbdjphdhcgmaaaGreatDoorHeatS
set_option linter.unusedVariables false
set_option linter.unusedSimpArgs false
namespace Go.Proofs.YtkbdjphdhcgmaaaGreatDoor
open Go.Abs
theorem low {v:Rat} {N D:Int} (h:At v N D 1000000 3000):(Int.gcd N D:Int)≠0∧IntKind.i64.wrap (N.tdiv (Int.gcd N D))=v.num∧IntKind.i64.wrap (D.tdiv (Int.gcd N D))=v.den:=by
 have h1:=h.pos; have h2:=h.le; have h3:=h.num
 have h0:(0:Rat)<D:=Rat.intCast_pos.2 h1
 have e:v=Rat.divInt N D:=by
  rw [Rat.divInt_eq_div,h.eq,Rat.mul_div_cancel (by grind)]
 have hg:0<Int.gcd N D:=by
  apply Nat.pos_of_ne_zero; intro hz
  rw [Int.gcd_eq_zero_iff] at hz; omega
 have g0:(0:Int)<(Int.gcd N D:Int):=by omega
 have n1:N.tdiv (Int.gcd N D)=N / (Int.gcd N D:Int):=Int.tdiv_eq_ediv_of_nonneg h3.1
 have d1:D.tdiv (Int.gcd N D)=D / (Int.gcd N D:Int):=Int.tdiv_eq_ediv_of_nonneg (by omega)
 have b1:0≤N / (Int.gcd N D:Int):=Int.ediv_nonneg h3.1 (by omega)
 have b2:N / (Int.gcd N D:Int)≤N:=Int.ediv_le_self _ h3.1
 have b3:0≤D / (Int.gcd N D:Int):=Int.ediv_nonneg (by omega) (by omega)
 have b4:D / (Int.gcd N D:Int)≤D:=Int.ediv_le_self _ (by omega)
 refine ⟨by omega,?_,?_⟩
 ·rw [n1,IntWalk.i64_in _ ⟨by omega,by omega⟩,e,Rat.num_divInt,Int.sign_eq_one_of_pos h1,Int.one_mul,Int.gcd_comm]
 ·rw [d1,IntWalk.i64_in _ ⟨by omega,by omega⟩,e,Rat.den_divInt,if_neg (by omega),Int.gcd_comm D N]
  have:(D.natAbs:Int)=D:=Int.natAbs_of_nonneg (by omega)
  rw [Int.natCast_ediv,this]
end Go.Proofs.YtkbdjphdhcgmaaaGreatDoor

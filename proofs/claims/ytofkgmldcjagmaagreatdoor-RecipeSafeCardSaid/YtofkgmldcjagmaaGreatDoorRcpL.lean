/- Laws of recipes: what they share. -/
import Derived.Test.YtofkgmldcjagmaaGreatDoorF05
import Derived.Test.YtofkgmldcjagmaaGreatDoorF12
import Derived.Test.YtofkgmldcjagmaaGreatDoorF11
import Derived.Test.YtofkgmldcjagmaaGreatDoorRcpA
set_option linter.unusedVariables false
set_option linter.unusedSimpArgs false
namespace Go.Proofs.YtofkgmldcjagmaaGreatDoor
open Go.dG
theorem agR {t:TL} (h:t.length≤500):r10 t=some t:=by rw [r10,if_pos ⟨by omega,by omega⟩]
theorem light (x1 x6:Int) (x2:TL) (x0:List TL) (x3 x4:List Int) (x5:TL) (x7 x8:Int):∃ v,r7 x1 x6 x2 x0 x3 x4 x5 x7 x8=some v∧(v=true→x1≤14∧x2.length≤14∧x0.length≤14∧x3.length≤14∧x4.length≤14∧x5.length≤14∧∀ x∈x0,x.length<1000):=by
 unfold r7
 by_cases c:((((((decide (x1>14)) || (decide ((x2.length:Int)>14))) || (decide ((x0.length:Int)>14))) || (decide ((x3.length:Int)>14))) || (decide ((x4.length:Int)>14))) || (decide ((x5.length:Int)>14)))=true
 ·rw [if_pos c]; exact ⟨false,rfl,fun h=>by cases h⟩
 rw [if_neg c]
 simp only [Bool.or_eq_true,decide_eq_true_eq,not_or] at c
 obtain ⟨⟨⟨⟨⟨c1,c2⟩,c3⟩,c4⟩,c5⟩,c6⟩:=c
 refine fQ (Yg x0) (fun i s=>s=(i:Int)∧∀ j,j<i→(x0.getD j default).length≤14) (fun o=>∃ v,o=some v∧(v=true→x1≤14∧x2.length≤14∧x0.length≤14∧x3.length≤14∧x4.length≤14∧x5.length≤14∧∀ x∈x0,x.length<1000)) x0.length ?_ ?_ _ ⟨rfl,fun j hj=>absurd hj (by omega)⟩ _ (by omega)
 ·rintro i _ hi ⟨rfl,hall⟩
  simp only [Yg,oz hi,if_true,if_pos (lF hi),Int.toNat_natCast,wS i (by omega)]
  by_cases w1:((x0.getD i default).length:Int)>14
  ·rw [if_pos (decide_eq_true w1)]; exact .inr ⟨_,rfl,_,rfl,fun h=>by cases h⟩
  rw [if_neg (by rw [decide_eq_true_eq]; exact w1)]
  refine .inl ⟨_,rfl,rfl,fun j hj=> ?_⟩
  by_cases hji:j=i
  ·subst hji; omega
  ·exact hall j (by omega)
 ·rintro _ ⟨rfl,hall⟩
  simp only [Yg,geN,Bool.false_eq_true,if_false]
  refine ⟨_,rfl,_,rfl,fun _=>⟨by omega,by omega,by omega,by omega,by omega,by omega,fun x hx=> ?_⟩⟩
  obtain ⟨j,hj,rfl⟩:=List.getElem_of_mem hx
  have:=hall j hj
  rw [List.getD_eq_getElem?_getD,List.getElem?_eq_getElem hj,Option.getD_some] at this
  omega
theorem agS (a b:Int) (T:TL) (L:List TL) (lo hi:List Int) (W:TL) (dZ spread:Int) (hT:T.length<1000) (hn:L.length<1000) (hL:∀ x∈L,x.length<1000) (h1:lo.length<1000000) (h2:hi.length<1000000) (hw:W.length<1000):r9 a b T L lo hi W dZ spread=some (a,b,T,L,lo,hi,W,dZ,spread):=by
 unfold r9
 rw [p18 a b T L hT hn hL,Option.bind_some,p40 lo hi h1 h2,Option.bind_some,r46,if_pos ⟨by omega,by omega⟩]; rfl
theorem aj3:r6=some true:=by decide +kernel
end Go.Proofs.YtofkgmldcjagmaaGreatDoor

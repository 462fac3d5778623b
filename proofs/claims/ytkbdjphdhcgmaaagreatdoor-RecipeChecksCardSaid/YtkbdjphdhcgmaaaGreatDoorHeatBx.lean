/- Boxes and spans, in the code and in the reference. -/
import Derived.Test.YtkbdjphdhcgmaaaGreatDoorHeatS
set_option linter.unusedVariables false
set_option linter.unusedSimpArgs false
namespace Go.Proofs.YtkbdjphdhcgmaaaGreatDoor
open Go.Abs
def orderF (lo hi:List Int) (i:Nat):Option (Int×Int):=if lo.getD i default>hi.getD i default then some ((i:Int),9) else none
def boxErrV (a:Int) (T:List (Int×Int)) (lo hi:List Int):Int×Int:=
 if (stateErrV a T lo).2=0 then (if (stateErrV a T hi).2=0 then (scanN (orderF lo hi) 0 lo.length).getD (0,0) else stateErrV a T hi) else stateErrV a T lo
def bxErr (a b:Int) (T:List (Int×Int)) (L:List (List (Int×Int))) (lo hi:List Int):Int:=if (setupErrV a b T L).2=0 then (boxErrV a T lo hi).2 else (setupErrV a b T L).2
structure BoxOk (a b:Int) (T:List (Int×Int)) (L:List (List (Int×Int))) (u v:List Int):Prop where
 lo:AllOk a b T L u
 hi:AllOk a b T L v
 le:leL u v
def rangeP (r:Int×Int):Int:=firstE (codeIf (inR r.1 0 10000 && inR r.2 0 10000) 2) (codeIf (decide (r.1≤r.2)) 9)
def rangesP:List (Int×Int)→Int
 | []=>0
 | r::q=>firstE (rangeP r) (rangesP q)
def lawsP (L:List (List (Int×Int))) (lo hi:Int):Int:=firstE (codeIf (inR lo 0 ((L.length:Int) - 1)) 6) (firstE (codeIf (inR hi 0 ((L.length:Int) - 1)) 6) (codeIf (decide (lo≤hi)) 9))
def spanErrV (a:Int) (L:List (List (Int×Int))) (ps:List (Int×Int)) (lo hi:Int):Int:=firstE (codeIf ((ps.length:Int) == a) 10) (firstE (rangesP ps) (lawsP L lo hi))
structure SpanOk (a:Int) (L:List (List (Int×Int))) (ps:List (Int×Int)) (lo hi:Int):Prop where
 len:(ps.length:Int)=a
 rng:∀ r∈ps,(0≤r.1∧r.1≤10000)∧(0≤r.2∧r.2≤10000)∧r.1≤r.2
 law:0≤lo∧lo≤hi∧hi<L.length
theorem firstE_eq0 {x y:Int} (h:firstE x y=0):x=0∧y=0:=by
 unfold firstE at h
 by_cases hx:x=0
 ·rw [if_pos hx] at h; exact ⟨hx,h⟩
 ·rw [if_neg hx] at h; exact absurd h hx
theorem codeIf0 {b:Bool} {e:Int} (h:codeIf b e=0) (he:e≠0):b=true:=by
 cases b with
 | true=>rfl
 | false=>exact absurd h he
theorem ranges_ok:∀ {l:List (Int×Int)},rangesP l=0→∀ r∈l,(0≤r.1∧r.1≤10000)∧(0≤r.2∧r.2≤10000)∧r.1≤r.2
 | [],_,r,hr=>by simp at hr
 | x::q,h,r,hr=>by
  obtain ⟨h1,h2⟩:=firstE_eq0 h
  rcases List.mem_cons.1 hr with rfl | hr
  ·obtain ⟨g1,g2⟩:=firstE_eq0 h1
   have g1:=codeIf0 g1 (by decide)
   have g2:=codeIf0 g2 (by decide)
   rw [Bool.and_eq_true,inR_iff,inR_iff] at g1
   exact ⟨g1.1,g1.2,of_decide_eq_true g2⟩
  ·exact ranges_ok h2 r hr
theorem span_ok {a:Int} {L:List (List (Int×Int))} {ps:List (Int×Int)} {lo hi:Int} (h:spanErrV a L ps lo hi=0):SpanOk a L ps lo hi:=by
 obtain ⟨h1,h2⟩:=firstE_eq0 h
 obtain ⟨h3,h4⟩:=firstE_eq0 h2
 obtain ⟨h5,h6⟩:=firstE_eq0 h4
 obtain ⟨h7,h8⟩:=firstE_eq0 h6
 have g1:=codeIf0 h1 (by decide)
 have g5:=inR_iff.1 (codeIf0 h5 (by decide))
 have g7:=inR_iff.1 (codeIf0 h7 (by decide))
 have g8:=of_decide_eq_true (codeIf0 h8 (by decide))
 exact ⟨by simpa using g1,ranges_ok h3,g5.1,g8,by omega⟩
def boxS (b:Int) (T:List (Int×Int)) (L:List (List (Int×Int))) (lo hi:List Int) (d:(List (Int×Int))×Int×Int):Option (List Int×List Int):=
 if (outS b T (L.getD d.2.2.toNat default) lo (d.1.map (·.1))).all (inT T)=true∧(outS b T (L.getD d.2.1.toNat default) hi (d.1.map (·.2))).all (inT T)=true then
  some (outS b T (L.getD d.2.2.toNat default) lo (d.1.map (·.1)),outS b T (L.getD d.2.1.toNat default) hi (d.1.map (·.2)))
 else none
theorem map_leL (l:List (Int×Int)) (h:∀ r∈l,r.1≤r.2):leL (l.map (·.1)) (l.map (·.2)):=by
 induction l with
 | nil=>trivial
 | cons x r ih=>exact ⟨h x (by simp),ih fun y hy=>h y (by simp [hy])⟩
theorem BoxOk.next {a b:Int} {T:List (Int×Int)} {L:List (List (Int×Int))} {lo hi:List Int} (H:BoxOk a b T L lo hi) {d:(List (Int×Int))×Int×Int} (hd:spanErrV a L d.1 d.2.1 d.2.2=0) {y:List Int×List Int} (hy:boxS b T L lo hi d=some y):BoxOk a b T L y.1 y.2:=by
 have S:=span_ok hd
 unfold boxS at hy
 split at hy
 ·rename_i hc
  cases hy
  exact ⟨H.lo.next hc.1,H.hi.next hc.2,outS_leL H.lo.ok ⟨by have:=S.law; omega,S.law.2.2⟩ ⟨S.law.1,by have:=S.law; omega⟩ S.law.2.1 H.le (map_leL d.1 fun r hr=>(S.rng r hr).2.2)⟩
 ·cases hy
end Go.Proofs.YtkbdjphdhcgmaaaGreatDoor

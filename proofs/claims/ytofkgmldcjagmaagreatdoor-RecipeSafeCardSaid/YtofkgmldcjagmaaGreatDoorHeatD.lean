/- Errors of states and drives, in the code and in the reference. -/
import Derived.Test.YtofkgmldcjagmaaGreatDoorF04
import Derived.Test.YtofkgmldcjagmaaGreatDoorF12
import Derived.Test.YtofkgmldcjagmaaGreatDoorHeatY
set_option linter.unusedVariables false
set_option linter.unusedSimpArgs false
namespace Go.Proofs.YtofkgmldcjagmaaGreatDoor
open Go.dG
def gY (a:Int) (L:List (List (Int×Int))) (l:List Int) (law:Int):Int:=
 dh [bQ ((l.length:Int) == a) 10,bQ (l.all fun x=>dR x 0 10000) 2,bQ (dR law 0 ((L.length:Int) - 1)) 6]
theorem azV (l:List Int) (hl:l.length<1000000000):r76 l=some (l.any fun x=> !dR x 0 10000):=by
 have h:KP l=some (Dt (fun x=> !dR x 0 10000) 0 l):=by
  unfold KP
  refine LU _ l _ hl (fun i hi=> ?_) (by simp [yI])
  simp only [yI,oz hi,if_true,if_pos (lF hi),Int.toNat_natCast,wS i (by omega),aei,KN,p90,Option.bind_some,aP]
 unfold r76
 rw [h,Option.bind_some,PG _ l 0 (by omega)]
theorem ait (a b:Int) (T:List (Int×Int)) (L:List (List (Int×Int))) (T':List (Int×Int)) (L':List (List (Int×Int))) (law:Int) (h:L'.length<1000):OZ a b T L T' L' law=some (bQ (dR law 0 ((L'.length:Int) - 1)) 6):=by
 unfold OZ
 rw [IntWalk.i64_in ((L'.length:Int) - 1) ⟨by omega,by omega⟩,p90,Option.bind_some,Yt,Option.bind_some]
theorem p92 (a b:Int) (T:List (Int×Int)) (L:List (List (Int×Int))) (T':List (Int×Int)) (L':List (List (Int×Int))) (l:List Int) (law:Int) (h:L'.length<1000) (hl:l.length<1000000000):Zo a b T L T' L' l law=some (gY a L' l law):=by
 unfold Zo gY
 rw [azV l hl,Option.bind_some,Yt,Option.bind_some,Yt,Option.bind_some,ait a b T L T' L' law h,Option.bind_some,p91 _ (by simp),Option.bind_some,List.any_eq_not_all_not,Bool.not_not]
 simp only [Bool.not_not]
theorem abo {a:Int} {L:List (List (Int×Int))} {l:List Int} {law:Int} (h:gY a L l law=0):(l.length:Int)=a∧(∀ x∈l,0≤x∧x≤10000)∧0≤law∧law<L.length:=by
 unfold gY at h
 by_cases h1:(l.length:Int)=a
 ·have e1:((l.length:Int) == a)=true:=by simpa using h1
  rw [e1] at h
  cases h2:(l.all fun x=>dR x 0 10000) with
  | false=>rw [h2] at h; simp [dh,bQ] at h
  | true=>
   rw [h2] at h
   cases h3:dR law 0 ((L.length:Int) - 1) with
   | false=>rw [h3] at h; simp [dh,bQ] at h
   | true=>
    rw [je] at h3
    rw [List.all_eq_true] at h2
    exact ⟨h1,fun x hx=>je.1 (h2 x hx),by omega,by omega⟩
 ·have e1:((l.length:Int) == a)=false:=by simpa using h1
  rw [e1] at h; simp [dh,bQ] at h
theorem nJ {a:Int} {T:List (Int×Int)} {s:List Int} (h:(dw a T s).2=0):(s.length:Int)=a∧Yu T s∧dw a T s=(0,0):=by
 unfold dw at h ⊢
 by_cases ha:(s.length:Int)=a
 ·rw [if_pos ha] at h ⊢
  cases hs:dA (YR T s) 0 s.length with
  | none=>
   refine ⟨ha,fun x hx=> ?_,rfl⟩
   obtain ⟨i,hi,rfl⟩:=xJ hx
   have:=jq hs i (by omega) (by omega)
   unfold YR at this
   split at this
   ·assumption
   ·cases this
  | some v=>
   obtain ⟨j,_,_,hj⟩:=gX hs
   rw [hs] at h
   unfold YR at hj
   split at hj
   ·cases hj
   ·cases hj; simp at h
 ·rw [if_neg ha] at h; simp at h
theorem BJ {a:Int} {T:List (Int×Int)} {s:List Int} (h1:(s.length:Int)=a) (h2:Yu T s):dw a T s=(0,0):=by
 unfold dw
 rw [if_pos h1,sD]
 ·rfl
 ·intro j _ hj
  unfold YR
  rw [if_pos (h2 _ (by
   have hj':j<s.length:=by omega
   rw [List.getD_eq_getElem?_getD,List.getElem?_eq_getElem hj',Option.getD_some]; exact List.getElem_mem hj'))]
def F5 (a b:Int) (T:List (Int×Int)) (L:List (List (Int×Int))) (s:List Int):Int×Int×(List (Int×Int))×(List ((List (Int×Int))))×(List (Int×Int))×(List ((List (Int×Int))))×Int:=
 if (bn a b T L).2=0 then (a,b,T,L,T,L,(dw a T s).2) else (0,0,[],[],[],[],(bn a b T L).2)
def pK (a b:Int) (T:List (Int×Int)) (L:List (List (Int×Int))) (s:List Int):Int:=if (bn a b T L).2=0 then (dw a T s).2 else (bn a b T L).2
theorem p89 (a b:Int) (T:List (Int×Int)) (L:List (List (Int×Int))) (s:List Int) (hT:T.length<1000) (hn:L.length<1000) (hL:∀ x∈L,x.length<1000) (hs:s.length<1000000):Zp a b T L s=some (F5 a b T L s):=by
 unfold Zp F5
 rw [aez a b T L hT hn hL,Option.bind_some]
 by_cases h:(bn a b T L).2=0
 ·have ok:=nN h
  simp only [h,if_true]
  rw [if_pos (by decide),aiw a b T L T L s ok.tpos ok.tlt hs,Option.bind_some]
 ·simp only [h,if_false]
  rw [if_neg (by simpa using h)]
theorem p45 (a b:Int) (T:List (Int×Int)) (L:List (List (Int×Int))) (hn:L.length<1000) (hL:∀ x∈L,x.length<1000):r57 a b T L=some (bn a b T L).2:=by
 unfold r57
 rw [p26 a b T L hn hL,Option.bind_some]
structure kE (a b:Int) (T:List (Int×Int)) (L:List (List (Int×Int))) (s:List Int):Prop where
 ok:fJ a b T L
 set0:(bn a b T L).2=0
 len:(s.length:Int)=a
 ins:Yu T s
theorem Ew {a b:Int} {T:List (Int×Int)} {L:List (List (Int×Int))} {s:List Int} (h:pK a b T L s=0):kE a b T L s:=by
 unfold pK at h
 by_cases h0:(bn a b T L).2=0
 ·rw [if_pos h0] at h
  have:=nJ h
  exact ⟨nN h0,h0,this.1,this.2.1⟩
 ·rw [if_neg h0] at h; exact absurd h h0
theorem kE.open {a b:Int} {T:List (Int×Int)} {L:List (List (Int×Int))} {s:List Int} (h:kE a b T L s):F5 a b T L s=(a,b,T,L,T,L,0):=by
 unfold F5
 rw [if_pos h.set0,BJ h.len h.ins]
theorem kE.pK {a b:Int} {T:List (Int×Int)} {L:List (List (Int×Int))} {s:List Int} (h:kE a b T L s):pK a b T L s=0:=by
 unfold YtofkgmldcjagmaaGreatDoor.pK
 rw [if_pos h.set0,BJ h.len h.ins]
theorem kE.step {a b:Int} {T:List (Int×Int)} {L:List (List (Int×Int))} {s p:List Int} {law:Int} (h:kE a b T L s) (hd:gY a L p law=0):wK T L s p law:=by
 have h1:=abo hd
 have h2:=h.len
 have h3:=h.ok.cells
 exact ⟨h.ins,by omega,⟨by omega,by omega⟩,h1.2.1,h1.2.2⟩
theorem kE.next {a b:Int} {T:List (Int×Int)} {L:List (List (Int×Int))} {s p:List Int} {law:Int} (h:kE a b T L s) (ho:(iC b T (L.getD law.toNat default) s p).all (inT T)=true):kE a b T L (iC b T (L.getD law.toNat default) s p):=
 ⟨h.ok,h.set0,by rw [sQ]; exact h.len,fun x hx=>by rw [List.all_eq_true] at ho; exact ho x hx⟩
end Go.Proofs.YtofkgmldcjagmaaGreatDoor

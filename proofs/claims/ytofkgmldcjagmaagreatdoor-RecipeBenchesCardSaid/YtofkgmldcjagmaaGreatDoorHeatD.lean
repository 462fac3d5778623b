/- Errors of states and drives, in the code and in the reference. -/
import Derived.Test.YtofkgmldcjagmaaGreatDoorF04
import Derived.Test.YtofkgmldcjagmaaGreatDoorF12
import Derived.Test.YtofkgmldcjagmaaGreatDoorHeatY
set_option linter.unusedVariables false
set_option linter.unusedSimpArgs false
namespace Go.Proofs.YtofkgmldcjagmaaGreatDoor
open Go.dJ
def yN (a:Int) (L:List (List (Int×Int))) (l:List Int) (law:Int):Int:=
 dF [bV ((l.length:Int) == a) 10,bV (l.all fun x=>gu x 0 10000) 2,bV (gu law 0 ((L.length:Int) - 1)) 6]
theorem arv (a b:Int) (T:List (Int×Int)) (L:List (List (Int×Int))) (T':List (Int×Int)) (L':List (List (Int×Int))) (law:Int) (h:L'.length<1000):Oz a b T L T' L' law=some (bV (gu law 0 ((L'.length:Int) - 1)) 6):=by
 unfold Oz
 rw [IntWalk.i64_in ((L'.length:Int) - 1) ⟨by omega,by omega⟩,p90,Option.bind_some,p94,Option.bind_some]
theorem aaN {a:Int} {L:List (List (Int×Int))} {l:List Int} {law:Int} (h:yN a L l law=0):(l.length:Int)=a∧(∀ x∈l,0≤x∧x≤10000)∧0≤law∧law<L.length:=by
 unfold yN at h
 by_cases h1:(l.length:Int)=a
 ·have e1:((l.length:Int) == a)=true:=by simpa using h1
  rw [e1] at h
  cases h2:(l.all fun x=>gu x 0 10000) with
  | false=>rw [h2] at h; simp [dF,bV] at h
  | true=>
   rw [h2] at h
   cases h3:gu law 0 ((L.length:Int) - 1) with
   | false=>rw [h3] at h; simp [dF,bV] at h
   | true=>
    rw [jJ] at h3
    rw [List.all_eq_true] at h2
    exact ⟨h1,fun x hx=>jJ.1 (h2 x hx),by omega,by omega⟩
 ·have e1:((l.length:Int) == a)=false:=by simpa using h1
  rw [e1] at h; simp [dF,bV] at h
theorem nD {a:Int} {T:List (Int×Int)} {s:List Int} (h:(dn a T s).2=0):(s.length:Int)=a∧XR T s∧dn a T s=(0,0):=by
 unfold dn at h ⊢
 by_cases ha:(s.length:Int)=a
 ·rw [if_pos ha] at h ⊢
  cases hs:dw (Yh T s) 0 s.length with
  | none=>
   refine ⟨ha,fun x hx=> ?_,rfl⟩
   obtain ⟨i,hi,rfl⟩:=wZ hx
   have:=jk hs i (by omega) (by omega)
   unfold Yh at this
   split at this
   ·assumption
   ·cases this
  | some v=>
   obtain ⟨j,_,_,hj⟩:=gU hs
   rw [hs] at h
   unfold Yh at hj
   split at hj
   ·cases hj
   ·cases hj; simp at h
 ·rw [if_neg ha] at h; simp at h
theorem AZ {a:Int} {T:List (Int×Int)} {s:List Int} (h1:(s.length:Int)=a) (h2:XR T s):dn a T s=(0,0):=by
 unfold dn
 rw [if_pos h1,rV]
 ·rfl
 ·intro j _ hj
  unfold Yh
  rw [if_pos (h2 _ (by
   have hj':j<s.length:=by omega
   rw [List.getD_eq_getElem?_getD,List.getElem?_eq_getElem hj',Option.getD_some]; exact List.getElem_mem hj'))]
def afo (a b:Int) (T:List (Int×Int)) (L:List (List (Int×Int))) (s:List Int):Int×Int×(List (Int×Int))×(List ((List (Int×Int))))×(List (Int×Int))×(List ((List (Int×Int))))×Int:=
 if (bG a b T L).2=0 then (a,b,T,L,T,L,(dn a T s).2) else (0,0,[],[],[],[],(bG a b T L).2)
def A8 (a b:Int) (T:List (Int×Int)) (L:List (List (Int×Int))) (s:List Int):Int:=if (bG a b T L).2=0 then (dn a T s).2 else (bG a b T L).2
theorem p45 (a b:Int) (T:List (Int×Int)) (L:List (List (Int×Int))) (hn:L.length<1000) (hL:∀ x∈L,x.length<1000):r57 a b T L=some (bG a b T L).2:=by
 unfold r57
 rw [p26 a b T L hn hL,Option.bind_some]
structure rF (a b:Int) (T:List (Int×Int)) (L:List (List (Int×Int))) (s:List Int):Prop where
 ok:fQ a b T L
 set0:(bG a b T L).2=0
 len:(s.length:Int)=a
 ins:XR T s
theorem Nq {a b:Int} {T:List (Int×Int)} {L:List (List (Int×Int))} {s:List Int} (h:A8 a b T L s=0):rF a b T L s:=by
 unfold A8 at h
 by_cases h0:(bG a b T L).2=0
 ·rw [if_pos h0] at h
  have:=nD h
  exact ⟨rU h0,h0,this.1,this.2.1⟩
 ·rw [if_neg h0] at h; exact absurd h h0
theorem rF.open {a b:Int} {T:List (Int×Int)} {L:List (List (Int×Int))} {s:List Int} (h:rF a b T L s):afo a b T L s=(a,b,T,L,T,L,0):=by
 unfold afo
 rw [if_pos h.set0,AZ h.len h.ins]
theorem rF.A8 {a b:Int} {T:List (Int×Int)} {L:List (List (Int×Int))} {s:List Int} (h:rF a b T L s):A8 a b T L s=0:=by
 unfold YtofkgmldcjagmaaGreatDoor.A8
 rw [if_pos h.set0,AZ h.len h.ins]
theorem rF.step {a b:Int} {T:List (Int×Int)} {L:List (List (Int×Int))} {s p:List Int} {law:Int} (h:rF a b T L s) (hd:yN a L p law=0):vX T L s p law:=by
 have h1:=aaN hd
 have h2:=h.len
 have h3:=h.ok.cells
 exact ⟨h.ins,by omega,⟨by omega,by omega⟩,h1.2.1,h1.2.2⟩
theorem rF.next {a b:Int} {T:List (Int×Int)} {L:List (List (Int×Int))} {s p:List Int} {law:Int} (h:rF a b T L s) (ho:(mP b T (L.getD law.toNat default) s p).all (inT T)=true):rF a b T L (mP b T (L.getD law.toNat default) s p):=
 ⟨h.ok,h.set0,by rw [sF]; exact h.len,fun x hx=>by rw [List.all_eq_true] at ho; exact ho x hx⟩
end Go.Proofs.YtofkgmldcjagmaaGreatDoor

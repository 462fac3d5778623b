/- Errors of states and drives, in the code and in the reference. -/
import Derived.Test.YtofkgmldcjagmaaGreatDoorF04
import Derived.Test.YtofkgmldcjagmaaGreatDoorF12
import Derived.Test.YtofkgmldcjagmaaGreatDoorHeatY
set_option linter.unusedVariables false
set_option linter.unusedSimpArgs false
namespace Go.Proofs.YtofkgmldcjagmaaGreatDoor
open Go.Abs
def driveErrV (a:Int) (L:List (List (Int×Int))) (l:List Int) (law:Int):Int:=
 firstV [codeIf ((l.length:Int) == a) 10,codeIf (l.all fun x=>inR x 0 10000) 2,codeIf (inR law 0 ((L.length:Int) - 1)) 6]
theorem p106 (l:List Int) (hl:l.length<1000000000):r76 l=some (l.any fun x=> !inR x 0 10000):=by
 have h:r109a l=some (idxV (fun x=> !inR x 0 10000) 0 l):=by
  unfold r109a
  refine idx_loop _ l _ hl (fun i hi=> ?_) (by simp [b109a_1])
  simp only [b109a_1,ltN hi,if_true,if_pos (rgN hi),Int.toNat_natCast,wS i (by omega),r149,r150,p90,Option.bind_some,bindC]
 unfold r76
 rw [h,Option.bind_some,idx_ge _ l 0 (by omega)]
theorem p126 (a b:Int) (T:List (Int×Int)) (L:List (List (Int×Int))) (T':List (Int×Int)) (L':List (List (Int×Int))) (law:Int) (h:L'.length<1000):r151 a b T L T' L' law=some (codeIf (inR law 0 ((L'.length:Int) - 1)) 6):=by
 unfold r151
 rw [IntWalk.i64_in ((L'.length:Int) - 1) ⟨by omega,by omega⟩,p90,Option.bind_some,p94,Option.bind_some]
theorem p92 (a b:Int) (T:List (Int×Int)) (L:List (List (Int×Int))) (T':List (Int×Int)) (L':List (List (Int×Int))) (l:List Int) (law:Int) (h:L'.length<1000) (hl:l.length<1000000000):r107 a b T L T' L' l law=some (driveErrV a L' l law):=by
 unfold r107 driveErrV
 rw [p106 l hl,Option.bind_some,p94,Option.bind_some,p94,Option.bind_some,p126 a b T L T' L' law h,Option.bind_some,p91 _ (by simp),Option.bind_some,List.any_eq_not_all_not,Bool.not_not]
 simp only [Bool.not_not]
theorem drive_ok {a:Int} {L:List (List (Int×Int))} {l:List Int} {law:Int} (h:driveErrV a L l law=0):(l.length:Int)=a∧(∀ x∈l,0≤x∧x≤10000)∧0≤law∧law<L.length:=by
 unfold driveErrV at h
 by_cases h1:(l.length:Int)=a
 ·have e1:((l.length:Int) == a)=true:=by simpa using h1
  rw [e1] at h
  cases h2:(l.all fun x=>inR x 0 10000) with
  | false=>rw [h2] at h; simp [firstV,codeIf] at h
  | true=>
   rw [h2] at h
   cases h3:inR law 0 ((L.length:Int) - 1) with
   | false=>rw [h3] at h; simp [firstV,codeIf] at h
   | true=>
    rw [inR_iff] at h3
    rw [List.all_eq_true] at h2
    exact ⟨h1,fun x hx=>inR_iff.1 (h2 x hx),by omega,by omega⟩
 ·have e1:((l.length:Int) == a)=false:=by simpa using h1
  rw [e1] at h; simp [firstV,codeIf] at h
theorem state_ok {a:Int} {T:List (Int×Int)} {s:List Int} (h:(stateErrV a T s).2=0):(s.length:Int)=a∧inS T s∧stateErrV a T s=(0,0):=by
 unfold stateErrV at h ⊢
 by_cases ha:(s.length:Int)=a
 ·rw [if_pos ha] at h ⊢
  cases hs:scanN (stF T s) 0 s.length with
  | none=>
   refine ⟨ha,fun x hx=> ?_,rfl⟩
   obtain ⟨i,hi,rfl⟩:=mem_getD hx
   have:=scan_none hs i (by omega) (by omega)
   unfold stF at this
   split at this
   ·assumption
   ·cases this
  | some v=>
   obtain ⟨j,_,_,hj⟩:=scan_some hs
   rw [hs] at h
   unfold stF at hj
   split at hj
   ·cases hj
   ·cases hj; simp at h
 ·rw [if_neg ha] at h; simp at h
theorem state_zero {a:Int} {T:List (Int×Int)} {s:List Int} (h1:(s.length:Int)=a) (h2:inS T s):stateErrV a T s=(0,0):=by
 unfold stateErrV
 rw [if_pos h1,scan_all]
 ·rfl
 ·intro j _ hj
  unfold stF
  rw [if_pos (h2 _ (by
   have hj':j<s.length:=by omega
   rw [List.getD_eq_getElem?_getD,List.getElem?_eq_getElem hj',Option.getD_some]; exact List.getElem_mem hj'))]
def openV (a b:Int) (T:List (Int×Int)) (L:List (List (Int×Int))) (s:List Int):Int×Int×(List (Int×Int))×(List ((List (Int×Int))))×(List (Int×Int))×(List ((List (Int×Int))))×Int:=
 if (setupErrV a b T L).2=0 then (a,b,T,L,T,L,(stateErrV a T s).2) else (0,0,[],[],[],[],(setupErrV a b T L).2)
def stErr (a b:Int) (T:List (Int×Int)) (L:List (List (Int×Int))) (s:List Int):Int:=if (setupErrV a b T L).2=0 then (stateErrV a T s).2 else (setupErrV a b T L).2
theorem p89 (a b:Int) (T:List (Int×Int)) (L:List (List (Int×Int))) (s:List Int) (hT:T.length<1000) (hn:L.length<1000) (hL:∀ x∈L,x.length<1000) (hs:s.length<1000000):r106 a b T L s=some (openV a b T L s):=by
 unfold r106 openV
 rw [p101 a b T L hT hn hL,Option.bind_some]
 by_cases h:(setupErrV a b T L).2=0
 ·have ok:=setOk_of h
  simp only [h,if_true]
  rw [if_pos (by decide),p102 a b T L T L s ok.tpos ok.tlt hs,Option.bind_some]
 ·simp only [h,if_false]
  rw [if_neg (by simpa using h)]
theorem p45 (a b:Int) (T:List (Int×Int)) (L:List (List (Int×Int))) (hn:L.length<1000) (hL:∀ x∈L,x.length<1000):r57 a b T L=some (setupErrV a b T L).2:=by
 unfold r57
 rw [p26 a b T L hn hL,Option.bind_some]
structure AllOk (a b:Int) (T:List (Int×Int)) (L:List (List (Int×Int))) (s:List Int):Prop where
 ok:SetOk a b T L
 set0:(setupErrV a b T L).2=0
 len:(s.length:Int)=a
 ins:inS T s
theorem allOk_of {a b:Int} {T:List (Int×Int)} {L:List (List (Int×Int))} {s:List Int} (h:stErr a b T L s=0):AllOk a b T L s:=by
 unfold stErr at h
 by_cases h0:(setupErrV a b T L).2=0
 ·rw [if_pos h0] at h
  have:=state_ok h
  exact ⟨setOk_of h0,h0,this.1,this.2.1⟩
 ·rw [if_neg h0] at h; exact absurd h h0
theorem AllOk.open {a b:Int} {T:List (Int×Int)} {L:List (List (Int×Int))} {s:List Int} (h:AllOk a b T L s):openV a b T L s=(a,b,T,L,T,L,0):=by
 unfold openV
 rw [if_pos h.set0,state_zero h.len h.ins]
theorem AllOk.stErr {a b:Int} {T:List (Int×Int)} {L:List (List (Int×Int))} {s:List Int} (h:AllOk a b T L s):stErr a b T L s=0:=by
 unfold YtofkgmldcjagmaaGreatDoor.stErr
 rw [if_pos h.set0,state_zero h.len h.ins]
theorem AllOk.step {a b:Int} {T:List (Int×Int)} {L:List (List (Int×Int))} {s p:List Int} {law:Int} (h:AllOk a b T L s) (hd:driveErrV a L p law=0):StepOk T L s p law:=by
 have h1:=drive_ok hd
 have h2:=h.len
 have h3:=h.ok.cells
 exact ⟨h.ins,by omega,⟨by omega,by omega⟩,h1.2.1,h1.2.2⟩
theorem AllOk.next {a b:Int} {T:List (Int×Int)} {L:List (List (Int×Int))} {s p:List Int} {law:Int} (h:AllOk a b T L s) (ho:(outS b T (L.getD law.toNat default) s p).all (inT T)=true):AllOk a b T L (outS b T (L.getD law.toNat default) s p):=
 ⟨h.ok,h.set0,by rw [outS_len]; exact h.len,fun x hx=>by rw [List.all_eq_true] at ho; exact ho x hx⟩
end Go.Proofs.YtofkgmldcjagmaaGreatDoor

/- Errors of states and drives, in the code and in the reference. -/
import Derived.Test.YtkbdjphdhcgmaaaGreatDoorHeatY
set_option linter.unusedVariables false
set_option linter.unusedSimpArgs false
namespace Go.Proofs.YtkbdjphdhcgmaaaGreatDoor
open Go.Abs
def driveErrV (a:Int) (L:List (List (Int×Int))) (l:List Int) (law:Int):Int:=
 firstV [codeIf ((l.length:Int) == a) 10,codeIf (l.all fun x=>inR x 0 10000) 2,codeIf (inR law 0 ((L.length:Int) - 1)) 6]
theorem drive_ok {a:Int} {L:List (List (Int×Int))} {l:List Int} {law:Int} (h:driveErrV a L l law=0):(l.length:Int)=a∧(∀ x∈l,0≤x∧x≤10000)∧0≤law∧law<L.length:=by
 unfold driveErrV at h
 by_cases h1:(l.length:Int)=a
 ·have e1:((l.length:Int) == a)=true:=by simpa using h1
  rw [e1] at h
  cases h2:(l.all fun x=>inR x 0 10000) with
  | false=>rw [h2] at h; simp [firstV,codeIf] at h
  | true=>
   rw [h2] at h
   cases h3:inR law 0 ((L.length:Int) - 1) with
   | false=>rw [h3] at h; simp [firstV,codeIf] at h
   | true=>
    rw [inR_iff] at h3
    rw [List.all_eq_true] at h2
    exact ⟨h1,fun x hx=>inR_iff.1 (h2 x hx),by omega,by omega⟩
 ·have e1:((l.length:Int) == a)=false:=by simpa using h1
  rw [e1] at h; simp [firstV,codeIf] at h
theorem state_zero {a:Int} {T:List (Int×Int)} {s:List Int} (h1:(s.length:Int)=a) (h2:inS T s):stateErrV a T s=(0,0):=by
 unfold stateErrV
 rw [if_pos h1,scan_all]
 ·rfl
 ·intro j _ hj
  unfold stF
  rw [if_pos (h2 _ (by
   have hj':j<s.length:=by omega
   rw [List.getD_eq_getElem?_getD,List.getElem?_eq_getElem hj',Option.getD_some]; exact List.getElem_mem hj'))]
def openV (a b:Int) (T:List (Int×Int)) (L:List (List (Int×Int))) (s:List Int):Int×Int×(List (Int×Int))×(List ((List (Int×Int))))×(List (Int×Int))×(List ((List (Int×Int))))×Int:=
 if (setupErrV a b T L).2=0 then (a,b,T,L,T,L,(stateErrV a T s).2) else (0,0,[],[],[],[],(setupErrV a b T L).2)
def stErr (a b:Int) (T:List (Int×Int)) (L:List (List (Int×Int))) (s:List Int):Int:=if (setupErrV a b T L).2=0 then (stateErrV a T s).2 else (setupErrV a b T L).2
structure AllOk (a b:Int) (T:List (Int×Int)) (L:List (List (Int×Int))) (s:List Int):Prop where
 ok:SetOk a b T L
 set0:(setupErrV a b T L).2=0
 len:(s.length:Int)=a
 ins:inS T s
theorem AllOk.open {a b:Int} {T:List (Int×Int)} {L:List (List (Int×Int))} {s:List Int} (h:AllOk a b T L s):openV a b T L s=(a,b,T,L,T,L,0):=by
 unfold openV
 rw [if_pos h.set0,state_zero h.len h.ins]
theorem AllOk.stErr {a b:Int} {T:List (Int×Int)} {L:List (List (Int×Int))} {s:List Int} (h:AllOk a b T L s):stErr a b T L s=0:=by
 unfold YtkbdjphdhcgmaaaGreatDoor.stErr
 rw [if_pos h.set0,state_zero h.len h.ins]
theorem AllOk.step {a b:Int} {T:List (Int×Int)} {L:List (List (Int×Int))} {s p:List Int} {law:Int} (h:AllOk a b T L s) (hd:driveErrV a L p law=0):StepOk T L s p law:=by
 have h1:=drive_ok hd
 have h2:=h.len
 have h3:=h.ok.cells
 exact ⟨h.ins,by omega,⟨by omega,by omega⟩,h1.2.1,h1.2.2⟩
theorem AllOk.next {a b:Int} {T:List (Int×Int)} {L:List (List (Int×Int))} {s p:List Int} {law:Int} (h:AllOk a b T L s) (ho:(outS b T (L.getD law.toNat default) s p).all (inT T)=true):AllOk a b T L (outS b T (L.getD law.toNat default) s p):=
 ⟨h.ok,h.set0,by rw [outS_len]; exact h.len,fun x hx=>by rw [List.all_eq_true] at ho; exact ho x hx⟩
end Go.Proofs.YtkbdjphdhcgmaaaGreatDoor

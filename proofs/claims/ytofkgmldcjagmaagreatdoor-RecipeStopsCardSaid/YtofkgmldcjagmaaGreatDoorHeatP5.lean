import Derived.Test.YtofkgmldcjagmaaGreatDoorF02
import Derived.Test.YtofkgmldcjagmaaGreatDoorF12
import Derived.Test.YtofkgmldcjagmaaGreatDoorF13
import Derived.Test.YtofkgmldcjagmaaGreatDoorHeatP4
set_option linter.unusedVariables false
set_option linter.unusedSimpArgs false
namespace Go.Proofs.YtofkgmldcjagmaaGreatDoor
open Go.Abs
theorem p18 (a b:Int) (T:List (Int×Int)) (L:List (List (Int×Int))) (hT:T.length<1000) (hn:L.length<1000) (hL:∀ x∈L,x.length<1000):r44 a b T L=some (a,b,T,L):=by
 unfold r44
 rw [if_pos ⟨by omega,by omega⟩]
 refine iter_run L.length (b44_1 a b T L) (fun i=>((i:Int),L.take i)) _ (by omega) ?_ ?_
 ·intro i hi
  have hlen:(L.take i).length=i:=by simp; omega
  have h2:=lawlen hL i
  simp only [b44_1,ltN hi,if_true,if_pos (rgN hi),Int.toNat_natCast,wS i (by omega),hlen]
  rw [if_pos ⟨by omega,by omega⟩,if_pos ⟨by omega,by omega⟩,take_ext L i hi]
  rfl
 ·simp [b44_1]
theorem p101 (a b:Int) (T:List (Int×Int)) (L:List (List (Int×Int))) (hT:T.length<1000) (hn:L.length<1000) (hL:∀ x∈L,x.length<1000) :
 r86 a b T L=some (if (setupErrV a b T L).2=0 then (a,b,T,L,T,L,0) else (0,0,[],[],[],[],(setupErrV a b T L).2)):=by
 unfold r86
 rw [p24 a b T L hn hL,Option.bind_some]
 by_cases h:(setupErrV a b T L).2=0
 ·rw [if_neg (by simpa using h),if_pos h,p150 T (by omega),Option.bind_some]
  refine iter_run L.length (b86_1 a b T L T) (fun i=>((i:Int),L.take i)) _ (by omega) ?_ ?_
  ·intro i hi
   have hlen:(L.take i).length=i:=by simp; omega
   have h2:=lawlen hL i
   simp only [b86_1,ltN hi,if_true,if_pos (rgN hi),Int.toNat_natCast,wS i (by omega),hlen,p148 _ (show (L.getD i default).length<1000000 by omega),bindC]
   rw [if_pos ⟨by omega,by omega⟩,take_ext L i hi]
   rfl
  ·simp [b86_1]
 ·rw [if_pos (by simpa using h),if_neg h]
def inT (T:List (Int×Int)) (e:Int):Bool:=inR e (T.getD 0 default).1 (T.getD (T.length - 1) default).1
theorem p120 (a b:Int) (T:List (Int×Int)) (L:List (List (Int×Int))) (T2:List (Int×Int)) (L2:List (List (Int×Int))) (e:Int) (h:0<T2.length) (h2:T2.length<1000):r156 a b T L T2 L2 e=some (inT T2 e):=by
 unfold r156
 rw [wP T2.length (by omega),wPn,if_pos ⟨by omega,by omega⟩,if_pos ⟨by omega,by omega⟩,p90,Option.bind_some]
 rfl
def stF (T:List (Int×Int)) (s:List Int) (i:Nat):Option (Int×Int):=if inT T (s.getD i default)=true then none else some ((i:Int),2)
def stateErrV (a:Int) (T:List (Int×Int)) (s:List Int):Int×Int:=if (s.length:Int)=a then (scanN (stF T s) 0 s.length).getD (0,0) else (0,10)
def idF (T:List (Int×Int)) (s:List Int) (i:Nat):Option Int:=if inT T (s.getD i default)=true then none else some (i:Int)
theorem p102 (a b:Int) (T:List (Int×Int)) (L:List (List (Int×Int))) (T2:List (Int×Int)) (L2:List (List (Int×Int))) (s:List Int) (h:0<T2.length) (h2:T2.length<1000) (hs:s.length<1000000):r124 a b T L T2 L2 s=some (stateErrV a T2 s):=by
 unfold r124 stateErrV
 by_cases ha:(s.length:Int)=a
 ·rw [if_neg (by simpa using ha),if_pos ha]
  have hq:r109 s a b T L T2 L2=orE (scanN (idF T2 s) 0 s.length) (some (-1)):=by
   refine iter_scan s.length (b109_1 s a b T L T2 L2) _ _ (by omega) ?_ ?_
   ·intro i hi
    simp only [b109_1,ltN hi,if_true,if_pos (rgN hi),Int.toNat_natCast,wS i (by omega),r167,p120 a b T L T2 L2 _ h h2,Option.bind_some,bindC,idF]
    generalize inT T2 (s.getD i default)=q
    cases q<;>simp
   ·simp [b109_1]
  rw [hq]
  have hm:∀ k i,scanN (stF T2 s) i k=(scanN (idF T2 s) i k).map fun v=>(v,2):=by
   intro k
   induction k with
   | zero=>intro i; rfl
   | succ k ih=>
    intro i
    simp only [scanN,stF,idF]
    split<;>simp_all [stF,idF]
  rw [hm]
  cases hv:scanN (idF T2 s) 0 s.length with
  | none=>rfl
  | some v=>
   obtain ⟨j,_,_,hj⟩:=scan_some hv
   have:0≤v:=by
    unfold idF at hj
    split at hj
    ·cases hj
    ·injection hj with hj; omega
   rw [orE_some,Option.bind_some,if_pos (decide_eq_true this)]; rfl
 ·rw [if_pos (by simpa using ha),if_neg ha]
theorem SetOk.tpos {a b:Int} {T:List (Int×Int)} {L:List (List (Int×Int))} (h:SetOk a b T L):0<T.length:=by have:=h.tlen; omega
theorem SetOk.tlt {a b:Int} {T:List (Int×Int)} {L:List (List (Int×Int))} (h:SetOk a b T L):T.length<1000:=by have:=h.tlen; omega
theorem p56 (a b:Int) (T:List (Int×Int)) (L:List (List (Int×Int))) (e:Int) (h:0<T.length) (h2:T.length<1000):r113 a b T L e=some (inT T e):=by
 unfold r113
 rw [wP T.length (by omega),wPn,if_pos ⟨by omega,by omega⟩,if_pos ⟨by omega,by omega⟩,p59,Option.bind_some]
 rfl
theorem p27 (a b:Int) (T:List (Int×Int)) (L:List (List (Int×Int))) (s:List Int) (h:0<T.length) (h2:T.length<1000) (hs:s.length<1000000):r127 a b T L s=some (stateErrV a T s):=by
 unfold r127 stateErrV
 by_cases ha:(s.length:Int)=a
 ·rw [if_neg (by simpa using ha),if_pos ha]
  have hq:iterC (b127_1 a b T L s) 1000000000 0=orE (scanN (stF T s) 0 s.length) (some (0,0)):=by
   refine iter_scan s.length (b127_1 a b T L s) _ _ (by omega) ?_ ?_
   ·intro i hi
    simp only [b127_1,ltN hi,if_true,if_pos (rgN hi),Int.toNat_natCast,wS i (by omega),p56 a b T L _ h h2,bindC,stF]
    generalize inT T (s.getD i default)=q
    cases q<;>simp
   ·simp [b127_1]
  rw [hq]
  cases scanN (stF T s) 0 s.length<;>rfl
 ·rw [if_pos (by simpa using ha),if_neg ha]
end Go.Proofs.YtofkgmldcjagmaaGreatDoor

import Derived.Test.YtnepigpnlnmlmaaGreatDoorAbsC
set_option linter.unusedVariables false
set_option linter.unusedSimpArgs false
namespace Go.dR
def force {α:Type} (m:Nat) (f:Nat->α):α:=Nat.rec (f 0) (λn _=>f (n+1)) m
theorem force_eq {α:Type} (m:Nat) (f:Nat->α):force m f=f m:=by cases m<;>rfl
def Qi (pm:List Nat) (n:Nat):List Edge->Nat
 | []=>0
 | e::r=>if Region.binds .any e=true then ((2 ^ e.on) ||| (if e.on<n then pm.getD (n - 1 - e.on) 0 else 0)) ||| Qi pm n r else Qi pm n r
def mok (m:Nat) (f:sN):Nat->List sN->Bool
 | _,[]=>true
 | k,g::r=>(m.testBit k || !clash g f) && mok m f (k+1) r
def ahK (pm:List Nat) (n:Nat) (pf:List sN):List Oper->List sN->Bool
 | [],[]=>true
 | o::r,f::fs=>force (Qi pm n o.after.toList) λm=>mok m f 0 pf && ahK (m::pm) (n+1) (pf++[f]) r fs
 | _,_=>false
structure RX (prev:List (List Nat)) (pm:List Nat):Prop where
 len:prev.length=pm.length
 bit:∀ k,k<prev.length->∀ x,x∈prev.getD k []↔(pm.getD (pm.length - 1 - k) 0).testBit x=true
theorem J3 {prev:List (List Nat)} {pm:List Nat} (h:RX prev pm) (x:Nat):∀ es:List Edge,x∈clo prev es↔(Qi pm pm.length es).testBit x=true
 | []=>by simp [clo,Qi]
 | e::r=>by
  have ih:=J3 h x r
  have hc:clo prev (e::r)=(if Region.binds .any e=true then e.on::prev.getD e.on [] else [])++clo prev r:=by simp [clo]
  have hm:Qi pm pm.length (e::r)=if Region.binds .any e=true then ((2 ^ e.on) ||| (if e.on<pm.length then pm.getD (pm.length - 1 - e.on) 0 else 0)) ||| Qi pm pm.length r else Qi pm pm.length r:=rfl
  rw [hc,hm,List.mem_append,ih]
  by_cases hb:Region.binds .any e=true
  ·rw [if_pos hb,if_pos hb,Nat.testBit_or,Nat.testBit_or,Bool.or_eq_true,Bool.or_eq_true,List.mem_cons,Nat.testBit_two_pow]
   by_cases hn:e.on<pm.length
   ·rw [if_pos hn,h.bit e.on (by rw [h.len]; exact hn)]
    have:(decide (e.on=x)=true)↔x=e.on:=by rw [decide_eq_true_eq]; exact eq_comm
    rw [this]
   rw [if_neg hn]
   have h0:prev.getD e.on []=[]:=by
    rw [List.getD_eq_getElem?_getD,List.getElem?_eq_none (by rw [h.len]; omega)]; rfl
   have:(decide (e.on=x)=true)↔x=e.on:=by rw [decide_eq_true_eq]; exact eq_comm
   rw [h0,this]; simp
  rw [if_neg hb,if_neg hb]; simp
theorem Qh {cl:List Nat} {m:Nat} {f:sN} (h:∀ x,x∈cl↔m.testBit x=true):∀ (l:List sN) (k:Nat),mok m f k l=true->JX cl f k l=true
 | [],k,_=>rfl
 | g::r,k,hm=>by
  unfold mok at hm
  rw [Bool.and_eq_true] at hm
  unfold JX
  rw [Bool.and_eq_true]
  refine ⟨?_,Qh h r (k+1) hm.2⟩
  have:=hm.1
  rw [Bool.or_eq_true] at this ⊢
  rcases this with h1 | h1
  ·left; rw [List.contains_iff_mem]; exact (h k).2 h1
  right; exact h1
theorem RX.snoc {prev:List (List Nat)} {pm:List Nat} (h:RX prev pm) {cl:List Nat} {m:Nat} (hm:∀ x,x∈cl↔m.testBit x=true):RX (prev++[cl]) (m::pm):=by
 have hl:=h.len
 refine ⟨by simp [hl],λk hk x=> ?_⟩
 simp only [List.length_append,List.length_cons,List.length_nil] at hk ⊢
 by_cases hkl:k<prev.length
 ·have e1:(prev++[cl]).getD k []=prev.getD k []:=by simp [List.getD_eq_getElem?_getD,List.getElem?_append_left hkl]
  rw [e1,h.bit k hkl]
  have e2:pm.length+1 - 1 - k=(pm.length - 1 - k)+1:=by omega
  rw [e2]; simp
 have hk':k=prev.length:=by omega
 subst hk'
 have e1:(prev++[cl]).getD prev.length []=cl:=by simp [List.getD_eq_getElem?_getD]
 rw [e1,hl]
 have e2:pm.length+1 - 1 - pm.length=0:=by omega
 rw [e2]; simpa using hm x
theorem KI:∀ (r:List Oper) (fs:List sN) (prev:List (List Nat)) (pm:List Nat) (pf:List sN),RX prev pm->ahK pm pm.length pf r fs=true->chk prev pf r fs=true
 | [],[],_,_,_,_,_=>rfl
 | [],f::fs,_,_,_,_,h=>by cases h
 | o::r,[],_,_,_,_,h=>by cases h
 | o::r,f::fs,prev,pm,pf,hM,h=>by
  unfold ahK at h
  rw [force_eq,Bool.and_eq_true] at h
  have hs:=λx=>J3 hM x o.after.toList
  unfold chk
  rw [Bool.and_eq_true]
  exact ⟨Qh hs _ _ h.1,KI r fs _ _ _ (hM.snoc hs) h.2⟩
theorem ahJ {ops:List Oper} {fs:List sN} (h:ahK [] 0 [] ops fs=true):chk [] [] ops fs=true:=
 KI ops fs [] [] [] ⟨rfl,λk hk=>absurd hk (by simp)⟩ h
end Go.dR

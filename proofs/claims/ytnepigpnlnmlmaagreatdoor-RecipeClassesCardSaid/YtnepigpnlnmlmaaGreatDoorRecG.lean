/- Recipes: depths, lengths, counts (no function of the program). -/
import Derived.Test.YtnepigpnlnmlmaaGreatDoorRecC
set_option linter.unusedVariables false
set_option linter.unusedSimpArgs false
namespace Go.Proofs.YtnepigpnlnmlmaaGreatDoor
open Go.Abs
def dp:Hl→Nat
 | .nil=>0
 | .cons _ _ _ _ _ b r=>max (dp b+1) (dp r)
def shB (n:Nat):Hl→Bool
 | .nil=>true
 | .cons _ _ _ _ _ b r=>decide (hN b≤n) && shB n b && shB n r
theorem dp_mem:∀ {b:Hl} {x:Ph},x∈hU b→dp x.2.2.2.2.2+1≤dp b
 | .nil,x,h=>by cases h
 | .cons k p l t q b r,x,h=>by
  rw [dp]
  rcases List.mem_cons.1 h with rfl | h
  ·exact Nat.le_max_left _ _
  ·exact Nat.le_trans (dp_mem h) (Nat.le_max_right _ _)
theorem sh_mem {n:Nat}:∀ {b:Hl} {x:Ph},shB n b=true→x∈hU b→hN x.2.2.2.2.2≤n∧shB n x.2.2.2.2.2=true
 | .nil,x,_,h=>by cases h
 | .cons k p l t q b r,x,hs,h=>by
  rw [shB] at hs
  simp only [Bool.and_eq_true,decide_eq_true_eq] at hs
  rcases List.mem_cons.1 h with rfl | h
  ·exact ⟨hs.1.1,hs.1.2⟩
  ·exact sh_mem hs.2 h
def dpL (l:List Ph):Nat:=dp (hM l)
def shL (n:Nat) (l:List Ph):Bool:=decide (l.length≤n) && shB n (hM l)
theorem dpL_mem {l:List Ph} {x:Ph} (h:x∈l):dpL (hU x.2.2.2.2.2)+1≤dpL l:=by
 unfold dpL
 rw [hM_hU]
 exact dp_mem (b:=hM l) (by rw [hU_hM]; exact h)
theorem shL_mem {n:Nat} {l:List Ph} {x:Ph} (hs:shL n l=true) (h:x∈l):shL n (hU x.2.2.2.2.2)=true:=by
 unfold shL at hs ⊢
 simp only [Bool.and_eq_true,decide_eq_true_eq] at hs ⊢
 have h2:=sh_mem hs.2 (x:=x) (by rw [hU_hM]; exact h)
 rw [hM_hU,hN_U]
 exact h2
theorem shL_len {n:Nat} {l:List Ph} (hs:shL n l=true):l.length≤n:=by
 unfold shL at hs
 simp only [Bool.and_eq_true,decide_eq_true_eq] at hs
 exact hs.1
theorem shL_of {n:Nat}:∀ {l:List Ph},l.length≤n→(∀ x∈l,shL n (hU x.2.2.2.2.2)=true)→shL n l=true
 | [],_,_=>by unfold shL; simp [hM,shB]
 | (k,p,w,t,q,b)::r,hl,h=>by
  have h1:=h (k,p,w,t,q,b) (by simp)
  have h2:=shL_of (n:=n) (l:=r) (by simp at hl; omega) (fun x hx=>h x (by simp [hx]))
  unfold shL at h1 h2 ⊢
  simp only [Bool.and_eq_true,decide_eq_true_eq,hM_hU,hN_U] at h1 h2 ⊢
  rw [hM,shB]
  simp only [Bool.and_eq_true,decide_eq_true_eq]
  exact ⟨hl,⟨h1.1,h1.2⟩,h2.2⟩
theorem dpL_of {n:Nat}:∀ {l:List Ph},(∀ x∈l,dpL (hU x.2.2.2.2.2)+1≤n)→dpL l≤n
 | [],_=>by unfold dpL; simp [hM,dp]
 | (k,p,w,t,q,b)::r,h=>by
  have h1:=h (k,p,w,t,q,b) (by simp)
  have h2:=dpL_of (n:=n) (l:=r) (fun x hx=>h x (by simp [hx]))
  unfold dpL at h1 h2 ⊢
  rw [hM_hU] at h1
  rw [hM,dp]
  exact Nat.max_le.2 ⟨h1,h2⟩
theorem ok_dp:∀ (b:Hl) (d:Int),0≤d→d≤3→lsE b d=0→(dp b:Int)≤4 - d
 | .nil,d,_,_,_=>by rw [dp]; omega
 | .cons k p l t q b r,d,h0,h3,h=>by
  have hx:=ls_all h (k,p,l,t,q,b) (by simp [hU])
  have hr:lsE r d=0:=by rw [lsE_cons,if_pos hx] at h; exact h
  have ih:=ok_dp r d h0 h3 hr
  rw [dp]
  have hb:(dp b:Int)+1≤4 - d:=by
   by_cases k5:k=5
   ·obtain ⟨n3,k2,_,_⟩:=ph_rep hx k5
    simp only at k2
    have:=ok_dp b (d+1) (by omega) (by omega) k2
    omega
   ·have ho:=(own_ok (ph_ok' hx k5)).2.1
    unfold cleanB at ho
    simp only [Bool.and_eq_true,Bool.or_eq_true,beq_iff_eq] at ho
    have hb0:hN b=0:=by rcases ho.2 with h | h; exact absurd h k5; exact h
    cases b with
    | nil=>rw [dp]; omega
    | cons=>simp [hN] at hb0
  omega
where
 ph_ok' {d:Int} {x:Ph} (h:phE d x=0) (h5:x.1≠5):ownE x.1 x.2.1 x.2.2.1 x.2.2.2.1 x.2.2.2.2.1 (hN x.2.2.2.2.2 == 0)=0:=by
  rw [ph_ne5 h5] at h; exact h
end Go.Proofs.YtnepigpnlnmlmaaGreatDoor

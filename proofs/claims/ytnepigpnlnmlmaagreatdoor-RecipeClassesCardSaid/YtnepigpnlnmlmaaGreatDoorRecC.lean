/- Recipes: checked and flattened by the code. -/
import Derived.Test.YtnepigpnlnmlmaaGreatDoorF02
import Derived.Test.YtnepigpnlnmlmaaGreatDoorRecB
set_option linter.unusedVariables false
set_option linter.unusedSimpArgs false
namespace Go.Proofs.YtnepigpnlnmlmaaGreatDoor
open Go.Abs
def flL (l:List Ph):List Ph:=l.flatMap phF
def coldB (k:Int):Bool:=k == 2 || k == 4
def recE (l:List Ph):Int×Int:=
 if l.length=0 then (0,10) else if 12<l.length then (0,8) else
 if (erI 0 0 l).2=0 then (if (flL l).length≤60 then (if coldB ((flL l).getD ((flL l).length - 1) default).1=true then (0,0) else (0,20)) else (0,8)) else erI 0 0 l
theorem fl_ne:∀ (b:Hl) (d:Int),lsE b d=0→1≤hN b→1≤(flV b).length
 | .nil,_,_,h=>by simp [hN] at h
 | .cons k p l t q b r,d,h,_=>by
  have hx:=ls_all h (k,p,l,t,q,b) (by simp [hU])
  rw [flV,List.length_append]
  by_cases k5:k=5
  ·obtain ⟨_,k2,k3,k4⟩:=ph_rep hx k5
   simp only at k2 k3 k4
   have ih:=fl_ne b (d+1) k2 k3.1
   obtain ⟨n,hn⟩:∃ n,t.toNat=n+1:=⟨t.toNat - 1,by omega⟩
   rw [if_pos k5,hn,List.replicate_succ,List.flatten_cons,List.length_append]; omega
  ·rw [if_neg k5]; simp
theorem phF_ne {d:Int} {x:Ph} (h:phE d x=0):1≤(phF x).length:=by
 unfold phF
 by_cases k5:x.1=5
 ·obtain ⟨_,k2,k3,k4⟩:=ph_rep h k5
  have ih:=fl_ne _ _ k2 k3.1
  obtain ⟨n,hn⟩:∃ n,x.2.2.2.1.toNat=n+1:=⟨x.2.2.2.1.toNat - 1,by omega⟩
  rw [if_pos k5,hn,List.replicate_succ,List.flatten_cons,List.length_append]; omega
 ·rw [if_neg k5]; simp
theorem er_all {d:Int}:∀ {l:List Ph} {i:Int},(erI d i l).2=0→∀ x∈l,phE d x=0
 | [],_,_,x,hx=>by cases hx
 | y::r,i,h,x,hx=>by
  rw [erI] at h
  by_cases c:phE d y=0
  ·rw [if_pos c] at h
   rcases List.mem_cons.1 hx with rfl | hx
   ·exact c
   ·exact er_all h x hx
  ·rw [if_neg c] at h; exact absurd h c
theorem cold (k:Int):r68 k=some (coldB k):=rfl
end Go.Proofs.YtnepigpnlnmlmaaGreatDoor

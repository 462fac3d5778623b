/- Recipes: flattened phases by the code. -/
import Derived.Test.YtnepigpnlnmlmaaGreatDoorRecA
set_option linter.unusedVariables false
set_option linter.unusedSimpArgs false
namespace Go.Proofs.YtnepigpnlnmlmaaGreatDoor
open Go.Abs
def flV:Hl→List Ph
 | .nil=>[]
 | .cons k p l t q b r=>(if k=5 then (List.replicate t.toNat (flV b)).flatten else [(k,p,l,t,q,b)])++flV r
def phF (x:Ph):List Ph:=if x.1=5 then (List.replicate x.2.2.2.1.toNat (flV x.2.2.2.2.2)).flatten else [x]
theorem flV_flat:∀ b:Hl,flV b=(hU b).flatMap phF
 | .nil=>by rw [flV]; rfl
 | .cons k p l t q b r=>by rw [flV,hU,List.flatMap_cons,flV_flat r]; rfl
theorem ls_all {d:Int}:∀ {b:Hl},lsE b d=0→∀ x∈hU b,phE d x=0
 | .nil,_,x,hx=>by cases hx
 | .cons k p l t q b r,h,x,hx=>by
  rw [lsE_cons] at h
  by_cases c:phE d (k,p,l,t,q,b)=0
  ·rw [if_pos c] at h
   rcases List.mem_cons.1 hx with rfl | hx
   ·exact c
   ·exact ls_all h x hx
  ·rw [if_neg c] at h; exact absurd h c
theorem own_ok {k p l t q:Int} {em:Bool} (h:ownE k p l t q em=0):inR k 0 5=true∧cleanB k p l q em=true∧rightB k p l t q=true:=by
 unfold ownE at h
 cases h1:inR k 0 5<;>cases h2:cleanB k p l q em<;>cases h3:rightB k p l t q<;>rw [h1,h2,h3] at h<;>simp at h ⊢
theorem ph_rep {d:Int} {x:Ph} (h:phE d x=0) (h5:x.1=5):d≠3∧lsE x.2.2.2.2.2 (d+1)=0∧(1≤hN x.2.2.2.2.2∧hN x.2.2.2.2.2≤12)∧1≤x.2.2.2.1∧x.2.2.2.1≤10:=by
 unfold phE at h
 by_cases c:ownE x.1 x.2.1 x.2.2.1 x.2.2.2.1 x.2.2.2.2.1 (hN x.2.2.2.2.2 == 0)=0
 rotate_left
 ·rw [if_neg c] at h; exact absurd h c
 rw [if_pos c,if_pos h5] at h
 have hr:=(own_ok c).2.2
 unfold rightB at hr
 rw [if_pos h5] at hr
 simp only [Bool.and_eq_true] at hr
 have ht:=inR_iff'.1 hr.1.2
 unfold bodyE at h
 split at h
 ·cases h
 split at h
 ·cases h
 split at h
 ·cases h
 exact ⟨by assumption,h,⟨by omega,by omega⟩,ht⟩
section
variable {a0:List Ph} {x1 x3 x5:Ph} {s1 s3 s5:Int×List Ph}
end
end Go.Proofs.YtnepigpnlnmlmaaGreatDoor

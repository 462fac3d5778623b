/- Recipes: compiled by the code. -/
import Derived.Test.YtkbdjphdhcgmaaaGreatDoorRecA
import Derived.Test.YtkbdjphdhcgmaaaGreatDoorRcpA
import Derived.Test.YtkbdjphdhcgmaaaGreatDoorStopC
set_option linter.unusedVariables false
set_option linter.unusedSimpArgs false
namespace Go.Proofs.YtkbdjphdhcgmaaaGreatDoor
open Go.Abs
structure PhOk (x:Ph):Prop where
 kind:0≤x.1∧x.1≤4
 own:ownE x.1 x.2.1 x.2.2.1 x.2.2.2.1 x.2.2.2.2.1 (hN x.2.2.2.2.2 == 0)=0
theorem ph_ok {d:Int} {x:Ph} (h:phE d x=0) (h5:x.1≠5):PhOk x:=by
 rw [ph_ne5 h5] at h
 have:=inR_iff'.1 (own_ok h).1
 exact ⟨by omega,h⟩
theorem fl_mem:∀ (b:Hl) (d:Int),lsE b d=0→∀ y∈flV b,PhOk y
 | .nil,_,_,y,hy=>by rw [flV] at hy; cases hy
 | .cons k p l t q b r,d,h,y,hy=>by
  have hx:=ls_all h (k,p,l,t,q,b) (by simp [hU])
  have hr:lsE r d=0:=by rw [lsE_cons,if_pos hx] at h; exact h
  rw [flV] at hy
  rcases List.mem_append.1 hy with hy | hy
  ·by_cases k5:k=5
   ·rw [if_pos k5] at hy
    obtain ⟨_,k2,_,_⟩:=ph_rep hx k5
    obtain ⟨z,hz,hy⟩:=List.mem_flatten.1 hy
    obtain ⟨-,rfl⟩:=List.mem_replicate.1 hz
    exact fl_mem b (d+1) k2 y hy
   ·rw [if_neg k5] at hy
    obtain rfl:=List.mem_singleton.1 hy
    exact ph_ok hx k5
  ·exact fl_mem r d hr y hy
theorem flL_mem {l:List Ph} (ok:∀ x∈l,phE 0 x=0):∀ y∈flL l,PhOk y:=by
 intro y hy
 obtain ⟨x,hx,hy⟩:=List.mem_flatMap.1 hy
 unfold phF at hy
 by_cases k5:x.1=5
 ·rw [if_pos k5] at hy
  obtain ⟨_,k2,_,_⟩:=ph_rep (ok x hx) k5
  obtain ⟨z,hz,hy⟩:=List.mem_flatten.1 hy
  obtain ⟨-,rfl⟩:=List.mem_replicate.1 hz
  exact fl_mem _ _ k2 y hy
 ·rw [if_neg k5] at hy
  obtain rfl:=List.mem_singleton.1 hy
  exact ph_ok (ok _ hx) k5
section
variable {a b:Int} {T:TL} {L:List TL} {lo hi:List Int} {W:TL} {air spread:Int}
end
end Go.Proofs.YtkbdjphdhcgmaaaGreatDoor

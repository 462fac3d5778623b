/- Recipes: depths, lengths, counts (no function of the program). -/
import Derived.Test.YtkbdjphdhcgmaaaGreatDoorRecA
import Derived.Test.YtkbdjphdhcgmaaaGreatDoorF12
import Derived.Test.YtkbdjphdhcgmaaaGreatDoorF15
set_option linter.unusedVariables false
set_option linter.unusedSimpArgs false
namespace Go.Proofs.YtkbdjphdhcgmaaaGreatDoor
open Go.Abs
def dp:Hl→Nat
 | .nil=>0
 | .cons _ _ _ _ _ b r=>max (dp b+1) (dp r)
def shB (n:Nat):Hl→Bool
 | .nil=>true
 | .cons _ _ _ _ _ b r=>decide (hN b≤n) && shB n b && shB n r
theorem dp_mem:∀ {b:Hl} {x:Ph},x∈hU b→dp x.2.2.2.2.2+1≤dp b
 | .nil,x,h=>by cases h
 | .cons k p l t q b r,x,h=>by
  rw [dp]
  rcases List.mem_cons.1 h with rfl | h
  ·exact Nat.le_max_left _ _
  ·exact Nat.le_trans (dp_mem h) (Nat.le_max_right _ _)
theorem sh_mem {n:Nat}:∀ {b:Hl} {x:Ph},shB n b=true→x∈hU b→hN x.2.2.2.2.2≤n∧shB n x.2.2.2.2.2=true
 | .nil,x,_,h=>by cases h
 | .cons k p l t q b r,x,hs,h=>by
  rw [shB] at hs
  simp only [Bool.and_eq_true,decide_eq_true_eq] at hs
  rcases List.mem_cons.1 h with rfl | h
  ·exact ⟨hs.1.1,hs.1.2⟩
  ·exact sh_mem hs.2 h
def dpL (l:List Ph):Nat:=dp (hM l)
def shL (n:Nat) (l:List Ph):Bool:=decide (l.length≤n) && shB n (hM l)
theorem dpL_mem {l:List Ph} {x:Ph} (h:x∈l):dpL (hU x.2.2.2.2.2)+1≤dpL l:=by
 unfold dpL
 rw [hM_hU]
 exact dp_mem (b:=hM l) (by rw [hU_hM]; exact h)
theorem shL_mem {n:Nat} {l:List Ph} {x:Ph} (hs:shL n l=true) (h:x∈l):shL n (hU x.2.2.2.2.2)=true:=by
 unfold shL at hs ⊢
 simp only [Bool.and_eq_true,decide_eq_true_eq] at hs ⊢
 have h2:=sh_mem hs.2 (x:=x) (by rw [hU_hM]; exact h)
 rw [hM_hU,hN_U]
 exact h2
theorem shL_len {n:Nat} {l:List Ph} (hs:shL n l=true):l.length≤n:=by
 unfold shL at hs
 simp only [Bool.and_eq_true,decide_eq_true_eq] at hs
 exact hs.1
theorem shL_of {n:Nat}:∀ {l:List Ph},l.length≤n→(∀ x∈l,shL n (hU x.2.2.2.2.2)=true)→shL n l=true
 | [],_,_=>by unfold shL; simp [hM,shB]
 | (k,p,w,t,q,b)::r,hl,h=>by
  have h1:=h (k,p,w,t,q,b) (by simp)
  have h2:=shL_of (n:=n) (l:=r) (by simp at hl; omega) (fun x hx=>h x (by simp [hx]))
  unfold shL at h1 h2 ⊢
  simp only [Bool.and_eq_true,decide_eq_true_eq,hM_hU,hN_U] at h1 h2 ⊢
  rw [hM,shB]
  simp only [Bool.and_eq_true,decide_eq_true_eq]
  exact ⟨hl,⟨h1.1,h1.2⟩,h2.2⟩
theorem dpL_of {n:Nat}:∀ {l:List Ph},(∀ x∈l,dpL (hU x.2.2.2.2.2)+1≤n)→dpL l≤n
 | [],_=>by unfold dpL; simp [hM,dp]
 | (k,p,w,t,q,b)::r,h=>by
  have h1:=h (k,p,w,t,q,b) (by simp)
  have h2:=dpL_of (n:=n) (l:=r) (fun x hx=>h x (by simp [hx]))
  unfold dpL at h1 h2 ⊢
  rw [hM_hU] at h1
  rw [hM,dp]
  exact Nat.max_le.2 ⟨h1,h2⟩
theorem ok_dp:∀ (b:Hl) (d:Int),0≤d→d≤3→lsE b d=0→(dp b:Int)≤4 - d
 | .nil,d,_,_,_=>by rw [dp]; omega
 | .cons k p l t q b r,d,h0,h3,h=>by
  have hx:=ls_all h (k,p,l,t,q,b) (by simp [hU])
  have hr:lsE r d=0:=by rw [lsE_cons,if_pos hx] at h; exact h
  have ih:=ok_dp r d h0 h3 hr
  rw [dp]
  have hb:(dp b:Int)+1≤4 - d:=by
   by_cases k5:k=5
   ·obtain ⟨n3,k2,_,_⟩:=ph_rep hx k5
    simp only at k2
    have:=ok_dp b (d+1) (by omega) (by omega) k2
    omega
   ·have ho:=(own_ok (ph_ok' hx k5)).2.1
    unfold cleanB at ho
    simp only [Bool.and_eq_true,Bool.or_eq_true,beq_iff_eq] at ho
    have hb0:hN b=0:=by rcases ho.2 with h | h; exact absurd h k5; exact h
    cases b with
    | nil=>rw [dp]; omega
    | cons=>simp [hN] at hb0
  omega
where
 ph_ok' {d:Int} {x:Ph} (h:phE d x=0) (h5:x.1≠5):ownE x.1 x.2.1 x.2.2.1 x.2.2.2.1 x.2.2.2.2.1 (hN x.2.2.2.2.2 == 0)=0:=by
  rw [ph_ne5 h5] at h; exact h
end Go.Proofs.YtkbdjphdhcgmaaaGreatDoor
namespace Go.Proofs.YtkbdjphdhcgmaaaGreatDoor
open Go.Abs
theorem bC0 {α σ ρ:Type} (v:α) (f:α→Ctl σ ρ):bindC (some v) f=f v:=rfl
theorem fewR:∀ (n:Nat) (d:Int) (l:List Ph),0≤d→d≤6→7≤n+d→∃ v,r35 n l d=some v∧(v=true→d≤5∧shL 14 l=true∧(dpL l:Int)≤5 - d)
 | 0,d,l,h0,h6,h7=>by omega
 | n+1,d,l,h0,h6,h7=>by
  show ∃ v,q35 n (r35 n) l d=some v∧_
  unfold q35
  by_cases c:((decide ((l.length:Int)>14)) || (decide (d>5)))=true
  ·rw [if_pos c]; exact ⟨false,rfl,fun h=>by cases h⟩
  rw [if_neg c]
  simp only [Bool.or_eq_true,decide_eq_true_eq,not_or] at c
  have hw:IntKind.i64.wrap (d+1)=d+1:=IntWalk.i64_in _ ⟨by omega,by omega⟩
  refine iter_inv (b35_1 (r35 n) l d) (fun i s=>s=(i:Int)∧∀ j,j<i→d+1≤5∧shL 14 (hU (l.getD j default).2.2.2.2.2)=true∧(dpL (hU (l.getD j default).2.2.2.2.2):Int)≤5 - (d+1)) (fun o=>∃ v,o=some v∧(v=true→d≤5∧shL 14 l=true∧(dpL l:Int)≤5 - d)) l.length ?_ ?_ _ ⟨rfl,fun j hj=>absurd hj (by omega)⟩ _ (by omega)
  ·rintro i _ hi ⟨rfl,hall⟩
   obtain ⟨v,hv,hv2⟩:=fewR n (d+1) (hU (l.getD i default).2.2.2.2.2) (by omega) (by omega) (by omega)
   simp only [b35_1,ltN hi,if_true,if_pos (rgN hi),Int.toNat_natCast,wS i (by omega),hw,hv,bC0]
   cases v with
   | false=>rw [if_pos (by rfl)]; exact .inr ⟨_,rfl,false,rfl,fun h=>by cases h⟩
   | true=>
    rw [if_neg (by decide)]
    refine .inl ⟨_,rfl,rfl,fun j hj=> ?_⟩
    by_cases hji:j=i
    ·subst hji; exact hv2 rfl
    ·exact hall j (by omega)
  ·rintro _ ⟨rfl,hall⟩
   simp only [b35_1,geN,Bool.false_eq_true,if_false]
   refine ⟨_,rfl,true,rfl,fun _=>⟨by omega,shL_of (by omega) (fun x hx=> ?_),?_⟩⟩
   ·obtain ⟨j,hj,rfl⟩:=mem_getD hx
    exact (hall j hj).2.1
   ·have:=dpL_of (n:=(5 - d).toNat) (l:=l) (fun x hx=>by
     obtain ⟨j,hj,rfl⟩:=mem_getD hx
     have:=(hall j hj).2.2
     omega)
    omega
theorem allR:∀ (n:Nat) (l:List Ph),dpL l<n→shL 14 l=true→∃ v,r36 n l=some v
 | 0,l,h,_=>absurd h (by omega)
 | n+1,l,h,hs=>by
  have hl:=shL_len hs
  show ∃ v,q36 n (r36 n) l=some v
  unfold q36
  refine iter_inv (b36_1 (r36 n) l) (fun i s=>s.2=(i:Int)) (fun o=>∃ v,o=some v) l.length ?_ ?_ _ rfl _ (by omega)
  ·rintro i ⟨s,_⟩ hi rfl
   have hx:=getD_mem hi
   obtain ⟨v,hv⟩:=allR n (hU (l.getD i default).2.2.2.2.2) (by have:=dpL_mem hx; omega) (shL_mem hs hx)
   simp only [b36_1,ltN hi,Bool.true_and,if_pos (rgN hi),Int.toNat_natCast,hv,bC0,wS i (by omega)]
   by_cases c:decide (s≤100)=true
   ·rw [if_pos c]; exact .inl ⟨_,rfl,rfl⟩
   ·rw [if_neg c]; exact .inr ⟨_,rfl,_,rfl⟩
  ·rintro ⟨s,_⟩ rfl
   simp only [b36_1,geN,Bool.false_and,Bool.false_eq_true,if_false]
   exact ⟨_,rfl,_,rfl⟩
theorem copyR:∀ (n:Nat) (l:List Ph),dpL l<n→shL 60 l=true→r9 n l=some l
 | 0,l,h,_=>absurd h (by omega)
 | n+1,l,h,hs=>by
  have hl:=shL_len hs
  show q9 n (r9 n) l=some l
  unfold q9
  refine iter_inv (b9_1 (r9 n) l) (fun i s=>s=(l.take i,(i:Int))) (fun o=>o=some l) l.length ?_ ?_ _ (by simp) _ (by omega)
  ·rintro i _ hi rfl
   have hx:=getD_mem hi
   have hv:=copyR n (hU (l.getD i default).2.2.2.2.2) (by have:=dpL_mem hx; omega) (shL_mem hs hx)
   have hlen:(l.take i).length=i:=by rw [List.length_take]; omega
   refine .inl ⟨(l.take (i+1),((i+1:Nat):Int)),?_,rfl⟩
   simp only [b9_1,ltN hi,if_true,if_pos (rgN hi),Int.toNat_natCast,hv,bC0,wS i (by omega),hlen,hM_hU]
   rw [if_pos ⟨by omega,by omega⟩,List.take_add_one,List.getElem?_eq_getElem hi,List.getD_eq_getElem?_getD,List.getElem?_eq_getElem hi]
   rfl
  ·rintro _ rfl
   simp only [b9_1,geN,Bool.false_eq_true,if_false,List.take_length]
   exact ⟨_,rfl,rfl⟩
theorem samePh:∀ (n:Nat) (l:List Ph),dpL l<n→shL 60 l=true→r12 n l l=some true
 | 0,l,h,_=>absurd h (by omega)
 | n+1,l,h,hs=>by
  have hl:=shL_len hs
  show q12 n (r12 n) l l=some true
  unfold q12
  rw [if_neg (by simp)]
  refine iter_inv (b12_1 (r12 n) l l) (fun i s=>s=(i:Int)) (fun o=>o=some true) l.length ?_ ?_ _ rfl _ (by omega)
  ·rintro i _ hi rfl
   have hx:=getD_mem hi
   have hv:=samePh n (hU (l.getD i default).2.2.2.2.2) (by have:=dpL_mem hx; omega) (shL_mem hs hx)
   refine .inl ⟨((i+1:Nat):Int),?_,rfl⟩
   simp only [b12_1,ltN hi,if_true,rgN hi,and_self,implies_true,Int.toNat_natCast,wS i (by omega),bne_self_eq_false,Bool.false_or,Bool.not_false,hv,Option.isSome_some,Option.getD_some,Bool.not_true,Bool.false_eq_true,if_false]; rfl
  ·rintro _ rfl
   exact ⟨_,by simp only [b12_1,geN,Bool.false_eq_true,if_false],rfl⟩
theorem ofR (k:Int):r97 k=some (useP k,useL k,useQ k,k == 5):=by
 unfold r97 useP useL useQ
 by_cases h0:k=0
 ·subst h0; rfl
 by_cases h2:k=2
 ·subst h2; rfl
 by_cases h3:k=3
 ·subst h3; rfl
 by_cases h4:k=4
 ·subst h4; rfl
 by_cases h5:k=5
 ·subst h5; rfl
 have e0:(k == 0)=false:=by simpa using h0
 have e2:(k == 2)=false:=by simpa using h2
 have e3:(k == 3)=false:=by simpa using h3
 have e4:(k == 4)=false:=by simpa using h4
 have e5:(k == 5)=false:=by simpa using h5
 rw [e0,e2,e3,e4,e5]; rfl
theorem gt0 (b:Hl):decide (((hU b).length:Int)>0)= !(hN b == 0):=by
 have h:=em_eq b
 rw [← h]
 by_cases c:((hU b).length:Int)=0
 ·rw [c]; rfl
 ·have h1:(((hU b).length:Int) == 0)=false:=by simpa using c
  rw [h1,decide_eq_true (by omega)]; rfl
theorem formR (uP uL uQ u5:Bool) (p l q:Int) (em:Bool):(((((!uP) && (p != 0)) || ((!uL) && (l != 0))) || ((!uQ) && (q != 0))) || ((!u5) && (!em)))= !((uP || p == 0) && (uL || l == 0) && (uQ || q == 0) && (u5 || em)):=by
 simp only [bne]
 generalize (p == 0)=x; generalize (l == 0)=y; generalize (q == 0)=z
 revert uP uL uQ u5 em x y z; decide
theorem rangeR (uP uL uQ x y z w:Bool):((((uP && (!x)) || (uL && (!y))) || (!z)) || (uQ && (!w)))= !((!uP || x) && (!uL || y) && z && (!uQ || w)):=by
 revert uP uL uQ x y z w; decide
def lsR (d:Int) (l:List Ph):Int×Int:=if l.length=0 then (0,10) else if 12<l.length then (0,8) else erI d 0 l
theorem kelvinR (k:Int):r98 k=some (inR k 200 3000):=by unfold r98; rw [p59]; rfl
theorem listR:∀ (n:Nat) (d:Int),0≤d→d≤3→4≤n+d→∀ l:List Ph,r42 n l d=some (lsR d l)
 | 0,d,h0,h3,h4,_=>by omega
 | n+1,d,h0,h3,h4,l=>by
  show q42 n (r42 n) l d=_
  unfold q42 lsR
  by_cases c0:l.length=0
  ·rw [if_pos c0,if_pos (by rw [c0]; rfl)]
  rw [if_neg c0,if_neg (by simp; intro h; exact c0 (by rw [h]; rfl))]
  by_cases c12:12<l.length
  ·rw [if_pos c12,if_pos (decide_eq_true (by omega))]
  rw [if_neg c12,if_neg (by rw [decide_eq_true_eq]; omega)]
  have hw:IntKind.i64.wrap (d+1)=d+1:=IntWalk.i64_in _ ⟨by omega,by omega⟩
  have h:=iter_list (τ:=Unit) l (b42_1 (r42 n) l d) (fun i _=>i) (fun i _ x=>if phE d x=0 then .next () else .out (some (i,phE d x))) (fun _=>some (0,0)) (by omega)
   (fun i t hi=>by
    simp only [b42_1,ltN hi,if_true,if_pos (rgN hi),Int.toNat_natCast,wS i (by omega),p59,bC0,ofR,gt0,hw,kelvinR,Option.isSome_some,implies_true,Option.getD_some,formR,rangeR]
    generalize l.getD i default=x
    by_cases hk:inR x.1 0 5=true
    rotate_left
    ·have e:ownE x.1 x.2.1 x.2.2.1 x.2.2.2.1 x.2.2.2.2.1 (hN x.2.2.2.2.2 == 0)=15:=by unfold ownE; rw [if_neg hk]
     have e2:phE d x=15:=by unfold phE; rw [e,if_neg (by decide)]
     rw [if_pos (by simpa using hk),e2]; rfl
    rw [hk,if_neg (by decide)]
    by_cases hc:cleanB x.1 x.2.1 x.2.2.1 x.2.2.2.2.1 (hN x.2.2.2.2.2 == 0)=true
    rotate_left
    ·have e:ownE x.1 x.2.1 x.2.2.1 x.2.2.2.1 x.2.2.2.2.1 (hN x.2.2.2.2.2 == 0)=3:=by unfold ownE; rw [if_pos hk,if_neg hc]
     have e2:phE d x=3:=by unfold phE; rw [e,if_neg (by decide)]
     have hc':cleanB x.1 x.2.1 x.2.2.1 x.2.2.2.2.1 (hN x.2.2.2.2.2 == 0)=false:=by simpa using hc
     unfold cleanB at hc'
     rw [if_pos (by rw [hc']; rfl),e2]; rfl
    have hc':=hc
    unfold cleanB at hc'
    rw [if_neg (by rw [hc']; decide)]
    by_cases k5:x.1=5
    ·have b5:(x.1 == 5)=true:=by simpa using k5
     simp only [b5,if_true,Bool.not_true,Bool.false_eq_true,if_false]
     by_cases hr:rightB x.1 x.2.1 x.2.2.1 x.2.2.2.1 x.2.2.2.2.1=true
     rotate_left
     ·have e:ownE x.1 x.2.1 x.2.2.1 x.2.2.2.1 x.2.2.2.2.1 (hN x.2.2.2.2.2 == 0)=2:=by unfold ownE; rw [if_pos hk,if_pos hc,if_neg hr]
      have e2:phE d x=2:=by unfold phE; rw [e,if_neg (by decide)]
      have hr':rightB x.1 x.2.1 x.2.2.1 x.2.2.2.1 x.2.2.2.2.1=false:=by simpa using hr
      unfold rightB at hr'
      rw [if_pos k5] at hr'
      rw [if_pos (by rw [hr']; rfl),e2]; rfl
     have e:ownE x.1 x.2.1 x.2.2.1 x.2.2.2.1 x.2.2.2.2.1 (hN x.2.2.2.2.2 == 0)=0:=by unfold ownE; rw [if_pos hk,if_pos hc,if_pos hr]
     have e2:phE d x=bodyE d (hN x.2.2.2.2.2) (lsE x.2.2.2.2.2 (d+1)):=by unfold phE; rw [e,if_pos rfl,if_pos k5]
     have hr':=hr
     unfold rightB at hr'
     rw [if_pos k5] at hr'
     rw [if_neg (by rw [hr']; decide),e2]
     unfold bodyE
     by_cases d3:d=3
     ·rw [if_pos d3,if_pos (decide_eq_true (by omega))]; rfl
     rw [if_neg d3,if_neg (by rw [decide_eq_true_eq]; omega),listR n (d+1) (by omega) (by omega) (by omega) (hU x.2.2.2.2.2),bC0]
     have hbl:=hN_U x.2.2.2.2.2
     have e3:(lsR (d+1) (hU x.2.2.2.2.2)).2=if hN x.2.2.2.2.2=0 then 10 else if 12<hN x.2.2.2.2.2 then 8 else lsE x.2.2.2.2.2 (d+1):=by
      unfold lsR
      rw [hbl]
      by_cases n0:hN x.2.2.2.2.2=0
      ·rw [if_pos n0,if_pos n0]
      rw [if_neg n0,if_neg n0]
      by_cases n12:12<hN x.2.2.2.2.2
      ·rw [if_pos n12,if_pos n12]
      rw [if_neg n12,if_neg n12]; exact erI_lsE _ _ _
     rw [e3]
     generalize (if hN x.2.2.2.2.2=0 then (10:Int) else if 12<hN x.2.2.2.2.2 then 8 else lsE x.2.2.2.2.2 (d+1))=e9
     by_cases e0:e9=0
     ·rw [if_neg (by simpa using e0),if_pos e0]; rfl
     ·rw [if_pos (by simpa using e0),if_neg e0]; rfl
    ·have b5:(x.1 == 5)=false:=by simpa using k5
     simp only [b5,Bool.false_eq_true,if_false,Bool.not_false,if_true]
     by_cases hr:rightB x.1 x.2.1 x.2.2.1 x.2.2.2.1 x.2.2.2.2.1=true
     rotate_left
     ·have e:ownE x.1 x.2.1 x.2.2.1 x.2.2.2.1 x.2.2.2.2.1 (hN x.2.2.2.2.2 == 0)=2:=by unfold ownE; rw [if_pos hk,if_pos hc,if_neg hr]
      have e2:phE d x=2:=by unfold phE; rw [e,if_neg (by decide)]
      have hr':rightB x.1 x.2.1 x.2.2.1 x.2.2.2.1 x.2.2.2.2.1=false:=by simpa using hr
      unfold rightB at hr'
      rw [if_neg k5] at hr'
      rw [if_pos (by rw [hr']; rfl),e2]; rfl
     have e:ownE x.1 x.2.1 x.2.2.1 x.2.2.2.1 x.2.2.2.2.1 (hN x.2.2.2.2.2 == 0)=0:=by unfold ownE; rw [if_pos hk,if_pos hc,if_pos hr]
     have e2:phE d x=0:=by unfold phE; rw [e,if_pos rfl,if_neg k5]
     have hr':=hr
     unfold rightB at hr'
     rw [if_neg k5] at hr'
     rw [if_neg (by rw [hr']; decide),e2]; rfl)
   (fun t=>by simp only [b42_1,geN,Bool.false_eq_true,if_false]) ()
  rw [h]
  refine (err_foldI d (some (0,0)) l 0).trans ?_
  by_cases c:(erI d 0 l).2=0
  ·rw [if_pos c]
   have:∀ (r:List Ph) (i:Int),(erI d i r).2=0→erI d i r=(0,0):=by
    intro r
    induction r with
    | nil=>intro i _; rfl
    | cons y r ih=>
     intro i hy
     rw [erI] at hy ⊢
     by_cases cy:phE d y=0
     ·rw [if_pos cy] at hy ⊢; exact ih _ hy
     ·rw [if_neg cy] at hy; exact absurd hy cy
   rw [this l 0 c]
  ·rw [if_neg c]
end Go.Proofs.YtkbdjphdhcgmaaaGreatDoor

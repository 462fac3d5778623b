/- Recipes: few, copied, the same; errors, counts and flattened phases by the reference. -/
import Derived.Test.YtnepigpnlnmlmaaGreatDoorF12
import Derived.Test.YtnepigpnlnmlmaaGreatDoorF14
import Derived.Test.YtnepigpnlnmlmaaGreatDoorF16
import Derived.Test.YtnepigpnlnmlmaaGreatDoorF17
import Derived.Test.YtnepigpnlnmlmaaGreatDoorRecG
set_option linter.unusedVariables false
set_option linter.unusedSimpArgs false
namespace Go.Proofs.YtnepigpnlnmlmaaGreatDoor
open Go.Abs
theorem bC0 {α σ ρ:Type} (v:α) (f:α→Ctl σ ρ):bindC (some v) f=f v:=rfl
theorem fewR:∀ (n:Nat) (d:Int) (l:List Ph),0≤d→d≤6→7≤n+d→∃ v,r126 n l d=some v∧(v=true→d≤5∧shL 14 l=true∧(dpL l:Int)≤5 - d)
 | 0,d,l,h0,h6,h7=>by omega
 | n+1,d,l,h0,h6,h7=>by
  show ∃ v,q126 n (r126 n) l d=some v∧_
  unfold q126
  by_cases c:((decide ((l.length:Int)>14)) || (decide (d>5)))=true
  ·rw [if_pos c]; exact ⟨false,rfl,fun h=>by cases h⟩
  rw [if_neg c]
  simp only [Bool.or_eq_true,decide_eq_true_eq,not_or] at c
  have hw:IntKind.i64.wrap (d+1)=d+1:=IntWalk.i64_in _ ⟨by omega,by omega⟩
  refine iter_inv (b126_1 (r126 n) l d) (fun i s=>s=(i:Int)∧∀ j,j<i→d+1≤5∧shL 14 (hU (l.getD j default).2.2.2.2.2)=true∧(dpL (hU (l.getD j default).2.2.2.2.2):Int)≤5 - (d+1)) (fun o=>∃ v,o=some v∧(v=true→d≤5∧shL 14 l=true∧(dpL l:Int)≤5 - d)) l.length ?_ ?_ _ ⟨rfl,fun j hj=>absurd hj (by omega)⟩ _ (by omega)
  ·rintro i _ hi ⟨rfl,hall⟩
   obtain ⟨v,hv,hv2⟩:=fewR n (d+1) (hU (l.getD i default).2.2.2.2.2) (by omega) (by omega) (by omega)
   simp only [b126_1,ltN hi,if_true,if_pos (rgN hi),Int.toNat_natCast,wS i (by omega),hw,hv,bC0]
   cases v with
   | false=>rw [if_pos (by rfl)]; exact .inr ⟨_,rfl,false,rfl,fun h=>by cases h⟩
   | true=>
    rw [if_neg (by decide)]
    refine .inl ⟨_,rfl,rfl,fun j hj=> ?_⟩
    by_cases hji:j=i
    ·subst hji; exact hv2 rfl
    ·exact hall j (by omega)
  ·rintro _ ⟨rfl,hall⟩
   simp only [b126_1,geN,Bool.false_eq_true,if_false]
   refine ⟨_,rfl,true,rfl,fun _=>⟨by omega,shL_of (by omega) (fun x hx=> ?_),?_⟩⟩
   ·obtain ⟨j,hj,rfl⟩:=mem_getD hx
    exact (hall j hj).2.1
   ·have:=dpL_of (n:=(5 - d).toNat) (l:=l) (fun x hx=>by
     obtain ⟨j,hj,rfl⟩:=mem_getD hx
     have:=(hall j hj).2.2
     omega)
    omega
theorem allR:∀ (n:Nat) (l:List Ph),dpL l<n→shL 14 l=true→∃ v,r127 n l=some v
 | 0,l,h,_=>absurd h (by omega)
 | n+1,l,h,hs=>by
  have hl:=shL_len hs
  show ∃ v,q127 n (r127 n) l=some v
  unfold q127
  refine iter_inv (b127_1 (r127 n) l) (fun i s=>s.2=(i:Int)) (fun o=>∃ v,o=some v) l.length ?_ ?_ _ rfl _ (by omega)
  ·rintro i ⟨s,_⟩ hi rfl
   have hx:=getD_mem hi
   obtain ⟨v,hv⟩:=allR n (hU (l.getD i default).2.2.2.2.2) (by have:=dpL_mem hx; omega) (shL_mem hs hx)
   simp only [b127_1,ltN hi,Bool.true_and,if_pos (rgN hi),Int.toNat_natCast,hv,bC0,wS i (by omega)]
   by_cases c:decide (s≤100)=true
   ·rw [if_pos c]; exact .inl ⟨_,rfl,rfl⟩
   ·rw [if_neg c]; exact .inr ⟨_,rfl,_,rfl⟩
  ·rintro ⟨s,_⟩ rfl
   simp only [b127_1,geN,Bool.false_and,Bool.false_eq_true,if_false]
   exact ⟨_,rfl,_,rfl⟩
theorem copyR:∀ (n:Nat) (l:List Ph),dpL l<n→shL 60 l=true→r69 n l=some l
 | 0,l,h,_=>absurd h (by omega)
 | n+1,l,h,hs=>by
  have hl:=shL_len hs
  show q69 n (r69 n) l=some l
  unfold q69
  refine iter_inv (b69_1 (r69 n) l) (fun i s=>s=(l.take i,(i:Int))) (fun o=>o=some l) l.length ?_ ?_ _ (by simp) _ (by omega)
  ·rintro i _ hi rfl
   have hx:=getD_mem hi
   have hv:=copyR n (hU (l.getD i default).2.2.2.2.2) (by have:=dpL_mem hx; omega) (shL_mem hs hx)
   have hlen:(l.take i).length=i:=by rw [List.length_take]; omega
   refine .inl ⟨(l.take (i+1),((i+1:Nat):Int)),?_,rfl⟩
   simp only [b69_1,ltN hi,if_true,if_pos (rgN hi),Int.toNat_natCast,hv,bC0,wS i (by omega),hlen,hM_hU]
   rw [if_pos ⟨by omega,by omega⟩,List.take_add_one,List.getElem?_eq_getElem hi,List.getD_eq_getElem?_getD,List.getElem?_eq_getElem hi]
   rfl
  ·rintro _ rfl
   simp only [b69_1,geN,Bool.false_eq_true,if_false,List.take_length]
   exact ⟨_,rfl,rfl⟩
theorem samePh:∀ (n:Nat) (l:List Ph),dpL l<n→shL 60 l=true→r18 n l l=some true
 | 0,l,h,_=>absurd h (by omega)
 | n+1,l,h,hs=>by
  have hl:=shL_len hs
  show q18 n (r18 n) l l=some true
  unfold q18
  rw [if_neg (by simp)]
  refine iter_inv (b18_1 (r18 n) l l) (fun i s=>s=(i:Int)) (fun o=>o=some true) l.length ?_ ?_ _ rfl _ (by omega)
  ·rintro i _ hi rfl
   have hx:=getD_mem hi
   have hv:=samePh n (hU (l.getD i default).2.2.2.2.2) (by have:=dpL_mem hx; omega) (shL_mem hs hx)
   refine .inl ⟨((i+1:Nat):Int),?_,rfl⟩
   simp only [b18_1,ltN hi,if_true,rgN hi,and_self,implies_true,Int.toNat_natCast,wS i (by omega),bne_self_eq_false,Bool.false_or,Bool.not_false,hv,Option.isSome_some,Option.getD_some,Bool.not_true,Bool.false_eq_true,if_false]; rfl
  ·rintro _ rfl
   exact ⟨_,by simp only [b18_1,geN,Bool.false_eq_true,if_false],rfl⟩
theorem ofR (k:Int):r131 k=some (useP k,useL k,useQ k,k == 5):=by
 unfold r131 useP useL useQ
 by_cases h0:k=0
 ·subst h0; rfl
 by_cases h2:k=2
 ·subst h2; rfl
 by_cases h3:k=3
 ·subst h3; rfl
 by_cases h4:k=4
 ·subst h4; rfl
 by_cases h5:k=5
 ·subst h5; rfl
 have e0:(k == 0)=false:=by simpa using h0
 have e2:(k == 2)=false:=by simpa using h2
 have e3:(k == 3)=false:=by simpa using h3
 have e4:(k == 4)=false:=by simpa using h4
 have e5:(k == 5)=false:=by simpa using h5
 rw [e0,e2,e3,e4,e5]; rfl
theorem gt0 (b:Hl):decide (((hU b).length:Int)>0)= !(hN b == 0):=by
 have h:=em_eq b
 rw [← h]
 by_cases c:((hU b).length:Int)=0
 ·rw [c]; rfl
 ·have h1:(((hU b).length:Int) == 0)=false:=by simpa using c
  rw [h1,decide_eq_true (by omega)]; rfl
theorem formR (uP uL uQ u5:Bool) (p l q:Int) (em:Bool):(((((!uP) && (p != 0)) || ((!uL) && (l != 0))) || ((!uQ) && (q != 0))) || ((!u5) && (!em)))= !((uP || p == 0) && (uL || l == 0) && (uQ || q == 0) && (u5 || em)):=by
 simp only [bne]
 generalize (p == 0)=x; generalize (l == 0)=y; generalize (q == 0)=z
 revert uP uL uQ u5 em x y z; decide
theorem rangeR (uP uL uQ x y z w:Bool):((((uP && (!x)) || (uL && (!y))) || (!z)) || (uQ && (!w)))= !((!uP || x) && (!uL || y) && z && (!uQ || w)):=by
 revert uP uL uQ x y z w; decide
def lsR (d:Int) (l:List Ph):Int×Int:=if l.length=0 then (0,10) else if 12<l.length then (0,8) else erI d 0 l
theorem kelvinR (k:Int):r88 k=some (inR k 200 3000):=by unfold r88; rw [p59]; rfl
theorem listR:∀ (n:Nat) (d:Int),0≤d→d≤3→4≤n+d→∀ l:List Ph,r132 n l d=some (lsR d l)
 | 0,d,h0,h3,h4,_=>by omega
 | n+1,d,h0,h3,h4,l=>by
  show q132 n (r132 n) l d=_
  unfold q132 lsR
  by_cases c0:l.length=0
  ·rw [if_pos c0,if_pos (by rw [c0]; rfl)]
  rw [if_neg c0,if_neg (by simp; intro h; exact c0 (by rw [h]; rfl))]
  by_cases c12:12<l.length
  ·rw [if_pos c12,if_pos (decide_eq_true (by omega))]
  rw [if_neg c12,if_neg (by rw [decide_eq_true_eq]; omega)]
  have hw:IntKind.i64.wrap (d+1)=d+1:=IntWalk.i64_in _ ⟨by omega,by omega⟩
  have h:=iter_list (τ:=Unit) l (b132_1 (r132 n) l d) (fun i _=>i) (fun i _ x=>if phE d x=0 then .next () else .out (some (i,phE d x))) (fun _=>some (0,0)) (by omega)
   (fun i t hi=>by
    simp only [b132_1,ltN hi,if_true,if_pos (rgN hi),Int.toNat_natCast,wS i (by omega),p59,bC0,ofR,gt0,hw,kelvinR,Option.isSome_some,implies_true,Option.getD_some,formR,rangeR]
    generalize l.getD i default=x
    by_cases hk:inR x.1 0 5=true
    rotate_left
    ·have e:ownE x.1 x.2.1 x.2.2.1 x.2.2.2.1 x.2.2.2.2.1 (hN x.2.2.2.2.2 == 0)=15:=by unfold ownE; rw [if_neg hk]
     have e2:phE d x=15:=by unfold phE; rw [e,if_neg (by decide)]
     rw [if_pos (by simpa using hk),e2]; rfl
    rw [hk,if_neg (by decide)]
    by_cases hc:cleanB x.1 x.2.1 x.2.2.1 x.2.2.2.2.1 (hN x.2.2.2.2.2 == 0)=true
    rotate_left
    ·have e:ownE x.1 x.2.1 x.2.2.1 x.2.2.2.1 x.2.2.2.2.1 (hN x.2.2.2.2.2 == 0)=3:=by unfold ownE; rw [if_pos hk,if_neg hc]
     have e2:phE d x=3:=by unfold phE; rw [e,if_neg (by decide)]
     have hc':cleanB x.1 x.2.1 x.2.2.1 x.2.2.2.2.1 (hN x.2.2.2.2.2 == 0)=false:=by simpa using hc
     unfold cleanB at hc'
     rw [if_pos (by rw [hc']; rfl),e2]; rfl
    have hc':=hc
    unfold cleanB at hc'
    rw [if_neg (by rw [hc']; decide)]
    by_cases k5:x.1=5
    ·have b5:(x.1 == 5)=true:=by simpa using k5
     simp only [b5,if_true,Bool.not_true,Bool.false_eq_true,if_false]
     by_cases hr:rightB x.1 x.2.1 x.2.2.1 x.2.2.2.1 x.2.2.2.2.1=true
     rotate_left
     ·have e:ownE x.1 x.2.1 x.2.2.1 x.2.2.2.1 x.2.2.2.2.1 (hN x.2.2.2.2.2 == 0)=2:=by unfold ownE; rw [if_pos hk,if_pos hc,if_neg hr]
      have e2:phE d x=2:=by unfold phE; rw [e,if_neg (by decide)]
      have hr':rightB x.1 x.2.1 x.2.2.1 x.2.2.2.1 x.2.2.2.2.1=false:=by simpa using hr
      unfold rightB at hr'
      rw [if_pos k5] at hr'
      rw [if_pos (by rw [hr']; rfl),e2]; rfl
     have e:ownE x.1 x.2.1 x.2.2.1 x.2.2.2.1 x.2.2.2.2.1 (hN x.2.2.2.2.2 == 0)=0:=by unfold ownE; rw [if_pos hk,if_pos hc,if_pos hr]
     have e2:phE d x=bodyE d (hN x.2.2.2.2.2) (lsE x.2.2.2.2.2 (d+1)):=by unfold phE; rw [e,if_pos rfl,if_pos k5]
     have hr':=hr
     unfold rightB at hr'
     rw [if_pos k5] at hr'
     rw [if_neg (by rw [hr']; decide),e2]
     unfold bodyE
     by_cases d3:d=3
     ·rw [if_pos d3,if_pos (decide_eq_true (by omega))]; rfl
     rw [if_neg d3,if_neg (by rw [decide_eq_true_eq]; omega),listR n (d+1) (by omega) (by omega) (by omega) (hU x.2.2.2.2.2),bC0]
     have hbl:=hN_U x.2.2.2.2.2
     have e3:(lsR (d+1) (hU x.2.2.2.2.2)).2=if hN x.2.2.2.2.2=0 then 10 else if 12<hN x.2.2.2.2.2 then 8 else lsE x.2.2.2.2.2 (d+1):=by
      unfold lsR
      rw [hbl]
      by_cases n0:hN x.2.2.2.2.2=0
      ·rw [if_pos n0,if_pos n0]
      rw [if_neg n0,if_neg n0]
      by_cases n12:12<hN x.2.2.2.2.2
      ·rw [if_pos n12,if_pos n12]
      rw [if_neg n12,if_neg n12]; exact erI_lsE _ _ _
     rw [e3]
     generalize (if hN x.2.2.2.2.2=0 then (10:Int) else if 12<hN x.2.2.2.2.2 then 8 else lsE x.2.2.2.2.2 (d+1))=e9
     by_cases e0:e9=0
     ·rw [if_neg (by simpa using e0),if_pos e0]; rfl
     ·rw [if_pos (by simpa using e0),if_neg e0]; rfl
    ·have b5:(x.1 == 5)=false:=by simpa using k5
     simp only [b5,Bool.false_eq_true,if_false,Bool.not_false,if_true]
     by_cases hr:rightB x.1 x.2.1 x.2.2.1 x.2.2.2.1 x.2.2.2.2.1=true
     rotate_left
     ·have e:ownE x.1 x.2.1 x.2.2.1 x.2.2.2.1 x.2.2.2.2.1 (hN x.2.2.2.2.2 == 0)=2:=by unfold ownE; rw [if_pos hk,if_pos hc,if_neg hr]
      have e2:phE d x=2:=by unfold phE; rw [e,if_neg (by decide)]
      have hr':rightB x.1 x.2.1 x.2.2.1 x.2.2.2.1 x.2.2.2.2.1=false:=by simpa using hr
      unfold rightB at hr'
      rw [if_neg k5] at hr'
      rw [if_pos (by rw [hr']; rfl),e2]; rfl
     have e:ownE x.1 x.2.1 x.2.2.1 x.2.2.2.1 x.2.2.2.2.1 (hN x.2.2.2.2.2 == 0)=0:=by unfold ownE; rw [if_pos hk,if_pos hc,if_pos hr]
     have e2:phE d x=0:=by unfold phE; rw [e,if_pos rfl,if_neg k5]
     have hr':=hr
     unfold rightB at hr'
     rw [if_neg k5] at hr'
     rw [if_neg (by rw [hr']; decide),e2]; rfl)
   (fun t=>by simp only [b132_1,geN,Bool.false_eq_true,if_false]) ()
  rw [h]
  refine (err_foldI d (some (0,0)) l 0).trans ?_
  by_cases c:(erI d 0 l).2=0
  ·rw [if_pos c]
   have:∀ (r:List Ph) (i:Int),(erI d i r).2=0→erI d i r=(0,0):=by
    intro r
    induction r with
    | nil=>intro i _; rfl
    | cons y r ih=>
     intro i hy
     rw [erI] at hy ⊢
     by_cases cy:phE d y=0
     ·rw [if_pos cy] at hy ⊢; exact ih _ hy
     ·rw [if_neg cy] at hy; exact absurd hy cy
   rw [this l 0 c]
  ·rw [if_neg c]
end Go.Proofs.YtnepigpnlnmlmaaGreatDoor

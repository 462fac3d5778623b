/- Recipes: few, copied, the same; errors, counts and flattened phases by the reference. -/
import Derived.Test.YtkbdjphdhcgmaaaGreatDoorF12
import Derived.Test.YtkbdjphdhcgmaaaGreatDoorRecA
import Derived.Test.YtkbdjphdhcgmaaaGreatDoorF09
import Derived.Test.YtkbdjphdhcgmaaaGreatDoorF27
import Derived.Test.YtkbdjphdhcgmaaaGreatDoorRcpA
import Derived.Test.YtkbdjphdhcgmaaaGreatDoorF28
set_option linter.unusedVariables false
set_option linter.unusedSimpArgs false
namespace Go.Proofs.YtkbdjphdhcgmaaaGreatDoor
open Go.dR
theorem bC0 {α σ ρ:Type} (v:α) (f:α->cO σ ρ):aP (some v) f=f v:=rfl
theorem auF:∀ (n:Nat) (d:Int) (l:List Ph),0<=d->d<=6->7<=n+d->∃ v,r35 n l d=some v/\(v=true->d<=5/\KP 14 l=true/\(KT l:Int)<=5 - d)
 | 0,d,l,h0,h6,h7=>by omega
 | n+1,d,l,h0,h6,h7=>by
  show ∃ v,q35 n (r35 n) l d=some v/\_
  unfold q35
  by_cases c:((decide ((l.length:Int)>14)) || (decide (d>5)))=true
  ·rw [if_pos c]; exact ⟨false,rfl,fun h=>by cases h⟩
  rw [if_neg c]
  simp only [Bool.or_eq_true,decide_eq_true_eq,not_or] at c
  have hw:IntKind.i64.wrap (d+1)=d+1:=IntWalk.i64_in _ ⟨by omega,by omega⟩
  refine eX (Ij (r35 n) l d) (fun i s=>s=(i:Int)/\∀ j,j<i->d+1<=5/\KP 14 (hU (l.getD j default).2.2.2.2.2)=true/\(KT (hU (l.getD j default).2.2.2.2.2):Int)<=5 - (d+1)) (fun o=>∃ v,o=some v/\(v=true->d<=5/\KP 14 l=true/\(KT l:Int)<=5 - d)) l.length ?_ ?_ _ ⟨rfl,fun j hj=>absurd hj (by omega)⟩ _ (by omega)
  ·rintro i _ hi ⟨rfl,hall⟩
   obtain ⟨v,hv,hv2⟩:=auF n (d+1) (hU (l.getD i default).2.2.2.2.2) (by omega) (by omega) (by omega)
   simp only [Ij,lS hi,if_true,if_pos (jJ hi),Int.toNat_natCast,wS i (by omega),hw,hv,bC0]
   cases v with
   | false=>rw [if_pos (by rfl)]; exact .inr ⟨_,rfl,false,rfl,fun h=>by cases h⟩
   | true=>
    rw [if_neg (by decide)]
    refine .inl ⟨_,rfl,rfl,fun j hj=> ?_⟩
    by_cases hji:j=i
    ·subst hji; exact hv2 rfl
    ·exact hall j (by omega)
  ·rintro _ ⟨rfl,hall⟩
   simp only [Ij,y8,Bool.false_eq_true,if_false]
   refine ⟨_,rfl,true,rfl,fun _=>⟨by omega,ZI (by omega) (fun x hx=> ?_),?_⟩⟩
   ·obtain ⟨j,hj,rfl⟩:=nS hx
    exact (hall j hj).2.1
   ·have:=ach (n:=(5 - d).toNat) (l:=l) (fun x hx=>by
     obtain ⟨j,hj,rfl⟩:=nS hx
     have:=(hall j hj).2.2
     omega)
    omega
theorem au8:∀ (n:Nat) (l:List Ph),KT l<n->KP 14 l=true->∃ v,r36 n l=some v
 | 0,l,h,_=>absurd h (by omega)
 | n+1,l,h,hs=>by
  have hl:=IX hs
  show ∃ v,q36 n (r36 n) l=some v
  unfold q36
  refine eX (Ii (r36 n) l) (fun i s=>s.2=(i:Int)) (fun o=>∃ v,o=some v) l.length ?_ ?_ _ rfl _ (by omega)
  ·rintro i ⟨s,_⟩ hi rfl
   have hx:=getD_mem hi
   obtain ⟨v,hv⟩:=au8 n (hU (l.getD i default).2.2.2.2.2) (by have:=BG hx; omega) (VH hs hx)
   simp only [Ii,lS hi,Bool.true_and,if_pos (jJ hi),Int.toNat_natCast,hv,bC0,wS i (by omega)]
   by_cases c:decide (s<=100)=true
   ·rw [if_pos c]; exact .inl ⟨_,rfl,rfl⟩
   ·rw [if_neg c]; exact .inr ⟨_,rfl,_,rfl⟩
  ·rintro ⟨s,_⟩ rfl
   simp only [Ii,y8,Bool.false_and,Bool.false_eq_true,if_false]
   exact ⟨_,rfl,_,rfl⟩
theorem ahs:∀ (n:Nat) (l:List Ph),KT l<n->KP 60 l=true->r9 n l=some l
 | 0,l,h,_=>absurd h (by omega)
 | n+1,l,h,hs=>by
  have hl:=IX hs
  show q9 n (r9 n) l=some l
  unfold q9
  refine eX (Y6 (r9 n) l) (fun i s=>s=(l.take i,(i:Int))) (fun o=>o=some l) l.length ?_ ?_ _ (by simp) _ (by omega)
  ·rintro i _ hi rfl
   have hx:=getD_mem hi
   have hv:=ahs n (hU (l.getD i default).2.2.2.2.2) (by have:=BG hx; omega) (VH hs hx)
   have hlen:(l.take i).length=i:=by rw [List.length_take]; omega
   refine .inl ⟨(l.take (i+1),((i+1:Nat):Int)),?_,rfl⟩
   simp only [Y6,lS hi,if_true,if_pos (jJ hi),Int.toNat_natCast,hv,bC0,wS i (by omega),hlen,xY]
   rw [if_pos ⟨by omega,by omega⟩,List.take_add_one,List.getElem?_eq_getElem hi,List.getD_eq_getElem?_getD,List.getElem?_eq_getElem hi]
   rfl
  ·rintro _ rfl
   simp only [Y6,y8,Bool.false_eq_true,if_false,List.take_length]
   exact ⟨_,rfl,rfl⟩
theorem ofR (k:Int):r97 k=some (Au k,BN k,Ar k,k == 5):=by
 unfold r97 Au BN Ar
 by_cases h0:k=0
 ·subst h0; rfl
 by_cases h2:k=2
 ·subst h2; rfl
 by_cases h3:k=3
 ·subst h3; rfl
 by_cases h4:k=4
 ·subst h4; rfl
 by_cases h5:k=5
 ·subst h5; rfl
 have e0:(k == 0)=false:=by simpa using h0
 have e2:(k == 2)=false:=by simpa using h2
 have e3:(k == 3)=false:=by simpa using h3
 have e4:(k == 4)=false:=by simpa using h4
 have e5:(k == 5)=false:=by simpa using h5
 rw [e0,e2,e3,e4,e5]; rfl
theorem gt0 (b:Hl):decide (((hU b).length:Int)>0)= !(hN b == 0):=by
 have h:=Eo b
 rw [<- h]
 by_cases c:((hU b).length:Int)=0
 ·rw [c]; rfl
 ·have h1:(((hU b).length:Int) == 0)=false:=by simpa using c
  rw [h1,decide_eq_true (by omega)]; rfl
theorem auD (uP uL uQ u5:Bool) (p l q:Int) (em:Bool):(((((!uP) && (p != 0)) || ((!uL) && (l != 0))) || ((!uQ) && (q != 0))) || ((!u5) && (!em)))= !((uP || p == 0) && (uL || l == 0) && (uQ || q == 0) && (u5 || em)):=by
 simp only [bne]
 generalize (p == 0)=x; generalize (l == 0)=y; generalize (q == 0)=z
 revert uP uL uQ u5 em x y z; decide
theorem aic (uP uL uQ x y z w:Bool):((((uP && (!x)) || (uL && (!y))) || (!z)) || (uQ && (!w)))= !((!uP || x) && (!uL || y) && z && (!uQ || w)):=by
 revert uP uL uQ x y z w; decide
def lsR (d:Int) (l:List Ph):Int×Int:=if l.length=0 then (0,10) else if 12<l.length then (0,8) else G8 d 0 l
theorem afn (k:Int):Ze k=some (dW k 200 3000):=by unfold Ze; rw [p59]; rfl
theorem agJ:∀ (n:Nat) (d:Int),0<=d->d<=3->4<=n+d->∀ l:List Ph,r42 n l d=some (lsR d l)
 | 0,d,h0,h3,h4,_=>by omega
 | n+1,d,h0,h3,h4,l=>by
  show q42 n (r42 n) l d=_
  unfold q42 lsR
  by_cases c0:l.length=0
  ·rw [if_pos c0,if_pos (by rw [c0]; rfl)]
  rw [if_neg c0,if_neg (by simp; intro h; exact c0 (by rw [h]; rfl))]
  by_cases c12:12<l.length
  ·rw [if_pos c12,if_pos (decide_eq_true (by omega))]
  rw [if_neg c12,if_neg (by rw [decide_eq_true_eq]; omega)]
  have hw:IntKind.i64.wrap (d+1)=d+1:=IntWalk.i64_in _ ⟨by omega,by omega⟩
  have h:=kR (τ:=Unit) l (Ia (r42 n) l d) (fun i _=>i) (fun i _ x=>if lQ d x=0 then .next () else .out (some (i,lQ d x))) (fun _=>some (0,0)) (by omega)
   (fun i t hi=>by
    simp only [Ia,lS hi,if_true,if_pos (jJ hi),Int.toNat_natCast,wS i (by omega),p59,bC0,ofR,gt0,hw,afn,Option.isSome_some,implies_true,Option.getD_some,auD,aic]
    generalize l.getD i default=x
    by_cases hk:dW x.1 0 5=true
    rotate_left
    ·have e:jo x.1 x.2.1 x.2.2.1 x.2.2.2.1 x.2.2.2.2.1 (hN x.2.2.2.2.2 == 0)=15:=by unfold jo; rw [if_neg hk]
     have e2:lQ d x=15:=by unfold lQ; rw [e,if_neg (by decide)]
     rw [if_pos (by simpa using hk),e2]; rfl
    rw [hk,if_neg (by decide)]
    by_cases hc:kN x.1 x.2.1 x.2.2.1 x.2.2.2.2.1 (hN x.2.2.2.2.2 == 0)=true
    rotate_left
    ·have e:jo x.1 x.2.1 x.2.2.1 x.2.2.2.1 x.2.2.2.2.1 (hN x.2.2.2.2.2 == 0)=3:=by unfold jo; rw [if_pos hk,if_neg hc]
     have e2:lQ d x=3:=by unfold lQ; rw [e,if_neg (by decide)]
     have hc':kN x.1 x.2.1 x.2.2.1 x.2.2.2.2.1 (hN x.2.2.2.2.2 == 0)=false:=by simpa using hc
     unfold kN at hc'
     rw [if_pos (by rw [hc']; rfl),e2]; rfl
    have hc':=hc
    unfold kN at hc'
    rw [if_neg (by rw [hc']; decide)]
    by_cases k5:x.1=5
    ·have b5:(x.1 == 5)=true:=by simpa using k5
     simp only [b5,if_true,Bool.not_true,Bool.false_eq_true,if_false]
     by_cases hr:je x.1 x.2.1 x.2.2.1 x.2.2.2.1 x.2.2.2.2.1=true
     rotate_left
     ·have e:jo x.1 x.2.1 x.2.2.1 x.2.2.2.1 x.2.2.2.2.1 (hN x.2.2.2.2.2 == 0)=2:=by unfold jo; rw [if_pos hk,if_pos hc,if_neg hr]
      have e2:lQ d x=2:=by unfold lQ; rw [e,if_neg (by decide)]
      have hr':je x.1 x.2.1 x.2.2.1 x.2.2.2.1 x.2.2.2.2.1=false:=by simpa using hr
      unfold je at hr'
      rw [if_pos k5] at hr'
      rw [if_pos (by rw [hr']; rfl),e2]; rfl
     have e:jo x.1 x.2.1 x.2.2.1 x.2.2.2.1 x.2.2.2.2.1 (hN x.2.2.2.2.2 == 0)=0:=by unfold jo; rw [if_pos hk,if_pos hc,if_pos hr]
     have e2:lQ d x=Af d (hN x.2.2.2.2.2) (yJ x.2.2.2.2.2 (d+1)):=by unfold lQ; rw [e,if_pos rfl,if_pos k5]
     have hr':=hr
     unfold je at hr'
     rw [if_pos k5] at hr'
     rw [if_neg (by rw [hr']; decide),e2]
     unfold Af
     by_cases d3:d=3
     ·rw [if_pos d3,if_pos (decide_eq_true (by omega))]; rfl
     rw [if_neg d3,if_neg (by rw [decide_eq_true_eq]; omega),agJ n (d+1) (by omega) (by omega) (by omega) (hU x.2.2.2.2.2),bC0]
     have hbl:=uY x.2.2.2.2.2
     have e3:(lsR (d+1) (hU x.2.2.2.2.2)).2=if hN x.2.2.2.2.2=0 then 10 else if 12<hN x.2.2.2.2.2 then 8 else yJ x.2.2.2.2.2 (d+1):=by
      unfold lsR
      rw [hbl]
      by_cases n0:hN x.2.2.2.2.2=0
      ·rw [if_pos n0,if_pos n0]
      rw [if_neg n0,if_neg n0]
      by_cases n12:12<hN x.2.2.2.2.2
      ·rw [if_pos n12,if_pos n12]
      rw [if_neg n12,if_neg n12]; exact BF _ _ _
     rw [e3]
     generalize (if hN x.2.2.2.2.2=0 then (10:Int) else if 12<hN x.2.2.2.2.2 then 8 else yJ x.2.2.2.2.2 (d+1))=e9
     by_cases e0:e9=0
     ·rw [if_neg (by simpa using e0),if_pos e0]; rfl
     ·rw [if_pos (by simpa using e0),if_neg e0]; rfl
    ·have b5:(x.1 == 5)=false:=by simpa using k5
     simp only [b5,Bool.false_eq_true,if_false,Bool.not_false,if_true]
     by_cases hr:je x.1 x.2.1 x.2.2.1 x.2.2.2.1 x.2.2.2.2.1=true
     rotate_left
     ·have e:jo x.1 x.2.1 x.2.2.1 x.2.2.2.1 x.2.2.2.2.1 (hN x.2.2.2.2.2 == 0)=2:=by unfold jo; rw [if_pos hk,if_pos hc,if_neg hr]
      have e2:lQ d x=2:=by unfold lQ; rw [e,if_neg (by decide)]
      have hr':je x.1 x.2.1 x.2.2.1 x.2.2.2.1 x.2.2.2.2.1=false:=by simpa using hr
      unfold je at hr'
      rw [if_neg k5] at hr'
      rw [if_pos (by rw [hr']; rfl),e2]; rfl
     have e:jo x.1 x.2.1 x.2.2.1 x.2.2.2.1 x.2.2.2.2.1 (hN x.2.2.2.2.2 == 0)=0:=by unfold jo; rw [if_pos hk,if_pos hc,if_pos hr]
     have e2:lQ d x=0:=by unfold lQ; rw [e,if_pos rfl,if_neg k5]
     have hr':=hr
     unfold je at hr'
     rw [if_neg k5] at hr'
     rw [if_neg (by rw [hr']; decide),e2]; rfl)
   (fun t=>by simp only [Ia,y8,Bool.false_eq_true,if_false]) ()
  rw [h]
  refine (uK d (some (0,0)) l 0).trans ?_
  by_cases c:(G8 d 0 l).2=0
  ·rw [if_pos c]
   have:∀ (r:List Ph) (i:Int),(G8 d i r).2=0->G8 d i r=(0,0):=by
    intro r
    induction r with
    | nil=>intro i _; rfl
    | cons y r ih=>
     intro i hy
     rw [G8] at hy ⊢
     by_cases cy:lQ d y=0
     ·rw [if_pos cy] at hy ⊢; exact ih _ hy
     ·rw [if_neg cy] at hy; exact absurd hy cy
   rw [this l 0 c]
  ·rw [if_neg c]
theorem Bj (n:Nat) (blk:List Ph):((List.replicate n blk).flatten).length=n*blk.length:=by
 induction n with
 | zero=>simp
 | succ n ih=>rw [List.replicate_succ,List.flatten_cons,List.length_append,ih,Nat.succ_mul]; omega
theorem NQ (l:List Ph) {i:Nat} (hi:i<l.length):fE (l.take (i+1))=fE (l.take i)++zW (l.getD i default):=by
 unfold fE
 rw [List.take_add_one,List.getElem?_eq_getElem hi,List.flatMap_append,List.getD_eq_getElem?_getD,List.getElem?_eq_getElem hi]; simp
theorem akw (l:List Ph) (i:Nat):(fE (l.take i)).length<=(fE l).length:=by
 have e:fE l=fE (l.take i)++fE (l.drop i):=by unfold fE; rw [<- List.flatMap_append,List.take_append_drop]
 have h:=congrArg List.length e
 rw [List.length_append] at h; omega
theorem VW {d:Int} {x:Ph} (h:lQ d x=0) (h5:x.1=5):(zW x).length=x.2.2.2.1.toNat*(fE (hU x.2.2.2.2.2)).length:=by
 unfold zW; rw [if_pos h5,Bj,ql]; rfl
theorem auU:∀ (n:Nat) (d:Int) (l:List Ph),KT l<n->(∀ x∈l,lQ d x=0)->l.length<=12->r43 n l=some ((min (fE l).length 61:Nat):Int)
 | 0,d,l,h,_,_=>absurd h (by omega)
 | n+1,d,l,h,ok,hl=>by
  show q43 n (r43 n) l=_
  unfold q43
  refine eX (EK (r43 n) l) (fun i s=>s=(((min (fE (l.take i)).length 61:Nat):Int),(i:Int))) (fun o=>o=some ((min (fE l).length 61:Nat):Int)) l.length ?_ ?_ _ (by simp [fE]) _ (by omega)
  ·rintro i _ hi rfl
   have hx:=ok _ (getD_mem hi)
   refine .inl ⟨_,?_,rfl⟩
   rw [NQ l hi,List.length_append]
   by_cases k5:(l.getD i default).1=5
   ·obtain ⟨_,k2,k3,k4⟩:=nP hx k5
    have hv:=auU n (d+1) (hU (l.getD i default).2.2.2.2.2) (by have:=BG (getD_mem hi); omega) (qI k2) (by rw [uY]; exact k3.2)
    have hpl:=VW hx k5
    simp only [EK,lS hi,if_true,if_pos (jJ hi),Int.toNat_natCast,hv,bC0,wS i (by omega),if_pos (show ((l.getD i default).1 == 5)=true by simpa using k5)]
    rw [hpl]
    generalize hA:(fE (l.take i)).length=A
    generalize hC:(fE (hU (l.getD i default).2.2.2.2.2)).length=C
    generalize ht:(l.getD i default).2.2.2.1=t at k4
    obtain ⟨m,hm⟩:∃ m:Nat,t=(m:Int):=⟨t.toNat,by omega⟩
    subst hm
    have h1:C<=m*C:=Nat.le_mul_of_pos_left C (by omega)
    have h2:m*(min C 61)<=10*61:=Nat.mul_le_mul (by omega) (by omega)
    have h3:min (min A 61+m*min C 61) 61=min (A+m*C) 61:=by
     by_cases c:C<=61
     ·rw [Nat.min_eq_left c]; omega
     ·rw [Nat.min_eq_right (by omega:61<=C)]; omega
    have e1:((m:Int)*((min C 61:Nat):Int))=((m*min C 61:Nat):Int):=by rw [Int.natCast_mul]
    rw [e1,Int.toNat_natCast, <- h3,IntWalk.i64_in ((m*min C 61:Nat):Int) ⟨by omega,by omega⟩,IntWalk.i64_in _ ⟨by omega,by omega⟩]
    have e2:(if 61<((min A 61:Nat):Int)+((m*min C 61:Nat):Int) then (61:Int) else ((min A 61:Nat):Int)+((m*min C 61:Nat):Int))=((min (min A 61+m*min C 61) 61:Nat):Int):=by
     generalize m*min C 61=z
     split<;>omega
    rw [e2]; rfl
   ·have hf:zW (l.getD i default)=[l.getD i default]:=if_neg k5
    simp only [EK,lS hi,if_true,if_pos (jJ hi),Int.toNat_natCast,wS i (by omega),if_neg (show ¬ (((l.getD i default).1 == 5)=true) by simpa using k5)]
    rw [hf,List.length_singleton]
    generalize (fE (l.take i)).length=A
    rw [IntWalk.i64_in _ ⟨by omega,by omega⟩]
    have e2:(if 61<((min A 61:Nat):Int)+1 then (61:Int) else ((min A 61:Nat):Int)+1)=((min (A+1) 61:Nat):Int):=by split<;>omega
    rw [e2]; rfl
  ·rintro _ rfl
   simp only [EK,y8,Bool.false_eq_true,if_false,List.take_length]
   exact ⟨_,rfl,rfl⟩
theorem abL:∀ (n:Nat) (d:Int) (l:List Ph),KT l<n->(∀ x∈l,lQ d x=0)->l.length<=12->(fE l).length<=60->r13 n l=some (fE l)
 | 0,d,l,h,_,_,_=>absurd h (by omega)
 | n+1,d,l,h,ok,hl,hs=>by
  show q13 n (r13 n) l=_
  unfold q13
  refine eX (ER (r13 n) l) (fun i s=>s=(fE (l.take i),(i:Int))) (fun o=>o=some (fE l)) l.length ?_ ?_ _ (by simp [fE]) _ (by omega)
  ·rintro i _ hi rfl
   have hx:=ok _ (getD_mem hi)
   have hp:=akw l (i+1)
   have ht:=NQ l hi
   have hlt:=congrArg List.length ht
   rw [List.length_append] at hlt
   refine .inl ⟨_,?_,rfl⟩
   by_cases k5:(l.getD i default).1=5
   ·obtain ⟨_,k2,k3,k4⟩:=nP hx k5
    have hpl:=VW hx k5
    have hC:(fE (hU (l.getD i default).2.2.2.2.2)).length<=(zW (l.getD i default)).length:=by rw [hpl]; exact Nat.le_mul_of_pos_left _ (by omega)
    have hv:=abL n (d+1) (hU (l.getD i default).2.2.2.2.2) (by have:=BG (getD_mem hi); omega) (qI k2) (by rw [uY]; exact k3.2) (by omega)
    have hf:zW (l.getD i default)=(List.replicate (l.getD i default).2.2.2.1.toNat (fE (hU (l.getD i default).2.2.2.2.2))).flatten:=by
     unfold zW; rw [if_pos k5,ql]; rfl
    have hin:aS (Iu l (fE (l.take i),(i:Int)) (fE (hU (l.getD i default).2.2.2.2.2))) 1000000000 (0,fE (l.take i))=some (cO.next (fE (l.take (i+1)),((i+1:Nat):Int))):=by
     refine eX _ (fun j s=>s=((j:Int),fE (l.take i)++(List.replicate j (fE (hU (l.getD i default).2.2.2.2.2))).flatten)) (fun o=>o=some (cO.next (fE (l.take (i+1)),((i+1:Nat):Int)))) (l.getD i default).2.2.2.1.toNat ?_ ?_ _ (by simp) _ (by omega)
     ·rintro j _ hj rfl
      have g1:decide ((j:Int)<(l.getD i default).2.2.2.1)=true:=decide_eq_true (by omega)
      have hjl:((List.replicate j (fE (hU (l.getD i default).2.2.2.2.2))).flatten).length<=(zW (l.getD i default)).length:=by
       rw [Bj,hpl]; exact Nat.mul_le_mul (by omega) (Nat.le_refl _)
      refine .inl ⟨(((j+1:Nat):Int),fE (l.take i)++(List.replicate (j+1) (fE (hU (l.getD i default).2.2.2.2.2))).flatten),?_,rfl⟩
      simp only [Iu,if_pos (jJ hi),Int.toNat_natCast,g1,if_true,wS j (by omega)]
      rw [if_pos ⟨by rw [List.length_append]; omega,by rw [List.length_append]; omega⟩,List.replicate_succ',List.flatten_append,List.append_assoc]
      simp
     ·rintro _ rfl
      have g1:decide ((((l.getD i default).2.2.2.1.toNat:Nat):Int)<(l.getD i default).2.2.2.1)=false:=decide_eq_false (by omega)
      refine ⟨_,?_,rfl⟩
      simp only [Iu,if_pos (jJ hi),Int.toNat_natCast,g1,Bool.false_eq_true,if_false,wS i (by omega)]
      rw [ht,hf]; rfl
    simp only [ER,lS hi,if_true,if_pos (jJ hi),Int.toNat_natCast,hv,bC0,if_neg (show ¬ (((l.getD i default).1 != 5)=true) by simpa using k5),hin,Option.getD_some]
   ·have hf:zW (l.getD i default)=[l.getD i default]:=if_neg k5
    rw [hf] at hlt
    simp only [List.length_singleton] at hlt
    simp only [ER,lS hi,if_true,if_pos (jJ hi),Int.toNat_natCast,wS i (by omega),if_pos (show ((l.getD i default).1 != 5)=true by simpa using k5)]
    rw [if_pos ⟨by omega,by omega⟩,ht,hf]; rfl
  ·rintro _ rfl
   simp only [ER,y8,Bool.false_eq_true,if_false,List.take_length]
   exact ⟨_,rfl,rfl⟩
theorem ZW {l:List Ph} (h:(G8 0 0 l).2=0):KT l<7:=by
 have h2:yJ (hM l) 0=0:=by rw [<- BF 0 (hM l) 0,zZ]; exact h
 have:=aax (hM l) 0 (by decide) (by decide) h2
 unfold KT; omega
theorem akL {l:List Ph} (hl:l.length<1000000):r11 l=some (oH l):=by
 unfold r11 oH
 rw [agJ 7 0 (by decide) (by decide) (by decide) l,Option.bind_some]
 unfold lsR
 by_cases c0:l.length=0
 ·rw [if_pos c0,if_pos c0,if_pos (by decide)]
 rw [if_neg c0,if_neg c0]
 by_cases c12:12<l.length
 ·rw [if_pos c12,if_pos c12,if_pos (by decide)]
 rw [if_neg c12,if_neg c12]
 by_cases he:(G8 0 0 l).2=0
 rotate_left
 ·rw [if_neg he,if_pos (by simpa using he)]
 have ok:=Eh he
 rw [if_pos he,if_neg (by simpa using he),auU 7 0 l (ZW he) ok (by omega),Option.bind_some]
 by_cases c:(fE l).length<=60
 rotate_left
 ·rw [if_neg c,if_pos (decide_eq_true (by omega))]
 rw [if_pos c,if_neg (by rw [decide_eq_true_eq]; omega),abL 7 0 l (ZW he) ok (by omega) c,Option.bind_some]
 have hne:1<=(fE l).length:=by
  match l,c0,ok with
  | x::r,_,ok=>
   have:=Qc (ok x (by simp))
   unfold fE; rw [List.flatMap_cons,List.length_append]; omega
 have hw:IntKind.i64.wrap (((fE l).length:Int) - 1)=(((fE l).length - 1:Nat):Int):=by rw [IntWalk.i64_in _ ⟨by omega,by omega⟩]; omega
 rw [hw,if_pos ⟨by omega,by omega⟩,Int.toNat_natCast]
 unfold r44
 rw [Option.bind_some]
 show (if (!(jO ((fE l).getD ((fE l).length - 1) default).1))=true then _ else _)=_
 cases jO ((fE l).getD ((fE l).length - 1) default).1<;>rfl
theorem Cm {n m:Nat} (h:n<=m):∀ {b:Hl},ZK n b=true->ZK m b=true
 | .nil,_=>rfl
 | .cons k p l t q b r,hs=>by
  rw [ZK] at hs ⊢
  simp only [Bool.and_eq_true,decide_eq_true_eq] at hs ⊢
  exact ⟨⟨by omega,Cm h hs.1.2⟩,Cm h hs.2⟩
theorem ZJ {n m:Nat} (h:n<=m) {l:List Ph} (hs:KP n l=true):KP m l=true:=by
 unfold KP at hs ⊢
 simp only [Bool.and_eq_true,decide_eq_true_eq] at hs ⊢
 exact ⟨by omega,Cm h hs.2⟩
theorem ah8 (l:List Ph):∃ v,r7 l=some v/\(v=true->KP 14 l=true/\KT l<7):=by
 obtain ⟨v,hv,hv2⟩:=auF 7 0 l (by decide) (by decide) (by decide)
 unfold r7
 rw [hv,Option.bind_some]
 cases v with
 | false=>exact ⟨false,by simp,fun h=>by cases h⟩
 | true=>
  obtain ⟨_,h2,h3⟩:=hv2 rfl
  obtain ⟨w,hw⟩:=au8 7 l (by omega) h2
  rw [hw,if_pos (show true=true->(some w).isSome=true from fun _=>rfl)]
  exact ⟨_,rfl,fun _=>⟨h2,by omega⟩⟩
theorem akU:r6=some true:=by decide +kernel
theorem Wu {a b:Int} {T:TL} {L:List TL} (ok:fF a b T L) {x k:Int} (hk:200<=k/\k<=3000) (hx:inT T x=true):r55 a b T L x k=some (DR T k x):=by
 obtain ⟨N,D,e,P⟩:=p57 ok a b L x hx
 have q1:=P.pos; have q2:=P.le; have q3:=P.num
 have h0:(0:Rat)<D:=Rat.intCast_pos.2 q1
 have m1:0<=k*D:=Int.mul_nonneg (by omega) (by omega)
 have m2:k*D<=3000*1000000:=Int.mul_le_mul hk.2 q2 (by omega) (by omega)
 unfold r55
 rw [e,Option.bind_some]
 show some (decide (N>IntKind.i64.wrap (k*D)))=_
 rw [IntWalk.i64_in _ ⟨by omega,by omega⟩]
 unfold DR
 congr 1
 rw [decide_eq_decide,gt_iff_lt, <- Int.not_le,not_congr]
 rw [<- Rat.intCast_le_intCast,Rat.intCast_mul,P.eq]
 constructor
 ·intro h; exact Rat.le_of_mul_le_mul_right h h0
 ·intro h; exact Rat.mul_le_mul_of_nonneg_right h (Rat.le_of_lt h0)
theorem aAz {W:TL} (hl:W.length<1000) (hW:∀ w∈W,(0<=w.1/\w.1<=1000)/\(0<=w.2/\w.2<=1000)/\w.1<=w.2) {p:Int} (hp:0<=p/\p<=10000) (a b:Int) (T:TL) (L:List TL) (lo hi:List Int) (dQ spread:Int) :
 r78 a b T L lo hi W dQ spread p 0=some (nO W p):=by
 unfold r78
 refine eX (HY W p 0) (fun i s=>s=((nO W p).take i,(i:Int))) (fun o=>o=some (nO W p)) W.length ?_ ?_ _ (by simp) _ (by omega)
 ·rintro i _ hi rfl
  have hw:=hW _ (getD_mem hi)
  obtain ⟨e1,m1,m2,e2,e3,h4,h5⟩:=pw1 hw hp
  have x1:r22 ((W.getD i default).1+(W.getD i default).2) 2=some (((W.getD i default).1+(W.getD i default).2) / 2):=asX _ 2 (by decide) (by omega) (by omega)
  have x2:r22 (p*(((W.getD i default).1+(W.getD i default).2) / 2)) 1000=some (p*(((W.getD i default).1+(W.getD i default).2) / 2) / 1000):=asX _ 1000 (by decide) (by omega) (by omega)
  have hlen:((nO W p).take i).length=i:=by simp [nO]; omega
  have z1:decide ((0:Int)<0)=false:=rfl
  have z2:decide ((0:Int)>0)=false:=rfl
  refine .inl ⟨((nO W p).take (i+1),((i+1:Nat):Int)),?_,rfl⟩
  simp only [HY,lS hi,if_true,if_pos (jJ hi),Int.toNat_natCast,wS i (by omega),e1,x1,aP,z1,z2,Bool.false_eq_true,if_false,e3,x2,hlen]
  rw [if_pos ⟨by omega,by omega⟩]
  congr 2
  rw [List.take_add_one,List.getElem?_eq_getElem (by simpa [nO] using hi)]
  simp [nO,List.getD_eq_getElem?_getD,hi]
 ·rintro _ rfl
  refine ⟨some (nO W p),?_,rfl⟩
  simp only [HY,y8,Bool.false_eq_true,if_false]
  rw [List.take_of_length_le (by simp [nO])]
theorem adg {a b:Int} {T:TL} {L:List TL} (ok:fF a b T L) {x k:Int} (hk:200<=k/\k<=3000) (hx:inT T x=true):r54 a b T L x k=some (hot T k x):=by
 obtain ⟨N,D,e,P⟩:=p57 ok a b L x hx
 have q1:=P.pos; have q2:=P.le; have q3:=P.num
 have h0:(0:Rat)<D:=Rat.intCast_pos.2 q1
 have m1:0<=k*D:=Int.mul_nonneg (by omega) (by omega)
 have m2:k*D<=3000*1000000:=Int.mul_le_mul hk.2 q2 (by omega) (by omega)
 unfold r54
 rw [e,Option.bind_some]
 show some (decide (N>=IntKind.i64.wrap (k*D)))=_
 rw [IntWalk.i64_in _ ⟨by omega,by omega⟩]
 unfold hot
 congr 1
 rw [decide_eq_decide,ge_iff_le]
 rw [<- Rat.intCast_le_intCast,Rat.intCast_mul,P.eq]
 constructor
 ·intro h; exact Rat.le_of_mul_le_mul_right h h0
 ·intro h; exact Rat.mul_le_mul_of_nonneg_right h (Rat.le_of_lt h0)
section
variable {a b:Int} {T:TL} {L:List TL} {lo hi:List Int} {W:TL} {dQ spread:Int}
theorem aoQ (B:oz a b T L lo hi W dQ spread) {s:List Int} (H:fZ a b T L s) {x:Int×Int} (hx:(0<=x.1/\x.1<=10000)/\0<=x.2/\x.2<L.length) :
 XA a b T L lo hi W dQ spread s x.1 x.2=some (if (iI b T (L.getD x.2.toNat default) s (nO W x.1)).all (inT T)=true then (iI b T (L.getD x.2.toNat default) s (nO W x.1),true) else ([],false)):=by
 obtain ⟨f1,f2,f3,f4,f5,f6⟩:=B.few
 obtain ⟨-,hd,-⟩:=ags B H hx
 unfold XA
 rw [aAz (by omega) B.wts hx.1,Option.bind_some,p71 H.ok (H.step hd),Option.bind_some]
 by_cases h:(iI b T (L.getD x.2.toNat default) s (nO W x.1)).all (inT T)=true
 ·simp only [if_pos h]
 ·simp only [if_neg h]
theorem agq (B:oz a b T L lo hi W dQ spread) {s:List Int} (H:fZ a b T L s) {p law:Int} (hx:(0<=p/\p<=10000)/\0<=law/\law<L.length) {made:TL} (hm:made.length<=200) {n:Nat} (hn:n<1000) :
 (if ((made.length:Int) == 200)=true then
  (cO.out (some (cO.out (some (([]:TL),(8:Int))))):cO (List Int×Int×TL) (cO (TL×List Int×Int) (TL×Int)))
  else aP (XA a b T L lo hi W dQ spread s p law) fun v9=>
   if (!v9.2)=true then
    .out (some (.out (some ([],22))))
    else if (made.length+1)*16<=140737488355328/\made.length+1<=9223372036854775807 then
     .next (v9.1,IntKind.i64.wrap ((n:Int)+1),made++[(p,law)])
     else .out none)=
 if made.length=200 then .out (some (.out (some ([],8)))) else
  if (iI b T (L.getD law.toNat default) s (nO W p)).all (inT T)=true then .next (iI b T (L.getD law.toNat default) s (nO W p),((n+1:Nat):Int),made++[(p,law)]) else .out (some (.out (some ([],22)))):=by
 have e1:=aoQ B H (x:=(p,law)) hx
 simp only at e1
 by_cases c:made.length=200
 ·rw [if_pos c,if_pos (by rw [c]; rfl)]
 rw [if_neg c,if_neg (by simp; omega),e1,Zh]
 by_cases ho:(iI b T (L.getD law.toNat default) s (nO W p)).all (inT T)=true
 ·simp only [if_pos ho]
  rw [if_neg (by decide),if_pos ⟨by omega,by omega⟩,wS n (by omega)]; rfl
 ·simp only [if_neg ho]
  rw [if_pos (by decide)]
def BZ (b:Int) (T:TL) (L:List TL) (W:TL) (x:Ph) (law:Int) (i:Int) (f n:Nat) (s:List Int) (made:TL):cO (List Int×Int×TL) (cO (TL×List Int×Int) (TL×Int)):=
 if rW T x.1 x.2.2.2.2.1 f (s.getD 0 default)=true then
  (if 0<f then
   (if made.length=200 then .out (some (.out (some ([],8)))) else
    if (iI b T (L.getD law.toNat default) s (nO W x.2.1)).all (inT T)=true then .next (iI b T (L.getD law.toNat default) s (nO W x.2.1),((n+1:Nat):Int),made++[(x.2.1,law)]) else .out (some (.out (some ([],22)))))
   else .out (some (.out (some ([],24)))))
 else .out (some (.next (made,s,i)))
theorem refine1 {σ ρ:Type} (done z:Bool) (X Y Z:cO σ ρ) (m:Bool) (hm:m= !done) (c:Prop) [Decidable c] (hz:z=true↔¬ c) :
 (if done=true then X else if z=true then Y else Z)=if m=true then (if c then Z else Y) else X:=by
 subst hm
 cases done with
 | true=>rfl
 | false=>
  show (if z=true then Y else Z)=(if c then Z else Y)
  by_cases h:c
  ·rw [if_pos h,if_neg (fun hh=>hz.1 hh h)]
  ·rw [if_neg h,if_pos (hz.2 h)]
theorem akR (B:oz a b T L lo hi W dQ spread) {fl:List Ph} {s2:TL×List Int×Int} {x:Ph} (hxx:fl.getD s2.2.2.toNat default=x) (ok:EW x) (QE:0<=x.2.2.1/\x.2.2.1<L.length) {s:List Int} (H:fZ a b T L s) {made:TL} (hm:made.length<=200) {n:Nat} (hn:(n:Int)<=x.2.2.2.1) :
 Aj a b T L lo hi W dQ spread fl s2 (s,(n:Int),made)=BZ b T L W x x.2.2.1 (IntKind.i64.wrap (s2.2.2+1)) (x.2.2.2.1.toNat - n) n s made:=by
 obtain ⟨k1,k2,k3,_,_⟩:=ok.QV
 have hl0:0<s.length:=by have:=H.len; have:=H.ok.cells; omega
 have h0:inT T (s.getD 0 default)=true:=H.ins _ (getD_mem hl0)
 have hz:((n:Int) == x.2.2.2.1)=true↔¬ 0<x.2.2.2.1.toNat - n:=by rw [beq_iff_eq]; omega
 have hT:=agq B H (p:=x.2.1) (law:=x.2.2.1) ⟨k1,QE⟩ hm (show n<1000 by omega)
 unfold BZ rW
 by_cases e3:x.1=3
 ·have y3:(x.1 == 3)=true:=by rw [e3]; rfl
  have y4:¬ (x.1 == 4)=true:=by rw [e3]; decide
  simp only [Aj,hxx,y3,if_true,if_neg y4]
  rw [if_pos ⟨by omega,by omega⟩,adg H.ok (k3 (.inl e3)) h0,Zh,if_pos e3, <- hT]
  exact refine1 _ _ _ _ _ _ rfl _ hz
 have y3:¬ (x.1 == 3)=true:=by simpa using e3
 by_cases e4:x.1=4
 ·have y4:(x.1 == 4)=true:=by rw [e4]; rfl
  simp only [Aj,hxx,if_neg y3,y4,if_true]
  rw [if_pos ⟨by omega,by omega⟩,Wu H.ok (k3 (.inr e4)) h0,Zh,if_neg e3,if_pos e4, <- hT]
  exact refine1 _ _ _ _ _ _ (by rw [Bool.not_not]) _ hz
 have y4:¬ (x.1 == 4)=true:=by simpa using e4
 simp only [Aj,hxx,if_neg y3,if_neg y4,if_neg e3,if_neg e4]
 rw [<- hT]
 by_cases c:0<x.2.2.2.1.toNat - n
 ·rw [if_neg (fun h=>hz.1 h c),if_neg (fun h=>hz.1 h c),if_pos (decide_eq_true c),if_pos c]
 ·rw [if_pos (hz.2 c),if_neg (by rw [decide_eq_true_eq]; exact c)]
theorem akQ (B:oz a b T L lo hi W dQ spread) {fl:List Ph} {s2:TL×List Int×Int} {x:Ph} (hxx:fl.getD s2.2.2.toNat default=x) (ok:EW x) {s:List Int} (H:fZ a b T L s) {made:TL} (hm:made.length<=200) {n:Nat} (hn:(n:Int)<=x.2.2.2.1) :
 Ai a b T L lo hi W dQ spread fl s2 (s,(n:Int),made)=BZ b T L W x dQ (IntKind.i64.wrap (s2.2.2+1)) (x.2.2.2.1.toNat - n) n s made:=by
 obtain ⟨k1,k2,k3,_,_⟩:=ok.QV
 have hl0:0<s.length:=by have:=H.len; have:=H.ok.cells; omega
 have h0:inT T (s.getD 0 default)=true:=H.ins _ (getD_mem hl0)
 have hz:((n:Int) == x.2.2.2.1)=true↔¬ 0<x.2.2.2.1.toNat - n:=by rw [beq_iff_eq]; omega
 have hT:=agq B H (p:=x.2.1) (law:=dQ) ⟨k1,B.dQ⟩ hm (show n<1000 by omega)
 unfold BZ rW
 by_cases e3:x.1=3
 ·have y3:(x.1 == 3)=true:=by rw [e3]; rfl
  have y4:¬ (x.1 == 4)=true:=by rw [e3]; decide
  simp only [Ai,hxx,y3,if_true,if_neg y4]
  rw [if_pos ⟨by omega,by omega⟩,adg H.ok (k3 (.inl e3)) h0,Zh,if_pos e3, <- hT]
  exact refine1 _ _ _ _ _ _ rfl _ hz
 have y3:¬ (x.1 == 3)=true:=by simpa using e3
 by_cases e4:x.1=4
 ·have y4:(x.1 == 4)=true:=by rw [e4]; rfl
  simp only [Ai,hxx,if_neg y3,y4,if_true]
  rw [if_pos ⟨by omega,by omega⟩,Wu H.ok (k3 (.inr e4)) h0,Zh,if_neg e3,if_pos e4, <- hT]
  exact refine1 _ _ _ _ _ _ (by rw [Bool.not_not]) _ hz
 have y4:¬ (x.1 == 4)=true:=by simpa using e4
 simp only [Ai,hxx,if_neg y3,if_neg y4,if_neg e3,if_neg e4]
 rw [<- hT]
 by_cases c:0<x.2.2.2.1.toNat - n
 ·rw [if_neg (fun h=>hz.1 h c),if_neg (fun h=>hz.1 h c),if_pos (decide_eq_true c),if_pos c]
 ·rw [if_pos (hz.2 c),if_neg (by rw [decide_eq_true_eq]; exact c)]
def afK (i:Int) (y:Int×List Int×TL):cO (TL×List Int×Int) (TL×Int):=if y.1=0 then .next (y.2.2,y.2.1,i) else .out (some ([],y.1))
theorem Dl {x:Ph} {law i:Int} {Bd:List Int×Int×TL->cO (List Int×Int×TL) (cO (TL×List Int×Int) (TL×Int))} {N:Nat} (hN:N<1000)
 (hB:∀ (n:Nat) s made,fZ a b T L s->made.length<=200->n<=N->Bd (s,(n:Int),made)=BZ b T L W x law i (N - n) n s made) {s:List Int} (H:fZ a b T L s) {made:TL} (hm:made.length<=200) :
 aS Bd 1000000000 (s,0,made)=some (afK i (AQ b T L W x law N s made)):=by
 refine eX Bd (fun m u=>u.2.1=(m:Int)/\fZ a b T L u.1/\u.2.2.length<=200/\AQ b T L W x law (N - m) u.1 u.2.2=AQ b T L W x law N s made) (fun o=>o=some (afK i (AQ b T L W x law N s made))) N ?_ ?_ _ ⟨rfl,H,hm,by rw [Nat.sub_zero]⟩ _ (by omega)
 ·rintro m ⟨s,_,made⟩ hm ⟨rfl,H,hml,he⟩
  simp only at H hml he
  obtain ⟨f,hf⟩:∃ f,N - m=f+1:=⟨N - m - 1,by omega⟩
  rw [hB m s made H hml (by omega), <- he,hf]
  unfold BZ
  rw [AQ]
  by_cases c:rW T x.1 x.2.2.2.2.1 (f+1) (s.getD 0 default)=true
  ·rw [if_pos c,if_pos c,if_pos (by omega)]
   by_cases c8:made.length=200
   ·rw [if_pos c8,if_pos c8]; exact .inr ⟨_,rfl,rfl⟩
   rw [if_neg c8,if_neg c8]
   by_cases ho:(iI b T (L.getD law.toNat default) s (nO W x.2.1)).all (inT T)=true
   ·rw [if_pos ho,if_pos ho]
    refine .inl ⟨_,rfl,rfl,H.next ho,by simp; omega,?_⟩
    rw [show N - (m+1)=f by omega]
   ·rw [if_neg ho,if_neg ho]; exact .inr ⟨_,rfl,rfl⟩
  ·rw [if_neg c,if_neg c]; exact .inr ⟨_,rfl,rfl⟩
 ·rintro ⟨s,_,made⟩ ⟨rfl,H,hml,he⟩
  simp only at H hml he
  rw [Nat.sub_self] at he
  rw [hB N s made H hml (Nat.le_refl _), <- he,Nat.sub_self]
  unfold BZ
  rw [AQ]
  by_cases c:rW T x.1 x.2.2.2.2.1 0 (s.getD 0 default)=true
  ·rw [if_pos c,if_pos c,if_neg (by omega)]; exact ⟨_,rfl,rfl⟩
  ·rw [if_neg c,if_neg c]; exact ⟨_,rfl,rfl⟩
theorem aht (x:Ph):r44 x.1 x.2.1 x.2.2.1 x.2.2.2.1 x.2.2.2.2.1 x.2.2.2.2.2=some (jO x.1):=rfl
theorem afR (B:oz a b T L lo hi W dQ spread) {fl:List Ph} (hl:fl.length<=60) (ok:∀ x∈fl,EW x) (QE:∀ x∈fl,0<=x.2.2.1/\x.2.2.1<L.length) :
 aS (Io a b T L lo hi W dQ spread fl) 1000000000 ([],lo,0)=some (KU b T L W dQ fl lo []):=by
 refine eX _ (fun i u=>u.2.2=(i:Int)/\fZ a b T L u.2.1/\u.1.length<=200/\KU b T L W dQ (fl.drop i) u.2.1 u.1=KU b T L W dQ fl lo []) (fun o=>o=some (KU b T L W dQ fl lo [])) fl.length ?_ ?_ _ ⟨rfl,B.box.lo,by simp,rfl⟩ _ (by omega)
 ·rintro i ⟨made,s,_⟩ hi' ⟨rfl,H,hml,he⟩
  simp only at H hml he
  have hx:=ok _ (getD_mem hi')
  have hxl:=QE _ (getD_mem hi')
  obtain ⟨k1,k2,_⟩:=hx.QV
  have hd:fl.drop i=fl.getD i default::fl.drop (i+1):=by
   rw [List.drop_eq_getElem_cons hi',List.getD_eq_getElem?_getD,List.getElem?_eq_getElem hi']; rfl
  have key:(if jO (fl.getD i default).1=true then (aS (Aj a b T L lo hi W dQ spread fl (made,s,(i:Int))) 1000000000 (s,0,made)).getD (.out none)
   else (aS (Ai a b T L lo hi W dQ spread fl (made,s,(i:Int))) 1000000000 (s,0,made)).getD (.out none))=
   afK (((i+1:Nat):Int)) (AQ b T L W (fl.getD i default) (qh dQ (fl.getD i default)) (fl.getD i default).2.2.2.1.toNat s made):=by
   have hw:IntKind.i64.wrap ((i:Int)+1)=((i+1:Nat):Int):=by rw [wS i (by omega)]; rfl
   unfold qh
   by_cases hc:jO (fl.getD i default).1=true
   ·rw [if_pos hc,if_pos hc,Dl (a:=a) (x:=fl.getD i default) (law:=(fl.getD i default).2.2.1) (i:=((i+1:Nat):Int)) (N:=(fl.getD i default).2.2.2.1.toNat) (by omega) (fun n s' made' H' hm' hn'=>by
     rw [akR B (by rw [Int.toNat_natCast]) hx hxl H' hm' (by omega),hw]) H hml]; rfl
   ·rw [if_neg hc,if_neg hc,Dl (a:=a) (x:=fl.getD i default) (law:=dQ) (i:=((i+1:Nat):Int)) (N:=(fl.getD i default).2.2.2.1.toNat) (by omega) (fun n s' made' H' hm' hn'=>by
     rw [akQ B (by rw [Int.toNat_natCast]) hx H' hm' (by omega),hw]) H hml]; rfl
  simp only [Io,lS hi',if_true,if_pos (jJ hi'),Int.toNat_natCast,aht,Zh]
  rw [key]
  rw [hd,KU] at he
  obtain ⟨p1,p2⟩:=Jk (W:=W) (x:=fl.getD i default) (law:=qh dQ (fl.getD i default)) (fl.getD i default).2.2.2.1.toNat s made H hml
  unfold afK
  by_cases h0:(AQ b T L W (fl.getD i default) (qh dQ (fl.getD i default)) (fl.getD i default).2.2.2.1.toNat s made).1=0
  ·rw [if_pos h0] at he ⊢
   exact .inl ⟨_,rfl,rfl,p1,p2,he⟩
  ·rw [if_neg h0] at he ⊢
   exact .inr ⟨_,rfl,by rw [he]⟩
 ·rintro ⟨made,s,_⟩ ⟨rfl,H,hml,he⟩
  simp only at H hml he
  rw [List.drop_length,KU] at he
  simp only [Io,y8,Bool.false_eq_true,if_false]
  exact ⟨_,rfl,by rw [he]⟩
theorem YM (B:oz a b T L lo hi W dQ spread) {l:List Ph} (hr:(oH l).2=0) (hd:KT l<7):r19 a b T L lo hi W dQ spread l=some (yB b T L lo W dQ l):=by
 obtain ⟨f1,f2,f3,f4,f5,f6⟩:=B.few
 obtain ⟨q1,q2,q3,_⟩:=PU hr
 have hok:=WC q2
 have hL1:=B.dQ
 unfold r19 yB
 rw [abL 7 0 l hd q2 q1.2 q3,Option.bind_some,if_pos hr]
 refine eX (Ip a b T L lo hi W dQ spread (fE l)) (fun i s=>s=(i:Int)/\∀ j,j<i->dW ((fE l).getD j default).2.2.1 0 ((L.length:Int) - 1)=true) (fun o=>o=some (if sZ L.length (fE l)=true then KU b T L W dQ (fE l) lo [] else ([],6))) (fE l).length ?_ ?_ _ ⟨rfl,fun j hj=>absurd hj (by omega)⟩ _ (by omega)
 ·rintro i _ hi' ⟨rfl,hall⟩
  have hx:=hok _ (getD_mem hi')
  simp only [Ip,lS hi',if_true,if_pos (jJ hi'),Int.toNat_natCast,aht,Zh,aha _ _ _ _ _ _ _ _ _ _ f2,Option.getD_some,wS i (by omega)]
  rw [if_pos (show jO ((fE l).getD i default).1=true->0<=(i:Int)/\(i:Int)<((fE l).length:Int) from fun _=>jJ hi'),if_pos (show jO ((fE l).getD i default).1=true->(some (dW ((fE l).getD i default).2.2.1 0 ((L.length:Int) - 1))).isSome=true from fun _=>rfl)]
  by_cases hc:jO ((fE l).getD i default).1=true
  ·rw [hc,Bool.true_and]
   by_cases hi2:dW ((fE l).getD i default).2.2.1 0 ((L.length:Int) - 1)=true
   ·rw [hi2,if_neg (by decide)]
    refine .inl ⟨_,rfl,rfl,fun j hj=> ?_⟩
    by_cases hji:j=i
    ·subst hji; exact hi2
    ·exact hall j (by omega)
   ·have hf:sZ L.length (fE l)=false:=by
     cases hb:sZ L.length (fE l) with
     | false=>rfl
     | true=>exact absurd (List.all_eq_true.1 hb _ (getD_mem hi')) hi2
    rw [if_pos (by simpa using hi2),hf]
    exact .inr ⟨_,rfl,rfl⟩
  ·have hc':jO ((fE l).getD i default).1=false:=by simpa using hc
   rw [hc',Bool.false_and,if_neg (by decide)]
   have hlz:((fE l).getD i default).2.2.1=0:=by
    obtain ⟨_,_,_,h4,_⟩:=hx.QV
    have h24:¬ (((fE l).getD i default).1=2\/((fE l).getD i default).1=4):=fun h=>hc (by simpa [jO] using h)
    exact h4 (fun h=>h24 (.inl h)) (fun h=>h24 (.inr h))
   refine .inl ⟨_,rfl,rfl,fun j hj=> ?_⟩
   by_cases hji:j=i
   ·subst hji; rw [hlz]; exact iR.2 ⟨by omega,by omega⟩
   ·exact hall j (by omega)
 ·rintro _ ⟨rfl,hall⟩
  simp only [Ip,y8,Bool.false_eq_true,if_false]
  refine ⟨_,rfl,?_⟩
  have hb:sZ L.length (fE l)=true:=List.all_eq_true.2 (fun x hx=>by
   obtain ⟨j,hj,rfl⟩:=nS hx
   exact hall j hj)
  rw [if_pos hb]
  exact afR B q3 hok (fun x hx=>by
   have:=iR.1 (List.all_eq_true.1 hb x hx)
   omega)
end
theorem ah' {t:TL} (h:t.length<=400):r20 t t=some true:=by
 unfold r20
 rw [if_neg (by simp)]
 refine eX (Il t t) (fun i s=>s=(i:Int)) (fun o=>o=some true) t.length ?_ ?_ _ rfl _ (by omega)
 ·rintro i _ hi rfl
  refine .inl ⟨((i+1:Nat):Int),?_,rfl⟩
  simp only [Il,lS hi,if_true,if_pos (jJ hi),Int.toNat_natCast,wS i (by omega),beq_self_eq_true,Bool.and_self,Bool.not_true,Bool.false_eq_true,if_false]; rfl
 ·rintro _ rfl
  exact ⟨_,by simp only [Il,y8,Bool.false_eq_true,if_false],rfl⟩
theorem YO {a b:Int} {T:TL} {L:List TL} {lo:List Int} (W:TL) (dQ:Int) (H:fZ a b T L lo) (l:List Ph):(yB b T L lo W dQ l).1.length<=200:=by
 unfold yB
 split
 ·split
  ·exact afQ H (by simp)
  ·simp
 ·simp
theorem nK (a b:Int) (T:TL) (L:List TL) (lo hi:List Int) (W:TL) (dQ spread:Int) (l:List Ph):r4 a b T L lo hi W dQ spread l=some true:=by
 obtain ⟨v2,h14,hf⟩:=light a b T L lo hi W dQ spread
 obtain ⟨w,h7,hs⟩:=ah8 l
 unfold r4
 rw [akU,Option.bind_some,if_neg (by decide),h14,Option.bind_some,h7,if_pos (show (!(!v2))=true->(some w).isSome=true from fun _=>rfl)]
 simp only [Option.getD_some]
 cases v2 with
 | false=>rfl
 | true=>
 cases w with
 | false=>rfl
 | true=>
  obtain ⟨g1,g2,g3,g4,g5,g6,g7⟩:=hf rfl
  obtain ⟨s1,s2⟩:=hs rfl
  have hl:=IX s1
  have hn:L.length<1000:=by omega
  have h17:r17 a b T L lo hi W dQ spread=some (zy a b T L lo hi W dQ spread).2:=by
   unfold r17; rw [aCf a b T L lo hi W dQ spread hn g7 (by omega) (by omega) (by omega)]; rfl
  rw [if_neg (by decide),auT a b T L lo hi W dQ spread (by omega) hn g7 (by omega) (by omega) (by omega),Option.bind_some,ahs 7 l s2 (ZJ (by decide) s1),Option.bind_some]
  simp only
  rw [YN (by omega) hn g7 (by omega) (by omega) (by omega) (by omega),Option.bind_some,h17,Option.bind_some]
  by_cases hb:(zy a b T L lo hi W dQ spread).2=0
  rotate_left
  ·rw [if_neg hb,if_neg (by simpa using hb),if_pos (by simpa using hb)]
   simp
  have B:=acR hb
  have h18:r18 l=some (oH l).2:=by unfold r18; rw [akL (by omega)]; rfl
  rw [if_pos hb,if_pos (by simpa using hb),h18,Option.bind_some]
  by_cases hr:(oH l).2=0
  rotate_left
  ·have e:yB b T L lo W dQ l=([],(oH l).2):=by unfold yB; rw [if_neg hr]
   rw [if_pos (by simpa using hr),e]
   simp
  have hsm:=ah' (t:=(yB b T L lo W dQ l).1) (by have:=YO W dQ B.box.lo l; omega)
  rw [if_neg (by simpa using hr),YM B hr s2,Option.bind_some,hsm]
  simp
end Go.Proofs.YtkbdjphdhcgmaaaGreatDoor

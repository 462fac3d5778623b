/- Recipes: few, copied, the same; errors, counts and flattened phases by the reference. -/
import Derived.Test.YtkbdjphdhcgmaaaGreatDoorF12
import Derived.Test.YtkbdjphdhcgmaaaGreatDoorRecA
import Derived.Test.YtkbdjphdhcgmaaaGreatDoorF09
import Derived.Test.YtkbdjphdhcgmaaaGreatDoorRcpA
import Derived.Test.YtkbdjphdhcgmaaaGreatDoorF31
import Derived.Test.YtkbdjphdhcgmaaaGreatDoorHeatX
set_option linter.unusedVariables false
set_option linter.unusedSimpArgs false
namespace Go.Proofs.YtkbdjphdhcgmaaaGreatDoor
open Go.dR
theorem bC0 {α σ ρ:Type} (v:α) (f:α->cO σ ρ):aP (some v) f=f v:=rfl
theorem ajR:∀ (n:Nat) (d:Int) (l:List Ph),0<=d->d<=6->7<=n+d->∃ v,r35 n l d=some v/\(v=true->d<=5/\shL 14 l=true/\(dpL l:Int)<=5 - d)
 | 0,d,l,h0,h6,h7=>by omega
 | n+1,d,l,h0,h6,h7=>by
  show ∃ v,q35 n (r35 n) l d=some v/\_
  unfold q35
  by_cases c:((decide ((l.length:Int)>14)) || (decide (d>5)))=true
  ·rw [if_pos c]; exact ⟨false,rfl,fun h=>by cases h⟩
  rw [if_neg c]
  simp only [Bool.or_eq_true,decide_eq_true_eq,not_or] at c
  have hw:IntKind.i64.wrap (d+1)=d+1:=IntWalk.i64_in _ ⟨by omega,by omega⟩
  refine eX (Iu (r35 n) l d) (fun i s=>s=(i:Int)/\∀ j,j<i->d+1<=5/\shL 14 (hU (l.getD j default).2.2.2.2.2)=true/\(dpL (hU (l.getD j default).2.2.2.2.2):Int)<=5 - (d+1)) (fun o=>∃ v,o=some v/\(v=true->d<=5/\shL 14 l=true/\(dpL l:Int)<=5 - d)) l.length ?_ ?_ _ ⟨rfl,fun j hj=>absurd hj (by omega)⟩ _ (by omega)
  ·rintro i _ hi ⟨rfl,hall⟩
   obtain ⟨v,hv,hv2⟩:=ajR n (d+1) (hU (l.getD i default).2.2.2.2.2) (by omega) (by omega) (by omega)
   simp only [Iu,lS hi,if_true,if_pos (jJ hi),Int.toNat_natCast,wS i (by omega),hw,hv,bC0]
   cases v with
   | false=>rw [if_pos (by rfl)]; exact .inr ⟨_,rfl,false,rfl,fun h=>by cases h⟩
   | true=>
    rw [if_neg (by decide)]
    refine .inl ⟨_,rfl,rfl,fun j hj=> ?_⟩
    by_cases hji:j=i
    ·subst hji; exact hv2 rfl
    ·exact hall j (by omega)
  ·rintro _ ⟨rfl,hall⟩
   simp only [Iu,y8,Bool.false_eq_true,if_false]
   refine ⟨_,rfl,true,rfl,fun _=>⟨by omega,KL (by omega) (fun x hx=> ?_),?_⟩⟩
   ·obtain ⟨j,hj,rfl⟩:=pW hx
    exact (hall j hj).2.1
   ·have:=OM (n:=(5 - d).toNat) (l:=l) (fun x hx=>by
     obtain ⟨j,hj,rfl⟩:=pW hx
     have:=(hall j hj).2.2
     omega)
    omega
theorem akQ:∀ (n:Nat) (l:List Ph),dpL l<n->shL 14 l=true->∃ v,r36 n l=some v
 | 0,l,h,_=>absurd h (by omega)
 | n+1,l,h,hs=>by
  have hl:=Bo hs
  show ∃ v,q36 n (r36 n) l=some v
  unfold q36
  refine eX (Ir (r36 n) l) (fun i s=>s.2=(i:Int)) (fun o=>∃ v,o=some v) l.length ?_ ?_ _ rfl _ (by omega)
  ·rintro i ⟨s,_⟩ hi rfl
   have hx:=getD_mem hi
   obtain ⟨v,hv⟩:=akQ n (hU (l.getD i default).2.2.2.2.2) (by have:=yJ hx; omega) (KP hs hx)
   simp only [Ir,lS hi,Bool.true_and,if_pos (jJ hi),Int.toNat_natCast,hv,bC0,wS i (by omega)]
   by_cases c:decide (s<=100)=true
   ·rw [if_pos c]; exact .inl ⟨_,rfl,rfl⟩
   ·rw [if_neg c]; exact .inr ⟨_,rfl,_,rfl⟩
  ·rintro ⟨s,_⟩ rfl
   simp only [Ir,y8,Bool.false_and,Bool.false_eq_true,if_false]
   exact ⟨_,rfl,_,rfl⟩
theorem PU:∀ (n:Nat) (l:List Ph),dpL l<n->shL 60 l=true->r9 n l=some l
 | 0,l,h,_=>absurd h (by omega)
 | n+1,l,h,hs=>by
  have hl:=Bo hs
  show q9 n (r9 n) l=some l
  unfold q9
  refine eX (aax (r9 n) l) (fun i s=>s=(l.take i,(i:Int))) (fun o=>o=some l) l.length ?_ ?_ _ (by simp) _ (by omega)
  ·rintro i _ hi rfl
   have hx:=getD_mem hi
   have hv:=PU n (hU (l.getD i default).2.2.2.2.2) (by have:=yJ hx; omega) (KP hs hx)
   have hlen:(l.take i).length=i:=by rw [List.length_take]; omega
   refine .inl ⟨(l.take (i+1),((i+1:Nat):Int)),?_,rfl⟩
   simp only [aax,lS hi,if_true,if_pos (jJ hi),Int.toNat_natCast,hv,bC0,wS i (by omega),hlen,xY]
   rw [if_pos ⟨by omega,by omega⟩,List.take_add_one,List.getElem?_eq_getElem hi,List.getD_eq_getElem?_getD,List.getElem?_eq_getElem hi]
   rfl
  ·rintro _ rfl
   simp only [aax,y8,Bool.false_eq_true,if_false,List.take_length]
   exact ⟨_,rfl,rfl⟩
theorem ofR (k:Int):r97 k=some (Jk k,J8 k,Jj k,k == 5):=by
 unfold r97 Jk J8 Jj
 by_cases h0:k=0
 ·subst h0; rfl
 by_cases h2:k=2
 ·subst h2; rfl
 by_cases h3:k=3
 ·subst h3; rfl
 by_cases h4:k=4
 ·subst h4; rfl
 by_cases h5:k=5
 ·subst h5; rfl
 have e0:(k == 0)=false:=by simpa using h0
 have e2:(k == 2)=false:=by simpa using h2
 have e3:(k == 3)=false:=by simpa using h3
 have e4:(k == 4)=false:=by simpa using h4
 have e5:(k == 5)=false:=by simpa using h5
 rw [e0,e2,e3,e4,e5]; rfl
theorem gt0 (b:Hl):decide (((hU b).length:Int)>0)= !(hN b == 0):=by
 have h:=BR b
 rw [<- h]
 by_cases c:((hU b).length:Int)=0
 ·rw [c]; rfl
 ·have h1:(((hU b).length:Int) == 0)=false:=by simpa using c
  rw [h1,decide_eq_true (by omega)]; rfl
theorem ahs (uP uL uQ u5:Bool) (p l q:Int) (em:Bool):(((((!uP) && (p != 0)) || ((!uL) && (l != 0))) || ((!uQ) && (q != 0))) || ((!u5) && (!em)))= !((uP || p == 0) && (uL || l == 0) && (uQ || q == 0) && (u5 || em)):=by
 simp only [bne]
 generalize (p == 0)=x; generalize (l == 0)=y; generalize (q == 0)=z
 revert uP uL uQ u5 em x y z; decide
theorem acf (uP uL uQ x y z w:Bool):((((uP && (!x)) || (uL && (!y))) || (!z)) || (uQ && (!w)))= !((!uP || x) && (!uL || y) && z && (!uQ || w)):=by
 revert uP uL uQ x y z w; decide
def lsR (d:Int) (l:List Ph):Int×Int:=if l.length=0 then (0,10) else if 12<l.length then (0,8) else erI d 0 l
theorem ZM (k:Int):r98 k=some (dW k 200 3000):=by unfold r98; rw [p59]; rfl
theorem ado:∀ (n:Nat) (d:Int),0<=d->d<=3->4<=n+d->∀ l:List Ph,r42 n l d=some (lsR d l)
 | 0,d,h0,h3,h4,_=>by omega
 | n+1,d,h0,h3,h4,l=>by
  show q42 n (r42 n) l d=_
  unfold q42 lsR
  by_cases c0:l.length=0
  ·rw [if_pos c0,if_pos (by rw [c0]; rfl)]
  rw [if_neg c0,if_neg (by simp; intro h; exact c0 (by rw [h]; rfl))]
  by_cases c12:12<l.length
  ·rw [if_pos c12,if_pos (decide_eq_true (by omega))]
  rw [if_neg c12,if_neg (by rw [decide_eq_true_eq]; omega)]
  have hw:IntKind.i64.wrap (d+1)=d+1:=IntWalk.i64_in _ ⟨by omega,by omega⟩
  have h:=kR (τ:=Unit) l (Ip (r42 n) l d) (fun i _=>i) (fun i _ x=>if phE d x=0 then .next () else .out (some (i,phE d x))) (fun _=>some (0,0)) (by omega)
   (fun i t hi=>by
    simp only [Ip,lS hi,if_true,if_pos (jJ hi),Int.toNat_natCast,wS i (by omega),p59,bC0,ofR,gt0,hw,ZM,Option.isSome_some,implies_true,Option.getD_some,ahs,acf]
    generalize l.getD i default=x
    by_cases hk:dW x.1 0 5=true
    rotate_left
    ·have e:lU x.1 x.2.1 x.2.2.1 x.2.2.2.1 x.2.2.2.2.1 (hN x.2.2.2.2.2 == 0)=15:=by unfold lU; rw [if_neg hk]
     have e2:phE d x=15:=by unfold phE; rw [e,if_neg (by decide)]
     rw [if_pos (by simpa using hk),e2]; rfl
    rw [hk,if_neg (by decide)]
    by_cases hc:jm x.1 x.2.1 x.2.2.1 x.2.2.2.2.1 (hN x.2.2.2.2.2 == 0)=true
    rotate_left
    ·have e:lU x.1 x.2.1 x.2.2.1 x.2.2.2.1 x.2.2.2.2.1 (hN x.2.2.2.2.2 == 0)=3:=by unfold lU; rw [if_pos hk,if_neg hc]
     have e2:phE d x=3:=by unfold phE; rw [e,if_neg (by decide)]
     have hc':jm x.1 x.2.1 x.2.2.1 x.2.2.2.2.1 (hN x.2.2.2.2.2 == 0)=false:=by simpa using hc
     unfold jm at hc'
     rw [if_pos (by rw [hc']; rfl),e2]; rfl
    have hc':=hc
    unfold jm at hc'
    rw [if_neg (by rw [hc']; decide)]
    by_cases k5:x.1=5
    ·have b5:(x.1 == 5)=true:=by simpa using k5
     simp only [b5,if_true,Bool.not_true,Bool.false_eq_true,if_false]
     by_cases hr:iQ x.1 x.2.1 x.2.2.1 x.2.2.2.1 x.2.2.2.2.1=true
     rotate_left
     ·have e:lU x.1 x.2.1 x.2.2.1 x.2.2.2.1 x.2.2.2.2.1 (hN x.2.2.2.2.2 == 0)=2:=by unfold lU; rw [if_pos hk,if_pos hc,if_neg hr]
      have e2:phE d x=2:=by unfold phE; rw [e,if_neg (by decide)]
      have hr':iQ x.1 x.2.1 x.2.2.1 x.2.2.2.1 x.2.2.2.2.1=false:=by simpa using hr
      unfold iQ at hr'
      rw [if_pos k5] at hr'
      rw [if_pos (by rw [hr']; rfl),e2]; rfl
     have e:lU x.1 x.2.1 x.2.2.1 x.2.2.2.1 x.2.2.2.2.1 (hN x.2.2.2.2.2 == 0)=0:=by unfold lU; rw [if_pos hk,if_pos hc,if_pos hr]
     have e2:phE d x=Aj d (hN x.2.2.2.2.2) (lsE x.2.2.2.2.2 (d+1)):=by unfold phE; rw [e,if_pos rfl,if_pos k5]
     have hr':=hr
     unfold iQ at hr'
     rw [if_pos k5] at hr'
     rw [if_neg (by rw [hr']; decide),e2]
     unfold Aj
     by_cases d3:d=3
     ·rw [if_pos d3,if_pos (decide_eq_true (by omega))]; rfl
     rw [if_neg d3,if_neg (by rw [decide_eq_true_eq]; omega),ado n (d+1) (by omega) (by omega) (by omega) (hU x.2.2.2.2.2),bC0]
     have hbl:=uY x.2.2.2.2.2
     have e3:(lsR (d+1) (hU x.2.2.2.2.2)).2=if hN x.2.2.2.2.2=0 then 10 else if 12<hN x.2.2.2.2.2 then 8 else lsE x.2.2.2.2.2 (d+1):=by
      unfold lsR
      rw [hbl]
      by_cases n0:hN x.2.2.2.2.2=0
      ·rw [if_pos n0,if_pos n0]
      rw [if_neg n0,if_neg n0]
      by_cases n12:12<hN x.2.2.2.2.2
      ·rw [if_pos n12,if_pos n12]
      rw [if_neg n12,if_neg n12]; exact yB _ _ _
     rw [e3]
     generalize (if hN x.2.2.2.2.2=0 then (10:Int) else if 12<hN x.2.2.2.2.2 then 8 else lsE x.2.2.2.2.2 (d+1))=e9
     by_cases e0:e9=0
     ·rw [if_neg (by simpa using e0),if_pos e0]; rfl
     ·rw [if_pos (by simpa using e0),if_neg e0]; rfl
    ·have b5:(x.1 == 5)=false:=by simpa using k5
     simp only [b5,Bool.false_eq_true,if_false,Bool.not_false,if_true]
     by_cases hr:iQ x.1 x.2.1 x.2.2.1 x.2.2.2.1 x.2.2.2.2.1=true
     rotate_left
     ·have e:lU x.1 x.2.1 x.2.2.1 x.2.2.2.1 x.2.2.2.2.1 (hN x.2.2.2.2.2 == 0)=2:=by unfold lU; rw [if_pos hk,if_pos hc,if_neg hr]
      have e2:phE d x=2:=by unfold phE; rw [e,if_neg (by decide)]
      have hr':iQ x.1 x.2.1 x.2.2.1 x.2.2.2.1 x.2.2.2.2.1=false:=by simpa using hr
      unfold iQ at hr'
      rw [if_neg k5] at hr'
      rw [if_pos (by rw [hr']; rfl),e2]; rfl
     have e:lU x.1 x.2.1 x.2.2.1 x.2.2.2.1 x.2.2.2.2.1 (hN x.2.2.2.2.2 == 0)=0:=by unfold lU; rw [if_pos hk,if_pos hc,if_pos hr]
     have e2:phE d x=0:=by unfold phE; rw [e,if_pos rfl,if_neg k5]
     have hr':=hr
     unfold iQ at hr'
     rw [if_neg k5] at hr'
     rw [if_neg (by rw [hr']; decide),e2]; rfl)
   (fun t=>by simp only [Ip,y8,Bool.false_eq_true,if_false]) ()
  rw [h]
  refine (qh d (some (0,0)) l 0).trans ?_
  by_cases c:(erI d 0 l).2=0
  ·rw [if_pos c]
   have:∀ (r:List Ph) (i:Int),(erI d i r).2=0->erI d i r=(0,0):=by
    intro r
    induction r with
    | nil=>intro i _; rfl
    | cons y r ih=>
     intro i hy
     rw [erI] at hy ⊢
     by_cases cy:phE d y=0
     ·rw [if_pos cy] at hy ⊢; exact ih _ hy
     ·rw [if_neg cy] at hy; exact absurd hy cy
   rw [this l 0 c]
  ·rw [if_neg c]
theorem Bj (n:Nat) (blk:List Ph):((List.replicate n blk).flatten).length=n*blk.length:=by
 induction n with
 | zero=>simp
 | succ n ih=>rw [List.replicate_succ,List.flatten_cons,List.length_append,ih,Nat.succ_mul]; omega
theorem ET (l:List Ph) {i:Nat} (hi:i<l.length):flL (l.take (i+1))=flL (l.take i)++phF (l.getD i default):=by
 unfold flL
 rw [List.take_add_one,List.getElem?_eq_getElem hi,List.flatMap_append,List.getD_eq_getElem?_getD,List.getElem?_eq_getElem hi]; simp
theorem adx (l:List Ph) (i:Nat):(flL (l.take i)).length<=(flL l).length:=by
 have e:flL l=flL (l.take i)++flL (l.drop i):=by unfold flL; rw [<- List.flatMap_append,List.take_append_drop]
 have h:=congrArg List.length e
 rw [List.length_append] at h; omega
theorem Ls {d:Int} {x:Ph} (h:phE d x=0) (h5:x.1=5):(phF x).length=x.2.2.2.1.toNat*(flL (hU x.2.2.2.2.2)).length:=by
 unfold phF; rw [if_pos h5,Bj,lK]; rfl
theorem ajS:∀ (n:Nat) (d:Int) (l:List Ph),dpL l<n->(∀ x∈l,phE d x=0)->l.length<=12->r43 n l=some ((min (flL l).length 61:Nat):Int)
 | 0,d,l,h,_,_=>absurd h (by omega)
 | n+1,d,l,h,ok,hl=>by
  show q43 n (r43 n) l=_
  unfold q43
  refine eX (BZ (r43 n) l) (fun i s=>s=(((min (flL (l.take i)).length 61:Nat):Int),(i:Int))) (fun o=>o=some ((min (flL l).length 61:Nat):Int)) l.length ?_ ?_ _ (by simp [flL]) _ (by omega)
  ·rintro i _ hi rfl
   have hx:=ok _ (getD_mem hi)
   refine .inl ⟨_,?_,rfl⟩
   rw [ET l hi,List.length_append]
   by_cases k5:(l.getD i default).1=5
   ·obtain ⟨_,k2,k3,k4⟩:=mO hx k5
    have hv:=ajS n (d+1) (hU (l.getD i default).2.2.2.2.2) (by have:=yJ (getD_mem hi); omega) (qg k2) (by rw [uY]; exact k3.2)
    have hpl:=Ls hx k5
    simp only [BZ,lS hi,if_true,if_pos (jJ hi),Int.toNat_natCast,hv,bC0,wS i (by omega),if_pos (show ((l.getD i default).1 == 5)=true by simpa using k5)]
    rw [hpl]
    generalize hA:(flL (l.take i)).length=A
    generalize hC:(flL (hU (l.getD i default).2.2.2.2.2)).length=C
    generalize ht:(l.getD i default).2.2.2.1=t at k4
    obtain ⟨m,hm⟩:∃ m:Nat,t=(m:Int):=⟨t.toNat,by omega⟩
    subst hm
    have h1:C<=m*C:=Nat.le_mul_of_pos_left C (by omega)
    have h2:m*(min C 61)<=10*61:=Nat.mul_le_mul (by omega) (by omega)
    have h3:min (min A 61+m*min C 61) 61=min (A+m*C) 61:=by
     by_cases c:C<=61
     ·rw [Nat.min_eq_left c]; omega
     ·rw [Nat.min_eq_right (by omega:61<=C)]; omega
    have e1:((m:Int)*((min C 61:Nat):Int))=((m*min C 61:Nat):Int):=by rw [Int.natCast_mul]
    rw [e1,Int.toNat_natCast, <- h3,IntWalk.i64_in ((m*min C 61:Nat):Int) ⟨by omega,by omega⟩,IntWalk.i64_in _ ⟨by omega,by omega⟩]
    have e2:(if 61<((min A 61:Nat):Int)+((m*min C 61:Nat):Int) then (61:Int) else ((min A 61:Nat):Int)+((m*min C 61:Nat):Int))=((min (min A 61+m*min C 61) 61:Nat):Int):=by
     generalize m*min C 61=z
     split<;>omega
    rw [e2]; rfl
   ·have hf:phF (l.getD i default)=[l.getD i default]:=if_neg k5
    simp only [BZ,lS hi,if_true,if_pos (jJ hi),Int.toNat_natCast,wS i (by omega),if_neg (show ¬ (((l.getD i default).1 == 5)=true) by simpa using k5)]
    rw [hf,List.length_singleton]
    generalize (flL (l.take i)).length=A
    rw [IntWalk.i64_in _ ⟨by omega,by omega⟩]
    have e2:(if 61<((min A 61:Nat):Int)+1 then (61:Int) else ((min A 61:Nat):Int)+1)=((min (A+1) 61:Nat):Int):=by split<;>omega
    rw [e2]; rfl
  ·rintro _ rfl
   simp only [BZ,y8,Bool.false_eq_true,if_false,List.take_length]
   exact ⟨_,rfl,rfl⟩
theorem adu:∀ (n:Nat) (d:Int) (l:List Ph),dpL l<n->(∀ x∈l,phE d x=0)->l.length<=12->(flL l).length<=60->r13 n l=some (flL l)
 | 0,d,l,h,_,_,_=>absurd h (by omega)
 | n+1,d,l,h,ok,hl,hs=>by
  show q13 n (r13 n) l=_
  unfold q13
  refine eX (Cb (r13 n) l) (fun i s=>s=(flL (l.take i),(i:Int))) (fun o=>o=some (flL l)) l.length ?_ ?_ _ (by simp [flL]) _ (by omega)
  ·rintro i _ hi rfl
   have hx:=ok _ (getD_mem hi)
   have hp:=adx l (i+1)
   have ht:=ET l hi
   have hlt:=congrArg List.length ht
   rw [List.length_append] at hlt
   refine .inl ⟨_,?_,rfl⟩
   by_cases k5:(l.getD i default).1=5
   ·obtain ⟨_,k2,k3,k4⟩:=mO hx k5
    have hpl:=Ls hx k5
    have hC:(flL (hU (l.getD i default).2.2.2.2.2)).length<=(phF (l.getD i default)).length:=by rw [hpl]; exact Nat.le_mul_of_pos_left _ (by omega)
    have hv:=adu n (d+1) (hU (l.getD i default).2.2.2.2.2) (by have:=yJ (getD_mem hi); omega) (qg k2) (by rw [uY]; exact k3.2) (by omega)
    have hf:phF (l.getD i default)=(List.replicate (l.getD i default).2.2.2.1.toNat (flL (hU (l.getD i default).2.2.2.2.2))).flatten:=by
     unfold phF; rw [if_pos k5,lK]; rfl
    have hin:aS (IZ l (flL (l.take i),(i:Int)) (flL (hU (l.getD i default).2.2.2.2.2))) 1000000000 (0,flL (l.take i))=some (cO.next (flL (l.take (i+1)),((i+1:Nat):Int))):=by
     refine eX _ (fun j s=>s=((j:Int),flL (l.take i)++(List.replicate j (flL (hU (l.getD i default).2.2.2.2.2))).flatten)) (fun o=>o=some (cO.next (flL (l.take (i+1)),((i+1:Nat):Int)))) (l.getD i default).2.2.2.1.toNat ?_ ?_ _ (by simp) _ (by omega)
     ·rintro j _ hj rfl
      have g1:decide ((j:Int)<(l.getD i default).2.2.2.1)=true:=decide_eq_true (by omega)
      have hjl:((List.replicate j (flL (hU (l.getD i default).2.2.2.2.2))).flatten).length<=(phF (l.getD i default)).length:=by
       rw [Bj,hpl]; exact Nat.mul_le_mul (by omega) (Nat.le_refl _)
      refine .inl ⟨(((j+1:Nat):Int),flL (l.take i)++(List.replicate (j+1) (flL (hU (l.getD i default).2.2.2.2.2))).flatten),?_,rfl⟩
      simp only [IZ,if_pos (jJ hi),Int.toNat_natCast,g1,if_true,wS j (by omega)]
      rw [if_pos ⟨by rw [List.length_append]; omega,by rw [List.length_append]; omega⟩,List.replicate_succ',List.flatten_append,List.append_assoc]
      simp
     ·rintro _ rfl
      have g1:decide ((((l.getD i default).2.2.2.1.toNat:Nat):Int)<(l.getD i default).2.2.2.1)=false:=decide_eq_false (by omega)
      refine ⟨_,?_,rfl⟩
      simp only [IZ,if_pos (jJ hi),Int.toNat_natCast,g1,Bool.false_eq_true,if_false,wS i (by omega)]
      rw [ht,hf]; rfl
    simp only [Cb,lS hi,if_true,if_pos (jJ hi),Int.toNat_natCast,hv,bC0,if_neg (show ¬ (((l.getD i default).1 != 5)=true) by simpa using k5),hin,Option.getD_some]
   ·have hf:phF (l.getD i default)=[l.getD i default]:=if_neg k5
    rw [hf] at hlt
    simp only [List.length_singleton] at hlt
    simp only [Cb,lS hi,if_true,if_pos (jJ hi),Int.toNat_natCast,wS i (by omega),if_pos (show ((l.getD i default).1 != 5)=true by simpa using k5)]
    rw [if_pos ⟨by omega,by omega⟩,ht,hf]; rfl
  ·rintro _ rfl
   simp only [Cb,y8,Bool.false_eq_true,if_false,List.take_length]
   exact ⟨_,rfl,rfl⟩
theorem XA {l:List Ph} (h:(erI 0 0 l).2=0):dpL l<7:=by
 have h2:lsE (hM l) 0=0:=by rw [<- yB 0 (hM l) 0,zZ]; exact h
 have:=Zl (hM l) 0 (by decide) (by decide) h2
 unfold dpL; omega
theorem aeu {l:List Ph} (hl:l.length<1000000):r11 l=some (oz l):=by
 unfold r11 oz
 rw [ado 7 0 (by decide) (by decide) (by decide) l,Option.bind_some]
 unfold lsR
 by_cases c0:l.length=0
 ·rw [if_pos c0,if_pos c0,if_pos (by decide)]
 rw [if_neg c0,if_neg c0]
 by_cases c12:12<l.length
 ·rw [if_pos c12,if_pos c12,if_pos (by decide)]
 rw [if_neg c12,if_neg c12]
 by_cases he:(erI 0 0 l).2=0
 rotate_left
 ·rw [if_neg he,if_pos (by simpa using he)]
 have ok:=Ah he
 rw [if_pos he,if_neg (by simpa using he),ajS 7 0 l (XA he) ok (by omega),Option.bind_some]
 by_cases c:(flL l).length<=60
 rotate_left
 ·rw [if_neg c,if_pos (decide_eq_true (by omega))]
 rw [if_pos c,if_neg (by rw [decide_eq_true_eq]; omega),adu 7 0 l (XA he) ok (by omega) c,Option.bind_some]
 have hne:1<=(flL l).length:=by
  match l,c0,ok with
  | x::r,_,ok=>
   have:=KW (ok x (by simp))
   unfold flL; rw [List.flatMap_cons,List.length_append]; omega
 have hw:IntKind.i64.wrap (((flL l).length:Int) - 1)=(((flL l).length - 1:Nat):Int):=by rw [IntWalk.i64_in _ ⟨by omega,by omega⟩]; omega
 rw [hw,if_pos ⟨by omega,by omega⟩,Int.toNat_natCast]
 unfold r44
 rw [Option.bind_some]
 show (if (!(nD ((flL l).getD ((flL l).length - 1) default).1))=true then _ else _)=_
 cases nD ((flL l).getD ((flL l).length - 1) default).1<;>rfl
theorem wV {n m:Nat} (h:n<=m):∀ {b:Hl},shB n b=true->shB m b=true
 | .nil,_=>rfl
 | .cons k p l t q b r,hs=>by
  rw [shB] at hs ⊢
  simp only [Bool.and_eq_true,decide_eq_true_eq] at hs ⊢
  exact ⟨⟨by omega,wV h hs.1.2⟩,wV h hs.2⟩
theorem wU {n m:Nat} (h:n<=m) {l:List Ph} (hs:shL n l=true):shL m l=true:=by
 unfold shL at hs ⊢
 simp only [Bool.and_eq_true,decide_eq_true_eq] at hs ⊢
 exact ⟨by omega,wV h hs.2⟩
theorem abL (l:List Ph):∃ v,r7 l=some v/\(v=true->shL 14 l=true/\dpL l<7):=by
 obtain ⟨v,hv,hv2⟩:=ajR 7 0 l (by decide) (by decide) (by decide)
 unfold r7
 rw [hv,Option.bind_some]
 cases v with
 | false=>exact ⟨false,by simp,fun h=>by cases h⟩
 | true=>
  obtain ⟨_,h2,h3⟩:=hv2 rfl
  obtain ⟨w,hw⟩:=akQ 7 l (by omega) h2
  rw [hw,if_pos (show true=true->(some w).isSome=true from fun _=>rfl)]
  exact ⟨_,rfl,fun _=>⟨h2,by omega⟩⟩
theorem ZN {l:List Ph} (ok:∀ x∈l,Jd x) (hl:l.length<=60):shL 60 l=true/\dpL l<7:=by
 have h0:∀ x∈l,x.2.2.2.2.2=Hl.nil:=fun x hx=>by
  have hk:=(ok x hx).kind
  have ho:=(vV (ok x hx).own).2.1
  unfold jm at ho
  simp only [Bool.and_eq_true,Bool.or_eq_true,beq_iff_eq] at ho
  have hb0:hN x.2.2.2.2.2=0:=by rcases ho.2 with h | h; omega; exact h
  generalize x.2.2.2.2.2=b at hb0
  cases b with
  | nil=>rfl
  | cons=>simp [hN] at hb0
 refine ⟨KL hl fun x hx=>by rw [h0 x hx]; rfl,?_⟩
 have:=OM (n:=1) (l:=l) (fun x hx=>by rw [h0 x hx]; decide)
 omega
theorem aeD:r6=some true:=by decide +kernel
theorem Cm {n:Int}:∀ {t:TL},(∀ x∈t,(0<=x.1/\x.1<=10000)/\0<=x.2/\x.2<n)->aal n t=0
 | [],_=>rfl
 | x::r,h=>by
  have h1:=h x (by simp)
  have h2:tkE n x=0:=by unfold tkE; rw [fF.2 h1.1,fF.2 ⟨h1.2.1,by omega⟩]; rfl
  rw [aal,if_pos h2]
  exact Cm (fun y hy=>h y (by simp [hy]))
theorem ab3 {t:TL} (h:t.length<=400):r20 t t=some true:=by
 unfold r20
 rw [if_neg (by simp)]
 refine eX (IX t t) (fun i s=>s=(i:Int)) (fun o=>o=some true) t.length ?_ ?_ _ rfl _ (by omega)
 ·rintro i _ hi rfl
  refine .inl ⟨((i+1:Nat):Int),?_,rfl⟩
  simp only [IX,lS hi,if_true,if_pos (jJ hi),Int.toNat_natCast,wS i (by omega),beq_self_eq_true,Bool.and_self,Bool.not_true,Bool.false_eq_true,if_false]; rfl
 ·rintro _ rfl
  exact ⟨_,by simp only [IX,y8,Bool.false_eq_true,if_false],rfl⟩
theorem Qh {a b:Int} {T:TL} {L:List TL} {lo:List Int} (W:TL) (air:Int) (H:jg a b T L lo) (l:List Ph):(iR b T L lo W air l).1.length<=200:=by
 unfold iR
 split
 ·split
  ·exact Qn H (by simp)
  ·simp
 ·simp
theorem X0:∀ {f:List Ph},(∀ x∈f,Jd x)->flL f=f
 | [],_=>rfl
 | x::r,h=>by
  have hk:=(h x (by simp)).kind
  have hf:phF x=[x]:=if_neg (by omega)
  have ih:=X0 (f:=r) (fun y hy=>h y (by simp [hy]))
  unfold flL at ih ⊢
  rw [List.flatMap_cons,hf,ih]; rfl
theorem OL {d:Int}:∀ {l:List Ph} {i:Int},(∀ x∈l,phE d x=0)->erI d i l=(0,0)
 | [],_,_=>rfl
 | x::r,i,h=>by rw [erI,if_pos (h x (by simp))]; exact OL (fun y hy=>h y (by simp [hy]))
theorem agK {x:Ph} (h:Jd x) (d:Int):phE d x=0:=by
 have:=h.kind
 rw [rF (by omega)]; exact h.own
section
variable {a b:Int} {T:TL} {L:List TL} {lo hi:List Int} {W:TL} {air spread:Int}
theorem Ij {l:List Ph} (hr:(oz l).2=0) (h12:(flL l).length<=12):iR b T L lo W air (flL l)=iR b T L lo W air l:=by
 obtain ⟨q1,q2,q3,q4,q5⟩:=yU hr
 have hok:=yh q2
 have e:flL (flL l)=flL l:=X0 hok
 have h0:(oz (flL l)).2=0:=by
  unfold oz
  rw [if_neg (by omega),if_neg (by omega),OL (fun x hx=>agK (hok x hx) 0),if_pos rfl,e,if_pos q3,if_pos q5]
 unfold iR
 rw [if_pos h0,if_pos hr,e]
theorem Ii {l:List Ph} (hr:(oz l).2=0) (h1:(oz [(5,0,0,1,0,hM l)]).2=0):iR b T L lo W air [(5,0,0,1,0,hM l)]=iR b T L lo W air l:=by
 have e:flL [(5,0,0,1,0,hM l)]=flL l:=by
  have hf:phF (5,0,0,1,0,hM l)=(List.replicate 1 (flV (hM l))).flatten:=if_pos rfl
  unfold flL
  rw [List.flatMap_cons,hf,lK,zZ]; simp
 unfold iR
 rw [if_pos h1,if_pos hr,e]
def drV (W:TL) (y:Int×Int):List Int×Int:=(pwV W y.1,y.2)
theorem yS:∀ (t:TL) (s s1:List Int),runT b T L W s t=some s1->∃ y,H6 b T L s (t.map (drV W))=some y
 | [],s,s1,_=>⟨_,rfl⟩
 | x::r,s,s1,h=>by
  rw [runT] at h
  split at h
  ·rename_i c
   obtain ⟨y,hy⟩:=yS r _ _ h
   refine ⟨(jB b T (L.getD x.2.toNat default) s (pwV W x.1)::y.1,mM T (L.getD x.2.toNat default) (hd (oK b T s))+y.2),?_⟩
   rw [List.map_cons,H6]
   show (if (jB b T (L.getD x.2.toNat default) s (pwV W x.1)).all (inT T)=true then (H6 b T L (jB b T (L.getD x.2.toNat default) s (pwV W x.1)) (r.map (drV W))).map _ else none)=_
   rw [if_pos c,hy]; rfl
  ·cases h
theorem rG:∀ {l:List (List Int×Int)},(∀ d∈l,dA a L d.1 d.2=0)->lM a L l=0
 | [],_=>rfl
 | d::r,h=>by rw [lM,if_pos (h d (by simp))]; exact rG (fun x hx=>h x (by simp [hx]))
theorem VW (B:rW a b T L lo hi W air spread) {t:TL} (ht:t.length<=200) (hv:∀ y∈t,(0<=y.1/\y.1<=10000)/\0<=y.2/\y.2<L.length) {s1:List Int} (hrun:runT b T L W lo t=some s1) :
 ∃ z,r23 a b T L lo (t.map (drV W))=some (z,0):=by
 obtain ⟨f1,f2,f3,f4,f5,f6⟩:=B.few
 have hde:∀ d∈t.map (drV W),dA a L d.1 d.2=0:=fun d hd=>by
  obtain ⟨y,hy,rfl⟩:=List.mem_map.1 hd
  obtain ⟨h1,h2⟩:=hv y hy
  exact wM (by simp only [drV,pwV,List.length_map]; exact B.afm) (XG B.wts h1) h2
 have hz:fZ a L (t.map (drV W))=0:=by
  unfold fZ
  rw [List.length_map,if_neg (by omega)]; exact rG hde
 obtain ⟨y,hy⟩:=yS t lo s1 hrun
 rw [p66 a b T L lo _ f1 f2 f3 (by omega) (by rw [List.length_map]; omega) (fun d hd=>by obtain ⟨y,_,rfl⟩:=List.mem_map.1 hd; simp only [drV,pwV,List.length_map]; omega)]
 unfold ab7
 rw [if_pos B.box.lo.lJ,if_pos hz,hy]
 exact ⟨_,rfl⟩
theorem alC {t:TL} (e:Int) {i:Nat} (hi':i<t.length) (hl:W.length<1000) (hW:∀ w∈W,(0<=w.1/\w.1<=1000)/\(0<=w.2/\w.2<=1000)/\w.1<=w.2) (hp:0<=(t.getD i default).1/\(t.getD i default).1<=10000) (hi2:i<1000) :
 aS (aaF W (t,e) ((t.take i).map (drV W),(i:Int))) 1000000000 (0,[])=some (cO.next ((t.take (i+1)).map (drV W),((i+1:Nat):Int))):=by
 refine eX _ (fun j s=>s=((j:Int),(pwV W (t.getD i default).1).take j)) (fun o=>o=some (cO.next ((t.take (i+1)).map (drV W),((i+1:Nat):Int)))) W.length ?_ ?_ _ (by simp) _ (by omega)
 ·rintro j _ hj rfl
  have hw:=hW _ (getD_mem hj)
  obtain ⟨e1,m1,m2,e2,e3,h4,h5⟩:=pw1 hw hp
  have x1:r22 ((W.getD j default).1+(W.getD j default).2) 2=some (((W.getD j default).1+(W.getD j default).2) / 2):=ajn _ 2 (by decide) (by omega) (by omega)
  have x2:r22 ((t.getD i default).1*(((W.getD j default).1+(W.getD j default).2) / 2)) 1000=some ((t.getD i default).1*(((W.getD j default).1+(W.getD j default).2) / 2) / 1000):=ajn _ 1000 (by decide) (by omega) (by omega)
  have hlen:((pwV W (t.getD i default).1).take j).length=j:=by simp [pwV]; omega
  refine .inl ⟨(((j+1:Nat):Int),(pwV W (t.getD i default).1).take (j+1)),?_,rfl⟩
  simp only [aaF,lS hj,if_true,if_pos (jJ hj),if_pos (jJ hi'),Int.toNat_natCast,wS j (by omega),e1,x1,aP,e3,x2,hlen]
  rw [if_pos ⟨by omega,by omega⟩]
  congr 2
  rw [List.take_add_one,List.getElem?_eq_getElem (by simpa [pwV] using hj)]
  simp [pwV,List.getD_eq_getElem?_getD,hj]
 ·rintro _ rfl
  have hlen:((t.take i).map (drV W)).length=i:=by simp; omega
  refine ⟨_,?_,rfl⟩
  simp only [aaF,y8,Bool.false_eq_true,if_false,Int.toNat_natCast,wS i (by omega),hlen]
  have et:(t.take (i+1)).map (drV W)=(t.take i).map (drV W)++[drV W (t.getD i default)]:=by
   rw [List.take_add_one,List.getElem?_eq_getElem hi',List.map_append,List.getD_eq_getElem?_getD,List.getElem?_eq_getElem hi']; rfl
  rw [if_pos ⟨by omega,by omega⟩,et,List.take_of_length_le (show (pwV W (t.getD i default).1).length<=W.length by simp [pwV])]
  rfl
theorem agm (B:rW a b T L lo hi W air spread) {l:List Ph} (hr:(oz l).2=0) (hc:(iR b T L lo W air l).2=0) :
 aS (Tn a b T L lo W (flL l,0) (iR b T L lo W air l)) 1000000000 ([],0)=some true/\CS L (iR b T L lo W air l).1=0:=by
 obtain ⟨f1,f2,f3,f4,f5,f6⟩:=B.few
 obtain ⟨q1,q2,q3,q4,q5⟩:=yU hr
 have hok:=yh q2
 have as5:=B.air
 have adr:zW L.length (flL l)=true:=by
  unfold iR at hc
  rw [if_pos hr] at hc
  split at hc
  ·assumption
  ·cases hc
 have ec:iR b T L lo W air l=coS b T L W air (flL l) lo []:=by unfold iR; rw [if_pos hr,if_pos adr]
 have ads:∀ x∈flL l,0<=kT air x/\kT air x<L.length:=fun x hx=>by
  have:=fF.1 (List.all_eq_true.1 adr x hx)
  unfold kT; split<;>omega
 have hlen:=Qn (W:=W) (air:=air) (fl:=flL l) B.box.lo (made:=[]) (by simp)
 rw [ec] at hc ⊢
 obtain ⟨more,s1,g1,g2,g3⟩:=Qi (flL l) lo [] hok ads hc
 have hlast:=Gw (flL l) lo [] hok (by omega) q5 hc
 rw [List.nil_append] at g1
 generalize hy:coS b T L W air (flL l) lo []=y at*
 obtain ⟨t,e⟩:=y
 simp only at hc g1 hlen hlast ⊢
 subst hc
 subst g1
 refine ⟨?_,?_⟩
 ·refine eX _ (fun i s=>s=((t.take i).map (drV W),(i:Int))) (fun o=>o=some true) t.length ?_ ?_ _ (by simp) _ (by omega)
  ·rintro i _ hi' rfl
   refine .inl ⟨_,?_,rfl⟩
   simp only [Tn,lS hi',if_true,if_pos (jJ hi')]
   rw [alC 0 hi' (by omega) B.wts (g3 _ (getD_mem hi')).1 (by omega),Option.getD_some]
  ·rintro _ rfl
   obtain ⟨z,hz⟩:=VW B hlen g3 g2
   have hw1:0<t.length->IntKind.i64.wrap ((t.length:Int) - 1)=((t.length - 1:Nat):Int):=fun h=>by rw [IntWalk.i64_in _ ⟨by omega,by omega⟩]; omega
   have hw2:IntKind.i64.wrap (((flL l).length:Int) - 1)=(((flL l).length - 1:Nat):Int):=by rw [IntWalk.i64_in _ ⟨by omega,by omega⟩]; omega
   simp only [Tn,y8,Bool.false_eq_true,if_false,List.take_length]
   refine ⟨_,rfl,?_⟩
   rw [p18 a b T L f1 f2 f3,Option.bind_some,p19 lo (by omega),Option.bind_some,hz,Option.bind_some]
   have hfin:(((t.length:Int) == 0) || ((t.getD (t.length - 1) default).1 == 0) || (((flL l).getD ((flL l).length - 1) default).1 == 4))=true:=by
    rcases hlast with h4 | ⟨q,w,hq⟩
    ·rw [h4]; simp
    ·subst hq
     have:((q++[((0:Int),w)]).getD ((q++[((0:Int),w)]).length - 1) default)=(0,w):=by simp [List.getD_eq_getElem?_getD]
     rw [this]; simp
   by_cases h0:t.length=0
   ·have ht0:t=[]:=List.length_eq_zero_iff.1 h0
    subst ht0
    rfl
   ·have hb0:(((t.length:Int)) == 0)=false:=by simp; intro h; exact h0 (by rw [h]; rfl)
    rw [hb0,Bool.false_or] at hfin
    rw [hw1 (by omega),hw2,hb0,Int.toNat_natCast,Int.toNat_natCast]
    rw [if_pos (fun _=>⟨by omega,by omega⟩),if_pos (fun _=>⟨by omega,by omega⟩),Bool.false_or,hfin]; rfl
 ·unfold CS
  rw [if_pos hlen]
  exact Cm g3
end
theorem e4: @afi= @Tn:=rfl
theorem e6: @afh= @Tn:=rfl
theorem e8: @afe= @Tn:=rfl
section
variable {a b:Int} {T:TL} {L:List TL} {lo hi:List Int} {W:TL} {air spread:Int}
theorem agp (B:rW a b T L lo hi W air spread) {l:List Ph} (hr:(oz l).2=0) :
 (if ((iR b T L lo W air l).2 != 0)=true then some (((iR b T L lo W air l).1.length:Int) == 0)
  else (r21 a b T L lo hi W air spread (iR b T L lo W air l).1).bind fun v15=>
   if (v15 != 0)=true then some false
   else aS (Tn a b T L lo W (flL l,0) (iR b T L lo W air l)) 1000000000 ([],0))=some true:=by
 obtain ⟨f1,f2,f3,f4,f5,f6⟩:=B.few
 by_cases hc:(iR b T L lo W air l).2=0
 ·obtain ⟨h1,h2⟩:=agm B hr hc
  rw [if_neg (by simpa using hc),aaH a b T L lo hi W air spread _ f2,Option.bind_some,h2,if_neg (by decide)]
  exact h1
 ·rw [if_pos (by simpa using hc)]
  have he:(iR b T L lo W air l).1=[]:=by
   unfold iR at hc ⊢
   rw [if_pos hr] at hc ⊢
   split
   ·rename_i h; rw [if_pos h] at hc; exact Qs hc
   ·rfl
  rw [he]; rfl
end
theorem jr (a b:Int) (T:TL) (L:List TL) (lo hi:List Int) (W:TL) (air spread:Int) (l:List Ph):r5 a b T L lo hi W air spread l=some true:=by
 obtain ⟨v2,h14,hf⟩:=light a b T L lo hi W air spread
 obtain ⟨w,h7,hs⟩:=abL l
 unfold r5
 rw [aeD,Option.bind_some,if_neg (by decide),h14,Option.bind_some,h7,if_pos (show (!(!v2))=true->(some w).isSome=true from fun _=>rfl),show (some w).getD default=w from rfl]
 by_cases hg:((!v2) || (!w))=true
 ·rw [if_pos (by intro h; rw [hg] at h; cases h),if_pos (by intro h; rw [hg,Bool.true_or] at h; cases h),if_pos (by rw [hg,Bool.true_or,Bool.true_or])]
 have hg':((!v2) || (!w))=false:=by simpa using hg
 have hv2:v2=true:=by cases v2<;>simp_all
 have hw:w=true:=by cases w<;>simp_all
 obtain ⟨g1,g2,g3,g4,g5,g6,g7⟩:=hf hv2
 obtain ⟨s1,s2⟩:=hs hw
 have hl:=Bo s1
 have hn:L.length<1000:=by omega
 have h17:r17 a b T L lo hi W air spread=some (GK a b T L lo hi W air spread).2:=by
  unfold r17; rw [aqN a b T L lo hi W air spread hn g7 (by omega) (by omega) (by omega)]; rfl
 have h18:∀ m:List Ph,m.length<1000000->r18 m=some (oz m).2:=fun m hm=>by unfold r18; rw [aeu hm]; rfl
 rw [h17,h18 l (by omega),hg']
 simp only [Option.isSome_some,implies_true,if_true,Option.getD_some,Bool.false_or]
 by_cases hb:(GK a b T L lo hi W air spread).2=0
 rotate_left
 ·have:((GK a b T L lo hi W air spread).2 != 0)=true:=by simpa using hb
  rw [if_pos (by rw [this]; rfl)]
 by_cases hr:(oz l).2=0
 rotate_left
 ·have:((oz l).2 != 0)=true:=by simpa using hr
  rw [if_pos (by rw [this,Bool.or_true])]
 have B:=X5 hb
 obtain ⟨q1,q2,q3,q4,q5⟩:=yU hr
 have hok:=yh q2
 have hcl:=Qh W air B.box.lo l
 rw [hb,hr,if_neg (by decide),PU 7 l s2 (wU (by decide) s1),Option.bind_some,ES (by omega),Option.bind_some,aac a b T L lo hi W air spread (by omega) hn g7 (by omega) (by omega) (by omega),Option.bind_some]
 simp only
 have hcomp:∀ m:List Ph,m.length<1000000->r15 a b T L lo hi W air spread m=some (iR b T L lo W air m):=fun m hm=>by
  rw [Qc (by omega) hn g7 (by omega) (by omega) (by omega) hm,if_pos hb]
 rw [hcomp l (by omega),Option.bind_some,if_pos hr]
 have c1:((((flL l).length:Int)) == 0)=false:=by rw [beq_eq_false_iff_ne]; omega
 simp only [c1]
 rw [if_neg (by simp; omega)]
 have hsame:=ab3 (t:=(iR b T L lo W air l).1) (by omega)
 have hrest:=agp B hr
 refine eX _ (fun i s=>s=(i:Int)) (fun o=>o=some true) (flL l).length ?_ ?_ _ rfl _ (by omega)
 ·rintro i _ hi' rfl
  have hx:=hok _ (getD_mem hi')
  have hk:=hx.kind
  have h5:(((flL l).getD i default).1 == 5)=false:=by rw [beq_eq_false_iff_ne]; omega
  have h0:decide (((hU ((flL l).getD i default).2.2.2.2.2).length:Int)>0)=false:=by
   have ho:=(vV hx.own).2.1
   unfold jm at ho
   rw [h5] at ho
   simp only [Bool.and_eq_true,Bool.false_or] at ho
   rw [gt0,ho.2]; rfl
  refine .inl ⟨_,?_,rfl⟩
  simp only [aeC,lS hi',if_true,if_pos (jJ hi'),Int.toNat_natCast,h5,h0,Bool.or_self,Bool.false_eq_true,if_false,wS i (by omega)]
  rw [if_pos (fun _=>jJ hi')]; rfl
 ·rintro _ rfl
  refine ⟨_,by simp only [aeC,y8,Bool.false_eq_true,if_false,e4,e6,e8]; exact rfl,?_⟩
  have hone:∀ (X:Option Bool),X=some true->
   ((r9 7 l).bind fun v12=>(r18 [(5,0,0,1,0,hM v12)]).bind fun v13=>
    if (v13 == 0)=true then
     (r15 a b T L lo hi W air spread [(5,0,0,1,0,hM v12)]).bind fun v14=>
      if (!(v14.2 != (iR b T L lo W air l).2))=true->(r20 (iR b T L lo W air l).1 v14.1).isSome=true then
       if ((v14.2 != (iR b T L lo W air l).2) || (!((r20 (iR b T L lo W air l).1 v14.1).getD default)))=true then
        some false
        else X
       else none
    else X)=some true:=fun X hX=>by
   rw [PU 7 l s2 (wU (by decide) s1),Option.bind_some,h18 _ (by simp),Option.bind_some]
   by_cases h1:(oz [(5,0,0,1,0,hM l)]).2=0
   ·rw [if_pos (by simpa using h1),hcomp _ (by simp),Option.bind_some,Ii hr h1,hsame,if_pos (show _->(some true).isSome=true from fun _=>rfl),if_neg (by simp),hX]
   ·rw [if_neg (by simpa using h1),hX]
  by_cases h12:(flL l).length<=12
  ·have hfl:=ZN hok q3
   rw [if_pos (decide_eq_true (by omega)),aac a b T L lo hi W air spread (by omega) hn g7 (by omega) (by omega) (by omega),Option.bind_some,PU 7 (flL l) hfl.2 hfl.1,Option.bind_some]
   simp only
   rw [hcomp _ (by omega),Option.bind_some,Ij hr h12,hsame,if_pos (show _->(some true).isSome=true from fun _=>rfl),if_neg (by simp)]
   exact hone _ hrest
  ·rw [if_neg (by rw [decide_eq_true_eq]; omega)]
   have:=hone _ hrest
   rw [PU 7 l s2 (wU (by decide) s1),Option.bind_some] at this ⊢
   rw [h18 _ (by simp),Option.bind_some] at this ⊢
   rw [aac a b T L lo hi W air spread (by omega) hn g7 (by omega) (by omega) (by omega),Option.bind_some]
   simp only
   exact this
end Go.Proofs.YtkbdjphdhcgmaaaGreatDoor

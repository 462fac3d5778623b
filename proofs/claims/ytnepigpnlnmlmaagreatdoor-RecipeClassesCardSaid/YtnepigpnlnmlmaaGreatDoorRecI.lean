/- Recipes: checked by the reference; RecipeChecks. -/
import Derived.Test.YtnepigpnlnmlmaaGreatDoorF11
import Derived.Test.YtnepigpnlnmlmaaGreatDoorF12
import Derived.Test.YtnepigpnlnmlmaaGreatDoorF17
import Derived.Test.YtnepigpnlnmlmaaGreatDoorRecH
import Derived.Test.YtnepigpnlnmlmaaGreatDoorRecD
set_option linter.unusedVariables false
set_option linter.unusedSimpArgs false
namespace Go.Proofs.YtnepigpnlnmlmaaGreatDoor
open Go.Abs
theorem rep_len (n:Nat) (blk:List Ph):((List.replicate n blk).flatten).length=n*blk.length:=by
 induction n with
 | zero=>simp
 | succ n ih=>rw [List.replicate_succ,List.flatten_cons,List.length_append,ih,Nat.succ_mul]; omega
theorem flL_take (l:List Ph) {i:Nat} (hi:i<l.length):flL (l.take (i+1))=flL (l.take i)++phF (l.getD i default):=by
 unfold flL
 rw [List.take_add_one,List.getElem?_eq_getElem hi,List.flatMap_append,List.getD_eq_getElem?_getD,List.getElem?_eq_getElem hi]; simp
theorem flL_le (l:List Ph) (i:Nat):(flL (l.take i)).length≤(flL l).length:=by
 have e:flL l=flL (l.take i)++flL (l.drop i):=by unfold flL; rw [← List.flatMap_append,List.take_append_drop]
 have h:=congrArg List.length e
 rw [List.length_append] at h; omega
theorem phF_len {d:Int} {x:Ph} (h:phE d x=0) (h5:x.1=5):(phF x).length=x.2.2.2.1.toNat*(flL (hU x.2.2.2.2.2)).length:=by
 unfold phF; rw [if_pos h5,rep_len,flV_flat]; rfl
theorem cntR:∀ (n:Nat) (d:Int) (l:List Ph),dpL l<n→(∀ x∈l,phE d x=0)→l.length≤12→r133 n l=some ((min (flL l).length 61:Nat):Int)
 | 0,d,l,h,_,_=>absurd h (by omega)
 | n+1,d,l,h,ok,hl=>by
  show q133 n (r133 n) l=_
  unfold q133
  refine iter_inv (b133_1 (r133 n) l) (fun i s=>s=(((min (flL (l.take i)).length 61:Nat):Int),(i:Int))) (fun o=>o=some ((min (flL l).length 61:Nat):Int)) l.length ?_ ?_ _ (by simp [flL]) _ (by omega)
  ·rintro i _ hi rfl
   have hx:=ok _ (getD_mem hi)
   refine .inl ⟨_,?_,rfl⟩
   rw [flL_take l hi,List.length_append]
   by_cases k5:(l.getD i default).1=5
   ·obtain ⟨_,k2,k3,k4⟩:=ph_rep hx k5
    have hv:=cntR n (d+1) (hU (l.getD i default).2.2.2.2.2) (by have:=dpL_mem (getD_mem hi); omega) (ls_all k2) (by rw [hN_U]; exact k3.2)
    have hpl:=phF_len hx k5
    simp only [b133_1,ltN hi,if_true,if_pos (rgN hi),Int.toNat_natCast,hv,bC0,wS i (by omega),if_pos (show ((l.getD i default).1 == 5)=true by simpa using k5)]
    rw [hpl]
    generalize hA:(flL (l.take i)).length=A
    generalize hC:(flL (hU (l.getD i default).2.2.2.2.2)).length=C
    generalize ht:(l.getD i default).2.2.2.1=t at k4
    obtain ⟨m,hm⟩:∃ m:Nat,t=(m:Int):=⟨t.toNat,by omega⟩
    subst hm
    have h1:C≤m*C:=Nat.le_mul_of_pos_left C (by omega)
    have h2:m*(min C 61)≤10*61:=Nat.mul_le_mul (by omega) (by omega)
    have h3:min (min A 61+m*min C 61) 61=min (A+m*C) 61:=by
     by_cases c:C≤61
     ·rw [Nat.min_eq_left c]; omega
     ·rw [Nat.min_eq_right (by omega:61≤C)]; omega
    have e1:((m:Int)*((min C 61:Nat):Int))=((m*min C 61:Nat):Int):=by rw [Int.natCast_mul]
    rw [e1,Int.toNat_natCast, ← h3,IntWalk.i64_in ((m*min C 61:Nat):Int) ⟨by omega,by omega⟩,IntWalk.i64_in _ ⟨by omega,by omega⟩]
    have e2:(if 61<((min A 61:Nat):Int)+((m*min C 61:Nat):Int) then (61:Int) else ((min A 61:Nat):Int)+((m*min C 61:Nat):Int))=((min (min A 61+m*min C 61) 61:Nat):Int):=by
     generalize m*min C 61=z
     split<;>omega
    rw [e2]; rfl
   ·have hf:phF (l.getD i default)=[l.getD i default]:=if_neg k5
    simp only [b133_1,ltN hi,if_true,if_pos (rgN hi),Int.toNat_natCast,wS i (by omega),if_neg (show ¬ (((l.getD i default).1 == 5)=true) by simpa using k5)]
    rw [hf,List.length_singleton]
    generalize (flL (l.take i)).length=A
    rw [IntWalk.i64_in _ ⟨by omega,by omega⟩]
    have e2:(if 61<((min A 61:Nat):Int)+1 then (61:Int) else ((min A 61:Nat):Int)+1)=((min (A+1) 61:Nat):Int):=by split<;>omega
    rw [e2]; rfl
  ·rintro _ rfl
   simp only [b133_1,geN,Bool.false_eq_true,if_false,List.take_length]
   exact ⟨_,rfl,rfl⟩
theorem flatR:∀ (n:Nat) (d:Int) (l:List Ph),dpL l<n→(∀ x∈l,phE d x=0)→l.length≤12→(flL l).length≤60→r134 n l=some (flL l)
 | 0,d,l,h,_,_,_=>absurd h (by omega)
 | n+1,d,l,h,ok,hl,hs=>by
  show q134 n (r134 n) l=_
  unfold q134
  refine iter_inv (b134_1 (r134 n) l) (fun i s=>s=(flL (l.take i),(i:Int))) (fun o=>o=some (flL l)) l.length ?_ ?_ _ (by simp [flL]) _ (by omega)
  ·rintro i _ hi rfl
   have hx:=ok _ (getD_mem hi)
   have hp:=flL_le l (i+1)
   have ht:=flL_take l hi
   have hlt:=congrArg List.length ht
   rw [List.length_append] at hlt
   refine .inl ⟨_,?_,rfl⟩
   by_cases k5:(l.getD i default).1=5
   ·obtain ⟨_,k2,k3,k4⟩:=ph_rep hx k5
    have hpl:=phF_len hx k5
    have hC:(flL (hU (l.getD i default).2.2.2.2.2)).length≤(phF (l.getD i default)).length:=by rw [hpl]; exact Nat.le_mul_of_pos_left _ (by omega)
    have hv:=flatR n (d+1) (hU (l.getD i default).2.2.2.2.2) (by have:=dpL_mem (getD_mem hi); omega) (ls_all k2) (by rw [hN_U]; exact k3.2) (by omega)
    have hf:phF (l.getD i default)=(List.replicate (l.getD i default).2.2.2.1.toNat (flL (hU (l.getD i default).2.2.2.2.2))).flatten:=by
     unfold phF; rw [if_pos k5,flV_flat]; rfl
    have hin:iterC (b134_2 l (flL (l.take i),(i:Int)) (flL (hU (l.getD i default).2.2.2.2.2))) 1000000000 (0,flL (l.take i))=some (Ctl.next (flL (l.take (i+1)),((i+1:Nat):Int))):=by
     refine iter_inv _ (fun j s=>s=((j:Int),flL (l.take i)++(List.replicate j (flL (hU (l.getD i default).2.2.2.2.2))).flatten)) (fun o=>o=some (Ctl.next (flL (l.take (i+1)),((i+1:Nat):Int)))) (l.getD i default).2.2.2.1.toNat ?_ ?_ _ (by simp) _ (by omega)
     ·rintro j _ hj rfl
      have g1:decide ((j:Int)<(l.getD i default).2.2.2.1)=true:=decide_eq_true (by omega)
      have hjl:((List.replicate j (flL (hU (l.getD i default).2.2.2.2.2))).flatten).length≤(phF (l.getD i default)).length:=by
       rw [rep_len,hpl]; exact Nat.mul_le_mul (by omega) (Nat.le_refl _)
      refine .inl ⟨(((j+1:Nat):Int),flL (l.take i)++(List.replicate (j+1) (flL (hU (l.getD i default).2.2.2.2.2))).flatten),?_,rfl⟩
      simp only [b134_2,if_pos (rgN hi),Int.toNat_natCast,g1,if_true,wS j (by omega)]
      rw [if_pos ⟨by rw [List.length_append]; omega,by rw [List.length_append]; omega⟩,List.replicate_succ',List.flatten_append,List.append_assoc]
      simp
     ·rintro _ rfl
      have g1:decide ((((l.getD i default).2.2.2.1.toNat:Nat):Int)<(l.getD i default).2.2.2.1)=false:=decide_eq_false (by omega)
      refine ⟨_,?_,rfl⟩
      simp only [b134_2,if_pos (rgN hi),Int.toNat_natCast,g1,Bool.false_eq_true,if_false,wS i (by omega)]
      rw [ht,hf]; rfl
    simp only [b134_1,ltN hi,if_true,if_pos (rgN hi),Int.toNat_natCast,hv,bC0,if_neg (show ¬ (((l.getD i default).1 != 5)=true) by simpa using k5),hin,Option.getD_some]
   ·have hf:phF (l.getD i default)=[l.getD i default]:=if_neg k5
    rw [hf] at hlt
    simp only [List.length_singleton] at hlt
    simp only [b134_1,ltN hi,if_true,if_pos (rgN hi),Int.toNat_natCast,wS i (by omega),if_pos (show ((l.getD i default).1 != 5)=true by simpa using k5)]
    rw [if_pos ⟨by omega,by omega⟩,ht,hf]; rfl
  ·rintro _ rfl
   simp only [b134_1,geN,Bool.false_eq_true,if_false,List.take_length]
   exact ⟨_,rfl,rfl⟩
theorem rec_dp {l:List Ph} (h:(erI 0 0 l).2=0):dpL l<7:=by
 have h2:lsE (hM l) 0=0:=by rw [← erI_lsE 0 (hM l) 0,hU_hM]; exact h
 have:=ok_dp (hM l) 0 (by decide) (by decide) h2
 unfold dpL; omega
theorem checkR {l:List Ph} (hl:l.length<1000000):r76 l=some (recE l):=by
 unfold r76 recE
 rw [listR 7 0 (by decide) (by decide) (by decide) l,Option.bind_some]
 unfold lsR
 by_cases c0:l.length=0
 ·rw [if_pos c0,if_pos c0,if_pos (by decide)]
 rw [if_neg c0,if_neg c0]
 by_cases c12:12<l.length
 ·rw [if_pos c12,if_pos c12,if_pos (by decide)]
 rw [if_neg c12,if_neg c12]
 by_cases he:(erI 0 0 l).2=0
 rotate_left
 ·rw [if_neg he,if_pos (by simpa using he)]
 have ok:=er_all he
 rw [if_pos he,if_neg (by simpa using he),cntR 7 0 l (rec_dp he) ok (by omega),Option.bind_some]
 by_cases c:(flL l).length≤60
 rotate_left
 ·rw [if_neg c,if_pos (decide_eq_true (by omega))]
 rw [if_pos c,if_neg (by rw [decide_eq_true_eq]; omega),flatR 7 0 l (rec_dp he) ok (by omega) c,Option.bind_some]
 have hne:1≤(flL l).length:=by
  match l,c0,ok with
  | x::r,_,ok=>
   have:=phF_ne (ok x (by simp))
   unfold flL; rw [List.flatMap_cons,List.length_append]; omega
 have hw:IntKind.i64.wrap (((flL l).length:Int) - 1)=(((flL l).length - 1:Nat):Int):=by rw [IntWalk.i64_in _ ⟨by omega,by omega⟩]; omega
 rw [hw,if_pos ⟨by omega,by omega⟩,Int.toNat_natCast]
 unfold r75
 rw [Option.bind_some]
 show (if (!(coldB ((flL l).getD ((flL l).length - 1) default).1))=true then _ else _)=_
 cases coldB ((flL l).getD ((flL l).length - 1) default).1<;>rfl
theorem shB_mono {n m:Nat} (h:n≤m):∀ {b:Hl},shB n b=true→shB m b=true
 | .nil,_=>rfl
 | .cons k p l t q b r,hs=>by
  rw [shB] at hs ⊢
  simp only [Bool.and_eq_true,decide_eq_true_eq] at hs ⊢
  exact ⟨⟨by omega,shB_mono h hs.1.2⟩,shB_mono h hs.2⟩
theorem shL_mono {n m:Nat} (h:n≤m) {l:List Ph} (hs:shL n l=true):shL m l=true:=by
 unfold shL at hs ⊢
 simp only [Bool.and_eq_true,decide_eq_true_eq] at hs ⊢
 exact ⟨by omega,shB_mono h hs.2⟩
theorem smallR (l:List Ph):∃ v,r63 l=some v∧(v=true→shL 14 l=true∧dpL l<7):=by
 obtain ⟨v,hv,hv2⟩:=fewR 7 0 l (by decide) (by decide) (by decide)
 unfold r63
 rw [hv,Option.bind_some]
 cases v with
 | false=>exact ⟨false,by simp,fun h=>by cases h⟩
 | true=>
  obtain ⟨_,h2,h3⟩:=hv2 rfl
  obtain ⟨w,hw⟩:=allR 7 l (by omega) h2
  rw [hw,if_pos (show true=true→(some w).isSome=true from fun _=>rfl)]
  exact ⟨_,rfl,fun _=>⟨h2,by omega⟩⟩
theorem fl_flat {l:List Ph} (ok:∀ x∈l,PhOk x) (hl:l.length≤60):shL 60 l=true∧dpL l<7:=by
 have h0:∀ x∈l,x.2.2.2.2.2=Hl.nil:=fun x hx=>by
  have hk:=(ok x hx).kind
  have ho:=(own_ok (ok x hx).own).2.1
  unfold cleanB at ho
  simp only [Bool.and_eq_true,Bool.or_eq_true,beq_iff_eq] at ho
  have hb0:hN x.2.2.2.2.2=0:=by rcases ho.2 with h | h; omega; exact h
  generalize x.2.2.2.2.2=b at hb0
  cases b with
  | nil=>rfl
  | cons=>simp [hN] at hb0
 refine ⟨shL_of hl fun x hx=>by rw [h0 x hx]; rfl,?_⟩
 have:=dpL_of (n:=1) (l:=l) (fun x hx=>by rw [h0 x hx]; decide)
 omega
theorem awakeR:r9=some true:=by decide +kernel
end Go.Proofs.YtnepigpnlnmlmaaGreatDoor

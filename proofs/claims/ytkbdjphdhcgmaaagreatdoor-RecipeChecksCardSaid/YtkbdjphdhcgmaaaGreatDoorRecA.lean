/- Recipes: the errors of phases by the code. -/
import Derived.Test.YtkbdjphdhcgmaaaGreatDoorF03
import Derived.Test.YtkbdjphdhcgmaaaGreatDoorStopA
import Derived.Test.YtkbdjphdhcgmaaaGreatDoorF02
set_option linter.unusedVariables false
set_option linter.unusedSimpArgs false
namespace Go.Proofs.YtkbdjphdhcgmaaaGreatDoor
open Go.Abs
abbrev Ph:=Int×Int×Int×Int×Int×Hl
def useP (k:Int):Bool:=k == 0 || k == 3
def useL (k:Int):Bool:=k == 2 || k == 4
def useQ (k:Int):Bool:=k == 3 || k == 4
def cleanB (k p l q:Int) (em:Bool):Bool:=(useP k || p == 0) && (useL k || l == 0) && (useQ k || q == 0) && (k == 5 || em)
def rightB (k p l t q:Int):Bool:=(!useP k || inR p 1 10000) && (!useL k || inR l 0 3) && inR t 1 (if k=5 then 10 else 200) && (!useQ k || inR q 200 3000)
def ownE (k p l t q:Int) (em:Bool):Int:=if inR k 0 5=true then (if cleanB k p l q em=true then (if rightB k p l t q=true then 0 else 2) else 3) else 15
def bodyE (d:Int) (n:Nat) (e:Int):Int:=if d=3 then 16 else if n=0 then 10 else if 12<n then 8 else e
def lsE:Hl→Int→Int
 | .nil,_=>0
 | .cons k p l t q b r,d=>
  if (if ownE k p l t q (hN b == 0)=0 then (if k=5 then bodyE d (hN b) (lsE b (d+1)) else 0) else ownE k p l t q (hN b == 0))=0 then lsE r d
  else (if ownE k p l t q (hN b == 0)=0 then (if k=5 then bodyE d (hN b) (lsE b (d+1)) else 0) else ownE k p l t q (hN b == 0))
def phE (d:Int) (x:Ph):Int:=
 if ownE x.1 x.2.1 x.2.2.1 x.2.2.2.1 x.2.2.2.2.1 (hN x.2.2.2.2.2 == 0)=0 then (if x.1=5 then bodyE d (hN x.2.2.2.2.2) (lsE x.2.2.2.2.2 (d+1)) else 0) else ownE x.1 x.2.1 x.2.2.1 x.2.2.2.1 x.2.2.2.2.1 (hN x.2.2.2.2.2 == 0)
theorem lsE_cons (k p l t q:Int) (b r:Hl) (d:Int):lsE (.cons k p l t q b r) d=if phE d (k,p,l,t,q,b)=0 then lsE r d else phE d (k,p,l,t,q,b):=by
 rw [lsE]; rfl
def erI (d:Int):Int→List Ph→Int×Int
 | _,[]=>(0,0)
 | i,x::r=>if phE d x=0 then erI d (i+1) r else (i,phE d x)
theorem erI_lsE (d:Int):∀ (b:Hl) (i:Int),(erI d i (hU b)).2=lsE b d
 | .nil,_=>by rw [lsE]; rfl
 | .cons k p l t q b r,i=>by
  rw [lsE_cons,hU,erI]
  by_cases h:phE d (k,p,l,t,q,b)=0
  ·rw [if_pos h,if_pos h]; exact erI_lsE d r (i+1)
  ·rw [if_neg h,if_neg h]
def fldV (x:Ph) (f:Nat):Int:=if f=140 then x.2.1 else if f=141 then x.2.2.1 else if f=142 then x.2.2.2.1 else x.2.2.2.2.1
theorem err_fold (d:Int):∀ (r:List Ph) (i:Int),foldC (fun i _ x=>if phE d x=0 then (.next ():Ctl Unit Int) else .out (some (phE d x))) (fun _:Unit=>some 0) i r ()=some (erI d i r).2
 | [],_=>rfl
 | x::r,i=>by
  simp only [foldC,erI]
  by_cases h:phE d x=0
  ·simp only [if_pos h]; exact err_fold d r _
  ·simp only [if_neg h]
theorem err_foldI (d:Int) (fin:Option (Int×Int)):∀ (r:List Ph) (i:Int),foldC (fun i _ x=>if phE d x=0 then (.next ():Ctl Unit (Int×Int)) else .out (some (i,phE d x))) (fun _:Unit=>fin) i r ()=if (erI d i r).2=0 then fin else some (erI d i r)
 | [],_=>rfl
 | x::r,i=>by
  simp only [foldC,erI]
  by_cases h:phE d x=0
  ·simp only [if_pos h]; exact err_foldI d fin r _
  ·simp only [if_neg h]
theorem fields_loop {R:Int→Int→Int→Int→Int→Hl→Int→Option Int} {x:Ph} {d:Int} (fs:List (Nat×Int×Int)) (hf:∀ f∈fs,f.1=140∨f.1=141∨f.1=142∨f.1=143) (hl:fs.length<10) {o:Option Int}
 (he:b67_1 R x.1 x.2.1 x.2.2.1 x.2.2.2.1 x.2.2.2.2.1 x.2.2.2.2.2 d fs (fs.all (fun f=>inR (fldV x f.1) f.2.1 f.2.2),(fs.length:Int))= .out o) :
 iterC (b67_1 R x.1 x.2.1 x.2.2.1 x.2.2.2.1 x.2.2.2.2.1 x.2.2.2.2.2 d fs) 1000000000 (true,0)=o:=by
 refine iter_inv _ (fun i s=>s=((fs.take i).all (fun f=>inR (fldV x f.1) f.2.1 f.2.2),(i:Int))) (fun r=>r=o) fs.length ?_ ?_ _ rfl _ (by omega)
 ·rintro i _ hi rfl
  have ht:(fs.take (i+1)).all (fun f=>inR (fldV x f.1) f.2.1 f.2.2)=((fs.take i).all (fun f=>inR (fldV x f.1) f.2.1 f.2.2) && inR (fldV x (fs.getD i default).1) (fs.getD i default).2.1 (fs.getD i default).2.2):=by
   rw [List.take_add_one,List.getElem?_eq_getElem hi,List.all_append,List.getD_eq_getElem?_getD,List.getElem?_eq_getElem hi]
   simp
  refine .inl ⟨_,?_,rfl⟩
  rw [ht]
  have hm:=hf _ (getD_mem hi)
  simp only [b67_1,ltN hi,if_true,if_pos (rgN hi),Int.toNat_natCast,wS i (by omega),r140,r141,r142,r143,wit,Option.isSome_some,implies_true,Option.getD_some]
  rcases hm with h | h | h | h<;>simp only [h,fldV,if_true,show ¬ (141:Nat)=140 by decide,show ¬ (142:Nat)=140 by decide,show ¬ (142:Nat)=141 by decide,show ¬ (143:Nat)=140 by decide,show ¬ (143:Nat)=141 by decide,show ¬ (143:Nat)=142 by decide,if_false]<;>rfl
 ·rintro _ rfl
  rw [List.take_length]
  exact ⟨o,he,rfl⟩
theorem em_eq (b:Hl):((((hU b).length:Int)) == 0)=(hN b == 0):=by
 rw [hN_U]
 by_cases h:hN b=0
 ·rw [h]; rfl
 ·have h1:((hN b:Int) == 0)=false:=by rw [beq_eq_false_iff_ne]; omega
  have h2:(hN b == 0)=false:=by rw [beq_eq_false_iff_ne]; exact h
  rw [h1,h2]
theorem first32 (c r:Bool):firstV [codeIf c 3,codeIf r 2]=if c=true then (if r=true then 0 else 2) else 3:=by cases c<;>cases r<;>rfl
theorem ph_ne5 {d:Int} {x:Ph} (h:x.1≠5):phE d x=ownE x.1 x.2.1 x.2.2.1 x.2.2.2.1 x.2.2.2.2.1 (hN x.2.2.2.2.2 == 0):=by
 unfold phE
 by_cases c:ownE x.1 x.2.1 x.2.2.1 x.2.2.2.1 x.2.2.2.2.1 (hN x.2.2.2.2.2 == 0)=0
 ·rw [if_pos c,if_neg h,c]
 ·rw [if_neg c]
theorem body_loop {n:Nat} {d:Int} (hd:0≤d∧d<3) (ih:∀ x:Ph,r67 n x.1 x.2.1 x.2.2.1 x.2.2.2.1 x.2.2.2.2.1 x.2.2.2.2.2 (d+1)=some (phE (d+1) x)) (b:Hl) (hl:hN b≤12) :
 iterC (b67_6 (r67 n) b d) 1000000000 0=some (lsE b (d+1)):=by
 have hw:IntKind.i64.wrap (d+1)=d+1:=IntWalk.i64_in _ ⟨by omega,by omega⟩
 have hbl:=hN_U b
 have h:=iter_list (τ:=Unit) (hU b) (b67_6 (r67 n) b d) (fun i _=>i) (fun _ _ x=>if phE (d+1) x=0 then .next () else .out (some (phE (d+1) x))) (fun _=>some 0) (by omega)
  (fun i t hi=>by
   simp only [b67_6,ltN hi,if_true,if_pos (rgN hi),Int.toNat_natCast,wS i (by omega),hw,ih ((hU b).getD i default),bindC]
   by_cases c:phE (d+1) ((hU b).getD i default)=0
   ·rw [if_pos c,c]; rfl
   ·rw [if_neg c,if_pos (by simpa using c)]; rfl)
  (fun t=>by simp [b67_6]) ()
 rw [h]
 exact (err_fold (d+1) (hU b) 0).trans (congrArg some (erI_lsE (d+1) b 0))
theorem phaseC:∀ (n:Nat) (d:Int),0≤d→d≤3→4≤n+d→∀ x:Ph,r67 n x.1 x.2.1 x.2.2.1 x.2.2.2.1 x.2.2.2.2.1 x.2.2.2.2.2 d=some (phE d x)
 | 0,d,h0,h3,h4,_=>by omega
 | n+1,d,h0,h3,h4,(k,p,l,t,q,b)=>by
  show q67 n (r67 n) k p l t q b d=_
  unfold q67
  rw [wit,Option.bind_some]
  by_cases hk:inR k 0 5=true
  rotate_left
  ·have e:ownE k p l t q (hN b == 0)=15:=by unfold ownE; rw [if_neg hk]
   rw [if_pos (by simpa using hk)]
   unfold phE
   simp only [e]
   rw [if_neg (by decide)]
  rw [hk,if_neg (by decide)]
  have hk':=inR_iff'.1 hk
  have cs:k=0∨k=1∨k=2∨k=3∨k=4∨k=5:=by omega
  rcases cs with rfl | rfl | rfl | rfl | rfl | rfl
  ·rw [show r96 0=some [(140,1,10000),(142,1,200)] from rfl,Option.bind_some,fields_loop (x:=(0,p,l,t,q,b)) _ (by simp) (by simp) (by simp only [b67_1,geN,Bool.false_eq_true,if_false]; exact rfl)]
   rw [if_pos (by decide),unl,Option.bind_some,unl,Option.bind_some,fst _ (by simp),Option.bind_some,if_pos (by rw [Bool.or_eq_true]; exact .inr rfl),ph_ne5 (show _≠(5:Int) by simp),first32,em_eq]
   simp [ownE,cleanB,rightB,useP,useL,useQ,fldV,inR]
  ·rw [show r96 1=some [(142,1,200)] from rfl,Option.bind_some,fields_loop (x:=(1,p,l,t,q,b)) _ (by simp) (by simp) (by simp only [b67_1,geN,Bool.false_eq_true,if_false]; exact rfl)]
   rw [if_neg (by decide),if_neg (by decide),if_neg (by decide),if_neg (by decide),unl,Option.bind_some,unl,Option.bind_some,fst _ (by simp),Option.bind_some,if_pos (by rw [Bool.or_eq_true]; exact .inr rfl),ph_ne5 (show _≠(5:Int) by simp),first32,em_eq]
   simp [ownE,cleanB,rightB,useP,useL,useQ,fldV,inR]
  ·rw [show r96 2=some [(141,0,3),(142,1,200)] from rfl,Option.bind_some,fields_loop (x:=(2,p,l,t,q,b)) _ (by simp) (by simp) (by simp only [b67_1,geN,Bool.false_eq_true,if_false]; exact rfl)]
   rw [if_neg (by decide),if_pos (by decide),unl,Option.bind_some,unl,Option.bind_some,fst _ (by simp),Option.bind_some,if_pos (by rw [Bool.or_eq_true]; exact .inr rfl),ph_ne5 (show _≠(5:Int) by simp),first32,em_eq]
   simp [ownE,cleanB,rightB,useP,useL,useQ,fldV,inR]
  ·rw [show r96 3=some [(143,200,3000),(140,1,10000),(142,1,200)] from rfl,Option.bind_some,fields_loop (x:=(3,p,l,t,q,b)) _ (by simp) (by simp) (by simp only [b67_1,geN,Bool.false_eq_true,if_false]; exact rfl)]
   rw [if_neg (by decide),if_neg (by decide),if_pos (by decide),unl,Option.bind_some,unl,Option.bind_some,fst _ (by simp),Option.bind_some,if_pos (by rw [Bool.or_eq_true]; exact .inr rfl),ph_ne5 (show _≠(5:Int) by simp),first32,em_eq]
   simp [ownE,cleanB,rightB,useP,useL,useQ,fldV,inR,and_comm,and_left_comm,and_assoc]
  ·rw [show r96 4=some [(143,200,3000),(141,0,3),(142,1,200)] from rfl,Option.bind_some,fields_loop (x:=(4,p,l,t,q,b)) _ (by simp) (by simp) (by simp only [b67_1,geN,Bool.false_eq_true,if_false]; exact rfl)]
   rw [if_neg (by decide),if_neg (by decide),if_neg (by decide),if_pos (by decide),unl,Option.bind_some,unl,Option.bind_some,fst _ (by simp),Option.bind_some,if_pos (by rw [Bool.or_eq_true]; exact .inr rfl),ph_ne5 (show _≠(5:Int) by simp),first32,em_eq]
   simp [ownE,cleanB,rightB,useP,useL,useQ,fldV,inR,and_comm,and_left_comm,and_assoc]
  ·rw [show r96 5=some [(142,1,10)] from rfl,Option.bind_some,fields_loop (x:=(5,p,l,t,q,b)) _ (by simp) (by simp) (by simp only [b67_1,geN,Bool.false_eq_true,if_false]; exact rfl)]
   rw [if_neg (by decide),if_neg (by decide),if_neg (by decide),if_neg (by decide),unl,Option.bind_some,unl,Option.bind_some,fst _ (by simp),Option.bind_some,first32,em_eq]
   have eo:(if (((p == 0) && (l == 0)) && (q == 0) && (((5:Int) == 5) || (hN b == 0)))=true then (if ([((142:Nat),(1:Int),(10:Int))].all fun f=>inR (fldV (5,p,l,t,q,b) f.1) f.2.1 f.2.2)=true then (0:Int) else 2) else 3)=ownE 5 p l t q (hN b == 0):=by
    simp [ownE,cleanB,rightB,useP,useL,useQ,fldV,inR]
   rw [eo]
   show _=some (if ownE 5 p l t q (hN b == 0)=0 then (if (5:Int)=5 then bodyE d (hN b) (lsE b (d+1)) else 0) else ownE 5 p l t q (hN b == 0))
   by_cases c:ownE 5 p l t q (hN b == 0)=0
   rotate_left
   ·rw [if_neg c,if_pos (by rw [Bool.or_eq_true]; exact .inl (by simpa using c))]
   rw [if_pos c,if_pos rfl,c,if_neg (by decide)]
   unfold bodyE
   by_cases d3:d=3
   ·rw [if_pos d3,if_pos (by simpa using d3)]
   rw [if_neg d3,if_neg (by simpa using d3),unl,Option.bind_some,unl,Option.bind_some,fst _ (by simp),Option.bind_some]
   have hbl:=hN_U b
   by_cases n0:hN b=0
   ·have e1:decide (((hU b).length:Int)>0)=false:=decide_eq_false (by omega)
    rw [if_pos n0,e1,if_pos (by rfl)]; rfl
   have e1:decide (((hU b).length:Int)>0)=true:=decide_eq_true (by omega)
   rw [if_neg n0,e1]
   by_cases n12:12<hN b
   ·have e2:decide (((hU b).length:Int)≤12)=false:=decide_eq_false (by omega)
    rw [if_pos n12,e2,if_pos (by rfl)]; rfl
   have e2:decide (((hU b).length:Int)≤12)=true:=decide_eq_true (by omega)
   rw [if_neg n12,e2,if_neg (by decide)]
   exact body_loop ⟨h0,by omega⟩ (phaseC n (d+1) (by omega) (by omega) (by omega)) b (by omega)
end Go.Proofs.YtkbdjphdhcgmaaaGreatDoor
namespace Go.Proofs.YtkbdjphdhcgmaaaGreatDoor
open Go.Abs
def flV:Hl→List Ph
 | .nil=>[]
 | .cons k p l t q b r=>(if k=5 then (List.replicate t.toNat (flV b)).flatten else [(k,p,l,t,q,b)])++flV r
def phF (x:Ph):List Ph:=if x.1=5 then (List.replicate x.2.2.2.1.toNat (flV x.2.2.2.2.2)).flatten else [x]
theorem flV_flat:∀ b:Hl,flV b=(hU b).flatMap phF
 | .nil=>by rw [flV]; rfl
 | .cons k p l t q b r=>by rw [flV,hU,List.flatMap_cons,flV_flat r]; rfl
theorem capLoop {α ρ:Type} [Inhabited α] (l:List α) (g:α→List Ph) (B:Int×List Ph→Ctl (Int×List Ph) ρ) (N E:List Ph→ρ) (hl:l.length<1000)
 (hB:∀ (i:Nat) acc,i<l.length→acc.length≤60→B ((i:Int),acc)=if (acc++g (l.getD i default)).length≤60 then .next (((i+1:Nat):Int),acc++g (l.getD i default)) else Ctl.out (some (E ((acc++g (l.getD i default)).take 61))))
 (hend:∀ acc,B ((l.length:Int),acc)=Ctl.out (some (N acc))) (acc:List Ph) (ha:acc.length≤60) :
 iterC B 1000000000 (0,acc)=some (if (acc++l.flatMap g).length≤60 then N (acc++l.flatMap g) else E ((acc++l.flatMap g).take 61)):=by
 have tk:∀ i,i<l.length→(l.take (i+1)).flatMap g=(l.take i).flatMap g++g (l.getD i default):=fun i hi=>by
  rw [List.take_add_one,List.getElem?_eq_getElem hi,List.flatMap_append,List.getD_eq_getElem?_getD,List.getElem?_eq_getElem hi]; simp
 refine iter_inv B (fun i s=>s=((i:Int),acc++(l.take i).flatMap g)∧(acc++(l.take i).flatMap g).length≤60) (fun o=>o=some (if (acc++l.flatMap g).length≤60 then N (acc++l.flatMap g) else E ((acc++l.flatMap g).take 61))) l.length ?_ ?_ _ ⟨by simp,by simpa using ha⟩ _ (by omega)
 ·rintro i _ hi ⟨rfl,hlen⟩
  rw [hB i _ hi hlen,List.append_assoc, ← tk i hi]
  by_cases c:(acc++(l.take (i+1)).flatMap g).length≤60
  ·rw [if_pos c]; exact .inl ⟨_,rfl,rfl,c⟩
  ·rw [if_neg c]
   refine .inr ⟨_,rfl,?_⟩
   have e:acc++l.flatMap g=(acc++(l.take (i+1)).flatMap g)++(l.drop (i+1)).flatMap g:=by
    rw [List.append_assoc, ← List.flatMap_append,List.take_append_drop]
   have c2:¬ (acc++l.flatMap g).length≤60:=by
    have h5:(acc++l.flatMap g).length=(acc++(l.take (i+1)).flatMap g).length+((l.drop (i+1)).flatMap g).length:=by rw [← List.length_append, ← e]
    omega
   rw [if_neg c2,e,List.take_append_of_le_length (show 61≤(acc++(l.take (i+1)).flatMap g).length by omega)]
 ·rintro _ ⟨rfl,hlen⟩
  rw [List.take_length] at hlen ⊢
  rw [hend]
  exact ⟨_,rfl,by rw [if_pos hlen]⟩
theorem rep_flat (n:Nat) (blk:List Ph):(List.replicate n ()).flatMap (fun _=>blk)=(List.replicate n blk).flatten:=by
 induction n with
 | zero=>rfl
 | succ n ih=>rw [List.replicate_succ,List.replicate_succ,List.flatMap_cons,List.flatten_cons,ih]
theorem set_last (acc:List Ph) (z x:Ph):(acc++[z]).set acc.length x=acc++[x]:=by simp
theorem ls_all {d:Int}:∀ {b:Hl},lsE b d=0→∀ x∈hU b,phE d x=0
 | .nil,_,x,hx=>by cases hx
 | .cons k p l t q b r,h,x,hx=>by
  rw [lsE_cons] at h
  by_cases c:phE d (k,p,l,t,q,b)=0
  ·rw [if_pos c] at h
   rcases List.mem_cons.1 hx with rfl | hx
   ·exact c
   ·exact ls_all h x hx
  ·rw [if_neg c] at h; exact absurd h c
theorem own_ok {k p l t q:Int} {em:Bool} (h:ownE k p l t q em=0):inR k 0 5=true∧cleanB k p l q em=true∧rightB k p l t q=true:=by
 unfold ownE at h
 cases h1:inR k 0 5<;>cases h2:cleanB k p l q em<;>cases h3:rightB k p l t q<;>rw [h1,h2,h3] at h<;>simp at h ⊢
theorem ph_rep {d:Int} {x:Ph} (h:phE d x=0) (h5:x.1=5):d≠3∧lsE x.2.2.2.2.2 (d+1)=0∧(1≤hN x.2.2.2.2.2∧hN x.2.2.2.2.2≤12)∧1≤x.2.2.2.1∧x.2.2.2.1≤10:=by
 unfold phE at h
 by_cases c:ownE x.1 x.2.1 x.2.2.1 x.2.2.2.1 x.2.2.2.2.1 (hN x.2.2.2.2.2 == 0)=0
 rotate_left
 ·rw [if_neg c] at h; exact absurd h c
 rw [if_pos c,if_pos h5] at h
 have hr:=(own_ok c).2.2
 unfold rightB at hr
 rw [if_pos h5] at hr
 simp only [Bool.and_eq_true] at hr
 have ht:=inR_iff'.1 hr.1.2
 unfold bodyE at h
 split at h
 ·cases h
 split at h
 ·cases h
 split at h
 ·cases h
 exact ⟨by assumption,h,⟨by omega,by omega⟩,ht⟩
theorem one_step {acc:List Ph} (ha:acc.length≤60) (z x:Ph) (i:Nat) {ρ:Type} (E:List Ph→ρ) (hi:i<1000) :
 (if (acc.length+1)*64≤140737488355328∧acc.length+1≤9223372036854775807 then
  if 0≤(acc.length:Int)∧(acc.length:Int)<((acc.length+1):Int) then
   if (!(decide (((acc.length+1):Int)≤60)))=true then (Ctl.out (some (E ((acc++[z]).set acc.length x))):Ctl (Int×List Ph) ρ)
   else .next (IntKind.i64.wrap ((i:Int)+1),(acc++[z]).set acc.length x)
  else .out none
  else .out none)=if (acc++[x]).length≤60 then .next (((i+1:Nat):Int),acc++[x]) else Ctl.out (some (E ((acc++[x]).take 61))):=by
 rw [if_pos ⟨by omega,by omega⟩,if_pos ⟨by omega,by omega⟩,set_last,wS i (by omega)]
 have hl:(acc++[x]).length=acc.length+1:=by simp
 by_cases c:(acc++[x]).length≤60
 ·rw [if_pos c,if_neg (by simp; omega)]; rfl
 ·rw [if_neg c,if_pos (by simp; omega),List.take_of_length_le (by omega)]
section
variable {a0:List Ph} {x1 x3 x5:Ph} {s1 s3 s5:Int×List Ph}
theorem lev7 (s6:Int×List Ph) (h1:a0.getD s1.1.toNat default=x1) (h3:(hU x1.2.2.2.2.2).getD s3.1.toNat default=x3) (h5:(hU x3.2.2.2.2.2).getD s5.1.toNat default=x5) (ok:lsE x5.2.2.2.2.2 3=0) (hl:hN x5.2.2.2.2.2≤12) (acc:List Ph) (ha:acc.length≤60) :
 iterC (b38_7 a0 s1 s3 s5 s6) 1000000000 (0,acc)=some (if (acc++flV x5.2.2.2.2.2).length≤60 then .next (IntKind.i64.wrap (s6.1+1),acc++flV x5.2.2.2.2.2) else Ctl.out (some (Ctl.out (some (Ctl.out (some (Ctl.out (some (Ctl.out (some (Ctl.out (some ((acc++flV x5.2.2.2.2.2).take 61))))))))))))):=by
 have hbl:=hN_U x5.2.2.2.2.2
 rw [flV_flat]
 refine capLoop (hU x5.2.2.2.2.2) phF _ (fun X=>Ctl.next (IntKind.i64.wrap (s6.1+1),X)) (fun X=>Ctl.out (some (Ctl.out (some (Ctl.out (some (Ctl.out (some (Ctl.out (some (Ctl.out (some X)))))))))))) (by omega) ?_ ?_ acc ha
 ·intro i acc hi ha
  have hx:=ls_all ok _ (getD_mem hi)
  have n5:((hU x5.2.2.2.2.2).getD i default).1≠5:=fun h=>(ph_rep hx h).1 rfl
  have hf:phF ((hU x5.2.2.2.2.2).getD i default)=[(hU x5.2.2.2.2.2).getD i default]:=if_neg n5
  rw [hf]
  simp only [b38_7,h1,h3,h5,ltN hi,if_true,if_pos (rgN hi),Int.toNat_natCast,if_pos (show (((hU x5.2.2.2.2.2).getD i default).1 != 5)=true by simpa using n5)]
  exact one_step ha _ _ i (fun X=>Ctl.out (some (Ctl.out (some (Ctl.out (some (Ctl.out (some (Ctl.out (some (Ctl.out (some X)))))))))))) (by omega)
 ·intro acc
  simp only [b38_7,h1,h3,h5,geN,Bool.false_eq_true,if_false]
theorem lev6 (h1:a0.getD s1.1.toNat default=x1) (h3:(hU x1.2.2.2.2.2).getD s3.1.toNat default=x3) (h5:(hU x3.2.2.2.2.2).getD s5.1.toNat default=x5) (ok:lsE x5.2.2.2.2.2 3=0) (hl:hN x5.2.2.2.2.2≤12) (ht:1≤x5.2.2.2.1∧x5.2.2.2.1≤10) (acc:List Ph) (ha:acc.length≤60) :
 iterC (b38_6 a0 s1 s3 s5) 1000000000 (0,acc)=some (if (acc++(List.replicate x5.2.2.2.1.toNat (flV x5.2.2.2.2.2)).flatten).length≤60 then .next (IntKind.i64.wrap (s5.1+1),acc++(List.replicate x5.2.2.2.1.toNat (flV x5.2.2.2.2.2)).flatten) else Ctl.out (some (Ctl.out (some (Ctl.out (some (Ctl.out (some (Ctl.out (some ((acc++(List.replicate x5.2.2.2.1.toNat (flV x5.2.2.2.2.2)).flatten).take 61))))))))))):=by
 rw [← rep_flat]
 refine capLoop (List.replicate x5.2.2.2.1.toNat ()) (fun _=>flV x5.2.2.2.2.2) _ (fun X=>Ctl.next (IntKind.i64.wrap (s5.1+1),X)) (fun X=>Ctl.out (some (Ctl.out (some (Ctl.out (some (Ctl.out (some (Ctl.out (some X)))))))))) (by simp; omega) ?_ ?_ acc ha
 ·intro i acc hi ha
  simp only [List.length_replicate] at hi
  have g1:decide ((i:Int)<x5.2.2.2.1)=true:=decide_eq_true (by omega)
  simp only [b38_6,h1,h3,h5,g1,if_true]
  rw [lev7 _ h1 h3 h5 ok hl acc ha,Option.getD_some]
  simp only [wS i (by omega)]
  rfl
 ·intro acc
  simp only [List.length_replicate]
  have g1:decide (((x5.2.2.2.1.toNat:Nat):Int)<x5.2.2.2.1)=false:=decide_eq_false (by omega)
  simp only [b38_6,h1,h3,h5,g1,Bool.false_eq_true,if_false]
theorem lev5 (s4:Int×List Ph) (h1:a0.getD s1.1.toNat default=x1) (h3:(hU x1.2.2.2.2.2).getD s3.1.toNat default=x3) (ok:lsE x3.2.2.2.2.2 2=0) (hl:hN x3.2.2.2.2.2≤12) (acc:List Ph) (ha:acc.length≤60) :
 iterC (b38_5 a0 s1 s3 s4) 1000000000 (0,acc)=some (if (acc++flV x3.2.2.2.2.2).length≤60 then .next (IntKind.i64.wrap (s4.1+1),acc++flV x3.2.2.2.2.2) else Ctl.out (some (Ctl.out (some (Ctl.out (some (Ctl.out (some ((acc++flV x3.2.2.2.2.2).take 61))))))))):=by
 have hbl:=hN_U x3.2.2.2.2.2
 rw [flV_flat]
 refine capLoop (hU x3.2.2.2.2.2) phF _ (fun X=>Ctl.next (IntKind.i64.wrap (s4.1+1),X)) (fun X=>Ctl.out (some (Ctl.out (some (Ctl.out (some (Ctl.out (some X)))))))) (by omega) ?_ ?_ acc ha
 ·intro i acc hi ha
  have hx:=ls_all ok _ (getD_mem hi)
  by_cases n5:((hU x3.2.2.2.2.2).getD i default).1=5
  ·obtain ⟨_,k2,k3,k4⟩:=ph_rep hx n5
   have hf:phF ((hU x3.2.2.2.2.2).getD i default)=(List.replicate ((hU x3.2.2.2.2.2).getD i default).2.2.2.1.toNat (flV ((hU x3.2.2.2.2.2).getD i default).2.2.2.2.2)).flatten:=if_pos n5
   simp only [b38_5,h1,h3,ltN hi,if_true,if_pos (rgN hi),Int.toNat_natCast,if_neg (show ¬ ((((hU x3.2.2.2.2.2).getD i default).1 != 5)=true) by simpa using n5)]
   rw [lev6 (s5:=((i:Int),acc)) h1 h3 (by rw [Int.toNat_natCast]) k2 k3.2 k4 acc ha,Option.getD_some,hf]
   simp only [wS i (by omega)]
   rfl
  ·have hf:phF ((hU x3.2.2.2.2.2).getD i default)=[(hU x3.2.2.2.2.2).getD i default]:=if_neg n5
   rw [hf]
   simp only [b38_5,h1,h3,ltN hi,if_true,if_pos (rgN hi),Int.toNat_natCast,if_pos (show (((hU x3.2.2.2.2.2).getD i default).1 != 5)=true by simpa using n5)]
   exact one_step ha _ _ i (fun X=>Ctl.out (some (Ctl.out (some (Ctl.out (some (Ctl.out (some X)))))))) (by omega)
 ·intro acc
  simp only [b38_5,h1,h3,geN,Bool.false_eq_true,if_false]
theorem lev4 (h1:a0.getD s1.1.toNat default=x1) (h3:(hU x1.2.2.2.2.2).getD s3.1.toNat default=x3) (ok:lsE x3.2.2.2.2.2 2=0) (hl:hN x3.2.2.2.2.2≤12) (ht:1≤x3.2.2.2.1∧x3.2.2.2.1≤10) (acc:List Ph) (ha:acc.length≤60) :
 iterC (b38_4 a0 s1 s3) 1000000000 (0,acc)=some (if (acc++(List.replicate x3.2.2.2.1.toNat (flV x3.2.2.2.2.2)).flatten).length≤60 then .next (IntKind.i64.wrap (s3.1+1),acc++(List.replicate x3.2.2.2.1.toNat (flV x3.2.2.2.2.2)).flatten) else Ctl.out (some (Ctl.out (some (Ctl.out (some ((acc++(List.replicate x3.2.2.2.1.toNat (flV x3.2.2.2.2.2)).flatten).take 61))))))):=by
 rw [← rep_flat]
 refine capLoop (List.replicate x3.2.2.2.1.toNat ()) (fun _=>flV x3.2.2.2.2.2) _ (fun X=>Ctl.next (IntKind.i64.wrap (s3.1+1),X)) (fun X=>Ctl.out (some (Ctl.out (some (Ctl.out (some X)))))) (by simp; omega) ?_ ?_ acc ha
 ·intro i acc hi ha
  simp only [List.length_replicate] at hi
  have g1:decide ((i:Int)<x3.2.2.2.1)=true:=decide_eq_true (by omega)
  simp only [b38_4,h1,h3,g1,if_true]
  rw [lev5 _ h1 h3 ok hl acc ha,Option.getD_some]
  simp only [wS i (by omega)]
  rfl
 ·intro acc
  simp only [List.length_replicate]
  have g1:decide (((x3.2.2.2.1.toNat:Nat):Int)<x3.2.2.2.1)=false:=decide_eq_false (by omega)
  simp only [b38_4,h1,h3,g1,Bool.false_eq_true,if_false]
theorem lev3 (s2:Int×List Ph) (h1:a0.getD s1.1.toNat default=x1) (ok:lsE x1.2.2.2.2.2 1=0) (hl:hN x1.2.2.2.2.2≤12) (acc:List Ph) (ha:acc.length≤60) :
 iterC (b38_3 a0 s1 s2) 1000000000 (0,acc)=some (if (acc++flV x1.2.2.2.2.2).length≤60 then .next (IntKind.i64.wrap (s2.1+1),acc++flV x1.2.2.2.2.2) else Ctl.out (some (Ctl.out (some ((acc++flV x1.2.2.2.2.2).take 61))))):=by
 have hbl:=hN_U x1.2.2.2.2.2
 rw [flV_flat]
 refine capLoop (hU x1.2.2.2.2.2) phF _ (fun X=>Ctl.next (IntKind.i64.wrap (s2.1+1),X)) (fun X=>Ctl.out (some (Ctl.out (some X)))) (by omega) ?_ ?_ acc ha
 ·intro i acc hi ha
  have hx:=ls_all ok _ (getD_mem hi)
  by_cases n5:((hU x1.2.2.2.2.2).getD i default).1=5
  ·obtain ⟨_,k2,k3,k4⟩:=ph_rep hx n5
   have hf:phF ((hU x1.2.2.2.2.2).getD i default)=(List.replicate ((hU x1.2.2.2.2.2).getD i default).2.2.2.1.toNat (flV ((hU x1.2.2.2.2.2).getD i default).2.2.2.2.2)).flatten:=if_pos n5
   simp only [b38_3,h1,ltN hi,if_true,if_pos (rgN hi),Int.toNat_natCast,if_neg (show ¬ ((((hU x1.2.2.2.2.2).getD i default).1 != 5)=true) by simpa using n5)]
   rw [lev4 (s3:=((i:Int),acc)) h1 (by rw [Int.toNat_natCast]) k2 k3.2 k4 acc ha,Option.getD_some,hf]
   simp only [wS i (by omega)]
   rfl
  ·have hf:phF ((hU x1.2.2.2.2.2).getD i default)=[(hU x1.2.2.2.2.2).getD i default]:=if_neg n5
   rw [hf]
   simp only [b38_3,h1,ltN hi,if_true,if_pos (rgN hi),Int.toNat_natCast,if_pos (show (((hU x1.2.2.2.2.2).getD i default).1 != 5)=true by simpa using n5)]
   exact one_step ha _ _ i (fun X=>Ctl.out (some (Ctl.out (some X)))) (by omega)
 ·intro acc
  simp only [b38_3,h1,geN,Bool.false_eq_true,if_false]
theorem lev2 (h1:a0.getD s1.1.toNat default=x1) (ok:lsE x1.2.2.2.2.2 1=0) (hl:hN x1.2.2.2.2.2≤12) (ht:1≤x1.2.2.2.1∧x1.2.2.2.1≤10) (acc:List Ph) (ha:acc.length≤60) :
 iterC (b38_2 a0 s1) 1000000000 (0,acc)=some (if (acc++(List.replicate x1.2.2.2.1.toNat (flV x1.2.2.2.2.2)).flatten).length≤60 then .next (IntKind.i64.wrap (s1.1+1),acc++(List.replicate x1.2.2.2.1.toNat (flV x1.2.2.2.2.2)).flatten) else Ctl.out (some ((acc++(List.replicate x1.2.2.2.1.toNat (flV x1.2.2.2.2.2)).flatten).take 61))):=by
 rw [← rep_flat]
 refine capLoop (List.replicate x1.2.2.2.1.toNat ()) (fun _=>flV x1.2.2.2.2.2) _ (fun X=>Ctl.next (IntKind.i64.wrap (s1.1+1),X)) (fun X=>Ctl.out (some X)) (by simp; omega) ?_ ?_ acc ha
 ·intro i acc hi ha
  simp only [List.length_replicate] at hi
  have g1:decide ((i:Int)<x1.2.2.2.1)=true:=decide_eq_true (by omega)
  simp only [b38_2,h1,g1,if_true]
  rw [lev3 _ h1 ok hl acc ha,Option.getD_some]
  simp only [wS i (by omega)]
  rfl
 ·intro acc
  simp only [List.length_replicate]
  have g1:decide (((x1.2.2.2.1.toNat:Nat):Int)<x1.2.2.2.1)=false:=decide_eq_false (by omega)
  simp only [b38_2,h1,g1,Bool.false_eq_true,if_false]
end
theorem flatC {l:List Ph} (ok:∀ x∈l,phE 0 x=0) (hl:l.length≤12):r38 l=some ((l.flatMap phF).take 61):=by
 unfold r38
 rw [capLoop l phF (b38_1 l) (fun X=>X) (fun X=>X) (by omega) ?_ ?_ [] (by simp)]
 ·rw [List.nil_append]
  split
  ·rw [List.take_of_length_le (by omega)]
  ·rfl
 ·intro i acc hi ha
  have hx:=ok _ (getD_mem hi)
  by_cases n5:(l.getD i default).1=5
  ·obtain ⟨_,k2,k3,k4⟩:=ph_rep hx n5
   have hf:phF (l.getD i default)=(List.replicate (l.getD i default).2.2.2.1.toNat (flV (l.getD i default).2.2.2.2.2)).flatten:=if_pos n5
   simp only [b38_1,ltN hi,if_true,if_pos (rgN hi),Int.toNat_natCast,if_neg (show ¬ (((l.getD i default).1 != 5)=true) by simpa using n5)]
   rw [lev2 (s1:=((i:Int),acc)) (by rw [Int.toNat_natCast]) k2 k3.2 k4 acc ha,Option.getD_some,hf]
   simp only [wS i (by omega)]
   rfl
  ·have hf:phF (l.getD i default)=[l.getD i default]:=if_neg n5
   rw [hf]
   simp only [b38_1,ltN hi,if_true,if_pos (rgN hi),Int.toNat_natCast,if_pos (show ((l.getD i default).1 != 5)=true by simpa using n5)]
   exact one_step ha _ _ i (fun X=>X) (by omega)
 ·intro acc
  simp only [b38_1,geN,Bool.false_eq_true,if_false]
end Go.Proofs.YtkbdjphdhcgmaaaGreatDoor
namespace Go.Proofs.YtkbdjphdhcgmaaaGreatDoor
open Go.Abs
def flL (l:List Ph):List Ph:=l.flatMap phF
def coldB (k:Int):Bool:=k == 2 || k == 4
def recE (l:List Ph):Int×Int:=
 if l.length=0 then (0,10) else if 12<l.length then (0,8) else
 if (erI 0 0 l).2=0 then (if (flL l).length≤60 then (if coldB ((flL l).getD ((flL l).length - 1) default).1=true then (0,0) else (0,20)) else (0,8)) else erI 0 0 l
theorem fl_ne:∀ (b:Hl) (d:Int),lsE b d=0→1≤hN b→1≤(flV b).length
 | .nil,_,_,h=>by simp [hN] at h
 | .cons k p l t q b r,d,h,_=>by
  have hx:=ls_all h (k,p,l,t,q,b) (by simp [hU])
  rw [flV,List.length_append]
  by_cases k5:k=5
  ·obtain ⟨_,k2,k3,k4⟩:=ph_rep hx k5
   simp only at k2 k3 k4
   have ih:=fl_ne b (d+1) k2 k3.1
   obtain ⟨n,hn⟩:∃ n,t.toNat=n+1:=⟨t.toNat - 1,by omega⟩
   rw [if_pos k5,hn,List.replicate_succ,List.flatten_cons,List.length_append]; omega
  ·rw [if_neg k5]; simp
theorem phF_ne {d:Int} {x:Ph} (h:phE d x=0):1≤(phF x).length:=by
 unfold phF
 by_cases k5:x.1=5
 ·obtain ⟨_,k2,k3,k4⟩:=ph_rep h k5
  have ih:=fl_ne _ _ k2 k3.1
  obtain ⟨n,hn⟩:∃ n,x.2.2.2.1.toNat=n+1:=⟨x.2.2.2.1.toNat - 1,by omega⟩
  rw [if_pos k5,hn,List.replicate_succ,List.flatten_cons,List.length_append]; omega
 ·rw [if_neg k5]; simp
theorem er_all {d:Int}:∀ {l:List Ph} {i:Int},(erI d i l).2=0→∀ x∈l,phE d x=0
 | [],_,_,x,hx=>by cases hx
 | y::r,i,h,x,hx=>by
  rw [erI] at h
  by_cases c:phE d y=0
  ·rw [if_pos c] at h
   rcases List.mem_cons.1 hx with rfl | hx
   ·exact c
   ·exact er_all h x hx
  ·rw [if_neg c] at h; exact absurd h c
theorem cold (k:Int):r41 k=some (coldB k):=rfl
theorem recEndC {l:List Ph} (ok:∀ x∈l,phE 0 x=0) (hl:1≤l.length∧l.length≤12) :
 ((r38 l).bind fun v18=>
  (r40 (decide ((v18.length:Int)≤60)) 8).bind fun v19=>
   if 0≤IntKind.i64.wrap ((v18.length:Int) - 1)∧IntKind.i64.wrap ((v18.length:Int) - 1)<(v18.length:Int) then
    (r41 ((v18.getD (IntKind.i64.wrap ((v18.length:Int) - 1)).toNat default).1)).bind fun v20=>
     (r40 v20 20).bind fun v21=>
      (r39 [v19,v21]).bind fun v22=>
       some ((0:Int),v22)
    else none)=some (if (flL l).length≤60 then (if coldB ((flL l).getD ((flL l).length - 1) default).1=true then (0,0) else (0,20)) else (0,8)):=by
 rw [flatC ok hl.2,Option.bind_some]
 change (_:Option (Int×Int))=_
 have hne:1≤(flL l).length:=by
  match l,hl with
  | x::r,_=>
   have:=phF_ne (ok x (by simp))
   unfold flL; rw [List.flatMap_cons,List.length_append]; omega
 change ((r40 (decide ((((flL l).take 61).length:Int)≤60)) 8).bind fun v19=>_)=_
 have htl:((flL l).take 61).length=min 61 (flL l).length:=List.length_take
 have hw:IntKind.i64.wrap ((((flL l).take 61).length:Int) - 1)=((((flL l).take 61).length - 1:Nat):Int):=by rw [IntWalk.i64_in _ ⟨by omega,by omega⟩]; omega
 rw [unl,Option.bind_some]
 change (if 0≤IntKind.i64.wrap ((((flL l).take 61).length:Int) - 1)∧IntKind.i64.wrap ((((flL l).take 61).length:Int) - 1)<(((flL l).take 61).length:Int) then
  (r41 ((((flL l).take 61).getD (IntKind.i64.wrap ((((flL l).take 61).length:Int) - 1)).toNat default).1)).bind fun v20=>
   (r40 v20 20).bind fun v21=>
    (r39 [_,v21]).bind fun v22=>
     some ((0:Int),v22)
  else none)=_
 rw [hw,if_pos ⟨by omega,by omega⟩,Int.toNat_natCast,cold,Option.bind_some,unl,Option.bind_some,fst _ (by simp),Option.bind_some]
 by_cases c:(flL l).length≤60
 ·have e:(flL l).take 61=flL l:=List.take_of_length_le (by omega)
  rw [e,if_pos c,decide_eq_true (by omega:((flL l).length:Int)≤60)]
  cases coldB ((flL l).getD ((flL l).length - 1) default).1<;>rfl
 ·rw [if_neg c,decide_eq_false (by omega:¬ (((flL l).take 61).length:Int)≤60)]
  cases coldB (((flL l).take 61).getD (((flL l).take 61).length - 1) default).1<;>rfl
theorem checkC {l:List Ph} (hl:l.length<1000000):r8 l=some (recE l):=by
 unfold r8 recE
 rw [unl,Option.bind_some,unl,Option.bind_some,fst _ (by simp),Option.bind_some]
 by_cases c0:l.length=0
 ·have e1:decide ((l.length:Int)>0)=false:=decide_eq_false (by omega)
  rw [if_pos c0,e1]
  have e2:firstV [codeIf false 10,codeIf (decide ((l.length:Int)≤12)) 8]=10:=rfl
  rw [e2,if_pos (by decide),if_pos (by decide)]
 have e1:decide ((l.length:Int)>0)=true:=decide_eq_true (by omega)
 rw [if_neg c0,e1]
 by_cases c1:12<l.length
 ·have e2:decide ((l.length:Int)≤12)=false:=decide_eq_false (by omega)
  rw [if_pos c1,e2]
  have e3:firstV [codeIf true 10,codeIf false 8]=8:=rfl
  rw [e3,if_pos (by decide),if_pos (by decide)]
 have e2:decide ((l.length:Int)≤12)=true:=decide_eq_true (by omega)
 rw [if_neg c1,e2]
 have e3:firstV [codeIf true 10,codeIf true 8]=0:=rfl
 rw [e3,if_neg (by decide)]
 have h:=iter_list (τ:=Unit) l (b8_1 l) (fun i _=>i) (fun i _ x=>if phE 0 x=0 then .next () else .out (some (i,phE 0 x))) (fun _=>((r38 l).bind fun v18=>
  (r40 (decide ((v18.length:Int)≤60)) 8).bind fun v19=>
   if 0≤IntKind.i64.wrap ((v18.length:Int) - 1)∧IntKind.i64.wrap ((v18.length:Int) - 1)<(v18.length:Int) then
    (r41 ((v18.getD (IntKind.i64.wrap ((v18.length:Int) - 1)).toNat default).1)).bind fun v20=>
     (r40 v20 20).bind fun v21=>
      (r39 [v19,v21]).bind fun v22=>
       some ((0:Int),v22)
    else none)) (by omega)
  (fun i t hi=>by
   simp only [b8_1,ltN hi,if_true,if_pos (rgN hi),Int.toNat_natCast,wS i (by omega),phaseC 7 0 (by decide) (by decide) (by decide) (l.getD i default),bindC]
   by_cases c:phE 0 (l.getD i default)=0
   ·rw [if_pos c,c]; rfl
   ·have c2:(phE 0 (l.getD i default) != 0)=true:=by simpa using c
    simp only [c2,if_true]
    rw [if_neg c]; rfl)
  (fun t=>by simp only [b8_1,geN,Bool.false_eq_true,if_false]) ()
 rw [h]
 have h2:=err_foldI 0 (some (if (flL l).length≤60 then (if coldB ((flL l).getD ((flL l).length - 1) default).1=true then (0,0) else (0,20)) else (0,8))) l 0
 by_cases c:(erI 0 0 l).2=0
 ·rw [recEndC (er_all c) ⟨by omega,by omega⟩]
  rw [if_pos c] at h2 ⊢
  exact h2
 ·have h3:=err_foldI 0 ((r38 l).bind fun v18=>
   (r40 (decide ((v18.length:Int)≤60)) 8).bind fun v19=>
    if 0≤IntKind.i64.wrap ((v18.length:Int) - 1)∧IntKind.i64.wrap ((v18.length:Int) - 1)<(v18.length:Int) then
     (r41 ((v18.getD (IntKind.i64.wrap ((v18.length:Int) - 1)).toNat default).1)).bind fun v20=>
      (r40 v20 20).bind fun v21=>
       (r39 [v19,v21]).bind fun v22=>
        some ((0:Int),v22)
     else none) l 0
  rw [if_neg c] at h3 ⊢
  exact h3
theorem rec_ok {l:List Ph} (h:(recE l).2=0):(1≤l.length∧l.length≤12)∧(∀ x∈l,phE 0 x=0)∧(flL l).length≤60∧1≤(flL l).length∧coldB ((flL l).getD ((flL l).length - 1) default).1=true:=by
 unfold recE at h
 split at h
 ·cases h
 split at h
 ·cases h
 split at h
 ·rename_i h0 h1 h2
  split at h
  ·rename_i h3
   split at h
   ·rename_i h4
    refine ⟨⟨by omega,by omega⟩,er_all h2,h3,?_,h4⟩
    match l,h0,er_all h2 with
    | x::r,_,ok=>
     have:=phF_ne (ok x (by simp))
     unfold flL; rw [List.flatMap_cons,List.length_append]; omega
   ·cases h
  ·cases h
 ·rename_i h2; exact absurd h h2
theorem flattenC {l:List Ph} (hl:l.length<1000000):r10 l=some (if (recE l).2=0 then (flL l,0) else ([],(recE l).2)):=by
 unfold r10
 rw [checkC hl,Option.bind_some]
 by_cases c:(recE l).2=0
 ·obtain ⟨h1,h2,h3,_⟩:=rec_ok c
  rw [if_neg (by simpa using c),if_pos c,flatC h2 h1.2,Option.bind_some]
  change some ((flL l).take 61,(0:Int))=_
  rw [List.take_of_length_le (by omega)]
 ·rw [if_pos (by simpa using c),if_neg c]
end Go.Proofs.YtkbdjphdhcgmaaaGreatDoor

/- Recipes: the errors of phases by the code. -/
import Derived.Test.YtnepigpnlnmlmaaGreatDoorF03
import Derived.Test.YtnepigpnlnmlmaaGreatDoorClB
set_option linter.unusedVariables false
set_option linter.unusedSimpArgs false
namespace Go.Proofs.YtnepigpnlnmlmaaGreatDoor
open Go.Abs
abbrev Ph:=Int×Int×Int×Int×Int×Hl
def useP (k:Int):Bool:=k == 0 || k == 3
def useL (k:Int):Bool:=k == 2 || k == 4
def useQ (k:Int):Bool:=k == 3 || k == 4
def cleanB (k p l q:Int) (em:Bool):Bool:=(useP k || p == 0) && (useL k || l == 0) && (useQ k || q == 0) && (k == 5 || em)
def rightB (k p l t q:Int):Bool:=(!useP k || inR p 1 10000) && (!useL k || inR l 0 3) && inR t 1 (if k=5 then 10 else 200) && (!useQ k || inR q 200 3000)
def ownE (k p l t q:Int) (em:Bool):Int:=if inR k 0 5=true then (if cleanB k p l q em=true then (if rightB k p l t q=true then 0 else 2) else 3) else 15
def bodyE (d:Int) (n:Nat) (e:Int):Int:=if d=3 then 16 else if n=0 then 10 else if 12<n then 8 else e
def lsE:Hl→Int→Int
 | .nil,_=>0
 | .cons k p l t q b r,d=>
  if (if ownE k p l t q (hN b == 0)=0 then (if k=5 then bodyE d (hN b) (lsE b (d+1)) else 0) else ownE k p l t q (hN b == 0))=0 then lsE r d
  else (if ownE k p l t q (hN b == 0)=0 then (if k=5 then bodyE d (hN b) (lsE b (d+1)) else 0) else ownE k p l t q (hN b == 0))
def phE (d:Int) (x:Ph):Int:=
 if ownE x.1 x.2.1 x.2.2.1 x.2.2.2.1 x.2.2.2.2.1 (hN x.2.2.2.2.2 == 0)=0 then (if x.1=5 then bodyE d (hN x.2.2.2.2.2) (lsE x.2.2.2.2.2 (d+1)) else 0) else ownE x.1 x.2.1 x.2.2.1 x.2.2.2.1 x.2.2.2.2.1 (hN x.2.2.2.2.2 == 0)
theorem lsE_cons (k p l t q:Int) (b r:Hl) (d:Int):lsE (.cons k p l t q b r) d=if phE d (k,p,l,t,q,b)=0 then lsE r d else phE d (k,p,l,t,q,b):=by
 rw [lsE]; rfl
def erI (d:Int):Int→List Ph→Int×Int
 | _,[]=>(0,0)
 | i,x::r=>if phE d x=0 then erI d (i+1) r else (i,phE d x)
theorem erI_lsE (d:Int):∀ (b:Hl) (i:Int),(erI d i (hU b)).2=lsE b d
 | .nil,_=>by rw [lsE]; rfl
 | .cons k p l t q b r,i=>by
  rw [lsE_cons,hU,erI]
  by_cases h:phE d (k,p,l,t,q,b)=0
  ·rw [if_pos h,if_pos h]; exact erI_lsE d r (i+1)
  ·rw [if_neg h,if_neg h]
def fldV (x:Ph) (f:Nat):Int:=if f=245 then x.2.1 else if f=246 then x.2.2.1 else if f=247 then x.2.2.2.1 else x.2.2.2.2.1
theorem err_fold (d:Int):∀ (r:List Ph) (i:Int),foldC (fun i _ x=>if phE d x=0 then (.next ():Ctl Unit Int) else .out (some (phE d x))) (fun _:Unit=>some 0) i r ()=some (erI d i r).2
 | [],_=>rfl
 | x::r,i=>by
  simp only [foldC,erI]
  by_cases h:phE d x=0
  ·simp only [if_pos h]; exact err_fold d r _
  ·simp only [if_neg h]
theorem err_foldI (d:Int) (fin:Option (Int×Int)):∀ (r:List Ph) (i:Int),foldC (fun i _ x=>if phE d x=0 then (.next ():Ctl Unit (Int×Int)) else .out (some (i,phE d x))) (fun _:Unit=>fin) i r ()=if (erI d i r).2=0 then fin else some (erI d i r)
 | [],_=>rfl
 | x::r,i=>by
  simp only [foldC,erI]
  by_cases h:phE d x=0
  ·simp only [if_pos h]; exact err_foldI d fin r _
  ·simp only [if_neg h]
theorem fields_loop {R:Int→Int→Int→Int→Int→Hl→Int→Option Int} {x:Ph} {d:Int} (fs:List (Nat×Int×Int)) (hf:∀ f∈fs,f.1=245∨f.1=246∨f.1=247∨f.1=248) (hl:fs.length<10) {o:Option Int}
 (he:b128_1 R x.1 x.2.1 x.2.2.1 x.2.2.2.1 x.2.2.2.2.1 x.2.2.2.2.2 d fs (fs.all (fun f=>inR (fldV x f.1) f.2.1 f.2.2),(fs.length:Int))= .out o) :
 iterC (b128_1 R x.1 x.2.1 x.2.2.1 x.2.2.2.1 x.2.2.2.2.1 x.2.2.2.2.2 d fs) 1000000000 (true,0)=o:=by
 refine iter_inv _ (fun i s=>s=((fs.take i).all (fun f=>inR (fldV x f.1) f.2.1 f.2.2),(i:Int))) (fun r=>r=o) fs.length ?_ ?_ _ rfl _ (by omega)
 ·rintro i _ hi rfl
  have ht:(fs.take (i+1)).all (fun f=>inR (fldV x f.1) f.2.1 f.2.2)=((fs.take i).all (fun f=>inR (fldV x f.1) f.2.1 f.2.2) && inR (fldV x (fs.getD i default).1) (fs.getD i default).2.1 (fs.getD i default).2.2):=by
   rw [List.take_add_one,List.getElem?_eq_getElem hi,List.all_append,List.getD_eq_getElem?_getD,List.getElem?_eq_getElem hi]
   simp
  refine .inl ⟨_,?_,rfl⟩
  rw [ht]
  have hm:=hf _ (getD_mem hi)
  simp only [b128_1,ltN hi,if_true,if_pos (rgN hi),Int.toNat_natCast,wS i (by omega),r245,r246,r247,r248,wit,Option.isSome_some,implies_true,Option.getD_some]
  rcases hm with h | h | h | h<;>simp only [h,fldV,if_true,show ¬ (246:Nat)=245 by decide,show ¬ (247:Nat)=245 by decide,show ¬ (247:Nat)=246 by decide,show ¬ (248:Nat)=245 by decide,show ¬ (248:Nat)=246 by decide,show ¬ (248:Nat)=247 by decide,if_false]<;>rfl
 ·rintro _ rfl
  rw [List.take_length]
  exact ⟨o,he,rfl⟩
theorem em_eq (b:Hl):((((hU b).length:Int)) == 0)=(hN b == 0):=by
 rw [hN_U]
 by_cases h:hN b=0
 ·rw [h]; rfl
 ·have h1:((hN b:Int) == 0)=false:=by rw [beq_eq_false_iff_ne]; omega
  have h2:(hN b == 0)=false:=by rw [beq_eq_false_iff_ne]; exact h
  rw [h1,h2]
theorem first32 (c r:Bool):firstV [codeIf c 3,codeIf r 2]=if c=true then (if r=true then 0 else 2) else 3:=by cases c<;>cases r<;>rfl
theorem ph_ne5 {d:Int} {x:Ph} (h:x.1≠5):phE d x=ownE x.1 x.2.1 x.2.2.1 x.2.2.2.1 x.2.2.2.2.1 (hN x.2.2.2.2.2 == 0):=by
 unfold phE
 by_cases c:ownE x.1 x.2.1 x.2.2.1 x.2.2.2.1 x.2.2.2.2.1 (hN x.2.2.2.2.2 == 0)=0
 ·rw [if_pos c,if_neg h,c]
 ·rw [if_neg c]
theorem body_loop {n:Nat} {d:Int} (hd:0≤d∧d<3) (ih:∀ x:Ph,r128 n x.1 x.2.1 x.2.2.1 x.2.2.2.1 x.2.2.2.2.1 x.2.2.2.2.2 (d+1)=some (phE (d+1) x)) (b:Hl) (hl:hN b≤12) :
 iterC (b128_6 (r128 n) b d) 1000000000 0=some (lsE b (d+1)):=by
 have hw:IntKind.i64.wrap (d+1)=d+1:=IntWalk.i64_in _ ⟨by omega,by omega⟩
 have hbl:=hN_U b
 have h:=iter_list (τ:=Unit) (hU b) (b128_6 (r128 n) b d) (fun i _=>i) (fun _ _ x=>if phE (d+1) x=0 then .next () else .out (some (phE (d+1) x))) (fun _=>some 0) (by omega)
  (fun i t hi=>by
   simp only [b128_6,ltN hi,if_true,if_pos (rgN hi),Int.toNat_natCast,wS i (by omega),hw,ih ((hU b).getD i default),bindC]
   by_cases c:phE (d+1) ((hU b).getD i default)=0
   ·rw [if_pos c,c]; rfl
   ·rw [if_neg c,if_pos (by simpa using c)]; rfl)
  (fun t=>by simp [b128_6]) ()
 rw [h]
 exact (err_fold (d+1) (hU b) 0).trans (congrArg some (erI_lsE (d+1) b 0))
theorem phaseC:∀ (n:Nat) (d:Int),0≤d→d≤3→4≤n+d→∀ x:Ph,r128 n x.1 x.2.1 x.2.2.1 x.2.2.2.1 x.2.2.2.2.1 x.2.2.2.2.2 d=some (phE d x)
 | 0,d,h0,h3,h4,_=>by omega
 | n+1,d,h0,h3,h4,(k,p,l,t,q,b)=>by
  show q128 n (r128 n) k p l t q b d=_
  unfold q128
  rw [wit,Option.bind_some]
  by_cases hk:inR k 0 5=true
  rotate_left
  ·have e:ownE k p l t q (hN b == 0)=15:=by unfold ownE; rw [if_neg hk]
   rw [if_pos (by simpa using hk)]
   unfold phE
   simp only [e]
   rw [if_neg (by decide)]
  rw [hk,if_neg (by decide)]
  have hk':=inR_iff'.1 hk
  have cs:k=0∨k=1∨k=2∨k=3∨k=4∨k=5:=by omega
  rcases cs with rfl | rfl | rfl | rfl | rfl | rfl
  ·rw [show r188 0=some [(245,1,10000),(247,1,200)] from rfl,Option.bind_some,fields_loop (x:=(0,p,l,t,q,b)) _ (by simp) (by simp) (by simp only [b128_1,geN,Bool.false_eq_true,if_false]; exact rfl)]
   rw [if_pos (by decide),unl,Option.bind_some,unl,Option.bind_some,fst _ (by simp),Option.bind_some,if_pos (by rw [Bool.or_eq_true]; exact .inr rfl),ph_ne5 (show _≠(5:Int) by simp),first32,em_eq]
   simp [ownE,cleanB,rightB,useP,useL,useQ,fldV,inR]
  ·rw [show r188 1=some [(247,1,200)] from rfl,Option.bind_some,fields_loop (x:=(1,p,l,t,q,b)) _ (by simp) (by simp) (by simp only [b128_1,geN,Bool.false_eq_true,if_false]; exact rfl)]
   rw [if_neg (by decide),if_neg (by decide),if_neg (by decide),if_neg (by decide),unl,Option.bind_some,unl,Option.bind_some,fst _ (by simp),Option.bind_some,if_pos (by rw [Bool.or_eq_true]; exact .inr rfl),ph_ne5 (show _≠(5:Int) by simp),first32,em_eq]
   simp [ownE,cleanB,rightB,useP,useL,useQ,fldV,inR]
  ·rw [show r188 2=some [(246,0,3),(247,1,200)] from rfl,Option.bind_some,fields_loop (x:=(2,p,l,t,q,b)) _ (by simp) (by simp) (by simp only [b128_1,geN,Bool.false_eq_true,if_false]; exact rfl)]
   rw [if_neg (by decide),if_pos (by decide),unl,Option.bind_some,unl,Option.bind_some,fst _ (by simp),Option.bind_some,if_pos (by rw [Bool.or_eq_true]; exact .inr rfl),ph_ne5 (show _≠(5:Int) by simp),first32,em_eq]
   simp [ownE,cleanB,rightB,useP,useL,useQ,fldV,inR]
  ·rw [show r188 3=some [(248,200,3000),(245,1,10000),(247,1,200)] from rfl,Option.bind_some,fields_loop (x:=(3,p,l,t,q,b)) _ (by simp) (by simp) (by simp only [b128_1,geN,Bool.false_eq_true,if_false]; exact rfl)]
   rw [if_neg (by decide),if_neg (by decide),if_pos (by decide),unl,Option.bind_some,unl,Option.bind_some,fst _ (by simp),Option.bind_some,if_pos (by rw [Bool.or_eq_true]; exact .inr rfl),ph_ne5 (show _≠(5:Int) by simp),first32,em_eq]
   simp [ownE,cleanB,rightB,useP,useL,useQ,fldV,inR,and_comm,and_left_comm,and_assoc]
  ·rw [show r188 4=some [(248,200,3000),(246,0,3),(247,1,200)] from rfl,Option.bind_some,fields_loop (x:=(4,p,l,t,q,b)) _ (by simp) (by simp) (by simp only [b128_1,geN,Bool.false_eq_true,if_false]; exact rfl)]
   rw [if_neg (by decide),if_neg (by decide),if_neg (by decide),if_pos (by decide),unl,Option.bind_some,unl,Option.bind_some,fst _ (by simp),Option.bind_some,if_pos (by rw [Bool.or_eq_true]; exact .inr rfl),ph_ne5 (show _≠(5:Int) by simp),first32,em_eq]
   simp [ownE,cleanB,rightB,useP,useL,useQ,fldV,inR,and_comm,and_left_comm,and_assoc]
  ·rw [show r188 5=some [(247,1,10)] from rfl,Option.bind_some,fields_loop (x:=(5,p,l,t,q,b)) _ (by simp) (by simp) (by simp only [b128_1,geN,Bool.false_eq_true,if_false]; exact rfl)]
   rw [if_neg (by decide),if_neg (by decide),if_neg (by decide),if_neg (by decide),unl,Option.bind_some,unl,Option.bind_some,fst _ (by simp),Option.bind_some,first32,em_eq]
   have eo:(if (((p == 0) && (l == 0)) && (q == 0) && (((5:Int) == 5) || (hN b == 0)))=true then (if ([((247:Nat),(1:Int),(10:Int))].all fun f=>inR (fldV (5,p,l,t,q,b) f.1) f.2.1 f.2.2)=true then (0:Int) else 2) else 3)=ownE 5 p l t q (hN b == 0):=by
    simp [ownE,cleanB,rightB,useP,useL,useQ,fldV,inR]
   rw [eo]
   show _=some (if ownE 5 p l t q (hN b == 0)=0 then (if (5:Int)=5 then bodyE d (hN b) (lsE b (d+1)) else 0) else ownE 5 p l t q (hN b == 0))
   by_cases c:ownE 5 p l t q (hN b == 0)=0
   rotate_left
   ·rw [if_neg c,if_pos (by rw [Bool.or_eq_true]; exact .inl (by simpa using c))]
   rw [if_pos c,if_pos rfl,c,if_neg (by decide)]
   unfold bodyE
   by_cases d3:d=3
   ·rw [if_pos d3,if_pos (by simpa using d3)]
   rw [if_neg d3,if_neg (by simpa using d3),unl,Option.bind_some,unl,Option.bind_some,fst _ (by simp),Option.bind_some]
   have hbl:=hN_U b
   by_cases n0:hN b=0
   ·have e1:decide (((hU b).length:Int)>0)=false:=decide_eq_false (by omega)
    rw [if_pos n0,e1,if_pos (by rfl)]; rfl
   have e1:decide (((hU b).length:Int)>0)=true:=decide_eq_true (by omega)
   rw [if_neg n0,e1]
   by_cases n12:12<hN b
   ·have e2:decide (((hU b).length:Int)≤12)=false:=decide_eq_false (by omega)
    rw [if_pos n12,e2,if_pos (by rfl)]; rfl
   have e2:decide (((hU b).length:Int)≤12)=true:=decide_eq_true (by omega)
   rw [if_neg n12,e2,if_neg (by decide)]
   exact body_loop ⟨h0,by omega⟩ (phaseC n (d+1) (by omega) (by omega) (by omega)) b (by omega)
end Go.Proofs.YtnepigpnlnmlmaaGreatDoor

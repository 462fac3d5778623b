/- Recipes: the errors of phases by the code. -/
import Derived.Test.YtkbdjphdhcgmaaaGreatDoorF01
import Derived.Test.YtkbdjphdhcgmaaaGreatDoorRcpA
import Derived.Test.YtkbdjphdhcgmaaaGreatDoorF05
set_option linter.unusedVariables false
set_option linter.unusedSimpArgs false
namespace Go.Proofs.YtkbdjphdhcgmaaaGreatDoor
open Go.dR
abbrev Ph:=Int×Int×Int×Int×Int×Hl
def Jk (k:Int):Bool:=k == 0 || k == 3
def J8 (k:Int):Bool:=k == 2 || k == 4
def Jj (k:Int):Bool:=k == 3 || k == 4
def jm (k p l q:Int) (em:Bool):Bool:=(Jk k || p == 0) && (J8 k || l == 0) && (Jj k || q == 0) && (k == 5 || em)
def iQ (k p l t q:Int):Bool:=(!Jk k || dW p 1 10000) && (!J8 k || dW l 0 3) && dW t 1 (if k=5 then 10 else 200) && (!Jj k || dW q 200 3000)
def lU (k p l t q:Int) (em:Bool):Int:=if dW k 0 5=true then (if jm k p l q em=true then (if iQ k p l t q=true then 0 else 2) else 3) else 15
def Aj (d:Int) (n:Nat) (e:Int):Int:=if d=3 then 16 else if n=0 then 10 else if 12<n then 8 else e
def lsE:Hl->Int->Int
 | .nil,_=>0
 | .cons k p l t q b r,d=>
  if (if lU k p l t q (hN b == 0)=0 then (if k=5 then Aj d (hN b) (lsE b (d+1)) else 0) else lU k p l t q (hN b == 0))=0 then lsE r d
  else (if lU k p l t q (hN b == 0)=0 then (if k=5 then Aj d (hN b) (lsE b (d+1)) else 0) else lU k p l t q (hN b == 0))
def phE (d:Int) (x:Ph):Int:=
 if lU x.1 x.2.1 x.2.2.1 x.2.2.2.1 x.2.2.2.2.1 (hN x.2.2.2.2.2 == 0)=0 then (if x.1=5 then Aj d (hN x.2.2.2.2.2) (lsE x.2.2.2.2.2 (d+1)) else 0) else lU x.1 x.2.1 x.2.2.1 x.2.2.2.1 x.2.2.2.2.1 (hN x.2.2.2.2.2 == 0)
theorem sS (k p l t q:Int) (b r:Hl) (d:Int):lsE (.cons k p l t q b r) d=if phE d (k,p,l,t,q,b)=0 then lsE r d else phE d (k,p,l,t,q,b):=by
 rw [lsE]; rfl
def erI (d:Int):Int->List Ph->Int×Int
 | _,[]=>(0,0)
 | i,x::r=>if phE d x=0 then erI d (i+1) r else (i,phE d x)
theorem yB (d:Int):∀ (b:Hl) (i:Int),(erI d i (hU b)).2=lsE b d
 | .nil,_=>by rw [lsE]; rfl
 | .cons k p l t q b r,i=>by
  rw [sS,hU,erI]
  by_cases h:phE d (k,p,l,t,q,b)=0
  ·rw [if_pos h,if_pos h]; exact yB d r (i+1)
  ·rw [if_neg h,if_neg h]
def H9 (x:Ph) (f:Nat):Int:=if f=140 then x.2.1 else if f=141 then x.2.2.1 else if f=142 then x.2.2.2.1 else x.2.2.2.2.1
theorem EU (d:Int):∀ (r:List Ph) (i:Int),kS (fun i _ x=>if phE d x=0 then (.next ():cO Unit Int) else .out (some (phE d x))) (fun _:Unit=>some 0) i r ()=some (erI d i r).2
 | [],_=>rfl
 | x::r,i=>by
  simp only [kS,erI]
  by_cases h:phE d x=0
  ·simp only [if_pos h]; exact EU d r _
  ·simp only [if_neg h]
theorem qh (d:Int) (fin:Option (Int×Int)):∀ (r:List Ph) (i:Int),kS (fun i _ x=>if phE d x=0 then (.next ():cO Unit (Int×Int)) else .out (some (i,phE d x))) (fun _:Unit=>fin) i r ()=if (erI d i r).2=0 then fin else some (erI d i r)
 | [],_=>rfl
 | x::r,i=>by
  simp only [kS,erI]
  by_cases h:phE d x=0
  ·simp only [if_pos h]; exact qh d fin r _
  ·simp only [if_neg h]
theorem je {R:Int->Int->Int->Int->Int->Hl->Int->Option Int} {x:Ph} {d:Int} (fs:List (Nat×Int×Int)) (hf:∀ f∈fs,f.1=140\/f.1=141\/f.1=142\/f.1=143) (hl:fs.length<10) {o:Option Int}
 (he:rX R x.1 x.2.1 x.2.2.1 x.2.2.2.1 x.2.2.2.2.1 x.2.2.2.2.2 d fs (fs.all (fun f=>dW (H9 x f.1) f.2.1 f.2.2),(fs.length:Int))= .out o) :
 aS (rX R x.1 x.2.1 x.2.2.1 x.2.2.2.1 x.2.2.2.2.1 x.2.2.2.2.2 d fs) 1000000000 (true,0)=o:=by
 refine eX _ (fun i s=>s=((fs.take i).all (fun f=>dW (H9 x f.1) f.2.1 f.2.2),(i:Int))) (fun r=>r=o) fs.length ?_ ?_ _ rfl _ (by omega)
 ·rintro i _ hi rfl
  have ht:(fs.take (i+1)).all (fun f=>dW (H9 x f.1) f.2.1 f.2.2)=((fs.take i).all (fun f=>dW (H9 x f.1) f.2.1 f.2.2) && dW (H9 x (fs.getD i default).1) (fs.getD i default).2.1 (fs.getD i default).2.2):=by
   rw [List.take_add_one,List.getElem?_eq_getElem hi,List.all_append,List.getD_eq_getElem?_getD,List.getElem?_eq_getElem hi]
   simp
  refine .inl ⟨_,?_,rfl⟩
  rw [ht]
  have hm:=hf _ (getD_mem hi)
  simp only [rX,lS hi,if_true,if_pos (jJ hi),Int.toNat_natCast,wS i (by omega),XM,XL,XK,XJ,wit,Option.isSome_some,implies_true,Option.getD_some]
  rcases hm with h | h | h | h<;>simp only [h,H9,if_true,show ¬ (141:Nat)=140 by decide,show ¬ (142:Nat)=140 by decide,show ¬ (142:Nat)=141 by decide,show ¬ (143:Nat)=140 by decide,show ¬ (143:Nat)=141 by decide,show ¬ (143:Nat)=142 by decide,if_false]<;>rfl
 ·rintro _ rfl
  rw [List.take_length]
  exact ⟨o,he,rfl⟩
theorem BR (b:Hl):((((hU b).length:Int)) == 0)=(hN b == 0):=by
 rw [uY]
 by_cases h:hN b=0
 ·rw [h]; rfl
 ·have h1:((hN b:Int) == 0)=false:=by rw [beq_eq_false_iff_ne]; omega
  have h2:(hN b == 0)=false:=by rw [beq_eq_false_iff_ne]; exact h
  rw [h1,h2]
theorem qx (c r:Bool):dL [bW c 3,bW r 2]=if c=true then (if r=true then 0 else 2) else 3:=by cases c<;>cases r<;>rfl
theorem rF {d:Int} {x:Ph} (h:x.1≠5):phE d x=lU x.1 x.2.1 x.2.2.1 x.2.2.2.1 x.2.2.2.2.1 (hN x.2.2.2.2.2 == 0):=by
 unfold phE
 by_cases c:lU x.1 x.2.1 x.2.2.1 x.2.2.2.1 x.2.2.2.2.1 (hN x.2.2.2.2.2 == 0)=0
 ·rw [if_pos c,if_neg h,c]
 ·rw [if_neg c]
theorem QW {n:Nat} {d:Int} (hd:0<=d/\d<3) (ih:∀ x:Ph,OX n x.1 x.2.1 x.2.2.1 x.2.2.2.1 x.2.2.2.2.1 x.2.2.2.2.2 (d+1)=some (phE (d+1) x)) (b:Hl) (hl:hN b<=12) :
 aS (EJ (OX n) b d) 1000000000 0=some (lsE b (d+1)):=by
 have hw:IntKind.i64.wrap (d+1)=d+1:=IntWalk.i64_in _ ⟨by omega,by omega⟩
 have hbl:=uY b
 have h:=kR (τ:=Unit) (hU b) (EJ (OX n) b d) (fun i _=>i) (fun _ _ x=>if phE (d+1) x=0 then .next () else .out (some (phE (d+1) x))) (fun _=>some 0) (by omega)
  (fun i t hi=>by
   simp only [EJ,lS hi,if_true,if_pos (jJ hi),Int.toNat_natCast,wS i (by omega),hw,ih ((hU b).getD i default),aP]
   by_cases c:phE (d+1) ((hU b).getD i default)=0
   ·rw [if_pos c,c]; rfl
   ·rw [if_neg c,if_pos (by simpa using c)]; rfl)
  (fun t=>by simp [EJ]) ()
 rw [h]
 exact (EU (d+1) (hU b) 0).trans (congrArg some (yB (d+1) b 0))
theorem XP:∀ (n:Nat) (d:Int),0<=d->d<=3->4<=n+d->∀ x:Ph,OX n x.1 x.2.1 x.2.2.1 x.2.2.2.1 x.2.2.2.2.1 x.2.2.2.2.2 d=some (phE d x)
 | 0,d,h0,h3,h4,_=>by omega
 | n+1,d,h0,h3,h4,(k,p,l,t,q,b)=>by
  show q67 n (OX n) k p l t q b d=_
  unfold q67
  rw [wit,Option.bind_some]
  by_cases hk:dW k 0 5=true
  rotate_left
  ·have e:lU k p l t q (hN b == 0)=15:=by unfold lU; rw [if_neg hk]
   rw [if_pos (by simpa using hk)]
   unfold phE
   simp only [e]
   rw [if_neg (by decide)]
  rw [hk,if_neg (by decide)]
  have hk':=fF.1 hk
  have cs:k=0\/k=1\/k=2\/k=3\/k=4\/k=5:=by omega
  rcases cs with rfl | rfl | rfl | rfl | rfl | rfl
  ·rw [show r96 0=some [(140,1,10000),(142,1,200)] from rfl,Option.bind_some,je (x:=(0,p,l,t,q,b)) _ (by simp) (by simp) (by simp only [rX,y8,Bool.false_eq_true,if_false]; exact rfl)]
   rw [if_pos (by decide),unl,Option.bind_some,unl,Option.bind_some,fst _ (by simp),Option.bind_some,if_pos (by rw [Bool.or_eq_true]; exact .inr rfl),rF (show _≠(5:Int) by simp),qx,BR]
   simp [lU,jm,iQ,Jk,J8,Jj,H9,dW]
  ·rw [show r96 1=some [(142,1,200)] from rfl,Option.bind_some,je (x:=(1,p,l,t,q,b)) _ (by simp) (by simp) (by simp only [rX,y8,Bool.false_eq_true,if_false]; exact rfl)]
   rw [if_neg (by decide),if_neg (by decide),if_neg (by decide),if_neg (by decide),unl,Option.bind_some,unl,Option.bind_some,fst _ (by simp),Option.bind_some,if_pos (by rw [Bool.or_eq_true]; exact .inr rfl),rF (show _≠(5:Int) by simp),qx,BR]
   simp [lU,jm,iQ,Jk,J8,Jj,H9,dW]
  ·rw [show r96 2=some [(141,0,3),(142,1,200)] from rfl,Option.bind_some,je (x:=(2,p,l,t,q,b)) _ (by simp) (by simp) (by simp only [rX,y8,Bool.false_eq_true,if_false]; exact rfl)]
   rw [if_neg (by decide),if_pos (by decide),unl,Option.bind_some,unl,Option.bind_some,fst _ (by simp),Option.bind_some,if_pos (by rw [Bool.or_eq_true]; exact .inr rfl),rF (show _≠(5:Int) by simp),qx,BR]
   simp [lU,jm,iQ,Jk,J8,Jj,H9,dW]
  ·rw [show r96 3=some [(143,200,3000),(140,1,10000),(142,1,200)] from rfl,Option.bind_some,je (x:=(3,p,l,t,q,b)) _ (by simp) (by simp) (by simp only [rX,y8,Bool.false_eq_true,if_false]; exact rfl)]
   rw [if_neg (by decide),if_neg (by decide),if_pos (by decide),unl,Option.bind_some,unl,Option.bind_some,fst _ (by simp),Option.bind_some,if_pos (by rw [Bool.or_eq_true]; exact .inr rfl),rF (show _≠(5:Int) by simp),qx,BR]
   simp [lU,jm,iQ,Jk,J8,Jj,H9,dW,and_comm,and_left_comm,and_assoc]
  ·rw [show r96 4=some [(143,200,3000),(141,0,3),(142,1,200)] from rfl,Option.bind_some,je (x:=(4,p,l,t,q,b)) _ (by simp) (by simp) (by simp only [rX,y8,Bool.false_eq_true,if_false]; exact rfl)]
   rw [if_neg (by decide),if_neg (by decide),if_neg (by decide),if_pos (by decide),unl,Option.bind_some,unl,Option.bind_some,fst _ (by simp),Option.bind_some,if_pos (by rw [Bool.or_eq_true]; exact .inr rfl),rF (show _≠(5:Int) by simp),qx,BR]
   simp [lU,jm,iQ,Jk,J8,Jj,H9,dW,and_comm,and_left_comm,and_assoc]
  ·rw [show r96 5=some [(142,1,10)] from rfl,Option.bind_some,je (x:=(5,p,l,t,q,b)) _ (by simp) (by simp) (by simp only [rX,y8,Bool.false_eq_true,if_false]; exact rfl)]
   rw [if_neg (by decide),if_neg (by decide),if_neg (by decide),if_neg (by decide),unl,Option.bind_some,unl,Option.bind_some,fst _ (by simp),Option.bind_some,qx,BR]
   have eo:(if (((p == 0) && (l == 0)) && (q == 0) && (((5:Int) == 5) || (hN b == 0)))=true then (if ([((142:Nat),(1:Int),(10:Int))].all fun f=>dW (H9 (5,p,l,t,q,b) f.1) f.2.1 f.2.2)=true then (0:Int) else 2) else 3)=lU 5 p l t q (hN b == 0):=by
    simp [lU,jm,iQ,Jk,J8,Jj,H9,dW]
   rw [eo]
   show _=some (if lU 5 p l t q (hN b == 0)=0 then (if (5:Int)=5 then Aj d (hN b) (lsE b (d+1)) else 0) else lU 5 p l t q (hN b == 0))
   by_cases c:lU 5 p l t q (hN b == 0)=0
   rotate_left
   ·rw [if_neg c,if_pos (by rw [Bool.or_eq_true]; exact .inl (by simpa using c))]
   rw [if_pos c,if_pos rfl,c,if_neg (by decide)]
   unfold Aj
   by_cases d3:d=3
   ·rw [if_pos d3,if_pos (by simpa using d3)]
   rw [if_neg d3,if_neg (by simpa using d3),unl,Option.bind_some,unl,Option.bind_some,fst _ (by simp),Option.bind_some]
   have hbl:=uY b
   by_cases n0:hN b=0
   ·have e1:decide (((hU b).length:Int)>0)=false:=decide_eq_false (by omega)
    rw [if_pos n0,e1,if_pos (by rfl)]; rfl
   have e1:decide (((hU b).length:Int)>0)=true:=decide_eq_true (by omega)
   rw [if_neg n0,e1]
   by_cases n12:12<hN b
   ·have e2:decide (((hU b).length:Int)<=12)=false:=decide_eq_false (by omega)
    rw [if_pos n12,e2,if_pos (by rfl)]; rfl
   have e2:decide (((hU b).length:Int)<=12)=true:=decide_eq_true (by omega)
   rw [if_neg n12,e2,if_neg (by decide)]
   exact QW ⟨h0,by omega⟩ (XP n (d+1) (by omega) (by omega) (by omega)) b (by omega)
def flV:Hl->List Ph
 | .nil=>[]
 | .cons k p l t q b r=>(if k=5 then (List.replicate t.toNat (flV b)).flatten else [(k,p,l,t,q,b)])++flV r
def phF (x:Ph):List Ph:=if x.1=5 then (List.replicate x.2.2.2.1.toNat (flV x.2.2.2.2.2)).flatten else [x]
theorem lK:∀ b:Hl,flV b=(hU b).flatMap phF
 | .nil=>by rw [flV]; rfl
 | .cons k p l t q b r=>by rw [flV,hU,List.flatMap_cons,lK r]; rfl
theorem nS {α ρ:Type} [Inhabited α] (l:List α) (g:α->List Ph) (B:Int×List Ph->cO (Int×List Ph) ρ) (N E:List Ph->ρ) (hl:l.length<1000)
 (hB:∀ (i:Nat) acc,i<l.length->acc.length<=60->B ((i:Int),acc)=if (acc++g (l.getD i default)).length<=60 then .next (((i+1:Nat):Int),acc++g (l.getD i default)) else cO.out (some (E ((acc++g (l.getD i default)).take 61))))
 (hend:∀ acc,B ((l.length:Int),acc)=cO.out (some (N acc))) (acc:List Ph) (ha:acc.length<=60) :
 aS B 1000000000 (0,acc)=some (if (acc++l.flatMap g).length<=60 then N (acc++l.flatMap g) else E ((acc++l.flatMap g).take 61)):=by
 have tk:∀ i,i<l.length->(l.take (i+1)).flatMap g=(l.take i).flatMap g++g (l.getD i default):=fun i hi=>by
  rw [List.take_add_one,List.getElem?_eq_getElem hi,List.flatMap_append,List.getD_eq_getElem?_getD,List.getElem?_eq_getElem hi]; simp
 refine eX B (fun i s=>s=((i:Int),acc++(l.take i).flatMap g)/\(acc++(l.take i).flatMap g).length<=60) (fun o=>o=some (if (acc++l.flatMap g).length<=60 then N (acc++l.flatMap g) else E ((acc++l.flatMap g).take 61))) l.length ?_ ?_ _ ⟨by simp,by simpa using ha⟩ _ (by omega)
 ·rintro i _ hi ⟨rfl,hlen⟩
  rw [hB i _ hi hlen,List.append_assoc, <- tk i hi]
  by_cases c:(acc++(l.take (i+1)).flatMap g).length<=60
  ·rw [if_pos c]; exact .inl ⟨_,rfl,rfl,c⟩
  ·rw [if_neg c]
   refine .inr ⟨_,rfl,?_⟩
   have e:acc++l.flatMap g=(acc++(l.take (i+1)).flatMap g)++(l.drop (i+1)).flatMap g:=by
    rw [List.append_assoc, <- List.flatMap_append,List.take_append_drop]
   have c2:¬ (acc++l.flatMap g).length<=60:=by
    have h5:(acc++l.flatMap g).length=(acc++(l.take (i+1)).flatMap g).length+((l.drop (i+1)).flatMap g).length:=by rw [<- List.length_append, <- e]
    omega
   rw [if_neg c2,e,List.take_append_of_le_length (show 61<=(acc++(l.take (i+1)).flatMap g).length by omega)]
 ·rintro _ ⟨rfl,hlen⟩
  rw [List.take_length] at hlen ⊢
  rw [hend]
  exact ⟨_,rfl,by rw [if_pos hlen]⟩
theorem xk (n:Nat) (blk:List Ph):(List.replicate n ()).flatMap (fun _=>blk)=(List.replicate n blk).flatten:=by
 induction n with
 | zero=>rfl
 | succ n ih=>rw [List.replicate_succ,List.replicate_succ,List.flatMap_cons,List.flatten_cons,ih]
theorem VG (acc:List Ph) (z x:Ph):(acc++[z]).set acc.length x=acc++[x]:=by simp
theorem qg {d:Int}:∀ {b:Hl},lsE b d=0->∀ x∈hU b,phE d x=0
 | .nil,_,x,hx=>by cases hx
 | .cons k p l t q b r,h,x,hx=>by
  rw [sS] at h
  by_cases c:phE d (k,p,l,t,q,b)=0
  ·rw [if_pos c] at h
   rcases List.mem_cons.1 hx with rfl | hx
   ·exact c
   ·exact qg h x hx
  ·rw [if_neg c] at h; exact absurd h c
theorem vV {k p l t q:Int} {em:Bool} (h:lU k p l t q em=0):dW k 0 5=true/\jm k p l q em=true/\iQ k p l t q=true:=by
 unfold lU at h
 cases h1:dW k 0 5<;>cases h2:jm k p l q em<;>cases h3:iQ k p l t q<;>rw [h1,h2,h3] at h<;>simp at h ⊢
theorem mO {d:Int} {x:Ph} (h:phE d x=0) (h5:x.1=5):d≠3/\lsE x.2.2.2.2.2 (d+1)=0/\(1<=hN x.2.2.2.2.2/\hN x.2.2.2.2.2<=12)/\1<=x.2.2.2.1/\x.2.2.2.1<=10:=by
 unfold phE at h
 by_cases c:lU x.1 x.2.1 x.2.2.1 x.2.2.2.1 x.2.2.2.2.1 (hN x.2.2.2.2.2 == 0)=0
 rotate_left
 ·rw [if_neg c] at h; exact absurd h c
 rw [if_pos c,if_pos h5] at h
 have hr:=(vV c).2.2
 unfold iQ at hr
 rw [if_pos h5] at hr
 simp only [Bool.and_eq_true] at hr
 have ht:=fF.1 hr.1.2
 unfold Aj at h
 split at h
 ·cases h
 split at h
 ·cases h
 split at h
 ·cases h
 exact ⟨by assumption,h,⟨by omega,by omega⟩,ht⟩
theorem one_step {acc:List Ph} (ha:acc.length<=60) (z x:Ph) (i:Nat) {ρ:Type} (E:List Ph->ρ) (hi:i<1000) :
 (if (acc.length+1)*64<=140737488355328/\acc.length+1<=9223372036854775807 then
  if 0<=(acc.length:Int)/\(acc.length:Int)<((acc.length+1):Int) then
   if (!(decide (((acc.length+1):Int)<=60)))=true then (cO.out (some (E ((acc++[z]).set acc.length x))):cO (Int×List Ph) ρ)
   else .next (IntKind.i64.wrap ((i:Int)+1),(acc++[z]).set acc.length x)
  else .out none
  else .out none)=if (acc++[x]).length<=60 then .next (((i+1:Nat):Int),acc++[x]) else cO.out (some (E ((acc++[x]).take 61))):=by
 rw [if_pos ⟨by omega,by omega⟩,if_pos ⟨by omega,by omega⟩,VG,wS i (by omega)]
 have hl:(acc++[x]).length=acc.length+1:=by simp
 by_cases c:(acc++[x]).length<=60
 ·rw [if_pos c,if_neg (by simp; omega)]; rfl
 ·rw [if_neg c,if_pos (by simp; omega),List.take_of_length_le (by omega)]
section
variable {a0:List Ph} {x1 x3 x5:Ph} {s1 s3 s5:Int×List Ph}
theorem aoM (s6:Int×List Ph) (h1:a0.getD s1.1.toNat default=x1) (h3:(hU x1.2.2.2.2.2).getD s3.1.toNat default=x3) (h5:(hU x3.2.2.2.2.2).getD s5.1.toNat default=x5) (ok:lsE x5.2.2.2.2.2 3=0) (hl:hN x5.2.2.2.2.2<=12) (acc:List Ph) (ha:acc.length<=60) :
 aS (Ic a0 s1 s3 s5 s6) 1000000000 (0,acc)=some (if (acc++flV x5.2.2.2.2.2).length<=60 then .next (IntKind.i64.wrap (s6.1+1),acc++flV x5.2.2.2.2.2) else cO.out (some (cO.out (some (cO.out (some (cO.out (some (cO.out (some (cO.out (some ((acc++flV x5.2.2.2.2.2).take 61))))))))))))):=by
 have hbl:=uY x5.2.2.2.2.2
 rw [lK]
 refine nS (hU x5.2.2.2.2.2) phF _ (fun X=>cO.next (IntKind.i64.wrap (s6.1+1),X)) (fun X=>cO.out (some (cO.out (some (cO.out (some (cO.out (some (cO.out (some (cO.out (some X)))))))))))) (by omega) ?_ ?_ acc ha
 ·intro i acc hi ha
  have hx:=qg ok _ (getD_mem hi)
  have n5:((hU x5.2.2.2.2.2).getD i default).1≠5:=fun h=>(mO hx h).1 rfl
  have hf:phF ((hU x5.2.2.2.2.2).getD i default)=[(hU x5.2.2.2.2.2).getD i default]:=if_neg n5
  rw [hf]
  simp only [Ic,h1,h3,h5,lS hi,if_true,if_pos (jJ hi),Int.toNat_natCast,if_pos (show (((hU x5.2.2.2.2.2).getD i default).1 != 5)=true by simpa using n5)]
  exact one_step ha _ _ i (fun X=>cO.out (some (cO.out (some (cO.out (some (cO.out (some (cO.out (some (cO.out (some X)))))))))))) (by omega)
 ·intro acc
  simp only [Ic,h1,h3,h5,y8,Bool.false_eq_true,if_false]
theorem aoN (h1:a0.getD s1.1.toNat default=x1) (h3:(hU x1.2.2.2.2.2).getD s3.1.toNat default=x3) (h5:(hU x3.2.2.2.2.2).getD s5.1.toNat default=x5) (ok:lsE x5.2.2.2.2.2 3=0) (hl:hN x5.2.2.2.2.2<=12) (ht:1<=x5.2.2.2.1/\x5.2.2.2.1<=10) (acc:List Ph) (ha:acc.length<=60) :
 aS (Ie a0 s1 s3 s5) 1000000000 (0,acc)=some (if (acc++(List.replicate x5.2.2.2.1.toNat (flV x5.2.2.2.2.2)).flatten).length<=60 then .next (IntKind.i64.wrap (s5.1+1),acc++(List.replicate x5.2.2.2.1.toNat (flV x5.2.2.2.2.2)).flatten) else cO.out (some (cO.out (some (cO.out (some (cO.out (some (cO.out (some ((acc++(List.replicate x5.2.2.2.1.toNat (flV x5.2.2.2.2.2)).flatten).take 61))))))))))):=by
 rw [<- xk]
 refine nS (List.replicate x5.2.2.2.1.toNat ()) (fun _=>flV x5.2.2.2.2.2) _ (fun X=>cO.next (IntKind.i64.wrap (s5.1+1),X)) (fun X=>cO.out (some (cO.out (some (cO.out (some (cO.out (some (cO.out (some X)))))))))) (by simp; omega) ?_ ?_ acc ha
 ·intro i acc hi ha
  simp only [List.length_replicate] at hi
  have g1:decide ((i:Int)<x5.2.2.2.1)=true:=decide_eq_true (by omega)
  simp only [Ie,h1,h3,h5,g1,if_true]
  rw [aoM _ h1 h3 h5 ok hl acc ha,Option.getD_some]
  simp only [wS i (by omega)]
  rfl
 ·intro acc
  simp only [List.length_replicate]
  have g1:decide (((x5.2.2.2.1.toNat:Nat):Int)<x5.2.2.2.1)=false:=decide_eq_false (by omega)
  simp only [Ie,h1,h3,h5,g1,Bool.false_eq_true,if_false]
theorem aoQ (s4:Int×List Ph) (h1:a0.getD s1.1.toNat default=x1) (h3:(hU x1.2.2.2.2.2).getD s3.1.toNat default=x3) (ok:lsE x3.2.2.2.2.2 2=0) (hl:hN x3.2.2.2.2.2<=12) (acc:List Ph) (ha:acc.length<=60) :
 aS (EL a0 s1 s3 s4) 1000000000 (0,acc)=some (if (acc++flV x3.2.2.2.2.2).length<=60 then .next (IntKind.i64.wrap (s4.1+1),acc++flV x3.2.2.2.2.2) else cO.out (some (cO.out (some (cO.out (some (cO.out (some ((acc++flV x3.2.2.2.2.2).take 61))))))))):=by
 have hbl:=uY x3.2.2.2.2.2
 rw [lK]
 refine nS (hU x3.2.2.2.2.2) phF _ (fun X=>cO.next (IntKind.i64.wrap (s4.1+1),X)) (fun X=>cO.out (some (cO.out (some (cO.out (some (cO.out (some X)))))))) (by omega) ?_ ?_ acc ha
 ·intro i acc hi ha
  have hx:=qg ok _ (getD_mem hi)
  by_cases n5:((hU x3.2.2.2.2.2).getD i default).1=5
  ·obtain ⟨_,k2,k3,k4⟩:=mO hx n5
   have hf:phF ((hU x3.2.2.2.2.2).getD i default)=(List.replicate ((hU x3.2.2.2.2.2).getD i default).2.2.2.1.toNat (flV ((hU x3.2.2.2.2.2).getD i default).2.2.2.2.2)).flatten:=if_pos n5
   simp only [EL,h1,h3,lS hi,if_true,if_pos (jJ hi),Int.toNat_natCast,if_neg (show ¬ ((((hU x3.2.2.2.2.2).getD i default).1 != 5)=true) by simpa using n5)]
   rw [aoN (s5:=((i:Int),acc)) h1 h3 (by rw [Int.toNat_natCast]) k2 k3.2 k4 acc ha,Option.getD_some,hf]
   simp only [wS i (by omega)]
   rfl
  ·have hf:phF ((hU x3.2.2.2.2.2).getD i default)=[(hU x3.2.2.2.2.2).getD i default]:=if_neg n5
   rw [hf]
   simp only [EL,h1,h3,lS hi,if_true,if_pos (jJ hi),Int.toNat_natCast,if_pos (show (((hU x3.2.2.2.2.2).getD i default).1 != 5)=true by simpa using n5)]
   exact one_step ha _ _ i (fun X=>cO.out (some (cO.out (some (cO.out (some (cO.out (some X)))))))) (by omega)
 ·intro acc
  simp only [EL,h1,h3,y8,Bool.false_eq_true,if_false]
theorem aoR (h1:a0.getD s1.1.toNat default=x1) (h3:(hU x1.2.2.2.2.2).getD s3.1.toNat default=x3) (ok:lsE x3.2.2.2.2.2 2=0) (hl:hN x3.2.2.2.2.2<=12) (ht:1<=x3.2.2.2.1/\x3.2.2.2.1<=10) (acc:List Ph) (ha:acc.length<=60) :
 aS (Ig a0 s1 s3) 1000000000 (0,acc)=some (if (acc++(List.replicate x3.2.2.2.1.toNat (flV x3.2.2.2.2.2)).flatten).length<=60 then .next (IntKind.i64.wrap (s3.1+1),acc++(List.replicate x3.2.2.2.1.toNat (flV x3.2.2.2.2.2)).flatten) else cO.out (some (cO.out (some (cO.out (some ((acc++(List.replicate x3.2.2.2.1.toNat (flV x3.2.2.2.2.2)).flatten).take 61))))))):=by
 rw [<- xk]
 refine nS (List.replicate x3.2.2.2.1.toNat ()) (fun _=>flV x3.2.2.2.2.2) _ (fun X=>cO.next (IntKind.i64.wrap (s3.1+1),X)) (fun X=>cO.out (some (cO.out (some (cO.out (some X)))))) (by simp; omega) ?_ ?_ acc ha
 ·intro i acc hi ha
  simp only [List.length_replicate] at hi
  have g1:decide ((i:Int)<x3.2.2.2.1)=true:=decide_eq_true (by omega)
  simp only [Ig,h1,h3,g1,if_true]
  rw [aoQ _ h1 h3 ok hl acc ha,Option.getD_some]
  simp only [wS i (by omega)]
  rfl
 ·intro acc
  simp only [List.length_replicate]
  have g1:decide (((x3.2.2.2.1.toNat:Nat):Int)<x3.2.2.2.1)=false:=decide_eq_false (by omega)
  simp only [Ig,h1,h3,g1,Bool.false_eq_true,if_false]
theorem aoS (s2:Int×List Ph) (h1:a0.getD s1.1.toNat default=x1) (ok:lsE x1.2.2.2.2.2 1=0) (hl:hN x1.2.2.2.2.2<=12) (acc:List Ph) (ha:acc.length<=60) :
 aS (EM a0 s1 s2) 1000000000 (0,acc)=some (if (acc++flV x1.2.2.2.2.2).length<=60 then .next (IntKind.i64.wrap (s2.1+1),acc++flV x1.2.2.2.2.2) else cO.out (some (cO.out (some ((acc++flV x1.2.2.2.2.2).take 61))))):=by
 have hbl:=uY x1.2.2.2.2.2
 rw [lK]
 refine nS (hU x1.2.2.2.2.2) phF _ (fun X=>cO.next (IntKind.i64.wrap (s2.1+1),X)) (fun X=>cO.out (some (cO.out (some X)))) (by omega) ?_ ?_ acc ha
 ·intro i acc hi ha
  have hx:=qg ok _ (getD_mem hi)
  by_cases n5:((hU x1.2.2.2.2.2).getD i default).1=5
  ·obtain ⟨_,k2,k3,k4⟩:=mO hx n5
   have hf:phF ((hU x1.2.2.2.2.2).getD i default)=(List.replicate ((hU x1.2.2.2.2.2).getD i default).2.2.2.1.toNat (flV ((hU x1.2.2.2.2.2).getD i default).2.2.2.2.2)).flatten:=if_pos n5
   simp only [EM,h1,lS hi,if_true,if_pos (jJ hi),Int.toNat_natCast,if_neg (show ¬ ((((hU x1.2.2.2.2.2).getD i default).1 != 5)=true) by simpa using n5)]
   rw [aoR (s3:=((i:Int),acc)) h1 (by rw [Int.toNat_natCast]) k2 k3.2 k4 acc ha,Option.getD_some,hf]
   simp only [wS i (by omega)]
   rfl
  ·have hf:phF ((hU x1.2.2.2.2.2).getD i default)=[(hU x1.2.2.2.2.2).getD i default]:=if_neg n5
   rw [hf]
   simp only [EM,h1,lS hi,if_true,if_pos (jJ hi),Int.toNat_natCast,if_pos (show (((hU x1.2.2.2.2.2).getD i default).1 != 5)=true by simpa using n5)]
   exact one_step ha _ _ i (fun X=>cO.out (some (cO.out (some X)))) (by omega)
 ·intro acc
  simp only [EM,h1,y8,Bool.false_eq_true,if_false]
theorem aoT (h1:a0.getD s1.1.toNat default=x1) (ok:lsE x1.2.2.2.2.2 1=0) (hl:hN x1.2.2.2.2.2<=12) (ht:1<=x1.2.2.2.1/\x1.2.2.2.1<=10) (acc:List Ph) (ha:acc.length<=60) :
 aS (Ih a0 s1) 1000000000 (0,acc)=some (if (acc++(List.replicate x1.2.2.2.1.toNat (flV x1.2.2.2.2.2)).flatten).length<=60 then .next (IntKind.i64.wrap (s1.1+1),acc++(List.replicate x1.2.2.2.1.toNat (flV x1.2.2.2.2.2)).flatten) else cO.out (some ((acc++(List.replicate x1.2.2.2.1.toNat (flV x1.2.2.2.2.2)).flatten).take 61))):=by
 rw [<- xk]
 refine nS (List.replicate x1.2.2.2.1.toNat ()) (fun _=>flV x1.2.2.2.2.2) _ (fun X=>cO.next (IntKind.i64.wrap (s1.1+1),X)) (fun X=>cO.out (some X)) (by simp; omega) ?_ ?_ acc ha
 ·intro i acc hi ha
  simp only [List.length_replicate] at hi
  have g1:decide ((i:Int)<x1.2.2.2.1)=true:=decide_eq_true (by omega)
  simp only [Ih,h1,g1,if_true]
  rw [aoS _ h1 ok hl acc ha,Option.getD_some]
  simp only [wS i (by omega)]
  rfl
 ·intro acc
  simp only [List.length_replicate]
  have g1:decide (((x1.2.2.2.1.toNat:Nat):Int)<x1.2.2.2.1)=false:=decide_eq_false (by omega)
  simp only [Ih,h1,g1,Bool.false_eq_true,if_false]
end
theorem adv {l:List Ph} (ok:∀ x∈l,phE 0 x=0) (hl:l.length<=12):Z5 l=some ((l.flatMap phF).take 61):=by
 unfold Z5
 rw [nS l phF (EN l) (fun X=>X) (fun X=>X) (by omega) ?_ ?_ [] (by simp)]
 ·rw [List.nil_append]
  split
  ·rw [List.take_of_length_le (by omega)]
  ·rfl
 ·intro i acc hi ha
  have hx:=ok _ (getD_mem hi)
  by_cases n5:(l.getD i default).1=5
  ·obtain ⟨_,k2,k3,k4⟩:=mO hx n5
   have hf:phF (l.getD i default)=(List.replicate (l.getD i default).2.2.2.1.toNat (flV (l.getD i default).2.2.2.2.2)).flatten:=if_pos n5
   simp only [EN,lS hi,if_true,if_pos (jJ hi),Int.toNat_natCast,if_neg (show ¬ (((l.getD i default).1 != 5)=true) by simpa using n5)]
   rw [aoT (s1:=((i:Int),acc)) (by rw [Int.toNat_natCast]) k2 k3.2 k4 acc ha,Option.getD_some,hf]
   simp only [wS i (by omega)]
   rfl
  ·have hf:phF (l.getD i default)=[l.getD i default]:=if_neg n5
   rw [hf]
   simp only [EN,lS hi,if_true,if_pos (jJ hi),Int.toNat_natCast,if_pos (show ((l.getD i default).1 != 5)=true by simpa using n5)]
   exact one_step ha _ _ i (fun X=>X) (by omega)
 ·intro acc
  simp only [EN,y8,Bool.false_eq_true,if_false]
def flL (l:List Ph):List Ph:=l.flatMap phF
def nD (k:Int):Bool:=k == 2 || k == 4
def oz (l:List Ph):Int×Int:=
 if l.length=0 then (0,10) else if 12<l.length then (0,8) else
 if (erI 0 0 l).2=0 then (if (flL l).length<=60 then (if nD ((flL l).getD ((flL l).length - 1) default).1=true then (0,0) else (0,20)) else (0,8)) else erI 0 0 l
theorem adw:∀ (b:Hl) (d:Int),lsE b d=0->1<=hN b->1<=(flV b).length
 | .nil,_,_,h=>by simp [hN] at h
 | .cons k p l t q b r,d,h,_=>by
  have hx:=qg h (k,p,l,t,q,b) (by simp [hU])
  rw [flV,List.length_append]
  by_cases k5:k=5
  ·obtain ⟨_,k2,k3,k4⟩:=mO hx k5
   simp only at k2 k3 k4
   have ih:=adw b (d+1) k2 k3.1
   obtain ⟨n,hn⟩:∃ n,t.toNat=n+1:=⟨t.toNat - 1,by omega⟩
   rw [if_pos k5,hn,List.replicate_succ,List.flatten_cons,List.length_append]; omega
  ·rw [if_neg k5]; simp
theorem KW {d:Int} {x:Ph} (h:phE d x=0):1<=(phF x).length:=by
 unfold phF
 by_cases k5:x.1=5
 ·obtain ⟨_,k2,k3,k4⟩:=mO h k5
  have ih:=adw _ _ k2 k3.1
  obtain ⟨n,hn⟩:∃ n,x.2.2.2.1.toNat=n+1:=⟨x.2.2.2.1.toNat - 1,by omega⟩
  rw [if_pos k5,hn,List.replicate_succ,List.flatten_cons,List.length_append]; omega
 ·rw [if_neg k5]; simp
theorem Ah {d:Int}:∀ {l:List Ph} {i:Int},(erI d i l).2=0->∀ x∈l,phE d x=0
 | [],_,_,x,hx=>by cases hx
 | y::r,i,h,x,hx=>by
  rw [erI] at h
  by_cases c:phE d y=0
  ·rw [if_pos c] at h
   rcases List.mem_cons.1 hx with rfl | hx
   ·exact c
   ·exact Ah h x hx
  ·rw [if_neg c] at h; exact absurd h c
theorem cold (k:Int):Z4 k=some (nD k):=rfl
theorem Zk {l:List Ph} (ok:∀ x∈l,phE 0 x=0) (hl:1<=l.length/\l.length<=12) :
 ((Z5 l).bind fun v18=>
  (jV (decide ((v18.length:Int)<=60)) 8).bind fun v19=>
   if 0<=IntKind.i64.wrap ((v18.length:Int) - 1)/\IntKind.i64.wrap ((v18.length:Int) - 1)<(v18.length:Int) then
    (Z4 ((v18.getD (IntKind.i64.wrap ((v18.length:Int) - 1)).toNat default).1)).bind fun v20=>
     (jV v20 20).bind fun v21=>
      (vF [v19,v21]).bind fun v22=>
       some ((0:Int),v22)
    else none)=some (if (flL l).length<=60 then (if nD ((flL l).getD ((flL l).length - 1) default).1=true then (0,0) else (0,20)) else (0,8)):=by
 rw [adv ok hl.2,Option.bind_some]
 change (_:Option (Int×Int))=_
 have hne:1<=(flL l).length:=by
  match l,hl with
  | x::r,_=>
   have:=KW (ok x (by simp))
   unfold flL; rw [List.flatMap_cons,List.length_append]; omega
 change ((jV (decide ((((flL l).take 61).length:Int)<=60)) 8).bind fun v19=>_)=_
 have htl:((flL l).take 61).length=min 61 (flL l).length:=List.length_take
 have hw:IntKind.i64.wrap ((((flL l).take 61).length:Int) - 1)=((((flL l).take 61).length - 1:Nat):Int):=by rw [IntWalk.i64_in _ ⟨by omega,by omega⟩]; omega
 rw [unl,Option.bind_some]
 change (if 0<=IntKind.i64.wrap ((((flL l).take 61).length:Int) - 1)/\IntKind.i64.wrap ((((flL l).take 61).length:Int) - 1)<(((flL l).take 61).length:Int) then
  (Z4 ((((flL l).take 61).getD (IntKind.i64.wrap ((((flL l).take 61).length:Int) - 1)).toNat default).1)).bind fun v20=>
   (jV v20 20).bind fun v21=>
    (vF [_,v21]).bind fun v22=>
     some ((0:Int),v22)
  else none)=_
 rw [hw,if_pos ⟨by omega,by omega⟩,Int.toNat_natCast,cold,Option.bind_some,unl,Option.bind_some,fst _ (by simp),Option.bind_some]
 by_cases c:(flL l).length<=60
 ·have e:(flL l).take 61=flL l:=List.take_of_length_le (by omega)
  rw [e,if_pos c,decide_eq_true (by omega:((flL l).length:Int)<=60)]
  cases nD ((flL l).getD ((flL l).length - 1) default).1<;>rfl
 ·rw [if_neg c,decide_eq_false (by omega:¬ (((flL l).take 61).length:Int)<=60)]
  cases nD (((flL l).take 61).getD (((flL l).take 61).length - 1) default).1<;>rfl
theorem aew {l:List Ph} (hl:l.length<1000000):r8 l=some (oz l):=by
 unfold r8 oz
 rw [unl,Option.bind_some,unl,Option.bind_some,fst _ (by simp),Option.bind_some]
 by_cases c0:l.length=0
 ·have e1:decide ((l.length:Int)>0)=false:=decide_eq_false (by omega)
  rw [if_pos c0,e1]
  have e2:dL [bW false 10,bW (decide ((l.length:Int)<=12)) 8]=10:=rfl
  rw [e2,if_pos (by decide),if_pos (by decide)]
 have e1:decide ((l.length:Int)>0)=true:=decide_eq_true (by omega)
 rw [if_neg c0,e1]
 by_cases c1:12<l.length
 ·have e2:decide ((l.length:Int)<=12)=false:=decide_eq_false (by omega)
  rw [if_pos c1,e2]
  have e3:dL [bW true 10,bW false 8]=8:=rfl
  rw [e3,if_pos (by decide),if_pos (by decide)]
 have e2:decide ((l.length:Int)<=12)=true:=decide_eq_true (by omega)
 rw [if_neg c1,e2]
 have e3:dL [bW true 10,bW true 8]=0:=rfl
 rw [e3,if_neg (by decide)]
 have h:=kR (τ:=Unit) l (Y7 l) (fun i _=>i) (fun i _ x=>if phE 0 x=0 then .next () else .out (some (i,phE 0 x))) (fun _=>((Z5 l).bind fun v18=>
  (jV (decide ((v18.length:Int)<=60)) 8).bind fun v19=>
   if 0<=IntKind.i64.wrap ((v18.length:Int) - 1)/\IntKind.i64.wrap ((v18.length:Int) - 1)<(v18.length:Int) then
    (Z4 ((v18.getD (IntKind.i64.wrap ((v18.length:Int) - 1)).toNat default).1)).bind fun v20=>
     (jV v20 20).bind fun v21=>
      (vF [v19,v21]).bind fun v22=>
       some ((0:Int),v22)
    else none)) (by omega)
  (fun i t hi=>by
   simp only [Y7,lS hi,if_true,if_pos (jJ hi),Int.toNat_natCast,wS i (by omega),XP 7 0 (by decide) (by decide) (by decide) (l.getD i default),aP]
   by_cases c:phE 0 (l.getD i default)=0
   ·rw [if_pos c,c]; rfl
   ·have c2:(phE 0 (l.getD i default) != 0)=true:=by simpa using c
    simp only [c2,if_true]
    rw [if_neg c]; rfl)
  (fun t=>by simp only [Y7,y8,Bool.false_eq_true,if_false]) ()
 rw [h]
 have h2:=qh 0 (some (if (flL l).length<=60 then (if nD ((flL l).getD ((flL l).length - 1) default).1=true then (0,0) else (0,20)) else (0,8))) l 0
 by_cases c:(erI 0 0 l).2=0
 ·rw [Zk (Ah c) ⟨by omega,by omega⟩]
  rw [if_pos c] at h2 ⊢
  exact h2
 ·have h3:=qh 0 ((Z5 l).bind fun v18=>
   (jV (decide ((v18.length:Int)<=60)) 8).bind fun v19=>
    if 0<=IntKind.i64.wrap ((v18.length:Int) - 1)/\IntKind.i64.wrap ((v18.length:Int) - 1)<(v18.length:Int) then
     (Z4 ((v18.getD (IntKind.i64.wrap ((v18.length:Int) - 1)).toNat default).1)).bind fun v20=>
      (jV v20 20).bind fun v21=>
       (vF [v19,v21]).bind fun v22=>
        some ((0:Int),v22)
     else none) l 0
  rw [if_neg c] at h3 ⊢
  exact h3
theorem yU {l:List Ph} (h:(oz l).2=0):(1<=l.length/\l.length<=12)/\(∀ x∈l,phE 0 x=0)/\(flL l).length<=60/\1<=(flL l).length/\nD ((flL l).getD ((flL l).length - 1) default).1=true:=by
 unfold oz at h
 split at h
 ·cases h
 split at h
 ·cases h
 split at h
 ·rename_i h0 h1 h2
  split at h
  ·rename_i h3
   split at h
   ·rename_i h4
    refine ⟨⟨by omega,by omega⟩,Ah h2,h3,?_,h4⟩
    match l,h0,Ah h2 with
    | x::r,_,ok=>
     have:=KW (ok x (by simp))
     unfold flL; rw [List.flatMap_cons,List.length_append]; omega
   ·cases h
  ·cases h
 ·rename_i h2; exact absurd h h2
theorem ES {l:List Ph} (hl:l.length<1000000):r10 l=some (if (oz l).2=0 then (flL l,0) else ([],(oz l).2)):=by
 unfold r10
 rw [aew hl,Option.bind_some]
 by_cases c:(oz l).2=0
 ·obtain ⟨h1,h2,h3,_⟩:=yU c
  rw [if_neg (by simpa using c),if_pos c,adv h2 h1.2,Option.bind_some]
  change some ((flL l).take 61,(0:Int))=_
  rw [List.take_of_length_le (by omega)]
 ·rw [if_pos (by simpa using c),if_neg c]
structure Jd (x:Ph):Prop where
 kind:0<=x.1/\x.1<=4
 own:lU x.1 x.2.1 x.2.2.1 x.2.2.2.1 x.2.2.2.2.1 (hN x.2.2.2.2.2 == 0)=0
theorem adl {d:Int} {x:Ph} (h:phE d x=0) (h5:x.1≠5):Jd x:=by
 rw [rF h5] at h
 have:=fF.1 (vV h).1
 exact ⟨by omega,h⟩
theorem N7:∀ (b:Hl) (d:Int),lsE b d=0->∀ y∈flV b,Jd y
 | .nil,_,_,y,hy=>by rw [flV] at hy; cases hy
 | .cons k p l t q b r,d,h,y,hy=>by
  have hx:=qg h (k,p,l,t,q,b) (by simp [hU])
  have hr:lsE r d=0:=by rw [sS,if_pos hx] at h; exact h
  rw [flV] at hy
  rcases List.mem_append.1 hy with hy | hy
  ·by_cases k5:k=5
   ·rw [if_pos k5] at hy
    obtain ⟨_,k2,_,_⟩:=mO hx k5
    obtain ⟨z,hz,hy⟩:=List.mem_flatten.1 hy
    obtain ⟨-,rfl⟩:=List.mem_replicate.1 hz
    exact N7 b (d+1) k2 y hy
   ·rw [if_neg k5] at hy
    obtain rfl:=List.mem_singleton.1 hy
    exact adl hx k5
  ·exact N7 r d hr y hy
theorem yh {l:List Ph} (ok:∀ x∈l,phE 0 x=0):∀ y∈flL l,Jd y:=by
 intro y hy
 obtain ⟨x,hx,hy⟩:=List.mem_flatMap.1 hy
 unfold phF at hy
 by_cases k5:x.1=5
 ·rw [if_pos k5] at hy
  obtain ⟨_,k2,_,_⟩:=mO (ok x hx) k5
  obtain ⟨z,hz,hy⟩:=List.mem_flatten.1 hy
  obtain ⟨-,rfl⟩:=List.mem_replicate.1 hz
  exact N7 _ _ k2 y hy
 ·rw [if_neg k5] at hy
  obtain rfl:=List.mem_singleton.1 hy
  exact adl (ok _ hx) k5
theorem Jd.adt {x:Ph} (h:Jd x):(0<=x.2.1/\x.2.1<=10000)/\(1<=x.2.2.2.1/\x.2.2.2.1<=200)/\((x.1=3\/x.1=4)->200<=x.2.2.2.2.1/\x.2.2.2.2.1<=3000)/\(x.1≠2->x.1≠4->x.2.2.1=0)/\(nD x.1=true->x.2.1=0):=by
 obtain ⟨h1,h2,h3⟩:=vV h.own
 have hk:=h.kind
 unfold jm at h2
 unfold iQ at h3
 rw [if_neg (by omega)] at h3
 simp only [Bool.and_eq_true,Bool.or_eq_true,Bool.not_eq_true',beq_iff_eq] at h2 h3
 obtain ⟨⟨⟨r1,r2⟩,r3⟩,r4⟩:=h3
 obtain ⟨⟨⟨c1,c2⟩,c3⟩,c4⟩:=h2
 have hu:Jk x.1=true->x.1=0\/x.1=3:=fun h=>by simpa [Jk] using h
 refine ⟨?_,fF.1 r3,fun hq=> ?_,fun n2 n4=> ?_,fun hc=> ?_⟩
 ·rcases c1 with c1 | c1
  ·rcases r1 with r1 | r1
   ·rw [c1] at r1; cases r1
   ·have:=fF.1 r1; omega
  ·rw [c1]; exact ⟨by decide,by decide⟩
 ·rcases r4 with r4 | r4
  ·have:Jj x.1=true:=by simpa [Jj] using hq
   rw [this] at r4; cases r4
  ·exact fF.1 r4
 ·rcases c2 with c2 | c2
  ·have:x.1=2\/x.1=4:=by simpa [J8] using c2
   omega
  ·exact c2
 ·have hc:x.1=2\/x.1=4:=by simpa [nD] using hc
  rcases c1 with c1 | c1
  ·have:=hu c1; omega
  ·exact c1
def xu (T:TL) (k q:Int) (f:Nat) (e0:Int):Bool:=if k=3 then !(hot T q e0) else if k=4 then NQ T q e0 else decide (0<f)
def phS (b:Int) (T:TL) (L:List TL) (W:TL) (x:Ph) (law:Int):Nat->List Int->TL->Int×List Int×TL
 | 0,s,made=>if xu T x.1 x.2.2.2.2.1 0 (s.getD 0 default)=true then (24,s,made) else (0,s,made)
 | f+1,s,made=>if xu T x.1 x.2.2.2.2.1 (f+1) (s.getD 0 default)=true then
  (if made.length=200 then (8,s,made) else
   if (jB b T (L.getD law.toNat default) s (pwV W x.2.1)).all (inT T)=true then phS b T L W x law f (jB b T (L.getD law.toNat default) s (pwV W x.2.1)) (made++[(x.2.1,law)]) else (22,s,made))
  else (0,s,made)
def kT (air:Int) (x:Ph):Int:=if nD x.1=true then x.2.2.1 else air
def coS (b:Int) (T:TL) (L:List TL) (W:TL) (air:Int):List Ph->List Int->TL->TL×Int
 | [],_,made=>(made,0)
 | x::r,s,made=>
  if (phS b T L W x (kT air x) x.2.2.2.1.toNat s made).1=0 then coS b T L W air r (phS b T L W x (kT air x) x.2.2.2.1.toNat s made).2.1 (phS b T L W x (kT air x) x.2.2.2.1.toNat s made).2.2
  else ([],(phS b T L W x (kT air x) x.2.2.2.1.toNat s made).1)
section
variable {a b:Int} {T:TL} {L:List TL} {lo hi:List Int} {W:TL} {air spread:Int}
theorem Fb (B:rW a b T L lo hi W air spread) {x k:Int} (hk:200<=k/\k<=3000) (hx:inT T x=true):∃ v,r88 a b T L lo hi W air spread x k=some v/\decide (v>0)=NQ T k x/\decide (v<0)= !(hot T k x):=by
 obtain ⟨f1,f2,f3,f4,f5,f6⟩:=B.few
 obtain ⟨N,D,_,P⟩:=p57 B.box.lo.ok a b L x hx
 obtain ⟨n1,n2,n3⟩:=aoL P
 have hd:0<((pl T x).den:Int):=by have:=(pl T x).den_pos; omega
 have m1:0<=k*((pl T x).den:Int):=Int.mul_nonneg (by omega) (by omega)
 have m2:k*((pl T x).den:Int)<=3000*1000000:=Int.mul_le_mul hk.2 n3 (by omega) (by omega)
 unfold r88
 rw [p53 a b T L x f1 f2 f3,if_pos (show aeI a b T L=0 from B.box.lo.set0),if_pos hx,Option.bind_some]
 simp only
 rw [IntWalk.i64_in (k*_) ⟨by omega,by omega⟩,IntWalk.i64_in _ ⟨by omega,by omega⟩]
 refine ⟨_,rfl,?_,?_⟩
 ·unfold NQ
  rw [decide_eq_decide,Rat.le_iff]
  simp<;>omega
 ·unfold hot
  rw [<- decide_not,decide_eq_decide,Rat.le_iff]
  simp<;>omega
theorem bCs {α σ ρ:Type} (v:α) (f:α->cO σ ρ):aP (some v) f=f v:=rfl
theorem nK {σ ρ:Type} (m c:Bool) (X:cO σ (cO ρ (TL×Int))) (nx:cO ρ (TL×Int)) :
 (aP (jV ((!m) || c) 24) fun v=>if ((v != 0) || (!m))=true then cO.out (some (if (v != 0)=true then cO.out (some (([]:TL),v)) else nx)) else X)=
  if m=true then (if c=true then X else cO.out (some (cO.out (some ([],24))))) else cO.out (some nx):=by
 rw [unl]; cases m<;>cases c<;>rfl
theorem aaO (B:rW a b T L lo hi W air spread) {s:List Int} (H:jg a b T L s) {p law:Int} (hx:(0<=p/\p<=10000)/\0<=law/\law<L.length) {made:TL} (hm:made.length<=200) {n:Nat} (hn:n<1000)
 (N1:cO (Int×List Int×TL) (TL×Int)) (N2:cO (Int×List Int×TL) (cO (Int×List Int×TL) (TL×Int))) :
 (if ((made.length:Int) == 200)=true then
  (cO.out (some (cO.out (some (([]:TL),(8:Int))))):cO (Int×List Int×TL) (cO (Int×List Int×TL) (TL×Int)))
  else aP (PW a b T L lo hi W air spread p law 102) fun v11=>
   aP (Xz a b T L s v11.1 v11.2) fun v12=>
    if (v12.2 != 0)=true then
     if (v12.2 != 0)=true then
      .out (some (if (v12.2 != 0)=true then
       .out (some ([],v12.2))
       else N1))
      else N2
     else if (made.length+1)*16<=140737488355328/\made.length+1<=9223372036854775807 then
      .next (IntKind.i64.wrap ((n:Int)+1),v12.1,made++[(p,law)])
      else .out none)=
 if made.length=200 then .out (some (.out (some ([],8)))) else
  if (jB b T (L.getD law.toNat default) s (pwV W p)).all (inT T)=true then .next (((n+1:Nat):Int),jB b T (L.getD law.toNat default) s (pwV W p),made++[(p,law)]) else .out (some (.out (some ([],22)))):=by
 obtain ⟨e1,_,e3⟩:=afn B H (x:=(p,law)) hx
 simp only at e1 e3
 by_cases c:made.length=200
 ·rw [if_pos c,if_pos (by rw [c]; rfl)]
 rw [if_neg c,if_neg (by simp; omega),e1]
 simp only [aP,e3]
 by_cases ho:(jB b T (L.getD law.toNat default) s (pwV W p)).all (inT T)=true
 ·simp only [if_pos ho]
  rw [if_neg (by decide),if_pos ⟨by omega,by omega⟩,wS n (by omega)]; rfl
 ·simp only [if_neg ho]
  rw [if_pos (by decide),if_pos (by decide),if_pos (by decide)]
def Bh (b:Int) (T:TL) (L:List TL) (W:TL) (x:Ph) (law:Int) (i:Int) (f n:Nat) (s:List Int) (made:TL):cO (Int×List Int×TL) (cO (Int×List Int×TL) (TL×Int)):=
 if xu T x.1 x.2.2.2.2.1 f (s.getD 0 default)=true then
  (if 0<f then
   (if made.length=200 then .out (some (.out (some ([],8)))) else
    if (jB b T (L.getD law.toNat default) s (pwV W x.2.1)).all (inT T)=true then .next (((n+1:Nat):Int),jB b T (L.getD law.toNat default) s (pwV W x.2.1),made++[(x.2.1,law)]) else .out (some (.out (some ([],22)))))
   else .out (some (.out (some ([],24)))))
 else .out (some (.next (i,s,made)))
theorem body3 (B:rW a b T L lo hi W air spread) {fl:List Ph} {s2:Int×List Int×TL} {x:Ph} (hxx:fl.getD s2.1.toNat default=x) (ok:Jd x) (ads:0<=x.2.2.1/\x.2.2.1<L.length) {s:List Int} (H:jg a b T L s) {made:TL} (hm:made.length<=200) {n:Nat} (hn:(n:Int)<=x.2.2.2.1) :
 Am (a,b,T,L,lo,hi,W,air,spread,0) (fl,0) s2 ((n:Int),s,made)=Bh b T L W x x.2.2.1 (IntKind.i64.wrap (s2.1+1)) (x.2.2.2.1.toNat - n) n s made:=by
 obtain ⟨k1,k2,k3,_,_⟩:=ok.adt
 have hl0:0<s.length:=by have:=H.len; have:=H.ok.cells; omega
 have h0:inT T (s.getD 0 default)=true:=H.ins _ (getD_mem hl0)
 have hc:decide ((n:Int)<x.2.2.2.1)=decide (0<x.2.2.2.1.toNat - n):=by rw [decide_eq_decide]; omega
 have hT:=fun N1 N2=>aaO B H (p:=x.2.1) (law:=x.2.2.1) ⟨k1,ads⟩ hm (show n<1000 by omega) N1 N2
 unfold Bh xu
 by_cases e3:x.1=3
 ·obtain ⟨v,q1,_,q3⟩:=Fb B (k3 (.inl e3)) h0
  have y3:(x.1 == 3)=true:=by rw [e3]; rfl
  simp only [Am,hxx,y3,if_true]
  rw [if_pos ⟨by omega,by omega⟩,q1,bCs,if_pos e3]
  exact (nK _ _ _ _).trans (by rw [q3,hc,hT]; simp only [decide_eq_true_eq])
 have y3:¬ (x.1 == 3)=true:=by simpa using e3
 by_cases e4:x.1=4
 ·obtain ⟨v,q1,q2,_⟩:=Fb B (k3 (.inr e4)) h0
  have y4:(x.1 == 4)=true:=by rw [e4]; rfl
  simp only [Am,hxx,if_neg y3,y4,if_true]
  rw [if_pos ⟨by omega,by omega⟩,q1,bCs,if_neg e3,if_pos e4]
  exact (nK _ _ _ _).trans (by rw [q2,hc,hT]; simp only [decide_eq_true_eq])
 have y4:¬ (x.1 == 4)=true:=by simpa using e4
 simp only [Am,hxx,if_neg y3,if_neg y4,if_neg e3,if_neg e4]
 exact (nK _ _ _ _).trans (by rw [hc,hT]; simp only [decide_eq_true_eq])
theorem body4 (B:rW a b T L lo hi W air spread) {fl:List Ph} {s2:Int×List Int×TL} {x:Ph} (hxx:fl.getD s2.1.toNat default=x) (ok:Jd x) {s:List Int} (H:jg a b T L s) {made:TL} (hm:made.length<=200) {n:Nat} (hn:(n:Int)<=x.2.2.2.1) :
 Ak (a,b,T,L,lo,hi,W,air,spread,0) (fl,0) s2 ((n:Int),s,made)=Bh b T L W x air (IntKind.i64.wrap (s2.1+1)) (x.2.2.2.1.toNat - n) n s made:=by
 obtain ⟨k1,k2,k3,_,_⟩:=ok.adt
 have hl0:0<s.length:=by have:=H.len; have:=H.ok.cells; omega
 have h0:inT T (s.getD 0 default)=true:=H.ins _ (getD_mem hl0)
 have hc:decide ((n:Int)<x.2.2.2.1)=decide (0<x.2.2.2.1.toNat - n):=by rw [decide_eq_decide]; omega
 have hT:=fun N1 N2=>aaO B H (p:=x.2.1) (law:=air) ⟨k1,B.air⟩ hm (show n<1000 by omega) N1 N2
 unfold Bh xu
 by_cases e3:x.1=3
 ·obtain ⟨v,q1,_,q3⟩:=Fb B (k3 (.inl e3)) h0
  have y3:(x.1 == 3)=true:=by rw [e3]; rfl
  simp only [Ak,hxx,y3,if_true]
  rw [if_pos ⟨by omega,by omega⟩,q1,bCs,if_pos e3]
  exact (nK _ _ _ _).trans (by rw [q3,hc,hT]; simp only [decide_eq_true_eq])
 have y3:¬ (x.1 == 3)=true:=by simpa using e3
 by_cases e4:x.1=4
 ·obtain ⟨v,q1,q2,_⟩:=Fb B (k3 (.inr e4)) h0
  have y4:(x.1 == 4)=true:=by rw [e4]; rfl
  simp only [Ak,hxx,if_neg y3,y4,if_true]
  rw [if_pos ⟨by omega,by omega⟩,q1,bCs,if_neg e3,if_pos e4]
  exact (nK _ _ _ _).trans (by rw [q2,hc,hT]; simp only [decide_eq_true_eq])
 have y4:¬ (x.1 == 4)=true:=by simpa using e4
 simp only [Ak,hxx,if_neg y3,if_neg y4,if_neg e3,if_neg e4]
 exact (nK _ _ _ _).trans (by rw [hc,hT]; simp only [decide_eq_true_eq])
end
def endP (i:Int) (y:Int×List Int×TL):cO (Int×List Int×TL) (TL×Int):=if y.1=0 then .next (i,y.2.1,y.2.2) else .out (some ([],y.1))
section
variable {a b:Int} {T:TL} {L:List TL} {lo hi:List Int} {W:TL} {air spread:Int}
theorem KU {x:Ph} {law:Int}:∀ (f:Nat) (s:List Int) (made:TL),jg a b T L s->made.length<=200->jg a b T L (phS b T L W x law f s made).2.1/\(phS b T L W x law f s made).2.2.length<=200
 | 0,s,made,H,hm=>by rw [phS]; split<;>exact ⟨H,hm⟩
 | f+1,s,made,H,hm=>by
  rw [phS]
  split
  ·split
   ·exact ⟨H,hm⟩
   ·split
    ·rename_i h1 h2 h3
     exact KU f _ _ (H.next h3) (by simp; omega)
    ·exact ⟨H,hm⟩
  ·exact ⟨H,hm⟩
theorem zy {x:Ph} {law i:Int} {Bd:Int×List Int×TL->cO (Int×List Int×TL) (cO (Int×List Int×TL) (TL×Int))} {N:Nat} (hN:N<1000)
 (hB:∀ (n:Nat) s made,jg a b T L s->made.length<=200->n<=N->Bd ((n:Int),s,made)=Bh b T L W x law i (N - n) n s made) {s:List Int} (H:jg a b T L s) {made:TL} (hm:made.length<=200) :
 aS Bd 1000000000 (0,s,made)=some (endP i (phS b T L W x law N s made)):=by
 refine eX Bd (fun m u=>u.1=(m:Int)/\jg a b T L u.2.1/\u.2.2.length<=200/\phS b T L W x law (N - m) u.2.1 u.2.2=phS b T L W x law N s made) (fun o=>o=some (endP i (phS b T L W x law N s made))) N ?_ ?_ _ ⟨rfl,H,hm,by rw [Nat.sub_zero]⟩ _ (by omega)
 ·rintro m ⟨_,s,made⟩ hm ⟨rfl,H,hml,he⟩
  simp only at H hml he
  obtain ⟨f,hf⟩:∃ f,N - m=f+1:=⟨N - m - 1,by omega⟩
  rw [hB m s made H hml (by omega), <- he,hf]
  unfold Bh
  rw [phS]
  by_cases c:xu T x.1 x.2.2.2.2.1 (f+1) (s.getD 0 default)=true
  ·rw [if_pos c,if_pos c,if_pos (by omega)]
   by_cases c8:made.length=200
   ·rw [if_pos c8,if_pos c8]; exact .inr ⟨_,rfl,rfl⟩
   rw [if_neg c8,if_neg c8]
   by_cases ho:(jB b T (L.getD law.toNat default) s (pwV W x.2.1)).all (inT T)=true
   ·rw [if_pos ho,if_pos ho]
    refine .inl ⟨_,rfl,rfl,H.next ho,by simp; omega,?_⟩
    rw [show N - (m+1)=f by omega]
   ·rw [if_neg ho,if_neg ho]; exact .inr ⟨_,rfl,rfl⟩
  ·rw [if_neg c,if_neg c]; exact .inr ⟨_,rfl,rfl⟩
 ·rintro ⟨_,s,made⟩ ⟨rfl,H,hml,he⟩
  simp only at H hml he
  rw [Nat.sub_self] at he
  rw [hB N s made H hml (Nat.le_refl _), <- he,Nat.sub_self]
  unfold Bh
  rw [phS]
  by_cases c:xu T x.1 x.2.2.2.2.1 0 (s.getD 0 default)=true
  ·rw [if_pos c,if_pos c,if_neg (by omega)]; exact ⟨_,rfl,rfl⟩
  ·rw [if_neg c,if_neg c]; exact ⟨_,rfl,rfl⟩
theorem aer (B:rW a b T L lo hi W air spread) {fl:List Ph} (hl:fl.length<=60) (ok:∀ x∈fl,Jd x) (ads:∀ x∈fl,0<=x.2.2.1/\x.2.2.1<L.length) :
 aS (Iq (a,b,T,L,lo,hi,W,air,spread,0) (fl,0)) 1000000000 (0,lo,[])=some (coS b T L W air fl lo []):=by
 refine eX _ (fun i u=>u.1=(i:Int)/\jg a b T L u.2.1/\u.2.2.length<=200/\coS b T L W air (fl.drop i) u.2.1 u.2.2=coS b T L W air fl lo []) (fun o=>o=some (coS b T L W air fl lo [])) fl.length ?_ ?_ _ ⟨rfl,B.box.lo,by simp,rfl⟩ _ (by omega)
 ·rintro i ⟨_,s,made⟩ hi' ⟨rfl,H,hml,he⟩
  simp only at H hml he
  have hx:=ok _ (getD_mem hi')
  have hxl:=ads _ (getD_mem hi')
  obtain ⟨k1,k2,_⟩:=hx.adt
  have hd:fl.drop i=fl.getD i default::fl.drop (i+1):=by
   rw [List.drop_eq_getElem_cons hi',List.getD_eq_getElem?_getD,List.getElem?_eq_getElem hi']; rfl
  have key:(if nD (fl.getD i default).1=true then (aS (Am (a,b,T,L,lo,hi,W,air,spread,0) (fl,0) ((i:Int),s,made)) 1000000000 (0,s,made)).getD (.out none)
   else (aS (Ak (a,b,T,L,lo,hi,W,air,spread,0) (fl,0) ((i:Int),s,made)) 1000000000 (0,s,made)).getD (.out none))=
   endP (((i+1:Nat):Int)) (phS b T L W (fl.getD i default) (kT air (fl.getD i default)) (fl.getD i default).2.2.2.1.toNat s made):=by
   have hw:IntKind.i64.wrap ((i:Int)+1)=((i+1:Nat):Int):=by rw [wS i (by omega)]; rfl
   unfold kT
   by_cases hc:nD (fl.getD i default).1=true
   ·rw [if_pos hc,if_pos hc,zy (a:=a) (x:=fl.getD i default) (law:=(fl.getD i default).2.2.1) (i:=((i+1:Nat):Int)) (N:=(fl.getD i default).2.2.2.1.toNat) (by omega) (fun n s' made' H' hm' hn'=>by
     rw [body3 B (by rw [Int.toNat_natCast]) hx hxl H' hm' (by omega),hw]) H hml]; rfl
   ·rw [if_neg hc,if_neg hc,zy (a:=a) (x:=fl.getD i default) (law:=air) (i:=((i+1:Nat):Int)) (N:=(fl.getD i default).2.2.2.1.toNat) (by omega) (fun n s' made' H' hm' hn'=>by
     rw [body4 B (by rw [Int.toNat_natCast]) hx H' hm' (by omega),hw]) H hml]; rfl
  simp only [Iq,lS hi',if_true,if_pos (jJ hi'),Int.toNat_natCast,cold,bCs]
  rw [key]
  rw [hd,coS] at he
  obtain ⟨p1,p2⟩:=KU (W:=W) (x:=fl.getD i default) (law:=kT air (fl.getD i default)) (fl.getD i default).2.2.2.1.toNat s made H hml
  unfold endP
  by_cases h0:(phS b T L W (fl.getD i default) (kT air (fl.getD i default)) (fl.getD i default).2.2.2.1.toNat s made).1=0
  ·rw [if_pos h0] at he ⊢
   exact .inl ⟨_,rfl,rfl,p1,p2,he⟩
  ·rw [if_neg h0] at he ⊢
   exact .inr ⟨_,rfl,by rw [he]⟩
 ·rintro ⟨_,s,made⟩ ⟨rfl,H,hml,he⟩
  simp only at H hml he
  rw [List.drop_length,coS] at he
  simp only [Iq,y8,Bool.false_eq_true,if_false]
  exact ⟨_,rfl,by rw [he]⟩
def zW (n:Int) (fl:List Ph):Bool:=fl.all fun x=>dW x.2.2.1 0 (n - 1)
def iR (b:Int) (T:TL) (L:List TL) (lo:List Int) (W:TL) (air:Int) (l:List Ph):TL×Int:=
 if (oz l).2=0 then (if zW L.length (flL l)=true then coS b T L W air (flL l) lo [] else ([],6)) else ([],(oz l).2)
theorem Qc (hT:T.length<1000) (hn:L.length<1000) (hL:∀ x∈L,x.length<1000) (h1:lo.length<1000000) (h2:hi.length<1000000) (hw:W.length<1000) {l:List Ph} (hl:l.length<1000000) :
 r15 a b T L lo hi W air spread l=some (if (GK a b T L lo hi W air spread).2=0 then iR b T L lo W air l else ([],(GK a b T L lo hi W air spread).2)):=by
 unfold r15 r45
 rw [aqO a b T L lo hi W air spread hT hn hL h1 h2 hw,Option.bind_some,Option.bind_some]
 simp only
 by_cases hb:(GK a b T L lo hi W air spread).2=0
 rotate_left
 ·rw [if_pos (by simpa using hb),if_neg hb]
 have B:=X5 hb
 rw [if_neg (by simpa using hb),if_pos hb,ES hl,Option.bind_some]
 unfold iR
 by_cases hr:(oz l).2=0
 ·obtain ⟨q1,q2,q3,_⟩:=yU hr
  rw [if_pos hr,if_pos hr,hb]
  simp only
  have adI:∀ (c d:Bool),dL [if c=true then (0:Int) else 6,bW d 6]=if (c && d)=true then 0 else 6:=fun c d=>by cases c<;>cases d<;>rfl
  refine eX (yF (a,b,T,L,lo,hi,W,air,spread,0) (flL l,0)) (fun i s=>s=(if zW L.length ((flL l).take i)=true then 0 else 6,(i:Int))) (fun o=>o=some (if zW L.length (flL l)=true then coS b T L W air (flL l) lo [] else ([],6))) (flL l).length ?_ ?_ _ rfl _ (by omega)
  ·rintro i _ hi' rfl
   have ht:zW L.length ((flL l).take (i+1))=(zW L.length ((flL l).take i) && dW ((flL l).getD i default).2.2.1 0 ((L.length:Int) - 1)):=by
    unfold zW
    rw [List.take_add_one,List.getElem?_eq_getElem hi',List.all_append,List.getD_eq_getElem?_getD,List.getElem?_eq_getElem hi']
    simp
   refine .inl ⟨_,?_,rfl⟩
   simp only [yF,lS hi',if_true,if_pos (jJ hi'),Int.toNat_natCast,wS i (by omega),last hn,aP,wit,unl]
   rw [fst _ (by simp),adI,ht]; rfl
  ·rintro _ rfl
   rw [List.take_length]
   simp only [yF,y8,Bool.false_eq_true,if_false]
   refine ⟨_,rfl,?_⟩
   by_cases hc:zW L.length (flL l)=true
   ·rw [if_pos hc,if_pos hc,if_neg (by decide)]
    exact aer B q3 (yh q2) (fun x hx=>by
     have:=fF.1 (List.all_eq_true.1 hc x hx)
     omega)
   ·rw [if_neg hc,if_neg hc,if_pos (by decide)]
 ·rw [if_neg hr,if_neg hr]
  have e:yF (a,b,T,L,lo,hi,W,air,spread,(GK a b T L lo hi W air spread).2) ([],(oz l).2) ((oz l).2,0)= .out (some ([],(oz l).2)):=by
   have:((oz l).2 != 0)=true:=by simpa using hr
   simp [yF,this]
  show aS (yF (a,b,T,L,lo,hi,W,air,spread,(GK a b T L lo hi W air spread).2) ([],(oz l).2)) (999999999+1) ((oz l).2,0)=_
  rw [aS,e]
end
section
variable {a b:Int} {T:TL} {L:List TL} {lo hi:List Int} {W:TL} {air spread:Int}
theorem Dy:∀ (l m:TL) (s s1:List Int),runT b T L W s l=some s1->runT b T L W s (l++m)=runT b T L W s1 m
 | [],m,s,s1,h=>by obtain rfl:=Option.some.inj h; rfl
 | x::l,m,s,s1,h=>by
  rw [List.cons_append,runT]
  rw [runT] at h
  split at h
  ·rename_i c
   rw [if_pos c]; exact Dy l m _ s1 h
  ·cases h
theorem BK {x:Ph} {law:Int}:∀ (f:Nat) (s:List Int) (made:TL),(phS b T L W x law f s made).1=0->
 ∃ m,m<=f/\(phS b T L W x law f s made).2.2=made++List.replicate m (x.2.1,law)/\runT b T L W s (List.replicate m (x.2.1,law))=some (phS b T L W x law f s made).2.1/\(x.1≠3->x.1≠4->m=f)
 | 0,s,made,h=>by
  rw [phS] at h ⊢
  split at h
  ·cases h
  ·rename_i c
   rw [if_neg c]
   exact ⟨0,Nat.le_refl _,by simp,rfl,fun _ _=>rfl⟩
 | f+1,s,made,h=>by
  rw [phS] at h ⊢
  by_cases c:xu T x.1 x.2.2.2.2.1 (f+1) (s.getD 0 default)=true
  ·rw [if_pos c] at h ⊢
   by_cases c8:made.length=200
   ·rw [if_pos c8] at h; cases h
   rw [if_neg c8] at h ⊢
   by_cases ho:(jB b T (L.getD law.toNat default) s (pwV W x.2.1)).all (inT T)=true
   ·rw [if_pos ho] at h ⊢
    obtain ⟨m,h1,h2,h3,h4⟩:=BK f _ _ h
    refine ⟨m+1,by omega,?_,?_,fun n3 n4=>by rw [h4 n3 n4]⟩
    ·rw [h2,List.append_assoc,List.replicate_succ]; rfl
    ·rw [List.replicate_succ,runT,if_pos ho]; exact h3
   ·rw [if_neg ho] at h; cases h
  ·rw [if_neg c] at h ⊢
   refine ⟨0,by omega,by simp,rfl,fun n3 n4=> ?_⟩
   unfold xu at c
   rw [if_neg n3,if_neg n4] at c
   simp at c
theorem Qi:∀ (fl:List Ph) (s:List Int) (made:TL),(∀ x∈fl,Jd x)->(∀ x∈fl,0<=kT air x/\kT air x<L.length)->(coS b T L W air fl s made).2=0->
 ∃ more s1,(coS b T L W air fl s made).1=made++more/\runT b T L W s more=some s1/\(∀ y∈more,(0<=y.1/\y.1<=10000)/\0<=y.2/\y.2<L.length)
 | [],s,made,_,_,h=>⟨[],s,by simp [coS],rfl,by simp⟩
 | x::r,s,made,ok,hl,h=>by
  rw [coS] at h ⊢
  by_cases c:(phS b T L W x (kT air x) x.2.2.2.1.toNat s made).1=0
  ·rw [if_pos c] at h ⊢
   obtain ⟨m,h1,h2,h3,_⟩:=BK _ _ _ c
   obtain ⟨more,s1,g1,g2,g3⟩:=Qi r _ _ (fun y hy=>ok y (by simp [hy])) (fun y hy=>hl y (by simp [hy])) h
   refine ⟨List.replicate m (x.2.1,kT air x)++more,s1,by rw [g1,h2,List.append_assoc],by rw [Dy _ _ _ _ h3]; exact g2,fun y hy=> ?_⟩
   rcases List.mem_append.1 hy with hy | hy
   ·obtain ⟨-,rfl⟩:=List.mem_replicate.1 hy
    exact ⟨(ok x (by simp)).adt.1,hl x (by simp)⟩
   ·exact g3 y hy
  ·rw [if_neg c] at h; exact absurd h c
theorem Qn {fl:List Ph}:∀ {s:List Int} {made:TL},jg a b T L s->made.length<=200->(coS b T L W air fl s made).1.length<=200:=by
 induction fl with
 | nil=>intro s made _ hm; exact hm
 | cons x r ih=>
  intro s made H hm
  rw [coS]
  obtain ⟨p1,p2⟩:=KU (W:=W) (x:=x) (law:=kT air x) x.2.2.2.1.toNat s made H hm
  split
  ·exact ih p1 p2
  ·simp
theorem Qs:∀ {fl:List Ph} {s:List Int} {made:TL},(coS b T L W air fl s made).2≠0->(coS b T L W air fl s made).1=[]
 | [],_,_,h=>absurd rfl h
 | x::r,s,made,h=>by
  rw [coS] at h ⊢
  split at h
  ·rename_i c; rw [if_pos c]; exact Qs h
  ·rename_i c; rw [if_neg c]
theorem Gw:∀ (fl:List Ph) (s:List Int) (made:TL),(∀ x∈fl,Jd x)->0<fl.length->nD (fl.getD (fl.length - 1) default).1=true->(coS b T L W air fl s made).2=0->
 (fl.getD (fl.length - 1) default).1=4\/∃ q w,(coS b T L W air fl s made).1=q++[(0,w)]
 | [],_,_,_,h,_,_=>absurd h (by simp)
 | [x],s,made,ok,_,hc,h=>by
  by_cases h4:x.1=4
  ·exact .inl h4
  right
  have hx:=ok x (by simp)
  have hc':nD x.1=true:=hc
  have h2:x.1=2:=by
   have:x.1=2\/x.1=4:=by simpa [nD] using hc'
   omega
  obtain ⟨_,k2,_,_,k5⟩:=hx.adt
  rw [coS] at h ⊢
  by_cases c:(phS b T L W x (kT air x) x.2.2.2.1.toNat s made).1=0
  ·rw [if_pos c] at h ⊢
   obtain ⟨m,h1,g2,h3,g4⟩:=BK _ _ _ c
   obtain ⟨n,hn⟩:∃ n,m=n+1:=⟨m - 1,by have:=g4 (by omega) (by omega); omega⟩
   rw [coS,g2,hn,k5 hc',List.replicate_succ']
   exact ⟨made++List.replicate n (0,kT air x),kT air x,by rw [List.append_assoc]⟩
  ·rw [if_neg c] at h; exact absurd h c
 | x::y::r,s,made,ok,_,hc,h=>by
  have e:(x::y::r).getD ((x::y::r).length - 1) default=(y::r).getD ((y::r).length - 1) default:=by simp [List.getD_eq_getElem?_getD]
  rw [e] at hc ⊢
  rw [coS] at h ⊢
  by_cases c:(phS b T L W x (kT air x) x.2.2.2.1.toNat s made).1=0
  ·rw [if_pos c] at h ⊢
   exact Gw (y::r) _ _ (fun z hz=>ok z (by simp [hz])) (by simp) hc h
  ·rw [if_neg c] at h; exact absurd h c
end
def dp:Hl->Nat
 | .nil=>0
 | .cons _ _ _ _ _ b r=>max (dp b+1) (dp r)
def shB (n:Nat):Hl->Bool
 | .nil=>true
 | .cons _ _ _ _ _ b r=>decide (hN b<=n) && shB n b && shB n r
theorem X3:∀ {b:Hl} {x:Ph},x∈hU b->dp x.2.2.2.2.2+1<=dp b
 | .nil,x,h=>by cases h
 | .cons k p l t q b r,x,h=>by
  rw [dp]
  rcases List.mem_cons.1 h with rfl | h
  ·exact Nat.le_max_left _ _
  ·exact Nat.le_trans (X3 h) (Nat.le_max_right _ _)
theorem Xe {n:Nat}:∀ {b:Hl} {x:Ph},shB n b=true->x∈hU b->hN x.2.2.2.2.2<=n/\shB n x.2.2.2.2.2=true
 | .nil,x,_,h=>by cases h
 | .cons k p l t q b r,x,hs,h=>by
  rw [shB] at hs
  simp only [Bool.and_eq_true,decide_eq_true_eq] at hs
  rcases List.mem_cons.1 h with rfl | h
  ·exact ⟨hs.1.1,hs.1.2⟩
  ·exact Xe hs.2 h
def dpL (l:List Ph):Nat:=dp (hM l)
def shL (n:Nat) (l:List Ph):Bool:=decide (l.length<=n) && shB n (hM l)
theorem yJ {l:List Ph} {x:Ph} (h:x∈l):dpL (hU x.2.2.2.2.2)+1<=dpL l:=by
 unfold dpL
 rw [xY]
 exact X3 (b:=hM l) (by rw [zZ]; exact h)
theorem KP {n:Nat} {l:List Ph} {x:Ph} (hs:shL n l=true) (h:x∈l):shL n (hU x.2.2.2.2.2)=true:=by
 unfold shL at hs ⊢
 simp only [Bool.and_eq_true,decide_eq_true_eq] at hs ⊢
 have h2:=Xe hs.2 (x:=x) (by rw [zZ]; exact h)
 rw [xY,uY]
 exact h2
theorem Bo {n:Nat} {l:List Ph} (hs:shL n l=true):l.length<=n:=by
 unfold shL at hs
 simp only [Bool.and_eq_true,decide_eq_true_eq] at hs
 exact hs.1
theorem KL {n:Nat}:∀ {l:List Ph},l.length<=n->(∀ x∈l,shL n (hU x.2.2.2.2.2)=true)->shL n l=true
 | [],_,_=>by unfold shL; simp [hM,shB]
 | (k,p,w,t,q,b)::r,hl,h=>by
  have h1:=h (k,p,w,t,q,b) (by simp)
  have h2:=KL (n:=n) (l:=r) (by simp at hl; omega) (fun x hx=>h x (by simp [hx]))
  unfold shL at h1 h2 ⊢
  simp only [Bool.and_eq_true,decide_eq_true_eq,xY,uY] at h1 h2 ⊢
  rw [hM,shB]
  simp only [Bool.and_eq_true,decide_eq_true_eq]
  exact ⟨hl,⟨h1.1,h1.2⟩,h2.2⟩
theorem OM {n:Nat}:∀ {l:List Ph},(∀ x∈l,dpL (hU x.2.2.2.2.2)+1<=n)->dpL l<=n
 | [],_=>by unfold dpL; simp [hM,dp]
 | (k,p,w,t,q,b)::r,h=>by
  have h1:=h (k,p,w,t,q,b) (by simp)
  have h2:=OM (n:=n) (l:=r) (fun x hx=>h x (by simp [hx]))
  unfold dpL at h1 h2 ⊢
  rw [xY] at h1
  rw [hM,dp]
  exact Nat.max_le.2 ⟨h1,h2⟩
theorem Zl:∀ (b:Hl) (d:Int),0<=d->d<=3->lsE b d=0->(dp b:Int)<=4 - d
 | .nil,d,_,_,_=>by rw [dp]; omega
 | .cons k p l t q b r,d,h0,h3,h=>by
  have hx:=qg h (k,p,l,t,q,b) (by simp [hU])
  have hr:lsE r d=0:=by rw [sS,if_pos hx] at h; exact h
  have ih:=Zl r d h0 h3 hr
  rw [dp]
  have hb:(dp b:Int)+1<=4 - d:=by
   by_cases k5:k=5
   ·obtain ⟨n3,k2,_,_⟩:=mO hx k5
    simp only at k2
    have:=Zl b (d+1) (by omega) (by omega) k2
    omega
   ·have ho:=(vV (adk hx k5)).2.1
    unfold jm at ho
    simp only [Bool.and_eq_true,Bool.or_eq_true,beq_iff_eq] at ho
    have hb0:hN b=0:=by rcases ho.2 with h | h; exact absurd h k5; exact h
    cases b with
    | nil=>rw [dp]; omega
    | cons=>simp [hN] at hb0
  omega
where
 adk {d:Int} {x:Ph} (h:phE d x=0) (h5:x.1≠5):lU x.1 x.2.1 x.2.2.1 x.2.2.2.1 x.2.2.2.2.1 (hN x.2.2.2.2.2 == 0)=0:=by
  rw [rF h5] at h; exact h
end Go.Proofs.YtkbdjphdhcgmaaaGreatDoor

/- Recipes: the errors of phases by the code. -/
import Derived.Test.YtkbdjphdhcgmaaaGreatDoorF01
import Derived.Test.YtkbdjphdhcgmaaaGreatDoorRcpA
import Derived.Test.YtkbdjphdhcgmaaaGreatDoorF05
set_option linter.unusedVariables false
set_option linter.unusedSimpArgs false
namespace Go.Proofs.YtkbdjphdhcgmaaaGreatDoor
open Go.dR
abbrev Ph:=Int×Int×Int×Int×Int×Hl
def Au (k:Int):Bool:=k == 0 || k == 3
def BN (k:Int):Bool:=k == 2 || k == 4
def Ar (k:Int):Bool:=k == 3 || k == 4
def kN (k p l q:Int) (em:Bool):Bool:=(Au k || p == 0) && (BN k || l == 0) && (Ar k || q == 0) && (k == 5 || em)
def je (k p l t q:Int):Bool:=(!Au k || dW p 1 10000) && (!BN k || dW l 0 3) && dW t 1 (if k=5 then 10 else 200) && (!Ar k || dW q 200 3000)
def jo (k p l t q:Int) (em:Bool):Int:=if dW k 0 5=true then (if kN k p l q em=true then (if je k p l t q=true then 0 else 2) else 3) else 15
def Af (d:Int) (n:Nat) (e:Int):Int:=if d=3 then 16 else if n=0 then 10 else if 12<n then 8 else e
def yJ:Hl->Int->Int
 | .nil,_=>0
 | .cons k p l t q b r,d=>
  if (if jo k p l t q (hN b == 0)=0 then (if k=5 then Af d (hN b) (yJ b (d+1)) else 0) else jo k p l t q (hN b == 0))=0 then yJ r d
  else (if jo k p l t q (hN b == 0)=0 then (if k=5 then Af d (hN b) (yJ b (d+1)) else 0) else jo k p l t q (hN b == 0))
def lQ (d:Int) (x:Ph):Int:=
 if jo x.1 x.2.1 x.2.2.1 x.2.2.2.1 x.2.2.2.2.1 (hN x.2.2.2.2.2 == 0)=0 then (if x.1=5 then Af d (hN x.2.2.2.2.2) (yJ x.2.2.2.2.2 (d+1)) else 0) else jo x.1 x.2.1 x.2.2.1 x.2.2.2.1 x.2.2.2.2.1 (hN x.2.2.2.2.2 == 0)
theorem xP (k p l t q:Int) (b r:Hl) (d:Int):yJ (.cons k p l t q b r) d=if lQ d (k,p,l,t,q,b)=0 then yJ r d else lQ d (k,p,l,t,q,b):=by
 rw [yJ]; rfl
def G8 (d:Int):Int->List Ph->Int×Int
 | _,[]=>(0,0)
 | i,x::r=>if lQ d x=0 then G8 d (i+1) r else (i,lQ d x)
theorem BF (d:Int):∀ (b:Hl) (i:Int),(G8 d i (hU b)).2=yJ b d
 | .nil,_=>by rw [yJ]; rfl
 | .cons k p l t q b r,i=>by
  rw [xP,hU,G8]
  by_cases h:lQ d (k,p,l,t,q,b)=0
  ·rw [if_pos h,if_pos h]; exact BF d r (i+1)
  ·rw [if_neg h,if_neg h]
def y9 (x:Ph) (f:Nat):Int:=if f=140 then x.2.1 else if f=141 then x.2.2.1 else if f=142 then x.2.2.2.1 else x.2.2.2.2.1
theorem N7 (d:Int):∀ (r:List Ph) (i:Int),kS (fun i _ x=>if lQ d x=0 then (.next ():cO Unit Int) else .out (some (lQ d x))) (fun _:Unit=>some 0) i r ()=some (G8 d i r).2
 | [],_=>rfl
 | x::r,i=>by
  simp only [kS,G8]
  by_cases h:lQ d x=0
  ·simp only [if_pos h]; exact N7 d r _
  ·simp only [if_neg h]
theorem uK (d:Int) (fin:Option (Int×Int)):∀ (r:List Ph) (i:Int),kS (fun i _ x=>if lQ d x=0 then (.next ():cO Unit (Int×Int)) else .out (some (i,lQ d x))) (fun _:Unit=>fin) i r ()=if (G8 d i r).2=0 then fin else some (G8 d i r)
 | [],_=>rfl
 | x::r,i=>by
  simp only [kS,G8]
  by_cases h:lQ d x=0
  ·simp only [if_pos h]; exact uK d fin r _
  ·simp only [if_neg h]
theorem kT {R:Int->Int->Int->Int->Int->Hl->Int->Option Int} {x:Ph} {d:Int} (fs:List (Nat×Int×Int)) (hf:∀ f∈fs,f.1=140\/f.1=141\/f.1=142\/f.1=143) (hl:fs.length<10) {o:Option Int}
 (he:rX R x.1 x.2.1 x.2.2.1 x.2.2.2.1 x.2.2.2.2.1 x.2.2.2.2.2 d fs (fs.all (fun f=>dW (y9 x f.1) f.2.1 f.2.2),(fs.length:Int))= .out o) :
 aS (rX R x.1 x.2.1 x.2.2.1 x.2.2.2.1 x.2.2.2.2.1 x.2.2.2.2.2 d fs) 1000000000 (true,0)=o:=by
 refine eX _ (fun i s=>s=((fs.take i).all (fun f=>dW (y9 x f.1) f.2.1 f.2.2),(i:Int))) (fun r=>r=o) fs.length ?_ ?_ _ rfl _ (by omega)
 ·rintro i _ hi rfl
  have ht:(fs.take (i+1)).all (fun f=>dW (y9 x f.1) f.2.1 f.2.2)=((fs.take i).all (fun f=>dW (y9 x f.1) f.2.1 f.2.2) && dW (y9 x (fs.getD i default).1) (fs.getD i default).2.1 (fs.getD i default).2.2):=by
   rw [List.take_add_one,List.getElem?_eq_getElem hi,List.all_append,List.getD_eq_getElem?_getD,List.getElem?_eq_getElem hi]
   simp
  refine .inl ⟨_,?_,rfl⟩
  rw [ht]
  have hm:=hf _ (getD_mem hi)
  simp only [rX,lS hi,if_true,if_pos (jJ hi),Int.toNat_natCast,wS i (by omega),XM,XL,XK,XJ,wit,Option.isSome_some,implies_true,Option.getD_some]
  rcases hm with h | h | h | h<;>simp only [h,y9,if_true,show ¬ (141:Nat)=140 by decide,show ¬ (142:Nat)=140 by decide,show ¬ (142:Nat)=141 by decide,show ¬ (143:Nat)=140 by decide,show ¬ (143:Nat)=141 by decide,show ¬ (143:Nat)=142 by decide,if_false]<;>rfl
 ·rintro _ rfl
  rw [List.take_length]
  exact ⟨o,he,rfl⟩
theorem Eo (b:Hl):((((hU b).length:Int)) == 0)=(hN b == 0):=by
 rw [uY]
 by_cases h:hN b=0
 ·rw [h]; rfl
 ·have h1:((hN b:Int) == 0)=false:=by rw [beq_eq_false_iff_ne]; omega
  have h2:(hN b == 0)=false:=by rw [beq_eq_false_iff_ne]; exact h
  rw [h1,h2]
theorem uF (c r:Bool):dL [bW c 3,bW r 2]=if c=true then (if r=true then 0 else 2) else 3:=by cases c<;>cases r<;>rfl
theorem wu {d:Int} {x:Ph} (h:x.1≠5):lQ d x=jo x.1 x.2.1 x.2.2.1 x.2.2.2.1 x.2.2.2.2.1 (hN x.2.2.2.2.2 == 0):=by
 unfold lQ
 by_cases c:jo x.1 x.2.1 x.2.2.1 x.2.2.2.1 x.2.2.2.2.1 (hN x.2.2.2.2.2 == 0)=0
 ·rw [if_pos c,if_neg h,c]
 ·rw [if_neg c]
theorem Y4 {n:Nat} {d:Int} (hd:0<=d/\d<3) (ih:∀ x:Ph,OX n x.1 x.2.1 x.2.2.1 x.2.2.2.1 x.2.2.2.2.1 x.2.2.2.2.2 (d+1)=some (lQ (d+1) x)) (b:Hl) (hl:hN b<=12) :
 aS (EJ (OX n) b d) 1000000000 0=some (yJ b (d+1)):=by
 have hw:IntKind.i64.wrap (d+1)=d+1:=IntWalk.i64_in _ ⟨by omega,by omega⟩
 have hbl:=uY b
 have h:=kR (τ:=Unit) (hU b) (EJ (OX n) b d) (fun i _=>i) (fun _ _ x=>if lQ (d+1) x=0 then .next () else .out (some (lQ (d+1) x))) (fun _=>some 0) (by omega)
  (fun i t hi=>by
   simp only [EJ,lS hi,if_true,if_pos (jJ hi),Int.toNat_natCast,wS i (by omega),hw,ih ((hU b).getD i default),aP]
   by_cases c:lQ (d+1) ((hU b).getD i default)=0
   ·rw [if_pos c,c]; rfl
   ·rw [if_neg c,if_pos (by simpa using c)]; rfl)
  (fun t=>by simp [EJ]) ()
 rw [h]
 exact (N7 (d+1) (hU b) 0).trans (congrArg some (BF (d+1) b 0))
theorem aat:∀ (n:Nat) (d:Int),0<=d->d<=3->4<=n+d->∀ x:Ph,OX n x.1 x.2.1 x.2.2.1 x.2.2.2.1 x.2.2.2.2.1 x.2.2.2.2.2 d=some (lQ d x)
 | 0,d,h0,h3,h4,_=>by omega
 | n+1,d,h0,h3,h4,(k,p,l,t,q,b)=>by
  show q67 n (OX n) k p l t q b d=_
  unfold q67
  rw [wit,Option.bind_some]
  by_cases hk:dW k 0 5=true
  rotate_left
  ·have e:jo k p l t q (hN b == 0)=15:=by unfold jo; rw [if_neg hk]
   rw [if_pos (by simpa using hk)]
   unfold lQ
   simp only [e]
   rw [if_neg (by decide)]
  rw [hk,if_neg (by decide)]
  have hk':=iR.1 hk
  have cs:k=0\/k=1\/k=2\/k=3\/k=4\/k=5:=by omega
  rcases cs with rfl | rfl | rfl | rfl | rfl | rfl
  ·rw [show r96 0=some [(140,1,10000),(142,1,200)] from rfl,Option.bind_some,kT (x:=(0,p,l,t,q,b)) _ (by simp) (by simp) (by simp only [rX,y8,Bool.false_eq_true,if_false]; exact rfl)]
   rw [if_pos (by decide),Bh,Option.bind_some,Bh,Option.bind_some,fst _ (by simp),Option.bind_some,if_pos (by rw [Bool.or_eq_true]; exact .inr rfl),wu (show _≠(5:Int) by simp),uF,Eo]
   simp [jo,kN,je,Au,BN,Ar,y9,dW]
  ·rw [show r96 1=some [(142,1,200)] from rfl,Option.bind_some,kT (x:=(1,p,l,t,q,b)) _ (by simp) (by simp) (by simp only [rX,y8,Bool.false_eq_true,if_false]; exact rfl)]
   rw [if_neg (by decide),if_neg (by decide),if_neg (by decide),if_neg (by decide),Bh,Option.bind_some,Bh,Option.bind_some,fst _ (by simp),Option.bind_some,if_pos (by rw [Bool.or_eq_true]; exact .inr rfl),wu (show _≠(5:Int) by simp),uF,Eo]
   simp [jo,kN,je,Au,BN,Ar,y9,dW]
  ·rw [show r96 2=some [(141,0,3),(142,1,200)] from rfl,Option.bind_some,kT (x:=(2,p,l,t,q,b)) _ (by simp) (by simp) (by simp only [rX,y8,Bool.false_eq_true,if_false]; exact rfl)]
   rw [if_neg (by decide),if_pos (by decide),Bh,Option.bind_some,Bh,Option.bind_some,fst _ (by simp),Option.bind_some,if_pos (by rw [Bool.or_eq_true]; exact .inr rfl),wu (show _≠(5:Int) by simp),uF,Eo]
   simp [jo,kN,je,Au,BN,Ar,y9,dW]
  ·rw [show r96 3=some [(143,200,3000),(140,1,10000),(142,1,200)] from rfl,Option.bind_some,kT (x:=(3,p,l,t,q,b)) _ (by simp) (by simp) (by simp only [rX,y8,Bool.false_eq_true,if_false]; exact rfl)]
   rw [if_neg (by decide),if_neg (by decide),if_pos (by decide),Bh,Option.bind_some,Bh,Option.bind_some,fst _ (by simp),Option.bind_some,if_pos (by rw [Bool.or_eq_true]; exact .inr rfl),wu (show _≠(5:Int) by simp),uF,Eo]
   simp [jo,kN,je,Au,BN,Ar,y9,dW,and_comm,and_left_comm,and_assoc]
  ·rw [show r96 4=some [(143,200,3000),(141,0,3),(142,1,200)] from rfl,Option.bind_some,kT (x:=(4,p,l,t,q,b)) _ (by simp) (by simp) (by simp only [rX,y8,Bool.false_eq_true,if_false]; exact rfl)]
   rw [if_neg (by decide),if_neg (by decide),if_neg (by decide),if_pos (by decide),Bh,Option.bind_some,Bh,Option.bind_some,fst _ (by simp),Option.bind_some,if_pos (by rw [Bool.or_eq_true]; exact .inr rfl),wu (show _≠(5:Int) by simp),uF,Eo]
   simp [jo,kN,je,Au,BN,Ar,y9,dW,and_comm,and_left_comm,and_assoc]
  ·rw [show r96 5=some [(142,1,10)] from rfl,Option.bind_some,kT (x:=(5,p,l,t,q,b)) _ (by simp) (by simp) (by simp only [rX,y8,Bool.false_eq_true,if_false]; exact rfl)]
   rw [if_neg (by decide),if_neg (by decide),if_neg (by decide),if_neg (by decide),Bh,Option.bind_some,Bh,Option.bind_some,fst _ (by simp),Option.bind_some,uF,Eo]
   have eo:(if (((p == 0) && (l == 0)) && (q == 0) && (((5:Int) == 5) || (hN b == 0)))=true then (if ([((142:Nat),(1:Int),(10:Int))].all fun f=>dW (y9 (5,p,l,t,q,b) f.1) f.2.1 f.2.2)=true then (0:Int) else 2) else 3)=jo 5 p l t q (hN b == 0):=by
    simp [jo,kN,je,Au,BN,Ar,y9,dW]
   rw [eo]
   show _=some (if jo 5 p l t q (hN b == 0)=0 then (if (5:Int)=5 then Af d (hN b) (yJ b (d+1)) else 0) else jo 5 p l t q (hN b == 0))
   by_cases c:jo 5 p l t q (hN b == 0)=0
   rotate_left
   ·rw [if_neg c,if_pos (by rw [Bool.or_eq_true]; exact .inl (by simpa using c))]
   rw [if_pos c,if_pos rfl,c,if_neg (by decide)]
   unfold Af
   by_cases d3:d=3
   ·rw [if_pos d3,if_pos (by simpa using d3)]
   rw [if_neg d3,if_neg (by simpa using d3),Bh,Option.bind_some,Bh,Option.bind_some,fst _ (by simp),Option.bind_some]
   have hbl:=uY b
   by_cases n0:hN b=0
   ·have e1:decide (((hU b).length:Int)>0)=false:=decide_eq_false (by omega)
    rw [if_pos n0,e1,if_pos (by rfl)]; rfl
   have e1:decide (((hU b).length:Int)>0)=true:=decide_eq_true (by omega)
   rw [if_neg n0,e1]
   by_cases n12:12<hN b
   ·have e2:decide (((hU b).length:Int)<=12)=false:=decide_eq_false (by omega)
    rw [if_pos n12,e2,if_pos (by rfl)]; rfl
   have e2:decide (((hU b).length:Int)<=12)=true:=decide_eq_true (by omega)
   rw [if_neg n12,e2,if_neg (by decide)]
   exact Y4 ⟨h0,by omega⟩ (aat n (d+1) (by omega) (by omega) (by omega)) b (by omega)
def tJ:Hl->List Ph
 | .nil=>[]
 | .cons k p l t q b r=>(if k=5 then (List.replicate t.toNat (tJ b)).flatten else [(k,p,l,t,q,b)])++tJ r
def zW (x:Ph):List Ph:=if x.1=5 then (List.replicate x.2.2.2.1.toNat (tJ x.2.2.2.2.2)).flatten else [x]
theorem ql:∀ b:Hl,tJ b=(hU b).flatMap zW
 | .nil=>by rw [tJ]; rfl
 | .cons k p l t q b r=>by rw [tJ,hU,List.flatMap_cons,ql r]; rfl
theorem rF {α ρ:Type} [Inhabited α] (l:List α) (g:α->List Ph) (B:Int×List Ph->cO (Int×List Ph) ρ) (N E:List Ph->ρ) (hl:l.length<1000)
 (hB:∀ (i:Nat) acc,i<l.length->acc.length<=60->B ((i:Int),acc)=if (acc++g (l.getD i default)).length<=60 then .next (((i+1:Nat):Int),acc++g (l.getD i default)) else cO.out (some (E ((acc++g (l.getD i default)).take 61))))
 (hend:∀ acc,B ((l.length:Int),acc)=cO.out (some (N acc))) (acc:List Ph) (ha:acc.length<=60) :
 aS B 1000000000 (0,acc)=some (if (acc++l.flatMap g).length<=60 then N (acc++l.flatMap g) else E ((acc++l.flatMap g).take 61)):=by
 have tk:∀ i,i<l.length->(l.take (i+1)).flatMap g=(l.take i).flatMap g++g (l.getD i default):=fun i hi=>by
  rw [List.take_add_one,List.getElem?_eq_getElem hi,List.flatMap_append,List.getD_eq_getElem?_getD,List.getElem?_eq_getElem hi]; simp
 refine eX B (fun i s=>s=((i:Int),acc++(l.take i).flatMap g)/\(acc++(l.take i).flatMap g).length<=60) (fun o=>o=some (if (acc++l.flatMap g).length<=60 then N (acc++l.flatMap g) else E ((acc++l.flatMap g).take 61))) l.length ?_ ?_ _ ⟨by simp,by simpa using ha⟩ _ (by omega)
 ·rintro i _ hi ⟨rfl,hlen⟩
  rw [hB i _ hi hlen,List.append_assoc, <- tk i hi]
  by_cases c:(acc++(l.take (i+1)).flatMap g).length<=60
  ·rw [if_pos c]; exact .inl ⟨_,rfl,rfl,c⟩
  ·rw [if_neg c]
   refine .inr ⟨_,rfl,?_⟩
   have e:acc++l.flatMap g=(acc++(l.take (i+1)).flatMap g)++(l.drop (i+1)).flatMap g:=by
    rw [List.append_assoc, <- List.flatMap_append,List.take_append_drop]
   have c2:¬ (acc++l.flatMap g).length<=60:=by
    have h5:(acc++l.flatMap g).length=(acc++(l.take (i+1)).flatMap g).length+((l.drop (i+1)).flatMap g).length:=by rw [<- List.length_append, <- e]
    omega
   rw [if_neg c2,e,List.take_append_of_le_length (show 61<=(acc++(l.take (i+1)).flatMap g).length by omega)]
 ·rintro _ ⟨rfl,hlen⟩
  rw [List.take_length] at hlen ⊢
  rw [hend]
  exact ⟨_,rfl,by rw [if_pos hlen]⟩
theorem CS (n:Nat) (blk:List Ph):(List.replicate n ()).flatMap (fun _=>blk)=(List.replicate n blk).flatten:=by
 induction n with
 | zero=>rfl
 | succ n ih=>rw [List.replicate_succ,List.replicate_succ,List.flatMap_cons,List.flatten_cons,ih]
theorem ZL (acc:List Ph) (z x:Ph):(acc++[z]).set acc.length x=acc++[x]:=by simp
theorem qI {d:Int}:∀ {b:Hl},yJ b d=0->∀ x∈hU b,lQ d x=0
 | .nil,_,x,hx=>by cases hx
 | .cons k p l t q b r,h,x,hx=>by
  rw [xP] at h
  by_cases c:lQ d (k,p,l,t,q,b)=0
  ·rw [if_pos c] at h
   rcases List.mem_cons.1 hx with rfl | hx
   ·exact c
   ·exact qI h x hx
  ·rw [if_neg c] at h; exact absurd h c
theorem Jl {k p l t q:Int} {em:Bool} (h:jo k p l t q em=0):dW k 0 5=true/\kN k p l q em=true/\je k p l t q=true:=by
 unfold jo at h
 cases h1:dW k 0 5<;>cases h2:kN k p l q em<;>cases h3:je k p l t q<;>rw [h1,h2,h3] at h<;>simp at h ⊢
theorem nP {d:Int} {x:Ph} (h:lQ d x=0) (h5:x.1=5):d≠3/\yJ x.2.2.2.2.2 (d+1)=0/\(1<=hN x.2.2.2.2.2/\hN x.2.2.2.2.2<=12)/\1<=x.2.2.2.1/\x.2.2.2.1<=10:=by
 unfold lQ at h
 by_cases c:jo x.1 x.2.1 x.2.2.1 x.2.2.2.1 x.2.2.2.2.1 (hN x.2.2.2.2.2 == 0)=0
 rotate_left
 ·rw [if_neg c] at h; exact absurd h c
 rw [if_pos c,if_pos h5] at h
 have hr:=(Jl c).2.2
 unfold je at hr
 rw [if_pos h5] at hr
 simp only [Bool.and_eq_true] at hr
 have ht:=iR.1 hr.1.2
 unfold Af at h
 split at h
 ·cases h
 split at h
 ·cases h
 split at h
 ·cases h
 exact ⟨by assumption,h,⟨by omega,by omega⟩,ht⟩
theorem one_step {acc:List Ph} (ha:acc.length<=60) (z x:Ph) (i:Nat) {ρ:Type} (E:List Ph->ρ) (hi:i<1000) :
 (if (acc.length+1)*64<=140737488355328/\acc.length+1<=9223372036854775807 then
  if 0<=(acc.length:Int)/\(acc.length:Int)<((acc.length+1):Int) then
   if (!(decide (((acc.length+1):Int)<=60)))=true then (cO.out (some (E ((acc++[z]).set acc.length x))):cO (Int×List Ph) ρ)
   else .next (IntKind.i64.wrap ((i:Int)+1),(acc++[z]).set acc.length x)
  else .out none
  else .out none)=if (acc++[x]).length<=60 then .next (((i+1:Nat):Int),acc++[x]) else cO.out (some (E ((acc++[x]).take 61))):=by
 rw [if_pos ⟨by omega,by omega⟩,if_pos ⟨by omega,by omega⟩,ZL,wS i (by omega)]
 have hl:(acc++[x]).length=acc.length+1:=by simp
 by_cases c:(acc++[x]).length<=60
 ·rw [if_pos c,if_neg (by simp; omega)]; rfl
 ·rw [if_neg c,if_pos (by simp; omega),List.take_of_length_le (by omega)]
section
variable {a0:List Ph} {x1 x3 x5:Ph} {s1 s3 s5:Int×List Ph}
theorem aAV (s6:Int×List Ph) (h1:a0.getD s1.1.toNat default=x1) (h3:(hU x1.2.2.2.2.2).getD s3.1.toNat default=x3) (h5:(hU x3.2.2.2.2.2).getD s5.1.toNat default=x5) (ok:yJ x5.2.2.2.2.2 3=0) (hl:hN x5.2.2.2.2.2<=12) (acc:List Ph) (ha:acc.length<=60) :
 aS (Ic a0 s1 s3 s5 s6) 1000000000 (0,acc)=some (if (acc++tJ x5.2.2.2.2.2).length<=60 then .next (IntKind.i64.wrap (s6.1+1),acc++tJ x5.2.2.2.2.2) else cO.out (some (cO.out (some (cO.out (some (cO.out (some (cO.out (some (cO.out (some ((acc++tJ x5.2.2.2.2.2).take 61))))))))))))):=by
 have hbl:=uY x5.2.2.2.2.2
 rw [ql]
 refine rF (hU x5.2.2.2.2.2) zW _ (fun X=>cO.next (IntKind.i64.wrap (s6.1+1),X)) (fun X=>cO.out (some (cO.out (some (cO.out (some (cO.out (some (cO.out (some (cO.out (some X)))))))))))) (by omega) ?_ ?_ acc ha
 ·intro i acc hi ha
  have hx:=qI ok _ (getD_mem hi)
  have n5:((hU x5.2.2.2.2.2).getD i default).1≠5:=fun h=>(nP hx h).1 rfl
  have hf:zW ((hU x5.2.2.2.2.2).getD i default)=[(hU x5.2.2.2.2.2).getD i default]:=if_neg n5
  rw [hf]
  simp only [Ic,h1,h3,h5,lS hi,if_true,if_pos (jJ hi),Int.toNat_natCast,if_pos (show (((hU x5.2.2.2.2.2).getD i default).1 != 5)=true by simpa using n5)]
  exact one_step ha _ _ i (fun X=>cO.out (some (cO.out (some (cO.out (some (cO.out (some (cO.out (some (cO.out (some X)))))))))))) (by omega)
 ·intro acc
  simp only [Ic,h1,h3,h5,y8,Bool.false_eq_true,if_false]
theorem aAW (h1:a0.getD s1.1.toNat default=x1) (h3:(hU x1.2.2.2.2.2).getD s3.1.toNat default=x3) (h5:(hU x3.2.2.2.2.2).getD s5.1.toNat default=x5) (ok:yJ x5.2.2.2.2.2 3=0) (hl:hN x5.2.2.2.2.2<=12) (ht:1<=x5.2.2.2.1/\x5.2.2.2.1<=10) (acc:List Ph) (ha:acc.length<=60) :
 aS (Ie a0 s1 s3 s5) 1000000000 (0,acc)=some (if (acc++(List.replicate x5.2.2.2.1.toNat (tJ x5.2.2.2.2.2)).flatten).length<=60 then .next (IntKind.i64.wrap (s5.1+1),acc++(List.replicate x5.2.2.2.1.toNat (tJ x5.2.2.2.2.2)).flatten) else cO.out (some (cO.out (some (cO.out (some (cO.out (some (cO.out (some ((acc++(List.replicate x5.2.2.2.1.toNat (tJ x5.2.2.2.2.2)).flatten).take 61))))))))))):=by
 rw [<- CS]
 refine rF (List.replicate x5.2.2.2.1.toNat ()) (fun _=>tJ x5.2.2.2.2.2) _ (fun X=>cO.next (IntKind.i64.wrap (s5.1+1),X)) (fun X=>cO.out (some (cO.out (some (cO.out (some (cO.out (some (cO.out (some X)))))))))) (by simp; omega) ?_ ?_ acc ha
 ·intro i acc hi ha
  simp only [List.length_replicate] at hi
  have g1:decide ((i:Int)<x5.2.2.2.1)=true:=decide_eq_true (by omega)
  simp only [Ie,h1,h3,h5,g1,if_true]
  rw [aAV _ h1 h3 h5 ok hl acc ha,Option.getD_some]
  simp only [wS i (by omega)]
  rfl
 ·intro acc
  simp only [List.length_replicate]
  have g1:decide (((x5.2.2.2.1.toNat:Nat):Int)<x5.2.2.2.1)=false:=decide_eq_false (by omega)
  simp only [Ie,h1,h3,h5,g1,Bool.false_eq_true,if_false]
theorem aAX (s4:Int×List Ph) (h1:a0.getD s1.1.toNat default=x1) (h3:(hU x1.2.2.2.2.2).getD s3.1.toNat default=x3) (ok:yJ x3.2.2.2.2.2 2=0) (hl:hN x3.2.2.2.2.2<=12) (acc:List Ph) (ha:acc.length<=60) :
 aS (EL a0 s1 s3 s4) 1000000000 (0,acc)=some (if (acc++tJ x3.2.2.2.2.2).length<=60 then .next (IntKind.i64.wrap (s4.1+1),acc++tJ x3.2.2.2.2.2) else cO.out (some (cO.out (some (cO.out (some (cO.out (some ((acc++tJ x3.2.2.2.2.2).take 61))))))))):=by
 have hbl:=uY x3.2.2.2.2.2
 rw [ql]
 refine rF (hU x3.2.2.2.2.2) zW _ (fun X=>cO.next (IntKind.i64.wrap (s4.1+1),X)) (fun X=>cO.out (some (cO.out (some (cO.out (some (cO.out (some X)))))))) (by omega) ?_ ?_ acc ha
 ·intro i acc hi ha
  have hx:=qI ok _ (getD_mem hi)
  by_cases n5:((hU x3.2.2.2.2.2).getD i default).1=5
  ·obtain ⟨_,k2,k3,k4⟩:=nP hx n5
   have hf:zW ((hU x3.2.2.2.2.2).getD i default)=(List.replicate ((hU x3.2.2.2.2.2).getD i default).2.2.2.1.toNat (tJ ((hU x3.2.2.2.2.2).getD i default).2.2.2.2.2)).flatten:=if_pos n5
   simp only [EL,h1,h3,lS hi,if_true,if_pos (jJ hi),Int.toNat_natCast,if_neg (show ¬ ((((hU x3.2.2.2.2.2).getD i default).1 != 5)=true) by simpa using n5)]
   rw [aAW (s5:=((i:Int),acc)) h1 h3 (by rw [Int.toNat_natCast]) k2 k3.2 k4 acc ha,Option.getD_some,hf]
   simp only [wS i (by omega)]
   rfl
  ·have hf:zW ((hU x3.2.2.2.2.2).getD i default)=[(hU x3.2.2.2.2.2).getD i default]:=if_neg n5
   rw [hf]
   simp only [EL,h1,h3,lS hi,if_true,if_pos (jJ hi),Int.toNat_natCast,if_pos (show (((hU x3.2.2.2.2.2).getD i default).1 != 5)=true by simpa using n5)]
   exact one_step ha _ _ i (fun X=>cO.out (some (cO.out (some (cO.out (some (cO.out (some X)))))))) (by omega)
 ·intro acc
  simp only [EL,h1,h3,y8,Bool.false_eq_true,if_false]
theorem aAY (h1:a0.getD s1.1.toNat default=x1) (h3:(hU x1.2.2.2.2.2).getD s3.1.toNat default=x3) (ok:yJ x3.2.2.2.2.2 2=0) (hl:hN x3.2.2.2.2.2<=12) (ht:1<=x3.2.2.2.1/\x3.2.2.2.1<=10) (acc:List Ph) (ha:acc.length<=60) :
 aS (Ig a0 s1 s3) 1000000000 (0,acc)=some (if (acc++(List.replicate x3.2.2.2.1.toNat (tJ x3.2.2.2.2.2)).flatten).length<=60 then .next (IntKind.i64.wrap (s3.1+1),acc++(List.replicate x3.2.2.2.1.toNat (tJ x3.2.2.2.2.2)).flatten) else cO.out (some (cO.out (some (cO.out (some ((acc++(List.replicate x3.2.2.2.1.toNat (tJ x3.2.2.2.2.2)).flatten).take 61))))))):=by
 rw [<- CS]
 refine rF (List.replicate x3.2.2.2.1.toNat ()) (fun _=>tJ x3.2.2.2.2.2) _ (fun X=>cO.next (IntKind.i64.wrap (s3.1+1),X)) (fun X=>cO.out (some (cO.out (some (cO.out (some X)))))) (by simp; omega) ?_ ?_ acc ha
 ·intro i acc hi ha
  simp only [List.length_replicate] at hi
  have g1:decide ((i:Int)<x3.2.2.2.1)=true:=decide_eq_true (by omega)
  simp only [Ig,h1,h3,g1,if_true]
  rw [aAX _ h1 h3 ok hl acc ha,Option.getD_some]
  simp only [wS i (by omega)]
  rfl
 ·intro acc
  simp only [List.length_replicate]
  have g1:decide (((x3.2.2.2.1.toNat:Nat):Int)<x3.2.2.2.1)=false:=decide_eq_false (by omega)
  simp only [Ig,h1,h3,g1,Bool.false_eq_true,if_false]
theorem aAZ (s2:Int×List Ph) (h1:a0.getD s1.1.toNat default=x1) (ok:yJ x1.2.2.2.2.2 1=0) (hl:hN x1.2.2.2.2.2<=12) (acc:List Ph) (ha:acc.length<=60) :
 aS (EM a0 s1 s2) 1000000000 (0,acc)=some (if (acc++tJ x1.2.2.2.2.2).length<=60 then .next (IntKind.i64.wrap (s2.1+1),acc++tJ x1.2.2.2.2.2) else cO.out (some (cO.out (some ((acc++tJ x1.2.2.2.2.2).take 61))))):=by
 have hbl:=uY x1.2.2.2.2.2
 rw [ql]
 refine rF (hU x1.2.2.2.2.2) zW _ (fun X=>cO.next (IntKind.i64.wrap (s2.1+1),X)) (fun X=>cO.out (some (cO.out (some X)))) (by omega) ?_ ?_ acc ha
 ·intro i acc hi ha
  have hx:=qI ok _ (getD_mem hi)
  by_cases n5:((hU x1.2.2.2.2.2).getD i default).1=5
  ·obtain ⟨_,k2,k3,k4⟩:=nP hx n5
   have hf:zW ((hU x1.2.2.2.2.2).getD i default)=(List.replicate ((hU x1.2.2.2.2.2).getD i default).2.2.2.1.toNat (tJ ((hU x1.2.2.2.2.2).getD i default).2.2.2.2.2)).flatten:=if_pos n5
   simp only [EM,h1,lS hi,if_true,if_pos (jJ hi),Int.toNat_natCast,if_neg (show ¬ ((((hU x1.2.2.2.2.2).getD i default).1 != 5)=true) by simpa using n5)]
   rw [aAY (s3:=((i:Int),acc)) h1 (by rw [Int.toNat_natCast]) k2 k3.2 k4 acc ha,Option.getD_some,hf]
   simp only [wS i (by omega)]
   rfl
  ·have hf:zW ((hU x1.2.2.2.2.2).getD i default)=[(hU x1.2.2.2.2.2).getD i default]:=if_neg n5
   rw [hf]
   simp only [EM,h1,lS hi,if_true,if_pos (jJ hi),Int.toNat_natCast,if_pos (show (((hU x1.2.2.2.2.2).getD i default).1 != 5)=true by simpa using n5)]
   exact one_step ha _ _ i (fun X=>cO.out (some (cO.out (some X)))) (by omega)
 ·intro acc
  simp only [EM,h1,y8,Bool.false_eq_true,if_false]
theorem aA0 (h1:a0.getD s1.1.toNat default=x1) (ok:yJ x1.2.2.2.2.2 1=0) (hl:hN x1.2.2.2.2.2<=12) (ht:1<=x1.2.2.2.1/\x1.2.2.2.1<=10) (acc:List Ph) (ha:acc.length<=60) :
 aS (Ih a0 s1) 1000000000 (0,acc)=some (if (acc++(List.replicate x1.2.2.2.1.toNat (tJ x1.2.2.2.2.2)).flatten).length<=60 then .next (IntKind.i64.wrap (s1.1+1),acc++(List.replicate x1.2.2.2.1.toNat (tJ x1.2.2.2.2.2)).flatten) else cO.out (some ((acc++(List.replicate x1.2.2.2.1.toNat (tJ x1.2.2.2.2.2)).flatten).take 61))):=by
 rw [<- CS]
 refine rF (List.replicate x1.2.2.2.1.toNat ()) (fun _=>tJ x1.2.2.2.2.2) _ (fun X=>cO.next (IntKind.i64.wrap (s1.1+1),X)) (fun X=>cO.out (some X)) (by simp; omega) ?_ ?_ acc ha
 ·intro i acc hi ha
  simp only [List.length_replicate] at hi
  have g1:decide ((i:Int)<x1.2.2.2.1)=true:=decide_eq_true (by omega)
  simp only [Ih,h1,g1,if_true]
  rw [aAZ _ h1 ok hl acc ha,Option.getD_some]
  simp only [wS i (by omega)]
  rfl
 ·intro acc
  simp only [List.length_replicate]
  have g1:decide (((x1.2.2.2.1.toNat:Nat):Int)<x1.2.2.2.1)=false:=decide_eq_false (by omega)
  simp only [Ih,h1,g1,Bool.false_eq_true,if_false]
end
theorem ahk {l:List Ph} (ok:∀ x∈l,lQ 0 x=0) (hl:l.length<=12):Z5 l=some ((l.flatMap zW).take 61):=by
 unfold Z5
 rw [rF l zW (EN l) (fun X=>X) (fun X=>X) (by omega) ?_ ?_ [] (by simp)]
 ·rw [List.nil_append]
  split
  ·rw [List.take_of_length_le (by omega)]
  ·rfl
 ·intro i acc hi ha
  have hx:=ok _ (getD_mem hi)
  by_cases n5:(l.getD i default).1=5
  ·obtain ⟨_,k2,k3,k4⟩:=nP hx n5
   have hf:zW (l.getD i default)=(List.replicate (l.getD i default).2.2.2.1.toNat (tJ (l.getD i default).2.2.2.2.2)).flatten:=if_pos n5
   simp only [EN,lS hi,if_true,if_pos (jJ hi),Int.toNat_natCast,if_neg (show ¬ (((l.getD i default).1 != 5)=true) by simpa using n5)]
   rw [aA0 (s1:=((i:Int),acc)) (by rw [Int.toNat_natCast]) k2 k3.2 k4 acc ha,Option.getD_some,hf]
   simp only [wS i (by omega)]
   rfl
  ·have hf:zW (l.getD i default)=[l.getD i default]:=if_neg n5
   rw [hf]
   simp only [EN,lS hi,if_true,if_pos (jJ hi),Int.toNat_natCast,if_pos (show ((l.getD i default).1 != 5)=true by simpa using n5)]
   exact one_step ha _ _ i (fun X=>X) (by omega)
 ·intro acc
  simp only [EN,y8,Bool.false_eq_true,if_false]
def fE (l:List Ph):List Ph:=l.flatMap zW
def jO (k:Int):Bool:=k == 2 || k == 4
def oH (l:List Ph):Int×Int:=
 if l.length=0 then (0,10) else if 12<l.length then (0,8) else
 if (G8 0 0 l).2=0 then (if (fE l).length<=60 then (if jO ((fE l).getD ((fE l).length - 1) default).1=true then (0,0) else (0,20)) else (0,8)) else G8 0 0 l
theorem ahl:∀ (b:Hl) (d:Int),yJ b d=0->1<=hN b->1<=(tJ b).length
 | .nil,_,_,h=>by simp [hN] at h
 | .cons k p l t q b r,d,h,_=>by
  have hx:=qI h (k,p,l,t,q,b) (by simp [hU])
  rw [tJ,List.length_append]
  by_cases k5:k=5
  ·obtain ⟨_,k2,k3,k4⟩:=nP hx k5
   simp only at k2 k3 k4
   have ih:=ahl b (d+1) k2 k3.1
   obtain ⟨n,hn⟩:∃ n,t.toNat=n+1:=⟨t.toNat - 1,by omega⟩
   rw [if_pos k5,hn,List.replicate_succ,List.flatten_cons,List.length_append]; omega
  ·rw [if_neg k5]; simp
theorem Qc {d:Int} {x:Ph} (h:lQ d x=0):1<=(zW x).length:=by
 unfold zW
 by_cases k5:x.1=5
 ·obtain ⟨_,k2,k3,k4⟩:=nP h k5
  have ih:=ahl _ _ k2 k3.1
  obtain ⟨n,hn⟩:∃ n,x.2.2.2.1.toNat=n+1:=⟨x.2.2.2.1.toNat - 1,by omega⟩
  rw [if_pos k5,hn,List.replicate_succ,List.flatten_cons,List.length_append]; omega
 ·rw [if_neg k5]; simp
theorem Eh {d:Int}:∀ {l:List Ph} {i:Int},(G8 d i l).2=0->∀ x∈l,lQ d x=0
 | [],_,_,x,hx=>by cases hx
 | y::r,i,h,x,hx=>by
  rw [G8] at h
  by_cases c:lQ d y=0
  ·rw [if_pos c] at h
   rcases List.mem_cons.1 hx with rfl | hx
   ·exact c
   ·exact Eh h x hx
  ·rw [if_neg c] at h; exact absurd h c
theorem cold (k:Int):Z4 k=some (jO k):=rfl
theorem aeC {l:List Ph} (ok:∀ x∈l,lQ 0 x=0) (hl:1<=l.length/\l.length<=12) :
 ((Z5 l).bind fun v18=>
  (jV (decide ((v18.length:Int)<=60)) 8).bind fun v19=>
   if 0<=IntKind.i64.wrap ((v18.length:Int) - 1)/\IntKind.i64.wrap ((v18.length:Int) - 1)<(v18.length:Int) then
    (Z4 ((v18.getD (IntKind.i64.wrap ((v18.length:Int) - 1)).toNat default).1)).bind fun v20=>
     (jV v20 20).bind fun v21=>
      (vF [v19,v21]).bind fun v22=>
       some ((0:Int),v22)
    else none)=some (if (fE l).length<=60 then (if jO ((fE l).getD ((fE l).length - 1) default).1=true then (0,0) else (0,20)) else (0,8)):=by
 rw [ahk ok hl.2,Option.bind_some]
 change (_:Option (Int×Int))=_
 have hne:1<=(fE l).length:=by
  match l,hl with
  | x::r,_=>
   have:=Qc (ok x (by simp))
   unfold fE; rw [List.flatMap_cons,List.length_append]; omega
 change ((jV (decide ((((fE l).take 61).length:Int)<=60)) 8).bind fun v19=>_)=_
 have htl:((fE l).take 61).length=min 61 (fE l).length:=List.length_take
 have hw:IntKind.i64.wrap ((((fE l).take 61).length:Int) - 1)=((((fE l).take 61).length - 1:Nat):Int):=by rw [IntWalk.i64_in _ ⟨by omega,by omega⟩]; omega
 rw [Bh,Option.bind_some]
 change (if 0<=IntKind.i64.wrap ((((fE l).take 61).length:Int) - 1)/\IntKind.i64.wrap ((((fE l).take 61).length:Int) - 1)<(((fE l).take 61).length:Int) then
  (Z4 ((((fE l).take 61).getD (IntKind.i64.wrap ((((fE l).take 61).length:Int) - 1)).toNat default).1)).bind fun v20=>
   (jV v20 20).bind fun v21=>
    (vF [_,v21]).bind fun v22=>
     some ((0:Int),v22)
  else none)=_
 rw [hw,if_pos ⟨by omega,by omega⟩,Int.toNat_natCast,cold,Option.bind_some,Bh,Option.bind_some,fst _ (by simp),Option.bind_some]
 by_cases c:(fE l).length<=60
 ·have e:(fE l).take 61=fE l:=List.take_of_length_le (by omega)
  rw [e,if_pos c,decide_eq_true (by omega:((fE l).length:Int)<=60)]
  cases jO ((fE l).getD ((fE l).length - 1) default).1<;>rfl
 ·rw [if_neg c,decide_eq_false (by omega:¬ (((fE l).take 61).length:Int)<=60)]
  cases jO (((fE l).take 61).getD (((fE l).take 61).length - 1) default).1<;>rfl
theorem akM {l:List Ph} (hl:l.length<1000000):r8 l=some (oH l):=by
 unfold r8 oH
 rw [Bh,Option.bind_some,Bh,Option.bind_some,fst _ (by simp),Option.bind_some]
 by_cases c0:l.length=0
 ·have e1:decide ((l.length:Int)>0)=false:=decide_eq_false (by omega)
  rw [if_pos c0,e1]
  have e2:dL [bW false 10,bW (decide ((l.length:Int)<=12)) 8]=10:=rfl
  rw [e2,if_pos (by decide),if_pos (by decide)]
 have e1:decide ((l.length:Int)>0)=true:=decide_eq_true (by omega)
 rw [if_neg c0,e1]
 by_cases c1:12<l.length
 ·have e2:decide ((l.length:Int)<=12)=false:=decide_eq_false (by omega)
  rw [if_pos c1,e2]
  have e3:dL [bW true 10,bW false 8]=8:=rfl
  rw [e3,if_pos (by decide),if_pos (by decide)]
 have e2:decide ((l.length:Int)<=12)=true:=decide_eq_true (by omega)
 rw [if_neg c1,e2]
 have e3:dL [bW true 10,bW true 8]=0:=rfl
 rw [e3,if_neg (by decide)]
 have h:=kR (τ:=Unit) l (Y7 l) (fun i _=>i) (fun i _ x=>if lQ 0 x=0 then .next () else .out (some (i,lQ 0 x))) (fun _=>((Z5 l).bind fun v18=>
  (jV (decide ((v18.length:Int)<=60)) 8).bind fun v19=>
   if 0<=IntKind.i64.wrap ((v18.length:Int) - 1)/\IntKind.i64.wrap ((v18.length:Int) - 1)<(v18.length:Int) then
    (Z4 ((v18.getD (IntKind.i64.wrap ((v18.length:Int) - 1)).toNat default).1)).bind fun v20=>
     (jV v20 20).bind fun v21=>
      (vF [v19,v21]).bind fun v22=>
       some ((0:Int),v22)
    else none)) (by omega)
  (fun i t hi=>by
   simp only [Y7,lS hi,if_true,if_pos (jJ hi),Int.toNat_natCast,wS i (by omega),aat 7 0 (by decide) (by decide) (by decide) (l.getD i default),aP]
   by_cases c:lQ 0 (l.getD i default)=0
   ·rw [if_pos c,c]; rfl
   ·have c2:(lQ 0 (l.getD i default) != 0)=true:=by simpa using c
    simp only [c2,if_true]
    rw [if_neg c]; rfl)
  (fun t=>by simp only [Y7,y8,Bool.false_eq_true,if_false]) ()
 rw [h]
 have h2:=uK 0 (some (if (fE l).length<=60 then (if jO ((fE l).getD ((fE l).length - 1) default).1=true then (0,0) else (0,20)) else (0,8))) l 0
 by_cases c:(G8 0 0 l).2=0
 ·rw [aeC (Eh c) ⟨by omega,by omega⟩]
  rw [if_pos c] at h2 ⊢
  exact h2
 ·have h3:=uK 0 ((Z5 l).bind fun v18=>
   (jV (decide ((v18.length:Int)<=60)) 8).bind fun v19=>
    if 0<=IntKind.i64.wrap ((v18.length:Int) - 1)/\IntKind.i64.wrap ((v18.length:Int) - 1)<(v18.length:Int) then
     (Z4 ((v18.getD (IntKind.i64.wrap ((v18.length:Int) - 1)).toNat default).1)).bind fun v20=>
      (jV v20 20).bind fun v21=>
       (vF [v19,v21]).bind fun v22=>
        some ((0:Int),v22)
     else none) l 0
  rw [if_neg c] at h3 ⊢
  exact h3
theorem PU {l:List Ph} (h:(oH l).2=0):(1<=l.length/\l.length<=12)/\(∀ x∈l,lQ 0 x=0)/\(fE l).length<=60/\1<=(fE l).length/\jO ((fE l).getD ((fE l).length - 1) default).1=true:=by
 unfold oH at h
 split at h
 ·cases h
 split at h
 ·cases h
 split at h
 ·rename_i h0 h1 h2
  split at h
  ·rename_i h3
   split at h
   ·rename_i h4
    refine ⟨⟨by omega,by omega⟩,Eh h2,h3,?_,h4⟩
    match l,h0,Eh h2 with
    | x::r,_,ok=>
     have:=Qc (ok x (by simp))
     unfold fE; rw [List.flatMap_cons,List.length_append]; omega
   ·cases h
  ·cases h
 ·rename_i h2; exact absurd h h2
theorem abK {l:List Ph} (hl:l.length<1000000):r10 l=some (if (oH l).2=0 then (fE l,0) else ([],(oH l).2)):=by
 unfold r10
 rw [akM hl,Option.bind_some]
 by_cases c:(oH l).2=0
 ·obtain ⟨h1,h2,h3,_⟩:=PU c
  rw [if_neg (by simpa using c),if_pos c,ahk h2 h1.2,Option.bind_some]
  change some ((fE l).take 61,(0:Int))=_
  rw [List.take_of_length_le (by omega)]
 ·rw [if_pos (by simpa using c),if_neg c]
structure EW (x:Ph):Prop where
 kind:0<=x.1/\x.1<=4
 own:jo x.1 x.2.1 x.2.2.1 x.2.2.2.1 x.2.2.2.2.1 (hN x.2.2.2.2.2 == 0)=0
theorem agH {d:Int} {x:Ph} (h:lQ d x=0) (h5:x.1≠5):EW x:=by
 rw [wu h5] at h
 have:=iR.1 (Jl h).1
 exact ⟨by omega,h⟩
theorem QW:∀ (b:Hl) (d:Int),yJ b d=0->∀ y∈tJ b,EW y
 | .nil,_,_,y,hy=>by rw [tJ] at hy; cases hy
 | .cons k p l t q b r,d,h,y,hy=>by
  have hx:=qI h (k,p,l,t,q,b) (by simp [hU])
  have hr:yJ r d=0:=by rw [xP,if_pos hx] at h; exact h
  rw [tJ] at hy
  rcases List.mem_append.1 hy with hy | hy
  ·by_cases k5:k=5
   ·rw [if_pos k5] at hy
    obtain ⟨_,k2,_,_⟩:=nP hx k5
    obtain ⟨z,hz,hy⟩:=List.mem_flatten.1 hy
    obtain ⟨-,rfl⟩:=List.mem_replicate.1 hz
    exact QW b (d+1) k2 y hy
   ·rw [if_neg k5] at hy
    obtain rfl:=List.mem_singleton.1 hy
    exact agH hx k5
  ·exact QW r d hr y hy
theorem WC {l:List Ph} (ok:∀ x∈l,lQ 0 x=0):∀ y∈fE l,EW y:=by
 intro y hy
 obtain ⟨x,hx,hy⟩:=List.mem_flatMap.1 hy
 unfold zW at hy
 by_cases k5:x.1=5
 ·rw [if_pos k5] at hy
  obtain ⟨_,k2,_,_⟩:=nP (ok x hx) k5
  obtain ⟨z,hz,hy⟩:=List.mem_flatten.1 hy
  obtain ⟨-,rfl⟩:=List.mem_replicate.1 hz
  exact QW _ _ k2 y hy
 ·rw [if_neg k5] at hy
  obtain rfl:=List.mem_singleton.1 hy
  exact agH (ok _ hx) k5
theorem EW.QV {x:Ph} (h:EW x):(0<=x.2.1/\x.2.1<=10000)/\(1<=x.2.2.2.1/\x.2.2.2.1<=200)/\((x.1=3\/x.1=4)->200<=x.2.2.2.2.1/\x.2.2.2.2.1<=3000)/\(x.1≠2->x.1≠4->x.2.2.1=0)/\(jO x.1=true->x.2.1=0):=by
 obtain ⟨h1,h2,h3⟩:=Jl h.own
 have hk:=h.kind
 unfold kN at h2
 unfold je at h3
 rw [if_neg (by omega)] at h3
 simp only [Bool.and_eq_true,Bool.or_eq_true,Bool.not_eq_true',beq_iff_eq] at h2 h3
 obtain ⟨⟨⟨r1,r2⟩,r3⟩,r4⟩:=h3
 obtain ⟨⟨⟨c1,c2⟩,c3⟩,c4⟩:=h2
 have hu:Au x.1=true->x.1=0\/x.1=3:=fun h=>by simpa [Au] using h
 refine ⟨?_,iR.1 r3,fun hq=> ?_,fun n2 n4=> ?_,fun hc=> ?_⟩
 ·rcases c1 with c1 | c1
  ·rcases r1 with r1 | r1
   ·rw [c1] at r1; cases r1
   ·have:=iR.1 r1; omega
  ·rw [c1]; exact ⟨by decide,by decide⟩
 ·rcases r4 with r4 | r4
  ·have:Ar x.1=true:=by simpa [Ar] using hq
   rw [this] at r4; cases r4
  ·exact iR.1 r4
 ·rcases c2 with c2 | c2
  ·have:x.1=2\/x.1=4:=by simpa [BN] using c2
   omega
  ·exact c2
 ·have hc:x.1=2\/x.1=4:=by simpa [jO] using hc
  rcases c1 with c1 | c1
  ·have:=hu c1; omega
  ·exact c1
def rW (T:TL) (k q:Int) (f:Nat) (e0:Int):Bool:=if k=3 then !(hot T q e0) else if k=4 then DR T q e0 else decide (0<f)
def AQ (b:Int) (T:TL) (L:List TL) (W:TL) (x:Ph) (law:Int):Nat->List Int->TL->Int×List Int×TL
 | 0,s,made=>if rW T x.1 x.2.2.2.2.1 0 (s.getD 0 default)=true then (24,s,made) else (0,s,made)
 | f+1,s,made=>if rW T x.1 x.2.2.2.2.1 (f+1) (s.getD 0 default)=true then
  (if made.length=200 then (8,s,made) else
   if (iI b T (L.getD law.toNat default) s (nO W x.2.1)).all (inT T)=true then AQ b T L W x law f (iI b T (L.getD law.toNat default) s (nO W x.2.1)) (made++[(x.2.1,law)]) else (22,s,made))
  else (0,s,made)
def qh (dQ:Int) (x:Ph):Int:=if jO x.1=true then x.2.2.1 else dQ
def KU (b:Int) (T:TL) (L:List TL) (W:TL) (dQ:Int):List Ph->List Int->TL->TL×Int
 | [],_,made=>(made,0)
 | x::r,s,made=>
  if (AQ b T L W x (qh dQ x) x.2.2.2.1.toNat s made).1=0 then KU b T L W dQ r (AQ b T L W x (qh dQ x) x.2.2.2.1.toNat s made).2.1 (AQ b T L W x (qh dQ x) x.2.2.2.1.toNat s made).2.2
  else ([],(AQ b T L W x (qh dQ x) x.2.2.2.1.toNat s made).1)
section
variable {a b:Int} {T:TL} {L:List TL} {lo hi:List Int} {W:TL} {dQ spread:Int}
theorem J8 (B:oz a b T L lo hi W dQ spread) {x k:Int} (hk:200<=k/\k<=3000) (hx:inT T x=true):∃ v,r88 a b T L lo hi W dQ spread x k=some v/\decide (v>0)=DR T k x/\decide (v<0)= !(hot T k x):=by
 obtain ⟨f1,f2,f3,f4,f5,f6⟩:=B.few
 obtain ⟨N,D,_,P⟩:=p57 B.box.lo.ok a b L x hx
 obtain ⟨n1,n2,n3⟩:=aAT P
 have hd:0<((pl T x).den:Int):=by have:=(pl T x).den_pos; omega
 have m1:0<=k*((pl T x).den:Int):=Int.mul_nonneg (by omega) (by omega)
 have m2:k*((pl T x).den:Int)<=3000*1000000:=Int.mul_le_mul hk.2 n3 (by omega) (by omega)
 unfold r88
 rw [p53 a b T L x f1 f2 f3,if_pos (show aex a b T L=0 from B.box.lo.set0),if_pos hx,Option.bind_some]
 simp only
 rw [IntWalk.i64_in (k*_) ⟨by omega,by omega⟩,IntWalk.i64_in _ ⟨by omega,by omega⟩]
 refine ⟨_,rfl,?_,?_⟩
 ·unfold DR
  rw [decide_eq_decide,Rat.le_iff]
  simp<;>omega
 ·unfold hot
  rw [<- decide_not,decide_eq_decide,Rat.le_iff]
  simp<;>omega
theorem Zh {α σ ρ:Type} (v:α) (f:α->cO σ ρ):aP (some v) f=f v:=rfl
theorem qx {σ ρ:Type} (m c:Bool) (X:cO σ (cO ρ (TL×Int))) (nx:cO ρ (TL×Int)) :
 (aP (jV ((!m) || c) 24) fun v=>if ((v != 0) || (!m))=true then cO.out (some (if (v != 0)=true then cO.out (some (([]:TL),v)) else nx)) else X)=
  if m=true then (if c=true then X else cO.out (some (cO.out (some ([],24))))) else cO.out (some nx):=by
 rw [Bh]; cases m<;>cases c<;>rfl
theorem agr (B:oz a b T L lo hi W dQ spread) {s:List Int} (H:fZ a b T L s) {p law:Int} (hx:(0<=p/\p<=10000)/\0<=law/\law<L.length) {made:TL} (hm:made.length<=200) {n:Nat} (hn:n<1000)
 (N1:cO (Int×List Int×TL) (TL×Int)) (N2:cO (Int×List Int×TL) (cO (Int×List Int×TL) (TL×Int))) :
 (if ((made.length:Int) == 200)=true then
  (cO.out (some (cO.out (some (([]:TL),(8:Int))))):cO (Int×List Int×TL) (cO (Int×List Int×TL) (TL×Int)))
  else aP (PW a b T L lo hi W dQ spread p law 102) fun v11=>
   aP (Xz a b T L s v11.1 v11.2) fun v12=>
    if (v12.2 != 0)=true then
     if (v12.2 != 0)=true then
      .out (some (if (v12.2 != 0)=true then
       .out (some ([],v12.2))
       else N1))
      else N2
     else if (made.length+1)*16<=140737488355328/\made.length+1<=9223372036854775807 then
      .next (IntKind.i64.wrap ((n:Int)+1),v12.1,made++[(p,law)])
      else .out none)=
 if made.length=200 then .out (some (.out (some ([],8)))) else
  if (iI b T (L.getD law.toNat default) s (nO W p)).all (inT T)=true then .next (((n+1:Nat):Int),iI b T (L.getD law.toNat default) s (nO W p),made++[(p,law)]) else .out (some (.out (some ([],22)))):=by
 obtain ⟨e1,_,e3⟩:=ags B H (x:=(p,law)) hx
 simp only at e1 e3
 by_cases c:made.length=200
 ·rw [if_pos c,if_pos (by rw [c]; rfl)]
 rw [if_neg c,if_neg (by simp; omega),e1]
 simp only [aP,e3]
 by_cases ho:(iI b T (L.getD law.toNat default) s (nO W p)).all (inT T)=true
 ·simp only [if_pos ho]
  rw [if_neg (by decide),if_pos ⟨by omega,by omega⟩,wS n (by omega)]; rfl
 ·simp only [if_neg ho]
  rw [if_pos (by decide),if_pos (by decide),if_pos (by decide)]
def Cb (b:Int) (T:TL) (L:List TL) (W:TL) (x:Ph) (law:Int) (i:Int) (f n:Nat) (s:List Int) (made:TL):cO (Int×List Int×TL) (cO (Int×List Int×TL) (TL×Int)):=
 if rW T x.1 x.2.2.2.2.1 f (s.getD 0 default)=true then
  (if 0<f then
   (if made.length=200 then .out (some (.out (some ([],8)))) else
    if (iI b T (L.getD law.toNat default) s (nO W x.2.1)).all (inT T)=true then .next (((n+1:Nat):Int),iI b T (L.getD law.toNat default) s (nO W x.2.1),made++[(x.2.1,law)]) else .out (some (.out (some ([],22)))))
   else .out (some (.out (some ([],24)))))
 else .out (some (.next (i,s,made)))
theorem body3 (B:oz a b T L lo hi W dQ spread) {fl:List Ph} {s2:Int×List Int×TL} {x:Ph} (hxx:fl.getD s2.1.toNat default=x) (ok:EW x) (QE:0<=x.2.2.1/\x.2.2.1<L.length) {s:List Int} (H:fZ a b T L s) {made:TL} (hm:made.length<=200) {n:Nat} (hn:(n:Int)<=x.2.2.2.1) :
 Am (a,b,T,L,lo,hi,W,dQ,spread,0) (fl,0) s2 ((n:Int),s,made)=Cb b T L W x x.2.2.1 (IntKind.i64.wrap (s2.1+1)) (x.2.2.2.1.toNat - n) n s made:=by
 obtain ⟨k1,k2,k3,_,_⟩:=ok.QV
 have hl0:0<s.length:=by have:=H.len; have:=H.ok.cells; omega
 have h0:inT T (s.getD 0 default)=true:=H.ins _ (getD_mem hl0)
 have hc:decide ((n:Int)<x.2.2.2.1)=decide (0<x.2.2.2.1.toNat - n):=by rw [decide_eq_decide]; omega
 have hT:=fun N1 N2=>agr B H (p:=x.2.1) (law:=x.2.2.1) ⟨k1,QE⟩ hm (show n<1000 by omega) N1 N2
 unfold Cb rW
 by_cases e3:x.1=3
 ·obtain ⟨v,q1,_,q3⟩:=J8 B (k3 (.inl e3)) h0
  have y3:(x.1 == 3)=true:=by rw [e3]; rfl
  simp only [Am,hxx,y3,if_true]
  rw [if_pos ⟨by omega,by omega⟩,q1,Zh,if_pos e3]
  exact (qx _ _ _ _).trans (by rw [q3,hc,hT]; simp only [decide_eq_true_eq])
 have y3:¬ (x.1 == 3)=true:=by simpa using e3
 by_cases e4:x.1=4
 ·obtain ⟨v,q1,q2,_⟩:=J8 B (k3 (.inr e4)) h0
  have y4:(x.1 == 4)=true:=by rw [e4]; rfl
  simp only [Am,hxx,if_neg y3,y4,if_true]
  rw [if_pos ⟨by omega,by omega⟩,q1,Zh,if_neg e3,if_pos e4]
  exact (qx _ _ _ _).trans (by rw [q2,hc,hT]; simp only [decide_eq_true_eq])
 have y4:¬ (x.1 == 4)=true:=by simpa using e4
 simp only [Am,hxx,if_neg y3,if_neg y4,if_neg e3,if_neg e4]
 exact (qx _ _ _ _).trans (by rw [hc,hT]; simp only [decide_eq_true_eq])
theorem body4 (B:oz a b T L lo hi W dQ spread) {fl:List Ph} {s2:Int×List Int×TL} {x:Ph} (hxx:fl.getD s2.1.toNat default=x) (ok:EW x) {s:List Int} (H:fZ a b T L s) {made:TL} (hm:made.length<=200) {n:Nat} (hn:(n:Int)<=x.2.2.2.1) :
 Ak (a,b,T,L,lo,hi,W,dQ,spread,0) (fl,0) s2 ((n:Int),s,made)=Cb b T L W x dQ (IntKind.i64.wrap (s2.1+1)) (x.2.2.2.1.toNat - n) n s made:=by
 obtain ⟨k1,k2,k3,_,_⟩:=ok.QV
 have hl0:0<s.length:=by have:=H.len; have:=H.ok.cells; omega
 have h0:inT T (s.getD 0 default)=true:=H.ins _ (getD_mem hl0)
 have hc:decide ((n:Int)<x.2.2.2.1)=decide (0<x.2.2.2.1.toNat - n):=by rw [decide_eq_decide]; omega
 have hT:=fun N1 N2=>agr B H (p:=x.2.1) (law:=dQ) ⟨k1,B.dQ⟩ hm (show n<1000 by omega) N1 N2
 unfold Cb rW
 by_cases e3:x.1=3
 ·obtain ⟨v,q1,_,q3⟩:=J8 B (k3 (.inl e3)) h0
  have y3:(x.1 == 3)=true:=by rw [e3]; rfl
  simp only [Ak,hxx,y3,if_true]
  rw [if_pos ⟨by omega,by omega⟩,q1,Zh,if_pos e3]
  exact (qx _ _ _ _).trans (by rw [q3,hc,hT]; simp only [decide_eq_true_eq])
 have y3:¬ (x.1 == 3)=true:=by simpa using e3
 by_cases e4:x.1=4
 ·obtain ⟨v,q1,q2,_⟩:=J8 B (k3 (.inr e4)) h0
  have y4:(x.1 == 4)=true:=by rw [e4]; rfl
  simp only [Ak,hxx,if_neg y3,y4,if_true]
  rw [if_pos ⟨by omega,by omega⟩,q1,Zh,if_neg e3,if_pos e4]
  exact (qx _ _ _ _).trans (by rw [q2,hc,hT]; simp only [decide_eq_true_eq])
 have y4:¬ (x.1 == 4)=true:=by simpa using e4
 simp only [Ak,hxx,if_neg y3,if_neg y4,if_neg e3,if_neg e4]
 exact (qx _ _ _ _).trans (by rw [hc,hT]; simp only [decide_eq_true_eq])
end
def endP (i:Int) (y:Int×List Int×TL):cO (Int×List Int×TL) (TL×Int):=if y.1=0 then .next (i,y.2.1,y.2.2) else .out (some ([],y.1))
section
variable {a b:Int} {T:TL} {L:List TL} {lo hi:List Int} {W:TL} {dQ spread:Int}
theorem Jk {x:Ph} {law:Int}:∀ (f:Nat) (s:List Int) (made:TL),fZ a b T L s->made.length<=200->fZ a b T L (AQ b T L W x law f s made).2.1/\(AQ b T L W x law f s made).2.2.length<=200
 | 0,s,made,H,hm=>by rw [AQ]; split<;>exact ⟨H,hm⟩
 | f+1,s,made,H,hm=>by
  rw [AQ]
  split
  ·split
   ·exact ⟨H,hm⟩
   ·split
    ·rename_i h1 h2 h3
     exact Jk f _ _ (H.next h3) (by simp; omega)
    ·exact ⟨H,hm⟩
  ·exact ⟨H,hm⟩
theorem Gt {x:Ph} {law i:Int} {Bd:Int×List Int×TL->cO (Int×List Int×TL) (cO (Int×List Int×TL) (TL×Int))} {N:Nat} (hN:N<1000)
 (hB:∀ (n:Nat) s made,fZ a b T L s->made.length<=200->n<=N->Bd ((n:Int),s,made)=Cb b T L W x law i (N - n) n s made) {s:List Int} (H:fZ a b T L s) {made:TL} (hm:made.length<=200) :
 aS Bd 1000000000 (0,s,made)=some (endP i (AQ b T L W x law N s made)):=by
 refine eX Bd (fun m u=>u.1=(m:Int)/\fZ a b T L u.2.1/\u.2.2.length<=200/\AQ b T L W x law (N - m) u.2.1 u.2.2=AQ b T L W x law N s made) (fun o=>o=some (endP i (AQ b T L W x law N s made))) N ?_ ?_ _ ⟨rfl,H,hm,by rw [Nat.sub_zero]⟩ _ (by omega)
 ·rintro m ⟨_,s,made⟩ hm ⟨rfl,H,hml,he⟩
  simp only at H hml he
  obtain ⟨f,hf⟩:∃ f,N - m=f+1:=⟨N - m - 1,by omega⟩
  rw [hB m s made H hml (by omega), <- he,hf]
  unfold Cb
  rw [AQ]
  by_cases c:rW T x.1 x.2.2.2.2.1 (f+1) (s.getD 0 default)=true
  ·rw [if_pos c,if_pos c,if_pos (by omega)]
   by_cases c8:made.length=200
   ·rw [if_pos c8,if_pos c8]; exact .inr ⟨_,rfl,rfl⟩
   rw [if_neg c8,if_neg c8]
   by_cases ho:(iI b T (L.getD law.toNat default) s (nO W x.2.1)).all (inT T)=true
   ·rw [if_pos ho,if_pos ho]
    refine .inl ⟨_,rfl,rfl,H.next ho,by simp; omega,?_⟩
    rw [show N - (m+1)=f by omega]
   ·rw [if_neg ho,if_neg ho]; exact .inr ⟨_,rfl,rfl⟩
  ·rw [if_neg c,if_neg c]; exact .inr ⟨_,rfl,rfl⟩
 ·rintro ⟨_,s,made⟩ ⟨rfl,H,hml,he⟩
  simp only at H hml he
  rw [Nat.sub_self] at he
  rw [hB N s made H hml (Nat.le_refl _), <- he,Nat.sub_self]
  unfold Cb
  rw [AQ]
  by_cases c:rW T x.1 x.2.2.2.2.1 0 (s.getD 0 default)=true
  ·rw [if_pos c,if_pos c,if_neg (by omega)]; exact ⟨_,rfl,rfl⟩
  ·rw [if_neg c,if_neg c]; exact ⟨_,rfl,rfl⟩
theorem akK (B:oz a b T L lo hi W dQ spread) {fl:List Ph} (hl:fl.length<=60) (ok:∀ x∈fl,EW x) (QE:∀ x∈fl,0<=x.2.2.1/\x.2.2.1<L.length) :
 aS (Iq (a,b,T,L,lo,hi,W,dQ,spread,0) (fl,0)) 1000000000 (0,lo,[])=some (KU b T L W dQ fl lo []):=by
 refine eX _ (fun i u=>u.1=(i:Int)/\fZ a b T L u.2.1/\u.2.2.length<=200/\KU b T L W dQ (fl.drop i) u.2.1 u.2.2=KU b T L W dQ fl lo []) (fun o=>o=some (KU b T L W dQ fl lo [])) fl.length ?_ ?_ _ ⟨rfl,B.box.lo,by simp,rfl⟩ _ (by omega)
 ·rintro i ⟨_,s,made⟩ hi' ⟨rfl,H,hml,he⟩
  simp only at H hml he
  have hx:=ok _ (getD_mem hi')
  have hxl:=QE _ (getD_mem hi')
  obtain ⟨k1,k2,_⟩:=hx.QV
  have hd:fl.drop i=fl.getD i default::fl.drop (i+1):=by
   rw [List.drop_eq_getElem_cons hi',List.getD_eq_getElem?_getD,List.getElem?_eq_getElem hi']; rfl
  have key:(if jO (fl.getD i default).1=true then (aS (Am (a,b,T,L,lo,hi,W,dQ,spread,0) (fl,0) ((i:Int),s,made)) 1000000000 (0,s,made)).getD (.out none)
   else (aS (Ak (a,b,T,L,lo,hi,W,dQ,spread,0) (fl,0) ((i:Int),s,made)) 1000000000 (0,s,made)).getD (.out none))=
   endP (((i+1:Nat):Int)) (AQ b T L W (fl.getD i default) (qh dQ (fl.getD i default)) (fl.getD i default).2.2.2.1.toNat s made):=by
   have hw:IntKind.i64.wrap ((i:Int)+1)=((i+1:Nat):Int):=by rw [wS i (by omega)]; rfl
   unfold qh
   by_cases hc:jO (fl.getD i default).1=true
   ·rw [if_pos hc,if_pos hc,Gt (a:=a) (x:=fl.getD i default) (law:=(fl.getD i default).2.2.1) (i:=((i+1:Nat):Int)) (N:=(fl.getD i default).2.2.2.1.toNat) (by omega) (fun n s' made' H' hm' hn'=>by
     rw [body3 B (by rw [Int.toNat_natCast]) hx hxl H' hm' (by omega),hw]) H hml]; rfl
   ·rw [if_neg hc,if_neg hc,Gt (a:=a) (x:=fl.getD i default) (law:=dQ) (i:=((i+1:Nat):Int)) (N:=(fl.getD i default).2.2.2.1.toNat) (by omega) (fun n s' made' H' hm' hn'=>by
     rw [body4 B (by rw [Int.toNat_natCast]) hx H' hm' (by omega),hw]) H hml]; rfl
  simp only [Iq,lS hi',if_true,if_pos (jJ hi'),Int.toNat_natCast,cold,Zh]
  rw [key]
  rw [hd,KU] at he
  obtain ⟨p1,p2⟩:=Jk (W:=W) (x:=fl.getD i default) (law:=qh dQ (fl.getD i default)) (fl.getD i default).2.2.2.1.toNat s made H hml
  unfold endP
  by_cases h0:(AQ b T L W (fl.getD i default) (qh dQ (fl.getD i default)) (fl.getD i default).2.2.2.1.toNat s made).1=0
  ·rw [if_pos h0] at he ⊢
   exact .inl ⟨_,rfl,rfl,p1,p2,he⟩
  ·rw [if_neg h0] at he ⊢
   exact .inr ⟨_,rfl,by rw [he]⟩
 ·rintro ⟨_,s,made⟩ ⟨rfl,H,hml,he⟩
  simp only at H hml he
  rw [List.drop_length,KU] at he
  simp only [Iq,y8,Bool.false_eq_true,if_false]
  exact ⟨_,rfl,by rw [he]⟩
def sZ (n:Int) (fl:List Ph):Bool:=fl.all fun x=>dW x.2.2.1 0 (n - 1)
def yB (b:Int) (T:TL) (L:List TL) (lo:List Int) (W:TL) (dQ:Int) (l:List Ph):TL×Int:=
 if (oH l).2=0 then (if sZ L.length (fE l)=true then KU b T L W dQ (fE l) lo [] else ([],6)) else ([],(oH l).2)
theorem YN (hT:T.length<1000) (hn:L.length<1000) (hL:∀ x∈L,x.length<1000) (h1:lo.length<1000000) (h2:hi.length<1000000) (hw:W.length<1000) {l:List Ph} (hl:l.length<1000000) :
 r15 a b T L lo hi W dQ spread l=some (if (zy a b T L lo hi W dQ spread).2=0 then yB b T L lo W dQ l else ([],(zy a b T L lo hi W dQ spread).2)):=by
 unfold r15 r45
 rw [aCg a b T L lo hi W dQ spread hT hn hL h1 h2 hw,Option.bind_some,Option.bind_some]
 simp only
 by_cases hb:(zy a b T L lo hi W dQ spread).2=0
 rotate_left
 ·rw [if_pos (by simpa using hb),if_neg hb]
 have B:=acR hb
 rw [if_neg (by simpa using hb),if_pos hb,abK hl,Option.bind_some]
 unfold yB
 by_cases hr:(oH l).2=0
 ·obtain ⟨q1,q2,q3,_⟩:=PU hr
  rw [if_pos hr,if_pos hr,hb]
  simp only
  have akx:∀ (c d:Bool),dL [if c=true then (0:Int) else 6,bW d 6]=if (c && d)=true then 0 else 6:=fun c d=>by cases c<;>cases d<;>rfl
  refine eX (yF (a,b,T,L,lo,hi,W,dQ,spread,0) (fE l,0)) (fun i s=>s=(if sZ L.length ((fE l).take i)=true then 0 else 6,(i:Int))) (fun o=>o=some (if sZ L.length (fE l)=true then KU b T L W dQ (fE l) lo [] else ([],6))) (fE l).length ?_ ?_ _ rfl _ (by omega)
  ·rintro i _ hi' rfl
   have ht:sZ L.length ((fE l).take (i+1))=(sZ L.length ((fE l).take i) && dW ((fE l).getD i default).2.2.1 0 ((L.length:Int) - 1)):=by
    unfold sZ
    rw [List.take_add_one,List.getElem?_eq_getElem hi',List.all_append,List.getD_eq_getElem?_getD,List.getElem?_eq_getElem hi']
    simp
   refine .inl ⟨_,?_,rfl⟩
   simp only [yF,lS hi',if_true,if_pos (jJ hi'),Int.toNat_natCast,wS i (by omega),last hn,aP,wit,Bh]
   rw [fst _ (by simp),akx,ht]; rfl
  ·rintro _ rfl
   rw [List.take_length]
   simp only [yF,y8,Bool.false_eq_true,if_false]
   refine ⟨_,rfl,?_⟩
   by_cases hc:sZ L.length (fE l)=true
   ·rw [if_pos hc,if_pos hc,if_neg (by decide)]
    exact akK B q3 (WC q2) (fun x hx=>by
     have:=iR.1 (List.all_eq_true.1 hc x hx)
     omega)
   ·rw [if_neg hc,if_neg hc,if_pos (by decide)]
 ·rw [if_neg hr,if_neg hr]
  have e:yF (a,b,T,L,lo,hi,W,dQ,spread,(zy a b T L lo hi W dQ spread).2) ([],(oH l).2) ((oH l).2,0)= .out (some ([],(oH l).2)):=by
   have:((oH l).2 != 0)=true:=by simpa using hr
   simp [yF,this]
  show aS (yF (a,b,T,L,lo,hi,W,dQ,spread,(zy a b T L lo hi W dQ spread).2) ([],(oH l).2)) (999999999+1) ((oH l).2,0)=_
  rw [aS,e]
end
section
variable {a b:Int} {T:TL} {L:List TL} {lo hi:List Int} {W:TL} {dQ spread:Int}
theorem afQ {fl:List Ph}:∀ {s:List Int} {made:TL},fZ a b T L s->made.length<=200->(KU b T L W dQ fl s made).1.length<=200:=by
 induction fl with
 | nil=>intro s made _ hm; exact hm
 | cons x r ih=>
  intro s made H hm
  rw [KU]
  obtain ⟨p1,p2⟩:=Jk (W:=W) (x:=x) (law:=qh dQ x) x.2.2.2.1.toNat s made H hm
  split
  ·exact ih p1 p2
  ·simp
end
def dp:Hl->Nat
 | .nil=>0
 | .cons _ _ _ _ _ b r=>max (dp b+1) (dp r)
def ZK (n:Nat):Hl->Bool
 | .nil=>true
 | .cons _ _ _ _ _ b r=>decide (hN b<=n) && ZK n b && ZK n r
theorem acf:∀ {b:Hl} {x:Ph},x∈hU b->dp x.2.2.2.2.2+1<=dp b
 | .nil,x,h=>by cases h
 | .cons k p l t q b r,x,h=>by
  rw [dp]
  rcases List.mem_cons.1 h with rfl | h
  ·exact Nat.le_max_left _ _
  ·exact Nat.le_trans (acf h) (Nat.le_max_right _ _)
theorem ZH {n:Nat}:∀ {b:Hl} {x:Ph},ZK n b=true->x∈hU b->hN x.2.2.2.2.2<=n/\ZK n x.2.2.2.2.2=true
 | .nil,x,_,h=>by cases h
 | .cons k p l t q b r,x,hs,h=>by
  rw [ZK] at hs
  simp only [Bool.and_eq_true,decide_eq_true_eq] at hs
  rcases List.mem_cons.1 h with rfl | h
  ·exact ⟨hs.1.1,hs.1.2⟩
  ·exact ZH hs.2 h
def KT (l:List Ph):Nat:=dp (hM l)
def KP (n:Nat) (l:List Ph):Bool:=decide (l.length<=n) && ZK n (hM l)
theorem BG {l:List Ph} {x:Ph} (h:x∈l):KT (hU x.2.2.2.2.2)+1<=KT l:=by
 unfold KT
 rw [xY]
 exact acf (b:=hM l) (by rw [zZ]; exact h)
theorem VH {n:Nat} {l:List Ph} {x:Ph} (hs:KP n l=true) (h:x∈l):KP n (hU x.2.2.2.2.2)=true:=by
 unfold KP at hs ⊢
 simp only [Bool.and_eq_true,decide_eq_true_eq] at hs ⊢
 have h2:=ZH hs.2 (x:=x) (by rw [zZ]; exact h)
 rw [xY,uY]
 exact h2
theorem IX {n:Nat} {l:List Ph} (hs:KP n l=true):l.length<=n:=by
 unfold KP at hs
 simp only [Bool.and_eq_true,decide_eq_true_eq] at hs
 exact hs.1
theorem ZI {n:Nat}:∀ {l:List Ph},l.length<=n->(∀ x∈l,KP n (hU x.2.2.2.2.2)=true)->KP n l=true
 | [],_,_=>by unfold KP; simp [hM,ZK]
 | (k,p,w,t,q,b)::r,hl,h=>by
  have h1:=h (k,p,w,t,q,b) (by simp)
  have h2:=ZI (n:=n) (l:=r) (by simp at hl; omega) (fun x hx=>h x (by simp [hx]))
  unfold KP at h1 h2 ⊢
  simp only [Bool.and_eq_true,decide_eq_true_eq,xY,uY] at h1 h2 ⊢
  rw [hM,ZK]
  simp only [Bool.and_eq_true,decide_eq_true_eq]
  exact ⟨hl,⟨h1.1,h1.2⟩,h2.2⟩
theorem ach {n:Nat}:∀ {l:List Ph},(∀ x∈l,KT (hU x.2.2.2.2.2)+1<=n)->KT l<=n
 | [],_=>by unfold KT; simp [hM,dp]
 | (k,p,w,t,q,b)::r,h=>by
  have h1:=h (k,p,w,t,q,b) (by simp)
  have h2:=ach (n:=n) (l:=r) (fun x hx=>h x (by simp [hx]))
  unfold KT at h1 h2 ⊢
  rw [xY] at h1
  rw [hM,dp]
  exact Nat.max_le.2 ⟨h1,h2⟩
theorem aax:∀ (b:Hl) (d:Int),0<=d->d<=3->yJ b d=0->(dp b:Int)<=4 - d
 | .nil,d,_,_,_=>by rw [dp]; omega
 | .cons k p l t q b r,d,h0,h3,h=>by
  have hx:=qI h (k,p,l,t,q,b) (by simp [hU])
  have hr:yJ r d=0:=by rw [xP,if_pos hx] at h; exact h
  have ih:=aax r d h0 h3 hr
  rw [dp]
  have hb:(dp b:Int)+1<=4 - d:=by
   by_cases k5:k=5
   ·obtain ⟨n3,k2,_,_⟩:=nP hx k5
    simp only at k2
    have:=aax b (d+1) (by omega) (by omega) k2
    omega
   ·have ho:=(Jl (ai8 hx k5)).2.1
    unfold kN at ho
    simp only [Bool.and_eq_true,Bool.or_eq_true,beq_iff_eq] at ho
    have hb0:hN b=0:=by rcases ho.2 with h | h; exact absurd h k5; exact h
    cases b with
    | nil=>rw [dp]; omega
    | cons=>simp [hN] at hb0
  omega
where
 ai8 {d:Int} {x:Ph} (h:lQ d x=0) (h5:x.1≠5):jo x.1 x.2.1 x.2.2.1 x.2.2.2.1 x.2.2.2.2.1 (hN x.2.2.2.2.2 == 0)=0:=by
  rw [wu h5] at h; exact h
end Go.Proofs.YtkbdjphdhcgmaaaGreatDoor

/- Steel: loops, first errors, small functions (plain). -/
import Derived.Test.YtnepigpnlnmlmaaGreatDoorF05
import Derived.Test.YtnepigpnlnmlmaaGreatDoorF18
import Derived.Test.YtnepigpnlnmlmaaGreatDoorF01
import Derived.Test.YtnepigpnlnmlmaaGreatDoorF07
import Derived.Test.YtnepigpnlnmlmaaGreatDoorF10
set_option linter.unusedVariables false
set_option linter.unusedSimpArgs false
namespace Go.Proofs.YtnepigpnlnmlmaaGreatDoor
open Go.dR
theorem dA {a b c:Int}:dn a b c=true↔b<=a/\a<=c:=by simp [dn]
theorem wI {a:Int} (h1: -9223372036854775808<=a) (h2:a<=9223372036854775807):IntKind.i64.wrap a=a:=IntWalk.i64_in _ ⟨by omega,by omega⟩
def pO {ρ:Type} (s fin:Option ρ):Option ρ:=match s with | some v=>some v | none=>fin
def qO {ρ:Type} (f:Nat->Option ρ):Nat->Nat->Option ρ
 | _,0=>none
 | i,k+1=>match f i with
  | some v=>some v
  | none=>qO f (i+1) k
theorem ZG {σ ρ:Type} (n:Nat) (b:σ->eY σ ρ) (st:Nat->σ) (fin:Option ρ) (hn:n<1000000000)
 (step:∀ i:Nat,i<n->b (st i)= .next (st (i+1))) (stop:b (st n)= .out fin):aK b 1000000000 (st 0)=fin:=by
 have key:∀ (k i fuel:Nat),i+k=n->k<fuel->aK b fuel (st i)=fin:=by
  intro k
  induction k with
  | zero=>
   intro i fuel hi hf
   obtain ⟨m,rfl⟩:∃ m,fuel=m+1:=⟨fuel - 1,by omega⟩
   obtain rfl:i=n:=by omega
   simp [aK,stop]
  | succ k ih=>
   intro i fuel hi hf
   obtain ⟨m,rfl⟩:∃ m,fuel=m+1:=⟨fuel - 1,by omega⟩
   simp only [aK,step i (by omega)]
   exact ih (i+1) m (by omega) (by omega)
 exact key n 0 1000000000 (by omega) hn
theorem lX {α:Type} [Inhabited α] {l:List α} {i:Nat} (h:i<l.length):l.getD i default∈l:=by
 rw [List.getD_eq_getElem?_getD,List.getElem?_eq_getElem h,Option.getD_some]; exact List.getElem_mem h
def lead {α:Type} (p:α->Bool):List α->Nat
 | []=>0
 | x::r=>if p x then lead p r+1 else 0
theorem BK {α ρ:Type} [Inhabited α] (l:List α) (b:Int->eY Int ρ) (p:α->Bool) (g:Int->Option ρ) (hl:l.length<1000000000)
 (step:∀ i:Nat,i<l.length->b i=if p (l.getD i default)=true then .next ((i:Int)+1) else .out (g i)) (stop:b l.length= .out (g l.length)) :
 aK b 1000000000 0=g (lead p l):=by
 have key:∀ (k i fuel:Nat),i+k=l.length->k<fuel->aK b fuel i=g ((i+lead p (l.drop i):Nat):Int):=by
  intro k
  induction k with
  | zero=>
   intro i fuel hi hf
   obtain ⟨m,rfl⟩:∃ m,fuel=m+1:=⟨fuel - 1,by omega⟩
   obtain rfl:i=l.length:=by omega
   simp [aK,stop,lead]
  | succ k ih=>
   intro i fuel hi hf
   obtain ⟨m,rfl⟩:∃ m,fuel=m+1:=⟨fuel - 1,by omega⟩
   have hlt:i<l.length:=by omega
   have hd:l.drop i=l.getD i default::l.drop (i+1):=by
    rw [List.drop_eq_getElem_cons hlt]; simp [List.getD_eq_getElem?_getD,hlt]
   rw [hd]
   simp only [aK,step i hlt,lead]
   by_cases hp:p (l.getD i default)=true
   ·simp only [if_pos hp]
    have:=ih (i+1) m (by omega) (by omega)
    rw [show ((i+1:Nat):Int)=(i:Int)+1 by omega] at this
    rw [this]
    congr 1; omega
   simp only [if_neg hp,Nat.add_zero]
 have:=key l.length 0 1000000000 (by omega) hl
 simpa using this
theorem p66 (a b c:Int):jS a b c=some (dn a b c):=rfl
theorem p29 (a b c:Int):rJ a b c=some (dn a b c):=rfl
theorem p68 (b:Bool) (e:Int):gW b e=some (bG b e):=by
 unfold gW bG; cases b<;>rfl
theorem p67 (l:aV) (hl:l.length<1000000000):oL l=some (bC l):=by
 have h:=eU (τ:=Unit) l (Df l) (λi _=>i) (λ_ _ x=>if x=0 then .next () else .out (some x)) (λ_=>some 0) hl
  (λi t hi=>by
   simp only [Df,kK hi,if_true,if_pos (iK hi),Int.toNat_natCast,wS i (by omega)]
   generalize l.getD i default=x
   by_cases hx:x=0<;>simp [hx,uN])
  (λt=>by simp [Df]) ()
 unfold oL
 rw [h]
 have:∀ (r:aV) (i:Int),dV (λ_ _ x=>if x=0 then eY.next () else .out (some x)) (λ_:Unit=>some 0) i r ()=some (bC r):=by
  intro r
  induction r with
  | nil=>intro i; rfl
  | cons x r ih=>
   intro i
   by_cases hx:x=0
   ·simp only [dV,hx,if_true,bC]; exact ih _
   simp only [dV,if_neg hx,bC]
 exact this l 0
theorem G8 (a b:Int):bC [a,b]=if a=0 then b else a:=by
 simp only [bC]
 by_cases ha:a=0<;>by_cases hb:b=0<;>simp [ha,hb]
abbrev Kn:=Int×aA×Int
def qN (x:Int×Int):Bool:=dn x.1 0 1000000 && dn x.2 0 1000000
def l9 (x:Int×Int):Bool:=decide (x.1<=x.2)
def Qp (k:Kn):Int:=if dn k.1 1 3000 && k.2.1.all qN && dn k.2.2 0 1000000 then (if k.2.1.all l9 then 0 else 3) else 2
def aaG (dir:Int) (k b:Kn):Bool:=
 decide (b.1<k.1) && (decide (dir=0) || (decide (dir*(b.2.1.getD 0 default).1<=dir*(k.2.1.getD 0 default).1) && decide (dir*(b.2.1.getD 0 default).2<=dir*(k.2.1.getD 0 default).2)))
def knE (dir:Int) (before:Option Kn) (k:Kn):Int:=
 if Qp k=0 then (match before with | none=>0 | some b=>if aaG dir k b then 0 else 9) else Qp k
theorem Ai {α ρ:Type} [Inhabited α] (l:List α) (b:Int->eY Int ρ) (p:α->Bool) (A B:Option ρ) (hl:l.length<1000000000)
 (step:∀ i:Nat,i<l.length->b i=if p (l.getD i default)=true then .out A else .next ((i:Int)+1)) (stop:b l.length= .out B) :
 aK b 1000000000 0=if l.any p=true then A else B:=by
 have h:=eU (τ:=Unit) l b (λi _=>i) (λ_ _ x=>if p x=true then .out A else .next ()) (λ_=>B) hl
  (λi t hi=>by rw [step i hi]; by_cases hp:p (l.getD i default)=true<;>simp only [hp,if_true,if_false,uN,Bool.false_eq_true]) (λt=>stop) ()
 rw [h]
 have key:∀ (r:List α) (i:Int),dV (λ_ _ x=>if p x=true then eY.out A else .next ()) (λ_:Unit=>B) i r ()=if r.any p=true then A else B:=by
  intro r
  induction r with
  | nil=>intro i; rfl
  | cons x r ih=>
   intro i
   by_cases hp:p x=true
   ·simp only [dV,hp,if_true,List.any_cons,Bool.true_or]
   simp only [dV,if_neg hp,List.any_cons]
   rw [ih]
   simp [hp]
 exact key l 0
theorem auR (a:Int):jr a=some (dn a 0 1000000):=rfl
theorem au3 (a:Int):ML a=some (dn a 1 3000):=rfl
theorem aCZ (a b:Int):ab5 a b=some (!qN (a,b)):=by
 unfold ab5 qN
 simp only [auR,Option.bind_some,Option.isSome_some,implies_true,if_true,Option.getD_some,Bool.not_and]
theorem au4 (a b:Int):Zg a b=some (!l9 (a,b)):=by
 unfold Zg l9
 congr 1
 by_cases h:a<=b
 ·have:¬ b<a:=by omega
  simp [h,this]
 have:b<a:=by omega
 simp [h,this]
def VT (k:Kn) (before:Option Kn) (dir:Int) (d1 d2:Bool):Option Int:=
 (ML k.1).bind λv3=>
  if (v3 && (!d1))=true->(jr k.2.2).isSome=true then
   (gW ((v3 && (!d1)) && ((jr k.2.2).getD default)) 2).bind λv4=>
    (gW (!d2) 3).bind λv5=>
     (oL [v4,v5]).bind λv6=>
      if ((v6 != 0) || (!before.isSome))=true then
       some v6
       else if before.isSome=true then
        if before.isSome=true then
         if (dir != 0)=true then
          if 0<=0/\0<(k.2.1.length:Int) then
           if before.isSome=true then
            if before.isSome=true then
             if 0<=0/\0<(((before.getD default).2.1).length:Int) then
              (gW (((decide (k.1>((before.getD default).1))) && (decide ((IntKind.i64.wrap (dir*((k.2.1.getD 0 default).1)))>=(IntKind.i64.wrap (dir*((((before.getD default).2.1).getD 0 default).1)))))) && (decide ((IntKind.i64.wrap (dir*((k.2.1.getD 0 default).2)))>=(IntKind.i64.wrap (dir*((((before.getD default).2.1).getD 0 default).2)))))) 9).bind λv7=>
               some v7
              else none
             else none
            else none
           else none
          else (gW (decide (k.1>((before.getD default).1))) 9).bind λv12=>
           some v12
         else none
        else none
   else none
theorem nR {k:Kn} (h:Qp k=0):(1<=k.1/\k.1<=3000)/\(∀ x∈k.2.1,qN x=true)/\(0<=k.2.2/\k.2.2<=1000000)/\∀ x∈k.2.1,l9 x=true:=by
 unfold Qp at h
 split at h
 ·rename_i h1
  split at h
  ·rename_i h2
   simp only [Bool.and_eq_true] at h1
   exact ⟨dA.1 h1.1.1,List.all_eq_true.1 h1.1.2,dA.1 h1.2,List.all_eq_true.1 h2⟩
  exact absurd h (by decide)
 exact absurd h (by decide)
theorem rF {x:Int×Int}:qN x=true↔(0<=x.1/\x.1<=1000000)/\0<=x.2/\x.2<=1000000:=by
 unfold qN; rw [Bool.and_eq_true,dA,dA]
theorem ajR (k:Kn) (before:Option Kn) (dir:Int) (hd:dir=0\/((dir=1\/dir= -1)/\k.2.1≠[]/\∀ b,before=some b->b.2.1≠[])) (hb:∀ b,before=some b->Qp b=0) :
 VT k before dir (k.2.1.any λx=> !qN x) (k.2.1.any λx=> !l9 x)=some (knE dir before k):=by
 have e1:(k.2.1.any λx=> !qN x)= !k.2.1.all qN:=List.not_all_eq_any_not.symm
 have e2:(k.2.1.any λx=> !l9 x)= !k.2.1.all l9:=List.not_all_eq_any_not.symm
 rw [e1,e2]
 unfold VT
 simp only [au3,auR,p68,Option.bind_some,Option.isSome_some,implies_true,if_true,Option.getD_some,Bool.not_not]
 rw [p67 _ (by simp),Option.bind_some]
 have e3:bC [bG (dn k.1 1 3000 && k.2.1.all qN && dn k.2.2 0 1000000) 2,bG (k.2.1.all l9) 3]=Qp k:=by
  rw [G8]
  unfold Qp bG
  by_cases h1:(dn k.1 1 3000 && k.2.1.all qN && dn k.2.2 0 1000000)=true
  ·rw [if_pos h1,if_pos h1]; simp
  rw [if_neg h1,if_neg h1]; simp
 rw [e3]
 unfold knE
 by_cases hk:Qp k=0
 ·rw [if_pos hk,hk]
  cases before with
  | none=>simp
  | some b=>
   have vb:=nR (hb b rfl)
   have vk:=nR hk
   simp only [Option.isSome_some,Option.getD_some,bne_self_eq_false,Bool.not_true,Bool.or_false,Bool.false_eq_true,if_false,if_true]
   rcases hd with rfl | ⟨hd,hne,hbne⟩
   ·simp only [bne_self_eq_false,Bool.false_eq_true,if_false]
    unfold aaG bG
    simp only [decide_true,Bool.true_or,Bool.and_true,gt_iff_lt]
   have hd0:dir≠0:=by rcases hd with rfl | rfl<;>decide
   have hbn:=hbne b rfl
   have l1:0<k.2.1.length:=List.length_pos_iff.2 hne
   have l2:0<b.2.1.length:=List.length_pos_iff.2 hbn
   have s1:=rF.1 (vk.2.1 _ (lX l1))
   have s2:=rF.1 (vb.2.1 _ (lX l2))
   rw [if_pos (by simpa using hd0),if_pos ⟨by decide,by omega⟩,if_pos ⟨by decide,by omega⟩]
   have w:∀ z:Int,0<=z->z<=1000000->IntKind.i64.wrap (dir*z)=dir*z:=λz h1 h2=>by
    rcases hd with rfl | rfl
    ·exact wI (by omega) (by omega)
    exact wI (by omega) (by omega)
   have e:((decide (k.1>b.1) && decide (IntKind.i64.wrap (dir*(k.2.1.getD 0 default).1)>=IntKind.i64.wrap (dir*(b.2.1.getD 0 default).1))) && decide (IntKind.i64.wrap (dir*(k.2.1.getD 0 default).2)>=IntKind.i64.wrap (dir*(b.2.1.getD 0 default).2)))=aaG dir k b:=by
    unfold aaG
    simp only [w _ s1.1.1 s1.1.2,w _ s1.2.1 s1.2.2,w _ s2.1.1 s2.1.2,w _ s2.2.1 s2.2.2,gt_iff_lt,ge_iff_le,decide_eq_false hd0,Bool.false_or,Bool.and_assoc]
   rw [e]
   rfl
 rw [if_neg hk,if_pos (by simp [hk])]
theorem p63 (k:Kn) (before:Option Kn) (dir:Int) (hl:k.2.1.length<1000000000) (hd:dir=0\/((dir=1\/dir= -1)/\k.2.1≠[]/\∀ b,before=some b->b.2.1≠[])) (hb:∀ b,before=some b->Qp b=0) :
 MO k.1 k.2.1 k.2.2 before dir=some (knE dir before k):=by
 rw [<- ajR k before dir hd hb]
 have h2:∀ s:Int,aK (zl k.1 k.2.1 k.2.2 before dir s) 1000000000 0=VT k before dir (decide (s>=0)) (k.2.1.any λx=> !l9 x):=λs=>by
  have:=Ai k.2.1 (zl k.1 k.2.1 k.2.2 before dir s) (λx=> !l9 x) (VT k before dir (decide (s>=0)) true) (VT k before dir (decide (s>=0)) false) hl
   (λi hi=>by
    simp only [zl,kK hi,if_true,if_pos (iK hi),Int.toNat_natCast,wS i (by omega),au4,aW]
    have e:(decide ((i:Int)>=0))=true:=by simp
    rw [e]; rfl)
   (by simp only [zl,G7,Bool.false_eq_true,if_false]; rfl)
  rw [this]
  cases k.2.1.any λx=> !l9 x<;>simp
 have h3:aK (zk k.1 k.2.1 k.2.2 before dir) 1000000000 0=VT k before dir false (k.2.1.any λx=> !l9 x):=by
  have:=Ai k.2.1 (zk k.1 k.2.1 k.2.2 before dir) (λx=> !l9 x) (VT k before dir false true) (VT k before dir false false) hl
   (λi hi=>by
    simp only [zk,kK hi,if_true,if_pos (iK hi),Int.toNat_natCast,wS i (by omega),au4,aW]
    have e:(decide ((i:Int)>=0))=true:=by simp
    rw [e]
    first | (simp only [VT,Bool.not_false,Bool.and_true]; done) | (simp only [VT,Bool.not_false,Bool.and_true]; rfl))
   (by simp only [zk,G7,Bool.false_eq_true,if_false]; first | (simp only [VT,Bool.not_false,Bool.and_true]; done) | (simp only [VT,Bool.not_false,Bool.and_true]; rfl))
  rw [this]
  cases k.2.1.any λx=> !l9 x<;>simp
 unfold MO
 have:=Ai k.2.1 (Dc k.1 k.2.1 k.2.2 before dir) (λx=> !qN x) (VT k before dir true (k.2.1.any λx=> !l9 x)) (VT k before dir false (k.2.1.any λx=> !l9 x)) hl
  (λi hi=>by
   have e:(decide ((i:Int)>=0))=true:=by simp
   simp only [Dc,kK hi,if_true,if_pos (iK hi),Int.toNat_natCast,wS i (by omega),aCZ,aW,h2,e])
  (by simp only [Dc,G7,Bool.false_eq_true,if_false,h3])
 rw [this]
 cases k.2.1.any λx=> !qN x<;>simp
theorem agP {σ ρ:Type} (x:Int×Int) (A B:eY σ ρ):(if (decide (x.1>x.2))=true then A else B)=if (!l9 x)=true then A else B:=by
 unfold l9
 by_cases h:x.1<=x.2
 ·rw [if_neg (by simp; omega),if_neg (by simp [h])]
 rw [if_pos (by simp; omega),if_pos (by simp; omega)]
theorem p87 (a:Int):agr a=some (dn a 1 3000):=rfl
theorem aCY (a b:Int):Y7 a b=some (qN (a,b)):=by
 unfold Y7 qN
 simp only [p29,Option.bind_some,Option.isSome_some,implies_true,if_true,Option.getD_some]
theorem p70 (k:Kn) (last:Int) (ord:Bool) (hl:k.2.1.length<1000000000) :
 D7 k.1 last k.2.1 k.2.2 ord=some (if Qp k=0 then (if decide (k.1<=last) || !ord then 9 else 0) else Qp k):=by
 have h2:aK (y5 k.1 last k.2.1 ord) 1000000000 0=some (if k.2.1.all l9 then (if decide (k.1<=last) || !ord then 9 else 0) else 3):=by
  have:=Ai k.2.1 (y5 k.1 last k.2.1 ord) (λx=> !l9 x) (some 3) (some (if decide (k.1<=last) || !ord then 9 else 0)) hl
   (λi hi=>by
    simp only [y5,kK hi,if_true,if_pos (iK hi),Int.toNat_natCast,wS i (by omega)]
    exact agP _ _ _)
   (by
    simp only [y5,G7,Bool.false_eq_true,if_false]
    by_cases h:(decide (k.1<=last) || !ord)=true<;>simp only [h,if_true,if_false,Bool.false_eq_true])
  rw [this]
  have e2:(k.2.1.any λx=> !l9 x)= !k.2.1.all l9:=List.not_all_eq_any_not.symm
  rw [e2]
  cases k.2.1.all l9<;>simp
 have h1:∀ a:Bool,aK (y7 k.1 last k.2.1 ord) 1000000000 (a,0)=if (a && k.2.1.all qN)=true then some (if k.2.1.all l9 then (if decide (k.1<=last) || !ord then 9 else 0) else 3) else some 2:=λa=>by
  have h:=eU (τ:=Bool) k.2.1 (y7 k.1 last k.2.1 ord) (λi t=>(t,i)) (λ_ t x=> .next (t && qN x)) (λt=>if t=true then some (if k.2.1.all l9 then (if decide (k.1<=last) || !ord then 9 else 0) else 3) else some 2) hl
   (λi t hi=>by
    simp only [y7,kK hi,if_true,if_pos (show t=true->_ from λ_=>iK hi),Int.toNat_natCast,wS i (by omega),aCY,Option.isSome_some,implies_true,Option.getD_some,uN])
   (λt=>by
    simp only [y7,G7,Bool.false_eq_true,if_false,h2]
    cases t<;>simp) a
  rw [h]
  have key:∀ (r:aA) (i:Int) (t:Bool) (A B:Option Int),dV (λ_ t x=>eY.next (t && qN x)) (λt=>if t=true then A else B) i r t=if (t && r.all qN)=true then A else B:=by
   intro r
   induction r with
   | nil=>intro i t A B; simp [dV]
   | cons x r ih=>
    intro i t A B
    show dV _ _ (i+1) r (t && qN x)=_
    rw [ih,List.all_cons,Bool.and_assoc]
  exact key _ _ _ _ _
 unfold D7
 simp only [p87,p29,Option.bind_some,Option.isSome_some,implies_true,if_true,Option.getD_some,h1]
 unfold Qp
 by_cases g1:dn k.1 1 3000=true<;>by_cases g2:dn k.2.2 0 1000000=true<;>by_cases g3:k.2.1.all qN=true<;>by_cases g4:k.2.1.all l9=true<;>simp [g1,g2,g3,g4]
def kH (x:Int×Int×Int×Int):Kn:=(x.1,[(x.2.1,x.2.2.1)],x.2.2.2)
def kC (x:Int×Int×Int×Int×Int):Kn:=(x.1,[(x.2.1,x.2.2.1),(x.2.2.2.1,x.2.2.2.2)],0)
def kQ (x:Int×Int×Int):Kn:=(x.1,[(x.2.1,x.2.2)],0)
def kT (x:Int×Int):Kn:=(x.1,[],x.2)
def jM (dir:Int) (L:List Kn) (i:Nat):Int:=knE dir (if i=0 then none else some (L.getD (i - 1) default)) (L.getD i default)
def errs (dir:Int) (L:List Kn):Option (Int×Int):=qO (λi=>if jM dir L i=0 then none else some ((i:Int),jM dir L i)) 0 L.length
theorem lV {σ:Type} (n:Nat) (B:σ->eY σ (Int×Int)) (st:Nat->σ) (E:Nat->Int) (fin:Option (Int×Int)) (hn:n<1000000000)
 (step:∀ i,i<n->(∀ j,j<i->E j=0)->B (st i)=if E i=0 then .next (st (i+1)) else .out (some ((i:Int),E i)))
 (stop:(∀ j,j<n->E j=0)->B (st n)= .out fin) :
 aK B 1000000000 (st 0)=pO (qO (λi=>if E i=0 then none else some ((i:Int),E i)) 0 n) fin:=by
 have key:∀ (k i fuel:Nat),i+k=n->k<fuel->(∀ j,j<i->E j=0)->aK B fuel (st i)=pO (qO (λi=>if E i=0 then none else some ((i:Int),E i)) i k) fin:=by
  intro k
  induction k with
  | zero=>
   intro i fuel hi hf h0
   obtain ⟨m,rfl⟩:∃ m,fuel=m+1:=⟨fuel - 1,by omega⟩
   obtain rfl:i=n:=by omega
   simp [aK,stop h0,qO,pO]
  | succ k ih=>
   intro i fuel hi hf h0
   obtain ⟨m,rfl⟩:∃ m,fuel=m+1:=⟨fuel - 1,by omega⟩
   simp only [aK,step i (by omega) h0,qO]
   by_cases he:E i=0
   ·simp only [he,if_true]
    exact ih (i+1) m (by omega) (by omega) (λj hj=>by
     by_cases e:j=i
     ·exact e▸he
     exact h0 j (by omega))
   simp only [if_neg he]; rfl
 exact key n 0 1000000000 (by omega) hn (λj hj=>by omega)
theorem NS {dir:Int} {L:List Kn} {i:Nat} (h:jM dir L i=0):Qp (L.getD i default)=0:=by
 unfold jM knE at h
 split at h
 ·assumption
 exact h
def stK (L:List Kn) (i:Nat):Option Kn×Int:=(if i=0 then none else some (L.getD (i - 1) default),(i:Int))
def Fit (dir:Int) (L:List Kn):Prop:=∀ k∈L,k.2.1.length<1000000000/\(dir=0\/((dir=1\/dir= -1)/\k.2.1≠[]))
theorem Az (L:List Kn) (dir:Int) (hf:Fit dir L) {i:Nat} (hi:i<L.length) (hl:L.length<1000000000) (h0:∀ j,j<i->jM dir L j=0) :
 (aW (MO (L.getD i default).1 (L.getD i default).2.1 (L.getD i default).2.2 (stK L i).1 dir) λv2=>
  if (v2 != 0)=true then eY.out (some ((i:Int),v2))
  else if 0<=(i:Int)/\(i:Int)<(L.length:Int) then .next (some ((L.getD i default).1,(L.getD i default).2.1,(L.getD i default).2.2),IntKind.i64.wrap ((i:Int)+1)) else .out none)=
 if jM dir L i=0 then .next (stK L (i+1)) else .out (some ((i:Int),jM dir L i)):=by
 have fk:=hf _ (lX hi)
 have hb:∀ b,(stK L i).1=some b->i≠0/\b=L.getD (i - 1) default:=λb h=>by
  unfold stK at h
  by_cases hi0:i=0
  ·simp [hi0] at h
  simp [hi0] at h; exact ⟨hi0,by simpa using h.symm⟩
 rw [p63 _ _ dir fk.1 (by
  rcases fk.2 with h | ⟨h1,h2⟩
  ·exact .inl h
  refine .inr ⟨h1,h2,λb hbb=> ?_⟩
  obtain ⟨hi0,rfl⟩:=hb b hbb
  rcases (hf _ (lX (show i - 1<L.length by omega))).2 with h | ⟨_,h⟩
  ·rcases h1 with h1 | h1<;>omega
  exact h) (λb hbb=>by
  obtain ⟨hi0,rfl⟩:=hb b hbb
  exact NS (h0 (i - 1) (by omega)))]
 show (if (jM dir L i != 0)=true then _ else _)=_
 by_cases he:jM dir L i=0
 ·rw [if_neg (by simp [he]),if_pos (iK hi),if_pos he,wS i (by omega)]
  unfold stK
  rw [if_neg (by omega)]
  rfl
 rw [if_pos (by simpa using he),if_neg he]; rfl
theorem Ah {α β ρ:Type} [Inhabited α] (l:List α) (B:(Int×List β)->eY (Int×List β) ρ) (g:α->β) (fin:Option ρ) (hl:l.length<1000000000)
 (step:∀ (i:Nat) t,i<l.length->t.length=i->B ((i:Int),t)= .next ((i:Int)+1,t++[g (l.getD i default)])) (stop:B ((l.length:Int),l.map g)= .out fin):aK B 1000000000 (0,[])=fin:=by
 have h:=ZG l.length B (λi=>((i:Int),(l.take i).map g)) fin hl (λi hi=>by
  rw [step i _ hi (by simp; omega)]
  congr 1
  rw [List.take_add_one,List.map_append]
  have:l[i]? =some (l.getD i default):=by rw [List.getD_eq_getElem?_getD,List.getElem?_eq_getElem hi]; rfl
  rw [this]; rfl) (by simpa using stop)
 simpa using h
section
variable (H:aT) (C:aG) (Q:aJ) (T:aA) (a b c d:Int)
theorem aCA (h1:H.length<=10000) (h2:C.length<=10000) (h3:Q.length<=10000) (h4:T.length<=10000):acj H C Q T a b c d=some (H.map kH,C.map kC,Q.map kQ,T.map kT):=by
 unfold acj
 refine Ah H _ kH _ (by omega) (λi t hi ht=> ?_) ?_
 ·simp only [II,kK hi,if_true,if_pos (iK hi),Int.toNat_natCast,wS i (by omega),if_pos (show (t.length+1)*40<=140737488355328/\t.length+1<=9223372036854775807 by omega)]
  rfl
 simp only [II,G7,Bool.false_eq_true,if_false]
 congr 1
 refine Ah C _ kC _ (by omega) (λi t hi ht=> ?_) ?_
 ·simp only [IG,kK hi,if_true,if_pos (iK hi),Int.toNat_natCast,wS i (by omega),if_pos (show (t.length+1)*40<=140737488355328/\t.length+1<=9223372036854775807 by omega)]
  rfl
 simp only [IG,G7,Bool.false_eq_true,if_false]
 congr 1
 refine Ah Q _ kQ _ (by omega) (λi t hi ht=> ?_) ?_
 ·simp only [IE,kK hi,if_true,if_pos (iK hi),Int.toNat_natCast,wS i (by omega),if_pos (show (t.length+1)*40<=140737488355328/\t.length+1<=9223372036854775807 by omega)]
  rfl
 simp only [IE,G7,Bool.false_eq_true,if_false]
 congr 1
 refine Ah T _ kT _ (by omega) (λi t hi ht=> ?_) ?_
 ·simp only [IC,kK hi,if_true,if_pos (iK hi),Int.toNat_natCast,wS i (by omega),if_pos (show (t.length+1)*40<=140737488355328/\t.length+1<=9223372036854775807 by omega)]
  rfl
 simp only [IC,G7,Bool.false_eq_true,if_false]
end
def Qy (a b c d:Int):Int:=
 if dn a 0 2000 && dn b 0 2000 && dn c 0 2000 && dn d 0 2000 then (if decide (a<=b) && decide (b<=c) && decide (c<=d) then 0 else 9) else 2
theorem aCz (a b c d:Int):F7 [a,b,c,d]=some (!(dn a 0 2000 && dn b 0 2000 && dn c 0 2000 && dn d 0 2000)):=by
 unfold F7 Xr
 have h:=BK [a,b,c,d] (xk [a,b,c,d]) (λx=>dn x 0 2000) (λi=>some (if i=4 then -1 else i)) (by simp)
  (λi hi=>by
   have hi4:i<4:=hi
   simp only [xk,kK hi,if_true,if_pos (iK hi),Int.toNat_natCast,wS i (by omega),agx,p66,Option.bind_some,aW]
   generalize List.getD [a,b,c,d] i default=x
   by_cases hx:dn x 0 2000=true
   ·simp [hx]
   have:¬ (i:Int)=4:=by omega
   simp [hx,this])
  (by simp [xk])
 rw [h]
 simp only [lead,Option.bind_some]
 by_cases h1:dn a 0 2000=true<;>by_cases h2:dn b 0 2000=true<;>by_cases h3:dn c 0 2000=true<;>by_cases h4:dn d 0 2000=true<;>simp [h1,h2,h3,h4]
theorem agN (a b:Int):ab3 a b=some (decide (a<b)):=by
 unfold ab3 MI
 simp
theorem p69 (a b c d:Int):Ub [a,b,c,d]=some (decide (a<=b) && decide (b<=c) && decide (c<=d)):=by
 have key:∀ fuel,aK (wo [a,b,c,d]) (fuel+4) 3=some (decide (a<=b) && decide (b<=c) && decide (c<=d)):=λfuel=>by
  have w1:IntKind.i64.wrap 2=2:=by decide
  have w2:IntKind.i64.wrap 1=1:=by decide
  have w3:IntKind.i64.wrap 0=0:=by decide
  by_cases h1:d<c
  ·have:¬ c<=d:=by omega
   simp [aK,wo,w1,agN,aW,h1,this]
  by_cases h2:c<b
  ·have g1:¬ b<=c:=by omega
   simp [aK,wo,w1,w2,agN,aW,h1,h2,g1]
  by_cases h3:b<a
  ·have g1:¬ a<=b:=by omega
   simp [aK,wo,w1,w2,w3,agN,aW,h1,h2,h3,g1]
  have g1:a<=b:=by omega
  have g2:b<=c:=by omega
  have g3:c<=d:=by omega
  simp [aK,wo,w1,w2,w3,agN,aW,h1,h2,h3,g1,g2,g3]
 have:=key 999999996
 unfold Ub
 exact this
def nI (X:List Kn) (h:Int):Bool:=decide (0<X.length) && decide (h<=(X.getD (X.length - 1) default).1)
theorem gl0 {X:List Kn} (hX:X.length<=8) (h:0<X.length):IntKind.i64.wrap ((X.length:Int) - 1)=((X.length - 1:Nat):Int):=by
 rw [wI (by omega) (by omega)]; omega
theorem gl1 {X:List Kn} (hX:X.length<=8):(decide ((X.length:Int)>0))=true->0<=IntKind.i64.wrap ((X.length:Int) - 1)/\IntKind.i64.wrap ((X.length:Int) - 1)<(X.length:Int):=λh=>by
 have h1:0<X.length:=by simpa using h
 rw [gl0 hX h1]; exact ⟨by omega,by omega⟩
theorem gl2 {X:List Kn} (hX:X.length<=8) (h:Int):((decide ((X.length:Int)>0)) && decide (((X.getD (IntKind.i64.wrap ((X.length:Int) - 1)).toNat default).1)>=h))=nI X h:=by
 unfold nI
 by_cases h1:0<X.length
 ·rw [gl0 hX h1,Int.toNat_natCast]
  have:(decide ((X.length:Int)>0))=true:=by simpa using h1
  rw [this]; simp only [h1,decide_true,Bool.true_and,ge_iff_le]
 have:(decide ((X.length:Int)>0))=false:=decide_eq_false (by omega)
 rw [this]; simp only [h1,decide_false,Bool.false_and]
def Ap (H C Q T:List Kn) (a b c d:Int):Int×Int:=
 if decide (0<H.length) && (nI C (H.getD 0 default).1 || nI Q (H.getD 0 default).1 || nI T (H.getD 0 default).1) then (0,13) else (0,Qy a b c d)
theorem Qx (a b c d:Int):((F7 [a,b,c,d]).bind λv14=>(gW (!v14) 2).bind λv15=>(Ub [a,b,c,d]).bind λv16=>(gW v16 9).bind λv17=>(oL [v15,v17]).bind λv18=>some ((0:Int),v18))=some (0,Qy a b c d):=by
 simp only [aCz,p68,p69,Option.bind_some,Bool.not_not]
 rw [p67 _ (by simp),Option.bind_some,G8]
 unfold Qy bG
 by_cases h1:(dn a 0 2000 && dn b 0 2000 && dn c 0 2000 && dn d 0 2000)=true
 ·rw [if_pos h1,if_pos h1]; simp
 rw [if_neg h1,if_neg h1]; simp
section
variable {H C Q T:List Kn} (a b c d:Int)
theorem aw0 (hH:H.length<=8) (hC:C.length<=8) (hQ:Q.length<=8) (hT:T.length<=8) (fT:Fit 0 T) :
 aK (Yg a b c d (H,C,Q,T)) 1000000000 (none,0)=pO (errs 0 T) (some (Ap H C Q T a b c d)):=by
 refine lV T.length _ (stK T) (jM 0 T) _ (by omega) (λi hi h0=> ?_) (λ_=> ?_)
 ·have h:=Az T 0 fT hi (by omega) h0
  rw [<- h]
  exact (if_pos (kK hi)).trans ((if_pos (iK hi)).trans rfl)
 show (if (decide ((T.length:Int)<(T.length:Int)))=true then _ else _)=_
 rw [if_neg (by simp)]
 congr 1
 unfold Ap
 by_cases hp:0<H.length
 ·have e1:(decide ((H.length:Int)>0))=true:=by simpa using hp
  have e2:0<=0/\0<(H.length:Int):=⟨by decide,by omega⟩
  rw [e1,if_pos rfl,if_pos (gl1 hC),if_pos (λ_=>e2),gl2 hC,if_pos (gl1 hQ),if_pos (λ_=>e2),gl2 hQ,if_pos (gl1 hT),if_pos (λ_=>e2),gl2 hT,Qx]
  simp only [hp,decide_true,Bool.true_and]
  by_cases c1:nI C (H.getD 0 default).1=true
  ·simp only [c1,if_true,Bool.true_or,if_false,Bool.false_eq_true]
  by_cases c2:nI Q (H.getD 0 default).1=true
  ·simp only [c1,c2,if_true,if_false,Bool.true_or,Bool.or_true,Bool.false_or,Bool.false_eq_true]
  by_cases c3:nI T (H.getD 0 default).1=true<;>simp only [c1,c2,c3,if_true,if_false,Bool.true_or,Bool.or_true,Bool.false_or,Bool.or_false,Bool.false_eq_true]
 have e1:(decide ((H.length:Int)>0))=false:=decide_eq_false (by omega)
 rw [e1,if_neg (by decide),Qx]
 simp only [hp,decide_false,Bool.false_and,Bool.false_eq_true,if_false]
theorem aw1 (hH:H.length<=8) (hC:C.length<=8) (hQ:Q.length<=8) (hT:T.length<=8) (fQ:Fit (-1) Q) (fT:Fit 0 T) :
 aK (Yh a b c d (H,C,Q,T)) 1000000000 (none,0)=pO (errs (-1) Q) (pO (errs 0 T) (some (Ap H C Q T a b c d))):=by
 refine lV Q.length _ (stK Q) (jM (-1) Q) _ (by omega) (λi hi h0=> ?_) (λ_=> ?_)
 ·have h:=Az Q (-1) fQ hi (by omega) h0
  rw [<- h]
  exact (if_pos (kK hi)).trans ((if_pos (iK hi)).trans rfl)
 show (if (decide ((Q.length:Int)<(Q.length:Int)))=true then _ else _)=_
 rw [if_neg (by simp)]
 rw [aw0 a b c d hH hC hQ hT fT]
theorem aw2 (hH:H.length<=8) (hC:C.length<=8) (hQ:Q.length<=8) (hT:T.length<=8) (fC:Fit 0 C) (fQ:Fit (-1) Q) (fT:Fit 0 T) :
 aK (Yi a b c d (H,C,Q,T)) 1000000000 (none,0)=pO (errs 0 C) (pO (errs (-1) Q) (pO (errs 0 T) (some (Ap H C Q T a b c d)))):=by
 refine lV C.length _ (stK C) (jM 0 C) _ (by omega) (λi hi h0=> ?_) (λ_=> ?_)
 ·have h:=Az C 0 fC hi (by omega) h0
  rw [<- h]
  exact (if_pos (kK hi)).trans ((if_pos (iK hi)).trans rfl)
 show (if (decide ((C.length:Int)<(C.length:Int)))=true then _ else _)=_
 rw [if_neg (by simp)]
 rw [aw1 a b c d hH hC hQ hT fQ fT]
theorem aw3 (hH:H.length<=8) (hC:C.length<=8) (hQ:Q.length<=8) (hT:T.length<=8) (fH:Fit 1 H) (fC:Fit 0 C) (fQ:Fit (-1) Q) (fT:Fit 0 T) :
 aK (Yj a b c d (H,C,Q,T)) 1000000000 (none,0)=pO (errs 1 H) (pO (errs 0 C) (pO (errs (-1) Q) (pO (errs 0 T) (some (Ap H C Q T a b c d))))):=by
 refine lV H.length _ (stK H) (jM 1 H) _ (by omega) (λi hi h0=> ?_) (λ_=> ?_)
 ·have h:=Az H 1 fH hi (by omega) h0
  rw [<- h]
  exact (if_pos (kK hi)).trans ((if_pos (iK hi)).trans rfl)
 show (if (decide ((H.length:Int)<(H.length:Int)))=true then _ else _)=_
 rw [if_neg (by simp)]
 rw [aw2 a b c d hH hC hQ hT fC fQ fT]
end
def FV (H:aT) (C:aG) (Q:aJ) (T:aA) (a b c d:Int):Option (Int×Int):=
 if 8<H.length\/8<C.length\/8<Q.length\/8<T.length then some (0,8)
 else pO (errs 1 (H.map kH)) (pO (errs 0 (C.map kC)) (pO (errs (-1) (Q.map kQ)) (pO (errs 0 (T.map kT)) (some (Ap (H.map kH) (C.map kC) (Q.map kQ) (T.map kT) a b c d)))))
section
variable (H:aT) (C:aG) (Q:aJ) (T:aA) (a b c d:Int)
theorem aD7:Fit 1 (H.map kH):=λk hk=>by
 obtain ⟨x,_,rfl⟩:=List.mem_map.1 hk; simp [kH]
theorem aD8:Fit 0 (C.map kC):=λk hk=>by
 obtain ⟨x,_,rfl⟩:=List.mem_map.1 hk; simp [kC]
theorem aD6:Fit (-1) (Q.map kQ):=λk hk=>by
 obtain ⟨x,_,rfl⟩:=List.mem_map.1 hk; simp [kQ]
theorem aD5:Fit 0 (T.map kT):=λk hk=>by
 obtain ⟨x,_,rfl⟩:=List.mem_map.1 hk; simp [kT]
theorem p14 (h1:H.length<=10000) (h2:C.length<=10000) (h3:Q.length<=10000) (h4:T.length<=10000):r80 H C Q T a b c d=FV H C Q T a b c d:=by
 unfold r80 FV
 rw [aCA H C Q T a b c d h1 h2 h3 h4,Option.bind_some]
 simp only [List.length_map]
 by_cases g1:8<H.length
 ·rw [if_pos (by simp; omega),if_pos (.inl g1)]
 rw [if_neg (by simp; omega)]
 by_cases g2:8<C.length
 ·rw [if_pos (by simp; omega),if_pos (.inr (.inl g2))]
 rw [if_neg (by simp; omega)]
 by_cases g3:8<Q.length
 ·rw [if_pos (by simp; omega),if_pos (.inr (.inr (.inl g3)))]
 rw [if_neg (by simp; omega)]
 by_cases g4:8<T.length
 ·rw [if_pos (by simp; omega),if_pos (.inr (.inr (.inr g4)))]
 rw [if_neg (by simp; omega),if_neg (by omega)]
 exact aw3 a b c d (by simp; omega) (by simp; omega) (by simp; omega) (by simp; omega) (aD7 H) (aD8 C) (aD6 Q) (aD5 T)
end
variable {i:Nat}
theorem jF {α β:Type} [Inhabited α] [Inhabited β] (l:List α) (g:α->β) (h:i<l.length):(l.map g).getD i default=g (l.getD i default):=by
 rw [List.getD_eq_getElem?_getD,List.getElem?_map,List.getElem?_eq_getElem h,List.getD_eq_getElem?_getD,List.getElem?_eq_getElem h]; rfl
def mJ (L:List Kn) (i:Nat):Int:=if i=0 then -1 else (L.getD (i - 1) default).1
def JD (L:List Kn) (i:Nat):Int×Int:=(mJ L i,(i:Int))
theorem agm (dir:Int) (L:List Kn) (i:Nat) (ord:Bool) (h1:i=0->ord=true)
 (h2:i≠0->ord=(decide (dir=0) || (decide (dir*((L.getD (i - 1) default).2.1.getD 0 default).1<=dir*((L.getD i default).2.1.getD 0 default).1) && decide (dir*((L.getD (i - 1) default).2.1.getD 0 default).2<=dir*((L.getD i default).2.1.getD 0 default).2)))) :
 (if Qp (L.getD i default)=0 then (if decide ((L.getD i default).1<=mJ L i) || !ord then 9 else 0) else Qp (L.getD i default))=jM dir L i:=by
 unfold jM knE
 by_cases hk:Qp (L.getD i default)=0
 ·rw [if_pos hk,if_pos hk]
  by_cases hi:i=0
  ·have v:=(nR hk).1.1
   unfold mJ
   rw [h1 hi,if_pos hi,if_pos hi]
   have:¬ (L.getD i default).1<= -1:=by omega
   simp only [this,decide_false,Bool.not_true,Bool.or_false,Bool.false_eq_true,if_false]
  unfold mJ
  rw [if_neg hi,if_neg hi,h2 hi]
  show _=if aaG dir (L.getD i default) (L.getD (i - 1) default)=true then 0 else 9
  unfold aaG
  generalize (decide (dir=0) || _)=z
  by_cases hl:(L.getD (i - 1) default).1<(L.getD i default).1
  ·have:¬ (L.getD i default).1<=(L.getD (i - 1) default).1:=by omega
   cases z<;>simp only [hl,this,decide_true,decide_false,Bool.true_and,Bool.false_or,Bool.not_true,Bool.not_false,if_true,if_false,Bool.false_eq_true]
  have:(L.getD i default).1<=(L.getD (i - 1) default).1:=by omega
  cases z<;>simp only [hl,this,decide_true,decide_false,Bool.false_and,Bool.true_or,if_true,if_false,Bool.false_eq_true]
 rw [if_neg hk,if_neg hk]
theorem AO {σ:Type} (v:Int) (i:Nat) (nx nx':σ) (h:nx=nx') :
 (aW (some v) λu=>if (u != 0)=true then eY.out (some ((i:Int),u)) else (.next nx:eY σ (Int×Int)))=if v=0 then .next nx' else .out (some ((i:Int),v)):=by
 subst h
 show (if (v != 0)=true then _ else _)=_
 by_cases h:v=0
 ·rw [if_neg (by simp [h]),if_pos h]
 rw [if_pos (by simpa using h),if_neg h]
theorem wPz (h:i<1000000000) (h0:i≠0):IntKind.i64.wrap ((i:Int) - 1)=((i - 1:Nat):Int):=by
 rw [wI (by omega) (by omega)]; omega
theorem gP {n:Nat} (hi:i<n) (hn:n<1000000000):(!((i:Int) == 0))=true->0<=IntKind.i64.wrap ((i:Int) - 1)/\IntKind.i64.wrap ((i:Int) - 1)<(n:Int):=λh=>by
 have h0:i≠0:=by rintro rfl; simp at h
 rw [wPz (by omega) h0]; omega
section
variable (H:aT) (C:aG) (Q:aJ) (T:aA) (a b c d:Int)
theorem nextR {α:Type} [Inhabited α] (l:List α) (g:α->Kn) (hi:i<l.length) (hl:l.length<1000000000) (z:Int) (hz:(g (l.getD i default)).1=z):(z,IntKind.i64.wrap ((i:Int)+1))=JD (l.map g) (i+1):=by
 unfold JD mJ
 rw [if_neg (by omega),wS i (by omega),show i+1 - 1=i by omega,jF l g hi,hz]
 rfl
theorem aj8:((rJ a 0 2000).bind λv18=>
 if (!v18)=true then
  some ((0:Int),(2:Int))
  else (rJ b 0 2000).bind λv19=>
   if (!v19)=true then
    some (0,2)
    else (rJ c 0 2000).bind λv20=>
     if (!v20)=true then
      some (0,2)
      else (rJ d 0 2000).bind λv21=>
       if (!v21)=true then
        some (0,2)
        else if (decide (b<a))=true then
         some (0,9)
         else if (decide (c<b))=true then
          some (0,9)
          else if (decide (d<c))=true then
           some (0,9)
           else some (0,0))=some (0,Qy a b c d):=by
 simp only [p29,Option.bind_some]
 unfold Qy
 by_cases g1:dn a 0 2000=true
 ·by_cases g2:dn b 0 2000=true
  ·by_cases g3:dn c 0 2000=true
   ·by_cases g4:dn d 0 2000=true
    ·by_cases g5:b<a
     ·have:¬ a<=b:=by omega
      simp [g1,g2,g3,g4,g5,this]
     have h5:a<=b:=by omega
     by_cases g6:c<b
     ·have:¬ b<=c:=by omega
      simp [g1,g2,g3,g4,g5,g6,this]
     have h6:b<=c:=by omega
     by_cases g7:d<c
     ·have:¬ c<=d:=by omega
      simp [g1,g2,g3,g4,g5,g6,g7,this]
     have h7:c<=d:=by omega
     simp [g1,g2,g3,g4,g5,g6,g7,h5,h6,h7]
    simp [g1,g2,g3,g4]
   simp [g1,g2,g3]
  simp [g1,g2]
 simp [g1]
theorem abz (hT:T.length<=8) (s2 s3:Int×Int) (x y z:Int) (e2:s2.1=x) (e3:s3.1=y) (fin:Int×Int)
 (hfin:(if (decide ((H.length:Int)>0))=true->0<=0/\0<(H.length:Int) then
  if ((decide ((H.length:Int)>0)) && (decide ((if (if x<y then y else x)<mJ (T.map kT) T.length then mJ (T.map kT) T.length else (if x<y then y else x))>=((H.getD 0 default).1))))=true then some ((0:Int),(13:Int)) else some (0,Qy a b c d) else none)=some fin) :
 aK (CU H T a b c d s2 s3) 1000000000 ((-1),0)=pO (errs 0 (T.map kT)) (some fin):=by
 subst e2; subst e3
 have hl:T.length<1000000000:=by omega
 have h:=lV T.length (CU H T a b c d s2 s3) (JD (T.map kT)) (jM 0 (T.map kT)) (some fin) hl (λi hi h0=>by
  have hm:=jF T kT hi
  have hr:=agm 0 (T.map kT) i true (λ_=>rfl) (λ_=>by simp)
  have hp:=p70 (kT (T.getD i default)) (mJ (T.map kT) i) true (by simp [kT])
  refine (if_pos (kK hi)).trans ((if_pos (iK hi)).trans ((if_pos (iK hi)).trans ?_))
  have e:D7 ((T.getD (i:Int).toNat default).1) (mJ (T.map kT) i) [] ((T.getD (i:Int).toNat default).2) true=some (jM 0 (T.map kT) i):=by
   rw [<- hr,hm]; exact hp
  show (aW (D7 ((T.getD (i:Int).toNat default).1) (mJ (T.map kT) i) [] ((T.getD (i:Int).toNat default).2) true) _)=_
  rw [e, <- AO (jM 0 (T.map kT) i) i (((T.getD (i:Int).toNat default).1),IntKind.i64.wrap ((i:Int)+1)) (JD (T.map kT) (i+1)) (nextR T kT hi hl _ rfl)]
  congr 1
  funext u
  congr 1
  exact if_pos (iK hi)) (λ_=>by
  refine (if_neg (by simp [JD])).trans ?_
  congr 1
  rw [<- hfin,aj8]
  rfl)
 simpa [JD,mJ,errs] using h
end
variable {i:Nat}
theorem zI (h:i≠0):((i:Int) == 0)=false:=by simpa using h
theorem aC6 (Q:aJ) (hi:i<Q.length) (hl:Q.length<1000000000) (h0:i≠0) :
 (((i:Int) == 0) || ((decide (((Q.getD (i:Int).toNat default).2.1)<=((Q.getD (IntKind.i64.wrap ((i:Int) - 1)).toNat default).2.1))) && (decide (((Q.getD (i:Int).toNat default).2.2)<=((Q.getD (IntKind.i64.wrap ((i:Int) - 1)).toNat default).2.2)))))=
 (decide ((-1:Int)=0) || (decide (-1*((((Q.map kQ).getD (i - 1) default).2.1.getD 0 default).1)<= -1*((((Q.map kQ).getD i default).2.1.getD 0 default).1)) && decide (-1*((((Q.map kQ).getD (i - 1) default).2.1.getD 0 default).2)<= -1*((((Q.map kQ).getD i default).2.1.getD 0 default).2)))):=by
 rw [wPz (by omega) h0,Int.toNat_natCast,Int.toNat_natCast,jF Q kQ hi,jF Q kQ (show i - 1<Q.length by omega),zI h0]
 show (false || (_ && _))=(false || (decide (-1*(Q.getD (i - 1) default).2.1<= -1*(Q.getD i default).2.1) && decide (-1*(Q.getD (i - 1) default).2.2<= -1*(Q.getD i default).2.2)))
 congr 2
 ·exact decide_eq_decide.2 (by omega)
 exact decide_eq_decide.2 (by omega)
theorem aC7 (H:aT) (hi:i<H.length) (hl:H.length<1000000000) (h0:i≠0) :
 (((i:Int) == 0) || ((decide (((H.getD (i:Int).toNat default).2.1)>=((H.getD (IntKind.i64.wrap ((i:Int) - 1)).toNat default).2.1))) && (decide (((H.getD (i:Int).toNat default).2.2.1)>=((H.getD (IntKind.i64.wrap ((i:Int) - 1)).toNat default).2.2.1)))))=
 (decide ((1:Int)=0) || (decide (1*((((H.map kH).getD (i - 1) default).2.1.getD 0 default).1)<=1*((((H.map kH).getD i default).2.1.getD 0 default).1)) && decide (1*((((H.map kH).getD (i - 1) default).2.1.getD 0 default).2)<=1*((((H.map kH).getD i default).2.1.getD 0 default).2)))):=by
 rw [wPz (by omega) h0,Int.toNat_natCast,Int.toNat_natCast,jF H kH hi,jF H kH (show i - 1<H.length by omega),zI h0]
 show (false || (_ && _))=(false || (decide (1*(H.getD (i - 1) default).2.1<=1*(H.getD i default).2.1) && decide (1*(H.getD (i - 1) default).2.2.1<=1*(H.getD i default).2.2.1)))
 congr 2
 ·exact decide_eq_decide.2 (by omega)
 exact decide_eq_decide.2 (by omega)
theorem gP2 {n:Nat} (hi:i<n) (hn:n<1000000000) (z:Bool):((!((i:Int) == 0)) && z)=true->0<=IntKind.i64.wrap ((i:Int) - 1)/\IntKind.i64.wrap ((i:Int) - 1)<(n:Int):=λh=>gP hi hn (by
 cases h1:(!((i:Int) == 0)) with
 | true=>rfl
 | false=>rw [h1] at h; exact h)
section
variable (H:aT) (C:aG) (Q:aJ) (T:aA) (a b c d:Int)
theorem aCk (hQ:Q.length<=8) (s2:Int×Int) (G:Option (Int×Int)) (hG:aK (CU H T a b c d s2 (JD (Q.map kQ) Q.length)) 1000000000 ((-1),0)=G) :
 aK (CW H Q T a b c d s2) 1000000000 ((-1),0)=pO (errs (-1) (Q.map kQ)) G:=by
 have hl:Q.length<1000000000:=by omega
 have h:=lV Q.length (CW H Q T a b c d s2) (JD (Q.map kQ)) (jM (-1) (Q.map kQ)) G hl (λi hi h0=>by
  have hm:=jF Q kQ hi
  have hr:=agm (-1) (Q.map kQ) i _ (λhi0=>by subst hi0; rfl) (λhi0=>aC6 Q hi hl hi0)
  have hp:=p70 (kQ (Q.getD i default)) (mJ (Q.map kQ) i) (((i:Int) == 0) || ((decide (((Q.getD (i:Int).toNat default).2.1)<=((Q.getD (IntKind.i64.wrap ((i:Int) - 1)).toNat default).2.1))) && (decide (((Q.getD (i:Int).toNat default).2.2)<=((Q.getD (IntKind.i64.wrap ((i:Int) - 1)).toNat default).2.2))))) (by simp [kQ])
  rw [<- hm,hr] at hp
  refine (if_pos (kK hi)).trans ((if_pos (iK hi)).trans ((if_pos (gP hi hl)).trans ((if_pos (gP2 hi hl _)).trans ?_)))
  rw [<- AO (jM (-1) (Q.map kQ) i) i (((Q.getD (i:Int).toNat default).1),IntKind.i64.wrap ((i:Int)+1)) (JD (Q.map kQ) (i+1)) (nextR Q kQ hi hl _ rfl), <- hp,hm]
  rfl) (λ_=>by
  refine (if_neg (by simp [JD])).trans ?_
  rw [hG])
 simpa [JD,mJ,errs] using h
theorem aCl (hC:C.length<=8) (G:Option (Int×Int)) (hG:aK (CW H Q T a b c d (JD (C.map kC) C.length)) 1000000000 ((-1),0)=G) :
 aK (CX H C Q T a b c d) 1000000000 ((-1),0)=pO (errs 0 (C.map kC)) G:=by
 have hl:C.length<1000000000:=by omega
 have h:=lV C.length (CX H C Q T a b c d) (JD (C.map kC)) (jM 0 (C.map kC)) G hl (λi hi h0=>by
  have hm:=jF C kC hi
  have hr:=agm 0 (C.map kC) i true (λ_=>rfl) (λ_=>by simp)
  have hp:=p70 (kC (C.getD i default)) (mJ (C.map kC) i) true (by simp [kC])
  rw [<- hm,hr] at hp
  refine (if_pos (kK hi)).trans ((if_pos (iK hi)).trans ((if_pos (iK hi)).trans ((if_pos (iK hi)).trans ?_)))
  rw [<- AO (jM 0 (C.map kC) i) i (((C.getD (i:Int).toNat default).1),IntKind.i64.wrap ((i:Int)+1)) (JD (C.map kC) (i+1)) (nextR C kC hi hl _ rfl), <- hp,hm]
  show (aW (D7 ((C.getD i default).1) _ _ _ _) _)=(aW (D7 ((C.getD i default).1) _ _ _ _) _)
  congr 1
  funext u
  congr 1
  exact if_pos (iK hi)) (λ_=>by
  refine (if_neg (by simp [JD])).trans ?_
  rw [hG])
 simpa [JD,mJ,errs] using h
theorem aCm (hH:H.length<=8) (G:Option (Int×Int)) (hG:aK (CX H C Q T a b c d) 1000000000 ((-1),0)=G) :
 aK (Iz H C Q T a b c d) 1000000000 ((-1),0)=pO (errs 1 (H.map kH)) G:=by
 have hl:H.length<1000000000:=by omega
 have h:=lV H.length (Iz H C Q T a b c d) (JD (H.map kH)) (jM 1 (H.map kH)) G hl (λi hi h0=>by
  have hm:=jF H kH hi
  have hr:=agm 1 (H.map kH) i _ (λhi0=>by subst hi0; rfl) (λhi0=>aC7 H hi hl hi0)
  have hp:=p70 (kH (H.getD i default)) (mJ (H.map kH) i) (((i:Int) == 0) || ((decide (((H.getD (i:Int).toNat default).2.1)>=((H.getD (IntKind.i64.wrap ((i:Int) - 1)).toNat default).2.1))) && (decide (((H.getD (i:Int).toNat default).2.2.1)>=((H.getD (IntKind.i64.wrap ((i:Int) - 1)).toNat default).2.2.1))))) (by simp [kH])
  rw [<- hm,hr] at hp
  refine (if_pos (kK hi)).trans ((if_pos (iK hi)).trans ((if_pos (gP hi hl)).trans ((if_pos (gP2 hi hl _)).trans ?_)))
  rw [<- AO (jM 1 (H.map kH) i) i (((H.getD (i:Int).toNat default).1),IntKind.i64.wrap ((i:Int)+1)) (JD (H.map kH) (i+1)) (nextR H kH hi hl _ rfl), <- hp,hm]
  rfl) (λ_=>by
  refine (if_neg (by simp [JD])).trans ?_
  rw [hG])
 simpa [JD,mJ,errs] using h
theorem Bq {ρ:Type} {s:Option ρ} {x y:Option ρ} (h:s=none->x=y):pO s x=pO s y:=by
 cases s with
 | none=>exact h rfl
 | some v=>rfl
theorem su {dir:Int} {L:List Kn} (h:errs dir L=none):∀ i,i<L.length->jM dir L i=0:=by
 have key:∀ (k i:Nat),qO (λi=>if jM dir L i=0 then none else some ((i:Int),jM dir L i)) i k=none->∀ j,i<=j->j<i+k->jM dir L j=0:=by
  intro k
  induction k with
  | zero=>intro i _ j h1 h2; omega
  | succ k ih=>
   intro i h j h1 h2
   simp only [qO] at h
   by_cases he:jM dir L i=0
   ·rw [if_pos he] at h
    by_cases e:j=i
    ·subst e; exact he
    exact ih (i+1) h j (by omega) (by omega)
   rw [if_neg he] at h; cases h
 intro i hi
 exact key L.length 0 h i (by omega) (by omega)
theorem yP {X:List Kn} {h:Int} (hh:1<=h):nI X h=decide (h<=mJ X X.length):=by
 unfold nI mJ
 by_cases hx:X.length=0
 ·have:¬ h<= -1:=by omega
  simp [hx,this]
 have:0<X.length:=by omega
 simp [hx,this]
theorem amf (x y z h:Int) (A B:Int×Int):(if (decide ((if (if x<y then y else x)<z then z else (if x<y then y else x))>=h))=true then some A else some B)=some (if (decide (h<=x) || decide (h<=y) || decide (h<=z))=true then A else B):=by
 by_cases hc:h<=x\/h<=y\/h<=z
 ·rw [if_pos (by simp only [decide_eq_true_eq,ge_iff_le]; repeat (first | split | omega)),if_pos (by simp only [Bool.or_eq_true,decide_eq_true_eq]; omega)]
 rw [if_neg (by simp only [decide_eq_true_eq,ge_iff_le]; repeat (first | split | omega)),if_neg (by simp only [Bool.or_eq_true,decide_eq_true_eq]; omega)]
theorem p16:acf H C Q T a b c d=FV H C Q T a b c d:=by
 unfold acf FV
 by_cases g:8<H.length\/8<C.length\/8<Q.length\/8<T.length
 ·rw [if_pos g,if_pos (by simp only [Bool.or_eq_true,decide_eq_true_eq]; omega)]
 rw [if_neg g,if_neg (by simp only [Bool.or_eq_true,decide_eq_true_eq]; omega)]
 rw [aCm H C Q T a b c d (by omega) _ (aCl H C Q T a b c d (by omega) _ (aCk H Q T a b c d (by omega) _ _ rfl))]
 refine Bq λnH=>Bq λnC=>Bq λnQ=> ?_
 refine abz H T a b c d (by omega) _ _ _ _ 0 rfl rfl _ ?_
 unfold Ap
 by_cases hp:0<H.length
 ·have e1:(decide ((H.length:Int)>0))=true:=by simpa using hp
  have hh:=(nR (NS (su nH 0 (by simpa using hp)))).1.1
  have hm:=jF H kH hp
  rw [e1,if_pos (λ_=>⟨by decide,by omega⟩),yP hh,yP hh,yP hh,hm]
  simp only [List.length_map,hp,decide_true,Bool.true_and]
  exact amf _ _ _ _ _ _
 have e1:(decide ((H.length:Int)>0))=false:=decide_eq_false (by omega)
 rw [e1,if_pos (λh=>by cases h),List.length_map]
 simp [hp]
end
def Sj (n:Int):Bool:=dn n 0 1000000
def af9 (p a b m w g t:Int):Int:=
 if Sj p && Sj a && Sj b && Sj m && Sj w && dn g 0 100000 && dn t 0 1000000 then (if p+a+b+m=1000000 then 0 else 3) else 2
theorem aCy (a:Int):jr a=some (Sj a):=rfl
theorem abb {p a b m:Int} (h1:Sj p=true) (h2:Sj a=true) (h3:Sj b=true) (h4:Sj m=true) :
 IntKind.i64.wrap (IntKind.i64.wrap (IntKind.i64.wrap (p+a)+b)+m)=p+a+b+m:=by
 have g1:=dA.1 h1
 have g2:=dA.1 h2
 have g3:=dA.1 h3
 have g4:=dA.1 h4
 rw [wI (a:=p+a) (by omega) (by omega),wI (a:=p+a+b) (by omega) (by omega),wI (by omega) (by omega)]
theorem p17 (p a b m w g t:Int):acp p a b m w g t=some (af9 p a b m w g t):=by
 unfold acp af9
 simp only [aCy,p66,Option.bind_some,Option.isSome_some,implies_true,if_true,Option.getD_some]
 by_cases h:(Sj p && Sj a && Sj b && Sj m && Sj w && dn g 0 100000 && dn t 0 1000000)=true
 ·refine (if_neg (by rw [h]; decide)).trans ?_
  rw [if_pos h]
  simp only [Bool.and_eq_true] at h
  rw [abb h.1.1.1.1.1.1 h.1.1.1.1.1.2 h.1.1.1.1.2 h.1.1.1.2,p68,Option.bind_some]
  unfold bG
  by_cases hs:p+a+b+m=1000000<;>simp [hs]
 refine (if_pos (by rw [Bool.not_eq_true] at h; rw [h]; rfl)).trans ?_
 rw [if_neg h]
theorem p15 {H:aT} {C:aG} {Q:aJ} {T:aA} (a b c d:Int) (h:H.length<=10/\C.length<=10/\Q.length<=10/\T.length<=10) :
 r46 H C Q T a b c d=some (H,C,Q,T,a,b,c,d):=by
 unfold r46
 rw [if_pos ⟨by omega,by omega⟩,if_pos ⟨by omega,by omega⟩,if_pos ⟨by omega,by omega⟩,if_pos ⟨by omega,by omega⟩]
def zN (H:aT) (C:aG) (Q:aJ) (T:aA) (a b c d:Int):Int:=((FV H C Q T a b c d).getD (0,0)).2
theorem wJ (H:aT) (C:aG) (Q:aJ) (T:aA) (a b c d:Int):∃ v,FV H C Q T a b c d=some v:=by
 unfold FV
 split
 ·exact ⟨_,rfl⟩
 cases errs 1 (H.map kH) with
 | some v=>exact ⟨_,rfl⟩
 | none=>cases errs 0 (C.map kC) with
  | some v=>exact ⟨_,rfl⟩
  | none=>cases errs (-1) (Q.map kQ) with
   | some v=>exact ⟨_,rfl⟩
   | none=>cases errs 0 (T.map kT) with
    | some v=>exact ⟨_,rfl⟩
    | none=>exact ⟨_,rfl⟩
theorem aCF (H:aT) (C:aG) (Q:aJ) (T:aA) (a b c d:Int):r87 H C Q T a b c d=some (zN H C Q T a b c d):=by
 unfold r87
 rw [p16 H C Q T a b c d,zN]
 obtain ⟨v,hv⟩:=wJ H C Q T a b c d
 rw [hv]; rfl
end Go.Proofs.YtnepigpnlnmlmaaGreatDoor

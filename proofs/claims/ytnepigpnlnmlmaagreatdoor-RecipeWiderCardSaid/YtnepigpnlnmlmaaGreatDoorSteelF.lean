/- Steel: knots at a temperature, what a steel has of a range (plain). -/
import Derived.Test.YtnepigpnlnmlmaaGreatDoorF07
import Derived.Test.YtnepigpnlnmlmaaGreatDoorF08
import Derived.Test.YtnepigpnlnmlmaaGreatDoorSteelA
set_option linter.unusedVariables false
set_option linter.unusedSimpArgs false
namespace Go.Proofs.YtnepigpnlnmlmaaGreatDoor
open Go.dR
def pU {α:Type} (p:α->Bool):List α->Option α
 | []=>none
 | x::r=>match pU p r with | some y=>some y | none=>if p x then some x else none
theorem Gy {α:Type} (p:α->Bool) (x:α):∀ l:List α,pU p (l++[x])=if p x=true then some x else pU p l
 | []=>by simp [pU]
 | y::l=>by
  simp only [List.cons_append,pU,Gy p x l]
  by_cases h:p x=true<;>simp [h]
theorem lU {α:Type} {p:α->Bool} {x:α}:∀ {l:List α},pU p l=some x->x∈l/\p x=true
 | [],h=>by cases h
 | y::l,h=>by
  simp only [pU] at h
  cases hl:pU p l with
  | some z=>
   rw [hl] at h
   obtain rfl:=Option.some.inj h
   have:=lU hl
   exact ⟨by simp [this.1],this.2⟩
  | none=>
   rw [hl] at h
   by_cases hy:p y=true
   ·simp only [hy,if_true] at h
    obtain rfl:=Option.some.inj h
    exact ⟨by simp,hy⟩
   simp [hy] at h
theorem J8 {α ρ:Type} [Inhabited α] (l:List α) (B:Int->eY Int ρ) (p:α->Bool) (A:α->Option ρ) (N:Option ρ) (hl:l.length<1000000000)
 (step:∀ i:Nat,i<l.length->B i=if p (l.getD i default)=true then .out (A (l.getD i default)) else .next ((i:Int) - 1)) (stop:B (-1)= .out N) :
 aK B 1000000000 ((l.length:Int) - 1)=match pU p l with | some x=>A x | none=>N:=by
 have key:∀ (i fuel:Nat),i<=l.length->i<fuel->aK B fuel ((i:Int) - 1)=match pU p (l.take i) with | some x=>A x | none=>N:=by
  intro i
  induction i with
  | zero=>
   intro fuel _ hf
   obtain ⟨m,rfl⟩:∃ m,fuel=m+1:=⟨fuel - 1,by omega⟩
   show aK B (m+1) (-1)=_
   simp only [aK,stop,List.take_zero,pU]
  | succ i ih=>
   intro fuel hi hf
   obtain ⟨m,rfl⟩:∃ m,fuel=m+1:=⟨fuel - 1,by omega⟩
   have e:l.take (i+1)=l.take i++[l.getD i default]:=by
    rw [List.take_add_one]
    have:l[i]? =some (l.getD i default):=by rw [List.getD_eq_getElem?_getD,List.getElem?_eq_getElem (show i<l.length by omega)]; rfl
    rw [this]; rfl
   rw [e,Gy,show ((i+1:Nat):Int) - 1=(i:Int) by omega]
   simp only [aK,step i (by omega)]
   by_cases hp:p (l.getD i default)=true
   ·simp only [hp,if_true]
   simp only [if_neg hp]
   exact ih m (by omega) (by omega)
 have:=key l.length 1000000000 (Nat.le_refl _) hl
 rw [List.take_length] at this
 exact this
theorem BL {α:Type} [Inhabited α] (p:α->Bool):∀ l:List α,l.find? p=if lead (λx=> !p x) l<l.length then some (l.getD (lead (λx=> !p x) l) default) else none
 | []=>by simp [lead]
 | x::l=>by
  unfold lead
  by_cases h:p x=true
  ·simp [h]
  have:=BL p l
  simp only [h,List.find?_cons,Bool.not_false,if_true,List.length_cons,List.getD_cons_succ,this]
  by_cases g:lead (λx=> !p x) l<l.length
  ·rw [if_pos g,if_pos (by omega)]
  rw [if_neg g,if_neg (by omega)]
def qW (H:aT) (k:Int):=pU (λx=>decide (x.1<=k)) H
def oq (C:aG) (k:Int):=C.find? (λx=>decide (x.1>=k))
def eF (Q:aJ) (k:Int):=Q.find? (λx=>decide (x.1>=k))
def eu (T:aA) (k:Int):=pU (λx=>decide (x.1<=k)) T
section
variable (H:aT) (C:aG) (Q:aJ) (T:aA) (a b c d:Int)
theorem wD {i n:Nat} (h:i<n) (hn:n<1000000000):IntKind.i64.wrap ((i:Int) - 1)=(i:Int) - 1:=wI (by omega) (by omega)
theorem au1 (k:Int) (hl:H.length<1000000000):abU H C Q T a b c d k=some (qW H k):=by
 unfold abU qW
 rw [wI (by omega) (by omega)]
 have h:=J8 H (Og H k) (λx=>decide (x.1<=k)) (λx=>some (some x)) (some none) hl (λi hi=>by
  refine (if_pos (by simp)).trans ((if_pos (iK hi)).trans ((if_pos (iK hi)).trans ?_))
  rw [wD hi hl]
  show (if (decide ((H.getD i default).1<=k))=true then _ else _)=_
  by_cases g:(decide ((H.getD i default).1<=k))=true
  ·rw [if_pos g,if_pos g]; exact if_pos (iK hi)
  rw [if_neg g,if_neg g]) (if_neg (by decide))
 rw [h]
 cases pU (λx=>decide (x.1<=k)) H<;>rfl
theorem auY (k:Int) (hl:T.length<1000000000):abR H C Q T a b c d k=some (eu T k):=by
 unfold abR eu
 rw [wI (by omega) (by omega)]
 have h:=J8 T (Oe T k) (λx=>decide (x.1<=k)) (λx=>some (some x)) (some none) hl (λi hi=>by
  refine (if_pos (by simp)).trans ((if_pos (iK hi)).trans ((if_pos (iK hi)).trans ?_))
  rw [wD hi hl]
  show (if (decide ((T.getD i default).1<=k))=true then _ else _)=_
  by_cases g:(decide ((T.getD i default).1<=k))=true
  ·rw [if_pos g,if_pos g]; exact if_pos (iK hi)
  rw [if_neg g,if_neg g]) (if_neg (by decide))
 rw [h]
 cases pU (λx=>decide (x.1<=k)) T<;>rfl
theorem aCL (k:Int) (hl:C.length<1000000000):abE C k=some (if lead (λx:Int×Int×Int×Int×Int=> !decide (x.1>=k)) C<C.length then (lead (λx=> !decide (x.1>=k)) C:Int) else -1):=by
 unfold abE
 have h:=BK C (Ob C k) (λx=> !decide (x.1>=k)) (λi=>some (if i<C.length then i else -1)) hl (λi hi=>by
  refine (if_pos (kK hi)).trans ((if_pos (iK hi)).trans ?_)
  rw [wS i (by omega)]
  show (if (decide ((C.getD i default).1>=k))=true then _ else _)=_
  by_cases g:(decide ((C.getD i default).1>=k))=true
  ·rw [if_pos g,if_neg (by rw [g]; decide),if_pos (by omega)]
  rw [if_neg g,if_pos (by simpa using g)]) ((if_neg (by simp)).trans (by simp))
 rw [h]
 congr 1
 by_cases g:lead (λx:Int×Int×Int×Int×Int=> !decide (x.1>=k)) C<C.length
 ·rw [if_pos g,if_pos (by omega)]
 rw [if_neg g,if_neg (by omega)]
theorem aCK (k:Int) (hl:Q.length<1000000000):abD Q k=some (if lead (λx:Int×Int×Int=> !decide (x.1>=k)) Q<Q.length then (lead (λx=> !decide (x.1>=k)) Q:Int) else -1):=by
 unfold abD
 have h:=BK Q (Oa Q k) (λx=> !decide (x.1>=k)) (λi=>some (if i<Q.length then i else -1)) hl (λi hi=>by
  refine (if_pos (kK hi)).trans ((if_pos (iK hi)).trans ?_)
  rw [wS i (by omega)]
  show (if (decide ((Q.getD i default).1>=k))=true then _ else _)=_
  by_cases g:(decide ((Q.getD i default).1>=k))=true
  ·rw [if_pos g,if_neg (by rw [g]; decide),if_pos (by omega)]
  rw [if_neg g,if_pos (by simpa using g)]) ((if_neg (by simp)).trans (by simp))
 rw [h]
 congr 1
 by_cases g:lead (λx:Int×Int×Int=> !decide (x.1>=k)) Q<Q.length
 ·rw [if_pos g,if_pos (by omega)]
 rw [if_neg g,if_neg (by omega)]
theorem au0 (k:Int) (hl:C.length<1000000000):abT H C Q T a b c d k=some (oq C k):=by
 unfold abT oq
 rw [aCL C k hl,Option.bind_some,BL]
 by_cases g:lead (λx:Int×Int×Int×Int×Int=> !decide (x.1>=k)) C<C.length
 ·rw [if_pos g,if_pos g]
  refine (if_pos (by simp)).trans ((if_pos ⟨by omega,by omega⟩).trans ?_)
  rw [Int.toNat_natCast]
 rw [if_neg g,if_neg g]
 exact if_neg (by decide)
theorem auZ (k:Int) (hl:Q.length<1000000000):abS H C Q T a b c d k=some (eF Q k):=by
 unfold abS eF
 rw [aCK Q k hl,Option.bind_some,BL]
 by_cases g:lead (λx:Int×Int×Int=> !decide (x.1>=k)) Q<Q.length
 ·rw [if_pos g,if_pos g]
  refine (if_pos (by simp)).trans ((if_pos ⟨by omega,by omega⟩).trans ?_)
  rw [Int.toNat_natCast]
 rw [if_neg g,if_neg g]
 exact if_neg (by decide)
end
def sS (lo hi part:Int):Int:=lo+((hi - lo)*part).tdiv 1000
theorem lS {lo hi part:Int} (h1:0<=lo) (h2:lo<=hi) (h3:hi<=1000000) (h4:0<=part) (h5:part<=1000) :
 lo<=sS lo hi part/\sS lo hi part<=hi/\0<=(hi - lo)*part/\(hi - lo)*part<=(hi - lo)*1000:=by
 have a1:0<=(hi - lo)*part:=Int.mul_nonneg (by omega) h4
 have a2:(hi - lo)*part<=(hi - lo)*1000:=Int.mul_le_mul_of_nonneg_left h5 (by omega)
 unfold sS
 rw [Int.tdiv_eq_ediv_of_nonneg a1]
 generalize (hi - lo)*part=z at a1 a2
 omega
def qo (a m sh:Int):Int:=if m<((a+m)*sh).tdiv 1000000 then ((a+m)*sh).tdiv 1000000 else m
theorem jV {a m sh:Int} (h1:0<=a) (h2:0<=m) (h3:a+m<=2000000) (h4:0<=sh) (h5:sh<=1000000) :
 m<=qo a m sh/\qo a m sh<=a+m/\0<=(a+m)*sh/\(a+m)*sh<=(a+m)*1000000:=by
 have a1:0<=(a+m)*sh:=Int.mul_nonneg (by omega) h4
 have a2:(a+m)*sh<=(a+m)*1000000:=Int.mul_le_mul_of_nonneg_left h5 (by omega)
 unfold qo
 rw [Int.tdiv_eq_ediv_of_nonneg a1]
 generalize (a+m)*sh=z at a1 a2
 split<;>omega
theorem acA {a m sh:Int} (h1:0<=a) (h2:0<=m) (h3:a+m<=2000000) (h4:0<=sh) (h5:sh<=1000000):TU a m sh=some (qo a m sh):=by
 obtain ⟨b1,b2,b3,b4⟩:=jV h1 h2 h3 h4 h5
 unfold TU qo
 rw [wI (a:=a+m) (by omega) (by omega),wI (a:=(a+m)*sh) (by omega) (by omega)]
 have b5:0<=((a+m)*sh).tdiv 1000000/\((a+m)*sh).tdiv 1000000<=2000000:=by
  rw [Int.tdiv_eq_ediv_of_nonneg b3]; generalize (a+m)*sh=z at b3 b4; omega
 rw [wI (a:=((a+m)*sh).tdiv 1000000) (by omega) (by omega)]
abbrev St7:=Int×Int×Int×Int×Int×Int×Int
structure zo (H:aT) (C:aG) (Q:aJ) (T:aA):Prop where
 lH:H.length<=8
 lC:C.length<=8
 lQ:Q.length<=8
 lT:T.length<=8
 kh:∀ x∈H,(0<=x.2.1/\x.2.1<=x.2.2.1/\x.2.2.1<=1000000)/\0<=x.2.2.2/\x.2.2.2<=1000000
 kc:∀ x∈C,(0<=x.2.1/\x.2.1<=x.2.2.1/\x.2.2.1<=1000000)/\0<=x.2.2.2.1/\x.2.2.2.1<=x.2.2.2.2/\x.2.2.2.2<=1000000
 kq:∀ x∈Q,0<=x.2.1/\x.2.1<=x.2.2/\x.2.2<=1000000
 kt:∀ x∈T,0<=x.2/\x.2<=1000000
structure uq (p a b m w g t:Int):Prop where
 hp:0<=p/\p<=1000000
 ha:0<=a/\a<=1000000
 hb:0<=b/\b<=1000000
 hm:0<=m/\m<=1000000
 hw:0<=w/\w<=1000000
 hg:0<=g/\g<=100000
 ht:0<=t/\t<=1000000
 sum:p+a+b+m=1000000
def bg (n M:Int):Int:=if n<M then n else M
def awn (x:Int×Int×Int×Int) (ph p a b m g:Int):St7:=
 (p+(b+m) - bg (sS x.2.1 x.2.2.1 ph) (p+(b+m)),a+bg (sS x.2.1 x.2.2.1 ph) (p+(b+m)),0,0,0,
  (if a+bg (sS x.2.1 x.2.2.1 ph) (p+(b+m))>0 then bg (g+x.2.2.2) 100000 else g),0)
def Zz (q:Option (Int×Int×Int)) (pq A m:Int):Int:=match q with | none=>m | some x=>qo A m (sS x.2.1 x.2.2 pq)
def LM (tk:Option (Int×Int)) (t:Int):Int:=match tk with | none=>t | some y=>bg (t+y.2) 1000000
def tailV (q:Option (Int×Int×Int)) (tk:Option (Int×Int)) (pq p A B m W g t:Int):St7:=
 (p,A - (Zz q pq A m - m),B,Zz q pq A m,W,g,LM tk t)
def KH (co:Option (Int×Int×Int×Int×Int)) (q:Option (Int×Int×Int)) (tk:Option (Int×Int)) (pc pq p a b m w g t:Int):St7:=
 match co with
 | none=>tailV q tk pq p a b m w g t
 | some x=>
  if bg (w+sS x.2.1 x.2.2.1 pc) 1000000=1000000 then
   tailV q tk pq p (a - bg (sS x.2.2.2.1 x.2.2.2.2 pc) a) (b+bg (sS x.2.2.2.1 x.2.2.2.2 pc) a) m (bg (w+sS x.2.1 x.2.2.1 pc) 1000000) g t
  else tailV q tk pq p a b m (bg (w+sS x.2.1 x.2.2.1 pc) 1000000) g t
def ni (H:aT) (C:aG) (Q:aJ) (T:aA) (k ph pc pq p a b m w g t:Int):St7:=
 match qW H k with
 | some x=>awn x ph p a b m g
 | none=>KH (oq C k) (eF Q k) (eu T k) pc pq p a b m w g t
section
variable (H:aT) (C:aG) (Q:aJ) (T:aA) (a b c d:Int)
end
variable {v:Int×Int}
theorem Ep {dir:Int} {L:List Kn} (h:errs dir L=some v):v.2≠0:=by
 have key:∀ (k i:Nat),qO (λi=>if jM dir L i=0 then none else some ((i:Int),jM dir L i)) i k=some v->v.2≠0:=by
  intro k
  induction k with
  | zero=>intro i h; cases h
  | succ k ih=>
   intro i h
   simp only [qO] at h
   by_cases he:jM dir L i=0
   ·rw [if_pos he] at h; exact ih (i+1) h
   rw [if_neg he] at h
   obtain rfl:=Option.some.inj h
   exact he
 exact key L.length 0 h
structure DR (H:aT) (C:aG) (Q:aJ) (T:aA) (a b c d:Int):Prop extends zo H C Q T where
 eH:∀ i,i<H.length->jM 1 (H.map kH) i=0
 eC:∀ i,i<C.length->jM 0 (C.map kC) i=0
 eQ:∀ i,i<Q.length->jM (-1) (Q.map kQ) i=0
 eT:∀ i,i<T.length->jM 0 (T.map kT) i=0
 cl:H=[]\/(nI (C.map kC) (H.getD 0 default).1=false/\nI (Q.map kQ) (H.getD 0 default).1=false/\nI (T.map kT) (H.getD 0 default).1=false)
 ha:0<=a
 hab:a<=b
 hbc:b<=c
 hcd:c<=d
 hd:d<=2000
theorem map_ok {α:Type} [Inhabited α] {l:List α} {g:α->Kn} {dir:Int} (h:∀ i,i<l.length->jM dir (l.map g) i=0):∀ x∈l,Qp (g x)=0:=λx hx=>by
 obtain ⟨i,hi,rfl⟩:=List.mem_iff_getElem.1 hx
 have:=NS (h i hi)
 rw [jF l g hi] at this
 have e:l.getD i default=l[i]:=by rw [List.getD_eq_getElem?_getD,List.getElem?_eq_getElem hi]; rfl
 rw [e] at this
 exact this
section
variable {H:aT} {C:aG} {Q:aJ} {T:aA} {a b c d:Int}
theorem abr (h:FV H C Q T a b c d=some v) (h0:v.2=0):DR H C Q T a b c d:=by
 unfold FV at h
 split at h
 ·obtain rfl:=Option.some.inj h; exact absurd h0 (by decide)
 rename_i hl
 cases e1:errs 1 (H.map kH) with
 | some u=>rw [e1] at h; obtain rfl:=Option.some.inj h; exact absurd h0 (Ep e1)
 | none=>cases e2:errs 0 (C.map kC) with
  | some u=>rw [e1,e2] at h; obtain rfl:=Option.some.inj h; exact absurd h0 (Ep e2)
  | none=>cases e3:errs (-1) (Q.map kQ) with
   | some u=>rw [e1,e2,e3] at h; obtain rfl:=Option.some.inj h; exact absurd h0 (Ep e3)
   | none=>cases e4:errs 0 (T.map kT) with
    | some u=>rw [e1,e2,e3,e4] at h; obtain rfl:=Option.some.inj h; exact absurd h0 (Ep e4)
    | none=>
     rw [e1,e2,e3,e4] at h
     obtain rfl:=Option.some.inj h
     have z1:=λi hi=>su e1 i (by rw [List.length_map]; exact hi)
     have z2:=λi hi=>su e2 i (by rw [List.length_map]; exact hi)
     have z3:=λi hi=>su e3 i (by rw [List.length_map]; exact hi)
     have z4:=λi hi=>su e4 i (by rw [List.length_map]; exact hi)
     have m1:=map_ok z1
     have m2:=map_ok z2
     have m3:=map_ok z3
     have m4:=map_ok z4
     unfold Ap at h0
     split at h0
     ·exact absurd h0 (by decide)
     rename_i hcl
     have hh:Qy a b c d=0:=h0
     unfold Qy at hh
     split at hh
     ·rename_i hr
      split at hh
      ·rename_i ho
       simp only [Bool.and_eq_true,decide_eq_true_eq] at hr ho
       have r1:=dA.1 hr.1.1.1
       have r4:=dA.1 hr.2
       refine ⟨⟨by omega,by omega,by omega,by omega,λx hx=> ?_,λx hx=> ?_,λx hx=> ?_,λx hx=> ?_⟩,z1,z2,z3,z4,?_,r1.1,ho.1.1,ho.1.2,ho.2,r4.2⟩
       ·obtain ⟨_,s,o,r⟩:=nR (m1 x hx)
        have s1:=rF.1 (s (x.2.1,x.2.2.1) (by simp [kH]))
        have r1:x.2.1<=x.2.2.1:=by have:=r (x.2.1,x.2.2.1) (by simp [kH]); simpa [l9] using this
        exact ⟨⟨s1.1.1,r1,s1.2.2⟩,o⟩
       ·obtain ⟨_,s,o,r⟩:=nR (m2 x hx)
        have s1:=rF.1 (s (x.2.1,x.2.2.1) (by simp [kC]))
        have r1:x.2.1<=x.2.2.1:=by have:=r (x.2.1,x.2.2.1) (by simp [kC]); simpa [l9] using this
        have s2:=rF.1 (s (x.2.2.2.1,x.2.2.2.2) (by simp [kC]))
        have r2:x.2.2.2.1<=x.2.2.2.2:=by have:=r (x.2.2.2.1,x.2.2.2.2) (by simp [kC]); simpa [l9] using this
        exact ⟨⟨s1.1.1,r1,s1.2.2⟩,s2.1.1,r2,s2.2.2⟩
       ·obtain ⟨_,s,o,r⟩:=nR (m3 x hx)
        have s1:=rF.1 (s (x.2.1,x.2.2) (by simp [kQ]))
        have r1:x.2.1<=x.2.2:=by have:=r (x.2.1,x.2.2) (by simp [kQ]); simpa [l9] using this
        exact ⟨s1.1.1,r1,s1.2.2⟩
       ·obtain ⟨_,s,o,r⟩:=nR (m4 x hx)
        exact o
       by_cases hH:H=[]
       ·exact .inl hH
       have hp:0<H.length:=List.length_pos_iff.2 hH
       have hm:=jF H kH hp
       rw [hm,List.length_map] at hcl
       have hk:(kH (H.getD 0 default)).1=(H.getD 0 default).1:=rfl
       rw [hk] at hcl
       simp only [hp,decide_true,Bool.true_and,Bool.or_eq_true,not_or,Bool.not_eq_true] at hcl
       exact .inr ⟨hcl.1.1,hcl.1.2,hcl.2⟩
      exact absurd hh (by decide)
     exact absurd hh (by decide)
theorem p73 (h:H.length<=10/\C.length<=10/\Q.length<=10/\T.length<=10) (hv:FV H C Q T a b c d=some v):acr H C Q T a b c d=some v.2:=by
 unfold acr
 rw [p14 H C Q T a b c d (by omega) (by omega) (by omega) (by omega),hv]; rfl
theorem af8 {p s e m w g t:Int} (h:uq p s e m w g t):af9 p s e m w g t=0:=by
 unfold af9 Sj
 rw [dA.2 h.hp,dA.2 h.ha,dA.2 h.hb,dA.2 h.hm,dA.2 h.hw,dA.2 h.hg,dA.2 h.ht,if_pos h.sum]; rfl
def StO (s:St7):Prop:=uq s.1 s.2.1 s.2.2.1 s.2.2.2.1 s.2.2.2.2.1 s.2.2.2.2.2.1 s.2.2.2.2.2.2
theorem LP {q:Option (Int×Int×Int)} {tk:Option (Int×Int)} {pq p A B m W g t:Int} (hq:∀ x,q=some x->0<=x.2.1/\x.2.1<=x.2.2/\x.2.2<=1000000) (ht:∀ y,tk=some y->0<=y.2/\y.2<=1000000)
 (hp:0<=pq/\pq<=1000) (st:uq p A B m W g t) :
 StO (tailV q tk pq p A B m W g t)/\(tailV q tk pq p A B m W g t).1=p/\m<=(tailV q tk pq p A B m W g t).2.2.2.1/\(tailV q tk pq p A B m W g t).2.2.1=B/\(tailV q tk pq p A B m W g t).2.2.2.2.2.1=g/\t<=(tailV q tk pq p A B m W g t).2.2.2.2.2.2:=by
 have hm:m<=Zz q pq A m/\Zz q pq A m<=A+m:=by
  cases q with
  | none=>have:=st.ha; simp only [Zz]; omega
  | some x=>
   have hx:=hq x rfl
   obtain ⟨b1,b2,_,_⟩:=lS hx.1 hx.2.1 hx.2.2 hp.1 hp.2
   have a1:=st.ha; have a2:=st.hm; have a3:=st.hp; have a4:=st.hb; have a5:=st.sum
   obtain ⟨c1,c2,_,_⟩:=jV a1.1 a2.1 (show A+m<=2000000 by omega) (show 0<=sS x.2.1 x.2.2 pq by omega) (by omega)
   exact ⟨c1,c2⟩
 have htm:t<=LM tk t/\LM tk t<=1000000:=by
  have h1:=st.ht
  cases tk with
  | none=>simp only [LM]; omega
  | some y=>
   have hy:=ht y rfl
   simp only [LM,bg]; split<;>omega
 unfold tailV
 have a1:=st.ha; have a2:=st.hm; have a3:=st.hp; have a4:=st.hb; have a5:=st.sum; have a6:=st.ht
 generalize Zz q pq A m=M at hm
 generalize LM tk t=Z at htm
 exact ⟨⟨st.hp,(⟨by omega,by omega⟩:0<=A - (M - m)/\A - (M - m)<=1000000),st.hb,(⟨by omega,by omega⟩:0<=M/\M<=1000000),st.hw,st.hg,(⟨by omega,by omega⟩:0<=Z/\Z<=1000000),(by omega:p+(A - (M - m))+B+M=1000000)⟩,rfl,hm.1,rfl,rfl,htm.1⟩
theorem step_ok (ok:zo H C Q T) {k ph pc pq p s e m w g t:Int} (hph:0<=ph/\ph<=1000) (hpc:0<=pc/\pc<=1000) (hpq:0<=pq/\pq<=1000) (st:uq p s e m w g t) :
 StO (ni H C Q T k ph pc pq p s e m w g t)/\
 (qW H k≠none->s<=(ni H C Q T k ph pc pq p s e m w g t).2.1/\(ni H C Q T k ph pc pq p s e m w g t).2.2.1=0/\(ni H C Q T k ph pc pq p s e m w g t).2.2.2.1=0/\g<=(ni H C Q T k ph pc pq p s e m w g t).2.2.2.2.2.1)/\
 (qW H k=none->(ni H C Q T k ph pc pq p s e m w g t).1=p/\m<=(ni H C Q T k ph pc pq p s e m w g t).2.2.2.1/\e<=(ni H C Q T k ph pc pq p s e m w g t).2.2.1/\(ni H C Q T k ph pc pq p s e m w g t).2.2.2.2.2.1=g/\t<=(ni H C Q T k ph pc pq p s e m w g t).2.2.2.2.2.2):=by
 obtain ⟨sp,sa,sb,sm,sw,sg,stt,uU⟩:=st
 unfold ni
 cases hh:qW H k with
 | some x=>
  have hx:=ok.kh x (lU hh).1
  obtain ⟨b1,b2,_,_⟩:=lS hx.1.1 hx.1.2.1 hx.1.2.2 hph.1 hph.2
  have hf:0<=bg (sS x.2.1 x.2.2.1 ph) (p+(e+m))/\bg (sS x.2.1 x.2.2.1 ph) (p+(e+m))<=p+(e+m):=by unfold bg; split<;>omega
  simp only [awn]
  generalize bg (sS x.2.1 x.2.2.1 ph) (p+(e+m))=F at hf
  have hg:g<=(if s+F>0 then bg (g+x.2.2.2) 100000 else g)/\(if s+F>0 then bg (g+x.2.2.2) 100000 else g)<=100000:=by
   split
   ·unfold bg; split<;>omega
   omega
  generalize (if s+F>0 then bg (g+x.2.2.2) 100000 else g)=G at hg
  refine ⟨⟨(⟨by omega,by omega⟩:0<=p+(e+m) - F/\p+(e+m) - F<=1000000),(⟨by omega,by omega⟩:0<=s+F/\s+F<=1000000),(⟨by decide,by decide⟩:(0:Int)<=0/\(0:Int)<=1000000),(⟨by decide,by decide⟩:(0:Int)<=0/\(0:Int)<=1000000),(⟨by decide,by decide⟩:(0:Int)<=0/\(0:Int)<=1000000),(⟨by omega,by omega⟩:0<=G/\G<=100000),(⟨by decide,by decide⟩:(0:Int)<=0/\(0:Int)<=1000000),(by omega:p+(e+m) - F+(s+F)+0+0=1000000)⟩,λ_=>⟨(by omega:s<=s+F),trivial,trivial,hg.1⟩,λh=>by cases h⟩
 | none=>
  have hq:∀ x,eF Q k=some x->0<=x.2.1/\x.2.1<=x.2.2/\x.2.2<=1000000:=λx hx=>ok.kq x (List.mem_of_find?_eq_some hx)
  have ht:∀ y,eu T k=some y->0<=y.2/\y.2<=1000000:=λy hy=>ok.kt y (lU hy).1
  have done:∀ A B W:Int,uq p A B m W g t->e<=B->StO (tailV (eF Q k) (eu T k) pq p A B m W g t)/\(none≠(none:Option (Int×Int×Int×Int))->s<=(tailV (eF Q k) (eu T k) pq p A B m W g t).2.1/\(tailV (eF Q k) (eu T k) pq p A B m W g t).2.2.1=0/\(tailV (eF Q k) (eu T k) pq p A B m W g t).2.2.2.1=0/\g<=(tailV (eF Q k) (eu T k) pq p A B m W g t).2.2.2.2.2.1)/\
   ((none:Option (Int×Int×Int×Int))=none->(tailV (eF Q k) (eu T k) pq p A B m W g t).1=p/\m<=(tailV (eF Q k) (eu T k) pq p A B m W g t).2.2.2.1/\e<=(tailV (eF Q k) (eu T k) pq p A B m W g t).2.2.1/\(tailV (eF Q k) (eu T k) pq p A B m W g t).2.2.2.2.2.1=g/\t<=(tailV (eF Q k) (eu T k) pq p A B m W g t).2.2.2.2.2.2):=λA B W h hB=>by
   obtain ⟨g1,g2,g3,g4,g5,g6⟩:=LP hq ht hpq h
   exact ⟨g1,λh=>absurd rfl h,λ_=>⟨g2,g3,by rw [g4]; exact hB,g5,g6⟩⟩
  cases hc:oq C k with
  | none=>exact done s e w ⟨sp,sa,sb,sm,sw,sg,stt,uU⟩ (Int.le_refl _)
  | some x=>
   have hx:=ok.kc x (List.mem_of_find?_eq_some hc)
   obtain ⟨b1,b2,_,_⟩:=lS hx.1.1 hx.1.2.1 hx.1.2.2 hpc.1 hpc.2
   obtain ⟨b3,b4,_,_⟩:=lS hx.2.1 hx.2.2.1 hx.2.2.2 hpc.1 hpc.2
   have hf:0<=bg (sS x.2.2.2.1 x.2.2.2.2 pc) s/\bg (sS x.2.2.2.1 x.2.2.2.2 pc) s<=s:=by unfold bg; split<;>omega
   have hw:0<=bg (w+sS x.2.1 x.2.2.1 pc) 1000000/\bg (w+sS x.2.1 x.2.2.1 pc) 1000000<=1000000:=by unfold bg; split<;>omega
   show StO (KH (some x) (eF Q k) (eu T k) pc pq p s e m w g t)/\_/\((none:Option (Int×Int×Int×Int))=none->(KH (some x) (eF Q k) (eu T k) pc pq p s e m w g t).1=p/\_)
   have ec:KH (some x) (eF Q k) (eu T k) pc pq p s e m w g t=if bg (w+sS x.2.1 x.2.2.1 pc) 1000000=1000000 then
    tailV (eF Q k) (eu T k) pq p (s - bg (sS x.2.2.2.1 x.2.2.2.2 pc) s) (e+bg (sS x.2.2.2.1 x.2.2.2.2 pc) s) m (bg (w+sS x.2.1 x.2.2.1 pc) 1000000) g t
    else tailV (eF Q k) (eu T k) pq p s e m (bg (w+sS x.2.1 x.2.2.1 pc) 1000000) g t:=rfl
   rw [ec]
   by_cases hcap:bg (w+sS x.2.1 x.2.2.1 pc) 1000000=1000000
   ·rw [if_pos hcap]
    exact done (s - bg (sS x.2.2.2.1 x.2.2.2.2 pc) s) (e+bg (sS x.2.2.2.1 x.2.2.2.2 pc) s) _ ⟨sp,⟨by omega,by omega⟩,⟨by omega,by omega⟩,sm,hw,sg,stt,by omega⟩ (by omega)
   rw [if_neg hcap]
   exact done s e _ ⟨sp,sa,sb,sm,hw,sg,stt,uU⟩ (Int.le_refl _)
end
section
variable {H:aT} {C:aG} {Q:aJ} {T:aA} {a b c d:Int}
def dU (c d t:Int):Int:=if c<d - t then d - t else c
theorem Qg {x y X Y:Int} (h1:0<=x) (h2:x<=X) (h3:0<=y) (h4:y<=Y):0<=x*y/\x*y<=X*Y:=
 ⟨Int.mul_nonneg h1 h3,Int.le_trans (Int.mul_le_mul_of_nonneg_left h4 h1) (Int.mul_le_mul_of_nonneg_right h2 (by omega))⟩
theorem Ac (ok:DR H C Q T a b c d) {t:Int} (ht:0<=t):c<=dU c d t/\dU c d t<=d:=by
 have:=ok.hcd
 unfold dU; split<;>omega
theorem p84 (k:Int):Y5 k=some (bG (dn k 1 3000) 2):=by
 unfold Y5; rw [au3,Option.bind_some,p68]; rfl
end
theorem fz {l:aV} (h:bC l=0):∀ x∈l,x=0:=by
 induction l with
 | nil=>intro x hx; cases hx
 | cons y l ih=>
  unfold bC at h
  split at h
  ·rename_i hy
   intro x hx
   rcases List.mem_cons.1 hx with rfl | hx
   ·exact hy
   exact ih h x hx
  rename_i hy; exact absurd h hy
section
variable {H:aT} {C:aG} {Q:aJ} {T:aA} {a b c d:Int}
end
end Go.Proofs.YtnepigpnlnmlmaaGreatDoor

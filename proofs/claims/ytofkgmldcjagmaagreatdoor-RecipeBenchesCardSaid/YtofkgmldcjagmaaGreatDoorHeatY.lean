/- The code's step of a state, and the reference's, are the plain step: the whole functions. -/
import Derived.Test.YtofkgmldcjagmaaGreatDoorF01
import Derived.Test.YtofkgmldcjagmaaGreatDoorF03
import Derived.Test.YtofkgmldcjagmaaGreatDoorF04
import Derived.Test.YtofkgmldcjagmaaGreatDoorF12
import Derived.Test.YtofkgmldcjagmaaGreatDoorF21
import Derived.Test.YtofkgmldcjagmaaGreatDoorF23
import Derived.Test.YtofkgmldcjagmaaGreatDoorHeatX
set_option linter.unusedVariables false
set_option linter.unusedSimpArgs false
namespace Go.Proofs.YtofkgmldcjagmaaGreatDoor
open Go.dJ
def Vu (g:Int→Int→Int):List Int→List Int→List Int
 | x::l,y::m=>g x y::Vu g l m
 | l,_=>l
theorem CJ {ρ:Type} (B:Int×List Int→gy (Int×List Int) ρ) (g:Int→Int→Int) (p:List Int) (fin:List Int→Option ρ)
 (step:∀ (i:Nat) (l:List Int),i<p.length→l.length=p.length→B ((i:Int),l)= .next ((i:Int)+1,l.set i (g (l.getD i default) (p.getD i default))))
 (stop:∀ (l:List Int),l.length=p.length→B ((p.length:Int),l)= .out (fin l)) :
 ∀ (l m pre mre:List Int) (fuel:Nat),pre.length=mre.length→l.length=m.length→p=mre++m→l.length<fuel→aS B fuel ((pre.length:Int),pre++l)=fin (pre++Vu g l m)
 | [],[],pre,mre,fuel,h1,_,h3,hf=>by
  obtain ⟨k,rfl⟩:∃ k,fuel=k+1:=⟨fuel - 1,by omega⟩
  have hp:p.length=pre.length:=by rw [h3]; simp [h1]
  have:=stop (pre++[]) (by simp [hp])
  rw [hp] at this
  simp only [aS]
  rw [this]; rfl
 | [],y::m,pre,mre,fuel,_,h2,_,_=>by simp at h2
 | x::l,[],pre,mre,fuel,_,h2,_,_=>by simp at h2
 | x::l,y::m,pre,mre,fuel,h1,h2,h3,hf=>by
  obtain ⟨k,rfl⟩:∃ k,fuel=k+1:=⟨fuel - 1,by omega⟩
  have h2':l.length=m.length:=by simpa using h2
  have hp:p.length=pre.length+(m.length+1):=by rw [h3]; simp [h1]
  have g1:(pre++x::l).getD pre.length default=x:=by simp [List.getD_eq_getElem?_getD]
  have g2:p.getD pre.length default=y:=by rw [h3,h1]; simp [List.getD_eq_getElem?_getD]
  have hs:=step pre.length (pre++x::l) (by omega) (by simp; omega)
  rw [g1,g2] at hs
  simp only [aS,hs]
  have e1:(pre++x::l).set pre.length (g x y)=(pre++[g x y])++l:=by simp [List.set_append]
  rw [e1]
  have:=CJ B g p fin step stop l m (pre++[g x y]) (mre++[y]) k (by simp [h1]) h2' (by simp [h3]) (by simp at hf; omega)
  rw [List.length_append] at this
  simpa [Vu] using this
theorem JD:∀ l m:List Int,(∀ x∈l,-1000000000≤x∧x≤1000000000)→(∀ x∈m,-1000000000≤x∧x≤1000000000)→Vu (fun x y=>IntKind.i64.wrap (x+y)) l m=Jq l m
 | [],_,_,_=>rfl
 | _::_,[],_,_=>rfl
 | x::l,y::m,h1,h2=>by
  have a1:=h1 x (by simp)
  have a2:=h2 y (by simp)
  simp only [Vu,Jq]
  rw [IntWalk.i64_in (x+y) ⟨by omega,by omega⟩,JD l m (fun z hz=>h1 z (by simp [hz])) (fun z hz=>h2 z (by simp [hz]))]
theorem Ym (n:Int) (l:List Int) (h:0<l.length) (hw:IntKind.i64.wrap (l.getD 0 default - n)=l.getD 0 default - n):l.set 0 (IntKind.i64.wrap (l.getD 0 default - n))=zQ n l:=by
 rw [hw]
 cases l with
 | nil=>simp at h
 | cons x r=>simp [zQ]
theorem Yf {n:Int}:∀ {l:List Int} {z:Int},z∈zQ n l→(∃ x∈l,z=x - n)∨z∈l
 | [],z,h=>Or.inr h
 | x::r,z,h=>by
  simp only [zQ,List.mem_cons] at h
  rcases h with h | h
  ·exact Or.inl ⟨x,by simp,h⟩
  ·exact Or.inr (by simp [h])
theorem ZN (B:Int→gy Int Int) (l:List Int) (p:Int→Bool) (hl:l.length<1000000000)
 (step:∀ i:Nat,i<l.length→B (i:Int)=if p (l.getD i default) then .out (some (i:Int)) else .next ((i:Int)+1)) (stop:B (l.length:Int)= .out (some (-1))) :
 aS B 1000000000 0=some (Ey p 0 l):=by
 have h:=kT (τ:=Unit) l B (fun i _=>i) (fun i _ x=>if p x then .out (some i) else .next ()) (fun _=>some (-1)) hl
  (fun i t hi=>by rw [step i hi]; cases p (l.getD i default)<;>simp [Ce])
  (fun t=>stop) ()
 rw [h]; exact Lh p l 0
theorem arz {T:List (Int×Int)} (htl:0<T.length∧T.length<1000) (l:List Int) (a b:Int) (T':List (Int×Int)) (L L':List (List (Int×Int))) (hl:l.length<1000000000):Ot l a b T' L T L'=some (l.any fun x=> !inT T x):=by
 have h:Ku l a b T' L T L'=some (Ey (fun x=> !inT T x) 0 l):=by
  unfold Ku
  refine ZN _ l _ hl (fun i hi=> ?_) (by simp [xR])
  simp only [xR,nO hi,if_true,if_pos (kY hi),Int.toNat_natCast,wS i (by omega),adE,ahH a b T' L T L' _ htl.1 htl.2,Option.bind_some,aP]
 unfold Ot
 rw [h,Option.bind_some,ZO _ l 0 (by omega)]
theorem JX {a b:Int} {T:List (Int×Int)} {L:List (List (Int×Int))} (ok:fQ a b T L) (a':Int) (T':List (Int×Int)) (L' L'':List (List (Int×Int))) (i:Nat) (l:List Int) (hi:i+1<l.length) (hl:l.length<1000000) (hx:inT T (l.getD i default)=true) (hy:inT T (l.getD (i+1) default)=true) (z:gy (Int×List Int) ((List Int)×Int×Int)) :
 (if (decide ((IntKind.i64.wrap ((i:Int)+1))<(l.length:Int)))=true then
 if 0≤(i:Int)∧(i:Int)<(l.length:Int) then
  aP (yg a' b T' L' T L'' (l.getD (i:Int).toNat default)) fun v2=>
   if 0≤IntKind.i64.wrap ((i:Int)+1)∧IntKind.i64.wrap ((i:Int)+1)<(l.length:Int) then
    aP (yg a' b T' L' T L'' (l.getD (IntKind.i64.wrap ((i:Int)+1)).toNat default)) fun v3=>
     aP (BH (IntKind.i64.wrap (b*(IntKind.i64.wrap ((IntKind.i64.wrap (v2.1*v3.2)) - (IntKind.i64.wrap (v3.1*v2.2)))))) (IntKind.i64.wrap ((IntKind.i64.wrap (1000*v2.2))*v3.2))) fun v4=>
      if 0≤(i:Int)∧(i:Int)<(l.length:Int) then
       if 0≤IntKind.i64.wrap ((i:Int)+1)∧IntKind.i64.wrap ((i:Int)+1)<(l.length:Int) then
        if 0≤(i:Int)∧(i:Int)<(l.length:Int) then
         if 0≤IntKind.i64.wrap ((i:Int)+1)∧IntKind.i64.wrap ((i:Int)+1)<(l.length:Int) then
          (.next (IntKind.i64.wrap ((i:Int)+2),(l.set (i:Int).toNat (IntKind.i64.wrap ((l.getD (i:Int).toNat default) - v4))).set (IntKind.i64.wrap ((i:Int)+1)).toNat (IntKind.i64.wrap ((l.getD (IntKind.i64.wrap ((i:Int)+1)).toNat default)+v4))):gy (Int×List Int) ((List Int)×Int×Int))
          else .out none
         else .out none
        else .out none
       else .out none
    else .out none
  else .out none
 else z)= .next ((i:Int)+2,(l.set i (l.getD i default - qS b T (l.getD i default) (l.getD (i+1) default))).set (i+1) (l.getD (i+1) default+qS b T (l.getD i default) (l.getD (i+1) default))):=by
 obtain ⟨N,D,h1,P⟩:=adU ok a' b T' L' L'' (l.getD i default)
 obtain ⟨M,E,h2,Q⟩:=adU ok a' b T' L' L'' (l.getD (i+1) default)
 have e1:IntKind.i64.wrap ((i:Int)+1)=((i+1:Nat):Int):=by rw [wS i (by omega)]; omega
 have e2:IntKind.i64.wrap ((i:Int)+2)=(i:Int)+2:=IntWalk.i64_in _ ⟨by omega,by omega⟩
 have hq:=q_in ok.mix ok.asc (u:=(T.getD 0 default).1) (v:=(T.getD (T.length - 1) default).1) ((kC ok _).1 hx) ((kC ok _).1 hy)
 have r1:=ok.wE.rng 0 (by have:=ok.AQ; omega)
 have r2:=ok.wE.rng (T.length - 1) (by have:=ok.AQ; omega)
 rw [e1,e2,Int.toNat_natCast,Int.toNat_natCast,if_pos (nO hi),if_pos (kY (show i<l.length by omega)),h1,h2]
 simp only [aP,if_pos (kY hi),aqw ok.mix P Q,if_pos (kY (show i<l.length by omega))]
 rw [IntWalk.i64_in _ ⟨by omega,by omega⟩,IntWalk.i64_in (l.getD (i+1) default+_) ⟨by omega,by omega⟩]
theorem ajl {a b:Int} {T:List (Int×Int)} {L:List (List (Int×Int))} (ok:fQ a b T L) {v:Rat} {N D:Int} (h:At v N D 1000000 3000):(N:Rat) / D=v:=by
 have h1:=h.pos
 have h2:(0:Rat)<D:=Rat.intCast_pos.2 h1
 rw [h.eq]; exact Rat.mul_div_cancel (by grind)
theorem UN {a b:Int} {T:List (Int×Int)} {L:List (List (Int×Int))} (ok:fQ a b T L) {i e N D:Int} (hi:0≤i∧i<L.length) (P:At (pl T e) N D 1000000 3000) :
 ∃ A B,zV (L.getD i.toNat default) N D=some (A,B)∧sD (L.getD i.toNat default) N D=some (A,B)∧BH A B=some (jw T (L.getD i.toNat default) e):=by
 have hl:=ok.laws i.toNat (by omega)
 have p1:=P.pos; have p2:=P.le
 obtain ⟨A,B,h1,h2,Q⟩:=Hq hl.poly (by decide) (by decide) N D p1 p2
 refine ⟨A,B,h1,h2,?_⟩
 have q1:=Q.pos; have q2:=Q.le; have q3:=Q.num
 rw [ahG A B q1 (by omega) (by omega)]
 have:=Q.eq
 rw [ajl ok P] at this
 rw [lK q1 this]; rfl
theorem azl {a b:Int} {T:List (Int×Int)} {L:List (List (Int×Int))} (ok:fQ a b T L) {i:Int} (e:Int) (hi:0≤i∧i<L.length):V6 a b T L T L i e=some (jw T (L.getD i.toNat default) e):=by
 obtain ⟨N,D,h1,P⟩:=adU ok a b T L L e
 obtain ⟨A,B,h2,_,h3⟩:=UN ok hi P
 unfold V6
 rw [if_pos hi,h1,Option.bind_some]
 simp only
 rw [h2,Option.bind_some]
 simp only
 rw [h3,Option.bind_some]
structure vX (T:List (Int×Int)) (L:List (List (Int×Int))) (l p:List Int) (law:Int):Prop where
 ins:XR T l
 len:p.length=l.length
 pos:0<l.length∧l.length<1000
 pow:∀ x∈p,0≤x∧x≤10000
 law:0≤law∧law<L.length
theorem Cc {b:Int} {T:List (Int×Int)} {l:List Int} (h:0<l.length):∃ x r,oq b T l=x::r∧jm b T l=[x]++oq b T r:=by
 have hl:=pR b T l
 cases hm:oq b T l with
 | nil=>rw [hm] at hl; simp at hl; omega
 | cons x r=>exact ⟨x,r,rfl,by unfold jm; rw [hm]; rfl⟩
theorem afP {a b:Int} {T:List (Int×Int)} {L:List (List (Int×Int))} (ok:fQ a b T L) {l:List Int} (h:XR T l):XR T (oq b T l):=fun x hx=>by
 rw [kC ok]
 exact Ai ok.mix ok.asc l (fun y hy=>by have:=h y hy; rwa [kC ok] at this) x hx
theorem KU {a b:Int} {T:List (Int×Int)} {L:List (List (Int×Int))} (ok:fQ a b T L) {i:Int} (e:Int) (hi:0≤i∧i<L.length):0≤jw T (L.getD i.toNat default) e∧jw T (L.getD i.toNat default) e≤1000:=by
 have hl:=ok.laws i.toNat (by omega)
 exact ad3 hl.asc hl.yr' e
theorem KF {a b:Int} {T:List (Int×Int)} {L:List (List (Int×Int))} (ok:fQ a b T L) {l p:List Int} {law:Int} (h:vX T L l p law) (n:Int) (hn:0≤n∧n≤1000) :
 Vu (fun x y=>IntKind.i64.wrap (x+y)) (zQ n (jm b T l)) p=Jq (zQ n (jm b T l)) p:=by
 refine JD _ _ (fun x hx=> ?_) (fun x hx=>by have:=h.pow x hx; omega)
 have hm:=Iz ok h.ins
 rcases Yf hx with ⟨y,hy,rfl⟩ | hy
 ·have:=Aj ok (hm y hy); omega
 ·have:=Aj ok (hm x hy); omega
theorem UK {a b:Int} {T:List (Int×Int)} {L:List (List (Int×Int))} (ok:fQ a b T L) {l p:List Int} {law:Int} (h:vX T L l p law) (n:Int) (hn:0≤n∧n≤1000):(jm b T l).set 0 (IntKind.i64.wrap ((jm b T l).getD 0 default - n))=zQ n (jm b T l):=by
 have hl:=wY b T l
 have hp:=h.pos
 refine Ym n _ (by omega) (IntWalk.i64_in _ ?_)
 have hm:inT T ((jm b T l).getD 0 default)=true:=by
  refine Iz ok h.ins _ ?_
  cases hq:jm b T l with
  | nil=>rw [hq] at hl; simp at hl; omega
  | cons x r=>simp
 have:=Aj ok hm
 exact ⟨by omega,by omega⟩
theorem p96 {a b:Int} {T:List (Int×Int)} {L:List (List (Int×Int))} (ok:fQ a b T L) {l p:List Int} {law:Int} (h:vX T L l p law) :
 Kv a b T L T L l p law=some (mP b T (L.getD law.toNat default) l p,jw T (L.getD law.toNat default) (hd (jm b T l)),if (mP b T (L.getD law.toNat default) l p).all (inT T)=true then 0 else 22):=by
 have hp:=h.pos
 have htl:=ok.AQ
 unfold Kv Kt
 rw [if_pos ⟨by omega,by omega⟩,Option.bind_some]
 have m1:=sN ok (D6 a b T L T L p law) (fun l'=>aS (y7 a b T L T L p law) 1000000000 (1,l')) (fun i l' hi hl hx hy=>JX ok a T L L i l' hi hl hx hy _) (fun i l' hi hl _=>by
  have e1:¬ (decide ((IntKind.i64.wrap ((i:Int)+1))<(l'.length:Int)))=true:=by rw [decide_eq_true_eq,wS i (by omega)]; omega
  simp only [D6,if_neg e1]) l [] 1000000000 h.ins (by simp; omega) (by omega)
 simp only [List.nil_append,List.length_nil] at m1
 rw [show ((0:Nat):Int)=0 from rfl] at m1
 rw [m1]
 obtain ⟨x,r,hx,hs⟩:=Cc (b:=b) (T:=T) hp.1
 have hl2:=pR b T l
 rw [hx] at hl2 ⊢
 have hin:XR T (x::r):=by rw [← hx]; exact afP ok h.ins
 have m2:=sN ok (y7 a b T L T L p law) (fun l'=>(if 0≤0∧0<(l'.length:Int) then
  (V6 a b T L T L law (l'.getD 0 default)).bind fun v20=>
   if 0≤0∧0<(l'.length:Int) then
    if 0≤0∧0<(l'.length:Int) then
     aS (vW a b T L T L p v20) 1000000000 (0,l'.set 0 (IntKind.i64.wrap ((l'.getD 0 default) - v20)))
     else none
    else none
  else none)) (fun i l' hi hl hx hy=>JX ok a T L L i l' hi hl hx hy _) (fun i l' hi hl _=>by
  have e1:¬ (decide ((IntKind.i64.wrap ((i:Int)+1))<(l'.length:Int)))=true:=by rw [decide_eq_true_eq,wS i (by omega)]; omega
  unfold y7
  exact if_neg e1) r [x] 1000000000 (fun z hz=>hin z (by simp [hz])) (by simp at hl2 ⊢; omega) (by simp at hl2; omega)
 simp only [List.length_cons,List.length_nil,List.singleton_append] at m2
 rw [show ((0+1:Nat):Int)=1 from rfl] at m2
 rw [m2]
 rw [List.singleton_append] at hs
 rw [← hs]
 have hml:=wY b T l
 rw [if_pos ⟨by omega,by omega⟩,azl ok _ h.law,Option.bind_some]
 have hn:=KU ok ((jm b T l).getD 0 default) h.law
 rw [if_pos ⟨by omega,by omega⟩,if_pos ⟨by omega,by omega⟩,UK ok h _ hn]
 have m3:=CJ (vW a b T L T L p (jw T (L.getD law.toNat default) ((jm b T l).getD 0 default))) (fun x y=>IntKind.i64.wrap (x+y)) p
  (fun l'=>(Ot l' a b T L T L).bind fun v24=>(nM (!v24) 22).bind fun v25=>some (l',jw T (L.getD law.toNat default) ((jm b T l).getD 0 default),v25))
  (fun i l' hi hl=>by
   simp only [vW,nO hi,if_true,if_pos (kY hi),if_pos (kY (show i<l'.length by omega)),Int.toNat_natCast,wS i (by have:=h.len; omega)])
  (fun l' hl=>by simp [vW])
  (zQ (jw T (L.getD law.toNat default) ((jm b T l).getD 0 default)) (jm b T l)) p [] [] 1000000000 rfl (by rw [rP,hml,h.len]) rfl (by rw [rP]; omega)
 simp only [List.nil_append,List.length_nil] at m3
 rw [show ((0:Nat):Int)=0 from rfl] at m3
 rw [m3,KF ok h _ hn]
 have ho:=sF b T (L.getD law.toNat default) l p
 show (Ot (mP b T (L.getD law.toNat default) l p) a b T L T L).bind _=_
 rw [arz ⟨by omega,by omega⟩ _ _ _ _ _ _ (by omega),Option.bind_some,p94,Option.bind_some]
 rw [List.any_eq_not_all_not,Bool.not_not]
 simp only [Bool.not_not]
 rfl
theorem VN {ρ:Type} (p:Int→Bool) (v:ρ) (l:List Int):dw (fun i=>if p (l.getD i default)=true then none else some v) 0 l.length=if l.all p=true then none else some v:=by
 by_cases h:l.all p=true
 ·rw [if_pos h]
  refine rV fun j _ hj=> ?_
  have hj':j<l.length:=by omega
  rw [List.all_eq_true] at h
  rw [if_pos (h _ (by rw [List.getD_eq_getElem?_getD,List.getElem?_eq_getElem hj',Option.getD_some]; exact List.getElem_mem hj'))]
 ·rw [if_neg h]
  cases hs:dw (fun i=>if p (l.getD i default)=true then none else some v) 0 l.length with
  | none=>
   exfalso; apply h
   rw [List.all_eq_true]
   intro x hx
   obtain ⟨i,hi,rfl⟩:=wZ hx
   have:=jk hs i (by omega) (by omega)
   split at this
   ·assumption
   ·cases this
  | some w=>
   obtain ⟨j,_,_,hj⟩:=gU hs
   split at hj
   ·cases hj
   ·exact hj.symm
theorem p62 {a b:Int} {T:List (Int×Int)} {L:List (List (Int×Int))} (ok:fQ a b T L) {i e:Int} (hi:0≤i∧i<L.length) (he:inT T e=true):YO a b T L i e=some (jw T (L.getD i.toNat default) e):=by
 obtain ⟨N,D,h1,P⟩:=p57 ok a b L e he
 obtain ⟨A,B,_,h2,h3⟩:=UN ok hi P
 have h3':Ko A B=some (jw T (L.getD i.toNat default) e):=h3
 unfold YO
 rw [h1,Option.bind_some,if_pos hi]
 simp only
 rw [h2,Option.bind_some]
 simp only
 rw [h3',Option.bind_some]
theorem aze {a b:Int} {T:List (Int×Int)} {L:List (List (Int×Int))} (ok:fQ a b T L) {x y:Int} (hx:inT T x=true) (hy:inT T y=true):YI a b T L x y=some (x - qS b T x y,y+qS b T x y):=by
 obtain ⟨N,D,h1,P⟩:=p57 ok a b L x hx
 obtain ⟨M,E,h2,Q⟩:=p57 ok a b L y hy
 have hq:=q_in ok.mix ok.asc (u:=(T.getD 0 default).1) (v:=(T.getD (T.length - 1) default).1) ((kC ok _).1 hx) ((kC ok _).1 hy)
 have r1:=ok.wE.rng 0 (by have:=ok.AQ; omega)
 have r2:=ok.wE.rng (T.length - 1) (by have:=ok.AQ; omega)
 unfold YI
 rw [h1,h2,Option.bind_some,Option.bind_some]
 simp only
 have:=aqw ok.mix P Q
 rw [show Ko=BH from rfl,this,Option.bind_some]
 rw [IntWalk.i64_in _ ⟨by omega,by omega⟩,IntWalk.i64_in (y+_) ⟨by omega,by omega⟩]
theorem azk {a b:Int} {T:List (Int×Int)} {L:List (List (Int×Int))} (ok:fQ a b T L) {l:List Int} (h:XR T l) (hp:0<l.length∧l.length<1000):YP a b T L l=some (jm b T l):=by
 unfold YP
 rw [p19 l (by omega),Option.bind_some]
 obtain ⟨x,r,hx,hs⟩:=Cc (b:=b) (T:=T) hp.1
 have hl2:=pR b T l
 have step:∀ (s1:Int×List Int) (i:Nat) (l':List Int),i+1<l'.length→l'.length<1000000→inT T (l'.getD i default)=true→inT T (l'.getD (i+1) default)=true→
  nY a b T L s1 ((i:Int),l')= .next ((i:Int)+2,(l'.set i (l'.getD i default - qS b T (l'.getD i default) (l'.getD (i+1) default))).set (i+1) (l'.getD (i+1) default+qS b T (l'.getD i default) (l'.getD (i+1) default))):=by
  intro s1 i l' hi hl hx hy
  have e1:IntKind.i64.wrap ((i:Int)+1)=((i+1:Nat):Int):=by rw [wS i (by omega)]; omega
  have e2:IntKind.i64.wrap ((i:Int)+2)=(i:Int)+2:=IntWalk.i64_in _ ⟨by omega,by omega⟩
  simp only [nY,e1,e2,nO hi,if_true,if_pos (kY (show i<l'.length by omega)),if_pos (kY hi),Int.toNat_natCast,aze ok hx hy,aP]
 have stop:∀ (s1:Int×List Int) (i:Nat) (l':List Int),l'.length≤i+1→l'.length<1000000→i≤l'.length→nY a b T L s1 ((i:Int),l')= .out (some (.next (IntKind.i64.wrap (s1.1+1),l'))):=by
  intro s1 i l' hi hl _
  have e1:¬ (decide ((IntKind.i64.wrap ((i:Int)+1))<(l'.length:Int)))=true:=by rw [decide_eq_true_eq,wS i (by omega)]; omega
  simp only [nY,if_neg e1]
 have hin:XR T (x::r):=by rw [← hx]; exact afP ok h
 refine jR 2 (sV a b T L) (fun i=>match i with | 0=>(0,l) | 1=>(1,oq b T l) | _=>(2,jm b T l)) _ (by omega) (fun i hi=> ?_) ?_
 ·have:i=0∨i=1:=by omega
  rcases this with rfl | rfl
  ·have m1:=sN ok (nY a b T L (0,l)) _ (step (0,l)) (stop (0,l)) l [] 1000000000 h (by simp; omega) (by omega)
   simp only [List.nil_append,List.length_nil] at m1
   rw [show ((0:Nat):Int)=0 from rfl] at m1
   show sV a b T L (0,l)=_
   rw [sV,if_pos (show (decide (_<(2:Int)))=true from rfl)]
   show (aS (nY a b T L (0,l)) 1000000000 (0,l)).getD (.out none)=_
   rw [m1]; rfl
  ·have m1:=sN ok (nY a b T L (1,oq b T l)) _ (step (1,oq b T l)) (stop (1,oq b T l)) r [x] 1000000000 (fun z hz=>hin z (by simp [hz])) (by rw [hx] at hl2; simp at hl2 ⊢; omega) (by rw [hx] at hl2; simp at hl2; omega)
   simp only [List.length_cons,List.length_nil,List.singleton_append] at m1
   rw [show ((0+1:Nat):Int)=1 from rfl] at m1
   rw [List.singleton_append] at hs
   show sV a b T L (1,oq b T l)= .next (2,jm b T l)
   rw [sV,if_pos (show (decide (_<(2:Int)))=true from rfl)]
   show (aS (nY a b T L (1,oq b T l)) 1000000000 (1,oq b T l)).getD (.out none)=_
   rw [hs,hx]
   rw [hx] at m1
   rw [m1]; rfl
 ·rfl
theorem p71 {a b:Int} {T:List (Int×Int)} {L:List (List (Int×Int))} (ok:fQ a b T L) {l p:List Int} {law:Int} (h:vX T L l p law) :
 r80 a b T L l p law=some (if (mP b T (L.getD law.toNat default) l p).all (inT T)=true then (mP b T (L.getD law.toNat default) l p,jw T (L.getD law.toNat default) (hd (jm b T l)),true) else ([],0,false)):=by
 have hp:=h.pos
 have htl:=ok.AQ
 have hml:=wY b T l
 unfold r80
 rw [azk ok h.ins hp,Option.bind_some,if_pos ⟨by omega,by omega⟩,p62 ok h.law,Option.bind_some]
 ·have hn:=KU ok ((jm b T l).getD 0 default) h.law
  rw [if_pos ⟨by omega,by omega⟩,if_pos ⟨by omega,by omega⟩,UK ok h _ hn]
  have m3:=CJ (Gg a b T L p (jw T (L.getD law.toNat default) ((jm b T l).getD 0 default))) (fun x y=>IntKind.i64.wrap (x+y)) p
   (fun l'=>aS (zK a b T L (jw T (L.getD law.toNat default) ((jm b T l).getD 0 default)) ((p.length:Int),l')) 1000000000 0)
   (fun i l' hi hl=>by
    simp only [Gg,nO (show i<l'.length by omega),if_true,if_pos (kY hi),if_pos (kY (show i<l'.length by omega)),Int.toNat_natCast,wS i (by have:=h.len; omega)])
   (fun l' hl=>by simp [Gg,hl])
   (zQ (jw T (L.getD law.toNat default) ((jm b T l).getD 0 default)) (jm b T l)) p [] [] 1000000000 rfl (by rw [rP,hml,h.len]) rfl (by rw [rP]; omega)
  simp only [List.nil_append,List.length_nil] at m3
  rw [show ((0:Nat):Int)=0 from rfl] at m3
  rw [m3,KF ok h _ hn]
  have ho:=sF b T (L.getD law.toNat default) l p
  show aS (zK a b T L (jw T (L.getD law.toNat default) (hd (jm b T l))) ((p.length:Int),mP b T (L.getD law.toNat default) l p)) 1000000000 0=_
  generalize mP b T (L.getD law.toNat default) l p=out at*
  generalize jw T (L.getD law.toNat default) (hd (jm b T l))=n at*
  have hs:aS (zK a b T L n ((p.length:Int),out)) 1000000000 0=JC (dw (fun i=>if inT T (out.getD i default)=true then none else some (([]:List Int),(0:Int),false)) 0 out.length) (some (out,n,true)):=by
   refine iQ out.length _ _ _ (by omega) (fun i hi=> ?_) (by simp [zK])
   simp only [zK,nO hi,if_true,if_pos (kY hi),Int.toNat_natCast,wS i (by omega),p56 a b T L _ (show 0<T.length by omega) (show T.length<1000 by omega),aP]
   cases inT T (out.getD i default)<;>simp
  rw [hs,VN]
  by_cases hc:out.all (inT T)=true
  ·rw [if_pos hc,if_pos hc]; rfl
  ·rw [if_neg hc,if_neg hc]; rfl
 ·refine Iz ok h.ins _ ?_
  cases hq:jm b T l with
  | nil=>rw [hq] at hml; simp at hml; omega
  | cons x r=>simp
end Go.Proofs.YtofkgmldcjagmaaGreatDoor

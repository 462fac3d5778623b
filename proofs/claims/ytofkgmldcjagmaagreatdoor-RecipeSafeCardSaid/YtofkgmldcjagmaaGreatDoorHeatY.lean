/- The code's step of a state, and the reference's, are the plain step: the whole functions. -/
import Derived.Test.YtofkgmldcjagmaaGreatDoorF01
import Derived.Test.YtofkgmldcjagmaaGreatDoorF03
import Derived.Test.YtofkgmldcjagmaaGreatDoorF04
import Derived.Test.YtofkgmldcjagmaaGreatDoorF12
import Derived.Test.YtofkgmldcjagmaaGreatDoorF21
import Derived.Test.YtofkgmldcjagmaaGreatDoorF23
import Derived.Test.YtofkgmldcjagmaaGreatDoorHeatX
set_option linter.unusedVariables false
set_option linter.unusedSimpArgs false
namespace Go.Proofs.YtofkgmldcjagmaaGreatDoor
open Go.dG
def V3 (g:Int→Int→Int):List Int→List Int→List Int
 | x::l,y::m=>g x y::V3 g l m
 | l,_=>l
theorem Dp {ρ:Type} (B:Int×List Int→gK (Int×List Int) ρ) (g:Int→Int→Int) (p:List Int) (fin:List Int→Option ρ)
 (step:∀ (i:Nat) (l:List Int),i<p.length→l.length=p.length→B ((i:Int),l)= .next ((i:Int)+1,l.set i (g (l.getD i default) (p.getD i default))))
 (stop:∀ (l:List Int),l.length=p.length→B ((p.length:Int),l)= .out (fin l)) :
 ∀ (l m pre mre:List Int) (fuel:Nat),pre.length=mre.length→l.length=m.length→p=mre++m→l.length<fuel→aS B fuel ((pre.length:Int),pre++l)=fin (pre++V3 g l m)
 | [],[],pre,mre,fuel,h1,_,h3,hf=>by
  obtain ⟨k,rfl⟩:∃ k,fuel=k+1:=⟨fuel - 1,by omega⟩
  have hp:p.length=pre.length:=by rw [h3]; simp [h1]
  have:=stop (pre++[]) (by simp [hp])
  rw [hp] at this
  simp only [aS]
  rw [this]; rfl
 | [],y::m,pre,mre,fuel,_,h2,_,_=>by simp at h2
 | x::l,[],pre,mre,fuel,_,h2,_,_=>by simp at h2
 | x::l,y::m,pre,mre,fuel,h1,h2,h3,hf=>by
  obtain ⟨k,rfl⟩:∃ k,fuel=k+1:=⟨fuel - 1,by omega⟩
  have h2':l.length=m.length:=by simpa using h2
  have hp:p.length=pre.length+(m.length+1):=by rw [h3]; simp [h1]
  have g1:(pre++x::l).getD pre.length default=x:=by simp [List.getD_eq_getElem?_getD]
  have g2:p.getD pre.length default=y:=by rw [h3,h1]; simp [List.getD_eq_getElem?_getD]
  have hs:=step pre.length (pre++x::l) (by omega) (by simp; omega)
  rw [g1,g2] at hs
  simp only [aS,hs]
  have e1:(pre++x::l).set pre.length (g x y)=(pre++[g x y])++l:=by simp [List.set_append]
  rw [e1]
  have:=Dp B g p fin step stop l m (pre++[g x y]) (mre++[y]) k (by simp [h1]) h2' (by simp [h3]) (by simp at hf; omega)
  rw [List.length_append] at this
  simpa [V3] using this
theorem JR:∀ l m:List Int,(∀ x∈l,-1000000000≤x∧x≤1000000000)→(∀ x∈m,-1000000000≤x∧x≤1000000000)→V3 (fun x y=>IntKind.i64.wrap (x+y)) l m=Ey l m
 | [],_,_,_=>rfl
 | _::_,[],_,_=>rfl
 | x::l,y::m,h1,h2=>by
  have a1:=h1 x (by simp)
  have a2:=h2 y (by simp)
  simp only [V3,Ey]
  rw [IntWalk.i64_in (x+y) ⟨by omega,by omega⟩,JR l m (fun z hz=>h1 z (by simp [hz])) (fun z hz=>h2 z (by simp [hz]))]
theorem YV (n:Int) (l:List Int) (h:0<l.length) (hw:IntKind.i64.wrap (l.getD 0 default - n)=l.getD 0 default - n):l.set 0 (IntKind.i64.wrap (l.getD 0 default - n))=vG n l:=by
 rw [hw]
 cases l with
 | nil=>simp at h
 | cons x r=>simp [vG]
theorem YN {n:Int}:∀ {l:List Int} {z:Int},z∈vG n l→(∃ x∈l,z=x - n)∨z∈l
 | [],z,h=>Or.inr h
 | x::r,z,h=>by
  simp only [vG,List.mem_cons] at h
  rcases h with h | h
  ·exact Or.inl ⟨x,by simp,h⟩
  ·exact Or.inr (by simp [h])
theorem LU (B:Int→gK Int Int) (l:List Int) (p:Int→Bool) (hl:l.length<1000000000)
 (step:∀ i:Nat,i<l.length→B (i:Int)=if p (l.getD i default) then .out (some (i:Int)) else .next ((i:Int)+1)) (stop:B (l.length:Int)= .out (some (-1))) :
 aS B 1000000000 0=some (Dt p 0 l):=by
 have h:=lg (τ:=Unit) l B (fun i _=>i) (fun i _ x=>if p x then .out (some i) else .next ()) (fun _=>some (-1)) hl
  (fun i t hi=>by rw [step i hi]; cases p (l.getD i default)<;>simp [Df])
  (fun t=>stop) ()
 rw [h]; exact LV p l 0
theorem ar4 {T:List (Int×Int)} (htl:0<T.length∧T.length<1000) (l:List Int) (a b:Int) (T':List (Int×Int)) (L L':List (List (Int×Int))) (hl:l.length<1000000000):OU l a b T' L T L'=some (l.any fun x=> !inT T x):=by
 have h:KO l a b T' L T L'=some (Dt (fun x=> !inT T x) 0 l):=by
  unfold KO
  refine LU _ l _ hl (fun i hi=> ?_) (by simp [yH])
  simp only [yH,oz hi,if_true,if_pos (lF hi),Int.toNat_natCast,wS i (by omega),aeg,aiv a b T' L T L' _ htl.1 htl.2,Option.bind_some,aP]
 unfold OU
 rw [h,Option.bind_some,PG _ l 0 (by omega)]
theorem Ku {a b:Int} {T:List (Int×Int)} {L:List (List (Int×Int))} (ok:fJ a b T L) (a':Int) (T':List (Int×Int)) (L' L'':List (List (Int×Int))) (i:Nat) (l:List Int) (hi:i+1<l.length) (hl:l.length<1000000) (hx:inT T (l.getD i default)=true) (hy:inT T (l.getD (i+1) default)=true) (z:gK (Int×List Int) ((List Int)×Int×Int)) :
 (if (decide ((IntKind.i64.wrap ((i:Int)+1))<(l.length:Int)))=true then
 if 0≤(i:Int)∧(i:Int)<(l.length:Int) then
  aP (yQ a' b T' L' T L'' (l.getD (i:Int).toNat default)) fun v2=>
   if 0≤IntKind.i64.wrap ((i:Int)+1)∧IntKind.i64.wrap ((i:Int)+1)<(l.length:Int) then
    aP (yQ a' b T' L' T L'' (l.getD (IntKind.i64.wrap ((i:Int)+1)).toNat default)) fun v3=>
     aP (CB (IntKind.i64.wrap (b*(IntKind.i64.wrap ((IntKind.i64.wrap (v2.1*v3.2)) - (IntKind.i64.wrap (v3.1*v2.2)))))) (IntKind.i64.wrap ((IntKind.i64.wrap (1000*v2.2))*v3.2))) fun v4=>
      if 0≤(i:Int)∧(i:Int)<(l.length:Int) then
       if 0≤IntKind.i64.wrap ((i:Int)+1)∧IntKind.i64.wrap ((i:Int)+1)<(l.length:Int) then
        if 0≤(i:Int)∧(i:Int)<(l.length:Int) then
         if 0≤IntKind.i64.wrap ((i:Int)+1)∧IntKind.i64.wrap ((i:Int)+1)<(l.length:Int) then
          (.next (IntKind.i64.wrap ((i:Int)+2),(l.set (i:Int).toNat (IntKind.i64.wrap ((l.getD (i:Int).toNat default) - v4))).set (IntKind.i64.wrap ((i:Int)+1)).toNat (IntKind.i64.wrap ((l.getD (IntKind.i64.wrap ((i:Int)+1)).toNat default)+v4))):gK (Int×List Int) ((List Int)×Int×Int))
          else .out none
         else .out none
        else .out none
       else .out none
    else .out none
  else .out none
 else z)= .next ((i:Int)+2,(l.set i (l.getD i default - qS b T (l.getD i default) (l.getD (i+1) default))).set (i+1) (l.getD (i+1) default+qS b T (l.getD i default) (l.getD (i+1) default))):=by
 obtain ⟨N,D,h1,P⟩:=aey ok a' b T' L' L'' (l.getD i default)
 obtain ⟨M,E,h2,Q⟩:=aey ok a' b T' L' L'' (l.getD (i+1) default)
 have e1:IntKind.i64.wrap ((i:Int)+1)=((i+1:Nat):Int):=by rw [wS i (by omega)]; omega
 have e2:IntKind.i64.wrap ((i:Int)+2)=(i:Int)+2:=IntWalk.i64_in _ ⟨by omega,by omega⟩
 have hq:=q_in ok.mix ok.Yk (u:=(T.getD 0 default).1) (v:=(T.getD (T.length - 1) default).1) ((kK ok _).1 hx) ((kK ok _).1 hy)
 have r1:=ok.wY.rng 0 (by have:=ok.BG; omega)
 have r2:=ok.wY.rng (T.length - 1) (by have:=ok.BG; omega)
 rw [e1,e2,Int.toNat_natCast,Int.toNat_natCast,if_pos (oz hi),if_pos (lF (show i<l.length by omega)),h1,h2]
 simp only [aP,if_pos (lF hi),aq4 ok.mix P Q,if_pos (lF (show i<l.length by omega))]
 rw [IntWalk.i64_in _ ⟨by omega,by omega⟩,IntWalk.i64_in (l.getD (i+1) default+_) ⟨by omega,by omega⟩]
theorem aj7 {a b:Int} {T:List (Int×Int)} {L:List (List (Int×Int))} (ok:fJ a b T L) {v:Rat} {N D:Int} (h:At v N D 1000000 3000):(N:Rat) / D=v:=by
 have h1:=h.pos
 have h2:(0:Rat)<D:=Rat.intCast_pos.2 h1
 rw [h.eq]; exact Rat.mul_div_cancel (by grind)
theorem Vg {a b:Int} {T:List (Int×Int)} {L:List (List (Int×Int))} (ok:fJ a b T L) {i e N D:Int} (hi:0≤i∧i<L.length) (P:At (pl T e) N D 1000000 3000) :
 ∃ A B,Az (L.getD i.toNat default) N D=some (A,B)∧sO (L.getD i.toNat default) N D=some (A,B)∧CB A B=some (jD T (L.getD i.toNat default) e):=by
 have hl:=ok.laws i.toNat (by omega)
 have p1:=P.pos; have p2:=P.le
 obtain ⟨A,B,h1,h2,Q⟩:=Ii hl.poly (by decide) (by decide) N D p1 p2
 refine ⟨A,B,h1,h2,?_⟩
 have q1:=Q.pos; have q2:=Q.le; have q3:=Q.num
 rw [aiu A B q1 (by omega) (by omega)]
 have:=Q.eq
 rw [aj7 ok P] at this
 rw [lU q1 this]; rfl
theorem azN {a b:Int} {T:List (Int×Int)} {L:List (List (Int×Int))} (ok:fJ a b T L) {i:Int} (e:Int) (hi:0≤i∧i<L.length):WQ a b T L T L i e=some (jD T (L.getD i.toNat default) e):=by
 obtain ⟨N,D,h1,P⟩:=aey ok a b T L L e
 obtain ⟨A,B,h2,_,h3⟩:=Vg ok hi P
 unfold WQ
 rw [if_pos hi,h1,Option.bind_some]
 simp only
 rw [h2,Option.bind_some]
 simp only
 rw [h3,Option.bind_some]
structure wK (T:List (Int×Int)) (L:List (List (Int×Int))) (l p:List Int) (law:Int):Prop where
 ins:Yu T l
 len:p.length=l.length
 pos:0<l.length∧l.length<1000
 pow:∀ x∈p,0≤x∧x≤10000
 law:0≤law∧law<L.length
theorem Dc {b:Int} {T:List (Int×Int)} {l:List Int} (h:0<l.length):∃ x r,oH b T l=x::r∧jv b T l=[x]++oH b T r:=by
 have hl:=pY b T l
 cases hm:oH b T l with
 | nil=>rw [hm] at hl; simp at hl; omega
 | cons x r=>exact ⟨x,r,rfl,by unfold jv; rw [hm]; rfl⟩
theorem agB {a b:Int} {T:List (Int×Int)} {L:List (List (Int×Int))} (ok:fJ a b T L) {l:List Int} (h:Yu T l):Yu T (oH b T l):=fun x hx=>by
 rw [kK ok]
 exact A8 ok.mix ok.Yk l (fun y hy=>by have:=h y hy; rwa [kK ok] at this) x hx
theorem Di {a b:Int} {T:List (Int×Int)} {L:List (List (Int×Int))} (ok:fJ a b T L) {i:Int} (e:Int) (hi:0≤i∧i<L.length):0≤jD T (L.getD i.toNat default) e∧jD T (L.getD i.toNat default) e≤1000:=by
 have hl:=ok.laws i.toNat (by omega)
 exact aeG hl.Yk hl.yr' e
theorem Lc {a b:Int} {T:List (Int×Int)} {L:List (List (Int×Int))} (ok:fJ a b T L) {l p:List Int} {law:Int} (h:wK T L l p law) (n:Int) (hn:0≤n∧n≤1000) :
 V3 (fun x y=>IntKind.i64.wrap (x+y)) (vG n (jv b T l)) p=Ey (vG n (jv b T l)) p:=by
 refine JR _ _ (fun x hx=> ?_) (fun x hx=>by have:=h.pow x hx; omega)
 have hm:=I7 ok h.ins
 rcases YN hx with ⟨y,hy,rfl⟩ | hy
 ·have:=xR ok (hm y hy); omega
 ·have:=xR ok (hm x hy); omega
theorem Vb {a b:Int} {T:List (Int×Int)} {L:List (List (Int×Int))} (ok:fJ a b T L) {l p:List Int} {law:Int} (h:wK T L l p law) (n:Int) (hn:0≤n∧n≤1000):(jv b T l).set 0 (IntKind.i64.wrap ((jv b T l).getD 0 default - n))=vG n (jv b T l):=by
 have hl:=xI b T l
 have hp:=h.pos
 refine YV n _ (by omega) (IntWalk.i64_in _ ?_)
 have hm:inT T ((jv b T l).getD 0 default)=true:=by
  refine I7 ok h.ins _ ?_
  cases hq:jv b T l with
  | nil=>rw [hq] at hl; simp at hl; omega
  | cons x r=>simp
 have:=xR ok hm
 exact ⟨by omega,by omega⟩
theorem p96 {a b:Int} {T:List (Int×Int)} {L:List (List (Int×Int))} (ok:fJ a b T L) {l p:List Int} {law:Int} (h:wK T L l p law) :
 KQ a b T L T L l p law=some (iC b T (L.getD law.toNat default) l p,jD T (L.getD law.toNat default) (hd (jv b T l)),if (iC b T (L.getD law.toNat default) l p).all (inT T)=true then 0 else 22):=by
 have hp:=h.pos
 have htl:=ok.BG
 unfold KQ KL
 rw [if_pos ⟨by omega,by omega⟩,Option.bind_some]
 have m1:=sZ ok (Eu a b T L T L p law) (fun l'=>aS (zK a b T L T L p law) 1000000000 (1,l')) (fun i l' hi hl hx hy=>Ku ok a T L L i l' hi hl hx hy _) (fun i l' hi hl _=>by
  have e1:¬ (decide ((IntKind.i64.wrap ((i:Int)+1))<(l'.length:Int)))=true:=by rw [decide_eq_true_eq,wS i (by omega)]; omega
  simp only [Eu,if_neg e1]) l [] 1000000000 h.ins (by simp; omega) (by omega)
 simp only [List.nil_append,List.length_nil] at m1
 rw [show ((0:Nat):Int)=0 from rfl] at m1
 rw [m1]
 obtain ⟨x,r,hx,hs⟩:=Dc (b:=b) (T:=T) hp.1
 have hl2:=pY b T l
 rw [hx] at hl2 ⊢
 have hin:Yu T (x::r):=by rw [← hx]; exact agB ok h.ins
 have m2:=sZ ok (zK a b T L T L p law) (fun l'=>(if 0≤0∧0<(l'.length:Int) then
  (WQ a b T L T L law (l'.getD 0 default)).bind fun v20=>
   if 0≤0∧0<(l'.length:Int) then
    if 0≤0∧0<(l'.length:Int) then
     aS (wJ a b T L T L p v20) 1000000000 (0,l'.set 0 (IntKind.i64.wrap ((l'.getD 0 default) - v20)))
     else none
    else none
  else none)) (fun i l' hi hl hx hy=>Ku ok a T L L i l' hi hl hx hy _) (fun i l' hi hl _=>by
  have e1:¬ (decide ((IntKind.i64.wrap ((i:Int)+1))<(l'.length:Int)))=true:=by rw [decide_eq_true_eq,wS i (by omega)]; omega
  unfold zK
  exact if_neg e1) r [x] 1000000000 (fun z hz=>hin z (by simp [hz])) (by simp at hl2 ⊢; omega) (by simp at hl2; omega)
 simp only [List.length_cons,List.length_nil,List.singleton_append] at m2
 rw [show ((0+1:Nat):Int)=1 from rfl] at m2
 rw [m2]
 rw [List.singleton_append] at hs
 rw [← hs]
 have hml:=xI b T l
 rw [if_pos ⟨by omega,by omega⟩,azN ok _ h.law,Option.bind_some]
 have hn:=Di ok ((jv b T l).getD 0 default) h.law
 rw [if_pos ⟨by omega,by omega⟩,if_pos ⟨by omega,by omega⟩,Vb ok h _ hn]
 have m3:=Dp (wJ a b T L T L p (jD T (L.getD law.toNat default) ((jv b T l).getD 0 default))) (fun x y=>IntKind.i64.wrap (x+y)) p
  (fun l'=>(OU l' a b T L T L).bind fun v24=>(nS (!v24) 22).bind fun v25=>some (l',jD T (L.getD law.toNat default) ((jv b T l).getD 0 default),v25))
  (fun i l' hi hl=>by
   simp only [wJ,oz hi,if_true,if_pos (lF hi),if_pos (lF (show i<l'.length by omega)),Int.toNat_natCast,wS i (by have:=h.len; omega)])
  (fun l' hl=>by simp [wJ])
  (vG (jD T (L.getD law.toNat default) ((jv b T l).getD 0 default)) (jv b T l)) p [] [] 1000000000 rfl (by rw [rZ,hml,h.len]) rfl (by rw [rZ]; omega)
 simp only [List.nil_append,List.length_nil] at m3
 rw [show ((0:Nat):Int)=0 from rfl] at m3
 rw [m3,Lc ok h _ hn]
 have ho:=sQ b T (L.getD law.toNat default) l p
 show (OU (iC b T (L.getD law.toNat default) l p) a b T L T L).bind _=_
 rw [ar4 ⟨by omega,by omega⟩ _ _ _ _ _ _ (by omega),Option.bind_some,Yt,Option.bind_some]
 rw [List.any_eq_not_all_not,Bool.not_not]
 simp only [Bool.not_not]
 rfl
theorem Wx {ρ:Type} (p:Int→Bool) (v:ρ) (l:List Int):dA (fun i=>if p (l.getD i default)=true then none else some v) 0 l.length=if l.all p=true then none else some v:=by
 by_cases h:l.all p=true
 ·rw [if_pos h]
  refine sD fun j _ hj=> ?_
  have hj':j<l.length:=by omega
  rw [List.all_eq_true] at h
  rw [if_pos (h _ (by rw [List.getD_eq_getElem?_getD,List.getElem?_eq_getElem hj',Option.getD_some]; exact List.getElem_mem hj'))]
 ·rw [if_neg h]
  cases hs:dA (fun i=>if p (l.getD i default)=true then none else some v) 0 l.length with
  | none=>
   exfalso; apply h
   rw [List.all_eq_true]
   intro x hx
   obtain ⟨i,hi,rfl⟩:=xJ hx
   have:=jq hs i (by omega) (by omega)
   split at this
   ·assumption
   ·cases this
  | some w=>
   obtain ⟨j,_,_,hj⟩:=gX hs
   split at hj
   ·cases hj
   ·exact hj.symm
theorem p62 {a b:Int} {T:List (Int×Int)} {L:List (List (Int×Int))} (ok:fJ a b T L) {i e:Int} (hi:0≤i∧i<L.length) (he:inT T e=true):ah3 a b T L i e=some (jD T (L.getD i.toNat default) e):=by
 obtain ⟨N,D,h1,P⟩:=p57 ok a b L e he
 obtain ⟨A,B,_,h2,h3⟩:=Vg ok hi P
 have h3':r52 A B=some (jD T (L.getD i.toNat default) e):=h3
 unfold ah3
 rw [h1,Option.bind_some,if_pos hi]
 simp only
 rw [h2,Option.bind_some]
 simp only
 rw [h3',Option.bind_some]
theorem azG {a b:Int} {T:List (Int×Int)} {L:List (List (Int×Int))} (ok:fJ a b T L) {x y:Int} (hx:inT T x=true) (hy:inT T y=true):ahV a b T L x y=some (x - qS b T x y,y+qS b T x y):=by
 obtain ⟨N,D,h1,P⟩:=p57 ok a b L x hx
 obtain ⟨M,E,h2,Q⟩:=p57 ok a b L y hy
 have hq:=q_in ok.mix ok.Yk (u:=(T.getD 0 default).1) (v:=(T.getD (T.length - 1) default).1) ((kK ok _).1 hx) ((kK ok _).1 hy)
 have r1:=ok.wY.rng 0 (by have:=ok.BG; omega)
 have r2:=ok.wY.rng (T.length - 1) (by have:=ok.BG; omega)
 unfold ahV
 rw [h1,h2,Option.bind_some,Option.bind_some]
 simp only
 have:=aq4 ok.mix P Q
 rw [show r52=CB from rfl,this,Option.bind_some]
 rw [IntWalk.i64_in _ ⟨by omega,by omega⟩,IntWalk.i64_in (y+_) ⟨by omega,by omega⟩]
theorem azM {a b:Int} {T:List (Int×Int)} {L:List (List (Int×Int))} (ok:fJ a b T L) {l:List Int} (h:Yu T l) (hp:0<l.length∧l.length<1000):ah4 a b T L l=some (jv b T l):=by
 unfold ah4
 rw [p19 l (by omega),Option.bind_some]
 obtain ⟨x,r,hx,hs⟩:=Dc (b:=b) (T:=T) hp.1
 have hl2:=pY b T l
 have step:∀ (s1:Int×List Int) (i:Nat) (l':List Int),i+1<l'.length→l'.length<1000000→inT T (l'.getD i default)=true→inT T (l'.getD (i+1) default)=true→
  rD a b T L s1 ((i:Int),l')= .next ((i:Int)+2,(l'.set i (l'.getD i default - qS b T (l'.getD i default) (l'.getD (i+1) default))).set (i+1) (l'.getD (i+1) default+qS b T (l'.getD i default) (l'.getD (i+1) default))):=by
  intro s1 i l' hi hl hx hy
  have e1:IntKind.i64.wrap ((i:Int)+1)=((i+1:Nat):Int):=by rw [wS i (by omega)]; omega
  have e2:IntKind.i64.wrap ((i:Int)+2)=(i:Int)+2:=IntWalk.i64_in _ ⟨by omega,by omega⟩
  simp only [rD,e1,e2,oz hi,if_true,if_pos (lF (show i<l'.length by omega)),if_pos (lF hi),Int.toNat_natCast,azG ok hx hy,aP]
 have stop:∀ (s1:Int×List Int) (i:Nat) (l':List Int),l'.length≤i+1→l'.length<1000000→i≤l'.length→rD a b T L s1 ((i:Int),l')= .out (some (.next (IntKind.i64.wrap (s1.1+1),l'))):=by
  intro s1 i l' hi hl _
  have e1:¬ (decide ((IntKind.i64.wrap ((i:Int)+1))<(l'.length:Int)))=true:=by rw [decide_eq_true_eq,wS i (by omega)]; omega
  simp only [rD,if_neg e1]
 have hin:Yu T (x::r):=by rw [← hx]; exact agB ok h
 refine jW 2 (zI a b T L) (fun i=>match i with | 0=>(0,l) | 1=>(1,oH b T l) | _=>(2,jv b T l)) _ (by omega) (fun i hi=> ?_) ?_
 ·have:i=0∨i=1:=by omega
  rcases this with rfl | rfl
  ·have m1:=sZ ok (rD a b T L (0,l)) _ (step (0,l)) (stop (0,l)) l [] 1000000000 h (by simp; omega) (by omega)
   simp only [List.nil_append,List.length_nil] at m1
   rw [show ((0:Nat):Int)=0 from rfl] at m1
   show zI a b T L (0,l)=_
   rw [zI,if_pos (show (decide (_<(2:Int)))=true from rfl)]
   show (aS (rD a b T L (0,l)) 1000000000 (0,l)).getD (.out none)=_
   rw [m1]; rfl
  ·have m1:=sZ ok (rD a b T L (1,oH b T l)) _ (step (1,oH b T l)) (stop (1,oH b T l)) r [x] 1000000000 (fun z hz=>hin z (by simp [hz])) (by rw [hx] at hl2; simp at hl2 ⊢; omega) (by rw [hx] at hl2; simp at hl2; omega)
   simp only [List.length_cons,List.length_nil,List.singleton_append] at m1
   rw [show ((0+1:Nat):Int)=1 from rfl] at m1
   rw [List.singleton_append] at hs
   show zI a b T L (1,oH b T l)= .next (2,jv b T l)
   rw [zI,if_pos (show (decide (_<(2:Int)))=true from rfl)]
   show (aS (rD a b T L (1,oH b T l)) 1000000000 (1,oH b T l)).getD (.out none)=_
   rw [hs,hx]
   rw [hx] at m1
   rw [m1]; rfl
 ·rfl
theorem p71 {a b:Int} {T:List (Int×Int)} {L:List (List (Int×Int))} (ok:fJ a b T L) {l p:List Int} {law:Int} (h:wK T L l p law) :
 r80 a b T L l p law=some (if (iC b T (L.getD law.toNat default) l p).all (inT T)=true then (iC b T (L.getD law.toNat default) l p,jD T (L.getD law.toNat default) (hd (jv b T l)),true) else ([],0,false)):=by
 have hp:=h.pos
 have htl:=ok.BG
 have hml:=xI b T l
 unfold r80
 rw [azM ok h.ins hp,Option.bind_some,if_pos ⟨by omega,by omega⟩,p62 ok h.law,Option.bind_some]
 ·have hn:=Di ok ((jv b T l).getD 0 default) h.law
  rw [if_pos ⟨by omega,by omega⟩,if_pos ⟨by omega,by omega⟩,Vb ok h _ hn]
  have m3:=Dp (VO a b T L p (jD T (L.getD law.toNat default) ((jv b T l).getD 0 default))) (fun x y=>IntKind.i64.wrap (x+y)) p
   (fun l'=>aS (GY a b T L (jD T (L.getD law.toNat default) ((jv b T l).getD 0 default)) ((p.length:Int),l')) 1000000000 0)
   (fun i l' hi hl=>by
    simp only [VO,oz (show i<l'.length by omega),if_true,if_pos (lF hi),if_pos (lF (show i<l'.length by omega)),Int.toNat_natCast,wS i (by have:=h.len; omega)])
   (fun l' hl=>by simp [VO,hl])
   (vG (jD T (L.getD law.toNat default) ((jv b T l).getD 0 default)) (jv b T l)) p [] [] 1000000000 rfl (by rw [rZ,hml,h.len]) rfl (by rw [rZ]; omega)
  simp only [List.nil_append,List.length_nil] at m3
  rw [show ((0:Nat):Int)=0 from rfl] at m3
  rw [m3,Lc ok h _ hn]
  have ho:=sQ b T (L.getD law.toNat default) l p
  show aS (GY a b T L (jD T (L.getD law.toNat default) (hd (jv b T l))) ((p.length:Int),iC b T (L.getD law.toNat default) l p)) 1000000000 0=_
  generalize iC b T (L.getD law.toNat default) l p=out at*
  generalize jD T (L.getD law.toNat default) (hd (jv b T l))=n at*
  have hs:aS (GY a b T L n ((p.length:Int),out)) 1000000000 0=JQ (dA (fun i=>if inT T (out.getD i default)=true then none else some (([]:List Int),(0:Int),false)) 0 out.length) (some (out,n,true)):=by
   refine iU out.length _ _ _ (by omega) (fun i hi=> ?_) (by simp [GY])
   simp only [GY,oz hi,if_true,if_pos (lF hi),Int.toNat_natCast,wS i (by omega),p56 a b T L _ (show 0<T.length by omega) (show T.length<1000 by omega),aP]
   cases inT T (out.getD i default)<;>simp
  rw [hs,Wx]
  by_cases hc:out.all (inT T)=true
  ·rw [if_pos hc,if_pos hc]; rfl
  ·rw [if_neg hc,if_neg hc]; rfl
 ·refine I7 ok h.ins _ ?_
  cases hq:jv b T l with
  | nil=>rw [hq] at hml; simp at hml; omega
  | cons x r=>simp
end Go.Proofs.YtofkgmldcjagmaaGreatDoor

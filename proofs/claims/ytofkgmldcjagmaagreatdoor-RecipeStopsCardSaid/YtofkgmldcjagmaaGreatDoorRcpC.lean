/- RecipeStops: a stopped recipe by the code and by the reference. -/
import Derived.Test.YtofkgmldcjagmaaGreatDoorF05
import Derived.Test.YtofkgmldcjagmaaGreatDoorF11
import Derived.Test.YtofkgmldcjagmaaGreatDoorF12
import Derived.Test.YtofkgmldcjagmaaGreatDoorF13
import Derived.Test.YtofkgmldcjagmaaGreatDoorF14
import Derived.Test.YtofkgmldcjagmaaGreatDoorF15
import Derived.Test.YtofkgmldcjagmaaGreatDoorRcpB
set_option linter.unusedVariables false
set_option linter.unusedSimpArgs false
namespace Go.Proofs.YtofkgmldcjagmaaGreatDoor
open Go.Abs
theorem powR {W:TL} (hl:W.length<1000) (hW:∀ w∈W,(0≤w.1∧w.1≤1000)∧(0≤w.2∧w.2≤1000)∧w.1≤w.2) {p:Int} (hp:0≤p∧p≤10000) (a b:Int) (T:TL) (L:List TL) (lo hi:List Int) (air spread:Int) :
 r59 a b T L lo hi W air spread p 0=some (pwV W p):=by
 unfold r59
 refine iter_inv (b59_1 W p 0) (fun i s=>s=((pwV W p).take i,(i:Int))) (fun o=>o=some (pwV W p)) W.length ?_ ?_ _ (by simp) _ (by omega)
 ·rintro i _ hi rfl
  have hw:=hW _ (getD_mem hi)
  obtain ⟨e1,m1,m2,e2,e3,h4,h5⟩:=pw1 hw hp
  have x1:r52 ((W.getD i default).1+(W.getD i default).2) 2=some (((W.getD i default).1+(W.getD i default).2) / 2):=p129 _ 2 (by decide) (by omega) (by omega)
  have x2:r52 (p*(((W.getD i default).1+(W.getD i default).2) / 2)) 1000=some (p*(((W.getD i default).1+(W.getD i default).2) / 2) / 1000):=p129 _ 1000 (by decide) (by omega) (by omega)
  have hlen:((pwV W p).take i).length=i:=by simp [pwV]; omega
  have z1:decide ((0:Int)<0)=false:=rfl
  have z2:decide ((0:Int)>0)=false:=rfl
  refine .inl ⟨((pwV W p).take (i+1),((i+1:Nat):Int)),?_,rfl⟩
  simp only [b59_1,ltN hi,if_true,if_pos (rgN hi),Int.toNat_natCast,wS i (by omega),e1,x1,bindC,z1,z2,Bool.false_eq_true,if_false,e3,x2,hlen]
  rw [if_pos ⟨by omega,by omega⟩]
  congr 2
  rw [List.take_add_one,List.getElem?_eq_getElem (by simpa [pwV] using hi)]
  simp [pwV,List.getD_eq_getElem?_getD,hi]
 ·rintro _ rfl
  refine ⟨some (pwV W p),?_,rfl⟩
  simp only [b59_1,geN,Bool.false_eq_true,if_false]
  rw [List.take_of_length_le (by simp [pwV])]
section
variable {a b:Int} {T:TL} {L:List TL} {lo hi:List Int} {W:TL} {air spread:Int}
theorem stepR (B:BenOk a b T L lo hi W air spread) {s:List Int} (H:AllOk a b T L s) {x:Int×Int} (hx:(0≤x.1∧x.1≤10000)∧0≤x.2∧x.2<L.length) :
 r49 a b T L lo hi W air spread s x.1 x.2=some (if (outS b T (L.getD x.2.toNat default) s (pwV W x.1)).all (inT T)=true then (outS b T (L.getD x.2.toNat default) s (pwV W x.1),true) else ([],false)):=by
 obtain ⟨f1,f2,f3,f4,f5,f6⟩:=B.few
 obtain ⟨-,hd,-⟩:=tickC B H hx
 unfold r49
 rw [powR (by omega) B.wts hx.1,Option.bind_some,p71 H.ok (H.step hd),Option.bind_some]
 by_cases h:(outS b T (L.getD x.2.toNat default) s (pwV W x.1)).all (inT T)=true
 ·simp only [if_pos h]
 ·simp only [if_neg h]
theorem stopErrR (t:TL) (n k most:Int):r13 t n k most=some (if (inR n 0 (t.length:Int) && inR k 200 3000) && inR most 0 200 then 0 else 2):=by
 have h:r48 k=some (inR k 200 3000):=by unfold r48; rw [p59]; rfl
 unfold r13
 rw [p59,Option.bind_some,h]
 simp only [p59,Option.isSome_some,implies_true,if_true,Option.getD_some]
 rcases Bool.eq_false_or_eq_true (inR n 0 (t.length:Int)) with c1 | c1<;>rcases Bool.eq_false_or_eq_true (inR k 200 3000) with c2 | c2<;>rcases Bool.eq_false_or_eq_true (inR most 0 200) with c3 | c3<;>simp only [c1,c2,c3]<;>rfl
def hotR (b:Int) (T:TL) (L:List TL) (W:TL) (k most:Int) (es:List Int) (m:Int) (made:TL):Ctl (List Int×Int×TL) (TL×Int):=
 if es.any (hotter T k)=true then
  if m=most then .out (some ([],24)) else
  if (outS b T (L.getD ((L.length:Int) - 1).toNat default) es (pwV W 0)).all (inT T)=true then .next (outS b T (L.getD ((L.length:Int) - 1).toNat default) es (pwV W 0),m+1,made++[(0,(L.length:Int) - 1)]) else .out (some ([],22))
 else .out (some (made,0))
theorem scanR (B:BenOk a b T L lo hi W air spread) {k most:Int} (hk:200≤k∧k≤3000) {es:List Int} {m:Nat} {made:TL} (H:AllOk a b T L es) (hm:m≤200) (hl:made.length≤400) :
 iterC (b14_3 a b T L lo hi W air spread k most (es,(m:Int),made)) 1000000000 (false,0)=some (hotR b T L W k most es m made):=by
 obtain ⟨f1,f2,f3,f4,f5,f6⟩:=B.few
 have hlen:=H.len; have hc:=H.ok.cells; have hL1:=B.air
 have e1:=stepR B H (x:=(0,(L.length:Int) - 1)) ⟨⟨by show (0:Int)≤0; decide,by show (0:Int)≤10000; decide⟩,by show 0≤(L.length:Int) - 1; omega,by show (L.length:Int) - 1<_; omega⟩
 simp only at e1
 refine iter_inv (b14_3 a b T L lo hi W air spread k most (es,(m:Int),made)) (fun i s=>s=((es.take i).any (hotter T k),(i:Int))) (fun o=>o=some (hotR b T L W k most es m made)) es.length ?_ ?_ _ (by simp) _ (by omega)
 ·rintro i _ hix rfl
  have e:=hotterR H.ok hk (H.ins _ (getD_mem hix))
  refine .inl ⟨((es.take (i+1)).any (hotter T k),((i+1:Nat):Int)),?_,rfl⟩
  simp only [b14_3,ltN hix,if_true,Int.toNat_natCast,wS i (by omega),e,Option.isSome_some,implies_true,Option.getD_some]
  rw [if_pos (fun _=>rgN hix)]
  congr 2
  rw [List.take_add_one,List.getElem?_eq_getElem hix,List.any_append]
  simp [List.getD_eq_getElem?_getD,hix]
 ·rintro _ rfl
  refine ⟨some (hotR b T L W k most es m made),?_,rfl⟩
  simp only [b14_3,geN,Bool.false_eq_true,if_false,List.take_of_length_le (Nat.le_refl es.length),wI1 f2]
  congr 2
  unfold hotR
  cases h:es.any (hotter T k) with
  | false=>rfl
  | true=>
   simp only [Bool.not_true,Bool.false_eq_true,if_false,if_true]
   by_cases hq:(m:Int)=most
   ·rw [if_pos (by simpa using hq),if_pos hq]
   ·rw [if_neg (by simpa using hq),if_neg hq,e1]
    simp only [bindC]
    by_cases ho:(outS b T (L.getD ((L.length:Int) - 1).toNat default) es (pwV W 0)).all (inT T)=true
    ·simp only [if_pos ho,Bool.not_true,Bool.false_eq_true,if_false,wS m (by omega)]
     rw [if_pos ⟨by omega,by omega⟩]
    ·simp only [if_neg ho,Bool.not_false,if_true]
theorem stopRef (B:BenOk a b T L lo hi W air spread) {t:TL} (ht:TksOk L t) {n k most:Int} (hn:0≤n∧n≤t.length) (hk:200≤k∧k≤3000) (hm:0≤most∧most≤200) :
 r14 a b T L lo hi W air spread t n k most=some (stopS b T L W lo t n k most):=by
 obtain ⟨f1,f2,f3,f4,f5,f6⟩:=B.few
 have ht1:=ht.1
 have hL1:=B.air
 have hlt:(t.take n.toNat).length=n.toNat:=by rw [List.length_take]; omega
 unfold r14
 refine iter_inv (b14_1 a b T L lo hi W air spread t n k most) (fun i s=>s.2.2=(i:Int)∧s.1=t.take i∧runT b T L W lo (t.take i)=some s.2.1) (fun o=>o=some (stopS b T L W lo t n k most)) n.toNat ?_ ?_ _ ⟨rfl,rfl,rfl⟩ _ (by omega)
 ·rintro i ⟨_,s,_⟩ hi ⟨rfl,rfl,hr⟩
  have H:AllOk a b T L s:=runT_all _ _ _ B.box.lo hr
  have hit:i<t.length:=by omega
  have hx:=ht.2 _ (getD_mem hit)
  have e1:=stepR B H hx
  have hli:(t.take i).length=i:=by rw [List.length_take]; omega
  have g1:decide ((i:Int)<n)=true:=decide_eq_true (by omega)
  simp only [b14_1,g1,if_true,if_pos (rgN hit),Int.toNat_natCast,e1,bindC,wS i (by omega),hli]
  by_cases hc:(outS b T (L.getD (t.getD i default).2.toNat default) s (pwV W (t.getD i default).1)).all (inT T)=true
  ·have er:t.take (i+1)=t.take i++[t.getD i default]:=by
    rw [List.take_add_one,List.getElem?_eq_getElem hit,List.getD_eq_getElem?_getD,List.getElem?_eq_getElem hit]; rfl
   simp only [if_pos hc,Bool.not_true,Bool.false_eq_true,if_false]
   rw [if_pos ⟨by omega,by omega⟩]
   refine .inl ⟨_,rfl,rfl,er.symm,?_⟩
   rw [er,runT_snoc _ _ _ _ hr,if_pos hc]
  ·simp only [if_neg hc,Bool.not_false,if_true]
   refine .inr ⟨_,rfl,?_⟩
   have hnone:runT b T L W lo (t.take n.toNat)=none:=by
    cases hq:runT b T L W lo (t.take n.toNat) with
    | none=>rfl
    | some s1=>
     exfalso
     obtain ⟨s2,q1,q2,q3⟩:=runT_take _ _ _ hq i (by rw [hlt]; exact hi)
     rw [take_get t _ i hi hit] at q2
     have ett:(t.take n.toNat).take i=t.take i:=by rw [List.take_take,Nat.min_eq_left (by omega)]
     rw [ett,hr] at q1
     obtain rfl:=Option.some.inj q1
     exact hc q2
   unfold stopS
   rw [hnone]
 ·rintro ⟨_,s,_⟩ ⟨rfl,rfl,hr⟩
  have g1:decide ((n.toNat:Int)<n)=false:=decide_eq_false (by omega)
  simp only [b14_1,g1,Bool.false_eq_true,if_false]
  refine ⟨_,rfl,?_⟩
  have es:stopS b T L W lo t n k most=afterS b T L W k most.toNat s (t.take n.toNat):=by unfold stopS; rw [hr]
  rw [es]
  refine iter_inv (b14_2 a b T L lo hi W air spread k most) (fun m u=>AllOk a b T L u.1∧u.2.1=(m:Int)∧u.2.2.length=n.toNat+m∧afterS b T L W k (most.toNat - m) u.1 u.2.2=afterS b T L W k most.toNat s (t.take n.toNat)) (fun o=>o=some (afterS b T L W k most.toNat s (t.take n.toNat))) most.toNat ?_ ?_ _ ⟨runT_all _ _ _ B.box.lo hr,rfl,hlt,rfl⟩ _ (by omega)
  ·rintro m ⟨es,_,made⟩ hm1 ⟨H,rfl,hml,he⟩
   simp only at H hml he
   obtain ⟨f,hf⟩:∃ f,most.toNat - m=f+1:=⟨most.toNat - m - 1,by omega⟩
   rw [hf,afterS] at he
   simp only [b14_2,scanR B (most:=most) hk H (show m≤200 by omega) (show made.length≤400 by omega),Option.getD_some]
   unfold hotR
   by_cases ha:es.any (hotter T k)=true
   ·rw [if_pos ha] at he ⊢
    rw [if_neg (by omega)]
    by_cases ho:(outS b T (L.getD ((L.length:Int) - 1).toNat default) es (pwV W 0)).all (inT T)=true
    ·rw [if_pos ho] at he ⊢
     refine .inl ⟨_,rfl,H.next ho,rfl,by simp only [List.length_append,List.length_singleton]; omega,?_⟩
     rw [show most.toNat - (m+1)=f by omega]; exact he
    ·rw [if_neg ho] at he ⊢
     exact .inr ⟨_,rfl,by rw [← he]⟩
   ·rw [if_neg ha] at he ⊢
    exact .inr ⟨_,rfl,by rw [← he]⟩
  ·rintro ⟨es,_,made⟩ ⟨H,rfl,hml,he⟩
   simp only at H hml he
   rw [Nat.sub_self,afterS] at he
   simp only [b14_2,scanR B (most:=most) hk H (show most.toNat≤200 by omega) (show made.length≤400 by omega),Option.getD_some]
   unfold hotR
   by_cases ha:es.any (hotter T k)=true
   ·rw [if_pos ha] at he ⊢
    rw [if_pos (by omega)]
    exact ⟨_,rfl,by rw [← he]⟩
   ·rw [if_neg ha] at he ⊢
    exact ⟨_,rfl,by rw [← he]⟩
theorem copyT {t:TL} (h:t.length≤200):r10 t=some t:=by rw [r10,if_pos ⟨by omega,by omega⟩]
theorem light (x1 x6:Int) (x2:TL) (x0:List TL) (x3 x4:List Int) (x5:TL) (x7 x8:Int):∃ v,r7 x1 x6 x2 x0 x3 x4 x5 x7 x8=some v∧(v=true→x1≤14∧x2.length≤14∧x0.length≤14∧x3.length≤14∧x4.length≤14∧x5.length≤14∧∀ x∈x0,x.length<1000):=by
 unfold r7
 by_cases c:((((((decide (x1>14)) || (decide ((x2.length:Int)>14))) || (decide ((x0.length:Int)>14))) || (decide ((x3.length:Int)>14))) || (decide ((x4.length:Int)>14))) || (decide ((x5.length:Int)>14)))=true
 ·rw [if_pos c]; exact ⟨false,rfl,fun h=>by cases h⟩
 rw [if_neg c]
 simp only [Bool.or_eq_true,decide_eq_true_eq,not_or] at c
 obtain ⟨⟨⟨⟨⟨c1,c2⟩,c3⟩,c4⟩,c5⟩,c6⟩:=c
 refine iter_inv (b7_1 x0) (fun i s=>s=(i:Int)∧∀ j,j<i→(x0.getD j default).length≤14) (fun o=>∃ v,o=some v∧(v=true→x1≤14∧x2.length≤14∧x0.length≤14∧x3.length≤14∧x4.length≤14∧x5.length≤14∧∀ x∈x0,x.length<1000)) x0.length ?_ ?_ _ ⟨rfl,fun j hj=>absurd hj (by omega)⟩ _ (by omega)
 ·rintro i _ hi ⟨rfl,hall⟩
  simp only [b7_1,ltN hi,if_true,if_pos (rgN hi),Int.toNat_natCast,wS i (by omega)]
  by_cases w1:((x0.getD i default).length:Int)>14
  ·rw [if_pos (decide_eq_true w1)]; exact .inr ⟨_,rfl,_,rfl,fun h=>by cases h⟩
  rw [if_neg (by rw [decide_eq_true_eq]; exact w1)]
  refine .inl ⟨_,rfl,rfl,fun j hj=> ?_⟩
  by_cases hji:j=i
  ·subst hji; omega
  ·exact hall j (by omega)
 ·rintro _ ⟨rfl,hall⟩
  simp only [b7_1,geN,Bool.false_eq_true,if_false]
  refine ⟨_,rfl,_,rfl,fun _=>⟨by omega,by omega,by omega,by omega,by omega,by omega,fun x hx=> ?_⟩⟩
  obtain ⟨j,hj,rfl⟩:=List.getElem_of_mem hx
  have:=hall j hj
  rw [List.getD_eq_getElem?_getD,List.getElem?_eq_getElem hj,Option.getD_some] at this
  omega
theorem sameT' {t:TL} (h:t.length≤400):r15 t t=some true:=by
 unfold r15
 rw [if_neg (by simp)]
 refine iter_inv (b15_1 t t) (fun i s=>s=(i:Int)) (fun o=>o=some true) t.length ?_ ?_ _ rfl _ (by omega)
 ·rintro i _ hi rfl
  refine .inl ⟨((i+1:Nat):Int),?_,rfl⟩
  simp only [b15_1,ltN hi,if_true,if_pos (rgN hi),Int.toNat_natCast,wS i (by omega),beq_self_eq_true,Bool.and_self,Bool.not_true,Bool.false_eq_true,if_false]; rfl
 ·rintro _ rfl
  exact ⟨_,by simp only [b15_1,geN,Bool.false_eq_true,if_false],rfl⟩
theorem copyG (a b:Int) (T:TL) (L:List TL) (lo hi:List Int) (W:TL) (air spread:Int) (hT:T.length<1000) (hn:L.length<1000) (hL:∀ x∈L,x.length<1000) (h1:lo.length<1000000) (h2:hi.length<1000000) (hw:W.length<1000):r9 a b T L lo hi W air spread=some (a,b,T,L,lo,hi,W,air,spread):=by
 unfold r9
 rw [p18 a b T L hT hn hL,Option.bind_some,p40 lo hi h1 h2,Option.bind_some,r46,if_pos ⟨by omega,by omega⟩]; rfl
theorem after_len {k:Int}:∀ (f:Nat) (s:List Int) (out:TL),(afterS b T L W k f s out).1.length≤out.length+f
 | 0,s,out=>by unfold afterS; split<;>simp
 | f+1,s,out=>by
  unfold afterS
  split
  ·split
   ·have:=after_len (k:=k) f (outS b T (L.getD ((L.length:Int) - 1).toNat default) s (pwV W 0)) (out++[(0,(L.length:Int) - 1)])
    simp only [List.length_append,List.length_singleton] at this
    omega
   ·simp
  ·show out.length≤_; omega
theorem stop_len {t:TL} {n k most:Int} (h:t.length≤200) (hm:0≤most∧most≤200):(stopS b T L W lo t n k most).1.length≤400:=by
 unfold stopS
 split
 ·simp
 ·have:=after_len (b:=b) (T:=T) (L:=L) (W:=W) (k:=k) most.toNat ‹_› (t.take n.toNat)
  rw [List.length_take] at this
  omega
end
theorem awakeR:r6=some true:=by decide +kernel
theorem recipeStops_law (a b:Int) (T:TL) (L:List TL) (lo hi:List Int) (W:TL) (air spread:Int) (t:TL) (n k most:Int):r3 a b T L lo hi W air spread t n k most=some true:=by
 obtain ⟨v2,h7,hf⟩:=light a b T L lo hi W air spread
 unfold r3
 rw [awakeR,Option.bind_some,if_neg (by decide),h7,Option.bind_some]
 by_cases hg:((!v2) || (decide ((t.length:Int)>30)))=true
 ·rw [if_pos hg]
 rw [if_neg hg]
 simp only [Bool.or_eq_true,not_or,Bool.not_eq_true',decide_eq_true_eq] at hg
 obtain ⟨q1,q2⟩:=hg
 obtain ⟨g1,g2,g3,g4,g5,g6,g7⟩:=hf (by simpa using q1)
 have hl:t.length≤30:=by omega
 have hn:L.length<1000:=by omega
 have hR:=benR a b T L lo hi W air spread hn g7 (by omega) (by omega) (by omega)
 have h11:r11 a b T L lo hi W air spread=some (benE a b T L lo hi W air spread).2:=by unfold r11; rw [hR]; rfl
 rw [copyG a b T L lo hi W air spread (by omega) hn g7 (by omega) (by omega) (by omega),Option.bind_some,copyT (by omega),Option.bind_some]
 simp only
 have F:∀ e:Int,e≠0→(((e == e) && ((([]:TL).length:Int) == 0)) && (!false))=true:=fun e _=>by simp
 by_cases hb:(benE a b T L lo hi W air spread).2=0
 ·by_cases ht0:ticksE L t=0
  ·have B:=ben_ok hb
   have ht:=ticks_ok ht0
   rw [stopX B ht n k most ht0 hb,Option.bind_some,h11,Option.bind_some,hb,if_pos (by rfl),ticksR a b T L lo hi W air spread t hn,Option.bind_some,ht0,if_pos (by rfl),stopErrR,Option.bind_some]
   cases hc:(inR n 0 (t.length:Int) && inR k 200 3000) && inR most 0 200 with
   | false=>
    simp only [Bool.false_eq_true,if_false]
    rw [if_pos (by decide)]; rfl
   | true=>
    have hc2:=hc
    simp only [Bool.and_eq_true] at hc2
    have hn':=inR_iff'.1 hc2.1.1; have hk:=inR_iff'.1 hc2.1.2; have hm:=inR_iff'.1 hc2.2
    simp only [if_true]
    rw [if_neg (by decide),stopRef B ht hn' hk hm,Option.bind_some]
    have hsl:=stop_len (b:=b) (T:=T) (L:=L) (W:=W) (lo:=lo) (t:=t) (n:=n) (k:=k) (most:=most) (by omega) hm
    have hs:r15 (stopR t n (stopS b T L W lo t n k most)).1 (stopS b T L W lo t n k most).1=some true:=by
     show r15 (stopS b T L W lo t n k most).1 _=_
     exact sameT' (by omega)
    rw [hs,if_pos (show _→(some true).isSome=true from fun _=>rfl)]
    generalize stopS b T L W lo t n k most=y
    simp only [stopR,Option.getD_some,beq_self_eq_true,Bool.and_true,Bool.true_and]
    by_cases h0:y.2=0
    ·simp [h0]
    ·simp [h0]
  ·have he:(if (benE a b T L lo hi W air spread).2=0 then ticksE L t else (benE a b T L lo hi W air spread).2)=ticksE L t:=if_pos hb
   rw [stopErrC a b T L lo hi W air spread t n k most (by omega) hn g7 (by omega) (by omega) (by omega) (by omega) (by rw [he]; exact ht0),he,Option.bind_some,h11,Option.bind_some,hb,if_pos (by rfl),ticksR a b T L lo hi W air spread t hn,Option.bind_some,if_neg (by simpa using ht0),if_pos (by simpa using ht0),F _ ht0]
 ·have he:(if (benE a b T L lo hi W air spread).2=0 then ticksE L t else (benE a b T L lo hi W air spread).2)=(benE a b T L lo hi W air spread).2:=if_neg hb
  rw [stopErrC a b T L lo hi W air spread t n k most (by omega) hn g7 (by omega) (by omega) (by omega) (by omega) (by rw [he]; exact hb),he,Option.bind_some,h11,Option.bind_some,if_neg (by simpa using hb),if_neg (by simpa using hb),if_pos (by simpa using hb),F _ hb]
end Go.Proofs.YtofkgmldcjagmaaGreatDoor

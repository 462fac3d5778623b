/- Ticks of the nominal part; the stop of a recipe. -/
import Derived.Test.YtlnlpncchgimgaaGreatDoorF04
import Derived.Test.YtlnlpncchgimgaaGreatDoorStopA
set_option linter.unusedVariables false
set_option linter.unusedSimpArgs false
namespace Go.Proofs.YtlnlpncchgimgaaGreatDoor
open Go.Abs
theorem low2 {v:Rat} {N D:Int} (h:At v N D 1000000 3000):0≤v.num∧v.num≤3000000000∧(v.den:Int)≤1000000:=by
 obtain ⟨g0,g1,g2⟩:=low h
 have h1:=h.pos; have h2:=h.le; have h3:=h.num
 have hg:0≤(Int.gcd N D:Int):=by omega
 have b1:0≤N / (Int.gcd N D:Int):=Int.ediv_nonneg h3.1 hg
 have b2:N / (Int.gcd N D:Int)≤N:=Int.ediv_le_self _ h3.1
 have b3:0≤D / (Int.gcd N D:Int):=Int.ediv_nonneg (by omega) hg
 have b4:D / (Int.gcd N D:Int)≤D:=Int.ediv_le_self _ (by omega)
 rw [Int.tdiv_eq_ediv_of_nonneg h3.1,IntWalk.i64_in _ ⟨by omega,by omega⟩] at g1
 rw [Int.tdiv_eq_ediv_of_nonneg (by omega),IntWalk.i64_in _ ⟨by omega,by omega⟩] at g2
 omega
def hotter (T:TL) (k x:Int):Bool:=decide (¬ pl T x≤(k:Rat))
theorem hotterR {a b:Int} {T:TL} {L:List TL} (ok:SetOk a b T L) {x k:Int} (hk:200≤k∧k≤3000) (hx:inT T x=true):r23 a b T L x k=some (hotter T k x):=by
 obtain ⟨N,D,e,P⟩:=p57 ok a b L x hx
 have q1:=P.pos; have q2:=P.le; have q3:=P.num
 have h0:(0:Rat)<D:=Rat.intCast_pos.2 q1
 have m1:0≤k*D:=Int.mul_nonneg (by omega) (by omega)
 have m2:k*D≤3000*1000000:=Int.mul_le_mul hk.2 q2 (by omega) (by omega)
 unfold r23
 rw [e,Option.bind_some]
 show some (decide (N>IntKind.i64.wrap (k*D)))=_
 rw [IntWalk.i64_in _ ⟨by omega,by omega⟩]
 unfold hotter
 congr 1
 rw [decide_eq_decide,gt_iff_lt, ← Int.not_le,not_congr]
 rw [← Rat.intCast_le_intCast,Rat.intCast_mul,P.eq]
 constructor
 ·intro h; exact Rat.le_of_mul_le_mul_right h h0
 ·intro h; exact Rat.mul_le_mul_of_nonneg_right h (Rat.le_of_lt h0)
theorem compC {a b:Int} {T:TL} {L:List TL} (s0:(setupErrV a b T L).2=0) (hT:T.length<1000) (hn:L.length<1000) (hL:∀ x∈L,x.length<1000) {x k:Int} (hk:200≤k∧k≤3000) (hx:inT T x=true) (lo hi:List Int) (W:TL) (air spread:Int) :
 ∃ c,r72 a b T L lo hi W air spread x k=some c∧(decide (c>0))=hotter T k x:=by
 have ok:=setOk_of s0
 obtain ⟨N,D,e,P⟩:=p57 ok a b L x hx
 obtain ⟨n1,n2,n3⟩:=low2 P
 have hd:0<((pl T x).den:Int):=by have:=(pl T x).den_pos; omega
 have m1:0≤k*((pl T x).den:Int):=Int.mul_nonneg (by omega) (by omega)
 have m2:k*((pl T x).den:Int)≤3000*1000000:=Int.mul_le_mul hk.2 n3 (by omega) (by omega)
 unfold r72
 rw [p53 a b T L x hT hn hL,if_pos (show setE a b T L=0 from s0),if_pos hx,Option.bind_some]
 simp only
 rw [IntWalk.i64_in (k*_) ⟨by omega,by omega⟩,IntWalk.i64_in _ ⟨by omega,by omega⟩]
 refine ⟨_,rfl,?_⟩
 unfold hotter
 rw [decide_eq_decide,Rat.le_iff]
 simp<;>omega
def runT (b:Int) (T:TL) (L:List TL) (W:TL):List Int→TL→Option (List Int)
 | s,[]=>some s
 | s,x::r=>if (outS b T (L.getD x.2.toNat default) s (pwV W x.1)).all (inT T)=true then runT b T L W (outS b T (L.getD x.2.toNat default) s (pwV W x.1)) r else none
theorem runT_snoc {b:Int} {T:TL} {L:List TL} {W:TL}:∀ (l:TL) (s s1:List Int) (x:Int×Int),runT b T L W s l=some s1→runT b T L W s (l++[x])=if (outS b T (L.getD x.2.toNat default) s1 (pwV W x.1)).all (inT T)=true then some (outS b T (L.getD x.2.toNat default) s1 (pwV W x.1)) else none
 | [],s,s1,x,h=>by cases h; rfl
 | y::r,s,s1,x,h=>by
  simp only [runT] at h
  split at h
  ·rename_i hc
   simp only [List.cons_append,runT,if_pos hc]
   exact runT_snoc r _ s1 x h
  ·cases h
theorem runT_all {a b:Int} {T:TL} {L:List TL} {W:TL}:∀ (l:TL) (s s1:List Int),AllOk a b T L s→runT b T L W s l=some s1→AllOk a b T L s1
 | [],s,s1,H,h=>by cases h; exact H
 | y::r,s,s1,H,h=>by
  simp only [runT] at h
  split at h
  ·rename_i hc; exact runT_all r _ s1 (H.next hc) h
  ·cases h
theorem runT_take {b:Int} {T:TL} {L:List TL} {W:TL}:∀ (l:TL) (s s1:List Int),runT b T L W s l=some s1→∀ i,i<l.length→∃ s2,runT b T L W s (l.take i)=some s2∧(outS b T (L.getD (l.getD i default).2.toNat default) s2 (pwV W (l.getD i default).1)).all (inT T)=true∧
 runT b T L W s (l.take (i+1))=some (outS b T (L.getD (l.getD i default).2.toNat default) s2 (pwV W (l.getD i default).1))
 | [],s,s1,h,i,hi=>by simp at hi
 | y::r,s,s1,h,i,hi=>by
  simp only [runT] at h
  split at h
  ·rename_i hc
   cases i with
   | zero=>exact ⟨s,rfl,hc,by show (if _ then _ else _)=_; exact if_pos hc⟩
   | succ i=>
    obtain ⟨s2,h1,h2,h3⟩:=runT_take r _ s1 h i (by simpa using hi)
    refine ⟨s2,by simp only [List.take_succ_cons,runT,if_pos hc]; exact h1,h2,by simp only [List.take_succ_cons,runT,if_pos hc]; exact h3⟩
  ·cases h
section
variable {a b:Int} {T:TL} {L:List TL} {lo hi:List Int} {W:TL} {air spread:Int}
theorem tickC (B:BenOk a b T L lo hi W air spread) {s:List Int} (H:AllOk a b T L s) {x:Int×Int} (hx:(0≤x.1∧x.1≤10000)∧0≤x.2∧x.2<L.length) :
 r68 a b T L lo hi W air spread x.1 x.2=some (pwV W x.1,x.2)∧driveErrV a L (pwV W x.1) x.2=0∧
 r20 a b T L s (pwV W x.1) x.2=some (if (outS b T (L.getD x.2.toNat default) s (pwV W x.1)).all (inT T)=true then (outS b T (L.getD x.2.toNat default) s (pwV W x.1),0) else ([],22)):=by
 obtain ⟨f1,f2,f3,f4,f5,f6⟩:=B.few
 have hl:=H.len; have hc:=H.ok.cells
 have hpl:(pwV W x.1).length=W.length:=by simp [pwV]
 have hd:driveErrV a L (pwV W x.1) x.2=0:=drive_zero (by rw [hpl]; exact B.wlen) (pw_rng B.wts hx.1) hx.2
 refine ⟨driveC (by omega) B.wts hx.1 a b T L lo hi air spread x.2,hd,?_⟩
 rw [p64 a b T L s (pwV W x.1) x.2 f1 f2 f3 (by omega) (by omega),H.stepped hd]; rfl
theorem take_get (l:TL) (n i:Nat) (h:i<n) (hl:i<l.length):(l.take n).getD i default=l.getD i default:=by
 simp [List.getD_eq_getElem?_getD,List.getElem?_take,h]
def hotT (b:Int) (T:TL) (L:List TL) (W:TL) (n most:Int) (es:List Int) (made:TL):Ctl (List Int×TL) (TL×Bool×Int):=
 if (made.length:Int)=n+most then .out (some ([],false,24)) else
 if (outS b T (L.getD ((L.length:Int) - 1).toNat default) es (pwV W 0)).all (inT T)=true then .next (outS b T (L.getD ((L.length:Int) - 1).toNat default) es (pwV W 0),made++[(0,(L.length:Int) - 1)]) else .out (some ([],false,22))
theorem scanC (B:BenOk a b T L lo hi W air spread) (t:TL) {n k most:Int} (hn:0≤n∧n≤200) (hk:200≤k∧k≤3000) (hm:0≤most∧most≤200) {es:List Int} {made:TL} (H:AllOk a b T L es) (hl:made.length≤400) :
 ((∃ e∈es,hotter T k e=true)∧iterC (b13_3 t n k most (a,b,T,L,lo,hi,W,air,spread,0) (es,made)) 1000000000 0=some (hotT b T L W n most es made))∨
 ((∀ e∈es,hotter T k e=false)∧iterC (b13_3 t n k most (a,b,T,L,lo,hi,W,air,spread,0) (es,made)) 1000000000 0=some (.out (some (made,decide (n<t.length),0)))):=by
 obtain ⟨f1,f2,f3,f4,f5,f6⟩:=B.few
 have hlen:=H.len; have hc:=H.ok.cells; have hL1:=B.air
 have ew:IntKind.i64.wrap (n+most)=n+most:=IntWalk.i64_in _ ⟨by omega,by omega⟩
 obtain ⟨e1,e2,e3⟩:=tickC B H (x:=(0,(L.length:Int) - 1)) ⟨⟨by show (0:Int)≤0; decide,by show (0:Int)≤10000; decide⟩,by show 0≤(L.length:Int) - 1; omega,by show (L.length:Int) - 1<_; omega⟩
 simp only at e1 e2 e3
 refine iter_inv (b13_3 t n k most (a,b,T,L,lo,hi,W,air,spread,0) (es,made)) (fun i s=>s=(i:Int)∧∀ j,j<i→hotter T k (es.getD j default)=false)
  (fun o=>((∃ e∈es,hotter T k e=true)∧o=some (hotT b T L W n most es made))∨((∀ e∈es,hotter T k e=false)∧o=some (.out (some (made,decide (n<t.length),0))))) es.length ?_ ?_ _ ⟨rfl,fun j hj=>absurd hj (by omega)⟩ _ (by omega)
 ·rintro i _ hix ⟨rfl,hall⟩
  obtain ⟨c,c1,c2⟩:=compC B.box.lo.set0 f1 f2 f3 hk (H.ins _ (getD_mem hix)) lo hi W air spread
  simp only [b13_3,ltN hix,if_true,if_pos (rgN hix),Int.toNat_natCast,wS i (by omega),c1,bindC,c2]
  cases hh:hotter T k (es.getD i default) with
  | false=>
   rw [if_neg (by decide)]
   refine .inl ⟨_,rfl,rfl,fun j hj=> ?_⟩
   by_cases hji:j=i
   ·subst hji; exact hh
   ·exact hall j (by omega)
  | true=>
   rw [if_pos rfl]
   refine .inr ⟨_,rfl,.inl ⟨⟨_,getD_mem hix,hh⟩,?_⟩⟩
   rw [decide_eq_true (show (i:Int)≥0 by omega),if_pos rfl,ew]
   unfold hotT
   congr 1
   by_cases hq:(made.length:Int)=n+most
   ·rw [if_pos (by simpa using hq),if_pos hq]
   ·rw [if_neg (by simpa using hq),if_neg hq,last f2]
    simp only
    rw [if_neg (by simpa using hq),e1]
    simp only [e3]
    by_cases ho:(outS b T (L.getD ((L.length:Int) - 1).toNat default) es (pwV W 0)).all (inT T)=true
    ·simp only [if_pos ho]
     rw [if_neg (by decide),if_pos ⟨by omega,by omega⟩]
    ·simp only [if_neg ho]
     rw [if_pos (by decide),if_pos (by decide)]
 ·rintro _ ⟨rfl,hall⟩
  refine ⟨_,by simp only [b13_3,geN,Bool.false_eq_true,if_false]; rfl,.inr ⟨fun e he=> ?_,?_⟩⟩
  ·obtain ⟨j,hj,rfl⟩:=List.getElem_of_mem he
   have:=hall j hj
   rwa [List.getD_eq_getElem?_getD,List.getElem?_eq_getElem hj,Option.getD_some] at this
  ·rw [if_neg (by decide)]
theorem stopC (B:BenOk a b T L lo hi W air spread) {t:TL} (ht:TksOk L t) {n k most:Int} (hn:0≤n∧n≤t.length) (hk:200≤k∧k≤3000) (hm:0≤most∧most≤200) :
 ∃ v,r13 a b T L lo hi W air spread t n k most=some v∧(v=([],false,22)∨v=([],false,24)∨∃ m:Nat,∃ s,v=(t.take n.toNat++List.replicate m (0,(L.length:Int) - 1),decide (n<t.length),0)∧m≤most∧runT b T L W lo v.1=some s∧∀ e∈s,hotter T k e=false):=by
 obtain ⟨f1,f2,f3,f4,f5,f6⟩:=B.few
 have ht1:=ht.1
 have hL1:=B.air
 have q1:inR n 0 (t.length:Int)=true:=inR_iff'.2 hn
 have q2:inR k 200 3000=true:=inR_iff'.2 hk
 have q3:inR most 0 200=true:=inR_iff'.2 hm
 have ew:IntKind.i64.wrap (n+most)=n+most:=IntWalk.i64_in _ ⟨by omega,by omega⟩
 have z2:r38 [0,0]=some 0:=fst [0,0] (by decide)
 unfold r13
 rw [openT B ht,Option.bind_some,wit,q1,Option.bind_some]
 simp only [wit]
 rw [q2,q3,if_pos (show True→(some true).isSome=true from fun _=>rfl),if_pos (show (true && (some true).getD default)=true→(some true).isSome=true from fun _=>rfl),unl,Option.bind_some]
 have ec:codeIf ((true && (some true).getD default) && (some true).getD default) 2=0:=rfl
 rw [ec,z2,Option.bind_some,if_neg (by decide),if_pos ⟨by omega,hn.1,hn.2⟩]
 have G:∀ o:Option (TL×Bool×Int),o=o:=fun _=>rfl
 let Q:Option (TL×Bool×Int)→Prop:=fun o=>∃ v,o=some v∧(v=([],false,22)∨v=([],false,24)∨∃ m:Nat,∃ s,v=(t.take n.toNat++List.replicate m (0,(L.length:Int) - 1),decide (n<t.length),0)∧m≤most∧runT b T L W lo v.1=some s∧∀ e∈s,hotter T k e=false)
 have hlt:(t.take n.toNat).length=n.toNat:=by rw [List.length_take]; omega
 have err:Q (some ([],false,22)):=⟨_,rfl,.inl rfl⟩
 refine iter_inv (b13_1 t n k most (a,b,T,L,lo,hi,W,air,spread,0)) (fun i s=>s.1=(i:Int)∧s.2.2=t.take i∧runT b T L W lo (t.take i)=some s.2.1) Q n.toNat ?_ ?_ _ ⟨rfl,rfl,rfl⟩ _ (by omega)
 ·rintro i ⟨_,s,_⟩ hi ⟨rfl,rfl,hr⟩
  have H:AllOk a b T L s:=runT_all _ _ _ B.box.lo hr
  have hit:i<t.length:=by omega
  have hx:=ht.2 _ (getD_mem hit)
  obtain ⟨e1,e2,e3⟩:=tickC B H hx
  have hli:((t.take i).length:Int)=i:=by rw [List.length_take]; omega
  have g1:decide ((i:Int)<(n.toNat:Int))=true:=decide_eq_true (by omega)
  have g2:((i:Int) == n+most)=false:=by rw [beq_eq_false_iff_ne]; omega
  simp only [b13_1,g1,if_true,hlt,hli,ew,Int.toNat_natCast,take_get t _ i hi hit,e1,bindC,e3]
  rw [if_pos ⟨by omega,by omega⟩,g2,if_neg (by decide)]
  by_cases hc:(outS b T (L.getD (t.getD i default).2.toNat default) s (pwV W (t.getD i default).1)).all (inT T)=true
  ·have er:t.take (i+1)=t.take i++[t.getD i default]:=by
    rw [List.take_add_one,List.getElem?_eq_getElem hit,List.getD_eq_getElem?_getD,List.getElem?_eq_getElem hit]; rfl
   simp only [if_pos hc]
   rw [if_neg (by decide),if_pos ⟨by omega,by omega⟩]
   refine .inl ⟨_,rfl,?_,er.symm,?_⟩
   ·show IntKind.i64.wrap ((i:Int)+1)=_
    rw [wS i (by omega)]; rfl
   ·rw [er,runT_snoc _ _ _ _ hr,if_pos hc]
  ·simp only [if_neg hc]
   rw [if_pos (by decide),if_pos (by decide)]
   exact .inr ⟨_,rfl,err⟩
 ·rintro ⟨_,s,_⟩ ⟨rfl,rfl,hr⟩
  have g1:decide ((n.toNat:Int)<(n.toNat:Int))=false:=by simp
  simp only [b13_1,g1,Bool.false_eq_true,if_false]
  refine ⟨_,rfl,?_⟩
  refine iter_inv (b13_2 t n k most (a,b,T,L,lo,hi,W,air,spread,0)) (fun m s=>s.2=t.take n.toNat++List.replicate m (0,(L.length:Int) - 1)∧runT b T L W lo s.2=some s.1) Q most.toNat ?_ ?_ _ ⟨by simp,hr⟩ _ (by omega)
  ·rintro m ⟨es,_⟩ hm1 ⟨rfl,hr⟩
   have H:AllOk a b T L es:=runT_all _ _ _ B.box.lo hr
   have hml:(t.take n.toNat++List.replicate m (0,(L.length:Int) - 1)).length=n.toNat+m:=by rw [List.length_append,hlt,List.length_replicate]
   rcases scanC B t (n:=n) (k:=k) (most:=most) ⟨hn.1,by omega⟩ hk hm H (by rw [hml]; omega) with ⟨-,h2⟩ | ⟨h1,h2⟩
   ·simp only [b13_2,h2,Option.getD_some]
    unfold hotT
    rw [hml,if_neg (by omega)]
    by_cases ho:(outS b T (L.getD ((L.length:Int) - 1).toNat default) es (pwV W 0)).all (inT T)=true
    ·rw [if_pos ho]
     have er:t.take n.toNat++List.replicate (m+1) (0,(L.length:Int) - 1)=(t.take n.toNat++List.replicate m (0,(L.length:Int) - 1))++[(0,(L.length:Int) - 1)]:=by
      rw [List.append_assoc,List.replicate_succ']
     exact .inl ⟨_,rfl,er.symm,by rw [runT_snoc _ _ _ _ hr]; exact if_pos ho⟩
    ·rw [if_neg ho]
     exact .inr ⟨_,rfl,err⟩
   ·simp only [b13_2,h2,Option.getD_some]
    exact .inr ⟨_,rfl,_,rfl,.inr (.inr ⟨m,es,rfl,by omega,hr,h1⟩)⟩
  ·rintro ⟨es,_⟩ ⟨rfl,hr⟩
   have H:AllOk a b T L es:=runT_all _ _ _ B.box.lo hr
   have hml:(t.take n.toNat++List.replicate most.toNat (0,(L.length:Int) - 1)).length=n.toNat+most.toNat:=by rw [List.length_append,hlt,List.length_replicate]
   rcases scanC B t (n:=n) (k:=k) (most:=most) ⟨hn.1,by omega⟩ hk hm H (by rw [hml]; omega) with ⟨-,h2⟩ | ⟨h1,h2⟩
   ·simp only [b13_2,h2,Option.getD_some]
    unfold hotT
    rw [hml,if_pos (by omega)]
    exact ⟨_,rfl,_,rfl,.inr (.inl rfl)⟩
   ·simp only [b13_2,h2,Option.getD_some]
    exact ⟨_,rfl,_,rfl,.inr (.inr ⟨most.toNat,es,rfl,by omega,hr,h1⟩)⟩
end
end Go.Proofs.YtlnlpncchgimgaaGreatDoor

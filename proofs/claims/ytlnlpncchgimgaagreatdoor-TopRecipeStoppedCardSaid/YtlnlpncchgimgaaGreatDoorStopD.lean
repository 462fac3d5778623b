/- Stopped in any phase: cool and spoilt; the law. -/
import Derived.Test.YtlnlpncchgimgaaGreatDoorF10
import Derived.Test.YtlnlpncchgimgaaGreatDoorF09
import Derived.Test.YtlnlpncchgimgaaGreatDoorStopB
import Derived.Test.YtlnlpncchgimgaaGreatDoorStopC
set_option linter.unusedVariables false
set_option linter.unusedSimpArgs false
namespace Go.Proofs.YtlnlpncchgimgaaGreatDoor
open Go.Abs
theorem awake4:r4=some true:=by decide +kernel
def hotV:Int→List Int→Int
 | m,[]=>m
 | m,x::r=>hotV (if m<x then x else m) r
theorem hotV_ge:∀ (l:List Int) (m:Int),m≤hotV m l∧∀ x∈l,x≤hotV m l
 | [],m=>⟨Int.le_refl m,fun x hx=>by cases hx⟩
 | y::r,m=>by
  obtain ⟨h1,h2⟩:=hotV_ge r (if m<y then y else m)
  have:m≤(if m<y then y else m)∧y≤(if m<y then y else m):=by split<;>omega
  refine ⟨Int.le_trans this.1 h1,fun x hx=> ?_⟩
  rcases List.mem_cons.1 hx with rfl | hx
  ·exact Int.le_trans this.2 h1
  ·exact h2 x hx
theorem hotV_le {M:Int}:∀ (l:List Int) (m:Int),m≤M→(∀ x∈l,x≤M)→hotV m l≤M
 | [],m,h,_=>h
 | y::r,m,h,hx=>hotV_le r _ (by have:=hx y (by simp); split<;>omega) (fun x h=>hx x (List.mem_cons_of_mem _ h))
theorem hottest (l:List Int) (hl:l.length<1000000000):r17 l=some (hotV 0 l):=by
 have h:=iter_list (τ:=Int) l (b17_1 l) (fun i m=>(m,i)) (fun _ m x=> .next (if m<x then x else m)) (fun m=>some m) hl
  (fun i t hi=>by
   simp only [b17_1,ltN hi,if_true,if_pos (rgN hi),Int.toNat_natCast,wS i (by omega)]; rfl)
  (fun t=>by simp [b17_1]) 0
 unfold r17
 rw [h]
 have:∀ (r:List Int) (i m:Int),foldC (fun _ m x=>(.next (if m<x then x else m):Ctl Int Int)) (fun m:Int=>some m) i r m=some (hotV m r):=by
  intro r
  induction r with
  | nil=>intro i m; rfl
  | cons x r ih=>intro i m; exact ih _ _
 exact this l 0 0
theorem addL_zero:∀ (l p:List Int),(∀ x∈p,x=0)→addL l p=l
 | [],_,_=>by cases ‹List Int› <;>rfl
 | x::l,[],_=>rfl
 | x::l,y::p,h=>by
  have:=h y (by simp)
  subst this
  rw [addL,addL_zero l p (fun z hz=>h z (List.mem_cons_of_mem _ hz)),Int.add_zero]
theorem subH_le {n M:Int} (hn:0≤n):∀ l:List Int,(∀ x∈l,x≤M)→∀ x∈subH n l,x≤M
 | [],h,x,hx=>by simp [subH] at hx
 | y::r,h,x,hx=>by
  simp only [subH,List.mem_cons] at hx
  have:=h y (by simp)
  rcases hx with rfl | hx
  ·omega
  ·exact h x (List.mem_cons_of_mem _ hx)
theorem cool_le {a b:Int} {T:TL} {L:List TL} {s p:List Int} {law:Int} (H:AllOk a b T L s) (hl:0≤law∧law<L.length) (hp:∀ x∈p,x=0) {M:Int} (hM:∀ x∈s,x≤M):∀ x∈outS b T (L.getD law.toNat default) s p,x≤M:=by
 unfold outS
 rw [addL_zero _ _ hp]
 exact subH_le (loss_rng H.ok _ hl).1 _ (fun x hx=>(mixS_in H.ok.mix H.ok.asc (u:=0) (v:=M) s (fun y hy=>⟨(inT_rng H.ok (H.ins y hy)).1,hM y hy⟩) x hx).2)
theorem pw_zero (W:TL):∀ x∈pwV W 0,x=0:=by
 intro x hx
 obtain ⟨w,_,rfl⟩:=List.mem_map.1 hx
 simp
section
variable {a b:Int} {T:TL} {L:List TL} {lo hi:List Int} {W:TL} {air spread:Int}
theorem getD_app1 (l r:TL) (i:Nat) (h:i<l.length):(l++r).getD i default=l.getD i default:=by
 simp [List.getD_eq_getElem?_getD,List.getElem?_append,h]
theorem getD_app2 (l:TL) (m:Nat) (x:Int×Int) (i:Nat) (h:l.length≤i) (h2:i<l.length+m):(l++List.replicate m x).getD i default=x:=by
 have:¬ i<l.length:=by omega
 have h3:i - l.length<m:=by omega
 simp [List.getD_eq_getElem?_getD,List.getElem?_append,this,h3]
theorem walk (B:BenOk a b T L lo hi W air spread) {t:TL} (ht:TksOk L t) (hx:∀ x∈t,TkOk x) {n k:Int} (hn:0≤n∧n≤t.length) (hk:200≤k∧k≤3000) {m:Nat} (hm:m≤40) {s:List Int} {sp:Bool}
 (hr:runT b T L W lo (t.take n.toNat++List.replicate m (0,(L.length:Int) - 1))=some s) (hs:∀ e∈s,hotter T k e=false) :
 iterC (b3_2 a b T L W t k n (t.take n.toNat++List.replicate m (0,(L.length:Int) - 1),sp,0)) 1000000000 (hotV 0 lo,0,lo)=some (.next (n+1)):=by
 obtain ⟨f1,f2,f3,f4,f5,f6⟩:=B.few
 have ht1:=ht.1
 have hL1:=B.air
 obtain ⟨G,hG⟩:∃ G,G=t.take n.toNat++List.replicate m (0,(L.length:Int) - 1):=⟨_,rfl⟩
 have hlt:(t.take n.toNat).length=n.toNat:=by rw [List.length_take]; omega
 have hGl:G.length=n.toNat+m:=by rw [hG,List.length_append,hlt,List.length_replicate]
 have hG1:∀ i,i<n.toNat→G.getD i default=t.getD i default:=fun i h=>by
  rw [hG,getD_app1 _ _ _ (by omega)]; exact take_get t _ i h (by omega)
 have hG2:∀ i,n.toNat≤i→i<G.length→G.getD i default=(0,(L.length:Int) - 1):=fun i h h2=>by
  rw [hG,getD_app2 _ _ _ _ (by omega) (by omega)]
 have hGx:∀ i,i<G.length→(0≤(G.getD i default).1∧(G.getD i default).1≤10000)∧0≤(G.getD i default).2∧(G.getD i default).2<L.length:=fun i h=>by
  by_cases hi:i<n.toNat
  ·rw [hG1 i hi]; exact ht.2 _ (getD_mem (by omega))
  ·rw [hG2 i (by omega) h]; exact ⟨⟨by show (0:Int)≤0; decide,by show (0:Int)≤10000; decide⟩,by show 0≤(L.length:Int) - 1; omega,by show (L.length:Int) - 1<_; omega⟩
 rw [← hG] at hr ⊢
 refine iter_inv (b3_2 a b T L W t k n (G,sp,0)) (fun i u=>u.2.1=(i:Int)∧runT b T L W lo (G.take i)=some u.2.2∧0≤u.1∧∀ x∈u.2.2,x≤u.1) (fun o=>o=some (.next (n+1))) G.length ?_ ?_ _ ⟨rfl,rfl,(hotV_ge lo 0).1,(hotV_ge lo 0).2⟩ _ (by omega)
 ·rintro i ⟨M,_,u⟩ hi' ⟨rfl,hu,hM0,hM⟩
  have H:AllOk a b T L u:=runT_all _ _ _ B.box.lo hu
  obtain ⟨u2,t1,t2,t3⟩:=runT_take _ _ _ hr i hi'
  have:u2=u:=Option.some.inj (t1.symm.trans hu)
  subst this
  have hgx:=hGx i hi'
  obtain ⟨-,d0,d1⟩:=tickC B H hgx
  rw [if_pos t2] at d1
  have H':=H.next t2
  have hu12:u2.length≤12:=by have:=H.len; have:=H.ok.cells; omega
  obtain ⟨o,ho⟩:∃ o,o=outS b T (L.getD (G.getD i default).2.toNat default) u2 (pwV W (G.getD i default).1):=⟨_,rfl⟩
  rw [← ho] at t2 t3 d1 H'
  have ho12:o.length≤12:=by have:=H'.len; have:=H'.ok.cells; omega
  have hin:iterC (b3_3 a b T L W n (G,sp,0) (M,(i:Int),u2)) 1000000000 (0,[])=some (.next ((if M<hotV 0 o then hotV 0 o else M),(i:Int)+1,o)):=by
   refine iter_inv (b3_3 a b T L W n (G,sp,0) (M,(i:Int),u2)) (fun j v=>v=((j:Int),(pwV W (G.getD i default).1).take j)) (fun q=>q=some (.next ((if M<hotV 0 o then hotV 0 o else M),(i:Int)+1,o))) W.length ?_ ?_ _ (by simp) _ (by omega)
   ·rintro j _ hj rfl
    have hw:=B.wts _ (getD_mem hj)
    obtain ⟨e1,m1,m2,e2,e3,h4,h5⟩:=pw1 hw hgx.1
    have hlen:((pwV W (G.getD i default).1).take j).length=j:=by simp [pwV]; omega
    refine .inl ⟨(((j+1:Nat):Int),(pwV W (G.getD i default).1).take (j+1)),?_,rfl⟩
    have x1:r18 ((W.getD j default).1+(W.getD j default).2) 2=some (((W.getD j default).1+(W.getD j default).2) / 2):=p129 _ 2 (by decide) (by omega) (by omega)
    have x2:r18 ((G.getD i default).1*(((W.getD j default).1+(W.getD j default).2) / 2)) 1000=some ((G.getD i default).1*(((W.getD j default).1+(W.getD j default).2) / 2) / 1000):=p129 _ 1000 (by decide) (by omega) (by omega)
    simp only [b3_3,ltN hj,if_true,if_pos (rgN hj),Int.toNat_natCast,wS j (by omega),e1,x1,bindC,if_pos (rgN hi'),e3,x2,hlen]
    rw [if_pos ⟨by omega,by omega⟩]
    congr 2
    rw [List.take_add_one,List.getElem?_eq_getElem (by simpa [pwV] using hj)]
    simp [pwV,List.getD_eq_getElem?_getD,hj]
   ·rintro _ rfl
    refine ⟨some (.next ((if M<hotV 0 o then hotV 0 o else M),(i:Int)+1,o)),?_,rfl⟩
    have hpl:(pwV W (G.getD i default).1).take W.length=pwV W (G.getD i default).1:=List.take_of_length_le (by simp [pwV])
    have hd:r19 a b T L (pwV W (G.getD i default).1) (G.getD i default).2=some 0:=by rw [p70 a b T L _ _ f2 (by simp [pwV]; omega),d0]
    have h22:r22 a b T L o=some 0:=by rw [p21 a b T L o f1 f2 f3 (by omega),H'.stErr]
    simp only [b3_3,geN,Bool.false_eq_true,if_false,hpl,Int.toNat_natCast,hd,bindC,p18 a b T L f1 f2 f3,p19 u2 (by omega),p19 o (by omega),d1,h22,hottest o (by omega),Option.isSome_some,implies_true,if_true,Option.getD_some,wS i (by omega)]
    have hcold:((decide ((i:Int)≥n)) && (decide (hotV 0 o>M)))=false:=by
     rw [Bool.and_eq_false_iff]
     by_cases hin:(i:Int)≥n
     ·right
      have hg0:=hG2 i (by omega) hi'
      have hz:∀ x∈pwV W (G.getD i default).1,x=0:=by rw [hg0]; exact pw_zero W
      have hle:=cool_le H hgx.2 hz hM
      rw [← ho] at hle
      have:=hotV_le o 0 hM0 hle
      exact decide_eq_false (by omega)
     ·left; exact decide_eq_false hin
    rw [hcold]
    rfl
  have hsame:(((decide ((i:Int)≥n)) && ((G.getD i default).1 != 0)) || ((decide ((i:Int)<n)) && (!(((G.getD i default).1 == (t.getD i default).1) && ((G.getD i default).2 == (t.getD i default).2)))))=false:=by
   by_cases hin:(i:Int)<n
   ·rw [hG1 i (by omega),decide_eq_false (show ¬ (i:Int)≥n by omega)]; simp
   ·rw [hG2 i (by omega) hi',decide_eq_false hin]; simp
  have hit:(i:Int)<n→0≤(i:Int)∧(i:Int)<(t.length:Int):=fun h=>⟨by omega,by omega⟩
  refine .inl ⟨((if M<hotV 0 o then hotV 0 o else M),(i:Int)+1,o),?_,rfl,t3,?_,?_⟩
  ·simp only [b3_2,ltN hi',if_true,Int.toNat_natCast,hsame,hin,Option.getD_some,Bool.false_eq_true,if_false]
   rw [if_pos (fun _=>rgN hi'),if_pos (fun _=>rgN hi'),if_pos (fun h=>by
    rw [Bool.and_eq_true,decide_eq_true_eq] at h; exact hit h.2),if_pos (rgN hi')]
  ·split<;>omega
  ·have hge:=(hotV_ge o 0).2
   intro x hx
   have:=hge x hx
   split<;>omega
 ·rintro ⟨M,_,u⟩ ⟨rfl,hu,hM0,hM⟩
  rw [List.take_of_length_le (Nat.le_refl _),hr] at hu
  obtain rfl:s=u:=Option.some.inj hu
  have H:AllOk a b T L s:=runT_all _ _ _ B.box.lo hr
  have hs12:s.length≤12:=by have:=H.len; have:=H.ok.cells; omega
  refine ⟨some (.next (n+1)),?_,rfl⟩
  simp only [b3_2,geN,Bool.false_eq_true,if_false]
  have hfin:iterC (b3_4 a b T L k n (M,(G.length:Int),s)) 1000000000 0=some (.next (n+1)):=by
   refine iter_inv (b3_4 a b T L k n (M,(G.length:Int),s)) (fun i u=>u=(i:Int)) (fun o=>o=some (.next (n+1))) s.length ?_ ?_ _ rfl _ (by omega)
   ·rintro i _ hix rfl
    have e:=hotterR H.ok hk (H.ins _ (getD_mem hix))
    rw [hs _ (getD_mem hix)] at e
    exact .inl ⟨((i+1:Nat):Int),by simp only [b3_4,ltN hix,if_true,if_pos (rgN hix),Int.toNat_natCast,wS i (by omega),e,bindC,Bool.false_eq_true,if_false]; rfl,rfl⟩
   ·rintro _ rfl
    have ew:IntKind.i64.wrap (n+1)=n+1:=IntWalk.i64_in _ ⟨by omega,by omega⟩
    exact ⟨_,by simp only [b3_4,geN,Bool.false_eq_true,if_false,ew],rfl⟩
  rw [hfin]; rfl
theorem copyB (B:BenOk a b T L lo hi W air spread):r14 a b T L lo hi W air spread=some (a,b,T,L,lo,hi,W,air,spread):=by
 obtain ⟨f1,f2,f3,f4,f5,f6⟩:=B.few
 unfold r14
 rw [p18 a b T L f1 f2 f3,Option.bind_some,p40 lo hi (by omega) (by omega),Option.bind_some,r45,if_pos ⟨by omega,by omega⟩]; rfl
theorem copyT {t:TL} (h:t.length≤200):r11 t=some t:=by rw [r11,if_pos ⟨by omega,by omega⟩]
theorem sameT {t:TL} (h:t.length≤200):r12 t t=some true:=by
 unfold r12
 rw [if_neg (by simp)]
 refine iter_inv (b12_1 t t) (fun i s=>s=(i:Int)) (fun o=>o=some true) t.length ?_ ?_ _ rfl _ (by omega)
 ·rintro i _ hi rfl
  refine .inl ⟨((i+1:Nat):Int),?_,rfl⟩
  simp only [b12_1,ltN hi,if_true,if_pos (rgN hi),Int.toNat_natCast,wS i (by omega),beq_self_eq_true,Bool.and_self,Bool.not_true,Bool.false_eq_true,if_false]; rfl
 ·rintro _ rfl
  exact ⟨_,by simp only [b12_1,geN,Bool.false_eq_true,if_false],rfl⟩
theorem light (x1 x6:Int) (x2:TL) (x0:List TL) (x3 x4:List Int) (x5:TL) (x7 x8:Int):∃ v,r5 x1 x6 x2 x0 x3 x4 x5 x7 x8=some v∧(v=true→x1≤14∧x2.length≤14∧x0.length≤14∧x3.length≤14∧x4.length≤14∧x5.length≤14∧∀ x∈x0,x.length<1000):=by
 unfold r5
 by_cases c:((((((decide (x1>14)) || (decide ((x2.length:Int)>14))) || (decide ((x0.length:Int)>14))) || (decide ((x3.length:Int)>14))) || (decide ((x4.length:Int)>14))) || (decide ((x5.length:Int)>14)))=true
 ·rw [if_pos c]; exact ⟨false,rfl,fun h=>by cases h⟩
 rw [if_neg c]
 simp only [Bool.or_eq_true,decide_eq_true_eq,not_or] at c
 obtain ⟨⟨⟨⟨⟨c1,c2⟩,c3⟩,c4⟩,c5⟩,c6⟩:=c
 refine iter_inv (b5_1 x0) (fun i s=>s=(i:Int)∧∀ j,j<i→(x0.getD j default).length≤14) (fun o=>∃ v,o=some v∧(v=true→x1≤14∧x2.length≤14∧x0.length≤14∧x3.length≤14∧x4.length≤14∧x5.length≤14∧∀ x∈x0,x.length<1000)) x0.length ?_ ?_ _ ⟨rfl,fun j hj=>absurd hj (by omega)⟩ _ (by omega)
 ·rintro i _ hi ⟨rfl,hall⟩
  simp only [b5_1,ltN hi,if_true,if_pos (rgN hi),Int.toNat_natCast,wS i (by omega)]
  by_cases w1:((x0.getD i default).length:Int)>14
  ·rw [if_pos (decide_eq_true w1)]; exact .inr ⟨_,rfl,_,rfl,fun h=>by cases h⟩
  rw [if_neg (by rw [decide_eq_true_eq]; exact w1)]
  refine .inl ⟨_,rfl,rfl,fun j hj=> ?_⟩
  by_cases hji:j=i
  ·subst hji; omega
  ·exact hall j (by omega)
 ·rintro _ ⟨rfl,hall⟩
  simp only [b5_1,geN,Bool.false_eq_true,if_false]
  refine ⟨_,rfl,_,rfl,fun _=>⟨by omega,by omega,by omega,by omega,by omega,by omega,fun x hx=> ?_⟩⟩
  obtain ⟨j,hj,rfl⟩:=List.getElem_of_mem hx
  have:=hall j hj
  rw [List.getD_eq_getElem?_getD,List.getElem?_eq_getElem hj,Option.getD_some] at this
  omega
theorem stops (B:BenOk a b T L lo hi W air spread) {t:TL} (ht:TksOk L t) (hx:∀ x∈t,TkOk x) {k:Int} (hk:200≤k∧k≤3000):iterC (b3_1 a b T L lo hi W air spread t k) 1000000000 0=some true:=by
 obtain ⟨f1,f2,f3,f4,f5,f6⟩:=B.few
 have ht1:=ht.1
 refine iter_inv (b3_1 a b T L lo hi W air spread t k) (fun i s=>s=(i:Int)) (fun o=>o=some true) (t.length+1) ?_ ?_ _ rfl _ (by omega)
 ·rintro i _ hix rfl
  obtain ⟨v,hv,hc⟩:=stopC B ht (n:=(i:Int)) (k:=k) (most:=40) ⟨by omega,by omega⟩ hk ⟨by decide,by decide⟩
  have hle:decide ((i:Int)≤(t.length:Int))=true:=decide_eq_true (by omega)
  have hlo12:lo.length≤12:=f4
  refine .inl ⟨((i+1:Nat):Int),?_,rfl⟩
  simp only [b3_1,hle,if_true,copyB B,copyT ht1,hv,bindC,wS i (by omega)]
  rcases hc with rfl | rfl | ⟨m,s,rfl,hm,hr,hs⟩
  ·rfl
  ·rfl
  ·have hm40:m≤40:=by omega
   have hlen:((t.take (i:Int).toNat++List.replicate m (0,(L.length:Int) - 1)).length:Int)=(i:Int)+m:=by
    rw [List.length_append,List.length_take,List.length_replicate,Int.toNat_natCast]; omega
   have w40:IntKind.i64.wrap ((i:Int)+40)=(i:Int)+40:=IntWalk.i64_in _ ⟨by omega,by omega⟩
   have hin:inR ((i:Int)+m) (i:Int) ((i:Int)+40)=true:=inR_iff'.2 ⟨by omega,by omega⟩
   have hw:=walk B ht hx (n:=(i:Int)) (k:=k) ⟨by omega,by omega⟩ hk hm40 (sp:=decide ((i:Int)<(t.length:Int))) hr hs
   simp only [hlen,w40,p59,hin,beq_self_eq_true,Bool.not_true,Option.isSome_some,implies_true,if_true,Option.getD_some,Bool.or_self,Bool.false_eq_true,if_false,p19 lo (by omega),hottest lo (by omega),hw,bne_self_eq_false]
   rfl
 ·rintro _ rfl
  have hle:decide (((t.length+1:Nat):Int)≤(t.length:Int))=false:=decide_eq_false (by omega)
  exact ⟨_,by simp only [b3_1,hle,Bool.false_eq_true,if_false],rfl⟩
theorem stopped_law (a b:Int) (T:TL) (L:List TL) (lo hi:List Int) (W:TL) (air spread:Int) (t:TL) (k:Int):r3 a b T L lo hi W air spread t k=some true:=by
 obtain ⟨v2,h5,hf⟩:=light a b T L lo hi W air spread
 unfold r3
 rw [awake4,Option.bind_some,if_neg (by decide),h5,Option.bind_some]
 cases v2 with
 | false=>simp only [Bool.not_false,Bool.not_true,Bool.true_or,Bool.false_eq_true,false_implies,if_true]
 | true=>
  obtain ⟨g1,g2,g3,g4,g5,g6,g7⟩:=hf rfl
  obtain ⟨e,he,hB⟩:=benRef a b T L lo hi W air spread (by omega) g7 (by omega) (by omega) (by omega)
  obtain ⟨d,hd,hT⟩:=tksRef a b T L lo hi W air spread t (by omega)
  have h8:r8 k=some (inR k 200 3000):=by unfold r8; rw [p59]; rfl
  simp only [he,hd,h8,Option.isSome_some,implies_true,if_true,Option.getD_some,Bool.not_true,Bool.false_or]
  by_cases hg:(((((e != 0) || (decide (a>8))) || (decide ((t.length:Int)>20))) || (d != 0)) || (!(inR k 200 3000)))=true
  ·rw [if_pos hg]
  ·rw [if_neg hg]
   simp only [Bool.or_eq_true,not_or,bne_iff_ne,ne_eq,Decidable.not_not,decide_eq_true_eq,Bool.not_eq_true'] at hg
   obtain ⟨⟨⟨⟨q1,q2⟩,q3⟩,q4⟩,q5⟩:=hg
   have B:=hB q1
   have ht:=hT q4
   have ht1:=ht.1
   have hk:200≤k∧k≤3000:=inR_iff'.1 (by simpa using q5)
   have hL4:=B.box.lo.ok.llen
   have hx:∀ x∈t,TkOk x:=fun x h=>by have:=ht.2 x h; exact ⟨this.1,this.2.1,by omega⟩
   rw [copyT ht1,Option.bind_some,fmt ht1 hx,Option.bind_some,prs ht1 hx,Option.bind_some]
   simp only
   rw [sameT ht1,if_pos (show (!((0:Int) != 0))=true→(some true).isSome=true from fun _=>rfl),if_neg (by decide),stops B ht hx hk]
end
end Go.Proofs.YtlnlpncchgimgaaGreatDoor

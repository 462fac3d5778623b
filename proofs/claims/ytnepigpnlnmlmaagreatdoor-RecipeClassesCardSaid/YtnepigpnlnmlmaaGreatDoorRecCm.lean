/- RecipeClasses: the number of recipes, the recipe with a number; the law. -/
import Derived.Test.YtnepigpnlnmlmaaGreatDoorF13
import Derived.Test.YtnepigpnlnmlmaaGreatDoorF14
import Derived.Test.YtnepigpnlnmlmaaGreatDoorF15
import Derived.Test.YtnepigpnlnmlmaaGreatDoorF17
import Derived.Test.YtnepigpnlnmlmaaGreatDoorF18
import Derived.Test.YtnepigpnlnmlmaaGreatDoorF21
import Derived.Test.YtnepigpnlnmlmaaGreatDoorF22
import Derived.Test.YtnepigpnlnmlmaaGreatDoorF25
import Derived.Test.YtnepigpnlnmlmaaGreatDoorF26
import Derived.Test.YtnepigpnlnmlmaaGreatDoorF27
import Derived.Test.YtnepigpnlnmlmaaGreatDoorF28
import Derived.Test.YtnepigpnlnmlmaaGreatDoorRecCl
set_option linter.unusedVariables false
set_option linter.unusedSimpArgs false
namespace Go.Proofs.YtnepigpnlnmlmaaGreatDoor
open Go.Abs
theorem cnt_app:∀ (a b:List Ch) (n:Int),cntC n (a++b)=cntC (cntC n a) b
 | [],_,_=>rfl
 | x::a,b,n=>cnt_app a b (capC n x)
theorem cap_b {n:Int} {x:Ch} (h1:1≤n) (h2:n≤61) (h3:1≤(tks x).length) (h4:(tks x).length≤200):IntKind.i64.wrap (n*((tks x).length:Int))=n*((tks x).length:Int)∧n≤n*((tks x).length:Int)∧(n≤capC n x∧capC n x≤61)∧(capC n x≤60→capC n x=n*((tks x).length:Int)):=by
 have m1:n*1≤n*((tks x).length:Int):=Int.mul_le_mul_of_nonneg_left (by omega) (by omega)
 have m2:n*((tks x).length:Int)≤61*200:=Int.mul_le_mul h2 (by omega) (by omega) (by decide)
 have hw:IntKind.i64.wrap (n*((tks x).length:Int))=n*((tks x).length:Int):=IntWalk.i64_in _ ⟨by omega,by omega⟩
 unfold capC
 rw [hw]
 generalize n*((tks x).length:Int)=z at m1 m2
 refine ⟨rfl,by omega,?_,?_⟩<;>split<;>omega
theorem cnt_b:∀ (l:List Ch) (n:Int),1≤n→n≤61→(∀ x∈l,1≤(tks x).length∧(tks x).length≤200)→n≤cntC n l∧cntC n l≤61
 | [],n,_,h2,_=>⟨Int.le_refl _,h2⟩
 | x::r,n,h1,h2,h=>by
  have hx:=h x (by simp)
  obtain ⟨_,_,⟨c1,c2⟩,_⟩:=cap_b h1 h2 hx.1 hx.2
  have:=cnt_b r (capC n x) (by omega) c2 (fun y hy=>h y (by simp [hy]))
  rw [cntC]; omega
theorem cntR16 {l:List Ch} (hl:l.length<1000) (ht:∀ x∈l,1≤(tks x).length∧(tks x).length≤200) (h:cntC 1 l≤60):r16 l=some (cntC 1 l):=by
 unfold r16
 refine iter_inv (b16_1 l) (fun i s=>s=(cntC 1 (l.take i),(i:Int))) (fun o=>o=some (cntC 1 l)) l.length ?_ ?_ _ rfl _ (by omega)
 ·rintro i _ hi rfl
  have hx:=ht _ (getD_mem hi)
  have e1:l.take (i+1)=l.take i++[l.getD i default]:=by
   rw [List.take_add_one,List.getElem?_eq_getElem hi,List.getD_eq_getElem?_getD,List.getElem?_eq_getElem hi]; rfl
  have e2:cntC 1 (l.take (i+1))=capC (cntC 1 (l.take i)) (l.getD i default):=by rw [e1,cnt_app]; rfl
  have hm:∀ j,∀ x∈l.take j,1≤(tks x).length∧(tks x).length≤200:=fun j x hx=>ht x (List.mem_of_mem_take hx)
  have b1:=cnt_b (l.take i) 1 (by decide) (by decide) (hm i)
  have b2:cntC 1 (l.take (i+1))≤60:=by
   have b3:=cnt_b (l.take (i+1)) 1 (by decide) (by decide) (hm _)
   have b4:=cnt_b (l.drop (i+1)) (cntC 1 (l.take (i+1))) b3.1 b3.2 (fun x hx=>ht x (List.mem_of_mem_drop hx))
   rw [← cnt_app,List.take_append_drop] at b4
   omega
  obtain ⟨c1,_,_,c4⟩:=cap_b b1.1 b1.2 hx.1 hx.2
  refine .inl ⟨_,?_,rfl⟩
  rw [e2] at b2 ⊢
  simp only [b16_1,ltN hi,if_true,if_pos (rgN hi),Int.toNat_natCast,wS i (by omega)]
  rw [c4 b2]
  exact congrArg Ctl.next (Prod.ext c1 rfl)
 ·rintro _ rfl
  refine ⟨_,?_,rfl⟩
  simp only [b16_1,geN,Bool.false_eq_true,if_false,List.take_length]
def bkC (l:List Ch) (n:Int):Nat→Int×List Ph
 | 0=>(n,List.replicate l.length (0,0,0,0,0,Hl.nil))
 | m+1=>(((bkC l n m).1).tdiv ((tks (l.getD (l.length - 1 - m) default)).length:Int),(bkC l n m).2.set (l.length - 1 - m) (tmd (l.getD (l.length - 1 - m) default) ((tks (l.getD (l.length - 1 - m) default)).getD (((bkC l n m).1).tmod ((tks (l.getD (l.length - 1 - m) default)).length:Int)).toNat default)))
theorem bk_len (l:List Ch) (n:Int):∀ m,(bkC l n m).2.length=l.length
 | 0=>by simp [bkC]
 | m+1=>by rw [bkC]; simp [bk_len l n m]
theorem bk_nn (l:List Ch) {n:Int} (h:0≤n∧n≤1000):∀ m,0≤(bkC l n m).1∧(bkC l n m).1≤1000
 | 0=>h
 | m+1=>by
  have h1:=bk_nn l h m
  rw [bkC]
  dsimp only
  generalize ((tks (l.getD (l.length - 1 - m) default)).length)=k
  rw [Int.tdiv_eq_ediv_of_nonneg h1.1]
  have h2:=Int.ediv_nonneg h1.1 (show 0≤(k:Int) by omega)
  have h3:=Int.ediv_le_self ((k:Int)) h1.1
  omega
theorem mod_b {n:Int} {k:Nat} (h:0≤n) (hk:1≤k):0≤n.tmod (k:Int)∧n.tmod (k:Int)<(k:Int):=by
 rw [Int.tmod_eq_emod_of_nonneg h]
 exact ⟨Int.emod_nonneg _ (by omega),Int.emod_lt_of_pos _ (by omega)⟩
def rcp (l:List Ch) (n:Int):List Ph:=(bkC l n l.length).2
theorem rcpCode {l:List Ch} (hl:1≤l.length∧l.length<1000) (ht:∀ x∈l,1≤(tks x).length∧(tks x).length≤200) {n:Int} (hn:0≤n∧n≤1000):r72 l n=some (rcp l n):=by
 unfold r72
 rw [if_pos ⟨by omega,by omega,by omega,by omega⟩,lastI (by omega) hl.2]
 refine iter_inv (b72_1 l) (fun m s=>s=((l.length:Int) - 1 - (m:Int),bkC l n m)) (fun o=>o=some (rcp l n)) l.length ?_ ?_ _ ?_ _ (by omega)
 ·rintro m _ hm rfl
  have hi:l.length - 1 - m<l.length:=by omega
  have ei:(l.length:Int) - 1 - (m:Int)=((l.length - 1 - m:Nat):Int):=by omega
  have hx:=ht _ (getD_mem hi)
  have hb:=bk_nn l hn m
  have hlen:=bk_len l n m
  obtain ⟨g1,g2⟩:=mod_b (k:=(tks (l.getD (l.length - 1 - m) default)).length) hb.1 hx.1
  have hw:IntKind.i64.wrap (((l.length - 1 - m:Nat):Int) - 1)=(l.length:Int) - 1 - ((m+1:Nat):Int):=by rw [IntWalk.i64_in _ ⟨by omega,by omega⟩]; omega
  have hd:IntKind.i64.wrap ((bkC l n m).1.tdiv ((tks (l.getD (l.length - 1 - m) default)).length:Int))=(bkC l n (m+1)).1:=by
   have:=bk_nn l hn (m+1)
   exact IntWalk.i64_in _ ⟨by have:=this.1; rw [bkC] at this; dsimp only at this; omega,by have:=this.2; rw [bkC] at this; dsimp only at this; omega⟩
  refine .inl ⟨((l.length:Int) - 1 - ((m+1:Nat):Int),bkC l n (m+1)),?_,rfl⟩
  have e:=timedC (l.getD (l.length - 1 - m) default) ⟨g1,g2⟩
  have d1:decide (((l.length - 1 - m:Nat):Int)≥0)=true:=decide_eq_true (by omega)
  have nz:(((tks (l.getD (l.length - 1 - m) default)).length:Int))≠0:=by omega
  rw [ei]
  simp only [b72_1,d1,if_true,if_pos (rgN hi),Int.toNat_natCast]
  rw [if_pos nz,e,bC0,if_pos ⟨by omega,by rw [hlen]; omega⟩,if_pos nz,hw,hd]
  rfl
 ·rintro ⟨i,z⟩ h
  obtain ⟨rfl,rfl⟩:=Prod.mk.inj h
  have d1:decide ((l.length:Int) - 1 - ((l.length:Nat):Int)≥0)=false:=decide_eq_false (by omega)
  exact ⟨some (rcp l n),by simp only [b72_1,d1,Bool.false_eq_true,if_false]; rfl,rfl⟩
 ·refine Prod.ext ?_ rfl
  dsimp only; omega
theorem rcpRef {l:List Ch} (hl:1≤l.length∧l.length<1000) (ht:∀ x∈l,1≤(tks x).length∧(tks x).length≤200) {n:Int} (hn:0≤n∧n≤1000):r19 l n=some (rcp l n):=by
 unfold r19
 rw [if_pos ⟨by omega,by omega,by omega,by omega⟩,lastI (by omega) hl.2]
 refine iter_inv (b19_1 l) (fun m s=>s=((bkC l n m).1,(l.length:Int) - 1 - (m:Int),(bkC l n m).2)) (fun o=>o=some (rcp l n)) l.length ?_ ?_ _ ?_ _ (by omega)
 ·rintro m _ hm rfl
  have hi:l.length - 1 - m<l.length:=by omega
  have ei:(l.length:Int) - 1 - (m:Int)=((l.length - 1 - m:Nat):Int):=by omega
  have hx:=ht _ (getD_mem hi)
  have hb:=bk_nn l hn m
  have hlen:=bk_len l n m
  obtain ⟨g1,g2⟩:=mod_b (k:=(tks (l.getD (l.length - 1 - m) default)).length) hb.1 hx.1
  have hw:IntKind.i64.wrap (((l.length - 1 - m:Nat):Int) - 1)=(l.length:Int) - 1 - ((m+1:Nat):Int):=by rw [IntWalk.i64_in _ ⟨by omega,by omega⟩]; omega
  have hd:IntKind.i64.wrap ((bkC l n m).1.tdiv ((tks (l.getD (l.length - 1 - m) default)).length:Int))=(bkC l n (m+1)).1:=by
   have:=bk_nn l hn (m+1)
   exact IntWalk.i64_in _ ⟨by have:=this.1; rw [bkC] at this; dsimp only at this; omega,by have:=this.2; rw [bkC] at this; dsimp only at this; omega⟩
  refine .inl ⟨((bkC l n (m+1)).1,(l.length:Int) - 1 - ((m+1:Nat):Int),(bkC l n (m+1)).2),?_,rfl⟩
  have e:=withR (l.getD (l.length - 1 - m) default) ⟨g1,g2⟩
  have d1:decide (((l.length - 1 - m:Nat):Int)≥0)=true:=decide_eq_true (by omega)
  have nz:(((tks (l.getD (l.length - 1 - m) default)).length:Int))≠0:=by omega
  rw [ei]
  simp only [b19_1,d1,if_true,if_pos (rgN hi),Int.toNat_natCast]
  rw [if_pos nz,e,bC0,if_pos ⟨by omega,by rw [hlen]; omega⟩,if_pos nz,hw,hd]
  rfl
 ·rintro ⟨i,j,z⟩ h
  obtain ⟨rfl,h2⟩:=Prod.mk.inj h
  obtain ⟨rfl,rfl⟩:=Prod.mk.inj h2
  have d1:decide ((l.length:Int) - 1 - ((l.length:Nat):Int)≥0)=false:=decide_eq_false (by omega)
  exact ⟨some (rcp l n),by simp only [b19_1,d1,Bool.false_eq_true,if_false]; rfl,rfl⟩
 ·refine Prod.ext rfl (Prod.ext ?_ rfl)
  dsimp only; omega
theorem bk_at {l:List Ch} (ht:∀ x∈l,1≤(tks x).length∧(tks x).length≤200) {n:Int} (hn:0≤n∧n≤1000):∀ m,m≤l.length→∀ i,i<l.length→l.length - m≤i→∃ k,k<(tks (l.getD i default)).length∧(bkC l n m).2.getD i default=tmd (l.getD i default) ((tks (l.getD i default)).getD k default)
 | 0,_,i,h1,h2=>absurd h2 (by omega)
 | m+1,hm,i,h1,h2=>by
  have hlen:=bk_len l n m
  rw [bkC]
  dsimp only
  by_cases e:i=l.length - 1 - m
  ·subst e
   have hx:=ht _ (getD_mem h1)
   have hb:=bk_nn l hn m
   obtain ⟨g1,g2⟩:=mod_b (k:=(tks (l.getD (l.length - 1 - m) default)).length) hb.1 hx.1
   refine ⟨((bkC l n m).1.tmod ((tks (l.getD (l.length - 1 - m) default)).length:Int)).toNat,by omega,?_⟩
   rw [List.getD_eq_getElem?_getD,List.getElem?_set_self (by omega)]; rfl
  ·obtain ⟨k,k1,k2⟩:=bk_at ht hn m (by omega) i h1 (by omega)
   refine ⟨k,k1,?_⟩
   rw [← k2,List.getD_eq_getElem?_getD,List.getElem?_set_ne (by omega), ← List.getD_eq_getElem?_getD]
theorem rcp_at {l:List Ch} (ht:∀ x∈l,1≤(tks x).length∧(tks x).length≤200) {n:Int} (hn:0≤n∧n≤1000) {i:Nat} (h:i<l.length):∃ k,k<(tks (l.getD i default)).length∧(rcp l n).getD i default=tmd (l.getD i default) ((tks (l.getD i default)).getD k default):=
 bk_at ht hn l.length (Nat.le_refl _) i h (by omega)
theorem tk_in:∀ {l:List Int} {last:Int},tkI last l=0→∀ x∈l,inR x 1 200=true
 | [],_,_,x,hx=>by cases hx
 | y::r,last,h,x,hx=>by
  rw [tkI] at h
  by_cases c:inR y 1 200=true
  ·rw [if_pos c] at h
   by_cases c2:last<y
   ·rw [if_pos c2] at h
    rcases List.mem_cons.1 hx with rfl | hx
    ·exact c
    ·exact tk_in h x hx
   ·rw [if_neg c2] at h; exact absurd h (by decide)
  ·rw [if_neg c] at h; exact absurd h (by decide)
theorem tk_len:∀ {l:List Int} {last:Int},tkI last l=0→0≤last→last≤200→(l.length:Int)≤200 - last
 | [],_,_,_,h=>by simp; omega
 | y::r,last,h,h1,h2=>by
  rw [tkI] at h
  by_cases c:inR y 1 200=true
  ·rw [if_pos c] at h
   have c':=inR_iff'.1 c
   by_cases c2:last<y
   ·rw [if_pos c2] at h
    have:=tk_len h (by omega) c'.2
    rw [List.length_cons]; omega
   ·rw [if_neg c2] at h; exact absurd h (by decide)
  ·rw [if_neg c] at h; exact absurd h (by decide)
structure ChOk (x:Ch):Prop where
 kind:x.1≠5
 some1:1≤(tks x).length
 ph:phE 0 (tmd x ((tks x).getD 0 default))=0
 tk:tkI 0 (tks x)=0
theorem cho_ok {x:Ch} (h:choE x=0):ChOk x:=by
 unfold choE at h
 split at h
 ·rename_i h1
  rw [Bool.and_eq_true,bne_iff_ne] at h1
  split at h
  ·cases h
  ·split at h
   ·rename_i h2 h3
    exact ⟨h1.2,by omega,h3,h⟩
   ·rename_i h2 h3; exact absurd h h3
 ·cases h
theorem ch_ph {x:Ch} (h:ChOk x) {k:Nat} (hk:k<(tks x).length):phE 0 (tmd x ((tks x).getD k default))=0∧PhOk (tmd x ((tks x).getD k default)):=by
 have h5:(tmd x ((tks x).getD k default)).1≠5:=h.kind
 have h0:=h.ph
 rw [ph_ne5 (show (tmd x ((tks x).getD 0 default)).1≠5 from h.kind)] at h0
 obtain ⟨o1,o2,o3⟩:=own_ok h0
 have hr:=tk_in h.tk _ (getD_mem hk)
 have key:ownE (tmd x ((tks x).getD k default)).1 (tmd x ((tks x).getD k default)).2.1 (tmd x ((tks x).getD k default)).2.2.1 (tmd x ((tks x).getD k default)).2.2.2.1 (tmd x ((tks x).getD k default)).2.2.2.2.1 (hN (tmd x ((tks x).getD k default)).2.2.2.2.2 == 0)=0:=by
  have e3:rightB (tmd x ((tks x).getD k default)).1 (tmd x ((tks x).getD k default)).2.1 (tmd x ((tks x).getD k default)).2.2.1 (tmd x ((tks x).getD k default)).2.2.2.1 (tmd x ((tks x).getD k default)).2.2.2.2.1=true:=by
   unfold rightB at o3 ⊢
   rw [if_neg (show (tmd x ((tks x).getD 0 default)).1≠5 from h.kind)] at o3
   rw [if_neg h5]
   simp only [tmd,Bool.and_eq_true] at o3 ⊢
   exact ⟨⟨o3.1.1,hr⟩,o3.2⟩
  unfold ownE
  rw [if_pos (show inR (tmd x ((tks x).getD k default)).1 0 5=true from o1),if_pos (show cleanB (tmd x ((tks x).getD k default)).1 (tmd x ((tks x).getD k default)).2.1 (tmd x ((tks x).getD k default)).2.2.1 (tmd x ((tks x).getD k default)).2.2.2.2.1 (hN (tmd x ((tks x).getD k default)).2.2.2.2.2 == 0)=true from o2),if_pos e3]
 have hp:phE 0 (tmd x ((tks x).getD k default))=0:=by rw [ph_ne5 h5]; exact key
 exact ⟨hp,ph_ok hp h5⟩
theorem er_none {d:Int}:∀ {l:List Ph} {i:Int},(∀ x∈l,phE d x=0)→erI d i l=(0,0)
 | [],_,_=>rfl
 | x::r,i,h=>by rw [erI,if_pos (h x (by simp))]; exact er_none fun y hy=>h y (by simp [hy])
theorem fl_self {l:List Ph} (h:∀ x∈l,x.1≠5):flL l=l:=by
 induction l with
 | nil=>rfl
 | cons x r ih=>
  unfold flL at ih ⊢
  rw [List.flatMap_cons,ih fun y hy=>h y (by simp [hy])]
  unfold phF
  rw [if_neg (h x (by simp))]; rfl
structure ClsOk (l:List Ch):Prop where
 len:1≤l.length∧l.length≤12
 ch:∀ x∈l,ChOk x
 cnt:cntC 1 l≤60
 cold:coldB (l.getD (l.length - 1) default).1=true
theorem cls_ok {l:List Ch} (h:(clsE l).2=0):ClsOk l:=by
 unfold clsE at h
 split at h
 ·cases h
 ·split at h
  ·cases h
  ·split at h
   ·rename_i h1 h2 h3
    split at h
    ·rename_i h4
     split at h
     ·rename_i h5
      exact ⟨⟨by omega,by omega⟩,fun x hx=>cho_ok (exI_all h3 x hx),h4,h5⟩
     ·cases h
    ·cases h
   ·rename_i h1 h2 h3; exact absurd h h3
theorem ClsOk.tks {l:List Ch} (h:ClsOk l):∀ x∈l,1≤(tks x).length∧(tks x).length≤200:=fun x hx=>by
 have hc:=h.ch x hx
 have:=tk_len hc.tk (Int.le_refl _) (by decide)
 exact ⟨hc.some1,by omega⟩
theorem rcp_ok {l:List Ch} (h:ClsOk l) {n:Int} (hn:0≤n∧n≤1000):recE (rcp l n)=(0,0)∧(∀ x∈rcp l n,PhOk x)∧(rcp l n).length=l.length:=by
 have hlen:(rcp l n).length=l.length:=bk_len l n l.length
 have hall:∀ x∈rcp l n,phE 0 x=0∧PhOk x:=fun x hx=>by
  obtain ⟨i,hi,rfl⟩:=mem_getD hx
  obtain ⟨k,k1,k2⟩:=rcp_at h.tks hn (show i<l.length by omega)
  rw [k2]
  exact ch_ph (h.ch _ (getD_mem (by omega))) k1
 have h5:∀ x∈rcp l n,x.1≠5:=fun x hx=>by have:=(hall x hx).2.kind; omega
 refine ⟨?_,fun x hx=>(hall x hx).2,hlen⟩
 have h1:=h.len
 unfold recE
 rw [if_neg (by omega),if_neg (by omega),er_none fun x hx=>(hall x hx).1,if_pos rfl,fl_self h5,if_pos (by omega),if_pos ?_]
 obtain ⟨k,k1,k2⟩:=rcp_at h.tks hn (show l.length - 1<l.length by omega)
 rw [hlen,k2]
 exact h.cold
theorem fewC (l:List Ch):∃ v,r10 l=some v∧(v=true→l.length≤14∧∀ x∈l,(tks x).length≤62∧shL 14 (hU x.2.2.2.2.2.1)=true∧dpL (hU x.2.2.2.2.2.1)<7):=by
 unfold r10
 by_cases c:decide ((l.length:Int)>14)=true
 ·rw [if_pos c]; exact ⟨false,rfl,fun h=>by cases h⟩
 rw [if_neg c]
 rw [decide_eq_true_eq] at c
 refine iter_inv (b10_1 l) (fun i s=>s=(i:Int)∧∀ j,j<i→(tks (l.getD j default)).length≤62∧shL 14 (hU (l.getD j default).2.2.2.2.2.1)=true∧dpL (hU (l.getD j default).2.2.2.2.2.1)<7) (fun o=>∃ v,o=some v∧(v=true→l.length≤14∧∀ x∈l,(tks x).length≤62∧shL 14 (hU x.2.2.2.2.2.1)=true∧dpL (hU x.2.2.2.2.2.1)<7)) l.length ?_ ?_ _ ⟨rfl,fun j hj=>absurd hj (by omega)⟩ _ (by omega)
 ·rintro i _ hi ⟨rfl,hall⟩
  obtain ⟨v,hv,hv2⟩:=smallR (hU (l.getD i default).2.2.2.2.2.1)
  simp only [b10_1,ltN hi,if_true,if_pos (rgN hi),Int.toNat_natCast,wS i (by omega),hv,Option.isSome_some,implies_true,Option.getD_some]
  rw [if_pos (fun _=>rgN hi)]
  by_cases c2:((tks (l.getD i default)).length:Int)>62
  ·rw [decide_eq_true c2,Bool.true_or,if_pos rfl]; exact .inr ⟨_,rfl,false,rfl,fun h=>by cases h⟩
  rw [decide_eq_false c2,Bool.false_or]
  cases v with
  | false=>rw [if_pos (by rfl)]; exact .inr ⟨_,rfl,false,rfl,fun h=>by cases h⟩
  | true=>
   rw [if_neg (by decide)]
   refine .inl ⟨_,rfl,rfl,fun j hj=> ?_⟩
   by_cases hji:j=i
   ·subst hji; exact ⟨by omega,hv2 rfl⟩
   ·exact hall j (by omega)
 ·rintro _ ⟨rfl,hall⟩
  simp only [b10_1,geN,Bool.false_eq_true,if_false]
  refine ⟨_,rfl,true,rfl,fun _=>⟨by omega,fun x hx=> ?_⟩⟩
  obtain ⟨j,hj,rfl⟩:=mem_getD hx
  exact hall j hj
theorem copyC (l:List Ch) (hl:l.length≤14) (h:∀ x∈l,(tks x).length≤62∧shL 14 (hU x.2.2.2.2.2.1)=true∧dpL (hU x.2.2.2.2.2.1)<7):r12 l=some l:=by
 unfold r12
 refine iter_inv (b12_1 l) (fun i s=>s=(l.take i,(i:Int))) (fun o=>o=some l) l.length ?_ ?_ _ (by simp) _ (by omega)
 ·rintro i _ hi rfl
  obtain ⟨h1,h2,h3⟩:=h _ (getD_mem hi)
  have hv:=copyR 7 (hU (l.getD i default).2.2.2.2.2.1) h3 (shL_mono (by decide) h2)
  have hlen:(l.take i).length=i:=by rw [List.length_take]; omega
  have hc:r70 (l.getD i default).2.2.2.2.2.2=some (l.getD i default).2.2.2.2.2.2:=by
   have h1':(l.getD i default).2.2.2.2.2.2.length≤62:=h1
   unfold r70; rw [if_pos ⟨by omega,by omega⟩]
  refine .inl ⟨(l.take (i+1),((i+1:Nat):Int)),?_,rfl⟩
  simp only [b12_1,ltN hi,if_true,if_pos (rgN hi),Int.toNat_natCast,hv,hc,bC0,wS i (by omega),hlen,hM_hU]
  rw [if_pos ⟨by omega,by omega⟩,List.take_add_one,List.getElem?_eq_getElem hi,List.getD_eq_getElem?_getD,List.getElem?_eq_getElem hi]
  rfl
 ·rintro _ rfl
  simp only [b12_1,geN,Bool.false_eq_true,if_false,List.take_length]
  exact ⟨_,rfl,rfl⟩
theorem recipeClasses_law (l:List Ch) (n:Int):r3 l n=some true:=by
 obtain ⟨v,h10,hf⟩:=fewC l
 unfold r3
 rw [awakeR,Option.bind_some,if_neg (by decide),h10,Option.bind_some]
 cases v with
 | false=>rfl
 | true=>
  obtain ⟨hl,hx⟩:=hf rfl
  have ht:∀ x∈l,(tks x).length<1000:=fun x h=>by have:=(hx x h).1; omega
  rw [if_neg (by decide),copyC l hl hx,Option.bind_some,classC l (by omega) ht,Option.bind_some]
  have e13:r13 l=some (if (clsE l).2=0 then (cntC 1 l,0) else (0,(clsE l).2)):=by
   unfold r13
   rw [classC l (by omega) ht,Option.bind_some,cntCode l (by omega),Option.bind_some]
   by_cases c:(clsE l).2=0
   ·rw [if_pos c,if_neg (by simpa using c)]
   ·rw [if_neg c,if_pos (by simpa using c)]
  rw [e13,Option.bind_some]
  by_cases c:(clsE l).2=0
  rotate_left
  ·have e14:r14 l n=some ([],(clsE l).2):=by
    unfold r14
    rw [e13,Option.bind_some,if_neg c,wit,Option.bind_some,unl,Option.bind_some,fst _ (by simp),Option.bind_some]
    have:firstV [(clsE l).2,codeIf (inR n 0 (IntKind.i64.wrap (0 - 1))) 6]=(clsE l).2:=if_neg c
    rw [this,if_pos (by simpa using c)]
   rw [e14,Option.bind_some,classR l (by omega) ht,Option.bind_some,if_neg (by simp),if_pos (by simpa using c),if_neg c]
   simp
  have K:=cls_ok c
  have hb:=cnt_b l 1 (by decide) (by decide) K.tks
  have hK:=K.len
  rw [if_pos c]
  have hw:IntKind.i64.wrap (cntC 1 l - 1)=cntC 1 l - 1:=IntWalk.i64_in _ ⟨by omega,by have:=K.cnt; omega⟩
  have e14:r14 l n=some (if inR n 0 (cntC 1 l - 1)=true then (rcp l n,0) else ([],6)):=by
   unfold r14
   rw [e13,Option.bind_some,if_pos c,wit,Option.bind_some,unl,Option.bind_some,fst _ (by simp),Option.bind_some]
   show (if (firstV [0,codeIf (inR n 0 (IntKind.i64.wrap (cntC 1 l - 1))) 6] != 0)=true then _ else _)=_
   rw [hw]
   by_cases hn:inR n 0 (cntC 1 l - 1)=true
   ·have hn':=inR_iff'.1 hn
    rw [hn,if_neg (by decide),rcpCode ⟨hK.1,by omega⟩ K.tks ⟨hn'.1,by have:=K.cnt; omega⟩]; rfl
   ·have hn':inR n 0 (cntC 1 l - 1)=false:=by simpa using hn
    rw [hn',if_pos (by decide)]; rfl
  rw [e14,Option.bind_some,classR l (by omega) ht,Option.bind_some,if_neg (by simp),if_neg (by simpa using c),cntR16 (by omega) K.tks K.cnt]
  rw [if_pos (show (!((cntC 1 l,(0:Int)).2 != 0))=true→(some (cntC 1 l)).isSome=true from fun _=>rfl),if_neg (by simp)]
  show (r17 n 0 (IntKind.i64.wrap (cntC 1 l - 1))).bind _=_
  rw [hw,p59,Option.bind_some]
  by_cases hn:inR n 0 (cntC 1 l - 1)=true
  ·have hn':=inR_iff'.1 hn
   have hn2:0≤n∧n≤1000:=⟨hn'.1,by have:=K.cnt; omega⟩
   obtain ⟨q1,q2,q3⟩:=rcp_ok K hn2
   have g:=fl_flat q2 (by omega)
   rw [hn,if_neg (by decide),if_pos rfl,rcpRef ⟨hK.1,by omega⟩ K.tks hn2]
   have hr:r20 (rcp l n)=some 0:=by
    unfold r20
    rw [checkR (by omega),Option.bind_some,q1]
   simp only [Option.isSome_some,implies_true,if_true,Option.getD_some,samePh 7 _ g.2 g.1,hr]
   rfl
  ·have hn':inR n 0 (cntC 1 l - 1)=false:=by simpa using hn
   rw [hn',if_pos (by decide)]
   rfl
end Go.Proofs.YtnepigpnlnmlmaaGreatDoor

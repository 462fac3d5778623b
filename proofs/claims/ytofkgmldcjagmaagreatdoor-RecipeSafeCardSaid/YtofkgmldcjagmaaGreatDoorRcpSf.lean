/- RecipeSafe: a stopped recipe makes its first ticks, then ticks without power; no cell becomes hotter. -/
import Derived.Test.YtofkgmldcjagmaaGreatDoorF12
import Derived.Test.YtofkgmldcjagmaaGreatDoorF22
import Derived.Test.YtofkgmldcjagmaaGreatDoorF26
import Derived.Test.YtofkgmldcjagmaaGreatDoorRcpCv
import Derived.Test.YtofkgmldcjagmaaGreatDoorRcpL
import Derived.Test.YtofkgmldcjagmaaGreatDoorRcpB
set_option linter.unusedVariables false
set_option linter.unusedSimpArgs false
namespace Go.Proofs.YtofkgmldcjagmaaGreatDoor
open Go.dG
theorem Ht:∀ (l p:List Int),(∀ x∈p,x=0)→Ey l p=l
 | [],_,_=>by cases ‹List Int› <;>rfl
 | x::l,[],_=>rfl
 | x::l,y::p,h=>by
  have:=h y (by simp)
  subst this
  rw [Ey,Ht l p (fun z hz=>h z (List.mem_cons_of_mem _ hz)),Int.add_zero]
theorem adQ {n M:Int} (hn:0≤n):∀ l:List Int,(∀ x∈l,x≤M)→∀ x∈vG n l,x≤M
 | [],h,x,hx=>by simp [vG] at hx
 | y::r,h,x,hx=>by
  simp only [vG,List.mem_cons] at hx
  have:=h y (by simp)
  rcases hx with rfl | hx
  ·omega
  ·exact h x (List.mem_cons_of_mem _ hx)
theorem aff {a b:Int} {T:TL} {L:List TL} {s p:List Int} {law:Int} (H:kE a b T L s) (hl:0≤law∧law<L.length) (hp:∀ x∈p,x=0) {M:Int} (hM:∀ x∈s,x≤M):∀ x∈iC b T (L.getD law.toNat default) s p,x≤M:=by
 unfold iC
 rw [Ht _ _ hp]
 exact adQ (Di H.ok _ hl).1 _ (fun x hx=>(Ve H.ok.mix H.ok.Yk (u:=0) (v:=M) s (fun y hy=>⟨(xR H.ok (H.ins y hy)).1,hM y hy⟩) x hx).2)
def tJ (T:TL) (x:Int):Int:= -((-(pl T x)).floor)
theorem X3 {T:TL} (hT:Asc 1 T) {x y:Int} (h:x≤y):tJ T x≤tJ T y:=by
 have h1:=(lip (c:=1) (by decide) T x y hT (Rat.intCast_le_intCast.2 h)).1
 have h2:(-(pl T y)).floor≤(-(pl T x)).floor:=Rat.floor_monotone (by grind)
 unfold tJ; omega
theorem Vu:∀ l:List Int,0<l.length→∃ i,i<l.length∧∀ x∈l,x≤l.getD i default
 | [],h=>absurd h (by simp)
 | [x],_=>⟨0,by simp,by simp⟩
 | x::y::r,_=>by
  obtain ⟨i,hi,h⟩:=Vu (y::r) (by simp)
  by_cases c:(y::r).getD i default≤x
  ·refine ⟨0,by simp,fun z hz=> ?_⟩
   rw [List.getD_cons_zero]
   rcases List.mem_cons.1 hz with rfl | hz
   ·exact Int.le_refl _
   ·exact Int.le_trans (h z hz) c
  ·refine ⟨i+1,by simpa using hi,fun z hz=> ?_⟩
   rw [List.getD_cons_succ]
   rcases List.mem_cons.1 hz with rfl | hz
   ·omega
   ·exact h z hz
section
variable {a b:Int} {T:TL} {L:List TL} {lo hi:List Int} {W:TL} {dZ spread:Int}
theorem KC:∀ (l1 l2:List (TL×Int×Int)) (lo hi:List Int) (z:List (List Int×List Int)),jR b T L lo hi (l1++l2)=some z→BoxOk a b T L lo hi→(∀ d∈l1,fA a L d.1 d.2.1 d.2.2=0)→
 ∃ z1 z2 u v,z=z1++z2∧z1.length=l1.length∧BoxOk a b T L u v∧jR b T L u v l2=some z2∧v=(if 0<l1.length then (z1.getD (l1.length - 1) default).2 else hi)
 | [],l2,lo,hi,z,h,H,_=>⟨[],z,lo,hi,rfl,rfl,H,h,rfl⟩
 | d::r,l2,lo,hi,z,h,H,hd=>by
  rw [List.cons_append,jR] at h
  obtain ⟨y,hy,h⟩:=Option.bind_eq_some_iff.1 h
  obtain ⟨q,hq,rfl⟩:=Option.map_eq_some_iff.1 h
  obtain ⟨z1,z2,u,v,e1,e2,e3,e4,e5⟩:=KC r l2 y.1 y.2 q hq (H.next (hd d (by simp)) hy) (fun d hd'=>hd d (by simp [hd']))
  refine ⟨y::z1,z2,u,v,by rw [e1]; rfl,by simp [e2],e3,e4,?_⟩
  rw [e5]
  simp only [List.length_cons,Nat.add_sub_cancel,show 0<r.length+1 by omega,if_true]
  by_cases c:0<r.length
  ·obtain ⟨k,hk⟩:∃ k,r.length=k+1:=⟨r.length - 1,by omega⟩
   rw [if_pos c,hk,List.getD_cons_succ]; rfl
  ·rw [if_neg c,show r.length=0 by omega]; rfl
theorem KA:∀ (l:List (TL×Int×Int)) (lo hi:List Int) (z:List (List Int×List Int)) (M:Int),jR b T L lo hi l=some z→BoxOk a b T L lo hi→(∀ d∈l,fA a L d.1 d.2.1 d.2.2=0∧∀ r∈d.1,r.2=0)→
 (∀ x∈hi,x≤M)→∀ y∈z,∀ x∈y.2,x≤M
 | [],lo,hi,z,M,h,H,_,_=>by obtain rfl:=Option.some.inj h; intro y hy; cases hy
 | d::r,lo,hi,z,M,h,H,hd,hM=>by
  rw [jR] at h
  obtain ⟨y,hy,h⟩:=Option.bind_eq_some_iff.1 h
  obtain ⟨q,hq,rfl⟩:=Option.map_eq_some_iff.1 h
  obtain ⟨d1,d2⟩:=hd d (by simp)
  have H2:=H.next d1 hy
  have S:=wZ d1
  have hy2:y.2=iC b T (L.getD d.2.1.toNat default) hi (d.1.map (·.2)):=by
   unfold boxS at hy
   split at hy
   ·cases hy; rfl
   ·cases hy
  have h3:∀ x∈y.2,x≤M:=by
   rw [hy2]
   exact aff H.hi ⟨S.law.1,by have:=S.law; omega⟩ (fun x hx=>by obtain ⟨w,hw,rfl⟩:=List.mem_map.1 hx; exact d2 w hw) hM
  intro x hx
  rcases List.mem_cons.1 hx with rfl | hx
  ·exact h3
  ·exact KA r y.1 y.2 q M hq H2 (fun d hd'=>hd d (by simp [hd'])) h3 x hx
theorem NU {k:Int}:∀ (f:Nat) (s:List Int) (out:TL),((jT b T L W k f s out).2=0∧∃ m,m≤f∧(jT b T L W k f s out).1=out++List.replicate m (0,(L.length:Int) - 1))∨(jT b T L W k f s out).2=22∨(jT b T L W k f s out).2=24
 | 0,s,out=>by
  rw [jT]; split
  ·exact .inr (.inr rfl)
  ·exact .inl ⟨rfl,0,by omega,by simp⟩
 | f+1,s,out=>by
  rw [jT]
  split
  ·split
   ·rcases NU f _ (out++[(0,(L.length:Int) - 1)]) with ⟨h1,m,h2,h3⟩ | h
    ·refine .inl ⟨h1,m+1,by omega,?_⟩
     rw [h3,List.append_assoc,List.replicate_succ]; rfl
    ·exact .inr h
   ·exact .inr (.inl rfl)
  ·exact .inl ⟨rfl,0,by omega,by simp⟩
theorem adR {t:TL} {n k most:Int}:((pJ b T L W lo t n k most).2=0∧∃ m,m≤most.toNat∧(pJ b T L W lo t n k most).1=t.take n.toNat++List.replicate m (0,(L.length:Int) - 1))∨(pJ b T L W lo t n k most).2=22∨(pJ b T L W lo t n k most).2=24:=by
 unfold pJ
 split
 ·exact .inr (.inl rfl)
 ·exact NU _ _ _
theorem Ko {n:Int}:∀ {t:TL},(∀ x∈t,(0≤x.1∧x.1≤10000)∧0≤x.2∧x.2<n)→BH n t=0
 | [],_=>rfl
 | x::r,h=>by
  have h1:=h x (by simp)
  have h2:JM n x=0:=by unfold JM; rw [dJ.2 h1.1,dJ.2 ⟨h1.2.1,by omega⟩]; rfl
  rw [BH,if_pos h2]
  exact Ko (fun y hy=>h y (by simp [hy]))
theorem ajX (B:lM a b T L lo hi W dZ spread) {t:TL} {n m:Nat} (hn:n≤t.length) (ht:vk L (t.take n++List.replicate m (0,(L.length:Int) - 1))) {z:List (List Int×List Int)}
 (hz:jR b T L lo hi (eu L.length spread W (t.take n++List.replicate m (0,(L.length:Int) - 1)))=some z) :
 ∃ c,c<a.toNat∧∀ k,n≤k→k<z.length→∀ i,i<a.toNat→tJ T ((z.getD k default).2.getD i default)≤tJ T ((if 0<n then (z.getD (n - 1) default).2 else hi).getD c default):=by
 have hsp:∀ d∈eu L.length spread W (t.take n++List.replicate m (0,(L.length:Int) - 1)),fA a L d.1 d.2.1 d.2.2=0:=fun d hd=>by
  obtain ⟨x,hx,rfl⟩:=List.mem_map.1 hd; exact FC B (ht.2 x hx)
 have es:eu L.length spread W (t.take n++List.replicate m (0,(L.length:Int) - 1))=eu L.length spread W (t.take n)++eu L.length spread W (List.replicate m (0,(L.length:Int) - 1)):=by simp [eu]
 have hall:=Io B.box hsp hz
 rw [es] at hz hsp
 obtain ⟨z1,z2,u,v,e1,e2,e3,e4,e5⟩:=KC _ _ _ _ _ hz B.box (fun d hd=>hsp d (by simp [hd]))
 have hl1:(eu L.length spread W (t.take n)).length=n:=by simp [eu]; omega
 rw [hl1] at e2 e5
 have hv:v=(if 0<n then (z.getD (n - 1) default).2 else hi):=by
  rw [e5]
  by_cases c:0<n
  ·rw [if_pos c,if_pos c,e1,List.getD_eq_getElem?_getD,List.getD_eq_getElem?_getD,List.getElem?_append_left (by omega)]
  ·rw [if_neg c,if_neg c]
 have hc:=B.box.lo.ok.cells
 have hvl:=e3.hi.len
 obtain ⟨c,c1,c2⟩:=Vu v (by omega)
 rw [← hv]
 refine ⟨c,by omega,fun k hk hkz i hi'=>X3 B.box.lo.ok.Yk ?_⟩
 have hq:=KA _ _ _ _ (v.getD c default) e4 e3 (fun d hd=>⟨hsp d (by simp [hd]),?_⟩) c2
 ·have hzk:z.getD k default∈z2:=by
   rw [e1,List.getD_eq_getElem?_getD,List.getElem?_append_right (by omega), ← List.getD_eq_getElem?_getD]
   refine getD_mem ?_
   rw [e1,List.length_append] at hkz; omega
  have hlen:=(hall _ (getD_mem hkz)).hi.len
  exact hq _ hzk _ (getD_mem (by omega))
 ·obtain ⟨x,hx,rfl⟩:=List.mem_map.1 hd
  obtain ⟨-,rfl⟩:=List.mem_replicate.1 hx
  intro r hr
  obtain ⟨w,_,rfl⟩:=List.mem_map.1 hr
  simp
theorem atO (ok:fJ a b T L) {x:Int} (hx:inT T x=true):∃ M K,Zf a b T L x=some (M,K)∧r19 M K=some (tJ T x):=by
 obtain ⟨_,_,M,K,_,h2,_,h4⟩:=ay8 ok hx hx
 exact ⟨M,K,h2,h4⟩
theorem GK {z:List (List Int×List Int)} {c k:Nat} (hc:c<a.toNat) (hk:k<z.length):(((dQ a T z).getD c default).getD k default).2=tJ T ((z.getD k default).2.getD c default):=by
 have h1:(dQ a T z).getD c default=zq T z c:=by simp [dQ,List.getD_eq_getElem?_getD,hc]
 rw [h1]
 simp [zq,OI,tJ,List.getD_eq_getElem?_getD,hk]
theorem zo {z:List (List Int×List Int)} {c:Nat} (hc:c<a.toNat):((dQ a T z).getD c default).length=z.length:=by
 simp [dQ,zq,List.getD_eq_getElem?_getD,hc]
theorem aeU (B:lM a b T L lo hi W dZ spread) {out:TL} (ho:out.length≤200) {n:Nat} (hn:n≤out.length) {z:List (List Int×List Int)} (hz:z.length=out.length) (sp:Bool) (e:Int)
 (hmax:∃ c,c<a.toNat∧∀ k,n≤k→k<z.length→∀ i,i<a.toNat→tJ T ((z.getD k default).2.getD i default)≤tJ T ((if 0<n then (z.getD (n - 1) default).2 else hi).getD c default)) :
 aS (Yi a b T L hi (n:Int) (out,sp,e) (dQ a T z,0)) 1000000000 (0,0)=some true:=by
 have hc:=B.box.lo.ok.cells
 have hl2:=B.box.hi.len
 have cl:(dQ a T z).length=a.toNat:=by simp [dQ]
 refine fQ _ (fun c s=>s.2=(c:Int)∧∀ i,i<c→tJ T ((if 0<n then (z.getD (n - 1) default).2 else hi).getD i default)≤s.1) (fun o=>o=some true) a.toNat ?_ ?_ _ ⟨rfl,fun i hi=>absurd hi (by omega)⟩ _ (by omega)
 ·rintro c ⟨h,_⟩ hcc ⟨rfl,hall⟩
  simp only at hall
  have x1:decide ((c:Int)<((dQ a T z).length:Int))=true:=decide_eq_true (by omega)
  have x2:(((((dQ a T z).getD c default).length:Int)) != (out.length:Int))=false:=by rw [zo hcc,hz]; simp
  obtain ⟨M,K,q1,q2⟩:=atO (L:=L) (b:=b) B.box.lo.ok (B.box.hi.ins _ (getD_mem (show c<hi.length by omega)))
  simp only [Yi,x1,if_true,Int.toNat_natCast,x2,Bool.false_eq_true,if_false,wS c (by omega)]
  rw [if_pos ⟨by omega,by omega⟩,if_pos ⟨by omega,by omega⟩,q1]
  simp only [aP,q2]
  by_cases hn0:(n:Int)>0
  ·have hcl:=zo (a:=a) (T:=T) (z:=z) hcc
   have hw:IntKind.i64.wrap ((n:Int) - 1)=((n - 1:Nat):Int):=by rw [IntWalk.i64_in _ ⟨by omega,by omega⟩]; omega
   rw [if_pos (decide_eq_true hn0),if_pos ⟨by omega,by omega⟩,hw,if_pos ⟨by omega,by omega⟩,Int.toNat_natCast,GK hcc (by omega)]
   refine .inl ⟨_,rfl,rfl,fun i hi'=> ?_⟩
   simp only
   by_cases hic:i=c
   ·subst hic
    rw [if_pos (by omega)]
    split<;>omega
   ·refine Int.le_trans (hall i (by omega)) ?_
    split<;>omega
  ·rw [if_neg (by simpa using hn0)]
   refine .inl ⟨_,rfl,rfl,fun i hi'=> ?_⟩
   simp only
   by_cases hic:i=c
   ·subst hic
    rw [if_neg (by omega)]
    split<;>omega
   ·refine Int.le_trans (hall i (by omega)) ?_
    split<;>omega
 ·rintro ⟨h,_⟩ ⟨rfl,hall⟩
  simp only at hall
  have x1:decide ((a.toNat:Int)<((dQ a T z).length:Int))=false:=decide_eq_false (by omega)
  simp only [Yi,x1,Bool.false_eq_true,if_false]
  refine ⟨_,rfl,?_⟩
  refine fQ _ (fun c s=>s=(c:Int)) (fun o=>o=some true) a.toNat ?_ ?_ _ rfl _ (by omega)
  ·rintro c _ hcc rfl
   have hcl:=zo (a:=a) (T:=T) (z:=z) hcc
   have y1:decide ((c:Int)<((dQ a T z).length:Int))=true:=decide_eq_true (by omega)
   have hin:aS (Yh (dQ a T z,0) (h,(a.toNat:Int)) (c:Int)) 1000000000 (n:Int)=some (gK.next ((c+1:Nat):Int)):=by
    refine fQ _ (fun j s=>s=((n+j:Nat):Int)) (fun o=>o=some (gK.next ((c+1:Nat):Int))) (out.length - n) ?_ ?_ _ rfl _ (by omega)
    ·rintro j _ hj rfl
     have y2:decide (((n+j:Nat):Int)<(((dQ a T z).getD c default).length:Int))=true:=decide_eq_true (by omega)
     obtain ⟨c0,c1,c2⟩:=hmax
     have c3:=c2 (n+j) (by omega) (by omega) c hcc
     have c4:=hall c0 c1
     refine .inl ⟨_,?_,rfl⟩
     simp only [Yh,Int.toNat_natCast,y2,if_true,wS (n+j) (by omega)]
     rw [if_pos ⟨by omega,by omega⟩,if_pos ⟨by omega,by omega⟩,if_pos ⟨by omega,by omega⟩,if_neg (by rw [decide_eq_true_eq]; show ¬ _>h; rw [GK hcc (by omega)]; omega)]
     rfl
    ·rintro _ rfl
     have y2:decide (((n+(out.length - n):Nat):Int)<(((dQ a T z).getD c default).length:Int))=false:=decide_eq_false (by omega)
     refine ⟨_,?_,rfl⟩
     simp only [Yh,Int.toNat_natCast,y2,Bool.false_eq_true,if_false,wS c (by omega)]
     rw [if_pos ⟨by omega,by omega⟩]; rfl
   refine .inl ⟨_,?_,rfl⟩
   simp only [acj,y1,if_true,hin,Option.getD_some]
  ·rintro _ rfl
   have y1:decide ((a.toNat:Int)<((dQ a T z).length:Int))=false:=decide_eq_false (by omega)
   exact ⟨_,by simp only [acj,y1,Bool.false_eq_true,if_false],rfl⟩
end
end Go.Proofs.YtofkgmldcjagmaaGreatDoor

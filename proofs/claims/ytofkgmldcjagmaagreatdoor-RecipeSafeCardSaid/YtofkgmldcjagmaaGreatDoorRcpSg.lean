/- RecipeSafe: the law. -/
import Derived.Test.YtofkgmldcjagmaaGreatDoorF12
import Derived.Test.YtofkgmldcjagmaaGreatDoorF25
import Derived.Test.YtofkgmldcjagmaaGreatDoorF26
import Derived.Test.YtofkgmldcjagmaaGreatDoorRcpSf
set_option linter.unusedVariables false
set_option linter.unusedSimpArgs false
namespace Go.Proofs.YtofkgmldcjagmaaGreatDoor
open Go.dG
theorem YP (t:TL) (n k most:Int):r13 t n k most=some (if (dR n 0 (t.length:Int) && dR k 200 3000) && dR most 0 200 then 0 else 2):=by
 have h:Y8 k=some (dR k 200 3000):=by unfold Y8; rw [p59]; rfl
 unfold r13
 rw [p59,Option.bind_some,h]
 simp only [p59,Option.isSome_some,implies_true,if_true,Option.getD_some]
 rcases Bool.eq_false_or_eq_true (dR n 0 (t.length:Int)) with c1 | c1<;>rcases Bool.eq_false_or_eq_true (dR k 200 3000) with c2 | c2<;>rcases Bool.eq_false_or_eq_true (dR most 0 200) with c3 | c3<;>simp only [c1,c2,c3]<;>rfl
theorem ahu {t:TL} (h:t.length≤400):r15 t t=some true:=by
 unfold r15
 rw [if_neg (by simp)]
 refine fQ (Hf t t) (fun i s=>s=(i:Int)) (fun o=>o=some true) t.length ?_ ?_ _ rfl _ (by omega)
 ·rintro i _ hi rfl
  refine .inl ⟨((i+1:Nat):Int),?_,rfl⟩
  simp only [Hf,oz hi,if_true,if_pos (lF hi),Int.toNat_natCast,wS i (by omega),beq_self_eq_true,Bool.and_self,Bool.not_true,Bool.false_eq_true,if_false]; rfl
 ·rintro _ rfl
  exact ⟨_,by simp only [Hf,geN,Bool.false_eq_true,if_false],rfl⟩
section
variable {a b:Int} {T:TL} {L:List TL} {lo hi:List Int} {W:TL} {dZ spread:Int}
theorem abC (B:lM a b T L lo hi W dZ spread) (hb:(wB a b T L lo hi W dZ spread).2=0) {t:TL} (ht:vk L t) (h0:lN L t=0):r17 a b T L lo hi W dZ spread t=some (cvC a T (jR b T L lo hi (eu L.length spread W t))):=by
 obtain ⟨f1,f2,f3,f4,f5,f6⟩:=B.few
 have ht1:=ht.1
 have h:=aiz a b T L lo hi W dZ spread t f1 f2 f3 (by omega) (by omega) (by omega) (by omega)
 rw [if_pos hb,h0] at h
 unfold r17
 rw [h]
 simp only [Option.bind_some]
 rw [if_neg (by decide),afe B ht]; rfl
theorem Rx (B:lM a b T L lo hi W dZ spread) (hb:(wB a b T L lo hi W dZ spread).2=0) {t:TL} (ht:vk L t) {n m:Nat} (hn:n≤t.length) (hm:m≤200) (sp:Bool) (e:Int)
 (hL:∀ x∈L,x.length<1000) (hhi:hi.length<1000000) :
 aS (Yj a b T L lo hi W dZ spread (n:Int) (t.take n++List.replicate m (0,(L.length:Int) - 1),sp,e)) 1000000000 (n:Int)=some true:=by
 obtain ⟨f1,f2,f3,f4,f5,f6⟩:=B.few
 have ht1:=ht.1
 have hcells:=B.box.lo.ok.cells
 have hol:(t.take n++List.replicate m ((0:Int),(L.length:Int) - 1)).length=n+m:=by rw [List.length_append,List.length_take,List.length_replicate]; omega
 refine fQ _ (fun i s=>s=((n+i:Nat):Int)) (fun o=>o=some true) m ?_ ?_ _ rfl _ (by omega)
 ·rintro i _ hi' rfl
  have x1:decide (((n+i:Nat):Int)<((t.take n++List.replicate m ((0:Int),(L.length:Int) - 1)).length:Int))=true:=decide_eq_true (by omega)
  have x2:(t.take n++List.replicate m ((0:Int),(L.length:Int) - 1)).getD (n+i) default=(0,(L.length:Int) - 1):=by
   have hl:(t.take n).length=n:=by rw [List.length_take]; omega
   rw [List.getD_eq_getElem?_getD,List.getElem?_append_right (by omega),hl,Nat.add_sub_cancel_left,List.getElem?_replicate,if_pos hi']; rfl
  refine .inl ⟨((n+(i+1):Nat):Int),?_,rfl⟩
  simp only [Yj,x1,if_true,Int.toNat_natCast,x2,wI1 f2,beq_self_eq_true,Bool.and_self,Bool.not_true,Bool.false_eq_true,if_false,wS (n+i) (by omega)]
  rw [if_pos ⟨by omega,by omega⟩]; rfl
 ·rintro _ rfl
  have x1:decide (((n+m:Nat):Int)<((t.take n++List.replicate m ((0:Int),(L.length:Int) - 1)).length:Int))=false:=decide_eq_false (by omega)
  simp only [Yj,x1,Bool.false_eq_true,if_false]
  refine ⟨_,rfl,?_⟩
  by_cases hbig:((t.take n++List.replicate m ((0:Int),(L.length:Int) - 1)).length:Int)>200
  ·rw [if_pos (decide_eq_true hbig)]
  rw [if_neg (by rw [decide_eq_true_eq]; exact hbig),agS a b T L lo hi W dZ spread f1 f2 f3 (by omega) (by omega) (by omega),Option.bind_some,agR (by omega),Option.bind_some]
  simp only
  have aFS:=B.dZ
  have hto:vk L (t.take n++List.replicate m (0,(L.length:Int) - 1)):=⟨by omega,fun x hx=>by
   rcases List.mem_append.1 hx with hx | hx
   ·exact ht.2 x (List.mem_of_mem_take hx)
   ·obtain ⟨-,rfl⟩:=List.mem_replicate.1 hx
    exact ⟨⟨by show (0:Int)≤0; decide,by show (0:Int)≤10000; decide⟩,by show (0:Int)≤(L.length:Int) - 1; omega,by show (L.length:Int) - 1<_; omega⟩⟩
  have h0:lN L (t.take n++List.replicate m (0,(L.length:Int) - 1))=0:=by
   unfold lN; rw [if_pos (by omega)]; exact Ko hto.2
  rw [abC B hb hto h0,Option.bind_some]
  cases hr:jR b T L lo hi (eu L.length spread W (t.take n++List.replicate m (0,(L.length:Int) - 1))) with
  | none=>rfl
  | some z=>
   have hzl:=(BZ _ _ _ _ hr).1
   simp only [eu,List.length_map] at hzl
   have cl:(((dQ a T z).length:Int) != a)=false:=by
    have:(dQ a T z).length=a.toNat:=by simp [dQ]
    rw [this,bne_eq_false_iff_eq]; omega
   rw [if_neg (show ¬ (((cvC a T (some z)).2 != 0)=true) by show ¬ (((0:Int) != 0)=true); decide),if_neg (show ¬ ((((cvC a T (some z)).1.length:Int) != a)=true) by show ¬ ((((dQ a T z).length:Int) != a)=true); rw [cl]; decide)]
   exact aeU B (by omega) (by omega) hzl sp e (ajX B hn hto hr)
end
theorem sK (a b:Int) (T:TL) (L:List TL) (lo hi:List Int) (W:TL) (dZ spread:Int) (t:TL) (n k most:Int):r4 a b T L lo hi W dZ spread t n k most=some true:=by
 obtain ⟨v2,h7,hf⟩:=light a b T L lo hi W dZ spread
 unfold r4
 rw [aj3,Option.bind_some,if_neg (by decide),h7,Option.bind_some]
 by_cases hg:((!v2) || (decide ((t.length:Int)>30)))=true
 ·rw [if_pos (by intro h; rw [hg] at h; cases h),if_pos (by intro h; rw [hg,Bool.true_or] at h; cases h),if_pos (by intro h; rw [hg,Bool.true_or,Bool.true_or] at h; cases h),if_pos (by rw [hg,Bool.true_or,Bool.true_or,Bool.true_or])]
 have hg':((!v2) || (decide ((t.length:Int)>30)))=false:=by simpa using hg
 simp only [Bool.or_eq_true,not_or,Bool.not_eq_true',decide_eq_true_eq] at hg
 obtain ⟨q1,q2⟩:=hg
 obtain ⟨g1,g2,g3,g4,g5,g6,g7⟩:=hf (by simpa using q1)
 have hn:L.length<1000:=by omega
 have hR:=aBp a b T L lo hi W dZ spread hn g7 (by omega) (by omega) (by omega)
 have h11:r11 a b T L lo hi W dZ spread=some (wB a b T L lo hi W dZ spread).2:=by unfold r11; rw [hR]; rfl
 rw [h11,ahj a b T L lo hi W dZ spread t hn,YP,hg']
 simp only [Option.isSome_some,implies_true,if_true,Option.getD_some,Bool.false_or]
 by_cases hb:(wB a b T L lo hi W dZ spread).2=0
 rotate_left
 ·have:((wB a b T L lo hi W dZ spread).2 != 0)=true:=by simpa using hb
  rw [if_pos (by rw [this]; rfl)]
 by_cases ht0:lN L t=0
 rotate_left
 ·have:(lN L t != 0)=true:=by simpa using ht0
  rw [if_pos (by rw [this,Bool.or_true]; rfl)]
 have B:=aj2 hb
 have ht:=YH ht0
 rw [hb,ht0]
 cases hc:(dR n 0 (t.length:Int) && dR k 200 3000) && dR most 0 200 with
 | false=>rfl
 | true=>
  have hc2:=hc
  simp only [Bool.and_eq_true] at hc2
  have hn':=dJ.1 hc2.1.1; have hk:=dJ.1 hc2.1.2; have hm:=dJ.1 hc2.2
  simp only [if_true]
  rw [if_neg (by decide),agS a b T L lo hi W dZ spread (by omega) hn g7 (by omega) (by omega) (by omega),Option.bind_some,agR (by omega),Option.bind_some]
  simp only
  rw [anU B ht n k most ht0 hb,Option.bind_some,if_pos hc]
  rcases adR (b:=b) (T:=T) (L:=L) (W:=W) (lo:=lo) (t:=t) (n:=n) (k:=k) (most:=most) with ⟨h0,m,hm2,ho⟩ | h22 | h24
  ·have hy:wV t n (pJ b T L W lo t n k most)=(t.take n.toNat++List.replicate m (0,(L.length:Int) - 1),decide (n<(t.length:Int)),0):=by
    unfold wV; rw [h0,ho]; simp
   have hol:(t.take n.toNat++List.replicate m ((0:Int),(L.length:Int) - 1)).length=n.toNat+m:=by rw [List.length_append,List.length_take,List.length_replicate]; omega
   have etk:(t.take n.toNat++List.replicate m ((0:Int),(L.length:Int) - 1)).take n.toNat=t.take n.toNat:=by
    rw [List.take_append_of_le_length (by rw [List.length_take]; omega),List.take_take,Nat.min_self]
   have hw:IntKind.i64.wrap (n+most)=n+most:=IntWalk.i64_in _ ⟨by omega,by omega⟩
   have hin:dR ((t.take n.toNat++List.replicate m ((0:Int),(L.length:Int) - 1)).length:Int) n (n+most)=true:=dJ.2 ⟨by omega,by omega⟩
   have hs:r15 (t.take n.toNat) (t.take n.toNat)=some true:=ahu (by rw [List.length_take]; omega)
   have hA:=Rx B hb ht (n:=n.toNat) (m:=m) (by omega) (by omega) (decide (n<(t.length:Int))) 0 g7 (by omega)
   rw [Int.toNat_of_nonneg hn'.1] at hA
   rw [hy]
   simp only
   rw [if_neg (by decide),hw,p59,hin,Option.bind_some,etk,hs]
   rw [if_pos (fun _=>⟨by omega,hn'.1,by omega⟩),if_pos (fun _=>⟨by omega,hn'.1,hn'.2⟩),if_pos (show _→(some true).isSome=true from fun _=>rfl),if_neg (by simp)]
   exact hA
  ·have hy:(wV t n (pJ b T L W lo t n k most)).2.2=22:=h22
   rw [hy]; rfl
  ·have hy:(wV t n (pJ b T L W lo t n k most)).2.2=24:=h24
   rw [hy]; rfl
end Go.Proofs.YtofkgmldcjagmaaGreatDoor

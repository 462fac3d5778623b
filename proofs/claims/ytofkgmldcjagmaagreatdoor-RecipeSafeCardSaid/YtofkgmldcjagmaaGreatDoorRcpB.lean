/- A stopped recipe by the code, as a function. -/
import Derived.Test.YtofkgmldcjagmaaGreatDoorF25
import Derived.Test.YtofkgmldcjagmaaGreatDoorRcpA
import Derived.Test.YtofkgmldcjagmaaGreatDoorStopC
set_option linter.unusedVariables false
set_option linter.unusedSimpArgs false
namespace Go.Proofs.YtofkgmldcjagmaaGreatDoor
open Go.dG
def jT (b:Int) (T:TL) (L:List TL) (W:TL) (k:Int):Nat→List Int→TL→TL×Int
 | 0,s,out=>if s.any (nU T k)=true then ([],24) else (out,0)
 | f+1,s,out=>if s.any (nU T k)=true then (if (iC b T (L.getD ((L.length:Int) - 1).toNat default) s (uH W 0)).all (inT T)=true then jT b T L W k f (iC b T (L.getD ((L.length:Int) - 1).toNat default) s (uH W 0)) (out++[(0,(L.length:Int) - 1)]) else ([],22)) else (out,0)
def pJ (b:Int) (T:TL) (L:List TL) (W:TL) (lo:List Int) (t:TL) (n k most:Int):TL×Int:=
 match runT b T L W lo (t.take n.toNat) with
 | none=>([],22)
 | some s=>jT b T L W k most.toNat s (t.take n.toNat)
def wV (t:TL) (n:Int) (y:TL×Int):TL×Bool×Int:=(y.1,decide (y.2=0) && decide (n<(t.length:Int)),y.2)
theorem VU {l:List Int} {p:Int→Bool}:l.any p=true↔∃ e∈l,p e=true:=by simp
theorem any_false {l:List Int} {p:Int→Bool} (h:∀ e∈l,p e=false):l.any p=false:=by simpa using h
section
variable {a b:Int} {T:TL} {L:List TL} {lo hi:List Int} {W:TL} {dZ spread:Int}
theorem anU (B:lM a b T L lo hi W dZ spread) {t:TL} (ht:vk L t) (n k most:Int) (h0:lN L t=0) (hb:(wB a b T L lo hi W dZ spread).2=0) :
 r8 a b T L lo hi W dZ spread t n k most=some (if (dR n 0 (t.length:Int) && dR k 200 3000) && dR most 0 200 then wV t n (pJ b T L W lo t n k most) else ([],false,2)):=by
 obtain ⟨f1,f2,f3,f4,f5,f6⟩:=B.few
 have ht1:=ht.1
 have hL1:=B.dZ
 unfold r8
 rw [ar' B ht,Option.bind_some,wit,Option.bind_some]
 simp only [wit,Option.isSome_some,implies_true,if_true,Option.getD_some,V6,Option.bind_some]
 rw [fst _ (by simp),Option.bind_some]
 cases hc:(dR n 0 (t.length:Int) && dR k 200 3000) && dR most 0 200 with
 | false=>rfl
 | true=>
  simp only [Bool.and_eq_true] at hc
  have hn:=dJ.1 hc.1.1; have hk:=dJ.1 hc.1.2; have hm:=dJ.1 hc.2
  have ew:IntKind.i64.wrap (n+most)=n+most:=IntWalk.i64_in _ ⟨by omega,by omega⟩
  rw [if_neg (by decide),if_pos ⟨by omega,hn.1,hn.2⟩,if_pos rfl]
  have hlt:(t.take n.toNat).length=n.toNat:=by rw [List.length_take]; omega
  refine fQ (Yf t n k most (a,b,T,L,lo,hi,W,dZ,spread,0)) (fun i s=>s.1=(i:Int)∧s.2.2=t.take i∧runT b T L W lo (t.take i)=some s.2.1) (fun o=>o=some (wV t n (pJ b T L W lo t n k most))) n.toNat ?_ ?_ _ ⟨rfl,rfl,rfl⟩ _ (by omega)
  ·rintro i ⟨_,s,_⟩ hi ⟨rfl,rfl,hr⟩
   have H:kE a b T L s:=BX _ _ _ B.box.lo hr
   have hit:i<t.length:=by omega
   have hx:=ht.2 _ (getD_mem hit)
   obtain ⟨e1,e2,e3⟩:=afO B H hx
   have hli:((t.take i).length:Int)=i:=by rw [List.length_take]; omega
   have g1:decide ((i:Int)<(n.toNat:Int))=true:=decide_eq_true (by omega)
   have g2:((i:Int) == n+most)=false:=by rw [beq_eq_false_iff_ne]; omega
   simp only [Yf,g1,if_true,hlt,hli,ew,Int.toNat_natCast,Kt t _ i hi hit,e1,aP,e3]
   rw [if_pos ⟨by omega,by omega⟩,g2,if_neg (by decide)]
   by_cases hc:(iC b T (L.getD (t.getD i default).2.toNat default) s (uH W (t.getD i default).1)).all (inT T)=true
   ·have er:t.take (i+1)=t.take i++[t.getD i default]:=by
     rw [List.take_add_one,List.getElem?_eq_getElem hit,List.getD_eq_getElem?_getD,List.getElem?_eq_getElem hit]; rfl
    simp only [if_pos hc]
    rw [if_neg (by decide),if_pos ⟨by omega,by omega⟩]
    refine .inl ⟨_,rfl,?_,er.symm,?_⟩
    ·show IntKind.i64.wrap ((i:Int)+1)=_
     rw [wS i (by omega)]; rfl
    ·rw [er,FK _ _ _ _ hr,if_pos hc]
   ·simp only [if_neg hc]
    rw [if_pos (by decide),if_pos (by decide)]
    refine .inr ⟨_,rfl,?_⟩
    have hnone:runT b T L W lo (t.take n.toNat)=none:=by
     cases hq:runT b T L W lo (t.take n.toNat) with
     | none=>rfl
     | some s1=>
      exfalso
      obtain ⟨s2,q1,q2,q3⟩:=FI _ _ _ hq i (by rw [hlt]; exact hi)
      rw [Kt t _ i hi hit] at q2
      have ett:(t.take n.toNat).take i=t.take i:=by rw [List.take_take,Nat.min_eq_left (by omega)]
      rw [ett,hr] at q1
      obtain rfl:=Option.some.inj q1
      exact hc q2
    unfold pJ
    rw [hnone]; rfl
  ·rintro ⟨_,s,_⟩ ⟨rfl,rfl,hr⟩
   have g1:decide ((n.toNat:Int)<(n.toNat:Int))=false:=by simp
   simp only [Yf,g1,Bool.false_eq_true,if_false]
   refine ⟨_,rfl,?_⟩
   have es:pJ b T L W lo t n k most=jT b T L W k most.toNat s (t.take n.toNat):=by unfold pJ; rw [hr]
   rw [es]
   refine fQ (NQ t n k most (a,b,T,L,lo,hi,W,dZ,spread,0)) (fun m u=>kE a b T L u.1∧u.2.length=n.toNat+m∧jT b T L W k (most.toNat - m) u.1 u.2=jT b T L W k most.toNat s (t.take n.toNat)) (fun o=>o=some (wV t n (jT b T L W k most.toNat s (t.take n.toNat)))) most.toNat ?_ ?_ _ ⟨BX _ _ _ B.box.lo hr,hlt,rfl⟩ _ (by omega)
   ·rintro m ⟨es,made⟩ hm1 ⟨H,hml,he⟩
    simp only at H hml he
    obtain ⟨f,hf⟩:∃ f,most.toNat - m=f+1:=⟨most.toNat - m - 1,by omega⟩
    rw [hf] at he
    rcases afZ B t (n:=n) (k:=k) (most:=most) (made:=made) ⟨hn.1,by omega⟩ hk hm H (by omega) with ⟨h1,h2⟩ | ⟨h1,h2⟩
    ·simp only [NQ,h2,Option.getD_some]
     unfold aaC
     rw [hml,if_neg (by omega)]
     rw [jT,if_pos (VU.2 h1)] at he
     by_cases ho:(iC b T (L.getD ((L.length:Int) - 1).toNat default) es (uH W 0)).all (inT T)=true
     ·rw [if_pos ho] at he ⊢
      refine .inl ⟨_,rfl,H.next ho,by simp only [List.length_append,List.length_singleton]; omega,?_⟩
      rw [show most.toNat - (m+1)=f by omega]; exact he
     ·rw [if_neg ho] at he ⊢
      exact .inr ⟨_,rfl,by rw [← he]; rfl⟩
    ·simp only [NQ,h2,Option.getD_some]
     rw [jT,if_neg (by rw [any_false h1]; decide)] at he
     refine .inr ⟨_,rfl,by rw [← he]; simp [wV]⟩
   ·rintro ⟨es,made⟩ ⟨H,hml,he⟩
    simp only at H hml he
    rw [Nat.sub_self] at he
    rcases afZ B t (n:=n) (k:=k) (most:=most) (made:=made) ⟨hn.1,by omega⟩ hk hm H (by omega) with ⟨h1,h2⟩ | ⟨h1,h2⟩
    ·simp only [NQ,h2,Option.getD_some]
     unfold aaC
     rw [hml,if_pos (by omega)]
     rw [jT,if_pos (VU.2 h1)] at he
     exact ⟨_,rfl,by rw [← he]; rfl⟩
    ·simp only [NQ,h2,Option.getD_some]
     rw [jT,if_neg (by rw [any_false h1]; decide)] at he
     exact ⟨_,rfl,by rw [← he]; simp [wV]⟩
end
end Go.Proofs.YtofkgmldcjagmaaGreatDoor

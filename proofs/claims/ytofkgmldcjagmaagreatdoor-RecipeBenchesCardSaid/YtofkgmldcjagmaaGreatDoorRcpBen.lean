/- RecipeBenches: benches, spans and curves are as specified. -/
import Derived.Test.YtofkgmldcjagmaaGreatDoorF10
import Derived.Test.YtofkgmldcjagmaaGreatDoorF12
import Derived.Test.YtofkgmldcjagmaaGreatDoorF23
import Derived.Test.YtofkgmldcjagmaaGreatDoorRcpCv
import Derived.Test.YtofkgmldcjagmaaGreatDoorRcpL
import Derived.Test.YtofkgmldcjagmaaGreatDoorF24
set_option linter.unusedVariables false
set_option linter.unusedSimpArgs false
namespace Go.Proofs.YtofkgmldcjagmaaGreatDoor
open Go.dJ
theorem afj {l:TL} (h:l.length<1000):r35 l l=some true:=by
 unfold r35
 rw [if_neg (by simp)]
 refine iF (Gq l l) (fun i s=>s=(i:Int)) (fun o=>o=some true) l.length ?_ ?_ _ rfl _ (by omega)
 ·rintro i _ hi rfl
  refine .inl ⟨((i+1:Nat):Int),?_,rfl⟩
  simp only [Gq,nO hi,if_true,if_pos (kY hi),Int.toNat_natCast,wS i (by omega),beq_self_eq_true,Bool.and_self,Bool.not_true,Bool.false_eq_true,if_false]; rfl
 ·rintro _ rfl
  exact ⟨_,by simp only [Gq,XU,Bool.false_eq_true,if_false],rfl⟩
theorem agH {l:List (TL×Int×Int)} (h:l.length<1000) (hd:∀ d∈l,d.1.length<1000):r23 l l=some true:=by
 unfold r23
 rw [if_neg (by simp)]
 refine iF (Gw l l) (fun i s=>s=(i:Int)) (fun o=>o=some true) l.length ?_ ?_ _ rfl _ (by omega)
 ·rintro i _ hi rfl
  refine .inl ⟨((i+1:Nat):Int),?_,rfl⟩
  have hs:=afj (hd _ (getD_mem hi))
  simp only [Gw,nO hi,if_true,kY hi,and_self,implies_true,Int.toNat_natCast,wS i (by omega),beq_self_eq_true,Bool.and_self,Bool.not_true,Bool.not_false,Bool.false_eq_true,if_false,hs,Option.isSome_some,Option.getD_some,Bool.or_false,Bool.false_or,Bool.or_self]; rfl
 ·rintro _ rfl
  exact ⟨_,by simp only [Gw,XU,Bool.false_eq_true,if_false],rfl⟩
theorem agI {l:List TL} (h:l.length<1000) (hd:∀ d∈l,d.length<1000):r26 l l=some true:=by
 unfold r26
 rw [if_neg (by simp)]
 refine iF (Gs l l) (fun i s=>s=(i:Int)) (fun o=>o=some true) l.length ?_ ?_ _ rfl _ (by omega)
 ·rintro i _ hi rfl
  refine .inl ⟨((i+1:Nat):Int),?_,rfl⟩
  have hs:=afj (hd _ (getD_mem hi))
  simp only [Gs,nO hi,if_true,if_pos (kY hi),Int.toNat_natCast,wS i (by omega),hs,aP,Bool.not_true,Bool.false_eq_true,if_false]; rfl
 ·rintro _ rfl
  exact ⟨_,by simp only [Gs,XU,Bool.false_eq_true,if_false],rfl⟩
section
variable (a b:Int) (T:TL) (L:List TL) (lo hi:List Int) (W:TL) (gV spread:Int) (t:TL)
def XQ:Int:=if (xP a b T L lo hi W gV spread).2=0 then nC L t else (xP a b T L lo hi W gV spread).2
theorem ac' (hT:T.length<1000) (hn:L.length<1000) (hL:∀ x∈L,x.length<1000) (h1:lo.length<1000000) (h2:hi.length<1000000) (hw:W.length<1000) (hl:t.length<1000000) :
 r21 a b T L lo hi W gV spread t=some (if XQ a b T L lo hi W gV spread t=0 then (dK L.length spread W t,0) else ([],XQ a b T L lo hi W gV spread t))∧
 r17 a b T L lo hi W gV spread t=some (if XQ a b T L lo hi W gV spread t=0 then cvC a T (lg b T L lo hi (dK L.length spread W t)) else ([],XQ a b T L lo hi W gV spread t)):=by
 have h:=ahL a b T L lo hi W gV spread t hT hn hL h1 h2 hw hl
 change _=some (a,b,T,L,lo,hi,W,gV,spread,XQ a b T L lo hi W gV spread t) at h
 unfold r21 r17
 rw [h]
 simp only [Option.bind_some]
 by_cases c:XQ a b T L lo hi W gV spread t=0
 ·have c1:(XQ a b T L lo hi W gV spread t != 0)=false:=by rw [c]; rfl
  simp only [c1,Bool.false_eq_true,if_false,if_pos c]
  have cb:(xP a b T L lo hi W gV spread).2=0:=by unfold XQ at c; split at c; assumption; contradiction
  have ct:nC L t=0:=by unfold XQ at c; rw [if_pos cb] at c; exact c
  have B:=abp cb
  have ht:=JU ct
  rw [Yj B ht,aeD B ht]; exact ⟨rfl,rfl⟩
 ·have c1:(XQ a b T L lo hi W gV spread t != 0)=true:=by simpa using c
  simp only [c1,if_true,if_neg c]; exact ⟨trivial,trivial⟩
end
theorem oC (a b:Int) (T:TL) (L:List TL) (lo hi:List Int) (W:TL) (gV spread:Int) (t:TL):r5 a b T L lo hi W gV spread t=some true:=by
 obtain ⟨v2,h7,hf⟩:=light a b T L lo hi W gV spread
 unfold r5
 rw [ajj,Option.bind_some,if_neg (by decide),h7,Option.bind_some]
 by_cases hg:(((!v2) || ((decide ((t.length:Int)>30)) && (decide ((t.length:Int)≤200)))) || (decide ((t.length:Int)>202)))=true
 ·rw [if_pos hg]
 rw [if_neg hg]
 simp only [Bool.or_eq_true,not_or,Bool.not_eq_true',decide_eq_true_eq] at hg
 obtain ⟨⟨q1,-⟩,q2⟩:=hg
 obtain ⟨g1,g2,g3,g4,g5,g6,g7⟩:=hf (by simpa using q1)
 have hl:t.length≤202:=by omega
 have hn:L.length<1000:=by omega
 have hR:=aAX a b T L lo hi W gV spread hn g7 (by omega) (by omega) (by omega)
 have hC:=atC a b T L lo hi W gV spread (by omega) hn g7 (by omega) (by omega) (by omega)
 obtain ⟨hS,hV⟩:=ac' a b T L lo hi W gV spread t (by omega) hn g7 (by omega) (by omega) (by omega) (by omega)
 rw [atn a b T L lo hi W gV spread (by omega) hn g7 (by omega) (by omega) (by omega),Option.bind_some]
 simp only
 rw [hC,Option.bind_some,atm (by omega),Option.bind_some,hS,Option.bind_some,hV,Option.bind_some,hR,Option.bind_some,if_neg (by simp)]
 by_cases hb:(xP a b T L lo hi W gV spread).2=0
 ·have eo:XQ a b T L lo hi W gV spread t=nC L t:=if_pos hb
  rw [eo,if_pos (by simpa using hb),agx a b T L lo hi W gV spread t hn,Option.bind_some]
  by_cases ht0:nC L t=0
  ·have B:=abp hb
   have ht:=JU ht0
   have f6:=B.few.2.2.2.2.2
   have hss:r23 (dK L.length spread W t) (dK L.length spread W t)=some true:=agH (by simp [dK]; omega) (fun d hd=>by obtain ⟨x,hx,rfl⟩:=List.mem_map.1 hd; simp [wG,iw]; omega)
   rw [if_pos ht0,if_pos ht0,if_neg (by simpa using ht0),Yi B ht]
   simp only [Option.isSome_some,implies_true,if_true,Option.getD_some,hss]
   rw [if_neg (by decide),aeC B ht,Option.bind_some]
   cases hr:lg b T L lo hi (dK L.length spread W t) with
   | none=>rfl
   | some z=>
    have hz:=(wL _ _ _ _ hr).1
    have hsc:r26 (fF a T z) (fF a T z)=some true:=by
     have hc:=B.box.lo.ok.cells
     refine agI (by simp [fF]; omega) (fun d hd=> ?_)
     obtain ⟨i,_,rfl⟩:=List.mem_map.1 hd
     have:=ht.1
     simp only [dK,List.length_map] at hz
     simp only [ou,List.length_map]; omega
    simp only [cvC,cvR,hsc]
    rfl
  ·rw [if_neg ht0,if_neg ht0,if_pos (by simpa using ht0)]
   simp only [beq_self_eq_true,Bool.and_self,Bool.true_and]; rfl
 ·have eo:XQ a b T L lo hi W gV spread t=(xP a b T L lo hi W gV spread).2:=if_neg hb
  rw [eo,if_neg (by simpa using hb),if_pos (by simpa using hb),if_neg hb,if_neg hb]
  simp only [beq_self_eq_true,Bool.and_self,Bool.true_and]; rfl
end Go.Proofs.YtofkgmldcjagmaaGreatDoor

import Derived.Test.YtofkgmldcjagmaaGreatDoorF01
import Derived.Test.YtofkgmldcjagmaaGreatDoorF12
import Derived.Test.YtofkgmldcjagmaaGreatDoorHeatP3
set_option linter.unusedVariables false
set_option linter.unusedSimpArgs false
namespace Go.Proofs.YtofkgmldcjagmaaGreatDoor
open Go.Abs
def setF (L:List (List (Int×Int))) (i:Nat):Option (Int×Int):=
 if lawErrV (L.getD i default)=0 then (if 0<i∧belowV (L.getD i default) (L.getD (i - 1) default)=true then some ((i:Int),13) else none)
 else some ((i:Int),lawErrV (L.getD i default))
def setupErrV (a b:Int) (T:List (Int×Int)) (L:List (List (Int×Int))):Int×Int:=
 if (inR a 1 12 && inR b 0 500)=true then
  if T.length<2 then (0,10) else if 8<T.length then (0,8)
  else match scanN (tabF T) 0 T.length with
   | some v=>v
   | none=>if 4<L.length then (0,8) else (scanN (setF L) 0 L.length).getD (0,0)
 else (0,2)
theorem tabF_ne {l:List (Int×Int)} {i:Nat} {v:Int×Int} (h:tabF l i=some v):v.2≠0:=by
 unfold tabF at h
 repeat' split at h
 all_goals first | (injection h with h; subst h; simp) | cases h
theorem setF_ok {L:List (List (Int×Int))} {i:Nat} (h:setF L i=none):lawErrV (L.getD i default)=0:=by
 unfold setF at h
 split at h
 ·assumption
 ·cases h
theorem setF_ne {L:List (List (Int×Int))} {i:Nat} {v:Int×Int} (h:setF L i=some v):v.2≠0:=by
 unfold setF at h
 split at h
 ·split at h
  ·injection h with h; subst h; simp
  ·cases h
 ·injection h with h; subst h; assumption
theorem lawlen {L:List (List (Int×Int))} (hL:∀ x∈L,x.length<1000) (i:Nat):(L.getD i default).length<1000:=by
 by_cases hi:i<L.length
 ·exact hL _ (by simp [List.getD_eq_getElem?_getD,hi])
 ·have:L.getD i default=default:=by simp [List.getD_eq_getElem?_getD,hi]
  rw [this]; exact (by decide:([]:List (Int×Int)).length<1000)
theorem below_nil {l:List (Int×Int)} (h:LawOk l):belowV l []=false:=by
 unfold belowV
 rw [scan_all (fun j a1 a2=> ?_)]
 ·rfl
 ·simp only [List.length_nil,Nat.add_zero,Nat.zero_add] at a2
  have hj:=h.srt.rng j a2
  obtain ⟨k,h1,h2,h3,h4,h5⟩:=ex_seg h.srt (by omega) (by omega) (l.getD j default).1 1 (by omega) (by omega)
  have hk:k=j:=by
   by_cases hlt:k<j
   ·have:=h5 k (Nat.le_refl _) (by omega)
    have:=h.srt.lt hlt a2
    omega
   ·by_cases hgt:j<k
    ·have:=h4 j hgt; omega
    ·omega
  subst hk
  have hn:r160 [] (l.getD k default).1 1=some (0,1):=rfl
  have hc:cmpAt l [] k=false:=by
   unfold cmpAt
   rw [List.append_nil,h3,hn]
   simp only [Option.getD_some,Int.zero_mul,Int.mul_one]
   have:0≤(segV l (l.getD k default).1 1 k).1∧(segV l (l.getD k default).1 1 k).1<10000000000:=by
    unfold segV
    rw [if_neg (by omega)]
    have hy:=h.yr k a2
    by_cases hk0:k=0
    ·subst hk0; rw [if_pos rfl]; simp only; omega
    ·rw [if_neg hk0,if_neg (by omega)]
     have hx2:=h.srt.rng (k - 1) (by omega)
     have hy2:=h.yr (k - 1) (by omega)
     have hi:=h.srt.inc k (by omega) a2
     have hyi:=h.yinc k (by omega) a2
     generalize (l.getD k default).1=x1 at*
     generalize (l.getD (k - 1) default).1=x0 at*
     generalize (l.getD k default).2=y1 at*
     generalize (l.getD (k - 1) default).2=y0 at*
     have e1:IntKind.i64.wrap (x1 - x0)=x1 - x0:=IntWalk.i64_in _ ⟨by omega,by omega⟩
     have e2:IntKind.i64.wrap (x0*1)=x0:=by rw [Int.mul_one]; exact IntWalk.i64_in _ ⟨by omega,by omega⟩
     have e3:IntKind.i64.wrap ((x1 - x0)*1)=x1 - x0:=by rw [Int.mul_one,e1]
     have e4:IntKind.i64.wrap (y1 - y0)=y1 - y0:=IntWalk.i64_in _ ⟨by omega,by omega⟩
     simp only [e1,e2,e3,e4]
     have b1:0≤y0*(x1 - x0):=Int.mul_nonneg (by omega) (by omega)
     have b2:y0*(x1 - x0)≤1000*(x1 - x0):=Int.mul_le_mul_of_nonneg_right (by omega) (by omega)
     have b3:0≤(y1 - y0)*(x1 - x0):=Int.mul_nonneg (by omega) (by omega)
     have b4:(y1 - y0)*(x1 - x0)≤1000*(x1 - x0):=Int.mul_le_mul_of_nonneg_right (by omega) (by omega)
     have e5:IntKind.i64.wrap (y0*(x1 - x0))=y0*(x1 - x0):=IntWalk.i64_in _ ⟨by omega,by omega⟩
     have e6:IntKind.i64.wrap ((y1 - y0)*(x1 - x0))=(y1 - y0)*(x1 - x0):=IntWalk.i64_in _ ⟨by omega,by omega⟩
     rw [e5,e6]
     have e7:IntKind.i64.wrap (y0*(x1 - x0)+(y1 - y0)*(x1 - x0))=y0*(x1 - x0)+(y1 - y0)*(x1 - x0):=IntWalk.i64_in _ ⟨by omega,by omega⟩
     rw [e7]; omega
   generalize (segV l (l.getD k default).1 1 k).1=z at this
   have ez:IntKind.i64.wrap z=z:=IntWalk.i64_in _ ⟨by omega,by omega⟩
   have e0:IntKind.i64.wrap 0=0:=by decide
   rw [ez,e0]
   simp; omega
  simp only [hc,Bool.false_eq_true,if_false]
theorem p24L (L:List (List (Int×Int))) (hn:L.length<1000) (hL:∀ x∈L,x.length<1000):iterC (b53_1 L) 1000000000 ([],0)=some ((scanN (setF L) 0 L.length).getD (0,0)):=by
 have h:=iter_scanS L.length (b53_1 L) (fun i=>(if i=0 then [] else L.getD (i - 1) default,(i:Int))) (setF L) (some (0,0)) (by omega)
  (fun i hi hj=>by
   have hprev:SortK (if i=0 then [] else L.getD (i - 1) default) 200 3000:=by
    split
    ·exact sort_nil
    ·exact (lawOk_of (setF_ok (hj (i - 1) (by omega)))).srt
   simp only [b53_1,ltN hi,if_true,if_pos (rgN hi),Int.toNat_natCast,wS i (by omega),p100 _ _ hprev (lawlen hL i),bindC]
   unfold setF
   by_cases h0:lawErrV (L.getD i default)=0
   ·simp only [h0,if_true]
    by_cases hi0:i=0
    ·subst hi0
     simp only [if_true,below_nil (lawOk_of h0),Bool.false_eq_true,if_false,bne_self_eq_false,Nat.lt_irrefl,false_and]
     rfl
    ·have hpos:0<i:=by omega
     simp only [hi0,if_false,hpos,true_and]
     by_cases hb:belowV (L.getD i default) (L.getD (i - 1) default)=true
     ·simp [hb,-List.getD_eq_getElem?_getD]
     ·simp [hb,-List.getD_eq_getElem?_getD]
   ·simp [h0,-List.getD_eq_getElem?_getD])
  (fun _=>by simp [b53_1])
 have h0:iterC (b53_1 L) 1000000000 ([],0)=_:=h
 rw [h0]
 cases scanN (setF L) 0 L.length<;>rfl
theorem p26L (L:List (List (Int×Int))) (hn:L.length<1000) (hL:∀ x∈L,x.length<1000):iterC (b90_2 L) 1000000000 0=some ((scanN (setF L) 0 L.length).getD (0,0)):=by
 have h:=iter_scanS L.length (b90_2 L) (fun i=>(i:Int)) (setF L) (some (0,0)) (by omega)
  (fun i hi hj=>by
   simp only [b90_2,ltN hi,if_true,if_pos (rgN hi),Int.toNat_natCast,wS i (by omega),wP i (by omega),wPn,p104,bindC]
   unfold setF
   by_cases h0:lawErrV (L.getD i default)=0
   ·simp only [h0,if_true,bne_self_eq_false,Bool.false_eq_true,if_false]
    rw [p105 _ _ (lawlen hL i) (lawlen hL (i - 1))]
    simp only [Option.isSome_some,implies_true,if_true,Option.getD_some,rgN hi,and_self,decide_true]
    by_cases hi0:i=0
    ·subst hi0
     simp
    ·have hpos:0<i:=by omega
     have e1:(decide ((i:Int)>0))=true:=by simp; omega
     rw [if_pos (fun _=>rgP hi hpos)]
     simp only [e1,Bool.true_and,hpos,true_and]
     by_cases hb:belowV (L.getD i default) (L.getD (i - 1) default)=true
     ·simp [hb,-List.getD_eq_getElem?_getD]
     ·simp [hb,-List.getD_eq_getElem?_getD]
   ·simp [h0,-List.getD_eq_getElem?_getD])
  (fun _=>by simp [b90_2])
 have h0:iterC (b90_2 L) 1000000000 0=_:=h
 rw [h0]
 cases scanN (setF L) 0 L.length<;>rfl
theorem p24 (a b:Int) (T:List (Int×Int)) (L:List (List (Int×Int))) (hn:L.length<1000) (hL:∀ x∈L,x.length<1000):r53 a b T L=some (setupErrV a b T L):=by
 unfold r53 setupErrV
 rw [p90,Option.bind_some,p90,gS,Option.getD_some]
 have hor:((!(inR a 1 12)) || (!(inR b 0 500)))= !(inR a 1 12 && inR b 0 500):=by rw [Bool.not_and]
 rcases Bool.eq_false_or_eq_true (inR a 1 12 && inR b 0 500) with h | h
 ·rw [if_neg (show ¬ (!(inR a 1 12) || !(inR b 0 500))=true by rw [hor,h]; decide),if_pos h,p99]
  by_cases h2:T.length<2
  ·simp [h2]
  ·rw [if_neg h2,if_neg h2]
   by_cases h8:8<T.length
   ·simp [h8]
   ·rw [if_neg h8,if_neg h8]
    cases hs:scanN (tabF T) 0 T.length with
    | some v=>
     obtain ⟨j,_,_,hj⟩:=scan_some hs
     have:=tabF_ne hj
     rw [orE_some,Option.bind_some,if_pos (by simpa using this)]
    | none=>
     rw [orE_none,Option.bind_some,if_neg (by decide),p24L L hn hL]
     by_cases h4:4<L.length
     ·have:(decide ((L.length:Int)>4))=true:=by simp; omega
      rw [if_pos this,if_pos h4]
     ·have:¬ (decide ((L.length:Int)>4))=true:=by simp; omega
      rw [if_neg this,if_neg h4]
 ·rw [if_pos (show (!(inR a 1 12) || !(inR b 0 500))=true by rw [hor,h]; decide),if_neg (by rw [h]; decide)]
theorem p26 (a b:Int) (T:List (Int×Int)) (L:List (List (Int×Int))) (hn:L.length<1000) (hL:∀ x∈L,x.length<1000):r90 a b T L=some (setupErrV a b T L):=by
 unfold r90 setupErrV
 rw [p59,Option.bind_some,p59,gS,Option.getD_some]
 have hor:((!(inR a 1 12)) || (!(inR b 0 500)))= !(inR a 1 12 && inR b 0 500):=by rw [Bool.not_and]
 rcases Bool.eq_false_or_eq_true (inR a 1 12 && inR b 0 500) with h | h
 ·rw [if_neg (show ¬ (!(inR a 1 12) || !(inR b 0 500))=true by rw [hor,h]; decide),if_pos h]
  by_cases h2:T.length<2
  ·have:(decide ((T.length:Int)<2))=true:=by simp; omega
   rw [if_pos this,if_pos h2]
  ·have:¬ (decide ((T.length:Int)<2))=true:=by simp; omega
   rw [if_neg this,if_neg h2]
   by_cases h8:8<T.length
   ·have:(decide ((T.length:Int)>8))=true:=by simp; omega
    rw [if_pos this,if_pos h8]
   ·have:¬ (decide ((T.length:Int)>8))=true:=by simp; omega
    rw [if_neg this,if_neg h8,p26a T L (by omega)]
    cases hs:scanN (tabF T) 0 T.length with
    | some v=>rfl
    | none=>
     rw [orE_none,p26L L hn hL]
     by_cases h4:4<L.length
     ·have:(decide ((L.length:Int)>4))=true:=by simp; omega
      rw [if_pos this,if_pos h4]
     ·have:¬ (decide ((L.length:Int)>4))=true:=by simp; omega
      rw [if_neg this,if_neg h4]
 ·rw [if_pos (show (!(inR a 1 12) || !(inR b 0 500))=true by rw [hor,h]; decide),if_neg (by rw [h]; decide)]
structure SetOk (a b:Int) (T:List (Int×Int)) (L:List (List (Int×Int))):Prop where
 cells:1≤a∧a≤12
 mix:0≤b∧b≤500
 tlen:2≤T.length∧T.length≤8
 srt:SortK T 0 1000000
 yr:∀ i,i<T.length→200≤(T.getD i default).2∧(T.getD i default).2≤3000
 yinc:∀ i,0<i→i<T.length→(T.getD (i - 1) default).2<(T.getD i default).2∧(T.getD i default).2 - (T.getD (i - 1) default).2≤(T.getD i default).1 - (T.getD (i - 1) default).1
 llen:L.length≤4
 laws:∀ i,i<L.length→LawOk (L.getD i default)
 below:∀ i,0<i→i<L.length→belowV (L.getD i default) (L.getD (i - 1) default)=false
theorem setOk_of {a b:Int} {T:List (Int×Int)} {L:List (List (Int×Int))} (h:(setupErrV a b T L).2=0):SetOk a b T L:=by
 unfold setupErrV at h
 split at h
 ·rename_i hc
  rw [Bool.and_eq_true,inR_iff,inR_iff] at hc
  split at h
  ·cases h
  ·rename_i h2
   split at h
   ·cases h
   ·rename_i h8
    split at h
    ·rename_i v hs
     obtain ⟨j,_,_,hj⟩:=scan_some hs
     exact absurd h (tabF_ne hj)
    ·rename_i hs
     split at h
     ·cases h
     ·rename_i h4
      cases hs2:scanN (setF L) 0 L.length with
      | some v=>
       obtain ⟨j,_,_,hj⟩:=scan_some hs2
       rw [hs2] at h
       exact absurd h (setF_ne hj)
      | none=>
       have hT:∀ i,i<T.length→tabF T i=none:=fun i hi=>scan_none hs i (by omega) (by omega)
       have hr:∀ i,i<T.length→(0≤(T.getD i default).1∧(T.getD i default).1≤1000000)∧200≤(T.getD i default).2∧(T.getD i default).2≤3000:=by
        intro i hi
        have:=hT i hi
        unfold tabF at this
        split at this
        ·rename_i hc
         rw [Bool.and_eq_true,inR_iff,inR_iff] at hc; exact hc
        ·cases this
       have hd:∀ i,0<i→i<T.length→(T.getD (i - 1) default).1<(T.getD i default).1∧(T.getD (i - 1) default).2<(T.getD i default).2∧(T.getD i default).2 - (T.getD (i - 1) default).2≤(T.getD i default).1 - (T.getD (i - 1) default).1:=by
        intro i h0 hi
        have:=hT i hi
        unfold tabF at this
        have a1:=hr i hi
        have a2:=hr (i - 1) (by omega)
        have ex:dX T i=(T.getD i default).1 - (T.getD (i - 1) default).1:=IntWalk.i64_in _ ⟨by omega,by omega⟩
        have ey:dY T i=(T.getD i default).2 - (T.getD (i - 1) default).2:=IntWalk.i64_in _ ⟨by omega,by omega⟩
        rw [ex,ey] at this
        split at this
        ·rw [if_neg (by omega)] at this
         split at this
         ·rename_i hc
          split at this
          ·rename_i hc2; omega
          ·cases this
         ·cases this
        ·cases this
       have hS:∀ i,i<L.length→setF L i=none:=fun i hi=>scan_none hs2 i (by omega) (by omega)
       refine ⟨hc.1,hc.2,⟨by omega,by omega⟩,⟨by omega,fun i hi=>(hr i hi).1,fun i h0 hi=>(hd i h0 hi).1⟩,fun i hi=>(hr i hi).2,fun i h0 hi=>(hd i h0 hi).2,by omega,fun i hi=>lawOk_of (setF_ok (hS i hi)),fun i h0 hi=> ?_⟩
       have:=hS i hi
       unfold setF at this
       rw [if_pos (setF_ok (hS i hi))] at this
       split at this
       ·cases this
       ·rename_i hn
        have:¬ belowV (L.getD i default) (L.getD (i - 1) default)=true:=fun hb=>hn ⟨h0,hb⟩
        simpa using this
 ·cases h
end Go.Proofs.YtofkgmldcjagmaaGreatDoor

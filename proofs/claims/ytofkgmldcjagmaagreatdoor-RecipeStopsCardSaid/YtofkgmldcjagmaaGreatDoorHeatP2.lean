import Derived.Test.YtofkgmldcjagmaaGreatDoorF01
import Derived.Test.YtofkgmldcjagmaaGreatDoorF02
import Derived.Test.YtofkgmldcjagmaaGreatDoorF12
import Derived.Test.YtofkgmldcjagmaaGreatDoorHeatP
set_option linter.unusedVariables false
set_option linter.unusedSimpArgs false
namespace Go.Proofs.YtofkgmldcjagmaaGreatDoor
open Go.Abs
theorem p140 (a:Int):r119 a=some (inR a 200 3000):=rfl
theorem p103 (a:Int):r48 a=some (inR a 200 3000):=rfl
def dX (l:List (Int×Int)) (i:Nat):Int:=IntKind.i64.wrap ((l.getD i default).1 - (l.getD (i - 1) default).1)
def dY (l:List (Int×Int)) (i:Nat):Int:=IntKind.i64.wrap ((l.getD i default).2 - (l.getD (i - 1) default).2)
def tabF (l:List (Int×Int)) (i:Nat):Option (Int×Int):=
 if (inR (l.getD i default).1 0 1000000 && inR (l.getD i default).2 200 3000)=true then
  if i=0 then none
  else if 0<dX l i∧0<dY l i then (if dY l i≤dX l i then none else some (i,22))
  else some (i,9)
 else some (i,2)
theorem code_t (e:Int):codeIf true e=0:=rfl
theorem code_f (e:Int):codeIf false e=e:=rfl
theorem p99 (l:List (Int×Int)):r84 l=if l.length<2 then some (0,10) else if 8<l.length then some (0,8) else orE (scanN (tabF l) 0 l.length) (some (0,0)):=by
 unfold r84
 simp only [p94,Option.bind_some]
 rw [p91 _ (by simp),Option.bind_some]
 by_cases h2:l.length<2
 ·have:(decide ((l.length:Int)≥2))=false:=by simp; omega
  rw [if_pos h2,this]; rfl
 ·have e2:(decide ((l.length:Int)≥2))=true:=by simp; omega
  rw [if_neg h2,e2]
  by_cases h8:8<l.length
  ·have:(decide ((l.length:Int)≤8))=false:=by simp; omega
   rw [if_pos h8,this]; rfl
  ·have e8:(decide ((l.length:Int)≤8))=true:=by simp; omega
   rw [if_neg h8,e8]
   show iterC (b84_1 l) 1000000000 0=_
   refine iter_scan l.length (b84_1 l) (tabF l) _ (by omega) ?_ ?_
   ·intro i hi
    simp only [b84_1,ltN hi,if_true,if_pos (rgN hi),Int.toNat_natCast,wS i (by omega),wP i (by omega),wPn,p90,p140,p94,bindC,Option.isSome_some,Option.getD_some,implies_true]
    unfold tabF
    rcases Bool.eq_false_or_eq_true (inR (l.getD i default).1 0 1000000 && inR (l.getD i default).2 200 3000) with h | h
    ·rw [h]
     simp only [code_t,if_true,beq_self_eq_true,Bool.true_and]
     by_cases h0:i=0
     ·have:(decide ((i:Int)>0))=false:=by simp [h0]
      simp only [this,Bool.false_eq_true,if_false,bne_self_eq_false]
      rw [if_pos h0]
     ·have e0:(decide ((i:Int)>0))=true:=by simp; omega
      simp only [e0,if_true,if_pos (rgP hi (by omega)),h0,if_false]
      rw [p91 _ (by simp)]
      simp only
      show (if (firstV [codeIf (decide (dX l i>0) && decide (dY l i>0)) 9,codeIf (decide (dY l i≤dX l i)) 22] != 0)=true then Ctl.out (some ((i:Int),firstV [codeIf (decide (dX l i>0) && decide (dY l i>0)) 9,codeIf (decide (dY l i≤dX l i)) 22])) else _)=_
      generalize dX l i=a
      generalize dY l i=b
      by_cases ha:0<a∧0<b
      ·have hb:(decide (a>0) && decide (b>0))=true:=by simp; exact ha
       rw [hb,if_pos ha]
       by_cases hc:b≤a<;>simp [code_t,firstV,hc,codeIf]
      ·have hb:(decide (a>0) && decide (b>0))=false:=by simp; omega
       rw [hb,if_neg ha]; simp [code_f,firstV]
    ·rw [h]
     simp [code_f]
   ·simp [b84_1]
theorem p26a (l:List (Int×Int)) (L:List (List (Int×Int))) (hl:l.length<1000) :
 iterC (b90_1 l L) 1000000000 0=orE (scanN (tabF l) 0 l.length) (if (decide ((L.length:Int)>4))=true then some (0,8) else iterC (b90_2 L) 1000000000 0):=by
 refine iter_scan l.length (b90_1 l L) (tabF l) _ (by omega) ?_ ?_
 ·intro i hi
  simp only [b90_1,ltN hi,if_true,if_pos (rgN hi),Int.toNat_natCast,wS i (by omega),wP i (by omega),wPn,p59,p103,bindC,Option.isSome_some,Option.getD_some,implies_true,rgN hi,and_self,decide_true,if_true]
  unfold tabF
  have hor:((!(inR (l.getD i default).1 0 1000000)) || (!(inR (l.getD i default).2 200 3000)))= !(inR (l.getD i default).1 0 1000000 && inR (l.getD i default).2 200 3000):=by rw [Bool.not_and]
  rw [hor]
  rcases Bool.eq_false_or_eq_true (inR (l.getD i default).1 0 1000000 && inR (l.getD i default).2 200 3000) with h | h
  ·rw [h]
   simp only [Bool.not_true,Bool.false_eq_true,if_false,if_true]
   by_cases h0:i=0
   ·have:(decide ((i:Int)>0))=false:=by simp [h0]
    simp only [this,Bool.false_eq_true,if_false,bne_self_eq_false]
    rw [if_pos h0]
   ·have e0:(decide ((i:Int)>0))=true:=by simp; omega
    simp only [e0,if_true,if_pos (rgP hi (by omega)),h0,if_false]
    show (if (decide (dX l i≤0) || decide (dY l i≤0))=true then Ctl.out (some ((i:Int),9)) else if decide (dY l i>dX l i)=true then Ctl.out (some ((i:Int),22)) else _)=_
    generalize dX l i=a
    generalize dY l i=b
    by_cases ha:0<a∧0<b
    ·have hb:(decide (a≤0) || decide (b≤0))=false:=by simp; exact ha
     rw [hb,if_pos ha]
     by_cases hc:b≤a
     ·have:¬ b>a:=by omega
      simp [hc,this]
     ·have:b>a:=by omega
      simp [hc,this]
    ·have hb:(decide (a≤0) || decide (b≤0))=true:=by simp; omega
     rw [hb,if_neg ha]; simp
  ·rw [h]
   simp
 ·simp [b90_1]
def lawF (l:List (Int×Int)) (i:Nat):Option Int:=
 if (inR (l.getD i default).1 200 3000 && inR (l.getD i default).2 0 1000)=true then
  if i=0 then none
  else if 0<dX l i∧0≤dY l i then (if IntKind.i64.wrap (2*dY l i)≤dX l i then none else some 22)
  else some 9
 else some 2
def lawErrV (l:List (Int×Int)):Int:=if 6<l.length then 8 else (scanN (lawF l) 0 l.length).getD 0
theorem lawF_ne {l:List (Int×Int)} {i:Nat} {e:Int} (h:lawF l i=some e):e≠0:=by
 unfold lawF at h
 repeat' split at h
 all_goals first | (injection h with h; omega) | cases h
theorem lawErr0 {l:List (Int×Int)} (h:lawErrV l=0):l.length≤6∧∀ i,i<l.length→lawF l i=none:=by
 unfold lawErrV at h
 split at h
 ·cases h
 ·rename_i h6
  refine ⟨by omega,?_⟩
  cases hs:scanN (lawF l) 0 l.length with
  | none=>exact fun i hi=>scan_none hs i (by omega) (by omega)
  | some e=>
   rw [hs] at h
   obtain ⟨j,_,_,hj⟩:=scan_some hs
   exact absurd h (lawF_ne hj)
theorem p104 (l:List (Int×Int)):r125 l=some (lawErrV l):=by
 unfold r125 lawErrV
 by_cases h6:6<l.length
 ·have:(decide ((l.length:Int)>6))=true:=by simp; omega
  rw [if_pos this,if_pos h6]
 ·have:¬ (decide ((l.length:Int)>6))=true:=by simp; omega
  rw [if_neg this,if_neg h6]
  have hscan:iterC (b125_1 l) 1000000000 0=orE (scanN (lawF l) 0 l.length) (some 0):=by
   refine iter_scan l.length (b125_1 l) (lawF l) _ (by omega) ?_ ?_
   ·intro i hi
    simp only [b125_1,ltN hi,if_true,if_pos (rgN hi),Int.toNat_natCast,wS i (by omega),wP i (by omega),wPn,p59,p103,bindC,Option.isSome_some,Option.getD_some,implies_true,rgN hi,and_self,decide_true,if_true]
    unfold lawF
    have hor:((!(inR (l.getD i default).1 200 3000)) || (!(inR (l.getD i default).2 0 1000)))= !(inR (l.getD i default).1 200 3000 && inR (l.getD i default).2 0 1000):=by rw [Bool.not_and]
    rw [hor]
    rcases Bool.eq_false_or_eq_true (inR (l.getD i default).1 200 3000 && inR (l.getD i default).2 0 1000) with h | h
    ·rw [h]
     simp only [Bool.not_true,Bool.false_eq_true,if_false,if_true]
     by_cases h0:i=0
     ·have:(decide ((i:Int)>0))=false:=by simp [h0]
      simp only [this,Bool.false_eq_true,if_false,bne_self_eq_false]
      rw [if_pos h0]
     ·have e0:(decide ((i:Int)>0))=true:=by simp; omega
      simp only [e0,if_true,if_pos (rgP hi (by omega)),h0,if_false]
      show (if (decide (dX l i≤0) || decide (dY l i<0))=true then Ctl.out (some 9) else if decide (IntKind.i64.wrap (2*dY l i)>dX l i)=true then Ctl.out (some 22) else _)=_
      generalize dX l i=a
      generalize dY l i=b
      by_cases ha:0<a∧0≤b
      ·have hb:(decide (a≤0) || decide (b<0))=false:=by simp; exact ha
       rw [hb,if_pos ha]
       by_cases hc:IntKind.i64.wrap (2*b)≤a
       ·have:¬ IntKind.i64.wrap (2*b)>a:=by omega
        simp [hc,this]
       ·have:IntKind.i64.wrap (2*b)>a:=by omega
        simp [hc,this]
      ·have hb:(decide (a≤0) || decide (b<0))=true:=by simp; omega
       rw [hb,if_neg ha]; simp
    ·rw [h]
     simp
   ·simp [b125_1]
  rw [hscan]
  cases scanN (lawF l) 0 l.length<;>rfl
theorem p100a (l m:List (Int×Int)) (h6:l.length≤6) (e:Option Int) (he:e=orE (scanN (lawF l) 0 l.length) ((r120 l).bind fun v10=>(r120 m).bind fun v11=>(r121 [v10,v11]).bind fun v12=>iterC (b85_2 v10 v11 v12) 1000000000 0)):r85 l m=e:=by
 unfold r85
 have:¬ (decide ((l.length:Int)>6))=true:=by simp; omega
 rw [if_neg this,he]
 refine iter_scan l.length (b85_1 l m) (lawF l) _ (by omega) ?_ ?_
 ·intro i hi
  simp only [b85_1,ltN hi,if_true,if_pos (rgN hi),Int.toNat_natCast,wS i (by omega),wP i (by omega),wPn,p90,p140,p94,bindC,Option.isSome_some,Option.getD_some,implies_true]
  unfold lawF
  rcases Bool.eq_false_or_eq_true (inR (l.getD i default).1 200 3000 && inR (l.getD i default).2 0 1000) with h | h
  ·rw [h]
   simp only [code_t,if_true,beq_self_eq_true,Bool.true_and]
   by_cases h0:i=0
   ·have:(decide ((i:Int)>0))=false:=by simp [h0]
    simp only [this,Bool.false_eq_true,if_false,bne_self_eq_false]
    rw [if_pos h0]
   ·have e0:(decide ((i:Int)>0))=true:=by simp; omega
    simp only [e0,if_true,if_pos (rgP hi (by omega)),h0,if_false]
    rw [p91 _ (by simp)]
    simp only
    show (if (firstV [codeIf (decide (dX l i>0) && decide (dY l i≥0)) 9,codeIf (decide (IntKind.i64.wrap (2*dY l i)≤dX l i)) 22] != 0)=true then Ctl.out (some (firstV [codeIf (decide (dX l i>0) && decide (dY l i≥0)) 9,codeIf (decide (IntKind.i64.wrap (2*dY l i)≤dX l i)) 22])) else _)=_
    generalize dX l i=a
    generalize dY l i=b
    by_cases ha:0<a∧0≤b
    ·have hb:(decide (a>0) && decide (b≥0))=true:=by simp; exact ha
     rw [hb,if_pos ha]
     by_cases hc:IntKind.i64.wrap (2*b)≤a<;>simp [code_t,firstV,hc,codeIf]
    ·have hb:(decide (a>0) && decide (b≥0))=false:=by simp; omega
     rw [hb,if_neg ha]; simp [code_f,firstV]
  ·rw [h]
   simp [code_f]
 ·simp [b85_1]
theorem take_ext {α:Type} [Inhabited α] (l:List α) (i:Nat) (hi:i<l.length):l.take (i+1)=l.take i++[l.getD i default]:=by
 rw [List.take_add_one]; simp [List.getD_eq_getElem?_getD,hi]
theorem p148 (l:List (Int×Int)) (hl:l.length<1000000):r120 l=some l:=by
 unfold r120
 refine iter_run l.length (b120_1 l) (fun i=>(l.take i,(i:Int))) _ (by omega) ?_ ?_
 ·intro i hi
  have hlen:(l.take i).length=i:=by simp; omega
  simp only [b120_1,ltN hi,if_true,if_pos (rgN hi),Int.toNat_natCast,wS i (by omega),hlen]
  rw [if_pos ⟨by omega,by omega⟩,take_ext l i hi]
  rfl
 ·simp [b120_1]
theorem p150 (l:List (Int×Int)) (hl:l.length<1000000):r123 l=some l:=by
 unfold r123
 refine iter_run l.length (b123_1 l) (fun i=>(l.take i,(i:Int))) _ (by omega) ?_ ?_
 ·intro i hi
  have hlen:(l.take i).length=i:=by simp; omega
  simp only [b123_1,ltN hi,if_true,if_pos (rgN hi),Int.toNat_natCast,wS i (by omega),hlen]
  rw [if_pos ⟨by omega,by omega⟩,take_ext l i hi]
  rfl
 ·simp [b123_1]
theorem p149 (l m:List (Int×Int)) (hl:l.length<1000) (hm:m.length<1000):r121 [l,m]=some (l++m):=by
 unfold r121
 have e0:IntKind.i64.wrap (0+(l.length:Int))=l.length:=IntWalk.i64_in _ ⟨by omega,by omega⟩ |>.trans (by omega)
 have e1:IntKind.i64.wrap ((l.length:Int)+(m.length:Int))=l.length+m.length:=IntWalk.i64_in _ ⟨by omega,by omega⟩
 have e2:IntKind.i64.wrap (l.length:Int)=l.length:=IntWalk.i64_in _ ⟨by omega,by omega⟩
 have e3:IntKind.i64.wrap 1=1:=by decide
 have e4:IntKind.i64.wrap 2=2:=by decide
 refine iter_run 2 (b121_1 [l,m]) (fun i=>if i=0 then (0,0) else if i=1 then ((l.length:Int),1) else ((l.length:Int)+m.length,2)) _ (by omega) ?_ ?_
 ·intro i hi
  have:i=0∨i=1:=by omega
  rcases this with rfl | rfl
  ·have:¬ ((l.length:Int)<0):=by omega
   simp [b121_1,e2,e3,this]
  ·have:¬ ((l.length:Int)+m.length<0):=by omega
   simp [b121_1,e1,this,e4]
 ·simp only [b121_1,List.length_cons,List.length_nil]
  simp only [if_neg (show ¬ (2:Nat)=0 by decide),if_neg (show ¬ (2:Nat)=1 by decide)]
  rw [if_neg (by decide)]
  congr 1
  rw [if_pos ⟨by omega,by omega⟩]
  refine iter_run 2 (b121_2 [l,m]) (fun i=>if i=0 then (0,[]) else if i=1 then (1,l) else (2,l++m)) _ (by omega) ?_ ?_
  ·intro i hi
   have:i=0∨i=1:=by omega
   rcases this with rfl | rfl
   ·have c1:(l.length)*16≤140737488355328∧l.length≤9223372036854775807:=⟨by omega,by omega⟩
    simp [b121_2,c1,e3,e4]
   ·have c1:(l.length+m.length)*16≤140737488355328∧l.length+m.length≤9223372036854775807:=⟨by omega,by omega⟩
    simp [b121_2,c1,e3,e4]
  ·simp [b121_2]
end Go.Proofs.YtofkgmldcjagmaaGreatDoor

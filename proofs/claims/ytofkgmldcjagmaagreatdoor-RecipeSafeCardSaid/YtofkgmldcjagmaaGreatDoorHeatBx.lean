/- Boxes and spans, in the code and in the reference. -/
import Derived.Test.YtofkgmldcjagmaaGreatDoorF02
import Derived.Test.YtofkgmldcjagmaaGreatDoorF04
import Derived.Test.YtofkgmldcjagmaaGreatDoorF12
import Derived.Test.YtofkgmldcjagmaaGreatDoorHeatS
set_option linter.unusedVariables false
set_option linter.unusedSimpArgs false
namespace Go.Proofs.YtofkgmldcjagmaaGreatDoor
open Go.dG
def yS (lo hi:List Int) (i:Nat):Option (Int×Int):=if lo.getD i default>hi.getD i default then some ((i:Int),9) else none
def jO (a:Int) (T:List (Int×Int)) (lo hi:List Int):Int×Int:=
 if (dw a T lo).2=0 then (if (dw a T hi).2=0 then (dA (yS lo hi) 0 lo.length).getD (0,0) else dw a T hi) else dw a T lo
theorem Le {ρ:Type} (o:Option ρ) (v:ρ):JQ o (some v)=some (o.getD v):=by cases o<;>rfl
theorem ar1 {a b:Int} {T:List (Int×Int)} {L:List (List (Int×Int))} (ok:fJ a b T L) (lo hi:List Int) (h1:lo.length<1000000) (h2:hi.length<1000000):r87 a b T L T L lo hi=some (jO a T lo hi):=by
 unfold r87 jO
 rw [aiw a b T L T L lo ok.tpos ok.tlt h1,Option.bind_some]
 by_cases c1:(dw a T lo).2=0
 ·rw [if_neg (by simpa using c1),if_pos c1,aiw a b T L T L hi ok.tpos ok.tlt h2,Option.bind_some]
  by_cases c2:(dw a T hi).2=0
  ·have l1:=(nJ c1).1
   have l2:=(nJ c2).1
   rw [if_neg (by simpa using c2),if_pos c2, ← Le]
   refine iU lo.length _ _ _ (by omega) (fun i hi'=> ?_) (by simp [NR])
   simp only [NR,oz hi',if_true,if_pos (lF hi'),if_pos (lF (show i<hi.length by omega)),Int.toNat_natCast,wS i (by omega),yS]
   by_cases hc:lo.getD i default>hi.getD i default
   ·rw [if_pos (decide_eq_true hc),if_pos hc]
   ·rw [if_neg (by rw [decide_eq_true_eq]; exact hc),if_neg hc]
  ·rw [if_pos (by simpa using c2),if_neg c2]
 ·rw [if_pos (by simpa using c1),if_neg c1]
theorem p39 (a b:Int) (T:List (Int×Int)) (L:List (List (Int×Int))) (lo hi:List Int) (hT:T.length<1000) (hn:L.length<1000) (hL:∀ x∈L,x.length<1000) (h1:lo.length<1000000) (h2:hi.length<1000000) :
 r54 a b T L lo hi=some (if (bn a b T L).2=0 then jO a T lo hi else (0,(bn a b T L).2)):=by
 unfold r54
 rw [aez a b T L hT hn hL,Option.bind_some]
 by_cases h:(bn a b T L).2=0
 ·have ok:=nN h
  rw [if_pos h,if_pos h]
  simp only
  rw [if_neg (by simp),ar1 ok lo hi h1 h2,Option.bind_some]
 ·rw [if_neg h,if_neg h]
  simp only
  rw [if_pos (by simpa using h)]
theorem aj0 {a:Int} {T:List (Int×Int)} {lo hi:List Int} (h:(jO a T lo hi).2=0):(dw a T lo).2=0∧(dw a T hi).2=0∧Gg lo hi∧jO a T lo hi=(0,0):=by
 unfold jO at h ⊢
 by_cases c1:(dw a T lo).2=0
 ·rw [if_pos c1] at h ⊢
  by_cases c2:(dw a T hi).2=0
  ·rw [if_pos c2] at h ⊢
   have l1:=(nJ c1).1
   have l2:=(nJ c2).1
   cases hs:dA (yS lo hi) 0 lo.length with
   | none=>
    refine ⟨c1,c2,ZV lo hi (by omega) fun j hj=> ?_,rfl⟩
    have:=jq hs j (by omega) (by omega)
    unfold yS at this
    split at this
    ·cases this
    ·omega
   | some v=>
    obtain ⟨j,_,_,hj⟩:=gX hs
    rw [hs] at h
    unfold yS at hj
    split at hj
    ·cases hj; simp at h
    ·cases hj
  ·rw [if_neg c2] at h; exact absurd h c2
 ·rw [if_neg c1] at h; exact absurd h c1
def jA (a b:Int) (T:List (Int×Int)) (L:List (List (Int×Int))) (lo hi:List Int):Int:=if (bn a b T L).2=0 then (jO a T lo hi).2 else (bn a b T L).2
def yU (a b:Int) (T:List (Int×Int)) (L:List (List (Int×Int))) (lo hi:List Int):Int×Int×(List (Int×Int))×(List ((List (Int×Int))))×(List (Int×Int))×(List ((List (Int×Int))))×Int:=
 if (bn a b T L).2=0 then (a,b,T,L,T,L,(jO a T lo hi).2) else (0,0,[],[],[],[],(bn a b T L).2)
theorem Pg (a b:Int) (T:List (Int×Int)) (L:List (List (Int×Int))) (lo hi:List Int):(yU a b T L lo hi).2.2.2.2.2.2=jA a b T L lo hi:=by
 unfold yU jA; split<;>rfl
structure BoxOk (a b:Int) (T:List (Int×Int)) (L:List (List (Int×Int))) (u v:List Int):Prop where
 lo:kE a b T L u
 hi:kE a b T L v
 le:Gg u v
theorem NK {a b:Int} {T:List (Int×Int)} {L:List (List (Int×Int))} {lo hi:List Int} (h:jA a b T L lo hi=0):BoxOk a b T L lo hi:=by
 unfold jA at h
 by_cases h0:(bn a b T L).2=0
 ·rw [if_pos h0] at h
  obtain ⟨h1,h2,h3,_⟩:=aj0 h
  exact ⟨Ew (by unfold pK; rw [if_pos h0]; exact h1),Ew (by unfold pK; rw [if_pos h0]; exact h2),h3⟩
 ·rw [if_neg h0] at h; exact absurd h h0
theorem Xb {a b:Int} {T:List (Int×Int)} {L:List (List (Int×Int))} {lo hi:List Int} (h:jA a b T L lo hi=0):yU a b T L lo hi=(a,b,T,L,T,L,0):=by
 unfold jA at h
 unfold yU
 by_cases h0:(bn a b T L).2=0
 ·rw [if_pos h0] at h ⊢; rw [h]
 ·rw [if_neg h0] at h; exact absurd h h0
theorem tC (x:Int) (r:List Int):dh (x::r)=fG x (dh r):=rfl
theorem qM (x y z:Int):fG (fG x y) z=fG x (fG y z):=by
 unfold fG; by_cases h:x=0
 ·rw [if_pos h,if_pos h]
 ·rw [if_neg h,if_neg h,if_neg h]
theorem oP (x:Int):fG x 0=x:=by
 unfold fG; by_cases h:x=0
 ·rw [if_pos h,h]
 ·rw [if_neg h]
def Cj (r:Int×Int):Int:=fG (bQ (dR r.1 0 10000 && dR r.2 0 10000) 2) (bQ (decide (r.1≤r.2)) 9)
def mY:List (Int×Int)→Int
 | []=>0
 | r::q=>fG (Cj r) (mY q)
def LJ (L:List (List (Int×Int))) (lo hi:Int):Int:=fG (bQ (dR lo 0 ((L.length:Int) - 1)) 6) (fG (bQ (dR hi 0 ((L.length:Int) - 1)) 6) (bQ (decide (lo≤hi)) 9))
def fA (a:Int) (L:List (List (Int×Int))) (ps:List (Int×Int)) (lo hi:Int):Int:=fG (bQ ((ps.length:Int) == a) 10) (fG (mY ps) (LJ L lo hi))
theorem azL (n:Int):KN n=some (dR n 0 10000):=rfl
structure akm (a:Int) (L:List (List (Int×Int))) (ps:List (Int×Int)) (lo hi:Int):Prop where
 len:(ps.length:Int)=a
 rng:∀ r∈ps,(0≤r.1∧r.1≤10000)∧(0≤r.2∧r.2≤10000)∧r.1≤r.2
 law:0≤lo∧lo≤hi∧hi<L.length
theorem jH {x y:Int} (h:fG x y=0):x=0∧y=0:=by
 unfold fG at h
 by_cases hx:x=0
 ·rw [if_pos hx] at h; exact ⟨hx,h⟩
 ·rw [if_neg hx] at h; exact absurd h hx
theorem qY {b:Bool} {e:Int} (h:bQ b e=0) (he:e≠0):b=true:=by
 cases b with
 | true=>rfl
 | false=>exact absurd h he
theorem FV:∀ {l:List (Int×Int)},mY l=0→∀ r∈l,(0≤r.1∧r.1≤10000)∧(0≤r.2∧r.2≤10000)∧r.1≤r.2
 | [],_,r,hr=>by simp at hr
 | x::q,h,r,hr=>by
  obtain ⟨h1,h2⟩:=jH h
  rcases List.mem_cons.1 hr with rfl | hr
  ·obtain ⟨g1,g2⟩:=jH h1
   have g1:=qY g1 (by decide)
   have g2:=qY g2 (by decide)
   rw [Bool.and_eq_true,je,je] at g1
   exact ⟨g1.1,g1.2,of_decide_eq_true g2⟩
  ·exact FV h2 r hr
theorem wZ {a:Int} {L:List (List (Int×Int))} {ps:List (Int×Int)} {lo hi:Int} (h:fA a L ps lo hi=0):akm a L ps lo hi:=by
 obtain ⟨h1,h2⟩:=jH h
 obtain ⟨h3,h4⟩:=jH h2
 obtain ⟨h5,h6⟩:=jH h4
 obtain ⟨h7,h8⟩:=jH h6
 have g1:=qY h1 (by decide)
 have g5:=je.1 (qY h5 (by decide))
 have g7:=je.1 (qY h7 (by decide))
 have g8:=of_decide_eq_true (qY h8 (by decide))
 exact ⟨by simpa using g1,FV h3,g5.1,g8,by omega⟩
def su (a:Int) (L:List (List (Int×Int))):List ((List (Int×Int))×Int×Int)→Int
 | []=>0
 | d::r=>fG (fA a L d.1 d.2.1 d.2.2) (su a L r)
def jo (a:Int) (L:List (List (Int×Int))) (l:List ((List (Int×Int))×Int×Int)):Int:=fG (bQ (decide ((l.length:Int)≤200)) 8) (su a L l)
theorem BL {a:Int} {L:List (List (Int×Int))} {l:List ((List (Int×Int))×Int×Int)} (h:jo a L l=0):l.length≤200∧∀ d∈l,fA a L d.1 d.2.1 d.2.2=0:=by
 obtain ⟨h1,h2⟩:=jH h
 have g1:=of_decide_eq_true (qY h1 (by decide))
 refine ⟨by omega,?_⟩
 have:∀ l:List ((List (Int×Int))×Int×Int),su a L l=0→∀ d∈l,fA a L d.1 d.2.1 d.2.2=0:=by
  intro l
  induction l with
  | nil=>intro _ d hd; simp at hd
  | cons x r ih=>
   intro h d hd
   obtain ⟨e1,e2⟩:=jH h
   rcases List.mem_cons.1 hd with rfl | hd
   ·exact e1
   ·exact ih e2 d hd
 exact this l h2
def boxS (b:Int) (T:List (Int×Int)) (L:List (List (Int×Int))) (lo hi:List Int) (d:(List (Int×Int))×Int×Int):Option (List Int×List Int):=
 if (iC b T (L.getD d.2.2.toNat default) lo (d.1.map (·.1))).all (inT T)=true∧(iC b T (L.getD d.2.1.toNat default) hi (d.1.map (·.2))).all (inT T)=true then
  some (iC b T (L.getD d.2.2.toNat default) lo (d.1.map (·.1)),iC b T (L.getD d.2.1.toNat default) hi (d.1.map (·.2)))
 else none
theorem UO {a b:Int} {T:List (Int×Int)} {L:List (List (Int×Int))} {lo hi:List Int} (H:BoxOk a b T L lo hi) {d:(List (Int×Int))×Int×Int} (hd:fA a L d.1 d.2.1 d.2.2=0):wK T L lo (d.1.map (·.1)) d.2.2∧wK T L hi (d.1.map (·.2)) d.2.1:=by
 have S:=wZ hd
 have h1:=H.lo.len
 have h2:=H.hi.len
 have h3:=H.lo.ok.cells
 have h4:=S.len
 have h5:=S.law
 refine ⟨⟨H.lo.ins,by rw [List.length_map]; omega,⟨by omega,by omega⟩,fun x hx=> ?_,by omega,by omega⟩,⟨H.hi.ins,by rw [List.length_map]; omega,⟨by omega,by omega⟩,fun x hx=> ?_,by omega,by omega⟩⟩
 ·obtain ⟨r,hr,rfl⟩:=List.mem_map.1 hx; exact (S.rng r hr).1
 ·obtain ⟨r,hr,rfl⟩:=List.mem_map.1 hx; exact (S.rng r hr).2.1
def bxR (o:Option (List Int×List Int)):List Int×List Int×Int:=(o.map fun y=>(y.1,y.2,(0:Int))).getD ([],[],22)
def bxB (o:Option (List Int×List Int)):List Int×List Int×Bool:=(o.map fun y=>(y.1,y.2,true)).getD ([],[],false)
theorem aeF (l:List (Int×Int)) (h:∀ r∈l,r.1≤r.2):Gg (l.map (·.1)) (l.map (·.2)):=by
 induction l with
 | nil=>trivial
 | cons x r ih=>exact ⟨h x (by simp),ih fun y hy=>h y (by simp [hy])⟩
theorem BoxOk.next {a b:Int} {T:List (Int×Int)} {L:List (List (Int×Int))} {lo hi:List Int} (H:BoxOk a b T L lo hi) {d:(List (Int×Int))×Int×Int} (hd:fA a L d.1 d.2.1 d.2.2=0) {y:List Int×List Int} (hy:boxS b T L lo hi d=some y):BoxOk a b T L y.1 y.2:=by
 have S:=wZ hd
 unfold boxS at hy
 split at hy
 ·rename_i hc
  cases hy
  exact ⟨H.lo.next hc.1,H.hi.next hc.2,Zx H.lo.ok ⟨by have:=S.law; omega,S.law.2.2⟩ ⟨S.law.1,by have:=S.law; omega⟩ S.law.2.1 H.le (aeF d.1 fun r hr=>(S.rng r hr).2.2)⟩
 ·cases hy
def jR (b:Int) (T:List (Int×Int)) (L:List (List (Int×Int))):List Int→List Int→List ((List (Int×Int))×Int×Int)→Option (List (List Int×List Int))
 | _,_,[]=>some []
 | lo,hi,d::r=>(boxS b T L lo hi d).bind fun y=>(jR b T L y.1 y.2 r).map fun z=>y::z
def bxF (o:Option (List (List Int×List Int))) (out:List (List Int×List Int)):List (List Int×List Int)×Int:=(o.map fun z=>(out++z,(0:Int))).getD ([],22)
def bxG (o:Option (List (List Int×List Int))) (out:List (List Int×List Int)):List (List Int×List Int)×Bool:=(o.map fun z=>(out++z,true)).getD ([],false)
theorem NJ {b:Int} {T:List (Int×Int)} {L:List (List (Int×Int))} {lo hi:List Int} {d:(List (Int×Int))×Int×Int} {r:List ((List (Int×Int))×Int×Int)} {out:List (List Int×List Int)} {y:List Int×List Int} (h:boxS b T L lo hi d=some y) :
 bxF (jR b T L lo hi (d::r)) out=bxF (jR b T L y.1 y.2 r) (out++[y])∧bxG (jR b T L lo hi (d::r)) out=bxG (jR b T L y.1 y.2 r) (out++[y]):=by
 have e:jR b T L lo hi (d::r)=(jR b T L y.1 y.2 r).map fun z=>y::z:=by
  conv=>lhs; unfold jR
  rw [h]; rfl
 rw [e]
 unfold bxF bxG
 cases jR b T L y.1 y.2 r with
 | none=>exact ⟨rfl,rfl⟩
 | some z=>simp
theorem FM {b:Int} {T:List (Int×Int)} {L:List (List (Int×Int))} {lo hi:List Int} {d:(List (Int×Int))×Int×Int} {r:List ((List (Int×Int))×Int×Int)} (h:boxS b T L lo hi d=none):jR b T L lo hi (d::r)=none:=by
 unfold jR; rw [h]; rfl
theorem BZ {b:Int} {T:List (Int×Int)} {L:List (List (Int×Int))}:∀ (l:List ((List (Int×Int))×Int×Int)) (lo hi:List Int) (z:List (List Int×List Int)),jR b T L lo hi l=some z→z.length=l.length∧∀ x∈z,x.1.length=lo.length∧x.2.length=hi.length
 | [],lo,hi,z,h=>by cases h; exact ⟨rfl,by simp⟩
 | d::r,lo,hi,z,h=>by
  unfold jR at h
  cases hb:boxS b T L lo hi d with
  | none=>rw [hb] at h; cases h
  | some y=>
   rw [hb,Option.bind_some] at h
   have hyl:y.1.length=lo.length∧y.2.length=hi.length:=by
    unfold boxS at hb
    split at hb
    ·cases hb; exact ⟨sQ ..,sQ ..⟩
    ·cases hb
   cases hr:jR b T L y.1 y.2 r with
   | none=>rw [hr] at h; cases h
   | some w=>
    rw [hr] at h; cases h
    obtain ⟨h1,h2⟩:=BZ r _ _ w hr
    refine ⟨by simp [h1],fun x hx=> ?_⟩
    rcases List.mem_cons.1 hx with rfl | hx
    ·exact hyl
    ·have:=h2 x hx; omega
theorem p46 {a b:Int} {T:List (Int×Int)} {L:List (List (Int×Int))} (ok:fJ a b T L) (lo hi:List Int) (h1:lo.length<1000000) (h2:hi.length<1000000):r91 a b T L lo hi=some (jO a T lo hi):=by
 unfold r91 jO
 rw [p27 a b T L lo ok.tpos ok.tlt h1,Option.bind_some]
 by_cases c1:(dw a T lo).2=0
 ·rw [if_neg (by simpa using c1),if_pos c1,p27 a b T L hi ok.tpos ok.tlt h2,Option.bind_some]
  by_cases c2:(dw a T hi).2=0
  ·have l1:=(nJ c1).1
   have l2:=(nJ c2).1
   rw [if_neg (by simpa using c2),if_pos c2, ← Le, ← l1]
   refine iU lo.length _ _ _ (by omega) (fun i hi'=> ?_) (by simp [NM])
   simp only [NM,oz hi',if_true,if_pos (lF hi'),if_pos (lF (show i<hi.length by omega)),Int.toNat_natCast,wS i (by omega),yS]
   by_cases hc:lo.getD i default>hi.getD i default
   ·rw [if_pos (decide_eq_true hc),if_pos hc]
   ·rw [if_neg (by rw [decide_eq_true_eq]; exact hc),if_neg hc]
  ·rw [if_pos (by simpa using c2),if_neg c2]
 ·rw [if_pos (by simpa using c1),if_neg c1]
theorem p82 (a b:Int) (T:List (Int×Int)) (L:List (List (Int×Int))) (lo hi:List Int) (hn:L.length<1000) (hL:∀ x∈L,x.length<1000) (h1:lo.length<1000000) (h2:hi.length<1000000):r58 a b T L lo hi=some (jA a b T L lo hi):=by
 unfold r58 jA
 rw [p45 a b T L hn hL,Option.bind_some]
 by_cases h:(bn a b T L).2=0
 ·have ok:=nN h
  rw [if_neg (by simpa using h),if_pos h,p46 ok lo hi h1 h2,Option.bind_some]
 ·rw [if_pos (by simpa using h),if_neg h]
theorem p40 (u v:List Int) (h1:u.length<1000000) (h2:v.length<1000000):r45 u v=some (u,v):=by
 unfold r45
 rw [p19 u (by omega),Option.bind_some,p19 v (by omega),Option.bind_some]
end Go.Proofs.YtofkgmldcjagmaaGreatDoor

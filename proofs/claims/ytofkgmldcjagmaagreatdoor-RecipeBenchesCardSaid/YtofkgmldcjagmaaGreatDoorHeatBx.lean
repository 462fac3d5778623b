/- Boxes and spans, in the code and in the reference. -/
import Derived.Test.YtofkgmldcjagmaaGreatDoorF02
import Derived.Test.YtofkgmldcjagmaaGreatDoorF04
import Derived.Test.YtofkgmldcjagmaaGreatDoorF12
import Derived.Test.YtofkgmldcjagmaaGreatDoorHeatS
set_option linter.unusedVariables false
set_option linter.unusedSimpArgs false
namespace Go.Proofs.YtofkgmldcjagmaaGreatDoor
open Go.dJ
def yw (lo hi:List Int) (i:Nat):Option (Int×Int):=if lo.getD i default>hi.getD i default then some ((i:Int),9) else none
def lC (a:Int) (T:List (Int×Int)) (lo hi:List Int):Int×Int:=
 if (dn a T lo).2=0 then (if (dn a T hi).2=0 then (dw (yw lo hi) 0 lo.length).getD (0,0) else dn a T hi) else dn a T lo
theorem KH {ρ:Type} (o:Option ρ) (v:ρ):JC o (some v)=some (o.getD v):=by cases o<;>rfl
theorem arw {a b:Int} {T:List (Int×Int)} {L:List (List (Int×Int))} (ok:fQ a b T L) (lo hi:List Int) (h1:lo.length<1000000) (h2:hi.length<1000000):r87 a b T L T L lo hi=some (lC a T lo hi):=by
 unfold r87 lC
 rw [arB a b T L T L lo ok.tpos ok.tlt h1,Option.bind_some]
 by_cases c1:(dn a T lo).2=0
 ·rw [if_neg (by simpa using c1),if_pos c1,arB a b T L T L hi ok.tpos ok.tlt h2,Option.bind_some]
  by_cases c2:(dn a T hi).2=0
  ·have l1:=(nD c1).1
   have l2:=(nD c2).1
   rw [if_neg (by simpa using c2),if_pos c2, ← KH]
   refine iQ lo.length _ _ _ (by omega) (fun i hi'=> ?_) (by simp [Nk])
   simp only [Nk,nO hi',if_true,if_pos (kY hi'),if_pos (kY (show i<hi.length by omega)),Int.toNat_natCast,wS i (by omega),yw]
   by_cases hc:lo.getD i default>hi.getD i default
   ·rw [if_pos (decide_eq_true hc),if_pos hc]
   ·rw [if_neg (by rw [decide_eq_true_eq]; exact hc),if_neg hc]
  ·rw [if_pos (by simpa using c2),if_neg c2]
 ·rw [if_pos (by simpa using c1),if_neg c1]
theorem p39 (a b:Int) (T:List (Int×Int)) (L:List (List (Int×Int))) (lo hi:List Int) (hT:T.length<1000) (hn:L.length<1000) (hL:∀ x∈L,x.length<1000) (h1:lo.length<1000000) (h2:hi.length<1000000) :
 r54 a b T L lo hi=some (if (bG a b T L).2=0 then lC a T lo hi else (0,(bG a b T L).2)):=by
 unfold r54
 rw [ahI a b T L hT hn hL,Option.bind_some]
 by_cases h:(bG a b T L).2=0
 ·have ok:=rU h
  rw [if_pos h,if_pos h]
  simp only
  rw [if_neg (by simp),arw ok lo hi h1 h2,Option.bind_some]
 ·rw [if_neg h,if_neg h]
  simp only
  rw [if_pos (by simpa using h)]
theorem ajh {a:Int} {T:List (Int×Int)} {lo hi:List Int} (h:(lC a T lo hi).2=0):(dn a T lo).2=0∧(dn a T hi).2=0∧FB lo hi∧lC a T lo hi=(0,0):=by
 unfold lC at h ⊢
 by_cases c1:(dn a T lo).2=0
 ·rw [if_pos c1] at h ⊢
  by_cases c2:(dn a T hi).2=0
  ·rw [if_pos c2] at h ⊢
   have l1:=(nD c1).1
   have l2:=(nD c2).1
   cases hs:dw (yw lo hi) 0 lo.length with
   | none=>
    refine ⟨c1,c2,Zm lo hi (by omega) fun j hj=> ?_,rfl⟩
    have:=jk hs j (by omega) (by omega)
    unfold yw at this
    split at this
    ·cases this
    ·omega
   | some v=>
    obtain ⟨j,_,_,hj⟩:=gU hs
    rw [hs] at h
    unfold yw at hj
    split at hj
    ·cases hj; simp at h
    ·cases hj
  ·rw [if_neg c2] at h; exact absurd h c2
 ·rw [if_neg c1] at h; exact absurd h c1
def jI (a b:Int) (T:List (Int×Int)) (L:List (List (Int×Int))) (lo hi:List Int):Int:=if (bG a b T L).2=0 then (lC a T lo hi).2 else (bG a b T L).2
def yA (a b:Int) (T:List (Int×Int)) (L:List (List (Int×Int))) (lo hi:List Int):Int×Int×(List (Int×Int))×(List ((List (Int×Int))))×(List (Int×Int))×(List ((List (Int×Int))))×Int:=
 if (bG a b T L).2=0 then (a,b,T,L,T,L,(lC a T lo hi).2) else (0,0,[],[],[],[],(bG a b T L).2)
theorem OG (a b:Int) (T:List (Int×Int)) (L:List (List (Int×Int))) (lo hi:List Int):(yA a b T L lo hi).2.2.2.2.2.2=jI a b T L lo hi:=by
 unfold yA jI; split<;>rfl
structure BoxOk (a b:Int) (T:List (Int×Int)) (L:List (List (Int×Int))) (u v:List Int):Prop where
 lo:rF a b T L u
 hi:rF a b T L v
 le:FB u v
theorem Nh {a b:Int} {T:List (Int×Int)} {L:List (List (Int×Int))} {lo hi:List Int} (h:jI a b T L lo hi=0):BoxOk a b T L lo hi:=by
 unfold jI at h
 by_cases h0:(bG a b T L).2=0
 ·rw [if_pos h0] at h
  obtain ⟨h1,h2,h3,_⟩:=ajh h
  exact ⟨Nq (by unfold A8; rw [if_pos h0]; exact h1),Nq (by unfold A8; rw [if_pos h0]; exact h2),h3⟩
 ·rw [if_neg h0] at h; exact absurd h h0
theorem Wx {a b:Int} {T:List (Int×Int)} {L:List (List (Int×Int))} {lo hi:List Int} (h:jI a b T L lo hi=0):yA a b T L lo hi=(a,b,T,L,T,L,0):=by
 unfold jI at h
 unfold yA
 by_cases h0:(bG a b T L).2=0
 ·rw [if_pos h0] at h ⊢; rw [h]
 ·rw [if_neg h0] at h; exact absurd h h0
theorem sS (x:Int) (r:List Int):dF (x::r)=fB x (dF r):=rfl
theorem qH (x y z:Int):fB (fB x y) z=fB x (fB y z):=by
 unfold fB; by_cases h:x=0
 ·rw [if_pos h,if_pos h]
 ·rw [if_neg h,if_neg h,if_neg h]
theorem oM (x:Int):fB x 0=x:=by
 unfold fB; by_cases h:x=0
 ·rw [if_pos h,h]
 ·rw [if_neg h]
def BF (r:Int×Int):Int:=fB (bV (gu r.1 0 10000 && gu r.2 0 10000) 2) (bV (decide (r.1≤r.2)) 9)
def mM:List (Int×Int)→Int
 | []=>0
 | r::q=>fB (BF r) (mM q)
def KZ (L:List (List (Int×Int))) (lo hi:Int):Int:=fB (bV (gu lo 0 ((L.length:Int) - 1)) 6) (fB (bV (gu hi 0 ((L.length:Int) - 1)) 6) (bV (decide (lo≤hi)) 9))
def gW (a:Int) (L:List (List (Int×Int))) (ps:List (Int×Int)) (lo hi:Int):Int:=fB (bV ((ps.length:Int) == a) 10) (fB (mM ps) (KZ L lo hi))
theorem azj (n:Int):OA n=some (gu n 0 10000):=rfl
structure ajC (a:Int) (L:List (List (Int×Int))) (ps:List (Int×Int)) (lo hi:Int):Prop where
 len:(ps.length:Int)=a
 rng:∀ r∈ps,(0≤r.1∧r.1≤10000)∧(0≤r.2∧r.2≤10000)∧r.1≤r.2
 law:0≤lo∧lo≤hi∧hi<L.length
theorem jC {x y:Int} (h:fB x y=0):x=0∧y=0:=by
 unfold fB at h
 by_cases hx:x=0
 ·rw [if_pos hx] at h; exact ⟨hx,h⟩
 ·rw [if_neg hx] at h; exact absurd h hx
theorem qP {b:Bool} {e:Int} (h:bV b e=0) (he:e≠0):b=true:=by
 cases b with
 | true=>rfl
 | false=>exact absurd h he
theorem Fb:∀ {l:List (Int×Int)},mM l=0→∀ r∈l,(0≤r.1∧r.1≤10000)∧(0≤r.2∧r.2≤10000)∧r.1≤r.2
 | [],_,r,hr=>by simp at hr
 | x::q,h,r,hr=>by
  obtain ⟨h1,h2⟩:=jC h
  rcases List.mem_cons.1 hr with rfl | hr
  ·obtain ⟨g1,g2⟩:=jC h1
   have g1:=qP g1 (by decide)
   have g2:=qP g2 (by decide)
   rw [Bool.and_eq_true,jJ,jJ] at g1
   exact ⟨g1.1,g1.2,of_decide_eq_true g2⟩
  ·exact Fb h2 r hr
theorem Af {a:Int} {L:List (List (Int×Int))} {ps:List (Int×Int)} {lo hi:Int} (h:gW a L ps lo hi=0):ajC a L ps lo hi:=by
 obtain ⟨h1,h2⟩:=jC h
 obtain ⟨h3,h4⟩:=jC h2
 obtain ⟨h5,h6⟩:=jC h4
 obtain ⟨h7,h8⟩:=jC h6
 have g1:=qP h1 (by decide)
 have g5:=jJ.1 (qP h5 (by decide))
 have g7:=jJ.1 (qP h7 (by decide))
 have g8:=of_decide_eq_true (qP h8 (by decide))
 exact ⟨by simpa using g1,Fb h3,g5.1,g8,by omega⟩
def rQ (a:Int) (L:List (List (Int×Int))):List ((List (Int×Int))×Int×Int)→Int
 | []=>0
 | d::r=>fB (gW a L d.1 d.2.1 d.2.2) (rQ a L r)
def ji (a:Int) (L:List (List (Int×Int))) (l:List ((List (Int×Int))×Int×Int)):Int:=fB (bV (decide ((l.length:Int)≤200)) 8) (rQ a L l)
theorem wF {a:Int} {L:List (List (Int×Int))} {l:List ((List (Int×Int))×Int×Int)} (h:ji a L l=0):l.length≤200∧∀ d∈l,gW a L d.1 d.2.1 d.2.2=0:=by
 obtain ⟨h1,h2⟩:=jC h
 have g1:=of_decide_eq_true (qP h1 (by decide))
 refine ⟨by omega,?_⟩
 have:∀ l:List ((List (Int×Int))×Int×Int),rQ a L l=0→∀ d∈l,gW a L d.1 d.2.1 d.2.2=0:=by
  intro l
  induction l with
  | nil=>intro _ d hd; simp at hd
  | cons x r ih=>
   intro h d hd
   obtain ⟨e1,e2⟩:=jC h
   rcases List.mem_cons.1 hd with rfl | hd
   ·exact e1
   ·exact ih e2 d hd
 exact this l h2
def boxS (b:Int) (T:List (Int×Int)) (L:List (List (Int×Int))) (lo hi:List Int) (d:(List (Int×Int))×Int×Int):Option (List Int×List Int):=
 if (mP b T (L.getD d.2.2.toNat default) lo (d.1.map (·.1))).all (inT T)=true∧(mP b T (L.getD d.2.1.toNat default) hi (d.1.map (·.2))).all (inT T)=true then
  some (mP b T (L.getD d.2.2.toNat default) lo (d.1.map (·.1)),mP b T (L.getD d.2.1.toNat default) hi (d.1.map (·.2)))
 else none
theorem Uo {a b:Int} {T:List (Int×Int)} {L:List (List (Int×Int))} {lo hi:List Int} (H:BoxOk a b T L lo hi) {d:(List (Int×Int))×Int×Int} (hd:gW a L d.1 d.2.1 d.2.2=0):vX T L lo (d.1.map (·.1)) d.2.2∧vX T L hi (d.1.map (·.2)) d.2.1:=by
 have S:=Af hd
 have h1:=H.lo.len
 have h2:=H.hi.len
 have h3:=H.lo.ok.cells
 have h4:=S.len
 have h5:=S.law
 refine ⟨⟨H.lo.ins,by rw [List.length_map]; omega,⟨by omega,by omega⟩,fun x hx=> ?_,by omega,by omega⟩,⟨H.hi.ins,by rw [List.length_map]; omega,⟨by omega,by omega⟩,fun x hx=> ?_,by omega,by omega⟩⟩
 ·obtain ⟨r,hr,rfl⟩:=List.mem_map.1 hx; exact (S.rng r hr).1
 ·obtain ⟨r,hr,rfl⟩:=List.mem_map.1 hx; exact (S.rng r hr).2.1
def bxR (o:Option (List Int×List Int)):List Int×List Int×Int:=(o.map fun y=>(y.1,y.2,(0:Int))).getD ([],[],22)
def bxB (o:Option (List Int×List Int)):List Int×List Int×Bool:=(o.map fun y=>(y.1,y.2,true)).getD ([],[],false)
theorem ad2 (l:List (Int×Int)) (h:∀ r∈l,r.1≤r.2):FB (l.map (·.1)) (l.map (·.2)):=by
 induction l with
 | nil=>trivial
 | cons x r ih=>exact ⟨h x (by simp),ih fun y hy=>h y (by simp [hy])⟩
theorem BoxOk.next {a b:Int} {T:List (Int×Int)} {L:List (List (Int×Int))} {lo hi:List Int} (H:BoxOk a b T L lo hi) {d:(List (Int×Int))×Int×Int} (hd:gW a L d.1 d.2.1 d.2.2=0) {y:List Int×List Int} (hy:boxS b T L lo hi d=some y):BoxOk a b T L y.1 y.2:=by
 have S:=Af hd
 unfold boxS at hy
 split at hy
 ·rename_i hc
  cases hy
  exact ⟨H.lo.next hc.1,H.hi.next hc.2,YZ H.lo.ok ⟨by have:=S.law; omega,S.law.2.2⟩ ⟨S.law.1,by have:=S.law; omega⟩ S.law.2.1 H.le (ad2 d.1 fun r hr=>(S.rng r hr).2.2)⟩
 ·cases hy
def lg (b:Int) (T:List (Int×Int)) (L:List (List (Int×Int))):List Int→List Int→List ((List (Int×Int))×Int×Int)→Option (List (List Int×List Int))
 | _,_,[]=>some []
 | lo,hi,d::r=>(boxS b T L lo hi d).bind fun y=>(lg b T L y.1 y.2 r).map fun z=>y::z
def bxF (o:Option (List (List Int×List Int))) (out:List (List Int×List Int)):List (List Int×List Int)×Int:=(o.map fun z=>(out++z,(0:Int))).getD ([],22)
def bxG (o:Option (List (List Int×List Int))) (out:List (List Int×List Int)):List (List Int×List Int)×Bool:=(o.map fun z=>(out++z,true)).getD ([],false)
theorem Nc {b:Int} {T:List (Int×Int)} {L:List (List (Int×Int))} {lo hi:List Int} {d:(List (Int×Int))×Int×Int} {r:List ((List (Int×Int))×Int×Int)} {out:List (List Int×List Int)} {y:List Int×List Int} (h:boxS b T L lo hi d=some y) :
 bxF (lg b T L lo hi (d::r)) out=bxF (lg b T L y.1 y.2 r) (out++[y])∧bxG (lg b T L lo hi (d::r)) out=bxG (lg b T L y.1 y.2 r) (out++[y]):=by
 have e:lg b T L lo hi (d::r)=(lg b T L y.1 y.2 r).map fun z=>y::z:=by
  conv=>lhs; unfold lg
  rw [h]; rfl
 rw [e]
 unfold bxF bxG
 cases lg b T L y.1 y.2 r with
 | none=>exact ⟨rfl,rfl⟩
 | some z=>simp
theorem EX {b:Int} {T:List (Int×Int)} {L:List (List (Int×Int))} {lo hi:List Int} {d:(List (Int×Int))×Int×Int} {r:List ((List (Int×Int))×Int×Int)} (h:boxS b T L lo hi d=none):lg b T L lo hi (d::r)=none:=by
 unfold lg; rw [h]; rfl
theorem wL {b:Int} {T:List (Int×Int)} {L:List (List (Int×Int))}:∀ (l:List ((List (Int×Int))×Int×Int)) (lo hi:List Int) (z:List (List Int×List Int)),lg b T L lo hi l=some z→z.length=l.length∧∀ x∈z,x.1.length=lo.length∧x.2.length=hi.length
 | [],lo,hi,z,h=>by cases h; exact ⟨rfl,by simp⟩
 | d::r,lo,hi,z,h=>by
  unfold lg at h
  cases hb:boxS b T L lo hi d with
  | none=>rw [hb] at h; cases h
  | some y=>
   rw [hb,Option.bind_some] at h
   have hyl:y.1.length=lo.length∧y.2.length=hi.length:=by
    unfold boxS at hb
    split at hb
    ·cases hb; exact ⟨sF ..,sF ..⟩
    ·cases hb
   cases hr:lg b T L y.1 y.2 r with
   | none=>rw [hr] at h; cases h
   | some w=>
    rw [hr] at h; cases h
    obtain ⟨h1,h2⟩:=wL r _ _ w hr
    refine ⟨by simp [h1],fun x hx=> ?_⟩
    rcases List.mem_cons.1 hx with rfl | hx
    ·exact hyl
    ·have:=h2 x hx; omega
theorem p46 {a b:Int} {T:List (Int×Int)} {L:List (List (Int×Int))} (ok:fQ a b T L) (lo hi:List Int) (h1:lo.length<1000000) (h2:hi.length<1000000):r91 a b T L lo hi=some (lC a T lo hi):=by
 unfold r91 lC
 rw [p27 a b T L lo ok.tpos ok.tlt h1,Option.bind_some]
 by_cases c1:(dn a T lo).2=0
 ·rw [if_neg (by simpa using c1),if_pos c1,p27 a b T L hi ok.tpos ok.tlt h2,Option.bind_some]
  by_cases c2:(dn a T hi).2=0
  ·have l1:=(nD c1).1
   have l2:=(nD c2).1
   rw [if_neg (by simpa using c2),if_pos c2, ← KH, ← l1]
   refine iQ lo.length _ _ _ (by omega) (fun i hi'=> ?_) (by simp [Nj])
   simp only [Nj,nO hi',if_true,if_pos (kY hi'),if_pos (kY (show i<hi.length by omega)),Int.toNat_natCast,wS i (by omega),yw]
   by_cases hc:lo.getD i default>hi.getD i default
   ·rw [if_pos (decide_eq_true hc),if_pos hc]
   ·rw [if_neg (by rw [decide_eq_true_eq]; exact hc),if_neg hc]
  ·rw [if_pos (by simpa using c2),if_neg c2]
 ·rw [if_pos (by simpa using c1),if_neg c1]
theorem p82 (a b:Int) (T:List (Int×Int)) (L:List (List (Int×Int))) (lo hi:List Int) (hn:L.length<1000) (hL:∀ x∈L,x.length<1000) (h1:lo.length<1000000) (h2:hi.length<1000000):r58 a b T L lo hi=some (jI a b T L lo hi):=by
 unfold r58 jI
 rw [p45 a b T L hn hL,Option.bind_some]
 by_cases h:(bG a b T L).2=0
 ·have ok:=rU h
  rw [if_neg (by simpa using h),if_pos h,p46 ok lo hi h1 h2,Option.bind_some]
 ·rw [if_pos (by simpa using h),if_neg h]
theorem p40 (u v:List Int) (h1:u.length<1000000) (h2:v.length<1000000):r45 u v=some (u,v):=by
 unfold r45
 rw [p19 u (by omega),Option.bind_some,p19 v (by omega),Option.bind_some]
end Go.Proofs.YtofkgmldcjagmaaGreatDoor

/- The boxes of spans, by the code and by the reference. -/
import Derived.Test.YtofkgmldcjagmaaGreatDoorF06
import Derived.Test.YtofkgmldcjagmaaGreatDoorF23
import Derived.Test.YtofkgmldcjagmaaGreatDoorHeatBx
set_option linter.unusedVariables false
set_option linter.unusedSimpArgs false
namespace Go.Proofs.YtofkgmldcjagmaaGreatDoor
open Go.dJ
theorem azs (a b:Int) (T:List (Int×Int)) (L:List (List (Int×Int))) (lo hi:List Int) (hT:T.length<1000) (hn:L.length<1000) (hL:∀ x∈L,x.length<1000) (h1:lo.length<1000000) (h2:hi.length<1000000):YN a b T L lo hi=some (yA a b T L lo hi):=by
 unfold YN yA
 rw [ahI a b T L hT hn hL,Option.bind_some]
 by_cases h:(bG a b T L).2=0
 ·have ok:=rU h
  rw [if_pos h,if_pos h]
  simp only
  rw [if_pos (by rfl),arw ok lo hi h1 h2,Option.bind_some]
 ·rw [if_neg h,if_neg h]
  simp only
  rw [if_neg (by simpa using h)]
theorem azr (a b:Int) (T:List (Int×Int)) (L:List (List (Int×Int))) (T':List (Int×Int)) (L':List (List (Int×Int))) (ps:List (Int×Int)) (lo hi:Int) (h:L'.length<1000) (hl:ps.length<1000000):YH a b T L T' L' ps lo hi=some (gW a L' ps lo hi):=by
 unfold YH gW
 rw [p94,Option.bind_some]
 have hh:=xw (fuel:=1000000000) ps (yS a b T L T' L' ps lo hi) (fun i e=>(e,(i:Int))) (fun r e=>some (fB e (fB (mM r) (KZ L' lo hi)))) (fun _ _=>True) (by omega) (fun i e r hi' _ _=>by
  left
  refine ⟨fB e (BF (ps.getD i default)),?_,trivial,?_⟩
  ·simp only [yS,nO hi',if_true,if_pos (kY hi'),Int.toNat_natCast,wS i (by omega),azj,p94,aP,Option.isSome_some,Option.getD_some,implies_true]
   rw [p91 _ (by simp)]
   simp only [sS]
   rw [show dF []=0 from rfl,oM]
   rfl
  ·simp only [mM]
   rw [qH,qH]) (fun e _=>by
  simp only [yS]
  rw [if_neg (by simp),arv a b T L T' L' lo h,Option.bind_some,arv a b T L T' L' hi h,Option.bind_some,p94,Option.bind_some,p91 _ (by simp),Option.bind_some]
  simp only [sS,mM,KZ]
  rw [show dF []=0 from rfl,oM]
  rfl) (bV ((ps.length:Int) == a) 10) trivial
 rw [show ((0:Nat):Int)=0 from rfl] at hh
 exact hh
theorem azp (a b:Int) (T:List (Int×Int)) (L:List (List (Int×Int))) (T':List (Int×Int)) (L':List (List (Int×Int))) (l:List ((List (Int×Int))×Int×Int)) (h:L'.length<1000) (hl:l.length<1000000) (hdl:∀ d∈l,d.1.length<1000000):YM a b T L T' L' l=some (ji a L' l):=by
 unfold YM ji
 rw [p94,Option.bind_some]
 have hh:=xw (fuel:=1000000000) l (yZ a b T L T' L' l) (fun i e=>(e,(i:Int))) (fun r e=>some (fB e (rQ a L' r))) (fun _ _=>True) (by omega) (fun i e r hi _ _=>by
  left
  refine ⟨fB e (gW a L' (l.getD i default).1 (l.getD i default).2.1 (l.getD i default).2.2),?_,trivial,?_⟩
  ·simp only [yZ,nO hi,if_true,if_pos (kY hi),Int.toNat_natCast,wS i (by omega),azr a b T L T' L' (l.getD i default).1 _ _ h (by have:=hdl _ (getD_mem hi); omega),aP]
   rw [p91 _ (by simp)]
   simp only [sS]
   rw [show dF []=0 from rfl,oM]
   rfl
  ·simp only [rQ]
   rw [qH]) (fun e _=>by
  simp only [yZ]
  rw [if_neg (by simp)]
  simp only [rQ]
  rw [oM]) (bV (decide ((l.length:Int)≤200)) 8) trivial
 rw [show ((0:Nat):Int)=0 from rfl] at hh
 exact hh
theorem azg (ps:List (Int×Int)) (lo hi:Int) (hl:ps.length<1000000):YE ps lo hi=some (ps.map (·.1),hi,ps.map (·.2),lo):=by
 unfold YE
 have hm:∀ (f:Int×Int→Int) i,i<ps.length→(ps.map f).take (i+1)=(ps.map f).take i++[f (ps.getD i default)]:=fun f i hi=>by
  rw [rO _ i (by simpa using hi)]
  congr 2
  simp [List.getD_eq_getElem?_getD,hi]
 refine jR ps.length (yQ ps lo hi) (fun i=>((i:Int),(ps.map (·.1)).take i,(ps.map (·.2)).take i)) _ (by omega) (fun i hi'=> ?_) ?_
 ·have h1:((ps.map (·.1)).take i).length=i:=by simp; omega
  have h2:((ps.map (·.2)).take i).length=i:=by simp; omega
  simp only [yQ,nO hi',if_true,if_pos (kY hi'),Int.toNat_natCast,wS i (by omega)]
  rw [if_pos ⟨by omega,by omega⟩,if_pos ⟨by omega,by omega⟩,hm (·.1) i hi',hm (·.2) i hi']
  rfl
 ·simp only [yQ]
  rw [if_neg (by simp),List.take_of_length_le (by simp),List.take_of_length_le (by simp)]
theorem azq {a b:Int} {T:List (Int×Int)} {L:List (List (Int×Int))} {lo hi:List Int} (H:BoxOk a b T L lo hi) {d:(List (Int×Int))×Int×Int} (hd:gW a L d.1 d.2.1 d.2.2=0):YG a b T L T L lo hi d.1 d.2.1 d.2.2=some (bxR (boxS b T L lo hi d)):=by
 have S:=Af hd
 have h3:=H.lo.ok.cells
 have h4:=S.len
 obtain ⟨s1,s2⟩:=Uo H hd
 unfold YG
 rw [azg d.1 _ _ (by omega),Option.bind_some]
 simp only
 rw [p96 H.lo.ok s1,Option.bind_some,p96 H.lo.ok s2,Option.bind_some,p91 _ (by simp),Option.bind_some,aen]
 unfold boxS
 generalize mP b T (L.getD d.2.2.toNat default) lo (d.1.map (·.1))=o1
 generalize mP b T (L.getD d.2.1.toNat default) hi (d.1.map (·.2))=o2
 by_cases c1:o1.all (inT T)=true
 ·by_cases c2:o2.all (inT T)=true
  ·have e:(if o1.all (inT T)=true∧o2.all (inT T)=true then some (o1,o2) else none)=some (o1,o2):=if_pos ⟨c1,c2⟩
   rw [e,if_pos c1,if_pos c2]; rfl
  ·have e:(if o1.all (inT T)=true∧o2.all (inT T)=true then some (o1,o2) else none)=none:=if_neg (fun h=>c2 h.2)
   rw [e,if_pos c1,if_neg c2]; rfl
 ·have e:(if o1.all (inT T)=true∧o2.all (inT T)=true then some (o1,o2) else none)=none:=if_neg (fun h=>c1 h.1)
  rw [e,if_neg c1]
  by_cases c2:o2.all (inT T)=true
  ·rw [if_pos c2]; rfl
  ·rw [if_neg c2]; rfl
theorem arx (l:List (Int×Int)) (b:Bool) (hl:l.length<1000000000):V7 l b=some (l.map fun x=>if b then x.2 else x.1):=by
 have h:=kT (τ:=List Int) l (yT l b) (fun i t=>(t,i)) (fun _ t x=>if (t.length+1)*8≤140737488355328∧t.length+1≤9223372036854775807 then .next (t++[if b then x.2 else x.1]) else .out none) (fun t=>some t) hl
  (fun i t hi=>by
   simp only [yT,nO hi,if_true,if_pos (kY hi),Int.toNat_natCast,wS i (by omega)]
   cases b<;>simp only [Bool.false_eq_true,if_false,if_true]<;>split<;>rfl)
  (fun t=>by simp [yT]) []
 unfold V7
 rw [h]
 have:∀ (r:List (Int×Int)) (i:Int) (t:List Int),t.length+r.length<1000000000→jq (fun _ t x=>if (t.length+1)*8≤140737488355328∧t.length+1≤9223372036854775807 then (.next (t++[if b then x.2 else x.1]):gy (List Int) (List Int)) else .out none) (fun t=>some t) i r t=some (t++r.map fun x=>if b then x.2 else x.1):=by
  intro r
  induction r with
  | nil=>intro i t _; simp [jq]
  | cons x r ih=>
   intro i t h
   simp only [List.length_cons] at h
   simp only [jq]
   rw [if_pos ⟨by omega,by omega⟩]
   simp only
   rw [ih _ _ (by simp; omega)]
   simp
 simpa using this l 0 [] (by simpa using hl)
theorem p49 {a b:Int} {T:List (Int×Int)} {L:List (List (Int×Int))} {lo hi:List Int} (H:BoxOk a b T L lo hi) {d:(List (Int×Int))×Int×Int} (hd:gW a L d.1 d.2.1 d.2.2=0):r92 a b T L lo hi d.1 d.2.1 d.2.2=some (bxB (boxS b T L lo hi d)):=by
 have S:=Af hd
 have h3:=H.lo.ok.cells
 have h4:=S.len
 obtain ⟨s1,s2⟩:=Uo H hd
 unfold r92
 rw [arx d.1 false (by omega),Option.bind_some,arx d.1 true (by omega)]
 show (r80 a b T L lo (d.1.map (·.1)) d.2.2).bind _=_
 rw [p71 H.lo.ok s1,Option.bind_some,Option.bind_some]
 show (r80 a b T L hi (d.1.map (·.2)) d.2.1).bind _=_
 rw [p71 H.lo.ok s2,Option.bind_some]
 unfold boxS
 generalize mP b T (L.getD d.2.2.toNat default) lo (d.1.map (·.1))=o1
 generalize mP b T (L.getD d.2.1.toNat default) hi (d.1.map (·.2))=o2
 by_cases c1:o1.all (inT T)=true
 ·by_cases c2:o2.all (inT T)=true
  ·have e:(if o1.all (inT T)=true∧o2.all (inT T)=true then some (o1,o2) else none)=some (o1,o2):=if_pos ⟨c1,c2⟩
   rw [e,if_pos c1,if_pos c2]; rfl
  ·have e:(if o1.all (inT T)=true∧o2.all (inT T)=true then some (o1,o2) else none)=none:=if_neg (fun h=>c2 h.2)
   rw [e,if_pos c1,if_neg c2]; rfl
 ·have e:(if o1.all (inT T)=true∧o2.all (inT T)=true then some (o1,o2) else none)=none:=if_neg (fun h=>c1 h.1)
  rw [e,if_neg c1]
  by_cases c2:o2.all (inT T)=true
  ·rw [if_pos c2]; rfl
  ·rw [if_neg c2]; rfl
theorem azo {a b:Int} {T:List (Int×Int)} {L:List (List (Int×Int))} {lo hi:List Int} {l:List ((List (Int×Int))×Int×Int)} (H:BoxOk a b T L lo hi) (hz:ji a L l=0):Wj a b T L T L lo hi l=some (bxF (lg b T L lo hi l) []):=by
 obtain ⟨aAo,hok⟩:=wF hz
 unfold Wj
 refine xw (τ:=List (List Int×List Int)×List Int×List Int) l (yY a b T L T L l) (fun i t=>(t.1,(i:Int),t.2.1,t.2.2)) (fun r t=>some (bxF (lg b T L t.2.1 t.2.2 r) t.1)) (fun i t=>t.1.length=i∧BoxOk a b T L t.2.1 t.2.2) (by omega) ?_ ?_ ([],lo,hi) ⟨rfl,H⟩
 ·rintro i ⟨out,lo',hi'⟩ r hi ⟨hlen,R⟩ hdr
  simp only at hlen R
  have hd1:=hok _ (getD_mem hi)
  simp only [yY,nO hi,if_true,if_pos (kY hi),Int.toNat_natCast,wS i (by omega),azq R hd1,aP]
  cases hb:boxS b T L lo' hi' (l.getD i default) with
  | none=>
   right
   rw [EX hb]; rfl
  | some y=>
   left
   rw [show bxR (some y)=(y.1,y.2,0) from rfl,if_neg (show ¬ (((y.1,y.2,(0:Int)).2.2 != 0)=true) by simp),if_pos ⟨by omega,by omega⟩]
   exact ⟨(out++[y],y.1,y.2),rfl,⟨by simp [hlen],R.next hd1 hb⟩,by rw [(Nc hb).1]⟩
 ·rintro ⟨out,lo',hi'⟩ R
  simp only [yY]
  rw [if_neg (by simp)]
  simp [lg,bxF]
theorem p51 {a b:Int} {T:List (Int×Int)} {L:List (List (Int×Int))} {lo hi:List Int} {l:List ((List (Int×Int))×Int×Int)} (H:BoxOk a b T L lo hi) (hz:ji a L l=0):r60 a b T L lo hi l=some (bxG (lg b T L lo hi l) []):=by
 obtain ⟨aAo,hok⟩:=wF hz
 unfold r60
 refine xw (τ:=List (List Int×List Int)×List Int×List Int) l (Gi a b T L l) (fun i t=>(t.1,(i:Int),t.2.1,t.2.2)) (fun r t=>some (bxG (lg b T L t.2.1 t.2.2 r) t.1)) (fun i t=>t.1.length=i∧BoxOk a b T L t.2.1 t.2.2) (by omega) ?_ ?_ ([],lo,hi) ⟨rfl,H⟩
 ·rintro i ⟨out,lo',hi'⟩ r hi ⟨hlen,R⟩ hdr
  simp only at hlen R
  have hd1:=hok _ (getD_mem hi)
  simp only [Gi,nO hi,if_true,if_pos (kY hi),Int.toNat_natCast,wS i (by omega),p49 R hd1,aP]
  cases hb:boxS b T L lo' hi' (l.getD i default) with
  | none=>
   right
   rw [EX hb]; rfl
  | some y=>
   left
   rw [show bxB (some y)=(y.1,y.2,true) from rfl,if_neg (show ¬ ((!(y.1,y.2,true).2.2)=true) by simp),if_pos ⟨by omega,by omega⟩]
   exact ⟨(out++[y],y.1,y.2),rfl,⟨by simp [hlen],R.next hd1 hb⟩,by rw [(Nc hb).2]⟩
 ·rintro ⟨out,lo',hi'⟩ R
  simp only [Gi]
  rw [if_neg (by simp)]
  simp [lg,bxG]
def Jj (a b:Int) (T:List (Int×Int)) (L:List (List (Int×Int))) (lo hi:List Int) (l:List ((List (Int×Int))×Int×Int)):List (List Int×List Int)×Int:=
 if jI a b T L lo hi=0 then (if ji a L l=0 then bxF (lg b T L lo hi l) [] else ([],ji a L l)) else ([],jI a b T L lo hi)
theorem p43 (a b:Int) (T:List (Int×Int)) (L:List (List (Int×Int))) (lo hi:List Int) (l:List ((List (Int×Int))×Int×Int)) (hT:T.length<1000) (hn:L.length<1000) (hL:∀ x∈L,x.length<1000) (h1:lo.length<1000000) (h2:hi.length<1000000) (hl:l.length<1000000) (hdl:∀ d∈l,d.1.length<1000000) :
 r81 a b T L lo hi l=some (Jj a b T L lo hi l):=by
 unfold r81 Jj
 rw [azs a b T L lo hi hT hn hL h1 h2,Option.bind_some]
 by_cases h:jI a b T L lo hi=0
 ·have H:=Nh h
  rw [Wx h,if_pos (by rfl),if_pos h]
  simp only
  rw [azp a b T L T L l hn hl hdl,Option.bind_some]
  by_cases hz:ji a L l=0
  ·rw [if_neg (by simpa using hz),if_pos hz,azo H hz,Option.bind_some]
  ·rw [if_pos (by simpa using hz),if_neg hz]
 ·have ho:=OG a b T L lo hi
  rw [if_neg h,if_neg (by rw [ho]; simpa using h),if_pos (by rw [ho]; simpa using h),ho]
end Go.Proofs.YtofkgmldcjagmaaGreatDoor

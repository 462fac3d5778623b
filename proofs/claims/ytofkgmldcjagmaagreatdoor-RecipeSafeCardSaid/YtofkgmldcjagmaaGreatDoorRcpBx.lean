/- The boxes of spans, by the code and by the reference. -/
import Derived.Test.YtofkgmldcjagmaaGreatDoorF06
import Derived.Test.YtofkgmldcjagmaaGreatDoorF23
import Derived.Test.YtofkgmldcjagmaaGreatDoorHeatBx
set_option linter.unusedVariables false
set_option linter.unusedSimpArgs false
namespace Go.Proofs.YtofkgmldcjagmaaGreatDoor
open Go.dG
theorem azU (a b:Int) (T:List (Int×Int)) (L:List (List (Int×Int))) (lo hi:List Int) (hT:T.length<1000) (hn:L.length<1000) (hL:∀ x∈L,x.length<1000) (h1:lo.length<1000000) (h2:hi.length<1000000):Zm a b T L lo hi=some (yU a b T L lo hi):=by
 unfold Zm yU
 rw [aez a b T L hT hn hL,Option.bind_some]
 by_cases h:(bn a b T L).2=0
 ·have ok:=nN h
  rw [if_pos h,if_pos h]
  simp only
  rw [if_pos (by rfl),ar1 ok lo hi h1 h2,Option.bind_some]
 ·rw [if_neg h,if_neg h]
  simp only
  rw [if_neg (by simpa using h)]
theorem azT (a b:Int) (T:List (Int×Int)) (L:List (List (Int×Int))) (T':List (Int×Int)) (L':List (List (Int×Int))) (ps:List (Int×Int)) (lo hi:Int) (h:L'.length<1000) (hl:ps.length<1000000):Zh a b T L T' L' ps lo hi=some (fA a L' ps lo hi):=by
 unfold Zh fA
 rw [Yt,Option.bind_some]
 have hh:=xQ (fuel:=1000000000) ps (zB a b T L T' L' ps lo hi) (fun i e=>(e,(i:Int))) (fun r e=>some (fG e (fG (mY r) (LJ L' lo hi)))) (fun _ _=>True) (by omega) (fun i e r hi' _ _=>by
  left
  refine ⟨fG e (Cj (ps.getD i default)),?_,trivial,?_⟩
  ·simp only [zB,oz hi',if_true,if_pos (lF hi'),Int.toNat_natCast,wS i (by omega),azL,Yt,aP,Option.isSome_some,Option.getD_some,implies_true]
   rw [p91 _ (by simp)]
   simp only [tC]
   rw [show dh []=0 from rfl,oP]
   rfl
  ·simp only [mY]
   rw [qM,qM]) (fun e _=>by
  simp only [zB]
  rw [if_neg (by simp),ait a b T L T' L' lo h,Option.bind_some,ait a b T L T' L' hi h,Option.bind_some,Yt,Option.bind_some,p91 _ (by simp),Option.bind_some]
  simp only [tC,mY,LJ]
  rw [show dh []=0 from rfl,oP]
  rfl) (bQ ((ps.length:Int) == a) 10) trivial
 rw [show ((0:Nat):Int)=0 from rfl] at hh
 exact hh
theorem azR (a b:Int) (T:List (Int×Int)) (L:List (List (Int×Int))) (T':List (Int×Int)) (L':List (List (Int×Int))) (l:List ((List (Int×Int))×Int×Int)) (h:L'.length<1000) (hl:l.length<1000000) (hdl:∀ d∈l,d.1.length<1000000):Zl a b T L T' L' l=some (jo a L' l):=by
 unfold Zl jo
 rw [Yt,Option.bind_some]
 have hh:=xQ (fuel:=1000000000) l (zH a b T L T' L' l) (fun i e=>(e,(i:Int))) (fun r e=>some (fG e (su a L' r))) (fun _ _=>True) (by omega) (fun i e r hi _ _=>by
  left
  refine ⟨fG e (fA a L' (l.getD i default).1 (l.getD i default).2.1 (l.getD i default).2.2),?_,trivial,?_⟩
  ·simp only [zH,oz hi,if_true,if_pos (lF hi),Int.toNat_natCast,wS i (by omega),azT a b T L T' L' (l.getD i default).1 _ _ h (by have:=hdl _ (getD_mem hi); omega),aP]
   rw [p91 _ (by simp)]
   simp only [tC]
   rw [show dh []=0 from rfl,oP]
   rfl
  ·simp only [su]
   rw [qM]) (fun e _=>by
  simp only [zH]
  rw [if_neg (by simp)]
  simp only [su]
  rw [oP]) (bQ (decide ((l.length:Int)≤200)) 8) trivial
 rw [show ((0:Nat):Int)=0 from rfl] at hh
 exact hh
theorem azI (ps:List (Int×Int)) (lo hi:Int) (hl:ps.length<1000000):Ze ps lo hi=some (ps.map (·.1),hi,ps.map (·.2),lo):=by
 unfold Ze
 have hm:∀ (f:Int×Int→Int) i,i<ps.length→(ps.map f).take (i+1)=(ps.map f).take i++[f (ps.getD i default)]:=fun f i hi=>by
  rw [rY _ i (by simpa using hi)]
  congr 2
  simp [List.getD_eq_getElem?_getD,hi]
 refine jW ps.length (zy ps lo hi) (fun i=>((i:Int),(ps.map (·.1)).take i,(ps.map (·.2)).take i)) _ (by omega) (fun i hi'=> ?_) ?_
 ·have h1:((ps.map (·.1)).take i).length=i:=by simp; omega
  have h2:((ps.map (·.2)).take i).length=i:=by simp; omega
  simp only [zy,oz hi',if_true,if_pos (lF hi'),Int.toNat_natCast,wS i (by omega)]
  rw [if_pos ⟨by omega,by omega⟩,if_pos ⟨by omega,by omega⟩,hm (·.1) i hi',hm (·.2) i hi']
  rfl
 ·simp only [zy]
  rw [if_neg (by simp),List.take_of_length_le (by simp),List.take_of_length_le (by simp)]
theorem azS {a b:Int} {T:List (Int×Int)} {L:List (List (Int×Int))} {lo hi:List Int} (H:BoxOk a b T L lo hi) {d:(List (Int×Int))×Int×Int} (hd:fA a L d.1 d.2.1 d.2.2=0):Zg a b T L T L lo hi d.1 d.2.1 d.2.2=some (bxR (boxS b T L lo hi d)):=by
 have S:=wZ hd
 have h3:=H.lo.ok.cells
 have h4:=S.len
 obtain ⟨s1,s2⟩:=UO H hd
 unfold Zg
 rw [azI d.1 _ _ (by omega),Option.bind_some]
 simp only
 rw [p96 H.lo.ok s1,Option.bind_some,p96 H.lo.ok s2,Option.bind_some,p91 _ (by simp),Option.bind_some,ae4]
 unfold boxS
 generalize iC b T (L.getD d.2.2.toNat default) lo (d.1.map (·.1))=o1
 generalize iC b T (L.getD d.2.1.toNat default) hi (d.1.map (·.2))=o2
 by_cases c1:o1.all (inT T)=true
 ·by_cases c2:o2.all (inT T)=true
  ·have e:(if o1.all (inT T)=true∧o2.all (inT T)=true then some (o1,o2) else none)=some (o1,o2):=if_pos ⟨c1,c2⟩
   rw [e,if_pos c1,if_pos c2]; rfl
  ·have e:(if o1.all (inT T)=true∧o2.all (inT T)=true then some (o1,o2) else none)=none:=if_neg (fun h=>c2 h.2)
   rw [e,if_pos c1,if_neg c2]; rfl
 ·have e:(if o1.all (inT T)=true∧o2.all (inT T)=true then some (o1,o2) else none)=none:=if_neg (fun h=>c1 h.1)
  rw [e,if_neg c1]
  by_cases c2:o2.all (inT T)=true
  ·rw [if_pos c2]; rfl
  ·rw [if_neg c2]; rfl
theorem ar2 (l:List (Int×Int)) (b:Bool) (hl:l.length<1000000000):aek l b=some (l.map fun x=>if b then x.2 else x.1):=by
 have h:=lg (τ:=List Int) l (Jz l b) (fun i t=>(t,i)) (fun _ t x=>if (t.length+1)*8≤140737488355328∧t.length+1≤9223372036854775807 then .next (t++[if b then x.2 else x.1]) else .out none) (fun t=>some t) hl
  (fun i t hi=>by
   simp only [Jz,oz hi,if_true,if_pos (lF hi),Int.toNat_natCast,wS i (by omega)]
   cases b<;>simp only [Bool.false_eq_true,if_false,if_true]<;>split<;>rfl)
  (fun t=>by simp [Jz]) []
 unfold aek
 rw [h]
 have:∀ (r:List (Int×Int)) (i:Int) (t:List Int),t.length+r.length<1000000000→jy (fun _ t x=>if (t.length+1)*8≤140737488355328∧t.length+1≤9223372036854775807 then (.next (t++[if b then x.2 else x.1]):gK (List Int) (List Int)) else .out none) (fun t=>some t) i r t=some (t++r.map fun x=>if b then x.2 else x.1):=by
  intro r
  induction r with
  | nil=>intro i t _; simp [jy]
  | cons x r ih=>
   intro i t h
   simp only [List.length_cons] at h
   simp only [jy]
   rw [if_pos ⟨by omega,by omega⟩]
   simp only
   rw [ih _ _ (by simp; omega)]
   simp
 simpa using this l 0 [] (by simpa using hl)
theorem p49 {a b:Int} {T:List (Int×Int)} {L:List (List (Int×Int))} {lo hi:List Int} (H:BoxOk a b T L lo hi) {d:(List (Int×Int))×Int×Int} (hd:fA a L d.1 d.2.1 d.2.2=0):r92 a b T L lo hi d.1 d.2.1 d.2.2=some (bxB (boxS b T L lo hi d)):=by
 have S:=wZ hd
 have h3:=H.lo.ok.cells
 have h4:=S.len
 obtain ⟨s1,s2⟩:=UO H hd
 unfold r92
 rw [ar2 d.1 false (by omega),Option.bind_some,ar2 d.1 true (by omega)]
 show (r80 a b T L lo (d.1.map (·.1)) d.2.2).bind _=_
 rw [p71 H.lo.ok s1,Option.bind_some,Option.bind_some]
 show (r80 a b T L hi (d.1.map (·.2)) d.2.1).bind _=_
 rw [p71 H.lo.ok s2,Option.bind_some]
 unfold boxS
 generalize iC b T (L.getD d.2.2.toNat default) lo (d.1.map (·.1))=o1
 generalize iC b T (L.getD d.2.1.toNat default) hi (d.1.map (·.2))=o2
 by_cases c1:o1.all (inT T)=true
 ·by_cases c2:o2.all (inT T)=true
  ·have e:(if o1.all (inT T)=true∧o2.all (inT T)=true then some (o1,o2) else none)=some (o1,o2):=if_pos ⟨c1,c2⟩
   rw [e,if_pos c1,if_pos c2]; rfl
  ·have e:(if o1.all (inT T)=true∧o2.all (inT T)=true then some (o1,o2) else none)=none:=if_neg (fun h=>c2 h.2)
   rw [e,if_pos c1,if_neg c2]; rfl
 ·have e:(if o1.all (inT T)=true∧o2.all (inT T)=true then some (o1,o2) else none)=none:=if_neg (fun h=>c1 h.1)
  rw [e,if_neg c1]
  by_cases c2:o2.all (inT T)=true
  ·rw [if_pos c2]; rfl
  ·rw [if_neg c2]; rfl
theorem azQ {a b:Int} {T:List (Int×Int)} {L:List (List (Int×Int))} {lo hi:List Int} {l:List ((List (Int×Int))×Int×Int)} (H:BoxOk a b T L lo hi) (hz:jo a L l=0):WV a b T L T L lo hi l=some (bxF (jR b T L lo hi l) []):=by
 obtain ⟨aAP,hok⟩:=BL hz
 unfold WV
 refine xQ (τ:=List (List Int×List Int)×List Int×List Int) l (zG a b T L T L l) (fun i t=>(t.1,(i:Int),t.2.1,t.2.2)) (fun r t=>some (bxF (jR b T L t.2.1 t.2.2 r) t.1)) (fun i t=>t.1.length=i∧BoxOk a b T L t.2.1 t.2.2) (by omega) ?_ ?_ ([],lo,hi) ⟨rfl,H⟩
 ·rintro i ⟨out,lo',hi'⟩ r hi ⟨hlen,R⟩ hdr
  simp only at hlen R
  have hd1:=hok _ (getD_mem hi)
  simp only [zG,oz hi,if_true,if_pos (lF hi),Int.toNat_natCast,wS i (by omega),azS R hd1,aP]
  cases hb:boxS b T L lo' hi' (l.getD i default) with
  | none=>
   right
   rw [FM hb]; rfl
  | some y=>
   left
   rw [show bxR (some y)=(y.1,y.2,0) from rfl,if_neg (show ¬ (((y.1,y.2,(0:Int)).2.2 != 0)=true) by simp),if_pos ⟨by omega,by omega⟩]
   exact ⟨(out++[y],y.1,y.2),rfl,⟨by simp [hlen],R.next hd1 hb⟩,by rw [(NJ hb).1]⟩
 ·rintro ⟨out,lo',hi'⟩ R
  simp only [zG]
  rw [if_neg (by simp)]
  simp [jR,bxF]
theorem p51 {a b:Int} {T:List (Int×Int)} {L:List (List (Int×Int))} {lo hi:List Int} {l:List ((List (Int×Int))×Int×Int)} (H:BoxOk a b T L lo hi) (hz:jo a L l=0):r60 a b T L lo hi l=some (bxG (jR b T L lo hi l) []):=by
 obtain ⟨aAP,hok⟩:=BL hz
 unfold r60
 refine xQ (τ:=List (List Int×List Int)×List Int×List Int) l (VP a b T L l) (fun i t=>(t.1,(i:Int),t.2.1,t.2.2)) (fun r t=>some (bxG (jR b T L t.2.1 t.2.2 r) t.1)) (fun i t=>t.1.length=i∧BoxOk a b T L t.2.1 t.2.2) (by omega) ?_ ?_ ([],lo,hi) ⟨rfl,H⟩
 ·rintro i ⟨out,lo',hi'⟩ r hi ⟨hlen,R⟩ hdr
  simp only at hlen R
  have hd1:=hok _ (getD_mem hi)
  simp only [VP,oz hi,if_true,if_pos (lF hi),Int.toNat_natCast,wS i (by omega),p49 R hd1,aP]
  cases hb:boxS b T L lo' hi' (l.getD i default) with
  | none=>
   right
   rw [FM hb]; rfl
  | some y=>
   left
   rw [show bxB (some y)=(y.1,y.2,true) from rfl,if_neg (show ¬ ((!(y.1,y.2,true).2.2)=true) by simp),if_pos ⟨by omega,by omega⟩]
   exact ⟨(out++[y],y.1,y.2),rfl,⟨by simp [hlen],R.next hd1 hb⟩,by rw [(NJ hb).2]⟩
 ·rintro ⟨out,lo',hi'⟩ R
  simp only [VP]
  rw [if_neg (by simp)]
  simp [jR,bxG]
def Jw (a b:Int) (T:List (Int×Int)) (L:List (List (Int×Int))) (lo hi:List Int) (l:List ((List (Int×Int))×Int×Int)):List (List Int×List Int)×Int:=
 if jA a b T L lo hi=0 then (if jo a L l=0 then bxF (jR b T L lo hi l) [] else ([],jo a L l)) else ([],jA a b T L lo hi)
theorem p43 (a b:Int) (T:List (Int×Int)) (L:List (List (Int×Int))) (lo hi:List Int) (l:List ((List (Int×Int))×Int×Int)) (hT:T.length<1000) (hn:L.length<1000) (hL:∀ x∈L,x.length<1000) (h1:lo.length<1000000) (h2:hi.length<1000000) (hl:l.length<1000000) (hdl:∀ d∈l,d.1.length<1000000) :
 r81 a b T L lo hi l=some (Jw a b T L lo hi l):=by
 unfold r81 Jw
 rw [azU a b T L lo hi hT hn hL h1 h2,Option.bind_some]
 by_cases h:jA a b T L lo hi=0
 ·have H:=NK h
  rw [Xb h,if_pos (by rfl),if_pos h]
  simp only
  rw [azR a b T L T L l hn hl hdl,Option.bind_some]
  by_cases hz:jo a L l=0
  ·rw [if_neg (by simpa using hz),if_pos hz,azQ H hz,Option.bind_some]
  ·rw [if_pos (by simpa using hz),if_neg hz]
 ·have ho:=Pg a b T L lo hi
  rw [if_neg h,if_neg (by rw [ho]; simpa using h),if_pos (by rw [ho]; simpa using h),ho]
end Go.Proofs.YtofkgmldcjagmaaGreatDoor

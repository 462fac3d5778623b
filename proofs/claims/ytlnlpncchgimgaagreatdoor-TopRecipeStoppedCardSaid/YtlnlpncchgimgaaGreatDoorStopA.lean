/- Benches: which are valid; the drive of a tick. -/
import Derived.Test.YtlnlpncchgimgaaGreatDoorF02
import Derived.Test.YtlnlpncchgimgaaGreatDoorF03
import Derived.Test.YtlnlpncchgimgaaGreatDoorF07
import Derived.Test.YtlnlpncchgimgaaGreatDoorF08
import Derived.Test.YtlnlpncchgimgaaGreatDoorHeatBx
import Derived.Test.YtlnlpncchgimgaaGreatDoorHeatG
set_option linter.unusedVariables false
set_option linter.unusedSimpArgs false
namespace Go.Proofs.YtlnlpncchgimgaaGreatDoor
open Go.Abs
abbrev TL:=List (Int×Int)
structure BenOk (a b:Int) (T:TL) (L:List TL) (lo hi:List Int) (W:TL) (air spread:Int):Prop where
 box:BoxOk a b T L lo hi
 bx0:bxErr a b T L lo hi=0
 wlen:(W.length:Int)=a
 wts:∀ w∈W,(0≤w.1∧w.1≤1000)∧(0≤w.2∧w.2≤1000)∧w.1≤w.2
 air:0≤air∧air<L.length
 spread:0≤spread∧spread≤4
theorem wI1 {n:Nat} (h:n<1000):IntKind.i64.wrap ((n:Int) - 1)=(n:Int) - 1:=IntWalk.i64_in _ ⟨by omega,by omega⟩
theorem inR_iff' {n lo hi:Int}:inR n lo hi=true↔lo≤n∧n≤hi:=by simp [inR]
theorem isLaw (a b:Int) (T:TL) (L:List TL) (lo hi:List Int) (W:TL) (air spread n:Int) (hn:L.length<1000):r30 a b T L lo hi W air spread n=some (inR n 0 ((L.length:Int) - 1)):=by
 unfold r30
 rw [wI1 hn,p59]; rfl
theorem benRef (a b:Int) (T:TL) (L:List TL) (lo hi:List Int) (W:TL) (air spread:Int) (hn:L.length<1000) (hL:∀ x∈L,x.length<1000) (h1:lo.length<1000000) (h2:hi.length<1000000) (hw:W.length<1000) :
 ∃ v,r6 a b T L lo hi W air spread=some v∧(v=0→BenOk a b T L lo hi W air spread):=by
 suffices h:∃ v:Int×Int,r29 a b T L lo hi W air spread=some v∧(v.2=0→BenOk a b T L lo hi W air spread) by
  obtain ⟨v,e,h⟩:=h
  exact ⟨v.2,by unfold r6; rw [e]; rfl,h⟩
 unfold r29
 rw [p45 a b T L hn hL,Option.bind_some]
 by_cases c0:(setupErrV a b T L).2=0
 rotate_left
 ·rw [if_pos (by simpa using c0)]; exact ⟨_,rfl,fun h=>absurd h c0⟩
 rw [if_neg (by simpa using c0),p82 a b T L lo hi hn hL h1 h2,Option.bind_some]
 by_cases c1:bxErr a b T L lo hi=0
 rotate_left
 ·rw [if_pos (by simpa using c1)]; exact ⟨_,rfl,fun h=>absurd h c1⟩
 rw [if_neg (by simpa using c1)]
 by_cases c2:(W.length:Int)=a
 rotate_left
 ·rw [if_pos (by simpa using c2)]; exact ⟨_,rfl,fun h=>by cases h⟩
 rw [if_neg (by simpa using c2)]
 refine iter_inv (b29_1 a b T L lo hi W air spread) (fun i s=>s=(i:Int)∧∀ j,j<i→(0≤(W.getD j default).1∧(W.getD j default).1≤1000)∧(0≤(W.getD j default).2∧(W.getD j default).2≤1000)∧(W.getD j default).1≤(W.getD j default).2)
  (fun o=>∃ v:Int×Int,o=some v∧(v.2=0→BenOk a b T L lo hi W air spread)) W.length ?_ ?_ _ ⟨rfl,fun j hj=>absurd hj (by omega)⟩ _ (by omega)
 ·rintro i _ hi ⟨rfl,hall⟩
  simp only [b29_1,ltN hi,if_true,if_pos (rgN hi),Int.toNat_natCast,wS i (by omega),p59,bindC,Option.isSome_some,implies_true,Option.getD_some]
  by_cases w1:inR (W.getD i default).1 0 1000=true
  rotate_left
  ·rw [if_pos (by rw [eq_false_of_ne_true w1]; rfl)]; exact .inr ⟨_,rfl,_,rfl,fun h=>by cases h⟩
  by_cases w2:inR (W.getD i default).2 0 1000=true
  rotate_left
  ·rw [if_pos (by rw [w1,eq_false_of_ne_true w2]; rfl)]; exact .inr ⟨_,rfl,_,rfl,fun h=>by cases h⟩
  rw [if_neg (by rw [w1,w2]; decide)]
  by_cases w3:(W.getD i default).1>(W.getD i default).2
  ·rw [if_pos (by simpa using w3)]; exact .inr ⟨_,rfl,_,rfl,fun h=>by cases h⟩
  rw [if_neg (by simpa using w3)]
  refine .inl ⟨_,rfl,rfl,fun j hj=> ?_⟩
  by_cases hji:j=i
  ·subst hji; exact ⟨inR_iff'.1 w1,inR_iff'.1 w2,by omega⟩
  ·exact hall j (by omega)
 ·rintro _ ⟨rfl,hall⟩
  simp only [b29_1,geN,Bool.false_eq_true,if_false,isLaw _ _ _ _ _ _ _ _ _ _ hn,Option.bind_some,p59]
  refine ⟨_,rfl,?_⟩
  by_cases a1:inR air 0 ((L.length:Int) - 1)=true
  rotate_left
  ·rw [if_pos (by simp [a1])]; exact ⟨_,rfl,fun h=>by cases h⟩
  rw [if_neg (by simp [a1])]
  by_cases a2:inR spread 0 4=true
  rotate_left
  ·rw [if_pos (by simp [a2])]; exact ⟨_,rfl,fun h=>by cases h⟩
  rw [if_neg (by simp [a2])]
  refine ⟨_,rfl,fun _=>⟨boxOk_of c1,c1,c2,fun w hw=> ?_,?_,inR_iff'.1 a2⟩⟩
  ·obtain ⟨j,hj,rfl⟩:=List.getElem_of_mem hw
   have:=hall j hj
   rwa [List.getD_eq_getElem?_getD,List.getElem?_eq_getElem hj,Option.getD_some] at this
  ·have:=inR_iff'.1 a1; omega
theorem unl (c:Bool) (e:Int):r39 c e=some (codeIf c e):=by unfold r39 codeIf; cases c<;>rfl
theorem fst (l:List Int) (hl:l.length<1000000000):r38 l=some (firstV l):=by
 have h:=iter_list (τ:=Unit) l (b38_1 l) (fun i _=>i) (fun _ _ x=>if x=0 then .next () else .out (some x)) (fun _=>some 0) hl
  (fun i t hi=>by
   simp only [b38_1,ltN hi,if_true,if_pos (rgN hi),Int.toNat_natCast,wS i (by omega)]
   generalize l.getD i default=x
   by_cases hx:x=0<;>simp [hx,mapC])
  (fun t=>by simp [b38_1]) ()
 unfold r38
 rw [h]
 have:∀ (r:List Int) (i:Int),foldC (fun _ _ x=>if x=0 then Ctl.next () else .out (some x)) (fun _:Unit=>some 0) i r ()=some (firstV r):=by
  intro r
  induction r with
  | nil=>intro i; rfl
  | cons x r ih=>
   intro i
   by_cases hx:x=0
   ·simp only [foldC,hx,if_true,firstV]; exact ih _
   ·simp only [foldC,if_neg hx,firstV]
 exact this l 0
theorem fst3:r38 [0,0,0]=some 0:=fst [0,0,0] (by decide)
theorem wit (n lo hi:Int):r37 n lo hi=some (inR n lo hi):=(rfl)
theorem BenOk.few {a b:Int} {T:TL} {L:List TL} {lo hi:List Int} {W:TL} {air spread:Int} (B:BenOk a b T L lo hi W air spread):T.length<1000∧L.length<1000∧(∀ x∈L,x.length<1000)∧lo.length≤12∧hi.length≤12∧W.length≤12:=by
 have ok:=B.box.lo.ok
 have h1:=B.box.lo.len; have h2:=B.box.hi.len; have h3:=B.wlen; have h4:=ok.cells; have h5:=ok.tlen; have h6:=ok.llen
 refine ⟨by omega,by omega,fun x hx=> ?_,by omega,by omega,by omega⟩
 obtain ⟨j,hj,rfl⟩:=List.getElem_of_mem hx
 have:=(ok.laws j hj).len
 rw [List.getD_eq_getElem?_getD,List.getElem?_eq_getElem hj,Option.getD_some] at this
 omega
theorem benCode {a b:Int} {T:TL} {L:List TL} {lo hi:List Int} {W:TL} {air spread:Int} (B:BenOk a b T L lo hi W air spread):r87 a b T L lo hi W air spread=some (0,0):=by
 obtain ⟨f1,f2,f3,f4,f5,f6⟩:=B.few
 have s0:=B.box.lo.set0
 have hb:(boxErrV a T lo hi).2=0:=by have:=B.bx0; unfold bxErr at this; rwa [if_pos s0] at this
 unfold r87
 rw [p24 a b T L f2 f3,Option.bind_some,p39 a b T L lo hi f1 f2 f3 (by omega) (by omega),if_pos s0,Option.bind_some,unl,Option.bind_some,fst _ (by simp),Option.bind_some]
 have e0:firstV [(setupErrV a b T L).2,(boxErrV a T lo hi).2,codeIf ((W.length:Int) == a) 10]=0:=by
  rw [s0,hb,B.wlen]; simp [firstV,codeIf]
 rw [e0,if_neg (by decide)]
 refine iter_inv (b87_1 L W air spread) (fun i s=>s=(i:Int)) (fun o=>o=some (0,0)) W.length ?_ ?_ _ rfl _ (by omega)
 ·rintro i _ hi rfl
  have hw:=B.wts _ (getD_mem hi)
  have q1:inR (W.getD i default).1 0 1000=true:=inR_iff'.2 hw.1
  have q2:inR (W.getD i default).2 0 1000=true:=inR_iff'.2 hw.2.1
  have g:∀ n,r117 n=some (inR n 0 1000):=fun n=>by unfold r117; rw [wit]; rfl
  refine .inl ⟨((i+1:Nat):Int),?_,rfl⟩
  have e:firstV [(0:Int),0]=0:=rfl
  simp only [b87_1,ltN hi,if_true,if_pos (rgN hi),Int.toNat_natCast,wS i (by omega),g,unl,bindC,Option.isSome_some,implies_true,Option.getD_some,q1,q2,Bool.and_self,codeIf,decide_eq_true hw.2.2,fst _ (show [(0:Int),0].length<1000000000 by simp),e]
  rfl
 ·rintro _ rfl
  have q1:inR air 0 ((L.length:Int) - 1)=true:=inR_iff'.2 (by have:=B.air; omega)
  have q2:inR spread 0 4=true:=inR_iff'.2 B.spread
  refine ⟨some (0,0),?_,rfl⟩
  simp only [b87_1,geN,Bool.false_eq_true,if_false,wI1 f2,wit,unl,q1,q2,Option.bind_some,codeIf,if_true,fst _ (show [(0:Int),0].length<1000000000 by simp)]
  rfl
theorem openB {a b:Int} {T:TL} {L:List TL} {lo hi:List Int} {W:TL} {air spread:Int} (B:BenOk a b T L lo hi W air spread):r53 a b T L lo hi W air spread=some (a,b,T,L,lo,hi,W,air,spread,0):=by
 unfold r53
 rw [benCode B]; rfl
def TksOk (L:List TL) (t:TL):Prop:=t.length≤200∧∀ x∈t,(0≤x.1∧x.1≤10000)∧0≤x.2∧x.2<L.length
theorem tksRef (a b:Int) (T:TL) (L:List TL) (lo hi:List Int) (W:TL) (air spread:Int) (t:TL) (hn:L.length<1000) :
 ∃ v,r7 a b T L lo hi W air spread t=some v∧(v=0→TksOk L t):=by
 unfold r7
 by_cases c:(t.length:Int)>200
 ·rw [if_pos (by simpa using c)]; exact ⟨_,rfl,fun h=>by cases h⟩
 rw [if_neg (by simpa using c)]
 refine iter_inv (b7_1 a b T L lo hi W air spread t) (fun i s=>s=(i:Int)∧∀ j,j<i→(0≤(t.getD j default).1∧(t.getD j default).1≤10000)∧0≤(t.getD j default).2∧(t.getD j default).2<L.length)
  (fun o=>∃ v,o=some v∧(v=0→TksOk L t)) t.length ?_ ?_ _ ⟨rfl,fun j hj=>absurd hj (by omega)⟩ _ (by omega)
 ·rintro i _ hi ⟨rfl,hall⟩
  simp only [b7_1,ltN hi,if_true,if_pos (rgN hi),Int.toNat_natCast,wS i (by omega),p59,bindC,isLaw _ _ _ _ _ _ _ _ _ _ hn]
  by_cases w1:inR (t.getD i default).1 0 10000=true
  rotate_left
  ·rw [if_pos (by rw [eq_false_of_ne_true w1]; rfl)]; exact .inr ⟨_,rfl,_,rfl,fun h=>by cases h⟩
  rw [if_neg (by rw [w1]; decide)]
  by_cases w2:inR (t.getD i default).2 0 ((L.length:Int) - 1)=true
  rotate_left
  ·rw [if_pos (by rw [eq_false_of_ne_true w2]; rfl)]; exact .inr ⟨_,rfl,_,rfl,fun h=>by cases h⟩
  rw [if_neg (by rw [w2]; decide)]
  refine .inl ⟨_,rfl,rfl,fun j hj=> ?_⟩
  by_cases hji:j=i
  ·subst hji; have:=inR_iff'.1 w2; exact ⟨inR_iff'.1 w1,by omega,by omega⟩
  ·exact hall j (by omega)
 ·rintro _ ⟨rfl,hall⟩
  simp only [b7_1,geN,Bool.false_eq_true,if_false]
  refine ⟨_,rfl,_,rfl,fun _=>⟨by omega,fun x hx=> ?_⟩⟩
  obtain ⟨j,hj,rfl⟩:=List.getElem_of_mem hx
  have:=hall j hj
  rwa [List.getD_eq_getElem?_getD,List.getElem?_eq_getElem hj,Option.getD_some] at this
theorem last {a b:Int} {T:TL} {L:List TL} {lo hi:List Int} {W:TL} {air spread:Int} (hn:L.length<1000):r43 a b T L lo hi W air spread=some ((L.length:Int) - 1):=by
 unfold r43; rw [wI1 hn]
theorem openT {a b:Int} {T:TL} {L:List TL} {lo hi:List Int} {W:TL} {air spread:Int} (B:BenOk a b T L lo hi W air spread) {t:TL} (ht:TksOk L t):r36 a b T L lo hi W air spread t=some (a,b,T,L,lo,hi,W,air,spread,0):=by
 obtain ⟨f1,f2,f3,f4,f5,f6⟩:=B.few
 have ht1:=ht.1
 unfold r36
 rw [openB B,Option.bind_some,if_pos (by rfl)]
 have e:r67 a b T L lo hi W air spread t=some 0:=by
  unfold r67
  rw [unl,Option.bind_some]
  have c:codeIf (decide ((t.length:Int)≤200)) 8=0:=by rw [decide_eq_true (by omega)]; rfl
  rw [c]
  refine iter_inv (b67_1 a b T L lo hi W air spread t) (fun i s=>s=(0,(i:Int))) (fun o=>o=some 0) t.length ?_ ?_ _ rfl _ (by omega)
  ·rintro i _ hi rfl
   have hw:=ht.2 _ (getD_mem hi)
   have q1:inR (t.getD i default).1 0 10000=true:=inR_iff'.2 hw.1
   have q2:inR (t.getD i default).2 0 ((L.length:Int) - 1)=true:=inR_iff'.2 (by omega)
   refine .inl ⟨(0,((i+1:Nat):Int)),?_,rfl⟩
   simp only [b67_1,ltN hi,if_true,if_pos (rgN hi),Int.toNat_natCast,wS i (by omega)]
   rw [wit,q1]
   simp only [bindC,unl]
   rw [last f2]
   simp only [wit]
   rw [q2]
   simp only [unl,codeIf,if_true,fst3]
   rfl
  ·rintro _ rfl
   simp only [b67_1,geN,Bool.false_eq_true,if_false]
   exact ⟨_,rfl,rfl⟩
 simp only [e,Option.bind_some]
def pwV (W:TL) (p:Int):List Int:=W.map fun w=>p*((w.1+w.2) / 2) / 1000
theorem pw_rng {W:TL} (hW:∀ w∈W,(0≤w.1∧w.1≤1000)∧(0≤w.2∧w.2≤1000)∧w.1≤w.2) {p:Int} (hp:0≤p∧p≤10000):∀ x∈pwV W p,0≤x∧x≤10000:=by
 intro x hx
 obtain ⟨w,hw,rfl⟩:=List.mem_map.1 hx
 obtain ⟨h1,h2,h3⟩:=hW w hw
 have hm:0≤(w.1+w.2) / 2∧(w.1+w.2) / 2≤1000:=by omega
 have h4:0≤p*((w.1+w.2) / 2):=Int.mul_nonneg hp.1 hm.1
 have h5:p*((w.1+w.2) / 2)≤10000*1000:=Int.mul_le_mul hp.2 hm.2 hm.1 (by omega)
 omega
theorem pw1 {w:Int×Int} (hw:(0≤w.1∧w.1≤1000)∧(0≤w.2∧w.2≤1000)∧w.1≤w.2) {p:Int} (hp:0≤p∧p≤10000) :
 IntKind.i64.wrap (w.1+w.2)=w.1+w.2∧0≤(w.1+w.2) / 2∧(w.1+w.2) / 2≤1000∧IntKind.i64.wrap ((IntKind.i64.wrap (w.1+w.2)).tdiv 2)=(w.1+w.2) / 2∧IntKind.i64.wrap (p*((w.1+w.2) / 2))=p*((w.1+w.2) / 2)∧0≤p*((w.1+w.2) / 2)∧p*((w.1+w.2) / 2)≤10000000:=by
 obtain ⟨h1,h2,h3⟩:=hw
 have hm:0≤(w.1+w.2) / 2∧(w.1+w.2) / 2≤1000:=by omega
 have h4:0≤p*((w.1+w.2) / 2):=Int.mul_nonneg hp.1 hm.1
 have h5:p*((w.1+w.2) / 2)≤10000*1000:=Int.mul_le_mul hp.2 hm.2 hm.1 (by omega)
 have e1:IntKind.i64.wrap (w.1+w.2)=w.1+w.2:=IntWalk.i64_in _ ⟨by omega,by omega⟩
 refine ⟨e1,hm.1,hm.2,?_,IntWalk.i64_in _ ⟨by omega,by omega⟩,h4,by omega⟩
 rw [e1,Int.tdiv_eq_ediv_of_nonneg (by omega)]; exact IntWalk.i64_in _ ⟨by omega,by omega⟩
theorem driveC {W:TL} (hl:W.length<1000) (hW:∀ w∈W,(0≤w.1∧w.1≤1000)∧(0≤w.2∧w.2≤1000)∧w.1≤w.2) {p:Int} (hp:0≤p∧p≤10000) (a b:Int) (T:TL) (L:List TL) (lo hi:List Int) (air spread law:Int) :
 r68 a b T L lo hi W air spread p law=some (pwV W p,law):=by
 unfold r68
 refine iter_inv (b68_1 W p law) (fun i s=>s=((i:Int),(pwV W p).take i)) (fun o=>o=some (pwV W p,law)) W.length ?_ ?_ _ (by simp) _ (by omega)
 ·rintro i _ hi rfl
  have hw:=hW _ (getD_mem hi)
  obtain ⟨e1,m1,m2,e2,e3,h4,h5⟩:=pw1 hw hp
  refine .inl ⟨(((i+1:Nat):Int),(pwV W p).take (i+1)),?_,rfl⟩
  have hlen:((pwV W p).take i).length=i:=by simp [pwV]; omega
  simp only [b68_1,ltN hi,if_true,if_pos (rgN hi),Int.toNat_natCast,wS i (by omega),bindC,r69,hlen]
  rw [if_pos ⟨by omega,by omega⟩,e2,e3,Int.tdiv_eq_ediv_of_nonneg h4,IntWalk.i64_in _ ⟨by omega,by omega⟩]
  congr 2
  rw [List.take_add_one,List.getElem?_eq_getElem (by simpa [pwV] using hi)]
  simp [pwV,List.getD_eq_getElem?_getD,hi]
 ·rintro _ rfl
  refine ⟨some (pwV W p,law),?_,rfl⟩
  simp only [b68_1,geN,Bool.false_eq_true,if_false]
  rw [List.take_of_length_le (by simp [pwV])]
end Go.Proofs.YtlnlpncchgimgaaGreatDoor

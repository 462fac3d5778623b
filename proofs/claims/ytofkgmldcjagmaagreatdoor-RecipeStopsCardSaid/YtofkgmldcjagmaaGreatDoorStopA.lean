/- Benches: which are valid; the drive of a tick. -/
import Derived.Test.YtofkgmldcjagmaaGreatDoorF02
import Derived.Test.YtofkgmldcjagmaaGreatDoorF03
import Derived.Test.YtofkgmldcjagmaaGreatDoorF04
import Derived.Test.YtofkgmldcjagmaaGreatDoorF06
import Derived.Test.YtofkgmldcjagmaaGreatDoorF12
import Derived.Test.YtofkgmldcjagmaaGreatDoorF13
import Derived.Test.YtofkgmldcjagmaaGreatDoorHeatBx
import Derived.Test.YtofkgmldcjagmaaGreatDoorHeatG
set_option linter.unusedVariables false
set_option linter.unusedSimpArgs false
namespace Go.Proofs.YtofkgmldcjagmaaGreatDoor
open Go.Abs
abbrev TL:=List (Int×Int)
structure BenOk (a b:Int) (T:TL) (L:List TL) (lo hi:List Int) (W:TL) (air spread:Int):Prop where
 box:BoxOk a b T L lo hi
 bx0:bxErr a b T L lo hi=0
 wlen:(W.length:Int)=a
 wts:∀ w∈W,(0≤w.1∧w.1≤1000)∧(0≤w.2∧w.2≤1000)∧w.1≤w.2
 air:0≤air∧air<L.length
 spread:0≤spread∧spread≤4
theorem wI1 {n:Nat} (h:n<1000):IntKind.i64.wrap ((n:Int) - 1)=(n:Int) - 1:=IntWalk.i64_in _ ⟨by omega,by omega⟩
theorem inR_iff' {n lo hi:Int}:inR n lo hi=true↔lo≤n∧n≤hi:=by simp [inR]
theorem isLaw (a b:Int) (T:TL) (L:List TL) (lo hi:List Int) (W:TL) (air spread n:Int) (hn:L.length<1000):r47 a b T L lo hi W air spread n=some (inR n 0 ((L.length:Int) - 1)):=by
 unfold r47
 rw [wI1 hn,p59]; rfl
theorem unl (c:Bool) (e:Int):r39 c e=some (codeIf c e):=by unfold r39 codeIf; cases c<;>rfl
theorem fst (l:List Int) (hl:l.length<1000000000):r38 l=some (firstV l):=by
 have h:=iter_list (τ:=Unit) l (b38_1 l) (fun i _=>i) (fun _ _ x=>if x=0 then .next () else .out (some x)) (fun _=>some 0) hl
  (fun i t hi=>by
   simp only [b38_1,ltN hi,if_true,if_pos (rgN hi),Int.toNat_natCast,wS i (by omega)]
   generalize l.getD i default=x
   by_cases hx:x=0<;>simp [hx,mapC])
  (fun t=>by simp [b38_1]) ()
 unfold r38
 rw [h]
 have:∀ (r:List Int) (i:Int),foldC (fun _ _ x=>if x=0 then Ctl.next () else .out (some x)) (fun _:Unit=>some 0) i r ()=some (firstV r):=by
  intro r
  induction r with
  | nil=>intro i; rfl
  | cons x r ih=>
   intro i
   by_cases hx:x=0
   ·simp only [foldC,hx,if_true,firstV]; exact ih _
   ·simp only [foldC,if_neg hx,firstV]
 exact this l 0
theorem fst3:r38 [0,0,0]=some 0:=fst [0,0,0] (by decide)
theorem wit (n lo hi:Int):r37 n lo hi=some (inR n lo hi):=(rfl)
theorem BenOk.few {a b:Int} {T:TL} {L:List TL} {lo hi:List Int} {W:TL} {air spread:Int} (B:BenOk a b T L lo hi W air spread):T.length<1000∧L.length<1000∧(∀ x∈L,x.length<1000)∧lo.length≤12∧hi.length≤12∧W.length≤12:=by
 have ok:=B.box.lo.ok
 have h1:=B.box.lo.len; have h2:=B.box.hi.len; have h3:=B.wlen; have h4:=ok.cells; have h5:=ok.tlen; have h6:=ok.llen
 refine ⟨by omega,by omega,fun x hx=> ?_,by omega,by omega,by omega⟩
 obtain ⟨j,hj,rfl⟩:=List.getElem_of_mem hx
 have:=(ok.laws j hj).len
 rw [List.getD_eq_getElem?_getD,List.getElem?_eq_getElem hj,Option.getD_some] at this
 omega
theorem benCode {a b:Int} {T:TL} {L:List TL} {lo hi:List Int} {W:TL} {air spread:Int} (B:BenOk a b T L lo hi W air spread):r20 a b T L lo hi W air spread=some (0,0):=by
 obtain ⟨f1,f2,f3,f4,f5,f6⟩:=B.few
 have s0:=B.box.lo.set0
 have hb:(boxErrV a T lo hi).2=0:=by have:=B.bx0; unfold bxErr at this; rwa [if_pos s0] at this
 unfold r20
 rw [p24 a b T L f2 f3,Option.bind_some,p39 a b T L lo hi f1 f2 f3 (by omega) (by omega),if_pos s0,Option.bind_some,unl,Option.bind_some,fst _ (by simp),Option.bind_some]
 have e0:firstV [(setupErrV a b T L).2,(boxErrV a T lo hi).2,codeIf ((W.length:Int) == a) 10]=0:=by
  rw [s0,hb,B.wlen]; simp [firstV,codeIf]
 rw [e0,if_neg (by decide)]
 refine iter_inv (b20_1 L W air spread) (fun i s=>s=(i:Int)) (fun o=>o=some (0,0)) W.length ?_ ?_ _ rfl _ (by omega)
 ·rintro i _ hi rfl
  have hw:=B.wts _ (getD_mem hi)
  have q1:inR (W.getD i default).1 0 1000=true:=inR_iff'.2 hw.1
  have q2:inR (W.getD i default).2 0 1000=true:=inR_iff'.2 hw.2.1
  have g:∀ n,r55 n=some (inR n 0 1000):=fun n=>by unfold r55; rw [wit]; rfl
  refine .inl ⟨((i+1:Nat):Int),?_,rfl⟩
  have e:firstV [(0:Int),0]=0:=rfl
  simp only [b20_1,ltN hi,if_true,if_pos (rgN hi),Int.toNat_natCast,wS i (by omega),g,unl,bindC,Option.isSome_some,implies_true,Option.getD_some,q1,q2,Bool.and_self,codeIf,decide_eq_true hw.2.2,fst _ (show [(0:Int),0].length<1000000000 by simp),e]
  rfl
 ·rintro _ rfl
  have q1:inR air 0 ((L.length:Int) - 1)=true:=inR_iff'.2 (by have:=B.air; omega)
  have q2:inR spread 0 4=true:=inR_iff'.2 B.spread
  refine ⟨some (0,0),?_,rfl⟩
  simp only [b20_1,geN,Bool.false_eq_true,if_false,wI1 f2,wit,unl,q1,q2,Option.bind_some,codeIf,if_true,fst _ (show [(0:Int),0].length<1000000000 by simp)]
  rfl
theorem openB {a b:Int} {T:TL} {L:List TL} {lo hi:List Int} {W:TL} {air spread:Int} (B:BenOk a b T L lo hi W air spread):r61 a b T L lo hi W air spread=some (a,b,T,L,lo,hi,W,air,spread,0):=by
 unfold r61
 rw [benCode B]; rfl
def TksOk (L:List TL) (t:TL):Prop:=t.length≤200∧∀ x∈t,(0≤x.1∧x.1≤10000)∧0≤x.2∧x.2<L.length
theorem last {a b:Int} {T:TL} {L:List TL} {lo hi:List Int} {W:TL} {air spread:Int} (hn:L.length<1000):r43 a b T L lo hi W air spread=some ((L.length:Int) - 1):=by
 unfold r43; rw [wI1 hn]
theorem openT {a b:Int} {T:TL} {L:List TL} {lo hi:List Int} {W:TL} {air spread:Int} (B:BenOk a b T L lo hi W air spread) {t:TL} (ht:TksOk L t):r36 a b T L lo hi W air spread t=some (a,b,T,L,lo,hi,W,air,spread,0):=by
 obtain ⟨f1,f2,f3,f4,f5,f6⟩:=B.few
 have ht1:=ht.1
 unfold r36
 rw [openB B,Option.bind_some,if_pos (by rfl)]
 have e:r65 a b T L lo hi W air spread t=some 0:=by
  unfold r65
  rw [unl,Option.bind_some]
  have c:codeIf (decide ((t.length:Int)≤200)) 8=0:=by rw [decide_eq_true (by omega)]; rfl
  rw [c]
  refine iter_inv (b65_1 a b T L lo hi W air spread t) (fun i s=>s=(0,(i:Int))) (fun o=>o=some 0) t.length ?_ ?_ _ rfl _ (by omega)
  ·rintro i _ hi rfl
   have hw:=ht.2 _ (getD_mem hi)
   have q1:inR (t.getD i default).1 0 10000=true:=inR_iff'.2 hw.1
   have q2:inR (t.getD i default).2 0 ((L.length:Int) - 1)=true:=inR_iff'.2 (by omega)
   refine .inl ⟨(0,((i+1:Nat):Int)),?_,rfl⟩
   simp only [b65_1,ltN hi,if_true,if_pos (rgN hi),Int.toNat_natCast,wS i (by omega)]
   rw [wit,q1]
   simp only [bindC,unl]
   rw [last f2]
   simp only [wit]
   rw [q2]
   simp only [unl,codeIf,if_true,fst3]
   rfl
  ·rintro _ rfl
   simp only [b65_1,geN,Bool.false_eq_true,if_false]
   exact ⟨_,rfl,rfl⟩
 simp only [e,Option.bind_some]
def pwV (W:TL) (p:Int):List Int:=W.map fun w=>p*((w.1+w.2) / 2) / 1000
theorem pw_rng {W:TL} (hW:∀ w∈W,(0≤w.1∧w.1≤1000)∧(0≤w.2∧w.2≤1000)∧w.1≤w.2) {p:Int} (hp:0≤p∧p≤10000):∀ x∈pwV W p,0≤x∧x≤10000:=by
 intro x hx
 obtain ⟨w,hw,rfl⟩:=List.mem_map.1 hx
 obtain ⟨h1,h2,h3⟩:=hW w hw
 have hm:0≤(w.1+w.2) / 2∧(w.1+w.2) / 2≤1000:=by omega
 have h4:0≤p*((w.1+w.2) / 2):=Int.mul_nonneg hp.1 hm.1
 have h5:p*((w.1+w.2) / 2)≤10000*1000:=Int.mul_le_mul hp.2 hm.2 hm.1 (by omega)
 omega
theorem pw1 {w:Int×Int} (hw:(0≤w.1∧w.1≤1000)∧(0≤w.2∧w.2≤1000)∧w.1≤w.2) {p:Int} (hp:0≤p∧p≤10000) :
 IntKind.i64.wrap (w.1+w.2)=w.1+w.2∧0≤(w.1+w.2) / 2∧(w.1+w.2) / 2≤1000∧IntKind.i64.wrap ((IntKind.i64.wrap (w.1+w.2)).tdiv 2)=(w.1+w.2) / 2∧IntKind.i64.wrap (p*((w.1+w.2) / 2))=p*((w.1+w.2) / 2)∧0≤p*((w.1+w.2) / 2)∧p*((w.1+w.2) / 2)≤10000000:=by
 obtain ⟨h1,h2,h3⟩:=hw
 have hm:0≤(w.1+w.2) / 2∧(w.1+w.2) / 2≤1000:=by omega
 have h4:0≤p*((w.1+w.2) / 2):=Int.mul_nonneg hp.1 hm.1
 have h5:p*((w.1+w.2) / 2)≤10000*1000:=Int.mul_le_mul hp.2 hm.2 hm.1 (by omega)
 have e1:IntKind.i64.wrap (w.1+w.2)=w.1+w.2:=IntWalk.i64_in _ ⟨by omega,by omega⟩
 refine ⟨e1,hm.1,hm.2,?_,IntWalk.i64_in _ ⟨by omega,by omega⟩,h4,by omega⟩
 rw [e1,Int.tdiv_eq_ediv_of_nonneg (by omega)]; exact IntWalk.i64_in _ ⟨by omega,by omega⟩
theorem driveC {W:TL} (hl:W.length<1000) (hW:∀ w∈W,(0≤w.1∧w.1≤1000)∧(0≤w.2∧w.2≤1000)∧w.1≤w.2) {p:Int} (hp:0≤p∧p≤10000) (a b:Int) (T:TL) (L:List TL) (lo hi:List Int) (air spread law:Int) :
 r74 a b T L lo hi W air spread p law 75=some (pwV W p,law):=by
 unfold r74
 refine iter_inv (b74_1 W p law 75) (fun i s=>s=((i:Int),(pwV W p).take i)) (fun o=>o=some (pwV W p,law)) W.length ?_ ?_ _ (by simp) _ (by omega)
 ·rintro i _ hi rfl
  have hw:=hW _ (getD_mem hi)
  obtain ⟨e1,m1,m2,e2,e3,h4,h5⟩:=pw1 hw hp
  refine .inl ⟨(((i+1:Nat):Int),(pwV W p).take (i+1)),?_,rfl⟩
  have hlen:((pwV W p).take i).length=i:=by simp [pwV]; omega
  simp only [b74_1,ltN hi,if_true,if_pos (rgN hi),Int.toNat_natCast,wS i (by omega),if_neg (show ¬ (75:Nat)=89 by decide),bindC,r75,hlen]
  rw [if_pos ⟨by omega,by omega⟩,e2,e3,Int.tdiv_eq_ediv_of_nonneg h4,IntWalk.i64_in _ ⟨by omega,by omega⟩]
  congr 2
  rw [List.take_add_one,List.getElem?_eq_getElem (by simpa [pwV] using hi)]
  simp [pwV,List.getD_eq_getElem?_getD,hi]
 ·rintro _ rfl
  refine ⟨some (pwV W p,law),?_,rfl⟩
  simp only [b74_1,geN,Bool.false_eq_true,if_false]
  rw [List.take_of_length_le (by simp [pwV])]
end Go.Proofs.YtofkgmldcjagmaaGreatDoor

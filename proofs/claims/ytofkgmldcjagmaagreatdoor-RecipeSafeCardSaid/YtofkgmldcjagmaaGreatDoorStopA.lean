/- Benches: which are valid; the drive of a tick. -/
import Derived.Test.YtofkgmldcjagmaaGreatDoorF02
import Derived.Test.YtofkgmldcjagmaaGreatDoorF03
import Derived.Test.YtofkgmldcjagmaaGreatDoorF04
import Derived.Test.YtofkgmldcjagmaaGreatDoorF06
import Derived.Test.YtofkgmldcjagmaaGreatDoorF12
import Derived.Test.YtofkgmldcjagmaaGreatDoorHeatBx
import Derived.Test.YtofkgmldcjagmaaGreatDoorHeatG
set_option linter.unusedVariables false
set_option linter.unusedSimpArgs false
namespace Go.Proofs.YtofkgmldcjagmaaGreatDoor
open Go.dG
abbrev TL:=List (Int×Int)
structure lM (a b:Int) (T:TL) (L:List TL) (lo hi:List Int) (W:TL) (dZ spread:Int):Prop where
 box:BoxOk a b T L lo hi
 bx0:jA a b T L lo hi=0
 acS:(W.length:Int)=a
 wts:∀ w∈W,(0≤w.1∧w.1≤1000)∧(0≤w.2∧w.2≤1000)∧w.1≤w.2
 dZ:0≤dZ∧dZ<L.length
 spread:0≤spread∧spread≤4
theorem wI1 {n:Nat} (h:n<1000):IntKind.i64.wrap ((n:Int) - 1)=(n:Int) - 1:=IntWalk.i64_in _ ⟨by omega,by omega⟩
theorem dJ {n lo hi:Int}:dR n lo hi=true↔lo≤n∧n≤hi:=by simp [dR]
theorem agA (a b:Int) (T:TL) (L:List TL) (lo hi:List Int) (W:TL) (dZ spread n:Int) (hn:L.length<1000):r47 a b T L lo hi W dZ spread n=some (dR n 0 ((L.length:Int) - 1)):=by
 unfold r47
 rw [wI1 hn,p59]; rfl
theorem V6 (c:Bool) (e:Int):lJ c e=some (bQ c e):=by unfold lJ bQ; cases c<;>rfl
theorem fst (l:List Int) (hl:l.length<1000000000):vP l=some (dh l):=by
 have h:=lg (τ:=Unit) l (G8 l) (fun i _=>i) (fun _ _ x=>if x=0 then .next () else .out (some x)) (fun _=>some 0) hl
  (fun i t hi=>by
   simp only [G8,oz hi,if_true,if_pos (lF hi),Int.toNat_natCast,wS i (by omega)]
   generalize l.getD i default=x
   by_cases hx:x=0<;>simp [hx,Df])
  (fun t=>by simp [G8]) ()
 unfold vP
 rw [h]
 have:∀ (r:List Int) (i:Int),jy (fun _ _ x=>if x=0 then gK.next () else .out (some x)) (fun _:Unit=>some 0) i r ()=some (dh r):=by
  intro r
  induction r with
  | nil=>intro i; rfl
  | cons x r ih=>
   intro i
   by_cases hx:x=0
   ·simp only [jy,hx,if_true,dh]; exact ih _
   ·simp only [jy,if_neg hx,dh]
 exact this l 0
theorem aAY:vP [0,0,0]=some 0:=fst [0,0,0] (by decide)
theorem wit (n lo hi:Int):yJ n lo hi=some (dR n lo hi):=(rfl)
theorem lM.few {a b:Int} {T:TL} {L:List TL} {lo hi:List Int} {W:TL} {dZ spread:Int} (B:lM a b T L lo hi W dZ spread):T.length<1000∧L.length<1000∧(∀ x∈L,x.length<1000)∧lo.length≤12∧hi.length≤12∧W.length≤12:=by
 have ok:=B.box.lo.ok
 have h1:=B.box.lo.len; have h2:=B.box.hi.len; have h3:=B.acS; have h4:=ok.cells; have h5:=ok.BG; have h6:=ok.llen
 refine ⟨by omega,by omega,fun x hx=> ?_,by omega,by omega,by omega⟩
 obtain ⟨j,hj,rfl⟩:=List.getElem_of_mem hx
 have:=(ok.laws j hj).len
 rw [List.getD_eq_getElem?_getD,List.getElem?_eq_getElem hj,Option.getD_some] at this
 omega
theorem afv {a b:Int} {T:TL} {L:List TL} {lo hi:List Int} {W:TL} {dZ spread:Int} (B:lM a b T L lo hi W dZ spread):r20 a b T L lo hi W dZ spread=some (0,0):=by
 obtain ⟨f1,f2,f3,f4,f5,f6⟩:=B.few
 have s0:=B.box.lo.set0
 have hb:(jO a T lo hi).2=0:=by have:=B.bx0; unfold jA at this; rwa [if_pos s0] at this
 unfold r20
 rw [p24 a b T L f2 f3,Option.bind_some,p39 a b T L lo hi f1 f2 f3 (by omega) (by omega),if_pos s0,Option.bind_some,V6,Option.bind_some,fst _ (by simp),Option.bind_some]
 have e0:dh [(bn a b T L).2,(jO a T lo hi).2,bQ ((W.length:Int) == a) 10]=0:=by
  rw [s0,hb,B.acS]; simp [dh,bQ]
 rw [e0,if_neg (by decide)]
 refine fQ (yG L W dZ spread) (fun i s=>s=(i:Int)) (fun o=>o=some (0,0)) W.length ?_ ?_ _ rfl _ (by omega)
 ·rintro i _ hi rfl
  have hw:=B.wts _ (getD_mem hi)
  have q1:dR (W.getD i default).1 0 1000=true:=dJ.2 hw.1
  have q2:dR (W.getD i default).2 0 1000=true:=dJ.2 hw.2.1
  have g:∀ n,Yr n=some (dR n 0 1000):=fun n=>by unfold Yr; rw [wit]; rfl
  refine .inl ⟨((i+1:Nat):Int),?_,rfl⟩
  have e:dh [(0:Int),0]=0:=rfl
  simp only [yG,oz hi,if_true,if_pos (lF hi),Int.toNat_natCast,wS i (by omega),g,V6,aP,Option.isSome_some,implies_true,Option.getD_some,q1,q2,Bool.and_self,bQ,decide_eq_true hw.2.2,fst _ (show [(0:Int),0].length<1000000000 by simp),e]
  rfl
 ·rintro _ rfl
  have q1:dR dZ 0 ((L.length:Int) - 1)=true:=dJ.2 (by have:=B.dZ; omega)
  have q2:dR spread 0 4=true:=dJ.2 B.spread
  refine ⟨some (0,0),?_,rfl⟩
  simp only [yG,geN,Bool.false_eq_true,if_false,wI1 f2,wit,V6,q1,q2,Option.bind_some,bQ,if_true,fst _ (show [(0:Int),0].length<1000000000 by simp)]
  rfl
theorem asa {a b:Int} {T:TL} {L:List TL} {lo hi:List Int} {W:TL} {dZ spread:Int} (B:lM a b T L lo hi W dZ spread):r61 a b T L lo hi W dZ spread=some (a,b,T,L,lo,hi,W,dZ,spread,0):=by
 unfold r61
 rw [afv B]; rfl
def vk (L:List TL) (t:TL):Prop:=t.length≤200∧∀ x∈t,(0≤x.1∧x.1≤10000)∧0≤x.2∧x.2<L.length
theorem last {a b:Int} {T:TL} {L:List TL} {lo hi:List Int} {W:TL} {dZ spread:Int} (hn:L.length<1000):r43 a b T L lo hi W dZ spread=some ((L.length:Int) - 1):=by
 unfold r43; rw [wI1 hn]
theorem ar' {a b:Int} {T:TL} {L:List TL} {lo hi:List Int} {W:TL} {dZ spread:Int} (B:lM a b T L lo hi W dZ spread) {t:TL} (ht:vk L t):r36 a b T L lo hi W dZ spread t=some (a,b,T,L,lo,hi,W,dZ,spread,0):=by
 obtain ⟨f1,f2,f3,f4,f5,f6⟩:=B.few
 have ht1:=ht.1
 unfold r36
 rw [asa B,Option.bind_some,if_pos (by rfl)]
 have e:r65 a b T L lo hi W dZ spread t=some 0:=by
  unfold r65
  rw [V6,Option.bind_some]
  have c:bQ (decide ((t.length:Int)≤200)) 8=0:=by rw [decide_eq_true (by omega)]; rfl
  rw [c]
  refine fQ (yF a b T L lo hi W dZ spread t) (fun i s=>s=(0,(i:Int))) (fun o=>o=some 0) t.length ?_ ?_ _ rfl _ (by omega)
  ·rintro i _ hi rfl
   have hw:=ht.2 _ (getD_mem hi)
   have q1:dR (t.getD i default).1 0 10000=true:=dJ.2 hw.1
   have q2:dR (t.getD i default).2 0 ((L.length:Int) - 1)=true:=dJ.2 (by omega)
   refine .inl ⟨(0,((i+1:Nat):Int)),?_,rfl⟩
   simp only [yF,oz hi,if_true,if_pos (lF hi),Int.toNat_natCast,wS i (by omega)]
   rw [wit,q1]
   simp only [aP,V6]
   rw [last f2]
   simp only [wit]
   rw [q2]
   simp only [V6,bQ,if_true,aAY]
   rfl
  ·rintro _ rfl
   simp only [yF,geN,Bool.false_eq_true,if_false]
   exact ⟨_,rfl,rfl⟩
 simp only [e,Option.bind_some]
def uH (W:TL) (p:Int):List Int:=W.map fun w=>p*((w.1+w.2) / 2) / 1000
theorem aio {W:TL} (hW:∀ w∈W,(0≤w.1∧w.1≤1000)∧(0≤w.2∧w.2≤1000)∧w.1≤w.2) {p:Int} (hp:0≤p∧p≤10000):∀ x∈uH W p,0≤x∧x≤10000:=by
 intro x hx
 obtain ⟨w,hw,rfl⟩:=List.mem_map.1 hx
 obtain ⟨h1,h2,h3⟩:=hW w hw
 have hm:0≤(w.1+w.2) / 2∧(w.1+w.2) / 2≤1000:=by omega
 have h4:0≤p*((w.1+w.2) / 2):=Int.mul_nonneg hp.1 hm.1
 have h5:p*((w.1+w.2) / 2)≤10000*1000:=Int.mul_le_mul hp.2 hm.2 hm.1 (by omega)
 omega
theorem pw1 {w:Int×Int} (hw:(0≤w.1∧w.1≤1000)∧(0≤w.2∧w.2≤1000)∧w.1≤w.2) {p:Int} (hp:0≤p∧p≤10000) :
 IntKind.i64.wrap (w.1+w.2)=w.1+w.2∧0≤(w.1+w.2) / 2∧(w.1+w.2) / 2≤1000∧IntKind.i64.wrap ((IntKind.i64.wrap (w.1+w.2)).tdiv 2)=(w.1+w.2) / 2∧IntKind.i64.wrap (p*((w.1+w.2) / 2))=p*((w.1+w.2) / 2)∧0≤p*((w.1+w.2) / 2)∧p*((w.1+w.2) / 2)≤10000000:=by
 obtain ⟨h1,h2,h3⟩:=hw
 have hm:0≤(w.1+w.2) / 2∧(w.1+w.2) / 2≤1000:=by omega
 have h4:0≤p*((w.1+w.2) / 2):=Int.mul_nonneg hp.1 hm.1
 have h5:p*((w.1+w.2) / 2)≤10000*1000:=Int.mul_le_mul hp.2 hm.2 hm.1 (by omega)
 have e1:IntKind.i64.wrap (w.1+w.2)=w.1+w.2:=IntWalk.i64_in _ ⟨by omega,by omega⟩
 refine ⟨e1,hm.1,hm.2,?_,IntWalk.i64_in _ ⟨by omega,by omega⟩,h4,by omega⟩
 rw [e1,Int.tdiv_eq_ediv_of_nonneg (by omega)]; exact IntWalk.i64_in _ ⟨by omega,by omega⟩
theorem ajR {W:TL} (hl:W.length<1000) (hW:∀ w∈W,(0≤w.1∧w.1≤1000)∧(0≤w.2∧w.2≤1000)∧w.1≤w.2) {p:Int} (hp:0≤p∧p≤10000) (a b:Int) (T:TL) (L:List TL) (lo hi:List Int) (dZ spread law:Int) :
 JO a b T L lo hi W dZ spread p law 75=some (uH W p,law):=by
 unfold JO
 refine fQ (uZ W p law 75) (fun i s=>s=((i:Int),(uH W p).take i)) (fun o=>o=some (uH W p,law)) W.length ?_ ?_ _ (by simp) _ (by omega)
 ·rintro i _ hi rfl
  have hw:=hW _ (getD_mem hi)
  obtain ⟨e1,m1,m2,e2,e3,h4,h5⟩:=pw1 hw hp
  refine .inl ⟨(((i+1:Nat):Int),(uH W p).take (i+1)),?_,rfl⟩
  have hlen:((uH W p).take i).length=i:=by simp [uH]; omega
  simp only [uZ,oz hi,if_true,if_pos (lF hi),Int.toNat_natCast,wS i (by omega),if_neg (show ¬ (75:Nat)=89 by decide),aP,r75,hlen]
  rw [if_pos ⟨by omega,by omega⟩,e2,e3,Int.tdiv_eq_ediv_of_nonneg h4,IntWalk.i64_in _ ⟨by omega,by omega⟩]
  congr 2
  rw [List.take_add_one,List.getElem?_eq_getElem (by simpa [uH] using hi)]
  simp [uH,List.getD_eq_getElem?_getD,hi]
 ·rintro _ rfl
  refine ⟨some (uH W p,law),?_,rfl⟩
  simp only [uZ,geN,Bool.false_eq_true,if_false]
  rw [List.take_of_length_le (by simp [uH])]
end Go.Proofs.YtofkgmldcjagmaaGreatDoor

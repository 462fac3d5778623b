/- Spans and curves of ticks, by the code and by the reference. -/
import Derived.Test.YtofkgmldcjagmaaGreatDoorF03
import Derived.Test.YtofkgmldcjagmaaGreatDoorF04
import Derived.Test.YtofkgmldcjagmaaGreatDoorF06
import Derived.Test.YtofkgmldcjagmaaGreatDoorF21
import Derived.Test.YtofkgmldcjagmaaGreatDoorF23
import Derived.Test.YtofkgmldcjagmaaGreatDoorRcpBx
import Derived.Test.YtofkgmldcjagmaaGreatDoorRcpA
set_option linter.unusedVariables false
set_option linter.unusedSimpArgs false
namespace Go.Proofs.YtofkgmldcjagmaaGreatDoor
open Go.dJ
def rH (f:Int×Int→Int) (W:TL) (p:Int):List Int:=W.map fun w=>p*f w / 1000
def iw (W:TL) (p:Int):TL:=W.map fun w=>(p*w.1 / 1000,p*w.2 / 1000)
def rD (n sp x:Int):Int×Int:=(if 0<x - sp then x - sp else 0,if x+sp<n - 1 then x+sp else n - 1)
def wG (n sp:Int) (W:TL) (x:Int×Int):TL×Int×Int:=(iw W x.1,rD n sp x.2)
def dK (n sp:Int) (W t:TL):List (TL×Int×Int):=t.map (wG n sp W)
theorem pw2 {v p:Int} (hv:0≤v∧v≤1000) (hp:0≤p∧p≤10000):IntKind.i64.wrap (p*v)=p*v∧0≤p*v∧p*v≤10000000∧0≤p*v / 1000∧p*v / 1000≤10000:=by
 have h1:0≤p*v:=Int.mul_nonneg hp.1 hv.1
 have h2:p*v≤10000*1000:=Int.mul_le_mul hp.2 hv.2 hv.1 (by decide)
 exact ⟨IntWalk.i64_in _ ⟨by omega,by omega⟩,h1,by omega,by omega,by omega⟩
theorem aaO {k:Nat} {f:Int×Int→Int} (hk:(k=88∧f=fun w=>w.1)∨(k=89∧f=fun w=>w.2)) {W:TL} (hl:W.length<1000) (hW:∀ w∈W,(0≤w.1∧w.1≤1000)∧(0≤w.2∧w.2≤1000)∧w.1≤w.2) {p:Int} (hp:0≤p∧p≤10000) (a b:Int) (T:TL) (L:List TL) (lo hi:List Int) (gV spread law:Int) :
 VZ a b T L lo hi W gV spread p law k=some (rH f W p,law):=by
 unfold VZ
 refine iF (DW W p law k) (fun i s=>s=((i:Int),(rH f W p).take i)) (fun o=>o=some (rH f W p,law)) W.length ?_ ?_ _ (by simp) _ (by omega)
 ·rintro i _ hi rfl
  have hw:=hW _ (getD_mem hi)
  have hf:0≤f (W.getD i default)∧f (W.getD i default)≤1000:=by rcases hk with ⟨_,rfl⟩ | ⟨_,rfl⟩<;>simp only<;>omega
  obtain ⟨e1,m1,m2,m3,m4⟩:=pw2 hf hp
  refine .inl ⟨(((i+1:Nat):Int),(rH f W p).take (i+1)),?_,rfl⟩
  have hlen:((rH f W p).take i).length=i:=by simp [rH]; omega
  have et:(rH f W p).take (i+1)=(rH f W p).take i++[p*f (W.getD i default) / 1000]:=by
   rw [List.take_add_one,List.getElem?_eq_getElem (by simpa [rH] using hi)]
   simp [rH,List.getD_eq_getElem?_getD,hi]
  have e2:IntKind.i64.wrap ((p*f (W.getD i default)).tdiv 1000)=p*f (W.getD i default) / 1000:=by
   rw [Int.tdiv_eq_ediv_of_nonneg m1]; exact IntWalk.i64_in _ ⟨by omega,by omega⟩
  rcases hk with ⟨rfl,rfl⟩ | ⟨rfl,rfl⟩
  ·simp only [DW,nO hi,if_true,if_pos (kY hi),Int.toNat_natCast,wS i (by omega),if_neg (show ¬ (88:Nat)=89 by decide),if_neg (show ¬ (88:Nat)=75 by decide),aP,r88,hlen,e1,e2,et]
   rw [if_pos ⟨by omega,by omega⟩]; rfl
  ·simp only [DW,nO hi,if_true,if_pos (kY hi),Int.toNat_natCast,wS i (by omega),aP,r89,hlen,e1,e2,et]
   rw [if_pos ⟨by omega,by omega⟩]; rfl
 ·rintro _ rfl
  refine ⟨some (rH f W p,law),?_,rfl⟩
  simp only [DW,XU,Bool.false_eq_true,if_false]
  rw [List.take_of_length_le (by simp [rH])]
theorem aro {k:Int} {f:Int×Int→Int} (hk:(k= -1∧f=fun w=>w.1)∨(k=1∧f=fun w=>w.2)) {W:TL} (hl:W.length<1000) (hW:∀ w∈W,(0≤w.1∧w.1≤1000)∧(0≤w.2∧w.2≤1000)∧w.1≤w.2) {p:Int} (hp:0≤p∧p≤10000) (a b:Int) (T:TL) (L:List TL) (lo hi:List Int) (gV spread:Int) :
 r59 a b T L lo hi W gV spread p k=some (rH f W p):=by
 unfold r59
 refine iF (DX W p k) (fun i s=>s=((rH f W p).take i,(i:Int))) (fun o=>o=some (rH f W p)) W.length ?_ ?_ _ (by simp) _ (by omega)
 ·rintro i _ hi rfl
  have hw:=hW _ (getD_mem hi)
  have hf:0≤f (W.getD i default)∧f (W.getD i default)≤1000:=by rcases hk with ⟨_,rfl⟩ | ⟨_,rfl⟩<;>simp only<;>omega
  obtain ⟨e1,m1,m2,m3,m4⟩:=pw2 hf hp
  have x0:IntKind.i64.wrap ((W.getD i default).1+(W.getD i default).2)=(W.getD i default).1+(W.getD i default).2:=IntWalk.i64_in _ ⟨by omega,by omega⟩
  have x1:Ko ((W.getD i default).1+(W.getD i default).2) 2=some (((W.getD i default).1+(W.getD i default).2) / 2):=adT _ 2 (by decide) (by omega) (by omega)
  have x2:Ko (p*f (W.getD i default)) 1000=some (p*f (W.getD i default) / 1000):=adT _ 1000 (by decide) (by omega) (by omega)
  have hlen:((rH f W p).take i).length=i:=by simp [rH]; omega
  have et:(rH f W p).take (i+1)=(rH f W p).take i++[p*f (W.getD i default) / 1000]:=by
   rw [List.take_add_one,List.getElem?_eq_getElem (by simpa [rH] using hi)]
   simp [rH,List.getD_eq_getElem?_getD,hi]
  refine .inl ⟨((rH f W p).take (i+1),((i+1:Nat):Int)),?_,rfl⟩
  rcases hk with ⟨rfl,rfl⟩ | ⟨rfl,rfl⟩
  ·have z1:decide ((-1:Int)<0)=true:=rfl
   have z2:decide ((-1:Int)>0)=false:=rfl
   simp only [DX,nO hi,if_true,if_pos (kY hi),Int.toNat_natCast,wS i (by omega),x0,x1,aP,z1,z2,Bool.false_eq_true,if_false,e1,x2,hlen,et]
   rw [if_pos ⟨by omega,by omega⟩]; rfl
  ·have z1:decide ((1:Int)<0)=false:=rfl
   have z2:decide ((1:Int)>0)=true:=rfl
   simp only [DX,nO hi,if_true,if_pos (kY hi),Int.toNat_natCast,wS i (by omega),x0,x1,aP,z1,z2,Bool.false_eq_true,if_false,e1,x2,hlen,et]
   rw [if_pos ⟨by omega,by omega⟩]; rfl
 ·rintro _ rfl
  refine ⟨some (rH f W p),?_,rfl⟩
  simp only [DX,XU,Bool.false_eq_true,if_false]
  rw [List.take_of_length_le (by simp [rH])]
theorem Ag (f:Int×Int→Int) (W:TL) (p:Int):(rH f W p).length=W.length:=by simp [rH]
theorem UE (f:Int×Int→Int) (W:TL) (p:Int) {i:Nat} (h:i<W.length):(rH f W p).getD i default=p*f (W.getD i default) / 1000:=by
 simp [rH,List.getD_eq_getElem?_getD,h]
theorem BQ (W:TL) (p:Int) {i:Nat} (h:i<W.length):(iw W p).take (i+1)=(iw W p).take i++[(p*(W.getD i default).1 / 1000,p*(W.getD i default).2 / 1000)]:=by
 rw [List.take_add_one,List.getElem?_eq_getElem (by simpa [iw] using h)]
 simp [iw,List.getD_eq_getElem?_getD,h]
theorem ahD {W:TL} (hl:W.length<1000) (sp p:Int) (t:TL) (s1:List (TL×Int×Int)×Int) (l1 l2 v3:Int) {ρ:gy (List (TL×Int×Int)×Int) (List (TL×Int×Int))}
 (h:DY sp t s1 (rH (fun w=>w.1) W p,l1) (rH (fun w=>w.2) W p,l2) v3 ((W.length:Int),iw W p)= .out (some ρ)) :
 aS (DY sp t s1 (rH (fun w=>w.1) W p,l1) (rH (fun w=>w.2) W p,l2) v3) 1000000000 (0,[])=some ρ:=by
 refine iF _ (fun i s=>s=((i:Int),(iw W p).take i)) (fun o=>o=some ρ) W.length ?_ ?_ _ (by simp) _ (by omega)
 ·rintro i _ hi rfl
  have hlen:((iw W p).take i).length=i:=by simp [iw]; omega
  have g1:decide ((i:Int)<(W.length:Int))=true:=by simpa using hi
  refine .inl ⟨(((i+1:Nat):Int),(iw W p).take (i+1)),?_,rfl⟩
  simp only [DY,Ag,g1,if_true,if_pos (show 0≤(i:Int)∧(i:Int)<(W.length:Int) by omega),Int.toNat_natCast,wS i (by omega),hlen,UE _ _ _ hi,BQ _ _ hi]
  rw [if_pos ⟨by omega,by omega⟩]; rfl
 ·rintro _ rfl
  rw [List.take_of_length_le (by simp [iw])]
  exact ⟨_,h,rfl⟩
theorem ahC {W:TL} (hl:W.length<1000) (sp p:Int) (L:List TL) (t:TL) (s1:List (TL×Int×Int)×Int) {ρ:gy (List (TL×Int×Int)×Int) (List (TL×Int×Int))}
 (h:DZ L sp t s1 (rH (fun w=>w.1) W p) (rH (fun w=>w.2) W p) (iw W p |> fun x=>((W.length:Int),x))= .out (some ρ)) :
 aS (DZ L sp t s1 (rH (fun w=>w.1) W p) (rH (fun w=>w.2) W p)) 1000000000 (0,[])=some ρ:=by
 refine iF _ (fun i s=>s=((i:Int),(iw W p).take i)) (fun o=>o=some ρ) W.length ?_ ?_ _ (by simp) _ (by omega)
 ·rintro i _ hi rfl
  have hlen:((iw W p).take i).length=i:=by simp [iw]; omega
  have g1:decide ((i:Int)<(W.length:Int))=true:=by simpa using hi
  refine .inl ⟨(((i+1:Nat):Int),(iw W p).take (i+1)),?_,rfl⟩
  simp only [DZ,Ag,g1,if_true,if_pos (show 0≤(i:Int)∧(i:Int)<(W.length:Int) by omega),Int.toNat_natCast,wS i (by omega),hlen,UE _ _ _ hi,BQ _ _ hi]
  rw [if_pos ⟨by omega,by omega⟩]; rfl
 ·rintro _ rfl
  rw [List.take_of_length_le (by simp [iw])]
  exact ⟨_,h,rfl⟩
section
variable {a b:Int} {T:TL} {L:List TL} {lo hi:List Int} {W:TL} {gV spread:Int}
theorem ET (n sp:Int) (W t:TL) {i:Nat} (h:i<t.length):(dK n sp W t).take (i+1)=(dK n sp W t).take i++[wG n sp W (t.getD i default)]:=by
 rw [List.take_add_one,List.getElem?_eq_getElem (by simpa [dK] using h)]
 simp [dK,List.getD_eq_getElem?_getD,h]
theorem Yj (B:uU a b T L lo hi W gV spread) {t:TL} (ht:GR L t):r56 a b T L lo hi W gV spread t=some (dK L.length spread W t):=by
 obtain ⟨f1,f2,f3,f4,f5,f6⟩:=B.few
 have ht1:=ht.1
 have hs:=B.spread
 unfold r56
 refine iF (Gj a b T L lo hi W gV spread t) (fun i s=>s=((dK L.length spread W t).take i,(i:Int))) (fun o=>o=some (dK L.length spread W t)) t.length ?_ ?_ _ (by simp) _ (by omega)
 ·rintro i _ hi' rfl
  have hx:=ht.2 _ (getD_mem hi')
  have hlen:((dK L.length spread W t).take i).length=i:=by simp [dK]; omega
  refine .inl ⟨((dK L.length spread W t).take (i+1),((i+1:Nat):Int)),?_,rfl⟩
  simp only [Gj,nO hi',if_true,if_pos (kY hi'),Int.toNat_natCast,aaO (.inl ⟨rfl,rfl⟩) (show W.length<1000 by omega) B.wts hx.1,aaO (.inr ⟨rfl,rfl⟩) (show W.length<1000 by omega) B.wts hx.1,aP,last f2]
  rw [ahD (by omega) spread (t.getD i default).1 t _ _ _ _ (ρ:= .next ((dK L.length spread W t).take (i+1),((i+1:Nat):Int)))]
  ·rfl
  ·have g0:decide ((W.length:Int)<(W.length:Int))=false:=by simp
   have e1:IntKind.i64.wrap ((t.getD i default).2 - spread)=(t.getD i default).2 - spread:=IntWalk.i64_in _ ⟨by omega,by omega⟩
   have e2:IntKind.i64.wrap ((t.getD i default).2+spread)=(t.getD i default).2+spread:=IntWalk.i64_in _ ⟨by omega,by omega⟩
   simp only [DY,Ag,g0,Bool.false_eq_true,if_false,Int.toNat_natCast,e1,e2,wS i (by omega),hlen]
   rw [if_pos ⟨by omega,by omega⟩,ET _ _ _ _ hi']
   rfl
 ·rintro _ rfl
  refine ⟨_,?_,rfl⟩
  simp only [Gj,XU,Bool.false_eq_true,if_false]
  rw [List.take_of_length_le (by simp [dK])]
theorem Yi (B:uU a b T L lo hi W gV spread) {t:TL} (ht:GR L t):Yz a b T L lo hi W gV spread t=some (dK L.length spread W t):=by
 obtain ⟨f1,f2,f3,f4,f5,f6⟩:=B.few
 have ht1:=ht.1
 have hs:=B.spread
 unfold Yz
 refine iF (Gv a b T L lo hi W gV spread t) (fun i s=>s=((dK L.length spread W t).take i,(i:Int))) (fun o=>o=some (dK L.length spread W t)) t.length ?_ ?_ _ (by simp) _ (by omega)
 ·rintro i _ hi' rfl
  have hx:=ht.2 _ (getD_mem hi')
  have hlen:((dK L.length spread W t).take i).length=i:=by simp [dK]; omega
  refine .inl ⟨((dK L.length spread W t).take (i+1),((i+1:Nat):Int)),?_,rfl⟩
  simp only [Gv,nO hi',if_true,if_pos (kY hi'),Int.toNat_natCast,aro (.inl ⟨rfl,rfl⟩) (show W.length<1000 by omega) B.wts hx.1,aro (.inr ⟨rfl,rfl⟩) (show W.length<1000 by omega) B.wts hx.1,aP]
  rw [ahC (by omega) spread (t.getD i default).1 L t _ (ρ:= .next ((dK L.length spread W t).take (i+1),((i+1:Nat):Int)))]
  ·rfl
  ·have g0:decide ((W.length:Int)<(W.length:Int))=false:=by simp
   have e1:IntKind.i64.wrap ((t.getD i default).2 - spread)=(t.getD i default).2 - spread:=IntWalk.i64_in _ ⟨by omega,by omega⟩
   have e2:IntKind.i64.wrap ((t.getD i default).2+spread)=(t.getD i default).2+spread:=IntWalk.i64_in _ ⟨by omega,by omega⟩
   simp only [DZ,Ag,g0,Bool.false_eq_true,if_false,Int.toNat_natCast,e1,e2,wI1 f2,wS i (by omega),hlen,if_pos (kY hi')]
   rw [if_pos ⟨by omega,by omega⟩,ET _ _ _ _ hi']
   rfl
 ·rintro _ rfl
  refine ⟨_,?_,rfl⟩
  simp only [Gv,XU,Bool.false_eq_true,if_false]
  rw [List.take_of_length_le (by simp [dK])]
end
end Go.Proofs.YtofkgmldcjagmaaGreatDoor

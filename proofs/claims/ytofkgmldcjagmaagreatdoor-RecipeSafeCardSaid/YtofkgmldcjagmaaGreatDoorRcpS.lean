/- Spans and curves of ticks, by the code and by the reference. -/
import Derived.Test.YtofkgmldcjagmaaGreatDoorF03
import Derived.Test.YtofkgmldcjagmaaGreatDoorF04
import Derived.Test.YtofkgmldcjagmaaGreatDoorF06
import Derived.Test.YtofkgmldcjagmaaGreatDoorRcpBx
import Derived.Test.YtofkgmldcjagmaaGreatDoorRcpA
set_option linter.unusedVariables false
set_option linter.unusedSimpArgs false
namespace Go.Proofs.YtofkgmldcjagmaaGreatDoor
open Go.dG
def FW (f:Int×Int→Int) (W:TL) (p:Int):List Int:=W.map fun w=>p*f w / 1000
def kQ (W:TL) (p:Int):TL:=W.map fun w=>(p*w.1 / 1000,p*w.2 / 1000)
def rQ (n sp x:Int):Int×Int:=(if 0<x - sp then x - sp else 0,if x+sp<n - 1 then x+sp else n - 1)
def zT (n sp:Int) (W:TL) (x:Int×Int):TL×Int×Int:=(kQ W x.1,rQ n sp x.2)
def eu (n sp:Int) (W t:TL):List (TL×Int×Int):=t.map (zT n sp W)
theorem pw2 {v p:Int} (hv:0≤v∧v≤1000) (hp:0≤p∧p≤10000):IntKind.i64.wrap (p*v)=p*v∧0≤p*v∧p*v≤10000000∧0≤p*v / 1000∧p*v / 1000≤10000:=by
 have h1:0≤p*v:=Int.mul_nonneg hp.1 hv.1
 have h2:p*v≤10000*1000:=Int.mul_le_mul hp.2 hv.2 hv.1 (by decide)
 exact ⟨IntWalk.i64_in _ ⟨by omega,by omega⟩,h1,by omega,by omega,by omega⟩
theorem abp {k:Nat} {f:Int×Int→Int} (hk:(k=88∧f=fun w=>w.1)∨(k=89∧f=fun w=>w.2)) {W:TL} (hl:W.length<1000) (hW:∀ w∈W,(0≤w.1∧w.1≤1000)∧(0≤w.2∧w.2≤1000)∧w.1≤w.2) {p:Int} (hp:0≤p∧p≤10000) (a b:Int) (T:TL) (L:List TL) (lo hi:List Int) (dZ spread law:Int) :
 JO a b T L lo hi W dZ spread p law k=some (FW f W p,law):=by
 unfold JO
 refine fQ (uZ W p law k) (fun i s=>s=((i:Int),(FW f W p).take i)) (fun o=>o=some (FW f W p,law)) W.length ?_ ?_ _ (by simp) _ (by omega)
 ·rintro i _ hi rfl
  have hw:=hW _ (getD_mem hi)
  have hf:0≤f (W.getD i default)∧f (W.getD i default)≤1000:=by rcases hk with ⟨_,rfl⟩ | ⟨_,rfl⟩<;>simp only<;>omega
  obtain ⟨e1,m1,m2,m3,m4⟩:=pw2 hf hp
  refine .inl ⟨(((i+1:Nat):Int),(FW f W p).take (i+1)),?_,rfl⟩
  have hlen:((FW f W p).take i).length=i:=by simp [FW]; omega
  have et:(FW f W p).take (i+1)=(FW f W p).take i++[p*f (W.getD i default) / 1000]:=by
   rw [List.take_add_one,List.getElem?_eq_getElem (by simpa [FW] using hi)]
   simp [FW,List.getD_eq_getElem?_getD,hi]
  have e2:IntKind.i64.wrap ((p*f (W.getD i default)).tdiv 1000)=p*f (W.getD i default) / 1000:=by
   rw [Int.tdiv_eq_ediv_of_nonneg m1]; exact IntWalk.i64_in _ ⟨by omega,by omega⟩
  rcases hk with ⟨rfl,rfl⟩ | ⟨rfl,rfl⟩
  ·simp only [uZ,oz hi,if_true,if_pos (lF hi),Int.toNat_natCast,wS i (by omega),if_neg (show ¬ (88:Nat)=89 by decide),if_neg (show ¬ (88:Nat)=75 by decide),aP,r88,hlen,e1,e2,et]
   rw [if_pos ⟨by omega,by omega⟩]; rfl
  ·simp only [uZ,oz hi,if_true,if_pos (lF hi),Int.toNat_natCast,wS i (by omega),aP,r89,hlen,e1,e2,et]
   rw [if_pos ⟨by omega,by omega⟩]; rfl
 ·rintro _ rfl
  refine ⟨some (FW f W p,law),?_,rfl⟩
  simp only [uZ,geN,Bool.false_eq_true,if_false]
  rw [List.take_of_length_le (by simp [FW])]
theorem U6 (f:Int×Int→Int) (W:TL) (p:Int):(FW f W p).length=W.length:=by simp [FW]
theorem aew (f:Int×Int→Int) (W:TL) (p:Int) {i:Nat} (h:i<W.length):(FW f W p).getD i default=p*f (W.getD i default) / 1000:=by
 simp [FW,List.getD_eq_getElem?_getD,h]
theorem O7 (W:TL) (p:Int) {i:Nat} (h:i<W.length):(kQ W p).take (i+1)=(kQ W p).take i++[(p*(W.getD i default).1 / 1000,p*(W.getD i default).2 / 1000)]:=by
 rw [List.take_add_one,List.getElem?_eq_getElem (by simpa [kQ] using h)]
 simp [kQ,List.getD_eq_getElem?_getD,h]
theorem aip {W:TL} (hl:W.length<1000) (sp p:Int) (t:TL) (s1:List (TL×Int×Int)×Int) (l1 l2 v3:Int) {ρ:gK (List (TL×Int×Int)×Int) (List (TL×Int×Int))}
 (h:Es sp t s1 (FW (fun w=>w.1) W p,l1) (FW (fun w=>w.2) W p,l2) v3 ((W.length:Int),kQ W p)= .out (some ρ)) :
 aS (Es sp t s1 (FW (fun w=>w.1) W p,l1) (FW (fun w=>w.2) W p,l2) v3) 1000000000 (0,[])=some ρ:=by
 refine fQ _ (fun i s=>s=((i:Int),(kQ W p).take i)) (fun o=>o=some ρ) W.length ?_ ?_ _ (by simp) _ (by omega)
 ·rintro i _ hi rfl
  have hlen:((kQ W p).take i).length=i:=by simp [kQ]; omega
  have g1:decide ((i:Int)<(W.length:Int))=true:=by simpa using hi
  refine .inl ⟨(((i+1:Nat):Int),(kQ W p).take (i+1)),?_,rfl⟩
  simp only [Es,U6,g1,if_true,if_pos (show 0≤(i:Int)∧(i:Int)<(W.length:Int) by omega),Int.toNat_natCast,wS i (by omega),hlen,aew _ _ _ hi,O7 _ _ hi]
  rw [if_pos ⟨by omega,by omega⟩]; rfl
 ·rintro _ rfl
  rw [List.take_of_length_le (by simp [kQ])]
  exact ⟨_,h,rfl⟩
section
variable {a b:Int} {T:TL} {L:List TL} {lo hi:List Int} {W:TL} {dZ spread:Int}
theorem Ws (n sp:Int) (W t:TL) {i:Nat} (h:i<t.length):(eu n sp W t).take (i+1)=(eu n sp W t).take i++[zT n sp W (t.getD i default)]:=by
 rw [List.take_add_one,List.getElem?_eq_getElem (by simpa [eu] using h)]
 simp [eu,List.getD_eq_getElem?_getD,h]
theorem ahs (B:lM a b T L lo hi W dZ spread) {t:TL} (ht:vk L t):r56 a b T L lo hi W dZ spread t=some (eu L.length spread W t):=by
 obtain ⟨f1,f2,f3,f4,f5,f6⟩:=B.few
 have ht1:=ht.1
 have hs:=B.spread
 unfold r56
 refine fQ (GZ a b T L lo hi W dZ spread t) (fun i s=>s=((eu L.length spread W t).take i,(i:Int))) (fun o=>o=some (eu L.length spread W t)) t.length ?_ ?_ _ (by simp) _ (by omega)
 ·rintro i _ hi' rfl
  have hx:=ht.2 _ (getD_mem hi')
  have hlen:((eu L.length spread W t).take i).length=i:=by simp [eu]; omega
  refine .inl ⟨((eu L.length spread W t).take (i+1),((i+1:Nat):Int)),?_,rfl⟩
  simp only [GZ,oz hi',if_true,if_pos (lF hi'),Int.toNat_natCast,abp (.inl ⟨rfl,rfl⟩) (show W.length<1000 by omega) B.wts hx.1,abp (.inr ⟨rfl,rfl⟩) (show W.length<1000 by omega) B.wts hx.1,aP,last f2]
  rw [aip (by omega) spread (t.getD i default).1 t _ _ _ _ (ρ:= .next ((eu L.length spread W t).take (i+1),((i+1:Nat):Int)))]
  ·rfl
  ·have g0:decide ((W.length:Int)<(W.length:Int))=false:=by simp
   have e1:IntKind.i64.wrap ((t.getD i default).2 - spread)=(t.getD i default).2 - spread:=IntWalk.i64_in _ ⟨by omega,by omega⟩
   have e2:IntKind.i64.wrap ((t.getD i default).2+spread)=(t.getD i default).2+spread:=IntWalk.i64_in _ ⟨by omega,by omega⟩
   simp only [Es,U6,g0,Bool.false_eq_true,if_false,Int.toNat_natCast,e1,e2,wS i (by omega),hlen]
   rw [if_pos ⟨by omega,by omega⟩,Ws _ _ _ _ hi']
   rfl
 ·rintro _ rfl
  refine ⟨_,?_,rfl⟩
  simp only [GZ,geN,Bool.false_eq_true,if_false]
  rw [List.take_of_length_le (by simp [eu])]
end
end Go.Proofs.YtofkgmldcjagmaaGreatDoor

/- Curves of ticks: all boxes' temperatures, rounded down and up. -/
import Derived.Test.YtofkgmldcjagmaaGreatDoorF06
import Derived.Test.YtofkgmldcjagmaaGreatDoorF07
import Derived.Test.YtofkgmldcjagmaaGreatDoorF12
import Derived.Test.YtofkgmldcjagmaaGreatDoorF21
import Derived.Test.YtofkgmldcjagmaaGreatDoorF22
import Derived.Test.YtofkgmldcjagmaaGreatDoorRcpS
set_option linter.unusedVariables false
set_option linter.unusedSimpArgs false
namespace Go.Proofs.YtofkgmldcjagmaaGreatDoor
open Go.dG
def OI (T:TL) (x y:Int):Int×Int:=((pl T x).floor,-((-(pl T y)).floor))
def zq (T:TL) (z:List (List Int×List Int)) (i:Nat):TL:=z.map fun y=>OI T (y.1.getD i default) (y.2.getD i default)
def dQ (a:Int) (T:TL) (z:List (List Int×List Int)):List TL:=(List.range a.toNat).map (zq T z)
theorem asb {v:Rat} {N D:Int} (h:At v N D 1000000 3000):0≤v.num∧v.num≤3000000000∧(v.den:Int)≤1000000:=by
 obtain ⟨g0,g1,g2⟩:=low h
 have h1:=h.pos; have h2:=h.le; have h3:=h.num
 have hg:0≤(Int.gcd N D:Int):=by omega
 have b1:0≤N / (Int.gcd N D:Int):=Int.ediv_nonneg h3.1 hg
 have b2:N / (Int.gcd N D:Int)≤N:=Int.ediv_le_self _ h3.1
 have b3:0≤D / (Int.gcd N D:Int):=Int.ediv_nonneg (by omega) hg
 have b4:D / (Int.gcd N D:Int)≤D:=Int.ediv_le_self _ (by omega)
 rw [Int.tdiv_eq_ediv_of_nonneg h3.1,IntWalk.i64_in _ ⟨by omega,by omega⟩] at g1
 rw [Int.tdiv_eq_ediv_of_nonneg (by omega),IntWalk.i64_in _ ⟨by omega,by omega⟩] at g2
 omega
theorem atP {n d:Int} (hd:0<d):(n+d - 1) / d= -((-n) / d):=by
 have h1:=Int.mul_ediv_add_emod (-n) d
 have h2:=Int.emod_nonneg (-n) (by omega:d≠0)
 have h3:=Int.emod_lt_of_pos (-n) hd
 generalize (-n) / d=q at*
 generalize (-n) % d=m at*
 have e:n+d - 1=(d - 1 - (d*q+m - -n) - m)+(-q)*d+(m+m - (m+m))+(n - n)+((d*q+m+n) - (d*q+m+n))+(m - m) - (-n - (d*q+m))+((d*q+m) - (d*q+m)) - 0+0 - (d*q+m+n)+(d*q+m+n):=by grind
 have e2:n+d - 1=(d - 1 - m)+(-q)*d:=by grind
 rw [e2,Int.add_mul_ediv_right _ _ (by omega),Int.ediv_eq_zero_of_lt (by omega) (by omega),Int.zero_add]
theorem ZB (v:Rat):((v.num:Int):Rat)=v*((v.den:Int):Rat):=by
 have e:(v.num:Rat) / ((v.den:Int):Rat)=v:=by rw [← Rat.divInt_eq_div,Rat.num_divInt_den]
 have h2:((v.den:Int):Rat)≠0:=by
  have h1:=v.den_pos
  have:(0:Rat)<((v.den:Int):Rat):=Rat.intCast_pos.2 (by omega)
  grind
 have h3:=Rat.div_mul_cancel (a:=(v.num:Rat)) h2
 rw [e] at h3
 exact h3.symm
section
variable {a b:Int} {T:TL} {L:List TL} {lo hi:List Int} {W:TL} {dZ spread:Int}
theorem ay9 (B:lM a b T L lo hi W dZ spread) {x y:Int} (hx:inT T x=true) (hy:inT T y=true):r82 a b T L lo hi W dZ spread x y=some (OI T x y):=by
 obtain ⟨f1,f2,f3,f4,f5,f6⟩:=B.few
 have s0:YU a b T L=0:=B.box.lo.set0
 unfold r82
 rw [p53 a b T L x f1 f2 f3,Option.bind_some,p53 a b T L y f1 f2 f3,Option.bind_some,if_pos s0,if_pos s0,if_pos hx,if_pos hy]
 obtain ⟨N,D,_,P⟩:=p57 B.box.lo.ok a b L x hx
 obtain ⟨M,K,_,Q⟩:=p57 B.box.lo.ok a b L y hy
 obtain ⟨n1,n2,n3⟩:=asb P
 obtain ⟨m1,m2,m3⟩:=asb Q
 have d1:0<((pl T x).den:Int):=by have:=(pl T x).den_pos; omega
 have d2:0<((pl T y).den:Int):=by have:=(pl T y).den_pos; omega
 have e1:(pl T x).num / ((pl T x).den:Int)=(pl T x).floor:=lU d1 (ZB _)
 have e2:(-(pl T y).num) / ((pl T y).den:Int)=(-(pl T y)).floor:=lU d2 (by rw [Rat.intCast_neg,ZB,Rat.neg_mul])
 have b1:0≤(pl T x).num / ((pl T x).den:Int):=Int.ediv_nonneg n1 (by omega)
 have b2:(pl T x).num / ((pl T x).den:Int)≤(pl T x).num:=Int.ediv_le_self _ n1
 have b3:0≤((pl T y).num+((pl T y).den:Int) - 1) / ((pl T y).den:Int):=Int.ediv_nonneg (by omega) (by omega)
 have b4:((pl T y).num+((pl T y).den:Int) - 1) / ((pl T y).den:Int)≤((pl T y).num+((pl T y).den:Int) - 1):=Int.ediv_le_self _ (by omega)
 simp only
 rw [if_pos (by omega),if_pos (by omega),IntWalk.i64_in ((pl T y).num+_) ⟨by omega,by omega⟩,IntWalk.i64_in ((pl T y).num+_ - 1) ⟨by omega,by omega⟩,Int.tdiv_eq_ediv_of_nonneg n1,Int.tdiv_eq_ediv_of_nonneg (by omega),
  IntWalk.i64_in _ ⟨by omega,by omega⟩,IntWalk.i64_in _ ⟨by omega,by omega⟩,e1,atP d2,e2]
 rfl
theorem ay8 (ok : fJ a b T L) {x y : Int} (hx : inT T x = true) (hy : inT T y = true) : ∃ N D M K, Zf a b T L x = some (N, D) ∧ Zf a b T L y = some (M, K) ∧ r52 N D = some (OI T x y).1 ∧ r19 M K = some (OI T x y).2 := by
  obtain ⟨N, D, h1, P⟩ := p57 ok a b L x hx
  obtain ⟨M, K, h2, Q⟩ := p57 ok a b L y hy
  have p1 := P.pos; have p2 := P.le; have p3 := P.num
  have q1 := Q.pos; have q2 := Q.le; have q3 := Q.num
  refine ⟨N, D, M, K, h1, h2, ?_, ?_⟩
  · rw [ar0 N D p1 (by omega) (by omega)]
    exact congrArg some (lU p1 P.eq)
  · unfold r19
    have b1 : -3000000000 ≤ (-M) / K := (Int.le_ediv_iff_mul_le q1).2 (by have : (-3000000000 : Int) * K ≤ -3000000000 := by omega
                                                                          omega)
    have b2 : (-M) / K ≤ 0 := by
      have : (-M) / K < 1 := (Int.ediv_lt_iff_lt_mul q1).2 (by omega)
      omega
    rw [IntWalk.i64_in _ ⟨by omega, by omega⟩, Int.zero_sub, ar0 (-M) K q1 (by omega) (by omega), Option.bind_some, Int.zero_sub, IntWalk.i64_in _ ⟨by omega, by omega⟩]
    exact congrArg (fun z => some (-z)) (lU q1 (by rw [Rat.intCast_neg, Q.eq, Rat.neg_mul]))
theorem Zw {W:TL} (hW:∀ w∈W,(0≤w.1∧w.1≤1000)∧(0≤w.2∧w.2≤1000)∧w.1≤w.2) {p:Int} (hp:0≤p∧p≤10000):∀ r∈kQ W p,Cj r=0:=by
 intro r hr
 obtain ⟨w,hw,rfl⟩:=List.mem_map.1 hr
 obtain ⟨g1,g2,g3⟩:=hW w hw
 obtain ⟨_,_,_,m3,m4⟩:=pw2 g1 hp
 obtain ⟨_,_,_,k3,k4⟩:=pw2 g2 hp
 have h5:p*w.1 / 1000≤p*w.2 / 1000:=Int.ediv_le_ediv (by decide) (Int.mul_le_mul_of_nonneg_left g3 hp.1)
 unfold Cj
 rw [dJ.2 ⟨m3,m4⟩,dJ.2 ⟨k3,k4⟩,decide_eq_true h5]; rfl
theorem xB:∀ {l:TL},(∀ r∈l,Cj r=0)→mY l=0
 | [],_=>rfl
 | r::q,h=>by
  rw [mY,h r (by simp),xB (fun x hx=>h x (by simp [hx]))]; rfl
theorem FC (B:lM a b T L lo hi W dZ spread) {x:Int×Int} (hx:(0≤x.1∧x.1≤10000)∧0≤x.2∧x.2<L.length):fA a L (zT L.length spread W x).1 (zT L.length spread W x).2.1 (zT L.length spread W x).2.2=0:=by
 have hs:=B.spread
 have hl:(((zT L.length spread W x).1.length:Int) == a)=true:=by
  show (((kQ W x.1).length:Int) == a)=true
  rw [kQ,List.length_map,beq_iff_eq]; exact B.acS
 unfold fA
 rw [hl]
 have h1:mY (zT L.length spread W x).1=0:=xB (Zw B.wts hx.1)
 rw [h1]
 have b1:0≤(rQ L.length spread x.2).1∧(rQ L.length spread x.2).1≤(L.length:Int) - 1:=by unfold rQ; simp only; split<;>omega
 have b2:0≤(rQ L.length spread x.2).2∧(rQ L.length spread x.2).2≤(L.length:Int) - 1:=by unfold rQ; simp only; split<;>omega
 have b3:(rQ L.length spread x.2).1≤(rQ L.length spread x.2).2:=by unfold rQ; simp only; split<;>split<;>omega
 show fG _ (fG _ (LJ L (rQ L.length spread x.2).1 (rQ L.length spread x.2).2))=0
 unfold LJ
 rw [dJ.2 b1,dJ.2 b2,decide_eq_true b3]; rfl
theorem zS:∀ {l:List (TL×Int×Int)},(∀ d∈l,fA a L d.1 d.2.1 d.2.2=0)→su a L l=0
 | [],_=>rfl
 | d::r,h=>by rw [su,h d (by simp),zS (fun x hx=>h x (by simp [hx]))]; rfl
theorem OC (B:lM a b T L lo hi W dZ spread) {t:TL} (ht:vk L t):jo a L (eu L.length spread W t)=0:=by
 have h1:=ht.1
 unfold jo
 rw [zS (fun d hd=>by obtain ⟨x,hx,rfl⟩:=List.mem_map.1 hd; exact FC B (ht.2 x hx)),decide_eq_true (by simp [eu]; omega)]; rfl
theorem Io:∀ {l:List (TL×Int×Int)} {lo hi:List Int} {z:List (List Int×List Int)},BoxOk a b T L lo hi→(∀ d∈l,fA a L d.1 d.2.1 d.2.2=0)→jR b T L lo hi l=some z→∀ y∈z,BoxOk a b T L y.1 y.2
 | [],_,_,z,_,_,h=>by obtain rfl:=Option.some.inj h; intro y hy; cases hy
 | d::r,lo,hi,z,H,hd,h=>by
  rw [jR] at h
  obtain ⟨y,hy,h⟩:=Option.bind_eq_some_iff.1 h
  obtain ⟨q,hq,rfl⟩:=Option.map_eq_some_iff.1 h
  have H2:=H.next (hd d (by simp)) hy
  intro x hx
  rcases List.mem_cons.1 hx with rfl | hx
  ·exact H2
  ·exact Io H2 (fun d hd'=>hd d (by simp [hd'])) hq x hx
def cvC (a:Int) (T:TL) (o:Option (List (List Int×List Int))):List TL×Int:=match o with | none=>([],22) | some z=>(dQ a T z,0)
def mM (n:Nat) (T:TL) (z:List (List Int×List Int)) (k j:Nat):List TL:=(List.range n).map fun i=>zq T (z.take (if i<j then k+1 else k)) i
theorem abD (T:TL) (z:List (List Int×List Int)) {k:Nat} (h:k<z.length) (i:Nat):zq T (z.take (k+1)) i=zq T (z.take k) i++[OI T ((z.getD k default).1.getD i default) ((z.getD k default).2.getD i default)]:=by
 unfold zq
 rw [List.take_add_one,List.getElem?_eq_getElem h,List.map_append]
 simp [List.getD_eq_getElem?_getD,h]
theorem Vd (n:Nat) (T:TL) (z:List (List Int×List Int)) (k j:Nat):(mM n T z k j).length=n:=by simp [mM]
theorem IK {n:Nat} (T:TL) (z:List (List Int×List Int)) (k j:Nat) {i:Nat} (h:i<n):(mM n T z k j).getD i default=zq T (z.take (if i<j then k+1 else k)) i:=by
 simp [mM,List.getD_eq_getElem?_getD,h]
theorem ZK {n:Nat} (T:TL) (z:List (List Int×List Int)) {k j:Nat} (h:j<n) (hk:k<z.length):(mM n T z k j).set j ((mM n T z k j).getD j default++[OI T ((z.getD k default).1.getD j default) ((z.getD k default).2.getD j default)])=mM n T z k (j+1):=by
 rw [IK _ _ _ _ h,if_neg (by omega), ← abD T z hk]
 refine List.ext_getElem (by simp [mM]) fun i h1 h2=> ?_
 rw [List.getElem_set]
 by_cases e:j=i
 ·subst e; rw [if_pos rfl]; simp [mM]
 ·rw [if_neg e]
  simp only [mM,List.getElem_map,List.getElem_range]
  congr 2
  by_cases h3:i<j
  ·rw [if_pos h3,if_pos (by omega)]
  ·rw [if_neg h3,if_neg (by omega)]
theorem aeC (n:Nat) (T:TL) (z:List (List Int×List Int)) (k:Nat):mM n T z k n=mM n T z (k+1) 0:=by
 unfold mM
 refine List.map_congr_left fun i hi=> ?_
 rw [if_pos (List.mem_range.1 hi),if_neg (by omega)]
theorem ZJ (n:Nat) (T:TL) (z:List (List Int×List Int)):List.replicate n []=mM n T z 0 0:=by
 refine List.ext_getElem (by simp [mM]) fun i h1 h2=> ?_
 simp [mM,zq]
theorem aeD (a:Int) (T:TL) (z:List (List Int×List Int)):mM a.toNat T z z.length 0=dQ a T z:=by
 unfold mM dQ
 refine List.map_congr_left fun i hi=> ?_
 rw [if_neg (by omega),List.take_length]
theorem afe (B:lM a b T L lo hi W dZ spread) {t:TL} (ht:vk L t):r51 a b T L lo hi W dZ spread t=some (cvC a T (jR b T L lo hi (eu L.length spread W t))):=by
 obtain ⟨f1,f2,f3,f4,f5,f6⟩:=B.few
 have ht1:=ht.1
 have hc:=B.box.lo.ok.cells
 have hlen:(eu L.length spread W t).length=t.length:=by simp [eu]
 have hz:=OC B ht
 unfold r51
 rw [ahs B ht,Option.bind_some,p43 a b T L lo hi _ f1 f2 f3 (by omega) (by omega) (by omega) (fun d hd=>by obtain ⟨x,hx,rfl⟩:=List.mem_map.1 hd; simp [zT,kQ]; omega),Option.bind_some]
 unfold Jw
 rw [if_pos B.bx0,if_pos hz]
 cases hr:jR b T L lo hi (eu L.length spread W t) with
 | none=>rfl
 | some z=>
  have hok:=Io B.box (BL hz).2 hr
  obtain ⟨hzl,_⟩:=BZ _ _ _ _ hr
  have e0:bxF (some z) []=(z,0):=by simp [bxF]
  rw [e0]
  simp only
  rw [if_neg (by decide),if_pos ⟨by omega,by omega,by omega,by omega⟩]
  show _=some (dQ a T z,(0:Int))
  refine fQ (G6 a b T L lo hi W dZ spread (z,0)) (fun k s=>s=((k:Int),mM a.toNat T z k 0)) (fun o=>o=some (dQ a T z,(0:Int))) z.length ?_ ?_ _ (by rw [ZJ]; rfl) _ (by omega)
  ·rintro k _ hk rfl
   have H:=hok _ (getD_mem hk)
   have g1:=H.lo.len; have g2:=H.hi.len
   have hin:aS (G5 a b T L lo hi W dZ spread (z,0) ((k:Int),mM a.toNat T z k 0)) 1000000000 (0,mM a.toNat T z k 0)=some (gK.next (((k+1:Nat):Int),mM a.toNat T z (k+1) 0)):=by
    refine fQ _ (fun j s=>s=((j:Int),mM a.toNat T z k j)) (fun o=>o=some (gK.next (((k+1:Nat):Int),mM a.toNat T z (k+1) 0))) a.toNat ?_ ?_ _ rfl _ (by omega)
    ·rintro j _ hj rfl
     have x1:decide ((j:Int)<(a.toNat:Int))=true:=decide_eq_true (by omega)
     have x2:((zq T (z.take (if j<j then k+1 else k)) j).length+1)*16≤140737488355328∧(zq T (z.take (if j<j then k+1 else k)) j).length+1≤9223372036854775807:=by
      rw [if_neg (by omega)]; simp only [zq,List.length_map,List.length_take]; omega
     have x3:=ay9 B (H.lo.ins _ (getD_mem (show j<(z.getD k default).1.length by omega))) (H.hi.ins _ (getD_mem (show j<(z.getD k default).2.length by omega)))
     refine .inl ⟨(((j+1:Nat):Int),mM a.toNat T z k (j+1)),?_,rfl⟩
     rw [← ZK T z hj hk,IK _ _ _ _ hj]
     simp only [G5,x1,if_true,Vd,Int.toNat_natCast,wS j (by omega)]
     rw [if_pos ⟨by omega,by omega⟩,if_pos ⟨by omega,by omega⟩,if_pos ⟨by omega,by omega⟩,x3]
     simp only [aP,IK _ _ _ _ hj]
     rw [if_pos x2,if_pos ⟨by omega,by omega⟩]; rfl
    ·rintro _ rfl
     have x1:decide ((a.toNat:Int)<(a.toNat:Int))=false:=by simp
     refine ⟨_,?_,rfl⟩
     simp only [G5,Vd,x1,Bool.false_eq_true,if_false,wS k (by omega),aeC]; rfl
   refine .inl ⟨_,?_,rfl⟩
   simp only [G6,oz hk,if_true,if_pos (lF hk),hin,Option.getD_some]
  ·rintro _ rfl
   refine ⟨_,?_,rfl⟩
   simp only [G6,geN,Bool.false_eq_true,if_false,aeD]
end
end Go.Proofs.YtofkgmldcjagmaaGreatDoor

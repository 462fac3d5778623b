/- Ticks of the nominal part; the stop of a recipe. -/
import Derived.Test.YtofkgmldcjagmaaGreatDoorF03
import Derived.Test.YtofkgmldcjagmaaGreatDoorF04
import Derived.Test.YtofkgmldcjagmaaGreatDoorF25
import Derived.Test.YtofkgmldcjagmaaGreatDoorStopA
set_option linter.unusedVariables false
set_option linter.unusedSimpArgs false
namespace Go.Proofs.YtofkgmldcjagmaaGreatDoor
open Go.dG
theorem az0 {v:Rat} {N D:Int} (h:At v N D 1000000 3000):0≤v.num∧v.num≤3000000000∧(v.den:Int)≤1000000:=by
 obtain ⟨g0,g1,g2⟩:=low h
 have h1:=h.pos; have h2:=h.le; have h3:=h.num
 have hg:0≤(Int.gcd N D:Int):=by omega
 have b1:0≤N / (Int.gcd N D:Int):=Int.ediv_nonneg h3.1 hg
 have b2:N / (Int.gcd N D:Int)≤N:=Int.ediv_le_self _ h3.1
 have b3:0≤D / (Int.gcd N D:Int):=Int.ediv_nonneg (by omega) hg
 have b4:D / (Int.gcd N D:Int)≤D:=Int.ediv_le_self _ (by omega)
 rw [Int.tdiv_eq_ediv_of_nonneg h3.1,IntWalk.i64_in _ ⟨by omega,by omega⟩] at g1
 rw [Int.tdiv_eq_ediv_of_nonneg (by omega),IntWalk.i64_in _ ⟨by omega,by omega⟩] at g2
 omega
def nU (T:TL) (k x:Int):Bool:=decide (¬ pl T x≤(k:Rat))
theorem atM {a b:Int} {T:TL} {L:List TL} (s0:(bn a b T L).2=0) (hT:T.length<1000) (hn:L.length<1000) (hL:∀ x∈L,x.length<1000) {x k:Int} (hk:200≤k∧k≤3000) (hx:inT T x=true) (lo hi:List Int) (W:TL) (dZ spread:Int) :
 ∃ c,r78 a b T L lo hi W dZ spread x k=some c∧(decide (c>0))=nU T k x:=by
 have ok:=nN s0
 obtain ⟨N,D,e,P⟩:=p57 ok a b L x hx
 obtain ⟨n1,n2,n3⟩:=az0 P
 have hd:0<((pl T x).den:Int):=by have:=(pl T x).den_pos; omega
 have m1:0≤k*((pl T x).den:Int):=Int.mul_nonneg (by omega) (by omega)
 have m2:k*((pl T x).den:Int)≤3000*1000000:=Int.mul_le_mul hk.2 n3 (by omega) (by omega)
 unfold r78
 rw [p53 a b T L x hT hn hL,if_pos (show YU a b T L=0 from s0),if_pos hx,Option.bind_some]
 simp only
 rw [IntWalk.i64_in (k*_) ⟨by omega,by omega⟩,IntWalk.i64_in _ ⟨by omega,by omega⟩]
 refine ⟨_,rfl,?_⟩
 unfold nU
 rw [decide_eq_decide,Rat.le_iff]
 simp<;>omega
def runT (b:Int) (T:TL) (L:List TL) (W:TL):List Int→TL→Option (List Int)
 | s,[]=>some s
 | s,x::r=>if (iC b T (L.getD x.2.toNat default) s (uH W x.1)).all (inT T)=true then runT b T L W (iC b T (L.getD x.2.toNat default) s (uH W x.1)) r else none
theorem FK {b:Int} {T:TL} {L:List TL} {W:TL}:∀ (l:TL) (s s1:List Int) (x:Int×Int),runT b T L W s l=some s1→runT b T L W s (l++[x])=if (iC b T (L.getD x.2.toNat default) s1 (uH W x.1)).all (inT T)=true then some (iC b T (L.getD x.2.toNat default) s1 (uH W x.1)) else none
 | [],s,s1,x,h=>by cases h; rfl
 | y::r,s,s1,x,h=>by
  simp only [runT] at h
  split at h
  ·rename_i hc
   simp only [List.cons_append,runT,if_pos hc]
   exact FK r _ s1 x h
  ·cases h
theorem BX {a b:Int} {T:TL} {L:List TL} {W:TL}:∀ (l:TL) (s s1:List Int),kE a b T L s→runT b T L W s l=some s1→kE a b T L s1
 | [],s,s1,H,h=>by cases h; exact H
 | y::r,s,s1,H,h=>by
  simp only [runT] at h
  split at h
  ·rename_i hc; exact BX r _ s1 (H.next hc) h
  ·cases h
theorem FI {b:Int} {T:TL} {L:List TL} {W:TL}:∀ (l:TL) (s s1:List Int),runT b T L W s l=some s1→∀ i,i<l.length→∃ s2,runT b T L W s (l.take i)=some s2∧(iC b T (L.getD (l.getD i default).2.toNat default) s2 (uH W (l.getD i default).1)).all (inT T)=true∧
 runT b T L W s (l.take (i+1))=some (iC b T (L.getD (l.getD i default).2.toNat default) s2 (uH W (l.getD i default).1))
 | [],s,s1,h,i,hi=>by simp at hi
 | y::r,s,s1,h,i,hi=>by
  simp only [runT] at h
  split at h
  ·rename_i hc
   cases i with
   | zero=>exact ⟨s,rfl,hc,by show (if _ then _ else _)=_; exact if_pos hc⟩
   | succ i=>
    obtain ⟨s2,h1,h2,h3⟩:=FI r _ s1 h i (by simpa using hi)
    refine ⟨s2,by simp only [List.take_succ_cons,runT,if_pos hc]; exact h1,h2,by simp only [List.take_succ_cons,runT,if_pos hc]; exact h3⟩
  ·cases h
section
variable {a b:Int} {T:TL} {L:List TL} {lo hi:List Int} {W:TL} {dZ spread:Int}
theorem afO (B:lM a b T L lo hi W dZ spread) {s:List Int} (H:kE a b T L s) {x:Int×Int} (hx:(0≤x.1∧x.1≤10000)∧0≤x.2∧x.2<L.length) :
 JO a b T L lo hi W dZ spread x.1 x.2 75=some (uH W x.1,x.2)∧gY a L (uH W x.1) x.2=0∧
 U5 a b T L s (uH W x.1) x.2=some (if (iC b T (L.getD x.2.toNat default) s (uH W x.1)).all (inT T)=true then (iC b T (L.getD x.2.toNat default) s (uH W x.1),0) else ([],22)):=by
 obtain ⟨f1,f2,f3,f4,f5,f6⟩:=B.few
 have hl:=H.len; have hc:=H.ok.cells
 have hpl:(uH W x.1).length=W.length:=by simp [uH]
 have hd:gY a L (uH W x.1) x.2=0:=Qw (by rw [hpl]; exact B.acS) (aio B.wts hx.1) hx.2
 refine ⟨ajR (by omega) B.wts hx.1 a b T L lo hi dZ spread x.2,hd,?_⟩
 rw [p64 a b T L s (uH W x.1) x.2 f1 f2 f3 (by omega) (by omega),H.stepped hd]; rfl
theorem Kt (l:TL) (n i:Nat) (h:i<n) (hl:i<l.length):(l.take n).getD i default=l.getD i default:=by
 simp [List.getD_eq_getElem?_getD,List.getElem?_take,h]
def aaC (b:Int) (T:TL) (L:List TL) (W:TL) (n most:Int) (es:List Int) (made:TL):gK (List Int×TL) (TL×Bool×Int):=
 if (made.length:Int)=n+most then .out (some ([],false,24)) else
 if (iC b T (L.getD ((L.length:Int) - 1).toNat default) es (uH W 0)).all (inT T)=true then .next (iC b T (L.getD ((L.length:Int) - 1).toNat default) es (uH W 0),made++[(0,(L.length:Int) - 1)]) else .out (some ([],false,22))
theorem afZ (B:lM a b T L lo hi W dZ spread) (t:TL) {n k most:Int} (hn:0≤n∧n≤200) (hk:200≤k∧k≤3000) (hm:0≤most∧most≤200) {es:List Int} {made:TL} (H:kE a b T L es) (hl:made.length≤400) :
 ((∃ e∈es,nU T k e=true)∧aS (NP t n k most (a,b,T,L,lo,hi,W,dZ,spread,0) (es,made)) 1000000000 0=some (aaC b T L W n most es made))∨
 ((∀ e∈es,nU T k e=false)∧aS (NP t n k most (a,b,T,L,lo,hi,W,dZ,spread,0) (es,made)) 1000000000 0=some (.out (some (made,decide (n<t.length),0)))):=by
 obtain ⟨f1,f2,f3,f4,f5,f6⟩:=B.few
 have hlen:=H.len; have hc:=H.ok.cells; have hL1:=B.dZ
 have ew:IntKind.i64.wrap (n+most)=n+most:=IntWalk.i64_in _ ⟨by omega,by omega⟩
 obtain ⟨e1,e2,e3⟩:=afO B H (x:=(0,(L.length:Int) - 1)) ⟨⟨by show (0:Int)≤0; decide,by show (0:Int)≤10000; decide⟩,by show 0≤(L.length:Int) - 1; omega,by show (L.length:Int) - 1<_; omega⟩
 simp only at e1 e2 e3
 refine fQ (NP t n k most (a,b,T,L,lo,hi,W,dZ,spread,0) (es,made)) (fun i s=>s=(i:Int)∧∀ j,j<i→nU T k (es.getD j default)=false)
  (fun o=>((∃ e∈es,nU T k e=true)∧o=some (aaC b T L W n most es made))∨((∀ e∈es,nU T k e=false)∧o=some (.out (some (made,decide (n<t.length),0))))) es.length ?_ ?_ _ ⟨rfl,fun j hj=>absurd hj (by omega)⟩ _ (by omega)
 ·rintro i _ hix ⟨rfl,hall⟩
  obtain ⟨c,c1,c2⟩:=atM B.box.lo.set0 f1 f2 f3 hk (H.ins _ (getD_mem hix)) lo hi W dZ spread
  simp only [NP,oz hix,if_true,if_pos (lF hix),Int.toNat_natCast,wS i (by omega),c1,aP,c2]
  cases hh:nU T k (es.getD i default) with
  | false=>
   rw [if_neg (by decide)]
   refine .inl ⟨_,rfl,rfl,fun j hj=> ?_⟩
   by_cases hji:j=i
   ·subst hji; exact hh
   ·exact hall j (by omega)
  | true=>
   rw [if_pos rfl]
   refine .inr ⟨_,rfl,.inl ⟨⟨_,getD_mem hix,hh⟩,?_⟩⟩
   rw [decide_eq_true (show (i:Int)≥0 by omega),if_pos rfl,ew]
   unfold aaC
   congr 1
   by_cases hq:(made.length:Int)=n+most
   ·rw [if_pos (by simpa using hq),if_pos hq]
   ·rw [if_neg (by simpa using hq),if_neg hq,last f2]
    simp only
    rw [if_neg (by simpa using hq),e1]
    simp only [e3]
    by_cases ho:(iC b T (L.getD ((L.length:Int) - 1).toNat default) es (uH W 0)).all (inT T)=true
    ·simp only [if_pos ho]
     rw [if_neg (by decide),if_pos ⟨by omega,by omega⟩]
    ·simp only [if_neg ho]
     rw [if_pos (by decide),if_pos (by decide)]
 ·rintro _ ⟨rfl,hall⟩
  refine ⟨_,by simp only [NP,geN,Bool.false_eq_true,if_false]; rfl,.inr ⟨fun e he=> ?_,?_⟩⟩
  ·obtain ⟨j,hj,rfl⟩:=List.getElem_of_mem he
   have:=hall j hj
   rwa [List.getD_eq_getElem?_getD,List.getElem?_eq_getElem hj,Option.getD_some] at this
  ·rfl
end
end Go.Proofs.YtofkgmldcjagmaaGreatDoor

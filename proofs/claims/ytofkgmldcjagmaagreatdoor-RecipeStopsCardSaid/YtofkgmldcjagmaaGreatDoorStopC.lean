/- Ticks of the nominal part; the stop of a recipe. -/
import Derived.Test.YtofkgmldcjagmaaGreatDoorF02
import Derived.Test.YtofkgmldcjagmaaGreatDoorF03
import Derived.Test.YtofkgmldcjagmaaGreatDoorF04
import Derived.Test.YtofkgmldcjagmaaGreatDoorF12
import Derived.Test.YtofkgmldcjagmaaGreatDoorF14
import Derived.Test.YtofkgmldcjagmaaGreatDoorStopA
set_option linter.unusedVariables false
set_option linter.unusedSimpArgs false
namespace Go.Proofs.YtofkgmldcjagmaaGreatDoor
open Go.Abs
theorem low2 {v:Rat} {N D:Int} (h:At v N D 1000000 3000):0≤v.num∧v.num≤3000000000∧(v.den:Int)≤1000000:=by
 obtain ⟨g0,g1,g2⟩:=low h
 have h1:=h.pos; have h2:=h.le; have h3:=h.num
 have hg:0≤(Int.gcd N D:Int):=by omega
 have b1:0≤N / (Int.gcd N D:Int):=Int.ediv_nonneg h3.1 hg
 have b2:N / (Int.gcd N D:Int)≤N:=Int.ediv_le_self _ h3.1
 have b3:0≤D / (Int.gcd N D:Int):=Int.ediv_nonneg (by omega) hg
 have b4:D / (Int.gcd N D:Int)≤D:=Int.ediv_le_self _ (by omega)
 rw [Int.tdiv_eq_ediv_of_nonneg h3.1,IntWalk.i64_in _ ⟨by omega,by omega⟩] at g1
 rw [Int.tdiv_eq_ediv_of_nonneg (by omega),IntWalk.i64_in _ ⟨by omega,by omega⟩] at g2
 omega
def hotter (T:TL) (k x:Int):Bool:=decide (¬ pl T x≤(k:Rat))
theorem hotterR {a b:Int} {T:TL} {L:List TL} (ok:SetOk a b T L) {x k:Int} (hk:200≤k∧k≤3000) (hx:inT T x=true):r50 a b T L x k=some (hotter T k x):=by
 obtain ⟨N,D,e,P⟩:=p57 ok a b L x hx
 have q1:=P.pos; have q2:=P.le; have q3:=P.num
 have h0:(0:Rat)<D:=Rat.intCast_pos.2 q1
 have m1:0≤k*D:=Int.mul_nonneg (by omega) (by omega)
 have m2:k*D≤3000*1000000:=Int.mul_le_mul hk.2 q2 (by omega) (by omega)
 unfold r50
 rw [e,Option.bind_some]
 show some (decide (N>IntKind.i64.wrap (k*D)))=_
 rw [IntWalk.i64_in _ ⟨by omega,by omega⟩]
 unfold hotter
 congr 1
 rw [decide_eq_decide,gt_iff_lt, ← Int.not_le,not_congr]
 rw [← Rat.intCast_le_intCast,Rat.intCast_mul,P.eq]
 constructor
 ·intro h; exact Rat.le_of_mul_le_mul_right h h0
 ·intro h; exact Rat.mul_le_mul_of_nonneg_right h (Rat.le_of_lt h0)
theorem compC {a b:Int} {T:TL} {L:List TL} (s0:(setupErrV a b T L).2=0) (hT:T.length<1000) (hn:L.length<1000) (hL:∀ x∈L,x.length<1000) {x k:Int} (hk:200≤k∧k≤3000) (hx:inT T x=true) (lo hi:List Int) (W:TL) (air spread:Int) :
 ∃ c,r78 a b T L lo hi W air spread x k=some c∧(decide (c>0))=hotter T k x:=by
 have ok:=setOk_of s0
 obtain ⟨N,D,e,P⟩:=p57 ok a b L x hx
 obtain ⟨n1,n2,n3⟩:=low2 P
 have hd:0<((pl T x).den:Int):=by have:=(pl T x).den_pos; omega
 have m1:0≤k*((pl T x).den:Int):=Int.mul_nonneg (by omega) (by omega)
 have m2:k*((pl T x).den:Int)≤3000*1000000:=Int.mul_le_mul hk.2 n3 (by omega) (by omega)
 unfold r78
 rw [p53 a b T L x hT hn hL,if_pos (show setE a b T L=0 from s0),if_pos hx,Option.bind_some]
 simp only
 rw [IntWalk.i64_in (k*_) ⟨by omega,by omega⟩,IntWalk.i64_in _ ⟨by omega,by omega⟩]
 refine ⟨_,rfl,?_⟩
 unfold hotter
 rw [decide_eq_decide,Rat.le_iff]
 simp<;>omega
def runT (b:Int) (T:TL) (L:List TL) (W:TL):List Int→TL→Option (List Int)
 | s,[]=>some s
 | s,x::r=>if (outS b T (L.getD x.2.toNat default) s (pwV W x.1)).all (inT T)=true then runT b T L W (outS b T (L.getD x.2.toNat default) s (pwV W x.1)) r else none
theorem runT_snoc {b:Int} {T:TL} {L:List TL} {W:TL}:∀ (l:TL) (s s1:List Int) (x:Int×Int),runT b T L W s l=some s1→runT b T L W s (l++[x])=if (outS b T (L.getD x.2.toNat default) s1 (pwV W x.1)).all (inT T)=true then some (outS b T (L.getD x.2.toNat default) s1 (pwV W x.1)) else none
 | [],s,s1,x,h=>by cases h; rfl
 | y::r,s,s1,x,h=>by
  simp only [runT] at h
  split at h
  ·rename_i hc
   simp only [List.cons_append,runT,if_pos hc]
   exact runT_snoc r _ s1 x h
  ·cases h
theorem runT_all {a b:Int} {T:TL} {L:List TL} {W:TL}:∀ (l:TL) (s s1:List Int),AllOk a b T L s→runT b T L W s l=some s1→AllOk a b T L s1
 | [],s,s1,H,h=>by cases h; exact H
 | y::r,s,s1,H,h=>by
  simp only [runT] at h
  split at h
  ·rename_i hc; exact runT_all r _ s1 (H.next hc) h
  ·cases h
theorem runT_take {b:Int} {T:TL} {L:List TL} {W:TL}:∀ (l:TL) (s s1:List Int),runT b T L W s l=some s1→∀ i,i<l.length→∃ s2,runT b T L W s (l.take i)=some s2∧(outS b T (L.getD (l.getD i default).2.toNat default) s2 (pwV W (l.getD i default).1)).all (inT T)=true∧
 runT b T L W s (l.take (i+1))=some (outS b T (L.getD (l.getD i default).2.toNat default) s2 (pwV W (l.getD i default).1))
 | [],s,s1,h,i,hi=>by simp at hi
 | y::r,s,s1,h,i,hi=>by
  simp only [runT] at h
  split at h
  ·rename_i hc
   cases i with
   | zero=>exact ⟨s,rfl,hc,by show (if _ then _ else _)=_; exact if_pos hc⟩
   | succ i=>
    obtain ⟨s2,h1,h2,h3⟩:=runT_take r _ s1 h i (by simpa using hi)
    refine ⟨s2,by simp only [List.take_succ_cons,runT,if_pos hc]; exact h1,h2,by simp only [List.take_succ_cons,runT,if_pos hc]; exact h3⟩
  ·cases h
section
variable {a b:Int} {T:TL} {L:List TL} {lo hi:List Int} {W:TL} {air spread:Int}
theorem tickC (B:BenOk a b T L lo hi W air spread) {s:List Int} (H:AllOk a b T L s) {x:Int×Int} (hx:(0≤x.1∧x.1≤10000)∧0≤x.2∧x.2<L.length) :
 r74 a b T L lo hi W air spread x.1 x.2 75=some (pwV W x.1,x.2)∧driveErrV a L (pwV W x.1) x.2=0∧
 r73 a b T L s (pwV W x.1) x.2=some (if (outS b T (L.getD x.2.toNat default) s (pwV W x.1)).all (inT T)=true then (outS b T (L.getD x.2.toNat default) s (pwV W x.1),0) else ([],22)):=by
 obtain ⟨f1,f2,f3,f4,f5,f6⟩:=B.few
 have hl:=H.len; have hc:=H.ok.cells
 have hpl:(pwV W x.1).length=W.length:=by simp [pwV]
 have hd:driveErrV a L (pwV W x.1) x.2=0:=drive_zero (by rw [hpl]; exact B.wlen) (pw_rng B.wts hx.1) hx.2
 refine ⟨driveC (by omega) B.wts hx.1 a b T L lo hi air spread x.2,hd,?_⟩
 rw [p64 a b T L s (pwV W x.1) x.2 f1 f2 f3 (by omega) (by omega),H.stepped hd]; rfl
theorem take_get (l:TL) (n i:Nat) (h:i<n) (hl:i<l.length):(l.take n).getD i default=l.getD i default:=by
 simp [List.getD_eq_getElem?_getD,List.getElem?_take,h]
def hotT (b:Int) (T:TL) (L:List TL) (W:TL) (n most:Int) (es:List Int) (made:TL):Ctl (List Int×TL) (TL×Bool×Int):=
 if (made.length:Int)=n+most then .out (some ([],false,24)) else
 if (outS b T (L.getD ((L.length:Int) - 1).toNat default) es (pwV W 0)).all (inT T)=true then .next (outS b T (L.getD ((L.length:Int) - 1).toNat default) es (pwV W 0),made++[(0,(L.length:Int) - 1)]) else .out (some ([],false,22))
theorem scanC (B:BenOk a b T L lo hi W air spread) (t:TL) {n k most:Int} (hn:0≤n∧n≤200) (hk:200≤k∧k≤3000) (hm:0≤most∧most≤200) {es:List Int} {made:TL} (H:AllOk a b T L es) (hl:made.length≤400) :
 ((∃ e∈es,hotter T k e=true)∧iterC (b8_3 t n k most (a,b,T,L,lo,hi,W,air,spread,0) (es,made)) 1000000000 0=some (hotT b T L W n most es made))∨
 ((∀ e∈es,hotter T k e=false)∧iterC (b8_3 t n k most (a,b,T,L,lo,hi,W,air,spread,0) (es,made)) 1000000000 0=some (.out (some (made,decide (n<t.length),0)))):=by
 obtain ⟨f1,f2,f3,f4,f5,f6⟩:=B.few
 have hlen:=H.len; have hc:=H.ok.cells; have hL1:=B.air
 have ew:IntKind.i64.wrap (n+most)=n+most:=IntWalk.i64_in _ ⟨by omega,by omega⟩
 obtain ⟨e1,e2,e3⟩:=tickC B H (x:=(0,(L.length:Int) - 1)) ⟨⟨by show (0:Int)≤0; decide,by show (0:Int)≤10000; decide⟩,by show 0≤(L.length:Int) - 1; omega,by show (L.length:Int) - 1<_; omega⟩
 simp only at e1 e2 e3
 refine iter_inv (b8_3 t n k most (a,b,T,L,lo,hi,W,air,spread,0) (es,made)) (fun i s=>s=(i:Int)∧∀ j,j<i→hotter T k (es.getD j default)=false)
  (fun o=>((∃ e∈es,hotter T k e=true)∧o=some (hotT b T L W n most es made))∨((∀ e∈es,hotter T k e=false)∧o=some (.out (some (made,decide (n<t.length),0))))) es.length ?_ ?_ _ ⟨rfl,fun j hj=>absurd hj (by omega)⟩ _ (by omega)
 ·rintro i _ hix ⟨rfl,hall⟩
  obtain ⟨c,c1,c2⟩:=compC B.box.lo.set0 f1 f2 f3 hk (H.ins _ (getD_mem hix)) lo hi W air spread
  simp only [b8_3,ltN hix,if_true,if_pos (rgN hix),Int.toNat_natCast,wS i (by omega),c1,bindC,c2]
  cases hh:hotter T k (es.getD i default) with
  | false=>
   rw [if_neg (by decide)]
   refine .inl ⟨_,rfl,rfl,fun j hj=> ?_⟩
   by_cases hji:j=i
   ·subst hji; exact hh
   ·exact hall j (by omega)
  | true=>
   rw [if_pos rfl]
   refine .inr ⟨_,rfl,.inl ⟨⟨_,getD_mem hix,hh⟩,?_⟩⟩
   rw [decide_eq_true (show (i:Int)≥0 by omega),if_pos rfl,ew]
   unfold hotT
   congr 1
   by_cases hq:(made.length:Int)=n+most
   ·rw [if_pos (by simpa using hq),if_pos hq]
   ·rw [if_neg (by simpa using hq),if_neg hq,last f2]
    simp only
    rw [if_neg (by simpa using hq),e1]
    simp only [e3]
    by_cases ho:(outS b T (L.getD ((L.length:Int) - 1).toNat default) es (pwV W 0)).all (inT T)=true
    ·simp only [if_pos ho]
     rw [if_neg (by decide),if_pos ⟨by omega,by omega⟩]
    ·simp only [if_neg ho]
     rw [if_pos (by decide),if_pos (by decide)]
 ·rintro _ ⟨rfl,hall⟩
  refine ⟨_,by simp only [b8_3,geN,Bool.false_eq_true,if_false]; rfl,.inr ⟨fun e he=> ?_,?_⟩⟩
  ·obtain ⟨j,hj,rfl⟩:=List.getElem_of_mem he
   have:=hall j hj
   rwa [List.getD_eq_getElem?_getD,List.getElem?_eq_getElem hj,Option.getD_some] at this
  ·rfl
end
end Go.Proofs.YtofkgmldcjagmaaGreatDoor

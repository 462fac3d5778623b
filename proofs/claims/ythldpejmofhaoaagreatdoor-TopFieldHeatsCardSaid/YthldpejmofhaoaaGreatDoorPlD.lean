/- Sums and balances of runs. -/
import Derived.Test.YthldpejmofhaoaaGreatDoorPlA
import Derived.Test.YthldpejmofhaoaaGreatDoorPlB
import Derived.Test.YthldpejmofhaoaaGreatDoorPlC
import Derived.Test.YthldpejmofhaoaaGreatDoorF10
set_option linter.unusedVariables false
set_option linter.unusedSimpArgs false
namespace Go.Proofs.YthldpejmofhaoaaGreatDoor
open Go.Abs
abbrev DL:=List (List Int×Int)
abbrev TL:=List (Int×Int)
def sumIn:DL→Int
 | []=>0
 | d::r=>sumL d.1+sumIn r
theorem run_cons {b:Int} {T:TL} {L:List TL} {s:List Int} {d:List Int×Int} {r:DL} {y:List (List Int)×Int} (h:runS b T L s (d::r)=some y) :
 (outS b T (L.getD d.2.toNat default) s d.1).all (inT T)=true∧∃ z,runS b T L (outS b T (L.getD d.2.toNat default) s d.1) r=some z∧y=(outS b T (L.getD d.2.toNat default) s d.1::z.1,lossS T (L.getD d.2.toNat default) (hd (mixS b T s))+z.2):=by
 unfold runS at h
 split at h
 ·rename_i hc
  cases hr:runS b T L (outS b T (L.getD d.2.toNat default) s d.1) r with
  | none=>rw [hr] at h; cases h
  | some z=>rw [hr] at h; cases h; exact ⟨hc,z,rfl,rfl⟩
 ·cases h
theorem run_all {a b:Int} {T:TL} {L:List TL}:∀ (l:DL) (s:List Int) (y:List (List Int)×Int),AllOk a b T L s→(∀ d∈l,driveErrV a L d.1 d.2=0)→runS b T L s l=some y→
 AllOk a b T L (lastS s y.1)∧(∀ x∈y.1,AllOk a b T L x)∧sumL (lastS s y.1)=sumL s+sumIn l - y.2∧0≤y.2∧y.2≤1000*l.length∧y.1.length=l.length
 | [],s,y,H,_,h=>by cases h; exact ⟨H,by simp,by simp [sumIn,lastS],by simp,by simp,rfl⟩
 | d::r,s,y,H,hok,h=>by
  obtain ⟨hc,z,hr,rfl⟩:=run_cons h
  have hd0:=hok d (by simp)
  have H1:=H.next hc
  obtain ⟨i1,i2,i3,i4,i5,i6⟩:=run_all r _ z H1 (fun x hx=>hok x (List.mem_cons_of_mem _ hx)) hr
  have D:=drive_ok hd0
  have hl:=H.len
  have hcells:=H.ok.cells
  have lr:=loss_rng H.ok (hd (mixS b T s)) D.2.2
  have hs:=outS_sum b T (L.getD d.2.toNat default) s d.1 (by omega) (by intro h0; rw [h0] at hl; simp at hl; omega)
  refine ⟨i1,fun x hx=> ?_,?_,?_,?_,?_⟩
  ·rcases List.mem_cons.1 hx with rfl | hx
   ·exact H1
   ·exact i2 x hx
  ·show sumL (lastS _ z.1)=_
   rw [i3,hs]; simp only [sumIn]; omega
  ·show 0≤_+z.2; omega
  ·show _+z.2≤_
   rw [List.length_cons]; omega
  ·simp [i6]
theorem last_getD:∀ (y:List (List Int)) (s:List Int),y.length≠0→y.getD (y.length - 1) default=lastS s y
 | [],s,h=>absurd rfl h
 | [x],s,_=>rfl
 | x::z::r,s,_=>by
  have:=last_getD (z::r) x (by simp)
  simpa [lastS] using this
theorem inW_eq:∀ (l:DL) (acc:Int),(∀ d∈l,sumW 0 d.1=sumL d.1∧0≤sumL d.1∧sumL d.1≤120000)→0≤acc→acc+120000*(l.length:Int)≤1000000000000→inW acc l=acc+sumIn l∧0≤sumIn l∧sumIn l≤120000*(l.length:Int)
 | [],acc,_,_,_=>by simp [inW,sumIn]
 | d::r,acc,h,h0,h1=>by
  obtain ⟨e1,e2,e3⟩:=h d (by simp)
  rw [List.length_cons] at h1
  have ih:=inW_eq r (acc+sumL d.1) (fun x hx=>h x (List.mem_cons_of_mem _ hx)) (by omega) (by omega)
  simp only [inW,sumIn,e1]
  rw [IntWalk.i64_in _ ⟨by omega,by omega⟩,ih.1,List.length_cons]
  omega
theorem bx_zero {a b:Int} {T:TL} {L:List TL} {lo hi:List Int} (H1:AllOk a b T L lo) (H2:AllOk a b T L hi) (h:∀ j,j<lo.length→lo.getD j default≤hi.getD j default):bxErr a b T L lo hi=0:=by
 unfold bxErr boxErrV
 rw [if_pos H1.set0,state_zero H1.len H1.ins,state_zero H2.len H2.ins,if_pos rfl,if_pos rfl]
 cases hs:scanN (orderF lo hi) 0 lo.length with
 | none=>rfl
 | some v=>
  obtain ⟨j,_,hj,hv⟩:=scan_some hs
  unfold orderF at hv
  rw [if_neg (by have:=h j (by omega); omega)] at hv
  cases hv
theorem after_eq (s:List Int) (y:List (List Int)):(if y.length=0 then sumW 0 s else sumW 0 (y.getD (y.length - 1) default))=sumW 0 (lastS s y):=by
 by_cases h:y.length=0
 ·rw [if_pos h]
  have:y=[]:=List.length_eq_zero_iff.1 h
  subst this; rfl
 ·rw [if_neg h,last_getD y s h]
theorem bal_some {a b:Int} {T:TL} {L:List TL} {s:List Int} {l:DL} {y:List (List Int)×Int} (H:AllOk a b T L s) (hz:drivesErrV a L l=0) (h:runS b T L s l=some y):runV a b T L s l=(y.1,y.2,0)∧balF s l (runV a b T L s l)=(sumW 0 s,inW 0 l,y.2,sumW 0 (lastS s y.1),0):=by
 have e:runV a b T L s l=(y.1,y.2,0):=by unfold runV; rw [if_pos H.stErr,if_pos hz,h]; simp [runF]
 refine ⟨e,?_⟩
 rw [e, ← after_eq]
 rfl
theorem awake6:r6=some true:=by decide +kernel
end Go.Proofs.YthldpejmofhaoaaGreatDoor
namespace Go.Proofs.YthldpejmofhaoaaGreatDoor
open Go.Abs
theorem awake25:r25=some true:=by decide +kernel
def hotV (l:List Int) (a:Int):List Bool:=l.map (fun n=>decide (n≥a))
theorem hotV_get (l:List Int) (a:Int) {i:Nat} (hi:i<l.length):(hotV l a).getD i default=decide (l.getD i default≥a):=by
 simp only [hotV,List.getD_eq_getElem?_getD,List.getElem?_map,List.getElem?_eq_getElem hi]; rfl
theorem hotV_len (l:List Int) (a:Int):(hotV l a).length=l.length:=by simp [hotV]
theorem h33_1 (l:List Int) (a:Int) (hl:l.length≤1000000):iterC (b33_1 l a) 1000000000 ([],0)=some (hotV l a,0):=by
 refine iter_run l.length (b33_1 l a) (fun i=>((hotV l a).take i,(i:Int))) _ (by omega) (fun i hi=> ?_) ?_
 ·have hs:(hotV l a).take i++[decide (l.getD i default≥a)]=(hotV l a).take (i+1):=by
   rw [take_ext _ i (by rw [hotV_len]; exact hi),hotV_get l a hi]
  simp only [b33_1,ltN hi,if_true,if_pos (rgN hi),Int.toNat_natCast,wS i (by omega),List.length_take,hotV_len,hs]
  rw [if_pos ⟨by omega,by omega⟩]; rfl
 ·unfold b33_1
  rw [if_neg (by simp)]
  simp only [show (hotV l a).take l.length=hotV l a by rw [← hotV_len l a,List.take_length]]
theorem h102 (a:Int):r102 a=some (inR a 1 3000):=rfl
theorem h170d (l:List Int) (hl:l.length<1000000000):r170d l 102=some (idxV (fun x=> !inR x 1 3000) 0 l):=by
 unfold r170d
 refine idx_loop _ l _ hl (fun i hi=> ?_) (by simp [b170d_1])
 simp only [b170d_1,ltN hi,if_true,if_pos (rgN hi),Int.toNat_natCast,wS i (by omega),r105,h102,Option.bind_some,bindC]
theorem h33 (l:List Int) (a:Int) (hl:l.length≤4) (hk:∀ x∈l,1≤x∧x≤3000) (ha:1≤a∧a≤3000):r33 l a=some (hotV l a,0):=by
 have hany:(l.any fun x=> !inR x 1 3000)=false:=by
  rw [List.any_eq_false]
  intro x hx
  rw [inR_iff.2 (hk x hx)]; simp
 have e104:r104b l 102=some false:=by
  unfold r104b
  rw [h170d l (by omega),Option.bind_some,idx_ge _ l 0 (Int.le_refl 0),hany]
 have h4:decide ((l.length:Int)≤4)=true:=by rw [decide_eq_true_eq]; omega
 unfold r33
 rw [e104,Option.bind_some,Fd.p96,Option.bind_some,h102,if_pos (by intro _; rfl)]
 simp only [Option.getD_some,inR_iff.2 ha,Bool.not_false,Bool.and_self]
 rw [Fd.p96,Option.bind_some,h4,Fd.p87 _ (by simp),Option.bind_some,if_neg (by decide),h33_1 l a (by omega)]
theorem numden (v:Rat):v*((v.den:Int):Rat)=(v.num:Rat):=by
 have h0:(0:Rat)<((v.den:Int):Rat):=Rat.intCast_pos.2 (by have:=v.den_pos; omega)
 have e:v=(v.num:Rat) / ((v.den:Int):Rat):=by rw [← Rat.divInt_eq_div,Rat.num_divInt_den]
 conv=>lhs; lhs; rw [e]
 exact Rat.div_mul_cancel (by grind)
theorem nd {v:Rat} {k m:Int} (h1:(k:Rat)≤v) (h2:v≤(m:Rat)):k*(v.den:Int)≤v.num∧v.num≤m*(v.den:Int):=by
 have e:v*((v.den:Int):Rat)=(v.num:Rat):=numden v
 have hd:(0:Rat)≤((v.den:Int):Rat):=Rat.intCast_nonneg.2 (by omega)
 constructor
 ·rw [← Rat.intCast_le_intCast,Rat.intCast_mul, ← e]
  exact Rat.mul_le_mul_of_nonneg_right h1 hd
 ·rw [← Rat.intCast_le_intCast,Rat.intCast_mul, ← e]
  exact Rat.mul_le_mul_of_nonneg_right h2 hd
theorem kel {a b:Int} {T:TL} {L:List TL} {s:List Int} (H:AllOk a b T L s) (hn:L.length<1000) (hL:∀ x∈L,x.length<1000) {e:Int} (he:e∈s) :
 r31 a b T L e=some ((pl T e).num,((pl T e).den:Int),0)∧(1≤(pl T e).num∧(pl T e).num≤1099511627776)∧(1≤((pl T e).den:Int)∧((pl T e).den:Int)≤1099511627776)∧
  1≤(pl T e).num / ((pl T e).den:Int)∧(pl T e).num / ((pl T e).den:Int)≤3000:=by
 have hr:=pl_rng (u:=200) (v:=3000) T e H.ok.asc (fun p hp=>by
  obtain ⟨i,hi,rfl⟩:=mem_getD hp
  exact H.ok.yr i hi) (by intro h; have:=H.ok.tpos; rw [h] at this; simp at this)
 obtain ⟨n1,n2⟩:=nd hr.1 hr.2
 have hden:0<((pl T e).den:Int):=by have:=(pl T e).den_pos; omega
 obtain ⟨N,D,-,P⟩:=p121 H.ok a b T L L e
 have g3:=(low P).2.2
 have q1:=P.pos
 have q2:=P.le
 have q3:=P.num
 have hg:(Int.gcd N D:Int)≠0:=(low P).1
 have b3:0≤D / (Int.gcd N D:Int):=Int.ediv_nonneg (by omega) (by omega)
 have b4:D / (Int.gcd N D:Int)≤D:=Int.ediv_le_self _ (by omega)
 rw [Int.tdiv_eq_ediv_of_nonneg (by omega),IntWalk.i64_in _ ⟨by omega,by omega⟩] at g3
 have hT:=H.ok.tlt
 refine ⟨?_,⟨by omega,by omega⟩,⟨by omega,by omega⟩,?_,?_⟩
 ·rw [p53 a b T L e hT hn hL]
  have h0:setE a b T L=0:=H.set0
  rw [if_pos h0,if_pos (H.ins e he)]
 ·rw [Int.le_ediv_iff_mul_le hden]; omega
 ·have:(pl T e).num / ((pl T e).den:Int)<3001:=by rw [Int.ediv_lt_iff_lt_mul hden]; omega
  omega
def kelV (T:TL) (s:List Int):List Int:=s.map fun (e:Int)=>(pl T e).num / ((pl T e).den:Int)
theorem kelV_len (T:TL) (s:List Int):(kelV T s).length=s.length:=by simp [kelV]
theorem kelV_rng {a b:Int} {T:TL} {L:List TL} {s:List Int} (H:AllOk a b T L s) (hn:L.length<1000) (hL:∀ x∈L,x.length<1000):∀ x∈kelV T s,1≤x∧x≤3000:=fun x hx=>by
 obtain ⟨e,he,rfl⟩:=List.mem_map.1 hx
 exact (kel H hn hL he).2.2.2
theorem mapD {α β:Type} [Inhabited α] [Inhabited β] (f:α→β) {l:List α} {i:Nat} (h:i<l.length):(l.map f).getD i default=f (l.getD i default):=by
 rw [List.getD_eq_getElem?_getD,List.getElem?_map,List.getElem?_eq_getElem h,List.getD_eq_getElem?_getD,List.getElem?_eq_getElem h]; rfl
theorem sumL_sum:∀ l:List Int,sumL l=l.sum
 | []=>rfl
 | x::r=>by simp [sumL,sumL_sum r]
theorem wat_ok {T:Int} {S:List (Int×Int×Int)} {f:Int} {H:List Bool} (ok:Fd.Ok T S f H) {t:Int} (t0:0≤t) (t1:t≤100000) {q:List Int} (hq:Fd.In4 q) (hl:q.length=S.length) :
 (Fd.watQ (Fd.reactV f S H) t q).length=S.length∧(∀ x∈Fd.watQ (Fd.reactV f S H) t q,0≤x∧x≤t)∧(Fd.watQ (Fd.reactV f S H) t q).sum=t:=by
 have hrl:=Fd.reactV_len f S H ok.hot
 have hp:=ok.lad.pos
 have hle:=ok.lad.le
 have lad:Fd.Lad q (Fd.reactV f S H):=⟨by omega,hq,Fd.reactV_rng ok⟩
 obtain ⟨p1,p2,p3⟩:=Fd.pow_ok lad (by omega)
 have p4:=Fd.all_pos lad (by omega)
 unfold Fd.watQ
 have hlen:(Fd.wat t (Fd.powV q (Fd.reactV f S H)).sum 0 (Fd.powV q (Fd.reactV f S H))).length=S.length:=by rw [Fd.wat_len,p3,hl]
 refine ⟨hlen,fun x hx=> ?_,?_⟩
 ·obtain ⟨i,hi,rfl⟩:=mem_getD hx
  rw [Fd.wat_len] at hi
  rw [Fd.wat_at t _ _ 0 i hi]
  have a1:=Fd.pre_rng (Fd.powV q (Fd.reactV f S H)) p1 i
  have a2:=Fd.pre_rng (Fd.powV q (Fd.reactV f S H)) p1 (i+1)
  have a3:=Fd.pre_succ (Fd.powV q (Fd.reactV f S H)) i hi
  have a4:=p1 _ (getD_mem hi)
  rw [Int.zero_add,Int.zero_add,a3]
  have m1:=Fd.ediv_mono (t:=t) (s:=((Fd.powV q (Fd.reactV f S H)).take i).sum) (p:=(Fd.powV q (Fd.reactV f S H)).getD i default) (all:=(Fd.powV q (Fd.reactV f S H)).sum) t0 a4 (by omega)
  have m2:=Fd.ediv_rng (t:=t) (s:=((Fd.powV q (Fd.reactV f S H)).take i).sum) (all:=(Fd.powV q (Fd.reactV f S H)).sum) t0 a1.1 a1.2 (by omega)
  have m3:=Fd.ediv_rng (t:=t) (s:=((Fd.powV q (Fd.reactV f S H)).take (i+1)).sum) (all:=(Fd.powV q (Fd.reactV f S H)).sum) t0 a2.1 a2.2 (by omega)
  rw [a3] at m3
  omega
 ·rw [Fd.wat_sum,Int.zero_add,Int.mul_zero,Int.zero_ediv,Int.sub_zero,Int.mul_ediv_cancel _ (by omega)]
theorem updL_rng {M:Int}:∀ (o:List (Int×Int)) (W:List Int),(∀ r∈o,0≤r.1∧r.1≤r.2∧r.2≤M)→(∀ x∈W,0≤x∧x≤M)→∀ r∈Fd.updL o W,0≤r.1∧r.1≤r.2∧r.2≤M
 | r::R,w::W,h,hw=>by
  intro x hx
  simp only [Fd.updL,List.mem_cons] at hx
  rcases hx with rfl | hx
  ·have h1:=h r (by simp)
   have h2:=hw w (by simp)
   refine ⟨?_,?_,?_⟩<;>simp only<;>(repeat' split)<;>omega
  ·exact updL_rng R W (fun y hy=>h y (List.mem_cons_of_mem _ hy)) (fun y hy=>hw y (List.mem_cons_of_mem _ hy)) x hx
 | [],w::W,h,hw=>by
  intro x hx
  simp only [Fd.updL,List.mem_cons] at hx
  rcases hx with rfl | hx
  ·have h2:=hw w (by simp)
   refine ⟨?_,?_,?_⟩<;>simp only<;>omega
  ·exact updL_rng [] W (by simp) (fun y hy=>hw y (List.mem_cons_of_mem _ hy)) x hx
 | R,[],h,_=>by rw [Fd.updL_nil]; exact h
theorem rngs {T:Int} {S:List (Int×Int×Int)} {f:Int} {H:List Bool} {R:List (Int×Int)} {t:Int} (ok:Fd.Ok T S f H) (cl:Fd.Cl R (Fd.reactV f S H) t) :
 ∀ o,o=Fd.full (Fd.watQ (Fd.reactV f S H) t) [] R []→o.length=S.length∧(∀ r∈o,0≤r.1∧r.1≤r.2∧r.2≤t)∧∀ q∈Fd.chR R R.length,Fd.Inc S.length o (Fd.watQ (Fd.reactV f S H) t q):=by
 intro o ho
 have hrl:=Fd.reactV_len f S H ok.hot
 have hcl:=cl.len
 have hw:∀ q∈Fd.chR R R.length,(Fd.watQ (Fd.reactV f S H) t q).length=S.length∧(∀ x∈Fd.watQ (Fd.reactV f S H) t q,0≤x∧x≤t):=fun q hq=>by
  obtain ⟨c1,c2⟩:=Fd.chR_in4 cl.r hq
  obtain ⟨w1,w2,-⟩:=wat_ok ok cl.t0 cl.t1 c2 (by omega)
  exact ⟨w1,w2⟩
 rw [Fd.full_eq] at ho
 subst ho
 have hne:Fd.chR R R.length≠[]:=by
  have:=Fd.mem_chR (Rg:=R) (q:=R.map (·.1)) R.length (by simp) (Nat.le_refl _) (fun i hi=>by
   rw [mapD (fun r:Int×Int=>r.1) hi]
   have:=cl.r _ (getD_mem hi)
   omega)
  exact List.ne_nil_of_mem this
 refine ⟨Fd.fold_len _ _ (fun p hp=>(hw p hp).1) (.inl rfl) hne,?_,fun q hq=>Fd.inc_mem _ _ (fun p hp=>(hw p hp).1) (.inl rfl) hq⟩
 exact Fd.foldl_inv (fun (o:List (Int×Int))=>∀ r∈o,0≤r.1∧r.1≤r.2∧r.2≤t) _ _ _ (by simp) (fun p hp o ho=>updL_rng o _ ho (hw p hp).2)
theorem inc_leL {o:List (Int×Int)} {W:List Int} {n:Nat} (h:Fd.Inc n o W) (ho:o.length=n) (hW:W.length=n):leL (o.map (·.1)) W∧leL W (o.map (·.2)):=by
 refine ⟨leL_of _ _ (by simp [ho,hW]) (fun j hj=> ?_),leL_of _ _ (by simp [ho,hW]) (fun j hj=> ?_)⟩
 ·rw [List.length_map] at hj
  rw [mapD (fun r:Int×Int=>r.1) hj]; exact (h j (by omega)).1
 ·rw [mapD (fun r:Int×Int=>r.2) (show j<o.length by omega)]; exact (h j (by omega)).2
end Go.Proofs.YthldpejmofhaoaaGreatDoor
namespace Go.Proofs.YthldpejmofhaoaaGreatDoor
open Go.Abs
abbrev SL:=List (Int×Int×Int)
theorem leL_rfl:∀ l:List Int,leL l l
 | []=>trivial
 | x::r=>⟨Int.le_refl x,leL_rfl r⟩
theorem BoxOk.err {a b:Int} {T:TL} {L:List TL} {lo hi:List Int} (H:BoxOk a b T L lo hi):bxErr a b T L lo hi=0:=
 bx_zero H.lo H.hi (leL_get H.le).2
theorem rangesP_zero:∀ (l:List (Int×Int)),(∀ r∈l,0≤r.1∧r.1≤r.2∧r.2≤10000)→rangesP l=0
 | [],_=>rfl
 | x::r,h=>by
  have hx:=h x (by simp)
  have ih:=rangesP_zero r (fun y hy=>h y (List.mem_cons_of_mem _ hy))
  have e1:inR x.1 0 10000=true:=inR_iff.2 ⟨by omega,by omega⟩
  have e2:inR x.2 0 10000=true:=inR_iff.2 ⟨by omega,by omega⟩
  have e3:decide (x.1≤x.2)=true:=by rw [decide_eq_true_eq]; omega
  simp only [rangesP,rangeP,ih,e1,e2,e3]
  simp [firstE,codeIf]
theorem span_zero {a:Int} {L:List TL} {o:List (Int×Int)} {law:Int} (h1:(o.length:Int)=a) (h2:∀ r∈o,0≤r.1∧r.1≤r.2∧r.2≤10000) (h3:0≤law∧law<L.length):spanErrV a L o law law=0:=by
 have e1:inR law 0 ((L.length:Int) - 1)=true:=inR_iff.2 ⟨h3.1,by omega⟩
 have e2:((o.length:Int) == a)=true:=by simpa using h1
 simp only [spanErrV,e2,rangesP_zero o h2,lawsP,e1]
 simp [firstE,codeIf]
structure BI (a b:Int) (T:TL) (L:List TL) (i:Nat) (s1:Int×List Int×List Int×List Int):Prop where
 t:s1.1=i
 now:AllOk a b T L s1.2.1
 box:BoxOk a b T L s1.2.2.1 s1.2.2.2
 lo:leL s1.2.2.1 s1.2.1
 hi:leL s1.2.1 s1.2.2.2
theorem in39 {x0:Int} {s1:Int×List Int×List Int×List Int} {y:List Int×List Int×Int} {q:List Int×Int} (n:Nat) (hx:x0=n) (hn:n<1000) (h1:leL y.1 q.1) (h2:leL q.1 y.2.1) (hq:q.1.length=n) (ht:0≤s1.1∧s1.1≤1000) :
 iterC (b39_2 x0 s1 y q) 1000000000 0=some (.next (s1.1+1,q.1,y.1,y.2.1)):=by
 obtain ⟨e1,f1⟩:=leL_get h1
 obtain ⟨e2,f2⟩:=leL_get h2
 refine iter_run n (b39_2 x0 s1 y q) (fun i=>(i:Int)) _ (by omega) (fun i hi=> ?_) ?_
 ·have g1:=f1 i (by omega)
  have g2:=f2 i (by omega)
  simp only [b39_2]
  rw [if_pos (by rw [decide_eq_true_eq]; omega),if_pos ⟨by omega,by omega⟩,if_pos ⟨by omega,by omega⟩,if_pos ⟨by omega,by omega⟩]
  simp only [Int.toNat_natCast,p59,bindC,inR_iff.2 ⟨g1,g2⟩]
  rw [if_neg (by simp),wS i (by omega)]
  rfl
 ·simp only [b39_2]
  rw [if_neg (by rw [decide_eq_true_eq]; omega),p19 q.1 (by omega),p40 y.1 y.2.1 (by omega) (by omega)]
  simp only [bindC]
  rw [IntWalk.i64_in (s1.1+1) ⟨by omega,by omega⟩]
theorem t39 {a b:Int} {T:TL} {L:List TL} {t0:Int} {S:SL} {R:List (Int×Int)} {s:List Int} {f tot ticks cur law part:Int} (H:AllOk a b T L s) (hn:L.length<1000) (hL:∀ x∈L,x.length<1000) (hc:Fd.clsE t0 S R=0) (hf:inR f 1 8=true)
 (ht:0≤tot∧tot≤9000) (hk:0≤ticks∧ticks≤10) (hlaw:0≤law∧law<L.length) (hN:a=S.length):r39 a b T L t0 S R s f tot ticks cur law part=some true:=by
 obtain ⟨c1,c2,c3⟩:=Fd.cls_ok hc
 have hd:Fd.driveE S.length f (List.replicate S.length false)=0:=by unfold Fd.driveE; rw [hf,if_pos (by rfl),if_pos (by simp)]
 obtain ⟨ok,cl⟩:=Fd.cl_of hc hd ht.1 (by omega)
 have hle:=ok.lad.le
 have hpos:=ok.lad.pos
 have hT:=H.ok.tlt
 have hcells:=H.ok.cells
 have hsl:=H.len
 obtain ⟨g1,g2,g3⟩:=rngs ok cl _ rfl
 have hspec:=Fd.chR_spec cl.r R.length (Nat.le_refl _)
 have h256:4 ^ R.length≤256:=by
  have:(4:Nat) ^ R.length≤4 ^ 4:=Nat.pow_le_pow_right (by omega) (by omega)
  simpa using this
 have hldl:(Fd.ldK t0 S R R.length).length=(Fd.chR R R.length).length:=by simp [Fd.ldK]
 have hne:0<(Fd.chR R R.length).length:=by
  have:=Fd.mem_chR (Rg:=R) (q:=R.map (·.1)) R.length (by simp) (Nat.le_refl _) (fun i hi=>by
   rw [mapD (fun r:Int×Int=>r.1) hi]
   have:=cl.r _ (getD_mem hi)
   omega)
  exact List.length_pos_of_mem this
 generalize ho:Fd.full (Fd.watQ (Fd.reactV f S (List.replicate S.length false)) tot) [] R []=o at g1 g2 g3
 unfold r39
 rw [if_pos ⟨by omega,by omega,by omega,by omega⟩,Fd.p60 t0 S R (by omega) (by omega),Option.bind_some,Fd.p20 f _ (by simp; omega),Option.bind_some]
 simp only
 rw [Fd.p61 t0 S R f _ tot (by omega),if_neg (by simp [hc]),if_neg (by simp [hd]),if_pos (inR_iff.2 ⟨ht.1,by omega⟩),ho,Option.bind_some,if_neg (by simp; omega),Fd.p122 ok cl.r c2,Option.bind_some,Fd.p67 part _ (by omega) (by omega),Option.bind_some]
 have m0:0≤part % ((Fd.ldK t0 S R R.length).length:Int):=Int.emod_nonneg _ (by omega)
 have m1:part % ((Fd.ldK t0 S R R.length).length:Int)<(Fd.ldK t0 S R R.length).length:=Int.emod_lt_of_pos _ (by omega)
 rw [if_pos ⟨m0,m1⟩]
 generalize hv:part % ((Fd.ldK t0 S R R.length).length:Int)=v at m0 m1
 have hvn:v.toNat<(Fd.chR R R.length).length:=by omega
 have hq:=getD_mem hvn
 have hown:(Fd.ldK t0 S R R.length).getD v.toNat default=(t0,Fd.setC S ((Fd.chR R R.length).getD v.toNat default)):=mapD (fun q=>(t0,Fd.setC S q)) hvn
 rw [hown]
 generalize (Fd.chR R R.length).getD v.toNat default=q at hq
 obtain ⟨q1,q2⟩:=Fd.chR_in4 cl.r hq
 have qlen:q.length=S.length:=by omega
 have inc:=g3 q hq
 obtain ⟨w1,w2,w3⟩:=wat_ok ok ht.1 (by omega) q2 qlen
 have hb0:=Fd.bothE_of (Fd.setC_ok ok q2)
 simp only
 rw [Fd.p38,if_neg (by simp [hb0]),if_pos (inR_iff.2 ⟨ht.1,by omega⟩),Fd.setC_conds S q qlen,Fd.setC_react f S q]
 have eW:Fd.wat tot (Fd.powV q (Fd.reactV f S (List.replicate S.length false))).sum 0 (Fd.powV q (Fd.reactV f S (List.replicate S.length false)))=Fd.watQ (Fd.reactV f S (List.replicate S.length false)) tot q:=rfl
 rw [eW,Option.bind_some]
 generalize Fd.watQ (Fd.reactV f S (List.replicate S.length false)) tot q=W at inc w1 w2 w3
 have sz:spanErrV a L o law law=0:=span_zero (by omega) (fun r hr=>by have:=g2 r hr; omega) hlaw
 have dz:driveErrV a L W law=0:=drive_zero (by omega) (fun x hx=>by have:=w2 x hx; omega) hlaw
 rw [if_neg (by simp; omega),p48 a b T L o law law hn (by omega),sz,Option.bind_some,if_neg (by simp),p19 s (by omega),Option.bind_some]
 obtain ⟨l1,l2⟩:=inc_leL inc g1 w1
 refine iter_inv (b39_1 a b T L ticks law (o,0) (W,0)) (BI a b T L) (fun r=>r=some true) ticks.toNat (fun i s1 hi hI=> ?_) (fun s1 hI=> ?_) (0,s,s,s) ⟨rfl,H,⟨H,H,leL_rfl s⟩,leL_rfl s,leL_rfl s⟩ 1000000000 (by omega)
 ·obtain ⟨tt,now,blo,bhi⟩:=s1
  obtain ⟨ht1,Hn,HB,hlo,hhi⟩:=hI
  simp only at ht1 Hn HB hlo hhi
  subst ht1
  have n1:=Hn.len
  have n2:=HB.lo.len
  have n3:=HB.hi.len
  simp only [b39_1]
  rw [if_pos (by rw [decide_eq_true_eq]; omega),p18 a b T L hT hn hL]
  simp only [bindC]
  rw [p40 blo bhi (by omega) (by omega)]
  simp only
  rw [p42 (o,law,law) (by show o.length<_; omega)]
  simp only
  rw [p41 a b T L blo bhi (o,law,law) hT hn hL (by omega) (by omega) (by show o.length<_; omega)]
  have eB:boxStepV a b T L blo bhi (o,law,law)=bxR (boxS b T L blo bhi (o,law,law)):=by unfold boxStepV; rw [if_pos HB.err,if_pos sz]
  rw [eB]
  cases hb:boxS b T L blo bhi (o,law,law) with
  | none=>right; exact ⟨some true,rfl,rfl⟩
  | some y=>
   left
   have HB2:=HB.next (d:=(o,law,law)) sz hb
   have hy:y=(outS b T (L.getD law.toNat default) blo (o.map (·.1)),outS b T (L.getD law.toNat default) bhi (o.map (·.2))):=by
    unfold boxS at hb
    split at hb
    ·exact (Option.some.inj hb).symm
    ·cases hb
   have k1:leL y.1 (outS b T (L.getD law.toNat default) now W):=by rw [hy]; exact outS_leL H.ok hlaw hlaw (Int.le_refl _) hlo l1
   have k2:leL (outS b T (L.getD law.toNat default) now W) y.2:=by rw [hy]; exact outS_leL H.ok hlaw hlaw (Int.le_refl _) hhi l2
   have hin:=in_between H.ok k1 k2 HB2.lo.ins HB2.hi.ins
   have hall:(outS b T (L.getD law.toNat default) now W).all (inT T)=true:=by rw [List.all_eq_true]; exact hin
   have Hn2:=Hn.next hall
   have n4:((outS b T (L.getD law.toNat default) now W).length:Int)=a:=Hn2.len
   have n5:(outS b T (L.getD law.toNat default) now W).length=S.length:=by omega
   rw [show bxR (some y)=(y.1,y.2,(0:Int)) from rfl]
   simp only
   rw [if_neg (by simp),p19 now (by omega)]
   simp only
   rw [p19 W (by omega)]
   simp only
   rw [p64 a b T L now W law hT hn hL (by omega) (by omega),Hn.stepped dz]
   have eS:stepV b T (L.getD law.toNat default) now W=(outS b T (L.getD law.toNat default) now W,0):=by unfold stepV; rw [if_pos hall]
   rw [eS]
   simp only
   have m1':=HB2.lo.len
   have m2':=HB2.hi.len
   rw [p82 a b T L y.1 y.2 hn hL (by omega) (by omega),HB2.err,if_pos (by intro _; rfl),if_neg (by simp only [n4]; simp)]
   refine ⟨((i:Int)+1,outS b T (L.getD law.toNat default) now W,y.1,y.2),?_,⟨by simp,Hn2,HB2,k1,k2⟩⟩
   rw [in39 S.length hN (by omega) k1 k2 n5 ⟨by show 0≤(i:Int); omega,by show (i:Int)≤1000; omega⟩]
   rfl
 ·obtain ⟨tt,now,blo,bhi⟩:=s1
  have ht1:=hI.t
  simp only at ht1
  subst ht1
  simp only [b39_1]
  rw [if_neg (by rw [decide_eq_true_eq]; omega)]
  exact ⟨some true,rfl,rfl⟩
end Go.Proofs.YthldpejmofhaoaaGreatDoor
namespace Go.Proofs.YthldpejmofhaoaaGreatDoor
open Go.Abs
structure FI (a b:Int) (T:TL) (L:List TL) (s:List Int) (tot:Int) (i:Nat) (s1:Int×DL×Int×List Int) (y:List (List Int)×Int):Prop where
 t:s1.2.2.1=i
 now:AllOk a b T L s1.2.2.2
 run:runS b T L s s1.2.1=some y
 last:lastS s y.1=s1.2.2.2
 len:s1.2.1.length=i
 drv:∀ d∈s1.2.1,driveErrV a L d.1 d.2=0
 sum:sumIn s1.2.1=s1.1
 inn:s1.1=tot*i
theorem fin4 {a b:Int} {T:TL} {L:List TL} {s:List Int} {tot:Int} {i:Nat} {s1:Int×DL×Int×List Int} {y:List (List Int)×Int} (H:AllOk a b T L s) (I:FI a b T L s tot i s1 y) (hi:i≤10) (ht:0≤tot∧tot≤9000) (hn:L.length<1000) (hL:∀ x∈L,x.length<1000) :
 ∃ v,r20 a b T L s s1.2.1=some v∧v.2.2.2.2=0∧v.2.1=s1.1∧v.2.2.2.1=sumW 0 s1.2.2.2∧IntKind.i64.wrap (v.1+v.2.1)=IntKind.i64.wrap (v.2.2.1+v.2.2.2.1):=by
 have hT:=H.ok.tlt
 have hcells:=H.ok.cells
 have hsl:=H.len
 have hdl:∀ d∈s1.2.1,d.1.length<1000000:=fun d hd=>by have:=(drive_ok (I.drv d hd)).1; omega
 have hl:=I.len
 have z:drivesErrV a L s1.2.1=0:=drives_zero (by omega) I.drv
 obtain ⟨e1,e2⟩:=bal_some H z I.run
 obtain ⟨-,-,k3,-,-,-⟩:=run_all s1.2.1 s y H I.drv I.run
 have iw:=inW_eq s1.2.1 0 (fun d hd=>drive_sum H.ok (I.drv d hd)) (by omega) (by omega)
 have hs:=H.sum
 have hl2:=I.now.sum
 rw [I.last] at k3 e2
 have hsum:=I.sum
 refine ⟨_,p68 a b T L s s1.2.1 hT hn hL (by omega) (by omega) hdl,?_⟩
 rw [e2]
 refine ⟨rfl,by show inW 0 s1.2.1=_; omega,rfl,?_⟩
 show IntKind.i64.wrap (sumW 0 s+inW 0 s1.2.1)=IntKind.i64.wrap (y.2+sumW 0 s1.2.2.2)
 congr 1
 omega
theorem kel_loop {a b:Int} {T:TL} {L:List TL} {t0:Int} {S:SL} {R:List (Int×Int)} {s:List Int} {f tot ticks cur law part:Int} {s1:Int×DL×Int×List Int} (H:AllOk a b T L s1.2.2.2) (hn:L.length<1000) (hL:∀ x∈L,x.length<1000) (hN:a=S.length) {E} (hE:b4_2 a b T L t0 S R s f tot ticks cur law part s1 (kelV T s1.2.2.2,(S.length:Int))= .out E) :
 iterC (b4_2 a b T L t0 S R s f tot ticks cur law part s1) 1000000000 ([],0)=E:=by
 have hT:=H.ok.tlt
 have hcells:=H.ok.cells
 have hsl:=H.len
 have hlen:s1.2.2.2.length=S.length:=by omega
 refine iter_run S.length (b4_2 a b T L t0 S R s f tot ticks cur law part s1) (fun i=>((kelV T s1.2.2.2).take i,(i:Int))) E (by omega) (fun i hi=> ?_) ?_
 ·have hm:=getD_mem (l:=s1.2.2.2) (i:=i) (by omega)
  obtain ⟨k1,k2,k3,k4⟩:=kel H hn hL hm
  have hs:(kelV T s1.2.2.2).take i++[(pl T (s1.2.2.2.getD i default)).num / ((pl T (s1.2.2.2.getD i default)).den:Int)]=(kelV T s1.2.2.2).take (i+1):=by
   rw [take_ext _ i (by rw [kelV_len]; omega)]
   unfold kelV
   rw [mapD (fun (e:Int)=>(pl T e).num / ((pl T e).den:Int)) (show i<s1.2.2.2.length by omega)]
  have hti:((kelV T s1.2.2.2).take i).length=i:=by rw [List.length_take,kelV_len]; omega
  simp only [b4_2,ltN hi,if_true,p18 a b T L hT hn hL,bindC,if_pos (rgN (show i<s1.2.2.2.length by omega)),Int.toNat_natCast]
  rw [k1]
  simp only [p59,inR_iff.2 k2,inR_iff.2 k3,Option.isSome_some,Option.getD_some,implies_true,if_true]
  rw [if_neg (by simp),p129 _ _ (by omega) (by omega) (by omega)]
  simp only [hti]
  rw [if_pos ⟨by omega,by omega⟩,hs,wS i (by omega)]
  rfl
 ·rw [show (kelV T s1.2.2.2).take S.length=kelV T s1.2.2.2 by rw [← hlen, ← kelV_len T,List.take_length]]
  exact hE
theorem rep10 (x:List Bool) (h:x.length≤1000000):r35 x=some x:=by
 unfold r35; rw [if_pos ⟨by omega,by omega⟩]
theorem round4 {a b:Int} {T:TL} {L:List TL} {t0:Int} {S:SL} {R:List (Int×Int)} {s:List Int} {f tot ticks cur law part:Int} (H0:AllOk a b T L s) (hn:L.length<1000) (hL:∀ x∈L,x.length<1000) (hc:Fd.clsE t0 S R=0) (hf:inR f 1 8=true) (ht:0≤tot∧tot≤9000) (hk:0≤ticks∧ticks≤10) (hcur:1≤cur∧cur≤3000) (hlaw:0≤law∧law<L.length) (hN:a=S.length)
 {i:Nat} (hi:i<ticks.toNat) {s1:Int×DL×Int×List Int} {y:List (List Int)×Int} (I:FI a b T L s tot i s1 y) :
 (∃ s2 y2,b4_1 a b T L t0 S R s f tot ticks cur law part s1= .next s2∧FI a b T L s tot (i+1) s2 y2)∨b4_1 a b T L t0 S R s f tot ticks cur law part s1= .out (some true):=by
 have H:=I.now
 have hT:=H.ok.tlt
 have hcells:=H.ok.cells
 have hsl:=H.len
 have hs0:=H0.len
 obtain ⟨c1,c2,c3⟩:=Fd.cls_ok hc
 have hdr:Fd.driveE S.length f (hotV (kelV T s1.2.2.2) cur)=0:=by unfold Fd.driveE; rw [hf,if_pos (by rfl),if_pos (by rw [hotV_len,kelV_len]; omega)]
 obtain ⟨ok,-⟩:=Fd.cl_of hc hdr ht.1 (by omega)
 have hle:=ok.lad.le
 have hb0:=Fd.bothE_of ok
 have hq:Fd.In4 (Fd.condsV S):=fun c hcm=>by
  obtain ⟨x,hx,rfl⟩:=List.mem_map.1 hcm
  exact (ok.lad.shell x hx).1
 obtain ⟨w1,w2,w3⟩:=wat_ok ok ht.1 (by omega) hq (Fd.condsV_len S)
 have h39:=t39 (cur:=cur) (part:=part) H0 hn hL hc hf ht hk hlaw hN
 have eW:Fd.wat tot (Fd.powV (Fd.condsV S) (Fd.reactV f S (hotV (kelV T s1.2.2.2) cur))).sum 0 (Fd.powV (Fd.condsV S) (Fd.reactV f S (hotV (kelV T s1.2.2.2) cur)))=Fd.watQ (Fd.reactV f S (hotV (kelV T s1.2.2.2) cur)) tot (Fd.condsV S):=rfl
 generalize hW:Fd.watQ (Fd.reactV f S (hotV (kelV T s1.2.2.2) cur)) tot (Fd.condsV S)=W at eW w1 w2 w3
 have dz:driveErrV a L W law=0:=drive_zero (by omega) (fun x hx=>by have:=w2 x hx; omega) hlaw
 have hsumW:sumW 0 W=tot:=by
  have:=(drive_sum H.ok dz).1
  rw [this,sumL_sum,w3]
 have it:=I.t
 have ilen:=I.len
 have iin:=I.inn
 have hmul:0≤tot*(i:Int)∧tot*(i:Int)≤9000*10:=mulB ht.1 ht.2 (by omega) (by omega)
 have hdl:∀ d∈s1.2.1,d.1.length<1000000:=fun d hd=>by have:=(drive_ok (I.drv d hd)).1; omega
 unfold b4_1
 rw [if_pos (by rw [decide_eq_true_eq]; omega)]
 have key:∀ E,b4_2 a b T L t0 S R s f tot ticks cur law part s1 (kelV T s1.2.2.2,(S.length:Int))= .out (some E)→(iterC (b4_2 a b T L t0 S R s f tot ticks cur law part s1) 1000000000 ([],0)).getD (.out none)=E:=fun E hE=>by
  rw [kel_loop H hn hL hN hE]; rfl
 by_cases hall:(outS b T (L.getD law.toNat default) s1.2.2.2 W).all (inT T)=true
 ·left
  have eS:stepV b T (L.getD law.toNat default) s1.2.2.2 W=(outS b T (L.getD law.toNat default) s1.2.2.2 W,0):=by unfold stepV; rw [if_pos hall]
  have H2:=H.next hall
  have n4:((outS b T (L.getD law.toNat default) s1.2.2.2 W).length:Int)=a:=H2.len
  refine ⟨(s1.1+tot,s1.2.1++[(W,law)],(i:Int)+1,outS b T (L.getD law.toNat default) s1.2.2.2 W),(y.1++[outS b T (L.getD law.toNat default) s1.2.2.2 W],y.2+lossS T (L.getD law.toNat default) (hd (mixS b T s1.2.2.2))),key _ ?_,?_⟩
  ·simp only [b4_2]
   rw [if_neg (by simp),p19 (kelV T s1.2.2.2) (by rw [kelV_len]; omega)]
   simp only [bindC]
   rw [h33 (kelV T s1.2.2.2) cur (by rw [kelV_len]; omega) (kelV_rng H hn hL) hcur]
   simp only
   rw [if_neg (by rw [hotV_len,kelV_len]; simp; omega),Fd.p19 t0 S (by omega)]
   simp only
   rw [rep10 _ (by rw [hotV_len,kelV_len]; omega)]
   simp only
   rw [Fd.p38,if_neg (by simp [hb0]),if_pos (inR_iff.2 ⟨ht.1,by omega⟩),eW]
   simp only
   rw [p70 a b T L W law hn (by omega),dz,p79 W (by omega),hsumW]
   simp only [Option.isSome_some,Option.getD_some,implies_true,if_true]
   rw [if_neg (by simp; omega),p19 W (by omega)]
   simp only
   rw [p18 a b T L hT hn hL]
   simp only
   rw [p19 s1.2.2.2 (by omega)]
   simp only
   rw [p65 W law (by omega)]
   simp only
   rw [p64 a b T L s1.2.2.2 W law hT hn hL (by omega) (by omega),H.stepped dz,eS]
   simp only
   rw [if_neg (by decide),p21 a b T L _ hT hn hL (by omega),H2.stErr,if_pos (by intro _; rfl),if_neg (by simp only [n4,hN]; simp),p19 _ (by omega)]
   simp only
   rw [if_pos ⟨by omega,by omega⟩,it,IntWalk.i64_in (s1.1+tot) ⟨by omega,by omega⟩,IntWalk.i64_in ((i:Int)+1) ⟨by omega,by omega⟩]
  ·have hrs:=run_snoc (b:=b) (T:=T) (L:=L) s1.2.1 s y.1 y.2 (W,law) I.run
   rw [I.last] at hrs
   have hrs2:=hrs hall
   refine ⟨by simp,H2,hrs2,by simp only [lastS_snoc],by simp [ilen],fun d hd=> ?_,?_,?_⟩
   ·rcases List.mem_append.1 hd with hd | hd
    ·exact I.drv d hd
    ·rw [List.mem_singleton] at hd; subst hd; exact dz
   ·have happ:∀ (l m:DL),sumIn (l++m)=sumIn l+sumIn m:=fun l m=>by
     induction l with
     | nil=>simp [sumIn]
     | cons d r ih=>simp only [List.cons_append,sumIn,ih]; omega
    rw [happ,I.sum]
    simp only [sumIn]
    rw [sumL_sum,w3]; omega
   ·show s1.1+tot=_
    rw [iin]
    have:((i+1:Nat):Int)=(i:Int)+1:=by omega
    rw [this,Int.mul_add,Int.mul_one]
 ·right
  refine key _ ?_
  have eS:stepV b T (L.getD law.toNat default) s1.2.2.2 W=([],22):=by unfold stepV; rw [if_neg hall]
  obtain ⟨v,f1,f2,f3,f4,f5⟩:=fin4 H0 I (by omega) ht hn hL
  rw [f3,f4] at f5
  simp only [b4_2]
  rw [if_neg (by simp),p19 (kelV T s1.2.2.2) (by rw [kelV_len]; omega)]
  simp only [bindC]
  rw [h33 (kelV T s1.2.2.2) cur (by rw [kelV_len]; omega) (kelV_rng H hn hL) hcur]
  simp only
  rw [if_neg (by rw [hotV_len,kelV_len]; simp; omega),Fd.p19 t0 S (by omega)]
  simp only
  rw [rep10 _ (by rw [hotV_len,kelV_len]; omega)]
  simp only
  rw [Fd.p38,if_neg (by simp [hb0]),if_pos (inR_iff.2 ⟨ht.1,by omega⟩),eW]
  simp only
  rw [p70 a b T L W law hn (by omega),dz,p79 W (by omega),hsumW]
  simp only [Option.isSome_some,Option.getD_some,implies_true,if_true]
  rw [if_neg (by simp; omega),p19 W (by omega)]
  simp only
  rw [p18 a b T L hT hn hL]
  simp only
  rw [p19 s1.2.2.2 (by omega)]
  simp only
  rw [p65 W law (by omega)]
  simp only
  rw [p64 a b T L s1.2.2.2 W law hT hn hL (by omega) (by omega),H.stepped dz,eS]
  simp only
  rw [if_pos (by decide),p19 s (by omega),Option.bind_some,p67 s1.2.1 (by omega) hdl,Option.bind_some,f1,Option.bind_some,p79 s1.2.2.2 (by omega),h39,f2,f3,f4,f5]
  simp
theorem lad_eq (T:Int) (S:SL):Sr.ladE T S=Fd.ladE T S:=by
 have e:Sr.ladO T S=Fd.ladO T S:=(Sr.p30 T S).symm.trans (Fd.p29 T S)
 unfold Sr.ladE Fd.ladE
 rw [e]
theorem field_law (a b:Int) (T:TL) (L:List TL) (t0:Int) (S:SL) (R:List (Int×Int)) (s:List Int) (f tot ticks cur law part:Int):r4 a b T L t0 S R s f tot ticks cur law part=some true:=by
 unfold r4
 rw [awake25,Option.bind_some,awake6,if_pos (by intro _; rfl),if_neg (by decide),p15,Option.bind_some]
 by_cases hf0:(((((!(fewV T L)) || (decide ((S.length:Int)>4))) || (Fd.clsE t0 S R != 0)) || (a != (S.length:Int))) || (decide ((s.length:Int)>12)))=true
 ·simp only [Fd.p66,p59,Option.isSome_some,Option.getD_some,implies_true,if_true,hf0,Bool.true_or,Bool.not_true,Bool.false_eq_true,false_implies]
 ·have hf0':=hf0
  simp only [Bool.or_eq_true,not_or,bne_iff_ne,ne_eq,Decidable.not_not,decide_eq_true_eq,Bool.not_eq_true',Bool.not_eq_false] at hf0'
  obtain ⟨⟨⟨⟨hfew,hS4⟩,g1⟩,g2⟩,hs12⟩:=hf0'
  obtain ⟨hT10,hL6,hL⟩:=few_of hfew
  simp only [Fd.p66,p21 a b T L s (by omega) (by omega) hL (by omega),p61 a b T L law (by omega),p59,Option.isSome_some,Option.getD_some,implies_true,if_true]
  split
  ·rfl
  ·rename_i hg
   simp only [Bool.or_eq_true,not_or,bne_iff_ne,ne_eq,Decidable.not_not,decide_eq_true_eq,Bool.not_eq_true',Bool.not_eq_false] at hg
   obtain ⟨⟨⟨⟨⟨⟨_,g3⟩,g4⟩,g5⟩,g6⟩,g7⟩,g8⟩:=hg
   have H:=allOk_of g3
   have hlaw:=codeIf0 g8 (by decide)
   rw [inR_iff] at hlaw
   have ht:0≤tot∧tot≤9000:=inR_iff.1 g5
   have hk:0≤ticks∧ticks≤10:=inR_iff.1 g6
   have hcur:1≤cur∧cur≤3000:=inR_iff.1 g7
   have hcells:=H.ok.cells
   have hsl:=H.len
   obtain ⟨c1,c2,c3⟩:=Fd.cls_ok g1
   have lad:=Fd.ladOk_of c1
   have jt:Sr.In64 t0:=⟨by have:=lad.turns; omega,by have:=lad.turns; omega⟩
   have js:∀ q∈S,Sr.In3 q:=fun q hq=>by
    have:=lad.shell q hq
    exact ⟨⟨by omega,by omega⟩,⟨by omega,by omega⟩,⟨by omega,by omega⟩⟩
   have hfl:=Sr.fmt_len jt js
   rw [Fd.p19 t0 S (by omega),Option.bind_some,Sr.p6 t0 S jt js (by omega),Option.bind_some,Sr.p8,Option.bind_some,Sr.round (by rw [lad_eq]; exact c1) (by omega)]
   simp only
   rw [Sr.p11 t0 S (by omega),if_pos (by intro _; rfl),if_neg (by simp),p19 s (by omega),Option.bind_some]
   refine iter_inv (b4_1 a b T L t0 S R s f tot ticks cur law part) (fun i s1=>∃ y,FI a b T L s tot i s1 y) (fun r=>r=some true) ticks.toNat (fun i s1 hi hI=> ?_) (fun s1 hI=> ?_) (0,[],0,s) ⟨([],0),rfl,H,by unfold runS; rfl,rfl,rfl,by simp,rfl,by simp⟩ 1000000000 (by omega)
   ·obtain ⟨y,I⟩:=hI
    rcases round4 (cur:=cur) (part:=part) H (by omega) hL g1 g4 ht hk hcur ⟨hlaw.1,by omega⟩ g2 hi I with ⟨s2,y2,h1,h2⟩ | h
    ·exact .inl ⟨s2,h1,y2,h2⟩
    ·exact .inr ⟨_,h,rfl⟩
   ·obtain ⟨y,I⟩:=hI
    obtain ⟨v,f1,f2,f3,f4,f5⟩:=fin4 H I (by omega) ht (by omega) hL
    have h39:=t39 (cur:=cur) (part:=part) H (show L.length<1000 by omega) hL g1 g4 ht hk ⟨hlaw.1,by omega⟩ g2
    have it:=I.t
    have ilen:=I.len
    have hdl:∀ d∈s1.2.1,d.1.length<1000000:=fun d hd=>by have:=(drive_ok (I.drv d hd)).1; omega
    have hnl:=I.now.len
    rw [f3,f4] at f5
    refine ⟨some true,?_,rfl⟩
    unfold b4_1
    rw [if_neg (by rw [decide_eq_true_eq]; omega),p18 a b T L (by omega) (by omega) hL,Option.bind_some,p19 s (by omega),Option.bind_some,p67 s1.2.1 (by omega) hdl,Option.bind_some]
    simp only
    rw [f1,Option.bind_some,p79 s1.2.2.2 (by omega),h39,f2,f3,f4,f5]
    simp
end Go.Proofs.YthldpejmofhaoaaGreatDoor

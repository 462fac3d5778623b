/- Benches: which are valid; the drive of a tick. -/
import Derived.Test.YtkbdjphdhcgmaaaGreatDoorF01
import Derived.Test.YtkbdjphdhcgmaaaGreatDoorF12
import Derived.Test.YtkbdjphdhcgmaaaGreatDoorHeatX
set_option linter.unusedVariables false
set_option linter.unusedSimpArgs false
namespace Go.Proofs.YtkbdjphdhcgmaaaGreatDoor
open Go.dR
abbrev TL:=List (Int×Int)
structure rW (a b:Int) (T:TL) (L:List TL) (lo hi:List Int) (W:TL) (air spread:Int):Prop where
 box:BoxOk a b T L lo hi
 bx0:nP a b T L lo hi=0
 afm:(W.length:Int)=a
 wts:∀ w∈W,(0<=w.1/\w.1<=1000)/\(0<=w.2/\w.2<=1000)/\w.1<=w.2
 air:0<=air/\air<L.length
 spread:0<=spread/\spread<=4
theorem wI1 {n:Nat} (h:n<1000):IntKind.i64.wrap ((n:Int) - 1)=(n:Int) - 1:=IntWalk.i64_in _ ⟨by omega,by omega⟩
theorem fF {n lo hi:Int}:dW n lo hi=true↔lo<=n/\n<=hi:=by simp [dW]
theorem adq (a b:Int) (T:TL) (L:List TL) (lo hi:List Int) (W:TL) (air spread n:Int) (hn:L.length<1000):r53 a b T L lo hi W air spread n=some (dW n 0 ((L.length:Int) - 1)):=by
 unfold r53
 rw [wI1 hn,p59]; rfl
theorem unl (c:Bool) (e:Int):jV c e=some (bW c e):=by unfold jV bW; cases c<;>rfl
theorem fst (l:List Int) (hl:l.length<1000000000):vF l=some (dL l):=by
 have h:=kR (τ:=Unit) l (Ib l) (fun i _=>i) (fun _ _ x=>if x=0 then .next () else .out (some x)) (fun _=>some 0) hl
  (fun i t hi=>by
   simp only [Ib,lS hi,if_true,if_pos (jJ hi),Int.toNat_natCast,wS i (by omega)]
   generalize l.getD i default=x
   by_cases hx:x=0<;>simp [hx,Jp])
  (fun t=>by simp [Ib]) ()
 unfold vF
 rw [h]
 have:∀ (r:List Int) (i:Int),kS (fun _ _ x=>if x=0 then cO.next () else .out (some x)) (fun _:Unit=>some 0) i r ()=some (dL r):=by
  intro r
  induction r with
  | nil=>intro i; rfl
  | cons x r ih=>
   intro i
   by_cases hx:x=0
   ·simp only [kS,hx,if_true,dL]; exact ih _
   ·simp only [kS,if_neg hx,dL]
 exact this l 0
theorem wit (n lo hi:Int):E8 n lo hi=some (dW n lo hi):=(rfl)
theorem rW.few {a b:Int} {T:TL} {L:List TL} {lo hi:List Int} {W:TL} {air spread:Int} (B:rW a b T L lo hi W air spread):T.length<1000/\L.length<1000/\(∀ x∈L,x.length<1000)/\lo.length<=12/\hi.length<=12/\W.length<=12:=by
 have ok:=B.box.lo.ok
 have h1:=B.box.lo.len; have h2:=B.box.hi.len; have h3:=B.afm; have h4:=ok.cells; have h5:=ok.Xd; have h6:=ok.llen
 refine ⟨by omega,by omega,fun x hx=> ?_,by omega,by omega,by omega⟩
 obtain ⟨j,hj,rfl⟩:=List.getElem_of_mem hx
 have:=(ok.laws j hj).len
 rw [List.getD_eq_getElem?_getD,List.getElem?_eq_getElem hj,Option.getD_some] at this
 omega
theorem last {a b:Int} {T:TL} {L:List TL} {lo hi:List Int} {W:TL} {air spread:Int} (hn:L.length<1000):r47 a b T L lo hi W air spread=some ((L.length:Int) - 1):=by
 unfold r47; rw [wI1 hn]
def pwV (W:TL) (p:Int):List Int:=W.map fun w=>p*((w.1+w.2) / 2) / 1000
theorem XG {W:TL} (hW:∀ w∈W,(0<=w.1/\w.1<=1000)/\(0<=w.2/\w.2<=1000)/\w.1<=w.2) {p:Int} (hp:0<=p/\p<=10000):∀ x∈pwV W p,0<=x/\x<=10000:=by
 intro x hx
 obtain ⟨w,hw,rfl⟩:=List.mem_map.1 hx
 obtain ⟨h1,h2,h3⟩:=hW w hw
 have hm:0<=(w.1+w.2) / 2/\(w.1+w.2) / 2<=1000:=by omega
 have h4:0<=p*((w.1+w.2) / 2):=Int.mul_nonneg hp.1 hm.1
 have h5:p*((w.1+w.2) / 2)<=10000*1000:=Int.mul_le_mul hp.2 hm.2 hm.1 (by omega)
 omega
theorem pw1 {w:Int×Int} (hw:(0<=w.1/\w.1<=1000)/\(0<=w.2/\w.2<=1000)/\w.1<=w.2) {p:Int} (hp:0<=p/\p<=10000) :
 IntKind.i64.wrap (w.1+w.2)=w.1+w.2/\0<=(w.1+w.2) / 2/\(w.1+w.2) / 2<=1000/\IntKind.i64.wrap ((IntKind.i64.wrap (w.1+w.2)).tdiv 2)=(w.1+w.2) / 2/\IntKind.i64.wrap (p*((w.1+w.2) / 2))=p*((w.1+w.2) / 2)/\0<=p*((w.1+w.2) / 2)/\p*((w.1+w.2) / 2)<=10000000:=by
 obtain ⟨h1,h2,h3⟩:=hw
 have hm:0<=(w.1+w.2) / 2/\(w.1+w.2) / 2<=1000:=by omega
 have h4:0<=p*((w.1+w.2) / 2):=Int.mul_nonneg hp.1 hm.1
 have h5:p*((w.1+w.2) / 2)<=10000*1000:=Int.mul_le_mul hp.2 hm.2 hm.1 (by omega)
 have e1:IntKind.i64.wrap (w.1+w.2)=w.1+w.2:=IntWalk.i64_in _ ⟨by omega,by omega⟩
 refine ⟨e1,hm.1,hm.2,?_,IntWalk.i64_in _ ⟨by omega,by omega⟩,h4,by omega⟩
 rw [e1,Int.tdiv_eq_ediv_of_nonneg (by omega)]; exact IntWalk.i64_in _ ⟨by omega,by omega⟩
theorem aep {W:TL} (hl:W.length<1000) (hW:∀ w∈W,(0<=w.1/\w.1<=1000)/\(0<=w.2/\w.2<=1000)/\w.1<=w.2) {p:Int} (hp:0<=p/\p<=10000) (a b:Int) (T:TL) (L:List TL) (lo hi:List Int) (air spread law:Int) :
 PW a b T L lo hi W air spread p law 102=some (pwV W p,law):=by
 unfold PW
 refine eX (Hy W p law 102) (fun i s=>s=((i:Int),(pwV W p).take i)) (fun o=>o=some (pwV W p,law)) W.length ?_ ?_ _ (by simp) _ (by omega)
 ·rintro i _ hi rfl
  have hw:=hW _ (getD_mem hi)
  obtain ⟨e1,m1,m2,e2,e3,h4,h5⟩:=pw1 hw hp
  refine .inl ⟨(((i+1:Nat):Int),(pwV W p).take (i+1)),?_,rfl⟩
  have hlen:((pwV W p).take i).length=i:=by simp [pwV]; omega
  simp only [Hy,lS hi,if_true,if_pos (jJ hi),Int.toNat_natCast,wS i (by omega),if_neg (show ¬ (102:Nat)=87 by decide),aP,ae2,hlen]
  rw [if_pos ⟨by omega,by omega⟩,e2,e3,Int.tdiv_eq_ediv_of_nonneg h4,IntWalk.i64_in _ ⟨by omega,by omega⟩]
  congr 2
  rw [List.take_add_one,List.getElem?_eq_getElem (by simpa [pwV] using hi)]
  simp [pwV,List.getD_eq_getElem?_getD,hi]
 ·rintro _ rfl
  refine ⟨some (pwV W p,law),?_,rfl⟩
  simp only [Hy,y8,Bool.false_eq_true,if_false]
  rw [List.take_of_length_le (by simp [pwV])]
theorem aoL {v:Rat} {N D:Int} (h:At v N D 1000000 3000):0<=v.num/\v.num<=3000000000/\(v.den:Int)<=1000000:=by
 obtain ⟨g0,g1,g2⟩:=low h
 have h1:=h.pos; have h2:=h.le; have h3:=h.num
 have hg:0<=(Int.gcd N D:Int):=by omega
 have b1:0<=N / (Int.gcd N D:Int):=Int.ediv_nonneg h3.1 hg
 have b2:N / (Int.gcd N D:Int)<=N:=Int.ediv_le_self _ h3.1
 have b3:0<=D / (Int.gcd N D:Int):=Int.ediv_nonneg (by omega) hg
 have b4:D / (Int.gcd N D:Int)<=D:=Int.ediv_le_self _ (by omega)
 rw [Int.tdiv_eq_ediv_of_nonneg h3.1,IntWalk.i64_in _ ⟨by omega,by omega⟩] at g1
 rw [Int.tdiv_eq_ediv_of_nonneg (by omega),IntWalk.i64_in _ ⟨by omega,by omega⟩] at g2
 omega
def NQ (T:TL) (k x:Int):Bool:=decide (¬ pl T x<=(k:Rat))
def runT (b:Int) (T:TL) (L:List TL) (W:TL):List Int->TL->Option (List Int)
 | s,[]=>some s
 | s,x::r=>if (jB b T (L.getD x.2.toNat default) s (pwV W x.1)).all (inT T)=true then runT b T L W (jB b T (L.getD x.2.toNat default) s (pwV W x.1)) r else none
section
variable {a b:Int} {T:TL} {L:List TL} {lo hi:List Int} {W:TL} {air spread:Int}
theorem afn (B:rW a b T L lo hi W air spread) {s:List Int} (H:jg a b T L s) {x:Int×Int} (hx:(0<=x.1/\x.1<=10000)/\0<=x.2/\x.2<L.length) :
 PW a b T L lo hi W air spread x.1 x.2 102=some (pwV W x.1,x.2)/\dA a L (pwV W x.1) x.2=0/\
 Xz a b T L s (pwV W x.1) x.2=some (if (jB b T (L.getD x.2.toNat default) s (pwV W x.1)).all (inT T)=true then (jB b T (L.getD x.2.toNat default) s (pwV W x.1),0) else ([],22)):=by
 obtain ⟨f1,f2,f3,f4,f5,f6⟩:=B.few
 have hl:=H.len; have hc:=H.ok.cells
 have hpl:(pwV W x.1).length=W.length:=by simp [pwV]
 have hd:dA a L (pwV W x.1) x.2=0:=wM (by rw [hpl]; exact B.afm) (XG B.wts hx.1) hx.2
 refine ⟨aep (by omega) B.wts hx.1 a b T L lo hi air spread x.2,hd,?_⟩
 rw [p64 a b T L s (pwV W x.1) x.2 f1 f2 f3 (by omega) (by omega),H.stepped hd]; rfl
end
def wtE (w:Int×Int):Int:=if dW w.1 0 1000 && dW w.2 0 1000 then (if w.1<=w.2 then 0 else 9) else 2
def aak (fin:Int):Int->TL->Int×Int
 | _,[]=>(0,fin)
 | i,w::r=>if wtE w=0 then aak fin (i+1) r else (i,wtE w)
def GK (a b:Int) (T:TL) (L:List TL) (lo hi:List Int) (W:TL) (air spread:Int):Int×Int:=
 if (bI a b T L).2=0 then
  if nP a b T L lo hi=0 then
   if (W.length:Int)=a then aak (if dW air 0 ((L.length:Int) - 1) then bW (dW spread 0 4) 2 else 6) 0 W else (0,10)
  else (0,nP a b T L lo hi)
 else (0,(bI a b T L).2)
theorem wO (fin:Int):∀ (r:TL) (i:Int),kS (fun i _ w=>if wtE w=0 then (.next ():cO Unit (Int×Int)) else .out (some (i,wtE w))) (fun _:Unit=>some (0,fin)) i r ()=some (aak fin i r)
 | [],_=>rfl
 | w::r,i=>by
  simp only [kS,aak]
  by_cases h:wtE w=0
  ·simp only [if_pos h]; exact wO fin r _
  ·simp only [if_neg h]
theorem X6 (i:Int) (w:Int×Int):(if ((!dW w.1 0 1000) || (!dW w.2 0 1000))=true then cO.out (some (i,2)) else if decide (w.1>w.2)=true then cO.out (some (i,9)) else (cO.next (i+1):cO Int (Int×Int)))=Jp (fun _=>i+1) (if wtE w=0 then cO.next () else cO.out (some (i,wtE w))):=by
 unfold wtE
 by_cases h:w.1<=w.2
 ·have h2:¬ w.1>w.2:=by omega
  cases dW w.1 0 1000<;>cases dW w.2 0 1000<;>simp [Jp,h,h2]
 ·have h2:w.1>w.2:=by omega
  cases dW w.1 0 1000<;>cases dW w.2 0 1000<;>simp [Jp,h,h2]
theorem aqN (a b:Int) (T:TL) (L:List TL) (lo hi:List Int) (W:TL) (air spread:Int) (hn:L.length<1000) (hL:∀ x∈L,x.length<1000) (h1:lo.length<1000000) (h2:hi.length<1000000) (hw:W.length<1000) :
 r52 a b T L lo hi W air spread=some (GK a b T L lo hi W air spread):=by
 unfold r52 GK
 rw [p45 a b T L hn hL,Option.bind_some]
 by_cases c0:(bI a b T L).2=0
 rotate_left
 ·rw [if_pos (by simpa using c0),if_neg c0]
 rw [if_neg (by simpa using c0),if_pos c0,p82 a b T L lo hi hn hL h1 h2,Option.bind_some]
 by_cases c1:nP a b T L lo hi=0
 rotate_left
 ·rw [if_pos (by simpa using c1),if_neg c1]
 rw [if_neg (by simpa using c1),if_pos c1]
 by_cases c2:(W.length:Int)=a
 rotate_left
 ·rw [if_pos (by simpa using c2),if_neg c2]
 rw [if_neg (by simpa using c2),if_pos c2]
 have h:=kR (τ:=Unit) W (Io a b T L lo hi W air spread) (fun i _=>i) (fun i _ w=>if wtE w=0 then .next () else .out (some (i,wtE w))) (fun _=>some (0,if dW air 0 ((L.length:Int) - 1) then bW (dW spread 0 4) 2 else 6)) (by omega)
  (fun i t hi=>by
   simp only [Io,lS hi,if_true,if_pos (jJ hi),Int.toNat_natCast,wS i (by omega),p59,aP,Option.isSome_some,implies_true,Option.getD_some]
   exact X6 i _)
  (fun t=>by
   simp only [Io,y8,Bool.false_eq_true,if_false,adq _ _ _ _ _ _ _ _ _ _ hn,Option.bind_some,p59]
   cases dW air 0 ((L.length:Int) - 1)<;>cases dW spread 0 4<;>rfl) ()
 rw [h]
 exact wO _ W 0
theorem YM (i:Int) (w:Int×Int):(aP (FD w.1) fun v5=>if v5=true->(FD w.2).isSome=true then aP (jV (v5 && ((FD w.2).getD default)) 2) fun v6=>aP (jV (decide (w.1<=w.2)) 9) fun v7=>aP (vF [v6,v7]) fun v8=>if (v8 != 0)=true then cO.out (some (i,v8)) else (cO.next (i+1):cO Int (Int×Int)) else cO.out none)=Jp (fun _=>i+1) (if wtE w=0 then cO.next () else cO.out (some (i,wtE w))):=by
 have g:∀ n,FD n=some (dW n 0 1000):=fun n=>by unfold FD; rw [wit]; rfl
 simp only [g,unl,aP,Option.isSome_some,implies_true,if_true,Option.getD_some]
 have q:vF [bW (dW w.1 0 1000 && dW w.2 0 1000) 2,bW (decide (w.1<=w.2)) 9]=some (wtE w):=by
  rw [fst _ (by simp)]
  unfold wtE bW
  cases dW w.1 0 1000<;>cases dW w.2 0 1000<;>by_cases h:w.1<=w.2<;>simp [dL,h]
 simp only [q]
 by_cases h:wtE w=0
 ·rw [if_neg (by simpa using h),if_pos h]; rfl
 ·rw [if_pos (by simpa using h),if_neg h]; rfl
theorem aqO (a b:Int) (T:TL) (L:List TL) (lo hi:List Int) (W:TL) (air spread:Int) (hT:T.length<1000) (hn:L.length<1000) (hL:∀ x∈L,x.length<1000) (h1:lo.length<1000000) (h2:hi.length<1000000) (hw:W.length<1000) :
 r71 a b T L lo hi W air spread=some (GK a b T L lo hi W air spread):=by
 unfold r71 GK
 rw [p24 a b T L hn hL,Option.bind_some,p39 a b T L lo hi hT hn hL h1 h2,Option.bind_some,unl,Option.bind_some,fst _ (by simp),Option.bind_some]
 by_cases c0:(bI a b T L).2=0
 rotate_left
 ·rw [if_neg c0,if_neg c0]
  have e:dL [(bI a b T L).2,((0:Int),(bI a b T L).2).2,bW ((W.length:Int) == a) 10]=(bI a b T L).2:=by simp [dL,c0]
  rw [e,if_pos (by simpa using c0)]
 rw [if_pos c0,if_pos c0]
 have eb:(kN a T lo hi).2=nP a b T L lo hi:=by unfold nP; rw [if_pos c0]
 rw [eb]
 by_cases c1:nP a b T L lo hi=0
 rotate_left
 ·have e:dL [(bI a b T L).2,nP a b T L lo hi,bW ((W.length:Int) == a) 10]=nP a b T L lo hi:=by simp [dL,c0,c1]
  rw [e,if_pos (by simpa using c1),if_neg c1]
 rw [if_pos c1]
 by_cases c2:(W.length:Int)=a
 rotate_left
 ·have e:dL [(bI a b T L).2,nP a b T L lo hi,bW ((W.length:Int) == a) 10]=10:=by simp [dL,c0,c1,bW,c2]
  rw [e,if_pos (by decide),if_neg c2]
 have e:dL [(bI a b T L).2,nP a b T L lo hi,bW ((W.length:Int) == a) 10]=0:=by simp [dL,c0,c1,bW,c2]
 rw [e,if_neg (by decide),if_pos c2]
 have h:=kR (τ:=Unit) W (H8 L W air spread) (fun i _=>i) (fun i _ w=>if wtE w=0 then .next () else .out (some (i,wtE w))) (fun _=>some (0,if dW air 0 ((L.length:Int) - 1) then bW (dW spread 0 4) 2 else 6)) (by omega)
  (fun i t hi=>by
   simp only [H8,lS hi,if_true,if_pos (jJ hi),Int.toNat_natCast,wS i (by omega)]
   exact YM i _)
  (fun t=>by
   simp only [H8,y8,Bool.false_eq_true,if_false]
   rw [wI1 hn,wit,Option.bind_some,unl,Option.bind_some,wit,Option.bind_some,unl,Option.bind_some,fst _ (by simp),Option.bind_some]
   unfold bW
   cases dW air 0 ((L.length:Int) - 1)<;>cases dW spread 0 4<;>rfl) ()
 rw [h]
 exact wO _ W 0
theorem Xb {fin:Int}:∀ {r:TL} {i:Int},(aak fin i r).2=0->fin=0/\∀ w∈r,wtE w=0
 | [],i,h=>⟨h,by simp⟩
 | w::r,i,h=>by
  simp only [aak] at h
  by_cases hw:wtE w=0
  ·rw [if_pos hw] at h
   obtain ⟨h1,h2⟩:=Xb h
   exact ⟨h1,fun x hx=>by rcases List.mem_cons.1 hx with rfl | hx; exact hw; exact h2 x hx⟩
  ·rw [if_neg hw] at h; exact absurd h hw
theorem afk {w:Int×Int} (h:wtE w=0):(0<=w.1/\w.1<=1000)/\(0<=w.2/\w.2<=1000)/\w.1<=w.2:=by
 unfold wtE at h
 cases h1:dW w.1 0 1000<;>cases h2:dW w.2 0 1000<;>rw [h1,h2] at h<;>simp at h
 exact ⟨fF.1 h1,fF.1 h2,h⟩
theorem X5 {a b:Int} {T:TL} {L:List TL} {lo hi:List Int} {W:TL} {air spread:Int} (h:(GK a b T L lo hi W air spread).2=0):rW a b T L lo hi W air spread:=by
 unfold GK at h
 by_cases c0:(bI a b T L).2=0
 rotate_left
 ·rw [if_neg c0] at h; exact absurd h c0
 rw [if_pos c0] at h
 by_cases c1:nP a b T L lo hi=0
 rotate_left
 ·rw [if_neg c1] at h; exact absurd h c1
 rw [if_pos c1] at h
 by_cases c2:(W.length:Int)=a
 rotate_left
 ·rw [if_neg c2] at h; cases h
 rw [if_pos c2] at h
 obtain ⟨h1,h2⟩:=Xb h
 cases q1:dW air 0 ((L.length:Int) - 1) with
 | false=>rw [q1] at h1; cases h1
 | true=>
  rw [q1] at h1
  cases q2:dW spread 0 4 with
  | false=>rw [q2] at h1; cases h1
  | true=>
   have:=fF.1 q1
   exact ⟨WC c1,c1,c2,fun w hw=>afk (h2 w hw),by omega,fF.1 q2⟩
def tkE (n:Int) (x:Int×Int):Int:=if dW x.1 0 10000 then bW (dW x.2 0 (n - 1)) 6 else 2
def aal (n:Int):TL->Int
 | []=>0
 | x::r=>if tkE n x=0 then aal n r else tkE n x
def CS (L:List TL) (t:TL):Int:=if t.length<=200 then aal L.length t else 8
theorem YP (a b:Int) (T:TL) (L:List TL) (lo hi:List Int) (W:TL) (air spread:Int) (hn:L.length<1000) (i:Int) (x:Int×Int):(aP (r57 x.1 0 10000) fun v1=>if (!v1)=true then cO.out (some 2) else aP (r53 a b T L lo hi W air spread x.2) fun v2=>if (!v2)=true then cO.out (some 6) else (cO.next (i+1):cO Int Int))=Jp (fun _=>i+1) (if tkE L.length x=0 then cO.next () else cO.out (some (tkE L.length x))):=by
 simp only [p59,aP,adq _ _ _ _ _ _ _ _ _ _ hn]
 unfold tkE bW
 cases dW x.1 0 10000<;>cases dW x.2 0 ((L.length:Int) - 1)<;>simp [Jp]
theorem aaH (a b:Int) (T:TL) (L:List TL) (lo hi:List Int) (W:TL) (air spread:Int) (t:TL) (hn:L.length<1000):r21 a b T L lo hi W air spread t=some (CS L t):=by
 unfold r21 CS
 by_cases c:(t.length:Int)>200
 ·rw [if_pos (by simpa using c),if_neg (by omega)]
 rw [if_neg (by simpa using c),if_pos (by omega)]
 have h:=kR (τ:=Unit) t (IG a b T L lo hi W air spread t) (fun i _=>i) (fun _ _ x=>if tkE L.length x=0 then .next () else .out (some (tkE L.length x))) (fun _=>some 0) (by omega)
  (fun i _ hix=>by
   simp only [IG,lS hix,if_true,if_pos (jJ hix),Int.toNat_natCast,wS i (by omega)]
   exact YP a b T L lo hi W air spread hn i _)
  (fun _=>by simp [IG]) ()
 rw [h]
 have:∀ (r:TL) (i:Int),kS (fun _ _ x=>if tkE L.length x=0 then (.next ():cO Unit Int) else .out (some (tkE L.length x))) (fun _:Unit=>some 0) i r ()=some (aal L.length r):=by
  intro r
  induction r with
  | nil=>intro i; rfl
  | cons x r ih=>
   intro i
   simp only [kS,aal]
   by_cases h:tkE L.length x=0
   ·simp only [if_pos h]; exact ih _
   ·simp only [if_neg h]
 exact this t 0
theorem light (x1 x6:Int) (x2:TL) (x0:List TL) (x3 x4:List Int) (x5:TL) (x7 x8:Int):∃ v,r14 x1 x6 x2 x0 x3 x4 x5 x7 x8=some v/\(v=true->x1<=14/\x2.length<=14/\x0.length<=14/\x3.length<=14/\x4.length<=14/\x5.length<=14/\∀ x∈x0,x.length<1000):=by
 unfold r14
 by_cases c:((((((decide (x1>14)) || (decide ((x2.length:Int)>14))) || (decide ((x0.length:Int)>14))) || (decide ((x3.length:Int)>14))) || (decide ((x4.length:Int)>14))) || (decide ((x5.length:Int)>14)))=true
 ·rw [if_pos c]; exact ⟨false,rfl,fun h=>by cases h⟩
 rw [if_neg c]
 simp only [Bool.or_eq_true,decide_eq_true_eq,not_or] at c
 obtain ⟨⟨⟨⟨⟨c1,c2⟩,c3⟩,c4⟩,c5⟩,c6⟩:=c
 refine eX (IY x0) (fun i s=>s=(i:Int)/\∀ j,j<i->(x0.getD j default).length<=14) (fun o=>∃ v,o=some v/\(v=true->x1<=14/\x2.length<=14/\x0.length<=14/\x3.length<=14/\x4.length<=14/\x5.length<=14/\∀ x∈x0,x.length<1000)) x0.length ?_ ?_ _ ⟨rfl,fun j hj=>absurd hj (by omega)⟩ _ (by omega)
 ·rintro i _ hi ⟨rfl,hall⟩
  simp only [IY,lS hi,if_true,if_pos (jJ hi),Int.toNat_natCast,wS i (by omega)]
  by_cases w1:((x0.getD i default).length:Int)>14
  ·rw [if_pos (decide_eq_true w1)]; exact .inr ⟨_,rfl,_,rfl,fun h=>by cases h⟩
  rw [if_neg (by rw [decide_eq_true_eq]; exact w1)]
  refine .inl ⟨_,rfl,rfl,fun j hj=> ?_⟩
  by_cases hji:j=i
  ·subst hji; omega
  ·exact hall j (by omega)
 ·rintro _ ⟨rfl,hall⟩
  simp only [IY,y8,Bool.false_eq_true,if_false]
  refine ⟨_,rfl,_,rfl,fun _=>⟨by omega,by omega,by omega,by omega,by omega,by omega,fun x hx=> ?_⟩⟩
  obtain ⟨j,hj,rfl⟩:=List.getElem_of_mem hx
  have:=hall j hj
  rw [List.getD_eq_getElem?_getD,List.getElem?_eq_getElem hj,Option.getD_some] at this
  omega
theorem aac (a b:Int) (T:TL) (L:List TL) (lo hi:List Int) (W:TL) (air spread:Int) (hT:T.length<1000) (hn:L.length<1000) (hL:∀ x∈L,x.length<1000) (h1:lo.length<1000000) (h2:hi.length<1000000) (hw:W.length<1000):r16 a b T L lo hi W air spread=some (a,b,T,L,lo,hi,W,air,spread):=by
 unfold r16
 rw [p18 a b T L hT hn hL,Option.bind_some,p40 lo hi h1 h2,Option.bind_some,r51,if_pos ⟨by omega,by omega⟩]; rfl
end Go.Proofs.YtkbdjphdhcgmaaaGreatDoor

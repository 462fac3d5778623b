/- Benches and ticks: their errors, by the code and by the reference. -/
import Derived.Test.YtofkgmldcjagmaaGreatDoorF02
import Derived.Test.YtofkgmldcjagmaaGreatDoorF06
import Derived.Test.YtofkgmldcjagmaaGreatDoorF12
import Derived.Test.YtofkgmldcjagmaaGreatDoorStopA
set_option linter.unusedVariables false
set_option linter.unusedSimpArgs false
namespace Go.Proofs.YtofkgmldcjagmaaGreatDoor
open Go.dJ
def Ec (w:Int×Int):Int:=if gu w.1 0 1000 && gu w.2 0 1000 then (if w.1≤w.2 then 0 else 9) else 2
def Vx (fin:Int):Int→TL→Int×Int
 | _,[]=>(0,fin)
 | i,w::r=>if Ec w=0 then Vx fin (i+1) r else (i,Ec w)
def xP (a b:Int) (T:TL) (L:List TL) (lo hi:List Int) (W:TL) (gV spread:Int):Int×Int:=
 if (bG a b T L).2=0 then
  if jI a b T L lo hi=0 then
   if (W.length:Int)=a then Vx (if gu gV 0 ((L.length:Int) - 1) then bV (gu spread 0 4) 2 else 6) 0 W else (0,10)
  else (0,jI a b T L lo hi)
 else (0,(bG a b T L).2)
theorem AA (fin:Int):∀ (r:TL) (i:Int),jq (fun i _ w=>if Ec w=0 then (.next ():gy Unit (Int×Int)) else .out (some (i,Ec w))) (fun _:Unit=>some (0,fin)) i r ()=some (Vx fin i r)
 | [],_=>rfl
 | w::r,i=>by
  simp only [jq,Vx]
  by_cases h:Ec w=0
  ·simp only [if_pos h]; exact AA fin r _
  ·simp only [if_neg h]
theorem ab6 (i:Int) (w:Int×Int):(if ((!gu w.1 0 1000) || (!gu w.2 0 1000))=true then gy.out (some (i,2)) else if decide (w.1>w.2)=true then gy.out (some (i,9)) else (gy.next (i+1):gy Int (Int×Int)))=Ce (fun _=>i+1) (if Ec w=0 then gy.next () else gy.out (some (i,Ec w))):=by
 unfold Ec
 by_cases h:w.1≤w.2
 ·have h2:¬ w.1>w.2:=by omega
  cases gu w.1 0 1000<;>cases gu w.2 0 1000<;>simp [Ce,h,h2]
 ·have h2:w.1>w.2:=by omega
  cases gu w.1 0 1000<;>cases gu w.2 0 1000<;>simp [Ce,h,h2]
theorem aAX (a b:Int) (T:TL) (L:List TL) (lo hi:List Int) (W:TL) (gV spread:Int) (hn:L.length<1000) (hL:∀ x∈L,x.length<1000) (h1:lo.length<1000000) (h2:hi.length<1000000) (hw:W.length<1000) :
 r22 a b T L lo hi W gV spread=some (xP a b T L lo hi W gV spread):=by
 unfold r22 xP
 rw [p45 a b T L hn hL,Option.bind_some]
 by_cases c0:(bG a b T L).2=0
 rotate_left
 ·rw [if_pos (by simpa using c0),if_neg c0]
 rw [if_neg (by simpa using c0),if_pos c0,p82 a b T L lo hi hn hL h1 h2,Option.bind_some]
 by_cases c1:jI a b T L lo hi=0
 rotate_left
 ·rw [if_pos (by simpa using c1),if_neg c1]
 rw [if_neg (by simpa using c1),if_pos c1]
 by_cases c2:(W.length:Int)=a
 rotate_left
 ·rw [if_pos (by simpa using c2),if_neg c2]
 rw [if_neg (by simpa using c2),if_pos c2]
 have h:=kT (τ:=Unit) W (Gx a b T L lo hi W gV spread) (fun i _=>i) (fun i _ w=>if Ec w=0 then .next () else .out (some (i,Ec w))) (fun _=>some (0,if gu gV 0 ((L.length:Int) - 1) then bV (gu spread 0 4) 2 else 6)) (by omega)
  (fun i t hi=>by
   simp only [Gx,nO hi,if_true,if_pos (kY hi),Int.toNat_natCast,wS i (by omega),p59,aP,Option.isSome_some,implies_true,Option.getD_some]
   exact ab6 i _)
  (fun t=>by
   simp only [Gx,XU,Bool.false_eq_true,if_false,afO _ _ _ _ _ _ _ _ _ _ hn,Option.bind_some,p59]
   cases gu gV 0 ((L.length:Int) - 1)<;>cases gu spread 0 4<;>rfl) ()
 rw [h]
 exact AA _ W 0
theorem ab7 (i:Int) (w:Int×Int):(aP (r55 w.1) fun v5=>if v5=true→(r55 w.2).isSome=true then aP (lG (v5 && ((r55 w.2).getD default)) 2) fun v6=>aP (lG (decide (w.1≤w.2)) 9) fun v7=>aP (wR [v6,v7]) fun v8=>if (v8 != 0)=true then gy.out (some (i,v8)) else (gy.next (i+1):gy Int (Int×Int)) else gy.out none)=Ce (fun _=>i+1) (if Ec w=0 then gy.next () else gy.out (some (i,Ec w))):=by
 have g:∀ n,r55 n=some (gu n 0 1000):=fun n=>by unfold r55; rw [wit]; rfl
 simp only [g,unl,aP,Option.isSome_some,implies_true,if_true,Option.getD_some]
 have q:wR [bV (gu w.1 0 1000 && gu w.2 0 1000) 2,bV (decide (w.1≤w.2)) 9]=some (Ec w):=by
  rw [fst _ (by simp)]
  unfold Ec bV
  cases gu w.1 0 1000<;>cases gu w.2 0 1000<;>by_cases h:w.1≤w.2<;>simp [dF,h]
 simp only [q]
 by_cases h:Ec w=0
 ·rw [if_neg (by simpa using h),if_pos h]; rfl
 ·rw [if_pos (by simpa using h),if_neg h]; rfl
theorem atC (a b:Int) (T:TL) (L:List TL) (lo hi:List Int) (W:TL) (gV spread:Int) (hT:T.length<1000) (hn:L.length<1000) (hL:∀ x∈L,x.length<1000) (h1:lo.length<1000000) (h2:hi.length<1000000) (hw:W.length<1000) :
 r20 a b T L lo hi W gV spread=some (xP a b T L lo hi W gV spread):=by
 unfold r20 xP
 rw [p24 a b T L hn hL,Option.bind_some,p39 a b T L lo hi hT hn hL h1 h2,Option.bind_some,unl,Option.bind_some,fst _ (by simp),Option.bind_some]
 by_cases c0:(bG a b T L).2=0
 rotate_left
 ·rw [if_neg c0,if_neg c0]
  have e:dF [(bG a b T L).2,((0:Int),(bG a b T L).2).2,bV ((W.length:Int) == a) 10]=(bG a b T L).2:=by simp [dF,c0]
  rw [e,if_pos (by simpa using c0)]
 rw [if_pos c0,if_pos c0]
 have eb:(lC a T lo hi).2=jI a b T L lo hi:=by unfold jI; rw [if_pos c0]
 rw [eb]
 by_cases c1:jI a b T L lo hi=0
 rotate_left
 ·have e:dF [(bG a b T L).2,jI a b T L lo hi,bV ((W.length:Int) == a) 10]=jI a b T L lo hi:=by simp [dF,c0,c1]
  rw [e,if_pos (by simpa using c1),if_neg c1]
 rw [if_pos c1]
 by_cases c2:(W.length:Int)=a
 rotate_left
 ·have e:dF [(bG a b T L).2,jI a b T L lo hi,bV ((W.length:Int) == a) 10]=10:=by simp [dF,c0,c1,bV,c2]
  rw [e,if_pos (by decide),if_neg c2]
 have e:dF [(bG a b T L).2,jI a b T L lo hi,bV ((W.length:Int) == a) 10]=0:=by simp [dF,c0,c1,bV,c2]
 rw [e,if_neg (by decide),if_pos c2]
 have h:=kT (τ:=Unit) W (Gy L W gV spread) (fun i _=>i) (fun i _ w=>if Ec w=0 then .next () else .out (some (i,Ec w))) (fun _=>some (0,if gu gV 0 ((L.length:Int) - 1) then bV (gu spread 0 4) 2 else 6)) (by omega)
  (fun i t hi=>by
   simp only [Gy,nO hi,if_true,if_pos (kY hi),Int.toNat_natCast,wS i (by omega)]
   exact ab7 i _)
  (fun t=>by
   simp only [Gy,XU,Bool.false_eq_true,if_false]
   rw [wI1 hn,wit,Option.bind_some,unl,Option.bind_some,wit,Option.bind_some,unl,Option.bind_some,fst _ (by simp),Option.bind_some]
   unfold bV
   cases gu gV 0 ((L.length:Int) - 1)<;>cases gu spread 0 4<;>rfl) ()
 rw [h]
 exact AA _ W 0
theorem XY {fin:Int}:∀ {r:TL} {i:Int},(Vx fin i r).2=0→fin=0∧∀ w∈r,Ec w=0
 | [],i,h=>⟨h,by simp⟩
 | w::r,i,h=>by
  simp only [Vx] at h
  by_cases hw:Ec w=0
  ·rw [if_pos hw] at h
   obtain ⟨h1,h2⟩:=XY h
   exact ⟨h1,fun x hx=>by rcases List.mem_cons.1 hx with rfl | hx; exact hw; exact h2 x hx⟩
  ·rw [if_neg hw] at h; exact absurd h hw
theorem aki {w:Int×Int} (h:Ec w=0):(0≤w.1∧w.1≤1000)∧(0≤w.2∧w.2≤1000)∧w.1≤w.2:=by
 unfold Ec at h
 cases h1:gu w.1 0 1000<;>cases h2:gu w.2 0 1000<;>rw [h1,h2] at h<;>simp at h
 exact ⟨jS.1 h1,jS.1 h2,h⟩
theorem abp {a b:Int} {T:TL} {L:List TL} {lo hi:List Int} {W:TL} {gV spread:Int} (h:(xP a b T L lo hi W gV spread).2=0):uU a b T L lo hi W gV spread:=by
 unfold xP at h
 by_cases c0:(bG a b T L).2=0
 rotate_left
 ·rw [if_neg c0] at h; exact absurd h c0
 rw [if_pos c0] at h
 by_cases c1:jI a b T L lo hi=0
 rotate_left
 ·rw [if_neg c1] at h; exact absurd h c1
 rw [if_pos c1] at h
 by_cases c2:(W.length:Int)=a
 rotate_left
 ·rw [if_neg c2] at h; cases h
 rw [if_pos c2] at h
 obtain ⟨h1,h2⟩:=XY h
 cases q1:gu gV 0 ((L.length:Int) - 1) with
 | false=>rw [q1] at h1; cases h1
 | true=>
  rw [q1] at h1
  cases q2:gu spread 0 4 with
  | false=>rw [q2] at h1; cases h1
  | true=>
   have:=jS.1 q1
   exact ⟨Nh c1,c1,c2,fun w hw=>aki (h2 w hw),by omega,jS.1 q2⟩
def ND (n:Int) (x:Int×Int):Int:=if gu x.1 0 10000 then bV (gu x.2 0 (n - 1)) 6 else 2
def Hf (n:Int):TL→Int
 | []=>0
 | x::r=>if ND n x=0 then Hf n r else ND n x
def nC (L:List TL) (t:TL):Int:=if t.length≤200 then Hf L.length t else 8
theorem acs (a b:Int) (T:TL) (L:List TL) (lo hi:List Int) (W:TL) (gV spread:Int) (hn:L.length<1000) (i:Int) (x:Int×Int):(aP (r16 x.1 0 10000) fun v1=>if (!v1)=true then gy.out (some 2) else aP (r47 a b T L lo hi W gV spread x.2) fun v2=>if (!v2)=true then gy.out (some 6) else (gy.next (i+1):gy Int Int))=Ce (fun _=>i+1) (if ND L.length x=0 then gy.next () else gy.out (some (ND L.length x))):=by
 simp only [p59,aP,afO _ _ _ _ _ _ _ _ _ _ hn]
 unfold ND bV
 cases gu x.1 0 10000<;>cases gu x.2 0 ((L.length:Int) - 1)<;>simp [Ce]
theorem agx (a b:Int) (T:TL) (L:List TL) (lo hi:List Int) (W:TL) (gV spread:Int) (t:TL) (hn:L.length<1000):r12 a b T L lo hi W gV spread t=some (nC L t):=by
 unfold r12 nC
 by_cases c:(t.length:Int)>200
 ·rw [if_pos (by simpa using c),if_neg (by omega)]
 rw [if_neg (by simpa using c),if_pos (by omega)]
 have h:=kT (τ:=Unit) t (GH a b T L lo hi W gV spread t) (fun i _=>i) (fun _ _ x=>if ND L.length x=0 then .next () else .out (some (ND L.length x))) (fun _=>some 0) (by omega)
  (fun i _ hix=>by
   simp only [GH,nO hix,if_true,if_pos (kY hix),Int.toNat_natCast,wS i (by omega)]
   exact acs a b T L lo hi W gV spread hn i _)
  (fun _=>by simp [GH]) ()
 rw [h]
 have:∀ (r:TL) (i:Int),jq (fun _ _ x=>if ND L.length x=0 then (.next ():gy Unit Int) else .out (some (ND L.length x))) (fun _:Unit=>some 0) i r ()=some (Hf L.length r):=by
  intro r
  induction r with
  | nil=>intro i; rfl
  | cons x r ih=>
   intro i
   simp only [jq,Hf]
   by_cases h:ND L.length x=0
   ·simp only [if_pos h]; exact ih _
   ·simp only [if_neg h]
 exact this t 0
theorem X9 {n:Int}:∀ {t:TL},Hf n t=0→∀ x∈t,(0≤x.1∧x.1≤10000)∧0≤x.2∧x.2<n
 | [],_,x,hx=>by cases hx
 | y::r,h,x,hx=>by
  simp only [Hf] at h
  by_cases hy:ND n y=0
  ·rw [if_pos hy] at h
   rcases List.mem_cons.1 hx with rfl | hx
   ·unfold ND bV at hy
    cases q1:gu x.1 0 10000<;>cases q2:gu x.2 0 (n - 1)<;>rw [q1,q2] at hy<;>simp at hy
    have:=jS.1 q2
    exact ⟨jS.1 q1,by omega,by omega⟩
   ·exact X9 h x hx
  ·rw [if_neg hy] at h; exact absurd h hy
theorem JU {L:List TL} {t:TL} (h:nC L t=0):GR L t:=by
 unfold nC at h
 split at h
 ·rename_i hl; exact ⟨hl,X9 h⟩
 ·cases h
theorem agy {a b:Int} {T:TL} {L:List TL} {lo hi:List Int} {W:TL} {gV spread:Int} (t:TL) (hn:L.length<1000) (hl:t.length<1000000):r65 a b T L lo hi W gV spread t=some (nC L t):=by
 unfold r65
 rw [unl,Option.bind_some]
 have step:∀ (e:Int) (x:Int×Int),wR [e,bV (gu x.1 0 10000) 2,bV (gu x.2 0 ((L.length:Int) - 1)) 6]=some (if e=0 then ND L.length x else e):=fun e x=>by
  rw [fst _ (by simp)]
  unfold ND bV
  by_cases h:e=0<;>cases gu x.1 0 10000<;>cases gu x.2 0 ((L.length:Int) - 1)<;>simp [dF,h]
 have h:=kT (τ:=Int) t (Gh a b T L lo hi W gV spread t) (fun i e=>(e,i)) (fun _ e x=> .next (if e=0 then ND L.length x else e)) (fun e=>some e) (by omega)
  (fun i e hi=>by
   simp only [Gh,nO hi,if_true,if_pos (kY hi),Int.toNat_natCast,wS i (by omega)]
   rw [wit]; simp only [aP,unl]; rw [last hn]; simp only [wit,step]; rfl)
  (fun e=>by simp [Gh]) (bV (decide ((t.length:Int)≤200)) 8)
 rw [h]
 have key:∀ (r:TL) (i e:Int),jq (fun _ e x=>(.next (if e=0 then ND L.length x else e):gy Int Int)) (fun e:Int=>some e) i r e=some (if e=0 then Hf L.length r else e):=by
  intro r
  induction r with
  | nil=>intro i e; simp only [jq,Hf]; split<;>simp_all
  | cons x r ih=>
   intro i e
   simp only [jq,ih,Hf]
   by_cases he:e=0
   ·simp only [if_pos he]
   ·simp only [if_neg he]
 rw [key]
 unfold nC bV
 by_cases c:t.length≤200
 ·rw [decide_eq_true (by omega),if_pos c]; simp
 ·rw [decide_eq_false (by omega),if_neg c]; simp
theorem ahL (a b:Int) (T:TL) (L:List TL) (lo hi:List Int) (W:TL) (gV spread:Int) (t:TL) (hT:T.length<1000) (hn:L.length<1000) (hL:∀ x∈L,x.length<1000) (h1:lo.length<1000000) (h2:hi.length<1000000) (hw:W.length<1000) (hl:t.length<1000000) :
 r36 a b T L lo hi W gV spread t=some (a,b,T,L,lo,hi,W,gV,spread,if (xP a b T L lo hi W gV spread).2=0 then nC L t else (xP a b T L lo hi W gV spread).2):=by
 unfold r36 r61
 rw [atC a b T L lo hi W gV spread hT hn hL h1 h2 hw,Option.bind_some,Option.bind_some]
 by_cases h:(xP a b T L lo hi W gV spread).2=0
 ·simp only [h,if_true]
  rw [if_pos (by rfl),agy t hn hl]; rfl
 ·simp only [if_neg h]
  rw [if_neg (by simpa using h)]
end Go.Proofs.YtofkgmldcjagmaaGreatDoor

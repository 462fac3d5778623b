/- Benches and ticks: their errors, by the code and by the reference. -/
import Derived.Test.YtofkgmldcjagmaaGreatDoorF02
import Derived.Test.YtofkgmldcjagmaaGreatDoorF06
import Derived.Test.YtofkgmldcjagmaaGreatDoorF12
import Derived.Test.YtofkgmldcjagmaaGreatDoorStopA
set_option linter.unusedVariables false
set_option linter.unusedSimpArgs false
namespace Go.Proofs.YtofkgmldcjagmaaGreatDoor
open Go.dG
def EG (w:Int×Int):Int:=if dR w.1 0 1000 && dR w.2 0 1000 then (if w.1≤w.2 then 0 else 9) else 2
def V5 (fin:Int):Int→TL→Int×Int
 | _,[]=>(0,fin)
 | i,w::r=>if EG w=0 then V5 fin (i+1) r else (i,EG w)
def wB (a b:Int) (T:TL) (L:List TL) (lo hi:List Int) (W:TL) (dZ spread:Int):Int×Int:=
 if (bn a b T L).2=0 then
  if jA a b T L lo hi=0 then
   if (W.length:Int)=a then V5 (if dR dZ 0 ((L.length:Int) - 1) then bQ (dR spread 0 4) 2 else 6) 0 W else (0,10)
  else (0,jA a b T L lo hi)
 else (0,(bn a b T L).2)
theorem Bv (fin:Int):∀ (r:TL) (i:Int),jy (fun i _ w=>if EG w=0 then (.next ():gK Unit (Int×Int)) else .out (some (i,EG w))) (fun _:Unit=>some (0,fin)) i r ()=some (V5 fin i r)
 | [],_=>rfl
 | w::r,i=>by
  simp only [jy,V5]
  by_cases h:EG w=0
  ·simp only [if_pos h]; exact Bv fin r _
  ·simp only [if_neg h]
theorem acQ (i:Int) (w:Int×Int):(if ((!dR w.1 0 1000) || (!dR w.2 0 1000))=true then gK.out (some (i,2)) else if decide (w.1>w.2)=true then gK.out (some (i,9)) else (gK.next (i+1):gK Int (Int×Int)))=Df (fun _=>i+1) (if EG w=0 then gK.next () else gK.out (some (i,EG w))):=by
 unfold EG
 by_cases h:w.1≤w.2
 ·have h2:¬ w.1>w.2:=by omega
  cases dR w.1 0 1000<;>cases dR w.2 0 1000<;>simp [Df,h,h2]
 ·have h2:w.1>w.2:=by omega
  cases dR w.1 0 1000<;>cases dR w.2 0 1000<;>simp [Df,h,h2]
theorem aBp (a b:Int) (T:TL) (L:List TL) (lo hi:List Int) (W:TL) (dZ spread:Int) (hn:L.length<1000) (hL:∀ x∈L,x.length<1000) (h1:lo.length<1000000) (h2:hi.length<1000000) (hw:W.length<1000) :
 r22 a b T L lo hi W dZ spread=some (wB a b T L lo hi W dZ spread):=by
 unfold r22 wB
 rw [p45 a b T L hn hL,Option.bind_some]
 by_cases c0:(bn a b T L).2=0
 rotate_left
 ·rw [if_pos (by simpa using c0),if_neg c0]
 rw [if_neg (by simpa using c0),if_pos c0,p82 a b T L lo hi hn hL h1 h2,Option.bind_some]
 by_cases c1:jA a b T L lo hi=0
 rotate_left
 ·rw [if_pos (by simpa using c1),if_neg c1]
 rw [if_neg (by simpa using c1),if_pos c1]
 by_cases c2:(W.length:Int)=a
 rotate_left
 ·rw [if_pos (by simpa using c2),if_neg c2]
 rw [if_neg (by simpa using c2),if_pos c2]
 have h:=lg (τ:=Unit) W (G9 a b T L lo hi W dZ spread) (fun i _=>i) (fun i _ w=>if EG w=0 then .next () else .out (some (i,EG w))) (fun _=>some (0,if dR dZ 0 ((L.length:Int) - 1) then bQ (dR spread 0 4) 2 else 6)) (by omega)
  (fun i t hi=>by
   simp only [G9,oz hi,if_true,if_pos (lF hi),Int.toNat_natCast,wS i (by omega),p59,aP,Option.isSome_some,implies_true,Option.getD_some]
   exact acQ i _)
  (fun t=>by
   simp only [G9,geN,Bool.false_eq_true,if_false,agA _ _ _ _ _ _ _ _ _ _ hn,Option.bind_some,p59]
   cases dR dZ 0 ((L.length:Int) - 1)<;>cases dR spread 0 4<;>rfl) ()
 rw [h]
 exact Bv _ W 0
theorem acR (i:Int) (w:Int×Int):(aP (Yr w.1) fun v5=>if v5=true→(Yr w.2).isSome=true then aP (lJ (v5 && ((Yr w.2).getD default)) 2) fun v6=>aP (lJ (decide (w.1≤w.2)) 9) fun v7=>aP (vP [v6,v7]) fun v8=>if (v8 != 0)=true then gK.out (some (i,v8)) else (gK.next (i+1):gK Int (Int×Int)) else gK.out none)=Df (fun _=>i+1) (if EG w=0 then gK.next () else gK.out (some (i,EG w))):=by
 have g:∀ n,Yr n=some (dR n 0 1000):=fun n=>by unfold Yr; rw [wit]; rfl
 simp only [g,V6,aP,Option.isSome_some,implies_true,if_true,Option.getD_some]
 have q:vP [bQ (dR w.1 0 1000 && dR w.2 0 1000) 2,bQ (decide (w.1≤w.2)) 9]=some (EG w):=by
  rw [fst _ (by simp)]
  unfold EG bQ
  cases dR w.1 0 1000<;>cases dR w.2 0 1000<;>by_cases h:w.1≤w.2<;>simp [dh,h]
 simp only [q]
 by_cases h:EG w=0
 ·rw [if_neg (by simpa using h),if_pos h]; rfl
 ·rw [if_pos (by simpa using h),if_neg h]; rfl
theorem aBq (a b:Int) (T:TL) (L:List TL) (lo hi:List Int) (W:TL) (dZ spread:Int) (hT:T.length<1000) (hn:L.length<1000) (hL:∀ x∈L,x.length<1000) (h1:lo.length<1000000) (h2:hi.length<1000000) (hw:W.length<1000) :
 r20 a b T L lo hi W dZ spread=some (wB a b T L lo hi W dZ spread):=by
 unfold r20 wB
 rw [p24 a b T L hn hL,Option.bind_some,p39 a b T L lo hi hT hn hL h1 h2,Option.bind_some,V6,Option.bind_some,fst _ (by simp),Option.bind_some]
 by_cases c0:(bn a b T L).2=0
 rotate_left
 ·rw [if_neg c0,if_neg c0]
  have e:dh [(bn a b T L).2,((0:Int),(bn a b T L).2).2,bQ ((W.length:Int) == a) 10]=(bn a b T L).2:=by simp [dh,c0]
  rw [e,if_pos (by simpa using c0)]
 rw [if_pos c0,if_pos c0]
 have eb:(jO a T lo hi).2=jA a b T L lo hi:=by unfold jA; rw [if_pos c0]
 rw [eb]
 by_cases c1:jA a b T L lo hi=0
 rotate_left
 ·have e:dh [(bn a b T L).2,jA a b T L lo hi,bQ ((W.length:Int) == a) 10]=jA a b T L lo hi:=by simp [dh,c0,c1]
  rw [e,if_pos (by simpa using c1),if_neg c1]
 rw [if_pos c1]
 by_cases c2:(W.length:Int)=a
 rotate_left
 ·have e:dh [(bn a b T L).2,jA a b T L lo hi,bQ ((W.length:Int) == a) 10]=10:=by simp [dh,c0,c1,bQ,c2]
  rw [e,if_pos (by decide),if_neg c2]
 have e:dh [(bn a b T L).2,jA a b T L lo hi,bQ ((W.length:Int) == a) 10]=0:=by simp [dh,c0,c1,bQ,c2]
 rw [e,if_neg (by decide),if_pos c2]
 have h:=lg (τ:=Unit) W (yG L W dZ spread) (fun i _=>i) (fun i _ w=>if EG w=0 then .next () else .out (some (i,EG w))) (fun _=>some (0,if dR dZ 0 ((L.length:Int) - 1) then bQ (dR spread 0 4) 2 else 6)) (by omega)
  (fun i t hi=>by
   simp only [yG,oz hi,if_true,if_pos (lF hi),Int.toNat_natCast,wS i (by omega)]
   exact acR i _)
  (fun t=>by
   simp only [yG,geN,Bool.false_eq_true,if_false]
   rw [wI1 hn,wit,Option.bind_some,V6,Option.bind_some,wit,Option.bind_some,V6,Option.bind_some,fst _ (by simp),Option.bind_some]
   unfold bQ
   cases dR dZ 0 ((L.length:Int) - 1)<;>cases dR spread 0 4<;>rfl) ()
 rw [h]
 exact Bv _ W 0
theorem Yx {fin:Int}:∀ {r:TL} {i:Int},(V5 fin i r).2=0→fin=0∧∀ w∈r,EG w=0
 | [],i,h=>⟨h,by simp⟩
 | w::r,i,h=>by
  simp only [V5] at h
  by_cases hw:EG w=0
  ·rw [if_pos hw] at h
   obtain ⟨h1,h2⟩:=Yx h
   exact ⟨h1,fun x hx=>by rcases List.mem_cons.1 hx with rfl | hx; exact hw; exact h2 x hx⟩
  ·rw [if_neg hw] at h; exact absurd h hw
theorem akW {w:Int×Int} (h:EG w=0):(0≤w.1∧w.1≤1000)∧(0≤w.2∧w.2≤1000)∧w.1≤w.2:=by
 unfold EG at h
 cases h1:dR w.1 0 1000<;>cases h2:dR w.2 0 1000<;>rw [h1,h2] at h<;>simp at h
 exact ⟨dJ.1 h1,dJ.1 h2,h⟩
theorem aj2 {a b:Int} {T:TL} {L:List TL} {lo hi:List Int} {W:TL} {dZ spread:Int} (h:(wB a b T L lo hi W dZ spread).2=0):lM a b T L lo hi W dZ spread:=by
 unfold wB at h
 by_cases c0:(bn a b T L).2=0
 rotate_left
 ·rw [if_neg c0] at h; exact absurd h c0
 rw [if_pos c0] at h
 by_cases c1:jA a b T L lo hi=0
 rotate_left
 ·rw [if_neg c1] at h; exact absurd h c1
 rw [if_pos c1] at h
 by_cases c2:(W.length:Int)=a
 rotate_left
 ·rw [if_neg c2] at h; cases h
 rw [if_pos c2] at h
 obtain ⟨h1,h2⟩:=Yx h
 cases q1:dR dZ 0 ((L.length:Int) - 1) with
 | false=>rw [q1] at h1; cases h1
 | true=>
  rw [q1] at h1
  cases q2:dR spread 0 4 with
  | false=>rw [q2] at h1; cases h1
  | true=>
   have:=dJ.1 q1
   exact ⟨NK c1,c1,c2,fun w hw=>akW (h2 w hw),by omega,dJ.1 q2⟩
def JM (n:Int) (x:Int×Int):Int:=if dR x.1 0 10000 then bQ (dR x.2 0 (n - 1)) 6 else 2
def BH (n:Int):TL→Int
 | []=>0
 | x::r=>if JM n x=0 then BH n r else JM n x
def lN (L:List TL) (t:TL):Int:=if t.length≤200 then BH L.length t else 8
theorem ac7 (a b:Int) (T:TL) (L:List TL) (lo hi:List Int) (W:TL) (dZ spread:Int) (hn:L.length<1000) (i:Int) (x:Int×Int):(aP (r16 x.1 0 10000) fun v1=>if (!v1)=true then gK.out (some 2) else aP (r47 a b T L lo hi W dZ spread x.2) fun v2=>if (!v2)=true then gK.out (some 6) else (gK.next (i+1):gK Int Int))=Df (fun _=>i+1) (if JM L.length x=0 then gK.next () else gK.out (some (JM L.length x))):=by
 simp only [p59,aP,agA _ _ _ _ _ _ _ _ _ _ hn]
 unfold JM bQ
 cases dR x.1 0 10000<;>cases dR x.2 0 ((L.length:Int) - 1)<;>simp [Df]
theorem ahj (a b:Int) (T:TL) (L:List TL) (lo hi:List Int) (W:TL) (dZ spread:Int) (t:TL) (hn:L.length<1000):r12 a b T L lo hi W dZ spread t=some (lN L t):=by
 unfold r12 lN
 by_cases c:(t.length:Int)>200
 ·rw [if_pos (by simpa using c),if_neg (by omega)]
 rw [if_neg (by simpa using c),if_pos (by omega)]
 have h:=lg (τ:=Unit) t (Hg a b T L lo hi W dZ spread t) (fun i _=>i) (fun _ _ x=>if JM L.length x=0 then .next () else .out (some (JM L.length x))) (fun _=>some 0) (by omega)
  (fun i _ hix=>by
   simp only [Hg,oz hix,if_true,if_pos (lF hix),Int.toNat_natCast,wS i (by omega)]
   exact ac7 a b T L lo hi W dZ spread hn i _)
  (fun _=>by simp [Hg]) ()
 rw [h]
 have:∀ (r:TL) (i:Int),jy (fun _ _ x=>if JM L.length x=0 then (.next ():gK Unit Int) else .out (some (JM L.length x))) (fun _:Unit=>some 0) i r ()=some (BH L.length r):=by
  intro r
  induction r with
  | nil=>intro i; rfl
  | cons x r ih=>
   intro i
   simp only [jy,BH]
   by_cases h:JM L.length x=0
   ·simp only [if_pos h]; exact ih _
   ·simp only [if_neg h]
 exact this t 0
theorem YG {n:Int}:∀ {t:TL},BH n t=0→∀ x∈t,(0≤x.1∧x.1≤10000)∧0≤x.2∧x.2<n
 | [],_,x,hx=>by cases hx
 | y::r,h,x,hx=>by
  simp only [BH] at h
  by_cases hy:JM n y=0
  ·rw [if_pos hy] at h
   rcases List.mem_cons.1 hx with rfl | hx
   ·unfold JM bQ at hy
    cases q1:dR x.1 0 10000<;>cases q2:dR x.2 0 (n - 1)<;>rw [q1,q2] at hy<;>simp at hy
    have:=dJ.1 q2
    exact ⟨dJ.1 q1,by omega,by omega⟩
   ·exact YG h x hx
  ·rw [if_neg hy] at h; exact absurd h hy
theorem YH {L:List TL} {t:TL} (h:lN L t=0):vk L t:=by
 unfold lN at h
 split at h
 ·rename_i hl; exact ⟨hl,YG h⟩
 ·cases h
theorem ahk {a b:Int} {T:TL} {L:List TL} {lo hi:List Int} {W:TL} {dZ spread:Int} (t:TL) (hn:L.length<1000) (hl:t.length<1000000):r65 a b T L lo hi W dZ spread t=some (lN L t):=by
 unfold r65
 rw [V6,Option.bind_some]
 have step:∀ (e:Int) (x:Int×Int),vP [e,bQ (dR x.1 0 10000) 2,bQ (dR x.2 0 ((L.length:Int) - 1)) 6]=some (if e=0 then JM L.length x else e):=fun e x=>by
  rw [fst _ (by simp)]
  unfold JM bQ
  by_cases h:e=0<;>cases dR x.1 0 10000<;>cases dR x.2 0 ((L.length:Int) - 1)<;>simp [dh,h]
 have h:=lg (τ:=Int) t (yF a b T L lo hi W dZ spread t) (fun i e=>(e,i)) (fun _ e x=> .next (if e=0 then JM L.length x else e)) (fun e=>some e) (by omega)
  (fun i e hi=>by
   simp only [yF,oz hi,if_true,if_pos (lF hi),Int.toNat_natCast,wS i (by omega)]
   rw [wit]; simp only [aP,V6]; rw [last hn]; simp only [wit,step]; rfl)
  (fun e=>by simp [yF]) (bQ (decide ((t.length:Int)≤200)) 8)
 rw [h]
 have key:∀ (r:TL) (i e:Int),jy (fun _ e x=>(.next (if e=0 then JM L.length x else e):gK Int Int)) (fun e:Int=>some e) i r e=some (if e=0 then BH L.length r else e):=by
  intro r
  induction r with
  | nil=>intro i e; simp only [jy,BH]; split<;>simp_all
  | cons x r ih=>
   intro i e
   simp only [jy,ih,BH]
   by_cases he:e=0
   ·simp only [if_pos he]
   ·simp only [if_neg he]
 rw [key]
 unfold lN bQ
 by_cases c:t.length≤200
 ·rw [decide_eq_true (by omega),if_pos c]; simp
 ·rw [decide_eq_false (by omega),if_neg c]; simp
theorem aiz (a b:Int) (T:TL) (L:List TL) (lo hi:List Int) (W:TL) (dZ spread:Int) (t:TL) (hT:T.length<1000) (hn:L.length<1000) (hL:∀ x∈L,x.length<1000) (h1:lo.length<1000000) (h2:hi.length<1000000) (hw:W.length<1000) (hl:t.length<1000000) :
 r36 a b T L lo hi W dZ spread t=some (a,b,T,L,lo,hi,W,dZ,spread,if (wB a b T L lo hi W dZ spread).2=0 then lN L t else (wB a b T L lo hi W dZ spread).2):=by
 unfold r36 r61
 rw [aBq a b T L lo hi W dZ spread hT hn hL h1 h2 hw,Option.bind_some,Option.bind_some]
 by_cases h:(wB a b T L lo hi W dZ spread).2=0
 ·simp only [h,if_true]
  rw [if_pos (by rfl),ahk t hn hl]; rfl
 ·simp only [if_neg h]
  rw [if_neg (by simpa using h)]
end Go.Proofs.YtofkgmldcjagmaaGreatDoor

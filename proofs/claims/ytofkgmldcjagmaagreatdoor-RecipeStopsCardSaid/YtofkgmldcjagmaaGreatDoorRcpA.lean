/- Benches and ticks: their errors, by the code and by the reference. -/
import Derived.Test.YtofkgmldcjagmaaGreatDoorF02
import Derived.Test.YtofkgmldcjagmaaGreatDoorF06
import Derived.Test.YtofkgmldcjagmaaGreatDoorF12
import Derived.Test.YtofkgmldcjagmaaGreatDoorF13
import Derived.Test.YtofkgmldcjagmaaGreatDoorStopC
set_option linter.unusedVariables false
set_option linter.unusedSimpArgs false
namespace Go.Proofs.YtofkgmldcjagmaaGreatDoor
open Go.Abs
def wtE (w:Int×Int):Int:=if inR w.1 0 1000 && inR w.2 0 1000 then (if w.1≤w.2 then 0 else 9) else 2
def wtsE (fin:Int):Int→TL→Int×Int
 | _,[]=>(0,fin)
 | i,w::r=>if wtE w=0 then wtsE fin (i+1) r else (i,wtE w)
def benE (a b:Int) (T:TL) (L:List TL) (lo hi:List Int) (W:TL) (air spread:Int):Int×Int:=
 if (setupErrV a b T L).2=0 then
  if bxErr a b T L lo hi=0 then
   if (W.length:Int)=a then wtsE (if inR air 0 ((L.length:Int) - 1) then codeIf (inR spread 0 4) 2 else 6) 0 W else (0,10)
  else (0,bxErr a b T L lo hi)
 else (0,(setupErrV a b T L).2)
theorem wts_fold (fin:Int):∀ (r:TL) (i:Int),foldC (fun i _ w=>if wtE w=0 then (.next ():Ctl Unit (Int×Int)) else .out (some (i,wtE w))) (fun _:Unit=>some (0,fin)) i r ()=some (wtsE fin i r)
 | [],_=>rfl
 | w::r,i=>by
  simp only [foldC,wtsE]
  by_cases h:wtE w=0
  ·simp only [if_pos h]; exact wts_fold fin r _
  ·simp only [if_neg h]
theorem wtStepR (i:Int) (w:Int×Int):(if ((!inR w.1 0 1000) || (!inR w.2 0 1000))=true then Ctl.out (some (i,2)) else if decide (w.1>w.2)=true then Ctl.out (some (i,9)) else (Ctl.next (i+1):Ctl Int (Int×Int)))=mapC (fun _=>i+1) (if wtE w=0 then Ctl.next () else Ctl.out (some (i,wtE w))):=by
 unfold wtE
 by_cases h:w.1≤w.2
 ·have h2:¬ w.1>w.2:=by omega
  cases inR w.1 0 1000<;>cases inR w.2 0 1000<;>simp [mapC,h,h2]
 ·have h2:w.1>w.2:=by omega
  cases inR w.1 0 1000<;>cases inR w.2 0 1000<;>simp [mapC,h,h2]
theorem benR (a b:Int) (T:TL) (L:List TL) (lo hi:List Int) (W:TL) (air spread:Int) (hn:L.length<1000) (hL:∀ x∈L,x.length<1000) (h1:lo.length<1000000) (h2:hi.length<1000000) (hw:W.length<1000) :
 r22 a b T L lo hi W air spread=some (benE a b T L lo hi W air spread):=by
 unfold r22 benE
 rw [p45 a b T L hn hL,Option.bind_some]
 by_cases c0:(setupErrV a b T L).2=0
 rotate_left
 ·rw [if_pos (by simpa using c0),if_neg c0]
 rw [if_neg (by simpa using c0),if_pos c0,p82 a b T L lo hi hn hL h1 h2,Option.bind_some]
 by_cases c1:bxErr a b T L lo hi=0
 rotate_left
 ·rw [if_pos (by simpa using c1),if_neg c1]
 rw [if_neg (by simpa using c1),if_pos c1]
 by_cases c2:(W.length:Int)=a
 rotate_left
 ·rw [if_pos (by simpa using c2),if_neg c2]
 rw [if_neg (by simpa using c2),if_pos c2]
 have h:=iter_list (τ:=Unit) W (b22_1 a b T L lo hi W air spread) (fun i _=>i) (fun i _ w=>if wtE w=0 then .next () else .out (some (i,wtE w))) (fun _=>some (0,if inR air 0 ((L.length:Int) - 1) then codeIf (inR spread 0 4) 2 else 6)) (by omega)
  (fun i t hi=>by
   simp only [b22_1,ltN hi,if_true,if_pos (rgN hi),Int.toNat_natCast,wS i (by omega),p59,bindC,Option.isSome_some,implies_true,Option.getD_some]
   exact wtStepR i _)
  (fun t=>by
   simp only [b22_1,geN,Bool.false_eq_true,if_false,isLaw _ _ _ _ _ _ _ _ _ _ hn,Option.bind_some,p59]
   cases inR air 0 ((L.length:Int) - 1)<;>cases inR spread 0 4<;>rfl) ()
 rw [h]
 exact wts_fold _ W 0
theorem wtStepC (i:Int) (w:Int×Int):(bindC (r55 w.1) fun v5=>if v5=true→(r55 w.2).isSome=true then bindC (r39 (v5 && ((r55 w.2).getD default)) 2) fun v6=>bindC (r39 (decide (w.1≤w.2)) 9) fun v7=>bindC (r38 [v6,v7]) fun v8=>if (v8 != 0)=true then Ctl.out (some (i,v8)) else (Ctl.next (i+1):Ctl Int (Int×Int)) else Ctl.out none)=mapC (fun _=>i+1) (if wtE w=0 then Ctl.next () else Ctl.out (some (i,wtE w))):=by
 have g:∀ n,r55 n=some (inR n 0 1000):=fun n=>by unfold r55; rw [wit]; rfl
 simp only [g,unl,bindC,Option.isSome_some,implies_true,if_true,Option.getD_some]
 have q:r38 [codeIf (inR w.1 0 1000 && inR w.2 0 1000) 2,codeIf (decide (w.1≤w.2)) 9]=some (wtE w):=by
  rw [fst _ (by simp)]
  unfold wtE codeIf
  cases inR w.1 0 1000<;>cases inR w.2 0 1000<;>by_cases h:w.1≤w.2<;>simp [firstV,h]
 simp only [q]
 by_cases h:wtE w=0
 ·rw [if_neg (by simpa using h),if_pos h]; rfl
 ·rw [if_pos (by simpa using h),if_neg h]; rfl
theorem benC (a b:Int) (T:TL) (L:List TL) (lo hi:List Int) (W:TL) (air spread:Int) (hT:T.length<1000) (hn:L.length<1000) (hL:∀ x∈L,x.length<1000) (h1:lo.length<1000000) (h2:hi.length<1000000) (hw:W.length<1000) :
 r20 a b T L lo hi W air spread=some (benE a b T L lo hi W air spread):=by
 unfold r20 benE
 rw [p24 a b T L hn hL,Option.bind_some,p39 a b T L lo hi hT hn hL h1 h2,Option.bind_some,unl,Option.bind_some,fst _ (by simp),Option.bind_some]
 by_cases c0:(setupErrV a b T L).2=0
 rotate_left
 ·rw [if_neg c0,if_neg c0]
  have e:firstV [(setupErrV a b T L).2,((0:Int),(setupErrV a b T L).2).2,codeIf ((W.length:Int) == a) 10]=(setupErrV a b T L).2:=by simp [firstV,c0]
  rw [e,if_pos (by simpa using c0)]
 rw [if_pos c0,if_pos c0]
 have eb:(boxErrV a T lo hi).2=bxErr a b T L lo hi:=by unfold bxErr; rw [if_pos c0]
 rw [eb]
 by_cases c1:bxErr a b T L lo hi=0
 rotate_left
 ·have e:firstV [(setupErrV a b T L).2,bxErr a b T L lo hi,codeIf ((W.length:Int) == a) 10]=bxErr a b T L lo hi:=by simp [firstV,c0,c1]
  rw [e,if_pos (by simpa using c1),if_neg c1]
 rw [if_pos c1]
 by_cases c2:(W.length:Int)=a
 rotate_left
 ·have e:firstV [(setupErrV a b T L).2,bxErr a b T L lo hi,codeIf ((W.length:Int) == a) 10]=10:=by simp [firstV,c0,c1,codeIf,c2]
  rw [e,if_pos (by decide),if_neg c2]
 have e:firstV [(setupErrV a b T L).2,bxErr a b T L lo hi,codeIf ((W.length:Int) == a) 10]=0:=by simp [firstV,c0,c1,codeIf,c2]
 rw [e,if_neg (by decide),if_pos c2]
 have h:=iter_list (τ:=Unit) W (b20_1 L W air spread) (fun i _=>i) (fun i _ w=>if wtE w=0 then .next () else .out (some (i,wtE w))) (fun _=>some (0,if inR air 0 ((L.length:Int) - 1) then codeIf (inR spread 0 4) 2 else 6)) (by omega)
  (fun i t hi=>by
   simp only [b20_1,ltN hi,if_true,if_pos (rgN hi),Int.toNat_natCast,wS i (by omega)]
   exact wtStepC i _)
  (fun t=>by
   simp only [b20_1,geN,Bool.false_eq_true,if_false]
   rw [wI1 hn,wit,Option.bind_some,unl,Option.bind_some,wit,Option.bind_some,unl,Option.bind_some,fst _ (by simp),Option.bind_some]
   unfold codeIf
   cases inR air 0 ((L.length:Int) - 1)<;>cases inR spread 0 4<;>rfl) ()
 rw [h]
 exact wts_fold _ W 0
theorem wts_ok {fin:Int}:∀ {r:TL} {i:Int},(wtsE fin i r).2=0→fin=0∧∀ w∈r,wtE w=0
 | [],i,h=>⟨h,by simp⟩
 | w::r,i,h=>by
  simp only [wtsE] at h
  by_cases hw:wtE w=0
  ·rw [if_pos hw] at h
   obtain ⟨h1,h2⟩:=wts_ok h
   exact ⟨h1,fun x hx=>by rcases List.mem_cons.1 hx with rfl | hx; exact hw; exact h2 x hx⟩
  ·rw [if_neg hw] at h; exact absurd h hw
theorem wt_ok {w:Int×Int} (h:wtE w=0):(0≤w.1∧w.1≤1000)∧(0≤w.2∧w.2≤1000)∧w.1≤w.2:=by
 unfold wtE at h
 cases h1:inR w.1 0 1000<;>cases h2:inR w.2 0 1000<;>rw [h1,h2] at h<;>simp at h
 exact ⟨inR_iff'.1 h1,inR_iff'.1 h2,h⟩
theorem ben_ok {a b:Int} {T:TL} {L:List TL} {lo hi:List Int} {W:TL} {air spread:Int} (h:(benE a b T L lo hi W air spread).2=0):BenOk a b T L lo hi W air spread:=by
 unfold benE at h
 by_cases c0:(setupErrV a b T L).2=0
 rotate_left
 ·rw [if_neg c0] at h; exact absurd h c0
 rw [if_pos c0] at h
 by_cases c1:bxErr a b T L lo hi=0
 rotate_left
 ·rw [if_neg c1] at h; exact absurd h c1
 rw [if_pos c1] at h
 by_cases c2:(W.length:Int)=a
 rotate_left
 ·rw [if_neg c2] at h; cases h
 rw [if_pos c2] at h
 obtain ⟨h1,h2⟩:=wts_ok h
 cases q1:inR air 0 ((L.length:Int) - 1) with
 | false=>rw [q1] at h1; cases h1
 | true=>
  rw [q1] at h1
  cases q2:inR spread 0 4 with
  | false=>rw [q2] at h1; cases h1
  | true=>
   have:=inR_iff'.1 q1
   exact ⟨boxOk_of c1,c1,c2,fun w hw=>wt_ok (h2 w hw),by omega,inR_iff'.1 q2⟩
def tkE (n:Int) (x:Int×Int):Int:=if inR x.1 0 10000 then codeIf (inR x.2 0 (n - 1)) 6 else 2
def tksE (n:Int):TL→Int
 | []=>0
 | x::r=>if tkE n x=0 then tksE n r else tkE n x
def ticksE (L:List TL) (t:TL):Int:=if t.length≤200 then tksE L.length t else 8
theorem tkStepR (a b:Int) (T:TL) (L:List TL) (lo hi:List Int) (W:TL) (air spread:Int) (hn:L.length<1000) (i:Int) (x:Int×Int):(bindC (r16 x.1 0 10000) fun v1=>if (!v1)=true then Ctl.out (some 2) else bindC (r47 a b T L lo hi W air spread x.2) fun v2=>if (!v2)=true then Ctl.out (some 6) else (Ctl.next (i+1):Ctl Int Int))=mapC (fun _=>i+1) (if tkE L.length x=0 then Ctl.next () else Ctl.out (some (tkE L.length x))):=by
 simp only [p59,bindC,isLaw _ _ _ _ _ _ _ _ _ _ hn]
 unfold tkE codeIf
 cases inR x.1 0 10000<;>cases inR x.2 0 ((L.length:Int) - 1)<;>simp [mapC]
theorem ticksR (a b:Int) (T:TL) (L:List TL) (lo hi:List Int) (W:TL) (air spread:Int) (t:TL) (hn:L.length<1000):r12 a b T L lo hi W air spread t=some (ticksE L t):=by
 unfold r12 ticksE
 by_cases c:(t.length:Int)>200
 ·rw [if_pos (by simpa using c),if_neg (by omega)]
 rw [if_neg (by simpa using c),if_pos (by omega)]
 have h:=iter_list (τ:=Unit) t (b12_1 a b T L lo hi W air spread t) (fun i _=>i) (fun _ _ x=>if tkE L.length x=0 then .next () else .out (some (tkE L.length x))) (fun _=>some 0) (by omega)
  (fun i _ hix=>by
   simp only [b12_1,ltN hix,if_true,if_pos (rgN hix),Int.toNat_natCast,wS i (by omega)]
   exact tkStepR a b T L lo hi W air spread hn i _)
  (fun _=>by simp [b12_1]) ()
 rw [h]
 have:∀ (r:TL) (i:Int),foldC (fun _ _ x=>if tkE L.length x=0 then (.next ():Ctl Unit Int) else .out (some (tkE L.length x))) (fun _:Unit=>some 0) i r ()=some (tksE L.length r):=by
  intro r
  induction r with
  | nil=>intro i; rfl
  | cons x r ih=>
   intro i
   simp only [foldC,tksE]
   by_cases h:tkE L.length x=0
   ·simp only [if_pos h]; exact ih _
   ·simp only [if_neg h]
 exact this t 0
theorem tks_ok {n:Int}:∀ {t:TL},tksE n t=0→∀ x∈t,(0≤x.1∧x.1≤10000)∧0≤x.2∧x.2<n
 | [],_,x,hx=>by cases hx
 | y::r,h,x,hx=>by
  simp only [tksE] at h
  by_cases hy:tkE n y=0
  ·rw [if_pos hy] at h
   rcases List.mem_cons.1 hx with rfl | hx
   ·unfold tkE codeIf at hy
    cases q1:inR x.1 0 10000<;>cases q2:inR x.2 0 (n - 1)<;>rw [q1,q2] at hy<;>simp at hy
    have:=inR_iff'.1 q2
    exact ⟨inR_iff'.1 q1,by omega,by omega⟩
   ·exact tks_ok h x hx
  ·rw [if_neg hy] at h; exact absurd h hy
theorem ticks_ok {L:List TL} {t:TL} (h:ticksE L t=0):TksOk L t:=by
 unfold ticksE at h
 split at h
 ·rename_i hl; exact ⟨hl,tks_ok h⟩
 ·cases h
theorem ticksC {a b:Int} {T:TL} {L:List TL} {lo hi:List Int} {W:TL} {air spread:Int} (t:TL) (hn:L.length<1000) (hl:t.length<1000000):r65 a b T L lo hi W air spread t=some (ticksE L t):=by
 unfold r65
 rw [unl,Option.bind_some]
 have step:∀ (e:Int) (x:Int×Int),r38 [e,codeIf (inR x.1 0 10000) 2,codeIf (inR x.2 0 ((L.length:Int) - 1)) 6]=some (if e=0 then tkE L.length x else e):=fun e x=>by
  rw [fst _ (by simp)]
  unfold tkE codeIf
  by_cases h:e=0<;>cases inR x.1 0 10000<;>cases inR x.2 0 ((L.length:Int) - 1)<;>simp [firstV,h]
 have h:=iter_list (τ:=Int) t (b65_1 a b T L lo hi W air spread t) (fun i e=>(e,i)) (fun _ e x=> .next (if e=0 then tkE L.length x else e)) (fun e=>some e) (by omega)
  (fun i e hi=>by
   simp only [b65_1,ltN hi,if_true,if_pos (rgN hi),Int.toNat_natCast,wS i (by omega)]
   rw [wit]; simp only [bindC,unl]; rw [last hn]; simp only [wit,step]; rfl)
  (fun e=>by simp [b65_1]) (codeIf (decide ((t.length:Int)≤200)) 8)
 rw [h]
 have key:∀ (r:TL) (i e:Int),foldC (fun _ e x=>(.next (if e=0 then tkE L.length x else e):Ctl Int Int)) (fun e:Int=>some e) i r e=some (if e=0 then tksE L.length r else e):=by
  intro r
  induction r with
  | nil=>intro i e; simp only [foldC,tksE]; split<;>simp_all
  | cons x r ih=>
   intro i e
   simp only [foldC,ih,tksE]
   by_cases he:e=0
   ·simp only [if_pos he]
   ·simp only [if_neg he]
 rw [key]
 unfold ticksE codeIf
 by_cases c:t.length≤200
 ·rw [decide_eq_true (by omega),if_pos c]; simp
 ·rw [decide_eq_false (by omega),if_neg c]; simp
theorem openTE (a b:Int) (T:TL) (L:List TL) (lo hi:List Int) (W:TL) (air spread:Int) (t:TL) (hT:T.length<1000) (hn:L.length<1000) (hL:∀ x∈L,x.length<1000) (h1:lo.length<1000000) (h2:hi.length<1000000) (hw:W.length<1000) (hl:t.length<1000000) :
 r36 a b T L lo hi W air spread t=some (a,b,T,L,lo,hi,W,air,spread,if (benE a b T L lo hi W air spread).2=0 then ticksE L t else (benE a b T L lo hi W air spread).2):=by
 unfold r36 r61
 rw [benC a b T L lo hi W air spread hT hn hL h1 h2 hw,Option.bind_some,Option.bind_some]
 by_cases h:(benE a b T L lo hi W air spread).2=0
 ·simp only [h,if_true]
  rw [if_pos (by rfl),ticksC t hn hl]; rfl
 ·simp only [if_neg h]
  rw [if_neg (by simpa using h)]
end Go.Proofs.YtofkgmldcjagmaaGreatDoor

/- Field: checks of ladders and drives, as plain functions. -/
import Derived.Test.YthldpejmofhaoaaGreatDoorF01
import Derived.Test.YthldpejmofhaoaaGreatDoorF05
import Derived.Test.YthldpejmofhaoaaGreatDoorF06
import Derived.Test.YthldpejmofhaoaaGreatDoorF07
import Derived.Test.YthldpejmofhaoaaGreatDoorF08
import Derived.Test.YthldpejmofhaoaaGreatDoorF02
set_option linter.unusedVariables false
set_option linter.unusedSimpArgs false
namespace Go.Proofs.YthldpejmofhaoaaGreatDoor.Fd
open Go.Abs
def orE {ρ:Type} (s fin:Option ρ):Option ρ:=match s with | some v=>some v | none=>fin
def scanN {ρ:Type} (f:Nat→Option ρ):Nat→Nat→Option ρ
 | _,0=>none
 | i,k+1=>match f i with
  | some v=>some v
  | none=>scanN f (i+1) k
theorem iter_scan {ρ:Type} (n:Nat) (b:Int→Ctl Int ρ) (f:Nat→Option ρ) (fin:Option ρ) (hn:n<1000000000)
 (step:∀ i:Nat,i<n→b i=match f i with | some v=> .out (some v) | none=> .next ((i:Int)+1)) (stop:b n= .out fin) :
 iterC b 1000000000 0=orE (scanN f 0 n) fin:=by
 have key:∀ (k i fuel:Nat),i+k=n→k<fuel→iterC b fuel i=orE (scanN f i k) fin:=by
  intro k
  induction k with
  | zero=>
   intro i fuel hi hf
   obtain ⟨m,rfl⟩:∃ m,fuel=m+1:=⟨fuel - 1,by omega⟩
   obtain rfl:i=n:=by omega
   simp [iterC,stop,scanN,orE]
  | succ k ih=>
   intro i fuel hi hf
   obtain ⟨m,rfl⟩:∃ m,fuel=m+1:=⟨fuel - 1,by omega⟩
   simp only [iterC,step i (by omega),scanN]
   cases hfx:f i with
   | none=>
    have:=ih (i+1) m (by omega) (by omega)
    simpa using this
   | some v=>rfl
 have:=key n 0 1000000000 (by omega) hn
 simpa using this
theorem iter_run {σ ρ:Type} (n:Nat) (b:σ→Ctl σ ρ) (st:Nat→σ) (fin:Option ρ) (hn:n<1000000000)
 (step:∀ i:Nat,i<n→b (st i)= .next (st (i+1))) (stop:b (st n)= .out fin):iterC b 1000000000 (st 0)=fin:=by
 have key:∀ (k i fuel:Nat),i+k=n→k<fuel→iterC b fuel (st i)=fin:=by
  intro k
  induction k with
  | zero=>
   intro i fuel hi hf
   obtain ⟨m,rfl⟩:∃ m,fuel=m+1:=⟨fuel - 1,by omega⟩
   obtain rfl:i=n:=by omega
   simp [iterC,stop]
  | succ k ih=>
   intro i fuel hi hf
   obtain ⟨m,rfl⟩:∃ m,fuel=m+1:=⟨fuel - 1,by omega⟩
   simp only [iterC,step i (by omega)]
   exact ih (i+1) m (by omega) (by omega)
 exact key n 0 1000000000 (by omega) hn
theorem scan_none {ρ:Type} {f:Nat→Option ρ}:∀ {k i:Nat},scanN f i k=none→∀ j,i≤j→j<i+k→f j=none
 | 0,i,_,j,h1,h2=>by omega
 | k+1,i,h,j,h1,h2=>by
  simp only [scanN] at h
  cases hf:f i with
  | some v=>rw [hf] at h; cases h
  | none=>
   rw [hf] at h
   by_cases e:j=i
   ·subst e; exact hf
   ·exact scan_none h j (by omega) (by omega)
theorem scan_some {ρ:Type} {f:Nat→Option ρ} {v:ρ}:∀ {k i:Nat},scanN f i k=some v→∃ j,i≤j∧j<i+k∧f j=some v
 | 0,i,h=>by cases h
 | k+1,i,h=>by
  simp only [scanN] at h
  cases hf:f i with
  | some u=>rw [hf] at h; obtain rfl:=Option.some.inj h; exact ⟨i,by omega,by omega,hf⟩
  | none=>
   rw [hf] at h
   obtain ⟨j,h1,h2,h3⟩:=scan_some h
   exact ⟨j,by omega,by omega,h3⟩
theorem getD_mem {α:Type} [Inhabited α] {l:List α} {i:Nat} (h:i<l.length):l.getD i default∈l:=by
 rw [List.getD_eq_getElem?_getD,List.getElem?_eq_getElem h,Option.getD_some]; exact List.getElem_mem h
theorem gS {p:Prop} {α β:Type} {v:α} [Decidable (p→(some v).isSome=true)] {a b:β}:(if p→(some v).isSome=true then a else b)=a:=if_pos (fun _=>rfl)
theorem p97 (a b c:Int):r103 a b c=some (inR a b c):=rfl
theorem p33 (a b c:Int):r11 a b c=some (inR a b c):=rfl
theorem p98 (a:Int):r239 a=some (inR a 1 4):=rfl
theorem p96 (b:Bool) (e:Int):r107 b e=some (codeIf b e):=by
 unfold r107 codeIf; cases b<;>rfl
theorem p87 (l:List Int) (hl:l.length<1000000000):r106 l=some (firstV l):=by
 have h:=iter_list (τ:=Unit) l (b106_1 l) (fun i _=>i) (fun _ _ x=>if x=0 then .next () else .out (some x)) (fun _=>some 0) hl
  (fun i t hi=>by
   simp only [b106_1,ltN hi,if_true,if_pos (rgN hi),Int.toNat_natCast,wS i (by omega)]
   generalize l.getD i default=x
   by_cases hx:x=0<;>simp [hx,mapC])
  (fun t=>by simp [b106_1]) ()
 unfold r106
 rw [h]
 have:∀ (r:List Int) (i:Int),foldC (fun _ _ x=>if x=0 then Ctl.next () else .out (some x)) (fun _:Unit=>some 0) i r ()=some (firstV r):=by
  intro r
  induction r with
  | nil=>intro i; rfl
  | cons x r ih=>
   intro i
   by_cases hx:x=0
   ·simp only [foldC,hx,if_true,firstV]; exact ih _
   ·simp only [foldC,if_neg hx,firstV]
 exact this l 0
def shellE (s:Int×Int×Int):Int:=if inR s.1 1 4 && inR s.2.1 1 4 && inR s.2.2 1 4 then (if s.2.2≤s.2.1 then 0 else 9) else 2
theorem shell_first (s:Int×Int×Int):firstV [codeIf (inR s.1 1 4 && inR s.2.1 1 4 && inR s.2.2 1 4) 2,codeIf (decide (s.2.2≤s.2.1)) 9]=shellE s:=by
 unfold shellE
 cases (inR s.1 1 4 && inR s.2.1 1 4 && inR s.2.2 1 4) with
 | false=>simp [codeIf,firstV]
 | true=>by_cases h6:s.2.2≤s.2.1<;>simp [codeIf,firstV,h6]
theorem shell_ref {σ:Type} (s:Int×Int×Int) (i:Int) (nx:Ctl σ (Int×Int)) :
 (if ((!inR s.1 1 4 || !inR s.2.1 1 4) || !inR s.2.2 1 4)=true then .out (some (i,2)) else if decide (s.2.2>s.2.1)=true then .out (some (i,9)) else nx)=if shellE s=0 then nx else .out (some (i,shellE s)):=by
 unfold shellE
 cases inR s.1 1 4<;>cases inR s.2.1 1 4<;>cases inR s.2.2 1 4<;>simp
 by_cases h6:s.2.2≤s.2.1
 ·have h7:¬ s.2.1<s.2.2:=by omega
  simp [h6,h7]
 ·have h7:s.2.1<s.2.2:=by omega
  simp [h6,h7]
def shellF (L:List (Int×Int×Int)) (i:Nat):Option (Int×Int):=if shellE (L.getD i default)=0 then none else some ((i:Int),shellE (L.getD i default))
def ladO (T:Int) (L:List (Int×Int×Int)):Option (Int×Int):=
 if inR T 1 20 then (if L.length=0 then some (0,10) else if 4<L.length then some (0,8) else orE (scanN (shellF L) 0 L.length) (some (0,0))) else some (0,2)
theorem p26 (T:Int) (L:List (Int×Int×Int)):r188 T L=ladO T L:=by
 unfold r188 ladO
 simp only [p97,p96,Option.bind_some]
 rw [p87 _ (by simp),Option.bind_some]
 cases hT:inR T 1 20 with
 | false=>simp [codeIf,firstV]
 | true=>
  by_cases h0:L.length=0
  ·simp [codeIf,firstV,h0]
  ·by_cases h4:4<L.length
   ·have h1:(decide ((L.length:Int)>0))=true:=by simp; omega
    have h2:(decide ((L.length:Int)≤4))=false:=by simp; omega
    simp [codeIf,firstV,h0,h4,h1,h2]
   ·have h1:(decide ((L.length:Int)>0))=true:=by simp; omega
    have h2:(decide ((L.length:Int)≤4))=true:=by simp; omega
    rw [h1,h2]
    simp only [codeIf,if_true,firstV,bne_self_eq_false,Bool.false_eq_true,if_false,if_neg h0,if_neg h4]
    refine iter_scan L.length (b188_1 L) (shellF L) (some (0,0)) (by omega) (fun i hi=> ?_) (by simp [b188_1])
    simp only [b188_1,ltN hi,if_true,if_pos (rgN hi),Int.toNat_natCast,wS i (by omega),p97,bindC,p98,Option.isSome_some,Option.getD_some,implies_true,p96]
    rw [p87 _ (by simp)]
    simp only [bindC,shell_first,shellF]
    by_cases h5:shellE (L.getD i default)=0
    ·simp only [h5,bne_self_eq_false,Bool.false_eq_true,if_false,if_true]
    ·simp only [h5,bne_iff_ne,ne_eq,not_false_eq_true,if_true,if_false]
theorem p29 (T:Int) (L:List (Int×Int×Int)):r186 T L=ladO T L:=by
 unfold r186 ladO
 simp only [p33,Option.bind_some]
 cases hT:inR T 1 20 with
 | false=>simp
 | true=>
  simp only [Bool.not_true,Bool.false_eq_true,if_false,if_true]
  by_cases h0:L.length=0
  ·simp [h0]
  ·have h1:((L.length:Int) == 0)=false:=by simp; intro e; rw [e] at h0; simp at h0
   rw [h1,if_neg h0]
   simp only [Bool.false_eq_true,if_false]
   by_cases h4:4<L.length
   ·have h2:(decide ((L.length:Int)>4))=true:=by simp; omega
    rw [h2,if_pos h4]; rfl
   ·have h2:(decide ((L.length:Int)>4))=false:=by simp; omega
    rw [h2,if_neg h4]
    simp only [Bool.false_eq_true,if_false]
    refine iter_scan L.length (b186_1 L) (shellF L) (some (0,0)) (by omega) (fun i hi=> ?_) (by simp [b186_1])
    simp only [b186_1,ltN hi,if_true,if_pos (rgN hi),Int.toNat_natCast,wS i (by omega),p33,bindC,Option.isSome_some,Option.getD_some,implies_true]
    rw [shell_ref]
    simp only [shellF]
    by_cases h5:shellE (L.getD i default)=0
    ·simp only [h5,bne_self_eq_false,Bool.false_eq_true,if_false,if_true]
    ·simp only [h5,bne_iff_ne,ne_eq,not_false_eq_true,if_true,if_false]
theorem lad_some (T:Int) (L:List (Int×Int×Int)):∃ i e,ladO T L=some (i,e):=by
 unfold ladO
 split
 ·split
  ·exact ⟨_,_,rfl⟩
  ·split
   ·exact ⟨_,_,rfl⟩
   ·cases h:scanN (shellF L) 0 L.length with
    | none=>exact ⟨_,_,rfl⟩
    | some v=>exact ⟨v.1,v.2,rfl⟩
 ·exact ⟨_,_,rfl⟩
def ladE (T:Int) (L:List (Int×Int×Int)):Int:=((ladO T L).getD (0,0)).2
def driveE (n:Nat) (f:Int) (H:List Bool):Int:=if inR f 1 8 then (if H.length=n then 0 else 10) else 2
def bothE (T:Int) (L:List (Int×Int×Int)) (f:Int) (H:List Bool):Int:=if ladE T L=0 then driveE L.length f H else ladE T L
theorem lad_eq (T:Int) (L:List (Int×Int×Int)):∃ i,ladO T L=some (i,ladE T L):=by
 obtain ⟨i,e,h⟩:=lad_some T L
 exact ⟨i,by rw [ladE,h]; rfl⟩
theorem p99 (T:Int) (L:List (Int×Int×Int)):r97 T L=some (ladE T L):=by
 obtain ⟨i,h⟩:=lad_eq T L
 unfold r97; rw [p26,h]; rfl
theorem p100 (T:Int) (L:List (Int×Int×Int)) (f:Int) (H:List Bool):r195 T L f H=some (driveE L.length f H):=by
 unfold r195 driveE
 simp only [p97,p96,Option.bind_some]
 rw [p87 _ (by simp),Option.bind_some]
 cases inR f 1 8 with
 | false=>simp [codeIf,firstV]
 | true=>
  by_cases h:H.length=L.length
  ·simp [codeIf,firstV,h]
  ·have:((H.length:Int) == (L.length:Int))=false:=by simp; omega
   simp [codeIf,firstV,h,this]
theorem p27 (T:Int) (L:List (Int×Int×Int)) (f:Int) (H:List Bool):r190 T L f H=some (bothE T L f H):=by
 unfold r190
 rw [p99,Option.bind_some,p100,Option.bind_some,p87 _ (by simp),Option.bind_some]
 unfold bothE
 by_cases h:ladE T L=0
 ·by_cases h2:driveE L.length f H=0<;>simp [firstV,h,h2]
 ·simp [firstV,h]
structure LadOk (T:Int) (L:List (Int×Int×Int)):Prop where
 turns:1≤T∧T≤20
 pos:1≤L.length
 le:L.length≤4
 shell:∀ s∈L,(1≤s.1∧s.1≤4)∧(1≤s.2.1∧s.2.1≤4)∧1≤s.2.2∧s.2.2≤s.2.1
theorem inR_iff {a b c:Int}:inR a b c=true↔b≤a∧a≤c:=by simp [inR]
theorem shellE_ok {s:Int×Int×Int} (h:shellE s=0):(1≤s.1∧s.1≤4)∧(1≤s.2.1∧s.2.1≤4)∧1≤s.2.2∧s.2.2≤s.2.1:=by
 unfold shellE at h
 split at h
 ·rename_i hc
  simp only [Bool.and_eq_true,inR_iff] at hc
  split at h
  ·exact ⟨hc.1.1,hc.1.2,hc.2.1,by assumption⟩
  ·cases h
 ·cases h
theorem ladOk_of {T:Int} {L:List (Int×Int×Int)} (h:ladE T L=0):LadOk T L:=by
 unfold ladE ladO at h
 split at h
 ·rename_i hT
  split at h
  ·cases h
  ·split at h
   ·cases h
   ·rename_i h0 h4
    refine ⟨inR_iff.1 hT,by omega,by omega,fun s hs=> ?_⟩
    obtain ⟨i,hi,rfl⟩:=List.getElem_of_mem hs
    cases hsc:scanN (shellF L) 0 L.length with
    | none=>
     have:=scan_none hsc i (by omega) (by omega)
     unfold shellF at this
     split at this
     ·rename_i e
      rw [List.getD_eq_getElem?_getD,List.getElem?_eq_getElem hi] at e
      exact shellE_ok e
     ·cases this
    | some v=>
     obtain ⟨j,_,_,hj⟩:=scan_some hsc
     rw [hsc] at h
     unfold shellF at hj
     split at hj
     ·cases hj
     ·rename_i e
      obtain rfl:=Option.some.inj hj
      exact absurd h e
 ·cases h
structure Ok (T:Int) (L:List (Int×Int×Int)) (f:Int) (H:List Bool):Prop where
 lad:LadOk T L
 freq:1≤f∧f≤8
 hot:H.length=L.length
theorem ok_of {T:Int} {L:List (Int×Int×Int)} {f:Int} {H:List Bool} (h:bothE T L f H=0):Ok T L f H:=by
 unfold bothE at h
 split at h
 ·rename_i hl
  unfold driveE at h
  split at h
  ·rename_i hf
   split at h
   ·exact ⟨ladOk_of hl,inR_iff.1 hf,by assumption⟩
   ·cases h
  ·cases h
 ·rename_i hn; exact absurd h hn
def condsV (L:List (Int×Int×Int)):List Int:=L.map (·.1)
def reactV (f:Int):List (Int×Int×Int)→List Bool→List Int
 | s::L,b::H=>f*(if b then s.2.2 else s.2.1)::reactV f L H
 | _,_=>[]
theorem reactV_len (f:Int):∀ (L:List (Int×Int×Int)) (H:List Bool),H.length=L.length→(reactV f L H).length=L.length
 | [],_,_=>rfl
 | s::L,b::H,h=>by simp [reactV,reactV_len f L H (by simpa using h)]
 | s::L,[],h=>by simp at h
theorem wI {a:Int} (h1: -9223372036854775808≤a) (h2:a≤9223372036854775807):IntKind.i64.wrap a=a:=IntWalk.i64_in _ ⟨by omega,by omega⟩
theorem p19 (T:Int) (L:List (Int×Int×Int)) (h:L.length≤1000000):r29 T L=some (T,L):=by
 unfold r29; rw [if_pos ⟨by omega,by omega⟩]
theorem p20 (f:Int) (H:List Bool) (h:H.length≤1000000):r113 f H=some (f,H):=by
 unfold r113 r35; rw [if_pos ⟨by omega,by omega⟩]; rfl
end Go.Proofs.YthldpejmofhaoaaGreatDoor.Fd
namespace Go.Proofs.YthldpejmofhaoaaGreatDoor.Fd
open Go.Abs
theorem take_getD {α:Type} [Inhabited α] {l:List α} {i:Nat} (h:i<l.length):l.take (i+1)=l.take i++[l.getD i default]:=by
 rw [List.take_add_one,List.getElem?_eq_getElem h,List.getD_eq_getElem?_getD,List.getElem?_eq_getElem h]; rfl
theorem reactV_get (f:Int):∀ (L:List (Int×Int×Int)) (H:List Bool),H.length=L.length→∀ i,i<L.length→
 (reactV f L H).getD i default=f*(if H.getD i default=true then (L.getD i default).2.2 else (L.getD i default).2.1)
 | [],_,_,i,hi=>by simp at hi
 | s::L,[],h,i,hi=>by simp at h
 | s::L,b::H,h,i,hi=>by
  cases i with
  | zero=>rfl
  | succ i=>
   have:=reactV_get f L H (by simpa using h) i (by simpa using hi)
   simpa only [reactV,List.getD_cons_succ] using this
theorem condsV_get (L:List (Int×Int×Int)) (i:Nat) (hi:i<L.length):(condsV L).getD i default=(L.getD i default).1:=by
 simp [condsV,List.getD_eq_getElem?_getD,hi]
theorem condsV_len (L:List (Int×Int×Int)):(condsV L).length=L.length:=by simp [condsV]
variable {T:Int} {L:List (Int×Int×Int)} {f:Int} {H:List Bool}
theorem Ok.rng (ok:Ok T L f H) {i:Nat} (hi:i<L.length):1≤f*(L.getD i default).2.2∧f*(L.getD i default).2.2≤32∧1≤f*(L.getD i default).2.1∧f*(L.getD i default).2.1≤32:=by
 obtain ⟨h1,h2,h3,h4⟩:=ok.lad.shell _ (getD_mem hi)
 obtain ⟨f1,f2⟩:=ok.freq
 refine ⟨?_,?_,?_,?_⟩
 ·have:=Int.mul_le_mul f1 h3 (by omega) (by omega); omega
 ·have:=Int.mul_le_mul f2 (show (L.getD i default).2.2≤4 by omega) (by omega) (by omega); omega
 ·have:=Int.mul_le_mul f1 h2.1 (by omega) (by omega); omega
 ·have:=Int.mul_le_mul f2 h2.2 (by omega) (by omega); omega
theorem reactV_rng (ok:Ok T L f H):∀ x∈reactV f L H,1≤x∧x≤32:=by
 intro x hx
 obtain ⟨i,hi,rfl⟩:=List.getElem_of_mem hx
 rw [reactV_len f L H ok.hot] at hi
 have e:=reactV_get f L H ok.hot i hi
 rw [List.getD_eq_getElem?_getD,List.getElem?_eq_getElem (by rw [reactV_len f L H ok.hot]; exact hi),Option.getD_some] at e
 rw [e]
 have:=ok.rng hi
 split
 ·exact ⟨this.1,this.2.1⟩
 ·exact ⟨this.2.2.1,this.2.2.2⟩
theorem condsV_rng (ok:Ok T L f H):∀ x∈condsV L,1≤x∧x≤4:=by
 intro x hx
 obtain ⟨s,hs,rfl⟩:=List.mem_map.1 hx
 exact (ok.lad.shell s hs).1
theorem p119 (ok:Ok T L f H):r191 T L f H=some (condsV L,reactV f L H):=by
 have hle:=ok.lad.le
 have hrl:=reactV_len f L H ok.hot
 unfold r191
 refine iter_run L.length (b191_1 L f H) (fun i=>((i:Int),(condsV L).take i,(reactV f L H).take i)) _ (by omega) (fun i hi=> ?_) ?_
 ·have hH:i<H.length:=by rw [ok.hot]; exact hi
  obtain ⟨g1,g2,g3,g4⟩:=ok.rng hi
  simp only [b191_1,ltN hi,if_true,if_pos (rgN hi),if_pos (rgN hH),Int.toNat_natCast,wS i (by omega),List.length_take]
  rw [take_getD (show i<(condsV L).length by rw [condsV_len]; exact hi),take_getD (show i<(reactV f L H).length by rw [hrl]; exact hi),condsV_get L i hi,reactV_get f L H ok.hot i hi]
  by_cases hb:H.getD i default=true
  ·rw [if_pos hb,if_pos hb,if_pos ⟨by omega,by omega⟩,if_pos ⟨by omega,by omega⟩,wI (by omega) (by omega)]; rfl
  ·rw [if_neg hb,if_neg hb,if_pos ⟨by omega,by omega⟩,if_pos ⟨by omega,by omega⟩,wI (by omega) (by omega)]; rfl
 ·simp only [b191_1]
  rw [if_neg (by simp)]
  rw [← condsV_len L,List.take_length,condsV_len, ← hrl,List.take_length]
theorem p83 (T:Int) (L:List (Int×Int×Int)) (f:Int) (H:List Bool):r108 T L f H=some (if bothE T L f H=0 then (condsV L,reactV f L H,0) else ([],[],bothE T L f H)):=by
 unfold r108
 rw [p27,Option.bind_some]
 by_cases h:bothE T L f H=0
 ·rw [if_neg (by simp [h]),p119 (ok_of h),if_pos h]; rfl
 ·rw [if_pos (by simpa using h),if_neg h]
theorem p30 (l m:List Int) (hl:l.length<1000000000) (h:l=m):r64 l m=some true:=by
 subst h
 unfold r64
 rw [if_neg (by simp)]
 refine iter_run l.length (b64_1 l l) (fun i=>(i:Int)) _ hl (fun i hi=> ?_) (by simp [b64_1])
 simp only [b64_1,ltN hi,if_true,if_pos (rgN hi),Int.toNat_natCast,wS i (by omega),bne_self_eq_false,Bool.false_eq_true,if_false]
 rfl
end Go.Proofs.YthldpejmofhaoaaGreatDoor.Fd
namespace Go.Proofs.YthldpejmofhaoaaGreatDoor.Fd
open Go.Abs
def curV (c:Int) (v i:Int×Int):Int×Int:=(i.1+c*v.1,i.2+c*v.2)
def volV (x:Int) (v i:Int×Int):Int×Int:=(v.1 - x*i.2,v.2+x*i.1)
def solV:List Int→List Int→List (Int×Int)×List (Int×Int)
 | c::cs,x::xs=>
  let p:=solV cs xs
  let v:=p.1.headD (1,0)
  let i:=curV c v (p.2.headD (0,0))
  (volV x v i::p.1,i::p.2)
 | _,_=>([(1,0)],[])
theorem solV_len:∀ (cs xs:List Int),xs.length=cs.length→(solV cs xs).1.length=cs.length+1∧(solV cs xs).2.length=cs.length
 | [],[],_=>⟨rfl,rfl⟩
 | c::cs,x::xs,h=>by
  have:=solV_len cs xs (by simpa using h)
  simp [solV,this.1,this.2]
 | [],_::_,h=>by simp at h
 | _::_,[],h=>by simp at h
def Bd (b:Int) (p:Int×Int):Prop:= -b≤p.1∧p.1≤b∧ -b≤p.2∧p.2≤b
def bV:Nat→Int×Int
 | 0=>(1,0)
 | n+1=>((bV n).1+32*((bV n).2+4*(bV n).1),(bV n).2+4*(bV n).1)
theorem bV_pos:∀ n,1≤(bV n).1∧0≤(bV n).2
 | 0=>by decide
 | n+1=>by have:=bV_pos n; simp only [bV]; omega
theorem mulB {c C v b:Int} (h0:0≤c) (hc:c≤C) (h1: -b≤v) (h2:v≤b): -(C*b)≤c*v∧c*v≤C*b:=by
 have hb:0≤b:=by omega
 have e1:c*v≤c*b:=Int.mul_le_mul_of_nonneg_left h2 h0
 have e2:c* -b≤c*v:=Int.mul_le_mul_of_nonneg_left h1 h0
 have e3:c*b≤C*b:=Int.mul_le_mul_of_nonneg_right hc hb
 rw [Int.mul_neg] at e2
 omega
theorem curV_bd {c bv bi:Int} {v i:Int×Int} (h:0≤c∧c≤4) (hv:Bd bv v) (hi:Bd bi i):Bd (bi+4*bv) (curV c v i):=by
 obtain ⟨v1,v2,v3,v4⟩:=hv
 obtain ⟨i1,i2,i3,i4⟩:=hi
 have e1:=mulB h.1 h.2 v1 v2
 have e2:=mulB h.1 h.2 v3 v4
 refine ⟨?_,?_,?_,?_⟩<;>simp only [curV]<;>omega
theorem volV_bd {x bv bi:Int} {v i:Int×Int} (h:0≤x∧x≤32) (hv:Bd bv v) (hi:Bd bi i):Bd (bv+32*bi) (volV x v i):=by
 obtain ⟨v1,v2,v3,v4⟩:=hv
 obtain ⟨i1,i2,i3,i4⟩:=hi
 have e1:=mulB h.1 h.2 i1 i2
 have e2:=mulB h.1 h.2 i3 i4
 refine ⟨?_,?_,?_,?_⟩<;>simp only [volV]<;>omega
structure Lad (cs xs:List Int):Prop where
 len:xs.length=cs.length
 c:∀ c∈cs,1≤c∧c≤4
 x:∀ x∈xs,1≤x∧x≤32
theorem Lad.tail {c x:Int} {cs xs:List Int} (h:Lad (c::cs) (x::xs)):Lad cs xs:=
 ⟨by simpa using h.len,fun y hy=>h.c y (List.mem_cons_of_mem _ hy),fun y hy=>h.x y (List.mem_cons_of_mem _ hy)⟩
theorem Lad.drop {cs xs:List Int} (h:Lad cs xs) (k:Nat):Lad (cs.drop k) (xs.drop k):=
 ⟨by simp [h.len],fun y hy=>h.c y (List.mem_of_mem_drop hy),fun y hy=>h.x y (List.mem_of_mem_drop hy)⟩
theorem solV_bd:∀ {cs xs:List Int},Lad cs xs→Bd (bV cs.length).1 ((solV cs xs).1.headD (1,0))∧Bd (bV cs.length).2 ((solV cs xs).2.headD (0,0))
 | [],[],_=>⟨⟨by decide,by decide,by decide,by decide⟩,⟨by decide,by decide,by decide,by decide⟩⟩
 | c::cs,x::xs,h=>by
  obtain ⟨h1,h2⟩:=solV_bd h.tail
  have hc:=h.c c (List.mem_cons_self ..)
  have hx:=h.x x (List.mem_cons_self ..)
  have e:=curV_bd ⟨by omega,hc.2⟩ h1 h2
  exact ⟨volV_bd ⟨by omega,hx.2⟩ h1 e,e⟩
 | [],_::_,h=>by have:=h.len; simp at this
 | _::_,[],h=>by have:=h.len; simp at this
theorem p116 {cs xs:List Int} {k:Nat} (hk:k<cs.length) (hx:k<xs.length) {v i:Int×Int} (hc:1≤cs.getD k default∧cs.getD k default≤4) (hxx:1≤xs.getD k default∧xs.getD k default≤32) (hv:Bd 2179841 v) (hi:Bd 67596 i) :
 r234 cs xs k v.1 v.2 i.1 i.2=some ((curV (cs.getD k default) v i).1,(curV (cs.getD k default) v i).2,(volV (xs.getD k default) v (curV (cs.getD k default) v i)).1,(volV (xs.getD k default) v (curV (cs.getD k default) v i)).2):=by
 obtain ⟨v1,v2,v3,v4⟩:=hv
 obtain ⟨i1,i2,i3,i4⟩:=hi
 have e1:=mulB (by omega) hc.2 v1 v2
 have e2:=mulB (by omega) hc.2 v3 v4
 obtain ⟨g1,g2,g3,g4⟩:=curV_bd (c:=cs.getD k default) ⟨by omega,hc.2⟩ ⟨v1,v2,v3,v4⟩ ⟨i1,i2,i3,i4⟩
 have e3:=mulB (by omega) hxx.2 g1 g2
 have e4:=mulB (by omega) hxx.2 g3 g4
 unfold r234
 rw [if_pos (rgN hk)]
 simp only [Int.toNat_natCast,r185,r278,r279,Option.bind_some,if_pos (rgN hx)]
 generalize hcc:cs.getD k default=c at*
 generalize hxv:xs.getD k default=x at*
 simp only [curV,volV] at*
 rw [wI (a:=c*v.1) (by omega) (by omega),wI (a:=c*v.2) (by omega) (by omega),wI (a:=i.1+c*v.1) (by omega) (by omega),wI (a:=i.2+c*v.2) (by omega) (by omega),wI (a:=0 - x) (by omega) (by omega),
  wI (a:=x*(i.1+c*v.1)) (by omega) (by omega)]
 have e5:(0 - x)*(i.2+c*v.2)= -(x*(i.2+c*v.2)):=by rw [Int.zero_sub,Int.neg_mul]
 rw [e5,wI (a:= -(x*(i.2+c*v.2))) (by omega) (by omega),wI (a:=v.1+ -(x*(i.2+c*v.2))) (by omega) (by omega),wI (a:=v.2+x*(i.1+c*v.1)) (by omega) (by omega)]
 rfl
end Go.Proofs.YthldpejmofhaoaaGreatDoor.Fd
namespace Go.Proofs.YthldpejmofhaoaaGreatDoor.Fd
open Go.Abs
theorem rep_set {α:Type} (n:Nat) (a b:α) (l:List α):(List.replicate (n+1) a++l).set n b=List.replicate n a++b::l:=by
 induction n with
 | zero=>rfl
 | succ n ih=>rw [List.replicate_succ,List.cons_append,List.set_cons_succ,ih]; rfl
theorem rep_set0 {α:Type} (n:Nat) (a b:α):(List.replicate (n+1) a).set n b=List.replicate n a++[b]:=by
 have:=rep_set n a b []
 simpa using this
theorem rep_getD {α:Type} [Inhabited α] (n:Nat) (a b:α) (l:List α):(List.replicate n a++b::l).getD n default=b:=by
 induction n with
 | zero=>rfl
 | succ n ih=>rw [List.replicate_succ,List.cons_append,List.getD_cons_succ,ih]
theorem head_cons {α:Type} (l:List α) (d:α) (h:l≠[]):∃ t,l=l.headD d::t:=by
 cases l with
 | nil=>exact absurd rfl h
 | cons x t=>exact ⟨t,rfl⟩
def solP (cs xs:List Int) (k:Nat):List (Int×Int)×List (Int×Int):=solV (cs.drop k) (xs.drop k)
variable {cs xs:List Int}
theorem solP_succ (h:Lad cs xs) {k:Nat} (hk:k<cs.length) :
 solP cs xs k=(volV (xs.getD k default) ((solP cs xs (k+1)).1.headD (1,0)) (curV (cs.getD k default) ((solP cs xs (k+1)).1.headD (1,0)) ((solP cs xs (k+1)).2.headD (0,0)))::(solP cs xs (k+1)).1,
  curV (cs.getD k default) ((solP cs xs (k+1)).1.headD (1,0)) ((solP cs xs (k+1)).2.headD (0,0))::(solP cs xs (k+1)).2):=by
 have hx:k<xs.length:=by rw [h.len]; exact hk
 unfold solP
 rw [List.drop_eq_getElem_cons hk,List.drop_eq_getElem_cons hx]
 simp only [solV]
 have e1:cs.getD k default=cs[k]:=by rw [List.getD_eq_getElem?_getD,List.getElem?_eq_getElem hk]; rfl
 have e2:xs.getD k default=xs[k]:=by rw [List.getD_eq_getElem?_getD,List.getElem?_eq_getElem hx]; rfl
 rw [e1,e2]
theorem solP_end (h:Lad cs xs):solP cs xs cs.length=([(1,0)],[]):=by
 unfold solP
 rw [List.drop_length, ← h.len,List.drop_length]; rfl
theorem solP_zero:solP cs xs 0=solV cs xs:=by simp [solP]
theorem solP_len (h:Lad cs xs) (k:Nat) (hk:k≤cs.length):(solP cs xs k).1.length=cs.length - k+1∧(solP cs xs k).2.length=cs.length - k:=by
 have:=solV_len (cs.drop k) (xs.drop k) (h.drop k).len
 simpa [solP] using this
theorem solP_bd (h:Lad cs xs) (h4:cs.length≤4) {k:Nat} (hk:1≤k):Bd 2179841 ((solP cs xs k).1.headD (1,0))∧Bd 67596 ((solP cs xs k).2.headD (0,0)):=by
 obtain ⟨h1,h2⟩:=solV_bd (h.drop k)
 change Bd 2179841 ((solV (cs.drop k) (xs.drop k)).1.headD (1,0))∧Bd 67596 ((solV (cs.drop k) (xs.drop k)).2.headD (0,0))
 have hl:(cs.drop k).length≤3:=by simp; omega
 generalize (cs.drop k).length=m at*
 have:(bV m).1≤2179841∧(bV m).2≤67596:=by
  match m,hl with
  | 0,_=>decide
  | 1,_=>decide
  | 2,_=>decide
  | 3,_=>decide
 obtain ⟨a1,a2,a3,a4⟩:=h1
 obtain ⟨b1,b2,b3,b4⟩:=h2
 exact ⟨⟨by omega,by omega,by omega,by omega⟩,⟨by omega,by omega,by omega,by omega⟩⟩
def stA (cs xs:List Int) (k:Nat):Int×Int×Int×List (Int×Int)×List (Int×Int):=
 ((k:Int) - 1,((solP cs xs k).2.headD (0,0)).1,((solP cs xs k).2.headD (0,0)).2,List.replicate k (0,0)++(solP cs xs k).2,List.replicate k (0,0)++(solP cs xs k).1)
theorem volt_get (h:Lad cs xs) {k:Nat} (hk:k≤cs.length):(List.replicate k ((0:Int),(0:Int))++(solP cs xs k).1).getD k default=(solP cs xs k).1.headD (1,0):=by
 obtain ⟨t,ht⟩:=head_cons (solP cs xs k).1 (1,0) (by intro e; have:=(solP_len h k hk).1; rw [e] at this; simp at this)
 conv=>lhs; rw [ht]
 rw [rep_getD]
theorem step84 (h:Lad cs xs) (h4:cs.length≤4) {k:Nat} (hk:k<cs.length):b183_1 cs xs (stA cs xs (k+1))= .next (stA cs xs k):=by
 have hx:k<xs.length:=by rw [h.len]; exact hk
 obtain ⟨hv,hi⟩:=solP_bd h h4 (show 1≤k+1 by omega)
 obtain ⟨l1,l2⟩:=solP_len h (k+1) hk
 have e0:((k+1:Nat):Int) - 1=(k:Int):=by omega
 have e1:IntKind.i64.wrap ((k:Int)+1)=((k+1:Nat):Int):=by rw [wI (by omega) (by omega)]; rfl
 have e2:IntKind.i64.wrap ((k:Int) - 1)=(k:Int) - 1:=wI (by omega) (by omega)
 have hn:(k+1)+(solP cs xs (k+1)).1.length=cs.length+1:=by omega
 have hm:(k+1)+(solP cs xs (k+1)).2.length=cs.length:=by omega
 simp only [b183_1,stA,e0,e1,e2,List.length_append,List.length_replicate,hn,hm]
 rw [if_pos (by simp),if_pos ⟨by omega,by omega⟩,if_pos ⟨by omega,by omega⟩]
 simp only [Int.toNat_natCast]
 rw [volt_get h hk,p116 hk hx (h.c _ (getD_mem hk)) (h.x _ (getD_mem hx)) hv hi]
 simp only [bindC]
 rw [if_pos ⟨by omega,by omega⟩,if_pos ⟨by omega,by omega⟩,if_pos ⟨by omega,by omega⟩,rep_set,rep_set,solP_succ h hk]
 rfl
theorem p84 (h:Lad cs xs) (h1:1≤cs.length) (h4:cs.length≤4):r183 cs xs=some (solV cs xs):=by
 have e1:IntKind.i64.wrap ((cs.length:Int)+1)=((cs.length+1:Nat):Int):=by rw [wI (by omega) (by omega)]; rfl
 have e2:IntKind.i64.wrap ((cs.length:Int) - 1)=(cs.length:Int) - 1:=wI (by omega) (by omega)
 unfold r183
 simp only [e1,Int.toNat_natCast,e2]
 rw [if_pos ⟨by omega,by omega,by omega,by omega⟩,if_pos ⟨by omega,by omega,by omega,by omega⟩,if_pos ⟨by omega,by omega⟩,rep_set0]
 have key:=iter_run cs.length (b183_1 cs xs) (fun j=>stA cs xs (cs.length - j)) (some (solV cs xs)) (by omega) (fun j hj=>by
  have:=step84 h h4 (show cs.length - (j+1)<cs.length by omega)
  rw [show cs.length - (j+1)+1=cs.length - j by omega] at this
  exact this) (by
  show b183_1 cs xs (stA cs xs (cs.length - cs.length))=_
  rw [Nat.sub_self]
  unfold b183_1
  rw [if_neg (by simp [stA])]
  simp only [stA,solP_zero]
  rfl)
 rw [Nat.sub_zero] at key
 rw [← key]
 unfold stA
 rw [solP_end h]
 simp
variable {T:Int} {L:List (Int×Int×Int)} {f:Int} {H:List Bool}
theorem Ok.ladr (ok:Ok T L f H):Lad (condsV L) (reactV f L H):=
 ⟨by rw [reactV_len f L H ok.hot,condsV_len],condsV_rng ok,reactV_rng ok⟩
end Go.Proofs.YthldpejmofhaoaaGreatDoor.Fd
namespace Go.Proofs.YthldpejmofhaoaaGreatDoor.Fd
open Go.Abs
def nrm (v:Int×Int):Int:=v.1*v.1+v.2*v.2
def hV (cs xs:List Int):Int×Int:=(solV cs xs).1.headD (1,0)
def hI (cs xs:List Int):Int×Int:=(solV cs xs).2.headD (0,0)
def powV:List Int→List Int→List Int
 | c::cs,x::xs=>c*nrm (hV cs xs)::powV cs xs
 | _,_=>[]
theorem hI_cons (c x:Int) (cs xs:List Int):hI (c::cs) (x::xs)=curV c (hV cs xs) (hI cs xs):=rfl
theorem hV_cons (c x:Int) (cs xs:List Int):hV (c::cs) (x::xs)=volV x (hV cs xs) (curV c (hV cs xs) (hI cs xs)):=rfl
theorem powV_len:∀ (cs xs:List Int),xs.length=cs.length→(powV cs xs).length=cs.length
 | [],[],_=>rfl
 | c::cs,x::xs,h=>by simp [powV,powV_len cs xs (by simpa using h)]
 | [],_::_,h=>by simp at h
 | _::_,[],h=>by simp at h
theorem sqI (a:Int):0≤a*a:=by
 rcases Int.le_total 0 a with h | h
 ·exact Int.mul_nonneg h h
 ·exact Int.mul_nonneg_of_nonpos_of_nonpos h h
theorem nrm_nn (v:Int×Int):0≤nrm v:=by
 have h1:=sqI v.1
 have h2:=sqI v.2
 unfold nrm; omega
theorem step_nrm (x:Int) (c:Int) (v i:Int×Int):nrm (volV x v (curV c v i))=nrm v+(x*x)*nrm (curV c v i) - (2*x)*(v.1*i.2 - v.2*i.1):=by
 simp only [nrm,curV,volV]; grind
theorem step_crs (x:Int) (c:Int) (v i:Int×Int):(volV x v (curV c v i)).1*(curV c v i).2 - (volV x v (curV c v i)).2*(curV c v i).1=(v.1*i.2 - v.2*i.1) - x*nrm (curV c v i):=by
 simp only [nrm,curV,volV]; grind
theorem crs_le:∀ {cs xs:List Int},Lad cs xs→(hV cs xs).1*(hI cs xs).2 - (hV cs xs).2*(hI cs xs).1≤0
 | [],[],_=>by decide
 | c::cs,x::xs,h=>by
  have ih:=crs_le h.tail
  have hx:=h.x x (List.mem_cons_self ..)
  rw [hI_cons,hV_cons,step_crs]
  have:=Int.mul_nonneg (show 0≤x by omega) (nrm_nn (curV c (hV cs xs) (hI cs xs)))
  omega
 | [],_::_,h=>by have:=h.len; simp at this
 | _::_,[],h=>by have:=h.len; simp at this
theorem nrm_grow {c x:Int} {cs xs:List Int} (h:Lad (c::cs) (x::xs)):nrm (hV cs xs)≤nrm (hV (c::cs) (x::xs)):=by
 have h1:=crs_le h.tail
 have hx:=h.x x (List.mem_cons_self ..)
 rw [hV_cons,step_nrm]
 have e1:=Int.mul_nonneg (sqI x) (nrm_nn (curV c (hV cs xs) (hI cs xs)))
 have e2:=Int.mul_nonneg (show 0≤2*x by omega) (show 0≤ -((hV cs xs).1*(hI cs xs).2 - (hV cs xs).2*(hI cs xs).1) by omega)
 rw [Int.mul_neg] at e2
 omega
theorem nrm_pos:∀ {cs xs:List Int},Lad cs xs→1≤nrm (hV cs xs)
 | [],[],_=>by decide
 | c::cs,x::xs,h=>by
  have:=nrm_pos h.tail
  have:=nrm_grow h
  omega
 | [],_::_,h=>by have:=h.len; simp at this
 | _::_,[],h=>by have:=h.len; simp at this
theorem pow_pos:∀ {cs xs:List Int},Lad cs xs→∀ p∈powV cs xs,1≤p
 | [],[],_=>by simp [powV]
 | c::cs,x::xs,h=>by
  have ih:=pow_pos h.tail
  have h1:=nrm_pos h.tail
  have hc:=h.c c (List.mem_cons_self ..)
  intro p hp
  simp only [powV,List.mem_cons] at hp
  rcases hp with rfl | hp
  ·have:=Int.mul_le_mul hc.1 h1 (by omega) (by omega); omega
  ·exact ih p hp
 | [],_::_,h=>by have:=h.len; simp at this
 | _::_,[],h=>by have:=h.len; simp at this
theorem dotLe {a b:Int×Int} {A B:Int} (hA:0≤A) (hB:0≤B) (ha:nrm a≤A*A) (hb:nrm b≤B*B):a.1*b.1+a.2*b.2≤A*B:=by
 have e:(a.1*b.1+a.2*b.2)*(a.1*b.1+a.2*b.2)+(a.1*b.2 - a.2*b.1)*(a.1*b.2 - a.2*b.1)=nrm a*nrm b:=by
  simp only [nrm]; grind
 have e1:nrm a*nrm b≤(A*A)*(B*B):=Int.mul_le_mul ha hb (nrm_nn b) (sqI A)
 have e2:(A*A)*(B*B)=(A*B)*(A*B):=by grind
 have e3:=sqI (a.1*b.2 - a.2*b.1)
 have h0:0≤A*B:=Int.mul_nonneg hA hB
 generalize a.1*b.1+a.2*b.2=d at*
 by_cases hd:d≤A*B
 ·exact hd
 ·have h1:A*B+1≤d:=by omega
  have:=Int.mul_le_mul h1 h1 (by omega) (by omega)
  have h2:(A*B+1)*(A*B+1)=(A*B)*(A*B)+2*(A*B)+1:=by grind
  omega
theorem addLe {a b:Int×Int} {A B:Int} (hA:0≤A) (hB:0≤B) (ha:nrm a≤A*A) (hb:nrm b≤B*B):nrm (a.1+b.1,a.2+b.2)≤(A+B)*(A+B):=by
 have h:=dotLe hA hB ha hb
 have e:nrm (a.1+b.1,a.2+b.2)=nrm a+nrm b+2*(a.1*b.1+a.2*b.2):=by simp only [nrm]; grind
 have e2:(A+B)*(A+B)=A*A+B*B+2*(A*B):=by grind
 omega
theorem scaleLe {a:Int×Int} {c C A:Int} (hc:0≤c) (hC:c≤C) (ha:nrm a≤A*A):nrm (c*a.1,c*a.2)≤(C*A)*(C*A)∧nrm (-(c*a.2),c*a.1)≤(C*A)*(C*A):=by
 have e:nrm (c*a.1,c*a.2)=(c*c)*nrm a:=by simp only [nrm]; grind
 have e':nrm (-(c*a.2),c*a.1)=(c*c)*nrm a:=by simp only [nrm]; grind
 have h1:c*c≤C*C:=Int.mul_le_mul hC hC hc (by omega)
 have h2:=Int.mul_le_mul h1 ha (nrm_nn a) (sqI C)
 have h3:(C*C)*(A*A)=(C*A)*(C*A):=by grind
 exact ⟨by omega,by omega⟩
theorem nrm_bd:∀ {cs xs:List Int},Lad cs xs→nrm (hV cs xs)≤(bV cs.length).1*(bV cs.length).1∧nrm (hI cs xs)≤(bV cs.length).2*(bV cs.length).2
 | [],[],_=>by decide
 | c::cs,x::xs,h=>by
  obtain ⟨h1,h2⟩:=nrm_bd h.tail
  have hc:=h.c c (List.mem_cons_self ..)
  have hx:=h.x x (List.mem_cons_self ..)
  have hp:=bV_pos cs.length
  have e1:=addLe hp.2 (show 0≤4*(bV cs.length).1 by omega) h2 (scaleLe (C:=4) (by omega) hc.2 h1).1
  have e2:=addLe (show 0≤(bV cs.length).1 by omega) (show 0≤32*((bV cs.length).2+4*(bV cs.length).1) by omega) h1 (scaleLe (c:=x) (C:=32) (by omega) hx.2 e1).2
  refine ⟨?_,e1⟩
  rw [hV_cons,List.length_cons]
  simp only [volV,curV,bV]
  simp only [Int.sub_eq_add_neg]
  exact e2
 | [],_::_,h=>by have:=h.len; simp at this
 | _::_,[],h=>by have:=h.len; simp at this
def sB:Nat→Int
 | 0=>0
 | n+1=>4*((bV n).1*(bV n).1)+sB n
theorem sum_bd:∀ {cs xs:List Int},Lad cs xs→(powV cs xs).sum≤sB cs.length
 | [],[],_=>by decide
 | c::cs,x::xs,h=>by
  have ih:=sum_bd h.tail
  have h1:=(nrm_bd h.tail).1
  have hc:=h.c c (List.mem_cons_self ..)
  have:=Int.mul_le_mul hc.2 h1 (nrm_nn _) (by omega)
  simp only [powV,List.sum_cons,List.length_cons,sB]
  omega
 | [],_::_,h=>by have:=h.len; simp at this
 | _::_,[],h=>by have:=h.len; simp at this
theorem sB_le {n:Nat} (h:n≤4):sB n≤19008000000000:=by
 match n,h with
 | 0,_=>decide
 | 1,_=>decide
 | 2,_=>decide
 | 3,_=>decide
 | 4,_=>decide
def wat (t all:Int):Int→List Int→List Int
 | _,[]=>[]
 | s,p::ps=>(t*(s+p) / all - t*s / all)::wat t all (s+p) ps
theorem wat_len (t all:Int):∀ (ps:List Int) (s:Int),(wat t all s ps).length=ps.length
 | [],_=>rfl
 | p::ps,s=>by simp [wat,wat_len t all ps]
theorem wat_sum (t all:Int):∀ (ps:List Int) (s:Int),(wat t all s ps).sum=t*(s+ps.sum) / all - t*s / all
 | [],s=>by simp [wat]
 | p::ps,s=>by
  simp only [wat,List.sum_cons,wat_sum t all ps]
  rw [Int.add_assoc]; omega
theorem ediv_rng {t s all:Int} (ht:0≤t) (h0:0≤s) (h1:s≤all) (ha:0<all):0≤t*s / all∧t*s / all≤t:=by
 refine ⟨Int.ediv_nonneg (Int.mul_nonneg ht h0) (by omega),?_⟩
 have:t*s≤t*all:=Int.mul_le_mul_of_nonneg_left h1 ht
 have:=Int.ediv_le_ediv ha this
 rwa [Int.mul_ediv_cancel t (by omega)] at this
theorem ediv_mono {t s p all:Int} (ht:0≤t) (hp:0≤p) (ha:0<all):t*s / all≤t*(s+p) / all:=by
 apply Int.ediv_le_ediv ha
 exact Int.mul_le_mul_of_nonneg_left (by omega) ht
def dep (pc all:Int):Int→List Int→Nat
 | _,[]=>0
 | s,p::ps=>if 100*(s+p)≥pc*all then 1 else 1+dep pc all (s+p) ps
theorem dep_mono {pc pd all:Int} (ha:0≤all) (h:pc≤pd):∀ (ps:List Int) (s:Int),dep pc all s ps≤dep pd all s ps
 | [],_=>by simp [dep]
 | p::ps,s=>by
  have ih:=dep_mono ha h ps (s+p)
  have:pc*all≤pd*all:=Int.mul_le_mul_of_nonneg_right h ha
  unfold dep
  split
  ·split<;>omega
  ·split<;>omega
theorem tmod_abs (a b:Int):(a.tmod b).natAbs=a.natAbs % b.natAbs:=Int.natAbs_tmod a b
theorem gcd_step (a b:Int):Int.gcd b (a.tmod b)=Int.gcd a b:=by
 unfold Int.gcd
 rw [tmod_abs,Nat.gcd_comm a.natAbs,Nat.gcd_rec b.natAbs a.natAbs,Nat.gcd_comm]
theorem half_mod {a b:Nat} (hb:0<b) (h:b≤a):2*(a % b)<a+1:=by
 have h1:=Nat.mod_lt a hb
 have h2:=Nat.div_add_mod a b
 have h3:1≤a / b:=(Nat.le_div_iff_mul_le hb).2 (by omega)
 have h4:b*1≤b*(a / b):=Nat.mul_le_mul_left b h3
 omega
theorem euclid {ρ:Type} (B:Int×Int→Ctl (Int×Int) ρ) (fin:Int→Option ρ) (R:Int→Prop) (hR:∀ a b,R a→R b→R (a.tmod b))
 (h0:∀ a,R a→B (a,0)= .out (fin a)) (h1:∀ a b,R a→R b→b≠0→B (a,b)= .next (b,a.tmod b)) :
 ∀ (k:Nat) (a b:Int) (fuel:Nat),R a→R b→b.natAbs<2 ^ k→2*k+1≤fuel→∃ g,R g∧g.natAbs=Int.gcd a b∧iterC B fuel (a,b)=fin g
 | 0,a,b,fuel,ra,rb,hb,hf=>by
  obtain ⟨m,rfl⟩:∃ m,fuel=m+1:=⟨fuel - 1,by omega⟩
  have:b=0:=by simpa using hb
  subst this
  exact ⟨a,ra,by simp [Int.gcd],by simp only [iterC,h0 a ra]⟩
 | k+1,a,b,fuel,ra,rb,hb,hf=>by
  obtain ⟨m,rfl⟩:∃ m,fuel=m+2:=⟨fuel - 2,by omega⟩
  by_cases h:b=0
  ·subst h
   exact ⟨a,ra,by simp [Int.gcd],by simp only [iterC,h0 a ra]⟩
  ·by_cases h2:a.tmod b=0
   ·refine ⟨b,rb,?_,by simp only [iterC,h1 a b ra rb h,h2,h0 b rb]⟩
    rw [← gcd_step,h2]; simp [Int.gcd]
   ·have hr:=hR a b ra rb
    have hs:=hR b _ rb hr
    have hp:0<b.natAbs:=Int.natAbs_pos.2 h
    have hq:0<(a.tmod b).natAbs:=Int.natAbs_pos.2 h2
    have l1:(a.tmod b).natAbs<b.natAbs:=by rw [tmod_abs]; exact Nat.mod_lt _ hp
    have l2:2*(b.tmod (a.tmod b)).natAbs<b.natAbs+1:=by
     rw [tmod_abs b]
     exact half_mod hq (by omega)
    have hpow:(2:Nat) ^ (k+1)=2*2 ^ k:=by rw [Nat.pow_succ]; omega
    obtain ⟨g,e1,e2,e3⟩:=euclid B fin R hR h0 h1 k (a.tmod b) (b.tmod (a.tmod b)) m hr hs (by omega) (by omega)
    refine ⟨g,e1,by rw [e2,gcd_step,gcd_step],?_⟩
    simp only [iterC,h1 a b ra rb h,h1 b _ rb hr h2]
    exact e3
def vV (cs xs:List Int) (k:Nat):Int×Int:=hV (cs.drop k) (xs.drop k)
theorem dropTake {α:Type} [Inhabited α] (l:List α) (i:Nat) (h:i<l.length - 1):((l.drop 1).take (l.length - 1)).getD i default=l.getD (i+1) default:=by
 simp only [List.getD_eq_getElem?_getD,List.getElem?_take,if_pos h,List.getElem?_drop,Nat.add_comm]
theorem solV_get:∀ {cs xs:List Int},xs.length=cs.length→∀ k,k≤cs.length→(solV cs xs).1.getD k default=vV cs xs k
 | [],[],_,k,hk=>by
  obtain rfl:k=0:=by simpa using hk
  rfl
 | c::cs,x::xs,h,0,_=>rfl
 | c::cs,x::xs,h,k+1,hk=>solV_get (cs:=cs) (xs:=xs) (by simpa using h) k (by simpa using hk)
 | [],_::_,h,_,_=>by simp at h
 | _::_,[],h,_,_=>by simp at h
theorem powV_get:∀ {cs xs:List Int},xs.length=cs.length→∀ k,k<cs.length→(powV cs xs).getD k default=cs.getD k default*nrm (vV cs xs (k+1))
 | [],[],_,k,hk=>by simp at hk
 | c::cs,x::xs,h,0,_=>rfl
 | c::cs,x::xs,h,k+1,hk=>powV_get (cs:=cs) (xs:=xs) (by simpa using h) k (by simpa using hk)
 | [],_::_,h,_,_=>by simp at h
 | _::_,[],h,_,_=>by simp at h
theorem wat_at (t all:Int):∀ (ps:List Int) (s:Int) (i:Nat),i<ps.length→(wat t all s ps).getD i default=t*(s+(ps.take (i+1)).sum) / all - t*(s+(ps.take i).sum) / all
 | [],_,i,hi=>by simp at hi
 | p::ps,s,0,_=>by simp [wat]
 | p::ps,s,i+1,hi=>by
  have:=wat_at t all ps (s+p) i (by simpa using hi)
  simp only [wat,List.getD_cons_succ,this,List.take_succ_cons,List.sum_cons]
  rw [Int.add_assoc,Int.add_assoc]
theorem sum_nn:∀ (l:List Int),(∀ p∈l,0≤p)→0≤l.sum
 | [],_=>by simp
 | a::l,h=>by
  rw [List.sum_cons]
  have:=h a (List.mem_cons_self ..)
  have:=sum_nn l (fun r hr=>h r (List.mem_cons_of_mem _ hr))
  omega
theorem pre_succ (l:List Int) (i:Nat) (h:i<l.length):(l.take (i+1)).sum=(l.take i).sum+l.getD i default:=by
 rw [take_getD h,List.sum_append]; simp
theorem pre_rng (l:List Int) (h:∀ p∈l,0≤p) (i:Nat):0≤(l.take i).sum∧(l.take i).sum≤l.sum:=by
 refine ⟨sum_nn _ (fun p hp=>h p (List.mem_of_mem_take hp)),?_⟩
 have e:l.sum=(l.take i).sum+(l.drop i).sum:=by rw [← List.sum_append,List.take_append_drop]
 have:=sum_nn _ (fun p hp=>h p (List.mem_of_mem_drop (i:=i) hp))
 omega
theorem iter_suf {σ ρ:Type} (n:Nat) (b:σ→Ctl σ ρ) (st:Nat→σ) (G:Nat→Option ρ) (hn:n<1000000000)
 (step:∀ i:Nat,i<n→(b (st i)= .next (st (i+1))∧G i=G (i+1))∨b (st i)= .out (G i)) (stop:b (st n)= .out (G n)):iterC b 1000000000 (st 0)=G 0:=by
 have key:∀ (k i fuel:Nat),i+k=n→k<fuel→iterC b fuel (st i)=G i:=by
  intro k
  induction k with
  | zero=>
   intro i fuel hi hf
   obtain ⟨m,rfl⟩:∃ m,fuel=m+1:=⟨fuel - 1,by omega⟩
   obtain rfl:i=n:=by omega
   simp [iterC,stop]
  | succ k ih=>
   intro i fuel hi hf
   obtain ⟨m,rfl⟩:∃ m,fuel=m+1:=⟨fuel - 1,by omega⟩
   rcases step i (by omega) with ⟨h1,h2⟩ | h1
   ·simp only [iterC,h1]
    rw [h2]
    exact ih (i+1) m (by omega) (by omega)
   ·simp only [iterC,h1]
 exact key n 0 1000000000 (by omega) hn
end Go.Proofs.YthldpejmofhaoaaGreatDoor.Fd
namespace Go.Proofs.YthldpejmofhaoaaGreatDoor.Fd
open Go.Abs
theorem iter_invF {σ ρ:Type} (n:Nat) (b:σ→Ctl σ ρ) (Inv:Nat→σ→Prop) (Q:Option ρ→Prop) (hn:n<1000000000)
 (step:∀ i:Nat,i<n→∀ s,Inv i s→∃ s',b s= .next s'∧Inv (i+1) s') (stop:∀ s,Inv n s→∃ o,b s= .out o∧Q o) {s0:σ} (h0:Inv 0 s0):Q (iterC b 1000000000 s0):=by
 have key:∀ (k i fuel:Nat) (s:σ),i+k=n→k<fuel→Inv i s→Q (iterC b fuel s):=by
  intro k
  induction k with
  | zero=>
   intro i fuel s hi hf hs
   obtain ⟨m,rfl⟩:∃ m,fuel=m+1:=⟨fuel - 1,by omega⟩
   obtain rfl:i=n:=by omega
   obtain ⟨o,e,q⟩:=stop s hs
   simp only [iterC,e]; exact q
  | succ k ih=>
   intro i fuel s hi hf hs
   obtain ⟨m,rfl⟩:∃ m,fuel=m+1:=⟨fuel - 1,by omega⟩
   obtain ⟨s',e,hs'⟩:=step i (by omega) s hs
   simp only [iterC,e]
   exact ih (i+1) m s' (by omega) (by omega) hs'
 exact key n 0 1000000000 s0 (by omega) hn h0
def R63 (a:Int):Prop:= -9223372036854775807≤a∧a≤9223372036854775807
theorem R63_mod {a b:Int} (ha:R63 a) (hb:R63 b):R63 (a.tmod b):=by
 have h:=tmod_abs a b
 have h2:=Nat.mod_le a.natAbs b.natAbs
 unfold R63 at*
 omega
theorem R63_abs {a:Int} (ha:R63 a):a.natAbs<2 ^ 63:=by
 unfold R63 at ha
 have:(2:Nat) ^ 63=9223372036854775808:=by decide
 omega
def gcdL (l:List Int):Nat:=l.foldl (fun g x=>Nat.gcd g x.natAbs) 0
theorem gcdL_snoc (l:List Int) (x:Int):gcdL (l++[x])=Nat.gcd (gcdL l) x.natAbs:=by
 simp [gcdL,List.foldl_append]
theorem p110_2 (s:Int×Int) {a b:Int} (ha:R63 a) (hb:R63 b):∃ g,R63 g∧g.natAbs=Int.gcd a b∧iterC (b235_2 s) 1000000000 (a,b)=some (.next (g,IntKind.i64.wrap (s.2+1))):=by
 exact euclid (b235_2 s) (fun g=>some (.next (g,IntKind.i64.wrap (s.2+1)))) R63 (fun _ _=>R63_mod) (fun a ra=>by
  unfold b235_2
  rw [if_neg (by simp)]) (fun a b ra rb hb0=>by
  unfold b235_2
  rw [if_pos (by simpa using hb0),if_pos hb0]) 63 a b 1000000000 ha hb (R63_abs hb) (by omega)
theorem p110 (l:List Int) (hl:l.length≤1000000) (h:∀ x∈l,R63 x):r235 l=some (gcdL l:Int):=by
 unfold r235
 refine iter_invF l.length (b235_1 l) (fun i s=>s.2=(i:Int)∧R63 s.1∧s.1.natAbs=gcdL (l.take i)) (fun o=>o=some (gcdL l:Int)) (by omega) (fun i hi s hs=> ?_) (fun s hs=> ?_) ⟨rfl,⟨by decide,by decide⟩,rfl⟩
 ·obtain ⟨s1,s2⟩:=s
  obtain ⟨e,hr,hg⟩:=hs
  simp only [] at e hr hg
  subst e
  obtain ⟨g,g1,g2,g3⟩:=p110_2 (s1,(i:Int)) hr (h _ (getD_mem hi))
  refine ⟨(g,IntKind.i64.wrap ((i:Int)+1)),?_,?_,g1,?_⟩
  ·simp only [b235_1,ltN hi,if_true,if_pos (rgN hi),Int.toNat_natCast,g3,Option.getD_some]
  ·simp only [wS i (by omega)]; rfl
  ·rw [take_getD hi,gcdL_snoc, ← hg]; exact g2
 ·obtain ⟨s1,s2⟩:=s
  obtain ⟨e,hr,hg⟩:=hs
  simp only [] at e hr hg
  subst e
  rw [List.take_length] at hg
  refine ⟨some (gcdL l:Int),?_,rfl⟩
  unfold b235_1
  rw [if_neg (by simp)]
  unfold R63 at hr
  simp only []
  rw [wI (a:=0 - s1) (by omega) (by omega)]
  congr 2
  split<;>omega
end Go.Proofs.YthldpejmofhaoaaGreatDoor.Fd
namespace Go.Proofs.YthldpejmofhaoaaGreatDoor.Fd
open Go.Abs
theorem wrapP {c:Int} {v:Int×Int} (hc:1≤c) (hB:c*nrm v≤1000000000000000) :
 IntKind.i64.wrap (c*IntKind.i64.wrap (IntKind.i64.wrap (v.1*v.1)+IntKind.i64.wrap (v.2*v.2)))=c*nrm v:=by
 have h0:=nrm_nn v
 have h1:=Int.mul_le_mul_of_nonneg_right hc h0
 have a:=sqI v.1
 have b:=sqI v.2
 have e:nrm v=v.1*v.1+v.2*v.2:=rfl
 rw [wI (a:=v.1*v.1) (by omega) (by omega),wI (a:=v.2*v.2) (by omega) (by omega),wI (a:=v.1*v.1+v.2*v.2) (by omega) (by omega), ← e,wI (by omega) (by omega)]
theorem dT {α:Type} [Inhabited α] {l:List α} {n i:Nat} (hn:l.length=n+1) (h:i<n):((l.drop 1).take n).getD i default=l.getD (i+1) default:=by
 have:=dropTake l i (by omega)
 rwa [show l.length - 1=n by omega] at this
variable {cs xs:List Int}
theorem pow_ok (h:Lad cs xs) (h4:cs.length≤4):(∀ p∈powV cs xs,0≤p)∧(powV cs xs).sum≤19008000000000∧(powV cs xs).length=cs.length:=
 ⟨fun p hp=>by have:=pow_pos h p hp; omega,Int.le_trans (sum_bd h) (sB_le h4),powV_len cs xs h.len⟩
theorem all_pos (h:Lad cs xs) (h1:1≤cs.length):1≤(powV cs xs).sum:=by
 match cs,xs,h,h1 with
 | c::cs,x::xs,h,_=>
  have hp:=pow_pos h
  rw [powV,List.sum_cons]
  have h1:=hp _ (by rw [powV]; exact List.mem_cons_self ..)
  have h2:=sum_nn (powV cs xs) (fun p hq=>by have:=hp p (by rw [powV]; exact List.mem_cons_of_mem _ hq); omega)
  omega
 | c::cs,[],h,_=>have:=h.len; simp at this
theorem pow_at (h:Lad cs xs) (h4:cs.length≤4) {i:Nat} (hi:i<cs.length) :
 IntKind.i64.wrap (cs.getD i default*IntKind.i64.wrap (IntKind.i64.wrap ((vV cs xs (i+1)).1*(vV cs xs (i+1)).1)+IntKind.i64.wrap ((vV cs xs (i+1)).2*(vV cs xs (i+1)).2)))=(powV cs xs).getD i default∧
 0≤(powV cs xs).getD i default∧(powV cs xs).getD i default≤19008000000000∧0≤((powV cs xs).take i).sum∧((powV cs xs).take i).sum+(powV cs xs).getD i default=((powV cs xs).take (i+1)).sum∧((powV cs xs).take (i+1)).sum≤(powV cs xs).sum:=by
 obtain ⟨p1,p2,p3⟩:=pow_ok h h4
 have e:=powV_get h.len i hi
 have hs:=pre_succ (powV cs xs) i (by omega)
 have hr:=pre_rng (powV cs xs) p1 i
 have hr':=pre_rng (powV cs xs) p1 (i+1)
 have hm:=p1 _ (getD_mem (show i<(powV cs xs).length by omega))
 have hc:=h.c _ (getD_mem hi)
 have hw:=wrapP (c:=cs.getD i default) (v:=vV cs xs (i+1)) hc.1 (by rw [← e]; omega)
 rw [← e] at hw
 exact ⟨hw,hm,by omega,hr.1,by omega,hr'.2⟩
def stP (cs xs:List Int) (i:Nat):Int×Int×List Int×Int:=(((powV cs xs).take i).sum,(i:Int),(powV cs xs).take i,((powV cs xs).take i).sum)
theorem step101 (h:Lad cs xs) (h4:cs.length≤4) {i:Nat} (hi:i<cs.length):b192_1 cs (solV cs xs) (stP cs xs i)= .next (stP cs xs (i+1)):=by
 have hl:=(solV_len cs xs h.len).1
 obtain ⟨p1,p2,p3⟩:=pow_ok h h4
 obtain ⟨q1,q2,q3,q4,q5,q6⟩:=pow_at h h4 hi
 have hg:=solV_get h.len (i+1) (by omega)
 simp only [b192_1,stP,hl,Nat.add_sub_cancel,Int.toNat_natCast,dT hl hi,List.length_take,List.length_drop,Nat.min_self,ltN hi,if_true,if_pos (rgN hi),hg,q1,wS i (by omega)]
 rw [wI (a:=((powV cs xs).take i).sum+(powV cs xs).getD i default) (by omega) (by omega),q5,if_pos ⟨by omega,by omega⟩,take_getD (show i<(powV cs xs).length by omega)]
 rfl
theorem p101 (h:Lad cs xs) (h1:1≤cs.length) (h4:cs.length≤4):r192 cs xs=some (powV cs xs,(powV cs xs).sum):=by
 have hl:=(solV_len cs xs h.len).1
 obtain ⟨p1,p2,p3⟩:=pow_ok h h4
 unfold r192
 rw [p84 h h1 h4,Option.bind_some,if_pos ⟨by omega,by omega,by omega⟩]
 have:=iter_run cs.length (b192_1 cs (solV cs xs)) (stP cs xs) (some (powV cs xs,(powV cs xs).sum)) (by omega) (fun i hi=>step101 h h4 hi) (by
  unfold b192_1
  rw [if_neg (by simp [stP,hl])]
  simp only [stP, ← p3,List.take_length])
 simpa [stP] using this
def stW (t:Int) (cs xs:List Int) (i:Nat):Int×Int×List Int×Int:=
 (((powV cs xs).take i).sum,(i:Int),(wat t (powV cs xs).sum 0 (powV cs xs)).take i,t*((powV cs xs).take i).sum / (powV cs xs).sum)
theorem mul_rng {t s:Int} (h0:0≤t) (h1:t≤100000) (hs:0≤s) (hm:s≤19008000000000):0≤t*s∧t*s≤1900800000000000000:=by
 refine ⟨Int.mul_nonneg h0 hs,?_⟩
 have:=Int.mul_le_mul h1 hm hs (by omega)
 omega
theorem step103 (h:Lad cs xs) (h1:1≤cs.length) (h4:cs.length≤4) {t:Int} (t0:0≤t) (t1:t≤100000) {i:Nat} (hi:i<cs.length) :
 b110_1 cs t (powV cs xs,(powV cs xs).sum) (solV cs xs) (stW t cs xs i)= .next (stW t cs xs (i+1)):=by
 have hl:=(solV_len cs xs h.len).1
 obtain ⟨p1,p2,p3⟩:=pow_ok h h4
 obtain ⟨q1,q2,q3,q4,q5,q6⟩:=pow_at h h4 hi
 have hg:=solV_get h.len (i+1) (by omega)
 have ha:=all_pos h h1
 obtain ⟨m1,m2⟩:=mul_rng t0 t1 (s:=((powV cs xs).take (i+1)).sum) (by omega) (by omega)
 have e1:=ediv_rng t0 (s:=((powV cs xs).take (i+1)).sum) (all:=(powV cs xs).sum) (by omega) (by omega) (by omega)
 have e2:=ediv_rng t0 (s:=((powV cs xs).take i).sum) (all:=(powV cs xs).sum) (by omega) (by omega) (by omega)
 have hwl:(wat t (powV cs xs).sum 0 (powV cs xs)).length=cs.length:=by rw [wat_len,p3]
 have hat:=wat_at t (powV cs xs).sum (powV cs xs) 0 i (by omega)
 rw [Int.zero_add,Int.zero_add] at hat
 simp only [b110_1,stW,hl,Nat.add_sub_cancel,Int.toNat_natCast,dT hl hi,List.length_take,List.length_drop,Nat.min_self,ltN hi,if_true,if_pos (rgN hi),hg,q1,wS i (by omega)]
 rw [wI (a:=((powV cs xs).take i).sum+(powV cs xs).getD i default) (by omega) (by omega),q5,if_pos (by omega),if_pos ⟨by omega,by omega⟩,wI (a:=t*((powV cs xs).take (i+1)).sum) (by omega) (by omega),
  Int.tdiv_eq_ediv_of_nonneg m1,wI (a:=t*((powV cs xs).take (i+1)).sum / (powV cs xs).sum) (by omega) (by omega),wI (by omega) (by omega),take_getD (show i<(wat t (powV cs xs).sum 0 (powV cs xs)).length by omega),hat]
 rfl
theorem p103 (h:Lad cs xs) (h1:1≤cs.length) (h4:cs.length≤4) {t:Int} (t0:0≤t) (t1:t≤100000):r110 cs xs t=some (wat t (powV cs xs).sum 0 (powV cs xs)):=by
 have hl:=(solV_len cs xs h.len).1
 obtain ⟨p1,p2,p3⟩:=pow_ok h h4
 have hwl:(wat t (powV cs xs).sum 0 (powV cs xs)).length=cs.length:=by rw [wat_len,p3]
 unfold r110
 rw [p101 h h1 h4,Option.bind_some,p84 h h1 h4,Option.bind_some,if_pos ⟨by omega,by omega,by omega⟩]
 have:=iter_run cs.length (b110_1 cs t (powV cs xs,(powV cs xs).sum) (solV cs xs)) (stW t cs xs) (some (wat t (powV cs xs).sum 0 (powV cs xs))) (by omega) (fun i hi=>step103 h h1 h4 t0 t1 hi) (by
  unfold b110_1
  rw [if_neg (by simp [stW,hl])]
  simp only [stW, ← hwl,List.take_length])
 simpa [stW] using this
variable {T:Int} {L:List (Int×Int×Int)} {f:Int} {H:List Bool}
theorem Ok.lenc (ok:Ok T L f H):1≤(condsV L).length∧(condsV L).length≤4:=by
 rw [condsV_len]; exact ⟨ok.lad.pos,ok.lad.le⟩
theorem p102 (t:Int):r109 t=some (codeIf (inR t 0 100000) 2):=by
 unfold r109; rw [p97,Option.bind_some,p96]; rfl
theorem p38 (T:Int) (L:List (Int×Int×Int)) (f:Int) (H:List Bool) (t:Int) :
 r34 T L f H t=some (if bothE T L f H≠0 then ([],bothE T L f H) else if inR t 0 100000=true then (wat t (powV (condsV L) (reactV f L H)).sum 0 (powV (condsV L) (reactV f L H)),0) else ([],2)):=by
 unfold r34
 rw [p83,Option.bind_some,p102,Option.bind_some,p87 _ (by simp),Option.bind_some]
 by_cases h:bothE T L f H=0
 ·simp only [if_pos h,ne_eq,h,not_true,if_false]
  cases ht:inR t 0 100000 with
  | false=>simp [codeIf,firstV]
  | true=>
   simp only [codeIf,firstV,if_true,bne_self_eq_false,Bool.false_eq_true,if_false]
   rw [p103 (ok_of h).ladr (ok_of h).lenc.1 (ok_of h).lenc.2 (inR_iff.1 ht).1 (inR_iff.1 ht).2]; rfl
 ·simp only [if_neg h,ne_eq,h,not_false_eq_true,if_true,firstV,if_false]
  rw [if_pos (by simpa using h)]
theorem p106 (n d:Int) (hd:0<d) (h1: -9000000000000000000≤n) (h2:n≤9000000000000000000):r32 n d=some (n / d):=by
 have b1: -9000000000000000000≤n / d:=by
  rw [Int.le_ediv_iff_mul_le hd]
  have:=Int.mul_le_mul_of_nonneg_left (show 1≤d by omega) (show (0:Int)≤9000000000000000000 by omega)
  omega
 have b2:n / d<9000000000000000001:=by
  rw [Int.ediv_lt_iff_lt_mul hd]
  have:=Int.mul_le_mul_of_nonneg_left (show 1≤d by omega) (show (0:Int)≤9000000000000000001 by omega)
  omega
 unfold r32
 rw [if_pos (by omega),if_pos (by omega),Int.tmod_eq_emod,Int.tdiv_eq_ediv]
 have m1:=Int.emod_nonneg n (show d≠0 by omega)
 have m2:=Int.emod_lt_of_pos n hd
 by_cases hc:0≤n∨d∣n
 ·rw [if_pos hc,if_pos hc,if_neg (by rw [decide_eq_true_eq]; omega),Int.add_zero,IntWalk.i64_in (n / d) ⟨by omega,by omega⟩]
 ·rw [if_neg hc,if_neg hc,if_pos (by rw [decide_eq_true_eq]; omega),Int.sign_eq_one_of_pos hd]
  rw [IntWalk.i64_in (n / d+1) ⟨by omega,by omega⟩,Int.add_sub_cancel,IntWalk.i64_in (n / d) ⟨by omega,by omega⟩]
end Go.Proofs.YthldpejmofhaoaaGreatDoor.Fd
namespace Go.Proofs.YthldpejmofhaoaaGreatDoor.Fd
open Go.Abs
variable {T:Int} {L:List (Int×Int×Int)} {f:Int} {H:List Bool}
end Go.Proofs.YthldpejmofhaoaaGreatDoor.Fd
namespace Go.Proofs.YthldpejmofhaoaaGreatDoor.Fd
open Go.Abs
def rngI (lo hi:Int):List Int:=(List.range (hi - lo+1).toNat).map (fun (i:Nat)=>lo+i)
theorem rngI_nil {lo hi:Int} (h:hi<lo):rngI lo hi=[]:=by
 unfold rngI
 rw [show (hi - lo+1).toNat=0 by omega]; rfl
theorem rngI_cons {lo hi:Int} (h:lo≤hi):rngI lo hi=lo::rngI (lo+1) hi:=by
 unfold rngI
 rw [show (hi - lo+1).toNat=(hi - (lo+1)+1).toNat+1 by omega,List.range_succ_eq_map,List.map_cons,List.map_map]
 congr 1
 ·simp
 ·apply List.map_congr_left
  intro i _
  simp only [Function.comp]
  omega
theorem rngI_mem {lo hi n:Int}:n∈rngI lo hi↔lo≤n∧n≤hi:=by
 unfold rngI
 simp only [List.mem_map,List.mem_range]
 constructor
 ·rintro ⟨i,hi,rfl⟩; omega
 ·rintro ⟨h1,h2⟩; exact ⟨(n - lo).toNat,by omega,by omega⟩
theorem iter_rng {σ ρ:Type} (b:Int×σ→Ctl (Int×σ) ρ) (G:σ→Int→σ) (fin:σ→Option ρ) (Inv:σ→Prop) (lo hi:Int) (hlo:lo≤hi+1) (hn:hi - lo+1<1000000000)
 (step:∀ n o,lo≤n→n≤hi→Inv o→b (n,o)= .next (n+1,G o n)∧Inv (G o n)) (stop:∀ o,Inv o→b (hi+1,o)= .out (fin o)) (o:σ) (ho:Inv o) :
 iterC b 1000000000 (lo,o)=fin ((rngI lo hi).foldl G o):=by
 have key:∀ (k fuel:Nat) (n:Int) (o:σ),n+k=hi+1→lo≤n→k<fuel→Inv o→iterC b fuel (n,o)=fin ((rngI n hi).foldl G o):=by
  intro k
  induction k with
  | zero=>
   intro fuel n o h1 h2 hf ho
   obtain ⟨m,rfl⟩:∃ m,fuel=m+1:=⟨fuel - 1,by omega⟩
   obtain rfl:n=hi+1:=by omega
   rw [rngI_nil (by omega)]
   simp only [iterC,stop o ho,List.foldl_nil]
  | succ k ih=>
   intro fuel n o h1 h2 hf ho
   obtain ⟨m,rfl⟩:∃ m,fuel=m+1:=⟨fuel - 1,by omega⟩
   obtain ⟨e1,e2⟩:=step n o h2 (by omega) ho
   rw [rngI_cons (by omega)]
   simp only [iterC,e1,List.foldl_cons]
   exact ih m (n+1) (G o n) (by omega) (by omega) (by omega) e2
 exact key (hi - lo+1).toNat 1000000000 lo o (by omega) (by omega) (by omega) ho
def updL:List (Int×Int)→List Int→List (Int×Int)
 | r::R,w::W=>((if w<r.1 then w else r.1),(if r.2<w then w else r.2))::updL R W
 | [],w::W=>(w,w)::updL [] W
 | R,[]=>R
theorem updL_nil (R:List (Int×Int)):updL R []=R:=by cases R<;>rfl
theorem updL_len0:∀ W:List Int,(updL [] W).length=W.length
 | []=>rfl
 | w::W=>by simp [updL,updL_len0 W]
theorem updL_lenN:∀ (R:List (Int×Int)) (W:List Int),W.length≤R.length→(updL R W).length=R.length
 | [],[],_=>rfl
 | r::R,[],_=>rfl
 | r::R,w::W,h=>by simp [updL,updL_lenN R W (by simpa using h)]
 | [],_::_,h=>by simp at h
theorem updL_snoc0:∀ (W:List Int) (w:Int),updL [] (W++[w])=updL [] W++[(w,w)]
 | [],_=>rfl
 | a::W,w=>by simp [updL,updL_snoc0 W w]
theorem updL_snocN:∀ (R:List (Int×Int)) (W:List Int) (w:Int),W.length<R.length→
 updL R (W++[w])=(updL R W).set W.length ((if w<((updL R W).getD W.length default).1 then w else ((updL R W).getD W.length default).1),(if ((updL R W).getD W.length default).2<w then w else ((updL R W).getD W.length default).2))
 | [],_,_,h=>by simp at h
 | r::R,[],w,_=>by simp [updL,updL_nil]
 | r::R,a::W,w,h=>by
  have ih:=updL_snocN R W w (by simpa using h)
  simp only [List.cons_append,updL,List.length_cons,List.getD_cons_succ,List.set_cons_succ,ih]
def InvR (N:Nat) (o:List (Int×Int)):Prop:=o=[]∨o.length=N
theorem updL_inv {N:Nat} {o:List (Int×Int)} {W:List Int} (h:InvR N o) (hW:W.length=N):(updL o W).length=N:=by
 rcases h with rfl | h
 ·rw [updL_len0,hW]
 ·rw [updL_lenN _ _ (by omega),h]
def gB {ρ:Type} (W:List Int) (F:List (Int×Int)→Option ρ):Int×List (Int×Int)→Ctl (Int×List (Int×Int)) ρ:=fun s1=>
 if (decide (s1.1<(W.length:Int)))=true then
  if 0≤s1.1∧s1.1<(W.length:Int) then
   if (s1.1 == (s1.2.length:Int))=true then
    if (s1.2.length+1)*16≤140737488355328∧s1.2.length+1≤9223372036854775807 then
     if 0≤s1.1∧s1.1<((s1.2++[((W.getD s1.1.toNat default),(W.getD s1.1.toNat default))]).length:Int) then
      if 0≤s1.1∧s1.1<((s1.2++[((W.getD s1.1.toNat default),(W.getD s1.1.toNat default))]).length:Int) then
       if 0≤s1.1∧s1.1<((s1.2++[((W.getD s1.1.toNat default),(W.getD s1.1.toNat default))]).length:Int) then
        .next (IntKind.i64.wrap (s1.1+1),(s1.2++[((W.getD s1.1.toNat default),(W.getD s1.1.toNat default))]).set s1.1.toNat ((if (W.getD s1.1.toNat default)<((s1.2++[((W.getD s1.1.toNat default),(W.getD s1.1.toNat default))]).getD s1.1.toNat default).1 then (W.getD s1.1.toNat default) else ((s1.2++[((W.getD s1.1.toNat default),(W.getD s1.1.toNat default))]).getD s1.1.toNat default).1),(if ((s1.2++[((W.getD s1.1.toNat default),(W.getD s1.1.toNat default))]).getD s1.1.toNat default).2<(W.getD s1.1.toNat default) then (W.getD s1.1.toNat default) else ((s1.2++[((W.getD s1.1.toNat default),(W.getD s1.1.toNat default))]).getD s1.1.toNat default).2)))
        else .out none
       else .out none
      else .out none
     else .out none
    else if 0≤s1.1∧s1.1<(s1.2.length:Int) then
     if 0≤s1.1∧s1.1<(s1.2.length:Int) then
      if 0≤s1.1∧s1.1<(s1.2.length:Int) then
       .next (IntKind.i64.wrap (s1.1+1),s1.2.set s1.1.toNat ((if (W.getD s1.1.toNat default)<(s1.2.getD s1.1.toNat default).1 then (W.getD s1.1.toNat default) else (s1.2.getD s1.1.toNat default).1),(if (s1.2.getD s1.1.toNat default).2<(W.getD s1.1.toNat default) then (W.getD s1.1.toNat default) else (s1.2.getD s1.1.toNat default).2)))
       else .out none
      else .out none
     else .out none
   else .out none
  else .out (F s1.2)
theorem loopG {ρ:Type} (W:List Int) (F:List (Int×Int)→Option ρ) {N:Nat} (hW:W.length=N) (hN:N≤4) {o:List (Int×Int)} (ho:InvR N o):iterC (gB W F) 1000000000 (0,o)=F (updL o W):=by
 have key:=iter_run W.length (gB W F) (fun i=>((i:Int),updL o (W.take i))) (F (updL o W)) (by omega) (fun i hi=>by
  rcases ho with rfl | ho
  ·have hlen:(updL [] (W.take i)).length=i:=by rw [updL_len0]; simp; omega
   have e0:((i:Int) == (((updL [] (W.take i)).length:Nat):Int))=true:=by rw [hlen]; simp
   have e1:((updL [] (W.take i)++[((W.getD i default),(W.getD i default))]).length:Int)=(i:Int)+1:=by
    rw [List.length_append,hlen]; simp
   have e2:(updL [] (W.take i)++[((W.getD i default),(W.getD i default))]).getD i default=((W.getD i default),(W.getD i default)):=by
    rw [List.getD_eq_getElem?_getD,List.getElem?_append_right (by omega),hlen,Nat.sub_self]; rfl
   have e3:∀ x:Int×Int,(updL [] (W.take i)++[((W.getD i default),(W.getD i default))]).set i x=updL [] (W.take i)++[x]:=by
    intro x
    rw [List.set_append_right _ _ (by omega),hlen,Nat.sub_self]; rfl
   have g:(0:Int)≤(i:Int)∧(i:Int)<(i:Int)+1:=⟨by omega,by omega⟩
   simp only [gB,ltN hi,if_true,if_pos (rgN hi),Int.toNat_natCast,wS i (by omega),e0,e1,e2,e3,if_pos g,hlen]
   rw [if_pos (show (i+1)*16≤140737488355328∧i+1≤9223372036854775807 by omega),take_getD hi,updL_snoc0]
   simp
  ·have hlen:(updL o (W.take i)).length=N:=by rw [updL_lenN _ _ (by simp; omega),ho]
   have e0:((i:Int) == ((N:Nat):Int))=false:=by simp; omega
   have hiN:i<N:=by omega
   have ht:(W.take i).length=i:=by simp; omega
   have hs:=updL_snocN o (W.take i) (W.getD i default) (by omega)
   rw [ht] at hs
   simp only [gB,ltN hi,if_true,if_pos (rgN hi),Int.toNat_natCast,wS i (by omega),e0,Bool.false_eq_true,if_false,hlen,if_pos (rgN hiN)]
   rw [take_getD hi,hs]; rfl) (by
  unfold gB
  rw [if_neg (by simp)]
  simp only [List.take_length])
 simpa [updL_nil] using key
def full (Wf:List Int→List Int):List Int→List (Int×Int)→List (Int×Int)→List (Int×Int)
 | p,[],o=>updL o (Wf p)
 | p,r::rs,o=>(rngI r.1 r.2).foldl (fun o n=>full Wf (p++[n]) rs o) o
def watQ (X:List Int) (t:Int) (q:List Int):List Int:=wat t (powV q X).sum 0 (powV q X)
structure Cl (Rg:List (Int×Int)) (X:List Int) (t:Int):Prop where
 x:∀ x∈X,1≤x∧x≤32
 len:Rg.length=X.length
 pos:1≤X.length
 le:X.length≤4
 r:∀ r∈Rg,1≤r.1∧r.1≤r.2∧r.2≤4
 t0:0≤t
 t1:t≤100000
def In4 (q:List Int):Prop:=∀ c∈q,1≤c∧c≤4
variable {Rg:List (Int×Int)} {X:List Int} {t:Int}
theorem Cl.lad (h:Cl Rg X t) {q:List Int} (hq:In4 q) (hl:q.length=X.length):Lad q X:=⟨hl.symm,hq,h.x⟩
theorem Cl.w (h:Cl Rg X t) {q:List Int} (hq:In4 q) (hl:q.length=X.length):r110 q X t=some (watQ X t q)∧(watQ X t q).length=X.length:=by
 have hL:=h.lad hq hl
 have hp:=h.pos
 have hle:=h.le
 refine ⟨p103 hL (by omega) (by omega) h.t0 h.t1,?_⟩
 unfold watQ
 rw [wat_len,powV_len _ _ hL.len,hl]
theorem in4_snoc {p:List Int} {n:Int} (hp:In4 p) (h1:1≤n) (h2:n≤4):In4 (p++[n]):=by
 intro c hc
 rcases List.mem_append.1 hc with hc | hc
 ·exact hp c hc
 ·rw [List.mem_singleton.1 hc]; exact ⟨h1,h2⟩
theorem foldl_inv {α σ:Type} (I:σ→Prop) (g:σ→α→σ):∀ (l:List α) (o:σ),I o→(∀ a∈l,∀ o,I o→I (g o a))→I (l.foldl g o)
 | [],_,h,_=>h
 | a::l,o,h,hs=>by
  rw [List.foldl_cons]
  exact foldl_inv I g l (g o a) (hs a (List.mem_cons_self ..) o h) (fun b hb=>hs b (List.mem_cons_of_mem _ hb))
theorem full_inv (h:Cl Rg X t):∀ (rs:List (Int×Int)) (p:List Int) (o:List (Int×Int)),In4 p→p.length+rs.length=X.length→(∀ r∈rs,1≤r.1∧r.1≤r.2∧r.2≤4)→InvR X.length o→InvR X.length (full (watQ X t) p rs o)
 | [],p,o,hp,hl,_,ho=> .inr (updL_inv ho (h.w hp (by simpa using hl)).2)
 | r::rs,p,o,hp,hl,hr,ho=>by
  have hr0:=hr r (List.mem_cons_self ..)
  unfold full
  refine foldl_inv (InvR X.length) _ _ _ ho (fun n hn o ho=> ?_)
  rw [rngI_mem] at hn
  exact full_inv h rs (p++[n]) o (in4_snoc hp (by omega) (by omega)) (by simp at hl ⊢; omega) (fun r hr'=>hr r (List.mem_cons_of_mem _ hr')) ho
theorem level {ρ:Type} (h:Cl Rg X t) (b:Int×List (Int×Int)→Ctl (Int×List (Int×Int)) ρ) (fin:List (Int×Int)→Option ρ) {p:List Int} {r:Int×Int} {rs:List (Int×Int)} (hp:In4 p) (hl:p.length+(r::rs).length=X.length)
 (hr:∀ q∈r::rs,1≤q.1∧q.1≤q.2∧q.2≤4) (hb:∀ n o,r.1≤n→n≤r.2→InvR X.length o→b (n,o)= .next (n+1,full (watQ X t) (p++[n]) rs o)) (hstop:∀ o,b (r.2+1,o)= .out (fin o)) (o:List (Int×Int)) (ho:InvR X.length o) :
 iterC b 1000000000 (r.1,o)=fin (full (watQ X t) p (r::rs) o):=by
 have hr0:=hr r (List.mem_cons_self ..)
 exact iter_rng b (fun o n=>full (watQ X t) (p++[n]) rs o) fin (InvR X.length) r.1 r.2 (by omega) (by omega) (fun n o h1 h2 ho=>
  ⟨hb n o h1 h2 ho,full_inv h rs (p++[n]) o (in4_snoc hp (by omega) (by omega)) (by simp at hl ⊢; omega) (fun q hq=>hr q (List.mem_cons_of_mem _ hq)) ho⟩) (fun o _=>hstop o) o ho
theorem Cl.get (h:Cl Rg X t) {k:Nat} (hk:k<Rg.length):1≤(Rg.getD k default).1∧(Rg.getD k default).1≤(Rg.getD k default).2∧(Rg.getD k default).2≤4:=h.r _ (getD_mem hk)
theorem Cl.drop (h:Cl Rg X t) (k:Nat):∀ r∈Rg.drop k,1≤r.1∧r.1≤r.2∧r.2≤4:=fun r hr=>h.r r (List.mem_of_mem_drop hr)
theorem dropP {l:List (Int×Int)} {k:Nat} (h:k<l.length):l.drop k=l.getD k default::l.drop (k+1):=by
 rw [List.drop_eq_getElem_cons h,List.getD_eq_getElem?_getD,List.getElem?_eq_getElem h]; rfl
theorem decT {n m:Int} (h:n≤m):decide (n≤m)=true:=by simpa using h
theorem decF' {m:Int}:¬ (decide (m+1≤m)=true):=by simp; omega
theorem e9 (s8:Int×List (Int×Int)) (W:List Int):b111_9 s8 W=gB W (fun o=>some (.next (IntKind.i64.wrap (s8.1+1),o))):=rfl
theorem e7 (s6:Int×List (Int×Int)) (W:List Int):b111_7 s6 W=gB W (fun o=>some (.next (IntKind.i64.wrap (s6.1+1),o))):=rfl
theorem e5 (s4:Int×List (Int×Int)) (W:List Int):b111_5 s4 W=gB W (fun o=>some (.next (IntKind.i64.wrap (s4.1+1),o))):=rfl
theorem e3 (s2:Int×List (Int×Int)) (W:List Int):b111_3 s2 W=gB W (fun o=>some (.next (IntKind.i64.wrap (s2.1+1),o))):=rfl
variable {C:List Int} {s2 s4 s6:Int×List (Int×Int)}
theorem L8 (h:Cl Rg X t) (hN:Rg.length=4) (hp:In4 [s2.1,s4.1,s6.1]) (o:List (Int×Int)) (ho:InvR X.length o) :
 iterC (b111_8 Rg t (C,X) s2 s4 s6) 1000000000 ((Rg.getD 3 default).1,o)=some (.next (IntKind.i64.wrap (s6.1+1),full (watQ X t) [s2.1,s4.1,s6.1] (Rg.drop 3) o)):=by
 have hl:=h.len
 have hg:=h.get (k:=3) (by omega)
 have hd:Rg.drop 4=[]:=List.drop_eq_nil_of_le (by omega)
 have hdr:=h.drop 3
 rw [dropP (show 3<Rg.length by omega),hd] at hdr ⊢
 refine level h (b111_8 Rg t (C,X) s2 s4 s6) (fun o=>some (Ctl.next (IntKind.i64.wrap (s6.1+1),o))) hp (by simp; omega) hdr (fun n o h1 h2 ho=> ?_) (fun o=> ?_) o ho
 ·have hq:In4 [s2.1,s4.1,s6.1,n]:=in4_snoc hp (by omega) (by omega)
  obtain ⟨w1,w2⟩:=h.w hq (by simp; omega)
  show (if decide (n≤(Rg.getD 3 default).2)=true then (if (3+1)*8≤140737488355328∧3+1≤9223372036854775807 then (if ((4:Int) == (Rg.length:Int))=true then bindC (r110 [s2.1,s4.1,s6.1,n] X t) fun v42=>(iterC (b111_9 (n,o) v42) 1000000000 (0,o)).getD (.out none) else _) else _) else _)=_
  rw [if_pos (decT h2),if_pos ⟨by decide,by decide⟩,if_pos (by rw [hN]; rfl),w1]
  simp only [bindC]
  rw [e9,loopG _ _ w2 h.le ho,Option.getD_some,wI (by omega) (by omega)]
  rfl
 ·show (if decide ((Rg.getD 3 default).2+1≤(Rg.getD 3 default).2)=true then _ else _)=_
  rw [if_neg decF']
theorem L6 (h:Cl Rg X t) (hN:3≤Rg.length) (hp:In4 [s2.1,s4.1]) (o:List (Int×Int)) (ho:InvR X.length o) :
 iterC (b111_6 Rg t (C,X) s2 s4) 1000000000 ((Rg.getD 2 default).1,o)=some (.next (IntKind.i64.wrap (s4.1+1),full (watQ X t) [s2.1,s4.1] (Rg.drop 2) o)):=by
 have hl:=h.len
 have hle:=h.le
 have hg:=h.get (k:=2) (by omega)
 have hdr:=h.drop 2
 rw [dropP (show 2<Rg.length by omega)] at hdr ⊢
 refine level h (b111_6 Rg t (C,X) s2 s4) (fun o=>some (Ctl.next (IntKind.i64.wrap (s4.1+1),o))) hp (by simp; omega) hdr (fun n o h1 h2 ho=> ?_) (fun o=> ?_) o ho
 ·have hq:In4 [s2.1,s4.1,n]:=in4_snoc hp (by omega) (by omega)
  show (if decide (n≤(Rg.getD 2 default).2)=true then (if (2+1)*8≤140737488355328∧2+1≤9223372036854775807 then (if ((3:Int) == (Rg.length:Int))=true then bindC (r110 [s2.1,s4.1,n] X t) fun v42=>(iterC (b111_7 (n,o) v42) 1000000000 (0,o)).getD (.out none)
   else if 0≤(3:Nat)∧(3:Int)<(Rg.length:Int) then (iterC (b111_8 Rg t (C,X) s2 s4 (n,o)) 1000000000 ((Rg.getD 3 default).1,o)).getD (.out none) else .out none) else .out none) else _)=_
  rw [if_pos (decT h2),if_pos ⟨by decide,by decide⟩]
  by_cases hN3:Rg.length=3
  ·obtain ⟨w1,w2⟩:=h.w hq (by simp; omega)
   have hd:Rg.drop 3=[]:=List.drop_eq_nil_of_le (by omega)
   rw [if_pos (by rw [hN3]; rfl),w1,hd]
   simp only [bindC]
   rw [e7,loopG _ _ w2 h.le ho,Option.getD_some,wI (by omega) (by omega)]
   rfl
  ·rw [if_neg (by simp; omega),if_pos ⟨by omega,by omega⟩,L8 (s6:=(n,o)) h (by omega) hq o ho,Option.getD_some,wI (by omega) (by omega)]
   rfl
 ·show (if decide ((Rg.getD 2 default).2+1≤(Rg.getD 2 default).2)=true then _ else _)=_
  rw [if_neg decF']
theorem L4 (h:Cl Rg X t) (hN:2≤Rg.length) (hp:In4 [s2.1]) (o:List (Int×Int)) (ho:InvR X.length o) :
 iterC (b111_4 Rg t (C,X) s2) 1000000000 ((Rg.getD 1 default).1,o)=some (.next (IntKind.i64.wrap (s2.1+1),full (watQ X t) [s2.1] (Rg.drop 1) o)):=by
 have hl:=h.len
 have hle:=h.le
 have hg:=h.get (k:=1) (by omega)
 have hdr:=h.drop 1
 rw [dropP (show 1<Rg.length by omega)] at hdr ⊢
 refine level h (b111_4 Rg t (C,X) s2) (fun o=>some (Ctl.next (IntKind.i64.wrap (s2.1+1),o))) hp (by simp; omega) hdr (fun n o h1 h2 ho=> ?_) (fun o=> ?_) o ho
 ·have hq:In4 [s2.1,n]:=in4_snoc hp (by omega) (by omega)
  show (if decide (n≤(Rg.getD 1 default).2)=true then (if (1+1)*8≤140737488355328∧1+1≤9223372036854775807 then (if ((2:Int) == (Rg.length:Int))=true then bindC (r110 [s2.1,n] X t) fun v42=>(iterC (b111_5 (n,o) v42) 1000000000 (0,o)).getD (.out none)
   else if 0≤(2:Nat)∧(2:Int)<(Rg.length:Int) then (iterC (b111_6 Rg t (C,X) s2 (n,o)) 1000000000 ((Rg.getD 2 default).1,o)).getD (.out none) else .out none) else .out none) else _)=_
  rw [if_pos (decT h2),if_pos ⟨by decide,by decide⟩]
  by_cases hN3:Rg.length=2
  ·obtain ⟨w1,w2⟩:=h.w hq (by simp; omega)
   have hd:Rg.drop 2=[]:=List.drop_eq_nil_of_le (by omega)
   rw [if_pos (by rw [hN3]; rfl),w1,hd]
   simp only [bindC]
   rw [e5,loopG _ _ w2 h.le ho,Option.getD_some,wI (by omega) (by omega)]
   rfl
  ·rw [if_neg (by simp; omega),if_pos ⟨by omega,by omega⟩,L6 (s4:=(n,o)) h (by omega) hq o ho,Option.getD_some,wI (by omega) (by omega)]
   rfl
 ·show (if decide ((Rg.getD 1 default).2+1≤(Rg.getD 1 default).2)=true then _ else _)=_
  rw [if_neg decF']
theorem L2 (h:Cl Rg X t):iterC (b111_2 Rg t (C,X)) 1000000000 ((Rg.getD 0 default).1,[])=some (full (watQ X t) [] Rg [],0):=by
 have hl:=h.len
 have hle:=h.le
 have hp0:=h.pos
 have hg:=h.get (k:=0) (by omega)
 have hdr:=h.drop 0
 have hp:In4 []:=fun c hc=>absurd hc (by simp)
 have e0:Rg=Rg.getD 0 default::Rg.drop 1:=dropP (l:=Rg) (k:=0) (by omega)
 rw [List.drop_zero,e0] at hdr
 have key:=level (p:=[]) h (b111_2 Rg t (C,X)) (fun o=>some (o,0)) hp (rs:=Rg.drop 1) (r:=Rg.getD 0 default) (by simp; omega) hdr (fun n o h1 h2 ho=>by
  have hq:In4 [n]:=in4_snoc hp (by omega) (by omega)
  show (if decide (n≤(Rg.getD 0 default).2)=true then (if (0+1)*8≤140737488355328∧0+1≤9223372036854775807 then (if ((1:Int) == (Rg.length:Int))=true then bindC (r110 [n] X t) fun v42=>(iterC (b111_3 (n,o) v42) 1000000000 (0,o)).getD (.out none)
   else if 0≤(1:Nat)∧(1:Int)<(Rg.length:Int) then (iterC (b111_4 Rg t (C,X) (n,o)) 1000000000 ((Rg.getD 1 default).1,o)).getD (.out none) else .out none) else .out none) else _)=_
  rw [if_pos (decT h2),if_pos ⟨by decide,by decide⟩]
  by_cases hN3:Rg.length=1
  ·obtain ⟨w1,w2⟩:=h.w hq (by simp; omega)
   have hd:Rg.drop 1=[]:=List.drop_eq_nil_of_le (by omega)
   rw [if_pos (by rw [hN3]; rfl),w1,hd]
   simp only [bindC]
   rw [e3,loopG _ _ w2 h.le ho,Option.getD_some,wI (by omega) (by omega)]
   rfl
  ·rw [if_neg (by simp; omega),if_pos ⟨by omega,by omega⟩,L4 (s2:=(n,o)) h (by omega) hq o ho,Option.getD_some,wI (by omega) (by omega)]
   rfl) (fun o=>by
  show (if decide ((Rg.getD 0 default).2+1≤(Rg.getD 0 default).2)=true then _ else _)=_
  rw [if_neg decF']) [] (.inl rfl)
 rw [← e0] at key
 exact key
def rgE (r:Int×Int):Int:=if (inR r.1 1 4 && inR r.2 1 4)=true then (if r.1≤r.2 then 0 else 9) else 2
def rgF (R:List (Int×Int)) (i:Nat):Option (Int×Int):=if rgE (R.getD i default)=0 then none else some ((i:Int),rgE (R.getD i default))
def clsO (T:Int) (L:List (Int×Int×Int)) (R:List (Int×Int)):Option (Int×Int):=
 if ladE T L≠0 then ladO T L else if R.length=L.length then orE (scanN (rgF R) 0 R.length) (some (0,0)) else some (0,10)
def clsE (T:Int) (L:List (Int×Int×Int)) (R:List (Int×Int)):Int:=((clsO T L R).getD (0,0)).2
theorem cls_eq (T:Int) (L:List (Int×Int×Int)) (R:List (Int×Int)):∃ i,clsO T L R=some (i,clsE T L R):=by
 obtain ⟨i,e,h⟩:∃ i e,clsO T L R=some (i,e):=by
  unfold clsO
  split
  ·exact lad_some T L
  ·split
   ·cases scanN (rgF R) 0 R.length with
    | none=>exact ⟨_,_,rfl⟩
    | some v=>exact ⟨v.1,v.2,rfl⟩
   ·exact ⟨_,_,rfl⟩
 exact ⟨i,by unfold clsE; rw [h]; rfl⟩
theorem p59 (T:Int) (L:List (Int×Int×Int)) (R:List (Int×Int)) (hR:R.length≤1000000):r194 T L R=clsO T L R:=by
 obtain ⟨i,h⟩:=lad_eq T L
 unfold r194 clsO
 rw [p26,h,Option.bind_some]
 by_cases hl:ladE T L=0
 ·rw [if_neg (show ¬ (ladE T L≠0) by simpa using hl),if_neg (by simp [hl])]
  by_cases hn:R.length=L.length
  ·rw [if_pos hn,if_neg (by simp [hn])]
   refine iter_scan R.length (b194_1 R) (rgF R) (some (0,0)) (by omega) (fun i hi=> ?_) (by simp [b194_1])
   simp only [b194_1,ltN hi,if_true,if_pos (rgN hi),Int.toNat_natCast,wS i (by omega)]
   have e118:∀ a:Int,r243 a=some (inR a 1 4):=fun a=>rfl
   simp only [e118,bindC,Option.isSome_some,Option.getD_some,implies_true,if_true,p96]
   rw [p87 _ (by simp)]
   simp only [bindC,rgF]
   have e:firstV [codeIf (inR (R.getD i default).1 1 4 && inR (R.getD i default).2 1 4) 2,codeIf (decide ((R.getD i default).1≤(R.getD i default).2)) 9]=rgE (R.getD i default):=by
    unfold rgE
    cases inR (R.getD i default).1 1 4<;>cases inR (R.getD i default).2 1 4<;>by_cases hc:(R.getD i default).1≤(R.getD i default).2<;>simp [codeIf,firstV,hc]
   rw [e]
   by_cases h5:rgE (R.getD i default)=0
   ·rw [if_pos h5,if_neg (by rw [h5]; simp)]
   ·rw [if_neg h5,if_pos (by simpa using h5)]
  ·rw [if_neg hn,if_pos (by simp; omega)]
 ·rw [if_pos hl,if_pos (by simpa using hl)]
theorem rg_ref {σ:Type} (s:Int×Int) (i:Int) (nx:Ctl σ (Int×Int)) :
 (if (!inR s.1 1 4 || !inR s.2 1 4)=true then .out (some (i,2)) else if decide (s.1>s.2)=true then .out (some (i,9)) else nx)=if rgE s=0 then nx else .out (some (i,rgE s)):=by
 unfold rgE
 cases inR s.1 1 4<;>cases inR s.2 1 4<;>simp
 by_cases h6:s.1≤s.2
 ·have h7:¬ s.2<s.1:=by omega
  simp [h6,h7]
 ·have h7:s.2<s.1:=by omega
  simp [h6,h7]
theorem p62 (T:Int) (L:List (Int×Int×Int)) (R:List (Int×Int)) (hR:R.length≤1000000):r95 T L R=clsO T L R:=by
 obtain ⟨i,h⟩:=lad_eq T L
 unfold r95 clsO
 rw [p29,h,Option.bind_some]
 by_cases hl:ladE T L=0
 ·rw [if_neg (show ¬ (ladE T L≠0) by simpa using hl),if_neg (by simp [hl])]
  by_cases hn:R.length=L.length
  ·rw [if_pos hn,if_neg (by simp [hn])]
   refine iter_scan R.length (b95_1 R) (rgF R) (some (0,0)) (by omega) (fun i hi=> ?_) (by simp [b95_1])
   simp only [b95_1,ltN hi,if_true,if_pos (rgN hi),Int.toNat_natCast,wS i (by omega),p33,bindC,Option.isSome_some,Option.getD_some,implies_true,rgF]
   rw [if_pos (fun _=>rgN hi),rg_ref]
   by_cases h5:rgE (R.getD i default)=0
   ·rw [if_pos h5,if_pos h5]
   ·rw [if_neg h5,if_neg h5]
  ·rw [if_neg hn,if_pos (by simp; omega)]
 ·rw [if_pos hl,if_pos (by simpa using hl)]
theorem rgE_ok {r:Int×Int} (h:rgE r=0):1≤r.1∧r.1≤r.2∧r.2≤4:=by
 unfold rgE at h
 split at h
 ·rename_i hc
  simp only [Bool.and_eq_true,inR_iff] at hc
  split at h
  ·rename_i h2; exact ⟨hc.1.1,h2,hc.2.2⟩
  ·cases h
 ·cases h
theorem cls_ok {T:Int} {L:List (Int×Int×Int)} {R:List (Int×Int)} (h:clsE T L R=0):ladE T L=0∧R.length=L.length∧∀ r∈R,1≤r.1∧r.1≤r.2∧r.2≤4:=by
 unfold clsE clsO at h
 split at h
 ·rename_i hl
  obtain ⟨i,e⟩:=lad_eq T L
  rw [e] at h
  exact absurd h hl
 ·rename_i hl
  split at h
  ·rename_i hn
   refine ⟨by simpa using hl,hn,fun r hr=> ?_⟩
   obtain ⟨i,hi,rfl⟩:=List.getElem_of_mem hr
   cases hsc:scanN (rgF R) 0 R.length with
   | none=>
    have:=scan_none hsc i (by omega) (by omega)
    unfold rgF at this
    split at this
    ·rename_i e
     rw [List.getD_eq_getElem?_getD,List.getElem?_eq_getElem hi] at e
     exact rgE_ok e
    ·cases this
   | some v=>
    obtain ⟨j,_,_,hj⟩:=scan_some hsc
    rw [hsc] at h
    unfold rgF at hj
    split at hj
    ·cases hj
    ·rename_i e
     obtain rfl:=Option.some.inj hj
     exact absurd h e
  ·cases h
theorem cl_of {T:Int} {L:List (Int×Int×Int)} {f:Int} {H:List Bool} (h:clsE T L Rg=0) (hd:driveE L.length f H=0) (t0:0≤t) (t1:t≤100000):Ok T L f H∧Cl Rg (reactV f L H) t:=by
 obtain ⟨h1,h2,h3⟩:=cls_ok h
 have hb:bothE T L f H=0:=by unfold bothE; rw [if_pos h1]; exact hd
 have ok:=ok_of hb
 have hrl:=reactV_len f L H ok.hot
 have hp:=ok.lad.pos
 have hle:=ok.lad.le
 exact ⟨ok,reactV_rng ok,by omega,by omega,by omega,h3,t0,t1⟩
theorem p61 (T:Int) (L:List (Int×Int×Int)) (R:List (Int×Int)) (f:Int) (H:List Bool) (t:Int) (hR:R.length≤1000000) :
 r111 T L R f H t=some (if clsE T L R≠0 then ([],clsE T L R) else if driveE L.length f H≠0 then ([],driveE L.length f H) else if inR t 0 100000=true then (full (watQ (reactV f L H) t) [] R [],0) else ([],2)):=by
 obtain ⟨i,hc⟩:=cls_eq T L R
 unfold r111
 rw [p59 T L R hR,hc,Option.bind_some,p100,Option.bind_some,p102,Option.bind_some,p87 _ (by simp),Option.bind_some]
 by_cases h1:clsE T L R=0
 ·have h1':¬ (clsE T L R≠0):=by simpa using h1
  rw [if_neg h1']
  by_cases h2:driveE L.length f H=0
  ·have h2':¬ (driveE L.length f H≠0):=by simpa using h2
   rw [if_neg h2']
   cases ht:inR t 0 100000 with
   | false=>simp [h1,h2,codeIf,firstV]
   | true=>
    have it:=inR_iff.1 ht
    obtain ⟨ok,cl⟩:=cl_of h1 h2 it.1 it.2
    have hl:=cl.len
    have hp:=cl.pos
    rw [if_neg (by simp [h1,h2,codeIf,firstV]),p119 ok,Option.bind_some,if_neg (by simp; omega),if_pos ⟨Nat.le_refl 0,by omega⟩]
    exact L2 cl
  ·rw [if_pos h2,if_pos (by simp [h1,firstV,h2])]
   simp [h1,firstV,h2]
 ·rw [if_pos h1]
  simp only [firstV,if_neg h1]
  rw [if_pos (by simpa using h1)]
end Go.Proofs.YthldpejmofhaoaaGreatDoor.Fd
namespace Go.Proofs.YthldpejmofhaoaaGreatDoor.Fd
open Go.Abs
def chR (Rg:List (Int×Int)):Nat→List (List Int)
 | 0=>[[]]
 | k+1=>(chR Rg k).flatMap fun p=>(rngI (Rg.getD k default).1 (Rg.getD k default).2).map fun n=>p++[n]
variable {Rg:List (Int×Int)} {X:List Int} {t:Int}
theorem foldl_flat {α β σ:Type} (f:α→List β) (g:σ→β→σ):∀ (l:List α) (o:σ),(l.flatMap f).foldl g o=l.foldl (fun o a=>(f a).foldl g o) o
 | [],_=>rfl
 | a::l,o=>by rw [List.flatMap_cons,List.foldl_append,List.foldl_cons,foldl_flat f g l]
theorem full_ch (Wf:List Int→List Int) (o:List (Int×Int)):∀ k,k≤Rg.length→(chR Rg k).foldl (fun o p=>full Wf p (Rg.drop k) o) o=full Wf [] Rg o
 | 0,_=>rfl
 | k+1,hk=>by
  rw [← full_ch Wf o k (by omega),chR,foldl_flat]
  congr 1
  funext o p
  rw [List.foldl_map,dropP (show k<Rg.length by omega)]
  rfl
theorem full_eq (Wf:List Int→List Int) (o:List (Int×Int)):full Wf [] Rg o=(chR Rg Rg.length).foldl (fun o p=>updL o (Wf p)) o:=by
 rw [← full_ch Wf o Rg.length (Nat.le_refl _),List.drop_length]
 rfl
theorem rngI_len {lo hi:Int} (h1:1≤lo) (h2:hi≤4):(rngI lo hi).length≤4:=by
 unfold rngI; simp; omega
theorem flat_len {α β:Type} (f:α→List β):∀ l:List α,(∀ a∈l,(f a).length≤4)→(l.flatMap f).length≤4*l.length
 | [],_=>by simp
 | a::l,h=>by
  have:=flat_len f l (fun b hb=>h b (List.mem_cons_of_mem _ hb))
  have:=h a (List.mem_cons_self ..)
  simp only [List.flatMap_cons,List.length_append,List.length_cons]
  omega
theorem chR_spec (hr:∀ r∈Rg,1≤r.1∧r.1≤r.2∧r.2≤4):∀ k,k≤Rg.length→(chR Rg k).length≤4 ^ k∧∀ q∈chR Rg k,q.length=k∧∀ i,i<k→(Rg.getD i default).1≤q.getD i default∧q.getD i default≤(Rg.getD i default).2
 | 0,_=>⟨by simp [chR],fun q hq=>by
  simp only [chR,List.mem_singleton] at hq
  subst hq
  exact ⟨rfl,fun i hi=>by omega⟩⟩
 | k+1,hk=>by
  obtain ⟨h1,h2⟩:=chR_spec hr k (by omega)
  have hg:=hr _ (getD_mem (show k<Rg.length by omega))
  refine ⟨?_,fun q hq=> ?_⟩
  ·have:=flat_len (fun p=>(rngI (Rg.getD k default).1 (Rg.getD k default).2).map fun n=>p++[n]) (chR Rg k) (fun a _=>by rw [List.length_map]; exact rngI_len hg.1 hg.2.2)
   rw [chR,Nat.pow_succ]
   omega
  ·rw [chR,List.mem_flatMap] at hq
   obtain ⟨p,hp,hq⟩:=hq
   obtain ⟨n,hn,rfl⟩:=List.mem_map.1 hq
   obtain ⟨g1,g2⟩:=h2 p hp
   rw [rngI_mem] at hn
   refine ⟨by simp [g1],fun i hi=> ?_⟩
   by_cases e:i=k
   ·subst e
    have:(p++[n]).getD i default=n:=by
     rw [List.getD_eq_getElem?_getD,List.getElem?_append_right (by omega),g1,Nat.sub_self]; rfl
    rw [this]; exact hn
   ·have:(p++[n]).getD i default=p.getD i default:=by
     rw [List.getD_eq_getElem?_getD,List.getElem?_append_left (by omega),List.getD_eq_getElem?_getD]
    rw [this]; exact g2 i (by omega)
theorem chR_in4 (hr:∀ r∈Rg,1≤r.1∧r.1≤r.2∧r.2≤4) {q:List Int} (hq:q∈chR Rg Rg.length):q.length=Rg.length∧In4 q:=by
 obtain ⟨h1,h2⟩:=(chR_spec hr Rg.length (Nat.le_refl _)).2 q hq
 refine ⟨h1,fun c hc=> ?_⟩
 obtain ⟨i,hi,rfl⟩:=List.getElem_of_mem hc
 have h3:=h2 i (by omega)
 have h4:=hr _ (getD_mem (show i<Rg.length by omega))
 rw [List.getD_eq_getElem?_getD (l:=q),List.getElem?_eq_getElem hi,Option.getD_some] at h3
 omega
def setC:List (Int×Int×Int)→List Int→List (Int×Int×Int)
 | s::L,c::q=>(c,s.2.1,s.2.2)::setC L q
 | L,_=>L
theorem setC_nil (L:List (Int×Int×Int)):setC L []=L:=by cases L<;>rfl
theorem setC_len:∀ (L:List (Int×Int×Int)) (q:List Int),(setC L q).length=L.length
 | [],[]=>rfl
 | [],_::_=>rfl
 | s::L,[]=>rfl
 | s::L,c::q=>by simp [setC,setC_len L q]
theorem setC_snoc:∀ (L:List (Int×Int×Int)) (q:List Int) (n:Int),q.length<L.length→setC L (q++[n])=(setC L q).set q.length (n,((setC L q).getD q.length default).2.1,((setC L q).getD q.length default).2.2)
 | [],_,_,h=>by simp at h
 | s::L,[],n,_=>by simp [setC,setC_nil]
 | s::L,c::q,n,h=>by
  have ih:=setC_snoc L q n (by simpa using h)
  simp only [List.cons_append,setC,List.length_cons,List.getD_cons_succ,List.set_cons_succ,ih]
theorem setC_conds:∀ (L:List (Int×Int×Int)) (q:List Int),q.length=L.length→condsV (setC L q)=q
 | [],[],_=>rfl
 | s::L,c::q,h=>by
  have:=setC_conds L q (by simpa using h)
  simpa [condsV,setC] using this
 | [],_::_,h=>by simp at h
 | _::_,[],h=>by simp at h
theorem setC_react (f:Int):∀ (L:List (Int×Int×Int)) (q:List Int) (H:List Bool),reactV f (setC L q) H=reactV f L H
 | [],[],_=>rfl
 | [],_::_,_=>rfl
 | s::L,[],_=>rfl
 | s::L,c::q,[]=>rfl
 | s::L,c::q,b::H=>by simp [setC,reactV,setC_react f L q H]
theorem setC_shell:∀ (L:List (Int×Int×Int)) (q:List Int),(∀ s∈L,(1≤s.1∧s.1≤4)∧(1≤s.2.1∧s.2.1≤4)∧1≤s.2.2∧s.2.2≤s.2.1)→In4 q→∀ s∈setC L q,(1≤s.1∧s.1≤4)∧(1≤s.2.1∧s.2.1≤4)∧1≤s.2.2∧s.2.2≤s.2.1
 | [],[],h,_,s,hs=>h s hs
 | [],_::_,h,_,s,hs=>h s hs
 | s::L,[],h,_,s',hs=>h s' hs
 | s::L,c::q,h,hq,s',hs=>by
  simp only [setC,List.mem_cons] at hs
  rcases hs with rfl | hs
  ·exact ⟨hq c (List.mem_cons_self ..),(h s (List.mem_cons_self ..)).2⟩
  ·exact setC_shell L q (fun u hu=>h u (List.mem_cons_of_mem _ hu)) (fun u hu=>hq u (List.mem_cons_of_mem _ hu)) s' hs
variable {T:Int} {L:List (Int×Int×Int)} {f:Int} {H:List Bool}
theorem setC_ok (ok:Ok T L f H) {q:List Int} (hq:In4 q):Ok T (setC L q) f H:=
 ⟨⟨ok.lad.turns,by rw [setC_len]; exact ok.lad.pos,by rw [setC_len]; exact ok.lad.le,setC_shell L q ok.lad.shell hq⟩,ok.freq,by rw [setC_len]; exact ok.hot⟩
theorem rng_take (lo hi:Int) {j:Nat} (h:j<(rngI lo hi).length):(rngI lo hi).getD j default=lo+j:=by
 unfold rngI at h ⊢
 simp at h
 simp only [List.getD_eq_getElem?_getD,List.getElem?_map,List.getElem?_range (show j<(hi - lo+1).toNat by omega)]; rfl
theorem loop122_3 (k i:Nat) {O Lo:List (Int×List (Int×Int×Int))} (hk:k<Rg.length) (hkL:k<L.length) (hL:L.length≤4) {q:List Int} (hi:i<O.length) (hO:O.getD i default=(T,setC L q)) (hq:q.length=k)
 (hg:1≤(Rg.getD k default).1∧(Rg.getD k default).1≤(Rg.getD k default).2∧(Rg.getD k default).2≤4) (hLo:Lo.length≤10000) :
 iterC (b114_3 Rg ((k:Int),O) (Lo,(i:Int))) 1000000000 ((Rg.getD k default).1,Lo)=some (.next (Lo++(rngI (Rg.getD k default).1 (Rg.getD k default).2).map (fun n=>(T,setC L (q++[n]))),IntKind.i64.wrap ((i:Int)+1))):=by
 have hn4:=rngI_len hg.1 hg.2.2
 have hlenN:(rngI (Rg.getD k default).1 (Rg.getD k default).2).length=((Rg.getD k default).2 - (Rg.getD k default).1+1).toNat:=by unfold rngI; simp
 have key:=iter_run (rngI (Rg.getD k default).1 (Rg.getD k default).2).length (b114_3 Rg ((k:Int),O) (Lo,(i:Int))) (fun j=>((Rg.getD k default).1+(j:Int),Lo++((rngI (Rg.getD k default).1 (Rg.getD k default).2).map (fun n=>(T,setC L (q++[n])))).take j))
  (some (.next (Lo++(rngI (Rg.getD k default).1 (Rg.getD k default).2).map (fun n=>(T,setC L (q++[n]))),IntKind.i64.wrap ((i:Int)+1)))) (by omega) (fun j hj=>by
   have hd:decide ((Rg.getD k default).1+(j:Int)≤(Rg.getD k default).2)=true:=decT (by omega)
   have hsl:(setC L q).length=L.length:=setC_len L q
   have hs:=setC_snoc L q ((Rg.getD k default).1+(j:Int)) (by omega)
   rw [hq] at hs
   have hgj:((rngI (Rg.getD k default).1 (Rg.getD k default).2).map (fun n=>(T,setC L (q++[n])))).getD j default=(T,setC L (q++[(Rg.getD k default).1+(j:Int)])):=by
    have e:=rng_take (Rg.getD k default).1 (Rg.getD k default).2 hj
    rw [List.getD_eq_getElem?_getD,List.getElem?_eq_getElem hj,Option.getD_some] at e
    rw [List.getD_eq_getElem?_getD,List.getElem?_map,List.getElem?_eq_getElem hj,Option.map_some,Option.getD_some,e]
   have hkS:k<(setC L q).length:=by omega
   have hlen:(Lo++((rngI (Rg.getD k default).1 (Rg.getD k default).2).map (fun n=>(T,setC L (q++[n])))).take j).length≤10004:=by simp; omega
   simp only [b114_3,if_pos (rgN hk),Int.toNat_natCast,hd,if_true,if_pos (rgN hi),hO,p19 T (setC L q) (by omega),bindC,if_pos (rgN hkS)]
   rw [if_pos ⟨by omega,by omega⟩,wI (by omega) (by omega), ← hs,take_getD (show j<((rngI (Rg.getD k default).1 (Rg.getD k default).2).map (fun n=>(T,setC L (q++[n])))).length by rw [List.length_map]; exact hj),hgj,List.append_assoc,Int.add_assoc]
   rfl) (by
   have hd:¬ (decide ((Rg.getD k default).1+((rngI (Rg.getD k default).1 (Rg.getD k default).2).length:Int)≤(Rg.getD k default).2)=true):=by rw [decide_eq_true_eq,hlenN]; omega
   simp only [b114_3,if_pos (rgN hk),Int.toNat_natCast]
   rw [if_neg hd]
   rw [← List.length_map (f:=fun n=>(T,setC L (q++[n]))),List.take_length])
 simpa using key
def ldK (T:Int) (L:List (Int×Int×Int)) (Rg:List (Int×Int)) (k:Nat):List (Int×List (Int×Int×Int)):=(chR Rg k).map fun q=>(T,setC L q)
theorem loop122_2 (hr:∀ r∈Rg,1≤r.1∧r.1≤r.2∧r.2≤4) (hN:Rg.length=L.length) (hL:L.length≤4) {k:Nat} (hk:k<Rg.length) :
 iterC (b114_2 Rg ((k:Int),ldK T L Rg k)) 1000000000 ([],0)=some (.next (IntKind.i64.wrap ((k:Int)+1),ldK T L Rg (k+1))):=by
 obtain ⟨c1,c2⟩:=chR_spec hr k (by omega)
 have hg:=hr _ (getD_mem hk)
 have hp:4 ^ k≤256:=by
  have:(4:Nat) ^ k≤4 ^ 4:=Nat.pow_le_pow_right (by omega) (by omega)
  simpa using this
 have hlen:(ldK T L Rg k).length=(chR Rg k).length:=by simp [ldK]
 have hnx:ldK T L Rg (k+1)=(chR Rg k).flatMap (fun p=>(rngI (Rg.getD k default).1 (Rg.getD k default).2).map (fun n=>(T,setC L (p++[n])))):=by
  unfold ldK
  rw [chR,List.map_flatMap]
  congr 1
  funext p
  rw [List.map_map]; rfl
 have key:=iter_run (chR Rg k).length (b114_2 Rg ((k:Int),ldK T L Rg k)) (fun i=>(((chR Rg k).take i).flatMap (fun p=>(rngI (Rg.getD k default).1 (Rg.getD k default).2).map (fun n=>(T,setC L (p++[n])))),(i:Int)))
  (some (.next (IntKind.i64.wrap ((k:Int)+1),ldK T L Rg (k+1)))) (by omega) (fun i hi=>by
   have hil:i<(ldK T L Rg k).length:=by omega
   have hm:=getD_mem hi
   obtain ⟨q1,q2⟩:=c2 _ hm
   have hO:(ldK T L Rg k).getD i default=(T,setC L ((chR Rg k).getD i default)):=by
    simp only [ldK,List.getD_eq_getElem?_getD,List.getElem?_map,List.getElem?_eq_getElem hi]; rfl
   have hfl:=flat_len (fun p=>(rngI (Rg.getD k default).1 (Rg.getD k default).2).map (fun n=>(T,setC L (p++[n])))) ((chR Rg k).take i) (fun a _=>by rw [List.length_map]; exact rngI_len hg.1 hg.2.2)
   have hti:((chR Rg k).take i).length=i:=by simp; omega
   simp only [b114_2,ltN hil,if_true,if_pos (rgN hk),Int.toNat_natCast]
   rw [loop122_3 (T:=T) (L:=L) k i hk (by omega) hL hil hO q1 hg (by omega),Option.getD_some,wS i (by omega),take_getD hi,List.flatMap_append]
   simp) (by
   unfold b114_2
   rw [if_neg (by simp [hlen])]
   simp only [List.take_length, ← hnx])
 simpa using key
theorem p122 (ok:Ok T L f H) (hr:∀ r∈Rg,1≤r.1∧r.1≤r.2∧r.2≤4) (hN:Rg.length=L.length):r114 T L Rg=some (ldK T L Rg Rg.length):=by
 have hle:=ok.lad.le
 unfold r114
 rw [p19 T L (by omega),Option.bind_some]
 have key:=iter_run Rg.length (b114_1 Rg) (fun k=>((k:Int),ldK T L Rg k)) (some (ldK T L Rg Rg.length)) (by omega) (fun k hk=>by
  simp only [b114_1,ltN hk,if_true]
  rw [loop122_2 hr hN hle hk,Option.getD_some,wS k (by omega)]
  rfl) (by
  unfold b114_1
  rw [if_neg (by simp)])
 have e0:ldK T L Rg 0=[(T,L)]:=by simp [ldK,chR,setC_nil]
 simp only [e0] at key
 exact key
theorem p60 (T:Int) (L:List (Int×Int×Int)) (R:List (Int×Int)) (h:L.length≤1000000) (hR:R.length≤1000000):r112 T L R=some (T,L,R):=by
 unfold r112
 rw [p19 T L h,Option.bind_some,if_pos ⟨by omega,by omega⟩]
end Go.Proofs.YthldpejmofhaoaaGreatDoor.Fd
namespace Go.Proofs.YthldpejmofhaoaaGreatDoor.Fd
open Go.Abs
theorem p67 (a b:Int) (h:0<b) (h2:b≤1000):r55 a b=some (a % b):=by
 unfold r55
 have m1:=Int.emod_nonneg a (show b≠0 by omega)
 have m2:=Int.emod_lt_of_pos a h
 rw [if_pos (by omega),Int.tmod_eq_emod]
 by_cases hc:0≤a∨b∣a
 ·rw [if_pos hc,if_neg (by rw [decide_eq_true_eq]; omega)]; congr 1; omega
 ·rw [if_neg hc,if_pos (by rw [decide_eq_true_eq]; omega),wI (by omega) (by omega)]; congr 1; omega
theorem scan_of' {ρ:Type} {f:Nat→Option ρ}:∀ {k i:Nat},(∀ j,i≤j→j<i+k→f j=none)→scanN f i k=none
 | 0,_,_=>rfl
 | k+1,i,h=>by
  simp only [scanN,h i (by omega) (by omega)]
  exact scan_of' (fun j h1 h2=>h j (by omega) (by omega))
theorem ladE_of' {T:Int} {L:List (Int×Int×Int)} (h:LadOk T L):ladE T L=0:=by
 have hp:=h.pos
 have hle:=h.le
 unfold ladE ladO
 rw [if_pos (inR_iff.2 h.turns),if_neg (by omega),if_neg (by omega),scan_of' (fun j h1 h2=> ?_)]
 ·rfl
 ·obtain ⟨a,b,c,d⟩:=h.shell _ (getD_mem (show j<L.length by omega))
  unfold shellF
  rw [if_pos]
  unfold shellE
  rw [inR_iff.2 a,inR_iff.2 b,inR_iff.2 ⟨c,by omega⟩,if_pos (by rfl),if_pos d]
theorem bothE_of {T:Int} {L:List (Int×Int×Int)} {f:Int} {H:List Bool} (ok:Ok T L f H):bothE T L f H=0:=by
 unfold bothE driveE
 rw [if_pos (ladE_of' ok.lad),if_pos (inR_iff.2 ok.freq),if_pos ok.hot]
variable {Rg:List (Int×Int)} {X:List Int} {t:Int}
def Inc (N:Nat) (o:List (Int×Int)) (W:List Int):Prop:=∀ k,k<N→(o.getD k default).1≤W.getD k default∧W.getD k default≤(o.getD k default).2
theorem updL_get0:∀ (W:List Int) (k:Nat),k<W.length→(updL [] W).getD k default=(W.getD k default,W.getD k default)
 | [],k,h=>by simp at h
 | w::W,0,_=>rfl
 | w::W,k+1,h=>by
  simp only [updL,List.getD_cons_succ]
  exact updL_get0 W k (by simpa using h)
theorem updL_getN:∀ (R:List (Int×Int)) (W:List Int) (k:Nat),k<R.length→W.length=R.length→
 (updL R W).getD k default=((if W.getD k default<(R.getD k default).1 then W.getD k default else (R.getD k default).1),(if (R.getD k default).2<W.getD k default then W.getD k default else (R.getD k default).2))
 | [],_,k,h,_=>by simp at h
 | r::R,w::W,0,_,_=>rfl
 | r::R,w::W,k+1,h,hl=>by
  simp only [updL,List.getD_cons_succ]
  exact updL_getN R W k (by simpa using h) (by simpa using hl)
 | r::R,[],_,_,hl=>by simp at hl
theorem inc_self {N:Nat} {o:List (Int×Int)} {W:List Int} (ho:InvR N o) (hW:W.length=N):Inc N (updL o W) W:=by
 intro k hk
 rcases ho with rfl | ho
 ·rw [updL_get0 W k (by omega)]; exact ⟨Int.le_refl _,Int.le_refl _⟩
 ·rw [updL_getN o W k (by omega) (by omega)]
  constructor<;>simp only []<;>split<;>omega
theorem inc_keep {N:Nat} {o:List (Int×Int)} {W V:List Int} (ho:o.length=N) (hW:W.length=N) (h:Inc N o V):Inc N (updL o W) V:=by
 intro k hk
 have:=h k hk
 rw [updL_getN o W k (by omega) (by omega)]
 constructor<;>simp only []<;>split<;>omega
theorem inc_keeps {N:Nat} {Wf:List Int→List Int} {V:List Int}:∀ (l:List (List Int)) (o:List (Int×Int)),(∀ p∈l,(Wf p).length=N)→o.length=N→Inc N o V→Inc N (l.foldl (fun o p=>updL o (Wf p)) o) V
 | [],_,_,_,h=>h
 | p::l,o,hl,ho,h=>by
  rw [List.foldl_cons]
  have hw:=hl p (List.mem_cons_self ..)
  exact inc_keeps l _ (fun q hq=>hl q (List.mem_cons_of_mem _ hq)) (updL_inv (.inr ho) hw) (inc_keep ho hw h)
theorem inc_mem {N:Nat} {Wf:List Int→List Int} {q:List Int}:∀ (l:List (List Int)) (o:List (Int×Int)),(∀ p∈l,(Wf p).length=N)→InvR N o→q∈l→Inc N (l.foldl (fun o p=>updL o (Wf p)) o) (Wf q)
 | [],_,_,_,h=>by cases h
 | p::l,o,hl,ho,h=>by
  rw [List.foldl_cons]
  have hw:=hl p (List.mem_cons_self ..)
  have h2:∀ q∈l,(Wf q).length=N:=fun q hq=>hl q (List.mem_cons_of_mem _ hq)
  rcases List.mem_cons.1 h with rfl | h
  ·exact inc_keeps l _ h2 (updL_inv ho hw) (inc_self ho hw)
  ·exact inc_mem l _ h2 (.inr (updL_inv ho hw)) h
theorem mem_chR {q:List Int}:∀ k,k≤q.length→k≤Rg.length→(∀ i,i<k→(Rg.getD i default).1≤q.getD i default∧q.getD i default≤(Rg.getD i default).2)→q.take k∈chR Rg k
 | 0,_,_,_=>by simp [chR]
 | k+1,h1,h2,h=>by
  have ih:=mem_chR (q:=q) k (by omega) (by omega) (fun i hi=>h i (by omega))
  rw [chR,List.mem_flatMap]
  refine ⟨q.take k,ih,List.mem_map.2 ⟨q.getD k default,rngI_mem.2 (h k (by omega)),?_⟩⟩
  rw [take_getD (show k<q.length by omega)]
def pick (Rg:List (Int×Int)) (y:List Int):Nat→List Int
 | 0=>[]
 | k+1=>pick Rg y k++[(Rg.getD k default).1+y.getD k default % ((Rg.getD k default).2 - (Rg.getD k default).1+1)]
variable {T:Int} {L:List (Int×Int×Int)} {f:Int} {H:List Bool}
theorem p62' (T:Int) (L:List (Int×Int×Int)) (R:List (Int×Int)):r95 T L R=clsO T L R:=by
 by_cases hR:R.length≤1000000
 ·exact p62 T L R hR
 ·obtain ⟨i,h⟩:=lad_eq T L
  unfold r95 clsO
  rw [p29,h,Option.bind_some]
  by_cases hl:ladE T L=0
  ·have hle:=(ladOk_of hl).le
   rw [if_neg (show ¬ (ladE T L≠0) by simpa using hl),if_neg (by simp [hl]),if_neg (show ¬ (R.length=L.length) by omega),if_pos (by simp; omega)]
  ·rw [if_pos hl,if_pos (by simpa using hl)]
theorem p66 (T:Int) (L:List (Int×Int×Int)) (R:List (Int×Int)):r26 T L R=some (clsE T L R):=by
 obtain ⟨i,hc⟩:=cls_eq T L R
 unfold r26
 rw [p62',hc]; rfl
theorem fold_len {N:Nat} {Wf:List Int→List Int}:∀ (l:List (List Int)) (o:List (Int×Int)),(∀ p∈l,(Wf p).length=N)→InvR N o→l≠[]→(l.foldl (fun o p=>updL o (Wf p)) o).length=N
 | [],_,_,_,h=>absurd rfl h
 | p::l,o,h,ho,_=>by
  rw [List.foldl_cons]
  have:=updL_inv ho (h p (List.mem_cons_self ..))
  exact foldl_inv (fun (o:List (Int×Int))=>o.length=N) _ l _ this (fun a ha o ho=>updL_inv (.inr ho) (h a (List.mem_cons_of_mem _ ha)))
end Go.Proofs.YthldpejmofhaoaaGreatDoor.Fd

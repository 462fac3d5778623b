/- Strings: numerals, cuts, joins. Plain laws about lists of bytes; no function of the program. -/
import Derived.Test.YtlnlpncchgimgaaGreatDoorLib
import Derived.Lib.AtoiAllCases
import Derived.Lib.ItoaMem
set_option linter.unusedVariables false
set_option linter.unusedSimpArgs false
namespace Go.Proofs.YtlnlpncchgimgaaGreatDoor
open Go.Abs
def bl (s:ByteArray):List UInt8:=s.data.toList
def lb (l:List UInt8):ByteArray:=⟨l.toArray⟩
theorem bl_lb (l:List UInt8):bl (lb l)=l:=rfl
theorem lb_bl (s:ByteArray):lb (bl s)=s:=by obtain ⟨⟨l⟩⟩:=s; rfl
theorem bl_inj {s t:ByteArray} (h:bl s=bl t):s=t:=by rw [← lb_bl s,h,lb_bl]
theorem lb_inj {l r:List UInt8}:lb l=lb r↔l=r:=⟨fun h=>by rw [← bl_lb l,h,bl_lb],fun h=>by rw [h]⟩
theorem size_lb (l:List UInt8):(lb l).size=l.length:=rfl
theorem lb_app (l r:List UInt8):lb l++lb r=lb (l++r):=by
 apply bl_inj
 simp [bl,lb]
theorem lb_extract (l:List UInt8) (a b:Nat):(lb l).extract a b=lb ((l.drop a).take (b - a)):=by
 apply bl_inj
 simp [bl,lb,List.take_drop,List.extract_eq_take_drop]
theorem u8_ofNat {n:Nat} (h:n<256):(UInt8.ofNat n).toNat=n:=by simp; omega
def dig (c:UInt8):Prop:=48≤c.toNat∧c.toNat≤57
instance (c:UInt8):Decidable (dig c):=inferInstanceAs (Decidable (_∧_))
def stepVs (n:Nat) (c:UInt8):Nat:=10*n+(c.toNat - 48)
def valF (n:Nat) (l:List UInt8):Nat:=l.foldl stepVs n
def Canon (l:List UInt8):Prop:=l≠[]∧(∀ c∈l,dig c)∧(l.headD 0=48→l.length=1)
instance (l:List UInt8):Decidable (Canon l):=inferInstanceAs (Decidable (_∧_∧_))
theorem valF_snoc (n:Nat) (l:List UInt8) (c:UInt8):valF n (l++[c])=10*valF n l+(c.toNat - 48):=by simp [valF,stepVs]
theorem valF_lt:∀ (l:List UInt8) (n:Nat),(∀ c∈l,dig c)→valF n l<(n+1)*10 ^ l.length
 | [],n,_=>by simp [valF]
 | c::l,n,h=>by
  have hc:=h c (List.mem_cons_self ..)
  have:=valF_lt l (stepVs n c) (fun x hx=>h x (List.mem_cons_of_mem _ hx))
  show valF (stepVs n c) l<_
  refine Nat.lt_of_lt_of_le this ?_
  rw [List.length_cons,Nat.pow_succ]
  have h2:stepVs n c+1≤(n+1)*10:=by unfold stepVs dig at *; omega
  calc (stepVs n c+1)*10 ^ l.length≤((n+1)*10)*10 ^ l.length:=Nat.mul_le_mul_right _ h2
   _=(n+1)*(10 ^ l.length*10):=by rw [Nat.mul_assoc,Nat.mul_comm 10]
theorem dd_big {n:Nat} (h:¬ n<10):Lib.decDigits n=Lib.decDigits (n / 10)++[UInt8.ofNat (48+n % 10)]:=by
 rw [Lib.decDigits,dif_neg h]
theorem headD_app (l r:List UInt8) (h:l≠[]):(l++r).headD 0=l.headD 0:=by
 cases l with
 | nil=>exact absurd rfl h
 | cons a l=>rfl
theorem dd_canon (n:Nat):Canon (Lib.decDigits n)∧valF 0 (Lib.decDigits n)=n∧(0<n→(Lib.decDigits n).headD 0≠48):=by
 induction n using Nat.strongRecOn with
 | _ n ih=>
  by_cases h:n<10
  ·rw [Lib.decDigits_one h]
   have e:(UInt8.ofNat (48+n)).toNat=48+n:=u8_ofNat (by omega)
   refine ⟨⟨by simp,fun c hc=> ?_,fun _=>rfl⟩,?_,fun h0=> ?_⟩
   ·rw [List.mem_singleton] at hc; subst hc
    unfold dig; omega
   ·show 10*0+((UInt8.ofNat (48+n)).toNat - 48)=n
    omega
   ·intro h1
    have h1:UInt8.ofNat (48+n)=48:=h1
    have:=congrArg UInt8.toNat h1
    rw [e] at this
    have:(48:UInt8).toNat=48:=rfl
    omega
  ·rw [dd_big h]
   obtain ⟨⟨c1,c2,c3⟩,v,hd⟩:=ih (n / 10) (by omega)
   have e:(UInt8.ofNat (48+n % 10)).toNat=48+n % 10:=u8_ofNat (by omega)
   have hh:=hd (by omega)
   refine ⟨⟨by simp,fun c hc=> ?_,fun h1=> ?_⟩,?_,fun _=> ?_⟩
   ·rcases List.mem_append.mp hc with hc | hc
    ·exact c2 c hc
    ·rw [List.mem_singleton] at hc; subst hc
     unfold dig; omega
   ·rw [headD_app _ _ c1] at h1; exact absurd h1 hh
   ·rw [valF_snoc,v,e]; omega
   ·rw [headD_app _ _ c1]; exact hh
theorem itoa_pos (n:Nat):Lib.itoa (n:Int)=Lib.decDigits n:=Lib.itoa_nonneg n
theorem parse_digits:∀ (l:List UInt8) (acc:Nat),(∀ c∈l,dig c)→valF acc l<1000000000000000000→Lib.parseUint10 acc l= .ok (valF acc l)
 | [],acc,_,_=>rfl
 | c::r,acc,h,hv=>by
  have hc:=h c (List.mem_cons_self ..)
  have mono:∀ (r:List UInt8) (a:Nat),a≤valF a r:=by
   intro r
   induction r with
   | nil=>intro a; exact Nat.le_refl _
   | cons x r ih=>intro a; exact Nat.le_trans (by unfold stepVs; omega) (ih (stepVs a x))
  have hm:=mono r (stepVs acc c)
  have hv':valF (stepVs acc c) r<1000000000000000000:=hv
  have hstep:acc*10+(c.toNat - 48)=stepVs acc c:=by unfold stepVs; omega
  have hb:stepVs acc c<1000000000000000000:=by omega
  have hacc:acc<1844674407370955162:=by unfold stepVs at hb; omega
  rw [Lib.parseUint10,if_pos (show 48≤c.toNat∧c.toNat≤57 from hc),if_neg (by omega),hstep,if_neg (by omega)]
  exact parse_digits r (stepVs acc c) (fun x hx=>h x (List.mem_cons_of_mem _ hx)) hv'
theorem atoi_canon {l:List UInt8} (h:Canon l) (hl:l.length≤18):Lib.atoiAll l= .ok (valF 0 l:Int):=by
 have hb:=valF_lt l 0 h.2.1
 have h18:(10:Nat) ^ l.length≤10 ^ 18:=Nat.pow_le_pow_right (by decide) hl
 have e18:(10:Nat) ^ 18=1000000000000000000:=by decide
 cases l with
 | nil=>exact absurd rfl h.1
 | cons c r=>
  have hc:dig c:=h.2.1 c (by simp)
  unfold dig at hc
  have hp:=parse_digits (c::r) 0 h.2.1 (by omega)
  rw [Lib.atoiAll,if_neg (by omega),Lib.parseMag,if_neg (by simp),hp]
  simp only
  rw [if_neg (by omega),if_neg (by omega),if_neg (by omega)]
theorem atoiE_canon {l:List UInt8} (h:Canon l) (hl:l.length≤18):atoiE l=((valF 0 l:Int),false):=by
 rw [atoiE,atoi_canon h hl]
def cut (c:UInt8):List UInt8→List (List UInt8)
 | []=>[[]]
 | b::r=>if b=c then []::cut c r else match cut c r with
  | h::t=>(b::h)::t
  | []=>[[b]]
theorem cut_index {c:UInt8}:∀ (l:List UInt8),(Lib.indexByte l c= -1∧c∉l)∨∃ i:Nat,Lib.indexByte l c=i∧i<l.length∧c∉l.take i∧l=l.take i++c::l.drop (i+1)
 | []=> .inl ⟨rfl,by simp⟩
 | b::l=>by
  unfold Lib.indexByte
  by_cases h:b=c
  ·subst h
   right
   exact ⟨0,by simp,by simp,by simp,by simp⟩
  ·have hb:(b == c)=false:=by simpa using h
   rw [hb]
   rcases cut_index l with ⟨h1,h2⟩ | ⟨i,h1,h2,h3,h4⟩
   ·left
    rw [h1]
    exact ⟨by simp,by simp [Ne.symm h,h2]⟩
   ·right
    refine ⟨i+1,?_,by simpa using h2,?_,?_⟩
    ·rw [h1,if_neg (by simp),if_neg (by simp)]; omega
    ·rw [List.take_succ_cons]; simp [Ne.symm h,h3]
    ·rw [List.take_succ_cons,List.drop_succ_cons,List.cons_append, ← h4]
def jn (c:UInt8):List (List UInt8)→List UInt8
 | []=>[]
 | [x]=>x
 | x::y::r=>x++c::jn c (y::r)
theorem join_jn (c:UInt8):∀ (l:List (List UInt8)),Lib.join l [c]=jn c l
 | []=>rfl
 | [x]=>by rw [Lib.join_one]; rfl
 | x::y::r=>by
  have:=join_jn c (y::r)
  rw [Lib.join_cons] at this ⊢
  rw [jn, ← this]
  simp [Lib.joinTail]
theorem joinB_jn (l:List ByteArray) (c:UInt8):joinB l ⟨#[c]⟩=lb (jn c (l.map bl)):=by
 show lb (Lib.join (l.map bl) [c])=_
 rw [join_jn]
theorem dd_len (n : Nat) : ∀ k, n < 10 ^ k → (Lib.decDigits n).length ≤ k + 1
  | 0, h => by have : n = 0 := by simpa using h
               subst this; rw [Lib.decDigits_one (by omega)]; simp
  | k+1, h => by
    by_cases e : n < 10
    · rw [Lib.decDigits_one e]; simp
    · rw [dd_big e, List.length_append, List.length_singleton]
      have := dd_len (n / 10) k (by rw [Nat.pow_succ] at h; omega)
      omega
theorem dig_no {c:UInt8} (hc:¬ dig c) {l:List UInt8} (h:∀ x∈l,dig x):c∉l:=fun hm=>hc (h c hm)
end Go.Proofs.YtlnlpncchgimgaaGreatDoor

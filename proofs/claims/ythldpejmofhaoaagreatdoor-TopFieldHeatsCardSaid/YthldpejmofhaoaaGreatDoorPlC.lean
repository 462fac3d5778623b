/- Strings: numerals, cuts, joins. Plain laws about lists of bytes; no function of the program. -/
import Derived.Test.YthldpejmofhaoaaGreatDoorLib
import Derived.Lib.AtoiAllCases
import Derived.Lib.ItoaMem
import Derived.Test.YthldpejmofhaoaaGreatDoorF06
import Derived.Test.YthldpejmofhaoaaGreatDoorF07
import Derived.Test.YthldpejmofhaoaaGreatDoorF01
import Derived.Test.YthldpejmofhaoaaGreatDoorF05
set_option linter.unusedVariables false
set_option linter.unusedSimpArgs false
namespace Go.Proofs.YthldpejmofhaoaaGreatDoor.Sr
open Go.Abs
theorem wI {a:Int} (h1: -9223372036854775808≤a) (h2:a≤9223372036854775807):IntKind.i64.wrap a=a:=IntWalk.i64_in _ ⟨by omega,by omega⟩
theorem iter_meas {σ ρ:Type} (b:σ→Ctl σ ρ) (I:σ→Prop) (μ:σ→Nat) (G:Option ρ→Prop)
 (step:∀ s,I s→(∃ s',b s= .next s'∧I s'∧μ s'<μ s)∨(∃ o,b s= .out o∧G o)):∀ (fuel:Nat) (s:σ),I s→μ s<fuel→G (iterC b fuel s)
 | 0,s,_,h=>absurd h (by omega)
 | k+1,s,hi,h=>by
  rcases step s hi with ⟨s',h1,h2,h3⟩ | ⟨o,h1,h2⟩
  ·simp only [iterC,h1]
   exact iter_meas b I μ G step k s' h2 (by omega)
  ·simp only [iterC,h1]; exact h2
def bl (s:ByteArray):List UInt8:=s.data.toList
def lb (l:List UInt8):ByteArray:=⟨l.toArray⟩
theorem bl_lb (l:List UInt8):bl (lb l)=l:=rfl
theorem lb_bl (s:ByteArray):lb (bl s)=s:=by obtain ⟨⟨l⟩⟩:=s; rfl
theorem bl_inj {s t:ByteArray} (h:bl s=bl t):s=t:=by rw [← lb_bl s,h,lb_bl]
theorem lb_inj {l r:List UInt8}:lb l=lb r↔l=r:=⟨fun h=>by rw [← bl_lb l,h,bl_lb],fun h=>by rw [h]⟩
theorem size_lb (l:List UInt8):(lb l).size=l.length:=rfl
theorem lb_extract (l:List UInt8) (a b:Nat):(lb l).extract a b=lb ((l.drop a).take (b - a)):=by
 apply bl_inj
 simp [bl,lb,List.take_drop,List.extract_eq_take_drop]
theorem u8_of {c:UInt8} {n:Nat} (h:c.toNat=n):c=UInt8.ofNat n:=by rw [← h]; simp
theorem u8_ofNat {n:Nat} (h:n<256):(UInt8.ofNat n).toNat=n:=by simp; omega
def dig (c:UInt8):Prop:=48≤c.toNat∧c.toNat≤57
instance (c:UInt8):Decidable (dig c):=inferInstanceAs (Decidable (_∧_))
def stepV (n:Nat) (c:UInt8):Nat:=10*n+(c.toNat - 48)
def valF (n:Nat) (l:List UInt8):Nat:=l.foldl stepV n
def Canon (l:List UInt8):Prop:=l≠[]∧(∀ c∈l,dig c)∧(l.headD 0=48→l.length=1)
instance (l:List UInt8):Decidable (Canon l):=inferInstanceAs (Decidable (_∧_∧_))
theorem valF_snoc (n:Nat) (l:List UInt8) (c:UInt8):valF n (l++[c])=10*valF n l+(c.toNat - 48):=by simp [valF,stepV]
theorem valF_lt:∀ (l:List UInt8) (n:Nat),(∀ c∈l,dig c)→valF n l<(n+1)*10 ^ l.length
 | [],n,_=>by simp [valF]
 | c::l,n,h=>by
  have hc:=h c (List.mem_cons_self ..)
  have:=valF_lt l (stepV n c) (fun x hx=>h x (List.mem_cons_of_mem _ hx))
  show valF (stepV n c) l<_
  refine Nat.lt_of_lt_of_le this ?_
  rw [List.length_cons,Nat.pow_succ]
  have h2:stepV n c+1≤(n+1)*10:=by unfold stepV dig at *; omega
  calc (stepV n c+1)*10 ^ l.length≤((n+1)*10)*10 ^ l.length:=Nat.mul_le_mul_right _ h2
   _=(n+1)*(10 ^ l.length*10):=by rw [Nat.mul_assoc,Nat.mul_comm 10]
theorem dd_big {n:Nat} (h:¬ n<10):Lib.decDigits n=Lib.decDigits (n / 10)++[UInt8.ofNat (48+n % 10)]:=by
 rw [Lib.decDigits,dif_neg h]
theorem headD_app (l r:List UInt8) (h:l≠[]):(l++r).headD 0=l.headD 0:=by
 cases l with
 | nil=>exact absurd rfl h
 | cons a l=>rfl
theorem dd_canon (n:Nat):Canon (Lib.decDigits n)∧valF 0 (Lib.decDigits n)=n∧(0<n→(Lib.decDigits n).headD 0≠48):=by
 induction n using Nat.strongRecOn with
 | _ n ih=>
  by_cases h:n<10
  ·rw [Lib.decDigits_one h]
   have e:(UInt8.ofNat (48+n)).toNat=48+n:=u8_ofNat (by omega)
   refine ⟨⟨by simp,fun c hc=> ?_,fun _=>rfl⟩,?_,fun h0=> ?_⟩
   ·rw [List.mem_singleton] at hc; subst hc
    unfold dig; omega
   ·show 10*0+((UInt8.ofNat (48+n)).toNat - 48)=n
    omega
   ·intro h1
    have h1:UInt8.ofNat (48+n)=48:=h1
    have:=congrArg UInt8.toNat h1
    rw [e] at this
    have:(48:UInt8).toNat=48:=rfl
    omega
  ·rw [dd_big h]
   obtain ⟨⟨c1,c2,c3⟩,v,hd⟩:=ih (n / 10) (by omega)
   have e:(UInt8.ofNat (48+n % 10)).toNat=48+n % 10:=u8_ofNat (by omega)
   have hh:=hd (by omega)
   refine ⟨⟨by simp,fun c hc=> ?_,fun h1=> ?_⟩,?_,fun _=> ?_⟩
   ·rcases List.mem_append.mp hc with hc | hc
    ·exact c2 c hc
    ·rw [List.mem_singleton] at hc; subst hc
     unfold dig; omega
   ·rw [headD_app _ _ c1] at h1; exact absurd h1 hh
   ·rw [valF_snoc,v,e]; omega
   ·rw [headD_app _ _ c1]; exact hh
theorem valF_pos:∀ (l:List UInt8) (n:Nat),0<n→0<valF n l
 | [],n,h=>h
 | c::l,n,h=>valF_pos l (stepV n c) (by unfold stepV; omega)
theorem snoc_cases {α:Type} (l:List α) (h:l≠[]):∃ r c,l=r++[c]:=⟨l.dropLast,l.getLast h,(List.dropLast_concat_getLast h).symm⟩
theorem canon_dd:∀ (k:Nat) (l:List UInt8),l.length=k→Canon l→l=Lib.decDigits (valF 0 l):=by
 intro k
 induction k with
 | zero=>intro l hl h; exact absurd (List.eq_nil_of_length_eq_zero hl) h.1
 | succ k ih=>
  intro l hl h
  obtain ⟨r,c,rfl⟩:=snoc_cases l h.1
  have hc:dig c:=h.2.1 c (by simp)
  by_cases e:r=[]
  ·subst e
   have:valF 0 ([]++[c])=c.toNat - 48:=by rw [valF_snoc]; simp [valF]
   rw [this]
   unfold dig at hc
   rw [Lib.decDigits_one (by omega),show 48+(c.toNat - 48)=c.toNat by omega]
   simp
  ·have hh:r.headD 0≠48:=fun h48=>by
    have:=h.2.2 (by rw [headD_app _ _ e]; exact h48)
    rw [List.length_append,List.length_singleton] at this
    have:r.length=0:=by omega
    exact e (List.eq_nil_of_length_eq_zero this)
   have hr:Canon r:=⟨e,fun x hx=>h.2.1 x (by simp [hx]),fun h48=>absurd h48 hh⟩
   have hi:=ih r (by simpa using hl) hr
   have hpos:0<valF 0 r:=by
    cases r with
    | nil=>exact absurd rfl e
    | cons a r=>
     have ha:dig a:=h.2.1 a (by simp)
     have hne:a≠48:=hh
     have:a.toNat≠48:=fun hx=>hne (by rw [u8_of hx]; rfl)
     exact valF_pos r (stepV 0 a) (by unfold stepV dig at *; omega)
   rw [valF_snoc]
   unfold dig at hc
   rw [dd_big (by omega),show (10*valF 0 r+(c.toNat - 48)) / 10=valF 0 r by omega, ← hi,show 48+(10*valF 0 r+(c.toNat - 48)) % 10=c.toNat by omega]
   simp
theorem itoa_pos (n:Nat):Lib.itoa (n:Int)=Lib.decDigits n:=Lib.itoa_nonneg n
theorem parse_digits:∀ (l:List UInt8) (acc:Nat),(∀ c∈l,dig c)→valF acc l<1000000000000000000→Lib.parseUint10 acc l= .ok (valF acc l)
 | [],acc,_,_=>rfl
 | c::r,acc,h,hv=>by
  have hc:=h c (List.mem_cons_self ..)
  have mono:∀ (r:List UInt8) (a:Nat),a≤valF a r:=by
   intro r
   induction r with
   | nil=>intro a; exact Nat.le_refl _
   | cons x r ih=>intro a; exact Nat.le_trans (by unfold stepV; omega) (ih (stepV a x))
  have hm:=mono r (stepV acc c)
  have hv':valF (stepV acc c) r<1000000000000000000:=hv
  have hstep:acc*10+(c.toNat - 48)=stepV acc c:=by unfold stepV; omega
  have hb:stepV acc c<1000000000000000000:=by omega
  have hacc:acc<1844674407370955162:=by unfold stepV at hb; omega
  rw [Lib.parseUint10,if_pos (show 48≤c.toNat∧c.toNat≤57 from hc),if_neg (by omega),hstep,if_neg (by omega)]
  exact parse_digits r (stepV acc c) (fun x hx=>h x (List.mem_cons_of_mem _ hx)) hv'
theorem atoi_canon {l:List UInt8} (h:Canon l) (hl:l.length≤18):Lib.atoiAll l= .ok (valF 0 l:Int):=by
 have hb:=valF_lt l 0 h.2.1
 have h18:(10:Nat) ^ l.length≤10 ^ 18:=Nat.pow_le_pow_right (by decide) hl
 have e18:(10:Nat) ^ 18=1000000000000000000:=by decide
 cases l with
 | nil=>exact absurd rfl h.1
 | cons c r=>
  have hc:dig c:=h.2.1 c (by simp)
  unfold dig at hc
  have hp:=parse_digits (c::r) 0 h.2.1 (by omega)
  rw [Lib.atoiAll,if_neg (by omega),Lib.parseMag,if_neg (by simp),hp]
  simp only
  rw [if_neg (by omega),if_neg (by omega),if_neg (by omega)]
theorem atoiE_canon {l:List UInt8} (h:Canon l) (hl:l.length≤18):atoiE l=((valF 0 l:Int),false):=by
 rw [atoiE,atoi_canon h hl]
theorem atoiE_bd (l:List UInt8) (h:(atoiE l).2=false): -9223372036854775808≤(atoiE l).1∧(atoiE l).1≤9223372036854775807:=by
 unfold atoiE at h ⊢
 cases e:Lib.atoiAll l with
 | ok v=>exact Lib.atoiAll_bounds e
 | range=>rw [e] at h; cases h
 | _=>exact ⟨by show (-9223372036854775808:Int)≤0; decide,by show (0:Int)≤9223372036854775807; decide⟩
theorem word_code (k:Nat) (hk:k≤18) (l:List UInt8):((atoiE l).2=false∧0≤(atoiE l).1∧Lib.itoa (atoiE l).1=l∧l.length≤k)↔(Canon l∧l.length≤k):=by
 constructor
 ·rintro ⟨h1,h2,h3,h4⟩
  obtain ⟨n,hn⟩:=Int.eq_ofNat_of_zero_le h2
  rw [hn,itoa_pos] at h3
  exact ⟨by rw [← h3]; exact (dd_canon n).1,h4⟩
 ·rintro ⟨h1,h2⟩
  rw [atoiE_canon h1 (by omega)]
  refine ⟨rfl,by simp,?_,h2⟩
  rw [itoa_pos, ← canon_dd _ l rfl h1]
def cut (c:UInt8):List UInt8→List (List UInt8)
 | []=>[[]]
 | b::r=>if b=c then []::cut c r else match cut c r with
  | h::t=>(b::h)::t
  | []=>[[b]]
theorem cut_ne (c:UInt8):∀ l,cut c l≠[]
 | []=>by simp [cut]
 | b::r=>by
  rw [cut]; split
  ·simp
  ·split<;>simp
theorem cut_none {c:UInt8}:∀ {l:List UInt8},c∉l→cut c l=[l]
 | [],_=>rfl
 | b::r,h=>by
  rw [cut,if_neg (by intro e; subst e; exact h (List.mem_cons_self ..)),cut_none (fun hx=>h (List.mem_cons_of_mem _ hx))]
theorem cut_at {c:UInt8}:∀ (x r:List UInt8),c∉x→cut c (x++c::r)=x::cut c r
 | [],r,_=>by rw [List.nil_append,cut,if_pos rfl]
 | b::x,r,h=>by
  rw [List.cons_append,cut,if_neg (by intro e; subst e; exact h (List.mem_cons_self ..)),cut_at x r (fun hx=>h (List.mem_cons_of_mem _ hx))]
theorem cut_index {c:UInt8}:∀ (l:List UInt8),(Lib.indexByte l c= -1∧c∉l)∨∃ i:Nat,Lib.indexByte l c=i∧i<l.length∧c∉l.take i∧l=l.take i++c::l.drop (i+1)
 | []=> .inl ⟨rfl,by simp⟩
 | b::l=>by
  unfold Lib.indexByte
  by_cases h:b=c
  ·subst h
   right
   exact ⟨0,by simp,by simp,by simp,by simp⟩
  ·have hb:(b == c)=false:=by simpa using h
   rw [hb]
   rcases cut_index l with ⟨h1,h2⟩ | ⟨i,h1,h2,h3,h4⟩
   ·left
    rw [h1]
    exact ⟨by simp,by simp [Ne.symm h,h2]⟩
   ·right
    refine ⟨i+1,?_,by simpa using h2,?_,?_⟩
    ·rw [h1,if_neg (by simp),if_neg (by simp)]; omega
    ·rw [List.take_succ_cons]; simp [Ne.symm h,h3]
    ·rw [List.take_succ_cons,List.drop_succ_cons,List.cons_append, ← h4]
theorem splitK_cut {c:UInt8}:∀ (k:Nat) (l:List UInt8),l.count c≤k→Lib.splitK [c] 0 k l=cut c l
 | 0,l,h=>by
  rw [Lib.splitK,cut_none (fun hm=>by have:=List.count_pos_iff.2 hm; omega)]
 | k+1,l,h=>by
  rw [Lib.splitK,Lib.index_one]
  rcases cut_index (c:=c) l with ⟨h1,h2⟩ | ⟨i,h1,h2,h3,h4⟩
  ·rw [h1,if_pos (by decide),cut_none h2]
  ·rw [h1,if_neg (by simp),Int.toNat_natCast,Nat.add_zero]
   have hc:(l.drop (i+1)).count c≤k:=by
    have:=congrArg (List.count c) h4
    rw [List.count_append,List.count_cons_self] at this
    omega
   conv=>rhs; rw [h4,cut_at _ _ h3]
   rw [show [c].length=1 from rfl,splitK_cut k _ hc]
theorem split_cut (s:ByteArray) (c:UInt8) (h:s.size<4294967281):splitV s ⟨#[c]⟩=some ((cut c (bl s)).map lb):=by
 have hs:(⟨#[c]⟩:ByteArray).size=1:=rfl
 rw [splitV,if_pos ⟨h,by rw [hs]; omega⟩]
 have h1:=Lib.splitB_data ⟨#[c]⟩ 0 (Lib.countB s ⟨#[c]⟩) s
 have hc:Lib.countB s ⟨#[c]⟩=(bl s).count c:=Lib.count_one c (bl s)
 have h2:Lib.splitK ((⟨#[c]⟩:ByteArray).data.toList) 0 (Lib.countB s ⟨#[c]⟩) s.data.toList=cut c (bl s):=by
  rw [hc]; exact splitK_cut _ _ (Nat.le_refl _)
 rw [h2] at h1
 rw [← h1,List.map_map]
 congr 1
 have:(lb∘fun x:ByteArray=>x.data.toList)=id:=by funext x; exact lb_bl x
 rw [this,List.map_id]
def jn (c:UInt8):List (List UInt8)→List UInt8
 | []=>[]
 | [x]=>x
 | x::y::r=>x++c::jn c (y::r)
theorem jn_cut (c:UInt8):∀ (l:List (List UInt8)),l≠[]→(∀ x∈l,c∉x)→cut c (jn c l)=l
 | [],h,_=>absurd rfl h
 | [x],_,h=>cut_none (h x (by simp))
 | x::y::r,_,h=>by
  rw [jn,cut_at _ _ (h x (by simp)),jn_cut c (y::r) (by simp) (fun z hz=>h z (List.mem_cons_of_mem _ hz))]
theorem join_jn (c:UInt8):∀ (l:List (List UInt8)),Lib.join l [c]=jn c l
 | []=>rfl
 | [x]=>by rw [Lib.join_one]; rfl
 | x::y::r=>by
  have:=join_jn c (y::r)
  rw [Lib.join_cons] at this ⊢
  rw [jn, ← this]
  simp [Lib.joinTail]
theorem joinB_jn (l:List ByteArray) (c:UInt8):joinB l ⟨#[c]⟩=lb (jn c (l.map bl)):=by
 show lb (Lib.join (l.map bl) [c])=_
 rw [join_jn]
theorem dd_len (n : Nat) : ∀ k, n < 10 ^ k → (Lib.decDigits n).length ≤ k + 1
  | 0, h => by have : n = 0 := by simpa using h
               subst this; rw [Lib.decDigits_one (by omega)]; simp
  | k+1, h => by
    by_cases e : n < 10
    · rw [Lib.decDigits_one e]; simp
    · rw [dd_big e, List.length_append, List.length_singleton]
      have := dd_len (n / 10) k (by rw [Nat.pow_succ] at h; omega)
      omega
theorem itoa_len {n:Int} (h1: -9223372036854775808≤n) (h2:n≤9223372036854775807):(Lib.itoa n).length≤21:=by
 have e:(10:Nat) ^ 19=10000000000000000000:=by decide
 unfold Lib.itoa
 split
 ·have:=dd_len n.natAbs 19 (by omega)
  rw [List.length_cons]; omega
 ·have:=dd_len n.toNat 19 (by omega)
  omega
theorem dig_no {c:UInt8} (hc:¬ dig c) {l:List UInt8} (h:∀ x∈l,dig x):c∉l:=fun hm=>hc (h c hm)
theorem cut_len (c:UInt8):∀ (l:List UInt8),∀ x∈cut c l,x.length≤l.length
 | [],x,h=>by simp [cut] at h; subst h; simp
 | b::r,x,h=>by
  rw [cut] at h
  split at h
  ·rcases List.mem_cons.mp h with rfl | h
   ·simp
   ·have:=cut_len c r x h; simp; omega
  ·split at h
   ·rename_i hd t e
    rcases List.mem_cons.mp h with rfl | h
    ·have:=cut_len c r hd (by rw [e]; simp); simpa using this
    ·have:=cut_len c r x (by rw [e]; simp [h]); simp; omega
   ·rename_i e
    exact absurd e (cut_ne c r)
theorem cut_count (c:UInt8):∀ (l:List UInt8),(cut c l).length≤l.length+1
 | []=>by simp [cut]
 | b::r=>by
  have:=cut_count c r
  rw [cut]
  split
  ·simp; omega
  ·split
   ·rename_i hd t e
    rw [e] at this
    simp at this ⊢; omega
   ·simp
end Go.Proofs.YthldpejmofhaoaaGreatDoor.Sr
namespace Go.Proofs.YthldpejmofhaoaaGreatDoor.Sr
open Go.Abs
end Go.Proofs.YthldpejmofhaoaaGreatDoor.Sr
namespace Go.Proofs.YthldpejmofhaoaaGreatDoor.Sr
open Go.Abs
def Wd (k:Nat) (w:List UInt8):Prop:=Canon w∧w.length≤k
instance (k:Nat) (w:List UInt8):Decidable (Wd k w):=inferInstanceAs (Decidable (_∧_))
def wval (w:List UInt8):Int:=(valF 0 w:Int)
def GoodW (k n:Nat) (l:List UInt8):Prop:=(cut 32 l).length=n∧∀ w∈cut 32 l,Wd k w
instance (k n:Nat) (l:List UInt8):Decidable (GoodW k n l):=inferInstanceAs (Decidable (_∧_))
def wvals (l:List UInt8):List Int:=(cut 32 l).map wval
theorem a53 {l:List UInt8} (h:l.length≤60000):r187 (lb l)=some (atoiE l):=by
 show atoiV (lb l)=_
 rw [atoiV,if_pos (by rw [size_lb]; omega)]; rfl
theorem a70 (l:List UInt8) (c:UInt8):r224 (lb l) ⟨#[c]⟩=some (Lib.indexByte l c):=rfl
theorem a22 {n:Int} (h1: -9223372036854775808≤n) (h2:n≤9223372036854775807):r73 n=some (itoaB n):=by
 show itoaV n=_
 rw [itoaV,if_pos ⟨h1,h2⟩]
theorem word_if {ρ:Type} (k:Nat) (hk:k≤18) (w:List UInt8) (A B C:ρ):(if (!((atoiE w).2 || (decide ((atoiE w).1<0))))=true→(r73 (atoiE w).1).isSome=true then (if ((((atoiE w).2 || (decide ((atoiE w).1<0))) || (!(decide (((r73 (atoiE w).1).getD default)=lb w)))) || (decide (((lb w).size:Int)>(k:Int))))=true then A else B) else C)=if Wd k w then B else A:=by
 have hw:=word_code k hk w
 by_cases h2:(atoiE w).2=true
 ·rw [if_pos (by rw [h2]; simp),if_pos (by rw [h2]; simp),if_neg]
  intro hg
  have:=(hw.2 hg).1
  rw [h2] at this; cases this
 ·have h2':(atoiE w).2=false:=by simpa using h2
  obtain ⟨b1,b2⟩:=atoiE_bd w h2'
  rw [a22 b1 b2,if_pos (by intro _; rfl)]
  have e:(decide ((some (itoaB (atoiE w).1)).getD default=lb w))=decide (Lib.itoa (atoiE w).1=w):=by
   rw [Option.getD_some,decide_eq_decide]; exact lb_inj
  rw [e,h2']
  by_cases hg:Wd k w
  ·obtain ⟨_,g1,g2,g3⟩:=hw.2 hg
   rw [if_pos hg,if_neg]
   rw [decide_eq_true g2,decide_eq_false (by omega),decide_eq_false (by rw [size_lb]; omega)]
   decide
  ·rw [if_neg hg,if_pos]
   by_cases g1:(atoiE w).1<0
   ·rw [decide_eq_true g1]; rfl
   ·by_cases g2:Lib.itoa (atoiE w).1=w
    ·rw [decide_eq_false g1,decide_eq_true g2,decide_eq_true]
     ·rfl
     ·rw [size_lb]
      by_cases g3:w.length≤k
      ·exact absurd (hw.1 ⟨h2',by omega,g2,g3⟩) hg
      ·omega
    ·rw [decide_eq_false g2]; simp
theorem atoi_wval {k:Nat} (hk:k≤18) {w:List UInt8} (h:Wd k w):(atoiE w).1=wval w:=by
 rw [atoiE_canon h.1 (by have:=h.2; omega)]; rfl
theorem cut_len_le (c:UInt8) (l:List UInt8):(cut c l).length≤l.length+1:=cut_count c l
theorem p25 (l:List UInt8) (n:Nat) (hl:l.length≤60000):∃ v,r96 (lb l) (n:Int)=some v∧v.2=decide (GoodW 3 n l)∧(v.2=true→v.1=wvals l):=by
 unfold r96
 refine iter_meas (b96_1 (n:Int)) (fun s=>∃ (r:List UInt8) (ws:List (List UInt8)),s=(lb r,ws.map wval)∧r.length≤l.length∧ws++cut 32 r=cut 32 l∧∀ w∈ws,Wd 3 w) (fun s=>s.1.size) (fun o=>∃ v,o=some v∧v.2=decide (GoodW 3 n l)∧(v.2=true→v.1=wvals l)) (fun s hs=> ?_) 1000000000 _ ⟨l,[],rfl,Nat.le_refl _,rfl,by simp⟩ (by show l.length<1000000000; omega)
 obtain ⟨r,ws,rfl,hr,hc,hg⟩:=hs
 have hws:ws.length≤60001:=by
  have:=congrArg List.length hc
  have:=cut_len_le 32 l
  rw [List.length_append] at *; omega
 unfold b96_1
 simp only
 rw [a70]
 simp only [bindC]
 rcases cut_index (c:=32) r with ⟨h1,h2⟩ | ⟨i,h1,h2,h3,h4⟩
 ·right
  rw [h1,if_pos (by decide)]
  refine ⟨_,rfl,?_⟩
  rw [a53 (by omega)]
  have e:cut 32 l=ws++[r]:=by rw [← hc,cut_none h2]
  rw [Option.bind_some]
  rw [show ((3:Int))=((3:Nat):Int) from rfl,word_if 3 (by decide) r]
  by_cases g:Wd 3 r
  ·rw [if_pos g,if_pos (by rw [List.length_map]; omega)]
   refine ⟨_,rfl,?_,fun _=> ?_⟩
   ·show (((List.map wval ws).length+1:Int) == (n:Int))=_
    rw [List.length_map,Bool.eq_iff_iff,decide_eq_true_eq,beq_iff_eq,GoodW,e,List.length_append,List.length_singleton]
    constructor
    ·intro h
     refine ⟨by omega,fun w hw=> ?_⟩
     rcases List.mem_append.mp hw with hw | hw
     ·exact hg w hw
     ·rw [List.mem_singleton] at hw; rw [hw]; exact g
    ·intro h; have:=h.1; omega
   ·show List.map wval ws++[(atoiE r).1]=_
    rw [atoi_wval (by decide) g,wvals,e,List.map_append]; rfl
  ·rw [if_neg g]
   refine ⟨_,rfl,?_,fun h=>by cases h⟩
   show false=_
   symm
   rw [decide_eq_false_iff_not]
   intro hG
   exact g (hG.2 r (by rw [e]; simp))
 ·have e:cut 32 l=ws++r.take i::cut 32 (r.drop (i+1)):=by rw [← hc]; conv=>lhs; rw [h4,cut_at _ _ h3]
  rw [h1,if_neg (by simp),show ((i:Int)+0)=(i:Int) by omega,wI (a:=(i:Int)) (by omega) (by omega),wI (a:=(i:Int)+1) (by omega) (by omega),if_pos ⟨by omega,by omega,by rw [size_lb]; omega⟩,show ((i:Int)+1).toNat=i+1 by omega,Int.toNat_natCast,lb_extract,List.drop_zero,show i - 0=i by omega,a53 (by rw [List.length_take]; omega)]
  simp only
  rw [show ((3:Int))=((3:Nat):Int) from rfl,word_if 3 (by decide) (r.take i)]
  by_cases g:Wd 3 (r.take i)
  ·left
   rw [if_pos g,if_pos (by rw [List.length_map]; omega),if_pos ⟨by omega,by rw [size_lb]; omega,Int.le_refl _⟩,size_lb,lb_extract]
   have hd:(r.drop (i+1)).take (r.length - (i+1))=r.drop (i+1):=List.take_of_length_le (by rw [List.length_drop]; omega)
   rw [hd]
   refine ⟨_,rfl,⟨r.drop (i+1),ws++[r.take i],?_,by rw [List.length_drop]; omega,by rw [e]; simp,fun w hw=> ?_⟩,by show (r.drop (i+1)).length<r.length; rw [List.length_drop]; omega⟩
   ·rw [atoi_wval (by decide) g,List.map_append]; rfl
   ·rcases List.mem_append.mp hw with hw | hw
    ·exact hg w hw
    ·rw [List.mem_singleton] at hw; rw [hw]; exact g
  ·right
   rw [if_neg g]
   refine ⟨_,rfl,_,rfl,?_,fun h=>by cases h⟩
   show false=_
   symm
   rw [decide_eq_false_iff_not]
   intro hG
   exact g (hG.2 (r.take i) (by rw [e]; simp))
end Go.Proofs.YthldpejmofhaoaaGreatDoor.Sr
namespace Go.Proofs.YthldpejmofhaoaaGreatDoor.Sr
open Go.Abs
def orE {ρ:Type} (s fin:Option ρ):Option ρ:=match s with | some v=>some v | none=>fin
def scanN {ρ:Type} (f:Nat→Option ρ):Nat→Nat→Option ρ
 | _,0=>none
 | i,k+1=>match f i with
  | some v=>some v
  | none=>scanN f (i+1) k
theorem iter_scan {ρ:Type} (n:Nat) (b:Int→Ctl Int ρ) (f:Nat→Option ρ) (fin:Option ρ) (hn:n<1000000000)
 (step:∀ i:Nat,i<n→b i=match f i with | some v=> .out (some v) | none=> .next ((i:Int)+1)) (stop:b n= .out fin) :
 iterC b 1000000000 0=orE (scanN f 0 n) fin:=by
 have key:∀ (k i fuel:Nat),i+k=n→k<fuel→iterC b fuel i=orE (scanN f i k) fin:=by
  intro k
  induction k with
  | zero=>
   intro i fuel hi hf
   obtain ⟨m,rfl⟩:∃ m,fuel=m+1:=⟨fuel - 1,by omega⟩
   obtain rfl:i=n:=by omega
   simp [iterC,stop,scanN,orE]
  | succ k ih=>
   intro i fuel hi hf
   obtain ⟨m,rfl⟩:∃ m,fuel=m+1:=⟨fuel - 1,by omega⟩
   simp only [iterC,step i (by omega),scanN]
   cases hfx:f i with
   | none=>
    have:=ih (i+1) m (by omega) (by omega)
    simpa using this
   | some v=>rfl
 have:=key n 0 1000000000 (by omega) hn
 simpa using this
theorem iter_run {σ ρ:Type} (n:Nat) (b:σ→Ctl σ ρ) (st:Nat→σ) (fin:Option ρ) (hn:n<1000000000)
 (step:∀ i:Nat,i<n→b (st i)= .next (st (i+1))) (stop:b (st n)= .out fin):iterC b 1000000000 (st 0)=fin:=by
 have key:∀ (k i fuel:Nat),i+k=n→k<fuel→iterC b fuel (st i)=fin:=by
  intro k
  induction k with
  | zero=>
   intro i fuel hi hf
   obtain ⟨m,rfl⟩:∃ m,fuel=m+1:=⟨fuel - 1,by omega⟩
   obtain rfl:i=n:=by omega
   simp [iterC,stop]
  | succ k ih=>
   intro i fuel hi hf
   obtain ⟨m,rfl⟩:∃ m,fuel=m+1:=⟨fuel - 1,by omega⟩
   simp only [iterC,step i (by omega)]
   exact ih (i+1) m (by omega) (by omega)
 exact key n 0 1000000000 (by omega) hn
theorem scan_none {ρ:Type} {f:Nat→Option ρ}:∀ {k i:Nat},scanN f i k=none→∀ j,i≤j→j<i+k→f j=none
 | 0,i,_,j,h1,h2=>by omega
 | k+1,i,h,j,h1,h2=>by
  simp only [scanN] at h
  cases hf:f i with
  | some v=>rw [hf] at h; cases h
  | none=>
   rw [hf] at h
   by_cases e:j=i
   ·subst e; exact hf
   ·exact scan_none h j (by omega) (by omega)
theorem scan_some {ρ:Type} {f:Nat→Option ρ} {v:ρ}:∀ {k i:Nat},scanN f i k=some v→∃ j,i≤j∧j<i+k∧f j=some v
 | 0,i,h=>by cases h
 | k+1,i,h=>by
  simp only [scanN] at h
  cases hf:f i with
  | some u=>rw [hf] at h; obtain rfl:=Option.some.inj h; exact ⟨i,by omega,by omega,hf⟩
  | none=>
   rw [hf] at h
   obtain ⟨j,h1,h2,h3⟩:=scan_some h
   exact ⟨j,by omega,by omega,h3⟩
theorem getD_mem {α:Type} [Inhabited α] {l:List α} {i:Nat} (h:i<l.length):l.getD i default∈l:=by
 rw [List.getD_eq_getElem?_getD,List.getElem?_eq_getElem h,Option.getD_some]; exact List.getElem_mem h
theorem gS {p:Prop} {α β:Type} {v:α} [Decidable (p→(some v).isSome=true)] {a b:β}:(if p→(some v).isSome=true then a else b)=a:=if_pos (fun _=>rfl)
theorem p44 (a b c:Int):r103 a b c=some (inR a b c):=rfl
theorem p57 (a b c:Int):r11 a b c=some (inR a b c):=rfl
theorem p74 (a:Int):r239 a=some (inR a 1 4):=rfl
theorem p42 (b:Bool) (e:Int):r107 b e=some (codeIf b e):=by
 unfold r107 codeIf; cases b<;>rfl
theorem p33 (l:List Int) (hl:l.length<1000000000):r106 l=some (firstV l):=by
 have h:=iter_list (τ:=Unit) l (b106_1 l) (fun i _=>i) (fun _ _ x=>if x=0 then .next () else .out (some x)) (fun _=>some 0) hl
  (fun i t hi=>by
   simp only [b106_1,ltN hi,if_true,if_pos (rgN hi),Int.toNat_natCast,wS i (by omega)]
   generalize l.getD i default=x
   by_cases hx:x=0<;>simp [hx,mapC])
  (fun t=>by simp [b106_1]) ()
 unfold r106
 rw [h]
 have:∀ (r:List Int) (i:Int),foldC (fun _ _ x=>if x=0 then Ctl.next () else .out (some x)) (fun _:Unit=>some 0) i r ()=some (firstV r):=by
  intro r
  induction r with
  | nil=>intro i; rfl
  | cons x r ih=>
   intro i
   by_cases hx:x=0
   ·simp only [foldC,hx,if_true,firstV]; exact ih _
   ·simp only [foldC,if_neg hx,firstV]
 exact this l 0
def shellE (s:Int×Int×Int):Int:=if inR s.1 1 4 && inR s.2.1 1 4 && inR s.2.2 1 4 then (if s.2.2≤s.2.1 then 0 else 9) else 2
theorem shell_first (s:Int×Int×Int):firstV [codeIf (inR s.1 1 4 && inR s.2.1 1 4 && inR s.2.2 1 4) 2,codeIf (decide (s.2.2≤s.2.1)) 9]=shellE s:=by
 unfold shellE
 cases (inR s.1 1 4 && inR s.2.1 1 4 && inR s.2.2 1 4) with
 | false=>simp [codeIf,firstV]
 | true=>by_cases h6:s.2.2≤s.2.1<;>simp [codeIf,firstV,h6]
theorem shell_ref {σ:Type} (s:Int×Int×Int) (i:Int) (nx:Ctl σ (Int×Int)) :
 (if ((!inR s.1 1 4 || !inR s.2.1 1 4) || !inR s.2.2 1 4)=true then .out (some (i,2)) else if decide (s.2.2>s.2.1)=true then .out (some (i,9)) else nx)=if shellE s=0 then nx else .out (some (i,shellE s)):=by
 unfold shellE
 cases inR s.1 1 4<;>cases inR s.2.1 1 4<;>cases inR s.2.2 1 4<;>simp
 by_cases h6:s.2.2≤s.2.1
 ·have h7:¬ s.2.1<s.2.2:=by omega
  simp [h6,h7]
 ·have h7:s.2.1<s.2.2:=by omega
  simp [h6,h7]
def shellF (L:List (Int×Int×Int)) (i:Nat):Option (Int×Int):=if shellE (L.getD i default)=0 then none else some ((i:Int),shellE (L.getD i default))
def ladO (T:Int) (L:List (Int×Int×Int)):Option (Int×Int):=
 if inR T 1 20 then (if L.length=0 then some (0,10) else if 4<L.length then some (0,8) else orE (scanN (shellF L) 0 L.length) (some (0,0))) else some (0,2)
theorem p54 (T:Int) (L:List (Int×Int×Int)):r188 T L=ladO T L:=by
 unfold r188 ladO
 simp only [p44,p42,Option.bind_some]
 rw [p33 _ (by simp),Option.bind_some]
 cases hT:inR T 1 20 with
 | false=>simp [codeIf,firstV]
 | true=>
  by_cases h0:L.length=0
  ·simp [codeIf,firstV,h0]
  ·by_cases h4:4<L.length
   ·have h1:(decide ((L.length:Int)>0))=true:=by simp; omega
    have h2:(decide ((L.length:Int)≤4))=false:=by simp; omega
    simp [codeIf,firstV,h0,h4,h1,h2]
   ·have h1:(decide ((L.length:Int)>0))=true:=by simp; omega
    have h2:(decide ((L.length:Int)≤4))=true:=by simp; omega
    rw [h1,h2]
    simp only [codeIf,if_true,firstV,bne_self_eq_false,Bool.false_eq_true,if_false,if_neg h0,if_neg h4]
    refine iter_scan L.length (b188_1 L) (shellF L) (some (0,0)) (by omega) (fun i hi=> ?_) (by simp [b188_1])
    simp only [b188_1,ltN hi,if_true,if_pos (rgN hi),Int.toNat_natCast,wS i (by omega),p44,bindC,p74,Option.isSome_some,Option.getD_some,implies_true,p42]
    rw [p33 _ (by simp)]
    simp only [bindC,shell_first,shellF]
    by_cases h5:shellE (L.getD i default)=0
    ·simp only [h5,bne_self_eq_false,Bool.false_eq_true,if_false,if_true]
    ·simp only [h5,bne_iff_ne,ne_eq,not_false_eq_true,if_true,if_false]
theorem p30 (T:Int) (L:List (Int×Int×Int)):r186 T L=ladO T L:=by
 unfold r186 ladO
 simp only [p57,Option.bind_some]
 cases hT:inR T 1 20 with
 | false=>simp
 | true=>
  simp only [Bool.not_true,Bool.false_eq_true,if_false,if_true]
  by_cases h0:L.length=0
  ·simp [h0]
  ·have h1:((L.length:Int) == 0)=false:=by simp; intro e; rw [e] at h0; simp at h0
   rw [h1,if_neg h0]
   simp only [Bool.false_eq_true,if_false]
   by_cases h4:4<L.length
   ·have h2:(decide ((L.length:Int)>4))=true:=by simp; omega
    rw [h2,if_pos h4]; rfl
   ·have h2:(decide ((L.length:Int)>4))=false:=by simp; omega
    rw [h2,if_neg h4]
    simp only [Bool.false_eq_true,if_false]
    refine iter_scan L.length (b186_1 L) (shellF L) (some (0,0)) (by omega) (fun i hi=> ?_) (by simp [b186_1])
    simp only [b186_1,ltN hi,if_true,if_pos (rgN hi),Int.toNat_natCast,wS i (by omega),p57,bindC,Option.isSome_some,Option.getD_some,implies_true]
    rw [shell_ref]
    simp only [shellF]
    by_cases h5:shellE (L.getD i default)=0
    ·simp only [h5,bne_self_eq_false,Bool.false_eq_true,if_false,if_true]
    ·simp only [h5,bne_iff_ne,ne_eq,not_false_eq_true,if_true,if_false]
theorem lad_some (T:Int) (L:List (Int×Int×Int)):∃ i e,ladO T L=some (i,e):=by
 unfold ladO
 split
 ·split
  ·exact ⟨_,_,rfl⟩
  ·split
   ·exact ⟨_,_,rfl⟩
   ·cases h:scanN (shellF L) 0 L.length with
    | none=>exact ⟨_,_,rfl⟩
    | some v=>exact ⟨v.1,v.2,rfl⟩
 ·exact ⟨_,_,rfl⟩
def ladE (T:Int) (L:List (Int×Int×Int)):Int:=((ladO T L).getD (0,0)).2
theorem p26 (T:Int) (L:List (Int×Int×Int)):r97 T L=some (ladE T L):=by
 unfold r97
 rw [p54,ladE]
 obtain ⟨i,e,h⟩:=lad_some T L
 rw [h]; rfl
theorem ladE_zero {T:Int} {L:List (Int×Int×Int)} (h:ladE T L=0):(1≤T∧T≤20)∧L.length≤4∧∀ s∈L,(1≤s.1∧s.1≤4)∧(1≤s.2.1∧s.2.1≤4)∧(1≤s.2.2∧s.2.2≤4):=by
 unfold ladE ladO at h
 by_cases hT:inR T 1 20=true
 ·rw [if_pos hT] at h
  have hT':1≤T∧T≤20:=by simpa [inR] using hT
  by_cases h0:L.length=0
  ·rw [if_pos h0] at h; cases h
  ·rw [if_neg h0] at h
   by_cases h4:4<L.length
   ·rw [if_pos h4] at h; cases h
   ·rw [if_neg h4] at h
    refine ⟨hT',by omega,fun s hs=> ?_⟩
    obtain ⟨i,hi,rfl⟩:=List.getElem_of_mem hs
    cases hsc:scanN (shellF L) 0 L.length with
    | some v=>
     rw [hsc] at h
     obtain ⟨j,_,_,hj⟩:=scan_some hsc
     unfold shellF at hj
     split at hj
     ·cases hj
     ·rename_i hne
      obtain rfl:=Option.some.inj hj
      exact absurd h hne
    | none=>
     have hj:=scan_none hsc i (by omega) (by omega)
     unfold shellF at hj
     rw [List.getD_eq_getElem?_getD,List.getElem?_eq_getElem hi,Option.getD_some] at hj
     split at hj
     ·rename_i he
      unfold shellE at he
      split at he
      ·rename_i hin
       simp [inR] at hin
       omega
      ·cases he
     ·cases hj
 ·rw [if_neg hT] at h; cases h
end Go.Proofs.YthldpejmofhaoaaGreatDoor.Sr
namespace Go.Proofs.YthldpejmofhaoaaGreatDoor.Sr
open Go.Abs
def three (v:List Int):Int×Int×Int:=(v.getD 0 default,v.getD 1 default,v.getD 2 default)
def shp (p:List UInt8):Int×Int×Int:=three (wvals p)
def trn (p:List UInt8):Int:=(wvals p).getD 0 default
def parseV (l:List UInt8):Int×List (Int×Int×Int)×Int:=
 if 60000<l.length then (0,[],8)
 else if GoodW 3 1 ((cut 59 l).headD [])∧∀ p∈(cut 59 l).tail,GoodW 3 3 p then
  (if ladE (trn ((cut 59 l).headD [])) ((cut 59 l).tail.map shp)=0 then (trn ((cut 59 l).headD []),(cut 59 l).tail.map shp,0) else (0,[],ladE (trn ((cut 59 l).headD [])) ((cut 59 l).tail.map shp)))
 else (0,[],7)
theorem wvals_len {k n:Nat} {p:List UInt8} (h:GoodW k n p):(wvals p).length=n:=by
 rw [wvals,List.length_map]; exact h.1
theorem p24 (l:List UInt8) (c:UInt8) (h:l.length≤60000):r70 (lb l) ⟨#[c]⟩=some ((cut c l).map lb):=by
 show splitV (lb l) ⟨#[c]⟩=_
 rw [split_cut _ _ (by rw [size_lb]; omega),bl_lb]
theorem map_getD {l:List (List UInt8)} {i:Nat} (h:i<l.length):(l.map lb).getD i default=lb (l.getD i []):=by
 rw [List.getD_eq_getElem?_getD,List.getElem?_map,List.getElem?_eq_getElem h,List.getD_eq_getElem?_getD,List.getElem?_eq_getElem h]; rfl
theorem getD_cons_succ' {α:Type} (a:α) (l:List α) (i:Nat) (d:α):(a::l).getD (i+1) d=l.getD i d:=rfl
theorem take_succ' {α:Type} (l:List α) (d:α) {i:Nat} (h:i<l.length):l.take (i+1)=l.take i++[l.getD i d]:=by
 rw [List.take_add_one,List.getElem?_eq_getElem h,List.getD_eq_getElem?_getD,List.getElem?_eq_getElem h]; rfl
theorem mem_getD {α:Type} {l:List α} {d:α} {i:Nat} (h:i<l.length):l.getD i d∈l:=by
 rw [List.getD_eq_getElem?_getD,List.getElem?_eq_getElem h]; exact List.getElem_mem h
theorem parse_end (p0:List UInt8) (rest:List (List UInt8)) (T:Int) (L:List (Int×Int×Int)) (hT:T=trn p0) (hL:L=rest.map shp) (g0:GoodW 3 1 p0) (g:∀ p∈rest,GoodW 3 3 p) {l:List UInt8} (hl:l.length≤60000) (hc:cut 59 l=p0::rest) :
 (if (ladE T L != 0)=true then some (0,[],ladE T L) else some (T,L,0))=some (parseV l):=by
 subst hT hL
 have e:parseV l=if ladE (trn p0) (rest.map shp)=0 then (trn p0,rest.map shp,0) else (0,[],ladE (trn p0) (rest.map shp)):=by
  rw [parseV,if_neg (by omega),hc]
  exact if_pos ⟨g0,g⟩
 rw [e]
 by_cases h:ladE (trn p0) (rest.map shp)=0
 ·rw [if_neg (by rw [h]; simp),if_pos h]
 ·rw [if_pos (by simpa using h),if_neg h]
theorem parse_bad {p0:List UInt8} {rest:List (List UInt8)} {l:List UInt8} (hl:l.length≤60000) (hc:cut 59 l=p0::rest) (hb:¬ (GoodW 3 1 p0∧∀ p∈rest,GoodW 3 3 p)):parseV l=(0,[],7):=by
 rw [parseV,if_neg (by omega),hc]
 exact if_neg hb
theorem p8 (l:List UInt8):r27 (lb l)=some (parseV l):=by
 unfold r27
 by_cases hl:60000<l.length
 ·rw [if_pos (by rw [size_lb,decide_eq_true_eq]; omega),parseV,if_pos hl]
 ·have hl:l.length≤60000:=by omega
  rw [if_neg (by rw [size_lb,decide_eq_true_eq]; omega),p24 l 59 hl,Option.bind_some]
  have hcl:=cut_len_le 59 l
  have hpl:=cut_len 59 l
  cases hc:cut 59 l with
  | nil=>exact absurd hc (cut_ne 59 l)
  | cons p0 rest=>
  rw [hc] at hcl hpl
  rw [List.length_cons] at hcl
  refine iter_meas (b27_1 ((p0::rest).map lb)) (fun s=>s=(0,0,[])∨∃ j:Nat,s=(((j+1:Nat):Int),trn p0,(rest.take j).map shp)∧j≤rest.length∧GoodW 3 1 p0∧∀ p∈rest.take j,GoodW 3 3 p) (fun s=>rest.length+1 - s.1.toNat) (fun o=>o=some (parseV l)) (fun s hs=> ?_) 1000000000 _ (.inl rfl) (by show rest.length+1 - (0:Int).toNat<1000000000; omega)
  rcases hs with rfl | ⟨j,rfl,h1,h2,h3⟩
  ·unfold b27_1
   simp only
   obtain ⟨v,e1,e2,e3⟩:=p25 p0 1 (Nat.le_trans (hpl p0 (by simp)) hl)
   rw [if_pos (by rw [List.length_map,List.length_cons,decide_eq_true_eq]; omega),if_pos (by rw [List.length_map,List.length_cons]; omega),if_pos (by rfl),map_getD (by simp)]
   rw [show (p0::rest).getD (0:Int).toNat []=p0 from rfl,show (1:Int)=((1:Nat):Int) from rfl,e1]
   simp only [bindC]
   by_cases g:GoodW 3 1 p0
   ·left
    have h2:v.2=true:=by rw [e2]; simpa using g
    have hlen:=wvals_len g
    rw [if_neg (by rw [h2]; simp),if_pos (by rfl),e3 h2,if_pos (by omega)]
    refine ⟨_,rfl,.inr ⟨0,?_,by omega,g,by simp⟩,by show rest.length+1 - (IntKind.i64.wrap (0+((1:Nat):Int))).toNat<rest.length+1 - (0:Int).toNat; rw [wI (by omega) (by omega)]; omega⟩
    rw [wI (by omega) (by omega)]; rfl
   ·right
    have h2:v.2=false:=by rw [e2]; simpa using g
    rw [if_pos (by rw [h2]; rfl)]
    exact ⟨_,rfl,by rw [parse_bad hl hc (fun h=>g h.1)]⟩
  ·unfold b27_1
   simp only
   by_cases g:j<rest.length
   ·obtain ⟨v,e1,e2,e3⟩:=p25 (rest.getD j []) 3 (Nat.le_trans (hpl _ (List.mem_cons_of_mem _ (mem_getD g))) hl)
    rw [if_pos (by rw [List.length_map,List.length_cons]; simp; omega),if_pos (by rw [List.length_map,List.length_cons]; omega),if_neg (by simp; omega),Int.toNat_natCast,map_getD (by simp; omega),getD_cons_succ',show (3:Int)=((3:Nat):Int) from rfl,e1]
    simp only [bindC]
    by_cases gw:GoodW 3 3 (rest.getD j [])
    ·left
     have h2v:v.2=true:=by rw [e2]; simpa using gw
     have hlen:=wvals_len gw
     rw [if_neg (by rw [h2v]; simp),if_neg (by simp; omega),e3 h2v,if_pos (by omega),if_pos (by omega),if_pos (by omega),if_pos (by rw [List.length_map,List.length_take]; omega),wI (by omega) (by omega)]
     refine ⟨_,rfl,.inr ⟨j+1,?_,g,h2,?_⟩,by show rest.length+1 - (((j+1:Nat):Int)+1).toNat<rest.length+1 - ((j+1:Nat):Int).toNat; omega⟩
     ·rw [take_succ' rest [] g,List.map_append]; rfl
     ·rw [take_succ' rest [] g]; intro p hp
      rcases List.mem_append.mp hp with hp | hp
      ·exact h3 p hp
      ·rw [List.mem_singleton] at hp; rw [hp]; exact gw
    ·right
     have h2v:v.2=false:=by rw [e2]; simpa using gw
     rw [if_pos (by rw [h2v]; rfl)]
     exact ⟨_,rfl,by rw [parse_bad hl hc (fun h=>gw (h.2 _ (mem_getD g)))]⟩
   ·right
    obtain rfl:j=rest.length:=by omega
    rw [List.take_length] at h3 ⊢
    rw [if_neg (by rw [List.length_map,List.length_cons]; simp),p26,Option.bind_some]
    exact ⟨_,rfl,parse_end p0 rest _ _ rfl rfl h2 h3 hl hc⟩
end Go.Proofs.YthldpejmofhaoaaGreatDoor.Sr
namespace Go.Proofs.YthldpejmofhaoaaGreatDoor.Sr
open Go.Abs
def In64 (n:Int):Prop:= -9223372036854775808≤n∧n≤9223372036854775807
def In3 (s:Int×Int×Int):Prop:=In64 s.1∧In64 s.2.1∧In64 s.2.2
def wds (s:Int×Int×Int):List (List UInt8):=[Lib.itoa s.1,Lib.itoa s.2.1,Lib.itoa s.2.2]
def fmtL (T:Int) (L:List (Int×Int×Int)):List UInt8:=jn 59 (Lib.itoa T::L.map fun s=>jn 32 (wds s))
theorem jn_len (c:UInt8) (B:Nat):∀ (l:List (List UInt8)),(∀ x∈l,x.length≤B)→(jn c l).length≤l.length*(B+1)
 | [],_=>by simp [jn]
 | [x],h=>by have:=h x (by simp); simp [jn]; omega
 | x::y::r,h=>by
  have h1:=h x (by simp)
  have h2:=jn_len c B (y::r) (fun z hz=>h z (List.mem_cons_of_mem _ hz))
  rw [jn,List.length_append,List.length_cons]
  have h3:(x::y::r).length*(B+1)=(y::r).length*(B+1)+(B+1):=Nat.succ_mul _ _
  omega
theorem a22' {n:Int} (h:In64 n):r73 n=some (lb (Lib.itoa n)):=a22 h.1 h.2
theorem itoaLen {n:Int} (h:In64 n):(Lib.itoa n).length≤21:=itoa_len h.1 h.2
theorem a23 (l:List (List UInt8)) (c:UInt8) (h1:l.length≤100000) (h2:(jn c l).length≤1000000000):r77 (l.map lb) ⟨#[c]⟩=some (lb (jn c l)):=by
 have e:joinB (l.map lb) ⟨#[c]⟩=lb (jn c l):=by
  rw [joinB_jn,List.map_map]
  have:(bl∘lb)=id:=by funext x; rfl
  rw [this,List.map_id]
 show joinV (l.map lb) ⟨#[c]⟩=_
 rw [joinV,e,if_pos ⟨by rw [List.length_map]; omega,by rw [size_lb]; omega⟩]
theorem wds_len {s:Int×Int×Int} (h:In3 s):(jn 32 (wds s)).length≤66:=by
 have:=jn_len 32 21 (wds s) (fun x hx=>by
  simp only [wds,List.mem_cons,List.not_mem_nil,or_false] at hx
  rcases hx with rfl | rfl | rfl
  ·exact itoaLen h.1
  ·exact itoaLen h.2.1
  ·exact itoaLen h.2.2)
 exact this
theorem fmt_len {T:Int} {L:List (Int×Int×Int)} (hT:In64 T) (hL:∀ s∈L,In3 s):(fmtL T L).length≤(L.length+1)*67:=by
 have:=jn_len 59 66 (Lib.itoa T::L.map fun s=>jn 32 (wds s)) (fun x hx=>by
  rcases List.mem_cons.mp hx with rfl | hx
  ·have:=itoaLen hT; omega
  ·obtain ⟨s,hs,rfl⟩:=List.mem_map.1 hx
   exact wds_len (hL s hs))
 rw [List.length_cons,List.length_map] at this
 exact this
theorem inner6 (L:List (Int×Int×Int)) (j:Nat) (o:List ByteArray) (h:In3 (L.getD j default)) (hj:(o.length+1)*16≤140737488355328∧o.length+1≤9223372036854775807) (hb:j<1000000) :
 iterC (b28_2 L ((j:Int),o)) 1000000000 ([],0)=some (.next (((j+1:Nat):Int),o++[lb (jn 32 (wds (L.getD j default)))])):=by
 have h3:iterC (b28_2 L ((j:Int),o)) 1000000000 (((wds (L.getD j default)).take 0).map lb,((0:Nat):Int))=some (.next (((j+1:Nat):Int),o++[lb (jn 32 (wds (L.getD j default)))])):=by
  refine iter_run 3 (b28_2 L ((j:Int),o)) (fun i=>(((wds (L.getD j default)).take i).map lb,(i:Int))) _ (by decide) (fun i hi=> ?_) ?_
  ·unfold b28_2
   simp only [Int.toNat_natCast]
   have hi':i=0∨i=1∨i=2:=by omega
   rcases hi' with rfl | rfl | rfl
   ·rw [if_pos (by rfl),if_pos (by rfl),a22' h.1]
    simp only [bindC]
    rw [if_pos (by simp [wds])]; rfl
   ·rw [if_pos (by rfl),if_neg (by simp),if_pos (by rfl),a22' h.2.1]
    simp only [bindC]
    rw [if_pos (by simp [wds])]; rfl
   ·rw [if_pos (by rfl),if_neg (by simp),if_neg (by simp),if_pos (by rfl),a22' h.2.2]
    simp only [bindC]
    rw [if_pos (by simp [wds])]; rfl
  ·unfold b28_2
   simp only
   rw [if_neg (by simp)]
   have hw:(wds (L.getD j default)).take 3=wds (L.getD j default):=rfl
   rw [hw,a23 _ 32 (by simp [wds]) (by have:=wds_len h; omega)]
   simp only [bindC]
   rw [if_pos hj,wI (by omega) (by omega)]; rfl
 exact h3
theorem getD_dflt {α:Type} [Inhabited α] {l:List α} {i:Nat} (h:i<l.length):l.getD i default∈l:=mem_getD h
theorem p6 (T:Int) (L:List (Int×Int×Int)) (hT:In64 T) (hL:∀ s∈L,In3 s) (h6:L.length≤6):r28 T L=some (lb (fmtL T L)):=by
 unfold r28
 rw [a22' hT,Option.bind_some]
 have h:=iter_run L.length (b28_1 L) (fun i=>((i:Int),(Lib.itoa T::(L.take i).map fun s=>jn 32 (wds s)).map lb)) (some (lb (fmtL T L))) (by omega) (fun i hi=> ?_) ?_
 ·exact h
 ·unfold b28_1
  simp only
  rw [if_pos (by simpa using hi),if_pos (by omega),inner6 L i _ (hL _ (getD_dflt hi)) (by simp; omega) (by omega),Option.getD_some,take_succ' L default hi]
  simp
 ·unfold b28_1
  simp only
  rw [if_neg (by simp),List.take_length,a23 _ 59 (by simp; omega) (by have:=fmt_len hT hL; rw [fmtL] at this; omega)]
  rfl
theorem p11 (T:Int) (L:List (Int×Int×Int)) (hn:L.length<1000000000):r30 T L T L=some true:=by
 unfold r30
 rw [if_neg (by simp)]
 refine iter_run L.length (b30_1 L L) (fun i=>(i:Int)) (some true) hn (fun i hi=> ?_) ?_
 ·unfold b30_1
  rw [if_pos (by simpa using hi),if_pos (by omega),if_pos (by omega),if_neg (by simp),wI (by omega) (by omega)]; rfl
 ·unfold b30_1
  rw [if_neg (by simp)]
end Go.Proofs.YthldpejmofhaoaaGreatDoor.Sr
namespace Go.Proofs.YthldpejmofhaoaaGreatDoor.Sr
open Go.Abs
theorem itoa_wd {n:Int} (h1:0≤n) (h2:n≤99):Wd 3 (Lib.itoa n)∧wval (Lib.itoa n)=n:=by
 obtain ⟨m,rfl⟩:=Int.eq_ofNat_of_zero_le h1
 rw [itoa_pos]
 obtain ⟨c,v,_⟩:=dd_canon m
 exact ⟨⟨c,dd_len m 2 (by omega)⟩,by rw [wval,v]⟩
theorem wd_no {k:Nat} {w:List UInt8} (h:Wd k w) (c:UInt8) (hc:¬ dig c):c∉w:=dig_no hc h.1.2.1
theorem wds_good {s:Int×Int×Int} (h:(1≤s.1∧s.1≤4)∧(1≤s.2.1∧s.2.1≤4)∧(1≤s.2.2∧s.2.2≤4)):GoodW 3 3 (jn 32 (wds s))∧shp (jn 32 (wds s))=s∧(59:UInt8)∉jn 32 (wds s):=by
 obtain ⟨w1,v1⟩:=itoa_wd (n:=s.1) (by omega) (by omega)
 obtain ⟨w2,v2⟩:=itoa_wd (n:=s.2.1) (by omega) (by omega)
 obtain ⟨w3,v3⟩:=itoa_wd (n:=s.2.2) (by omega) (by omega)
 have hc:cut 32 (jn 32 (wds s))=wds s:=jn_cut 32 _ (by simp [wds]) (fun x hx=>by
  simp only [wds,List.mem_cons,List.not_mem_nil,or_false] at hx
  rcases hx with rfl | rfl | rfl
  ·exact wd_no w1 32 (by decide)
  ·exact wd_no w2 32 (by decide)
  ·exact wd_no w3 32 (by decide))
 refine ⟨⟨by rw [hc]; rfl,fun w hw=> ?_⟩,?_,?_⟩
 ·rw [hc] at hw
  simp only [wds,List.mem_cons,List.not_mem_nil,or_false] at hw
  rcases hw with rfl | rfl | rfl
  ·exact w1
  ·exact w2
  ·exact w3
 ·rw [shp,wvals,hc]
  show (wval (Lib.itoa s.1),wval (Lib.itoa s.2.1),wval (Lib.itoa s.2.2))=s
  rw [v1,v2,v3]
 ·simp only [wds,jn,List.mem_append,List.mem_cons]
  rintro (h | h | h | h | h)
  ·exact wd_no w1 59 (by decide) h
  ·revert h; decide
  ·exact wd_no w2 59 (by decide) h
  ·revert h; decide
  ·exact wd_no w3 59 (by decide) h
theorem round {T:Int} {L:List (Int×Int×Int)} (h:ladE T L=0) (hl:(fmtL T L).length≤60000):parseV (fmtL T L)=(T,L,0):=by
 obtain ⟨hT,h4,hL⟩:=ladE_zero h
 obtain ⟨w0,v0⟩:=itoa_wd (n:=T) (by omega) (by omega)
 have hc:cut 59 (fmtL T L)=Lib.itoa T::L.map fun s=>jn 32 (wds s):=jn_cut 59 _ (by simp) (fun x hx=>by
  rcases List.mem_cons.mp hx with rfl | hx
  ·exact wd_no w0 59 (by decide)
  ·obtain ⟨s,hs,rfl⟩:=List.mem_map.1 hx
   exact (wds_good (hL s hs)).2.2)
 have c0:cut 32 (Lib.itoa T)=[Lib.itoa T]:=cut_none (wd_no w0 32 (by decide))
 have g0:GoodW 3 1 (Lib.itoa T):=⟨by rw [c0]; rfl,fun w hw=>by rw [c0,List.mem_singleton] at hw; rw [hw]; exact w0⟩
 have hg:∀ p∈(L.map fun s=>jn 32 (wds s)),GoodW 3 3 p:=fun p hp=>by
  obtain ⟨s,hs,rfl⟩:=List.mem_map.1 hp
  exact (wds_good (hL s hs)).1
 have eT:trn (Lib.itoa T)=T:=by rw [trn,wvals,c0]; exact v0
 have eL:(L.map fun s=>jn 32 (wds s)).map shp=L:=by
  rw [List.map_map]
  have:∀ s∈L,(shp∘fun s=>jn 32 (wds s)) s=id s:=fun s hs=>(wds_good (hL s hs)).2.1
  rw [List.map_congr_left this,List.map_id]
 have:=parse_end (Lib.itoa T) (L.map fun s=>jn 32 (wds s)) T L eT.symm eL.symm g0 hg hl hc
 rw [if_neg (by rw [h]; decide)] at this
 exact (Option.some.inj this).symm
end Go.Proofs.YthldpejmofhaoaaGreatDoor.Sr

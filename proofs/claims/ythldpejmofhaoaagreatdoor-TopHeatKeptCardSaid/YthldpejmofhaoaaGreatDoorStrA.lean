/- Strings: numerals, cuts, joins. Plain laws about lists of bytes; no function of the program. -/
import Derived.Test.YthldpejmofhaoaaGreatDoorLib
import Derived.Lib.AtoiAllCases
import Derived.Lib.ItoaMem
set_option linter.unusedVariables false
set_option linter.unusedSimpArgs false
namespace Go.Proofs.YthldpejmofhaoaaGreatDoor
open Go.Abs

theorem wI {a : Int} (h1 : -9223372036854775808 ≤ a) (h2 : a ≤ 9223372036854775807) : IntKind.i64.wrap a = a := IntWalk.i64_in _ ⟨by omega, by omega⟩
theorem iter_meas {σ ρ : Type} (b : σ → Ctl σ ρ) (I : σ → Prop) (μ : σ → Nat) (G : Option ρ → Prop)
    (step : ∀ s, I s → (∃ s', b s = .next s' ∧ I s' ∧ μ s' < μ s) ∨ (∃ o, b s = .out o ∧ G o)) : ∀ (fuel : Nat) (s : σ), I s → μ s < fuel → G (iterC b fuel s)
  | 0, s, _, h => absurd h (by omega)
  | k + 1, s, hi, h => by
    rcases step s hi with ⟨s', h1, h2, h3⟩ | ⟨o, h1, h2⟩
    · simp only [iterC, h1]
      exact iter_meas b I μ G step k s' h2 (by omega)
    · simp only [iterC, h1]; exact h2
/-- the bytes of a string -/
def bl (s : ByteArray) : List UInt8 := s.data.toList
def lb (l : List UInt8) : ByteArray := ⟨l.toArray⟩
theorem bl_lb (l : List UInt8) : bl (lb l) = l := rfl
theorem lb_bl (s : ByteArray) : lb (bl s) = s := by obtain ⟨⟨l⟩⟩ := s; rfl
theorem bl_inj {s t : ByteArray} (h : bl s = bl t) : s = t := by rw [← lb_bl s, h, lb_bl]
theorem lb_inj {l r : List UInt8} : lb l = lb r ↔ l = r := ⟨fun h => by rw [← bl_lb l, h, bl_lb], fun h => by rw [h]⟩
theorem size_bl (s : ByteArray) : s.size = (bl s).length := by obtain ⟨⟨l⟩⟩ := s; rfl
theorem size_lb (l : List UInt8) : (lb l).size = l.length := rfl
theorem lb_app (l r : List UInt8) : lb l ++ lb r = lb (l ++ r) := by
  apply bl_inj
  simp [bl, lb]
theorem bl_app (s t : ByteArray) : bl (s ++ t) = bl s ++ bl t := by simp [bl]
theorem lb_extract (l : List UInt8) (a b : Nat) : (lb l).extract a b = lb ((l.drop a).take (b - a)) := by
  apply bl_inj
  simp [bl, lb, List.take_drop, List.extract_eq_take_drop]
theorem byteAt_lb (l : List UInt8) (i : Nat) : byteAt (lb l) i = ((l.getD i 0).toNat : Int) := by
  simp [byteAt, lb, List.getD_eq_getElem?_getD]
theorem byteAt_bl (s : ByteArray) (i : Nat) : byteAt s i = (((bl s).getD i 0).toNat : Int) := by
  rw [← lb_bl s, byteAt_lb, bl_lb]
theorem u8_lt (c : UInt8) : c.toNat < 256 := c.toNat_lt
theorem u8_of {c : UInt8} {n : Nat} (h : c.toNat = n) : c = UInt8.ofNat n := by rw [← h]; simp
theorem u8_ofNat {n : Nat} (h : n < 256) : (UInt8.ofNat n).toNat = n := by simp; omega

/-- a digit -/
def dig (c : UInt8) : Prop := 48 ≤ c.toNat ∧ c.toNat ≤ 57
instance (c : UInt8) : Decidable (dig c) := inferInstanceAs (Decidable (_ ∧ _))
def stepVs (n : Nat) (c : UInt8) : Nat := 10 * n + (c.toNat - 48)
def valF (n : Nat) (l : List UInt8) : Nat := l.foldl stepVs n
/-- a numeral without zeros in front -/
def Canon (l : List UInt8) : Prop := l ≠ [] ∧ (∀ c ∈ l, dig c) ∧ (l.headD 0 = 48 → l.length = 1)
instance (l : List UInt8) : Decidable (Canon l) := inferInstanceAs (Decidable (_ ∧ _ ∧ _))
theorem valF_snoc (n : Nat) (l : List UInt8) (c : UInt8) : valF n (l ++ [c]) = 10 * valF n l + (c.toNat - 48) := by simp [valF, stepVs]
theorem valF_lt : ∀ (l : List UInt8) (n : Nat), (∀ c ∈ l, dig c) → valF n l < (n + 1) * 10 ^ l.length
  | [], n, _ => by simp [valF]
  | c :: l, n, h => by
    have hc := h c (List.mem_cons_self ..)
    have := valF_lt l (stepVs n c) (fun x hx => h x (List.mem_cons_of_mem _ hx))
    show valF (stepVs n c) l < _
    refine Nat.lt_of_lt_of_le this ?_
    rw [List.length_cons, Nat.pow_succ]
    have h2 : stepVs n c + 1 ≤ (n + 1) * 10 := by unfold stepVs dig at *; omega
    calc (stepVs n c + 1) * 10 ^ l.length ≤ ((n + 1) * 10) * 10 ^ l.length := Nat.mul_le_mul_right _ h2
      _ = (n + 1) * (10 ^ l.length * 10) := by rw [Nat.mul_assoc, Nat.mul_comm 10]
theorem dd_big {n : Nat} (h : ¬ n < 10) : Lib.decDigits n = Lib.decDigits (n / 10) ++ [UInt8.ofNat (48 + n % 10)] := by
  rw [Lib.decDigits, dif_neg h]
theorem dd_ne (n : Nat) : Lib.decDigits n ≠ [] := by
  by_cases h : n < 10
  · rw [Lib.decDigits_one h]; simp
  · rw [dd_big h]; simp
theorem headD_app (l r : List UInt8) (h : l ≠ []) : (l ++ r).headD 0 = l.headD 0 := by
  cases l with
  | nil => exact absurd rfl h
  | cons a l => rfl
theorem dd_canon (n : Nat) : Canon (Lib.decDigits n) ∧ valF 0 (Lib.decDigits n) = n ∧ (0 < n → (Lib.decDigits n).headD 0 ≠ 48) := by
  induction n using Nat.strongRecOn with
  | _ n ih =>
    by_cases h : n < 10
    · rw [Lib.decDigits_one h]
      have e : (UInt8.ofNat (48 + n)).toNat = 48 + n := u8_ofNat (by omega)
      refine ⟨⟨by simp, fun c hc => ?_, fun _ => rfl⟩, ?_, fun h0 => ?_⟩
      · rw [List.mem_singleton] at hc; subst hc
        unfold dig; omega
      · show 10 * 0 + ((UInt8.ofNat (48 + n)).toNat - 48) = n
        omega
      · intro h1
        have h1 : UInt8.ofNat (48 + n) = 48 := h1
        have := congrArg UInt8.toNat h1
        rw [e] at this
        have : (48 : UInt8).toNat = 48 := rfl
        omega
    · rw [dd_big h]
      obtain ⟨⟨c1, c2, c3⟩, v, hd⟩ := ih (n / 10) (by omega)
      have e : (UInt8.ofNat (48 + n % 10)).toNat = 48 + n % 10 := u8_ofNat (by omega)
      have hh := hd (by omega)
      refine ⟨⟨by simp, fun c hc => ?_, fun h1 => ?_⟩, ?_, fun _ => ?_⟩
      · rcases List.mem_append.mp hc with hc | hc
        · exact c2 c hc
        · rw [List.mem_singleton] at hc; subst hc
          unfold dig; omega
      · rw [headD_app _ _ c1] at h1; exact absurd h1 hh
      · rw [valF_snoc, v, e]; omega
      · rw [headD_app _ _ c1]; exact hh
theorem valF_pos : ∀ (l : List UInt8) (n : Nat), 0 < n → 0 < valF n l
  | [], n, h => h
  | c :: l, n, h => valF_pos l (stepVs n c) (by unfold stepVs; omega)
theorem snoc_cases {α : Type} (l : List α) (h : l ≠ []) : ∃ r c, l = r ++ [c] := ⟨l.dropLast, l.getLast h, (List.dropLast_concat_getLast h).symm⟩
theorem canon_dd : ∀ (k : Nat) (l : List UInt8), l.length = k → Canon l → l = Lib.decDigits (valF 0 l) := by
  intro k
  induction k with
  | zero => intro l hl h; exact absurd (List.eq_nil_of_length_eq_zero hl) h.1
  | succ k ih =>
    intro l hl h
    obtain ⟨r, c, rfl⟩ := snoc_cases l h.1
    have hc : dig c := h.2.1 c (by simp)
    by_cases e : r = []
    · subst e
      have : valF 0 ([] ++ [c]) = c.toNat - 48 := by rw [valF_snoc]; simp [valF]
      rw [this]
      unfold dig at hc
      rw [Lib.decDigits_one (by omega), show 48 + (c.toNat - 48) = c.toNat by omega]
      simp
    · have hh : r.headD 0 ≠ 48 := fun h48 => by
        have := h.2.2 (by rw [headD_app _ _ e]; exact h48)
        rw [List.length_append, List.length_singleton] at this
        have : r.length = 0 := by omega
        exact e (List.eq_nil_of_length_eq_zero this)
      have hr : Canon r := ⟨e, fun x hx => h.2.1 x (by simp [hx]), fun h48 => absurd h48 hh⟩
      have hi := ih r (by simpa using hl) hr
      have hpos : 0 < valF 0 r := by
        cases r with
        | nil => exact absurd rfl e
        | cons a r =>
          have ha : dig a := h.2.1 a (by simp)
          have hne : a ≠ 48 := hh
          have : a.toNat ≠ 48 := fun hx => hne (by rw [u8_of hx]; rfl)
          exact valF_pos r (stepVs 0 a) (by unfold stepVs dig at *; omega)
      rw [valF_snoc]
      unfold dig at hc
      rw [dd_big (by omega), show (10 * valF 0 r + (c.toNat - 48)) / 10 = valF 0 r by omega, ← hi, show 48 + (10 * valF 0 r + (c.toNat - 48)) % 10 = c.toNat by omega]
      simp
theorem itoa_pos (n : Nat) : Lib.itoa (n : Int) = Lib.decDigits n := Lib.itoa_nonneg n
/-- what Atoi says of a numeral -/
theorem parse_digits : ∀ (l : List UInt8) (acc : Nat), (∀ c ∈ l, dig c) → valF acc l < 1000000000000000000 → Lib.parseUint10 acc l = .ok (valF acc l)
  | [], acc, _, _ => rfl
  | c :: r, acc, h, hv => by
    have hc := h c (List.mem_cons_self ..)
    have mono : ∀ (r : List UInt8) (a : Nat), a ≤ valF a r := by
      intro r
      induction r with
      | nil => intro a; exact Nat.le_refl _
      | cons x r ih => intro a; exact Nat.le_trans (by unfold stepVs; omega) (ih (stepVs a x))
    have hm := mono r (stepVs acc c)
    have hv' : valF (stepVs acc c) r < 1000000000000000000 := hv
    have hstep : acc * 10 + (c.toNat - 48) = stepVs acc c := by unfold stepVs; omega
    have hb : stepVs acc c < 1000000000000000000 := by omega
    have hacc : acc < 1844674407370955162 := by unfold stepVs at hb; omega
    rw [Lib.parseUint10, if_pos (show 48 ≤ c.toNat ∧ c.toNat ≤ 57 from hc), if_neg (by omega), hstep, if_neg (by omega)]
    exact parse_digits r (stepVs acc c) (fun x hx => h x (List.mem_cons_of_mem _ hx)) hv'
theorem atoi_canon {l : List UInt8} (h : Canon l) (hl : l.length ≤ 18) : Lib.atoiAll l = .ok (valF 0 l : Int) := by
  have hb := valF_lt l 0 h.2.1
  have h18 : (10 : Nat) ^ l.length ≤ 10 ^ 18 := Nat.pow_le_pow_right (by decide) hl
  have e18 : (10 : Nat) ^ 18 = 1000000000000000000 := by decide
  cases l with
  | nil => exact absurd rfl h.1
  | cons c r =>
    have hc : dig c := h.2.1 c (by simp)
    unfold dig at hc
    have hp := parse_digits (c :: r) 0 h.2.1 (by omega)
    rw [Lib.atoiAll, if_neg (by omega), Lib.parseMag, if_neg (by simp), hp]
    simp only
    rw [if_neg (by omega), if_neg (by omega), if_neg (by omega)]
theorem atoiE_canon {l : List UInt8} (h : Canon l) (hl : l.length ≤ 18) : atoiE l = ((valF 0 l : Int), false) := by
  rw [atoiE, atoi_canon h hl]
theorem atoiE_bd (l : List UInt8) (h : (atoiE l).2 = false) : -9223372036854775808 ≤ (atoiE l).1 ∧ (atoiE l).1 ≤ 9223372036854775807 := by
  unfold atoiE at h ⊢
  cases e : Lib.atoiAll l with
  | ok v => exact Lib.atoiAll_bounds e
  | range => rw [e] at h; cases h
  | _ => exact ⟨by show (-9223372036854775808 : Int) ≤ 0; decide, by show (0 : Int) ≤ 9223372036854775807; decide⟩
/-- a word that is taken: a numeral of at most k digits -/
def wordV (k : Nat) (l : List UInt8) : Option Int := if Canon l ∧ l.length ≤ k then some (valF 0 l : Int) else none
/-- the code's look at a word -/
theorem word_code (k : Nat) (hk : k ≤ 18) (l : List UInt8) : ((atoiE l).2 = false ∧ 0 ≤ (atoiE l).1 ∧ Lib.itoa (atoiE l).1 = l ∧ l.length ≤ k) ↔ (Canon l ∧ l.length ≤ k) := by
  constructor
  · rintro ⟨h1, h2, h3, h4⟩
    obtain ⟨n, hn⟩ := Int.eq_ofNat_of_zero_le h2
    rw [hn, itoa_pos] at h3
    exact ⟨by rw [← h3]; exact (dd_canon n).1, h4⟩
  · rintro ⟨h1, h2⟩
    rw [atoiE_canon h1 (by omega)]
    refine ⟨rfl, by simp, ?_, h2⟩
    rw [itoa_pos, ← canon_dd _ l rfl h1]

/-- a list cut at a byte -/
def cut (c : UInt8) : List UInt8 → List (List UInt8)
  | [] => [[]]
  | b :: r => if b = c then [] :: cut c r else match cut c r with
    | h :: t => (b :: h) :: t
    | [] => [[b]]
theorem cut_ne (c : UInt8) : ∀ l, cut c l ≠ []
  | [] => by simp [cut]
  | b :: r => by
    rw [cut]; split
    · simp
    · split <;> simp
theorem cut_none {c : UInt8} : ∀ {l : List UInt8}, c ∉ l → cut c l = [l]
  | [], _ => rfl
  | b :: r, h => by
    rw [cut, if_neg (by intro e; subst e; exact h (List.mem_cons_self ..)), cut_none (fun hx => h (List.mem_cons_of_mem _ hx))]
theorem cut_at {c : UInt8} : ∀ (x r : List UInt8), c ∉ x → cut c (x ++ c :: r) = x :: cut c r
  | [], r, _ => by rw [List.nil_append, cut, if_pos rfl]
  | b :: x, r, h => by
    rw [List.cons_append, cut, if_neg (by intro e; subst e; exact h (List.mem_cons_self ..)), cut_at x r (fun hx => h (List.mem_cons_of_mem _ hx))]
theorem cut_index {c : UInt8} : ∀ (l : List UInt8), (Lib.indexByte l c = -1 ∧ c ∉ l) ∨ ∃ i : Nat, Lib.indexByte l c = i ∧ i < l.length ∧ c ∉ l.take i ∧ l = l.take i ++ c :: l.drop (i+1)
  | [] => .inl ⟨rfl, by simp⟩
  | b :: l => by
    unfold Lib.indexByte
    by_cases h : b = c
    · subst h
      right
      exact ⟨0, by simp, by simp, by simp, by simp⟩
    · have hb : (b == c) = false := by simpa using h
      rw [hb]
      rcases cut_index l with ⟨h1, h2⟩ | ⟨i, h1, h2, h3, h4⟩
      · left
        rw [h1]
        exact ⟨by simp, by simp [Ne.symm h, h2]⟩
      · right
        refine ⟨i + 1, ?_, by simpa using h2, ?_, ?_⟩
        · rw [h1, if_neg (by simp), if_neg (by simp)]; omega
        · rw [List.take_succ_cons]; simp [Ne.symm h, h3]
        · rw [List.take_succ_cons, List.drop_succ_cons, List.cons_append, ← h4]
theorem splitK_cut {c : UInt8} : ∀ (k : Nat) (l : List UInt8), l.count c ≤ k → Lib.splitK [c] 0 k l = cut c l
  | 0, l, h => by
    rw [Lib.splitK, cut_none (fun hm => by have := List.count_pos_iff.2 hm; omega)]
  | k + 1, l, h => by
    rw [Lib.splitK, Lib.index_one]
    rcases cut_index (c := c) l with ⟨h1, h2⟩ | ⟨i, h1, h2, h3, h4⟩
    · rw [h1, if_pos (by decide), cut_none h2]
    · rw [h1, if_neg (by simp), Int.toNat_natCast, Nat.add_zero]
      have hc : (l.drop (i+1)).count c ≤ k := by
        have := congrArg (List.count c) h4
        rw [List.count_append, List.count_cons_self] at this
        omega
      conv => rhs; rw [h4, cut_at _ _ h3]
      rw [show [c].length = 1 from rfl, splitK_cut k _ hc]
theorem split_cut (s : ByteArray) (c : UInt8) (h : s.size < 4294967281) : splitV s ⟨#[c]⟩ = some ((cut c (bl s)).map lb) := by
  have hs : (⟨#[c]⟩ : ByteArray).size = 1 := rfl
  rw [splitV, if_pos ⟨h, by rw [hs]; omega⟩]
  have h1 := Lib.splitB_data ⟨#[c]⟩ 0 (Lib.countB s ⟨#[c]⟩) s
  have hc : Lib.countB s ⟨#[c]⟩ = (bl s).count c := Lib.count_one c (bl s)
  have h2 : Lib.splitK ((⟨#[c]⟩ : ByteArray).data.toList) 0 (Lib.countB s ⟨#[c]⟩) s.data.toList = cut c (bl s) := by
    rw [hc]; exact splitK_cut _ _ (Nat.le_refl _)
  rw [h2] at h1
  rw [← h1, List.map_map]
  congr 1
  have : (lb ∘ fun x : ByteArray => x.data.toList) = id := by funext x; exact lb_bl x
  rw [this, List.map_id]
/-- joined by a byte -/
def jn (c : UInt8) : List (List UInt8) → List UInt8
  | [] => []
  | [x] => x
  | x :: y :: r => x ++ c :: jn c (y :: r)
theorem jn_cut (c : UInt8) : ∀ (l : List (List UInt8)), l ≠ [] → (∀ x ∈ l, c ∉ x) → cut c (jn c l) = l
  | [], h, _ => absurd rfl h
  | [x], _, h => cut_none (h x (by simp))
  | x :: y :: r, _, h => by
    rw [jn, cut_at _ _ (h x (by simp)), jn_cut c (y :: r) (by simp) (fun z hz => h z (List.mem_cons_of_mem _ hz))]
theorem join_jn (c : UInt8) : ∀ (l : List (List UInt8)), Lib.join l [c] = jn c l
  | [] => rfl
  | [x] => by rw [Lib.join_one]; rfl
  | x :: y :: r => by
    have := join_jn c (y :: r)
    rw [Lib.join_cons] at this ⊢
    rw [jn, ← this]
    simp [Lib.joinTail]
theorem joinB_jn (l : List ByteArray) (c : UInt8) : joinB l ⟨#[c]⟩ = lb (jn c (l.map bl)) := by
  show lb (Lib.join (l.map bl) [c]) = _
  rw [join_jn]
theorem dd_len (n : Nat) : ∀ k, n < 10 ^ k → (Lib.decDigits n).length ≤ k + 1
  | 0, h => by have : n = 0 := by simpa using h
               subst this; rw [Lib.decDigits_one (by omega)]; simp
  | k+1, h => by
    by_cases e : n < 10
    · rw [Lib.decDigits_one e]; simp
    · rw [dd_big e, List.length_append, List.length_singleton]
      have := dd_len (n / 10) k (by rw [Nat.pow_succ] at h; omega)
      omega
theorem itoa_len {n : Int} (h1 : -9223372036854775808 ≤ n) (h2 : n ≤ 9223372036854775807) : (Lib.itoa n).length ≤ 21 := by
  have e : (10 : Nat) ^ 19 = 10000000000000000000 := by decide
  unfold Lib.itoa
  split
  · have := dd_len n.natAbs 19 (by omega)
    rw [List.length_cons]; omega
  · have := dd_len n.toNat 19 (by omega)
    omega
theorem dig_no {c : UInt8} (hc : ¬ dig c) {l : List UInt8} (h : ∀ x ∈ l, dig x) : c ∉ l := fun hm => hc (h c hm)
theorem cut_sep (c : UInt8) : ∀ (l : List UInt8), ∀ x ∈ cut c l, c ∉ x
  | [], x, h => by simp [cut] at h; subst h; simp
  | b :: r, x, h => by
    rw [cut] at h
    split at h
    · rcases List.mem_cons.mp h with rfl | h
      · simp
      · exact cut_sep c r x h
    · rename_i hb
      split at h
      · rename_i hd t e
        rcases List.mem_cons.mp h with rfl | h
        · have := cut_sep c r hd (by rw [e]; simp)
          simp [Ne.symm hb, this]
        · exact cut_sep c r x (by rw [e]; simp [h])
      · rename_i e
        exact absurd e (cut_ne c r)
theorem cut_len (c : UInt8) : ∀ (l : List UInt8), ∀ x ∈ cut c l, x.length ≤ l.length
  | [], x, h => by simp [cut] at h; subst h; simp
  | b :: r, x, h => by
    rw [cut] at h
    split at h
    · rcases List.mem_cons.mp h with rfl | h
      · simp
      · have := cut_len c r x h; simp; omega
    · split at h
      · rename_i hd t e
        rcases List.mem_cons.mp h with rfl | h
        · have := cut_len c r hd (by rw [e]; simp); simpa using this
        · have := cut_len c r x (by rw [e]; simp [h]); simp; omega
      · rename_i e
        exact absurd e (cut_ne c r)
theorem cut_count (c : UInt8) : ∀ (l : List UInt8), (cut c l).length ≤ l.length + 1
  | [] => by simp [cut]
  | b :: r => by
    have := cut_count c r
    rw [cut]
    split
    · simp; omega
    · split
      · rename_i hd t e
        rw [e] at this
        simp at this ⊢; omega
      · simp
end Go.Proofs.YthldpejmofhaoaaGreatDoor

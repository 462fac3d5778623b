/- Strings: what the program's own functions on strings compute: decimals, cuts, numbers. -/
import Derived.Test.YtefijdjbhjdhdaaGreatDoorF05
import Derived.Test.YtefijdjbhjdhdaaGreatDoorF06
import Derived.Test.YtefijdjbhjdhdaaGreatDoorStrA
set_option linter.unusedVariables false
set_option linter.unusedSimpArgs false
namespace Go.Proofs.YtefijdjbhjdhdaaGreatDoor
open Go.Abs

theorem wU {a : Int} (h1 : 0 ≤ a) (h2 : a ≤ 255) : IntKind.u8.wrap a = a := by
  rw [IntKind.wrap_u8]; omega
def One' (c : UInt8) : ByteArray := ⟨#[c]⟩
theorem ba_one (c : UInt8) : (⟨#[c]⟩ : ByteArray) = lb [c] := rfl
theorem ba_nil : (⟨#[]⟩ : ByteArray) = lb [] := rfl
theorem p56 {a : Int} (h1 : -100 ≤ a) (h2 : a ≤ 100) : r63 a = some (if a < 0 then -a else a) := by
  rw [r63, wI (by omega) (by omega)]
  by_cases h : a < 0
  · rw [if_pos (by omega), if_pos h]; congr 1; omega
  · by_cases e : a = 0
    · subst e; rfl
    · rw [if_neg (by omega), if_neg h]
/-- decimals, digit by digit -/
def DecI (N : Nat) (m : Nat) (t : ByteArray) : Prop := (bl t).length + (if m = 0 then 0 else (Lib.decDigits m).length) ≤ 20 ∧ (if m = 0 then Lib.decDigits N = bl t else Lib.decDigits N = Lib.decDigits m ++ bl t)
theorem dec_step {N m : Nat} {t : ByteArray} (hm : 0 < m) (h : DecI N m t) : DecI N (m / 10) (lb [UInt8.ofNat (48 + m % 10)] ++ t) ∧ (if m / 10 = 0 then 0 else (Lib.decDigits (m / 10)).length) < (Lib.decDigits m).length := by
  obtain ⟨h1, h2⟩ := h
  rw [if_neg (by omega)] at h1 h2
  by_cases e : m < 10
  · have e0 : m / 10 = 0 := by omega
    rw [e0, show m % 10 = m by omega]
    rw [Lib.decDigits_one e] at h1 h2 ⊢
    refine ⟨⟨?_, ?_⟩, by simp⟩
    · rw [if_pos rfl, bl_app, bl_lb, List.length_append]
      rw [Nat.add_comm] at h1; simpa using h1
    · rw [if_pos rfl, h2, bl_app, bl_lb]
  · have hd := dd_big e
    have e0 : m / 10 ≠ 0 := by omega
    rw [if_neg e0]
    rw [hd] at h1 h2 ⊢
    rw [List.length_append, List.length_singleton] at h1 ⊢
    refine ⟨⟨?_, ?_⟩, by omega⟩
    · rw [if_neg e0, bl_app, bl_lb, List.length_append, List.length_singleton]; omega
    · rw [if_neg e0, h2, bl_app, bl_lb, List.append_assoc]
theorem p29 {n : Int} (h1 : -9223372036854775808 ≤ n) (h2 : n ≤ 9223372036854775807) : r35 n = some (itoaB n) := by
  have hN : (Lib.decDigits n.natAbs).length ≤ 20 := by
    have e : (10 : Nat) ^ 19 = 10000000000000000000 := by decide
    have := dd_len n.natAbs 19 (by omega)
    omega
  unfold r35
  by_cases e0 : n = 0
  · subst e0
    rw [if_pos (by decide)]
    show some (lb [48]) = some (lb (Lib.itoa 0))
    have : Lib.itoa 0 = [48] := by
      rw [show (0 : Int) = ((0 : Nat) : Int) from rfl, itoa_pos, Lib.decDigits_one (by decide)]; rfl
    rw [this]
  · rw [if_neg (by simpa using e0)]
    have init : DecI n.natAbs n.natAbs (lb []) := by
      refine ⟨?_, ?_⟩
      · rw [if_neg (by omega)]; simpa [bl_lb] using hN
      · rw [if_neg (by omega), bl_lb, List.append_nil]
    by_cases hneg : n < 0
    · rw [if_pos (by simpa using hneg)]
      refine iter_meas b35_1 (fun s => s.1 ≤ 0 ∧ -9223372036854775808 ≤ s.1 ∧ DecI n.natAbs s.1.natAbs s.2) (fun s => if s.1.natAbs = 0 then 0 else (Lib.decDigits s.1.natAbs).length) (fun o => o = some (itoaB n)) (fun s hs => ?_) 1000000000 _ ⟨by omega, h1, init⟩ (by show (if n.natAbs = 0 then 0 else (Lib.decDigits n.natAbs).length) < 1000000000; split <;> omega)
      obtain ⟨m, t⟩ := s
      obtain ⟨m1, m2, hd⟩ := hs
      simp only at m1 m2 hd
      unfold b35_1
      simp only
      by_cases em : m = 0
      · right
        subst em
        refine ⟨_, if_neg (by decide), ?_⟩
        have hd2 := hd.2
        have hd1 := hd.1
        rw [show (0 : Int).natAbs = 0 from rfl, if_pos rfl] at hd1 hd2
        rw [if_pos (by rw [size_bl t]; simp; omega), ba_one, ← lb_bl t, lb_app, itoaB, Lib.itoa, if_pos hneg, hd2]; rfl
      · left
        have hs := dec_step (by omega) hd
        have hd1 := hd.1
        rw [if_neg (by omega)] at hd1
        have et : m.tmod 10 = -((m.natAbs % 10 : Nat) : Int) := by
          obtain ⟨k, rfl⟩ : ∃ k : Nat, m = -(k : Int) := ⟨m.natAbs, by omega⟩
          rw [Int.neg_tmod, Int.tmod_eq_emod_of_nonneg (by omega)]; omega
        have ed : m.tdiv 10 = -((m.natAbs / 10 : Nat) : Int) := by
          obtain ⟨k, rfl⟩ : ∃ k : Nat, m = -(k : Int) := ⟨m.natAbs, by omega⟩
          rw [Int.neg_tdiv, Int.tdiv_eq_ediv_of_nonneg (by omega)]; omega
        have hr : r63 (m.tmod 10) = some ((m.natAbs % 10 : Nat) : Int) := by
          rw [et, p56 (by omega) (by omega)]
          by_cases z : m.natAbs % 10 = 0
          · rw [z]; rfl
          · rw [if_pos (by omega)]; congr 1; omega
        rw [if_pos (by simpa using em), hr]
        simp only [bindC]
        rw [wI (a := 48 + ((m.natAbs % 10 : Nat) : Int)) (by omega) (by omega), wU (by omega) (by omega), show (48 + ((m.natAbs % 10 : Nat) : Int)).toNat = 48 + m.natAbs % 10 by omega, if_pos (by rw [size_bl t]; simp; omega), wI (by rw [ed]; omega) (by rw [ed]; omega), ed]
        refine ⟨_, rfl, ⟨by show -((m.natAbs / 10 : Nat) : Int) ≤ 0; omega, by show -9223372036854775808 ≤ -((m.natAbs / 10 : Nat) : Int); omega, ?_⟩, ?_⟩
        · show DecI _ (-((m.natAbs / 10 : Nat) : Int)).natAbs _
          rw [show (-((m.natAbs / 10 : Nat) : Int)).natAbs = m.natAbs / 10 by omega]
          exact hs.1
        · show (if (-((m.natAbs / 10 : Nat) : Int)).natAbs = 0 then 0 else (Lib.decDigits (-((m.natAbs / 10 : Nat) : Int)).natAbs).length) < (if m.natAbs = 0 then 0 else (Lib.decDigits m.natAbs).length)
          rw [show (-((m.natAbs / 10 : Nat) : Int)).natAbs = m.natAbs / 10 by omega, if_neg (by omega : ¬ m.natAbs = 0)]
          exact hs.2
    · rw [if_neg (by simpa using hneg)]
      refine iter_meas b35_2 (fun s => 0 ≤ s.1 ∧ s.1 ≤ 9223372036854775807 ∧ DecI n.natAbs s.1.natAbs s.2) (fun s => if s.1.natAbs = 0 then 0 else (Lib.decDigits s.1.natAbs).length) (fun o => o = some (itoaB n)) (fun s hs => ?_) 1000000000 _ ⟨by omega, h2, init⟩ (by show (if n.natAbs = 0 then 0 else (Lib.decDigits n.natAbs).length) < 1000000000; split <;> omega)
      obtain ⟨m, t⟩ := s
      obtain ⟨m1, m2, hd⟩ := hs
      simp only at m1 m2 hd
      unfold b35_2
      simp only
      by_cases em : m = 0
      · right
        subst em
        refine ⟨_, if_neg (by decide), ?_⟩
        have hd2 := hd.2
        have hd1 := hd.1
        rw [show (0 : Int).natAbs = 0 from rfl, if_pos rfl] at hd1 hd2
        rw [if_pos (by rw [size_bl t]; simp; omega), ba_nil, ← lb_bl t, lb_app, itoaB, Lib.itoa, if_neg hneg, show n.toNat = n.natAbs by omega, hd2]; rfl
      · left
        have hs := dec_step (by omega) hd
        have hd1 := hd.1
        rw [if_neg (by omega)] at hd1
        have et : m.tmod 10 = ((m.natAbs % 10 : Nat) : Int) := by
          rw [Int.tmod_eq_emod_of_nonneg (by omega)]; omega
        have ed : m.tdiv 10 = ((m.natAbs / 10 : Nat) : Int) := by
          rw [Int.tdiv_eq_ediv_of_nonneg (by omega)]; omega
        have hr : r63 (m.tmod 10) = some ((m.natAbs % 10 : Nat) : Int) := by
          rw [et, p56 (by omega) (by omega), if_neg (by omega)]
        rw [if_pos (by simpa using em), hr]
        simp only [bindC]
        rw [wI (a := 48 + ((m.natAbs % 10 : Nat) : Int)) (by omega) (by omega), wU (by omega) (by omega), show (48 + ((m.natAbs % 10 : Nat) : Int)).toNat = 48 + m.natAbs % 10 by omega, if_pos (by rw [size_bl t]; simp; omega), wI (by rw [ed]; omega) (by rw [ed]; omega), ed]
        refine ⟨_, rfl, ⟨by show 0 ≤ ((m.natAbs / 10 : Nat) : Int); omega, by show ((m.natAbs / 10 : Nat) : Int) ≤ _; omega, ?_⟩, ?_⟩
        · show DecI _ (((m.natAbs / 10 : Nat) : Int)).natAbs _
          rw [show (((m.natAbs / 10 : Nat) : Int)).natAbs = m.natAbs / 10 by omega]
          exact hs.1
        · show (if (((m.natAbs / 10 : Nat) : Int)).natAbs = 0 then 0 else (Lib.decDigits (((m.natAbs / 10 : Nat) : Int)).natAbs).length) < (if m.natAbs = 0 then 0 else (Lib.decDigits m.natAbs).length)
          rw [show (((m.natAbs / 10 : Nat) : Int)).natAbs = m.natAbs / 10 by omega, if_neg (by omega : ¬ m.natAbs = 0)]
          exact hs.2
theorem getD_drop (l : List UInt8) {i : Nat} (h : i < l.length) : l.drop i = l.getD i 0 :: l.drop (i+1) := by
  rw [List.drop_eq_getElem_cons h]; simp [List.getD_eq_getElem?_getD, h]
/-- cut at a byte -/
theorem p27 (l : List UInt8) (c : UInt8) (hl : l.length ≤ 100000000) : r32 (lb l) (c.toNat : Int) = some ((cut c l).map lb) := by
  unfold r32
  refine iter_meas (b32_1 (lb l) (c.toNat : Int)) (fun s => ∃ (i f : Nat) (w : List (List UInt8)), s = (w.map lb, (f : Int), (i : Int)) ∧ i ≤ l.length ∧ f ≤ i ∧ w.length ≤ i ∧ c ∉ (l.drop f).take (i - f) ∧ w ++ cut c (l.drop f) = cut c l) (fun s => l.length - s.2.2.toNat) (fun o => o = some ((cut c l).map lb)) (fun s hs => ?_) 1000000000 _ ⟨0, 0, [], rfl, by omega, by omega, by simp, by simp, by simp⟩ (by simp; omega)
  obtain ⟨i, f, w, rfl, h1, h2, h3, h4, h5⟩ := hs
  unfold b32_1
  simp only
  rw [size_lb]
  by_cases g : i < l.length
  · left
    rw [if_pos (by simpa using g), if_pos (by omega), Int.toNat_natCast, Int.toNat_natCast, byteAt_lb, wI (a := (i : Int) + 1) (by omega) (by omega)]
    have hd : (l.drop f).drop (i - f) = l.getD i 0 :: l.drop (i+1) := by
      rw [List.drop_drop, show f + (i - f) = i by omega, getD_drop l g]
    have hsplit : l.drop f = (l.drop f).take (i - f) ++ l.getD i 0 :: l.drop (i+1) := by
      rw [← hd, List.take_append_drop]
    by_cases e : l.getD i 0 = c
    · rw [if_pos (by rw [e]; simp), if_pos (by omega), if_pos (by rw [List.length_map]; omega), lb_extract]
      refine ⟨_, rfl, ⟨i+1, i+1, w ++ [(l.drop f).take (i - f)], ?_, g, Nat.le_refl _, by simpa using h3, by simp, ?_⟩, by show l.length - ((i:Int)+1).toNat < l.length - (i:Int).toNat; omega⟩
      · simp
      · rw [e] at hsplit
        rw [← h5]
        conv => rhs; rw [hsplit, cut_at _ _ h4]
        simp
    · have hne : ¬ (((l.getD i 0).toNat : Int) == (c.toNat : Int)) = true := by
        simp only [beq_iff_eq]
        intro h
        exact e (UInt8.toNat_inj.1 (by omega))
      rw [if_neg hne]
      refine ⟨_, rfl, ⟨i+1, f, w, by simp, g, by omega, by omega, ?_, h5⟩, by show l.length - ((i:Int)+1).toNat < l.length - (i:Int).toNat; omega⟩
      rw [show i + 1 - f = (i - f) + 1 by omega, List.take_add_one]
      have : (l.drop f)[i - f]? = some (l.getD i 0) := by
        rw [List.getElem?_drop, show f + (i - f) = i by omega]
        simp [List.getD_eq_getElem?_getD, g]
      rw [this]
      intro hm
      rcases List.mem_append.mp hm with hm | hm
      · exact h4 hm
      · simp at hm; exact e hm.symm
  · right
    obtain rfl : i = l.length := by omega
    refine ⟨_, if_neg (by simp), ?_⟩
    rw [if_pos (by omega), if_pos (by rw [List.length_map]; omega), Int.toNat_natCast, lb_extract, ← h5]
    have : (l.drop f).take (l.length - f) = l.drop f := List.take_of_length_le (by rw [List.length_drop]; omega)
    rw [this] at h4 ⊢
    rw [cut_none h4]
    simp
/-- a number of at most k digits -/
theorem take_succ_getD (l : List UInt8) {i : Nat} (h : i < l.length) : l.take (i+1) = l.take i ++ [l.getD i 0] := by
  rw [List.take_add_one]; simp [List.getD_eq_getElem?_getD, h]
theorem getD_mem0 (l : List UInt8) {i : Nat} (h : i < l.length) : l.getD i 0 ∈ l := by
  rw [List.getD_eq_getElem?_getD, List.getElem?_eq_getElem h]; exact List.getElem_mem h
theorem headD_getD (l : List UInt8) : l.headD 0 = l.getD 0 0 := by cases l <;> rfl
/-- a number with a sign, of at most k digits -/
def numV (k : Nat) (l : List UInt8) : Int × Bool :=
  if l.headD 0 = 45 then (if (l.tail ≠ [] ∧ l.tail.length ≤ k ∧ l.tail.headD 0 ≠ 48) ∧ (∀ c ∈ l.tail, dig c) then (-(valF 0 l.tail : Int), true) else (0, false))
  else if Canon l ∧ l.length ≤ k then ((valF 0 l : Int), true) else (0, false)
theorem num_iter (b : Int × Int → Ctl (Int × Int) (Int × Bool)) (l : List UInt8) (a : Nat) (fin : Int → Int) (ha : a ≤ l.length) (h18 : l.length - a ≤ 18)
    (hb : ∀ n i : Nat, n < 1000000000000000000 → i ≤ l.length → (i < l.length → 10 * n + 10 ≤ 1000000000000000000) → b ((n : Int), (i : Int)) = if i < l.length then (if dig (l.getD i 0) then .next (((stepV n (l.getD i 0) : Nat) : Int), ((i + 1 : Nat) : Int)) else .out (some (0, false))) else .out (some (fin n, true))) :
    iterC b 1000000000 (0, (a : Int)) = some (if ∀ c ∈ l.drop a, dig c then (fin (valF 0 (l.drop a)), true) else (0, false)) := by
  refine iter_meas b (fun s => ∃ i : Nat, s = (((valF 0 ((l.drop a).take (i - a)) : Nat) : Int), (i : Int)) ∧ a ≤ i ∧ i ≤ l.length ∧ ∀ c ∈ (l.drop a).take (i - a), dig c) (fun s => l.length - s.2.toNat) (fun o => o = some (if ∀ c ∈ l.drop a, dig c then (fin (valF 0 (l.drop a)), true) else (0, false))) (fun s hs => ?_) 1000000000 _ ⟨a, by simp [valF], Nat.le_refl _, ha, by simp⟩ (by show l.length - (a : Int).toNat < 1000000000; omega)
  obtain ⟨i, rfl, h1, h2, h3⟩ := hs
  have hv := valF_lt _ 0 h3
  have hlen : ((l.drop a).take (i - a)).length = i - a := by rw [List.length_take, List.length_drop]; omega
  rw [hlen] at hv
  have hp : (10 : Nat) ^ (i - a) ≤ 10 ^ 18 := Nat.pow_le_pow_right (by decide) (by omega)
  have e18 : (10 : Nat) ^ 18 = 1000000000000000000 := by decide
  have hp' : i < l.length → (10 : Nat) ^ (i - a) * 10 ≤ 10 ^ 18 := fun hi => by
    rw [← Nat.pow_succ]; exact Nat.pow_le_pow_right (by decide) (by omega)
  rw [hb _ i (by omega) h2 (fun hi => by have := hp' hi; omega)]
  by_cases g : i < l.length
  · rw [if_pos g]
    have ht : (l.drop a).take (i + 1 - a) = (l.drop a).take (i - a) ++ [l.getD i 0] := by
      rw [show i + 1 - a = (i - a) + 1 by omega, List.take_add_one, List.getElem?_drop, show a + (i - a) = i by omega]
      simp [List.getD_eq_getElem?_getD, g]
    by_cases d : dig (l.getD i 0)
    · left
      rw [if_pos d]
      refine ⟨_, rfl, ⟨i + 1, ?_, by omega, g, ?_⟩, by show l.length - ((i + 1 : Nat) : Int).toNat < l.length - (i : Int).toNat; omega⟩
      · rw [ht, valF_snoc]; rfl
      · rw [ht]; intro c hc
        rcases List.mem_append.mp hc with hc | hc
        · exact h3 c hc
        · rw [List.mem_singleton] at hc; rw [hc]; exact d
    · right
      rw [if_neg d]
      refine ⟨_, rfl, ?_⟩
      rw [if_neg]
      intro hall
      refine d (hall _ ?_)
      refine List.mem_of_mem_take (i := i + 1 - a) ?_
      rw [ht]; simp
  · right
    obtain rfl : i = l.length := by omega
    rw [if_neg g]
    refine ⟨_, rfl, ?_⟩
    have : (l.drop a).take (l.length - a) = l.drop a := List.take_of_length_le (by rw [List.length_drop]; omega)
    rw [this] at h3 ⊢
    rw [if_pos h3]
theorem dig_iff (c : UInt8) : ((decide ((c.toNat : Int) < 48)) || (decide ((c.toNat : Int) > 57))) = !decide (dig c) := by
  by_cases d : dig c
  · have d' : 48 ≤ c.toNat ∧ c.toNat ≤ 57 := d
    rw [decide_eq_true d, decide_eq_false (by omega), decide_eq_false (by omega)]; rfl
  · have d' : ¬ (48 ≤ c.toNat ∧ c.toNat ≤ 57) := d
    rw [decide_eq_false d]
    show _ = true
    rw [Bool.or_eq_true, decide_eq_true_eq, decide_eq_true_eq]; omega
theorem num_b1 (l : List UInt8) (h : l.length ≤ 60000) (n i : Nat) (hn : n < 1000000000000000000) (hi : i ≤ l.length) (h10 : i < l.length → 10 * n + 10 ≤ 1000000000000000000) : b62_1 (lb l) ((n : Int), (i : Int)) = if i < l.length then (if dig (l.getD i 0) then .next (((stepV n (l.getD i 0) : Nat) : Int), ((i + 1 : Nat) : Int)) else .out (some (0, false))) else .out (some (IntKind.i64.wrap (0 - (n : Int)), true)) := by
  unfold b62_1
  simp only [byteAt_lb, Int.toNat_natCast]
  by_cases g : i < l.length
  · rw [if_pos (by rw [size_lb]; simpa using g), if_pos (by rw [size_lb]; omega), if_pos (by intro _; rw [size_lb]; omega), dig_iff, if_pos g]
    by_cases d : dig (l.getD i 0)
    · rw [if_neg (by simp only [d, decide_true, decide_false, Bool.not_true, Bool.not_false]; try decide), if_pos (by rw [size_lb]; omega), if_pos d]
      have hd : 48 ≤ (l.getD i 0).toNat ∧ (l.getD i 0).toNat ≤ 57 := d
      have := h10 g
      rw [wU (by omega) (by omega), wI (a := ((l.getD i 0).toNat : Int) - 48) (by omega) (by omega), wI (a := 10 * (n : Int)) (by omega) (by omega), wI (a := 10 * (n : Int) + _) (by omega) (by omega), wI (a := (i : Int) + 1) (by omega) (by omega)]
      unfold stepV
      congr 2
      omega
    · rw [if_pos (by simp only [d, decide_true, decide_false, Bool.not_true, Bool.not_false]; try decide), if_neg d]
  · rw [if_neg (by rw [size_lb]; simpa using g), if_neg g]
theorem num_b2 (l : List UInt8) (h : l.length ≤ 60000) (n i : Nat) (hn : n < 1000000000000000000) (hi : i ≤ l.length) (h10 : i < l.length → 10 * n + 10 ≤ 1000000000000000000) : b62_2 (lb l) ((n : Int), (i : Int)) = if i < l.length then (if dig (l.getD i 0) then .next (((stepV n (l.getD i 0) : Nat) : Int), ((i + 1 : Nat) : Int)) else .out (some (0, false))) else .out (some ((n : Int), true)) := by
  unfold b62_2
  simp only [byteAt_lb, Int.toNat_natCast]
  by_cases g : i < l.length
  · rw [if_pos (by rw [size_lb]; simpa using g), if_pos (by rw [size_lb]; omega), if_pos (by intro _; rw [size_lb]; omega), dig_iff, if_pos g]
    by_cases d : dig (l.getD i 0)
    · rw [if_neg (by simp only [d, decide_true, decide_false, Bool.not_true, Bool.not_false]; try decide), if_pos (by rw [size_lb]; omega), if_pos d]
      have hd : 48 ≤ (l.getD i 0).toNat ∧ (l.getD i 0).toNat ≤ 57 := d
      have := h10 g
      rw [wU (by omega) (by omega), wI (a := ((l.getD i 0).toNat : Int) - 48) (by omega) (by omega), wI (a := 10 * (n : Int)) (by omega) (by omega), wI (a := 10 * (n : Int) + _) (by omega) (by omega), wI (a := (i : Int) + 1) (by omega) (by omega)]
      unfold stepV
      congr 2
      omega
    · rw [if_pos (by simp only [d, decide_true, decide_false, Bool.not_true, Bool.not_false]; try decide), if_neg d]
  · rw [if_neg (by rw [size_lb]; simpa using g), if_neg g]
theorem p55 (l : List UInt8) (k : Nat) (hk : k ≤ 18) (hl : l.length ≤ 60000) : r62 (lb l) (k : Int) = some (numV k l) := by
  unfold r62
  simp only [byteAt_lb]
  rw [show ((lb l).size : Int) = (l.length : Int) from rfl, numV]
  by_cases e : l = []
  · subst e
    rw [if_pos (by intro h; simp at h), if_neg (by simp), if_pos (by intro h; simp at h), if_pos (by simp), if_neg (by simp), if_neg (fun h => h.1.1 rfl)]
  · have hpos : 0 < l.length := List.length_pos_iff.mpr e
    have h0 : l.getD 0 0 = l.headD 0 := (headD_getD l).symm
    rw [if_pos (by intro _; omega), h0]
    by_cases h45 : l.headD 0 = 45
    · rw [if_pos (by rw [h45]; simpa using hpos), if_pos h45, wI (by omega) (by omega)]
      have hlt : l.tail.length = l.length - 1 := List.length_tail
      have h1 : l.getD 1 0 = l.tail.headD 0 := by cases l with
        | nil => exact absurd rfl e
        | cons a l => cases l <;> rfl
      rw [h1]
      by_cases c : l.length = 1 ∨ l.length - 1 > k
      · rw [if_pos (by intro h; simp at h; omega), if_pos (by simp; omega), if_neg]
        rintro ⟨⟨h2, h3, _⟩, _⟩
        have := List.length_pos_iff.mpr h2
        omega
      · rw [if_pos (by intro _; omega)]
        by_cases z : l.tail.headD 0 = 48
        · rw [if_pos (by rw [z]; simp; omega), if_neg (fun h => h.1.2.2 z)]
        · have zn : ((l.tail.headD 0).toNat : Int) ≠ 48 := fun hx => z (UInt8.toNat_inj.1 (by show (l.tail.headD 0).toNat = 48; omega))
          rw [if_neg (by simp only [Bool.or_eq_true, Bool.and_eq_true, decide_eq_true_eq, beq_iff_eq]; omega)]
          have := num_iter (b62_1 (lb l)) l 1 (fun n => IntKind.i64.wrap (0 - n)) (by omega) (by omega) (num_b1 l hl)
          rw [show (1 : Int) = ((1 : Nat) : Int) from rfl, this, List.drop_one]
          have hne : l.tail ≠ [] := fun hx => by rw [hx] at hlt; simp at hlt; omega
          by_cases d : ∀ c ∈ l.tail, dig c
          · rw [if_pos d, if_pos ⟨⟨hne, by omega, z⟩, d⟩]
            have hv := valF_lt _ 0 d
            have hp : (10 : Nat) ^ l.tail.length ≤ 10 ^ 18 := Nat.pow_le_pow_right (by decide) (by omega)
            have e18 : (10 : Nat) ^ 18 = 1000000000000000000 := by decide
            rw [wI (by omega) (by omega)]
            simp
          · rw [if_neg d, if_neg (fun h => d h.2)]
    · rw [if_neg (by simp only [Bool.and_eq_true, decide_eq_true_eq, beq_iff_eq]; intro h; exact h45 (UInt8.toNat_inj.1 (by show (l.headD 0).toNat = 45; omega))), if_neg h45, wI (by omega) (by omega)]
      by_cases c : l.length > k
      · rw [if_pos (by intro h; simp at h; omega), if_pos (by simp; omega), if_neg (fun h => by omega)]
      · rw [if_pos (by intro _; omega)]
        by_cases z : l.headD 0 = 48 ∧ l.length > 1
        · rw [if_pos (by rw [z.1]; simp only [Bool.or_eq_true, Bool.and_eq_true, decide_eq_true_eq, beq_iff_eq]; exact .inr ⟨rfl, by omega⟩), if_neg (fun h => by have := h.1.2.2 z.1; omega)]
        · rw [if_neg]
          · have := num_iter (b62_2 (lb l)) l 0 (fun n => n) (by omega) (by omega) (num_b2 l hl)
            rw [show ((0, 0) : Int × Int) = (0, ((0 : Nat) : Int)) from rfl, this, List.drop_zero]
            by_cases d : ∀ c ∈ l, dig c
            · rw [if_pos d, if_pos ⟨⟨e, d, fun h => Classical.byContradiction fun hx => z ⟨h, by omega⟩⟩, by omega⟩]
            · rw [if_neg d, if_neg (fun h => d h.1.2.1)]
          · simp only [Bool.or_eq_true, Bool.and_eq_true, decide_eq_true_eq, beq_iff_eq]
            rintro ((h | h) | ⟨h, h'⟩)
            · omega
            · omega
            · exact z ⟨UInt8.toNat_inj.1 (by show (l.headD 0).toNat = 48; omega), by omega⟩
end Go.Proofs.YtefijdjbhjdhdaaGreatDoor

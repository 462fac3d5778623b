/- Strings: what the program's own functions on strings compute: decimals, cuts, numbers. -/
import Derived.Test.YthldpejmofhaoaaGreatDoorStrA
set_option linter.unusedVariables false
set_option linter.unusedSimpArgs false
namespace Go.Proofs.YthldpejmofhaoaaGreatDoor
open Go.Abs

theorem wU {a : Int} (h1 : 0 ≤ a) (h2 : a ≤ 255) : IntKind.u8.wrap a = a := by
  rw [IntKind.wrap_u8]; omega
def One' (c : UInt8) : ByteArray := ⟨#[c]⟩
theorem ba_one (c : UInt8) : (⟨#[c]⟩ : ByteArray) = lb [c] := rfl
theorem ba_nil : (⟨#[]⟩ : ByteArray) = lb [] := rfl
/-- decimals, digit by digit -/
def DecI (N : Nat) (m : Nat) (t : ByteArray) : Prop := (bl t).length + (if m = 0 then 0 else (Lib.decDigits m).length) ≤ 20 ∧ (if m = 0 then Lib.decDigits N = bl t else Lib.decDigits N = Lib.decDigits m ++ bl t)
theorem dec_step {N m : Nat} {t : ByteArray} (hm : 0 < m) (h : DecI N m t) : DecI N (m / 10) (lb [UInt8.ofNat (48 + m % 10)] ++ t) ∧ (if m / 10 = 0 then 0 else (Lib.decDigits (m / 10)).length) < (Lib.decDigits m).length := by
  obtain ⟨h1, h2⟩ := h
  rw [if_neg (by omega)] at h1 h2
  by_cases e : m < 10
  · have e0 : m / 10 = 0 := by omega
    rw [e0, show m % 10 = m by omega]
    rw [Lib.decDigits_one e] at h1 h2 ⊢
    refine ⟨⟨?_, ?_⟩, by simp⟩
    · rw [if_pos rfl, bl_app, bl_lb, List.length_append]
      rw [Nat.add_comm] at h1; simpa using h1
    · rw [if_pos rfl, h2, bl_app, bl_lb]
  · have hd := dd_big e
    have e0 : m / 10 ≠ 0 := by omega
    rw [if_neg e0]
    rw [hd] at h1 h2 ⊢
    rw [List.length_append, List.length_singleton] at h1 ⊢
    refine ⟨⟨?_, ?_⟩, by omega⟩
    · rw [if_neg e0, bl_app, bl_lb, List.length_append, List.length_singleton]; omega
    · rw [if_neg e0, h2, bl_app, bl_lb, List.append_assoc]
theorem getD_drop (l : List UInt8) {i : Nat} (h : i < l.length) : l.drop i = l.getD i 0 :: l.drop (i+1) := by
  rw [List.drop_eq_getElem_cons h]; simp [List.getD_eq_getElem?_getD, h]
/-- a number of at most k digits -/
theorem take_succ_getD (l : List UInt8) {i : Nat} (h : i < l.length) : l.take (i+1) = l.take i ++ [l.getD i 0] := by
  rw [List.take_add_one]; simp [List.getD_eq_getElem?_getD, h]
theorem getD_mem0 (l : List UInt8) {i : Nat} (h : i < l.length) : l.getD i 0 ∈ l := by
  rw [List.getD_eq_getElem?_getD, List.getElem?_eq_getElem h]; exact List.getElem_mem h
theorem headD_getD (l : List UInt8) : l.headD 0 = l.getD 0 0 := by cases l <;> rfl
/-- a number with a sign, of at most k digits -/
def numV (k : Nat) (l : List UInt8) : Int × Bool :=
  if l.headD 0 = 45 then (if (l.tail ≠ [] ∧ l.tail.length ≤ k ∧ l.tail.headD 0 ≠ 48) ∧ (∀ c ∈ l.tail, dig c) then (-(valF 0 l.tail : Int), true) else (0, false))
  else if Canon l ∧ l.length ≤ k then ((valF 0 l : Int), true) else (0, false)
theorem num_iter (b : Int × Int → Ctl (Int × Int) (Int × Bool)) (l : List UInt8) (a : Nat) (fin : Int → Int) (ha : a ≤ l.length) (h18 : l.length - a ≤ 18)
    (hb : ∀ n i : Nat, n < 1000000000000000000 → i ≤ l.length → (i < l.length → 10 * n + 10 ≤ 1000000000000000000) → b ((n : Int), (i : Int)) = if i < l.length then (if dig (l.getD i 0) then .next (((stepVs n (l.getD i 0) : Nat) : Int), ((i + 1 : Nat) : Int)) else .out (some (0, false))) else .out (some (fin n, true))) :
    iterC b 1000000000 (0, (a : Int)) = some (if ∀ c ∈ l.drop a, dig c then (fin (valF 0 (l.drop a)), true) else (0, false)) := by
  refine iter_meas b (fun s => ∃ i : Nat, s = (((valF 0 ((l.drop a).take (i - a)) : Nat) : Int), (i : Int)) ∧ a ≤ i ∧ i ≤ l.length ∧ ∀ c ∈ (l.drop a).take (i - a), dig c) (fun s => l.length - s.2.toNat) (fun o => o = some (if ∀ c ∈ l.drop a, dig c then (fin (valF 0 (l.drop a)), true) else (0, false))) (fun s hs => ?_) 1000000000 _ ⟨a, by simp [valF], Nat.le_refl _, ha, by simp⟩ (by show l.length - (a : Int).toNat < 1000000000; omega)
  obtain ⟨i, rfl, h1, h2, h3⟩ := hs
  have hv := valF_lt _ 0 h3
  have hlen : ((l.drop a).take (i - a)).length = i - a := by rw [List.length_take, List.length_drop]; omega
  rw [hlen] at hv
  have hp : (10 : Nat) ^ (i - a) ≤ 10 ^ 18 := Nat.pow_le_pow_right (by decide) (by omega)
  have e18 : (10 : Nat) ^ 18 = 1000000000000000000 := by decide
  have hp' : i < l.length → (10 : Nat) ^ (i - a) * 10 ≤ 10 ^ 18 := fun hi => by
    rw [← Nat.pow_succ]; exact Nat.pow_le_pow_right (by decide) (by omega)
  rw [hb _ i (by omega) h2 (fun hi => by have := hp' hi; omega)]
  by_cases g : i < l.length
  · rw [if_pos g]
    have ht : (l.drop a).take (i + 1 - a) = (l.drop a).take (i - a) ++ [l.getD i 0] := by
      rw [show i + 1 - a = (i - a) + 1 by omega, List.take_add_one, List.getElem?_drop, show a + (i - a) = i by omega]
      simp [List.getD_eq_getElem?_getD, g]
    by_cases d : dig (l.getD i 0)
    · left
      rw [if_pos d]
      refine ⟨_, rfl, ⟨i + 1, ?_, by omega, g, ?_⟩, by show l.length - ((i + 1 : Nat) : Int).toNat < l.length - (i : Int).toNat; omega⟩
      · rw [ht, valF_snoc]; rfl
      · rw [ht]; intro c hc
        rcases List.mem_append.mp hc with hc | hc
        · exact h3 c hc
        · rw [List.mem_singleton] at hc; rw [hc]; exact d
    · right
      rw [if_neg d]
      refine ⟨_, rfl, ?_⟩
      rw [if_neg]
      intro hall
      refine d (hall _ ?_)
      refine List.mem_of_mem_take (i := i + 1 - a) ?_
      rw [ht]; simp
  · right
    obtain rfl : i = l.length := by omega
    rw [if_neg g]
    refine ⟨_, rfl, ?_⟩
    have : (l.drop a).take (l.length - a) = l.drop a := List.take_of_length_le (by rw [List.length_drop]; omega)
    rw [this] at h3 ⊢
    rw [if_pos h3]
theorem dig_iff (c : UInt8) : ((decide ((c.toNat : Int) < 48)) || (decide ((c.toNat : Int) > 57))) = !decide (dig c) := by
  by_cases d : dig c
  · have d' : 48 ≤ c.toNat ∧ c.toNat ≤ 57 := d
    rw [decide_eq_true d, decide_eq_false (by omega), decide_eq_false (by omega)]; rfl
  · have d' : ¬ (48 ≤ c.toNat ∧ c.toNat ≤ 57) := d
    rw [decide_eq_false d]
    show _ = true
    rw [Bool.or_eq_true, decide_eq_true_eq, decide_eq_true_eq]; omega
end Go.Proofs.YthldpejmofhaoaaGreatDoor

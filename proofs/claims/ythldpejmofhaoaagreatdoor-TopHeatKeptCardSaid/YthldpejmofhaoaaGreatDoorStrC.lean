/- Strings: words of numbers, by the program and by the reference. -/
import Derived.Test.YthldpejmofhaoaaGreatDoorF05
import Derived.Test.YthldpejmofhaoaaGreatDoorStrB
set_option linter.unusedVariables false
set_option linter.unusedSimpArgs false
namespace Go.Proofs.YthldpejmofhaoaaGreatDoor
open Go.Abs

/-- a word that is a number of at most k digits -/
def Wd (k : Nat) (w : List UInt8) : Prop := Canon w ∧ w.length ≤ k
instance (k : Nat) (w : List UInt8) : Decidable (Wd k w) := inferInstanceAs (Decidable (_ ∧ _))
def wval (w : List UInt8) : Int := (valF 0 w : Int)
/-- n words that are numbers -/
def GoodW (k n : Nat) (l : List UInt8) : Prop := (cut 32 l).length = n ∧ ∀ w ∈ cut 32 l, Wd k w
instance (k n : Nat) (l : List UInt8) : Decidable (GoodW k n l) := inferInstanceAs (Decidable (_ ∧ _))
def wvals (l : List UInt8) : List Int := (cut 32 l).map wval

theorem a53 {l : List UInt8} (h : l.length ≤ 60000) : r187 (lb l) = some (atoiE l) := by
  show atoiV (lb l) = _
  rw [atoiV, if_pos (by rw [size_lb]; omega)]; rfl
theorem a70 (l : List UInt8) (c : UInt8) : r224 (lb l) ⟨#[c]⟩ = some (Lib.indexByte l c) := rfl
theorem a22 {n : Int} (h1 : -9223372036854775808 ≤ n) (h2 : n ≤ 9223372036854775807) : r73 n = some (itoaB n) := by
  show itoaV n = _
  rw [itoaV, if_pos ⟨h1, h2⟩]
theorem word_if {ρ : Type} (k : Nat) (hk : k ≤ 18) (w : List UInt8) (A B C : ρ) : (if (!((atoiE w).2 || (decide ((atoiE w).1 < 0)))) = true → (r73 (atoiE w).1).isSome = true then (if ((((atoiE w).2 || (decide ((atoiE w).1 < 0))) || (!(decide (((r73 (atoiE w).1).getD default) = lb w)))) || (decide (((lb w).size : Int) > (k : Int)))) = true then A else B) else C) = if Wd k w then B else A := by
  have hw := word_code k hk w
  by_cases h2 : (atoiE w).2 = true
  · rw [if_pos (by rw [h2]; simp), if_pos (by rw [h2]; simp), if_neg]
    intro hg
    have := (hw.2 hg).1
    rw [h2] at this; cases this
  · have h2' : (atoiE w).2 = false := by simpa using h2
    obtain ⟨b1, b2⟩ := atoiE_bd w h2'
    rw [a22 b1 b2, if_pos (by intro _; rfl)]
    have e : (decide ((some (itoaB (atoiE w).1)).getD default = lb w)) = decide (Lib.itoa (atoiE w).1 = w) := by
      rw [Option.getD_some, decide_eq_decide]; exact lb_inj
    rw [e, h2']
    by_cases hg : Wd k w
    · obtain ⟨_, g1, g2, g3⟩ := hw.2 hg
      rw [if_pos hg, if_neg]
      rw [decide_eq_true g2, decide_eq_false (by omega), decide_eq_false (by rw [size_lb]; omega)]
      decide
    · rw [if_neg hg, if_pos]
      by_cases g1 : (atoiE w).1 < 0
      · rw [decide_eq_true g1]; rfl
      · by_cases g2 : Lib.itoa (atoiE w).1 = w
        · rw [decide_eq_false g1, decide_eq_true g2, decide_eq_true]
          · rfl
          · rw [size_lb]
            by_cases g3 : w.length ≤ k
            · exact absurd (hw.1 ⟨h2', by omega, g2, g3⟩) hg
            · omega
        · rw [decide_eq_false g2]; simp
theorem atoi_wval {k : Nat} (hk : k ≤ 18) {w : List UInt8} (h : Wd k w) : (atoiE w).1 = wval w := by
  rw [atoiE_canon h.1 (by have := h.2; omega)]; rfl
theorem cut_len_le (c : UInt8) (l : List UInt8) : (cut c l).length ≤ l.length + 1 := cut_count c l
/-- the reference's words -/
theorem canon_45 {w : List UInt8} (h : Canon w) : w.headD 0 ≠ 45 := by
  obtain ⟨h1, h2, _⟩ := h
  cases w with
  | nil => exact absurd rfl h1
  | cons a w =>
    have : dig a := h2 a (by simp)
    intro ea
    have ea : a = 45 := ea
    rw [ea] at this
    revert this; decide
theorem num_wval {k : Nat} {w : List UInt8} (h : Wd k w) : numV k w = (wval w, true) := by
  have h' : Canon w ∧ w.length ≤ k := h
  rw [numV, if_neg (canon_45 h.1), if_pos h']; rfl
theorem num_ok {k : Nat} {w : List UInt8} (h : Wd k w) : (byteAt (lb w) 0 == 45) = false ∧ 0 < ((lb w).size : Int) := by
  have hp := List.length_pos_iff.mpr h.1.1
  refine ⟨?_, by rw [size_lb]; omega⟩
  rw [byteAt_lb, ← headD_getD, beq_eq_false_iff_ne]
  exact fun h1 => canon_45 h.1 (UInt8.toNat_inj.1 (by show (w.headD 0).toNat = 45; omega))
theorem num_bad {k : Nat} {w : List UInt8} (h : ¬ Wd k w) : ((numV k w).2 = true → 0 < ((lb w).size : Int)) ∧ ((!(numV k w).2) || (byteAt (lb w) 0 == 45)) = true := by
  have h' : ¬ (Canon w ∧ w.length ≤ k) := h
  rw [byteAt_lb, ← headD_getD]
  by_cases h45 : w.headD 0 = 45
  · refine ⟨fun _ => ?_, by rw [h45]; simp⟩
    rw [size_lb]
    cases w with
    | nil => simp at h45
    | cons a w => simp
  · rw [numV, if_neg h45, if_neg h']
    exact ⟨fun h => (by cases h), rfl⟩
end Go.Proofs.YthldpejmofhaoaaGreatDoor

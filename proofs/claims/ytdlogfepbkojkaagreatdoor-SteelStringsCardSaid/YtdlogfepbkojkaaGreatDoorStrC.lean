/- Strings: words of numbers, by the program and by the reference. -/
import Derived.Test.YtdlogfepbkojkaaGreatDoorF05
import Derived.Test.YtdlogfepbkojkaaGreatDoorF06
import Derived.Test.YtdlogfepbkojkaaGreatDoorStrB
set_option linter.unusedVariables false
set_option linter.unusedSimpArgs false
namespace Go.Proofs.YtdlogfepbkojkaaGreatDoor
open Go.Abs

/-- a word that is a number of at most k digits -/
def Wd (k : Nat) (w : List UInt8) : Prop := Canon w ∧ w.length ≤ k
instance (k : Nat) (w : List UInt8) : Decidable (Wd k w) := inferInstanceAs (Decidable (_ ∧ _))
def wval (w : List UInt8) : Int := (valF 0 w : Int)
/-- n words that are numbers -/
def GoodW (k n : Nat) (l : List UInt8) : Prop := (cut 32 l).length = n ∧ ∀ w ∈ cut 32 l, Wd k w
instance (k n : Nat) (l : List UInt8) : Decidable (GoodW k n l) := inferInstanceAs (Decidable (_ ∧ _))
def wvals (l : List UInt8) : List Int := (cut 32 l).map wval

theorem a53 {l : List UInt8} (h : l.length ≤ 60000) : r66 (lb l) = some (atoiE l) := by
  show atoiV (lb l) = _
  rw [atoiV, if_pos (by rw [size_lb]; omega)]; rfl
theorem a70 (l : List UInt8) (c : UInt8) : r85 (lb l) ⟨#[c]⟩ = some (Lib.indexByte l c) := rfl
theorem a22 {n : Int} (h1 : -9223372036854775808 ≤ n) (h2 : n ≤ 9223372036854775807) : r59 n = some (itoaB n) := by
  show itoaV n = _
  rw [itoaV, if_pos ⟨h1, h2⟩]
theorem word_if {ρ : Type} (k : Nat) (hk : k ≤ 18) (w : List UInt8) (A B C : ρ) : (if (!((atoiE w).2 || (decide ((atoiE w).1 < 0)))) = true → (r59 (atoiE w).1).isSome = true then (if ((((atoiE w).2 || (decide ((atoiE w).1 < 0))) || (!(decide (((r59 (atoiE w).1).getD default) = lb w)))) || (decide (((lb w).size : Int) > (k : Int)))) = true then A else B) else C) = if Wd k w then B else A := by
  have hw := word_code k hk w
  by_cases h2 : (atoiE w).2 = true
  · rw [if_pos (by rw [h2]; simp), if_pos (by rw [h2]; simp), if_neg]
    intro hg
    have := (hw.2 hg).1
    rw [h2] at this; cases this
  · have h2' : (atoiE w).2 = false := by simpa using h2
    obtain ⟨b1, b2⟩ := atoiE_bd w h2'
    rw [a22 b1 b2, if_pos (by intro _; rfl)]
    have e : (decide ((some (itoaB (atoiE w).1)).getD default = lb w)) = decide (Lib.itoa (atoiE w).1 = w) := by
      rw [Option.getD_some, decide_eq_decide]; exact lb_inj
    rw [e, h2']
    by_cases hg : Wd k w
    · obtain ⟨_, g1, g2, g3⟩ := hw.2 hg
      rw [if_pos hg, if_neg]
      rw [decide_eq_true g2, decide_eq_false (by omega), decide_eq_false (by rw [size_lb]; omega)]
      decide
    · rw [if_neg hg, if_pos]
      by_cases g1 : (atoiE w).1 < 0
      · rw [decide_eq_true g1]; rfl
      · by_cases g2 : Lib.itoa (atoiE w).1 = w
        · rw [decide_eq_false g1, decide_eq_true g2, decide_eq_true]
          · rfl
          · rw [size_lb]
            by_cases g3 : w.length ≤ k
            · exact absurd (hw.1 ⟨h2', by omega, g2, g3⟩) hg
            · omega
        · rw [decide_eq_false g2]; simp
theorem atoi_wval {k : Nat} (hk : k ≤ 18) {w : List UInt8} (h : Wd k w) : (atoiE w).1 = wval w := by
  rw [atoiE_canon h.1 (by have := h.2; omega)]; rfl
theorem cut_len_le (c : UInt8) (l : List UInt8) : (cut c l).length ≤ l.length + 1 := cut_count c l
/-- the program's words -/
theorem s35 (l : List UInt8) (n : Nat) (hl : l.length ≤ 60000) : ∃ v, r35 (lb l) (n : Int) = some v ∧ v.2 = decide (GoodW 7 n l) ∧ (v.2 = true → v.1 = wvals l) := by
  unfold r35
  refine iter_meas (b35_1 (n : Int)) (fun s => ∃ (r : List UInt8) (ws : List (List UInt8)), s = (lb r, ws.map wval) ∧ r.length ≤ l.length ∧ ws ++ cut 32 r = cut 32 l ∧ ∀ w ∈ ws, Wd 7 w) (fun s => s.1.size) (fun o => ∃ v, o = some v ∧ v.2 = decide (GoodW 7 n l) ∧ (v.2 = true → v.1 = wvals l)) (fun s hs => ?_) 1000000000 _ ⟨l, [], rfl, Nat.le_refl _, rfl, by simp⟩ (by show l.length < 1000000000; omega)
  obtain ⟨r, ws, rfl, hr, hc, hg⟩ := hs
  have hws : ws.length ≤ 60001 := by
    have := congrArg List.length hc
    have := cut_len_le 32 l
    rw [List.length_append] at *; omega
  unfold b35_1
  simp only
  rw [a70]
  simp only [bindC]
  rcases cut_index (c := 32) r with ⟨h1, h2⟩ | ⟨i, h1, h2, h3, h4⟩
  · right
    rw [h1, if_pos (by decide)]
    refine ⟨_, rfl, ?_⟩
    rw [a53 (by omega)]
    have e : cut 32 l = ws ++ [r] := by rw [← hc, cut_none h2]
    rw [Option.bind_some]
    rw [show ((7 : Int)) = ((7 : Nat) : Int) from rfl, word_if 7 (by decide) r]
    by_cases g : Wd 7 r
    · rw [if_pos g, if_pos (by rw [List.length_map]; omega)]
      refine ⟨_, rfl, ?_, fun _ => ?_⟩
      · show (((List.map wval ws).length + 1 : Int) == (n : Int)) = _
        rw [List.length_map, Bool.eq_iff_iff, decide_eq_true_eq, beq_iff_eq, GoodW, e, List.length_append, List.length_singleton]
        constructor
        · intro h
          refine ⟨by omega, fun w hw => ?_⟩
          rcases List.mem_append.mp hw with hw | hw
          · exact hg w hw
          · rw [List.mem_singleton] at hw; rw [hw]; exact g
        · intro h; have := h.1; omega
      · show List.map wval ws ++ [(atoiE r).1] = _
        rw [atoi_wval (by decide) g, wvals, e, List.map_append]; rfl
    · rw [if_neg g]
      refine ⟨_, rfl, ?_, fun h => by cases h⟩
      show false = _
      symm
      rw [decide_eq_false_iff_not]
      intro hG
      exact g (hG.2 r (by rw [e]; simp))
  · have e : cut 32 l = ws ++ r.take i :: cut 32 (r.drop (i + 1)) := by rw [← hc]; conv => lhs; rw [h4, cut_at _ _ h3]
    rw [h1, if_neg (by simp), show ((i : Int) + 0) = (i : Int) by omega, wI (a := (i : Int)) (by omega) (by omega), wI (a := (i : Int) + 1) (by omega) (by omega), if_pos ⟨by omega, by omega, by rw [size_lb]; omega⟩, show ((i : Int) + 1).toNat = i + 1 by omega, Int.toNat_natCast, lb_extract, List.drop_zero, show i - 0 = i by omega, a53 (by rw [List.length_take]; omega)]
    simp only
    rw [show ((7 : Int)) = ((7 : Nat) : Int) from rfl, word_if 7 (by decide) (r.take i)]
    by_cases g : Wd 7 (r.take i)
    · left
      rw [if_pos g, if_pos (by rw [List.length_map]; omega), if_pos ⟨by omega, by rw [size_lb]; omega, Int.le_refl _⟩, size_lb, lb_extract]
      have hd : (r.drop (i + 1)).take (r.length - (i + 1)) = r.drop (i + 1) := List.take_of_length_le (by rw [List.length_drop]; omega)
      rw [hd]
      refine ⟨_, rfl, ⟨r.drop (i + 1), ws ++ [r.take i], ?_, by rw [List.length_drop]; omega, by rw [e]; simp, fun w hw => ?_⟩, by show (r.drop (i+1)).length < r.length; rw [List.length_drop]; omega⟩
      · rw [atoi_wval (by decide) g, List.map_append]; rfl
      · rcases List.mem_append.mp hw with hw | hw
        · exact hg w hw
        · rw [List.mem_singleton] at hw; rw [hw]; exact g
    · right
      rw [if_neg g]
      refine ⟨_, rfl, _, rfl, ?_, fun h => by cases h⟩
      show false = _
      symm
      rw [decide_eq_false_iff_not]
      intro hG
      exact g (hG.2 (r.take i) (by rw [e]; simp))
/-- the reference's words -/
theorem canon_45 {w : List UInt8} (h : Canon w) : w.headD 0 ≠ 45 := by
  obtain ⟨h1, h2, _⟩ := h
  cases w with
  | nil => exact absurd rfl h1
  | cons a w =>
    have : dig a := h2 a (by simp)
    intro ea
    have ea : a = 45 := ea
    rw [ea] at this
    revert this; decide
theorem num_wval {k : Nat} {w : List UInt8} (h : Wd k w) : numV k w = (wval w, true) := by
  have h' : Canon w ∧ w.length ≤ k := h
  rw [numV, if_neg (canon_45 h.1), if_pos h']; rfl
theorem num_ok {k : Nat} {w : List UInt8} (h : Wd k w) : (byteAt (lb w) 0 == 45) = false ∧ 0 < ((lb w).size : Int) := by
  have hp := List.length_pos_iff.mpr h.1.1
  refine ⟨?_, by rw [size_lb]; omega⟩
  rw [byteAt_lb, ← headD_getD, beq_eq_false_iff_ne]
  exact fun h1 => canon_45 h.1 (UInt8.toNat_inj.1 (by show (w.headD 0).toNat = 45; omega))
theorem num_bad {k : Nat} {w : List UInt8} (h : ¬ Wd k w) : ((numV k w).2 = true → 0 < ((lb w).size : Int)) ∧ ((!(numV k w).2) || (byteAt (lb w) 0 == 45)) = true := by
  have h' : ¬ (Canon w ∧ w.length ≤ k) := h
  rw [byteAt_lb, ← headD_getD]
  by_cases h45 : w.headD 0 = 45
  · refine ⟨fun _ => ?_, by rw [h45]; simp⟩
    rw [size_lb]
    cases w with
    | nil => simp at h45
    | cons a w => simp
  · rw [numV, if_neg h45, if_neg h']
    exact ⟨fun h => (by cases h), rfl⟩
theorem s39 (l : List UInt8) (n : Nat) (hl : l.length ≤ 60000) : ∃ v, r39 (lb l) (n : Int) = some v ∧ v.2 = decide (GoodW 7 n l) ∧ (v.2 = true → v.1 = wvals l) := by
  unfold r39
  have h32 : r37 (lb l) 32 = _ := s37 l 32 (by omega)
  rw [h32, Option.bind_some]
  have hcl := cut_len_le 32 l
  by_cases hn : (cut 32 l).length = n
  · rw [if_neg (by rw [List.length_map, hn]; simp)]
    refine iter_meas (b39_1 (n : Int) ((cut 32 l).map lb)) (fun s => ∃ i : Nat, s = (((cut 32 l).take i).map wval, (i : Int)) ∧ i ≤ n ∧ ∀ w ∈ (cut 32 l).take i, Wd 7 w) (fun s => n - s.2.toNat) (fun o => ∃ v, o = some v ∧ v.2 = decide (GoodW 7 n l) ∧ (v.2 = true → v.1 = wvals l)) (fun s hs => ?_) 1000000000 _ ⟨0, by simp, by omega, by simp⟩ (by show n - (0 : Int).toNat < 1000000000; omega)
    obtain ⟨i, rfl, h1, h2⟩ := hs
    unfold b39_1
    simp only
    by_cases g : i < n
    · have hi : i < (cut 32 l).length := by omega
      have hget : ((cut 32 l).map lb).getD i default = lb ((cut 32 l)[i]) := by
        rw [List.getD_eq_getElem?_getD, List.getElem?_map, List.getElem?_eq_getElem hi]; rfl
      have hmem : (cut 32 l)[i] ∈ cut 32 l := List.getElem_mem hi
      have hwl := cut_len 32 l _ hmem
      rw [if_pos (by simpa using g), if_pos (by rw [List.length_map]; omega), Int.toNat_natCast, hget, show (7 : Int) = ((7 : Nat) : Int) from rfl, s69 _ 7 (by decide) (by omega)]
      simp only [bindC]
      have ht : (cut 32 l).take (i + 1) = (cut 32 l).take i ++ [(cut 32 l)[i]] := by
        rw [List.take_add_one, List.getElem?_eq_getElem hi]; rfl
      by_cases w3 : Wd 7 ((cut 32 l)[i])
      · left
        obtain ⟨n1, n2⟩ := num_ok w3
        rw [num_wval w3, if_pos (fun _ => by rw [List.length_map]; omega), if_pos (fun _ => ⟨Nat.le_refl _, n2⟩), if_neg (by rw [n1]; simp), if_pos (by rw [List.length_map, List.length_take]; omega), wI (by omega) (by omega)]
        refine ⟨_, rfl, ⟨i + 1, ?_, g, ?_⟩, by show n - ((i : Int) + 1).toNat < n - (i : Int).toNat; omega⟩
        · rw [ht, List.map_append]; rfl
        · rw [ht]; intro w hw
          rcases List.mem_append.mp hw with hw | hw
          · exact h2 w hw
          · rw [List.mem_singleton] at hw; rw [hw]; exact w3
      · right
        obtain ⟨n1, n2⟩ := num_bad w3
        rw [if_pos (fun _ => by rw [List.length_map]; omega), if_pos (fun h => ⟨Nat.le_refl _, n1 (by simpa using h)⟩), if_pos n2]
        refine ⟨_, rfl, _, rfl, ?_, fun h => by cases h⟩
        show false = _
        symm
        rw [decide_eq_false_iff_not]
        exact fun hG => w3 (hG.2 _ hmem)
    · right
      obtain rfl : i = n := by omega
      rw [if_neg (by simp)]
      have : (cut 32 l).take i = cut 32 l := List.take_of_length_le (by omega)
      rw [this] at h2 ⊢
      refine ⟨_, rfl, _, rfl, ?_, fun _ => rfl⟩
      show true = _
      symm
      rw [decide_eq_true_eq]
      exact ⟨hn, h2⟩
  · rw [if_pos (by rw [List.length_map, bne_iff_ne]; omega)]
    refine ⟨_, rfl, ?_, fun h => by cases h⟩
    show false = _
    symm
    rw [decide_eq_false_iff_not]
    exact fun hG => hn hG.1
end Go.Proofs.YtdlogfepbkojkaaGreatDoor

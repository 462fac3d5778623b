/- Steel: the check of rules, in the code and in the reference (plain). -/
import Derived.Test.YtdlogfepbkojkaaGreatDoorF01
import Derived.Test.YtdlogfepbkojkaaGreatDoorF02
import Derived.Test.YtdlogfepbkojkaaGreatDoorSteelK
set_option linter.unusedVariables false
set_option linter.unusedSimpArgs false
namespace Go.Proofs.YtdlogfepbkojkaaGreatDoor
open Go.Abs

def kH (x : Int × Int × Int × Int) : Kn := (x.1, [(x.2.1, x.2.2.1)], x.2.2.2)
def kC (x : Int × Int × Int × Int × Int) : Kn := (x.1, [(x.2.1, x.2.2.1), (x.2.2.2.1, x.2.2.2.2)], 0)
def kQ (x : Int × Int × Int) : Kn := (x.1, [(x.2.1, x.2.2)], 0)
def kT (x : Int × Int) : Kn := (x.1, [], x.2)

/-- the error of the i-th knot -/
def errE (dir : Int) (L : List Kn) (i : Nat) : Int := knE dir (if i = 0 then none else some (L.getD (i - 1) default)) (L.getD i default)
def errs (dir : Int) (L : List Kn) : Option (Int × Int) := scanN (fun i => if errE dir L i = 0 then none else some ((i : Int), errE dir L i)) 0 L.length
theorem iter_errs {σ : Type} (n : Nat) (B : σ → Ctl σ (Int × Int)) (st : Nat → σ) (E : Nat → Int) (fin : Option (Int × Int)) (hn : n < 1000000000)
    (step : ∀ i, i < n → (∀ j, j < i → E j = 0) → B (st i) = if E i = 0 then .next (st (i + 1)) else .out (some ((i : Int), E i)))
    (stop : (∀ j, j < n → E j = 0) → B (st n) = .out fin) :
    iterC B 1000000000 (st 0) = orE (scanN (fun i => if E i = 0 then none else some ((i : Int), E i)) 0 n) fin := by
  have key : ∀ (k i fuel : Nat), i + k = n → k < fuel → (∀ j, j < i → E j = 0) → iterC B fuel (st i) = orE (scanN (fun i => if E i = 0 then none else some ((i : Int), E i)) i k) fin := by
    intro k
    induction k with
    | zero =>
      intro i fuel hi hf h0
      obtain ⟨m, rfl⟩ : ∃ m, fuel = m + 1 := ⟨fuel - 1, by omega⟩
      obtain rfl : i = n := by omega
      simp [iterC, stop h0, scanN, orE]
    | succ k ih =>
      intro i fuel hi hf h0
      obtain ⟨m, rfl⟩ : ∃ m, fuel = m + 1 := ⟨fuel - 1, by omega⟩
      simp only [iterC, step i (by omega) h0, scanN]
      by_cases he : E i = 0
      · simp only [he, if_true]
        exact ih (i + 1) m (by omega) (by omega) (fun j hj => by
          by_cases e : j = i
          · exact e ▸ he
          · exact h0 j (by omega))
      · simp only [if_neg he]; rfl
  exact key n 0 1000000000 (by omega) hn (fun j hj => by omega)
theorem errE_kn {dir : Int} {L : List Kn} {i : Nat} (h : errE dir L i = 0) : kn1 (L.getD i default) = 0 := by
  unfold errE knE at h
  split at h
  · assumption
  · exact h
def stK (L : List Kn) (i : Nat) : Option Kn × Int := (if i = 0 then none else some (L.getD (i - 1) default), (i : Int))
/-- lists of knots whose ranges fit a direction -/
def Fit (dir : Int) (L : List Kn) : Prop := ∀ k ∈ L, k.2.1.length < 1000000000 ∧ (dir = 0 ∨ ((dir = 1 ∨ dir = -1) ∧ k.2.1 ≠ []))
theorem codeStep (L : List Kn) (dir : Int) (hf : Fit dir L) {i : Nat} (hi : i < L.length) (hl : L.length < 1000000000) (h0 : ∀ j, j < i → errE dir L j = 0) :
    (bindC (r88 (L.getD i default).1 (L.getD i default).2.1 (L.getD i default).2.2 (stK L i).1 dir) fun v2 =>
      if (v2 != 0) = true then Ctl.out (some ((i : Int), v2))
      else if 0 ≤ (i : Int) ∧ (i : Int) < (L.length : Int) then .next (some ((L.getD i default).1, (L.getD i default).2.1, (L.getD i default).2.2), IntKind.i64.wrap ((i : Int) + 1)) else .out none) =
    if errE dir L i = 0 then .next (stK L (i + 1)) else .out (some ((i : Int), errE dir L i)) := by
  have fk := hf _ (getD_mem hi)
  have hb : ∀ b, (stK L i).1 = some b → i ≠ 0 ∧ b = L.getD (i - 1) default := fun b h => by
    unfold stK at h
    by_cases hi0 : i = 0
    · simp [hi0] at h
    · simp [hi0] at h; exact ⟨hi0, by simpa using h.symm⟩
  rw [p63 _ _ dir fk.1 (by
    rcases fk.2 with h | ⟨h1, h2⟩
    · exact .inl h
    · refine .inr ⟨h1, h2, fun b hbb => ?_⟩
      obtain ⟨hi0, rfl⟩ := hb b hbb
      rcases (hf _ (getD_mem (show i - 1 < L.length by omega))).2 with h | ⟨_, h⟩
      · rcases h1 with h1 | h1 <;> omega
      · exact h) (fun b hbb => by
        obtain ⟨hi0, rfl⟩ := hb b hbb
        exact errE_kn (h0 (i - 1) (by omega)))]
  show (if (errE dir L i != 0) = true then _ else _) = _
  by_cases he : errE dir L i = 0
  · rw [if_neg (by simp [he]), if_pos (rgN hi), if_pos he, wS i (by omega)]
    unfold stK
    rw [if_neg (by omega)]
    rfl
  · rw [if_pos (by simpa using he), if_neg he]; rfl

/-- loops that gather -/
theorem iter_map {α β ρ : Type} [Inhabited α] (l : List α) (B : (Int × List β) → Ctl (Int × List β) ρ) (g : α → β) (fin : Option ρ) (hl : l.length < 1000000000)
    (step : ∀ (i : Nat) t, i < l.length → t.length = i → B ((i : Int), t) = .next ((i : Int) + 1, t ++ [g (l.getD i default)])) (stop : B ((l.length : Int), l.map g) = .out fin) : iterC B 1000000000 (0, []) = fin := by
  have h := iter_run l.length B (fun i => ((i : Int), (l.take i).map g)) fin hl (fun i hi => by
    rw [step i _ hi (by simp; omega)]
    congr 1
    rw [List.take_add_one, List.map_append]
    have : l[i]? = some (l.getD i default) := by rw [List.getD_eq_getElem?_getD, List.getElem?_eq_getElem hi]; rfl
    rw [this]; rfl) (by simpa using stop)
  simpa using h
section
variable (H : List (Int × Int × Int × Int)) (C : List (Int × Int × Int × Int × Int)) (Q : List (Int × Int × Int)) (T : List (Int × Int)) (a b c d : Int)
theorem p62 (h1 : H.length ≤ 10000) (h2 : C.length ≤ 10000) (h3 : Q.length ≤ 10000) (h4 : T.length ≤ 10000) : r87 H C Q T a b c d = some (H.map kH, C.map kC, Q.map kQ, T.map kT) := by
  unfold r87
  refine iter_map H _ kH _ (by omega) (fun i t hi ht => ?_) ?_
  · simp only [b87_1, ltN hi, if_true, if_pos (rgN hi), Int.toNat_natCast, wS i (by omega), if_pos (show (t.length + 1) * 40 ≤ 140737488355328 ∧ t.length + 1 ≤ 9223372036854775807 by omega)]
    rfl
  · simp only [b87_1, geN, Bool.false_eq_true, if_false]
    congr 1
    refine iter_map C _ kC _ (by omega) (fun i t hi ht => ?_) ?_
    · simp only [b87_2, ltN hi, if_true, if_pos (rgN hi), Int.toNat_natCast, wS i (by omega), if_pos (show (t.length + 1) * 40 ≤ 140737488355328 ∧ t.length + 1 ≤ 9223372036854775807 by omega)]
      rfl
    · simp only [b87_2, geN, Bool.false_eq_true, if_false]
      congr 1
      refine iter_map Q _ kQ _ (by omega) (fun i t hi ht => ?_) ?_
      · simp only [b87_3, ltN hi, if_true, if_pos (rgN hi), Int.toNat_natCast, wS i (by omega), if_pos (show (t.length + 1) * 40 ≤ 140737488355328 ∧ t.length + 1 ≤ 9223372036854775807 by omega)]
        rfl
      · simp only [b87_3, geN, Bool.false_eq_true, if_false]
        congr 1
        refine iter_map T _ kT _ (by omega) (fun i t hi ht => ?_) ?_
        · simp only [b87_4, ltN hi, if_true, if_pos (rgN hi), Int.toNat_natCast, wS i (by omega), if_pos (show (t.length + 1) * 40 ≤ 140737488355328 ∧ t.length + 1 ≤ 9223372036854775807 by omega)]
          rfl
        · simp only [b87_4, geN, Bool.false_eq_true, if_false]
end
/-- the error of four hardnesses -/
def hrdE (a b c d : Int) : Int :=
  if inR a 0 2000 && inR b 0 2000 && inR c 0 2000 && inR d 0 2000 then (if decide (a ≤ b) && decide (b ≤ c) && decide (c ≤ d) then 0 else 9) else 2
theorem p64 (a b c d : Int) : r72 [a, b, c, d] = some (!(inR a 0 2000 && inR b 0 2000 && inR c 0 2000 && inR d 0 2000)) := by
  unfold r72 r96
  have h := iter_lead [a, b, c, d] (b96_1 [a, b, c, d]) (fun x => inR x 0 2000) (fun i => some (if i = 4 then -1 else i)) (by simp)
    (fun i hi => by
      have hi4 : i < 4 := hi
      simp only [b96_1, ltN hi, if_true, if_pos (rgN hi), Int.toNat_natCast, wS i (by omega), r89, p66, Option.bind_some, bindC]
      generalize List.getD [a, b, c, d] i default = x
      by_cases hx : inR x 0 2000 = true
      · simp [hx]
      · have : ¬ (i : Int) = 4 := by omega
        simp [hx, this])
    (by simp [b96_1])
  rw [h]
  simp only [lead, Option.bind_some]
  by_cases h1 : inR a 0 2000 = true <;> by_cases h2 : inR b 0 2000 = true <;> by_cases h3 : inR c 0 2000 = true <;> by_cases h4 : inR d 0 2000 = true <;> simp [h1, h2, h3, h4]
theorem p111 (a b : Int) : r114 a b = some (decide (a < b)) := by
  unfold r114 r137
  simp
theorem p69 (a b c d : Int) : r90 [a, b, c, d] = some (decide (a ≤ b) && decide (b ≤ c) && decide (c ≤ d)) := by
  have key : ∀ fuel, iterC (b90_1 [a, b, c, d]) (fuel + 4) 3 = some (decide (a ≤ b) && decide (b ≤ c) && decide (c ≤ d)) := fun fuel => by
    have w1 : IntKind.i64.wrap 2 = 2 := by decide
    have w2 : IntKind.i64.wrap 1 = 1 := by decide
    have w3 : IntKind.i64.wrap 0 = 0 := by decide
    by_cases h1 : d < c
    · have : ¬ c ≤ d := by omega
      simp [iterC, b90_1, w1, p111, bindC, h1, this]
    · by_cases h2 : c < b
      · have g1 : ¬ b ≤ c := by omega
        simp [iterC, b90_1, w1, w2, p111, bindC, h1, h2, g1]
      · by_cases h3 : b < a
        · have g1 : ¬ a ≤ b := by omega
          simp [iterC, b90_1, w1, w2, w3, p111, bindC, h1, h2, h3, g1]
        · have g1 : a ≤ b := by omega
          have g2 : b ≤ c := by omega
          have g3 : c ≤ d := by omega
          simp [iterC, b90_1, w1, w2, w3, p111, bindC, h1, h2, h3, g1, g2, g3]
  have := key 999999996
  unfold r90
  exact this
end Go.Proofs.YtdlogfepbkojkaaGreatDoor

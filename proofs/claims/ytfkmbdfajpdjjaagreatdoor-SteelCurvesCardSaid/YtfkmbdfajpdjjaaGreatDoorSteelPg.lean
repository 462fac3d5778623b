/- Steel: loops, bands as pairs (plain). -/
import Derived.Test.YtfkmbdfajpdjjaaGreatDoorSteelBq
set_option linter.unusedVariables false
set_option linter.unusedSimpArgs false
namespace Go.Proofs.YtfkmbdfajpdjjaaGreatDoor
open Go.Abs

theorem iter_ex (n : Nat) (hn : n < 1000000000) (B : Int → Ctl Int Bool) (P : Nat → Prop) (step : ∀ i : Nat, i < n → B i = .out (some true) ∨ (P i ∧ B i = .next ((i : Int) + 1))) (stop : (∀ i, i < n → P i) → B n = .out (some true)) : iterC B 1000000000 0 = some true := by
  have key : ∀ (k i fuel : Nat), i + k = n → k < fuel → (∀ j, j < i → P j) → iterC B fuel (i : Int) = some true := by
    intro k
    induction k with
    | zero =>
      intro i fuel hi hf hp
      obtain ⟨m, rfl⟩ : ∃ m, fuel = m + 1 := ⟨fuel - 1, by omega⟩
      obtain rfl : i = n := by omega
      simp only [iterC, stop hp]
    | succ k ih =>
      intro i fuel hi hf hp
      obtain ⟨m, rfl⟩ : ∃ m, fuel = m + 1 := ⟨fuel - 1, by omega⟩
      rcases step i (by omega) with h | ⟨h1, h2⟩
      · simp only [iterC, h]
      · simp only [iterC, h2]
        have := ih (i + 1) m (by omega) (by omega) (fun j hj => by
          by_cases hji : j = i
          · subst hji; exact h1
          · exact hp j (by omega))
        simpa using this
  exact key n 0 1000000000 (by omega) hn (fun j hj => by omega)
theorem iter_mapA {α β ρ : Type} [Inhabited α] (l : List α) (hl : l.length < 1000000000) (B : List β × Int → Ctl (List β × Int) ρ) (f : α → β) (fin : List β → Option ρ)
    (step : ∀ (i : Nat) (acc : List β), i < l.length → acc.length = i → B (acc, (i : Int)) = .next (acc ++ [f (l.getD i default)], (i : Int) + 1)) (stop : ∀ acc : List β, acc.length = l.length → B (acc, (l.length : Int)) = .out (fin acc)) :
    iterC B 1000000000 ([], 0) = fin (l.map f) := by
  have key : ∀ (k i fuel : Nat) (acc : List β), i + k = l.length → k < fuel → acc = (l.take i).map f → iterC B fuel (acc, (i : Int)) = fin (l.map f) := by
    intro k
    induction k with
    | zero =>
      intro i fuel acc hi hf ha
      obtain ⟨m, rfl⟩ : ∃ m, fuel = m + 1 := ⟨fuel - 1, by omega⟩
      obtain rfl : i = l.length := by omega
      have hacc : acc = l.map f := by rw [ha, List.take_length]
      simp only [iterC, stop acc (by rw [hacc, List.length_map])]
      rw [hacc]
    | succ k ih =>
      intro i fuel acc hi hf ha
      obtain ⟨m, rfl⟩ : ∃ m, fuel = m + 1 := ⟨fuel - 1, by omega⟩
      have hlt : i < l.length := by omega
      simp only [iterC, step i acc hlt (by rw [ha, List.length_map, List.length_take]; omega)]
      refine ih (i + 1) m _ (by omega) (by omega) ?_
      rw [ha, List.take_add_one, List.map_append]
      congr 1
      simp [List.getD_eq_getElem?_getD, hlt]
  exact key l.length 0 1000000000 [] (by omega) hl (by simp)
def bandP (a b c d : Int) (x : BxV) : Int × Int := (bandLo a b c d x, bandHi a b c d x)
section
variable {H : List (Int × Int × Int × Int)} {C : List (Int × Int × Int × Int × Int)} {Q : List (Int × Int × Int)} {T : List (Int × Int)} {a b c d : Int}
theorem bindC_some {α σ ρ : Type} (v : α) (f : α → Ctl σ ρ) : bindC (some v) f = f v := rfl
theorem zb34 (ok : RulOk H C Q T a b c d) {x : BxV} (hx : BI x) : r34 H C Q T a b c d x.pl x.ph x.al x.ah x.bl x.bh x.ml x.mh x.wl x.wh x.gl x.gh x.tl x.th = some (bandP a b c d x) := z34 ok hx
theorem zb53 (ok : RulOk H C Q T a b c d) {x : BxV} (hx : BI x) : r53 H C Q T a b c d x.pl x.ph x.al x.ah x.bl x.bh x.ml x.mh x.wl x.wh x.gl x.gh x.tl x.th = some (bandP a b c d x) := p105 ok hx
end
end Go.Proofs.YtfkmbdfajpdjjaaGreatDoor

/- Steel: loops, first errors, small functions (plain). -/
import Derived.Test.YtdlogfepbkojkaaGreatDoorF01
import Derived.Test.YtdlogfepbkojkaaGreatDoorF05
set_option linter.unusedVariables false
set_option linter.unusedSimpArgs false
namespace Go.Proofs.YtdlogfepbkojkaaGreatDoor
open Go.Abs

theorem inR_iff {a b c : Int} : inR a b c = true ↔ b ≤ a ∧ a ≤ c := by simp [inR]
theorem wI {a : Int} (h1 : -9223372036854775808 ≤ a) (h2 : a ≤ 9223372036854775807) : IntKind.i64.wrap a = a := IntWalk.i64_in _ ⟨by omega, by omega⟩
def orE {ρ : Type} (s fin : Option ρ) : Option ρ := match s with | some v => some v | none => fin
/-- the first of n places, from i on, where f says something -/
def scanN {ρ : Type} (f : Nat → Option ρ) : Nat → Nat → Option ρ
  | _, 0 => none
  | i, k + 1 => match f i with
    | some v => some v
    | none => scanN f (i + 1) k
theorem iter_scan {ρ : Type} (n : Nat) (b : Int → Ctl Int ρ) (f : Nat → Option ρ) (fin : Option ρ) (hn : n < 1000000000)
    (step : ∀ i : Nat, i < n → b i = match f i with | some v => .out (some v) | none => .next ((i : Int) + 1)) (stop : b n = .out fin) :
    iterC b 1000000000 0 = orE (scanN f 0 n) fin := by
  have key : ∀ (k i fuel : Nat), i + k = n → k < fuel → iterC b fuel i = orE (scanN f i k) fin := by
    intro k
    induction k with
    | zero =>
      intro i fuel hi hf
      obtain ⟨m, rfl⟩ : ∃ m, fuel = m + 1 := ⟨fuel - 1, by omega⟩
      obtain rfl : i = n := by omega
      simp [iterC, stop, scanN, orE]
    | succ k ih =>
      intro i fuel hi hf
      obtain ⟨m, rfl⟩ : ∃ m, fuel = m + 1 := ⟨fuel - 1, by omega⟩
      simp only [iterC, step i (by omega), scanN]
      cases hfx : f i with
      | none =>
        have := ih (i + 1) m (by omega) (by omega)
        simpa using this
      | some v => rfl
  have := key n 0 1000000000 (by omega) hn
  simpa using this
theorem iter_run {σ ρ : Type} (n : Nat) (b : σ → Ctl σ ρ) (st : Nat → σ) (fin : Option ρ) (hn : n < 1000000000)
    (step : ∀ i : Nat, i < n → b (st i) = .next (st (i + 1))) (stop : b (st n) = .out fin) : iterC b 1000000000 (st 0) = fin := by
  have key : ∀ (k i fuel : Nat), i + k = n → k < fuel → iterC b fuel (st i) = fin := by
    intro k
    induction k with
    | zero =>
      intro i fuel hi hf
      obtain ⟨m, rfl⟩ : ∃ m, fuel = m + 1 := ⟨fuel - 1, by omega⟩
      obtain rfl : i = n := by omega
      simp [iterC, stop]
    | succ k ih =>
      intro i fuel hi hf
      obtain ⟨m, rfl⟩ : ∃ m, fuel = m + 1 := ⟨fuel - 1, by omega⟩
      simp only [iterC, step i (by omega)]
      exact ih (i + 1) m (by omega) (by omega)
  exact key n 0 1000000000 (by omega) hn
theorem getD_mem {α : Type} [Inhabited α] {l : List α} {i : Nat} (h : i < l.length) : l.getD i default ∈ l := by
  rw [List.getD_eq_getElem?_getD, List.getElem?_eq_getElem h, Option.getD_some]; exact List.getElem_mem h
/-- how many elements in front have a property -/
def lead {α : Type} (p : α → Bool) : List α → Nat
  | [] => 0
  | x :: r => if p x then lead p r + 1 else 0
theorem iter_lead {α ρ : Type} [Inhabited α] (l : List α) (b : Int → Ctl Int ρ) (p : α → Bool) (g : Int → Option ρ) (hl : l.length < 1000000000)
    (step : ∀ i : Nat, i < l.length → b i = if p (l.getD i default) = true then .next ((i : Int) + 1) else .out (g i)) (stop : b l.length = .out (g l.length)) :
    iterC b 1000000000 0 = g (lead p l) := by
  have key : ∀ (k i fuel : Nat), i + k = l.length → k < fuel → iterC b fuel i = g ((i + lead p (l.drop i) : Nat) : Int) := by
    intro k
    induction k with
    | zero =>
      intro i fuel hi hf
      obtain ⟨m, rfl⟩ : ∃ m, fuel = m + 1 := ⟨fuel - 1, by omega⟩
      obtain rfl : i = l.length := by omega
      simp [iterC, stop, lead]
    | succ k ih =>
      intro i fuel hi hf
      obtain ⟨m, rfl⟩ : ∃ m, fuel = m + 1 := ⟨fuel - 1, by omega⟩
      have hlt : i < l.length := by omega
      have hd : l.drop i = l.getD i default :: l.drop (i + 1) := by
        rw [List.drop_eq_getElem_cons hlt]; simp [List.getD_eq_getElem?_getD, hlt]
      rw [hd]
      simp only [iterC, step i hlt, lead]
      by_cases hp : p (l.getD i default) = true
      · simp only [if_pos hp]
        have := ih (i + 1) m (by omega) (by omega)
        rw [show ((i + 1 : Nat) : Int) = (i : Int) + 1 by omega] at this
        rw [this]
        congr 1; omega
      · simp only [if_neg hp, Nat.add_zero]
  have := key l.length 0 1000000000 (by omega) hl
  simpa using this

theorem p66 (a b c : Int) : r68 a b c = some (inR a b c) := rfl
theorem p29 (a b c : Int) : r43 a b c = some (inR a b c) := rfl
theorem p68 (b : Bool) (e : Int) : r51 b e = some (codeIf b e) := by
  unfold r51 codeIf; cases b <;> rfl
theorem p67 (l : List Int) (hl : l.length < 1000000000) : r44 l = some (firstV l) := by
  have h := iter_list (τ := Unit) l (b44_1 l) (fun i _ => i) (fun _ _ x => if x = 0 then .next () else .out (some x)) (fun _ => some 0) hl
    (fun i t hi => by
      simp only [b44_1, ltN hi, if_true, if_pos (rgN hi), Int.toNat_natCast, wS i (by omega)]
      generalize l.getD i default = x
      by_cases hx : x = 0 <;> simp [hx, mapC])
    (fun t => by simp [b44_1]) ()
  unfold r44
  rw [h]
  have : ∀ (r : List Int) (i : Int), foldC (fun _ _ x => if x = 0 then Ctl.next () else .out (some x)) (fun _ : Unit => some 0) i r () = some (firstV r) := by
    intro r
    induction r with
    | nil => intro i; rfl
    | cons x r ih =>
      intro i
      by_cases hx : x = 0
      · simp only [foldC, hx, if_true, firstV]; exact ih _
      · simp only [foldC, if_neg hx, firstV]
  exact this l 0
theorem firstV_app (l r : List Int) : firstV (l ++ r) = if firstV l = 0 then firstV r else firstV l := by
  induction l with
  | nil => simp [firstV]
  | cons x l ih =>
    by_cases hx : x = 0
    · simp only [List.cons_append, firstV, hx, if_true]; exact ih
    · simp [firstV, hx]
theorem firstV2 (a b : Int) : firstV [a, b] = if a = 0 then b else a := by
  simp only [firstV]
  by_cases ha : a = 0 <;> by_cases hb : b = 0 <;> simp [ha, hb]
end Go.Proofs.YtdlogfepbkojkaaGreatDoor

/-
  Plain laws of the decompiler's functions: loops over lists.
-/
import Derived.Test.YtcbiiijnaeibhaaAbsGen
set_option linter.unusedVariables false
set_option linter.unusedSimpArgs false
namespace Go.Abs
variable {α σ ρ τ : Type}

def mapC (g : τ → σ) : Ctl τ ρ → Ctl σ ρ
  | .next t => .next (g t)
  | .out r => .out r
/-- a loop over a list: the index, what is left, what is gathered -/
def foldC (f : Int → τ → α → Ctl τ ρ) (e : τ → Option ρ) : Int → List α → τ → Option ρ
  | _, [], t => e t
  | i, x :: r, t =>
    match f i t x with
    | .next t' => foldC f e (i + 1) r t'
    | .out q => q

theorem iter_list [Inhabited α] (l : List α) (B : σ → Ctl σ ρ) (mk : Int → τ → σ) (f : Int → τ → α → Ctl τ ρ) (e : τ → Option ρ) (hl : l.length < 1000000000)
    (hstep : ∀ (i : Nat) t, i < l.length → B (mk i t) = mapC (mk (i + 1)) (f i t (l.getD i default)))
    (hend : ∀ t, B (mk l.length t) = .out (e t)) (t : τ) : iterC B 1000000000 (mk 0 t) = foldC f e 0 l t := by
  have key : ∀ (k i fuel : Nat) (t : τ), i + k = l.length → k < fuel → iterC B fuel (mk i t) = foldC f e i (l.drop i) t := by
    intro k
    induction k with
    | zero =>
      intro i fuel t hi hf
      obtain ⟨m, rfl⟩ : ∃ m, fuel = m + 1 := ⟨fuel - 1, by omega⟩
      have hi : i = l.length := by omega
      subst hi
      simp [iterC, hend, foldC]
    | succ k ih =>
      intro i fuel t hi hf
      obtain ⟨m, rfl⟩ : ∃ m, fuel = m + 1 := ⟨fuel - 1, by omega⟩
      have hlt : i < l.length := by omega
      have hd : l.drop i = l.getD i default :: l.drop (i + 1) := by
        rw [List.drop_eq_getElem_cons hlt]; simp [List.getD_eq_getElem?_getD, hlt]
      rw [hd]
      simp only [iterC, hstep i t hlt, foldC]
      cases hfx : f i t (l.getD i default) with
      | next t' =>
        have := ih (i + 1) m t' (by omega) (by omega)
        simpa [mapC] using this
      | out q => rfl
  have := key l.length 0 1000000000 t (by omega) hl
  simpa using this

def inR (n lo hi : Int) : Bool := decide (lo ≤ n) && decide (n ≤ hi)
def codeIf (b : Bool) (e : Int) : Int := if b then 0 else e
def firstV : List Int → Int
  | [] => 0
  | x :: r => if x = 0 then firstV r else x
theorem wS (i : Nat) (h : i < 1000000000) : IntKind.i64.wrap ((i : Int) + 1) = (i : Int) + 1 := IntWalk.i64_in _ ⟨by omega, by omega⟩
theorem ltN {i n : Nat} (h : i < n) : (decide ((i : Int) < (n : Int))) = true := by simpa using h
theorem rgN {i n : Nat} (h : i < n) : 0 ≤ (i : Int) ∧ (i : Int) < (n : Int) := ⟨by omega, by omega⟩
theorem geN (n : Nat) : (decide ((n : Int) < (n : Int))) = false := by simp
end Go.Abs

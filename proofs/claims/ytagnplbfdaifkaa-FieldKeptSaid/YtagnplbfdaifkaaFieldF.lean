/- Field: equations of voltages, the first one that fails (plain). -/
import Derived.Test.YtagnplbfdaifkaaFieldE
set_option linter.unusedVariables false
set_option linter.unusedSimpArgs false
namespace Go.Proofs.Ytagnplbfdaifkaa
open Go.Abs

/-- the current to a node, from voltages beyond it -/
def curL : List Int → List (Int × Int) → Int × Int
  | c :: cs, v :: vs => curV c v (curL cs vs)
  | _, _ => (0, 0)
/-- the first reactance whose equation fails, or -1 -/
def wr : Int → List Int → List Int → List (Int × Int) → Int
  | k, c :: cs, x :: xs, v :: w :: l => if volV x w (curL (c :: cs) (w :: l)) = v then wr (k + 1) cs xs (w :: l) else k
  | _, _, _, _ => -1
theorem hV_head (cs xs : List Int) : ∃ t, (solV cs xs).1 = hV cs xs :: t := by
  unfold hV
  cases h : (solV cs xs).1 with
  | nil =>
    exfalso
    cases cs <;> cases xs <;> simp [solV] at h
  | cons a t => exact ⟨t, rfl⟩
theorem solV_cons (c x : Int) (cs xs : List Int) : (solV (c :: cs) (x :: xs)).1 = hV (c :: cs) (x :: xs) :: (solV cs xs).1 := rfl
theorem solV_nil : solV [] [] = ([(1, 0)], []) := rfl
theorem curL_sol : ∀ {cs xs : List Int}, xs.length = cs.length → curL cs (solV cs xs).1.tail = hI cs xs
  | [], [], _ => rfl
  | c :: cs, x :: xs, h => by
    have ih := curL_sol (cs := cs) (xs := xs) (by simpa using h)
    obtain ⟨t, ht⟩ := hV_head cs xs
    rw [solV_cons, List.tail_cons, hI_cons]
    rw [ht] at ih ⊢
    rw [List.tail_cons] at ih
    simp only [curL, ih]
  | [], _ :: _, h => by simp at h
  | _ :: _, [], h => by simp at h
/-- voltages are accepted if and only if they are the solution's -/
theorem wr_iff : ∀ {cs xs : List Int} {l : List (Int × Int)} {k : Int}, 0 ≤ k → xs.length = cs.length → l.length = cs.length + 1 → l.getD cs.length default = (1, 0) → (wr k cs xs l = -1 ↔ l = (solV cs xs).1)
  | [], [], l, k, hk, _, hl, he => by
    match l, hl, he with
    | [a], _, he =>
      have : a = (1, 0) := he
      subst this
      simp [wr, solV_nil]
  | c :: cs, x :: xs, l, k, hk, h, hl, he => by
    match l, hl, he with
    | v :: w :: l, hl, he =>
      have h' : xs.length = cs.length := by simpa using h
      have ih := wr_iff (cs := cs) (xs := xs) (l := w :: l) (k := k + 1) (by omega) h' (by simpa using hl) (by simpa only [List.length_cons, List.getD_cons_succ] using he)
      rw [solV_cons]
      unfold wr
      constructor
      · intro hw
        split at hw
        · rename_i e
          have hs := ih.1 hw
          rw [← hs, ← e, hV_cons]
          obtain ⟨t, ht⟩ := hV_head cs xs
          have h2 := curL_sol h'
          rw [ht] at hs h2
          have e1 : w = hV cs xs := by injection hs
          have e2 : l = t := by injection hs
          rw [List.tail_cons, ← e2] at h2
          simp only [curL, e1, h2]
        · exact absurd hw (by omega)
      · intro hs
        have e1 : v = hV (c :: cs) (x :: xs) := by injection hs
        have e2 : w :: l = (solV cs xs).1 := by injection hs
        obtain ⟨t, ht⟩ := hV_head cs xs
        have h2 := curL_sol h'
        have e5 := e2
        rw [ht] at e2 h2
        have e3 : w = hV cs xs := by injection e2
        have e4 : l = t := by injection e2
        rw [List.tail_cons, ← e4] at h2
        rw [if_pos (by simp only [curL, e3, h2, e1, hV_cons])]
        exact ih.2 e5
  | [], _ :: _, _, _, _, h, _, _ => by simp at h
  | _ :: _, [], _, _, _, h, _, _ => by simp at h
theorem wr_rng : ∀ {cs xs : List Int} {l : List (Int × Int)} {k : Int}, 0 ≤ k → wr k cs xs l = -1 ∨ k ≤ wr k cs xs l
  | [], _, _, _, _ => Or.inl (by simp [wr])
  | _ :: _, [], _, _, _ => Or.inl (by simp [wr])
  | _ :: _, _ :: _, [], _, _ => Or.inl (by simp [wr])
  | _ :: _, _ :: _, [_], _, _ => Or.inl (by simp [wr])
  | c :: cs, x :: xs, v :: w :: l, k, hk => by
    unfold wr
    split
    · rcases wr_rng (cs := cs) (xs := xs) (l := w :: l) (k := k + 1) (by omega) with h | h
      · exact Or.inl h
      · exact Or.inr (by omega)
    · exact Or.inr (by omega)
end Go.Proofs.Ytagnplbfdaifkaa

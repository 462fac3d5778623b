/- Steel: indexes of knots in the reference (plain). -/
import Derived.Test.YtfkmbdfajpdjjaaGreatDoorF08
import Derived.Test.YtfkmbdfajpdjjaaGreatDoorSteelT
set_option linter.unusedVariables false
set_option linter.unusedSimpArgs false
namespace Go.Proofs.YtfkmbdfajpdjjaaGreatDoor
open Go.Abs

/-- an index, below 0 if there is none -/
def IxOf {α : Type} [Inhabited α] (l : List α) (o : Option α) (z : Int) : Prop := (o = none ∧ z = -1) ∨ ∃ j : Nat, j < l.length ∧ z = j ∧ o = some (l.getD j default)
theorem fold_last {α : Type} [Inhabited α] (p : α → Bool) : ∀ (r : List α) (i t : Int), ∃ z, foldC (ρ := Int) (fun i t x => Ctl.next (if p x = true then i else t)) (fun t => some t) i r t = some z ∧
    ((lastP p r = none ∧ z = t) ∨ ∃ j : Nat, j < r.length ∧ z = i + j ∧ lastP p r = some (r.getD j default))
  | [], i, t => ⟨t, rfl, .inl ⟨rfl, rfl⟩⟩
  | x :: r, i, t => by
    obtain ⟨z, h1, h2⟩ := fold_last p r (i + 1) (if p x = true then i else t)
    refine ⟨z, h1, ?_⟩
    rcases h2 with ⟨h3, h4⟩ | ⟨j, h3, h4, h5⟩
    · by_cases hp : p x = true
      · rw [if_pos hp] at h4
        exact .inr ⟨0, by simp, by omega, by simp only [lastP, h3, if_pos hp]; rfl⟩
      · rw [if_neg hp] at h4
        exact .inl ⟨by simp only [lastP, h3, if_neg hp], h4⟩
    · exact .inr ⟨j + 1, by simpa using h3, by omega, by simp only [lastP, h5]; simp⟩
theorem ix_lead {α : Type} [Inhabited α] (p : α → Bool) (l : List α) : IxOf l (l.find? p) (if lead (fun x => !p x) l < l.length then (lead (fun x => !p x) l : Int) else -1) := by
  rw [find_lead]
  by_cases g : lead (fun x => !p x) l < l.length
  · rw [if_pos g, if_pos g]; exact .inr ⟨_, g, rfl, rfl⟩
  · rw [if_neg g, if_neg g]; exact .inl ⟨rfl, rfl⟩
section
variable {H : List (Int × Int × Int × Int)} {C : List (Int × Int × Int × Int × Int)} {Q : List (Int × Int × Int)} {T : List (Int × Int)} {a b c d : Int}
theorem q33 (k : Int) (hl : H.length < 1000000000) : ∃ z, r101 H C Q T a b c d k = some z ∧ IxOf H (heatAt H k) z := by
  unfold r101 heatAt
  have h := iter_list (τ := Int) H (b101_1 H k) (fun i t => (t, i)) (fun i t x => .next (if decide (x.1 ≤ k) = true then i else t)) (fun t => some t) hl
    (fun i t hi => by
      refine (if_pos (ltN hi)).trans ((if_pos (rgN hi)).trans ?_)
      rw [Int.toNat_natCast, wS i (by omega)]
      by_cases g : (decide ((H.getD i default).1 ≤ k)) = true
      · simp only [g, if_true, mapC]
      · simp only [if_neg g, mapC])
    (fun t => if_neg (by simp)) (-1)
  rw [h]
  obtain ⟨z, h1, h2⟩ := fold_last (fun x : Int × Int × Int × Int => decide (x.1 ≤ k)) H 0 (-1)
  refine ⟨z, h1, ?_⟩
  rcases h2 with h2 | ⟨j, h3, h4, h5⟩
  · exact .inl h2
  · exact .inr ⟨j, h3, by omega, h5⟩
theorem q91 (k : Int) (hl : T.length < 1000000000) : ∃ z, r105 H C Q T a b c d k = some z ∧ IxOf T (tempAt T k) z := by
  unfold r105 tempAt
  have h := iter_list (τ := Int) T (b105_1 T k) (fun i t => (t, i)) (fun i t x => .next (if decide (x.1 ≤ k) = true then i else t)) (fun t => some t) hl
    (fun i t hi => by
      refine (if_pos (ltN hi)).trans ((if_pos (rgN hi)).trans ?_)
      rw [Int.toNat_natCast, wS i (by omega)]
      by_cases g : (decide ((T.getD i default).1 ≤ k)) = true
      · simp only [g, if_true, mapC]
      · simp only [if_neg g, mapC])
    (fun t => if_neg (by simp)) (-1)
  rw [h]
  obtain ⟨z, h1, h2⟩ := fold_last (fun x : Int × Int => decide (x.1 ≤ k)) T 0 (-1)
  refine ⟨z, h1, ?_⟩
  rcases h2 with h2 | ⟨j, h3, h4, h5⟩
  · exact .inl h2
  · exact .inr ⟨j, h3, by omega, h5⟩
theorem q34 (k : Int) (hl : C.length < 1000000000) : ∃ z, r102 H C Q T a b c d k = some z ∧ IxOf C (coolAt C k) z := by
  unfold r102 coolAt
  have h := iter_lead C (b102_1 C k) (fun x => !decide (x.1 ≥ k)) (fun i => some (if i < C.length then i else -1)) hl (fun i hi => by
    refine (if_pos (ltN hi)).trans ((if_pos (rgN hi)).trans ?_)
    rw [wS i (by omega), Int.toNat_natCast]
    by_cases g : (decide ((C.getD i default).1 ≥ k)) = true
    · rw [if_pos g, if_neg (by rw [g]; decide), if_pos (by omega)]
    · rw [if_neg g, if_pos (by simpa using g)]) ((if_neg (by simp)).trans (by simp))
  refine ⟨_, h, ?_⟩
  have := ix_lead (fun x : Int × Int × Int × Int × Int => decide (x.1 ≥ k)) C
  by_cases g : lead (fun x : Int × Int × Int × Int × Int => !decide (x.1 ≥ k)) C < C.length
  · rw [if_pos g] at this; rw [if_pos (by omega)]; exact this
  · rw [if_neg g] at this; rw [if_neg (by omega)]; exact this
theorem q35 (k : Int) (hl : Q.length < 1000000000) : ∃ z, r103 H C Q T a b c d k = some z ∧ IxOf Q (coldAt Q k) z := by
  unfold r103 coldAt
  have h := iter_lead Q (b103_1 Q k) (fun x => !decide (x.1 ≥ k)) (fun i => some (if i < Q.length then i else -1)) hl (fun i hi => by
    refine (if_pos (ltN hi)).trans ((if_pos (rgN hi)).trans ?_)
    rw [wS i (by omega), Int.toNat_natCast]
    by_cases g : (decide ((Q.getD i default).1 ≥ k)) = true
    · rw [if_pos g, if_neg (by rw [g]; decide), if_pos (by omega)]
    · rw [if_neg g, if_pos (by simpa using g)]) ((if_neg (by simp)).trans (by simp))
  refine ⟨_, h, ?_⟩
  have := ix_lead (fun x : Int × Int × Int => decide (x.1 ≥ k)) Q
  by_cases g : lead (fun x : Int × Int × Int => !decide (x.1 ≥ k)) Q < Q.length
  · rw [if_pos g] at this; rw [if_pos (by omega)]; exact this
  · rw [if_neg g] at this; rw [if_neg (by omega)]; exact this
theorem p90 {a m sh : Int} (h1 : 0 ≤ a) (h2 : 0 ≤ m) (h3 : a + m ≤ 2000000) (h4 : 0 ≤ sh) (h5 : sh ≤ 1000000) : r104 a m sh = some (marV a m sh) := by
  have := p118 h1 h2 h3 h4 h5
  exact this
end
end Go.Proofs.YtfkmbdfajpdjjaaGreatDoor

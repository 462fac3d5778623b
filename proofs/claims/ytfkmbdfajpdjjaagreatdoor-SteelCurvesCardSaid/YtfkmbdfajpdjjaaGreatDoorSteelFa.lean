/- SteelFaster as a plain law. -/
import Derived.Test.YtfkmbdfajpdjjaaGreatDoorF02
import Derived.Test.YtfkmbdfajpdjjaaGreatDoorF03
import Derived.Test.YtfkmbdfajpdjjaaGreatDoorF12
import Derived.Test.YtfkmbdfajpdjjaaGreatDoorSteelCe
set_option linter.unusedVariables false
set_option linter.unusedSimpArgs false
namespace Go.Proofs.YtfkmbdfajpdjjaaGreatDoor
open Go.Abs

theorem p24 (l : List Int) (h : l.length < 1000000000) : r13 l = some l := by
  unfold r13; rw [if_pos ⟨by omega, by omega⟩]
/-- the state after a curve -/
def runV (H : List (Int × Int × Int × Int)) (C : List (Int × Int × Int × Int × Int)) (Q : List (Int × Int × Int)) (T : List (Int × Int)) (ph pc pq : Int) : List Int → St7 → St7
  | [], x => x
  | k :: l, x => runV H C Q T ph pc pq l (stepV H C Q T k ph pc pq x.1 x.2.1 x.2.2.1 x.2.2.2.1 x.2.2.2.2.1 x.2.2.2.2.2.1 x.2.2.2.2.2.2)
theorem p74 (l : List Int) (hl : l.length < 1000000000) : r49 l = some (curveE l) := by
  have h : r111a l = some (if lead (fun x => inR x 1 3000) l < l.length then (lead (fun x => inR x 1 3000) l : Int) else -1) := by
    unfold r111a
    have h := iter_lead l (b111a_1 l) (fun x => inR x 1 3000) (fun i => some (if i < l.length then i else -1)) hl (fun i hi => by
      refine (if_pos (ltN hi)).trans ((if_pos (rgN hi)).trans ?_)
      rw [wS i (by omega)]
      show (if (!inR (l.getD i default) 1 3000) = true then _ else _) = _
      by_cases g : inR (l.getD i default) 1 3000 = true
      · rw [if_neg (by rw [g]; decide), if_pos g]
      · rw [if_pos (by simpa using g), if_neg g, if_pos (by omega)]) ((if_neg (by simp)).trans (by simp))
    rw [h]
    congr 1
    by_cases g : lead (fun x => inR x 1 3000) l < l.length
    · rw [if_pos g, if_pos (by omega)]
    · rw [if_neg g, if_neg (by omega)]
  have hz : ∀ r : List Int, firstV (r.map kelE) = if lead (fun x => inR x 1 3000) r < r.length then 2 else 0 := by
    intro r
    induction r with
    | nil => rfl
    | cons x r ih =>
      unfold lead
      by_cases g : inR x 1 3000 = true
      · simp only [List.map_cons, firstV, kelE, g, if_true, List.length_cons]
        rw [ih]
        by_cases g2 : lead (fun x => inR x 1 3000) r < r.length
        · rw [if_pos g2, if_pos (by omega)]
        · rw [if_neg g2, if_neg (by omega)]
      · simp only [List.map_cons, firstV, kelE, if_neg g, List.length_cons]
        rw [if_neg (by decide), if_pos (by omega)]
  unfold r49 r83a
  rw [h, Option.bind_some, Option.bind_some, p68, Option.bind_some, p68, Option.bind_some, p67 _ (by simp), Option.bind_some]
  unfold curveE
  rw [firstV2, hz]
  by_cases h2 : 200 < l.length
  · have : (decide ((l.length : Int) ≤ 200)) = false := decide_eq_false (by omega)
    rw [this, if_pos h2]; rfl
  · have : (decide ((l.length : Int) ≤ 200)) = true := decide_eq_true (by omega)
    rw [this, if_neg h2]
    by_cases g : lead (fun x => inR x 1 3000) l < l.length
    · rw [if_pos g, if_pos g]
      have : (decide ((lead (fun x => inR x 1 3000) l : Int) ≥ 0)) = true := decide_eq_true (by omega)
      rw [this]; rfl
    · rw [if_neg g, if_neg g]; rfl
section
variable {H : List (Int × Int × Int × Int)} {C : List (Int × Int × Int × Int × Int)} {Q : List (Int × Int × Int)} {T : List (Int × Int)} {a b c d : Int}
theorem p75 (ok : KnOk H C Q T) {ph pc pq p s e m w g t : Int} (hph : 0 ≤ ph ∧ ph ≤ 1000) (hpc : 0 ≤ pc ∧ pc ≤ 1000) (hpq : 0 ≤ pq ∧ pq ≤ 1000) (l : List Int) (hl : l.length < 1000000000) (st : StOk p s e m w g t) :
    r55 H C Q T a b c d p s e m w g t l ph pc pq = some (runV H C Q T ph pc pq l (p, s, e, m, w, g, t)) := by
  unfold r55
  have key : ∀ (k i fuel : Nat) (x : St7), i + k = l.length → k < fuel → StO x → iterC (b55_1 H C Q T a b c d l ph pc pq) fuel ((i : Int), x) = some (runV H C Q T ph pc pq (l.drop i) x) := by
    intro k
    induction k with
    | zero =>
      intro i fuel x hi hf hx
      obtain ⟨n, rfl⟩ : ∃ n, fuel = n + 1 := ⟨fuel - 1, by omega⟩
      obtain rfl : i = l.length := by omega
      have : b55_1 H C Q T a b c d l ph pc pq ((l.length : Int), x) = .out (some x) := if_neg (by simp)
      simp only [iterC, this, List.drop_length, runV]
    | succ k ih =>
      intro i fuel x hi hf hx
      obtain ⟨n, rfl⟩ : ∃ n, fuel = n + 1 := ⟨fuel - 1, by omega⟩
      have hlt : i < l.length := by omega
      have hd : l.drop i = l.getD i default :: l.drop (i + 1) := by
        rw [List.drop_eq_getElem_cons hlt]; simp [List.getD_eq_getElem?_getD, hlt]
      obtain ⟨p, s, e, m, w, g, t⟩ := x
      have hx : StOk p s e m w g t := hx
      have e1 : b55_1 H C Q T a b c d l ph pc pq ((i : Int), p, s, e, m, w, g, t) = .next ((i : Int) + 1, stepV H C Q T (l.getD i default) ph pc pq p s e m w g t) := by
        refine (if_pos (ltN hlt)).trans ((if_pos (rgN hlt)).trans ?_)
        show bindC (r97 H C Q T a b c d p s e m w g t (l.getD i default) ph pc pq) _ = _
        rw [p85 H C Q T a b c d ok hph hpc hpq hx]
        show Ctl.next (IntKind.i64.wrap ((i : Int) + 1), _) = _
        rw [wS i (by omega)]
      simp only [iterC, e1]
      rw [hd]
      exact ih (i + 1) n _ (by omega) (by omega) (step_ok ok hph hpc hpq hx).1
  exact key l.length 0 1000000000 (p, s, e, m, w, g, t) (by omega) hl st
end
end Go.Proofs.YtfkmbdfajpdjjaaGreatDoor

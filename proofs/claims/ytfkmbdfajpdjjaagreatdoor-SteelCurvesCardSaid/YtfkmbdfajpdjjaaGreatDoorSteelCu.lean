/- SteelCurves as a plain law: parts. -/
import Derived.Test.YtfkmbdfajpdjjaaGreatDoorF13
import Derived.Test.YtfkmbdfajpdjjaaGreatDoorSteelPg
import Derived.Test.YtfkmbdfajpdjjaaGreatDoorSteelSt
set_option linter.unusedVariables false
set_option linter.unusedSimpArgs false
namespace Go.Proofs.YtfkmbdfajpdjjaaGreatDoor
open Go.Abs

/-- the indexes of elements with a property -/
def selF (q : List Int → Bool) : Int → List (List Int) → List Int
  | _, [] => []
  | i, c :: r => if q c = true then i :: selF q (i + 1) r else selF q (i + 1) r
theorem iter_sel {ρ : Type} (l : List (List Int)) (hl : l.length < 1000000000) (B : List Int × Int → Ctl (List Int × Int) ρ) (q : List Int → Bool) (fin : List Int → Option ρ)
    (step : ∀ (i : Nat) (acc : List Int), i < l.length → acc.length ≤ i → B (acc, (i : Int)) = .next (if q (l.getD i default) = true then acc ++ [(i : Int)] else acc, (i : Int) + 1)) (stop : ∀ acc : List Int, acc.length ≤ l.length → B (acc, (l.length : Int)) = .out (fin acc)) :
    iterC B 1000000000 ([], 0) = fin (selF q 0 l) := by
  have key : ∀ (k i fuel : Nat) (acc : List Int), i + k = l.length → k < fuel → acc.length ≤ i → iterC B fuel (acc, (i : Int)) = fin (acc ++ selF q (i : Int) (l.drop i)) := by
    intro k
    induction k with
    | zero =>
      intro i fuel acc hi hf ha
      obtain ⟨m, rfl⟩ : ∃ m, fuel = m + 1 := ⟨fuel - 1, by omega⟩
      obtain rfl : i = l.length := by omega
      simp only [iterC, stop acc ha, List.drop_length, selF, List.append_nil]
    | succ k ih =>
      intro i fuel acc hi hf ha
      obtain ⟨m, rfl⟩ : ∃ m, fuel = m + 1 := ⟨fuel - 1, by omega⟩
      have hlt : i < l.length := by omega
      have hd : l.drop i = l.getD i default :: l.drop (i + 1) := by
        rw [List.drop_eq_getElem_cons hlt]; simp [List.getD_eq_getElem?_getD, hlt]
      simp only [iterC, step i acc hlt ha]
      rw [hd]
      by_cases hq : q (l.getD i default) = true
      · rw [if_pos hq]
        have := ih (i + 1) m (acc ++ [(i : Int)]) (by omega) (by omega) (by simp; omega)
        simp only [selF, if_pos hq]
        rw [show ((i : Int) + 1) = ((i + 1 : Nat) : Int) by omega, this, List.append_assoc]; rfl
      · rw [if_neg hq]
        have := ih (i + 1) m acc (by omega) (by omega) (by omega)
        simp only [selF, if_neg hq]
        rw [show ((i : Int) + 1) = ((i + 1 : Nat) : Int) by omega, this]
  have := key l.length 0 1000000000 [] (by omega) hl (by simp)
  simpa using this
theorem sel_len (q : List Int → Bool) : ∀ (l : List (List Int)) (i : Int), (selF q i l).length ≤ l.length
  | [], _ => Nat.le_refl _
  | c :: r, i => by
    have := sel_len q r (i + 1)
    unfold selF; split <;> simp <;> omega
section
variable {H : List (Int × Int × Int × Int)} {C : List (Int × Int × Int × Int × Int)} {Q : List (Int × Int × Int)} {T : List (Int × Int)} {a b c d : Int}
def stepsB (H : List (Int × Int × Int × Int)) (C : List (Int × Int × Int × Int × Int)) (Q : List (Int × Int × Int)) (T : List (Int × Int)) : List Int → BxV → BxV
  | [], x => x
  | k :: l, x => stepsB H C Q T l (boxV H C Q T k x)
theorem range_one (k : Int) (x : BxV) : rangeV H C Q T k k x = boxV H C Q T k x := by
  unfold rangeV
  rw [show (k - k).toNat = 0 by omega]; rfl
theorem run_single : ∀ (l : List Int) (x : BxV), runB H C Q T (l.map fun n => (n, n)) x = stepsB H C Q T l x
  | [], x => rfl
  | k :: l, x => by
    show runB H C Q T (l.map fun n => (n, n)) (rangeV H C Q T k k x) = _
    rw [range_one, run_single l]; rfl
theorem BI.steps (ok : KnOk H C Q T) : ∀ (l : List Int) {x : BxV}, BI x → BI (stepsB H C Q T l x)
  | [], _, h => h
  | k :: l, _, h => BI.steps ok l (h.step ok k)
theorem iter_steps {ρ : Type} (ok : KnOk H C Q T) {B : Int × B14 → Ctl (Int × B14) ρ} (l : List Int) (hl : l.length < 1000000000) (out : BxV → Option ρ)
    (step : ∀ (i : Nat) (x : BxV), i < l.length → BI x → B ((i : Int), tB x) = .next ((i : Int) + 1, tB (boxV H C Q T (l.getD i default) x))) (stop : ∀ x, B ((l.length : Int), tB x) = .out (out x)) {x : BxV} (h : BI x) :
    iterC B 1000000000 (0, tB x) = out (stepsB H C Q T l x) := by
  have key : ∀ (k i fuel : Nat) (x : BxV), i + k = l.length → k < fuel → BI x → iterC B fuel ((i : Int), tB x) = out (stepsB H C Q T (l.drop i) x) := by
    intro k
    induction k with
    | zero =>
      intro i fuel x hi hf hx
      obtain ⟨n, rfl⟩ : ∃ n, fuel = n + 1 := ⟨fuel - 1, by omega⟩
      obtain rfl : i = l.length := by omega
      simp only [iterC, stop, List.drop_length, stepsB]
    | succ k ih =>
      intro i fuel x hi hf hx
      obtain ⟨n, rfl⟩ : ∃ n, fuel = n + 1 := ⟨fuel - 1, by omega⟩
      have hlt : i < l.length := by omega
      have hd : l.drop i = l.getD i default :: l.drop (i + 1) := by
        rw [List.drop_eq_getElem_cons hlt]; simp [List.getD_eq_getElem?_getD, hlt]
      simp only [iterC, step i x hlt hx]
      rw [hd]
      exact ih (i + 1) n _ (by omega) (by omega) (hx.step ok _)
  exact key l.length 0 1000000000 x (by omega) hl h
/-- the incubation: it depends on the wait and one part of a steel alone -/
def waitV (H : List (Int × Int × Int × Int)) (C : List (Int × Int × Int × Int × Int)) (pc k w : Int) : Int :=
  match heatAt H k with
  | some _ => 0
  | none => match coolAt C k with
    | none => w
    | some x => capV (w + pkV x.2.1 x.2.2.1 pc) 1000000
theorem step_wait (k ph pc pq p s e m w g t : Int) : (stepV H C Q T k ph pc pq p s e m w g t).2.2.2.2.1 = waitV H C pc k w := by
  unfold stepV waitV
  cases heatAt H k with
  | some x => rfl
  | none =>
    cases coolAt C k with
    | none => rfl
    | some x =>
      show (coldV (some x) (coldAt Q k) (tempAt T k) pc pq p s e m w g t).2.2.2.2.1 = capV (w + pkV x.2.1 x.2.2.1 pc) 1000000
      unfold coldV
      dsimp only
      by_cases h : capV (w + pkV x.2.1 x.2.2.1 pc) 1000000 = 1000000
      · rw [if_pos h]; rfl
      · rw [if_neg h]; rfl
theorem run_wait (ph pq ph' pq' pc : Int) : ∀ (l : List Int) (x y : St7), x.2.2.2.2.1 = y.2.2.2.2.1 → (runV H C Q T ph pc pq l x).2.2.2.2.1 = (runV H C Q T ph' pc pq' l y).2.2.2.2.1
  | [], x, y, h => h
  | k :: l, x, y, h => by
    refine run_wait ph pq ph' pq' pc l _ _ ?_
    rw [step_wait, step_wait, h]
theorem z12 (hf : H.length ≤ 10 ∧ C.length ≤ 10 ∧ Q.length ≤ 10 ∧ T.length ≤ 10) {v : Int × Int} (hv : rulV H C Q T a b c d = some v) (l : List Int) (hl : l.length < 1000000000) :
    ∃ v12 : Int × Int, r12 H C Q T a b c d l = some v12 ∧ ((if v.2 = 0 then curveE l else v.2) ≠ 0 → v12 = (0, if v.2 = 0 then curveE l else v.2)) ∧
      ((if v.2 = 0 then curveE l else v.2) = 0 → ∃ w, v12 = (w, 0) ∧ r15 H C Q T a b c d l = some w) := by
  have e : firstV [v.2, curveE l] = if v.2 = 0 then curveE l else v.2 := by rw [firstV2]
  unfold r12
  rw [p73 hf hv, Option.bind_some, p74 l hl, Option.bind_some, p67 _ (by simp), Option.bind_some, e]
  by_cases h : (if v.2 = 0 then curveE l else v.2) = 0
  · have h0 : v.2 = 0 := by
      by_cases g : v.2 = 0
      · exact g
      · rw [if_neg g] at h; exact absurd h g
    have hc : curveE l = 0 := by rw [if_pos h0] at h; exact h
    have ok := (rul_of hv h0).toKnOk
    have s1 : StOk 1000000 0 0 0 0 0 0 := ⟨by omega, by omega, by omega, by omega, by omega, by omega, by omega, by omega⟩
    have s2 : StOk 0 1000000 0 0 0 0 0 := ⟨by omega, by omega, by omega, by omega, by omega, by omega, by omega, by omega⟩
    have z : (0 : Int) ≤ 0 ∧ (0 : Int) ≤ 1000 := by decide
    have z1 : (0 : Int) ≤ 1000 ∧ (1000 : Int) ≤ 1000 := by decide
    refine ⟨_, (if_neg (by rw [h]; decide)).trans (by rw [p75 ok z z1 z l hl s1]; rfl), fun g => absurd h g, fun _ => ⟨_, rfl, ?_⟩⟩
    unfold r15
    rw [p40 ok z1 z1 z1 l hl s2, Option.bind_some]
    congr 1
    exact run_wait _ _ _ _ _ l _ _ rfl
  · exact ⟨_, if_pos (by simpa using h), fun _ => rfl, fun g => absurd g h⟩
end
/-- the error of a range of hardness -/
def hrdR (lo hi : Int) : Int := if (inR lo 0 2000 && inR hi 0 2000) = true then (if lo ≤ hi then 0 else 9) else 2
theorem z50 (lo hi : Int) : r50 lo hi = some (hrdR lo hi) := by
  have e75 : ∀ n, r75 n = some (inR n 0 2000) := fun n => rfl
  unfold r50 hrdR
  simp only [e75, Option.bind_some, Option.isSome_some, implies_true, if_true, Option.getD_some, p68, p67 _ (show ([codeIf (inR lo 0 2000 && inR hi 0 2000) 2, codeIf (decide (lo ≤ hi)) 9] : List Int).length < 1000000000 by simp)]
  unfold codeIf
  by_cases h1 : (inR lo 0 2000 && inR hi 0 2000) = true
  · by_cases h2 : lo ≤ hi <;> simp [h1, h2, firstV]
  · simp [h1, firstV]
theorem z59 (lo hi : Int) : r59 lo hi = some (hrdR lo hi) := by
  unfold r59 hrdR
  simp only [p29, Option.bind_some, Option.isSome_some, implies_true, if_true, Option.getD_some]
  by_cases h1 : inR lo 0 2000 = true
  · by_cases h2 : inR hi 0 2000 = true
    · refine (if_neg (by simp [h1, h2])).trans ?_
      by_cases h3 : lo ≤ hi
      · refine (if_neg (by simp; omega)).trans ?_
        simp [h1, h2, h3]
      · refine (if_pos (by simp; omega)).trans ?_
        simp [h1, h2, h3]
    · refine (if_pos (by simp [h2])).trans ?_
      simp [h2]
  · refine (if_pos (by simp [h1])).trans ?_
    simp [h1]
def wantE (l : List (List Int)) (lo hi : Int) : Int := if 12 < l.length then 8 else firstV (l.map curveE ++ [hrdR lo hi])
theorem z17 (l : List (List Int)) (lo hi : Int) (hl : l.length ≤ 14) (hc : ∀ x ∈ l, x.length ≤ 202) : r17 l lo hi = some (wantE l lo hi) := by
  unfold r17 wantE
  by_cases h : 12 < l.length
  · rw [if_pos h]; exact if_pos (by simp; omega)
  · rw [if_neg h]
    refine (if_neg (by simp; omega)).trans ?_
    have h := iter_list (τ := Unit) l (b17_1 l lo hi) (fun i _ => i) (fun _ _ x => if curveE x = 0 then .next () else .out (some (curveE x))) (fun _ => some (hrdR lo hi)) (by omega)
      (fun i t hi2 => by
        refine (if_pos (ltN hi2)).trans ((if_pos (rgN hi2)).trans ?_)
        have h1 := hc _ (getD_mem hi2)
        rw [Int.toNat_natCast, p22 _ (by omega), wS i (by omega)]
        show (if (curveE (l.getD i default) != 0) = true then _ else _) = _
        generalize curveE (l.getD i default) = z
        by_cases hz : z = 0
        · simp only [hz, if_true, mapC]; rfl
        · simp only [if_neg hz, mapC]; exact if_pos (by simpa using hz))
      (fun t => (if_neg (by simp)).trans (by rw [z59]; rfl)) ()
    rw [h]
    have key : ∀ (r : List (List Int)) (i : Int), foldC (fun _ _ x => if curveE x = 0 then Ctl.next () else .out (some (curveE x))) (fun _ : Unit => some (hrdR lo hi)) i r () = some (firstV (r.map curveE ++ [hrdR lo hi])) := by
      intro r
      induction r with
      | nil =>
        intro i
        show some (hrdR lo hi) = some (firstV [hrdR lo hi])
        simp only [firstV]
        by_cases h : hrdR lo hi = 0 <;> simp [h]
      | cons x r ih =>
        intro i
        by_cases hx : curveE x = 0
        · simp only [foldC, hx, if_true, List.map_cons, List.cons_append, firstV]; exact ih _
        · simp only [foldC, if_neg hx, List.map_cons, List.cons_append, firstV]
    exact key l 0
theorem z10 (l : List (List Int)) (lo hi : Int) (hl : l.length ≤ 14) (hc : ∀ x ∈ l, x.length ≤ 202) : r10 l lo hi = some (l, lo, hi) := by
  unfold r10
  have key : ∀ (k i fuel : Nat), i + k = l.length → k < fuel → iterC (b10_1 l lo hi) fuel ((i : Int), l.take i) = some (l, lo, hi) := by
    intro k
    induction k with
    | zero =>
      intro i fuel hi' hf
      obtain ⟨m, rfl⟩ : ∃ m, fuel = m + 1 := ⟨fuel - 1, by omega⟩
      obtain rfl : i = l.length := by omega
      have : b10_1 l lo hi ((l.length : Int), l.take l.length) = .out (some (l, lo, hi)) := (if_neg (by simp)).trans (by rw [List.take_length])
      simp only [iterC, this]
    | succ k ih =>
      intro i fuel hi' hf
      obtain ⟨m, rfl⟩ : ∃ m, fuel = m + 1 := ⟨fuel - 1, by omega⟩
      have hlt : i < l.length := by omega
      have h1 := hc _ (getD_mem hlt)
      have : b10_1 l lo hi ((i : Int), l.take i) = .next ((i : Int) + 1, l.take (i + 1)) := by
        refine (if_pos (ltN hlt)).trans ((if_pos (rgN hlt)).trans ?_)
        rw [Int.toNat_natCast, p24 _ (by omega)]
        have ht : (l.take i).length ≤ 14 := by rw [List.length_take]; omega
        refine (if_pos ⟨by dsimp only; omega, by dsimp only; omega⟩).trans ?_
        rw [wS i (by omega), List.take_add_one]
        simp [List.getD_eq_getElem?_getD, hlt]
      simp only [iterC, this]
      have := ih (i + 1) m (by omega) (by omega)
      simpa using this
  have := key l.length 0 1000000000 (by omega) (by omega)
  simpa using this
theorem z18 (l : List Int) (hl : l.length < 1000000000) : r18 l l = some true := by
  unfold r18
  refine (if_neg (by simp)).trans ?_
  refine iter_ex l.length hl (b18_1 l l) (fun _ => True) (fun i hi => .inr ⟨trivial, ?_⟩) (fun _ => if_neg (by simp))
  refine (if_pos (ltN hi)).trans ((if_pos (rgN hi)).trans ((if_pos (rgN hi)).trans ((if_neg (by simp)).trans ?_)))
  rw [wS i (by omega)]
end Go.Proofs.YtfkmbdfajpdjjaaGreatDoor

/- SteelCases as a plain law. -/
import Derived.Test.YtfkmbdfajpdjjaaDoorSteelA
import Derived.Test.YtfkmbdfajpdjjaaDoorF17
set_option linter.unusedVariables false
set_option linter.unusedSimpArgs false
namespace Go.Proofs.YtfkmbdfajpdjjaaDoor
open Go.Abs

/-- the error of a range of hardness -/
def hardE (x : Int × Int) : Int := if inR x.1 0 2000 && inR x.2 0 2000 then (if x.1 ≤ x.2 then 0 else 9) else 2
theorem p76 (a b : Int) : r76 a b = some (hardE (a, b)) := by
  unfold r76 r77 hardE
  simp only [p66, Option.bind_some, p68, Option.isSome_some, Option.getD_some, gS]
  rw [p67 _ (by simp), Option.bind_some]
  cases inR a 0 2000 <;> cases inR b 0 2000 <;> simp [codeIf, firstV]
theorem p83 (a b : Int) : r83 a b = some (hardE (a, b)) := by
  unfold r83 hardE
  simp only [p29, Option.bind_some, Option.isSome_some, implies_true, if_true, Option.getD_some]
  by_cases h : a ≤ b
  · have h2 : ¬ b < a := by omega
    by_cases ha : inR a 0 2000 = true <;> by_cases hb : inR b 0 2000 = true <;> simp [ha, hb, h, h2]
  · have h2 : b < a := by omega
    by_cases ha : inR a 0 2000 = true <;> by_cases hb : inR b 0 2000 = true <;> simp [ha, hb, h, h2]
def caseE (l : List (Int × Int)) (a : Int) : Int := if 12 < l.length then 8 else firstV (l.map hardE ++ [codeIf (inR a 0 2000) 2])
def caseLo (l : List (Int × Int)) (a : Int) : Nat := lead (fun x => decide (a ≤ x.1)) l
def caseHi (l : List (Int × Int)) (a : Int) : Nat := lead (fun x => decide (a ≤ x.2)) l
theorem q25_3 (l : List (Int × Int)) (a s : Int) (hl : l.length < 1000000000) : iterC (b25_3 l a s) 1000000000 0 = some (s, (caseHi l a : Int), 0) := by
  refine iter_lead l _ (fun x => decide (a ≤ x.2)) (fun i => some (s, i, 0)) hl (fun i hi => ?_) (by simp [b25_3])
  simp only [b25_3, ltN hi, if_true, if_pos (rgN hi), Int.toNat_natCast, wS i (by omega), r82, bindC]
  generalize l.getD i default = x
  by_cases h : a ≤ x.2
  · have : ¬ x.2 < a := by omega
    simp [h, this]
  · have : x.2 < a := by omega
    simp [h, this]
theorem q25_6 (l : List (Int × Int)) (a : Int) (hl : l.length < 1000000000) : iterC (b25_6 l a) 1000000000 0 = some ((l.length : Int), (caseHi l a : Int), 0) := by
  refine iter_lead l _ (fun x => decide (a ≤ x.2)) (fun i => some ((l.length : Int), i, 0)) hl (fun i hi => ?_) (by simp [b25_6])
  simp only [b25_6, ltN hi, if_true, if_pos (rgN hi), Int.toNat_natCast, wS i (by omega), r82, bindC]
  generalize l.getD i default = x
  by_cases h : a ≤ x.2
  · have : ¬ x.2 < a := by omega
    simp [h, this]
  · have : x.2 < a := by omega
    simp [h, this]
theorem q25_2 (l : List (Int × Int)) (a : Int) (hl : l.length < 1000000000) : iterC (b25_2 l a) 1000000000 0 = some ((caseLo l a : Int), (caseHi l a : Int), 0) := by
  refine iter_lead l _ (fun x => decide (a ≤ x.1)) (fun i => some (i, (caseHi l a : Int), 0)) hl (fun i hi => ?_) (by simp [b25_2, q25_6 l a hl])
  simp only [b25_2, ltN hi, if_true, if_pos (rgN hi), Int.toNat_natCast, wS i (by omega), r81, bindC, q25_3 l a i hl]
  generalize l.getD i default = x
  by_cases h : a ≤ x.1
  · have : ¬ x.1 < a := by omega
    simp [h, this]
  · have : x.1 < a := by omega
    simp [h, this]
def caseR (l : List (Int × Int)) (a : Int) : Int × Int × Int := if caseE l a = 0 then ((caseLo l a : Int), (caseHi l a : Int), 0) else (0, 0, caseE l a)
theorem p25 (l : List (Int × Int)) (a : Int) (hl : l.length < 1000000000) : r25 l a = some (caseR l a) := by
  unfold r25
  rw [p68, Option.bind_some]
  have h := iter_list (τ := Int) l (b25_1 l a) (fun i t => (t, i)) (fun _ t x => .next (firstV [t, hardE x])) (fun t => if firstV [t, codeIf (inR a 0 2000) 2] = 0 then some ((caseLo l a : Int), (caseHi l a : Int), 0) else some (0, 0, firstV [t, codeIf (inR a 0 2000) 2])) hl
    (fun i t hi => by
      simp only [b25_1, ltN hi, if_true, if_pos (rgN hi), Int.toNat_natCast, wS i (by omega), p76, bindC]
      rw [p67 _ (by simp)]; rfl)
    (fun t => by
      simp only [b25_1, geN, Bool.false_eq_true, if_false, r77, p66, Option.bind_some, p68]
      rw [p67 _ (by simp), Option.bind_some, q25_2 l a hl]
      by_cases h : firstV [t, codeIf (inR a 0 2000) 2] = 0 <;> simp [h]) (codeIf (decide ((l.length : Int) ≤ 12)) 8)
  rw [h]
  have key : ∀ (r : List (Int × Int)) (i t : Int), foldC (fun _ t x => Ctl.next (firstV [t, hardE x])) (fun t => if firstV [t, codeIf (inR a 0 2000) 2] = 0 then some ((caseLo l a : Int), (caseHi l a : Int), (0 : Int)) else some (0, 0, firstV [t, codeIf (inR a 0 2000) 2])) i r t =
      if firstV (t :: (r.map hardE ++ [codeIf (inR a 0 2000) 2])) = 0 then some ((caseLo l a : Int), (caseHi l a : Int), 0) else some (0, 0, firstV (t :: (r.map hardE ++ [codeIf (inR a 0 2000) 2]))) := by
    intro r
    induction r with
    | nil => intro i t; rfl
    | cons x r ih =>
      intro i t
      simp only [foldC]
      rw [ih]
      have : firstV (firstV [t, hardE x] :: (r.map hardE ++ [codeIf (inR a 0 2000) 2])) = firstV (t :: ((x :: r).map hardE ++ [codeIf (inR a 0 2000) 2])) := by
        simp only [List.map_cons, List.cons_append]
        exact firstV_fold t (hardE x) _
      rw [this]
  rw [key]
  unfold caseR caseE
  by_cases h12 : 12 < l.length
  · have h2 : (decide ((l.length : Int) ≤ 12)) = false := by simp; omega
    rw [h2]; simp [codeIf, firstV, h12]
  · have h2 : (decide ((l.length : Int) ≤ 12)) = true := by simp; omega
    rw [h2, show codeIf true 8 = 0 from rfl, if_neg h12]
    show (if firstV (0 :: (l.map hardE ++ [codeIf (inR a 0 2000) 2])) = 0 then _ else _) = _
    rw [show firstV (0 :: (l.map hardE ++ [codeIf (inR a 0 2000) 2])) = firstV (l.map hardE ++ [codeIf (inR a 0 2000) 2]) from rfl]
    generalize firstV (l.map hardE ++ [codeIf (inR a 0 2000) 2]) = z
    by_cases hz : z = 0 <;> simp [hz]
theorem p27 (l : List (Int × Int)) (a : Int) (hl : l.length < 1000000000) : r27 l a = some (caseE l a) := by
  unfold r27 caseE
  by_cases h12 : 12 < l.length
  · have h2 : (decide ((l.length : Int) > 12)) = true := by simp; omega
    rw [h2]; simp [h12]
  · have h2 : (decide ((l.length : Int) > 12)) = false := by simp; omega
    rw [h2]; simp only [Bool.false_eq_true, if_false, if_neg h12]
    have h := iter_list (τ := Unit) l (b27_1 l a) (fun i _ => i) (fun _ _ x => if hardE x = 0 then .next () else .out (some (hardE x))) (fun _ => some (codeIf (inR a 0 2000) 2)) hl
      (fun i t hi => by
        simp only [b27_1, ltN hi, if_true, if_pos (rgN hi), Int.toNat_natCast, wS i (by omega), p83, bindC]
        show (if (hardE (l.getD i default) != 0) = true then _ else _) = _
        generalize hardE (l.getD i default) = x
        by_cases hx : x = 0 <;> simp [hx, mapC])
      (fun t => by
        simp only [b27_1, geN, Bool.false_eq_true, if_false, p29, Option.bind_some]
        cases inR a 0 2000 <;> simp [codeIf]) ()
    rw [h]
    have key : ∀ (r : List (Int × Int)) (i : Int), foldC (fun _ _ x => if hardE x = 0 then Ctl.next () else .out (some (hardE x))) (fun _ : Unit => some (codeIf (inR a 0 2000) 2)) i r () = some (firstV (r.map hardE ++ [codeIf (inR a 0 2000) 2])) := by
      intro r
      induction r with
      | nil => intro i; cases inR a 0 2000 <;> rfl
      | cons x r ih =>
        intro i
        by_cases hx : hardE x = 0
        · simp only [foldC, hx, if_true, List.map_cons, List.cons_append, firstV]; exact ih _
        · simp only [foldC, if_neg hx, List.map_cons, List.cons_append, firstV]
    exact key l 0
theorem p28 (l : List (Int × Int)) (a : Int) (hl : l.length < 1000000000) : r28 l a = some ((caseLo l a : Int), (caseHi l a : Int)) := by
  have h2 : ∀ s : Int, iterC (b28_2 l a s) 1000000000 0 = some (s, (caseHi l a : Int)) := fun s => by
    refine iter_lead l _ (fun x => decide (a ≤ x.2)) (fun i => some (s, i)) hl (fun i hi => ?_) (by simp [b28_2])
    simp only [b28_2, ltN hi, if_true, if_pos (show (True → _) from fun _ => rgN hi), true_implies, if_pos (rgN hi), Int.toNat_natCast, wS i (by omega), Bool.true_and, ge_iff_le]
  refine iter_lead l _ (fun x => decide (a ≤ x.1)) (fun i => some (i, (caseHi l a : Int))) hl (fun i hi => ?_) (by simp [b28_1, h2])
  simp only [b28_1, ltN hi, if_true, true_implies, if_pos (rgN hi), Int.toNat_natCast, wS i (by omega), Bool.true_and, h2, ge_iff_le]
theorem p26 (l : List (Int × Int)) (hl : l.length < 1000000000) : r26 l = some l := by
  unfold r26; rw [if_pos ⟨by omega, by omega⟩]
theorem awake : r12 = some true := by decide +kernel
theorem firstV_zero {l : List Int} (h : firstV l = 0) : ∀ x ∈ l, x = 0 := by
  induction l with
  | nil => intro x hx; cases hx
  | cons y l ih =>
    unfold firstV at h
    split at h
    · rename_i hy
      intro x hx
      rcases List.mem_cons.1 hx with rfl | hx
      · exact hy
      · exact ih h x hx
    · rename_i hy; exact absurd h hy
theorem caseE_zero {l : List (Int × Int)} {a : Int} (h : caseE l a = 0) : (0 ≤ a ∧ a ≤ 2000) ∧ ∀ x ∈ l, x.1 ≤ x.2 := by
  unfold caseE at h
  split at h
  · exact absurd h (by decide)
  · have hz := firstV_zero h
    refine ⟨?_, fun x hx => ?_⟩
    · have := hz (codeIf (inR a 0 2000) 2) (by simp)
      unfold codeIf at this
      split at this
      · rename_i h1; exact inR_iff.1 h1
      · exact absurd this (by decide)
    · have := hz (hardE x) (by simp only [List.mem_append, List.mem_map]; exact .inl ⟨x, hx, rfl⟩)
      unfold hardE at this
      split at this
      · split at this
        · rename_i h2; exact h2
        · exact absurd this (by decide)
      · exact absurd this (by decide)
theorem cases_law (l : List (Int × Int)) (a more : Int) : r5 l a more = some true := by
  unfold r5
  rw [awake, Option.bind_some, if_neg (by simp)]
  by_cases h14 : 14 < l.length
  · rw [if_pos (by simp; omega)]
  · have hl : l.length < 1000000000 := by omega
    rw [if_neg (by simp; omega), p26 l hl, Option.bind_some, p25 l a hl, Option.bind_some, p27 l a hl, Option.bind_some]
    unfold caseR
    by_cases he : caseE l a = 0
    · obtain ⟨ha, hle⟩ := caseE_zero he
      rw [if_neg (by simp [he]), if_pos he, p28 l a hl]
      simp only [Option.isSome_some, implies_true, if_true, Option.getD_some, beq_self_eq_true, Bool.true_and, Bool.not_true, Bool.or_false, bne_self_eq_false, Bool.false_eq_true, if_false]
      rw [p29, Option.bind_some]
      cases hm : inR more 0 2000 with
      | false => simp [p27 l _ hl]
      | true =>
        obtain ⟨m1, m2⟩ := inR_iff.1 hm
        rw [wI (by omega) (by omega), p27 l _ hl]
        simp only [Option.isSome_some, implies_true, if_true, Bool.not_true, Bool.false_or, Option.getD_some]
        by_cases h2 : caseE l (a + more) = 0
        · rw [if_neg (by simp [h2]), p25 l _ hl, Option.bind_some]
          unfold caseR
          rw [if_pos h2]
          have g1 : caseLo l (a + more) ≤ caseLo l a := lead_mono (fun x hx h => by simp only [decide_eq_true_eq] at h ⊢; omega)
          have g2 : caseHi l (a + more) ≤ caseHi l a := lead_mono (fun x hx h => by simp only [decide_eq_true_eq] at h ⊢; omega)
          have g3 : caseLo l a ≤ caseHi l a := lead_mono (fun x hx h => by have := hle x hx; simp only [decide_eq_true_eq] at h ⊢; omega)
          simp [g1, g2, g3]
        · rw [if_pos (by simp [h2])]
    · rw [if_pos (by simp [he]), if_neg he]; simp
end Go.Proofs.YtfkmbdfajpdjjaaDoor

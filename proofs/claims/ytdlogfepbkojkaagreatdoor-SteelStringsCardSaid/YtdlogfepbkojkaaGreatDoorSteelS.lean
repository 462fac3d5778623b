/- Steel: states and steels, checked (plain); SteelRuled as a plain law. -/
import Derived.Test.YtdlogfepbkojkaaGreatDoorF01
import Derived.Test.YtdlogfepbkojkaaGreatDoorF02
import Derived.Test.YtdlogfepbkojkaaGreatDoorF04
import Derived.Test.YtdlogfepbkojkaaGreatDoorF05
import Derived.Test.YtdlogfepbkojkaaGreatDoorF06
import Derived.Test.YtdlogfepbkojkaaGreatDoorSteelRw
set_option linter.unusedVariables false
set_option linter.unusedSimpArgs false
namespace Go.Proofs.YtdlogfepbkojkaaGreatDoor
open Go.Abs

def shB (n : Int) : Bool := inR n 0 1000000
/-- the error of a state -/
def staE (p a b m w g t : Int) : Int :=
  if shB p && shB a && shB b && shB m && shB w && inR g 0 100000 && inR t 0 1000000 then (if p + a + b + m = 1000000 then 0 else 3) else 2
theorem p71' (a : Int) : r67 a = some (shB a) := rfl
theorem sum_wrap {p a b m : Int} (h1 : shB p = true) (h2 : shB a = true) (h3 : shB b = true) (h4 : shB m = true) :
    IntKind.i64.wrap (IntKind.i64.wrap (IntKind.i64.wrap (p + a) + b) + m) = p + a + b + m := by
  have g1 := inR_iff.1 h1
  have g2 := inR_iff.1 h2
  have g3 := inR_iff.1 h3
  have g4 := inR_iff.1 h4
  rw [wI (a := p + a) (by omega) (by omega), wI (a := p + a + b) (by omega) (by omega), wI (by omega) (by omega)]
theorem p17 (p a b m w g t : Int) : r36 p a b m w g t = some (staE p a b m w g t) := by
  unfold r36 staE
  simp only [p71', p66, Option.bind_some, Option.isSome_some, implies_true, if_true, Option.getD_some]
  by_cases h : (shB p && shB a && shB b && shB m && shB w && inR g 0 100000 && inR t 0 1000000) = true
  · refine (if_neg (by rw [h]; decide)).trans ?_
    rw [if_pos h]
    simp only [Bool.and_eq_true] at h
    rw [sum_wrap h.1.1.1.1.1.1 h.1.1.1.1.1.2 h.1.1.1.1.2 h.1.1.1.2, p68, Option.bind_some]
    unfold codeIf
    by_cases hs : p + a + b + m = 1000000 <;> simp [hs]
  · refine (if_pos (by rw [Bool.not_eq_true] at h; rw [h]; rfl)).trans ?_
    rw [if_neg h]
theorem p18 (p a b m w g t : Int) : r17 p a b m w g t = some (staE p a b m w g t) := by
  unfold r17
  have h := iter_lead [p, a, b, m, w] (b17_1 p a b m w g t) shB (fun i => if i = 5 then some (if inR g 0 100000 && inR t 0 1000000 then (if IntKind.i64.wrap (IntKind.i64.wrap (IntKind.i64.wrap (p + a) + b) + m) = 1000000 then 0 else 3) else 2) else some 2) (by simp)
    (fun i hi => by
      have hi5 : i < 5 := hi
      refine (if_pos (ltN hi)).trans ((if_pos (rgN hi)).trans ?_)
      simp only [p29, bindC, Int.toNat_natCast, wS i (by omega)]
      unfold shB
      have hne : ¬ (i : Int) = 5 := by omega
      rw [if_neg hne]
      cases inR (List.getD [p, a, b, m, w] i default) 0 1000000 <;> rfl)
    (by
      refine (if_neg (by simp)).trans ?_
      simp only [p29, Option.bind_some, Option.isSome_some, implies_true, if_true, Option.getD_some]
      congr 1
      by_cases h1 : inR g 0 100000 = true <;> by_cases h2 : inR t 0 1000000 = true <;> simp [h1, h2]
      split <;> rfl)
  rw [h]
  unfold staE
  by_cases h1 : shB p = true
  · by_cases h2 : shB a = true
    · by_cases h3 : shB b = true
      · by_cases h4 : shB m = true
        · rw [sum_wrap h1 h2 h3 h4]
          by_cases h5 : shB w = true
          · simp [lead, h1, h2, h3, h4, h5]
          · simp [lead, h1, h2, h3, h4, h5]
        · simp [lead, h1, h2, h3, h4]
      · simp [lead, h1, h2, h3]
    · simp [lead, h1, h2]
  · simp [lead, h1]
theorem p13 (H : List (Int × Int × Int × Int)) (C : List (Int × Int × Int × Int × Int)) (Q : List (Int × Int × Int)) (T : List (Int × Int)) (a b c d : Int) :
    r5 H C Q T a b c d = some (decide (H.length ≤ 10 ∧ C.length ≤ 10 ∧ Q.length ≤ 10 ∧ T.length ≤ 10)) := by
  unfold r5
  congr 1
  rw [Bool.eq_iff_iff]
  simp only [Bool.and_eq_true, decide_eq_true_eq]
  omega
theorem p15 {H : List (Int × Int × Int × Int)} {C : List (Int × Int × Int × Int × Int)} {Q : List (Int × Int × Int)} {T : List (Int × Int)} (a b c d : Int) (h : H.length ≤ 10 ∧ C.length ≤ 10 ∧ Q.length ≤ 10 ∧ T.length ≤ 10) :
    r7 H C Q T a b c d = some (H, C, Q, T, a, b, c, d) := by
  unfold r7
  rw [if_pos ⟨by omega, by omega⟩, if_pos ⟨by omega, by omega⟩, if_pos ⟨by omega, by omega⟩, if_pos ⟨by omega, by omega⟩]
theorem awakeS : r4 = some true := by decide +kernel
def rulE (H : List (Int × Int × Int × Int)) (C : List (Int × Int × Int × Int × Int)) (Q : List (Int × Int × Int)) (T : List (Int × Int)) (a b c d : Int) : Int := ((rulV H C Q T a b c d).getD (0, 0)).2
theorem rulV_some (H : List (Int × Int × Int × Int)) (C : List (Int × Int × Int × Int × Int)) (Q : List (Int × Int × Int)) (T : List (Int × Int)) (a b c d : Int) : ∃ v, rulV H C Q T a b c d = some v := by
  unfold rulV
  split
  · exact ⟨_, rfl⟩
  · cases errs 1 (H.map kH) with
    | some v => exact ⟨_, rfl⟩
    | none => cases errs 0 (C.map kC) with
      | some v => exact ⟨_, rfl⟩
      | none => cases errs (-1) (Q.map kQ) with
        | some v => exact ⟨_, rfl⟩
        | none => cases errs 0 (T.map kT) with
          | some v => exact ⟨_, rfl⟩
          | none => exact ⟨_, rfl⟩
theorem p34 {H : List (Int × Int × Int × Int)} {C : List (Int × Int × Int × Int × Int)} {Q : List (Int × Int × Int)} {T : List (Int × Int)} (a b c d : Int) (h1 : H.length ≤ 10000) (h2 : C.length ≤ 10000) (h3 : Q.length ≤ 10000) (h4 : T.length ≤ 10000) : r34 H C Q T a b c d = some (rulE H C Q T a b c d) := by
  unfold r34
  rw [p14 H C Q T a b c d h1 h2 h3 h4, rulE]
  obtain ⟨v, hv⟩ := rulV_some H C Q T a b c d
  rw [hv]; rfl
theorem p16' (H : List (Int × Int × Int × Int)) (C : List (Int × Int × Int × Int × Int)) (Q : List (Int × Int × Int)) (T : List (Int × Int)) (a b c d : Int) : r16 H C Q T a b c d = some (rulE H C Q T a b c d) := by
  unfold r16
  rw [p16 H C Q T a b c d, rulE]
  obtain ⟨v, hv⟩ := rulV_some H C Q T a b c d
  rw [hv]; rfl
end Go.Proofs.YtdlogfepbkojkaaGreatDoor

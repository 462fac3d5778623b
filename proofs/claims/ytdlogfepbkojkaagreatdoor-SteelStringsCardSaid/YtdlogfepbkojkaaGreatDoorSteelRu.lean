/- Steel: CheckRules, in the code and in the reference, as one plain function; SteelRuled as a plain law. -/
import Derived.Test.YtdlogfepbkojkaaGreatDoorF01
import Derived.Test.YtdlogfepbkojkaaGreatDoorF02
import Derived.Test.YtdlogfepbkojkaaGreatDoorSteelR
set_option linter.unusedVariables false
set_option linter.unusedSimpArgs false
namespace Go.Proofs.YtdlogfepbkojkaaGreatDoor
open Go.Abs

def clashB (X : List Kn) (h : Int) : Bool := decide (0 < X.length) && decide (h ≤ (X.getD (X.length - 1) default).1)
theorem gl0 {X : List Kn} (hX : X.length ≤ 8) (h : 0 < X.length) : IntKind.i64.wrap ((X.length : Int) - 1) = ((X.length - 1 : Nat) : Int) := by
  rw [wI (by omega) (by omega)]; omega
theorem gl1 {X : List Kn} (hX : X.length ≤ 8) : (decide ((X.length : Int) > 0)) = true → 0 ≤ IntKind.i64.wrap ((X.length : Int) - 1) ∧ IntKind.i64.wrap ((X.length : Int) - 1) < (X.length : Int) := fun h => by
  have h1 : 0 < X.length := by simpa using h
  rw [gl0 hX h1]; exact ⟨by omega, by omega⟩
theorem gl2 {X : List Kn} (hX : X.length ≤ 8) (h : Int) : ((decide ((X.length : Int) > 0)) && decide (((X.getD (IntKind.i64.wrap ((X.length : Int) - 1)).toNat default).1) ≥ h)) = clashB X h := by
  unfold clashB
  by_cases h1 : 0 < X.length
  · rw [gl0 hX h1, Int.toNat_natCast]
    have : (decide ((X.length : Int) > 0)) = true := by simpa using h1
    rw [this]; simp only [h1, decide_true, Bool.true_and, ge_iff_le]
  · have : (decide ((X.length : Int) > 0)) = false := decide_eq_false (by omega)
    rw [this]; simp only [h1, decide_false, Bool.false_and]
def finE (H C Q T : List Kn) (a b c d : Int) : Int × Int :=
  if decide (0 < H.length) && (clashB C (H.getD 0 default).1 || clashB Q (H.getD 0 default).1 || clashB T (H.getD 0 default).1) then (0, 13) else (0, hrdE a b c d)
theorem hrd_code (a b c d : Int) : ((r72 [a, b, c, d]).bind fun v14 => (r51 (!v14) 2).bind fun v15 => (r90 [a, b, c, d]).bind fun v16 => (r51 v16 9).bind fun v17 => (r44 [v15, v17]).bind fun v18 => some ((0 : Int), v18)) = some (0, hrdE a b c d) := by
  simp only [p64, p68, p69, Option.bind_some, Bool.not_not]
  rw [p67 _ (by simp), Option.bind_some, firstV2]
  unfold hrdE codeIf
  by_cases h1 : (inR a 0 2000 && inR b 0 2000 && inR c 0 2000 && inR d 0 2000) = true
  · rw [if_pos h1, if_pos h1]; simp
  · rw [if_neg h1, if_neg h1]; simp
section
variable {H C Q T : List Kn} (a b c d : Int)
theorem code4 (hH : H.length ≤ 8) (hC : C.length ≤ 8) (hQ : Q.length ≤ 8) (hT : T.length ≤ 8) (fT : Fit 0 T) :
    iterC (b65_4 a b c d (H, C, Q, T)) 1000000000 (none, 0) = orE (errs 0 T) (some (finE H C Q T a b c d)) := by
  refine iter_errs T.length _ (stK T) (errE 0 T) _ (by omega) (fun i hi h0 => ?_) (fun _ => ?_)
  · have h := codeStep T 0 fT hi (by omega) h0
    rw [← h]
    exact (if_pos (ltN hi)).trans ((if_pos (rgN hi)).trans rfl)
  · show (if (decide ((T.length : Int) < (T.length : Int))) = true then _ else _) = _
    rw [if_neg (by simp)]
    congr 1
    unfold finE
    by_cases hp : 0 < H.length
    · have e1 : (decide ((H.length : Int) > 0)) = true := by simpa using hp
      have e2 : 0 ≤ 0 ∧ 0 < (H.length : Int) := ⟨by decide, by omega⟩
      rw [e1, if_pos rfl, if_pos (gl1 hC), if_pos (fun _ => e2), gl2 hC, if_pos (gl1 hQ), if_pos (fun _ => e2), gl2 hQ, if_pos (gl1 hT), if_pos (fun _ => e2), gl2 hT, hrd_code]
      simp only [hp, decide_true, Bool.true_and]
      by_cases c1 : clashB C (H.getD 0 default).1 = true
      · simp only [c1, if_true, Bool.true_or, if_false, Bool.false_eq_true]
      · by_cases c2 : clashB Q (H.getD 0 default).1 = true
        · simp only [c1, c2, if_true, if_false, Bool.true_or, Bool.or_true, Bool.false_or, Bool.false_eq_true]
        · by_cases c3 : clashB T (H.getD 0 default).1 = true <;> simp only [c1, c2, c3, if_true, if_false, Bool.true_or, Bool.or_true, Bool.false_or, Bool.or_false, Bool.false_eq_true]
    · have e1 : (decide ((H.length : Int) > 0)) = false := decide_eq_false (by omega)
      rw [e1, if_neg (by decide), hrd_code]
      simp only [hp, decide_false, Bool.false_and, Bool.false_eq_true, if_false]
theorem code3 (hH : H.length ≤ 8) (hC : C.length ≤ 8) (hQ : Q.length ≤ 8) (hT : T.length ≤ 8) (fQ : Fit (-1) Q) (fT : Fit 0 T) :
    iterC (b65_3 a b c d (H, C, Q, T)) 1000000000 (none, 0) = orE (errs (-1) Q) (orE (errs 0 T) (some (finE H C Q T a b c d))) := by
  refine iter_errs Q.length _ (stK Q) (errE (-1) Q) _ (by omega) (fun i hi h0 => ?_) (fun _ => ?_)
  · have h := codeStep Q (-1) fQ hi (by omega) h0
    rw [← h]
    exact (if_pos (ltN hi)).trans ((if_pos (rgN hi)).trans rfl)
  · show (if (decide ((Q.length : Int) < (Q.length : Int))) = true then _ else _) = _
    rw [if_neg (by simp)]
    rw [code4 a b c d hH hC hQ hT fT]
theorem code2 (hH : H.length ≤ 8) (hC : C.length ≤ 8) (hQ : Q.length ≤ 8) (hT : T.length ≤ 8) (fC : Fit 0 C) (fQ : Fit (-1) Q) (fT : Fit 0 T) :
    iterC (b65_2 a b c d (H, C, Q, T)) 1000000000 (none, 0) = orE (errs 0 C) (orE (errs (-1) Q) (orE (errs 0 T) (some (finE H C Q T a b c d)))) := by
  refine iter_errs C.length _ (stK C) (errE 0 C) _ (by omega) (fun i hi h0 => ?_) (fun _ => ?_)
  · have h := codeStep C 0 fC hi (by omega) h0
    rw [← h]
    exact (if_pos (ltN hi)).trans ((if_pos (rgN hi)).trans rfl)
  · show (if (decide ((C.length : Int) < (C.length : Int))) = true then _ else _) = _
    rw [if_neg (by simp)]
    rw [code3 a b c d hH hC hQ hT fQ fT]
theorem code1 (hH : H.length ≤ 8) (hC : C.length ≤ 8) (hQ : Q.length ≤ 8) (hT : T.length ≤ 8) (fH : Fit 1 H) (fC : Fit 0 C) (fQ : Fit (-1) Q) (fT : Fit 0 T) :
    iterC (b65_1 a b c d (H, C, Q, T)) 1000000000 (none, 0) = orE (errs 1 H) (orE (errs 0 C) (orE (errs (-1) Q) (orE (errs 0 T) (some (finE H C Q T a b c d))))) := by
  refine iter_errs H.length _ (stK H) (errE 1 H) _ (by omega) (fun i hi h0 => ?_) (fun _ => ?_)
  · have h := codeStep H 1 fH hi (by omega) h0
    rw [← h]
    exact (if_pos (ltN hi)).trans ((if_pos (rgN hi)).trans rfl)
  · show (if (decide ((H.length : Int) < (H.length : Int))) = true then _ else _) = _
    rw [if_neg (by simp)]
    rw [code2 a b c d hH hC hQ hT fC fQ fT]
end
/-- rules' error with its index -/
def rulV (H : List (Int × Int × Int × Int)) (C : List (Int × Int × Int × Int × Int)) (Q : List (Int × Int × Int)) (T : List (Int × Int)) (a b c d : Int) : Option (Int × Int) :=
  if 8 < H.length ∨ 8 < C.length ∨ 8 < Q.length ∨ 8 < T.length then some (0, 8)
  else orE (errs 1 (H.map kH)) (orE (errs 0 (C.map kC)) (orE (errs (-1) (Q.map kQ)) (orE (errs 0 (T.map kT)) (some (finE (H.map kH) (C.map kC) (Q.map kQ) (T.map kT) a b c d)))))
section
variable (H : List (Int × Int × Int × Int)) (C : List (Int × Int × Int × Int × Int)) (Q : List (Int × Int × Int)) (T : List (Int × Int)) (a b c d : Int)
theorem fitH : Fit 1 (H.map kH) := fun k hk => by
  obtain ⟨x, _, rfl⟩ := List.mem_map.1 hk; simp [kH]
theorem fitC : Fit 0 (C.map kC) := fun k hk => by
  obtain ⟨x, _, rfl⟩ := List.mem_map.1 hk; simp [kC]
theorem fitQ : Fit (-1) (Q.map kQ) := fun k hk => by
  obtain ⟨x, _, rfl⟩ := List.mem_map.1 hk; simp [kQ]
theorem fitT : Fit 0 (T.map kT) := fun k hk => by
  obtain ⟨x, _, rfl⟩ := List.mem_map.1 hk; simp [kT]
theorem p14 (h1 : H.length ≤ 10000) (h2 : C.length ≤ 10000) (h3 : Q.length ≤ 10000) (h4 : T.length ≤ 10000) : r65 H C Q T a b c d = rulV H C Q T a b c d := by
  unfold r65 rulV
  rw [p62 H C Q T a b c d h1 h2 h3 h4, Option.bind_some]
  simp only [List.length_map]
  by_cases g1 : 8 < H.length
  · rw [if_pos (by simp; omega), if_pos (.inl g1)]
  · rw [if_neg (by simp; omega)]
    by_cases g2 : 8 < C.length
    · rw [if_pos (by simp; omega), if_pos (.inr (.inl g2))]
    · rw [if_neg (by simp; omega)]
      by_cases g3 : 8 < Q.length
      · rw [if_pos (by simp; omega), if_pos (.inr (.inr (.inl g3)))]
      · rw [if_neg (by simp; omega)]
        by_cases g4 : 8 < T.length
        · rw [if_pos (by simp; omega), if_pos (.inr (.inr (.inr g4)))]
        · rw [if_neg (by simp; omega), if_neg (by omega)]
          exact code1 a b c d (by simp; omega) (by simp; omega) (by simp; omega) (by simp; omega) (fitH H) (fitC C) (fitQ Q) (fitT T)
end
end Go.Proofs.YtdlogfepbkojkaaGreatDoor

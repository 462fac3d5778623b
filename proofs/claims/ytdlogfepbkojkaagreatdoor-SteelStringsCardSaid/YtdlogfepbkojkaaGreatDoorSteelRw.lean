/- Steel: the reference's CheckRules is the plain function; SteelRuled as a plain law. -/
import Derived.Test.YtdlogfepbkojkaaGreatDoorF05
import Derived.Test.YtdlogfepbkojkaaGreatDoorSteelRv
set_option linter.unusedVariables false
set_option linter.unusedSimpArgs false
namespace Go.Proofs.YtdlogfepbkojkaaGreatDoor
open Go.Abs

theorem zI {i : Nat} (h : i ≠ 0) : ((i : Int) == 0) = false := by simpa using h
theorem ordQ (Q : List (Int × Int × Int)) {i : Nat} (hi : i < Q.length) (hl : Q.length < 1000000000) (h0 : i ≠ 0) :
    (((i : Int) == 0) || ((decide (((Q.getD (i : Int).toNat default).2.1) ≤ ((Q.getD (IntKind.i64.wrap ((i : Int) - 1)).toNat default).2.1))) && (decide (((Q.getD (i : Int).toNat default).2.2) ≤ ((Q.getD (IntKind.i64.wrap ((i : Int) - 1)).toNat default).2.2))))) =
    (decide ((-1 : Int) = 0) || (decide (-1 * ((((Q.map kQ).getD (i - 1) default).2.1.getD 0 default).1) ≤ -1 * ((((Q.map kQ).getD i default).2.1.getD 0 default).1)) && decide (-1 * ((((Q.map kQ).getD (i - 1) default).2.1.getD 0 default).2) ≤ -1 * ((((Q.map kQ).getD i default).2.1.getD 0 default).2)))) := by
  rw [wP (by omega) h0, Int.toNat_natCast, Int.toNat_natCast, map_getD Q kQ hi, map_getD Q kQ (show i - 1 < Q.length by omega), zI h0]
  show (false || (_ && _)) = (false || (decide (-1 * (Q.getD (i - 1) default).2.1 ≤ -1 * (Q.getD i default).2.1) && decide (-1 * (Q.getD (i - 1) default).2.2 ≤ -1 * (Q.getD i default).2.2)))
  congr 2
  · exact decide_eq_decide.2 (by omega)
  · exact decide_eq_decide.2 (by omega)
theorem ordH (H : List (Int × Int × Int × Int)) {i : Nat} (hi : i < H.length) (hl : H.length < 1000000000) (h0 : i ≠ 0) :
    (((i : Int) == 0) || ((decide (((H.getD (i : Int).toNat default).2.1) ≥ ((H.getD (IntKind.i64.wrap ((i : Int) - 1)).toNat default).2.1))) && (decide (((H.getD (i : Int).toNat default).2.2.1) ≥ ((H.getD (IntKind.i64.wrap ((i : Int) - 1)).toNat default).2.2.1))))) =
    (decide ((1 : Int) = 0) || (decide (1 * ((((H.map kH).getD (i - 1) default).2.1.getD 0 default).1) ≤ 1 * ((((H.map kH).getD i default).2.1.getD 0 default).1)) && decide (1 * ((((H.map kH).getD (i - 1) default).2.1.getD 0 default).2) ≤ 1 * ((((H.map kH).getD i default).2.1.getD 0 default).2)))) := by
  rw [wP (by omega) h0, Int.toNat_natCast, Int.toNat_natCast, map_getD H kH hi, map_getD H kH (show i - 1 < H.length by omega), zI h0]
  show (false || (_ && _)) = (false || (decide (1 * (H.getD (i - 1) default).2.1 ≤ 1 * (H.getD i default).2.1) && decide (1 * (H.getD (i - 1) default).2.2.1 ≤ 1 * (H.getD i default).2.2.1)))
  congr 2
  · exact decide_eq_decide.2 (by omega)
  · exact decide_eq_decide.2 (by omega)
theorem gP2 {i n : Nat} (hi : i < n) (hn : n < 1000000000) (z : Bool) : ((!((i : Int) == 0)) && z) = true → 0 ≤ IntKind.i64.wrap ((i : Int) - 1) ∧ IntKind.i64.wrap ((i : Int) - 1) < (n : Int) := fun h => gP hi hn (by
  cases h1 : (!((i : Int) == 0)) with
  | true => rfl
  | false => rw [h1] at h; exact h)
section
variable (H : List (Int × Int × Int × Int)) (C : List (Int × Int × Int × Int × Int)) (Q : List (Int × Int × Int)) (T : List (Int × Int)) (a b c d : Int)
theorem ref3 (hQ : Q.length ≤ 8) (s2 : Int × Int) (G : Option (Int × Int)) (hG : iterC (b42_4 H T a b c d s2 (stR (Q.map kQ) Q.length)) 1000000000 ((-1), 0) = G) :
    iterC (b42_3 H Q T a b c d s2) 1000000000 ((-1), 0) = orE (errs (-1) (Q.map kQ)) G := by
  have hl : Q.length < 1000000000 := by omega
  have h := iter_errs Q.length (b42_3 H Q T a b c d s2) (stR (Q.map kQ)) (errE (-1) (Q.map kQ)) G hl (fun i hi h0 => by
    have hm := map_getD Q kQ hi
    have hr := refE (-1) (Q.map kQ) i _ (fun hi0 => by subst hi0; rfl) (fun hi0 => ordQ Q hi hl hi0)
    have hp := p70 (kQ (Q.getD i default)) (lastV (Q.map kQ) i) (((i : Int) == 0) || ((decide (((Q.getD (i : Int).toNat default).2.1) ≤ ((Q.getD (IntKind.i64.wrap ((i : Int) - 1)).toNat default).2.1))) && (decide (((Q.getD (i : Int).toNat default).2.2) ≤ ((Q.getD (IntKind.i64.wrap ((i : Int) - 1)).toNat default).2.2))))) (by simp [kQ])
    rw [← hm, hr] at hp
    refine (if_pos (ltN hi)).trans ((if_pos (rgN hi)).trans ((if_pos (gP hi hl)).trans ((if_pos (gP2 hi hl _)).trans ?_)))
    rw [← bindStep (errE (-1) (Q.map kQ) i) i (((Q.getD (i : Int).toNat default).1), IntKind.i64.wrap ((i : Int) + 1)) (stR (Q.map kQ) (i + 1)) (nextR Q kQ hi hl _ rfl), ← hp, hm]
    rfl) (fun _ => by
    refine (if_neg (by simp [stR])).trans ?_
    rw [hG])
  simpa [stR, lastV, errs] using h
theorem ref2 (hC : C.length ≤ 8) (G : Option (Int × Int)) (hG : iterC (b42_3 H Q T a b c d (stR (C.map kC) C.length)) 1000000000 ((-1), 0) = G) :
    iterC (b42_2 H C Q T a b c d) 1000000000 ((-1), 0) = orE (errs 0 (C.map kC)) G := by
  have hl : C.length < 1000000000 := by omega
  have h := iter_errs C.length (b42_2 H C Q T a b c d) (stR (C.map kC)) (errE 0 (C.map kC)) G hl (fun i hi h0 => by
    have hm := map_getD C kC hi
    have hr := refE 0 (C.map kC) i true (fun _ => rfl) (fun _ => by simp)
    have hp := p70 (kC (C.getD i default)) (lastV (C.map kC) i) true (by simp [kC])
    rw [← hm, hr] at hp
    refine (if_pos (ltN hi)).trans ((if_pos (rgN hi)).trans ((if_pos (rgN hi)).trans ((if_pos (rgN hi)).trans ?_)))
    rw [← bindStep (errE 0 (C.map kC) i) i (((C.getD (i : Int).toNat default).1), IntKind.i64.wrap ((i : Int) + 1)) (stR (C.map kC) (i + 1)) (nextR C kC hi hl _ rfl), ← hp, hm]
    show (bindC (r71 ((C.getD i default).1) _ _ _ _) _) = (bindC (r71 ((C.getD i default).1) _ _ _ _) _)
    congr 1
    funext u
    congr 1
    exact if_pos (rgN hi)) (fun _ => by
    refine (if_neg (by simp [stR])).trans ?_
    rw [hG])
  simpa [stR, lastV, errs] using h
theorem ref1 (hH : H.length ≤ 8) (G : Option (Int × Int)) (hG : iterC (b42_2 H C Q T a b c d) 1000000000 ((-1), 0) = G) :
    iterC (b42_1 H C Q T a b c d) 1000000000 ((-1), 0) = orE (errs 1 (H.map kH)) G := by
  have hl : H.length < 1000000000 := by omega
  have h := iter_errs H.length (b42_1 H C Q T a b c d) (stR (H.map kH)) (errE 1 (H.map kH)) G hl (fun i hi h0 => by
    have hm := map_getD H kH hi
    have hr := refE 1 (H.map kH) i _ (fun hi0 => by subst hi0; rfl) (fun hi0 => ordH H hi hl hi0)
    have hp := p70 (kH (H.getD i default)) (lastV (H.map kH) i) (((i : Int) == 0) || ((decide (((H.getD (i : Int).toNat default).2.1) ≥ ((H.getD (IntKind.i64.wrap ((i : Int) - 1)).toNat default).2.1))) && (decide (((H.getD (i : Int).toNat default).2.2.1) ≥ ((H.getD (IntKind.i64.wrap ((i : Int) - 1)).toNat default).2.2.1))))) (by simp [kH])
    rw [← hm, hr] at hp
    refine (if_pos (ltN hi)).trans ((if_pos (rgN hi)).trans ((if_pos (gP hi hl)).trans ((if_pos (gP2 hi hl _)).trans ?_)))
    rw [← bindStep (errE 1 (H.map kH) i) i (((H.getD (i : Int).toNat default).1), IntKind.i64.wrap ((i : Int) + 1)) (stR (H.map kH) (i + 1)) (nextR H kH hi hl _ rfl), ← hp, hm]
    rfl) (fun _ => by
    refine (if_neg (by simp [stR])).trans ?_
    rw [hG])
  simpa [stR, lastV, errs] using h
/-- a first error that is none anyway does not look at what follows -/
theorem orE_congr {ρ : Type} {s : Option ρ} {x y : Option ρ} (h : s = none → x = y) : orE s x = orE s y := by
  cases s with
  | none => exact h rfl
  | some v => rfl
theorem errs_none {dir : Int} {L : List Kn} (h : errs dir L = none) : ∀ i, i < L.length → errE dir L i = 0 := by
  have key : ∀ (k i : Nat), scanN (fun i => if errE dir L i = 0 then none else some ((i : Int), errE dir L i)) i k = none → ∀ j, i ≤ j → j < i + k → errE dir L j = 0 := by
    intro k
    induction k with
    | zero => intro i _ j h1 h2; omega
    | succ k ih =>
      intro i h j h1 h2
      simp only [scanN] at h
      by_cases he : errE dir L i = 0
      · rw [if_pos he] at h
        by_cases e : j = i
        · subst e; exact he
        · exact ih (i + 1) h j (by omega) (by omega)
      · rw [if_neg he] at h; cases h
  intro i hi
  exact key L.length 0 h i (by omega) (by omega)
theorem clash_last {X : List Kn} {h : Int} (hh : 1 ≤ h) : clashB X h = decide (h ≤ lastV X X.length) := by
  unfold clashB lastV
  by_cases hx : X.length = 0
  · have : ¬ h ≤ -1 := by omega
    simp [hx, this]
  · have : 0 < X.length := by omega
    simp [hx, this]
theorem clash3 (x y z h : Int) (A B : Int × Int) : (if (decide ((if (if x < y then y else x) < z then z else (if x < y then y else x)) ≥ h)) = true then some A else some B) = some (if (decide (h ≤ x) || decide (h ≤ y) || decide (h ≤ z)) = true then A else B) := by
  by_cases hc : h ≤ x ∨ h ≤ y ∨ h ≤ z
  · rw [if_pos (by simp only [decide_eq_true_eq, ge_iff_le]; repeat (first | split | omega)), if_pos (by simp only [Bool.or_eq_true, decide_eq_true_eq]; omega)]
  · rw [if_neg (by simp only [decide_eq_true_eq, ge_iff_le]; repeat (first | split | omega)), if_neg (by simp only [Bool.or_eq_true, decide_eq_true_eq]; omega)]
theorem p16 : r42 H C Q T a b c d = rulV H C Q T a b c d := by
  unfold r42 rulV
  by_cases g : 8 < H.length ∨ 8 < C.length ∨ 8 < Q.length ∨ 8 < T.length
  · rw [if_pos g, if_pos (by simp only [Bool.or_eq_true, decide_eq_true_eq]; omega)]
  · rw [if_neg g, if_neg (by simp only [Bool.or_eq_true, decide_eq_true_eq]; omega)]
    rw [ref1 H C Q T a b c d (by omega) _ (ref2 H C Q T a b c d (by omega) _ (ref3 H Q T a b c d (by omega) _ _ rfl))]
    refine orE_congr fun nH => orE_congr fun nC => orE_congr fun nQ => ?_
    refine ref_tail H T a b c d (by omega) _ _ _ _ 0 rfl rfl _ ?_
    unfold finE
    by_cases hp : 0 < H.length
    · have e1 : (decide ((H.length : Int) > 0)) = true := by simpa using hp
      have hh := (kn1_zero (errE_kn (errs_none nH 0 (by simpa using hp)))).1.1
      have hm := map_getD H kH hp
      rw [e1, if_pos (fun _ => ⟨by decide, by omega⟩), clash_last hh, clash_last hh, clash_last hh, hm]
      simp only [List.length_map, hp, decide_true, Bool.true_and]
      exact clash3 _ _ _ _ _ _
    · have e1 : (decide ((H.length : Int) > 0)) = false := decide_eq_false (by omega)
      rw [e1, if_pos (fun h => by cases h), List.length_map]
      simp [hp]
end
end Go.Proofs.YtdlogfepbkojkaaGreatDoor

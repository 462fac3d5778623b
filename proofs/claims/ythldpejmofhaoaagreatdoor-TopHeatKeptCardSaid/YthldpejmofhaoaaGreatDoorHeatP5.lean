import Derived.Test.YthldpejmofhaoaaGreatDoorF02
import Derived.Test.YthldpejmofhaoaaGreatDoorF04
import Derived.Test.YthldpejmofhaoaaGreatDoorHeatP4
set_option linter.unusedVariables false
set_option linter.unusedSimpArgs false
namespace Go.Proofs.YthldpejmofhaoaaGreatDoor
open Go.Abs

/-- few items -/
def fewV (T : List (Int × Int)) (L : List (List (Int × Int))) : Bool :=
  decide (T.length ≤ 10) && decide (L.length ≤ 6) && L.all (fun l => decide (l.length ≤ 8))
theorem p15 (a b : Int) (T : List (Int × Int)) (L : List (List (Int × Int))) : r7 a b T L = some (fewV T L) := by
  unfold r7 fewV
  by_cases h : T.length ≤ 10 ∧ L.length ≤ 6
  · have e : ¬ ((decide ((T.length : Int) > 10)) || (decide ((L.length : Int) > 6))) = true := by simp; omega
    rw [if_neg e]
    have hs : iterC (b7_1 L) 1000000000 0 = orE (scanN (fun i => if (L.getD i default).length ≤ 8 then none else some false) 0 L.length) (some true) := by
      refine iter_scan L.length (b7_1 L) _ _ (by omega) ?_ ?_
      · intro i hi
        simp only [b7_1, ltN hi, if_true, if_pos (rgN hi), Int.toNat_natCast, wS i (by omega)]
        by_cases h8 : (L.getD i default).length ≤ 8
        · have : ¬ (decide (((L.getD i default).length : Int) > 8)) = true := by rw [decide_eq_true_eq]; omega
          rw [if_neg this, if_pos h8]
        · have : (decide (((L.getD i default).length : Int) > 8)) = true := by rw [decide_eq_true_eq]; omega
          rw [if_pos this, if_neg h8]
      · simp [b7_1]
    rw [hs]
    have h1 : (decide (T.length ≤ 10) && decide (L.length ≤ 6)) = true := by simp; omega
    rw [h1, Bool.true_and]
    cases hq : scanN (fun i => if (L.getD i default).length ≤ 8 then none else some false) 0 L.length with
    | none =>
      have : L.all (fun l => decide (l.length ≤ 8)) = true := by
        rw [List.all_eq_true]
        intro x hx
        obtain ⟨i, hi, rfl⟩ := List.mem_iff_getElem.1 hx
        have := scan_none hq i (by omega) (by omega)
        split at this
        · rename_i h8
          simpa [List.getD_eq_getElem?_getD, hi] using h8
        · cases this
      rw [this]; rfl
    | some v =>
      obtain ⟨j, _, hj, hv⟩ := scan_some hq
      split at hv
      · cases hv
      · rename_i h8
        have : L.all (fun l => decide (l.length ≤ 8)) = false := by
          rw [List.all_eq_false]
          have hj' : j < L.length := by omega
          refine ⟨L[j], List.getElem_mem hj', ?_⟩
          have e : L.getD j default = L[j] := by simp [List.getD_eq_getElem?_getD, hj']
          rw [e] at h8
          simpa using h8
        rw [this]
        injection hv with hv; subst hv; rfl
  · have e : ((decide ((T.length : Int) > 10)) || (decide ((L.length : Int) > 6))) = true := by simp; omega
    rw [if_pos e]
    have : (decide (T.length ≤ 10) && decide (L.length ≤ 6)) = false := by simp; omega
    rw [this]; rfl
theorem few_of {T : List (Int × Int)} {L : List (List (Int × Int))} (h : fewV T L = true) : T.length ≤ 10 ∧ L.length ≤ 6 ∧ ∀ x ∈ L, x.length < 1000 := by
  unfold fewV at h
  simp only [Bool.and_eq_true, decide_eq_true_eq, List.all_eq_true] at h
  exact ⟨h.1.1, h.1.2, fun x hx => by have := h.2 x hx; omega⟩
theorem p18 (a b : Int) (T : List (Int × Int)) (L : List (List (Int × Int))) (hT : T.length < 1000) (hn : L.length < 1000) (hL : ∀ x ∈ L, x.length < 1000) : r14 a b T L = some (a, b, T, L) := by
  unfold r14
  rw [if_pos ⟨by omega, by omega⟩]
  refine iter_run L.length (b14_1 a b T L) (fun i => ((i : Int), L.take i)) _ (by omega) ?_ ?_
  · intro i hi
    have hlen : (L.take i).length = i := by simp; omega
    have h2 := lawlen hL i
    simp only [b14_1, ltN hi, if_true, if_pos (rgN hi), Int.toNat_natCast, wS i (by omega), hlen]
    rw [if_pos ⟨by omega, by omega⟩, if_pos ⟨by omega, by omega⟩, take_ext L i hi]
    rfl
  · simp [b14_1]
theorem p101 (a b : Int) (T : List (Int × Int)) (L : List (List (Int × Int))) (hT : T.length < 1000) (hn : L.length < 1000) (hL : ∀ x ∈ L, x.length < 1000) :
    r98 a b T L = some (if (setupErrV a b T L).2 = 0 then (a, b, T, L, T, L, 0) else (0, 0, [], [], [], [], (setupErrV a b T L).2)) := by
  unfold r98
  rw [p24 a b T L hn hL, Option.bind_some]
  by_cases h : (setupErrV a b T L).2 = 0
  · rw [if_neg (by simpa using h), if_pos h, p150 T (by omega), Option.bind_some]
    refine iter_run L.length (b98_1 a b T L T) (fun i => ((i : Int), L.take i)) _ (by omega) ?_ ?_
    · intro i hi
      have hlen : (L.take i).length = i := by simp; omega
      have h2 := lawlen hL i
      simp only [b98_1, ltN hi, if_true, if_pos (rgN hi), Int.toNat_natCast, wS i (by omega), hlen, p148 _ (show (L.getD i default).length < 1000000 by omega), bindC]
      rw [if_pos ⟨by omega, by omega⟩, take_ext L i hi]
      rfl
    · simp [b98_1]
  · rw [if_pos (by simpa using h), if_neg h]

/-- in the table -/
def inT (T : List (Int × Int)) (e : Int) : Bool := inR e (T.getD 0 default).1 (T.getD (T.length - 1) default).1
theorem p120 (a b : Int) (T : List (Int × Int)) (L : List (List (Int × Int))) (T2 : List (Int × Int)) (L2 : List (List (Int × Int))) (e : Int) (h : 0 < T2.length) (h2 : T2.length < 1000) : r99 a b T L T2 L2 e = some (inT T2 e) := by
  unfold r99
  rw [wP T2.length (by omega), wPn, if_pos ⟨by omega, by omega⟩, if_pos ⟨by omega, by omega⟩, p90, Option.bind_some]
  rfl
def stF (T : List (Int × Int)) (s : List Int) (i : Nat) : Option (Int × Int) := if inT T (s.getD i default) = true then none else some ((i : Int), 2)
def stateErrV (a : Int) (T : List (Int × Int)) (s : List Int) : Int × Int := if (s.length : Int) = a then (scanN (stF T s) 0 s.length).getD (0, 0) else (0, 10)
def idF (T : List (Int × Int)) (s : List Int) (i : Nat) : Option Int := if inT T (s.getD i default) = true then none else some (i : Int)
theorem p102 (a b : Int) (T : List (Int × Int)) (L : List (List (Int × Int))) (T2 : List (Int × Int)) (L2 : List (List (Int × Int))) (s : List Int) (h : 0 < T2.length) (h2 : T2.length < 1000) (hs : s.length < 1000000) : r165 a b T L T2 L2 s = some (stateErrV a T2 s) := by
  unfold r165 stateErrV
  by_cases ha : (s.length : Int) = a
  · rw [if_neg (by simpa using ha), if_pos ha]
    have hq : r170 s a b T L T2 L2 = orE (scanN (idF T2 s) 0 s.length) (some (-1)) := by
      refine iter_scan s.length (b170_1 s a b T L T2 L2) _ _ (by omega) ?_ ?_
      · intro i hi
        simp only [b170_1, ltN hi, if_true, if_pos (rgN hi), Int.toNat_natCast, wS i (by omega), r230, p120 a b T L T2 L2 _ h h2, Option.bind_some, bindC, idF]
        generalize inT T2 (s.getD i default) = q
        cases q <;> simp
      · simp [b170_1]
    rw [hq]
    have hm : ∀ k i, scanN (stF T2 s) i k = (scanN (idF T2 s) i k).map fun v => (v, 2) := by
      intro k
      induction k with
      | zero => intro i; rfl
      | succ k ih =>
        intro i
        simp only [scanN, stF, idF]
        split <;> simp_all [stF, idF]
    rw [hm]
    cases hv : scanN (idF T2 s) 0 s.length with
    | none => rfl
    | some v =>
      obtain ⟨j, _, _, hj⟩ := scan_some hv
      have : 0 ≤ v := by
        unfold idF at hj
        split at hj
        · cases hj
        · injection hj with hj; omega
      rw [orE_some, Option.bind_some, if_pos (decide_eq_true this)]; rfl
  · rw [if_pos (by simpa using ha), if_neg ha]
theorem SetOk.tpos {a b : Int} {T : List (Int × Int)} {L : List (List (Int × Int))} (h : SetOk a b T L) : 0 < T.length := by have := h.tlen; omega
theorem SetOk.tlt {a b : Int} {T : List (Int × Int)} {L : List (List (Int × Int))} (h : SetOk a b T L) : T.length < 1000 := by have := h.tlen; omega
theorem p56 (a b : Int) (T : List (Int × Int)) (L : List (List (Int × Int))) (e : Int) (h : 0 < T.length) (h2 : T.length < 1000) : r49 a b T L e = some (inT T e) := by
  unfold r49
  rw [wP T.length (by omega), wPn, if_pos ⟨by omega, by omega⟩, if_pos ⟨by omega, by omega⟩, p59, Option.bind_some]
  rfl
theorem p27 (a b : Int) (T : List (Int × Int)) (L : List (List (Int × Int))) (s : List Int) (h : 0 < T.length) (h2 : T.length < 1000) (hs : s.length < 1000000) : r66 a b T L s = some (stateErrV a T s) := by
  unfold r66 stateErrV
  by_cases ha : (s.length : Int) = a
  · rw [if_neg (by simpa using ha), if_pos ha]
    have hq : iterC (b66_1 a b T L s) 1000000000 0 = orE (scanN (stF T s) 0 s.length) (some (0, 0)) := by
      refine iter_scan s.length (b66_1 a b T L s) _ _ (by omega) ?_ ?_
      · intro i hi
        simp only [b66_1, ltN hi, if_true, if_pos (rgN hi), Int.toNat_natCast, wS i (by omega), p56 a b T L _ h h2, bindC, stF]
        generalize inT T (s.getD i default) = q
        cases q <;> simp
      · simp [b66_1]
    rw [hq]
    cases scanN (stF T s) 0 s.length <;> rfl
  · rw [if_pos (by simpa using ha), if_neg ha]
end Go.Proofs.YthldpejmofhaoaaGreatDoor

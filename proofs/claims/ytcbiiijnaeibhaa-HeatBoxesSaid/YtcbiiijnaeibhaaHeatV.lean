/- HeatBoxes as a plain law. -/
import Derived.Test.YtcbiiijnaeibhaaHeatBy
import Derived.Test.YtcbiiijnaeibhaaF24
set_option linter.unusedVariables false
set_option linter.unusedSimpArgs false
namespace Go.Proofs.Ytcbiiijnaeibhaa
open Go.Abs

def tail6 (a b : Int) (T : List (Int × Int)) (L : List (List (Int × Int))) (lo hi : List Int) (l : List ((List (Int × Int)) × Int × Int)) (v9 : List (List Int × List Int) × Int) : Option Bool :=
  (r50 a b T L l).bind fun v14 =>
    if (v14 != 0) = true then some ((v9.2 == v14) && ((v9.1.length : Int) == 0))
    else (r51 a b T L lo hi l).bind fun v15 =>
      if (!v15.2) = true then some ((v9.2 == 22) && ((v9.1.length : Int) == 0))
      else if (v9.2 == 0) = true → (r52 v9.1 v15.1).isSome = true then some ((v9.2 == 0) && ((r52 v9.1 v15.1).getD default))
      else none
def mid6 (a b : Int) (T : List (Int × Int)) (L : List (List (Int × Int))) (lo hi : List Int) (l : List ((List (Int × Int)) × Int × Int)) (d : (List (Int × Int)) × Int × Int) (v7 : List Int × List Int × Int) (v9 : List (List Int × List Int) × Int) : Option Bool :=
  (r48 a b T L d.1 d.2.1 d.2.2).bind fun v13 =>
    if (v13 != 0) = true then
      if (!(v7.2.2 != v13)) = true → (r47 v7.1 v7.2.1 [] []).isSome = true then
        if ((v7.2.2 != v13) || (!((r47 v7.1 v7.2.1 [] []).getD default))) = true then some false
        else tail6 a b T L lo hi l v9
      else none
    else (r49 a b T L lo hi d.1 d.2.1 d.2.2).bind fun v18 =>
      if ((!v18.2.2) && (!(v7.2.2 != 22))) = true → (r47 v7.1 v7.2.1 [] []).isSome = true then
        if (((!((!v18.2.2) && ((v7.2.2 != 22) || (!((r47 v7.1 v7.2.1 [] []).getD default))))) && v18.2.2) && (!(v7.2.2 != 0))) = true → (r47 v7.1 v7.2.1 v18.1 v18.2.1).isSome = true then
          if (((!v18.2.2) && ((v7.2.2 != 22) || (!((r47 v7.1 v7.2.1 [] []).getD default)))) || (v18.2.2 && ((v7.2.2 != 0) || (!((r47 v7.1 v7.2.1 v18.1 v18.2.1).getD default))))) = true then some false
          else tail6 a b T L lo hi l v9
        else none
      else none
theorem p_tail6 {a b : Int} {T : List (Int × Int)} {L : List (List (Int × Int))} {lo hi : List Int} {l : List ((List (Int × Int)) × Int × Int)} (h : bxErr a b T L lo hi = 0) (hn : L.length < 1000) (hl : l.length < 1000000) (hdl : ∀ d ∈ l, d.1.length < 1000000) :
    tail6 a b T L lo hi l (boxRunV a b T L lo hi l) = some true := by
  have H := boxOk_of h
  unfold tail6 boxRunV
  rw [p50 a b T L l hn hl hdl, Option.bind_some, if_pos h]
  by_cases hz : spansErrV a L l = 0
  · rw [if_neg (by simpa using hz), if_pos hz, p51 H hz, Option.bind_some]
    cases hr : runB b T L lo hi l with
    | none => rfl
    | some z =>
      have hzl := runB_len l lo hi z hr
      have h1 := H.lo.len
      have h2 := H.hi.len
      have h3 := H.lo.ok.cells
      rw [show bxG (some z) [] = (z, true) from rfl, show bxF (some z) [] = (z, 0) from rfl]
      rw [if_neg (show ¬ ((!(z, true).2) = true) by simp)]
      simp only
      rw [p52 z (by omega) (fun x hx => by have := hzl.2 x hx; omega), gS, Option.getD_some]; rfl
  · rw [if_pos (by simpa using hz), if_neg hz]
    simp
theorem p_mid6 {a b : Int} {T : List (Int × Int)} {L : List (List (Int × Int))} {lo hi : List Int} {l : List ((List (Int × Int)) × Int × Int)} {d : (List (Int × Int)) × Int × Int} (h : bxErr a b T L lo hi = 0) (hn : L.length < 1000) (hl : l.length < 1000000) (hdl : ∀ d ∈ l, d.1.length < 1000000) (hd : d.1.length < 1000000) :
    mid6 a b T L lo hi l d (boxStepV a b T L lo hi d) (boxRunV a b T L lo hi l) = some true := by
  have H := boxOk_of h
  have ht := p_tail6 h hn hl hdl
  have h0 : r47 [] [] [] [] = some true := p47 [] [] (by simp) (by simp)
  unfold mid6 boxStepV
  rw [p48 a b T L d.1 _ _ hn hd, Option.bind_some, if_pos h]
  by_cases hz : spanErrV a L d.1 d.2.1 d.2.2 = 0
  · rw [if_neg (by simpa using hz), if_pos hz, p49 H hz, Option.bind_some]
    cases hb : boxS b T L lo hi d with
    | none =>
      rw [show bxB (none : Option (List Int × List Int)) = ([], [], false) from rfl, show bxR (none : Option (List Int × List Int)) = ([], [], 22) from rfl]
      simp only
      rw [h0, gS, Option.getD_some]
      simp only [Bool.not_false, Bool.true_and, bne_self_eq_false, Bool.not_true, Bool.or_self, Bool.false_and, Bool.and_false, Bool.false_eq_true, if_false, false_implies, if_true]
      exact ht
    | some y =>
      have hyl : y.1.length = lo.length ∧ y.2.length = hi.length := by
        unfold boxS at hb
        split at hb
        · cases hb; exact ⟨outS_len .., outS_len ..⟩
        · cases hb
      have h1 := H.lo.len
      have h2 := H.hi.len
      have h3 := H.lo.ok.cells
      rw [show bxB (some y) = (y.1, y.2, true) from rfl, show bxR (some y) = (y.1, y.2, 0) from rfl]
      simp only
      rw [p47 y.1 y.2 (by omega) (by omega), gS, Option.getD_some]
      rw [if_pos (show (((!true) && (!((0 : Int) != 22))) = true → (r47 y.1 y.2 [] []).isSome = true) by simp)]
      rw [if_neg (by simp)]
      exact ht
  · rw [if_pos (by simpa using hz), if_neg hz]
    simp only
    rw [h0, gS, Option.getD_some, if_neg (by simp)]
    exact ht
theorem boxes (a b : Int) (T : List (Int × Int)) (L : List (List (Int × Int))) (lo hi : List Int) (l : List ((List (Int × Int)) × Int × Int)) (hlen : l.length ≤ 9223372036854775807) : r6 a b T L lo hi l = some true := by
  unfold r6
  rw [awake, Option.bind_some, if_neg (by simp), p15, Option.bind_some, p16, gS, Option.getD_some, p16, gS, Option.getD_some, p38 l hlen, gS, Option.getD_some]
  by_cases hf : (((((!fewV T L) || (!decide ((lo.length : Int) ≤ 14))) || (!decide ((hi.length : Int) ≤ 14))) || (!fewS l))) = true
  · rw [if_pos hf]
  · rw [if_neg hf]
    simp only [Bool.or_eq_true, Bool.not_eq_true', not_or, Bool.not_eq_false, decide_eq_true_eq] at hf
    obtain ⟨h1, h2, h3⟩ := few_of hf.1.1.1
    have hlo := hf.1.1.2
    have hhi := hf.1.2
    obtain ⟨hl, hdd⟩ := fewS_of hf.2
    have hdl : ∀ d ∈ l, d.1.length < 1000000 := fun d hd' => by have := hdd d hd'; omega
    have h0 : r47 [] [] [] [] = some true := p47 [] [] (by simp) (by simp)
    have key : ∀ (d : (List (Int × Int)) × Int × Int), d.1.length ≤ 14 →
        ((r18 a b T L).bind fun v3 => (r40 lo hi).bind fun v4 => (r39 v3.1 v3.2.1 v3.2.2.1 v3.2.2.2 v4.1 v4.2).bind fun v5 => (r42 d.1 d.2.1 d.2.2).bind fun v6 =>
          (r41 v3.1 v3.2.1 v3.2.2.1 v3.2.2.2 v4.1 v4.2 v6.1 v6.2.1 v6.2.2).bind fun v7 => (r44 l).bind fun v8 => (r43 v3.1 v3.2.1 v3.2.2.1 v3.2.2.2 v4.1 v4.2 v8).bind fun v9 =>
            (r45 a b T L).bind fun v10 =>
              if (v10 == 0) = true then
                (r46 a b T L lo hi).bind fun v11 =>
                  if ((v5.2 != v11.2) || (v5.1 != v11.1)) = true then some false
                  else if (v11.2 != 0) = true then
                    if ((v7.2.2 == v11.2) && (v9.2 == v11.2)) = true → (r47 v7.1 v7.2.1 [] []).isSome = true then
                      some ((((v7.2.2 == v11.2) && (v9.2 == v11.2)) && ((r47 v7.1 v7.2.1 [] []).getD default)) && ((v9.1.length : Int) == 0))
                    else none
                  else mid6 a b T L lo hi l d v7 v9
              else if ((v5.2 != v10) || (v5.1 != 0)) = true then some false
              else if (v10 != 0) = true then
                if ((v7.2.2 == v10) && (v9.2 == v10)) = true → (r47 v7.1 v7.2.1 [] []).isSome = true then
                  some ((((v7.2.2 == v10) && (v9.2 == v10)) && ((r47 v7.1 v7.2.1 [] []).getD default)) && ((v9.1.length : Int) == 0))
                else none
              else mid6 a b T L lo hi l d v7 v9) = some true := by
      intro d hd1
      rw [p18 a b T L (by omega) (by omega) h3, Option.bind_some, p40 lo hi (by omega) (by omega), Option.bind_some]
      simp only
      rw [p39 a b T L lo hi (by omega) (by omega) h3 (by omega) (by omega), Option.bind_some, p42 d (by omega), Option.bind_some, p41 a b T L lo hi d (by omega) (by omega) h3 (by omega) (by omega) (by omega), Option.bind_some, p44 l (by omega) hdl, Option.bind_some, p43 a b T L lo hi l (by omega) (by omega) h3 (by omega) (by omega) (by omega) hdl, Option.bind_some, p45 a b T L (by omega) h3, Option.bind_some]
      by_cases hs : (setupErrV a b T L).2 = 0
      · have ok := setOk_of hs
        rw [if_pos (by simpa using hs), if_pos hs, p46 ok lo hi (by omega) (by omega), Option.bind_some, if_neg (by simp)]
        by_cases hb : (boxErrV a T lo hi).2 = 0
        · rw [if_neg (by simpa using hb)]
          exact p_mid6 (by unfold bxErr; rw [if_pos hs]; exact hb) (by omega) (by omega) hdl (by omega)
        · have he : bxErr a b T L lo hi = (boxErrV a T lo hi).2 := by unfold bxErr; rw [if_pos hs]
          have e1 : boxStepV a b T L lo hi d = ([], [], (boxErrV a T lo hi).2) := by unfold boxStepV; rw [he, if_neg hb]
          have e2 : boxRunV a b T L lo hi l = ([], (boxErrV a T lo hi).2) := by unfold boxRunV; rw [he, if_neg hb]
          rw [if_pos (by simpa using hb), e1, e2]
          simp only
          rw [h0, gS, Option.getD_some]; simp
      · have he : bxErr a b T L lo hi = (setupErrV a b T L).2 := by unfold bxErr; rw [if_neg hs]
        have e1 : boxStepV a b T L lo hi d = ([], [], (setupErrV a b T L).2) := by unfold boxStepV; rw [he, if_neg hs]
        have e2 : boxRunV a b T L lo hi l = ([], (setupErrV a b T L).2) := by unfold boxRunV; rw [he, if_neg hs]
        rw [if_neg (by simpa using hs), if_neg hs, if_neg (by simp), if_pos (by simpa using hs), e1, e2]
        simp only
        rw [h0, gS, Option.getD_some]; simp
    by_cases hl0 : l.length = 0
    · rw [if_neg (by rw [decide_eq_true_eq]; omega)]
      exact key ([], 0, 0) (by simp)
    · rw [if_pos (by rw [decide_eq_true_eq]; omega), if_pos ⟨by omega, by omega⟩]
      exact key (l.getD 0 default) (hdd _ (getD_mem (by omega)))
end Go.Proofs.Ytcbiiijnaeibhaa

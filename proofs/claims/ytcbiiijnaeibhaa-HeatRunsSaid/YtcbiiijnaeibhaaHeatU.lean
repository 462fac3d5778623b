/- HeatRuns as a plain law. -/
import Derived.Test.YtcbiiijnaeibhaaHeatU0
import Derived.Test.YtcbiiijnaeibhaaF22
set_option linter.unusedVariables false
set_option linter.unusedSimpArgs false
namespace Go.Proofs.Ytcbiiijnaeibhaa
open Go.Abs
def tail8 (a0_0 a0_1 : Int) (a0_2 : List (Int × Int)) (a0_3 : List (List (Int × Int))) (a1 : List Int) (a2 : List (List Int × Int)) (v8 : List (List Int) × Int) (v9 : Int × Int × Int × Int × Int) (v10 : List Int × Int) : Option Bool :=
  (r72 a0_0 a0_1 a0_2 a0_3 a2).bind fun v13 =>
  if (v13 == 0) = true then
  (r73 a0_0 a0_1 a0_2 a0_3 a1 a2).bind fun v14 =>
  if (!v14.2.2) = true then
  if (22 != 0) = true then
  some (((((v8.2 == 22) && (v9.2.2.2.2 == 22)) && (v10.2 == 22)) && ((IntKind.i64.wrap ((v8.1.length : Int) + (v10.1.length : Int))) == 0)) && ((v9.1 == 0) && ((v9.2.1 == 0) && ((v9.2.2.1 == 0) && (v9.2.2.2.1 == 0)))))
  else (r74 a0_0 a0_1 a0_2 a0_3 a1 a2).bind fun v15 =>
  (r75 a0_0 a0_1 a0_2 a0_3 a1 a2).bind fun v16 =>
  if (v8.2 == 0) = true → (r76 v8.1 v14.1).isSome = true then
  if (((((v8.2 == 0) && ((r76 v8.1 v14.1).getD default)) && (v9.2.2.2.2 == 0)) && ((v9.1 == v15.1) && ((v9.2.1 == v15.2.1) && ((v9.2.2.1 == v15.2.2.1) && (v9.2.2.2.1 == v15.2.2.2.1))))) && (v10.2 == 0)) = true → (r34 v10.1 v16.1).isSome = true then
  some ((((((v8.2 == 0) && ((r76 v8.1 v14.1).getD default)) && (v9.2.2.2.2 == 0)) && ((v9.1 == v15.1) && ((v9.2.1 == v15.2.1) && ((v9.2.2.1 == v15.2.2.1) && (v9.2.2.2.1 == v15.2.2.2.1))))) && (v10.2 == 0)) && ((r34 v10.1 v16.1).getD default))
  else none
  else none
  else if (v13 != 0) = true then
  some (((((v8.2 == v13) && (v9.2.2.2.2 == v13)) && (v10.2 == v13)) && ((IntKind.i64.wrap ((v8.1.length : Int) + (v10.1.length : Int))) == 0)) && ((v9.1 == 0) && ((v9.2.1 == 0) && ((v9.2.2.1 == 0) && (v9.2.2.2.1 == 0)))))
  else (r74 a0_0 a0_1 a0_2 a0_3 a1 a2).bind fun v19 =>
  (r75 a0_0 a0_1 a0_2 a0_3 a1 a2).bind fun v20 =>
  if (v8.2 == 0) = true → (r76 v8.1 v14.1).isSome = true then
  if (((((v8.2 == 0) && ((r76 v8.1 v14.1).getD default)) && (v9.2.2.2.2 == 0)) && ((v9.1 == v19.1) && ((v9.2.1 == v19.2.1) && ((v9.2.2.1 == v19.2.2.1) && (v9.2.2.2.1 == v19.2.2.2.1))))) && (v10.2 == 0)) = true → (r34 v10.1 v20.1).isSome = true then
  some ((((((v8.2 == 0) && ((r76 v8.1 v14.1).getD default)) && (v9.2.2.2.2 == 0)) && ((v9.1 == v19.1) && ((v9.2.1 == v19.2.1) && ((v9.2.2.1 == v19.2.2.1) && (v9.2.2.2.1 == v19.2.2.2.1))))) && (v10.2 == 0)) && ((r34 v10.1 v20.1).getD default))
  else none
  else none
  else if (v13 != 0) = true then
  some (((((v8.2 == v13) && (v9.2.2.2.2 == v13)) && (v10.2 == v13)) && ((IntKind.i64.wrap ((v8.1.length : Int) + (v10.1.length : Int))) == 0)) && ((v9.1 == 0) && ((v9.2.1 == 0) && ((v9.2.2.1 == 0) && (v9.2.2.2.1 == 0)))))
  else (r74 a0_0 a0_1 a0_2 a0_3 a1 a2).bind fun v23 =>
  (r75 a0_0 a0_1 a0_2 a0_3 a1 a2).bind fun v24 =>
  if (v8.2 == 0) = true → (r76 v8.1 []).isSome = true then
  if (((((v8.2 == 0) && ((r76 v8.1 []).getD default)) && (v9.2.2.2.2 == 0)) && ((v9.1 == v23.1) && ((v9.2.1 == v23.2.1) && ((v9.2.2.1 == v23.2.2.1) && (v9.2.2.2.1 == v23.2.2.2.1))))) && (v10.2 == 0)) = true → (r34 v10.1 v24.1).isSome = true then
  some ((((((v8.2 == 0) && ((r76 v8.1 []).getD default)) && (v9.2.2.2.2 == 0)) && ((v9.1 == v23.1) && ((v9.2.1 == v23.2.1) && ((v9.2.2.1 == v23.2.2.1) && (v9.2.2.2.1 == v23.2.2.2.1))))) && (v10.2 == 0)) && ((r34 v10.1 v24.1).getD default))
  else none
  else none
theorem p_tail8 {a b : Int} {T : List (Int × Int)} {L : List (List (Int × Int))} {s : List Int} {l : List (List Int × Int)} (H : AllOk a b T L s) (hn : L.length < 1000) (hl : l.length < 1000000) (hdl : ∀ d ∈ l, d.1.length < 1000000) :
    tail8 a b T L s l ((runV a b T L s l).1, (runV a b T L s l).2.2) (balF s l (runV a b T L s l)) (peakF s (runV a b T L s l)) = some true := by
  unfold tail8
  have hrv : runV a b T L s l = if drivesErrV a L l = 0 then runF (runS b T L s l) [] 0 else ([], 0, drivesErrV a L l) := by
    unfold runV; rw [if_pos H.stErr]
  rw [p72 a b T L l hn hl hdl, Option.bind_some]
  by_cases hz : drivesErrV a L l = 0
  · rw [if_pos (by simpa using hz), p73 H hz, Option.bind_some]
    rw [if_pos hz] at hrv
    cases hr : runS b T L s l with
    | none =>
      rw [hr] at hrv
      rw [hrv]
      rfl
    | some y =>
      obtain ⟨h1, h2, h3⟩ := run_st H y hr
      have h200 := (drivesE_of hz).1
      have hpl : (peaksS s y.1).length < 1000000 := by
        have : ∀ (st : List (List Int)) (s : List Int), (peaksS s st).length = s.length := by
          intro st
          induction st with
          | nil => intro s; rfl
          | cons x r ih => intro s; show (peaksS (zipG mx s x) r).length = _; rw [ih, zipG_len]
        rw [this]; omega
      have hrv' : runV a b T L s l = (y.1, y.2, 0) := by rw [hrv, hr]; simp [runF]
      rw [hrv']
      simp only [runG, Option.map_some, Option.getD_some, List.nil_append, Int.zero_add, balF, peakF, if_true]
      rw [if_neg (by simp), if_neg (by simpa using hz), p74 H hz hdl y hr, Option.bind_some, p75 H hz y hr, Option.bind_some, p76 y.1 (by omega) (fun x hx => by have := h2 x hx; omega), gS, Option.getD_some]
      simp only
      rw [p34 (peaksS s y.1) (by omega), gS, Option.getD_some]
      simp
  · rw [if_neg hz] at hrv
    rw [if_neg (by simpa using hz), if_pos (by simpa using hz), hrv]
    unfold balF peakF
    have z0 : IntKind.i64.wrap 0 = 0 := by decide
    simp [hz, z0]
theorem runs (a b : Int) (T : List (Int × Int)) (L : List (List (Int × Int))) (s : List Int) (l : List (List Int × Int)) (hlen : l.length ≤ 9223372036854775807) : r8 a b T L s l = some true := by
  unfold r8
  rw [awake, Option.bind_some, if_neg (by simp), p15, Option.bind_some, p16, gS, Option.getD_some]
  rw [p63 l hlen, gS, Option.getD_some]
  by_cases hf : ((((!fewV T L) || (!decide ((s.length : Int) ≤ 14))) || (!fewD l))) = true
  · rw [if_pos hf]
  · rw [if_neg hf]
    simp only [Bool.or_eq_true, Bool.not_eq_true', not_or, Bool.not_eq_false, decide_eq_true_eq] at hf
    obtain ⟨h1, h2, h3⟩ := few_of hf.1.1
    have hs := hf.1.2
    obtain ⟨hl, hd⟩ := fewD_of hf.2
    have hdl : ∀ d ∈ l, d.1.length < 1000000 := fun d hd' => by have := hd d hd'; omega
    have key : ∀ (d : List Int × Int), d.1.length ≤ 14 →
        ((r18 a b T L).bind fun v3 => (r19 s).bind fun v4 => (r65 d.1 d.2).bind fun v5 => (r64 v3.1 v3.2.1 v3.2.2.1 v3.2.2.2 v4 v5.1 v5.2).bind fun v6 => (r67 l).bind fun v7 =>
          (r66 v3.1 v3.2.1 v3.2.2.1 v3.2.2.2 v4 v7).bind fun v8 => (r68 v3.1 v3.2.1 v3.2.2.1 v3.2.2.2 v4 v7).bind fun v9 => (r69 v3.1 v3.2.1 v3.2.2.1 v3.2.2.2 v4 v7).bind fun v10 =>
            (r21 a b T L s).bind fun v11 =>
              if (v11 != 0) = true then
                some ((((((v6.2 == v11) && (v8.2 == v11)) && (v9.2.2.2.2 == v11)) && (v10.2 == v11)) && ((IntKind.i64.wrap ((IntKind.i64.wrap ((v6.1.length : Int) + (v8.1.length : Int))) + (v10.1.length : Int))) == 0)) && ((v9.1 == 0) && ((v9.2.1 == 0) && ((v9.2.2.1 == 0) && (v9.2.2.2.1 == 0)))))
              else (r70 a b T L d.1 d.2).bind fun v12 =>
                if (v12 != 0) = true then
                  if ((v6.2 != v12) || ((v6.1.length : Int) != 0)) = true then some false
                  else tail8 a b T L s l v8 v9 v10
                else (r71 a b T L s d.1 d.2).bind fun v27 =>
                  if (((!((!v27.2.2) && ((v6.2 != 22) || ((v6.1.length : Int) != 0)))) && v27.2.2) && (!(v6.2 != 0))) = true → (r34 v6.1 v27.1).isSome = true then
                    if (((!v27.2.2) && ((v6.2 != 22) || ((v6.1.length : Int) != 0))) || (v27.2.2 && ((v6.2 != 0) || (!((r34 v6.1 v27.1).getD default))))) = true then some false
                    else tail8 a b T L s l v8 v9 v10
                  else none) = some true := by
      intro d hd1
      rw [p18 a b T L (by omega) (by omega) h3, Option.bind_some, p19 s (by omega), Option.bind_some, p65 d.1 d.2 (by omega), Option.bind_some]
      simp only
      rw [p64 a b T L s d.1 d.2 (by omega) (by omega) h3 (by omega) (by omega), Option.bind_some, p67 l (by omega) hdl, Option.bind_some, p66 a b T L s l (by omega) (by omega) h3 (by omega) (by omega) hdl, Option.bind_some, p68 a b T L s l (by omega) (by omega) h3 (by omega) (by omega) hdl, Option.bind_some, p69 a b T L s l (by omega) (by omega) h3 (by omega) (by omega) hdl, Option.bind_some, p21 a b T L s (by omega) (by omega) h3 (by omega), Option.bind_some]
      by_cases hst : stErr a b T L s = 0
      · have H := allOk_of hst
        have htail := p_tail8 H (show L.length < 1000 by omega) (show l.length < 1000000 by omega) hdl
        rw [if_neg (by simpa using hst), p70 a b T L d.1 d.2 (by omega) (by omega), Option.bind_some]
        by_cases hde : driveErrV a L d.1 d.2 = 0
        · rw [if_neg (by simpa using hde), p71 H.ok (H.step hde), Option.bind_some, H.stepped hde]
          have ho := outS_len b T (L.getD d.2.toNat default) s d.1
          unfold stepV
          by_cases hc : (outS b T (L.getD d.2.toNat default) s d.1).all (inT T) = true
          · simp only [if_pos hc]
            rw [p34 _ (by omega), gS, Option.getD_some, if_neg (by simp)]
            exact htail
          · simp only [if_neg hc]
            rw [if_pos (by simp), if_neg (by simp)]
            exact htail
        · rw [if_pos (by simpa using hde)]
          have : steppedV a b T L s d.1 d.2 = ([], driveErrV a L d.1 d.2) := by unfold steppedV; rw [if_pos hst, if_neg hde]
          rw [this, if_neg (by simp)]
          exact htail
      · rw [if_pos (by simpa using hst)]
        have e1 : steppedV a b T L s d.1 d.2 = ([], stErr a b T L s) := by unfold steppedV; rw [if_neg hst]
        have e2 : runV a b T L s l = ([], 0, stErr a b T L s) := by unfold runV; rw [if_neg hst]
        rw [e1, e2]
        unfold balF peakF
        have z0 : IntKind.i64.wrap 0 = 0 := by decide
        simp [hst, z0]
    by_cases hl0 : l.length = 0
    · rw [if_neg (by rw [decide_eq_true_eq]; omega)]
      exact key ([], 0) (by simp)
    · rw [if_pos (by rw [decide_eq_true_eq]; omega), if_pos ⟨by omega, by omega⟩]
      exact key (l.getD 0 default) (hd _ (getD_mem (by omega)))
end Go.Proofs.Ytcbiiijnaeibhaa

/- Strings: checks of ladders, as plain functions. -/
import Derived.Test.YtkhfaooknmoboaaGreatDoorF01
import Derived.Test.YtkhfaooknmoboaaGreatDoorStrC
set_option linter.unusedVariables false
set_option linter.unusedSimpArgs false
namespace Go.Proofs.YtkhfaooknmoboaaGreatDoor
open Go.Abs

def orE {ρ : Type} (s fin : Option ρ) : Option ρ := match s with | some v => some v | none => fin
/-- the first of n places, from i on, where f says something -/
def scanN {ρ : Type} (f : Nat → Option ρ) : Nat → Nat → Option ρ
  | _, 0 => none
  | i, k + 1 => match f i with
    | some v => some v
    | none => scanN f (i + 1) k
theorem iter_scan {ρ : Type} (n : Nat) (b : Int → Ctl Int ρ) (f : Nat → Option ρ) (fin : Option ρ) (hn : n < 1000000000)
    (step : ∀ i : Nat, i < n → b i = match f i with | some v => .out (some v) | none => .next ((i : Int) + 1)) (stop : b n = .out fin) :
    iterC b 1000000000 0 = orE (scanN f 0 n) fin := by
  have key : ∀ (k i fuel : Nat), i + k = n → k < fuel → iterC b fuel i = orE (scanN f i k) fin := by
    intro k
    induction k with
    | zero =>
      intro i fuel hi hf
      obtain ⟨m, rfl⟩ : ∃ m, fuel = m + 1 := ⟨fuel - 1, by omega⟩
      obtain rfl : i = n := by omega
      simp [iterC, stop, scanN, orE]
    | succ k ih =>
      intro i fuel hi hf
      obtain ⟨m, rfl⟩ : ∃ m, fuel = m + 1 := ⟨fuel - 1, by omega⟩
      simp only [iterC, step i (by omega), scanN]
      cases hfx : f i with
      | none =>
        have := ih (i + 1) m (by omega) (by omega)
        simpa using this
      | some v => rfl
  have := key n 0 1000000000 (by omega) hn
  simpa using this
theorem iter_run {σ ρ : Type} (n : Nat) (b : σ → Ctl σ ρ) (st : Nat → σ) (fin : Option ρ) (hn : n < 1000000000)
    (step : ∀ i : Nat, i < n → b (st i) = .next (st (i + 1))) (stop : b (st n) = .out fin) : iterC b 1000000000 (st 0) = fin := by
  have key : ∀ (k i fuel : Nat), i + k = n → k < fuel → iterC b fuel (st i) = fin := by
    intro k
    induction k with
    | zero =>
      intro i fuel hi hf
      obtain ⟨m, rfl⟩ : ∃ m, fuel = m + 1 := ⟨fuel - 1, by omega⟩
      obtain rfl : i = n := by omega
      simp [iterC, stop]
    | succ k ih =>
      intro i fuel hi hf
      obtain ⟨m, rfl⟩ : ∃ m, fuel = m + 1 := ⟨fuel - 1, by omega⟩
      simp only [iterC, step i (by omega)]
      exact ih (i + 1) m (by omega) (by omega)
  exact key n 0 1000000000 (by omega) hn
theorem scan_none {ρ : Type} {f : Nat → Option ρ} : ∀ {k i : Nat}, scanN f i k = none → ∀ j, i ≤ j → j < i + k → f j = none
  | 0, i, _, j, h1, h2 => by omega
  | k + 1, i, h, j, h1, h2 => by
    simp only [scanN] at h
    cases hf : f i with
    | some v => rw [hf] at h; cases h
    | none =>
      rw [hf] at h
      by_cases e : j = i
      · subst e; exact hf
      · exact scan_none h j (by omega) (by omega)
theorem scan_some {ρ : Type} {f : Nat → Option ρ} {v : ρ} : ∀ {k i : Nat}, scanN f i k = some v → ∃ j, i ≤ j ∧ j < i + k ∧ f j = some v
  | 0, i, h => by cases h
  | k + 1, i, h => by
    simp only [scanN] at h
    cases hf : f i with
    | some u => rw [hf] at h; obtain rfl := Option.some.inj h; exact ⟨i, by omega, by omega, hf⟩
    | none =>
      rw [hf] at h
      obtain ⟨j, h1, h2, h3⟩ := scan_some h
      exact ⟨j, by omega, by omega, h3⟩
theorem getD_mem {α : Type} [Inhabited α] {l : List α} {i : Nat} (h : i < l.length) : l.getD i default ∈ l := by
  rw [List.getD_eq_getElem?_getD, List.getElem?_eq_getElem h, Option.getD_some]; exact List.getElem_mem h

theorem gS {p : Prop} {α β : Type} {v : α} [Decidable (p → (some v).isSome = true)] {a b : β} : (if p → (some v).isSome = true then a else b) = a := if_pos (fun _ => rfl)
theorem p44 (a b c : Int) : r44 a b c = some (inR a b c) := rfl
theorem p57 (a b c : Int) : r57 a b c = some (inR a b c) := rfl
theorem p74 (a : Int) : r74 a = some (inR a 1 4) := rfl
theorem p42 (b : Bool) (e : Int) : r42 b e = some (codeIf b e) := by
  unfold r42 codeIf; cases b <;> rfl
theorem p33 (l : List Int) (hl : l.length < 1000000000) : r33 l = some (firstV l) := by
  have h := iter_list (τ := Unit) l (b33_1 l) (fun i _ => i) (fun _ _ x => if x = 0 then .next () else .out (some x)) (fun _ => some 0) hl
    (fun i t hi => by
      simp only [b33_1, ltN hi, if_true, if_pos (rgN hi), Int.toNat_natCast, wS i (by omega)]
      generalize l.getD i default = x
      by_cases hx : x = 0 <;> simp [hx, mapC])
    (fun t => by simp [b33_1]) ()
  unfold r33
  rw [h]
  have : ∀ (r : List Int) (i : Int), foldC (fun _ _ x => if x = 0 then Ctl.next () else .out (some x)) (fun _ : Unit => some 0) i r () = some (firstV r) := by
    intro r
    induction r with
    | nil => intro i; rfl
    | cons x r ih =>
      intro i
      by_cases hx : x = 0
      · simp only [foldC, hx, if_true, firstV]; exact ih _
      · simp only [foldC, if_neg hx, firstV]
  exact this l 0

/-- the error of a shell -/
def shellE (s : Int × Int × Int) : Int := if inR s.1 1 4 && inR s.2.1 1 4 && inR s.2.2 1 4 then (if s.2.2 ≤ s.2.1 then 0 else 9) else 2
theorem shell_first (s : Int × Int × Int) : firstV [codeIf (inR s.1 1 4 && inR s.2.1 1 4 && inR s.2.2 1 4) 2, codeIf (decide (s.2.2 ≤ s.2.1)) 9] = shellE s := by
  unfold shellE
  cases (inR s.1 1 4 && inR s.2.1 1 4 && inR s.2.2 1 4) with
  | false => simp [codeIf, firstV]
  | true => by_cases h6 : s.2.2 ≤ s.2.1 <;> simp [codeIf, firstV, h6]
theorem shell_ref {σ : Type} (s : Int × Int × Int) (i : Int) (nx : Ctl σ (Int × Int)) :
    (if ((!inR s.1 1 4 || !inR s.2.1 1 4) || !inR s.2.2 1 4) = true then .out (some (i, 2)) else if decide (s.2.2 > s.2.1) = true then .out (some (i, 9)) else nx) = if shellE s = 0 then nx else .out (some (i, shellE s)) := by
  unfold shellE
  cases inR s.1 1 4 <;> cases inR s.2.1 1 4 <;> cases inR s.2.2 1 4 <;> simp
  by_cases h6 : s.2.2 ≤ s.2.1
  · have h7 : ¬ s.2.1 < s.2.2 := by omega
    simp [h6, h7]
  · have h7 : s.2.1 < s.2.2 := by omega
    simp [h6, h7]
def shellF (L : List (Int × Int × Int)) (i : Nat) : Option (Int × Int) := if shellE (L.getD i default) = 0 then none else some ((i : Int), shellE (L.getD i default))
def ladO (T : Int) (L : List (Int × Int × Int)) : Option (Int × Int) :=
  if inR T 1 20 then (if L.length = 0 then some (0, 10) else if 4 < L.length then some (0, 8) else orE (scanN (shellF L) 0 L.length) (some (0, 0))) else some (0, 2)
theorem p54 (T : Int) (L : List (Int × Int × Int)) : r54 T L = ladO T L := by
  unfold r54 ladO
  simp only [p44, p42, Option.bind_some]
  rw [p33 _ (by simp), Option.bind_some]
  cases hT : inR T 1 20 with
  | false => simp [codeIf, firstV]
  | true =>
    by_cases h0 : L.length = 0
    · simp [codeIf, firstV, h0]
    · by_cases h4 : 4 < L.length
      · have h1 : (decide ((L.length : Int) > 0)) = true := by simp; omega
        have h2 : (decide ((L.length : Int) ≤ 4)) = false := by simp; omega
        simp [codeIf, firstV, h0, h4, h1, h2]
      · have h1 : (decide ((L.length : Int) > 0)) = true := by simp; omega
        have h2 : (decide ((L.length : Int) ≤ 4)) = true := by simp; omega
        rw [h1, h2]
        simp only [codeIf, if_true, firstV, bne_self_eq_false, Bool.false_eq_true, if_false, if_neg h0, if_neg h4]
        refine iter_scan L.length (b54_1 L) (shellF L) (some (0, 0)) (by omega) (fun i hi => ?_) (by simp [b54_1])
        simp only [b54_1, ltN hi, if_true, if_pos (rgN hi), Int.toNat_natCast, wS i (by omega), p44, bindC, p74, Option.isSome_some, Option.getD_some, implies_true, p42]
        rw [p33 _ (by simp)]
        simp only [bindC, shell_first, shellF]
        by_cases h5 : shellE (L.getD i default) = 0
        · simp only [h5, bne_self_eq_false, Bool.false_eq_true, if_false, if_true]
        · simp only [h5, bne_iff_ne, ne_eq, not_false_eq_true, if_true, if_false]
theorem p30 (T : Int) (L : List (Int × Int × Int)) : r30 T L = ladO T L := by
  unfold r30 ladO
  simp only [p57, Option.bind_some]
  cases hT : inR T 1 20 with
  | false => simp
  | true =>
    simp only [Bool.not_true, Bool.false_eq_true, if_false, if_true]
    by_cases h0 : L.length = 0
    · simp [h0]
    · have h1 : ((L.length : Int) == 0) = false := by simp; intro e; rw [e] at h0; simp at h0
      rw [h1, if_neg h0]
      simp only [Bool.false_eq_true, if_false]
      by_cases h4 : 4 < L.length
      · have h2 : (decide ((L.length : Int) > 4)) = true := by simp; omega
        rw [h2, if_pos h4]; rfl
      · have h2 : (decide ((L.length : Int) > 4)) = false := by simp; omega
        rw [h2, if_neg h4]
        simp only [Bool.false_eq_true, if_false]
        refine iter_scan L.length (b30_1 L) (shellF L) (some (0, 0)) (by omega) (fun i hi => ?_) (by simp [b30_1])
        simp only [b30_1, ltN hi, if_true, if_pos (rgN hi), Int.toNat_natCast, wS i (by omega), p57, bindC, Option.isSome_some, Option.getD_some, implies_true]
        rw [shell_ref]
        simp only [shellF]
        by_cases h5 : shellE (L.getD i default) = 0
        · simp only [h5, bne_self_eq_false, Bool.false_eq_true, if_false, if_true]
        · simp only [h5, bne_iff_ne, ne_eq, not_false_eq_true, if_true, if_false]
theorem lad_some (T : Int) (L : List (Int × Int × Int)) : ∃ i e, ladO T L = some (i, e) := by
  unfold ladO
  split
  · split
    · exact ⟨_, _, rfl⟩
    · split
      · exact ⟨_, _, rfl⟩
      · cases h : scanN (shellF L) 0 L.length with
        | none => exact ⟨_, _, rfl⟩
        | some v => exact ⟨v.1, v.2, rfl⟩
  · exact ⟨_, _, rfl⟩
def ladE (T : Int) (L : List (Int × Int × Int)) : Int := ((ladO T L).getD (0, 0)).2
theorem p26 (T : Int) (L : List (Int × Int × Int)) : r26 T L = some (ladE T L) := by
  unfold r26
  rw [p54, ladE]
  obtain ⟨i, e, h⟩ := lad_some T L
  rw [h]; rfl
theorem p12 (T : Int) (L : List (Int × Int × Int)) : r12 T L = some (ladE T L) := by
  unfold r12
  rw [p30, ladE]
  obtain ⟨i, e, h⟩ := lad_some T L
  rw [h]; rfl
theorem ladE_zero {T : Int} {L : List (Int × Int × Int)} (h : ladE T L = 0) : (1 ≤ T ∧ T ≤ 20) ∧ L.length ≤ 4 ∧ ∀ s ∈ L, (1 ≤ s.1 ∧ s.1 ≤ 4) ∧ (1 ≤ s.2.1 ∧ s.2.1 ≤ 4) ∧ (1 ≤ s.2.2 ∧ s.2.2 ≤ 4) := by
  unfold ladE ladO at h
  by_cases hT : inR T 1 20 = true
  · rw [if_pos hT] at h
    have hT' : 1 ≤ T ∧ T ≤ 20 := by simpa [inR] using hT
    by_cases h0 : L.length = 0
    · rw [if_pos h0] at h; cases h
    · rw [if_neg h0] at h
      by_cases h4 : 4 < L.length
      · rw [if_pos h4] at h; cases h
      · rw [if_neg h4] at h
        refine ⟨hT', by omega, fun s hs => ?_⟩
        obtain ⟨i, hi, rfl⟩ := List.getElem_of_mem hs
        cases hsc : scanN (shellF L) 0 L.length with
        | some v =>
          rw [hsc] at h
          obtain ⟨j, _, _, hj⟩ := scan_some hsc
          unfold shellF at hj
          split at hj
          · cases hj
          · rename_i hne
            obtain rfl := Option.some.inj hj
            exact absurd h hne
        | none =>
          have hj := scan_none hsc i (by omega) (by omega)
          unfold shellF at hj
          rw [List.getD_eq_getElem?_getD, List.getElem?_eq_getElem hi, Option.getD_some] at hj
          split at hj
          · rename_i he
            unfold shellE at he
            split at he
            · rename_i hin
              simp [inR] at hin
              omega
            · cases he
          · cases hj
  · rw [if_neg hT] at h; cases h
end Go.Proofs.YtkhfaooknmoboaaGreatDoor

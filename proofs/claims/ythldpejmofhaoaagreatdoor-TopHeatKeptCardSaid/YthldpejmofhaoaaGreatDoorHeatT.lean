/- HeatTimes as a plain law. -/
import Derived.Test.YthldpejmofhaoaaGreatDoorF04
import Derived.Test.YthldpejmofhaoaaGreatDoorF06
import Derived.Test.YthldpejmofhaoaaGreatDoorHeatD
set_option linter.unusedVariables false
set_option linter.unusedSimpArgs false
namespace Go.Proofs.YthldpejmofhaoaaGreatDoor
open Go.Abs

def taskErrV (a : Int) (L : List (List (Int × Int))) (p : List Int) (law k d most : Int) : Int :=
  firstV [driveErrV a L p law, codeIf (inR k 200 3000) 2, codeIf (inR d 1 a && inR most 0 200) 2]
theorem p22 (a b : Int) (T : List (Int × Int)) (L : List (List (Int × Int))) (p : List Int) (law k d most : Int) (h : L.length < 1000) (hl : p.length < 1000000000) : r9 a b T L p law k d most = some (taskErrV a L p law k d most) := by
  unfold r9 taskErrV
  rw [p70 a b T L p law h hl, Option.bind_some, p97, Option.bind_some, p59, Option.bind_some, p59, gS, Option.getD_some]
  generalize driveErrV a L p law = e
  generalize codeIf (inR k 200 3000) 2 = f
  by_cases he : e = 0
  · rw [if_neg (by simpa using he), he]
    by_cases hf : f = 0
    · rw [if_neg (by simpa using hf), hf]
      cases inR d 1 a <;> cases inR most 0 200 <;> rfl
    · rw [if_pos (by simpa using hf)]
      simp [firstV, hf]
  · rw [if_pos (by simpa using he)]
    simp [firstV, he]
theorem task_ok {a : Int} {L : List (List (Int × Int))} {p : List Int} {law k d most : Int} (h : taskErrV a L p law k d most = 0) : driveErrV a L p law = 0 ∧ (200 ≤ k ∧ k ≤ 3000) ∧ (1 ≤ d ∧ d ≤ a) ∧ 0 ≤ most ∧ most ≤ 200 := by
  unfold taskErrV at h
  generalize driveErrV a L p law = e at *
  by_cases he : e = 0
  · cases h1 : inR k 200 3000 with
    | false => rw [h1, he] at h; simp [firstV, codeIf] at h
    | true =>
      cases h2 : (inR d 1 a && inR most 0 200) with
      | false => rw [h1, h2, he] at h; simp [firstV, codeIf] at h
      | true =>
        rw [inR_iff] at h1
        rw [Bool.and_eq_true, inR_iff, inR_iff] at h2
        exact ⟨he, h1, h2⟩
  · simp [firstV, he] at h

/-- the minimum number of ticks -/
def shortS (b : Int) (T : List (Int × Int)) (law : List (Int × Int)) (p : List Int) (k d most : Int) : Nat → List Int → Int → Int × Int
  | 0, _, _ => (0, 12)
  | n + 1, l, t => if d ≤ depS T k l then (t, 0) else if t = most then (0, 12)
    else if (outS b T law l p).all (inT T) = true then shortS b T law p k d most n (outS b T law l p) (t + 1) else (0, 22)
theorem p17_loop {a b : Int} {T : List (Int × Int)} {L : List (List (Int × Int))} {p : List Int} {law k d most : Int} (hd : driveErrV a L p law = 0) (hk : 200 ≤ k ∧ k ≤ 3000) (hm : 0 ≤ most ∧ most ≤ 200) (v : Int) :
    ∀ (n : Nat) (l : List Int) (t : Int) (fuel : Nat), AllOk a b T L l → 0 ≤ t → t ≤ most → most - t < n → n + 1 < fuel →
      iterC (b16_1 p law k d most (a, b, T, L, T, L, v)) fuel (l, 0, t) = some (shortS b T (L.getD law.toNat default) p k d most n l t)
  | 0, l, t, fuel, _, _, _, _, _ => by omega
  | n + 1, l, t, fuel, h, h0, h1, h2, h3 => by
    obtain ⟨m, rfl⟩ : ∃ m, fuel = m + 1 := ⟨fuel - 1, by omega⟩
    have hlen := h.len
    have hc := h.ok.cells
    have e1 : b16_1 p law k d most (a, b, T, L, T, L, v) (l, 0, t) = if d ≤ depS T k l then .out (some (t, 0)) else if t = most then .out (some (0, 12)) else .next (outS b T (L.getD law.toNat default) l p, (if (outS b T (L.getD law.toNat default) l p).all (inT T) = true then 0 else 22), t + 1) := by
      simp only [b16_1, beq_self_eq_true, if_true, p95 h.ok l hk (by omega), bindC, p96 h.ok (h.step hd), beq_iff_eq, decide_eq_true_eq, ge_iff_le]
      rw [IntWalk.i64_in (t + 1) ⟨by omega, by omega⟩]
    simp only [iterC, e1, shortS]
    by_cases c1 : d ≤ depS T k l
    · rw [if_pos c1, if_pos c1]
    · rw [if_neg c1, if_neg c1]
      by_cases c2 : t = most
      · rw [if_pos c2, if_pos c2]
      · rw [if_neg c2, if_neg c2]
        simp only
        by_cases c3 : (outS b T (L.getD law.toNat default) l p).all (inT T) = true
        · rw [if_pos c3, if_pos c3]
          exact p17_loop hd hk hm v n _ (t + 1) m (h.next c3) (by omega) (by omega) (by omega) (by omega)
        · rw [if_neg c3, if_neg c3]
          obtain ⟨q, rfl⟩ : ∃ q, m = q + 1 := ⟨m - 1, by omega⟩
          simp only [iterC, b16_1]
          rfl
def shortV2 (a b : Int) (T : List (Int × Int)) (L : List (List (Int × Int))) (s p : List Int) (law k d most : Int) : Int × Int :=
  if stErr a b T L s = 0 then (if taskErrV a L p law k d most = 0 then shortS b T (L.getD law.toNat default) p k d most 1000 s 0 else (0, taskErrV a L p law k d most)) else (0, stErr a b T L s)
theorem p17 (a b : Int) (T : List (Int × Int)) (L : List (List (Int × Int))) (s p : List Int) (law k d most : Int) (hT : T.length < 1000) (hn : L.length < 1000) (hL : ∀ x ∈ L, x.length < 1000) (hs : s.length < 1000000) (hp : p.length < 1000000) :
    r16 a b T L s p law k d most = some (shortV2 a b T L s p law k d most) := by
  unfold r16 shortV2
  rw [p89 a b T L s hT hn hL hs, Option.bind_some]
  by_cases h : stErr a b T L s = 0
  · have H := allOk_of h
    rw [H.open, if_pos (by rfl), if_pos h]
    simp only
    rw [p90, Option.bind_some, p90, gS, Option.getD_some, p92 a b T L T L p law hn (by omega), Option.bind_some, p93, Option.bind_some, p94, Option.bind_some, p91 _ (by simp), Option.bind_some]
    show iterC (b16_1 p law k d most (a, b, T, L, T, L, 0)) 1000000000 (s, taskErrV a L p law k d most, 0) = _
    by_cases ht : taskErrV a L p law k d most = 0
    · have h1 := task_ok ht
      rw [if_pos ht, ht]
      exact p17_loop h1.1 h1.2.1 h1.2.2.2 0 1000 s 0 1000000000 H (by omega) h1.2.2.2.1 (by omega) (by omega)
    · rw [if_neg ht]
      have e : b16_1 p law k d most (a, b, T, L, T, L, 0) (s, taskErrV a L p law k d most, 0) = .out (some (0, taskErrV a L p law k d most)) := by
        rw [b16_1, if_neg (by simpa using ht)]
      show iterC _ (999999999 + 1) _ = _
      simp only [iterC, e]
  · rw [if_neg h]
    have ho : (openV a b T L s).2.2.2.2.2.2 = stErr a b T L s := by unfold openV stErr; split <;> rfl
    rw [if_neg (by rw [ho]; simpa using h), ho]
    have e : b16_2 p law k d most (openV a b T L s) (s, stErr a b T L s, 0) = .out (some (0, stErr a b T L s)) := by
      rw [b16_2, if_neg (by simpa using h)]
    show iterC _ (999999999 + 1) _ = _
    simp only [iterC, e]
end Go.Proofs.YthldpejmofhaoaaGreatDoor

/- Runs, balances and peaks in the code and in the reference. -/
import Derived.Test.YthldpejmofhaoaaGreatDoorF06
import Derived.Test.YthldpejmofhaoaaGreatDoorHeatN
set_option linter.unusedVariables false
set_option linter.unusedSimpArgs false
namespace Go.Proofs.YthldpejmofhaoaaGreatDoor
open Go.Abs

/-- the balance of a run -/
def balV (s : List Int) (l : List (List Int × Int)) (y : List (List Int) × Int) : Int × Int × Int × Int :=
  (sumW 0 s, inW 0 l, y.2, if y.1.length = 0 then sumW 0 s else sumW 0 (y.1.getD (y.1.length - 1) default))
theorem p68_loop (l : List (List Int × Int)) (v1 : List (List Int) × Int × Int) (v2 v3 : Int) (hl : l.length < 1000000) (hdl : ∀ d ∈ l, d.1.length < 1000000) :
    iterC (b20_1 l v1 v2 v3) 1000000000 (0, 0) = some (v2, inW 0 l, v1.2.1, v3, 0) := by
  refine iter_suf (τ := Int) l (b20_1 l v1 v2 v3) (fun i t => ((i : Int), t)) (fun r t => some (v2, inW t r, v1.2.1, v3, 0)) (fun _ _ => True) (by omega) (fun i t r hi _ _ => ?_) (fun t _ => by simp [b20_1, inW]) 0 trivial
  left
  have := hdl _ (getD_mem hi)
  simp only [b20_1, ltN hi, if_true, if_pos (rgN hi), Int.toNat_natCast, wS i (by omega), p133 (l.getD i default).1 (by omega), bindC]
  exact ⟨_, rfl, trivial, rfl⟩
theorem p68_loop2 (l : List (List Int × Int)) (v1 : List (List Int) × Int × Int) (v2 : Int) (hl : l.length < 1000000) (hdl : ∀ d ∈ l, d.1.length < 1000000) :
    iterC (b20_2 l v1 v2) 1000000000 (0, 0) = some (v2, inW 0 l, v1.2.1, v2, 0) := p68_loop l v1 v2 v2 hl hdl
theorem run_st {a b : Int} {T : List (Int × Int)} {L : List (List (Int × Int))} {s : List Int} {l : List (List Int × Int)} (H : AllOk a b T L s) (y : List (List Int) × Int) (h : runS b T L s l = some y) : y.1.length = l.length ∧ (∀ x ∈ y.1, x.length = s.length) ∧ s.length < 1000 := by
  have := run_len l s y h
  have h2 := H.len
  have h3 := H.ok.cells
  exact ⟨this.1, this.2, by omega⟩
/-- what the code returns -/
def balF (s : List Int) (l : List (List Int × Int)) (v : List (List Int) × Int × Int) : Int × Int × Int × Int × Int :=
  if v.2.2 = 0 then ((balV s l (v.1, v.2.1)).1, (balV s l (v.1, v.2.1)).2.1, (balV s l (v.1, v.2.1)).2.2.1, (balV s l (v.1, v.2.1)).2.2.2, 0) else (0, 0, 0, 0, v.2.2)
theorem runV_st {a b : Int} {T : List (Int × Int)} {L : List (List (Int × Int))} {s : List Int} {l : List (List Int × Int)} (h : (runV a b T L s l).2.2 = 0) : (runV a b T L s l).1.length ≤ 200 ∧ (∀ x ∈ (runV a b T L s l).1, x.length = s.length) ∧ s.length < 1000 := by
  unfold runV at h ⊢
  by_cases h1 : stErr a b T L s = 0
  · rw [if_pos h1] at h ⊢
    by_cases h2 : drivesErrV a L l = 0
    · rw [if_pos h2] at h ⊢
      have h200 := (drivesE_of h2).1
      cases hr : runS b T L s l with
      | none => rw [hr] at h; simp [runF] at h
      | some y =>
        have := run_st (allOk_of h1) y hr
        simp only [runF, Option.map_some, Option.getD_some, List.nil_append]
        exact ⟨by omega, this.2⟩
    · rw [if_neg h2] at h; exact absurd h h2
  · rw [if_neg h1] at h; exact absurd h h1
theorem p68 (a b : Int) (T : List (Int × Int)) (L : List (List (Int × Int))) (s : List Int) (l : List (List Int × Int)) (hT : T.length < 1000) (hn : L.length < 1000) (hL : ∀ x ∈ L, x.length < 1000) (hs : s.length < 1000000) (hl : l.length < 1000000) (hdl : ∀ d ∈ l, d.1.length < 1000000) :
    r20 a b T L s l = some (balF s l (runV a b T L s l)) := by
  unfold r20 balF
  rw [p132 a b T L s l hT hn hL hs hl hdl, Option.bind_some]
  by_cases h : (runV a b T L s l).2.2 = 0
  · obtain ⟨h1, h2, h3⟩ := runV_st h
    rw [if_neg (by simpa using h), if_pos h, p133 s (by omega), Option.bind_some]
    generalize runV a b T L s l = v at *
    unfold balV
    by_cases h0 : v.1.length = 0
    · rw [if_neg (by rw [decide_eq_true_eq]; omega), p68_loop2 l v _ hl hdl, if_pos h0]
    · have hm := h2 _ (getD_mem (show v.1.length - 1 < v.1.length by omega))
      rw [if_pos (by rw [decide_eq_true_eq]; omega), wP v.1.length (by omega), wPn, if_pos ⟨by omega, by omega⟩, p133 _ (by omega), Option.bind_some, p68_loop l v _ _ hl hdl, if_neg h0]
  · rw [if_pos (by simpa using h), if_neg h]
theorem p66 (a b : Int) (T : List (Int × Int)) (L : List (List (Int × Int))) (s : List Int) (l : List (List Int × Int)) (hT : T.length < 1000) (hn : L.length < 1000) (hL : ∀ x ∈ L, x.length < 1000) (hs : s.length < 1000000) (hl : l.length < 1000000) (hdl : ∀ d ∈ l, d.1.length < 1000000) :
    r22 a b T L s l = some ((runV a b T L s l).1, (runV a b T L s l).2.2) := by
  unfold r22
  rw [p132 a b T L s l hT hn hL hs hl hdl, Option.bind_some]
def peakF (s : List Int) (v : List (List Int) × Int × Int) : List Int × Int := if v.2.2 = 0 then (peaksS s v.1, 0) else ([], v.2.2)
theorem p65 (l : List Int) (n : Int) (hl : l.length < 1000000000) : r19 l n = some (l, n) := by
  rw [r19, p19 l hl, Option.bind_some]
theorem p67 (l : List (List Int × Int)) (hl : l.length < 1000000) (hdl : ∀ d ∈ l, d.1.length < 1000000) : r21 l = some l := by
  unfold r21
  refine iter_run l.length (b21_1 l) (fun i => (l.take i, (i : Int))) _ (by omega) (fun i hi => ?_) (by simp [b21_1])
  have hlen : (l.take i).length = i := by simp; omega
  have := hdl _ (getD_mem hi)
  simp only [b21_1, ltN hi, if_true, if_pos (rgN hi), Int.toNat_natCast, wS i (by omega), p65 (l.getD i default).1 _ (show (l.getD i default).1.length < 1000000000 by omega), bindC]
  rw [if_pos ⟨by omega, by omega⟩, take_ext l i hi]
  rfl
/-- few drives -/
def fewD (l : List (List Int × Int)) : Bool := (l.all fun d => decide ((d.1.length : Int) ≤ 14)) && shortV (l.length : Int)
theorem wL (i : Nat) (h : i < 9223372036854775807) : IntKind.i64.wrap ((i : Int) + 1) = (i : Int) + 1 := IntWalk.i64_in _ ⟨by omega, by omega⟩
theorem fewD_of {l : List (List Int × Int)} (h : fewD l = true) : l.length ≤ 202 ∧ ∀ d ∈ l, d.1.length ≤ 14 := by
  unfold fewD at h
  rw [Bool.and_eq_true, List.all_eq_true] at h
  have := shortV_le h.2
  exact ⟨by omega, fun d hd => by have := h.1 d hd; rw [decide_eq_true_eq] at this; omega⟩
end Go.Proofs.YthldpejmofhaoaaGreatDoor

/- The code's boxes with errors; copies; comparisons of boxes. -/
import Derived.Test.YtcbiiijnaeibhaaGreatHeatBx
set_option linter.unusedVariables false
set_option linter.unusedSimpArgs false
namespace Go.Proofs.YtcbiiijnaeibhaaGreat
open Go.Abs

def boxStepV (a b : Int) (T : List (Int × Int)) (L : List (List (Int × Int))) (lo hi : List Int) (d : (List (Int × Int)) × Int × Int) : List Int × List Int × Int :=
  if bxErr a b T L lo hi = 0 then (if spanErrV a L d.1 d.2.1 d.2.2 = 0 then bxR (boxS b T L lo hi d) else ([], [], spanErrV a L d.1 d.2.1 d.2.2)) else ([], [], bxErr a b T L lo hi)
theorem eta3 {α β γ : Type} (x : α × β × γ) : (x.1, x.2.1, x.2.2) = x := rfl
theorem p41 (a b : Int) (T : List (Int × Int)) (L : List (List (Int × Int))) (lo hi : List Int) (d : (List (Int × Int)) × Int × Int) (hT : T.length < 1000) (hn : L.length < 1000) (hL : ∀ x ∈ L, x.length < 1000) (h1 : lo.length < 1000000) (h2 : hi.length < 1000000) (h3 : d.1.length < 1000000) :
    r24 a b T L lo hi d.1 d.2.1 d.2.2 = some (boxStepV a b T L lo hi d) := by
  unfold r24 boxStepV
  rw [p115 a b T L lo hi hT hn hL h1 h2, Option.bind_some]
  by_cases h : bxErr a b T L lo hi = 0
  · have H := boxOk_of h
    rw [openBx_ok h, if_pos (by rfl), if_pos h]
    simp only
    rw [p116 a b T L T L d.1 _ _ hn h3, Option.bind_some]
    by_cases hd : spanErrV a L d.1 d.2.1 d.2.2 = 0
    · rw [if_neg (by simpa using hd), if_pos hd, p117 H hd, Option.bind_some]
    · rw [if_pos (by simpa using hd), if_neg hd]
  · have ho := openBx_err a b T L lo hi
    rw [if_neg h, if_neg (by rw [ho]; simpa using h), if_pos (by rw [ho]; simpa using h), ho]
def boxRunV (a b : Int) (T : List (Int × Int)) (L : List (List (Int × Int))) (lo hi : List Int) (l : List ((List (Int × Int)) × Int × Int)) : List (List Int × List Int) × Int :=
  if bxErr a b T L lo hi = 0 then (if spansErrV a L l = 0 then bxF (runB b T L lo hi l) [] else ([], spansErrV a L l)) else ([], bxErr a b T L lo hi)
theorem p47 (u v : List Int) (h1 : u.length < 1000000) (h2 : v.length < 1000000) : r29 u v u v = some true := by
  unfold r29
  rw [p34 u (by omega), Option.bind_some, p34 v (by omega), gS, Option.getD_some]; rfl
theorem p40 (u v : List Int) (h1 : u.length < 1000000) (h2 : v.length < 1000000) : r12 u v = some (u, v) := by
  unfold r12
  rw [p19 u (by omega), Option.bind_some, p19 v (by omega), Option.bind_some]
theorem p42 (d : (List (Int × Int)) × Int × Int) (h : d.1.length < 1000000) : r69 d.1 d.2.1 d.2.2 = some d := by
  unfold r69
  rw [if_pos ⟨by omega, by omega⟩]
theorem p44 (l : List ((List (Int × Int)) × Int × Int)) (hl : l.length < 1000000) (hdl : ∀ d ∈ l, d.1.length < 1000000) : r38 l = some l := by
  unfold r38
  refine iter_run l.length (b38_1 l) (fun i => (l.take i, (i : Int))) _ (by omega) (fun i hi => ?_) (by simp [b38_1])
  have hlen : (l.take i).length = i := by simp; omega
  have := hdl _ (getD_mem hi)
  simp only [b38_1, ltN hi, if_true, if_pos (rgN hi), Int.toNat_natCast, wS i (by omega), p42 (l.getD i default) (by omega), bindC]
  rw [if_pos ⟨by omega, by omega⟩, take_ext l i hi]
  rfl
/-- few spans -/
def fewS (l : List ((List (Int × Int)) × Int × Int)) : Bool := (l.all fun d => decide ((d.1.length : Int) ≤ 14)) && shortV (l.length : Int)
theorem wL' (i : Nat) (h : i < 9223372036854775807) : IntKind.i64.wrap ((i : Int) + 1) = (i : Int) + 1 := IntWalk.i64_in _ ⟨by omega, by omega⟩
theorem p38 (l : List ((List (Int × Int)) × Int × Int)) (hl : l.length ≤ 9223372036854775807) : r7 l = some (fewS l) := by
  unfold r7 fewS
  refine iter_suf (τ := Unit) l (b7_1 l) (fun i _ => (i : Int)) (fun r _ => some ((r.all fun d => decide ((d.1.length : Int) ≤ 14)) && shortV (l.length : Int))) (fun _ _ => True) (by omega) (fun i t r hi _ _ => ?_) (fun t _ => by
    simp only [b7_1]
    rw [if_neg (by simp), p28]; rfl) () trivial
  simp only [b7_1, ltN hi, if_true, if_pos (rgN hi), Int.toNat_natCast, wL' i (by omega), List.all_cons]
  by_cases hc : ((l.getD i default).1.length : Int) ≤ 14
  · left
    rw [if_neg (by rw [decide_eq_true_eq]; omega), decide_eq_true hc]
    exact ⟨(), rfl, trivial, rfl⟩
  · right
    rw [if_pos (decide_eq_true (by omega)), decide_eq_false hc]; rfl
theorem fewS_of {l : List ((List (Int × Int)) × Int × Int)} (h : fewS l = true) : l.length ≤ 202 ∧ ∀ d ∈ l, d.1.length ≤ 14 := by
  unfold fewS at h
  rw [Bool.and_eq_true, List.all_eq_true] at h
  have := shortV_le h.2
  exact ⟨by omega, fun d hd => by have := h.1 d hd; rw [decide_eq_true_eq] at this; omega⟩
end Go.Proofs.YtcbiiijnaeibhaaGreat

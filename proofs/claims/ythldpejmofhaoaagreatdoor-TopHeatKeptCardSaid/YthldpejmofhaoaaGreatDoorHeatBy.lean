/- The code's boxes with errors; copies; comparisons of boxes. -/
import Derived.Test.YthldpejmofhaoaaGreatDoorF06
import Derived.Test.YthldpejmofhaoaaGreatDoorF07
import Derived.Test.YthldpejmofhaoaaGreatDoorHeatBx
set_option linter.unusedVariables false
set_option linter.unusedSimpArgs false
namespace Go.Proofs.YthldpejmofhaoaaGreatDoor
open Go.Abs

def boxStepV (a b : Int) (T : List (Int × Int)) (L : List (List (Int × Int))) (lo hi : List Int) (d : (List (Int × Int)) × Int × Int) : List Int × List Int × Int :=
  if bxErr a b T L lo hi = 0 then (if spanErrV a L d.1 d.2.1 d.2.2 = 0 then bxR (boxS b T L lo hi d) else ([], [], spanErrV a L d.1 d.2.1 d.2.2)) else ([], [], bxErr a b T L lo hi)
theorem eta3 {α β γ : Type} (x : α × β × γ) : (x.1, x.2.1, x.2.2) = x := rfl
def boxRunV (a b : Int) (T : List (Int × Int)) (L : List (List (Int × Int))) (lo hi : List Int) (l : List ((List (Int × Int)) × Int × Int)) : List (List Int × List Int) × Int :=
  if bxErr a b T L lo hi = 0 then (if spansErrV a L l = 0 then bxF (runB b T L lo hi l) [] else ([], spansErrV a L l)) else ([], bxErr a b T L lo hi)
theorem p43 (a b : Int) (T : List (Int × Int)) (L : List (List (Int × Int))) (lo hi : List Int) (l : List ((List (Int × Int)) × Int × Int)) (hT : T.length < 1000) (hn : L.length < 1000) (hL : ∀ x ∈ L, x.length < 1000) (h1 : lo.length < 1000000) (h2 : hi.length < 1000000) (hl : l.length < 1000000) (hdl : ∀ d ∈ l, d.1.length < 1000000) :
    r88 a b T L lo hi l = some (boxRunV a b T L lo hi l) := by
  unfold r88 boxRunV
  rw [p115 a b T L lo hi hT hn hL h1 h2, Option.bind_some]
  by_cases h : bxErr a b T L lo hi = 0
  · have H := boxOk_of h
    rw [openBx_ok h, if_pos (by rfl), if_pos h]
    simp only
    rw [p118 a b T L T L l hn hl hdl, Option.bind_some]
    by_cases hz : spansErrV a L l = 0
    · rw [if_neg (by simpa using hz), if_pos hz, p119 H hz, Option.bind_some]
    · rw [if_pos (by simpa using hz), if_neg hz]
  · have ho := openBx_err a b T L lo hi
    rw [if_neg h, if_neg (by rw [ho]; simpa using h), if_pos (by rw [ho]; simpa using h), ho]
theorem p40 (u v : List Int) (h1 : u.length < 1000000) (h2 : v.length < 1000000) : r89 u v = some (u, v) := by
  unfold r89
  rw [p19 u (by omega), Option.bind_some, p19 v (by omega), Option.bind_some]
theorem p42 (d : (List (Int × Int)) × Int × Int) (h : d.1.length < 1000000) : r117 d.1 d.2.1 d.2.2 = some d := by
  unfold r117
  rw [if_pos ⟨by omega, by omega⟩]
theorem p44 (l : List ((List (Int × Int)) × Int × Int)) (hl : l.length < 1000000) (hdl : ∀ d ∈ l, d.1.length < 1000000) : r90 l = some l := by
  unfold r90
  refine iter_run l.length (b90_1 l) (fun i => (l.take i, (i : Int))) _ (by omega) (fun i hi => ?_) (by simp [b90_1])
  have hlen : (l.take i).length = i := by simp; omega
  have := hdl _ (getD_mem hi)
  simp only [b90_1, ltN hi, if_true, if_pos (rgN hi), Int.toNat_natCast, wS i (by omega), p42 (l.getD i default) (by omega), bindC]
  rw [if_pos ⟨by omega, by omega⟩, take_ext l i hi]
  rfl
/-- few spans -/
def fewS (l : List ((List (Int × Int)) × Int × Int)) : Bool := (l.all fun d => decide ((d.1.length : Int) ≤ 14)) && shortV (l.length : Int)
theorem wL' (i : Nat) (h : i < 9223372036854775807) : IntKind.i64.wrap ((i : Int) + 1) = (i : Int) + 1 := IntWalk.i64_in _ ⟨by omega, by omega⟩
theorem fewS_of {l : List ((List (Int × Int)) × Int × Int)} (h : fewS l = true) : l.length ≤ 202 ∧ ∀ d ∈ l, d.1.length ≤ 14 := by
  unfold fewS at h
  rw [Bool.and_eq_true, List.all_eq_true] at h
  have := shortV_le h.2
  exact ⟨by omega, fun d hd => by have := h.1 d hd; rw [decide_eq_true_eq] at this; omega⟩
end Go.Proofs.YthldpejmofhaoaaGreatDoor

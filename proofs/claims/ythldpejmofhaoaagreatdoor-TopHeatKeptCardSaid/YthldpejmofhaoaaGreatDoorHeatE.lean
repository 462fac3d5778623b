/- HeatKept as a plain law. -/
import Derived.Test.YthldpejmofhaoaaGreatDoorHeatU0
set_option linter.unusedVariables false
set_option linter.unusedSimpArgs false
namespace Go.Proofs.YthldpejmofhaoaaGreatDoor
open Go.Abs

theorem sumW_eq (l : List Int) : ∀ acc : Int, (∀ x ∈ l, 0 ≤ x ∧ x ≤ 10000000) → 0 ≤ acc → acc + 10000000 * (l.length : Int) ≤ 1000000000000 → sumW acc l = acc + sumL l := by
  induction l with
  | nil => intro acc _ _ _; simp only [sumW, sumL]; omega
  | cons x r ih =>
    intro acc h h0 h1
    have hx := h x (by simp)
    have e : ((x :: r).length : Int) = r.length + 1 := by simp
    rw [e] at h1
    unfold sumW sumL
    rw [IntWalk.i64_in (acc + x) ⟨by omega, by omega⟩, ih (acc + x) (fun y hy => h y (by simp [hy])) (by omega) (by omega)]
    omega
theorem inW_cons (acc : Int) (d : List Int × Int) (r : List (List Int × Int)) : inW acc (d :: r) = inW (IntKind.i64.wrap (acc + sumW 0 d.1)) r := rfl
theorem sumL_rng {M : Int} : ∀ (l : List Int), (∀ x ∈ l, 0 ≤ x ∧ x ≤ M) → 0 ≤ sumL l ∧ sumL l ≤ M * l.length
  | [], _ => by simp [sumL]
  | x :: r, h => by
    have hx := h x (by simp)
    have := sumL_rng r (fun y hy => h y (by simp [hy]))
    have e : M * ((x :: r).length : Int) = M * r.length + M := by rw [List.length_cons, Int.natCast_add, Int.mul_add]; simp
    rw [e]; unfold sumL; omega
theorem sumL_zero : ∀ (l : List Int), (∀ x ∈ l, 0 ≤ x) → sumL l = 0 → ∀ x ∈ l, x = 0
  | [], _, _, x, hx => by simp at hx
  | y :: r, h, hs, x, hx => by
    have hy := h y (by simp)
    have hr : 0 ≤ sumL r := by
      have : ∀ l : List Int, (∀ x ∈ l, 0 ≤ x) → 0 ≤ sumL l := by
        intro l
        induction l with
        | nil => intro _; simp [sumL]
        | cons z q ih => intro hq; have := ih (fun w hw => hq w (by simp [hw])); have := hq z (by simp); unfold sumL; omega
      exact this r (fun w hw => h w (by simp [hw]))
    unfold sumL at hs
    rcases List.mem_cons.1 hx with rfl | hx
    · omega
    · exact sumL_zero r (fun w hw => h w (by simp [hw])) (by omega) x hx
theorem addL_zero : ∀ (l p : List Int), (∀ x ∈ p, x = 0) → addL l p = l
  | [], _, _ => rfl
  | x :: l, [], _ => rfl
  | x :: l, y :: p, h => by
    have := h y (by simp)
    unfold addL
    rw [this, addL_zero l p (fun w hw => h w (by simp [hw])), Int.add_zero]
theorem subH_zero : ∀ l : List Int, subH 0 l = l
  | [] => rfl
  | x :: r => by simp [subH]
theorem min_max : ∀ (l : List Int), l ≠ [] → ∃ u v, u ∈ l ∧ v ∈ l ∧ ∀ x ∈ l, u ≤ x ∧ x ≤ v
  | [], h => absurd rfl h
  | [x], _ => ⟨x, x, by simp, by simp, by simp⟩
  | x :: y :: r, _ => by
    obtain ⟨u, v, h1, h2, h3⟩ := min_max (y :: r) (by simp)
    refine ⟨if x ≤ u then x else u, if v ≤ x then x else v, ?_, ?_, fun z hz => ?_⟩
    · split
      · simp
      · exact List.mem_cons_of_mem _ h1
    · split
      · simp
      · exact List.mem_cons_of_mem _ h2
    · rcases List.mem_cons.1 hz with rfl | hz
      · constructor <;> split <;> omega
      · have := h3 z hz
        constructor <;> split <;> omega
theorem pl_zero : ∀ (l : List (Int × Int)) (x : Rat), (∀ p ∈ l, p.2 = 0) → pl l x = 0
  | [], _, _ => rfl
  | [p], _, h => by unfold pl; rw [h p (by simp)]; rfl
  | p :: q :: r, x, h => by
    have h1 := h p (by simp)
    have h2 := h q (by simp)
    have z : ((0 : Int) : Rat) = 0 := rfl
    unfold pl
    rw [h1, h2, z]
    split
    · rfl
    · split
      · grind
      · exact pl_zero (q :: r) x (fun w hw => h w (by simp [hw]))
theorem loss_zero {T law : List (Int × Int)} {e : Int} (h : ∀ p ∈ law, p.2 = 0) : lossS T law e = 0 := by
  unfold lossS
  rw [pl_zero law _ h]; exact Rat.floor_intCast 0
structure KeptI (a b : Int) (T : List (Int × Int)) (L : List (List (Int × Int))) (s : List Int) (l : List (List Int × Int)) (i : Nat) (inn : Int) (now : List Int) (pre : List (List Int)) (n : Int) : Prop where
  all : AllOk a b T L now
  run : runS b T L s l = (runS b T L now (l.drop i)).map fun y => (pre ++ y.1, n + y.2)
  len : pre.length = i
  rng : 0 ≤ n ∧ n ≤ 1000 * i
  irng : 0 ≤ inn ∧ inn ≤ 200000 * i
  bal : sumL s + inn = n + sumL now
  inw : inW inn (l.drop i) = inW 0 l
  last : (i = 0 → now = s) ∧ (0 < i → pre.getD (i - 1) default = now)
theorem AllOk.sum {a b : Int} {T : List (Int × Int)} {L : List (List (Int × Int))} {s : List Int} (h : AllOk a b T L s) : sumW 0 s = sumL s ∧ 0 ≤ sumL s ∧ sumL s ≤ 12000000 := by
  have h1 := h.len
  have h2 := h.ok.cells
  have h3 : ∀ x ∈ s, 0 ≤ x ∧ x ≤ 1000000 := fun x hx => inT_rng h.ok (h.ins x hx)
  have h4 := sumL_rng s h3
  refine ⟨?_, h4.1, by omega⟩
  rw [sumW_eq s 0 (fun x hx => by have := h3 x hx; omega) (by omega) (by omega), Int.zero_add]
theorem drive_sum {a b : Int} {T : List (Int × Int)} {L : List (List (Int × Int))} (ok : SetOk a b T L) {p : List Int} {law : Int} (h : driveErrV a L p law = 0) : sumW 0 p = sumL p ∧ 0 ≤ sumL p ∧ sumL p ≤ 120000 := by
  have D := drive_ok h
  have h2 := ok.cells
  have h4 := sumL_rng p D.2.1
  refine ⟨?_, h4.1, by omega⟩
  rw [sumW_eq p 0 (fun x hx => by have := D.2.1 x hx; omega) (by omega) (by omega), Int.zero_add]
end Go.Proofs.YthldpejmofhaoaaGreatDoor

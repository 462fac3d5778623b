/- Strings: the law in the row's words. -/
import Derived.Test.YtdlogfepbkojkaaGreatDoorStrH
set_option linter.unusedVariables false
set_option linter.unusedSimpArgs false
namespace Go.Proofs.YtdlogfepbkojkaaGreatDoor
open Go.Abs

theorem strings_row (H : List (Int × Int × Int × Int)) (C : List (Int × Int × Int × Int × Int)) (Q : List (Int × Int × Int)) (T : List (Int × Int)) (a b c d p u v m w g e : Int) (t : ByteArray)
    (hH : ∀ x ∈ H, In64 x.1 ∧ In64 x.2.1 ∧ In64 x.2.2.1 ∧ In64 x.2.2.2) (hC : ∀ x ∈ C, In64 x.1 ∧ In64 x.2.1 ∧ In64 x.2.2.1 ∧ In64 x.2.2.2.1 ∧ In64 x.2.2.2.2) (hQ : ∀ x ∈ Q, In64 x.1 ∧ In64 x.2.1 ∧ In64 x.2.2) (hT : ∀ x ∈ T, In64 x.1 ∧ In64 x.2)
    (ha : In64 a) (hb : In64 b) (hc : In64 c) (hd : In64 d) (h0 : In64 p) (h1 : In64 u) (h2 : In64 v) (h3 : In64 m) (h4 : In64 w) (h5 : In64 g) (h6 : In64 e) : r3 H C Q T a b c d p u v m w g e t = some true := by
  refine strings_law H C Q T a b c d p u v m w g e t (fun x hx => ⟨by simp [i4], fun n hn => ?_⟩) (fun x hx => ⟨by simp [i5], fun n hn => ?_⟩) (fun x hx => ⟨by simp [i3], fun n hn => ?_⟩) (fun x hx => ⟨by simp [i2], fun n hn => ?_⟩) ⟨by simp, fun n hn => ?_⟩ ⟨by simp, fun n hn => ?_⟩
  · obtain ⟨y1, y2, y3, y4⟩ := hH x hx
    simp only [i4, List.mem_cons, List.not_mem_nil, or_false] at hn
    rcases hn with rfl | rfl | rfl | rfl <;> assumption
  · obtain ⟨y1, y2, y3, y4, y5⟩ := hC x hx
    simp only [i5, List.mem_cons, List.not_mem_nil, or_false] at hn
    rcases hn with rfl | rfl | rfl | rfl | rfl <;> assumption
  · obtain ⟨y1, y2, y3⟩ := hQ x hx
    simp only [i3, List.mem_cons, List.not_mem_nil, or_false] at hn
    rcases hn with rfl | rfl | rfl <;> assumption
  · obtain ⟨y1, y2⟩ := hT x hx
    simp only [i2, List.mem_cons, List.not_mem_nil, or_false] at hn
    rcases hn with rfl | rfl <;> assumption
  · simp only [List.mem_cons, List.not_mem_nil, or_false] at hn
    rcases hn with rfl | rfl | rfl | rfl <;> assumption
  · simp only [List.mem_cons, List.not_mem_nil, or_false] at hn
    rcases hn with rfl | rfl | rfl | rfl | rfl | rfl | rfl <;> assumption
end Go.Proofs.YtdlogfepbkojkaaGreatDoor

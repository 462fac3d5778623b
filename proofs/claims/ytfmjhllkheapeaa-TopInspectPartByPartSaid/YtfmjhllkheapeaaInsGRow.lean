/- TopInspectPartByPart: for all arguments the law returns true, and its arguments read afterwards as they did. No condition. -/
import Derived.Test.YtfmjhllkheapeaaInsG
import Derived.Test.YtfmjhllkheapeaaAbsRow
import Derived.Test.YtfmjhllkheapeaaRows
import Derived.ProofKit
set_option linter.unusedVariables false
set_option linter.unusedSimpArgs false
namespace Go.Proofs.Ytfmjhllkheapeaa
open Go.Abs Go.ChangeShapes Go.WideShapes Go.ChangeAt Go.RowKit

theorem own3 : ownKnob Try.prog.godebug = none := by kernel_rfl
theorem laid3 : laidOutB Try.prog = true := by kernel_rfl
def sh3 : List ASh := [.agg [.int, .int, .int], .c (.int), .c (.int)]
theorem args3 : ArgShs Try.prog Try.f3.params.toList sh3 := by
  rw [Try.params3]
  exact ⟨⟨by kernel_rfl, by rw [Try.underlying23]; trivial⟩, ⟨by kernel_rfl, by rw [Try.underlying3]; trivial⟩, ⟨by kernel_rfl, by rw [Try.underlying3]; trivial⟩, trivial⟩
theorem pre3 (xs : List Arg) (h : WfArgs sh3 xs) : T3.sp.pre xs ∧ T3.sp.res xs = [.c (.d (.bool true))] := by
  match xs, h with
  | [.agg [x0_0, x0_1, x0_2], .c x1_0, .c x2_0], ⟨⟨_, h0⟩, h1, h2, _⟩ =>
    have c0_0 := h0 0 _ rfl
    have c0_1 := h0 1 _ rfl
    have c0_2 := h0 2 _ rfl
    simp only [List.getD_cons_zero, List.getD_cons_succ] at c0_0 c0_1 c0_2
    cases c0_0
    cases c0_1
    cases c0_2
    cases h1
    cases h2
    refine ⟨⟨⟨⟨.refl _, .refl _, .refl _, trivial⟩, .refl _, .refl _, trivial⟩, ?_⟩, ?_⟩
    · show (r3 _ _ _ _ _).isSome = true
      rw [partByPart]; rfl
    · show [RV.c (.d (.bool ((r3 _ _ _ _ _).getD default)))] = _
      rw [partByPart]; rfl
set_option maxRecDepth 100000 in
theorem lifted3 (os : Os) (started : os.Started) (H : Type) (enc : TypeId × Value → H) :
    ReturnsInHanded {} Try.checked os 3 .any (Rows.topInspectPartByPartSpec.pre6 enc Try.prog Try.f3 Rows.topInspectPartByPartRow.domain false) (Rows.topInspectPartByPartSpec.post enc Try.prog Try.f3 false true false false) := by
  refine returnsInHanded_of_change (C := Try.checked) own3 started (by kernel_rfl) Try.func3
    (ChangeSpec.witness6 (enc := enc) (C := Try.checked) false ⟨#[], #[.agg #[.int .i64 0, .int .i64 0, .int .i64 0], .int .i64 0, .int .i64 0], []⟩ 8 (by kernel_rfl) (by kernel_rfl) (by kernel_rfl) (by kernel_rfl)) ?_
  intro W base args ds gs before hval hW _ _
  exact law_post (P := Try.prog) (fn := Try.f3) args3 v3 pre3 rfl (fun ds h => by
    rw [Try.params3] at h
    match ds, h with
    | [_, _, _], _ => exact ⟨rfl, rfl, rfl⟩) (by kernel_rfl) Try.underlying4 laid3 (by rw [Try.params3]; decide +kernel) (fun _ _ h9 => absurd h9 List.not_mem_nil) hval hW
theorem topInspectPartByPart_holds : Rows.TopInspectPartByPartSaid :=
  OpenClaim.holds_of_wide 3 Try.f3 rfl rfl rfl rfl rfl rfl rfl ⟨rfl, rfl, rfl, rfl, rfl⟩ rfl rfl rfl rfl rfl (by kernel_rfl) Try.func3 (by kernel_rfl)
    (of_decide_eq_true (by kernel_rfl)) (by unfold Func.isWrapper; first | (rw [if_pos (by decide +kernel)]; kernel_rfl) | (rw [if_neg (by decide +kernel)]; exact ⟨rfl, rfl⟩))
    (fun os started H enc _ => lifted3 os started H enc)
#print axioms topInspectPartByPart_holds
end Go.Proofs.Ytfmjhllkheapeaa

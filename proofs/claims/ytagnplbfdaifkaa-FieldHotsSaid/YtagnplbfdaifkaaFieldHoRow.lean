/- FieldHots: for all arguments the law returns true, and its arguments read afterwards as they did. No condition. -/
import Derived.Test.YtagnplbfdaifkaaFieldHo
import Derived.Test.YtagnplbfdaifkaaAbsRow
import Derived.Test.YtagnplbfdaifkaaRows
import Derived.ProofKit
set_option linter.unusedVariables false
set_option linter.unusedSimpArgs false
namespace Go.Proofs.Ytagnplbfdaifkaa
open Go.Abs Go.ChangeShapes Go.WideShapes Go.ChangeAt Go.RowKit
theorem wf_I {x : D} (h : WfC (.sl [.int]) x) : Abs.Can 1 d_I (decF g_I x) x := by
  generalize hs : Sh.sl [.int] = sh at h
  cases h with
  | int n => cases hs
  | bool b => cases hs
  | sl es n get h1 h2 h3 =>
    obtain rfl : [Sh.int] = es := by injection hs
    refine ⟨rfl, rfl, (decF_length _).symm, fun i hi => likeDs_of ?_⟩
    rw [decF_length] at hi
    rw [decF_getD _ _ hi]
    have hi : i < n := hi
    show eqvDs (get i) (d_I (g_I (get i)))
    have hl := h1 i hi
    have c0 := h2 i 0 _ hi rfl
    match hg : get i, hl with
    | [a], _ =>
      rw [hg] at c0
      simp only [List.getD_cons_zero, List.getD_cons_succ] at c0
      cases c0
      exact ⟨.refl _, trivial⟩
theorem own8 : ownKnob Try.prog.godebug = none := by kernel_rfl
theorem laid8 : laidOutB Try.prog = true := by kernel_rfl
def sh8 : List ASh := [.c (.sl [.int]), .c (.int)]
theorem args8 : ArgShs Try.prog Try.f8.params.toList sh8 := by
  rw [Try.params8]
  exact ⟨⟨by kernel_rfl, by rw [Try.underlying50]; trivial⟩, ⟨by kernel_rfl, by rw [Try.underlying3]; trivial⟩, trivial⟩
theorem pre8 (xs : List Arg) (h : WfArgs sh8 xs) : T8.sp.pre xs ∧ T8.sp.res xs = [.c (.d (.bool true))] := by
  match xs, h with
  | [.c x0_0, .c x1_0], ⟨h0, h1, _⟩ =>
    have e0_0 := eqv_can (wf_I h0)
    cases h1
    refine ⟨⟨⟨of_eq_true e0_0, .refl _, trivial⟩, ?_⟩, ?_⟩
    · show (r8 _ _).isSome = true
      rw [hots]; rfl
    · show [RV.c (.d (.bool ((r8 _ _).getD default)))] = _
      rw [hots]; rfl
set_option maxRecDepth 100000 in
theorem lifted8 (os : Os) (started : os.Started) (H : Type) (enc : TypeId × Value → H) :
    ReturnsInHanded {} Try.checked os 8 .any (Rows.fieldHotsSpec.pre6 enc Try.prog Try.f8 Rows.fieldHotsRow.domain false) (Rows.fieldHotsSpec.post enc Try.prog Try.f8 false true false false) := by
  refine returnsInHanded_of_change (C := Try.checked) own8 started (by kernel_rfl) Try.func8
    (ChangeSpec.witness6 (enc := enc) (C := Try.checked) false ⟨#[], #[.slice none 0 0, .int .i64 0], []⟩ 8 (by kernel_rfl) (by kernel_rfl) (by kernel_rfl) (by kernel_rfl)) ?_
  intro W base args ds gs before hval hW _ _
  exact law_post (P := Try.prog) (fn := Try.f8) args8 v8 pre8 rfl (fun ds h => by
    rw [Try.params8] at h
    match ds, h with
    | [_, _], _ => exact ⟨rfl, rfl, rfl⟩) (by kernel_rfl) Try.underlying4 laid8 (by rw [Try.params8]; decide +kernel) hval hW
theorem fieldHots_holds : Rows.FieldHotsSaid :=
  OpenClaim.holds_of_wide 8 Try.f8 rfl rfl rfl rfl rfl rfl rfl ⟨rfl, rfl, rfl, rfl, rfl⟩ rfl rfl rfl rfl rfl (by kernel_rfl) Try.func8 (by kernel_rfl)
    (of_decide_eq_true (by kernel_rfl)) (by unfold Func.isWrapper; first | (rw [if_pos (by decide +kernel)]; kernel_rfl) | (rw [if_neg (by decide +kernel)]; exact ⟨rfl, rfl⟩))
    (fun os started H enc _ => lifted8 os started H enc)
#print axioms fieldHots_holds
end Go.Proofs.Ytagnplbfdaifkaa

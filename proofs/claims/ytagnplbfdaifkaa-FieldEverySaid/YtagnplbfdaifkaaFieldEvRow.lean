/- FieldEvery: for all arguments the law returns true, and its arguments read afterwards as they did. No condition. -/
import Derived.Test.YtagnplbfdaifkaaFieldEv
import Derived.Test.YtagnplbfdaifkaaAbsRow
import Derived.Test.YtagnplbfdaifkaaRows
import Derived.ProofKit
set_option linter.unusedVariables false
set_option linter.unusedSimpArgs false
namespace Go.Proofs.Ytagnplbfdaifkaa
open Go.Abs Go.ChangeShapes Go.WideShapes Go.ChangeAt Go.RowKit
theorem wf_III {x : D} (h : WfC (.sl [.int, .int, .int]) x) : Abs.Can 3 d_III (decF g_III x) x := by
  generalize hs : Sh.sl [.int, .int, .int] = sh at h
  cases h with
  | int n => cases hs
  | bool b => cases hs
  | sl es n get h1 h2 h3 =>
    obtain rfl : [Sh.int, Sh.int, Sh.int] = es := by injection hs
    refine ⟨rfl, rfl, (decF_length _).symm, fun i hi => likeDs_of ?_⟩
    rw [decF_length] at hi
    rw [decF_getD _ _ hi]
    have hi : i < n := hi
    show eqvDs (get i) (d_III (g_III (get i)))
    have hl := h1 i hi
    have c0 := h2 i 0 _ hi rfl
    have c1 := h2 i 1 _ hi rfl
    have c2 := h2 i 2 _ hi rfl
    match hg : get i, hl with
    | [a, b, c], _ =>
      rw [hg] at c0 c1 c2
      simp only [List.getD_cons_zero, List.getD_cons_succ] at c0 c1 c2
      cases c0
      cases c1
      cases c2
      exact ⟨.refl _, .refl _, .refl _, trivial⟩
theorem wf_II {x : D} (h : WfC (.sl [.int, .int]) x) : Abs.Can 2 d_II (decF g_II x) x := by
  generalize hs : Sh.sl [.int, .int] = sh at h
  cases h with
  | int n => cases hs
  | bool b => cases hs
  | sl es n get h1 h2 h3 =>
    obtain rfl : [Sh.int, Sh.int] = es := by injection hs
    refine ⟨rfl, rfl, (decF_length _).symm, fun i hi => likeDs_of ?_⟩
    rw [decF_length] at hi
    rw [decF_getD _ _ hi]
    have hi : i < n := hi
    show eqvDs (get i) (d_II (g_II (get i)))
    have hl := h1 i hi
    have c0 := h2 i 0 _ hi rfl
    have c1 := h2 i 1 _ hi rfl
    match hg : get i, hl with
    | [a, b], _ =>
      rw [hg] at c0 c1
      simp only [List.getD_cons_zero, List.getD_cons_succ] at c0 c1
      cases c0
      cases c1
      exact ⟨.refl _, .refl _, trivial⟩
theorem wf_B {x : D} (h : WfC (.sl [.bool]) x) : Abs.Can 1 d_B (decF g_B x) x := by
  generalize hs : Sh.sl [.bool] = sh at h
  cases h with
  | int n => cases hs
  | bool b => cases hs
  | sl es n get h1 h2 h3 =>
    obtain rfl : [Sh.bool] = es := by injection hs
    refine ⟨rfl, rfl, (decF_length _).symm, fun i hi => likeDs_of ?_⟩
    rw [decF_length] at hi
    rw [decF_getD _ _ hi]
    have hi : i < n := hi
    show eqvDs (get i) (d_B (g_B (get i)))
    have hl := h1 i hi
    have c0 := h2 i 0 _ hi rfl
    match hg : get i, hl with
    | [a], _ =>
      rw [hg] at c0
      simp only [List.getD_cons_zero, List.getD_cons_succ] at c0
      cases c0
      exact ⟨.refl _, trivial⟩
theorem own12 : ownKnob Try.prog.godebug = none := by kernel_rfl
theorem laid12 : laidOutB Try.prog = true := by kernel_rfl
def sh12 : List ASh := [.agg [.int, .sl [.int, .int, .int], .sl [.int, .int]], .agg [.int, .sl [.bool]], .agg [.int, .int, .int, .int, .int]]
theorem args12 : ArgShs Try.prog Try.f12.params.toList sh12 := by
  rw [Try.params12]
  exact ⟨⟨by kernel_rfl, by rw [Try.underlying97]; trivial⟩, ⟨by kernel_rfl, by rw [Try.underlying27]; trivial⟩, ⟨by kernel_rfl, by rw [Try.underlying106]; trivial⟩, trivial⟩
theorem pre12 (xs : List Arg) (h : WfArgs sh12 xs) : T12.sp.pre xs ∧ T12.sp.res xs = [.c (.d (.bool true))] := by
  match xs, h with
  | [.agg [x0_0, x0_1, x0_2], .agg [x1_0, x1_1], .agg [x2_0, x2_1, x2_2, x2_3, x2_4]], ⟨⟨_, h0⟩, ⟨_, h1⟩, ⟨_, h2⟩, _⟩ =>
    have c0_0 := h0 0 _ rfl
    have c0_1 := h0 1 _ rfl
    have c0_2 := h0 2 _ rfl
    simp only [List.getD_cons_zero, List.getD_cons_succ] at c0_0 c0_1 c0_2
    have e0_1 := eqv_can (wf_III c0_1)
    have e0_2 := eqv_can (wf_II c0_2)
    have c1_0 := h1 0 _ rfl
    have c1_1 := h1 1 _ rfl
    simp only [List.getD_cons_zero, List.getD_cons_succ] at c1_0 c1_1
    have e1_1 := eqv_can (wf_B c1_1)
    have c2_0 := h2 0 _ rfl
    have c2_1 := h2 1 _ rfl
    have c2_2 := h2 2 _ rfl
    have c2_3 := h2 3 _ rfl
    have c2_4 := h2 4 _ rfl
    simp only [List.getD_cons_zero, List.getD_cons_succ] at c2_0 c2_1 c2_2 c2_3 c2_4
    cases c0_0
    cases c1_0
    cases c2_0
    cases c2_1
    cases c2_2
    cases c2_3
    cases c2_4
    refine ⟨⟨⟨⟨.refl _, of_eq_true e0_1, of_eq_true e0_2, trivial⟩, ⟨.refl _, of_eq_true e1_1, trivial⟩, ⟨.refl _, .refl _, .refl _, .refl _, .refl _, trivial⟩, trivial⟩, ?_⟩, ?_⟩
    · show (r12 _ _ _ _ _ _ _ _ _ _).isSome = true
      rw [every]; rfl
    · show [RV.c (.d (.bool ((r12 _ _ _ _ _ _ _ _ _ _).getD default)))] = _
      rw [every]; rfl
set_option maxRecDepth 100000 in
theorem lifted12 (os : Os) (started : os.Started) (H : Type) (enc : TypeId × Value → H) :
    ReturnsInHanded {} Try.checked os 12 .any (Rows.fieldEverySpec.pre6 enc Try.prog Try.f12 Rows.fieldEveryRow.domain false) (Rows.fieldEverySpec.post enc Try.prog Try.f12 false true false false) := by
  refine returnsInHanded_of_change (C := Try.checked) own12 started (by kernel_rfl) Try.func12
    (ChangeSpec.witness6 (enc := enc) (C := Try.checked) false ⟨#[], #[.agg #[.int .i64 0, .slice none 0 0, .slice none 0 0], .agg #[.int .i64 0, .slice none 0 0], .agg #[.int .i64 0, .int .i64 0, .int .i64 0, .int .i64 0, .int .i64 0]], []⟩ 8 (by kernel_rfl) (by kernel_rfl) (by kernel_rfl) (by kernel_rfl)) ?_
  intro W base args ds gs before hval hW _ _
  exact law_post (P := Try.prog) (fn := Try.f12) args12 v12 pre12 rfl (fun ds h => by
    rw [Try.params12] at h
    match ds, h with
    | [_, _, _], _ => exact ⟨rfl, rfl, rfl⟩) (by kernel_rfl) Try.underlying4 laid12 (by rw [Try.params12]; decide +kernel) hval hW
theorem fieldEvery_holds : Rows.FieldEverySaid :=
  OpenClaim.holds_of_wide 12 Try.f12 rfl rfl rfl rfl rfl rfl rfl ⟨rfl, rfl, rfl, rfl, rfl⟩ rfl rfl rfl rfl rfl (by kernel_rfl) Try.func12 (by kernel_rfl)
    (of_decide_eq_true (by kernel_rfl)) (by unfold Func.isWrapper; first | (rw [if_pos (by decide +kernel)]; kernel_rfl) | (rw [if_neg (by decide +kernel)]; exact ⟨rfl, rfl⟩))
    (fun os started H enc _ => lifted12 os started H enc)
#print axioms fieldEvery_holds
end Go.Proofs.Ytagnplbfdaifkaa

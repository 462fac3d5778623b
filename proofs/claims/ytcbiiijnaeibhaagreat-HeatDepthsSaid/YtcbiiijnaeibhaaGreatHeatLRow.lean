/- HeatDepths: for all arguments the law returns true, and its arguments read afterwards as they did. No condition. -/
import Derived.Test.YtcbiiijnaeibhaaGreatHeatL
import Derived.Test.YtcbiiijnaeibhaaGreatAbsRow
import Derived.Test.YtcbiiijnaeibhaaGreatRows
import Derived.ProofKit
set_option linter.unusedVariables false
set_option linter.unusedSimpArgs false
namespace Go.Proofs.YtcbiiijnaeibhaaGreat
open Go.Abs Go.ChangeShapes Go.WideShapes Go.ChangeAt Go.RowKit
theorem wf_II {x : D} (h : WfC (.sl [.int, .int]) x) : Abs.Can 2 d_II (decF g_II x) x := by
  generalize hs : Sh.sl [.int, .int] = sh at h
  cases h with
  | int n => cases hs
  | bool b => cases hs
  | sl es n get h1 h2 h3 =>
    obtain rfl : [Sh.int, Sh.int] = es := by injection hs
    refine ⟨rfl, rfl, (decF_length _).symm, fun i hi => likeDs_of ?_⟩
    rw [decF_length] at hi
    rw [decF_getD _ _ hi]
    have hi : i < n := hi
    show eqvDs (get i) (d_II (g_II (get i)))
    have hl := h1 i hi
    have c0 := h2 i 0 _ hi rfl
    have c1 := h2 i 1 _ hi rfl
    match hg : get i, hl with
    | [a, b], _ =>
      rw [hg] at c0 c1
      simp only [List.getD_cons_zero, List.getD_cons_succ] at c0 c1
      cases c0
      cases c1
      exact ⟨.refl _, .refl _, trivial⟩
theorem wf_LIIE {x : D} (h : WfC (.sl [.sl [.int, .int]]) x) : Abs.Can 1 d_LIIE (decF g_LIIE x) x := by
  generalize hs : Sh.sl [.sl [.int, .int]] = sh at h
  cases h with
  | int n => cases hs
  | bool b => cases hs
  | sl es n get h1 h2 h3 =>
    obtain rfl : [Sh.sl [.int, .int]] = es := by injection hs
    refine ⟨rfl, rfl, (decF_length _).symm, fun i hi => likeDs_of ?_⟩
    rw [decF_length] at hi
    rw [decF_getD _ _ hi]
    have hi : i < n := hi
    show eqvDs (get i) (d_LIIE (g_LIIE (get i)))
    have hl := h1 i hi
    have c0 := h2 i 0 _ hi rfl
    match hg : get i, hl with
    | [a], _ =>
      rw [hg] at c0
      simp only [List.getD_cons_zero, List.getD_cons_succ] at c0
      exact ⟨of_eq_true (eqv_can (wf_II c0)), trivial⟩
theorem wf_I {x : D} (h : WfC (.sl [.int]) x) : Abs.Can 1 d_I (decF g_I x) x := by
  generalize hs : Sh.sl [.int] = sh at h
  cases h with
  | int n => cases hs
  | bool b => cases hs
  | sl es n get h1 h2 h3 =>
    obtain rfl : [Sh.int] = es := by injection hs
    refine ⟨rfl, rfl, (decF_length _).symm, fun i hi => likeDs_of ?_⟩
    rw [decF_length] at hi
    rw [decF_getD _ _ hi]
    have hi : i < n := hi
    show eqvDs (get i) (d_I (g_I (get i)))
    have hl := h1 i hi
    have c0 := h2 i 0 _ hi rfl
    match hg : get i, hl with
    | [a], _ =>
      rw [hg] at c0
      simp only [List.getD_cons_zero, List.getD_cons_succ] at c0
      cases c0
      exact ⟨.refl _, trivial⟩
theorem wf_LIIEII {x : D} (h : WfC (.sl [.sl [.int, .int], .int, .int]) x) : Abs.Can 3 d_LIIEII (decF g_LIIEII x) x := by
  generalize hs : Sh.sl [.sl [.int, .int], .int, .int] = sh at h
  cases h with
  | int n => cases hs
  | bool b => cases hs
  | sl es n get h1 h2 h3 =>
    obtain rfl : [Sh.sl [.int, .int], Sh.int, Sh.int] = es := by injection hs
    refine ⟨rfl, rfl, (decF_length _).symm, fun i hi => likeDs_of ?_⟩
    rw [decF_length] at hi
    rw [decF_getD _ _ hi]
    have hi : i < n := hi
    show eqvDs (get i) (d_LIIEII (g_LIIEII (get i)))
    have hl := h1 i hi
    have c0 := h2 i 0 _ hi rfl
    have c1 := h2 i 1 _ hi rfl
    have c2 := h2 i 2 _ hi rfl
    match hg : get i, hl with
    | [a, b, c], _ =>
      rw [hg] at c0 c1 c2
      simp only [List.getD_cons_zero, List.getD_cons_succ] at c0 c1 c2
      cases c1
      cases c2
      exact ⟨of_eq_true (eqv_can (wf_II c0)), .refl _, .refl _, trivial⟩
theorem own3 : ownKnob Tryz.prog.godebug = none := by kernel_rfl
theorem laid3 : laidOutB Tryz.prog = true := by kernel_rfl
def sh3 : List ASh := [.agg [.int, .int, .sl [.int, .int], .sl [.sl [.int, .int]]], .agg [.sl [.int], .sl [.int]], .agg [.sl [.sl [.int, .int], .int, .int], .int]]
theorem args3 : ArgShs Tryz.prog Tryz.f3.params.toList sh3 := by
  rw [Tryz.params3]
  exact ⟨⟨by kernel_rfl, by rw [Tryz.underlying25]; trivial⟩, ⟨by kernel_rfl, by rw [Tryz.underlying28]; trivial⟩, ⟨by kernel_rfl, by rw [Tryz.underlying31]; trivial⟩, trivial⟩
theorem pre3 (xs : List Arg) (h : WfArgs sh3 xs) : T3.sp.pre xs ∧ T3.sp.res xs = [.c (.d (.bool true))] := by
  match xs, h with
  | [.agg [x0_0, x0_1, x0_2, x0_3], .agg [x1_0, x1_1], .agg [x2_0, x2_1]], ⟨⟨_, h0⟩, ⟨_, h1⟩, ⟨_, h2⟩, _⟩ =>
    have c0_0 := h0 0 _ rfl
    have c0_1 := h0 1 _ rfl
    have c0_2 := h0 2 _ rfl
    have c0_3 := h0 3 _ rfl
    simp only [List.getD_cons_zero, List.getD_cons_succ] at c0_0 c0_1 c0_2 c0_3
    have e0_2 := eqv_can (wf_II c0_2)
    have e0_3 := eqv_can (wf_LIIE c0_3)
    have c1_0 := h1 0 _ rfl
    have c1_1 := h1 1 _ rfl
    simp only [List.getD_cons_zero, List.getD_cons_succ] at c1_0 c1_1
    have e1_0 := eqv_can (wf_I c1_0)
    have e1_1 := eqv_can (wf_I c1_1)
    have c2_0 := h2 0 _ rfl
    have c2_1 := h2 1 _ rfl
    simp only [List.getD_cons_zero, List.getD_cons_succ] at c2_0 c2_1
    have e2_0 := eqv_can (wf_LIIEII c2_0)
    cases c0_0
    cases c0_1
    cases c2_1
    have l2_0 : (decF g_LIIEII x2_0).length ≤ 9223372036854775807 := by rw [decF_length]; exact wf_len c2_0
    refine ⟨⟨⟨⟨.refl _, .refl _, of_eq_true e0_2, of_eq_true e0_3, trivial⟩, ⟨of_eq_true e1_0, of_eq_true e1_1, trivial⟩, ⟨of_eq_true e2_0, .refl _, trivial⟩, trivial⟩, ?_⟩, ?_⟩
    · exact congrArg Option.isSome (depths _ _ _ _ _ _ _ _ l2_0)
    · exact congrArg (fun o => [RV.c (.d (.bool (Option.getD o default)))]) (depths _ _ _ _ _ _ _ _ l2_0)
set_option maxRecDepth 100000 in
theorem lifted3 (os : Os) (started : os.Started) (H : Type) (enc : TypeId × Value → H) :
    ReturnsInHanded {} Tryz.checked os 3 .any (Rows.heatDepthsSpec.pre6 enc Tryz.prog Tryz.f3 Rows.heatDepthsRow.domain false) (Rows.heatDepthsSpec.post enc Tryz.prog Tryz.f3 false true false false) := by
  refine returnsInHanded_of_change (C := Tryz.checked) own3 started (by kernel_rfl) Tryz.func3
    (ChangeSpec.witness6 (enc := enc) (C := Tryz.checked) false ⟨#[], #[.agg #[.int .i64 0, .int .i64 0, .slice none 0 0, .slice none 0 0], .agg #[.slice none 0 0, .slice none 0 0], .agg #[.slice none 0 0, .int .i64 0]], []⟩ 8 (by kernel_rfl) (by kernel_rfl) (by kernel_rfl) (by kernel_rfl)) ?_
  intro W base args ds gs before hval hW _ _
  exact law_post (P := Tryz.prog) (fn := Tryz.f3) args3 v3 pre3 rfl (fun ds h => by
    rw [Tryz.params3] at h
    match ds, h with
    | [_, _, _], _ => exact ⟨rfl, rfl, rfl⟩) (by kernel_rfl) Tryz.underlying4 laid3 (by rw [Tryz.params3]; decide +kernel) hval hW
theorem heatDepths_holds : Rows.HeatDepthsSaid :=
  OpenClaim.holds_of_wide 3 Tryz.f3 rfl rfl rfl rfl rfl rfl rfl ⟨rfl, rfl, rfl, rfl, rfl⟩ rfl rfl rfl rfl rfl (by kernel_rfl) Tryz.func3 (by kernel_rfl)
    (of_decide_eq_true (by kernel_rfl)) (by unfold Func.isWrapper; first | (rw [if_pos (by decide +kernel)]; kernel_rfl) | (rw [if_neg (by decide +kernel)]; exact ⟨rfl, rfl⟩))
    (fun os started H enc _ => lifted3 os started H enc)
#print axioms heatDepths_holds
end Go.Proofs.YtcbiiijnaeibhaaGreat

/- SteelCurves: for all arguments the law returns true, and its arguments read afterwards as they did. No condition. -/
import Derived.Test.YtfkmbdfajpdjjaaGreatDoorSteelCw
import Derived.Test.YtfkmbdfajpdjjaaGreatDoorAbsDoor
import Derived.Test.YtfkmbdfajpdjjaaGreatDoorRows
import Derived.Test.YtfkmbdfajpdjjaaGreatDoorCards
import Derived.Test.YtfkmbdfajpdjjaaGreatDoorTie
import Derived.ProofKit
import Derived.LaidMore
import Derived.Stop.Joined
import Derived.SevenTiedAt
set_option linter.unusedVariables false
set_option linter.unusedSimpArgs false
namespace Go.Proofs.YtfkmbdfajpdjjaaGreatDoor
open Go.Abs Go.ChangeShapes Go.WideShapes Go.ChangeAt Go.RowKit
theorem wf_IIII {x : D} (h : WfC (.sl [.int, .int, .int, .int]) x) : Abs.Can 4 d_IIII (decF g_IIII x) x := by
  generalize hs : Sh.sl [.int, .int, .int, .int] = sh at h
  cases h with
  | int n => cases hs
  | bool b => cases hs
  | sl es n get h1 h2 h3 =>
    obtain rfl : [Sh.int, Sh.int, Sh.int, Sh.int] = es := by injection hs
    refine ⟨rfl, rfl, (decF_length _).symm, fun i hi => likeDs_of ?_⟩
    rw [decF_length] at hi
    rw [decF_getD _ _ hi]
    have hi : i < n := hi
    show eqvDs (get i) (d_IIII (g_IIII (get i)))
    have hl := h1 i hi
    have c0 := h2 i 0 _ hi rfl
    have c1 := h2 i 1 _ hi rfl
    have c2 := h2 i 2 _ hi rfl
    have c3 := h2 i 3 _ hi rfl
    match hg : get i, hl with
    | [a, b, c, d], _ =>
      rw [hg] at c0 c1 c2 c3
      simp only [List.getD_cons_zero, List.getD_cons_succ] at c0 c1 c2 c3
      cases c0
      cases c1
      cases c2
      cases c3
      exact ⟨.refl _, .refl _, .refl _, .refl _, trivial⟩
theorem wf_IIIII {x : D} (h : WfC (.sl [.int, .int, .int, .int, .int]) x) : Abs.Can 5 d_IIIII (decF g_IIIII x) x := by
  generalize hs : Sh.sl [.int, .int, .int, .int, .int] = sh at h
  cases h with
  | int n => cases hs
  | bool b => cases hs
  | sl es n get h1 h2 h3 =>
    obtain rfl : [Sh.int, Sh.int, Sh.int, Sh.int, Sh.int] = es := by injection hs
    refine ⟨rfl, rfl, (decF_length _).symm, fun i hi => likeDs_of ?_⟩
    rw [decF_length] at hi
    rw [decF_getD _ _ hi]
    have hi : i < n := hi
    show eqvDs (get i) (d_IIIII (g_IIIII (get i)))
    have hl := h1 i hi
    have c0 := h2 i 0 _ hi rfl
    have c1 := h2 i 1 _ hi rfl
    have c2 := h2 i 2 _ hi rfl
    have c3 := h2 i 3 _ hi rfl
    have c4 := h2 i 4 _ hi rfl
    match hg : get i, hl with
    | [a, b, c, d, e], _ =>
      rw [hg] at c0 c1 c2 c3 c4
      simp only [List.getD_cons_zero, List.getD_cons_succ] at c0 c1 c2 c3 c4
      cases c0
      cases c1
      cases c2
      cases c3
      cases c4
      exact ⟨.refl _, .refl _, .refl _, .refl _, .refl _, trivial⟩
theorem wf_III {x : D} (h : WfC (.sl [.int, .int, .int]) x) : Abs.Can 3 d_III (decF g_III x) x := by
  generalize hs : Sh.sl [.int, .int, .int] = sh at h
  cases h with
  | int n => cases hs
  | bool b => cases hs
  | sl es n get h1 h2 h3 =>
    obtain rfl : [Sh.int, Sh.int, Sh.int] = es := by injection hs
    refine ⟨rfl, rfl, (decF_length _).symm, fun i hi => likeDs_of ?_⟩
    rw [decF_length] at hi
    rw [decF_getD _ _ hi]
    have hi : i < n := hi
    show eqvDs (get i) (d_III (g_III (get i)))
    have hl := h1 i hi
    have c0 := h2 i 0 _ hi rfl
    have c1 := h2 i 1 _ hi rfl
    have c2 := h2 i 2 _ hi rfl
    match hg : get i, hl with
    | [a, b, c], _ =>
      rw [hg] at c0 c1 c2
      simp only [List.getD_cons_zero, List.getD_cons_succ] at c0 c1 c2
      cases c0
      cases c1
      cases c2
      exact ⟨.refl _, .refl _, .refl _, trivial⟩
theorem wf_II {x : D} (h : WfC (.sl [.int, .int]) x) : Abs.Can 2 d_II (decF g_II x) x := by
  generalize hs : Sh.sl [.int, .int] = sh at h
  cases h with
  | int n => cases hs
  | bool b => cases hs
  | sl es n get h1 h2 h3 =>
    obtain rfl : [Sh.int, Sh.int] = es := by injection hs
    refine ⟨rfl, rfl, (decF_length _).symm, fun i hi => likeDs_of ?_⟩
    rw [decF_length] at hi
    rw [decF_getD _ _ hi]
    have hi : i < n := hi
    show eqvDs (get i) (d_II (g_II (get i)))
    have hl := h1 i hi
    have c0 := h2 i 0 _ hi rfl
    have c1 := h2 i 1 _ hi rfl
    match hg : get i, hl with
    | [a, b], _ =>
      rw [hg] at c0 c1
      simp only [List.getD_cons_zero, List.getD_cons_succ] at c0 c1
      cases c0
      cases c1
      exact ⟨.refl _, .refl _, trivial⟩
theorem wf_I {x : D} (h : WfC (.sl [.int]) x) : Abs.Can 1 d_I (decF g_I x) x := by
  generalize hs : Sh.sl [.int] = sh at h
  cases h with
  | int n => cases hs
  | bool b => cases hs
  | sl es n get h1 h2 h3 =>
    obtain rfl : [Sh.int] = es := by injection hs
    refine ⟨rfl, rfl, (decF_length _).symm, fun i hi => likeDs_of ?_⟩
    rw [decF_length] at hi
    rw [decF_getD _ _ hi]
    have hi : i < n := hi
    show eqvDs (get i) (d_I (g_I (get i)))
    have hl := h1 i hi
    have c0 := h2 i 0 _ hi rfl
    match hg : get i, hl with
    | [a], _ =>
      rw [hg] at c0
      simp only [List.getD_cons_zero, List.getD_cons_succ] at c0
      cases c0
      exact ⟨.refl _, trivial⟩
theorem wf_LIE {x : D} (h : WfC (.sl [.sl [.int]]) x) : Abs.Can 1 d_LIE (decF g_LIE x) x := by
  generalize hs : Sh.sl [.sl [.int]] = sh at h
  cases h with
  | int n => cases hs
  | bool b => cases hs
  | sl es n get h1 h2 h3 =>
    obtain rfl : [Sh.sl [.int]] = es := by injection hs
    refine ⟨rfl, rfl, (decF_length _).symm, fun i hi => likeDs_of ?_⟩
    rw [decF_length] at hi
    rw [decF_getD _ _ hi]
    have hi : i < n := hi
    show eqvDs (get i) (d_LIE (g_LIE (get i)))
    have hl := h1 i hi
    have c0 := h2 i 0 _ hi rfl
    match hg : get i, hl with
    | [a], _ =>
      rw [hg] at c0
      simp only [List.getD_cons_zero, List.getD_cons_succ] at c0
      exact ⟨of_eq_true (eqv_can (wf_I c0)), trivial⟩
theorem own3 : ownKnob Tryz.prog.godebug = none := by kernel_rfl
theorem laid3 : laidOutB Tryz.prog = true := by kernel_rfl
def sh3 : List ASh := [.agg [.sl [.int, .int, .int, .int], .sl [.int, .int, .int, .int, .int], .sl [.int, .int, .int], .sl [.int, .int], .int, .int, .int, .int], .agg [.int, .int, .int, .int, .int, .int, .int], .agg [.sl [.sl [.int]], .int, .int]]
theorem args3 : ArgShs Tryz.prog Tryz.f3.params.toList sh3 := by
  rw [Tryz.params3]
  exact ⟨⟨by kernel_rfl, by rw [Tryz.underlying28]; trivial⟩, ⟨by kernel_rfl, by rw [Tryz.underlying30]; trivial⟩, ⟨by kernel_rfl, by rw [Tryz.underlying35]; trivial⟩, trivial⟩
theorem pre3 (xs : List Arg) (h : WfArgs sh3 xs) : T3.sp.pre xs ∧ T3.sp.res xs = [.c (.d (.bool true))] := by
  match xs, h with
  | [.agg [x0_0, x0_1, x0_2, x0_3, x0_4, x0_5, x0_6, x0_7], .agg [x1_0, x1_1, x1_2, x1_3, x1_4, x1_5, x1_6], .agg [x2_0, x2_1, x2_2]], ⟨⟨_, h0⟩, ⟨_, h1⟩, ⟨_, h2⟩, _⟩ =>
    have c0_0 := h0 0 _ rfl
    have c0_1 := h0 1 _ rfl
    have c0_2 := h0 2 _ rfl
    have c0_3 := h0 3 _ rfl
    have c0_4 := h0 4 _ rfl
    have c0_5 := h0 5 _ rfl
    have c0_6 := h0 6 _ rfl
    have c0_7 := h0 7 _ rfl
    simp only [List.getD_cons_zero, List.getD_cons_succ] at c0_0 c0_1 c0_2 c0_3 c0_4 c0_5 c0_6 c0_7
    have e0_0 := eqv_can (wf_IIII c0_0)
    have e0_1 := eqv_can (wf_IIIII c0_1)
    have e0_2 := eqv_can (wf_III c0_2)
    have e0_3 := eqv_can (wf_II c0_3)
    have c1_0 := h1 0 _ rfl
    have c1_1 := h1 1 _ rfl
    have c1_2 := h1 2 _ rfl
    have c1_3 := h1 3 _ rfl
    have c1_4 := h1 4 _ rfl
    have c1_5 := h1 5 _ rfl
    have c1_6 := h1 6 _ rfl
    simp only [List.getD_cons_zero, List.getD_cons_succ] at c1_0 c1_1 c1_2 c1_3 c1_4 c1_5 c1_6
    have c2_0 := h2 0 _ rfl
    have c2_1 := h2 1 _ rfl
    have c2_2 := h2 2 _ rfl
    simp only [List.getD_cons_zero, List.getD_cons_succ] at c2_0 c2_1 c2_2
    have e2_0 := eqv_can (wf_LIE c2_0)
    cases c0_4
    cases c0_5
    cases c0_6
    cases c0_7
    cases c1_0
    cases c1_1
    cases c1_2
    cases c1_3
    cases c1_4
    cases c1_5
    cases c1_6
    cases c2_1
    cases c2_2
    refine ⟨⟨⟨⟨of_eq_true e0_0, of_eq_true e0_1, of_eq_true e0_2, of_eq_true e0_3, .refl _, .refl _, .refl _, .refl _, trivial⟩, ⟨.refl _, .refl _, .refl _, .refl _, .refl _, .refl _, .refl _, trivial⟩, ⟨of_eq_true e2_0, .refl _, .refl _, trivial⟩, trivial⟩, ?_⟩, ?_⟩
    · show (r3 _ _ _ _ _ _ _ _ _ _ _ _ _ _ _ _ _ _).isSome = true
      rw [curves]; rfl
    · show [RV.c (.d (.bool ((r3 _ _ _ _ _ _ _ _ _ _ _ _ _ _ _ _ _ _).getD default)))] = _
      rw [curves]; rfl
theorem door3 (os : Os) (args : Array Value) : laidMetH Tryz.prog [("martensite/steel.directions", Rows.laid_martensite_steel_directions)] ((World.doorLaid Tryz.prog 400 os).forCall (fun _ _ => 0) ⟨#[], args, []⟩).memory :=
  laidMetH_of_parts3 (fuel := 8) (laidMet_of_run' 8 (by kernel_rfl) (by kernel_rfl)) (by kernel_rfl) (by kernel_rfl)
set_option maxRecDepth 100000 in
theorem lifted3 (os : Os) (started : os.Started) (H : Type) (enc : TypeId × Value → H) :
    ReturnsInHanded {} Tryz.checked os 3 .any (fun w args => (Rows.steelCurvesSpec.pre enc Tryz.prog Tryz.f3 [] false w args ∧ laidMetH Tryz.prog [("martensite/steel.directions", Rows.laid_martensite_steel_directions)] w) ∧ sizedMet enc Tryz.prog Tryz.f3 (OpenSpec.ofChange Rows.steelCurvesSpec) false w args)
      (Rows.steelCurvesSpec.post enc Tryz.prog Tryz.f3 false true false false) := by
  refine returnsInHanded_of_change_and (C := Tryz.checked) (X := fun w _ => laidMetH Tryz.prog [("martensite/steel.directions", Rows.laid_martensite_steel_directions)] w) (fun _ _ _ hh h => h.of_heap hh) own3 started (by kernel_rfl) Tryz.func3
    (ChangeSpec.witness_shaped (enc := enc) (C := Tryz.checked) (os := os) (X := fun w _ => laidMetH Tryz.prog [("martensite/steel.directions", Rows.laid_martensite_steel_directions)] w) false (World.doorLaid Tryz.prog 400 os) #[.agg #[.slice none 0 0, .slice none 0 0, .slice none 0 0, .slice none 0 0, .int .i64 0, .int .i64 0, .int .i64 0, .int .i64 0], .agg #[.int .i64 0, .int .i64 0, .int .i64 0, .int .i64 0, .int .i64 0, .int .i64 0, .int .i64 0], .agg #[.slice none 0 0, .int .i64 0, .int .i64 0]] 8 rfl (World.shaped_of_RefB (by kernel_rfl) (by kernel_rfl)) (by kernel_rfl) (by kernel_rfl) (by kernel_rfl) (door3 os _)) ?_
  intro W base args ds gs before hval hW _ _ hL _
  have hglob : GlobOk W := glob_of_laid (l := [1, 0, (-1), 0]) (g := 0) (t := 26) (e := 3) rfl (by kernel_rfl) (by kernel_rfl) Tryz.underlying26 Tryz.underlying3 (by kernel_rfl) (by kernel_rfl) (by decide) hL
  exact law_post (P := Tryz.prog) (fn := Tryz.f3) args3 v3 pre3 rfl (fun ds h => by
    rw [Tryz.params3] at h
    match ds, h with
    | [_, _, _], _ => exact ⟨rfl, rfl, rfl⟩) (by kernel_rfl) Tryz.underlying4 laid3 (by rw [Tryz.params3]; decide +kernel) hglob hval hW
theorem steelCurves_holds : Rows.SteelCurvesSaid :=
  OpenClaim.holds_of_wide 3 Tryz.f3 rfl rfl rfl rfl rfl rfl rfl ⟨rfl, rfl, rfl, rfl, rfl⟩ rfl rfl rfl rfl rfl (by kernel_rfl) Tryz.func3 (by kernel_rfl)
    (of_decide_eq_true (by kernel_rfl)) (by unfold Func.isWrapper; first | (rw [if_pos (by decide +kernel)]; kernel_rfl) | (rw [if_neg (by decide +kernel)]; exact ⟨rfl, rfl⟩))
    (fun os started H enc _ => lifted3 os started H enc)
theorem steelCurves_card : Rows.SteelCurvesCardSaid :=
  Claim7.holds_tied_plain_at .later [] [.data] true (true, "50366f93eaaea6d8c721475c4b2e2551f5b15e10f879c9f952118b7b55e7093a") false
    steelCurves_holds (fun _ h => by cases h) (by kernel_rfl) (fun _ h => by cases h) steelCurves_row_tie rfl ⟨rfl, rfl⟩ (by kernel_rfl) rfl
    (fun f fn hf hfn => by
      obtain rfl : f = 3 := Option.some.inj ((show Tryz.prog.funcNamed "martensite/martensitelaw04.SteelCurves" = some 3 by kernel_rfl).symm.trans hf) |>.symm
      obtain rfl : fn = Tryz.f3 := (Option.some.inj (Tryz.func3.symm.trans hfn)).symm
      refine ⟨by kernel_rfl, fun j t ht => ?_⟩
      rw [Tryz.params3] at ht
      have hall : ([28, 30, 35].all fun t => !(Tryz.prog.wantsStandIn t)) = true := by kernel_rfl
      have hm : t ∈ [28, 30, 35] := by have h3 := Array.mem_of_getElem? ht; simpa using h3
      have h5 : Tryz.prog.wantsStandIn t = false := by simpa using List.all_eq_true.1 hall t hm
      exact h5)
    (by kernel_rfl)
#print axioms steelCurves_card
end Go.Proofs.YtfkmbdfajpdjjaaGreatDoor

/- SteelCases: for all arguments the law returns true, and its arguments read afterwards as they did. No condition. -/
import Derived.Test.YtfkmbdfajpdjjaaDoorSteelCa
import Derived.Test.YtfkmbdfajpdjjaaDoorAbsDoor
import Derived.Test.YtfkmbdfajpdjjaaDoorRows
import Derived.Test.YtfkmbdfajpdjjaaDoorCards
import Derived.Test.YtfkmbdfajpdjjaaDoorTie
import Derived.ProofKit
import Derived.LaidMore
import Derived.Stop.Joined
import Derived.SevenTiedAt
set_option linter.unusedVariables false
set_option linter.unusedSimpArgs false
namespace Go.Proofs.YtfkmbdfajpdjjaaDoor
open Go.Abs Go.ChangeShapes Go.WideShapes Go.ChangeAt Go.RowKit
theorem wf_II {x : D} (h : WfC (.sl [.int, .int]) x) : Abs.Can 2 d_II (decF g_II x) x := by
  generalize hs : Sh.sl [.int, .int] = sh at h
  cases h with
  | int n => cases hs
  | bool b => cases hs
  | sl es n get h1 h2 h3 =>
    obtain rfl : [Sh.int, Sh.int] = es := by injection hs
    refine ⟨rfl, rfl, (decF_length _).symm, fun i hi => likeDs_of ?_⟩
    rw [decF_length] at hi
    rw [decF_getD _ _ hi]
    have hi : i < n := hi
    show eqvDs (get i) (d_II (g_II (get i)))
    have hl := h1 i hi
    have c0 := h2 i 0 _ hi rfl
    have c1 := h2 i 1 _ hi rfl
    match hg : get i, hl with
    | [a, b], _ =>
      rw [hg] at c0 c1
      simp only [List.getD_cons_zero, List.getD_cons_succ] at c0 c1
      cases c0
      cases c1
      exact ⟨.refl _, .refl _, trivial⟩
theorem own5 : ownKnob Tryd.prog.godebug = none := by kernel_rfl
theorem laid5 : laidOutB Tryd.prog = true := by kernel_rfl
def sh5 : List ASh := [.c (.sl [.int, .int]), .c (.int), .c (.int)]
theorem args5 : ArgShs Tryd.prog Tryd.f5.params.toList sh5 := by
  rw [Tryd.params5]
  exact ⟨⟨by kernel_rfl, by rw [Tryd.underlying61]; trivial⟩, ⟨by kernel_rfl, by rw [Tryd.underlying3]; trivial⟩, ⟨by kernel_rfl, by rw [Tryd.underlying3]; trivial⟩, trivial⟩
theorem pre5 (xs : List Arg) (h : WfArgs sh5 xs) : T5.sp.pre xs ∧ T5.sp.res xs = [.c (.d (.bool true))] := by
  match xs, h with
  | [.c x0_0, .c x1_0, .c x2_0], ⟨h0, h1, h2, _⟩ =>
    have e0_0 := eqv_can (wf_II h0)
    cases h1
    cases h2
    refine ⟨⟨⟨of_eq_true e0_0, .refl _, .refl _, trivial⟩, ?_⟩, ?_⟩
    · show (r5 _ _ _).isSome = true
      rw [cases_law]; rfl
    · show [RV.c (.d (.bool ((r5 _ _ _).getD default)))] = _
      rw [cases_law]; rfl
theorem door5 (os : Os) (args : Array Value) : laidMetH Tryd.prog [("martensite/steel.directions", Rows.laid_martensite_steel_directions)] ((World.doorLaid Tryd.prog 400 os).forCall (fun _ _ => 0) ⟨#[], args, []⟩).memory :=
  laidMetH_of_parts3 (fuel := 8) (laidMet_of_run' 8 (by kernel_rfl) (by kernel_rfl)) (by kernel_rfl) (by kernel_rfl)
set_option maxRecDepth 100000 in
theorem lifted5 (os : Os) (started : os.Started) (H : Type) (enc : TypeId × Value → H) :
    ReturnsInHanded {} Tryd.checked os 5 .any (fun w args => (Rows.steelCasesSpec.pre enc Tryd.prog Tryd.f5 [] false w args ∧ laidMetH Tryd.prog [("martensite/steel.directions", Rows.laid_martensite_steel_directions)] w) ∧ sizedMet enc Tryd.prog Tryd.f5 (OpenSpec.ofChange Rows.steelCasesSpec) false w args)
      (Rows.steelCasesSpec.post enc Tryd.prog Tryd.f5 false true false false) := by
  refine returnsInHanded_of_change_and (C := Tryd.checked) (X := fun w _ => laidMetH Tryd.prog [("martensite/steel.directions", Rows.laid_martensite_steel_directions)] w) (fun _ _ _ hh h => h.of_heap hh) own5 started (by kernel_rfl) Tryd.func5
    (ChangeSpec.witness_shaped (enc := enc) (C := Tryd.checked) (os := os) (X := fun w _ => laidMetH Tryd.prog [("martensite/steel.directions", Rows.laid_martensite_steel_directions)] w) false (World.doorLaid Tryd.prog 400 os) #[.slice none 0 0, .int .i64 0, .int .i64 0] 8 rfl (World.shaped_of_RefB (by kernel_rfl) (by kernel_rfl)) (by kernel_rfl) (by kernel_rfl) (by kernel_rfl) (door5 os _)) ?_
  intro W base args ds gs before hval hW _ _ hL _
  have hglob : GlobOk W := glob_of_laid (l := [1, 0, (-1), 0]) (g := 0) (t := 26) (e := 3) rfl (by kernel_rfl) (by kernel_rfl) Tryd.underlying26 Tryd.underlying3 (by kernel_rfl) (by kernel_rfl) (by decide) hL
  exact law_post (P := Tryd.prog) (fn := Tryd.f5) args5 v5 pre5 rfl (fun ds h => by
    rw [Tryd.params5] at h
    match ds, h with
    | [_, _, _], _ => exact ⟨rfl, rfl, rfl⟩) (by kernel_rfl) Tryd.underlying4 laid5 (by rw [Tryd.params5]; decide +kernel) hglob hval hW
theorem steelCases_holds : Rows.SteelCasesSaid :=
  OpenClaim.holds_of_wide 5 Tryd.f5 rfl rfl rfl rfl rfl rfl rfl ⟨rfl, rfl, rfl, rfl, rfl⟩ rfl rfl rfl rfl rfl (by kernel_rfl) Tryd.func5 (by kernel_rfl)
    (of_decide_eq_true (by kernel_rfl)) (by unfold Func.isWrapper; first | (rw [if_pos (by decide +kernel)]; kernel_rfl) | (rw [if_neg (by decide +kernel)]; exact ⟨rfl, rfl⟩))
    (fun os started H enc _ => lifted5 os started H enc)
theorem steelCases_card : Rows.SteelCasesCardSaid :=
  Claim7.holds_tied_plain_at .later [] [.data] true (true, "3c56abb9864e58efd0a8ea7b69abed98dd3df4537c472da62f13677561847472") false
    steelCases_holds (fun _ h => by cases h) (by kernel_rfl) (fun _ h => by cases h) steelCases_row_tie rfl ⟨rfl, rfl⟩ (by kernel_rfl) rfl
    (fun f fn hf hfn => by
      obtain rfl : f = 5 := Option.some.inj ((show Tryd.prog.funcNamed "martensite/martensitelaw04.SteelCases" = some 5 by kernel_rfl).symm.trans hf) |>.symm
      obtain rfl : fn = Tryd.f5 := (Option.some.inj (Tryd.func5.symm.trans hfn)).symm
      refine ⟨by kernel_rfl, fun j t ht => ?_⟩
      rw [Tryd.params5] at ht
      have hall : ([61, 3, 3].all fun t => !(Tryd.prog.wantsStandIn t)) = true := by kernel_rfl
      have hm : t ∈ [61, 3, 3] := by have h3 := Array.mem_of_getElem? ht; simpa using h3
      have h5 : Tryd.prog.wantsStandIn t = false := by simpa using List.all_eq_true.1 hall t hm
      exact h5)
    (by kernel_rfl)
#print axioms steelCases_card
end Go.Proofs.YtfkmbdfajpdjjaaDoor

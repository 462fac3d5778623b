/- SteelProofs: for all arguments the law returns true, and its arguments read afterwards as they did. No condition. -/
import Derived.Test.YtfkmbdfajpdjjaaDoorSteelPs
import Derived.Test.YtfkmbdfajpdjjaaDoorAbsDoor
import Derived.Test.YtfkmbdfajpdjjaaDoorRows
import Derived.Test.YtfkmbdfajpdjjaaDoorCards
import Derived.Test.YtfkmbdfajpdjjaaDoorTie
import Derived.ProofKit
import Derived.LaidMore
import Derived.Stop.Joined
import Derived.SevenTiedAt
set_option linter.unusedVariables false
set_option linter.unusedSimpArgs false
namespace Go.Proofs.YtfkmbdfajpdjjaaDoor
open Go.Abs Go.ChangeShapes Go.WideShapes Go.ChangeAt Go.RowKit
theorem wf_SII {x : D} (h : WfC (.sl [.str, .int, .int]) x) : Abs.Can 3 d_SII (decF g_SII x) x := by
  generalize hs : Sh.sl [.str, .int, .int] = sh at h
  cases h with
  | int n => cases hs
  | bool b => cases hs
  | str s h => cases hs
  | sl es n get h1 h2 h3 =>
    obtain rfl : [Sh.str, Sh.int, Sh.int] = es := by injection hs
    refine ⟨rfl, rfl, (decF_length _).symm, fun i hi => likeDs_of ?_⟩
    rw [decF_length] at hi
    rw [decF_getD _ _ hi]
    have hi : i < n := hi
    show eqvDs (get i) (d_SII (g_SII (get i)))
    have hl := h1 i hi
    have c0 := h2 i 0 _ hi rfl
    have c1 := h2 i 1 _ hi rfl
    have c2 := h2 i 2 _ hi rfl
    match hg : get i, hl with
    | [a, b, c], _ =>
      rw [hg] at c0 c1 c2
      simp only [List.getD_cons_zero, List.getD_cons_succ] at c0 c1 c2
      cases c0
      cases c1
      cases c2
      exact ⟨.refl _, .refl _, .refl _, trivial⟩
theorem ws0_SII {x : D} (h : WfC (.sl [.str, .int, .int]) x) : ∀ a ∈ decF g_SII x, a.1.size ≤ 9223372036854775807 := by
  generalize hs : Sh.sl [.str, .int, .int] = sh at h
  cases h with
  | int n => cases hs
  | bool b => cases hs
  | str s h => cases hs
  | sl es n get h1 h2 h3 =>
    obtain rfl : [Sh.str, Sh.int, Sh.int] = es := by injection hs
    intro a ha
    simp only [decF, List.mem_map, List.mem_range] at ha
    obtain ⟨i, hi, rfl⟩ := ha
    have hi : i < n := hi
    show (g_SII (get i)).1.size ≤ _
    have hl := h1 i hi
    have c0 := h2 i 0 _ hi rfl
    have c1 := h2 i 1 _ hi rfl
    have c2 := h2 i 2 _ hi rfl
    match hg : get i, hl with
    | [a, b, c], _ =>
      rw [hg] at c0 c1 c2
      simp only [List.getD_cons_zero, List.getD_cons_succ] at c0 c1 c2
      cases c0
      cases c1
      cases c2
      assumption
theorem own10 : ownKnob Tryd.prog.godebug = none := by kernel_rfl
theorem laid10 : laidOutB Tryd.prog = true := by kernel_rfl
def sh10 : List ASh := [.c (.sl [.str, .int, .int])]
theorem args10 : ArgShs Tryd.prog Tryd.f10.params.toList sh10 := by
  rw [Tryd.params10]
  exact ⟨⟨by kernel_rfl, by rw [Tryd.underlying92]; trivial⟩, trivial⟩
theorem pre10 (xs : List Arg) (h : WfArgs sh10 xs) : T10.sp.pre xs ∧ T10.sp.res xs = [.c (.d (.bool true))] := by
  match xs, h with
  | [.c x0_0], ⟨h0, _⟩ =>
    have e0_0 := eqv_can (wf_SII h0)
    have s0_0_0 := ws0_SII h0
    refine ⟨⟨⟨of_eq_true e0_0, trivial⟩, ?_⟩, ?_⟩
    · exact congrArg Option.isSome (proofs _ s0_0_0)
    · exact congrArg (fun o => [RV.c (.d (.bool (Option.getD o default)))]) (proofs _ s0_0_0)
theorem door10 (os : Os) (args : Array Value) : laidMetH Tryd.prog [("martensite/steel.directions", Rows.laid_martensite_steel_directions)] ((World.doorLaid Tryd.prog 400 os).forCall (fun _ _ => 0) ⟨#[], args, []⟩).memory :=
  laidMetH_of_parts3 (fuel := 8) (laidMet_of_run' 8 (by kernel_rfl) (by kernel_rfl)) (by kernel_rfl) (by kernel_rfl)
set_option maxRecDepth 100000 in
theorem lifted10 (os : Os) (started : os.Started) (H : Type) (enc : TypeId × Value → H) :
    ReturnsInHanded {} Tryd.checked os 10 .any (fun w args => (Rows.steelProofsSpec.pre enc Tryd.prog Tryd.f10 [] false w args ∧ laidMetH Tryd.prog [("martensite/steel.directions", Rows.laid_martensite_steel_directions)] w) ∧ sizedMet enc Tryd.prog Tryd.f10 (OpenSpec.ofChange Rows.steelProofsSpec) false w args)
      (Rows.steelProofsSpec.post enc Tryd.prog Tryd.f10 false true false false) := by
  refine returnsInHanded_of_change_and (C := Tryd.checked) (X := fun w _ => laidMetH Tryd.prog [("martensite/steel.directions", Rows.laid_martensite_steel_directions)] w) (fun _ _ _ hh h => h.of_heap hh) own10 started (by kernel_rfl) Tryd.func10
    (ChangeSpec.witness_shaped (enc := enc) (C := Tryd.checked) (os := os) (X := fun w _ => laidMetH Tryd.prog [("martensite/steel.directions", Rows.laid_martensite_steel_directions)] w) false (World.doorLaid Tryd.prog 400 os) #[.slice none 0 0] 8 rfl (World.shaped_of_RefB (by kernel_rfl) (by kernel_rfl)) (by kernel_rfl) (by kernel_rfl) (by kernel_rfl) (door10 os _)) ?_
  intro W base args ds gs before hval hW _ _ hL _
  have hglob : GlobOk W := glob_of_laid (l := [1, 0, (-1), 0]) (g := 0) (t := 26) (e := 3) rfl (by kernel_rfl) (by kernel_rfl) Tryd.underlying26 Tryd.underlying3 (by kernel_rfl) (by kernel_rfl) (by decide) hL
  exact law_post (P := Tryd.prog) (fn := Tryd.f10) args10 v10 pre10 rfl (fun ds h => by
    rw [Tryd.params10] at h
    match ds, h with
    | [_], _ => exact ⟨rfl, rfl, rfl⟩) (by kernel_rfl) Tryd.underlying4 laid10 (by rw [Tryd.params10]; decide +kernel) hglob hval hW
theorem steelProofs_holds : Rows.SteelProofsSaid :=
  OpenClaim.holds_of_wide 10 Tryd.f10 rfl rfl rfl rfl rfl rfl rfl ⟨rfl, rfl, rfl, rfl, rfl⟩ rfl rfl rfl rfl rfl (by kernel_rfl) Tryd.func10 (by kernel_rfl)
    (of_decide_eq_true (by kernel_rfl)) (by unfold Func.isWrapper; first | (rw [if_pos (by decide +kernel)]; kernel_rfl) | (rw [if_neg (by decide +kernel)]; exact ⟨rfl, rfl⟩))
    (fun os started H enc _ => lifted10 os started H enc)
theorem steelProofs_card : Rows.SteelProofsCardSaid :=
  Claim7.holds_tied_plain_at .later [] [.data] true (true, "3c56abb9864e58efd0a8ea7b69abed98dd3df4537c472da62f13677561847472") false
    steelProofs_holds (fun _ h => by cases h) (by kernel_rfl) (fun _ h => by cases h) steelProofs_row_tie rfl ⟨rfl, rfl⟩ (by kernel_rfl) rfl
    (fun f fn hf hfn => by
      obtain rfl : f = 10 := Option.some.inj ((show Tryd.prog.funcNamed "martensite/martensitelaw04.SteelProofs" = some 10 by kernel_rfl).symm.trans hf) |>.symm
      obtain rfl : fn = Tryd.f10 := (Option.some.inj (Tryd.func10.symm.trans hfn)).symm
      refine ⟨by kernel_rfl, fun j t ht => ?_⟩
      rw [Tryd.params10] at ht
      have hall : ([92].all fun t => !(Tryd.prog.wantsStandIn t)) = true := by kernel_rfl
      have hm : t ∈ [92] := by have h3 := Array.mem_of_getElem? ht; simpa using h3
      have h5 : Tryd.prog.wantsStandIn t = false := by simpa using List.all_eq_true.1 hall t hm
      exact h5)
    (by kernel_rfl)
#print axioms steelProofs_card
end Go.Proofs.YtfkmbdfajpdjjaaDoor

/- SteelLots: for all arguments the law returns true, and its arguments read afterwards as they did. No condition. -/
import Derived.Test.YthcpkkpjegldoaaDoorLotA
import Derived.Test.YthcpkkpjegldoaaDoorAbsDoor
import Derived.Test.YthcpkkpjegldoaaDoorRows
import Derived.Test.YthcpkkpjegldoaaDoorCards
import Derived.Test.YthcpkkpjegldoaaDoorTie
import Derived.ProofKit
import Derived.LaidMore
import Derived.Stop.Joined
import Derived.SevenTiedAt
set_option linter.unusedVariables false
set_option linter.unusedSimpArgs false
namespace Go.Proofs.YthcpkkpjegldoaaDoor
open Go.Abs Go.ChangeShapes Go.WideShapes Go.ChangeAt Go.RowKit
theorem wf_SIII {x : D} (h : WfC (.sl [.str, .int, .int, .int]) x) : Abs.Can 4 d_SIII (decF g_SIII x) x := by
  generalize hs : Sh.sl [.str, .int, .int, .int] = sh at h
  cases h with
  | int n h => cases hs
  | bool b => cases hs
  | str s h => cases hs
  | sl es n get h1 h2 h3 =>
    obtain rfl : [Sh.str, Sh.int, Sh.int, Sh.int] = es := by injection hs
    refine ⟨rfl, rfl, (decF_length _).symm, fun i hi => likeDs_of ?_⟩
    rw [decF_length] at hi
    rw [decF_getD _ _ hi]
    have hi : i < n := hi
    show eqvDs (get i) (d_SIII (g_SIII (get i)))
    have hl := h1 i hi
    have c0 := h2 i 0 _ hi rfl
    have c1 := h2 i 1 _ hi rfl
    have c2 := h2 i 2 _ hi rfl
    have c3 := h2 i 3 _ hi rfl
    match hg : get i, hl with
    | [a, b, c, d], _ =>
      rw [hg] at c0 c1 c2 c3
      simp only [List.getD_cons_zero, List.getD_cons_succ] at c0 c1 c2 c3
      cases c0
      cases c1
      cases c2
      cases c3
      exact ⟨.refl _, .refl _, .refl _, .refl _, trivial⟩
theorem ws0_SIII {x : D} (h : WfC (.sl [.str, .int, .int, .int]) x) : ∀ a ∈ decF g_SIII x, a.1.size ≤ 9223372036854775807 := by
  generalize hs : Sh.sl [.str, .int, .int, .int] = sh at h
  cases h with
  | int n h => cases hs
  | bool b => cases hs
  | str s h => cases hs
  | sl es n get h1 h2 h3 =>
    obtain rfl : [Sh.str, Sh.int, Sh.int, Sh.int] = es := by injection hs
    intro a ha
    simp only [decF, List.mem_map, List.mem_range] at ha
    obtain ⟨i, hi, rfl⟩ := ha
    have hi : i < n := hi
    show (g_SIII (get i)).1.size ≤ _
    have hl := h1 i hi
    have c0 := h2 i 0 _ hi rfl
    have c1 := h2 i 1 _ hi rfl
    have c2 := h2 i 2 _ hi rfl
    have c3 := h2 i 3 _ hi rfl
    match hg : get i, hl with
    | [a, b, c, d], _ =>
      rw [hg] at c0 c1 c2 c3
      simp only [List.getD_cons_zero, List.getD_cons_succ] at c0 c1 c2 c3
      cases c0
      cases c1
      cases c2
      cases c3
      assumption
theorem own3 : ownKnob Tryd.prog.godebug = none := by kernel_rfl
theorem laid3 : laidOutB Tryd.prog = true := by kernel_rfl
def sh3 : List ASh := [.agg [.int, .sl [.str, .int, .int, .int]]]
theorem args3 : ArgShs Tryd.prog Tryd.f3.params.toList sh3 := by
  rw [Tryd.params3]
  exact ⟨⟨by kernel_rfl, by rw [Tryd.underlying24]; trivial⟩, trivial⟩
theorem pre3 (xs : List Arg) (h : WfArgs sh3 xs) : T3.sp.pre xs ∧ T3.sp.res xs = [.c (.d (.bool true))] := by
  match xs, h with
  | [.agg [x0_0, x0_1]], ⟨⟨_, h0⟩, _⟩ =>
    have c0_0 := h0 0 _ rfl
    have c0_1 := h0 1 _ rfl
    simp only [List.getD_cons_zero, List.getD_cons_succ] at c0_0 c0_1
    have e0_1 := eqv_can (wf_SIII c0_1)
    cases c0_0
    have s0_1_0 := ws0_SIII c0_1
    refine ⟨⟨⟨⟨.refl _, of_eq_true e0_1, trivial⟩, trivial⟩, ?_⟩, ?_⟩
    · exact congrArg Option.isSome (lots_law _ _ s0_1_0)
    · exact congrArg (fun o => [RV.c (.d (.bool (Option.getD o default)))]) (lots_law _ _ s0_1_0)
theorem door3 (os : Os) (args : Array Value) : laidMetH Tryd.prog [("martensite/steel.directions", Rows.laid_martensite_steel_directions)] ((World.doorLaid Tryd.prog 400 os).forCall (fun _ _ => 0) ⟨#[], args, []⟩).memory :=
  laidMetH_of_parts3 (fuel := 8) (laidMet_of_run' 8 (by kernel_rfl) (by kernel_rfl)) (by kernel_rfl) (by kernel_rfl)
set_option maxRecDepth 100000 in
theorem lifted3 (os : Os) (started : os.Started) (H : Type) (enc : TypeId × Value → H) :
    ReturnsInHanded {} Tryd.checked os 3 .any (fun w args => (Rows.steelLotsSpec.pre enc Tryd.prog Tryd.f3 [] false w args ∧ laidMetH Tryd.prog [("martensite/steel.directions", Rows.laid_martensite_steel_directions)] w) ∧ sizedMet enc Tryd.prog Tryd.f3 (OpenSpec.ofChange Rows.steelLotsSpec) false w args)
      (Rows.steelLotsSpec.post enc Tryd.prog Tryd.f3 false true false false) := by
  refine returnsInHanded_of_change_and (C := Tryd.checked) (X := fun w _ => laidMetH Tryd.prog [("martensite/steel.directions", Rows.laid_martensite_steel_directions)] w) (fun _ _ _ hh h => h.of_heap hh) own3 started (by kernel_rfl) Tryd.func3
    (ChangeSpec.witness_shaped (enc := enc) (C := Tryd.checked) (os := os) (X := fun w _ => laidMetH Tryd.prog [("martensite/steel.directions", Rows.laid_martensite_steel_directions)] w) false (World.doorLaid Tryd.prog 400 os) #[.agg #[.int .i64 0, .slice none 0 0]] 8 rfl (World.shaped_of_RefB (by kernel_rfl) (by kernel_rfl)) (by kernel_rfl) (by kernel_rfl) (by kernel_rfl) (door3 os _)) ?_
  intro W base args ds gs before hval hW _ _ hL _
  have hglob : GlobOk W := glob_of_laid (l := [1, 0, (-1), 0]) (g := 0) (t := 46) (e := 3) rfl rfl (by kernel_rfl) (by kernel_rfl) Tryd.underlying46 Tryd.underlying3 (by kernel_rfl) (by kernel_rfl) (by decide) hL
  exact law_post (P := Tryd.prog) (fn := Tryd.f3) args3 f3.valid pre3 rfl (fun ds h => by
    rw [Tryd.params3] at h
    match ds, h with
    | [_], _ => exact ⟨rfl, rfl, rfl⟩) (by kernel_rfl) Tryd.underlying4 laid3 (by rw [Tryd.params3]; decide +kernel) hglob hval hW
theorem steelLots_holds : Rows.SteelLotsSaid :=
  OpenClaim.holds_of_wide 3 Tryd.f3 rfl rfl rfl rfl rfl rfl rfl ⟨rfl, rfl, rfl, rfl, rfl⟩ rfl rfl rfl rfl rfl (by kernel_rfl) Tryd.func3 (by kernel_rfl)
    (of_decide_eq_true (by kernel_rfl)) (by unfold Func.isWrapper; first | (rw [if_pos (by decide +kernel)]; kernel_rfl) | (rw [if_neg (by decide +kernel)]; exact ⟨rfl, rfl⟩))
    (fun os started H enc _ => lifted3 os started H enc)
theorem steelLots_card : Rows.SteelLotsCardSaid :=
  Claim7.holds_tied_plain_at .later [] [.data] true (true, "8963b4150ae85617fe2b54e915b72173211fc6393f82ae85029e521c08a37f4d") false
    steelLots_holds (fun _ h => by cases h) (by kernel_rfl) (fun _ h => by cases h) steelLots_row_tie rfl ⟨rfl, rfl⟩ (by kernel_rfl) rfl
    (fun f fn hf hfn => by
      obtain rfl : f = 3 := Option.some.inj ((show Tryd.prog.funcNamed "martensite/martensitelaw04.SteelLots" = some 3 by kernel_rfl).symm.trans hf) |>.symm
      obtain rfl : fn = Tryd.f3 := (Option.some.inj (Tryd.func3.symm.trans hfn)).symm
      refine ⟨by kernel_rfl, fun j t ht => ?_⟩
      rw [Tryd.params3] at ht
      have hall : ([24].all fun t => !(Tryd.prog.wantsStandIn t)) = true := by kernel_rfl
      have hm : t ∈ [24] := by have h3 := Array.mem_of_getElem? ht; simpa using h3
      have h5 : Tryd.prog.wantsStandIn t = false := by simpa using List.all_eq_true.1 hall t hm
      exact h5)
    (by kernel_rfl)
#print axioms steelLots_card
end Go.Proofs.YthcpkkpjegldoaaDoor

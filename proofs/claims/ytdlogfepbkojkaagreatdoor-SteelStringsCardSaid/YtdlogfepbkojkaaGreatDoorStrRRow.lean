/- SteelStrings: for all arguments the law returns true, and its arguments read afterwards as they did. No condition. -/
import Derived.Test.YtdlogfepbkojkaaGreatDoorStrR
import Derived.Test.YtdlogfepbkojkaaGreatDoorAbsDoors
import Derived.Test.YtdlogfepbkojkaaGreatDoorRows
import Derived.Test.YtdlogfepbkojkaaGreatDoorCards
import Derived.Test.YtdlogfepbkojkaaGreatDoorTie
import Derived.ProofKit
import Derived.LaidMore
import Derived.Stop.Joined
import Derived.SevenTiedAt
set_option linter.unusedVariables false
set_option linter.unusedSimpArgs false
namespace Go.Proofs.YtdlogfepbkojkaaGreatDoor
open Go.Abs Go.ChangeShapes Go.WideShapes Go.ChangeAt Go.RowKit
theorem wf_IIII {x : D} (h : WfC (.sl [.int, .int, .int, .int]) x) : Abs.Can 4 d_IIII (decF g_IIII x) x := by
  generalize hs : Sh.sl [.int, .int, .int, .int] = sh at h
  cases h with
  | int n h => cases hs
  | bool b => cases hs
  | str s h => cases hs
  | sl es n get h1 h2 h3 =>
    obtain rfl : [Sh.int, Sh.int, Sh.int, Sh.int] = es := by injection hs
    refine ⟨rfl, rfl, (decF_length _).symm, fun i hi => likeDs_of ?_⟩
    rw [decF_length] at hi
    rw [decF_getD _ _ hi]
    have hi : i < n := hi
    show eqvDs (get i) (d_IIII (g_IIII (get i)))
    have hl := h1 i hi
    have c0 := h2 i 0 _ hi rfl
    have c1 := h2 i 1 _ hi rfl
    have c2 := h2 i 2 _ hi rfl
    have c3 := h2 i 3 _ hi rfl
    match hg : get i, hl with
    | [a, b, c, d], _ =>
      rw [hg] at c0 c1 c2 c3
      simp only [List.getD_cons_zero, List.getD_cons_succ] at c0 c1 c2 c3
      cases c0
      cases c1
      cases c2
      cases c3
      exact ⟨.refl _, .refl _, .refl _, .refl _, trivial⟩
theorem wn_IIII {x : D} (h : WfC (.sl [.int, .int, .int, .int]) x) : ∀ a ∈ decF g_IIII x, InI a.1 ∧ InI a.2.1 ∧ InI a.2.2.1 ∧ InI a.2.2.2 := by
  generalize hs : Sh.sl [.int, .int, .int, .int] = sh at h
  cases h with
  | int n h => cases hs
  | bool b => cases hs
  | str s h => cases hs
  | sl es n get h1 h2 h3 =>
    obtain rfl : [Sh.int, Sh.int, Sh.int, Sh.int] = es := by injection hs
    intro a ha
    simp only [decF, List.mem_map, List.mem_range] at ha
    obtain ⟨i, hi, rfl⟩ := ha
    have hi : i < n := hi
    show InI (g_IIII (get i)).1 ∧ InI (g_IIII (get i)).2.1 ∧ InI (g_IIII (get i)).2.2.1 ∧ InI (g_IIII (get i)).2.2.2
    have hl := h1 i hi
    have c0 := h2 i 0 _ hi rfl
    have c1 := h2 i 1 _ hi rfl
    have c2 := h2 i 2 _ hi rfl
    have c3 := h2 i 3 _ hi rfl
    match hg : get i, hl with
    | [a, b, c, d], _ =>
      rw [hg] at c0 c1 c2 c3
      simp only [List.getD_cons_zero, List.getD_cons_succ] at c0 c1 c2 c3
      cases c0
      cases c1
      cases c2
      cases c3
      first | assumption | exact ⟨by assumption, by assumption, by assumption, by assumption⟩
theorem wf_IIIII {x : D} (h : WfC (.sl [.int, .int, .int, .int, .int]) x) : Abs.Can 5 d_IIIII (decF g_IIIII x) x := by
  generalize hs : Sh.sl [.int, .int, .int, .int, .int] = sh at h
  cases h with
  | int n h => cases hs
  | bool b => cases hs
  | str s h => cases hs
  | sl es n get h1 h2 h3 =>
    obtain rfl : [Sh.int, Sh.int, Sh.int, Sh.int, Sh.int] = es := by injection hs
    refine ⟨rfl, rfl, (decF_length _).symm, fun i hi => likeDs_of ?_⟩
    rw [decF_length] at hi
    rw [decF_getD _ _ hi]
    have hi : i < n := hi
    show eqvDs (get i) (d_IIIII (g_IIIII (get i)))
    have hl := h1 i hi
    have c0 := h2 i 0 _ hi rfl
    have c1 := h2 i 1 _ hi rfl
    have c2 := h2 i 2 _ hi rfl
    have c3 := h2 i 3 _ hi rfl
    have c4 := h2 i 4 _ hi rfl
    match hg : get i, hl with
    | [a, b, c, d, e], _ =>
      rw [hg] at c0 c1 c2 c3 c4
      simp only [List.getD_cons_zero, List.getD_cons_succ] at c0 c1 c2 c3 c4
      cases c0
      cases c1
      cases c2
      cases c3
      cases c4
      exact ⟨.refl _, .refl _, .refl _, .refl _, .refl _, trivial⟩
theorem wn_IIIII {x : D} (h : WfC (.sl [.int, .int, .int, .int, .int]) x) : ∀ a ∈ decF g_IIIII x, InI a.1 ∧ InI a.2.1 ∧ InI a.2.2.1 ∧ InI a.2.2.2.1 ∧ InI a.2.2.2.2 := by
  generalize hs : Sh.sl [.int, .int, .int, .int, .int] = sh at h
  cases h with
  | int n h => cases hs
  | bool b => cases hs
  | str s h => cases hs
  | sl es n get h1 h2 h3 =>
    obtain rfl : [Sh.int, Sh.int, Sh.int, Sh.int, Sh.int] = es := by injection hs
    intro a ha
    simp only [decF, List.mem_map, List.mem_range] at ha
    obtain ⟨i, hi, rfl⟩ := ha
    have hi : i < n := hi
    show InI (g_IIIII (get i)).1 ∧ InI (g_IIIII (get i)).2.1 ∧ InI (g_IIIII (get i)).2.2.1 ∧ InI (g_IIIII (get i)).2.2.2.1 ∧ InI (g_IIIII (get i)).2.2.2.2
    have hl := h1 i hi
    have c0 := h2 i 0 _ hi rfl
    have c1 := h2 i 1 _ hi rfl
    have c2 := h2 i 2 _ hi rfl
    have c3 := h2 i 3 _ hi rfl
    have c4 := h2 i 4 _ hi rfl
    match hg : get i, hl with
    | [a, b, c, d, e], _ =>
      rw [hg] at c0 c1 c2 c3 c4
      simp only [List.getD_cons_zero, List.getD_cons_succ] at c0 c1 c2 c3 c4
      cases c0
      cases c1
      cases c2
      cases c3
      cases c4
      first | assumption | exact ⟨by assumption, by assumption, by assumption, by assumption, by assumption⟩
theorem wf_III {x : D} (h : WfC (.sl [.int, .int, .int]) x) : Abs.Can 3 d_III (decF g_III x) x := by
  generalize hs : Sh.sl [.int, .int, .int] = sh at h
  cases h with
  | int n h => cases hs
  | bool b => cases hs
  | str s h => cases hs
  | sl es n get h1 h2 h3 =>
    obtain rfl : [Sh.int, Sh.int, Sh.int] = es := by injection hs
    refine ⟨rfl, rfl, (decF_length _).symm, fun i hi => likeDs_of ?_⟩
    rw [decF_length] at hi
    rw [decF_getD _ _ hi]
    have hi : i < n := hi
    show eqvDs (get i) (d_III (g_III (get i)))
    have hl := h1 i hi
    have c0 := h2 i 0 _ hi rfl
    have c1 := h2 i 1 _ hi rfl
    have c2 := h2 i 2 _ hi rfl
    match hg : get i, hl with
    | [a, b, c], _ =>
      rw [hg] at c0 c1 c2
      simp only [List.getD_cons_zero, List.getD_cons_succ] at c0 c1 c2
      cases c0
      cases c1
      cases c2
      exact ⟨.refl _, .refl _, .refl _, trivial⟩
theorem wn_III {x : D} (h : WfC (.sl [.int, .int, .int]) x) : ∀ a ∈ decF g_III x, InI a.1 ∧ InI a.2.1 ∧ InI a.2.2 := by
  generalize hs : Sh.sl [.int, .int, .int] = sh at h
  cases h with
  | int n h => cases hs
  | bool b => cases hs
  | str s h => cases hs
  | sl es n get h1 h2 h3 =>
    obtain rfl : [Sh.int, Sh.int, Sh.int] = es := by injection hs
    intro a ha
    simp only [decF, List.mem_map, List.mem_range] at ha
    obtain ⟨i, hi, rfl⟩ := ha
    have hi : i < n := hi
    show InI (g_III (get i)).1 ∧ InI (g_III (get i)).2.1 ∧ InI (g_III (get i)).2.2
    have hl := h1 i hi
    have c0 := h2 i 0 _ hi rfl
    have c1 := h2 i 1 _ hi rfl
    have c2 := h2 i 2 _ hi rfl
    match hg : get i, hl with
    | [a, b, c], _ =>
      rw [hg] at c0 c1 c2
      simp only [List.getD_cons_zero, List.getD_cons_succ] at c0 c1 c2
      cases c0
      cases c1
      cases c2
      first | assumption | exact ⟨by assumption, by assumption, by assumption⟩
theorem wf_II {x : D} (h : WfC (.sl [.int, .int]) x) : Abs.Can 2 d_II (decF g_II x) x := by
  generalize hs : Sh.sl [.int, .int] = sh at h
  cases h with
  | int n h => cases hs
  | bool b => cases hs
  | str s h => cases hs
  | sl es n get h1 h2 h3 =>
    obtain rfl : [Sh.int, Sh.int] = es := by injection hs
    refine ⟨rfl, rfl, (decF_length _).symm, fun i hi => likeDs_of ?_⟩
    rw [decF_length] at hi
    rw [decF_getD _ _ hi]
    have hi : i < n := hi
    show eqvDs (get i) (d_II (g_II (get i)))
    have hl := h1 i hi
    have c0 := h2 i 0 _ hi rfl
    have c1 := h2 i 1 _ hi rfl
    match hg : get i, hl with
    | [a, b], _ =>
      rw [hg] at c0 c1
      simp only [List.getD_cons_zero, List.getD_cons_succ] at c0 c1
      cases c0
      cases c1
      exact ⟨.refl _, .refl _, trivial⟩
theorem wn_II {x : D} (h : WfC (.sl [.int, .int]) x) : ∀ a ∈ decF g_II x, InI a.1 ∧ InI a.2 := by
  generalize hs : Sh.sl [.int, .int] = sh at h
  cases h with
  | int n h => cases hs
  | bool b => cases hs
  | str s h => cases hs
  | sl es n get h1 h2 h3 =>
    obtain rfl : [Sh.int, Sh.int] = es := by injection hs
    intro a ha
    simp only [decF, List.mem_map, List.mem_range] at ha
    obtain ⟨i, hi, rfl⟩ := ha
    have hi : i < n := hi
    show InI (g_II (get i)).1 ∧ InI (g_II (get i)).2
    have hl := h1 i hi
    have c0 := h2 i 0 _ hi rfl
    have c1 := h2 i 1 _ hi rfl
    match hg : get i, hl with
    | [a, b], _ =>
      rw [hg] at c0 c1
      simp only [List.getD_cons_zero, List.getD_cons_succ] at c0 c1
      cases c0
      cases c1
      first | assumption | exact ⟨by assumption, by assumption⟩
theorem own3 : ownKnob Tryz.prog.godebug = none := by kernel_rfl
theorem laid3 : laidOutB Tryz.prog = true := by kernel_rfl
def sh3 : List ASh := [.agg [.sl [.int, .int, .int, .int], .sl [.int, .int, .int, .int, .int], .sl [.int, .int, .int], .sl [.int, .int], .int, .int, .int, .int], .agg [.int, .int, .int, .int, .int, .int, .int], .c (.str)]
theorem args3 : ArgShs Tryz.prog Tryz.f3.params.toList sh3 := by
  rw [Tryz.params3]
  exact ⟨⟨by kernel_rfl, by rw [Tryz.underlying28]; trivial⟩, ⟨by kernel_rfl, by rw [Tryz.underlying30]; trivial⟩, ⟨by kernel_rfl, by rw [Tryz.underlying9]; trivial⟩, trivial⟩
theorem pre3 (xs : List Arg) (h : WfArgs sh3 xs) : T3.sp.pre xs ∧ T3.sp.res xs = [.c (.d (.bool true))] := by
  match xs, h with
  | [.agg [x0_0, x0_1, x0_2, x0_3, x0_4, x0_5, x0_6, x0_7], .agg [x1_0, x1_1, x1_2, x1_3, x1_4, x1_5, x1_6], .c x2_0], ⟨⟨_, h0⟩, ⟨_, h1⟩, h2, _⟩ =>
    have c0_0 := h0 0 _ rfl
    have c0_1 := h0 1 _ rfl
    have c0_2 := h0 2 _ rfl
    have c0_3 := h0 3 _ rfl
    have c0_4 := h0 4 _ rfl
    have c0_5 := h0 5 _ rfl
    have c0_6 := h0 6 _ rfl
    have c0_7 := h0 7 _ rfl
    simp only [List.getD_cons_zero, List.getD_cons_succ] at c0_0 c0_1 c0_2 c0_3 c0_4 c0_5 c0_6 c0_7
    have e0_0 := eqv_can (wf_IIII c0_0)
    have e0_1 := eqv_can (wf_IIIII c0_1)
    have e0_2 := eqv_can (wf_III c0_2)
    have e0_3 := eqv_can (wf_II c0_3)
    have c1_0 := h1 0 _ rfl
    have c1_1 := h1 1 _ rfl
    have c1_2 := h1 2 _ rfl
    have c1_3 := h1 3 _ rfl
    have c1_4 := h1 4 _ rfl
    have c1_5 := h1 5 _ rfl
    have c1_6 := h1 6 _ rfl
    simp only [List.getD_cons_zero, List.getD_cons_succ] at c1_0 c1_1 c1_2 c1_3 c1_4 c1_5 c1_6
    have n0_0 := wn_IIII c0_0
    have n0_1 := wn_IIIII c0_1
    have n0_2 := wn_III c0_2
    have n0_3 := wn_II c0_3
    obtain ⟨y0_4, rfl, n0_4⟩ := wf_isInt c0_4
    obtain ⟨y0_5, rfl, n0_5⟩ := wf_isInt c0_5
    obtain ⟨y0_6, rfl, n0_6⟩ := wf_isInt c0_6
    obtain ⟨y0_7, rfl, n0_7⟩ := wf_isInt c0_7
    obtain ⟨y1_0, rfl, n1_0⟩ := wf_isInt c1_0
    obtain ⟨y1_1, rfl, n1_1⟩ := wf_isInt c1_1
    obtain ⟨y1_2, rfl, n1_2⟩ := wf_isInt c1_2
    obtain ⟨y1_3, rfl, n1_3⟩ := wf_isInt c1_3
    obtain ⟨y1_4, rfl, n1_4⟩ := wf_isInt c1_4
    obtain ⟨y1_5, rfl, n1_5⟩ := wf_isInt c1_5
    obtain ⟨y1_6, rfl, n1_6⟩ := wf_isInt c1_6
    cases h2
    refine ⟨⟨⟨⟨of_eq_true e0_0, of_eq_true e0_1, of_eq_true e0_2, of_eq_true e0_3, .refl _, .refl _, .refl _, .refl _, trivial⟩, ⟨.refl _, .refl _, .refl _, .refl _, .refl _, .refl _, .refl _, trivial⟩, .refl _, trivial⟩, ?_⟩, ?_⟩
    · exact congrArg Option.isSome (strings_row _ _ _ _ _ _ _ _ _ _ _ _ _ _ _ _ n0_0 n0_1 n0_2 n0_3 n0_4 n0_5 n0_6 n0_7 n1_0 n1_1 n1_2 n1_3 n1_4 n1_5 n1_6)
    · exact congrArg (fun o => [RV.c (.d (.bool (Option.getD o default)))]) (strings_row _ _ _ _ _ _ _ _ _ _ _ _ _ _ _ _ n0_0 n0_1 n0_2 n0_3 n0_4 n0_5 n0_6 n0_7 n1_0 n1_1 n1_2 n1_3 n1_4 n1_5 n1_6)
def L3 : List (String × DataW Unit) := [("math/bits.deBruijn32tab", Rows.laid_math_bits_deBruijn32tab), ("math/bits.deBruijn64tab", Rows.laid_math_bits_deBruijn64tab), ("internal/strconv.uint64pow10", Rows.laid_internal_strconv_uint64pow10), ("unicode/utf8.acceptRanges", Rows.laid_unicode_utf8_acceptRanges), ("strconv.ErrRange", Rows.laid_strconv_ErrRange), ("strconv.ErrSyntax", Rows.laid_strconv_ErrSyntax), ("martensite/steel.directions", Rows.laid_martensite_steel_directions), ("unicode/utf8.first", Rows.laid_unicode_utf8_first)]
theorem row3 (u : TypeId) (h : Tryz.prog.typeName? 3 u = some "*errors.errorString") : u = 226 :=
  typeName_ptr_named (nm := "errors.errorString") (by rw [show "*" ++ "errors.errorString" = "*errors.errorString" by decide]; kernel_rfl) (by kernel_rfl) (by decide) u (by rw [show "*" ++ "errors.errorString" = "*errors.errorString" by decide]; exact h)
theorem cells3a : Tryz.prog.cellsOf 228 = 1 := by kernel_rfl
theorem cells3b : Tryz.prog.cellsOf 9 = 1 := by kernel_rfl
theorem door3 (os : Os) (args : Array Value) : laidMetH Tryz.prog L3 ((World.laidAll Tryz.prog os L3).forCall (fun _ _ => 0) ⟨#[], args, []⟩).memory := by
  rw [MakeChecks.laidMetH_plain _ _ _ (by kernel_rfl)]; exact laidMet_laidAll _ (by kernel_rfl) (by kernel_rfl)
theorem glob3 {W : World} (hL0 : laidMetH Tryz.prog L3 W) (hsh : W.ShapedOpen Tryz.prog) : GlobOk W := by
  have hL : laidMet Tryz.prog L3 W := by rw [MakeChecks.laidMetH_plain _ _ _ (by kernel_rfl)] at hL0; exact hL0
  refine ⟨fun g l hm => ?_, fun g p hm => ?_⟩
  · simp only [glb, List.mem_cons, List.mem_nil_iff, or_false, Prod.mk.injEq] at hm
    obtain ⟨rfl, rfl⟩ := hm
    exact ints_of_laid (n := "martensite/steel.directions") (g := 0) (t := 26) (e := 3) (l := [1, 0, (-1), 0]) (by kernel_rfl) (by kernel_rfl) Tryz.underlying26 Tryz.underlying3 (by kernel_rfl) (by kernel_rfl) (by decide) (laid_drop 6 _ hL)
  · simp only [glbX, List.mem_cons, List.mem_nil_iff, or_false, Prod.mk.injEq] at hm
    rcases hm with ⟨rfl, rfl⟩ | ⟨rfl, rfl⟩ | ⟨rfl, rfl⟩ | ⟨rfl, rfl⟩
    · exact by obtain ⟨T, z, h⟩ := nums_of_laid (k := .u64) (n := "internal/strconv.uint64pow10") (g := 4) (t := 215) (e := 194) (l := [1, 10, 100, 1000, 10000, 100000, 1000000, 10000000, 100000000, 1000000000, 10000000000, 100000000000, 1000000000000, 10000000000000, 100000000000000, 1000000000000000, 10000000000000000, 100000000000000000, 1000000000000000000, 10000000000000000000]) (by kernel_rfl) (by kernel_rfl) Tryz.underlying215 Tryz.underlying194 (by kernel_rfl) (by kernel_rfl) (laid_drop 2 _ hL); exact ⟨_, T, z, h, rfl⟩
    · exact int_of_cell (cell_of_shapedOpen_int (P := Tryz.prog) (g := 1) (t := 3) (zero := #[.int .i64 0]) hsh (of_decide_eq_true (by kernel_rfl)) (by kernel_rfl) rfl (by kernel_rfl) (by kernel_rfl) Tryz.underlying3)
    · exact err_of_laid (n := "strconv.ErrSyntax") (g := 2) (ti := 119) (tp := 226) (te := 228) (ts := 9) (by kernel_rfl) (by kernel_rfl) Tryz.underlying119 row3 Tryz.underlying226 Tryz.underlying228 rfl rfl Tryz.underlying9 cells3a cells3b (laid_drop 5 _ hL)
    · exact err_of_laid (n := "strconv.ErrRange") (g := 3) (ti := 119) (tp := 226) (te := 228) (ts := 9) (by kernel_rfl) (by kernel_rfl) Tryz.underlying119 row3 Tryz.underlying226 Tryz.underlying228 rfl rfl Tryz.underlying9 cells3a cells3b (laid_drop 4 _ hL)
set_option maxRecDepth 100000 in
theorem lifted3 (os : Os) (started : os.Started) (H : Type) (enc : TypeId × Value → H) :
    ReturnsInHanded {} Tryz.checked os 3 .any (fun w args => (Rows.steelStringsSpec.pre enc Tryz.prog Tryz.f3 [] false w args ∧ laidMetH Tryz.prog L3 w) ∧ sizedMet enc Tryz.prog Tryz.f3 (OpenSpec.ofChange Rows.steelStringsSpec) false w args)
      (Rows.steelStringsSpec.post enc Tryz.prog Tryz.f3 false true false false) := by
  refine handed_shaped (C := Tryz.checked) (X := fun w _ => laidMetH Tryz.prog L3 w) (fun _ _ _ hh h => h.of_heap hh) own3 started (by kernel_rfl) Tryz.func3
    (ChangeSpec.witness_shaped (enc := enc) (C := Tryz.checked) (os := os) (X := fun w _ => laidMetH Tryz.prog L3 w) false (World.laidAll Tryz.prog os L3) #[.agg #[.slice none 0 0, .slice none 0 0, .slice none 0 0, .slice none 0 0, .int .i64 0, .int .i64 0, .int .i64 0, .int .i64 0], .agg #[.int .i64 0, .int .i64 0, .int .i64 0, .int .i64 0, .int .i64 0, .int .i64 0, .int .i64 0], .string .empty] 8 (World.laidAll_os _ _ _) (World.shaped_of_ZipB (by kernel_rfl) (by kernel_rfl)) (by kernel_rfl) (by kernel_rfl) (by kernel_rfl) (door3 os _)) ?_
  intro W base args ds gs before hval hW hL hsh
  exact law_post (P := Tryz.prog) (fn := Tryz.f3) args3 v3 pre3 rfl (fun ds h => by
    rw [Tryz.params3] at h
    match ds, h with
    | [_, _, _], _ => exact ⟨rfl, rfl, rfl⟩) (by kernel_rfl) Tryz.underlying4 laid3 (by rw [Tryz.params3]; decide +kernel) (glob3 hL hsh) hval hW
theorem steelStrings_holds : Rows.SteelStringsSaid :=
  OpenClaim.holds_of_wide 3 Tryz.f3 rfl rfl rfl rfl rfl rfl rfl ⟨rfl, rfl, rfl, rfl, rfl⟩ rfl rfl rfl rfl rfl (by kernel_rfl) Tryz.func3 (by kernel_rfl)
    (of_decide_eq_true (by kernel_rfl)) (by unfold Func.isWrapper; first | (rw [if_pos (by decide +kernel)]; kernel_rfl) | (rw [if_neg (by decide +kernel)]; exact ⟨rfl, rfl⟩))
    (fun os started H enc _ => lifted3 os started H enc)
theorem steelStrings_card : Rows.SteelStringsCardSaid :=
  Claim7.holds_tied_plain_at .later [] [.data, .data, .data, .data, .sentinel, .sentinel, .data, .pinned] true (true, "1c348f4d670a9bc0f9b94b5385964c1dfb5f2ef3addce6c69f190a0c57c6161b") true
    steelStrings_holds (fun _ h => by cases h) (by kernel_rfl) (fun _ h => by cases h) steelStrings_row_tie rfl ⟨rfl, rfl⟩ (by kernel_rfl) rfl
    (fun f fn hf hfn => by
      obtain rfl : f = 3 := Option.some.inj ((show Tryz.prog.funcNamed "martensite/martensitelaw04.SteelStrings" = some 3 by kernel_rfl).symm.trans hf) |>.symm
      obtain rfl : fn = Tryz.f3 := (Option.some.inj (Tryz.func3.symm.trans hfn)).symm
      refine ⟨by kernel_rfl, fun j t ht => ?_⟩
      rw [Tryz.params3] at ht
      have hall : ([28, 30, 9].all fun t => !(Tryz.prog.wantsStandIn t)) = true := by kernel_rfl
      have hm : t ∈ [28, 30, 9] := by have h3 := Array.mem_of_getElem? ht; simpa using h3
      have h5 : Tryz.prog.wantsStandIn t = false := by simpa using List.all_eq_true.1 hall t hm
      exact h5)
    (by kernel_rfl)
#print axioms steelStrings_card
end Go.Proofs.YtdlogfepbkojkaaGreatDoor

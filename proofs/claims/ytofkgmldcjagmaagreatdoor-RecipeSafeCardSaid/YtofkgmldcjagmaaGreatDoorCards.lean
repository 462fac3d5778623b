/-
  DERIVED. GIVEN WITH THE SEED: THE CARDS: each row of YtofkgmldcjagmaaGreatDoorRows.lean that lists a variable, with what it lists TIED to the program's text (the seventh form; the later family's looks); each row that meets fmt, with fmt's text TOLD by the authors' own Lean function (tested against real Go, not proved from fmt's source: count such statements apart). THE CARD IS WHAT COUNTS. Prove the row's statement (the work); the ties are given (YtofkgmldcjagmaaGreatDoorTie.lean); close each card by the builder's one call (the guide's Derived/Test/ToyasCard.lean, 'card_holds'). Laid BY PROGRAM, IN A SANDBOX (cutbox-door.mjs). By AI agents, Wed Nov 11 2026. No macro, syntax, notation, axiom, sorry.
-/
import Derived.Test.YtofkgmldcjagmaaGreatDoorRows
import GoSem.ClaimSeven
namespace Go.Proofs.YtofkgmldcjagmaaGreatDoor
namespace Rows

/-- THE TIED CARD OF 'martensitelaw05.RecipeStops'. -/
def recipeStopsCard : Claim7 := { stood := { row := recipeStopsRow, standIns := [], harness := (true, "27e4feecbab50c92ae54d46173d1c906b0ad53addd4d5f0f354e47b3788f9cb8"), looks := true }, kinds := [], alts := [], laidByText := true, laidKinds := [.data, .data, .data, .sentinel, .sentinel, .data, .data], laidTests := true, laidLooks := .later }
def RecipeStopsCardSaid : Prop := Claim7.holds Tryz.pinned (.plain (OpenSpec.ofChange recipeStopsSpec)) recipeStopsCard

/-- THE TIED CARD OF 'martensitelaw05.RecipeSafe'. -/
def recipeSafeCard : Claim7 := { stood := { row := recipeSafeRow, standIns := [], harness := (true, "27e4feecbab50c92ae54d46173d1c906b0ad53addd4d5f0f354e47b3788f9cb8"), looks := true }, kinds := [], alts := [], laidByText := true, laidKinds := [.data, .data, .data, .sentinel, .sentinel, .data, .data], laidTests := true, laidLooks := .later }
def RecipeSafeCardSaid : Prop := Claim7.holds Tryz.pinned (.plain (OpenSpec.ofChange recipeSafeSpec)) recipeSafeCard

/-- THE TIED CARD OF 'martensitelaw05.RecipeBenches'. -/
def recipeBenchesCard : Claim7 := { stood := { row := recipeBenchesRow, standIns := [], harness := (true, "27e4feecbab50c92ae54d46173d1c906b0ad53addd4d5f0f354e47b3788f9cb8"), looks := true }, kinds := [], alts := [], laidByText := true, laidKinds := [.data, .data, .data, .sentinel, .sentinel, .data, .data], laidTests := true, laidLooks := .later }
def RecipeBenchesCardSaid : Prop := Claim7.holds Tryz.pinned (.plain (OpenSpec.ofChange recipeBenchesSpec)) recipeBenchesCard

/-- THE SECOND FORM's CARD OF 'martensitelaw05.RecipeStops'. -/
def recipeStopsUptoCard : Claim7 := { stood := { row := recipeStopsUptoRow, standIns := [], harness := (true, "27e4feecbab50c92ae54d46173d1c906b0ad53addd4d5f0f354e47b3788f9cb8"), looks := true }, kinds := [], alts := [], laidByText := true, laidKinds := [.data, .data, .data, .sentinel, .sentinel, .data, .data], laidTests := true, laidLooks := .later }
def RecipeStopsUptoCardSaid : Prop := Claim7.holds Tryz.pinned (.plain (OpenSpec.upto recipeStopsSpec)) recipeStopsUptoCard

/-- THE SECOND FORM's CARD OF 'martensitelaw05.RecipeSafe'. -/
def recipeSafeUptoCard : Claim7 := { stood := { row := recipeSafeUptoRow, standIns := [], harness := (true, "27e4feecbab50c92ae54d46173d1c906b0ad53addd4d5f0f354e47b3788f9cb8"), looks := true }, kinds := [], alts := [], laidByText := true, laidKinds := [.data, .data, .data, .sentinel, .sentinel, .data, .data], laidTests := true, laidLooks := .later }
def RecipeSafeUptoCardSaid : Prop := Claim7.holds Tryz.pinned (.plain (OpenSpec.upto recipeSafeSpec)) recipeSafeUptoCard

/-- THE SECOND FORM's CARD OF 'martensitelaw05.RecipeBenches'. -/
def recipeBenchesUptoCard : Claim7 := { stood := { row := recipeBenchesUptoRow, standIns := [], harness := (true, "27e4feecbab50c92ae54d46173d1c906b0ad53addd4d5f0f354e47b3788f9cb8"), looks := true }, kinds := [], alts := [], laidByText := true, laidKinds := [.data, .data, .data, .sentinel, .sentinel, .data, .data], laidTests := true, laidLooks := .later }
def RecipeBenchesUptoCardSaid : Prop := Claim7.holds Tryz.pinned (.plain (OpenSpec.upto recipeBenchesSpec)) recipeBenchesUptoCard
end Rows
end Go.Proofs.YtofkgmldcjagmaaGreatDoor

/-
  DERIVED. GIVEN WITH THE SEED: THE CARDS: each row of YtnepigpnlnmlmaaGreatDoorRows.lean that lists a variable, with what it lists TIED to the program's text (the seventh form; the later family's looks); each row that meets fmt, with fmt's text TOLD by the authors' own Lean function (tested against real Go, not proved from fmt's source: count such statements apart). THE CARD IS WHAT COUNTS. Prove the row's statement (the work); the ties are given (YtnepigpnlnmlmaaGreatDoorTie.lean); close each card by the builder's one call (the guide's Derived/Test/ToyasCard.lean, 'card_holds'). Laid BY PROGRAM, IN A SANDBOX (cutbox-door.mjs). By AI agents, Wed Nov 11 2026. No macro, syntax, notation, axiom, sorry.
-/
import Derived.Test.YtnepigpnlnmlmaaGreatDoorRows
import GoSem.ClaimSeven
namespace Go.Proofs.YtnepigpnlnmlmaaGreatDoor
namespace Rows

/-- THE TIED CARD OF 'martensitelaw05.RecipeClasses'. -/
def recipeClassesCard : Claim7 := { stood := { row := recipeClassesRow, standIns := [], harness := (true, "4540603091b95af330848ad08670bfd1f442692e9a063eb08fe6b096c141c366"), looks := true }, kinds := [], alts := [], laidByText := true, laidKinds := [.data, .data, .data, .sentinel, .sentinel, .data, .data], laidTests := true, laidLooks := .later }
def RecipeClassesCardSaid : Prop := Claim7.holds Tryz.pinned (.plain (OpenSpec.ofChange recipeClassesSpec)) recipeClassesCard

/-- THE TIED CARD OF 'martensitelaw05.RecipeBands'. -/
def recipeBandsCard : Claim7 := { stood := { row := recipeBandsRow, standIns := [], harness := (true, "4540603091b95af330848ad08670bfd1f442692e9a063eb08fe6b096c141c366"), looks := true }, kinds := [], alts := [], laidByText := true, laidKinds := [.data, .data, .data, .sentinel, .sentinel, .data, .data], laidTests := true, laidLooks := .later }
def RecipeBandsCardSaid : Prop := Claim7.holds Tryz.pinned (.plain (OpenSpec.ofChange recipeBandsSpec)) recipeBandsCard

/-- THE TIED CARD OF 'martensitelaw05.RecipeForAll'. -/
def recipeForAllCard : Claim7 := { stood := { row := recipeForAllRow, standIns := [], harness := (true, "4540603091b95af330848ad08670bfd1f442692e9a063eb08fe6b096c141c366"), looks := true }, kinds := [], alts := [], laidByText := true, laidKinds := [.data, .data, .data, .sentinel, .sentinel, .data, .data], laidTests := true, laidLooks := .later }
def RecipeForAllCardSaid : Prop := Claim7.holds Tryz.pinned (.plain (OpenSpec.ofChange recipeForAllSpec)) recipeForAllCard

/-- THE TIED CARD OF 'martensitelaw05.RecipeWider'. -/
def recipeWiderCard : Claim7 := { stood := { row := recipeWiderRow, standIns := [], harness := (true, "4540603091b95af330848ad08670bfd1f442692e9a063eb08fe6b096c141c366"), looks := true }, kinds := [], alts := [], laidByText := true, laidKinds := [.data, .data, .data, .sentinel, .sentinel, .data, .data], laidTests := true, laidLooks := .later }
def RecipeWiderCardSaid : Prop := Claim7.holds Tryz.pinned (.plain (OpenSpec.ofChange recipeWiderSpec)) recipeWiderCard

/-- THE TIED CARD OF 'martensitelaw05.RecipeShortest'. -/
def recipeShortestCard : Claim7 := { stood := { row := recipeShortestRow, standIns := [], harness := (true, "4540603091b95af330848ad08670bfd1f442692e9a063eb08fe6b096c141c366"), looks := true }, kinds := [], alts := [], laidByText := true, laidKinds := [.data, .data, .data, .sentinel, .sentinel, .data, .data], laidTests := true, laidLooks := .later }
def RecipeShortestCardSaid : Prop := Claim7.holds Tryz.pinned (.plain (OpenSpec.ofChange recipeShortestSpec)) recipeShortestCard

/-- THE TIED CARD OF 'martensitelaw05.RecipeNoShorter'. -/
def recipeNoShorterCard : Claim7 := { stood := { row := recipeNoShorterRow, standIns := [], harness := (true, "4540603091b95af330848ad08670bfd1f442692e9a063eb08fe6b096c141c366"), looks := true }, kinds := [], alts := [], laidByText := true, laidKinds := [.data, .data, .data, .sentinel, .sentinel, .data, .data], laidTests := true, laidLooks := .later }
def RecipeNoShorterCardSaid : Prop := Claim7.holds Tryz.pinned (.plain (OpenSpec.ofChange recipeNoShorterSpec)) recipeNoShorterCard

/-- THE SECOND FORM's CARD OF 'martensitelaw05.RecipeClasses'. -/
def recipeClassesUptoCard : Claim7 := { stood := { row := recipeClassesUptoRow, standIns := [], harness := (true, "4540603091b95af330848ad08670bfd1f442692e9a063eb08fe6b096c141c366"), looks := true }, kinds := [], alts := [], laidByText := true, laidKinds := [.data, .data, .data, .sentinel, .sentinel, .data, .data], laidTests := true, laidLooks := .later }
def RecipeClassesUptoCardSaid : Prop := Claim7.holds Tryz.pinned (.plain (OpenSpec.upto recipeClassesSpec)) recipeClassesUptoCard

/-- THE SECOND FORM's CARD OF 'martensitelaw05.RecipeBands'. -/
def recipeBandsUptoCard : Claim7 := { stood := { row := recipeBandsUptoRow, standIns := [], harness := (true, "4540603091b95af330848ad08670bfd1f442692e9a063eb08fe6b096c141c366"), looks := true }, kinds := [], alts := [], laidByText := true, laidKinds := [.data, .data, .data, .sentinel, .sentinel, .data, .data], laidTests := true, laidLooks := .later }
def RecipeBandsUptoCardSaid : Prop := Claim7.holds Tryz.pinned (.plain (OpenSpec.upto recipeBandsSpec)) recipeBandsUptoCard

/-- THE SECOND FORM's CARD OF 'martensitelaw05.RecipeForAll'. -/
def recipeForAllUptoCard : Claim7 := { stood := { row := recipeForAllUptoRow, standIns := [], harness := (true, "4540603091b95af330848ad08670bfd1f442692e9a063eb08fe6b096c141c366"), looks := true }, kinds := [], alts := [], laidByText := true, laidKinds := [.data, .data, .data, .sentinel, .sentinel, .data, .data], laidTests := true, laidLooks := .later }
def RecipeForAllUptoCardSaid : Prop := Claim7.holds Tryz.pinned (.plain (OpenSpec.upto recipeForAllSpec)) recipeForAllUptoCard

/-- THE SECOND FORM's CARD OF 'martensitelaw05.RecipeWider'. -/
def recipeWiderUptoCard : Claim7 := { stood := { row := recipeWiderUptoRow, standIns := [], harness := (true, "4540603091b95af330848ad08670bfd1f442692e9a063eb08fe6b096c141c366"), looks := true }, kinds := [], alts := [], laidByText := true, laidKinds := [.data, .data, .data, .sentinel, .sentinel, .data, .data], laidTests := true, laidLooks := .later }
def RecipeWiderUptoCardSaid : Prop := Claim7.holds Tryz.pinned (.plain (OpenSpec.upto recipeWiderSpec)) recipeWiderUptoCard

/-- THE SECOND FORM's CARD OF 'martensitelaw05.RecipeShortest'. -/
def recipeShortestUptoCard : Claim7 := { stood := { row := recipeShortestUptoRow, standIns := [], harness := (true, "4540603091b95af330848ad08670bfd1f442692e9a063eb08fe6b096c141c366"), looks := true }, kinds := [], alts := [], laidByText := true, laidKinds := [.data, .data, .data, .sentinel, .sentinel, .data, .data], laidTests := true, laidLooks := .later }
def RecipeShortestUptoCardSaid : Prop := Claim7.holds Tryz.pinned (.plain (OpenSpec.upto recipeShortestSpec)) recipeShortestUptoCard

/-- THE SECOND FORM's CARD OF 'martensitelaw05.RecipeNoShorter'. -/
def recipeNoShorterUptoCard : Claim7 := { stood := { row := recipeNoShorterUptoRow, standIns := [], harness := (true, "4540603091b95af330848ad08670bfd1f442692e9a063eb08fe6b096c141c366"), looks := true }, kinds := [], alts := [], laidByText := true, laidKinds := [.data, .data, .data, .sentinel, .sentinel, .data, .data], laidTests := true, laidLooks := .later }
def RecipeNoShorterUptoCardSaid : Prop := Claim7.holds Tryz.pinned (.plain (OpenSpec.upto recipeNoShorterSpec)) recipeNoShorterUptoCard
end Rows
end Go.Proofs.YtnepigpnlnmlmaaGreatDoor

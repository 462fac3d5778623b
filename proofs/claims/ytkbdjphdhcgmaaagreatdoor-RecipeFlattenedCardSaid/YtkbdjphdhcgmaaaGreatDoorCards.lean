/-
  DERIVED. GIVEN WITH THE SEED: THE CARDS: each row of YtkbdjphdhcgmaaaGreatDoorRows.lean that lists a variable, with what it lists TIED to the program's text (the seventh form; the later family's looks); each row that meets fmt, with fmt's text TOLD by the authors' own Lean function (tested against real Go, not proved from fmt's source: count such statements apart). THE CARD IS WHAT COUNTS. Prove the row's statement (the work); the ties are given (YtkbdjphdhcgmaaaGreatDoorTie.lean); close each card by the builder's one call (the guide's Derived/Test/ToyasCard.lean, 'card_holds'). Laid BY PROGRAM, IN A SANDBOX (cutbox-door.mjs). By AI agents, Wed Nov 11 2026. No macro, syntax, notation, axiom, sorry.
-/
import Derived.Test.YtkbdjphdhcgmaaaGreatDoorRows
import GoSem.ClaimSeven
namespace Go.Proofs.YtkbdjphdhcgmaaaGreatDoor
namespace Rows

/-- THE TIED CARD OF 'martensitelaw05.RecipeChecks'. -/
def recipeChecksCard : Claim7 := { stood := { row := recipeChecksRow, standIns := [], harness := (true, "4fd7546f0b5766fb072718fdae3641d18e4838db01d9c12666a51e7218f41843"), looks := true }, kinds := [], alts := [], laidByText := true, laidKinds := [.data, .data, .data, .sentinel, .sentinel, .data, .data], laidTests := true, laidLooks := .later }
def RecipeChecksCardSaid : Prop := Claim7.holds Tryz.pinned (.plain (OpenSpec.ofChange recipeChecksSpec)) recipeChecksCard

/-- THE TIED CARD OF 'martensitelaw05.RecipeCompiled'. -/
def recipeCompiledCard : Claim7 := { stood := { row := recipeCompiledRow, standIns := [], harness := (true, "4fd7546f0b5766fb072718fdae3641d18e4838db01d9c12666a51e7218f41843"), looks := true }, kinds := [], alts := [], laidByText := true, laidKinds := [.data, .data, .data, .sentinel, .sentinel, .data, .data], laidTests := true, laidLooks := .later }
def RecipeCompiledCardSaid : Prop := Claim7.holds Tryz.pinned (.plain (OpenSpec.ofChange recipeCompiledSpec)) recipeCompiledCard

/-- THE TIED CARD OF 'martensitelaw05.RecipeFlattened'. -/
def recipeFlattenedCard : Claim7 := { stood := { row := recipeFlattenedRow, standIns := [], harness := (true, "4fd7546f0b5766fb072718fdae3641d18e4838db01d9c12666a51e7218f41843"), looks := true }, kinds := [], alts := [], laidByText := true, laidKinds := [.data, .data, .data, .sentinel, .sentinel, .data, .data], laidTests := true, laidLooks := .later }
def RecipeFlattenedCardSaid : Prop := Claim7.holds Tryz.pinned (.plain (OpenSpec.ofChange recipeFlattenedSpec)) recipeFlattenedCard

/-- THE SECOND FORM's CARD OF 'martensitelaw05.RecipeChecks'. -/
def recipeChecksUptoCard : Claim7 := { stood := { row := recipeChecksUptoRow, standIns := [], harness := (true, "4fd7546f0b5766fb072718fdae3641d18e4838db01d9c12666a51e7218f41843"), looks := true }, kinds := [], alts := [], laidByText := true, laidKinds := [.data, .data, .data, .sentinel, .sentinel, .data, .data], laidTests := true, laidLooks := .later }
def RecipeChecksUptoCardSaid : Prop := Claim7.holds Tryz.pinned (.plain (OpenSpec.upto recipeChecksSpec)) recipeChecksUptoCard

/-- THE SECOND FORM's CARD OF 'martensitelaw05.RecipeCompiled'. -/
def recipeCompiledUptoCard : Claim7 := { stood := { row := recipeCompiledUptoRow, standIns := [], harness := (true, "4fd7546f0b5766fb072718fdae3641d18e4838db01d9c12666a51e7218f41843"), looks := true }, kinds := [], alts := [], laidByText := true, laidKinds := [.data, .data, .data, .sentinel, .sentinel, .data, .data], laidTests := true, laidLooks := .later }
def RecipeCompiledUptoCardSaid : Prop := Claim7.holds Tryz.pinned (.plain (OpenSpec.upto recipeCompiledSpec)) recipeCompiledUptoCard

/-- THE SECOND FORM's CARD OF 'martensitelaw05.RecipeFlattened'. -/
def recipeFlattenedUptoCard : Claim7 := { stood := { row := recipeFlattenedUptoRow, standIns := [], harness := (true, "4fd7546f0b5766fb072718fdae3641d18e4838db01d9c12666a51e7218f41843"), looks := true }, kinds := [], alts := [], laidByText := true, laidKinds := [.data, .data, .data, .sentinel, .sentinel, .data, .data], laidTests := true, laidLooks := .later }
def RecipeFlattenedUptoCardSaid : Prop := Claim7.holds Tryz.pinned (.plain (OpenSpec.upto recipeFlattenedSpec)) recipeFlattenedUptoCard
end Rows
end Go.Proofs.YtkbdjphdhcgmaaaGreatDoor

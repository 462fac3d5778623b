/-
  DERIVED. GIVEN WITH THE SEED: THE CARDS: each row of YtlnlpncchgimgaaGreatDoorRows.lean that lists a variable, with what it lists TIED to the program's text (the seventh form; the later family's looks); each row that meets fmt, with fmt's text TOLD by the authors' own Lean function (tested against real Go, not proved from fmt's source: count such statements apart). THE CARD IS WHAT COUNTS. Prove the row's statement (the work); the ties are given (YtlnlpncchgimgaaGreatDoorTie.lean); close each card by the builder's one call (the guide's Derived/Test/ToyasCard.lean, 'card_holds'). Laid BY PROGRAM, IN A SANDBOX (cutbox-door.mjs). By AI agents, Wed Nov 11 2026. No macro, syntax, notation, axiom, sorry.
-/
import Derived.Test.YtlnlpncchgimgaaGreatDoorRows
import GoSem.ClaimSeven
namespace Go.Proofs.YtlnlpncchgimgaaGreatDoor
namespace Rows

/-- THE TIED CARD OF 'martensitetop.TopRecipeStopped'. -/
def topRecipeStoppedCard : Claim7 := { stood := { row := topRecipeStoppedRow, standIns := [], harness := (true, "639bfa2e24c5a9702b6f640871024da94e53196e3ef3f0ec33b330cdd025d4ef"), looks := true }, kinds := [], alts := [], laidByText := true, laidKinds := [.data, .data, .data, .data, .sentinel, .sentinel, .data, .pinned], laidTests := true, laidLooks := .later }
def TopRecipeStoppedCardSaid : Prop := Claim7.holds Tryz.pinned (.plain (OpenSpec.ofChange topRecipeStoppedSpec)) topRecipeStoppedCard

/-- THE SECOND FORM's CARD OF 'martensitetop.TopRecipeStopped'. -/
def topRecipeStoppedUptoCard : Claim7 := { stood := { row := topRecipeStoppedUptoRow, standIns := [], harness := (true, "639bfa2e24c5a9702b6f640871024da94e53196e3ef3f0ec33b330cdd025d4ef"), looks := true }, kinds := [], alts := [], laidByText := true, laidKinds := [.data, .data, .data, .data, .sentinel, .sentinel, .data, .pinned], laidTests := true, laidLooks := .later }
def TopRecipeStoppedUptoCardSaid : Prop := Claim7.holds Tryz.pinned (.plain (OpenSpec.upto topRecipeStoppedSpec)) topRecipeStoppedUptoCard
end Rows
end Go.Proofs.YtlnlpncchgimgaaGreatDoor

/-
  DERIVED. GIVEN WITH THE SEED: THE CARDS: each row of YtefijdjbhjdhdaaGreatDoorRows.lean that lists a variable, with what it lists TIED to the program's text (the seventh form; the later family's looks); each row that meets fmt, with fmt's text TOLD by the authors' own Lean function (tested against real Go, not proved from fmt's source: count such statements apart). THE CARD IS WHAT COUNTS. Prove the row's statement (the work); the ties are given (YtefijdjbhjdhdaaGreatDoorTie.lean); close each card by the builder's one call (the guide's Derived/Test/ToyasCard.lean, 'card_holds'). Laid BY PROGRAM, IN A SANDBOX (cutbox-door.mjs). By AI agents, Wed Nov 11 2026. No macro, syntax, notation, axiom, sorry.
-/
import Derived.Test.YtefijdjbhjdhdaaGreatDoorRows
import GoSem.ClaimSeven
namespace Go.Proofs.YtefijdjbhjdhdaaGreatDoor
namespace Rows

/-- THE TIED CARD OF 'martensitelaw03.HeatStrings'. -/
def heatStringsCard : Claim7 := { stood := { row := heatStringsRow, standIns := [], harness := (true, "9f18b2461ee73a577bbe2c39ab9b74d8485ff1cb5267000c27530dfd06d98ff1"), looks := true }, kinds := [], alts := [], laidByText := true, laidKinds := [.data, .data, .data, .data, .sentinel, .sentinel, .pinned], laidTests := true, laidLooks := .later }
def HeatStringsCardSaid : Prop := Claim7.holds Tryz.pinned (.plain (OpenSpec.ofChange heatStringsSpec)) heatStringsCard

/-- THE SECOND FORM's CARD OF 'martensitelaw03.HeatStrings'. -/
def heatStringsUptoCard : Claim7 := { stood := { row := heatStringsUptoRow, standIns := [], harness := (true, "9f18b2461ee73a577bbe2c39ab9b74d8485ff1cb5267000c27530dfd06d98ff1"), looks := true }, kinds := [], alts := [], laidByText := true, laidKinds := [.data, .data, .data, .data, .sentinel, .sentinel, .pinned], laidTests := true, laidLooks := .later }
def HeatStringsUptoCardSaid : Prop := Claim7.holds Tryz.pinned (.plain (OpenSpec.upto heatStringsSpec)) heatStringsUptoCard
end Rows
end Go.Proofs.YtefijdjbhjdhdaaGreatDoor

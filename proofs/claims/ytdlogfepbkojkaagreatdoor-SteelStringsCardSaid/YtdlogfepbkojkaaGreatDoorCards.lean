/-
  DERIVED. GIVEN WITH THE SEED: THE CARDS: each row of YtdlogfepbkojkaaGreatDoorRows.lean that lists a variable, with what it lists TIED to the program's text (the seventh form; the later family's looks); each row that meets fmt, with fmt's text TOLD by the authors' own Lean function (tested against real Go, not proved from fmt's source: count such statements apart). THE CARD IS WHAT COUNTS. Prove the row's statement (the work); the ties are given (YtdlogfepbkojkaaGreatDoorTie.lean); close each card by the builder's one call (the guide's Derived/Test/ToyasCard.lean, 'card_holds'). Laid BY PROGRAM, IN A SANDBOX (cutbox-door.mjs). By AI agents, Wed Nov 11 2026. No macro, syntax, notation, axiom, sorry.
-/
import Derived.Test.YtdlogfepbkojkaaGreatDoorRows
import GoSem.ClaimSeven
namespace Go.Proofs.YtdlogfepbkojkaaGreatDoor
namespace Rows

/-- THE TIED CARD OF 'martensitelaw04.SteelStrings'. -/
def steelStringsCard : Claim7 := { stood := { row := steelStringsRow, standIns := [], harness := (true, "1c348f4d670a9bc0f9b94b5385964c1dfb5f2ef3addce6c69f190a0c57c6161b"), looks := true }, kinds := [], alts := [], laidByText := true, laidKinds := [.data, .data, .data, .data, .sentinel, .sentinel, .data, .pinned], laidTests := true, laidLooks := .later }
def SteelStringsCardSaid : Prop := Claim7.holds Tryz.pinned (.plain (OpenSpec.ofChange steelStringsSpec)) steelStringsCard

/-- THE SECOND FORM's CARD OF 'martensitelaw04.SteelStrings'. -/
def steelStringsUptoCard : Claim7 := { stood := { row := steelStringsUptoRow, standIns := [], harness := (true, "1c348f4d670a9bc0f9b94b5385964c1dfb5f2ef3addce6c69f190a0c57c6161b"), looks := true }, kinds := [], alts := [], laidByText := true, laidKinds := [.data, .data, .data, .data, .sentinel, .sentinel, .data, .pinned], laidTests := true, laidLooks := .later }
def SteelStringsUptoCardSaid : Prop := Claim7.holds Tryz.pinned (.plain (OpenSpec.upto steelStringsSpec)) steelStringsUptoCard
end Rows
end Go.Proofs.YtdlogfepbkojkaaGreatDoor

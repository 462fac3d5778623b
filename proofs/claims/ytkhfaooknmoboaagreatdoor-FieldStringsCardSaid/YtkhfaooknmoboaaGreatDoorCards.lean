/-
  DERIVED. GIVEN WITH THE SEED: THE CARDS: each row of YtkhfaooknmoboaaGreatDoorRows.lean that lists a variable, with what it lists TIED to the program's text (the seventh form; the later family's looks); each row that meets fmt, with fmt's text TOLD by the authors' own Lean function (tested against real Go, not proved from fmt's source: count such statements apart). THE CARD IS WHAT COUNTS. Prove the row's statement (the work); the ties are given (YtkhfaooknmoboaaGreatDoorTie.lean); close each card by the builder's one call (the guide's Derived/Test/ToyasCard.lean, 'card_holds'). Laid BY PROGRAM, IN A SANDBOX (cutbox-door.mjs). By AI agents, Wed Nov 11 2026. No macro, syntax, notation, axiom, sorry.
-/
import Derived.Test.YtkhfaooknmoboaaGreatDoorRows
import GoSem.ClaimSeven
namespace Go.Proofs.YtkhfaooknmoboaaGreatDoor
namespace Rows

/-- THE TIED CARD OF 'martensitelaw02.FieldStrings'. -/
def fieldStringsCard : Claim7 := { stood := { row := fieldStringsRow, standIns := [], harness := (true, "72429c058de33e5a59ef6e2d205dd1ed3b219e432cb18d5488327786d91b325d"), looks := true }, kinds := [], alts := [], laidByText := true, laidKinds := [.data, .data, .data, .data, .sentinel, .sentinel, .pinned], laidTests := true, laidLooks := .later }
def FieldStringsCardSaid : Prop := Claim7.holds Tryz.pinned (.plain (OpenSpec.ofChange fieldStringsSpec)) fieldStringsCard

/-- THE SECOND FORM's CARD OF 'martensitelaw02.FieldStrings'. -/
def fieldStringsUptoCard : Claim7 := { stood := { row := fieldStringsUptoRow, standIns := [], harness := (true, "72429c058de33e5a59ef6e2d205dd1ed3b219e432cb18d5488327786d91b325d"), looks := true }, kinds := [], alts := [], laidByText := true, laidKinds := [.data, .data, .data, .data, .sentinel, .sentinel, .pinned], laidTests := true, laidLooks := .later }
def FieldStringsUptoCardSaid : Prop := Claim7.holds Tryz.pinned (.plain (OpenSpec.upto fieldStringsSpec)) fieldStringsUptoCard
end Rows
end Go.Proofs.YtkhfaooknmoboaaGreatDoor

/-
  DERIVED. GIVEN WITH THE SEED: THE CARDS: each row of YthcpkkpjegldoaaDoorRows.lean that lists a variable, with what it lists TIED to the program's text (the seventh form; the later family's looks); each row that meets fmt, with fmt's text TOLD by the authors' own Lean function (tested against real Go, not proved from fmt's source: count such statements apart). THE CARD IS WHAT COUNTS. Prove the row's statement (the work); the ties are given (YthcpkkpjegldoaaDoorTie.lean); close each card by the builder's one call (the guide's Derived/Test/ToyasCard.lean, 'card_holds'). Laid BY PROGRAM, IN A SANDBOX (cutbox-door.mjs). By AI agents, Wed Nov 11 2026. No macro, syntax, notation, axiom, sorry.
-/
import Derived.Test.YthcpkkpjegldoaaDoorRows
import GoSem.ClaimSeven
namespace Go.Proofs.YthcpkkpjegldoaaDoor
namespace Rows

/-- THE TIED CARD OF 'martensitelaw04.SteelLots'. -/
def steelLotsCard : Claim7 := { stood := { row := steelLotsRow, standIns := [], harness := (true, "8963b4150ae85617fe2b54e915b72173211fc6393f82ae85029e521c08a37f4d"), looks := false }, kinds := [], alts := [], laidByText := true, laidKinds := [.data], laidTests := true, laidLooks := .later }
def SteelLotsCardSaid : Prop := Claim7.holds Tryd.pinned (.plain (OpenSpec.ofChange steelLotsSpec)) steelLotsCard

/-- THE SECOND FORM's CARD OF 'martensitelaw04.SteelLots'. -/
def steelLotsUptoCard : Claim7 := { stood := { row := steelLotsUptoRow, standIns := [], harness := (true, "8963b4150ae85617fe2b54e915b72173211fc6393f82ae85029e521c08a37f4d"), looks := false }, kinds := [], alts := [], laidByText := true, laidKinds := [.data], laidTests := true, laidLooks := .later }
def SteelLotsUptoCardSaid : Prop := Claim7.holds Tryd.pinned (.plain (OpenSpec.upto steelLotsSpec)) steelLotsUptoCard
end Rows
end Go.Proofs.YthcpkkpjegldoaaDoor

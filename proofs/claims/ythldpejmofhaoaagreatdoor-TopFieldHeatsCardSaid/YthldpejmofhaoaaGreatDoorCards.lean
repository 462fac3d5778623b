/-
  DERIVED. GIVEN WITH THE SEED: THE CARDS: each row of YthldpejmofhaoaaGreatDoorRows.lean that lists a variable, with what it lists TIED to the program's text (the seventh form; the later family's looks); each row that meets fmt, with fmt's text TOLD by the authors' own Lean function (tested against real Go, not proved from fmt's source: count such statements apart). THE CARD IS WHAT COUNTS. Prove the row's statement (the work); the ties are given (YthldpejmofhaoaaGreatDoorTie.lean); close each card by the builder's one call (the guide's Derived/Test/ToyasCard.lean, 'card_holds'). Laid BY PROGRAM, IN A SANDBOX (cutbox-door.mjs). By AI agents, Wed Nov 11 2026. No macro, syntax, notation, axiom, sorry.
-/
import Derived.Test.YthldpejmofhaoaaGreatDoorRows
import GoSem.ClaimSeven
namespace Go.Proofs.YthldpejmofhaoaaGreatDoor
namespace Rows

/-- THE TIED CARD OF 'martensitetop.TopHeatKept'. -/
def topHeatKeptCard : Claim7 := { stood := { row := topHeatKeptRow, standIns := [], harness := (true, "25752754b0c7577547a52e9cde7bed4ca0f2909f70a269e86da11146649f5029"), looks := true }, kinds := [], alts := [], laidByText := true, laidKinds := [.data, .data, .data, .data, .sentinel, .sentinel, .pinned], laidTests := true, laidLooks := .later }
def TopHeatKeptCardSaid : Prop := Claim7.holds Tryz.pinned (.plain (OpenSpec.ofChange topHeatKeptSpec)) topHeatKeptCard

/-- THE TIED CARD OF 'martensitetop.TopFieldHeats'. -/
def topFieldHeatsCard : Claim7 := { stood := { row := topFieldHeatsRow, standIns := [], harness := (true, "25752754b0c7577547a52e9cde7bed4ca0f2909f70a269e86da11146649f5029"), looks := true }, kinds := [], alts := [], laidByText := true, laidKinds := [.data, .data, .data, .data, .sentinel, .sentinel, .pinned], laidTests := true, laidLooks := .later }
def TopFieldHeatsCardSaid : Prop := Claim7.holds Tryz.pinned (.plain (OpenSpec.ofChange topFieldHeatsSpec)) topFieldHeatsCard

/-- THE TIED CARD OF 'martensitetop.TopSteelHardened'. -/
def topSteelHardenedCard : Claim7 := { stood := { row := topSteelHardenedRow, standIns := [], harness := (true, "25752754b0c7577547a52e9cde7bed4ca0f2909f70a269e86da11146649f5029"), looks := true }, kinds := [], alts := [], laidByText := true, laidKinds := [.data, .data, .data, .data, .sentinel, .sentinel, .data, .pinned], laidTests := true, laidLooks := .later }
def TopSteelHardenedCardSaid : Prop := Claim7.holds Tryz.pinned (.plain (OpenSpec.ofChange topSteelHardenedSpec)) topSteelHardenedCard

/-- THE SECOND FORM's CARD OF 'martensitetop.TopHeatKept'. -/
def topHeatKeptUptoCard : Claim7 := { stood := { row := topHeatKeptUptoRow, standIns := [], harness := (true, "25752754b0c7577547a52e9cde7bed4ca0f2909f70a269e86da11146649f5029"), looks := true }, kinds := [], alts := [], laidByText := true, laidKinds := [.data, .data, .data, .data, .sentinel, .sentinel, .pinned], laidTests := true, laidLooks := .later }
def TopHeatKeptUptoCardSaid : Prop := Claim7.holds Tryz.pinned (.plain (OpenSpec.upto topHeatKeptSpec)) topHeatKeptUptoCard

/-- THE SECOND FORM's CARD OF 'martensitetop.TopFieldHeats'. -/
def topFieldHeatsUptoCard : Claim7 := { stood := { row := topFieldHeatsUptoRow, standIns := [], harness := (true, "25752754b0c7577547a52e9cde7bed4ca0f2909f70a269e86da11146649f5029"), looks := true }, kinds := [], alts := [], laidByText := true, laidKinds := [.data, .data, .data, .data, .sentinel, .sentinel, .pinned], laidTests := true, laidLooks := .later }
def TopFieldHeatsUptoCardSaid : Prop := Claim7.holds Tryz.pinned (.plain (OpenSpec.upto topFieldHeatsSpec)) topFieldHeatsUptoCard

/-- THE SECOND FORM's CARD OF 'martensitetop.TopSteelHardened'. -/
def topSteelHardenedUptoCard : Claim7 := { stood := { row := topSteelHardenedUptoRow, standIns := [], harness := (true, "25752754b0c7577547a52e9cde7bed4ca0f2909f70a269e86da11146649f5029"), looks := true }, kinds := [], alts := [], laidByText := true, laidKinds := [.data, .data, .data, .data, .sentinel, .sentinel, .data, .pinned], laidTests := true, laidLooks := .later }
def TopSteelHardenedUptoCardSaid : Prop := Claim7.holds Tryz.pinned (.plain (OpenSpec.upto topSteelHardenedSpec)) topSteelHardenedUptoCard
end Rows
end Go.Proofs.YthldpejmofhaoaaGreatDoor

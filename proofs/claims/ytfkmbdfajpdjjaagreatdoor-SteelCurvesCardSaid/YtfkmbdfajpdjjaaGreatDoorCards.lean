/-
  DERIVED. GIVEN WITH THE SEED: THE CARDS: each row of YtfkmbdfajpdjjaaGreatDoorRows.lean that lists a variable, with what it lists TIED to the program's text (the seventh form; the later family's looks); each row that meets fmt, with fmt's text TOLD by the authors' own Lean function (tested against real Go, not proved from fmt's source: count such statements apart). THE CARD IS WHAT COUNTS. Prove the row's statement (the work); the ties are given (YtfkmbdfajpdjjaaGreatDoorTie.lean); close each card by the builder's one call (the guide's Derived/Test/ToyasCard.lean, 'card_holds'). Laid BY PROGRAM, IN A SANDBOX (cutbox-door.mjs). By AI agents, Wed Nov 11 2026. No macro, syntax, notation, axiom, sorry.
-/
import Derived.Test.YtfkmbdfajpdjjaaGreatDoorRows
import GoSem.ClaimSeven
namespace Go.Proofs.YtfkmbdfajpdjjaaGreatDoor
namespace Rows

/-- THE TIED CARD OF 'martensitelaw04.SteelCurves'. -/
def steelCurvesCard : Claim7 := { stood := { row := steelCurvesRow, standIns := [], harness := (true, "50366f93eaaea6d8c721475c4b2e2551f5b15e10f879c9f952118b7b55e7093a"), looks := false }, kinds := [], alts := [], laidByText := true, laidKinds := [.data], laidTests := true, laidLooks := .later }
def SteelCurvesCardSaid : Prop := Claim7.holds Tryz.pinned (.plain (OpenSpec.ofChange steelCurvesSpec)) steelCurvesCard

/-- THE TIED CARD OF 'martensitelaw04.SteelProfiles'. -/
def steelProfilesCard : Claim7 := { stood := { row := steelProfilesRow, standIns := [], harness := (true, "50366f93eaaea6d8c721475c4b2e2551f5b15e10f879c9f952118b7b55e7093a"), looks := false }, kinds := [], alts := [], laidByText := true, laidKinds := [.data], laidTests := true, laidLooks := .later }
def SteelProfilesCardSaid : Prop := Claim7.holds Tryz.pinned (.plain (OpenSpec.ofChange steelProfilesSpec)) steelProfilesCard

/-- THE TIED CARD OF 'martensitelaw04.SteelBoxes'. -/
def steelBoxesCard : Claim7 := { stood := { row := steelBoxesRow, standIns := [], harness := (true, "50366f93eaaea6d8c721475c4b2e2551f5b15e10f879c9f952118b7b55e7093a"), looks := false }, kinds := [], alts := [], laidByText := true, laidKinds := [.data], laidTests := true, laidLooks := .later }
def SteelBoxesCardSaid : Prop := Claim7.holds Tryz.pinned (.plain (OpenSpec.ofChange steelBoxesSpec)) steelBoxesCard

/-- THE SECOND FORM's CARD OF 'martensitelaw04.SteelCurves'. -/
def steelCurvesUptoCard : Claim7 := { stood := { row := steelCurvesUptoRow, standIns := [], harness := (true, "50366f93eaaea6d8c721475c4b2e2551f5b15e10f879c9f952118b7b55e7093a"), looks := false }, kinds := [], alts := [], laidByText := true, laidKinds := [.data], laidTests := true, laidLooks := .later }
def SteelCurvesUptoCardSaid : Prop := Claim7.holds Tryz.pinned (.plain (OpenSpec.upto steelCurvesSpec)) steelCurvesUptoCard

/-- THE SECOND FORM's CARD OF 'martensitelaw04.SteelProfiles'. -/
def steelProfilesUptoCard : Claim7 := { stood := { row := steelProfilesUptoRow, standIns := [], harness := (true, "50366f93eaaea6d8c721475c4b2e2551f5b15e10f879c9f952118b7b55e7093a"), looks := false }, kinds := [], alts := [], laidByText := true, laidKinds := [.data], laidTests := true, laidLooks := .later }
def SteelProfilesUptoCardSaid : Prop := Claim7.holds Tryz.pinned (.plain (OpenSpec.upto steelProfilesSpec)) steelProfilesUptoCard

/-- THE SECOND FORM's CARD OF 'martensitelaw04.SteelBoxes'. -/
def steelBoxesUptoCard : Claim7 := { stood := { row := steelBoxesUptoRow, standIns := [], harness := (true, "50366f93eaaea6d8c721475c4b2e2551f5b15e10f879c9f952118b7b55e7093a"), looks := false }, kinds := [], alts := [], laidByText := true, laidKinds := [.data], laidTests := true, laidLooks := .later }
def SteelBoxesUptoCardSaid : Prop := Claim7.holds Tryz.pinned (.plain (OpenSpec.upto steelBoxesSpec)) steelBoxesUptoCard
end Rows
end Go.Proofs.YtfkmbdfajpdjjaaGreatDoor

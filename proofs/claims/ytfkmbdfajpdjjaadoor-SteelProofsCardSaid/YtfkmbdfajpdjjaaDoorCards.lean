/-
  DERIVED. GIVEN WITH THE SEED: THE CARDS: each row of YtfkmbdfajpdjjaaDoorRows.lean that lists a variable, with what it lists TIED to the program's text (the seventh form; the later family's looks); each row that meets fmt, with fmt's text TOLD by the authors' own Lean function (tested against real Go, not proved from fmt's source: count such statements apart). THE CARD IS WHAT COUNTS. Prove the row's statement (the work); the ties are given (YtfkmbdfajpdjjaaDoorTie.lean); close each card by the builder's one call (the guide's Derived/Test/ToyasCard.lean, 'card_holds'). Laid BY PROGRAM, IN A SANDBOX (cutbox-door.mjs). By AI agents, Wed Nov 11 2026. No macro, syntax, notation, axiom, sorry.
-/
import Derived.Test.YtfkmbdfajpdjjaaDoorRows
import GoSem.ClaimSeven
namespace Go.Proofs.YtfkmbdfajpdjjaaDoor
namespace Rows

/-- THE TIED CARD OF 'martensitelaw04.SteelRuled'. -/
def steelRuledCard : Claim7 := { stood := { row := steelRuledRow, standIns := [], harness := (true, "3c56abb9864e58efd0a8ea7b69abed98dd3df4537c472da62f13677561847472"), looks := false }, kinds := [], alts := [], laidByText := true, laidKinds := [.data], laidTests := true, laidLooks := .later }
def SteelRuledCardSaid : Prop := Claim7.holds Tryd.pinned (.plain (OpenSpec.ofChange steelRuledSpec)) steelRuledCard

/-- THE TIED CARD OF 'martensitelaw04.SteelFaster'. -/
def steelFasterCard : Claim7 := { stood := { row := steelFasterRow, standIns := [], harness := (true, "3c56abb9864e58efd0a8ea7b69abed98dd3df4537c472da62f13677561847472"), looks := false }, kinds := [], alts := [], laidByText := true, laidKinds := [.data], laidTests := true, laidLooks := .later }
def SteelFasterCardSaid : Prop := Claim7.holds Tryd.pinned (.plain (OpenSpec.ofChange steelFasterSpec)) steelFasterCard

/-- THE TIED CARD OF 'martensitelaw04.SteelCases'. -/
def steelCasesCard : Claim7 := { stood := { row := steelCasesRow, standIns := [], harness := (true, "3c56abb9864e58efd0a8ea7b69abed98dd3df4537c472da62f13677561847472"), looks := false }, kinds := [], alts := [], laidByText := true, laidKinds := [.data], laidTests := true, laidLooks := .later }
def SteelCasesCardSaid : Prop := Claim7.holds Tryd.pinned (.plain (OpenSpec.ofChange steelCasesSpec)) steelCasesCard

/-- THE TIED CARD OF 'martensitelaw04.SteelShares'. -/
def steelSharesCard : Claim7 := { stood := { row := steelSharesRow, standIns := [], harness := (true, "3c56abb9864e58efd0a8ea7b69abed98dd3df4537c472da62f13677561847472"), looks := false }, kinds := [], alts := [], laidByText := true, laidKinds := [.data], laidTests := true, laidLooks := .later }
def SteelSharesCardSaid : Prop := Claim7.holds Tryd.pinned (.plain (OpenSpec.ofChange steelSharesSpec)) steelSharesCard

/-- THE TIED CARD OF 'martensitelaw04.SteelTempered'. -/
def steelTemperedCard : Claim7 := { stood := { row := steelTemperedRow, standIns := [], harness := (true, "3c56abb9864e58efd0a8ea7b69abed98dd3df4537c472da62f13677561847472"), looks := false }, kinds := [], alts := [], laidByText := true, laidKinds := [.data], laidTests := true, laidLooks := .later }
def SteelTemperedCardSaid : Prop := Claim7.holds Tryd.pinned (.plain (OpenSpec.ofChange steelTemperedSpec)) steelTemperedCard

/-- THE TIED CARD OF 'martensitelaw04.SteelRuns'. -/
def steelRunsCard : Claim7 := { stood := { row := steelRunsRow, standIns := [], harness := (true, "3c56abb9864e58efd0a8ea7b69abed98dd3df4537c472da62f13677561847472"), looks := false }, kinds := [], alts := [], laidByText := true, laidKinds := [.data], laidTests := true, laidLooks := .later }
def SteelRunsCardSaid : Prop := Claim7.holds Tryd.pinned (.plain (OpenSpec.ofChange steelRunsSpec)) steelRunsCard

/-- THE TIED CARD OF 'martensitelaw04.SteelLots'. -/
def steelLotsCard : Claim7 := { stood := { row := steelLotsRow, standIns := [], harness := (true, "3c56abb9864e58efd0a8ea7b69abed98dd3df4537c472da62f13677561847472"), looks := false }, kinds := [], alts := [], laidByText := true, laidKinds := [.data], laidTests := true, laidLooks := .later }
def SteelLotsCardSaid : Prop := Claim7.holds Tryd.pinned (.plain (OpenSpec.ofChange steelLotsSpec)) steelLotsCard

/-- THE TIED CARD OF 'martensitelaw04.SteelProofs'. -/
def steelProofsCard : Claim7 := { stood := { row := steelProofsRow, standIns := [], harness := (true, "3c56abb9864e58efd0a8ea7b69abed98dd3df4537c472da62f13677561847472"), looks := false }, kinds := [], alts := [], laidByText := true, laidKinds := [.data], laidTests := true, laidLooks := .later }
def SteelProofsCardSaid : Prop := Claim7.holds Tryd.pinned (.plain (OpenSpec.ofChange steelProofsSpec)) steelProofsCard

/-- THE TIED CARD OF 'martensitelaw04.SteelEnclosed'. -/
def steelEnclosedCard : Claim7 := { stood := { row := steelEnclosedRow, standIns := [], harness := (true, "3c56abb9864e58efd0a8ea7b69abed98dd3df4537c472da62f13677561847472"), looks := false }, kinds := [], alts := [], laidByText := true, laidKinds := [.data], laidTests := true, laidLooks := .later }
def SteelEnclosedCardSaid : Prop := Claim7.holds Tryd.pinned (.plain (OpenSpec.ofChange steelEnclosedSpec)) steelEnclosedCard

/-- THE SECOND FORM's CARD OF 'martensitelaw04.SteelRuled'. -/
def steelRuledUptoCard : Claim7 := { stood := { row := steelRuledUptoRow, standIns := [], harness := (true, "3c56abb9864e58efd0a8ea7b69abed98dd3df4537c472da62f13677561847472"), looks := false }, kinds := [], alts := [], laidByText := true, laidKinds := [.data], laidTests := true, laidLooks := .later }
def SteelRuledUptoCardSaid : Prop := Claim7.holds Tryd.pinned (.plain (OpenSpec.upto steelRuledSpec)) steelRuledUptoCard

/-- THE SECOND FORM's CARD OF 'martensitelaw04.SteelFaster'. -/
def steelFasterUptoCard : Claim7 := { stood := { row := steelFasterUptoRow, standIns := [], harness := (true, "3c56abb9864e58efd0a8ea7b69abed98dd3df4537c472da62f13677561847472"), looks := false }, kinds := [], alts := [], laidByText := true, laidKinds := [.data], laidTests := true, laidLooks := .later }
def SteelFasterUptoCardSaid : Prop := Claim7.holds Tryd.pinned (.plain (OpenSpec.upto steelFasterSpec)) steelFasterUptoCard

/-- THE SECOND FORM's CARD OF 'martensitelaw04.SteelCases'. -/
def steelCasesUptoCard : Claim7 := { stood := { row := steelCasesUptoRow, standIns := [], harness := (true, "3c56abb9864e58efd0a8ea7b69abed98dd3df4537c472da62f13677561847472"), looks := false }, kinds := [], alts := [], laidByText := true, laidKinds := [.data], laidTests := true, laidLooks := .later }
def SteelCasesUptoCardSaid : Prop := Claim7.holds Tryd.pinned (.plain (OpenSpec.upto steelCasesSpec)) steelCasesUptoCard

/-- THE SECOND FORM's CARD OF 'martensitelaw04.SteelShares'. -/
def steelSharesUptoCard : Claim7 := { stood := { row := steelSharesUptoRow, standIns := [], harness := (true, "3c56abb9864e58efd0a8ea7b69abed98dd3df4537c472da62f13677561847472"), looks := false }, kinds := [], alts := [], laidByText := true, laidKinds := [.data], laidTests := true, laidLooks := .later }
def SteelSharesUptoCardSaid : Prop := Claim7.holds Tryd.pinned (.plain (OpenSpec.upto steelSharesSpec)) steelSharesUptoCard

/-- THE SECOND FORM's CARD OF 'martensitelaw04.SteelTempered'. -/
def steelTemperedUptoCard : Claim7 := { stood := { row := steelTemperedUptoRow, standIns := [], harness := (true, "3c56abb9864e58efd0a8ea7b69abed98dd3df4537c472da62f13677561847472"), looks := false }, kinds := [], alts := [], laidByText := true, laidKinds := [.data], laidTests := true, laidLooks := .later }
def SteelTemperedUptoCardSaid : Prop := Claim7.holds Tryd.pinned (.plain (OpenSpec.upto steelTemperedSpec)) steelTemperedUptoCard

/-- THE SECOND FORM's CARD OF 'martensitelaw04.SteelRuns'. -/
def steelRunsUptoCard : Claim7 := { stood := { row := steelRunsUptoRow, standIns := [], harness := (true, "3c56abb9864e58efd0a8ea7b69abed98dd3df4537c472da62f13677561847472"), looks := false }, kinds := [], alts := [], laidByText := true, laidKinds := [.data], laidTests := true, laidLooks := .later }
def SteelRunsUptoCardSaid : Prop := Claim7.holds Tryd.pinned (.plain (OpenSpec.upto steelRunsSpec)) steelRunsUptoCard

/-- THE SECOND FORM's CARD OF 'martensitelaw04.SteelLots'. -/
def steelLotsUptoCard : Claim7 := { stood := { row := steelLotsUptoRow, standIns := [], harness := (true, "3c56abb9864e58efd0a8ea7b69abed98dd3df4537c472da62f13677561847472"), looks := false }, kinds := [], alts := [], laidByText := true, laidKinds := [.data], laidTests := true, laidLooks := .later }
def SteelLotsUptoCardSaid : Prop := Claim7.holds Tryd.pinned (.plain (OpenSpec.upto steelLotsSpec)) steelLotsUptoCard

/-- THE SECOND FORM's CARD OF 'martensitelaw04.SteelProofs'. -/
def steelProofsUptoCard : Claim7 := { stood := { row := steelProofsUptoRow, standIns := [], harness := (true, "3c56abb9864e58efd0a8ea7b69abed98dd3df4537c472da62f13677561847472"), looks := false }, kinds := [], alts := [], laidByText := true, laidKinds := [.data], laidTests := true, laidLooks := .later }
def SteelProofsUptoCardSaid : Prop := Claim7.holds Tryd.pinned (.plain (OpenSpec.upto steelProofsSpec)) steelProofsUptoCard

/-- THE SECOND FORM's CARD OF 'martensitelaw04.SteelEnclosed'. -/
def steelEnclosedUptoCard : Claim7 := { stood := { row := steelEnclosedUptoRow, standIns := [], harness := (true, "3c56abb9864e58efd0a8ea7b69abed98dd3df4537c472da62f13677561847472"), looks := false }, kinds := [], alts := [], laidByText := true, laidKinds := [.data], laidTests := true, laidLooks := .later }
def SteelEnclosedUptoCardSaid : Prop := Claim7.holds Tryd.pinned (.plain (OpenSpec.upto steelEnclosedSpec)) steelEnclosedUptoCard
end Rows
end Go.Proofs.YtfkmbdfajpdjjaaDoor

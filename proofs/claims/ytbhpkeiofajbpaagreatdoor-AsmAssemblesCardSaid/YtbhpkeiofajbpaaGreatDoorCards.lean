/-
  DERIVED. GIVEN WITH THE SEED: THE CARDS: each row of YtbhpkeiofajbpaaGreatDoorRows.lean that lists a variable, with what it lists TIED to the program's text (the seventh form; the later family's looks); each row that meets fmt, with fmt's text TOLD by the authors' own Lean function (tested against real Go, not proved from fmt's source: count such statements apart). THE CARD IS WHAT COUNTS. Prove the row's statement (the work); the ties are given (YtbhpkeiofajbpaaGreatDoorTie.lean); close each card by the builder's one call (the guide's Derived/Test/ToyasCard.lean, 'card_holds'). Laid BY PROGRAM, IN A SANDBOX (cutbox-door.mjs). By AI agents, Wed Nov 11 2026. No macro, syntax, notation, axiom, sorry.
-/
import Derived.Test.YtbhpkeiofajbpaaGreatDoorRows
import GoSem.ClaimSeven
namespace Go.Proofs.YtbhpkeiofajbpaaGreatDoor
namespace Rows

/-- THE TIED CARD OF 'ropelinelaw14.TicketPlays'. -/
def ticketPlaysCard : Claim7 := { stood := { row := ticketPlaysRow, standIns := [], harness := (true, "022f6a4e2df28f99377e67e1c88894cb78c13ee6c5f628d6779a32b6c6d78491"), looks := true }, kinds := [], alts := [], laidByText := true, laidKinds := [.data, .data, .data, .data, .sentinel, .sentinel, .pinned], laidTests := true, laidLooks := .later }
def TicketPlaysCardSaid : Prop := Claim7.holds Tryz.pinned (.plain (OpenSpec.ofChange ticketPlaysSpec)) ticketPlaysCard

/-- THE TIED CARD OF 'ropelinelaw14.TicketTurns'. -/
def ticketTurnsCard : Claim7 := { stood := { row := ticketTurnsRow, standIns := [], harness := (true, "022f6a4e2df28f99377e67e1c88894cb78c13ee6c5f628d6779a32b6c6d78491"), looks := true }, kinds := [], alts := [], laidByText := true, laidKinds := [.data, .data, .data, .data, .sentinel, .sentinel, .pinned], laidTests := true, laidLooks := .later }
def TicketTurnsCardSaid : Prop := Claim7.holds Tryz.pinned (.plain (OpenSpec.ofChange ticketTurnsSpec)) ticketTurnsCard

/-- THE TIED CARD OF 'ropelinelaw14.TicketRests'. -/
def ticketRestsCard : Claim7 := { stood := { row := ticketRestsRow, standIns := [], harness := (true, "022f6a4e2df28f99377e67e1c88894cb78c13ee6c5f628d6779a32b6c6d78491"), looks := true }, kinds := [], alts := [], laidByText := true, laidKinds := [.data, .data, .data, .data, .sentinel, .sentinel, .pinned], laidTests := true, laidLooks := .later }
def TicketRestsCardSaid : Prop := Claim7.holds Tryz.pinned (.plain (OpenSpec.ofChange ticketRestsSpec)) ticketRestsCard

/-- THE TIED CARD OF 'ropelinelaw18.McsPlays'. -/
def mcsPlaysCard : Claim7 := { stood := { row := mcsPlaysRow, standIns := [], harness := (true, "022f6a4e2df28f99377e67e1c88894cb78c13ee6c5f628d6779a32b6c6d78491"), looks := true }, kinds := [], alts := [], laidByText := true, laidKinds := [.data, .data, .data, .data, .sentinel, .sentinel, .pinned], laidTests := true, laidLooks := .later }
def McsPlaysCardSaid : Prop := Claim7.holds Tryz.pinned (.plain (OpenSpec.ofChange mcsPlaysSpec)) mcsPlaysCard

/-- THE TIED CARD OF 'ropelinelaw18.McsTurns'. -/
def mcsTurnsCard : Claim7 := { stood := { row := mcsTurnsRow, standIns := [], harness := (true, "022f6a4e2df28f99377e67e1c88894cb78c13ee6c5f628d6779a32b6c6d78491"), looks := true }, kinds := [], alts := [], laidByText := true, laidKinds := [.data, .data, .data, .data, .sentinel, .sentinel, .pinned], laidTests := true, laidLooks := .later }
def McsTurnsCardSaid : Prop := Claim7.holds Tryz.pinned (.plain (OpenSpec.ofChange mcsTurnsSpec)) mcsTurnsCard

/-- THE TIED CARD OF 'ropelinelaw18.McsRests'. -/
def mcsRestsCard : Claim7 := { stood := { row := mcsRestsRow, standIns := [], harness := (true, "022f6a4e2df28f99377e67e1c88894cb78c13ee6c5f628d6779a32b6c6d78491"), looks := true }, kinds := [], alts := [], laidByText := true, laidKinds := [.data, .data, .data, .data, .sentinel, .sentinel, .pinned], laidTests := true, laidLooks := .later }
def McsRestsCardSaid : Prop := Claim7.holds Tryz.pinned (.plain (OpenSpec.ofChange mcsRestsSpec)) mcsRestsCard

/-- THE TIED CARD OF 'ropelinelaw07.AsmAssembles'. -/
def asmAssemblesCard : Claim7 := { stood := { row := asmAssemblesRow, standIns := [], harness := (true, "022f6a4e2df28f99377e67e1c88894cb78c13ee6c5f628d6779a32b6c6d78491"), looks := true }, kinds := [], alts := [], laidByText := true, laidKinds := [.data, .data, .data, .data, .sentinel, .sentinel, .pinned], laidTests := true, laidLooks := .later }
def AsmAssemblesCardSaid : Prop := Claim7.holds Tryz.pinned (.plain (OpenSpec.ofChange asmAssemblesSpec)) asmAssemblesCard

/-- THE TIED CARD OF 'ropelinelaw15.AndersonSpec'. -/
def andersonSpecCard : Claim7 := { stood := { row := andersonSpecRow, standIns := [], harness := (true, "022f6a4e2df28f99377e67e1c88894cb78c13ee6c5f628d6779a32b6c6d78491"), looks := true }, kinds := [], alts := [], laidByText := true, laidKinds := [.data, .data, .data, .data, .sentinel, .sentinel, .pinned], laidTests := true, laidLooks := .later }
def AndersonSpecCardSaid : Prop := Claim7.holds Tryz.pinned (.plain (OpenSpec.ofChange andersonSpecSpec)) andersonSpecCard

/-- THE TIED CARD OF 'ropelinelaw15.AndersonTurns'. -/
def andersonTurnsCard : Claim7 := { stood := { row := andersonTurnsRow, standIns := [], harness := (true, "022f6a4e2df28f99377e67e1c88894cb78c13ee6c5f628d6779a32b6c6d78491"), looks := true }, kinds := [], alts := [], laidByText := true, laidKinds := [.data, .data, .data, .data, .sentinel, .sentinel, .pinned], laidTests := true, laidLooks := .later }
def AndersonTurnsCardSaid : Prop := Claim7.holds Tryz.pinned (.plain (OpenSpec.ofChange andersonTurnsSpec)) andersonTurnsCard

/-- THE TIED CARD OF 'ropelinelaw07.AsmPrints'. -/
def asmPrintsCard : Claim7 := { stood := { row := asmPrintsRow, standIns := [], harness := (true, "022f6a4e2df28f99377e67e1c88894cb78c13ee6c5f628d6779a32b6c6d78491"), looks := true }, kinds := [], alts := [], laidByText := true, laidKinds := [.data, .data, .data, .data, .sentinel, .sentinel, .pinned], laidTests := true, laidLooks := .later }
def AsmPrintsCardSaid : Prop := Claim7.holds Tryz.pinned (.plain (OpenSpec.ofChange asmPrintsSpec)) asmPrintsCard

/-- THE SECOND FORM's CARD OF 'ropelinelaw14.TicketPlays'. -/
def ticketPlaysUptoCard : Claim7 := { stood := { row := ticketPlaysUptoRow, standIns := [], harness := (true, "022f6a4e2df28f99377e67e1c88894cb78c13ee6c5f628d6779a32b6c6d78491"), looks := true }, kinds := [], alts := [], laidByText := true, laidKinds := [.data, .data, .data, .data, .sentinel, .sentinel, .pinned], laidTests := true, laidLooks := .later }
def TicketPlaysUptoCardSaid : Prop := Claim7.holds Tryz.pinned (.plain (OpenSpec.upto ticketPlaysSpec)) ticketPlaysUptoCard

/-- THE SECOND FORM's CARD OF 'ropelinelaw14.TicketTurns'. -/
def ticketTurnsUptoCard : Claim7 := { stood := { row := ticketTurnsUptoRow, standIns := [], harness := (true, "022f6a4e2df28f99377e67e1c88894cb78c13ee6c5f628d6779a32b6c6d78491"), looks := true }, kinds := [], alts := [], laidByText := true, laidKinds := [.data, .data, .data, .data, .sentinel, .sentinel, .pinned], laidTests := true, laidLooks := .later }
def TicketTurnsUptoCardSaid : Prop := Claim7.holds Tryz.pinned (.plain (OpenSpec.upto ticketTurnsSpec)) ticketTurnsUptoCard

/-- THE SECOND FORM's CARD OF 'ropelinelaw14.TicketRests'. -/
def ticketRestsUptoCard : Claim7 := { stood := { row := ticketRestsUptoRow, standIns := [], harness := (true, "022f6a4e2df28f99377e67e1c88894cb78c13ee6c5f628d6779a32b6c6d78491"), looks := true }, kinds := [], alts := [], laidByText := true, laidKinds := [.data, .data, .data, .data, .sentinel, .sentinel, .pinned], laidTests := true, laidLooks := .later }
def TicketRestsUptoCardSaid : Prop := Claim7.holds Tryz.pinned (.plain (OpenSpec.upto ticketRestsSpec)) ticketRestsUptoCard

/-- THE SECOND FORM's CARD OF 'ropelinelaw18.McsPlays'. -/
def mcsPlaysUptoCard : Claim7 := { stood := { row := mcsPlaysUptoRow, standIns := [], harness := (true, "022f6a4e2df28f99377e67e1c88894cb78c13ee6c5f628d6779a32b6c6d78491"), looks := true }, kinds := [], alts := [], laidByText := true, laidKinds := [.data, .data, .data, .data, .sentinel, .sentinel, .pinned], laidTests := true, laidLooks := .later }
def McsPlaysUptoCardSaid : Prop := Claim7.holds Tryz.pinned (.plain (OpenSpec.upto mcsPlaysSpec)) mcsPlaysUptoCard

/-- THE SECOND FORM's CARD OF 'ropelinelaw18.McsTurns'. -/
def mcsTurnsUptoCard : Claim7 := { stood := { row := mcsTurnsUptoRow, standIns := [], harness := (true, "022f6a4e2df28f99377e67e1c88894cb78c13ee6c5f628d6779a32b6c6d78491"), looks := true }, kinds := [], alts := [], laidByText := true, laidKinds := [.data, .data, .data, .data, .sentinel, .sentinel, .pinned], laidTests := true, laidLooks := .later }
def McsTurnsUptoCardSaid : Prop := Claim7.holds Tryz.pinned (.plain (OpenSpec.upto mcsTurnsSpec)) mcsTurnsUptoCard

/-- THE SECOND FORM's CARD OF 'ropelinelaw18.McsRests'. -/
def mcsRestsUptoCard : Claim7 := { stood := { row := mcsRestsUptoRow, standIns := [], harness := (true, "022f6a4e2df28f99377e67e1c88894cb78c13ee6c5f628d6779a32b6c6d78491"), looks := true }, kinds := [], alts := [], laidByText := true, laidKinds := [.data, .data, .data, .data, .sentinel, .sentinel, .pinned], laidTests := true, laidLooks := .later }
def McsRestsUptoCardSaid : Prop := Claim7.holds Tryz.pinned (.plain (OpenSpec.upto mcsRestsSpec)) mcsRestsUptoCard

/-- THE SECOND FORM's CARD OF 'ropelinelaw07.AsmAssembles'. -/
def asmAssemblesUptoCard : Claim7 := { stood := { row := asmAssemblesUptoRow, standIns := [], harness := (true, "022f6a4e2df28f99377e67e1c88894cb78c13ee6c5f628d6779a32b6c6d78491"), looks := true }, kinds := [], alts := [], laidByText := true, laidKinds := [.data, .data, .data, .data, .sentinel, .sentinel, .pinned], laidTests := true, laidLooks := .later }
def AsmAssemblesUptoCardSaid : Prop := Claim7.holds Tryz.pinned (.plain (OpenSpec.upto asmAssemblesSpec)) asmAssemblesUptoCard

/-- THE SECOND FORM's CARD OF 'ropelinelaw15.AndersonSpec'. -/
def andersonSpecUptoCard : Claim7 := { stood := { row := andersonSpecUptoRow, standIns := [], harness := (true, "022f6a4e2df28f99377e67e1c88894cb78c13ee6c5f628d6779a32b6c6d78491"), looks := true }, kinds := [], alts := [], laidByText := true, laidKinds := [.data, .data, .data, .data, .sentinel, .sentinel, .pinned], laidTests := true, laidLooks := .later }
def AndersonSpecUptoCardSaid : Prop := Claim7.holds Tryz.pinned (.plain (OpenSpec.upto andersonSpecSpec)) andersonSpecUptoCard

/-- THE SECOND FORM's CARD OF 'ropelinelaw15.AndersonTurns'. -/
def andersonTurnsUptoCard : Claim7 := { stood := { row := andersonTurnsUptoRow, standIns := [], harness := (true, "022f6a4e2df28f99377e67e1c88894cb78c13ee6c5f628d6779a32b6c6d78491"), looks := true }, kinds := [], alts := [], laidByText := true, laidKinds := [.data, .data, .data, .data, .sentinel, .sentinel, .pinned], laidTests := true, laidLooks := .later }
def AndersonTurnsUptoCardSaid : Prop := Claim7.holds Tryz.pinned (.plain (OpenSpec.upto andersonTurnsSpec)) andersonTurnsUptoCard

/-- THE SECOND FORM's CARD OF 'ropelinelaw07.AsmPrints'. -/
def asmPrintsUptoCard : Claim7 := { stood := { row := asmPrintsUptoRow, standIns := [], harness := (true, "022f6a4e2df28f99377e67e1c88894cb78c13ee6c5f628d6779a32b6c6d78491"), looks := true }, kinds := [], alts := [], laidByText := true, laidKinds := [.data, .data, .data, .data, .sentinel, .sentinel, .pinned], laidTests := true, laidLooks := .later }
def AsmPrintsUptoCardSaid : Prop := Claim7.holds Tryz.pinned (.plain (OpenSpec.upto asmPrintsSpec)) asmPrintsUptoCard
end Rows
end Go.Proofs.YtbhpkeiofajbpaaGreatDoor

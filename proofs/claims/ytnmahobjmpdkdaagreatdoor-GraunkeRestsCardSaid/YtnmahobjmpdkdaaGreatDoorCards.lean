/-
  DERIVED. GIVEN WITH THE SEED: THE CARDS: each row of YtnmahobjmpdkdaaGreatDoorRows.lean that lists a variable, with what it lists TIED to the program's text (the seventh form; the later family's looks); each row that meets fmt, with fmt's text TOLD by the authors' own Lean function (tested against real Go, not proved from fmt's source: count such statements apart). THE CARD IS WHAT COUNTS. Prove the row's statement (the work); the ties are given (YtnmahobjmpdkdaaGreatDoorTie.lean); close each card by the builder's one call (the guide's Derived/Test/ToyasCard.lean, 'card_holds'). Laid BY PROGRAM, IN A SANDBOX (cutbox-door.mjs). By AI agents, Wed Nov 11 2026. No macro, syntax, notation, axiom, sorry.
-/
import Derived.Test.YtnmahobjmpdkdaaGreatDoorRows
import GoSem.ClaimSeven
namespace Go.Proofs.YtnmahobjmpdkdaaGreatDoor
namespace Rows

/-- THE TIED CARD OF 'ropelinelaw14.TicketPlays'. -/
def ticketPlaysCard : Claim7 := { stood := { row := ticketPlaysRow, standIns := [], harness := (true, "e9006f204e7f2b6b0a0e22446b08e3d36a50cf19bcdee7beed2b331a9f4d6263"), looks := true }, kinds := [], alts := [], laidByText := true, laidKinds := [.data, .data, .data, .data, .sentinel, .sentinel, .pinned], laidTests := true, laidLooks := .later }
def TicketPlaysCardSaid : Prop := Claim7.holds Tryz.pinned (.plain (OpenSpec.ofChange ticketPlaysSpec)) ticketPlaysCard

/-- THE TIED CARD OF 'ropelinelaw14.TicketTurns'. -/
def ticketTurnsCard : Claim7 := { stood := { row := ticketTurnsRow, standIns := [], harness := (true, "e9006f204e7f2b6b0a0e22446b08e3d36a50cf19bcdee7beed2b331a9f4d6263"), looks := true }, kinds := [], alts := [], laidByText := true, laidKinds := [.data, .data, .data, .data, .sentinel, .sentinel, .pinned], laidTests := true, laidLooks := .later }
def TicketTurnsCardSaid : Prop := Claim7.holds Tryz.pinned (.plain (OpenSpec.ofChange ticketTurnsSpec)) ticketTurnsCard

/-- THE TIED CARD OF 'ropelinelaw14.TicketRests'. -/
def ticketRestsCard : Claim7 := { stood := { row := ticketRestsRow, standIns := [], harness := (true, "e9006f204e7f2b6b0a0e22446b08e3d36a50cf19bcdee7beed2b331a9f4d6263"), looks := true }, kinds := [], alts := [], laidByText := true, laidKinds := [.data, .data, .data, .data, .sentinel, .sentinel, .pinned], laidTests := true, laidLooks := .later }
def TicketRestsCardSaid : Prop := Claim7.holds Tryz.pinned (.plain (OpenSpec.ofChange ticketRestsSpec)) ticketRestsCard

/-- THE TIED CARD OF 'ropelinelaw18.McsPlays'. -/
def mcsPlaysCard : Claim7 := { stood := { row := mcsPlaysRow, standIns := [], harness := (true, "e9006f204e7f2b6b0a0e22446b08e3d36a50cf19bcdee7beed2b331a9f4d6263"), looks := true }, kinds := [], alts := [], laidByText := true, laidKinds := [.data, .data, .data, .data, .sentinel, .sentinel, .pinned], laidTests := true, laidLooks := .later }
def McsPlaysCardSaid : Prop := Claim7.holds Tryz.pinned (.plain (OpenSpec.ofChange mcsPlaysSpec)) mcsPlaysCard

/-- THE TIED CARD OF 'ropelinelaw18.McsTurns'. -/
def mcsTurnsCard : Claim7 := { stood := { row := mcsTurnsRow, standIns := [], harness := (true, "e9006f204e7f2b6b0a0e22446b08e3d36a50cf19bcdee7beed2b331a9f4d6263"), looks := true }, kinds := [], alts := [], laidByText := true, laidKinds := [.data, .data, .data, .data, .sentinel, .sentinel, .pinned], laidTests := true, laidLooks := .later }
def McsTurnsCardSaid : Prop := Claim7.holds Tryz.pinned (.plain (OpenSpec.ofChange mcsTurnsSpec)) mcsTurnsCard

/-- THE TIED CARD OF 'ropelinelaw18.McsRests'. -/
def mcsRestsCard : Claim7 := { stood := { row := mcsRestsRow, standIns := [], harness := (true, "e9006f204e7f2b6b0a0e22446b08e3d36a50cf19bcdee7beed2b331a9f4d6263"), looks := true }, kinds := [], alts := [], laidByText := true, laidKinds := [.data, .data, .data, .data, .sentinel, .sentinel, .pinned], laidTests := true, laidLooks := .later }
def McsRestsCardSaid : Prop := Claim7.holds Tryz.pinned (.plain (OpenSpec.ofChange mcsRestsSpec)) mcsRestsCard

/-- THE TIED CARD OF 'ropelinelaw19.K42Plays'. -/
def k42PlaysCard : Claim7 := { stood := { row := k42PlaysRow, standIns := [], harness := (true, "e9006f204e7f2b6b0a0e22446b08e3d36a50cf19bcdee7beed2b331a9f4d6263"), looks := true }, kinds := [], alts := [], laidByText := true, laidKinds := [.data, .data, .data, .data, .sentinel, .sentinel, .pinned], laidTests := true, laidLooks := .later }
def K42PlaysCardSaid : Prop := Claim7.holds Tryz.pinned (.plain (OpenSpec.ofChange k42PlaysSpec)) k42PlaysCard

/-- THE TIED CARD OF 'ropelinelaw19.K42Turns'. -/
def k42TurnsCard : Claim7 := { stood := { row := k42TurnsRow, standIns := [], harness := (true, "e9006f204e7f2b6b0a0e22446b08e3d36a50cf19bcdee7beed2b331a9f4d6263"), looks := true }, kinds := [], alts := [], laidByText := true, laidKinds := [.data, .data, .data, .data, .sentinel, .sentinel, .pinned], laidTests := true, laidLooks := .later }
def K42TurnsCardSaid : Prop := Claim7.holds Tryz.pinned (.plain (OpenSpec.ofChange k42TurnsSpec)) k42TurnsCard

/-- THE TIED CARD OF 'ropelinelaw19.K42Rests'. -/
def k42RestsCard : Claim7 := { stood := { row := k42RestsRow, standIns := [], harness := (true, "e9006f204e7f2b6b0a0e22446b08e3d36a50cf19bcdee7beed2b331a9f4d6263"), looks := true }, kinds := [], alts := [], laidByText := true, laidKinds := [.data, .data, .data, .data, .sentinel, .sentinel, .pinned], laidTests := true, laidLooks := .later }
def K42RestsCardSaid : Prop := Claim7.holds Tryz.pinned (.plain (OpenSpec.ofChange k42RestsSpec)) k42RestsCard

/-- THE TIED CARD OF 'ropelinelaw16.GraunkePlays'. -/
def graunkePlaysCard : Claim7 := { stood := { row := graunkePlaysRow, standIns := [], harness := (true, "e9006f204e7f2b6b0a0e22446b08e3d36a50cf19bcdee7beed2b331a9f4d6263"), looks := true }, kinds := [], alts := [], laidByText := true, laidKinds := [.data, .data, .data, .data, .sentinel, .sentinel, .pinned], laidTests := true, laidLooks := .later }
def GraunkePlaysCardSaid : Prop := Claim7.holds Tryz.pinned (.plain (OpenSpec.ofChange graunkePlaysSpec)) graunkePlaysCard

/-- THE TIED CARD OF 'ropelinelaw16.GraunkeTurns'. -/
def graunkeTurnsCard : Claim7 := { stood := { row := graunkeTurnsRow, standIns := [], harness := (true, "e9006f204e7f2b6b0a0e22446b08e3d36a50cf19bcdee7beed2b331a9f4d6263"), looks := true }, kinds := [], alts := [], laidByText := true, laidKinds := [.data, .data, .data, .data, .sentinel, .sentinel, .pinned], laidTests := true, laidLooks := .later }
def GraunkeTurnsCardSaid : Prop := Claim7.holds Tryz.pinned (.plain (OpenSpec.ofChange graunkeTurnsSpec)) graunkeTurnsCard

/-- THE TIED CARD OF 'ropelinelaw16.GraunkeRests'. -/
def graunkeRestsCard : Claim7 := { stood := { row := graunkeRestsRow, standIns := [], harness := (true, "e9006f204e7f2b6b0a0e22446b08e3d36a50cf19bcdee7beed2b331a9f4d6263"), looks := true }, kinds := [], alts := [], laidByText := true, laidKinds := [.data, .data, .data, .data, .sentinel, .sentinel, .pinned], laidTests := true, laidLooks := .later }
def GraunkeRestsCardSaid : Prop := Claim7.holds Tryz.pinned (.plain (OpenSpec.ofChange graunkeRestsSpec)) graunkeRestsCard

/-- THE TIED CARD OF 'ropelinelaw17.ClhPlays'. -/
def clhPlaysCard : Claim7 := { stood := { row := clhPlaysRow, standIns := [], harness := (true, "e9006f204e7f2b6b0a0e22446b08e3d36a50cf19bcdee7beed2b331a9f4d6263"), looks := true }, kinds := [], alts := [], laidByText := true, laidKinds := [.data, .data, .data, .data, .sentinel, .sentinel, .pinned], laidTests := true, laidLooks := .later }
def ClhPlaysCardSaid : Prop := Claim7.holds Tryz.pinned (.plain (OpenSpec.ofChange clhPlaysSpec)) clhPlaysCard

/-- THE TIED CARD OF 'ropelinelaw17.ClhTurns'. -/
def clhTurnsCard : Claim7 := { stood := { row := clhTurnsRow, standIns := [], harness := (true, "e9006f204e7f2b6b0a0e22446b08e3d36a50cf19bcdee7beed2b331a9f4d6263"), looks := true }, kinds := [], alts := [], laidByText := true, laidKinds := [.data, .data, .data, .data, .sentinel, .sentinel, .pinned], laidTests := true, laidLooks := .later }
def ClhTurnsCardSaid : Prop := Claim7.holds Tryz.pinned (.plain (OpenSpec.ofChange clhTurnsSpec)) clhTurnsCard

/-- THE TIED CARD OF 'ropelinelaw17.ClhRests'. -/
def clhRestsCard : Claim7 := { stood := { row := clhRestsRow, standIns := [], harness := (true, "e9006f204e7f2b6b0a0e22446b08e3d36a50cf19bcdee7beed2b331a9f4d6263"), looks := true }, kinds := [], alts := [], laidByText := true, laidKinds := [.data, .data, .data, .data, .sentinel, .sentinel, .pinned], laidTests := true, laidLooks := .later }
def ClhRestsCardSaid : Prop := Claim7.holds Tryz.pinned (.plain (OpenSpec.ofChange clhRestsSpec)) clhRestsCard

/-- THE SECOND FORM's CARD OF 'ropelinelaw14.TicketPlays'. -/
def ticketPlaysUptoCard : Claim7 := { stood := { row := ticketPlaysUptoRow, standIns := [], harness := (true, "e9006f204e7f2b6b0a0e22446b08e3d36a50cf19bcdee7beed2b331a9f4d6263"), looks := true }, kinds := [], alts := [], laidByText := true, laidKinds := [.data, .data, .data, .data, .sentinel, .sentinel, .pinned], laidTests := true, laidLooks := .later }
def TicketPlaysUptoCardSaid : Prop := Claim7.holds Tryz.pinned (.plain (OpenSpec.upto ticketPlaysSpec)) ticketPlaysUptoCard

/-- THE SECOND FORM's CARD OF 'ropelinelaw14.TicketTurns'. -/
def ticketTurnsUptoCard : Claim7 := { stood := { row := ticketTurnsUptoRow, standIns := [], harness := (true, "e9006f204e7f2b6b0a0e22446b08e3d36a50cf19bcdee7beed2b331a9f4d6263"), looks := true }, kinds := [], alts := [], laidByText := true, laidKinds := [.data, .data, .data, .data, .sentinel, .sentinel, .pinned], laidTests := true, laidLooks := .later }
def TicketTurnsUptoCardSaid : Prop := Claim7.holds Tryz.pinned (.plain (OpenSpec.upto ticketTurnsSpec)) ticketTurnsUptoCard

/-- THE SECOND FORM's CARD OF 'ropelinelaw14.TicketRests'. -/
def ticketRestsUptoCard : Claim7 := { stood := { row := ticketRestsUptoRow, standIns := [], harness := (true, "e9006f204e7f2b6b0a0e22446b08e3d36a50cf19bcdee7beed2b331a9f4d6263"), looks := true }, kinds := [], alts := [], laidByText := true, laidKinds := [.data, .data, .data, .data, .sentinel, .sentinel, .pinned], laidTests := true, laidLooks := .later }
def TicketRestsUptoCardSaid : Prop := Claim7.holds Tryz.pinned (.plain (OpenSpec.upto ticketRestsSpec)) ticketRestsUptoCard

/-- THE SECOND FORM's CARD OF 'ropelinelaw18.McsPlays'. -/
def mcsPlaysUptoCard : Claim7 := { stood := { row := mcsPlaysUptoRow, standIns := [], harness := (true, "e9006f204e7f2b6b0a0e22446b08e3d36a50cf19bcdee7beed2b331a9f4d6263"), looks := true }, kinds := [], alts := [], laidByText := true, laidKinds := [.data, .data, .data, .data, .sentinel, .sentinel, .pinned], laidTests := true, laidLooks := .later }
def McsPlaysUptoCardSaid : Prop := Claim7.holds Tryz.pinned (.plain (OpenSpec.upto mcsPlaysSpec)) mcsPlaysUptoCard

/-- THE SECOND FORM's CARD OF 'ropelinelaw18.McsTurns'. -/
def mcsTurnsUptoCard : Claim7 := { stood := { row := mcsTurnsUptoRow, standIns := [], harness := (true, "e9006f204e7f2b6b0a0e22446b08e3d36a50cf19bcdee7beed2b331a9f4d6263"), looks := true }, kinds := [], alts := [], laidByText := true, laidKinds := [.data, .data, .data, .data, .sentinel, .sentinel, .pinned], laidTests := true, laidLooks := .later }
def McsTurnsUptoCardSaid : Prop := Claim7.holds Tryz.pinned (.plain (OpenSpec.upto mcsTurnsSpec)) mcsTurnsUptoCard

/-- THE SECOND FORM's CARD OF 'ropelinelaw18.McsRests'. -/
def mcsRestsUptoCard : Claim7 := { stood := { row := mcsRestsUptoRow, standIns := [], harness := (true, "e9006f204e7f2b6b0a0e22446b08e3d36a50cf19bcdee7beed2b331a9f4d6263"), looks := true }, kinds := [], alts := [], laidByText := true, laidKinds := [.data, .data, .data, .data, .sentinel, .sentinel, .pinned], laidTests := true, laidLooks := .later }
def McsRestsUptoCardSaid : Prop := Claim7.holds Tryz.pinned (.plain (OpenSpec.upto mcsRestsSpec)) mcsRestsUptoCard

/-- THE SECOND FORM's CARD OF 'ropelinelaw19.K42Plays'. -/
def k42PlaysUptoCard : Claim7 := { stood := { row := k42PlaysUptoRow, standIns := [], harness := (true, "e9006f204e7f2b6b0a0e22446b08e3d36a50cf19bcdee7beed2b331a9f4d6263"), looks := true }, kinds := [], alts := [], laidByText := true, laidKinds := [.data, .data, .data, .data, .sentinel, .sentinel, .pinned], laidTests := true, laidLooks := .later }
def K42PlaysUptoCardSaid : Prop := Claim7.holds Tryz.pinned (.plain (OpenSpec.upto k42PlaysSpec)) k42PlaysUptoCard

/-- THE SECOND FORM's CARD OF 'ropelinelaw19.K42Turns'. -/
def k42TurnsUptoCard : Claim7 := { stood := { row := k42TurnsUptoRow, standIns := [], harness := (true, "e9006f204e7f2b6b0a0e22446b08e3d36a50cf19bcdee7beed2b331a9f4d6263"), looks := true }, kinds := [], alts := [], laidByText := true, laidKinds := [.data, .data, .data, .data, .sentinel, .sentinel, .pinned], laidTests := true, laidLooks := .later }
def K42TurnsUptoCardSaid : Prop := Claim7.holds Tryz.pinned (.plain (OpenSpec.upto k42TurnsSpec)) k42TurnsUptoCard

/-- THE SECOND FORM's CARD OF 'ropelinelaw19.K42Rests'. -/
def k42RestsUptoCard : Claim7 := { stood := { row := k42RestsUptoRow, standIns := [], harness := (true, "e9006f204e7f2b6b0a0e22446b08e3d36a50cf19bcdee7beed2b331a9f4d6263"), looks := true }, kinds := [], alts := [], laidByText := true, laidKinds := [.data, .data, .data, .data, .sentinel, .sentinel, .pinned], laidTests := true, laidLooks := .later }
def K42RestsUptoCardSaid : Prop := Claim7.holds Tryz.pinned (.plain (OpenSpec.upto k42RestsSpec)) k42RestsUptoCard

/-- THE SECOND FORM's CARD OF 'ropelinelaw16.GraunkePlays'. -/
def graunkePlaysUptoCard : Claim7 := { stood := { row := graunkePlaysUptoRow, standIns := [], harness := (true, "e9006f204e7f2b6b0a0e22446b08e3d36a50cf19bcdee7beed2b331a9f4d6263"), looks := true }, kinds := [], alts := [], laidByText := true, laidKinds := [.data, .data, .data, .data, .sentinel, .sentinel, .pinned], laidTests := true, laidLooks := .later }
def GraunkePlaysUptoCardSaid : Prop := Claim7.holds Tryz.pinned (.plain (OpenSpec.upto graunkePlaysSpec)) graunkePlaysUptoCard

/-- THE SECOND FORM's CARD OF 'ropelinelaw16.GraunkeTurns'. -/
def graunkeTurnsUptoCard : Claim7 := { stood := { row := graunkeTurnsUptoRow, standIns := [], harness := (true, "e9006f204e7f2b6b0a0e22446b08e3d36a50cf19bcdee7beed2b331a9f4d6263"), looks := true }, kinds := [], alts := [], laidByText := true, laidKinds := [.data, .data, .data, .data, .sentinel, .sentinel, .pinned], laidTests := true, laidLooks := .later }
def GraunkeTurnsUptoCardSaid : Prop := Claim7.holds Tryz.pinned (.plain (OpenSpec.upto graunkeTurnsSpec)) graunkeTurnsUptoCard

/-- THE SECOND FORM's CARD OF 'ropelinelaw16.GraunkeRests'. -/
def graunkeRestsUptoCard : Claim7 := { stood := { row := graunkeRestsUptoRow, standIns := [], harness := (true, "e9006f204e7f2b6b0a0e22446b08e3d36a50cf19bcdee7beed2b331a9f4d6263"), looks := true }, kinds := [], alts := [], laidByText := true, laidKinds := [.data, .data, .data, .data, .sentinel, .sentinel, .pinned], laidTests := true, laidLooks := .later }
def GraunkeRestsUptoCardSaid : Prop := Claim7.holds Tryz.pinned (.plain (OpenSpec.upto graunkeRestsSpec)) graunkeRestsUptoCard

/-- THE SECOND FORM's CARD OF 'ropelinelaw17.ClhPlays'. -/
def clhPlaysUptoCard : Claim7 := { stood := { row := clhPlaysUptoRow, standIns := [], harness := (true, "e9006f204e7f2b6b0a0e22446b08e3d36a50cf19bcdee7beed2b331a9f4d6263"), looks := true }, kinds := [], alts := [], laidByText := true, laidKinds := [.data, .data, .data, .data, .sentinel, .sentinel, .pinned], laidTests := true, laidLooks := .later }
def ClhPlaysUptoCardSaid : Prop := Claim7.holds Tryz.pinned (.plain (OpenSpec.upto clhPlaysSpec)) clhPlaysUptoCard

/-- THE SECOND FORM's CARD OF 'ropelinelaw17.ClhTurns'. -/
def clhTurnsUptoCard : Claim7 := { stood := { row := clhTurnsUptoRow, standIns := [], harness := (true, "e9006f204e7f2b6b0a0e22446b08e3d36a50cf19bcdee7beed2b331a9f4d6263"), looks := true }, kinds := [], alts := [], laidByText := true, laidKinds := [.data, .data, .data, .data, .sentinel, .sentinel, .pinned], laidTests := true, laidLooks := .later }
def ClhTurnsUptoCardSaid : Prop := Claim7.holds Tryz.pinned (.plain (OpenSpec.upto clhTurnsSpec)) clhTurnsUptoCard

/-- THE SECOND FORM's CARD OF 'ropelinelaw17.ClhRests'. -/
def clhRestsUptoCard : Claim7 := { stood := { row := clhRestsUptoRow, standIns := [], harness := (true, "e9006f204e7f2b6b0a0e22446b08e3d36a50cf19bcdee7beed2b331a9f4d6263"), looks := true }, kinds := [], alts := [], laidByText := true, laidKinds := [.data, .data, .data, .data, .sentinel, .sentinel, .pinned], laidTests := true, laidLooks := .later }
def ClhRestsUptoCardSaid : Prop := Claim7.holds Tryz.pinned (.plain (OpenSpec.upto clhRestsSpec)) clhRestsUptoCard
end Rows
end Go.Proofs.YtnmahobjmpdkdaaGreatDoor

/-
  DERIVED. GIVEN WITH THE SEED: THE CARDS: each row of YthhjhbgimdiboaaDoorRows.lean that lists a variable, with what it lists TIED to the program's text (the seventh form; the later family's looks); each row that meets fmt, with fmt's text TOLD by the authors' own Lean function (tested against real Go, not proved from fmt's source: count such statements apart). THE CARD IS WHAT COUNTS. Prove the row's statement (the work); the ties are given (YthhjhbgimdiboaaDoorTie.lean); close each card by the builder's one call (the guide's Derived/Test/ToyasCard.lean, 'card_holds'). Laid BY PROGRAM, IN A SANDBOX (cutbox-door.mjs). By AI agents, Wed Nov 11 2026. No macro, syntax, notation, axiom, sorry.
-/
import Derived.Test.YthhjhbgimdiboaaDoorRows
import GoSem.ClaimSeven
namespace Go.Proofs.YthhjhbgimdiboaaDoor
namespace Rows

/-- THE TIED CARD OF 'ropelinelaw07.AsmBig'. -/
def asmBigCard : Claim7 := { stood := { row := asmBigRow, standIns := [], harness := (true, "f0fd41723661a1845b206d633bb943b1b9881c60e4ee725aaaa6c21ae8d80d04"), looks := true }, kinds := [], alts := [], laidByText := true, laidKinds := [.data, .data, .data, .data, .sentinel, .sentinel, .pinned], laidTests := true, laidLooks := .later }
def AsmBigCardSaid : Prop := Claim7.holds Tryd.pinned (.plain (OpenSpec.ofChange asmBigSpec)) asmBigCard

/-- THE TIED CARD OF 'ropelinelaw14.TicketProgram'. -/
def ticketProgramCard : Claim7 := { stood := { row := ticketProgramRow, standIns := [], harness := (true, "f0fd41723661a1845b206d633bb943b1b9881c60e4ee725aaaa6c21ae8d80d04"), looks := true }, kinds := [], alts := [], laidByText := true, laidKinds := [.data, .data, .data, .data, .sentinel, .sentinel, .pinned], laidTests := true, laidLooks := .later }
def TicketProgramCardSaid : Prop := Claim7.holds Tryd.pinned (.plain (OpenSpec.ofChange ticketProgramSpec)) ticketProgramCard

/-- THE TIED CARD OF 'ropelinelaw18.McsProgram'. -/
def mcsProgramCard : Claim7 := { stood := { row := mcsProgramRow, standIns := [], harness := (true, "f0fd41723661a1845b206d633bb943b1b9881c60e4ee725aaaa6c21ae8d80d04"), looks := true }, kinds := [], alts := [], laidByText := true, laidKinds := [.data, .data, .data, .data, .sentinel, .sentinel, .pinned], laidTests := true, laidLooks := .later }
def McsProgramCardSaid : Prop := Claim7.holds Tryd.pinned (.plain (OpenSpec.ofChange mcsProgramSpec)) mcsProgramCard

/-- THE TIED CARD OF 'ropelinelaw19.K42Program'. -/
def k42ProgramCard : Claim7 := { stood := { row := k42ProgramRow, standIns := [], harness := (true, "f0fd41723661a1845b206d633bb943b1b9881c60e4ee725aaaa6c21ae8d80d04"), looks := true }, kinds := [], alts := [], laidByText := true, laidKinds := [.data, .data, .data, .data, .sentinel, .sentinel, .pinned], laidTests := true, laidLooks := .later }
def K42ProgramCardSaid : Prop := Claim7.holds Tryd.pinned (.plain (OpenSpec.ofChange k42ProgramSpec)) k42ProgramCard

/-- THE TIED CARD OF 'ropelinelaw21.McsTryProgram'. -/
def mcsTryProgramCard : Claim7 := { stood := { row := mcsTryProgramRow, standIns := [], harness := (true, "f0fd41723661a1845b206d633bb943b1b9881c60e4ee725aaaa6c21ae8d80d04"), looks := true }, kinds := [], alts := [], laidByText := true, laidKinds := [.data, .data, .data, .data, .sentinel, .sentinel, .pinned], laidTests := true, laidLooks := .later }
def McsTryProgramCardSaid : Prop := Claim7.holds Tryd.pinned (.plain (OpenSpec.ofChange mcsTryProgramSpec)) mcsTryProgramCard

/-- THE TIED CARD OF 'ropelinelaw16.GraunkeProgram'. -/
def graunkeProgramCard : Claim7 := { stood := { row := graunkeProgramRow, standIns := [], harness := (true, "f0fd41723661a1845b206d633bb943b1b9881c60e4ee725aaaa6c21ae8d80d04"), looks := true }, kinds := [], alts := [], laidByText := true, laidKinds := [.data, .data, .data, .data, .sentinel, .sentinel, .pinned], laidTests := true, laidLooks := .later }
def GraunkeProgramCardSaid : Prop := Claim7.holds Tryd.pinned (.plain (OpenSpec.ofChange graunkeProgramSpec)) graunkeProgramCard

/-- THE TIED CARD OF 'ropelinelaw20.ClhTryProgram'. -/
def clhTryProgramCard : Claim7 := { stood := { row := clhTryProgramRow, standIns := [], harness := (true, "f0fd41723661a1845b206d633bb943b1b9881c60e4ee725aaaa6c21ae8d80d04"), looks := true }, kinds := [], alts := [], laidByText := true, laidKinds := [.data, .data, .data, .data, .sentinel, .sentinel, .pinned], laidTests := true, laidLooks := .later }
def ClhTryProgramCardSaid : Prop := Claim7.holds Tryd.pinned (.plain (OpenSpec.ofChange clhTryProgramSpec)) clhTryProgramCard

/-- THE TIED CARD OF 'ropelinelaw17.ClhProgram'. -/
def clhProgramCard : Claim7 := { stood := { row := clhProgramRow, standIns := [], harness := (true, "f0fd41723661a1845b206d633bb943b1b9881c60e4ee725aaaa6c21ae8d80d04"), looks := true }, kinds := [], alts := [], laidByText := true, laidKinds := [.data, .data, .data, .data, .sentinel, .sentinel, .pinned], laidTests := true, laidLooks := .later }
def ClhProgramCardSaid : Prop := Claim7.holds Tryd.pinned (.plain (OpenSpec.ofChange clhProgramSpec)) clhProgramCard

/-- THE SECOND FORM's CARD OF 'ropelinelaw07.AsmBig'. -/
def asmBigUptoCard : Claim7 := { stood := { row := asmBigUptoRow, standIns := [], harness := (true, "f0fd41723661a1845b206d633bb943b1b9881c60e4ee725aaaa6c21ae8d80d04"), looks := true }, kinds := [], alts := [], laidByText := true, laidKinds := [.data, .data, .data, .data, .sentinel, .sentinel, .pinned], laidTests := true, laidLooks := .later }
def AsmBigUptoCardSaid : Prop := Claim7.holds Tryd.pinned (.plain (OpenSpec.upto asmBigSpec)) asmBigUptoCard

/-- THE SECOND FORM's CARD OF 'ropelinelaw14.TicketProgram'. -/
def ticketProgramUptoCard : Claim7 := { stood := { row := ticketProgramUptoRow, standIns := [], harness := (true, "f0fd41723661a1845b206d633bb943b1b9881c60e4ee725aaaa6c21ae8d80d04"), looks := true }, kinds := [], alts := [], laidByText := true, laidKinds := [.data, .data, .data, .data, .sentinel, .sentinel, .pinned], laidTests := true, laidLooks := .later }
def TicketProgramUptoCardSaid : Prop := Claim7.holds Tryd.pinned (.plain (OpenSpec.upto ticketProgramSpec)) ticketProgramUptoCard

/-- THE SECOND FORM's CARD OF 'ropelinelaw18.McsProgram'. -/
def mcsProgramUptoCard : Claim7 := { stood := { row := mcsProgramUptoRow, standIns := [], harness := (true, "f0fd41723661a1845b206d633bb943b1b9881c60e4ee725aaaa6c21ae8d80d04"), looks := true }, kinds := [], alts := [], laidByText := true, laidKinds := [.data, .data, .data, .data, .sentinel, .sentinel, .pinned], laidTests := true, laidLooks := .later }
def McsProgramUptoCardSaid : Prop := Claim7.holds Tryd.pinned (.plain (OpenSpec.upto mcsProgramSpec)) mcsProgramUptoCard

/-- THE SECOND FORM's CARD OF 'ropelinelaw19.K42Program'. -/
def k42ProgramUptoCard : Claim7 := { stood := { row := k42ProgramUptoRow, standIns := [], harness := (true, "f0fd41723661a1845b206d633bb943b1b9881c60e4ee725aaaa6c21ae8d80d04"), looks := true }, kinds := [], alts := [], laidByText := true, laidKinds := [.data, .data, .data, .data, .sentinel, .sentinel, .pinned], laidTests := true, laidLooks := .later }
def K42ProgramUptoCardSaid : Prop := Claim7.holds Tryd.pinned (.plain (OpenSpec.upto k42ProgramSpec)) k42ProgramUptoCard

/-- THE SECOND FORM's CARD OF 'ropelinelaw21.McsTryProgram'. -/
def mcsTryProgramUptoCard : Claim7 := { stood := { row := mcsTryProgramUptoRow, standIns := [], harness := (true, "f0fd41723661a1845b206d633bb943b1b9881c60e4ee725aaaa6c21ae8d80d04"), looks := true }, kinds := [], alts := [], laidByText := true, laidKinds := [.data, .data, .data, .data, .sentinel, .sentinel, .pinned], laidTests := true, laidLooks := .later }
def McsTryProgramUptoCardSaid : Prop := Claim7.holds Tryd.pinned (.plain (OpenSpec.upto mcsTryProgramSpec)) mcsTryProgramUptoCard

/-- THE SECOND FORM's CARD OF 'ropelinelaw16.GraunkeProgram'. -/
def graunkeProgramUptoCard : Claim7 := { stood := { row := graunkeProgramUptoRow, standIns := [], harness := (true, "f0fd41723661a1845b206d633bb943b1b9881c60e4ee725aaaa6c21ae8d80d04"), looks := true }, kinds := [], alts := [], laidByText := true, laidKinds := [.data, .data, .data, .data, .sentinel, .sentinel, .pinned], laidTests := true, laidLooks := .later }
def GraunkeProgramUptoCardSaid : Prop := Claim7.holds Tryd.pinned (.plain (OpenSpec.upto graunkeProgramSpec)) graunkeProgramUptoCard

/-- THE SECOND FORM's CARD OF 'ropelinelaw20.ClhTryProgram'. -/
def clhTryProgramUptoCard : Claim7 := { stood := { row := clhTryProgramUptoRow, standIns := [], harness := (true, "f0fd41723661a1845b206d633bb943b1b9881c60e4ee725aaaa6c21ae8d80d04"), looks := true }, kinds := [], alts := [], laidByText := true, laidKinds := [.data, .data, .data, .data, .sentinel, .sentinel, .pinned], laidTests := true, laidLooks := .later }
def ClhTryProgramUptoCardSaid : Prop := Claim7.holds Tryd.pinned (.plain (OpenSpec.upto clhTryProgramSpec)) clhTryProgramUptoCard

/-- THE SECOND FORM's CARD OF 'ropelinelaw17.ClhProgram'. -/
def clhProgramUptoCard : Claim7 := { stood := { row := clhProgramUptoRow, standIns := [], harness := (true, "f0fd41723661a1845b206d633bb943b1b9881c60e4ee725aaaa6c21ae8d80d04"), looks := true }, kinds := [], alts := [], laidByText := true, laidKinds := [.data, .data, .data, .data, .sentinel, .sentinel, .pinned], laidTests := true, laidLooks := .later }
def ClhProgramUptoCardSaid : Prop := Claim7.holds Tryd.pinned (.plain (OpenSpec.upto clhProgramSpec)) clhProgramUptoCard
end Rows
end Go.Proofs.YthhjhbgimdiboaaDoor

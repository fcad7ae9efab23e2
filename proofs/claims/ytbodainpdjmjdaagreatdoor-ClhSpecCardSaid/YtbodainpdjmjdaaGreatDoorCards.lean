/-
  DERIVED. GIVEN WITH THE SEED: THE CARDS: each row of YtbodainpdjmjdaaGreatDoorRows.lean that lists a variable, with what it lists TIED to the program's text (the seventh form; the later family's looks); each row that meets fmt, with fmt's text TOLD by the authors' own Lean function (tested against real Go, not proved from fmt's source: count such statements apart). THE CARD IS WHAT COUNTS. Prove the row's statement (the work); the ties are given (YtbodainpdjmjdaaGreatDoorTie.lean); close each card by the builder's one call (the guide's Derived/Test/ToyasCard.lean, 'card_holds'). Laid BY PROGRAM, IN A SANDBOX (cutbox-door.mjs). By AI agents, Wed Nov 11 2026. No macro, syntax, notation, axiom, sorry.
-/
import Derived.Test.YtbodainpdjmjdaaGreatDoorRows
import GoSem.ClaimSeven
namespace Go.Proofs.YtbodainpdjmjdaaGreatDoor
namespace Rows

/-- THE TIED CARD OF 'ropelinelaw14.TicketSpec'. -/
def ticketSpecCard : Claim7 := { stood := { row := ticketSpecRow, standIns := [], harness := (true, "d3333238d8bb804b7549f7178b0a287f936214609320a526e6587ae1dfff1fa8"), looks := true }, kinds := [], alts := [], laidByText := true, laidKinds := [.data, .data, .data, .data, .sentinel, .sentinel, .pinned], laidTests := true, laidLooks := .later }
def TicketSpecCardSaid : Prop := Claim7.holds Tryz.pinned (.plain (OpenSpec.ofChange ticketSpecSpec)) ticketSpecCard

/-- THE TIED CARD OF 'ropelinelaw18.McsSpec'. -/
def mcsSpecCard : Claim7 := { stood := { row := mcsSpecRow, standIns := [], harness := (true, "d3333238d8bb804b7549f7178b0a287f936214609320a526e6587ae1dfff1fa8"), looks := true }, kinds := [], alts := [], laidByText := true, laidKinds := [.data, .data, .data, .data, .sentinel, .sentinel, .pinned], laidTests := true, laidLooks := .later }
def McsSpecCardSaid : Prop := Claim7.holds Tryz.pinned (.plain (OpenSpec.ofChange mcsSpecSpec)) mcsSpecCard

/-- THE TIED CARD OF 'ropelinelaw19.K42Spec'. -/
def k42SpecCard : Claim7 := { stood := { row := k42SpecRow, standIns := [], harness := (true, "d3333238d8bb804b7549f7178b0a287f936214609320a526e6587ae1dfff1fa8"), looks := true }, kinds := [], alts := [], laidByText := true, laidKinds := [.data, .data, .data, .data, .sentinel, .sentinel, .pinned], laidTests := true, laidLooks := .later }
def K42SpecCardSaid : Prop := Claim7.holds Tryz.pinned (.plain (OpenSpec.ofChange k42SpecSpec)) k42SpecCard

/-- THE TIED CARD OF 'ropelinelaw21.McsTrySpec'. -/
def mcsTrySpecCard : Claim7 := { stood := { row := mcsTrySpecRow, standIns := [], harness := (true, "d3333238d8bb804b7549f7178b0a287f936214609320a526e6587ae1dfff1fa8"), looks := true }, kinds := [], alts := [], laidByText := true, laidKinds := [.data, .data, .data, .data, .sentinel, .sentinel, .pinned], laidTests := true, laidLooks := .later }
def McsTrySpecCardSaid : Prop := Claim7.holds Tryz.pinned (.plain (OpenSpec.ofChange mcsTrySpecSpec)) mcsTrySpecCard

/-- THE TIED CARD OF 'ropelinelaw16.GraunkeSpec'. -/
def graunkeSpecCard : Claim7 := { stood := { row := graunkeSpecRow, standIns := [], harness := (true, "d3333238d8bb804b7549f7178b0a287f936214609320a526e6587ae1dfff1fa8"), looks := true }, kinds := [], alts := [], laidByText := true, laidKinds := [.data, .data, .data, .data, .sentinel, .sentinel, .pinned], laidTests := true, laidLooks := .later }
def GraunkeSpecCardSaid : Prop := Claim7.holds Tryz.pinned (.plain (OpenSpec.ofChange graunkeSpecSpec)) graunkeSpecCard

/-- THE TIED CARD OF 'ropelinelaw20.ClhTrySpec'. -/
def clhTrySpecCard : Claim7 := { stood := { row := clhTrySpecRow, standIns := [], harness := (true, "d3333238d8bb804b7549f7178b0a287f936214609320a526e6587ae1dfff1fa8"), looks := true }, kinds := [], alts := [], laidByText := true, laidKinds := [.data, .data, .data, .data, .sentinel, .sentinel, .pinned], laidTests := true, laidLooks := .later }
def ClhTrySpecCardSaid : Prop := Claim7.holds Tryz.pinned (.plain (OpenSpec.ofChange clhTrySpecSpec)) clhTrySpecCard

/-- THE TIED CARD OF 'ropelinelaw17.ClhSpec'. -/
def clhSpecCard : Claim7 := { stood := { row := clhSpecRow, standIns := [], harness := (true, "d3333238d8bb804b7549f7178b0a287f936214609320a526e6587ae1dfff1fa8"), looks := true }, kinds := [], alts := [], laidByText := true, laidKinds := [.data, .data, .data, .data, .sentinel, .sentinel, .pinned], laidTests := true, laidLooks := .later }
def ClhSpecCardSaid : Prop := Claim7.holds Tryz.pinned (.plain (OpenSpec.ofChange clhSpecSpec)) clhSpecCard

/-- THE TIED CARD OF 'ropelinelaw07.AsmAssembles'. -/
def asmAssemblesCard : Claim7 := { stood := { row := asmAssemblesRow, standIns := [], harness := (true, "d3333238d8bb804b7549f7178b0a287f936214609320a526e6587ae1dfff1fa8"), looks := true }, kinds := [], alts := [], laidByText := true, laidKinds := [.data, .data, .data, .data, .sentinel, .sentinel, .pinned], laidTests := true, laidLooks := .later }
def AsmAssemblesCardSaid : Prop := Claim7.holds Tryz.pinned (.plain (OpenSpec.ofChange asmAssemblesSpec)) asmAssemblesCard

/-- THE TIED CARD OF 'ropelinelaw15.AndersonSpec'. -/
def andersonSpecCard : Claim7 := { stood := { row := andersonSpecRow, standIns := [], harness := (true, "d3333238d8bb804b7549f7178b0a287f936214609320a526e6587ae1dfff1fa8"), looks := true }, kinds := [], alts := [], laidByText := true, laidKinds := [.data, .data, .data, .data, .sentinel, .sentinel, .pinned], laidTests := true, laidLooks := .later }
def AndersonSpecCardSaid : Prop := Claim7.holds Tryz.pinned (.plain (OpenSpec.ofChange andersonSpecSpec)) andersonSpecCard

/-- THE TIED CARD OF 'ropelinelaw07.AsmPrints'. -/
def asmPrintsCard : Claim7 := { stood := { row := asmPrintsRow, standIns := [], harness := (true, "d3333238d8bb804b7549f7178b0a287f936214609320a526e6587ae1dfff1fa8"), looks := true }, kinds := [], alts := [], laidByText := true, laidKinds := [.data, .data, .data, .data, .sentinel, .sentinel, .pinned], laidTests := true, laidLooks := .later }
def AsmPrintsCardSaid : Prop := Claim7.holds Tryz.pinned (.plain (OpenSpec.ofChange asmPrintsSpec)) asmPrintsCard

/-- THE SECOND FORM's CARD OF 'ropelinelaw14.TicketSpec'. -/
def ticketSpecUptoCard : Claim7 := { stood := { row := ticketSpecUptoRow, standIns := [], harness := (true, "d3333238d8bb804b7549f7178b0a287f936214609320a526e6587ae1dfff1fa8"), looks := true }, kinds := [], alts := [], laidByText := true, laidKinds := [.data, .data, .data, .data, .sentinel, .sentinel, .pinned], laidTests := true, laidLooks := .later }
def TicketSpecUptoCardSaid : Prop := Claim7.holds Tryz.pinned (.plain (OpenSpec.upto ticketSpecSpec)) ticketSpecUptoCard

/-- THE SECOND FORM's CARD OF 'ropelinelaw18.McsSpec'. -/
def mcsSpecUptoCard : Claim7 := { stood := { row := mcsSpecUptoRow, standIns := [], harness := (true, "d3333238d8bb804b7549f7178b0a287f936214609320a526e6587ae1dfff1fa8"), looks := true }, kinds := [], alts := [], laidByText := true, laidKinds := [.data, .data, .data, .data, .sentinel, .sentinel, .pinned], laidTests := true, laidLooks := .later }
def McsSpecUptoCardSaid : Prop := Claim7.holds Tryz.pinned (.plain (OpenSpec.upto mcsSpecSpec)) mcsSpecUptoCard

/-- THE SECOND FORM's CARD OF 'ropelinelaw19.K42Spec'. -/
def k42SpecUptoCard : Claim7 := { stood := { row := k42SpecUptoRow, standIns := [], harness := (true, "d3333238d8bb804b7549f7178b0a287f936214609320a526e6587ae1dfff1fa8"), looks := true }, kinds := [], alts := [], laidByText := true, laidKinds := [.data, .data, .data, .data, .sentinel, .sentinel, .pinned], laidTests := true, laidLooks := .later }
def K42SpecUptoCardSaid : Prop := Claim7.holds Tryz.pinned (.plain (OpenSpec.upto k42SpecSpec)) k42SpecUptoCard

/-- THE SECOND FORM's CARD OF 'ropelinelaw21.McsTrySpec'. -/
def mcsTrySpecUptoCard : Claim7 := { stood := { row := mcsTrySpecUptoRow, standIns := [], harness := (true, "d3333238d8bb804b7549f7178b0a287f936214609320a526e6587ae1dfff1fa8"), looks := true }, kinds := [], alts := [], laidByText := true, laidKinds := [.data, .data, .data, .data, .sentinel, .sentinel, .pinned], laidTests := true, laidLooks := .later }
def McsTrySpecUptoCardSaid : Prop := Claim7.holds Tryz.pinned (.plain (OpenSpec.upto mcsTrySpecSpec)) mcsTrySpecUptoCard

/-- THE SECOND FORM's CARD OF 'ropelinelaw16.GraunkeSpec'. -/
def graunkeSpecUptoCard : Claim7 := { stood := { row := graunkeSpecUptoRow, standIns := [], harness := (true, "d3333238d8bb804b7549f7178b0a287f936214609320a526e6587ae1dfff1fa8"), looks := true }, kinds := [], alts := [], laidByText := true, laidKinds := [.data, .data, .data, .data, .sentinel, .sentinel, .pinned], laidTests := true, laidLooks := .later }
def GraunkeSpecUptoCardSaid : Prop := Claim7.holds Tryz.pinned (.plain (OpenSpec.upto graunkeSpecSpec)) graunkeSpecUptoCard

/-- THE SECOND FORM's CARD OF 'ropelinelaw20.ClhTrySpec'. -/
def clhTrySpecUptoCard : Claim7 := { stood := { row := clhTrySpecUptoRow, standIns := [], harness := (true, "d3333238d8bb804b7549f7178b0a287f936214609320a526e6587ae1dfff1fa8"), looks := true }, kinds := [], alts := [], laidByText := true, laidKinds := [.data, .data, .data, .data, .sentinel, .sentinel, .pinned], laidTests := true, laidLooks := .later }
def ClhTrySpecUptoCardSaid : Prop := Claim7.holds Tryz.pinned (.plain (OpenSpec.upto clhTrySpecSpec)) clhTrySpecUptoCard

/-- THE SECOND FORM's CARD OF 'ropelinelaw17.ClhSpec'. -/
def clhSpecUptoCard : Claim7 := { stood := { row := clhSpecUptoRow, standIns := [], harness := (true, "d3333238d8bb804b7549f7178b0a287f936214609320a526e6587ae1dfff1fa8"), looks := true }, kinds := [], alts := [], laidByText := true, laidKinds := [.data, .data, .data, .data, .sentinel, .sentinel, .pinned], laidTests := true, laidLooks := .later }
def ClhSpecUptoCardSaid : Prop := Claim7.holds Tryz.pinned (.plain (OpenSpec.upto clhSpecSpec)) clhSpecUptoCard

/-- THE SECOND FORM's CARD OF 'ropelinelaw07.AsmAssembles'. -/
def asmAssemblesUptoCard : Claim7 := { stood := { row := asmAssemblesUptoRow, standIns := [], harness := (true, "d3333238d8bb804b7549f7178b0a287f936214609320a526e6587ae1dfff1fa8"), looks := true }, kinds := [], alts := [], laidByText := true, laidKinds := [.data, .data, .data, .data, .sentinel, .sentinel, .pinned], laidTests := true, laidLooks := .later }
def AsmAssemblesUptoCardSaid : Prop := Claim7.holds Tryz.pinned (.plain (OpenSpec.upto asmAssemblesSpec)) asmAssemblesUptoCard

/-- THE SECOND FORM's CARD OF 'ropelinelaw15.AndersonSpec'. -/
def andersonSpecUptoCard : Claim7 := { stood := { row := andersonSpecUptoRow, standIns := [], harness := (true, "d3333238d8bb804b7549f7178b0a287f936214609320a526e6587ae1dfff1fa8"), looks := true }, kinds := [], alts := [], laidByText := true, laidKinds := [.data, .data, .data, .data, .sentinel, .sentinel, .pinned], laidTests := true, laidLooks := .later }
def AndersonSpecUptoCardSaid : Prop := Claim7.holds Tryz.pinned (.plain (OpenSpec.upto andersonSpecSpec)) andersonSpecUptoCard

/-- THE SECOND FORM's CARD OF 'ropelinelaw07.AsmPrints'. -/
def asmPrintsUptoCard : Claim7 := { stood := { row := asmPrintsUptoRow, standIns := [], harness := (true, "d3333238d8bb804b7549f7178b0a287f936214609320a526e6587ae1dfff1fa8"), looks := true }, kinds := [], alts := [], laidByText := true, laidKinds := [.data, .data, .data, .data, .sentinel, .sentinel, .pinned], laidTests := true, laidLooks := .later }
def AsmPrintsUptoCardSaid : Prop := Claim7.holds Tryz.pinned (.plain (OpenSpec.upto asmPrintsSpec)) asmPrintsUptoCard
end Rows
end Go.Proofs.YtbodainpdjmjdaaGreatDoor

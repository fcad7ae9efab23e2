/-
  DERIVED. GIVEN WITH THE SEED: THE CARDS: each row of YtjjpiefgdggghaaGreatDoorRows.lean that lists a variable, with what it lists TIED to the program's text (the seventh form; the later family's looks); each row that meets fmt, with fmt's text TOLD by the authors' own Lean function (tested against real Go, not proved from fmt's source: count such statements apart). THE CARD IS WHAT COUNTS. Prove the row's statement (the work); the ties are given (YtjjpiefgdggghaaGreatDoorTie.lean); close each card by the builder's one call (the guide's Derived/Test/ToyasCard.lean, 'card_holds'). Laid BY PROGRAM, IN A SANDBOX (cutbox-door.mjs). By AI agents, Wed Nov 11 2026. No macro, syntax, notation, axiom, sorry.
-/
import Derived.Test.YtjjpiefgdggghaaGreatDoorRows
import GoSem.ClaimSeven
namespace Go.Proofs.YtjjpiefgdggghaaGreatDoor
namespace Rows

/-- THE TIED CARD OF 'ropelinelaw19.K42Rests'. -/
def k42RestsCard : Claim7 := { stood := { row := k42RestsRow, standIns := [], harness := (true, "e962f0a4a0681984c268f1939f8bfa4909aaffebb369d10beff4400b64fd8c01"), looks := true }, kinds := [], alts := [], laidByText := true, laidKinds := [.data, .data, .data, .data, .sentinel, .sentinel, .pinned], laidTests := true, laidLooks := .later }
def K42RestsCardSaid : Prop := Claim7.holds Tryz.pinned (.plain (OpenSpec.ofChange k42RestsSpec)) k42RestsCard

/-- THE TIED CARD OF 'ropelinelaw15.AndersonSpec'. -/
def andersonSpecCard : Claim7 := { stood := { row := andersonSpecRow, standIns := [], harness := (true, "e962f0a4a0681984c268f1939f8bfa4909aaffebb369d10beff4400b64fd8c01"), looks := true }, kinds := [], alts := [], laidByText := true, laidKinds := [.data, .data, .data, .data, .sentinel, .sentinel, .pinned], laidTests := true, laidLooks := .later }
def AndersonSpecCardSaid : Prop := Claim7.holds Tryz.pinned (.plain (OpenSpec.ofChange andersonSpecSpec)) andersonSpecCard

/-- THE TIED CARD OF 'ropelinelaw15.AndersonPlays'. -/
def andersonPlaysCard : Claim7 := { stood := { row := andersonPlaysRow, standIns := [], harness := (true, "e962f0a4a0681984c268f1939f8bfa4909aaffebb369d10beff4400b64fd8c01"), looks := true }, kinds := [], alts := [], laidByText := true, laidKinds := [.data, .data, .data, .data, .sentinel, .sentinel, .pinned], laidTests := true, laidLooks := .later }
def AndersonPlaysCardSaid : Prop := Claim7.holds Tryz.pinned (.plain (OpenSpec.ofChange andersonPlaysSpec)) andersonPlaysCard

/-- THE TIED CARD OF 'ropelinelaw15.AndersonTurns'. -/
def andersonTurnsCard : Claim7 := { stood := { row := andersonTurnsRow, standIns := [], harness := (true, "e962f0a4a0681984c268f1939f8bfa4909aaffebb369d10beff4400b64fd8c01"), looks := true }, kinds := [], alts := [], laidByText := true, laidKinds := [.data, .data, .data, .data, .sentinel, .sentinel, .pinned], laidTests := true, laidLooks := .later }
def AndersonTurnsCardSaid : Prop := Claim7.holds Tryz.pinned (.plain (OpenSpec.ofChange andersonTurnsSpec)) andersonTurnsCard

/-- THE TIED CARD OF 'ropelinelaw15.AndersonRests'. -/
def andersonRestsCard : Claim7 := { stood := { row := andersonRestsRow, standIns := [], harness := (true, "e962f0a4a0681984c268f1939f8bfa4909aaffebb369d10beff4400b64fd8c01"), looks := true }, kinds := [], alts := [], laidByText := true, laidKinds := [.data, .data, .data, .data, .sentinel, .sentinel, .pinned], laidTests := true, laidLooks := .later }
def AndersonRestsCardSaid : Prop := Claim7.holds Tryz.pinned (.plain (OpenSpec.ofChange andersonRestsSpec)) andersonRestsCard

/-- THE TIED CARD OF 'ropelinelaw22.QlockSpecs'. -/
def qlockSpecsCard : Claim7 := { stood := { row := qlockSpecsRow, standIns := [], harness := (true, "e962f0a4a0681984c268f1939f8bfa4909aaffebb369d10beff4400b64fd8c01"), looks := true }, kinds := [], alts := [], laidByText := true, laidKinds := [.data, .data, .data, .data, .sentinel, .sentinel, .widerDeep, .pinned], laidTests := true, laidLooks := .later }
def QlockSpecsCardSaid : Prop := Claim7.holds Tryz.pinned (.plain (OpenSpec.ofChange qlockSpecsSpec)) qlockSpecsCard

/-- THE TIED CARD OF 'ropelinelaw22.QlockRest'. -/
def qlockRestCard : Claim7 := { stood := { row := qlockRestRow, standIns := [], harness := (true, "e962f0a4a0681984c268f1939f8bfa4909aaffebb369d10beff4400b64fd8c01"), looks := true }, kinds := [], alts := [], laidByText := true, laidKinds := [.data, .data, .data, .data, .sentinel, .sentinel, .widerDeep, .pinned], laidTests := true, laidLooks := .later }
def QlockRestCardSaid : Prop := Claim7.holds Tryz.pinned (.plain (OpenSpec.ofChange qlockRestSpec)) qlockRestCard

/-- THE TIED CARD OF 'ropelinelaw22.QlockWords'. -/
def qlockWordsCard : Claim7 := { stood := { row := qlockWordsRow, standIns := [], harness := (true, "e962f0a4a0681984c268f1939f8bfa4909aaffebb369d10beff4400b64fd8c01"), looks := true }, kinds := [], alts := [], laidByText := true, laidKinds := [.data, .data, .data, .data, .sentinel, .sentinel, .widerDeep, .pinned], laidTests := true, laidLooks := .later }
def QlockWordsCardSaid : Prop := Claim7.holds Tryz.pinned (.plain (OpenSpec.ofChange qlockWordsSpec)) qlockWordsCard

/-- THE SECOND FORM's CARD OF 'ropelinelaw19.K42Rests'. -/
def k42RestsUptoCard : Claim7 := { stood := { row := k42RestsUptoRow, standIns := [], harness := (true, "e962f0a4a0681984c268f1939f8bfa4909aaffebb369d10beff4400b64fd8c01"), looks := true }, kinds := [], alts := [], laidByText := true, laidKinds := [.data, .data, .data, .data, .sentinel, .sentinel, .pinned], laidTests := true, laidLooks := .later }
def K42RestsUptoCardSaid : Prop := Claim7.holds Tryz.pinned (.plain (OpenSpec.upto k42RestsSpec)) k42RestsUptoCard

/-- THE SECOND FORM's CARD OF 'ropelinelaw15.AndersonSpec'. -/
def andersonSpecUptoCard : Claim7 := { stood := { row := andersonSpecUptoRow, standIns := [], harness := (true, "e962f0a4a0681984c268f1939f8bfa4909aaffebb369d10beff4400b64fd8c01"), looks := true }, kinds := [], alts := [], laidByText := true, laidKinds := [.data, .data, .data, .data, .sentinel, .sentinel, .pinned], laidTests := true, laidLooks := .later }
def AndersonSpecUptoCardSaid : Prop := Claim7.holds Tryz.pinned (.plain (OpenSpec.upto andersonSpecSpec)) andersonSpecUptoCard

/-- THE SECOND FORM's CARD OF 'ropelinelaw15.AndersonPlays'. -/
def andersonPlaysUptoCard : Claim7 := { stood := { row := andersonPlaysUptoRow, standIns := [], harness := (true, "e962f0a4a0681984c268f1939f8bfa4909aaffebb369d10beff4400b64fd8c01"), looks := true }, kinds := [], alts := [], laidByText := true, laidKinds := [.data, .data, .data, .data, .sentinel, .sentinel, .pinned], laidTests := true, laidLooks := .later }
def AndersonPlaysUptoCardSaid : Prop := Claim7.holds Tryz.pinned (.plain (OpenSpec.upto andersonPlaysSpec)) andersonPlaysUptoCard

/-- THE SECOND FORM's CARD OF 'ropelinelaw15.AndersonTurns'. -/
def andersonTurnsUptoCard : Claim7 := { stood := { row := andersonTurnsUptoRow, standIns := [], harness := (true, "e962f0a4a0681984c268f1939f8bfa4909aaffebb369d10beff4400b64fd8c01"), looks := true }, kinds := [], alts := [], laidByText := true, laidKinds := [.data, .data, .data, .data, .sentinel, .sentinel, .pinned], laidTests := true, laidLooks := .later }
def AndersonTurnsUptoCardSaid : Prop := Claim7.holds Tryz.pinned (.plain (OpenSpec.upto andersonTurnsSpec)) andersonTurnsUptoCard

/-- THE SECOND FORM's CARD OF 'ropelinelaw15.AndersonRests'. -/
def andersonRestsUptoCard : Claim7 := { stood := { row := andersonRestsUptoRow, standIns := [], harness := (true, "e962f0a4a0681984c268f1939f8bfa4909aaffebb369d10beff4400b64fd8c01"), looks := true }, kinds := [], alts := [], laidByText := true, laidKinds := [.data, .data, .data, .data, .sentinel, .sentinel, .pinned], laidTests := true, laidLooks := .later }
def AndersonRestsUptoCardSaid : Prop := Claim7.holds Tryz.pinned (.plain (OpenSpec.upto andersonRestsSpec)) andersonRestsUptoCard

/-- THE SECOND FORM's CARD OF 'ropelinelaw22.QlockSpecs'. -/
def qlockSpecsUptoCard : Claim7 := { stood := { row := qlockSpecsUptoRow, standIns := [], harness := (true, "e962f0a4a0681984c268f1939f8bfa4909aaffebb369d10beff4400b64fd8c01"), looks := true }, kinds := [], alts := [], laidByText := true, laidKinds := [.data, .data, .data, .data, .sentinel, .sentinel, .widerDeep, .pinned], laidTests := true, laidLooks := .later }
def QlockSpecsUptoCardSaid : Prop := Claim7.holds Tryz.pinned (.plain (OpenSpec.upto qlockSpecsSpec)) qlockSpecsUptoCard

/-- THE SECOND FORM's CARD OF 'ropelinelaw22.QlockRest'. -/
def qlockRestUptoCard : Claim7 := { stood := { row := qlockRestUptoRow, standIns := [], harness := (true, "e962f0a4a0681984c268f1939f8bfa4909aaffebb369d10beff4400b64fd8c01"), looks := true }, kinds := [], alts := [], laidByText := true, laidKinds := [.data, .data, .data, .data, .sentinel, .sentinel, .widerDeep, .pinned], laidTests := true, laidLooks := .later }
def QlockRestUptoCardSaid : Prop := Claim7.holds Tryz.pinned (.plain (OpenSpec.upto qlockRestSpec)) qlockRestUptoCard

/-- THE SECOND FORM's CARD OF 'ropelinelaw22.QlockWords'. -/
def qlockWordsUptoCard : Claim7 := { stood := { row := qlockWordsUptoRow, standIns := [], harness := (true, "e962f0a4a0681984c268f1939f8bfa4909aaffebb369d10beff4400b64fd8c01"), looks := true }, kinds := [], alts := [], laidByText := true, laidKinds := [.data, .data, .data, .data, .sentinel, .sentinel, .widerDeep, .pinned], laidTests := true, laidLooks := .later }
def QlockWordsUptoCardSaid : Prop := Claim7.holds Tryz.pinned (.plain (OpenSpec.upto qlockWordsSpec)) qlockWordsUptoCard
end Rows
end Go.Proofs.YtjjpiefgdggghaaGreatDoor

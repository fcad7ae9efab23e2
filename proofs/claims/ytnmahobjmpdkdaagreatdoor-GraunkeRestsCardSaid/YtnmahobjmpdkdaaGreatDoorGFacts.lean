/- The closed facts of a row that speak of the program alone. -/
import Derived.Test.YtnmahobjmpdkdaaGreatDoorG31
set_option linter.unusedVariables false
set_option linter.unusedSimpArgs false
set_option maxRecDepth 100000
set_option maxHeartbeats 40000000
namespace Go.Proofs.YtnmahobjmpdkdaaGreatDoor
section
open Go Go.ChangeShapes Go.WideShapes Go.ChangeAt Go.RowKit
theorem Fe:laidOutB Tryz.pinned.checked.prog=true:=by kernel_rfl
theorem Ff:mapsRowed Tryz.pinned.checked.prog=true:=by kernel_rfl
theorem DV:(Tryz.pinned.checked.prog.stops==[])=true:=by kernel_rfl
theorem DW:(Tryz.pinned.checked.prog.stopKnobs==[])=true:=by kernel_rfl
theorem DX:Tryz.pinned.checked.prog.stopsHeard=true:=by kernel_rfl
theorem DY:Tryz.pinned.checked.prog.mayEnter=true:=by kernel_rfl
theorem Fh:(Rows.ticketPlaysRow.lifted==Tryz.pinned.checked.prog.liftsFinal)=true:=by kernel_rfl
theorem Fi:(Tryz.pinned.checked.prog.make==some Rows.ticketPlaysRow.make)=true:=by kernel_rfl
theorem Fg:(Rows.ticketPlaysRow.plainKeys==Tryz.pinned.checked.prog.plainKeys)=true:=by kernel_rfl
end
end Go.Proofs.YtnmahobjmpdkdaaGreatDoor

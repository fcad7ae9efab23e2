/- The closed facts of a row that speak of the program alone. -/
import Derived.Test.YtnmahobjmpdkdaaGreatDoorQ04
set_option linter.unusedVariables false
set_option linter.unusedSimpArgs false
set_option maxRecDepth 100000
set_option maxHeartbeats 40000000
namespace Go.Proofs.YtnmahobjmpdkdaaGreatDoor
section
open Go Go.ChangeShapes Go.WideShapes Go.ChangeAt Go.RowKit
theorem Gs:laidOutB Tryz.pinned.checked.prog=true:=by kernel_rfl
theorem Gt:mapsRowed Tryz.pinned.checked.prog=true:=by kernel_rfl
theorem E3:(Tryz.pinned.checked.prog.stops==[])=true:=by kernel_rfl
theorem E4:(Tryz.pinned.checked.prog.stopKnobs==[])=true:=by kernel_rfl
theorem E5:Tryz.pinned.checked.prog.stopsHeard=true:=by kernel_rfl
theorem E6:Tryz.pinned.checked.prog.mayEnter=true:=by kernel_rfl
theorem Gv:(Rows.ticketPlaysRow.lifted==Tryz.pinned.checked.prog.liftsFinal)=true:=by kernel_rfl
theorem Gw:(Tryz.pinned.checked.prog.make==some Rows.ticketPlaysRow.make)=true:=by kernel_rfl
theorem Gu:(Rows.ticketPlaysRow.plainKeys==Tryz.pinned.checked.prog.plainKeys)=true:=by kernel_rfl
end
end Go.Proofs.YtnmahobjmpdkdaaGreatDoor

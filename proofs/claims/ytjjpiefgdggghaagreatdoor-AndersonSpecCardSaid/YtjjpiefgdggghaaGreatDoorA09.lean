/- Parts: Facts. -/
import Derived.Test.YtjjpiefgdggghaaGreatDoorA08
set_option linter.unusedVariables false
set_option linter.unusedSimpArgs false
set_option maxRecDepth 100000
set_option maxHeartbeats 40000000
namespace Go.Proofs.YtjjpiefgdggghaaGreatDoor
section
open Go Go.ChangeShapes Go.WideShapes Go.ChangeAt Go.RowKit
theorem Ow:laidOutB Tryz.pinned.checked.prog=true:=by kernel_rfl
theorem Ox:mapsRowed Tryz.pinned.checked.prog=true:=by kernel_rfl
theorem Lf:(Tryz.pinned.checked.prog.stops==[])=true:=by kernel_rfl
theorem Lg:(Tryz.pinned.checked.prog.stopKnobs==[])=true:=by kernel_rfl
theorem Lh:Tryz.pinned.checked.prog.stopsHeard=true:=by kernel_rfl
theorem Li:Tryz.pinned.checked.prog.mayEnter=true:=by kernel_rfl
theorem Oz:(Rows.k42RestsRow.lifted==Tryz.pinned.checked.prog.liftsFinal)=true:=by kernel_rfl
theorem O0:(Tryz.pinned.checked.prog.make==some Rows.k42RestsRow.make)=true:=by kernel_rfl
theorem Oy:(Rows.k42RestsRow.plainKeys==Tryz.pinned.checked.prog.plainKeys)=true:=by kernel_rfl
end
end Go.Proofs.YtjjpiefgdggghaaGreatDoor

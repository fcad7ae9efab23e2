/- The document's spec, of what the program's assembler makes of the text. -/
import Derived.Test.YtjjpiefgdggghaaGreatDoorA40
import Derived.Test.YtjjpiefgdggghaaGreatDoorA39
set_option linter.unusedVariables false
set_option linter.unusedSimpArgs false
set_option maxRecDepth 100000
set_option maxHeartbeats 40000000
namespace Go.Proofs.YtjjpiefgdggghaaGreatDoor
section
open Go.RowKit Go.Proofs.YtjjpiefgdggghaaGreatDoorW.PrintWords
theorem Tv{M:Nat}(h:FB M):Cx (Dn M)=BW (Dn M):=by
 rcases h with rfl |rfl |rfl |rfl |rfl |rfl |rfl<;>decide +kernel
def OG(w:World)(T:List UInt8)(ss is rs:List Int)(each:Int)(e:Ending)(W:World):Prop :=
 ∃ va vs vi vr:Value,e=.returned (.tuple #[.agg #[va,.int .i64 (BW T).1.lock,.int .i64 (BW T).1.unlock,vs,vi,.int .i64 each,vr],.bool true]) ∧
  BA W w.heap.size va (BW T).1.l∧HRow W vs 3 (ss.map (Value.int .i64))∧HRow W vi 45 (is.map (Value.int .u32))∧HRow W vr 45 (rs.map (Value.int .u32))∧Below w.heap.size w W
theorem Iy.WW{w:World}{T:List UInt8}{ss is rs:List Int}{each:Int}{e:Ending}{W:World}(h:Iy w T ss is rs each e W)(ht:Cx T=BW T):OG w T ss is rs each e W:=by
 unfold Iy at h;rw[ht]at h;exact h
end
end Go.Proofs.YtjjpiefgdggghaaGreatDoor

/- What the walks ask of package-level variables, and that it stays while a call makes memory alone. -/
import Derived.Test.YtfbblligbacppaaDoorKit2
import Derived.Test.YtfbblligbacppaaDoorShelf
namespace Go.Proofs.YtfbblligbacppaaDoor
open Go.RowKit Go.Proofs.YtfbblligbacppaaDoorW.PrintWords

structure Env (w : World) : Prop where
  shaped : w.ShapedOpen Tryd.prog
  tab : Lib.TabIs Tryd.prog w "internal/strconv.uint64pow10" .u64 Lib.pow10Tab
  syn : ∃ tp p, w.var? Tryd.prog "strconv.ErrSyntax" = some #[.iface tp p]
  rng : ∃ tp p, w.var? Tryd.prog "strconv.ErrRange" = some #[.iface tp p]

theorem var_keep {P : Program} {w w' : World} {n : String} {cs : Array Value} (hb : Below w.heap.size w w') (h : w.var? P n = some cs) : w'.var? P n = some cs := by
  unfold World.var? at h ⊢
  cases hg : P.globalNamed n with
  | none => rw [hg] at h; cases h
  | some g =>
    rw [hg] at h
    simp only [Option.bind_some] at h ⊢
    have hlt : g < w.heap.size := by
      cases hh : w.heap[g]? with
      | none => rw [hh] at h; cases h
      | some o => exact blk_lt hh
    rw [hb.block g hlt]
    exact h
theorem Env.below {w w' : World} (h : Env w) (hb : Below w.heap.size w w') : Env w' :=
  ⟨h.shaped.keptBut (hb.frame (fun _ => False)) (fun _ x => x.elim), var_keep hb h.tab, h.syn.imp fun _ x => x.imp fun _ y => var_keep hb y, h.rng.imp fun _ x => x.imp fun _ y => var_keep hb y⟩
end Go.Proofs.YtfbblligbacppaaDoor

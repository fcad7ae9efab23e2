/- A document's instruction in a cell block of its own. -/
import Derived.Test.YtbkbkikbfbmbdaaDoorDigits
import Derived.Test.YtbkbkikbfbmbdaaDoorRefName
import Derived.Test.YtbkbkikbfbmbdaaDoorRight
import Derived.Test.YtbkbkikbfbmbdaaDoorPlain
import Derived.Deep.RegionHeld3
namespace Go.Proofs.YtbkbkikbfbmbdaaDoor
open Go.RowKit Go.Proofs.YtbkbkikbfbmbdaaDoorW.PrintWords
set_option linter.unusedVariables false
set_option linter.unusedSimpArgs false

theorem rbox_cells {w W : World} {op d s t u a k q : Int} (h : W.heap[w.heap.size]? = some (.cells (In.cs ⟨op, d, s, t, u, a, k, q⟩) 27 (0, 0)) ∧ Below w.heap.size w W) :
    Aside0 (W.heap[w.heap.size]? = some (.cells (In.cs ⟨op, d, s, t, u, a, k, q⟩) 27 (0, 0)) ∧ Below w.heap.size w W) ∧ W.cell? ⟨w.heap.size, 0, none⟩ = some (.int .i64 op) ∧ W.cell? ⟨w.heap.size, 1, none⟩ = some (.int .i64 d) ∧ W.cell? ⟨w.heap.size, 2, none⟩ = some (.int .i64 s) ∧ W.cell? ⟨w.heap.size, 3, none⟩ = some (.int .i64 t) ∧ W.cell? ⟨w.heap.size, 4, none⟩ = some (.int .i64 u) ∧ W.cell? ⟨w.heap.size, 5, none⟩ = some (.int .i64 a) ∧ W.cell? ⟨w.heap.size, 6, none⟩ = some (.int .u32 k) ∧ W.cell? ⟨w.heap.size, 7, none⟩ = some (.int .i64 q) :=
  ⟨⟨h⟩, (blk_cell h.1 0).trans rfl, (blk_cell h.1 1).trans rfl, (blk_cell h.1 2).trans rfl, (blk_cell h.1 3).trans rfl, (blk_cell h.1 4).trans rfl, (blk_cell h.1 5).trans rfl, (blk_cell h.1 6).trans rfl, (blk_cell h.1 7).trans rfl⟩
theorem rbox_next {w W W1 : World} {op d s t u a k q : Int} (hb : Below W.heap.size W W1) (h : Aside0 (W.heap[w.heap.size]? = some (.cells (In.cs ⟨op, d, s, t, u, a, k, q⟩) 27 (0, 0)) ∧ Below w.heap.size w W) ∧ W.cell? ⟨w.heap.size, 0, none⟩ = some (.int .i64 op) ∧ W.cell? ⟨w.heap.size, 1, none⟩ = some (.int .i64 d) ∧ W.cell? ⟨w.heap.size, 2, none⟩ = some (.int .i64 s) ∧ W.cell? ⟨w.heap.size, 3, none⟩ = some (.int .i64 t) ∧ W.cell? ⟨w.heap.size, 4, none⟩ = some (.int .i64 u) ∧ W.cell? ⟨w.heap.size, 5, none⟩ = some (.int .i64 a) ∧ W.cell? ⟨w.heap.size, 6, none⟩ = some (.int .u32 k) ∧ W.cell? ⟨w.heap.size, 7, none⟩ = some (.int .i64 q)) :
    Aside0 (W1.heap[w.heap.size]? = some (.cells (In.cs ⟨op, d, s, t, u, a, k, q⟩) 27 (0, 0)) ∧ Below w.heap.size w W1) ∧ W1.cell? ⟨w.heap.size, 0, none⟩ = some (.int .i64 op) ∧ W1.cell? ⟨w.heap.size, 1, none⟩ = some (.int .i64 d) ∧ W1.cell? ⟨w.heap.size, 2, none⟩ = some (.int .i64 s) ∧ W1.cell? ⟨w.heap.size, 3, none⟩ = some (.int .i64 t) ∧ W1.cell? ⟨w.heap.size, 4, none⟩ = some (.int .i64 u) ∧ W1.cell? ⟨w.heap.size, 5, none⟩ = some (.int .i64 a) ∧ W1.cell? ⟨w.heap.size, 6, none⟩ = some (.int .u32 k) ∧ W1.cell? ⟨w.heap.size, 7, none⟩ = some (.int .i64 q) := rbox_cells ⟨blk_keep hb h.1.out.1, h.1.out.2.trans (hb.mono h.1.out.2.size)⟩
theorem sp_mk : (⟨#[32]⟩ : ByteArray) = ⟨[32].toArray⟩ := rfl
theorem rbox_below {w W : World} {op d s t u a k q : Int} (h : Aside0 (W.heap[w.heap.size]? = some (.cells (In.cs ⟨op, d, s, t, u, a, k, q⟩) 27 (0, 0)) ∧ Below w.heap.size w W) ∧ W.cell? ⟨w.heap.size, 0, none⟩ = some (.int .i64 op) ∧ W.cell? ⟨w.heap.size, 1, none⟩ = some (.int .i64 d) ∧ W.cell? ⟨w.heap.size, 2, none⟩ = some (.int .i64 s) ∧ W.cell? ⟨w.heap.size, 3, none⟩ = some (.int .i64 t) ∧ W.cell? ⟨w.heap.size, 4, none⟩ = some (.int .i64 u) ∧ W.cell? ⟨w.heap.size, 5, none⟩ = some (.int .i64 a) ∧ W.cell? ⟨w.heap.size, 6, none⟩ = some (.int .u32 k) ∧ W.cell? ⟨w.heap.size, 7, none⟩ = some (.int .i64 q)) : Below w.heap.size w W := h.1.out.2
end Go.Proofs.YtbkbkikbfbmbdaaDoor

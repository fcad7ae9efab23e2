/- Small words for walks: blocks that the call itself has made, kept over calls that only make memory. -/
import Derived.Test.YtfbblligbacppaaDoorProg
import Derived.WalkKit
import Derived.Below
import Derived.Outline
import Derived.WalkLawsBesides
import Derived.Test.YtfbblligbacppaaDoorWWords
import Derived.Lib.Hide
namespace Go.Proofs.YtfbblligbacppaaDoor
open Go.RowKit Go.Proofs.YtfbblligbacppaaDoorW.PrintWords

theorem blk_new (w : World) (o : Obj) : (w.alloc o).heap[w.heap.size]? = some o := (MapKept.heap_alloc w o).1
theorem blk_old {w : World} {g : Nat} {x : Obj} (h : w.heap[g]? = some x) (o : Obj) : (w.alloc o).heap[g]? = some x := (Below.heap_alloc _ _ _ (blk_lt h)).trans h
theorem blk_keep {w w' : World} {g : Nat} {x : Obj} (hb : Below w.heap.size w w') (h : w.heap[g]? = some x) : w'.heap[g]? = some x := (hb.block _ (blk_lt h)).trans h
theorem blk_drew {w : World} {g : Nat} {x : Obj} (h : w.heap[g]? = some x) : w.drew.heap[g]? = some x := h
theorem blk_drewN {w : World} {g : Nat} {x : Obj} (h : w.heap[g]? = some x) (n : Nat) : (w.drewN n).heap[g]? = some x := h
theorem reads_byte {w : World} {g : Nat} {l : List UInt8} (h : ReadsInt w .u8 (some ⟨g, 0, none⟩) l.length (bytesOf ⟨l.toArray⟩)) (k : Nat) (hk : k < l.length) :
    w.cell? ⟨g, k, none⟩ = some (.int .u8 ((l.getD k 0).toNat : Int)) := by
  obtain ⟨ad, e, hc⟩ := h.2.2 (by omega)
  cases e
  have := hc k hk
  rw [add_plain] at this
  rw [this]
  simp [bytesOf, List.getD_eq_getElem?_getD, List.getElem?_eq_getElem hk]
end Go.Proofs.YtfbblligbacppaaDoor

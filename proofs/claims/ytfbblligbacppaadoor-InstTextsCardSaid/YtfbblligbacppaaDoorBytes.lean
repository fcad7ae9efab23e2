/- []byte(s), block by block; an owned row lies in another block than what has another type. -/
import Derived.Test.YtfbblligbacppaaDoorStr
namespace Go.Proofs.YtfbblligbacppaaDoor
open Go.RowKit Go.Proofs.YtfbblligbacppaaDoorW.PrintWords

/-- Block g holds the bytes l, by the type e. -/
def BytesAt (w : World) (g : Nat) (e : TypeId) (l : List UInt8) : Prop :=
  ∃ cs fr, w.heap[g]? = some (.cells cs e fr) ∧ ∀ j, j < l.length → w.cell? ⟨g, j, none⟩ = some (.int .u8 ((l.getD j 0).toNat : Int))

theorem bytesWorld_blk (W : World) (e : TypeId) (s : ByteArray) : ∃ cs fr, (Lib.bytesWorld W e s).heap[W.heap.size]? = some (.cells cs e fr) := by
  unfold Lib.bytesWorld World.freeze
  have h : (W.drew.alloc (.cells (Lib.bytesCells W e s) e)).heap[W.heap.size]? = some (.cells (Lib.bytesCells W e s) e) := (MapKept.heap_alloc W.drew (.cells (Lib.bytesCells W e s) e)).1
  simp only [Nat.one_ne_zero, if_false, Array.getElem?_modify, if_true, h, Option.map_some]
  exact ⟨_, _, rfl⟩
theorem BytesAt.new (W : World) (e : TypeId) (l : List UInt8) (g : Nat) (hg : W.heap.size = g) (hs : l.length ≤ 9223372036854775807) : BytesAt (Lib.bytesWorld W e ⟨l.toArray⟩) g e l := by
  obtain ⟨cs, fr, h⟩ := bytesWorld_blk W e ⟨l.toArray⟩
  refine ⟨cs, fr, by rw [← hg]; exact h, fun j hj => ?_⟩
  exact reads_byte (bytes_reads' W e l g hg hs) j hj
theorem BytesAt.of_blk {w w' : World} {g : Nat} {e : TypeId} {l : List UInt8} (h : BytesAt w g e l) (hk : w'.heap[g]? = w.heap[g]?) : BytesAt w' g e l := by
  obtain ⟨cs, fr, h1, h2⟩ := h
  exact ⟨cs, fr, hk.trans h1, fun j hj => (World.cell?_of_block (w := w) (a := ⟨g, j, none⟩) hk).trans (h2 j hj)⟩
theorem BytesAt.lt {w : World} {g : Nat} {e : TypeId} {l : List UInt8} (h : BytesAt w g e l) : g < w.heap.size := by
  obtain ⟨cs, fr, h1, _⟩ := h
  exact blk_lt h1
theorem BytesAt.keep {w w' : World} {g : Nat} {e : TypeId} {l : List UInt8} (h : BytesAt w g e l) (hb : Below w.heap.size w w') : BytesAt w' g e l :=
  h.of_blk (hb.block g h.lt)
theorem BytesAt.grown {w w' : World} {g : Nat} {e : TypeId} {l : List UInt8} {row : Option Nat} (h : BytesAt w g e l) (hg : w.grownBy w' row) (hne : some g ≠ row) : BytesAt w' g e l :=
  h.of_blk (hg.block g h.lt hne)
theorem BytesAt.set {w : World} {g : Nat} {e : TypeId} {l : List UInt8} (h : BytesAt w g e l) {p : Addr} (hp : g ≠ p.block) (v : Value) : BytesAt (w.setCell p v) g e l :=
  h.of_blk (Below.heap_setCell w p v g hp)
/-- An owned row's block is not a block of another type. -/
theorem own_apart {w : World} {base : Nat} {e t : TypeId} {size n g : Nat} {v : Value} {xs : List Value} {cs : Array Value} {fr : Nat × Nat} (h : w.ownsRow base e size v n xs) (hg : w.heap[g]? = some (.cells cs t fr)) (hne : e ≠ t) : some g ≠ v.ownBlock := by
  intro he
  obtain ⟨_, h⟩ := h
  rcases h with ⟨rfl, _⟩ | ⟨g', cap, cur, rfl, _, hh, _⟩
  · cases he
  · have : g = g' := by simpa [Value.ownBlock] using he
    subst this
    rw [hg] at hh
    cases hh
    exact hne rfl
theorem BytesAt.own {w : World} {base : Nat} {e t : TypeId} {size n g : Nat} {v : Value} {xs : List Value} {l : List UInt8} (hb : BytesAt w g t l) (h : w.ownsRow base e size v n xs) (hne : e ≠ t) : some g ≠ v.ownBlock := by
  obtain ⟨cs, fr, h1, _⟩ := hb
  exact own_apart h h1 hne
end Go.Proofs.YtfbblligbacppaaDoor

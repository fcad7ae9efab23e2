/- More small words for walks. -/
import Derived.Test.YtfbblligbacppaaDoorKit
import Derived.Laws.ResultCell
import Derived.Laws.Rows
namespace Go.Proofs.YtfbblligbacppaaDoor
open Go.RowKit Go.Proofs.YtfbblligbacppaaDoorW.PrintWords

theorem blk_new2 (w : World) (o o' : Obj) : ((w.alloc o).alloc o').heap[w.heap.size + 1]? = some o' := by
  have h := blk_new (w.alloc o) o'
  have e : (w.alloc o).heap.size = w.heap.size + 1 := by simp
  rw [e] at h
  exact h
theorem bytes_reads' (W : World) (e : TypeId) (l : List UInt8) (g : Nat) (hg : W.heap.size = g) (hs : l.length ≤ 9223372036854775807) :
    ReadsInt (Lib.bytesWorld W e ⟨l.toArray⟩) .u8 (some ⟨g, 0, none⟩) l.length (bytesOf ⟨l.toArray⟩) := by
  subst hg
  have h := bytes_reads W e ⟨l.toArray⟩ (by simpa [ByteArray.size] using hs)
  simpa [ByteArray.size] using h
theorem blk_bytes {W : World} {g : Nat} {x : Obj} (h : W.heap[g]? = some x) (e : TypeId) (s : ByteArray) : (Lib.bytesWorld W e s).heap[g]? = some x :=
  (Lib.bytesWorld_at_old W e s g (blk_lt h)).trans h
theorem reads_far {w : World} {k : IntKind} {g n : Nat} {xs : List Int} (h : ReadsInt w k (some ⟨g, 0, none⟩) n xs) {p : Addr} (hp : p.block ≠ g) (v : Value) : ReadsInt (w.setCell p v) k (some ⟨g, 0, none⟩) n xs :=
  ⟨h.1, h.2.1, fun hn => by
    obtain ⟨ad, e, hc⟩ := h.2.2 hn
    refine ⟨ad, e, fun j hj => ?_⟩
    cases e
    have := hc j hj
    rw [add_plain] at this ⊢
    rw [← this]
    exact World.cell?_of_block (w := w) (a := ⟨g, j, none⟩) (Below.heap_setCell w p v g (fun e => hp e.symm))⟩
theorem results_row_tmp {P : Program} {fn : Func} {p u : Tmp} {ty : TypeId} (h : fn.results = #[.cell p ty, .tmp u]) (tmps : Array Value) (w : World) (g : Nat) (t : TypeId) (cs : Array Value) (fr : Nat × Nat) (d : TypeDesc)
    (hp : tmps.getD p undef = .pointer (some ⟨g, 0, none⟩)) (hg : w.heap[g]? = some (.cells cs t fr))
    (hu : P.underlying ty = some d) (hd : (match d with | .struct _ | .array _ _ => true | _ => false) = true) (hi : (P.info? ty).map (·.size) = some cs.size) :
    (results fn tmps).run P w = .ok (.tuple #[.agg cs, tmps.getD u undef]) w := by
  have hp' : tmps[p]?.getD undef = .pointer (some ⟨g, 0, none⟩) := by simpa using hp
  rw [results_cell_tmp h]
  simp [hp', asAddr, run_loadVar_row w g t ty cs fr d hg hu hd hi, Result.andThen]
end Go.Proofs.YtfbblligbacppaaDoor

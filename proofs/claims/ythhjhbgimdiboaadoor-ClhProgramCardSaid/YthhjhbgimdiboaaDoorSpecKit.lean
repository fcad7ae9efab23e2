/- Specs of locks: what a Spec returns; the steps that make a spec. The Program laws: what is alike in all of them. -/
import Derived.Test.YthhjhbgimdiboaaDoorRef7
import Derived.Deep.RegionHeld3
namespace Go.Proofs.YthhjhbgimdiboaaDoor
open Go.RowKit Go.Proofs.YthhjhbgimdiboaaDoorW.PrintWords
set_option linter.unusedVariables false
set_option linter.unusedSimpArgs false

/-- A spec of the program T, R7 of rn words. -/
def SpecIs (w : World) (T : List UInt8) (rn : Nat) (e : Ending) (W : World) : Prop :=
  ∃ (va : Value) (B C D : Option Addr) (n1 n2 k1 k2 k3 : Nat) (each : Int), e = .returned (.tuple #[.agg #[va, .int .i64 (asmF T).1.lock, .int .i64 (asmF T).1.unlock, .slice B n1 k1, .slice C n2 k2, .int .i64 each, .slice D rn k3], .int .i64 0]) ∧
    InRow W w.heap.size va (asmF T).1.l ∧ Below w.heap.size w W
def SpecNo (w : World) (e : Ending) (W : World) : Prop :=
  e = .returned (.tuple #[.agg #[.slice none 0 0, .int .i64 0, .int .i64 0, .slice none 0 0, .slice none 0 0, .int .i64 0, .slice none 0 0], .int .i64 5]) ∧ Below w.heap.size w W

theorem info_u32 : (Tryd.prog.info? 30).map (fun i => (i.zero, i.size, i.bytes)) = some (some (.int .u32 0), 1, 4) := by kernel_rfl
/-- A row of k zero words is made. -/
theorem mk_u32 (k : Nat) (hk : k ≤ 1000000) : ∃ cs : Array Value, cs.size = k ∧ (∀ j, j < k → cs[j]? = some (.int .u32 0)) ∧
    ∀ W, (Instr.makeSlice 34 (.int .i64 (k : Int)) (.int .i64 (k : Int))).run Tryd.prog W = .ok (.slice (some ⟨W.heap.size, 0, none⟩) k k) (W.alloc (.cells cs 30)) := by
  obtain ⟨i9, hi, hz0, hz1, hz2⟩ := info_parts info_u32
  refine ⟨madeCells (Value.int .u32 0).cells (k * 1), by rw [size_madeCells, Nat.mul_one], fun j hj => ?_, fun W => ?_⟩
  · simp [madeCells, Value.cells, hj, Nat.mod_one]
  · have := run_makeSlice (P := Tryd.prog) W 34 30 i9 (.int .u32 0) Tryd.underlying34 hi hz0 .i64 .i64 (k : Int) (k : Int) (by omega) (Int.le_refl _) (by rw [hz1]; simp; omega) (by rw [hz2]; omega) (by omega)
    rw [hz1] at this
    simpa using this
/-- The spec's box p is filled but for its program; the result's box is zero. -/
structure SpB (w W : World) (N p : Nat) (B C D : Option Addr) (n1 n2 n3 k1 k2 k3 : Nat) (each : Int) : Prop where
  b : Below N w W
  c : W.heap[N]? = some (.cells #[.slice none 0 0, .int .i64 0, .int .i64 0, .slice none 0 0, .slice none 0 0, .int .i64 0, .slice none 0 0] 36 (0, 0))
  q : W.heap[p]? = some (.cells #[.slice none 0 0, .int .i64 0, .int .i64 0, .slice B n1 k1, .slice C n2 k2, .int .i64 each, .slice D n3 k3] 36 (0, 0))
  ne : N < p
theorem InRow.mono {W : World} {base base' : Nat} {v : Value} {xs : List In} (h : InRow W base v xs) (hb : base' ≤ base) : InRow W base' v xs := by
  obtain ⟨h1, h2⟩ := h
  refine ⟨h1, ?_⟩
  rcases h2 with h0 | ⟨g, cap, cur, e, hg, r⟩
  · exact .inl h0
  · exact .inr ⟨g, cap, cur, e, Nat.le_trans hb hg, r⟩
theorem zero_fin {w W : World} {N : Nat} (hb : Below N w W) (h : W.heap[N]? = some (.cells #[.slice none 0 0, .int .i64 0, .int .i64 0, .slice none 0 0, .slice none 0 0, .int .i64 0, .slice none 0 0] 36 (0, 0))) : ∀ W',
    W' = ((((((W.setCell ⟨N, 0, none⟩ (.slice none 0 0)).setCell ⟨N, 1, none⟩ (.int .i64 0)).setCell ⟨N, 2, none⟩ (.int .i64 0)).setCell ⟨N, 3, none⟩ (.slice none 0 0)).setCell ⟨N, 4, none⟩ (.slice none 0 0)).setCell ⟨N, 5, none⟩ (.int .i64 0)).setCell ⟨N, 6, none⟩ (.slice none 0 0) →
    W'.heap[N]? = some (.cells #[.slice none 0 0, .int .i64 0, .int .i64 0, .slice none 0 0, .slice none 0 0, .int .i64 0, .slice none 0 0] 36 (0, 0)) ∧ Below N w W' := by
  rintro W' rfl
  have sb : ∀ (W : World) (i : Nat) (x : Value), Below N w W → Below N w (W.setCell ⟨N, i, none⟩ x) := fun W i x h => h.setCell (Nat.le_refl _) x
  exact ⟨blk_set (blk_set (blk_set (blk_set (blk_set (blk_set (blk_set h 0 _) 1 _) 2 _) 3 _) 4 _) 5 _) 6 _, sb _ _ _ (sb _ _ _ (sb _ _ _ (sb _ _ _ (sb _ _ _ (sb _ _ _ (sb _ _ _ hb))))))⟩
section
variable {w W W1 : World} {N p : Nat} {B C D : Option Addr} {n1 n2 n3 k1 k2 k3 : Nat} {each : Int}
theorem SpB.keep (h : SpB w W N p B C D n1 n2 n3 k1 k2 k3 each) (hb : Below W.heap.size W W1) : SpB w W1 N p B C D n1 n2 n3 k1 k2 k3 each :=
  ⟨h.b.trans (hb.mono (Nat.le_of_lt (blk_lt h.c))), blk_keep hb h.c, blk_keep hb h.q, h.ne⟩
theorem SpB.fin (h : SpB w W N p B C D n1 n2 n3 k1 k2 k3 each) {va : Value} {xs : List In} (l u : Int) (hr : InRow W N va xs) : ∀ W',
    W' = (((((((((W.setCell ⟨p, 0, none⟩ va).setCell ⟨p, 1, none⟩ (.int .i64 l)).setCell ⟨p, 2, none⟩ (.int .i64 u)).setCell ⟨N, 0, none⟩ va).setCell ⟨N, 1, none⟩ (.int .i64 l)).setCell ⟨N, 2, none⟩ (.int .i64 u)).setCell ⟨N, 3, none⟩ (.slice B n1 k1)).setCell ⟨N, 4, none⟩ (.slice C n2 k2)).setCell ⟨N, 5, none⟩ (.int .i64 each)).setCell ⟨N, 6, none⟩ (.slice D n3 k3) →
    W'.heap[N]? = some (.cells #[va, .int .i64 l, .int .i64 u, .slice B n1 k1, .slice C n2 k2, .int .i64 each, .slice D n3 k3] 36 (0, 0)) ∧ InRow W' N va xs ∧ Below N w W' := by
  rintro W' rfl
  have hne := h.ne
  have sb : ∀ (W : World) (g i : Nat) (x : Value), N ≤ g → Below N w W → Below N w (W.setCell ⟨g, i, none⟩ x) := fun W g i x hg h => h.setCell (show N ≤ g from hg) x
  have far : ∀ {W : World} {i : Nat} {o : Obj} (v : Value), W.heap[N]? = some o → (W.setCell ⟨p, i, none⟩ v).heap[N]? = some o := fun v hj => (Below.heap_setCell _ ⟨_, _, none⟩ v _ (show N ≠ p by omega)).trans hj
  have p0 := h.q
  have p1 := blk_set p0 0 va
  have p2 := blk_set p1 1 (.int .i64 l)
  have n0 := far (i := 2) (.int .i64 u) (far (i := 1) (.int .i64 l) (far (i := 0) va h.c))
  have m1 := blk_set n0 0 va
  have m2 := blk_set m1 1 (.int .i64 l)
  have m3 := blk_set m2 2 (.int .i64 u)
  have m4 := blk_set m3 3 (.slice B n1 k1)
  have m5 := blk_set m4 4 (.slice C n2 k2)
  have m6 := blk_set m5 5 (.int .i64 each)
  have r3 := row_set (row_set (row_set hr p0 (by decide) 0 va) p1 (by decide) 1 (.int .i64 l)) p2 (by decide) 2 (.int .i64 u)
  have r6 := row_set (row_set (row_set r3 n0 (by decide) 0 va) m1 (by decide) 1 (.int .i64 l)) m2 (by decide) 2 (.int .i64 u)
  have b3 := sb _ p 2 (.int .i64 u) (by omega) (sb _ p 1 (.int .i64 l) (by omega) (sb _ p 0 va (by omega) h.b))
  have b6 := sb _ N 2 (.int .i64 u) (by omega) (sb _ N 1 (.int .i64 l) (by omega) (sb _ N 0 va (by omega) b3))
  exact ⟨blk_set m6 6 (.slice D n3 k3), row_set (row_set (row_set (row_set r6 m3 (by decide) 3 _) m4 (by decide) 4 _) m5 (by decide) 5 _) m6 (by decide) 6 _,
    sb _ N 6 _ (by omega) (sb _ N 5 _ (by omega) (sb _ N 4 _ (by omega) (sb _ N 3 _ (by omega) b6)))⟩
end
end Go.Proofs.YthhjhbgimdiboaaDoor

namespace Go.Proofs.YthhjhbgimdiboaaDoor
open Go.RowKit Go.Proofs.YthhjhbgimdiboaaDoorW.PrintWords
set_option linter.unusedVariables false

theorem info_rc : (Tryd.prog.info? 42).map (fun i => (i.zero, i.size, i.bytes)) = some (some (.agg #[.slice none 0 0, .int .i64 0, .int .i64 0]), 3, 40) := by kernel_rfl
theorem field_code (v0 v1 v2 v3 v4 v5 v6 : Value) (W : World) : (Instr.field 44 (.agg #[v0, v1, v2, v3, v4, v5, v6]) 0).run Tryd.prog W = .ok (.agg #[v0, v1, v2]) W := by
  obtain ⟨i9, hi, hz0, hz1, hz2⟩ := info_parts info_rc
  have hc : Tryd.prog.underlying 42 = _ := Tryd.underlying42
  simp [Instr.field, Sem.run_bind, run_underlying Tryd.underlying44, Result.andThen, asAgg, part, isAgg, run_underlying hc, sizeOf, typeInfo, hi, hz1]
/-- What the last region of a Program law loads: two specs' boxes. -/
def pgS (W5 : World) (p q : Nat) (va sa ia ra vb sb ib rb : Value) (l u ea eb : Int) (W : World) : Prop :=
  Aside0 (Below W5.heap.size W5 W) ∧
  (W.cell? ⟨p, 0, none⟩ = some va ∧ W.cell? ⟨p, 1, none⟩ = some (.int .i64 l) ∧ W.cell? ⟨p, 2, none⟩ = some (.int .i64 u) ∧ W.cell? ⟨p, 3, none⟩ = some sa ∧ W.cell? ⟨p, 4, none⟩ = some ia ∧ W.cell? ⟨p, 5, none⟩ = some (.int .i64 ea) ∧ W.cell? ⟨p, 6, none⟩ = some ra) ∧
  (W.cell? ⟨q, 0, none⟩ = some vb ∧ W.cell? ⟨q, 1, none⟩ = some (.int .i64 l) ∧ W.cell? ⟨q, 2, none⟩ = some (.int .i64 u) ∧ W.cell? ⟨q, 3, none⟩ = some sb ∧ W.cell? ⟨q, 4, none⟩ = some ib ∧ W.cell? ⟨q, 5, none⟩ = some (.int .i64 eb) ∧ W.cell? ⟨q, 6, none⟩ = some rb)
theorem pg_next {W5 W W1 : World} {p q : Nat} {va sa ia ra vb sb ib rb : Value} {l u ea eb : Int} (hb : Below W.heap.size W W1) (h : pgS W5 p q va sa ia ra vb sb ib rb l u ea eb W) : pgS W5 p q va sa ia ra vb sb ib rb l u ea eb W1 :=
  ⟨⟨h.1.out.trans (hb.mono h.1.out.size)⟩, cells7_next hb h.2.1, cells7_next hb h.2.2⟩
theorem pg_of {W5 : World} {p q : Nat} {va sa ia ra vb sb ib rb : Value} {l u ea eb : Int}
    (h1 : W5.heap[p]? = some (.cells #[va, .int .i64 l, .int .i64 u, sa, ia, .int .i64 ea, ra] 36 (0, 0))) (h2 : W5.heap[q]? = some (.cells #[vb, .int .i64 l, .int .i64 u, sb, ib, .int .i64 eb, rb] 36 (0, 0))) : pgS W5 p q va sa ia ra vb sb ib rb l u ea eb W5 :=
  ⟨⟨Below.refl _ _⟩, ⟨(blk_cell h1 0).trans rfl, (blk_cell h1 1).trans rfl, (blk_cell h1 2).trans rfl, (blk_cell h1 3).trans rfl, (blk_cell h1 4).trans rfl, (blk_cell h1 5).trans rfl, (blk_cell h1 6).trans rfl⟩,
    (blk_cell h2 0).trans rfl, (blk_cell h2 1).trans rfl, (blk_cell h2 2).trans rfl, (blk_cell h2 3).trans rfl, (blk_cell h2 4).trans rfl, (blk_cell h2 5).trans rfl, (blk_cell h2 6).trans rfl⟩
end Go.Proofs.YthhjhbgimdiboaaDoor

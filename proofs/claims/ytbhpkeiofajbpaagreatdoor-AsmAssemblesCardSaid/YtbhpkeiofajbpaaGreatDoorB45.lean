/- Parts: SpecR. -/
import Derived.Test.YtbhpkeiofajbpaaGreatDoorB43
import Derived.Test.YtbhpkeiofajbpaaGreatDoorB44
/- The document's spec on its way: its box, its rows; turned from the program's by gen_specr.py. -/
namespace Go.Proofs.YtbhpkeiofajbpaaGreatDoor
open Go.RowKit Go.Proofs.YtbhpkeiofajbpaaGreatDoorW.PrintWords
set_option linter.unusedVariables false
set_option linter.unusedSimpArgs false

/-- The document's Assemble, by what the program's answers. -/
theorem rasm_at (t : List UInt8) (w : World) (ht : t.length ≤ 90000) : Calls Tryz.prog 26 #[.string ⟨t.toArray⟩] w (REnd w (asmF t)) := by rw [asm_both]; exact rasm_calls t w ht
/-- The spec's box p is filled but for its program; the result's box is zero. -/
structure SpR (w W : World) (N p : Nat) (B C D : Option Addr) (n1 n2 n3 k1 k2 k3 : Nat) (each : Int) : Prop where
 b : Below N w W
 c : W.heap[N]? = some (.cells #[.slice none 0 0, .int .i64 0, .int .i64 0, .slice none 0 0, .slice none 0 0, .int .i64 0, .slice none 0 0] 30 (0, 0))
 q : W.heap[p]? = some (.cells #[.slice none 0 0, .int .i64 0, .int .i64 0, .slice B n1 k1, .slice C n2 k2, .int .i64 each, .slice D n3 k3] 30 (0, 0))
 ne : N < p
section
variable {w W W1 : World} {N p : Nat} {B C D : Option Addr} {n1 n2 n3 k1 k2 k3 : Nat} {each : Int}
theorem SpR.keep (h : SpR w W N p B C D n1 n2 n3 k1 k2 k3 each) (hb : Below W.heap.size W W1) : SpR w W1 N p B C D n1 n2 n3 k1 k2 k3 each :=
 ⟨h.b.trans (hb.mono (Nat.le_of_lt (blk_lt h.c))), blk_keep hb h.c, blk_keep hb h.q, h.ne⟩
theorem SpR.fin (h : SpR w W N p B C D n1 n2 n3 k1 k2 k3 each) {va : Value} {xs : List In} (l u : Int) (hr : RfRow W N va xs) : ∀ W',
  W' = (((((((((W.setCell ⟨p, 0, none⟩ va).setCell ⟨p, 1, none⟩ (.int .i64 l)).setCell ⟨p, 2, none⟩ (.int .i64 u)).setCell ⟨N, 0, none⟩ va).setCell ⟨N, 1, none⟩ (.int .i64 l)).setCell ⟨N, 2, none⟩ (.int .i64 u)).setCell ⟨N, 3, none⟩ (.slice B n1 k1)).setCell ⟨N, 4, none⟩ (.slice C n2 k2)).setCell ⟨N, 5, none⟩ (.int .i64 each)).setCell ⟨N, 6, none⟩ (.slice D n3 k3) →
  W'.heap[N]? = some (.cells #[va, .int .i64 l, .int .i64 u, .slice B n1 k1, .slice C n2 k2, .int .i64 each, .slice D n3 k3] 30 (0, 0)) ∧ RfRow W' N va xs ∧ Below N w W' := by
 rintro W' rfl
 have hne := h.ne
 have sb : ∀ (W : World) (g i : Nat) (x : Value), N ≤ g → Below N w W → Below N w (W.setCell ⟨g, i, none⟩ x) := fun W g i x hg h => h.setCell (show N ≤ g from hg) x
 have far : ∀ {W : World} {i : Nat} {o : Obj} (v : Value), W.heap[N]? = some o → (W.setCell ⟨p, i, none⟩ v).heap[N]? = some o := fun v hj => (Below.heap_setCell _ ⟨_, _, none⟩ v _ (show N ≠ p by omega)).trans hj
 have p0 := h.q
 have p1 := blk_set p0 0 va
 have p2 := blk_set p1 1 (.int .i64 l)
 have n0 := far (i := 2) (.int .i64 u) (far (i := 1) (.int .i64 l) (far (i := 0) va h.c))
 have m1 := blk_set n0 0 va
 have m2 := blk_set m1 1 (.int .i64 l)
 have m3 := blk_set m2 2 (.int .i64 u)
 have m4 := blk_set m3 3 (.slice B n1 k1)
 have m5 := blk_set m4 4 (.slice C n2 k2)
 have m6 := blk_set m5 5 (.int .i64 each)
 have r3 := row_set (row_set (row_set hr p0 (by decide) 0 va) p1 (by decide) 1 (.int .i64 l)) p2 (by decide) 2 (.int .i64 u)
 have r6 := row_set (row_set (row_set r3 n0 (by decide) 0 va) m1 (by decide) 1 (.int .i64 l)) m2 (by decide) 2 (.int .i64 u)
 have b3 := sb _ p 2 (.int .i64 u) (by omega) (sb _ p 1 (.int .i64 l) (by omega) (sb _ p 0 va (by omega) h.b))
 have b6 := sb _ N 2 (.int .i64 u) (by omega) (sb _ N 1 (.int .i64 l) (by omega) (sb _ N 0 va (by omega) b3))
 exact ⟨blk_set m6 6 (.slice D n3 k3), row_set (row_set (row_set (row_set r6 m3 (by decide) 3 _) m4 (by decide) 4 _) m5 (by decide) 5 _) m6 (by decide) 6 _,
  sb _ N 6 _ (by omega) (sb _ N 5 _ (by omega) (sb _ N 4 _ (by omega) (sb _ N 3 _ (by omega) b6)))⟩
end
theorem SpR.far {w W : World} {N p g i : Nat} {B C D : Option Addr} {n1 n2 n3 k1 k2 k3 : Nat} {each : Int} {cs : Array Value} {t : TypeId} (h : SpR w W N p B C D n1 n2 n3 k1 k2 k3 each) (v : Value) (hg : N ≤ g) (hc : W.heap[g]? = some (.cells cs t (0, 0))) (ht : t ≠ 30) :
  SpR w (W.setCell ⟨g, i, none⟩ v) N p B C D n1 n2 n3 k1 k2 k3 each := by
 have ne : ∀ {j : Nat} {cs' : Array Value}, W.heap[j]? = some (.cells cs' 30 (0, 0)) → j ≠ g := fun hj e => by
  subst e
  rw [hc] at hj
  cases hj
  exact ht rfl
 exact ⟨h.b.setCell (show N ≤ g from hg) v, (Below.heap_setCell W ⟨g, i, none⟩ v _ (ne h.c)).trans h.c, (Below.heap_setCell W ⟨g, i, none⟩ v _ (ne h.q)).trans h.q, h.ne⟩
end Go.Proofs.YtbhpkeiofajbpaaGreatDoor

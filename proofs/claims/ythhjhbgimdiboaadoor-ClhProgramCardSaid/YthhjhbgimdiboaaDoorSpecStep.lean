/- Steps of a region that makes a spec, in any order. -/
import Derived.Test.YthhjhbgimdiboaaDoorSpecKit
namespace Go.Proofs.YthhjhbgimdiboaaDoor
open Go.RowKit Go.Proofs.YthhjhbgimdiboaaDoorW.PrintWords
set_option linter.unusedVariables false
set_option linter.unusedSimpArgs false
section
variable {ops : Array Oper} {o : Oper} {a : Act} {K : Act → World → Prop} {Q : Exit → Act → World → Prop} {E : Prop} {W : World}
theorem step_mk (hgd : o.guard = none) (x : Operand) (ho : o.op = .makeSlice 34 x x) (z : Int) (hx : a.eval x = .int .i64 z) (k : Nat) (hz : z = k) (hk : k ≤ 1000000)
    (h : ∀ g W1 cs, Below W.heap.size W W1 → W.heap.size ≤ g → W1.heap[g]? = some (.cells cs 30 (0, 0)) → cs.size = k → K (a.put o.dst (.slice (some ⟨g, 0, none⟩) k k)) W1) :
    if Region.wanted o (yielded ops a.tmps) = true then Oper.wp Tryd.prog o a W K Q else E := by
  rw [if_pos (by simp [Region.wanted, hgd])]
  subst hz
  obtain ⟨cs, hcs, _, hmk⟩ := mk_u32 k hk
  unfold Oper.wp execOp
  simp only [ho, hx, hmk, Sem.run_bind, Result.andThen_ok]
  exact h _ _ cs (below_new W _) (Nat.le_refl _) (blk_new W _) hcs
theorem step_new (hgd : o.guard = none) (ho : o.op = .alloc 36)
    (h : ∀ g W1, Below W.heap.size W W1 → W.heap.size ≤ g → W1.heap[g]? = some (.cells #[.slice none 0 0, .int .i64 0, .int .i64 0, .slice none 0 0, .slice none 0 0, .int .i64 0, .slice none 0 0] 36 (0, 0)) → K (a.put o.dst (.pointer (some ⟨g, 0, none⟩))) W1) :
    if Region.wanted o (yielded ops a.tmps) = true then Oper.wp Tryd.prog o a W K Q else E := by
  rw [if_pos (by simp [Region.wanted, hgd])]
  have := h _ _ (below_new W (.cells #[.slice none 0 0, .int .i64 0, .int .i64 0, .slice none 0 0, .slice none 0 0, .int .i64 0, .slice none 0 0] 36)) (Nat.le_refl _) (blk_new W _)
  obtain ⟨dst, op, type, pos, after, guard⟩ := o
  dsimp only at ho
  subst ho
  go_simp
  exact this
theorem step_b2 (hgd : o.guard = none) (p0 p1 : Operand) (ho : o.op = .buildSlice 33 2 #[(0, p0), (1, p1)]) (x0 x1 : Int) (h0 : a.eval p0 = .int .i64 x0) (h1 : a.eval p1 = .int .i64 x1)
    (h : ∀ g W1, Below W.heap.size W W1 → K (a.put o.dst (.slice (some ⟨g, 0, none⟩) 2 2)) W1) :
    if Region.wanted o (yielded ops a.tmps) = true then Oper.wp Tryd.prog o a W K Q else E := by
  rw [if_pos (by simp [Region.wanted, hgd])]
  obtain ⟨i9, hi, hz0, hz1, hz2⟩ := info_parts info_int
  refine wp_buildSlice 33 3 2 _ ho #[.int .i64 x0, .int .i64 x1] i9 (.int .i64 0) Tryd.underlying33 hi hz0 (by rw [hz1]; decide) (by rw [hz1]; decide) ?_ (h _ _ (below_new W _))
  rw [hz1]
  simp only [List.map_toArray, List.map_cons, List.map_nil, h0, h1]
  kernel_rfl
theorem step_b3 (hgd : o.guard = none) (p0 p1 p2 : Operand) (ho : o.op = .buildSlice 33 3 #[(0, p0), (1, p1), (2, p2)]) (x0 x1 x2 : Int) (h0 : a.eval p0 = .int .i64 x0) (h1 : a.eval p1 = .int .i64 x1) (h2 : a.eval p2 = .int .i64 x2)
    (h : ∀ g W1, Below W.heap.size W W1 → K (a.put o.dst (.slice (some ⟨g, 0, none⟩) 3 3)) W1) :
    if Region.wanted o (yielded ops a.tmps) = true then Oper.wp Tryd.prog o a W K Q else E := by
  rw [if_pos (by simp [Region.wanted, hgd])]
  obtain ⟨i9, hi, hz0, hz1, hz2⟩ := info_parts info_int
  refine wp_buildSlice 33 3 3 _ ho #[.int .i64 x0, .int .i64 x1, .int .i64 x2] i9 (.int .i64 0) Tryd.underlying33 hi hz0 (by rw [hz1]; decide) (by rw [hz1]; decide) ?_ (h _ _ (below_new W _))
  rw [hz1]
  simp only [List.map_toArray, List.map_cons, List.map_nil, h0, h1, h2]
  kernel_rfl
theorem step_b4 (hgd : o.guard = none) (p0 p1 p2 p3 : Operand) (ho : o.op = .buildSlice 33 4 #[(0, p0), (1, p1), (2, p2), (3, p3)]) (x0 x1 x2 x3 : Int) (h0 : a.eval p0 = .int .i64 x0) (h1 : a.eval p1 = .int .i64 x1) (h2 : a.eval p2 = .int .i64 x2) (h3 : a.eval p3 = .int .i64 x3)
    (h : ∀ g W1, Below W.heap.size W W1 → K (a.put o.dst (.slice (some ⟨g, 0, none⟩) 4 4)) W1) :
    if Region.wanted o (yielded ops a.tmps) = true then Oper.wp Tryd.prog o a W K Q else E := by
  rw [if_pos (by simp [Region.wanted, hgd])]
  obtain ⟨i9, hi, hz0, hz1, hz2⟩ := info_parts info_int
  refine wp_buildSlice 33 3 4 _ ho #[.int .i64 x0, .int .i64 x1, .int .i64 x2, .int .i64 x3] i9 (.int .i64 0) Tryd.underlying33 hi hz0 (by rw [hz1]; decide) (by rw [hz1]; decide) ?_ (h _ _ (below_new W _))
  rw [hz1]
  simp only [List.map_toArray, List.map_cons, List.map_nil, h0, h1, h2, h3]
  kernel_rfl
end
theorem seven_fin {w W : World} {N g : Nat} (hb : Below N w W) (hg : N ≤ g) {t : TypeId} {x0 x1 x2 x3 x4 x5 x6 : Value} (h : W.heap[g]? = some (.cells #[x0, x1, x2, x3, x4, x5, x6] t (0, 0))) (v0 v1 v2 v3 v4 v5 v6 : Value) : ∀ W',
    W' = ((((((W.setCell ⟨g, 0, none⟩ v0).setCell ⟨g, 1, none⟩ v1).setCell ⟨g, 2, none⟩ v2).setCell ⟨g, 3, none⟩ v3).setCell ⟨g, 4, none⟩ v4).setCell ⟨g, 5, none⟩ v5).setCell ⟨g, 6, none⟩ v6 →
    W'.heap[g]? = some (.cells #[v0, v1, v2, v3, v4, v5, v6] t (0, 0)) ∧ Below N w W' ∧ ∀ j, j ≠ g → W'.heap[j]? = W.heap[j]? := by
  rintro W' rfl
  have sb : ∀ (W : World) (i : Nat) (x : Value), Below N w W → Below N w (W.setCell ⟨g, i, none⟩ x) := fun W i x h => h.setCell (show N ≤ g from hg) x
  have h1 : (W.setCell ⟨g, 0, none⟩ v0).heap[g]? = some (.cells #[v0, x1, x2, x3, x4, x5, x6] t (0, 0)) := blk_set h 0 v0
  have h2 : ((W.setCell ⟨g, 0, none⟩ v0).setCell ⟨g, 1, none⟩ v1).heap[g]? = some (.cells #[v0, v1, x2, x3, x4, x5, x6] t (0, 0)) := blk_set h1 1 v1
  have h3 : (((W.setCell ⟨g, 0, none⟩ v0).setCell ⟨g, 1, none⟩ v1).setCell ⟨g, 2, none⟩ v2).heap[g]? = some (.cells #[v0, v1, v2, x3, x4, x5, x6] t (0, 0)) := blk_set h2 2 v2
  have h4 : ((((W.setCell ⟨g, 0, none⟩ v0).setCell ⟨g, 1, none⟩ v1).setCell ⟨g, 2, none⟩ v2).setCell ⟨g, 3, none⟩ v3).heap[g]? = some (.cells #[v0, v1, v2, v3, x4, x5, x6] t (0, 0)) := blk_set h3 3 v3
  have h5 : (((((W.setCell ⟨g, 0, none⟩ v0).setCell ⟨g, 1, none⟩ v1).setCell ⟨g, 2, none⟩ v2).setCell ⟨g, 3, none⟩ v3).setCell ⟨g, 4, none⟩ v4).heap[g]? = some (.cells #[v0, v1, v2, v3, v4, x5, x6] t (0, 0)) := blk_set h4 4 v4
  have h6 : ((((((W.setCell ⟨g, 0, none⟩ v0).setCell ⟨g, 1, none⟩ v1).setCell ⟨g, 2, none⟩ v2).setCell ⟨g, 3, none⟩ v3).setCell ⟨g, 4, none⟩ v4).setCell ⟨g, 5, none⟩ v5).heap[g]? = some (.cells #[v0, v1, v2, v3, v4, v5, x6] t (0, 0)) := blk_set h5 5 v5
  have h7 : (((((((W.setCell ⟨g, 0, none⟩ v0).setCell ⟨g, 1, none⟩ v1).setCell ⟨g, 2, none⟩ v2).setCell ⟨g, 3, none⟩ v3).setCell ⟨g, 4, none⟩ v4).setCell ⟨g, 5, none⟩ v5).setCell ⟨g, 6, none⟩ v6).heap[g]? = some (.cells #[v0, v1, v2, v3, v4, v5, v6] t (0, 0)) := blk_set h6 6 v6
  refine ⟨h7, sb _ _ _ (sb _ _ _ (sb _ _ _ (sb _ _ _ (sb _ _ _ (sb _ _ _ (sb _ _ _ hb)))))), fun j hj => ?_⟩
  have fr : ∀ (W : World) (i : Nat) (v : Value), (W.setCell ⟨g, i, none⟩ v).heap[j]? = W.heap[j]? := fun W i v => Below.heap_setCell W ⟨g, i, none⟩ v j hj
  exact (fr _ _ _).trans ((fr _ _ _).trans ((fr _ _ _).trans ((fr _ _ _).trans ((fr _ _ _).trans ((fr _ _ _).trans (fr _ _ _))))))
theorem SpB.far {w W : World} {N p g i : Nat} {B C D : Option Addr} {n1 n2 n3 k1 k2 k3 : Nat} {each : Int} {cs : Array Value} {t : TypeId} (h : SpB w W N p B C D n1 n2 n3 k1 k2 k3 each) (v : Value) (hg : N ≤ g) (hc : W.heap[g]? = some (.cells cs t (0, 0))) (ht : t ≠ 36) :
    SpB w (W.setCell ⟨g, i, none⟩ v) N p B C D n1 n2 n3 k1 k2 k3 each := by
  have ne : ∀ {j : Nat} {cs' : Array Value}, W.heap[j]? = some (.cells cs' 36 (0, 0)) → j ≠ g := fun hj e => by
    subst e
    rw [hc] at hj
    cases hj
    exact ht rfl
  exact ⟨h.b.setCell (show N ≤ g from hg) v, (Below.heap_setCell W ⟨g, i, none⟩ v _ (ne h.c)).trans h.c, (Below.heap_setCell W ⟨g, i, none⟩ v _ (ne h.q)).trans h.q, h.ne⟩
end Go.Proofs.YthhjhbgimdiboaaDoor

/- InstParses: whatever the text: true; the memory that was there is as it was. -/
import Derived.Test.YtbkbkikbfbmbdaaDoorPlain
import Derived.Test.YtbkbkikbfbmbdaaDoorRefParse
import Derived.Test.YtbkbkikbfbmbdaaDoorAwake6
namespace Go.Proofs.YtbkbkikbfbmbdaaDoor
open Go.RowKit Go.Proofs.YtbkbkikbfbmbdaaDoorW.PrintWords
set_option linter.unusedVariables false
set_option linter.unusedSimpArgs false

/-- What the walk holds: the program's instruction and the document's, each in its box. -/
structure LPInv (w W : World) (b3 b5 : Nat) (i : In) : Prop where
  b : Below w.heap.size w W
  e3 : W.heap[b3]? = some (.cells i.cs 24 (0, 0))
  e5 : W.heap[b5]? = some (.cells i.cs 27 (0, 0))
theorem LPInv.keep {w W W1 : World} {b3 b5 : Nat} {i : In} (h : LPInv w W b3 b5 i) (hb : Below W.heap.size W W1) : LPInv w W1 b3 b5 i :=
  ⟨h.b.trans (hb.mono h.b.size), blk_keep hb h.e3, blk_keep hb h.e5⟩
theorem lp_cells {w W : World} {b3 b5 : Nat} {op d s t u a k q : Int} (h : LPInv w W b3 b5 ⟨op, d, s, t, u, a, k, q⟩) : Aside0 (LPInv w W b3 b5 ⟨op, d, s, t, u, a, k, q⟩) ∧
    W.cell? ⟨b3, 0, none⟩ = some (.int .i64 op) ∧ W.cell? ⟨b3, 1, none⟩ = some (.int .i64 d) ∧ W.cell? ⟨b3, 2, none⟩ = some (.int .i64 s) ∧ W.cell? ⟨b3, 3, none⟩ = some (.int .i64 t) ∧
    W.cell? ⟨b3, 4, none⟩ = some (.int .i64 u) ∧ W.cell? ⟨b3, 5, none⟩ = some (.int .i64 a) ∧ W.cell? ⟨b3, 6, none⟩ = some (.int .u32 k) ∧ W.cell? ⟨b3, 7, none⟩ = some (.int .i64 q) ∧
    W.cell? ⟨b5, 0, none⟩ = some (.int .i64 op) ∧ W.cell? ⟨b5, 1, none⟩ = some (.int .i64 d) ∧ W.cell? ⟨b5, 2, none⟩ = some (.int .i64 s) ∧ W.cell? ⟨b5, 3, none⟩ = some (.int .i64 t) ∧
    W.cell? ⟨b5, 4, none⟩ = some (.int .i64 u) ∧ W.cell? ⟨b5, 5, none⟩ = some (.int .i64 a) ∧ W.cell? ⟨b5, 6, none⟩ = some (.int .u32 k) ∧ W.cell? ⟨b5, 7, none⟩ = some (.int .i64 q) :=
  ⟨⟨h⟩, (blk_cell h.e3 0).trans rfl, (blk_cell h.e3 1).trans rfl, (blk_cell h.e3 2).trans rfl, (blk_cell h.e3 3).trans rfl, (blk_cell h.e3 4).trans rfl, (blk_cell h.e3 5).trans rfl, (blk_cell h.e3 6).trans rfl, (blk_cell h.e3 7).trans rfl,
   (blk_cell h.e5 0).trans rfl, (blk_cell h.e5 1).trans rfl, (blk_cell h.e5 2).trans rfl, (blk_cell h.e5 3).trans rfl, (blk_cell h.e5 4).trans rfl, (blk_cell h.e5 5).trans rfl, (blk_cell h.e5 6).trans rfl, (blk_cell h.e5 7).trans rfl⟩
theorem lp_next {w W W1 : World} {b3 b5 : Nat} {op d s t u a k q : Int} (hb : Below W.heap.size W W1) (h : Aside0 (LPInv w W b3 b5 ⟨op, d, s, t, u, a, k, q⟩) ∧
    W.cell? ⟨b3, 0, none⟩ = some (.int .i64 op) ∧ W.cell? ⟨b3, 1, none⟩ = some (.int .i64 d) ∧ W.cell? ⟨b3, 2, none⟩ = some (.int .i64 s) ∧ W.cell? ⟨b3, 3, none⟩ = some (.int .i64 t) ∧
    W.cell? ⟨b3, 4, none⟩ = some (.int .i64 u) ∧ W.cell? ⟨b3, 5, none⟩ = some (.int .i64 a) ∧ W.cell? ⟨b3, 6, none⟩ = some (.int .u32 k) ∧ W.cell? ⟨b3, 7, none⟩ = some (.int .i64 q) ∧
    W.cell? ⟨b5, 0, none⟩ = some (.int .i64 op) ∧ W.cell? ⟨b5, 1, none⟩ = some (.int .i64 d) ∧ W.cell? ⟨b5, 2, none⟩ = some (.int .i64 s) ∧ W.cell? ⟨b5, 3, none⟩ = some (.int .i64 t) ∧
    W.cell? ⟨b5, 4, none⟩ = some (.int .i64 u) ∧ W.cell? ⟨b5, 5, none⟩ = some (.int .i64 a) ∧ W.cell? ⟨b5, 6, none⟩ = some (.int .u32 k) ∧ W.cell? ⟨b5, 7, none⟩ = some (.int .i64 q)) :
    Aside0 (LPInv w W1 b3 b5 ⟨op, d, s, t, u, a, k, q⟩) ∧
    W1.cell? ⟨b3, 0, none⟩ = some (.int .i64 op) ∧ W1.cell? ⟨b3, 1, none⟩ = some (.int .i64 d) ∧ W1.cell? ⟨b3, 2, none⟩ = some (.int .i64 s) ∧ W1.cell? ⟨b3, 3, none⟩ = some (.int .i64 t) ∧
    W1.cell? ⟨b3, 4, none⟩ = some (.int .i64 u) ∧ W1.cell? ⟨b3, 5, none⟩ = some (.int .i64 a) ∧ W1.cell? ⟨b3, 6, none⟩ = some (.int .u32 k) ∧ W1.cell? ⟨b3, 7, none⟩ = some (.int .i64 q) ∧
    W1.cell? ⟨b5, 0, none⟩ = some (.int .i64 op) ∧ W1.cell? ⟨b5, 1, none⟩ = some (.int .i64 d) ∧ W1.cell? ⟨b5, 2, none⟩ = some (.int .i64 s) ∧ W1.cell? ⟨b5, 3, none⟩ = some (.int .i64 t) ∧
    W1.cell? ⟨b5, 4, none⟩ = some (.int .i64 u) ∧ W1.cell? ⟨b5, 5, none⟩ = some (.int .i64 a) ∧ W1.cell? ⟨b5, 6, none⟩ = some (.int .u32 k) ∧ W1.cell? ⟨b5, 7, none⟩ = some (.int .i64 q) := lp_cells (h.1.out.keep hb)

theorem lp_env {w W : World} {b3 b5 : Nat} {op d s t u a k q : Int} (he : Env w) (h : Aside0 (LPInv w W b3 b5 ⟨op, d, s, t, u, a, k, q⟩) ∧
    W.cell? ⟨b3, 0, none⟩ = some (.int .i64 op) ∧ W.cell? ⟨b3, 1, none⟩ = some (.int .i64 d) ∧ W.cell? ⟨b3, 2, none⟩ = some (.int .i64 s) ∧ W.cell? ⟨b3, 3, none⟩ = some (.int .i64 t) ∧
    W.cell? ⟨b3, 4, none⟩ = some (.int .i64 u) ∧ W.cell? ⟨b3, 5, none⟩ = some (.int .i64 a) ∧ W.cell? ⟨b3, 6, none⟩ = some (.int .u32 k) ∧ W.cell? ⟨b3, 7, none⟩ = some (.int .i64 q) ∧
    W.cell? ⟨b5, 0, none⟩ = some (.int .i64 op) ∧ W.cell? ⟨b5, 1, none⟩ = some (.int .i64 d) ∧ W.cell? ⟨b5, 2, none⟩ = some (.int .i64 s) ∧ W.cell? ⟨b5, 3, none⟩ = some (.int .i64 t) ∧
    W.cell? ⟨b5, 4, none⟩ = some (.int .i64 u) ∧ W.cell? ⟨b5, 5, none⟩ = some (.int .i64 a) ∧ W.cell? ⟨b5, 6, none⟩ = some (.int .u32 k) ∧ W.cell? ⟨b5, 7, none⟩ = some (.int .i64 q)) : Env W := he.below h.1.out.b

set_option maxHeartbeats 4000000 in
set_option maxRecDepth 100000 in
theorem law_parses (l : List UInt8) (w : World) (he : Env w) :
    Calls Tryd.prog 5 #[.string ⟨l.toArray⟩] w fun e w' => e = .returned (.bool true) ∧ Below w.heap.size w w' := by
  by_cases hl : 80 < l.length
  · go_enter Tryd.func5, Tryd.ntmps5
    go_wp2_with fail
    refine (awake6_calls _ he).mono ?_
    rintro e w7 ⟨rfl, hb7⟩
    go_wp2
    go_ret
    exact ⟨rfl, hb7⟩
  have C1 := fun (W : World) (heW : Env W) => parse_calls l W heW (by omega)
  have C2 := fun (W : World) => refparse_calls l (by omega) W
  rcases parse_both l with ⟨i, hk, hr, ht, e1, e2⟩ | ⟨e1, e2⟩
  · have C4 := fun (W : World) (heW : Env W) => text_calls i hk W heW
    rw [textR_ok hr, ht] at C4
    rw [e1] at C1
    rw [e2] at C2
    obtain ⟨op, d, s, t, u, a, k, q⟩ := i
    have C3 := ref_calls ⟨op, d, s, t, u, a, k, q⟩
    have keq : ∀ W, (binOp .eql 27 (In.v ⟨op, d, s, t, u, a, k, q⟩) (In.v ⟨op, d, s, t, u, a, k, q⟩)).run Tryd.prog W = .ok (.bool (decide ((⟨op, d, s, t, u, a, k, q⟩ : In) = ⟨op, d, s, t, u, a, k, q⟩))) W := fun W => eql_r _ _ W
    rw [decide_eq_true rfl] at keq
    clear e1 e2 hr ht hk
    dsimp only [In.v] at C1 C2 C3 C4 keq
    replace C1 := Aside0.mk C1
    replace C2 := Aside0.mk C2
    replace C3 := Aside0.mk C3
    replace C4 := Aside0.mk C4
    go_enter Tryd.func5, Tryd.ntmps5
    go_wp2_with fail
    refine (C1.out _ he).mono ?_
    rintro e w1 ⟨rfl, hb1⟩
    go_wp2_with fail
    refine (C2.out _).mono ?_
    rintro e w2 ⟨rfl, hb2⟩
    have B1 := hb1.alloc hb1.size (.cells (In.cs ⟨op, d, s, t, u, a, k, q⟩) 24)
    have HI := Aside0.mk (show LPInv w (w2.alloc (.cells (In.cs ⟨op, d, s, t, u, a, k, q⟩) 27)) w1.heap.size w2.heap.size ⟨op, d, s, t, u, a, k, q⟩ from
      ⟨(B1.trans (hb2.mono B1.size)).alloc (B1.trans (hb2.mono B1.size)).size _, blk_old (blk_keep hb2 (blk_new w1 _)) _, blk_new w2 _⟩)
    obtain ⟨_, x0, x1, x2, x3, x4, x5, x6, x7, y0, y1, y2, y3, y4, y5, y6, y7⟩ := lp_cells HI.out
    simp only [In.cs] at x0 x1 x2 x3 x4 x5 x6 x7 y0 y1 y2 y3 y4 y5 y6 y7
    clear hb1 hb2 B1
    go_wp2_with fail
    refine (C4.out _ (he.below HI.out.b)).mono ?_
    rintro e w3 ⟨rfl, hb3⟩
    replace HI := Aside0.mk (HI.out.keep hb3)
    clear hb3 x0 x1 x2 x3 x4 x5 x6 x7 y0 y1 y2 y3 y4 y5 y6 y7 C1 C2 C4
    have hS := lp_cells (HI.out.keep (below_drew (Below.refl _ _)))
    clear HI
    go_wp2_with fail
    go_region_held3 (fun W => Aside0 (LPInv w W w1.heap.size w2.heap.size ⟨op, d, s, t, u, a, k, q⟩) ∧
        W.cell? ⟨w1.heap.size, 0, none⟩ = some (.int .i64 op) ∧ W.cell? ⟨w1.heap.size, 1, none⟩ = some (.int .i64 d) ∧ W.cell? ⟨w1.heap.size, 2, none⟩ = some (.int .i64 s) ∧ W.cell? ⟨w1.heap.size, 3, none⟩ = some (.int .i64 t) ∧
        W.cell? ⟨w1.heap.size, 4, none⟩ = some (.int .i64 u) ∧ W.cell? ⟨w1.heap.size, 5, none⟩ = some (.int .i64 a) ∧ W.cell? ⟨w1.heap.size, 6, none⟩ = some (.int .u32 k) ∧ W.cell? ⟨w1.heap.size, 7, none⟩ = some (.int .i64 q) ∧
        W.cell? ⟨w2.heap.size, 0, none⟩ = some (.int .i64 op) ∧ W.cell? ⟨w2.heap.size, 1, none⟩ = some (.int .i64 d) ∧ W.cell? ⟨w2.heap.size, 2, none⟩ = some (.int .i64 s) ∧ W.cell? ⟨w2.heap.size, 3, none⟩ = some (.int .i64 t) ∧
        W.cell? ⟨w2.heap.size, 4, none⟩ = some (.int .i64 u) ∧ W.cell? ⟨w2.heap.size, 5, none⟩ = some (.int .i64 a) ∧ W.cell? ⟨w2.heap.size, 6, none⟩ = some (.int .u32 k) ∧ W.cell? ⟨w2.heap.size, 7, none⟩ = some (.int .i64 q))
      (first | with_reducible exact hS | exact lp_next hb (by assumption))
      (first
        | (go_at_call 9; (with_reducible refine (C3.out _).mono ?_); rintro e w' ⟨rfl, hb⟩)
        | (go_at_call 11; (with_reducible refine (awake6_calls _ (lp_env (b3 := w1.heap.size) (b5 := w2.heap.size) (op := op) (d := d) (s := s) (t := t) (u := u) (a := a) (k := k) (q := q) he (by assumption))).mono ?_); rintro e w' ⟨rfl, hb⟩))
    obtain ⟨HA, _⟩ := lp_next (Below.refl _ _) (by assumption)
    go_wp2
    go_ret
    exact ⟨rfl, HA.out.b⟩
  · rw [e1] at C1
    rw [e2] at C2
    have keq : ∀ W, (binOp .eql 24 (In.v In.zero) (In.v In.zero)).run Tryd.prog W = .ok (.bool (decide (In.zero = In.zero))) W := fun W => eql_a _ _ W
    rw [decide_eq_true rfl] at keq
    clear e1 e2
    dsimp only [In.v, In.zero] at C1 C2 keq
    replace C1 := Aside0.mk C1
    replace C2 := Aside0.mk C2
    go_enter Tryd.func5, Tryd.ntmps5
    go_wp2_with fail
    refine (C1.out _ he).mono ?_
    rintro e w1 ⟨rfl, hb1⟩
    go_wp2_with fail
    refine (C2.out _).mono ?_
    rintro e w2 ⟨rfl, hb2⟩
    have B1 := hb1.alloc hb1.size (.cells (In.cs ⟨0, 0, 0, 0, 0, 0, 0, 0⟩) 24)
    have HI := Aside0.mk (show LPInv w (w2.alloc (.cells (In.cs ⟨0, 0, 0, 0, 0, 0, 0, 0⟩) 27)) w1.heap.size w2.heap.size ⟨0, 0, 0, 0, 0, 0, 0, 0⟩ from
      ⟨(B1.trans (hb2.mono B1.size)).alloc (B1.trans (hb2.mono B1.size)).size _, blk_old (blk_keep hb2 (blk_new w1 _)) _, blk_new w2 _⟩)
    obtain ⟨_, x0, x1, x2, x3, x4, x5, x6, x7, y0, y1, y2, y3, y4, y5, y6, y7⟩ := lp_cells HI.out
    simp only [In.cs] at x0 x1 x2 x3 x4 x5 x6 x7 y0 y1 y2 y3 y4 y5 y6 y7
    clear hb1 hb2 B1
    go_wp2_with fail
    refine (awake6_calls _ (he.below HI.out.b)).mono ?_
    rintro e w7 ⟨rfl, hb7⟩
    go_wp2
    go_ret
    exact ⟨rfl, HI.out.b.trans (hb7.mono HI.out.b.size)⟩
end Go.Proofs.YtbkbkikbfbmbdaaDoor

/- InstRight: whatever the instruction and the number of places: true; the memory that was there is as it was. -/
import Derived.Test.YtfbblligbacppaaDoorAwake6
import Derived.Test.YtfbblligbacppaaDoorRefRight
import Derived.Deep.RegionHeld3
namespace Go.Proofs.YtfbblligbacppaaDoor
open Go.RowKit Go.Proofs.YtfbblligbacppaaDoorW.PrintWords
set_option linter.unusedVariables false
set_option linter.unusedSimpArgs false

theorem getq {α : Type} {l : List α} {i : Nat} {o : α} (h : l[i]? = some o) : l.toArray[i]? = some o := by simpa using h

theorem box_keep {w W W1 : World} {op d s t u a k q : Int} (h : W.heap[w.heap.size]? = some (.cells (In.cs ⟨op, d, s, t, u, a, k, q⟩) 24 (0, 0)) ∧ Below w.heap.size w W) (hb : Below W.heap.size W W1) :
    W1.heap[w.heap.size]? = some (.cells (In.cs ⟨op, d, s, t, u, a, k, q⟩) 24 (0, 0)) ∧ Below w.heap.size w W1 :=
  ⟨blk_keep hb h.1, h.2.trans (hb.mono h.2.size)⟩
theorem box_cells {w W : World} {op d s t u a k q : Int} (h : W.heap[w.heap.size]? = some (.cells (In.cs ⟨op, d, s, t, u, a, k, q⟩) 24 (0, 0)) ∧ Below w.heap.size w W) :
    Aside0 (W.heap[w.heap.size]? = some (.cells (In.cs ⟨op, d, s, t, u, a, k, q⟩) 24 (0, 0)) ∧ Below w.heap.size w W) ∧
    W.cell? ⟨w.heap.size, 0, none⟩ = some (.int .i64 op) ∧ W.cell? ⟨w.heap.size, 1, none⟩ = some (.int .i64 d) ∧ W.cell? ⟨w.heap.size, 2, none⟩ = some (.int .i64 s) ∧ W.cell? ⟨w.heap.size, 3, none⟩ = some (.int .i64 t) ∧
    W.cell? ⟨w.heap.size, 4, none⟩ = some (.int .i64 u) ∧ W.cell? ⟨w.heap.size, 5, none⟩ = some (.int .i64 a) ∧ W.cell? ⟨w.heap.size, 6, none⟩ = some (.int .u32 k) ∧ W.cell? ⟨w.heap.size, 7, none⟩ = some (.int .i64 q) :=
  ⟨⟨h⟩, (blk_cell h.1 0).trans rfl, (blk_cell h.1 1).trans rfl, (blk_cell h.1 2).trans rfl, (blk_cell h.1 3).trans rfl, (blk_cell h.1 4).trans rfl, (blk_cell h.1 5).trans rfl, (blk_cell h.1 6).trans rfl, (blk_cell h.1 7).trans rfl⟩

theorem box_next {w W W1 : World} {op d s t u a k q : Int} (hb : Below W.heap.size W W1) (h : Aside0 (W.heap[w.heap.size]? = some (.cells (In.cs ⟨op, d, s, t, u, a, k, q⟩) 24 (0, 0)) ∧ Below w.heap.size w W) ∧
    W.cell? ⟨w.heap.size, 0, none⟩ = some (.int .i64 op) ∧ W.cell? ⟨w.heap.size, 1, none⟩ = some (.int .i64 d) ∧ W.cell? ⟨w.heap.size, 2, none⟩ = some (.int .i64 s) ∧ W.cell? ⟨w.heap.size, 3, none⟩ = some (.int .i64 t) ∧
    W.cell? ⟨w.heap.size, 4, none⟩ = some (.int .i64 u) ∧ W.cell? ⟨w.heap.size, 5, none⟩ = some (.int .i64 a) ∧ W.cell? ⟨w.heap.size, 6, none⟩ = some (.int .u32 k) ∧ W.cell? ⟨w.heap.size, 7, none⟩ = some (.int .i64 q)) :
    Aside0 (W1.heap[w.heap.size]? = some (.cells (In.cs ⟨op, d, s, t, u, a, k, q⟩) 24 (0, 0)) ∧ Below w.heap.size w W1) ∧
    W1.cell? ⟨w.heap.size, 0, none⟩ = some (.int .i64 op) ∧ W1.cell? ⟨w.heap.size, 1, none⟩ = some (.int .i64 d) ∧ W1.cell? ⟨w.heap.size, 2, none⟩ = some (.int .i64 s) ∧ W1.cell? ⟨w.heap.size, 3, none⟩ = some (.int .i64 t) ∧
    W1.cell? ⟨w.heap.size, 4, none⟩ = some (.int .i64 u) ∧ W1.cell? ⟨w.heap.size, 5, none⟩ = some (.int .i64 a) ∧ W1.cell? ⟨w.heap.size, 6, none⟩ = some (.int .u32 k) ∧ W1.cell? ⟨w.heap.size, 7, none⟩ = some (.int .i64 q) := box_cells (box_keep h.1.out hb)
theorem box_env {w W : World} {op d s t u a k q : Int} (he : Env w) (h : Aside0 (W.heap[w.heap.size]? = some (.cells (In.cs ⟨op, d, s, t, u, a, k, q⟩) 24 (0, 0)) ∧ Below w.heap.size w W) ∧
    W.cell? ⟨w.heap.size, 0, none⟩ = some (.int .i64 op) ∧ W.cell? ⟨w.heap.size, 1, none⟩ = some (.int .i64 d) ∧ W.cell? ⟨w.heap.size, 2, none⟩ = some (.int .i64 s) ∧ W.cell? ⟨w.heap.size, 3, none⟩ = some (.int .i64 t) ∧
    W.cell? ⟨w.heap.size, 4, none⟩ = some (.int .i64 u) ∧ W.cell? ⟨w.heap.size, 5, none⟩ = some (.int .i64 a) ∧ W.cell? ⟨w.heap.size, 6, none⟩ = some (.int .u32 k) ∧ W.cell? ⟨w.heap.size, 7, none⟩ = some (.int .i64 q)) : Env W := he.below h.1.out.2
theorem box_below {w W : World} {op d s t u a k q : Int} (h : Aside0 (W.heap[w.heap.size]? = some (.cells (In.cs ⟨op, d, s, t, u, a, k, q⟩) 24 (0, 0)) ∧ Below w.heap.size w W) ∧
    W.cell? ⟨w.heap.size, 0, none⟩ = some (.int .i64 op) ∧ W.cell? ⟨w.heap.size, 1, none⟩ = some (.int .i64 d) ∧ W.cell? ⟨w.heap.size, 2, none⟩ = some (.int .i64 s) ∧ W.cell? ⟨w.heap.size, 3, none⟩ = some (.int .i64 t) ∧
    W.cell? ⟨w.heap.size, 4, none⟩ = some (.int .i64 u) ∧ W.cell? ⟨w.heap.size, 5, none⟩ = some (.int .i64 a) ∧ W.cell? ⟨w.heap.size, 6, none⟩ = some (.int .u32 k) ∧ W.cell? ⟨w.heap.size, 7, none⟩ = some (.int .i64 q)) : Below w.heap.size w W := h.1.out.2

set_option maxHeartbeats 4000000 in
set_option maxRecDepth 100000 in
theorem law_right_low (op d s t u a k q places : Int) (h1 : ¬ 16 ≤ op) (hwk : 0 ≤ k ∧ k ≤ 4294967295) (w : World) (he : Env w) :
    Calls Tryd.prog 3 #[.agg #[.int .i64 op, .int .i64 d, .int .i64 s, .int .i64 t, .int .i64 u, .int .i64 a, .int .u32 k, .int .i64 q], .int .i64 places] w fun e w' => e = .returned (.bool true) ∧ Below w.heap.size w w' := by
  have C1 := right_calls ⟨op, d, s, t, u, a, k, q⟩ places hwk
  have C2 := refright_calls ⟨op, d, s, t, u, a, k, q⟩ places hwk
  have C3 := ref_calls ⟨op, d, s, t, u, a, k, q⟩
  have C4 := memory_is ⟨op, d, s, t, u, a, k, q⟩
  generalize rightF ⟨op, d, s, t, u, a, k, q⟩ places = R at C1 C2
  have hm : memB op = decide (16 ≤ op ∧ op ≤ 23) := rfl
  dsimp only [In.v] at C1 C2 C3 C4
  replace C1 := Aside0.mk C1
  replace C2 := Aside0.mk C2
  replace C3 := Aside0.mk C3
  replace C4 := Aside0.mk C4
  have hS := box_cells (w := w) (W := (w.alloc (.cells (In.cs ⟨op, d, s, t, u, a, k, q⟩) 24)).drew) ⟨blk_drew (blk_new w (.cells (In.cs ⟨op, d, s, t, u, a, k, q⟩) 24)), below_drew ((Below.refl w.heap.size w).alloc (Nat.le_refl _) _)⟩
  have hmt : memB op = false := decide_eq_false (fun h => h1 h.1)
  have h1b : decide (16 ≤ op) = false := decide_eq_false h1
  rw [hmt] at C4
  clear hm hmt
  cases R with
  | true =>
    go_enter Tryd.func3, Tryd.ntmps3
    go_wp2_with fail
    refine wp_region_held_drew (S := fun W => Aside0 (W.heap[w.heap.size]? = some (.cells (In.cs ⟨op, d, s, t, u, a, k, q⟩) 24 (0, 0)) ∧ Below w.heap.size w W) ∧
            W.cell? ⟨w.heap.size, 0, none⟩ = some (.int .i64 op) ∧ W.cell? ⟨w.heap.size, 1, none⟩ = some (.int .i64 d) ∧ W.cell? ⟨w.heap.size, 2, none⟩ = some (.int .i64 s) ∧ W.cell? ⟨w.heap.size, 3, none⟩ = some (.int .i64 t) ∧
            W.cell? ⟨w.heap.size, 4, none⟩ = some (.int .i64 u) ∧ W.cell? ⟨w.heap.size, 5, none⟩ = some (.int .i64 a) ∧ W.cell? ⟨w.heap.size, 6, none⟩ = some (.int .u32 k) ∧ W.cell? ⟨w.heap.size, 7, none⟩ = some (.int .i64 q)) (by kernel_rfl) hS (fun hHeld0 => ?_)
    refine wpAnyH_take (i := 0) (oi := ?oi1t) (v := ?v1t) ?hi1t ?hs1t ?hf1t ?hr1t ?hQ1t ?hy1t ?hS1t ?_
    case hi1t => refine getq ?_; rfl
    case hs1t => kernel_rfl
    case hf1t => kernel_rfl
    case hr1t => kernel_rfl
    case hQ1t => exact fun _ _ _ h => h
    case hy1t => (refine Or.inl ⟨by rfl, ?_⟩; intro w hSw; go_simp; try with_reducible rfl)
    case hS1t => assumption
    try simp only [Act.put, List.setIfInBounds_toArray, List.set_cons_zero, List.set_cons_succ]
    refine wpAnyH_take (i := 1) (oi := ?oi2t) (v := ?v2t) ?hi2t ?hs2t ?hf2t ?hr2t ?hQ2t ?hy2t ?hS2t ?_
    case hi2t => refine getq ?_; rfl
    case hs2t => kernel_rfl
    case hf2t => kernel_rfl
    case hr2t => kernel_rfl
    case hQ2t => exact fun _ _ _ h => h
    case hy2t => (refine Or.inl ⟨by rfl, ?_⟩; intro w hSw; go_simp; try with_reducible rfl)
    case hS2t => assumption
    try simp only [Act.put, List.setIfInBounds_toArray, List.set_cons_zero, List.set_cons_succ]
    refine wpAnyH_take (i := 3) (oi := ?oi3t) (v := ?v3t) ?hi3t ?hs3t ?hf3t ?hr3t ?hQ3t ?hy3t ?hS3t ?_
    case hi3t => refine getq ?_; rfl
    case hs3t => kernel_rfl
    case hf3t => kernel_rfl
    case hr3t => kernel_rfl
    case hQ3t => exact fun _ _ _ h => h
    case hy3t => (refine Or.inl ⟨by rfl, ?_⟩; intro w hSw; go_simp; try with_reducible rfl)
    case hS3t => assumption
    try simp only [Act.put, List.setIfInBounds_toArray, List.set_cons_zero, List.set_cons_succ]
    refine wpAnyH_take (i := 5) (oi := ?oi4t) (v := ?v4t) ?hi4t ?hs4t ?hf4t ?hr4t ?hQ4t ?hy4t ?hS4t ?_
    case hi4t => refine getq ?_; rfl
    case hs4t => kernel_rfl
    case hf4t => kernel_rfl
    case hr4t => kernel_rfl
    case hQ4t => exact fun _ _ _ h => h
    case hy4t => (refine Or.inl ⟨by rfl, ?_⟩; intro w hSw; go_simp; try with_reducible rfl)
    case hS4t => assumption
    try simp only [Act.put, List.setIfInBounds_toArray, List.set_cons_zero, List.set_cons_succ]
    refine wpAnyH_ready (rs := [2]) (by kernel_rfl) (by simp) ?_
    refine AllReadyH.cons (o := ?o5t) ?ho5t (fun K hK => ?_) AllReadyH.nil
    case ho5t => refine getq ?_; rfl
    go_simp
    go_at_call 7
    refine (C1.out _).mono ?_
    rintro e w2 ⟨rfl, hb2⟩
    go_wp2_with fail
    refine hK.out _ _ (box_next hb2 (by assumption)) (fun hHeld2 => ?_)
    try simp only [Act.put, List.setIfInBounds_toArray, List.set_cons_zero, List.set_cons_succ]
    refine wpAnyH_ready (rs := [4]) (by kernel_rfl) (by simp) ?_
    refine AllReadyH.cons (o := ?o6t) ?ho6t (fun K hK => ?_) AllReadyH.nil
    case ho6t => refine getq ?_; rfl
    go_simp
    go_at_call 9
    refine (C3.out _).mono ?_
    rintro e w4 ⟨rfl, hb4⟩
    go_wp2_with fail
    refine hK.out _ _ (box_next hb4 (by assumption)) (fun hHeld4 => ?_)
    try simp only [Act.put, List.setIfInBounds_toArray, List.set_cons_zero, List.set_cons_succ]
    refine wpAnyH_ready (rs := [6]) (by kernel_rfl) (by simp) ?_
    refine AllReadyH.cons (o := ?o7t) ?ho7t (fun K hK => ?_) AllReadyH.nil
    case ho7t => refine getq ?_; rfl
    go_simp
    go_at_call 8
    refine (C2.out _).mono ?_
    rintro e w6 ⟨rfl, hb6⟩
    go_wp2_with fail
    refine hK.out _ _ (box_next hb6 (by assumption)) (fun hHeld6 => ?_)
    try simp only [Act.put, List.setIfInBounds_toArray, List.set_cons_zero, List.set_cons_succ]
    refine wpAnyH_take (i := 7) (oi := ?oi8t) (v := ?v8t) ?hi8t ?hs8t ?hf8t ?hr8t ?hQ8t ?hy8t ?hS8t ?_
    case hi8t => refine getq ?_; rfl
    case hs8t => kernel_rfl
    case hf8t => kernel_rfl
    case hr8t => kernel_rfl
    case hQ8t => exact fun _ _ _ h => h
    case hy8t => (refine Or.inl ⟨by rfl, ?_⟩; intro w hSw; go_simp; try with_reducible rfl)
    case hS8t => assumption
    try simp only [Act.put, List.setIfInBounds_toArray, List.set_cons_zero, List.set_cons_succ]
    refine wpAnyH_take (i := 8) (oi := ?oi9t) (v := ?v9t) ?hi9t ?hs9t ?hf9t ?hr9t ?hQ9t ?hy9t ?hS9t ?_
    case hi9t => refine getq ?_; rfl
    case hs9t => kernel_rfl
    case hf9t => kernel_rfl
    case hr9t => kernel_rfl
    case hQ9t => exact fun _ _ _ h => h
    case hy9t => (refine Or.inl ⟨by rfl, ?_⟩; intro w hSw; go_simp; try with_reducible rfl)
    case hS9t => assumption
    try simp only [Act.put, List.setIfInBounds_toArray, List.set_cons_zero, List.set_cons_succ]
    refine wpAnyH_take (i := 9) (oi := ?oi10t) (v := ?v10t) ?hi10t ?hs10t ?hf10t ?hr10t ?hQ10t ?hy10t ?hS10t ?_
    case hi10t => refine getq ?_; rfl
    case hs10t => kernel_rfl
    case hf10t => kernel_rfl
    case hr10t => kernel_rfl
    case hQ10t => exact fun _ _ _ h => h
    case hy10t => (refine Or.inl ⟨by rfl, ?_⟩; intro w hSw; go_simp; try with_reducible rfl)
    case hS10t => assumption
    try simp only [Act.put, List.setIfInBounds_toArray, List.set_cons_zero, List.set_cons_succ]
    refine wpAnyH_take (i := 11) (oi := ?oi11t) (v := ?v11t) ?hi11t ?hs11t ?hf11t ?hr11t ?hQ11t ?hy11t ?hS11t ?_
    case hi11t => refine getq ?_; rfl
    case hs11t => kernel_rfl
    case hf11t => kernel_rfl
    case hr11t => kernel_rfl
    case hQ11t => exact fun _ _ _ h => h
    case hy11t => (refine Or.inl ⟨by rfl, ?_⟩; intro w hSw; go_simp; try with_reducible rfl)
    case hS11t => assumption
    try simp only [Act.put, List.setIfInBounds_toArray, List.set_cons_zero, List.set_cons_succ]
    refine wpAnyH_take (i := 12) (oi := ?oi12t) (v := ?v12t) ?hi12t ?hs12t ?hf12t ?hr12t ?hQ12t ?hy12t ?hS12t ?_
    case hi12t => refine getq ?_; rfl
    case hs12t => kernel_rfl
    case hf12t => kernel_rfl
    case hr12t => kernel_rfl
    case hQ12t => exact fun _ _ _ h => h
    case hy12t => (refine Or.inl ⟨by rfl, ?_⟩; intro w hSw; go_simp; try with_reducible rfl)
    case hS12t => assumption
    try simp only [Act.put, List.setIfInBounds_toArray, List.set_cons_zero, List.set_cons_succ]
    refine wpAnyH_take (i := 13) (oi := ?oi13t) (v := ?v13t) ?hi13t ?hs13t ?hf13t ?hr13t ?hQ13t ?hy13t ?hS13t ?_
    case hi13t => refine getq ?_; rfl
    case hs13t => kernel_rfl
    case hf13t => kernel_rfl
    case hr13t => kernel_rfl
    case hQ13t => exact fun _ _ _ h => h
    case hy13t => (refine Or.inl ⟨by rfl, ?_⟩; intro w hSw; go_simp; try with_reducible rfl)
    case hS13t => assumption
    try simp only [Act.put, List.setIfInBounds_toArray, List.set_cons_zero, List.set_cons_succ]
    refine wpAnyH_ready (rs := [10]) (by kernel_rfl) (by simp) ?_
    refine AllReadyH.cons (o := ?o19t) ?ho19t (fun K hK => ?_) AllReadyH.nil
    case ho19t => refine getq ?_; rfl
    go_simp
    go_at_call 10
    refine (C4.out _).mono ?_
    rintro e w10 ⟨rfl, hb10⟩
    go_wp2_with fail
    refine hK.out _ _ (box_next hb10 (by assumption)) (fun hHeld10 => ?_)
    try simp only [Act.put, List.setIfInBounds_toArray, List.set_cons_zero, List.set_cons_succ]
    refine wpAnyH_take (i := 14) (oi := ?oi14t) (v := ?v14t) ?hi14t ?hs14t ?hf14t ?hr14t ?hQ14t ?hy14t ?hS14t ?_
    case hi14t => refine getq ?_; rfl
    case hs14t => kernel_rfl
    case hf14t => kernel_rfl
    case hr14t => kernel_rfl
    case hQ14t => exact fun _ _ _ h => h
    case hy14t => (refine Or.inl ⟨by rfl, ?_⟩; intro w hSw; go_simp; try with_reducible rfl)
    case hS14t => assumption
    try simp only [Act.put, List.setIfInBounds_toArray, List.set_cons_zero, List.set_cons_succ]
    refine wpAnyH_take (i := 15) (oi := ?oi15t) (v := undef) ?hi15t ?hs15t ?hf15t ?hr15t ?hQ15t ?hy15t ?hS15t ?_
    case hi15t => refine getq ?_; rfl
    case hs15t => kernel_rfl
    case hf15t => kernel_rfl
    case hr15t => kernel_rfl
    case hQ15t => exact fun _ _ _ h => h
    case hy15t => exact Or.inr ⟨by rfl, rfl⟩
    case hS15t => assumption
    try simp only [Act.put, List.setIfInBounds_toArray, List.set_cons_zero, List.set_cons_succ]
    refine wpAnyH_take (i := 16) (oi := ?oi16t) (v := undef) ?hi16t ?hs16t ?hf16t ?hr16t ?hQ16t ?hy16t ?hS16t ?_
    case hi16t => refine getq ?_; rfl
    case hs16t => kernel_rfl
    case hf16t => kernel_rfl
    case hr16t => kernel_rfl
    case hQ16t => exact fun _ _ _ h => h
    case hy16t => exact Or.inr ⟨by rfl, rfl⟩
    case hS16t => assumption
    try simp only [Act.put, List.setIfInBounds_toArray, List.set_cons_zero, List.set_cons_succ]
    refine wpAnyH_take (i := 17) (oi := ?oi17t) (v := undef) ?hi17t ?hs17t ?hf17t ?hr17t ?hQ17t ?hy17t ?hS17t ?_
    case hi17t => refine getq ?_; rfl
    case hs17t => kernel_rfl
    case hf17t => kernel_rfl
    case hr17t => kernel_rfl
    case hQ17t => exact fun _ _ _ h => h
    case hy17t => exact Or.inr ⟨by rfl, rfl⟩
    case hS17t => assumption
    try simp only [Act.put, List.setIfInBounds_toArray, List.set_cons_zero, List.set_cons_succ]
    refine wpAnyH_take (i := 18) (oi := ?oi18t) (v := ?v18t) ?hi18t ?hs18t ?hf18t ?hr18t ?hQ18t ?hy18t ?hS18t ?_
    case hi18t => refine getq ?_; rfl
    case hs18t => kernel_rfl
    case hf18t => kernel_rfl
    case hr18t => kernel_rfl
    case hQ18t => exact fun _ _ _ h => h
    case hy18t => (refine Or.inl ⟨by rfl, ?_⟩; intro w hSw; go_simp; try with_reducible rfl)
    case hS18t => assumption
    try simp only [Act.put, List.setIfInBounds_toArray, List.set_cons_zero, List.set_cons_succ]
    refine wpAnyH_take (i := 19) (oi := ?oi20t) (v := ?v20t) ?hi20t ?hs20t ?hf20t ?hr20t ?hQ20t ?hy20t ?hS20t ?_
    case hi20t => refine getq ?_; rfl
    case hs20t => kernel_rfl
    case hf20t => kernel_rfl
    case hr20t => kernel_rfl
    case hQ20t => exact fun _ _ _ h => h
    case hy20t => (refine Or.inl ⟨by rfl, ?_⟩; intro w hSw; go_simp; try with_reducible rfl)
    case hS20t => assumption
    try simp only [Act.put, List.setIfInBounds_toArray, List.set_cons_zero, List.set_cons_succ]
    refine wpAnyH_take (i := 20) (oi := ?oi21t) (v := ?v21t) ?hi21t ?hs21t ?hf21t ?hr21t ?hQ21t ?hy21t ?hS21t ?_
    case hi21t => refine getq ?_; rfl
    case hs21t => kernel_rfl
    case hf21t => kernel_rfl
    case hr21t => kernel_rfl
    case hQ21t => exact fun _ _ _ h => h
    case hy21t => (refine Or.inl ⟨by rfl, ?_⟩; intro w hSw; go_simp; try with_reducible rfl)
    case hS21t => assumption
    try simp only [Act.put, List.setIfInBounds_toArray, List.set_cons_zero, List.set_cons_succ]
    refine wpAnyH_take (i := 21) (oi := ?oi22t) (v := ?v22t) ?hi22t ?hs22t ?hf22t ?hr22t ?hQ22t ?hy22t ?hS22t ?_
    case hi22t => refine getq ?_; rfl
    case hs22t => kernel_rfl
    case hf22t => kernel_rfl
    case hr22t => kernel_rfl
    case hQ22t => exact fun _ _ _ h => h
    case hy22t => (refine Or.inl ⟨by rfl, ?_⟩; intro w hSw; go_simp; try with_reducible rfl)
    case hS22t => assumption
    try simp only [Act.put, List.setIfInBounds_toArray, List.set_cons_zero, List.set_cons_succ]
    refine wpAnyH_ready (rs := [22]) (by kernel_rfl) (by simp) ?_
    refine AllReadyH.cons (o := ?o23t) ?ho23t (fun K hK => ?_) AllReadyH.nil
    case ho23t => refine getq ?_; rfl
    go_simp
    go_at_call 11
    refine (awake6_calls _ (by exact box_env he (by assumption))).mono ?_
    rintro e w22 ⟨rfl, hb22⟩
    go_wp2_with fail
    refine hK.out _ _ (box_next hb22 (by assumption)) (fun hHeld22 => ?_)
    try simp only [Act.put, List.setIfInBounds_toArray, List.set_cons_zero, List.set_cons_succ]
    refine wpAnyH_take (i := 23) (oi := ?oi24t) (v := ?v24t) ?hi24t ?hs24t ?hf24t ?hr24t ?hQ24t ?hy24t ?hS24t ?_
    case hi24t => refine getq ?_; rfl
    case hs24t => kernel_rfl
    case hf24t => kernel_rfl
    case hr24t => kernel_rfl
    case hQ24t => exact fun _ _ _ h => h
    case hy24t => (refine Or.inl ⟨by rfl, ?_⟩; intro w hSw; go_simp; try with_reducible rfl)
    case hS24t => assumption
    try simp only [Act.put, List.setIfInBounds_toArray, List.set_cons_zero, List.set_cons_succ]
    refine wpAnyH_take (i := 24) (oi := ?oi25t) (v := ?v25t) ?hi25t ?hs25t ?hf25t ?hr25t ?hQ25t ?hy25t ?hS25t ?_
    case hi25t => refine getq ?_; rfl
    case hs25t => kernel_rfl
    case hf25t => kernel_rfl
    case hr25t => kernel_rfl
    case hQ25t => exact fun _ _ _ h => h
    case hy25t => (refine Or.inl ⟨by rfl, ?_⟩; intro w hSw; go_simp; try with_reducible rfl)
    case hS25t => assumption
    try simp only [Act.put, List.setIfInBounds_toArray, List.set_cons_zero, List.set_cons_succ]
    refine wpAnyH_done (by kernel_rfl) ?_ _
    go_wp2
    go_ret
    exact ⟨rfl, box_below (by assumption)⟩
  | false =>
    go_enter Tryd.func3, Tryd.ntmps3
    go_wp2_with fail
    refine wp_region_held_drew (S := fun W => Aside0 (W.heap[w.heap.size]? = some (.cells (In.cs ⟨op, d, s, t, u, a, k, q⟩) 24 (0, 0)) ∧ Below w.heap.size w W) ∧
            W.cell? ⟨w.heap.size, 0, none⟩ = some (.int .i64 op) ∧ W.cell? ⟨w.heap.size, 1, none⟩ = some (.int .i64 d) ∧ W.cell? ⟨w.heap.size, 2, none⟩ = some (.int .i64 s) ∧ W.cell? ⟨w.heap.size, 3, none⟩ = some (.int .i64 t) ∧
            W.cell? ⟨w.heap.size, 4, none⟩ = some (.int .i64 u) ∧ W.cell? ⟨w.heap.size, 5, none⟩ = some (.int .i64 a) ∧ W.cell? ⟨w.heap.size, 6, none⟩ = some (.int .u32 k) ∧ W.cell? ⟨w.heap.size, 7, none⟩ = some (.int .i64 q)) (by kernel_rfl) hS (fun hHeld0 => ?_)
    refine wpAnyH_take (i := 0) (oi := ?oi1f) (v := ?v1f) ?hi1f ?hs1f ?hf1f ?hr1f ?hQ1f ?hy1f ?hS1f ?_
    case hi1f => refine getq ?_; rfl
    case hs1f => kernel_rfl
    case hf1f => kernel_rfl
    case hr1f => kernel_rfl
    case hQ1f => exact fun _ _ _ h => h
    case hy1f => (refine Or.inl ⟨by rfl, ?_⟩; intro w hSw; go_simp; try with_reducible rfl)
    case hS1f => assumption
    try simp only [Act.put, List.setIfInBounds_toArray, List.set_cons_zero, List.set_cons_succ]
    refine wpAnyH_take (i := 1) (oi := ?oi2f) (v := ?v2f) ?hi2f ?hs2f ?hf2f ?hr2f ?hQ2f ?hy2f ?hS2f ?_
    case hi2f => refine getq ?_; rfl
    case hs2f => kernel_rfl
    case hf2f => kernel_rfl
    case hr2f => kernel_rfl
    case hQ2f => exact fun _ _ _ h => h
    case hy2f => (refine Or.inl ⟨by rfl, ?_⟩; intro w hSw; go_simp; try with_reducible rfl)
    case hS2f => assumption
    try simp only [Act.put, List.setIfInBounds_toArray, List.set_cons_zero, List.set_cons_succ]
    refine wpAnyH_take (i := 3) (oi := ?oi3f) (v := ?v3f) ?hi3f ?hs3f ?hf3f ?hr3f ?hQ3f ?hy3f ?hS3f ?_
    case hi3f => refine getq ?_; rfl
    case hs3f => kernel_rfl
    case hf3f => kernel_rfl
    case hr3f => kernel_rfl
    case hQ3f => exact fun _ _ _ h => h
    case hy3f => (refine Or.inl ⟨by rfl, ?_⟩; intro w hSw; go_simp; try with_reducible rfl)
    case hS3f => assumption
    try simp only [Act.put, List.setIfInBounds_toArray, List.set_cons_zero, List.set_cons_succ]
    refine wpAnyH_take (i := 5) (oi := ?oi4f) (v := ?v4f) ?hi4f ?hs4f ?hf4f ?hr4f ?hQ4f ?hy4f ?hS4f ?_
    case hi4f => refine getq ?_; rfl
    case hs4f => kernel_rfl
    case hf4f => kernel_rfl
    case hr4f => kernel_rfl
    case hQ4f => exact fun _ _ _ h => h
    case hy4f => (refine Or.inl ⟨by rfl, ?_⟩; intro w hSw; go_simp; try with_reducible rfl)
    case hS4f => assumption
    try simp only [Act.put, List.setIfInBounds_toArray, List.set_cons_zero, List.set_cons_succ]
    refine wpAnyH_ready (rs := [2]) (by kernel_rfl) (by simp) ?_
    refine AllReadyH.cons (o := ?o5f) ?ho5f (fun K hK => ?_) AllReadyH.nil
    case ho5f => refine getq ?_; rfl
    go_simp
    go_at_call 7
    refine (C1.out _).mono ?_
    rintro e w2 ⟨rfl, hb2⟩
    go_wp2_with fail
    refine hK.out _ _ (box_next hb2 (by assumption)) (fun hHeld2 => ?_)
    try simp only [Act.put, List.setIfInBounds_toArray, List.set_cons_zero, List.set_cons_succ]
    refine wpAnyH_ready (rs := [4]) (by kernel_rfl) (by simp) ?_
    refine AllReadyH.cons (o := ?o6f) ?ho6f (fun K hK => ?_) AllReadyH.nil
    case ho6f => refine getq ?_; rfl
    go_simp
    go_at_call 9
    refine (C3.out _).mono ?_
    rintro e w4 ⟨rfl, hb4⟩
    go_wp2_with fail
    refine hK.out _ _ (box_next hb4 (by assumption)) (fun hHeld4 => ?_)
    try simp only [Act.put, List.setIfInBounds_toArray, List.set_cons_zero, List.set_cons_succ]
    refine wpAnyH_ready (rs := [6]) (by kernel_rfl) (by simp) ?_
    refine AllReadyH.cons (o := ?o7f) ?ho7f (fun K hK => ?_) AllReadyH.nil
    case ho7f => refine getq ?_; rfl
    go_simp
    go_at_call 8
    refine (C2.out _).mono ?_
    rintro e w6 ⟨rfl, hb6⟩
    go_wp2_with fail
    refine hK.out _ _ (box_next hb6 (by assumption)) (fun hHeld6 => ?_)
    try simp only [Act.put, List.setIfInBounds_toArray, List.set_cons_zero, List.set_cons_succ]
    refine wpAnyH_take (i := 7) (oi := ?oi8f) (v := ?v8f) ?hi8f ?hs8f ?hf8f ?hr8f ?hQ8f ?hy8f ?hS8f ?_
    case hi8f => refine getq ?_; rfl
    case hs8f => kernel_rfl
    case hf8f => kernel_rfl
    case hr8f => kernel_rfl
    case hQ8f => exact fun _ _ _ h => h
    case hy8f => (refine Or.inl ⟨by rfl, ?_⟩; intro w hSw; go_simp; try with_reducible rfl)
    case hS8f => assumption
    try simp only [Act.put, List.setIfInBounds_toArray, List.set_cons_zero, List.set_cons_succ]
    refine wpAnyH_take (i := 8) (oi := ?oi9f) (v := ?v9f) ?hi9f ?hs9f ?hf9f ?hr9f ?hQ9f ?hy9f ?hS9f ?_
    case hi9f => refine getq ?_; rfl
    case hs9f => kernel_rfl
    case hf9f => kernel_rfl
    case hr9f => kernel_rfl
    case hQ9f => exact fun _ _ _ h => h
    case hy9f => (refine Or.inl ⟨by rfl, ?_⟩; intro w hSw; go_simp; try with_reducible rfl)
    case hS9f => assumption
    try simp only [Act.put, List.setIfInBounds_toArray, List.set_cons_zero, List.set_cons_succ]
    refine wpAnyH_take (i := 9) (oi := ?oi10f) (v := ?v10f) ?hi10f ?hs10f ?hf10f ?hr10f ?hQ10f ?hy10f ?hS10f ?_
    case hi10f => refine getq ?_; rfl
    case hs10f => kernel_rfl
    case hf10f => kernel_rfl
    case hr10f => kernel_rfl
    case hQ10f => exact fun _ _ _ h => h
    case hy10f => (refine Or.inl ⟨by rfl, ?_⟩; intro w hSw; go_simp; try with_reducible rfl)
    case hS10f => assumption
    try simp only [Act.put, List.setIfInBounds_toArray, List.set_cons_zero, List.set_cons_succ]
    refine wpAnyH_take (i := 11) (oi := ?oi11f) (v := ?v11f) ?hi11f ?hs11f ?hf11f ?hr11f ?hQ11f ?hy11f ?hS11f ?_
    case hi11f => refine getq ?_; rfl
    case hs11f => kernel_rfl
    case hf11f => kernel_rfl
    case hr11f => kernel_rfl
    case hQ11f => exact fun _ _ _ h => h
    case hy11f => (refine Or.inl ⟨by rfl, ?_⟩; intro w hSw; go_simp; try with_reducible rfl)
    case hS11f => assumption
    try simp only [Act.put, List.setIfInBounds_toArray, List.set_cons_zero, List.set_cons_succ]
    refine wpAnyH_take (i := 12) (oi := ?oi12f) (v := ?v12f) ?hi12f ?hs12f ?hf12f ?hr12f ?hQ12f ?hy12f ?hS12f ?_
    case hi12f => refine getq ?_; rfl
    case hs12f => kernel_rfl
    case hf12f => kernel_rfl
    case hr12f => kernel_rfl
    case hQ12f => exact fun _ _ _ h => h
    case hy12f => (refine Or.inl ⟨by rfl, ?_⟩; intro w hSw; go_simp; try with_reducible rfl)
    case hS12f => assumption
    try simp only [Act.put, List.setIfInBounds_toArray, List.set_cons_zero, List.set_cons_succ]
    refine wpAnyH_take (i := 13) (oi := ?oi13f) (v := ?v13f) ?hi13f ?hs13f ?hf13f ?hr13f ?hQ13f ?hy13f ?hS13f ?_
    case hi13f => refine getq ?_; rfl
    case hs13f => kernel_rfl
    case hf13f => kernel_rfl
    case hr13f => kernel_rfl
    case hQ13f => exact fun _ _ _ h => h
    case hy13f => (refine Or.inl ⟨by rfl, ?_⟩; intro w hSw; go_simp; try with_reducible rfl)
    case hS13f => assumption
    try simp only [Act.put, List.setIfInBounds_toArray, List.set_cons_zero, List.set_cons_succ]
    refine wpAnyH_ready (rs := [10]) (by kernel_rfl) (by simp) ?_
    refine AllReadyH.cons (o := ?o19f) ?ho19f (fun K hK => ?_) AllReadyH.nil
    case ho19f => refine getq ?_; rfl
    go_simp
    go_at_call 10
    refine (C4.out _).mono ?_
    rintro e w10 ⟨rfl, hb10⟩
    go_wp2_with fail
    refine hK.out _ _ (box_next hb10 (by assumption)) (fun hHeld10 => ?_)
    try simp only [Act.put, List.setIfInBounds_toArray, List.set_cons_zero, List.set_cons_succ]
    refine wpAnyH_take (i := 14) (oi := ?oi14f) (v := ?v14f) ?hi14f ?hs14f ?hf14f ?hr14f ?hQ14f ?hy14f ?hS14f ?_
    case hi14f => refine getq ?_; rfl
    case hs14f => kernel_rfl
    case hf14f => kernel_rfl
    case hr14f => kernel_rfl
    case hQ14f => exact fun _ _ _ h => h
    case hy14f => (refine Or.inl ⟨by rfl, ?_⟩; intro w hSw; go_simp; try with_reducible rfl)
    case hS14f => assumption
    try simp only [Act.put, List.setIfInBounds_toArray, List.set_cons_zero, List.set_cons_succ]
    refine wpAnyH_take (i := 15) (oi := ?oi15f) (v := undef) ?hi15f ?hs15f ?hf15f ?hr15f ?hQ15f ?hy15f ?hS15f ?_
    case hi15f => refine getq ?_; rfl
    case hs15f => kernel_rfl
    case hf15f => kernel_rfl
    case hr15f => kernel_rfl
    case hQ15f => exact fun _ _ _ h => h
    case hy15f => exact Or.inr ⟨by rfl, rfl⟩
    case hS15f => assumption
    try simp only [Act.put, List.setIfInBounds_toArray, List.set_cons_zero, List.set_cons_succ]
    refine wpAnyH_take (i := 16) (oi := ?oi16f) (v := undef) ?hi16f ?hs16f ?hf16f ?hr16f ?hQ16f ?hy16f ?hS16f ?_
    case hi16f => refine getq ?_; rfl
    case hs16f => kernel_rfl
    case hf16f => kernel_rfl
    case hr16f => kernel_rfl
    case hQ16f => exact fun _ _ _ h => h
    case hy16f => exact Or.inr ⟨by rfl, rfl⟩
    case hS16f => assumption
    try simp only [Act.put, List.setIfInBounds_toArray, List.set_cons_zero, List.set_cons_succ]
    refine wpAnyH_take (i := 17) (oi := ?oi17f) (v := undef) ?hi17f ?hs17f ?hf17f ?hr17f ?hQ17f ?hy17f ?hS17f ?_
    case hi17f => refine getq ?_; rfl
    case hs17f => kernel_rfl
    case hf17f => kernel_rfl
    case hr17f => kernel_rfl
    case hQ17f => exact fun _ _ _ h => h
    case hy17f => exact Or.inr ⟨by rfl, rfl⟩
    case hS17f => assumption
    try simp only [Act.put, List.setIfInBounds_toArray, List.set_cons_zero, List.set_cons_succ]
    refine wpAnyH_take (i := 18) (oi := ?oi18f) (v := ?v18f) ?hi18f ?hs18f ?hf18f ?hr18f ?hQ18f ?hy18f ?hS18f ?_
    case hi18f => refine getq ?_; rfl
    case hs18f => kernel_rfl
    case hf18f => kernel_rfl
    case hr18f => kernel_rfl
    case hQ18f => exact fun _ _ _ h => h
    case hy18f => (refine Or.inl ⟨by rfl, ?_⟩; intro w hSw; go_simp; try with_reducible rfl)
    case hS18f => assumption
    try simp only [Act.put, List.setIfInBounds_toArray, List.set_cons_zero, List.set_cons_succ]
    refine wpAnyH_take (i := 19) (oi := ?oi20f) (v := ?v20f) ?hi20f ?hs20f ?hf20f ?hr20f ?hQ20f ?hy20f ?hS20f ?_
    case hi20f => refine getq ?_; rfl
    case hs20f => kernel_rfl
    case hf20f => kernel_rfl
    case hr20f => kernel_rfl
    case hQ20f => exact fun _ _ _ h => h
    case hy20f => (refine Or.inl ⟨by rfl, ?_⟩; intro w hSw; go_simp; try with_reducible rfl)
    case hS20f => assumption
    try simp only [Act.put, List.setIfInBounds_toArray, List.set_cons_zero, List.set_cons_succ]
    refine wpAnyH_take (i := 20) (oi := ?oi21f) (v := ?v21f) ?hi21f ?hs21f ?hf21f ?hr21f ?hQ21f ?hy21f ?hS21f ?_
    case hi21f => refine getq ?_; rfl
    case hs21f => kernel_rfl
    case hf21f => kernel_rfl
    case hr21f => kernel_rfl
    case hQ21f => exact fun _ _ _ h => h
    case hy21f => (refine Or.inl ⟨by rfl, ?_⟩; intro w hSw; go_simp; try with_reducible rfl)
    case hS21f => assumption
    try simp only [Act.put, List.setIfInBounds_toArray, List.set_cons_zero, List.set_cons_succ]
    refine wpAnyH_take (i := 21) (oi := ?oi22f) (v := ?v22f) ?hi22f ?hs22f ?hf22f ?hr22f ?hQ22f ?hy22f ?hS22f ?_
    case hi22f => refine getq ?_; rfl
    case hs22f => kernel_rfl
    case hf22f => kernel_rfl
    case hr22f => kernel_rfl
    case hQ22f => exact fun _ _ _ h => h
    case hy22f => (refine Or.inl ⟨by rfl, ?_⟩; intro w hSw; go_simp; try with_reducible rfl)
    case hS22f => assumption
    try simp only [Act.put, List.setIfInBounds_toArray, List.set_cons_zero, List.set_cons_succ]
    refine wpAnyH_ready (rs := [22]) (by kernel_rfl) (by simp) ?_
    refine AllReadyH.cons (o := ?o23f) ?ho23f (fun K hK => ?_) AllReadyH.nil
    case ho23f => refine getq ?_; rfl
    go_simp
    go_at_call 11
    refine (awake6_calls _ (by exact box_env he (by assumption))).mono ?_
    rintro e w22 ⟨rfl, hb22⟩
    go_wp2_with fail
    refine hK.out _ _ (box_next hb22 (by assumption)) (fun hHeld22 => ?_)
    try simp only [Act.put, List.setIfInBounds_toArray, List.set_cons_zero, List.set_cons_succ]
    refine wpAnyH_take (i := 23) (oi := ?oi24f) (v := ?v24f) ?hi24f ?hs24f ?hf24f ?hr24f ?hQ24f ?hy24f ?hS24f ?_
    case hi24f => refine getq ?_; rfl
    case hs24f => kernel_rfl
    case hf24f => kernel_rfl
    case hr24f => kernel_rfl
    case hQ24f => exact fun _ _ _ h => h
    case hy24f => (refine Or.inl ⟨by rfl, ?_⟩; intro w hSw; go_simp; try with_reducible rfl)
    case hS24f => assumption
    try simp only [Act.put, List.setIfInBounds_toArray, List.set_cons_zero, List.set_cons_succ]
    refine wpAnyH_take (i := 24) (oi := ?oi25f) (v := ?v25f) ?hi25f ?hs25f ?hf25f ?hr25f ?hQ25f ?hy25f ?hS25f ?_
    case hi25f => refine getq ?_; rfl
    case hs25f => kernel_rfl
    case hf25f => kernel_rfl
    case hr25f => kernel_rfl
    case hQ25f => exact fun _ _ _ h => h
    case hy25f => (refine Or.inl ⟨by rfl, ?_⟩; intro w hSw; go_simp; try with_reducible rfl)
    case hS25f => assumption
    try simp only [Act.put, List.setIfInBounds_toArray, List.set_cons_zero, List.set_cons_succ]
    refine wpAnyH_done (by kernel_rfl) ?_ _
    go_wp2
    go_ret
    exact ⟨rfl, box_below (by assumption)⟩
end Go.Proofs.YtfbblligbacppaaDoor

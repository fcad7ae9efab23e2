/- InstRight: whatever the instruction and the number of places: true; the memory that was there is as it was. -/
import Derived.Test.YtfbblligbacppaaDoorLawRightA
namespace Go.Proofs.YtfbblligbacppaaDoor
open Go.RowKit Go.Proofs.YtfbblligbacppaaDoorW.PrintWords
set_option linter.unusedVariables false
set_option linter.unusedSimpArgs false

set_option maxHeartbeats 4000000 in
set_option maxRecDepth 100000 in
theorem law_right (op d s t u a k q places : Int) (hwk : 0 ≤ k ∧ k ≤ 4294967295) (w : World) (he : Env w) :
    Calls Tryd.prog 3 #[.agg #[.int .i64 op, .int .i64 d, .int .i64 s, .int .i64 t, .int .i64 u, .int .i64 a, .int .u32 k, .int .i64 q], .int .i64 places] w fun e w' => e = .returned (.bool true) ∧ Below w.heap.size w w' := by
  have C1 := right_calls ⟨op, d, s, t, u, a, k, q⟩ places hwk
  have C2 := refright_calls ⟨op, d, s, t, u, a, k, q⟩ places hwk
  have C3 := ref_calls ⟨op, d, s, t, u, a, k, q⟩
  have C4 := memory_is ⟨op, d, s, t, u, a, k, q⟩
  generalize rightF ⟨op, d, s, t, u, a, k, q⟩ places = R at C1 C2
  have hm : memB op = decide (16 ≤ op ∧ op ≤ 23) := rfl
  dsimp only [In.v] at C1 C2 C3 C4
  replace C1 := Aside0.mk C1
  replace C2 := Aside0.mk C2
  replace C3 := Aside0.mk C3
  replace C4 := Aside0.mk C4
  have hS := box_cells (w := w) (W := (w.alloc (.cells (In.cs ⟨op, d, s, t, u, a, k, q⟩) 24)).drew) ⟨blk_drew (blk_new w (.cells (In.cs ⟨op, d, s, t, u, a, k, q⟩) 24)), below_drew ((Below.refl w.heap.size w).alloc (Nat.le_refl _) _)⟩
  by_cases h1 : 16 ≤ op
  · by_cases h2 : op ≤ 23
    · have hmt : memB op = true := decide_eq_true ⟨h1, h2⟩
      rw [hmt] at C4
      clear hm hmt
      cases R with
      | true =>
        go_enter Tryd.func3, Tryd.ntmps3
        go_wp2_with fail
        go_region_held3 (fun W => Aside0 (W.heap[w.heap.size]? = some (.cells (In.cs ⟨op, d, s, t, u, a, k, q⟩) 24 (0, 0)) ∧ Below w.heap.size w W) ∧
            W.cell? ⟨w.heap.size, 0, none⟩ = some (.int .i64 op) ∧ W.cell? ⟨w.heap.size, 1, none⟩ = some (.int .i64 d) ∧ W.cell? ⟨w.heap.size, 2, none⟩ = some (.int .i64 s) ∧ W.cell? ⟨w.heap.size, 3, none⟩ = some (.int .i64 t) ∧
            W.cell? ⟨w.heap.size, 4, none⟩ = some (.int .i64 u) ∧ W.cell? ⟨w.heap.size, 5, none⟩ = some (.int .i64 a) ∧ W.cell? ⟨w.heap.size, 6, none⟩ = some (.int .u32 k) ∧ W.cell? ⟨w.heap.size, 7, none⟩ = some (.int .i64 q))
          (first | exact hS | exact box_next hb (by assumption))
          (first
            | (go_at_call 7; refine (C1.out _).mono ?_; rintro e w' ⟨rfl, hb⟩)
            | (go_at_call 8; refine (C2.out _).mono ?_; rintro e w' ⟨rfl, hb⟩)
            | (go_at_call 9; refine (C3.out _).mono ?_; rintro e w' ⟨rfl, hb⟩)
            | (go_at_call 10; refine (C4.out _).mono ?_; rintro e w' ⟨rfl, hb⟩)
            | (go_at_call 11; refine (awake6_calls _ (by exact box_env he (by assumption))).mono ?_; rintro e w' ⟨rfl, hb⟩))
        go_wp2
        go_ret
        exact ⟨rfl, box_below (by assumption)⟩
      | false =>
        go_enter Tryd.func3, Tryd.ntmps3
        go_wp2_with fail
        go_region_held3 (fun W => Aside0 (W.heap[w.heap.size]? = some (.cells (In.cs ⟨op, d, s, t, u, a, k, q⟩) 24 (0, 0)) ∧ Below w.heap.size w W) ∧
            W.cell? ⟨w.heap.size, 0, none⟩ = some (.int .i64 op) ∧ W.cell? ⟨w.heap.size, 1, none⟩ = some (.int .i64 d) ∧ W.cell? ⟨w.heap.size, 2, none⟩ = some (.int .i64 s) ∧ W.cell? ⟨w.heap.size, 3, none⟩ = some (.int .i64 t) ∧
            W.cell? ⟨w.heap.size, 4, none⟩ = some (.int .i64 u) ∧ W.cell? ⟨w.heap.size, 5, none⟩ = some (.int .i64 a) ∧ W.cell? ⟨w.heap.size, 6, none⟩ = some (.int .u32 k) ∧ W.cell? ⟨w.heap.size, 7, none⟩ = some (.int .i64 q))
          (first | exact hS | exact box_next hb (by assumption))
          (first
            | (go_at_call 7; refine (C1.out _).mono ?_; rintro e w' ⟨rfl, hb⟩)
            | (go_at_call 8; refine (C2.out _).mono ?_; rintro e w' ⟨rfl, hb⟩)
            | (go_at_call 9; refine (C3.out _).mono ?_; rintro e w' ⟨rfl, hb⟩)
            | (go_at_call 10; refine (C4.out _).mono ?_; rintro e w' ⟨rfl, hb⟩)
            | (go_at_call 11; refine (awake6_calls _ (by exact box_env he (by assumption))).mono ?_; rintro e w' ⟨rfl, hb⟩))
        go_wp2
        go_ret
        exact ⟨rfl, box_below (by assumption)⟩
    · have hmt : memB op = false := decide_eq_false (fun h => h2 h.2)
      have h2b : decide (op ≤ 23) = false := decide_eq_false h2
      rw [hmt] at C4
      clear hm hmt
      cases R with
      | true =>
        go_enter Tryd.func3, Tryd.ntmps3
        go_wp2_with fail
        go_region_held3 (fun W => Aside0 (W.heap[w.heap.size]? = some (.cells (In.cs ⟨op, d, s, t, u, a, k, q⟩) 24 (0, 0)) ∧ Below w.heap.size w W) ∧
            W.cell? ⟨w.heap.size, 0, none⟩ = some (.int .i64 op) ∧ W.cell? ⟨w.heap.size, 1, none⟩ = some (.int .i64 d) ∧ W.cell? ⟨w.heap.size, 2, none⟩ = some (.int .i64 s) ∧ W.cell? ⟨w.heap.size, 3, none⟩ = some (.int .i64 t) ∧
            W.cell? ⟨w.heap.size, 4, none⟩ = some (.int .i64 u) ∧ W.cell? ⟨w.heap.size, 5, none⟩ = some (.int .i64 a) ∧ W.cell? ⟨w.heap.size, 6, none⟩ = some (.int .u32 k) ∧ W.cell? ⟨w.heap.size, 7, none⟩ = some (.int .i64 q))
          (first | exact hS | exact box_next hb (by assumption))
          (first
            | (go_at_call 7; refine (C1.out _).mono ?_; rintro e w' ⟨rfl, hb⟩)
            | (go_at_call 8; refine (C2.out _).mono ?_; rintro e w' ⟨rfl, hb⟩)
            | (go_at_call 9; refine (C3.out _).mono ?_; rintro e w' ⟨rfl, hb⟩)
            | (go_at_call 10; refine (C4.out _).mono ?_; rintro e w' ⟨rfl, hb⟩)
            | (go_at_call 11; refine (awake6_calls _ (by exact box_env he (by assumption))).mono ?_; rintro e w' ⟨rfl, hb⟩))
        go_wp2
        go_ret
        exact ⟨rfl, box_below (by assumption)⟩
      | false =>
        go_enter Tryd.func3, Tryd.ntmps3
        go_wp2_with fail
        go_region_held3 (fun W => Aside0 (W.heap[w.heap.size]? = some (.cells (In.cs ⟨op, d, s, t, u, a, k, q⟩) 24 (0, 0)) ∧ Below w.heap.size w W) ∧
            W.cell? ⟨w.heap.size, 0, none⟩ = some (.int .i64 op) ∧ W.cell? ⟨w.heap.size, 1, none⟩ = some (.int .i64 d) ∧ W.cell? ⟨w.heap.size, 2, none⟩ = some (.int .i64 s) ∧ W.cell? ⟨w.heap.size, 3, none⟩ = some (.int .i64 t) ∧
            W.cell? ⟨w.heap.size, 4, none⟩ = some (.int .i64 u) ∧ W.cell? ⟨w.heap.size, 5, none⟩ = some (.int .i64 a) ∧ W.cell? ⟨w.heap.size, 6, none⟩ = some (.int .u32 k) ∧ W.cell? ⟨w.heap.size, 7, none⟩ = some (.int .i64 q))
          (first | exact hS | exact box_next hb (by assumption))
          (first
            | (go_at_call 7; refine (C1.out _).mono ?_; rintro e w' ⟨rfl, hb⟩)
            | (go_at_call 8; refine (C2.out _).mono ?_; rintro e w' ⟨rfl, hb⟩)
            | (go_at_call 9; refine (C3.out _).mono ?_; rintro e w' ⟨rfl, hb⟩)
            | (go_at_call 10; refine (C4.out _).mono ?_; rintro e w' ⟨rfl, hb⟩)
            | (go_at_call 11; refine (awake6_calls _ (by exact box_env he (by assumption))).mono ?_; rintro e w' ⟨rfl, hb⟩))
        go_wp2
        go_ret
        exact ⟨rfl, box_below (by assumption)⟩
  · exact law_right_low op d s t u a k q places h1 hwk w he
end Go.Proofs.YtfbblligbacppaaDoor

/- ropelinelaw06.awake: the document's example holds; inst.Memory; Ref. -/
import Derived.Test.YtbkbkikbfbmbdaaDoorParse
import Derived.Test.YtbkbkikbfbmbdaaDoorEqInst
namespace Go.Proofs.YtbkbkikbfbmbdaaDoor
open Go.RowKit Go.Proofs.YtbkbkikbfbmbdaaDoorW.PrintWords
set_option linter.unusedVariables false

def exIn : In := ⟨21, 2, 0, 1, 0, 1, 0, 7⟩
theorem ex_parse : parseF [97, 119, 97, 105, 116, 32, 114, 50, 32, 49, 32, 114, 48, 32, 101, 113, 32, 114, 49, 32, 101, 108, 115, 101, 32, 55] = (exIn, 0) := by decide +kernel
theorem ex_8 : rightF exIn 8 = true := by decide +kernel
theorem ex_7 : rightF exIn 7 = false := by decide +kernel

def memB (op : Int) : Bool := decide (16 ≤ op ∧ op ≤ 23)
set_option maxHeartbeats 400000 in
theorem memory_is (i : In) (w : World) :
    Calls Tryd.prog 10 #[i.v] w fun e w' => e = .returned (.bool (memB i.op)) ∧ Below w.heap.size w w' := by
  have hB := Aside0.mk (((Below.refl w.heap.size w).alloc (Nat.le_refl _) (.cells i.cs 24)))
  cases i with
  | mk op d s t u a k q =>
    by_cases h1 : 16 ≤ op
    · by_cases h2 : op ≤ 23
      · have e : memB op = true := decide_eq_true ⟨h1, h2⟩
        have e' := Aside0.mk e
        clear e
        unfold In.v
        go_enter Tryd.func10, Tryd.ntmps10
        go_wp2
        go_ret
        exact ⟨ret_bool (by first | (rw [e'.out]; done) | (rw [e'.out]; simp; try omega)), hB.out⟩
      · have e : memB op = false := decide_eq_false (fun h => h2 h.2)
        have e' := Aside0.mk e
        clear e
        unfold In.v
        go_enter Tryd.func10, Tryd.ntmps10
        go_wp2
        go_ret
        exact ⟨ret_bool (by first | (rw [e'.out]; done) | (rw [e'.out]; simp; try omega)), hB.out⟩
    · have e : memB op = false := decide_eq_false (fun h => h1 h.1)
      have e' := Aside0.mk e
      clear e
      unfold In.v
      go_enter Tryd.func10, Tryd.ntmps10
      go_wp2
      go_ret
      exact ⟨ret_bool (by first | (rw [e'.out]; done) | (rw [e'.out]; simp; try omega)), hB.out⟩

set_option maxHeartbeats 400000 in
set_option maxRecDepth 100000 in
theorem awake6_calls (w : World) (he : Env w) : Calls Tryd.prog 11 #[] w fun e w' => e = .returned (.bool true) ∧ Below w.heap.size w w' := by
  have hp := parse_calls [97, 119, 97, 105, 116, 32, 114, 50, 32, 49, 32, 114, 48, 32, 101, 113, 32, 114, 49, 32, 101, 108, 115, 101, 32, 55] w he (by decide)
  rw [ex_parse] at hp
  replace hp := Aside0.mk hp
  have keq : ∀ W, (binOp .eql 24 exIn.v exIn.v).run Tryd.prog W = .ok (.bool true) W := fun W => by
    have := eql_a exIn exIn W
    rw [decide_eq_true rfl] at this
    exact this
  simp only [In.v, exIn] at keq
  have h8 := Aside0.mk ex_8
  have h7 := Aside0.mk ex_7
  go_enter Tryd.func11, Tryd.ntmps11
  go_wp2_with fail
  refine hp.out.mono ?_
  rintro e w1 ⟨rfl, hb1⟩
  unfold exIn In.v
  go_wp2_with fail
  refine (memory_is exIn _).mono ?_
  rintro e w2 ⟨rfl, hb2⟩
  have hz2 := hb2.size
  simp at hz2
  have BK2 := Aside0.mk (blk_keep hb2 (blk_new w1 (.cells exIn.cs 24)))
  have cw20 : w2.cell? ⟨w1.heap.size, 0, none⟩ = some (.int .i64 21) := (blk_cell BK2.out 0).trans rfl
  have cw21 : w2.cell? ⟨w1.heap.size, 1, none⟩ = some (.int .i64 2) := (blk_cell BK2.out 1).trans rfl
  have cw22 : w2.cell? ⟨w1.heap.size, 2, none⟩ = some (.int .i64 0) := (blk_cell BK2.out 2).trans rfl
  have cw23 : w2.cell? ⟨w1.heap.size, 3, none⟩ = some (.int .i64 1) := (blk_cell BK2.out 3).trans rfl
  have cw24 : w2.cell? ⟨w1.heap.size, 4, none⟩ = some (.int .i64 0) := (blk_cell BK2.out 4).trans rfl
  have cw25 : w2.cell? ⟨w1.heap.size, 5, none⟩ = some (.int .i64 1) := (blk_cell BK2.out 5).trans rfl
  have cw26 : w2.cell? ⟨w1.heap.size, 6, none⟩ = some (.int .u32 0) := (blk_cell BK2.out 6).trans rfl
  have cw27 : w2.cell? ⟨w1.heap.size, 7, none⟩ = some (.int .i64 7) := (blk_cell BK2.out 7).trans rfl
  go_wp2_with fail
  refine (right_calls exIn 8 ⟨by decide, by decide⟩ _).mono ?_
  rintro e w3 ⟨rfl, hb3⟩
  rw [h8.out]
  have hz3 := hb3.size
  have BK3 := Aside0.mk (blk_keep hb3 BK2.out)
  have cw30 : w3.cell? ⟨w1.heap.size, 0, none⟩ = some (.int .i64 21) := (blk_cell BK3.out 0).trans rfl
  have cw31 : w3.cell? ⟨w1.heap.size, 1, none⟩ = some (.int .i64 2) := (blk_cell BK3.out 1).trans rfl
  have cw32 : w3.cell? ⟨w1.heap.size, 2, none⟩ = some (.int .i64 0) := (blk_cell BK3.out 2).trans rfl
  have cw33 : w3.cell? ⟨w1.heap.size, 3, none⟩ = some (.int .i64 1) := (blk_cell BK3.out 3).trans rfl
  have cw34 : w3.cell? ⟨w1.heap.size, 4, none⟩ = some (.int .i64 0) := (blk_cell BK3.out 4).trans rfl
  have cw35 : w3.cell? ⟨w1.heap.size, 5, none⟩ = some (.int .i64 1) := (blk_cell BK3.out 5).trans rfl
  have cw36 : w3.cell? ⟨w1.heap.size, 6, none⟩ = some (.int .u32 0) := (blk_cell BK3.out 6).trans rfl
  have cw37 : w3.cell? ⟨w1.heap.size, 7, none⟩ = some (.int .i64 7) := (blk_cell BK3.out 7).trans rfl
  go_wp2_with fail
  refine (right_calls exIn 7 ⟨by decide, by decide⟩ _).mono ?_
  rintro e w4 ⟨rfl, hb4⟩
  rw [h7.out]
  go_wp2
  go_ret
  exact ⟨rfl, (((hb1.alloc hb1.size _).trans (hb2.mono (by simp; have := hb1.size; omega))).trans (hb3.mono (by have := hb1.size; omega))).trans (hb4.mono (by have := hb1.size; omega))⟩

/-- Ref: the document's instruction. -/
theorem ref_calls (i : In) (w : World) : Calls Tryd.prog 9 #[i.v] w fun e w' => e = .returned i.v ∧ Below w.heap.size w w' := by
  cases i with
  | mk op d s t u a k q =>
    unfold In.v
    go_enter Tryd.func9, Tryd.ntmps9
    go_wp2
    refine bodyPost_ret (results_cell_row rfl _ _ (w.heap.size + 1) 27 (In.cs ⟨op, d, s, t, u, a, k, q⟩) (0, 0) _ rfl (by exact blk_new2 _ _ _) Tryd.underlying27 rfl (by kernel_rfl)) rfl ⟨rfl, ?_⟩
    apply_rules [Below.setCell, Below.alloc, Below.refl] <;> first | omega | (simp; omega) | simp
end Go.Proofs.YtbkbkikbfbmbdaaDoor

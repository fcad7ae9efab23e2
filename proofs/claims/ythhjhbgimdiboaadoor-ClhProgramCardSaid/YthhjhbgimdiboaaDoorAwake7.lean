/- ropelinelaw07.awake: the document's example of an assembled program. -/
import Derived.Test.YthhjhbgimdiboaaDoorAsmA
import Derived.Test.YthhjhbgimdiboaaDoorAsmEval
import Derived.Test.YthhjhbgimdiboaaDoorEqInst
namespace Go.Proofs.YthhjhbgimdiboaaDoor
open Go.RowKit Go.Proofs.YthhjhbgimdiboaaDoorW.PrintWords
set_option linter.unusedVariables false
set_option linter.unusedSimpArgs false

/-- A row of instructions, cell by cell. -/
theorem InRow.at {W : World} {base : Nat} {v : Value} {xs : List In} (h : InRow W base v xs) (hn : 0 < xs.length) :
    ∃ g c, v = .slice (some ⟨g, 0, none⟩) xs.length c ∧ xs.length ≤ c ∧ base ≤ g ∧ g < W.heap.size ∧ ∀ j u, (inCells xs)[j]? = some u → W.cell? ⟨g, j, none⟩ = some u := by
  obtain ⟨h1, h2⟩ := h
  rcases h2 with ⟨rfl, h0⟩ | ⟨g, cap, cur, rfl, hg, hh, hc, hm, hs, ht⟩
  · omega
  · refine ⟨g, cap, rfl, hc, hg, blk_lt hh, fun j u hj => (blk_cell hh j).trans ?_⟩
    have hlt : j < xs.length * 8 := by rw [← h1]; exact (List.getElem?_eq_some_iff.1 hj).1
    rw [← ht, List.getElem?_take_of_lt hlt, Array.getElem?_toList] at hj
    exact hj

set_option maxHeartbeats 4000000 in
set_option maxRecDepth 100000 in
theorem awake7_calls (w : World) (he : Env w) : Calls Tryd.prog 12 #[] w fun e w' => e = .returned (.bool true) ∧ Below w.heap.size w w' := by
  have C := asm_calls [108, 111, 99, 107, 58, 10, 100, 111, 110, 101, 32, 49, 10, 117, 110, 108, 111, 99, 107, 58, 10, 106, 117, 109, 112, 32, 108, 111, 99, 107, 10] w he (by decide)
  unfold AEnd at C
  rw [eval_awake] at C
  replace C := Aside0.mk C
  have keq : ∀ W, (binOp .eql 67 (In.v ⟨10, 0, 0, 0, 0, 0, 0, 0⟩) (In.v ⟨10, 0, 0, 0, 0, 0, 0, 0⟩)).run Tryd.prog W = .ok (.bool true) W := fun W => by
    have := eql_a ⟨10, 0, 0, 0, 0, 0, 0, 0⟩ ⟨10, 0, 0, 0, 0, 0, 0, 0⟩ W
    rw [decide_eq_true rfl] at this
    exact this
  simp only [In.v] at keq
  go_enter Tryd.func12, Tryd.ntmps12
  go_wp2_with fail
  refine C.out.mono ?_
  rintro e w1 ⟨v, rfl, hr, hb⟩
  obtain ⟨g, c, rfl, hc, hg, hlt, hcells⟩ := hr.at (by decide)
  have b0 : w1.cell? ⟨g, 8, none⟩ = some (.int .i64 10) := hcells 8 _ rfl
  have b1 : w1.cell? ⟨g, 9, none⟩ = some (.int .i64 0) := hcells 9 _ rfl
  have b2 : w1.cell? ⟨g, 10, none⟩ = some (.int .i64 0) := hcells 10 _ rfl
  have b3 : w1.cell? ⟨g, 11, none⟩ = some (.int .i64 0) := hcells 11 _ rfl
  have b4 : w1.cell? ⟨g, 12, none⟩ = some (.int .i64 0) := hcells 12 _ rfl
  have b5 : w1.cell? ⟨g, 13, none⟩ = some (.int .i64 0) := hcells 13 _ rfl
  have b6 : w1.cell? ⟨g, 14, none⟩ = some (.int .u32 0) := hcells 14 _ rfl
  have b7 : w1.cell? ⟨g, 15, none⟩ = some (.int .i64 0) := hcells 15 _ rfl
  have hgne : g ≠ w1.heap.size := Nat.ne_of_lt hlt
  have hb2 := Aside0.mk (hb.alloc hb.size (.cells #[.slice (some ⟨g, 0, none⟩) 2 c, .int .i64 0, .int .i64 1] 24))
  dsimp only [List.length_cons, List.length_nil, Nat.reduceAdd]
  clear hcells hr hb hg hc C
  go_wp2_with fail
  go_ret
  exact ⟨rfl, hb2.out⟩
end Go.Proofs.YthhjhbgimdiboaaDoor

/- ropelineref06: Name, reg. -/
import Derived.Test.YtbkbkikbfbmbdaaDoorKit
import Derived.Great.BuildSlice
import Derived.Great.Walk
import Derived.Test.YtbkbkikbfbmbdaaDoorPlain
namespace Go.Proofs.YtbkbkikbfbmbdaaDoor
open Go.RowKit Go.Proofs.YtbkbkikbfbmbdaaDoorW.PrintWords
set_option linter.unusedVariables false

def regB (n : Int) : Bool := decide (0 ≤ n ∧ n ≤ 7)
set_option maxHeartbeats 400000 in
theorem reg_yes (n : Int) (h : 0 ≤ n ∧ n ≤ 7) (w : World) :
    Calls Tryd.prog 20 #[.int .i64 n] w fun e w' => e = .returned (.bool true) ∧ w = w' := by
  obtain ⟨h1, h2⟩ := h
  go_enter Tryd.func20, Tryd.ntmps20
  go_wp2
  go_ret
  exact ⟨by simp; try omega, rfl⟩
set_option maxHeartbeats 400000 in
theorem reg_no (n : Int) (h : ¬ (0 ≤ n ∧ n ≤ 7)) (w : World) :
    Calls Tryd.prog 20 #[.int .i64 n] w fun e w' => e = .returned (.bool false) ∧ w = w' := by
  by_cases h1 : 0 ≤ n
  · have h2 : ¬ n ≤ 7 := fun x => h ⟨h1, x⟩
    go_enter Tryd.func20, Tryd.ntmps20
    go_wp2
    go_ret
    exact ⟨by simp; try omega, rfl⟩
  · go_enter Tryd.func20, Tryd.ntmps20
    go_wp2
    go_ret
    exact ⟨by simp; try omega, rfl⟩

def nameTab : Array Value := #[.string ⟨#[]⟩, .string ⟨#[99, 111, 110, 115, 116]⟩, .string ⟨#[109, 111, 118, 101]⟩, .string ⟨#[97, 100, 100, 107]⟩, .string ⟨#[97, 110, 100, 107]⟩, .string ⟨#[115, 104, 108]⟩, .string ⟨#[115, 104, 114]⟩, .string ⟨#[111, 114]⟩, .string ⟨#[98, 101, 113]⟩, .string ⟨#[98, 110, 101]⟩, .string ⟨#[106, 117, 109, 112]⟩, .string ⟨#[115, 101, 108, 102]⟩, .string ⟨#[109, 97, 114, 107]⟩, .string ⟨#[100, 111, 110, 101]⟩, .string ⟨#[]⟩, .string ⟨#[]⟩, .string ⟨#[108, 111, 97, 100]⟩, .string ⟨#[115, 116, 111, 114, 101]⟩, .string ⟨#[115, 119, 97, 112]⟩, .string ⟨#[99, 97, 115]⟩, .string ⟨#[102, 97, 100, 100]⟩, .string ⟨#[97, 119, 97, 105, 116]⟩, .string ⟨#[116, 97, 107, 101]⟩, .string ⟨#[102, 114, 101, 101]⟩]
def zeroTab : Array Value := Array.replicate 24 (.string ⟨#[]⟩)
theorem nameTab_at (n : Nat) (h1 : 1 ≤ n) (h2 : n ≤ 23) : nameTab[n]? = some (.string ⟨(opName (n : Int)).toArray⟩) := by
  have : n = 1 ∨ n = 2 ∨ n = 3 ∨ n = 4 ∨ n = 5 ∨ n = 6 ∨ n = 7 ∨ n = 8 ∨ n = 9 ∨ n = 10 ∨ n = 11 ∨ n = 12 ∨ n = 13 ∨ n = 14 ∨ n = 15 ∨ n = 16 ∨ n = 17 ∨ n = 18 ∨ n = 19 ∨ n = 20 ∨ n = 21 ∨ n = 22 ∨ n = 23 := by omega
  rcases this with rfl | rfl | rfl | rfl | rfl | rfl | rfl | rfl | rfl | rfl | rfl | rfl | rfl | rfl | rfl | rfl | rfl | rfl | rfl | rfl | rfl | rfl | rfl <;> rfl

set_option maxHeartbeats 1000000 in
set_option maxRecDepth 100000 in
theorem name_calls (op : Int) (w : World) :
    Calls Tryd.prog 19 #[.int .i64 op] w fun e w' => e = .returned (.string ⟨(opName op).toArray⟩) ∧ Below w.heap.size w w' := by
  by_cases h : op < 1 ∨ 23 < op
  · have e : opName op = [] := by unfold opName; repeat (first | rw [if_neg (by omega)] | rfl)
    rw [e]
    clear e
    rcases h with h | h
    · go_enter Tryd.func19, Tryd.ntmps19
      go_wp2_with (first
        | (refine wpList_buildTo rfl 61 _ rfl (some 4) rfl nameTab ?b1 ?_; (case b1 => as_aux_lemma => kernel_rfl))
        | (refine wpList_store_rowTo rfl 61 (.tmp 3) (.tmp 4) rfl rfl w.heap.size nameTab ?hx ?hy 61 #[.string ⟨#[]⟩, .string ⟨#[]⟩, .string ⟨#[]⟩, .string ⟨#[]⟩, .string ⟨#[]⟩, .string ⟨#[]⟩, .string ⟨#[]⟩, .string ⟨#[]⟩, .string ⟨#[]⟩, .string ⟨#[]⟩, .string ⟨#[]⟩, .string ⟨#[]⟩, .string ⟨#[]⟩, .string ⟨#[]⟩, .string ⟨#[]⟩, .string ⟨#[]⟩, .string ⟨#[]⟩, .string ⟨#[]⟩, .string ⟨#[]⟩, .string ⟨#[]⟩, .string ⟨#[]⟩, .string ⟨#[]⟩, .string ⟨#[]⟩, .string ⟨#[]⟩] ?hg ?b3 ?b4 ?b5 ?_; (case hx => rfl); (case hy => rfl); (case hg => exact blk_new _ _); (case b3 => as_aux_lemma => kernel_rfl); (case b4 => rfl); (case b5 => as_aux_lemma => kernel_rfl)))
      go_ret
      exact ⟨rfl, ⟨rfl, rfl, rfl, by simp [World.setRow], fun k hk => (setRow_other _ _ _ _ (by omega)).trans (Below.heap_alloc _ _ _ hk)⟩⟩
    · go_enter Tryd.func19, Tryd.ntmps19
      go_wp2_with (first
        | (refine wpList_buildTo rfl 61 _ rfl (some 4) rfl nameTab ?b1 ?_; (case b1 => as_aux_lemma => kernel_rfl))
        | (refine wpList_store_rowTo rfl 61 (.tmp 3) (.tmp 4) rfl rfl w.heap.size nameTab ?hx ?hy 61 #[.string ⟨#[]⟩, .string ⟨#[]⟩, .string ⟨#[]⟩, .string ⟨#[]⟩, .string ⟨#[]⟩, .string ⟨#[]⟩, .string ⟨#[]⟩, .string ⟨#[]⟩, .string ⟨#[]⟩, .string ⟨#[]⟩, .string ⟨#[]⟩, .string ⟨#[]⟩, .string ⟨#[]⟩, .string ⟨#[]⟩, .string ⟨#[]⟩, .string ⟨#[]⟩, .string ⟨#[]⟩, .string ⟨#[]⟩, .string ⟨#[]⟩, .string ⟨#[]⟩, .string ⟨#[]⟩, .string ⟨#[]⟩, .string ⟨#[]⟩, .string ⟨#[]⟩] ?hg ?b3 ?b4 ?b5 ?_; (case hx => rfl); (case hy => rfl); (case hg => exact blk_new _ _); (case b3 => as_aux_lemma => kernel_rfl); (case b4 => rfl); (case b5 => as_aux_lemma => kernel_rfl)))
      go_ret
      exact ⟨rfl, ⟨rfl, rfl, rfl, by simp [World.setRow], fun k hk => (setRow_other _ _ _ _ (by omega)).trans (Below.heap_alloc _ _ _ hk)⟩⟩
  · obtain ⟨n, rfl⟩ := Int.eq_ofNat_of_zero_le (show 0 ≤ op by omega)
    have h1 : 1 ≤ n := by omega
    have h2 : n ≤ 23 := by omega
    have hc : ((w.alloc (.cells #[.string ⟨#[]⟩, .string ⟨#[]⟩, .string ⟨#[]⟩, .string ⟨#[]⟩, .string ⟨#[]⟩, .string ⟨#[]⟩, .string ⟨#[]⟩, .string ⟨#[]⟩, .string ⟨#[]⟩, .string ⟨#[]⟩, .string ⟨#[]⟩, .string ⟨#[]⟩, .string ⟨#[]⟩, .string ⟨#[]⟩, .string ⟨#[]⟩, .string ⟨#[]⟩, .string ⟨#[]⟩, .string ⟨#[]⟩, .string ⟨#[]⟩, .string ⟨#[]⟩, .string ⟨#[]⟩, .string ⟨#[]⟩, .string ⟨#[]⟩, .string ⟨#[]⟩] 61)).setRow w.heap.size nameTab).cell? ⟨w.heap.size, n, none⟩ = some (.string ⟨(opName (n : Int)).toArray⟩) := (cell_setRow_same _ _ _ _ _ _ _ (blk_new _ _)).trans (nameTab_at n h1 h2)
    clear h
    go_enter Tryd.func19, Tryd.ntmps19
    go_wp2_with (first
      | (refine wpList_buildTo rfl 61 _ rfl (some 4) rfl nameTab ?b1 ?_; (case b1 => as_aux_lemma => kernel_rfl))
      | (refine wpList_store_rowTo rfl 61 (.tmp 3) (.tmp 4) rfl rfl w.heap.size nameTab ?hx ?hy 61 #[.string ⟨#[]⟩, .string ⟨#[]⟩, .string ⟨#[]⟩, .string ⟨#[]⟩, .string ⟨#[]⟩, .string ⟨#[]⟩, .string ⟨#[]⟩, .string ⟨#[]⟩, .string ⟨#[]⟩, .string ⟨#[]⟩, .string ⟨#[]⟩, .string ⟨#[]⟩, .string ⟨#[]⟩, .string ⟨#[]⟩, .string ⟨#[]⟩, .string ⟨#[]⟩, .string ⟨#[]⟩, .string ⟨#[]⟩, .string ⟨#[]⟩, .string ⟨#[]⟩, .string ⟨#[]⟩, .string ⟨#[]⟩, .string ⟨#[]⟩, .string ⟨#[]⟩] ?hg ?b3 ?b4 ?b5 ?_; (case hx => rfl); (case hy => rfl); (case hg => exact blk_new _ _); (case b3 => as_aux_lemma => kernel_rfl); (case b4 => rfl); (case b5 => as_aux_lemma => kernel_rfl)))
    go_ret
    exact ⟨rfl, ⟨rfl, rfl, rfl, by simp [World.setRow], fun k hk => (setRow_other _ _ _ _ (by omega)).trans (Below.heap_alloc _ _ _ hk)⟩⟩
end Go.Proofs.YtbkbkikbfbmbdaaDoor

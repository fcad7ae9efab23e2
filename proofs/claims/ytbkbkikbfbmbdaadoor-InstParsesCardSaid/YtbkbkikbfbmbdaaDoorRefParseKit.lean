/- ropelineref06.Parse: what its walk holds. -/
import Derived.Test.YtbkbkikbfbmbdaaDoorRefSort
import Derived.Test.YtbkbkikbfbmbdaaDoorEnv
import Derived.Test.YtbkbkikbfbmbdaaDoorRefName
import Derived.Test.YtbkbkikbfbmbdaaDoorLawTexts
import Derived.Test.YtbkbkikbfbmbdaaDoorKit
namespace Go.Proofs.YtbkbkikbfbmbdaaDoor
open Go.RowKit Go.Proofs.YtbkbkikbfbmbdaaDoorW.PrintWords
set_option linter.unusedVariables false
set_option linter.unusedSimpArgs false

def blkOf (n : Nat) : Code → Option Code
  | .seq a b => match blkOf n a with
    | some c => some c
    | none => blkOf n b
  | .cond _ a b => match blkOf n a with
    | some c => some c
    | none => blkOf n b
  | .block m c => if m = n then some (.block m c) else blkOf n c
  | .loop c => blkOf n c
  | _ => none
/-- The switch of Parse: its block 8. -/
noncomputable def refSwitch : Code := ((Tryd.f15.body.bind (blkOf 8)).getD .skip)
theorem setF_0 (k x0 x1 x2 x3 y0 y1 : Int) : setF 0 k x0 x1 x2 x3 y0 y1 = ⟨0, 0, 0, 0, 0, 0, k, 0⟩ := by simp [setF]
theorem setF_1 (k x0 x1 x2 x3 y0 y1 : Int) : setF 1 k x0 x1 x2 x3 y0 y1 = ⟨1, x0, x1, x2, 0, 0, y0 % 4294967296, 0⟩ := by simp [setF]
theorem setF_2 (k x0 x1 x2 x3 y0 y1 : Int) : setF 2 k x0 x1 x2 x3 y0 y1 = ⟨2, x0, x1, x2, 0, 0, k, 0⟩ := by simp [setF]
theorem setF_3 (k x0 x1 x2 x3 y0 y1 : Int) : setF 3 k x0 x1 x2 x3 y0 y1 = ⟨3, x0, x1, x2, 0, 0, y0 % 4294967296, 0⟩ := by simp [setF]
theorem setF_4 (k x0 x1 x2 x3 y0 y1 : Int) : setF 4 k x0 x1 x2 x3 y0 y1 = ⟨4, x0, x1, x2, 0, 0, y0 % 4294967296, 0⟩ := by simp [setF]
theorem setF_5 (k x0 x1 x2 x3 y0 y1 : Int) : setF 5 k x0 x1 x2 x3 y0 y1 = ⟨5, x0, x1, x2, 0, 0, y0 % 4294967296, 0⟩ := by simp [setF]
theorem setF_6 (k x0 x1 x2 x3 y0 y1 : Int) : setF 6 k x0 x1 x2 x3 y0 y1 = ⟨6, x0, x1, x2, 0, 0, y0 % 4294967296, 0⟩ := by simp [setF]
theorem setF_7 (k x0 x1 x2 x3 y0 y1 : Int) : setF 7 k x0 x1 x2 x3 y0 y1 = ⟨7, x0, x1, x2, 0, 0, k, 0⟩ := by simp [setF]
theorem setF_8 (k x0 x1 x2 x3 y0 y1 : Int) : setF 8 k x0 x1 x2 x3 y0 y1 = ⟨8, 0, x0, x1, 0, 0, k, y0⟩ := by simp [setF]
theorem setF_9 (k x0 x1 x2 x3 y0 y1 : Int) : setF 9 k x0 x1 x2 x3 y0 y1 = ⟨9, 0, x0, x1, 0, 0, k, y0⟩ := by simp [setF]
theorem setF_10 (k x0 x1 x2 x3 y0 y1 : Int) : setF 10 k x0 x1 x2 x3 y0 y1 = ⟨10, 0, x0, x1, 0, 0, k, y0⟩ := by simp [setF]
theorem setF_11 (k x0 x1 x2 x3 y0 y1 : Int) : setF 11 k x0 x1 x2 x3 y0 y1 = ⟨11, x0, x1, x2, 0, 0, k, 0⟩ := by simp [setF]
theorem setF_12 (k x0 x1 x2 x3 y0 y1 : Int) : setF 12 k x0 x1 x2 x3 y0 y1 = ⟨12, 0, 0, 0, 0, 0, y0 % 4294967296, 0⟩ := by simp [setF]
theorem setF_13 (k x0 x1 x2 x3 y0 y1 : Int) : setF 13 k x0 x1 x2 x3 y0 y1 = ⟨13, 0, 0, 0, 0, 0, y0 % 4294967296, 0⟩ := by simp [setF]
theorem setF_16 (k x0 x1 x2 x3 y0 y1 : Int) : setF 16 k x0 x1 x2 x3 y0 y1 = ⟨16, x0, x1, x2, x3, y0, k, 0⟩ := by simp [setF]
theorem setF_17 (k x0 x1 x2 x3 y0 y1 : Int) : setF 17 k x0 x1 x2 x3 y0 y1 = ⟨17, 0, x0, x1, 0, y0, k, 0⟩ := by simp [setF]
theorem setF_18 (k x0 x1 x2 x3 y0 y1 : Int) : setF 18 k x0 x1 x2 x3 y0 y1 = ⟨18, x0, x1, x2, x3, y0, k, 0⟩ := by simp [setF]
theorem setF_19 (k x0 x1 x2 x3 y0 y1 : Int) : setF 19 k x0 x1 x2 x3 y0 y1 = ⟨19, x0, x1, x2, x3, y0, k, 0⟩ := by simp [setF]
theorem setF_20 (k x0 x1 x2 x3 y0 y1 : Int) : setF 20 k x0 x1 x2 x3 y0 y1 = ⟨20, x0, x1, x2, x3, y0, y1 % 4294967296, 0⟩ := by simp [setF]
theorem setF_21 (k x0 x1 x2 x3 y0 y1 : Int) : setF 21 k x0 x1 x2 x3 y0 y1 = ⟨21, x0, x1, x2, x3, y0, k, y1⟩ := by simp [setF]
theorem setF_22 (k x0 x1 x2 x3 y0 y1 : Int) : setF 22 k x0 x1 x2 x3 y0 y1 = ⟨22, x0, x1, x2, 0, 0, k, 0⟩ := by simp [setF]
theorem setF_23 (k x0 x1 x2 x3 y0 y1 : Int) : setF 23 k x0 x1 x2 x3 y0 y1 = ⟨23, 0, x0, 0, 0, 0, k, 0⟩ := by simp [setF]
/-- What the walk holds: the result's box, the instruction's, the words' row. -/
structure PInv (w W : World) (g5 : Nat) (i : In) (gw : Nat) (cw : Array Value) : Prop where
  b : Below w.heap.size w W
  z : W.heap[w.heap.size]? = some (.cells In.zero.cs 27 (0, 0))
  i : W.heap[g5]? = some (.cells i.cs 27 (0, 0))
  n : w.heap.size < g5
  r : W.heap[gw]? = some (.cells cw 9 (0, 0))
theorem PInv.keep {w W W1 : World} {g5 gw : Nat} {i : In} {cw : Array Value} (h : PInv w W g5 i gw cw) (hb : Below W.heap.size W W1) : PInv w W1 g5 i gw cw :=
  ⟨h.b.trans (hb.mono h.b.size), blk_keep hb h.z, blk_keep hb h.i, h.n, blk_keep hb h.r⟩
theorem PInv.drew {w W : World} {g5 gw : Nat} {i : In} {cw : Array Value} (h : PInv w W g5 i gw cw) : PInv w W.drew g5 i gw cw := ⟨below_drew h.b, blk_drew h.z, blk_drew h.i, h.n, blk_drew h.r⟩
theorem PInv.grown {w W W1 : World} {g5 gw : Nat} {i : In} {cw : Array Value} {v : Value} {xs : List Int} (h : PInv w W g5 i gw cw) (hr : IntRow W w.heap.size v xs) (hg : W.grownBy W1 v.ownBlock) : PInv w W1 g5 i gw cw :=
  ⟨h.b.grown hg h.b.size (fun k hk => own_base hr k hk), blk_grown h.z hg (own_apart hr h.z (by decide)), blk_grown h.i hg (own_apart hr h.i (by decide)), h.n, blk_grown h.r hg (own_apart hr h.r (by decide))⟩
theorem PInv.put {w W : World} {g5 gw : Nat} {i : In} {cw : Array Value} (h : PInv w W g5 i gw cw) (j : Nat) (u : Value) (i' : In) (he : i'.cs = i.cs.setIfInBounds j u) : PInv w (W.setCell ⟨g5, j, none⟩ u) g5 i' gw cw :=
  ⟨h.b.setCell (Nat.le_of_lt h.n) u, blk_far h.z (show w.heap.size ≠ g5 from Nat.ne_of_lt h.n) u, by rw [he]; exact blk_set h.i j u, h.n, blk_far h.r (blk_ne h.r h.i (by decide)) u⟩

theorem getp {α : Type} {l : List α} {i : Nat} {o : α} (h : l[i]? = some o) : l.toArray[i]? = some o := by simpa using h
theorem pinv_next {w W W1 : World} {g5 gw : Nat} {i : In} {cw : Array Value} {x : Value} (hb : Below W.heap.size W W1) (h : Aside0 (PInv w W g5 i gw cw) ∧ W.cell? ⟨gw, 0, none⟩ = some x) : Aside0 (PInv w W1 g5 i gw cw) ∧ W1.cell? ⟨gw, 0, none⟩ = some x :=
  ⟨⟨h.1.out.keep hb⟩, (blk_cell (h.1.out.keep hb).r 0).trans ((blk_cell h.1.out.r 0).symm.trans h.2)⟩

theorem padTo_step {n : Nat} {v : Int} {l : List Int} (h : l.length < n) : padTo n v (l ++ [v]) = padTo n v l := by
  unfold padTo
  rw [List.length_append, List.length_singleton, List.append_assoc, show n - l.length = (n - (l.length + 1)) + 1 by omega, List.replicate_succ]
  rfl
theorem padTo_full {n : Nat} {v : Int} {l : List Int} (h : n ≤ l.length) : padTo n v l = l := by
  unfold padTo
  rw [show n - l.length = 0 by omega]
  simp
def sliceLen : Value → Nat
  | .slice _ n _ => n
  | _ => 0
theorem keep4 {W : World} {g7 g5 : Nat} {x0 x1 x2 x3 : Int} (hne : g7 ≠ g5) (j : Nat) (u : Value)
    (h : W.cell? ⟨g7, 0, none⟩ = some (.int .i64 x0) ∧ W.cell? ⟨g7, 1, none⟩ = some (.int .i64 x1) ∧ W.cell? ⟨g7, 2, none⟩ = some (.int .i64 x2) ∧ W.cell? ⟨g7, 3, none⟩ = some (.int .i64 x3)) :
    (W.setCell ⟨g5, j, none⟩ u).cell? ⟨g7, 0, none⟩ = some (.int .i64 x0) ∧ (W.setCell ⟨g5, j, none⟩ u).cell? ⟨g7, 1, none⟩ = some (.int .i64 x1) ∧ (W.setCell ⟨g5, j, none⟩ u).cell? ⟨g7, 2, none⟩ = some (.int .i64 x2) ∧ (W.setCell ⟨g5, j, none⟩ u).cell? ⟨g7, 3, none⟩ = some (.int .i64 x3) := by
  have e : (W.setCell ⟨g5, j, none⟩ u).heap[g7]? = W.heap[g7]? := Below.heap_setCell W _ u g7 hne
  exact ⟨(World.cell?_of_block (w := W) (a := ⟨g7, 0, none⟩) e).trans h.1, (World.cell?_of_block (w := W) (a := ⟨g7, 1, none⟩) e).trans h.2.1, (World.cell?_of_block (w := W) (a := ⟨g7, 2, none⟩) e).trans h.2.2.1, (World.cell?_of_block (w := W) (a := ⟨g7, 3, none⟩) e).trans h.2.2.2⟩
theorem keep4d {W : World} {g7 g5 : Nat} {x0 x1 x2 x3 : Int} (hne : g7 ≠ g5) (j : Nat) (u : Value)
    (h : W.drew.cell? ⟨g7, 0, none⟩ = some (.int .i64 x0) ∧ W.drew.cell? ⟨g7, 1, none⟩ = some (.int .i64 x1) ∧ W.drew.cell? ⟨g7, 2, none⟩ = some (.int .i64 x2) ∧ W.drew.cell? ⟨g7, 3, none⟩ = some (.int .i64 x3)) :
    (W.setCell ⟨g5, j, none⟩ u).drew.cell? ⟨g7, 0, none⟩ = some (.int .i64 x0) ∧ (W.setCell ⟨g5, j, none⟩ u).drew.cell? ⟨g7, 1, none⟩ = some (.int .i64 x1) ∧ (W.setCell ⟨g5, j, none⟩ u).drew.cell? ⟨g7, 2, none⟩ = some (.int .i64 x2) ∧ (W.setCell ⟨g5, j, none⟩ u).drew.cell? ⟨g7, 3, none⟩ = some (.int .i64 x3) := keep4 (W := W) hne j u h
theorem nameGo_cases (w : List UInt8) : ∀ (n : Nat) (op acc : Int), nameGo w n op acc = acc ∨ opName (nameGo w n op acc) ≠ []
  | 0, op, acc => .inl rfl
  | n + 1, op, acc => by
    rw [nameGo]
    by_cases h : opName op ≠ [] ∧ opName op = w
    · rw [if_pos h]
      rcases nameGo_cases w n (op + 1) op with h1 | h1
      · rw [h1]; exact .inr h.1
      · exact .inr h1
    · rw [if_neg h]; exact nameGo_cases w n (op + 1) acc
theorem nameL_cases (w : List UInt8) : nameL w = 0 ∨ (1 ≤ nameL w ∧ nameL w ≤ 13) ∨ (16 ≤ nameL w ∧ nameL w ≤ 23) := by
  rcases nameGo_cases w 23 1 0 with h | h
  · exact .inl h
  · exact .inr (opName_in h)
theorem PInv.putj {w W : World} {g5 gw : Nat} {i : In} {cw : Array Value} (h : PInv w W g5 i gw cw) (j : Nat) (h1 : 1 ≤ j) (h5 : j ≤ 5) (v : Int) : PInv w (W.setCell ⟨g5, j, none⟩ (.int .i64 v)) g5 (i.put v j) gw cw :=
  h.put j _ _ (In.cs_put _ _ _ h1 h5).symm
theorem PInv.putk {w W : World} {g5 gw : Nat} {i : In} {cw : Array Value} (h : PInv w W g5 i gw cw) (v : Int) : PInv w (W.setCell ⟨g5, 6, none⟩ (.int .u32 v)) g5 { i with k := v } gw cw := h.put 6 _ _ rfl
theorem PInv.putq {w W : World} {g5 gw : Nat} {i : In} {cw : Array Value} (h : PInv w W g5 i gw cw) (v : Int) : PInv w (W.setCell ⟨g5, 7, none⟩ (.int .i64 v)) g5 { i with q := v } gw cw := h.put 7 _ _ rfl
theorem setF_wk (op k x0 x1 x2 x3 y0 y1 : Int) (hk : k = 0 ∨ k = 1) : (setF op k x0 x1 x2 x3 y0 y1).wk := by
  have hk' : 0 ≤ k ∧ k ≤ 4294967295 := by omega
  have h0 : 0 ≤ y0 % 4294967296 ∧ y0 % 4294967296 ≤ 4294967295 := by omega
  have h1 : 0 ≤ y1 % 4294967296 ∧ y1 % 4294967296 ≤ 4294967295 := by omega
  unfold setF In.wk
  repeat (first | split | assumption)
theorem str_tail (g m c : Nat) (hc : m + 1 ≤ c) : ∃ (A' : Option Addr) (c' : Nat), (∀ W : World, (Instr.slice 53 (.slice (some ⟨g, 0, none⟩) (m + 1) c) (some (.int .i64 1)) none none).run Tryd.prog W = .ok (.slice A' m c') W) ∧ (0 < m → A' = some ⟨g, 1, none⟩) := by
  refine ⟨if c = 1 then some ⟨g, 0, none⟩ else some ⟨g, 1, none⟩, c - 1, fun W => ?_, fun h => if_neg (by omega)⟩
  obtain ⟨i9, hi, hz0, hz1, hz2⟩ := info_parts info_str
  have hel : Tryd.prog.elem 53 = 9 := by simp [Program.elem, Tryd.underlying53]
  have hu : Tryd.prog.underlying 53 = some (.slice (Tryd.prog.elem 53)) := by rw [hel]; exact Tryd.underlying53
  rw [run_slice_l W 53 (some ⟨g, 0, none⟩) (m + 1) c hu .i64 1 (by omega) (by omega), hel]
  by_cases h1 : c = 1
  · subst h1
    have : m = 0 := by omega
    subst this
    simp [sizeOf, typeInfo, hi, hz1, sliced, Result.andThen]
  · rw [if_neg h1]
    simp [sizeOf, typeInfo, hi, hz1, sliced, Result.andThen, h1, Addr.add]

end Go.Proofs.YtbkbkikbfbmbdaaDoor

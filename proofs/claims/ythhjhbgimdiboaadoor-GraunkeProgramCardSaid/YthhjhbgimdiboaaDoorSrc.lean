/- A program on its way, in the heap: rows of instructions, of names, of numbers, made by append. -/
import Derived.Test.YthhjhbgimdiboaaDoorLabels
import Derived.Test.YthhjhbgimdiboaaDoorRight
namespace Go.Proofs.YthhjhbgimdiboaaDoor
open Go.RowKit Go.Proofs.YthhjhbgimdiboaaDoorW.PrintWords
set_option linter.unusedVariables false

theorem info_in : (Tryd.prog.info? 67).map (fun i => (i.zero, i.size, i.bytes)) = some (some (.agg In.zero.cs), 8, 64) := by kernel_rfl
theorem info_st : (Tryd.prog.info? 9).map (fun i => (i.zero, i.size, i.bytes)) = some (some (.string ⟨#[]⟩), 1, 16) := by kernel_rfl
/-- The cells of a row of instructions. -/
def inCells (l : List In) : List Value := (l.map fun i => i.cs.toList).flatten
theorem inCells_len (l : List In) : (inCells l).length = l.length * 8 := by
  induction l with
  | nil => rfl
  | cons i l ih =>
    unfold inCells at ih ⊢
    rw [List.map_cons, List.flatten_cons, List.length_append, ih, List.length_cons]
    have : i.cs.toList.length = 8 := rfl
    omega
theorem inCells_snoc (l : List In) (i : In) : inCells (l ++ [i]) = inCells l ++ i.cs.toList := by simp [inCells]
def InRow (W : World) (base : Nat) (v : Value) (xs : List In) : Prop := W.ownsRow base 67 8 v xs.length (inCells xs)
def NmRow (W : World) (base : Nat) (v : Value) (xs : List (List UInt8)) : Prop := W.ownsRow base 9 1 v xs.length (xs.map fun s => Value.string ⟨s.toArray⟩)
theorem InRow.nil (W : World) (base : Nat) : InRow W base (.slice none 0 0) [] := ⟨rfl, .inl ⟨rfl, rfl⟩⟩
theorem NmRow.nil (W : World) (base : Nat) : NmRow W base (.slice none 0 0) [] := ⟨rfl, .inl ⟨rfl, rfl⟩⟩
section
variable {ops : Array Oper} {rest : List Oper} {o : Oper} {a : Act} {Q : Exit → Act → World → Prop} {W : World}
theorem app_in (hgd : o.guard = none) (s x : Operand) (ho : o.op = .call { callee := .builtin .append, args := #[s, x], argTypes := #[22, 22] })
    (base g : Nat) (y : In) (v : Value) (xs : List In) (hs : a.eval s = v) (hr : InRow W base v xs) (hx : a.eval x = .slice (some ⟨g, 0, none⟩) 1 1)
    (hy : W.heap[g]? = some (.cells y.cs 67 (0, 0))) (hl : xs.length ≤ 1000000) (hb : base ≤ W.heap.size)
    (h : ∀ v' W1, InRow W1 base v' (xs ++ [y]) → W.grownBy W1 v.ownBlock → (v'.ownBlock = v.ownBlock ∨ v'.ownBlock = some W.heap.size) → wpList Tryd.prog ops Q rest (a.put o.dst v') W1) :
    wpList Tryd.prog ops Q (o :: rest) a W := by
  obtain ⟨i9, hi, hz0, hz1, hz2⟩ := info_parts info_in
  refine wpList_append_own_at _ hgd s x 22 ho base 67 i9 (.agg In.zero.cs) 8 64 Tryd.underlying22 hi hz0 hz1 hz2 rfl (by decide) v xs.length (inCells xs) hs hr ⟨g, 0, none⟩ 1 1 y.cs.toList hx rfl ?_ ?_ ?_ ?_ hb ?_
  · intro j u hj
    rw [add_plain]
    exact (blk_cell hy j).trans (by simpa using hj)
  · intro u hu
    have : u ∈ y.cs.toList := hu
    simp [In.cs] at this
    rcases this with rfl | rfl | rfl | rfl | rfl | rfl | rfl | rfl <;> rfl
  · simp [maxLen]; omega
  · omega
  · intro v' W1 h1 h2 _ h4
    refine h v' W1 ?_ h2 h4
    unfold InRow
    rw [inCells_snoc, List.length_append]
    exact h1
theorem app_nm (hgd : o.guard = none) (s x : Operand) (ho : o.op = .call { callee := .builtin .append, args := #[s, x], argTypes := #[57, 57] })
    (base g : Nat) (y : List UInt8) (v : Value) (xs : List (List UInt8)) (hs : a.eval s = v) (hr : NmRow W base v xs) (hx : a.eval x = .slice (some ⟨g, 0, none⟩) 1 1)
    (hy : W.heap[g]? = some (.cells #[.string ⟨y.toArray⟩] 9 (0, 0))) (hl : xs.length ≤ 1000000) (hb : base ≤ W.heap.size)
    (h : ∀ v' W1, NmRow W1 base v' (xs ++ [y]) → W.grownBy W1 v.ownBlock → (v'.ownBlock = v.ownBlock ∨ v'.ownBlock = some W.heap.size) → wpList Tryd.prog ops Q rest (a.put o.dst v') W1) :
    wpList Tryd.prog ops Q (o :: rest) a W := by
  obtain ⟨i9, hi, hz0, hz1, hz2⟩ := info_parts info_st
  refine wpList_append_own_at _ hgd s x 57 ho base 9 i9 (.string ⟨#[]⟩) 1 16 Tryd.underlying57 hi hz0 hz1 hz2 rfl (by decide) v xs.length _ hs hr ⟨g, 0, none⟩ 1 1 [.string ⟨y.toArray⟩] hx rfl ?_ ?_ ?_ ?_ hb ?_
  · intro j u hj
    rw [add_plain]
    exact (blk_cell hy j).trans (by simpa using hj)
  · simp [Value.oneCell']
  · simp [maxLen]; omega
  · omega
  · intro v' W1 h1 h2 _ h4
    refine h v' W1 ?_ h2 h4
    unfold NmRow
    rw [List.map_append, List.length_append]
    exact h1
end
/-- The source in block gx: three rows in blocks of their own, the labels' map in block bm. -/
structure SrcAt (W : World) (base gx bm : Nat) (v0 v1 v2 : Value) (x : Src) : Prop where
  s : W.heap[gx]? = some (.cells #[v0, v1, v2, .map (some bm)] 59 (0, 0))
  r0 : InRow W base v0 x.l
  r1 : NmRow W base v1 x.names
  r2 : IntRow W base v2 x.rows
  m : LMap W bm x.labels
  gb : base ≤ gx
  bb : base ≤ bm
end Go.Proofs.YthhjhbgimdiboaaDoor

/- (*asm.source).line: the whole contract. -/
import Derived.Test.YthhjhbgimdiboaaDoorAsmAdd
namespace Go.Proofs.YthhjhbgimdiboaaDoor
open Go.RowKit Go.Proofs.YthhjhbgimdiboaaDoorW.PrintWords
set_option linter.unusedVariables false

/-- What a source on its way keeps: a name and a number for each instruction; not too long. -/
structure SrcOk (x : Src) (m : Nat) : Prop where
  n : x.names.length = x.l.length
  r : x.rows.length = x.l.length
  l : x.l.length ≤ 64
  b : x.labels.length ≤ m
  s : ∀ s ∈ x.names, s.length ≤ 16
theorem oneF_name (s : List UInt8) (h : (oneF s).2.2 = true) : (oneF s).2.1.length ≤ 16 := by
  rw [oneF_eq] at h ⊢
  split at h
  · rename_i hc
    rw [if_pos hc]
    simp only [nameB, Bool.and_eq_true, decide_eq_true_eq] at h
    exact h.1.1.2
  · rename_i hc
    rw [if_neg hc]
    simp
theorem lineF_ok (x : Src) (s : List UInt8) (n : Int) {m : Nat} (h : SrcOk x m) : SrcOk (lineF x s n).1 (m + 1) := by
  obtain ⟨h1, h2, h3, h4, h5⟩ := h
  unfold lineF
  dsimp only
  repeat' split
  all_goals first
    | exact ⟨h1, h2, h3, by omega, h5⟩
    | exact ⟨h1, h2, h3, by simp; omega, h5⟩
    | (rename_i hx hh; exact ⟨by simp [h1], by simp [h2], by simp; omega, by simpa using (by omega : x.labels.length ≤ m + 1), fun s hs => by
        rcases List.mem_append.1 hs with hs | hs
        · exact h5 s hs
        · rw [List.mem_singleton.1 hs]; exact oneF_name _ (by simpa using hx)⟩)
theorem line_calls (W : World) (base gx bm m : Nat) (v0 v1 v2 : Value) (x : Src) (s : List UInt8) (n : Int) (he : Env W) (hX : SrcAt W base gx bm v0 v1 v2 x) (hs : s.length ≤ 90000) (hb0 : base ≤ W.heap.size) (hok : SrcOk x m) (hm : m ≤ 1000000) :
    Calls Tryd.prog 30 #[.pointer (some ⟨gx, 0, none⟩), .string ⟨s.toArray⟩, .int .i64 n] W fun e W1 => e = .returned (.int .i64 (lineF x s n).2) ∧
      ∃ u0 u1 u2, SrcAt W1 base gx bm u0 u1 u2 (lineF x s n).1 ∧ LineKeeps W W1 base gx bm v0 v1 v2 u0 u1 u2 := by
  by_cases hend : s.getLast? = some 10
  · by_cases hlab : s.dropLast.getLast? = some 58 ∧ nameB s.dropLast.dropLast = true
    · exact line_label W base gx bm v0 v1 v2 x s n he hX hs hb0 (by have := hok.l; omega) (Nat.le_trans hok.b hm) hend hlab.1 hlab.2
    · by_cases hbad : (oneF s.dropLast).2.2 = false ∨ 64 ≤ x.l.length
      · exact line_none W base gx bm v0 v1 v2 x s n he hX hs hb0 hend hlab hbad
      · have h1 : (oneF s.dropLast).2.2 = true := by simpa using fun h => hbad (.inl h)
        exact line_add W base gx bm v0 v1 v2 x s n he hX hs hb0 hend hlab h1 (Nat.lt_of_not_le fun h => hbad (.inr h)) hok.n hok.r
  · exact line_bad W base gx bm v0 v1 v2 x s n he hX hs hb0 hend
end Go.Proofs.YthhjhbgimdiboaaDoor

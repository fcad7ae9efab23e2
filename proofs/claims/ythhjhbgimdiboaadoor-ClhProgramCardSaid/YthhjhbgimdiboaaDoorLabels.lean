/- The labels of a program on its way: a map of the call's own from names to places. -/
import Derived.Test.YthhjhbgimdiboaaDoorAsmPlain
import Derived.Test.YthhjhbgimdiboaaDoorEnv
import Derived.Maps.OwnSet
import Derived.Maps.Views
namespace Go.Proofs.YthhjhbgimdiboaaDoor
set_option linter.unusedSimpArgs false
open Go.RowKit Go.Maps Go.Proofs.YthhjhbgimdiboaaDoorW.PrintWords
set_option linter.unusedVariables false

def labAt (L : List (List UInt8 × Nat)) (s : List UInt8) : Option Nat := (L.find? (fun p => p.1 == s)).map (·.2)
theorem labAt_cons (k : List UInt8) (p : Nat) (L : List (List UInt8 × Nat)) (s : List UInt8) : labAt ((k, p) :: L) s = if k = s then some p else labAt L s := by
  unfold labAt
  by_cases h : k = s
  · rw [if_pos h, List.find?_cons_of_pos (by simpa using h)]; rfl
  · rw [if_neg h, List.find?_cons_of_neg (by simpa using h)]
/-- Block bm holds the labels. -/
def LMap (W : World) (bm : Nat) (L : List (List UInt8 × Nat)) : Prop :=
  ∃ (n : Nat) (D : DataW Unit), W.ownsMap Tryd.prog 9 (plainElem Tryd.prog 3) bm n D ∧ IsMap D ∧ n ≤ L.length ∧
    ∀ s : List UInt8, has D (.string s) = (labAt L s).isSome ∧ D.atKey (.string s) (.lit (.int .i64 0)) = .lit (.int .i64 ((labAt L s).getD 0 : Nat))
theorem LMap.made (w : World) : LMap (w.alloc (.map #[] 0)) w.heap.size [] :=
  ⟨0, .map [], World.ownsMap_made w _ _ _, isMap_empty, Nat.le_refl _, fun s => ⟨rfl, rfl⟩⟩
theorem key_mk (s : List UInt8) (hs : s.length ≤ 1000000) : keyOf Tryd.prog 9 (.string ⟨s.toArray⟩) = some (.string s) := by
  have h : (⟨s.toArray⟩ : ByteArray).size ≤ maxLen := by simp [ByteArray.size, maxLen]; omega
  simp [keyOf, mapKey, Tryd.underlying9, h]
section
variable {ops : Array Oper} {rest : List Oper} {o : Oper} {a : Act} {Q : Exit → Act → World → Prop} {W : World}
theorem lab_look (hg : o.guard = none) (m x : Operand) (hop : o.op = .lookup 56 m x true) (bm : Nat) (L : List (List UInt8 × Nat)) (hm : a.eval m = .map (some bm)) (h : LMap W bm L)
    (s : List UInt8) (hs : s.length ≤ 1000000) (hx : a.eval x = .string ⟨s.toArray⟩)
    (hK : wpList Tryd.prog ops Q rest (a.put o.dst (.tuple #[.int .i64 ((labAt L s).getD 0 : Nat), .bool (labAt L s).isSome])) W) : wpList Tryd.prog ops Q (o :: rest) a W := by
  obtain ⟨n, D, ho, hi, hn, hL⟩ := h
  refine wpList_lookup_own_ok_int W hg m x 56 hop 9 3 .i64 (string_keyed Tryd.underlying9) Tryd.underlying56 Tryd.underlying3 (Tryd.zeroValue3 _) bm n D hm ho _ (.string s) hx (key_mk s hs) ?_
  intro c hat hw
  rw [(hL s).2] at hat
  have e : c = (((labAt L s).getD 0 : Nat) : Int) := by
    injection hat with h1
    injection h1 with _ h2
    exact h2.symm
  rw [e, (hL s).1]
  exact hK
theorem lab_put (hg : o.guard = none) (m x v : Operand) (hop : o.op = .mapUpdate 56 m x v) (bm : Nat) (L : List (List UInt8 × Nat)) (hl : L.length ≤ 1000000) (hm : a.eval m = .map (some bm)) (h : LMap W bm L)
    (s : List UInt8) (hs : s.length ≤ 1000000) (hx : a.eval x = .string ⟨s.toArray⟩) (p : Nat) (hp : p ≤ 1000000) (hv : a.eval v = .int .i64 p)
    (hK : ∀ W1, LMap W1 bm ((s, p) :: L) → W.grownBy W1 (some bm) → wpList Tryd.prog ops Q rest (a.put o.dst undef) W1) : wpList Tryd.prog ops Q (o :: rest) a W := by
  obtain ⟨n, D, ho, hi, hn, hL⟩ := h
  refine wpList_mapUpdate_own W hg m x v 56 hop 9 3 (string_keyed Tryd.underlying9) Tryd.underlying56 _ bm n D hm ho (by simp [maxLen]; omega) _ _ (.string s) hx hv (key_mk s hs) (.lit (.int .i64 p)) []
    (plainElem_int Tryd.underlying3 (by simp [Lit.wf, IntKind.min, IntKind.max, IntKind.signed, IntKind.bits]; omega)) ?_
  intro W1 h1 h2
  refine hK W1 ⟨n + 1, _, h1, hi.put _ _, by simp; omega, fun t => ?_⟩ h2
  rw [labAt_cons]
  by_cases e : s = t
  · subst e
    rw [if_pos rfl]
    exact ⟨has_put_same hi (show WideAt.IsKeyLit (.string s) from trivial) _, atKey_put_same hi (show WideAt.IsKeyLit (.string s) from trivial) _ _⟩
  · have hne : (Lit.string t) ≠ (Lit.string s) := fun h => e (by injection h with h; exact h.symm)
    rw [if_neg e, has_put_other hne, atKey_put_other hne]
    exact hL t
end
end Go.Proofs.YthhjhbgimdiboaaDoor

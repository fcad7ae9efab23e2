/- asmF of fixed texts, by evaluation. -/
import Derived.Test.YthhjhbgimdiboaaDoorAsmPlain
namespace Go.Proofs.YthhjhbgimdiboaaDoor
open Go Go.Lib
theorem eval_awake : asmF [108, 111, 99, 107, 58, 10, 100, 111, 110, 101, 32, 49, 10, 117, 110, 108, 111, 99, 107, 58, 10, 106, 117, 109, 112, 32, 108, 111, 99, 107, 10] = (⟨[⟨13, 0, 0, 0, 0, 0, 1, 0⟩, ⟨10, 0, 0, 0, 0, 0, 0, 0⟩], 0, 1⟩, 0, 0) := by decide +kernel
/-- The text of AsmBig: lock:, unlock:, and k lines 'done 1'. -/
def bigT : Nat → List UInt8
  | 0 => [108, 111, 99, 107, 58, 10, 117, 110, 108, 111, 99, 107, 58, 10]
  | k + 1 => bigT k ++ [100, 111, 110, 101, 32, 49, 10]
theorem eval_62 : (asmF (bigT 62)).1.l.length = 62 ∧ (asmF (bigT 62)).2 = (0, 0) := by decide +kernel
theorem eval_63 : (asmF (bigT 63)).1.l.length = 63 ∧ (asmF (bigT 63)).2 = (0, 0) := by decide +kernel
theorem eval_64 : (asmF (bigT 64)).1.l.length = 64 ∧ (asmF (bigT 64)).2 = (0, 0) := by decide +kernel
theorem eval_65 : (asmF (bigT 65)).1.l.length = 0 ∧ (asmF (bigT 65)).2 = (67, 9) := by decide +kernel
theorem eval_66 : (asmF (bigT 66)).1.l.length = 0 ∧ (asmF (bigT 66)).2 = (67, 9) := by decide +kernel
theorem bigT_len (k : Nat) : (bigT k).length = 14 + 7 * k := by
  induction k with
  | zero => rfl
  | succ k ih => rw [bigT, List.length_append, ih]; simp; omega
end Go.Proofs.YthhjhbgimdiboaaDoor

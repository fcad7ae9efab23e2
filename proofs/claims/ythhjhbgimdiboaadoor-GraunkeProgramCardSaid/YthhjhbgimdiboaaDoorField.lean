/- inst.field: where a number of an instruction stands, by the sign of its form: for every sign the pointer and the bound, the world as it was. -/
import Derived.Test.YthhjhbgimdiboaaDoorPlain
import Derived.Test.YthhjhbgimdiboaaDoorKit
namespace Go.Proofs.YthhjhbgimdiboaaDoor
open Go.RowKit
set_option linter.unusedVariables false


set_option maxHeartbeats 400000 in
theorem field_some (b : Nat) (s : Int) (k : Nat) (w : World) (h : fieldOff s = some k) :
    Calls Tryd.prog 60 #[.pointer (some ⟨b, 0, none⟩), .int .u8 s] w fun e w' => e = .returned (.tuple #[.pointer (some ⟨b, k, none⟩), .int .i64 7]) ∧ w = w' := by
  have hs : (s = 68 ∧ k = 1) ∨ (s = 83 ∧ k = 2) ∨ (s = 84 ∧ k = 3) ∨ (s = 85 ∧ k = 4) ∨ (s = 65 ∧ k = 5) := by
    unfold fieldOff at h
    repeat' (split at h <;> try (simp_all; done))
  clear h
  rcases hs with ⟨rfl, rfl⟩ | ⟨rfl, rfl⟩ | ⟨rfl, rfl⟩ | ⟨rfl, rfl⟩ | ⟨rfl, rfl⟩
  all_goals
    go_enter Tryd.func60, Tryd.ntmps60
    go_wp2
    go_ret2
    exact ⟨rfl, rfl⟩

theorem field_none (b : Nat) (s : Int) (w : World) (h : fieldOff s = none) :
    Calls Tryd.prog 60 #[.pointer (some ⟨b, 0, none⟩), .int .u8 s] w fun e w' => e = .returned (.tuple #[.pointer none, .int .i64 0]) ∧ w = w' := by
  have hs : (s == 68) = false ∧ (s == 83) = false ∧ (s == 84) = false ∧ (s == 85) = false ∧ (s == 65) = false := by
    unfold fieldOff at h
    repeat' (split at h <;> try (simp_all; done))
  clear h
  obtain ⟨h1, h2, h3, h4, h5⟩ := hs
  go_enter Tryd.func60, Tryd.ntmps60
  go_wp2
  go_ret2
  exact ⟨rfl, rfl⟩

set_option maxHeartbeats 400000 in
theorem within_calls (s : Int) (lo hi : Int) (b : Bool) (w : World) (h : within s = (lo, hi, b)) :
    Calls Tryd.prog 76 #[.int .u8 s] w fun e w' => e = .returned (.tuple #[.int .u32 lo, .int .u32 hi, .bool b]) ∧ w = w' := by
  have hs : (s = 75 ∧ lo = 0 ∧ hi = 4294967295 ∧ b = true) ∨ (s = 66 ∧ lo = 0 ∧ hi = 31 ∧ b = true) ∨ (s = 77 ∧ lo = 1 ∧ hi = 4 ∧ b = true) ∨ (s = 79 ∧ lo = 0 ∧ hi = 3 ∧ b = true) ∨ (s = 87 ∧ lo = 0 ∧ hi = 1 ∧ b = true) ∨
      ((s == 75) = false ∧ (s == 66) = false ∧ (s == 77) = false ∧ (s == 79) = false ∧ (s == 87) = false ∧ lo = 0 ∧ hi = 0 ∧ b = false) := by
    unfold within at h
    by_cases h1 : s = 75
    · rw [if_pos h1] at h; cases h; simp [h1]
    by_cases h2 : s = 66
    · rw [if_neg h1, if_pos h2] at h; cases h; simp [h2]
    by_cases h3 : s = 77
    · rw [if_neg h1, if_neg h2, if_pos h3] at h; cases h; simp [h3]
    by_cases h4 : s = 79
    · rw [if_neg h1, if_neg h2, if_neg h3, if_pos h4] at h; cases h; simp [h4]
    by_cases h5 : s = 87
    · rw [if_neg h1, if_neg h2, if_neg h3, if_neg h4, if_pos h5] at h; cases h; simp [h5]
    rw [if_neg h1, if_neg h2, if_neg h3, if_neg h4, if_neg h5] at h
    cases h
    simp [h1, h2, h3, h4, h5]
  clear h
  rcases hs with ⟨rfl, rfl, rfl, rfl⟩ | ⟨rfl, rfl, rfl, rfl⟩ | ⟨rfl, rfl, rfl, rfl⟩ | ⟨rfl, rfl, rfl, rfl⟩ | ⟨rfl, rfl, rfl, rfl⟩ | ⟨h1, h2, h3, h4, h5, rfl, rfl, rfl⟩
  all_goals
    go_enter Tryd.func76, Tryd.ntmps76
    go_wp2
    go_ret3
    exact ⟨rfl, rfl⟩
end Go.Proofs.YthhjhbgimdiboaaDoor

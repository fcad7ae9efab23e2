/- The plain side of inst.Right's round. -/
import Derived.Test.YtfbblligbacppaaDoorPlain
namespace Go.Proofs.YtfbblligbacppaaDoor

theorem fieldOff_cases {s : Int} {j : Nat} (h : fieldOff s = some j) : (s = 68 ∧ j = 1) ∨ (s = 83 ∧ j = 2) ∨ (s = 84 ∧ j = 3) ∨ (s = 85 ∧ j = 4) ∨ (s = 65 ∧ j = 5) := by
  unfold fieldOff at h
  repeat' (split at h <;> try (simp_all; done))
theorem fieldOff_bd {s : Int} {j : Nat} (h : fieldOff s = some j) : 1 ≤ j ∧ j ≤ 5 := by
  have := fieldOff_cases h; omega
theorem fieldOff_within {s : Int} {j : Nat} (h : fieldOff s = some j) : within s = (0, 0, false) := by
  rcases fieldOff_cases h with ⟨rfl, _⟩ | ⟨rfl, _⟩ | ⟨rfl, _⟩ | ⟨rfl, _⟩ | ⟨rfl, _⟩ <;> rfl
theorem fieldOff_ne {s : Int} {j : Nat} (h : fieldOff s = some j) : (s == 87) = false ∧ (s == 80) = false := by
  rcases fieldOff_cases h with ⟨rfl, _⟩ | ⟨rfl, _⟩ | ⟨rfl, _⟩ | ⟨rfl, _⟩ | ⟨rfl, _⟩ <;> exact ⟨rfl, rfl⟩
theorem stepR_field {places s : Int} {r : In} {j : Nat} (h : fieldOff s = some j) : stepR places s r = if r.get j < 0 ∨ 7 < r.get j then none else some (r.put 0 j) := by
  unfold stepR; rw [h]
theorem stepR_k {places s lo hi : Int} {r : In} (h : within s = (lo, hi, true)) (hk : 0 ≤ r.k ∧ r.k ≤ 4294967295) (h87 : s ≠ 87) :
    fieldOff s = none ∧ (s == 87) = false ∧ (s == 80) = false ∧ stepR places s r = if r.k < lo ∨ hi < r.k then none else some { r with k := 0 } := by
  unfold within at h
  by_cases h1 : s = 75
  · subst h1; rw [if_pos rfl] at h; cases h; refine ⟨rfl, rfl, rfl, ?_⟩
    rw [if_neg (by omega)]; rfl
  rw [if_neg h1] at h
  by_cases h2 : s = 66
  · subst h2; rw [if_pos rfl] at h; cases h; refine ⟨rfl, rfl, rfl, ?_⟩
    have e : (r.k < 0 ∨ 31 < r.k) ↔ 31 < r.k := by omega
    simp only [e]; rfl
  rw [if_neg h2] at h
  by_cases h3 : s = 77
  · subst h3; rw [if_pos rfl] at h; cases h; exact ⟨rfl, rfl, rfl, rfl⟩
  rw [if_neg h3] at h
  by_cases h4 : s = 79
  · subst h4; rw [if_pos rfl] at h; cases h; refine ⟨rfl, rfl, rfl, ?_⟩
    have e : (r.k < 0 ∨ 3 < r.k) ↔ 3 < r.k := by omega
    simp only [e]; rfl
  rw [if_neg h4, if_neg h87] at h
  cases h
theorem stepR_other {places s lo hi : Int} {r : In} (hf : fieldOff s = none) (hw : within s = (lo, hi, false)) (h80 : s ≠ 80) : stepR places s r = some r ∧ lo = 0 ∧ hi = 0 ∧ s ≠ 87 := by
  unfold within at hw
  by_cases h1 : s = 75
  · rw [if_pos h1] at hw; cases hw
  by_cases h2 : s = 66
  · rw [if_neg h1, if_pos h2] at hw; cases hw
  by_cases h3 : s = 77
  · rw [if_neg h1, if_neg h2, if_pos h3] at hw; cases hw
  by_cases h4 : s = 79
  · rw [if_neg h1, if_neg h2, if_neg h3, if_pos h4] at hw; cases hw
  by_cases h5 : s = 87
  · rw [if_neg h1, if_neg h2, if_neg h3, if_neg h4, if_pos h5] at hw; cases hw
  rw [if_neg h1, if_neg h2, if_neg h3, if_neg h4, if_neg h5] at hw
  cases hw
  refine ⟨?_, rfl, rfl, h5⟩
  unfold stepR
  rw [hf]
  simp only [h1, h2, h3, h4, h5, h80, if_false]
theorem stepR_P {places : Int} {r : In} : stepR places 80 r = if r.q < 0 ∨ places ≤ r.q then none else some { r with q := 0 } := rfl
theorem stepR_W {places : Int} {r : In} : stepR places 87 r = if 1 < r.k then none else if r.t < 0 ∨ 7 < r.t ∨ r.q < -1 ∨ (r.q ≠ -1 ∧ places ≤ r.q) then none else some { r with k := 0, t := 0, q := 0 } := rfl
/-- The number K stays a word. -/
def In.wk (r : In) : Prop := 0 ≤ r.k ∧ r.k ≤ 4294967295
theorem In.wk_put {r : In} (h : r.wk) (v : Int) (j : Nat) : (r.put v j).wk := by
  unfold In.put
  split <;> exact h
theorem ite_len {c : Prop} [Decidable c] {a b : List UInt8} (ha : a.length ≤ 5) (hb : b.length ≤ 5) : (if c then a else b).length ≤ 5 := by
  split <;> assumption
theorem opHas_len (op : Int) : (opHas op).length ≤ 5 := by
  unfold opHas
  repeat (refine ite_len (by decide) ?_)
  decide
end Go.Proofs.YtfbblligbacppaaDoor

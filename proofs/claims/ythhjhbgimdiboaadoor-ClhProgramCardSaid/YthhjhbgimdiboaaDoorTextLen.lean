/- The length of a text. -/
import Derived.Test.YthhjhbgimdiboaaDoorPlain
import Derived.Test.YthhjhbgimdiboaaDoorFormat
namespace Go.Proofs.YthhjhbgimdiboaaDoor
open Go

theorem dec_len (v : Int) (h : v ≤ 9223372036854775807) : (dec v).length ≤ 20 := digits_len _ (by omega)
theorem wordsF_short (i : In) (hf : i.fits) (s : Int) : ∀ w ∈ wordsF i s, w.length ≤ 21 := by
  have h1 := dec_len i.a (by have := hf.a; omega)
  have h2 := dec_len i.q (by have := hf.q; omega)
  have h3 := dec_len i.t (by have := hf.t; omega)
  have h4 := dec_len i.k (by have := hf.k; omega)
  have h5 : ∀ j, (dec (i.get j)).length ≤ 20 := fun j => dec_len _ (by have := hf.get j; omega)
  unfold wordsF
  cases fieldOff s with
  | some j =>
    dsimp only
    intro w hw
    have := h5 j
    by_cases h : j = 5
    · rw [if_pos h] at hw
      simp at hw; subst hw; omega
    · rw [if_neg h] at hw
      simp at hw; subst hw; simp; omega
  | none =>
    dsimp only
    intro w hw
    by_cases h : s = 80
    · rw [if_pos h] at hw
      simp at hw; subst hw; omega
    by_cases h' : s = 87
    · rw [if_neg h, if_pos h'] at hw
      by_cases hq : i.q = -1
      · rw [if_pos hq] at hw
        simp at hw
        rcases hw with rfl | rfl
        · split <;> simp
        · simp; omega
      · rw [if_neg hq] at hw
        simp at hw
        rcases hw with rfl | rfl | rfl | rfl
        · split <;> simp
        · simp; omega
        · simp
        · omega
    rw [if_neg h, if_neg h'] at hw
    simp at hw; subst hw; omega
theorem join_len (sep : List UInt8) (n : Nat) : ∀ (l : List (List UInt8)), (∀ w ∈ l, w.length ≤ n) → (Lib.joinTail sep l).length ≤ l.length * (n + sep.length)
  | [], _ => by simp [Lib.joinTail]
  | x :: l, h => by
    have h1 := h x (List.mem_cons_self ..)
    have h2 := join_len sep n l (fun w hw => h w (List.mem_cons_of_mem _ hw))
    simp only [Lib.joinTail, List.map_cons, List.flatten_cons, List.length_append, List.length_cons] at h2 ⊢
    rw [Nat.add_mul]
    omega
theorem flat_len (f : UInt8 → List (List UInt8)) (n : Nat) (h : ∀ c, (f c).length ≤ n) : ∀ l : List UInt8, (l.map f).flatten.length ≤ l.length * n
  | [] => by simp
  | c :: l => by
    have := flat_len f n h l
    have := h c
    simp only [List.map_cons, List.flatten_cons, List.length_append, List.length_cons]
    rw [Nat.add_mul]
    omega
theorem opName_len (op : Int) : (opName op).length ≤ 5 := by
  unfold opName
  repeat (refine ite_len (by decide) ?_)
  decide
theorem textF_len (i : In) (hf : i.fits) : (textF i).length ≤ 600 := by
  unfold textF allWords
  rw [Lib.join_cons, List.length_append]
  have h1 := opName_len i.op
  have h2 := flat_len (fun c => wordsF i (c.toNat : Int)) 4 (fun c => wordsF_len i _) (opHas i.op)
  have h3 := opHas_len i.op
  have h4 := join_len [32] 21 ((opHas i.op).map fun c => wordsF i (c.toNat : Int)).flatten (fun w hw => by
    rw [List.mem_flatten] at hw
    obtain ⟨l, hl, hw⟩ := hw
    rw [List.mem_map] at hl
    obtain ⟨c, _, rfl⟩ := hl
    exact wordsF_short i hf _ w hw)
  simp only [List.length_cons, List.length_nil] at h4
  have h5 : ((opHas i.op).map fun c => wordsF i (c.toNat : Int)).flatten.length ≤ 20 := by omega
  have h6 := Nat.mul_le_mul_right (21 + (0 + 1)) h5
  omega
end Go.Proofs.YthhjhbgimdiboaaDoor

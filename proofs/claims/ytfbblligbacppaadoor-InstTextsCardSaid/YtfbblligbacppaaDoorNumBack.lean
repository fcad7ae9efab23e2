/- A number's digits spell it; the words of an instruction: digits, no blank. -/
import Derived.Test.YtfbblligbacppaaDoorParsePlain
import Derived.Lib.AtoiTie
import Derived.Lib.ItoaNum
namespace Go.Proofs.YtfbblligbacppaaDoor
open Go Go.Lib

theorem decFrom_snoc : ∀ (l : List UInt8) (acc : Nat) (b : UInt8), decFrom acc (l ++ [b]) = match decFrom acc l with
    | some n => (match digitVal b with | some d => some (n * 10 + d) | none => none)
    | none => none
  | [], acc, b => by
    simp only [List.nil_append, decFrom]
    cases digitVal b <;> rfl
  | c :: l, acc, b => by
    simp only [List.cons_append, decFrom]
    cases digitVal c with
    | none => rfl
    | some d => exact decFrom_snoc l (acc * 10 + d) b
theorem digitVal_dig {n : Nat} (h : n < 10) : digitVal (UInt8.ofNat (48 + n)) = some n := by
  have e : (UInt8.ofNat (48 + n)).toNat = 48 + n := by rw [UInt8.toNat_ofNat']; omega
  unfold digitVal
  rw [e, if_pos (by omega)]
  congr 1; omega
theorem decFrom_dec (u : Nat) : decFrom 0 (decDigits u) = some u := by
  induction u using Nat.strongRecOn with
  | _ u ih =>
    rw [decDigits]
    by_cases h : u < 10
    · rw [dif_pos h]
      simp only [decFrom, digitVal_dig h]
      congr 1; omega
    · rw [dif_neg h, decFrom_snoc, ih (u / 10) (by omega), digitVal_dig (Nat.mod_lt _ (by omega))]
      dsimp only
      congr 1; omega
theorem dec_digits (u : Nat) : ∀ b ∈ decDigits u, 48 ≤ b.toNat ∧ b.toNat ≤ 57 := by
  induction u using Nat.strongRecOn with
  | _ u ih =>
    rw [decDigits]
    by_cases h : u < 10
    · rw [dif_pos h]
      intro b hb
      rw [List.mem_singleton] at hb; subst hb
      rw [UInt8.toNat_ofNat']; omega
    · rw [dif_neg h]
      intro b hb
      rcases List.mem_append.1 hb with hb | hb
      · exact ih (u / 10) (by omega) b hb
      · rw [List.mem_singleton] at hb; subst hb
        rw [UInt8.toNat_ofNat']; omega
theorem dec_ne (u : Nat) : decDigits u ≠ [] := by
  rw [decDigits]
  split <;> simp
theorem dec_len10 (u : Nat) (h : u ≤ 4294967295) : (decDigits u).length ≤ 10 := by
  have step : ∀ (k u : Nat), u < 10 ^ (k + 1) → (decDigits u).length ≤ k + 1 := by
    intro k
    induction k with
    | zero => intro u hu; rw [decDigits, dif_pos (by omega)]; simp
    | succ k ih =>
      intro u hu
      rw [decDigits]
      by_cases h : u < 10
      · rw [dif_pos h]; simp
      · rw [dif_neg h, List.length_append, List.length_singleton]
        have := ih (u / 10) (by rw [Nat.div_lt_iff_lt_mul (by omega)]; rw [Nat.pow_succ] at hu; exact hu)
        omega
  exact step 9 u (by omega)
theorem trimR_r (l : List UInt8) : trimR (114 :: l) = l := rfl
theorem trimR_dec (u : Nat) : trimR (decDigits u) = decDigits u := by
  have hd := dec_digits u
  cases h : decDigits u with
  | nil => rfl
  | cons b l =>
    have hb := hd b (by rw [h]; exact List.mem_cons_self ..)
    unfold trimR
    split
    · rename_i l' he
      cases he
      have : ((114 : UInt8).toNat) = 114 := rfl
      omega
    · rfl
theorem atoi_dec (u : Nat) (h : u ≤ 4294967295) : atoiAll (decDigits u) = .ok (u : Int) := by
  rw [atoiAll_short _ (Nat.le_trans (dec_len10 u h) (by omega))]
  have hd := dec_digits u
  have hf := decFrom_dec u
  cases he : decDigits u with
  | nil => exact absurd he (dec_ne u)
  | cons b r =>
    have hb := hd b (by rw [he]; exact List.mem_cons_self ..)
    have h45 : (b == 45) = false := by
      rw [beq_eq_false_iff_ne]; rintro rfl
      have : ((45 : UInt8).toNat) = 45 := rfl
      omega
    have h43 : (b == 43) = false := by
      rw [beq_eq_false_iff_ne]; rintro rfl
      have : ((43 : UInt8).toNat) = 43 := rfl
      omega
    unfold atoi
    simp only [h45, h43, decNat, List.isEmpty_cons, Bool.false_eq_true, if_false]
    rw [← he, hf]
    rfl
theorem numF_dec {v : Int} (h0 : 0 ≤ v) (h1 : v ≤ 4294967295) : numF (dec v) = v := by
  unfold numF dec
  rw [trimR_dec, atoi_dec _ (by omega)]
  show ((v.toNat : Nat) : Int) = v
  omega
theorem numF_r {v : Int} (h0 : 0 ≤ v) (h1 : v ≤ 4294967295) : numF (114 :: dec v) = v := by
  unfold numF dec
  rw [trimR_r, atoi_dec _ (by omega)]
  show ((v.toNat : Nat) : Int) = v
  omega
theorem dec_no (v : Int) : (32 : UInt8) ∉ dec v := fun h => by
  have := dec_digits _ _ h
  have e : ((32 : UInt8).toNat) = 32 := rfl
  omega
theorem rdec_no (v : Int) : (32 : UInt8) ∉ 114 :: dec v := fun h => by
  cases h with
  | tail _ h => exact dec_no v h
theorem opName_no (op : Int) : (32 : UInt8) ∉ opName op := by
  unfold opName
  repeat (refine ite_mem (P := fun l => (32 : UInt8) ∉ l) (by decide) ?_)
  decide
theorem wordsF_no (i : In) (s : Int) : ∀ w ∈ wordsF i s, (32 : UInt8) ∉ w := by
  unfold wordsF
  intro w hw
  split at hw
  · split at hw
    · rw [List.mem_singleton] at hw; subst hw; exact dec_no _
    · rw [List.mem_singleton] at hw; subst hw; exact rdec_no _
  · split at hw
    · rw [List.mem_singleton] at hw; subst hw; exact dec_no _
    split at hw
    · rcases List.mem_cons.1 hw with rfl | hw
      · split <;> decide
      rcases List.mem_cons.1 hw with rfl | hw
      · exact rdec_no _
      split at hw
      · cases hw
      · rcases List.mem_cons.1 hw with rfl | hw
        · decide
        rw [List.mem_singleton] at hw; subst hw; exact dec_no _
    · rw [List.mem_singleton] at hw; subst hw; exact dec_no _
theorem splitF_word : ∀ (w : List UInt8), (32 : UInt8) ∉ w → splitF w = [w]
  | [], _ => rfl
  | c :: l, h => by
    have hc : c ≠ 32 := fun e => h (by rw [e]; exact List.mem_cons_self ..)
    rw [splitF, if_neg hc, splitF_word l (fun x => h (List.mem_cons_of_mem _ x))]
theorem splitF_app : ∀ (w r : List UInt8), (32 : UInt8) ∉ w → splitF (w ++ 32 :: r) = w :: splitF r
  | [], r, _ => by rw [List.nil_append, splitF, if_pos rfl]
  | c :: l, r, h => by
    have hc : c ≠ 32 := fun e => h (by rw [e]; exact List.mem_cons_self ..)
    rw [List.cons_append, splitF, if_neg hc, splitF_app l r (fun x => h (List.mem_cons_of_mem _ x))]
theorem join_two (x y : List UInt8) (r : List (List UInt8)) : join (x :: y :: r) [32] = x ++ 32 :: join (y :: r) [32] := by
  rw [join_cons, join_cons]
  simp [joinTail]
theorem splitF_join : ∀ (ws : List (List UInt8)) (w : List UInt8), (∀ x ∈ w :: ws, (32 : UInt8) ∉ x) → splitF (join (w :: ws) [32]) = w :: ws
  | [], w, h => by rw [join_one]; exact splitF_word w (h w (List.mem_cons_self ..))
  | y :: r, w, h => by
    rw [join_two, splitF_app w _ (h w (List.mem_cons_self ..)), splitF_join r y (fun x hx => h x (List.mem_cons_of_mem _ hx))]
theorem split_text (i : In) : splitF (textF i) = allWords i := by
  unfold textF allWords
  refine splitF_join _ _ (fun x hx => ?_)
  rcases List.mem_cons.1 hx with rfl | hx
  · exact opName_no _
  · obtain ⟨l, hl, hx⟩ := List.mem_flatten.1 hx
    obtain ⟨c, _, rfl⟩ := List.mem_map.1 hl
    exact wordsF_no i _ x hx
end Go.Proofs.YtfbblligbacppaaDoor

/- What stands between blanks. -/
import Derived.Lib.Split
import Derived.Lib.IndexBytes
import Derived.Test.YtfbblligbacppaaDoorPlain
namespace Go.Proofs.YtfbblligbacppaaDoor
open Go Go.Lib

/-- What stands between blanks. -/
def splitF : List UInt8 → List (List UInt8)
  | [] => [[]]
  | c :: l => if c = 32 then [] :: splitF l else
    match splitF l with
    | [] => [[c]]
    | w :: ws => (c :: w) :: ws
theorem splitF_ne (l : List UInt8) : splitF l ≠ [] := by
  cases l with
  | nil => simp [splitF]
  | cons c l =>
    unfold splitF
    split
    · simp
    · split <;> simp
theorem splitK_zero (s : List UInt8) : splitK [32] 0 0 s = [s] := rfl
theorem splitK_miss (k : Nat) (s : List UInt8) (h : indexByte s 32 = -1) : splitK [32] 0 k s = [s] := by
  cases k with
  | zero => rfl
  | succ k => unfold splitK; rw [index_one, h]; rfl
theorem splitK_hit (k i : Nat) (s : List UInt8) (h : indexByte s 32 = i) : splitK [32] 0 (k + 1) s = s.take i :: splitK [32] 0 k (s.drop (i + 1)) := by
  rw [splitK, index_one, h]
  rw [if_neg (by rw [beq_iff_eq]; omega)]
  rfl
theorem indexByte_none : ∀ (l : List UInt8) (c : UInt8), c ∉ l → indexByte l c = -1
  | [], _, _ => rfl
  | b :: l, c, h => by
    have h1 : (b == c) = false := beq_eq_false_iff_ne.2 (fun e => h (by rw [e]; exact List.mem_cons_self ..))
    have h2 := indexByte_none l c (fun x => h (List.mem_cons_of_mem _ x))
    unfold indexByte
    simp [h1, h2]
theorem splitK_eq : ∀ (l : List UInt8) (k : Nat), l.count 32 ≤ k → splitK [32] 0 k l = splitF l
  | [], k, _ => by rw [splitK_miss k [] rfl]; rfl
  | c :: l, k, hk => by
    by_cases hc : c = 32
    · subst hc
      have hk' : l.count 32 + 1 ≤ k := by simpa using hk
      obtain ⟨k, rfl⟩ : ∃ m, k = m + 1 := ⟨k - 1, by omega⟩
      rw [splitK_hit k 0 (32 :: l) (by simp [indexByte])]
      simp only [List.take_zero, Nat.zero_add, List.drop_succ_cons, List.drop_zero]
      rw [splitK_eq l k (by omega)]
      simp [splitF]
    · have hk' : l.count 32 ≤ k := by
        rw [List.count_cons_of_ne (by simpa using hc)] at hk
        exact hk
      have ih := splitK_eq l k hk'
      have hb : (c == 32) = false := beq_eq_false_iff_ne.2 hc
      have hsF : splitF (c :: l) = match splitF l with | [] => [[c]] | w :: ws => (c :: w) :: ws := by rw [splitF, if_neg hc]
      by_cases hm : indexByte l 32 = -1
      · rw [splitK_miss k l hm] at ih
        rw [splitK_miss k (c :: l) (by unfold indexByte; simp [hb, hm]), hsF, ← ih]
      · have hge := indexByte_ge l 32
        obtain ⟨i, hi⟩ : ∃ i : Nat, indexByte l 32 = i := ⟨(indexByte l 32).toNat, by omega⟩
        cases k with
        | zero =>
          exfalso
          have h0 : l.count 32 = 0 := by omega
          rw [List.count_eq_zero] at h0
          exact hm (indexByte_none l 32 h0)
        | succ k =>
          rw [splitK_hit k i l hi] at ih
          rw [splitK_hit k (i + 1) (c :: l) (by unfold indexByte; simp [hb, hi]), hsF, ← ih]
          simp
theorem indexByte_cut : ∀ (l : List UInt8) (i : Nat), indexByte l 32 = i → l.count 32 = 1 + (l.drop (i + 1)).count 32
  | [], i, h => by simp [indexByte] at h
  | c :: l, i, h => by
    unfold indexByte at h
    by_cases hc : c = 32
    · subst hc
      simp at h
      have : i = 0 := by omega
      subst this
      simp [Nat.add_comm]
    · have hb : (c == 32) = false := beq_eq_false_iff_ne.2 hc
      rw [hb] at h
      by_cases hm : indexByte l 32 = -1
      · rw [hm] at h; simp at h
      · have hge := indexByte_ge l 32
        simp only [Bool.false_eq_true, if_false] at h
        rw [if_neg (by rw [beq_iff_eq]; exact hm)] at h
        obtain ⟨j, rfl⟩ : ∃ j, i = j + 1 := ⟨i - 1, by omega⟩
        have := indexByte_cut l j (by omega)
        rw [List.count_cons_of_ne (by simpa using hc), this]
        rfl
theorem indexByte_miss : ∀ (l : List UInt8), indexByte l 32 = -1 → l.count 32 = 0
  | [], _ => rfl
  | c :: l, h => by
    unfold indexByte at h
    by_cases hc : c = 32
    · subst hc
      simp at h
    · have hb : (c == 32) = false := beq_eq_false_iff_ne.2 hc
      rw [hb] at h
      simp only [Bool.false_eq_true, if_false] at h
      have hge := indexByte_ge l 32
      by_cases hm : indexByte l 32 = -1
      · rw [List.count_cons_of_ne (by simpa using hc)]
        exact indexByte_miss l hm
      · rw [if_neg (by rw [beq_iff_eq]; exact hm)] at h
        omega
theorem count_eq : ∀ (n : Nat) (l : List UInt8), l.length ≤ n → Lib.count l [32] = l.count 32
  | 0, l, h => by
    have : l = [] := List.eq_nil_of_length_eq_zero (by omega)
    subst this
    rfl
  | n + 1, l, h => by
    by_cases hm : indexByte l 32 = -1
    · rw [count_miss (by rw [index_one]; exact hm), indexByte_miss l hm]
    · have hge := indexByte_ge l 32
      obtain ⟨i, hi⟩ : ∃ i : Nat, indexByte l 32 = i := ⟨(indexByte l 32).toNat, by omega⟩
      have hp := indexByte_cut l i hi
      have hl0 : 0 < l.length := by
        cases l with
        | nil => simp at hp
        | cons c l => simp
      rw [count_hit (by simp) (by rw [index_one]; exact hi), hp]
      have e : [(32 : UInt8)].length = 1 := rfl
      rw [e, count_eq n (l.drop (i + 1)) (by rw [List.length_drop]; omega)]
theorem splitF_length : ∀ l : List UInt8, (splitF l).length = l.count 32 + 1
  | [] => rfl
  | c :: l => by
    have ih := splitF_length l
    by_cases hc : c = 32
    · subst hc
      simp [splitF, ih]
    · rw [List.count_cons_of_ne (by simpa using hc)]
      unfold splitF
      rw [if_neg hc]
      cases h : splitF l with
      | nil => rw [h] at ih; simp at ih
      | cons w ws => rw [h] at ih; simpa using ih
theorem splitB_eq (l : List UInt8) : splitB ⟨#[32]⟩ 0 (countB ⟨l.toArray⟩ ⟨#[32]⟩) ⟨l.toArray⟩ = (splitF l).map fun x => ⟨x.toArray⟩ := by
  have hc : countB ⟨l.toArray⟩ ⟨#[32]⟩ = l.count 32 := count_eq l.length l (Nat.le_refl _)
  have h := splitB_data ⟨#[32]⟩ 0 (countB ⟨l.toArray⟩ ⟨#[32]⟩) ⟨l.toArray⟩
  rw [hc] at h ⊢
  have h2 : splitK (⟨#[32]⟩ : ByteArray).data.toList 0 (l.count 32) (⟨l.toArray⟩ : ByteArray).data.toList = splitF l := splitK_eq l _ (Nat.le_refl _)
  rw [h2] at h
  rw [← h, List.map_map]
  conv => lhs; rw [← List.map_id (splitB _ _ _ _)]
  apply List.map_congr_left
  intro x _
  cases x
  simp
theorem countB_eq (l : List UInt8) : countB ⟨l.toArray⟩ ⟨#[32]⟩ + 1 = (splitF l).length := by
  rw [splitF_length, show countB ⟨l.toArray⟩ ⟨#[32]⟩ = l.count 32 from count_eq l.length l (Nat.le_refl _)]
theorem splitF_short : ∀ (l : List UInt8), ∀ w ∈ splitF l, w.length ≤ l.length
  | [], w, h => by simp [splitF] at h; subst h; simp
  | c :: l, w, h => by
    have ih := splitF_short l
    unfold splitF at h
    by_cases hc : c = 32
    · rw [if_pos hc] at h
      cases h with
      | head => simp
      | tail _ h => have := ih w h; simp; omega
    · rw [if_neg hc] at h
      cases hs : splitF l with
      | nil => exact absurd hs (splitF_ne l)
      | cons v vs =>
        rw [hs] at h ih
        cases h with
        | head => have := ih v (List.mem_cons_self ..); simp; omega
        | tail _ h => have := ih w (List.mem_cons_of_mem _ h); simp; omega
end Go.Proofs.YtfbblligbacppaaDoor

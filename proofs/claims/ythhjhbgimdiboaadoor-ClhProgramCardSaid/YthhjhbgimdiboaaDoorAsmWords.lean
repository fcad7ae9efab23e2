/- strings.CutSuffix of one byte, strings.LastIndexByte of a blank, asm.goes: what they answer. -/
import Derived.Test.YthhjhbgimdiboaaDoorAsmPlain
import Derived.Test.YthhjhbgimdiboaaDoorEnv
import Derived.Test.YthhjhbgimdiboaaDoorAsmDig
import Derived.Test.YthhjhbgimdiboaaDoorRight
namespace Go.Proofs.YthhjhbgimdiboaaDoor
open Go.RowKit Go.Proofs.YthhjhbgimdiboaaDoorW.PrintWords
set_option linter.unusedVariables false

theorem btm (l : List UInt8) (k : Nat) : bt ⟨l.toArray⟩ (k : Int) = ((l.getD k 0).toNat : Int) := by
  unfold bt
  by_cases h : k < l.length
  · rw [dif_pos (by simpa [ByteArray.size] using h)]
    simp [List.getD_eq_getElem?_getD, List.getElem?_eq_getElem h]
    rfl
  · rw [dif_neg (by simpa [ByteArray.size] using h)]
    simp [List.getD_eq_getElem?_getD, List.getElem?_eq_none (Nat.le_of_not_lt h)]
theorem szm (l : List UInt8) : ((⟨l.toArray⟩ : ByteArray).size : Int) = l.length := by simp [ByteArray.size]
/-- Without a byte at the end. -/
def cutF (l : List UInt8) (c : UInt8) : List UInt8 × Bool := if l.getLast? = some c then (l.dropLast, true) else (l, false)
theorem wid {x : Int} (h0 : -9223372036854775808 ≤ x) (h1 : x < 9223372036854775808) : wrap64 x = x := by unfold wrap64; omega
theorem cut_f (l : List UInt8) (c : UInt8) (hl : l.length ≤ 1000000) : strings_CutSuffix.f ⟨l.toArray⟩ ⟨#[c]⟩ = some (⟨(cutF l c).1.toArray⟩, (cutF l c).2) := by
  have h1 : ((⟨#[c]⟩ : ByteArray).size : Int) = 1 := rfl
  unfold strings_CutSuffix.f stringslite_CutSuffix.f stringslite_HasSuffix.f cutF
  rw [szm, h1]
  by_cases hn : l = []
  · subst hn
    rfl
  · have hp : 0 < l.length := List.length_pos_iff.2 hn
    have e : wrap64 ((l.length : Int) - 1) = (l.length : Int) - 1 := wid (by omega) (by omega)
    have et : ((l.length : Int) - 1).toNat = l.length - 1 := by omega
    rw [e, if_pos (by omega), if_pos (by omega), if_pos (by omega), et]
    have hs : (⟨l.toArray⟩ : ByteArray).size = l.length := by simp [ByteArray.size]
    have hx : ((⟨l.toArray⟩ : ByteArray).extract (l.length - 1) (⟨l.toArray⟩ : ByteArray).size).toList = [l.getLast hn] := by
      rw [hs, ext_mk, toList_mk, List.drop_eq_getElem_cons (by omega), show l.length - 1 + 1 = l.length by omega, List.drop_length, List.getLast_eq_getElem]
      exact List.take_of_length_le (by simp; omega)
    have hy : (⟨#[c]⟩ : ByteArray).toList = [c] := toList_mk [c]
    rw [hx, hy, List.getLast?_eq_some_getLast hn]
    by_cases hc : l.getLast hn = c
    · simp only [hc, Option.bind_some, beq_self_eq_true, if_true]
      rw [ext_mk, if_pos (show (0 : Int) ≤ (l.length : Int) - 1 by omega), if_pos (show (l.length : Int) - 1 ≤ (l.length : Int) by omega)]
      simp [List.dropLast_eq_take]
    · have hc' : ¬ some (l.getLast hn) = some c := fun h => hc (Option.some.inj h)
      have : ([l.getLast hn] == [c]) = false := beq_eq_false_iff_ne.2 (fun h => hc (List.head_eq_of_cons_eq h))
      simp only [this, Option.bind_some, if_neg hc']
      rfl
theorem cut_calls (l : List UInt8) (c : UInt8) (hl : l.length ≤ 1000000) (w : World) : Calls Tryd.prog 44 #[.string ⟨l.toArray⟩, .string ⟨#[c]⟩] w fun e w' =>
    e = .returned (.tuple #[.string ⟨(cutF l c).1.toArray⟩, .bool (cutF l c).2]) ∧ Below w.heap.size w w' :=
  (strings_CutSuffix.calls _ _ _ _ w (cut_f l c hl)).mono fun e w' h => ⟨h.1, h.2.below⟩

theorem last_split : ∀ (l : List UInt8), (32 : UInt8) ∈ l → ∃ a b, l = a ++ 32 :: b ∧ (32 : UInt8) ∉ b
  | c :: l, h => by
    by_cases h2 : (32 : UInt8) ∈ l
    · obtain ⟨a, b, e, hb⟩ := last_split l h2
      exact ⟨c :: a, b, by rw [e]; rfl, hb⟩
    · cases h with
      | head => exact ⟨[], l, rfl, h2⟩
      | tail _ h => exact absurd h h2
theorem splitF_snoc : ∀ (a b : List UInt8), (32 : UInt8) ∉ b → splitF (a ++ 32 :: b) = splitF a ++ [b]
  | [], b, h => by rw [List.nil_append, show splitF (32 :: b) = [] :: splitF b by simp [splitF], splitF_word b h]; rfl
  | c :: a, b, h => by
    have ih := splitF_snoc a b h
    rw [List.cons_append, splitF, splitF]
    by_cases hc : c = 32
    · rw [if_pos hc, if_pos hc, ih]; rfl
    · rw [if_neg hc, if_neg hc, ih]
      cases hs : splitF a with
      | nil => exact absurd hs (splitF_ne a)
      | cons x xs => rfl
theorem tailSp_word {l : List UInt8} (h : (32 : UInt8) ∉ l) : tailSp l = l ∧ headSp l = [] := by
  have e : tailSp l = l := by unfold tailSp; rw [splitF_word l h]; rfl
  exact ⟨e, by unfold headSp; rw [e, Nat.sub_self]; rfl⟩
theorem tailSp_cut {a b : List UInt8} (h : (32 : UInt8) ∉ b) : tailSp (a ++ 32 :: b) = b ∧ headSp (a ++ 32 :: b) = a ++ [32] := by
  have e : tailSp (a ++ 32 :: b) = b := by unfold tailSp; rw [splitF_snoc a b h]; simp [List.getLastD_eq_getLast?]
  refine ⟨e, ?_⟩
  unfold headSp
  rw [e, show (a ++ 32 :: b).length - b.length = (a ++ [32]).length by simp; omega, show a ++ 32 :: b = (a ++ [32]) ++ b by simp, List.take_left]
theorem sp_append (l : List UInt8) : headSp l ++ tailSp l = l := by
  by_cases h : (32 : UInt8) ∈ l
  · obtain ⟨a, b, rfl, hb⟩ := last_split l h
    rw [(tailSp_cut hb).1, (tailSp_cut hb).2]; simp
  · rw [(tailSp_word h).1, (tailSp_word h).2]; rfl
theorem last_none (l : List UInt8) (h : (32 : UInt8) ∉ l) (hl : l.length ≤ 1000000) : ∀ (j : Nat), j ≤ l.length → bytealg_LastIndexByteString.l0 (j + 1) ⟨l.toArray⟩ 32 ((j : Int) - 1) = some (-1)
  | 0, _ => by rw [bytealg_LastIndexByteString.l0, if_neg (by omega)]
  | j + 1, hj => by
    have hne : ¬ ((l.getD j 0).toNat : Int) = 32 := fun e => h (by
      have : l.getD j 0 = 32 := UInt8.toNat_inj.1 (by show (l.getD j 0).toNat = 32; omega)
      rw [← this, List.getD_eq_getElem?_getD, List.getElem?_eq_getElem (by omega)]
      exact List.getElem_mem _)
    rw [bytealg_LastIndexByteString.l0, szm, show (((j + 1 : Nat) : Int) - 1) = (j : Int) by omega, btm, if_pos (by omega), if_pos (by omega), if_pos (by omega), if_neg hne, wid (by omega) (by omega)]
    exact last_none l h hl j (by omega)
theorem last_some (a b : List UInt8) (h : (32 : UInt8) ∉ b) (hl : (a ++ 32 :: b).length ≤ 1000000) : ∀ (j : Nat), j ≤ b.length → bytealg_LastIndexByteString.l0 (j + 1) ⟨(a ++ 32 :: b).toArray⟩ 32 ((a.length + j : Nat) : Int) = some (a.length : Int)
  | 0, _ => by
    have e : (a ++ 32 :: b).getD (a.length + 0) 0 = 32 := by simp [List.getD_eq_getElem?_getD]
    have hz : (a ++ 32 :: b).length = a.length + 1 + b.length := by simp; omega
    rw [bytealg_LastIndexByteString.l0, szm, btm, e, if_pos (by omega), if_pos (by omega), if_pos (by omega)]
    rfl
  | j + 1, hj => by
    have hz : (a ++ 32 :: b).length = a.length + 1 + b.length := by simp; omega
    have e : (a ++ 32 :: b).getD (a.length + (j + 1)) 0 = b.getD j 0 := by
      simp [List.getD_eq_getElem?_getD, List.getElem?_append_right (show a.length ≤ a.length + (j + 1) by omega)]
    have hne : ¬ ((b.getD j 0).toNat : Int) = 32 := fun e => h (by
      have : b.getD j 0 = 32 := UInt8.toNat_inj.1 (by show (b.getD j 0).toNat = 32; omega)
      rw [← this, List.getD_eq_getElem?_getD, List.getElem?_eq_getElem (by omega)]
      exact List.getElem_mem _)
    rw [bytealg_LastIndexByteString.l0, szm, btm, e, if_pos (by omega), if_pos (by omega), if_pos (by omega), if_neg hne, wid (by omega) (by omega), show (((a.length + (j + 1) : Nat) : Int) - 1) = ((a.length + j : Nat) : Int) by omega]
    exact last_some a b h hl j (by omega)
theorem last_f (l : List UInt8) (hl : l.length ≤ 1000000) : ∃ k, strings_LastIndexByte.f k ⟨l.toArray⟩ 32 = some (((headSp l).length : Int) - 1) := by
  have e : wrap64 ((l.length : Int) - 1) = (l.length : Int) - 1 := wid (by omega) (by omega)
  by_cases h : (32 : UInt8) ∈ l
  · obtain ⟨a, b, rfl, hb⟩ := last_split l h
    refine ⟨b.length + 1, ?_⟩
    have hk := last_some a b hb hl b.length (Nat.le_refl _)
    have hz : ((a ++ 32 :: b).length : Int) - 1 = ((a.length + b.length : Nat) : Int) := by simp; omega
    unfold strings_LastIndexByte.f bytealg_LastIndexByteString.f
    rw [szm, e, hz, hk, (tailSp_cut hb).2]
    simp
  · refine ⟨l.length + 1, ?_⟩
    have hk := last_none l h hl l.length (Nat.le_refl _)
    unfold strings_LastIndexByte.f bytealg_LastIndexByteString.f
    rw [szm, e, hk, (tailSp_word h).2]
    rfl
theorem last_calls (l : List UInt8) (hl : l.length ≤ 1000000) (w : World) : Calls Tryd.prog 50 #[.string ⟨l.toArray⟩, .int .u8 32] w fun e w' =>
    e = .returned (.int .i64 (((headSp l).length : Int) - 1)) ∧ Below w.heap.size w w' := by
  obtain ⟨k, hk⟩ := last_f l hl
  exact (strings_LastIndexByte.calls k _ _ _ w hk).mono fun e w' h => ⟨h.1, h.2.below⟩
theorem goes_calls (i : In) (w : World) : Calls Tryd.prog 52 #[i.v] w fun e w' => e = .returned (.bool (goesB i)) ∧ Below w.heap.size w w' := by
  obtain ⟨op, d, s, t, u, a, k, q⟩ := i
  refine asm_goes.calls op d s t u a k q _ w ?_
  unfold asm_goes.f goesB
  dsimp only
  by_cases h1 : 8 ≤ op
  · rw [if_pos h1]
    by_cases h2 : op ≤ 10
    · rw [if_pos h2, decide_eq_true (.inl ⟨h1, h2⟩)]
    · rw [if_neg h2]
      by_cases h3 : op = 21
      · rw [if_pos h3]
        congr 1
        rw [Bool.eq_iff_iff]; simp; omega
      · rw [if_neg h3, decide_eq_false (by omega)]
  · rw [if_neg h1]
    by_cases h3 : op = 21
    · omega
    · rw [if_neg h3, decide_eq_false (by omega)]
end Go.Proofs.YthhjhbgimdiboaaDoor

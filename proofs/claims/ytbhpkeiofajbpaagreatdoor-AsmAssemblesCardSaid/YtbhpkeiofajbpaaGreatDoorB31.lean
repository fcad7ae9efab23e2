/- Parts: RefSort, RefName. -/
import Derived.Test.YtbhpkeiofajbpaaGreatDoorB05
import Derived.Test.YtbhpkeiofajbpaaGreatDoorB04
import Derived.Test.YtbhpkeiofajbpaaGreatDoorB30
import Derived.Test.YtbhpkeiofajbpaaGreatDoorB02
import Derived.Great.BuildSlice
import Derived.Great.Walk
/- ropelineref06: Register, Number, Words. -/
section
namespace Go.Proofs.YtbhpkeiofajbpaaGreatDoor
open Go.RowKit Go.Proofs.YtbhpkeiofajbpaaGreatDoorW.PrintWords Go.Lib
set_option linter.unusedVariables false

theorem bt_mk (l : List UInt8) (k : Nat) : bt ⟨l.toArray⟩ (k : Int) = ((l.getD k 0).toNat : Int) := by
 unfold bt
 by_cases h : k < l.length
 ·rw [dif_pos (by simpa [ByteArray.size] using h)]
  simp [List.getD_eq_getElem?_getD, List.getElem?_eq_getElem h]
  rfl
 ·rw [dif_neg (by simpa [ByteArray.size] using h)]
  simp [List.getD_eq_getElem?_getD, List.getElem?_eq_none (Nat.le_of_not_lt h)]
theorem size_mk (l : List UInt8) : ((⟨l.toArray⟩ : ByteArray).size : Int) = l.length := by simp [ByteArray.size]
theorem register_f (l : List UInt8) : ropelineref06_Register.f ⟨l.toArray⟩ = some (regF l) := by
 have e0 : bt ⟨l.toArray⟩ 0 = ((l.getD 0 0).toNat : Int) := bt_mk l 0
 have e1 : bt ⟨l.toArray⟩ 1 = ((l.getD 1 0).toNat : Int) := bt_mk l 1
 have b0 := (l.getD 0 0).toNat_lt
 have b1 := (l.getD 1 0).toNat_lt
 unfold ropelineref06_Register.f regF
 rw [size_mk, e0, e1]
 by_cases c1 : l.length = 2
 ·rw [if_pos (by omega), if_pos (by omega)]
  by_cases c2 : (l.getD 0 0).toNat = 114
  ·rw [if_pos (by omega), if_pos (by omega)]
   by_cases c3 : ((l.getD 1 0).toNat : Int) < 48
   ·rw [if_pos c3, if_neg (by omega)]
   ·rw [if_neg c3]
    by_cases c4 : ((l.getD 1 0).toNat : Int) > 55
    ·rw [if_pos c4, if_neg (by omega)]
    ·rw [if_neg c4, if_pos (by omega)]
     congr 1
     omega
  ·rw [if_neg (by omega), if_neg (by omega)]
 ·rw [if_neg (by omega), if_neg (by omega)]
theorem register_calls (l : List UInt8) (w : World) : Calls Tryz.prog 110 #[.string ⟨l.toArray⟩] w fun e w' => e = .returned (.int .i64 (regF l)) ∧ Below w.heap.size w w' :=
 (ropelineref06_Register.calls ⟨l.toArray⟩ _ w (register_f l)).mono (fun e w' h => ⟨h.1, h.2.below⟩)

def digGo : List UInt8 → Nat → Int
 | [], n => if 4294967295 < n then -1 else n
 | c :: l, n => if c.toNat < 48 ∨ 57 < c.toNat then -1 else digGo l (n * 10 + (c.toNat - 48))
theorem wrap64_id {x : Int} (h0 : 0 ≤ x) (h1 : x < 9223372036854775808) : wrap64 x = x := by unfold wrap64; omega
theorem digGo_eq : ∀ (l : List UInt8) (n : Nat), digGo l n = match decFrom n l with | some n => if 4294967295 < n then -1 else n | none => -1
 | [], n => rfl
 | c :: l, n => by
  unfold digGo
  by_cases h : c.toNat < 48 ∨ 57 < c.toNat
  ·rw [if_pos h]
   have : digitVal c = none := by unfold digitVal; rw [if_neg (by omega)]
   simp only [decFrom, this]
  ·rw [if_neg h, digGo_eq l]
   have : digitVal c = some (c.toNat - 48) := by unfold digitVal; rw [if_pos (by omega)]
   simp only [decFrom, this]
theorem number_l (l : List UInt8) (hl : l.length ≤ 10) : ∀ (m i n : Nat), i + m = l.length → n < 10 ^ i → ropelineref06_Number.l0 (m + 1) ⟨l.toArray⟩ (n : Int) (i : Int) = some (digGo (l.drop i) n)
 | 0, i, n, hi, hn => by
  rw [List.drop_eq_nil_of_le (by omega)]
  unfold ropelineref06_Number.l0 digGo
  rw [size_mk, if_neg (by omega)]
  by_cases h : 4294967295 < n
  ·rw [if_pos (by omega), if_pos h]
  ·rw [if_neg (by omega), if_neg h]
 | m + 1, i, n, hi, hn => by
  have hlt : i < l.length := by omega
  have hb := bt_mk l i
  have hp : 10 ^ (i + 1) ≤ 10 ^ 10 := Nat.pow_le_pow_right (by omega) (by omega)
  have hn1 : n * 10 + 9 < 10 ^ (i + 1) := by rw [Nat.pow_succ]; omega
  have b1 := (l.getD i 0).toNat_lt
  have hn2 : n * 10 + 9 < 10000000000 := Nat.lt_of_lt_of_le hn1 hp
  rw [List.drop_eq_getElem_cons hlt]
  have hg : l[i] = l.getD i 0 := by simp [List.getD_eq_getElem?_getD, List.getElem?_eq_getElem hlt]
  rw [hg]
  unfold digGo
  rw [ropelineref06_Number.l0, size_mk, if_pos (by omega), if_pos (by omega), hb]
  by_cases c1 : ((l.getD i 0).toNat : Int) < 48
  ·rw [if_pos c1, if_pos (by omega)]
  ·rw [if_neg c1]
   by_cases c2 : ((l.getD i 0).toNat : Int) > 57
   ·rw [if_pos c2, if_pos (by omega)]
   ·rw [if_neg c2, if_neg (by omega)]
    have e1 : wrap64 ((wrap64 ((n : Int) * 10)) + ((((l.getD i 0).toNat : Int) - 48) % 256)) = ((n * 10 + ((l.getD i 0).toNat - 48) : Nat) : Int) := by
     rw [wrap64_id (show 0 ≤ (n : Int) * 10 by omega) (by omega), wrap64_id (by omega) (by omega)]
     omega
    have e2 : wrap64 ((i : Int) + 1) = ((i + 1 : Nat) : Int) := by unfold wrap64; omega
    rw [e1, e2]
    exact number_l l hl m (i + 1) _ (by omega) (Nat.lt_of_le_of_lt (by omega) hn1)
theorem number_f (l : List UInt8) : ropelineref06_Number.f 13 ⟨l.toArray⟩ = some (numR l) := by
 unfold ropelineref06_Number.f numR
 rw [size_mk, toList_mk]
 have e0 : bt ⟨l.toArray⟩ 0 = ((l.getD 0 0).toNat : Int) := bt_mk l 0
 rw [e0]
 by_cases c1 : l = []
 ·rw [if_pos c1, if_pos (.inl c1)]
  unfold ropelineref06_Number.j0
  rfl
 ·rw [if_neg c1]
  by_cases c2 : 10 < l.length
  ·rw [if_pos (by omega), if_pos (.inr (.inl c2))]
   unfold ropelineref06_Number.j0
   rfl
  ·rw [if_neg (by omega)]
   have key : ropelineref06_Number.j0 13 ⟨l.toArray⟩ false = some (digGo l 0) := by
    have h := number_l l (by omega) l.length 0 0 (by omega) (by decide)
    have hm := (ropelineref06_Number.mono_l)
    have mono : ∀ k, ropelineref06_Number.l0 (l.length + 1) ⟨l.toArray⟩ 0 0 = some (digGo l 0) → ropelineref06_Number.l0 (l.length + 1 + k) ⟨l.toArray⟩ 0 0 = some (digGo l 0) := by
     intro k
     induction k with
     | zero => exact id
     | succ k ih => intro h; exact (hm _).2 _ _ _ _ (ih h)
    have := mono (12 - (l.length + 1)) h
    rw [show l.length + 1 + (12 - (l.length + 1)) = 12 by omega] at this
    unfold ropelineref06_Number.j0
    exact this
   by_cases c3 : 1 < l.length
   ·rw [if_pos (by omega), if_pos (by omega)]
    by_cases c4 : (l.getD 0 0).toNat = 48
    ·rw [if_pos (.inr (.inr ⟨c3, c4⟩)), show ((((l.getD 0 0).toNat : Int)) == 48) = true from beq_iff_eq.2 (by omega)]
     unfold ropelineref06_Number.j0
     rfl
    ·rw [if_neg (by rintro (h | h | h); exact c1 h; exact c2 h; exact c4 h.2), show ((((l.getD 0 0).toNat : Int)) == 48) = false from beq_eq_false_iff_ne.2 (by omega), key, digGo_eq]
     rfl
   ·rw [if_neg (by omega), if_neg (by rintro (h | h | h); exact c1 h; exact c2 h; exact c3 h.1), key, digGo_eq]
    rfl
theorem rnumber_calls (l : List UInt8) (w : World) : Calls Tryz.prog 111 #[.string ⟨l.toArray⟩] w fun e w' => e = .returned (.int .i64 (numR l)) ∧ Below w.heap.size w w' :=
 (ropelineref06_Number.calls 13 ⟨l.toArray⟩ _ w (number_f l)).mono (fun e w' h => ⟨h.1, h.2.below⟩)

theorem words_l (l : List UInt8) (hl : l.length ≤ 100000) : ∀ (m i f : Nat) (out : List (List UInt8)), i + m = l.length → f ≤ i → out.length ≤ f → (32 : UInt8) ∉ (l.drop f).take (i - f) →
  ropelineref06_Words.l0 (m + 2) ⟨l.toArray⟩ (out.map fun x => ⟨x.toArray⟩) (f : Int) (i : Int) = some ((out ++ splitF (l.drop f)).map fun x => ⟨x.toArray⟩)
 | 0, i, f, out, hi, hf, ho, hn => by
  have e : wrap64 ((i : Int) + 1) = ((i + 1 : Nat) : Int) := by unfold wrap64; omega
  rw [ropelineref06_Words.l0, size_mk, if_pos (by omega), if_pos (by omega), if_pos (by omega), if_pos (by omega), if_pos (by simp; omega), e, ropelineref06_Words.l0, size_mk, if_neg (by omega)]
  rw [List.take_of_length_le (by rw [List.length_drop]; omega)] at hn
  rw [splitF_word _ hn]
  simp only [Int.toNat_natCast, ext_mk, List.map_append, List.map_cons, List.map_nil]
  rw [List.take_of_length_le (by rw [List.length_drop]; omega)]
 | m + 1, i, f, out, hi, hf, ho, hn => by
  have hlt : i < l.length := by omega
  have e : wrap64 ((i : Int) + 1) = ((i + 1 : Nat) : Int) := by unfold wrap64; omega
  have hg : l[i]? = some (l.getD i 0) := by simp [List.getD_eq_getElem?_getD, List.getElem?_eq_getElem hlt]
  have hd : (l.drop f)[i - f]? = some (l.getD i 0) := by rw [List.getElem?_drop, show f + (i - f) = i by omega, hg]
  rw [ropelineref06_Words.l0, size_mk, if_pos (by omega), if_neg (by omega), if_pos (by omega), if_pos (by omega), bt_mk, e]
  by_cases c : l.getD i 0 = 32
  ·have c' : ((l.getD i 0).toNat : Int) = 32 := by rw [c]; rfl
   rw [if_pos c', if_pos (by omega), if_pos (by omega), if_pos (by simp; omega)]
   have hx : (out.map fun x => (⟨x.toArray⟩ : ByteArray)) ++ [(⟨l.toArray⟩ : ByteArray).extract (f : Int).toNat (i : Int).toNat] = (out ++ [(l.drop f).take (i - f)]).map fun x => ⟨x.toArray⟩ := by
    simp only [Int.toNat_natCast, ext_mk, List.map_append, List.map_cons, List.map_nil]
   rw [hx, words_l l hl m (i + 1) (i + 1) _ (by omega) (by omega) (by simp; omega) (by simp)]
   have hs : l.drop f = (l.drop f).take (i - f) ++ 32 :: l.drop (i + 1) := by
    conv => lhs; rw [← List.take_append_drop (i - f) (l.drop f)]
    rw [List.drop_drop, show f + (i - f) = i by omega, List.drop_eq_getElem_cons hlt]
    rw [show l[i] = 32 by rw [← c]; simp [List.getD_eq_getElem?_getD, List.getElem?_eq_getElem hlt]]
   conv => rhs; rw [hs, splitF_app _ _ hn]
   simp
  ·have c' : ¬ ((l.getD i 0).toNat : Int) = 32 := fun h => c (UInt8.toNat_inj.1 (by show (l.getD i 0).toNat = 32; omega))
   rw [if_neg c']
   refine words_l l hl m (i + 1) f out (by omega) (by omega) ho ?_
   rw [show i + 1 - f = (i - f) + 1 by omega, List.take_add_one, hd]
   intro h
   rcases List.mem_append.1 h with h | h
   ·exact hn h
   ·have h' : (32 : UInt8) = l.getD i 0 := by simpa using h
    exact c h'.symm
theorem words_f (l : List UInt8) (hl : l.length ≤ 100000) : ropelineref06_Words.f (l.length + 2) ⟨l.toArray⟩ = some ((splitF l).map fun x => ⟨x.toArray⟩) := by
 have h := words_l l hl l.length 0 0 [] (by omega) (by omega) (by simp) (by simp)
 exact h
/-- Words: the row of words, in a block of its own. -/
theorem rwords_calls (l : List UInt8) (hl : l.length ≤ 100000) (w : World) : Calls Tryz.prog 73 #[.string ⟨l.toArray⟩] w fun e w' =>
  ∃ g c cur, e = .returned (.slice (some ⟨g, 0, none⟩) (splitF l).length c) ∧ (splitF l).length ≤ c ∧ w'.heap[g]? = some (.cells cur 9 (0, 0)) ∧ w.heap.size ≤ g ∧ (∀ j, j < (splitF l).length → cur[j]? = some (.string ⟨((splitF l).getD j []).toArray⟩)) ∧ Below w.heap.size w w' := by
 refine (ropelineref06_Words.calls (l.length + 2) ⟨l.toArray⟩ _ w (words_f l hl)).mono ?_
 rintro e w' ⟨v, rfl, hR, hb⟩
 have ho := Kd.own_of_R hR
 obtain ⟨h1, h2⟩ := ho
 have hne := splitF_ne l
 have hp : 0 < (splitF l).length := List.length_pos_iff.2 hne
 rw [List.length_map] at h2
 rcases h2 with ⟨rfl, h0⟩ | ⟨g, cap, cur, rfl, hg, hh, hc, hm, hs, ht⟩
 ·omega
 ·refine ⟨g, cap, cur, rfl, hc, hh, hg, fun j hj => ?_, hb⟩
  have e : (cur.toList.take ((splitF l).length * 1))[j]? = (encs Value.string ((splitF l).map fun x => (⟨x.toArray⟩ : ByteArray)))[j]? := by rw [ht]
  rw [List.getElem?_take_of_lt (by omega), Array.getElem?_toList] at e
  rw [e]
  simp [encs, hj]
end Go.Proofs.YtbhpkeiofajbpaaGreatDoor
end
/- ropelineref06: Name, reg. -/
section
namespace Go.Proofs.YtbhpkeiofajbpaaGreatDoor
open Go.RowKit Go.Proofs.YtbhpkeiofajbpaaGreatDoorW.PrintWords
set_option linter.unusedVariables false

set_option maxHeartbeats 400000 in
theorem reg_yes (n : Int) (h : 0 ≤ n ∧ n ≤ 7) (w : World) :
  Calls Tryz.prog 97 #[.int .i64 n] w fun e w' => e = .returned (.bool true) ∧ w = w' := by
 obtain ⟨h1, h2⟩ := h
 go_enter Tryz.func97, Tryz.ntmps97
 go_wp2
 go_ret
 exact ⟨by simp; try omega, rfl⟩
set_option maxHeartbeats 400000 in
theorem reg_no (n : Int) (h : ¬ (0 ≤ n ∧ n ≤ 7)) (w : World) :
  Calls Tryz.prog 97 #[.int .i64 n] w fun e w' => e = .returned (.bool false) ∧ w = w' := by
 by_cases h1 : 0 ≤ n
 ·have h2 : ¬ n ≤ 7 := fun x => h ⟨h1, x⟩
  go_enter Tryz.func97, Tryz.ntmps97
  go_wp2
  go_ret
  exact ⟨by simp; try omega, rfl⟩
 ·go_enter Tryz.func97, Tryz.ntmps97
  go_wp2
  go_ret
  exact ⟨by simp; try omega, rfl⟩

def nameTab : Array Value := #[.string ⟨#[]⟩, .string ⟨#[99, 111, 110, 115, 116]⟩, .string ⟨#[109, 111, 118, 101]⟩, .string ⟨#[97, 100, 100, 107]⟩, .string ⟨#[97, 110, 100, 107]⟩, .string ⟨#[115, 104, 108]⟩, .string ⟨#[115, 104, 114]⟩, .string ⟨#[111, 114]⟩, .string ⟨#[98, 101, 113]⟩, .string ⟨#[98, 110, 101]⟩, .string ⟨#[106, 117, 109, 112]⟩, .string ⟨#[115, 101, 108, 102]⟩, .string ⟨#[109, 97, 114, 107]⟩, .string ⟨#[100, 111, 110, 101]⟩, .string ⟨#[]⟩, .string ⟨#[]⟩, .string ⟨#[108, 111, 97, 100]⟩, .string ⟨#[115, 116, 111, 114, 101]⟩, .string ⟨#[115, 119, 97, 112]⟩, .string ⟨#[99, 97, 115]⟩, .string ⟨#[102, 97, 100, 100]⟩, .string ⟨#[97, 119, 97, 105, 116]⟩, .string ⟨#[116, 97, 107, 101]⟩, .string ⟨#[102, 114, 101, 101]⟩]
theorem nameTab_at (n : Nat) (h1 : 1 ≤ n) (h2 : n ≤ 23) : nameTab[n]? = some (.string ⟨(opName (n : Int)).toArray⟩) := by
 have : n = 1 ∨ n = 2 ∨ n = 3 ∨ n = 4 ∨ n = 5 ∨ n = 6 ∨ n = 7 ∨ n = 8 ∨ n = 9 ∨ n = 10 ∨ n = 11 ∨ n = 12 ∨ n = 13 ∨ n = 14 ∨ n = 15 ∨ n = 16 ∨ n = 17 ∨ n = 18 ∨ n = 19 ∨ n = 20 ∨ n = 21 ∨ n = 22 ∨ n = 23 := by omega
 rcases this with rfl | rfl | rfl | rfl | rfl | rfl | rfl | rfl | rfl | rfl | rfl | rfl | rfl | rfl | rfl | rfl | rfl | rfl | rfl | rfl | rfl | rfl | rfl <;> rfl

set_option maxHeartbeats 1000000 in
set_option maxRecDepth 100000 in
theorem name_calls (op : Int) (w : World) :
  Calls Tryz.prog 96 #[.int .i64 op] w fun e w' => e = .returned (.string ⟨(opName op).toArray⟩) ∧ Below w.heap.size w w' := by
 by_cases h : op < 1 ∨ 23 < op
 ·have e : opName op = [] := by unfold opName; repeat (first | rw [if_neg (by omega)] | rfl)
  rw [e]
  clear e
  rcases h with h | h
  ·go_enter Tryz.func96, Tryz.ntmps96
   go_wp2_with (first
    | (refine wpList_buildTo rfl 200 _ rfl (some 4) rfl nameTab ?b1 ?_; (case b1 => as_aux_lemma => kernel_rfl))
    | (refine wpList_store_rowTo rfl 200 (.tmp 3) (.tmp 4) rfl rfl w.heap.size nameTab ?hx ?hy 200 #[.string ⟨#[]⟩, .string ⟨#[]⟩, .string ⟨#[]⟩, .string ⟨#[]⟩, .string ⟨#[]⟩, .string ⟨#[]⟩, .string ⟨#[]⟩, .string ⟨#[]⟩, .string ⟨#[]⟩, .string ⟨#[]⟩, .string ⟨#[]⟩, .string ⟨#[]⟩, .string ⟨#[]⟩, .string ⟨#[]⟩, .string ⟨#[]⟩, .string ⟨#[]⟩, .string ⟨#[]⟩, .string ⟨#[]⟩, .string ⟨#[]⟩, .string ⟨#[]⟩, .string ⟨#[]⟩, .string ⟨#[]⟩, .string ⟨#[]⟩, .string ⟨#[]⟩] ?hg ?b3 ?b4 ?b5 ?_; (case hx => rfl); (case hy => rfl); (case hg => exact blk_new _ _); (case b3 => as_aux_lemma => kernel_rfl); (case b4 => rfl); (case b5 => as_aux_lemma => kernel_rfl)))
   go_ret
   exact ⟨rfl, ⟨rfl, rfl, rfl, by simp [World.setRow], fun k hk => (setRow_other _ _ _ _ (by omega)).trans (Below.heap_alloc _ _ _ hk)⟩⟩
  ·go_enter Tryz.func96, Tryz.ntmps96
   go_wp2_with (first
    | (refine wpList_buildTo rfl 200 _ rfl (some 4) rfl nameTab ?b1 ?_; (case b1 => as_aux_lemma => kernel_rfl))
    | (refine wpList_store_rowTo rfl 200 (.tmp 3) (.tmp 4) rfl rfl w.heap.size nameTab ?hx ?hy 200 #[.string ⟨#[]⟩, .string ⟨#[]⟩, .string ⟨#[]⟩, .string ⟨#[]⟩, .string ⟨#[]⟩, .string ⟨#[]⟩, .string ⟨#[]⟩, .string ⟨#[]⟩, .string ⟨#[]⟩, .string ⟨#[]⟩, .string ⟨#[]⟩, .string ⟨#[]⟩, .string ⟨#[]⟩, .string ⟨#[]⟩, .string ⟨#[]⟩, .string ⟨#[]⟩, .string ⟨#[]⟩, .string ⟨#[]⟩, .string ⟨#[]⟩, .string ⟨#[]⟩, .string ⟨#[]⟩, .string ⟨#[]⟩, .string ⟨#[]⟩, .string ⟨#[]⟩] ?hg ?b3 ?b4 ?b5 ?_; (case hx => rfl); (case hy => rfl); (case hg => exact blk_new _ _); (case b3 => as_aux_lemma => kernel_rfl); (case b4 => rfl); (case b5 => as_aux_lemma => kernel_rfl)))
   go_ret
   exact ⟨rfl, ⟨rfl, rfl, rfl, by simp [World.setRow], fun k hk => (setRow_other _ _ _ _ (by omega)).trans (Below.heap_alloc _ _ _ hk)⟩⟩
 ·obtain ⟨n, rfl⟩ := Int.eq_ofNat_of_zero_le (show 0 ≤ op by omega)
  have h1 : 1 ≤ n := by omega
  have h2 : n ≤ 23 := by omega
  have hc : ((w.alloc (.cells #[.string ⟨#[]⟩, .string ⟨#[]⟩, .string ⟨#[]⟩, .string ⟨#[]⟩, .string ⟨#[]⟩, .string ⟨#[]⟩, .string ⟨#[]⟩, .string ⟨#[]⟩, .string ⟨#[]⟩, .string ⟨#[]⟩, .string ⟨#[]⟩, .string ⟨#[]⟩, .string ⟨#[]⟩, .string ⟨#[]⟩, .string ⟨#[]⟩, .string ⟨#[]⟩, .string ⟨#[]⟩, .string ⟨#[]⟩, .string ⟨#[]⟩, .string ⟨#[]⟩, .string ⟨#[]⟩, .string ⟨#[]⟩, .string ⟨#[]⟩, .string ⟨#[]⟩] 200)).setRow w.heap.size nameTab).cell? ⟨w.heap.size, n, none⟩ = some (.string ⟨(opName (n : Int)).toArray⟩) := (cell_setRow_same _ _ _ _ _ _ _ (blk_new _ _)).trans (nameTab_at n h1 h2)
  clear h
  go_enter Tryz.func96, Tryz.ntmps96
  go_wp2_with (first
   | (refine wpList_buildTo rfl 200 _ rfl (some 4) rfl nameTab ?b1 ?_; (case b1 => as_aux_lemma => kernel_rfl))
   | (refine wpList_store_rowTo rfl 200 (.tmp 3) (.tmp 4) rfl rfl w.heap.size nameTab ?hx ?hy 200 #[.string ⟨#[]⟩, .string ⟨#[]⟩, .string ⟨#[]⟩, .string ⟨#[]⟩, .string ⟨#[]⟩, .string ⟨#[]⟩, .string ⟨#[]⟩, .string ⟨#[]⟩, .string ⟨#[]⟩, .string ⟨#[]⟩, .string ⟨#[]⟩, .string ⟨#[]⟩, .string ⟨#[]⟩, .string ⟨#[]⟩, .string ⟨#[]⟩, .string ⟨#[]⟩, .string ⟨#[]⟩, .string ⟨#[]⟩, .string ⟨#[]⟩, .string ⟨#[]⟩, .string ⟨#[]⟩, .string ⟨#[]⟩, .string ⟨#[]⟩, .string ⟨#[]⟩] ?hg ?b3 ?b4 ?b5 ?_; (case hx => rfl); (case hy => rfl); (case hg => exact blk_new _ _); (case b3 => as_aux_lemma => kernel_rfl); (case b4 => rfl); (case b5 => as_aux_lemma => kernel_rfl)))
  go_ret
  exact ⟨rfl, ⟨rfl, rfl, rfl, by simp [World.setRow], fun k hk => (setRow_other _ _ _ _ (by omega)).trans (Below.heap_alloc _ _ _ hk)⟩⟩
end Go.Proofs.YtbhpkeiofajbpaaGreatDoor
end

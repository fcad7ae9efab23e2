/- Parts: Plain. -/
import Derived.Lib.AtoiAll
import Derived.Lib.Split
import Derived.Lib.IndexBytes
import Derived.Lib.ItoaNum
import Derived.Lib.Join
import Derived.Lib.AtoiTie
/- The plain side of layer 6: instructions, their forms, what may be, their texts: numbers and lists alone. The plain side of inst.Right's round. The plain side of inst.number, named, wait. What stands between blanks. The plain side of inst.words: the words of a part of an instruction. The plain side of inst.Text: what is right fits; the text. The plain side of inst.Parse. A number's digits spell it; the words of an instruction: digits, no blank. What is right is parsed of its own text; unlike ones have unlike texts. The plain side of ropelineref06.Parse: words, registers, numbers, what they make; of its own text it makes the instruction. Both parsers answer alike: what is right, by its own text; all else is refused. The plain side: when an instruction is right, number by number. -/
namespace Go.Proofs.YtbhpkeiofajbpaaGreatDoor

def opName (op : Int) : List UInt8 :=
 if op = 1 then [99, 111, 110, 115, 116] else
 if op = 2 then [109, 111, 118, 101] else
 if op = 3 then [97, 100, 100, 107] else
 if op = 4 then [97, 110, 100, 107] else
 if op = 5 then [115, 104, 108] else
 if op = 6 then [115, 104, 114] else
 if op = 7 then [111, 114] else
 if op = 8 then [98, 101, 113] else
 if op = 9 then [98, 110, 101] else
 if op = 10 then [106, 117, 109, 112] else
 if op = 11 then [115, 101, 108, 102] else
 if op = 12 then [109, 97, 114, 107] else
 if op = 13 then [100, 111, 110, 101] else
 if op = 16 then [108, 111, 97, 100] else
 if op = 17 then [115, 116, 111, 114, 101] else
 if op = 18 then [115, 119, 97, 112] else
 if op = 19 then [99, 97, 115] else
 if op = 20 then [102, 97, 100, 100] else
 if op = 21 then [97, 119, 97, 105, 116] else
 if op = 22 then [116, 97, 107, 101] else
 if op = 23 then [102, 114, 101, 101] else
 []
def opHas (op : Int) : List UInt8 :=
 if op = 1 then [68, 75] else
 if op = 2 then [68, 83] else
 if op = 3 then [68, 83, 75] else
 if op = 4 then [68, 83, 75] else
 if op = 5 then [68, 83, 66] else
 if op = 6 then [68, 83, 66] else
 if op = 7 then [68, 83, 84] else
 if op = 8 then [83, 84, 80] else
 if op = 9 then [83, 84, 80] else
 if op = 10 then [80] else
 if op = 11 then [68] else
 if op = 12 then [77] else
 if op = 13 then [79] else
 if op = 16 then [68, 65, 83] else
 if op = 17 then [65, 83, 84] else
 if op = 18 then [68, 65, 83, 84] else
 if op = 19 then [68, 65, 83, 84, 85] else
 if op = 20 then [68, 65, 83, 75] else
 if op = 21 then [68, 65, 83, 87] else
 if op = 22 then [68] else
 if op = 23 then [83] else
 []

def fieldOff (s : Int) : Option Nat := if s = 68 then some 1 else if s = 83 then some 2 else if s = 84 then some 3 else if s = 85 then some 4 else if s = 65 then some 5 else none

/-- An instruction. -/
structure In where
 op : Int
 d : Int
 s : Int
 t : Int
 u : Int
 a : Int
 k : Int
 q : Int
deriving DecidableEq

def In.zero : In := ⟨0, 0, 0, 0, 0, 0, 0, 0⟩
def In.get (i : In) : Nat → Int
 | 1 => i.d
 | 2 => i.s
 | 3 => i.t
 | 4 => i.u
 | 5 => i.a
 | _ => 0
def In.put (i : In) (v : Int) : Nat → In
 | 1 => { i with d := v }
 | 2 => { i with s := v }
 | 3 => { i with t := v }
 | 4 => { i with u := v }
 | 5 => { i with a := v }
 | _ => i
/-- One sign of a form: what is held against its bounds is struck. -/
def stepR (places s : Int) (r : In) : Option In :=
 match fieldOff s with
 | some j => if r.get j < 0 ∨ 7 < r.get j then none else some (r.put 0 j)
 | none =>
  if s = 75 then some { r with k := 0 }
  else if s = 66 then (if 31 < r.k then none else some { r with k := 0 })
  else if s = 77 then (if r.k < 1 ∨ 4 < r.k then none else some { r with k := 0 })
  else if s = 79 then (if 3 < r.k then none else some { r with k := 0 })
  else if s = 87 then (if 1 < r.k then none else if r.t < 0 ∨ 7 < r.t ∨ r.q < -1 ∨ (r.q ≠ -1 ∧ places ≤ r.q) then none else some { r with k := 0, t := 0, q := 0 })
  else if s = 80 then (if r.q < 0 ∨ places ≤ r.q then none else some { r with q := 0 })
  else some r
def foldR (places : Int) : List UInt8 → In → Option In
 | [], r => some r
 | c :: l, r => match stepR places (c.toNat : Int) r with
  | some r' => foldR places l r'
  | none => none
def rightF (i : In) (places : Int) : Bool :=
 if opName i.op = [] then false else
 match foldR places (opHas i.op) { i with op := 0 } with
 | some r => decide (r = In.zero)
 | none => false

def finR : Option In → Bool
 | some r => decide (r = In.zero)
 | none => false
theorem rightF_eq (i : In) (places : Int) (h : opName i.op ≠ []) : rightF i places = finR (foldR places (opHas i.op) { i with op := 0 }) := by
 unfold rightF; rw [if_neg h]; rfl
def within (s : Int) : Int × Int × Bool :=
 if s = 75 then (0, 4294967295, true) else if s = 66 then (0, 31, true) else if s = 77 then (1, 4, true) else if s = 79 then (0, 3, true) else if s = 87 then (0, 1, true) else (0, 0, false)
theorem foldR_at (places : Int) (l : List UInt8) (k : Nat) (r : In) (h : k < l.length) :
  foldR places (l.drop k) r = (stepR places ((l.getD k 0).toNat : Int) r).bind (foldR places (l.drop (k + 1))) := by
 rw [List.drop_eq_getElem_cons h]
 simp only [foldR, List.getD_eq_getElem?_getD, List.getElem?_eq_getElem h, Option.getD_some]
 cases stepR places (l[k].toNat : Int) r <;> rfl
end Go.Proofs.YtbhpkeiofajbpaaGreatDoor

namespace Go.Proofs.YtbhpkeiofajbpaaGreatDoor

theorem fieldOff_cases {s : Int} {j : Nat} (h : fieldOff s = some j) : (s = 68 ∧ j = 1) ∨ (s = 83 ∧ j = 2) ∨ (s = 84 ∧ j = 3) ∨ (s = 85 ∧ j = 4) ∨ (s = 65 ∧ j = 5) := by
 unfold fieldOff at h
 repeat' (split at h <;> try (simp_all; done))
theorem fieldOff_bd {s : Int} {j : Nat} (h : fieldOff s = some j) : 1 ≤ j ∧ j ≤ 5 := by
 have := fieldOff_cases h; omega
theorem fieldOff_within {s : Int} {j : Nat} (h : fieldOff s = some j) : within s = (0, 0, false) := by
 rcases fieldOff_cases h with ⟨rfl, _⟩ | ⟨rfl, _⟩ | ⟨rfl, _⟩ | ⟨rfl, _⟩ | ⟨rfl, _⟩ <;> rfl
theorem fieldOff_ne {s : Int} {j : Nat} (h : fieldOff s = some j) : (s == 87) = false ∧ (s == 80) = false := by
 rcases fieldOff_cases h with ⟨rfl, _⟩ | ⟨rfl, _⟩ | ⟨rfl, _⟩ | ⟨rfl, _⟩ | ⟨rfl, _⟩ <;> exact ⟨rfl, rfl⟩
theorem stepR_field {places s : Int} {r : In} {j : Nat} (h : fieldOff s = some j) : stepR places s r = if r.get j < 0 ∨ 7 < r.get j then none else some (r.put 0 j) := by
 unfold stepR; rw [h]
theorem stepR_k {places s lo hi : Int} {r : In} (h : within s = (lo, hi, true)) (hk : 0 ≤ r.k ∧ r.k ≤ 4294967295) (h87 : s ≠ 87) :
  fieldOff s = none ∧ (s == 87) = false ∧ (s == 80) = false ∧ stepR places s r = if r.k < lo ∨ hi < r.k then none else some { r with k := 0 } := by
 unfold within at h
 by_cases h1 : s = 75
 ·subst h1; rw [if_pos rfl] at h; cases h; refine ⟨rfl, rfl, rfl, ?_⟩
  rw [if_neg (by omega)]; rfl
 rw [if_neg h1] at h
 by_cases h2 : s = 66
 ·subst h2; rw [if_pos rfl] at h; cases h; refine ⟨rfl, rfl, rfl, ?_⟩
  have e : (r.k < 0 ∨ 31 < r.k) ↔ 31 < r.k := by omega
  simp only [e]; rfl
 rw [if_neg h2] at h
 by_cases h3 : s = 77
 ·subst h3; rw [if_pos rfl] at h; cases h; exact ⟨rfl, rfl, rfl, rfl⟩
 rw [if_neg h3] at h
 by_cases h4 : s = 79
 ·subst h4; rw [if_pos rfl] at h; cases h; refine ⟨rfl, rfl, rfl, ?_⟩
  have e : (r.k < 0 ∨ 3 < r.k) ↔ 3 < r.k := by omega
  simp only [e]; rfl
 rw [if_neg h4, if_neg h87] at h
 cases h
theorem stepR_other {places s lo hi : Int} {r : In} (hf : fieldOff s = none) (hw : within s = (lo, hi, false)) (h80 : s ≠ 80) : stepR places s r = some r ∧ lo = 0 ∧ hi = 0 ∧ s ≠ 87 := by
 unfold within at hw
 by_cases h1 : s = 75
 ·rw [if_pos h1] at hw; cases hw
 by_cases h2 : s = 66
 ·rw [if_neg h1, if_pos h2] at hw; cases hw
 by_cases h3 : s = 77
 ·rw [if_neg h1, if_neg h2, if_pos h3] at hw; cases hw
 by_cases h4 : s = 79
 ·rw [if_neg h1, if_neg h2, if_neg h3, if_pos h4] at hw; cases hw
 by_cases h5 : s = 87
 ·rw [if_neg h1, if_neg h2, if_neg h3, if_neg h4, if_pos h5] at hw; cases hw
 rw [if_neg h1, if_neg h2, if_neg h3, if_neg h4, if_neg h5] at hw
 cases hw
 refine ⟨?_, rfl, rfl, h5⟩
 unfold stepR
 rw [hf]
 simp only [h1, h2, h3, h4, h5, h80, if_false]
theorem stepR_P {places : Int} {r : In} : stepR places 80 r = if r.q < 0 ∨ places ≤ r.q then none else some { r with q := 0 } := rfl
theorem stepR_W {places : Int} {r : In} : stepR places 87 r = if 1 < r.k then none else if r.t < 0 ∨ 7 < r.t ∨ r.q < -1 ∨ (r.q ≠ -1 ∧ places ≤ r.q) then none else some { r with k := 0, t := 0, q := 0 } := rfl
/-- The number K stays a word. -/
def In.wk (r : In) : Prop := 0 ≤ r.k ∧ r.k ≤ 4294967295
theorem In.wk_put {r : In} (h : r.wk) (v : Int) (j : Nat) : (r.put v j).wk := by
 unfold In.put
 split <;> exact h
theorem ite_len {c : Prop} [Decidable c] {a b : List UInt8} (ha : a.length ≤ 5) (hb : b.length ≤ 5) : (if c then a else b).length ≤ 5 := by
 split <;> assumption
theorem opHas_len (op : Int) : (opHas op).length ≤ 5 := by
 unfold opHas
 repeat (refine ite_len (by decide) ?_)
 decide
end Go.Proofs.YtbhpkeiofajbpaaGreatDoor

namespace Go.Proofs.YtbhpkeiofajbpaaGreatDoor
open Go

/-- Without an 'r' ahead. -/
def trimR : List UInt8 → List UInt8
 | 114 :: l => l
 | l => l

theorem trimR_len (l : List UInt8) : (trimR l).length ≤ l.length := by
 unfold trimR; split <;> simp

/-- The number of a word: strconv's, of what stands behind an 'r'; 0: it is none. -/
def numF (l : List UInt8) : Int :=
 match Lib.atoiAll (trimR l) with
 | .ok v => v
 | .range => Lib.atoiSat (trimR l)
 | _ => 0

def namedGo (l : List UInt8) : Nat → Int → Int
 | 0, _ => 0
 | n + 1, op => if opName op = l ∧ l ≠ [] then op else namedGo l n (op + 1)
def namedF (l : List UInt8) : Int := namedGo l 23 1

def waitF (r : In) (ss : List (List UInt8)) : In × List (List UInt8) :=
 let r1 : In := if ss.getD 0 [] = [110, 101] then { r with q := -1, k := 1 } else { r with q := -1 }
 let r2 : In := if 2 ≤ ss.length then { r1 with t := numF (ss.getD 1 []) } else r1
 if ss.length = 4 ∧ ss.getD 2 [] = [101, 108, 115, 101] then ({ r2 with q := numF (ss.getD 3 []) }, []) else (r2, ss.drop 2)

end Go.Proofs.YtbhpkeiofajbpaaGreatDoor

namespace Go.Proofs.YtbhpkeiofajbpaaGreatDoor
open Go Go.Lib

/-- What stands between blanks. -/
def splitF : List UInt8 → List (List UInt8)
 | [] => [[]]
 | c :: l => if c = 32 then [] :: splitF l else
  match splitF l with
  | [] => [[c]]
  | w :: ws => (c :: w) :: ws
theorem splitF_ne (l : List UInt8) : splitF l ≠ [] := by
 cases l with
 | nil => simp [splitF]
 | cons c l =>
  unfold splitF
  split
  ·simp
  ·split <;> simp
theorem splitK_miss (k : Nat) (s : List UInt8) (h : indexByte s 32 = -1) : splitK [32] 0 k s = [s] := by
 cases k with
 | zero => rfl
 | succ k => unfold splitK; rw [index_one, h]; rfl
theorem splitK_hit (k i : Nat) (s : List UInt8) (h : indexByte s 32 = i) : splitK [32] 0 (k + 1) s = s.take i :: splitK [32] 0 k (s.drop (i + 1)) := by
 rw [splitK, index_one, h]
 rw [if_neg (by rw [beq_iff_eq]; omega)]
 rfl
theorem indexByte_none : ∀ (l : List UInt8) (c : UInt8), c ∉ l → indexByte l c = -1
 | [], _, _ => rfl
 | b :: l, c, h => by
  have h1 : (b == c) = false := beq_eq_false_iff_ne.2 (fun e => h (by rw [e]; exact List.mem_cons_self ..))
  have h2 := indexByte_none l c (fun x => h (List.mem_cons_of_mem _ x))
  unfold indexByte
  simp [h1, h2]
theorem splitK_eq : ∀ (l : List UInt8) (k : Nat), l.count 32 ≤ k → splitK [32] 0 k l = splitF l
 | [], k, _ => by rw [splitK_miss k [] rfl]; rfl
 | c :: l, k, hk => by
  by_cases hc : c = 32
  ·subst hc
   have hk' : l.count 32 + 1 ≤ k := by simpa using hk
   obtain ⟨k, rfl⟩ : ∃ m, k = m + 1 := ⟨k - 1, by omega⟩
   rw [splitK_hit k 0 (32 :: l) (by simp [indexByte])]
   simp only [List.take_zero, Nat.zero_add, List.drop_succ_cons, List.drop_zero]
   rw [splitK_eq l k (by omega)]
   simp [splitF]
  ·have hk' : l.count 32 ≤ k := by
    rw [List.count_cons_of_ne (by simpa using hc)] at hk
    exact hk
   have ih := splitK_eq l k hk'
   have hb : (c == 32) = false := beq_eq_false_iff_ne.2 hc
   have hsF : splitF (c :: l) = match splitF l with | [] => [[c]] | w :: ws => (c :: w) :: ws := by rw [splitF, if_neg hc]
   by_cases hm : indexByte l 32 = -1
   ·rw [splitK_miss k l hm] at ih
    rw [splitK_miss k (c :: l) (by unfold indexByte; simp [hb, hm]), hsF, ← ih]
   ·have hge := indexByte_ge l 32
    obtain ⟨i, hi⟩ : ∃ i : Nat, indexByte l 32 = i := ⟨(indexByte l 32).toNat, by omega⟩
    cases k with
    | zero =>
     exfalso
     have h0 : l.count 32 = 0 := by omega
     rw [List.count_eq_zero] at h0
     exact hm (indexByte_none l 32 h0)
    | succ k =>
     rw [splitK_hit k i l hi] at ih
     rw [splitK_hit k (i + 1) (c :: l) (by unfold indexByte; simp [hb, hi]), hsF, ← ih]
     simp
theorem indexByte_cut : ∀ (l : List UInt8) (i : Nat), indexByte l 32 = i → l.count 32 = 1 + (l.drop (i + 1)).count 32
 | [], i, h => by simp [indexByte] at h
 | c :: l, i, h => by
  unfold indexByte at h
  by_cases hc : c = 32
  ·subst hc
   simp at h
   have : i = 0 := by omega
   subst this
   simp [Nat.add_comm]
  ·have hb : (c == 32) = false := beq_eq_false_iff_ne.2 hc
   rw [hb] at h
   by_cases hm : indexByte l 32 = -1
   ·rw [hm] at h; simp at h
   ·have hge := indexByte_ge l 32
    simp only [Bool.false_eq_true, if_false] at h
    rw [if_neg (by rw [beq_iff_eq]; exact hm)] at h
    obtain ⟨j, rfl⟩ : ∃ j, i = j + 1 := ⟨i - 1, by omega⟩
    have := indexByte_cut l j (by omega)
    rw [List.count_cons_of_ne (by simpa using hc), this]
    rfl
theorem indexByte_miss : ∀ (l : List UInt8), indexByte l 32 = -1 → l.count 32 = 0
 | [], _ => rfl
 | c :: l, h => by
  unfold indexByte at h
  by_cases hc : c = 32
  ·subst hc
   simp at h
  ·have hb : (c == 32) = false := beq_eq_false_iff_ne.2 hc
   rw [hb] at h
   simp only [Bool.false_eq_true, if_false] at h
   have hge := indexByte_ge l 32
   by_cases hm : indexByte l 32 = -1
   ·rw [List.count_cons_of_ne (by simpa using hc)]
    exact indexByte_miss l hm
   ·rw [if_neg (by rw [beq_iff_eq]; exact hm)] at h
    omega
theorem count_eq : ∀ (n : Nat) (l : List UInt8), l.length ≤ n → Lib.count l [32] = l.count 32
 | 0, l, h => by
  have : l = [] := List.eq_nil_of_length_eq_zero (by omega)
  subst this
  rfl
 | n + 1, l, h => by
  by_cases hm : indexByte l 32 = -1
  ·rw [count_miss (by rw [index_one]; exact hm), indexByte_miss l hm]
  ·have hge := indexByte_ge l 32
   obtain ⟨i, hi⟩ : ∃ i : Nat, indexByte l 32 = i := ⟨(indexByte l 32).toNat, by omega⟩
   have hp := indexByte_cut l i hi
   have hl0 : 0 < l.length := by
    cases l with
    | nil => simp at hp
    | cons c l => simp
   rw [count_hit (by simp) (by rw [index_one]; exact hi), hp]
   have e : [(32 : UInt8)].length = 1 := rfl
   rw [e, count_eq n (l.drop (i + 1)) (by rw [List.length_drop]; omega)]
theorem splitF_length : ∀ l : List UInt8, (splitF l).length = l.count 32 + 1
 | [] => rfl
 | c :: l => by
  have ih := splitF_length l
  by_cases hc : c = 32
  ·subst hc
   simp [splitF, ih]
  ·rw [List.count_cons_of_ne (by simpa using hc)]
   unfold splitF
   rw [if_neg hc]
   cases h : splitF l with
   | nil => rw [h] at ih; simp at ih
   | cons w ws => rw [h] at ih; simpa using ih
theorem splitB_eq (l : List UInt8) : splitB ⟨#[32]⟩ 0 (countB ⟨l.toArray⟩ ⟨#[32]⟩) ⟨l.toArray⟩ = (splitF l).map fun x => ⟨x.toArray⟩ := by
 have hc : countB ⟨l.toArray⟩ ⟨#[32]⟩ = l.count 32 := count_eq l.length l (Nat.le_refl _)
 have h := splitB_data ⟨#[32]⟩ 0 (countB ⟨l.toArray⟩ ⟨#[32]⟩) ⟨l.toArray⟩
 rw [hc] at h ⊢
 have h2 : splitK (⟨#[32]⟩ : ByteArray).data.toList 0 (l.count 32) (⟨l.toArray⟩ : ByteArray).data.toList = splitF l := splitK_eq l _ (Nat.le_refl _)
 rw [h2] at h
 rw [← h, List.map_map]
 conv => lhs; rw [← List.map_id (splitB _ _ _ _)]
 apply List.map_congr_left
 intro x _
 cases x
 simp
theorem countB_eq (l : List UInt8) : countB ⟨l.toArray⟩ ⟨#[32]⟩ + 1 = (splitF l).length := by
 rw [splitF_length, show countB ⟨l.toArray⟩ ⟨#[32]⟩ = l.count 32 from count_eq l.length l (Nat.le_refl _)]
theorem splitF_short : ∀ (l : List UInt8), ∀ w ∈ splitF l, w.length ≤ l.length
 | [], w, h => by simp [splitF] at h; subst h; simp
 | c :: l, w, h => by
  have ih := splitF_short l
  unfold splitF at h
  by_cases hc : c = 32
  ·rw [if_pos hc] at h
   cases h with
   | head => simp
   | tail _ h => have := ih w h; simp; omega
  ·rw [if_neg hc] at h
   cases hs : splitF l with
   | nil => exact absurd hs (splitF_ne l)
   | cons v vs =>
    rw [hs] at h ih
    cases h with
    | head => have := ih v (List.mem_cons_self ..); simp; omega
    | tail _ h => have := ih w (List.mem_cons_of_mem _ h); simp; omega
end Go.Proofs.YtbhpkeiofajbpaaGreatDoor

namespace Go.Proofs.YtbhpkeiofajbpaaGreatDoor

def dec (v : Int) : List UInt8 := Go.Lib.decDigits v.toNat
def wordsF (i : In) (s : Int) : List (List UInt8) :=
 match fieldOff s with
 | some j => if j = 5 then [dec i.a] else [114 :: dec (i.get j)]
 | none =>
  if s = 80 then [dec i.q]
  else if s = 87 then (if i.k = 0 then [101, 113] else [110, 101]) :: (114 :: dec i.t) :: (if i.q = -1 then [] else [[101, 108, 115, 101], dec i.q])
  else [dec i.k]
/-- Registers, areas, a word, a place that may be none: what words asks of its instruction. -/
structure In.fits (i : In) : Prop where
 d : 0 ≤ i.d ∧ i.d ≤ 7
 s : 0 ≤ i.s ∧ i.s ≤ 7
 t : 0 ≤ i.t ∧ i.t ≤ 7
 u : 0 ≤ i.u ∧ i.u ≤ 7
 a : 0 ≤ i.a ∧ i.a ≤ 7
 k : 0 ≤ i.k ∧ i.k ≤ 4294967295
 q : -1 ≤ i.q ∧ i.q ≤ 1073741824
theorem In.fits.get {i : In} (h : i.fits) (j : Nat) : 0 ≤ i.get j ∧ i.get j ≤ 7 := by
 unfold In.get
 split
 ·exact h.d
 ·exact h.s
 ·exact h.t
 ·exact h.u
 ·exact h.a
 ·omega
end Go.Proofs.YtbhpkeiofajbpaaGreatDoor

namespace Go.Proofs.YtbhpkeiofajbpaaGreatDoor

structure In.regs (i : In) : Prop where
 d : 0 ≤ i.d ∧ i.d ≤ 7
 s : 0 ≤ i.s ∧ i.s ≤ 7
 t : 0 ≤ i.t ∧ i.t ≤ 7
 u : 0 ≤ i.u ∧ i.u ≤ 7
 a : 0 ≤ i.a ∧ i.a ≤ 7
 q : -1 ≤ i.q ∧ i.q ≤ 1073741824

theorem stepR_back {places s : Int} {r r' : In} (h : stepR places s r = some r') (hp : places ≤ 1073741824) (hr : r'.regs) : r.regs := by
 unfold stepR at h
 obtain ⟨h1, h2, h3, h4, h5, h6⟩ := hr
 cases hf : fieldOff s with
 | some j =>
  rw [hf] at h
  dsimp only at h
  by_cases hb : r.get j < 0 ∨ 7 < r.get j
  ·rw [if_pos hb] at h; cases h
  rw [if_neg hb] at h
  cases h
  have hb' : 0 ≤ r.get j ∧ r.get j ≤ 7 := by omega
  clear hb
  rcases fieldOff_cases hf with ⟨_, rfl⟩ | ⟨_, rfl⟩ | ⟨_, rfl⟩ | ⟨_, rfl⟩ | ⟨_, rfl⟩
  all_goals (simp only [In.put, In.get] at *; constructor <;> assumption)
 | none =>
  rw [hf] at h
  dsimp only at h
  by_cases c1 : s = 75
  ·rw [if_pos c1] at h; cases h; constructor <;> assumption
  rw [if_neg c1] at h
  by_cases c2 : s = 66
  ·rw [if_pos c2] at h
   by_cases b : 31 < r.k
   ·rw [if_pos b] at h; cases h
   rw [if_neg b] at h; cases h; constructor <;> assumption
  rw [if_neg c2] at h
  by_cases c3 : s = 77
  ·rw [if_pos c3] at h
   by_cases b : r.k < 1 ∨ 4 < r.k
   ·rw [if_pos b] at h; cases h
   rw [if_neg b] at h; cases h; constructor <;> assumption
  rw [if_neg c3] at h
  by_cases c4 : s = 79
  ·rw [if_pos c4] at h
   by_cases b : 3 < r.k
   ·rw [if_pos b] at h; cases h
   rw [if_neg b] at h; cases h; constructor <;> assumption
  rw [if_neg c4] at h
  by_cases c5 : s = 87
  ·rw [if_pos c5] at h
   by_cases b : 1 < r.k
   ·rw [if_pos b] at h; cases h
   rw [if_neg b] at h
   by_cases b2 : r.t < 0 ∨ 7 < r.t ∨ r.q < -1 ∨ (r.q ≠ -1 ∧ places ≤ r.q)
   ·rw [if_pos b2] at h; cases h
   rw [if_neg b2] at h; cases h
   exact ⟨h1, h2, by omega, h4, h5, by omega⟩
  rw [if_neg c5] at h
  by_cases c6 : s = 80
  ·rw [if_pos c6] at h
   by_cases b : r.q < 0 ∨ places ≤ r.q
   ·rw [if_pos b] at h; cases h
   rw [if_neg b] at h; cases h
   exact ⟨h1, h2, h3, h4, h5, by omega⟩
  rw [if_neg c6] at h
  cases h
  constructor <;> assumption
theorem foldR_back {places : Int} (hp : places ≤ 1073741824) : ∀ (l : List UInt8) (r r' : In), foldR places l r = some r' → r'.regs → r.regs
 | [], r, r', h, hr => by cases h; exact hr
 | c :: l, r, r', h, hr => by
  unfold foldR at h
  cases hs : stepR places (c.toNat : Int) r with
  | none => rw [hs] at h; cases h
  | some r1 =>
   rw [hs] at h
   exact stepR_back hs hp (foldR_back hp l r1 r' h hr)
theorem rightF_name {i : In} {places : Int} (h : rightF i places = true) : opName i.op ≠ [] := by
 intro e
 unfold rightF at h
 rw [if_pos e] at h
 cases h
theorem rightF_fold {i : In} {places : Int} (h : rightF i places = true) : foldR places (opHas i.op) { i with op := 0 } = some In.zero := by
 have hn := rightF_name h
 rw [rightF_eq _ _ hn] at h
 cases hf : foldR places (opHas i.op) { i with op := 0 } with
 | none => rw [hf] at h; cases h
 | some r => rw [hf] at h; rw [of_decide_eq_true h]
theorem rightF_fits {i : In} (h : rightF i 1073741824 = true) (hk : i.wk) : i.fits := by
 have hr := foldR_back (Int.le_refl _) _ _ _ (rightF_fold h) ⟨by decide, by decide, by decide, by decide, by decide, by decide⟩
 exact ⟨hr.d, hr.s, hr.t, hr.u, hr.a, hk, hr.q⟩
/-- The words of an instruction, and its text. -/
def allWords (i : In) : List (List UInt8) := opName i.op :: ((opHas i.op).map fun c => wordsF i (c.toNat : Int)).flatten
def textF (i : In) : List UInt8 := Go.Lib.join (allWords i) [32]
theorem wordsF_len (i : In) (s : Int) : (wordsF i s).length ≤ 4 := by
 unfold wordsF
 cases fieldOff s with
 | some j =>
  dsimp only
  by_cases h : j = 5
  ·rw [if_pos h]; simp
  ·rw [if_neg h]; simp
 | none =>
  dsimp only
  by_cases h : s = 80
  ·rw [if_pos h]; simp
  by_cases h' : s = 87
  ·rw [if_neg h, if_pos h']
   by_cases hq : i.q = -1
   ·rw [if_pos hq]; simp
   ·rw [if_neg hq]; simp
  rw [if_neg h, if_neg h']; simp
theorem stepR_q {places s : Int} {r r' : In} (h : stepR places s r = some r') (h80 : s ≠ 80) (h87 : s ≠ 87) : r'.q = r.q := by
 unfold stepR at h
 cases hf : fieldOff s with
 | some j =>
  rw [hf] at h
  dsimp only at h
  by_cases hb : r.get j < 0 ∨ 7 < r.get j
  ·rw [if_pos hb] at h; cases h
  rw [if_neg hb] at h
  cases h
  unfold In.put
  split <;> rfl
 | none =>
  rw [hf] at h
  dsimp only at h
  by_cases c1 : s = 75
  ·rw [if_pos c1] at h; cases h; rfl
  rw [if_neg c1] at h
  by_cases c2 : s = 66
  ·rw [if_pos c2] at h
   by_cases b : 31 < r.k
   ·rw [if_pos b] at h; cases h
   rw [if_neg b] at h; cases h; rfl
  rw [if_neg c2] at h
  by_cases c3 : s = 77
  ·rw [if_pos c3] at h
   by_cases b : r.k < 1 ∨ 4 < r.k
   ·rw [if_pos b] at h; cases h
   rw [if_neg b] at h; cases h; rfl
  rw [if_neg c3] at h
  by_cases c4 : s = 79
  ·rw [if_pos c4] at h
   by_cases b : 3 < r.k
   ·rw [if_pos b] at h; cases h
   rw [if_neg b] at h; cases h; rfl
  rw [if_neg c4, if_neg h87, if_neg h80] at h
  cases h
  rfl
theorem foldR_q {places : Int} : ∀ (l : List UInt8) (r r' : In), foldR places l r = some r' → (80 : UInt8) ∈ l → (87 : UInt8) ∉ l → 0 ≤ r.q
 | [], _, _, _, h80, _ => by cases h80
 | c :: l, r, r', h, h80, h87 => by
  unfold foldR at h
  cases hs : stepR places (c.toNat : Int) r with
  | none => rw [hs] at h; cases h
  | some r1 =>
   rw [hs] at h
   by_cases hc : c = 80
   ·subst hc
    rw [show ((80 : UInt8).toNat : Int) = 80 from rfl, stepR_P] at hs
    by_cases b : r.q < 0 ∨ places ≤ r.q
    ·rw [if_pos b] at hs; cases hs
    ·omega
   ·have h80' : (80 : UInt8) ∈ l := by
     cases h80 with
     | head => exact absurd rfl hc
     | tail _ h => exact h
    have h87' : (87 : UInt8) ∉ l := fun x => h87 (List.mem_cons_of_mem _ x)
    have hc87 : c ≠ 87 := fun e => h87 (by rw [e]; exact List.mem_cons_self ..)
    have := foldR_q l r1 r' h h80' h87'
    have e := stepR_q hs (fun e => hc (UInt8.toNat_inj.1 (Int.ofNat_inj.1 e))) (fun e => hc87 (UInt8.toNat_inj.1 (Int.ofNat_inj.1 e)))
    omega
theorem ite_mem {P : List UInt8 → Prop} {c : Prop} [Decidable c] {a b : List UInt8} (ha : P a) (hb : P b) : P (if c then a else b) := by split <;> assumption
theorem opHas_not_both (op : Int) : ¬ ((80 : UInt8) ∈ opHas op ∧ (87 : UInt8) ∈ opHas op) := by
 unfold opHas
 repeat (refine ite_mem (P := fun l => ¬ ((80 : UInt8) ∈ l ∧ (87 : UInt8) ∈ l)) (by decide) ?_)
 decide
theorem rightF_q {i : In} (h : rightF i 1073741824 = true) (h80 : (80 : UInt8) ∈ opHas i.op) : 0 ≤ i.q :=
 foldR_q (opHas i.op) { i with op := 0 } In.zero (rightF_fold h) h80 (fun h87 => opHas_not_both i.op ⟨h80, h87⟩)
/-- Text of any instruction: its text and 0; or nothing, and ErrArg. -/
def textR (i : In) : List UInt8 × Int := if rightF i 1073741824 = true then (textF i, 0) else ([], 1)
end Go.Proofs.YtbhpkeiofajbpaaGreatDoor

namespace Go.Proofs.YtbhpkeiofajbpaaGreatDoor
open Go

def parseGo : List UInt8 → In → List (List UInt8) → Option (In × List (List UInt8))
 | [], i, ls => some (i, ls)
 | _ :: _, _, [] => none
 | c :: sg, i, w :: ls =>
  match fieldOff (c.toNat : Int) with
  | some j => parseGo sg (i.put (numF w) j) ls
  | none =>
   if (c.toNat : Int) = 80 then parseGo sg { i with q := numF w } ls
   else if (c.toNat : Int) = 87 then parseGo sg (waitF i (w :: ls)).1 (waitF i (w :: ls)).2
   else parseGo sg { i with k := numF w % 4294967296 } ls
def parseF (s : List UInt8) : In × Int :=
 let op := namedF ((splitF s).headD [])
 match parseGo (opHas op) { In.zero with op := op } ((splitF s).drop 1) with
 | none => (In.zero, 8)
 | some (i, rest) => if rest ≠ [] ∨ (textR i).2 ≠ 0 ∨ (textR i).1 ≠ s then (In.zero, 8) else (i, 0)
def finP (s : List UInt8) : Option (In × List (List UInt8)) → In × Int
 | none => (In.zero, 8)
 | some (i, rest) => if rest ≠ [] ∨ (textR i).2 ≠ 0 ∨ (textR i).1 ≠ s then (In.zero, 8) else (i, 0)
theorem parseF_eq (s : List UInt8) : parseF s = finP s (parseGo (opHas (namedF ((splitF s).headD []))) { In.zero with op := namedF ((splitF s).headD []) } ((splitF s).drop 1)) := rfl
theorem parseGo_nil (l : List UInt8) (k : Nat) (i : In) (h : k < l.length) : parseGo (l.drop k) i [] = none := by
 rw [List.drop_eq_getElem_cons h]; rfl
theorem parseGo_at (l : List UInt8) (k : Nat) (i : In) (w : List UInt8) (ls : List (List UInt8)) (h : k < l.length) (sg : Int) (hs : ((l.getD k 0).toNat : Int) = sg) :
  parseGo (l.drop k) i (w :: ls) = match fieldOff sg with
   | some j => parseGo (l.drop (k + 1)) (i.put (numF w) j) ls
   | none =>
    if sg = 80 then parseGo (l.drop (k + 1)) { i with q := numF w } ls
    else if sg = 87 then parseGo (l.drop (k + 1)) (waitF i (w :: ls)).1 (waitF i (w :: ls)).2
    else parseGo (l.drop (k + 1)) { i with k := numF w % 4294967296 } ls := by
 subst hs
 rw [List.drop_eq_getElem_cons h, List.getD_eq_getElem?_getD, List.getElem?_eq_getElem h]
 rfl
theorem waitF_wk {r : In} (h : r.wk) (ss : List (List UInt8)) : (waitF r ss).1.wk := by
 have h1 : (if ss.getD 0 [] = [110, 101] then { r with q := -1, k := 1 } else { r with q := -1 } : In).wk := by
  split
  ·exact ⟨by simp, by simp⟩
  ·exact h
 have h2 : (if 2 ≤ ss.length then { (if ss.getD 0 [] = [110, 101] then { r with q := -1, k := 1 } else { r with q := -1 } : In) with t := numF (ss.getD 1 []) } else (if ss.getD 0 [] = [110, 101] then { r with q := -1, k := 1 } else { r with q := -1 } : In)).wk := by
  split
  ·exact h1
  ·exact h1
 unfold waitF
 dsimp only
 split
 ·exact h2
 ·exact h2
theorem waitF_sub (r : In) (ss : List (List UInt8)) : ∃ n, (waitF r ss).2 = ss.drop n := by
 unfold waitF
 dsimp only
 split
 ·exact ⟨ss.length, by simp⟩
 ·exact ⟨2, rfl⟩
end Go.Proofs.YtbhpkeiofajbpaaGreatDoor

namespace Go.Proofs.YtbhpkeiofajbpaaGreatDoor
open Go Go.Lib

theorem decFrom_snoc : ∀ (l : List UInt8) (acc : Nat) (b : UInt8), decFrom acc (l ++ [b]) = match decFrom acc l with
  | some n => (match digitVal b with | some d => some (n * 10 + d) | none => none)
  | none => none
 | [], acc, b => by
  simp only [List.nil_append, decFrom]
  cases digitVal b <;> rfl
 | c :: l, acc, b => by
  simp only [List.cons_append, decFrom]
  cases digitVal c with
  | none => rfl
  | some d => exact decFrom_snoc l (acc * 10 + d) b
theorem digitVal_dig {n : Nat} (h : n < 10) : digitVal (UInt8.ofNat (48 + n)) = some n := by
 have e : (UInt8.ofNat (48 + n)).toNat = 48 + n := by rw [UInt8.toNat_ofNat']; omega
 unfold digitVal
 rw [e, if_pos (by omega)]
 congr 1; omega
theorem decFrom_dec (u : Nat) : decFrom 0 (decDigits u) = some u := by
 induction u using Nat.strongRecOn with
 | _ u ih =>
  rw [decDigits]
  by_cases h : u < 10
  ·rw [dif_pos h]
   simp only [decFrom, digitVal_dig h]
   congr 1; omega
  ·rw [dif_neg h, decFrom_snoc, ih (u / 10) (by omega), digitVal_dig (Nat.mod_lt _ (by omega))]
   dsimp only
   congr 1; omega
theorem dec_digits (u : Nat) : ∀ b ∈ decDigits u, 48 ≤ b.toNat ∧ b.toNat ≤ 57 := by
 induction u using Nat.strongRecOn with
 | _ u ih =>
  rw [decDigits]
  by_cases h : u < 10
  ·rw [dif_pos h]
   intro b hb
   rw [List.mem_singleton] at hb; subst hb
   rw [UInt8.toNat_ofNat']; omega
  ·rw [dif_neg h]
   intro b hb
   rcases List.mem_append.1 hb with hb | hb
   ·exact ih (u / 10) (by omega) b hb
   ·rw [List.mem_singleton] at hb; subst hb
    rw [UInt8.toNat_ofNat']; omega
theorem dec_ne (u : Nat) : decDigits u ≠ [] := by
 rw [decDigits]
 split <;> simp
theorem dec_len10 (u : Nat) (h : u ≤ 4294967295) : (decDigits u).length ≤ 10 := by
 have step : ∀ (k u : Nat), u < 10 ^ (k + 1) → (decDigits u).length ≤ k + 1 := by
  intro k
  induction k with
  | zero => intro u hu; rw [decDigits, dif_pos (by omega)]; simp
  | succ k ih =>
   intro u hu
   rw [decDigits]
   by_cases h : u < 10
   ·rw [dif_pos h]; simp
   ·rw [dif_neg h, List.length_append, List.length_singleton]
    have := ih (u / 10) (by rw [Nat.div_lt_iff_lt_mul (by omega)]; rw [Nat.pow_succ] at hu; exact hu)
    omega
 exact step 9 u (by omega)
theorem trimR_r (l : List UInt8) : trimR (114 :: l) = l := rfl
theorem trimR_dec (u : Nat) : trimR (decDigits u) = decDigits u := by
 have hd := dec_digits u
 cases h : decDigits u with
 | nil => rfl
 | cons b l =>
  have hb := hd b (by rw [h]; exact List.mem_cons_self ..)
  unfold trimR
  split
  ·rename_i l' he
   cases he
   have : ((114 : UInt8).toNat) = 114 := rfl
   omega
  ·rfl
theorem atoi_dec (u : Nat) (h : u ≤ 4294967295) : atoiAll (decDigits u) = .ok (u : Int) := by
 rw [atoiAll_short _ (Nat.le_trans (dec_len10 u h) (by omega))]
 have hd := dec_digits u
 have hf := decFrom_dec u
 cases he : decDigits u with
 | nil => exact absurd he (dec_ne u)
 | cons b r =>
  have hb := hd b (by rw [he]; exact List.mem_cons_self ..)
  have h45 : (b == 45) = false := by
   rw [beq_eq_false_iff_ne]; rintro rfl
   have : ((45 : UInt8).toNat) = 45 := rfl
   omega
  have h43 : (b == 43) = false := by
   rw [beq_eq_false_iff_ne]; rintro rfl
   have : ((43 : UInt8).toNat) = 43 := rfl
   omega
  unfold atoi
  simp only [h45, h43, decNat, List.isEmpty_cons, Bool.false_eq_true, if_false]
  rw [← he, hf]
  rfl
theorem numF_dec {v : Int} (h0 : 0 ≤ v) (h1 : v ≤ 4294967295) : numF (dec v) = v := by
 unfold numF dec
 rw [trimR_dec, atoi_dec _ (by omega)]
 show ((v.toNat : Nat) : Int) = v
 omega
theorem numF_r {v : Int} (h0 : 0 ≤ v) (h1 : v ≤ 4294967295) : numF (114 :: dec v) = v := by
 unfold numF dec
 rw [trimR_r, atoi_dec _ (by omega)]
 show ((v.toNat : Nat) : Int) = v
 omega
theorem dec_no (v : Int) : (32 : UInt8) ∉ dec v := fun h => by
 have := dec_digits _ _ h
 have e : ((32 : UInt8).toNat) = 32 := rfl
 omega
theorem rdec_no (v : Int) : (32 : UInt8) ∉ 114 :: dec v := fun h => by
 cases h with
 | tail _ h => exact dec_no v h
theorem opName_no (op : Int) : (32 : UInt8) ∉ opName op := by
 unfold opName
 repeat (refine ite_mem (P := fun l => (32 : UInt8) ∉ l) (by decide) ?_)
 decide
theorem wordsF_no (i : In) (s : Int) : ∀ w ∈ wordsF i s, (32 : UInt8) ∉ w := by
 unfold wordsF
 intro w hw
 split at hw
 ·split at hw
  ·rw [List.mem_singleton] at hw; subst hw; exact dec_no _
  ·rw [List.mem_singleton] at hw; subst hw; exact rdec_no _
 ·split at hw
  ·rw [List.mem_singleton] at hw; subst hw; exact dec_no _
  split at hw
  ·rcases List.mem_cons.1 hw with rfl | hw
   ·split <;> decide
   rcases List.mem_cons.1 hw with rfl | hw
   ·exact rdec_no _
   split at hw
   ·cases hw
   ·rcases List.mem_cons.1 hw with rfl | hw
    ·decide
    rw [List.mem_singleton] at hw; subst hw; exact dec_no _
  ·rw [List.mem_singleton] at hw; subst hw; exact dec_no _
theorem splitF_word : ∀ (w : List UInt8), (32 : UInt8) ∉ w → splitF w = [w]
 | [], _ => rfl
 | c :: l, h => by
  have hc : c ≠ 32 := fun e => h (by rw [e]; exact List.mem_cons_self ..)
  rw [splitF, if_neg hc, splitF_word l (fun x => h (List.mem_cons_of_mem _ x))]
theorem splitF_app : ∀ (w r : List UInt8), (32 : UInt8) ∉ w → splitF (w ++ 32 :: r) = w :: splitF r
 | [], r, _ => by rw [List.nil_append, splitF, if_pos rfl]
 | c :: l, r, h => by
  have hc : c ≠ 32 := fun e => h (by rw [e]; exact List.mem_cons_self ..)
  rw [List.cons_append, splitF, if_neg hc, splitF_app l r (fun x => h (List.mem_cons_of_mem _ x))]
theorem join_two (x y : List UInt8) (r : List (List UInt8)) : join (x :: y :: r) [32] = x ++ 32 :: join (y :: r) [32] := by
 rw [join_cons, join_cons]
 simp [joinTail]
theorem splitF_join : ∀ (ws : List (List UInt8)) (w : List UInt8), (∀ x ∈ w :: ws, (32 : UInt8) ∉ x) → splitF (join (w :: ws) [32]) = w :: ws
 | [], w, h => by rw [join_one]; exact splitF_word w (h w (List.mem_cons_self ..))
 | y :: r, w, h => by
  rw [join_two, splitF_app w _ (h w (List.mem_cons_self ..)), splitF_join r y (fun x hx => h x (List.mem_cons_of_mem _ hx))]
theorem split_text (i : In) : splitF (textF i) = allWords i := by
 unfold textF allWords
 refine splitF_join _ _ (fun x hx => ?_)
 rcases List.mem_cons.1 hx with rfl | hx
 ·exact opName_no _
 ·obtain ⟨l, hl, hx⟩ := List.mem_flatten.1 hx
  obtain ⟨c, _, rfl⟩ := List.mem_map.1 hl
  exact wordsF_no i _ x hx
end Go.Proofs.YtbhpkeiofajbpaaGreatDoor

namespace Go.Proofs.YtbhpkeiofajbpaaGreatDoor
open Go Go.Lib

/-- What foldR has not struck yet, and what the parse has already. -/
structure Inv (i r r0 : In) : Prop where
 d : r0.d + r.d = i.d
 s : r0.s + r.s = i.s
 t : r0.t + r.t = i.t
 u : r0.u + r.u = i.u
 a : r0.a + r.a = i.a
 k : r0.k + r.k = i.k
 q : r0.q + r.q = i.q
def known (c : UInt8) : Prop := c = 68 ∨ c = 83 ∨ c = 84 ∨ c = 85 ∨ c = 65 ∨ c = 75 ∨ c = 66 ∨ c = 77 ∨ c = 79 ∨ c = 80
theorem numF_k {v : Int} (h : 0 ≤ v ∧ v ≤ 4294967295) : numF (dec v) % 4294967296 = v := by rw [numF_dec h.1 h.2]; omega

theorem round_go {i : In} {places : Int} (hf : i.fits) : ∀ (l : List UInt8) (r r0 : In), (∀ c ∈ l, known c) → ((80 : UInt8) ∈ l → 0 ≤ i.q) → Inv i r r0 → foldR places l r = some In.zero →
  parseGo l r0 ((l.map fun c => wordsF i (c.toNat : Int)).flatten) = some ({ i with op := r0.op }, [])
 | [], r, r0, _, _, hi, h => by
  obtain ⟨h1, h2, h3, h4, h5, h6, h7⟩ := hi
  cases h
  simp only [In.zero, Int.add_zero] at h1 h2 h3 h4 h5 h6 h7
  show some (r0, []) = some (({ i with op := r0.op } : In), [])
  rw [← h1, ← h2, ← h3, ← h4, ← h5, ← h6, ← h7]
 | c :: l, r, r0, hk, h80, hi, h => by
  have hk' : ∀ c ∈ l, known c := fun x hx => hk x (List.mem_cons_of_mem _ hx)
  have h80' : (80 : UInt8) ∈ l → 0 ≤ i.q := fun hx => h80 (List.mem_cons_of_mem _ hx)
  obtain ⟨f1, f2, f3, f4, f5, f6, f7⟩ := hf
  have hf : i.fits := ⟨f1, f2, f3, f4, f5, f6, f7⟩
  obtain ⟨h1, h2, h3, h4, h5, h6, h7⟩ := hi
  rw [List.map_cons, List.flatten_cons]
  rcases hk c (List.mem_cons_self ..) with rfl | rfl | rfl | rfl | rfl | rfl | rfl | rfl | rfl | rfl
  ·have h' : foldR places l { r with d := 0 } = some In.zero := by
    rw [foldR, show (((68 : UInt8).toNat : Nat) : Int) = 68 from rfl, stepR_field (j := 1) rfl] at h
    by_cases b : r.get 1 < 0 ∨ 7 < r.get 1
    ·rw [if_pos b] at h; cases h
    ·rw [if_neg b] at h; exact h
   show parseGo l { r0 with d := numF (114 :: dec i.d) } _ = _
   rw [numF_r f1.1 (by omega)]
   exact round_go hf l { r with d := 0 } { r0 with d := i.d } hk' h80' ⟨by simp, h2, h3, h4, h5, h6, h7⟩ h'
  ·have h' : foldR places l { r with s := 0 } = some In.zero := by
    rw [foldR, show (((83 : UInt8).toNat : Nat) : Int) = 83 from rfl, stepR_field (j := 2) rfl] at h
    by_cases b : r.get 2 < 0 ∨ 7 < r.get 2
    ·rw [if_pos b] at h; cases h
    ·rw [if_neg b] at h; exact h
   show parseGo l { r0 with s := numF (114 :: dec i.s) } _ = _
   rw [numF_r f2.1 (by omega)]
   exact round_go hf l { r with s := 0 } { r0 with s := i.s } hk' h80' ⟨h1, by simp, h3, h4, h5, h6, h7⟩ h'
  ·have h' : foldR places l { r with t := 0 } = some In.zero := by
    rw [foldR, show (((84 : UInt8).toNat : Nat) : Int) = 84 from rfl, stepR_field (j := 3) rfl] at h
    by_cases b : r.get 3 < 0 ∨ 7 < r.get 3
    ·rw [if_pos b] at h; cases h
    ·rw [if_neg b] at h; exact h
   show parseGo l { r0 with t := numF (114 :: dec i.t) } _ = _
   rw [numF_r f3.1 (by omega)]
   exact round_go hf l { r with t := 0 } { r0 with t := i.t } hk' h80' ⟨h1, h2, by simp, h4, h5, h6, h7⟩ h'
  ·have h' : foldR places l { r with u := 0 } = some In.zero := by
    rw [foldR, show (((85 : UInt8).toNat : Nat) : Int) = 85 from rfl, stepR_field (j := 4) rfl] at h
    by_cases b : r.get 4 < 0 ∨ 7 < r.get 4
    ·rw [if_pos b] at h; cases h
    ·rw [if_neg b] at h; exact h
   show parseGo l { r0 with u := numF (114 :: dec i.u) } _ = _
   rw [numF_r f4.1 (by omega)]
   exact round_go hf l { r with u := 0 } { r0 with u := i.u } hk' h80' ⟨h1, h2, h3, by simp, h5, h6, h7⟩ h'
  ·have h' : foldR places l { r with a := 0 } = some In.zero := by
    rw [foldR, show (((65 : UInt8).toNat : Nat) : Int) = 65 from rfl, stepR_field (j := 5) rfl] at h
    by_cases b : r.get 5 < 0 ∨ 7 < r.get 5
    ·rw [if_pos b] at h; cases h
    ·rw [if_neg b] at h; exact h
   show parseGo l { r0 with a := numF (dec i.a) } _ = _
   rw [numF_dec f5.1 (by omega)]
   exact round_go hf l { r with a := 0 } { r0 with a := i.a } hk' h80' ⟨h1, h2, h3, h4, by simp, h6, h7⟩ h'
  ·have h' : foldR places l { r with k := 0 } = some In.zero := h
   show parseGo l { r0 with k := numF (dec i.k) % 4294967296 } _ = _
   rw [numF_k f6]
   exact round_go hf l { r with k := 0 } { r0 with k := i.k } hk' h80' ⟨h1, h2, h3, h4, h5, by simp, h7⟩ h'
  ·have h' : foldR places l { r with k := 0 } = some In.zero := by
    rw [foldR, show stepR places (((66 : UInt8).toNat : Nat) : Int) r = if 31 < r.k then none else some { r with k := 0 } from rfl] at h
    by_cases b : 31 < r.k
    ·rw [if_pos b] at h; cases h
    ·rw [if_neg b] at h; exact h
   show parseGo l { r0 with k := numF (dec i.k) % 4294967296 } _ = _
   rw [numF_k f6]
   exact round_go hf l { r with k := 0 } { r0 with k := i.k } hk' h80' ⟨h1, h2, h3, h4, h5, by simp, h7⟩ h'
  ·have h' : foldR places l { r with k := 0 } = some In.zero := by
    rw [foldR, show stepR places (((77 : UInt8).toNat : Nat) : Int) r = if r.k < 1 ∨ 4 < r.k then none else some { r with k := 0 } from rfl] at h
    by_cases b : r.k < 1 ∨ 4 < r.k
    ·rw [if_pos b] at h; cases h
    ·rw [if_neg b] at h; exact h
   show parseGo l { r0 with k := numF (dec i.k) % 4294967296 } _ = _
   rw [numF_k f6]
   exact round_go hf l { r with k := 0 } { r0 with k := i.k } hk' h80' ⟨h1, h2, h3, h4, h5, by simp, h7⟩ h'
  ·have h' : foldR places l { r with k := 0 } = some In.zero := by
    rw [foldR, show stepR places (((79 : UInt8).toNat : Nat) : Int) r = if 3 < r.k then none else some { r with k := 0 } from rfl] at h
    by_cases b : 3 < r.k
    ·rw [if_pos b] at h; cases h
    ·rw [if_neg b] at h; exact h
   show parseGo l { r0 with k := numF (dec i.k) % 4294967296 } _ = _
   rw [numF_k f6]
   exact round_go hf l { r with k := 0 } { r0 with k := i.k } hk' h80' ⟨h1, h2, h3, h4, h5, by simp, h7⟩ h'
  ·have hq := h80 (List.mem_cons_self ..)
   have h' : foldR places l { r with q := 0 } = some In.zero := by
    rw [foldR, show (((80 : UInt8).toNat : Nat) : Int) = 80 from rfl, stepR_P] at h
    by_cases b : r.q < 0 ∨ places ≤ r.q
    ·rw [if_pos b] at h; cases h
    ·rw [if_neg b] at h; exact h
   show parseGo l { r0 with q := numF (dec i.q) } _ = _
   rw [numF_dec hq (by omega)]
   exact round_go hf l { r with q := 0 } { r0 with q := i.q } hk' h80' ⟨h1, h2, h3, h4, h5, h6, by simp⟩ h'

theorem opHas_known (op : Int) (h : op ≠ 21) : ∀ c ∈ opHas op, known c := by
 unfold opHas
 repeat (refine ite_mem (P := fun l => ∀ c ∈ l, known c) (by unfold known; decide) ?_)
 rw [if_neg h]
 repeat (refine ite_mem (P := fun l => ∀ c ∈ l, known c) (by unfold known; decide) ?_)
 intro c hc; cases hc

theorem round_await {i : In} {places : Int} (hf : i.fits) (h : foldR places [68, 65, 83, 87] { i with op := 0 } = some In.zero) :
  parseGo [68, 65, 83, 87] { In.zero with op := 21 } (([68, 65, 83, 87].map fun c : UInt8 => wordsF i (c.toNat : Int)).flatten) = some ({ i with op := 21 }, []) := by
 obtain ⟨f1, f2, f3, f4, f5, f6, f7⟩ := hf
 rw [foldR, show (((68 : UInt8).toNat : Nat) : Int) = 68 from rfl, stepR_field (j := 1) rfl] at h
 by_cases b : ({ i with op := 0 } : In).get 1 < 0 ∨ 7 < ({ i with op := 0 } : In).get 1
 ·rw [if_pos b] at h; cases h
 rw [if_neg b] at h; clear b
 dsimp only at h
 rw [foldR, show (((65 : UInt8).toNat : Nat) : Int) = 65 from rfl, stepR_field (j := 5) rfl] at h
 by_cases b : (({ i with op := 0 } : In).put 0 1).get 5 < 0 ∨ 7 < (({ i with op := 0 } : In).put 0 1).get 5
 ·rw [if_pos b] at h; cases h
 rw [if_neg b] at h; clear b
 dsimp only at h
 rw [foldR, show (((83 : UInt8).toNat : Nat) : Int) = 83 from rfl, stepR_field (j := 2) rfl] at h
 by_cases b : ((({ i with op := 0 } : In).put 0 1).put 0 5).get 2 < 0 ∨ 7 < ((({ i with op := 0 } : In).put 0 1).put 0 5).get 2
 ·rw [if_pos b] at h; cases h
 rw [if_neg b] at h; clear b
 dsimp only at h
 rw [foldR, show (((87 : UInt8).toNat : Nat) : Int) = 87 from rfl, stepR_W] at h
 change (match (if 1 < i.k then none else if i.t < 0 ∨ 7 < i.t ∨ i.q < -1 ∨ (i.q ≠ -1 ∧ places ≤ i.q) then none else some ({ op := 0, d := 0, s := 0, t := 0, u := i.u, a := 0, k := 0, q := 0 } : In)) with | some r' => foldR places [] r' | none => none) = some In.zero at h
 by_cases b : 1 < i.k
 ·rw [if_pos b] at h; cases h
 rw [if_neg b] at h
 by_cases b2 : i.t < 0 ∨ 7 < i.t ∨ i.q < -1 ∨ (i.q ≠ -1 ∧ places ≤ i.q)
 ·rw [if_pos b2] at h; cases h
 rw [if_neg b2] at h
 dsimp only [foldR] at h
 have hu : i.u = 0 := congrArg In.u (Option.some.inj h)
 show some (waitF { In.zero with op := 21, d := numF (114 :: dec i.d), a := numF (dec i.a), s := numF (114 :: dec i.s) } _) = _
 rw [numF_r f1.1 (by omega), numF_dec f5.1 (by omega), numF_r f2.1 (by omega)]
 have hk : i.k = 0 ∨ i.k = 1 := by omega
 by_cases hq : i.q = -1
 ·have e : ((wordsF i 87)) ++ [] = [if i.k = 0 then [101, 113] else [110, 101], 114 :: dec i.t] := by
   unfold wordsF; rw [show fieldOff 87 = none from rfl]; dsimp only; rw [if_neg (by omega), if_pos rfl, if_pos hq]; rfl
  show some (waitF _ (wordsF i 87 ++ [])) = _
  rw [e]
  rcases hk with hk | hk
  ·rw [hk, if_pos rfl]
   show some (({ op := 21, d := i.d, s := i.s, t := numF (114 :: dec i.t), u := 0, a := i.a, k := 0, q := -1 } : In), _) = _
   rw [numF_r f3.1 (by omega)]
   obtain ⟨op, d, s, t, u, a, k, q⟩ := i
   dsimp only at *
   subst hk hq hu
   rfl
  ·rw [hk, if_neg (by omega)]
   show some (({ op := 21, d := i.d, s := i.s, t := numF (114 :: dec i.t), u := 0, a := i.a, k := 1, q := -1 } : In), _) = _
   rw [numF_r f3.1 (by omega)]
   obtain ⟨op, d, s, t, u, a, k, q⟩ := i
   dsimp only at *
   subst hk hq hu
   rfl
 ·have e : ((wordsF i 87)) ++ [] = [if i.k = 0 then [101, 113] else [110, 101], 114 :: dec i.t, [101, 108, 115, 101], dec i.q] := by
   unfold wordsF; rw [show fieldOff 87 = none from rfl]; dsimp only; rw [if_neg (by omega), if_pos rfl, if_neg hq]; rfl
  show some (waitF _ (wordsF i 87 ++ [])) = _
  rw [e]
  rcases hk with hk | hk
  ·rw [hk, if_pos rfl]
   show some (({ op := 21, d := i.d, s := i.s, t := numF (114 :: dec i.t), u := 0, a := i.a, k := 0, q := numF (dec i.q) } : In), _) = _
   rw [numF_r f3.1 (by omega), numF_dec (by omega) (by omega)]
   obtain ⟨op, d, s, t, u, a, k, q⟩ := i
   dsimp only at *
   subst hk hu
   rfl
  ·rw [hk, if_neg (by omega)]
   show some (({ op := 21, d := i.d, s := i.s, t := numF (114 :: dec i.t), u := 0, a := i.a, k := 1, q := numF (dec i.q) } : In), _) = _
   rw [numF_r f3.1 (by omega), numF_dec (by omega) (by omega)]
   obtain ⟨op, d, s, t, u, a, k, q⟩ := i
   dsimp only at *
   subst hk hu
   rfl
theorem opName_in {op : Int} (h : opName op ≠ []) : (1 ≤ op ∧ op ≤ 13) ∨ (16 ≤ op ∧ op ≤ 23) := by
 refine Decidable.byContradiction (fun hc => h ?_)
 unfold opName
 repeat rw [if_neg (by omega)]
theorem named_back {op : Int} (h : opName op ≠ []) : namedF (opName op) = op := by
 have hr := opName_in h
 have hc : op = 1 ∨ op = 2 ∨ op = 3 ∨ op = 4 ∨ op = 5 ∨ op = 6 ∨ op = 7 ∨ op = 8 ∨ op = 9 ∨ op = 10 ∨ op = 11 ∨ op = 12 ∨ op = 13 ∨ op = 16 ∨ op = 17 ∨ op = 18 ∨ op = 19 ∨ op = 20 ∨ op = 21 ∨ op = 22 ∨ op = 23 := by omega
 rcases hc with rfl | rfl | rfl | rfl | rfl | rfl | rfl | rfl | rfl | rfl | rfl | rfl | rfl | rfl | rfl | rfl | rfl | rfl | rfl | rfl | rfl <;> decide
theorem textR_ok {i : In} (h : rightF i 1073741824 = true) : textR i = (textF i, 0) := by unfold textR; rw [if_pos h]
/-- What is right is parsed of its own text. -/
theorem parse_text {i : In} (h : rightF i 1073741824 = true) (hk : i.wk) : parseF (textF i) = (i, 0) := by
 have hf := rightF_fits h hk
 have hn := rightF_name h
 have hr := rightF_fold h
 have hg : parseGo (opHas i.op) { In.zero with op := i.op } ((opHas i.op).map fun c => wordsF i (c.toNat : Int)).flatten = some (i, []) := by
  by_cases h21 : i.op = 21
  ·rw [h21] at hr ⊢
   have := round_await hf hr
   rw [show ({ i with op := 21 } : In) = i by rw [← h21]] at this
   exact this
  ·have := round_go hf (opHas i.op) { i with op := 0 } { In.zero with op := i.op } (opHas_known _ h21) (rightF_q h) ⟨by simp [In.zero], by simp [In.zero], by simp [In.zero], by simp [In.zero], by simp [In.zero], by simp [In.zero], by simp [In.zero]⟩ hr
   exact this
 rw [parseF_eq, split_text]
 show finP (textF i) (parseGo (opHas (namedF (opName i.op))) { In.zero with op := namedF (opName i.op) } (((opHas i.op).map fun c => wordsF i (c.toNat : Int)).flatten)) = _
 rw [named_back hn, hg]
 unfold finP
 dsimp only
 rw [textR_ok h, if_neg (by simp)]
end Go.Proofs.YtbhpkeiofajbpaaGreatDoor

namespace Go.Proofs.YtbhpkeiofajbpaaGreatDoor
open Go Go.Lib
set_option linter.unusedSimpArgs false

def regF (w : List UInt8) : Int :=
 if w.length = 2 ∧ (w.getD 0 0).toNat = 114 ∧ 48 ≤ (w.getD 1 0).toNat ∧ (w.getD 1 0).toNat ≤ 55 then ((w.getD 1 0).toNat : Int) - 48 else -1
def numR (w : List UInt8) : Int :=
 if w = [] ∨ 10 < w.length ∨ (1 < w.length ∧ (w.getD 0 0).toNat = 48) then -1 else
 match decFrom 0 w with
 | some n => if 4294967295 < n then -1 else n
 | none => -1
/-- Each word as what it may be. -/
def sortW : List (List UInt8) → List Int → List Int → Int → Option (List Int × List Int × Int)
 | [], rs, ns, k => some (rs, ns, k)
 | w :: ls, rs, ns, k =>
  if 0 ≤ regF w then sortW ls (rs ++ [regF w]) ns k
  else if 0 ≤ numR w then sortW ls rs (ns ++ [numR w]) k
  else if w = [110, 101] then sortW ls rs ns 1
  else if w ≠ [101, 113] ∧ w ≠ [101, 108, 115, 101] then none
  else sortW ls rs ns k
def padTo (n : Nat) (v : Int) (l : List Int) : List Int := l ++ List.replicate (n - l.length) v
def nameGo (w : List UInt8) : Nat → Int → Int → Int
 | 0, _, acc => acc
 | n + 1, op, acc => nameGo w n (op + 1) (if opName op ≠ [] ∧ opName op = w then op else acc)
def nameL (w : List UInt8) : Int := nameGo w 23 1 0
/-- What registers and numbers make. -/
def setF (op k r0 r1 r2 r3 n0 n1 : Int) : In :=
 if op = 1 ∨ op = 2 ∨ op = 3 ∨ op = 4 ∨ op = 5 ∨ op = 6 ∨ op = 7 ∨ op = 11 ∨ op = 22 then
  ⟨op, r0, r1, r2, 0, 0, if op ≠ 2 ∧ op ≠ 7 ∧ op ≠ 11 ∧ op ≠ 22 then n0 % 4294967296 else k, 0⟩
 else if op = 8 ∨ op = 9 ∨ op = 10 then ⟨op, 0, r0, r1, 0, 0, k, n0⟩
 else if op = 12 ∨ op = 13 then ⟨op, 0, 0, 0, 0, 0, n0 % 4294967296, 0⟩
 else if op = 16 ∨ op = 18 ∨ op = 19 ∨ op = 20 ∨ op = 21 then ⟨op, r0, r1, r2, r3, n0, if op = 20 then n1 % 4294967296 else k, if op = 21 then n1 else 0⟩
 else if op = 17 then ⟨op, 0, r0, r1, 0, n0, k, 0⟩
 else if op = 23 then ⟨op, 0, r0, 0, 0, 0, k, 0⟩
 else ⟨op, 0, 0, 0, 0, 0, k, 0⟩
def setL (op k : Int) (r n : List Int) : In := setF op k (r.getD 0 0) (r.getD 1 0) (r.getD 2 0) (r.getD 3 0) (n.getD 0 0) (n.getD 1 0)
def finQ (s : List UInt8) (i : In) : In × Bool := if rightF i 1073741824 = true ∧ textF i = s then (i, true) else (In.zero, false)
def afterW (s : List UInt8) (op : Int) : Option (List Int × List Int × Int) → In × Bool
 | none => (In.zero, false)
 | some (r, n, k) => finQ s (setL op k (padTo 4 0 r) (padTo 2 (-1) n))
def refP (s : List UInt8) : In × Bool := afterW s (nameL ((splitF s).headD [])) (sortW ((splitF s).drop 1) [] [] 0)

theorem dec_small {v : Int} (h : 0 ≤ v ∧ v ≤ 7) : dec v = [UInt8.ofNat (48 + v.toNat)] := by
 unfold dec; rw [decDigits_one (by omega)]
theorem regF_r {v : Int} (h : 0 ≤ v ∧ v ≤ 7) : regF (114 :: dec v) = v := by
 rw [dec_small h]
 have e : (UInt8.ofNat (48 + v.toNat)).toNat = 48 + v.toNat := by rw [UInt8.toNat_ofNat']; omega
 unfold regF
 rw [if_pos ⟨rfl, rfl, by show 48 ≤ (UInt8.ofNat (48 + v.toNat)).toNat; omega, by show (UInt8.ofNat (48 + v.toNat)).toNat ≤ 55; omega⟩]
 show ((UInt8.ofNat (48 + v.toNat)).toNat : Int) - 48 = v
 omega
theorem dec_head (v : Int) : (48 : Nat) ≤ ((dec v).getD 0 0).toNat ∧ ((dec v).getD 0 0).toNat ≤ 57 := by
 unfold dec
 have h := dec_digits v.toNat
 have hn := dec_ne v.toNat
 cases he : decDigits v.toNat with
 | nil => exact absurd he hn
 | cons b l => exact h b (by rw [he]; exact List.mem_cons_self ..)
theorem regF_dec (v : Int) : regF (dec v) = -1 := by
 have := dec_head v
 unfold regF
 rw [if_neg (by omega)]
theorem dec_lead (u : Nat) : 1 < (decDigits u).length → ((decDigits u).getD 0 0).toNat ≠ 48 := by
 induction u using Nat.strongRecOn with
 | _ u ih =>
  intro hl
  by_cases h : u < 10
  ·rw [decDigits_one h] at hl; simp at hl
  ·have e : decDigits u = decDigits (u / 10) ++ [UInt8.ofNat (48 + u % 10)] := by rw [decDigits, dif_neg h]
   have hn := dec_ne (u / 10)
   by_cases h2 : 1 < (decDigits (u / 10)).length
   ·have := ih (u / 10) (by omega) h2
    rw [e]
    cases hd : decDigits (u / 10) with
    | nil => exact absurd hd hn
    | cons b l => rw [hd] at this; exact this
   ·have h3 : u / 10 < 10 := by
     refine Decidable.byContradiction (fun h4 => h2 ?_)
     rw [decDigits, dif_neg h4, List.length_append]
     have := dec_ne (u / 10 / 10)
     cases hd : decDigits (u / 10 / 10) with
     | nil => exact absurd hd this
     | cons b l => simp
    rw [e, decDigits_one h3]
    show (UInt8.ofNat (48 + u / 10)).toNat ≠ 48
    rw [UInt8.toNat_ofNat']; omega
theorem numR_dec {v : Int} (h0 : 0 ≤ v) (h1 : v ≤ 4294967295) : numR (dec v) = v := by
 unfold numR
 have hl := dec_len10 v.toNat (by omega)
 have hd := dec_lead v.toNat
 have hn := dec_ne v.toNat
 unfold dec
 rw [if_neg (by
  rintro (h | h | ⟨h, h'⟩)
  ·exact hn h
  ·omega
  ·exact hd h h'), decFrom_dec]
 dsimp only
 rw [if_neg (by omega)]
 omega
theorem sortW_r {v : Int} (h : 0 ≤ v ∧ v ≤ 7) (ls : List (List UInt8)) (rs ns : List Int) (k : Int) : sortW ((114 :: dec v) :: ls) rs ns k = sortW ls (rs ++ [v]) ns k := by
 rw [sortW, regF_r h, if_pos h.1]
theorem sortW_n {v : Int} (h : 0 ≤ v ∧ v ≤ 4294967295) (ls : List (List UInt8)) (rs ns : List Int) (k : Int) : sortW (dec v :: ls) rs ns k = sortW ls rs (ns ++ [v]) k := by
 rw [sortW, regF_dec, if_neg (by decide), numR_dec h.1 h.2, if_pos h.1]
theorem sortW_nil (rs ns : List Int) (k : Int) : sortW [] rs ns k = some (rs, ns, k) := rfl
theorem sortW_eq (ls : List (List UInt8)) (rs ns : List Int) (k : Int) : sortW ([101, 113] :: ls) rs ns k = sortW ls rs ns k := rfl
theorem sortW_ne (ls : List (List UInt8)) (rs ns : List Int) (k : Int) : sortW ([110, 101] :: ls) rs ns k = sortW ls rs ns 1 := rfl
theorem sortW_else (ls : List (List UInt8)) (rs ns : List Int) (k : Int) : sortW ([101, 108, 115, 101] :: ls) rs ns k = sortW ls rs ns k := rfl
theorem nameL_back {op : Int} (h : opName op ≠ []) : nameL (opName op) = op := by
 have hr := opName_in h
 have hc : op = 1 ∨ op = 2 ∨ op = 3 ∨ op = 4 ∨ op = 5 ∨ op = 6 ∨ op = 7 ∨ op = 8 ∨ op = 9 ∨ op = 10 ∨ op = 11 ∨ op = 12 ∨ op = 13 ∨ op = 16 ∨ op = 17 ∨ op = 18 ∨ op = 19 ∨ op = 20 ∨ op = 21 ∨ op = 22 ∨ op = 23 := by omega
 rcases hc with rfl | rfl | rfl | rfl | rfl | rfl | rfl | rfl | rfl | rfl | rfl | rfl | rfl | rfl | rfl | rfl | rfl | rfl | rfl | rfl | rfl <;> decide
theorem text_go {i : In} (h : rightF i 1073741824 = true) (hk : i.wk) : parseGo (opHas i.op) { In.zero with op := i.op } ((opHas i.op).map fun c => wordsF i (c.toNat : Int)).flatten = some (i, []) := by
 have hf := rightF_fits h hk
 have hr := rightF_fold h
 by_cases h21 : i.op = 21
 ·rw [h21] at hr ⊢
  have := round_await hf hr
  rw [show ({ i with op := 21 } : In) = i by rw [← h21]] at this
  exact this
 ·have := round_go hf (opHas i.op) { i with op := 0 } { In.zero with op := i.op } (opHas_known _ h21) (rightF_q h) ⟨by simp [In.zero], by simp [In.zero], by simp [In.zero], by simp [In.zero], by simp [In.zero], by simp [In.zero], by simp [In.zero]⟩ hr
  exact this
/-- What the reference makes of a right instruction's own text. -/
theorem refP_text {i : In} (h : rightF i 1073741824 = true) (hk : i.wk) : refP (textF i) = (i, true) := by
 have hf := rightF_fits h hk
 have hg := text_go h hk
 have hn := rightF_name h
 have hq := rightF_q h
 have key : afterW (textF i) i.op (sortW (((opHas i.op).map fun c => wordsF i (c.toNat : Int)).flatten) [] [] 0) = (i, true) := by
  have fin : ∀ j, j = i → finQ (textF i) j = (i, true) := by
   rintro j rfl
   unfold finQ; rw [if_pos ⟨h, rfl⟩]
  have hc := opName_in hn
  generalize textF i = tx at fin
  obtain ⟨f1, f2, f3, f4, f5, f6, f7⟩ := hf
  obtain ⟨op, d, s, t, u, a, k, q⟩ := i
  dsimp only at *
  have hc : op = 1 ∨ op = 2 ∨ op = 3 ∨ op = 4 ∨ op = 5 ∨ op = 6 ∨ op = 7 ∨ op = 8 ∨ op = 9 ∨ op = 10 ∨ op = 11 ∨ op = 12 ∨ op = 13 ∨ op = 16 ∨ op = 17 ∨ op = 18 ∨ op = 19 ∨ op = 20 ∨ op = 21 ∨ op = 22 ∨ op = 23 := by omega
  clear h hn hk
  have kd := numF_r f1.1 (by omega : d ≤ 4294967295)
  have ks := numF_r f2.1 (by omega : s ≤ 4294967295)
  have kt := numF_r f3.1 (by omega : t ≤ 4294967295)
  have ku := numF_r f4.1 (by omega : u ≤ 4294967295)
  have ka := numF_dec f5.1 (by omega : a ≤ 4294967295)
  have kk := numF_k f6
  have km : k % 4294967296 = k := by omega
  have a' : 0 ≤ a ∧ a ≤ 4294967295 := by omega
  have kk1 : k % 4294967296 ≤ 4294967295 := by omega
  rcases hc with rfl | rfl | rfl | rfl | rfl | rfl | rfl | rfl | rfl | rfl | rfl | rfl | rfl | rfl | rfl | rfl | rfl | rfl | rfl | rfl | rfl
  case inr.inr.inr.inr.inr.inr.inr.inr.inr.inr.inr.inr.inr.inr.inr.inr.inr.inr.inl =>
   have e21 : ∀ x, (wordsF x 87) = (if x.k = 0 then [101, 113] else [110, 101]) :: (114 :: dec x.t) :: (if x.q = -1 then [] else [[101, 108, 115, 101], dec x.q]) := fun x => by
    unfold wordsF; rw [show fieldOff 87 = none from rfl]; dsimp only; rw [if_neg (by omega), if_pos rfl]
   have hg2 : some (waitF { In.zero with op := 21, d := numF (114 :: dec d), a := numF (dec a), s := numF (114 :: dec s) } (wordsF ⟨21, d, s, t, u, a, k, q⟩ 87 ++ [])) = some (⟨21, d, s, t, u, a, k, q⟩, []) := hg
   rw [e21, List.append_nil] at hg2
   dsimp only at hg2
   have hk01 : k = 0 ∨ k = 1 := by
    by_cases hk0 : k = 0
    ·exact .inl hk0
    ·rw [if_neg hk0] at hg2
     by_cases hq1 : q = -1
     ·rw [if_pos hq1] at hg2
      exact .inr (congrArg (fun x : In × List (List UInt8) => x.1.k) (Option.some.inj hg2)).symm
     ·rw [if_neg hq1] at hg2
      exact .inr (congrArg (fun x : In × List (List UInt8) => x.1.k) (Option.some.inj hg2)).symm
   have hu0 : u = 0 := by
    rcases hk01 with hk0 | hk0
    all_goals
     rw [hk0] at hg2
     by_cases hq1 : q = -1
     ·rw [if_pos hq1] at hg2
      exact (congrArg (fun x : In × List (List UInt8) => x.1.u) (Option.some.inj hg2)).symm
     ·rw [if_neg hq1] at hg2
      exact (congrArg (fun x : In × List (List UInt8) => x.1.u) (Option.some.inj hg2)).symm
   clear hg hg2
   subst hu0
   show afterW tx 21 (sortW ((114 :: dec d) :: dec a :: (114 :: dec s) :: (wordsF ⟨21, d, s, t, 0, a, k, q⟩ 87 ++ [])) [] [] 0) = _
   rw [e21, List.append_nil, sortW_r f1, sortW_n a', sortW_r f2]
   dsimp only
   rcases hk01 with rfl | rfl
   ·rw [if_pos rfl, sortW_eq, sortW_r f3]
    by_cases hq1 : q = -1
    ·subst hq1
     exact fin _ rfl
    ·rw [if_neg hq1, sortW_else, sortW_n (by omega)]
     exact fin _ rfl
   ·rw [if_neg (by decide), sortW_ne, sortW_r f3]
    by_cases hq1 : q = -1
    ·subst hq1
     exact fin _ rfl
    ·rw [if_neg hq1, sortW_else, sortW_n (by omega)]
     exact fin _ rfl
  case inr.inr.inr.inr.inr.inr.inr.inl | inr.inr.inr.inr.inr.inr.inr.inr.inl | inr.inr.inr.inr.inr.inr.inr.inr.inr.inl =>
   have hq0 : 0 ≤ q := hq (by decide)
   have kq := numF_dec hq0 (by omega : q ≤ 4294967295)
   have q' : 0 ≤ q ∧ q ≤ 4294967295 := by omega
   simp [opHas, wordsF, fieldOff, parseGo, In.put, In.get, In.zero, kd, ks, kt, kq] at hg ⊢
   simp only [sortW_r f2, sortW_r f3, sortW_n q', sortW_nil]
   apply fin
   simp [setL, setF, padTo]
   omega
  all_goals
   simp [opHas, wordsF, fieldOff, parseGo, In.put, In.get, In.zero, kd, ks, kt, ku, ka, kk] at hg ⊢
   simp only [sortW_r f1, sortW_r f2, sortW_r f3, sortW_r f4, sortW_n a', sortW_n f6, sortW_nil]
   apply fin
   simp [setL, setF, padTo]
   try omega
 unfold refP
 rw [split_text]
 show afterW (textF i) (nameL (opName i.op)) _ = _
 rw [nameL_back hn]
 exact key
end Go.Proofs.YtbhpkeiofajbpaaGreatDoor

namespace Go.Proofs.YtbhpkeiofajbpaaGreatDoor
open Go

theorem put_wk {i : In} (h : i.wk) (v : Int) (j : Nat) : (i.put v j).wk := by
 unfold In.put
 split <;> exact h
theorem parseGo_wk : ∀ (l : List UInt8) (i : In) (ls : List (List UInt8)) (r : In × List (List UInt8)), i.wk → parseGo l i ls = some r → r.1.wk
 | [], i, ls, r, h, e => by cases e; exact h
 | _ :: _, i, [], r, h, e => by cases e
 | c :: sg, i, w :: ls, r, h, e => by
  unfold parseGo at e
  cases hf : fieldOff (c.toNat : Int) with
  | some j =>
   rw [hf] at e
   exact parseGo_wk sg _ _ r (put_wk h _ _) e
  | none =>
   rw [hf] at e
   dsimp only at e
   by_cases h80 : (c.toNat : Int) = 80
   ·rw [if_pos h80] at e
    exact parseGo_wk sg { i with q := numF w } _ r h e
   rw [if_neg h80] at e
   by_cases h87 : (c.toNat : Int) = 87
   ·rw [if_pos h87] at e
    exact parseGo_wk sg _ _ r (waitF_wk h _) e
   rw [if_neg h87] at e
   refine parseGo_wk sg _ _ r ?_ e
   unfold In.wk
   dsimp only
   omega
theorem sortW_k : ∀ (ls : List (List UInt8)) (rs ns : List Int) (k : Int) (r : List Int × List Int × Int), (k = 0 ∨ k = 1) → sortW ls rs ns k = some r → r.2.2 = 0 ∨ r.2.2 = 1
 | [], rs, ns, k, r, h, e => by cases e; exact h
 | w :: ls, rs, ns, k, r, h, e => by
  unfold sortW at e
  split at e
  ·exact sortW_k ls _ _ _ r h e
  split at e
  ·exact sortW_k ls _ _ _ r h e
  split at e
  ·exact sortW_k ls _ _ _ r (.inr rfl) e
  split at e
  ·cases e
  ·exact sortW_k ls _ _ _ r h e
theorem setF_wk' (op k x0 x1 x2 x3 y0 y1 : Int) (hk : k = 0 ∨ k = 1) : (setF op k x0 x1 x2 x3 y0 y1).wk := by
 have hk' : 0 ≤ k ∧ k ≤ 4294967295 := by omega
 have h0 : 0 ≤ y0 % 4294967296 ∧ y0 % 4294967296 ≤ 4294967295 := by omega
 have h1 : 0 ≤ y1 % 4294967296 ∧ y1 % 4294967296 ≤ 4294967295 := by omega
 unfold setF In.wk
 repeat (first | split | assumption)
theorem textR_zero {i : In} (h : (textR i).2 = 0) : rightF i 1073741824 = true ∧ (textR i).1 = textF i := by
 unfold textR at h ⊢
 by_cases hr : rightF i 1073741824 = true
 ·rw [if_pos hr]; exact ⟨hr, rfl⟩
 ·rw [if_neg hr] at h; cases h
theorem parse_both (l : List UInt8) : (∃ i : In, i.wk ∧ rightF i 1073741824 = true ∧ textF i = l ∧ parseF l = (i, 0) ∧ refP l = (i, true)) ∨ (parseF l = (In.zero, 8) ∧ refP l = (In.zero, false)) := by
 by_cases h : ∃ i : In, i.wk ∧ rightF i 1073741824 = true ∧ textF i = l
 ·obtain ⟨i, hk, hr, rfl⟩ := h
  exact .inl ⟨i, hk, hr, rfl, parse_text hr hk, refP_text hr hk⟩
 ·refine .inr ⟨?_, ?_⟩
  ·rw [parseF_eq]
   cases hg : parseGo (opHas (namedF ((splitF l).headD []))) { In.zero with op := namedF ((splitF l).headD []) } ((splitF l).drop 1) with
   | none => rfl
   | some r =>
    obtain ⟨i, rest⟩ := r
    have hw := parseGo_wk _ _ _ _ (show In.wk { In.zero with op := namedF ((splitF l).headD []) } from ⟨by simp [In.zero], by simp [In.zero]⟩) hg
    show (if rest ≠ [] ∨ (textR i).2 ≠ 0 ∨ (textR i).1 ≠ l then (In.zero, (8 : Int)) else (i, 0)) = _
    refine if_pos (Decidable.byContradiction fun hn => h ?_)
    have h2 : (textR i).2 = 0 := Decidable.byContradiction fun x => hn (.inr (.inl x))
    have h3 : (textR i).1 = l := Decidable.byContradiction fun x => hn (.inr (.inr x))
    obtain ⟨hr, ht⟩ := textR_zero h2
    exact ⟨i, hw, hr, by rw [← ht, h3]⟩
  ·unfold refP
   cases hg : sortW ((splitF l).drop 1) [] [] 0 with
   | none => rfl
   | some r =>
    obtain ⟨rs, ns, k⟩ := r
    have hk := sortW_k _ _ _ _ _ (.inl rfl) hg
    show finQ l (setL (nameL ((splitF l).headD [])) k (padTo 4 0 rs) (padTo 2 (-1) ns)) = _
    unfold finQ
    exact if_neg (fun hn => h ⟨_, setF_wk' _ _ _ _ _ _ _ _ hk, hn⟩)
end Go.Proofs.YtbhpkeiofajbpaaGreatDoor

namespace Go.Proofs.YtbhpkeiofajbpaaGreatDoor
set_option linter.unusedVariables false
set_option linter.unusedSimpArgs false

theorem rightF_1 (d s t u a k q places : Int) (hd : 0 ≤ d ∧ d ≤ 7) (hs : 0 ≤ s ∧ s ≤ 7) (ht : 0 ≤ t ∧ t ≤ 7) (hu : 0 ≤ u ∧ u ≤ 7) (ha : 0 ≤ a ∧ a ≤ 7) (hk : 0 ≤ k ∧ k ≤ 4294967295) :
  rightF ⟨1, d, s, t, u, a, k, q⟩ places = (decide ((⟨1, d, 0, 0, 0, 0, k, 0⟩ : In) = ⟨1, d, s, t, u, a, k, q⟩)) := by
 rw [Bool.eq_iff_iff, rightF_eq _ _ (by show opName 1 ≠ []; decide)]
 show finR (foldR places [68, 75] ⟨0, d, s, t, u, a, k, q⟩) = true ↔ _
 have n_d : ¬ (d < 0 ∨ 7 < d) := by omega
 simp only [foldR, stepR, fieldOff, In.get, In.put, UInt8.reduceToNat]
 simp [n_d, finR, In.zero]
 try omega

theorem rightF_2 (d s t u a k q places : Int) (hd : 0 ≤ d ∧ d ≤ 7) (hs : 0 ≤ s ∧ s ≤ 7) (ht : 0 ≤ t ∧ t ≤ 7) (hu : 0 ≤ u ∧ u ≤ 7) (ha : 0 ≤ a ∧ a ≤ 7) (hk : 0 ≤ k ∧ k ≤ 4294967295) :
  rightF ⟨2, d, s, t, u, a, k, q⟩ places = (decide ((⟨2, d, s, 0, 0, 0, 0, 0⟩ : In) = ⟨2, d, s, t, u, a, k, q⟩)) := by
 rw [Bool.eq_iff_iff, rightF_eq _ _ (by show opName 2 ≠ []; decide)]
 show finR (foldR places [68, 83] ⟨0, d, s, t, u, a, k, q⟩) = true ↔ _
 have n_d : ¬ (d < 0 ∨ 7 < d) := by omega
 have n_s : ¬ (s < 0 ∨ 7 < s) := by omega
 simp only [foldR, stepR, fieldOff, In.get, In.put, UInt8.reduceToNat]
 simp [n_d, n_s, finR, In.zero]
 try omega

theorem rightF_3 (d s t u a k q places : Int) (hd : 0 ≤ d ∧ d ≤ 7) (hs : 0 ≤ s ∧ s ≤ 7) (ht : 0 ≤ t ∧ t ≤ 7) (hu : 0 ≤ u ∧ u ≤ 7) (ha : 0 ≤ a ∧ a ≤ 7) (hk : 0 ≤ k ∧ k ≤ 4294967295) :
  rightF ⟨3, d, s, t, u, a, k, q⟩ places = (decide ((⟨3, d, s, 0, 0, 0, k, 0⟩ : In) = ⟨3, d, s, t, u, a, k, q⟩)) := by
 rw [Bool.eq_iff_iff, rightF_eq _ _ (by show opName 3 ≠ []; decide)]
 show finR (foldR places [68, 83, 75] ⟨0, d, s, t, u, a, k, q⟩) = true ↔ _
 have n_d : ¬ (d < 0 ∨ 7 < d) := by omega
 have n_s : ¬ (s < 0 ∨ 7 < s) := by omega
 simp only [foldR, stepR, fieldOff, In.get, In.put, UInt8.reduceToNat]
 simp [n_d, n_s, finR, In.zero]
 try omega

theorem rightF_4 (d s t u a k q places : Int) (hd : 0 ≤ d ∧ d ≤ 7) (hs : 0 ≤ s ∧ s ≤ 7) (ht : 0 ≤ t ∧ t ≤ 7) (hu : 0 ≤ u ∧ u ≤ 7) (ha : 0 ≤ a ∧ a ≤ 7) (hk : 0 ≤ k ∧ k ≤ 4294967295) :
  rightF ⟨4, d, s, t, u, a, k, q⟩ places = (decide ((⟨4, d, s, 0, 0, 0, k, 0⟩ : In) = ⟨4, d, s, t, u, a, k, q⟩)) := by
 rw [Bool.eq_iff_iff, rightF_eq _ _ (by show opName 4 ≠ []; decide)]
 show finR (foldR places [68, 83, 75] ⟨0, d, s, t, u, a, k, q⟩) = true ↔ _
 have n_d : ¬ (d < 0 ∨ 7 < d) := by omega
 have n_s : ¬ (s < 0 ∨ 7 < s) := by omega
 simp only [foldR, stepR, fieldOff, In.get, In.put, UInt8.reduceToNat]
 simp [n_d, n_s, finR, In.zero]
 try omega

theorem rightF_5 (d s t u a k q places : Int) (hd : 0 ≤ d ∧ d ≤ 7) (hs : 0 ≤ s ∧ s ≤ 7) (ht : 0 ≤ t ∧ t ≤ 7) (hu : 0 ≤ u ∧ u ≤ 7) (ha : 0 ≤ a ∧ a ≤ 7) (hk : 0 ≤ k ∧ k ≤ 4294967295) :
  rightF ⟨5, d, s, t, u, a, k, q⟩ places = (!decide (31 < k) && decide ((⟨5, d, s, 0, 0, 0, k, 0⟩ : In) = ⟨5, d, s, t, u, a, k, q⟩)) := by
 rw [Bool.eq_iff_iff, rightF_eq _ _ (by show opName 5 ≠ []; decide)]
 show finR (foldR places [68, 83, 66] ⟨0, d, s, t, u, a, k, q⟩) = true ↔ _
 have n_d : ¬ (d < 0 ∨ 7 < d) := by omega
 have n_s : ¬ (s < 0 ∨ 7 < s) := by omega
 simp only [foldR, stepR, fieldOff, In.get, In.put, UInt8.reduceToNat]
 by_cases hc : 31 < k
 ·simp [n_d, n_s, hc, finR, In.zero]
  try omega
 ·simp [n_d, n_s, hc, finR, In.zero]
  try omega

theorem rightF_6 (d s t u a k q places : Int) (hd : 0 ≤ d ∧ d ≤ 7) (hs : 0 ≤ s ∧ s ≤ 7) (ht : 0 ≤ t ∧ t ≤ 7) (hu : 0 ≤ u ∧ u ≤ 7) (ha : 0 ≤ a ∧ a ≤ 7) (hk : 0 ≤ k ∧ k ≤ 4294967295) :
  rightF ⟨6, d, s, t, u, a, k, q⟩ places = (!decide (31 < k) && decide ((⟨6, d, s, 0, 0, 0, k, 0⟩ : In) = ⟨6, d, s, t, u, a, k, q⟩)) := by
 rw [Bool.eq_iff_iff, rightF_eq _ _ (by show opName 6 ≠ []; decide)]
 show finR (foldR places [68, 83, 66] ⟨0, d, s, t, u, a, k, q⟩) = true ↔ _
 have n_d : ¬ (d < 0 ∨ 7 < d) := by omega
 have n_s : ¬ (s < 0 ∨ 7 < s) := by omega
 simp only [foldR, stepR, fieldOff, In.get, In.put, UInt8.reduceToNat]
 by_cases hc : 31 < k
 ·simp [n_d, n_s, hc, finR, In.zero]
  try omega
 ·simp [n_d, n_s, hc, finR, In.zero]
  try omega

theorem rightF_7 (d s t u a k q places : Int) (hd : 0 ≤ d ∧ d ≤ 7) (hs : 0 ≤ s ∧ s ≤ 7) (ht : 0 ≤ t ∧ t ≤ 7) (hu : 0 ≤ u ∧ u ≤ 7) (ha : 0 ≤ a ∧ a ≤ 7) (hk : 0 ≤ k ∧ k ≤ 4294967295) :
  rightF ⟨7, d, s, t, u, a, k, q⟩ places = (decide ((⟨7, d, s, t, 0, 0, 0, 0⟩ : In) = ⟨7, d, s, t, u, a, k, q⟩)) := by
 rw [Bool.eq_iff_iff, rightF_eq _ _ (by show opName 7 ≠ []; decide)]
 show finR (foldR places [68, 83, 84] ⟨0, d, s, t, u, a, k, q⟩) = true ↔ _
 have n_d : ¬ (d < 0 ∨ 7 < d) := by omega
 have n_s : ¬ (s < 0 ∨ 7 < s) := by omega
 have n_t : ¬ (t < 0 ∨ 7 < t) := by omega
 simp only [foldR, stepR, fieldOff, In.get, In.put, UInt8.reduceToNat]
 simp [n_d, n_s, n_t, finR, In.zero]
 try omega

theorem rightF_8 (d s t u a k q places : Int) (hd : 0 ≤ d ∧ d ≤ 7) (hs : 0 ≤ s ∧ s ≤ 7) (ht : 0 ≤ t ∧ t ≤ 7) (hu : 0 ≤ u ∧ u ≤ 7) (ha : 0 ≤ a ∧ a ≤ 7) (hk : 0 ≤ k ∧ k ≤ 4294967295) :
  rightF ⟨8, d, s, t, u, a, k, q⟩ places = (!decide (q < 0) && decide ((⟨8, 0, s, t, 0, 0, 0, q⟩ : In) = ⟨8, d, s, t, u, a, k, q⟩) && decide (q < places)) := by
 rw [Bool.eq_iff_iff, rightF_eq _ _ (by show opName 8 ≠ []; decide)]
 show finR (foldR places [83, 84, 80] ⟨0, d, s, t, u, a, k, q⟩) = true ↔ _
 have n_s : ¬ (s < 0 ∨ 7 < s) := by omega
 have n_t : ¬ (t < 0 ∨ 7 < t) := by omega
 simp only [foldR, stepR, fieldOff, In.get, In.put, UInt8.reduceToNat]
 by_cases hc : q < 0 ∨ places ≤ q
 ·simp [n_s, n_t, hc, finR, In.zero]
  try omega
 ·simp [n_s, n_t, hc, finR, In.zero]
  try omega

theorem rightF_9 (d s t u a k q places : Int) (hd : 0 ≤ d ∧ d ≤ 7) (hs : 0 ≤ s ∧ s ≤ 7) (ht : 0 ≤ t ∧ t ≤ 7) (hu : 0 ≤ u ∧ u ≤ 7) (ha : 0 ≤ a ∧ a ≤ 7) (hk : 0 ≤ k ∧ k ≤ 4294967295) :
  rightF ⟨9, d, s, t, u, a, k, q⟩ places = (!decide (q < 0) && decide ((⟨9, 0, s, t, 0, 0, 0, q⟩ : In) = ⟨9, d, s, t, u, a, k, q⟩) && decide (q < places)) := by
 rw [Bool.eq_iff_iff, rightF_eq _ _ (by show opName 9 ≠ []; decide)]
 show finR (foldR places [83, 84, 80] ⟨0, d, s, t, u, a, k, q⟩) = true ↔ _
 have n_s : ¬ (s < 0 ∨ 7 < s) := by omega
 have n_t : ¬ (t < 0 ∨ 7 < t) := by omega
 simp only [foldR, stepR, fieldOff, In.get, In.put, UInt8.reduceToNat]
 by_cases hc : q < 0 ∨ places ≤ q
 ·simp [n_s, n_t, hc, finR, In.zero]
  try omega
 ·simp [n_s, n_t, hc, finR, In.zero]
  try omega

theorem rightF_10 (d s t u a k q places : Int) (hd : 0 ≤ d ∧ d ≤ 7) (hs : 0 ≤ s ∧ s ≤ 7) (ht : 0 ≤ t ∧ t ≤ 7) (hu : 0 ≤ u ∧ u ≤ 7) (ha : 0 ≤ a ∧ a ≤ 7) (hk : 0 ≤ k ∧ k ≤ 4294967295) :
  rightF ⟨10, d, s, t, u, a, k, q⟩ places = (!decide (q < 0) && decide ((⟨10, 0, 0, 0, 0, 0, 0, q⟩ : In) = ⟨10, d, s, t, u, a, k, q⟩) && decide (q < places)) := by
 rw [Bool.eq_iff_iff, rightF_eq _ _ (by show opName 10 ≠ []; decide)]
 show finR (foldR places [80] ⟨0, d, s, t, u, a, k, q⟩) = true ↔ _
 simp only [foldR, stepR, fieldOff, In.get, In.put, UInt8.reduceToNat]
 by_cases hc : q < 0 ∨ places ≤ q
 ·simp [hc, finR, In.zero]
  try omega
 ·simp [hc, finR, In.zero]
  try omega

theorem rightF_11 (d s t u a k q places : Int) (hd : 0 ≤ d ∧ d ≤ 7) (hs : 0 ≤ s ∧ s ≤ 7) (ht : 0 ≤ t ∧ t ≤ 7) (hu : 0 ≤ u ∧ u ≤ 7) (ha : 0 ≤ a ∧ a ≤ 7) (hk : 0 ≤ k ∧ k ≤ 4294967295) :
  rightF ⟨11, d, s, t, u, a, k, q⟩ places = (decide ((⟨11, d, 0, 0, 0, 0, 0, 0⟩ : In) = ⟨11, d, s, t, u, a, k, q⟩)) := by
 rw [Bool.eq_iff_iff, rightF_eq _ _ (by show opName 11 ≠ []; decide)]
 show finR (foldR places [68] ⟨0, d, s, t, u, a, k, q⟩) = true ↔ _
 have n_d : ¬ (d < 0 ∨ 7 < d) := by omega
 simp only [foldR, stepR, fieldOff, In.get, In.put, UInt8.reduceToNat]
 simp [n_d, finR, In.zero]
 try omega

theorem rightF_12 (d s t u a k q places : Int) (hd : 0 ≤ d ∧ d ≤ 7) (hs : 0 ≤ s ∧ s ≤ 7) (ht : 0 ≤ t ∧ t ≤ 7) (hu : 0 ≤ u ∧ u ≤ 7) (ha : 0 ≤ a ∧ a ≤ 7) (hk : 0 ≤ k ∧ k ≤ 4294967295) :
  rightF ⟨12, d, s, t, u, a, k, q⟩ places = (!decide (k < 1) && !decide (4 < k) && decide ((⟨12, 0, 0, 0, 0, 0, k, 0⟩ : In) = ⟨12, d, s, t, u, a, k, q⟩)) := by
 rw [Bool.eq_iff_iff, rightF_eq _ _ (by show opName 12 ≠ []; decide)]
 show finR (foldR places [77] ⟨0, d, s, t, u, a, k, q⟩) = true ↔ _
 simp only [foldR, stepR, fieldOff, In.get, In.put, UInt8.reduceToNat]
 by_cases hc : k < 1 ∨ 4 < k
 ·simp [hc, finR, In.zero]
  try omega
 ·simp [hc, finR, In.zero]
  try omega

theorem rightF_13 (d s t u a k q places : Int) (hd : 0 ≤ d ∧ d ≤ 7) (hs : 0 ≤ s ∧ s ≤ 7) (ht : 0 ≤ t ∧ t ≤ 7) (hu : 0 ≤ u ∧ u ≤ 7) (ha : 0 ≤ a ∧ a ≤ 7) (hk : 0 ≤ k ∧ k ≤ 4294967295) :
  rightF ⟨13, d, s, t, u, a, k, q⟩ places = (!decide (3 < k) && decide ((⟨13, 0, 0, 0, 0, 0, k, 0⟩ : In) = ⟨13, d, s, t, u, a, k, q⟩)) := by
 rw [Bool.eq_iff_iff, rightF_eq _ _ (by show opName 13 ≠ []; decide)]
 show finR (foldR places [79] ⟨0, d, s, t, u, a, k, q⟩) = true ↔ _
 simp only [foldR, stepR, fieldOff, In.get, In.put, UInt8.reduceToNat]
 by_cases hc : 3 < k
 ·simp [hc, finR, In.zero]
  try omega
 ·simp [hc, finR, In.zero]
  try omega

theorem rightF_16 (d s t u a k q places : Int) (hd : 0 ≤ d ∧ d ≤ 7) (hs : 0 ≤ s ∧ s ≤ 7) (ht : 0 ≤ t ∧ t ≤ 7) (hu : 0 ≤ u ∧ u ≤ 7) (ha : 0 ≤ a ∧ a ≤ 7) (hk : 0 ≤ k ∧ k ≤ 4294967295) :
  rightF ⟨16, d, s, t, u, a, k, q⟩ places = (decide ((⟨16, d, s, 0, 0, a, 0, 0⟩ : In) = ⟨16, d, s, t, u, a, k, q⟩)) := by
 rw [Bool.eq_iff_iff, rightF_eq _ _ (by show opName 16 ≠ []; decide)]
 show finR (foldR places [68, 65, 83] ⟨0, d, s, t, u, a, k, q⟩) = true ↔ _
 have n_d : ¬ (d < 0 ∨ 7 < d) := by omega
 have n_a : ¬ (a < 0 ∨ 7 < a) := by omega
 have n_s : ¬ (s < 0 ∨ 7 < s) := by omega
 simp only [foldR, stepR, fieldOff, In.get, In.put, UInt8.reduceToNat]
 simp [n_d, n_a, n_s, finR, In.zero]
 try omega

theorem rightF_17 (d s t u a k q places : Int) (hd : 0 ≤ d ∧ d ≤ 7) (hs : 0 ≤ s ∧ s ≤ 7) (ht : 0 ≤ t ∧ t ≤ 7) (hu : 0 ≤ u ∧ u ≤ 7) (ha : 0 ≤ a ∧ a ≤ 7) (hk : 0 ≤ k ∧ k ≤ 4294967295) :
  rightF ⟨17, d, s, t, u, a, k, q⟩ places = (decide ((⟨17, 0, s, t, 0, a, 0, 0⟩ : In) = ⟨17, d, s, t, u, a, k, q⟩)) := by
 rw [Bool.eq_iff_iff, rightF_eq _ _ (by show opName 17 ≠ []; decide)]
 show finR (foldR places [65, 83, 84] ⟨0, d, s, t, u, a, k, q⟩) = true ↔ _
 have n_a : ¬ (a < 0 ∨ 7 < a) := by omega
 have n_s : ¬ (s < 0 ∨ 7 < s) := by omega
 have n_t : ¬ (t < 0 ∨ 7 < t) := by omega
 simp only [foldR, stepR, fieldOff, In.get, In.put, UInt8.reduceToNat]
 simp [n_a, n_s, n_t, finR, In.zero]
 try omega

theorem rightF_18 (d s t u a k q places : Int) (hd : 0 ≤ d ∧ d ≤ 7) (hs : 0 ≤ s ∧ s ≤ 7) (ht : 0 ≤ t ∧ t ≤ 7) (hu : 0 ≤ u ∧ u ≤ 7) (ha : 0 ≤ a ∧ a ≤ 7) (hk : 0 ≤ k ∧ k ≤ 4294967295) :
  rightF ⟨18, d, s, t, u, a, k, q⟩ places = (decide ((⟨18, d, s, t, 0, a, 0, 0⟩ : In) = ⟨18, d, s, t, u, a, k, q⟩)) := by
 rw [Bool.eq_iff_iff, rightF_eq _ _ (by show opName 18 ≠ []; decide)]
 show finR (foldR places [68, 65, 83, 84] ⟨0, d, s, t, u, a, k, q⟩) = true ↔ _
 have n_d : ¬ (d < 0 ∨ 7 < d) := by omega
 have n_a : ¬ (a < 0 ∨ 7 < a) := by omega
 have n_s : ¬ (s < 0 ∨ 7 < s) := by omega
 have n_t : ¬ (t < 0 ∨ 7 < t) := by omega
 simp only [foldR, stepR, fieldOff, In.get, In.put, UInt8.reduceToNat]
 simp [n_d, n_a, n_s, n_t, finR, In.zero]
 try omega

theorem rightF_19 (d s t u a k q places : Int) (hd : 0 ≤ d ∧ d ≤ 7) (hs : 0 ≤ s ∧ s ≤ 7) (ht : 0 ≤ t ∧ t ≤ 7) (hu : 0 ≤ u ∧ u ≤ 7) (ha : 0 ≤ a ∧ a ≤ 7) (hk : 0 ≤ k ∧ k ≤ 4294967295) :
  rightF ⟨19, d, s, t, u, a, k, q⟩ places = (decide ((⟨19, d, s, t, u, a, 0, 0⟩ : In) = ⟨19, d, s, t, u, a, k, q⟩)) := by
 rw [Bool.eq_iff_iff, rightF_eq _ _ (by show opName 19 ≠ []; decide)]
 show finR (foldR places [68, 65, 83, 84, 85] ⟨0, d, s, t, u, a, k, q⟩) = true ↔ _
 have n_d : ¬ (d < 0 ∨ 7 < d) := by omega
 have n_a : ¬ (a < 0 ∨ 7 < a) := by omega
 have n_s : ¬ (s < 0 ∨ 7 < s) := by omega
 have n_t : ¬ (t < 0 ∨ 7 < t) := by omega
 have n_u : ¬ (u < 0 ∨ 7 < u) := by omega
 simp only [foldR, stepR, fieldOff, In.get, In.put, UInt8.reduceToNat]
 simp [n_d, n_a, n_s, n_t, n_u, finR, In.zero]
 try omega

theorem rightF_20 (d s t u a k q places : Int) (hd : 0 ≤ d ∧ d ≤ 7) (hs : 0 ≤ s ∧ s ≤ 7) (ht : 0 ≤ t ∧ t ≤ 7) (hu : 0 ≤ u ∧ u ≤ 7) (ha : 0 ≤ a ∧ a ≤ 7) (hk : 0 ≤ k ∧ k ≤ 4294967295) :
  rightF ⟨20, d, s, t, u, a, k, q⟩ places = (decide ((⟨20, d, s, 0, 0, a, k, 0⟩ : In) = ⟨20, d, s, t, u, a, k, q⟩)) := by
 rw [Bool.eq_iff_iff, rightF_eq _ _ (by show opName 20 ≠ []; decide)]
 show finR (foldR places [68, 65, 83, 75] ⟨0, d, s, t, u, a, k, q⟩) = true ↔ _
 have n_d : ¬ (d < 0 ∨ 7 < d) := by omega
 have n_a : ¬ (a < 0 ∨ 7 < a) := by omega
 have n_s : ¬ (s < 0 ∨ 7 < s) := by omega
 simp only [foldR, stepR, fieldOff, In.get, In.put, UInt8.reduceToNat]
 simp [n_d, n_a, n_s, finR, In.zero]
 try omega

theorem rightF_21 (d s t u a k q places : Int) (hd : 0 ≤ d ∧ d ≤ 7) (hs : 0 ≤ s ∧ s ≤ 7) (ht : 0 ≤ t ∧ t ≤ 7) (hu : 0 ≤ u ∧ u ≤ 7) (ha : 0 ≤ a ∧ a ≤ 7) (hk : 0 ≤ k ∧ k ≤ 4294967295) :
  rightF ⟨21, d, s, t, u, a, k, q⟩ places = (!decide (1 < k) && !decide (q < -1) && decide ((⟨21, d, s, t, 0, a, k, q⟩ : In) = ⟨21, d, s, t, u, a, k, q⟩) && (decide (q = -1) || decide (q < places))) := by
 rw [Bool.eq_iff_iff, rightF_eq _ _ (by show opName 21 ≠ []; decide)]
 show finR (foldR places [68, 65, 83, 87] ⟨0, d, s, t, u, a, k, q⟩) = true ↔ _
 have n_d : ¬ (d < 0 ∨ 7 < d) := by omega
 have n_a : ¬ (a < 0 ∨ 7 < a) := by omega
 have n_s : ¬ (s < 0 ∨ 7 < s) := by omega
 simp only [foldR, stepR, fieldOff, In.get, In.put, UInt8.reduceToNat]
 by_cases hc : 1 < k
 ·simp [n_d, n_a, n_s, hc, finR, In.zero]
  try omega
 ·by_cases hd2 : t < 0 ∨ 7 < t ∨ q < -1 ∨ (¬q = -1 ∧ places ≤ q)
  ·simp [n_d, n_a, n_s, hc, hd2, finR, In.zero]
   try omega
  ·simp [n_d, n_a, n_s, hc, hd2, finR, In.zero]
   try omega

theorem rightF_22 (d s t u a k q places : Int) (hd : 0 ≤ d ∧ d ≤ 7) (hs : 0 ≤ s ∧ s ≤ 7) (ht : 0 ≤ t ∧ t ≤ 7) (hu : 0 ≤ u ∧ u ≤ 7) (ha : 0 ≤ a ∧ a ≤ 7) (hk : 0 ≤ k ∧ k ≤ 4294967295) :
  rightF ⟨22, d, s, t, u, a, k, q⟩ places = (decide ((⟨22, d, 0, 0, 0, 0, 0, 0⟩ : In) = ⟨22, d, s, t, u, a, k, q⟩)) := by
 rw [Bool.eq_iff_iff, rightF_eq _ _ (by show opName 22 ≠ []; decide)]
 show finR (foldR places [68] ⟨0, d, s, t, u, a, k, q⟩) = true ↔ _
 have n_d : ¬ (d < 0 ∨ 7 < d) := by omega
 simp only [foldR, stepR, fieldOff, In.get, In.put, UInt8.reduceToNat]
 simp [n_d, finR, In.zero]
 try omega

theorem rightF_23 (d s t u a k q places : Int) (hd : 0 ≤ d ∧ d ≤ 7) (hs : 0 ≤ s ∧ s ≤ 7) (ht : 0 ≤ t ∧ t ≤ 7) (hu : 0 ≤ u ∧ u ≤ 7) (ha : 0 ≤ a ∧ a ≤ 7) (hk : 0 ≤ k ∧ k ≤ 4294967295) :
  rightF ⟨23, d, s, t, u, a, k, q⟩ places = (decide ((⟨23, 0, s, 0, 0, 0, 0, 0⟩ : In) = ⟨23, d, s, t, u, a, k, q⟩)) := by
 rw [Bool.eq_iff_iff, rightF_eq _ _ (by show opName 23 ≠ []; decide)]
 show finR (foldR places [83] ⟨0, d, s, t, u, a, k, q⟩) = true ↔ _
 have n_s : ¬ (s < 0 ∨ 7 < s) := by omega
 simp only [foldR, stepR, fieldOff, In.get, In.put, UInt8.reduceToNat]
 simp [n_s, finR, In.zero]
 try omega

end Go.Proofs.YtbhpkeiofajbpaaGreatDoor

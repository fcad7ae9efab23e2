/- Parts: AsmWords, RefAsmPlain. -/
import Derived.Test.YtbhpkeiofajbpaaGreatDoorB08
import Derived.Test.YtbhpkeiofajbpaaGreatDoorB04
import Derived.Test.YtbhpkeiofajbpaaGreatDoorB10
import Derived.Test.YtbhpkeiofajbpaaGreatDoorB07
import Derived.Test.YtbhpkeiofajbpaaGreatDoorB05
/- strings.CutSuffix of one byte, strings.LastIndexByte of a blank, asm.goes: what they answer. -/
section
namespace Go.Proofs.YtbhpkeiofajbpaaGreatDoor
open Go.RowKit Go.Proofs.YtbhpkeiofajbpaaGreatDoorW.PrintWords
set_option linter.unusedVariables false

theorem btm (l : List UInt8) (k : Nat) : bt ⟨l.toArray⟩ (k : Int) = ((l.getD k 0).toNat : Int) := by
 unfold bt
 by_cases h : k < l.length
 ·rw [dif_pos (by simpa [ByteArray.size] using h)]
  simp [List.getD_eq_getElem?_getD, List.getElem?_eq_getElem h]
  rfl
 ·rw [dif_neg (by simpa [ByteArray.size] using h)]
  simp [List.getD_eq_getElem?_getD, List.getElem?_eq_none (Nat.le_of_not_lt h)]
theorem szm (l : List UInt8) : ((⟨l.toArray⟩ : ByteArray).size : Int) = l.length := by simp [ByteArray.size]
/-- Without a byte at the end. -/
def cutF (l : List UInt8) (c : UInt8) : List UInt8 × Bool := if l.getLast? = some c then (l.dropLast, true) else (l, false)
theorem wid {x : Int} (h0 : -9223372036854775808 ≤ x) (h1 : x < 9223372036854775808) : wrap64 x = x := by unfold wrap64; omega
theorem cut_f (l : List UInt8) (c : UInt8) (hl : l.length ≤ 1000000) : strings_CutSuffix.f ⟨l.toArray⟩ ⟨#[c]⟩ = some (⟨(cutF l c).1.toArray⟩, (cutF l c).2) := by
 have h1 : ((⟨#[c]⟩ : ByteArray).size : Int) = 1 := rfl
 unfold strings_CutSuffix.f stringslite_CutSuffix.f stringslite_HasSuffix.f cutF
 rw [szm, h1]
 by_cases hn : l = []
 ·subst hn
  rfl
 ·have hp : 0 < l.length := List.length_pos_iff.2 hn
  have e : wrap64 ((l.length : Int) - 1) = (l.length : Int) - 1 := wid (by omega) (by omega)
  have et : ((l.length : Int) - 1).toNat = l.length - 1 := by omega
  rw [e, if_pos (by omega), if_pos (by omega), if_pos (by omega), et]
  have hs : (⟨l.toArray⟩ : ByteArray).size = l.length := by simp [ByteArray.size]
  have hx : ((⟨l.toArray⟩ : ByteArray).extract (l.length - 1) (⟨l.toArray⟩ : ByteArray).size).toList = [l.getLast hn] := by
   rw [hs, ext_mk, toList_mk, List.drop_eq_getElem_cons (by omega), show l.length - 1 + 1 = l.length by omega, List.drop_length, List.getLast_eq_getElem]
   exact List.take_of_length_le (by simp; omega)
  have hy : (⟨#[c]⟩ : ByteArray).toList = [c] := toList_mk [c]
  rw [hx, hy, List.getLast?_eq_some_getLast hn]
  by_cases hc : l.getLast hn = c
  ·simp only [hc, Option.bind_some, beq_self_eq_true, if_true]
   rw [ext_mk, if_pos (show (0 : Int) ≤ (l.length : Int) - 1 by omega), if_pos (show (l.length : Int) - 1 ≤ (l.length : Int) by omega)]
   simp [List.dropLast_eq_take]
  ·have hc' : ¬ some (l.getLast hn) = some c := fun h => hc (Option.some.inj h)
   have : ([l.getLast hn] == [c]) = false := beq_eq_false_iff_ne.2 (fun h => hc (List.head_eq_of_cons_eq h))
   simp only [this, Option.bind_some, if_neg hc']
   rfl
theorem cut_calls (l : List UInt8) (c : UInt8) (hl : l.length ≤ 1000000) (w : World) : Calls Tryz.prog 82 #[.string ⟨l.toArray⟩, .string ⟨#[c]⟩] w fun e w' =>
  e = .returned (.tuple #[.string ⟨(cutF l c).1.toArray⟩, .bool (cutF l c).2]) ∧ Below w.heap.size w w' :=
 (strings_CutSuffix.calls _ _ _ _ w (cut_f l c hl)).mono fun e w' h => ⟨h.1, h.2.below⟩

theorem last_split : ∀ (l : List UInt8), (32 : UInt8) ∈ l → ∃ a b, l = a ++ 32 :: b ∧ (32 : UInt8) ∉ b
 | c :: l, h => by
  by_cases h2 : (32 : UInt8) ∈ l
  ·obtain ⟨a, b, e, hb⟩ := last_split l h2
   exact ⟨c :: a, b, by rw [e]; rfl, hb⟩
  ·cases h with
   | head => exact ⟨[], l, rfl, h2⟩
   | tail _ h => exact absurd h h2
theorem splitF_snoc : ∀ (a b : List UInt8), (32 : UInt8) ∉ b → splitF (a ++ 32 :: b) = splitF a ++ [b]
 | [], b, h => by rw [List.nil_append, show splitF (32 :: b) = [] :: splitF b by simp [splitF], splitF_word b h]; rfl
 | c :: a, b, h => by
  have ih := splitF_snoc a b h
  rw [List.cons_append, splitF, splitF]
  by_cases hc : c = 32
  ·rw [if_pos hc, if_pos hc, ih]; rfl
  ·rw [if_neg hc, if_neg hc, ih]
   cases hs : splitF a with
   | nil => exact absurd hs (splitF_ne a)
   | cons x xs => rfl
theorem tailSp_word {l : List UInt8} (h : (32 : UInt8) ∉ l) : tailSp l = l ∧ headSp l = [] := by
 have e : tailSp l = l := by unfold tailSp; rw [splitF_word l h]; rfl
 exact ⟨e, by unfold headSp; rw [e, Nat.sub_self]; rfl⟩
theorem tailSp_cut {a b : List UInt8} (h : (32 : UInt8) ∉ b) : tailSp (a ++ 32 :: b) = b ∧ headSp (a ++ 32 :: b) = a ++ [32] := by
 have e : tailSp (a ++ 32 :: b) = b := by unfold tailSp; rw [splitF_snoc a b h]; simp [List.getLastD_eq_getLast?]
 refine ⟨e, ?_⟩
 unfold headSp
 rw [e, show (a ++ 32 :: b).length - b.length = (a ++ [32]).length by simp; omega, show a ++ 32 :: b = (a ++ [32]) ++ b by simp, List.take_left]
theorem sp_append (l : List UInt8) : headSp l ++ tailSp l = l := by
 by_cases h : (32 : UInt8) ∈ l
 ·obtain ⟨a, b, rfl, hb⟩ := last_split l h
  rw [(tailSp_cut hb).1, (tailSp_cut hb).2]; simp
 ·rw [(tailSp_word h).1, (tailSp_word h).2]; rfl
theorem last_none (l : List UInt8) (h : (32 : UInt8) ∉ l) (hl : l.length ≤ 1000000) : ∀ (j : Nat), j ≤ l.length → bytealg_LastIndexByteString.l0 (j + 1) ⟨l.toArray⟩ 32 ((j : Int) - 1) = some (-1)
 | 0, _ => by rw [bytealg_LastIndexByteString.l0, if_neg (by omega)]
 | j + 1, hj => by
  have hne : ¬ ((l.getD j 0).toNat : Int) = 32 := fun e => h (by
   have : l.getD j 0 = 32 := UInt8.toNat_inj.1 (by show (l.getD j 0).toNat = 32; omega)
   rw [← this, List.getD_eq_getElem?_getD, List.getElem?_eq_getElem (by omega)]
   exact List.getElem_mem _)
  rw [bytealg_LastIndexByteString.l0, szm, show (((j + 1 : Nat) : Int) - 1) = (j : Int) by omega, btm, if_pos (by omega), if_pos (by omega), if_pos (by omega), if_neg hne, wid (by omega) (by omega)]
  exact last_none l h hl j (by omega)
theorem last_some (a b : List UInt8) (h : (32 : UInt8) ∉ b) (hl : (a ++ 32 :: b).length ≤ 1000000) : ∀ (j : Nat), j ≤ b.length → bytealg_LastIndexByteString.l0 (j + 1) ⟨(a ++ 32 :: b).toArray⟩ 32 ((a.length + j : Nat) : Int) = some (a.length : Int)
 | 0, _ => by
  have e : (a ++ 32 :: b).getD (a.length + 0) 0 = 32 := by simp [List.getD_eq_getElem?_getD]
  have hz : (a ++ 32 :: b).length = a.length + 1 + b.length := by simp; omega
  rw [bytealg_LastIndexByteString.l0, szm, btm, e, if_pos (by omega), if_pos (by omega), if_pos (by omega)]
  rfl
 | j + 1, hj => by
  have hz : (a ++ 32 :: b).length = a.length + 1 + b.length := by simp; omega
  have e : (a ++ 32 :: b).getD (a.length + (j + 1)) 0 = b.getD j 0 := by
   simp [List.getD_eq_getElem?_getD, List.getElem?_append_right (show a.length ≤ a.length + (j + 1) by omega)]
  have hne : ¬ ((b.getD j 0).toNat : Int) = 32 := fun e => h (by
   have : b.getD j 0 = 32 := UInt8.toNat_inj.1 (by show (b.getD j 0).toNat = 32; omega)
   rw [← this, List.getD_eq_getElem?_getD, List.getElem?_eq_getElem (by omega)]
   exact List.getElem_mem _)
  rw [bytealg_LastIndexByteString.l0, szm, btm, e, if_pos (by omega), if_pos (by omega), if_pos (by omega), if_neg hne, wid (by omega) (by omega), show (((a.length + (j + 1) : Nat) : Int) - 1) = ((a.length + j : Nat) : Int) by omega]
  exact last_some a b h hl j (by omega)
theorem last_f (l : List UInt8) (hl : l.length ≤ 1000000) : ∃ k, strings_LastIndexByte.f k ⟨l.toArray⟩ 32 = some (((headSp l).length : Int) - 1) := by
 have e : wrap64 ((l.length : Int) - 1) = (l.length : Int) - 1 := wid (by omega) (by omega)
 by_cases h : (32 : UInt8) ∈ l
 ·obtain ⟨a, b, rfl, hb⟩ := last_split l h
  refine ⟨b.length + 1, ?_⟩
  have hk := last_some a b hb hl b.length (Nat.le_refl _)
  have hz : ((a ++ 32 :: b).length : Int) - 1 = ((a.length + b.length : Nat) : Int) := by simp; omega
  unfold strings_LastIndexByte.f bytealg_LastIndexByteString.f
  rw [szm, e, hz, hk, (tailSp_cut hb).2]
  simp
 ·refine ⟨l.length + 1, ?_⟩
  have hk := last_none l h hl l.length (Nat.le_refl _)
  unfold strings_LastIndexByte.f bytealg_LastIndexByteString.f
  rw [szm, e, hk, (tailSp_word h).2]
  rfl
theorem last_calls (l : List UInt8) (hl : l.length ≤ 1000000) (w : World) : Calls Tryz.prog 67 #[.string ⟨l.toArray⟩, .int .u8 32] w fun e w' =>
  e = .returned (.int .i64 (((headSp l).length : Int) - 1)) ∧ Below w.heap.size w w' := by
 obtain ⟨k, hk⟩ := last_f l hl
 exact (strings_LastIndexByte.calls k _ _ _ w hk).mono fun e w' h => ⟨h.1, h.2.below⟩
theorem goes_calls (i : In) (w : World) : Calls Tryz.prog 63 #[i.v] w fun e w' => e = .returned (.bool (goesB i)) ∧ Below w.heap.size w w' := by
 obtain ⟨op, d, s, t, u, a, k, q⟩ := i
 refine asm_goes.calls op d s t u a k q _ w ?_
 unfold asm_goes.f goesB
 dsimp only
 by_cases h1 : 8 ≤ op
 ·rw [if_pos h1]
  by_cases h2 : op ≤ 10
  ·rw [if_pos h2, decide_eq_true (.inl ⟨h1, h2⟩)]
  ·rw [if_neg h2]
   by_cases h3 : op = 21
   ·rw [if_pos h3]
    congr 1
    rw [Bool.eq_iff_iff]; simp; omega
   ·rw [if_neg h3, decide_eq_false (by omega)]
 ·rw [if_neg h1]
  by_cases h3 : op = 21
  ·omega
  ·rw [if_neg h3, decide_eq_false (by omega)]
end Go.Proofs.YtbhpkeiofajbpaaGreatDoor
end
/- The plain side of ref07: its line, its program of lines; both answer alike. -/
section
namespace Go.Proofs.YtbhpkeiofajbpaaGreatDoor
open Go Go.Lib
set_option linter.unusedVariables false
set_option linter.unusedSimpArgs false

/-- ref07's Line: an instruction without its place, the name of that; false: none. -/
def rlineF (s : List UInt8) : In × List UInt8 × Bool :=
 let r := refP (headSp s ++ [48])
 if r.2 = true ∧ goesB r.1 = true ∧ nameB (tailSp s) = true then (r.1, tailSp s, true) else
 let r := refP s
 if r.2 = false ∨ goesB r.1 = true then (In.zero, [], false) else (r.1, [], true)

theorem opName_same {a b : Int} (h : opName a = opName b) (hn : opName a ≠ []) : a = b := by
 rw [← named_back hn, h, named_back (h ▸ hn)]
theorem await_words (i : In) (h : i.op = 21) : (allWords i).length = if i.q = -1 then 6 else 8 := by
 have e : opHas 21 = [68, 65, 83, 87] := by decide
 unfold allWords
 rw [h, e]
 by_cases hq : i.q = -1
 ·simp [wordsF, fieldOff, hq]
 ·simp [wordsF, fieldOff, hq]
/-- What goes to a place with 0 in the last word goes to one with whatever is right there. -/
theorem goes_last {s : List UInt8} {i j : In} (hi : rightF i 1073741824 = true) (hik : i.wk) (hit : textF i = headSp s ++ [48]) (hj : rightF j 1073741824 = true) (hjk : j.wk) (hjt : textF j = s) (hg : goesB i = true) : goesB j = true := by
 have hni := rightF_name hi
 by_cases h32 : (32 : UInt8) ∈ s
 ·obtain ⟨a, b, hs, hb⟩ := last_split s h32
  have hh : headSp s = a ++ [32] := by rw [hs]; exact (tailSp_cut hb).2
  have wi : allWords i = splitF a ++ [[48]] := by
   rw [← split_text, hit, hh, List.append_assoc, show [(32 : UInt8)] ++ [48] = 32 :: [48] from rfl, splitF_snoc a [48] (by decide)]
  have wj : allWords j = splitF a ++ [b] := by rw [← split_text, hjt, hs, splitF_snoc a b hb]
  have hop : i.op = j.op := by
   cases hsa : splitF a with
   | nil => exact absurd hsa (splitF_ne a)
   | cons x l =>
    rw [hsa] at wi wj
    have h1 : opName i.op = x := by unfold allWords at wi; exact (List.cons.inj wi).1
    have h2 : opName j.op = x := by unfold allWords at wj; exact (List.cons.inj wj).1
    exact opName_same (h1.trans h2.symm) hni
  have hlen : (allWords i).length = (allWords j).length := by rw [wi, wj]; simp
  unfold goesB at hg ⊢
  rw [decide_eq_true_eq] at hg ⊢
  rcases hg with h8 | ⟨h21, hq⟩
  ·exact .inl (hop ▸ h8)
  ·have h21j : j.op = 21 := hop ▸ h21
   refine .inr ⟨h21j, ?_⟩
   rw [await_words i h21, await_words j h21j, if_neg (by omega)] at hlen
   have hf := (rightF_fits hj hjk).q
   by_cases hq1 : j.q = -1
   ·rw [if_pos hq1] at hlen; cases hlen
   ·omega
 ·exfalso
  have hh : headSp s = [] := (tailSp_word h32).2
  have wi : allWords i = [[48]] := by rw [← split_text, hit, hh]; rfl
  have h1 : opName i.op = [48] := by unfold allWords at wi; exact (List.cons.inj wi).1
  have hb := named_back hni
  rw [h1] at hb
  have : namedF [48] = 24 ∨ opName (namedF [48]) ≠ [48] := by decide +kernel
  rw [hb, h1] at this
  rcases this with h | h
  ·rw [h] at h1; revert h1; decide
  ·exact h rfl

theorem oneF_eq' (s : List UInt8) : oneF s = if (parseF (headSp s ++ [48])).2 = 0 ∧ goesB (parseF (headSp s ++ [48])).1 = true then ((parseF (headSp s ++ [48])).1, tailSp s, nameB (tailSp s)) else ((parseF s).1, [], decide ((parseF s).2 = 0) && !goesB (parseF s).1) := rfl
theorem line_both (s : List UInt8) : (oneF s).2.2 = (rlineF s).2.2 ∧ ((oneF s).2.2 = true → oneF s = rlineF s) := by
 rw [oneF_eq']
 unfold rlineF
 dsimp only
 rcases parse_both (headSp s ++ [48]) with ⟨i, hik, hir, hit, hip, hiq⟩ | ⟨hip, hiq⟩
 ·rw [hip, hiq]
  dsimp only
  by_cases hg : goesB i = true
  ·rw [if_pos ⟨rfl, hg⟩]
   by_cases hn : nameB (tailSp s) = true
   ·rw [if_pos ⟨rfl, hg, hn⟩, hn]; exact ⟨rfl, fun _ => rfl⟩
   ·rw [if_neg (fun h => hn h.2.2)]
    have hnf : nameB (tailSp s) = false := by simpa using hn
    rcases parse_both s with ⟨j, hjk, hjr, hjt, hjp, hjq⟩ | ⟨hjp, hjq⟩
    ·rw [hjq, if_pos (.inr (goes_last hir hik hit hjr hjk hjt hg)), hnf]
     exact ⟨rfl, fun h => by cases h⟩
    ·rw [hjq, if_pos (.inl rfl), hnf]
     exact ⟨rfl, fun h => by cases h⟩
  ·rw [if_neg (fun h => hg h.2), if_neg (fun h => hg h.2.1)]
   rcases parse_both s with ⟨j, hjk, hjr, hjt, hjp, hjq⟩ | ⟨hjp, hjq⟩
   ·rw [hjp, hjq]
    by_cases hj : goesB j = true
    ·rw [if_pos (.inr hj)]; simp [hj]
    ·rw [if_neg (fun h => h.elim (fun e => by cases e) hj)]; simp [hj]
   ·rw [hjp, hjq, if_pos (.inl rfl)]; simp
 ·rw [hip, hiq]
  rw [if_neg (fun h => by cases h.1), if_neg (fun h => by cases h.1)]
  rcases parse_both s with ⟨j, hjk, hjr, hjt, hjp, hjq⟩ | ⟨hjp, hjq⟩
  ·rw [hjp, hjq]
   by_cases hj : goesB j = true
   ·rw [if_pos (.inr hj)]; simp [hj]
   ·rw [if_neg (fun h => h.elim (fun e => by cases e) hj)]; simp [hj]
  ·rw [hjp, hjq, if_pos (.inl rfl)]; simp

/-- ref07's Assemble, a line (without its end): labels stand in the order in which they came. -/
def rhasF (L : List (List UInt8 × Nat)) (s : List UInt8) : Bool := L.any (fun p => p.1 == s)
def rstepF (x : Src) (s : List UInt8) (n : Int) : Src × Int :=
 if s.getLast? = some 58 ∧ nameB s.dropLast = true then
  (if rhasF x.labels s.dropLast = true then (x, 2) else ({ x with labels := x.labels ++ [(s.dropLast, x.l.length)] }, 0))
 else if (rlineF s).2.2 = false then (x, 8)
 else if 64 ≤ x.l.length then (x, 9)
 else ({ x with l := x.l ++ [(rlineF s).1], names := x.names ++ [(rlineF s).2.1], rows := x.rows ++ [n] }, 0)
def rallF : List (List UInt8) → Int → Src → Src × Int × Int
 | [], n, x => (x, n, 0)
 | s :: ls, n, x => if s.getLast? ≠ some 10 then (x, n + 1, 8) else
  if (rstepF x s.dropLast (n + 1)).2 = 0 then rallF ls (n + 1) (rstepF x s.dropLast (n + 1)).1 else (x, n + 1, (rstepF x s.dropLast (n + 1)).2)
/-- ref07's find: a label's place, less than n; -1: there is none. -/
def rfindF (L : List (List UInt8 × Nat)) (s : List UInt8) (n : Nat) : Int :=
 match L.find? (fun p => p.1 == s && decide (p.2 < n)) with
 | some p => (p.2 : Int)
 | none => -1
def rfixF (L : List (List UInt8 × Nat)) (n : Nat) : List In → List (List UInt8) → List Int → List In ⊕ Int
 | i :: l, s :: names, r :: rows =>
  if s = [] then (match rfixF L n l names rows with | .inl k => .inl (i :: k) | .inr e => .inr e)
  else if rfindF L s n < 0 then .inr r
  else match rfixF L n l names rows with | .inl k => .inl ({ i with q := rfindF L s n } :: k) | .inr e => .inr e
 | _, _, _ => .inl []
def rasmF (t : List UInt8) : Pg × Int × Int :=
 let r := rallF (linesF t) 0 Src.zero
 if r.2.2 ≠ 0 then (Pg.zero, r.2.1, r.2.2) else
 match rfixF r.1.labels r.1.l.length r.1.l r.1.names r.1.rows with
 | .inr e => (Pg.zero, e, 10)
 | .inl k =>
  if rfindF r.1.labels [108, 111, 99, 107] r.1.l.length < 0 ∨ rfindF r.1.labels [117, 110, 108, 111, 99, 107] r.1.l.length < 0 then (Pg.zero, 0, 10)
  else (⟨k, rfindF r.1.labels [108, 111, 99, 107] r.1.l.length, rfindF r.1.labels [117, 110, 108, 111, 99, 107] r.1.l.length⟩, 0, 0)

/-- The two sources on their way: the labels the other way round, no name twice. -/
structure RL (x y : Src) : Prop where
 l : y.l = x.l
 n : y.names = x.names
 r : y.rows = x.rows
 b : y.labels = x.labels.reverse
 u : (x.labels.map (·.1)).Nodup
theorem at_mem {L : List (List UInt8 × Nat)} {s : List UInt8} {p : Nat} (h : (L.find? (fun q => q.1 == s)).map (·.2) = some p) : (s, p) ∈ L := by
 cases hf : L.find? (fun q => q.1 == s) with
 | none => rw [hf] at h; cases h
 | some q =>
  rw [hf] at h
  have h1 := List.mem_of_find?_eq_some hf
  have h2 := List.find?_some hf
  simp at h h2
  obtain ⟨a, b⟩ := q
  simp at h h2
  subst h h2
  exact h1
theorem mem_at : ∀ {L : List (List UInt8 × Nat)} {s : List UInt8} {p : Nat}, (L.map (·.1)).Nodup → (s, p) ∈ L → (L.find? (fun q => q.1 == s)).map (·.2) = some p
 | (a, b) :: L, s, p, hu, hm => by
  rw [List.map_cons, List.nodup_cons] at hu
  rcases List.mem_cons.1 hm with h | h
  ·cases h
   rw [List.find?_cons_of_pos (by simp)]; rfl
  ·have hne : a ≠ s := fun e => hu.1 (by subst e; exact List.mem_map.2 ⟨_, h, rfl⟩)
   rw [List.find?_cons_of_neg (by simpa using hne)]
   exact mem_at hu.2 h
theorem find_both {x y : Src} (h : RL x y) (s : List UInt8) : rfindF y.labels s y.l.length = match x.place s with | some p => (p : Int) | none => -1 := by
 unfold rfindF Src.place Src.at
 rw [h.l, h.b]
 cases hf : x.labels.reverse.find? (fun p => p.1 == s && decide (p.2 < x.l.length)) with
 | some q =>
  have h1 := List.mem_reverse.1 (List.mem_of_find?_eq_some hf)
  have h2 := List.find?_some hf
  obtain ⟨a, b⟩ := q
  simp at h2
  obtain ⟨rfl, h3⟩ := h2
  rw [mem_at h.u h1, show Option.filter (fun k => decide (k < x.l.length)) (some b) = some b by simp [Option.filter, h3]]
 | none =>
  cases ha : (x.labels.find? (fun p => p.1 == s)).map (·.2) with
  | none => rfl
  | some p =>
   have hm := at_mem ha
   have := List.find?_eq_none.1 hf (s, p) (List.mem_reverse.2 hm)
   simp at this
   have h3 : ¬ p < x.l.length := by omega
   rw [show Option.filter (fun k => decide (k < x.l.length)) (some p) = none by simp [Option.filter, h3]]
theorem has_both {x y : Src} (h : RL x y) (s : List UInt8) : rhasF y.labels s = (x.at s).isSome := by
 unfold rhasF Src.at
 rw [h.b, List.any_reverse, Option.isSome_map]
 induction x.labels with
 | nil => rfl
 | cons p L ih =>
  simp only [List.any_cons, List.find?_cons]
  cases hp : p.1 == s with
  | true => simp
  | false => simpa using ih
theorem step_both {x y : Src} (h : RL x y) (s : List UInt8) (n : Int) (hs : s.getLast? = some 10) : (lineF x s n).2 = (rstepF y s.dropLast n).2 ∧ RL (lineF x s n).1 (rstepF y s.dropLast n).1 := by
 unfold lineF rstepF
 rw [if_neg (by rw [hs]; simp)]
 dsimp only
 generalize s.dropLast = s1
 by_cases hc : s1.getLast? = some 58 ∧ nameB s1.dropLast = true
 ·rw [if_pos hc, if_pos hc]
  by_cases ha : (x.at s1.dropLast).isSome = true
  ·rw [if_pos ha, if_pos (by rw [has_both h]; exact ha)]
   exact ⟨rfl, h⟩
  ·rw [if_neg ha, if_neg (by rw [has_both h]; exact ha)]
   refine ⟨rfl, h.l, h.n, h.r, ?_, ?_⟩
   ·show y.labels ++ [(s1.dropLast, y.l.length)] = ((s1.dropLast, x.l.length) :: x.labels).reverse
    rw [h.b, h.l]; simp
   ·show (((s1.dropLast, x.l.length) :: x.labels).map (·.1)).Nodup
    rw [List.map_cons, List.nodup_cons]
    refine ⟨fun hm => ha ?_, h.u⟩
    obtain ⟨⟨a, b⟩, hm, he⟩ := List.mem_map.1 hm
    simp at he
    subst he
    have := mem_at h.u hm
    unfold Src.at
    rw [this]; rfl
 ·rw [if_neg hc, if_neg hc]
  obtain ⟨h1, h2⟩ := line_both s1
  by_cases hb : (oneF s1).2.2 = false
  ·have hb' : (rlineF s1).2.2 = false := by rw [← h1]; exact hb
   rw [if_pos hb, if_pos hb']
   exact ⟨rfl, h⟩
  ·have ht : (oneF s1).2.2 = true := by simpa using hb
   have hb' : ¬ (rlineF s1).2.2 = false := by rw [← h1]; exact hb
   rw [if_neg hb, if_neg hb']
   by_cases h64 : 64 ≤ x.l.length
   ·rw [if_pos h64, if_pos (by rw [h.l]; exact h64)]
    exact ⟨rfl, h⟩
   ·rw [if_neg h64, if_neg (by rw [h.l]; exact h64), h2 ht]
    exact ⟨rfl, by simp [h.l], by simp [h.n], by simp [h.r], h.b, h.u⟩
theorem all_both : ∀ (ls : List (List UInt8)) (n : Int) (x y : Src), RL x y → (allF ls n x).2 = (rallF ls n y).2 ∧ RL (allF ls n x).1 (rallF ls n y).1
 | [], n, x, y, h => ⟨rfl, h⟩
 | s :: ls, n, x, y, h => by
  unfold allF rallF
  by_cases hs : s.getLast? = some 10
  ·obtain ⟨h1, h2⟩ := step_both h s (n + 1) hs
   rw [if_neg (show ¬ s.getLast? ≠ some 10 by rw [hs]; simp)]
   by_cases h0 : (lineF x s (n + 1)).2 = 0
   ·rw [if_pos h0, if_pos (show (rstepF y s.dropLast (n + 1)).2 = 0 by rw [← h1]; exact h0)]
    exact all_both ls (n + 1) _ _ h2
   ·rw [if_neg h0, if_neg (show ¬ (rstepF y s.dropLast (n + 1)).2 = 0 by rw [← h1]; exact h0), h1]
    exact ⟨rfl, h⟩
  ·have e : lineF x s (n + 1) = (x, 8) := by unfold lineF; rw [if_pos hs]
   rw [if_pos hs, e]
   exact ⟨rfl, h⟩
theorem fix_both {x y : Src} (h : RL x y) : ∀ (l : List In) (names : List (List UInt8)) (rows : List Int), fixF x l names rows = rfixF y.labels y.l.length l names rows
 | i :: l, s :: names, r :: rows => by
  unfold fixF rfixF
  rw [fix_both h l names rows]
  by_cases hs : s = []
  ·rw [if_pos hs, if_pos hs]
   cases rfixF y.labels y.l.length l names rows <;> rfl
  ·rw [if_neg hs, if_neg hs, find_both h s]
   cases hp : x.place s with
   | none => simp
   | some p =>
    simp only []
    rw [if_neg (by omega)]
    cases rfixF y.labels y.l.length l names rows <;> rfl
 | [], _, _ => by unfold fixF rfixF; rfl
 | _ :: _, [], _ => by unfold fixF rfixF; rfl
 | _ :: _, _ :: _, [] => by unfold fixF rfixF; rfl
/-- The program's Assemble and the document's answer alike. -/
theorem asm_both (t : List UInt8) : asmF t = rasmF t := by
 obtain ⟨h1, h2⟩ := all_both (linesF t) 0 Src.zero Src.zero ⟨rfl, rfl, rfl, rfl, by simp [Src.zero]⟩
 unfold asmF rasmF
 dsimp only
 rw [← h1]
 generalize allF (linesF t) 0 Src.zero = X at *
 generalize rallF (linesF t) 0 Src.zero = Y at *
 by_cases h0 : X.2.2 = 0
 ·rw [if_neg (by rw [h0]; simp), if_neg (by rw [h0]; simp), fix_both h2 X.1.l X.1.names X.1.rows, find_both h2 [108, 111, 99, 107], find_both h2 [117, 110, 108, 111, 99, 107], h2.l, h2.n, h2.r]
  cases rfixF Y.1.labels X.1.l.length X.1.l X.1.names X.1.rows with
  | inr e => rfl
  | inl k =>
   cases X.1.place [108, 111, 99, 107] with
   | none => simp
   | some a =>
    cases X.1.place [117, 110, 108, 111, 99, 107] with
    | none => simp
    | some b =>
     simp only []
     rw [if_neg (by omega)]
 ·rw [if_pos h0, if_pos h0]
end Go.Proofs.YtbhpkeiofajbpaaGreatDoor
end

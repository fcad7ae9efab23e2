/- Parts: RefAsmPlain, RefFind. -/
import Derived.Test.YtbodainpdjmjdaaGreatDoorB11
import Derived.Test.YtbodainpdjmjdaaGreatDoorB05
import Derived.Test.YtbodainpdjmjdaaGreatDoorB20
/- The plain side of ref07: its line, its program of lines; both answer alike. -/
section
namespace Go.Proofs.YtbodainpdjmjdaaGreatDoor
open Go Go.Lib
set_option linter.unusedVariables false
set_option linter.unusedSimpArgs false

/-- ref07's Line: an instruction without its place, the name of that; false: none. -/
def rlineF (s : List UInt8) : In × List UInt8 × Bool :=
 let r := refP (headSp s ++ [48])
 if r.2 = true ∧ goesB r.1 = true ∧ nameB (tailSp s) = true then (r.1, tailSp s, true) else
 let r := refP s
 if r.2 = false ∨ goesB r.1 = true then (In.zero, [], false) else (r.1, [], true)

theorem opName_same {a b : Int} (h : opName a = opName b) (hn : opName a ≠ []) : a = b := by
 rw [← named_back hn, h, named_back (h ▸ hn)]
theorem await_words (i : In) (h : i.op = 21) : (allWords i).length = if i.q = -1 then 6 else 8 := by
 have e : opHas 21 = [68, 65, 83, 87] := by decide
 unfold allWords
 rw [h, e]
 by_cases hq : i.q = -1
 ·simp [wordsF, fieldOff, hq]
 ·simp [wordsF, fieldOff, hq]
/-- What goes to a place with 0 in the last word goes to one with whatever is right there. -/
theorem goes_last {s : List UInt8} {i j : In} (hi : rightF i 1073741824 = true) (hik : i.wk) (hit : textF i = headSp s ++ [48]) (hj : rightF j 1073741824 = true) (hjk : j.wk) (hjt : textF j = s) (hg : goesB i = true) : goesB j = true := by
 have hni := rightF_name hi
 by_cases h32 : (32 : UInt8) ∈ s
 ·obtain ⟨a, b, hs, hb⟩ := last_split s h32
  have hh : headSp s = a ++ [32] := by rw [hs]; exact (tailSp_cut hb).2
  have wi : allWords i = splitF a ++ [[48]] := by
   rw [← split_text, hit, hh, List.append_assoc, show [(32 : UInt8)] ++ [48] = 32 :: [48] from rfl, splitF_snoc a [48] (by decide)]
  have wj : allWords j = splitF a ++ [b] := by rw [← split_text, hjt, hs, splitF_snoc a b hb]
  have hop : i.op = j.op := by
   cases hsa : splitF a with
   | nil => exact absurd hsa (splitF_ne a)
   | cons x l =>
    rw [hsa] at wi wj
    have h1 : opName i.op = x := by unfold allWords at wi; exact (List.cons.inj wi).1
    have h2 : opName j.op = x := by unfold allWords at wj; exact (List.cons.inj wj).1
    exact opName_same (h1.trans h2.symm) hni
  have hlen : (allWords i).length = (allWords j).length := by rw [wi, wj]; simp
  unfold goesB at hg ⊢
  rw [decide_eq_true_eq] at hg ⊢
  rcases hg with h8 | ⟨h21, hq⟩
  ·exact .inl (hop ▸ h8)
  ·have h21j : j.op = 21 := hop ▸ h21
   refine .inr ⟨h21j, ?_⟩
   rw [await_words i h21, await_words j h21j, if_neg (by omega)] at hlen
   have hf := (rightF_fits hj hjk).q
   by_cases hq1 : j.q = -1
   ·rw [if_pos hq1] at hlen; cases hlen
   ·omega
 ·exfalso
  have hh : headSp s = [] := (tailSp_word h32).2
  have wi : allWords i = [[48]] := by rw [← split_text, hit, hh]; rfl
  have h1 : opName i.op = [48] := by unfold allWords at wi; exact (List.cons.inj wi).1
  have hb := named_back hni
  rw [h1] at hb
  have : namedF [48] = 24 ∨ opName (namedF [48]) ≠ [48] := by decide +kernel
  rw [hb, h1] at this
  rcases this with h | h
  ·rw [h] at h1; revert h1; decide
  ·exact h rfl

theorem oneF_eq' (s : List UInt8) : oneF s = if (parseF (headSp s ++ [48])).2 = 0 ∧ goesB (parseF (headSp s ++ [48])).1 = true then ((parseF (headSp s ++ [48])).1, tailSp s, nameB (tailSp s)) else ((parseF s).1, [], decide ((parseF s).2 = 0) && !goesB (parseF s).1) := rfl
theorem line_both (s : List UInt8) : (oneF s).2.2 = (rlineF s).2.2 ∧ ((oneF s).2.2 = true → oneF s = rlineF s) := by
 rw [oneF_eq']
 unfold rlineF
 dsimp only
 rcases parse_both (headSp s ++ [48]) with ⟨i, hik, hir, hit, hip, hiq⟩ | ⟨hip, hiq⟩
 ·rw [hip, hiq]
  dsimp only
  by_cases hg : goesB i = true
  ·rw [if_pos ⟨rfl, hg⟩]
   by_cases hn : nameB (tailSp s) = true
   ·rw [if_pos ⟨rfl, hg, hn⟩, hn]; exact ⟨rfl, fun _ => rfl⟩
   ·rw [if_neg (fun h => hn h.2.2)]
    have hnf : nameB (tailSp s) = false := by simpa using hn
    rcases parse_both s with ⟨j, hjk, hjr, hjt, hjp, hjq⟩ | ⟨hjp, hjq⟩
    ·rw [hjq, if_pos (.inr (goes_last hir hik hit hjr hjk hjt hg)), hnf]
     exact ⟨rfl, fun h => by cases h⟩
    ·rw [hjq, if_pos (.inl rfl), hnf]
     exact ⟨rfl, fun h => by cases h⟩
  ·rw [if_neg (fun h => hg h.2), if_neg (fun h => hg h.2.1)]
   rcases parse_both s with ⟨j, hjk, hjr, hjt, hjp, hjq⟩ | ⟨hjp, hjq⟩
   ·rw [hjp, hjq]
    by_cases hj : goesB j = true
    ·rw [if_pos (.inr hj)]; simp [hj]
    ·rw [if_neg (fun h => h.elim (fun e => by cases e) hj)]; simp [hj]
   ·rw [hjp, hjq, if_pos (.inl rfl)]; simp
 ·rw [hip, hiq]
  rw [if_neg (fun h => by cases h.1), if_neg (fun h => by cases h.1)]
  rcases parse_both s with ⟨j, hjk, hjr, hjt, hjp, hjq⟩ | ⟨hjp, hjq⟩
  ·rw [hjp, hjq]
   by_cases hj : goesB j = true
   ·rw [if_pos (.inr hj)]; simp [hj]
   ·rw [if_neg (fun h => h.elim (fun e => by cases e) hj)]; simp [hj]
  ·rw [hjp, hjq, if_pos (.inl rfl)]; simp

/-- ref07's Assemble, a line (without its end): labels stand in the order in which they came. -/
def rhasF (L : List (List UInt8 × Nat)) (s : List UInt8) : Bool := L.any (fun p => p.1 == s)
def rstepF (x : Src) (s : List UInt8) (n : Int) : Src × Int :=
 if s.getLast? = some 58 ∧ nameB s.dropLast = true then
  (if rhasF x.labels s.dropLast = true then (x, 2) else ({ x with labels := x.labels ++ [(s.dropLast, x.l.length)] }, 0))
 else if (rlineF s).2.2 = false then (x, 8)
 else if 64 ≤ x.l.length then (x, 9)
 else ({ x with l := x.l ++ [(rlineF s).1], names := x.names ++ [(rlineF s).2.1], rows := x.rows ++ [n] }, 0)
def rallF : List (List UInt8) → Int → Src → Src × Int × Int
 | [], n, x => (x, n, 0)
 | s :: ls, n, x => if s.getLast? ≠ some 10 then (x, n + 1, 8) else
  if (rstepF x s.dropLast (n + 1)).2 = 0 then rallF ls (n + 1) (rstepF x s.dropLast (n + 1)).1 else (x, n + 1, (rstepF x s.dropLast (n + 1)).2)
/-- ref07's find: a label's place, less than n; -1: there is none. -/
def rfindF (L : List (List UInt8 × Nat)) (s : List UInt8) (n : Nat) : Int :=
 match L.find? (fun p => p.1 == s && decide (p.2 < n)) with
 | some p => (p.2 : Int)
 | none => -1
def rfixF (L : List (List UInt8 × Nat)) (n : Nat) : List In → List (List UInt8) → List Int → List In ⊕ Int
 | i :: l, s :: names, r :: rows =>
  if s = [] then (match rfixF L n l names rows with | .inl k => .inl (i :: k) | .inr e => .inr e)
  else if rfindF L s n < 0 then .inr r
  else match rfixF L n l names rows with | .inl k => .inl ({ i with q := rfindF L s n } :: k) | .inr e => .inr e
 | _, _, _ => .inl []
def rasmF (t : List UInt8) : Pg × Int × Int :=
 let r := rallF (linesF t) 0 Src.zero
 if r.2.2 ≠ 0 then (Pg.zero, r.2.1, r.2.2) else
 match rfixF r.1.labels r.1.l.length r.1.l r.1.names r.1.rows with
 | .inr e => (Pg.zero, e, 10)
 | .inl k =>
  if rfindF r.1.labels [108, 111, 99, 107] r.1.l.length < 0 ∨ rfindF r.1.labels [117, 110, 108, 111, 99, 107] r.1.l.length < 0 then (Pg.zero, 0, 10)
  else (⟨k, rfindF r.1.labels [108, 111, 99, 107] r.1.l.length, rfindF r.1.labels [117, 110, 108, 111, 99, 107] r.1.l.length⟩, 0, 0)

/-- The two sources on their way: the labels the other way round, no name twice. -/
structure RL (x y : Src) : Prop where
 l : y.l = x.l
 n : y.names = x.names
 r : y.rows = x.rows
 b : y.labels = x.labels.reverse
 u : (x.labels.map (·.1)).Nodup
theorem at_mem {L : List (List UInt8 × Nat)} {s : List UInt8} {p : Nat} (h : (L.find? (fun q => q.1 == s)).map (·.2) = some p) : (s, p) ∈ L := by
 cases hf : L.find? (fun q => q.1 == s) with
 | none => rw [hf] at h; cases h
 | some q =>
  rw [hf] at h
  have h1 := List.mem_of_find?_eq_some hf
  have h2 := List.find?_some hf
  simp at h h2
  obtain ⟨a, b⟩ := q
  simp at h h2
  subst h h2
  exact h1
theorem mem_at : ∀ {L : List (List UInt8 × Nat)} {s : List UInt8} {p : Nat}, (L.map (·.1)).Nodup → (s, p) ∈ L → (L.find? (fun q => q.1 == s)).map (·.2) = some p
 | (a, b) :: L, s, p, hu, hm => by
  rw [List.map_cons, List.nodup_cons] at hu
  rcases List.mem_cons.1 hm with h | h
  ·cases h
   rw [List.find?_cons_of_pos (by simp)]; rfl
  ·have hne : a ≠ s := fun e => hu.1 (by subst e; exact List.mem_map.2 ⟨_, h, rfl⟩)
   rw [List.find?_cons_of_neg (by simpa using hne)]
   exact mem_at hu.2 h
theorem find_both {x y : Src} (h : RL x y) (s : List UInt8) : rfindF y.labels s y.l.length = match x.place s with | some p => (p : Int) | none => -1 := by
 unfold rfindF Src.place Src.at
 rw [h.l, h.b]
 cases hf : x.labels.reverse.find? (fun p => p.1 == s && decide (p.2 < x.l.length)) with
 | some q =>
  have h1 := List.mem_reverse.1 (List.mem_of_find?_eq_some hf)
  have h2 := List.find?_some hf
  obtain ⟨a, b⟩ := q
  simp at h2
  obtain ⟨rfl, h3⟩ := h2
  rw [mem_at h.u h1, show Option.filter (fun k => decide (k < x.l.length)) (some b) = some b by simp [Option.filter, h3]]
 | none =>
  cases ha : (x.labels.find? (fun p => p.1 == s)).map (·.2) with
  | none => rfl
  | some p =>
   have hm := at_mem ha
   have := List.find?_eq_none.1 hf (s, p) (List.mem_reverse.2 hm)
   simp at this
   have h3 : ¬ p < x.l.length := by omega
   rw [show Option.filter (fun k => decide (k < x.l.length)) (some p) = none by simp [Option.filter, h3]]
theorem has_both {x y : Src} (h : RL x y) (s : List UInt8) : rhasF y.labels s = (x.at s).isSome := by
 unfold rhasF Src.at
 rw [h.b, List.any_reverse, Option.isSome_map]
 induction x.labels with
 | nil => rfl
 | cons p L ih =>
  simp only [List.any_cons, List.find?_cons]
  cases hp : p.1 == s with
  | true => simp
  | false => simpa using ih
theorem step_both {x y : Src} (h : RL x y) (s : List UInt8) (n : Int) (hs : s.getLast? = some 10) : (lineF x s n).2 = (rstepF y s.dropLast n).2 ∧ RL (lineF x s n).1 (rstepF y s.dropLast n).1 := by
 unfold lineF rstepF
 rw [if_neg (by rw [hs]; simp)]
 dsimp only
 generalize s.dropLast = s1
 by_cases hc : s1.getLast? = some 58 ∧ nameB s1.dropLast = true
 ·rw [if_pos hc, if_pos hc]
  by_cases ha : (x.at s1.dropLast).isSome = true
  ·rw [if_pos ha, if_pos (by rw [has_both h]; exact ha)]
   exact ⟨rfl, h⟩
  ·rw [if_neg ha, if_neg (by rw [has_both h]; exact ha)]
   refine ⟨rfl, h.l, h.n, h.r, ?_, ?_⟩
   ·show y.labels ++ [(s1.dropLast, y.l.length)] = ((s1.dropLast, x.l.length) :: x.labels).reverse
    rw [h.b, h.l]; simp
   ·show (((s1.dropLast, x.l.length) :: x.labels).map (·.1)).Nodup
    rw [List.map_cons, List.nodup_cons]
    refine ⟨fun hm => ha ?_, h.u⟩
    obtain ⟨⟨a, b⟩, hm, he⟩ := List.mem_map.1 hm
    simp at he
    subst he
    have := mem_at h.u hm
    unfold Src.at
    rw [this]; rfl
 ·rw [if_neg hc, if_neg hc]
  obtain ⟨h1, h2⟩ := line_both s1
  by_cases hb : (oneF s1).2.2 = false
  ·have hb' : (rlineF s1).2.2 = false := by rw [← h1]; exact hb
   rw [if_pos hb, if_pos hb']
   exact ⟨rfl, h⟩
  ·have ht : (oneF s1).2.2 = true := by simpa using hb
   have hb' : ¬ (rlineF s1).2.2 = false := by rw [← h1]; exact hb
   rw [if_neg hb, if_neg hb']
   by_cases h64 : 64 ≤ x.l.length
   ·rw [if_pos h64, if_pos (by rw [h.l]; exact h64)]
    exact ⟨rfl, h⟩
   ·rw [if_neg h64, if_neg (by rw [h.l]; exact h64), h2 ht]
    exact ⟨rfl, by simp [h.l], by simp [h.n], by simp [h.r], h.b, h.u⟩
theorem all_both : ∀ (ls : List (List UInt8)) (n : Int) (x y : Src), RL x y → (allF ls n x).2 = (rallF ls n y).2 ∧ RL (allF ls n x).1 (rallF ls n y).1
 | [], n, x, y, h => ⟨rfl, h⟩
 | s :: ls, n, x, y, h => by
  unfold allF rallF
  by_cases hs : s.getLast? = some 10
  ·obtain ⟨h1, h2⟩ := step_both h s (n + 1) hs
   rw [if_neg (show ¬ s.getLast? ≠ some 10 by rw [hs]; simp)]
   by_cases h0 : (lineF x s (n + 1)).2 = 0
   ·rw [if_pos h0, if_pos (show (rstepF y s.dropLast (n + 1)).2 = 0 by rw [← h1]; exact h0)]
    exact all_both ls (n + 1) _ _ h2
   ·rw [if_neg h0, if_neg (show ¬ (rstepF y s.dropLast (n + 1)).2 = 0 by rw [← h1]; exact h0), h1]
    exact ⟨rfl, h⟩
  ·have e : lineF x s (n + 1) = (x, 8) := by unfold lineF; rw [if_pos hs]
   rw [if_pos hs, e]
   exact ⟨rfl, h⟩
theorem fix_both {x y : Src} (h : RL x y) : ∀ (l : List In) (names : List (List UInt8)) (rows : List Int), fixF x l names rows = rfixF y.labels y.l.length l names rows
 | i :: l, s :: names, r :: rows => by
  unfold fixF rfixF
  rw [fix_both h l names rows]
  by_cases hs : s = []
  ·rw [if_pos hs, if_pos hs]
   cases rfixF y.labels y.l.length l names rows <;> rfl
  ·rw [if_neg hs, if_neg hs, find_both h s]
   cases hp : x.place s with
   | none => simp
   | some p =>
    simp only []
    rw [if_neg (by omega)]
    cases rfixF y.labels y.l.length l names rows <;> rfl
 | [], _, _ => by unfold fixF rfixF; rfl
 | _ :: _, [], _ => by unfold fixF rfixF; rfl
 | _ :: _, _ :: _, [] => by unfold fixF rfixF; rfl
/-- The program's Assemble and the document's answer alike. -/
theorem asm_both (t : List UInt8) : asmF t = rasmF t := by
 obtain ⟨h1, h2⟩ := all_both (linesF t) 0 Src.zero Src.zero ⟨rfl, rfl, rfl, rfl, by simp [Src.zero]⟩
 unfold asmF rasmF
 dsimp only
 rw [← h1]
 generalize allF (linesF t) 0 Src.zero = X at *
 generalize rallF (linesF t) 0 Src.zero = Y at *
 by_cases h0 : X.2.2 = 0
 ·rw [if_neg (by rw [h0]; simp), if_neg (by rw [h0]; simp), fix_both h2 X.1.l X.1.names X.1.rows, find_both h2 [108, 111, 99, 107], find_both h2 [117, 110, 108, 111, 99, 107], h2.l, h2.n, h2.r]
  cases rfixF Y.1.labels X.1.l.length X.1.l X.1.names X.1.rows with
  | inr e => rfl
  | inl k =>
   cases X.1.place [108, 111, 99, 107] with
   | none => simp
   | some a =>
    cases X.1.place [117, 110, 108, 111, 99, 107] with
    | none => simp
    | some b =>
     simp only []
     rw [if_neg (by omega)]
 ·rw [if_pos h0, if_pos h0]
end Go.Proofs.YtbodainpdjmjdaaGreatDoor
end
/- ropelineref07.find, over a row of labels that the call itself has made. -/
section
namespace Go.Proofs.YtbodainpdjmjdaaGreatDoor
open Go.RowKit Go.Proofs.YtbodainpdjmjdaaGreatDoorW.PrintWords
set_option linter.unusedVariables false
set_option linter.unusedSimpArgs false

/-- An owned row is read. -/
theorem own_rd {W : World} {base n size : Nat} {e : TypeId} {v : Value} {xs : List Value} (h : W.ownsRow base e size v n xs) (hn : 0 < n) :
  ∃ g c, v = .slice (some ⟨g, 0, none⟩) n c ∧ n ≤ c ∧ base ≤ g ∧ (∃ cs, W.heap[g]? = some (.cells cs e (0, 0)) ∧ n * size ≤ cs.size) ∧ ∀ j u, xs[j]? = some u → W.cell? ⟨g, j, none⟩ = some u := by
 obtain ⟨h1, h2⟩ := h
 rcases h2 with ⟨rfl, h0⟩ | ⟨g, cap, cur, rfl, hg, hh, hc, hm, hs, ht⟩
 ·omega
 ·refine ⟨g, cap, rfl, hc, hg, ⟨cur, hh, by rw [hs]; exact Nat.mul_le_mul_right _ hc⟩, fun j u hj => (blk_cell hh j).trans ?_⟩
  have hlt : j < n * size := by rw [← h1]; exact (List.getElem?_eq_some_iff.1 hj).1
  rw [← ht, List.getElem?_take_of_lt hlt, Array.getElem?_toList] at hj
  exact hj
theorem info_lb : (Tryz.prog.info? 83).map (fun i => (i.zero, i.size, i.bytes)) = some (some (.agg #[.string ⟨#[]⟩, .int .i64 0]), 2, 24) := by kernel_rfl
def lbCells : List (List UInt8 × Nat) → List Value
 | [] => []
 | p :: L => .string ⟨p.1.toArray⟩ :: .int .i64 (p.2 : Int) :: lbCells L
theorem lbCells_snoc : ∀ (L : List (List UInt8 × Nat)) (p : List UInt8 × Nat), lbCells (L ++ [p]) = lbCells L ++ [.string ⟨p.1.toArray⟩, .int .i64 (p.2 : Int)]
 | [], p => rfl
 | q :: L, p => by simp [lbCells, lbCells_snoc L p]
theorem lbCells_at : ∀ (L : List (List UInt8 × Nat)) (k : Nat) (hk : k < L.length), (lbCells L)[k * 2]? = some (.string ⟨(L[k]).1.toArray⟩) ∧ (lbCells L)[k * 2 + 1]? = some (.int .i64 ((L[k]).2 : Int))
 | p :: L, 0, _ => ⟨rfl, rfl⟩
 | p :: L, k + 1, hk => by
  have := lbCells_at L k (by simpa using hk)
  rw [show (k + 1) * 2 = k * 2 + 1 + 1 by omega]
  simpa [lbCells] using this
/-- A row of labels. -/
def LbRow (W : World) (base : Nat) (v : Value) (L : List (List UInt8 × Nat)) : Prop := W.ownsRow base 83 2 v L.length (lbCells L)
theorem LbRow.nil (W : World) (base : Nat) : LbRow W base (.slice none 0 0) [] := ⟨rfl, .inl ⟨rfl, rfl⟩⟩
theorem LbRow.keep {W W1 : World} {base : Nat} {v : Value} {L : List (List UInt8 × Nat)} (h : LbRow W base v L) (hb : Below W.heap.size W W1) : LbRow W1 base v L := own_move h fun k hk => hb.block k (own_lt h k hk)
theorem rfind_drop {L : List (List UInt8 × Nat)} {s : List UInt8} {n : Nat} : ∀ (k : Nat), k < L.length → (∀ h : k < L.length, ¬ (L[k].1 = s ∧ L[k].2 < n)) → rfindF (L.drop k) s n = rfindF (L.drop (k + 1)) s n := by
 intro k hk h
 unfold rfindF
 rw [List.drop_eq_getElem_cons hk, List.find?_cons_of_neg]
 simpa using h hk

set_option maxHeartbeats 2000000 in
set_option maxRecDepth 100000 in
theorem rfind_calls (v : Value) (L : List (List UInt8 × Nat)) (s : List UInt8) (n : Nat) (base : Nat) (W : World) (h : LbRow W base v L) (hl : L.length ≤ 1000000) :
  Calls Tryz.prog 70 #[v, .string ⟨s.toArray⟩, .int .i64 (n : Int)] W fun e W' => e = .returned (.int .i64 (rfindF L s n)) ∧ Below W.heap.size W W' := by
 obtain ⟨fin, hf⟩ : ∃ r, rfindF L s n = r := ⟨_, rfl⟩
 rw [hf]
 obtain ⟨A, m, c, rfl⟩ := own_slice h
 obtain ⟨k0, hk0⟩ : ∃ k, L.length = k := ⟨_, rfl⟩
 have hm : m = k0 := by
  rcases h.2 with ⟨e, h0⟩ | ⟨g, cap, cur, e, _⟩
  ·injection e with e1 e2 e3; omega
  ·injection e with e1 e2 e3; omega
 subst hm
 replace hf := Aside0.mk hf
 replace h := Aside0.mk h
 replace hk0 := Aside0.mk hk0
 have hl' : m ≤ 1000000 := by rw [← hk0.out]; exact hl
 clear hl
 go_enter Tryz.func70, Tryz.ntmps70
 go_wp2_with fail
 go_loopw [11] (fun v11 wr => ∃ k : Nat, v11 = .int .i64 k ∧ k ≤ m ∧ Aside0 (rfindF (L.drop k) s n = fin) ∧ Aside0 (Below W.heap.size W wr)) (fun v11 _ => m - (intOf v11).toNat)
 case atStart => exact ⟨0, rfl, Nat.zero_le _, ⟨by simpa using hf.out⟩, ⟨Below.refl _ _⟩⟩
 case round =>
  obtain ⟨k, rfl, hk, hF, hB⟩ := hrel
  by_cases hlt : k < m
  ·have hkx : k < L.length := by rw [hk0.out]; exact hlt
   obtain ⟨g, c', hv, hc, hg, _, hcell⟩ := own_rd (h.out.keep hB.out) (by omega)
   obtain ⟨rfl, rfl⟩ : A = some ⟨g, 0, none⟩ ∧ c = c' := by injection hv with h1 h2 h3; exact ⟨h1, h3⟩
   obtain ⟨e1, e2⟩ := lbCells_at L k hkx
   have c1 := hcell _ _ e1
   have c2 := hcell _ _ e2
   have hstep := rfind_drop (L := L) (s := s) (n := n) k hkx
   have hit : (L[k]'hkx).1 = s → (L[k]'hkx).2 < n → rfindF (L.drop k) s n = ((L[k]'hkx).2 : Int) := fun h1 h2 => by
    unfold rfindF
    rw [List.drop_eq_getElem_cons hkx, List.find?_cons_of_pos (by simp [h1, h2])]
   have hstep' : ¬ ((L[k]'hkx).1 = s ∧ (L[k]'hkx).2 < n) → rfindF (L.drop (k + 1)) s n = fin := fun hn => by rw [← hstep (fun _ => hn)]; exact hF.out
   rw [hF.out] at hit
   generalize L[k].1 = nm at c1 hit hstep'
   generalize L[k].2 = pl at c2 hit hstep'
   have hk0' : (0 : Int) ≤ (k : Int) := by omega
   have hk1 : (k : Int) < (m : Int) := by omega
   have hkw : IntKind.i64.wrap ((k : Int) + 1) = (k : Int) + 1 := by rw [IntKind.wrap_i64]; omega
   have hb2 := Aside0.mk (hB.out.alloc hB.out.size (.cells #[.string ⟨nm.toArray⟩, .int .i64 (pl : Int)] 83))
   replace hstep' := Aside0.mk hstep'
   replace hit := Aside0.mk hit
   clear hcell hv e1 e2 hF hstep
   by_cases hn : nm = s
   ·subst hn
    have hq : (nm == nm) = true := beq_self_eq_true nm
    by_cases hp : pl < n
    ·have hp' : (pl : Int) < (n : Int) := by omega
     have hfin : fin = (pl : Int) := hit.out rfl hp
     subst hfin
     clear hit hstep'
     go_wp2
     go_ret
     exact ⟨rfl, hb2.out⟩
    ·have hp' : ¬ (pl : Int) < (n : Int) := by omega
     replace hstep' := Aside0.mk (hstep'.out (fun h => hp h.2))
     clear hit
     go_wp2
     go_roundw
     case rel => exact ⟨k + 1, by go_num, hlt, hstep', hb2⟩
     case measure => simp [intOf]; omega
   ·have hq : (nm == s) = false := beq_eq_false_iff_ne.2 hn
    replace hstep' := Aside0.mk (hstep'.out (fun h => hn h.1))
    clear hit
    go_wp2
    go_roundw
    case rel => exact ⟨k + 1, by go_num, hlt, hstep', hb2⟩
    case measure => simp [intOf]; omega
  ·obtain rfl : k = m := by omega
   have hge : ¬ (k : Int) < (k : Int) := by omega
   have hfin : fin = -1 := by rw [← hF.out, List.drop_eq_nil_of_le (by rw [hk0.out]; exact Nat.le_refl _)]; rfl
   subst hfin
   go_wp2
   go_ret
   exact ⟨rfl, hB.out⟩
end Go.Proofs.YtbodainpdjmjdaaGreatDoor
end

/- The plain side of inst.Parse. -/
import Derived.Test.YtfbblligbacppaaDoorNumPlain
import Derived.Test.YtfbblligbacppaaDoorSplitPlain
import Derived.Test.YtfbblligbacppaaDoorTextPlain
namespace Go.Proofs.YtfbblligbacppaaDoor
open Go

def parseGo : List UInt8 → In → List (List UInt8) → Option (In × List (List UInt8))
  | [], i, ls => some (i, ls)
  | _ :: _, _, [] => none
  | c :: sg, i, w :: ls =>
    match fieldOff (c.toNat : Int) with
    | some j => parseGo sg (i.put (numF w) j) ls
    | none =>
      if (c.toNat : Int) = 80 then parseGo sg { i with q := numF w } ls
      else if (c.toNat : Int) = 87 then parseGo sg (waitF i (w :: ls)).1 (waitF i (w :: ls)).2
      else parseGo sg { i with k := numF w % 4294967296 } ls
def parseF (s : List UInt8) : In × Int :=
  let op := namedF ((splitF s).headD [])
  match parseGo (opHas op) { In.zero with op := op } ((splitF s).drop 1) with
  | none => (In.zero, 8)
  | some (i, rest) => if rest ≠ [] ∨ (textR i).2 ≠ 0 ∨ (textR i).1 ≠ s then (In.zero, 8) else (i, 0)
def finP (s : List UInt8) : Option (In × List (List UInt8)) → In × Int
  | none => (In.zero, 8)
  | some (i, rest) => if rest ≠ [] ∨ (textR i).2 ≠ 0 ∨ (textR i).1 ≠ s then (In.zero, 8) else (i, 0)
theorem parseF_eq (s : List UInt8) : parseF s = finP s (parseGo (opHas (namedF ((splitF s).headD []))) { In.zero with op := namedF ((splitF s).headD []) } ((splitF s).drop 1)) := rfl
theorem parseGo_nil (l : List UInt8) (k : Nat) (i : In) (h : k < l.length) : parseGo (l.drop k) i [] = none := by
  rw [List.drop_eq_getElem_cons h]; rfl
theorem parseGo_at (l : List UInt8) (k : Nat) (i : In) (w : List UInt8) (ls : List (List UInt8)) (h : k < l.length) (sg : Int) (hs : ((l.getD k 0).toNat : Int) = sg) :
    parseGo (l.drop k) i (w :: ls) = match fieldOff sg with
      | some j => parseGo (l.drop (k + 1)) (i.put (numF w) j) ls
      | none =>
        if sg = 80 then parseGo (l.drop (k + 1)) { i with q := numF w } ls
        else if sg = 87 then parseGo (l.drop (k + 1)) (waitF i (w :: ls)).1 (waitF i (w :: ls)).2
        else parseGo (l.drop (k + 1)) { i with k := numF w % 4294967296 } ls := by
  subst hs
  rw [List.drop_eq_getElem_cons h, List.getD_eq_getElem?_getD, List.getElem?_eq_getElem h]
  rfl
theorem waitF_wk {r : In} (h : r.wk) (ss : List (List UInt8)) : (waitF r ss).1.wk := by
  have h1 : (if ss.getD 0 [] = [110, 101] then { r with q := -1, k := 1 } else { r with q := -1 } : In).wk := by
    split
    · exact ⟨by simp, by simp⟩
    · exact h
  have h2 : (if 2 ≤ ss.length then { (if ss.getD 0 [] = [110, 101] then { r with q := -1, k := 1 } else { r with q := -1 } : In) with t := numF (ss.getD 1 []) } else (if ss.getD 0 [] = [110, 101] then { r with q := -1, k := 1 } else { r with q := -1 } : In)).wk := by
    split
    · exact h1
    · exact h1
  unfold waitF
  dsimp only
  split
  · exact h2
  · exact h2
theorem waitF_sub (r : In) (ss : List (List UInt8)) : ∃ n, (waitF r ss).2 = ss.drop n := by
  unfold waitF
  dsimp only
  split
  · exact ⟨ss.length, by simp⟩
  · exact ⟨2, rfl⟩
end Go.Proofs.YtfbblligbacppaaDoor

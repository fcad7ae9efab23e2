/- The plain side of inst.words: the words of a part of an instruction. -/
import Derived.Test.YtfbblligbacppaaDoorRightPlain
import Derived.Lib.ItoaNum
namespace Go.Proofs.YtfbblligbacppaaDoor

def dec (v : Int) : List UInt8 := Go.Lib.decDigits v.toNat
def wordsF (i : In) (s : Int) : List (List UInt8) :=
  match fieldOff s with
  | some j => if j = 5 then [dec i.a] else [114 :: dec (i.get j)]
  | none =>
    if s = 80 then [dec i.q]
    else if s = 87 then (if i.k = 0 then [101, 113] else [110, 101]) :: (114 :: dec i.t) :: (if i.q = -1 then [] else [[101, 108, 115, 101], dec i.q])
    else [dec i.k]
/-- Registers, areas, a word, a place that may be none: what words asks of its instruction. -/
structure In.fits (i : In) : Prop where
  d : 0 ≤ i.d ∧ i.d ≤ 7
  s : 0 ≤ i.s ∧ i.s ≤ 7
  t : 0 ≤ i.t ∧ i.t ≤ 7
  u : 0 ≤ i.u ∧ i.u ≤ 7
  a : 0 ≤ i.a ∧ i.a ≤ 7
  k : 0 ≤ i.k ∧ i.k ≤ 4294967295
  q : -1 ≤ i.q ∧ i.q ≤ 1073741824
theorem In.fits.get {i : In} (h : i.fits) (j : Nat) : 0 ≤ i.get j ∧ i.get j ≤ 7 := by
  unfold In.get
  split
  · exact h.d
  · exact h.s
  · exact h.t
  · exact h.u
  · exact h.a
  · omega
end Go.Proofs.YtfbblligbacppaaDoor

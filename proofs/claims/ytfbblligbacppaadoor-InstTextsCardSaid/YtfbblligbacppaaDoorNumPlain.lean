/- The plain side of inst.number, named, wait. -/
import Derived.Test.YtfbblligbacppaaDoorPlain
import Derived.Lib.AtoiAll
namespace Go.Proofs.YtfbblligbacppaaDoor
open Go

/-- Without an 'r' ahead. -/
def trimR : List UInt8 → List UInt8
  | 114 :: l => l
  | l => l

theorem trimR_len (l : List UInt8) : (trimR l).length ≤ l.length := by
  unfold trimR; split <;> simp

/-- The number of a word: strconv's, of what stands behind an 'r'; 0: it is none. -/
def numF (l : List UInt8) : Int :=
  match Lib.atoiAll (trimR l) with
  | .ok v => v
  | .range => Lib.atoiSat (trimR l)
  | _ => 0

def namedGo (l : List UInt8) : Nat → Int → Int
  | 0, _ => 0
  | n + 1, op => if opName op = l ∧ l ≠ [] then op else namedGo l n (op + 1)
def namedF (l : List UInt8) : Int := namedGo l 23 1

def waitF (r : In) (ss : List (List UInt8)) : In × List (List UInt8) :=
  let r1 : In := if ss.getD 0 [] = [110, 101] then { r with q := -1, k := 1 } else { r with q := -1 }
  let r2 : In := if 2 ≤ ss.length then { r1 with t := numF (ss.getD 1 []) } else r1
  if ss.length = 4 ∧ ss.getD 2 [] = [101, 108, 115, 101] then ({ r2 with q := numF (ss.getD 3 []) }, []) else (r2, ss.drop 2)

end Go.Proofs.YtfbblligbacppaaDoor

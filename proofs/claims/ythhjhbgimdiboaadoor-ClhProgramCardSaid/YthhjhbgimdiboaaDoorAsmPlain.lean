/- The plain side of layer 7: lines of a text, a line's instruction, a program of lines. -/
import Derived.Test.YthhjhbgimdiboaaDoorPlain
namespace Go.Proofs.YthhjhbgimdiboaaDoor
open Go Go.Lib

/-- The lines of a text, each with its end; what stands behind the last end is a line, too. -/
def linesF : List UInt8 → List (List UInt8)
  | [] => []
  | c :: l => if c = 10 then [10] :: linesF l else
    match linesF l with
    | [] => [[c]]
    | w :: ws => (c :: w) :: ws
def lowB (c : UInt8) : Bool := decide (97 ≤ c.toNat ∧ c.toNat ≤ 122)
def digB (c : UInt8) : Bool := decide (48 ≤ c.toNat ∧ c.toNat ≤ 57)
/-- Is a word a label's name? -/
def nameB (l : List UInt8) : Bool := decide (1 ≤ l.length ∧ l.length ≤ 16) && lowB (l.headD 0) && l.all (fun c => lowB c || digB c)
def goesB (i : In) : Bool := decide ((8 ≤ i.op ∧ i.op ≤ 10) ∨ (i.op = 21 ∧ 0 ≤ i.q))
/-- What stands behind the last blank, and what ahead of it, the blank too. -/
def tailSp (s : List UInt8) : List UInt8 := (splitF s).getLastD []
def headSp (s : List UInt8) : List UInt8 := s.take (s.length - (tailSp s).length)
/-- asm's one: an instruction without its place, and the name of that; false: a line is none. -/
def oneF (s : List UInt8) : In × List UInt8 × Bool :=
  let r := parseF (headSp s ++ [48])
  if r.2 = 0 ∧ goesB r.1 = true then (r.1, tailSp s, nameB (tailSp s)) else
  let r := parseF s
  (r.1, [], decide (r.2 = 0) && !goesB r.1)
/-- A program on its way: instructions, the names of their places, their lines; labels and their places. -/
structure Src where
  l : List In
  names : List (List UInt8)
  rows : List Int
  labels : List (List UInt8 × Nat)
def Src.zero : Src := ⟨[], [], [], []⟩
def Src.at (x : Src) (s : List UInt8) : Option Nat := (x.labels.find? (fun p => p.1 == s)).map (·.2)
/-- asm's line: what was read, and the error. -/
def lineF (x : Src) (s : List UInt8) (n : Int) : Src × Int :=
  if s.getLast? ≠ some 10 then (x, 8) else
  let s := s.dropLast
  if s.getLast? = some 58 ∧ nameB s.dropLast = true then
    (if (x.at s.dropLast).isSome then (x, 2) else ({ x with labels := (s.dropLast, x.l.length) :: x.labels }, 0))
  else
    let r := oneF s
    if r.2.2 = false then (x, 8)
    else if 64 ≤ x.l.length then (x, 9)
    else ({ x with l := x.l ++ [r.1], names := x.names ++ [r.2.1], rows := x.rows ++ [n] }, 0)
/-- All lines, from the line behind n on: what was read; or the line and the error. -/
def allF : List (List UInt8) → Int → Src → Src × Int × Int
  | [], n, x => (x, n, 0)
  | s :: ls, n, x => if (lineF x s (n + 1)).2 = 0 then allF ls (n + 1) (lineF x s (n + 1)).1 else (x, n + 1, (lineF x s (n + 1)).2)
def Src.place (x : Src) (s : List UInt8) : Option Nat := (x.at s).filter (· < x.l.length)
/-- A program. -/
structure Pg where
  l : List In
  lock : Int
  unlock : Int
deriving DecidableEq
def Pg.zero : Pg := ⟨[], 0, 0⟩
/-- The places of names: the instructions; or the line that has none. -/
def fixF (x : Src) : List In → List (List UInt8) → List Int → List In ⊕ Int
  | i :: l, s :: names, r :: rows =>
    if s = [] then (match fixF x l names rows with | .inl k => .inl (i :: k) | .inr e => .inr e)
    else match x.place s with
      | none => .inr r
      | some p => match fixF x l names rows with | .inl k => .inl ({ i with q := p } :: k) | .inr e => .inr e
  | _, _, _ => .inl []
/-- asm's Assemble: the program, the line, the error. -/
def asmF (t : List UInt8) : Pg × Int × Int :=
  let r := allF (linesF t) 0 Src.zero
  if r.2.2 ≠ 0 then (Pg.zero, r.2.1, r.2.2) else
  match fixF r.1 r.1.l r.1.names r.1.rows with
  | .inr e => (Pg.zero, e, 10)
  | .inl k => match r.1.place [108, 111, 99, 107], r.1.place [117, 110, 108, 111, 99, 107] with
    | some a, some b => (⟨k, a, b⟩, 0, 0)
    | _, _ => (Pg.zero, 0, 10)
end Go.Proofs.YthhjhbgimdiboaaDoor

/- The plain side of layer 6: instructions, their forms, what may be, their texts: numbers and lists alone. -/
namespace Go.Proofs.YtfbblligbacppaaDoor

def opName (op : Int) : List UInt8 :=
  if op = 1 then [99, 111, 110, 115, 116] else
  if op = 2 then [109, 111, 118, 101] else
  if op = 3 then [97, 100, 100, 107] else
  if op = 4 then [97, 110, 100, 107] else
  if op = 5 then [115, 104, 108] else
  if op = 6 then [115, 104, 114] else
  if op = 7 then [111, 114] else
  if op = 8 then [98, 101, 113] else
  if op = 9 then [98, 110, 101] else
  if op = 10 then [106, 117, 109, 112] else
  if op = 11 then [115, 101, 108, 102] else
  if op = 12 then [109, 97, 114, 107] else
  if op = 13 then [100, 111, 110, 101] else
  if op = 16 then [108, 111, 97, 100] else
  if op = 17 then [115, 116, 111, 114, 101] else
  if op = 18 then [115, 119, 97, 112] else
  if op = 19 then [99, 97, 115] else
  if op = 20 then [102, 97, 100, 100] else
  if op = 21 then [97, 119, 97, 105, 116] else
  if op = 22 then [116, 97, 107, 101] else
  if op = 23 then [102, 114, 101, 101] else
  []
def opHas (op : Int) : List UInt8 :=
  if op = 1 then [68, 75] else
  if op = 2 then [68, 83] else
  if op = 3 then [68, 83, 75] else
  if op = 4 then [68, 83, 75] else
  if op = 5 then [68, 83, 66] else
  if op = 6 then [68, 83, 66] else
  if op = 7 then [68, 83, 84] else
  if op = 8 then [83, 84, 80] else
  if op = 9 then [83, 84, 80] else
  if op = 10 then [80] else
  if op = 11 then [68] else
  if op = 12 then [77] else
  if op = 13 then [79] else
  if op = 16 then [68, 65, 83] else
  if op = 17 then [65, 83, 84] else
  if op = 18 then [68, 65, 83, 84] else
  if op = 19 then [68, 65, 83, 84, 85] else
  if op = 20 then [68, 65, 83, 75] else
  if op = 21 then [68, 65, 83, 87] else
  if op = 22 then [68] else
  if op = 23 then [83] else
  []

def fieldOff (s : Int) : Option Nat := if s = 68 then some 1 else if s = 83 then some 2 else if s = 84 then some 3 else if s = 85 then some 4 else if s = 65 then some 5 else none

/-- An instruction. -/
structure In where
  op : Int
  d : Int
  s : Int
  t : Int
  u : Int
  a : Int
  k : Int
  q : Int
deriving DecidableEq

def In.zero : In := ⟨0, 0, 0, 0, 0, 0, 0, 0⟩
def In.get (i : In) : Nat → Int
  | 1 => i.d
  | 2 => i.s
  | 3 => i.t
  | 4 => i.u
  | 5 => i.a
  | _ => 0
def In.put (i : In) (v : Int) : Nat → In
  | 1 => { i with d := v }
  | 2 => { i with s := v }
  | 3 => { i with t := v }
  | 4 => { i with u := v }
  | 5 => { i with a := v }
  | _ => i
/-- One sign of a form: what is held against its bounds is struck. -/
def stepR (places s : Int) (r : In) : Option In :=
  match fieldOff s with
  | some j => if r.get j < 0 ∨ 7 < r.get j then none else some (r.put 0 j)
  | none =>
    if s = 75 then some { r with k := 0 }
    else if s = 66 then (if 31 < r.k then none else some { r with k := 0 })
    else if s = 77 then (if r.k < 1 ∨ 4 < r.k then none else some { r with k := 0 })
    else if s = 79 then (if 3 < r.k then none else some { r with k := 0 })
    else if s = 87 then (if 1 < r.k then none else if r.t < 0 ∨ 7 < r.t ∨ r.q < -1 ∨ (r.q ≠ -1 ∧ places ≤ r.q) then none else some { r with k := 0, t := 0, q := 0 })
    else if s = 80 then (if r.q < 0 ∨ places ≤ r.q then none else some { r with q := 0 })
    else some r
def foldR (places : Int) : List UInt8 → In → Option In
  | [], r => some r
  | c :: l, r => match stepR places (c.toNat : Int) r with
    | some r' => foldR places l r'
    | none => none
def rightF (i : In) (places : Int) : Bool :=
  if opName i.op = [] then false else
  match foldR places (opHas i.op) { i with op := 0 } with
  | some r => decide (r = In.zero)
  | none => false

def finR : Option In → Bool
  | some r => decide (r = In.zero)
  | none => false
theorem rightF_eq (i : In) (places : Int) (h : opName i.op ≠ []) : rightF i places = finR (foldR places (opHas i.op) { i with op := 0 }) := by
  unfold rightF; rw [if_neg h]; rfl
def within (s : Int) : Int × Int × Bool :=
  if s = 75 then (0, 4294967295, true) else if s = 66 then (0, 31, true) else if s = 77 then (1, 4, true) else if s = 79 then (0, 3, true) else if s = 87 then (0, 1, true) else (0, 0, false)
theorem foldR_at (places : Int) (l : List UInt8) (k : Nat) (r : In) (h : k < l.length) :
    foldR places (l.drop k) r = (stepR places ((l.getD k 0).toNat : Int) r).bind (foldR places (l.drop (k + 1))) := by
  rw [List.drop_eq_getElem_cons h]
  simp only [foldR, List.getD_eq_getElem?_getD, List.getElem?_eq_getElem h, Option.getD_some]
  cases stepR places (l[k].toNat : Int) r <;> rfl
end Go.Proofs.YtfbblligbacppaaDoor

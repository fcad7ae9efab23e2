/- Parts: Wait. -/
import Derived.Test.YtbhpkeiofajbpaaGreatDoorB07
import Derived.Test.YtbhpkeiofajbpaaGreatDoorB12
/- inst.wait: the words of an Await are read; what is left. -/
namespace Go.Proofs.YtbhpkeiofajbpaaGreatDoor
open Go.RowKit Go.Proofs.YtbhpkeiofajbpaaGreatDoorW.PrintWords
set_option linter.unusedVariables false

/-- A slice of strings, cut to its end. -/
def StrSl (w : World) (v : Value) (ss : List (List UInt8)) : Prop :=
 (ss = [] ∧ ∃ A, v = .slice A 0 0) ∨ ∃ g o, v = .slice (some ⟨g, o, none⟩) ss.length ss.length ∧ (∃ cs, w.heap[g]? = some (.cells cs 9 (0, 0)) ∧ ∀ j, j < ss.length → cs[o + j]? = some (.string ⟨(ss.getD j []).toArray⟩))

theorem grown_of_set {w w1 : World} {g : Nat} (h : w.grownBy w1 (some g)) (o : Nat) (v : Value) : w.grownBy (w1.setCell ⟨g, o, none⟩ v) (some g) :=
 ⟨h.os, h.tape, h.output, by rw [World.setCell]; simp; exact h.size, fun i hi hne => (Below.heap_setCell w1 ⟨g, o, none⟩ v i (fun e => hne (by rw [e]))).trans (h.block i hi hne)⟩
theorem grown_refl (w : World) (row : Option Nat) : w.grownBy w row := ⟨rfl, rfl, rfl, Nat.le_refl _, fun _ _ _ => rfl⟩
theorem grown_below {w w1 w2 : World} {row : Option Nat} (h : w.grownBy w1 row) (hb : Below w1.heap.size w1 w2) : w.grownBy w2 row :=
 ⟨hb.os.trans h.os, hb.tape.trans h.tape, hb.output.trans h.output, Nat.le_trans h.size hb.size, fun i hi hne => (hb.block i (Nat.lt_of_lt_of_le hi h.size)).trans (h.block i hi hne)⟩

set_option maxHeartbeats 1000000 in
set_option maxRecDepth 100000 in
theorem wait_1n (gi g o : Nat) (r : In) (s0 : List UInt8) (cs : Array Value) (w0 w : World) (he : Env w0) (hb0 : Below w0.heap.size w0 w) (hgi : w0.heap.size ≤ gi) (hne : gi ≠ g) (hI : w.heap[gi]? = some (.cells r.cs 99 (0, 0))) (hs : s0 = [110, 101]) (hg : w.heap[g]? = some (.cells cs 9 (0, 0))) (hcs : ∀ j, j < [s0].length → cs[o + j]? = some (.string ⟨([s0].getD j []).toArray⟩)) :
  Calls Tryz.prog 132 #[.pointer (some ⟨gi, 0, none⟩), .slice (some ⟨g, o, none⟩) 1 1] w fun e w' =>
   ∃ v, e = .returned v ∧ StrSl w' v (waitF r [s0]).2 ∧ w'.heap[gi]? = some (.cells (waitF r [s0]).1.cs 99 (0, 0)) ∧ w.grownBy w' (some gi) := by
 have c0 : w.cell? ⟨g, o, none⟩ = some (.string ⟨s0.toArray⟩) := (blk_cell hg o).trans (hcs 0 (by simp))
 have i6 : w.cell? ⟨gi, 6, none⟩ = some (.int .u32 r.k) := (blk_cell hI 6).trans rfl
 have i7 : w.cell? ⟨gi, 7, none⟩ = some (.int .i64 r.q) := (blk_cell hI 7).trans rfl
 have f6 := blk_frozen hI 6
 have f7 := blk_frozen hI 7
 have hne' : g ≠ gi := fun e => hne e.symm
 have t0 : (s0 == [110, 101]) = true := beq_iff_eq.2 hs
 have hfin : waitF r [s0] = ({ r with q := -1, k := 1 }, []) := by simp [waitF, hs]
 rw [hfin]
 clear hfin
 replace hI := Aside0.mk hI
 replace hg := Aside0.mk hg
 replace hcs := Aside0.mk hcs
 replace hs := Aside0.mk hs
 go_enter Tryz.func132, Tryz.ntmps132
 go_wp2
 go_ret
 exact ⟨_, rfl, .inl ⟨rfl, _, rfl⟩, blk_set (blk_set (hI.out) 7 (.int .i64 (-1))) 6 (.int .u32 1), grown_of_set (grown_of_set (grown_refl w (some gi)) 7 _) 6 _⟩

set_option maxHeartbeats 1000000 in
set_option maxRecDepth 100000 in
theorem wait_1e (gi g o : Nat) (r : In) (s0 : List UInt8) (cs : Array Value) (w0 w : World) (he : Env w0) (hb0 : Below w0.heap.size w0 w) (hgi : w0.heap.size ≤ gi) (hne : gi ≠ g) (hI : w.heap[gi]? = some (.cells r.cs 99 (0, 0))) (hs : s0 ≠ [110, 101]) (hg : w.heap[g]? = some (.cells cs 9 (0, 0))) (hcs : ∀ j, j < [s0].length → cs[o + j]? = some (.string ⟨([s0].getD j []).toArray⟩)) :
  Calls Tryz.prog 132 #[.pointer (some ⟨gi, 0, none⟩), .slice (some ⟨g, o, none⟩) 1 1] w fun e w' =>
   ∃ v, e = .returned v ∧ StrSl w' v (waitF r [s0]).2 ∧ w'.heap[gi]? = some (.cells (waitF r [s0]).1.cs 99 (0, 0)) ∧ w.grownBy w' (some gi) := by
 have c0 : w.cell? ⟨g, o, none⟩ = some (.string ⟨s0.toArray⟩) := (blk_cell hg o).trans (hcs 0 (by simp))
 have i6 : w.cell? ⟨gi, 6, none⟩ = some (.int .u32 r.k) := (blk_cell hI 6).trans rfl
 have i7 : w.cell? ⟨gi, 7, none⟩ = some (.int .i64 r.q) := (blk_cell hI 7).trans rfl
 have f6 := blk_frozen hI 6
 have f7 := blk_frozen hI 7
 have hne' : g ≠ gi := fun e => hne e.symm
 have t0 : (s0 == [110, 101]) = false := beq_eq_false_iff_ne.2 hs
 have hfin : waitF r [s0] = ({ r with q := -1 }, []) := by simp [waitF, hs]
 rw [hfin]
 clear hfin
 replace hI := Aside0.mk hI
 replace hg := Aside0.mk hg
 replace hcs := Aside0.mk hcs
 replace hs := Aside0.mk hs
 go_enter Tryz.func132, Tryz.ntmps132
 go_wp2
 go_ret
 exact ⟨_, rfl, .inl ⟨rfl, _, rfl⟩, blk_set (hI.out) 7 (.int .i64 (-1)), grown_of_set (grown_refl w (some gi)) 7 _⟩

set_option maxHeartbeats 1000000 in
set_option maxRecDepth 100000 in
theorem wait_2n (gi g o : Nat) (r : In) (s0 s1 : List UInt8) (cs : Array Value) (w0 w : World) (he : Env w0) (hb0 : Below w0.heap.size w0 w) (hgi : w0.heap.size ≤ gi) (hne : gi ≠ g) (hI : w.heap[gi]? = some (.cells r.cs 99 (0, 0))) (hs : s0 = [110, 101]) (hg : w.heap[g]? = some (.cells cs 9 (0, 0))) (hcs : ∀ j, j < [s0, s1].length → cs[o + j]? = some (.string ⟨([s0, s1].getD j []).toArray⟩)) (hl1 : s1.length ≤ 4294967280) :
  Calls Tryz.prog 132 #[.pointer (some ⟨gi, 0, none⟩), .slice (some ⟨g, o, none⟩) 2 2] w fun e w' =>
   ∃ v, e = .returned v ∧ StrSl w' v (waitF r [s0, s1]).2 ∧ w'.heap[gi]? = some (.cells (waitF r [s0, s1]).1.cs 99 (0, 0)) ∧ w.grownBy w' (some gi) := by
 have c0 : w.cell? ⟨g, o, none⟩ = some (.string ⟨s0.toArray⟩) := (blk_cell hg o).trans (hcs 0 (by simp))
 have c1 : w.cell? ⟨g, o + 1, none⟩ = some (.string ⟨s1.toArray⟩) := (blk_cell hg (o + 1)).trans (hcs 1 (by simp))
 have i6 : w.cell? ⟨gi, 6, none⟩ = some (.int .u32 r.k) := (blk_cell hI 6).trans rfl
 have i7 : w.cell? ⟨gi, 7, none⟩ = some (.int .i64 r.q) := (blk_cell hI 7).trans rfl
 have f6 := blk_frozen hI 6
 have f7 := blk_frozen hI 7
 have hne' : g ≠ gi := fun e => hne e.symm
 have t0 : (s0 == [110, 101]) = true := beq_iff_eq.2 hs
 have hfin : waitF r [s0, s1] = ({ r with q := -1, k := 1, t := numF s1 }, []) := by simp [waitF, hs]
 rw [hfin]
 clear hfin
 replace hI := Aside0.mk hI
 replace hg := Aside0.mk hg
 replace hcs := Aside0.mk hcs
 replace hs := Aside0.mk hs
 go_enter Tryz.func132, Tryz.ntmps132
 have hB1 := Aside0.mk ((hb0.setCell (p := ⟨gi, 7, none⟩) hgi (.int .i64 (-1))).setCell (p := ⟨gi, 6, none⟩) hgi (.int .u32 1))
 go_wp2_with fail
 refine (number_calls s1 _ hl1 (he.below hB1.out)).mono ?_
 rintro e w1 ⟨rfl, hb1⟩
 have hI1 := Aside0.mk (show w1.heap[gi]? = some (.cells (In.cs { r with q := -1, k := 1 }) 99 (0, 0)) from blk_keep hb1 (blk_set (blk_set (hI.out) 7 (.int .i64 (-1))) 6 (.int .u32 1)))
 have hg1 := Aside0.mk (blk_keep hb1 (blk_far (blk_far (hg.out) hne' _) hne' _))
 have hr1 := Aside0.mk (grown_below (grown_of_set (grown_of_set (grown_refl w (some gi)) 7 _) 6 _) hb1)
 have i31 : w1.cell? ⟨gi, 3, none⟩ = some (.int .i64 r.t) := (blk_cell hI1.out 3).trans rfl
 have f31 := blk_frozen hI1.out 3
 go_wp2
 go_ret
 exact ⟨_, rfl, .inl ⟨rfl, _, rfl⟩, blk_set hI1.out 3 (.int .i64 (numF s1)), grown_of_set hr1.out 3 _⟩

set_option maxHeartbeats 1000000 in
set_option maxRecDepth 100000 in
theorem wait_2e (gi g o : Nat) (r : In) (s0 s1 : List UInt8) (cs : Array Value) (w0 w : World) (he : Env w0) (hb0 : Below w0.heap.size w0 w) (hgi : w0.heap.size ≤ gi) (hne : gi ≠ g) (hI : w.heap[gi]? = some (.cells r.cs 99 (0, 0))) (hs : s0 ≠ [110, 101]) (hg : w.heap[g]? = some (.cells cs 9 (0, 0))) (hcs : ∀ j, j < [s0, s1].length → cs[o + j]? = some (.string ⟨([s0, s1].getD j []).toArray⟩)) (hl1 : s1.length ≤ 4294967280) :
  Calls Tryz.prog 132 #[.pointer (some ⟨gi, 0, none⟩), .slice (some ⟨g, o, none⟩) 2 2] w fun e w' =>
   ∃ v, e = .returned v ∧ StrSl w' v (waitF r [s0, s1]).2 ∧ w'.heap[gi]? = some (.cells (waitF r [s0, s1]).1.cs 99 (0, 0)) ∧ w.grownBy w' (some gi) := by
 have c0 : w.cell? ⟨g, o, none⟩ = some (.string ⟨s0.toArray⟩) := (blk_cell hg o).trans (hcs 0 (by simp))
 have c1 : w.cell? ⟨g, o + 1, none⟩ = some (.string ⟨s1.toArray⟩) := (blk_cell hg (o + 1)).trans (hcs 1 (by simp))
 have i6 : w.cell? ⟨gi, 6, none⟩ = some (.int .u32 r.k) := (blk_cell hI 6).trans rfl
 have i7 : w.cell? ⟨gi, 7, none⟩ = some (.int .i64 r.q) := (blk_cell hI 7).trans rfl
 have f6 := blk_frozen hI 6
 have f7 := blk_frozen hI 7
 have hne' : g ≠ gi := fun e => hne e.symm
 have t0 : (s0 == [110, 101]) = false := beq_eq_false_iff_ne.2 hs
 have hfin : waitF r [s0, s1] = ({ r with q := -1, t := numF s1 }, []) := by simp [waitF, hs]
 rw [hfin]
 clear hfin
 replace hI := Aside0.mk hI
 replace hg := Aside0.mk hg
 replace hcs := Aside0.mk hcs
 replace hs := Aside0.mk hs
 go_enter Tryz.func132, Tryz.ntmps132
 have hB1 := Aside0.mk (hb0.setCell (p := ⟨gi, 7, none⟩) hgi (.int .i64 (-1)))
 go_wp2_with fail
 refine (number_calls s1 _ hl1 (he.below hB1.out)).mono ?_
 rintro e w1 ⟨rfl, hb1⟩
 have hI1 := Aside0.mk (show w1.heap[gi]? = some (.cells (In.cs { r with q := -1 }) 99 (0, 0)) from blk_keep hb1 (blk_set (hI.out) 7 (.int .i64 (-1))))
 have hg1 := Aside0.mk (blk_keep hb1 (blk_far (hg.out) hne' _))
 have hr1 := Aside0.mk (grown_below (grown_of_set (grown_refl w (some gi)) 7 _) hb1)
 have i31 : w1.cell? ⟨gi, 3, none⟩ = some (.int .i64 r.t) := (blk_cell hI1.out 3).trans rfl
 have f31 := blk_frozen hI1.out 3
 go_wp2
 go_ret
 exact ⟨_, rfl, .inl ⟨rfl, _, rfl⟩, blk_set hI1.out 3 (.int .i64 (numF s1)), grown_of_set hr1.out 3 _⟩

set_option maxHeartbeats 1000000 in
set_option maxRecDepth 100000 in
theorem wait_3n (gi g o : Nat) (r : In) (s0 s1 s2 : List UInt8) (cs : Array Value) (w0 w : World) (he : Env w0) (hb0 : Below w0.heap.size w0 w) (hgi : w0.heap.size ≤ gi) (hne : gi ≠ g) (hI : w.heap[gi]? = some (.cells r.cs 99 (0, 0))) (hs : s0 = [110, 101]) (hg : w.heap[g]? = some (.cells cs 9 (0, 0))) (hcs : ∀ j, j < [s0, s1, s2].length → cs[o + j]? = some (.string ⟨([s0, s1, s2].getD j []).toArray⟩)) (hl1 : s1.length ≤ 4294967280) :
  Calls Tryz.prog 132 #[.pointer (some ⟨gi, 0, none⟩), .slice (some ⟨g, o, none⟩) 3 3] w fun e w' =>
   ∃ v, e = .returned v ∧ StrSl w' v (waitF r [s0, s1, s2]).2 ∧ w'.heap[gi]? = some (.cells (waitF r [s0, s1, s2]).1.cs 99 (0, 0)) ∧ w.grownBy w' (some gi) := by
 have c0 : w.cell? ⟨g, o, none⟩ = some (.string ⟨s0.toArray⟩) := (blk_cell hg o).trans (hcs 0 (by simp))
 have c1 : w.cell? ⟨g, o + 1, none⟩ = some (.string ⟨s1.toArray⟩) := (blk_cell hg (o + 1)).trans (hcs 1 (by simp))
 have c2 : w.cell? ⟨g, o + 2, none⟩ = some (.string ⟨s2.toArray⟩) := (blk_cell hg (o + 2)).trans (hcs 2 (by simp))
 have i6 : w.cell? ⟨gi, 6, none⟩ = some (.int .u32 r.k) := (blk_cell hI 6).trans rfl
 have i7 : w.cell? ⟨gi, 7, none⟩ = some (.int .i64 r.q) := (blk_cell hI 7).trans rfl
 have f6 := blk_frozen hI 6
 have f7 := blk_frozen hI 7
 have hne' : g ≠ gi := fun e => hne e.symm
 have t0 : (s0 == [110, 101]) = true := beq_iff_eq.2 hs
 have hfin : waitF r [s0, s1, s2] = ({ r with q := -1, k := 1, t := numF s1 }, [s2]) := by simp [waitF, hs]
 rw [hfin]
 clear hfin
 replace hI := Aside0.mk hI
 replace hg := Aside0.mk hg
 replace hcs := Aside0.mk hcs
 replace hs := Aside0.mk hs
 go_enter Tryz.func132, Tryz.ntmps132
 have hB1 := Aside0.mk ((hb0.setCell (p := ⟨gi, 7, none⟩) hgi (.int .i64 (-1))).setCell (p := ⟨gi, 6, none⟩) hgi (.int .u32 1))
 go_wp2_with fail
 refine (number_calls s1 _ hl1 (he.below hB1.out)).mono ?_
 rintro e w1 ⟨rfl, hb1⟩
 have hI1 := Aside0.mk (show w1.heap[gi]? = some (.cells (In.cs { r with q := -1, k := 1 }) 99 (0, 0)) from blk_keep hb1 (blk_set (blk_set (hI.out) 7 (.int .i64 (-1))) 6 (.int .u32 1)))
 have hg1 := Aside0.mk (blk_keep hb1 (blk_far (blk_far (hg.out) hne' _) hne' _))
 have hr1 := Aside0.mk (grown_below (grown_of_set (grown_of_set (grown_refl w (some gi)) 7 _) 6 _) hb1)
 have i31 : w1.cell? ⟨gi, 3, none⟩ = some (.int .i64 r.t) := (blk_cell hI1.out 3).trans rfl
 have f31 := blk_frozen hI1.out 3
 go_wp2
 go_ret
 exact ⟨_, rfl, .inr ⟨g, o + 2, rfl, _, blk_far hg1.out hne' _, fun j hj => by have := hcs.out (2 + j) (by simp at hj ⊢; omega); rw [← Nat.add_assoc] at this; simpa [Nat.add_comm 2 j] using this⟩, blk_set hI1.out 3 (.int .i64 (numF s1)), grown_of_set hr1.out 3 _⟩

set_option maxHeartbeats 1000000 in
set_option maxRecDepth 100000 in
theorem wait_3e (gi g o : Nat) (r : In) (s0 s1 s2 : List UInt8) (cs : Array Value) (w0 w : World) (he : Env w0) (hb0 : Below w0.heap.size w0 w) (hgi : w0.heap.size ≤ gi) (hne : gi ≠ g) (hI : w.heap[gi]? = some (.cells r.cs 99 (0, 0))) (hs : s0 ≠ [110, 101]) (hg : w.heap[g]? = some (.cells cs 9 (0, 0))) (hcs : ∀ j, j < [s0, s1, s2].length → cs[o + j]? = some (.string ⟨([s0, s1, s2].getD j []).toArray⟩)) (hl1 : s1.length ≤ 4294967280) :
  Calls Tryz.prog 132 #[.pointer (some ⟨gi, 0, none⟩), .slice (some ⟨g, o, none⟩) 3 3] w fun e w' =>
   ∃ v, e = .returned v ∧ StrSl w' v (waitF r [s0, s1, s2]).2 ∧ w'.heap[gi]? = some (.cells (waitF r [s0, s1, s2]).1.cs 99 (0, 0)) ∧ w.grownBy w' (some gi) := by
 have c0 : w.cell? ⟨g, o, none⟩ = some (.string ⟨s0.toArray⟩) := (blk_cell hg o).trans (hcs 0 (by simp))
 have c1 : w.cell? ⟨g, o + 1, none⟩ = some (.string ⟨s1.toArray⟩) := (blk_cell hg (o + 1)).trans (hcs 1 (by simp))
 have c2 : w.cell? ⟨g, o + 2, none⟩ = some (.string ⟨s2.toArray⟩) := (blk_cell hg (o + 2)).trans (hcs 2 (by simp))
 have i6 : w.cell? ⟨gi, 6, none⟩ = some (.int .u32 r.k) := (blk_cell hI 6).trans rfl
 have i7 : w.cell? ⟨gi, 7, none⟩ = some (.int .i64 r.q) := (blk_cell hI 7).trans rfl
 have f6 := blk_frozen hI 6
 have f7 := blk_frozen hI 7
 have hne' : g ≠ gi := fun e => hne e.symm
 have t0 : (s0 == [110, 101]) = false := beq_eq_false_iff_ne.2 hs
 have hfin : waitF r [s0, s1, s2] = ({ r with q := -1, t := numF s1 }, [s2]) := by simp [waitF, hs]
 rw [hfin]
 clear hfin
 replace hI := Aside0.mk hI
 replace hg := Aside0.mk hg
 replace hcs := Aside0.mk hcs
 replace hs := Aside0.mk hs
 go_enter Tryz.func132, Tryz.ntmps132
 have hB1 := Aside0.mk (hb0.setCell (p := ⟨gi, 7, none⟩) hgi (.int .i64 (-1)))
 go_wp2_with fail
 refine (number_calls s1 _ hl1 (he.below hB1.out)).mono ?_
 rintro e w1 ⟨rfl, hb1⟩
 have hI1 := Aside0.mk (show w1.heap[gi]? = some (.cells (In.cs { r with q := -1 }) 99 (0, 0)) from blk_keep hb1 (blk_set (hI.out) 7 (.int .i64 (-1))))
 have hg1 := Aside0.mk (blk_keep hb1 (blk_far (hg.out) hne' _))
 have hr1 := Aside0.mk (grown_below (grown_of_set (grown_refl w (some gi)) 7 _) hb1)
 have i31 : w1.cell? ⟨gi, 3, none⟩ = some (.int .i64 r.t) := (blk_cell hI1.out 3).trans rfl
 have f31 := blk_frozen hI1.out 3
 go_wp2
 go_ret
 exact ⟨_, rfl, .inr ⟨g, o + 2, rfl, _, blk_far hg1.out hne' _, fun j hj => by have := hcs.out (2 + j) (by simp at hj ⊢; omega); rw [← Nat.add_assoc] at this; simpa [Nat.add_comm 2 j] using this⟩, blk_set hI1.out 3 (.int .i64 (numF s1)), grown_of_set hr1.out 3 _⟩

set_option maxHeartbeats 1000000 in
set_option maxRecDepth 100000 in
theorem wait_4nl (gi g o : Nat) (r : In) (s0 s1 s2 s3 : List UInt8) (cs : Array Value) (w0 w : World) (he : Env w0) (hb0 : Below w0.heap.size w0 w) (hgi : w0.heap.size ≤ gi) (hne : gi ≠ g) (hI : w.heap[gi]? = some (.cells r.cs 99 (0, 0))) (hs : s0 = [110, 101]) (hs2 : s2 = [101, 108, 115, 101]) (hg : w.heap[g]? = some (.cells cs 9 (0, 0))) (hcs : ∀ j, j < [s0, s1, s2, s3].length → cs[o + j]? = some (.string ⟨([s0, s1, s2, s3].getD j []).toArray⟩)) (hl1 : s1.length ≤ 4294967280) (hl3 : s3.length ≤ 4294967280) :
  Calls Tryz.prog 132 #[.pointer (some ⟨gi, 0, none⟩), .slice (some ⟨g, o, none⟩) 4 4] w fun e w' =>
   ∃ v, e = .returned v ∧ StrSl w' v (waitF r [s0, s1, s2, s3]).2 ∧ w'.heap[gi]? = some (.cells (waitF r [s0, s1, s2, s3]).1.cs 99 (0, 0)) ∧ w.grownBy w' (some gi) := by
 have c0 : w.cell? ⟨g, o, none⟩ = some (.string ⟨s0.toArray⟩) := (blk_cell hg o).trans (hcs 0 (by simp))
 have c1 : w.cell? ⟨g, o + 1, none⟩ = some (.string ⟨s1.toArray⟩) := (blk_cell hg (o + 1)).trans (hcs 1 (by simp))
 have c2 : w.cell? ⟨g, o + 2, none⟩ = some (.string ⟨s2.toArray⟩) := (blk_cell hg (o + 2)).trans (hcs 2 (by simp))
 have c3 : w.cell? ⟨g, o + 3, none⟩ = some (.string ⟨s3.toArray⟩) := (blk_cell hg (o + 3)).trans (hcs 3 (by simp))
 have i6 : w.cell? ⟨gi, 6, none⟩ = some (.int .u32 r.k) := (blk_cell hI 6).trans rfl
 have i7 : w.cell? ⟨gi, 7, none⟩ = some (.int .i64 r.q) := (blk_cell hI 7).trans rfl
 have f6 := blk_frozen hI 6
 have f7 := blk_frozen hI 7
 have hne' : g ≠ gi := fun e => hne e.symm
 have t0 : (s0 == [110, 101]) = true := beq_iff_eq.2 hs
 have t2 : (s2 == [101, 108, 115, 101]) = true := beq_iff_eq.2 hs2
 have hfin : waitF r [s0, s1, s2, s3] = ({ r with q := numF s3, k := 1, t := numF s1 }, []) := by simp [waitF, hs, hs2]
 rw [hfin]
 clear hfin
 replace hI := Aside0.mk hI
 replace hg := Aside0.mk hg
 replace hcs := Aside0.mk hcs
 replace hs := Aside0.mk hs
 replace hs2 := Aside0.mk hs2
 go_enter Tryz.func132, Tryz.ntmps132
 have hB1 := Aside0.mk ((hb0.setCell (p := ⟨gi, 7, none⟩) hgi (.int .i64 (-1))).setCell (p := ⟨gi, 6, none⟩) hgi (.int .u32 1))
 go_wp2_with fail
 refine (number_calls s1 _ hl1 (he.below hB1.out)).mono ?_
 rintro e w1 ⟨rfl, hb1⟩
 have hI1 := Aside0.mk (show w1.heap[gi]? = some (.cells (In.cs { r with q := -1, k := 1 }) 99 (0, 0)) from blk_keep hb1 (blk_set (blk_set (hI.out) 7 (.int .i64 (-1))) 6 (.int .u32 1)))
 have hg1 := Aside0.mk (blk_keep hb1 (blk_far (blk_far (hg.out) hne' _) hne' _))
 have hr1 := Aside0.mk (grown_below (grown_of_set (grown_of_set (grown_refl w (some gi)) 7 _) 6 _) hb1)
 have i31 : w1.cell? ⟨gi, 3, none⟩ = some (.int .i64 r.t) := (blk_cell hI1.out 3).trans rfl
 have f31 := blk_frozen hI1.out 3
 have d2 : w1.cell? ⟨g, o + 2, none⟩ = some (.string ⟨s2.toArray⟩) := (blk_cell hg1.out (o + 2)).trans (hcs.out 2 (by simp))
 have d3 : w1.cell? ⟨g, o + 3, none⟩ = some (.string ⟨s3.toArray⟩) := (blk_cell hg1.out (o + 3)).trans (hcs.out 3 (by simp))
 have hB2 := Aside0.mk ((hB1.out.trans (hb1.mono hB1.out.size)).setCell (p := ⟨gi, 3, none⟩) hgi (.int .i64 (numF s1)))
 go_wp2_with fail
 refine (number_calls s3 _ hl3 (he.below hB2.out)).mono ?_
 rintro e w2 ⟨rfl, hb2⟩
 have hI2 := Aside0.mk (show w2.heap[gi]? = some (.cells (In.cs { r with q := -1, k := 1, t := numF s1 }) 99 (0, 0)) from blk_keep hb2 (blk_set hI1.out 3 (.int .i64 (numF s1))))
 have hr2 := Aside0.mk (grown_below (grown_of_set hr1.out 3 _) hb2)
 have i72 : w2.cell? ⟨gi, 7, none⟩ = some (.int .i64 (-1)) := (blk_cell hI2.out 7).trans rfl
 have f72 := blk_frozen hI2.out 7
 go_wp2
 go_ret
 exact ⟨_, rfl, .inl ⟨rfl, _, rfl⟩, blk_set hI2.out 7 (.int .i64 (numF s3)), grown_of_set hr2.out 7 _⟩

set_option maxHeartbeats 1000000 in
set_option maxRecDepth 100000 in
theorem wait_4no (gi g o : Nat) (r : In) (s0 s1 s2 s3 : List UInt8) (cs : Array Value) (w0 w : World) (he : Env w0) (hb0 : Below w0.heap.size w0 w) (hgi : w0.heap.size ≤ gi) (hne : gi ≠ g) (hI : w.heap[gi]? = some (.cells r.cs 99 (0, 0))) (hs : s0 = [110, 101]) (hs2 : s2 ≠ [101, 108, 115, 101]) (hg : w.heap[g]? = some (.cells cs 9 (0, 0))) (hcs : ∀ j, j < [s0, s1, s2, s3].length → cs[o + j]? = some (.string ⟨([s0, s1, s2, s3].getD j []).toArray⟩)) (hl1 : s1.length ≤ 4294967280) (hl3 : s3.length ≤ 4294967280) :
  Calls Tryz.prog 132 #[.pointer (some ⟨gi, 0, none⟩), .slice (some ⟨g, o, none⟩) 4 4] w fun e w' =>
   ∃ v, e = .returned v ∧ StrSl w' v (waitF r [s0, s1, s2, s3]).2 ∧ w'.heap[gi]? = some (.cells (waitF r [s0, s1, s2, s3]).1.cs 99 (0, 0)) ∧ w.grownBy w' (some gi) := by
 have c0 : w.cell? ⟨g, o, none⟩ = some (.string ⟨s0.toArray⟩) := (blk_cell hg o).trans (hcs 0 (by simp))
 have c1 : w.cell? ⟨g, o + 1, none⟩ = some (.string ⟨s1.toArray⟩) := (blk_cell hg (o + 1)).trans (hcs 1 (by simp))
 have c2 : w.cell? ⟨g, o + 2, none⟩ = some (.string ⟨s2.toArray⟩) := (blk_cell hg (o + 2)).trans (hcs 2 (by simp))
 have c3 : w.cell? ⟨g, o + 3, none⟩ = some (.string ⟨s3.toArray⟩) := (blk_cell hg (o + 3)).trans (hcs 3 (by simp))
 have i6 : w.cell? ⟨gi, 6, none⟩ = some (.int .u32 r.k) := (blk_cell hI 6).trans rfl
 have i7 : w.cell? ⟨gi, 7, none⟩ = some (.int .i64 r.q) := (blk_cell hI 7).trans rfl
 have f6 := blk_frozen hI 6
 have f7 := blk_frozen hI 7
 have hne' : g ≠ gi := fun e => hne e.symm
 have t0 : (s0 == [110, 101]) = true := beq_iff_eq.2 hs
 have t2 : (s2 == [101, 108, 115, 101]) = false := beq_eq_false_iff_ne.2 hs2
 have hfin : waitF r [s0, s1, s2, s3] = ({ r with q := -1, k := 1, t := numF s1 }, [s2, s3]) := by simp [waitF, hs, hs2]
 rw [hfin]
 clear hfin
 replace hI := Aside0.mk hI
 replace hg := Aside0.mk hg
 replace hcs := Aside0.mk hcs
 replace hs := Aside0.mk hs
 replace hs2 := Aside0.mk hs2
 go_enter Tryz.func132, Tryz.ntmps132
 have hB1 := Aside0.mk ((hb0.setCell (p := ⟨gi, 7, none⟩) hgi (.int .i64 (-1))).setCell (p := ⟨gi, 6, none⟩) hgi (.int .u32 1))
 go_wp2_with fail
 refine (number_calls s1 _ hl1 (he.below hB1.out)).mono ?_
 rintro e w1 ⟨rfl, hb1⟩
 have hI1 := Aside0.mk (show w1.heap[gi]? = some (.cells (In.cs { r with q := -1, k := 1 }) 99 (0, 0)) from blk_keep hb1 (blk_set (blk_set (hI.out) 7 (.int .i64 (-1))) 6 (.int .u32 1)))
 have hg1 := Aside0.mk (blk_keep hb1 (blk_far (blk_far (hg.out) hne' _) hne' _))
 have hr1 := Aside0.mk (grown_below (grown_of_set (grown_of_set (grown_refl w (some gi)) 7 _) 6 _) hb1)
 have i31 : w1.cell? ⟨gi, 3, none⟩ = some (.int .i64 r.t) := (blk_cell hI1.out 3).trans rfl
 have f31 := blk_frozen hI1.out 3
 have d2 : w1.cell? ⟨g, o + 2, none⟩ = some (.string ⟨s2.toArray⟩) := (blk_cell hg1.out (o + 2)).trans (hcs.out 2 (by simp))
 have d3 : w1.cell? ⟨g, o + 3, none⟩ = some (.string ⟨s3.toArray⟩) := (blk_cell hg1.out (o + 3)).trans (hcs.out 3 (by simp))
 go_wp2
 go_ret
 exact ⟨_, rfl, .inr ⟨g, o + 2, rfl, _, blk_far hg1.out hne' _, fun j hj => by have := hcs.out (2 + j) (by simp at hj ⊢; omega); rw [← Nat.add_assoc] at this; simpa [Nat.add_comm 2 j] using this⟩, blk_set hI1.out 3 (.int .i64 (numF s1)), grown_of_set hr1.out 3 _⟩

set_option maxHeartbeats 1000000 in
set_option maxRecDepth 100000 in
theorem wait_4el (gi g o : Nat) (r : In) (s0 s1 s2 s3 : List UInt8) (cs : Array Value) (w0 w : World) (he : Env w0) (hb0 : Below w0.heap.size w0 w) (hgi : w0.heap.size ≤ gi) (hne : gi ≠ g) (hI : w.heap[gi]? = some (.cells r.cs 99 (0, 0))) (hs : s0 ≠ [110, 101]) (hs2 : s2 = [101, 108, 115, 101]) (hg : w.heap[g]? = some (.cells cs 9 (0, 0))) (hcs : ∀ j, j < [s0, s1, s2, s3].length → cs[o + j]? = some (.string ⟨([s0, s1, s2, s3].getD j []).toArray⟩)) (hl1 : s1.length ≤ 4294967280) (hl3 : s3.length ≤ 4294967280) :
  Calls Tryz.prog 132 #[.pointer (some ⟨gi, 0, none⟩), .slice (some ⟨g, o, none⟩) 4 4] w fun e w' =>
   ∃ v, e = .returned v ∧ StrSl w' v (waitF r [s0, s1, s2, s3]).2 ∧ w'.heap[gi]? = some (.cells (waitF r [s0, s1, s2, s3]).1.cs 99 (0, 0)) ∧ w.grownBy w' (some gi) := by
 have c0 : w.cell? ⟨g, o, none⟩ = some (.string ⟨s0.toArray⟩) := (blk_cell hg o).trans (hcs 0 (by simp))
 have c1 : w.cell? ⟨g, o + 1, none⟩ = some (.string ⟨s1.toArray⟩) := (blk_cell hg (o + 1)).trans (hcs 1 (by simp))
 have c2 : w.cell? ⟨g, o + 2, none⟩ = some (.string ⟨s2.toArray⟩) := (blk_cell hg (o + 2)).trans (hcs 2 (by simp))
 have c3 : w.cell? ⟨g, o + 3, none⟩ = some (.string ⟨s3.toArray⟩) := (blk_cell hg (o + 3)).trans (hcs 3 (by simp))
 have i6 : w.cell? ⟨gi, 6, none⟩ = some (.int .u32 r.k) := (blk_cell hI 6).trans rfl
 have i7 : w.cell? ⟨gi, 7, none⟩ = some (.int .i64 r.q) := (blk_cell hI 7).trans rfl
 have f6 := blk_frozen hI 6
 have f7 := blk_frozen hI 7
 have hne' : g ≠ gi := fun e => hne e.symm
 have t0 : (s0 == [110, 101]) = false := beq_eq_false_iff_ne.2 hs
 have t2 : (s2 == [101, 108, 115, 101]) = true := beq_iff_eq.2 hs2
 have hfin : waitF r [s0, s1, s2, s3] = ({ r with q := numF s3, t := numF s1 }, []) := by simp [waitF, hs, hs2]
 rw [hfin]
 clear hfin
 replace hI := Aside0.mk hI
 replace hg := Aside0.mk hg
 replace hcs := Aside0.mk hcs
 replace hs := Aside0.mk hs
 replace hs2 := Aside0.mk hs2
 go_enter Tryz.func132, Tryz.ntmps132
 have hB1 := Aside0.mk (hb0.setCell (p := ⟨gi, 7, none⟩) hgi (.int .i64 (-1)))
 go_wp2_with fail
 refine (number_calls s1 _ hl1 (he.below hB1.out)).mono ?_
 rintro e w1 ⟨rfl, hb1⟩
 have hI1 := Aside0.mk (show w1.heap[gi]? = some (.cells (In.cs { r with q := -1 }) 99 (0, 0)) from blk_keep hb1 (blk_set (hI.out) 7 (.int .i64 (-1))))
 have hg1 := Aside0.mk (blk_keep hb1 (blk_far (hg.out) hne' _))
 have hr1 := Aside0.mk (grown_below (grown_of_set (grown_refl w (some gi)) 7 _) hb1)
 have i31 : w1.cell? ⟨gi, 3, none⟩ = some (.int .i64 r.t) := (blk_cell hI1.out 3).trans rfl
 have f31 := blk_frozen hI1.out 3
 have d2 : w1.cell? ⟨g, o + 2, none⟩ = some (.string ⟨s2.toArray⟩) := (blk_cell hg1.out (o + 2)).trans (hcs.out 2 (by simp))
 have d3 : w1.cell? ⟨g, o + 3, none⟩ = some (.string ⟨s3.toArray⟩) := (blk_cell hg1.out (o + 3)).trans (hcs.out 3 (by simp))
 have hB2 := Aside0.mk ((hB1.out.trans (hb1.mono hB1.out.size)).setCell (p := ⟨gi, 3, none⟩) hgi (.int .i64 (numF s1)))
 go_wp2_with fail
 refine (number_calls s3 _ hl3 (he.below hB2.out)).mono ?_
 rintro e w2 ⟨rfl, hb2⟩
 have hI2 := Aside0.mk (show w2.heap[gi]? = some (.cells (In.cs { r with q := -1, t := numF s1 }) 99 (0, 0)) from blk_keep hb2 (blk_set hI1.out 3 (.int .i64 (numF s1))))
 have hr2 := Aside0.mk (grown_below (grown_of_set hr1.out 3 _) hb2)
 have i72 : w2.cell? ⟨gi, 7, none⟩ = some (.int .i64 (-1)) := (blk_cell hI2.out 7).trans rfl
 have f72 := blk_frozen hI2.out 7
 go_wp2
 go_ret
 exact ⟨_, rfl, .inl ⟨rfl, _, rfl⟩, blk_set hI2.out 7 (.int .i64 (numF s3)), grown_of_set hr2.out 7 _⟩

set_option maxHeartbeats 1000000 in
set_option maxRecDepth 100000 in
theorem wait_4eo (gi g o : Nat) (r : In) (s0 s1 s2 s3 : List UInt8) (cs : Array Value) (w0 w : World) (he : Env w0) (hb0 : Below w0.heap.size w0 w) (hgi : w0.heap.size ≤ gi) (hne : gi ≠ g) (hI : w.heap[gi]? = some (.cells r.cs 99 (0, 0))) (hs : s0 ≠ [110, 101]) (hs2 : s2 ≠ [101, 108, 115, 101]) (hg : w.heap[g]? = some (.cells cs 9 (0, 0))) (hcs : ∀ j, j < [s0, s1, s2, s3].length → cs[o + j]? = some (.string ⟨([s0, s1, s2, s3].getD j []).toArray⟩)) (hl1 : s1.length ≤ 4294967280) (hl3 : s3.length ≤ 4294967280) :
  Calls Tryz.prog 132 #[.pointer (some ⟨gi, 0, none⟩), .slice (some ⟨g, o, none⟩) 4 4] w fun e w' =>
   ∃ v, e = .returned v ∧ StrSl w' v (waitF r [s0, s1, s2, s3]).2 ∧ w'.heap[gi]? = some (.cells (waitF r [s0, s1, s2, s3]).1.cs 99 (0, 0)) ∧ w.grownBy w' (some gi) := by
 have c0 : w.cell? ⟨g, o, none⟩ = some (.string ⟨s0.toArray⟩) := (blk_cell hg o).trans (hcs 0 (by simp))
 have c1 : w.cell? ⟨g, o + 1, none⟩ = some (.string ⟨s1.toArray⟩) := (blk_cell hg (o + 1)).trans (hcs 1 (by simp))
 have c2 : w.cell? ⟨g, o + 2, none⟩ = some (.string ⟨s2.toArray⟩) := (blk_cell hg (o + 2)).trans (hcs 2 (by simp))
 have c3 : w.cell? ⟨g, o + 3, none⟩ = some (.string ⟨s3.toArray⟩) := (blk_cell hg (o + 3)).trans (hcs 3 (by simp))
 have i6 : w.cell? ⟨gi, 6, none⟩ = some (.int .u32 r.k) := (blk_cell hI 6).trans rfl
 have i7 : w.cell? ⟨gi, 7, none⟩ = some (.int .i64 r.q) := (blk_cell hI 7).trans rfl
 have f6 := blk_frozen hI 6
 have f7 := blk_frozen hI 7
 have hne' : g ≠ gi := fun e => hne e.symm
 have t0 : (s0 == [110, 101]) = false := beq_eq_false_iff_ne.2 hs
 have t2 : (s2 == [101, 108, 115, 101]) = false := beq_eq_false_iff_ne.2 hs2
 have hfin : waitF r [s0, s1, s2, s3] = ({ r with q := -1, t := numF s1 }, [s2, s3]) := by simp [waitF, hs, hs2]
 rw [hfin]
 clear hfin
 replace hI := Aside0.mk hI
 replace hg := Aside0.mk hg
 replace hcs := Aside0.mk hcs
 replace hs := Aside0.mk hs
 replace hs2 := Aside0.mk hs2
 go_enter Tryz.func132, Tryz.ntmps132
 have hB1 := Aside0.mk (hb0.setCell (p := ⟨gi, 7, none⟩) hgi (.int .i64 (-1)))
 go_wp2_with fail
 refine (number_calls s1 _ hl1 (he.below hB1.out)).mono ?_
 rintro e w1 ⟨rfl, hb1⟩
 have hI1 := Aside0.mk (show w1.heap[gi]? = some (.cells (In.cs { r with q := -1 }) 99 (0, 0)) from blk_keep hb1 (blk_set (hI.out) 7 (.int .i64 (-1))))
 have hg1 := Aside0.mk (blk_keep hb1 (blk_far (hg.out) hne' _))
 have hr1 := Aside0.mk (grown_below (grown_of_set (grown_refl w (some gi)) 7 _) hb1)
 have i31 : w1.cell? ⟨gi, 3, none⟩ = some (.int .i64 r.t) := (blk_cell hI1.out 3).trans rfl
 have f31 := blk_frozen hI1.out 3
 have d2 : w1.cell? ⟨g, o + 2, none⟩ = some (.string ⟨s2.toArray⟩) := (blk_cell hg1.out (o + 2)).trans (hcs.out 2 (by simp))
 have d3 : w1.cell? ⟨g, o + 3, none⟩ = some (.string ⟨s3.toArray⟩) := (blk_cell hg1.out (o + 3)).trans (hcs.out 3 (by simp))
 go_wp2
 go_ret
 exact ⟨_, rfl, .inr ⟨g, o + 2, rfl, _, blk_far hg1.out hne' _, fun j hj => by have := hcs.out (2 + j) (by simp at hj ⊢; omega); rw [← Nat.add_assoc] at this; simpa [Nat.add_comm 2 j] using this⟩, blk_set hI1.out 3 (.int .i64 (numF s1)), grown_of_set hr1.out 3 _⟩

set_option maxHeartbeats 1000000 in
set_option maxRecDepth 100000 in
theorem wait_5n (gi g o : Nat) (r : In) (s0 s1 s2 s3 s4 : List UInt8) (cs : Array Value) (w0 w : World) (he : Env w0) (hb0 : Below w0.heap.size w0 w) (hgi : w0.heap.size ≤ gi) (hne : gi ≠ g) (hI : w.heap[gi]? = some (.cells r.cs 99 (0, 0))) (hs : s0 = [110, 101]) (rest : List (List UInt8)) (hrl : rest.length ≤ 200000) (hg : w.heap[g]? = some (.cells cs 9 (0, 0))) (hcs : ∀ j, j < (s0 :: s1 :: s2 :: s3 :: s4 :: rest).length → cs[o + j]? = some (.string ⟨((s0 :: s1 :: s2 :: s3 :: s4 :: rest).getD j []).toArray⟩)) (hl1 : s1.length ≤ 4294967280) :
  Calls Tryz.prog 132 #[.pointer (some ⟨gi, 0, none⟩), .slice (some ⟨g, o, none⟩) (rest.length + 1 + 1 + 1 + 1 + 1) (rest.length + 1 + 1 + 1 + 1 + 1)] w fun e w' =>
   ∃ v, e = .returned v ∧ StrSl w' v (waitF r (s0 :: s1 :: s2 :: s3 :: s4 :: rest)).2 ∧ w'.heap[gi]? = some (.cells (waitF r (s0 :: s1 :: s2 :: s3 :: s4 :: rest)).1.cs 99 (0, 0)) ∧ w.grownBy w' (some gi) := by
 have c0 : w.cell? ⟨g, o, none⟩ = some (.string ⟨s0.toArray⟩) := (blk_cell hg o).trans (hcs 0 (by simp))
 have c1 : w.cell? ⟨g, o + 1, none⟩ = some (.string ⟨s1.toArray⟩) := (blk_cell hg (o + 1)).trans (hcs 1 (by simp))
 have c2 : w.cell? ⟨g, o + 2, none⟩ = some (.string ⟨s2.toArray⟩) := (blk_cell hg (o + 2)).trans (hcs 2 (by simp))
 have c3 : w.cell? ⟨g, o + 3, none⟩ = some (.string ⟨s3.toArray⟩) := (blk_cell hg (o + 3)).trans (hcs 3 (by simp))
 have i6 : w.cell? ⟨gi, 6, none⟩ = some (.int .u32 r.k) := (blk_cell hI 6).trans rfl
 have i7 : w.cell? ⟨gi, 7, none⟩ = some (.int .i64 r.q) := (blk_cell hI 7).trans rfl
 have f6 := blk_frozen hI 6
 have f7 := blk_frozen hI 7
 have hne' : g ≠ gi := fun e => hne e.symm
 have t0 : (s0 == [110, 101]) = true := beq_iff_eq.2 hs
 have hfin : waitF r (s0 :: s1 :: s2 :: s3 :: s4 :: rest) = ({ r with q := -1, k := 1, t := numF s1 }, s2 :: s3 :: s4 :: rest) := by simp [waitF, hs]
 rw [hfin]
 clear hfin
 have hmin : (min 2 ((rest.length : Int) + 1 + 1 + 1 + 1 + 1)) = 2 := by omega
 replace hI := Aside0.mk hI
 replace hg := Aside0.mk hg
 replace hcs := Aside0.mk hcs
 replace hs := Aside0.mk hs
 go_enter Tryz.func132, Tryz.ntmps132
 have hB1 := Aside0.mk ((hb0.setCell (p := ⟨gi, 7, none⟩) hgi (.int .i64 (-1))).setCell (p := ⟨gi, 6, none⟩) hgi (.int .u32 1))
 go_wp2_with fail
 refine (number_calls s1 _ hl1 (he.below hB1.out)).mono ?_
 rintro e w1 ⟨rfl, hb1⟩
 have hI1 := Aside0.mk (show w1.heap[gi]? = some (.cells (In.cs { r with q := -1, k := 1 }) 99 (0, 0)) from blk_keep hb1 (blk_set (blk_set (hI.out) 7 (.int .i64 (-1))) 6 (.int .u32 1)))
 have hg1 := Aside0.mk (blk_keep hb1 (blk_far (blk_far (hg.out) hne' _) hne' _))
 have hr1 := Aside0.mk (grown_below (grown_of_set (grown_of_set (grown_refl w (some gi)) 7 _) 6 _) hb1)
 have i31 : w1.cell? ⟨gi, 3, none⟩ = some (.int .i64 r.t) := (blk_cell hI1.out 3).trans rfl
 have f31 := blk_frozen hI1.out 3
 go_wp2
 go_ret
 exact ⟨_, rfl, .inr ⟨g, o + 2, rfl, _, blk_far hg1.out hne' _, fun j hj => by have := hcs.out (2 + j) (by simp at hj ⊢; omega); rw [← Nat.add_assoc] at this; simpa [Nat.add_comm 2 j] using this⟩, blk_set hI1.out 3 (.int .i64 (numF s1)), grown_of_set hr1.out 3 _⟩

set_option maxHeartbeats 1000000 in
set_option maxRecDepth 100000 in
theorem wait_5e (gi g o : Nat) (r : In) (s0 s1 s2 s3 s4 : List UInt8) (cs : Array Value) (w0 w : World) (he : Env w0) (hb0 : Below w0.heap.size w0 w) (hgi : w0.heap.size ≤ gi) (hne : gi ≠ g) (hI : w.heap[gi]? = some (.cells r.cs 99 (0, 0))) (hs : s0 ≠ [110, 101]) (rest : List (List UInt8)) (hrl : rest.length ≤ 200000) (hg : w.heap[g]? = some (.cells cs 9 (0, 0))) (hcs : ∀ j, j < (s0 :: s1 :: s2 :: s3 :: s4 :: rest).length → cs[o + j]? = some (.string ⟨((s0 :: s1 :: s2 :: s3 :: s4 :: rest).getD j []).toArray⟩)) (hl1 : s1.length ≤ 4294967280) :
  Calls Tryz.prog 132 #[.pointer (some ⟨gi, 0, none⟩), .slice (some ⟨g, o, none⟩) (rest.length + 1 + 1 + 1 + 1 + 1) (rest.length + 1 + 1 + 1 + 1 + 1)] w fun e w' =>
   ∃ v, e = .returned v ∧ StrSl w' v (waitF r (s0 :: s1 :: s2 :: s3 :: s4 :: rest)).2 ∧ w'.heap[gi]? = some (.cells (waitF r (s0 :: s1 :: s2 :: s3 :: s4 :: rest)).1.cs 99 (0, 0)) ∧ w.grownBy w' (some gi) := by
 have c0 : w.cell? ⟨g, o, none⟩ = some (.string ⟨s0.toArray⟩) := (blk_cell hg o).trans (hcs 0 (by simp))
 have c1 : w.cell? ⟨g, o + 1, none⟩ = some (.string ⟨s1.toArray⟩) := (blk_cell hg (o + 1)).trans (hcs 1 (by simp))
 have c2 : w.cell? ⟨g, o + 2, none⟩ = some (.string ⟨s2.toArray⟩) := (blk_cell hg (o + 2)).trans (hcs 2 (by simp))
 have c3 : w.cell? ⟨g, o + 3, none⟩ = some (.string ⟨s3.toArray⟩) := (blk_cell hg (o + 3)).trans (hcs 3 (by simp))
 have i6 : w.cell? ⟨gi, 6, none⟩ = some (.int .u32 r.k) := (blk_cell hI 6).trans rfl
 have i7 : w.cell? ⟨gi, 7, none⟩ = some (.int .i64 r.q) := (blk_cell hI 7).trans rfl
 have f6 := blk_frozen hI 6
 have f7 := blk_frozen hI 7
 have hne' : g ≠ gi := fun e => hne e.symm
 have t0 : (s0 == [110, 101]) = false := beq_eq_false_iff_ne.2 hs
 have hfin : waitF r (s0 :: s1 :: s2 :: s3 :: s4 :: rest) = ({ r with q := -1, t := numF s1 }, s2 :: s3 :: s4 :: rest) := by simp [waitF, hs]
 rw [hfin]
 clear hfin
 have hmin : (min 2 ((rest.length : Int) + 1 + 1 + 1 + 1 + 1)) = 2 := by omega
 replace hI := Aside0.mk hI
 replace hg := Aside0.mk hg
 replace hcs := Aside0.mk hcs
 replace hs := Aside0.mk hs
 go_enter Tryz.func132, Tryz.ntmps132
 have hB1 := Aside0.mk (hb0.setCell (p := ⟨gi, 7, none⟩) hgi (.int .i64 (-1)))
 go_wp2_with fail
 refine (number_calls s1 _ hl1 (he.below hB1.out)).mono ?_
 rintro e w1 ⟨rfl, hb1⟩
 have hI1 := Aside0.mk (show w1.heap[gi]? = some (.cells (In.cs { r with q := -1 }) 99 (0, 0)) from blk_keep hb1 (blk_set (hI.out) 7 (.int .i64 (-1))))
 have hg1 := Aside0.mk (blk_keep hb1 (blk_far (hg.out) hne' _))
 have hr1 := Aside0.mk (grown_below (grown_of_set (grown_refl w (some gi)) 7 _) hb1)
 have i31 : w1.cell? ⟨gi, 3, none⟩ = some (.int .i64 r.t) := (blk_cell hI1.out 3).trans rfl
 have f31 := blk_frozen hI1.out 3
 go_wp2
 go_ret
 exact ⟨_, rfl, .inr ⟨g, o + 2, rfl, _, blk_far hg1.out hne' _, fun j hj => by have := hcs.out (2 + j) (by simp at hj ⊢; omega); rw [← Nat.add_assoc] at this; simpa [Nat.add_comm 2 j] using this⟩, blk_set hI1.out 3 (.int .i64 (numF s1)), grown_of_set hr1.out 3 _⟩

/-- wait, whatever words there are. -/
theorem wait_calls (gi g o : Nat) (r : In) (ss : List (List UInt8)) (cs : Array Value) (w0 w : World) (he : Env w0) (hb0 : Below w0.heap.size w0 w) (hgi : w0.heap.size ≤ gi) (hne : gi ≠ g) (hI : w.heap[gi]? = some (.cells r.cs 99 (0, 0)))
  (hss : ss ≠ []) (hl : ∀ s ∈ ss, s.length ≤ 4294967280) (hn : ss.length ≤ 200000) (hg : w.heap[g]? = some (.cells cs 9 (0, 0))) (hcs : ∀ j, j < ss.length → cs[o + j]? = some (.string ⟨(ss.getD j []).toArray⟩)) :
  Calls Tryz.prog 132 #[.pointer (some ⟨gi, 0, none⟩), .slice (some ⟨g, o, none⟩) ss.length ss.length] w fun e w' =>
   ∃ v, e = .returned v ∧ StrSl w' v (waitF r ss).2 ∧ w'.heap[gi]? = some (.cells (waitF r ss).1.cs 99 (0, 0)) ∧ w.grownBy w' (some gi) := by
 match ss, hss, hl, hn, hcs with
 | [s0], _, hl, hn, hcs =>
  by_cases h : s0 = [110, 101]
  ·exact wait_1n gi g o r s0 cs w0 w he hb0 hgi hne hI h hg hcs
  ·exact wait_1e gi g o r s0 cs w0 w he hb0 hgi hne hI h hg hcs
 | [s0, s1], _, hl, hn, hcs =>
  have h1 := hl s1 (by simp)
  by_cases h : s0 = [110, 101]
  ·exact wait_2n gi g o r s0 s1 cs w0 w he hb0 hgi hne hI h hg hcs h1
  ·exact wait_2e gi g o r s0 s1 cs w0 w he hb0 hgi hne hI h hg hcs h1
 | [s0, s1, s2], _, hl, hn, hcs =>
  have h1 := hl s1 (by simp)
  by_cases h : s0 = [110, 101]
  ·exact wait_3n gi g o r s0 s1 s2 cs w0 w he hb0 hgi hne hI h hg hcs h1
  ·exact wait_3e gi g o r s0 s1 s2 cs w0 w he hb0 hgi hne hI h hg hcs h1
 | [s0, s1, s2, s3], _, hl, hn, hcs =>
  have h1 := hl s1 (by simp)
  have h3 := hl s3 (by simp)
  by_cases h2 : s2 = [101, 108, 115, 101]
  ·by_cases h : s0 = [110, 101]
   ·exact wait_4nl gi g o r s0 s1 s2 s3 cs w0 w he hb0 hgi hne hI h h2 hg hcs h1 h3
   ·exact wait_4el gi g o r s0 s1 s2 s3 cs w0 w he hb0 hgi hne hI h h2 hg hcs h1 h3
  ·by_cases h : s0 = [110, 101]
   ·exact wait_4no gi g o r s0 s1 s2 s3 cs w0 w he hb0 hgi hne hI h h2 hg hcs h1 h3
   ·exact wait_4eo gi g o r s0 s1 s2 s3 cs w0 w he hb0 hgi hne hI h h2 hg hcs h1 h3
 | s0 :: s1 :: s2 :: s3 :: s4 :: rest, _, hl, hn, hcs =>
  have h1 := hl s1 (by simp)
  have hr : rest.length ≤ 200000 := by simp at hn; omega
  by_cases h : s0 = [110, 101]
  ·exact wait_5n gi g o r s0 s1 s2 s3 s4 cs w0 w he hb0 hgi hne hI h rest hr hg hcs h1
  ·exact wait_5e gi g o r s0 s1 s2 s3 s4 cs w0 w he hb0 hgi hne hI h rest hr hg hcs h1
end Go.Proofs.YtbhpkeiofajbpaaGreatDoor

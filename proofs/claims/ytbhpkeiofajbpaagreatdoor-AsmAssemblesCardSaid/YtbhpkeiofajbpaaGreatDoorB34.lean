/- Parts: RefRightC, RefRightD. -/
import Derived.Test.YtbhpkeiofajbpaaGreatDoorB31
import Derived.Test.YtbhpkeiofajbpaaGreatDoorB26
import Derived.Test.YtbhpkeiofajbpaaGreatDoorB05
import Derived.RegionTactic
import Derived.BigRegion
import Derived.Deep.RegionHeld3
/- ropelineref06.Right, where all registers and the area are such: for the instructions load, store, swap, fadd. -/
section
namespace Go.Proofs.YtbhpkeiofajbpaaGreatDoor
open Go.RowKit Go.Proofs.YtbhpkeiofajbpaaGreatDoorW.PrintWords
set_option linter.unusedVariables false
set_option linter.unusedSimpArgs false
set_option maxHeartbeats 1000000 in
set_option maxRecDepth 100000 in
theorem refright_16 (d s t u a k q places : Int) (w : World) (hd : 0 ≤ d ∧ d ≤ 7) (hs : 0 ≤ s ∧ s ≤ 7) (ht : 0 ≤ t ∧ t ≤ 7) (hu : 0 ≤ u ∧ u ≤ 7) (ha : 0 ≤ a ∧ a ≤ 7) (hk : 0 ≤ k ∧ k ≤ 4294967295) :
  Calls Tryz.prog 69 #[.agg #[.int .i64 16, .int .i64 d, .int .i64 s, .int .i64 t, .int .i64 u, .int .i64 a, .int .u32 k, .int .i64 q], .int .i64 places] w fun e w' => e = .returned (.bool (rightF ⟨16, d, s, t, u, a, k, q⟩ places)) ∧ Below w.heap.size w w' := by
 rw [rightF_16 d s t u a k q places hd hs ht hu ha hk]
 have keq : ∀ W, (binOp .eql 114 (.agg #[.int .i64 16, .int .i64 d, .int .i64 s, .int .i64 0, .int .i64 0, .int .i64 a, .int .u32 0, .int .i64 0]) (.agg #[.int .i64 16, .int .i64 d, .int .i64 s, .int .i64 t, .int .i64 u, .int .i64 a, .int .u32 k, .int .i64 q])).run Tryz.prog W = .ok (.bool (decide ((⟨16, d, s, 0, 0, a, 0, 0⟩ : In) = ⟨16, d, s, t, u, a, k, q⟩))) W := fun W => eql_r ⟨16, d, s, 0, 0, a, 0, 0⟩ ⟨16, d, s, t, u, a, k, q⟩ W
 generalize decide ((⟨16, d, s, 0, 0, a, 0, 0⟩ : In) = ⟨16, d, s, t, u, a, k, q⟩) = cmp at keq ⊢
 generalize hfin : (cmp) = fin
 replace hfin := Aside0.mk hfin
 go_enter Tryz.func69, Tryz.ntmps69
 go_wp2_with fail
 refine (name_calls 16 _).mono ?_
 rintro e w1 ⟨rfl, hb⟩
 have BK := Aside0.mk (blk_keep hb (blk_new w _))
 have z : w.heap.size < w1.heap.size := blk_lt BK.out
 have hbe : Below w.heap.size w w1 := ((Below.refl w.heap.size w).alloc (Nat.le_refl _) _).trans (hb.mono (by simp))
 replace hbe := Aside0.mk hbe
 have c0 : w1.cell? ⟨w.heap.size, 0, none⟩ = some (.int .i64 16) := (blk_cell BK.out 0).trans rfl
 have c1 : w1.cell? ⟨w.heap.size, 1, none⟩ = some (.int .i64 d) := (blk_cell BK.out 1).trans rfl
 have c2 : w1.cell? ⟨w.heap.size, 2, none⟩ = some (.int .i64 s) := (blk_cell BK.out 2).trans rfl
 have c3 : w1.cell? ⟨w.heap.size, 3, none⟩ = some (.int .i64 t) := (blk_cell BK.out 3).trans rfl
 have c4 : w1.cell? ⟨w.heap.size, 4, none⟩ = some (.int .i64 u) := (blk_cell BK.out 4).trans rfl
 have c5 : w1.cell? ⟨w.heap.size, 5, none⟩ = some (.int .i64 a) := (blk_cell BK.out 5).trans rfl
 have c6 : w1.cell? ⟨w.heap.size, 6, none⟩ = some (.int .u32 k) := (blk_cell BK.out 6).trans rfl
 have c7 : w1.cell? ⟨w.heap.size, 7, none⟩ = some (.int .i64 q) := (blk_cell BK.out 7).trans rfl
 rw [show opName 16 = [108, 111, 97, 100] from rfl]
 go_wp2_with fail
 refine (reg_yes d hd _).mono ?_
 rintro e w' ⟨rfl, rfl⟩
 go_wp2_with fail
 refine (reg_yes s hs _).mono ?_
 rintro e w' ⟨rfl, rfl⟩
 go_wp2_with fail
 refine (reg_yes t ht _).mono ?_
 rintro e w' ⟨rfl, rfl⟩
 go_wp2_with fail
 refine (reg_yes u hu _).mono ?_
 rintro e w' ⟨rfl, rfl⟩
 go_wp2_with fail
 refine (reg_yes a ha _).mono ?_
 rintro e w' ⟨rfl, rfl⟩
 go_wp2_with fail
 go_region_held3 (fun W => W.cell? ⟨w.heap.size, 1, none⟩ = some (.int .i64 d) ∧ W.cell? ⟨w.heap.size, 5, none⟩ = some (.int .i64 a) ∧ W.cell? ⟨w.heap.size, 2, none⟩ = some (.int .i64 s)) (go_keep) (fail)
 cases cmp with
 | false =>
  go_wp2
  go_ret
  refine ⟨congrArg (fun b => Ending.returned (.bool b)) (show false = fin from ?_), ?_⟩
  ·first | (rw [← hfin.out]; done) | (rw [← hfin.out]; simp)
  ·apply_rules [below_drew, Below.setCell, Below.alloc, hbe.out] <;> first | omega | (simp; omega)
 | true =>
  go_wp2
  go_ret
  refine ⟨congrArg (fun b => Ending.returned (.bool b)) (show true = fin from ?_), ?_⟩
  ·first | (rw [← hfin.out]; done) | (rw [← hfin.out]; simp)
  ·apply_rules [below_drew, Below.setCell, Below.alloc, hbe.out] <;> first | omega | (simp; omega)

set_option maxHeartbeats 1000000 in
set_option maxRecDepth 100000 in
theorem refright_17 (d s t u a k q places : Int) (w : World) (hd : 0 ≤ d ∧ d ≤ 7) (hs : 0 ≤ s ∧ s ≤ 7) (ht : 0 ≤ t ∧ t ≤ 7) (hu : 0 ≤ u ∧ u ≤ 7) (ha : 0 ≤ a ∧ a ≤ 7) (hk : 0 ≤ k ∧ k ≤ 4294967295) :
  Calls Tryz.prog 69 #[.agg #[.int .i64 17, .int .i64 d, .int .i64 s, .int .i64 t, .int .i64 u, .int .i64 a, .int .u32 k, .int .i64 q], .int .i64 places] w fun e w' => e = .returned (.bool (rightF ⟨17, d, s, t, u, a, k, q⟩ places)) ∧ Below w.heap.size w w' := by
 rw [rightF_17 d s t u a k q places hd hs ht hu ha hk]
 have keq : ∀ W, (binOp .eql 114 (.agg #[.int .i64 17, .int .i64 0, .int .i64 s, .int .i64 t, .int .i64 0, .int .i64 a, .int .u32 0, .int .i64 0]) (.agg #[.int .i64 17, .int .i64 d, .int .i64 s, .int .i64 t, .int .i64 u, .int .i64 a, .int .u32 k, .int .i64 q])).run Tryz.prog W = .ok (.bool (decide ((⟨17, 0, s, t, 0, a, 0, 0⟩ : In) = ⟨17, d, s, t, u, a, k, q⟩))) W := fun W => eql_r ⟨17, 0, s, t, 0, a, 0, 0⟩ ⟨17, d, s, t, u, a, k, q⟩ W
 generalize decide ((⟨17, 0, s, t, 0, a, 0, 0⟩ : In) = ⟨17, d, s, t, u, a, k, q⟩) = cmp at keq ⊢
 generalize hfin : (cmp) = fin
 replace hfin := Aside0.mk hfin
 go_enter Tryz.func69, Tryz.ntmps69
 go_wp2_with fail
 refine (name_calls 17 _).mono ?_
 rintro e w1 ⟨rfl, hb⟩
 have BK := Aside0.mk (blk_keep hb (blk_new w _))
 have z : w.heap.size < w1.heap.size := blk_lt BK.out
 have hbe : Below w.heap.size w w1 := ((Below.refl w.heap.size w).alloc (Nat.le_refl _) _).trans (hb.mono (by simp))
 replace hbe := Aside0.mk hbe
 have c0 : w1.cell? ⟨w.heap.size, 0, none⟩ = some (.int .i64 17) := (blk_cell BK.out 0).trans rfl
 have c1 : w1.cell? ⟨w.heap.size, 1, none⟩ = some (.int .i64 d) := (blk_cell BK.out 1).trans rfl
 have c2 : w1.cell? ⟨w.heap.size, 2, none⟩ = some (.int .i64 s) := (blk_cell BK.out 2).trans rfl
 have c3 : w1.cell? ⟨w.heap.size, 3, none⟩ = some (.int .i64 t) := (blk_cell BK.out 3).trans rfl
 have c4 : w1.cell? ⟨w.heap.size, 4, none⟩ = some (.int .i64 u) := (blk_cell BK.out 4).trans rfl
 have c5 : w1.cell? ⟨w.heap.size, 5, none⟩ = some (.int .i64 a) := (blk_cell BK.out 5).trans rfl
 have c6 : w1.cell? ⟨w.heap.size, 6, none⟩ = some (.int .u32 k) := (blk_cell BK.out 6).trans rfl
 have c7 : w1.cell? ⟨w.heap.size, 7, none⟩ = some (.int .i64 q) := (blk_cell BK.out 7).trans rfl
 rw [show opName 17 = [115, 116, 111, 114, 101] from rfl]
 go_wp2_with fail
 refine (reg_yes d hd _).mono ?_
 rintro e w' ⟨rfl, rfl⟩
 go_wp2_with fail
 refine (reg_yes s hs _).mono ?_
 rintro e w' ⟨rfl, rfl⟩
 go_wp2_with fail
 refine (reg_yes t ht _).mono ?_
 rintro e w' ⟨rfl, rfl⟩
 go_wp2_with fail
 refine (reg_yes u hu _).mono ?_
 rintro e w' ⟨rfl, rfl⟩
 go_wp2_with fail
 refine (reg_yes a ha _).mono ?_
 rintro e w' ⟨rfl, rfl⟩
 go_wp2_with fail
 go_region_held3 (fun W => W.cell? ⟨w.heap.size, 5, none⟩ = some (.int .i64 a) ∧ W.cell? ⟨w.heap.size, 2, none⟩ = some (.int .i64 s) ∧ W.cell? ⟨w.heap.size, 3, none⟩ = some (.int .i64 t)) (go_keep) (fail)
 cases cmp with
 | false =>
  go_wp2
  go_ret
  refine ⟨congrArg (fun b => Ending.returned (.bool b)) (show false = fin from ?_), ?_⟩
  ·first | (rw [← hfin.out]; done) | (rw [← hfin.out]; simp)
  ·apply_rules [below_drew, Below.setCell, Below.alloc, hbe.out] <;> first | omega | (simp; omega)
 | true =>
  go_wp2
  go_ret
  refine ⟨congrArg (fun b => Ending.returned (.bool b)) (show true = fin from ?_), ?_⟩
  ·first | (rw [← hfin.out]; done) | (rw [← hfin.out]; simp)
  ·apply_rules [below_drew, Below.setCell, Below.alloc, hbe.out] <;> first | omega | (simp; omega)

set_option maxHeartbeats 1000000 in
set_option maxRecDepth 100000 in
theorem refright_18 (d s t u a k q places : Int) (w : World) (hd : 0 ≤ d ∧ d ≤ 7) (hs : 0 ≤ s ∧ s ≤ 7) (ht : 0 ≤ t ∧ t ≤ 7) (hu : 0 ≤ u ∧ u ≤ 7) (ha : 0 ≤ a ∧ a ≤ 7) (hk : 0 ≤ k ∧ k ≤ 4294967295) :
  Calls Tryz.prog 69 #[.agg #[.int .i64 18, .int .i64 d, .int .i64 s, .int .i64 t, .int .i64 u, .int .i64 a, .int .u32 k, .int .i64 q], .int .i64 places] w fun e w' => e = .returned (.bool (rightF ⟨18, d, s, t, u, a, k, q⟩ places)) ∧ Below w.heap.size w w' := by
 rw [rightF_18 d s t u a k q places hd hs ht hu ha hk]
 have keq : ∀ W, (binOp .eql 114 (.agg #[.int .i64 18, .int .i64 d, .int .i64 s, .int .i64 t, .int .i64 0, .int .i64 a, .int .u32 0, .int .i64 0]) (.agg #[.int .i64 18, .int .i64 d, .int .i64 s, .int .i64 t, .int .i64 u, .int .i64 a, .int .u32 k, .int .i64 q])).run Tryz.prog W = .ok (.bool (decide ((⟨18, d, s, t, 0, a, 0, 0⟩ : In) = ⟨18, d, s, t, u, a, k, q⟩))) W := fun W => eql_r ⟨18, d, s, t, 0, a, 0, 0⟩ ⟨18, d, s, t, u, a, k, q⟩ W
 generalize decide ((⟨18, d, s, t, 0, a, 0, 0⟩ : In) = ⟨18, d, s, t, u, a, k, q⟩) = cmp at keq ⊢
 generalize hfin : (cmp) = fin
 replace hfin := Aside0.mk hfin
 go_enter Tryz.func69, Tryz.ntmps69
 go_wp2_with fail
 refine (name_calls 18 _).mono ?_
 rintro e w1 ⟨rfl, hb⟩
 have BK := Aside0.mk (blk_keep hb (blk_new w _))
 have z : w.heap.size < w1.heap.size := blk_lt BK.out
 have hbe : Below w.heap.size w w1 := ((Below.refl w.heap.size w).alloc (Nat.le_refl _) _).trans (hb.mono (by simp))
 replace hbe := Aside0.mk hbe
 have c0 : w1.cell? ⟨w.heap.size, 0, none⟩ = some (.int .i64 18) := (blk_cell BK.out 0).trans rfl
 have c1 : w1.cell? ⟨w.heap.size, 1, none⟩ = some (.int .i64 d) := (blk_cell BK.out 1).trans rfl
 have c2 : w1.cell? ⟨w.heap.size, 2, none⟩ = some (.int .i64 s) := (blk_cell BK.out 2).trans rfl
 have c3 : w1.cell? ⟨w.heap.size, 3, none⟩ = some (.int .i64 t) := (blk_cell BK.out 3).trans rfl
 have c4 : w1.cell? ⟨w.heap.size, 4, none⟩ = some (.int .i64 u) := (blk_cell BK.out 4).trans rfl
 have c5 : w1.cell? ⟨w.heap.size, 5, none⟩ = some (.int .i64 a) := (blk_cell BK.out 5).trans rfl
 have c6 : w1.cell? ⟨w.heap.size, 6, none⟩ = some (.int .u32 k) := (blk_cell BK.out 6).trans rfl
 have c7 : w1.cell? ⟨w.heap.size, 7, none⟩ = some (.int .i64 q) := (blk_cell BK.out 7).trans rfl
 rw [show opName 18 = [115, 119, 97, 112] from rfl]
 go_wp2_with fail
 refine (reg_yes d hd _).mono ?_
 rintro e w' ⟨rfl, rfl⟩
 go_wp2_with fail
 refine (reg_yes s hs _).mono ?_
 rintro e w' ⟨rfl, rfl⟩
 go_wp2_with fail
 refine (reg_yes t ht _).mono ?_
 rintro e w' ⟨rfl, rfl⟩
 go_wp2_with fail
 refine (reg_yes u hu _).mono ?_
 rintro e w' ⟨rfl, rfl⟩
 go_wp2_with fail
 refine (reg_yes a ha _).mono ?_
 rintro e w' ⟨rfl, rfl⟩
 go_wp2_with fail
 go_region_held3 (fun W => W.cell? ⟨w.heap.size, 1, none⟩ = some (.int .i64 d) ∧ W.cell? ⟨w.heap.size, 5, none⟩ = some (.int .i64 a) ∧ W.cell? ⟨w.heap.size, 2, none⟩ = some (.int .i64 s) ∧ W.cell? ⟨w.heap.size, 3, none⟩ = some (.int .i64 t)) (go_keep) (fail)
 cases cmp with
 | false =>
  go_wp2
  go_ret
  refine ⟨congrArg (fun b => Ending.returned (.bool b)) (show false = fin from ?_), ?_⟩
  ·first | (rw [← hfin.out]; done) | (rw [← hfin.out]; simp)
  ·apply_rules [below_drew, Below.setCell, Below.alloc, hbe.out] <;> first | omega | (simp; omega)
 | true =>
  go_wp2
  go_ret
  refine ⟨congrArg (fun b => Ending.returned (.bool b)) (show true = fin from ?_), ?_⟩
  ·first | (rw [← hfin.out]; done) | (rw [← hfin.out]; simp)
  ·apply_rules [below_drew, Below.setCell, Below.alloc, hbe.out] <;> first | omega | (simp; omega)

set_option maxHeartbeats 1000000 in
set_option maxRecDepth 100000 in
theorem refright_20 (d s t u a k q places : Int) (w : World) (hd : 0 ≤ d ∧ d ≤ 7) (hs : 0 ≤ s ∧ s ≤ 7) (ht : 0 ≤ t ∧ t ≤ 7) (hu : 0 ≤ u ∧ u ≤ 7) (ha : 0 ≤ a ∧ a ≤ 7) (hk : 0 ≤ k ∧ k ≤ 4294967295) :
  Calls Tryz.prog 69 #[.agg #[.int .i64 20, .int .i64 d, .int .i64 s, .int .i64 t, .int .i64 u, .int .i64 a, .int .u32 k, .int .i64 q], .int .i64 places] w fun e w' => e = .returned (.bool (rightF ⟨20, d, s, t, u, a, k, q⟩ places)) ∧ Below w.heap.size w w' := by
 rw [rightF_20 d s t u a k q places hd hs ht hu ha hk]
 have keq : ∀ W, (binOp .eql 114 (.agg #[.int .i64 20, .int .i64 d, .int .i64 s, .int .i64 0, .int .i64 0, .int .i64 a, .int .u32 k, .int .i64 0]) (.agg #[.int .i64 20, .int .i64 d, .int .i64 s, .int .i64 t, .int .i64 u, .int .i64 a, .int .u32 k, .int .i64 q])).run Tryz.prog W = .ok (.bool (decide ((⟨20, d, s, 0, 0, a, k, 0⟩ : In) = ⟨20, d, s, t, u, a, k, q⟩))) W := fun W => eql_r ⟨20, d, s, 0, 0, a, k, 0⟩ ⟨20, d, s, t, u, a, k, q⟩ W
 generalize decide ((⟨20, d, s, 0, 0, a, k, 0⟩ : In) = ⟨20, d, s, t, u, a, k, q⟩) = cmp at keq ⊢
 generalize hfin : (cmp) = fin
 replace hfin := Aside0.mk hfin
 go_enter Tryz.func69, Tryz.ntmps69
 go_wp2_with fail
 refine (name_calls 20 _).mono ?_
 rintro e w1 ⟨rfl, hb⟩
 have BK := Aside0.mk (blk_keep hb (blk_new w _))
 have z : w.heap.size < w1.heap.size := blk_lt BK.out
 have hbe : Below w.heap.size w w1 := ((Below.refl w.heap.size w).alloc (Nat.le_refl _) _).trans (hb.mono (by simp))
 replace hbe := Aside0.mk hbe
 have c0 : w1.cell? ⟨w.heap.size, 0, none⟩ = some (.int .i64 20) := (blk_cell BK.out 0).trans rfl
 have c1 : w1.cell? ⟨w.heap.size, 1, none⟩ = some (.int .i64 d) := (blk_cell BK.out 1).trans rfl
 have c2 : w1.cell? ⟨w.heap.size, 2, none⟩ = some (.int .i64 s) := (blk_cell BK.out 2).trans rfl
 have c3 : w1.cell? ⟨w.heap.size, 3, none⟩ = some (.int .i64 t) := (blk_cell BK.out 3).trans rfl
 have c4 : w1.cell? ⟨w.heap.size, 4, none⟩ = some (.int .i64 u) := (blk_cell BK.out 4).trans rfl
 have c5 : w1.cell? ⟨w.heap.size, 5, none⟩ = some (.int .i64 a) := (blk_cell BK.out 5).trans rfl
 have c6 : w1.cell? ⟨w.heap.size, 6, none⟩ = some (.int .u32 k) := (blk_cell BK.out 6).trans rfl
 have c7 : w1.cell? ⟨w.heap.size, 7, none⟩ = some (.int .i64 q) := (blk_cell BK.out 7).trans rfl
 rw [show opName 20 = [102, 97, 100, 100] from rfl]
 go_wp2_with fail
 refine (reg_yes d hd _).mono ?_
 rintro e w' ⟨rfl, rfl⟩
 go_wp2_with fail
 refine (reg_yes s hs _).mono ?_
 rintro e w' ⟨rfl, rfl⟩
 go_wp2_with fail
 refine (reg_yes t ht _).mono ?_
 rintro e w' ⟨rfl, rfl⟩
 go_wp2_with fail
 refine (reg_yes u hu _).mono ?_
 rintro e w' ⟨rfl, rfl⟩
 go_wp2_with fail
 refine (reg_yes a ha _).mono ?_
 rintro e w' ⟨rfl, rfl⟩
 go_wp2_with fail
 go_region_held3 (fun W => W.cell? ⟨w.heap.size, 1, none⟩ = some (.int .i64 d) ∧ W.cell? ⟨w.heap.size, 5, none⟩ = some (.int .i64 a) ∧ W.cell? ⟨w.heap.size, 2, none⟩ = some (.int .i64 s) ∧ W.cell? ⟨w.heap.size, 6, none⟩ = some (.int .u32 k)) (go_keep) (fail)
 cases cmp with
 | false =>
  go_wp2
  go_ret
  refine ⟨congrArg (fun b => Ending.returned (.bool b)) (show false = fin from ?_), ?_⟩
  ·first | (rw [← hfin.out]; done) | (rw [← hfin.out]; simp)
  ·apply_rules [below_drew, Below.setCell, Below.alloc, hbe.out] <;> first | omega | (simp; omega)
 | true =>
  go_wp2
  go_ret
  refine ⟨congrArg (fun b => Ending.returned (.bool b)) (show true = fin from ?_), ?_⟩
  ·first | (rw [← hfin.out]; done) | (rw [← hfin.out]; simp)
  ·apply_rules [below_drew, Below.setCell, Below.alloc, hbe.out] <;> first | omega | (simp; omega)
end Go.Proofs.YtbhpkeiofajbpaaGreatDoor
end
/- ropelineref06.Right, where all registers and the area are such: for the instructions cas, await. -/
section
namespace Go.Proofs.YtbhpkeiofajbpaaGreatDoor
open Go.RowKit Go.Proofs.YtbhpkeiofajbpaaGreatDoorW.PrintWords
set_option linter.unusedVariables false
set_option linter.unusedSimpArgs false
set_option maxHeartbeats 1000000 in
set_option maxRecDepth 100000 in
theorem refright_19 (d s t u a k q places : Int) (w : World) (hd : 0 ≤ d ∧ d ≤ 7) (hs : 0 ≤ s ∧ s ≤ 7) (ht : 0 ≤ t ∧ t ≤ 7) (hu : 0 ≤ u ∧ u ≤ 7) (ha : 0 ≤ a ∧ a ≤ 7) (hk : 0 ≤ k ∧ k ≤ 4294967295) :
  Calls Tryz.prog 69 #[.agg #[.int .i64 19, .int .i64 d, .int .i64 s, .int .i64 t, .int .i64 u, .int .i64 a, .int .u32 k, .int .i64 q], .int .i64 places] w fun e w' => e = .returned (.bool (rightF ⟨19, d, s, t, u, a, k, q⟩ places)) ∧ Below w.heap.size w w' := by
 rw [rightF_19 d s t u a k q places hd hs ht hu ha hk]
 have keq : ∀ W, (binOp .eql 114 (.agg #[.int .i64 19, .int .i64 d, .int .i64 s, .int .i64 t, .int .i64 u, .int .i64 a, .int .u32 0, .int .i64 0]) (.agg #[.int .i64 19, .int .i64 d, .int .i64 s, .int .i64 t, .int .i64 u, .int .i64 a, .int .u32 k, .int .i64 q])).run Tryz.prog W = .ok (.bool (decide ((⟨19, d, s, t, u, a, 0, 0⟩ : In) = ⟨19, d, s, t, u, a, k, q⟩))) W := fun W => eql_r ⟨19, d, s, t, u, a, 0, 0⟩ ⟨19, d, s, t, u, a, k, q⟩ W
 generalize decide ((⟨19, d, s, t, u, a, 0, 0⟩ : In) = ⟨19, d, s, t, u, a, k, q⟩) = cmp at keq ⊢
 generalize hfin : (cmp) = fin
 replace hfin := Aside0.mk hfin
 go_enter Tryz.func69, Tryz.ntmps69
 go_wp2_with fail
 refine (name_calls 19 _).mono ?_
 rintro e w1 ⟨rfl, hb⟩
 have BK := Aside0.mk (blk_keep hb (blk_new w _))
 have z : w.heap.size < w1.heap.size := blk_lt BK.out
 have hbe : Below w.heap.size w w1 := ((Below.refl w.heap.size w).alloc (Nat.le_refl _) _).trans (hb.mono (by simp))
 replace hbe := Aside0.mk hbe
 have c0 : w1.cell? ⟨w.heap.size, 0, none⟩ = some (.int .i64 19) := (blk_cell BK.out 0).trans rfl
 have c1 : w1.cell? ⟨w.heap.size, 1, none⟩ = some (.int .i64 d) := (blk_cell BK.out 1).trans rfl
 have c2 : w1.cell? ⟨w.heap.size, 2, none⟩ = some (.int .i64 s) := (blk_cell BK.out 2).trans rfl
 have c3 : w1.cell? ⟨w.heap.size, 3, none⟩ = some (.int .i64 t) := (blk_cell BK.out 3).trans rfl
 have c4 : w1.cell? ⟨w.heap.size, 4, none⟩ = some (.int .i64 u) := (blk_cell BK.out 4).trans rfl
 have c5 : w1.cell? ⟨w.heap.size, 5, none⟩ = some (.int .i64 a) := (blk_cell BK.out 5).trans rfl
 have c6 : w1.cell? ⟨w.heap.size, 6, none⟩ = some (.int .u32 k) := (blk_cell BK.out 6).trans rfl
 have c7 : w1.cell? ⟨w.heap.size, 7, none⟩ = some (.int .i64 q) := (blk_cell BK.out 7).trans rfl
 rw [show opName 19 = [99, 97, 115] from rfl]
 go_wp2_with fail
 refine (reg_yes d hd _).mono ?_
 rintro e w' ⟨rfl, rfl⟩
 go_wp2_with fail
 refine (reg_yes s hs _).mono ?_
 rintro e w' ⟨rfl, rfl⟩
 go_wp2_with fail
 refine (reg_yes t ht _).mono ?_
 rintro e w' ⟨rfl, rfl⟩
 go_wp2_with fail
 refine (reg_yes u hu _).mono ?_
 rintro e w' ⟨rfl, rfl⟩
 go_wp2_with fail
 refine (reg_yes a ha _).mono ?_
 rintro e w' ⟨rfl, rfl⟩
 go_wp2_with fail
 go_region_held3 (fun W => W.cell? ⟨w.heap.size, 1, none⟩ = some (.int .i64 d) ∧ W.cell? ⟨w.heap.size, 5, none⟩ = some (.int .i64 a) ∧ W.cell? ⟨w.heap.size, 2, none⟩ = some (.int .i64 s) ∧ W.cell? ⟨w.heap.size, 3, none⟩ = some (.int .i64 t) ∧ W.cell? ⟨w.heap.size, 4, none⟩ = some (.int .i64 u)) (go_keep) (fail)
 cases cmp with
 | false =>
  go_wp2
  go_ret
  refine ⟨congrArg (fun b => Ending.returned (.bool b)) (show false = fin from ?_), ?_⟩
  ·first | (rw [← hfin.out]; done) | (rw [← hfin.out]; simp)
  ·apply_rules [below_drew, Below.setCell, Below.alloc, hbe.out] <;> first | omega | (simp; omega)
 | true =>
  go_wp2
  go_ret
  refine ⟨congrArg (fun b => Ending.returned (.bool b)) (show true = fin from ?_), ?_⟩
  ·first | (rw [← hfin.out]; done) | (rw [← hfin.out]; simp)
  ·apply_rules [below_drew, Below.setCell, Below.alloc, hbe.out] <;> first | omega | (simp; omega)

set_option maxHeartbeats 1000000 in
set_option maxRecDepth 100000 in
theorem refright_21 (d s t u a k q places : Int) (w : World) (hd : 0 ≤ d ∧ d ≤ 7) (hs : 0 ≤ s ∧ s ≤ 7) (ht : 0 ≤ t ∧ t ≤ 7) (hu : 0 ≤ u ∧ u ≤ 7) (ha : 0 ≤ a ∧ a ≤ 7) (hk : 0 ≤ k ∧ k ≤ 4294967295) :
  Calls Tryz.prog 69 #[.agg #[.int .i64 21, .int .i64 d, .int .i64 s, .int .i64 t, .int .i64 u, .int .i64 a, .int .u32 k, .int .i64 q], .int .i64 places] w fun e w' => e = .returned (.bool (rightF ⟨21, d, s, t, u, a, k, q⟩ places)) ∧ Below w.heap.size w w' := by
 rw [rightF_21 d s t u a k q places hd hs ht hu ha hk]
 have keq : ∀ W, (binOp .eql 114 (.agg #[.int .i64 21, .int .i64 d, .int .i64 s, .int .i64 t, .int .i64 0, .int .i64 a, .int .u32 k, .int .i64 q]) (.agg #[.int .i64 21, .int .i64 d, .int .i64 s, .int .i64 t, .int .i64 u, .int .i64 a, .int .u32 k, .int .i64 q])).run Tryz.prog W = .ok (.bool (decide ((⟨21, d, s, t, 0, a, k, q⟩ : In) = ⟨21, d, s, t, u, a, k, q⟩))) W := fun W => eql_r ⟨21, d, s, t, 0, a, k, q⟩ ⟨21, d, s, t, u, a, k, q⟩ W
 generalize decide ((⟨21, d, s, t, 0, a, k, q⟩ : In) = ⟨21, d, s, t, u, a, k, q⟩) = cmp at keq ⊢
 generalize hfin : (!decide (1 < k) && !decide (q < -1) && cmp && (decide (q = -1) || decide (q < places))) = fin
 replace hfin := Aside0.mk hfin
 go_enter Tryz.func69, Tryz.ntmps69
 go_wp2_with fail
 refine (name_calls 21 _).mono ?_
 rintro e w1 ⟨rfl, hb⟩
 have BK := Aside0.mk (blk_keep hb (blk_new w _))
 have z : w.heap.size < w1.heap.size := blk_lt BK.out
 have hbe : Below w.heap.size w w1 := ((Below.refl w.heap.size w).alloc (Nat.le_refl _) _).trans (hb.mono (by simp))
 replace hbe := Aside0.mk hbe
 have c0 : w1.cell? ⟨w.heap.size, 0, none⟩ = some (.int .i64 21) := (blk_cell BK.out 0).trans rfl
 have c1 : w1.cell? ⟨w.heap.size, 1, none⟩ = some (.int .i64 d) := (blk_cell BK.out 1).trans rfl
 have c2 : w1.cell? ⟨w.heap.size, 2, none⟩ = some (.int .i64 s) := (blk_cell BK.out 2).trans rfl
 have c3 : w1.cell? ⟨w.heap.size, 3, none⟩ = some (.int .i64 t) := (blk_cell BK.out 3).trans rfl
 have c4 : w1.cell? ⟨w.heap.size, 4, none⟩ = some (.int .i64 u) := (blk_cell BK.out 4).trans rfl
 have c5 : w1.cell? ⟨w.heap.size, 5, none⟩ = some (.int .i64 a) := (blk_cell BK.out 5).trans rfl
 have c6 : w1.cell? ⟨w.heap.size, 6, none⟩ = some (.int .u32 k) := (blk_cell BK.out 6).trans rfl
 have c7 : w1.cell? ⟨w.heap.size, 7, none⟩ = some (.int .i64 q) := (blk_cell BK.out 7).trans rfl
 rw [show opName 21 = [97, 119, 97, 105, 116] from rfl]
 go_wp2_with fail
 refine (reg_yes d hd _).mono ?_
 rintro e w' ⟨rfl, rfl⟩
 go_wp2_with fail
 refine (reg_yes s hs _).mono ?_
 rintro e w' ⟨rfl, rfl⟩
 go_wp2_with fail
 refine (reg_yes t ht _).mono ?_
 rintro e w' ⟨rfl, rfl⟩
 go_wp2_with fail
 refine (reg_yes u hu _).mono ?_
 rintro e w' ⟨rfl, rfl⟩
 go_wp2_with fail
 refine (reg_yes a ha _).mono ?_
 rintro e w' ⟨rfl, rfl⟩
 go_wp2_with fail
 go_region_held3 (fun W => W.cell? ⟨w.heap.size, 1, none⟩ = some (.int .i64 d) ∧ W.cell? ⟨w.heap.size, 5, none⟩ = some (.int .i64 a) ∧ W.cell? ⟨w.heap.size, 2, none⟩ = some (.int .i64 s) ∧ W.cell? ⟨w.heap.size, 3, none⟩ = some (.int .i64 t) ∧ W.cell? ⟨w.heap.size, 6, none⟩ = some (.int .u32 k) ∧ W.cell? ⟨w.heap.size, 7, none⟩ = some (.int .i64 q)) (go_keep) (fail)
 by_cases h0 : 1 < k
 ·skip
  go_wp2
  go_ret
  refine ⟨congrArg (fun b => Ending.returned (.bool b)) (show false = fin from ?_), ?_⟩
  ·first | (rw [← hfin.out]; done) | (rw [← hfin.out]; simp [h0])
  ·apply_rules [below_drew, Below.setCell, Below.alloc, hbe.out] <;> first | omega | (simp; omega)
 by_cases h1 : q < -1
 ·skip
  go_wp2
  go_ret
  refine ⟨congrArg (fun b => Ending.returned (.bool b)) (show false = fin from ?_), ?_⟩
  ·first | (rw [← hfin.out]; done) | (rw [← hfin.out]; simp [h1])
  ·apply_rules [below_drew, Below.setCell, Below.alloc, hbe.out] <;> first | omega | (simp; omega)
 cases cmp with
 | false =>
  go_wp2
  go_ret
  refine ⟨congrArg (fun b => Ending.returned (.bool b)) (show false = fin from ?_), ?_⟩
  ·first | (rw [← hfin.out]; done) | (rw [← hfin.out]; simp)
  ·apply_rules [below_drew, Below.setCell, Below.alloc, hbe.out] <;> first | omega | (simp; omega)
 | true =>
  by_cases h7 : q = -1
  ·have h7b : (q == -1) = true := beq_iff_eq.2 h7
   replace h7 := Aside0.mk h7
   go_wp2
   go_ret
   refine ⟨congrArg (fun b => Ending.returned (.bool b)) (show true = fin from ?_), ?_⟩
   ·first | (rw [← hfin.out]; done) | (rw [← hfin.out]; simp [h0, h7.out])
   ·apply_rules [below_drew, Below.setCell, Below.alloc, hbe.out] <;> first | omega | (simp; omega)
  have h7b : (q == -1) = false := beq_eq_false_iff_ne.2 h7
  by_cases h8 : q < places
  ·skip
   go_wp2
   go_ret
   refine ⟨congrArg (fun b => Ending.returned (.bool b)) (show true = fin from ?_), ?_⟩
   ·first | (rw [← hfin.out]; done) | (rw [← hfin.out]; simp [h0, h1, h8])
   ·apply_rules [below_drew, Below.setCell, Below.alloc, hbe.out] <;> first | omega | (simp; omega)
  ·have h8b : decide (q < places) = false := decide_eq_false h8
   go_wp2
   go_ret
   refine ⟨congrArg (fun b => Ending.returned (.bool b)) (show false = fin from ?_), ?_⟩
   ·first | (rw [← hfin.out]; done) | (rw [← hfin.out]; simp [h7, h8])
   ·apply_rules [below_drew, Below.setCell, Below.alloc, hbe.out] <;> first | omega | (simp; omega)
end Go.Proofs.YtbhpkeiofajbpaaGreatDoor
end

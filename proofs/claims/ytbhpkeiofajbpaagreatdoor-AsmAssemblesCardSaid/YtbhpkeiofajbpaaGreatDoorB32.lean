/- Parts: RefRightA. -/
import Derived.Test.YtbhpkeiofajbpaaGreatDoorB31
import Derived.Test.YtbhpkeiofajbpaaGreatDoorB26
import Derived.Test.YtbhpkeiofajbpaaGreatDoorB05
import Derived.RegionTactic
import Derived.BigRegion
import Derived.Deep.RegionHeld3
/- ropelineref06.Right, where all registers and the area are such: for the instructions const, move, addk, andk, shl, shr, or. -/
namespace Go.Proofs.YtbhpkeiofajbpaaGreatDoor
open Go.RowKit Go.Proofs.YtbhpkeiofajbpaaGreatDoorW.PrintWords
set_option linter.unusedVariables false
set_option linter.unusedSimpArgs false
set_option maxHeartbeats 1000000 in
set_option maxRecDepth 100000 in
theorem refright_1 (d s t u a k q places : Int) (w : World) (hd : 0 ≤ d ∧ d ≤ 7) (hs : 0 ≤ s ∧ s ≤ 7) (ht : 0 ≤ t ∧ t ≤ 7) (hu : 0 ≤ u ∧ u ≤ 7) (ha : 0 ≤ a ∧ a ≤ 7) (hk : 0 ≤ k ∧ k ≤ 4294967295) :
  Calls Tryz.prog 69 #[.agg #[.int .i64 1, .int .i64 d, .int .i64 s, .int .i64 t, .int .i64 u, .int .i64 a, .int .u32 k, .int .i64 q], .int .i64 places] w fun e w' => e = .returned (.bool (rightF ⟨1, d, s, t, u, a, k, q⟩ places)) ∧ Below w.heap.size w w' := by
 rw [rightF_1 d s t u a k q places hd hs ht hu ha hk]
 have keq : ∀ W, (binOp .eql 114 (.agg #[.int .i64 1, .int .i64 d, .int .i64 0, .int .i64 0, .int .i64 0, .int .i64 0, .int .u32 k, .int .i64 0]) (.agg #[.int .i64 1, .int .i64 d, .int .i64 s, .int .i64 t, .int .i64 u, .int .i64 a, .int .u32 k, .int .i64 q])).run Tryz.prog W = .ok (.bool (decide ((⟨1, d, 0, 0, 0, 0, k, 0⟩ : In) = ⟨1, d, s, t, u, a, k, q⟩))) W := fun W => eql_r ⟨1, d, 0, 0, 0, 0, k, 0⟩ ⟨1, d, s, t, u, a, k, q⟩ W
 generalize decide ((⟨1, d, 0, 0, 0, 0, k, 0⟩ : In) = ⟨1, d, s, t, u, a, k, q⟩) = cmp at keq ⊢
 generalize hfin : (cmp) = fin
 replace hfin := Aside0.mk hfin
 go_enter Tryz.func69, Tryz.ntmps69
 go_wp2_with fail
 refine (name_calls 1 _).mono ?_
 rintro e w1 ⟨rfl, hb⟩
 have BK := Aside0.mk (blk_keep hb (blk_new w _))
 have z : w.heap.size < w1.heap.size := blk_lt BK.out
 have hbe : Below w.heap.size w w1 := ((Below.refl w.heap.size w).alloc (Nat.le_refl _) _).trans (hb.mono (by simp))
 replace hbe := Aside0.mk hbe
 have c0 : w1.cell? ⟨w.heap.size, 0, none⟩ = some (.int .i64 1) := (blk_cell BK.out 0).trans rfl
 have c1 : w1.cell? ⟨w.heap.size, 1, none⟩ = some (.int .i64 d) := (blk_cell BK.out 1).trans rfl
 have c2 : w1.cell? ⟨w.heap.size, 2, none⟩ = some (.int .i64 s) := (blk_cell BK.out 2).trans rfl
 have c3 : w1.cell? ⟨w.heap.size, 3, none⟩ = some (.int .i64 t) := (blk_cell BK.out 3).trans rfl
 have c4 : w1.cell? ⟨w.heap.size, 4, none⟩ = some (.int .i64 u) := (blk_cell BK.out 4).trans rfl
 have c5 : w1.cell? ⟨w.heap.size, 5, none⟩ = some (.int .i64 a) := (blk_cell BK.out 5).trans rfl
 have c6 : w1.cell? ⟨w.heap.size, 6, none⟩ = some (.int .u32 k) := (blk_cell BK.out 6).trans rfl
 have c7 : w1.cell? ⟨w.heap.size, 7, none⟩ = some (.int .i64 q) := (blk_cell BK.out 7).trans rfl
 rw [show opName 1 = [99, 111, 110, 115, 116] from rfl]
 go_wp2_with fail
 refine (reg_yes d hd _).mono ?_
 rintro e w' ⟨rfl, rfl⟩
 go_wp2_with fail
 refine (reg_yes s hs _).mono ?_
 rintro e w' ⟨rfl, rfl⟩
 go_wp2_with fail
 refine (reg_yes t ht _).mono ?_
 rintro e w' ⟨rfl, rfl⟩
 go_wp2_with fail
 refine (reg_yes u hu _).mono ?_
 rintro e w' ⟨rfl, rfl⟩
 go_wp2_with fail
 refine (reg_yes a ha _).mono ?_
 rintro e w' ⟨rfl, rfl⟩
 go_wp2_with fail
 go_region_held3 (fun W => W.cell? ⟨w.heap.size, 1, none⟩ = some (.int .i64 d) ∧ W.cell? ⟨w.heap.size, 6, none⟩ = some (.int .u32 k)) (go_keep) (fail)
 cases cmp with
 | false =>
  go_wp2
  go_ret
  refine ⟨congrArg (fun b => Ending.returned (.bool b)) (show false = fin from ?_), ?_⟩
  ·first | (rw [← hfin.out]; done) | (rw [← hfin.out]; simp)
  ·apply_rules [below_drew, Below.setCell, Below.alloc, hbe.out] <;> first | omega | (simp; omega)
 | true =>
  go_wp2
  go_ret
  refine ⟨congrArg (fun b => Ending.returned (.bool b)) (show true = fin from ?_), ?_⟩
  ·first | (rw [← hfin.out]; done) | (rw [← hfin.out]; simp)
  ·apply_rules [below_drew, Below.setCell, Below.alloc, hbe.out] <;> first | omega | (simp; omega)

set_option maxHeartbeats 1000000 in
set_option maxRecDepth 100000 in
theorem refright_2 (d s t u a k q places : Int) (w : World) (hd : 0 ≤ d ∧ d ≤ 7) (hs : 0 ≤ s ∧ s ≤ 7) (ht : 0 ≤ t ∧ t ≤ 7) (hu : 0 ≤ u ∧ u ≤ 7) (ha : 0 ≤ a ∧ a ≤ 7) (hk : 0 ≤ k ∧ k ≤ 4294967295) :
  Calls Tryz.prog 69 #[.agg #[.int .i64 2, .int .i64 d, .int .i64 s, .int .i64 t, .int .i64 u, .int .i64 a, .int .u32 k, .int .i64 q], .int .i64 places] w fun e w' => e = .returned (.bool (rightF ⟨2, d, s, t, u, a, k, q⟩ places)) ∧ Below w.heap.size w w' := by
 rw [rightF_2 d s t u a k q places hd hs ht hu ha hk]
 have keq : ∀ W, (binOp .eql 114 (.agg #[.int .i64 2, .int .i64 d, .int .i64 s, .int .i64 0, .int .i64 0, .int .i64 0, .int .u32 0, .int .i64 0]) (.agg #[.int .i64 2, .int .i64 d, .int .i64 s, .int .i64 t, .int .i64 u, .int .i64 a, .int .u32 k, .int .i64 q])).run Tryz.prog W = .ok (.bool (decide ((⟨2, d, s, 0, 0, 0, 0, 0⟩ : In) = ⟨2, d, s, t, u, a, k, q⟩))) W := fun W => eql_r ⟨2, d, s, 0, 0, 0, 0, 0⟩ ⟨2, d, s, t, u, a, k, q⟩ W
 generalize decide ((⟨2, d, s, 0, 0, 0, 0, 0⟩ : In) = ⟨2, d, s, t, u, a, k, q⟩) = cmp at keq ⊢
 generalize hfin : (cmp) = fin
 replace hfin := Aside0.mk hfin
 go_enter Tryz.func69, Tryz.ntmps69
 go_wp2_with fail
 refine (name_calls 2 _).mono ?_
 rintro e w1 ⟨rfl, hb⟩
 have BK := Aside0.mk (blk_keep hb (blk_new w _))
 have z : w.heap.size < w1.heap.size := blk_lt BK.out
 have hbe : Below w.heap.size w w1 := ((Below.refl w.heap.size w).alloc (Nat.le_refl _) _).trans (hb.mono (by simp))
 replace hbe := Aside0.mk hbe
 have c0 : w1.cell? ⟨w.heap.size, 0, none⟩ = some (.int .i64 2) := (blk_cell BK.out 0).trans rfl
 have c1 : w1.cell? ⟨w.heap.size, 1, none⟩ = some (.int .i64 d) := (blk_cell BK.out 1).trans rfl
 have c2 : w1.cell? ⟨w.heap.size, 2, none⟩ = some (.int .i64 s) := (blk_cell BK.out 2).trans rfl
 have c3 : w1.cell? ⟨w.heap.size, 3, none⟩ = some (.int .i64 t) := (blk_cell BK.out 3).trans rfl
 have c4 : w1.cell? ⟨w.heap.size, 4, none⟩ = some (.int .i64 u) := (blk_cell BK.out 4).trans rfl
 have c5 : w1.cell? ⟨w.heap.size, 5, none⟩ = some (.int .i64 a) := (blk_cell BK.out 5).trans rfl
 have c6 : w1.cell? ⟨w.heap.size, 6, none⟩ = some (.int .u32 k) := (blk_cell BK.out 6).trans rfl
 have c7 : w1.cell? ⟨w.heap.size, 7, none⟩ = some (.int .i64 q) := (blk_cell BK.out 7).trans rfl
 rw [show opName 2 = [109, 111, 118, 101] from rfl]
 go_wp2_with fail
 refine (reg_yes d hd _).mono ?_
 rintro e w' ⟨rfl, rfl⟩
 go_wp2_with fail
 refine (reg_yes s hs _).mono ?_
 rintro e w' ⟨rfl, rfl⟩
 go_wp2_with fail
 refine (reg_yes t ht _).mono ?_
 rintro e w' ⟨rfl, rfl⟩
 go_wp2_with fail
 refine (reg_yes u hu _).mono ?_
 rintro e w' ⟨rfl, rfl⟩
 go_wp2_with fail
 refine (reg_yes a ha _).mono ?_
 rintro e w' ⟨rfl, rfl⟩
 go_wp2_with fail
 go_region_held3 (fun W => W.cell? ⟨w.heap.size, 1, none⟩ = some (.int .i64 d) ∧ W.cell? ⟨w.heap.size, 2, none⟩ = some (.int .i64 s)) (go_keep) (fail)
 cases cmp with
 | false =>
  go_wp2
  go_ret
  refine ⟨congrArg (fun b => Ending.returned (.bool b)) (show false = fin from ?_), ?_⟩
  ·first | (rw [← hfin.out]; done) | (rw [← hfin.out]; simp)
  ·apply_rules [below_drew, Below.setCell, Below.alloc, hbe.out] <;> first | omega | (simp; omega)
 | true =>
  go_wp2
  go_ret
  refine ⟨congrArg (fun b => Ending.returned (.bool b)) (show true = fin from ?_), ?_⟩
  ·first | (rw [← hfin.out]; done) | (rw [← hfin.out]; simp)
  ·apply_rules [below_drew, Below.setCell, Below.alloc, hbe.out] <;> first | omega | (simp; omega)

set_option maxHeartbeats 1000000 in
set_option maxRecDepth 100000 in
theorem refright_3 (d s t u a k q places : Int) (w : World) (hd : 0 ≤ d ∧ d ≤ 7) (hs : 0 ≤ s ∧ s ≤ 7) (ht : 0 ≤ t ∧ t ≤ 7) (hu : 0 ≤ u ∧ u ≤ 7) (ha : 0 ≤ a ∧ a ≤ 7) (hk : 0 ≤ k ∧ k ≤ 4294967295) :
  Calls Tryz.prog 69 #[.agg #[.int .i64 3, .int .i64 d, .int .i64 s, .int .i64 t, .int .i64 u, .int .i64 a, .int .u32 k, .int .i64 q], .int .i64 places] w fun e w' => e = .returned (.bool (rightF ⟨3, d, s, t, u, a, k, q⟩ places)) ∧ Below w.heap.size w w' := by
 rw [rightF_3 d s t u a k q places hd hs ht hu ha hk]
 have keq : ∀ W, (binOp .eql 114 (.agg #[.int .i64 3, .int .i64 d, .int .i64 s, .int .i64 0, .int .i64 0, .int .i64 0, .int .u32 k, .int .i64 0]) (.agg #[.int .i64 3, .int .i64 d, .int .i64 s, .int .i64 t, .int .i64 u, .int .i64 a, .int .u32 k, .int .i64 q])).run Tryz.prog W = .ok (.bool (decide ((⟨3, d, s, 0, 0, 0, k, 0⟩ : In) = ⟨3, d, s, t, u, a, k, q⟩))) W := fun W => eql_r ⟨3, d, s, 0, 0, 0, k, 0⟩ ⟨3, d, s, t, u, a, k, q⟩ W
 generalize decide ((⟨3, d, s, 0, 0, 0, k, 0⟩ : In) = ⟨3, d, s, t, u, a, k, q⟩) = cmp at keq ⊢
 generalize hfin : (cmp) = fin
 replace hfin := Aside0.mk hfin
 go_enter Tryz.func69, Tryz.ntmps69
 go_wp2_with fail
 refine (name_calls 3 _).mono ?_
 rintro e w1 ⟨rfl, hb⟩
 have BK := Aside0.mk (blk_keep hb (blk_new w _))
 have z : w.heap.size < w1.heap.size := blk_lt BK.out
 have hbe : Below w.heap.size w w1 := ((Below.refl w.heap.size w).alloc (Nat.le_refl _) _).trans (hb.mono (by simp))
 replace hbe := Aside0.mk hbe
 have c0 : w1.cell? ⟨w.heap.size, 0, none⟩ = some (.int .i64 3) := (blk_cell BK.out 0).trans rfl
 have c1 : w1.cell? ⟨w.heap.size, 1, none⟩ = some (.int .i64 d) := (blk_cell BK.out 1).trans rfl
 have c2 : w1.cell? ⟨w.heap.size, 2, none⟩ = some (.int .i64 s) := (blk_cell BK.out 2).trans rfl
 have c3 : w1.cell? ⟨w.heap.size, 3, none⟩ = some (.int .i64 t) := (blk_cell BK.out 3).trans rfl
 have c4 : w1.cell? ⟨w.heap.size, 4, none⟩ = some (.int .i64 u) := (blk_cell BK.out 4).trans rfl
 have c5 : w1.cell? ⟨w.heap.size, 5, none⟩ = some (.int .i64 a) := (blk_cell BK.out 5).trans rfl
 have c6 : w1.cell? ⟨w.heap.size, 6, none⟩ = some (.int .u32 k) := (blk_cell BK.out 6).trans rfl
 have c7 : w1.cell? ⟨w.heap.size, 7, none⟩ = some (.int .i64 q) := (blk_cell BK.out 7).trans rfl
 rw [show opName 3 = [97, 100, 100, 107] from rfl]
 go_wp2_with fail
 refine (reg_yes d hd _).mono ?_
 rintro e w' ⟨rfl, rfl⟩
 go_wp2_with fail
 refine (reg_yes s hs _).mono ?_
 rintro e w' ⟨rfl, rfl⟩
 go_wp2_with fail
 refine (reg_yes t ht _).mono ?_
 rintro e w' ⟨rfl, rfl⟩
 go_wp2_with fail
 refine (reg_yes u hu _).mono ?_
 rintro e w' ⟨rfl, rfl⟩
 go_wp2_with fail
 refine (reg_yes a ha _).mono ?_
 rintro e w' ⟨rfl, rfl⟩
 go_wp2_with fail
 go_region_held3 (fun W => W.cell? ⟨w.heap.size, 1, none⟩ = some (.int .i64 d) ∧ W.cell? ⟨w.heap.size, 2, none⟩ = some (.int .i64 s) ∧ W.cell? ⟨w.heap.size, 6, none⟩ = some (.int .u32 k)) (go_keep) (fail)
 cases cmp with
 | false =>
  go_wp2
  go_ret
  refine ⟨congrArg (fun b => Ending.returned (.bool b)) (show false = fin from ?_), ?_⟩
  ·first | (rw [← hfin.out]; done) | (rw [← hfin.out]; simp)
  ·apply_rules [below_drew, Below.setCell, Below.alloc, hbe.out] <;> first | omega | (simp; omega)
 | true =>
  go_wp2
  go_ret
  refine ⟨congrArg (fun b => Ending.returned (.bool b)) (show true = fin from ?_), ?_⟩
  ·first | (rw [← hfin.out]; done) | (rw [← hfin.out]; simp)
  ·apply_rules [below_drew, Below.setCell, Below.alloc, hbe.out] <;> first | omega | (simp; omega)

set_option maxHeartbeats 1000000 in
set_option maxRecDepth 100000 in
theorem refright_4 (d s t u a k q places : Int) (w : World) (hd : 0 ≤ d ∧ d ≤ 7) (hs : 0 ≤ s ∧ s ≤ 7) (ht : 0 ≤ t ∧ t ≤ 7) (hu : 0 ≤ u ∧ u ≤ 7) (ha : 0 ≤ a ∧ a ≤ 7) (hk : 0 ≤ k ∧ k ≤ 4294967295) :
  Calls Tryz.prog 69 #[.agg #[.int .i64 4, .int .i64 d, .int .i64 s, .int .i64 t, .int .i64 u, .int .i64 a, .int .u32 k, .int .i64 q], .int .i64 places] w fun e w' => e = .returned (.bool (rightF ⟨4, d, s, t, u, a, k, q⟩ places)) ∧ Below w.heap.size w w' := by
 rw [rightF_4 d s t u a k q places hd hs ht hu ha hk]
 have keq : ∀ W, (binOp .eql 114 (.agg #[.int .i64 4, .int .i64 d, .int .i64 s, .int .i64 0, .int .i64 0, .int .i64 0, .int .u32 k, .int .i64 0]) (.agg #[.int .i64 4, .int .i64 d, .int .i64 s, .int .i64 t, .int .i64 u, .int .i64 a, .int .u32 k, .int .i64 q])).run Tryz.prog W = .ok (.bool (decide ((⟨4, d, s, 0, 0, 0, k, 0⟩ : In) = ⟨4, d, s, t, u, a, k, q⟩))) W := fun W => eql_r ⟨4, d, s, 0, 0, 0, k, 0⟩ ⟨4, d, s, t, u, a, k, q⟩ W
 generalize decide ((⟨4, d, s, 0, 0, 0, k, 0⟩ : In) = ⟨4, d, s, t, u, a, k, q⟩) = cmp at keq ⊢
 generalize hfin : (cmp) = fin
 replace hfin := Aside0.mk hfin
 go_enter Tryz.func69, Tryz.ntmps69
 go_wp2_with fail
 refine (name_calls 4 _).mono ?_
 rintro e w1 ⟨rfl, hb⟩
 have BK := Aside0.mk (blk_keep hb (blk_new w _))
 have z : w.heap.size < w1.heap.size := blk_lt BK.out
 have hbe : Below w.heap.size w w1 := ((Below.refl w.heap.size w).alloc (Nat.le_refl _) _).trans (hb.mono (by simp))
 replace hbe := Aside0.mk hbe
 have c0 : w1.cell? ⟨w.heap.size, 0, none⟩ = some (.int .i64 4) := (blk_cell BK.out 0).trans rfl
 have c1 : w1.cell? ⟨w.heap.size, 1, none⟩ = some (.int .i64 d) := (blk_cell BK.out 1).trans rfl
 have c2 : w1.cell? ⟨w.heap.size, 2, none⟩ = some (.int .i64 s) := (blk_cell BK.out 2).trans rfl
 have c3 : w1.cell? ⟨w.heap.size, 3, none⟩ = some (.int .i64 t) := (blk_cell BK.out 3).trans rfl
 have c4 : w1.cell? ⟨w.heap.size, 4, none⟩ = some (.int .i64 u) := (blk_cell BK.out 4).trans rfl
 have c5 : w1.cell? ⟨w.heap.size, 5, none⟩ = some (.int .i64 a) := (blk_cell BK.out 5).trans rfl
 have c6 : w1.cell? ⟨w.heap.size, 6, none⟩ = some (.int .u32 k) := (blk_cell BK.out 6).trans rfl
 have c7 : w1.cell? ⟨w.heap.size, 7, none⟩ = some (.int .i64 q) := (blk_cell BK.out 7).trans rfl
 rw [show opName 4 = [97, 110, 100, 107] from rfl]
 go_wp2_with fail
 refine (reg_yes d hd _).mono ?_
 rintro e w' ⟨rfl, rfl⟩
 go_wp2_with fail
 refine (reg_yes s hs _).mono ?_
 rintro e w' ⟨rfl, rfl⟩
 go_wp2_with fail
 refine (reg_yes t ht _).mono ?_
 rintro e w' ⟨rfl, rfl⟩
 go_wp2_with fail
 refine (reg_yes u hu _).mono ?_
 rintro e w' ⟨rfl, rfl⟩
 go_wp2_with fail
 refine (reg_yes a ha _).mono ?_
 rintro e w' ⟨rfl, rfl⟩
 go_wp2_with fail
 go_region_held3 (fun W => W.cell? ⟨w.heap.size, 1, none⟩ = some (.int .i64 d) ∧ W.cell? ⟨w.heap.size, 2, none⟩ = some (.int .i64 s) ∧ W.cell? ⟨w.heap.size, 6, none⟩ = some (.int .u32 k)) (go_keep) (fail)
 cases cmp with
 | false =>
  go_wp2
  go_ret
  refine ⟨congrArg (fun b => Ending.returned (.bool b)) (show false = fin from ?_), ?_⟩
  ·first | (rw [← hfin.out]; done) | (rw [← hfin.out]; simp)
  ·apply_rules [below_drew, Below.setCell, Below.alloc, hbe.out] <;> first | omega | (simp; omega)
 | true =>
  go_wp2
  go_ret
  refine ⟨congrArg (fun b => Ending.returned (.bool b)) (show true = fin from ?_), ?_⟩
  ·first | (rw [← hfin.out]; done) | (rw [← hfin.out]; simp)
  ·apply_rules [below_drew, Below.setCell, Below.alloc, hbe.out] <;> first | omega | (simp; omega)

set_option maxHeartbeats 1000000 in
set_option maxRecDepth 100000 in
theorem refright_5 (d s t u a k q places : Int) (w : World) (hd : 0 ≤ d ∧ d ≤ 7) (hs : 0 ≤ s ∧ s ≤ 7) (ht : 0 ≤ t ∧ t ≤ 7) (hu : 0 ≤ u ∧ u ≤ 7) (ha : 0 ≤ a ∧ a ≤ 7) (hk : 0 ≤ k ∧ k ≤ 4294967295) :
  Calls Tryz.prog 69 #[.agg #[.int .i64 5, .int .i64 d, .int .i64 s, .int .i64 t, .int .i64 u, .int .i64 a, .int .u32 k, .int .i64 q], .int .i64 places] w fun e w' => e = .returned (.bool (rightF ⟨5, d, s, t, u, a, k, q⟩ places)) ∧ Below w.heap.size w w' := by
 rw [rightF_5 d s t u a k q places hd hs ht hu ha hk]
 have keq : ∀ W, (binOp .eql 114 (.agg #[.int .i64 5, .int .i64 d, .int .i64 s, .int .i64 0, .int .i64 0, .int .i64 0, .int .u32 k, .int .i64 0]) (.agg #[.int .i64 5, .int .i64 d, .int .i64 s, .int .i64 t, .int .i64 u, .int .i64 a, .int .u32 k, .int .i64 q])).run Tryz.prog W = .ok (.bool (decide ((⟨5, d, s, 0, 0, 0, k, 0⟩ : In) = ⟨5, d, s, t, u, a, k, q⟩))) W := fun W => eql_r ⟨5, d, s, 0, 0, 0, k, 0⟩ ⟨5, d, s, t, u, a, k, q⟩ W
 generalize decide ((⟨5, d, s, 0, 0, 0, k, 0⟩ : In) = ⟨5, d, s, t, u, a, k, q⟩) = cmp at keq ⊢
 generalize hfin : (!decide (31 < k) && cmp) = fin
 replace hfin := Aside0.mk hfin
 go_enter Tryz.func69, Tryz.ntmps69
 go_wp2_with fail
 refine (name_calls 5 _).mono ?_
 rintro e w1 ⟨rfl, hb⟩
 have BK := Aside0.mk (blk_keep hb (blk_new w _))
 have z : w.heap.size < w1.heap.size := blk_lt BK.out
 have hbe : Below w.heap.size w w1 := ((Below.refl w.heap.size w).alloc (Nat.le_refl _) _).trans (hb.mono (by simp))
 replace hbe := Aside0.mk hbe
 have c0 : w1.cell? ⟨w.heap.size, 0, none⟩ = some (.int .i64 5) := (blk_cell BK.out 0).trans rfl
 have c1 : w1.cell? ⟨w.heap.size, 1, none⟩ = some (.int .i64 d) := (blk_cell BK.out 1).trans rfl
 have c2 : w1.cell? ⟨w.heap.size, 2, none⟩ = some (.int .i64 s) := (blk_cell BK.out 2).trans rfl
 have c3 : w1.cell? ⟨w.heap.size, 3, none⟩ = some (.int .i64 t) := (blk_cell BK.out 3).trans rfl
 have c4 : w1.cell? ⟨w.heap.size, 4, none⟩ = some (.int .i64 u) := (blk_cell BK.out 4).trans rfl
 have c5 : w1.cell? ⟨w.heap.size, 5, none⟩ = some (.int .i64 a) := (blk_cell BK.out 5).trans rfl
 have c6 : w1.cell? ⟨w.heap.size, 6, none⟩ = some (.int .u32 k) := (blk_cell BK.out 6).trans rfl
 have c7 : w1.cell? ⟨w.heap.size, 7, none⟩ = some (.int .i64 q) := (blk_cell BK.out 7).trans rfl
 rw [show opName 5 = [115, 104, 108] from rfl]
 go_wp2_with fail
 refine (reg_yes d hd _).mono ?_
 rintro e w' ⟨rfl, rfl⟩
 go_wp2_with fail
 refine (reg_yes s hs _).mono ?_
 rintro e w' ⟨rfl, rfl⟩
 go_wp2_with fail
 refine (reg_yes t ht _).mono ?_
 rintro e w' ⟨rfl, rfl⟩
 go_wp2_with fail
 refine (reg_yes u hu _).mono ?_
 rintro e w' ⟨rfl, rfl⟩
 go_wp2_with fail
 refine (reg_yes a ha _).mono ?_
 rintro e w' ⟨rfl, rfl⟩
 go_wp2_with fail
 go_region_held3 (fun W => W.cell? ⟨w.heap.size, 1, none⟩ = some (.int .i64 d) ∧ W.cell? ⟨w.heap.size, 2, none⟩ = some (.int .i64 s) ∧ W.cell? ⟨w.heap.size, 6, none⟩ = some (.int .u32 k)) (go_keep) (fail)
 by_cases h0 : 31 < k
 ·skip
  go_wp2
  go_ret
  refine ⟨congrArg (fun b => Ending.returned (.bool b)) (show false = fin from ?_), ?_⟩
  ·first | (rw [← hfin.out]; done) | (rw [← hfin.out]; simp [h0])
  ·apply_rules [below_drew, Below.setCell, Below.alloc, hbe.out] <;> first | omega | (simp; omega)
 cases cmp with
 | false =>
  go_wp2
  go_ret
  refine ⟨congrArg (fun b => Ending.returned (.bool b)) (show false = fin from ?_), ?_⟩
  ·first | (rw [← hfin.out]; done) | (rw [← hfin.out]; simp)
  ·apply_rules [below_drew, Below.setCell, Below.alloc, hbe.out] <;> first | omega | (simp; omega)
 | true =>
  go_wp2
  go_ret
  refine ⟨congrArg (fun b => Ending.returned (.bool b)) (show true = fin from ?_), ?_⟩
  ·first | (rw [← hfin.out]; done) | (rw [← hfin.out]; simp [h0])
  ·apply_rules [below_drew, Below.setCell, Below.alloc, hbe.out] <;> first | omega | (simp; omega)

set_option maxHeartbeats 1000000 in
set_option maxRecDepth 100000 in
theorem refright_6 (d s t u a k q places : Int) (w : World) (hd : 0 ≤ d ∧ d ≤ 7) (hs : 0 ≤ s ∧ s ≤ 7) (ht : 0 ≤ t ∧ t ≤ 7) (hu : 0 ≤ u ∧ u ≤ 7) (ha : 0 ≤ a ∧ a ≤ 7) (hk : 0 ≤ k ∧ k ≤ 4294967295) :
  Calls Tryz.prog 69 #[.agg #[.int .i64 6, .int .i64 d, .int .i64 s, .int .i64 t, .int .i64 u, .int .i64 a, .int .u32 k, .int .i64 q], .int .i64 places] w fun e w' => e = .returned (.bool (rightF ⟨6, d, s, t, u, a, k, q⟩ places)) ∧ Below w.heap.size w w' := by
 rw [rightF_6 d s t u a k q places hd hs ht hu ha hk]
 have keq : ∀ W, (binOp .eql 114 (.agg #[.int .i64 6, .int .i64 d, .int .i64 s, .int .i64 0, .int .i64 0, .int .i64 0, .int .u32 k, .int .i64 0]) (.agg #[.int .i64 6, .int .i64 d, .int .i64 s, .int .i64 t, .int .i64 u, .int .i64 a, .int .u32 k, .int .i64 q])).run Tryz.prog W = .ok (.bool (decide ((⟨6, d, s, 0, 0, 0, k, 0⟩ : In) = ⟨6, d, s, t, u, a, k, q⟩))) W := fun W => eql_r ⟨6, d, s, 0, 0, 0, k, 0⟩ ⟨6, d, s, t, u, a, k, q⟩ W
 generalize decide ((⟨6, d, s, 0, 0, 0, k, 0⟩ : In) = ⟨6, d, s, t, u, a, k, q⟩) = cmp at keq ⊢
 generalize hfin : (!decide (31 < k) && cmp) = fin
 replace hfin := Aside0.mk hfin
 go_enter Tryz.func69, Tryz.ntmps69
 go_wp2_with fail
 refine (name_calls 6 _).mono ?_
 rintro e w1 ⟨rfl, hb⟩
 have BK := Aside0.mk (blk_keep hb (blk_new w _))
 have z : w.heap.size < w1.heap.size := blk_lt BK.out
 have hbe : Below w.heap.size w w1 := ((Below.refl w.heap.size w).alloc (Nat.le_refl _) _).trans (hb.mono (by simp))
 replace hbe := Aside0.mk hbe
 have c0 : w1.cell? ⟨w.heap.size, 0, none⟩ = some (.int .i64 6) := (blk_cell BK.out 0).trans rfl
 have c1 : w1.cell? ⟨w.heap.size, 1, none⟩ = some (.int .i64 d) := (blk_cell BK.out 1).trans rfl
 have c2 : w1.cell? ⟨w.heap.size, 2, none⟩ = some (.int .i64 s) := (blk_cell BK.out 2).trans rfl
 have c3 : w1.cell? ⟨w.heap.size, 3, none⟩ = some (.int .i64 t) := (blk_cell BK.out 3).trans rfl
 have c4 : w1.cell? ⟨w.heap.size, 4, none⟩ = some (.int .i64 u) := (blk_cell BK.out 4).trans rfl
 have c5 : w1.cell? ⟨w.heap.size, 5, none⟩ = some (.int .i64 a) := (blk_cell BK.out 5).trans rfl
 have c6 : w1.cell? ⟨w.heap.size, 6, none⟩ = some (.int .u32 k) := (blk_cell BK.out 6).trans rfl
 have c7 : w1.cell? ⟨w.heap.size, 7, none⟩ = some (.int .i64 q) := (blk_cell BK.out 7).trans rfl
 rw [show opName 6 = [115, 104, 114] from rfl]
 go_wp2_with fail
 refine (reg_yes d hd _).mono ?_
 rintro e w' ⟨rfl, rfl⟩
 go_wp2_with fail
 refine (reg_yes s hs _).mono ?_
 rintro e w' ⟨rfl, rfl⟩
 go_wp2_with fail
 refine (reg_yes t ht _).mono ?_
 rintro e w' ⟨rfl, rfl⟩
 go_wp2_with fail
 refine (reg_yes u hu _).mono ?_
 rintro e w' ⟨rfl, rfl⟩
 go_wp2_with fail
 refine (reg_yes a ha _).mono ?_
 rintro e w' ⟨rfl, rfl⟩
 go_wp2_with fail
 go_region_held3 (fun W => W.cell? ⟨w.heap.size, 1, none⟩ = some (.int .i64 d) ∧ W.cell? ⟨w.heap.size, 2, none⟩ = some (.int .i64 s) ∧ W.cell? ⟨w.heap.size, 6, none⟩ = some (.int .u32 k)) (go_keep) (fail)
 by_cases h0 : 31 < k
 ·skip
  go_wp2
  go_ret
  refine ⟨congrArg (fun b => Ending.returned (.bool b)) (show false = fin from ?_), ?_⟩
  ·first | (rw [← hfin.out]; done) | (rw [← hfin.out]; simp [h0])
  ·apply_rules [below_drew, Below.setCell, Below.alloc, hbe.out] <;> first | omega | (simp; omega)
 cases cmp with
 | false =>
  go_wp2
  go_ret
  refine ⟨congrArg (fun b => Ending.returned (.bool b)) (show false = fin from ?_), ?_⟩
  ·first | (rw [← hfin.out]; done) | (rw [← hfin.out]; simp)
  ·apply_rules [below_drew, Below.setCell, Below.alloc, hbe.out] <;> first | omega | (simp; omega)
 | true =>
  go_wp2
  go_ret
  refine ⟨congrArg (fun b => Ending.returned (.bool b)) (show true = fin from ?_), ?_⟩
  ·first | (rw [← hfin.out]; done) | (rw [← hfin.out]; simp [h0])
  ·apply_rules [below_drew, Below.setCell, Below.alloc, hbe.out] <;> first | omega | (simp; omega)

set_option maxHeartbeats 1000000 in
set_option maxRecDepth 100000 in
theorem refright_7 (d s t u a k q places : Int) (w : World) (hd : 0 ≤ d ∧ d ≤ 7) (hs : 0 ≤ s ∧ s ≤ 7) (ht : 0 ≤ t ∧ t ≤ 7) (hu : 0 ≤ u ∧ u ≤ 7) (ha : 0 ≤ a ∧ a ≤ 7) (hk : 0 ≤ k ∧ k ≤ 4294967295) :
  Calls Tryz.prog 69 #[.agg #[.int .i64 7, .int .i64 d, .int .i64 s, .int .i64 t, .int .i64 u, .int .i64 a, .int .u32 k, .int .i64 q], .int .i64 places] w fun e w' => e = .returned (.bool (rightF ⟨7, d, s, t, u, a, k, q⟩ places)) ∧ Below w.heap.size w w' := by
 rw [rightF_7 d s t u a k q places hd hs ht hu ha hk]
 have keq : ∀ W, (binOp .eql 114 (.agg #[.int .i64 7, .int .i64 d, .int .i64 s, .int .i64 t, .int .i64 0, .int .i64 0, .int .u32 0, .int .i64 0]) (.agg #[.int .i64 7, .int .i64 d, .int .i64 s, .int .i64 t, .int .i64 u, .int .i64 a, .int .u32 k, .int .i64 q])).run Tryz.prog W = .ok (.bool (decide ((⟨7, d, s, t, 0, 0, 0, 0⟩ : In) = ⟨7, d, s, t, u, a, k, q⟩))) W := fun W => eql_r ⟨7, d, s, t, 0, 0, 0, 0⟩ ⟨7, d, s, t, u, a, k, q⟩ W
 generalize decide ((⟨7, d, s, t, 0, 0, 0, 0⟩ : In) = ⟨7, d, s, t, u, a, k, q⟩) = cmp at keq ⊢
 generalize hfin : (cmp) = fin
 replace hfin := Aside0.mk hfin
 go_enter Tryz.func69, Tryz.ntmps69
 go_wp2_with fail
 refine (name_calls 7 _).mono ?_
 rintro e w1 ⟨rfl, hb⟩
 have BK := Aside0.mk (blk_keep hb (blk_new w _))
 have z : w.heap.size < w1.heap.size := blk_lt BK.out
 have hbe : Below w.heap.size w w1 := ((Below.refl w.heap.size w).alloc (Nat.le_refl _) _).trans (hb.mono (by simp))
 replace hbe := Aside0.mk hbe
 have c0 : w1.cell? ⟨w.heap.size, 0, none⟩ = some (.int .i64 7) := (blk_cell BK.out 0).trans rfl
 have c1 : w1.cell? ⟨w.heap.size, 1, none⟩ = some (.int .i64 d) := (blk_cell BK.out 1).trans rfl
 have c2 : w1.cell? ⟨w.heap.size, 2, none⟩ = some (.int .i64 s) := (blk_cell BK.out 2).trans rfl
 have c3 : w1.cell? ⟨w.heap.size, 3, none⟩ = some (.int .i64 t) := (blk_cell BK.out 3).trans rfl
 have c4 : w1.cell? ⟨w.heap.size, 4, none⟩ = some (.int .i64 u) := (blk_cell BK.out 4).trans rfl
 have c5 : w1.cell? ⟨w.heap.size, 5, none⟩ = some (.int .i64 a) := (blk_cell BK.out 5).trans rfl
 have c6 : w1.cell? ⟨w.heap.size, 6, none⟩ = some (.int .u32 k) := (blk_cell BK.out 6).trans rfl
 have c7 : w1.cell? ⟨w.heap.size, 7, none⟩ = some (.int .i64 q) := (blk_cell BK.out 7).trans rfl
 rw [show opName 7 = [111, 114] from rfl]
 go_wp2_with fail
 refine (reg_yes d hd _).mono ?_
 rintro e w' ⟨rfl, rfl⟩
 go_wp2_with fail
 refine (reg_yes s hs _).mono ?_
 rintro e w' ⟨rfl, rfl⟩
 go_wp2_with fail
 refine (reg_yes t ht _).mono ?_
 rintro e w' ⟨rfl, rfl⟩
 go_wp2_with fail
 refine (reg_yes u hu _).mono ?_
 rintro e w' ⟨rfl, rfl⟩
 go_wp2_with fail
 refine (reg_yes a ha _).mono ?_
 rintro e w' ⟨rfl, rfl⟩
 go_wp2_with fail
 go_region_held3 (fun W => W.cell? ⟨w.heap.size, 1, none⟩ = some (.int .i64 d) ∧ W.cell? ⟨w.heap.size, 2, none⟩ = some (.int .i64 s) ∧ W.cell? ⟨w.heap.size, 3, none⟩ = some (.int .i64 t)) (go_keep) (fail)
 cases cmp with
 | false =>
  go_wp2
  go_ret
  refine ⟨congrArg (fun b => Ending.returned (.bool b)) (show false = fin from ?_), ?_⟩
  ·first | (rw [← hfin.out]; done) | (rw [← hfin.out]; simp)
  ·apply_rules [below_drew, Below.setCell, Below.alloc, hbe.out] <;> first | omega | (simp; omega)
 | true =>
  go_wp2
  go_ret
  refine ⟨congrArg (fun b => Ending.returned (.bool b)) (show true = fin from ?_), ?_⟩
  ·first | (rw [← hfin.out]; done) | (rw [← hfin.out]; simp)
  ·apply_rules [below_drew, Below.setCell, Below.alloc, hbe.out] <;> first | omega | (simp; omega)
end Go.Proofs.YtbhpkeiofajbpaaGreatDoor

/- Parts: RefSwitchC, RefSwitch. -/
import Derived.Test.YtbhpkeiofajbpaaGreatDoorB39
import Derived.Test.YtbhpkeiofajbpaaGreatDoorB40
/- The switch of ropelineref06.Parse, op by op. -/
section
namespace Go.Proofs.YtbhpkeiofajbpaaGreatDoor
open Go.RowKit Go.Proofs.YtbhpkeiofajbpaaGreatDoorW.PrintWords
set_option linter.unusedVariables false
set_option linter.unusedSimpArgs false

set_option maxHeartbeats 4000000 in
set_option maxRecDepth 100000 in
theorem sw_18 : SwOk 18 := by
 intro w w5 g5 g7 n7 c7 g cur k x0 x1 x2 x3 y0 y1 HI h4 hne r0' r1' r2' r3' Q
 intros
 rename_i hQ
 replace hQ := Aside0.mk hQ
 obtain ⟨f0, c0⟩ := sw_cells HI.out 0 _ rfl
 obtain ⟨f1, c1⟩ := sw_cells HI.out 1 _ rfl
 obtain ⟨f2, c2⟩ := sw_cells HI.out 2 _ rfl
 obtain ⟨f3, c3⟩ := sw_cells HI.out 3 _ rfl
 obtain ⟨f4, c4⟩ := sw_cells HI.out 4 _ rfl
 obtain ⟨f5, c5⟩ := sw_cells HI.out 5 _ rfl
 have z5 : g5 < w5.heap.size := blk_lt HI.out.i
 have wr0 : IntKind.u32.wrap y0 = y0 % 4294967296 := IntKind.wrap_u32 _
 have wr1 : IntKind.u32.wrap y1 = y1 % 4294967296 := IntKind.wrap_u32 _
 obtain ⟨q0, p0, q1, p1, q2, p2, q3, p3⟩ : 0 < n7 ∧ (0 : Int) < (n7 : Int) ∧ 1 < n7 ∧ (1 : Int) < (n7 : Int) ∧ 2 < n7 ∧ (2 : Int) < (n7 : Int) ∧ 3 < n7 ∧ (3 : Int) < (n7 : Int) := by omega
 clear h4
 conv => arg 2; whnf
 go_wp2_with fail
 have hS : S4 g7 x0 x1 x2 x3 w5.drew := ⟨r0', r1', r2', r3'⟩
 go_region_held3 (fun W => S4 g7 x0 x1 x2 x3 W) (first | with_reducible exact hS | with_reducible exact keep4d hne _ _ (by assumption)) (first | fail)
 have H := Aside0.mk (((((HI.out.putj 1 (by decide) (by decide) x0).putj 2 (by decide) (by decide) x1).putj 3 (by decide) (by decide) x2).putj 4 (by decide) (by decide) x3).putj 5 (by decide) (by decide) y0).drew
 obtain ⟨w6, hw6⟩ : ∃ w6, w6 = (((((w5.setCell ⟨g5, 1, none⟩ (.int .i64 x0)).setCell ⟨g5, 2, none⟩ (.int .i64 x1)).setCell ⟨g5, 3, none⟩ (.int .i64 x2)).setCell ⟨g5, 4, none⟩ (.int .i64 x3)).setCell ⟨g5, 5, none⟩ (.int .i64 y0)).drew := ⟨_, rfl⟩
 rw [← hw6] at H ⊢
 clear hw6 HI hS f0 c0 f1 c1 f2 c2 f3 c3 f4 c4 f5 c5 r0' r1' r2' r3' z5
 have d0 : w6.cell? ⟨g5, 0, none⟩ = some (.int .i64 18) := (blk_cell H.out.i 0).trans rfl
 go_wp2
 rw [setF_18] at hQ
 apply hQ.out
 exact ⟨H.out⟩

set_option maxHeartbeats 4000000 in
set_option maxRecDepth 100000 in
theorem sw_19 : SwOk 19 := by
 intro w w5 g5 g7 n7 c7 g cur k x0 x1 x2 x3 y0 y1 HI h4 hne r0' r1' r2' r3' Q
 intros
 rename_i hQ
 replace hQ := Aside0.mk hQ
 obtain ⟨f0, c0⟩ := sw_cells HI.out 0 _ rfl
 obtain ⟨f1, c1⟩ := sw_cells HI.out 1 _ rfl
 obtain ⟨f2, c2⟩ := sw_cells HI.out 2 _ rfl
 obtain ⟨f3, c3⟩ := sw_cells HI.out 3 _ rfl
 obtain ⟨f4, c4⟩ := sw_cells HI.out 4 _ rfl
 obtain ⟨f5, c5⟩ := sw_cells HI.out 5 _ rfl
 have z5 : g5 < w5.heap.size := blk_lt HI.out.i
 have wr0 : IntKind.u32.wrap y0 = y0 % 4294967296 := IntKind.wrap_u32 _
 have wr1 : IntKind.u32.wrap y1 = y1 % 4294967296 := IntKind.wrap_u32 _
 obtain ⟨q0, p0, q1, p1, q2, p2, q3, p3⟩ : 0 < n7 ∧ (0 : Int) < (n7 : Int) ∧ 1 < n7 ∧ (1 : Int) < (n7 : Int) ∧ 2 < n7 ∧ (2 : Int) < (n7 : Int) ∧ 3 < n7 ∧ (3 : Int) < (n7 : Int) := by omega
 clear h4
 conv => arg 2; whnf
 go_wp2_with fail
 have hS : S4 g7 x0 x1 x2 x3 w5.drew := ⟨r0', r1', r2', r3'⟩
 go_region_held3 (fun W => S4 g7 x0 x1 x2 x3 W) (first | with_reducible exact hS | with_reducible exact keep4d hne _ _ (by assumption)) (first | fail)
 have H := Aside0.mk (((((HI.out.putj 1 (by decide) (by decide) x0).putj 2 (by decide) (by decide) x1).putj 3 (by decide) (by decide) x2).putj 4 (by decide) (by decide) x3).putj 5 (by decide) (by decide) y0).drew
 obtain ⟨w6, hw6⟩ : ∃ w6, w6 = (((((w5.setCell ⟨g5, 1, none⟩ (.int .i64 x0)).setCell ⟨g5, 2, none⟩ (.int .i64 x1)).setCell ⟨g5, 3, none⟩ (.int .i64 x2)).setCell ⟨g5, 4, none⟩ (.int .i64 x3)).setCell ⟨g5, 5, none⟩ (.int .i64 y0)).drew := ⟨_, rfl⟩
 rw [← hw6] at H ⊢
 clear hw6 HI hS f0 c0 f1 c1 f2 c2 f3 c3 f4 c4 f5 c5 r0' r1' r2' r3' z5
 have d0 : w6.cell? ⟨g5, 0, none⟩ = some (.int .i64 19) := (blk_cell H.out.i 0).trans rfl
 go_wp2
 rw [setF_19] at hQ
 apply hQ.out
 exact ⟨H.out⟩

set_option maxHeartbeats 4000000 in
set_option maxRecDepth 100000 in
theorem sw_20 : SwOk 20 := by
 intro w w5 g5 g7 n7 c7 g cur k x0 x1 x2 x3 y0 y1 HI h4 hne r0' r1' r2' r3' Q
 intros
 rename_i hQ
 replace hQ := Aside0.mk hQ
 obtain ⟨f0, c0⟩ := sw_cells HI.out 0 _ rfl
 obtain ⟨f1, c1⟩ := sw_cells HI.out 1 _ rfl
 obtain ⟨f2, c2⟩ := sw_cells HI.out 2 _ rfl
 obtain ⟨f3, c3⟩ := sw_cells HI.out 3 _ rfl
 obtain ⟨f4, c4⟩ := sw_cells HI.out 4 _ rfl
 obtain ⟨f5, c5⟩ := sw_cells HI.out 5 _ rfl
 obtain ⟨f6, c6⟩ := sw_cells HI.out 6 _ rfl
 have z5 : g5 < w5.heap.size := blk_lt HI.out.i
 have wr0 : IntKind.u32.wrap y0 = y0 % 4294967296 := IntKind.wrap_u32 _
 have wr1 : IntKind.u32.wrap y1 = y1 % 4294967296 := IntKind.wrap_u32 _
 obtain ⟨q0, p0, q1, p1, q2, p2, q3, p3⟩ : 0 < n7 ∧ (0 : Int) < (n7 : Int) ∧ 1 < n7 ∧ (1 : Int) < (n7 : Int) ∧ 2 < n7 ∧ (2 : Int) < (n7 : Int) ∧ 3 < n7 ∧ (3 : Int) < (n7 : Int) := by omega
 clear h4
 conv => arg 2; whnf
 go_wp2_with fail
 have hS : S4 g7 x0 x1 x2 x3 w5.drew := ⟨r0', r1', r2', r3'⟩
 go_region_held3 (fun W => S4 g7 x0 x1 x2 x3 W) (first | with_reducible exact hS | with_reducible exact keep4d hne _ _ (by assumption)) (first | fail)
 have H := Aside0.mk (((((HI.out.putj 1 (by decide) (by decide) x0).putj 2 (by decide) (by decide) x1).putj 3 (by decide) (by decide) x2).putj 4 (by decide) (by decide) x3).putj 5 (by decide) (by decide) y0).drew
 obtain ⟨w6, hw6⟩ : ∃ w6, w6 = (((((w5.setCell ⟨g5, 1, none⟩ (.int .i64 x0)).setCell ⟨g5, 2, none⟩ (.int .i64 x1)).setCell ⟨g5, 3, none⟩ (.int .i64 x2)).setCell ⟨g5, 4, none⟩ (.int .i64 x3)).setCell ⟨g5, 5, none⟩ (.int .i64 y0)).drew := ⟨_, rfl⟩
 rw [← hw6] at H ⊢
 clear hw6 HI hS f0 c0 f1 c1 f2 c2 f3 c3 f4 c4 f5 c5 f6 c6 r0' r1' r2' r3' z5
 have d0 : w6.cell? ⟨g5, 0, none⟩ = some (.int .i64 20) := (blk_cell H.out.i 0).trans rfl
 have d6 : w6.cell? ⟨g5, 6, none⟩ = some (.int .u32 k) := (blk_cell H.out.i 6).trans rfl
 have e6 := blk_frozen H.out.i 6
 have e7 : g5 < w6.heap.size := blk_lt H.out.i
 go_wp2
 rw [setF_20] at hQ
 apply hQ.out
 exact ⟨H.out.putk (y1 % 4294967296)⟩

set_option maxHeartbeats 4000000 in
set_option maxRecDepth 100000 in
theorem sw_21 : SwOk 21 := by
 intro w w5 g5 g7 n7 c7 g cur k x0 x1 x2 x3 y0 y1 HI h4 hne r0' r1' r2' r3' Q
 intros
 rename_i hQ
 replace hQ := Aside0.mk hQ
 obtain ⟨f0, c0⟩ := sw_cells HI.out 0 _ rfl
 obtain ⟨f1, c1⟩ := sw_cells HI.out 1 _ rfl
 obtain ⟨f2, c2⟩ := sw_cells HI.out 2 _ rfl
 obtain ⟨f3, c3⟩ := sw_cells HI.out 3 _ rfl
 obtain ⟨f4, c4⟩ := sw_cells HI.out 4 _ rfl
 obtain ⟨f5, c5⟩ := sw_cells HI.out 5 _ rfl
 obtain ⟨f7, c7⟩ := sw_cells HI.out 7 _ rfl
 have z5 : g5 < w5.heap.size := blk_lt HI.out.i
 have wr0 : IntKind.u32.wrap y0 = y0 % 4294967296 := IntKind.wrap_u32 _
 have wr1 : IntKind.u32.wrap y1 = y1 % 4294967296 := IntKind.wrap_u32 _
 obtain ⟨q0, p0, q1, p1, q2, p2, q3, p3⟩ : 0 < n7 ∧ (0 : Int) < (n7 : Int) ∧ 1 < n7 ∧ (1 : Int) < (n7 : Int) ∧ 2 < n7 ∧ (2 : Int) < (n7 : Int) ∧ 3 < n7 ∧ (3 : Int) < (n7 : Int) := by omega
 clear h4
 conv => arg 2; whnf
 go_wp2_with fail
 have hS : S4 g7 x0 x1 x2 x3 w5.drew := ⟨r0', r1', r2', r3'⟩
 go_region_held3 (fun W => S4 g7 x0 x1 x2 x3 W) (first | with_reducible exact hS | with_reducible exact keep4d hne _ _ (by assumption)) (first | fail)
 have H := Aside0.mk (((((HI.out.putj 1 (by decide) (by decide) x0).putj 2 (by decide) (by decide) x1).putj 3 (by decide) (by decide) x2).putj 4 (by decide) (by decide) x3).putj 5 (by decide) (by decide) y0).drew
 obtain ⟨w6, hw6⟩ : ∃ w6, w6 = (((((w5.setCell ⟨g5, 1, none⟩ (.int .i64 x0)).setCell ⟨g5, 2, none⟩ (.int .i64 x1)).setCell ⟨g5, 3, none⟩ (.int .i64 x2)).setCell ⟨g5, 4, none⟩ (.int .i64 x3)).setCell ⟨g5, 5, none⟩ (.int .i64 y0)).drew := ⟨_, rfl⟩
 rw [← hw6] at H ⊢
 clear hw6 HI hS f0 c0 f1 c1 f2 c2 f3 c3 f4 c4 f5 c5 f7 c7 r0' r1' r2' r3' z5
 have d0 : w6.cell? ⟨g5, 0, none⟩ = some (.int .i64 21) := (blk_cell H.out.i 0).trans rfl
 have d6 : w6.cell? ⟨g5, 7, none⟩ = some (.int .i64 0) := (blk_cell H.out.i 7).trans rfl
 have e6 := blk_frozen H.out.i 7
 have e7 : g5 < w6.heap.size := blk_lt H.out.i
 go_wp2
 rw [setF_21] at hQ
 apply hQ.out
 exact ⟨H.out.putq y1⟩

set_option maxHeartbeats 4000000 in
set_option maxRecDepth 100000 in
theorem sw_17 : SwOk 17 := by
 intro w w5 g5 g7 n7 c7 g cur k x0 x1 x2 x3 y0 y1 HI h4 hne r0' r1' r2' r3' Q
 intros
 rename_i hQ
 replace hQ := Aside0.mk hQ
 obtain ⟨f0, c0⟩ := sw_cells HI.out 0 _ rfl
 obtain ⟨f2, c2⟩ := sw_cells HI.out 2 _ rfl
 obtain ⟨f3, c3⟩ := sw_cells HI.out 3 _ rfl
 obtain ⟨f5, c5⟩ := sw_cells HI.out 5 _ rfl
 have z5 : g5 < w5.heap.size := blk_lt HI.out.i
 have wr0 : IntKind.u32.wrap y0 = y0 % 4294967296 := IntKind.wrap_u32 _
 have wr1 : IntKind.u32.wrap y1 = y1 % 4294967296 := IntKind.wrap_u32 _
 obtain ⟨q0, p0, q1, p1, q2, p2, q3, p3⟩ : 0 < n7 ∧ (0 : Int) < (n7 : Int) ∧ 1 < n7 ∧ (1 : Int) < (n7 : Int) ∧ 2 < n7 ∧ (2 : Int) < (n7 : Int) ∧ 3 < n7 ∧ (3 : Int) < (n7 : Int) := by omega
 clear h4
 conv => arg 2; whnf
 go_wp2_with fail
 have hS : S4 g7 x0 x1 x2 x3 w5.drew := ⟨r0', r1', r2', r3'⟩
 go_region_held3 (fun W => S4 g7 x0 x1 x2 x3 W) (first | with_reducible exact hS | with_reducible exact keep4d hne _ _ (by assumption)) (first | fail)
 have H := Aside0.mk (((HI.out.putj 2 (by decide) (by decide) x0).putj 3 (by decide) (by decide) x1).putj 5 (by decide) (by decide) y0).drew
 obtain ⟨w6, hw6⟩ : ∃ w6, w6 = (((w5.setCell ⟨g5, 2, none⟩ (.int .i64 x0)).setCell ⟨g5, 3, none⟩ (.int .i64 x1)).setCell ⟨g5, 5, none⟩ (.int .i64 y0)).drew := ⟨_, rfl⟩
 rw [← hw6] at H ⊢
 clear hw6 HI hS f0 c0 f2 c2 f3 c3 f5 c5 r0' r1' r2' r3' z5
 go_wp2
 rw [setF_17] at hQ
 apply hQ.out
 exact ⟨H.out⟩

set_option maxHeartbeats 4000000 in
set_option maxRecDepth 100000 in
theorem sw_23 : SwOk 23 := by
 intro w w5 g5 g7 n7 c7 g cur k x0 x1 x2 x3 y0 y1 HI h4 hne r0' r1' r2' r3' Q
 intros
 rename_i hQ
 replace hQ := Aside0.mk hQ
 obtain ⟨f0, c0⟩ := sw_cells HI.out 0 _ rfl
 obtain ⟨f2, c2⟩ := sw_cells HI.out 2 _ rfl
 have z5 : g5 < w5.heap.size := blk_lt HI.out.i
 have wr0 : IntKind.u32.wrap y0 = y0 % 4294967296 := IntKind.wrap_u32 _
 have wr1 : IntKind.u32.wrap y1 = y1 % 4294967296 := IntKind.wrap_u32 _
 obtain ⟨q0, p0, q1, p1, q2, p2, q3, p3⟩ : 0 < n7 ∧ (0 : Int) < (n7 : Int) ∧ 1 < n7 ∧ (1 : Int) < (n7 : Int) ∧ 2 < n7 ∧ (2 : Int) < (n7 : Int) ∧ 3 < n7 ∧ (3 : Int) < (n7 : Int) := by omega
 clear h4
 conv => arg 2; whnf
 go_wp2
 rw [setF_23] at hQ
 apply hQ.out
 exact ⟨HI.out.putj 2 (by decide) (by decide) x0⟩

set_option maxHeartbeats 4000000 in
set_option maxRecDepth 100000 in
theorem sw_0 : SwOk 0 := by
 intro w w5 g5 g7 n7 c7 g cur k x0 x1 x2 x3 y0 y1 HI h4 hne r0' r1' r2' r3' Q
 intros
 rename_i hQ
 replace hQ := Aside0.mk hQ
 obtain ⟨f0, c0⟩ := sw_cells HI.out 0 _ rfl
 have z5 : g5 < w5.heap.size := blk_lt HI.out.i
 have wr0 : IntKind.u32.wrap y0 = y0 % 4294967296 := IntKind.wrap_u32 _
 have wr1 : IntKind.u32.wrap y1 = y1 % 4294967296 := IntKind.wrap_u32 _
 obtain ⟨q0, p0, q1, p1, q2, p2, q3, p3⟩ : 0 < n7 ∧ (0 : Int) < (n7 : Int) ∧ 1 < n7 ∧ (1 : Int) < (n7 : Int) ∧ 2 < n7 ∧ (2 : Int) < (n7 : Int) ∧ 3 < n7 ∧ (3 : Int) < (n7 : Int) := by omega
 clear h4
 conv => arg 2; whnf
 go_wp2
 rw [setF_0] at hQ
 apply hQ.out
 exact ⟨HI.out⟩

set_option maxHeartbeats 4000000 in
set_option maxRecDepth 100000 in
theorem sw_12 : SwOk 12 := by
 intro w w5 g5 g7 n7 c7 g cur k x0 x1 x2 x3 y0 y1 HI h4 hne r0' r1' r2' r3' Q
 intros
 rename_i hQ
 replace hQ := Aside0.mk hQ
 obtain ⟨f0, c0⟩ := sw_cells HI.out 0 _ rfl
 obtain ⟨f6, c6⟩ := sw_cells HI.out 6 _ rfl
 have z5 : g5 < w5.heap.size := blk_lt HI.out.i
 have wr0 : IntKind.u32.wrap y0 = y0 % 4294967296 := IntKind.wrap_u32 _
 have wr1 : IntKind.u32.wrap y1 = y1 % 4294967296 := IntKind.wrap_u32 _
 obtain ⟨q0, p0, q1, p1, q2, p2, q3, p3⟩ : 0 < n7 ∧ (0 : Int) < (n7 : Int) ∧ 1 < n7 ∧ (1 : Int) < (n7 : Int) ∧ 2 < n7 ∧ (2 : Int) < (n7 : Int) ∧ 3 < n7 ∧ (3 : Int) < (n7 : Int) := by omega
 clear h4
 conv => arg 2; whnf
 go_wp2
 rw [setF_12] at hQ
 apply hQ.out
 exact ⟨HI.out.putk (y0 % 4294967296)⟩

set_option maxHeartbeats 4000000 in
set_option maxRecDepth 100000 in
theorem sw_13 : SwOk 13 := by
 intro w w5 g5 g7 n7 c7 g cur k x0 x1 x2 x3 y0 y1 HI h4 hne r0' r1' r2' r3' Q
 intros
 rename_i hQ
 replace hQ := Aside0.mk hQ
 obtain ⟨f0, c0⟩ := sw_cells HI.out 0 _ rfl
 obtain ⟨f6, c6⟩ := sw_cells HI.out 6 _ rfl
 have z5 : g5 < w5.heap.size := blk_lt HI.out.i
 have wr0 : IntKind.u32.wrap y0 = y0 % 4294967296 := IntKind.wrap_u32 _
 have wr1 : IntKind.u32.wrap y1 = y1 % 4294967296 := IntKind.wrap_u32 _
 obtain ⟨q0, p0, q1, p1, q2, p2, q3, p3⟩ : 0 < n7 ∧ (0 : Int) < (n7 : Int) ∧ 1 < n7 ∧ (1 : Int) < (n7 : Int) ∧ 2 < n7 ∧ (2 : Int) < (n7 : Int) ∧ 3 < n7 ∧ (3 : Int) < (n7 : Int) := by omega
 clear h4
 conv => arg 2; whnf
 go_wp2
 rw [setF_13] at hQ
 apply hQ.out
 exact ⟨HI.out.putk (y0 % 4294967296)⟩
end Go.Proofs.YtbhpkeiofajbpaaGreatDoor
end
/- The switch of ropelineref06.Parse. -/
section
namespace Go.Proofs.YtbhpkeiofajbpaaGreatDoor
open Go.RowKit Go.Proofs.YtbhpkeiofajbpaaGreatDoorW.PrintWords
set_option linter.unusedVariables false
set_option linter.unusedSimpArgs false

theorem sw_all (nm : Int) (hnm : nm = 0 ∨ (1 ≤ nm ∧ nm ≤ 13) ∨ (16 ≤ nm ∧ nm ≤ 23)) : SwOk nm := by
 have hc : nm = 0 ∨ nm = 1 ∨ nm = 2 ∨ nm = 3 ∨ nm = 4 ∨ nm = 5 ∨ nm = 6 ∨ nm = 7 ∨ nm = 8 ∨ nm = 9 ∨ nm = 10 ∨ nm = 11 ∨ nm = 12 ∨ nm = 13 ∨ nm = 16 ∨ nm = 17 ∨ nm = 18 ∨ nm = 19 ∨ nm = 20 ∨ nm = 21 ∨ nm = 22 ∨ nm = 23 := by omega
 clear hnm
 rcases hc with rfl | rfl | rfl | rfl | rfl | rfl | rfl | rfl | rfl | rfl | rfl | rfl | rfl | rfl | rfl | rfl | rfl | rfl | rfl | rfl | rfl | rfl
 ·exact sw_0
 ·exact sw_1
 ·exact sw_2
 ·exact sw_3
 ·exact sw_4
 ·exact sw_5
 ·exact sw_6
 ·exact sw_7
 ·exact sw_8
 ·exact sw_9
 ·exact sw_10
 ·exact sw_11
 ·exact sw_12
 ·exact sw_13
 ·exact sw_16
 ·exact sw_17
 ·exact sw_18
 ·exact sw_19
 ·exact sw_20
 ·exact sw_21
 ·exact sw_22
 ·exact sw_23
end Go.Proofs.YtbhpkeiofajbpaaGreatDoor
end

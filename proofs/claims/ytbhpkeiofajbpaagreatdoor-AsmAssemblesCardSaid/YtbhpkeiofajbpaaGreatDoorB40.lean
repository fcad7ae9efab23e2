/- Parts: RefSwitchA, RefSwitchB. -/
import Derived.Test.YtbhpkeiofajbpaaGreatDoorB39
/- The switch of ropelineref06.Parse, op by op. -/
section
namespace Go.Proofs.YtbhpkeiofajbpaaGreatDoor
open Go.RowKit Go.Proofs.YtbhpkeiofajbpaaGreatDoorW.PrintWords
set_option linter.unusedVariables false
set_option linter.unusedSimpArgs false

set_option maxHeartbeats 4000000 in
set_option maxRecDepth 100000 in
theorem sw_1 : SwOk 1 := by
 intro w w5 g5 g7 n7 c7 g cur k x0 x1 x2 x3 y0 y1 HI h4 hne r0' r1' r2' r3' Q
 intros
 rename_i hQ
 replace hQ := Aside0.mk hQ
 obtain ⟨f0, c0⟩ := sw_cells HI.out 0 _ rfl
 obtain ⟨f1, c1⟩ := sw_cells HI.out 1 _ rfl
 obtain ⟨f2, c2⟩ := sw_cells HI.out 2 _ rfl
 obtain ⟨f3, c3⟩ := sw_cells HI.out 3 _ rfl
 obtain ⟨f6, c6⟩ := sw_cells HI.out 6 _ rfl
 have z5 : g5 < w5.heap.size := blk_lt HI.out.i
 have wr0 : IntKind.u32.wrap y0 = y0 % 4294967296 := IntKind.wrap_u32 _
 have wr1 : IntKind.u32.wrap y1 = y1 % 4294967296 := IntKind.wrap_u32 _
 obtain ⟨q0, p0, q1, p1, q2, p2, q3, p3⟩ : 0 < n7 ∧ (0 : Int) < (n7 : Int) ∧ 1 < n7 ∧ (1 : Int) < (n7 : Int) ∧ 2 < n7 ∧ (2 : Int) < (n7 : Int) ∧ 3 < n7 ∧ (3 : Int) < (n7 : Int) := by omega
 clear h4
 conv => arg 2; whnf
 go_wp2_with fail
 have hS : S4 g7 x0 x1 x2 x3 w5.drew := ⟨r0', r1', r2', r3'⟩
 go_region_held3 (fun W => S4 g7 x0 x1 x2 x3 W) (first | with_reducible exact hS | with_reducible exact keep4d hne _ _ (by assumption)) (first | fail)
 have H := Aside0.mk (((HI.out.putj 1 (by decide) (by decide) x0).putj 2 (by decide) (by decide) x1).putj 3 (by decide) (by decide) x2).drew
 obtain ⟨w6, hw6⟩ : ∃ w6, w6 = (((w5.setCell ⟨g5, 1, none⟩ (.int .i64 x0)).setCell ⟨g5, 2, none⟩ (.int .i64 x1)).setCell ⟨g5, 3, none⟩ (.int .i64 x2)).drew := ⟨_, rfl⟩
 rw [← hw6] at H ⊢
 clear hw6 HI hS f0 c0 f1 c1 f2 c2 f3 c3 f6 c6 r0' r1' r2' r3' z5
 have d0 : w6.cell? ⟨g5, 0, none⟩ = some (.int .i64 1) := (blk_cell H.out.i 0).trans rfl
 have d6 : w6.cell? ⟨g5, 6, none⟩ = some (.int .u32 k) := (blk_cell H.out.i 6).trans rfl
 have e6 := blk_frozen H.out.i 6
 have e7 : g5 < w6.heap.size := blk_lt H.out.i
 go_wp2
 rw [setF_1] at hQ
 apply hQ.out
 exact ⟨H.out.putk (y0 % 4294967296)⟩

set_option maxHeartbeats 4000000 in
set_option maxRecDepth 100000 in
theorem sw_2 : SwOk 2 := by
 intro w w5 g5 g7 n7 c7 g cur k x0 x1 x2 x3 y0 y1 HI h4 hne r0' r1' r2' r3' Q
 intros
 rename_i hQ
 replace hQ := Aside0.mk hQ
 obtain ⟨f0, c0⟩ := sw_cells HI.out 0 _ rfl
 obtain ⟨f1, c1⟩ := sw_cells HI.out 1 _ rfl
 obtain ⟨f2, c2⟩ := sw_cells HI.out 2 _ rfl
 obtain ⟨f3, c3⟩ := sw_cells HI.out 3 _ rfl
 have z5 : g5 < w5.heap.size := blk_lt HI.out.i
 have wr0 : IntKind.u32.wrap y0 = y0 % 4294967296 := IntKind.wrap_u32 _
 have wr1 : IntKind.u32.wrap y1 = y1 % 4294967296 := IntKind.wrap_u32 _
 obtain ⟨q0, p0, q1, p1, q2, p2, q3, p3⟩ : 0 < n7 ∧ (0 : Int) < (n7 : Int) ∧ 1 < n7 ∧ (1 : Int) < (n7 : Int) ∧ 2 < n7 ∧ (2 : Int) < (n7 : Int) ∧ 3 < n7 ∧ (3 : Int) < (n7 : Int) := by omega
 clear h4
 conv => arg 2; whnf
 go_wp2_with fail
 have hS : S4 g7 x0 x1 x2 x3 w5.drew := ⟨r0', r1', r2', r3'⟩
 go_region_held3 (fun W => S4 g7 x0 x1 x2 x3 W) (first | with_reducible exact hS | with_reducible exact keep4d hne _ _ (by assumption)) (first | fail)
 have H := Aside0.mk (((HI.out.putj 1 (by decide) (by decide) x0).putj 2 (by decide) (by decide) x1).putj 3 (by decide) (by decide) x2).drew
 obtain ⟨w6, hw6⟩ : ∃ w6, w6 = (((w5.setCell ⟨g5, 1, none⟩ (.int .i64 x0)).setCell ⟨g5, 2, none⟩ (.int .i64 x1)).setCell ⟨g5, 3, none⟩ (.int .i64 x2)).drew := ⟨_, rfl⟩
 rw [← hw6] at H ⊢
 clear hw6 HI hS f0 c0 f1 c1 f2 c2 f3 c3 r0' r1' r2' r3' z5
 have d0 : w6.cell? ⟨g5, 0, none⟩ = some (.int .i64 2) := (blk_cell H.out.i 0).trans rfl
 go_wp2
 rw [setF_2] at hQ
 apply hQ.out
 exact ⟨H.out⟩

set_option maxHeartbeats 4000000 in
set_option maxRecDepth 100000 in
theorem sw_3 : SwOk 3 := by
 intro w w5 g5 g7 n7 c7 g cur k x0 x1 x2 x3 y0 y1 HI h4 hne r0' r1' r2' r3' Q
 intros
 rename_i hQ
 replace hQ := Aside0.mk hQ
 obtain ⟨f0, c0⟩ := sw_cells HI.out 0 _ rfl
 obtain ⟨f1, c1⟩ := sw_cells HI.out 1 _ rfl
 obtain ⟨f2, c2⟩ := sw_cells HI.out 2 _ rfl
 obtain ⟨f3, c3⟩ := sw_cells HI.out 3 _ rfl
 obtain ⟨f6, c6⟩ := sw_cells HI.out 6 _ rfl
 have z5 : g5 < w5.heap.size := blk_lt HI.out.i
 have wr0 : IntKind.u32.wrap y0 = y0 % 4294967296 := IntKind.wrap_u32 _
 have wr1 : IntKind.u32.wrap y1 = y1 % 4294967296 := IntKind.wrap_u32 _
 obtain ⟨q0, p0, q1, p1, q2, p2, q3, p3⟩ : 0 < n7 ∧ (0 : Int) < (n7 : Int) ∧ 1 < n7 ∧ (1 : Int) < (n7 : Int) ∧ 2 < n7 ∧ (2 : Int) < (n7 : Int) ∧ 3 < n7 ∧ (3 : Int) < (n7 : Int) := by omega
 clear h4
 conv => arg 2; whnf
 go_wp2_with fail
 have hS : S4 g7 x0 x1 x2 x3 w5.drew := ⟨r0', r1', r2', r3'⟩
 go_region_held3 (fun W => S4 g7 x0 x1 x2 x3 W) (first | with_reducible exact hS | with_reducible exact keep4d hne _ _ (by assumption)) (first | fail)
 have H := Aside0.mk (((HI.out.putj 1 (by decide) (by decide) x0).putj 2 (by decide) (by decide) x1).putj 3 (by decide) (by decide) x2).drew
 obtain ⟨w6, hw6⟩ : ∃ w6, w6 = (((w5.setCell ⟨g5, 1, none⟩ (.int .i64 x0)).setCell ⟨g5, 2, none⟩ (.int .i64 x1)).setCell ⟨g5, 3, none⟩ (.int .i64 x2)).drew := ⟨_, rfl⟩
 rw [← hw6] at H ⊢
 clear hw6 HI hS f0 c0 f1 c1 f2 c2 f3 c3 f6 c6 r0' r1' r2' r3' z5
 have d0 : w6.cell? ⟨g5, 0, none⟩ = some (.int .i64 3) := (blk_cell H.out.i 0).trans rfl
 have d6 : w6.cell? ⟨g5, 6, none⟩ = some (.int .u32 k) := (blk_cell H.out.i 6).trans rfl
 have e6 := blk_frozen H.out.i 6
 have e7 : g5 < w6.heap.size := blk_lt H.out.i
 go_wp2
 rw [setF_3] at hQ
 apply hQ.out
 exact ⟨H.out.putk (y0 % 4294967296)⟩

set_option maxHeartbeats 4000000 in
set_option maxRecDepth 100000 in
theorem sw_4 : SwOk 4 := by
 intro w w5 g5 g7 n7 c7 g cur k x0 x1 x2 x3 y0 y1 HI h4 hne r0' r1' r2' r3' Q
 intros
 rename_i hQ
 replace hQ := Aside0.mk hQ
 obtain ⟨f0, c0⟩ := sw_cells HI.out 0 _ rfl
 obtain ⟨f1, c1⟩ := sw_cells HI.out 1 _ rfl
 obtain ⟨f2, c2⟩ := sw_cells HI.out 2 _ rfl
 obtain ⟨f3, c3⟩ := sw_cells HI.out 3 _ rfl
 obtain ⟨f6, c6⟩ := sw_cells HI.out 6 _ rfl
 have z5 : g5 < w5.heap.size := blk_lt HI.out.i
 have wr0 : IntKind.u32.wrap y0 = y0 % 4294967296 := IntKind.wrap_u32 _
 have wr1 : IntKind.u32.wrap y1 = y1 % 4294967296 := IntKind.wrap_u32 _
 obtain ⟨q0, p0, q1, p1, q2, p2, q3, p3⟩ : 0 < n7 ∧ (0 : Int) < (n7 : Int) ∧ 1 < n7 ∧ (1 : Int) < (n7 : Int) ∧ 2 < n7 ∧ (2 : Int) < (n7 : Int) ∧ 3 < n7 ∧ (3 : Int) < (n7 : Int) := by omega
 clear h4
 conv => arg 2; whnf
 go_wp2_with fail
 have hS : S4 g7 x0 x1 x2 x3 w5.drew := ⟨r0', r1', r2', r3'⟩
 go_region_held3 (fun W => S4 g7 x0 x1 x2 x3 W) (first | with_reducible exact hS | with_reducible exact keep4d hne _ _ (by assumption)) (first | fail)
 have H := Aside0.mk (((HI.out.putj 1 (by decide) (by decide) x0).putj 2 (by decide) (by decide) x1).putj 3 (by decide) (by decide) x2).drew
 obtain ⟨w6, hw6⟩ : ∃ w6, w6 = (((w5.setCell ⟨g5, 1, none⟩ (.int .i64 x0)).setCell ⟨g5, 2, none⟩ (.int .i64 x1)).setCell ⟨g5, 3, none⟩ (.int .i64 x2)).drew := ⟨_, rfl⟩
 rw [← hw6] at H ⊢
 clear hw6 HI hS f0 c0 f1 c1 f2 c2 f3 c3 f6 c6 r0' r1' r2' r3' z5
 have d0 : w6.cell? ⟨g5, 0, none⟩ = some (.int .i64 4) := (blk_cell H.out.i 0).trans rfl
 have d6 : w6.cell? ⟨g5, 6, none⟩ = some (.int .u32 k) := (blk_cell H.out.i 6).trans rfl
 have e6 := blk_frozen H.out.i 6
 have e7 : g5 < w6.heap.size := blk_lt H.out.i
 go_wp2
 rw [setF_4] at hQ
 apply hQ.out
 exact ⟨H.out.putk (y0 % 4294967296)⟩

set_option maxHeartbeats 4000000 in
set_option maxRecDepth 100000 in
theorem sw_5 : SwOk 5 := by
 intro w w5 g5 g7 n7 c7 g cur k x0 x1 x2 x3 y0 y1 HI h4 hne r0' r1' r2' r3' Q
 intros
 rename_i hQ
 replace hQ := Aside0.mk hQ
 obtain ⟨f0, c0⟩ := sw_cells HI.out 0 _ rfl
 obtain ⟨f1, c1⟩ := sw_cells HI.out 1 _ rfl
 obtain ⟨f2, c2⟩ := sw_cells HI.out 2 _ rfl
 obtain ⟨f3, c3⟩ := sw_cells HI.out 3 _ rfl
 obtain ⟨f6, c6⟩ := sw_cells HI.out 6 _ rfl
 have z5 : g5 < w5.heap.size := blk_lt HI.out.i
 have wr0 : IntKind.u32.wrap y0 = y0 % 4294967296 := IntKind.wrap_u32 _
 have wr1 : IntKind.u32.wrap y1 = y1 % 4294967296 := IntKind.wrap_u32 _
 obtain ⟨q0, p0, q1, p1, q2, p2, q3, p3⟩ : 0 < n7 ∧ (0 : Int) < (n7 : Int) ∧ 1 < n7 ∧ (1 : Int) < (n7 : Int) ∧ 2 < n7 ∧ (2 : Int) < (n7 : Int) ∧ 3 < n7 ∧ (3 : Int) < (n7 : Int) := by omega
 clear h4
 conv => arg 2; whnf
 go_wp2_with fail
 have hS : S4 g7 x0 x1 x2 x3 w5.drew := ⟨r0', r1', r2', r3'⟩
 go_region_held3 (fun W => S4 g7 x0 x1 x2 x3 W) (first | with_reducible exact hS | with_reducible exact keep4d hne _ _ (by assumption)) (first | fail)
 have H := Aside0.mk (((HI.out.putj 1 (by decide) (by decide) x0).putj 2 (by decide) (by decide) x1).putj 3 (by decide) (by decide) x2).drew
 obtain ⟨w6, hw6⟩ : ∃ w6, w6 = (((w5.setCell ⟨g5, 1, none⟩ (.int .i64 x0)).setCell ⟨g5, 2, none⟩ (.int .i64 x1)).setCell ⟨g5, 3, none⟩ (.int .i64 x2)).drew := ⟨_, rfl⟩
 rw [← hw6] at H ⊢
 clear hw6 HI hS f0 c0 f1 c1 f2 c2 f3 c3 f6 c6 r0' r1' r2' r3' z5
 have d0 : w6.cell? ⟨g5, 0, none⟩ = some (.int .i64 5) := (blk_cell H.out.i 0).trans rfl
 have d6 : w6.cell? ⟨g5, 6, none⟩ = some (.int .u32 k) := (blk_cell H.out.i 6).trans rfl
 have e6 := blk_frozen H.out.i 6
 have e7 : g5 < w6.heap.size := blk_lt H.out.i
 go_wp2
 rw [setF_5] at hQ
 apply hQ.out
 exact ⟨H.out.putk (y0 % 4294967296)⟩

set_option maxHeartbeats 4000000 in
set_option maxRecDepth 100000 in
theorem sw_6 : SwOk 6 := by
 intro w w5 g5 g7 n7 c7 g cur k x0 x1 x2 x3 y0 y1 HI h4 hne r0' r1' r2' r3' Q
 intros
 rename_i hQ
 replace hQ := Aside0.mk hQ
 obtain ⟨f0, c0⟩ := sw_cells HI.out 0 _ rfl
 obtain ⟨f1, c1⟩ := sw_cells HI.out 1 _ rfl
 obtain ⟨f2, c2⟩ := sw_cells HI.out 2 _ rfl
 obtain ⟨f3, c3⟩ := sw_cells HI.out 3 _ rfl
 obtain ⟨f6, c6⟩ := sw_cells HI.out 6 _ rfl
 have z5 : g5 < w5.heap.size := blk_lt HI.out.i
 have wr0 : IntKind.u32.wrap y0 = y0 % 4294967296 := IntKind.wrap_u32 _
 have wr1 : IntKind.u32.wrap y1 = y1 % 4294967296 := IntKind.wrap_u32 _
 obtain ⟨q0, p0, q1, p1, q2, p2, q3, p3⟩ : 0 < n7 ∧ (0 : Int) < (n7 : Int) ∧ 1 < n7 ∧ (1 : Int) < (n7 : Int) ∧ 2 < n7 ∧ (2 : Int) < (n7 : Int) ∧ 3 < n7 ∧ (3 : Int) < (n7 : Int) := by omega
 clear h4
 conv => arg 2; whnf
 go_wp2_with fail
 have hS : S4 g7 x0 x1 x2 x3 w5.drew := ⟨r0', r1', r2', r3'⟩
 go_region_held3 (fun W => S4 g7 x0 x1 x2 x3 W) (first | with_reducible exact hS | with_reducible exact keep4d hne _ _ (by assumption)) (first | fail)
 have H := Aside0.mk (((HI.out.putj 1 (by decide) (by decide) x0).putj 2 (by decide) (by decide) x1).putj 3 (by decide) (by decide) x2).drew
 obtain ⟨w6, hw6⟩ : ∃ w6, w6 = (((w5.setCell ⟨g5, 1, none⟩ (.int .i64 x0)).setCell ⟨g5, 2, none⟩ (.int .i64 x1)).setCell ⟨g5, 3, none⟩ (.int .i64 x2)).drew := ⟨_, rfl⟩
 rw [← hw6] at H ⊢
 clear hw6 HI hS f0 c0 f1 c1 f2 c2 f3 c3 f6 c6 r0' r1' r2' r3' z5
 have d0 : w6.cell? ⟨g5, 0, none⟩ = some (.int .i64 6) := (blk_cell H.out.i 0).trans rfl
 have d6 : w6.cell? ⟨g5, 6, none⟩ = some (.int .u32 k) := (blk_cell H.out.i 6).trans rfl
 have e6 := blk_frozen H.out.i 6
 have e7 : g5 < w6.heap.size := blk_lt H.out.i
 go_wp2
 rw [setF_6] at hQ
 apply hQ.out
 exact ⟨H.out.putk (y0 % 4294967296)⟩

set_option maxHeartbeats 4000000 in
set_option maxRecDepth 100000 in
theorem sw_7 : SwOk 7 := by
 intro w w5 g5 g7 n7 c7 g cur k x0 x1 x2 x3 y0 y1 HI h4 hne r0' r1' r2' r3' Q
 intros
 rename_i hQ
 replace hQ := Aside0.mk hQ
 obtain ⟨f0, c0⟩ := sw_cells HI.out 0 _ rfl
 obtain ⟨f1, c1⟩ := sw_cells HI.out 1 _ rfl
 obtain ⟨f2, c2⟩ := sw_cells HI.out 2 _ rfl
 obtain ⟨f3, c3⟩ := sw_cells HI.out 3 _ rfl
 have z5 : g5 < w5.heap.size := blk_lt HI.out.i
 have wr0 : IntKind.u32.wrap y0 = y0 % 4294967296 := IntKind.wrap_u32 _
 have wr1 : IntKind.u32.wrap y1 = y1 % 4294967296 := IntKind.wrap_u32 _
 obtain ⟨q0, p0, q1, p1, q2, p2, q3, p3⟩ : 0 < n7 ∧ (0 : Int) < (n7 : Int) ∧ 1 < n7 ∧ (1 : Int) < (n7 : Int) ∧ 2 < n7 ∧ (2 : Int) < (n7 : Int) ∧ 3 < n7 ∧ (3 : Int) < (n7 : Int) := by omega
 clear h4
 conv => arg 2; whnf
 go_wp2_with fail
 have hS : S4 g7 x0 x1 x2 x3 w5.drew := ⟨r0', r1', r2', r3'⟩
 go_region_held3 (fun W => S4 g7 x0 x1 x2 x3 W) (first | with_reducible exact hS | with_reducible exact keep4d hne _ _ (by assumption)) (first | fail)
 have H := Aside0.mk (((HI.out.putj 1 (by decide) (by decide) x0).putj 2 (by decide) (by decide) x1).putj 3 (by decide) (by decide) x2).drew
 obtain ⟨w6, hw6⟩ : ∃ w6, w6 = (((w5.setCell ⟨g5, 1, none⟩ (.int .i64 x0)).setCell ⟨g5, 2, none⟩ (.int .i64 x1)).setCell ⟨g5, 3, none⟩ (.int .i64 x2)).drew := ⟨_, rfl⟩
 rw [← hw6] at H ⊢
 clear hw6 HI hS f0 c0 f1 c1 f2 c2 f3 c3 r0' r1' r2' r3' z5
 have d0 : w6.cell? ⟨g5, 0, none⟩ = some (.int .i64 7) := (blk_cell H.out.i 0).trans rfl
 go_wp2
 rw [setF_7] at hQ
 apply hQ.out
 exact ⟨H.out⟩
end Go.Proofs.YtbhpkeiofajbpaaGreatDoor
end
/- The switch of ropelineref06.Parse, op by op. -/
section
namespace Go.Proofs.YtbhpkeiofajbpaaGreatDoor
open Go.RowKit Go.Proofs.YtbhpkeiofajbpaaGreatDoorW.PrintWords
set_option linter.unusedVariables false
set_option linter.unusedSimpArgs false

set_option maxHeartbeats 4000000 in
set_option maxRecDepth 100000 in
theorem sw_11 : SwOk 11 := by
 intro w w5 g5 g7 n7 c7 g cur k x0 x1 x2 x3 y0 y1 HI h4 hne r0' r1' r2' r3' Q
 intros
 rename_i hQ
 replace hQ := Aside0.mk hQ
 obtain ⟨f0, c0⟩ := sw_cells HI.out 0 _ rfl
 obtain ⟨f1, c1⟩ := sw_cells HI.out 1 _ rfl
 obtain ⟨f2, c2⟩ := sw_cells HI.out 2 _ rfl
 obtain ⟨f3, c3⟩ := sw_cells HI.out 3 _ rfl
 have z5 : g5 < w5.heap.size := blk_lt HI.out.i
 have wr0 : IntKind.u32.wrap y0 = y0 % 4294967296 := IntKind.wrap_u32 _
 have wr1 : IntKind.u32.wrap y1 = y1 % 4294967296 := IntKind.wrap_u32 _
 obtain ⟨q0, p0, q1, p1, q2, p2, q3, p3⟩ : 0 < n7 ∧ (0 : Int) < (n7 : Int) ∧ 1 < n7 ∧ (1 : Int) < (n7 : Int) ∧ 2 < n7 ∧ (2 : Int) < (n7 : Int) ∧ 3 < n7 ∧ (3 : Int) < (n7 : Int) := by omega
 clear h4
 conv => arg 2; whnf
 go_wp2_with fail
 have hS : S4 g7 x0 x1 x2 x3 w5.drew := ⟨r0', r1', r2', r3'⟩
 go_region_held3 (fun W => S4 g7 x0 x1 x2 x3 W) (first | with_reducible exact hS | with_reducible exact keep4d hne _ _ (by assumption)) (first | fail)
 have H := Aside0.mk (((HI.out.putj 1 (by decide) (by decide) x0).putj 2 (by decide) (by decide) x1).putj 3 (by decide) (by decide) x2).drew
 obtain ⟨w6, hw6⟩ : ∃ w6, w6 = (((w5.setCell ⟨g5, 1, none⟩ (.int .i64 x0)).setCell ⟨g5, 2, none⟩ (.int .i64 x1)).setCell ⟨g5, 3, none⟩ (.int .i64 x2)).drew := ⟨_, rfl⟩
 rw [← hw6] at H ⊢
 clear hw6 HI hS f0 c0 f1 c1 f2 c2 f3 c3 r0' r1' r2' r3' z5
 have d0 : w6.cell? ⟨g5, 0, none⟩ = some (.int .i64 11) := (blk_cell H.out.i 0).trans rfl
 go_wp2
 rw [setF_11] at hQ
 apply hQ.out
 exact ⟨H.out⟩

set_option maxHeartbeats 4000000 in
set_option maxRecDepth 100000 in
theorem sw_22 : SwOk 22 := by
 intro w w5 g5 g7 n7 c7 g cur k x0 x1 x2 x3 y0 y1 HI h4 hne r0' r1' r2' r3' Q
 intros
 rename_i hQ
 replace hQ := Aside0.mk hQ
 obtain ⟨f0, c0⟩ := sw_cells HI.out 0 _ rfl
 obtain ⟨f1, c1⟩ := sw_cells HI.out 1 _ rfl
 obtain ⟨f2, c2⟩ := sw_cells HI.out 2 _ rfl
 obtain ⟨f3, c3⟩ := sw_cells HI.out 3 _ rfl
 have z5 : g5 < w5.heap.size := blk_lt HI.out.i
 have wr0 : IntKind.u32.wrap y0 = y0 % 4294967296 := IntKind.wrap_u32 _
 have wr1 : IntKind.u32.wrap y1 = y1 % 4294967296 := IntKind.wrap_u32 _
 obtain ⟨q0, p0, q1, p1, q2, p2, q3, p3⟩ : 0 < n7 ∧ (0 : Int) < (n7 : Int) ∧ 1 < n7 ∧ (1 : Int) < (n7 : Int) ∧ 2 < n7 ∧ (2 : Int) < (n7 : Int) ∧ 3 < n7 ∧ (3 : Int) < (n7 : Int) := by omega
 clear h4
 conv => arg 2; whnf
 go_wp2_with fail
 have hS : S4 g7 x0 x1 x2 x3 w5.drew := ⟨r0', r1', r2', r3'⟩
 go_region_held3 (fun W => S4 g7 x0 x1 x2 x3 W) (first | with_reducible exact hS | with_reducible exact keep4d hne _ _ (by assumption)) (first | fail)
 have H := Aside0.mk (((HI.out.putj 1 (by decide) (by decide) x0).putj 2 (by decide) (by decide) x1).putj 3 (by decide) (by decide) x2).drew
 obtain ⟨w6, hw6⟩ : ∃ w6, w6 = (((w5.setCell ⟨g5, 1, none⟩ (.int .i64 x0)).setCell ⟨g5, 2, none⟩ (.int .i64 x1)).setCell ⟨g5, 3, none⟩ (.int .i64 x2)).drew := ⟨_, rfl⟩
 rw [← hw6] at H ⊢
 clear hw6 HI hS f0 c0 f1 c1 f2 c2 f3 c3 r0' r1' r2' r3' z5
 have d0 : w6.cell? ⟨g5, 0, none⟩ = some (.int .i64 22) := (blk_cell H.out.i 0).trans rfl
 go_wp2
 rw [setF_22] at hQ
 apply hQ.out
 exact ⟨H.out⟩

set_option maxHeartbeats 4000000 in
set_option maxRecDepth 100000 in
theorem sw_8 : SwOk 8 := by
 intro w w5 g5 g7 n7 c7 g cur k x0 x1 x2 x3 y0 y1 HI h4 hne r0' r1' r2' r3' Q
 intros
 rename_i hQ
 replace hQ := Aside0.mk hQ
 obtain ⟨f0, c0⟩ := sw_cells HI.out 0 _ rfl
 obtain ⟨f2, c2⟩ := sw_cells HI.out 2 _ rfl
 obtain ⟨f3, c3⟩ := sw_cells HI.out 3 _ rfl
 obtain ⟨f7, c7⟩ := sw_cells HI.out 7 _ rfl
 have z5 : g5 < w5.heap.size := blk_lt HI.out.i
 have wr0 : IntKind.u32.wrap y0 = y0 % 4294967296 := IntKind.wrap_u32 _
 have wr1 : IntKind.u32.wrap y1 = y1 % 4294967296 := IntKind.wrap_u32 _
 obtain ⟨q0, p0, q1, p1, q2, p2, q3, p3⟩ : 0 < n7 ∧ (0 : Int) < (n7 : Int) ∧ 1 < n7 ∧ (1 : Int) < (n7 : Int) ∧ 2 < n7 ∧ (2 : Int) < (n7 : Int) ∧ 3 < n7 ∧ (3 : Int) < (n7 : Int) := by omega
 clear h4
 conv => arg 2; whnf
 go_wp2_with fail
 have hS : S4 g7 x0 x1 x2 x3 w5.drew := ⟨r0', r1', r2', r3'⟩
 go_region_held3 (fun W => S4 g7 x0 x1 x2 x3 W) (first | with_reducible exact hS | with_reducible exact keep4d hne _ _ (by assumption)) (first | fail)
 have H := Aside0.mk (((HI.out.putj 2 (by decide) (by decide) x0).putj 3 (by decide) (by decide) x1).putq y0).drew
 obtain ⟨w6, hw6⟩ : ∃ w6, w6 = (((w5.setCell ⟨g5, 2, none⟩ (.int .i64 x0)).setCell ⟨g5, 3, none⟩ (.int .i64 x1)).setCell ⟨g5, 7, none⟩ (.int .i64 y0)).drew := ⟨_, rfl⟩
 rw [← hw6] at H ⊢
 clear hw6 HI hS f0 c0 f2 c2 f3 c3 f7 c7 r0' r1' r2' r3' z5
 go_wp2
 rw [setF_8] at hQ
 apply hQ.out
 exact ⟨H.out⟩

set_option maxHeartbeats 4000000 in
set_option maxRecDepth 100000 in
theorem sw_9 : SwOk 9 := by
 intro w w5 g5 g7 n7 c7 g cur k x0 x1 x2 x3 y0 y1 HI h4 hne r0' r1' r2' r3' Q
 intros
 rename_i hQ
 replace hQ := Aside0.mk hQ
 obtain ⟨f0, c0⟩ := sw_cells HI.out 0 _ rfl
 obtain ⟨f2, c2⟩ := sw_cells HI.out 2 _ rfl
 obtain ⟨f3, c3⟩ := sw_cells HI.out 3 _ rfl
 obtain ⟨f7, c7⟩ := sw_cells HI.out 7 _ rfl
 have z5 : g5 < w5.heap.size := blk_lt HI.out.i
 have wr0 : IntKind.u32.wrap y0 = y0 % 4294967296 := IntKind.wrap_u32 _
 have wr1 : IntKind.u32.wrap y1 = y1 % 4294967296 := IntKind.wrap_u32 _
 obtain ⟨q0, p0, q1, p1, q2, p2, q3, p3⟩ : 0 < n7 ∧ (0 : Int) < (n7 : Int) ∧ 1 < n7 ∧ (1 : Int) < (n7 : Int) ∧ 2 < n7 ∧ (2 : Int) < (n7 : Int) ∧ 3 < n7 ∧ (3 : Int) < (n7 : Int) := by omega
 clear h4
 conv => arg 2; whnf
 go_wp2_with fail
 have hS : S4 g7 x0 x1 x2 x3 w5.drew := ⟨r0', r1', r2', r3'⟩
 go_region_held3 (fun W => S4 g7 x0 x1 x2 x3 W) (first | with_reducible exact hS | with_reducible exact keep4d hne _ _ (by assumption)) (first | fail)
 have H := Aside0.mk (((HI.out.putj 2 (by decide) (by decide) x0).putj 3 (by decide) (by decide) x1).putq y0).drew
 obtain ⟨w6, hw6⟩ : ∃ w6, w6 = (((w5.setCell ⟨g5, 2, none⟩ (.int .i64 x0)).setCell ⟨g5, 3, none⟩ (.int .i64 x1)).setCell ⟨g5, 7, none⟩ (.int .i64 y0)).drew := ⟨_, rfl⟩
 rw [← hw6] at H ⊢
 clear hw6 HI hS f0 c0 f2 c2 f3 c3 f7 c7 r0' r1' r2' r3' z5
 go_wp2
 rw [setF_9] at hQ
 apply hQ.out
 exact ⟨H.out⟩

set_option maxHeartbeats 4000000 in
set_option maxRecDepth 100000 in
theorem sw_10 : SwOk 10 := by
 intro w w5 g5 g7 n7 c7 g cur k x0 x1 x2 x3 y0 y1 HI h4 hne r0' r1' r2' r3' Q
 intros
 rename_i hQ
 replace hQ := Aside0.mk hQ
 obtain ⟨f0, c0⟩ := sw_cells HI.out 0 _ rfl
 obtain ⟨f2, c2⟩ := sw_cells HI.out 2 _ rfl
 obtain ⟨f3, c3⟩ := sw_cells HI.out 3 _ rfl
 obtain ⟨f7, c7⟩ := sw_cells HI.out 7 _ rfl
 have z5 : g5 < w5.heap.size := blk_lt HI.out.i
 have wr0 : IntKind.u32.wrap y0 = y0 % 4294967296 := IntKind.wrap_u32 _
 have wr1 : IntKind.u32.wrap y1 = y1 % 4294967296 := IntKind.wrap_u32 _
 obtain ⟨q0, p0, q1, p1, q2, p2, q3, p3⟩ : 0 < n7 ∧ (0 : Int) < (n7 : Int) ∧ 1 < n7 ∧ (1 : Int) < (n7 : Int) ∧ 2 < n7 ∧ (2 : Int) < (n7 : Int) ∧ 3 < n7 ∧ (3 : Int) < (n7 : Int) := by omega
 clear h4
 conv => arg 2; whnf
 go_wp2_with fail
 have hS : S4 g7 x0 x1 x2 x3 w5.drew := ⟨r0', r1', r2', r3'⟩
 go_region_held3 (fun W => S4 g7 x0 x1 x2 x3 W) (first | with_reducible exact hS | with_reducible exact keep4d hne _ _ (by assumption)) (first | fail)
 have H := Aside0.mk (((HI.out.putj 2 (by decide) (by decide) x0).putj 3 (by decide) (by decide) x1).putq y0).drew
 obtain ⟨w6, hw6⟩ : ∃ w6, w6 = (((w5.setCell ⟨g5, 2, none⟩ (.int .i64 x0)).setCell ⟨g5, 3, none⟩ (.int .i64 x1)).setCell ⟨g5, 7, none⟩ (.int .i64 y0)).drew := ⟨_, rfl⟩
 rw [← hw6] at H ⊢
 clear hw6 HI hS f0 c0 f2 c2 f3 c3 f7 c7 r0' r1' r2' r3' z5
 go_wp2
 rw [setF_10] at hQ
 apply hQ.out
 exact ⟨H.out⟩

set_option maxHeartbeats 4000000 in
set_option maxRecDepth 100000 in
theorem sw_16 : SwOk 16 := by
 intro w w5 g5 g7 n7 c7 g cur k x0 x1 x2 x3 y0 y1 HI h4 hne r0' r1' r2' r3' Q
 intros
 rename_i hQ
 replace hQ := Aside0.mk hQ
 obtain ⟨f0, c0⟩ := sw_cells HI.out 0 _ rfl
 obtain ⟨f1, c1⟩ := sw_cells HI.out 1 _ rfl
 obtain ⟨f2, c2⟩ := sw_cells HI.out 2 _ rfl
 obtain ⟨f3, c3⟩ := sw_cells HI.out 3 _ rfl
 obtain ⟨f4, c4⟩ := sw_cells HI.out 4 _ rfl
 obtain ⟨f5, c5⟩ := sw_cells HI.out 5 _ rfl
 have z5 : g5 < w5.heap.size := blk_lt HI.out.i
 have wr0 : IntKind.u32.wrap y0 = y0 % 4294967296 := IntKind.wrap_u32 _
 have wr1 : IntKind.u32.wrap y1 = y1 % 4294967296 := IntKind.wrap_u32 _
 obtain ⟨q0, p0, q1, p1, q2, p2, q3, p3⟩ : 0 < n7 ∧ (0 : Int) < (n7 : Int) ∧ 1 < n7 ∧ (1 : Int) < (n7 : Int) ∧ 2 < n7 ∧ (2 : Int) < (n7 : Int) ∧ 3 < n7 ∧ (3 : Int) < (n7 : Int) := by omega
 clear h4
 conv => arg 2; whnf
 go_wp2_with fail
 have hS : S4 g7 x0 x1 x2 x3 w5.drew := ⟨r0', r1', r2', r3'⟩
 go_region_held3 (fun W => S4 g7 x0 x1 x2 x3 W) (first | with_reducible exact hS | with_reducible exact keep4d hne _ _ (by assumption)) (first | fail)
 have H := Aside0.mk (((((HI.out.putj 1 (by decide) (by decide) x0).putj 2 (by decide) (by decide) x1).putj 3 (by decide) (by decide) x2).putj 4 (by decide) (by decide) x3).putj 5 (by decide) (by decide) y0).drew
 obtain ⟨w6, hw6⟩ : ∃ w6, w6 = (((((w5.setCell ⟨g5, 1, none⟩ (.int .i64 x0)).setCell ⟨g5, 2, none⟩ (.int .i64 x1)).setCell ⟨g5, 3, none⟩ (.int .i64 x2)).setCell ⟨g5, 4, none⟩ (.int .i64 x3)).setCell ⟨g5, 5, none⟩ (.int .i64 y0)).drew := ⟨_, rfl⟩
 rw [← hw6] at H ⊢
 clear hw6 HI hS f0 c0 f1 c1 f2 c2 f3 c3 f4 c4 f5 c5 r0' r1' r2' r3' z5
 have d0 : w6.cell? ⟨g5, 0, none⟩ = some (.int .i64 16) := (blk_cell H.out.i 0).trans rfl
 go_wp2
 rw [setF_16] at hQ
 apply hQ.out
 exact ⟨H.out⟩
end Go.Proofs.YtbhpkeiofajbpaaGreatDoor
end

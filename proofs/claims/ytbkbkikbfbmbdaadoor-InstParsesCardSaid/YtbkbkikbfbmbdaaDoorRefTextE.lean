/- ropelineref06.Text of what fits, op by op: 19, 20, 22, 23. -/
import Derived.Test.YtbkbkikbfbmbdaaDoorRefTextBox
namespace Go.Proofs.YtbkbkikbfbmbdaaDoor
open Go.RowKit Go.Proofs.YtbkbkikbfbmbdaaDoorW.PrintWords
set_option linter.unusedVariables false
set_option linter.unusedSimpArgs false

set_option maxHeartbeats 4000000 in
set_option maxRecDepth 100000 in
theorem rt_19 (d s t u a k q : Int) (hf : In.fits ⟨19, d, s, t, u, a, k, q⟩) (hq : 0 ≤ q) (w : World) :
    Calls Tryd.prog 14 #[.agg #[.int .i64 19, .int .i64 d, .int .i64 s, .int .i64 t, .int .i64 u, .int .i64 a, .int .u32 k, .int .i64 q]] w fun e w' => e = .returned (.string ⟨(textF ⟨19, d, s, t, u, a, k, q⟩).toArray⟩) ∧ Below w.heap.size w w' := by
  have te : textF ⟨19, d, s, t, u, a, k, q⟩ = opName 19 ++ (((((32 :: 114 :: dec d) ++ (32 :: dec a)) ++ (32 :: 114 :: dec s)) ++ (32 :: 114 :: dec t)) ++ (32 :: 114 :: dec u)) := by
    show Go.Lib.join (opName 19 :: List.flatten [[114 :: dec d], [dec a], [114 :: dec s], [114 :: dec t], [114 :: dec u]]) [32] = _
    simp [join_two, Go.Lib.join_one]
  have CN := Aside0.mk (fun W => name_calls 19 W)
  have CK := Aside0.mk (fun W => digits_int hf.k.1 hf.k.2 W)
  have CA := Aside0.mk (fun W => digits_int hf.a.1 (Int.le_trans hf.a.2 (by decide)) W)
  have CQ := Aside0.mk (fun W => digits_int hq (Int.le_trans hf.q.2 (by decide)) W)
  have Cd := Aside0.mk (fun W => r_calls hf.d.1 (Int.le_trans hf.d.2 (by decide)) W)
  have Cs := Aside0.mk (fun W => r_calls hf.s.1 (Int.le_trans hf.s.2 (by decide)) W)
  have Ct := Aside0.mk (fun W => r_calls hf.t.1 (Int.le_trans hf.t.2 (by decide)) W)
  have Cu := Aside0.mk (fun W => r_calls hf.u.1 (Int.le_trans hf.u.2 (by decide)) W)
  have hk : 0 ≤ k ∧ k ≤ 4294967295 := hf.k
  have wk : IntKind.i64.wrap k = k := by rw [IntKind.wrap_i64]; omega
  have lk0 := dec_le10 hf.k.2
  have lq0 := dec_le10 (Int.le_trans hf.q.2 (show (1073741824 : Int) ≤ 4294967295 by decide))
  have ld0 := dec_le10 (Int.le_trans hf.d.2 (show (7 : Int) ≤ 4294967295 by decide))
  have ls0 := dec_le10 (Int.le_trans hf.s.2 (show (7 : Int) ≤ 4294967295 by decide))
  have lt0 := dec_le10 (Int.le_trans hf.t.2 (show (7 : Int) ≤ 4294967295 by decide))
  have lu0 := dec_le10 (Int.le_trans hf.u.2 (show (7 : Int) ≤ 4294967295 by decide))
  have la0 := dec_le10 (Int.le_trans hf.a.2 (show (7 : Int) ≤ 4294967295 by decide))
  dsimp only at lk0 lq0 ld0 ls0 lt0 lu0 la0 CN CK CA CQ
  dsimp only at Cd
  dsimp only at Cs
  dsimp only at Ct
  dsimp only at Cu
  have ln0 : (opName 19).length = 3 := by decide
  have lk : ¬ 9223372036854775807 < 1 + (dec k).length := by omega
  have la : ¬ 9223372036854775807 < 1 + (dec a).length := by omega
  have lq : ¬ 9223372036854775807 < 1 + (dec q).length := by omega
  have b2 : ¬ 9223372036854775807 < (((dec d).length + 1 + 1) + (1 + (dec a).length)) := by omega
  have b3 : ¬ 9223372036854775807 < ((((dec d).length + 1 + 1) + (1 + (dec a).length)) + ((dec s).length + 1 + 1)) := by omega
  have b4 : ¬ 9223372036854775807 < (((((dec d).length + 1 + 1) + (1 + (dec a).length)) + ((dec s).length + 1 + 1)) + ((dec t).length + 1 + 1)) := by omega
  have b5 : ¬ 9223372036854775807 < ((((((dec d).length + 1 + 1) + (1 + (dec a).length)) + ((dec s).length + 1 + 1)) + ((dec t).length + 1 + 1)) + ((dec u).length + 1 + 1)) := by omega
  have bn : ¬ 9223372036854775807 < (opName 19).length + ((((((dec d).length + 1 + 1) + (1 + (dec a).length)) + ((dec s).length + 1 + 1)) + ((dec t).length + 1 + 1)) + ((dec u).length + 1 + 1)) := by omega
  clear lk0 lq0 ld0 ls0 lt0 lu0 la0 ln0 hk
  have hS := rbox_cells (w := w) (W := (w.alloc (.cells (In.cs ⟨19, d, s, t, u, a, k, q⟩) 27)).drew) ⟨blk_drew (blk_new w (.cells (In.cs ⟨19, d, s, t, u, a, k, q⟩) 27)), below_drew ((Below.refl w.heap.size w).alloc (Nat.le_refl _) _)⟩
  replace hf := Aside0.mk hf
  replace te := Aside0.mk te
  go_enter Tryd.func14, Tryd.ntmps14
  go_wp2_with fail
  go_region_held3 (fun W => Aside0 (W.heap[w.heap.size]? = some (.cells (In.cs ⟨19, d, s, t, u, a, k, q⟩) 27 (0, 0)) ∧ Below w.heap.size w W) ∧ W.cell? ⟨w.heap.size, 0, none⟩ = some (.int .i64 19) ∧ W.cell? ⟨w.heap.size, 1, none⟩ = some (.int .i64 d) ∧ W.cell? ⟨w.heap.size, 2, none⟩ = some (.int .i64 s) ∧ W.cell? ⟨w.heap.size, 3, none⟩ = some (.int .i64 t) ∧ W.cell? ⟨w.heap.size, 4, none⟩ = some (.int .i64 u) ∧ W.cell? ⟨w.heap.size, 5, none⟩ = some (.int .i64 a) ∧ W.cell? ⟨w.heap.size, 6, none⟩ = some (.int .u32 k) ∧ W.cell? ⟨w.heap.size, 7, none⟩ = some (.int .i64 q))
    (first | exact hS | exact rbox_next hb (by assumption))
    (first
      | (go_at_call 27; (with_reducible refine (CK.out _).mono ?_); rintro e w' ⟨rfl, hb⟩)
      | (go_at_call 27; (with_reducible refine (CA.out _).mono ?_); rintro e w' ⟨rfl, hb⟩))
  obtain ⟨HA, y0, y1, y2, y3, y4, y5, y6, y7⟩ := rbox_next (Below.refl _ _) (by assumption)
  go_wp2_with fail
  refine (CQ.out _).mono ?_
  rintro e w2 ⟨rfl, hb2⟩
  obtain ⟨HA, y0, y1, y2, y3, y4, y5, y6, y7⟩ := rbox_next hb2 ⟨HA, y0, y1, y2, y3, y4, y5, y6, y7⟩
  go_wp2_with fail
  refine (CN.out _).mono ?_
  rintro e w3 ⟨rfl, hb3⟩
  obtain ⟨HA, y0, y1, y2, y3, y4, y5, y6, y7⟩ := rbox_next hb3 ⟨HA, y0, y1, y2, y3, y4, y5, y6, y7⟩
  go_wp2_with fail
  have hT := rbox_next (below_drew (Below.refl w3.heap.size w3)) ⟨HA, y0, y1, y2, y3, y4, y5, y6, y7⟩
  go_region_held3 (fun W => Aside0 (W.heap[w.heap.size]? = some (.cells (In.cs ⟨19, d, s, t, u, a, k, q⟩) 27 (0, 0)) ∧ Below w.heap.size w W) ∧ W.cell? ⟨w.heap.size, 0, none⟩ = some (.int .i64 19) ∧ W.cell? ⟨w.heap.size, 1, none⟩ = some (.int .i64 d) ∧ W.cell? ⟨w.heap.size, 2, none⟩ = some (.int .i64 s) ∧ W.cell? ⟨w.heap.size, 3, none⟩ = some (.int .i64 t) ∧ W.cell? ⟨w.heap.size, 4, none⟩ = some (.int .i64 u) ∧ W.cell? ⟨w.heap.size, 5, none⟩ = some (.int .i64 a) ∧ W.cell? ⟨w.heap.size, 6, none⟩ = some (.int .u32 k) ∧ W.cell? ⟨w.heap.size, 7, none⟩ = some (.int .i64 q))
    (first | exact hT | exact rbox_next hb (by assumption))
    (first
      | (go_at_call 28; (with_reducible refine (Cd.out _).mono ?_); rintro e w' ⟨rfl, hb⟩)
      | (go_at_call 28; (with_reducible refine (Cs.out _).mono ?_); rintro e w' ⟨rfl, hb⟩)
      | (go_at_call 28; (with_reducible refine (Ct.out _).mono ?_); rintro e w' ⟨rfl, hb⟩)
      | (go_at_call 28; (with_reducible refine (Cu.out _).mono ?_); rintro e w' ⟨rfl, hb⟩))
  obtain ⟨HA, y0, y1, y2, y3, y4, y5, y6, y7⟩ := rbox_next (Below.refl _ _) (by assumption)
  go_wp2
  go_ret
  refine ⟨ret_str' ?_, HA.out.2⟩
  rw [te.out]
  simp [sp_mk, app_mk]
set_option maxHeartbeats 4000000 in
set_option maxRecDepth 100000 in
theorem rt_19n (d s t u a k q : Int) (hf : In.fits ⟨19, d, s, t, u, a, k, q⟩) (hq : ¬ 0 ≤ q) (w : World) :
    Calls Tryd.prog 14 #[.agg #[.int .i64 19, .int .i64 d, .int .i64 s, .int .i64 t, .int .i64 u, .int .i64 a, .int .u32 k, .int .i64 q]] w fun e w' => e = .returned (.string ⟨(textF ⟨19, d, s, t, u, a, k, q⟩).toArray⟩) ∧ Below w.heap.size w w' := by
  have te : textF ⟨19, d, s, t, u, a, k, q⟩ = opName 19 ++ (((((32 :: 114 :: dec d) ++ (32 :: dec a)) ++ (32 :: 114 :: dec s)) ++ (32 :: 114 :: dec t)) ++ (32 :: 114 :: dec u)) := by
    show Go.Lib.join (opName 19 :: List.flatten [[114 :: dec d], [dec a], [114 :: dec s], [114 :: dec t], [114 :: dec u]]) [32] = _
    simp [join_two, Go.Lib.join_one]
  have CN := Aside0.mk (fun W => name_calls 19 W)
  have CK := Aside0.mk (fun W => digits_int hf.k.1 hf.k.2 W)
  have CA := Aside0.mk (fun W => digits_int hf.a.1 (Int.le_trans hf.a.2 (by decide)) W)
  have Cd := Aside0.mk (fun W => r_calls hf.d.1 (Int.le_trans hf.d.2 (by decide)) W)
  have Cs := Aside0.mk (fun W => r_calls hf.s.1 (Int.le_trans hf.s.2 (by decide)) W)
  have Ct := Aside0.mk (fun W => r_calls hf.t.1 (Int.le_trans hf.t.2 (by decide)) W)
  have Cu := Aside0.mk (fun W => r_calls hf.u.1 (Int.le_trans hf.u.2 (by decide)) W)
  have hk : 0 ≤ k ∧ k ≤ 4294967295 := hf.k
  have wk : IntKind.i64.wrap k = k := by rw [IntKind.wrap_i64]; omega
  have lk0 := dec_le10 hf.k.2
  have lq0 := dec_le10 (Int.le_trans hf.q.2 (show (1073741824 : Int) ≤ 4294967295 by decide))
  have ld0 := dec_le10 (Int.le_trans hf.d.2 (show (7 : Int) ≤ 4294967295 by decide))
  have ls0 := dec_le10 (Int.le_trans hf.s.2 (show (7 : Int) ≤ 4294967295 by decide))
  have lt0 := dec_le10 (Int.le_trans hf.t.2 (show (7 : Int) ≤ 4294967295 by decide))
  have lu0 := dec_le10 (Int.le_trans hf.u.2 (show (7 : Int) ≤ 4294967295 by decide))
  have la0 := dec_le10 (Int.le_trans hf.a.2 (show (7 : Int) ≤ 4294967295 by decide))
  dsimp only at lk0 lq0 ld0 ls0 lt0 lu0 la0 CN CK CA
  dsimp only at Cd
  dsimp only at Cs
  dsimp only at Ct
  dsimp only at Cu
  have ln0 : (opName 19).length = 3 := by decide
  have lk : ¬ 9223372036854775807 < 1 + (dec k).length := by omega
  have la : ¬ 9223372036854775807 < 1 + (dec a).length := by omega
  have b2 : ¬ 9223372036854775807 < (((dec d).length + 1 + 1) + (1 + (dec a).length)) := by omega
  have b3 : ¬ 9223372036854775807 < ((((dec d).length + 1 + 1) + (1 + (dec a).length)) + ((dec s).length + 1 + 1)) := by omega
  have b4 : ¬ 9223372036854775807 < (((((dec d).length + 1 + 1) + (1 + (dec a).length)) + ((dec s).length + 1 + 1)) + ((dec t).length + 1 + 1)) := by omega
  have b5 : ¬ 9223372036854775807 < ((((((dec d).length + 1 + 1) + (1 + (dec a).length)) + ((dec s).length + 1 + 1)) + ((dec t).length + 1 + 1)) + ((dec u).length + 1 + 1)) := by omega
  have bn : ¬ 9223372036854775807 < (opName 19).length + ((((((dec d).length + 1 + 1) + (1 + (dec a).length)) + ((dec s).length + 1 + 1)) + ((dec t).length + 1 + 1)) + ((dec u).length + 1 + 1)) := by omega
  clear lk0 lq0 ld0 ls0 lt0 lu0 la0 ln0 hk
  have hS := rbox_cells (w := w) (W := (w.alloc (.cells (In.cs ⟨19, d, s, t, u, a, k, q⟩) 27)).drew) ⟨blk_drew (blk_new w (.cells (In.cs ⟨19, d, s, t, u, a, k, q⟩) 27)), below_drew ((Below.refl w.heap.size w).alloc (Nat.le_refl _) _)⟩
  replace hf := Aside0.mk hf
  replace te := Aside0.mk te
  go_enter Tryd.func14, Tryd.ntmps14
  go_wp2_with fail
  go_region_held3 (fun W => Aside0 (W.heap[w.heap.size]? = some (.cells (In.cs ⟨19, d, s, t, u, a, k, q⟩) 27 (0, 0)) ∧ Below w.heap.size w W) ∧ W.cell? ⟨w.heap.size, 0, none⟩ = some (.int .i64 19) ∧ W.cell? ⟨w.heap.size, 1, none⟩ = some (.int .i64 d) ∧ W.cell? ⟨w.heap.size, 2, none⟩ = some (.int .i64 s) ∧ W.cell? ⟨w.heap.size, 3, none⟩ = some (.int .i64 t) ∧ W.cell? ⟨w.heap.size, 4, none⟩ = some (.int .i64 u) ∧ W.cell? ⟨w.heap.size, 5, none⟩ = some (.int .i64 a) ∧ W.cell? ⟨w.heap.size, 6, none⟩ = some (.int .u32 k) ∧ W.cell? ⟨w.heap.size, 7, none⟩ = some (.int .i64 q))
    (first | exact hS | exact rbox_next hb (by assumption))
    (first
      | (go_at_call 27; (with_reducible refine (CK.out _).mono ?_); rintro e w' ⟨rfl, hb⟩)
      | (go_at_call 27; (with_reducible refine (CA.out _).mono ?_); rintro e w' ⟨rfl, hb⟩))
  obtain ⟨HA, y0, y1, y2, y3, y4, y5, y6, y7⟩ := rbox_next (Below.refl _ _) (by assumption)
  go_wp2_with fail
  refine (CN.out _).mono ?_
  rintro e w2 ⟨rfl, hb2⟩
  obtain ⟨HA, y0, y1, y2, y3, y4, y5, y6, y7⟩ := rbox_next hb2 ⟨HA, y0, y1, y2, y3, y4, y5, y6, y7⟩
  go_wp2_with fail
  have hT := rbox_next (below_drew (Below.refl w2.heap.size w2)) ⟨HA, y0, y1, y2, y3, y4, y5, y6, y7⟩
  go_region_held3 (fun W => Aside0 (W.heap[w.heap.size]? = some (.cells (In.cs ⟨19, d, s, t, u, a, k, q⟩) 27 (0, 0)) ∧ Below w.heap.size w W) ∧ W.cell? ⟨w.heap.size, 0, none⟩ = some (.int .i64 19) ∧ W.cell? ⟨w.heap.size, 1, none⟩ = some (.int .i64 d) ∧ W.cell? ⟨w.heap.size, 2, none⟩ = some (.int .i64 s) ∧ W.cell? ⟨w.heap.size, 3, none⟩ = some (.int .i64 t) ∧ W.cell? ⟨w.heap.size, 4, none⟩ = some (.int .i64 u) ∧ W.cell? ⟨w.heap.size, 5, none⟩ = some (.int .i64 a) ∧ W.cell? ⟨w.heap.size, 6, none⟩ = some (.int .u32 k) ∧ W.cell? ⟨w.heap.size, 7, none⟩ = some (.int .i64 q))
    (first | exact hT | exact rbox_next hb (by assumption))
    (first
      | (go_at_call 28; (with_reducible refine (Cd.out _).mono ?_); rintro e w' ⟨rfl, hb⟩)
      | (go_at_call 28; (with_reducible refine (Cs.out _).mono ?_); rintro e w' ⟨rfl, hb⟩)
      | (go_at_call 28; (with_reducible refine (Ct.out _).mono ?_); rintro e w' ⟨rfl, hb⟩)
      | (go_at_call 28; (with_reducible refine (Cu.out _).mono ?_); rintro e w' ⟨rfl, hb⟩))
  obtain ⟨HA, y0, y1, y2, y3, y4, y5, y6, y7⟩ := rbox_next (Below.refl _ _) (by assumption)
  go_wp2
  go_ret
  refine ⟨ret_str' ?_, HA.out.2⟩
  rw [te.out]
  simp [sp_mk, app_mk]
set_option maxHeartbeats 4000000 in
set_option maxRecDepth 100000 in
theorem rt_20 (d s t u a k q : Int) (hf : In.fits ⟨20, d, s, t, u, a, k, q⟩) (hq : 0 ≤ q) (w : World) :
    Calls Tryd.prog 14 #[.agg #[.int .i64 20, .int .i64 d, .int .i64 s, .int .i64 t, .int .i64 u, .int .i64 a, .int .u32 k, .int .i64 q]] w fun e w' => e = .returned (.string ⟨(textF ⟨20, d, s, t, u, a, k, q⟩).toArray⟩) ∧ Below w.heap.size w w' := by
  have te : textF ⟨20, d, s, t, u, a, k, q⟩ = opName 20 ++ ((((32 :: 114 :: dec d) ++ (32 :: dec a)) ++ (32 :: 114 :: dec s)) ++ (32 :: dec k)) := by
    show Go.Lib.join (opName 20 :: List.flatten [[114 :: dec d], [dec a], [114 :: dec s], [dec k]]) [32] = _
    simp [join_two, Go.Lib.join_one]
  have CN := Aside0.mk (fun W => name_calls 20 W)
  have CK := Aside0.mk (fun W => digits_int hf.k.1 hf.k.2 W)
  have CA := Aside0.mk (fun W => digits_int hf.a.1 (Int.le_trans hf.a.2 (by decide)) W)
  have CQ := Aside0.mk (fun W => digits_int hq (Int.le_trans hf.q.2 (by decide)) W)
  have Cd := Aside0.mk (fun W => r_calls hf.d.1 (Int.le_trans hf.d.2 (by decide)) W)
  have Cs := Aside0.mk (fun W => r_calls hf.s.1 (Int.le_trans hf.s.2 (by decide)) W)
  have hk : 0 ≤ k ∧ k ≤ 4294967295 := hf.k
  have wk : IntKind.i64.wrap k = k := by rw [IntKind.wrap_i64]; omega
  have lk0 := dec_le10 hf.k.2
  have lq0 := dec_le10 (Int.le_trans hf.q.2 (show (1073741824 : Int) ≤ 4294967295 by decide))
  have ld0 := dec_le10 (Int.le_trans hf.d.2 (show (7 : Int) ≤ 4294967295 by decide))
  have ls0 := dec_le10 (Int.le_trans hf.s.2 (show (7 : Int) ≤ 4294967295 by decide))
  have lt0 := dec_le10 (Int.le_trans hf.t.2 (show (7 : Int) ≤ 4294967295 by decide))
  have lu0 := dec_le10 (Int.le_trans hf.u.2 (show (7 : Int) ≤ 4294967295 by decide))
  have la0 := dec_le10 (Int.le_trans hf.a.2 (show (7 : Int) ≤ 4294967295 by decide))
  dsimp only at lk0 lq0 ld0 ls0 lt0 lu0 la0 CN CK CA CQ
  dsimp only at Cd
  dsimp only at Cs
  have ln0 : (opName 20).length = 4 := by decide
  have lk : ¬ 9223372036854775807 < 1 + (dec k).length := by omega
  have la : ¬ 9223372036854775807 < 1 + (dec a).length := by omega
  have lq : ¬ 9223372036854775807 < 1 + (dec q).length := by omega
  have b2 : ¬ 9223372036854775807 < (((dec d).length + 1 + 1) + (1 + (dec a).length)) := by omega
  have b3 : ¬ 9223372036854775807 < ((((dec d).length + 1 + 1) + (1 + (dec a).length)) + ((dec s).length + 1 + 1)) := by omega
  have b4 : ¬ 9223372036854775807 < (((((dec d).length + 1 + 1) + (1 + (dec a).length)) + ((dec s).length + 1 + 1)) + (1 + (dec k).length)) := by omega
  have bn : ¬ 9223372036854775807 < (opName 20).length + (((((dec d).length + 1 + 1) + (1 + (dec a).length)) + ((dec s).length + 1 + 1)) + (1 + (dec k).length)) := by omega
  clear lk0 lq0 ld0 ls0 lt0 lu0 la0 ln0 hk
  have hS := rbox_cells (w := w) (W := (w.alloc (.cells (In.cs ⟨20, d, s, t, u, a, k, q⟩) 27)).drew) ⟨blk_drew (blk_new w (.cells (In.cs ⟨20, d, s, t, u, a, k, q⟩) 27)), below_drew ((Below.refl w.heap.size w).alloc (Nat.le_refl _) _)⟩
  replace hf := Aside0.mk hf
  replace te := Aside0.mk te
  go_enter Tryd.func14, Tryd.ntmps14
  go_wp2_with fail
  go_region_held3 (fun W => Aside0 (W.heap[w.heap.size]? = some (.cells (In.cs ⟨20, d, s, t, u, a, k, q⟩) 27 (0, 0)) ∧ Below w.heap.size w W) ∧ W.cell? ⟨w.heap.size, 0, none⟩ = some (.int .i64 20) ∧ W.cell? ⟨w.heap.size, 1, none⟩ = some (.int .i64 d) ∧ W.cell? ⟨w.heap.size, 2, none⟩ = some (.int .i64 s) ∧ W.cell? ⟨w.heap.size, 3, none⟩ = some (.int .i64 t) ∧ W.cell? ⟨w.heap.size, 4, none⟩ = some (.int .i64 u) ∧ W.cell? ⟨w.heap.size, 5, none⟩ = some (.int .i64 a) ∧ W.cell? ⟨w.heap.size, 6, none⟩ = some (.int .u32 k) ∧ W.cell? ⟨w.heap.size, 7, none⟩ = some (.int .i64 q))
    (first | exact hS | exact rbox_next hb (by assumption))
    (first
      | (go_at_call 27; (with_reducible refine (CK.out _).mono ?_); rintro e w' ⟨rfl, hb⟩)
      | (go_at_call 27; (with_reducible refine (CA.out _).mono ?_); rintro e w' ⟨rfl, hb⟩))
  obtain ⟨HA, y0, y1, y2, y3, y4, y5, y6, y7⟩ := rbox_next (Below.refl _ _) (by assumption)
  go_wp2_with fail
  refine (CQ.out _).mono ?_
  rintro e w2 ⟨rfl, hb2⟩
  obtain ⟨HA, y0, y1, y2, y3, y4, y5, y6, y7⟩ := rbox_next hb2 ⟨HA, y0, y1, y2, y3, y4, y5, y6, y7⟩
  go_wp2_with fail
  refine (CN.out _).mono ?_
  rintro e w3 ⟨rfl, hb3⟩
  obtain ⟨HA, y0, y1, y2, y3, y4, y5, y6, y7⟩ := rbox_next hb3 ⟨HA, y0, y1, y2, y3, y4, y5, y6, y7⟩
  go_wp2_with fail
  have hT := rbox_next (below_drew (Below.refl w3.heap.size w3)) ⟨HA, y0, y1, y2, y3, y4, y5, y6, y7⟩
  go_region_held3 (fun W => Aside0 (W.heap[w.heap.size]? = some (.cells (In.cs ⟨20, d, s, t, u, a, k, q⟩) 27 (0, 0)) ∧ Below w.heap.size w W) ∧ W.cell? ⟨w.heap.size, 0, none⟩ = some (.int .i64 20) ∧ W.cell? ⟨w.heap.size, 1, none⟩ = some (.int .i64 d) ∧ W.cell? ⟨w.heap.size, 2, none⟩ = some (.int .i64 s) ∧ W.cell? ⟨w.heap.size, 3, none⟩ = some (.int .i64 t) ∧ W.cell? ⟨w.heap.size, 4, none⟩ = some (.int .i64 u) ∧ W.cell? ⟨w.heap.size, 5, none⟩ = some (.int .i64 a) ∧ W.cell? ⟨w.heap.size, 6, none⟩ = some (.int .u32 k) ∧ W.cell? ⟨w.heap.size, 7, none⟩ = some (.int .i64 q))
    (first | exact hT | exact rbox_next hb (by assumption))
    (first
      | (go_at_call 28; (with_reducible refine (Cd.out _).mono ?_); rintro e w' ⟨rfl, hb⟩)
      | (go_at_call 28; (with_reducible refine (Cs.out _).mono ?_); rintro e w' ⟨rfl, hb⟩))
  obtain ⟨HA, y0, y1, y2, y3, y4, y5, y6, y7⟩ := rbox_next (Below.refl _ _) (by assumption)
  go_wp2
  go_ret
  refine ⟨ret_str' ?_, HA.out.2⟩
  rw [te.out]
  simp [sp_mk, app_mk]
set_option maxHeartbeats 4000000 in
set_option maxRecDepth 100000 in
theorem rt_20n (d s t u a k q : Int) (hf : In.fits ⟨20, d, s, t, u, a, k, q⟩) (hq : ¬ 0 ≤ q) (w : World) :
    Calls Tryd.prog 14 #[.agg #[.int .i64 20, .int .i64 d, .int .i64 s, .int .i64 t, .int .i64 u, .int .i64 a, .int .u32 k, .int .i64 q]] w fun e w' => e = .returned (.string ⟨(textF ⟨20, d, s, t, u, a, k, q⟩).toArray⟩) ∧ Below w.heap.size w w' := by
  have te : textF ⟨20, d, s, t, u, a, k, q⟩ = opName 20 ++ ((((32 :: 114 :: dec d) ++ (32 :: dec a)) ++ (32 :: 114 :: dec s)) ++ (32 :: dec k)) := by
    show Go.Lib.join (opName 20 :: List.flatten [[114 :: dec d], [dec a], [114 :: dec s], [dec k]]) [32] = _
    simp [join_two, Go.Lib.join_one]
  have CN := Aside0.mk (fun W => name_calls 20 W)
  have CK := Aside0.mk (fun W => digits_int hf.k.1 hf.k.2 W)
  have CA := Aside0.mk (fun W => digits_int hf.a.1 (Int.le_trans hf.a.2 (by decide)) W)
  have Cd := Aside0.mk (fun W => r_calls hf.d.1 (Int.le_trans hf.d.2 (by decide)) W)
  have Cs := Aside0.mk (fun W => r_calls hf.s.1 (Int.le_trans hf.s.2 (by decide)) W)
  have hk : 0 ≤ k ∧ k ≤ 4294967295 := hf.k
  have wk : IntKind.i64.wrap k = k := by rw [IntKind.wrap_i64]; omega
  have lk0 := dec_le10 hf.k.2
  have lq0 := dec_le10 (Int.le_trans hf.q.2 (show (1073741824 : Int) ≤ 4294967295 by decide))
  have ld0 := dec_le10 (Int.le_trans hf.d.2 (show (7 : Int) ≤ 4294967295 by decide))
  have ls0 := dec_le10 (Int.le_trans hf.s.2 (show (7 : Int) ≤ 4294967295 by decide))
  have lt0 := dec_le10 (Int.le_trans hf.t.2 (show (7 : Int) ≤ 4294967295 by decide))
  have lu0 := dec_le10 (Int.le_trans hf.u.2 (show (7 : Int) ≤ 4294967295 by decide))
  have la0 := dec_le10 (Int.le_trans hf.a.2 (show (7 : Int) ≤ 4294967295 by decide))
  dsimp only at lk0 lq0 ld0 ls0 lt0 lu0 la0 CN CK CA
  dsimp only at Cd
  dsimp only at Cs
  have ln0 : (opName 20).length = 4 := by decide
  have lk : ¬ 9223372036854775807 < 1 + (dec k).length := by omega
  have la : ¬ 9223372036854775807 < 1 + (dec a).length := by omega
  have b2 : ¬ 9223372036854775807 < (((dec d).length + 1 + 1) + (1 + (dec a).length)) := by omega
  have b3 : ¬ 9223372036854775807 < ((((dec d).length + 1 + 1) + (1 + (dec a).length)) + ((dec s).length + 1 + 1)) := by omega
  have b4 : ¬ 9223372036854775807 < (((((dec d).length + 1 + 1) + (1 + (dec a).length)) + ((dec s).length + 1 + 1)) + (1 + (dec k).length)) := by omega
  have bn : ¬ 9223372036854775807 < (opName 20).length + (((((dec d).length + 1 + 1) + (1 + (dec a).length)) + ((dec s).length + 1 + 1)) + (1 + (dec k).length)) := by omega
  clear lk0 lq0 ld0 ls0 lt0 lu0 la0 ln0 hk
  have hS := rbox_cells (w := w) (W := (w.alloc (.cells (In.cs ⟨20, d, s, t, u, a, k, q⟩) 27)).drew) ⟨blk_drew (blk_new w (.cells (In.cs ⟨20, d, s, t, u, a, k, q⟩) 27)), below_drew ((Below.refl w.heap.size w).alloc (Nat.le_refl _) _)⟩
  replace hf := Aside0.mk hf
  replace te := Aside0.mk te
  go_enter Tryd.func14, Tryd.ntmps14
  go_wp2_with fail
  go_region_held3 (fun W => Aside0 (W.heap[w.heap.size]? = some (.cells (In.cs ⟨20, d, s, t, u, a, k, q⟩) 27 (0, 0)) ∧ Below w.heap.size w W) ∧ W.cell? ⟨w.heap.size, 0, none⟩ = some (.int .i64 20) ∧ W.cell? ⟨w.heap.size, 1, none⟩ = some (.int .i64 d) ∧ W.cell? ⟨w.heap.size, 2, none⟩ = some (.int .i64 s) ∧ W.cell? ⟨w.heap.size, 3, none⟩ = some (.int .i64 t) ∧ W.cell? ⟨w.heap.size, 4, none⟩ = some (.int .i64 u) ∧ W.cell? ⟨w.heap.size, 5, none⟩ = some (.int .i64 a) ∧ W.cell? ⟨w.heap.size, 6, none⟩ = some (.int .u32 k) ∧ W.cell? ⟨w.heap.size, 7, none⟩ = some (.int .i64 q))
    (first | exact hS | exact rbox_next hb (by assumption))
    (first
      | (go_at_call 27; (with_reducible refine (CK.out _).mono ?_); rintro e w' ⟨rfl, hb⟩)
      | (go_at_call 27; (with_reducible refine (CA.out _).mono ?_); rintro e w' ⟨rfl, hb⟩))
  obtain ⟨HA, y0, y1, y2, y3, y4, y5, y6, y7⟩ := rbox_next (Below.refl _ _) (by assumption)
  go_wp2_with fail
  refine (CN.out _).mono ?_
  rintro e w2 ⟨rfl, hb2⟩
  obtain ⟨HA, y0, y1, y2, y3, y4, y5, y6, y7⟩ := rbox_next hb2 ⟨HA, y0, y1, y2, y3, y4, y5, y6, y7⟩
  go_wp2_with fail
  have hT := rbox_next (below_drew (Below.refl w2.heap.size w2)) ⟨HA, y0, y1, y2, y3, y4, y5, y6, y7⟩
  go_region_held3 (fun W => Aside0 (W.heap[w.heap.size]? = some (.cells (In.cs ⟨20, d, s, t, u, a, k, q⟩) 27 (0, 0)) ∧ Below w.heap.size w W) ∧ W.cell? ⟨w.heap.size, 0, none⟩ = some (.int .i64 20) ∧ W.cell? ⟨w.heap.size, 1, none⟩ = some (.int .i64 d) ∧ W.cell? ⟨w.heap.size, 2, none⟩ = some (.int .i64 s) ∧ W.cell? ⟨w.heap.size, 3, none⟩ = some (.int .i64 t) ∧ W.cell? ⟨w.heap.size, 4, none⟩ = some (.int .i64 u) ∧ W.cell? ⟨w.heap.size, 5, none⟩ = some (.int .i64 a) ∧ W.cell? ⟨w.heap.size, 6, none⟩ = some (.int .u32 k) ∧ W.cell? ⟨w.heap.size, 7, none⟩ = some (.int .i64 q))
    (first | exact hT | exact rbox_next hb (by assumption))
    (first
      | (go_at_call 28; (with_reducible refine (Cd.out _).mono ?_); rintro e w' ⟨rfl, hb⟩)
      | (go_at_call 28; (with_reducible refine (Cs.out _).mono ?_); rintro e w' ⟨rfl, hb⟩))
  obtain ⟨HA, y0, y1, y2, y3, y4, y5, y6, y7⟩ := rbox_next (Below.refl _ _) (by assumption)
  go_wp2
  go_ret
  refine ⟨ret_str' ?_, HA.out.2⟩
  rw [te.out]
  simp [sp_mk, app_mk]
set_option maxHeartbeats 4000000 in
set_option maxRecDepth 100000 in
theorem rt_22 (d s t u a k q : Int) (hf : In.fits ⟨22, d, s, t, u, a, k, q⟩) (hq : 0 ≤ q) (w : World) :
    Calls Tryd.prog 14 #[.agg #[.int .i64 22, .int .i64 d, .int .i64 s, .int .i64 t, .int .i64 u, .int .i64 a, .int .u32 k, .int .i64 q]] w fun e w' => e = .returned (.string ⟨(textF ⟨22, d, s, t, u, a, k, q⟩).toArray⟩) ∧ Below w.heap.size w w' := by
  have te : textF ⟨22, d, s, t, u, a, k, q⟩ = opName 22 ++ (32 :: 114 :: dec d) := by
    show Go.Lib.join (opName 22 :: List.flatten [[114 :: dec d]]) [32] = _
    simp [join_two, Go.Lib.join_one]
  have CN := Aside0.mk (fun W => name_calls 22 W)
  have CK := Aside0.mk (fun W => digits_int hf.k.1 hf.k.2 W)
  have CA := Aside0.mk (fun W => digits_int hf.a.1 (Int.le_trans hf.a.2 (by decide)) W)
  have CQ := Aside0.mk (fun W => digits_int hq (Int.le_trans hf.q.2 (by decide)) W)
  have Cd := Aside0.mk (fun W => r_calls hf.d.1 (Int.le_trans hf.d.2 (by decide)) W)
  have hk : 0 ≤ k ∧ k ≤ 4294967295 := hf.k
  have wk : IntKind.i64.wrap k = k := by rw [IntKind.wrap_i64]; omega
  have lk0 := dec_le10 hf.k.2
  have lq0 := dec_le10 (Int.le_trans hf.q.2 (show (1073741824 : Int) ≤ 4294967295 by decide))
  have ld0 := dec_le10 (Int.le_trans hf.d.2 (show (7 : Int) ≤ 4294967295 by decide))
  have ls0 := dec_le10 (Int.le_trans hf.s.2 (show (7 : Int) ≤ 4294967295 by decide))
  have lt0 := dec_le10 (Int.le_trans hf.t.2 (show (7 : Int) ≤ 4294967295 by decide))
  have lu0 := dec_le10 (Int.le_trans hf.u.2 (show (7 : Int) ≤ 4294967295 by decide))
  have la0 := dec_le10 (Int.le_trans hf.a.2 (show (7 : Int) ≤ 4294967295 by decide))
  dsimp only at lk0 lq0 ld0 ls0 lt0 lu0 la0 CN CK CA CQ
  dsimp only at Cd
  have ln0 : (opName 22).length = 4 := by decide
  have lk : ¬ 9223372036854775807 < 1 + (dec k).length := by omega
  have la : ¬ 9223372036854775807 < 1 + (dec a).length := by omega
  have lq : ¬ 9223372036854775807 < 1 + (dec q).length := by omega
  have bn : ¬ 9223372036854775807 < (opName 22).length + ((dec d).length + 1 + 1) := by omega
  clear lk0 lq0 ld0 ls0 lt0 lu0 la0 ln0 hk
  have hS := rbox_cells (w := w) (W := (w.alloc (.cells (In.cs ⟨22, d, s, t, u, a, k, q⟩) 27)).drew) ⟨blk_drew (blk_new w (.cells (In.cs ⟨22, d, s, t, u, a, k, q⟩) 27)), below_drew ((Below.refl w.heap.size w).alloc (Nat.le_refl _) _)⟩
  replace hf := Aside0.mk hf
  replace te := Aside0.mk te
  go_enter Tryd.func14, Tryd.ntmps14
  go_wp2_with fail
  go_region_held3 (fun W => Aside0 (W.heap[w.heap.size]? = some (.cells (In.cs ⟨22, d, s, t, u, a, k, q⟩) 27 (0, 0)) ∧ Below w.heap.size w W) ∧ W.cell? ⟨w.heap.size, 0, none⟩ = some (.int .i64 22) ∧ W.cell? ⟨w.heap.size, 1, none⟩ = some (.int .i64 d) ∧ W.cell? ⟨w.heap.size, 2, none⟩ = some (.int .i64 s) ∧ W.cell? ⟨w.heap.size, 3, none⟩ = some (.int .i64 t) ∧ W.cell? ⟨w.heap.size, 4, none⟩ = some (.int .i64 u) ∧ W.cell? ⟨w.heap.size, 5, none⟩ = some (.int .i64 a) ∧ W.cell? ⟨w.heap.size, 6, none⟩ = some (.int .u32 k) ∧ W.cell? ⟨w.heap.size, 7, none⟩ = some (.int .i64 q))
    (first | exact hS | exact rbox_next hb (by assumption))
    (first
      | (go_at_call 27; (with_reducible refine (CK.out _).mono ?_); rintro e w' ⟨rfl, hb⟩)
      | (go_at_call 27; (with_reducible refine (CA.out _).mono ?_); rintro e w' ⟨rfl, hb⟩))
  obtain ⟨HA, y0, y1, y2, y3, y4, y5, y6, y7⟩ := rbox_next (Below.refl _ _) (by assumption)
  go_wp2_with fail
  refine (CQ.out _).mono ?_
  rintro e w2 ⟨rfl, hb2⟩
  obtain ⟨HA, y0, y1, y2, y3, y4, y5, y6, y7⟩ := rbox_next hb2 ⟨HA, y0, y1, y2, y3, y4, y5, y6, y7⟩
  go_wp2_with fail
  refine (CN.out _).mono ?_
  rintro e w3 ⟨rfl, hb3⟩
  obtain ⟨HA, y0, y1, y2, y3, y4, y5, y6, y7⟩ := rbox_next hb3 ⟨HA, y0, y1, y2, y3, y4, y5, y6, y7⟩
  go_wp2_with fail
  refine (Cd.out _).mono ?_
  rintro e w4 ⟨rfl, hb4⟩
  obtain ⟨HA, y0, y1, y2, y3, y4, y5, y6, y7⟩ := rbox_next hb4 ⟨HA, y0, y1, y2, y3, y4, y5, y6, y7⟩
  go_wp2_with fail
  go_wp2
  go_ret
  refine ⟨ret_str' ?_, HA.out.2⟩
  rw [te.out]
  simp [sp_mk, app_mk]
set_option maxHeartbeats 4000000 in
set_option maxRecDepth 100000 in
theorem rt_22n (d s t u a k q : Int) (hf : In.fits ⟨22, d, s, t, u, a, k, q⟩) (hq : ¬ 0 ≤ q) (w : World) :
    Calls Tryd.prog 14 #[.agg #[.int .i64 22, .int .i64 d, .int .i64 s, .int .i64 t, .int .i64 u, .int .i64 a, .int .u32 k, .int .i64 q]] w fun e w' => e = .returned (.string ⟨(textF ⟨22, d, s, t, u, a, k, q⟩).toArray⟩) ∧ Below w.heap.size w w' := by
  have te : textF ⟨22, d, s, t, u, a, k, q⟩ = opName 22 ++ (32 :: 114 :: dec d) := by
    show Go.Lib.join (opName 22 :: List.flatten [[114 :: dec d]]) [32] = _
    simp [join_two, Go.Lib.join_one]
  have CN := Aside0.mk (fun W => name_calls 22 W)
  have CK := Aside0.mk (fun W => digits_int hf.k.1 hf.k.2 W)
  have CA := Aside0.mk (fun W => digits_int hf.a.1 (Int.le_trans hf.a.2 (by decide)) W)
  have Cd := Aside0.mk (fun W => r_calls hf.d.1 (Int.le_trans hf.d.2 (by decide)) W)
  have hk : 0 ≤ k ∧ k ≤ 4294967295 := hf.k
  have wk : IntKind.i64.wrap k = k := by rw [IntKind.wrap_i64]; omega
  have lk0 := dec_le10 hf.k.2
  have lq0 := dec_le10 (Int.le_trans hf.q.2 (show (1073741824 : Int) ≤ 4294967295 by decide))
  have ld0 := dec_le10 (Int.le_trans hf.d.2 (show (7 : Int) ≤ 4294967295 by decide))
  have ls0 := dec_le10 (Int.le_trans hf.s.2 (show (7 : Int) ≤ 4294967295 by decide))
  have lt0 := dec_le10 (Int.le_trans hf.t.2 (show (7 : Int) ≤ 4294967295 by decide))
  have lu0 := dec_le10 (Int.le_trans hf.u.2 (show (7 : Int) ≤ 4294967295 by decide))
  have la0 := dec_le10 (Int.le_trans hf.a.2 (show (7 : Int) ≤ 4294967295 by decide))
  dsimp only at lk0 lq0 ld0 ls0 lt0 lu0 la0 CN CK CA
  dsimp only at Cd
  have ln0 : (opName 22).length = 4 := by decide
  have lk : ¬ 9223372036854775807 < 1 + (dec k).length := by omega
  have la : ¬ 9223372036854775807 < 1 + (dec a).length := by omega
  have bn : ¬ 9223372036854775807 < (opName 22).length + ((dec d).length + 1 + 1) := by omega
  clear lk0 lq0 ld0 ls0 lt0 lu0 la0 ln0 hk
  have hS := rbox_cells (w := w) (W := (w.alloc (.cells (In.cs ⟨22, d, s, t, u, a, k, q⟩) 27)).drew) ⟨blk_drew (blk_new w (.cells (In.cs ⟨22, d, s, t, u, a, k, q⟩) 27)), below_drew ((Below.refl w.heap.size w).alloc (Nat.le_refl _) _)⟩
  replace hf := Aside0.mk hf
  replace te := Aside0.mk te
  go_enter Tryd.func14, Tryd.ntmps14
  go_wp2_with fail
  go_region_held3 (fun W => Aside0 (W.heap[w.heap.size]? = some (.cells (In.cs ⟨22, d, s, t, u, a, k, q⟩) 27 (0, 0)) ∧ Below w.heap.size w W) ∧ W.cell? ⟨w.heap.size, 0, none⟩ = some (.int .i64 22) ∧ W.cell? ⟨w.heap.size, 1, none⟩ = some (.int .i64 d) ∧ W.cell? ⟨w.heap.size, 2, none⟩ = some (.int .i64 s) ∧ W.cell? ⟨w.heap.size, 3, none⟩ = some (.int .i64 t) ∧ W.cell? ⟨w.heap.size, 4, none⟩ = some (.int .i64 u) ∧ W.cell? ⟨w.heap.size, 5, none⟩ = some (.int .i64 a) ∧ W.cell? ⟨w.heap.size, 6, none⟩ = some (.int .u32 k) ∧ W.cell? ⟨w.heap.size, 7, none⟩ = some (.int .i64 q))
    (first | exact hS | exact rbox_next hb (by assumption))
    (first
      | (go_at_call 27; (with_reducible refine (CK.out _).mono ?_); rintro e w' ⟨rfl, hb⟩)
      | (go_at_call 27; (with_reducible refine (CA.out _).mono ?_); rintro e w' ⟨rfl, hb⟩))
  obtain ⟨HA, y0, y1, y2, y3, y4, y5, y6, y7⟩ := rbox_next (Below.refl _ _) (by assumption)
  go_wp2_with fail
  refine (CN.out _).mono ?_
  rintro e w2 ⟨rfl, hb2⟩
  obtain ⟨HA, y0, y1, y2, y3, y4, y5, y6, y7⟩ := rbox_next hb2 ⟨HA, y0, y1, y2, y3, y4, y5, y6, y7⟩
  go_wp2_with fail
  refine (Cd.out _).mono ?_
  rintro e w3 ⟨rfl, hb3⟩
  obtain ⟨HA, y0, y1, y2, y3, y4, y5, y6, y7⟩ := rbox_next hb3 ⟨HA, y0, y1, y2, y3, y4, y5, y6, y7⟩
  go_wp2_with fail
  go_wp2
  go_ret
  refine ⟨ret_str' ?_, HA.out.2⟩
  rw [te.out]
  simp [sp_mk, app_mk]
set_option maxHeartbeats 4000000 in
set_option maxRecDepth 100000 in
theorem rt_23 (d s t u a k q : Int) (hf : In.fits ⟨23, d, s, t, u, a, k, q⟩) (hq : 0 ≤ q) (w : World) :
    Calls Tryd.prog 14 #[.agg #[.int .i64 23, .int .i64 d, .int .i64 s, .int .i64 t, .int .i64 u, .int .i64 a, .int .u32 k, .int .i64 q]] w fun e w' => e = .returned (.string ⟨(textF ⟨23, d, s, t, u, a, k, q⟩).toArray⟩) ∧ Below w.heap.size w w' := by
  have te : textF ⟨23, d, s, t, u, a, k, q⟩ = opName 23 ++ (32 :: 114 :: dec s) := by
    show Go.Lib.join (opName 23 :: List.flatten [[114 :: dec s]]) [32] = _
    simp [join_two, Go.Lib.join_one]
  have CN := Aside0.mk (fun W => name_calls 23 W)
  have CK := Aside0.mk (fun W => digits_int hf.k.1 hf.k.2 W)
  have CA := Aside0.mk (fun W => digits_int hf.a.1 (Int.le_trans hf.a.2 (by decide)) W)
  have CQ := Aside0.mk (fun W => digits_int hq (Int.le_trans hf.q.2 (by decide)) W)
  have Cs := Aside0.mk (fun W => r_calls hf.s.1 (Int.le_trans hf.s.2 (by decide)) W)
  have hk : 0 ≤ k ∧ k ≤ 4294967295 := hf.k
  have wk : IntKind.i64.wrap k = k := by rw [IntKind.wrap_i64]; omega
  have lk0 := dec_le10 hf.k.2
  have lq0 := dec_le10 (Int.le_trans hf.q.2 (show (1073741824 : Int) ≤ 4294967295 by decide))
  have ld0 := dec_le10 (Int.le_trans hf.d.2 (show (7 : Int) ≤ 4294967295 by decide))
  have ls0 := dec_le10 (Int.le_trans hf.s.2 (show (7 : Int) ≤ 4294967295 by decide))
  have lt0 := dec_le10 (Int.le_trans hf.t.2 (show (7 : Int) ≤ 4294967295 by decide))
  have lu0 := dec_le10 (Int.le_trans hf.u.2 (show (7 : Int) ≤ 4294967295 by decide))
  have la0 := dec_le10 (Int.le_trans hf.a.2 (show (7 : Int) ≤ 4294967295 by decide))
  dsimp only at lk0 lq0 ld0 ls0 lt0 lu0 la0 CN CK CA CQ
  dsimp only at Cs
  have ln0 : (opName 23).length = 4 := by decide
  have lk : ¬ 9223372036854775807 < 1 + (dec k).length := by omega
  have la : ¬ 9223372036854775807 < 1 + (dec a).length := by omega
  have lq : ¬ 9223372036854775807 < 1 + (dec q).length := by omega
  have bn : ¬ 9223372036854775807 < (opName 23).length + ((dec s).length + 1 + 1) := by omega
  clear lk0 lq0 ld0 ls0 lt0 lu0 la0 ln0 hk
  have hS := rbox_cells (w := w) (W := (w.alloc (.cells (In.cs ⟨23, d, s, t, u, a, k, q⟩) 27)).drew) ⟨blk_drew (blk_new w (.cells (In.cs ⟨23, d, s, t, u, a, k, q⟩) 27)), below_drew ((Below.refl w.heap.size w).alloc (Nat.le_refl _) _)⟩
  replace hf := Aside0.mk hf
  replace te := Aside0.mk te
  go_enter Tryd.func14, Tryd.ntmps14
  go_wp2_with fail
  go_region_held3 (fun W => Aside0 (W.heap[w.heap.size]? = some (.cells (In.cs ⟨23, d, s, t, u, a, k, q⟩) 27 (0, 0)) ∧ Below w.heap.size w W) ∧ W.cell? ⟨w.heap.size, 0, none⟩ = some (.int .i64 23) ∧ W.cell? ⟨w.heap.size, 1, none⟩ = some (.int .i64 d) ∧ W.cell? ⟨w.heap.size, 2, none⟩ = some (.int .i64 s) ∧ W.cell? ⟨w.heap.size, 3, none⟩ = some (.int .i64 t) ∧ W.cell? ⟨w.heap.size, 4, none⟩ = some (.int .i64 u) ∧ W.cell? ⟨w.heap.size, 5, none⟩ = some (.int .i64 a) ∧ W.cell? ⟨w.heap.size, 6, none⟩ = some (.int .u32 k) ∧ W.cell? ⟨w.heap.size, 7, none⟩ = some (.int .i64 q))
    (first | exact hS | exact rbox_next hb (by assumption))
    (first
      | (go_at_call 27; (with_reducible refine (CK.out _).mono ?_); rintro e w' ⟨rfl, hb⟩)
      | (go_at_call 27; (with_reducible refine (CA.out _).mono ?_); rintro e w' ⟨rfl, hb⟩))
  obtain ⟨HA, y0, y1, y2, y3, y4, y5, y6, y7⟩ := rbox_next (Below.refl _ _) (by assumption)
  go_wp2_with fail
  refine (CQ.out _).mono ?_
  rintro e w2 ⟨rfl, hb2⟩
  obtain ⟨HA, y0, y1, y2, y3, y4, y5, y6, y7⟩ := rbox_next hb2 ⟨HA, y0, y1, y2, y3, y4, y5, y6, y7⟩
  go_wp2_with fail
  refine (CN.out _).mono ?_
  rintro e w3 ⟨rfl, hb3⟩
  obtain ⟨HA, y0, y1, y2, y3, y4, y5, y6, y7⟩ := rbox_next hb3 ⟨HA, y0, y1, y2, y3, y4, y5, y6, y7⟩
  go_wp2_with fail
  refine (Cs.out _).mono ?_
  rintro e w4 ⟨rfl, hb4⟩
  obtain ⟨HA, y0, y1, y2, y3, y4, y5, y6, y7⟩ := rbox_next hb4 ⟨HA, y0, y1, y2, y3, y4, y5, y6, y7⟩
  go_wp2_with fail
  go_wp2
  go_ret
  refine ⟨ret_str' ?_, HA.out.2⟩
  rw [te.out]
  simp [sp_mk, app_mk]
set_option maxHeartbeats 4000000 in
set_option maxRecDepth 100000 in
theorem rt_23n (d s t u a k q : Int) (hf : In.fits ⟨23, d, s, t, u, a, k, q⟩) (hq : ¬ 0 ≤ q) (w : World) :
    Calls Tryd.prog 14 #[.agg #[.int .i64 23, .int .i64 d, .int .i64 s, .int .i64 t, .int .i64 u, .int .i64 a, .int .u32 k, .int .i64 q]] w fun e w' => e = .returned (.string ⟨(textF ⟨23, d, s, t, u, a, k, q⟩).toArray⟩) ∧ Below w.heap.size w w' := by
  have te : textF ⟨23, d, s, t, u, a, k, q⟩ = opName 23 ++ (32 :: 114 :: dec s) := by
    show Go.Lib.join (opName 23 :: List.flatten [[114 :: dec s]]) [32] = _
    simp [join_two, Go.Lib.join_one]
  have CN := Aside0.mk (fun W => name_calls 23 W)
  have CK := Aside0.mk (fun W => digits_int hf.k.1 hf.k.2 W)
  have CA := Aside0.mk (fun W => digits_int hf.a.1 (Int.le_trans hf.a.2 (by decide)) W)
  have Cs := Aside0.mk (fun W => r_calls hf.s.1 (Int.le_trans hf.s.2 (by decide)) W)
  have hk : 0 ≤ k ∧ k ≤ 4294967295 := hf.k
  have wk : IntKind.i64.wrap k = k := by rw [IntKind.wrap_i64]; omega
  have lk0 := dec_le10 hf.k.2
  have lq0 := dec_le10 (Int.le_trans hf.q.2 (show (1073741824 : Int) ≤ 4294967295 by decide))
  have ld0 := dec_le10 (Int.le_trans hf.d.2 (show (7 : Int) ≤ 4294967295 by decide))
  have ls0 := dec_le10 (Int.le_trans hf.s.2 (show (7 : Int) ≤ 4294967295 by decide))
  have lt0 := dec_le10 (Int.le_trans hf.t.2 (show (7 : Int) ≤ 4294967295 by decide))
  have lu0 := dec_le10 (Int.le_trans hf.u.2 (show (7 : Int) ≤ 4294967295 by decide))
  have la0 := dec_le10 (Int.le_trans hf.a.2 (show (7 : Int) ≤ 4294967295 by decide))
  dsimp only at lk0 lq0 ld0 ls0 lt0 lu0 la0 CN CK CA
  dsimp only at Cs
  have ln0 : (opName 23).length = 4 := by decide
  have lk : ¬ 9223372036854775807 < 1 + (dec k).length := by omega
  have la : ¬ 9223372036854775807 < 1 + (dec a).length := by omega
  have bn : ¬ 9223372036854775807 < (opName 23).length + ((dec s).length + 1 + 1) := by omega
  clear lk0 lq0 ld0 ls0 lt0 lu0 la0 ln0 hk
  have hS := rbox_cells (w := w) (W := (w.alloc (.cells (In.cs ⟨23, d, s, t, u, a, k, q⟩) 27)).drew) ⟨blk_drew (blk_new w (.cells (In.cs ⟨23, d, s, t, u, a, k, q⟩) 27)), below_drew ((Below.refl w.heap.size w).alloc (Nat.le_refl _) _)⟩
  replace hf := Aside0.mk hf
  replace te := Aside0.mk te
  go_enter Tryd.func14, Tryd.ntmps14
  go_wp2_with fail
  go_region_held3 (fun W => Aside0 (W.heap[w.heap.size]? = some (.cells (In.cs ⟨23, d, s, t, u, a, k, q⟩) 27 (0, 0)) ∧ Below w.heap.size w W) ∧ W.cell? ⟨w.heap.size, 0, none⟩ = some (.int .i64 23) ∧ W.cell? ⟨w.heap.size, 1, none⟩ = some (.int .i64 d) ∧ W.cell? ⟨w.heap.size, 2, none⟩ = some (.int .i64 s) ∧ W.cell? ⟨w.heap.size, 3, none⟩ = some (.int .i64 t) ∧ W.cell? ⟨w.heap.size, 4, none⟩ = some (.int .i64 u) ∧ W.cell? ⟨w.heap.size, 5, none⟩ = some (.int .i64 a) ∧ W.cell? ⟨w.heap.size, 6, none⟩ = some (.int .u32 k) ∧ W.cell? ⟨w.heap.size, 7, none⟩ = some (.int .i64 q))
    (first | exact hS | exact rbox_next hb (by assumption))
    (first
      | (go_at_call 27; (with_reducible refine (CK.out _).mono ?_); rintro e w' ⟨rfl, hb⟩)
      | (go_at_call 27; (with_reducible refine (CA.out _).mono ?_); rintro e w' ⟨rfl, hb⟩))
  obtain ⟨HA, y0, y1, y2, y3, y4, y5, y6, y7⟩ := rbox_next (Below.refl _ _) (by assumption)
  go_wp2_with fail
  refine (CN.out _).mono ?_
  rintro e w2 ⟨rfl, hb2⟩
  obtain ⟨HA, y0, y1, y2, y3, y4, y5, y6, y7⟩ := rbox_next hb2 ⟨HA, y0, y1, y2, y3, y4, y5, y6, y7⟩
  go_wp2_with fail
  refine (Cs.out _).mono ?_
  rintro e w3 ⟨rfl, hb3⟩
  obtain ⟨HA, y0, y1, y2, y3, y4, y5, y6, y7⟩ := rbox_next hb3 ⟨HA, y0, y1, y2, y3, y4, y5, y6, y7⟩
  go_wp2_with fail
  go_wp2
  go_ret
  refine ⟨ret_str' ?_, HA.out.2⟩
  rw [te.out]
  simp [sp_mk, app_mk]
end Go.Proofs.YtbkbkikbfbmbdaaDoor

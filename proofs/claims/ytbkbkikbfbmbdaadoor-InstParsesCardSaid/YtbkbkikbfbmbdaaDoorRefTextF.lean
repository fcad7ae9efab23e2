/- ropelineref06.Text of an await that fits. -/
import Derived.Test.YtbkbkikbfbmbdaaDoorRefTextBox
namespace Go.Proofs.YtbkbkikbfbmbdaaDoor
open Go.RowKit Go.Proofs.YtbkbkikbfbmbdaaDoorW.PrintWords
set_option linter.unusedVariables false
set_option linter.unusedSimpArgs false

theorem wd_mk (a b c : UInt8) : (⟨#[a, b, c]⟩ : ByteArray) = ⟨[a, b, c].toArray⟩ := rfl
theorem el_mk (a b c d e : UInt8) : (⟨#[a, b, c, d, e]⟩ : ByteArray) = ⟨[a, b, c, d, e].toArray⟩ := rfl

set_option maxHeartbeats 4000000 in
set_option maxRecDepth 100000 in
theorem rt_21_0 (d s t u a q : Int) (hf : In.fits ⟨21, d, s, t, u, a, 0, q⟩) (hq : 0 ≤ q) (w : World) :
    Calls Tryd.prog 14 #[.agg #[.int .i64 21, .int .i64 d, .int .i64 s, .int .i64 t, .int .i64 u, .int .i64 a, .int .u32 0, .int .i64 q]] w fun e w' => e = .returned (.string ⟨(textF ⟨21, d, s, t, u, a, 0, q⟩).toArray⟩) ∧ Below w.heap.size w w' := by
  have ew : wordsF ⟨21, d, s, t, u, a, 0, q⟩ 87 = [101, 113] :: (114 :: dec t) :: [[101, 108, 115, 101], dec q] := by
    unfold wordsF; rw [show fieldOff 87 = none from rfl]; dsimp only; rw [if_neg (by omega), if_pos rfl, if_neg (show ¬ q = -1 by omega)]; rfl
  have te : textF ⟨21, d, s, t, u, a, 0, q⟩ = (opName 21 ++ (((((32 :: 114 :: dec d) ++ (32 :: dec a)) ++ (32 :: 114 :: dec s)) ++ [32, 101, 113]) ++ (32 :: 114 :: dec t))) ++ ([32, 101, 108, 115, 101] ++ (32 :: dec q)) := by
    show Go.Lib.join (opName 21 :: List.flatten [[114 :: dec d], [dec a], [114 :: dec s], wordsF ⟨21, d, s, t, u, a, 0, q⟩ 87]) [32] = _
    rw [ew]
    simp [join_two, Go.Lib.join_one]
  clear ew
  have CN := Aside0.mk (fun W => name_calls 21 W)
  have CK := Aside0.mk (fun W => digits_int hf.k.1 hf.k.2 W)
  have CA := Aside0.mk (fun W => digits_int hf.a.1 (Int.le_trans hf.a.2 (by decide)) W)
  have CQ := Aside0.mk (fun W => digits_int hq (Int.le_trans hf.q.2 (by decide)) W)
  have Cd := Aside0.mk (fun W => r_calls hf.d.1 (Int.le_trans hf.d.2 (by decide)) W)
  have Cs := Aside0.mk (fun W => r_calls hf.s.1 (Int.le_trans hf.s.2 (by decide)) W)
  have Ct := Aside0.mk (fun W => r_calls hf.t.1 (Int.le_trans hf.t.2 (by decide)) W)
  have lk0 := dec_le10 hf.k.2
  have lq0 := dec_le10 (Int.le_trans hf.q.2 (show (1073741824 : Int) ≤ 4294967295 by decide))
  have ld0 := dec_le10 (Int.le_trans hf.d.2 (show (7 : Int) ≤ 4294967295 by decide))
  have ls0 := dec_le10 (Int.le_trans hf.s.2 (show (7 : Int) ≤ 4294967295 by decide))
  have lt0 := dec_le10 (Int.le_trans hf.t.2 (show (7 : Int) ≤ 4294967295 by decide))
  have la0 := dec_le10 (Int.le_trans hf.a.2 (show (7 : Int) ≤ 4294967295 by decide))
  dsimp only at lk0 lq0 ld0 ls0 lt0 la0 CN CK CA Cd Cs Ct CQ
  have ln0 : (opName 21).length = 5 := by decide
  have wk : IntKind.i64.wrap 0 = 0 := by decide
  have lk : ¬ 9223372036854775807 < 1 + (dec 0).length := by omega
  have la : ¬ 9223372036854775807 < 1 + (dec a).length := by omega
  have lq : ¬ 9223372036854775807 < 1 + (dec q).length := by omega
  have b0 : ¬ 9223372036854775807 < (((dec d).length + 1 + 1) + (1 + (dec a).length)) := by omega
  have b1 : ¬ 9223372036854775807 < ((((dec d).length + 1 + 1) + (1 + (dec a).length)) + ((dec s).length + 1 + 1)) := by omega
  have b2 : ¬ 9223372036854775807 < (((((dec d).length + 1 + 1) + (1 + (dec a).length)) + ((dec s).length + 1 + 1)) + 3) := by omega
  have b3 : ¬ 9223372036854775807 < ((((((dec d).length + 1 + 1) + (1 + (dec a).length)) + ((dec s).length + 1 + 1)) + 3) + ((dec t).length + 1 + 1)) := by omega
  have bn : ¬ 9223372036854775807 < (opName 21).length + ((((((dec d).length + 1 + 1) + (1 + (dec a).length)) + ((dec s).length + 1 + 1)) + 3) + ((dec t).length + 1 + 1)) := by omega
  have be : ¬ 9223372036854775807 < 5 + (1 + (dec q).length) := by omega
  have bz : ¬ 9223372036854775807 < (opName 21).length + ((((((dec d).length + 1 + 1) + (1 + (dec a).length)) + ((dec s).length + 1 + 1)) + 3) + ((dec t).length + 1 + 1)) + (5 + (1 + (dec q).length)) := by omega
  clear lk0 lq0 ld0 ls0 lt0 la0 ln0
  have hS := rbox_cells (w := w) (W := (w.alloc (.cells (In.cs ⟨21, d, s, t, u, a, 0, q⟩) 27)).drew) ⟨blk_drew (blk_new w (.cells (In.cs ⟨21, d, s, t, u, a, 0, q⟩) 27)), below_drew ((Below.refl w.heap.size w).alloc (Nat.le_refl _) _)⟩
  replace hf := Aside0.mk hf
  replace te := Aside0.mk te
  go_enter Tryd.func14, Tryd.ntmps14
  go_wp2_with fail
  go_region_held3 (fun W => Aside0 (W.heap[w.heap.size]? = some (.cells (In.cs ⟨21, d, s, t, u, a, 0, q⟩) 27 (0, 0)) ∧ Below w.heap.size w W) ∧ W.cell? ⟨w.heap.size, 0, none⟩ = some (.int .i64 21) ∧ W.cell? ⟨w.heap.size, 1, none⟩ = some (.int .i64 d) ∧ W.cell? ⟨w.heap.size, 2, none⟩ = some (.int .i64 s) ∧ W.cell? ⟨w.heap.size, 3, none⟩ = some (.int .i64 t) ∧ W.cell? ⟨w.heap.size, 4, none⟩ = some (.int .i64 u) ∧ W.cell? ⟨w.heap.size, 5, none⟩ = some (.int .i64 a) ∧ W.cell? ⟨w.heap.size, 6, none⟩ = some (.int .u32 0) ∧ W.cell? ⟨w.heap.size, 7, none⟩ = some (.int .i64 q))
    (first | exact hS | exact rbox_next hb (by assumption))
    (first
      | (go_at_call 27; (with_reducible refine (CK.out _).mono ?_); rintro e w' ⟨rfl, hb⟩)
      | (go_at_call 27; (with_reducible refine (CA.out _).mono ?_); rintro e w' ⟨rfl, hb⟩))
  obtain ⟨HA, y0, y1, y2, y3, y4, y5, y6, y7⟩ := rbox_next (Below.refl _ _) (by assumption)
  go_wp2_with fail
  refine (CQ.out _).mono ?_
  rintro e w2 ⟨rfl, hb2⟩
  obtain ⟨HA, y0, y1, y2, y3, y4, y5, y6, y7⟩ := rbox_next hb2 ⟨HA, y0, y1, y2, y3, y4, y5, y6, y7⟩
  go_wp2_with fail
  refine (CN.out _).mono ?_
  rintro e w3 ⟨rfl, hb3⟩
  obtain ⟨HA, y0, y1, y2, y3, y4, y5, y6, y7⟩ := rbox_next hb3 ⟨HA, y0, y1, y2, y3, y4, y5, y6, y7⟩
  go_wp2_with fail
  have hT := rbox_next (below_drew (Below.refl w3.heap.size w3)) ⟨HA, y0, y1, y2, y3, y4, y5, y6, y7⟩
  go_region_held3 (fun W => Aside0 (W.heap[w.heap.size]? = some (.cells (In.cs ⟨21, d, s, t, u, a, 0, q⟩) 27 (0, 0)) ∧ Below w.heap.size w W) ∧ W.cell? ⟨w.heap.size, 0, none⟩ = some (.int .i64 21) ∧ W.cell? ⟨w.heap.size, 1, none⟩ = some (.int .i64 d) ∧ W.cell? ⟨w.heap.size, 2, none⟩ = some (.int .i64 s) ∧ W.cell? ⟨w.heap.size, 3, none⟩ = some (.int .i64 t) ∧ W.cell? ⟨w.heap.size, 4, none⟩ = some (.int .i64 u) ∧ W.cell? ⟨w.heap.size, 5, none⟩ = some (.int .i64 a) ∧ W.cell? ⟨w.heap.size, 6, none⟩ = some (.int .u32 0) ∧ W.cell? ⟨w.heap.size, 7, none⟩ = some (.int .i64 q))
    (first | exact hT | exact rbox_next hb (by assumption))
    (first
      | (go_at_call 28; (with_reducible refine (Cd.out _).mono ?_); rintro e w' ⟨rfl, hb⟩)
      | (go_at_call 28; (with_reducible refine (Cs.out _).mono ?_); rintro e w' ⟨rfl, hb⟩)
      | (go_at_call 28; (with_reducible refine (Ct.out _).mono ?_); rintro e w' ⟨rfl, hb⟩))
  obtain ⟨HA, y0, y1, y2, y3, y4, y5, y6, y7⟩ := rbox_next (Below.refl _ _) (by assumption)
  go_wp2
  go_ret
  refine ⟨ret_str' ?_, HA.out.2⟩
  rw [te.out]
  simp [sp_mk, wd_mk, el_mk, app_mk]
set_option maxHeartbeats 4000000 in
set_option maxRecDepth 100000 in
theorem rt_21_0n (d s t u a : Int) (hf : In.fits ⟨21, d, s, t, u, a, 0, (-1)⟩) (w : World) :
    Calls Tryd.prog 14 #[.agg #[.int .i64 21, .int .i64 d, .int .i64 s, .int .i64 t, .int .i64 u, .int .i64 a, .int .u32 0, .int .i64 (-1)]] w fun e w' => e = .returned (.string ⟨(textF ⟨21, d, s, t, u, a, 0, (-1)⟩).toArray⟩) ∧ Below w.heap.size w w' := by
  have ew : wordsF ⟨21, d, s, t, u, a, 0, (-1)⟩ 87 = [101, 113] :: (114 :: dec t) :: [] := by
    unfold wordsF; rw [show fieldOff 87 = none from rfl]; dsimp only; rw [if_neg (by omega), if_pos rfl, if_pos rfl]; rfl
  have te : textF ⟨21, d, s, t, u, a, 0, (-1)⟩ = opName 21 ++ (((((32 :: 114 :: dec d) ++ (32 :: dec a)) ++ (32 :: 114 :: dec s)) ++ [32, 101, 113]) ++ (32 :: 114 :: dec t)) := by
    show Go.Lib.join (opName 21 :: List.flatten [[114 :: dec d], [dec a], [114 :: dec s], wordsF ⟨21, d, s, t, u, a, 0, (-1)⟩ 87]) [32] = _
    rw [ew]
    simp [join_two, Go.Lib.join_one]
  clear ew
  have CN := Aside0.mk (fun W => name_calls 21 W)
  have CK := Aside0.mk (fun W => digits_int hf.k.1 hf.k.2 W)
  have CA := Aside0.mk (fun W => digits_int hf.a.1 (Int.le_trans hf.a.2 (by decide)) W)
  have Cd := Aside0.mk (fun W => r_calls hf.d.1 (Int.le_trans hf.d.2 (by decide)) W)
  have Cs := Aside0.mk (fun W => r_calls hf.s.1 (Int.le_trans hf.s.2 (by decide)) W)
  have Ct := Aside0.mk (fun W => r_calls hf.t.1 (Int.le_trans hf.t.2 (by decide)) W)
  have lk0 := dec_le10 hf.k.2
  have lq0 := dec_le10 (Int.le_trans hf.q.2 (show (1073741824 : Int) ≤ 4294967295 by decide))
  have ld0 := dec_le10 (Int.le_trans hf.d.2 (show (7 : Int) ≤ 4294967295 by decide))
  have ls0 := dec_le10 (Int.le_trans hf.s.2 (show (7 : Int) ≤ 4294967295 by decide))
  have lt0 := dec_le10 (Int.le_trans hf.t.2 (show (7 : Int) ≤ 4294967295 by decide))
  have la0 := dec_le10 (Int.le_trans hf.a.2 (show (7 : Int) ≤ 4294967295 by decide))
  dsimp only at lk0 lq0 ld0 ls0 lt0 la0 CN CK CA Cd Cs Ct
  have ln0 : (opName 21).length = 5 := by decide
  have wk : IntKind.i64.wrap 0 = 0 := by decide
  have lk : ¬ 9223372036854775807 < 1 + (dec 0).length := by omega
  have la : ¬ 9223372036854775807 < 1 + (dec a).length := by omega
  have b0 : ¬ 9223372036854775807 < (((dec d).length + 1 + 1) + (1 + (dec a).length)) := by omega
  have b1 : ¬ 9223372036854775807 < ((((dec d).length + 1 + 1) + (1 + (dec a).length)) + ((dec s).length + 1 + 1)) := by omega
  have b2 : ¬ 9223372036854775807 < (((((dec d).length + 1 + 1) + (1 + (dec a).length)) + ((dec s).length + 1 + 1)) + 3) := by omega
  have b3 : ¬ 9223372036854775807 < ((((((dec d).length + 1 + 1) + (1 + (dec a).length)) + ((dec s).length + 1 + 1)) + 3) + ((dec t).length + 1 + 1)) := by omega
  have bn : ¬ 9223372036854775807 < (opName 21).length + ((((((dec d).length + 1 + 1) + (1 + (dec a).length)) + ((dec s).length + 1 + 1)) + 3) + ((dec t).length + 1 + 1)) := by omega
  clear lk0 lq0 ld0 ls0 lt0 la0 ln0
  have hS := rbox_cells (w := w) (W := (w.alloc (.cells (In.cs ⟨21, d, s, t, u, a, 0, (-1)⟩) 27)).drew) ⟨blk_drew (blk_new w (.cells (In.cs ⟨21, d, s, t, u, a, 0, (-1)⟩) 27)), below_drew ((Below.refl w.heap.size w).alloc (Nat.le_refl _) _)⟩
  replace hf := Aside0.mk hf
  replace te := Aside0.mk te
  go_enter Tryd.func14, Tryd.ntmps14
  go_wp2_with fail
  go_region_held3 (fun W => Aside0 (W.heap[w.heap.size]? = some (.cells (In.cs ⟨21, d, s, t, u, a, 0, (-1)⟩) 27 (0, 0)) ∧ Below w.heap.size w W) ∧ W.cell? ⟨w.heap.size, 0, none⟩ = some (.int .i64 21) ∧ W.cell? ⟨w.heap.size, 1, none⟩ = some (.int .i64 d) ∧ W.cell? ⟨w.heap.size, 2, none⟩ = some (.int .i64 s) ∧ W.cell? ⟨w.heap.size, 3, none⟩ = some (.int .i64 t) ∧ W.cell? ⟨w.heap.size, 4, none⟩ = some (.int .i64 u) ∧ W.cell? ⟨w.heap.size, 5, none⟩ = some (.int .i64 a) ∧ W.cell? ⟨w.heap.size, 6, none⟩ = some (.int .u32 0) ∧ W.cell? ⟨w.heap.size, 7, none⟩ = some (.int .i64 (-1)))
    (first | exact hS | exact rbox_next hb (by assumption))
    (first
      | (go_at_call 27; (with_reducible refine (CK.out _).mono ?_); rintro e w' ⟨rfl, hb⟩)
      | (go_at_call 27; (with_reducible refine (CA.out _).mono ?_); rintro e w' ⟨rfl, hb⟩))
  obtain ⟨HA, y0, y1, y2, y3, y4, y5, y6, y7⟩ := rbox_next (Below.refl _ _) (by assumption)
  go_wp2_with fail
  refine (CN.out _).mono ?_
  rintro e w2 ⟨rfl, hb2⟩
  obtain ⟨HA, y0, y1, y2, y3, y4, y5, y6, y7⟩ := rbox_next hb2 ⟨HA, y0, y1, y2, y3, y4, y5, y6, y7⟩
  go_wp2_with fail
  have hT := rbox_next (below_drew (Below.refl w2.heap.size w2)) ⟨HA, y0, y1, y2, y3, y4, y5, y6, y7⟩
  go_region_held3 (fun W => Aside0 (W.heap[w.heap.size]? = some (.cells (In.cs ⟨21, d, s, t, u, a, 0, (-1)⟩) 27 (0, 0)) ∧ Below w.heap.size w W) ∧ W.cell? ⟨w.heap.size, 0, none⟩ = some (.int .i64 21) ∧ W.cell? ⟨w.heap.size, 1, none⟩ = some (.int .i64 d) ∧ W.cell? ⟨w.heap.size, 2, none⟩ = some (.int .i64 s) ∧ W.cell? ⟨w.heap.size, 3, none⟩ = some (.int .i64 t) ∧ W.cell? ⟨w.heap.size, 4, none⟩ = some (.int .i64 u) ∧ W.cell? ⟨w.heap.size, 5, none⟩ = some (.int .i64 a) ∧ W.cell? ⟨w.heap.size, 6, none⟩ = some (.int .u32 0) ∧ W.cell? ⟨w.heap.size, 7, none⟩ = some (.int .i64 (-1)))
    (first | exact hT | exact rbox_next hb (by assumption))
    (first
      | (go_at_call 28; (with_reducible refine (Cd.out _).mono ?_); rintro e w' ⟨rfl, hb⟩)
      | (go_at_call 28; (with_reducible refine (Cs.out _).mono ?_); rintro e w' ⟨rfl, hb⟩)
      | (go_at_call 28; (with_reducible refine (Ct.out _).mono ?_); rintro e w' ⟨rfl, hb⟩))
  obtain ⟨HA, y0, y1, y2, y3, y4, y5, y6, y7⟩ := rbox_next (Below.refl _ _) (by assumption)
  go_wp2
  go_ret
  refine ⟨ret_str' ?_, HA.out.2⟩
  rw [te.out]
  simp [sp_mk, wd_mk, el_mk, app_mk]
set_option maxHeartbeats 4000000 in
set_option maxRecDepth 100000 in
theorem rt_21_1 (d s t u a q : Int) (hf : In.fits ⟨21, d, s, t, u, a, 1, q⟩) (hq : 0 ≤ q) (w : World) :
    Calls Tryd.prog 14 #[.agg #[.int .i64 21, .int .i64 d, .int .i64 s, .int .i64 t, .int .i64 u, .int .i64 a, .int .u32 1, .int .i64 q]] w fun e w' => e = .returned (.string ⟨(textF ⟨21, d, s, t, u, a, 1, q⟩).toArray⟩) ∧ Below w.heap.size w w' := by
  have ew : wordsF ⟨21, d, s, t, u, a, 1, q⟩ 87 = [110, 101] :: (114 :: dec t) :: [[101, 108, 115, 101], dec q] := by
    unfold wordsF; rw [show fieldOff 87 = none from rfl]; dsimp only; rw [if_neg (by omega), if_pos rfl, if_neg (show ¬ q = -1 by omega)]; rfl
  have te : textF ⟨21, d, s, t, u, a, 1, q⟩ = (opName 21 ++ (((((32 :: 114 :: dec d) ++ (32 :: dec a)) ++ (32 :: 114 :: dec s)) ++ [32, 110, 101]) ++ (32 :: 114 :: dec t))) ++ ([32, 101, 108, 115, 101] ++ (32 :: dec q)) := by
    show Go.Lib.join (opName 21 :: List.flatten [[114 :: dec d], [dec a], [114 :: dec s], wordsF ⟨21, d, s, t, u, a, 1, q⟩ 87]) [32] = _
    rw [ew]
    simp [join_two, Go.Lib.join_one]
  clear ew
  have CN := Aside0.mk (fun W => name_calls 21 W)
  have CK := Aside0.mk (fun W => digits_int hf.k.1 hf.k.2 W)
  have CA := Aside0.mk (fun W => digits_int hf.a.1 (Int.le_trans hf.a.2 (by decide)) W)
  have CQ := Aside0.mk (fun W => digits_int hq (Int.le_trans hf.q.2 (by decide)) W)
  have Cd := Aside0.mk (fun W => r_calls hf.d.1 (Int.le_trans hf.d.2 (by decide)) W)
  have Cs := Aside0.mk (fun W => r_calls hf.s.1 (Int.le_trans hf.s.2 (by decide)) W)
  have Ct := Aside0.mk (fun W => r_calls hf.t.1 (Int.le_trans hf.t.2 (by decide)) W)
  have lk0 := dec_le10 hf.k.2
  have lq0 := dec_le10 (Int.le_trans hf.q.2 (show (1073741824 : Int) ≤ 4294967295 by decide))
  have ld0 := dec_le10 (Int.le_trans hf.d.2 (show (7 : Int) ≤ 4294967295 by decide))
  have ls0 := dec_le10 (Int.le_trans hf.s.2 (show (7 : Int) ≤ 4294967295 by decide))
  have lt0 := dec_le10 (Int.le_trans hf.t.2 (show (7 : Int) ≤ 4294967295 by decide))
  have la0 := dec_le10 (Int.le_trans hf.a.2 (show (7 : Int) ≤ 4294967295 by decide))
  dsimp only at lk0 lq0 ld0 ls0 lt0 la0 CN CK CA Cd Cs Ct CQ
  have ln0 : (opName 21).length = 5 := by decide
  have wk : IntKind.i64.wrap 1 = 1 := by decide
  have lk : ¬ 9223372036854775807 < 1 + (dec 1).length := by omega
  have la : ¬ 9223372036854775807 < 1 + (dec a).length := by omega
  have lq : ¬ 9223372036854775807 < 1 + (dec q).length := by omega
  have b0 : ¬ 9223372036854775807 < (((dec d).length + 1 + 1) + (1 + (dec a).length)) := by omega
  have b1 : ¬ 9223372036854775807 < ((((dec d).length + 1 + 1) + (1 + (dec a).length)) + ((dec s).length + 1 + 1)) := by omega
  have b2 : ¬ 9223372036854775807 < (((((dec d).length + 1 + 1) + (1 + (dec a).length)) + ((dec s).length + 1 + 1)) + 3) := by omega
  have b3 : ¬ 9223372036854775807 < ((((((dec d).length + 1 + 1) + (1 + (dec a).length)) + ((dec s).length + 1 + 1)) + 3) + ((dec t).length + 1 + 1)) := by omega
  have bn : ¬ 9223372036854775807 < (opName 21).length + ((((((dec d).length + 1 + 1) + (1 + (dec a).length)) + ((dec s).length + 1 + 1)) + 3) + ((dec t).length + 1 + 1)) := by omega
  have be : ¬ 9223372036854775807 < 5 + (1 + (dec q).length) := by omega
  have bz : ¬ 9223372036854775807 < (opName 21).length + ((((((dec d).length + 1 + 1) + (1 + (dec a).length)) + ((dec s).length + 1 + 1)) + 3) + ((dec t).length + 1 + 1)) + (5 + (1 + (dec q).length)) := by omega
  clear lk0 lq0 ld0 ls0 lt0 la0 ln0
  have hS := rbox_cells (w := w) (W := (w.alloc (.cells (In.cs ⟨21, d, s, t, u, a, 1, q⟩) 27)).drew) ⟨blk_drew (blk_new w (.cells (In.cs ⟨21, d, s, t, u, a, 1, q⟩) 27)), below_drew ((Below.refl w.heap.size w).alloc (Nat.le_refl _) _)⟩
  replace hf := Aside0.mk hf
  replace te := Aside0.mk te
  go_enter Tryd.func14, Tryd.ntmps14
  go_wp2_with fail
  go_region_held3 (fun W => Aside0 (W.heap[w.heap.size]? = some (.cells (In.cs ⟨21, d, s, t, u, a, 1, q⟩) 27 (0, 0)) ∧ Below w.heap.size w W) ∧ W.cell? ⟨w.heap.size, 0, none⟩ = some (.int .i64 21) ∧ W.cell? ⟨w.heap.size, 1, none⟩ = some (.int .i64 d) ∧ W.cell? ⟨w.heap.size, 2, none⟩ = some (.int .i64 s) ∧ W.cell? ⟨w.heap.size, 3, none⟩ = some (.int .i64 t) ∧ W.cell? ⟨w.heap.size, 4, none⟩ = some (.int .i64 u) ∧ W.cell? ⟨w.heap.size, 5, none⟩ = some (.int .i64 a) ∧ W.cell? ⟨w.heap.size, 6, none⟩ = some (.int .u32 1) ∧ W.cell? ⟨w.heap.size, 7, none⟩ = some (.int .i64 q))
    (first | exact hS | exact rbox_next hb (by assumption))
    (first
      | (go_at_call 27; (with_reducible refine (CK.out _).mono ?_); rintro e w' ⟨rfl, hb⟩)
      | (go_at_call 27; (with_reducible refine (CA.out _).mono ?_); rintro e w' ⟨rfl, hb⟩))
  obtain ⟨HA, y0, y1, y2, y3, y4, y5, y6, y7⟩ := rbox_next (Below.refl _ _) (by assumption)
  go_wp2_with fail
  refine (CQ.out _).mono ?_
  rintro e w2 ⟨rfl, hb2⟩
  obtain ⟨HA, y0, y1, y2, y3, y4, y5, y6, y7⟩ := rbox_next hb2 ⟨HA, y0, y1, y2, y3, y4, y5, y6, y7⟩
  go_wp2_with fail
  refine (CN.out _).mono ?_
  rintro e w3 ⟨rfl, hb3⟩
  obtain ⟨HA, y0, y1, y2, y3, y4, y5, y6, y7⟩ := rbox_next hb3 ⟨HA, y0, y1, y2, y3, y4, y5, y6, y7⟩
  go_wp2_with fail
  have hT := rbox_next (below_drew (Below.refl w3.heap.size w3)) ⟨HA, y0, y1, y2, y3, y4, y5, y6, y7⟩
  go_region_held3 (fun W => Aside0 (W.heap[w.heap.size]? = some (.cells (In.cs ⟨21, d, s, t, u, a, 1, q⟩) 27 (0, 0)) ∧ Below w.heap.size w W) ∧ W.cell? ⟨w.heap.size, 0, none⟩ = some (.int .i64 21) ∧ W.cell? ⟨w.heap.size, 1, none⟩ = some (.int .i64 d) ∧ W.cell? ⟨w.heap.size, 2, none⟩ = some (.int .i64 s) ∧ W.cell? ⟨w.heap.size, 3, none⟩ = some (.int .i64 t) ∧ W.cell? ⟨w.heap.size, 4, none⟩ = some (.int .i64 u) ∧ W.cell? ⟨w.heap.size, 5, none⟩ = some (.int .i64 a) ∧ W.cell? ⟨w.heap.size, 6, none⟩ = some (.int .u32 1) ∧ W.cell? ⟨w.heap.size, 7, none⟩ = some (.int .i64 q))
    (first | exact hT | exact rbox_next hb (by assumption))
    (first
      | (go_at_call 28; (with_reducible refine (Cd.out _).mono ?_); rintro e w' ⟨rfl, hb⟩)
      | (go_at_call 28; (with_reducible refine (Cs.out _).mono ?_); rintro e w' ⟨rfl, hb⟩)
      | (go_at_call 28; (with_reducible refine (Ct.out _).mono ?_); rintro e w' ⟨rfl, hb⟩))
  obtain ⟨HA, y0, y1, y2, y3, y4, y5, y6, y7⟩ := rbox_next (Below.refl _ _) (by assumption)
  go_wp2
  go_ret
  refine ⟨ret_str' ?_, HA.out.2⟩
  rw [te.out]
  simp [sp_mk, wd_mk, el_mk, app_mk]
set_option maxHeartbeats 4000000 in
set_option maxRecDepth 100000 in
theorem rt_21_1n (d s t u a : Int) (hf : In.fits ⟨21, d, s, t, u, a, 1, (-1)⟩) (w : World) :
    Calls Tryd.prog 14 #[.agg #[.int .i64 21, .int .i64 d, .int .i64 s, .int .i64 t, .int .i64 u, .int .i64 a, .int .u32 1, .int .i64 (-1)]] w fun e w' => e = .returned (.string ⟨(textF ⟨21, d, s, t, u, a, 1, (-1)⟩).toArray⟩) ∧ Below w.heap.size w w' := by
  have ew : wordsF ⟨21, d, s, t, u, a, 1, (-1)⟩ 87 = [110, 101] :: (114 :: dec t) :: [] := by
    unfold wordsF; rw [show fieldOff 87 = none from rfl]; dsimp only; rw [if_neg (by omega), if_pos rfl, if_pos rfl]; rfl
  have te : textF ⟨21, d, s, t, u, a, 1, (-1)⟩ = opName 21 ++ (((((32 :: 114 :: dec d) ++ (32 :: dec a)) ++ (32 :: 114 :: dec s)) ++ [32, 110, 101]) ++ (32 :: 114 :: dec t)) := by
    show Go.Lib.join (opName 21 :: List.flatten [[114 :: dec d], [dec a], [114 :: dec s], wordsF ⟨21, d, s, t, u, a, 1, (-1)⟩ 87]) [32] = _
    rw [ew]
    simp [join_two, Go.Lib.join_one]
  clear ew
  have CN := Aside0.mk (fun W => name_calls 21 W)
  have CK := Aside0.mk (fun W => digits_int hf.k.1 hf.k.2 W)
  have CA := Aside0.mk (fun W => digits_int hf.a.1 (Int.le_trans hf.a.2 (by decide)) W)
  have Cd := Aside0.mk (fun W => r_calls hf.d.1 (Int.le_trans hf.d.2 (by decide)) W)
  have Cs := Aside0.mk (fun W => r_calls hf.s.1 (Int.le_trans hf.s.2 (by decide)) W)
  have Ct := Aside0.mk (fun W => r_calls hf.t.1 (Int.le_trans hf.t.2 (by decide)) W)
  have lk0 := dec_le10 hf.k.2
  have lq0 := dec_le10 (Int.le_trans hf.q.2 (show (1073741824 : Int) ≤ 4294967295 by decide))
  have ld0 := dec_le10 (Int.le_trans hf.d.2 (show (7 : Int) ≤ 4294967295 by decide))
  have ls0 := dec_le10 (Int.le_trans hf.s.2 (show (7 : Int) ≤ 4294967295 by decide))
  have lt0 := dec_le10 (Int.le_trans hf.t.2 (show (7 : Int) ≤ 4294967295 by decide))
  have la0 := dec_le10 (Int.le_trans hf.a.2 (show (7 : Int) ≤ 4294967295 by decide))
  dsimp only at lk0 lq0 ld0 ls0 lt0 la0 CN CK CA Cd Cs Ct
  have ln0 : (opName 21).length = 5 := by decide
  have wk : IntKind.i64.wrap 1 = 1 := by decide
  have lk : ¬ 9223372036854775807 < 1 + (dec 1).length := by omega
  have la : ¬ 9223372036854775807 < 1 + (dec a).length := by omega
  have b0 : ¬ 9223372036854775807 < (((dec d).length + 1 + 1) + (1 + (dec a).length)) := by omega
  have b1 : ¬ 9223372036854775807 < ((((dec d).length + 1 + 1) + (1 + (dec a).length)) + ((dec s).length + 1 + 1)) := by omega
  have b2 : ¬ 9223372036854775807 < (((((dec d).length + 1 + 1) + (1 + (dec a).length)) + ((dec s).length + 1 + 1)) + 3) := by omega
  have b3 : ¬ 9223372036854775807 < ((((((dec d).length + 1 + 1) + (1 + (dec a).length)) + ((dec s).length + 1 + 1)) + 3) + ((dec t).length + 1 + 1)) := by omega
  have bn : ¬ 9223372036854775807 < (opName 21).length + ((((((dec d).length + 1 + 1) + (1 + (dec a).length)) + ((dec s).length + 1 + 1)) + 3) + ((dec t).length + 1 + 1)) := by omega
  clear lk0 lq0 ld0 ls0 lt0 la0 ln0
  have hS := rbox_cells (w := w) (W := (w.alloc (.cells (In.cs ⟨21, d, s, t, u, a, 1, (-1)⟩) 27)).drew) ⟨blk_drew (blk_new w (.cells (In.cs ⟨21, d, s, t, u, a, 1, (-1)⟩) 27)), below_drew ((Below.refl w.heap.size w).alloc (Nat.le_refl _) _)⟩
  replace hf := Aside0.mk hf
  replace te := Aside0.mk te
  go_enter Tryd.func14, Tryd.ntmps14
  go_wp2_with fail
  go_region_held3 (fun W => Aside0 (W.heap[w.heap.size]? = some (.cells (In.cs ⟨21, d, s, t, u, a, 1, (-1)⟩) 27 (0, 0)) ∧ Below w.heap.size w W) ∧ W.cell? ⟨w.heap.size, 0, none⟩ = some (.int .i64 21) ∧ W.cell? ⟨w.heap.size, 1, none⟩ = some (.int .i64 d) ∧ W.cell? ⟨w.heap.size, 2, none⟩ = some (.int .i64 s) ∧ W.cell? ⟨w.heap.size, 3, none⟩ = some (.int .i64 t) ∧ W.cell? ⟨w.heap.size, 4, none⟩ = some (.int .i64 u) ∧ W.cell? ⟨w.heap.size, 5, none⟩ = some (.int .i64 a) ∧ W.cell? ⟨w.heap.size, 6, none⟩ = some (.int .u32 1) ∧ W.cell? ⟨w.heap.size, 7, none⟩ = some (.int .i64 (-1)))
    (first | exact hS | exact rbox_next hb (by assumption))
    (first
      | (go_at_call 27; (with_reducible refine (CK.out _).mono ?_); rintro e w' ⟨rfl, hb⟩)
      | (go_at_call 27; (with_reducible refine (CA.out _).mono ?_); rintro e w' ⟨rfl, hb⟩))
  obtain ⟨HA, y0, y1, y2, y3, y4, y5, y6, y7⟩ := rbox_next (Below.refl _ _) (by assumption)
  go_wp2_with fail
  refine (CN.out _).mono ?_
  rintro e w2 ⟨rfl, hb2⟩
  obtain ⟨HA, y0, y1, y2, y3, y4, y5, y6, y7⟩ := rbox_next hb2 ⟨HA, y0, y1, y2, y3, y4, y5, y6, y7⟩
  go_wp2_with fail
  have hT := rbox_next (below_drew (Below.refl w2.heap.size w2)) ⟨HA, y0, y1, y2, y3, y4, y5, y6, y7⟩
  go_region_held3 (fun W => Aside0 (W.heap[w.heap.size]? = some (.cells (In.cs ⟨21, d, s, t, u, a, 1, (-1)⟩) 27 (0, 0)) ∧ Below w.heap.size w W) ∧ W.cell? ⟨w.heap.size, 0, none⟩ = some (.int .i64 21) ∧ W.cell? ⟨w.heap.size, 1, none⟩ = some (.int .i64 d) ∧ W.cell? ⟨w.heap.size, 2, none⟩ = some (.int .i64 s) ∧ W.cell? ⟨w.heap.size, 3, none⟩ = some (.int .i64 t) ∧ W.cell? ⟨w.heap.size, 4, none⟩ = some (.int .i64 u) ∧ W.cell? ⟨w.heap.size, 5, none⟩ = some (.int .i64 a) ∧ W.cell? ⟨w.heap.size, 6, none⟩ = some (.int .u32 1) ∧ W.cell? ⟨w.heap.size, 7, none⟩ = some (.int .i64 (-1)))
    (first | exact hT | exact rbox_next hb (by assumption))
    (first
      | (go_at_call 28; (with_reducible refine (Cd.out _).mono ?_); rintro e w' ⟨rfl, hb⟩)
      | (go_at_call 28; (with_reducible refine (Cs.out _).mono ?_); rintro e w' ⟨rfl, hb⟩)
      | (go_at_call 28; (with_reducible refine (Ct.out _).mono ?_); rintro e w' ⟨rfl, hb⟩))
  obtain ⟨HA, y0, y1, y2, y3, y4, y5, y6, y7⟩ := rbox_next (Below.refl _ _) (by assumption)
  go_wp2
  go_ret
  refine ⟨ret_str' ?_, HA.out.2⟩
  rw [te.out]
  simp [sp_mk, wd_mk, el_mk, app_mk]
end Go.Proofs.YtbkbkikbfbmbdaaDoor

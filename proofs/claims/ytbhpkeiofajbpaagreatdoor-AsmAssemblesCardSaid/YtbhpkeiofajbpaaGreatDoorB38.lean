/- Parts: RefTextF, RefText. -/
import Derived.Test.YtbhpkeiofajbpaaGreatDoorB35
import Derived.Test.YtbhpkeiofajbpaaGreatDoorB05
import Derived.Test.YtbhpkeiofajbpaaGreatDoorB36
import Derived.Test.YtbhpkeiofajbpaaGreatDoorB37
import Derived.Deep.RegionHeld3
/- ropelineref06.Text of an await that fits. -/
section
namespace Go.Proofs.YtbhpkeiofajbpaaGreatDoor
open Go.RowKit Go.Proofs.YtbhpkeiofajbpaaGreatDoorW.PrintWords
set_option linter.unusedVariables false
set_option linter.unusedSimpArgs false

theorem wd_mk (a b c : UInt8) : (⟨#[a, b, c]⟩ : ByteArray) = ⟨[a, b, c].toArray⟩ := rfl
theorem el_mk (a b c d e : UInt8) : (⟨#[a, b, c, d, e]⟩ : ByteArray) = ⟨[a, b, c, d, e].toArray⟩ := rfl

set_option maxHeartbeats 4000000 in
set_option maxRecDepth 100000 in
theorem rt_21_0 (d s t u a q : Int) (hf : In.fits ⟨21, d, s, t, u, a, 0, q⟩) (hq : 0 ≤ q) (w : World) :
  Calls Tryz.prog 72 #[.agg #[.int .i64 21, .int .i64 d, .int .i64 s, .int .i64 t, .int .i64 u, .int .i64 a, .int .u32 0, .int .i64 q]] w fun e w' => e = .returned (.string ⟨(textF ⟨21, d, s, t, u, a, 0, q⟩).toArray⟩) ∧ Below w.heap.size w w' := by
 have ew : wordsF ⟨21, d, s, t, u, a, 0, q⟩ 87 = [101, 113] :: (114 :: dec t) :: [[101, 108, 115, 101], dec q] := by
  unfold wordsF; rw [show fieldOff 87 = none from rfl]; dsimp only; rw [if_neg (by omega), if_pos rfl, if_neg (show ¬ q = -1 by omega)]; rfl
 have te : textF ⟨21, d, s, t, u, a, 0, q⟩ = (opName 21 ++ (((((32 :: 114 :: dec d) ++ (32 :: dec a)) ++ (32 :: 114 :: dec s)) ++ [32, 101, 113]) ++ (32 :: 114 :: dec t))) ++ ([32, 101, 108, 115, 101] ++ (32 :: dec q)) := by
  show Go.Lib.join (opName 21 :: List.flatten [[114 :: dec d], [dec a], [114 :: dec s], wordsF ⟨21, d, s, t, u, a, 0, q⟩ 87]) [32] = _
  rw [ew]
  simp [join_two, Go.Lib.join_one]
 clear ew
 have CN := Aside0.mk (fun W => name_calls 21 W)
 have CK := Aside0.mk (fun W => digits_int hf.k.1 hf.k.2 W)
 have CA := Aside0.mk (fun W => digits_int hf.a.1 (Int.le_trans hf.a.2 (by decide)) W)
 have CQ := Aside0.mk (fun W => digits_int hq (Int.le_trans hf.q.2 (by decide)) W)
 have Cd := Aside0.mk (fun W => r_calls hf.d.1 (Int.le_trans hf.d.2 (by decide)) W)
 have Cs := Aside0.mk (fun W => r_calls hf.s.1 (Int.le_trans hf.s.2 (by decide)) W)
 have Ct := Aside0.mk (fun W => r_calls hf.t.1 (Int.le_trans hf.t.2 (by decide)) W)
 have lk0 := dec_le10 hf.k.2
 have lq0 := dec_le10 (Int.le_trans hf.q.2 (show (1073741824 : Int) ≤ 4294967295 by decide))
 have ld0 := dec_le10 (Int.le_trans hf.d.2 (show (7 : Int) ≤ 4294967295 by decide))
 have ls0 := dec_le10 (Int.le_trans hf.s.2 (show (7 : Int) ≤ 4294967295 by decide))
 have lt0 := dec_le10 (Int.le_trans hf.t.2 (show (7 : Int) ≤ 4294967295 by decide))
 have la0 := dec_le10 (Int.le_trans hf.a.2 (show (7 : Int) ≤ 4294967295 by decide))
 dsimp only at lk0 lq0 ld0 ls0 lt0 la0 CN CK CA Cd Cs Ct CQ
 have ln0 : (opName 21).length = 5 := by decide
 have wk : IntKind.i64.wrap 0 = 0 := by decide
 have lk : ¬ 9223372036854775807 < 1 + (dec 0).length := by omega
 have la : ¬ 9223372036854775807 < 1 + (dec a).length := by omega
 have lq : ¬ 9223372036854775807 < 1 + (dec q).length := by omega
 have b0 : ¬ 9223372036854775807 < (((dec d).length + 1 + 1) + (1 + (dec a).length)) := by omega
 have b1 : ¬ 9223372036854775807 < ((((dec d).length + 1 + 1) + (1 + (dec a).length)) + ((dec s).length + 1 + 1)) := by omega
 have b2 : ¬ 9223372036854775807 < (((((dec d).length + 1 + 1) + (1 + (dec a).length)) + ((dec s).length + 1 + 1)) + 3) := by omega
 have b3 : ¬ 9223372036854775807 < ((((((dec d).length + 1 + 1) + (1 + (dec a).length)) + ((dec s).length + 1 + 1)) + 3) + ((dec t).length + 1 + 1)) := by omega
 have bn : ¬ 9223372036854775807 < (opName 21).length + ((((((dec d).length + 1 + 1) + (1 + (dec a).length)) + ((dec s).length + 1 + 1)) + 3) + ((dec t).length + 1 + 1)) := by omega
 have be : ¬ 9223372036854775807 < 5 + (1 + (dec q).length) := by omega
 have bz : ¬ 9223372036854775807 < (opName 21).length + ((((((dec d).length + 1 + 1) + (1 + (dec a).length)) + ((dec s).length + 1 + 1)) + 3) + ((dec t).length + 1 + 1)) + (5 + (1 + (dec q).length)) := by omega
 clear lk0 lq0 ld0 ls0 lt0 la0 ln0
 have hS := rbox_cells (w := w) (W := (w.alloc (.cells (In.cs ⟨21, d, s, t, u, a, 0, q⟩) 114)).drew) ⟨blk_drew (blk_new w (.cells (In.cs ⟨21, d, s, t, u, a, 0, q⟩) 114)), below_drew ((Below.refl w.heap.size w).alloc (Nat.le_refl _) _)⟩
 replace hf := Aside0.mk hf
 replace te := Aside0.mk te
 go_enter Tryz.func72, Tryz.ntmps72
 go_wp2_with fail
 go_region_held3 (fun W => RB w W 21 d s t u a 0 q)
  (first | exact hS | exact rbox_next hb (by assumption))
  (first
   | (go_at_call 62; (with_reducible refine (CK.out _).mono ?_); rintro e w' ⟨rfl, hb⟩)
   | (go_at_call 62; (with_reducible refine (CA.out _).mono ?_); rintro e w' ⟨rfl, hb⟩))
 obtain ⟨HA, y0, y1, y2, y3, y4, y5, y6, y7⟩ := rbox_next (Below.refl _ _) (by assumption)
 go_wp2_with fail
 refine (CQ.out _).mono ?_
 rintro e w2 ⟨rfl, hb2⟩
 obtain ⟨HA, y0, y1, y2, y3, y4, y5, y6, y7⟩ := rbox_next hb2 ⟨HA, y0, y1, y2, y3, y4, y5, y6, y7⟩
 go_wp2_with fail
 refine (CN.out _).mono ?_
 rintro e w3 ⟨rfl, hb3⟩
 obtain ⟨HA, y0, y1, y2, y3, y4, y5, y6, y7⟩ := rbox_next hb3 ⟨HA, y0, y1, y2, y3, y4, y5, y6, y7⟩
 go_wp2_with fail
 have hT := rbox_next (below_drew (Below.refl w3.heap.size w3)) ⟨HA, y0, y1, y2, y3, y4, y5, y6, y7⟩
 go_region_held3 (fun W => RB w W 21 d s t u a 0 q)
  (first | exact hT | exact rbox_next hb (by assumption))
  (first
   | (go_at_call 98; (with_reducible refine (Cd.out _).mono ?_); rintro e w' ⟨rfl, hb⟩)
   | (go_at_call 98; (with_reducible refine (Cs.out _).mono ?_); rintro e w' ⟨rfl, hb⟩)
   | (go_at_call 98; (with_reducible refine (Ct.out _).mono ?_); rintro e w' ⟨rfl, hb⟩))
 obtain ⟨HA, y0, y1, y2, y3, y4, y5, y6, y7⟩ := rbox_next (Below.refl _ _) (by assumption)
 go_wp2
 go_ret
 refine ⟨ret_str' ?_, HA.out.2⟩
 rw [te.out]
 simp [sp_mk, wd_mk, el_mk, app_mk]
set_option maxHeartbeats 4000000 in
set_option maxRecDepth 100000 in
theorem rt_21_0n (d s t u a : Int) (hf : In.fits ⟨21, d, s, t, u, a, 0, (-1)⟩) (w : World) :
  Calls Tryz.prog 72 #[.agg #[.int .i64 21, .int .i64 d, .int .i64 s, .int .i64 t, .int .i64 u, .int .i64 a, .int .u32 0, .int .i64 (-1)]] w fun e w' => e = .returned (.string ⟨(textF ⟨21, d, s, t, u, a, 0, (-1)⟩).toArray⟩) ∧ Below w.heap.size w w' := by
 have ew : wordsF ⟨21, d, s, t, u, a, 0, (-1)⟩ 87 = [101, 113] :: (114 :: dec t) :: [] := by
  unfold wordsF; rw [show fieldOff 87 = none from rfl]; dsimp only; rw [if_neg (by omega), if_pos rfl, if_pos rfl]; rfl
 have te : textF ⟨21, d, s, t, u, a, 0, (-1)⟩ = opName 21 ++ (((((32 :: 114 :: dec d) ++ (32 :: dec a)) ++ (32 :: 114 :: dec s)) ++ [32, 101, 113]) ++ (32 :: 114 :: dec t)) := by
  show Go.Lib.join (opName 21 :: List.flatten [[114 :: dec d], [dec a], [114 :: dec s], wordsF ⟨21, d, s, t, u, a, 0, (-1)⟩ 87]) [32] = _
  rw [ew]
  simp [join_two, Go.Lib.join_one]
 clear ew
 have CN := Aside0.mk (fun W => name_calls 21 W)
 have CK := Aside0.mk (fun W => digits_int hf.k.1 hf.k.2 W)
 have CA := Aside0.mk (fun W => digits_int hf.a.1 (Int.le_trans hf.a.2 (by decide)) W)
 have Cd := Aside0.mk (fun W => r_calls hf.d.1 (Int.le_trans hf.d.2 (by decide)) W)
 have Cs := Aside0.mk (fun W => r_calls hf.s.1 (Int.le_trans hf.s.2 (by decide)) W)
 have Ct := Aside0.mk (fun W => r_calls hf.t.1 (Int.le_trans hf.t.2 (by decide)) W)
 have lk0 := dec_le10 hf.k.2
 have lq0 := dec_le10 (Int.le_trans hf.q.2 (show (1073741824 : Int) ≤ 4294967295 by decide))
 have ld0 := dec_le10 (Int.le_trans hf.d.2 (show (7 : Int) ≤ 4294967295 by decide))
 have ls0 := dec_le10 (Int.le_trans hf.s.2 (show (7 : Int) ≤ 4294967295 by decide))
 have lt0 := dec_le10 (Int.le_trans hf.t.2 (show (7 : Int) ≤ 4294967295 by decide))
 have la0 := dec_le10 (Int.le_trans hf.a.2 (show (7 : Int) ≤ 4294967295 by decide))
 dsimp only at lk0 lq0 ld0 ls0 lt0 la0 CN CK CA Cd Cs Ct
 have ln0 : (opName 21).length = 5 := by decide
 have wk : IntKind.i64.wrap 0 = 0 := by decide
 have lk : ¬ 9223372036854775807 < 1 + (dec 0).length := by omega
 have la : ¬ 9223372036854775807 < 1 + (dec a).length := by omega
 have b0 : ¬ 9223372036854775807 < (((dec d).length + 1 + 1) + (1 + (dec a).length)) := by omega
 have b1 : ¬ 9223372036854775807 < ((((dec d).length + 1 + 1) + (1 + (dec a).length)) + ((dec s).length + 1 + 1)) := by omega
 have b2 : ¬ 9223372036854775807 < (((((dec d).length + 1 + 1) + (1 + (dec a).length)) + ((dec s).length + 1 + 1)) + 3) := by omega
 have b3 : ¬ 9223372036854775807 < ((((((dec d).length + 1 + 1) + (1 + (dec a).length)) + ((dec s).length + 1 + 1)) + 3) + ((dec t).length + 1 + 1)) := by omega
 have bn : ¬ 9223372036854775807 < (opName 21).length + ((((((dec d).length + 1 + 1) + (1 + (dec a).length)) + ((dec s).length + 1 + 1)) + 3) + ((dec t).length + 1 + 1)) := by omega
 clear lk0 lq0 ld0 ls0 lt0 la0 ln0
 have hS := rbox_cells (w := w) (W := (w.alloc (.cells (In.cs ⟨21, d, s, t, u, a, 0, (-1)⟩) 114)).drew) ⟨blk_drew (blk_new w (.cells (In.cs ⟨21, d, s, t, u, a, 0, (-1)⟩) 114)), below_drew ((Below.refl w.heap.size w).alloc (Nat.le_refl _) _)⟩
 replace hf := Aside0.mk hf
 replace te := Aside0.mk te
 go_enter Tryz.func72, Tryz.ntmps72
 go_wp2_with fail
 go_region_held3 (fun W => RB w W 21 d s t u a 0 (-1))
  (first | exact hS | exact rbox_next hb (by assumption))
  (first
   | (go_at_call 62; (with_reducible refine (CK.out _).mono ?_); rintro e w' ⟨rfl, hb⟩)
   | (go_at_call 62; (with_reducible refine (CA.out _).mono ?_); rintro e w' ⟨rfl, hb⟩))
 obtain ⟨HA, y0, y1, y2, y3, y4, y5, y6, y7⟩ := rbox_next (Below.refl _ _) (by assumption)
 go_wp2_with fail
 refine (CN.out _).mono ?_
 rintro e w2 ⟨rfl, hb2⟩
 obtain ⟨HA, y0, y1, y2, y3, y4, y5, y6, y7⟩ := rbox_next hb2 ⟨HA, y0, y1, y2, y3, y4, y5, y6, y7⟩
 go_wp2_with fail
 have hT := rbox_next (below_drew (Below.refl w2.heap.size w2)) ⟨HA, y0, y1, y2, y3, y4, y5, y6, y7⟩
 go_region_held3 (fun W => RB w W 21 d s t u a 0 (-1))
  (first | exact hT | exact rbox_next hb (by assumption))
  (first
   | (go_at_call 98; (with_reducible refine (Cd.out _).mono ?_); rintro e w' ⟨rfl, hb⟩)
   | (go_at_call 98; (with_reducible refine (Cs.out _).mono ?_); rintro e w' ⟨rfl, hb⟩)
   | (go_at_call 98; (with_reducible refine (Ct.out _).mono ?_); rintro e w' ⟨rfl, hb⟩))
 obtain ⟨HA, y0, y1, y2, y3, y4, y5, y6, y7⟩ := rbox_next (Below.refl _ _) (by assumption)
 go_wp2
 go_ret
 refine ⟨ret_str' ?_, HA.out.2⟩
 rw [te.out]
 simp [sp_mk, wd_mk, el_mk, app_mk]
set_option maxHeartbeats 4000000 in
set_option maxRecDepth 100000 in
theorem rt_21_1 (d s t u a q : Int) (hf : In.fits ⟨21, d, s, t, u, a, 1, q⟩) (hq : 0 ≤ q) (w : World) :
  Calls Tryz.prog 72 #[.agg #[.int .i64 21, .int .i64 d, .int .i64 s, .int .i64 t, .int .i64 u, .int .i64 a, .int .u32 1, .int .i64 q]] w fun e w' => e = .returned (.string ⟨(textF ⟨21, d, s, t, u, a, 1, q⟩).toArray⟩) ∧ Below w.heap.size w w' := by
 have ew : wordsF ⟨21, d, s, t, u, a, 1, q⟩ 87 = [110, 101] :: (114 :: dec t) :: [[101, 108, 115, 101], dec q] := by
  unfold wordsF; rw [show fieldOff 87 = none from rfl]; dsimp only; rw [if_neg (by omega), if_pos rfl, if_neg (show ¬ q = -1 by omega)]; rfl
 have te : textF ⟨21, d, s, t, u, a, 1, q⟩ = (opName 21 ++ (((((32 :: 114 :: dec d) ++ (32 :: dec a)) ++ (32 :: 114 :: dec s)) ++ [32, 110, 101]) ++ (32 :: 114 :: dec t))) ++ ([32, 101, 108, 115, 101] ++ (32 :: dec q)) := by
  show Go.Lib.join (opName 21 :: List.flatten [[114 :: dec d], [dec a], [114 :: dec s], wordsF ⟨21, d, s, t, u, a, 1, q⟩ 87]) [32] = _
  rw [ew]
  simp [join_two, Go.Lib.join_one]
 clear ew
 have CN := Aside0.mk (fun W => name_calls 21 W)
 have CK := Aside0.mk (fun W => digits_int hf.k.1 hf.k.2 W)
 have CA := Aside0.mk (fun W => digits_int hf.a.1 (Int.le_trans hf.a.2 (by decide)) W)
 have CQ := Aside0.mk (fun W => digits_int hq (Int.le_trans hf.q.2 (by decide)) W)
 have Cd := Aside0.mk (fun W => r_calls hf.d.1 (Int.le_trans hf.d.2 (by decide)) W)
 have Cs := Aside0.mk (fun W => r_calls hf.s.1 (Int.le_trans hf.s.2 (by decide)) W)
 have Ct := Aside0.mk (fun W => r_calls hf.t.1 (Int.le_trans hf.t.2 (by decide)) W)
 have lk0 := dec_le10 hf.k.2
 have lq0 := dec_le10 (Int.le_trans hf.q.2 (show (1073741824 : Int) ≤ 4294967295 by decide))
 have ld0 := dec_le10 (Int.le_trans hf.d.2 (show (7 : Int) ≤ 4294967295 by decide))
 have ls0 := dec_le10 (Int.le_trans hf.s.2 (show (7 : Int) ≤ 4294967295 by decide))
 have lt0 := dec_le10 (Int.le_trans hf.t.2 (show (7 : Int) ≤ 4294967295 by decide))
 have la0 := dec_le10 (Int.le_trans hf.a.2 (show (7 : Int) ≤ 4294967295 by decide))
 dsimp only at lk0 lq0 ld0 ls0 lt0 la0 CN CK CA Cd Cs Ct CQ
 have ln0 : (opName 21).length = 5 := by decide
 have wk : IntKind.i64.wrap 1 = 1 := by decide
 have lk : ¬ 9223372036854775807 < 1 + (dec 1).length := by omega
 have la : ¬ 9223372036854775807 < 1 + (dec a).length := by omega
 have lq : ¬ 9223372036854775807 < 1 + (dec q).length := by omega
 have b0 : ¬ 9223372036854775807 < (((dec d).length + 1 + 1) + (1 + (dec a).length)) := by omega
 have b1 : ¬ 9223372036854775807 < ((((dec d).length + 1 + 1) + (1 + (dec a).length)) + ((dec s).length + 1 + 1)) := by omega
 have b2 : ¬ 9223372036854775807 < (((((dec d).length + 1 + 1) + (1 + (dec a).length)) + ((dec s).length + 1 + 1)) + 3) := by omega
 have b3 : ¬ 9223372036854775807 < ((((((dec d).length + 1 + 1) + (1 + (dec a).length)) + ((dec s).length + 1 + 1)) + 3) + ((dec t).length + 1 + 1)) := by omega
 have bn : ¬ 9223372036854775807 < (opName 21).length + ((((((dec d).length + 1 + 1) + (1 + (dec a).length)) + ((dec s).length + 1 + 1)) + 3) + ((dec t).length + 1 + 1)) := by omega
 have be : ¬ 9223372036854775807 < 5 + (1 + (dec q).length) := by omega
 have bz : ¬ 9223372036854775807 < (opName 21).length + ((((((dec d).length + 1 + 1) + (1 + (dec a).length)) + ((dec s).length + 1 + 1)) + 3) + ((dec t).length + 1 + 1)) + (5 + (1 + (dec q).length)) := by omega
 clear lk0 lq0 ld0 ls0 lt0 la0 ln0
 have hS := rbox_cells (w := w) (W := (w.alloc (.cells (In.cs ⟨21, d, s, t, u, a, 1, q⟩) 114)).drew) ⟨blk_drew (blk_new w (.cells (In.cs ⟨21, d, s, t, u, a, 1, q⟩) 114)), below_drew ((Below.refl w.heap.size w).alloc (Nat.le_refl _) _)⟩
 replace hf := Aside0.mk hf
 replace te := Aside0.mk te
 go_enter Tryz.func72, Tryz.ntmps72
 go_wp2_with fail
 go_region_held3 (fun W => RB w W 21 d s t u a 1 q)
  (first | exact hS | exact rbox_next hb (by assumption))
  (first
   | (go_at_call 62; (with_reducible refine (CK.out _).mono ?_); rintro e w' ⟨rfl, hb⟩)
   | (go_at_call 62; (with_reducible refine (CA.out _).mono ?_); rintro e w' ⟨rfl, hb⟩))
 obtain ⟨HA, y0, y1, y2, y3, y4, y5, y6, y7⟩ := rbox_next (Below.refl _ _) (by assumption)
 go_wp2_with fail
 refine (CQ.out _).mono ?_
 rintro e w2 ⟨rfl, hb2⟩
 obtain ⟨HA, y0, y1, y2, y3, y4, y5, y6, y7⟩ := rbox_next hb2 ⟨HA, y0, y1, y2, y3, y4, y5, y6, y7⟩
 go_wp2_with fail
 refine (CN.out _).mono ?_
 rintro e w3 ⟨rfl, hb3⟩
 obtain ⟨HA, y0, y1, y2, y3, y4, y5, y6, y7⟩ := rbox_next hb3 ⟨HA, y0, y1, y2, y3, y4, y5, y6, y7⟩
 go_wp2_with fail
 have hT := rbox_next (below_drew (Below.refl w3.heap.size w3)) ⟨HA, y0, y1, y2, y3, y4, y5, y6, y7⟩
 go_region_held3 (fun W => RB w W 21 d s t u a 1 q)
  (first | exact hT | exact rbox_next hb (by assumption))
  (first
   | (go_at_call 98; (with_reducible refine (Cd.out _).mono ?_); rintro e w' ⟨rfl, hb⟩)
   | (go_at_call 98; (with_reducible refine (Cs.out _).mono ?_); rintro e w' ⟨rfl, hb⟩)
   | (go_at_call 98; (with_reducible refine (Ct.out _).mono ?_); rintro e w' ⟨rfl, hb⟩))
 obtain ⟨HA, y0, y1, y2, y3, y4, y5, y6, y7⟩ := rbox_next (Below.refl _ _) (by assumption)
 go_wp2
 go_ret
 refine ⟨ret_str' ?_, HA.out.2⟩
 rw [te.out]
 simp [sp_mk, wd_mk, el_mk, app_mk]
set_option maxHeartbeats 4000000 in
set_option maxRecDepth 100000 in
theorem rt_21_1n (d s t u a : Int) (hf : In.fits ⟨21, d, s, t, u, a, 1, (-1)⟩) (w : World) :
  Calls Tryz.prog 72 #[.agg #[.int .i64 21, .int .i64 d, .int .i64 s, .int .i64 t, .int .i64 u, .int .i64 a, .int .u32 1, .int .i64 (-1)]] w fun e w' => e = .returned (.string ⟨(textF ⟨21, d, s, t, u, a, 1, (-1)⟩).toArray⟩) ∧ Below w.heap.size w w' := by
 have ew : wordsF ⟨21, d, s, t, u, a, 1, (-1)⟩ 87 = [110, 101] :: (114 :: dec t) :: [] := by
  unfold wordsF; rw [show fieldOff 87 = none from rfl]; dsimp only; rw [if_neg (by omega), if_pos rfl, if_pos rfl]; rfl
 have te : textF ⟨21, d, s, t, u, a, 1, (-1)⟩ = opName 21 ++ (((((32 :: 114 :: dec d) ++ (32 :: dec a)) ++ (32 :: 114 :: dec s)) ++ [32, 110, 101]) ++ (32 :: 114 :: dec t)) := by
  show Go.Lib.join (opName 21 :: List.flatten [[114 :: dec d], [dec a], [114 :: dec s], wordsF ⟨21, d, s, t, u, a, 1, (-1)⟩ 87]) [32] = _
  rw [ew]
  simp [join_two, Go.Lib.join_one]
 clear ew
 have CN := Aside0.mk (fun W => name_calls 21 W)
 have CK := Aside0.mk (fun W => digits_int hf.k.1 hf.k.2 W)
 have CA := Aside0.mk (fun W => digits_int hf.a.1 (Int.le_trans hf.a.2 (by decide)) W)
 have Cd := Aside0.mk (fun W => r_calls hf.d.1 (Int.le_trans hf.d.2 (by decide)) W)
 have Cs := Aside0.mk (fun W => r_calls hf.s.1 (Int.le_trans hf.s.2 (by decide)) W)
 have Ct := Aside0.mk (fun W => r_calls hf.t.1 (Int.le_trans hf.t.2 (by decide)) W)
 have lk0 := dec_le10 hf.k.2
 have lq0 := dec_le10 (Int.le_trans hf.q.2 (show (1073741824 : Int) ≤ 4294967295 by decide))
 have ld0 := dec_le10 (Int.le_trans hf.d.2 (show (7 : Int) ≤ 4294967295 by decide))
 have ls0 := dec_le10 (Int.le_trans hf.s.2 (show (7 : Int) ≤ 4294967295 by decide))
 have lt0 := dec_le10 (Int.le_trans hf.t.2 (show (7 : Int) ≤ 4294967295 by decide))
 have la0 := dec_le10 (Int.le_trans hf.a.2 (show (7 : Int) ≤ 4294967295 by decide))
 dsimp only at lk0 lq0 ld0 ls0 lt0 la0 CN CK CA Cd Cs Ct
 have ln0 : (opName 21).length = 5 := by decide
 have wk : IntKind.i64.wrap 1 = 1 := by decide
 have lk : ¬ 9223372036854775807 < 1 + (dec 1).length := by omega
 have la : ¬ 9223372036854775807 < 1 + (dec a).length := by omega
 have b0 : ¬ 9223372036854775807 < (((dec d).length + 1 + 1) + (1 + (dec a).length)) := by omega
 have b1 : ¬ 9223372036854775807 < ((((dec d).length + 1 + 1) + (1 + (dec a).length)) + ((dec s).length + 1 + 1)) := by omega
 have b2 : ¬ 9223372036854775807 < (((((dec d).length + 1 + 1) + (1 + (dec a).length)) + ((dec s).length + 1 + 1)) + 3) := by omega
 have b3 : ¬ 9223372036854775807 < ((((((dec d).length + 1 + 1) + (1 + (dec a).length)) + ((dec s).length + 1 + 1)) + 3) + ((dec t).length + 1 + 1)) := by omega
 have bn : ¬ 9223372036854775807 < (opName 21).length + ((((((dec d).length + 1 + 1) + (1 + (dec a).length)) + ((dec s).length + 1 + 1)) + 3) + ((dec t).length + 1 + 1)) := by omega
 clear lk0 lq0 ld0 ls0 lt0 la0 ln0
 have hS := rbox_cells (w := w) (W := (w.alloc (.cells (In.cs ⟨21, d, s, t, u, a, 1, (-1)⟩) 114)).drew) ⟨blk_drew (blk_new w (.cells (In.cs ⟨21, d, s, t, u, a, 1, (-1)⟩) 114)), below_drew ((Below.refl w.heap.size w).alloc (Nat.le_refl _) _)⟩
 replace hf := Aside0.mk hf
 replace te := Aside0.mk te
 go_enter Tryz.func72, Tryz.ntmps72
 go_wp2_with fail
 go_region_held3 (fun W => RB w W 21 d s t u a 1 (-1))
  (first | exact hS | exact rbox_next hb (by assumption))
  (first
   | (go_at_call 62; (with_reducible refine (CK.out _).mono ?_); rintro e w' ⟨rfl, hb⟩)
   | (go_at_call 62; (with_reducible refine (CA.out _).mono ?_); rintro e w' ⟨rfl, hb⟩))
 obtain ⟨HA, y0, y1, y2, y3, y4, y5, y6, y7⟩ := rbox_next (Below.refl _ _) (by assumption)
 go_wp2_with fail
 refine (CN.out _).mono ?_
 rintro e w2 ⟨rfl, hb2⟩
 obtain ⟨HA, y0, y1, y2, y3, y4, y5, y6, y7⟩ := rbox_next hb2 ⟨HA, y0, y1, y2, y3, y4, y5, y6, y7⟩
 go_wp2_with fail
 have hT := rbox_next (below_drew (Below.refl w2.heap.size w2)) ⟨HA, y0, y1, y2, y3, y4, y5, y6, y7⟩
 go_region_held3 (fun W => RB w W 21 d s t u a 1 (-1))
  (first | exact hT | exact rbox_next hb (by assumption))
  (first
   | (go_at_call 98; (with_reducible refine (Cd.out _).mono ?_); rintro e w' ⟨rfl, hb⟩)
   | (go_at_call 98; (with_reducible refine (Cs.out _).mono ?_); rintro e w' ⟨rfl, hb⟩)
   | (go_at_call 98; (with_reducible refine (Ct.out _).mono ?_); rintro e w' ⟨rfl, hb⟩))
 obtain ⟨HA, y0, y1, y2, y3, y4, y5, y6, y7⟩ := rbox_next (Below.refl _ _) (by assumption)
 go_wp2
 go_ret
 refine ⟨ret_str' ?_, HA.out.2⟩
 rw [te.out]
 simp [sp_mk, wd_mk, el_mk, app_mk]
end Go.Proofs.YtbhpkeiofajbpaaGreatDoor
end
/- The document's text of what is right is the program's. -/
section
namespace Go.Proofs.YtbhpkeiofajbpaaGreatDoor
open Go.RowKit Go.Proofs.YtbhpkeiofajbpaaGreatDoorW.PrintWords
set_option linter.unusedVariables false
set_option linter.unusedSimpArgs false

theorem await_k {i : In} {places : Int} (h : foldR places [68, 65, 83, 87] { i with op := 0 } = some In.zero) : i.k ≤ 1 := by
 rw [foldR, show (((68 : UInt8).toNat : Nat) : Int) = 68 from rfl, stepR_field (j := 1) rfl] at h
 by_cases b : ({ i with op := 0 } : In).get 1 < 0 ∨ 7 < ({ i with op := 0 } : In).get 1
 ·rw [if_pos b] at h; cases h
 rw [if_neg b] at h; clear b
 dsimp only at h
 rw [foldR, show (((65 : UInt8).toNat : Nat) : Int) = 65 from rfl, stepR_field (j := 5) rfl] at h
 by_cases b : (({ i with op := 0 } : In).put 0 1).get 5 < 0 ∨ 7 < (({ i with op := 0 } : In).put 0 1).get 5
 ·rw [if_pos b] at h; cases h
 rw [if_neg b] at h; clear b
 dsimp only at h
 rw [foldR, show (((83 : UInt8).toNat : Nat) : Int) = 83 from rfl, stepR_field (j := 2) rfl] at h
 by_cases b : ((({ i with op := 0 } : In).put 0 1).put 0 5).get 2 < 0 ∨ 7 < ((({ i with op := 0 } : In).put 0 1).put 0 5).get 2
 ·rw [if_pos b] at h; cases h
 rw [if_neg b] at h; clear b
 dsimp only at h
 rw [foldR, show (((87 : UInt8).toNat : Nat) : Int) = 87 from rfl, stepR_W] at h
 change (match (if 1 < i.k then none else if i.t < 0 ∨ 7 < i.t ∨ i.q < -1 ∨ (i.q ≠ -1 ∧ places ≤ i.q) then none else some ({ op := 0, d := 0, s := 0, t := 0, u := i.u, a := 0, k := 0, q := 0 } : In)) with | some r' => foldR places [] r' | none => none) = some In.zero at h
 by_cases b : 1 < i.k
 ·rw [if_pos b] at h; cases h
 ·omega

theorem reftext_calls (i : In) (h : rightF i 1073741824 = true) (hwk : i.wk) (w : World) :
  Calls Tryz.prog 72 #[i.v] w fun e w' => e = .returned (.string ⟨(textF i).toArray⟩) ∧ Below w.heap.size w w' := by
 have hf := rightF_fits h hwk
 have hn := opName_in (rightF_name h)
 have hp := rightF_q h
 have hr := rightF_fold h
 obtain ⟨op, d, s, t, u, a, k, q⟩ := i
 dsimp only at hn hp hr
 unfold In.v
 dsimp only
 have hc : op = 1 ∨ op = 2 ∨ op = 3 ∨ op = 4 ∨ op = 5 ∨ op = 6 ∨ op = 7 ∨ op = 8 ∨ op = 9 ∨ op = 10 ∨ op = 11 ∨ op = 12 ∨ op = 13 ∨ op = 16 ∨ op = 17 ∨ op = 18 ∨ op = 19 ∨ op = 20 ∨ op = 21 ∨ op = 22 ∨ op = 23 := by omega
 rcases hc with rfl | rfl | rfl | rfl | rfl | rfl | rfl | rfl | rfl | rfl | rfl | rfl | rfl | rfl | rfl | rfl | rfl | rfl | rfl | rfl | rfl
 ·exact rt_1 d s t u a k q hf w
 ·exact rt_2 d s t u a k q hf w
 ·exact rt_3 d s t u a k q hf w
 ·exact rt_4 d s t u a k q hf w
 ·exact rt_5 d s t u a k q hf w
 ·exact rt_6 d s t u a k q hf w
 ·exact rt_7 d s t u a k q hf w
 ·exact rt_8 d s t u a k q hf (hp (by decide)) w
 ·exact rt_9 d s t u a k q hf (hp (by decide)) w
 ·exact rt_10 d s t u a k q hf (hp (by decide)) w
 ·exact rt_11 d s t u a k q hf w
 ·exact rt_12 d s t u a k q hf w
 ·exact rt_13 d s t u a k q hf w
 ·exact rt_16 d s t u a k q hf w
 ·exact rt_17 d s t u a k q hf w
 ·exact rt_18 d s t u a k q hf w
 ·exact rt_19 d s t u a k q hf w
 ·exact rt_20 d s t u a k q hf w
 ·have hk1 : k ≤ 1 := await_k (i := ⟨21, d, s, t, u, a, k, q⟩) hr
  have hk : k = 0 ∨ k = 1 := by have := hf.k.1; dsimp only at this; omega
  have hq := hf.q.1
  dsimp only at hq
  by_cases h0 : 0 ≤ q
  ·rcases hk with rfl | rfl
   ·exact rt_21_0 d s t u a q hf h0 w
   ·exact rt_21_1 d s t u a q hf h0 w
  ·have hq1 : q = -1 := by omega
   subst hq1
   rcases hk with rfl | rfl
   ·exact rt_21_0n d s t u a hf w
   ·exact rt_21_1n d s t u a hf w
 ·exact rt_22 d s t u a k q hf w
 ·exact rt_23 d s t u a k q hf w
end Go.Proofs.YtbhpkeiofajbpaaGreatDoor
end

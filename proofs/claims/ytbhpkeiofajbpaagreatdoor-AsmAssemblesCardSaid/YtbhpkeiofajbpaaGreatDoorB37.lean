/- Parts: RefTextC, RefTextD. -/
import Derived.Test.YtbhpkeiofajbpaaGreatDoorB35
/- ropelineref06.Text of what fits, op by op: 11, 12, 13, 16, 17. -/
section
namespace Go.Proofs.YtbhpkeiofajbpaaGreatDoor
open Go.RowKit Go.Proofs.YtbhpkeiofajbpaaGreatDoorW.PrintWords
set_option linter.unusedVariables false
set_option linter.unusedSimpArgs false

set_option maxHeartbeats 4000000 in
set_option maxRecDepth 100000 in
theorem rt_11 (d s t u a k q : Int) (hf : In.fits ⟨11, d, s, t, u, a, k, q⟩) (w : World) : Calls Tryz.prog 72 #[In.v ⟨11, d, s, t, u, a, k, q⟩] w fun e w' => e = .returned (.string ⟨(textF ⟨11, d, s, t, u, a, k, q⟩).toArray⟩) ∧ Below w.heap.size w w' := by
 have te : textF ⟨11, d, s, t, u, a, k, q⟩ = opName 11 ++ (32 :: 114 :: dec d) := by
  show Go.Lib.join (opName 11 :: List.flatten [[114 :: dec d]]) [32] = _
  simp [join_two, Go.Lib.join_one]
 obtain ⟨CK, CA, wk, lk, la, CQ, ld0, ls0, lt0, lu0, lk0, la0, lq0⟩ := rt_facts hf
 have CN := Aside0.mk (fun W => name_calls 11 W)
 have Cd := Aside0.mk (fun W => r_calls hf.d.1 (Int.le_trans hf.d.2 (by decide)) W)
 dsimp only at Cd
 have ln0 : (opName 11).length = 4 := by decide
 have bn : ¬ 9223372036854775807 < (opName 11).length + ((dec d).length + 1 + 1) := by omega
 clear lk0 lq0 ld0 ls0 lt0 lu0 la0 ln0
 have hS := rbox_start w 11 d s t u a k q
 replace hf := Aside0.mk hf
 replace te := Aside0.mk te
 unfold In.v
 go_enter Tryz.func72, Tryz.ntmps72
 go_wp2_with fail
 go_region_held3 (fun W => RB w W 11 d s t u a k q) (first | exact hS | exact rbox_next hb (by assumption))
  (first
   | (go_at_call 62; (with_reducible refine (CK.out _).mono ?_); rintro e w' ⟨rfl, hb⟩)
   | (go_at_call 62; (with_reducible refine (CA.out _).mono ?_); rintro e w' ⟨rfl, hb⟩))
 obtain ⟨HA, y0, y1, y2, y3, y4, y5, y6, y7⟩ := rbox_next (Below.refl _ _) (by assumption)
 by_cases hq : 0 ≤ q
 obtain ⟨CQ, lq⟩ := CQ.out hq
 go_wp2_with fail
 refine (CQ.out _).mono ?_
 rintro e w2 ⟨rfl, hb2⟩
 obtain ⟨HA, y0, y1, y2, y3, y4, y5, y6, y7⟩ := rbox_next hb2 ⟨HA, y0, y1, y2, y3, y4, y5, y6, y7⟩
 go_wp2_with fail
 rotate_left
 go_wp2_with fail
 rotate_left
 all_goals (
  refine (CN.out _).mono ?_
  rintro e w2 ⟨rfl, hb2⟩
  obtain ⟨HA, y0, y1, y2, y3, y4, y5, y6, y7⟩ := rbox_next hb2 ⟨HA, y0, y1, y2, y3, y4, y5, y6, y7⟩
  go_wp2_with fail
  refine (Cd.out _).mono ?_
  rintro e w2 ⟨rfl, hb2⟩
  obtain ⟨HA, y0, y1, y2, y3, y4, y5, y6, y7⟩ := rbox_next hb2 ⟨HA, y0, y1, y2, y3, y4, y5, y6, y7⟩
  go_wp2_with fail
  go_wp2
  go_ret
  refine ⟨ret_str' ?_, HA.out.2⟩
  rw [te.out]
  simp [sp_mk, app_mk])
set_option maxHeartbeats 4000000 in
set_option maxRecDepth 100000 in
theorem rt_12 (d s t u a k q : Int) (hf : In.fits ⟨12, d, s, t, u, a, k, q⟩) (w : World) : Calls Tryz.prog 72 #[In.v ⟨12, d, s, t, u, a, k, q⟩] w fun e w' => e = .returned (.string ⟨(textF ⟨12, d, s, t, u, a, k, q⟩).toArray⟩) ∧ Below w.heap.size w w' := by
 have te : textF ⟨12, d, s, t, u, a, k, q⟩ = opName 12 ++ (32 :: dec k) := by
  show Go.Lib.join (opName 12 :: List.flatten [[dec k]]) [32] = _
  simp [join_two, Go.Lib.join_one]
 obtain ⟨CK, CA, wk, lk, la, CQ, ld0, ls0, lt0, lu0, lk0, la0, lq0⟩ := rt_facts hf
 have CN := Aside0.mk (fun W => name_calls 12 W)
 have ln0 : (opName 12).length = 4 := by decide
 have bn : ¬ 9223372036854775807 < (opName 12).length + (1 + (dec k).length) := by omega
 clear lk0 lq0 ld0 ls0 lt0 lu0 la0 ln0
 have hS := rbox_start w 12 d s t u a k q
 replace hf := Aside0.mk hf
 replace te := Aside0.mk te
 unfold In.v
 go_enter Tryz.func72, Tryz.ntmps72
 go_wp2_with fail
 go_region_held3 (fun W => RB w W 12 d s t u a k q) (first | exact hS | exact rbox_next hb (by assumption))
  (first
   | (go_at_call 62; (with_reducible refine (CK.out _).mono ?_); rintro e w' ⟨rfl, hb⟩)
   | (go_at_call 62; (with_reducible refine (CA.out _).mono ?_); rintro e w' ⟨rfl, hb⟩))
 obtain ⟨HA, y0, y1, y2, y3, y4, y5, y6, y7⟩ := rbox_next (Below.refl _ _) (by assumption)
 by_cases hq : 0 ≤ q
 obtain ⟨CQ, lq⟩ := CQ.out hq
 go_wp2_with fail
 refine (CQ.out _).mono ?_
 rintro e w2 ⟨rfl, hb2⟩
 obtain ⟨HA, y0, y1, y2, y3, y4, y5, y6, y7⟩ := rbox_next hb2 ⟨HA, y0, y1, y2, y3, y4, y5, y6, y7⟩
 go_wp2_with fail
 rotate_left
 go_wp2_with fail
 rotate_left
 all_goals (
  refine (CN.out _).mono ?_
  rintro e w2 ⟨rfl, hb2⟩
  obtain ⟨HA, y0, y1, y2, y3, y4, y5, y6, y7⟩ := rbox_next hb2 ⟨HA, y0, y1, y2, y3, y4, y5, y6, y7⟩
  go_wp2_with fail
  go_wp2
  go_ret
  refine ⟨ret_str' ?_, HA.out.2⟩
  rw [te.out]
  simp [sp_mk, app_mk])
set_option maxHeartbeats 4000000 in
set_option maxRecDepth 100000 in
theorem rt_13 (d s t u a k q : Int) (hf : In.fits ⟨13, d, s, t, u, a, k, q⟩) (w : World) : Calls Tryz.prog 72 #[In.v ⟨13, d, s, t, u, a, k, q⟩] w fun e w' => e = .returned (.string ⟨(textF ⟨13, d, s, t, u, a, k, q⟩).toArray⟩) ∧ Below w.heap.size w w' := by
 have te : textF ⟨13, d, s, t, u, a, k, q⟩ = opName 13 ++ (32 :: dec k) := by
  show Go.Lib.join (opName 13 :: List.flatten [[dec k]]) [32] = _
  simp [join_two, Go.Lib.join_one]
 obtain ⟨CK, CA, wk, lk, la, CQ, ld0, ls0, lt0, lu0, lk0, la0, lq0⟩ := rt_facts hf
 have CN := Aside0.mk (fun W => name_calls 13 W)
 have ln0 : (opName 13).length = 4 := by decide
 have bn : ¬ 9223372036854775807 < (opName 13).length + (1 + (dec k).length) := by omega
 clear lk0 lq0 ld0 ls0 lt0 lu0 la0 ln0
 have hS := rbox_start w 13 d s t u a k q
 replace hf := Aside0.mk hf
 replace te := Aside0.mk te
 unfold In.v
 go_enter Tryz.func72, Tryz.ntmps72
 go_wp2_with fail
 go_region_held3 (fun W => RB w W 13 d s t u a k q) (first | exact hS | exact rbox_next hb (by assumption))
  (first
   | (go_at_call 62; (with_reducible refine (CK.out _).mono ?_); rintro e w' ⟨rfl, hb⟩)
   | (go_at_call 62; (with_reducible refine (CA.out _).mono ?_); rintro e w' ⟨rfl, hb⟩))
 obtain ⟨HA, y0, y1, y2, y3, y4, y5, y6, y7⟩ := rbox_next (Below.refl _ _) (by assumption)
 by_cases hq : 0 ≤ q
 obtain ⟨CQ, lq⟩ := CQ.out hq
 go_wp2_with fail
 refine (CQ.out _).mono ?_
 rintro e w2 ⟨rfl, hb2⟩
 obtain ⟨HA, y0, y1, y2, y3, y4, y5, y6, y7⟩ := rbox_next hb2 ⟨HA, y0, y1, y2, y3, y4, y5, y6, y7⟩
 go_wp2_with fail
 rotate_left
 go_wp2_with fail
 rotate_left
 all_goals (
  refine (CN.out _).mono ?_
  rintro e w2 ⟨rfl, hb2⟩
  obtain ⟨HA, y0, y1, y2, y3, y4, y5, y6, y7⟩ := rbox_next hb2 ⟨HA, y0, y1, y2, y3, y4, y5, y6, y7⟩
  go_wp2_with fail
  go_wp2
  go_ret
  refine ⟨ret_str' ?_, HA.out.2⟩
  rw [te.out]
  simp [sp_mk, app_mk])
set_option maxHeartbeats 4000000 in
set_option maxRecDepth 100000 in
theorem rt_16 (d s t u a k q : Int) (hf : In.fits ⟨16, d, s, t, u, a, k, q⟩) (w : World) : Calls Tryz.prog 72 #[In.v ⟨16, d, s, t, u, a, k, q⟩] w fun e w' => e = .returned (.string ⟨(textF ⟨16, d, s, t, u, a, k, q⟩).toArray⟩) ∧ Below w.heap.size w w' := by
 have te : textF ⟨16, d, s, t, u, a, k, q⟩ = opName 16 ++ (((32 :: 114 :: dec d) ++ (32 :: dec a)) ++ (32 :: 114 :: dec s)) := by
  show Go.Lib.join (opName 16 :: List.flatten [[114 :: dec d], [dec a], [114 :: dec s]]) [32] = _
  simp [join_two, Go.Lib.join_one]
 obtain ⟨CK, CA, wk, lk, la, CQ, ld0, ls0, lt0, lu0, lk0, la0, lq0⟩ := rt_facts hf
 have CN := Aside0.mk (fun W => name_calls 16 W)
 have Cd := Aside0.mk (fun W => r_calls hf.d.1 (Int.le_trans hf.d.2 (by decide)) W)
 have Cs := Aside0.mk (fun W => r_calls hf.s.1 (Int.le_trans hf.s.2 (by decide)) W)
 dsimp only at Cd Cs
 have ln0 : (opName 16).length = 4 := by decide
 have b2 : ¬ 9223372036854775807 < (((dec d).length + 1 + 1) + (1 + (dec a).length)) := by omega
 have b3 : ¬ 9223372036854775807 < ((((dec d).length + 1 + 1) + (1 + (dec a).length)) + ((dec s).length + 1 + 1)) := by omega
 have bn : ¬ 9223372036854775807 < (opName 16).length + ((((dec d).length + 1 + 1) + (1 + (dec a).length)) + ((dec s).length + 1 + 1)) := by omega
 clear lk0 lq0 ld0 ls0 lt0 lu0 la0 ln0
 have hS := rbox_start w 16 d s t u a k q
 replace hf := Aside0.mk hf
 replace te := Aside0.mk te
 unfold In.v
 go_enter Tryz.func72, Tryz.ntmps72
 go_wp2_with fail
 go_region_held3 (fun W => RB w W 16 d s t u a k q) (first | exact hS | exact rbox_next hb (by assumption))
  (first
   | (go_at_call 62; (with_reducible refine (CK.out _).mono ?_); rintro e w' ⟨rfl, hb⟩)
   | (go_at_call 62; (with_reducible refine (CA.out _).mono ?_); rintro e w' ⟨rfl, hb⟩))
 obtain ⟨HA, y0, y1, y2, y3, y4, y5, y6, y7⟩ := rbox_next (Below.refl _ _) (by assumption)
 by_cases hq : 0 ≤ q
 obtain ⟨CQ, lq⟩ := CQ.out hq
 go_wp2_with fail
 refine (CQ.out _).mono ?_
 rintro e w2 ⟨rfl, hb2⟩
 obtain ⟨HA, y0, y1, y2, y3, y4, y5, y6, y7⟩ := rbox_next hb2 ⟨HA, y0, y1, y2, y3, y4, y5, y6, y7⟩
 go_wp2_with fail
 rotate_left
 go_wp2_with fail
 rotate_left
 all_goals (
  refine (CN.out _).mono ?_
  rintro e w2 ⟨rfl, hb2⟩
  obtain ⟨HA, y0, y1, y2, y3, y4, y5, y6, y7⟩ := rbox_next hb2 ⟨HA, y0, y1, y2, y3, y4, y5, y6, y7⟩
  go_wp2_with fail
  have hT := rbox_next (below_drew (Below.refl _ _)) ⟨HA, y0, y1, y2, y3, y4, y5, y6, y7⟩
  go_region_held3 (fun W => RB w W 16 d s t u a k q) (first | exact hT | exact rbox_next hb (by assumption))
   (first
    | (go_at_call 98; (with_reducible refine (Cd.out _).mono ?_); rintro e w' ⟨rfl, hb⟩)
    | (go_at_call 98; (with_reducible refine (Cs.out _).mono ?_); rintro e w' ⟨rfl, hb⟩))
  obtain ⟨HA, y0, y1, y2, y3, y4, y5, y6, y7⟩ := rbox_next (Below.refl _ _) (by assumption)
  go_wp2
  go_ret
  refine ⟨ret_str' ?_, HA.out.2⟩
  rw [te.out]
  simp [sp_mk, app_mk])
set_option maxHeartbeats 4000000 in
set_option maxRecDepth 100000 in
theorem rt_17 (d s t u a k q : Int) (hf : In.fits ⟨17, d, s, t, u, a, k, q⟩) (w : World) : Calls Tryz.prog 72 #[In.v ⟨17, d, s, t, u, a, k, q⟩] w fun e w' => e = .returned (.string ⟨(textF ⟨17, d, s, t, u, a, k, q⟩).toArray⟩) ∧ Below w.heap.size w w' := by
 have te : textF ⟨17, d, s, t, u, a, k, q⟩ = opName 17 ++ (((32 :: dec a) ++ (32 :: 114 :: dec s)) ++ (32 :: 114 :: dec t)) := by
  show Go.Lib.join (opName 17 :: List.flatten [[dec a], [114 :: dec s], [114 :: dec t]]) [32] = _
  simp [join_two, Go.Lib.join_one]
 obtain ⟨CK, CA, wk, lk, la, CQ, ld0, ls0, lt0, lu0, lk0, la0, lq0⟩ := rt_facts hf
 have CN := Aside0.mk (fun W => name_calls 17 W)
 have Cs := Aside0.mk (fun W => r_calls hf.s.1 (Int.le_trans hf.s.2 (by decide)) W)
 have Ct := Aside0.mk (fun W => r_calls hf.t.1 (Int.le_trans hf.t.2 (by decide)) W)
 dsimp only at Cs Ct
 have ln0 : (opName 17).length = 5 := by decide
 have b2 : ¬ 9223372036854775807 < ((1 + (dec a).length) + ((dec s).length + 1 + 1)) := by omega
 have b3 : ¬ 9223372036854775807 < (((1 + (dec a).length) + ((dec s).length + 1 + 1)) + ((dec t).length + 1 + 1)) := by omega
 have bn : ¬ 9223372036854775807 < (opName 17).length + (((1 + (dec a).length) + ((dec s).length + 1 + 1)) + ((dec t).length + 1 + 1)) := by omega
 clear lk0 lq0 ld0 ls0 lt0 lu0 la0 ln0
 have hS := rbox_start w 17 d s t u a k q
 replace hf := Aside0.mk hf
 replace te := Aside0.mk te
 unfold In.v
 go_enter Tryz.func72, Tryz.ntmps72
 go_wp2_with fail
 go_region_held3 (fun W => RB w W 17 d s t u a k q) (first | exact hS | exact rbox_next hb (by assumption))
  (first
   | (go_at_call 62; (with_reducible refine (CK.out _).mono ?_); rintro e w' ⟨rfl, hb⟩)
   | (go_at_call 62; (with_reducible refine (CA.out _).mono ?_); rintro e w' ⟨rfl, hb⟩))
 obtain ⟨HA, y0, y1, y2, y3, y4, y5, y6, y7⟩ := rbox_next (Below.refl _ _) (by assumption)
 by_cases hq : 0 ≤ q
 obtain ⟨CQ, lq⟩ := CQ.out hq
 go_wp2_with fail
 refine (CQ.out _).mono ?_
 rintro e w2 ⟨rfl, hb2⟩
 obtain ⟨HA, y0, y1, y2, y3, y4, y5, y6, y7⟩ := rbox_next hb2 ⟨HA, y0, y1, y2, y3, y4, y5, y6, y7⟩
 go_wp2_with fail
 rotate_left
 go_wp2_with fail
 rotate_left
 all_goals (
  refine (CN.out _).mono ?_
  rintro e w2 ⟨rfl, hb2⟩
  obtain ⟨HA, y0, y1, y2, y3, y4, y5, y6, y7⟩ := rbox_next hb2 ⟨HA, y0, y1, y2, y3, y4, y5, y6, y7⟩
  go_wp2_with fail
  have hT := rbox_next (below_drew (Below.refl _ _)) ⟨HA, y0, y1, y2, y3, y4, y5, y6, y7⟩
  go_region_held3 (fun W => RB w W 17 d s t u a k q) (first | exact hT | exact rbox_next hb (by assumption))
   (first
    | (go_at_call 98; (with_reducible refine (Cs.out _).mono ?_); rintro e w' ⟨rfl, hb⟩)
    | (go_at_call 98; (with_reducible refine (Ct.out _).mono ?_); rintro e w' ⟨rfl, hb⟩))
  obtain ⟨HA, y0, y1, y2, y3, y4, y5, y6, y7⟩ := rbox_next (Below.refl _ _) (by assumption)
  go_wp2
  go_ret
  refine ⟨ret_str' ?_, HA.out.2⟩
  rw [te.out]
  simp [sp_mk, app_mk])
end Go.Proofs.YtbhpkeiofajbpaaGreatDoor
end
/- ropelineref06.Text of what fits, op by op: 18, 19, 20, 22, 23. -/
section
namespace Go.Proofs.YtbhpkeiofajbpaaGreatDoor
open Go.RowKit Go.Proofs.YtbhpkeiofajbpaaGreatDoorW.PrintWords
set_option linter.unusedVariables false
set_option linter.unusedSimpArgs false

set_option maxHeartbeats 4000000 in
set_option maxRecDepth 100000 in
theorem rt_18 (d s t u a k q : Int) (hf : In.fits ⟨18, d, s, t, u, a, k, q⟩) (w : World) : Calls Tryz.prog 72 #[In.v ⟨18, d, s, t, u, a, k, q⟩] w fun e w' => e = .returned (.string ⟨(textF ⟨18, d, s, t, u, a, k, q⟩).toArray⟩) ∧ Below w.heap.size w w' := by
 have te : textF ⟨18, d, s, t, u, a, k, q⟩ = opName 18 ++ ((((32 :: 114 :: dec d) ++ (32 :: dec a)) ++ (32 :: 114 :: dec s)) ++ (32 :: 114 :: dec t)) := by
  show Go.Lib.join (opName 18 :: List.flatten [[114 :: dec d], [dec a], [114 :: dec s], [114 :: dec t]]) [32] = _
  simp [join_two, Go.Lib.join_one]
 obtain ⟨CK, CA, wk, lk, la, CQ, ld0, ls0, lt0, lu0, lk0, la0, lq0⟩ := rt_facts hf
 have CN := Aside0.mk (fun W => name_calls 18 W)
 have Cd := Aside0.mk (fun W => r_calls hf.d.1 (Int.le_trans hf.d.2 (by decide)) W)
 have Cs := Aside0.mk (fun W => r_calls hf.s.1 (Int.le_trans hf.s.2 (by decide)) W)
 have Ct := Aside0.mk (fun W => r_calls hf.t.1 (Int.le_trans hf.t.2 (by decide)) W)
 dsimp only at Cd Cs Ct
 have ln0 : (opName 18).length = 4 := by decide
 have b2 : ¬ 9223372036854775807 < (((dec d).length + 1 + 1) + (1 + (dec a).length)) := by omega
 have b3 : ¬ 9223372036854775807 < ((((dec d).length + 1 + 1) + (1 + (dec a).length)) + ((dec s).length + 1 + 1)) := by omega
 have b4 : ¬ 9223372036854775807 < (((((dec d).length + 1 + 1) + (1 + (dec a).length)) + ((dec s).length + 1 + 1)) + ((dec t).length + 1 + 1)) := by omega
 have bn : ¬ 9223372036854775807 < (opName 18).length + (((((dec d).length + 1 + 1) + (1 + (dec a).length)) + ((dec s).length + 1 + 1)) + ((dec t).length + 1 + 1)) := by omega
 clear lk0 lq0 ld0 ls0 lt0 lu0 la0 ln0
 have hS := rbox_start w 18 d s t u a k q
 replace hf := Aside0.mk hf
 replace te := Aside0.mk te
 unfold In.v
 go_enter Tryz.func72, Tryz.ntmps72
 go_wp2_with fail
 go_region_held3 (fun W => RB w W 18 d s t u a k q) (first | exact hS | exact rbox_next hb (by assumption))
  (first
   | (go_at_call 62; (with_reducible refine (CK.out _).mono ?_); rintro e w' ⟨rfl, hb⟩)
   | (go_at_call 62; (with_reducible refine (CA.out _).mono ?_); rintro e w' ⟨rfl, hb⟩))
 obtain ⟨HA, y0, y1, y2, y3, y4, y5, y6, y7⟩ := rbox_next (Below.refl _ _) (by assumption)
 by_cases hq : 0 ≤ q
 obtain ⟨CQ, lq⟩ := CQ.out hq
 go_wp2_with fail
 refine (CQ.out _).mono ?_
 rintro e w2 ⟨rfl, hb2⟩
 obtain ⟨HA, y0, y1, y2, y3, y4, y5, y6, y7⟩ := rbox_next hb2 ⟨HA, y0, y1, y2, y3, y4, y5, y6, y7⟩
 go_wp2_with fail
 rotate_left
 go_wp2_with fail
 rotate_left
 all_goals (
  refine (CN.out _).mono ?_
  rintro e w2 ⟨rfl, hb2⟩
  obtain ⟨HA, y0, y1, y2, y3, y4, y5, y6, y7⟩ := rbox_next hb2 ⟨HA, y0, y1, y2, y3, y4, y5, y6, y7⟩
  go_wp2_with fail
  have hT := rbox_next (below_drew (Below.refl _ _)) ⟨HA, y0, y1, y2, y3, y4, y5, y6, y7⟩
  go_region_held3 (fun W => RB w W 18 d s t u a k q) (first | exact hT | exact rbox_next hb (by assumption))
   (first
    | (go_at_call 98; (with_reducible refine (Cd.out _).mono ?_); rintro e w' ⟨rfl, hb⟩)
    | (go_at_call 98; (with_reducible refine (Cs.out _).mono ?_); rintro e w' ⟨rfl, hb⟩)
    | (go_at_call 98; (with_reducible refine (Ct.out _).mono ?_); rintro e w' ⟨rfl, hb⟩))
  obtain ⟨HA, y0, y1, y2, y3, y4, y5, y6, y7⟩ := rbox_next (Below.refl _ _) (by assumption)
  go_wp2
  go_ret
  refine ⟨ret_str' ?_, HA.out.2⟩
  rw [te.out]
  simp [sp_mk, app_mk])
set_option maxHeartbeats 4000000 in
set_option maxRecDepth 100000 in
theorem rt_19 (d s t u a k q : Int) (hf : In.fits ⟨19, d, s, t, u, a, k, q⟩) (w : World) : Calls Tryz.prog 72 #[In.v ⟨19, d, s, t, u, a, k, q⟩] w fun e w' => e = .returned (.string ⟨(textF ⟨19, d, s, t, u, a, k, q⟩).toArray⟩) ∧ Below w.heap.size w w' := by
 have te : textF ⟨19, d, s, t, u, a, k, q⟩ = opName 19 ++ (((((32 :: 114 :: dec d) ++ (32 :: dec a)) ++ (32 :: 114 :: dec s)) ++ (32 :: 114 :: dec t)) ++ (32 :: 114 :: dec u)) := by
  show Go.Lib.join (opName 19 :: List.flatten [[114 :: dec d], [dec a], [114 :: dec s], [114 :: dec t], [114 :: dec u]]) [32] = _
  simp [join_two, Go.Lib.join_one]
 obtain ⟨CK, CA, wk, lk, la, CQ, ld0, ls0, lt0, lu0, lk0, la0, lq0⟩ := rt_facts hf
 have CN := Aside0.mk (fun W => name_calls 19 W)
 have Cd := Aside0.mk (fun W => r_calls hf.d.1 (Int.le_trans hf.d.2 (by decide)) W)
 have Cs := Aside0.mk (fun W => r_calls hf.s.1 (Int.le_trans hf.s.2 (by decide)) W)
 have Ct := Aside0.mk (fun W => r_calls hf.t.1 (Int.le_trans hf.t.2 (by decide)) W)
 have Cu := Aside0.mk (fun W => r_calls hf.u.1 (Int.le_trans hf.u.2 (by decide)) W)
 dsimp only at Cd Cs Ct Cu
 have ln0 : (opName 19).length = 3 := by decide
 have b2 : ¬ 9223372036854775807 < (((dec d).length + 1 + 1) + (1 + (dec a).length)) := by omega
 have b3 : ¬ 9223372036854775807 < ((((dec d).length + 1 + 1) + (1 + (dec a).length)) + ((dec s).length + 1 + 1)) := by omega
 have b4 : ¬ 9223372036854775807 < (((((dec d).length + 1 + 1) + (1 + (dec a).length)) + ((dec s).length + 1 + 1)) + ((dec t).length + 1 + 1)) := by omega
 have b5 : ¬ 9223372036854775807 < ((((((dec d).length + 1 + 1) + (1 + (dec a).length)) + ((dec s).length + 1 + 1)) + ((dec t).length + 1 + 1)) + ((dec u).length + 1 + 1)) := by omega
 have bn : ¬ 9223372036854775807 < (opName 19).length + ((((((dec d).length + 1 + 1) + (1 + (dec a).length)) + ((dec s).length + 1 + 1)) + ((dec t).length + 1 + 1)) + ((dec u).length + 1 + 1)) := by omega
 clear lk0 lq0 ld0 ls0 lt0 lu0 la0 ln0
 have hS := rbox_start w 19 d s t u a k q
 replace hf := Aside0.mk hf
 replace te := Aside0.mk te
 unfold In.v
 go_enter Tryz.func72, Tryz.ntmps72
 go_wp2_with fail
 go_region_held3 (fun W => RB w W 19 d s t u a k q) (first | exact hS | exact rbox_next hb (by assumption))
  (first
   | (go_at_call 62; (with_reducible refine (CK.out _).mono ?_); rintro e w' ⟨rfl, hb⟩)
   | (go_at_call 62; (with_reducible refine (CA.out _).mono ?_); rintro e w' ⟨rfl, hb⟩))
 obtain ⟨HA, y0, y1, y2, y3, y4, y5, y6, y7⟩ := rbox_next (Below.refl _ _) (by assumption)
 by_cases hq : 0 ≤ q
 obtain ⟨CQ, lq⟩ := CQ.out hq
 go_wp2_with fail
 refine (CQ.out _).mono ?_
 rintro e w2 ⟨rfl, hb2⟩
 obtain ⟨HA, y0, y1, y2, y3, y4, y5, y6, y7⟩ := rbox_next hb2 ⟨HA, y0, y1, y2, y3, y4, y5, y6, y7⟩
 go_wp2_with fail
 rotate_left
 go_wp2_with fail
 rotate_left
 all_goals (
  refine (CN.out _).mono ?_
  rintro e w2 ⟨rfl, hb2⟩
  obtain ⟨HA, y0, y1, y2, y3, y4, y5, y6, y7⟩ := rbox_next hb2 ⟨HA, y0, y1, y2, y3, y4, y5, y6, y7⟩
  go_wp2_with fail
  have hT := rbox_next (below_drew (Below.refl _ _)) ⟨HA, y0, y1, y2, y3, y4, y5, y6, y7⟩
  go_region_held3 (fun W => RB w W 19 d s t u a k q) (first | exact hT | exact rbox_next hb (by assumption))
   (first
    | (go_at_call 98; (with_reducible refine (Cd.out _).mono ?_); rintro e w' ⟨rfl, hb⟩)
    | (go_at_call 98; (with_reducible refine (Cs.out _).mono ?_); rintro e w' ⟨rfl, hb⟩)
    | (go_at_call 98; (with_reducible refine (Ct.out _).mono ?_); rintro e w' ⟨rfl, hb⟩)
    | (go_at_call 98; (with_reducible refine (Cu.out _).mono ?_); rintro e w' ⟨rfl, hb⟩))
  obtain ⟨HA, y0, y1, y2, y3, y4, y5, y6, y7⟩ := rbox_next (Below.refl _ _) (by assumption)
  go_wp2
  go_ret
  refine ⟨ret_str' ?_, HA.out.2⟩
  rw [te.out]
  simp [sp_mk, app_mk])
set_option maxHeartbeats 4000000 in
set_option maxRecDepth 100000 in
theorem rt_20 (d s t u a k q : Int) (hf : In.fits ⟨20, d, s, t, u, a, k, q⟩) (w : World) : Calls Tryz.prog 72 #[In.v ⟨20, d, s, t, u, a, k, q⟩] w fun e w' => e = .returned (.string ⟨(textF ⟨20, d, s, t, u, a, k, q⟩).toArray⟩) ∧ Below w.heap.size w w' := by
 have te : textF ⟨20, d, s, t, u, a, k, q⟩ = opName 20 ++ ((((32 :: 114 :: dec d) ++ (32 :: dec a)) ++ (32 :: 114 :: dec s)) ++ (32 :: dec k)) := by
  show Go.Lib.join (opName 20 :: List.flatten [[114 :: dec d], [dec a], [114 :: dec s], [dec k]]) [32] = _
  simp [join_two, Go.Lib.join_one]
 obtain ⟨CK, CA, wk, lk, la, CQ, ld0, ls0, lt0, lu0, lk0, la0, lq0⟩ := rt_facts hf
 have CN := Aside0.mk (fun W => name_calls 20 W)
 have Cd := Aside0.mk (fun W => r_calls hf.d.1 (Int.le_trans hf.d.2 (by decide)) W)
 have Cs := Aside0.mk (fun W => r_calls hf.s.1 (Int.le_trans hf.s.2 (by decide)) W)
 dsimp only at Cd Cs
 have ln0 : (opName 20).length = 4 := by decide
 have b2 : ¬ 9223372036854775807 < (((dec d).length + 1 + 1) + (1 + (dec a).length)) := by omega
 have b3 : ¬ 9223372036854775807 < ((((dec d).length + 1 + 1) + (1 + (dec a).length)) + ((dec s).length + 1 + 1)) := by omega
 have b4 : ¬ 9223372036854775807 < (((((dec d).length + 1 + 1) + (1 + (dec a).length)) + ((dec s).length + 1 + 1)) + (1 + (dec k).length)) := by omega
 have bn : ¬ 9223372036854775807 < (opName 20).length + (((((dec d).length + 1 + 1) + (1 + (dec a).length)) + ((dec s).length + 1 + 1)) + (1 + (dec k).length)) := by omega
 clear lk0 lq0 ld0 ls0 lt0 lu0 la0 ln0
 have hS := rbox_start w 20 d s t u a k q
 replace hf := Aside0.mk hf
 replace te := Aside0.mk te
 unfold In.v
 go_enter Tryz.func72, Tryz.ntmps72
 go_wp2_with fail
 go_region_held3 (fun W => RB w W 20 d s t u a k q) (first | exact hS | exact rbox_next hb (by assumption))
  (first
   | (go_at_call 62; (with_reducible refine (CK.out _).mono ?_); rintro e w' ⟨rfl, hb⟩)
   | (go_at_call 62; (with_reducible refine (CA.out _).mono ?_); rintro e w' ⟨rfl, hb⟩))
 obtain ⟨HA, y0, y1, y2, y3, y4, y5, y6, y7⟩ := rbox_next (Below.refl _ _) (by assumption)
 by_cases hq : 0 ≤ q
 obtain ⟨CQ, lq⟩ := CQ.out hq
 go_wp2_with fail
 refine (CQ.out _).mono ?_
 rintro e w2 ⟨rfl, hb2⟩
 obtain ⟨HA, y0, y1, y2, y3, y4, y5, y6, y7⟩ := rbox_next hb2 ⟨HA, y0, y1, y2, y3, y4, y5, y6, y7⟩
 go_wp2_with fail
 rotate_left
 go_wp2_with fail
 rotate_left
 all_goals (
  refine (CN.out _).mono ?_
  rintro e w2 ⟨rfl, hb2⟩
  obtain ⟨HA, y0, y1, y2, y3, y4, y5, y6, y7⟩ := rbox_next hb2 ⟨HA, y0, y1, y2, y3, y4, y5, y6, y7⟩
  go_wp2_with fail
  have hT := rbox_next (below_drew (Below.refl _ _)) ⟨HA, y0, y1, y2, y3, y4, y5, y6, y7⟩
  go_region_held3 (fun W => RB w W 20 d s t u a k q) (first | exact hT | exact rbox_next hb (by assumption))
   (first
    | (go_at_call 98; (with_reducible refine (Cd.out _).mono ?_); rintro e w' ⟨rfl, hb⟩)
    | (go_at_call 98; (with_reducible refine (Cs.out _).mono ?_); rintro e w' ⟨rfl, hb⟩))
  obtain ⟨HA, y0, y1, y2, y3, y4, y5, y6, y7⟩ := rbox_next (Below.refl _ _) (by assumption)
  go_wp2
  go_ret
  refine ⟨ret_str' ?_, HA.out.2⟩
  rw [te.out]
  simp [sp_mk, app_mk])
set_option maxHeartbeats 4000000 in
set_option maxRecDepth 100000 in
theorem rt_22 (d s t u a k q : Int) (hf : In.fits ⟨22, d, s, t, u, a, k, q⟩) (w : World) : Calls Tryz.prog 72 #[In.v ⟨22, d, s, t, u, a, k, q⟩] w fun e w' => e = .returned (.string ⟨(textF ⟨22, d, s, t, u, a, k, q⟩).toArray⟩) ∧ Below w.heap.size w w' := by
 have te : textF ⟨22, d, s, t, u, a, k, q⟩ = opName 22 ++ (32 :: 114 :: dec d) := by
  show Go.Lib.join (opName 22 :: List.flatten [[114 :: dec d]]) [32] = _
  simp [join_two, Go.Lib.join_one]
 obtain ⟨CK, CA, wk, lk, la, CQ, ld0, ls0, lt0, lu0, lk0, la0, lq0⟩ := rt_facts hf
 have CN := Aside0.mk (fun W => name_calls 22 W)
 have Cd := Aside0.mk (fun W => r_calls hf.d.1 (Int.le_trans hf.d.2 (by decide)) W)
 dsimp only at Cd
 have ln0 : (opName 22).length = 4 := by decide
 have bn : ¬ 9223372036854775807 < (opName 22).length + ((dec d).length + 1 + 1) := by omega
 clear lk0 lq0 ld0 ls0 lt0 lu0 la0 ln0
 have hS := rbox_start w 22 d s t u a k q
 replace hf := Aside0.mk hf
 replace te := Aside0.mk te
 unfold In.v
 go_enter Tryz.func72, Tryz.ntmps72
 go_wp2_with fail
 go_region_held3 (fun W => RB w W 22 d s t u a k q) (first | exact hS | exact rbox_next hb (by assumption))
  (first
   | (go_at_call 62; (with_reducible refine (CK.out _).mono ?_); rintro e w' ⟨rfl, hb⟩)
   | (go_at_call 62; (with_reducible refine (CA.out _).mono ?_); rintro e w' ⟨rfl, hb⟩))
 obtain ⟨HA, y0, y1, y2, y3, y4, y5, y6, y7⟩ := rbox_next (Below.refl _ _) (by assumption)
 by_cases hq : 0 ≤ q
 obtain ⟨CQ, lq⟩ := CQ.out hq
 go_wp2_with fail
 refine (CQ.out _).mono ?_
 rintro e w2 ⟨rfl, hb2⟩
 obtain ⟨HA, y0, y1, y2, y3, y4, y5, y6, y7⟩ := rbox_next hb2 ⟨HA, y0, y1, y2, y3, y4, y5, y6, y7⟩
 go_wp2_with fail
 rotate_left
 go_wp2_with fail
 rotate_left
 all_goals (
  refine (CN.out _).mono ?_
  rintro e w2 ⟨rfl, hb2⟩
  obtain ⟨HA, y0, y1, y2, y3, y4, y5, y6, y7⟩ := rbox_next hb2 ⟨HA, y0, y1, y2, y3, y4, y5, y6, y7⟩
  go_wp2_with fail
  refine (Cd.out _).mono ?_
  rintro e w2 ⟨rfl, hb2⟩
  obtain ⟨HA, y0, y1, y2, y3, y4, y5, y6, y7⟩ := rbox_next hb2 ⟨HA, y0, y1, y2, y3, y4, y5, y6, y7⟩
  go_wp2_with fail
  go_wp2
  go_ret
  refine ⟨ret_str' ?_, HA.out.2⟩
  rw [te.out]
  simp [sp_mk, app_mk])
set_option maxHeartbeats 4000000 in
set_option maxRecDepth 100000 in
theorem rt_23 (d s t u a k q : Int) (hf : In.fits ⟨23, d, s, t, u, a, k, q⟩) (w : World) : Calls Tryz.prog 72 #[In.v ⟨23, d, s, t, u, a, k, q⟩] w fun e w' => e = .returned (.string ⟨(textF ⟨23, d, s, t, u, a, k, q⟩).toArray⟩) ∧ Below w.heap.size w w' := by
 have te : textF ⟨23, d, s, t, u, a, k, q⟩ = opName 23 ++ (32 :: 114 :: dec s) := by
  show Go.Lib.join (opName 23 :: List.flatten [[114 :: dec s]]) [32] = _
  simp [join_two, Go.Lib.join_one]
 obtain ⟨CK, CA, wk, lk, la, CQ, ld0, ls0, lt0, lu0, lk0, la0, lq0⟩ := rt_facts hf
 have CN := Aside0.mk (fun W => name_calls 23 W)
 have Cs := Aside0.mk (fun W => r_calls hf.s.1 (Int.le_trans hf.s.2 (by decide)) W)
 dsimp only at Cs
 have ln0 : (opName 23).length = 4 := by decide
 have bn : ¬ 9223372036854775807 < (opName 23).length + ((dec s).length + 1 + 1) := by omega
 clear lk0 lq0 ld0 ls0 lt0 lu0 la0 ln0
 have hS := rbox_start w 23 d s t u a k q
 replace hf := Aside0.mk hf
 replace te := Aside0.mk te
 unfold In.v
 go_enter Tryz.func72, Tryz.ntmps72
 go_wp2_with fail
 go_region_held3 (fun W => RB w W 23 d s t u a k q) (first | exact hS | exact rbox_next hb (by assumption))
  (first
   | (go_at_call 62; (with_reducible refine (CK.out _).mono ?_); rintro e w' ⟨rfl, hb⟩)
   | (go_at_call 62; (with_reducible refine (CA.out _).mono ?_); rintro e w' ⟨rfl, hb⟩))
 obtain ⟨HA, y0, y1, y2, y3, y4, y5, y6, y7⟩ := rbox_next (Below.refl _ _) (by assumption)
 by_cases hq : 0 ≤ q
 obtain ⟨CQ, lq⟩ := CQ.out hq
 go_wp2_with fail
 refine (CQ.out _).mono ?_
 rintro e w2 ⟨rfl, hb2⟩
 obtain ⟨HA, y0, y1, y2, y3, y4, y5, y6, y7⟩ := rbox_next hb2 ⟨HA, y0, y1, y2, y3, y4, y5, y6, y7⟩
 go_wp2_with fail
 rotate_left
 go_wp2_with fail
 rotate_left
 all_goals (
  refine (CN.out _).mono ?_
  rintro e w2 ⟨rfl, hb2⟩
  obtain ⟨HA, y0, y1, y2, y3, y4, y5, y6, y7⟩ := rbox_next hb2 ⟨HA, y0, y1, y2, y3, y4, y5, y6, y7⟩
  go_wp2_with fail
  refine (Cs.out _).mono ?_
  rintro e w2 ⟨rfl, hb2⟩
  obtain ⟨HA, y0, y1, y2, y3, y4, y5, y6, y7⟩ := rbox_next hb2 ⟨HA, y0, y1, y2, y3, y4, y5, y6, y7⟩
  go_wp2_with fail
  go_wp2
  go_ret
  refine ⟨ret_str' ?_, HA.out.2⟩
  rw [te.out]
  simp [sp_mk, app_mk])
end Go.Proofs.YtbhpkeiofajbpaaGreatDoor
end

/- Parts: RefTextA, RefTextB. -/
import Derived.Test.YtbhpkeiofajbpaaGreatDoorB35
/- ropelineref06.Text of what fits, op by op: 1, 2, 3, 4, 5. -/
section
namespace Go.Proofs.YtbhpkeiofajbpaaGreatDoor
open Go.RowKit Go.Proofs.YtbhpkeiofajbpaaGreatDoorW.PrintWords
set_option linter.unusedVariables false
set_option linter.unusedSimpArgs false

set_option maxHeartbeats 4000000 in
set_option maxRecDepth 100000 in
theorem rt_1 (d s t u a k q : Int) (hf : In.fits ⟨1, d, s, t, u, a, k, q⟩) (w : World) : Calls Tryz.prog 72 #[In.v ⟨1, d, s, t, u, a, k, q⟩] w fun e w' => e = .returned (.string ⟨(textF ⟨1, d, s, t, u, a, k, q⟩).toArray⟩) ∧ Below w.heap.size w w' := by
 have te : textF ⟨1, d, s, t, u, a, k, q⟩ = opName 1 ++ ((32 :: 114 :: dec d) ++ (32 :: dec k)) := by
  show Go.Lib.join (opName 1 :: List.flatten [[114 :: dec d], [dec k]]) [32] = _
  simp [join_two, Go.Lib.join_one]
 obtain ⟨CK, CA, wk, lk, la, CQ, ld0, ls0, lt0, lu0, lk0, la0, lq0⟩ := rt_facts hf
 have CN := Aside0.mk (fun W => name_calls 1 W)
 have Cd := Aside0.mk (fun W => r_calls hf.d.1 (Int.le_trans hf.d.2 (by decide)) W)
 dsimp only at Cd
 have ln0 : (opName 1).length = 5 := by decide
 have b2 : ¬ 9223372036854775807 < (((dec d).length + 1 + 1) + (1 + (dec k).length)) := by omega
 have bn : ¬ 9223372036854775807 < (opName 1).length + (((dec d).length + 1 + 1) + (1 + (dec k).length)) := by omega
 clear lk0 lq0 ld0 ls0 lt0 lu0 la0 ln0
 have hS := rbox_start w 1 d s t u a k q
 replace hf := Aside0.mk hf
 replace te := Aside0.mk te
 unfold In.v
 go_enter Tryz.func72, Tryz.ntmps72
 go_wp2_with fail
 go_region_held3 (fun W => RB w W 1 d s t u a k q) (first | exact hS | exact rbox_next hb (by assumption))
  (first
   | (go_at_call 62; (with_reducible refine (CK.out _).mono ?_); rintro e w' ⟨rfl, hb⟩)
   | (go_at_call 62; (with_reducible refine (CA.out _).mono ?_); rintro e w' ⟨rfl, hb⟩))
 obtain ⟨HA, y0, y1, y2, y3, y4, y5, y6, y7⟩ := rbox_next (Below.refl _ _) (by assumption)
 by_cases hq : 0 ≤ q
 obtain ⟨CQ, lq⟩ := CQ.out hq
 go_wp2_with fail
 refine (CQ.out _).mono ?_
 rintro e w2 ⟨rfl, hb2⟩
 obtain ⟨HA, y0, y1, y2, y3, y4, y5, y6, y7⟩ := rbox_next hb2 ⟨HA, y0, y1, y2, y3, y4, y5, y6, y7⟩
 go_wp2_with fail
 rotate_left
 go_wp2_with fail
 rotate_left
 all_goals (
  refine (CN.out _).mono ?_
  rintro e w2 ⟨rfl, hb2⟩
  obtain ⟨HA, y0, y1, y2, y3, y4, y5, y6, y7⟩ := rbox_next hb2 ⟨HA, y0, y1, y2, y3, y4, y5, y6, y7⟩
  go_wp2_with fail
  refine (Cd.out _).mono ?_
  rintro e w2 ⟨rfl, hb2⟩
  obtain ⟨HA, y0, y1, y2, y3, y4, y5, y6, y7⟩ := rbox_next hb2 ⟨HA, y0, y1, y2, y3, y4, y5, y6, y7⟩
  go_wp2_with fail
  go_wp2
  go_ret
  refine ⟨ret_str' ?_, HA.out.2⟩
  rw [te.out]
  simp [sp_mk, app_mk])
set_option maxHeartbeats 4000000 in
set_option maxRecDepth 100000 in
theorem rt_2 (d s t u a k q : Int) (hf : In.fits ⟨2, d, s, t, u, a, k, q⟩) (w : World) : Calls Tryz.prog 72 #[In.v ⟨2, d, s, t, u, a, k, q⟩] w fun e w' => e = .returned (.string ⟨(textF ⟨2, d, s, t, u, a, k, q⟩).toArray⟩) ∧ Below w.heap.size w w' := by
 have te : textF ⟨2, d, s, t, u, a, k, q⟩ = opName 2 ++ ((32 :: 114 :: dec d) ++ (32 :: 114 :: dec s)) := by
  show Go.Lib.join (opName 2 :: List.flatten [[114 :: dec d], [114 :: dec s]]) [32] = _
  simp [join_two, Go.Lib.join_one]
 obtain ⟨CK, CA, wk, lk, la, CQ, ld0, ls0, lt0, lu0, lk0, la0, lq0⟩ := rt_facts hf
 have CN := Aside0.mk (fun W => name_calls 2 W)
 have Cd := Aside0.mk (fun W => r_calls hf.d.1 (Int.le_trans hf.d.2 (by decide)) W)
 have Cs := Aside0.mk (fun W => r_calls hf.s.1 (Int.le_trans hf.s.2 (by decide)) W)
 dsimp only at Cd Cs
 have ln0 : (opName 2).length = 4 := by decide
 have b2 : ¬ 9223372036854775807 < (((dec d).length + 1 + 1) + ((dec s).length + 1 + 1)) := by omega
 have bn : ¬ 9223372036854775807 < (opName 2).length + (((dec d).length + 1 + 1) + ((dec s).length + 1 + 1)) := by omega
 clear lk0 lq0 ld0 ls0 lt0 lu0 la0 ln0
 have hS := rbox_start w 2 d s t u a k q
 replace hf := Aside0.mk hf
 replace te := Aside0.mk te
 unfold In.v
 go_enter Tryz.func72, Tryz.ntmps72
 go_wp2_with fail
 go_region_held3 (fun W => RB w W 2 d s t u a k q) (first | exact hS | exact rbox_next hb (by assumption))
  (first
   | (go_at_call 62; (with_reducible refine (CK.out _).mono ?_); rintro e w' ⟨rfl, hb⟩)
   | (go_at_call 62; (with_reducible refine (CA.out _).mono ?_); rintro e w' ⟨rfl, hb⟩))
 obtain ⟨HA, y0, y1, y2, y3, y4, y5, y6, y7⟩ := rbox_next (Below.refl _ _) (by assumption)
 by_cases hq : 0 ≤ q
 obtain ⟨CQ, lq⟩ := CQ.out hq
 go_wp2_with fail
 refine (CQ.out _).mono ?_
 rintro e w2 ⟨rfl, hb2⟩
 obtain ⟨HA, y0, y1, y2, y3, y4, y5, y6, y7⟩ := rbox_next hb2 ⟨HA, y0, y1, y2, y3, y4, y5, y6, y7⟩
 go_wp2_with fail
 rotate_left
 go_wp2_with fail
 rotate_left
 all_goals (
  refine (CN.out _).mono ?_
  rintro e w2 ⟨rfl, hb2⟩
  obtain ⟨HA, y0, y1, y2, y3, y4, y5, y6, y7⟩ := rbox_next hb2 ⟨HA, y0, y1, y2, y3, y4, y5, y6, y7⟩
  go_wp2_with fail
  have hT := rbox_next (below_drew (Below.refl _ _)) ⟨HA, y0, y1, y2, y3, y4, y5, y6, y7⟩
  go_region_held3 (fun W => RB w W 2 d s t u a k q) (first | exact hT | exact rbox_next hb (by assumption))
   (first
    | (go_at_call 98; (with_reducible refine (Cd.out _).mono ?_); rintro e w' ⟨rfl, hb⟩)
    | (go_at_call 98; (with_reducible refine (Cs.out _).mono ?_); rintro e w' ⟨rfl, hb⟩))
  obtain ⟨HA, y0, y1, y2, y3, y4, y5, y6, y7⟩ := rbox_next (Below.refl _ _) (by assumption)
  go_wp2
  go_ret
  refine ⟨ret_str' ?_, HA.out.2⟩
  rw [te.out]
  simp [sp_mk, app_mk])
set_option maxHeartbeats 4000000 in
set_option maxRecDepth 100000 in
theorem rt_3 (d s t u a k q : Int) (hf : In.fits ⟨3, d, s, t, u, a, k, q⟩) (w : World) : Calls Tryz.prog 72 #[In.v ⟨3, d, s, t, u, a, k, q⟩] w fun e w' => e = .returned (.string ⟨(textF ⟨3, d, s, t, u, a, k, q⟩).toArray⟩) ∧ Below w.heap.size w w' := by
 have te : textF ⟨3, d, s, t, u, a, k, q⟩ = opName 3 ++ (((32 :: 114 :: dec d) ++ (32 :: 114 :: dec s)) ++ (32 :: dec k)) := by
  show Go.Lib.join (opName 3 :: List.flatten [[114 :: dec d], [114 :: dec s], [dec k]]) [32] = _
  simp [join_two, Go.Lib.join_one]
 obtain ⟨CK, CA, wk, lk, la, CQ, ld0, ls0, lt0, lu0, lk0, la0, lq0⟩ := rt_facts hf
 have CN := Aside0.mk (fun W => name_calls 3 W)
 have Cd := Aside0.mk (fun W => r_calls hf.d.1 (Int.le_trans hf.d.2 (by decide)) W)
 have Cs := Aside0.mk (fun W => r_calls hf.s.1 (Int.le_trans hf.s.2 (by decide)) W)
 dsimp only at Cd Cs
 have ln0 : (opName 3).length = 4 := by decide
 have b2 : ¬ 9223372036854775807 < (((dec d).length + 1 + 1) + ((dec s).length + 1 + 1)) := by omega
 have b3 : ¬ 9223372036854775807 < ((((dec d).length + 1 + 1) + ((dec s).length + 1 + 1)) + (1 + (dec k).length)) := by omega
 have bn : ¬ 9223372036854775807 < (opName 3).length + ((((dec d).length + 1 + 1) + ((dec s).length + 1 + 1)) + (1 + (dec k).length)) := by omega
 clear lk0 lq0 ld0 ls0 lt0 lu0 la0 ln0
 have hS := rbox_start w 3 d s t u a k q
 replace hf := Aside0.mk hf
 replace te := Aside0.mk te
 unfold In.v
 go_enter Tryz.func72, Tryz.ntmps72
 go_wp2_with fail
 go_region_held3 (fun W => RB w W 3 d s t u a k q) (first | exact hS | exact rbox_next hb (by assumption))
  (first
   | (go_at_call 62; (with_reducible refine (CK.out _).mono ?_); rintro e w' ⟨rfl, hb⟩)
   | (go_at_call 62; (with_reducible refine (CA.out _).mono ?_); rintro e w' ⟨rfl, hb⟩))
 obtain ⟨HA, y0, y1, y2, y3, y4, y5, y6, y7⟩ := rbox_next (Below.refl _ _) (by assumption)
 by_cases hq : 0 ≤ q
 obtain ⟨CQ, lq⟩ := CQ.out hq
 go_wp2_with fail
 refine (CQ.out _).mono ?_
 rintro e w2 ⟨rfl, hb2⟩
 obtain ⟨HA, y0, y1, y2, y3, y4, y5, y6, y7⟩ := rbox_next hb2 ⟨HA, y0, y1, y2, y3, y4, y5, y6, y7⟩
 go_wp2_with fail
 rotate_left
 go_wp2_with fail
 rotate_left
 all_goals (
  refine (CN.out _).mono ?_
  rintro e w2 ⟨rfl, hb2⟩
  obtain ⟨HA, y0, y1, y2, y3, y4, y5, y6, y7⟩ := rbox_next hb2 ⟨HA, y0, y1, y2, y3, y4, y5, y6, y7⟩
  go_wp2_with fail
  have hT := rbox_next (below_drew (Below.refl _ _)) ⟨HA, y0, y1, y2, y3, y4, y5, y6, y7⟩
  go_region_held3 (fun W => RB w W 3 d s t u a k q) (first | exact hT | exact rbox_next hb (by assumption))
   (first
    | (go_at_call 98; (with_reducible refine (Cd.out _).mono ?_); rintro e w' ⟨rfl, hb⟩)
    | (go_at_call 98; (with_reducible refine (Cs.out _).mono ?_); rintro e w' ⟨rfl, hb⟩))
  obtain ⟨HA, y0, y1, y2, y3, y4, y5, y6, y7⟩ := rbox_next (Below.refl _ _) (by assumption)
  go_wp2
  go_ret
  refine ⟨ret_str' ?_, HA.out.2⟩
  rw [te.out]
  simp [sp_mk, app_mk])
set_option maxHeartbeats 4000000 in
set_option maxRecDepth 100000 in
theorem rt_4 (d s t u a k q : Int) (hf : In.fits ⟨4, d, s, t, u, a, k, q⟩) (w : World) : Calls Tryz.prog 72 #[In.v ⟨4, d, s, t, u, a, k, q⟩] w fun e w' => e = .returned (.string ⟨(textF ⟨4, d, s, t, u, a, k, q⟩).toArray⟩) ∧ Below w.heap.size w w' := by
 have te : textF ⟨4, d, s, t, u, a, k, q⟩ = opName 4 ++ (((32 :: 114 :: dec d) ++ (32 :: 114 :: dec s)) ++ (32 :: dec k)) := by
  show Go.Lib.join (opName 4 :: List.flatten [[114 :: dec d], [114 :: dec s], [dec k]]) [32] = _
  simp [join_two, Go.Lib.join_one]
 obtain ⟨CK, CA, wk, lk, la, CQ, ld0, ls0, lt0, lu0, lk0, la0, lq0⟩ := rt_facts hf
 have CN := Aside0.mk (fun W => name_calls 4 W)
 have Cd := Aside0.mk (fun W => r_calls hf.d.1 (Int.le_trans hf.d.2 (by decide)) W)
 have Cs := Aside0.mk (fun W => r_calls hf.s.1 (Int.le_trans hf.s.2 (by decide)) W)
 dsimp only at Cd Cs
 have ln0 : (opName 4).length = 4 := by decide
 have b2 : ¬ 9223372036854775807 < (((dec d).length + 1 + 1) + ((dec s).length + 1 + 1)) := by omega
 have b3 : ¬ 9223372036854775807 < ((((dec d).length + 1 + 1) + ((dec s).length + 1 + 1)) + (1 + (dec k).length)) := by omega
 have bn : ¬ 9223372036854775807 < (opName 4).length + ((((dec d).length + 1 + 1) + ((dec s).length + 1 + 1)) + (1 + (dec k).length)) := by omega
 clear lk0 lq0 ld0 ls0 lt0 lu0 la0 ln0
 have hS := rbox_start w 4 d s t u a k q
 replace hf := Aside0.mk hf
 replace te := Aside0.mk te
 unfold In.v
 go_enter Tryz.func72, Tryz.ntmps72
 go_wp2_with fail
 go_region_held3 (fun W => RB w W 4 d s t u a k q) (first | exact hS | exact rbox_next hb (by assumption))
  (first
   | (go_at_call 62; (with_reducible refine (CK.out _).mono ?_); rintro e w' ⟨rfl, hb⟩)
   | (go_at_call 62; (with_reducible refine (CA.out _).mono ?_); rintro e w' ⟨rfl, hb⟩))
 obtain ⟨HA, y0, y1, y2, y3, y4, y5, y6, y7⟩ := rbox_next (Below.refl _ _) (by assumption)
 by_cases hq : 0 ≤ q
 obtain ⟨CQ, lq⟩ := CQ.out hq
 go_wp2_with fail
 refine (CQ.out _).mono ?_
 rintro e w2 ⟨rfl, hb2⟩
 obtain ⟨HA, y0, y1, y2, y3, y4, y5, y6, y7⟩ := rbox_next hb2 ⟨HA, y0, y1, y2, y3, y4, y5, y6, y7⟩
 go_wp2_with fail
 rotate_left
 go_wp2_with fail
 rotate_left
 all_goals (
  refine (CN.out _).mono ?_
  rintro e w2 ⟨rfl, hb2⟩
  obtain ⟨HA, y0, y1, y2, y3, y4, y5, y6, y7⟩ := rbox_next hb2 ⟨HA, y0, y1, y2, y3, y4, y5, y6, y7⟩
  go_wp2_with fail
  have hT := rbox_next (below_drew (Below.refl _ _)) ⟨HA, y0, y1, y2, y3, y4, y5, y6, y7⟩
  go_region_held3 (fun W => RB w W 4 d s t u a k q) (first | exact hT | exact rbox_next hb (by assumption))
   (first
    | (go_at_call 98; (with_reducible refine (Cd.out _).mono ?_); rintro e w' ⟨rfl, hb⟩)
    | (go_at_call 98; (with_reducible refine (Cs.out _).mono ?_); rintro e w' ⟨rfl, hb⟩))
  obtain ⟨HA, y0, y1, y2, y3, y4, y5, y6, y7⟩ := rbox_next (Below.refl _ _) (by assumption)
  go_wp2
  go_ret
  refine ⟨ret_str' ?_, HA.out.2⟩
  rw [te.out]
  simp [sp_mk, app_mk])
set_option maxHeartbeats 4000000 in
set_option maxRecDepth 100000 in
theorem rt_5 (d s t u a k q : Int) (hf : In.fits ⟨5, d, s, t, u, a, k, q⟩) (w : World) : Calls Tryz.prog 72 #[In.v ⟨5, d, s, t, u, a, k, q⟩] w fun e w' => e = .returned (.string ⟨(textF ⟨5, d, s, t, u, a, k, q⟩).toArray⟩) ∧ Below w.heap.size w w' := by
 have te : textF ⟨5, d, s, t, u, a, k, q⟩ = opName 5 ++ (((32 :: 114 :: dec d) ++ (32 :: 114 :: dec s)) ++ (32 :: dec k)) := by
  show Go.Lib.join (opName 5 :: List.flatten [[114 :: dec d], [114 :: dec s], [dec k]]) [32] = _
  simp [join_two, Go.Lib.join_one]
 obtain ⟨CK, CA, wk, lk, la, CQ, ld0, ls0, lt0, lu0, lk0, la0, lq0⟩ := rt_facts hf
 have CN := Aside0.mk (fun W => name_calls 5 W)
 have Cd := Aside0.mk (fun W => r_calls hf.d.1 (Int.le_trans hf.d.2 (by decide)) W)
 have Cs := Aside0.mk (fun W => r_calls hf.s.1 (Int.le_trans hf.s.2 (by decide)) W)
 dsimp only at Cd Cs
 have ln0 : (opName 5).length = 3 := by decide
 have b2 : ¬ 9223372036854775807 < (((dec d).length + 1 + 1) + ((dec s).length + 1 + 1)) := by omega
 have b3 : ¬ 9223372036854775807 < ((((dec d).length + 1 + 1) + ((dec s).length + 1 + 1)) + (1 + (dec k).length)) := by omega
 have bn : ¬ 9223372036854775807 < (opName 5).length + ((((dec d).length + 1 + 1) + ((dec s).length + 1 + 1)) + (1 + (dec k).length)) := by omega
 clear lk0 lq0 ld0 ls0 lt0 lu0 la0 ln0
 have hS := rbox_start w 5 d s t u a k q
 replace hf := Aside0.mk hf
 replace te := Aside0.mk te
 unfold In.v
 go_enter Tryz.func72, Tryz.ntmps72
 go_wp2_with fail
 go_region_held3 (fun W => RB w W 5 d s t u a k q) (first | exact hS | exact rbox_next hb (by assumption))
  (first
   | (go_at_call 62; (with_reducible refine (CK.out _).mono ?_); rintro e w' ⟨rfl, hb⟩)
   | (go_at_call 62; (with_reducible refine (CA.out _).mono ?_); rintro e w' ⟨rfl, hb⟩))
 obtain ⟨HA, y0, y1, y2, y3, y4, y5, y6, y7⟩ := rbox_next (Below.refl _ _) (by assumption)
 by_cases hq : 0 ≤ q
 obtain ⟨CQ, lq⟩ := CQ.out hq
 go_wp2_with fail
 refine (CQ.out _).mono ?_
 rintro e w2 ⟨rfl, hb2⟩
 obtain ⟨HA, y0, y1, y2, y3, y4, y5, y6, y7⟩ := rbox_next hb2 ⟨HA, y0, y1, y2, y3, y4, y5, y6, y7⟩
 go_wp2_with fail
 rotate_left
 go_wp2_with fail
 rotate_left
 all_goals (
  refine (CN.out _).mono ?_
  rintro e w2 ⟨rfl, hb2⟩
  obtain ⟨HA, y0, y1, y2, y3, y4, y5, y6, y7⟩ := rbox_next hb2 ⟨HA, y0, y1, y2, y3, y4, y5, y6, y7⟩
  go_wp2_with fail
  have hT := rbox_next (below_drew (Below.refl _ _)) ⟨HA, y0, y1, y2, y3, y4, y5, y6, y7⟩
  go_region_held3 (fun W => RB w W 5 d s t u a k q) (first | exact hT | exact rbox_next hb (by assumption))
   (first
    | (go_at_call 98; (with_reducible refine (Cd.out _).mono ?_); rintro e w' ⟨rfl, hb⟩)
    | (go_at_call 98; (with_reducible refine (Cs.out _).mono ?_); rintro e w' ⟨rfl, hb⟩))
  obtain ⟨HA, y0, y1, y2, y3, y4, y5, y6, y7⟩ := rbox_next (Below.refl _ _) (by assumption)
  go_wp2
  go_ret
  refine ⟨ret_str' ?_, HA.out.2⟩
  rw [te.out]
  simp [sp_mk, app_mk])
end Go.Proofs.YtbhpkeiofajbpaaGreatDoor
end
/- ropelineref06.Text of what fits, op by op: 6, 7, 8, 9, 10. -/
section
namespace Go.Proofs.YtbhpkeiofajbpaaGreatDoor
open Go.RowKit Go.Proofs.YtbhpkeiofajbpaaGreatDoorW.PrintWords
set_option linter.unusedVariables false
set_option linter.unusedSimpArgs false

set_option maxHeartbeats 4000000 in
set_option maxRecDepth 100000 in
theorem rt_6 (d s t u a k q : Int) (hf : In.fits ⟨6, d, s, t, u, a, k, q⟩) (w : World) : Calls Tryz.prog 72 #[In.v ⟨6, d, s, t, u, a, k, q⟩] w fun e w' => e = .returned (.string ⟨(textF ⟨6, d, s, t, u, a, k, q⟩).toArray⟩) ∧ Below w.heap.size w w' := by
 have te : textF ⟨6, d, s, t, u, a, k, q⟩ = opName 6 ++ (((32 :: 114 :: dec d) ++ (32 :: 114 :: dec s)) ++ (32 :: dec k)) := by
  show Go.Lib.join (opName 6 :: List.flatten [[114 :: dec d], [114 :: dec s], [dec k]]) [32] = _
  simp [join_two, Go.Lib.join_one]
 obtain ⟨CK, CA, wk, lk, la, CQ, ld0, ls0, lt0, lu0, lk0, la0, lq0⟩ := rt_facts hf
 have CN := Aside0.mk (fun W => name_calls 6 W)
 have Cd := Aside0.mk (fun W => r_calls hf.d.1 (Int.le_trans hf.d.2 (by decide)) W)
 have Cs := Aside0.mk (fun W => r_calls hf.s.1 (Int.le_trans hf.s.2 (by decide)) W)
 dsimp only at Cd Cs
 have ln0 : (opName 6).length = 3 := by decide
 have b2 : ¬ 9223372036854775807 < (((dec d).length + 1 + 1) + ((dec s).length + 1 + 1)) := by omega
 have b3 : ¬ 9223372036854775807 < ((((dec d).length + 1 + 1) + ((dec s).length + 1 + 1)) + (1 + (dec k).length)) := by omega
 have bn : ¬ 9223372036854775807 < (opName 6).length + ((((dec d).length + 1 + 1) + ((dec s).length + 1 + 1)) + (1 + (dec k).length)) := by omega
 clear lk0 lq0 ld0 ls0 lt0 lu0 la0 ln0
 have hS := rbox_start w 6 d s t u a k q
 replace hf := Aside0.mk hf
 replace te := Aside0.mk te
 unfold In.v
 go_enter Tryz.func72, Tryz.ntmps72
 go_wp2_with fail
 go_region_held3 (fun W => RB w W 6 d s t u a k q) (first | exact hS | exact rbox_next hb (by assumption))
  (first
   | (go_at_call 62; (with_reducible refine (CK.out _).mono ?_); rintro e w' ⟨rfl, hb⟩)
   | (go_at_call 62; (with_reducible refine (CA.out _).mono ?_); rintro e w' ⟨rfl, hb⟩))
 obtain ⟨HA, y0, y1, y2, y3, y4, y5, y6, y7⟩ := rbox_next (Below.refl _ _) (by assumption)
 by_cases hq : 0 ≤ q
 obtain ⟨CQ, lq⟩ := CQ.out hq
 go_wp2_with fail
 refine (CQ.out _).mono ?_
 rintro e w2 ⟨rfl, hb2⟩
 obtain ⟨HA, y0, y1, y2, y3, y4, y5, y6, y7⟩ := rbox_next hb2 ⟨HA, y0, y1, y2, y3, y4, y5, y6, y7⟩
 go_wp2_with fail
 rotate_left
 go_wp2_with fail
 rotate_left
 all_goals (
  refine (CN.out _).mono ?_
  rintro e w2 ⟨rfl, hb2⟩
  obtain ⟨HA, y0, y1, y2, y3, y4, y5, y6, y7⟩ := rbox_next hb2 ⟨HA, y0, y1, y2, y3, y4, y5, y6, y7⟩
  go_wp2_with fail
  have hT := rbox_next (below_drew (Below.refl _ _)) ⟨HA, y0, y1, y2, y3, y4, y5, y6, y7⟩
  go_region_held3 (fun W => RB w W 6 d s t u a k q) (first | exact hT | exact rbox_next hb (by assumption))
   (first
    | (go_at_call 98; (with_reducible refine (Cd.out _).mono ?_); rintro e w' ⟨rfl, hb⟩)
    | (go_at_call 98; (with_reducible refine (Cs.out _).mono ?_); rintro e w' ⟨rfl, hb⟩))
  obtain ⟨HA, y0, y1, y2, y3, y4, y5, y6, y7⟩ := rbox_next (Below.refl _ _) (by assumption)
  go_wp2
  go_ret
  refine ⟨ret_str' ?_, HA.out.2⟩
  rw [te.out]
  simp [sp_mk, app_mk])
set_option maxHeartbeats 4000000 in
set_option maxRecDepth 100000 in
theorem rt_7 (d s t u a k q : Int) (hf : In.fits ⟨7, d, s, t, u, a, k, q⟩) (w : World) : Calls Tryz.prog 72 #[In.v ⟨7, d, s, t, u, a, k, q⟩] w fun e w' => e = .returned (.string ⟨(textF ⟨7, d, s, t, u, a, k, q⟩).toArray⟩) ∧ Below w.heap.size w w' := by
 have te : textF ⟨7, d, s, t, u, a, k, q⟩ = opName 7 ++ (((32 :: 114 :: dec d) ++ (32 :: 114 :: dec s)) ++ (32 :: 114 :: dec t)) := by
  show Go.Lib.join (opName 7 :: List.flatten [[114 :: dec d], [114 :: dec s], [114 :: dec t]]) [32] = _
  simp [join_two, Go.Lib.join_one]
 obtain ⟨CK, CA, wk, lk, la, CQ, ld0, ls0, lt0, lu0, lk0, la0, lq0⟩ := rt_facts hf
 have CN := Aside0.mk (fun W => name_calls 7 W)
 have Cd := Aside0.mk (fun W => r_calls hf.d.1 (Int.le_trans hf.d.2 (by decide)) W)
 have Cs := Aside0.mk (fun W => r_calls hf.s.1 (Int.le_trans hf.s.2 (by decide)) W)
 have Ct := Aside0.mk (fun W => r_calls hf.t.1 (Int.le_trans hf.t.2 (by decide)) W)
 dsimp only at Cd Cs Ct
 have ln0 : (opName 7).length = 2 := by decide
 have b2 : ¬ 9223372036854775807 < (((dec d).length + 1 + 1) + ((dec s).length + 1 + 1)) := by omega
 have b3 : ¬ 9223372036854775807 < ((((dec d).length + 1 + 1) + ((dec s).length + 1 + 1)) + ((dec t).length + 1 + 1)) := by omega
 have bn : ¬ 9223372036854775807 < (opName 7).length + ((((dec d).length + 1 + 1) + ((dec s).length + 1 + 1)) + ((dec t).length + 1 + 1)) := by omega
 clear lk0 lq0 ld0 ls0 lt0 lu0 la0 ln0
 have hS := rbox_start w 7 d s t u a k q
 replace hf := Aside0.mk hf
 replace te := Aside0.mk te
 unfold In.v
 go_enter Tryz.func72, Tryz.ntmps72
 go_wp2_with fail
 go_region_held3 (fun W => RB w W 7 d s t u a k q) (first | exact hS | exact rbox_next hb (by assumption))
  (first
   | (go_at_call 62; (with_reducible refine (CK.out _).mono ?_); rintro e w' ⟨rfl, hb⟩)
   | (go_at_call 62; (with_reducible refine (CA.out _).mono ?_); rintro e w' ⟨rfl, hb⟩))
 obtain ⟨HA, y0, y1, y2, y3, y4, y5, y6, y7⟩ := rbox_next (Below.refl _ _) (by assumption)
 by_cases hq : 0 ≤ q
 obtain ⟨CQ, lq⟩ := CQ.out hq
 go_wp2_with fail
 refine (CQ.out _).mono ?_
 rintro e w2 ⟨rfl, hb2⟩
 obtain ⟨HA, y0, y1, y2, y3, y4, y5, y6, y7⟩ := rbox_next hb2 ⟨HA, y0, y1, y2, y3, y4, y5, y6, y7⟩
 go_wp2_with fail
 rotate_left
 go_wp2_with fail
 rotate_left
 all_goals (
  refine (CN.out _).mono ?_
  rintro e w2 ⟨rfl, hb2⟩
  obtain ⟨HA, y0, y1, y2, y3, y4, y5, y6, y7⟩ := rbox_next hb2 ⟨HA, y0, y1, y2, y3, y4, y5, y6, y7⟩
  go_wp2_with fail
  have hT := rbox_next (below_drew (Below.refl _ _)) ⟨HA, y0, y1, y2, y3, y4, y5, y6, y7⟩
  go_region_held3 (fun W => RB w W 7 d s t u a k q) (first | exact hT | exact rbox_next hb (by assumption))
   (first
    | (go_at_call 98; (with_reducible refine (Cd.out _).mono ?_); rintro e w' ⟨rfl, hb⟩)
    | (go_at_call 98; (with_reducible refine (Cs.out _).mono ?_); rintro e w' ⟨rfl, hb⟩)
    | (go_at_call 98; (with_reducible refine (Ct.out _).mono ?_); rintro e w' ⟨rfl, hb⟩))
  obtain ⟨HA, y0, y1, y2, y3, y4, y5, y6, y7⟩ := rbox_next (Below.refl _ _) (by assumption)
  go_wp2
  go_ret
  refine ⟨ret_str' ?_, HA.out.2⟩
  rw [te.out]
  simp [sp_mk, app_mk])
set_option maxHeartbeats 4000000 in
set_option maxRecDepth 100000 in
theorem rt_8 (d s t u a k q : Int) (hf : In.fits ⟨8, d, s, t, u, a, k, q⟩) (hq : 0 ≤ q) (w : World) : Calls Tryz.prog 72 #[In.v ⟨8, d, s, t, u, a, k, q⟩] w fun e w' => e = .returned (.string ⟨(textF ⟨8, d, s, t, u, a, k, q⟩).toArray⟩) ∧ Below w.heap.size w w' := by
 have te : textF ⟨8, d, s, t, u, a, k, q⟩ = opName 8 ++ (((32 :: 114 :: dec s) ++ (32 :: 114 :: dec t)) ++ (32 :: dec q)) := by
  show Go.Lib.join (opName 8 :: List.flatten [[114 :: dec s], [114 :: dec t], [dec q]]) [32] = _
  simp [join_two, Go.Lib.join_one]
 obtain ⟨CK, CA, wk, lk, la, CQ, ld0, ls0, lt0, lu0, lk0, la0, lq0⟩ := rt_facts hf
 have CN := Aside0.mk (fun W => name_calls 8 W)
 have Cs := Aside0.mk (fun W => r_calls hf.s.1 (Int.le_trans hf.s.2 (by decide)) W)
 have Ct := Aside0.mk (fun W => r_calls hf.t.1 (Int.le_trans hf.t.2 (by decide)) W)
 dsimp only at Cs Ct
 have ln0 : (opName 8).length = 3 := by decide
 have b2 : ¬ 9223372036854775807 < (((dec s).length + 1 + 1) + ((dec t).length + 1 + 1)) := by omega
 have b3 : ¬ 9223372036854775807 < ((((dec s).length + 1 + 1) + ((dec t).length + 1 + 1)) + (1 + (dec q).length)) := by omega
 have bn : ¬ 9223372036854775807 < (opName 8).length + ((((dec s).length + 1 + 1) + ((dec t).length + 1 + 1)) + (1 + (dec q).length)) := by omega
 clear lk0 lq0 ld0 ls0 lt0 lu0 la0 ln0
 have hS := rbox_start w 8 d s t u a k q
 replace hf := Aside0.mk hf
 replace te := Aside0.mk te
 unfold In.v
 go_enter Tryz.func72, Tryz.ntmps72
 go_wp2_with fail
 go_region_held3 (fun W => RB w W 8 d s t u a k q) (first | exact hS | exact rbox_next hb (by assumption))
  (first
   | (go_at_call 62; (with_reducible refine (CK.out _).mono ?_); rintro e w' ⟨rfl, hb⟩)
   | (go_at_call 62; (with_reducible refine (CA.out _).mono ?_); rintro e w' ⟨rfl, hb⟩))
 obtain ⟨HA, y0, y1, y2, y3, y4, y5, y6, y7⟩ := rbox_next (Below.refl _ _) (by assumption)
 obtain ⟨CQ, lq⟩ := CQ.out hq
 go_wp2_with fail
 refine (CQ.out _).mono ?_
 rintro e w2 ⟨rfl, hb2⟩
 obtain ⟨HA, y0, y1, y2, y3, y4, y5, y6, y7⟩ := rbox_next hb2 ⟨HA, y0, y1, y2, y3, y4, y5, y6, y7⟩
 go_wp2_with fail
 refine (CN.out _).mono ?_
 rintro e w2 ⟨rfl, hb2⟩
 obtain ⟨HA, y0, y1, y2, y3, y4, y5, y6, y7⟩ := rbox_next hb2 ⟨HA, y0, y1, y2, y3, y4, y5, y6, y7⟩
 go_wp2_with fail
 have hT := rbox_next (below_drew (Below.refl _ _)) ⟨HA, y0, y1, y2, y3, y4, y5, y6, y7⟩
 go_region_held3 (fun W => RB w W 8 d s t u a k q) (first | exact hT | exact rbox_next hb (by assumption))
  (first
   | (go_at_call 98; (with_reducible refine (Cs.out _).mono ?_); rintro e w' ⟨rfl, hb⟩)
   | (go_at_call 98; (with_reducible refine (Ct.out _).mono ?_); rintro e w' ⟨rfl, hb⟩))
 obtain ⟨HA, y0, y1, y2, y3, y4, y5, y6, y7⟩ := rbox_next (Below.refl _ _) (by assumption)
 go_wp2
 go_ret
 refine ⟨ret_str' ?_, HA.out.2⟩
 rw [te.out]
 simp [sp_mk, app_mk]
set_option maxHeartbeats 4000000 in
set_option maxRecDepth 100000 in
theorem rt_9 (d s t u a k q : Int) (hf : In.fits ⟨9, d, s, t, u, a, k, q⟩) (hq : 0 ≤ q) (w : World) : Calls Tryz.prog 72 #[In.v ⟨9, d, s, t, u, a, k, q⟩] w fun e w' => e = .returned (.string ⟨(textF ⟨9, d, s, t, u, a, k, q⟩).toArray⟩) ∧ Below w.heap.size w w' := by
 have te : textF ⟨9, d, s, t, u, a, k, q⟩ = opName 9 ++ (((32 :: 114 :: dec s) ++ (32 :: 114 :: dec t)) ++ (32 :: dec q)) := by
  show Go.Lib.join (opName 9 :: List.flatten [[114 :: dec s], [114 :: dec t], [dec q]]) [32] = _
  simp [join_two, Go.Lib.join_one]
 obtain ⟨CK, CA, wk, lk, la, CQ, ld0, ls0, lt0, lu0, lk0, la0, lq0⟩ := rt_facts hf
 have CN := Aside0.mk (fun W => name_calls 9 W)
 have Cs := Aside0.mk (fun W => r_calls hf.s.1 (Int.le_trans hf.s.2 (by decide)) W)
 have Ct := Aside0.mk (fun W => r_calls hf.t.1 (Int.le_trans hf.t.2 (by decide)) W)
 dsimp only at Cs Ct
 have ln0 : (opName 9).length = 3 := by decide
 have b2 : ¬ 9223372036854775807 < (((dec s).length + 1 + 1) + ((dec t).length + 1 + 1)) := by omega
 have b3 : ¬ 9223372036854775807 < ((((dec s).length + 1 + 1) + ((dec t).length + 1 + 1)) + (1 + (dec q).length)) := by omega
 have bn : ¬ 9223372036854775807 < (opName 9).length + ((((dec s).length + 1 + 1) + ((dec t).length + 1 + 1)) + (1 + (dec q).length)) := by omega
 clear lk0 lq0 ld0 ls0 lt0 lu0 la0 ln0
 have hS := rbox_start w 9 d s t u a k q
 replace hf := Aside0.mk hf
 replace te := Aside0.mk te
 unfold In.v
 go_enter Tryz.func72, Tryz.ntmps72
 go_wp2_with fail
 go_region_held3 (fun W => RB w W 9 d s t u a k q) (first | exact hS | exact rbox_next hb (by assumption))
  (first
   | (go_at_call 62; (with_reducible refine (CK.out _).mono ?_); rintro e w' ⟨rfl, hb⟩)
   | (go_at_call 62; (with_reducible refine (CA.out _).mono ?_); rintro e w' ⟨rfl, hb⟩))
 obtain ⟨HA, y0, y1, y2, y3, y4, y5, y6, y7⟩ := rbox_next (Below.refl _ _) (by assumption)
 obtain ⟨CQ, lq⟩ := CQ.out hq
 go_wp2_with fail
 refine (CQ.out _).mono ?_
 rintro e w2 ⟨rfl, hb2⟩
 obtain ⟨HA, y0, y1, y2, y3, y4, y5, y6, y7⟩ := rbox_next hb2 ⟨HA, y0, y1, y2, y3, y4, y5, y6, y7⟩
 go_wp2_with fail
 refine (CN.out _).mono ?_
 rintro e w2 ⟨rfl, hb2⟩
 obtain ⟨HA, y0, y1, y2, y3, y4, y5, y6, y7⟩ := rbox_next hb2 ⟨HA, y0, y1, y2, y3, y4, y5, y6, y7⟩
 go_wp2_with fail
 have hT := rbox_next (below_drew (Below.refl _ _)) ⟨HA, y0, y1, y2, y3, y4, y5, y6, y7⟩
 go_region_held3 (fun W => RB w W 9 d s t u a k q) (first | exact hT | exact rbox_next hb (by assumption))
  (first
   | (go_at_call 98; (with_reducible refine (Cs.out _).mono ?_); rintro e w' ⟨rfl, hb⟩)
   | (go_at_call 98; (with_reducible refine (Ct.out _).mono ?_); rintro e w' ⟨rfl, hb⟩))
 obtain ⟨HA, y0, y1, y2, y3, y4, y5, y6, y7⟩ := rbox_next (Below.refl _ _) (by assumption)
 go_wp2
 go_ret
 refine ⟨ret_str' ?_, HA.out.2⟩
 rw [te.out]
 simp [sp_mk, app_mk]
set_option maxHeartbeats 4000000 in
set_option maxRecDepth 100000 in
theorem rt_10 (d s t u a k q : Int) (hf : In.fits ⟨10, d, s, t, u, a, k, q⟩) (hq : 0 ≤ q) (w : World) : Calls Tryz.prog 72 #[In.v ⟨10, d, s, t, u, a, k, q⟩] w fun e w' => e = .returned (.string ⟨(textF ⟨10, d, s, t, u, a, k, q⟩).toArray⟩) ∧ Below w.heap.size w w' := by
 have te : textF ⟨10, d, s, t, u, a, k, q⟩ = opName 10 ++ (32 :: dec q) := by
  show Go.Lib.join (opName 10 :: List.flatten [[dec q]]) [32] = _
  simp [join_two, Go.Lib.join_one]
 obtain ⟨CK, CA, wk, lk, la, CQ, ld0, ls0, lt0, lu0, lk0, la0, lq0⟩ := rt_facts hf
 have CN := Aside0.mk (fun W => name_calls 10 W)
 have ln0 : (opName 10).length = 4 := by decide
 have bn : ¬ 9223372036854775807 < (opName 10).length + (1 + (dec q).length) := by omega
 clear lk0 lq0 ld0 ls0 lt0 lu0 la0 ln0
 have hS := rbox_start w 10 d s t u a k q
 replace hf := Aside0.mk hf
 replace te := Aside0.mk te
 unfold In.v
 go_enter Tryz.func72, Tryz.ntmps72
 go_wp2_with fail
 go_region_held3 (fun W => RB w W 10 d s t u a k q) (first | exact hS | exact rbox_next hb (by assumption))
  (first
   | (go_at_call 62; (with_reducible refine (CK.out _).mono ?_); rintro e w' ⟨rfl, hb⟩)
   | (go_at_call 62; (with_reducible refine (CA.out _).mono ?_); rintro e w' ⟨rfl, hb⟩))
 obtain ⟨HA, y0, y1, y2, y3, y4, y5, y6, y7⟩ := rbox_next (Below.refl _ _) (by assumption)
 obtain ⟨CQ, lq⟩ := CQ.out hq
 go_wp2_with fail
 refine (CQ.out _).mono ?_
 rintro e w2 ⟨rfl, hb2⟩
 obtain ⟨HA, y0, y1, y2, y3, y4, y5, y6, y7⟩ := rbox_next hb2 ⟨HA, y0, y1, y2, y3, y4, y5, y6, y7⟩
 go_wp2_with fail
 refine (CN.out _).mono ?_
 rintro e w2 ⟨rfl, hb2⟩
 obtain ⟨HA, y0, y1, y2, y3, y4, y5, y6, y7⟩ := rbox_next hb2 ⟨HA, y0, y1, y2, y3, y4, y5, y6, y7⟩
 go_wp2_with fail
 go_wp2
 go_ret
 refine ⟨ret_str' ?_, HA.out.2⟩
 rw [te.out]
 simp [sp_mk, app_mk]
end Go.Proofs.YtbhpkeiofajbpaaGreatDoor
end

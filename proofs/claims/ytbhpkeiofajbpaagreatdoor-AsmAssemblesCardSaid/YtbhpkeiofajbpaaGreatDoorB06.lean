/- Parts: Field, Of. -/
import Derived.Test.YtbhpkeiofajbpaaGreatDoorB05
import Derived.Test.YtbhpkeiofajbpaaGreatDoorB02
/- inst.field: where a number of an instruction stands, by the sign of its form: for every sign the pointer and the bound, the world as it was. -/
section
namespace Go.Proofs.YtbhpkeiofajbpaaGreatDoor
open Go.RowKit
set_option linter.unusedVariables false

set_option maxHeartbeats 400000 in
theorem field_some (b : Nat) (s : Int) (k : Nat) (w : World) (h : fieldOff s = some k) :
  Calls Tryz.prog 88 #[.pointer (some ⟨b, 0, none⟩), .int .u8 s] w fun e w' => e = .returned (.tuple #[.pointer (some ⟨b, k, none⟩), .int .i64 7]) ∧ w = w' := by
 have hs : (s = 68 ∧ k = 1) ∨ (s = 83 ∧ k = 2) ∨ (s = 84 ∧ k = 3) ∨ (s = 85 ∧ k = 4) ∨ (s = 65 ∧ k = 5) := by
  unfold fieldOff at h
  repeat' (split at h <;> try (simp_all; done))
 clear h
 rcases hs with ⟨rfl, rfl⟩ | ⟨rfl, rfl⟩ | ⟨rfl, rfl⟩ | ⟨rfl, rfl⟩ | ⟨rfl, rfl⟩
 all_goals
  go_enter Tryz.func88, Tryz.ntmps88
  go_wp2
  go_ret2
  exact ⟨rfl, rfl⟩

theorem field_none (b : Nat) (s : Int) (w : World) (h : fieldOff s = none) :
  Calls Tryz.prog 88 #[.pointer (some ⟨b, 0, none⟩), .int .u8 s] w fun e w' => e = .returned (.tuple #[.pointer none, .int .i64 0]) ∧ w = w' := by
 have hs : (s == 68) = false ∧ (s == 83) = false ∧ (s == 84) = false ∧ (s == 85) = false ∧ (s == 65) = false := by
  unfold fieldOff at h
  repeat' (split at h <;> try (simp_all; done))
 clear h
 obtain ⟨h1, h2, h3, h4, h5⟩ := hs
 go_enter Tryz.func88, Tryz.ntmps88
 go_wp2
 go_ret2
 exact ⟨rfl, rfl⟩

set_option maxHeartbeats 400000 in
theorem within_calls (s : Int) (lo hi : Int) (b : Bool) (w : World) (h : within s = (lo, hi, b)) :
  Calls Tryz.prog 89 #[.int .u8 s] w fun e w' => e = .returned (.tuple #[.int .u32 lo, .int .u32 hi, .bool b]) ∧ w = w' := by
 have hs : (s = 75 ∧ lo = 0 ∧ hi = 4294967295 ∧ b = true) ∨ (s = 66 ∧ lo = 0 ∧ hi = 31 ∧ b = true) ∨ (s = 77 ∧ lo = 1 ∧ hi = 4 ∧ b = true) ∨ (s = 79 ∧ lo = 0 ∧ hi = 3 ∧ b = true) ∨ (s = 87 ∧ lo = 0 ∧ hi = 1 ∧ b = true) ∨
   ((s == 75) = false ∧ (s == 66) = false ∧ (s == 77) = false ∧ (s == 79) = false ∧ (s == 87) = false ∧ lo = 0 ∧ hi = 0 ∧ b = false) := by
  unfold within at h
  by_cases h1 : s = 75
  ·rw [if_pos h1] at h; cases h; simp [h1]
  by_cases h2 : s = 66
  ·rw [if_neg h1, if_pos h2] at h; cases h; simp [h2]
  by_cases h3 : s = 77
  ·rw [if_neg h1, if_neg h2, if_pos h3] at h; cases h; simp [h3]
  by_cases h4 : s = 79
  ·rw [if_neg h1, if_neg h2, if_neg h3, if_pos h4] at h; cases h; simp [h4]
  by_cases h5 : s = 87
  ·rw [if_neg h1, if_neg h2, if_neg h3, if_neg h4, if_pos h5] at h; cases h; simp [h5]
  rw [if_neg h1, if_neg h2, if_neg h3, if_neg h4, if_neg h5] at h
  cases h
  simp [h1, h2, h3, h4, h5]
 clear h
 rcases hs with ⟨rfl, rfl, rfl, rfl⟩ | ⟨rfl, rfl, rfl, rfl⟩ | ⟨rfl, rfl, rfl, rfl⟩ | ⟨rfl, rfl, rfl, rfl⟩ | ⟨rfl, rfl, rfl, rfl⟩ | ⟨h1, h2, h3, h4, h5, rfl, rfl, rfl⟩
 all_goals
  go_enter Tryz.func89, Tryz.ntmps89
  go_wp2
  go_ret3
  exact ⟨rfl, rfl⟩
end Go.Proofs.YtbhpkeiofajbpaaGreatDoor
end
/- inst.of, inst.memory: the form of an instruction, for every number: two texts, in new memory alone. -/
section
namespace Go.Proofs.YtbhpkeiofajbpaaGreatDoor
open Go.RowKit Go.Proofs.YtbhpkeiofajbpaaGreatDoorW.PrintWords
set_option linter.unusedVariables false

set_option maxHeartbeats 1000000 in
theorem memory_calls (op : Int) (w : World) (hn : ¬ (1 ≤ op ∧ op ≤ 13)) :
  Calls Tryz.prog 112 #[.int .i64 op] w fun e w' => e = .returned (.agg #[.string ⟨(opName op).toArray⟩, .string ⟨(opHas op).toArray⟩]) ∧ Below w.heap.size w w' := by
 by_cases h16 : op = 16
 ·subst h16
  go_enter Tryz.func112, Tryz.ntmps112
  go_wp2
  exact bodyPost_ret (v := .agg #[.string ⟨#[108, 111, 97, 100]⟩, .string ⟨#[68, 65, 83]⟩]) (by simp [results, Tryz.results112, go_sem]) rfl ⟨rfl, by apply_rules [Below.setCell, Below.alloc, Below.refl] <;> simp⟩
 by_cases h17 : op = 17
 ·subst h17
  go_enter Tryz.func112, Tryz.ntmps112
  go_wp2
  exact bodyPost_ret (v := .agg #[.string ⟨#[115, 116, 111, 114, 101]⟩, .string ⟨#[65, 83, 84]⟩]) (by simp [results, Tryz.results112, go_sem]) rfl ⟨rfl, by apply_rules [Below.setCell, Below.alloc, Below.refl] <;> simp⟩
 by_cases h18 : op = 18
 ·subst h18
  go_enter Tryz.func112, Tryz.ntmps112
  go_wp2
  exact bodyPost_ret (v := .agg #[.string ⟨#[115, 119, 97, 112]⟩, .string ⟨#[68, 65, 83, 84]⟩]) (by simp [results, Tryz.results112, go_sem]) rfl ⟨rfl, by apply_rules [Below.setCell, Below.alloc, Below.refl] <;> simp⟩
 by_cases h19 : op = 19
 ·subst h19
  go_enter Tryz.func112, Tryz.ntmps112
  go_wp2
  exact bodyPost_ret (v := .agg #[.string ⟨#[99, 97, 115]⟩, .string ⟨#[68, 65, 83, 84, 85]⟩]) (by simp [results, Tryz.results112, go_sem]) rfl ⟨rfl, by apply_rules [Below.setCell, Below.alloc, Below.refl] <;> simp⟩
 by_cases h20 : op = 20
 ·subst h20
  go_enter Tryz.func112, Tryz.ntmps112
  go_wp2
  exact bodyPost_ret (v := .agg #[.string ⟨#[102, 97, 100, 100]⟩, .string ⟨#[68, 65, 83, 75]⟩]) (by simp [results, Tryz.results112, go_sem]) rfl ⟨rfl, by apply_rules [Below.setCell, Below.alloc, Below.refl] <;> simp⟩
 by_cases h21 : op = 21
 ·subst h21
  go_enter Tryz.func112, Tryz.ntmps112
  go_wp2
  exact bodyPost_ret (v := .agg #[.string ⟨#[97, 119, 97, 105, 116]⟩, .string ⟨#[68, 65, 83, 87]⟩]) (by simp [results, Tryz.results112, go_sem]) rfl ⟨rfl, by apply_rules [Below.setCell, Below.alloc, Below.refl] <;> simp⟩
 by_cases h22 : op = 22
 ·subst h22
  go_enter Tryz.func112, Tryz.ntmps112
  go_wp2
  exact bodyPost_ret (v := .agg #[.string ⟨#[116, 97, 107, 101]⟩, .string ⟨#[68]⟩]) (by simp [results, Tryz.results112, go_sem]) rfl ⟨rfl, by apply_rules [Below.setCell, Below.alloc, Below.refl] <;> simp⟩
 by_cases h23 : op = 23
 ·subst h23
  go_enter Tryz.func112, Tryz.ntmps112
  go_wp2
  exact bodyPost_ret (v := .agg #[.string ⟨#[102, 114, 101, 101]⟩, .string ⟨#[83]⟩]) (by simp [results, Tryz.results112, go_sem]) rfl ⟨rfl, by apply_rules [Below.setCell, Below.alloc, Below.refl] <;> simp⟩
 have g16 : (op == 16) = false := beq_eq_false_iff_ne.2 h16
 have g17 : (op == 17) = false := beq_eq_false_iff_ne.2 h17
 have g18 : (op == 18) = false := beq_eq_false_iff_ne.2 h18
 have g19 : (op == 19) = false := beq_eq_false_iff_ne.2 h19
 have g20 : (op == 20) = false := beq_eq_false_iff_ne.2 h20
 have g21 : (op == 21) = false := beq_eq_false_iff_ne.2 h21
 have g22 : (op == 22) = false := beq_eq_false_iff_ne.2 h22
 have g23 : (op == 23) = false := beq_eq_false_iff_ne.2 h23
 have e1 : opName op = [] := by unfold opName; repeat (first | rw [if_neg (by omega)] | rfl)
 have e2 : opHas op = [] := by unfold opHas; repeat (first | rw [if_neg (by omega)] | rfl)
 rw [e1, e2]
 clear e1 e2
 go_enter Tryz.func112, Tryz.ntmps112
 go_wp2
 exact bodyPost_ret (v := .agg #[.string ⟨#[]⟩, .string ⟨#[]⟩]) (by simp [results, Tryz.results112, go_sem]) rfl ⟨rfl, by apply_rules [Below.setCell, Below.alloc, Below.refl] <;> simp⟩

set_option maxHeartbeats 1000000 in
theorem of_calls (op : Int) (w : World) :
  Calls Tryz.prog 87 #[.int .i64 op] w fun e w' => e = .returned (.agg #[.string ⟨(opName op).toArray⟩, .string ⟨(opHas op).toArray⟩]) ∧ Below w.heap.size w w' := by
 by_cases h1 : op = 1
 ·subst h1
  go_enter Tryz.func87, Tryz.ntmps87
  go_wp2
  exact bodyPost_ret (v := .agg #[.string ⟨#[99, 111, 110, 115, 116]⟩, .string ⟨#[68, 75]⟩]) (by simp [results, Tryz.results87, go_sem]) rfl ⟨rfl, by apply_rules [Below.setCell, Below.alloc, Below.refl] <;> simp⟩
 by_cases h2 : op = 2
 ·subst h2
  go_enter Tryz.func87, Tryz.ntmps87
  go_wp2
  exact bodyPost_ret (v := .agg #[.string ⟨#[109, 111, 118, 101]⟩, .string ⟨#[68, 83]⟩]) (by simp [results, Tryz.results87, go_sem]) rfl ⟨rfl, by apply_rules [Below.setCell, Below.alloc, Below.refl] <;> simp⟩
 by_cases h3 : op = 3
 ·subst h3
  go_enter Tryz.func87, Tryz.ntmps87
  go_wp2
  exact bodyPost_ret (v := .agg #[.string ⟨#[97, 100, 100, 107]⟩, .string ⟨#[68, 83, 75]⟩]) (by simp [results, Tryz.results87, go_sem]) rfl ⟨rfl, by apply_rules [Below.setCell, Below.alloc, Below.refl] <;> simp⟩
 by_cases h4 : op = 4
 ·subst h4
  go_enter Tryz.func87, Tryz.ntmps87
  go_wp2
  exact bodyPost_ret (v := .agg #[.string ⟨#[97, 110, 100, 107]⟩, .string ⟨#[68, 83, 75]⟩]) (by simp [results, Tryz.results87, go_sem]) rfl ⟨rfl, by apply_rules [Below.setCell, Below.alloc, Below.refl] <;> simp⟩
 by_cases h5 : op = 5
 ·subst h5
  go_enter Tryz.func87, Tryz.ntmps87
  go_wp2
  exact bodyPost_ret (v := .agg #[.string ⟨#[115, 104, 108]⟩, .string ⟨#[68, 83, 66]⟩]) (by simp [results, Tryz.results87, go_sem]) rfl ⟨rfl, by apply_rules [Below.setCell, Below.alloc, Below.refl] <;> simp⟩
 by_cases h6 : op = 6
 ·subst h6
  go_enter Tryz.func87, Tryz.ntmps87
  go_wp2
  exact bodyPost_ret (v := .agg #[.string ⟨#[115, 104, 114]⟩, .string ⟨#[68, 83, 66]⟩]) (by simp [results, Tryz.results87, go_sem]) rfl ⟨rfl, by apply_rules [Below.setCell, Below.alloc, Below.refl] <;> simp⟩
 by_cases h7 : op = 7
 ·subst h7
  go_enter Tryz.func87, Tryz.ntmps87
  go_wp2
  exact bodyPost_ret (v := .agg #[.string ⟨#[111, 114]⟩, .string ⟨#[68, 83, 84]⟩]) (by simp [results, Tryz.results87, go_sem]) rfl ⟨rfl, by apply_rules [Below.setCell, Below.alloc, Below.refl] <;> simp⟩
 by_cases h8 : op = 8
 ·subst h8
  go_enter Tryz.func87, Tryz.ntmps87
  go_wp2
  exact bodyPost_ret (v := .agg #[.string ⟨#[98, 101, 113]⟩, .string ⟨#[83, 84, 80]⟩]) (by simp [results, Tryz.results87, go_sem]) rfl ⟨rfl, by apply_rules [Below.setCell, Below.alloc, Below.refl] <;> simp⟩
 by_cases h9 : op = 9
 ·subst h9
  go_enter Tryz.func87, Tryz.ntmps87
  go_wp2
  exact bodyPost_ret (v := .agg #[.string ⟨#[98, 110, 101]⟩, .string ⟨#[83, 84, 80]⟩]) (by simp [results, Tryz.results87, go_sem]) rfl ⟨rfl, by apply_rules [Below.setCell, Below.alloc, Below.refl] <;> simp⟩
 by_cases h10 : op = 10
 ·subst h10
  go_enter Tryz.func87, Tryz.ntmps87
  go_wp2
  exact bodyPost_ret (v := .agg #[.string ⟨#[106, 117, 109, 112]⟩, .string ⟨#[80]⟩]) (by simp [results, Tryz.results87, go_sem]) rfl ⟨rfl, by apply_rules [Below.setCell, Below.alloc, Below.refl] <;> simp⟩
 by_cases h11 : op = 11
 ·subst h11
  go_enter Tryz.func87, Tryz.ntmps87
  go_wp2
  exact bodyPost_ret (v := .agg #[.string ⟨#[115, 101, 108, 102]⟩, .string ⟨#[68]⟩]) (by simp [results, Tryz.results87, go_sem]) rfl ⟨rfl, by apply_rules [Below.setCell, Below.alloc, Below.refl] <;> simp⟩
 by_cases h12 : op = 12
 ·subst h12
  go_enter Tryz.func87, Tryz.ntmps87
  go_wp2
  exact bodyPost_ret (v := .agg #[.string ⟨#[109, 97, 114, 107]⟩, .string ⟨#[77]⟩]) (by simp [results, Tryz.results87, go_sem]) rfl ⟨rfl, by apply_rules [Below.setCell, Below.alloc, Below.refl] <;> simp⟩
 by_cases h13 : op = 13
 ·subst h13
  go_enter Tryz.func87, Tryz.ntmps87
  go_wp2
  exact bodyPost_ret (v := .agg #[.string ⟨#[100, 111, 110, 101]⟩, .string ⟨#[79]⟩]) (by simp [results, Tryz.results87, go_sem]) rfl ⟨rfl, by apply_rules [Below.setCell, Below.alloc, Below.refl] <;> simp⟩
 have g1 : (op == 1) = false := beq_eq_false_iff_ne.2 h1
 have g2 : (op == 2) = false := beq_eq_false_iff_ne.2 h2
 have g3 : (op == 3) = false := beq_eq_false_iff_ne.2 h3
 have g4 : (op == 4) = false := beq_eq_false_iff_ne.2 h4
 have g5 : (op == 5) = false := beq_eq_false_iff_ne.2 h5
 have g6 : (op == 6) = false := beq_eq_false_iff_ne.2 h6
 have g7 : (op == 7) = false := beq_eq_false_iff_ne.2 h7
 have g8 : (op == 8) = false := beq_eq_false_iff_ne.2 h8
 have g9 : (op == 9) = false := beq_eq_false_iff_ne.2 h9
 have g10 : (op == 10) = false := beq_eq_false_iff_ne.2 h10
 have g11 : (op == 11) = false := beq_eq_false_iff_ne.2 h11
 have g12 : (op == 12) = false := beq_eq_false_iff_ne.2 h12
 have g13 : (op == 13) = false := beq_eq_false_iff_ne.2 h13
 have hn : ¬ (1 ≤ op ∧ op ≤ 13) := by omega
 clear h1 h2 h3 h4 h5 h6 h7 h8 h9 h10 h11 h12 h13
 go_enter Tryz.func87, Tryz.ntmps87
 go_wp2_with fail
 refine (memory_calls op _ hn).mono ?_
 rintro e w' ⟨rfl, hb⟩
 have BK := Aside0.mk (show w'.heap[w.heap.size]? = some (.cells #[.string ⟨#[]⟩, .string ⟨#[]⟩] 161 (0, 0)) from blk_keep hb (blk_new w _))
 have z : w.heap.size < w'.heap.size := blk_lt BK.out
 have c0 : w'.cell? ⟨w.heap.size, 0, none⟩ = some (.string ⟨#[]⟩) := (blk_cell BK.out 0).trans rfl
 have c1 : w'.cell? ⟨w.heap.size, 1, none⟩ = some (.string ⟨#[]⟩) := (blk_cell BK.out 1).trans rfl
 have f0 := blk_frozen BK.out 0
 have f1 := blk_frozen BK.out 1
 go_wp2
 refine bodyPost_ret (results_cell_row rfl _ _ w.heap.size 161 #[.string ⟨(opName op).toArray⟩, .string ⟨(opHas op).toArray⟩] (0, 0) _ rfl (blk_set (blk_set BK.out 0 _) 1 _) Tryz.underlying161 rfl (by kernel_rfl)) rfl ⟨rfl, ?_⟩
 exact ((((Below.refl _ _).alloc (Nat.le_refl _) _).trans (hb.mono (by simp))).setCell (by simp) _).setCell (by simp) _

end Go.Proofs.YtbhpkeiofajbpaaGreatDoor
end

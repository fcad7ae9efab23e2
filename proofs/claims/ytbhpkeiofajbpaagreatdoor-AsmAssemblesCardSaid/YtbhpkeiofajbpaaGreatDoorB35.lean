/- Parts: RefRight, Digits, RefTextBox. -/
import Derived.Test.YtbhpkeiofajbpaaGreatDoorB32
import Derived.Test.YtbhpkeiofajbpaaGreatDoorB33
import Derived.Test.YtbhpkeiofajbpaaGreatDoorB34
import Derived.Test.YtbhpkeiofajbpaaGreatDoorB05
import Derived.Test.YtbhpkeiofajbpaaGreatDoorB02
import Derived.Test.YtbhpkeiofajbpaaGreatDoorB04
import Derived.Test.YtbhpkeiofajbpaaGreatDoorB30
import Derived.Test.YtbhpkeiofajbpaaGreatDoorB31
import Derived.Test.YtbhpkeiofajbpaaGreatDoorB07
import Derived.Deep.RegionHeld3
/- ropelineref06.Right of any instruction: what the program's Right says. -/
section
namespace Go.Proofs.YtbhpkeiofajbpaaGreatDoor
open Go.RowKit Go.Proofs.YtbhpkeiofajbpaaGreatDoorW.PrintWords
set_option linter.unusedVariables false

structure In.regs5 (i : In) : Prop where
 d : 0 ≤ i.d ∧ i.d ≤ 7
 s : 0 ≤ i.s ∧ i.s ≤ 7
 t : 0 ≤ i.t ∧ i.t ≤ 7
 u : 0 ≤ i.u ∧ i.u ≤ 7
 a : 0 ≤ i.a ∧ i.a ≤ 7

theorem stepR_regs {places s : Int} {r r' : In} (h : stepR places s r = some r') (hr : r'.regs5) : r.regs5 := by
 unfold stepR at h
 obtain ⟨h1, h2, h3, h4, h5⟩ := hr
 cases hf : fieldOff s with
 | some j =>
  rw [hf] at h
  dsimp only at h
  by_cases hb : r.get j < 0 ∨ 7 < r.get j
  ·rw [if_pos hb] at h; cases h
  rw [if_neg hb] at h
  cases h
  have hb' : 0 ≤ r.get j ∧ r.get j ≤ 7 := by omega
  clear hb
  rcases fieldOff_cases hf with ⟨_, rfl⟩ | ⟨_, rfl⟩ | ⟨_, rfl⟩ | ⟨_, rfl⟩ | ⟨_, rfl⟩
  all_goals (simp only [In.put, In.get] at *; constructor <;> assumption)
 | none =>
  rw [hf] at h
  dsimp only at h
  by_cases c1 : s = 75
  ·rw [if_pos c1] at h; cases h; constructor <;> assumption
  rw [if_neg c1] at h
  by_cases c2 : s = 66
  ·rw [if_pos c2] at h
   by_cases b : 31 < r.k
   ·rw [if_pos b] at h; cases h
   rw [if_neg b] at h; cases h; constructor <;> assumption
  rw [if_neg c2] at h
  by_cases c3 : s = 77
  ·rw [if_pos c3] at h
   by_cases b : r.k < 1 ∨ 4 < r.k
   ·rw [if_pos b] at h; cases h
   rw [if_neg b] at h; cases h; constructor <;> assumption
  rw [if_neg c3] at h
  by_cases c4 : s = 79
  ·rw [if_pos c4] at h
   by_cases b : 3 < r.k
   ·rw [if_pos b] at h; cases h
   rw [if_neg b] at h; cases h; constructor <;> assumption
  rw [if_neg c4] at h
  by_cases c5 : s = 87
  ·rw [if_pos c5] at h
   by_cases b : 1 < r.k
   ·rw [if_pos b] at h; cases h
   rw [if_neg b] at h
   by_cases b2 : r.t < 0 ∨ 7 < r.t ∨ r.q < -1 ∨ (r.q ≠ -1 ∧ places ≤ r.q)
   ·rw [if_pos b2] at h; cases h
   rw [if_neg b2] at h; cases h
   exact ⟨h1, h2, by omega, h4, h5⟩
  rw [if_neg c5] at h
  by_cases c6 : s = 80
  ·rw [if_pos c6] at h
   by_cases b : r.q < 0 ∨ places ≤ r.q
   ·rw [if_pos b] at h; cases h
   rw [if_neg b] at h; cases h
   exact ⟨h1, h2, h3, h4, h5⟩
  rw [if_neg c6] at h
  cases h
  constructor <;> assumption
theorem foldR_regs {places : Int} : ∀ (l : List UInt8) (r r' : In), foldR places l r = some r' → r'.regs5 → r.regs5
 | [], r, r', h, hr => by cases h; exact hr
 | c :: l, r, r', h, hr => by
  unfold foldR at h
  cases hs : stepR places (c.toNat : Int) r with
  | none => rw [hs] at h; cases h
  | some r1 =>
   rw [hs] at h
   exact stepR_regs hs (foldR_regs l r1 r' h hr)
theorem rightF_name' {i : In} {places : Int} (h : rightF i places = true) : opName i.op ≠ [] := by
 intro e
 unfold rightF at h
 rw [if_pos e] at h
 cases h
theorem rightF_regs {i : In} {places : Int} (h : rightF i places = true) : i.regs5 := by
 have hn := rightF_name' h
 rw [rightF_eq _ _ hn] at h
 cases hf : foldR places (opHas i.op) { i with op := 0 } with
 | none => rw [hf] at h; cases h
 | some r =>
  rw [hf] at h
  have e : r = In.zero := of_decide_eq_true h
  subst e
  have := foldR_regs _ _ _ hf ⟨by decide, by decide, by decide, by decide, by decide⟩
  exact ⟨this.d, this.s, this.t, this.u, this.a⟩

set_option maxHeartbeats 400000 in
set_option maxRecDepth 100000 in
theorem refright_noname (op d s t u a k q places : Int) (w : World) (hn : opName op = []) :
  Calls Tryz.prog 69 #[.agg #[.int .i64 op, .int .i64 d, .int .i64 s, .int .i64 t, .int .i64 u, .int .i64 a, .int .u32 k, .int .i64 q], .int .i64 places] w fun e w' => e = .returned (.bool false) ∧ Below w.heap.size w w' := by
 replace hn := Aside0.mk hn
 go_enter Tryz.func69, Tryz.ntmps69
 go_wp2_with fail
 refine (name_calls op _).mono ?_
 rintro e w1 ⟨rfl, hb⟩
 rw [hn.out]
 go_wp2
 go_ret
 exact ⟨rfl, ((Below.refl w.heap.size w).alloc (Nat.le_refl _) _).trans (hb.mono (by simp))⟩
set_option maxHeartbeats 400000 in
set_option maxRecDepth 100000 in
theorem refright_bad_d (op d s t u a k q places : Int) (w : World) (hn : opName op ≠ []) (hd : ¬ (0 ≤ d ∧ d ≤ 7)) :
  Calls Tryz.prog 69 #[.agg #[.int .i64 op, .int .i64 d, .int .i64 s, .int .i64 t, .int .i64 u, .int .i64 a, .int .u32 k, .int .i64 q], .int .i64 places] w fun e w' => e = .returned (.bool false) ∧ Below w.heap.size w w' := by
 have hne : (opName op).isEmpty = false := by cases h : opName op <;> simp_all
 clear hn
 replace hd := Aside0.mk hd
 go_enter Tryz.func69, Tryz.ntmps69
 go_wp2_with fail
 refine (name_calls op _).mono ?_
 rintro e w1 ⟨rfl, hb⟩
 have BK := Aside0.mk (blk_keep hb (blk_new w _))
 have z : w.heap.size < w1.heap.size := blk_lt BK.out
 have c1 : w1.cell? ⟨w.heap.size, 1, none⟩ = some (.int .i64 d) := (blk_cell BK.out 1).trans rfl
 go_wp2_with fail
 refine (reg_no d hd.out _).mono ?_
 rintro e w' ⟨rfl, rfl⟩
 go_wp2
 go_ret
 exact ⟨rfl, ((Below.refl w.heap.size w).alloc (Nat.le_refl _) _).trans (hb.mono (by simp))⟩

set_option maxHeartbeats 400000 in
set_option maxRecDepth 100000 in
theorem refright_bad_s (op d s t u a k q places : Int) (w : World) (hn : opName op ≠ []) (hd : 0 ≤ d ∧ d ≤ 7) (hs : ¬ (0 ≤ s ∧ s ≤ 7)) :
  Calls Tryz.prog 69 #[.agg #[.int .i64 op, .int .i64 d, .int .i64 s, .int .i64 t, .int .i64 u, .int .i64 a, .int .u32 k, .int .i64 q], .int .i64 places] w fun e w' => e = .returned (.bool false) ∧ Below w.heap.size w w' := by
 have hne : (opName op).isEmpty = false := by cases h : opName op <;> simp_all
 clear hn
 replace hs := Aside0.mk hs
 go_enter Tryz.func69, Tryz.ntmps69
 go_wp2_with fail
 refine (name_calls op _).mono ?_
 rintro e w1 ⟨rfl, hb⟩
 have BK := Aside0.mk (blk_keep hb (blk_new w _))
 have z : w.heap.size < w1.heap.size := blk_lt BK.out
 have c1 : w1.cell? ⟨w.heap.size, 1, none⟩ = some (.int .i64 d) := (blk_cell BK.out 1).trans rfl
 have c2 : w1.cell? ⟨w.heap.size, 2, none⟩ = some (.int .i64 s) := (blk_cell BK.out 2).trans rfl
 go_wp2_with fail
 refine (reg_yes d hd _).mono ?_
 rintro e w' ⟨rfl, rfl⟩
 go_wp2_with fail
 refine (reg_no s hs.out _).mono ?_
 rintro e w' ⟨rfl, rfl⟩
 go_wp2
 go_ret
 exact ⟨rfl, ((Below.refl w.heap.size w).alloc (Nat.le_refl _) _).trans (hb.mono (by simp))⟩

set_option maxHeartbeats 400000 in
set_option maxRecDepth 100000 in
theorem refright_bad_t (op d s t u a k q places : Int) (w : World) (hn : opName op ≠ []) (hd : 0 ≤ d ∧ d ≤ 7) (hs : 0 ≤ s ∧ s ≤ 7) (ht : ¬ (0 ≤ t ∧ t ≤ 7)) :
  Calls Tryz.prog 69 #[.agg #[.int .i64 op, .int .i64 d, .int .i64 s, .int .i64 t, .int .i64 u, .int .i64 a, .int .u32 k, .int .i64 q], .int .i64 places] w fun e w' => e = .returned (.bool false) ∧ Below w.heap.size w w' := by
 have hne : (opName op).isEmpty = false := by cases h : opName op <;> simp_all
 clear hn
 replace ht := Aside0.mk ht
 go_enter Tryz.func69, Tryz.ntmps69
 go_wp2_with fail
 refine (name_calls op _).mono ?_
 rintro e w1 ⟨rfl, hb⟩
 have BK := Aside0.mk (blk_keep hb (blk_new w _))
 have z : w.heap.size < w1.heap.size := blk_lt BK.out
 have c1 : w1.cell? ⟨w.heap.size, 1, none⟩ = some (.int .i64 d) := (blk_cell BK.out 1).trans rfl
 have c2 : w1.cell? ⟨w.heap.size, 2, none⟩ = some (.int .i64 s) := (blk_cell BK.out 2).trans rfl
 have c3 : w1.cell? ⟨w.heap.size, 3, none⟩ = some (.int .i64 t) := (blk_cell BK.out 3).trans rfl
 go_wp2_with fail
 refine (reg_yes d hd _).mono ?_
 rintro e w' ⟨rfl, rfl⟩
 go_wp2_with fail
 refine (reg_yes s hs _).mono ?_
 rintro e w' ⟨rfl, rfl⟩
 go_wp2_with fail
 refine (reg_no t ht.out _).mono ?_
 rintro e w' ⟨rfl, rfl⟩
 go_wp2
 go_ret
 exact ⟨rfl, ((Below.refl w.heap.size w).alloc (Nat.le_refl _) _).trans (hb.mono (by simp))⟩

set_option maxHeartbeats 400000 in
set_option maxRecDepth 100000 in
theorem refright_bad_u (op d s t u a k q places : Int) (w : World) (hn : opName op ≠ []) (hd : 0 ≤ d ∧ d ≤ 7) (hs : 0 ≤ s ∧ s ≤ 7) (ht : 0 ≤ t ∧ t ≤ 7) (hu : ¬ (0 ≤ u ∧ u ≤ 7)) :
  Calls Tryz.prog 69 #[.agg #[.int .i64 op, .int .i64 d, .int .i64 s, .int .i64 t, .int .i64 u, .int .i64 a, .int .u32 k, .int .i64 q], .int .i64 places] w fun e w' => e = .returned (.bool false) ∧ Below w.heap.size w w' := by
 have hne : (opName op).isEmpty = false := by cases h : opName op <;> simp_all
 clear hn
 replace hu := Aside0.mk hu
 go_enter Tryz.func69, Tryz.ntmps69
 go_wp2_with fail
 refine (name_calls op _).mono ?_
 rintro e w1 ⟨rfl, hb⟩
 have BK := Aside0.mk (blk_keep hb (blk_new w _))
 have z : w.heap.size < w1.heap.size := blk_lt BK.out
 have c1 : w1.cell? ⟨w.heap.size, 1, none⟩ = some (.int .i64 d) := (blk_cell BK.out 1).trans rfl
 have c2 : w1.cell? ⟨w.heap.size, 2, none⟩ = some (.int .i64 s) := (blk_cell BK.out 2).trans rfl
 have c3 : w1.cell? ⟨w.heap.size, 3, none⟩ = some (.int .i64 t) := (blk_cell BK.out 3).trans rfl
 have c4 : w1.cell? ⟨w.heap.size, 4, none⟩ = some (.int .i64 u) := (blk_cell BK.out 4).trans rfl
 go_wp2_with fail
 refine (reg_yes d hd _).mono ?_
 rintro e w' ⟨rfl, rfl⟩
 go_wp2_with fail
 refine (reg_yes s hs _).mono ?_
 rintro e w' ⟨rfl, rfl⟩
 go_wp2_with fail
 refine (reg_yes t ht _).mono ?_
 rintro e w' ⟨rfl, rfl⟩
 go_wp2_with fail
 refine (reg_no u hu.out _).mono ?_
 rintro e w' ⟨rfl, rfl⟩
 go_wp2
 go_ret
 exact ⟨rfl, ((Below.refl w.heap.size w).alloc (Nat.le_refl _) _).trans (hb.mono (by simp))⟩

set_option maxHeartbeats 400000 in
set_option maxRecDepth 100000 in
theorem refright_bad_a (op d s t u a k q places : Int) (w : World) (hn : opName op ≠ []) (hd : 0 ≤ d ∧ d ≤ 7) (hs : 0 ≤ s ∧ s ≤ 7) (ht : 0 ≤ t ∧ t ≤ 7) (hu : 0 ≤ u ∧ u ≤ 7) (ha : ¬ (0 ≤ a ∧ a ≤ 7)) :
  Calls Tryz.prog 69 #[.agg #[.int .i64 op, .int .i64 d, .int .i64 s, .int .i64 t, .int .i64 u, .int .i64 a, .int .u32 k, .int .i64 q], .int .i64 places] w fun e w' => e = .returned (.bool false) ∧ Below w.heap.size w w' := by
 have hne : (opName op).isEmpty = false := by cases h : opName op <;> simp_all
 clear hn
 replace ha := Aside0.mk ha
 go_enter Tryz.func69, Tryz.ntmps69
 go_wp2_with fail
 refine (name_calls op _).mono ?_
 rintro e w1 ⟨rfl, hb⟩
 have BK := Aside0.mk (blk_keep hb (blk_new w _))
 have z : w.heap.size < w1.heap.size := blk_lt BK.out
 have c1 : w1.cell? ⟨w.heap.size, 1, none⟩ = some (.int .i64 d) := (blk_cell BK.out 1).trans rfl
 have c2 : w1.cell? ⟨w.heap.size, 2, none⟩ = some (.int .i64 s) := (blk_cell BK.out 2).trans rfl
 have c3 : w1.cell? ⟨w.heap.size, 3, none⟩ = some (.int .i64 t) := (blk_cell BK.out 3).trans rfl
 have c4 : w1.cell? ⟨w.heap.size, 4, none⟩ = some (.int .i64 u) := (blk_cell BK.out 4).trans rfl
 have c5 : w1.cell? ⟨w.heap.size, 5, none⟩ = some (.int .i64 a) := (blk_cell BK.out 5).trans rfl
 go_wp2_with fail
 refine (reg_yes d hd _).mono ?_
 rintro e w' ⟨rfl, rfl⟩
 go_wp2_with fail
 refine (reg_yes s hs _).mono ?_
 rintro e w' ⟨rfl, rfl⟩
 go_wp2_with fail
 refine (reg_yes t ht _).mono ?_
 rintro e w' ⟨rfl, rfl⟩
 go_wp2_with fail
 refine (reg_yes u hu _).mono ?_
 rintro e w' ⟨rfl, rfl⟩
 go_wp2_with fail
 refine (reg_no a ha.out _).mono ?_
 rintro e w' ⟨rfl, rfl⟩
 go_wp2
 go_ret
 exact ⟨rfl, ((Below.refl w.heap.size w).alloc (Nat.le_refl _) _).trans (hb.mono (by simp))⟩

/-- Right of any instruction, the document's: as the program's. -/
theorem refright_calls (i : In) (places : Int) (hwk : i.wk) (w : World) :
  Calls Tryz.prog 69 #[i.v, .int .i64 places] w fun e w' => e = .returned (.bool (rightF i places)) ∧ Below w.heap.size w w' := by
 cases i with
 | mk op d s t u a k q =>
  by_cases hn : opName op = []
  ·have e : rightF ⟨op, d, s, t, u, a, k, q⟩ places = false := by unfold rightF; rw [if_pos hn]
   rw [e]
   exact refright_noname op d s t u a k q places w hn
  have hfalse : ¬ (In.mk op d s t u a k q).regs5 → rightF ⟨op, d, s, t, u, a, k, q⟩ places = false := fun h => by
   cases hr : rightF ⟨op, d, s, t, u, a, k, q⟩ places with
   | false => rfl
   | true => exact absurd (rightF_regs hr) h
  by_cases hd : 0 ≤ d ∧ d ≤ 7
  case neg => rw [hfalse (fun x => hd x.d)]; exact refright_bad_d op d s t u a k q places w hn hd
  by_cases hs : 0 ≤ s ∧ s ≤ 7
  case neg => rw [hfalse (fun x => hs x.s)]; exact refright_bad_s op d s t u a k q places w hn hd hs
  by_cases ht : 0 ≤ t ∧ t ≤ 7
  case neg => rw [hfalse (fun x => ht x.t)]; exact refright_bad_t op d s t u a k q places w hn hd hs ht
  by_cases hu : 0 ≤ u ∧ u ≤ 7
  case neg => rw [hfalse (fun x => hu x.u)]; exact refright_bad_u op d s t u a k q places w hn hd hs ht hu
  by_cases ha : 0 ≤ a ∧ a ≤ 7
  case neg => rw [hfalse (fun x => ha x.a)]; exact refright_bad_a op d s t u a k q places w hn hd hs ht hu ha
  by_cases h1 : op = 1
  case pos => subst h1; exact refright_1 d s t u a k q places w hd hs ht hu ha hwk
  by_cases h2 : op = 2
  case pos => subst h2; exact refright_2 d s t u a k q places w hd hs ht hu ha hwk
  by_cases h3 : op = 3
  case pos => subst h3; exact refright_3 d s t u a k q places w hd hs ht hu ha hwk
  by_cases h4 : op = 4
  case pos => subst h4; exact refright_4 d s t u a k q places w hd hs ht hu ha hwk
  by_cases h5 : op = 5
  case pos => subst h5; exact refright_5 d s t u a k q places w hd hs ht hu ha hwk
  by_cases h6 : op = 6
  case pos => subst h6; exact refright_6 d s t u a k q places w hd hs ht hu ha hwk
  by_cases h7 : op = 7
  case pos => subst h7; exact refright_7 d s t u a k q places w hd hs ht hu ha hwk
  by_cases h8 : op = 8
  case pos => subst h8; exact refright_8 d s t u a k q places w hd hs ht hu ha hwk
  by_cases h9 : op = 9
  case pos => subst h9; exact refright_9 d s t u a k q places w hd hs ht hu ha hwk
  by_cases h10 : op = 10
  case pos => subst h10; exact refright_10 d s t u a k q places w hd hs ht hu ha hwk
  by_cases h11 : op = 11
  case pos => subst h11; exact refright_11 d s t u a k q places w hd hs ht hu ha hwk
  by_cases h12 : op = 12
  case pos => subst h12; exact refright_12 d s t u a k q places w hd hs ht hu ha hwk
  by_cases h13 : op = 13
  case pos => subst h13; exact refright_13 d s t u a k q places w hd hs ht hu ha hwk
  by_cases h16 : op = 16
  case pos => subst h16; exact refright_16 d s t u a k q places w hd hs ht hu ha hwk
  by_cases h17 : op = 17
  case pos => subst h17; exact refright_17 d s t u a k q places w hd hs ht hu ha hwk
  by_cases h18 : op = 18
  case pos => subst h18; exact refright_18 d s t u a k q places w hd hs ht hu ha hwk
  by_cases h19 : op = 19
  case pos => subst h19; exact refright_19 d s t u a k q places w hd hs ht hu ha hwk
  by_cases h20 : op = 20
  case pos => subst h20; exact refright_20 d s t u a k q places w hd hs ht hu ha hwk
  by_cases h21 : op = 21
  case pos => subst h21; exact refright_21 d s t u a k q places w hd hs ht hu ha hwk
  by_cases h22 : op = 22
  case pos => subst h22; exact refright_22 d s t u a k q places w hd hs ht hu ha hwk
  by_cases h23 : op = 23
  case pos => subst h23; exact refright_23 d s t u a k q places w hd hs ht hu ha hwk
  exfalso
  apply hn
  unfold opName
  repeat (first | rw [if_neg (by assumption)] | rfl)
end Go.Proofs.YtbhpkeiofajbpaaGreatDoor
end
/- ropelineref06.Digits, r: a number's digits. -/
section
namespace Go.Proofs.YtbhpkeiofajbpaaGreatDoor
open Go.RowKit Go.Proofs.YtbhpkeiofajbpaaGreatDoorW.PrintWords
set_option linter.unusedVariables false

theorem str_one {n : Nat} (h : n < 10) : strOfNums [(wrap64 (48 + (n : Int))) % 256] = ⟨#[UInt8.ofNat (48 + n)]⟩ := by
 have e : (wrap64 (48 + (n : Int))) % 256 = ((48 + n : Nat) : Int) := by unfold wrap64; omega
 rw [e]; rfl
theorem digits_f : ∀ (k n : Nat), n < 10 ^ k → n ≤ 4294967295 → ropelineref06_Digits.f (k + 1) (n : Int) = some ⟨(Go.Lib.decDigits n).toArray⟩
 | 0, n, h, _ => by
  have : n = 0 := by omega
  subst this
  rw [Go.Lib.decDigits_one (by omega)]
  unfold ropelineref06_Digits.f
  rw [if_pos (by omega)]
  exact congrArg some (str_one (n := 0) (by omega))
 | k + 1, n, h, hn => by
  unfold ropelineref06_Digits.f
  by_cases c : n < 10
  ·rw [if_pos (by omega), Go.Lib.decDigits_one c]
   exact congrArg some (str_one c)
  ·rw [if_neg (by omega)]
   have e1 : wrap64 (Int.tdiv (n : Int) 10) = ((n / 10 : Nat) : Int) := by
    rw [show Int.tdiv (n : Int) 10 = ((n / 10 : Nat) : Int) from rfl]
    unfold wrap64; omega
   have e2 : Int.tmod (n : Int) 10 = ((n % 10 : Nat) : Int) := rfl
   rw [e1, e2, digits_f k (n / 10) (by rw [Nat.div_lt_iff_lt_mul (by omega)]; rw [Nat.pow_succ] at h; exact h) (by omega)]
   simp only [Option.bind_some, str_one (Nat.mod_lt n (show 10 > 0 by omega))]
   have hl := dec_len10 (n / 10) (by omega)
   have ed : Go.Lib.decDigits n = Go.Lib.decDigits (n / 10) ++ [UInt8.ofNat (48 + n % 10)] := by
    rw [Go.Lib.decDigits, dif_neg c]
   rw [if_pos (by simp [ByteArray.size]; omega), ed]
   exact congrArg some (app_mk _ _)
theorem digits_calls (n : Nat) (hn : n ≤ 4294967295) (w : World) : Calls Tryz.prog 62 #[.int .i64 n] w fun e w' => e = .returned (.string ⟨(Go.Lib.decDigits n).toArray⟩) ∧ Below w.heap.size w w' :=
 ropelineref06_Digits.calls 11 n _ w (digits_f 10 n (by omega) hn)
theorem digits_int {v : Int} (h0 : 0 ≤ v) (h1 : v ≤ 4294967295) (w : World) : Calls Tryz.prog 62 #[.int .i64 v] w fun e w' => e = .returned (.string ⟨(dec v).toArray⟩) ∧ Below w.heap.size w w' := by
 have := digits_calls v.toNat (by omega) w
 rw [show ((v.toNat : Nat) : Int) = v by omega] at this
 exact this
theorem dec_le10 {v : Int} (h1 : v ≤ 4294967295) : (dec v).length ≤ 10 := dec_len10 _ (by omega)

set_option maxHeartbeats 400000 in
theorem r_calls {v : Int} (h0 : 0 ≤ v) (h1 : v ≤ 4294967295) (w : World) : Calls Tryz.prog 98 #[.int .i64 v] w fun e w' => e = .returned (.string ⟨(32 :: 114 :: dec v).toArray⟩) ∧ Below w.heap.size w w' := by
 have hl := dec_le10 h1
 have hz : ((⟨(dec v).toArray⟩ : ByteArray)).size = (dec v).length := by simp [ByteArray.size]
 have hb : ¬ 9223372036854775807 < 2 + (dec v).length := by omega
 have C := Aside0.mk (fun W => digits_int h0 h1 W)
 have ea : (⟨#[32, 114]⟩ : ByteArray) ++ ⟨(dec v).toArray⟩ = ⟨(32 :: 114 :: dec v).toArray⟩ := app_mk [32, 114] (dec v)
 go_enter Tryz.func98, Tryz.ntmps98
 go_wp2_with fail
 refine (C.out _).mono ?_
 rintro e w1 ⟨rfl, hb1⟩
 go_wp2_with fail
 go_ret
 exact ⟨rfl, hb1⟩
end Go.Proofs.YtbhpkeiofajbpaaGreatDoor
end
/- A document's instruction in a cell block of its own. -/
section
namespace Go.Proofs.YtbhpkeiofajbpaaGreatDoor
open Go.RowKit Go.Proofs.YtbhpkeiofajbpaaGreatDoorW.PrintWords
set_option linter.unusedVariables false
set_option linter.unusedSimpArgs false

abbrev RB (w W : World) (op d s t u a k q : Int) : Prop := Aside0 (W.heap[w.heap.size]? = some (.cells (In.cs ⟨op, d, s, t, u, a, k, q⟩) 114 (0, 0)) ∧ Below w.heap.size w W) ∧ W.cell? ⟨w.heap.size, 0, none⟩ = some (.int .i64 op) ∧ W.cell? ⟨w.heap.size, 1, none⟩ = some (.int .i64 d) ∧ W.cell? ⟨w.heap.size, 2, none⟩ = some (.int .i64 s) ∧ W.cell? ⟨w.heap.size, 3, none⟩ = some (.int .i64 t) ∧ W.cell? ⟨w.heap.size, 4, none⟩ = some (.int .i64 u) ∧ W.cell? ⟨w.heap.size, 5, none⟩ = some (.int .i64 a) ∧ W.cell? ⟨w.heap.size, 6, none⟩ = some (.int .u32 k) ∧ W.cell? ⟨w.heap.size, 7, none⟩ = some (.int .i64 q)
theorem rbox_cells {w W : World} {op d s t u a k q : Int} (h : W.heap[w.heap.size]? = some (.cells (In.cs ⟨op, d, s, t, u, a, k, q⟩) 114 (0, 0)) ∧ Below w.heap.size w W) : RB w W op d s t u a k q :=
 ⟨⟨h⟩, (blk_cell h.1 0).trans rfl, (blk_cell h.1 1).trans rfl, (blk_cell h.1 2).trans rfl, (blk_cell h.1 3).trans rfl, (blk_cell h.1 4).trans rfl, (blk_cell h.1 5).trans rfl, (blk_cell h.1 6).trans rfl, (blk_cell h.1 7).trans rfl⟩
theorem rbox_start (w : World) (op d s t u a k q : Int) : RB w (w.alloc (.cells (In.cs ⟨op, d, s, t, u, a, k, q⟩) 114)).drew op d s t u a k q :=
 rbox_cells ⟨blk_drew (blk_new w (.cells (In.cs ⟨op, d, s, t, u, a, k, q⟩) 114)), below_drew ((Below.refl w.heap.size w).alloc (Nat.le_refl _) _)⟩
theorem rbox_next {w W W1 : World} {op d s t u a k q : Int} (hb : Below W.heap.size W W1) (h : RB w W op d s t u a k q) : RB w W1 op d s t u a k q := rbox_cells ⟨blk_keep hb h.1.out.1, h.1.out.2.trans (hb.mono h.1.out.2.size)⟩
theorem sp_mk : (⟨#[32]⟩ : ByteArray) = ⟨[32].toArray⟩ := rfl
theorem rt_facts {op d s t u a k q : Int} (hf : In.fits ⟨op, d, s, t, u, a, k, q⟩) :
  Aside0 (∀ W, Calls Tryz.prog 62 #[.int .i64 k] W fun e w' => e = .returned (.string ⟨(dec k).toArray⟩) ∧ Below W.heap.size W w') ∧ Aside0 (∀ W, Calls Tryz.prog 62 #[.int .i64 a] W fun e w' => e = .returned (.string ⟨(dec a).toArray⟩) ∧ Below W.heap.size W w') ∧
  IntKind.i64.wrap k = k ∧ (¬ 9223372036854775807 < 1 + (dec k).length) ∧ (¬ 9223372036854775807 < 1 + (dec a).length) ∧
  Aside0 (0 ≤ q → Aside0 (∀ W, Calls Tryz.prog 62 #[.int .i64 q] W fun e w' => e = .returned (.string ⟨(dec q).toArray⟩) ∧ Below W.heap.size W w') ∧ ¬ 9223372036854775807 < 1 + (dec q).length) ∧
  (dec d).length ≤ 10 ∧ (dec s).length ≤ 10 ∧ (dec t).length ≤ 10 ∧ (dec u).length ≤ 10 ∧ (dec k).length ≤ 10 ∧ (dec a).length ≤ 10 ∧ (dec q).length ≤ 10 := by
 have hk : 0 ≤ k ∧ k ≤ 4294967295 := hf.k
 have l7 : ∀ {x : Int}, x ≤ 7 → (dec x).length ≤ 10 := fun h => dec_le10 (Int.le_trans h (by decide))
 have lk := dec_le10 hf.k.2
 have la := l7 hf.a.2
 have lq := dec_le10 (Int.le_trans hf.q.2 (show (1073741824 : Int) ≤ 4294967295 by decide))
 dsimp only at lk la lq
 exact ⟨⟨fun W => digits_int hf.k.1 hf.k.2 W⟩, ⟨fun W => digits_int hf.a.1 (Int.le_trans hf.a.2 (by decide)) W⟩, by rw [IntKind.wrap_i64]; omega, by omega, by omega,
  ⟨fun hq => ⟨⟨fun W => digits_int hq (Int.le_trans hf.q.2 (by decide)) W⟩, by omega⟩⟩, l7 hf.d.2, l7 hf.s.2, l7 hf.t.2, l7 hf.u.2, lk, la, lq⟩
end Go.Proofs.YtbhpkeiofajbpaaGreatDoor
end

/- AsmAssembles: the law: true, whatever the text; the memory that was there is as it was. Written by gen_lawasm.py. -/
import Derived.Test.YtbhpkeiofajbpaaGreatDoorBAsmRight
import Derived.Test.YtbhpkeiofajbpaaGreatDoorB45
import Derived.Test.YtbhpkeiofajbpaaGreatDoorB26
namespace Go.Proofs.YtbhpkeiofajbpaaGreatDoor
open Go.RowKit Go.Proofs.YtbhpkeiofajbpaaGreatDoorW.PrintWords
set_option linter.unusedVariables false
set_option linter.unusedSimpArgs false

theorem asm_few (t : List UInt8) : (asmF t).1.l.length ≤ 64 := by
 rw [asm_both]
 have hx := rall_in (linesF t) 0 Src.zero ⟨rfl, rfl, by simp [Src.zero], fun p hp => by simp [Src.zero] at hp⟩
 unfold rasmF
 dsimp only
 generalize rallF (linesF t) 0 Src.zero = R at hx ⊢
 by_cases h0 : R.2.2 ≠ 0
 ·rw [if_pos h0]; simp [Pg.zero]
 ·rw [if_neg h0]
  cases hf : rfixF R.1.labels R.1.l.length R.1.l R.1.names R.1.rows with
  | inr e => simp [Pg.zero]
  | inl k =>
   dsimp only
   by_cases hl : rfindF R.1.labels [108, 111, 99, 107] R.1.l.length < 0 ∨ rfindF R.1.labels [117, 110, 108, 111, 99, 107] R.1.l.length < 0
   ·rw [if_pos hl]; simp [Pg.zero]
   ·rw [if_neg hl]
    dsimp only
    rw [(rfix_in _ _ _ _ _ _ hx.n hx.r hx.a hf).1]
    exact hx.z
/-- What the law's last region loads: two programs' boxes. -/
abbrev c3S (W5 : World) (p q : Nat) (va vb : Value) (l u : Int) (W : World) : Prop :=
 Aside0 (Below W5.heap.size W5 W) ∧ (W.cell? ⟨p, 0, none⟩ = some va ∧ W.cell? ⟨p, 1, none⟩ = some (.int .i64 l) ∧ W.cell? ⟨p, 2, none⟩ = some (.int .i64 u)) ∧ W.cell? ⟨q, 0, none⟩ = some vb ∧ W.cell? ⟨q, 1, none⟩ = some (.int .i64 l) ∧ W.cell? ⟨q, 2, none⟩ = some (.int .i64 u)
theorem c3_next {W5 W W1 : World} {p q : Nat} {va vb : Value} {l u : Int} (hb : Below W.heap.size W W1) (h : c3S W5 p q va vb l u W) : c3S W5 p q va vb l u W1 :=
 ⟨⟨h.1.out.trans (hb.mono h.1.out.size)⟩, ⟨cell_keep hb h.2.1.1, cell_keep hb h.2.1.2.1, cell_keep hb h.2.1.2.2⟩, cell_keep hb h.2.2.1, cell_keep hb h.2.2.2.1, cell_keep hb h.2.2.2.2⟩

set_option maxHeartbeats 8000000 in
set_option maxRecDepth 100000 in
theorem law_assembles (t : List UInt8) (w : World) (he : Env w) : Calls Tryz.prog 9 #[.string ⟨t.toArray⟩] w fun e w' => e = .returned (.bool true) ∧ Below w.heap.size w w' := by
 have AW := Aside0.mk (fun (W : World) (heW : Env W) => awake7_calls W heW)
 by_cases hl : 2500 < t.length
 ·have h0 : decide ((2500 : Int) < (t.length : Int)) = true := decide_eq_true (by omega)
  go_enter Tryz.func9, Tryz.ntmps9
  go_wp2_with fail
  refine (AW.out _ he).mono ?_
  rintro e w1 ⟨rfl, hb⟩
  have hb1 := Aside0.mk hb
  clear hb AW
  go_wp2
  go_ret
  exact ⟨rfl, hb1.out⟩
 have h0 : decide ((2500 : Int) < (t.length : Int)) = false := decide_eq_false (by omega)
 have CA := Aside0.mk (asm_calls t w he (by omega))
 have CB := Aside0.mk (fun (W : World) => rasm_at t W (by omega))
 have hfew := asm_few t
 have hright := asm_right t
 generalize asmF t = fin at *
 obtain ⟨⟨xs, lk, uk⟩, line, er⟩ := fin
 dsimp only at CA hfew hright
 replace hright := Aside0.mk hright
 replace hfew := Aside0.mk hfew
 unfold REnd at CB
 dsimp only at CB
 go_enter Tryz.func9, Tryz.ntmps9
 go_wp2_with fail
 refine CA.out.mono ?_
 rintro e w1 ⟨va, rfl, hr, hb⟩
 obtain ⟨A, c, rfl⟩ := (InRow.rd hr).slice
 have hb2 := below_new w1 (.cells #[.slice A xs.length c, .int .i64 lk, .int .i64 uk] 36)
 have bA := blk_new w1 (.cells #[.slice A xs.length c, .int .i64 lk, .int .i64 uk] 36)
 have hB2 := hb.trans (hb2.mono hb.size)
 have rA : InRow (w1.alloc (.cells #[.slice A xs.length c, .int .i64 lk, .int .i64 uk] 36)) w.heap.size (.slice A xs.length c) xs := own_move hr (fun k hk => hb2.block k (own_lt hr k hk))
 obtain ⟨p, hp⟩ : ∃ p, w1.heap.size = p := ⟨_, rfl⟩
 obtain ⟨w2, hw2⟩ : ∃ y, w1.alloc (.cells #[.slice A xs.length c, .int .i64 lk, .int .i64 uk] 36) = y := ⟨_, rfl⟩
 rw [hw2] at rA bA hB2
 rw [hp] at bA
 replace rA := Aside0.mk rA
 replace bA := Aside0.mk bA
 replace hB2 := Aside0.mk hB2
 clear hr hb hb2 CA
 go_upto_region 4 with fail
 try rw [hw2]
 try rw [hp]
 clear hw2 hp
 go_wp2_with fail
 refine (CB.out _).mono ?_
 rintro e w3 ⟨vb, rfl, hr, hb⟩
 obtain ⟨A', c', rfl⟩ := (RfRow.rd hr).slice
 have hb4 := below_new w3 (.cells #[.slice A' xs.length c', .int .i64 lk, .int .i64 uk] 26)
 have bB := blk_new w3 (.cells #[.slice A' xs.length c', .int .i64 lk, .int .i64 uk] 26)
 have hbb := hb.trans (hb4.mono hb.size)
 have hB4 := hB2.out.trans (hbb.mono hB2.out.size)
 have bA4 := blk_keep hbb bA.out
 have qA : InRow (w3.alloc (.cells #[.slice A' xs.length c', .int .i64 lk, .int .i64 uk] 26)) w.heap.size (.slice A xs.length c) xs := own_move rA.out (fun k hk => hbb.block k (own_lt rA.out k hk))
 have sA := (RfRow.rd hr).keep hb4
 obtain ⟨q, hq⟩ : ∃ q, w3.heap.size = q := ⟨_, rfl⟩
 obtain ⟨w4, hw4⟩ : ∃ y, w3.alloc (.cells #[.slice A' xs.length c', .int .i64 lk, .int .i64 uk] 26) = y := ⟨_, rfl⟩
 rw [hw4] at bB hB4 bA4 qA sA
 rw [hq] at bB
 have hall := Aside0.mk (And.intro qA sA)
 replace hB4 := Aside0.mk hB4
 have hS : c3S w4 p q (.slice A xs.length c) (.slice A' xs.length c') lk uk w4.drew := ⟨⟨below_drew (Below.refl _ w4)⟩, ⟨(blk_cell bA4 0).trans rfl, (blk_cell bA4 1).trans rfl, (blk_cell bA4 2).trans rfl⟩, (blk_cell bB 0).trans rfl, (blk_cell bB 1).trans rfl, (blk_cell bB 2).trans rfl⟩
 clear hr hb hb4 hbb bA4 qA sA rA bA hB2 CB bB
 go_upto_region 5 with fail
 try rw [hw4]
 try rw [hq]
 clear hw4 hq
 have RA := Aside0.mk (fun (W : World) (hb : Below w4.heap.size w4 W) => ref7_calls (.slice A xs.length c) lk uk xs W ((InRow.rd hall.out.1).keep hb) (by have := hfew.out; omega))
 have SS := Aside0.mk (fun (W : World) (x : Value) (h1 : RdRow W x xs.length (inCells xs)) (hb : Below w4.heap.size w4 W) => same7_calls x (.slice A' xs.length c') lk uk xs W h1 (hall.out.2.keep hb) (by have := hfew.out; omega))
 have PR := Aside0.mk (fun (W : World) (hb : Below w4.heap.size w4 W) (h0 : er = 0) => pright_calls (.slice A xs.length c) ⟨xs, lk, uk⟩ w.heap.size W (own_move hall.out.1 (fun k hk => hb.block k (own_lt hall.out.1 k hk))) (hright.out h0).2 (hright.out h0).1)
 have hee : (er == er) = true := beq_self_eq_true er
 have hll : (line == line) = true := beq_self_eq_true line
 by_cases h00 : er = 0
 ·have hne : (er != 0) = false := by simp [h00]
  have hne2 : decide (er = 0) = true := decide_eq_true h00
  have PR2 := Aside0.mk (fun (W : World) (hb : Below w4.heap.size w4 W) => PR.out W hb h00)
  dsimp only at PR2
  clear hright hall PR
  subst h00
  refine wp_region_late [] (S := c3S w4 p q (.slice A xs.length c) (.slice A' xs.length c') lk uk) (by kernel_rfl) hS (fun hS0 => ?_)
  clear hS
  obtain ⟨w6, hw6⟩ : ∃ y, w4.drew = y := ⟨_, rfl⟩
  rw [hw6] at hS0 ⊢
  clear hw6
  refine wpAnyL_take (i := 0) (v := ?_) (getw rfl) (by kernel_rfl) (fun _ _ _ h => h) (.inl ⟨by rfl, ?_⟩) (by assumption) ?_
  rotate_left
  ·intro w hSw; obtain ⟨_, ⟨k0, k1, k2⟩, j0, j1, j2⟩ := hSw; go_simp; try with_reducible rfl
  try simp only [Act.put, List.setIfInBounds_toArray, List.set_cons_zero, List.set_cons_succ]
  refine wpAnyL_take (i := 2) (v := ?_) (getw rfl) (by kernel_rfl) (fun _ _ _ h => h) (.inl ⟨by rfl, ?_⟩) (by assumption) ?_
  rotate_left
  ·intro w hSw; obtain ⟨_, ⟨k0, k1, k2⟩, j0, j1, j2⟩ := hSw; go_simp; try with_reducible rfl
  try simp only [Act.put, List.setIfInBounds_toArray, List.set_cons_zero, List.set_cons_succ]
  refine wpAnyL_ready (rs := [1]) (by kernel_rfl) (by simp) ?_
  refine AllReadyL.cons (getw rfl) (fun K hK => ?_) AllReadyL.nil
  go_simp
  go_at_call 28
  refine (RA.out _ hS0.1.out).mono ?_
  rintro e w7 ⟨va1, rfl, hr1, hb1⟩
  obtain ⟨X1, y1, z1, rfl⟩ := own_slice hr1
  have hS1 := c3_next hb1 hS0
  replace hr1 := Aside0.mk (RfRow.rd hr1)
  clear hS0 hb1 RA
  go_wp2_with fail
  refine hK.out _ _ (fun _ => hS1) (fun _ => ?_)
  try simp only [Act.put, List.setIfInBounds_toArray, List.set_cons_zero, List.set_cons_succ]
  refine wpAnyL_ready (rs := [3]) (by kernel_rfl) (by simp) ?_
  refine AllReadyL.cons (getw rfl) (fun K hK => ?_) AllReadyL.nil
  go_simp
  go_at_call 27
  refine (SS.out _ _ hr1.out hS1.1.out).mono ?_
  rintro e w9 ⟨rfl, hb3⟩
  have hS3 := c3_next hb3 hS1
  clear hS1 hb3 SS hr1
  go_wp2_with fail
  refine hK.out _ _ (fun _ => hS3) (fun _ => ?_)
  try simp only [Act.put, List.setIfInBounds_toArray, List.set_cons_zero, List.set_cons_succ]
  refine wpAnyL_takeY (i := 4) (v := ?_) (getw rfl) (by kernel_rfl) (fun _ _ _ h => h) (.inl ⟨by rfl, ?_⟩) (fun _ => by assumption) ?_
  rotate_left
  ·intro w; go_simp; try with_reducible rfl
  try simp only [Act.put, List.setIfInBounds_toArray, List.set_cons_zero, List.set_cons_succ]
  refine wpAnyL_takeY (i := 5) (v := ?_) (getw rfl) (by kernel_rfl) (fun _ _ _ h => h) (.inl ⟨by rfl, ?_⟩) (fun _ => by assumption) ?_
  rotate_left
  ·intro w; go_simp; try with_reducible rfl
  try simp only [Act.put, List.setIfInBounds_toArray, List.set_cons_zero, List.set_cons_succ]
  refine wpAnyL_takeY (i := 6) (v := ?_) (getw rfl) (by kernel_rfl) (fun _ _ _ h => h) (.inl ⟨by rfl, ?_⟩) (fun _ => by assumption) ?_
  rotate_left
  ·intro w; go_simp; try with_reducible rfl
  try simp only [Act.put, List.setIfInBounds_toArray, List.set_cons_zero, List.set_cons_succ]
  refine wpAnyL_takeY (i := 7) (v := ?_) (getw rfl) (by kernel_rfl) (fun _ _ _ h => h) (.inl ⟨by rfl, ?_⟩) (fun _ => by assumption) ?_
  rotate_left
  ·intro w; go_simp; try with_reducible rfl
  try simp only [Act.put, List.setIfInBounds_toArray, List.set_cons_zero, List.set_cons_succ]
  refine wpAnyL_takeY (i := 8) (v := ?_) (getw rfl) (by kernel_rfl) (fun _ _ _ h => h) (.inl ⟨by rfl, ?_⟩) (fun _ => by assumption) ?_
  rotate_left
  ·intro w; go_simp; try with_reducible rfl
  try simp only [Act.put, List.setIfInBounds_toArray, List.set_cons_zero, List.set_cons_succ]
  refine wpAnyL_takeY (i := 9) (v := ?_) (getw rfl) (by kernel_rfl) (fun _ _ _ h => h) (.inl ⟨by rfl, ?_⟩) (fun _ => by assumption) ?_
  rotate_left
  ·intro w; go_simp; try with_reducible rfl
  try simp only [Act.put, List.setIfInBounds_toArray, List.set_cons_zero, List.set_cons_succ]
  refine wpAnyL_takeY (i := 10) (v := ?_) (getw rfl) (by kernel_rfl) (fun _ _ _ h => h) (.inl ⟨by rfl, ?_⟩) (fun _ => by assumption) ?_
  rotate_left
  ·intro w; go_simp; try with_reducible rfl
  try simp only [Act.put, List.setIfInBounds_toArray, List.set_cons_zero, List.set_cons_succ]
  refine wpAnyL_takeY (i := 11) (v := ?_) (getw rfl) (by kernel_rfl) (fun _ _ _ h => h) (.inl ⟨by rfl, ?_⟩) (fun _ => by assumption) ?_
  rotate_left
  ·intro w; go_simp; try with_reducible rfl
  try simp only [Act.put, List.setIfInBounds_toArray, List.set_cons_zero, List.set_cons_succ]
  refine wpAnyL_takeY (i := 12) (v := ?_) (getw rfl) (by kernel_rfl) (fun _ _ _ h => h) (.inl ⟨by rfl, ?_⟩) (fun _ => by assumption) ?_
  rotate_left
  ·intro w; go_simp; try with_reducible rfl
  try simp only [Act.put, List.setIfInBounds_toArray, List.set_cons_zero, List.set_cons_succ]
  refine wpAnyL_takeY (i := 13) (v := ?_) (getw rfl) (by kernel_rfl) (fun _ _ _ h => h) (.inl ⟨by rfl, ?_⟩) (fun _ => by assumption) ?_
  rotate_left
  ·intro w; go_simp; try with_reducible rfl
  try simp only [Act.put, List.setIfInBounds_toArray, List.set_cons_zero, List.set_cons_succ]
  refine wpAnyL_takeY (i := 14) (v := ?_) (getw rfl) (by kernel_rfl) (fun _ _ _ h => h) (.inl ⟨by rfl, ?_⟩) (fun _ => by assumption) ?_
  rotate_left
  ·intro w; go_simp; try with_reducible rfl
  try simp only [Act.put, List.setIfInBounds_toArray, List.set_cons_zero, List.set_cons_succ]
  refine wpAnyL_takeY (i := 15) (v := ?_) (getw rfl) (by kernel_rfl) (fun _ _ _ h => h) (.inl ⟨by rfl, ?_⟩) (fun _ => by assumption) ?_
  rotate_left
  ·intro w; go_simp; try with_reducible rfl
  try simp only [Act.put, List.setIfInBounds_toArray, List.set_cons_zero, List.set_cons_succ]
  refine wpAnyL_takeY (i := 16) (v := ?_) (getw rfl) (by kernel_rfl) (fun _ _ _ h => h) (.inl ⟨by rfl, ?_⟩) (fun _ => by assumption) ?_
  rotate_left
  ·intro w; go_simp; try with_reducible rfl
  try simp only [Act.put, List.setIfInBounds_toArray, List.set_cons_zero, List.set_cons_succ]
  refine wpAnyL_takeY (i := 17) (v := ?_) (getw rfl) (by kernel_rfl) (fun _ _ _ h => h) (.inl ⟨by rfl, ?_⟩) (fun _ => by assumption) ?_
  rotate_left
  ·intro w; go_simp; try with_reducible rfl
  try simp only [Act.put, List.setIfInBounds_toArray, List.set_cons_zero, List.set_cons_succ]
  refine wpAnyL_take (i := 18) (v := ?_) (getw rfl) (by kernel_rfl) (fun _ _ _ h => h) (.inl ⟨by rfl, ?_⟩) (by assumption) ?_
  rotate_left
  ·intro w hSw; obtain ⟨_, ⟨k0, k1, k2⟩, j0, j1, j2⟩ := hSw; go_simp; try with_reducible rfl
  try simp only [Act.put, List.setIfInBounds_toArray, List.set_cons_zero, List.set_cons_succ]
  refine wpAnyL_ready (rs := [19]) (by kernel_rfl) (by simp) ?_
  refine AllReadyL.cons (getw rfl) (fun K hK => ?_) AllReadyL.nil
  go_simp
  go_at_call 29
  refine (PR2.out _ hS3.1.out).mono ?_
  rintro e w11 ⟨rfl, hb4⟩
  have hS4 := c3_next hb4 hS3
  clear hS3 hb4 PR2
  go_wp2_with fail
  refine hK.out _ _ (fun _ => hS4) (fun _ => ?_)
  try simp only [Act.put, List.setIfInBounds_toArray, List.set_cons_zero, List.set_cons_succ]
  refine wpAnyL_takeY (i := 20) (v := ?_) (getw rfl) (by kernel_rfl) (fun _ _ _ h => h) (.inl ⟨by rfl, ?_⟩) (fun _ => by assumption) ?_
  rotate_left
  ·intro w; go_simp; try with_reducible rfl
  try simp only [Act.put, List.setIfInBounds_toArray, List.set_cons_zero, List.set_cons_succ]
  refine wpAnyL_takeY (i := 21) (v := ?_) (getw rfl) (by kernel_rfl) (fun _ _ _ h => h) (.inl ⟨by rfl, ?_⟩) (fun _ => by assumption) ?_
  rotate_left
  ·intro w; go_simp; try with_reducible rfl
  try simp only [Act.put, List.setIfInBounds_toArray, List.set_cons_zero, List.set_cons_succ]
  refine wpAnyL_takeY (i := 22) (v := ?_) (getw rfl) (by kernel_rfl) (fun _ _ _ h => h) (.inl ⟨by rfl, ?_⟩) (fun _ => by assumption) ?_
  rotate_left
  ·intro w; go_simp; try with_reducible rfl
  try simp only [Act.put, List.setIfInBounds_toArray, List.set_cons_zero, List.set_cons_succ]
  refine wpAnyL_ready (rs := [23]) (by kernel_rfl) (by simp) ?_
  refine AllReadyL.cons (getw rfl) (fun K hK => ?_) AllReadyL.nil
  go_simp
  go_at_call 24
  refine (AW.out _ (he.below (hB4.out.trans (hS4.1.out.mono hB4.out.size)))).mono ?_
  rintro e w12 ⟨rfl, hb5⟩
  have hS5 := c3_next hb5 hS4
  clear hS4 hb5 AW
  go_wp2_with fail
  refine hK.out _ _ (fun _ => hS5) (fun _ => ?_)
  try simp only [Act.put, List.setIfInBounds_toArray, List.set_cons_zero, List.set_cons_succ]
  refine wpAnyL_takeY (i := 24) (v := ?_) (getw rfl) (by kernel_rfl) (fun _ _ _ h => h) (.inl ⟨by rfl, ?_⟩) (fun _ => by assumption) ?_
  rotate_left
  ·intro w; go_simp; try with_reducible rfl
  try simp only [Act.put, List.setIfInBounds_toArray, List.set_cons_zero, List.set_cons_succ]
  refine wpAnyL_takeY (i := 25) (v := ?_) (getw rfl) (by kernel_rfl) (fun _ _ _ h => h) (.inl ⟨by rfl, ?_⟩) (fun _ => by assumption) ?_
  rotate_left
  ·intro w; go_simp; try with_reducible rfl
  try simp only [Act.put, List.setIfInBounds_toArray, List.set_cons_zero, List.set_cons_succ]
  refine wpAnyL_done (by kernel_rfl) ?_ _
  have hfin := Aside0.mk (hB4.out.trans (hS5.1.out.mono hB4.out.size))
  clear hS5 hB4
  go_wp2
  go_ret
  exact ⟨rfl, hfin.out⟩
 ·have hne : (er != 0) = true := by simp [h00]
  have hne2 : decide (er = 0) = false := decide_eq_false h00
  clear hright hall PR
  refine wp_region_late [] (S := c3S w4 p q (.slice A xs.length c) (.slice A' xs.length c') lk uk) (by kernel_rfl) hS (fun hS0 => ?_)
  clear hS
  obtain ⟨w6, hw6⟩ : ∃ y, w4.drew = y := ⟨_, rfl⟩
  rw [hw6] at hS0 ⊢
  clear hw6
  refine wpAnyL_take (i := 0) (v := ?_) (getw rfl) (by kernel_rfl) (fun _ _ _ h => h) (.inl ⟨by rfl, ?_⟩) (by assumption) ?_
  rotate_left
  ·intro w hSw; obtain ⟨_, ⟨k0, k1, k2⟩, j0, j1, j2⟩ := hSw; go_simp; try with_reducible rfl
  try simp only [Act.put, List.setIfInBounds_toArray, List.set_cons_zero, List.set_cons_succ]
  refine wpAnyL_take (i := 2) (v := ?_) (getw rfl) (by kernel_rfl) (fun _ _ _ h => h) (.inl ⟨by rfl, ?_⟩) (by assumption) ?_
  rotate_left
  ·intro w hSw; obtain ⟨_, ⟨k0, k1, k2⟩, j0, j1, j2⟩ := hSw; go_simp; try with_reducible rfl
  try simp only [Act.put, List.setIfInBounds_toArray, List.set_cons_zero, List.set_cons_succ]
  refine wpAnyL_ready (rs := [1]) (by kernel_rfl) (by simp) ?_
  refine AllReadyL.cons (getw rfl) (fun K hK => ?_) AllReadyL.nil
  go_simp
  go_at_call 28
  refine (RA.out _ hS0.1.out).mono ?_
  rintro e w7 ⟨va1, rfl, hr1, hb1⟩
  obtain ⟨X1, y1, z1, rfl⟩ := own_slice hr1
  have hS1 := c3_next hb1 hS0
  replace hr1 := Aside0.mk (RfRow.rd hr1)
  clear hS0 hb1 RA
  go_wp2_with fail
  refine hK.out _ _ (fun _ => hS1) (fun _ => ?_)
  try simp only [Act.put, List.setIfInBounds_toArray, List.set_cons_zero, List.set_cons_succ]
  refine wpAnyL_ready (rs := [3]) (by kernel_rfl) (by simp) ?_
  refine AllReadyL.cons (getw rfl) (fun K hK => ?_) AllReadyL.nil
  go_simp
  go_at_call 27
  refine (SS.out _ _ hr1.out hS1.1.out).mono ?_
  rintro e w9 ⟨rfl, hb3⟩
  have hS3 := c3_next hb3 hS1
  clear hS1 hb3 SS hr1
  go_wp2_with fail
  refine hK.out _ _ (fun _ => hS3) (fun _ => ?_)
  try simp only [Act.put, List.setIfInBounds_toArray, List.set_cons_zero, List.set_cons_succ]
  refine wpAnyL_takeY (i := 4) (v := ?_) (getw rfl) (by kernel_rfl) (fun _ _ _ h => h) (.inl ⟨by rfl, ?_⟩) (fun _ => by assumption) ?_
  rotate_left
  ·intro w; go_simp; try with_reducible rfl
  try simp only [Act.put, List.setIfInBounds_toArray, List.set_cons_zero, List.set_cons_succ]
  refine wpAnyL_takeY (i := 5) (v := ?_) (getw rfl) (by kernel_rfl) (fun _ _ _ h => h) (.inl ⟨by rfl, ?_⟩) (fun _ => by assumption) ?_
  rotate_left
  ·intro w; go_simp; try with_reducible rfl
  try simp only [Act.put, List.setIfInBounds_toArray, List.set_cons_zero, List.set_cons_succ]
  refine wpAnyL_takeY (i := 6) (v := ?_) (getw rfl) (by kernel_rfl) (fun _ _ _ h => h) (.inl ⟨by rfl, ?_⟩) (fun _ => by assumption) ?_
  rotate_left
  ·intro w; go_simp; try with_reducible rfl
  try simp only [Act.put, List.setIfInBounds_toArray, List.set_cons_zero, List.set_cons_succ]
  refine wpAnyL_takeY (i := 7) (v := ?_) (getw rfl) (by kernel_rfl) (fun _ _ _ h => h) (.inl ⟨by rfl, ?_⟩) (fun _ => by assumption) ?_
  rotate_left
  ·intro w; go_simp; try with_reducible rfl
  try simp only [Act.put, List.setIfInBounds_toArray, List.set_cons_zero, List.set_cons_succ]
  refine wpAnyL_takeY (i := 8) (v := ?_) (getw rfl) (by kernel_rfl) (fun _ _ _ h => h) (.inl ⟨by rfl, ?_⟩) (fun _ => by assumption) ?_
  rotate_left
  ·intro w; go_simp; try with_reducible rfl
  try simp only [Act.put, List.setIfInBounds_toArray, List.set_cons_zero, List.set_cons_succ]
  refine wpAnyL_takeY (i := 9) (v := ?_) (getw rfl) (by kernel_rfl) (fun _ _ _ h => h) (.inl ⟨by rfl, ?_⟩) (fun _ => by assumption) ?_
  rotate_left
  ·intro w; go_simp; try with_reducible rfl
  try simp only [Act.put, List.setIfInBounds_toArray, List.set_cons_zero, List.set_cons_succ]
  refine wpAnyL_takeY (i := 10) (v := ?_) (getw rfl) (by kernel_rfl) (fun _ _ _ h => h) (.inl ⟨by rfl, ?_⟩) (fun _ => by assumption) ?_
  rotate_left
  ·intro w; go_simp; try with_reducible rfl
  try simp only [Act.put, List.setIfInBounds_toArray, List.set_cons_zero, List.set_cons_succ]
  refine wpAnyL_takeY (i := 11) (v := ?_) (getw rfl) (by kernel_rfl) (fun _ _ _ h => h) (.inl ⟨by rfl, ?_⟩) (fun _ => by assumption) ?_
  rotate_left
  ·intro w; go_simp; try with_reducible rfl
  try simp only [Act.put, List.setIfInBounds_toArray, List.set_cons_zero, List.set_cons_succ]
  refine wpAnyL_takeY (i := 12) (v := ?_) (getw rfl) (by kernel_rfl) (fun _ _ _ h => h) (.inl ⟨by rfl, ?_⟩) (fun _ => by assumption) ?_
  rotate_left
  ·intro w; go_simp; try with_reducible rfl
  try simp only [Act.put, List.setIfInBounds_toArray, List.set_cons_zero, List.set_cons_succ]
  refine wpAnyL_takeY (i := 13) (v := ?_) (getw rfl) (by kernel_rfl) (fun _ _ _ h => h) (.inl ⟨by rfl, ?_⟩) (fun _ => by assumption) ?_
  rotate_left
  ·intro w; go_simp; try with_reducible rfl
  try simp only [Act.put, List.setIfInBounds_toArray, List.set_cons_zero, List.set_cons_succ]
  refine wpAnyL_takeY (i := 14) (v := ?_) (getw rfl) (by kernel_rfl) (fun _ _ _ h => h) (.inl ⟨by rfl, ?_⟩) (fun _ => by assumption) ?_
  rotate_left
  ·intro w; go_simp; try with_reducible rfl
  try simp only [Act.put, List.setIfInBounds_toArray, List.set_cons_zero, List.set_cons_succ]
  refine wpAnyL_takeY (i := 15) (v := ?_) (getw rfl) (by kernel_rfl) (fun _ _ _ h => h) (.inl ⟨by rfl, ?_⟩) (fun _ => by assumption) ?_
  rotate_left
  ·intro w; go_simp; try with_reducible rfl
  try simp only [Act.put, List.setIfInBounds_toArray, List.set_cons_zero, List.set_cons_succ]
  refine wpAnyL_takeY (i := 16) (v := ?_) (getw rfl) (by kernel_rfl) (fun _ _ _ h => h) (.inl ⟨by rfl, ?_⟩) (fun _ => by assumption) ?_
  rotate_left
  ·intro w; go_simp; try with_reducible rfl
  try simp only [Act.put, List.setIfInBounds_toArray, List.set_cons_zero, List.set_cons_succ]
  refine wpAnyL_takeY (i := 17) (v := ?_) (getw rfl) (by kernel_rfl) (fun _ _ _ h => h) (.inl ⟨by rfl, ?_⟩) (fun _ => by assumption) ?_
  rotate_left
  ·intro w; go_simp; try with_reducible rfl
  try simp only [Act.put, List.setIfInBounds_toArray, List.set_cons_zero, List.set_cons_succ]
  refine wpAnyL_takeY (i := 18) (v := undef) (getw rfl) (by kernel_rfl) (fun _ _ _ h => h) (.inr ⟨by rfl, by rfl⟩) (fun _ => by assumption) ?_
  try simp only [Act.put, List.setIfInBounds_toArray, List.set_cons_zero, List.set_cons_succ]
  refine wpAnyL_takeY (i := 19) (v := undef) (getw rfl) (by kernel_rfl) (fun _ _ _ h => h) (.inr ⟨by rfl, by rfl⟩) (fun _ => by assumption) ?_
  try simp only [Act.put, List.setIfInBounds_toArray, List.set_cons_zero, List.set_cons_succ]
  have hS4 := hS3
  clear hS3
  refine wpAnyL_takeY (i := 20) (v := ?_) (getw rfl) (by kernel_rfl) (fun _ _ _ h => h) (.inl ⟨by rfl, ?_⟩) (fun _ => by assumption) ?_
  rotate_left
  ·intro w; go_simp; try with_reducible rfl
  try simp only [Act.put, List.setIfInBounds_toArray, List.set_cons_zero, List.set_cons_succ]
  refine wpAnyL_takeY (i := 21) (v := ?_) (getw rfl) (by kernel_rfl) (fun _ _ _ h => h) (.inl ⟨by rfl, ?_⟩) (fun _ => by assumption) ?_
  rotate_left
  ·intro w; go_simp; try with_reducible rfl
  try simp only [Act.put, List.setIfInBounds_toArray, List.set_cons_zero, List.set_cons_succ]
  refine wpAnyL_takeY (i := 22) (v := ?_) (getw rfl) (by kernel_rfl) (fun _ _ _ h => h) (.inl ⟨by rfl, ?_⟩) (fun _ => by assumption) ?_
  rotate_left
  ·intro w; go_simp; try with_reducible rfl
  try simp only [Act.put, List.setIfInBounds_toArray, List.set_cons_zero, List.set_cons_succ]
  refine wpAnyL_ready (rs := [23]) (by kernel_rfl) (by simp) ?_
  refine AllReadyL.cons (getw rfl) (fun K hK => ?_) AllReadyL.nil
  go_simp
  go_at_call 24
  refine (AW.out _ (he.below (hB4.out.trans (hS4.1.out.mono hB4.out.size)))).mono ?_
  rintro e w12 ⟨rfl, hb5⟩
  have hS5 := c3_next hb5 hS4
  clear hS4 hb5 AW
  go_wp2_with fail
  refine hK.out _ _ (fun _ => hS5) (fun _ => ?_)
  try simp only [Act.put, List.setIfInBounds_toArray, List.set_cons_zero, List.set_cons_succ]
  refine wpAnyL_takeY (i := 24) (v := ?_) (getw rfl) (by kernel_rfl) (fun _ _ _ h => h) (.inl ⟨by rfl, ?_⟩) (fun _ => by assumption) ?_
  rotate_left
  ·intro w; go_simp; try with_reducible rfl
  try simp only [Act.put, List.setIfInBounds_toArray, List.set_cons_zero, List.set_cons_succ]
  refine wpAnyL_takeY (i := 25) (v := ?_) (getw rfl) (by kernel_rfl) (fun _ _ _ h => h) (.inl ⟨by rfl, ?_⟩) (fun _ => by assumption) ?_
  rotate_left
  ·intro w; go_simp; try with_reducible rfl
  try simp only [Act.put, List.setIfInBounds_toArray, List.set_cons_zero, List.set_cons_succ]
  refine wpAnyL_done (by kernel_rfl) ?_ _
  have hfin := Aside0.mk (hB4.out.trans (hS5.1.out.mono hB4.out.size))
  clear hS5 hB4
  go_wp2
  go_ret
  exact ⟨rfl, hfin.out⟩
end Go.Proofs.YtbhpkeiofajbpaaGreatDoor

/- ClhProgram: whatever the two locks: true; the memory that was there is as it was. Written by gen_prog.py. -/
import Derived.Test.YthhjhbgimdiboaaDoorSpecClh
namespace Go.Proofs.YthhjhbgimdiboaaDoor
open Go.RowKit Go.Proofs.YthhjhbgimdiboaaDoorW.PrintWords
set_option linter.unusedVariables false
set_option linter.unusedSimpArgs false
attribute [local go_sem] field_code

theorem clh_spec (n : Int) (w : World) (he : Env w) : Calls Tryd.prog 27 #[.int .i64 n] w fun e W => ((1 ≤ n ∧ n ≤ 64) ∧ SpecIs w clhT n.toNat e W) ∨ (¬ (1 ≤ n ∧ n ≤ 64) ∧ SpecNo w e W) := by
  by_cases h : 1 ≤ n ∧ n ≤ 64
  · have e : n = (n.toNat : Int) := by omega
    have := clhSpec_ok n.toNat (by omega) (by omega) w he
    rw [← e] at this
    exact this.mono fun e W h1 => .inl ⟨h, h1⟩
  · exact (clhSpec_no n (by omega) w).mono fun e W h1 => .inr ⟨h, h1⟩

set_option maxHeartbeats 8000000 in
set_option maxRecDepth 100000 in
theorem law_clh (n m : Int) (w : World) (he : Env w) : Calls Tryd.prog 10 #[.int .i64 n, .int .i64 m] w fun e w' => e = .returned (.bool true) ∧ Below w.heap.size w w' := by
  have CA := Aside0.mk (fun (W : World) (heW : Env W) => clh_spec n W heW)
  have CB := Aside0.mk (fun (W : World) (heW : Env W) => clh_spec m W heW)
  have AW := Aside0.mk (fun (W : World) (heW : Env W) => awake17_calls W heW)
  have hfew := Aside0.mk clh_few
  obtain ⟨w0, rfl⟩ : ∃ y, y = w := ⟨_, rfl⟩
  have hB0 := Aside0.mk (Below.refl w0.heap.size w0)
  go_enter Tryd.func10, Tryd.ntmps10
  go_wp2_with fail
  refine (CA.out _ (he.below hB0.out)).mono ?_
  rintro e w1 (⟨hokA, va, B, C, D, n1, n2, k1, k2, k3, each, rfl, hr, hb⟩ | ⟨hbad, rfl, hb⟩)
  · have hB1 := hB0.out.trans (hb.mono hB0.out.size)
    obtain ⟨A, m1, c, rfl⟩ := own_slice hr
    have hrA := (InRow.rd hr).keep (below_new w1 (.cells #[.slice A m1 c, .int .i64 (asmF clhT).1.lock, .int .i64 (asmF clhT).1.unlock, .slice B n1 k1, .slice C n2 k2, .int .i64 each, .slice D n.toNat k3] 36))
    have bA := blk_new w1 (.cells #[.slice A m1 c, .int .i64 (asmF clhT).1.lock, .int .i64 (asmF clhT).1.unlock, .slice B n1 k1, .slice C n2 k2, .int .i64 each, .slice D n.toNat k3] 36)
    have hB2 := hB1.alloc hB1.size (.cells #[.slice A m1 c, .int .i64 (asmF clhT).1.lock, .int .i64 (asmF clhT).1.unlock, .slice B n1 k1, .slice C n2 k2, .int .i64 each, .slice D n.toNat k3] 36)
    obtain ⟨p, hp⟩ : ∃ p, w1.heap.size = p := ⟨_, rfl⟩
    obtain ⟨w2, hw2⟩ : ∃ y, w1.alloc (.cells #[.slice A m1 c, .int .i64 (asmF clhT).1.lock, .int .i64 (asmF clhT).1.unlock, .slice B n1 k1, .slice C n2 k2, .int .i64 each, .slice D n.toNat k3] 36) = y := ⟨_, rfl⟩
    rw [hw2] at hrA bA hB2
    rw [hp] at bA
    replace hrA := Aside0.mk hrA
    replace bA := Aside0.mk bA
    replace hB2 := Aside0.mk hB2
    clear hr hb hB1 hokA CA
    go_upto_region 2 with fail
    try rw [hw2]
    try rw [hp]
    clear hw2 hp hB0
    go_wp2_with fail
    refine (CB.out _ (he.below hB2.out)).mono ?_
    rintro e w3 (⟨hokB, vb, B', C', D', n1', n2', k1', k2', k3', each', rfl, hr, hb⟩ | ⟨hbad, rfl, hb⟩)
    · have hB3 := hB2.out.trans (hb.mono hB2.out.size)
      obtain ⟨A', m1', c', rfl⟩ := own_slice hr
      have OB : Below w3.heap.size w3 (w3.alloc (.cells #[.slice A' m1' c', .int .i64 (asmF clhT).1.lock, .int .i64 (asmF clhT).1.unlock, .slice B' n1' k1', .slice C' n2' k2', .int .i64 each', .slice D' m.toNat k3'] 36)) := below_new w3 _
      have hrB := Aside0.mk ((InRow.rd hr).keep OB)
      have bB := Aside0.mk (blk_new w3 (.cells #[.slice A' m1' c', .int .i64 (asmF clhT).1.lock, .int .i64 (asmF clhT).1.unlock, .slice B' n1' k1', .slice C' n2' k2', .int .i64 each', .slice D' m.toNat k3'] 36))
      have hB4 := Aside0.mk (hB3.alloc hB3.size (.cells #[.slice A' m1' c', .int .i64 (asmF clhT).1.lock, .int .i64 (asmF clhT).1.unlock, .slice B' n1' k1', .slice C' n2' k2', .int .i64 each', .slice D' m.toNat k3'] 36))
      replace hrA := Aside0.mk ((hrA.out.keep hb).keep OB)
      replace bA := Aside0.mk (blk_keep OB (blk_keep hb bA.out))
      clear OB hr hb hB3 hokB CB hB2
      obtain ⟨q, hq⟩ : ∃ q, w3.heap.size = q := ⟨_, rfl⟩
      obtain ⟨w5, hw5⟩ : ∃ y, w3.alloc (.cells #[.slice A' m1' c', .int .i64 (asmF clhT).1.lock, .int .i64 (asmF clhT).1.unlock, .slice B' n1' k1', .slice C' n2' k2', .int .i64 each', .slice D' m.toNat k3'] 36) = y := ⟨_, rfl⟩
      rw [hw5] at hrA hrB bA bB hB4
      rw [hq] at bB
      go_upto_region 5 with fail
      try rw [hw5]
      try rw [hq]
      clear hw5 hq
      generalize (asmF clhT).1.lock = lk at *
      generalize (asmF clhT).1.unlock = uk at *
      generalize (asmF clhT).1.l = xs at *
      have he5 := Aside0.mk (he.below hB4.out)
      have RA := Aside0.mk (fun (W : World) (hb : Aside0 (Below w5.heap.size w5 W)) => ref10_calls (.slice A m1 c) lk uk each B C D n1 n2 n.toNat k1 k2 k3 xs W (hrA.out.keep hb.out) hfew.out)
      have RB := Aside0.mk (fun (W : World) (hb : Aside0 (Below w5.heap.size w5 W)) => ref10_calls (.slice A' m1' c') lk uk each' B' C' D' n1' n2' m.toNat k1' k2' k3' xs W (hrB.out.keep hb.out) hfew.out)
      have SS := Aside0.mk (fun (W : World) (x y : Value) (h1 : RdRow W x xs.length (inCells xs)) (h2 : RdRow W y xs.length (inCells xs)) => sameSpec_calls x y (.slice none 0 0) (.slice none 0 0) (.slice none 0 0) (.slice none 0 0) (.slice none 0 0) (.slice none 0 0) lk uk 0 xs [] [] [] W h1 h2 (.nil _) (.nil _) (.nil _) (.nil _) (.nil _) (.nil _) (by have := hfew.out; omega) (by decide) (by decide) (by decide))
      have hS := pg_next (below_drew (Below.refl _ w5)) (pg_of bA.out bB.out)
      refine wp_region_late [] (S := pgS w5 p q (.slice A m1 c) (.slice B n1 k1) (.slice C n2 k2) (.slice D n.toNat k3) (.slice A' m1' c') (.slice B' n1' k1') (.slice C' n2' k2') (.slice D' m.toNat k3') lk uk each each') (by kernel_rfl) hS (fun hS0 => ?_)
      clear hS bA bB hrA hrB hfew
      generalize w5.drew = w6 at *
      refine wpAnyL_take (i := 0) (v := ?_) (getw rfl) (by kernel_rfl) (fun _ _ _ h => h) (.inl ⟨by rfl, ?_⟩) (by assumption) ?_
      rotate_left
      · intro w hSw; obtain ⟨_, ⟨k0, k1, k2, k3, k4, k5, k6⟩, j0, j1, j2, j3, j4, j5, j6⟩ := hSw; go_simp; try with_reducible rfl
      try simp only [Act.put, List.setIfInBounds_toArray, List.set_cons_zero, List.set_cons_succ]
      refine wpAnyL_take (i := 4) (v := ?_) (getw rfl) (by kernel_rfl) (fun _ _ _ h => h) (.inl ⟨by rfl, ?_⟩) (by assumption) ?_
      rotate_left
      · intro w hSw; obtain ⟨_, ⟨k0, k1, k2, k3, k4, k5, k6⟩, j0, j1, j2, j3, j4, j5, j6⟩ := hSw; go_simp; try with_reducible rfl
      try simp only [Act.put, List.setIfInBounds_toArray, List.set_cons_zero, List.set_cons_succ]
      refine wpAnyL_ready (rs := [1]) (by kernel_rfl) (by simp) ?_
      refine AllReadyL.cons (o := ?oqa) ?hoqa (fun K hK => ?_) AllReadyL.nil
      case hoqa => refine getw ?_; rfl
      go_simp
      go_at_call 16
      refine (RA.out _ hS0.1).mono ?_
      rintro e w7 ⟨va1, rfl, hr1, hb1⟩
      obtain ⟨X1, y1, z1, rfl⟩ := own_slice hr1
      have hS1 := pg_next hb1 hS0
      replace hr1 := Aside0.mk (RfRow.rd hr1)
      clear hS0 hb1 RA
      go_wp2_with fail
      refine hK.out _ _ (fun _ => hS1) (fun _ => ?_)
      try simp only [Act.put, List.setIfInBounds_toArray, List.set_cons_zero, List.set_cons_succ]
      refine wpAnyL_takeY (i := 2) (v := ?_) (getw rfl) (by kernel_rfl) (fun _ _ _ h => h) (.inl ⟨by rfl, ?_⟩) (fun _ => by assumption) ?_
      rotate_left
      · intro w; go_simp; try with_reducible rfl
      try simp only [Act.put, List.setIfInBounds_toArray, List.set_cons_zero, List.set_cons_succ]
      refine wpAnyL_takeY (i := 3) (v := ?_) (getw rfl) (by kernel_rfl) (fun _ _ _ h => h) (.inl ⟨by rfl, ?_⟩) (fun _ => by assumption) ?_
      rotate_left
      · intro w; go_simp; try with_reducible rfl
      try simp only [Act.put, List.setIfInBounds_toArray, List.set_cons_zero, List.set_cons_succ]
      refine wpAnyL_ready (rs := [5]) (by kernel_rfl) (by simp) ?_
      refine AllReadyL.cons (o := ?oqb) ?hoqb (fun K hK => ?_) AllReadyL.nil
      case hoqb => refine getw ?_; rfl
      go_simp
      go_at_call 16
      refine (RB.out _ hS1.1).mono ?_
      rintro e w8 ⟨vb1, rfl, hr2, hb2⟩
      obtain ⟨X2, y2, z2, rfl⟩ := own_slice hr2
      have hS2 := pg_next hb2 hS1
      replace hr1 := Aside0.mk (hr1.out.keep hb2)
      replace hr2 := Aside0.mk (RfRow.rd hr2)
      clear hS1 hb2 RB
      go_wp2_with fail
      refine hK.out _ _ (fun _ => hS2) (fun _ => ?_)
      try simp only [Act.put, List.setIfInBounds_toArray, List.set_cons_zero, List.set_cons_succ]
      refine wpAnyL_takeY (i := 6) (v := ?_) (getw rfl) (by kernel_rfl) (fun _ _ _ h => h) (.inl ⟨by rfl, ?_⟩) (fun _ => by assumption) ?_
      rotate_left
      · intro w; go_simp; try with_reducible rfl
      try simp only [Act.put, List.setIfInBounds_toArray, List.set_cons_zero, List.set_cons_succ]
      refine wpAnyL_takeY (i := 7) (v := ?_) (getw rfl) (by kernel_rfl) (fun _ _ _ h => h) (.inl ⟨by rfl, ?_⟩) (fun _ => by assumption) ?_
      rotate_left
      · intro w; go_simp; try with_reducible rfl
      try simp only [Act.put, List.setIfInBounds_toArray, List.set_cons_zero, List.set_cons_succ]
      refine wpAnyL_ready (rs := [8]) (by kernel_rfl) (by simp) ?_
      refine AllReadyL.cons (o := ?oqc) ?hoqc (fun K hK => ?_) AllReadyL.nil
      case hoqc => refine getw ?_; rfl
      go_simp
      go_at_call 15
      refine (SS.out _ _ _ hr1.out hr2.out).mono ?_
      rintro e w9 ⟨rfl, hb3⟩
      have hS3 := pg_next hb3 hS2
      clear hS2 hb3 SS hr1 hr2
      go_wp2_with fail
      refine hK.out _ _ (fun _ => hS3) (fun _ => ?_)
      try simp only [Act.put, List.setIfInBounds_toArray, List.set_cons_zero, List.set_cons_succ]
      refine wpAnyL_takeY (i := 9) (v := ?_) (getw rfl) (by kernel_rfl) (fun _ _ _ h => h) (.inl ⟨by rfl, ?_⟩) (fun _ => by assumption) ?_
      rotate_left
      · intro w; go_simp; try with_reducible rfl
      try simp only [Act.put, List.setIfInBounds_toArray, List.set_cons_zero, List.set_cons_succ]
      refine wpAnyL_ready (rs := [10]) (by kernel_rfl) (by simp) ?_
      refine AllReadyL.cons (o := ?oqd) ?hoqd (fun K hK => ?_) AllReadyL.nil
      case hoqd => refine getw ?_; rfl
      go_simp
      go_at_call 28
      refine (AW.out _ (he5.out.below hS3.1.out)).mono ?_
      rintro e w10 ⟨rfl, hb4⟩
      have hS4 := pg_next hb4 hS3
      clear hS3 hb4 AW
      go_wp2_with fail
      refine hK.out _ _ (fun _ => hS4) (fun _ => ?_)
      try simp only [Act.put, List.setIfInBounds_toArray, List.set_cons_zero, List.set_cons_succ]
      refine wpAnyL_takeY (i := 11) (v := ?_) (getw rfl) (by kernel_rfl) (fun _ _ _ h => h) (.inl ⟨by rfl, ?_⟩) (fun _ => by assumption) ?_
      rotate_left
      · intro w; go_simp; try with_reducible rfl
      try simp only [Act.put, List.setIfInBounds_toArray, List.set_cons_zero, List.set_cons_succ]
      refine wpAnyL_takeY (i := 12) (v := ?_) (getw rfl) (by kernel_rfl) (fun _ _ _ h => h) (.inl ⟨by rfl, ?_⟩) (fun _ => by assumption) ?_
      rotate_left
      · intro w; go_simp; try with_reducible rfl
      try simp only [Act.put, List.setIfInBounds_toArray, List.set_cons_zero, List.set_cons_succ]
      refine wpAnyL_done (by kernel_rfl) ?_ _
      have hfin := Aside0.mk (hB4.out.trans (hS4.1.out.mono hB4.out.size))
      clear hS4 hB4
      go_wp2
      go_ret
      exact ⟨rfl, hfin.out⟩
    · have hB3 := hB2.out.trans (hb.mono hB2.out.size)
      have hB4 := Aside0.mk (hB3.alloc hB3.size (.cells #[.slice none 0 0, .int .i64 0, .int .i64 0, .slice none 0 0, .slice none 0 0, .int .i64 0, .slice none 0 0] 36))
      clear hb hB3 hbad CB hB2 hrA bA
      go_wp2_with fail
      refine (AW.out _ (he.below hB4.out)).mono ?_
      rintro e w9 ⟨rfl, hb4⟩
      replace hB4 := Aside0.mk (hB4.out.trans (hb4.mono hB4.out.size))
      clear hb4 AW
      go_wp2
      go_ret
      exact ⟨rfl, hB4.out⟩
  · have hB1 := hB0.out.trans (hb.mono hB0.out.size)
    have hB2 := Aside0.mk (hB1.alloc hB1.size (.cells #[.slice none 0 0, .int .i64 0, .int .i64 0, .slice none 0 0, .slice none 0 0, .int .i64 0, .slice none 0 0] 36))
    clear hb hB1 hbad CA hB0
    go_wp2_with fail
    refine (CB.out _ (he.below hB2.out)).mono ?_
    rintro e w3 (⟨hokB, vb, B', C', D', n1', n2', k1', k2', k3', each', rfl, hr, hb⟩ | ⟨hbad, rfl, hb⟩)
    · have hB3 := hB2.out.trans (hb.mono hB2.out.size)
      obtain ⟨A', m1', c', rfl⟩ := own_slice hr
      have hB4 := Aside0.mk (hB3.alloc hB3.size (.cells #[.slice A' m1' c', .int .i64 (asmF clhT).1.lock, .int .i64 (asmF clhT).1.unlock, .slice B' n1' k1', .slice C' n2' k2', .int .i64 each', .slice D' m.toNat k3'] 36))
      clear hr hb hB3 hokB CB hB2
      go_wp2_with fail
      refine (AW.out _ (he.below hB4.out)).mono ?_
      rintro e w9 ⟨rfl, hb4⟩
      replace hB4 := Aside0.mk (hB4.out.trans (hb4.mono hB4.out.size))
      clear hb4 AW
      go_wp2
      go_ret
      exact ⟨rfl, hB4.out⟩
    · have hB3 := hB2.out.trans (hb.mono hB2.out.size)
      have hB4 := Aside0.mk (hB3.alloc hB3.size (.cells #[.slice none 0 0, .int .i64 0, .int .i64 0, .slice none 0 0, .slice none 0 0, .int .i64 0, .slice none 0 0] 36))
      clear hb hB3 hbad CB hB2
      go_wp2_with fail
      refine (AW.out _ (he.below hB4.out)).mono ?_
      rintro e w9 ⟨rfl, hb4⟩
      replace hB4 := Aside0.mk (hB4.out.trans (hb4.mono hB4.out.size))
      clear hb4 AW
      go_wp2
      go_ret
      exact ⟨rfl, hB4.out⟩
end Go.Proofs.YthhjhbgimdiboaaDoor

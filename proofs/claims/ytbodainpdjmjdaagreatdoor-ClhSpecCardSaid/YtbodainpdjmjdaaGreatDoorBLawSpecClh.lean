/- ClhSpec: the law: true, whatever the lock; the memory that was there is as it was. Written by gen_lawspec.py. -/
import Derived.Test.YtbodainpdjmjdaaGreatDoorBHasClh
import Derived.Test.YtbodainpdjmjdaaGreatDoorBRefClh
import Derived.Deep.RegionHeld3
namespace Go.Proofs.YtbodainpdjmjdaaGreatDoor
open Go.RowKit Go.Proofs.YtbodainpdjmjdaaGreatDoorW.PrintWords
set_option linter.unusedVariables false
set_option linter.unusedSimpArgs false

theorem pg_of2 {W5 : World} {p q : Nat} {t t' : TypeId} {va sa ia ra vb sb ib rb : Value} {l u ea eb : Int}
  (h1 : W5.heap[p]? = some (.cells #[va, .int .i64 l, .int .i64 u, sa, ia, .int .i64 ea, ra] t (0, 0))) (h2 : W5.heap[q]? = some (.cells #[vb, .int .i64 l, .int .i64 u, sb, ib, .int .i64 eb, rb] t' (0, 0))) : pgS W5 p q va sa ia ra vb sb ib rb l u ea eb W5 :=
 ⟨⟨Below.refl _ _⟩, ⟨(blk_cell h1 0).trans rfl, (blk_cell h1 1).trans rfl, (blk_cell h1 2).trans rfl, (blk_cell h1 3).trans rfl, (blk_cell h1 4).trans rfl, (blk_cell h1 5).trans rfl, (blk_cell h1 6).trans rfl⟩,
  (blk_cell h2 0).trans rfl, (blk_cell h2 1).trans rfl, (blk_cell h2 2).trans rfl, (blk_cell h2 3).trans rfl, (blk_cell h2 4).trans rfl, (blk_cell h2 5).trans rfl, (blk_cell h2 6).trans rfl⟩
theorem clh_both (n : Int) (w : World) (he : Env w) : Calls Tryz.prog 45 #[.int .i64 n] w fun e W => ((1 ≤ n ∧ n ≤ 64) ∧ SpecHas w clhT ([1, (n.toNat : Int) + 1]) (List.replicate (n.toNat + 2) (0 : Int)) ((List.range n.toNat).map fun i : Nat => (i : Int) + 1) (0) e W) ∨ (¬ (1 ≤ n ∧ n ≤ 64) ∧ SpecNo w e W) := by
 by_cases h : 1 ≤ n ∧ n ≤ 64
 ·have h0 := h
  have q0 : n = (n.toNat : Int) := by omega
  have h1 := clhSpec_has n.toNat (by omega) (by omega) w he
  have h2 : Calls Tryz.prog 45 #[.int .i64 n] w fun e W => SpecHas w clhT ([1, (n.toNat : Int) + 1]) (List.replicate (n.toNat + 2) (0 : Int)) ((List.range n.toNat).map fun i : Nat => (i : Int) + 1) (0) e W := by
   have ea : (#[.int .i64 n] : Array Value) = #[.int .i64 (n.toNat : Int)] := by simp only [← q0]
   rw [ea]; exact h1
  exact h2.mono fun e W h3 => .inl ⟨h0, h3⟩
 ·exact (clhSpec_no n (by omega) w).mono fun e W h1 => .inr ⟨h, h1⟩
theorem ref17_both (n : Int) (w : World) : Calls Tryz.prog 46 #[.int .i64 n] w fun e W => ((1 ≤ n ∧ n ≤ 64) ∧ RefHas w clhT ([1, (n.toNat : Int) + 1]) (List.replicate (n.toNat + 2) (0 : Int)) ((List.range n.toNat).map fun i : Nat => (i : Int) + 1) (0) e W) ∨ (¬ (1 ≤ n ∧ n ≤ 64) ∧ RefNo w e W) := by
 by_cases h : 1 ≤ n ∧ n ≤ 64
 ·have h0 := h
  have q0 : n = (n.toNat : Int) := by omega
  have h1 := ref17_has n.toNat (by omega) (by omega) w
  have h2 : Calls Tryz.prog 46 #[.int .i64 n] w fun e W => RefHas w clhT ([1, (n.toNat : Int) + 1]) (List.replicate (n.toNat + 2) (0 : Int)) ((List.range n.toNat).map fun i : Nat => (i : Int) + 1) (0) e W := by
   have ea : (#[.int .i64 n] : Array Value) = #[.int .i64 (n.toNat : Int)] := by simp only [← q0]
   rw [ea]; exact h1
  exact h2.mono fun e W h3 => .inl ⟨h0, h3⟩
 ·exact (ref17_no n (by omega) w).mono fun e W h1 => .inr ⟨h, h1⟩

set_option maxHeartbeats 8000000 in
set_option maxRecDepth 100000 in
theorem law_clhSpec (n : Int) (w : World) (he : Env w) : Calls Tryz.prog 9 #[.int .i64 n] w fun e w' => e = .returned (.bool true) ∧ Below w.heap.size w w' := by
 have CA := Aside0.mk (clh_both n w he)
 have CB := Aside0.mk (fun (W : World) => ref17_both n W)
 have AW := Aside0.mk (fun (W : World) (heW : Env W) => awake17_calls W heW)
 have hfew := Aside0.mk clh_few
 have hTT : (clhT == clhT) = true := beq_self_eq_true _
 go_enter Tryz.func9, Tryz.ntmps9
 go_wp2_with fail
 refine CA.out.mono ?_
 generalize hss : ([1, (n.toNat : Int) + 1] : List Int) = ss at *
 generalize his : (List.replicate (n.toNat + 2) (0 : Int) : List Int) = is at *
 generalize hrs : ((List.range n.toNat).map fun i : Nat => (i : Int) + 1 : List Int) = rs at *
 rintro e w1 (⟨hok, va, vs, vi, vr, rfl, hr, h1, h2, h3, hb⟩ | ⟨hbad, rfl, hb⟩)
 ·have hz : ss.length ≤ 1000000 ∧ is.length ≤ 1000000 ∧ rs.length ≤ 1000000 := by
   subst hss his hrs
   exact ⟨by simp, by simp; omega, by simp; omega⟩
  clear hss his hrs CA
  obtain ⟨A, c, rfl⟩ := (InRow.rd hr).slice
  obtain ⟨B, k1, rfl⟩ := h1.rdn.slice
  obtain ⟨C, k2, rfl⟩ := h2.rdn.slice
  obtain ⟨D, k3, rfl⟩ := h3.rdn.slice
  have hb2 := below_new w1 (.cells #[.slice A (asmF clhT).1.l.length c, .int .i64 (asmF clhT).1.lock, .int .i64 (asmF clhT).1.unlock, .slice B ss.length k1, .slice C is.length k2, .int .i64 (0), .slice D rs.length k3] 29)
  have bA := blk_new w1 (.cells #[.slice A (asmF clhT).1.l.length c, .int .i64 (asmF clhT).1.lock, .int .i64 (asmF clhT).1.unlock, .slice B ss.length k1, .slice C is.length k2, .int .i64 (0), .slice D rs.length k3] 29)
  have hB2 := hb.trans (hb2.mono hb.size)
  have rA := (InRow.rd hr).keep hb2
  have r1 := h1.rdn.keep hb2
  have r2 := h2.rdn.keep hb2
  have r3 := h3.rdn.keep hb2
  obtain ⟨p, hp⟩ : ∃ p, w1.heap.size = p := ⟨_, rfl⟩
  obtain ⟨w2, hw2⟩ : ∃ y, w1.alloc (.cells #[.slice A (asmF clhT).1.l.length c, .int .i64 (asmF clhT).1.lock, .int .i64 (asmF clhT).1.unlock, .slice B ss.length k1, .slice C is.length k2, .int .i64 (0), .slice D rs.length k3] 29) = y := ⟨_, rfl⟩
  rw [hw2] at rA r1 r2 r3 bA hB2
  rw [hp] at bA
  replace rA := Aside0.mk rA
  replace r1 := Aside0.mk r1
  replace r2 := Aside0.mk r2
  replace r3 := Aside0.mk r3
  replace bA := Aside0.mk bA
  replace hB2 := Aside0.mk hB2
  clear hr h1 h2 h3 hb hb2
  go_upto_region 2 with fail
  try rw [hw2]
  try rw [hp]
  clear hw2 hp
  go_wp2_with fail
  refine (CB.out _).mono ?_
  rintro e w3 (⟨_, vb, ws, wi, wr, rfl, hr, h1, h2, h3, hb⟩ | ⟨hbad, rfl, hb⟩)
  ·obtain ⟨A', c', rfl⟩ := (RfRow.rd hr).slice
   obtain ⟨B', k1', rfl⟩ := h1.rdn.slice
   obtain ⟨C', k2', rfl⟩ := h2.rdn.slice
   obtain ⟨D', k3', rfl⟩ := h3.rdn.slice
   have hb4 := below_new w3 (.cells #[.slice A' (asmF clhT).1.l.length c', .int .i64 (asmF clhT).1.lock, .int .i64 (asmF clhT).1.unlock, .slice B' ss.length k1', .slice C' is.length k2', .int .i64 (0), .slice D' rs.length k3'] 37)
   have bB := blk_new w3 (.cells #[.slice A' (asmF clhT).1.l.length c', .int .i64 (asmF clhT).1.lock, .int .i64 (asmF clhT).1.unlock, .slice B' ss.length k1', .slice C' is.length k2', .int .i64 (0), .slice D' rs.length k3'] 37)
   have hbb := hb.trans (hb4.mono hb.size)
   have hB4 := hB2.out.trans (hbb.mono hB2.out.size)
   have bA4 := blk_keep hbb bA.out
   have qA := rA.out.keep hbb
   have q1 := r1.out.keep hbb
   have q2 := r2.out.keep hbb
   have q3 := r3.out.keep hbb
   have sA := (RfRow.rd hr).keep hb4
   have s1 := h1.rdn.keep hb4
   have s2 := h2.rdn.keep hb4
   have s3 := h3.rdn.keep hb4
   obtain ⟨q, hq⟩ : ∃ q, w3.heap.size = q := ⟨_, rfl⟩
   obtain ⟨w4, hw4⟩ : ∃ y, w3.alloc (.cells #[.slice A' (asmF clhT).1.l.length c', .int .i64 (asmF clhT).1.lock, .int .i64 (asmF clhT).1.unlock, .slice B' ss.length k1', .slice C' is.length k2', .int .i64 (0), .slice D' rs.length k3'] 37) = y := ⟨_, rfl⟩
   rw [hw4] at bB hB4 bA4 qA q1 q2 q3 sA s1 s2 s3
   rw [hq] at bB
   have hall := Aside0.mk (And.intro qA (And.intro q1 (And.intro q2 (And.intro q3 (And.intro sA (And.intro s1 (And.intro s2 s3)))))))
   replace hB4 := Aside0.mk hB4
   replace bB := Aside0.mk (And.intro bA4 bB)
   clear hr h1 h2 h3 hb hb4 hbb bA4 qA q1 q2 q3 sA s1 s2 s3 rA r1 r2 r3 bA hB2 CB
   go_upto_region 3 with fail
   try rw [hw4]
   try rw [hq]
   clear hw4 hq
   go_wp2_with fail
   generalize (asmF clhT).1.l = xs at *
   generalize (asmF clhT).1.lock = lk at *
   generalize (asmF clhT).1.unlock = uk at *
   generalize (0 : Int) = each at *
   have hS := pg_next (below_drew (Below.refl _ w4)) (pg_of2 bB.out.1 bB.out.2)
   have RA := Aside0.mk (fun (W : World) (hb : Below w4.heap.size w4 W) => ref10_calls (.slice A xs.length c) lk uk each B C D ss.length is.length rs.length k1 k2 k3 xs W (hall.out.1.keep hb) hfew.out)
   have SS := Aside0.mk (fun (W : World) (x : Value) (h1 : RdRow W x xs.length (inCells xs)) (hb : Below w4.heap.size w4 W) => sameSpec_calls x (.slice A' xs.length c') (.slice B ss.length k1) (.slice B' ss.length k1') (.slice C is.length k2) (.slice C' is.length k2') (.slice D rs.length k3) (.slice D' rs.length k3') lk uk each xs ss is rs W h1 (hall.out.2.2.2.2.1.keep hb)
    (hall.out.2.1.keep hb) (hall.out.2.2.2.2.2.1.keep hb) (hall.out.2.2.1.keep hb) (hall.out.2.2.2.2.2.2.1.keep hb) (hall.out.2.2.2.1.keep hb) (hall.out.2.2.2.2.2.2.2.keep hb) (by have := hfew.out; omega) hz.1 hz.2.1 hz.2.2)
   have CT := Aside0.mk (fun W => clhText_calls W)
   have CR := Aside0.mk (fun W => ref17Text_calls W)
   refine wp_region_late [] (S := pgS w4 p q (.slice A xs.length c) (.slice B ss.length k1) (.slice C is.length k2) (.slice D rs.length k3) (.slice A' xs.length c') (.slice B' ss.length k1') (.slice C' is.length k2') (.slice D' rs.length k3') lk uk each each) (by kernel_rfl) hS (fun hS0 => ?_)
   clear hS bB
   obtain ⟨w6, hw6⟩ : ∃ y, w4.drew = y := ⟨_, rfl⟩
   rw [hw6] at hS0 ⊢
   clear hw6
   refine wpAnyL_takeY (i := 0) (v := ?_) (getw rfl) (by kernel_rfl) (fun _ _ _ h => h) (.inl ⟨by rfl, ?_⟩) (fun _ => by assumption) ?_
   rotate_left
   ·intro w; go_simp; try with_reducible rfl
   try simp only [Act.put, List.setIfInBounds_toArray, List.set_cons_zero, List.set_cons_succ]
   refine wpAnyL_takeY (i := 1) (v := ?_) (getw rfl) (by kernel_rfl) (fun _ _ _ h => h) (.inl ⟨by rfl, ?_⟩) (fun _ => by assumption) ?_
   rotate_left
   ·intro w; go_simp; try with_reducible rfl
   try simp only [Act.put, List.setIfInBounds_toArray, List.set_cons_zero, List.set_cons_succ]
   refine wpAnyL_takeY (i := 2) (v := ?_) (getw rfl) (by kernel_rfl) (fun _ _ _ h => h) (.inl ⟨by rfl, ?_⟩) (fun _ => by assumption) ?_
   rotate_left
   ·intro w; go_simp; try with_reducible rfl
   try simp only [Act.put, List.setIfInBounds_toArray, List.set_cons_zero, List.set_cons_succ]
   refine wpAnyL_take (i := 3) (v := ?_) (getw rfl) (by kernel_rfl) (fun _ _ _ h => h) (.inl ⟨by rfl, ?_⟩) (by assumption) ?_
   rotate_left
   ·intro w hSw; obtain ⟨_, ⟨k0, k1, k2, k3, k4, k5, k6⟩, j0, j1, j2, j3, j4, j5, j6⟩ := hSw; go_simp; try with_reducible rfl
   try simp only [Act.put, List.setIfInBounds_toArray, List.set_cons_zero, List.set_cons_succ]
   refine wpAnyL_take (i := 5) (v := ?_) (getw rfl) (by kernel_rfl) (fun _ _ _ h => h) (.inl ⟨by rfl, ?_⟩) (by assumption) ?_
   rotate_left
   ·intro w hSw; obtain ⟨_, ⟨k0, k1, k2, k3, k4, k5, k6⟩, j0, j1, j2, j3, j4, j5, j6⟩ := hSw; go_simp; try with_reducible rfl
   try simp only [Act.put, List.setIfInBounds_toArray, List.set_cons_zero, List.set_cons_succ]
   refine wpAnyL_ready (rs := [4]) (by kernel_rfl) (by simp) ?_
   refine AllReadyL.cons (getw rfl) (fun K hK => ?_) AllReadyL.nil
   go_simp
   go_at_call 16
   refine (RA.out _ hS0.1.out).mono ?_
   rintro e w7 ⟨va1, rfl, hr1, hb1⟩
   obtain ⟨X1, y1, z1, rfl⟩ := own_slice hr1
   have hS1 := pg_next hb1 hS0
   replace hr1 := Aside0.mk (RfRow.rd hr1)
   clear hS0 hb1 RA
   go_wp2_with fail
   refine hK.out _ _ (fun _ => hS1) (fun _ => ?_)
   try simp only [Act.put, List.setIfInBounds_toArray, List.set_cons_zero, List.set_cons_succ]
   refine wpAnyL_ready (rs := [6]) (by kernel_rfl) (by simp) ?_
   refine AllReadyL.cons (getw rfl) (fun K hK => ?_) AllReadyL.nil
   go_simp
   go_at_call 15
   refine (SS.out _ _ hr1.out hS1.1.out).mono ?_
   rintro e w9 ⟨rfl, hb3⟩
   have hS3 := pg_next hb3 hS1
   clear hS1 hb3 SS hr1
   go_wp2_with fail
   refine hK.out _ _ (fun _ => hS3) (fun _ => ?_)
   try simp only [Act.put, List.setIfInBounds_toArray, List.set_cons_zero, List.set_cons_succ]
   refine wpAnyL_takeY (i := 7) (v := ?_) (getw rfl) (by kernel_rfl) (fun _ _ _ h => h) (.inl ⟨by rfl, ?_⟩) (fun _ => by assumption) ?_
   rotate_left
   ·intro w; go_simp; try with_reducible rfl
   try simp only [Act.put, List.setIfInBounds_toArray, List.set_cons_zero, List.set_cons_succ]
   refine wpAnyL_takeY (i := 8) (v := ?_) (getw rfl) (by kernel_rfl) (fun _ _ _ h => h) (.inl ⟨by rfl, ?_⟩) (fun _ => by assumption) ?_
   rotate_left
   ·intro w; go_simp; try with_reducible rfl
   try simp only [Act.put, List.setIfInBounds_toArray, List.set_cons_zero, List.set_cons_succ]
   refine wpAnyL_ready (rs := [9]) (by kernel_rfl) (by simp) ?_
   refine AllReadyL.cons (getw rfl) (fun K hK => ?_) AllReadyL.nil
   go_simp
   go_at_call 48
   refine (CT.out _).mono ?_
   rintro e w10 ⟨rfl, rfl⟩
   go_wp2_with fail
   refine hK.out _ _ (fun _ => hS3) (fun _ => ?_)
   try simp only [Act.put, List.setIfInBounds_toArray, List.set_cons_zero, List.set_cons_succ]
   refine wpAnyL_ready (rs := [10]) (by kernel_rfl) (by simp) ?_
   refine AllReadyL.cons (getw rfl) (fun K hK => ?_) AllReadyL.nil
   go_simp
   go_at_call 49
   refine (CR.out _).mono ?_
   rintro e w10 ⟨rfl, rfl⟩
   go_wp2_with fail
   refine hK.out _ _ (fun _ => hS3) (fun _ => ?_)
   try simp only [Act.put, List.setIfInBounds_toArray, List.set_cons_zero, List.set_cons_succ]
   refine wpAnyL_takeY (i := 11) (v := ?_) (getw rfl) (by kernel_rfl) (fun _ _ _ h => h) (.inl ⟨by rfl, ?_⟩) (fun _ => by assumption) ?_
   rotate_left
   ·intro w; go_simp; try with_reducible rfl
   try simp only [Act.put, List.setIfInBounds_toArray, List.set_cons_zero, List.set_cons_succ]
   refine wpAnyL_takeY (i := 12) (v := ?_) (getw rfl) (by kernel_rfl) (fun _ _ _ h => h) (.inl ⟨by rfl, ?_⟩) (fun _ => by assumption) ?_
   rotate_left
   ·intro w; go_simp; try with_reducible rfl
   try simp only [Act.put, List.setIfInBounds_toArray, List.set_cons_zero, List.set_cons_succ]
   refine wpAnyL_takeY (i := 13) (v := ?_) (getw rfl) (by kernel_rfl) (fun _ _ _ h => h) (.inl ⟨by rfl, ?_⟩) (fun _ => by assumption) ?_
   rotate_left
   ·intro w; go_simp; try with_reducible rfl
   try simp only [Act.put, List.setIfInBounds_toArray, List.set_cons_zero, List.set_cons_succ]
   refine wpAnyL_ready (rs := [14]) (by kernel_rfl) (by simp) ?_
   refine AllReadyL.cons (getw rfl) (fun K hK => ?_) AllReadyL.nil
   go_simp
   go_at_call 47
   refine (AW.out _ (he.below (hB4.out.trans (hS3.1.out.mono hB4.out.size)))).mono ?_
   rintro e w12 ⟨rfl, hb4⟩
   have hS4 := pg_next hb4 hS3
   clear hS3 hb4 AW
   go_wp2_with fail
   refine hK.out _ _ (fun _ => hS4) (fun _ => ?_)
   try simp only [Act.put, List.setIfInBounds_toArray, List.set_cons_zero, List.set_cons_succ]
   refine wpAnyL_takeY (i := 15) (v := ?_) (getw rfl) (by kernel_rfl) (fun _ _ _ h => h) (.inl ⟨by rfl, ?_⟩) (fun _ => by assumption) ?_
   rotate_left
   ·intro w; go_simp; try with_reducible rfl
   try simp only [Act.put, List.setIfInBounds_toArray, List.set_cons_zero, List.set_cons_succ]
   refine wpAnyL_takeY (i := 16) (v := ?_) (getw rfl) (by kernel_rfl) (fun _ _ _ h => h) (.inl ⟨by rfl, ?_⟩) (fun _ => by assumption) ?_
   rotate_left
   ·intro w; go_simp; try with_reducible rfl
   try simp only [Act.put, List.setIfInBounds_toArray, List.set_cons_zero, List.set_cons_succ]
   refine wpAnyL_done (by kernel_rfl) ?_ _
   have hfin := Aside0.mk (hB4.out.trans (hS4.1.out.mono hB4.out.size))
   clear hS4 hB4
   go_wp2
   go_ret
   exact ⟨rfl, hfin.out⟩
  ·exact absurd hok hbad
 ·have hb2 := below_new w1 (.cells #[.slice none 0 0, .int .i64 0, .int .i64 0, .slice none 0 0, .slice none 0 0, .int .i64 0, .slice none 0 0] 29)
  have bA := blk_new w1 (.cells #[.slice none 0 0, .int .i64 0, .int .i64 0, .slice none 0 0, .slice none 0 0, .int .i64 0, .slice none 0 0] 29)
  have hB2 := hb.trans (hb2.mono hb.size)
  replace bA := Aside0.mk bA
  replace hB2 := Aside0.mk hB2
  clear hb hb2 hss his hrs CA
  go_upto_region 2 with fail
  obtain ⟨p, hp⟩ : ∃ p, w1.heap.size = p := ⟨_, rfl⟩
  obtain ⟨w2, hw2⟩ : ∃ y, w1.alloc (.cells #[.slice none 0 0, .int .i64 0, .int .i64 0, .slice none 0 0, .slice none 0 0, .int .i64 0, .slice none 0 0] 29) = y := ⟨_, rfl⟩
  rw [hw2] at bA hB2
  rw [hp] at bA
  try rw [hw2]
  try rw [hp]
  clear hw2 hp
  go_wp2_with fail
  refine (CB.out _).mono ?_
  rintro e w3 (⟨hok, _⟩ | ⟨_, rfl, hb⟩)
  ·exact absurd hok hbad
  ·have hbb := hb.trans ((below_new w3 (.cells #[.slice none 0 0, .int .i64 0, .int .i64 0, .slice none 0 0, .slice none 0 0, .int .i64 0, .slice none 0 0] 37)).mono hb.size)
   have bA4 := blk_keep hbb bA.out
   have hB4 := hB2.out.trans (hbb.mono hB2.out.size)
   replace hB4 := Aside0.mk hB4
   replace bA4 := Aside0.mk bA4
   clear hb hbb bA hB2 CB
   go_upto_region 3 with fail
   obtain ⟨w4, hw4⟩ : ∃ y, w3.alloc (.cells #[.slice none 0 0, .int .i64 0, .int .i64 0, .slice none 0 0, .slice none 0 0, .int .i64 0, .slice none 0 0] 37) = y := ⟨_, rfl⟩
   rw [hw4] at bA4 hB4
   try rw [hw4]
   clear hw4
   replace bA4 := bA4.out
   have a0 : w4.cell? ⟨p, 0, none⟩ = some (.slice none 0 0) := (blk_cell bA4 0).trans rfl
   have a1 : w4.cell? ⟨p, 1, none⟩ = some (.int .i64 0) := (blk_cell bA4 1).trans rfl
   have a2 : w4.cell? ⟨p, 2, none⟩ = some (.int .i64 0) := (blk_cell bA4 2).trans rfl
   have a3 : w4.cell? ⟨p, 3, none⟩ = some (.slice none 0 0) := (blk_cell bA4 3).trans rfl
   have a4 : w4.cell? ⟨p, 4, none⟩ = some (.slice none 0 0) := (blk_cell bA4 4).trans rfl
   have a5 : w4.cell? ⟨p, 5, none⟩ = some (.int .i64 0) := (blk_cell bA4 5).trans rfl
   have a6 : w4.cell? ⟨p, 6, none⟩ = some (.slice none 0 0) := (blk_cell bA4 6).trans rfl
   clear bA4
   have RA := Aside0.mk (fun (W : World) => ref10_calls (.slice none 0 0) 0 0 0 none none none 0 0 0 0 0 0 [] W (.nil _) (by decide))
   have SS := Aside0.mk (fun (W : World) (x : Value) (h1 : RdRow W x 0 []) => sameSpec_calls x (.slice none 0 0) (.slice none 0 0) (.slice none 0 0) (.slice none 0 0) (.slice none 0 0) (.slice none 0 0) (.slice none 0 0) 0 0 0 [] [] [] [] W h1 (.nil _) (.nil _) (.nil _) (.nil _) (.nil _) (.nil _) (.nil _) (by decide) (by decide) (by decide) (by decide))
   go_wp2_with fail
   refine (RA.out _).mono ?_
   rintro e w7 ⟨va1, rfl, hr1, hb1⟩
   obtain ⟨X1, y1, z1, rfl⟩ := own_slice hr1
   replace hr1 := Aside0.mk (RfRow.rd hr1)
   have hB7 := Aside0.mk (hB4.out.trans (hb1.mono hB4.out.size))
   clear hb1 hB4 RA a0 a1 a2 a3 a4 a5 a6
   go_wp2_with fail
   refine (SS.out _ _ hr1.out).mono ?_
   rintro e w8 ⟨rfl, hb2⟩
   have hB8 := Aside0.mk (hB7.out.trans (hb2.mono hB7.out.size))
   clear hb2 hB7 SS hr1
   go_wp2_with fail
   refine (AW.out _ (he.below hB8.out)).mono ?_
   rintro e w9 ⟨rfl, hb3⟩
   have hB9 := Aside0.mk (hB8.out.trans (hb3.mono hB8.out.size))
   clear hb3 hB8 AW
   go_wp2
   go_ret
   exact ⟨rfl, hB9.out⟩
end Go.Proofs.YtbodainpdjmjdaaGreatDoor

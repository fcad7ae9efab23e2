/- ropelineref17: Text, Spec: the document's lock. Written by gen_refclh.py. -/
import Derived.Test.YtbodainpdjmjdaaGreatDoorB46
import Derived.Test.YtbodainpdjmjdaaGreatDoorBHasClh
namespace Go.Proofs.YtbodainpdjmjdaaGreatDoor
open Go.RowKit Go.Proofs.YtbodainpdjmjdaaGreatDoorW.PrintWords
set_option linter.unusedVariables false
set_option linter.unusedSimpArgs false

set_option maxRecDepth 100000 in
theorem ref17Text_calls (W : World) : Calls Tryz.prog 49 #[] W fun e W' => e = .returned (.string ⟨clhT.toArray⟩) ∧ W' = W := by
 go_enter Tryz.func49, Tryz.ntmps49
 go_wp2
 go_ret
 exact ⟨rfl, rfl⟩

theorem SpR.r7 {w W : World} {N p : Nat} {B C D : Option Addr} {n1 n2 n3 k1 k2 k3 : Nat} {each : Int} (h : SpR w W N p B C D n1 n2 n3 k1 k2 k3 each) (D' : Option Addr) (n3' k3' : Nat) : SpR w (W.setCell ⟨p, 6, none⟩ (.slice D' n3' k3')) N p B C D' n1 n2 n3' k1 k2 k3' each := by
 have hne := h.ne
 exact ⟨h.b.setCell (show N ≤ p by omega) _, (Below.heap_setCell W ⟨p, 6, none⟩ _ _ (show N ≠ p by omega)).trans h.c, blk_set h.q 6 _, h.ne⟩

theorem SpR.grownM {w W W1 : World} {N M p : Nat} {B C D : Option Addr} {n1 n2 n3 k1 k2 k3 : Nat} {each : Int} {v : Value} {xs : List Int} (h : SpR w W N p B C D n1 n2 n3 k1 k2 k3 each) (hM : N ≤ M) (hr : U32Row W M v xs) (hg : W.grownBy W1 v.ownBlock) : SpR w W1 N p B C D n1 n2 n3 k1 k2 k3 each :=
 ⟨h.b.grown hg (Nat.le_of_lt (blk_lt h.c)) (fun k hk => Nat.le_trans hM (own_base hr k hk)), blk_grown h.c hg (own_apart hr h.c (by decide)), blk_grown h.q hg (own_apart hr h.q (by decide)), h.ne⟩

set_option maxHeartbeats 8000000 in
set_option maxRecDepth 100000 in
theorem ref17_has (k : Nat) (h1 : 1 ≤ k) (h2 : k ≤ 64) (w : World) : Calls Tryz.prog 46 #[.int .i64 (k : Int)] w (RefHas w clhT [1, (k : Int) + 1] (List.replicate (k + 2) (0 : Int)) ((List.range k).map fun i : Nat => (i : Int) + 1) 0) := by
 have hd1 : decide ((k : Int) < 1) = false := decide_eq_false (by omega)
 have hd2 : decide ((64 : Int) < (k : Int)) = false := decide_eq_false (by omega)
 have hw0 : IntKind.i64.wrap ((k : Int) + 1) = (k : Int) + 1 := by rw [IntKind.wrap_i64]; omega
 have hw1 : IntKind.i64.wrap ((k : Int) + 2) = (k : Int) + 2 := by rw [IntKind.wrap_i64]; omega
 obtain ⟨cs, hcs, hz, hmk⟩ := mk_u32 (k + 2) (by omega)
 have e2 : ((k + 2 : Nat) : Int) = (k : Int) + 2 := by omega
 rw [e2] at hmk
 clear e2
 replace hz := Aside0.mk hz
 have CT := Aside0.mk (fun W => ref17Text_calls W)
 have CA := Aside0.mk (fun (W : World) => rasm_at clhT W clh_len)
 have hN := blk_new w (.cells #[.slice none 0 0, .int .i64 0, .int .i64 0, .slice none 0 0, .slice none 0 0, .int .i64 0, .slice none 0 0] 37)
 have hb0 := below_new w (.cells #[.slice none 0 0, .int .i64 0, .int .i64 0, .slice none 0 0, .slice none 0 0, .int .i64 0, .slice none 0 0] 37)
 obtain ⟨w0, hw0'⟩ : ∃ y, w.alloc (.cells #[.slice none 0 0, .int .i64 0, .int .i64 0, .slice none 0 0, .slice none 0 0, .int .i64 0, .slice none 0 0] 37) = y := ⟨_, rfl⟩
 rw [hw0'] at hN hb0
 go_enter Tryz.func46, Tryz.ntmps46
 go_upto_region 3 with fail
 try rw [hw0']
 clear hw0'
 replace hN := Aside0.mk hN
 replace hb0 := Aside0.mk hb0
 go_cut [4] (fun v wx => ∃ (p : Nat) (B C : Option Addr) (n1 n2 k1 k2 : Nat), v = .pointer (some ⟨p, 0, none⟩) ∧ Aside0 (SpR w wx w.heap.size p B C none n1 n2 0 k1 k2 0 0) ∧ Aside0 ((HRow wx (.slice B n1 k1) 3 (([1, (k : Int) + 1] : List Int).map (Value.int .i64)) ∧ HRow wx (.slice C n2 k2) 22 ((List.replicate (k + 2) (0 : Int)).map (Value.int .u32))) ∧ ∀ (g n c : Nat), Value.slice C n2 k2 = .slice (some ⟨g, 0, none⟩) n c → g < wx.heap.size))
 case first =>
  go_wp2
  go_meet
  have hlt := blk_lt hN.out
  refine ⟨_, some ⟨w0.heap.size, 0, none⟩, some ⟨w0.heap.size + 1, 0, none⟩, 2, k + 2, 2, k + 2, rfl, ⟨⟨?_, ?_, ?_, ?_⟩⟩, ⟨⟨?_, ?_⟩, ?_⟩⟩
  ·exact ((hb0.out.trans ((below_new w0 _).mono hb0.out.size)).alloc (by simp; omega) _).alloc (by simp; omega) _
  ·exact blk_old (blk_old (blk_old hN.out _) _) _
  ·exact new_at (by simp) _
  ·omega
  ·exact HRow.new (([1, (k : Int) + 1] : List Int).map (Value.int .i64)) (blk_old (blk_old (blk_new w0 _) _) _) rfl (by simp) (fun j u hj => by simpa using hj)
  ·exact HRow.zeros (blk_old (new_at (by simp) _) _) (by omega) hz.out
  ·intro g n c e
   injection e with e1
   injection e1 with e1
   injection e1 with e1
   subst e1
   simp
 case rest =>
  obtain ⟨p, B, C, n1, n2, k1, k2, rfl, hB, hH⟩ := hcut
  clear hN hb0 hmk hz
  obtain ⟨M, hM⟩ : ∃ M, wc.heap.size = M := ⟨_, rfl⟩
  have hMw : w.heap.size ≤ M := hM ▸ Nat.le_of_lt (blk_lt hB.out.c)
  have hC := Aside0.mk (show ∀ (g n c : Nat), Value.slice C n2 k2 = .slice (some ⟨g, 0, none⟩) n c → g < M from fun g n c e => hM ▸ hH.out.2 g n c e)
  replace hH := Aside0.mk hH.out.1
  replace hMw := Aside0.mk (And.intro hMw (Nat.le_of_eq hM.symm))
  clear hM
  go_wp2_with fail
  go_loopw [5] (fun v5 wr => ∃ (i : Nat) (D : Option Addr) (k3 : Nat) (xs : List Int), v5 = .int .i64 i ∧ i ≤ k ∧ Aside0 (SpR w wr w.heap.size p B C D n1 n2 i k1 k2 k3 0) ∧ Aside0 (xs.length = i ∧ U32Row wr M (.slice D i k3) xs) ∧ Aside0 (xs = (List.range i).map fun i : Nat => (i : Int) + 1) ∧ Aside0 ((HRow wr (.slice B n1 k1) 3 (([1, (k : Int) + 1] : List Int).map (Value.int .i64)) ∧ HRow wr (.slice C n2 k2) 22 ((List.replicate (k + 2) (0 : Int)).map (Value.int .u32))) ∧ M ≤ wr.heap.size)) (fun v5 _ => k - (intOf v5).toNat)
  case atStart => exact ⟨0, none, 0, [], rfl, Nat.zero_le _, hB, ⟨rfl, rfl, .inl ⟨rfl, rfl⟩⟩, ⟨rfl⟩, ⟨hH.out, hMw.out.2⟩⟩
  case round =>
   obtain ⟨i, D, k3, xs, rfl, hik, hB, hX, hxs, hH⟩ := hrel
   by_cases hlt : i < k
   ·have c6 : wr.cell? ⟨p, 6, none⟩ = some (.slice D i k3) := (blk_cell hB.out.q 6).trans rfl
    have hi1 : (i : Int) < (k : Int) := by omega
    have hiw : IntKind.i64.wrap ((i : Int) + 1) = (i : Int) + 1 := by rw [IntKind.wrap_i64]; omega
    have hiu : IntKind.u32.wrap ((i : Int) + 1) = (i : Int) + 1 := by rw [IntKind.wrap_u32]; omega
    have hk2 := below_new wr (.cells #[.int .u32 ((i : Int) + 1)] 22)
    have hr0 : U32Row (wr.alloc (.cells #[.int .u32 ((i : Int) + 1)] 22)) M (.slice D i k3) xs := own_move hX.out.2 (fun k hk => hk2.block k (own_lt hX.out.2 k hk))
    have hB2 := hB.out.keep hk2
    have hsz : M ≤ (wr.alloc (.cells #[.int .u32 ((i : Int) + 1)] 22)).heap.size := Nat.le_trans hH.out.2 hk2.size
    have hH2 := Aside0.mk (And.intro (hH.out.1.1.keep hk2) (hH.out.1.2.keep hk2))
    replace hr0 := Aside0.mk hr0
    replace hB2 := Aside0.mk hB2
    replace hsz := Aside0.mk hsz
    clear hk2
    go_wp2_with (at_builtin; refine app_u32 rfl (.tmp 29) (.tmp 33) rfl M wr.heap.size ((i : Int) + 1) (.slice D i k3) xs rfl hr0.out rfl (blk_new _ _) ?hl ?hb ?_)
    case hl => have := hX.out.1; omega
    case hb => exact hsz.out
    intro v' W2 hr hg _
    have hB3 := hB2.out.grownM hMw.out.1 hr0.out hg
    have hH3 := And.intro (hH2.out.1.grown hg (fun g n c arr e h4 => own_apart hr0.out h4 (by decide))) (hH2.out.2.grown hg (fun g n c arr e h4 e2 => by have h1 := hC.out g n c e; have h2 := own_base hr0.out g e2.symm; omega))
    have hM2 : M ≤ W2.heap.size := Nat.le_trans hsz.out hg.size
    obtain ⟨D', c', rfl⟩ := hr.some (by simp)
    have hlen : (xs ++ [(i : Int) + 1]).length = i + 1 := by rw [List.length_append, hX.out.1]; rfl
    rw [hlen] at hr ⊢
    have c62 : W2.cell? ⟨p, 6, none⟩ = some (.slice D i k3) := (blk_cell hB3.q 6).trans rfl
    have f62 := blk_frozen hB3.q 6
    have z62 : p < W2.heap.size := blk_lt hB3.q
    have hB4 := Aside0.mk (hB3.r7 D' (i + 1) c')
    have hH4 := Aside0.mk (And.intro (hH3.1.far (i := 6) (x := .slice D' (i + 1) c') hB3.q (by decide)) (hH3.2.far (i := 6) (x := .slice D' (i + 1) c') hB3.q (by decide)))
    have hxs2 := Aside0.mk (show xs ++ [(i : Int) + 1] = (List.range (i + 1)).map fun i : Nat => (i : Int) + 1 by rw [hxs.out, List.range_succ, List.map_append]; rfl)
    replace hM2 := Aside0.mk hM2
    have hr4 := Aside0.mk (row_set hr hB3.q (by decide) 6 (.slice D' (i + 1) c'))
    replace hlen := Aside0.mk hlen
    clear hB3 hr hg hB2 hr0 c6 hH3 hH2 hH hxs
    go_wp2
    go_roundw
    case rel => exact ⟨i + 1, D', c', _, by go_num, hlt, hB4, ⟨hlen.out, hr4.out⟩, hxs2, ⟨hH4.out, by simpa using hM2.out⟩⟩
    case measure => simp [intOf]; omega
   ·obtain rfl : i = k := by omega
    have hge : ¬ (i : Int) < (i : Int) := by omega
    have hR := Aside0.mk (hrow_of hX.out.2)
    rw [hxs.out] at hR
    clear hX hlt hik hxs
    go_wp2_with fail
    refine (CT.out _).mono ?_
    rintro e w1 ⟨rfl, rfl⟩
    go_wp2_with fail
    refine (CA.out _).mono ?_
    rintro e w2 ⟨va, rfl, hr, hb⟩
    obtain ⟨A, mm, c, rfl⟩ := own_slice hr
    have hq := blk_new w2 (.cells #[.slice A mm c, .int .i64 (asmF clhT).1.lock, .int .i64 (asmF clhT).1.unlock] 35)
    have hb3 := below_new w2 (.cells #[.slice A mm c, .int .i64 (asmF clhT).1.lock, .int .i64 (asmF clhT).1.unlock] 35)
    have hbb := hb.trans (hb3.mono hb.size)
    have hB2 := hB.out.keep hbb
    have hr2 := RfRow.mono (xs := (asmF clhT).1.l) (own_move hr (fun k hk => hb3.block k (own_lt hr k hk))) hB.out.b.size
    have x1 := Aside0.mk (hB2.finH (va := .slice A mm c) (asmF clhT).1.lock (asmF clhT).1.unlock (hH.out.1.1.keep hbb) (by decide))
    have x2 := Aside0.mk (hB2.finH (va := .slice A mm c) (asmF clhT).1.lock (asmF clhT).1.unlock (hH.out.1.2.keep hbb) (by decide))
    have x3 := Aside0.mk (hB2.finH (va := .slice A mm c) (asmF clhT).1.lock (asmF clhT).1.unlock (hR.out.keep hbb) (by decide))
    have hfin := Aside0.mk (hB2.fin (asmF clhT).1.lock (asmF clhT).1.unlock hr2)
    obtain ⟨w3, hw3⟩ : ∃ y, w2.alloc (.cells #[.slice A mm c, .int .i64 (asmF clhT).1.lock, .int .i64 (asmF clhT).1.unlock] 35) = y := ⟨_, rfl⟩
    obtain ⟨q, hqe⟩ : ∃ y, w2.heap.size = y := ⟨_, rfl⟩
    rw [hw3] at hq hB2 x1 x2 x3 hfin
    rw [hqe] at hq
    have qp : q ≠ p := hqe ▸ Nat.ne_of_gt (Nat.lt_of_lt_of_le (blk_lt hB.out.q) hb.size)
    have qN : q ≠ w.heap.size := hqe ▸ Nat.ne_of_gt (Nat.lt_of_lt_of_le (blk_lt hB.out.c) hb.size)
    have t0 : w3.cell? ⟨q, 0, none⟩ = some (.slice A mm c) := (blk_cell hq 0).trans rfl
    have t1 : w3.cell? ⟨q, 1, none⟩ = some (.int .i64 (asmF clhT).1.lock) := (blk_cell hq 1).trans rfl
    have t2 : w3.cell? ⟨q, 2, none⟩ = some (.int .i64 (asmF clhT).1.unlock) := (blk_cell hq 2).trans rfl
    have c0 : w3.cell? ⟨p, 0, none⟩ = some (.slice none 0 0) := (blk_cell hB2.q 0).trans rfl
    have c1 : w3.cell? ⟨p, 1, none⟩ = some (.int .i64 0) := (blk_cell hB2.q 1).trans rfl
    have c2 : w3.cell? ⟨p, 2, none⟩ = some (.int .i64 0) := (blk_cell hB2.q 2).trans rfl
    have c3 : w3.cell? ⟨p, 3, none⟩ = some (.slice B n1 k1) := (blk_cell hB2.q 3).trans rfl
    have c4 : w3.cell? ⟨p, 4, none⟩ = some (.slice C n2 k2) := (blk_cell hB2.q 4).trans rfl
    have c5 : w3.cell? ⟨p, 5, none⟩ = some (.int .i64 0) := (blk_cell hB2.q 5).trans rfl
    have c6 : w3.cell? ⟨p, 6, none⟩ = some (.slice D i k3) := (blk_cell hB2.q 6).trans rfl
    have f0 := blk_frozen hB2.q 0
    have f1 := blk_frozen hB2.q 1
    have f2 := blk_frozen hB2.q 2
    have d0 : w3.cell? ⟨w.heap.size, 0, none⟩ = some (.slice none 0 0) := (blk_cell hB2.c 0).trans rfl
    have d1 : w3.cell? ⟨w.heap.size, 1, none⟩ = some (.int .i64 0) := (blk_cell hB2.c 1).trans rfl
    have d2 : w3.cell? ⟨w.heap.size, 2, none⟩ = some (.int .i64 0) := (blk_cell hB2.c 2).trans rfl
    have d3 : w3.cell? ⟨w.heap.size, 3, none⟩ = some (.slice none 0 0) := (blk_cell hB2.c 3).trans rfl
    have d4 : w3.cell? ⟨w.heap.size, 4, none⟩ = some (.slice none 0 0) := (blk_cell hB2.c 4).trans rfl
    have d5 : w3.cell? ⟨w.heap.size, 5, none⟩ = some (.int .i64 0) := (blk_cell hB2.c 5).trans rfl
    have d6 : w3.cell? ⟨w.heap.size, 6, none⟩ = some (.slice none 0 0) := (blk_cell hB2.c 6).trans rfl
    have e0 := blk_frozen hB2.c 0
    have e1 := blk_frozen hB2.c 1
    have e2 := blk_frozen hB2.c 2
    have e3 := blk_frozen hB2.c 3
    have e4 := blk_frozen hB2.c 4
    have e5 := blk_frozen hB2.c 5
    have e6 := blk_frozen hB2.c 6
    have z0 : w.heap.size < w3.heap.size := blk_lt hB2.c
    have zp : p < w3.heap.size := blk_lt hB2.q
    have ne0 : ¬ w.heap.size = p := Nat.ne_of_lt hB2.ne
    have ne1 : ¬ p = w.heap.size := Nat.ne_of_gt hB2.ne
    have ne2 : ¬ p = q := fun e => qp e.symm
    have ne3 : ¬ w.heap.size = q := fun e => qN e.symm
    clear hH hR hB hB2 hr hr2 hb hb3 hbb hq CT CA
    go_upto_region 9 with fail
    try rw [hw3]
    try rw [hqe]
    clear hw3 hqe
    go_wp2
    obtain ⟨g1, g2, g3⟩ := hfin.out _ rfl
    refine bodyPost_ret (results_row_tmp rfl _ _ w.heap.size 37 #[.slice A mm c, .int .i64 (asmF clhT).1.lock, .int .i64 (asmF clhT).1.unlock, .slice B n1 k1, .slice C n2 k2, .int .i64 0, .slice D i k3] (0, 0) _ rfl g1 Tryz.underlying37 rfl (by kernel_rfl)) rfl ⟨_, _, _, _, rfl, g2, x1.out _ rfl, x2.out _ rfl, x3.out _ rfl, g3⟩

set_option maxHeartbeats 4000000 in
set_option maxRecDepth 100000 in
theorem ref17_no (n : Int) (h : n < 1 ∨ 64 < n) (w : World) : Calls Tryz.prog 46 #[.int .i64 n] w (RefNo w) := by
 have hN := blk_new w (.cells #[.slice none 0 0, .int .i64 0, .int .i64 0, .slice none 0 0, .slice none 0 0, .int .i64 0, .slice none 0 0] 37)
 have hb0 := below_new w (.cells #[.slice none 0 0, .int .i64 0, .int .i64 0, .slice none 0 0, .slice none 0 0, .int .i64 0, .slice none 0 0] 37)
 have hfin := zeroR_fin hb0 hN
 obtain ⟨w0, hw0⟩ : ∃ y, w.alloc (.cells #[.slice none 0 0, .int .i64 0, .int .i64 0, .slice none 0 0, .slice none 0 0, .int .i64 0, .slice none 0 0] 37) = y := ⟨_, rfl⟩
 rw [hw0] at hfin hN
 have d0 : w0.cell? ⟨w.heap.size, 0, none⟩ = some (.slice none 0 0) := (blk_cell hN 0).trans rfl
 have d1 : w0.cell? ⟨w.heap.size, 1, none⟩ = some (.int .i64 0) := (blk_cell hN 1).trans rfl
 have d2 : w0.cell? ⟨w.heap.size, 2, none⟩ = some (.int .i64 0) := (blk_cell hN 2).trans rfl
 have d3 : w0.cell? ⟨w.heap.size, 3, none⟩ = some (.slice none 0 0) := (blk_cell hN 3).trans rfl
 have d4 : w0.cell? ⟨w.heap.size, 4, none⟩ = some (.slice none 0 0) := (blk_cell hN 4).trans rfl
 have d5 : w0.cell? ⟨w.heap.size, 5, none⟩ = some (.int .i64 0) := (blk_cell hN 5).trans rfl
 have d6 : w0.cell? ⟨w.heap.size, 6, none⟩ = some (.slice none 0 0) := (blk_cell hN 6).trans rfl
 have e0 := blk_frozen hN 0
 have e1 := blk_frozen hN 1
 have e2 := blk_frozen hN 2
 have e3 := blk_frozen hN 3
 have e4 := blk_frozen hN 4
 have e5 := blk_frozen hN 5
 have e6 := blk_frozen hN 6
 have z0 : w.heap.size < w0.heap.size := blk_lt hN
 replace hfin := Aside0.mk hfin
 clear hN hb0
 go_enter Tryz.func46, Tryz.ntmps46
 go_upto_region 1 with fail
 try rw [hw0]
 clear hw0
 go_cut [14] (fun v wx => v = .bool true ∧ wx = w0)
 case first =>
  rcases h with h | h
  ·have hd1 : decide (n < 1) = true := decide_eq_true h
   go_wp2
   go_meet
   exact ⟨rfl, rfl⟩
  ·have hd1 : decide (n < 1) = false := decide_eq_false (by omega)
   have hd2 : decide (64 < n) = true := decide_eq_true h
   go_wp2
   go_meet
   exact ⟨rfl, rfl⟩
 case rest =>
  obtain ⟨rfl, rfl⟩ := hcut
  go_wp2
  obtain ⟨g1, g2⟩ := hfin.out _ rfl
  refine bodyPost_ret (results_row_tmp rfl _ _ w.heap.size 37 #[.slice none 0 0, .int .i64 0, .int .i64 0, .slice none 0 0, .slice none 0 0, .int .i64 0, .slice none 0 0] (0, 0) _ rfl g1 Tryz.underlying37 rfl (by kernel_rfl)) rfl ⟨rfl, g2⟩
end Go.Proofs.YtbodainpdjmjdaaGreatDoor

/- ticket.Spec with its rows. -/
import Derived.Test.YtbodainpdjmjdaaGreatDoorBSpecTicket
import Derived.Test.YtbodainpdjmjdaaGreatDoorB27
namespace Go.Proofs.YtbodainpdjmjdaaGreatDoor
open Go.RowKit Go.Proofs.YtbodainpdjmjdaaGreatDoorW.PrintWords
set_option linter.unusedVariables false
set_option linter.unusedSimpArgs false

set_option maxHeartbeats 4000000 in
set_option maxRecDepth 100000 in
theorem ticketSpec_has (k : Nat) (st : Int) (h1 : 1 ≤ k) (h2 : k ≤ 64) (w : World) (he : Env w) : Calls Tryz.prog 13 #[.int .i64 (k : Int), .int .u32 st] w (SpecHas w ticketT [1, 1] [st, st] (List.replicate k (0 : Int)) 0) := by
 have hd1 : decide ((k : Int) < 1) = false := decide_eq_false (by omega)
 have hd2 : decide ((64 : Int) < (k : Int)) = false := decide_eq_false (by omega)
 obtain ⟨cs, hcs, hz, hmk⟩ := mk_u32 k (by omega)
 replace hz := Aside0.mk hz
 have CT := Aside0.mk (fun W => ticketText_calls W)
 have CA := Aside0.mk (fun (W : World) (heW : Env W) => asm_calls ticketT W heW ticket_len)
 go_enter Tryz.func13, Tryz.ntmps13
 have hN := blk_new w (.cells #[.slice none 0 0, .int .i64 0, .int .i64 0, .slice none 0 0, .slice none 0 0, .int .i64 0, .slice none 0 0] 29)
 have hb0 := below_new w (.cells #[.slice none 0 0, .int .i64 0, .int .i64 0, .slice none 0 0, .slice none 0 0, .int .i64 0, .slice none 0 0] 29)
 obtain ⟨w0, hw0⟩ : ∃ y, w.alloc (.cells #[.slice none 0 0, .int .i64 0, .int .i64 0, .slice none 0 0, .slice none 0 0, .int .i64 0, .slice none 0 0] 29) = y := ⟨_, rfl⟩
 rw [hw0] at hN hb0
 go_upto_region 3 with fail
 try rw [hw0]
 replace hN := Aside0.mk hN
 replace hb0 := Aside0.mk hb0
 clear hw0
 go_cut [6] (fun v wx => ∃ (p : Nat) (B C D : Option Addr) (n1 n2 k1 k2 k3 : Nat), v = .pointer (some ⟨p, 0, none⟩) ∧ Aside0 (SpB w wx w.heap.size p B C D n1 n2 k k1 k2 k3 0) ∧ Aside0 (HRow wx (.slice B n1 k1) 3 (([1, 1] : List Int).map (Value.int .i64)) ∧ HRow wx (.slice C n2 k2) 22 (([st, st] : List Int).map (Value.int .u32)) ∧ HRow wx (.slice D k k3) 22 ((List.replicate k (0 : Int)).map (Value.int .u32))))
 case first =>
  go_wp2
  go_meet
  have hlt := blk_lt hN.out
  refine ⟨_, some ⟨w0.heap.size, 0, none⟩, some ⟨w0.heap.size + 1, 0, none⟩, some ⟨w0.heap.size + 1 + 1, 0, none⟩, 2, 2, 2, 2, k, rfl, ⟨⟨?_, ?_, ?_, ?_⟩⟩, ⟨?_, ?_, ?_⟩⟩
  ·exact (((hb0.out.trans ((below_new w0 _).mono hb0.out.size)).alloc (by simp; omega) _).alloc (by simp; omega) _).alloc (by simp; omega) _
  ·exact blk_old (blk_old (blk_old (blk_old hN.out _) _) _) _
  ·exact new_at (by simp) _
  ·omega
  ·exact HRow.new (([1, 1] : List Int).map (Value.int .i64)) (blk_old (blk_old (blk_old (blk_new w0 _) _) _) _) rfl (by simp) (fun j u hj => by simpa using hj)
  ·exact HRow.new (([st, st] : List Int).map (Value.int .u32)) (blk_old (blk_old (new_at (by simp) _) _) _) rfl (by simp) (fun j u hj => by simpa using hj)
  ·exact HRow.zeros (blk_old (new_at (by simp) _) _) (by omega) hz.out
 case rest =>
  obtain ⟨p, B, C, D, n1, n2, k1, k2, k3, rfl, hB, hH⟩ := hcut
  go_wp2_with fail
  refine (CT.out _).mono ?_
  rintro e w1 ⟨rfl, rfl⟩
  go_wp2_with fail
  refine (CA.out _ (he.below hB.out.b)).mono ?_
  rintro e w2 ⟨va, rfl, hr, hb⟩
  have hB2 := hB.out.keep hb
  have hr2 := hr.mono hB.out.b.size
  obtain ⟨A, mm, c, rfl⟩ := own_slice hr
  have x1 := Aside0.mk (hB2.finH (va := .slice A mm c) (asmF ticketT).1.lock (asmF ticketT).1.unlock (hH.out.1.keep hb) (by decide))
  have x2 := Aside0.mk (hB2.finH (va := .slice A mm c) (asmF ticketT).1.lock (asmF ticketT).1.unlock (hH.out.2.1.keep hb) (by decide))
  have x3 := Aside0.mk (hB2.finH (va := .slice A mm c) (asmF ticketT).1.lock (asmF ticketT).1.unlock (hH.out.2.2.keep hb) (by decide))
  have hfin := Aside0.mk (hB2.fin (asmF ticketT).1.lock (asmF ticketT).1.unlock hr2)
  have c0 : w2.cell? ⟨p, 0, none⟩ = some (.slice none 0 0) := (blk_cell hB2.q 0).trans rfl
  have c1 : w2.cell? ⟨p, 1, none⟩ = some (.int .i64 0) := (blk_cell hB2.q 1).trans rfl
  have c2 : w2.cell? ⟨p, 2, none⟩ = some (.int .i64 0) := (blk_cell hB2.q 2).trans rfl
  have c3 : w2.cell? ⟨p, 3, none⟩ = some (.slice B n1 k1) := (blk_cell hB2.q 3).trans rfl
  have c4 : w2.cell? ⟨p, 4, none⟩ = some (.slice C n2 k2) := (blk_cell hB2.q 4).trans rfl
  have c5 : w2.cell? ⟨p, 5, none⟩ = some (.int .i64 0) := (blk_cell hB2.q 5).trans rfl
  have c6 : w2.cell? ⟨p, 6, none⟩ = some (.slice D k k3) := (blk_cell hB2.q 6).trans rfl
  have f0 := blk_frozen hB2.q 0
  have f1 := blk_frozen hB2.q 1
  have f2 := blk_frozen hB2.q 2
  have d0 : w2.cell? ⟨w.heap.size, 0, none⟩ = some (.slice none 0 0) := (blk_cell hB2.c 0).trans rfl
  have d1 : w2.cell? ⟨w.heap.size, 1, none⟩ = some (.int .i64 0) := (blk_cell hB2.c 1).trans rfl
  have d2 : w2.cell? ⟨w.heap.size, 2, none⟩ = some (.int .i64 0) := (blk_cell hB2.c 2).trans rfl
  have d3 : w2.cell? ⟨w.heap.size, 3, none⟩ = some (.slice none 0 0) := (blk_cell hB2.c 3).trans rfl
  have d4 : w2.cell? ⟨w.heap.size, 4, none⟩ = some (.slice none 0 0) := (blk_cell hB2.c 4).trans rfl
  have d5 : w2.cell? ⟨w.heap.size, 5, none⟩ = some (.int .i64 0) := (blk_cell hB2.c 5).trans rfl
  have d6 : w2.cell? ⟨w.heap.size, 6, none⟩ = some (.slice none 0 0) := (blk_cell hB2.c 6).trans rfl
  have e0 := blk_frozen hB2.c 0
  have e1 := blk_frozen hB2.c 1
  have e2 := blk_frozen hB2.c 2
  have e3 := blk_frozen hB2.c 3
  have e4 := blk_frozen hB2.c 4
  have e5 := blk_frozen hB2.c 5
  have e6 := blk_frozen hB2.c 6
  have z0 : w.heap.size < w2.heap.size := blk_lt hB2.c
  have zp : p < w2.heap.size := blk_lt hB2.q
  have ne0 : ¬ w.heap.size = p := Nat.ne_of_lt hB2.ne
  have ne1 : ¬ p = w.heap.size := Nat.ne_of_gt hB2.ne
  clear hH hB hB2 hr hr2 hb CT CA
  go_wp2
  obtain ⟨g1, g2, g3⟩ := hfin.out _ rfl
  refine bodyPost_ret (results_row_tmp rfl _ _ w.heap.size 29 #[.slice A mm c, .int .i64 (asmF ticketT).1.lock, .int .i64 (asmF ticketT).1.unlock, .slice B n1 k1, .slice C n2 k2, .int .i64 0, .slice D k k3] (0, 0) _ rfl g1 Tryz.underlying29 rfl (by kernel_rfl)) rfl ⟨_, _, _, _, rfl, g2, x1.out _ rfl, x2.out _ rfl, x3.out _ rfl, g3⟩
end Go.Proofs.YtbodainpdjmjdaaGreatDoor

/- Parts: Ref7. -/
import Derived.Test.YtbhpkeiofajbpaaGreatDoorB07
import Derived.Test.YtbhpkeiofajbpaaGreatDoorB26
import Derived.Test.YtbhpkeiofajbpaaGreatDoorB21
/- ropelinelaw06.Ref, where the law's own awake is not in the seat. ropelinelaw07.Ref: the document's program of the program's. ropelinelaw10.Ref: the document's spec of the program's. -/
namespace Go.Proofs.YtbhpkeiofajbpaaGreatDoor
open Go.RowKit Go.Proofs.YtbhpkeiofajbpaaGreatDoorW.PrintWords
set_option linter.unusedVariables false

/-- Ref: the document's instruction. -/
theorem ref_calls (i : In) (w : World) : Calls Tryz.prog 55 #[i.v] w fun e w' => e = .returned i.v ∧ Below w.heap.size w w' := by
 cases i with
 | mk op d s t u a k q =>
  unfold In.v
  go_enter Tryz.func55, Tryz.ntmps55
  go_wp2
  refine bodyPost_ret (results_cell_row rfl _ _ (w.heap.size + 1) 114 (In.cs ⟨op, d, s, t, u, a, k, q⟩) (0, 0) _ rfl (by exact blk_new2 _ _ _) Tryz.underlying114 rfl (by kernel_rfl)) rfl ⟨rfl, ?_⟩
  apply_rules [Below.setCell, Below.alloc, Below.refl] <;> first | omega | (simp; omega) | simp
end Go.Proofs.YtbhpkeiofajbpaaGreatDoor

namespace Go.Proofs.YtbhpkeiofajbpaaGreatDoor
open Go.RowKit Go.Proofs.YtbhpkeiofajbpaaGreatDoorW.PrintWords
set_option linter.unusedVariables false
set_option linter.unusedSimpArgs false

theorem info_rf : (Tryz.prog.info? 114).map (fun i => (i.zero, i.size, i.bytes)) = some (some (.agg In.zero.cs), 8, 64) := by kernel_rfl
/-- A row of the document's instructions. -/
def RfRow (W : World) (base : Nat) (v : Value) (xs : List In) : Prop := W.ownsRow base 114 8 v xs.length (inCells xs)
theorem RfRow.nil (W : World) (base : Nat) : RfRow W base (.slice none 0 0) [] := ⟨rfl, .inl ⟨rfl, rfl⟩⟩
theorem RfRow.mono {W : World} {base base' : Nat} {v : Value} {xs : List In} (h : RfRow W base v xs) (hb : base' ≤ base) : RfRow W base' v xs := by
 obtain ⟨h1, h2⟩ := h
 refine ⟨h1, ?_⟩
 rcases h2 with h0 | ⟨g, cap, cur, e, hg, r⟩
 ·exact .inl h0
 ·exact .inr ⟨g, cap, cur, e, Nat.le_trans hb hg, r⟩
theorem RfRow.rd {W : World} {base : Nat} {v : Value} {xs : List In} (h : RfRow W base v xs) : RdRow W v xs.length (inCells xs) := by
 obtain ⟨h1, h2⟩ := h
 rcases h2 with ⟨rfl, h0⟩ | ⟨g, cap, cur, rfl, hg, hh, hc, hm, hs, ht⟩
 ·rw [h0]; exact .inl ⟨rfl, _, _, rfl⟩
 ·by_cases hn : 0 < xs.length
  ·refine .inr ⟨g, cap, rfl, hc, hn, fun j u hj => (blk_cell hh j).trans ?_⟩
   have hlt : j < xs.length * 8 := by rw [← h1]; exact (List.getElem?_eq_some_iff.1 hj).1
   rw [← ht, List.getElem?_take_of_lt hlt, Array.getElem?_toList] at hj
   exact hj
  ·have h0 : xs.length = 0 := by omega
   rw [h0]
   exact .inl ⟨rfl, _, _, rfl⟩
section
variable {ops : Array Oper} {o : Oper} {a : Act} {K : Act → World → Prop} {Q : Exit → Act → World → Prop} {E : Prop} {W : World}
theorem step_brf (hgd : o.guard = none) (x : Operand) (ho : o.op = .buildSlice 24 1 #[(0, x)]) (i : In) (hx : a.eval x = .agg i.cs)
  (h : ∀ g W1, Below W.heap.size W W1 → W1.heap[g]? = some (.cells i.cs 114 (0, 0)) → K (a.put o.dst (.slice (some ⟨g, 0, none⟩) 1 1)) W1) :
  if Region.wanted o (yielded ops a.tmps) = true then Oper.wp Tryz.prog o a W K Q else E := by
 rw [if_pos (by simp [Region.wanted, hgd])]
 obtain ⟨i9, hi, hz0, hz1, hz2⟩ := info_parts info_rf
 refine wp_buildSlice 24 114 1 _ ho i.cs i9 (.agg In.zero.cs) Tryz.underlying24 hi hz0 (by rw [hz1]; decide) (by rw [hz1]; decide) ?_ (h _ _ (below_new W _) (blk_new _ _))
 rw [hz1]
 simp only [List.map_toArray, List.map_cons, List.map_nil, hx]
 cases i
 kernel_rfl
theorem step_arf (hgd : o.guard = none) (s x : Operand) (ho : o.op = .call { callee := .builtin .append, args := #[s, x], argTypes := #[24, 24] })
  (base g : Nat) (y : In) (v : Value) (xs : List In) (hs : a.eval s = v) (hr : RfRow W base v xs) (hx : a.eval x = .slice (some ⟨g, 0, none⟩) 1 1)
  (hy : W.heap[g]? = some (.cells y.cs 114 (0, 0))) (hl : xs.length ≤ 1000000) (hb : base ≤ W.heap.size)
  (h : ∀ v' W1, RfRow W1 base v' (xs ++ [y]) → W.grownBy W1 v.ownBlock → (v'.ownBlock = v.ownBlock ∨ v'.ownBlock = some W.heap.size) → K (a.put o.dst v') W1) :
  if Region.wanted o (yielded ops a.tmps) = true then Oper.wp Tryz.prog o a W K Q else E := by
 obtain ⟨i9, hi, hz0, hz1, hz2⟩ := info_parts info_rf
 refine step_app hgd s x 24 ho base 114 i9 (.agg In.zero.cs) 8 64 Tryz.underlying24 hi hz0 hz1 hz2 rfl (by decide) v xs.length (inCells xs) hs hr g y.cs (0, 0) hx hy rfl ?_ hl (by decide) hb ?_
 ·intro u hu
  have : u ∈ y.cs.toList := hu
  simp [In.cs] at this
  rcases this with rfl | rfl | rfl | rfl | rfl | rfl | rfl | rfl <;> rfl
 ·intro v' W1 h1 h2 h4
  refine h v' W1 ?_ h2 h4
  unfold RfRow
  rw [inCells_snoc, List.length_append]
  exact h1
end
/-- Ref's loop: the box of the result is zero, box N + 2 holds the row so far. -/
structure R7I (w W : World) (N : Nat) (l u : Int) (v : Value) (xs : List In) : Prop where
 b : Below N w W
 c1 : W.heap[N + 1]? = some (.cells #[.slice none 0 0, .int .i64 0, .int .i64 0] 26 (0, 0))
 c2 : W.heap[N + 2]? = some (.cells #[v, .int .i64 l, .int .i64 u] 26 (0, 0))
 r : RfRow W N v xs
section
variable {w W W1 : World} {N : Nat} {l u : Int} {v v' : Value} {xs : List In} {y : In}
theorem R7I.keep (h : R7I w W N l u v xs) (hb : Below W.heap.size W W1) : R7I w W1 N l u v xs :=
 ⟨h.b.trans (hb.mono (by have := blk_lt h.c1; omega)), blk_keep hb h.c1, blk_keep hb h.c2, own_move h.r (fun k hk => hb.block k (own_lt h.r k hk))⟩
/-- Behind the append, and behind the store. -/
theorem R7I.app (h : R7I w W N l u v xs) (hr : RfRow W1 N v' (xs ++ [y])) (hg : W.grownBy W1 v.ownBlock) (hz : N ≤ W.heap.size) :
  Below N w W1 ∧ W1.heap[N + 1]? = some (.cells #[.slice none 0 0, .int .i64 0, .int .i64 0] 26 (0, 0)) ∧ W1.heap[N + 2]? = some (.cells #[v, .int .i64 l, .int .i64 u] 26 (0, 0)) ∧
   R7I w (W1.setCell ⟨N + 2, 0, none⟩ v') N l u v' (xs ++ [y]) := by
 have hb := h.b.grown hg hz (fun k hk => own_base h.r k hk)
 have c1 := blk_grown h.c1 hg (own_apart h.r h.c1 (by decide))
 have c2 := blk_grown h.c2 hg (own_apart h.r h.c2 (by decide))
 exact ⟨hb, c1, c2, hb.setCell (show N ≤ N + 2 by omega) _, (Below.heap_setCell W1 ⟨N + 2, 0, none⟩ v' _ (show N + 1 ≠ N + 2 by omega)).trans c1, blk_set c2 0 _, row_set hr c2 (by decide) 0 v'⟩
end

/-- What the round's region loads. -/
def r7S (N b : Nat) (v : Value) (i : In) (W : World) : Prop :=
 W.cell? ⟨N + 2, 0, none⟩ = some v ∧ W.cell? ⟨b, 0, none⟩ = some (.int .i64 i.op) ∧ W.cell? ⟨b, 1, none⟩ = some (.int .i64 i.d) ∧ W.cell? ⟨b, 2, none⟩ = some (.int .i64 i.s) ∧ W.cell? ⟨b, 3, none⟩ = some (.int .i64 i.t) ∧
 W.cell? ⟨b, 4, none⟩ = some (.int .i64 i.u) ∧ W.cell? ⟨b, 5, none⟩ = some (.int .i64 i.a) ∧ W.cell? ⟨b, 6, none⟩ = some (.int .u32 i.k) ∧ W.cell? ⟨b, 7, none⟩ = some (.int .i64 i.q)
theorem r7_S {W : World} {N b : Nat} {v : Value} {i : In} {l u : Int} (hc : W.heap[N + 2]? = some (.cells #[v, .int .i64 l, .int .i64 u] 26 (0, 0))) (he : W.heap[b]? = some (.cells i.cs 99 (0, 0))) : r7S N b v i W :=
 ⟨(blk_cell hc 0).trans rfl, (blk_cell he 0).trans rfl, (blk_cell he 1).trans rfl, (blk_cell he 2).trans rfl, (blk_cell he 3).trans rfl, (blk_cell he 4).trans rfl, (blk_cell he 5).trans rfl, (blk_cell he 6).trans rfl, (blk_cell he 7).trans rfl⟩

set_option maxHeartbeats 4000000 in
set_option maxRecDepth 100000 in
theorem ref7_calls (va : Value) (l u : Int) (xs : List In) (w : World) (ha : RdRow w va xs.length (inCells xs)) (hn : xs.length ≤ 1000) :
  Calls Tryz.prog 28 #[.agg #[va, .int .i64 l, .int .i64 u]] w fun e W => ∃ v, e = .returned (.agg #[v, .int .i64 l, .int .i64 u]) ∧ RfRow W w.heap.size v xs ∧ Below w.heap.size w W := by
 obtain ⟨A, c, rfl⟩ := ha.slice
 obtain ⟨n, hl⟩ : ∃ n, xs.length = n := ⟨_, rfl⟩
 rw [hl] at ha hn ⊢
 have h0 : R7I w (((w.alloc (.cells #[.slice A n c, .int .i64 l, .int .i64 u] 36)).alloc (.cells #[.slice none 0 0, .int .i64 0, .int .i64 0] 26)).alloc (.cells #[.slice none 0 0, .int .i64 l, .int .i64 u] 26)) w.heap.size l u (.slice none 0 0) [] := by
  obtain ⟨w1, e1⟩ : ∃ x, w.alloc (.cells #[.slice A n c, .int .i64 l, .int .i64 u] 36) = x := ⟨_, rfl⟩
  have z1 : w1.heap.size = w.heap.size + 1 := by rw [← e1]; simp
  have k1 : Below w.heap.size w w1 := e1 ▸ below_new w _
  rw [e1]
  obtain ⟨w2, e2⟩ : ∃ x, w1.alloc (.cells #[.slice none 0 0, .int .i64 0, .int .i64 0] 26) = x := ⟨_, rfl⟩
  have z2 : w2.heap.size = w.heap.size + 2 := by rw [← e2]; simp [z1]
  have k2 : Below w1.heap.size w1 w2 := e2 ▸ below_new w1 _
  have n1 : w2.heap[w.heap.size + 1]? = _ := e2 ▸ z1 ▸ blk_new w1 _
  rw [e2]
  have n2 : (w2.alloc (.cells #[.slice none 0 0, .int .i64 l, .int .i64 u] 26)).heap[w.heap.size + 2]? = _ := z2 ▸ blk_new w2 _
  exact ⟨(k1.trans (k2.mono (by omega))).trans ((below_new w2 _).mono (by omega)), blk_old n1 _, n2, RfRow.nil _ _⟩
 replace h0 := Aside0.mk h0
 replace ha := Aside0.mk ha
 replace hl := Aside0.mk hl
 go_enter Tryz.func28, Tryz.ntmps28
 go_wp2_with fail
 simp only [Nat.add_assoc, Nat.reduceAdd]
 go_loopw [14] (fun v14 wr => ∃ (k : Nat) (v : Value), v14 = .int .i64 k ∧ k ≤ n ∧ Aside0 (R7I w wr w.heap.size l u v (xs.take k))) (fun v14 _ => n - (intOf v14).toNat)
 case atStart => exact ⟨0, .slice none 0 0, rfl, Nat.zero_le _, ⟨by simpa using h0.out⟩⟩
 case round =>
  obtain ⟨k, v, rfl, hk, hI⟩ := hrel
  by_cases hlt : k < n
  ·obtain ⟨ga, c', hva, hca⟩ := (ha.out.keep hI.out.b).cells (by omega)
   obtain ⟨rfl, rfl⟩ : A = some ⟨ga, 0, none⟩ ∧ c = c' := by injection hva with h1 h2 h3; exact ⟨h1, h3⟩
   have hkx : k < xs.length := by rw [hl.out]; exact hlt
   have htake := drop_getD xs k In.zero hkx
   have hsn : xs.take (k + 1) = xs.take k ++ [xs.getD k In.zero] := by
    rw [List.take_add_one, List.getElem?_eq_getElem hkx]
    simp [List.getD_eq_getElem?_getD, List.getElem?_eq_getElem hkx]
   obtain ⟨⟨op, dd, s, t, uu, a, kk, q⟩, hi⟩ : ∃ i, xs.getD k In.zero = i := ⟨_, rfl⟩
   rw [hi] at hsn
   obtain ⟨a0, a1, a2, a3, a4, a5, a6, a7⟩ := in_cells_at hca hkx hi
   obtain ⟨V, m, cv, rfl⟩ := own_slice hI.out.r
   have hk0 : (0 : Int) ≤ (k : Int) := by omega
   have hk1 : (k : Int) < (n : Int) := by omega
   have hkw : IntKind.i64.wrap ((k : Int) + 1) = (k : Int) + 1 := by rw [IntKind.wrap_i64]; omega
   have R6 := fun W => ref_calls ⟨op, dd, s, t, uu, a, kk, q⟩ W
   dsimp only [In.v] at R6
   replace R6 := Aside0.mk R6
   have hlk : (xs.take k).length ≤ 1000000 := by rw [List.length_take]; omega
   replace hlk := Aside0.mk hlk
   replace hsn := Aside0.mk hsn
   have hE := Aside0.mk (blk_new wr (.cells (In.cs ⟨op, dd, s, t, uu, a, kk, q⟩) 99))
   have hI2 := Aside0.mk (hI.out.keep (below_new wr (.cells (In.cs ⟨op, dd, s, t, uu, a, kk, q⟩) 99)))
   obtain ⟨b, hb⟩ : ∃ b, wr.heap.size = b := ⟨_, rfl⟩
   obtain ⟨w5, hw5⟩ : ∃ y, wr.alloc (.cells (In.cs ⟨op, dd, s, t, uu, a, kk, q⟩) 99) = y := ⟨_, rfl⟩
   rw [hw5, hb] at hE
   rw [hw5] at hI2
   simp only [In.cs] at hw5
   clear hva hca hi htake hkx
   go_upto_region 5 with fail
   try rw [hw5]
   try rw [hb]
   clear hw5 hb a0 a1 a2 a3 a4 a5 a6 a7 hI
   have hd0 : Below w5.heap.size w5 w5.drew := below_drew (Below.refl _ _)
   replace hI2 := hI2.out.keep hd0
   replace hE := blk_keep hd0 hE.out
   have hS := r7_S (b := b) hI2.c2 hE
   refine wp_region_late [7] (S := r7S w.heap.size b (.slice V m cv) ⟨op, dd, s, t, uu, a, kk, q⟩) (by kernel_rfl) hS (fun hS0 => ?_)
   clear hS hd0
   generalize w5.drew = w5 at *
   refine wpAnyL_takeY (i := 0) (v := ?_) (getw rfl) (by kernel_rfl) (fun _ _ _ h => h) (.inl ⟨by rfl, ?_⟩) (fun _ => by assumption) ?_
   rotate_left
   ·intro w; go_simp; try with_reducible rfl
   try simp only [Act.put, List.setIfInBounds_toArray, List.set_cons_zero, List.set_cons_succ]
   refine wpAnyL_take (i := 1) (v := ?_) (getw rfl) (by kernel_rfl) (fun _ _ _ h => h) (.inl ⟨by rfl, ?_⟩) (by assumption) ?_
   rotate_left
   ·intro w hSw; obtain ⟨k0, k1, k2, k3, k4, k5, k6, k7, k8⟩ := hSw; go_simp; try with_reducible rfl
   try simp only [Act.put, List.setIfInBounds_toArray, List.set_cons_zero, List.set_cons_succ]
   refine wpAnyL_take (i := 2) (v := ?_) (getw rfl) (by kernel_rfl) (fun _ _ _ h => h) (.inl ⟨by rfl, ?_⟩) (by assumption) ?_
   rotate_left
   ·intro w hSw; obtain ⟨k0, k1, k2, k3, k4, k5, k6, k7, k8⟩ := hSw; go_simp; try with_reducible rfl
   try simp only [Act.put, List.setIfInBounds_toArray, List.set_cons_zero, List.set_cons_succ]
   refine wpAnyL_ready (rs := [3]) (by kernel_rfl) (by simp) ?_
   refine AllReadyL.cons (o := ?oq3) ?hoq3 (fun K hK => ?_) AllReadyL.nil
   case hoq3 => refine getw ?_; rfl
   go_simp
   go_at_call 55
   refine (R6.out _).mono ?_
   rintro e w6 ⟨rfl, hb6⟩
   replace hI2 := hI2.keep hb6
   replace hE := blk_keep hb6 hE
   clear hS0 R6
   go_wp2_with fail
   refine hK.out _ _ (fun _ => r7_S hI2.c2 hE) (fun hS6 => ?_)
   replace hS6 := hS6 rfl
   try simp only [Act.put, List.setIfInBounds_toArray, List.set_cons_zero, List.set_cons_succ]
   refine wpAnyL_ready (rs := [4]) (by kernel_rfl) (by simp) ?_
   refine AllReadyL.cons (getw rfl) (fun K hK => ?_) AllReadyL.nil
   refine step_brf rfl (.tmp 21) rfl ⟨op, dd, s, t, uu, a, kk, q⟩ rfl (fun g22 w7 hb7 hy => ?_)
   replace hI2 := hI2.keep hb7
   replace hE := blk_keep hb7 hE
   refine hK.out _ _ (fun _ => r7_S hI2.c2 hE) (fun hS7 => ?_)
   replace hS7 := hS7 rfl
   try simp only [Act.put, List.setIfInBounds_toArray, List.set_cons_zero, List.set_cons_succ]
   refine wpAnyL_ready (rs := [5]) (by kernel_rfl) (by simp) ?_
   refine AllReadyL.cons (getw rfl) (fun K hK => ?_) AllReadyL.nil
   refine step_arf rfl (.tmp 19) (.tmp 22) rfl w.heap.size g22 ⟨op, dd, s, t, uu, a, kk, q⟩ _ (xs.take k) rfl hI2.r rfl hy hlk.out (by have := blk_lt hI2.c1; omega) (fun v' w8 hr hg _ => ?_)
   obtain ⟨q1, q2, q3, hI3⟩ := hI2.app hr hg (by have := blk_lt hI2.c1; omega)
   obtain ⟨V', m', cv', rfl⟩ := own_slice hr
   refine hK.out _ _ (fun _ => r7_S q3 (blk_grown hE hg (own_apart hI2.r hE (by decide)))) (fun hS8 => ?_)
   replace hS8 := hS8 rfl
   try simp only [Act.put, List.setIfInBounds_toArray, List.set_cons_zero, List.set_cons_succ]
   refine wpAnyL_takeY (i := 6) (v := ?_) (getw rfl) (by kernel_rfl) (fun _ _ _ h => h) (.inl ⟨by rfl, ?_⟩) (fun _ => by assumption) ?_
   rotate_left
   ·intro w; go_simp; try with_reducible rfl
   try simp only [Act.put, List.setIfInBounds_toArray, List.set_cons_zero, List.set_cons_succ]
   have c0 : w8.cell? ⟨w.heap.size + 2, 0, none⟩ = some (.slice V m cv) := (blk_cell q3 0).trans rfl
   have f0 := blk_frozen q3 0
   have z0 : w.heap.size + 2 < w8.heap.size := blk_lt q3
   replace hI3 := Aside0.mk hI3
   clear hS6 hS7 hS8 q1 q2 q3 hr hg hI2 hE
   refine wpAnyL_ready (rs := [7]) (by kernel_rfl) (by simp) ?_
   refine AllReadyL.cons (getw rfl) (fun K hK => ?_) AllReadyL.nil
   go_simp
   go_wp2_with fail
   refine hK.out _ _ (fun h => by cases h) (fun _ => ?_)
   try simp only [Act.put, List.setIfInBounds_toArray, List.set_cons_zero, List.set_cons_succ]
   refine wpAnyL_done (by kernel_rfl) ?_ _
   go_wp2_with fail
   go_roundw
   case rel => exact ⟨k + 1, _, by go_num, hlt, ⟨by rw [hsn.out]; exact hI3.out⟩⟩
   case measure => simp [intOf]; omega
  ·obtain rfl : k = n := by omega
   have hge : ¬ (k : Int) < (k : Int) := by omega
   have e0 : xs.take k = xs := by rw [← hl.out]; exact List.take_length
   rw [e0] at hI
   obtain ⟨V, m, cv, rfl⟩ := own_slice hI.out.r
   have r0 : wr.cell? ⟨w.heap.size + 2, 0, none⟩ = some (.slice V m cv) := (blk_cell hI.out.c2 0).trans rfl
   have r1 : wr.cell? ⟨w.heap.size + 2, 1, none⟩ = some (.int .i64 l) := (blk_cell hI.out.c2 1).trans rfl
   have r2 : wr.cell? ⟨w.heap.size + 2, 2, none⟩ = some (.int .i64 u) := (blk_cell hI.out.c2 2).trans rfl
   have d0 : wr.cell? ⟨w.heap.size + 1, 0, none⟩ = some (.slice none 0 0) := (blk_cell hI.out.c1 0).trans rfl
   have d1 : wr.cell? ⟨w.heap.size + 1, 1, none⟩ = some (.int .i64 0) := (blk_cell hI.out.c1 1).trans rfl
   have d2 : wr.cell? ⟨w.heap.size + 1, 2, none⟩ = some (.int .i64 0) := (blk_cell hI.out.c1 2).trans rfl
   have f0 := blk_frozen hI.out.c1 0
   have f1 := blk_frozen hI.out.c1 1
   have f2 := blk_frozen hI.out.c1 2
   have z0 : w.heap.size + 1 < wr.heap.size := blk_lt hI.out.c1
   have fin : ∀ W', W' = ((wr.setCell ⟨w.heap.size + 1, 0, none⟩ (.slice V m cv)).setCell ⟨w.heap.size + 1, 1, none⟩ (.int .i64 l)).setCell ⟨w.heap.size + 1, 2, none⟩ (.int .i64 u) →
     W'.heap[w.heap.size + 1]? = some (.cells #[.slice V m cv, .int .i64 l, .int .i64 u] 26 (0, 0)) ∧ RfRow W' w.heap.size (.slice V m cv) xs ∧ Below w.heap.size w W' := by
    rintro W' rfl
    have h1 := blk_set hI.out.c1 0 (.slice V m cv)
    have r1 := row_set hI.out.r hI.out.c1 (by decide) 0 (.slice V m cv)
    have b1 := hI.out.b.setCell (show w.heap.size ≤ w.heap.size + 1 by omega) (p := ⟨w.heap.size + 1, 0, none⟩) (.slice V m cv)
    have h2 := blk_set h1 1 (.int .i64 l)
    have r2 := row_set r1 h1 (by decide) 1 (.int .i64 l)
    have b2 := b1.setCell (show w.heap.size ≤ w.heap.size + 1 by omega) (p := ⟨w.heap.size + 1, 1, none⟩) (.int .i64 l)
    have r3 := row_set r2 h2 (by decide) 2 (.int .i64 u)
    exact ⟨blk_set h2 2 (.int .i64 u), r3, b2.setCell (show w.heap.size ≤ w.heap.size + 1 by omega) (p := ⟨w.heap.size + 1, 2, none⟩) (.int .i64 u)⟩
   replace fin := Aside0.mk fin
   clear hI e0
   go_wp2
   obtain ⟨g1, g2, g3⟩ := fin.out _ rfl
   refine bodyPost_ret (results_cell_row rfl _ _ (w.heap.size + 1) 26 #[.slice V m cv, .int .i64 l, .int .i64 u] (0, 0) _ rfl g1 Tryz.underlying26 rfl (by kernel_rfl)) rfl ⟨_, rfl, g2, g3⟩
end Go.Proofs.YtbhpkeiofajbpaaGreatDoor

namespace Go.Proofs.YtbhpkeiofajbpaaGreatDoor
open Go.RowKit Go.Proofs.YtbhpkeiofajbpaaGreatDoorW.PrintWords
set_option linter.unusedVariables false
set_option linter.unusedSimpArgs false

end Go.Proofs.YtbhpkeiofajbpaaGreatDoor

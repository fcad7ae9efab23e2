/- Parts: AsmA. -/
import Derived.Test.YtbhpkeiofajbpaaGreatDoorB24
import Derived.Test.YtbhpkeiofajbpaaGreatDoorB18
/- asm.Assemble: the walk. -/
namespace Go.Proofs.YtbhpkeiofajbpaaGreatDoor
open Go.RowKit Go.Proofs.YtbhpkeiofajbpaaGreatDoorW.PrintWords
set_option linter.unusedVariables false
set_option linter.unusedSimpArgs false
attribute [local go_sem] Oper.semAt_some run_makeMap

theorem asmF_stop {t : List UInt8} {pre rest : List (List UInt8)} (h : linesF t = pre ++ rest) (hb : (allF pre 0 Src.zero).2.2 ≠ 0) : asmF t = (Pg.zero, (allF pre 0 Src.zero).2.1, (allF pre 0 Src.zero).2.2) := by
 unfold asmF
 rw [h, allF_stop rest pre 0 Src.zero hb]
 simp only []
 rw [if_pos hb]
theorem asmF_go {t : List UInt8} (hb : (allF (linesF t) 0 Src.zero).2.2 = 0) : asmF t =
  match fixJ (allF (linesF t) 0 Src.zero).1 0 [] with
  | .inr e => (Pg.zero, e, 10)
  | .inl k => match (allF (linesF t) 0 Src.zero).1.place [108, 111, 99, 107], (allF (linesF t) 0 Src.zero).1.place [117, 110, 108, 111, 99, 107] with
   | some a, some b => (⟨k, a, b⟩, 0, 0)
   | _, _ => (Pg.zero, 0, 10) := by
 unfold asmF
 rw [fixJ_zero]
 simp only []
 rw [if_neg (by rw [hb]; simp)]
 cases fixF (allF (linesF t) 0 Src.zero).1 (allF (linesF t) 0 Src.zero).1.l (allF (linesF t) 0 Src.zero).1.names (allF (linesF t) 0 Src.zero).1.rows <;> rfl

def AEnd (w : World) (fin : Pg × Int × Int) (e : Ending) (w' : World) : Prop :=
 ∃ v, e = .returned (.tuple #[.agg #[v, .int .i64 fin.1.lock, .int .i64 fin.1.unlock], .int .i64 fin.2.1, .int .i64 fin.2.2]) ∧ InRow w' w.heap.size v fin.1.l ∧ Below w.heap.size w w'
/-- The results are read and the mark is taken in. -/
theorem asm_ret (w : World) (fin : Pg × Int × Int) (a : Act) (W : World) (D : Nat) (v : Value) (hd : a.defers = [{ target := .collected D, args := #[] }]) (hD : W.heap[D]? = some (.deferred (some []))) (hN : w.heap.size + 8 ≤ D)
  (h2 : a.tmps.getD 2 undef = .pointer (some ⟨w.heap.size, 0, none⟩)) (h3 : a.tmps.getD 3 undef = .pointer (some ⟨w.heap.size + 1, 0, none⟩)) (h4 : a.tmps.getD 4 undef = .pointer (some ⟨w.heap.size + 2, 0, none⟩))
  (c2 : W.heap[w.heap.size]? = some (.cells #[v, .int .i64 fin.1.lock, .int .i64 fin.1.unlock] 36 (0, 0))) (c3 : W.heap[w.heap.size + 1]? = some (.cells #[.int .i64 fin.2.1] 3 (0, 0)))
  (c4 : W.heap[w.heap.size + 2]? = some (.cells #[.int .i64 fin.2.2] 39 (0, 0))) (hr : InRow W w.heap.size v fin.1.l) (hb : Below w.heap.size w W) :
  bodyPostM Fence.wide 9 Tryz.prog Tryz.f25 (AEnd w fin) .ret a W := by
 have far : ∀ {j : Nat} {o : Obj}, W.heap[j]? = some o → j < w.heap.size + 8 → (W.putObj D (.deferred none)).heap[j]? = some o := fun hj hlt => (World.putObj_heap_other (by omega)).trans hj
 refine ret_marks hd hD ⟨_, results_ccc rfl _ _ _ _ _ #[v, .int .i64 fin.1.lock, .int .i64 fin.1.unlock] (.int .i64 fin.2.1) (.int .i64 fin.2.2) (0, 0) (0, 0) (0, 0) _ h2 (far c2 (by omega)) Tryz.underlying36 rfl (by kernel_rfl) h3 ?_ h4 ?_, v, rfl, ?_, below_put hb (by omega) _⟩
 ·have c := far c3 (by omega)
  have c0 : (W.putObj D (.deferred none)).cell? ⟨w.heap.size + 1, 0, none⟩ = some (.int .i64 fin.2.1) := (blk_cell c 0).trans rfl
  go_simp
 ·have c := far c4 (by omega)
  have c0 : (W.putObj D (.deferred none)).cell? ⟨w.heap.size + 2, 0, none⟩ = some (.int .i64 fin.2.2) := (blk_cell c 0).trans rfl
  go_simp
 ·exact own_move hr fun j hj => by
   obtain ⟨cells, hc⟩ := own_typed hr j hj
   refine World.putObj_heap_other (fun e => ?_)
   subst e
   rw [hD] at hc
   cases hc

theorem new_at {w : World} {n : Nat} (h : w.heap.size = n) (o : Obj) : (w.alloc o).heap[n]? = some o := h ▸ blk_new w o
theorem AI.start (w : World) (t : List UInt8) :
  AI w ((((((((w.alloc (.cells #[.slice none 0 0, .int .i64 0, .int .i64 0] 36)).alloc (.cells #[.int .i64 0] 3)).alloc (.cells #[.int .i64 0] 39)).alloc (.map #[] 0)).alloc
  (.cells #[.slice none 0 0, .slice none 0 0, .slice none 0 0, .map (some (w.heap.size + 3))] 104)).alloc (.cells #[.pointer (some ⟨w.heap.size + 4, 0, none⟩)] 100)).alloc (.cells #[.int .i64 0] 3)).alloc (.cells #[.string ⟨t.toArray⟩] 9)) w.heap.size Src.zero 0 ∧ ((((((((w.alloc (.cells #[.slice none 0 0, .int .i64 0, .int .i64 0] 36)).alloc (.cells #[.int .i64 0] 3)).alloc (.cells #[.int .i64 0] 39)).alloc (.map #[] 0)).alloc
  (.cells #[.slice none 0 0, .slice none 0 0, .slice none 0 0, .map (some (w.heap.size + 3))] 104)).alloc (.cells #[.pointer (some ⟨w.heap.size + 4, 0, none⟩)] 100)).alloc (.cells #[.int .i64 0] 3)).alloc (.cells #[.string ⟨t.toArray⟩] 9)).heap[w.heap.size + 7]? = some (.cells #[.string ⟨t.toArray⟩] 9 (0, 0)) ∧ ((((((((w.alloc (.cells #[.slice none 0 0, .int .i64 0, .int .i64 0] 36)).alloc (.cells #[.int .i64 0] 3)).alloc (.cells #[.int .i64 0] 39)).alloc (.map #[] 0)).alloc
  (.cells #[.slice none 0 0, .slice none 0 0, .slice none 0 0, .map (some (w.heap.size + 3))] 104)).alloc (.cells #[.pointer (some ⟨w.heap.size + 4, 0, none⟩)] 100)).alloc (.cells #[.int .i64 0] 3)).alloc (.cells #[.string ⟨t.toArray⟩] 9)).heap.size = w.heap.size + 8 := by
 have hm := LMap.made (((w.alloc (.cells #[.slice none 0 0, .int .i64 0, .int .i64 0] 36)).alloc (.cells #[.int .i64 0] 3)).alloc (.cells #[.int .i64 0] 39))
 obtain ⟨w1, e1⟩ : ∃ x, w.alloc (.cells #[.slice none 0 0, .int .i64 0, .int .i64 0] 36) = x := ⟨_, rfl⟩
 have z1 : w1.heap.size = w.heap.size + 1 := by rw [← e1]; simp
 have n0 : w1.heap[w.heap.size]? = _ := e1 ▸ blk_new w _
 have b1 : Below w.heap.size w w1 := e1 ▸ (Below.refl _ w).alloc (Nat.le_refl _) _
 rw [e1] at hm ⊢
 obtain ⟨w2, e2⟩ : ∃ x, w1.alloc (.cells #[.int .i64 0] 3) = x := ⟨_, rfl⟩
 have z2 : w2.heap.size = w.heap.size + 2 := by rw [← e2]; simp [z1]
 have n1 : w2.heap[w.heap.size + 1]? = _ := e2 ▸ new_at z1 _
 replace n0 := e2 ▸ blk_old n0 (.cells #[.int .i64 0] 3)
 have b2 : Below w.heap.size w w2 := e2 ▸ b1.alloc (by omega) _
 rw [e2] at hm ⊢
 obtain ⟨w3, e3⟩ : ∃ x, w2.alloc (.cells #[.int .i64 0] 39) = x := ⟨_, rfl⟩
 have z3 : w3.heap.size = w.heap.size + 3 := by rw [← e3]; simp [z2]
 have n2 : w3.heap[w.heap.size + 2]? = _ := e3 ▸ new_at z2 _
 replace n0 := e3 ▸ blk_old n0 (.cells #[.int .i64 0] 39)
 replace n1 := e3 ▸ blk_old n1 (.cells #[.int .i64 0] 39)
 have b3 : Below w.heap.size w w3 := e3 ▸ b2.alloc (by omega) _
 rw [e3] at hm ⊢
 rw [z3] at hm
 obtain ⟨w4, e4⟩ : ∃ x, w3.alloc (.map #[] 0) = x := ⟨_, rfl⟩
 have z4 : w4.heap.size = w.heap.size + 4 := by rw [← e4]; simp [z3]
 have k3 : Below w3.heap.size w3 w4 := e4 ▸ below_new w3 _
 rw [e4] at hm ⊢
 obtain ⟨w5, e5⟩ : ∃ x, w4.alloc (.cells #[.slice none 0 0, .slice none 0 0, .slice none 0 0, .map (some (w.heap.size + 3))] 104) = x := ⟨_, rfl⟩
 have z5 : w5.heap.size = w.heap.size + 5 := by rw [← e5]; simp [z4]
 have n4 : w5.heap[w.heap.size + 4]? = _ := e5 ▸ new_at z4 _
 have k4 : Below w4.heap.size w4 w5 := e5 ▸ below_new w4 _
 rw [e5]
 obtain ⟨w6, e6⟩ : ∃ x, w5.alloc (.cells #[.pointer (some ⟨w.heap.size + 4, 0, none⟩)] 100) = x := ⟨_, rfl⟩
 have z6 : w6.heap.size = w.heap.size + 6 := by rw [← e6]; simp [z5]
 have n5 : w6.heap[w.heap.size + 5]? = _ := e6 ▸ new_at z5 _
 have k5 : Below w5.heap.size w5 w6 := e6 ▸ below_new w5 _
 rw [e6]
 obtain ⟨w7, e7⟩ : ∃ x, w6.alloc (.cells #[.int .i64 0] 3) = x := ⟨_, rfl⟩
 have z7 : w7.heap.size = w.heap.size + 7 := by rw [← e7]; simp [z6]
 have n6 : w7.heap[w.heap.size + 6]? = _ := e7 ▸ new_at z6 _
 have k6 : Below w6.heap.size w6 w7 := e7 ▸ below_new w6 _
 rw [e7]
 obtain ⟨w8, e8⟩ : ∃ x, w7.alloc (.cells #[.string ⟨t.toArray⟩] 9) = x := ⟨_, rfl⟩
 have z8 : w8.heap.size = w.heap.size + 8 := by rw [← e8]; simp [z7]
 have n7 : w8.heap[w.heap.size + 7]? = _ := e8 ▸ new_at z7 _
 have k7 : Below w7.heap.size w7 w8 := e8 ▸ below_new w7 _
 rw [e8]
 have k48 : Below w4.heap.size w4 w8 := ((k4.trans (k5.mono (by omega))).trans (k6.mono (by omega))).trans (k7.mono (by omega))
 have k38 : Below w3.heap.size w3 w8 := k3.trans (k48.mono (by omega))
 have k58 : Below w5.heap.size w5 w8 := (k5.trans (k6.mono (by omega))).trans (k7.mono (by omega))
 have k68 : Below w6.heap.size w6 w8 := k6.trans (k7.mono (by omega))
 have nn : ∀ j : Nat, (Value.slice none 0 0).ownBlock = some j → w.heap.size + 8 ≤ j := fun j h => by cases h
 exact ⟨⟨b3.trans (k38.mono (by omega)), blk_keep k38 n0, blk_keep k38 n1, blk_keep k38 n2, blk_keep k68 n5, blk_keep k7 n6, by omega, ⟨rfl, rfl, by simp [Src.zero], Nat.le_refl _, fun s h => by cases h⟩,
  _, _, _, ⟨blk_keep k58 n4, .nil _ _, .nil _ _, .nil _ _, hm.keep (k48.block _ hm.lt), by omega, by omega⟩, nn, nn, nn⟩, n7, z8⟩

set_option maxHeartbeats 16000000 in
set_option maxRecDepth 100000 in
theorem asm_calls (t : List UInt8) (w : World) (he : Env w) (ht : t.length ≤ 90000) :
  Calls Tryz.prog 25 #[.string ⟨t.toArray⟩] w fun e w' => ∃ v, e = .returned (.tuple #[.agg #[v, .int .i64 (asmF t).1.lock, .int .i64 (asmF t).1.unlock], .int .i64 (asmF t).2.1, .int .i64 (asmF t).2.2]) ∧
   InRow w' w.heap.size v (asmF t).1.l ∧ Below w.heap.size w w' := by
 obtain ⟨fin, hA⟩ : ∃ fin, asmF t = fin := ⟨_, rfl⟩
 rw [hA]
 refine callsIn_wide.1 (callsIn_of_wp_marks (n := 9) Tryz.func25 rfl trivial ?_ rfl)
 simp only [Tryz.ntmps25, List.size_toArray, List.length_cons, List.length_nil, Nat.reduceAdd, Nat.reduceSub, Array.replicate_succ, Array.replicate_zero, List.push_toArray, List.append_toArray, List.nil_append, List.cons_append]
 refine wpIn_wide.2 ?_
 have hQ := Aside0.mk (fun a W D v => asm_ret w fin a W D v)
 change Code.wp Tryz.prog _ (bodyPostM Fence.wide 9 Tryz.prog Tryz.f25 (AEnd w fin)) _ w
 generalize bodyPostM Fence.wide 9 Tryz.prog Tryz.f25 (AEnd w fin) = Q at hQ ⊢
 replace hA := Aside0.mk hA
 have L := Aside0.mk (fun W => lines_calls t W)
 go_wp2_with fail
 refine (L.out _).mono ?_
 rintro e w1 ⟨rfl, rfl⟩
 go_wp2_with fail
 simp only [Nat.add_assoc, Nat.reduceAdd]
 obtain ⟨hI0, h70, hz0⟩ := AI.start w t
 generalize ((((((((w.alloc (.cells #[.slice none 0 0, .int .i64 0, .int .i64 0] 36)).alloc (.cells #[.int .i64 0] 3)).alloc (.cells #[.int .i64 0] 39)).alloc (.map #[] 0)).alloc  (.cells #[.slice none 0 0, .slice none 0 0, .slice none 0 0, .map (some (w.heap.size + 3))] 104)).alloc (.cells #[.pointer (some ⟨w.heap.size + 4, 0, none⟩)] 100)).alloc (.cells #[.int .i64 0] 3)).alloc (.cells #[.string ⟨t.toArray⟩] 9)) = W0 at *
 refine wpIn_wide.1 (range_cell (F := Fence.wide) (n := 9) (P := Tryz.prog) (gf := 80) (lb := #[.pointer (some ⟨w.heap.size + 7, 0, none⟩)]) rfl (by decide) rfl trivial (fun _ _ => rfl)
  (enc := fun x : List UInt8 => Value.string ⟨x.toArray⟩) (c := w.heap.size + 7) (by omega) (lines_iter _ t _ W0 (by omega) h70)
  (fun pre W => (allF pre 0 Src.zero).2.2 = 0 ∧ AI w W w.heap.size (allF pre 0 Src.zero).1 pre.length) (fun pre W => (allF pre 0 Src.zero).2.2 ≠ 0 ∧ AX w W w.heap.size (allF pre 0 Src.zero).2.1 (allF pre 0 Src.zero).2.2)
  ?hI ?hIx ?hIp ?hIxp ?h0 ?a1 ?hassign ?hbody ?hdone ?hstop)
 case hassign =>
  intro l x W K hK
  gi_wp2
  exact hK
 case hI => exact ⟨fun s W W' h hb => ⟨h.1, h.2.keep hb⟩, fun s W v h => ⟨h.1, h.2.cell7 0 v⟩⟩
 case hIx => exact ⟨fun s W W' h hb => ⟨h.1, h.2.far (h.2.b.trans (hb.mono (Nat.le_of_lt (blk_lt h.2.c2)))) fun j hj => hb.block j (by have := blk_lt h.2.c4; omega)⟩,
  fun s W v h => ⟨h.1, h.2.far (h.2.b.setCell (show w.heap.size ≤ w.heap.size + 7 by omega) v) fun j hj => Below.heap_setCell W ⟨w.heap.size + 7, 0, none⟩ v j (show j ≠ w.heap.size + 7 by omega)⟩⟩
 case hIp => exact fun s W l o o' h hl ho hn => ⟨h.1, h.2.put (by omega) ho hn⟩
 case hIxp => exact fun s W l o o' h hl ho hn => ⟨h.1, h.2.far (below_put h.2.b (by omega) o') fun j hj => World.putObj_heap_other (by omega)⟩
 case h0 => exact ⟨rfl, hI0⟩
 case hbody =>
  rintro l pre x W ⟨rest, hsp⟩ ⟨hi0, hi⟩
  have hx : x.length ≤ 90000 := Nat.le_trans (linesF_le t x (by rw [hsp]; simp)) ht
  have hpre : pre.length + 1 ≤ 90000 := by
   have h1 := linesF_many t
   rw [hsp] at h1
   simp at h1
   omega
  have hsn := allF_snoc x pre 0 Src.zero hi0
  generalize allF pre 0 Src.zero = r0 at *
  have hw6 : IntKind.i64.wrap ((pre.length : Int) + 1) = (pre.length : Int) + 1 := by rw [IntKind.wrap_i64]; omega
  have hi1 := hi.num (pre.length + 1) ⟨hi.ok.n, hi.ok.r, hi.ok.l, Nat.le_succ_of_le hi.ok.b, hi.ok.s⟩
  have c6 : W.cell? ⟨w.heap.size + 6, 0, none⟩ = some (.int .i64 (pre.length : Int)) := (blk_cell hi.c6 0).trans rfl
  have f6 := blk_frozen hi.c6 0
  have z6 : w.heap.size + 6 < W.heap.size := blk_lt hi.c6
  have e61 : ((pre.length + 1 : Nat) : Int) = (pre.length : Int) + 1 := by omega
  rw [e61] at hi1
  obtain ⟨v0, v1, v2, hs, o0, o1, o2⟩ := hi1.s
  have C := Aside0.mk (line_calls _ _ _ _ (pre.length + 1) _ _ _ _ x ((pre.length : Int) + 1) (he.below (hi1.b)) hs hx (by have := hi1.z; omega) hi1.ok (by omega))
  have hok := lineF_ok r0.1 x ((pre.length : Int) + 1) hi.ok
  have c5 : W.cell? ⟨w.heap.size + 5, 0, none⟩ = some (.pointer (some ⟨w.heap.size + 4, 0, none⟩)) := (blk_cell hi.c5 0).trans rfl
  have hk6 : KeepsFrom W0.heap.size W (W.setCell ⟨w.heap.size + 6, 0, none⟩ (.int .i64 ((pre.length : Int) + 1))) := KeepsFrom.setCell _ (show w.heap.size + 6 < W0.heap.size by omega)
  have hc6 : (W.setCell ⟨w.heap.size + 6, 0, none⟩ (.int .i64 ((pre.length : Int) + 1))).heap[w.heap.size + 7]? = W.heap[w.heap.size + 7]? := Below.heap_setCell W ⟨w.heap.size + 6, 0, none⟩ _ _ (show w.heap.size + 7 ≠ w.heap.size + 6 by omega)
  rw [Int.zero_add] at hsn
  replace hi1 := Aside0.mk hi1
  replace hs := Aside0.mk hs
  replace hsn := Aside0.mk hsn
  replace hk6 := Aside0.mk hk6
  replace hc6 := Aside0.mk hc6
  replace hok := Aside0.mk hok
  clear hi e61 hsp
  have hline := Aside0.mk (fun (W1 : World) (u0 u1 u2 : Value) (hs1 : SrcAt W1 w.heap.size (w.heap.size + 4) (w.heap.size + 3) u0 u1 u2 (lineF r0.1 x ((pre.length : Int) + 1)).1) hK1 => hi1.out.line hok.out o0 o1 o2 hs1 hK1)
  have hkl := Aside0.mk (fun (W1 : World) (u0 u1 u2 : Value) hK1 => KeepsFrom.line (W1 := W1) (u0 := u0) (u1 := u1) (u2 := u2) (B := W0.heap.size) hs.out (by omega) (by omega) hK1)
  clear o0 o1 o2 hs hi1 hok
  generalize lineF r0.1 x ((pre.length : Int) + 1) = ln at *
  obtain ⟨x', er⟩ := ln
  dsimp only at hline hsn C
  gi_wp2
  refine ⟨trivial, ?_⟩
  refine CallsIn.mono (CallsIn.inRound l (callsIn_wide.2 C.out)) ?_
  rintro e W1 ⟨rfl, u0, u1, u2, hs1, hK1⟩
  obtain ⟨hi2, hc2⟩ := hline.out _ _ _ _ hs1 hK1
  have hk2 := hk6.out.trans (hkl.out _ _ _ _ hK1)
  have hcc := hc2.trans hc6.out
  clear hline hkl hk6 hc6 hs1 hK1 C hc2
  by_cases her : er = 0
  ·subst her
   have hr1 := Aside0.mk (show allF (pre ++ [x]) 0 Src.zero = (x', (pre.length : Int) + 1, 0) by rw [hsn.out, if_pos rfl])
   clear hsn
   replace hi2 := Aside0.mk hi2
   replace hk2 := Aside0.mk hk2
   replace hcc := Aside0.mk hcc
   gi_wp2
   have e2 : (pre ++ [x]).length = pre.length + 1 := by simp
   refine ⟨hk2.out, hcc.out, ?_⟩
   show (allF (pre ++ [x]) 0 Src.zero).2.2 = 0 ∧ AI w _ w.heap.size (allF (pre ++ [x]) 0 Src.zero).1 (pre ++ [x]).length
   rw [hr1.out, e2]
   exact ⟨rfl, hi2.out⟩
  ·have hr1 := Aside0.mk (show allF (pre ++ [x]) 0 Src.zero = (r0.1, (pre.length : Int) + 1, er) by rw [hsn.out, if_neg her])
   have hne : (er != 0) = true := by simpa using her
   have c6' : W1.cell? ⟨w.heap.size + 6, 0, none⟩ = some (.int .i64 ((pre.length : Int) + 1)) := (blk_cell hi2.c6 0).trans rfl
   have c20 : W1.cell? ⟨w.heap.size, 0, none⟩ = some (.slice none 0 0) := (blk_cell hi2.c2 0).trans rfl
   have c21 : W1.cell? ⟨w.heap.size, 1, none⟩ = some (.int .i64 0) := (blk_cell hi2.c2 1).trans rfl
   have c22 : W1.cell? ⟨w.heap.size, 2, none⟩ = some (.int .i64 0) := (blk_cell hi2.c2 2).trans rfl
   have c3 : W1.cell? ⟨w.heap.size + 1, 0, none⟩ = some (.int .i64 0) := (blk_cell hi2.c3 0).trans rfl
   have c4 : W1.cell? ⟨w.heap.size + 2, 0, none⟩ = some (.int .i64 0) := (blk_cell hi2.c4 0).trans rfl
   have f20 := blk_frozen hi2.c2 0
   have f21 := blk_frozen hi2.c2 1
   have f22 := blk_frozen hi2.c2 2
   have f3 := blk_frozen hi2.c3 0
   have f4 := blk_frozen hi2.c4 0
   have z0 : w.heap.size < W1.heap.size := blk_lt hi2.c2
   have z1 : w.heap.size + 1 < W1.heap.size := blk_lt hi2.c3
   have z2 : w.heap.size + 2 < W1.heap.size := blk_lt hi2.c4
   replace hi2 := Aside0.mk hi2
   replace hk2 := Aside0.mk hk2
   clear hsn hcc
   gi_wp2
   gi_region
   all_goals (
    gi_wp2
    refine ⟨?_, ?_⟩
    ·exact KeepsFrom.five hk2.out (by omega) _ _ _ _ _
    ·show (allF (pre ++ [x]) 0 Src.zero).2.2 ≠ 0 ∧ AX w _ w.heap.size (allF (pre ++ [x]) 0 Src.zero).2.1 (allF (pre ++ [x]) 0 Src.zero).2.2
     rw [hr1.out]
     exact ⟨her, AX.of_drew hi2.out _ _⟩)
 case hdone =>
  rintro D xs W hD rfl ⟨hi0, hi⟩ hd
  have hfin := Aside0.mk (hA.out.symm.trans (asmF_go hi0))
  have hok := hi.ok
  generalize (allF (linesF t) 0 Src.zero).1 = x at *
  obtain ⟨v0, v1, v2, hs, o0, o1, o2⟩ := hi.s
  obtain ⟨A, c, rfl⟩ : ∃ A c, v0 = .slice A x.l.length c := by
   rcases hs.r0.2 with ⟨rfl, h0⟩ | ⟨g, cap, cur, rfl, _⟩
   ·exact ⟨none, 0, by rw [h0]⟩
   ·exact ⟨_, _, rfl⟩
  have hB : BI w W w.heap.size D (.slice A x.l.length c) v1 v2 x x.l := ⟨hi.b, hi.c2, hi.c3, hi.c4, hi.c5, hd, hs, o0, o1, o2⟩
  have c5 : W.cell? ⟨w.heap.size + 5, 0, none⟩ = some (.pointer (some ⟨w.heap.size + 4, 0, none⟩)) := (blk_cell hB.c5 0).trans rfl
  have s0 : W.cell? ⟨w.heap.size + 4, 0, none⟩ = some (.slice A x.l.length c) := (blk_cell hB.s.s 0).trans rfl
  have hJ0 := Aside0.mk (show fixJ x 0 [] = fixJ x 0 [] from rfl)
  generalize hfx : fixJ x 0 [] = fx at hfin
  rw [hfx] at hJ0
  replace hJ0 := Aside0.mk hfx
  replace hB := Aside0.mk hB
  have n0 := hok.n
  have r0 := hok.r
  have l0 := hok.l
  have hok5 := hok.s
  clear hi hi0 hd hs hfx hI0 h70 o0 o1 o2 hok hA
  dsimp only
  obtain ⟨n, hn⟩ : ∃ n, x.l.length = n := ⟨_, rfl⟩
  rw [hn] at hB s0 n0 r0 l0
  replace hn := Aside0.mk hn
  go_wp2_with fail
  go_loopw [38] (fun v38 wr => ∃ (kk : Nat) (done : List In), v38 = .int .i64 kk ∧ kk ≤ n ∧ Aside0 (done.length = kk) ∧ Aside0 (fixJ x kk done = fx) ∧ Aside0 (BI w wr w.heap.size D (.slice A n c) v1 v2 x (done ++ x.l.drop kk))) (fun v38 _ => n - (intOf v38).toNat)
  case atStart => exact ⟨0, [], rfl, Nat.zero_le _, ⟨rfl⟩, ⟨hJ0.out⟩, ⟨by simpa using hB.out⟩⟩
  case round =>
   obtain ⟨kk, done, rfl, hkk, hdl, hJ, hB⟩ := hrel
   have hlen : (done ++ x.l.drop kk).length = n := by rw [List.length_append, List.length_drop, hn.out, hdl.out]; omega
   have c5 : wr.cell? ⟨w.heap.size + 5, 0, none⟩ = some (.pointer (some ⟨w.heap.size + 4, 0, none⟩)) := (blk_cell hB.out.c5 0).trans rfl
   by_cases hlt : kk < n
   ·obtain ⟨g0, c0', hv, hc0, _, _, _, cs, hg0, hcs⟩ := hB.out.s.r0.cell (show 0 < (done ++ x.l.drop kk).length by omega)
    obtain ⟨rfl, rfl⟩ : A = some ⟨g0, 0, none⟩ ∧ c = c0' := by
     injection hv with h1 h2 h3
     exact ⟨h1, h3⟩
    obtain ⟨g1, c1, rfl, hc1, hn1⟩ := hB.out.s.r1.cell (show 0 < x.names.length by omega)
    have nk := hn1 kk (show kk < x.names.length by omega)
    dsimp only at nk
    have hstep := fixJ_cons (x := x) (k := kk) (done := done) (by rw [hn.out]; exact hlt) (by rw [hn.out]; exact n0) (by rw [hn.out]; exact r0)
    rw [hJ.out] at hstep
    have hnl : (x.names.getD kk []).length ≤ 16 := hok5 _ (by rw [List.getD_eq_getElem?_getD, List.getElem?_eq_getElem (show kk < x.names.length by omega)]; exact List.getElem_mem _)
    generalize x.names.getD kk [] = nm at nk hstep hnl
    have s0 : wr.cell? ⟨w.heap.size + 4, 0, none⟩ = some (.slice (some ⟨g0, 0, none⟩) n c) := (blk_cell hB.out.s.s 0).trans rfl
    have s1 : wr.cell? ⟨w.heap.size + 4, 1, none⟩ = some (.slice (some ⟨g1, 0, none⟩) n c1) := (blk_cell hB.out.s.s 1).trans (by rw [← n0]; rfl)
    have hk0 : (0 : Int) ≤ (kk : Int) := by omega
    have hk1 : (kk : Int) < (n : Int) := by omega
    have hkw : IntKind.i64.wrap ((kk : Int) + 1) = (kk : Int) + 1 := by rw [IntKind.wrap_i64]; omega
    have hkc : (kk : Int) + 1 = ((kk + 1 : Nat) : Int) := by omega
    have hdl1 : ∀ i : In, (done ++ [i]).length = kk + 1 := fun i => by rw [List.length_append, hdl.out]; rfl
    replace hstep := Aside0.mk hstep
    replace hdl1 := Aside0.mk hdl1
    replace hkc := Aside0.mk hkc
    clear hn1 hv hc1
    cases nm with
    | nil =>
     go_wp2_with fail
     go_roundw
     case rel =>
      refine ⟨kk + 1, done ++ [x.l.getD kk In.zero], congrArg (Value.int .i64) hkc.out, hlt, ⟨hdl1.out _⟩, ⟨(hstep.out.trans (if_pos rfl)).symm⟩, ⟨?_⟩⟩
      have e := hB.out
      rw [drop_getD x.l kk In.zero (by rw [hn.out]; exact hlt)] at e
      simpa using e
     case measure => simp [intOf]; omega
    | cons b bs =>
     obtain ⟨p, bb, hpt, hpf, hp0, hpb⟩ := place_two x (b :: bs) n hn.out
     have P := fun (W : World) (hW : Aside0 (BI w W w.heap.size D (.slice (some ⟨g0, 0, none⟩) n c) (.slice (some ⟨g1, 0, none⟩) x.names.length c1) v2 x (done ++ x.l.drop kk))) =>
      place_calls (w.heap.size + 4) (w.heap.size + 3) n c (some ⟨g0, 0, none⟩) (.slice (some ⟨g1, 0, none⟩) x.names.length c1) v2 x.labels (b :: bs) (by omega) W hW.out.s.s hW.out.s.m
     simp only [hp0, hpb] at P
     replace P := Aside0.mk P
     clear hp0 hpb
     have hS : Aside0 (BI w wr.drew w.heap.size D (.slice (some ⟨g0, 0, none⟩) n c) (.slice (some ⟨g1, 0, none⟩) x.names.length c1) v2 x (done ++ x.l.drop kk)) ∧
       wr.drew.cell? ⟨w.heap.size + 5, 0, none⟩ = some (.pointer (some ⟨w.heap.size + 4, 0, none⟩)) ∧ wr.drew.cell? ⟨w.heap.size + 4, 1, none⟩ = some (.slice (some ⟨g1, 0, none⟩) n c1) ∧ wr.drew.cell? ⟨g1, kk, none⟩ = some (.string ⟨(b :: bs).toArray⟩) :=
      bi_next (below_drew (Below.refl _ _)) ⟨hB, c5, s1, nk⟩
     go_wp2_with fail
     go_region_held3 (fun W => Aside0 (BI w W w.heap.size D (.slice (some ⟨g0, 0, none⟩) n c) (.slice (some ⟨g1, 0, none⟩) x.names.length c1) v2 x (done ++ x.l.drop kk)) ∧
       W.cell? ⟨w.heap.size + 5, 0, none⟩ = some (.pointer (some ⟨w.heap.size + 4, 0, none⟩)) ∧ W.cell? ⟨w.heap.size + 4, 1, none⟩ = some (.slice (some ⟨g1, 0, none⟩) n c1) ∧ W.cell? ⟨g1, kk, none⟩ = some (.string ⟨(b :: bs).toArray⟩))
      (first | exact hS | exact bi_next hb (by assumption))
      (first | (go_at_call 51; (with_reducible refine (P.out _ (by exact bi_left (by assumption))).mono ?_); rintro e w' ⟨rfl, hb⟩))
     obtain ⟨hB2, hc5, hs1, hnk⟩ := bi_next (W := w') (Below.refl _ _) (by assumption)
     clear hS P hb
     cases bb with
     | true =>
      have hpl := hpt rfl
      have hfx : fx = fixJ x (kk + 1) (done ++ [{ x.l.getD kk In.zero with q := (p : Int) }]) := by
       rw [hstep.out, if_neg (by simp), hpl]
      have hput := Aside0.mk (hB2.out.put (k := kk) (show kk < (done ++ x.l.drop kk).length by omega) (p : Int))
      obtain ⟨g0', c0'', hv, _, _, _, _, cs2, hg2, hcs2⟩ := hB2.out.s.r0.cell (show 0 < (done ++ x.l.drop kk).length by omega)
      obtain rfl : g0 = g0' := by
       injection hv with h1 h2 h3
       injection h1 with h1
       injection h1
      have hcs3 : kk * 8 + 7 < cs2.size := by
       have : (done ++ x.l.drop kk).length * 8 ≤ cs2.size := hcs2
       rw [hlen] at this
       omega
      have q7 : w'.cell? ⟨g0, kk * 8 + 7, none⟩ = some cs2[kk * 8 + 7] := (blk_cell hg2 (kk * 8 + 7)).trans (by simp [hcs3])
      have q7f := blk_frozen hg2 (kk * 8 + 7)
      have hs0 : w'.cell? ⟨w.heap.size + 4, 0, none⟩ = some (.slice (some ⟨g0, 0, none⟩) n c) := (blk_cell hB2.out.s.s 0).trans rfl
      have z7 : g0 < w'.heap.size := blk_lt hg2
      generalize cs2[kk * 8 + 7] = v7 at q7
      replace hfx := Aside0.mk hfx
      clear hpt hpf hcs hg0 hg2 hcs2 hcs3 hv hpl hstep
      go_wp2_with fail
      go_roundw
      case rel =>
       refine ⟨kk + 1, done ++ [{ x.l.getD kk In.zero with q := (p : Int) }], congrArg (Value.int .i64) hkc.out, hlt, ⟨hdl1.out _⟩, ⟨hfx.out.symm⟩, ⟨?_⟩⟩
       have hltx : kk < x.l.length := by rw [hn.out]; exact hlt
       have e := hput.out
       rw [get_at done x.l kk In.zero hdl.out hltx, set_at done x.l kk _ hdl.out hltx] at e
       exact e
      case measure => simp [intOf]; omega
     | false =>
      have hpl := hpf rfl
      have hfx : fx = .inr (x.rows.getD kk 0) := by rw [hstep.out, if_neg (by simp), hpl]
      subst hfx
      have hf2 : fin = (Pg.zero, x.rows.getD kk 0, 10) := hfin.out
      obtain ⟨g2, c2', rfl, hc2, hn2⟩ := hB2.out.s.r2.cell (show 0 < x.rows.length by omega)
      have nk2 := hn2 kk (show kk < x.rows.length by omega)
      dsimp only at nk2
      generalize x.rows.getD kk 0 = row at *
      subst hf2
      have hs2 : w'.cell? ⟨w.heap.size + 4, 2, none⟩ = some (.slice (some ⟨g2, 0, none⟩) n c2') := (blk_cell hB2.out.s.s 2).trans (by rw [← r0]; rfl)
      have hg2 := hB2.out.o2 g2 rfl
      have ne0 : ¬ w.heap.size = g2 := by omega
      have ne1 : ¬ w.heap.size + 1 = g2 := by omega
      have ne2 : ¬ w.heap.size + 2 = g2 := by omega
      have hS : w'.drew.cell? ⟨w.heap.size + 5, 0, none⟩ = some (.pointer (some ⟨w.heap.size + 4, 0, none⟩)) ∧ w'.drew.cell? ⟨w.heap.size + 4, 2, none⟩ = some (.slice (some ⟨g2, 0, none⟩) n c2') ∧ w'.drew.cell? ⟨g2, kk, none⟩ = some (.int .i64 row) := ⟨hc5, hs2, nk2⟩
      have c20 : w'.cell? ⟨w.heap.size, 0, none⟩ = some (.slice none 0 0) := (blk_cell hB2.out.c2 0).trans rfl
      have c21 : w'.cell? ⟨w.heap.size, 1, none⟩ = some (.int .i64 0) := (blk_cell hB2.out.c2 1).trans rfl
      have c22 : w'.cell? ⟨w.heap.size, 2, none⟩ = some (.int .i64 0) := (blk_cell hB2.out.c2 2).trans rfl
      have c3 : w'.cell? ⟨w.heap.size + 1, 0, none⟩ = some (.int .i64 0) := (blk_cell hB2.out.c3 0).trans rfl
      have c4 : w'.cell? ⟨w.heap.size + 2, 0, none⟩ = some (.int .i64 0) := (blk_cell hB2.out.c4 0).trans rfl
      have f20 := blk_frozen hB2.out.c2 0
      have f21 := blk_frozen hB2.out.c2 1
      have f22 := blk_frozen hB2.out.c2 2
      have f3 := blk_frozen hB2.out.c3 0
      have f4 := blk_frozen hB2.out.c4 0
      have z0 : w.heap.size < w'.heap.size := blk_lt hB2.out.c2
      have z1 : w.heap.size + 1 < w'.heap.size := blk_lt hB2.out.c3
      have z2 : w.heap.size + 2 < w'.heap.size := blk_lt hB2.out.c4
      clear hn2 hc2 hpt hpf hpl hstep hg0 hcs
      go_wp2_with fail
      go_region_held3 (fun W => W.cell? ⟨w.heap.size + 5, 0, none⟩ = some (.pointer (some ⟨w.heap.size + 4, 0, none⟩)) ∧ W.cell? ⟨w.heap.size + 4, 2, none⟩ = some (.slice (some ⟨g2, 0, none⟩) n c2') ∧ W.cell? ⟨g2, kk, none⟩ = some (.int .i64 row))
       (first | (with_reducible exact hS) | (with_reducible exact s1_far (by omega) hg2 (by assumption)) | (with_reducible exact s1_far (by omega) hg2 (s1_far (by omega) hg2 (s1_far (by omega) hg2 (by assumption))))) (first | fail)
      go_wp2
      obtain ⟨ab, a2, a3, a4, af⟩ := ax5d hB2.out.b hB2.out.c2 hB2.out.c3 hB2.out.c4 (.slice none 0 0) (.int .i64 0) (.int .i64 0) (.int .i64 row) (.int .i64 10) _ rfl
      exact hQ.out _ _ D (.slice none 0 0) rfl ((af D (by omega)).trans hB2.out.d) (by omega) rfl rfl rfl a2 a3 a4 (.nil _ _) ab
   ·obtain rfl : kk = n := by omega
    have hfx : fx = .inl done := by rw [← hJ.out]; exact fixJ_end x kk done (by rw [hn.out]; exact Nat.le_refl _)
    subst hfx
    have e0 : done ++ x.l.drop kk = done := by rw [List.drop_eq_nil_of_le (by rw [hn.out]; exact Nat.le_refl _), List.append_nil]
    rw [e0] at hB
    obtain ⟨p1, b1, hpt1, hpf1, hq1, hr1⟩ := place_two x [108, 111, 99, 107] kk hn.out
    obtain ⟨p2, b2, hpt2, hpf2, hq2, hr2⟩ := place_two x [117, 110, 108, 111, 99, 107] kk hn.out
    have P1 := fun (W : World) (hW : Aside0 (BI w W w.heap.size D (.slice A kk c) v1 v2 x done)) =>
     place_calls (w.heap.size + 4) (w.heap.size + 3) kk c A v1 v2 x.labels [108, 111, 99, 107] (by decide) W hW.out.s.s hW.out.s.m
    have P2 := fun (W : World) (hW : Aside0 (BI w W w.heap.size D (.slice A kk c) v1 v2 x done)) =>
     place_calls (w.heap.size + 4) (w.heap.size + 3) kk c A v1 v2 x.labels [117, 110, 108, 111, 99, 107] (by decide) W hW.out.s.s hW.out.s.m
    simp only [hq1, hr1] at P1
    simp only [hq2, hr2] at P2
    replace P1 := Aside0.mk P1
    replace P2 := Aside0.mk P2
    replace hpt1 := Aside0.mk hpt1
    replace hpf1 := Aside0.mk hpf1
    replace hpt2 := Aside0.mk hpt2
    replace hpf2 := Aside0.mk hpf2
    clear hq1 hr1 hq2 hr2 e0 hlt
    go_wp2_with fail
    refine (P1.out _ hB).mono ?_
    rintro e w1 ⟨rfl, hb1⟩
    replace hB := Aside0.mk (hB.out.keep hb1)
    have c5 : w1.cell? ⟨w.heap.size + 5, 0, none⟩ = some (.pointer (some ⟨w.heap.size + 4, 0, none⟩)) := (blk_cell hB.out.c5 0).trans rfl
    clear hb1 P1
    go_wp2_with fail
    refine (P2.out _ hB).mono ?_
    rintro e w2 ⟨rfl, hb2⟩
    replace hB := Aside0.mk (hB.out.keep hb2)
    have c5 : w2.cell? ⟨w.heap.size + 5, 0, none⟩ = some (.pointer (some ⟨w.heap.size + 4, 0, none⟩)) := (blk_cell hB.out.c5 0).trans rfl
    have s0 : w2.cell? ⟨w.heap.size + 4, 0, none⟩ = some (.slice A kk c) := (blk_cell hB.out.s.s 0).trans rfl
    have c20 : w2.cell? ⟨w.heap.size, 0, none⟩ = some (.slice none 0 0) := (blk_cell hB.out.c2 0).trans rfl
    have c21 : w2.cell? ⟨w.heap.size, 1, none⟩ = some (.int .i64 0) := (blk_cell hB.out.c2 1).trans rfl
    have c22 : w2.cell? ⟨w.heap.size, 2, none⟩ = some (.int .i64 0) := (blk_cell hB.out.c2 2).trans rfl
    have c3 : w2.cell? ⟨w.heap.size + 1, 0, none⟩ = some (.int .i64 0) := (blk_cell hB.out.c3 0).trans rfl
    have c4 : w2.cell? ⟨w.heap.size + 2, 0, none⟩ = some (.int .i64 0) := (blk_cell hB.out.c4 0).trans rfl
    have f20 := blk_frozen hB.out.c2 0
    have f21 := blk_frozen hB.out.c2 1
    have f22 := blk_frozen hB.out.c2 2
    have f3 := blk_frozen hB.out.c3 0
    have f4 := blk_frozen hB.out.c4 0
    have z0 : w.heap.size < w2.heap.size := blk_lt hB.out.c2
    have z1 : w.heap.size + 1 < w2.heap.size := blk_lt hB.out.c3
    have z2 : w.heap.size + 2 < w2.heap.size := blk_lt hB.out.c4
    clear hb2 P2
    by_cases hbb : b1 = true ∧ b2 = true
    ·obtain ⟨rfl, rfl⟩ := hbb
     have hf2 := hfin.out
     rw [hpt1.out rfl, hpt2.out rfl] at hf2
     have hf3 : fin = (⟨done, p1, p2⟩, 0, 0) := hf2
     subst hf3
     clear hf2 hfin
     go_wp2
     obtain ⟨ab, a2, a3, a4, af⟩ := ax5 hB.out.b hB.out.c2 hB.out.c3 hB.out.c4 (.slice A kk c) (.int .i64 p1) (.int .i64 p2) (.int .i64 0) (.int .i64 0) _ rfl
     exact hQ.out _ _ D (.slice A kk c) rfl ((af D (by omega)).trans hB.out.d) (by omega) rfl rfl rfl a2 a3 a4 (own_move hB.out.s.r0 (fun j hj => af j (by have := hB.out.o0 j hj; omega))) ab
    ·have hf3 : fin = (Pg.zero, 0, 10) := by
      rw [hfin.out]
      rcases Bool.eq_false_or_eq_true b1 with h1 | h1
      ·rcases Bool.eq_false_or_eq_true b2 with h2 | h2
       ·exact absurd ⟨h1, h2⟩ hbb
       ·rw [hpt1.out h1, hpf2.out h2]
      ·rw [hpf1.out h1]
     subst hf3
     obtain ⟨ab, a2, a3, a4, af⟩ := ax5 hB.out.b hB.out.c2 hB.out.c3 hB.out.c4 (.slice none 0 0) (.int .i64 0) (.int .i64 0) (.int .i64 0) (.int .i64 10) _ rfl
     have fine := Aside0.mk (fun a hd h2 h3 h4 => hQ.out a _ D (.slice none 0 0) hd ((af D (by omega)).trans hB.out.d) (by omega) h2 h3 h4 a2 a3 a4 (.nil _ _) ab)
     clear hfin hpt1 hpt2 hpf1 hpf2 ab a2 a3 a4 af
     cases b1 with
     | false =>
      go_wp2
      exact fine.out _ rfl rfl rfl rfl
     | true =>
      cases b2 with
      | true => exact absurd ⟨rfl, rfl⟩ hbb
      | false =>
       clear hbb
       go_wp2
       exact fine.out _ rfl rfl rfl rfl
 case hstop =>
  rintro D pre W hD ⟨rest, hsp⟩ ⟨hi0, hi⟩ hd
  have hfin := hA.out.symm.trans (asmF_stop hsp hi0)
  subst hfin
  refine wpIn_ret ?_
  exact hQ.out _ _ D (.slice none 0 0) rfl hd (by omega) rfl rfl rfl hi.c2 hi.c3 hi.c4 (.nil _ _) hi.b
end Go.Proofs.YtbhpkeiofajbpaaGreatDoor

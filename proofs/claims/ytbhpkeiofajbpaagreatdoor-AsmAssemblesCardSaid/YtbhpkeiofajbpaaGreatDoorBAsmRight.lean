/- asm.Right: may a program be? The walk: a search over the instructions with a closure. -/
import Derived.Test.YtbhpkeiofajbpaaGreatDoorBRightPlace
import Derived.Test.YtbhpkeiofajbpaaGreatDoorB26
import Derived.Test.YtbhpkeiofajbpaaGreatDoorB28
import Derived.Test.YtbhpkeiofajbpaaGreatDoorB07
import Derived.Test.YtbhpkeiofajbpaaGreatDoorB43
namespace Go.Proofs.YtbhpkeiofajbpaaGreatDoor
open Go.RowKit Go.Proofs.YtbhpkeiofajbpaaGreatDoorW.PrintWords
set_option linter.unusedVariables false
set_option linter.unusedSimpArgs false

set_option maxHeartbeats 4000000 in
set_option maxRecDepth 100000 in
theorem notright_calls (i : In) (n : Int) (hwk : i.wk) (c : Nat) (w : World) (hc : w.heap[c]? = some (.cells #[.int .i64 n] 3 (0, 0))) :
  Calls Tryz.prog 57 #[i.v, .pointer (some ⟨c, 0, none⟩)] w fun e w' => e = .returned (.bool (!rightF i n)) ∧ Below w.heap.size w w' := by
 have C := Aside0.mk (fun (W : World) => right_calls i n hwk W)
 have c0 : w.cell? ⟨c, 0, none⟩ = some (.int .i64 n) := (blk_cell hc 0).trans rfl
 generalize rightF i n = r at *
 obtain ⟨op, d, s, t, u, a, k, q⟩ := i
 have C' := C.out
 dsimp only [In.v] at C' ⊢
 replace C' := Aside0.mk C'
 have zc : c < w.heap.size := blk_lt hc
 have hb0 := Aside0.mk (below_new w (.cells #[.int .i64 op, .int .i64 d, .int .i64 s, .int .i64 t, .int .i64 u, .int .i64 a, .int .u32 k, .int .i64 q] 99))
 clear C hc
 go_enter Tryz.func57, Tryz.ntmps57
 go_wp2_with fail
 refine (C'.out _).mono ?_
 rintro e w1 ⟨rfl, hb⟩
 have hb1 := Aside0.mk (hb0.out.trans (hb.mono hb0.out.size))
 clear hb hb0
 go_wp2
 go_ret
 exact ⟨rfl, hb1.out⟩

/-- slices.IndexFunc with that closure: is there one that isn't right? -/
def IdxOk (fin : Bool) (e : Ending) : Prop := ∃ r : Int, e = .returned (.int .i64 r) ∧ (0 ≤ r ↔ fin = false)
theorem idx_drop {xs : List In} {n : Int} {k : Nat} (hk : k < xs.length) : (xs.drop k).all (fun i => rightF i n) = (rightF (xs.getD k In.zero) n && (xs.drop (k + 1)).all (fun i => rightF i n)) := by
 rw [drop_getD xs k In.zero hk, List.all_cons]
set_option maxHeartbeats 4000000 in
set_option maxRecDepth 100000 in
theorem index_calls (v : Value) (xs : List In) (n : Int) (c base : Nat) (w : World) (hr : InRow w base v xs) (hwk : ∀ i ∈ xs, i.wk) (hl : xs.length ≤ 1000) (hc : w.heap[c]? = some (.cells #[.int .i64 n] 3 (0, 0))) :
  Calls Tryz.prog 86 #[v, .func (.func 57) #[] #[.pointer (some ⟨c, 0, none⟩)]] w fun e w' => IdxOk (xs.all (fun i => rightF i n)) e ∧ Below w.heap.size w w' := by
 have hrd := Aside0.mk (InRow.rd hr)
 obtain ⟨A, c', rfl⟩ := hrd.out.slice
 obtain ⟨fin, hf⟩ : ∃ r, xs.all (fun i => rightF i n) = r := ⟨_, rfl⟩
 rw [hf]
 obtain ⟨m, hm⟩ : ∃ m, xs.length = m := ⟨_, rfl⟩
 rw [hm] at hl
 have C := Aside0.mk (fun (i : In) (hi : i ∈ xs) (W : World) (hb : Below w.heap.size w W) => notright_calls i n (hwk i hi) c W (blk_keep hb hc))
 rw [hm] at hrd ⊢
 replace hm := Aside0.mk hm
 replace hf := Aside0.mk hf
 clear hr hwk hc
 go_enter Tryz.func86, Tryz.ntmps86
 go_wp2_with fail
 go_loopw [5, 8] (fun v5 v8 wr => ∃ k : Nat, v8 = .int .i64 (k : Int) ∧ k ≤ m ∧ Aside0 ((xs.drop k).all (fun i => rightF i n) = fin) ∧ Aside0 (Below w.heap.size w wr)) (fun _ v8 _ => m - (intOf v8).toNat)
 case atStart => exact ⟨0, rfl, Nat.zero_le _, ⟨by simpa using hf.out⟩, ⟨Below.refl _ _⟩⟩
 case round =>
  obtain ⟨k, rfl, hk, hF, hB⟩ := hrel
  by_cases hlt : k < m
  ·have hkx : k < xs.length := by rw [hm.out]; exact hlt
   obtain ⟨g, c2, hv, hcell⟩ := (hrd.out.keep hB.out).cells (by omega)
   have hA : A = some ⟨g, 0, none⟩ := by injection hv
   subst hA
   have hstep := idx_drop (n := n) hkx
   rw [hF.out] at hstep
   have hmem : xs.getD k In.zero ∈ xs := by rw [getD_eq hkx]; exact List.getElem_mem hkx
   have CI := C.out _ hmem
   obtain ⟨⟨op, dd, s, t, uu, a, kk, q⟩, hi⟩ : ∃ i, xs.getD k In.zero = i := ⟨_, rfl⟩
   obtain ⟨a0, a1, a2, a3, a4, a5, a6, a7⟩ := in_cells_at hcell hkx hi
   rw [hi] at CI hstep
   have hk0 : (0 : Int) ≤ (k : Int) := by omega
   have hk1 : (k : Int) < (m : Int) := by omega
   have hkw : IntKind.i64.wrap ((k : Int) + 1) = (k : Int) + 1 := by rw [IntKind.wrap_i64]; omega
   generalize rightF ⟨op, dd, s, t, uu, a, kk, q⟩ n = r at hstep CI
   dsimp only [In.v] at CI
   replace CI := Aside0.mk (CI wr hB.out)
   replace hstep := Aside0.mk hstep
   clear hcell hv hmem hi hF
   go_wp2_with fail
   refine CI.out.mono ?_
   rintro e w' ⟨rfl, hb⟩
   have hB2 := Aside0.mk (hB.out.trans (hb.mono hB.out.size))
   clear hb hB CI
   cases r with
   | false =>
    have hfin : fin = false := hstep.out
    subst hfin
    go_wp2
    go_ret
    exact ⟨⟨(k : Int), rfl, Iff.intro (fun _ => rfl) (fun _ => hk0)⟩, hB2.out⟩
   | true =>
    have hF2 := Aside0.mk (show (xs.drop (k + 1)).all (fun i => rightF i n) = fin by rw [hstep.out]; rfl)
    go_wp2
    go_roundw
    case rel => exact ⟨k + 1, by go_num, hlt, hF2, hB2⟩
    case measure => simp [intOf]; omega
  ·obtain rfl : k = m := by omega
   have hge : ¬ (k : Int) < (k : Int) := by omega
   have hfin : fin = true := by rw [← hF.out, List.drop_eq_nil_of_le (by rw [hm.out]; exact Nat.le_refl _)]; rfl
   subst hfin
   go_wp2
   go_ret
   exact ⟨⟨-1, rfl, Iff.intro (fun h => absurd h (by decide)) (fun h => by cases h)⟩, hB.out⟩
set_option maxHeartbeats 4000000 in
set_option maxRecDepth 100000 in
theorem contains_calls (v : Value) (xs : List In) (n : Int) (c base : Nat) (w : World) (hr : InRow w base v xs) (hwk : ∀ i ∈ xs, i.wk) (hl : xs.length ≤ 1000) (hc : w.heap[c]? = some (.cells #[.int .i64 n] 3 (0, 0))) :
  Calls Tryz.prog 56 #[v, .func (.func 57) #[] #[.pointer (some ⟨c, 0, none⟩)]] w fun e w' => e = .returned (.bool (!xs.all (fun i => rightF i n))) ∧ Below w.heap.size w w' := by
 have C := Aside0.mk (index_calls v xs n c base w hr hwk hl hc)
 obtain ⟨A, c', rfl⟩ := (InRow.rd hr).slice
 generalize xs.all (fun i => rightF i n) = fin at *
 clear hr hwk hc
 go_enter Tryz.func56, Tryz.ntmps56
 go_wp2_with fail
 refine C.out.mono ?_
 rintro e w1 ⟨⟨r, rfl, hrf⟩, hb⟩
 have hb1 := Aside0.mk hb
 cases fin with
 | true =>
  have h0 : decide (0 ≤ r) = false := decide_eq_false (fun h => by have := hrf.1 h; cases this)
  clear hrf hb C
  go_wp2
  go_ret
  exact ⟨rfl, hb1.out⟩
 | false =>
  have h0 : decide (0 ≤ r) = true := decide_eq_true (hrf.2 rfl)
  clear hrf hb C
  go_wp2
  go_ret
  exact ⟨rfl, hb1.out⟩

set_option maxHeartbeats 4000000 in
set_option maxRecDepth 100000 in
/-- Right, of a program that is right. -/
theorem pright_calls (v : Value) (c : Pg) (base : Nat) (w : World) (hr : InRow w base v c.l) (hwk : ∀ i ∈ c.l, i.wk) (h : pgRight c = true) :
  Calls Tryz.prog 29 #[.agg #[v, .int .i64 c.lock, .int .i64 c.unlock]] w fun e w' => e = .returned (.bool true) ∧ Below w.heap.size w w' := by
 obtain ⟨l, a, b⟩ := c
 dsimp only at hr hwk h ⊢
 unfold pgRight at h
 dsimp only at h
 rw [Bool.and_eq_true, decide_eq_true_eq] at h
 obtain ⟨⟨h1, h2, h3, h4, h5, h6⟩, h7⟩ := h
 obtain ⟨A, c', rfl⟩ := (InRow.rd hr).slice
 have hr1 : ∀ (W : World), Below w.heap.size w W → InRow W base (.slice A l.length c') l := fun W hb => own_move hr (fun k hk => hb.block k (own_lt hr k hk))
 have C := Aside0.mk (fun (W : World) (cc : Nat) (hb : Below w.heap.size w W) (hc : W.heap[cc]? = some (.cells #[.int .i64 (l.length : Int)] 3 (0, 0))) => contains_calls (.slice A l.length c') l l.length cc base W (hr1 W hb) hwk (by omega) hc)
 rw [h7] at C
 generalize l.length = n at *
 clear hr hwk h7 hr1
 have d1 : decide ((n : Int) < 1) = false := decide_eq_false (by omega)
 have d2 : decide ((64 : Int) < (n : Int)) = false := decide_eq_false (by omega)
 have d3 : decide (min a b < 0) = false := decide_eq_false (by omega)
 have d4 : decide ((n : Int) ≤ max a b) = false := decide_eq_false (by omega)
 have hw1 := blk_old (blk_new w (.cells #[.slice A n c', .int .i64 a, .int .i64 b] 36)) (.cells #[.int .i64 (n : Int)] 3)
 have hw2 := blk_new2 w (.cells #[.slice A n c', .int .i64 a, .int .i64 b] 36) (.cells #[.int .i64 (n : Int)] 3)
 have hbb : Below w.heap.size w ((w.alloc (.cells #[.slice A n c', .int .i64 a, .int .i64 b] 36)).alloc (.cells #[.int .i64 (n : Int)] 3)) := ((Below.refl _ w).alloc (Nat.le_refl _) _).alloc (by simp) _
 replace hw2 := Aside0.mk hw2
 replace hbb := Aside0.mk hbb
 clear hw1
 go_enter Tryz.func29, Tryz.ntmps29
 go_wp2_with fail
 refine (C.out _ _ hbb.out hw2.out).mono ?_
 rintro e w1 ⟨rfl, hb⟩
 have hfin := Aside0.mk (hbb.out.trans (hb.mono hbb.out.size))
 clear hb hbb hw2 C
 go_wp2
 go_ret
 exact ⟨rfl, hfin.out⟩
end Go.Proofs.YtbhpkeiofajbpaaGreatDoor

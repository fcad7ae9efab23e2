/- asm.Assemble: what its loop over the lines keeps, in the heap; how it ends. -/
import Derived.Test.YthhjhbgimdiboaaDoorAsmLineAll
import Derived.Test.YthhjhbgimdiboaaDoorRangeCell
import Derived.Test.YthhjhbgimdiboaaDoorLines
import Derived.RangeFuncLeaves
namespace Go.Proofs.YthhjhbgimdiboaaDoor
open Go.RowKit Go.Proofs.YthhjhbgimdiboaaDoorW.PrintWords
set_option linter.unusedVariables false
set_option linter.unusedSimpArgs false

theorem allF_snoc (s : List UInt8) : ∀ (pre : List (List UInt8)) (n : Int) (x : Src), (allF pre n x).2.2 = 0 →
    allF (pre ++ [s]) n x = if (lineF (allF pre n x).1 s (n + pre.length + 1)).2 = 0 then ((lineF (allF pre n x).1 s (n + pre.length + 1)).1, n + pre.length + 1, 0)
      else ((allF pre n x).1, n + pre.length + 1, (lineF (allF pre n x).1 s (n + pre.length + 1)).2)
  | [], n, x, _ => by simp [allF]
  | p :: pre, n, x, h => by
    by_cases h1 : (lineF x p (n + 1)).2 = 0
    · have e1 : ∀ l, allF (p :: l) n x = allF l (n + 1) (lineF x p (n + 1)).1 := fun l => by simp only [allF]; rw [if_pos h1]
      rw [e1] at h
      rw [List.cons_append, e1, e1, allF_snoc s pre _ _ h]
      have e : n + 1 + (pre.length : Int) + 1 = n + ((p :: pre).length : Int) + 1 := by simp; omega
      rw [e]
    · simp only [allF] at h
      rw [if_neg h1] at h
      exact absurd h h1
theorem allF_stop (rest : List (List UInt8)) : ∀ (pre : List (List UInt8)) (n : Int) (x : Src), (allF pre n x).2.2 ≠ 0 → allF (pre ++ rest) n x = allF pre n x
  | [], n, x, h => absurd rfl h
  | p :: pre, n, x, h => by
    simp only [allF, List.cons_append] at h ⊢
    by_cases h1 : (lineF x p (n + 1)).2 = 0
    · rw [if_pos h1] at h
      rw [if_pos h1, if_pos h1, allF_stop rest pre _ _ h]
    · rw [if_neg h1, if_neg h1]
theorem linesF_le : ∀ (t s : List UInt8), s ∈ linesF t → s.length ≤ t.length
  | [], s, h => by simp [linesF] at h
  | c :: l, s, h => by
    unfold linesF at h
    split at h
    · rcases List.mem_cons.1 h with rfl | h
      · simp
      · exact Nat.le_succ_of_le (linesF_le l s h)
    · split at h
      · simp at h; subst h; simp
      · rename_i w ws e
        rcases List.mem_cons.1 h with rfl | h
        · have := linesF_le l w (by rw [e]; simp)
          simpa using this
        · exact Nat.le_succ_of_le (linesF_le l s (by rw [e]; exact List.mem_cons_of_mem _ h))
theorem linesF_many : ∀ (t : List UInt8), (linesF t).length ≤ t.length
  | [] => Nat.le_refl _
  | c :: l => by
    have := linesF_many l
    unfold linesF
    split
    · simpa using this
    · split
      · simp
      · rename_i w ws e
        rw [e] at this
        simp at this ⊢
        omega

/-- Between two lines: the results' boxes are zero, the source holds x, k lines are read. N: the heap's size at the call. -/
structure AI (w0 W : World) (N : Nat) (x : Src) (k : Nat) : Prop where
  b : Below N w0 W
  c2 : W.heap[N]? = some (.cells #[.slice none 0 0, .int .i64 0, .int .i64 0] 24 (0, 0))
  c3 : W.heap[N + 1]? = some (.cells #[.int .i64 0] 3 (0, 0))
  c4 : W.heap[N + 2]? = some (.cells #[.int .i64 0] 25 (0, 0))
  c5 : W.heap[N + 5]? = some (.cells #[.pointer (some ⟨N + 4, 0, none⟩)] 55 (0, 0))
  c6 : W.heap[N + 6]? = some (.cells #[.int .i64 k] 3 (0, 0))
  z : N + 8 ≤ W.heap.size
  ok : SrcOk x k
  s : ∃ v0 v1 v2, SrcAt W N (N + 4) (N + 3) v0 v1 v2 x ∧ (∀ j, v0.ownBlock = some j → N + 8 ≤ j) ∧ (∀ j, v1.ownBlock = some j → N + 8 ≤ j) ∧ (∀ j, v2.ownBlock = some j → N + 8 ≤ j)
section
variable {w0 W W1 : World} {N k : Nat} {x : Src}
/-- A step that leaves blocks alone. -/
theorem AI.far (h : AI w0 W N x k) (hb : Below N w0 W1) (hz : W.heap.size ≤ W1.heap.size) (hk : ∀ j o, W.heap[j]? = some o → j ≠ N + 7 → (j < N + 8 ∨ o.isCells = true) → W1.heap[j]? = some o) : AI w0 W1 N x k := by
  obtain ⟨v0, v1, v2, hs, h0, h1, h2⟩ := h.s
  have own : ∀ {e : TypeId} {size n : Nat} {v : Value} {xs : List Value}, W.ownsRow N e size v n xs → (∀ j, v.ownBlock = some j → N + 8 ≤ j) → W1.ownsRow N e size v n xs := fun ho hv =>
    own_move ho fun j hj => by
      obtain ⟨cells, hc⟩ := own_typed ho j hj
      have := hv j hj
      rw [hc]
      exact hk j _ hc (by omega) (.inr rfl)
  obtain ⟨nm, D, ⟨es, clock, hm, r⟩, hi, hn, hL⟩ := hs.m
  exact ⟨hb, hk _ _ h.c2 (by omega) (.inl (by omega)), hk _ _ h.c3 (by omega) (.inl (by omega)), hk _ _ h.c4 (by omega) (.inl (by omega)), hk _ _ h.c5 (by omega) (.inl (by omega)), hk _ _ h.c6 (by omega) (.inl (by omega)), Nat.le_trans h.z hz, h.ok,
    v0, v1, v2, ⟨hk _ _ hs.s (by omega) (.inl (by omega)), own hs.r0 h0, own hs.r1 h1, own hs.r2 h2, ⟨nm, D, ⟨es, clock, hk _ _ hm (by omega) (.inl (by omega)), r⟩, hi, hn, hL⟩, hs.gb, hs.bb⟩, h0, h1, h2⟩
theorem AI.keep (h : AI w0 W N x k) (hb : Below W.heap.size W W1) : AI w0 W1 N x k :=
  h.far (h.b.trans (hb.mono (by have := h.z; omega))) hb.size fun j o hj _ _ => blk_keep hb hj
theorem AI.cell7 (h : AI w0 W N x k) (j : Nat) (v : Value) : AI w0 (W.setCell ⟨N + 7, j, none⟩ v) N x k :=
  h.far (h.b.setCell (show N ≤ N + 7 by omega) v) (by simp) fun i o hi hne _ => (Below.heap_setCell W ⟨N + 7, j, none⟩ v i hne).trans hi
theorem below_put {N : Nat} {w0 W : World} (h : Below N w0 W) {l : Nat} (hl : N ≤ l) (o : Obj) : Below N w0 (W.putObj l o) :=
  ⟨h.os, h.tape, h.output, by rw [World.putObj_size]; exact h.size, fun k hk => (World.putObj_heap_other (by omega)).trans (h.block k hk)⟩
theorem AI.put (h : AI w0 W N x k) {l : Nat} {o o' : Obj} (hl : N + 8 ≤ l) (ho : W.heap[l]? = some o) (hn : o.isCells = false) : AI w0 (W.putObj l o') N x k :=
  h.far (below_put h.b (by omega) o') (by simp) fun j p hj _ hc => by
    refine (World.putObj_heap_other (fun e => ?_)).trans hj
    subst e
    rcases hc with hc | hc
    · omega
    · rw [ho] at hj
      cases hj
      rw [hn] at hc
      cases hc
theorem AI.num (h : AI w0 W N x k) (m : Nat) (hok : SrcOk x m) : AI w0 (W.setCell ⟨N + 6, 0, none⟩ (.int .i64 m)) N x m := by
  obtain ⟨v0, v1, v2, hs, h0, h1, h2⟩ := h.s
  have far : ∀ {j : Nat} {o : Obj}, W.heap[j]? = some o → j ≠ N + 6 → (W.setCell ⟨N + 6, 0, none⟩ (.int .i64 m)).heap[j]? = some o := fun hj hne => (Below.heap_setCell W ⟨N + 6, 0, none⟩ _ _ hne).trans hj
  have own : ∀ {e : TypeId} {size n : Nat} {v : Value} {xs : List Value}, W.ownsRow N e size v n xs → (∀ j, v.ownBlock = some j → N + 8 ≤ j) → (W.setCell ⟨N + 6, 0, none⟩ (.int .i64 m)).ownsRow N e size v n xs := fun ho hv =>
    own_move ho fun j hj => Below.heap_setCell W ⟨N + 6, 0, none⟩ _ _ (show j ≠ N + 6 by have := hv j hj; omega)
  exact ⟨h.b.setCell (show N ≤ N + 6 by omega) _, far h.c2 (by omega), far h.c3 (by omega), far h.c4 (by omega), far h.c5 (by omega), blk_set h.c6 0 _, by simpa using h.z, hok,
    v0, v1, v2, ⟨far hs.s (by omega), own hs.r0 h0, own hs.r1 h1, own hs.r2 h2, hs.m.keep (Below.heap_setCell W ⟨N + 6, 0, none⟩ _ _ (show N + 3 ≠ N + 6 by omega)), hs.gb, hs.bb⟩, h0, h1, h2⟩
/-- Behind a line. -/
theorem AI.line (h : AI w0 W N x k) {x' : Src} (hok : SrcOk x' k) {v0 v1 v2 u0 u1 u2 : Value} (h0 : ∀ j, v0.ownBlock = some j → N + 8 ≤ j) (h1 : ∀ j, v1.ownBlock = some j → N + 8 ≤ j) (h2 : ∀ j, v2.ownBlock = some j → N + 8 ≤ j)
    (hs : SrcAt W1 N (N + 4) (N + 3) u0 u1 u2 x') (hK : LineKeeps W W1 N (N + 4) (N + 3) v0 v1 v2 u0 u1 u2) : AI w0 W1 N x' k ∧ W1.heap[N + 7]? = W.heap[N + 7]? := by
  have hz := h.z
  have far : ∀ {j : Nat}, j < N + 8 → j ≠ N + 4 → j ≠ N + 3 → W1.heap[j]? = W.heap[j]? := fun {j} hj a b =>
    hK.k j (by omega) a b (fun e => by have := h0 j e.symm; omega) (fun e => by have := h1 j e.symm; omega) (fun e => by have := h2 j e.symm; omega)
  refine ⟨⟨h.b.trans hK.b, (far (by omega) (by omega) (by omega)).trans h.c2, (far (by omega) (by omega) (by omega)).trans h.c3, (far (by omega) (by omega) (by omega)).trans h.c4, (far (by omega) (by omega) (by omega)).trans h.c5,
    (far (by omega) (by omega) (by omega)).trans h.c6, Nat.le_trans h.z hK.b.size, hok, u0, u1, u2, hs, fun j hj => ?_, fun j hj => ?_, fun j hj => ?_⟩, far (by omega) (by omega) (by omega)⟩
  · rcases hK.n0 j hj with e | e
    · exact h0 j e
    · omega
  · rcases hK.n1 j hj with e | e
    · exact h1 j e
    · omega
  · rcases hK.n2 j hj with e | e
    · exact h2 j e
    · omega
theorem KeepsFrom.line {v0 v1 v2 u0 u1 u2 : Value} {B base gx bm : Nat} (hs : SrcAt W base gx bm v0 v1 v2 x) (hg : gx < B) (hm : bm < B) (hK : LineKeeps W W1 base gx bm v0 v1 v2 u0 u1 u2) : KeepsFrom B W W1 :=
  ⟨hK.b.size, fun j o hB hj ho => by
    have no : ∀ {e : TypeId} {size n : Nat} {v : Value} {xs : List Value}, W.ownsRow base e size v n xs → some j ≠ v.ownBlock := fun hr e1 => by
      obtain ⟨cells, hc⟩ := own_typed hr j e1.symm
      rw [hc] at hj
      cases hj
      cases ho
    exact (hK.k j (blk_lt hj) (by omega) (by omega) (no hs.r0) (no hs.r1) (no hs.r2)).trans hj⟩
theorem KeepsFrom.setCell {B : Nat} {p : Addr} (v : Value) (hp : p.block < B) : KeepsFrom B W (W.setCell p v) :=
  ⟨by simp, fun j o hB hj _ => (Below.heap_setCell W p v j (by omega)).trans hj⟩
theorem KeepsFrom.drew (B : Nat) : KeepsFrom B W W.drew := (KeepsOthers.drew W).from B
end
/-- A line was not right: its number and the error stand in the results' boxes. -/
structure AX (w0 W : World) (N : Nat) (line err : Int) : Prop where
  b : Below N w0 W
  c2 : W.heap[N]? = some (.cells #[.slice none 0 0, .int .i64 0, .int .i64 0] 24 (0, 0))
  c3 : W.heap[N + 1]? = some (.cells #[.int .i64 line] 3 (0, 0))
  c4 : W.heap[N + 2]? = some (.cells #[.int .i64 err] 25 (0, 0))
theorem AX.far {w0 W W1 : World} {N : Nat} {line err : Int} (h : AX w0 W N line err) (hb : Below N w0 W1) (hk : ∀ j, j < N + 3 → W1.heap[j]? = W.heap[j]?) : AX w0 W1 N line err :=
  ⟨hb, (hk _ (by omega)).trans h.c2, (hk _ (by omega)).trans h.c3, (hk _ (by omega)).trans h.c4⟩
theorem AX.of {w0 W : World} {N k : Nat} {x : Src} (h : AI w0 W N x k) (line err : Int) :
    AX w0 (((((W.setCell ⟨N, 0, none⟩ (.slice none 0 0)).setCell ⟨N, 1, none⟩ (.int .i64 0)).setCell ⟨N, 2, none⟩ (.int .i64 0)).setCell ⟨N + 1, 0, none⟩ (.int .i64 line)).setCell ⟨N + 2, 0, none⟩ (.int .i64 err)) N line err := by
  have far : ∀ {W : World} {j g i : Nat} {o : Obj} (v : Value), W.heap[j]? = some o → j ≠ g → (W.setCell ⟨g, i, none⟩ v).heap[j]? = some o := fun v hj hne => (Below.heap_setCell _ ⟨_, _, none⟩ v _ hne).trans hj
  refine ⟨((((h.b.setCell (Nat.le_refl _) _).setCell (Nat.le_refl _) _).setCell (Nat.le_refl _) _).setCell (show N ≤ N + 1 by omega) _).setCell (show N ≤ N + 2 by omega) _, ?_, ?_, ?_⟩
  · exact far _ (far _ (blk_set (blk_set (blk_set h.c2 0 _) 1 _) 2 _) (by omega)) (by omega)
  · exact far _ (blk_set (far _ (far _ (far _ h.c3 (by omega)) (by omega)) (by omega)) 0 _) (by omega)
  · exact blk_set (far _ (far _ (far _ (far _ h.c4 (by omega)) (by omega)) (by omega)) (by omega)) 0 _

/-- A return behind a range over a function: the mark is taken in. -/
theorem ret_marks {F : Fence} {n : Nat} {P : Program} {fn : Func} {R : Ending → World → Prop} {a : Act} {W : World} {D : Nat} (hd : a.defers = [{ target := .collected D, args := #[] }]) (hD : W.heap[D]? = some (.deferred (some [])))
    (h : ∃ v, (results fn a.tmps).run P (W.putObj D (.deferred none)) = .ok v (W.putObj D (.deferred none)) ∧ R (.returned v) (W.putObj D (.deferred none))) : bodyPostM F n P fn R .ret a W := by
  show LeavesInM F n P fn a.tmps R a.defers .returning W
  rw [hd]
  exact ⟨by simp, .inl ⟨D, _, rfl, run_takeDeferred hD, h⟩⟩
theorem results_ccc {P : Program} {fn : Func} {p q r : Tmp} {t1 t2 t3 : TypeId} (h : fn.results = #[.cell p t1, .cell q t2, .cell r t3]) (tmps : Array Value) (w : World) (g1 g2 g3 : Nat) (cs : Array Value) (x y : Value) (f1 f2 f3 : Nat × Nat) (d : TypeDesc)
    (hp : tmps.getD p undef = .pointer (some ⟨g1, 0, none⟩)) (hg1 : w.heap[g1]? = some (.cells cs t1 f1)) (hu : P.underlying t1 = some d) (hdd : (match d with | .struct _ | .array _ _ => true | _ => false) = true) (hi : (P.info? t1).map (·.size) = some cs.size)
    (hq : tmps.getD q undef = .pointer (some ⟨g2, 0, none⟩)) (l2 : (loadVar t2 ⟨g2, 0, none⟩).run P w = .ok x w)
    (hr : tmps.getD r undef = .pointer (some ⟨g3, 0, none⟩)) (l3 : (loadVar t3 ⟨g3, 0, none⟩).run P w = .ok y w) :
    (results fn tmps).run P w = .ok (.tuple #[.agg cs, x, y]) w := by
  have hp' : tmps[p]?.getD undef = .pointer (some ⟨g1, 0, none⟩) := by simpa using hp
  have hq' : tmps[q]?.getD undef = .pointer (some ⟨g2, 0, none⟩) := by simpa using hq
  have hr' : tmps[r]?.getD undef = .pointer (some ⟨g3, 0, none⟩) := by simpa using hr
  have hl := run_loadVar_row w g1 t1 t1 cs f1 d hg1 hu hdd hi
  simp only [results, h]
  simp [Sem.run_bind, Result.andThen, hp', hq', hr', asAddr, hl, l2, l3]
end Go.Proofs.YthhjhbgimdiboaaDoor

/- Parts: RefAsmKit. -/
import Derived.Test.YtbhpkeiofajbpaaGreatDoorB26
import Derived.Test.YtbhpkeiofajbpaaGreatDoorB27
/- ropelineref07.Assemble: what its loops keep, plain and in the heap. -/
namespace Go.Proofs.YtbhpkeiofajbpaaGreatDoor
open Go.RowKit Go.Proofs.YtbhpkeiofajbpaaGreatDoorW.PrintWords
set_option linter.unusedVariables false
set_option linter.unusedSimpArgs false

theorem linesF_line : ∀ (a rest : List UInt8), (10 : UInt8) ∉ a → linesF (a ++ 10 :: rest) = (a ++ [10]) :: linesF rest
 | [], rest, _ => by rw [List.nil_append, linesF, if_pos rfl]; rfl
 | c :: a, rest, h => by
  have hc : ¬ c = 10 := fun e => h (by rw [e]; exact List.mem_cons_self ..)
  rw [List.cons_append, linesF, if_neg hc, linesF_line a rest (fun hm => h (List.mem_cons_of_mem _ hm))]
  rfl
theorem linesF_one : ∀ (a : List UInt8), (10 : UInt8) ∉ a → a ≠ [] → linesF a = [a]
 | [], _, h => absurd rfl h
 | [c], h, _ => by
  have hc : ¬ c = 10 := fun e => h (by rw [e]; exact List.mem_cons_self ..)
  rw [linesF, if_neg hc]; rfl
 | c :: d :: a, h, _ => by
  have hc : ¬ c = 10 := fun e => h (by rw [e]; exact List.mem_cons_self ..)
  rw [linesF, if_neg hc, linesF_one (d :: a) (fun hm => h (List.mem_cons_of_mem _ hm)) (by simp)]
theorem getD_eq {α : Type} {l : List α} {i : Nat} (h : i < l.length) (d : α) : l.getD i d = l[i] := by simp [List.getD_eq_getElem?_getD, List.getElem?_eq_getElem h]
/-- A line's end is met. -/
theorem rall_line {t : List UInt8} {f i : Nat} {n : Int} {x : Src} (hi : i < t.length) (hf : f ≤ i) (h10 : t.getD i 0 = 10) (hno : (10 : UInt8) ∉ (t.drop f).take (i - f)) :
  rallF (linesF (t.drop f)) n x = if (rstepF x ((t.drop f).take (i - f)) (n + 1)).2 = 0 then rallF (linesF (t.drop (i + 1))) (n + 1) (rstepF x ((t.drop f).take (i - f)) (n + 1)).1 else (x, n + 1, (rstepF x ((t.drop f).take (i - f)) (n + 1)).2) := by
 have e : t.drop f = (t.drop f).take (i - f) ++ 10 :: t.drop (i + 1) := by
  conv => lhs; rw [← List.take_append_drop (i - f) (t.drop f)]
  rw [List.drop_drop, show f + (i - f) = i by omega, List.drop_eq_getElem_cons hi, ← getD_eq hi 0, h10]
 have e2 : linesF (t.drop f) = ((t.drop f).take (i - f) ++ [10]) :: linesF (t.drop (i + 1)) := by
  conv => lhs; rw [e]
  rw [linesF_line _ _ hno]
 rw [e2, rallF, if_neg (by simp), List.dropLast_concat]
theorem rall_end {t : List UInt8} {f : Nat} {n : Int} {x : Src} (hno : (10 : UInt8) ∉ t.drop f) : rallF (linesF (t.drop f)) n x = if f < t.length then (x, n + 1, 8) else (x, n, 0) := by
 by_cases h : f < t.length
 ·have hne : t.drop f ≠ [] := fun e => by have := congrArg List.length e; simp at this; omega
  rw [if_pos h, linesF_one _ hno hne, rallF, if_pos]
  intro e
  exact hno (List.mem_of_getLast? e)
 ·rw [if_neg h, List.drop_eq_nil_of_le (by omega)]; rfl
theorem no10_step {t : List UInt8} {f i : Nat} (hi : i < t.length) (hf : f ≤ i) (h10 : t.getD i 0 ≠ 10) (hno : (10 : UInt8) ∉ (t.drop f).take (i - f)) : (10 : UInt8) ∉ (t.drop f).take (i + 1 - f) := by
 have hd : (t.drop f)[i - f]? = some (t.getD i 0) := by rw [List.getElem?_drop, show f + (i - f) = i by omega, List.getElem?_eq_getElem hi, getD_eq hi]
 rw [show i + 1 - f = (i - f) + 1 by omega, List.take_add_one, hd]
 intro h
 rcases List.mem_append.1 h with h | h
 ·exact hno h
 ·have h' : (10 : UInt8) = t.getD i 0 := by simpa using h
  exact h10 h'.symm
theorem rlineF_name (s : List UInt8) (h : (rlineF s).2.2 = true) : (rlineF s).2.1.length ≤ 16 := by
 unfold rlineF at h ⊢
 dsimp only at h ⊢
 split
 ·rename_i hc
  have := hc.2.2
  simp only [nameB, Bool.and_eq_true, decide_eq_true_eq] at this
  exact this.1.1.2
 ·split <;> simp
theorem rstep_ok {x : Src} {m : Nat} (h : SrcOk x m) (s : List UInt8) (n : Int) : SrcOk (rstepF x s n).1 (m + 1) := by
 obtain ⟨h1, h2, h3, h4, h5⟩ := h
 unfold rstepF
 by_cases c1 : s.getLast? = some 58 ∧ nameB s.dropLast = true
 ·rw [if_pos c1]
  by_cases c2 : rhasF x.labels s.dropLast = true
  ·rw [if_pos c2]; exact ⟨h1, h2, h3, Nat.le_succ_of_le h4, h5⟩
  ·rw [if_neg c2]; exact ⟨h1, h2, h3, by simp; omega, h5⟩
 ·rw [if_neg c1]
  by_cases c3 : (rlineF s).2.2 = false
  ·rw [if_pos c3]; exact ⟨h1, h2, h3, Nat.le_succ_of_le h4, h5⟩
  ·rw [if_neg c3]
   by_cases c4 : 64 ≤ x.l.length
   ·rw [if_pos c4]; exact ⟨h1, h2, h3, Nat.le_succ_of_le h4, h5⟩
   ·rw [if_neg c4]
    refine ⟨by simp [h1], by simp [h2], by simp; omega, Nat.le_succ_of_le h4, fun y hy => ?_⟩
    rcases List.mem_append.1 hy with hy | hy
    ·exact h5 y hy
    ·rw [List.mem_singleton.1 hy]; exact rlineF_name _ (by simpa using c3)

/-- The rows on their way: the result's box is zero, the program's box holds the row of instructions. N: the heap's size at the call. -/
structure RX (w W : World) (N : Nat) (v0 vl vn vr : Value) (l : List In) (names : List (List UInt8)) (rows : List Int) (labels : List (List UInt8 × Nat)) : Prop where
 b : Below N w W
 c2 : W.heap[N]? = some (.cells #[.slice none 0 0, .int .i64 0, .int .i64 0] 26 (0, 0))
 c5 : W.heap[N + 1]? = some (.cells #[v0, .int .i64 0, .int .i64 0] 26 (0, 0))
 q0 : RfRow W N v0 l
 q1 : NmRow W N vn names
 q2 : IntRow W N vr rows
 q3 : LbRow W N vl labels
section
variable {w W W1 : World} {N : Nat} {v0 vl vn vr u : Value} {l : List In} {names : List (List UInt8)} {rows : List Int} {labels : List (List UInt8 × Nat)} {i : In} {z : List UInt8} {n : Int} {p : List UInt8 × Nat}
theorem RX.hz (h : RX w W N v0 vl vn vr l names rows labels) : N ≤ W.heap.size := Nat.le_of_lt (blk_lt h.c2)
theorem RX.keep (h : RX w W N v0 vl vn vr l names rows labels) (hb : Below W.heap.size W W1) : RX w W1 N v0 vl vn vr l names rows labels :=
 ⟨h.b.trans (hb.mono h.hz), blk_keep hb h.c2, blk_keep hb h.c5, own_move h.q0 (fun k hk => hb.block k (own_lt h.q0 k hk)), own_move h.q1 (fun k hk => hb.block k (own_lt h.q1 k hk)), h.q2.keep hb, h.q3.keep hb⟩
theorem RX.a3 (h : RX w W N v0 vl vn vr l names rows labels) (hr : LbRow W1 N u (labels ++ [p])) (hg : W.grownBy W1 vl.ownBlock) : RX w W1 N v0 u vn vr l names rows (labels ++ [p]) :=
 ⟨h.b.grown hg h.hz (fun k hk => own_base h.q3 k hk), blk_grown h.c2 hg (own_apart h.q3 h.c2 (by decide)), blk_grown h.c5 hg (own_apart h.q3 h.c5 (by decide)), own_off h.q0 h.q3 (by decide) hg, own_off h.q1 h.q3 (by decide) hg, own_off h.q2 h.q3 (by decide) hg, hr⟩
theorem RX.a1 (h : RX w W N v0 vl vn vr l names rows labels) (hr : NmRow W1 N u (names ++ [z])) (hg : W.grownBy W1 vn.ownBlock) : RX w W1 N v0 vl u vr l (names ++ [z]) rows labels :=
 ⟨h.b.grown hg h.hz (fun k hk => own_base h.q1 k hk), blk_grown h.c2 hg (own_apart h.q1 h.c2 (by decide)), blk_grown h.c5 hg (own_apart h.q1 h.c5 (by decide)), own_off h.q0 h.q1 (by decide) hg, hr, own_off h.q2 h.q1 (by decide) hg, own_off h.q3 h.q1 (by decide) hg⟩
theorem RX.a2 (h : RX w W N v0 vl vn vr l names rows labels) (hr : IntRow W1 N u (rows ++ [n])) (hg : W.grownBy W1 vr.ownBlock) : RX w W1 N v0 vl vn u l names (rows ++ [n]) labels :=
 ⟨h.b.grown hg h.hz (fun k hk => own_base h.q2 k hk), blk_grown h.c2 hg (own_apart h.q2 h.c2 (by decide)), blk_grown h.c5 hg (own_apart h.q2 h.c5 (by decide)), own_off h.q0 h.q2 (by decide) hg, own_off h.q1 h.q2 (by decide) hg, hr, own_off h.q3 h.q2 (by decide) hg⟩
/-- The row of instructions grows, and is stored. -/
theorem RX.a0 (h : RX w W N v0 vl vn vr l names rows labels) (hr : RfRow W1 N u (l ++ [i])) (hg : W.grownBy W1 v0.ownBlock) : RX w (W1.setCell ⟨N + 1, 0, none⟩ u) N u vl vn vr (l ++ [i]) names rows labels := by
 have hc5 := blk_grown h.c5 hg (own_apart h.q0 h.c5 (by decide))
 have hc2 := blk_grown h.c2 hg (own_apart h.q0 h.c2 (by decide))
 exact ⟨(h.b.grown hg h.hz (fun k hk => own_base h.q0 k hk)).setCell (show N ≤ N + 1 by omega) u, blk_far hc2 (show N ≠ N + 1 by omega) u, blk_set hc5 0 u, row_set hr hc5 (by decide) 0 u, row_set (own_off h.q1 h.q0 (by decide) hg) hc5 (by decide) 0 u, row_set (own_off h.q2 h.q0 (by decide) hg) hc5 (by decide) 0 u, row_set (own_off h.q3 h.q0 (by decide) hg) hc5 (by decide) 0 u⟩
end
theorem RX.start (w : World) : RX w ((w.alloc (.cells #[.slice none 0 0, .int .i64 0, .int .i64 0] 26)).alloc (.cells #[.slice none 0 0, .int .i64 0, .int .i64 0] 26)) w.heap.size (.slice none 0 0) (.slice none 0 0) (.slice none 0 0) (.slice none 0 0) [] [] [] [] :=
 ⟨((Below.refl w.heap.size w).alloc (Nat.le_refl _) _).alloc (by simp) _, blk_old (blk_new w _) _, blk_new2 w _ _, .nil _ _, .nil _ _, .nil _ _, .nil _ _⟩
theorem own_slice_n {W : World} {base n size : Nat} {e : TypeId} {v : Value} {xs : List Value} (h : W.ownsRow base e size v n xs) : ∃ A c, v = .slice A n c := by
 rcases h.2 with ⟨rfl, h0⟩ | ⟨g, cap, cur, rfl, _⟩
 ·exact ⟨none, 0, by rw [h0]⟩
 ·exact ⟨_, _, rfl⟩
section
variable {w W W1 : World} {N : Nat} {v0 vl vn vr u : Value} {l : List In} {names : List (List UInt8)} {rows : List Int} {labels : List (List UInt8 × Nat)} {i : In} {s : List UInt8} {n : Int} {p : List UInt8 × Nat}
theorem RX.facts (h : RX w W N v0 vl vn vr l names rows labels) : W.cell? ⟨N, 0, none⟩ = some (.slice none 0 0) ∧ W.cell? ⟨N, 1, none⟩ = some (.int .i64 0) ∧ W.cell? ⟨N, 2, none⟩ = some (.int .i64 0) ∧ W.frozen? ⟨N, 0, none⟩ = false ∧ W.frozen? ⟨N, 1, none⟩ = false ∧ W.frozen? ⟨N, 2, none⟩ = false ∧ N < W.heap.size :=
 ⟨(blk_cell h.c2 0).trans rfl, (blk_cell h.c2 1).trans rfl, (blk_cell h.c2 2).trans rfl, blk_frozen h.c2 0, blk_frozen h.c2 1, blk_frozen h.c2 2, blk_lt h.c2⟩
theorem RX.facts5 (h : RX w W N v0 vl vn vr l names rows labels) : W.cell? ⟨N + 1, 0, none⟩ = some v0 ∧ W.cell? ⟨N + 1, 1, none⟩ = some (.int .i64 0) ∧ W.cell? ⟨N + 1, 2, none⟩ = some (.int .i64 0) ∧ W.frozen? ⟨N + 1, 0, none⟩ = false ∧ W.frozen? ⟨N + 1, 1, none⟩ = false ∧ W.frozen? ⟨N + 1, 2, none⟩ = false ∧ N + 1 < W.heap.size :=
 ⟨(blk_cell h.c5 0).trans rfl, (blk_cell h.c5 1).trans rfl, (blk_cell h.c5 2).trans rfl, blk_frozen h.c5 0, blk_frozen h.c5 1, blk_frozen h.c5 2, blk_lt h.c5⟩
/-- Three stores into the result's box. -/
theorem RX.out3 (h : RX w W N v0 vl vn vr l names rows labels) (a b c : Value) : ∀ W', W' = ((W.setCell ⟨N, 0, none⟩ a).setCell ⟨N, 1, none⟩ b).setCell ⟨N, 2, none⟩ c →
  W'.heap[N]? = some (.cells #[a, b, c] 26 (0, 0)) ∧ Below N w W' := by
 rintro W' rfl
 exact ⟨blk_set (blk_set (blk_set h.c2 0 a) 1 b) 2 c, ((h.b.setCell (Nat.le_refl _) _).setCell (Nat.le_refl _) _).setCell (Nat.le_refl _) _⟩
end
theorem rasm_stop {t : List UInt8} {x : Src} {n e : Int} (h : rallF (linesF t) 0 Src.zero = (x, n, e)) (he : e ≠ 0) : rasmF t = (Pg.zero, n, e) := by
 unfold rasmF
 rw [h]
 dsimp only
 rw [if_pos he]
theorem sl_head (l : List UInt8) (q : Nat) (hq : l.length = q + 1) (W : World) : (Instr.slice 9 (.string ⟨l.toArray⟩) none (some (.int .i64 (q : Int))) none).run Tryz.prog W = .ok (.string ⟨l.dropLast.toArray⟩) W := by
 have hz : (⟨l.toArray⟩ : ByteArray).size = l.length := by simp [ByteArray.size]
 rw [run_slice_string_h W 9 ⟨l.toArray⟩ Tryz.underlying9 .i64 (q : Int) (by omega) (by rw [hz]; omega), ext_mk, List.dropLast_eq_take, hq]
 simp
theorem ext_head (l : List UInt8) (q : Nat) (hq : l.length = q + 1) : (⟨l.toArray⟩ : ByteArray).extract 0 q = ⟨l.dropLast.toArray⟩ := by
 rw [ext_mk, List.dropLast_eq_take, hq]; simp
theorem last_at (l : List UInt8) (q : Nat) (hq : l.length = q + 1) : l.getLast? = some (l.getD q 0) := by
 rw [List.getLast?_eq_getElem?, hq, List.getElem?_eq_getElem (by omega), getD_eq (by omega)]; rfl
section
variable {ops : Array Oper} {o : Oper} {a : Act} {K : Act → World → Prop} {Q : Exit → Act → World → Prop} {E : Prop} {W : World}
theorem step_blb (hgd : o.guard = none) (x : Operand) (ho : o.op = .buildSlice 111 1 #[(0, x)]) (s : List UInt8) (k : Nat) (hx : a.eval x = .agg #[.string ⟨s.toArray⟩, .int .i64 (k : Int)])
  (h : ∀ g W1, Below W.heap.size W W1 → W1.heap[g]? = some (.cells #[.string ⟨s.toArray⟩, .int .i64 (k : Int)] 113 (0, 0)) → K (a.put o.dst (.slice (some ⟨g, 0, none⟩) 1 1)) W1) :
  if Region.wanted o (yielded ops a.tmps) = true then Oper.wp Tryz.prog o a W K Q else E := by
 rw [if_pos (by simp [Region.wanted, hgd])]
 obtain ⟨i9, hi, hz0, hz1, hz2⟩ := info_parts info_lb
 refine wp_buildSlice 111 113 1 _ ho #[.string ⟨s.toArray⟩, .int .i64 (k : Int)] i9 (.agg #[.string ⟨#[]⟩, .int .i64 0]) Tryz.underlying111 hi hz0 (by rw [hz1]; decide) (by rw [hz1]; decide) ?_ (h _ _ (below_new W _) (blk_new _ _))
 rw [hz1]
 simp only [List.map_toArray, List.map_cons, List.map_nil, hx]
 kernel_rfl
theorem step_alb (hgd : o.guard = none) (s x : Operand) (ho : o.op = .call { callee := .builtin .append, args := #[s, x], argTypes := #[111, 111] })
  (base g : Nat) (y : List UInt8 × Nat) (v : Value) (xs : List (List UInt8 × Nat)) (hs : a.eval s = v) (hr : LbRow W base v xs) (hx : a.eval x = .slice (some ⟨g, 0, none⟩) 1 1)
  (hy : W.heap[g]? = some (.cells #[.string ⟨y.1.toArray⟩, .int .i64 (y.2 : Int)] 113 (0, 0))) (hl : xs.length ≤ 1000000) (hb : base ≤ W.heap.size)
  (h : ∀ v' W1, LbRow W1 base v' (xs ++ [y]) → W.grownBy W1 v.ownBlock → (v'.ownBlock = v.ownBlock ∨ v'.ownBlock = some W.heap.size) → K (a.put o.dst v') W1) :
  if Region.wanted o (yielded ops a.tmps) = true then Oper.wp Tryz.prog o a W K Q else E := by
 obtain ⟨i9, hi, hz0, hz1, hz2⟩ := info_parts info_lb
 refine step_app hgd s x 111 ho base 113 i9 (.agg #[.string ⟨#[]⟩, .int .i64 0]) 2 24 Tryz.underlying111 hi hz0 hz1 hz2 rfl (by decide) v xs.length (lbCells xs) hs hr g #[.string ⟨y.1.toArray⟩, .int .i64 (y.2 : Int)] (0, 0) hx hy rfl ?_ hl (by decide) hb ?_
 ·simp [Value.oneCell']
 ·intro v' W1 h1 h2 h4
  refine h v' W1 ?_ h2 h4
  unfold LbRow
  rw [lbCells_snoc, List.length_append]
  exact h1
end
/-- The places of names, from the k-th on. -/
def rfixJ (x : Src) (k : Nat) (done : List In) : List In ⊕ Int :=
 match rfixF x.labels x.l.length (x.l.drop k) (x.names.drop k) (x.rows.drop k) with
 | .inl r => .inl (done ++ r)
 | .inr e => .inr e
theorem rfixJ_zero (x : Src) : rfixJ x 0 [] = rfixF x.labels x.l.length x.l x.names x.rows := by
 unfold rfixJ
 simp only [List.drop_zero, List.nil_append]
 cases rfixF x.labels x.l.length x.l x.names x.rows <;> rfl
theorem rfixJ_end (x : Src) (k : Nat) (done : List In) (h : x.l.length ≤ k) : rfixJ x k done = .inl done := by
 unfold rfixJ
 rw [List.drop_eq_nil_of_le h]
 simp [rfixF]
theorem rfixJ_cons {x : Src} {k : Nat} {done : List In} (h : k < x.l.length) (h1 : x.names.length = x.l.length) (h2 : x.rows.length = x.l.length) :
  rfixJ x k done = if x.names.getD k [] = [] then rfixJ x (k + 1) (done ++ [x.l.getD k In.zero]) else
   if rfindF x.labels (x.names.getD k []) x.l.length < 0 then .inr (x.rows.getD k 0) else rfixJ x (k + 1) (done ++ [{ x.l.getD k In.zero with q := rfindF x.labels (x.names.getD k []) x.l.length }]) := by
 unfold rfixJ
 rw [drop_getD x.l k In.zero h, drop_getD x.names k [] (by omega), drop_getD x.rows k 0 (by omega)]
 simp only [rfixF]
 by_cases hs : x.names.getD k [] = []
 ·rw [if_pos hs, if_pos hs]
  cases rfixF x.labels x.l.length (x.l.drop (k + 1)) (x.names.drop (k + 1)) (x.rows.drop (k + 1)) <;> simp
 ·rw [if_neg hs, if_neg hs]
  by_cases hf : rfindF x.labels (x.names.getD k []) x.l.length < 0
  ·rw [if_pos hf, if_pos hf]
  ·rw [if_neg hf, if_neg hf]
   cases rfixF x.labels x.l.length (x.l.drop (k + 1)) (x.names.drop (k + 1)) (x.rows.drop (k + 1)) <;> simp
theorem rasm_go {t : List UInt8} {x : Src} {n : Int} (h : rallF (linesF t) 0 Src.zero = (x, n, 0)) : rasmF t = match rfixJ x 0 [] with
  | .inr e => (Pg.zero, e, 10)
  | .inl k => if rfindF x.labels [108, 111, 99, 107] x.l.length < 0 ∨ rfindF x.labels [117, 110, 108, 111, 99, 107] x.l.length < 0 then (Pg.zero, 0, 10)
   else (⟨k, rfindF x.labels [108, 111, 99, 107] x.l.length, rfindF x.labels [117, 110, 108, 111, 99, 107] x.l.length⟩, 0, 0) := by
 unfold rasmF
 rw [h, rfixJ_zero]
 dsimp only
 rw [if_neg (by simp)]
 cases rfixF x.labels x.l.length x.l x.names x.rows <;> rfl
theorem RfRow.setq {W : World} {base k n c g : Nat} {xs : List In} (h : RfRow W base (.slice (some ⟨g, 0, none⟩) n c) xs) (hk : k < xs.length) (q : Int) :
  RfRow (W.setCell ⟨g, k * 8 + 7, none⟩ (.int .i64 q)) base (.slice (some ⟨g, 0, none⟩) n c) (xs.set k { xs.getD k In.zero with q := q }) := by
 obtain ⟨h1, h2⟩ := h
 rcases h2 with ⟨h0, _⟩ | ⟨g', cap, cur, h0, hb, hg, hc, hm, hs, ht⟩
 ·cases h0
 ·cases h0
  refine ⟨by rw [inCells_len, List.length_set], .inr ⟨g, c, _, by rw [List.length_set], hb, blk_set hg (k * 8 + 7) _, by rw [List.length_set]; exact hc, hm, by simpa using hs, ?_⟩⟩
  rw [List.length_set, ← inCells_set xs k q hk, ← ht]
  simp [List.take_set]
section
variable {w W W1 : World} {N : Nat} {v0 vl vn vr u : Value} {l : List In} {names : List (List UInt8)} {rows : List Int} {labels : List (List UInt8 × Nat)} {i : In} {s : List UInt8} {n : Int} {p : List UInt8 × Nat}
theorem RX.putq {g m c k : Nat} (h : RX w W N (.slice (some ⟨g, 0, none⟩) m c) vl vn vr l names rows labels) (hk : k < l.length) (q : Int) :
  RX w (W.setCell ⟨g, k * 8 + 7, none⟩ (.int .i64 q)) N (.slice (some ⟨g, 0, none⟩) m c) vl vn vr (l.set k { l.getD k In.zero with q := q }) names rows labels := by
 obtain ⟨cells, hc⟩ := own_typed h.q0 g rfl
 have hg : N ≤ g := own_base h.q0 g rfl
 have hn2 : N ≠ g := fun e => by have := h.c2; rw [e, hc] at this; cases this
 have hn5 : N + 1 ≠ g := fun e => by have := h.c5; rw [e, hc] at this; cases this
 have off : ∀ {e : TypeId} {size m : Nat} {v : Value} {xs : List Value}, W.ownsRow N e size v m xs → e ≠ 114 → (W.setCell ⟨g, k * 8 + 7, none⟩ (.int .i64 q)).ownsRow N e size v m xs := fun hr hne =>
  own_move hr fun j hj => Below.heap_setCell W ⟨g, k * 8 + 7, none⟩ _ _ (fun e => own_apart hr hc hne (by rw [hj, ← show j = g from e]))
 exact ⟨h.b.setCell (show N ≤ g from hg) _, blk_far h.c2 (show N ≠ g from hn2) _, blk_far h.c5 (show N + 1 ≠ g from hn5) _, h.q0.setq hk q, off h.q1 (by decide), off h.q2 (by decide), off h.q3 (by decide)⟩
/-- What a region of the second half holds. -/
theorem RX.S (h : RX w W N v0 vl vn vr l names rows labels) : Aside0 (RX w W N v0 vl vn vr l names rows labels) ∧ W.cell? ⟨N + 1, 0, none⟩ = some v0 := ⟨⟨h⟩, h.facts5.1⟩
end
theorem rx_next {w W W1 : World} {N : Nat} {v0 vl vn vr : Value} {l : List In} {names : List (List UInt8)} {rows : List Int} {labels : List (List UInt8 × Nat)} {a b : Addr} {y z : Value} (hb : Below W.heap.size W W1) (h : Aside0 (RX w W N v0 vl vn vr l names rows labels) ∧ W.cell? a = some y ∧ W.cell? b = some z) :
  Aside0 (RX w W1 N v0 vl vn vr l names rows labels) ∧ W1.cell? a = some y ∧ W1.cell? b = some z := ⟨⟨h.1.out.keep hb⟩, cell_keep hb h.2.1, cell_keep hb h.2.2⟩
theorem rx_next1 {w W W1 : World} {N : Nat} {v0 vl vn vr : Value} {l : List In} {names : List (List UInt8)} {rows : List Int} {labels : List (List UInt8 × Nat)} {a : Addr} {y : Value} (hb : Below W.heap.size W W1) (h : Aside0 (RX w W N v0 vl vn vr l names rows labels) ∧ W.cell? a = some y) :
  Aside0 (RX w W1 N v0 vl vn vr l names rows labels) ∧ W1.cell? a = some y := ⟨⟨h.1.out.keep hb⟩, cell_keep hb h.2⟩
/-- The program's box is filled. -/
theorem RX.lu {w W : World} {N : Nat} {v0 vl vn vr : Value} {l : List In} {names : List (List UInt8)} {rows : List Int} {labels : List (List UInt8 × Nat)} (h : RX w W N v0 vl vn vr l names rows labels) (a b : Value) : ∀ W', W' = (W.setCell ⟨N + 1, 1, none⟩ a).setCell ⟨N + 1, 2, none⟩ b →
  Below N w W' ∧ W'.heap[N]? = some (.cells #[.slice none 0 0, .int .i64 0, .int .i64 0] 26 (0, 0)) ∧ W'.heap[N + 1]? = some (.cells #[v0, a, b] 26 (0, 0)) ∧ RfRow W' N v0 l := by
 rintro W' rfl
 exact ⟨(h.b.setCell (show N ≤ N + 1 by omega) _).setCell (show N ≤ N + 1 by omega) _, blk_far (blk_far h.c2 (show N ≠ N + 1 by omega) _) (show N ≠ N + 1 by omega) _, blk_set (blk_set h.c5 1 a) 2 b, row_set (row_set h.q0 h.c5 (by decide) 1 a) (blk_set h.c5 1 a) (by decide) 2 b⟩
theorem far3 {W : World} {N g k : Nat} {y : Value} (hn : N ≠ g) (a b c : Value) (h : W.cell? ⟨g, k, none⟩ = some y) : (((W.setCell ⟨N, 0, none⟩ a).setCell ⟨N, 1, none⟩ b).setCell ⟨N, 2, none⟩ c).cell? ⟨g, k, none⟩ = some y :=
 (World.cell?_setCell_far _ ⟨N, 2, none⟩ ⟨g, k, none⟩ c hn).trans ((World.cell?_setCell_far _ ⟨N, 1, none⟩ ⟨g, k, none⟩ b hn).trans ((World.cell?_setCell_far W ⟨N, 0, none⟩ ⟨g, k, none⟩ a hn).trans h))
/-- The result's box is written. -/
theorem out3r {w W : World} {N : Nat} {x y z v0 : Value} {l : List In} (hb : Below N w W) (hc : W.heap[N]? = some (.cells #[x, y, z] 26 (0, 0))) (hr : RfRow W N v0 l) (a b c : Value) : ∀ W', W' = ((W.setCell ⟨N, 0, none⟩ a).setCell ⟨N, 1, none⟩ b).setCell ⟨N, 2, none⟩ c →
  W'.heap[N]? = some (.cells #[a, b, c] 26 (0, 0)) ∧ RfRow W' N v0 l ∧ Below N w W' := by
 rintro W' rfl
 exact ⟨blk_set (blk_set (blk_set hc 0 a) 1 b) 2 c, row_set (row_set (row_set hr hc (by decide) 0 a) (blk_set hc 0 a) (by decide) 1 b) (blk_set (blk_set hc 0 a) 1 b) (by decide) 2 c, ((hb.setCell (Nat.le_refl _) _).setCell (Nat.le_refl _) _).setCell (Nat.le_refl _) _⟩
end Go.Proofs.YtbhpkeiofajbpaaGreatDoor

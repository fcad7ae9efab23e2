/- Parts: AsmMid. -/
import Derived.Test.YtbhpkeiofajbpaaGreatDoorB19
import Derived.Test.YtbhpkeiofajbpaaGreatDoorB20
import Derived.Great.BuildSlice
import Derived.Deep.AppendLies
/- (*asm.source).line on its way: three rows grow by one; steps of a region that draws, as laws. -/
namespace Go.Proofs.YtbhpkeiofajbpaaGreatDoor
open Go.RowKit Go.Proofs.YtbhpkeiofajbpaaGreatDoorW.PrintWords
set_option linter.unusedVariables false
set_option linter.unusedSimpArgs false

theorem LineKeeps.keep {W W1 W2 : World} {base gx bm : Nat} {v0 v1 v2 u0 u1 u2 : Value} (h : LineKeeps W W1 base gx bm v0 v1 v2 u0 u1 u2) (hb : Below W1.heap.size W1 W2) (hs : base ≤ W1.heap.size) : LineKeeps W W2 base gx bm v0 v1 v2 u0 u1 u2 :=
 ⟨h.b.trans (hb.mono hs), fun k hk h1 h2 h3 h4 h5 => (hb.block k (Nat.lt_of_lt_of_le hk h.b.size)).trans (h.k k hk h1 h2 h3 h4 h5), h.n0, h.n1, h.n2⟩
theorem LineKeeps.grow0 {W W1 W2 : World} {base gx bm : Nat} {v0 v1 v2 u0 u1 u2 u : Value} (h : LineKeeps W W1 base gx bm v0 v1 v2 u0 u1 u2) (hg : W1.grownBy W2 u0.ownBlock) (ho : ∀ k, u0.ownBlock = some k → base ≤ k) (ha : u.ownBlock = u0.ownBlock ∨ u.ownBlock = some W1.heap.size) (hs : base ≤ W1.heap.size) : LineKeeps W W2 base gx bm v0 v1 v2 u u1 u2 :=
 ⟨h.b.grown hg hs ho, fun k hk h1 h2 h3 h4 h5 => (hg.block k (Nat.lt_of_lt_of_le hk h.b.size) (fun e => (h.n0 k e.symm).elim (fun e' => h3 e'.symm) (fun e' => absurd hk (Nat.not_lt.2 e')))).trans (h.k k hk h1 h2 h3 h4 h5),
  fun k hk => ha.elim (fun e => h.n0 k (e ▸ hk)) (fun e => .inr (by rw [e] at hk; cases hk; exact h.b.size)), h.n1, h.n2⟩
theorem LineKeeps.grow1 {W W1 W2 : World} {base gx bm : Nat} {v0 v1 v2 u0 u1 u2 u : Value} (h : LineKeeps W W1 base gx bm v0 v1 v2 u0 u1 u2) (hg : W1.grownBy W2 u1.ownBlock) (ho : ∀ k, u1.ownBlock = some k → base ≤ k) (ha : u.ownBlock = u1.ownBlock ∨ u.ownBlock = some W1.heap.size) (hs : base ≤ W1.heap.size) : LineKeeps W W2 base gx bm v0 v1 v2 u0 u u2 :=
 ⟨h.b.grown hg hs ho, fun k hk h1 h2 h3 h4 h5 => (hg.block k (Nat.lt_of_lt_of_le hk h.b.size) (fun e => (h.n1 k e.symm).elim (fun e' => h4 e'.symm) (fun e' => absurd hk (Nat.not_lt.2 e')))).trans (h.k k hk h1 h2 h3 h4 h5),
  h.n0, fun k hk => ha.elim (fun e => h.n1 k (e ▸ hk)) (fun e => .inr (by rw [e] at hk; cases hk; exact h.b.size)), h.n2⟩
theorem LineKeeps.grow2 {W W1 W2 : World} {base gx bm : Nat} {v0 v1 v2 u0 u1 u2 u : Value} (h : LineKeeps W W1 base gx bm v0 v1 v2 u0 u1 u2) (hg : W1.grownBy W2 u2.ownBlock) (ho : ∀ k, u2.ownBlock = some k → base ≤ k) (ha : u.ownBlock = u2.ownBlock ∨ u.ownBlock = some W1.heap.size) (hs : base ≤ W1.heap.size) : LineKeeps W W2 base gx bm v0 v1 v2 u0 u1 u :=
 ⟨h.b.grown hg hs ho, fun k hk h1 h2 h3 h4 h5 => (hg.block k (Nat.lt_of_lt_of_le hk h.b.size) (fun e => (h.n2 k e.symm).elim (fun e' => h5 e'.symm) (fun e' => absurd hk (Nat.not_lt.2 e')))).trans (h.k k hk h1 h2 h3 h4 h5),
  h.n0, h.n1, fun k hk => ha.elim (fun e => h.n2 k (e ▸ hk)) (fun e => .inr (by rw [e] at hk; cases hk; exact h.b.size))⟩
theorem LineKeeps.set {W W1 : World} {base gx bm : Nat} {v0 v1 v2 u0 u1 u2 : Value} (h : LineKeeps W W1 base gx bm v0 v1 v2 u0 u1 u2) (hg : base ≤ gx) (j : Nat) (x : Value) : LineKeeps W (W1.setCell ⟨gx, j, none⟩ x) base gx bm v0 v1 v2 u0 u1 u2 :=
 ⟨h.b.setCell hg x, fun k hk h1 h2 h3 h4 h5 => (Below.heap_setCell W1 ⟨gx, j, none⟩ x k h1).trans (h.k k hk h1 h2 h3 h4 h5), h.n0, h.n1, h.n2⟩

/-- The line's work in the middle of its way: gx holds the old rows, r0, r1, r2 are the rows as they are now; box b holds the instruction. -/
structure Mid (W0 W : World) (base gx bm b : Nat) (o0 o1 o2 r0 r1 r2 : Value) (l : List In) (names : List (List UInt8)) (rows : List Int) (L : List (List UInt8 × Nat)) (i : In) : Prop where
 s : W.heap[gx]? = some (.cells #[o0, o1, o2, .map (some bm)] 104 (0, 0))
 e : W.heap[b]? = some (.cells i.cs 99 (0, 0))
 q0 : InRow W base r0 l
 q1 : NmRow W base r1 names
 q2 : IntRow W base r2 rows
 m : LMap W bm L
 gb : base ≤ gx
 bb : base ≤ bm
 n0 : ∀ k, r0.ownBlock = some k → k ≠ b
 K : LineKeeps W0 W base gx bm o0 o1 o2 r0 r1 r2
section
variable {W0 W W1 : World} {base gx bm b : Nat} {o0 o1 o2 r0 r1 r2 u : Value} {l : List In} {names : List (List UInt8)} {rows : List Int} {L : List (List UInt8 × Nat)} {i y : In} {z : List UInt8} {n : Int}
theorem Mid.hbs (h : Mid W0 W base gx bm b o0 o1 o2 r0 r1 r2 l names rows L i) : base ≤ W.heap.size := Nat.le_trans h.gb (Nat.le_of_lt (blk_lt h.s))
theorem Mid.keep (h : Mid W0 W base gx bm b o0 o1 o2 r0 r1 r2 l names rows L i) (hb : Below W.heap.size W W1) : Mid W0 W1 base gx bm b o0 o1 o2 r0 r1 r2 l names rows L i :=
 ⟨blk_keep hb h.s, blk_keep hb h.e, own_move h.q0 (fun k hk => hb.block k (own_lt h.q0 k hk)), own_move h.q1 (fun k hk => hb.block k (own_lt h.q1 k hk)), h.q2.keep hb, h.m.keep (hb.block bm h.m.lt), h.gb, h.bb, h.n0, h.K.keep hb h.hbs⟩
theorem own_off {W W1 : World} {base n size n' size' : Nat} {e e' : TypeId} {v v' : Value} {xs xs' : List Value} (h : W.ownsRow base e size v n xs) (h' : W.ownsRow base e' size' v' n' xs') (hne : e' ≠ e) (hg : W.grownBy W1 v'.ownBlock) : W1.ownsRow base e size v n xs :=
 own_move h fun k hk => by
  obtain ⟨cells, hc⟩ := own_typed h k hk
  exact hg.block k (blk_lt hc) (own_apart h' hc hne)
theorem own_slice {W : World} {base n size : Nat} {e : TypeId} {v : Value} {xs : List Value} (h : W.ownsRow base e size v n xs) : ∃ A m c, v = .slice A m c := by
 rcases h.2 with ⟨rfl, h0⟩ | ⟨g, cap, cur, rfl, _⟩
 ·exact ⟨_, _, _, rfl⟩
 ·exact ⟨_, _, _, rfl⟩
theorem map_off {W W1 : World} {bm base n size : Nat} {e : TypeId} {v : Value} {xs : List Value} (h : LMap W bm L) (h' : W.ownsRow base e size v n xs) (hg : W.grownBy W1 v.ownBlock) : LMap W1 bm L :=
 h.keep (hg.block bm h.lt (fun e1 => by
  obtain ⟨cells, hc⟩ := own_typed h' bm e1.symm
  exact h.ne hc rfl))
theorem Mid.a0 (h : Mid W0 W base gx bm b o0 o1 o2 r0 r1 r2 l names rows L i) (hr : InRow W1 base u (l ++ [y])) (hg : W.grownBy W1 r0.ownBlock) (ha : u.ownBlock = r0.ownBlock ∨ u.ownBlock = some W.heap.size) : Mid W0 W1 base gx bm b o0 o1 o2 u r1 r2 (l ++ [y]) names rows L i :=
 ⟨blk_grown h.s hg (own_apart h.q0 h.s (by decide)), blk_grown h.e hg (fun e => h.n0 b e.symm rfl), hr, own_off h.q1 h.q0 (by decide) hg, own_off h.q2 h.q0 (by decide) hg, map_off h.m h.q0 hg, h.gb, h.bb,
  fun k hk => ha.elim (fun e => h.n0 k (e ▸ hk)) (fun e => by rw [e] at hk; cases hk; exact Nat.ne_of_gt (blk_lt h.e)), h.K.grow0 hg (fun k hk => own_base h.q0 k hk) ha h.hbs⟩
theorem Mid.a1 (h : Mid W0 W base gx bm b o0 o1 o2 r0 r1 r2 l names rows L i) (hr : NmRow W1 base u (names ++ [z])) (hg : W.grownBy W1 r1.ownBlock) (ha : u.ownBlock = r1.ownBlock ∨ u.ownBlock = some W.heap.size) : Mid W0 W1 base gx bm b o0 o1 o2 r0 u r2 l (names ++ [z]) rows L i :=
 ⟨blk_grown h.s hg (own_apart h.q1 h.s (by decide)), blk_grown h.e hg (own_apart h.q1 h.e (by decide)), own_off h.q0 h.q1 (by decide) hg, hr, own_off h.q2 h.q1 (by decide) hg, map_off h.m h.q1 hg, h.gb, h.bb, h.n0, h.K.grow1 hg (fun k hk => own_base h.q1 k hk) ha h.hbs⟩
theorem Mid.a2 (h : Mid W0 W base gx bm b o0 o1 o2 r0 r1 r2 l names rows L i) (hr : IntRow W1 base u (rows ++ [n])) (hg : W.grownBy W1 r2.ownBlock) (ha : u.ownBlock = r2.ownBlock ∨ u.ownBlock = some W.heap.size) : Mid W0 W1 base gx bm b o0 o1 o2 r0 r1 u l names (rows ++ [n]) L i :=
 ⟨blk_grown h.s hg (own_apart h.q2 h.s (by decide)), blk_grown h.e hg (own_apart h.q2 h.e (by decide)), own_off h.q0 h.q2 (by decide) hg, own_off h.q1 h.q2 (by decide) hg, hr, map_off h.m h.q2 hg, h.gb, h.bb, h.n0, h.K.grow2 hg (fun k hk => own_base h.q2 k hk) ha h.hbs⟩
theorem row_set {W : World} {base gx n size : Nat} {e t : TypeId} {cs : Array Value} {v : Value} {xs : List Value} (h : W.ownsRow base e size v n xs) (hs : W.heap[gx]? = some (.cells cs t (0, 0))) (hne : e ≠ t) (j : Nat) (x : Value) : (W.setCell ⟨gx, j, none⟩ x).ownsRow base e size v n xs :=
 own_move h fun k hk => Below.heap_setCell W ⟨gx, j, none⟩ x k (fun e1 => own_apart h hs hne (by rw [hk]; exact congrArg some e1.symm))
theorem Mid.set (h : Mid W0 W base gx bm b o0 o1 o2 r0 r1 r2 l names rows L i) (j : Nat) (x : Value) :
  InRow (W.setCell ⟨gx, j, none⟩ x) base r0 l ∧ NmRow (W.setCell ⟨gx, j, none⟩ x) base r1 names ∧ IntRow (W.setCell ⟨gx, j, none⟩ x) base r2 rows ∧ LMap (W.setCell ⟨gx, j, none⟩ x) bm L :=
 ⟨row_set h.q0 h.s (by decide) j x, row_set h.q1 h.s (by decide) j x, row_set h.q2 h.s (by decide) j x, h.m.keep (Below.heap_setCell W ⟨gx, j, none⟩ x bm (fun e => h.m.ne h.s e.symm))⟩
theorem Mid.shut (h : Mid W0 W base gx bm b o0 o1 o2 r0 r1 r2 l names rows L i) :
  SrcAt (((W.setCell ⟨gx, 0, none⟩ r0).setCell ⟨gx, 1, none⟩ r1).setCell ⟨gx, 2, none⟩ r2) base gx bm r0 r1 r2 ⟨l, names, rows, L⟩ := by
 have s1 := blk_set h.s 0 r0
 have s2 := blk_set s1 1 r1
 have s3 := blk_set s2 2 r2
 have m1 := h.m.keep (Below.heap_setCell W ⟨gx, 0, none⟩ r0 bm (fun e => h.m.ne h.s e.symm))
 have m2 := m1.keep (Below.heap_setCell (W.setCell ⟨gx, 0, none⟩ r0) ⟨gx, 1, none⟩ r1 bm (fun e => m1.ne s1 e.symm))
 have m3 := m2.keep (Below.heap_setCell ((W.setCell ⟨gx, 0, none⟩ r0).setCell ⟨gx, 1, none⟩ r1) ⟨gx, 2, none⟩ r2 bm (fun e => m2.ne s2 e.symm))
 exact ⟨s3, row_set (row_set (row_set h.q0 h.s (by decide) 0 r0) s1 (by decide) 1 r1) s2 (by decide) 2 r2, row_set (row_set (row_set h.q1 h.s (by decide) 0 r0) s1 (by decide) 1 r1) s2 (by decide) 2 r2,
  row_set (row_set (row_set h.q2 h.s (by decide) 0 r0) s1 (by decide) 1 r1) s2 (by decide) 2 r2, m3, h.gb, h.bb⟩
theorem Mid.shutK (h : Mid W0 W base gx bm b o0 o1 o2 r0 r1 r2 l names rows L i) :
  LineKeeps W0 (((W.setCell ⟨gx, 0, none⟩ r0).setCell ⟨gx, 1, none⟩ r1).setCell ⟨gx, 2, none⟩ r2) base gx bm o0 o1 o2 r0 r1 r2 := ((h.K.set h.gb 0 r0).set h.gb 1 r1).set h.gb 2 r2
end
/-- What the region's loads read. -/
def midS (gx b : Nat) (o0 o1 o2 : Value) (i : In) (W : World) : Prop :=
 W.cell? ⟨gx, 0, none⟩ = some o0 ∧ W.cell? ⟨gx, 1, none⟩ = some o1 ∧ W.cell? ⟨gx, 2, none⟩ = some o2 ∧
 W.cell? ⟨b, 0, none⟩ = some (.int .i64 i.op) ∧ W.cell? ⟨b, 1, none⟩ = some (.int .i64 i.d) ∧ W.cell? ⟨b, 2, none⟩ = some (.int .i64 i.s) ∧ W.cell? ⟨b, 3, none⟩ = some (.int .i64 i.t) ∧
 W.cell? ⟨b, 4, none⟩ = some (.int .i64 i.u) ∧ W.cell? ⟨b, 5, none⟩ = some (.int .i64 i.a) ∧ W.cell? ⟨b, 6, none⟩ = some (.int .u32 i.k) ∧ W.cell? ⟨b, 7, none⟩ = some (.int .i64 i.q)
theorem mid_S {W0 W : World} {base gx bm b : Nat} {o0 o1 o2 r0 r1 r2 : Value} {l : List In} {names : List (List UInt8)} {rows : List Int} {L : List (List UInt8 × Nat)} {i : In} (h : Mid W0 W base gx bm b o0 o1 o2 r0 r1 r2 l names rows L i) : midS gx b o0 o1 o2 i W :=
 ⟨(blk_cell h.s 0).trans rfl, (blk_cell h.s 1).trans rfl, (blk_cell h.s 2).trans rfl, (blk_cell h.e 0).trans rfl, (blk_cell h.e 1).trans rfl, (blk_cell h.e 2).trans rfl, (blk_cell h.e 3).trans rfl, (blk_cell h.e 4).trans rfl, (blk_cell h.e 5).trans rfl, (blk_cell h.e 6).trans rfl, (blk_cell h.e 7).trans rfl⟩

section
variable {ops : Array Oper} {o : Oper} {a : Act} {K : Act → World → Prop} {Q : Exit → Act → World → Prop} {E : Prop} {W : World}
theorem below_new (W : World) (o : Obj) : Below W.heap.size W (W.alloc o) := (Below.refl _ _).alloc (Nat.le_refl _) o
theorem step_bin (hgd : o.guard = none) (x : Operand) (ho : o.op = .buildSlice 34 1 #[(0, x)]) (i : In) (hx : a.eval x = .agg i.cs)
  (h : ∀ g W1, Below W.heap.size W W1 → W1.heap[g]? = some (.cells i.cs 99 (0, 0)) → K (a.put o.dst (.slice (some ⟨g, 0, none⟩) 1 1)) W1) :
  if Region.wanted o (yielded ops a.tmps) = true then Oper.wp Tryz.prog o a W K Q else E := by
 rw [if_pos (by simp [Region.wanted, hgd])]
 obtain ⟨i9, hi, hz0, hz1, hz2⟩ := info_parts info_in
 refine wp_buildSlice 34 99 1 _ ho i.cs i9 (.agg In.zero.cs) Tryz.underlying34 hi hz0 (by rw [hz1]; decide) (by rw [hz1]; decide) ?_ (h _ _ (below_new W _) (blk_new _ _))
 rw [hz1]
 simp only [List.map_toArray, List.map_cons, List.map_nil, hx]
 cases i
 kernel_rfl
theorem step_bnm (hgd : o.guard = none) (x : Operand) (ho : o.op = .buildSlice 102 1 #[(0, x)]) (y : List UInt8) (hx : a.eval x = .string ⟨y.toArray⟩)
  (h : ∀ g W1, Below W.heap.size W W1 → W1.heap[g]? = some (.cells #[.string ⟨y.toArray⟩] 9 (0, 0)) → K (a.put o.dst (.slice (some ⟨g, 0, none⟩) 1 1)) W1) :
  if Region.wanted o (yielded ops a.tmps) = true then Oper.wp Tryz.prog o a W K Q else E := by
 rw [if_pos (by simp [Region.wanted, hgd])]
 obtain ⟨i9, hi, hz0, hz1, hz2⟩ := info_parts info_st
 refine wp_buildSlice 102 9 1 _ ho #[.string ⟨y.toArray⟩] i9 (.string ⟨#[]⟩) Tryz.underlying102 hi hz0 (by rw [hz1]; decide) (by rw [hz1]; decide) ?_ (h _ _ (below_new W _) (blk_new _ _))
 rw [hz1]
 simp only [List.map_toArray, List.map_cons, List.map_nil, hx]
 kernel_rfl
theorem step_bint (hgd : o.guard = none) (x : Operand) (ho : o.op = .buildSlice 27 1 #[(0, x)]) (y : Int) (hx : a.eval x = .int .i64 y)
  (h : ∀ g W1, Below W.heap.size W W1 → W1.heap[g]? = some (.cells #[.int .i64 y] 3 (0, 0)) → K (a.put o.dst (.slice (some ⟨g, 0, none⟩) 1 1)) W1) :
  if Region.wanted o (yielded ops a.tmps) = true then Oper.wp Tryz.prog o a W K Q else E := by
 rw [if_pos (by simp [Region.wanted, hgd])]
 obtain ⟨i9, hi, hz0, hz1, hz2⟩ := info_parts info_int
 refine wp_buildSlice 27 3 1 _ ho #[.int .i64 y] i9 (.int .i64 0) Tryz.underlying27 hi hz0 (by rw [hz1]; decide) (by rw [hz1]; decide) ?_ (h _ _ (below_new W _) (blk_new _ _))
 rw [hz1]
 simp only [List.map_toArray, List.map_cons, List.map_nil, hx]
 kernel_rfl
/-- An append at a step, by the kit's own law. -/
theorem step_app (hgd : o.guard = none) (s x : Operand) (t : TypeId) (ho : o.op = .call { callee := .builtin .append, args := #[s, x], argTypes := #[t, t] })
  (base : Nat) (e : TypeId) (i : TypeInfo) (z : Value) (size bytes : Nat) (ht : Tryz.prog.underlying t = some (.slice e)) (hi : Tryz.prog.info? e = some i) (hz : i.zero = some z)
  (hsize : i.size = size) (hby : i.bytes = bytes) (hzs : z.cells.size = size) (hsz : 0 < size)
  (v : Value) (n : Nat) (xs : List Value) (hs : a.eval s = v) (hown : W.ownsRow base e size v n xs)
  (g : Nat) (cs : Array Value) (fr : Nat × Nat) (hx : a.eval x = .slice (some ⟨g, 0, none⟩) 1 1) (hy : W.heap[g]? = some (.cells cs e fr)) (hcs : cs.size = size) (h1 : ∀ u ∈ cs.toList, u.oneCell' = true)
  (hl : n ≤ 1000000) (hbytes : bytes ≤ 1000) (hb : base ≤ W.heap.size)
  (h : ∀ v' W1, W1.ownsRow base e size v' (n + 1) (xs ++ cs.toList) → W.grownBy W1 v.ownBlock → (v'.ownBlock = v.ownBlock ∨ v'.ownBlock = some W.heap.size) → K (a.put o.dst v') W1) :
  if Region.wanted o (yielded ops a.tmps) = true then Oper.wp Tryz.prog o a W K Q else E := by
 rw [if_pos (by simp [Region.wanted, hgd])]
 have hm : (n + 1) * bytes ≤ 1000001 * 1000 := Nat.mul_le_mul (by omega) hbytes
 obtain ⟨v', w', hr, h2, h3, h4, h5⟩ := run_append_own_at (P := Tryz.prog) W base t o.type e i z size bytes ht hi hz hsize hby hzs hsz v n xs hown ⟨g, 0, none⟩ 1 1 cs.toList (by simpa using hcs) (World.news_of_block hy) h1 (by simp [maxLen]; omega) (by omega) hb
 unfold Oper.wp execOp
 simp only [ho, resolve, invoke, builtin, Sem.run_bind, Sem.run_pure, Result.andThen_ok, List.map_toArray, List.map_cons, List.map_nil, hs, hx, hr]
 exact h _ _ h2 h3 h5
theorem step_ain (hgd : o.guard = none) (s x : Operand) (ho : o.op = .call { callee := .builtin .append, args := #[s, x], argTypes := #[34, 34] })
  (base g : Nat) (y : In) (v : Value) (xs : List In) (hs : a.eval s = v) (hr : InRow W base v xs) (hx : a.eval x = .slice (some ⟨g, 0, none⟩) 1 1)
  (hy : W.heap[g]? = some (.cells y.cs 99 (0, 0))) (hl : xs.length ≤ 1000000) (hb : base ≤ W.heap.size)
  (h : ∀ v' W1, InRow W1 base v' (xs ++ [y]) → W.grownBy W1 v.ownBlock → (v'.ownBlock = v.ownBlock ∨ v'.ownBlock = some W.heap.size) → K (a.put o.dst v') W1) :
  if Region.wanted o (yielded ops a.tmps) = true then Oper.wp Tryz.prog o a W K Q else E := by
 obtain ⟨i9, hi, hz0, hz1, hz2⟩ := info_parts info_in
 refine step_app hgd s x 34 ho base 99 i9 (.agg In.zero.cs) 8 64 Tryz.underlying34 hi hz0 hz1 hz2 rfl (by decide) v xs.length (inCells xs) hs hr g y.cs (0, 0) hx hy rfl ?_ hl (by decide) hb ?_
 ·intro u hu
  have : u ∈ y.cs.toList := hu
  simp [In.cs] at this
  rcases this with rfl | rfl | rfl | rfl | rfl | rfl | rfl | rfl <;> rfl
 ·intro v' W1 h1 h2 h4
  refine h v' W1 ?_ h2 h4
  unfold InRow
  rw [inCells_snoc, List.length_append]
  exact h1
theorem step_anm (hgd : o.guard = none) (s x : Operand) (ho : o.op = .call { callee := .builtin .append, args := #[s, x], argTypes := #[102, 102] })
  (base g : Nat) (y : List UInt8) (v : Value) (xs : List (List UInt8)) (hs : a.eval s = v) (hr : NmRow W base v xs) (hx : a.eval x = .slice (some ⟨g, 0, none⟩) 1 1)
  (hy : W.heap[g]? = some (.cells #[.string ⟨y.toArray⟩] 9 (0, 0))) (hl : xs.length ≤ 1000000) (hb : base ≤ W.heap.size)
  (h : ∀ v' W1, NmRow W1 base v' (xs ++ [y]) → W.grownBy W1 v.ownBlock → (v'.ownBlock = v.ownBlock ∨ v'.ownBlock = some W.heap.size) → K (a.put o.dst v') W1) :
  if Region.wanted o (yielded ops a.tmps) = true then Oper.wp Tryz.prog o a W K Q else E := by
 obtain ⟨i9, hi, hz0, hz1, hz2⟩ := info_parts info_st
 refine step_app hgd s x 102 ho base 9 i9 (.string ⟨#[]⟩) 1 16 Tryz.underlying102 hi hz0 hz1 hz2 rfl (by decide) v xs.length _ hs hr g #[.string ⟨y.toArray⟩] (0, 0) hx hy rfl ?_ hl (by decide) hb ?_
 ·simp [Value.oneCell']
 ·intro v' W1 h1 h2 h4
  refine h v' W1 ?_ h2 h4
  unfold NmRow
  rw [List.map_append, List.length_append]
  exact h1
theorem step_aint (hgd : o.guard = none) (s x : Operand) (ho : o.op = .call { callee := .builtin .append, args := #[s, x], argTypes := #[27, 27] })
  (base g : Nat) (y : Int) (v : Value) (xs : List Int) (hs : a.eval s = v) (hr : IntRow W base v xs) (hx : a.eval x = .slice (some ⟨g, 0, none⟩) 1 1)
  (hy : W.heap[g]? = some (.cells #[.int .i64 y] 3 (0, 0))) (hl : xs.length ≤ 1000000) (hb : base ≤ W.heap.size)
  (h : ∀ v' W1, IntRow W1 base v' (xs ++ [y]) → W.grownBy W1 v.ownBlock → (v'.ownBlock = v.ownBlock ∨ v'.ownBlock = some W.heap.size) → K (a.put o.dst v') W1) :
  if Region.wanted o (yielded ops a.tmps) = true then Oper.wp Tryz.prog o a W K Q else E := by
 obtain ⟨i9, hi, hz0, hz1, hz2⟩ := info_parts info_int
 refine step_app hgd s x 27 ho base 3 i9 (.int .i64 0) 1 8 Tryz.underlying27 hi hz0 hz1 hz2 rfl (by decide) v xs.length _ hs hr g #[.int .i64 y] (0, 0) hx hy rfl ?_ hl (by decide) hb ?_
 ·simp [Value.oneCell']
 ·intro v' W1 h1 h2 h4
  refine h v' W1 ?_ h2 h4
  unfold IntRow
  rw [List.map_append, List.length_append]
  exact h1
end
end Go.Proofs.YtbhpkeiofajbpaaGreatDoor

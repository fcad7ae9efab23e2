/- Parts: AsmEval, WEqStruct, EqInst, Awake7, Same. -/
import Derived.Test.YtbodainpdjmjdaaGreatDoorB08
import Derived.Test.YtbodainpdjmjdaaGreatDoorB01
import Derived.Laws.StructEq
import Derived.Test.YtbodainpdjmjdaaGreatDoorB07
import Derived.Test.YtbodainpdjmjdaaGreatDoorB24
import Derived.Deep.RegionHeld3
/- asmF of fixed texts, by evaluation. -/
section
namespace Go.Proofs.YtbodainpdjmjdaaGreatDoor
open Go Go.Lib
end Go.Proofs.YtbodainpdjmjdaaGreatDoor
end
section
/-! ### 53. '==' of structs as_ one Bool -/
namespace Go.Proofs.YtbodainpdjmjdaaGreatDoorW.PrintWords
open Go.RowKit
section
variable {P : Program} {d : Nat} {xs ys : Array Value} {f : Field} {fs : List Field} {a b : Value} {r s : Bool} {w : World}
/-- The last field that counts. -/
theorem eqf_last (hn : (f.name == "_") = false) (ha : (part f.type xs f.offset).run P w = .ok a w) (hb : (part f.type ys f.offset).run P w = .ok b w) (he : (Op.equalIn d f.type a b).run P w = .ok r w) : (Op.eqFields d xs ys [f]).run P w = .ok r w := by
 have hn' : f.name ≠ "_" := by simpa using hn
 simp only [Op.eqFields, if_pos hn', Sem.run_bind, ha, hb, he, Result.andThen_ok]
 cases r <;> simp
theorem eqf_cons (hn : (f.name == "_") = false) (ha : (part f.type xs f.offset).run P w = .ok a w) (hb : (part f.type ys f.offset).run P w = .ok b w) (he : (Op.equalIn d f.type a b).run P w = .ok r w) (hr : (Op.eqFields d xs ys fs).run P w = .ok s w) : (Op.eqFields d xs ys (f :: fs)).run P w = .ok (r && s) w := by
 have hn' : f.name ≠ "_" := by simpa using hn
 rw [Op.eqFields]
 simp only [if_pos hn', Sem.run_bind, ha, hb, he, Result.andThen_ok]
 cases r
 ·simp
 ·simpa using hr
theorem eqA_of {t : TypeId} {fs : Array Field} (hu : P.underlying t = some (.struct fs)) (hp : P.stoodInHeld t = false) (h : (Op.eqFields d xs ys fs.toList).run P w = .ok r w) : (Op.equalIn (d + 1) t (.agg xs) (.agg ys)).run P w = .ok r w := by
 have hf : P.fieldsOf t = fs := by simp [Program.fieldsOf, hu]
 rw [run_equalIn_struct (P := P) w d t xs ys (by rw [hf]; exact hu) hp, hf]
 exact h
end
end Go.Proofs.YtbodainpdjmjdaaGreatDoorW.PrintWords
end
/- '==' of two instructions, the program's and the document's, as one Bool. -/
section
namespace Go.Proofs.YtbodainpdjmjdaaGreatDoor
open Go.RowKit Go.Proofs.YtbodainpdjmjdaaGreatDoorW.PrintWords
set_option linter.unusedVariables false

theorem eqI_r (d : Nat) (w : World) (x0 x1 x2 x3 x4 x5 x6 x7 y0 y1 y2 y3 y4 y5 y6 y7 : Int) :
  (Op.equalIn (d + 2) 84 (.agg #[.int .i64 x0, .int .i64 x1, .int .i64 x2, .int .i64 x3, .int .i64 x4, .int .i64 x5, .int .u32 x6, .int .i64 x7]) (.agg #[.int .i64 y0, .int .i64 y1, .int .i64 y2, .int .i64 y3, .int .i64 y4, .int .i64 y5, .int .u32 y6, .int .i64 y7])).run Tryz.prog w = .ok (x0 == y0 && (x1 == y1 && (x2 == y2 && (x3 == y3 && (x4 == y4 && (x5 == y5 && (x6 == y6 && (x7 == y7)))))))) w := by
 refine eqA_of Tryz.underlying84 (by kernel_rfl) ?_
 refine eqf_cons (by rfl) (by go_simp; rfl) (by go_simp; rfl) (by go_simp) ?_
 refine eqf_cons (by rfl) (by go_simp; rfl) (by go_simp; rfl) (by go_simp) ?_
 refine eqf_cons (by rfl) (by go_simp; rfl) (by go_simp; rfl) (by go_simp) ?_
 refine eqf_cons (by rfl) (by go_simp; rfl) (by go_simp; rfl) (by go_simp) ?_
 refine eqf_cons (by rfl) (by go_simp; rfl) (by go_simp; rfl) (by go_simp) ?_
 refine eqf_cons (by rfl) (by go_simp; rfl) (by go_simp; rfl) (by go_simp) ?_
 refine eqf_cons (by rfl) (by go_simp; rfl) (by go_simp; rfl) (by go_simp) ?_
 exact eqf_last (by rfl) (by go_simp; rfl) (by go_simp; rfl) (by go_simp)
theorem eql_r (x y : In) (w : World) : (binOp .eql 84 x.v y.v).run Tryz.prog w = .ok (.bool (decide (x = y))) w := by
 have h := eqI_r 9998 w x.op x.d x.s x.t x.u x.a x.k x.q y.op y.d y.s y.t y.u y.a y.k y.q
 have e : decide (x = y) = (x.op == y.op && (x.d == y.d && (x.s == y.s && (x.t == y.t && (x.u == y.u && (x.a == y.a && (x.k == y.k && x.q == y.q))))))) := by
  cases x; cases y
  rw [Bool.eq_iff_iff]
  simp
 rw [e]
 simp only [binOp, In.v]
 simp [Op.equal, Op.maxDepth, h]

end Go.Proofs.YtbodainpdjmjdaaGreatDoor
end
/- ropelinelaw07.awake: the document's example of an assembled program. -/
section
namespace Go.Proofs.YtbodainpdjmjdaaGreatDoor
open Go.RowKit Go.Proofs.YtbodainpdjmjdaaGreatDoorW.PrintWords
set_option linter.unusedVariables false
set_option linter.unusedSimpArgs false

/-- A row of instructions, cell by cell. -/
theorem InRow.at {W : World} {base : Nat} {v : Value} {xs : List In} (h : InRow W base v xs) (hn : 0 < xs.length) :
  ∃ g c, v = .slice (some ⟨g, 0, none⟩) xs.length c ∧ xs.length ≤ c ∧ base ≤ g ∧ g < W.heap.size ∧ ∀ j u, (inCells xs)[j]? = some u → W.cell? ⟨g, j, none⟩ = some u := by
 obtain ⟨h1, h2⟩ := h
 rcases h2 with ⟨rfl, h0⟩ | ⟨g, cap, cur, rfl, hg, hh, hc, hm, hs, ht⟩
 ·omega
 ·refine ⟨g, cap, rfl, hc, hg, blk_lt hh, fun j u hj => (blk_cell hh j).trans ?_⟩
  have hlt : j < xs.length * 8 := by rw [← h1]; exact (List.getElem?_eq_some_iff.1 hj).1
  rw [← ht, List.getElem?_take_of_lt hlt, Array.getElem?_toList] at hj
  exact hj

end Go.Proofs.YtbodainpdjmjdaaGreatDoor
end
/- Rows that are read: words, Same, SameSpec of the document: of alike ones: true. Same of two programs of the document's, SameSpec: of alike ones: true. SameSpec of the document: of two alike specs: true. -/
section
namespace Go.Proofs.YtbodainpdjmjdaaGreatDoor
open Go.RowKit Go.Proofs.YtbodainpdjmjdaaGreatDoorW.PrintWords
set_option linter.unusedVariables false
set_option linter.unusedSimpArgs false

/-- A row that can be read: n elements, the cells cs. -/
def RdRow (W : World) (v : Value) (n : Nat) (cs : List Value) : Prop :=
 (n = 0 ∧ ∃ A c, v = .slice A 0 c) ∨ ∃ g c, v = .slice (some ⟨g, 0, none⟩) n c ∧ n ≤ c ∧ 0 < n ∧ ∀ j u, cs[j]? = some u → W.cell? ⟨g, j, none⟩ = some u
theorem RdRow.keep {W W1 : World} {v : Value} {n : Nat} {cs : List Value} (h : RdRow W v n cs) (hb : Below W.heap.size W W1) : RdRow W1 v n cs := by
 rcases h with h | ⟨g, c, h1, h2, h3, h4⟩
 ·exact .inl h
 ·exact .inr ⟨g, c, h1, h2, h3, fun j u hj => cell_keep hb (h4 j u hj)⟩
theorem RdRow.nil (W : World) : RdRow W (.slice none 0 0) 0 [] := .inl ⟨rfl, _, _, rfl⟩
theorem RdRow.slice {W : World} {v : Value} {n : Nat} {cs : List Value} (h : RdRow W v n cs) : ∃ A c, v = .slice A n c := by
 rcases h with ⟨rfl, A, c, rfl⟩ | ⟨g, c, h1, _⟩
 ·exact ⟨A, c, rfl⟩
 ·exact ⟨_, _, h1⟩
theorem RdRow.cells {W : World} {v : Value} {n : Nat} {cs : List Value} (h : RdRow W v n cs) (hn : 0 < n) : ∃ g c, v = .slice (some ⟨g, 0, none⟩) n c ∧ ∀ j u, cs[j]? = some u → W.cell? ⟨g, j, none⟩ = some u := by
 rcases h with ⟨rfl, _⟩ | ⟨g, c, h1, _, _, h4⟩
 ·omega
 ·exact ⟨g, c, h1, h4⟩
theorem InRow.rd {W : World} {base : Nat} {v : Value} {xs : List In} (h : InRow W base v xs) : RdRow W v xs.length (inCells xs) := by
 by_cases hn : 0 < xs.length
 ·obtain ⟨g, c, h1, h2, _, _, h3⟩ := h.at hn
  exact .inr ⟨g, c, h1, h2, hn, h3⟩
 ·have h0 : xs.length = 0 := by omega
  rw [h0]
  refine .inl ⟨rfl, ?_⟩
  rcases h.2 with ⟨rfl, _⟩ | ⟨g, cap, cur, rfl, _⟩
  ·exact ⟨none, 0, rfl⟩
  ·exact ⟨_, _, by rw [h0]⟩
theorem inCells_at (xs : List In) (k : Nat) (hk : k < xs.length) (j : Nat) (hj : j < 8) : (inCells xs)[k * 8 + j]? = (xs.getD k In.zero).cs.toList[j]? := by
 induction xs generalizing k with
 | nil => simp at hk
 | cons i l ih =>
  have e : inCells (i :: l) = i.cs.toList ++ inCells l := by simp [inCells]
  have e8 : i.cs.toList.length = 8 := rfl
  rw [e]
  cases k with
  | zero => rw [List.getElem?_append_left (by omega)]; simp
  | succ k =>
   rw [List.getElem?_append_right (by omega), e8, show (k + 1) * 8 + j - 8 = k * 8 + j by omega, ih k (by simpa using hk)]
   simp [List.getD_eq_getElem?_getD]
theorem in_cells_at {W : World} {g k : Nat} {xs : List In} (h : ∀ j u, (inCells xs)[j]? = some u → W.cell? ⟨g, j, none⟩ = some u) (hk : k < xs.length) {op d s t u a q : Int} {kk : Int} (he : xs.getD k In.zero = ⟨op, d, s, t, u, a, kk, q⟩) :
  W.cell? ⟨g, k * 8, none⟩ = some (.int .i64 op) ∧ W.cell? ⟨g, k * 8 + 1, none⟩ = some (.int .i64 d) ∧ W.cell? ⟨g, k * 8 + 2, none⟩ = some (.int .i64 s) ∧ W.cell? ⟨g, k * 8 + 3, none⟩ = some (.int .i64 t) ∧
  W.cell? ⟨g, k * 8 + 4, none⟩ = some (.int .i64 u) ∧ W.cell? ⟨g, k * 8 + 5, none⟩ = some (.int .i64 a) ∧ W.cell? ⟨g, k * 8 + 6, none⟩ = some (.int .u32 kk) ∧ W.cell? ⟨g, k * 8 + 7, none⟩ = some (.int .i64 q) := by
 have f : ∀ j, j < 8 → (inCells xs)[k * 8 + j]? = (In.cs ⟨op, d, s, t, u, a, kk, q⟩).toList[j]? := fun j hj => by rw [inCells_at xs k hk j hj, he]
 exact ⟨h (k * 8) _ (f 0 (by decide)), h _ _ (f 1 (by decide)), h _ _ (f 2 (by decide)), h _ _ (f 3 (by decide)), h _ _ (f 4 (by decide)), h _ _ (f 5 (by decide)), h _ _ (f 6 (by decide)), h _ _ (f 7 (by decide))⟩

set_option maxHeartbeats 2000000 in
set_option maxRecDepth 100000 in
/-- words: two rows of the same numbers. -/
theorem wordsR_calls (va vb : Value) (xs : List Int) (W : World) (ha : RdRow W va xs.length (xs.map (Value.int .u32))) (hb : RdRow W vb xs.length (xs.map (Value.int .u32))) (hn : xs.length ≤ 1000000) :
  Calls Tryz.prog 64 #[va, vb] W fun e W' => e = .returned (.bool true) ∧ Below W.heap.size W W' := by
 obtain ⟨A, c, rfl⟩ := ha.slice
 obtain ⟨B, d, rfl⟩ := hb.slice
 obtain ⟨n, hl⟩ : ∃ n, xs.length = n := ⟨_, rfl⟩
 rw [hl] at ha hb hn ⊢
 replace ha := Aside0.mk ha
 replace hb := Aside0.mk hb
 replace hl := Aside0.mk hl
 go_enter Tryz.func64, Tryz.ntmps64
 go_wp2_with fail
 go_loopw [13] (fun v13 wr => ∃ k : Nat, v13 = .int .i64 k ∧ k ≤ n ∧ Aside0 (Below W.heap.size W wr)) (fun v13 _ => n - (intOf v13).toNat)
 case atStart => exact ⟨0, rfl, Nat.zero_le _, ⟨Below.refl _ _⟩⟩
 case round =>
  obtain ⟨k, rfl, hk, hB⟩ := hrel
  by_cases hlt : k < n
  ·obtain ⟨ga, c', hva, hca⟩ := (ha.out.keep hB.out).cells (by omega)
   obtain ⟨gb, d', hvb, hcb⟩ := (hb.out.keep hB.out).cells (by omega)
   obtain ⟨rfl, rfl⟩ : A = some ⟨ga, 0, none⟩ ∧ c = c' := by injection hva with h1 h2 h3; exact ⟨h1, h3⟩
   obtain ⟨rfl, rfl⟩ : B = some ⟨gb, 0, none⟩ ∧ d = d' := by injection hvb with h1 h2 h3; exact ⟨h1, h3⟩
   have hx : (xs.map (Value.int .u32))[k]? = some (.int .u32 (xs.getD k 0)) := by
    simp [List.getD_eq_getElem?_getD, List.getElem?_eq_getElem (show k < xs.length by rw [hl.out]; exact hlt)]
   have ca := hca k _ hx
   have cb := hcb k _ hx
   generalize xs.getD k 0 = y at ca cb
   have hk0 : (0 : Int) ≤ (k : Int) := by omega
   have hk1 : (k : Int) < (n : Int) := by omega
   have hkw : IntKind.i64.wrap ((k : Int) + 1) = (k : Int) + 1 := by rw [IntKind.wrap_i64]; omega
   have hS : wr.drew.cell? ⟨ga, k, none⟩ = some (.int .u32 y) ∧ wr.drew.cell? ⟨gb, k, none⟩ = some (.int .u32 y) := ⟨ca, cb⟩
   clear hca hcb hva hvb hx
   go_wp2_with fail
   go_region_held3 (fun W => W.cell? ⟨ga, k, none⟩ = some (.int .u32 y) ∧ W.cell? ⟨gb, k, none⟩ = some (.int .u32 y)) (first | exact hS) (first | fail)
   go_wp2
   go_roundw
   case rel => exact ⟨k + 1, by go_num, hlt, ⟨below_drew hB.out⟩⟩
   case measure => simp [intOf]; omega
  ·obtain rfl : k = n := by omega
   have hge : ¬ (k : Int) < (k : Int) := by omega
   go_wp2
   go_ret
   exact ⟨rfl, hB.out⟩
end Go.Proofs.YtbodainpdjmjdaaGreatDoor

namespace Go.Proofs.YtbodainpdjmjdaaGreatDoor
open Go.RowKit Go.Proofs.YtbodainpdjmjdaaGreatDoorW.PrintWords
set_option linter.unusedVariables false
set_option linter.unusedSimpArgs false

theorem neq_self (x : In) (w : World) : (binOp .neq 84 x.v x.v).run Tryz.prog w = .ok (.bool false) w := by
 have h := eqI_r 9998 w x.op x.d x.s x.t x.u x.a x.k x.q x.op x.d x.s x.t x.u x.a x.k x.q
 simp only [binOp, In.v]
 simp [Op.equal, Op.maxDepth, h]

set_option maxHeartbeats 4000000 in
set_option maxRecDepth 100000 in
theorem same7_calls (va vb : Value) (l u : Int) (xs : List In) (W : World) (ha : RdRow W va xs.length (inCells xs)) (hb : RdRow W vb xs.length (inCells xs)) (hn : xs.length ≤ 1000000) :
  Calls Tryz.prog 53 #[.agg #[va, .int .i64 l, .int .i64 u], .agg #[vb, .int .i64 l, .int .i64 u]] W fun e W' => e = .returned (.bool true) ∧ Below W.heap.size W W' := by
 obtain ⟨A, c, rfl⟩ := ha.slice
 obtain ⟨B, d, rfl⟩ := hb.slice
 obtain ⟨n, hl⟩ : ∃ n, xs.length = n := ⟨_, rfl⟩
 rw [hl] at ha hb hn ⊢
 have hBl := Aside0.mk (((Below.refl W.heap.size W).alloc (Nat.le_refl _) (.cells #[.slice A n c, .int .i64 l, .int .i64 u] 35)).alloc (by simp) (.cells #[.slice B n d, .int .i64 l, .int .i64 u] 35))
 have b1 := Aside0.mk (blk_old (blk_new W (.cells #[.slice A n c, .int .i64 l, .int .i64 u] 35)) (.cells #[.slice B n d, .int .i64 l, .int .i64 u] 35))
 have b2 := Aside0.mk (blk_new2 W (.cells #[.slice A n c, .int .i64 l, .int .i64 u] 35) (.cells #[.slice B n d, .int .i64 l, .int .i64 u] 35))
 replace ha := Aside0.mk ha
 replace hb := Aside0.mk hb
 replace hl := Aside0.mk hl
 go_enter Tryz.func53, Tryz.ntmps53
 go_wp2_with fail
 go_loopw [30] (fun v30 wr => ∃ k : Nat, v30 = .int .i64 k ∧ k ≤ n ∧ Aside0 (Below W.heap.size W wr) ∧ Aside0 (wr.heap[W.heap.size]? = some (.cells #[.slice A n c, .int .i64 l, .int .i64 u] 35 (0, 0))) ∧ Aside0 (wr.heap[W.heap.size + 1]? = some (.cells #[.slice B n d, .int .i64 l, .int .i64 u] 35 (0, 0)))) (fun v30 _ => n - (intOf v30).toNat)
 case atStart => exact ⟨0, rfl, Nat.zero_le _, hBl, b1, b2⟩
 case round =>
  obtain ⟨k, rfl, hk, hB, c1, c2⟩ := hrel
  by_cases hlt : k < n
  ·obtain ⟨ga, c', hva, hca⟩ := (ha.out.keep hB.out).cells (by omega)
   obtain ⟨gb, d', hvb, hcb⟩ := (hb.out.keep hB.out).cells (by omega)
   obtain ⟨rfl, rfl⟩ : A = some ⟨ga, 0, none⟩ ∧ c = c' := by injection hva with h1 h2 h3; exact ⟨h1, h3⟩
   obtain ⟨rfl, rfl⟩ : B = some ⟨gb, 0, none⟩ ∧ d = d' := by injection hvb with h1 h2 h3; exact ⟨h1, h3⟩
   have hkx : k < xs.length := by rw [hl.out]; exact hlt
   obtain ⟨⟨op, dd, s, t, uu, a, kk, q⟩, hi⟩ : ∃ i, xs.getD k In.zero = i := ⟨_, rfl⟩
   obtain ⟨a0, a1, a2, a3, a4, a5, a6, a7⟩ := in_cells_at hca hkx hi
   obtain ⟨e0, e1, e2, e3, e4, e5, e6, e7⟩ := in_cells_at hcb hkx hi
   have x0 : wr.cell? ⟨W.heap.size, 0, none⟩ = some (.slice (some ⟨ga, 0, none⟩) n c) := (blk_cell c1.out 0).trans rfl
   have y0 : wr.cell? ⟨W.heap.size + 1, 0, none⟩ = some (.slice (some ⟨gb, 0, none⟩) n d) := (blk_cell c2.out 0).trans rfl
   have hk0 : (0 : Int) ≤ (k : Int) := by omega
   have hk1 : (k : Int) < (n : Int) := by omega
   have hkw : IntKind.i64.wrap ((k : Int) + 1) = (k : Int) + 1 := by rw [IntKind.wrap_i64]; omega
   have hne := fun w => neq_self ⟨op, dd, s, t, uu, a, kk, q⟩ w
   simp only [In.v] at hne
   have hS : wr.drew.cell? ⟨W.heap.size, 0, none⟩ = some (.slice (some ⟨ga, 0, none⟩) n c) ∧ wr.drew.cell? ⟨W.heap.size + 1, 0, none⟩ = some (.slice (some ⟨gb, 0, none⟩) n d) ∧
    (wr.drew.cell? ⟨ga, k * 8, none⟩ = some (.int .i64 op) ∧ wr.drew.cell? ⟨ga, k * 8 + 1, none⟩ = some (.int .i64 dd) ∧ wr.drew.cell? ⟨ga, k * 8 + 2, none⟩ = some (.int .i64 s) ∧ wr.drew.cell? ⟨ga, k * 8 + 3, none⟩ = some (.int .i64 t) ∧ wr.drew.cell? ⟨ga, k * 8 + 4, none⟩ = some (.int .i64 uu) ∧ wr.drew.cell? ⟨ga, k * 8 + 5, none⟩ = some (.int .i64 a) ∧ wr.drew.cell? ⟨ga, k * 8 + 6, none⟩ = some (.int .u32 kk) ∧ wr.drew.cell? ⟨ga, k * 8 + 7, none⟩ = some (.int .i64 q)) ∧
    (wr.drew.cell? ⟨gb, k * 8, none⟩ = some (.int .i64 op) ∧ wr.drew.cell? ⟨gb, k * 8 + 1, none⟩ = some (.int .i64 dd) ∧ wr.drew.cell? ⟨gb, k * 8 + 2, none⟩ = some (.int .i64 s) ∧ wr.drew.cell? ⟨gb, k * 8 + 3, none⟩ = some (.int .i64 t) ∧ wr.drew.cell? ⟨gb, k * 8 + 4, none⟩ = some (.int .i64 uu) ∧ wr.drew.cell? ⟨gb, k * 8 + 5, none⟩ = some (.int .i64 a) ∧ wr.drew.cell? ⟨gb, k * 8 + 6, none⟩ = some (.int .u32 kk) ∧ wr.drew.cell? ⟨gb, k * 8 + 7, none⟩ = some (.int .i64 q)) :=
    ⟨x0, y0, ⟨a0, a1, a2, a3, a4, a5, a6, a7⟩, e0, e1, e2, e3, e4, e5, e6, e7⟩
   clear hca hcb hva hvb hi hkx
   go_wp2_with fail
   go_region_held3 (fun W' => W'.cell? ⟨W.heap.size, 0, none⟩ = some (.slice (some ⟨ga, 0, none⟩) n c) ∧ W'.cell? ⟨W.heap.size + 1, 0, none⟩ = some (.slice (some ⟨gb, 0, none⟩) n d) ∧
    (W'.cell? ⟨ga, k * 8, none⟩ = some (.int .i64 op) ∧ W'.cell? ⟨ga, k * 8 + 1, none⟩ = some (.int .i64 dd) ∧ W'.cell? ⟨ga, k * 8 + 2, none⟩ = some (.int .i64 s) ∧ W'.cell? ⟨ga, k * 8 + 3, none⟩ = some (.int .i64 t) ∧ W'.cell? ⟨ga, k * 8 + 4, none⟩ = some (.int .i64 uu) ∧ W'.cell? ⟨ga, k * 8 + 5, none⟩ = some (.int .i64 a) ∧ W'.cell? ⟨ga, k * 8 + 6, none⟩ = some (.int .u32 kk) ∧ W'.cell? ⟨ga, k * 8 + 7, none⟩ = some (.int .i64 q)) ∧
    (W'.cell? ⟨gb, k * 8, none⟩ = some (.int .i64 op) ∧ W'.cell? ⟨gb, k * 8 + 1, none⟩ = some (.int .i64 dd) ∧ W'.cell? ⟨gb, k * 8 + 2, none⟩ = some (.int .i64 s) ∧ W'.cell? ⟨gb, k * 8 + 3, none⟩ = some (.int .i64 t) ∧ W'.cell? ⟨gb, k * 8 + 4, none⟩ = some (.int .i64 uu) ∧ W'.cell? ⟨gb, k * 8 + 5, none⟩ = some (.int .i64 a) ∧ W'.cell? ⟨gb, k * 8 + 6, none⟩ = some (.int .u32 kk) ∧ W'.cell? ⟨gb, k * 8 + 7, none⟩ = some (.int .i64 q))) (first | exact hS) (first | fail)
   go_wp2
   go_roundw
   case rel => exact ⟨k + 1, by go_num, hlt, ⟨below_drew hB.out⟩, ⟨blk_drew c1.out⟩, ⟨blk_drew c2.out⟩⟩
   case measure => simp [intOf]; omega
  ·obtain rfl : k = n := by omega
   have hge : ¬ (k : Int) < (k : Int) := by omega
   go_wp2
   go_ret
   exact ⟨rfl, hB.out⟩
end Go.Proofs.YtbodainpdjmjdaaGreatDoor

namespace Go.Proofs.YtbodainpdjmjdaaGreatDoor
open Go.RowKit Go.Proofs.YtbodainpdjmjdaaGreatDoorW.PrintWords
set_option linter.unusedVariables false
set_option linter.unusedSimpArgs false

set_option maxHeartbeats 4000000 in
set_option maxRecDepth 100000 in
theorem sameSpec_calls (va vb sa sb ia ib ra rb : Value) (l u each : Int) (xs : List In) (ss is rs : List Int) (W : World) (ha : RdRow W va xs.length (inCells xs)) (hb : RdRow W vb xs.length (inCells xs))
  (hsa : RdRow W sa ss.length (ss.map (Value.int .i64))) (hsb : RdRow W sb ss.length (ss.map (Value.int .i64))) (hia : RdRow W ia is.length (is.map (Value.int .u32))) (hib : RdRow W ib is.length (is.map (Value.int .u32)))
  (hra : RdRow W ra rs.length (rs.map (Value.int .u32))) (hrb : RdRow W rb rs.length (rs.map (Value.int .u32))) (hn : xs.length ≤ 1000000) (hs : ss.length ≤ 1000000) (hi : is.length ≤ 1000000) (hr : rs.length ≤ 1000000) :
  Calls Tryz.prog 15 #[.agg #[va, .int .i64 l, .int .i64 u, sa, ia, .int .i64 each, ra], .agg #[vb, .int .i64 l, .int .i64 u, sb, ib, .int .i64 each, rb]] W fun e W' => e = .returned (.bool true) ∧ Below W.heap.size W W' := by
 obtain ⟨A, c, rfl⟩ := hsa.slice
 obtain ⟨B, d, rfl⟩ := hsb.slice
 obtain ⟨n, hl⟩ : ∃ n, ss.length = n := ⟨_, rfl⟩
 rw [hl] at hsa hsb hs ⊢
 have hBl := Aside0.mk (((Below.refl W.heap.size W).alloc (Nat.le_refl _) (.cells #[va, .int .i64 l, .int .i64 u, .slice A n c, ia, .int .i64 each, ra] 37)).alloc (by simp) (.cells #[vb, .int .i64 l, .int .i64 u, .slice B n d, ib, .int .i64 each, rb] 37))
 have b1 := Aside0.mk (blk_old (blk_new W (.cells #[va, .int .i64 l, .int .i64 u, .slice A n c, ia, .int .i64 each, ra] 37)) (.cells #[vb, .int .i64 l, .int .i64 u, .slice B n d, ib, .int .i64 each, rb] 37))
 have b2 := Aside0.mk (blk_new2 W (.cells #[va, .int .i64 l, .int .i64 u, .slice A n c, ia, .int .i64 each, ra] 37) (.cells #[vb, .int .i64 l, .int .i64 u, .slice B n d, ib, .int .i64 each, rb] 37))
 replace hsa := Aside0.mk hsa
 replace hsb := Aside0.mk hsb
 replace hl := Aside0.mk hl
 have C1 := Aside0.mk (fun (W' : World) (hb' : Below W.heap.size W W') => same7_calls va vb l u xs W' (ha.keep hb') (hb.keep hb') hn)
 have C2 := Aside0.mk (fun (W' : World) (hb' : Below W.heap.size W W') => wordsR_calls ia ib is W' (hia.keep hb') (hib.keep hb') hi)
 have C3 := Aside0.mk (fun (W' : World) (hb' : Below W.heap.size W W') => wordsR_calls ra rb rs W' (hra.keep hb') (hrb.keep hb') hr)
 obtain ⟨A1, e1, rfl⟩ := ha.slice
 obtain ⟨A2, e2, rfl⟩ := hb.slice
 obtain ⟨A3, e3, rfl⟩ := hia.slice
 obtain ⟨A4, e4, rfl⟩ := hib.slice
 obtain ⟨A5, e5, rfl⟩ := hra.slice
 obtain ⟨A6, e6, rfl⟩ := hrb.slice
 generalize xs.length = nx at *
 generalize is.length = ni at *
 generalize rs.length = nr at *
 clear ha hb hia hib hra hrb hn hi hr
 go_enter Tryz.func15, Tryz.ntmps15
 go_wp2_with fail
 go_loopw [23] (fun v23 wr => ∃ k : Nat, v23 = .int .i64 k ∧ k ≤ n ∧ Aside0 (Below W.heap.size W wr) ∧ Aside0 (wr.heap[W.heap.size]? = some (.cells #[.slice A1 nx e1, .int .i64 l, .int .i64 u, .slice A n c, .slice A3 ni e3, .int .i64 each, .slice A5 nr e5] 37 (0, 0))) ∧ Aside0 (wr.heap[W.heap.size + 1]? = some (.cells #[.slice A2 nx e2, .int .i64 l, .int .i64 u, .slice B n d, .slice A4 ni e4, .int .i64 each, .slice A6 nr e6] 37 (0, 0)))) (fun v23 _ => n - (intOf v23).toNat)
 case atStart => exact ⟨0, rfl, Nat.zero_le _, hBl, b1, b2⟩
 case round =>
  obtain ⟨k, rfl, hk, hB, c1, c2⟩ := hrel
  by_cases hlt : k < n
  ·obtain ⟨ga, c', hva, hca⟩ := (hsa.out.keep hB.out).cells (by omega)
   obtain ⟨gb, d', hvb, hcb⟩ := (hsb.out.keep hB.out).cells (by omega)
   obtain ⟨rfl, rfl⟩ : A = some ⟨ga, 0, none⟩ ∧ c = c' := by injection hva with h1 h2 h3; exact ⟨h1, h3⟩
   obtain ⟨rfl, rfl⟩ : B = some ⟨gb, 0, none⟩ ∧ d = d' := by injection hvb with h1 h2 h3; exact ⟨h1, h3⟩
   have hx : (ss.map (Value.int .i64))[k]? = some (.int .i64 (ss.getD k 0)) := by
    simp [List.getD_eq_getElem?_getD, List.getElem?_eq_getElem (show k < ss.length by rw [hl.out]; exact hlt)]
   have ca := hca k _ hx
   have cb := hcb k _ hx
   generalize ss.getD k 0 = y at ca cb
   have x0 : wr.cell? ⟨W.heap.size, 3, none⟩ = some (.slice (some ⟨ga, 0, none⟩) n c) := (blk_cell c1.out 3).trans rfl
   have y0 : wr.cell? ⟨W.heap.size + 1, 3, none⟩ = some (.slice (some ⟨gb, 0, none⟩) n d) := (blk_cell c2.out 3).trans rfl
   have hk0 : (0 : Int) ≤ (k : Int) := by omega
   have hk1 : (k : Int) < (n : Int) := by omega
   have hkw : IntKind.i64.wrap ((k : Int) + 1) = (k : Int) + 1 := by rw [IntKind.wrap_i64]; omega
   have hS : wr.drew.cell? ⟨W.heap.size, 3, none⟩ = some (.slice (some ⟨ga, 0, none⟩) n c) ∧ wr.drew.cell? ⟨W.heap.size + 1, 3, none⟩ = some (.slice (some ⟨gb, 0, none⟩) n d) ∧ wr.drew.cell? ⟨ga, k, none⟩ = some (.int .i64 y) ∧ wr.drew.cell? ⟨gb, k, none⟩ = some (.int .i64 y) := ⟨x0, y0, ca, cb⟩
   clear hca hcb hva hvb hx
   go_wp2_with fail
   go_region_held3 (fun W' => W'.cell? ⟨W.heap.size, 3, none⟩ = some (.slice (some ⟨ga, 0, none⟩) n c) ∧ W'.cell? ⟨W.heap.size + 1, 3, none⟩ = some (.slice (some ⟨gb, 0, none⟩) n d) ∧ W'.cell? ⟨ga, k, none⟩ = some (.int .i64 y) ∧ W'.cell? ⟨gb, k, none⟩ = some (.int .i64 y)) (first | exact hS) (first | fail)
   go_wp2
   go_roundw
   case rel => exact ⟨k + 1, by go_num, hlt, ⟨below_drew hB.out⟩, ⟨blk_drew c1.out⟩, ⟨blk_drew c2.out⟩⟩
   case measure => simp [intOf]; omega
  ·obtain rfl : k = n := by omega
   have hge : ¬ (k : Int) < (k : Int) := by omega
   have x0 : wr.cell? ⟨W.heap.size, 0, none⟩ = some (.slice A1 nx e1) := (blk_cell c1.out 0).trans rfl
   have x1 : wr.cell? ⟨W.heap.size, 1, none⟩ = some (.int .i64 l) := (blk_cell c1.out 1).trans rfl
   have x2 : wr.cell? ⟨W.heap.size, 2, none⟩ = some (.int .i64 u) := (blk_cell c1.out 2).trans rfl
   have y0 : wr.cell? ⟨W.heap.size + 1, 0, none⟩ = some (.slice A2 nx e2) := (blk_cell c2.out 0).trans rfl
   have y1 : wr.cell? ⟨W.heap.size + 1, 1, none⟩ = some (.int .i64 l) := (blk_cell c2.out 1).trans rfl
   have y2 : wr.cell? ⟨W.heap.size + 1, 2, none⟩ = some (.int .i64 u) := (blk_cell c2.out 2).trans rfl
   go_wp2_with fail
   refine (C1.out _ hB.out).mono ?_
   rintro e w1 ⟨rfl, hb1⟩
   replace c1 := Aside0.mk (blk_keep hb1 c1.out)
   replace c2 := Aside0.mk (blk_keep hb1 c2.out)
   replace hB := Aside0.mk (hB.out.trans (hb1.mono hB.out.size))
   have x4 : w1.cell? ⟨W.heap.size, 4, none⟩ = some (.slice A3 ni e3) := (blk_cell c1.out 4).trans rfl
   have y4 : w1.cell? ⟨W.heap.size + 1, 4, none⟩ = some (.slice A4 ni e4) := (blk_cell c2.out 4).trans rfl
   clear x0 x1 x2 y0 y1 y2 hb1 C1
   go_wp2_with fail
   refine (C2.out _ hB.out).mono ?_
   rintro e w2 ⟨rfl, hb2⟩
   replace c1 := Aside0.mk (blk_keep hb2 c1.out)
   replace c2 := Aside0.mk (blk_keep hb2 c2.out)
   replace hB := Aside0.mk (hB.out.trans (hb2.mono hB.out.size))
   have x6 : w2.cell? ⟨W.heap.size, 6, none⟩ = some (.slice A5 nr e5) := (blk_cell c1.out 6).trans rfl
   have y6 : w2.cell? ⟨W.heap.size + 1, 6, none⟩ = some (.slice A6 nr e6) := (blk_cell c2.out 6).trans rfl
   clear x4 y4 hb2 C2
   go_wp2_with fail
   refine (C3.out _ hB.out).mono ?_
   rintro e w3 ⟨rfl, hb3⟩
   replace hB := Aside0.mk (hB.out.trans (hb3.mono hB.out.size))
   clear hb3 C3 c1 c2
   go_wp2
   go_ret
   exact ⟨rfl, hB.out⟩
end Go.Proofs.YtbodainpdjmjdaaGreatDoor
end

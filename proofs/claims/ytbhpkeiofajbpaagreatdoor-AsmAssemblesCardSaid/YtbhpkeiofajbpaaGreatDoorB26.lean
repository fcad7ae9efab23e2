/- Parts: AsmEval, WEqStruct, EqInst, Awake7, Same, RefFind. -/
import Derived.Test.YtbhpkeiofajbpaaGreatDoorB08
import Derived.Test.YtbhpkeiofajbpaaGreatDoorB01
import Derived.Laws.StructEq
import Derived.Test.YtbhpkeiofajbpaaGreatDoorB07
import Derived.Test.YtbhpkeiofajbpaaGreatDoorB25
import Derived.Deep.RegionHeld3
import Derived.Test.YtbhpkeiofajbpaaGreatDoorB11
import Derived.Test.YtbhpkeiofajbpaaGreatDoorB21
/- asmF of fixed texts, by evaluation. -/
section
namespace Go.Proofs.YtbhpkeiofajbpaaGreatDoor
open Go Go.Lib
theorem eval_awake : asmF [108, 111, 99, 107, 58, 10, 100, 111, 110, 101, 32, 49, 10, 117, 110, 108, 111, 99, 107, 58, 10, 106, 117, 109, 112, 32, 108, 111, 99, 107, 10] = (⟨[⟨13, 0, 0, 0, 0, 0, 1, 0⟩, ⟨10, 0, 0, 0, 0, 0, 0, 0⟩], 0, 1⟩, 0, 0) := by decide +kernel
end Go.Proofs.YtbhpkeiofajbpaaGreatDoor
end
section
/-! ### 53. '==' of structs as_ one Bool -/
namespace Go.Proofs.YtbhpkeiofajbpaaGreatDoorW.PrintWords
open Go.RowKit
section
variable {P : Program} {d : Nat} {xs ys : Array Value} {f : Field} {fs : List Field} {a b : Value} {r s : Bool} {w : World}
/-- The last field that counts. -/
theorem eqf_last (hn : (f.name == "_") = false) (ha : (part f.type xs f.offset).run P w = .ok a w) (hb : (part f.type ys f.offset).run P w = .ok b w) (he : (Op.equalIn d f.type a b).run P w = .ok r w) : (Op.eqFields d xs ys [f]).run P w = .ok r w := by
 have hn' : f.name ≠ "_" := by simpa using hn
 simp only [Op.eqFields, if_pos hn', Sem.run_bind, ha, hb, he, Result.andThen_ok]
 cases r <;> simp
theorem eqf_cons (hn : (f.name == "_") = false) (ha : (part f.type xs f.offset).run P w = .ok a w) (hb : (part f.type ys f.offset).run P w = .ok b w) (he : (Op.equalIn d f.type a b).run P w = .ok r w) (hr : (Op.eqFields d xs ys fs).run P w = .ok s w) : (Op.eqFields d xs ys (f :: fs)).run P w = .ok (r && s) w := by
 have hn' : f.name ≠ "_" := by simpa using hn
 rw [Op.eqFields]
 simp only [if_pos hn', Sem.run_bind, ha, hb, he, Result.andThen_ok]
 cases r
 ·simp
 ·simpa using hr
theorem eqA_of {t : TypeId} {fs : Array Field} (hu : P.underlying t = some (.struct fs)) (hp : P.stoodInHeld t = false) (h : (Op.eqFields d xs ys fs.toList).run P w = .ok r w) : (Op.equalIn (d + 1) t (.agg xs) (.agg ys)).run P w = .ok r w := by
 have hf : P.fieldsOf t = fs := by simp [Program.fieldsOf, hu]
 rw [run_equalIn_struct (P := P) w d t xs ys (by rw [hf]; exact hu) hp, hf]
 exact h
end
end Go.Proofs.YtbhpkeiofajbpaaGreatDoorW.PrintWords
end
/- '==' of two instructions, the program's and the document's, as one Bool. -/
section
namespace Go.Proofs.YtbhpkeiofajbpaaGreatDoor
open Go.RowKit Go.Proofs.YtbhpkeiofajbpaaGreatDoorW.PrintWords
set_option linter.unusedVariables false

theorem eqI_a (d : Nat) (w : World) (x0 x1 x2 x3 x4 x5 x6 x7 y0 y1 y2 y3 y4 y5 y6 y7 : Int) :
  (Op.equalIn (d + 2) 99 (.agg #[.int .i64 x0, .int .i64 x1, .int .i64 x2, .int .i64 x3, .int .i64 x4, .int .i64 x5, .int .u32 x6, .int .i64 x7]) (.agg #[.int .i64 y0, .int .i64 y1, .int .i64 y2, .int .i64 y3, .int .i64 y4, .int .i64 y5, .int .u32 y6, .int .i64 y7])).run Tryz.prog w = .ok (x0 == y0 && (x1 == y1 && (x2 == y2 && (x3 == y3 && (x4 == y4 && (x5 == y5 && (x6 == y6 && (x7 == y7)))))))) w := by
 refine eqA_of Tryz.underlying99 (by kernel_rfl) ?_
 refine eqf_cons (by rfl) (by go_simp; rfl) (by go_simp; rfl) (by go_simp) ?_
 refine eqf_cons (by rfl) (by go_simp; rfl) (by go_simp; rfl) (by go_simp) ?_
 refine eqf_cons (by rfl) (by go_simp; rfl) (by go_simp; rfl) (by go_simp) ?_
 refine eqf_cons (by rfl) (by go_simp; rfl) (by go_simp; rfl) (by go_simp) ?_
 refine eqf_cons (by rfl) (by go_simp; rfl) (by go_simp; rfl) (by go_simp) ?_
 refine eqf_cons (by rfl) (by go_simp; rfl) (by go_simp; rfl) (by go_simp) ?_
 refine eqf_cons (by rfl) (by go_simp; rfl) (by go_simp; rfl) (by go_simp) ?_
 exact eqf_last (by rfl) (by go_simp; rfl) (by go_simp; rfl) (by go_simp)
theorem eql_a (x y : In) (w : World) : (binOp .eql 99 x.v y.v).run Tryz.prog w = .ok (.bool (decide (x = y))) w := by
 have h := eqI_a 9998 w x.op x.d x.s x.t x.u x.a x.k x.q y.op y.d y.s y.t y.u y.a y.k y.q
 have e : decide (x = y) = (x.op == y.op && (x.d == y.d && (x.s == y.s && (x.t == y.t && (x.u == y.u && (x.a == y.a && (x.k == y.k && x.q == y.q))))))) := by
  cases x; cases y
  rw [Bool.eq_iff_iff]
  simp
 rw [e]
 simp only [binOp, In.v]
 simp [Op.equal, Op.maxDepth, h]

theorem eqI_r (d : Nat) (w : World) (x0 x1 x2 x3 x4 x5 x6 x7 y0 y1 y2 y3 y4 y5 y6 y7 : Int) :
  (Op.equalIn (d + 2) 114 (.agg #[.int .i64 x0, .int .i64 x1, .int .i64 x2, .int .i64 x3, .int .i64 x4, .int .i64 x5, .int .u32 x6, .int .i64 x7]) (.agg #[.int .i64 y0, .int .i64 y1, .int .i64 y2, .int .i64 y3, .int .i64 y4, .int .i64 y5, .int .u32 y6, .int .i64 y7])).run Tryz.prog w = .ok (x0 == y0 && (x1 == y1 && (x2 == y2 && (x3 == y3 && (x4 == y4 && (x5 == y5 && (x6 == y6 && (x7 == y7)))))))) w := by
 refine eqA_of Tryz.underlying114 (by kernel_rfl) ?_
 refine eqf_cons (by rfl) (by go_simp; rfl) (by go_simp; rfl) (by go_simp) ?_
 refine eqf_cons (by rfl) (by go_simp; rfl) (by go_simp; rfl) (by go_simp) ?_
 refine eqf_cons (by rfl) (by go_simp; rfl) (by go_simp; rfl) (by go_simp) ?_
 refine eqf_cons (by rfl) (by go_simp; rfl) (by go_simp; rfl) (by go_simp) ?_
 refine eqf_cons (by rfl) (by go_simp; rfl) (by go_simp; rfl) (by go_simp) ?_
 refine eqf_cons (by rfl) (by go_simp; rfl) (by go_simp; rfl) (by go_simp) ?_
 refine eqf_cons (by rfl) (by go_simp; rfl) (by go_simp; rfl) (by go_simp) ?_
 exact eqf_last (by rfl) (by go_simp; rfl) (by go_simp; rfl) (by go_simp)
theorem eql_r (x y : In) (w : World) : (binOp .eql 114 x.v y.v).run Tryz.prog w = .ok (.bool (decide (x = y))) w := by
 have h := eqI_r 9998 w x.op x.d x.s x.t x.u x.a x.k x.q y.op y.d y.s y.t y.u y.a y.k y.q
 have e : decide (x = y) = (x.op == y.op && (x.d == y.d && (x.s == y.s && (x.t == y.t && (x.u == y.u && (x.a == y.a && (x.k == y.k && x.q == y.q))))))) := by
  cases x; cases y
  rw [Bool.eq_iff_iff]
  simp
 rw [e]
 simp only [binOp, In.v]
 simp [Op.equal, Op.maxDepth, h]

end Go.Proofs.YtbhpkeiofajbpaaGreatDoor
end
/- ropelinelaw07.awake: the document's example of an assembled program. -/
section
namespace Go.Proofs.YtbhpkeiofajbpaaGreatDoor
open Go.RowKit Go.Proofs.YtbhpkeiofajbpaaGreatDoorW.PrintWords
set_option linter.unusedVariables false
set_option linter.unusedSimpArgs false

/-- A row of instructions, cell by cell. -/
theorem InRow.at {W : World} {base : Nat} {v : Value} {xs : List In} (h : InRow W base v xs) (hn : 0 < xs.length) :
  ∃ g c, v = .slice (some ⟨g, 0, none⟩) xs.length c ∧ xs.length ≤ c ∧ base ≤ g ∧ g < W.heap.size ∧ ∀ j u, (inCells xs)[j]? = some u → W.cell? ⟨g, j, none⟩ = some u := by
 obtain ⟨h1, h2⟩ := h
 rcases h2 with ⟨rfl, h0⟩ | ⟨g, cap, cur, rfl, hg, hh, hc, hm, hs, ht⟩
 ·omega
 ·refine ⟨g, cap, rfl, hc, hg, blk_lt hh, fun j u hj => (blk_cell hh j).trans ?_⟩
  have hlt : j < xs.length * 8 := by rw [← h1]; exact (List.getElem?_eq_some_iff.1 hj).1
  rw [← ht, List.getElem?_take_of_lt hlt, Array.getElem?_toList] at hj
  exact hj

set_option maxHeartbeats 4000000 in
set_option maxRecDepth 100000 in
theorem awake7_calls (w : World) (he : Env w) : Calls Tryz.prog 24 #[] w fun e w' => e = .returned (.bool true) ∧ Below w.heap.size w w' := by
 have C := asm_calls [108, 111, 99, 107, 58, 10, 100, 111, 110, 101, 32, 49, 10, 117, 110, 108, 111, 99, 107, 58, 10, 106, 117, 109, 112, 32, 108, 111, 99, 107, 10] w he (by decide)
 unfold AEnd at C
 rw [eval_awake] at C
 replace C := Aside0.mk C
 have keq : ∀ W, (binOp .eql 99 (In.v ⟨10, 0, 0, 0, 0, 0, 0, 0⟩) (In.v ⟨10, 0, 0, 0, 0, 0, 0, 0⟩)).run Tryz.prog W = .ok (.bool true) W := fun W => by
  have := eql_a ⟨10, 0, 0, 0, 0, 0, 0, 0⟩ ⟨10, 0, 0, 0, 0, 0, 0, 0⟩ W
  rw [decide_eq_true rfl] at this
  exact this
 simp only [In.v] at keq
 go_enter Tryz.func24, Tryz.ntmps24
 go_wp2_with fail
 refine C.out.mono ?_
 rintro e w1 ⟨v, rfl, hr, hb⟩
 obtain ⟨g, c, rfl, hc, hg, hlt, hcells⟩ := hr.at (by decide)
 have b0 : w1.cell? ⟨g, 8, none⟩ = some (.int .i64 10) := hcells 8 _ rfl
 have b1 : w1.cell? ⟨g, 9, none⟩ = some (.int .i64 0) := hcells 9 _ rfl
 have b2 : w1.cell? ⟨g, 10, none⟩ = some (.int .i64 0) := hcells 10 _ rfl
 have b3 : w1.cell? ⟨g, 11, none⟩ = some (.int .i64 0) := hcells 11 _ rfl
 have b4 : w1.cell? ⟨g, 12, none⟩ = some (.int .i64 0) := hcells 12 _ rfl
 have b5 : w1.cell? ⟨g, 13, none⟩ = some (.int .i64 0) := hcells 13 _ rfl
 have b6 : w1.cell? ⟨g, 14, none⟩ = some (.int .u32 0) := hcells 14 _ rfl
 have b7 : w1.cell? ⟨g, 15, none⟩ = some (.int .i64 0) := hcells 15 _ rfl
 have hgne : g ≠ w1.heap.size := Nat.ne_of_lt hlt
 have hb2 := Aside0.mk (hb.alloc hb.size (.cells #[.slice (some ⟨g, 0, none⟩) 2 c, .int .i64 0, .int .i64 1] 36))
 dsimp only [List.length_cons, List.length_nil, Nat.reduceAdd]
 clear hcells hr hb hg hc C
 go_wp2_with fail
 go_ret
 exact ⟨rfl, hb2.out⟩
end Go.Proofs.YtbhpkeiofajbpaaGreatDoor
end
/- Rows that are read: words, Same, SameSpec of the document: of alike ones: true. Same of two programs of the document's, SameSpec: of alike ones: true. SameSpec of the document: of two alike specs: true. -/
section
namespace Go.Proofs.YtbhpkeiofajbpaaGreatDoor
open Go.RowKit Go.Proofs.YtbhpkeiofajbpaaGreatDoorW.PrintWords
set_option linter.unusedVariables false
set_option linter.unusedSimpArgs false

/-- A row that can be read: n elements, the cells cs. -/
def RdRow (W : World) (v : Value) (n : Nat) (cs : List Value) : Prop :=
 (n = 0 ∧ ∃ A c, v = .slice A 0 c) ∨ ∃ g c, v = .slice (some ⟨g, 0, none⟩) n c ∧ n ≤ c ∧ 0 < n ∧ ∀ j u, cs[j]? = some u → W.cell? ⟨g, j, none⟩ = some u
theorem RdRow.keep {W W1 : World} {v : Value} {n : Nat} {cs : List Value} (h : RdRow W v n cs) (hb : Below W.heap.size W W1) : RdRow W1 v n cs := by
 rcases h with h | ⟨g, c, h1, h2, h3, h4⟩
 ·exact .inl h
 ·exact .inr ⟨g, c, h1, h2, h3, fun j u hj => cell_keep hb (h4 j u hj)⟩
theorem RdRow.nil (W : World) : RdRow W (.slice none 0 0) 0 [] := .inl ⟨rfl, _, _, rfl⟩
theorem RdRow.slice {W : World} {v : Value} {n : Nat} {cs : List Value} (h : RdRow W v n cs) : ∃ A c, v = .slice A n c := by
 rcases h with ⟨rfl, A, c, rfl⟩ | ⟨g, c, h1, _⟩
 ·exact ⟨A, c, rfl⟩
 ·exact ⟨_, _, h1⟩
theorem RdRow.cells {W : World} {v : Value} {n : Nat} {cs : List Value} (h : RdRow W v n cs) (hn : 0 < n) : ∃ g c, v = .slice (some ⟨g, 0, none⟩) n c ∧ ∀ j u, cs[j]? = some u → W.cell? ⟨g, j, none⟩ = some u := by
 rcases h with ⟨rfl, _⟩ | ⟨g, c, h1, _, _, h4⟩
 ·omega
 ·exact ⟨g, c, h1, h4⟩
theorem InRow.rd {W : World} {base : Nat} {v : Value} {xs : List In} (h : InRow W base v xs) : RdRow W v xs.length (inCells xs) := by
 by_cases hn : 0 < xs.length
 ·obtain ⟨g, c, h1, h2, _, _, h3⟩ := h.at hn
  exact .inr ⟨g, c, h1, h2, hn, h3⟩
 ·have h0 : xs.length = 0 := by omega
  rw [h0]
  refine .inl ⟨rfl, ?_⟩
  rcases h.2 with ⟨rfl, _⟩ | ⟨g, cap, cur, rfl, _⟩
  ·exact ⟨none, 0, rfl⟩
  ·exact ⟨_, _, by rw [h0]⟩
theorem inCells_at (xs : List In) (k : Nat) (hk : k < xs.length) (j : Nat) (hj : j < 8) : (inCells xs)[k * 8 + j]? = (xs.getD k In.zero).cs.toList[j]? := by
 induction xs generalizing k with
 | nil => simp at hk
 | cons i l ih =>
  have e : inCells (i :: l) = i.cs.toList ++ inCells l := by simp [inCells]
  have e8 : i.cs.toList.length = 8 := rfl
  rw [e]
  cases k with
  | zero => rw [List.getElem?_append_left (by omega)]; simp
  | succ k =>
   rw [List.getElem?_append_right (by omega), e8, show (k + 1) * 8 + j - 8 = k * 8 + j by omega, ih k (by simpa using hk)]
   simp [List.getD_eq_getElem?_getD]
theorem in_cells_at {W : World} {g k : Nat} {xs : List In} (h : ∀ j u, (inCells xs)[j]? = some u → W.cell? ⟨g, j, none⟩ = some u) (hk : k < xs.length) {op d s t u a q : Int} {kk : Int} (he : xs.getD k In.zero = ⟨op, d, s, t, u, a, kk, q⟩) :
  W.cell? ⟨g, k * 8, none⟩ = some (.int .i64 op) ∧ W.cell? ⟨g, k * 8 + 1, none⟩ = some (.int .i64 d) ∧ W.cell? ⟨g, k * 8 + 2, none⟩ = some (.int .i64 s) ∧ W.cell? ⟨g, k * 8 + 3, none⟩ = some (.int .i64 t) ∧
  W.cell? ⟨g, k * 8 + 4, none⟩ = some (.int .i64 u) ∧ W.cell? ⟨g, k * 8 + 5, none⟩ = some (.int .i64 a) ∧ W.cell? ⟨g, k * 8 + 6, none⟩ = some (.int .u32 kk) ∧ W.cell? ⟨g, k * 8 + 7, none⟩ = some (.int .i64 q) := by
 have f : ∀ j, j < 8 → (inCells xs)[k * 8 + j]? = (In.cs ⟨op, d, s, t, u, a, kk, q⟩).toList[j]? := fun j hj => by rw [inCells_at xs k hk j hj, he]
 exact ⟨h (k * 8) _ (f 0 (by decide)), h _ _ (f 1 (by decide)), h _ _ (f 2 (by decide)), h _ _ (f 3 (by decide)), h _ _ (f 4 (by decide)), h _ _ (f 5 (by decide)), h _ _ (f 6 (by decide)), h _ _ (f 7 (by decide))⟩

end Go.Proofs.YtbhpkeiofajbpaaGreatDoor

namespace Go.Proofs.YtbhpkeiofajbpaaGreatDoor
open Go.RowKit Go.Proofs.YtbhpkeiofajbpaaGreatDoorW.PrintWords
set_option linter.unusedVariables false
set_option linter.unusedSimpArgs false

theorem neq_self (x : In) (w : World) : (binOp .neq 114 x.v x.v).run Tryz.prog w = .ok (.bool false) w := by
 have h := eqI_r 9998 w x.op x.d x.s x.t x.u x.a x.k x.q x.op x.d x.s x.t x.u x.a x.k x.q
 simp only [binOp, In.v]
 simp [Op.equal, Op.maxDepth, h]

set_option maxHeartbeats 4000000 in
set_option maxRecDepth 100000 in
theorem same7_calls (va vb : Value) (l u : Int) (xs : List In) (W : World) (ha : RdRow W va xs.length (inCells xs)) (hb : RdRow W vb xs.length (inCells xs)) (hn : xs.length ≤ 1000000) :
  Calls Tryz.prog 27 #[.agg #[va, .int .i64 l, .int .i64 u], .agg #[vb, .int .i64 l, .int .i64 u]] W fun e W' => e = .returned (.bool true) ∧ Below W.heap.size W W' := by
 obtain ⟨A, c, rfl⟩ := ha.slice
 obtain ⟨B, d, rfl⟩ := hb.slice
 obtain ⟨n, hl⟩ : ∃ n, xs.length = n := ⟨_, rfl⟩
 rw [hl] at ha hb hn ⊢
 have hBl := Aside0.mk (((Below.refl W.heap.size W).alloc (Nat.le_refl _) (.cells #[.slice A n c, .int .i64 l, .int .i64 u] 26)).alloc (by simp) (.cells #[.slice B n d, .int .i64 l, .int .i64 u] 26))
 have b1 := Aside0.mk (blk_old (blk_new W (.cells #[.slice A n c, .int .i64 l, .int .i64 u] 26)) (.cells #[.slice B n d, .int .i64 l, .int .i64 u] 26))
 have b2 := Aside0.mk (blk_new2 W (.cells #[.slice A n c, .int .i64 l, .int .i64 u] 26) (.cells #[.slice B n d, .int .i64 l, .int .i64 u] 26))
 replace ha := Aside0.mk ha
 replace hb := Aside0.mk hb
 replace hl := Aside0.mk hl
 go_enter Tryz.func27, Tryz.ntmps27
 go_wp2_with fail
 go_loopw [30] (fun v30 wr => ∃ k : Nat, v30 = .int .i64 k ∧ k ≤ n ∧ Aside0 (Below W.heap.size W wr) ∧ Aside0 (wr.heap[W.heap.size]? = some (.cells #[.slice A n c, .int .i64 l, .int .i64 u] 26 (0, 0))) ∧ Aside0 (wr.heap[W.heap.size + 1]? = some (.cells #[.slice B n d, .int .i64 l, .int .i64 u] 26 (0, 0)))) (fun v30 _ => n - (intOf v30).toNat)
 case atStart => exact ⟨0, rfl, Nat.zero_le _, hBl, b1, b2⟩
 case round =>
  obtain ⟨k, rfl, hk, hB, c1, c2⟩ := hrel
  by_cases hlt : k < n
  ·obtain ⟨ga, c', hva, hca⟩ := (ha.out.keep hB.out).cells (by omega)
   obtain ⟨gb, d', hvb, hcb⟩ := (hb.out.keep hB.out).cells (by omega)
   obtain ⟨rfl, rfl⟩ : A = some ⟨ga, 0, none⟩ ∧ c = c' := by injection hva with h1 h2 h3; exact ⟨h1, h3⟩
   obtain ⟨rfl, rfl⟩ : B = some ⟨gb, 0, none⟩ ∧ d = d' := by injection hvb with h1 h2 h3; exact ⟨h1, h3⟩
   have hkx : k < xs.length := by rw [hl.out]; exact hlt
   obtain ⟨⟨op, dd, s, t, uu, a, kk, q⟩, hi⟩ : ∃ i, xs.getD k In.zero = i := ⟨_, rfl⟩
   obtain ⟨a0, a1, a2, a3, a4, a5, a6, a7⟩ := in_cells_at hca hkx hi
   obtain ⟨e0, e1, e2, e3, e4, e5, e6, e7⟩ := in_cells_at hcb hkx hi
   have x0 : wr.cell? ⟨W.heap.size, 0, none⟩ = some (.slice (some ⟨ga, 0, none⟩) n c) := (blk_cell c1.out 0).trans rfl
   have y0 : wr.cell? ⟨W.heap.size + 1, 0, none⟩ = some (.slice (some ⟨gb, 0, none⟩) n d) := (blk_cell c2.out 0).trans rfl
   have hk0 : (0 : Int) ≤ (k : Int) := by omega
   have hk1 : (k : Int) < (n : Int) := by omega
   have hkw : IntKind.i64.wrap ((k : Int) + 1) = (k : Int) + 1 := by rw [IntKind.wrap_i64]; omega
   have hne := fun w => neq_self ⟨op, dd, s, t, uu, a, kk, q⟩ w
   simp only [In.v] at hne
   have hS : wr.drew.cell? ⟨W.heap.size, 0, none⟩ = some (.slice (some ⟨ga, 0, none⟩) n c) ∧ wr.drew.cell? ⟨W.heap.size + 1, 0, none⟩ = some (.slice (some ⟨gb, 0, none⟩) n d) ∧
    (wr.drew.cell? ⟨ga, k * 8, none⟩ = some (.int .i64 op) ∧ wr.drew.cell? ⟨ga, k * 8 + 1, none⟩ = some (.int .i64 dd) ∧ wr.drew.cell? ⟨ga, k * 8 + 2, none⟩ = some (.int .i64 s) ∧ wr.drew.cell? ⟨ga, k * 8 + 3, none⟩ = some (.int .i64 t) ∧ wr.drew.cell? ⟨ga, k * 8 + 4, none⟩ = some (.int .i64 uu) ∧ wr.drew.cell? ⟨ga, k * 8 + 5, none⟩ = some (.int .i64 a) ∧ wr.drew.cell? ⟨ga, k * 8 + 6, none⟩ = some (.int .u32 kk) ∧ wr.drew.cell? ⟨ga, k * 8 + 7, none⟩ = some (.int .i64 q)) ∧
    (wr.drew.cell? ⟨gb, k * 8, none⟩ = some (.int .i64 op) ∧ wr.drew.cell? ⟨gb, k * 8 + 1, none⟩ = some (.int .i64 dd) ∧ wr.drew.cell? ⟨gb, k * 8 + 2, none⟩ = some (.int .i64 s) ∧ wr.drew.cell? ⟨gb, k * 8 + 3, none⟩ = some (.int .i64 t) ∧ wr.drew.cell? ⟨gb, k * 8 + 4, none⟩ = some (.int .i64 uu) ∧ wr.drew.cell? ⟨gb, k * 8 + 5, none⟩ = some (.int .i64 a) ∧ wr.drew.cell? ⟨gb, k * 8 + 6, none⟩ = some (.int .u32 kk) ∧ wr.drew.cell? ⟨gb, k * 8 + 7, none⟩ = some (.int .i64 q)) :=
    ⟨x0, y0, ⟨a0, a1, a2, a3, a4, a5, a6, a7⟩, e0, e1, e2, e3, e4, e5, e6, e7⟩
   clear hca hcb hva hvb hi hkx
   go_wp2_with fail
   go_region_held3 (fun W' => W'.cell? ⟨W.heap.size, 0, none⟩ = some (.slice (some ⟨ga, 0, none⟩) n c) ∧ W'.cell? ⟨W.heap.size + 1, 0, none⟩ = some (.slice (some ⟨gb, 0, none⟩) n d) ∧
    (W'.cell? ⟨ga, k * 8, none⟩ = some (.int .i64 op) ∧ W'.cell? ⟨ga, k * 8 + 1, none⟩ = some (.int .i64 dd) ∧ W'.cell? ⟨ga, k * 8 + 2, none⟩ = some (.int .i64 s) ∧ W'.cell? ⟨ga, k * 8 + 3, none⟩ = some (.int .i64 t) ∧ W'.cell? ⟨ga, k * 8 + 4, none⟩ = some (.int .i64 uu) ∧ W'.cell? ⟨ga, k * 8 + 5, none⟩ = some (.int .i64 a) ∧ W'.cell? ⟨ga, k * 8 + 6, none⟩ = some (.int .u32 kk) ∧ W'.cell? ⟨ga, k * 8 + 7, none⟩ = some (.int .i64 q)) ∧
    (W'.cell? ⟨gb, k * 8, none⟩ = some (.int .i64 op) ∧ W'.cell? ⟨gb, k * 8 + 1, none⟩ = some (.int .i64 dd) ∧ W'.cell? ⟨gb, k * 8 + 2, none⟩ = some (.int .i64 s) ∧ W'.cell? ⟨gb, k * 8 + 3, none⟩ = some (.int .i64 t) ∧ W'.cell? ⟨gb, k * 8 + 4, none⟩ = some (.int .i64 uu) ∧ W'.cell? ⟨gb, k * 8 + 5, none⟩ = some (.int .i64 a) ∧ W'.cell? ⟨gb, k * 8 + 6, none⟩ = some (.int .u32 kk) ∧ W'.cell? ⟨gb, k * 8 + 7, none⟩ = some (.int .i64 q))) (first | exact hS) (first | fail)
   go_wp2
   go_roundw
   case rel => exact ⟨k + 1, by go_num, hlt, ⟨below_drew hB.out⟩, ⟨blk_drew c1.out⟩, ⟨blk_drew c2.out⟩⟩
   case measure => simp [intOf]; omega
  ·obtain rfl : k = n := by omega
   have hge : ¬ (k : Int) < (k : Int) := by omega
   go_wp2
   go_ret
   exact ⟨rfl, hB.out⟩
end Go.Proofs.YtbhpkeiofajbpaaGreatDoor

namespace Go.Proofs.YtbhpkeiofajbpaaGreatDoor
open Go.RowKit Go.Proofs.YtbhpkeiofajbpaaGreatDoorW.PrintWords
set_option linter.unusedVariables false
set_option linter.unusedSimpArgs false

end Go.Proofs.YtbhpkeiofajbpaaGreatDoor
end
/- ropelineref07.find, over a row of labels that the call itself has made. -/
section
namespace Go.Proofs.YtbhpkeiofajbpaaGreatDoor
open Go.RowKit Go.Proofs.YtbhpkeiofajbpaaGreatDoorW.PrintWords
set_option linter.unusedVariables false
set_option linter.unusedSimpArgs false

/-- An owned row is read. -/
theorem own_rd {W : World} {base n size : Nat} {e : TypeId} {v : Value} {xs : List Value} (h : W.ownsRow base e size v n xs) (hn : 0 < n) :
  ∃ g c, v = .slice (some ⟨g, 0, none⟩) n c ∧ n ≤ c ∧ base ≤ g ∧ (∃ cs, W.heap[g]? = some (.cells cs e (0, 0)) ∧ n * size ≤ cs.size) ∧ ∀ j u, xs[j]? = some u → W.cell? ⟨g, j, none⟩ = some u := by
 obtain ⟨h1, h2⟩ := h
 rcases h2 with ⟨rfl, h0⟩ | ⟨g, cap, cur, rfl, hg, hh, hc, hm, hs, ht⟩
 ·omega
 ·refine ⟨g, cap, rfl, hc, hg, ⟨cur, hh, by rw [hs]; exact Nat.mul_le_mul_right _ hc⟩, fun j u hj => (blk_cell hh j).trans ?_⟩
  have hlt : j < n * size := by rw [← h1]; exact (List.getElem?_eq_some_iff.1 hj).1
  rw [← ht, List.getElem?_take_of_lt hlt, Array.getElem?_toList] at hj
  exact hj
theorem info_lb : (Tryz.prog.info? 113).map (fun i => (i.zero, i.size, i.bytes)) = some (some (.agg #[.string ⟨#[]⟩, .int .i64 0]), 2, 24) := by kernel_rfl
def lbCells : List (List UInt8 × Nat) → List Value
 | [] => []
 | p :: L => .string ⟨p.1.toArray⟩ :: .int .i64 (p.2 : Int) :: lbCells L
theorem lbCells_snoc : ∀ (L : List (List UInt8 × Nat)) (p : List UInt8 × Nat), lbCells (L ++ [p]) = lbCells L ++ [.string ⟨p.1.toArray⟩, .int .i64 (p.2 : Int)]
 | [], p => rfl
 | q :: L, p => by simp [lbCells, lbCells_snoc L p]
theorem lbCells_at : ∀ (L : List (List UInt8 × Nat)) (k : Nat) (hk : k < L.length), (lbCells L)[k * 2]? = some (.string ⟨(L[k]).1.toArray⟩) ∧ (lbCells L)[k * 2 + 1]? = some (.int .i64 ((L[k]).2 : Int))
 | p :: L, 0, _ => ⟨rfl, rfl⟩
 | p :: L, k + 1, hk => by
  have := lbCells_at L k (by simpa using hk)
  rw [show (k + 1) * 2 = k * 2 + 1 + 1 by omega]
  simpa [lbCells] using this
/-- A row of labels. -/
def LbRow (W : World) (base : Nat) (v : Value) (L : List (List UInt8 × Nat)) : Prop := W.ownsRow base 113 2 v L.length (lbCells L)
theorem LbRow.nil (W : World) (base : Nat) : LbRow W base (.slice none 0 0) [] := ⟨rfl, .inl ⟨rfl, rfl⟩⟩
theorem LbRow.keep {W W1 : World} {base : Nat} {v : Value} {L : List (List UInt8 × Nat)} (h : LbRow W base v L) (hb : Below W.heap.size W W1) : LbRow W1 base v L := own_move h fun k hk => hb.block k (own_lt h k hk)
theorem rfind_drop {L : List (List UInt8 × Nat)} {s : List UInt8} {n : Nat} : ∀ (k : Nat), k < L.length → (∀ h : k < L.length, ¬ (L[k].1 = s ∧ L[k].2 < n)) → rfindF (L.drop k) s n = rfindF (L.drop (k + 1)) s n := by
 intro k hk h
 unfold rfindF
 rw [List.drop_eq_getElem_cons hk, List.find?_cons_of_neg]
 simpa using h hk

set_option maxHeartbeats 2000000 in
set_option maxRecDepth 100000 in
theorem rfind_calls (v : Value) (L : List (List UInt8 × Nat)) (s : List UInt8) (n : Nat) (base : Nat) (W : World) (h : LbRow W base v L) (hl : L.length ≤ 1000000) :
  Calls Tryz.prog 54 #[v, .string ⟨s.toArray⟩, .int .i64 (n : Int)] W fun e W' => e = .returned (.int .i64 (rfindF L s n)) ∧ Below W.heap.size W W' := by
 obtain ⟨fin, hf⟩ : ∃ r, rfindF L s n = r := ⟨_, rfl⟩
 rw [hf]
 obtain ⟨A, m, c, rfl⟩ := own_slice h
 obtain ⟨k0, hk0⟩ : ∃ k, L.length = k := ⟨_, rfl⟩
 have hm : m = k0 := by
  rcases h.2 with ⟨e, h0⟩ | ⟨g, cap, cur, e, _⟩
  ·injection e with e1 e2 e3; omega
  ·injection e with e1 e2 e3; omega
 subst hm
 replace hf := Aside0.mk hf
 replace h := Aside0.mk h
 replace hk0 := Aside0.mk hk0
 have hl' : m ≤ 1000000 := by rw [← hk0.out]; exact hl
 clear hl
 go_enter Tryz.func54, Tryz.ntmps54
 go_wp2_with fail
 go_loopw [11] (fun v11 wr => ∃ k : Nat, v11 = .int .i64 k ∧ k ≤ m ∧ Aside0 (rfindF (L.drop k) s n = fin) ∧ Aside0 (Below W.heap.size W wr)) (fun v11 _ => m - (intOf v11).toNat)
 case atStart => exact ⟨0, rfl, Nat.zero_le _, ⟨by simpa using hf.out⟩, ⟨Below.refl _ _⟩⟩
 case round =>
  obtain ⟨k, rfl, hk, hF, hB⟩ := hrel
  by_cases hlt : k < m
  ·have hkx : k < L.length := by rw [hk0.out]; exact hlt
   obtain ⟨g, c', hv, hc, hg, _, hcell⟩ := own_rd (h.out.keep hB.out) (by omega)
   obtain ⟨rfl, rfl⟩ : A = some ⟨g, 0, none⟩ ∧ c = c' := by injection hv with h1 h2 h3; exact ⟨h1, h3⟩
   obtain ⟨e1, e2⟩ := lbCells_at L k hkx
   have c1 := hcell _ _ e1
   have c2 := hcell _ _ e2
   have hstep := rfind_drop (L := L) (s := s) (n := n) k hkx
   have hit : (L[k]'hkx).1 = s → (L[k]'hkx).2 < n → rfindF (L.drop k) s n = ((L[k]'hkx).2 : Int) := fun h1 h2 => by
    unfold rfindF
    rw [List.drop_eq_getElem_cons hkx, List.find?_cons_of_pos (by simp [h1, h2])]
   have hstep' : ¬ ((L[k]'hkx).1 = s ∧ (L[k]'hkx).2 < n) → rfindF (L.drop (k + 1)) s n = fin := fun hn => by rw [← hstep (fun _ => hn)]; exact hF.out
   rw [hF.out] at hit
   generalize L[k].1 = nm at c1 hit hstep'
   generalize L[k].2 = pl at c2 hit hstep'
   have hk0' : (0 : Int) ≤ (k : Int) := by omega
   have hk1 : (k : Int) < (m : Int) := by omega
   have hkw : IntKind.i64.wrap ((k : Int) + 1) = (k : Int) + 1 := by rw [IntKind.wrap_i64]; omega
   have hb2 := Aside0.mk (hB.out.alloc hB.out.size (.cells #[.string ⟨nm.toArray⟩, .int .i64 (pl : Int)] 113))
   replace hstep' := Aside0.mk hstep'
   replace hit := Aside0.mk hit
   clear hcell hv e1 e2 hF hstep
   by_cases hn : nm = s
   ·subst hn
    have hq : (nm == nm) = true := beq_self_eq_true nm
    by_cases hp : pl < n
    ·have hp' : (pl : Int) < (n : Int) := by omega
     have hfin : fin = (pl : Int) := hit.out rfl hp
     subst hfin
     clear hit hstep'
     go_wp2
     go_ret
     exact ⟨rfl, hb2.out⟩
    ·have hp' : ¬ (pl : Int) < (n : Int) := by omega
     replace hstep' := Aside0.mk (hstep'.out (fun h => hp h.2))
     clear hit
     go_wp2
     go_roundw
     case rel => exact ⟨k + 1, by go_num, hlt, hstep', hb2⟩
     case measure => simp [intOf]; omega
   ·have hq : (nm == s) = false := beq_eq_false_iff_ne.2 hn
    replace hstep' := Aside0.mk (hstep'.out (fun h => hn h.1))
    clear hit
    go_wp2
    go_roundw
    case rel => exact ⟨k + 1, by go_num, hlt, hstep', hb2⟩
    case measure => simp [intOf]; omega
  ·obtain rfl : k = m := by omega
   have hge : ¬ (k : Int) < (k : Int) := by omega
   have hfin : fin = -1 := by rw [← hF.out, List.drop_eq_nil_of_le (by rw [hk0.out]; exact Nat.le_refl _)]; rfl
   subst hfin
   go_wp2
   go_ret
   exact ⟨rfl, hB.out⟩
end Go.Proofs.YtbhpkeiofajbpaaGreatDoor
end

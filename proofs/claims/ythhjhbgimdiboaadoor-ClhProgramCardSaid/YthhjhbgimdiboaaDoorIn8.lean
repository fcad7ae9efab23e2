/- A struct of eight one-cell fields, by value: opened and shut (after the guide's for six); an instruction as an argument. -/
import Derived.Test.YthhjhbgimdiboaaDoorRight
import Derived.ProofKit
import Derived.Lib.SmallJoins
import Derived.OpenShut
import Derived.Deep.Fields
namespace Go.Proofs.YthhjhbgimdiboaaDoor
open Go Go.Deep Go.Joins Go.ChangeShapes Go.WideShapes Go.ChangeAt Go.RowKit
set_option linter.unusedVariables false
section
variable {H : Type} {enc : TypeId × Value → H} {P : Program} {w : World} {base : Nat} {spare : Nat → Bool} {held : Bool}

theorem open_agg8 {r : Reach} {b0 : Nat} {t : TypeId} {f0 f1 f2 f3 f4 f5 f6 f7 : Field} {v : Value} {d : DataW H} {p : List MemPlace} (hs : P.underlying t = some (.struct #[f0, f1, f2, f3, f4, f5, f6, f7])) (hone : oneCellFields P #[f0, f1, f2, f3, f4, f5, f6, f7] = true) (hC : P.cellsOf t = 8)
    (hv : Value.okWide P w r b0 t v) (h : DataW.Trod enc P w base spare held t v d p) :
    ∃ (v0 v1 v2 v3 v4 v5 v6 v7 : Value) (y0 y1 y2 y3 y4 y5 y6 y7 : DataW H × List MemPlace) (n : Nat), v = .agg #[v0, v1, v2, v3, v4, v5, v6, v7] ∧ d = .agg [y0.1, y1.1, y2.1, y3.1, y4.1, y5.1, y6.1, y7.1] ∧ p = y0.2 ++ (y1.2 ++ (y2.2 ++ (y3.2 ++ (y4.2 ++ (y5.2 ++ (y6.2 ++ (y7.2))))))) ∧
      DataW.trod enc P w base spare held n f0.type [v0] = some y0 ∧ DataW.trod enc P w base spare held n f1.type [v1] = some y1 ∧ DataW.trod enc P w base spare held n f2.type [v2] = some y2 ∧ DataW.trod enc P w base spare held n f3.type [v3] = some y3 ∧ DataW.trod enc P w base spare held n f4.type [v4] = some y4 ∧ DataW.trod enc P w base spare held n f5.type [v5] = some y5 ∧ DataW.trod enc P w base spare held n f6.type [v6] = some y6 ∧ DataW.trod enc P w base spare held n f7.type [v7] = some y7 := by
  obtain ⟨cs, rfl, hsz⟩ := okWide_struct hs hv
  obtain ⟨l⟩ := cs
  match l, hsz.trans hC with
  | [c0, c1, c2, c3, c4, c5, c6, c7], _ =>
    obtain ⟨fuel, hf⟩ := h
    obtain ⟨xs, n, _, hx, _, hlen, hg⟩ := DataW.trod_struct hs hf
    obtain ⟨o0, k0⟩ := hone_of hone 0 f0 rfl
    obtain ⟨o1, k1⟩ := hone_of hone 1 f1 rfl
    obtain ⟨o2, k2⟩ := hone_of hone 2 f2 rfl
    obtain ⟨o3, k3⟩ := hone_of hone 3 f3 rfl
    obtain ⟨o4, k4⟩ := hone_of hone 4 f4 rfl
    obtain ⟨o5, k5⟩ := hone_of hone 5 f5 rfl
    obtain ⟨o6, k6⟩ := hone_of hone 6 f6 rfl
    obtain ⟨o7, k7⟩ := hone_of hone 7 f7 rfl
    match xs, hlen with
    | [y0, y1, y2, y3, y4, y5, y6, y7], _ =>
      simp only [Prod.mk.injEq] at hx
      exact ⟨c0, c1, c2, c3, c4, c5, c6, c7, y0, y1, y2, y3, y4, y5, y6, y7, n, rfl, by simpa using hx.1, by simpa using hx.2, by simpa [Value.cells, o0, k0] using hg 0 f0 rfl, by simpa [Value.cells, o1, k1] using hg 1 f1 rfl, by simpa [Value.cells, o2, k2] using hg 2 f2 rfl, by simpa [Value.cells, o3, k3] using hg 3 f3 rfl, by simpa [Value.cells, o4, k4] using hg 4 f4 rfl, by simpa [Value.cells, o5, k5] using hg 5 f5 rfl, by simpa [Value.cells, o6, k6] using hg 6 f6 rfl, by simpa [Value.cells, o7, k7] using hg 7 f7 rfl⟩

theorem shut_agg8 {t : TypeId} {f0 f1 f2 f3 f4 f5 f6 f7 : Field} {v0 v1 v2 v3 v4 v5 v6 v7 : Value} {y0 y1 y2 y3 y4 y5 y6 y7 : DataW H × List MemPlace} (hs : P.underlying t = some (.struct #[f0, f1, f2, f3, f4, f5, f6, f7])) (hone : oneCellFields P #[f0, f1, f2, f3, f4, f5, f6, f7] = true) (hC : P.cellsOf t = 8)
    (t0 : ∃ n, DataW.trod enc P w base spare held n f0.type [v0] = some y0) (t1 : ∃ n, DataW.trod enc P w base spare held n f1.type [v1] = some y1) (t2 : ∃ n, DataW.trod enc P w base spare held n f2.type [v2] = some y2) (t3 : ∃ n, DataW.trod enc P w base spare held n f3.type [v3] = some y3) (t4 : ∃ n, DataW.trod enc P w base spare held n f4.type [v4] = some y4) (t5 : ∃ n, DataW.trod enc P w base spare held n f5.type [v5] = some y5) (t6 : ∃ n, DataW.trod enc P w base spare held n f6.type [v6] = some y6) (t7 : ∃ n, DataW.trod enc P w base spare held n f7.type [v7] = some y7) :
    DataW.Trod enc P w base spare held t (.agg #[v0, v1, v2, v3, v4, v5, v6, v7]) (.agg [y0.1, y1.1, y2.1, y3.1, y4.1, y5.1, y6.1, y7.1]) (y0.2 ++ (y1.2 ++ (y2.2 ++ (y3.2 ++ (y4.2 ++ (y5.2 ++ (y6.2 ++ (y7.2)))))))) := by
  obtain ⟨n0, t0⟩ := t0
  obtain ⟨n1, t1⟩ := t1
  obtain ⟨n2, t2⟩ := t2
  obtain ⟨n3, t3⟩ := t3
  obtain ⟨n4, t4⟩ := t4
  obtain ⟨n5, t5⟩ := t5
  obtain ⟨n6, t6⟩ := t6
  obtain ⟨n7, t7⟩ := t7
  obtain ⟨o0, k0⟩ := hone_of hone 0 f0 rfl
  obtain ⟨o1, k1⟩ := hone_of hone 1 f1 rfl
  obtain ⟨o2, k2⟩ := hone_of hone 2 f2 rfl
  obtain ⟨o3, k3⟩ := hone_of hone 3 f3 rfl
  obtain ⟨o4, k4⟩ := hone_of hone 4 f4 rfl
  obtain ⟨o5, k5⟩ := hone_of hone 5 f5 rfl
  obtain ⟨o6, k6⟩ := hone_of hone 6 f6 rfl
  obtain ⟨o7, k7⟩ := hone_of hone 7 f7 rfl
  have h0 : DataW.trod enc P w base spare held (n0 + n1 + n2 + n3 + n4 + n5 + n6 + n7) f0.type (([v0, v1, v2, v3, v4, v5, v6, v7].drop f0.offset).take (P.cellsOf f0.type)) = some y0 := by simpa [o0, k0] using DataW.trod_le (show n0 ≤ n0 + n1 + n2 + n3 + n4 + n5 + n6 + n7 by omega) t0
  have h1 : DataW.trod enc P w base spare held (n0 + n1 + n2 + n3 + n4 + n5 + n6 + n7) f1.type (([v0, v1, v2, v3, v4, v5, v6, v7].drop f1.offset).take (P.cellsOf f1.type)) = some y1 := by simpa [o1, k1] using DataW.trod_le (show n1 ≤ n0 + n1 + n2 + n3 + n4 + n5 + n6 + n7 by omega) t1
  have h2 : DataW.trod enc P w base spare held (n0 + n1 + n2 + n3 + n4 + n5 + n6 + n7) f2.type (([v0, v1, v2, v3, v4, v5, v6, v7].drop f2.offset).take (P.cellsOf f2.type)) = some y2 := by simpa [o2, k2] using DataW.trod_le (show n2 ≤ n0 + n1 + n2 + n3 + n4 + n5 + n6 + n7 by omega) t2
  have h3 : DataW.trod enc P w base spare held (n0 + n1 + n2 + n3 + n4 + n5 + n6 + n7) f3.type (([v0, v1, v2, v3, v4, v5, v6, v7].drop f3.offset).take (P.cellsOf f3.type)) = some y3 := by simpa [o3, k3] using DataW.trod_le (show n3 ≤ n0 + n1 + n2 + n3 + n4 + n5 + n6 + n7 by omega) t3
  have h4 : DataW.trod enc P w base spare held (n0 + n1 + n2 + n3 + n4 + n5 + n6 + n7) f4.type (([v0, v1, v2, v3, v4, v5, v6, v7].drop f4.offset).take (P.cellsOf f4.type)) = some y4 := by simpa [o4, k4] using DataW.trod_le (show n4 ≤ n0 + n1 + n2 + n3 + n4 + n5 + n6 + n7 by omega) t4
  have h5 : DataW.trod enc P w base spare held (n0 + n1 + n2 + n3 + n4 + n5 + n6 + n7) f5.type (([v0, v1, v2, v3, v4, v5, v6, v7].drop f5.offset).take (P.cellsOf f5.type)) = some y5 := by simpa [o5, k5] using DataW.trod_le (show n5 ≤ n0 + n1 + n2 + n3 + n4 + n5 + n6 + n7 by omega) t5
  have h6 : DataW.trod enc P w base spare held (n0 + n1 + n2 + n3 + n4 + n5 + n6 + n7) f6.type (([v0, v1, v2, v3, v4, v5, v6, v7].drop f6.offset).take (P.cellsOf f6.type)) = some y6 := by simpa [o6, k6] using DataW.trod_le (show n6 ≤ n0 + n1 + n2 + n3 + n4 + n5 + n6 + n7 by omega) t6
  have h7 : DataW.trod enc P w base spare held (n0 + n1 + n2 + n3 + n4 + n5 + n6 + n7) f7.type (([v0, v1, v2, v3, v4, v5, v6, v7].drop f7.offset).take (P.cellsOf f7.type)) = some y7 := by simpa [o7, k7] using DataW.trod_le (show n7 ≤ n0 + n1 + n2 + n3 + n4 + n5 + n6 + n7 by omega) t7
  have ts := trod_struct_mk (enc := enc) (w := w) (base := base) (spare := spare) (held := held) (n := n0 + n1 + n2 + n3 + n4 + n5 + n6 + n7) (xs := [y0, y1, y2, y3, y4, y5, y6, y7]) (cs := [v0, v1, v2, v3, v4, v5, v6, v7]) hs (by simp [hC]) (by simp [h0, h1, h2, h3, h4, h5, h6, h7])
  exact ⟨_, by simpa [Value.cells] using ts⟩
end

theorem cellsIn : Tryd.prog.cellsOf 67 = 8 := by kernel_rfl
set_option maxRecDepth 100000 in
/-- An instruction that comes in: eight numbers of their kinds. -/
theorem open_in {H : Type} {enc : TypeId × Value → H} {W : World} {b0 base : Nat} {spare : Nat → Bool} {held : Bool} {v : Value} {dd : DataW H} {p : List MemPlace} (hv : Value.okWide Tryd.prog W .any b0 67 v) (h : DataW.Trod enc Tryd.prog W base spare held 67 v dd p) :
    ∃ op d s t u a k q : Int, v = .agg #[.int .i64 op, .int .i64 d, .int .i64 s, .int .i64 t, .int .i64 u, .int .i64 a, .int .u32 k, .int .i64 q] ∧ dd = .agg [.lit (.int .i64 op), .lit (.int .i64 d), .lit (.int .i64 s), .lit (.int .i64 t), .lit (.int .i64 u), .lit (.int .i64 a), .lit (.int .u32 k), .lit (.int .i64 q)] ∧ p = [] ∧ ((Lit.int .i64 op).wf = true ∧ (Lit.int .i64 d).wf = true ∧ (Lit.int .i64 s).wf = true ∧ (Lit.int .i64 t).wf = true ∧ (Lit.int .i64 u).wf = true ∧ (Lit.int .i64 a).wf = true ∧ (Lit.int .u32 k).wf = true ∧ (Lit.int .i64 q).wf = true) := by
  obtain ⟨v0, v1, v2, v3, v4, v5, v6, v7, y0, y1, y2, y3, y4, y5, y6, y7, n, rfl, rfl, rfl, g0, g1, g2, g3, g4, g5, g6, g7⟩ := open_agg8 Tryd.underlying67 (by kernel_rfl) cellsIn hv h
  obtain ⟨op, e0, r0, w0⟩ := DataW.trod_int Tryd.underlying3 g0
  obtain ⟨d, e1, r1, w1⟩ := DataW.trod_int Tryd.underlying3 g1
  obtain ⟨s, e2, r2, w2⟩ := DataW.trod_int Tryd.underlying3 g2
  obtain ⟨t, e3, r3, w3⟩ := DataW.trod_int Tryd.underlying3 g3
  obtain ⟨u, e4, r4, w4⟩ := DataW.trod_int Tryd.underlying3 g4
  obtain ⟨a, e5, r5, w5⟩ := DataW.trod_int Tryd.underlying3 g5
  obtain ⟨k, e6, r6, w6⟩ := DataW.trod_int Tryd.underlying30 g6
  obtain ⟨q, e7, r7, w7⟩ := DataW.trod_int Tryd.underlying3 g7
  cases r0; cases r1; cases r2; cases r3; cases r4; cases r5; cases r6; cases r7
  simp only [List.cons.injEq, and_true] at e0 e1 e2 e3 e4 e5 e6 e7
  subst e0 e1 e2 e3 e4 e5 e6 e7
  exact ⟨op, d, s, t, u, a, k, q, rfl, rfl, rfl, w0, w1, w2, w3, w4, w5, w6, w7⟩

set_option maxRecDepth 100000 in
theorem shut_in {H : Type} {enc : TypeId × Value → H} {W : World} {base : Nat} {spare : Nat → Bool} {held : Bool} {op d s t u a k q : Int} (hw : (Lit.int .i64 op).wf = true ∧ (Lit.int .i64 d).wf = true ∧ (Lit.int .i64 s).wf = true ∧ (Lit.int .i64 t).wf = true ∧ (Lit.int .i64 u).wf = true ∧ (Lit.int .i64 a).wf = true ∧ (Lit.int .u32 k).wf = true ∧ (Lit.int .i64 q).wf = true) :
    DataW.Trod enc Tryd.prog W base spare held 67 (.agg #[.int .i64 op, .int .i64 d, .int .i64 s, .int .i64 t, .int .i64 u, .int .i64 a, .int .u32 k, .int .i64 q]) (.agg [.lit (.int .i64 op), .lit (.int .i64 d), .lit (.int .i64 s), .lit (.int .i64 t), .lit (.int .i64 u), .lit (.int .i64 a), .lit (.int .u32 k), .lit (.int .i64 q)]) [] := by
  obtain ⟨w0, w1, w2, w3, w4, w5, w6, w7⟩ := hw
  exact shut_agg8 (y0 := (.lit (.int .i64 op), [])) (y1 := (.lit (.int .i64 d), [])) (y2 := (.lit (.int .i64 s), [])) (y3 := (.lit (.int .i64 t), [])) (y4 := (.lit (.int .i64 u), [])) (y5 := (.lit (.int .i64 a), [])) (y6 := (.lit (.int .u32 k), [])) (y7 := (.lit (.int .i64 q), [])) Tryd.underlying67 (by kernel_rfl) cellsIn ⟨1, by simp [DataW.trod, Tryd.underlying3, w0]⟩ ⟨1, by simp [DataW.trod, Tryd.underlying3, w1]⟩ ⟨1, by simp [DataW.trod, Tryd.underlying3, w2]⟩ ⟨1, by simp [DataW.trod, Tryd.underlying3, w3]⟩ ⟨1, by simp [DataW.trod, Tryd.underlying3, w4]⟩ ⟨1, by simp [DataW.trod, Tryd.underlying3, w5]⟩ ⟨1, by simp [DataW.trod, Tryd.underlying30, w6]⟩ ⟨1, by simp [DataW.trod, Tryd.underlying3, w7]⟩
end Go.Proofs.YthhjhbgimdiboaaDoor

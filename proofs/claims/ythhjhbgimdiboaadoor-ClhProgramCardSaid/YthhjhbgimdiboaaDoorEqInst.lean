/- '==' of two instructions, the program's and the document's, as one Bool. -/
import Derived.Test.YthhjhbgimdiboaaDoorRight
import Derived.Test.YthhjhbgimdiboaaDoorWEqStruct
namespace Go.Proofs.YthhjhbgimdiboaaDoor
open Go.RowKit Go.Proofs.YthhjhbgimdiboaaDoorW.PrintWords
set_option linter.unusedVariables false

theorem eqI_a (d : Nat) (w : World) (x0 x1 x2 x3 x4 x5 x6 x7 y0 y1 y2 y3 y4 y5 y6 y7 : Int) :
    (Op.equalIn (d + 2) 67 (.agg #[.int .i64 x0, .int .i64 x1, .int .i64 x2, .int .i64 x3, .int .i64 x4, .int .i64 x5, .int .u32 x6, .int .i64 x7]) (.agg #[.int .i64 y0, .int .i64 y1, .int .i64 y2, .int .i64 y3, .int .i64 y4, .int .i64 y5, .int .u32 y6, .int .i64 y7])).run Tryd.prog w = .ok (x0 == y0 && (x1 == y1 && (x2 == y2 && (x3 == y3 && (x4 == y4 && (x5 == y5 && (x6 == y6 && (x7 == y7)))))))) w := by
  refine eqA_of Tryd.underlying67 (by kernel_rfl) ?_
  refine eqf_cons (by rfl) (by go_simp; rfl) (by go_simp; rfl) (by go_simp) ?_
  refine eqf_cons (by rfl) (by go_simp; rfl) (by go_simp; rfl) (by go_simp) ?_
  refine eqf_cons (by rfl) (by go_simp; rfl) (by go_simp; rfl) (by go_simp) ?_
  refine eqf_cons (by rfl) (by go_simp; rfl) (by go_simp; rfl) (by go_simp) ?_
  refine eqf_cons (by rfl) (by go_simp; rfl) (by go_simp; rfl) (by go_simp) ?_
  refine eqf_cons (by rfl) (by go_simp; rfl) (by go_simp; rfl) (by go_simp) ?_
  refine eqf_cons (by rfl) (by go_simp; rfl) (by go_simp; rfl) (by go_simp) ?_
  exact eqf_last (by rfl) (by go_simp; rfl) (by go_simp; rfl) (by go_simp)
theorem eql_a (x y : In) (w : World) : (binOp .eql 67 x.v y.v).run Tryd.prog w = .ok (.bool (decide (x = y))) w := by
  have h := eqI_a 9998 w x.op x.d x.s x.t x.u x.a x.k x.q y.op y.d y.s y.t y.u y.a y.k y.q
  have e : decide (x = y) = (x.op == y.op && (x.d == y.d && (x.s == y.s && (x.t == y.t && (x.u == y.u && (x.a == y.a && (x.k == y.k && x.q == y.q))))))) := by
    cases x; cases y
    rw [Bool.eq_iff_iff]
    simp
  rw [e]
  simp only [binOp, In.v]
  simp [Op.equal, Op.maxDepth, h]

theorem eqI_r (d : Nat) (w : World) (x0 x1 x2 x3 x4 x5 x6 x7 y0 y1 y2 y3 y4 y5 y6 y7 : Int) :
    (Op.equalIn (d + 2) 78 (.agg #[.int .i64 x0, .int .i64 x1, .int .i64 x2, .int .i64 x3, .int .i64 x4, .int .i64 x5, .int .u32 x6, .int .i64 x7]) (.agg #[.int .i64 y0, .int .i64 y1, .int .i64 y2, .int .i64 y3, .int .i64 y4, .int .i64 y5, .int .u32 y6, .int .i64 y7])).run Tryd.prog w = .ok (x0 == y0 && (x1 == y1 && (x2 == y2 && (x3 == y3 && (x4 == y4 && (x5 == y5 && (x6 == y6 && (x7 == y7)))))))) w := by
  refine eqA_of Tryd.underlying78 (by kernel_rfl) ?_
  refine eqf_cons (by rfl) (by go_simp; rfl) (by go_simp; rfl) (by go_simp) ?_
  refine eqf_cons (by rfl) (by go_simp; rfl) (by go_simp; rfl) (by go_simp) ?_
  refine eqf_cons (by rfl) (by go_simp; rfl) (by go_simp; rfl) (by go_simp) ?_
  refine eqf_cons (by rfl) (by go_simp; rfl) (by go_simp; rfl) (by go_simp) ?_
  refine eqf_cons (by rfl) (by go_simp; rfl) (by go_simp; rfl) (by go_simp) ?_
  refine eqf_cons (by rfl) (by go_simp; rfl) (by go_simp; rfl) (by go_simp) ?_
  refine eqf_cons (by rfl) (by go_simp; rfl) (by go_simp; rfl) (by go_simp) ?_
  exact eqf_last (by rfl) (by go_simp; rfl) (by go_simp; rfl) (by go_simp)
theorem eql_r (x y : In) (w : World) : (binOp .eql 78 x.v y.v).run Tryd.prog w = .ok (.bool (decide (x = y))) w := by
  have h := eqI_r 9998 w x.op x.d x.s x.t x.u x.a x.k x.q y.op y.d y.s y.t y.u y.a y.k y.q
  have e : decide (x = y) = (x.op == y.op && (x.d == y.d && (x.s == y.s && (x.t == y.t && (x.u == y.u && (x.a == y.a && (x.k == y.k && x.q == y.q))))))) := by
    cases x; cases y
    rw [Bool.eq_iff_iff]
    simp
  rw [e]
  simp only [binOp, In.v]
  simp [Op.equal, Op.maxDepth, h]

end Go.Proofs.YthhjhbgimdiboaaDoor

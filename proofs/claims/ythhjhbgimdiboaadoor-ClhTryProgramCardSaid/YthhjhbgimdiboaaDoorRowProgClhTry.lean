/- ClhTryProgram: for every input the law returns true, and the arguments read as they did. Conditions: the listed package-level variables hold what the program's text lays (the card ties them). -/
import Derived.Test.YthhjhbgimdiboaaDoorLaid
import Derived.Lib.SmallJoins
import Derived.Test.YthhjhbgimdiboaaDoorLawProgClhTry
namespace Go.Proofs.YthhjhbgimdiboaaDoor.clhTryProgram
open Go Go.ChangeShapes Go.WideShapes Go.ChangeAt Go.RowKit
set_option linter.unusedVariables false

theorem cells4 : Tryd.prog.cellsOf 53 = 4 := by kernel_rfl
set_option maxRecDepth 100000 in
theorem contract (H : Type) (enc : TypeId × Value → H) (W : World) (base : Nat) (args : Array Value) (ds gs : List (DataW H)) (before : List MemPlace)
    (hval : ∀ (j : Nat) t v, Tryd.f9.params[j]? = some t → args[j]? = some v → Value.okWide Tryd.prog W .any base t v)
    (hW : DataW.Whole enc Tryd.prog Tryd.f9.params.toList Rows.clhTryProgramSpec.vars false W args.toList ds gs before) (hL : laidMetH Tryd.prog Rows.clhTryProgramRow.laid W) (hsh : W.ShapedOpen Tryd.prog) :
    Calls Tryd.prog 9 args W fun e W' => ∃ v, e = .returned v ∧ Rows.clhTryProgramSpec.post enc Tryd.prog Tryd.f9 false true false false W args v W' := by
  have hW' := hW
  obtain ⟨p, q, hA0, hV, rfl, hfz, hnd⟩ := hW
  have hA : DataW.TrodAll enc Tryd.prog W 0 (fun _ => true) true Tryd.f9.params.toList args.toList ds p := hA0
  rw [Tryd.params9] at hA hval
  obtain ⟨v0, vs0, d0, ds0, p0, q0, hargs, rfl, rfl, h0, r0⟩ := trodAll_cons hA
  obtain ⟨rfl, rfl, rfl⟩ := trodAll_nil r0
  obtain rfl : args = #[v0] := by cases args; simp_all
  obtain ⟨rfl, rfl⟩ := trodVars_none hV
  obtain ⟨x0, x1, x2, x3, y0, y1, y2, y3, nf, rfl, rfl, rfl, g0, g1, g2, g3⟩ := Go.Joins.open_agg4 Tryd.underlying53 (by kernel_rfl) cells4 (hval 0 53 v0 rfl rfl) h0
  obtain ⟨n, e0, r0, w0⟩ := DataW.trod_int Tryd.underlying3 g0
  obtain ⟨m, e1, r1, w1⟩ := DataW.trod_int Tryd.underlying3 g1
  obtain ⟨ea, e2, r2, w2⟩ := DataW.trod_int Tryd.underlying3 g2
  obtain ⟨eb, e3, r3, w3⟩ := DataW.trod_int Tryd.underlying3 g3
  cases r0; cases r1; cases r2; cases r3
  simp only [List.cons.injEq, and_true] at e0 e1 e2 e3
  subst e0 e1 e2 e3
  clear hA0
  simp only [List.append_nil] at hW'
  refine (law_clhtry n m ea eb W (env_of hL hsh)).mono fun e W' ⟨he, hb⟩ => ?_
  subst he
  exact ⟨_, rfl, law_post hW' hb (fun _ _ _ => trodAll_cons_mk (shut_bool Tryd.underlying4 _) trodAll_mk0) (trodAll_cons_mk (Go.Joins.shut_agg4 (y0 := (.lit (.int .i64 n), [])) (y1 := (.lit (.int .i64 m), [])) (y2 := (.lit (.int .i64 ea), [])) (y3 := (.lit (.int .i64 eb), [])) Tryd.underlying53 (by kernel_rfl) cells4
    ⟨1, by simp [DataW.trod, Tryd.underlying3, w0]⟩ ⟨1, by simp [DataW.trod, Tryd.underlying3, w1]⟩ ⟨1, by simp [DataW.trod, Tryd.underlying3, w2]⟩ ⟨1, by simp [DataW.trod, Tryd.underlying3, w3]⟩) trodAll_mk0) (fun _ => rfl)⟩

def wArgs : Array Value := #[.agg #[.int .i64 0, .int .i64 0, .int .i64 0, .int .i64 0]]
theorem reads (os : Os) {H : Type} (enc : TypeId × Value → H) : ∃ places, DataW.whole enc Tryd.prog ((laidWorld os).forCall (fun _ _ => 0) ⟨#[], wArgs, []⟩).memory Tryd.f9.params.toList Rows.clhTryProgramSpec.vars false wArgs.toList 8 =
    some ([.agg [.lit (.int .i64 0), .lit (.int .i64 0), .lit (.int .i64 0), .lit (.int .i64 0)]], [], places) :=
  ⟨[], by kernel_rfl⟩

set_option maxRecDepth 100000 in
theorem lifted (os : Os) (started : os.Started) (H : Type) (enc : TypeId × Value → H) (F : Stop.Interp) :
    ReturnsInHanded {} Tryd.checked os 9 .any ((OpenSpec.ofChange Rows.clhTryProgramSpec).preRow enc Tryd.prog Tryd.f9 Rows.clhTryProgramRow.domain false Rows.clhTryProgramRow.laid) (((OpenSpec.ofChange Rows.clhTryProgramSpec).at F).post enc Tryd.prog Tryd.f9 false true false false) := by
  obtain ⟨places, hx⟩ := reads os enc
  refine returnsInHanded_of_row (C := Tryd.checked) (s := OpenSpec.ofChange Rows.clhTryProgramSpec) own started (by kernel_rfl) Tryd.func9
    (witness_row_atRef (enc := enc) (C := Tryd.checked) false (laidWorld os) wArgs rfl (by kernel_rfl) (by kernel_rfl) (by kernel_rfl)
      (OpenSpec.preRow_of_cond 8 hx (by kernel_rfl) (fun k hk => by cases hk) (by kernel_rfl) (laid_met os _))) ?_
  intro W base args ds gs before hval hW _ _ _ hL hsh _
  exact contract H enc W base args ds gs before hval hW hL hsh

theorem said : Rows.ClhTryProgramSaid :=
  OpenClaim.holds_of_cond 9 Tryd.f9 rfl rfl rfl rfl rfl rfl rfl ⟨rfl, rfl, rfl, rfl, rfl⟩ rfl rfl rfl rfl rfl (by kernel_rfl) Tryd.func9 (by kernel_rfl)
    (of_decide_eq_true (by kernel_rfl)) (by unfold Func.isWrapper; first | (rw [if_pos (by decide +kernel)]; kernel_rfl) | (rw [if_neg (by decide +kernel)]; exact ⟨rfl, rfl⟩))
    (fun os started H enc _ F => by rw [OpenClaim.pre_eq_preRow]; exact lifted os started H enc F)

theorem plain (f : FuncId) (fn : Func) (hf : Tryd.pinned.checked.prog.funcNamed "ropeline/ropelinelaw20.ClhTryProgram" = some f) (hfn : Tryd.pinned.checked.prog.funcs[f]? = some fn) :
    true = Tryd.pinned.checked.prog.looks [] ∧ ∀ (j : Nat) t, fn.params[j]? = some t → Tryd.pinned.checked.prog.wantsStandIn t = false := by
  obtain rfl : f = 9 := Option.some.inj ((show Tryd.prog.funcNamed "ropeline/ropelinelaw20.ClhTryProgram" = some 9 by kernel_rfl).symm.trans hf) |>.symm
  obtain rfl : fn = Tryd.f9 := (Option.some.inj (Tryd.func9.symm.trans hfn)).symm
  refine ⟨by kernel_rfl, fun j t ht => ?_⟩
  rw [Tryd.params9] at ht
  have hm := Array.mem_of_getElem? ht
  have : t = 53 := by simpa using hm
  subst this
  exact (show Tryd.prog.wantsStandIn 53 = false by kernel_rfl)

/-- THE CARD. -/
theorem card : Rows.ClhTryProgramCardSaid :=
  Claim7.holds_tied_plain_at .later [] _ _ _ _ said (fun _ h => by cases h) (by kernel_rfl) (fun _ h => by cases h) clhTryProgram_row_tie rfl ⟨rfl, rfl⟩ (by kernel_rfl) rfl plain (by kernel_rfl)
end Go.Proofs.YthhjhbgimdiboaaDoor.clhTryProgram

/- inst.named: the instruction of a name; 0: there is none. -/
import Derived.Test.YthhjhbgimdiboaaDoorOf
import Derived.Test.YthhjhbgimdiboaaDoorEnv
import Derived.Test.YthhjhbgimdiboaaDoorPlain
namespace Go.Proofs.YthhjhbgimdiboaaDoor
open Go.RowKit Go.Proofs.YthhjhbgimdiboaaDoorW.PrintWords
set_option linter.unusedVariables false

set_option maxHeartbeats 1000000 in
set_option maxRecDepth 100000 in
theorem named_calls (l : List UInt8) (w : World) :
    Calls Tryd.prog 57 #[.string ⟨l.toArray⟩] w fun e w' => e = .returned (.int .i64 (namedF l)) ∧ Below w.heap.size w w' := by
  generalize hf : namedF l = fin
  have HF := Aside0.mk (show namedGo l 23 1 = fin from hf)
  clear hf
  go_enter Tryd.func57, Tryd.ntmps57
  go_wp2
  go_loopw [3] (fun v wr => ∃ n : Nat, v = .int .i64 (24 - n) ∧ n ≤ 23 ∧ Aside0 (namedGo l n (24 - n) = fin) ∧ Aside0 (Below w.heap.size w wr)) (fun v wr => (24 - (intOf v)).toNat)
  case atStart => exact ⟨23, rfl, Nat.le_refl _, HF, ⟨Below.refl _ _⟩⟩
  case round =>
    obtain ⟨n, rfl, hn, hG, hB⟩ := hrel
    cases n with
    | zero =>
      have hfin : (0 : Int) = fin := hG.out
      replace hfin := Aside0.mk hfin
      go_wp2
      go_ret
      exact ⟨ret_int hfin.out, hB.out⟩
    | succ n =>
      have hle : (24 - ((n + 1 : Nat) : Int)) ≤ 23 := by omega
      have hz := hB.out.size
      have hst : fin = if opName (24 - ((n + 1 : Nat) : Int)) = l ∧ l ≠ [] then (24 - ((n + 1 : Nat) : Int)) else namedGo l n (24 - ((n + 1 : Nat) : Int) + 1) := hG.out.symm
      have hnx : (24 - ((n + 1 : Nat) : Int) + 1) = 24 - (n : Int) := by omega
      generalize hop : (24 - ((n + 1 : Nat) : Int)) = op at hle hst hnx ⊢
      have hop' : op ≤ 23 ∧ 0 ≤ op := by omega
      replace hop := Aside0.mk hop
      replace hnx := Aside0.mk hnx
      obtain ⟨ho1, ho2⟩ := hop'
      clear hG
      replace hst := Aside0.mk hst
      go_wp2_with fail
      refine (of_calls _ _).mono ?_
      rintro e w1 ⟨rfl, hb⟩
      go_wp2_with fail
      · have h1 : opName op = l := by assumption
        have h2 : (!l.isEmpty) = true := by assumption
        go_ret
        exact ⟨ret_int (hst.out.trans (if_pos ⟨h1, by intro e; rw [e] at h2; simp at h2⟩)).symm, ((hB.out.trans (hb.mono hz)).alloc (Nat.le_trans hz hb.size) _)⟩
      · have h1 : opName op = l := by assumption
        have h2 : (!l.isEmpty) = false := by assumption
        exact ⟨⟨n, by rw [hnx.out], by omega, ⟨by rw [← hnx.out]; exact (hst.out.trans (if_neg (fun h => by rw [Bool.not_eq_false'] at h2; exact h.2 (List.isEmpty_iff.1 h2)))).symm⟩, ⟨((hB.out.trans (hb.mono hz)).alloc (Nat.le_trans hz hb.size) _)⟩⟩, by simp [intOf]; omega⟩
      · have h1 : ¬ opName op = l := by assumption
        exact ⟨⟨n, by rw [hnx.out], by omega, ⟨by rw [← hnx.out]; exact (hst.out.trans (if_neg (fun h => h1 h.1))).symm⟩, ⟨((hB.out.trans (hb.mono hz)).alloc (Nat.le_trans hz hb.size) _)⟩⟩, by simp [intOf]; omega⟩
end Go.Proofs.YthhjhbgimdiboaaDoor

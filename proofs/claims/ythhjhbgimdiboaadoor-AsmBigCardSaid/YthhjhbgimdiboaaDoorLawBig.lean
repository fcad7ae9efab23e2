/- AsmBig: whatever the byte: true; the memory that was there is as it was. -/
import Derived.Test.YthhjhbgimdiboaaDoorAwake7
namespace Go.Proofs.YthhjhbgimdiboaaDoor
open Go.RowKit Go.Proofs.YthhjhbgimdiboaaDoorW.PrintWords
set_option linter.unusedVariables false
set_option linter.unusedSimpArgs false

theorem big_ends (k : Nat) (h1 : 62 ≤ k) (h2 : k ≤ 66) : (k ≤ 64 ∧ (asmF (bigT k)).1.l.length = k ∧ (asmF (bigT k)).2 = (0, 0)) ∨ (64 < k ∧ (asmF (bigT k)).1.l.length = 0 ∧ (asmF (bigT k)).2 = (67, 9)) := by
  have : k = 62 ∨ k = 63 ∨ k = 64 ∨ k = 65 ∨ k = 66 := by omega
  rcases this with rfl | rfl | rfl | rfl | rfl
  · exact .inl ⟨by decide, eval_62⟩
  · exact .inl ⟨by decide, eval_63⟩
  · exact .inl ⟨by decide, eval_64⟩
  · exact .inr ⟨by decide, eval_65⟩
  · exact .inr ⟨by decide, eval_66⟩

set_option maxHeartbeats 4000000 in
set_option maxRecDepth 100000 in
theorem law_big (a : Int) (ha : 0 ≤ a ∧ a ≤ 255) (w : World) (he : Env w) : Calls Tryd.prog 3 #[.int .u8 a] w fun e w' => e = .returned (.bool true) ∧ Below w.heap.size w w' := by
  obtain ⟨k, hk, hk1, hk2⟩ : ∃ k : Nat, 62 + a.tmod 5 = (k : Int) ∧ 62 ≤ k ∧ k ≤ 66 := by
    have h0 : a.tmod 5 = a % 5 := Int.tmod_eq_emod_of_nonneg ha.1
    have h1 := Int.emod_nonneg a (show (5 : Int) ≠ 0 by decide)
    have h2 := Int.emod_lt_of_pos a (show (0 : Int) < 5 by decide)
    exact ⟨(62 + a.tmod 5).toNat, by omega, by omega, by omega⟩
  have hwa : IntKind.i64.wrap a = a := by rw [IntKind.wrap_i64]; omega
  have hwm : IntKind.i64.wrap (a.tmod 5) = a.tmod 5 := by
    have h0 : a.tmod 5 = a % 5 := Int.tmod_eq_emod_of_nonneg ha.1
    rw [IntKind.wrap_i64]; omega
  have hwk : IntKind.i64.wrap (k : Int) = (k : Int) := by rw [IntKind.wrap_i64]; omega
  have C := fun (W : World) (heW : Env W) => asm_calls (bigT k) W heW (by rw [bigT_len]; omega)
  have hends := Aside0.mk (big_ends k hk1 hk2)
  replace C := Aside0.mk C
  have hk1' := Aside0.mk hk1
  have hk2' := Aside0.mk hk2
  clear hk1 hk2 ha
  go_enter Tryd.func3, Tryd.ntmps3
  go_wp2_with fail
  go_loopw [4, 13] (fun v4 v13 wr => ∃ i : Nat, v13 = .int .i64 i ∧ i ≤ k ∧ v4 = .string ⟨(bigT i).toArray⟩ ∧ wr = w) (fun _ v13 _ => k - (intOf v13).toNat)
  case atStart => exact ⟨0, rfl, Nat.zero_le _, rfl, rfl⟩
  case round =>
    obtain ⟨i, rfl, hik, rfl, rfl⟩ := hrel
    by_cases hlt : i < k
    · have hi1 : (i : Int) < (k : Int) := by omega
      have hiw : IntKind.i64.wrap ((i : Int) + 1) = (i : Int) + 1 := by have := hk2'.out; rw [IntKind.wrap_i64]; omega
      have hl : (bigT i).length ≤ 1000 := by have := hk2'.out; rw [bigT_len]; omega
      have hbd : ¬ 9223372036854775807 < (bigT i).length + 7 := by omega
      have eap : (⟨(bigT i).toArray⟩ : ByteArray) ++ ⟨#[100, 111, 110, 101, 32, 49, 10]⟩ = ⟨(bigT (i + 1)).toArray⟩ := app_mk (bigT i) [100, 111, 110, 101, 32, 49, 10]
      clear hl
      go_wp2
      go_roundw
      case rel => exact ⟨i + 1, by go_num, hlt, congrArg Value.string eap, trivial⟩
      case measure => simp [intOf]; omega
    · obtain rfl : i = k := by omega
      have hge : ¬ (i : Int) < (i : Int) := by omega
      clear hlt hik hk hwa hwm hk1' hk2'
      generalize asmF (bigT i) = fin at *
      obtain ⟨⟨fl, fa, fb⟩, f1, f2⟩ := fin
      dsimp only at C hends
      rcases hends.out with ⟨hle, hfl, hf⟩ | ⟨hgt, hfl, hf⟩
      · obtain ⟨rfl, rfl⟩ : f1 = 0 ∧ f2 = 0 := by injection hf with a b; exact ⟨a, b⟩
        have hd : decide ((64 : Int) < (i : Int)) = false := decide_eq_false (by omega)
        clear hends hf
        go_wp2_with fail
        refine (C.out _ he).mono ?_
        rintro e w1 ⟨v, rfl, hr, hb⟩
        obtain ⟨A, c, rfl⟩ : ∃ A c, v = .slice A i c := by
          rcases hr.2 with ⟨rfl, h0⟩ | ⟨g, cap, cur, rfl, _⟩
          · exact ⟨none, 0, by rw [← hfl, h0]⟩
          · exact ⟨_, _, by rw [← hfl]⟩
        have hb2 := Aside0.mk (hb.alloc hb.size (.cells #[.slice A i c, .int .i64 fa, .int .i64 fb] 24))
        have W7 := Aside0.mk (fun (W : World) (heW : Env W) => awake7_calls W heW)
        clear hr hb hfl C
        go_wp2_with fail
        refine (W7.out _ (he.below hb2.out)).mono ?_
        rintro e w2 ⟨rfl, hb3⟩
        have hb4 := Aside0.mk (hb2.out.trans (hb3.mono hb2.out.size))
        clear hb3
        go_wp2
        go_ret
        exact ⟨rfl, hb4.out⟩
      · obtain ⟨rfl, rfl⟩ : f1 = 67 ∧ f2 = 9 := by injection hf with a b; exact ⟨a, b⟩
        have hd : decide ((64 : Int) < (i : Int)) = true := decide_eq_true (by omega)
        clear hends hf
        go_wp2_with fail
        refine (C.out _ he).mono ?_
        rintro e w1 ⟨v, rfl, hr, hb⟩
        obtain ⟨A, c, rfl⟩ : ∃ A c, v = .slice A 0 c := by
          rcases hr.2 with ⟨rfl, h0⟩ | ⟨g, cap, cur, rfl, _⟩
          · exact ⟨none, 0, rfl⟩
          · exact ⟨_, _, by rw [← hfl]⟩
        have hb2 := Aside0.mk (hb.alloc hb.size (.cells #[.slice A 0 c, .int .i64 fa, .int .i64 fb] 24))
        have W7 := Aside0.mk (fun (W : World) (heW : Env W) => awake7_calls W heW)
        clear hr hb hfl C
        go_wp2_with fail
        refine (W7.out _ (he.below hb2.out)).mono ?_
        rintro e w2 ⟨rfl, hb3⟩
        have hb4 := Aside0.mk (hb2.out.trans (hb3.mono hb2.out.size))
        clear hb3
        go_wp2
        go_ret
        exact ⟨rfl, hb4.out⟩
end Go.Proofs.YthhjhbgimdiboaaDoor

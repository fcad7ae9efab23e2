/- inst.number: a word's number, 'r' ahead or not. -/
import Derived.Test.YthhjhbgimdiboaaDoorEnv
import Derived.Test.YthhjhbgimdiboaaDoorPlain
namespace Go.Proofs.YthhjhbgimdiboaaDoor
open Go.RowKit Go.Proofs.YthhjhbgimdiboaaDoorW.PrintWords
set_option linter.unusedVariables false

set_option maxHeartbeats 400000 in
theorem trim_calls (l : List UInt8) (w : World) (hl : l.length ≤ 4294967280) :
    Calls Tryd.prog 66 #[.string ⟨l.toArray⟩, .string ⟨#[114]⟩] w fun e w' => e = .returned (.string ⟨(trimR l).toArray⟩) ∧ w = w' := by
  cases l with
  | nil =>
    go_enter Tryd.func66, Tryd.ntmps66
    go_wp2
    go_ret
    exact ⟨rfl, rfl⟩
  | cons c r =>
    have h1 : 0 ≤ (r.length : Int) := by omega
    simp at hl
    by_cases h : c = 114
    · have ht : (((⟨(c :: r).toArray⟩ : ByteArray).extract 0 1).toList == [114]) = true := by rw [ext_mk, toList_mk]; simp [h]
      have he : (⟨(c :: r).toArray⟩ : ByteArray).extract 1 (r.length + 1) = ⟨(trimR (c :: r)).toArray⟩ := by rw [ext_mk, h]; simp [trimR]
      replace he := Aside0.mk he
      clear h
      go_enter Tryd.func66, Tryd.ntmps66
      go_wp2
      go_ret
      exact ⟨congrArg (fun s => Ending.returned (.string s)) he.out, rfl⟩
    · have ht : (((⟨(c :: r).toArray⟩ : ByteArray).extract 0 1).toList == [114]) = false := by rw [ext_mk, toList_mk]; simp [h]
      have he : trimR (c :: r) = c :: r := by unfold trimR; split <;> simp_all
      rw [he]
      clear h he
      go_enter Tryd.func66, Tryd.ntmps66
      go_wp2
      go_ret
      exact ⟨rfl, rfl⟩

set_option maxHeartbeats 400000 in
theorem number_calls (l : List UInt8) (w : World) (hl : l.length ≤ 4294967280) (he : Env w) :
    Calls Tryd.prog 59 #[.string ⟨l.toArray⟩] w fun e w' => e = .returned (.int .i64 (numF l)) ∧ Below w.heap.size w w' := by
  have hlt := trimR_len l
  have hz : (⟨(trimR l).toArray⟩ : ByteArray).size = (trimR l).length := by simp [ByteArray.size]
  obtain ⟨ts, ps, hsy⟩ := he.syn
  obtain ⟨tr, pr, hrg⟩ := he.rng
  replace hsy := Aside0.mk hsy
  replace hrg := Aside0.mk hrg
  replace hz := Aside0.mk hz
  cases hn : Lib.atoiAll (trimR l) with
  | ok v =>
    have e : numF l = v := by unfold numF; rw [hn]
    rw [e]
    replace hn := Aside0.mk hn
    clear e
    go_enter Tryd.func59, Tryd.ntmps59
    go_wp2_with fail
    refine (trim_calls _ _ hl).mono ?_
    rintro e w' ⟨rfl, rfl⟩
    go_wp2_with fail
    refine (Tryd.strconv_Atoi_ok _ (by rw [hz.out]; omega) v hn.out _).mono ?_
    rintro e w1 ⟨rfl, hw⟩
    have hb : Below w.heap.size w w1 := by
      rcases hw with rfl | ⟨t, rfl⟩
      · exact Below.refl _ _
      · exact bytes_below (Below.refl _ _) (Nat.le_refl _) _ _
    clear hw
    go_wp2
    go_ret
    exact ⟨rfl, hb⟩
  | range =>
    have e : numF l = Lib.atoiSat (trimR l) := by unfold numF; rw [hn]
    rw [e]
    replace hn := Aside0.mk hn
    clear e
    go_enter Tryd.func59, Tryd.ntmps59
    go_wp2_with fail
    refine (trim_calls _ _ hl).mono ?_
    rintro e w' ⟨rfl, rfl⟩
    go_wp2_with fail
    refine (Tryd.strconv_Atoi_range_var _ (by rw [hz.out]; omega) hn.out tr pr _ hrg.out).mono ?_
    rintro e w1 ⟨N, rfl, hN, hB, hb⟩
    clear hB
    go_wp2
    go_ret
    exact ⟨rfl, hb⟩
  | _ =>
    have e : numF l = 0 := by unfold numF; rw [hn]
    rw [e]
    replace hn := Aside0.mk hn
    clear e
    go_enter Tryd.func59, Tryd.ntmps59
    go_wp2_with fail
    refine (trim_calls _ _ hl).mono ?_
    rintro e w' ⟨rfl, rfl⟩
    go_wp2_with fail
    refine (Tryd.strconv_Atoi_syntax_var _ (by rw [hz.out]; omega) (fun v h => by rw [hn.out] at h; cases h) (fun h => by rw [hn.out] at h; cases h) ts ps _ hsy.out).mono ?_
    rintro e w1 ⟨N, rfl, hN, hB, hb⟩
    clear hB
    go_wp2
    go_ret
    exact ⟨rfl, hb⟩
end Go.Proofs.YthhjhbgimdiboaaDoor

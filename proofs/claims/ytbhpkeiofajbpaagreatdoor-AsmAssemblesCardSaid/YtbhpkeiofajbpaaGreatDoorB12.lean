/- Parts: AsmName, Number. -/
import Derived.Test.YtbhpkeiofajbpaaGreatDoorB08
import Derived.Test.YtbhpkeiofajbpaaGreatDoorB04
import Derived.Laws.RangeString
import Derived.Test.YtbhpkeiofajbpaaGreatDoorB05
/- asm.name: is a word a label's name? -/
section
namespace Go.Proofs.YtbhpkeiofajbpaaGreatDoor
open Go.RowKit Go.Proofs.YtbhpkeiofajbpaaGreatDoorW.PrintWords
set_option linter.unusedVariables false
set_option linter.unusedSimpArgs false

theorem decode_ge (s : ByteArray) (i : Nat) (h : 128 ≤ (s.get! i).toNat) : 128 ≤ (Utf8.decode s i).1 := by
 have e : (s.get! (i + 0)).toNat = (s.get! i).toNat := rfl
 unfold Utf8.decode
 simp only [e]
 rw [if_neg (by omega)]
 split
 ·split
  ·simpa using ‹_›
  ·simp [Utf8.runeError]
 ·split
  ·split
   ·rename_i h2
    simp only [Bool.and_eq_true, decide_eq_true_eq] at h2
    have := h2.1
    dsimp only
    omega
   ·simp [Utf8.runeError]
  ·split
   ·split
    ·rename_i h2
     simp only [Bool.and_eq_true, decide_eq_true_eq] at h2
     have := h2.1
     dsimp only
     omega
    ·simp [Utf8.runeError]
   ·simp [Utf8.runeError]
theorem get_mk (l : List UInt8) (k : Nat) (h : k < l.length) : (⟨l.toArray⟩ : ByteArray).get! k = l.getD k 0 := by
 simp [ByteArray.get!, List.getD_eq_getElem?_getD, List.getElem?_eq_getElem h, h]
theorem run_next_rune {P : Program} (w : World) (s : ByteArray) (pos : Nat) (ty : TypeId) (h : pos < s.size) :
  (Instr.next (.pointer (some ⟨w.heap.size, 0, none⟩)) true ty).run P (w.iter s pos) =
   .ok (.tuple #[.bool true, .int .i64 pos, .int .i32 (Utf8.decode s pos).1]) (w.iter s (pos + (Utf8.decode s pos).2)) := by
 simp only [Instr.next, getObj, setObj, Sem.run_bind, Sem.run, World.iter_heap, Result.andThen, h, if_true, World.iter_set]
 simp [goInt, Sem.run, World.iter_heap, World.iter_set]
def posOf (g : Nat) (W : World) : Nat := match W.heap[g]? with
 | some (.stringIter _ p) => p
 | _ => 0
theorem posOf_iter (w : World) (s : ByteArray) (p : Nat) : posOf w.heap.size (w.iter s p) = p := by
 unfold posOf; rw [World.iter_heap]
/-- So far all is well. -/
def okTo (l : List UInt8) (k : Nat) : Prop := (∀ j, j < k → (lowB (l.getD j 0) || digB (l.getD j 0)) = true) ∧ (0 < k → lowB (l.getD 0 0) = true)
theorem okTo_all {l : List UInt8} (h : okTo l l.length) (hn : 0 < l.length) : lowB (l.headD 0) = true ∧ l.all (fun c => lowB c || digB c) = true := by
 refine ⟨?_, ?_⟩
 ·have := h.2 hn
  cases l with
  | nil => simp at hn
  | cons c r => exact this
 ·rw [List.all_eq_true]
  intro c hc
  obtain ⟨j, hj, rfl⟩ := List.mem_iff_getElem.1 hc
  have := h.1 j hj
  rwa [show l.getD j 0 = l[j] by simp [List.getD_eq_getElem?_getD, List.getElem?_eq_getElem hj]] at this
theorem okTo_step {l : List UInt8} {k : Nat} (h : okTo l k) (hk : (lowB (l.getD k 0) || digB (l.getD k 0)) = true) (h0 : k = 0 → lowB (l.getD 0 0) = true) : okTo l (k + 1) := by
 refine ⟨fun j hj => ?_, fun _ => ?_⟩
 ·by_cases e : j = k
  ·rw [e]; exact hk
  ·exact h.1 j (by omega)
 ·by_cases e : k = 0
  ·exact h0 e
  ·exact h.2 (by omega)
theorem nameB_bad {l : List UInt8} {k : Nat} (hk : k < l.length) (h : (lowB (l.getD k 0) || digB (l.getD k 0)) = false) : nameB l = false := by
 have : l.all (fun c => lowB c || digB c) = false := by
  rw [List.all_eq_false]
  exact ⟨l.getD k 0, by rw [show l.getD k 0 = l[k] by simp [List.getD_eq_getElem?_getD, List.getElem?_eq_getElem hk]]; exact List.getElem_mem hk, by simpa using h⟩
 unfold nameB; rw [this]; simp
theorem nameB_bad0 {l : List UInt8} (hk : 0 < l.length) (h : lowB (l.getD 0 0) = false) : nameB l = false := by
 have : lowB (l.headD 0) = false := by
  cases l with
  | nil => simp at hk
  | cons c r => exact h
 unfold nameB; rw [this]; simp

set_option maxHeartbeats 2000000 in
set_option maxRecDepth 100000 in
theorem name_calls7 (l : List UInt8) (w : World) (hl : l.length ≤ 1000000) :
  Calls Tryz.prog 83 #[.string ⟨l.toArray⟩] w fun e w' => e = .returned (.bool (nameB l)) ∧ Below w.heap.size w w' := by
 have hsz : (⟨l.toArray⟩ : ByteArray).size = l.length := by simp [ByteArray.size]
 obtain ⟨r, hr⟩ : ∃ r, nameB l = r := ⟨_, rfl⟩
 rw [hr]
 replace hr := Aside0.mk hr
 go_enter Tryz.func83, Tryz.ntmps83
 go_wp2
 go_loopw [3, 4] (fun v3 v4 wr => ∃ pos, pos ≤ l.length ∧ wr = w.iter ⟨l.toArray⟩ pos ∧ Aside0 (okTo l pos)) (fun _ _ wr => l.length - posOf w.heap.size wr)
 case atStart => exact ⟨0, Nat.zero_le _, rfl, ⟨fun j hj => by omega, fun h => by omega⟩⟩
 case round =>
  obtain ⟨pos, hp, rfl, hok⟩ := hrel
  have hB : Below w.heap.size w (w.iter ⟨l.toArray⟩ pos) := (Below.refl _ w).alloc (Nat.le_refl _) _
  by_cases hlt : pos < l.length
  ·have hnx := fun ty => run_next_rune (P := Tryz.prog) w ⟨l.toArray⟩ pos ty (by rw [hsz]; exact hlt)
   have hg := get_mk l pos hlt
   have hb := (l.getD pos 0).toNat_lt
   by_cases ha : (l.getD pos 0).toNat < 128
   ·have hd : Utf8.decode ⟨l.toArray⟩ pos = ((l.getD pos 0).toNat, 1) := by
     rw [decode_ascii ⟨l.toArray⟩ pos (by rw [hsz]; exact hlt) (by
      have : (⟨l.toArray⟩ : ByteArray)[pos]'(by rw [hsz]; exact hlt) = l.getD pos 0 := by
       simp [List.getD_eq_getElem?_getD, List.getElem?_eq_getElem hlt]; rfl
      rw [this]; exact ha)]
     congr 2
     simp [List.getD_eq_getElem?_getD, List.getElem?_eq_getElem hlt]; rfl
    simp only [hd] at hnx
    have hlow : lowB (l.getD pos 0) = decide (97 ≤ (l.getD pos 0).toNat ∧ (l.getD pos 0).toNat ≤ 122) := rfl
    have hdig : digB (l.getD pos 0) = decide (48 ≤ (l.getD pos 0).toNat ∧ (l.getD pos 0).toNat ≤ 57) := rfl
    have hB2 : Below w.heap.size w (w.iter ⟨l.toArray⟩ (pos + 1)) := (Below.refl _ w).alloc (Nat.le_refl _) _
    have hstep := fun h h0 => okTo_step (l := l) hok.out h h0
    have hbad := fun h => nameB_bad (l := l) hlt h
    have hbad0 : pos = 0 → lowB (l.getD pos 0) = false → nameB l = false := fun e h => nameB_bad0 (by omega) (by rw [e] at h; exact h)
    have hz : pos = 0 → lowB (l.getD pos 0) = true → lowB (l.getD 0 0) = true := fun e h => by rw [e] at h; exact h
    rw [hlow, hdig] at hstep hbad
    rw [hlow] at hbad0 hz
    clear hg hd hlow hdig
    generalize (l.getD pos 0).toNat = b at *
    by_cases c1 : b < 97
    ·have r1 : decide ((b : Int) < 97) = true := decide_eq_true (by omega)
     by_cases h0 : pos = 0
     ·obtain rfl : r = false := by rw [← hr.out, hbad0 h0 (decide_eq_false (by omega))]
      subst h0
      clear hstep hbad hbad0 hz hok
      go_wp2
      go_ret
      exact ⟨rfl, hB2⟩
     ·have q0 : ((pos : Int) == 0) = false := beq_eq_false_iff_ne.2 (by omega)
      by_cases c3 : b < 48
      ·have r3 : decide ((b : Int) < 48) = true := decide_eq_true (by omega)
       obtain rfl : r = false := by rw [← hr.out, hbad (by rw [decide_eq_false (by omega), decide_eq_false (by omega)]; rfl)]
       go_wp2
       go_ret
       exact ⟨rfl, hB2⟩
      ·have r3 : decide ((b : Int) < 48) = false := decide_eq_false (by omega)
       by_cases c4 : 57 < b
       ·have r4 : decide (57 < (b : Int)) = true := decide_eq_true (by omega)
        obtain rfl : r = false := by rw [← hr.out, hbad (by rw [decide_eq_false (by omega), decide_eq_false (by omega)]; rfl)]
        go_wp2
        go_ret
        exact ⟨rfl, hB2⟩
       ·have r4 : decide (57 < (b : Int)) = false := decide_eq_false (by omega)
        have hok' := Aside0.mk (hstep (by rw [decide_eq_false (by omega), decide_eq_true (by omega)]; rfl) (fun e => absurd e h0))
        clear hstep hbad hbad0 hz hok
        go_wp2
        go_roundw
        case rel => exact ⟨pos + 1, by omega, rfl, hok'⟩
        case measure => rw [posOf_iter, posOf_iter]; omega
    ·have r1 : decide ((b : Int) < 97) = false := decide_eq_false (by omega)
     by_cases c2 : 122 < b
     ·have r2 : decide (122 < (b : Int)) = true := decide_eq_true (by omega)
      have r3 : decide ((b : Int) < 48) = false := decide_eq_false (by omega)
      have r4 : decide (57 < (b : Int)) = true := decide_eq_true (by omega)
      obtain rfl : r = false := by rw [← hr.out, hbad (by rw [decide_eq_false (by omega), decide_eq_false (by omega)]; rfl)]
      by_cases h0 : pos = 0
      ·subst h0
       clear hstep hbad hbad0 hz hok
       go_wp2
       go_ret
       exact ⟨rfl, hB2⟩
      ·have q0 : ((pos : Int) == 0) = false := beq_eq_false_iff_ne.2 (by omega)
       go_wp2
       go_ret
       exact ⟨rfl, hB2⟩
     ·have r2 : decide (122 < (b : Int)) = false := decide_eq_false (by omega)
      have hl' : decide (97 ≤ b ∧ b ≤ 122) = true := decide_eq_true (by omega)
      have hok' := Aside0.mk (hstep (by rw [hl']; rfl) (fun e => hz e hl'))
      clear hstep hbad hbad0 hz hok
      go_wp2
      go_roundw
      case rel => exact ⟨pos + 1, by omega, rfl, hok'⟩
      case measure => rw [posOf_iter, posOf_iter]; omega
   ·have hd := decode_ge ⟨l.toArray⟩ pos (by rw [hg]; omega)
    have hbad := nameB_bad hlt (show (lowB (l.getD pos 0) || digB (l.getD pos 0)) = false by unfold lowB digB; rw [decide_eq_false (by omega), decide_eq_false (by omega)]; rfl)
    generalize (Utf8.decode ⟨l.toArray⟩ pos).1 = R at hnx hd
    generalize (Utf8.decode ⟨l.toArray⟩ pos).2 = sz at hnx
    have hB2 : Below w.heap.size w (w.iter ⟨l.toArray⟩ (pos + sz)) := (Below.refl _ w).alloc (Nat.le_refl _) _
    have r1 : decide ((R : Int) < 97) = false := decide_eq_false (by omega)
    have r2 : decide (122 < (R : Int)) = true := decide_eq_true (by omega)
    have r3 : decide ((R : Int) < 48) = false := decide_eq_false (by omega)
    have r4 : decide (57 < (R : Int)) = true := decide_eq_true (by omega)
    obtain rfl : r = false := by rw [← hr.out, hbad]
    clear hg hb ha hbad hd
    by_cases h0 : pos = 0
    ·subst h0
     go_wp2
     go_ret
     exact ⟨rfl, by simpa using hB2⟩
    ·have q0 : ((pos : Int) == 0) = false := beq_eq_false_iff_ne.2 (by omega)
     go_wp2
     go_ret
     exact ⟨rfl, hB2⟩
  ·obtain rfl : pos = l.length := by omega
   have hnx := fun ty => run_next_end (P := Tryz.prog) w ⟨l.toArray⟩ l.length ty (by rw [hsz]; omega)
   have hr' := hr.out
   by_cases h1 : 1 ≤ l.length
   ·obtain ⟨ha, hb⟩ := okTo_all hok.out (by omega)
    have g1 : decide (1 ≤ (l.length : Int)) = true := decide_eq_true (by omega)
    by_cases h2 : l.length ≤ 16
    ·have g2 : decide ((l.length : Int) ≤ 16) = true := decide_eq_true (by omega)
     obtain rfl : r = true := by rw [← hr']; unfold nameB; rw [ha, hb, decide_eq_true ⟨h1, h2⟩]; rfl
     clear hr hr' ha hb hok
     go_wp2
     exact bodyPost_ret (fn := Tryz.f83) (results_tmp rfl _ _ _) rfl ⟨rfl, hB⟩
    ·have g2 : decide ((l.length : Int) ≤ 16) = false := decide_eq_false (by omega)
     obtain rfl : r = false := by rw [← hr']; unfold nameB; rw [decide_eq_false (fun h => h2 h.2)]; rfl
     clear hr hr' ha hb hok
     go_wp2
     go_ret
     exact ⟨by first | rfl | (simp; omega), hB⟩
   ·have g1 : decide (1 ≤ (l.length : Int)) = false := decide_eq_false (by omega)
    obtain rfl : r = false := by rw [← hr']; unfold nameB; rw [decide_eq_false (fun h => h1 h.1)]; rfl
    clear hr hr' hok
    go_wp2
    go_ret
    exact ⟨by first | rfl | (simp; omega), hB⟩
end Go.Proofs.YtbhpkeiofajbpaaGreatDoor
end
/- inst.number: a word's number, 'r' ahead or not. -/
section
namespace Go.Proofs.YtbhpkeiofajbpaaGreatDoor
open Go.RowKit Go.Proofs.YtbhpkeiofajbpaaGreatDoorW.PrintWords
set_option linter.unusedVariables false

set_option maxHeartbeats 400000 in
theorem trim_calls (l : List UInt8) (w : World) (hl : l.length ≤ 4294967280) :
  Calls Tryz.prog 147 #[.string ⟨l.toArray⟩, .string ⟨#[114]⟩] w fun e w' => e = .returned (.string ⟨(trimR l).toArray⟩) ∧ w = w' := by
 cases l with
 | nil =>
  go_enter Tryz.func147, Tryz.ntmps147
  go_wp2
  go_ret
  exact ⟨rfl, rfl⟩
 | cons c r =>
  have h1 : 0 ≤ (r.length : Int) := by omega
  simp at hl
  by_cases h : c = 114
  ·have ht : (((⟨(c :: r).toArray⟩ : ByteArray).extract 0 1).toList == [114]) = true := by rw [ext_mk, toList_mk]; simp [h]
   have he : (⟨(c :: r).toArray⟩ : ByteArray).extract 1 (r.length + 1) = ⟨(trimR (c :: r)).toArray⟩ := by rw [ext_mk, h]; simp [trimR]
   replace he := Aside0.mk he
   clear h
   go_enter Tryz.func147, Tryz.ntmps147
   go_wp2
   go_ret
   exact ⟨congrArg (fun s => Ending.returned (.string s)) he.out, rfl⟩
  ·have ht : (((⟨(c :: r).toArray⟩ : ByteArray).extract 0 1).toList == [114]) = false := by rw [ext_mk, toList_mk]; simp [h]
   have he : trimR (c :: r) = c :: r := by unfold trimR; split <;> simp_all
   rw [he]
   clear h he
   go_enter Tryz.func147, Tryz.ntmps147
   go_wp2
   go_ret
   exact ⟨rfl, rfl⟩

set_option maxHeartbeats 400000 in
theorem number_calls (l : List UInt8) (w : World) (hl : l.length ≤ 4294967280) (he : Env w) :
  Calls Tryz.prog 131 #[.string ⟨l.toArray⟩] w fun e w' => e = .returned (.int .i64 (numF l)) ∧ Below w.heap.size w w' := by
 have hlt := trimR_len l
 have hz : (⟨(trimR l).toArray⟩ : ByteArray).size = (trimR l).length := by simp [ByteArray.size]
 obtain ⟨ts, ps, hsy⟩ := he.syn
 obtain ⟨tr, pr, hrg⟩ := he.rng
 replace hsy := Aside0.mk hsy
 replace hrg := Aside0.mk hrg
 replace hz := Aside0.mk hz
 cases hn : Lib.atoiAll (trimR l) with
 | ok v =>
  have e : numF l = v := by unfold numF; rw [hn]
  rw [e]
  replace hn := Aside0.mk hn
  clear e
  go_enter Tryz.func131, Tryz.ntmps131
  go_wp2_with fail
  refine (trim_calls _ _ hl).mono ?_
  rintro e w' ⟨rfl, rfl⟩
  go_wp2_with fail
  refine (Tryz.strconv_Atoi_ok _ (by rw [hz.out]; omega) v hn.out _).mono ?_
  rintro e w1 ⟨rfl, hw⟩
  have hb : Below w.heap.size w w1 := by
   rcases hw with rfl | ⟨t, rfl⟩
   ·exact Below.refl _ _
   ·exact bytes_below (Below.refl _ _) (Nat.le_refl _) _ _
  clear hw
  go_wp2
  go_ret
  exact ⟨rfl, hb⟩
 | range =>
  have e : numF l = Lib.atoiSat (trimR l) := by unfold numF; rw [hn]
  rw [e]
  replace hn := Aside0.mk hn
  clear e
  go_enter Tryz.func131, Tryz.ntmps131
  go_wp2_with fail
  refine (trim_calls _ _ hl).mono ?_
  rintro e w' ⟨rfl, rfl⟩
  go_wp2_with fail
  refine (Tryz.strconv_Atoi_range_var _ (by rw [hz.out]; omega) hn.out tr pr _ hrg.out).mono ?_
  rintro e w1 ⟨N, rfl, hN, hB, hb⟩
  clear hB
  go_wp2
  go_ret
  exact ⟨rfl, hb⟩
 | _ =>
  have e : numF l = 0 := by unfold numF; rw [hn]
  rw [e]
  replace hn := Aside0.mk hn
  clear e
  go_enter Tryz.func131, Tryz.ntmps131
  go_wp2_with fail
  refine (trim_calls _ _ hl).mono ?_
  rintro e w' ⟨rfl, rfl⟩
  go_wp2_with fail
  refine (Tryz.strconv_Atoi_syntax_var _ (by rw [hz.out]; omega) (fun v h => by rw [hn.out] at h; cases h) (fun h => by rw [hn.out] at h; cases h) ts ps _ hsy.out).mono ?_
  rintro e w1 ⟨N, rfl, hN, hB, hb⟩
  clear hB
  go_wp2
  go_ret
  exact ⟨rfl, hb⟩
end Go.Proofs.YtbhpkeiofajbpaaGreatDoor
end

/- Parts: Named, Format, Words. -/
import Derived.Test.YtbhpkeiofajbpaaGreatDoorB06
import Derived.Test.YtbhpkeiofajbpaaGreatDoorB04
import Derived.Test.YtbhpkeiofajbpaaGreatDoorB05
import Derived.Lib.AppendIntMem
import Derived.Test.YtbhpkeiofajbpaaGreatDoorB07
import Derived.Deep.QuietTactic
import Derived.BigQuiet
import Derived.Deep.RegionHeld3
import Derived.Deep.DeepCutAuto
/- inst.named: the instruction of a name; 0: there is none. -/
section
namespace Go.Proofs.YtbhpkeiofajbpaaGreatDoor
open Go.RowKit Go.Proofs.YtbhpkeiofajbpaaGreatDoorW.PrintWords
set_option linter.unusedVariables false

set_option maxHeartbeats 1000000 in
set_option maxRecDepth 100000 in
theorem named_calls (l : List UInt8) (w : World) :
  Calls Tryz.prog 130 #[.string ⟨l.toArray⟩] w fun e w' => e = .returned (.int .i64 (namedF l)) ∧ Below w.heap.size w w' := by
 generalize hf : namedF l = fin
 have HF := Aside0.mk (show namedGo l 23 1 = fin from hf)
 clear hf
 go_enter Tryz.func130, Tryz.ntmps130
 go_wp2
 go_loopw [3] (fun v wr => ∃ n : Nat, v = .int .i64 (24 - n) ∧ n ≤ 23 ∧ Aside0 (namedGo l n (24 - n) = fin) ∧ Aside0 (Below w.heap.size w wr)) (fun v wr => (24 - (intOf v)).toNat)
 case atStart => exact ⟨23, rfl, Nat.le_refl _, HF, ⟨Below.refl _ _⟩⟩
 case round =>
  obtain ⟨n, rfl, hn, hG, hB⟩ := hrel
  cases n with
  | zero =>
   have hfin : (0 : Int) = fin := hG.out
   replace hfin := Aside0.mk hfin
   go_wp2
   go_ret
   exact ⟨ret_int hfin.out, hB.out⟩
  | succ n =>
   have hle : (24 - ((n + 1 : Nat) : Int)) ≤ 23 := by omega
   have hz := hB.out.size
   have hst : fin = if opName (24 - ((n + 1 : Nat) : Int)) = l ∧ l ≠ [] then (24 - ((n + 1 : Nat) : Int)) else namedGo l n (24 - ((n + 1 : Nat) : Int) + 1) := hG.out.symm
   have hnx : (24 - ((n + 1 : Nat) : Int) + 1) = 24 - (n : Int) := by omega
   generalize hop : (24 - ((n + 1 : Nat) : Int)) = op at hle hst hnx ⊢
   have hop' : op ≤ 23 ∧ 0 ≤ op := by omega
   replace hop := Aside0.mk hop
   replace hnx := Aside0.mk hnx
   obtain ⟨ho1, ho2⟩ := hop'
   clear hG
   replace hst := Aside0.mk hst
   go_wp2_with fail
   refine (of_calls _ _).mono ?_
   rintro e w1 ⟨rfl, hb⟩
   go_wp2_with fail
   ·have h1 : opName op = l := by assumption
    have h2 : (!l.isEmpty) = true := by assumption
    go_ret
    exact ⟨ret_int (hst.out.trans (if_pos ⟨h1, by intro e; rw [e] at h2; simp at h2⟩)).symm, ((hB.out.trans (hb.mono hz)).alloc (Nat.le_trans hz hb.size) _)⟩
   ·have h1 : opName op = l := by assumption
    have h2 : (!l.isEmpty) = false := by assumption
    exact ⟨⟨n, by rw [hnx.out], by omega, ⟨by rw [← hnx.out]; exact (hst.out.trans (if_neg (fun h => by rw [Bool.not_eq_false'] at h2; exact h.2 (List.isEmpty_iff.1 h2)))).symm⟩, ⟨((hB.out.trans (hb.mono hz)).alloc (Nat.le_trans hz hb.size) _)⟩⟩, by simp [intOf]; omega⟩
   ·have h1 : ¬ opName op = l := by assumption
    exact ⟨⟨n, by rw [hnx.out], by omega, ⟨by rw [← hnx.out]; exact (hst.out.trans (if_neg (fun h => h1 h.1))).symm⟩, ⟨((hB.out.trans (hb.mono hz)).alloc (Nat.le_trans hz hb.size) _)⟩⟩, by simp [intOf]; omega⟩
end Go.Proofs.YtbhpkeiofajbpaaGreatDoor
end
/- strconv.FormatUint at base 10, of a word: its decimal numeral; strconv.Itoa of a number from 0 on. -/
section
namespace Go.Proofs.YtbhpkeiofajbpaaGreatDoor
open Go.RowKit Go.Proofs.YtbhpkeiofajbpaaGreatDoorW.PrintWords Go.Shelf Go.Sort
set_option linter.unusedVariables false

theorem below_grow (w : World) (os : Array Obj) : Below w.heap.size w (grow w os) :=
 ⟨rfl, rfl, rfl, by simp [grow], fun i hi => by simp [grow, Array.getElem?_append, hi]⟩
theorem below_grow' {w w' : World} (h : ∃ k os, w' = grow (w.drewN k) os) : Below w.heap.size w w' := by
 obtain ⟨k, os, rfl⟩ := h
 exact below_then (pw_below_drewN (Below.refl w.heap.size w) k) (Nat.le_refl _) (below_grow (w.drewN k) os)

set_option maxHeartbeats 4000000 in
set_option maxRecDepth 100000 in
theorem format_inner (u : Nat) (hu : u ≤ 4294967295) (w : World) (he : Env w) :
  Calls Tryz.prog 142 #[.int .u64 u, .int .i64 10] w fun e w' => e = .returned (.string ⟨(Lib.decDigits u).toArray⟩) ∧ Below w.heap.size w w' := by
 by_cases hs : u < 100
 ·go_enter Tryz.func142, Tryz.ntmps142
  go_wp2_with fail
  refine (Tryz.internal_strconv_small u hs _).mono ?_
  rintro e w' ⟨rfl, rfl⟩
  go_wp2
  go_ret
  exact ⟨rfl, Below.refl _ _⟩
 ·have hu1 : 1 ≤ u := by omega
  have hu64 : u < 18446744073709551616 := by omega
  have hnd20 : Lib.nDigits u ≤ 20 := by have := Lib.numDigits_eq u hu1 hu64; split at this <;> omega
  have hb3 : Lib.nDigits u ≤ 23 := by omega
  have hal : Tryz.prog.arrayLen 209 = 24 := by kernel_rfl
  have hsl1 : ∀ W, (Instr.sliceAt 209 (.pointer (some ⟨w.heap.size, 0, none⟩)) none (some (.int .i64 (Lib.nDigits u : Int))) none).run Tryz.prog W = .ok (.slice (some ⟨w.heap.size, 0, none⟩) (Lib.nDigits u) 24) W := fun W => by
   rw [run_sliceAt_array_h W 209 ⟨w.heap.size, 0, none⟩ (by kernel_rfl) .i64 (Lib.nDigits u : Int) (by omega) (by rw [hal]; omega)]
   go_simp
  have hH0 := Lib.holds_zero0 w 209 (Lib.nDigits u) (by omega)
  have hfmt := Tryz.internal_strconv_formatBase10 w.heap.size 0 24 u (Array.replicate (Lib.nDigits u) 0) (w.alloc (.cells Lib.zeros24 209)) hH0 (by rw [Array.size_replicate]; exact Lib.lt_pow_nDigits u) hu64 (by rw [Array.size_replicate]; omega)
  rw [Array.size_replicate] at hfmt
  have HH0 := Lib.hid hH0
  have htab := Lib.hid he.tab
  clear hH0 hal he
  go_enter Tryz.func142, Tryz.ntmps142
  go_wp2_with fail
  refine (Tryz.internal_strconv_numDigits u hu1 hu64 _ (Lib.tabIs_alloc htab.out _)).mono ?_
  rintro e w' ⟨rfl, rfl⟩
  go_wp2_with fail
  refine hfmt.mono ?_
  rintro e w' ⟨rfl, k, v', dk, rfl, hF⟩
  have hcv : (convert 126 9 (.slice (some ⟨w.heap.size, 0, none⟩) (Lib.nDigits u) 24)).run Tryz.prog ((putRow (fun (b : UInt8) => Value.int .u8 (b.toNat : Int)) (w.alloc (.cells Lib.zeros24 209)) w.heap.size 0 dk).drewN k) = .ok (.string ⟨(Lib.decDigits u).toArray⟩) ((putRow (fun (b : UInt8) => Value.int .u8 (b.toNat : Int)) (w.alloc (.cells Lib.zeros24 209)) w.heap.size 0 dk).drewN k) := by
   have h := run_convert_bytes_back (P := Tryz.prog) ((putRow (fun (b : UInt8) => Value.int .u8 (b.toNat : Int)) (w.alloc (.cells Lib.zeros24 209)) w.heap.size 0 dk).drewN k) 126 9 5 ⟨w.heap.size, 0, none⟩ 24 (Lib.decDigits u) Tryz.underlying126 Tryz.underlying5 Tryz.underlying9 (fun j hj => by
    rw [Lib.row_is_numeral hF j hj, Lib.add_plain, World.cell?_drewN]
    exact cell?_putRow (fun (b : UInt8) => Value.int .u8 (b.toNat : Int)) _ w.heap.size 0 _ dk HH0.out (by rw [hF.size, Array.size_replicate]) j (by rw [hF.size]; rw [Lib.decDigits_length] at hj; exact hj))
   rw [Lib.decDigits_length] at h
   exact h
  go_wp2
  go_ret
  refine ⟨rfl, ?_⟩
  rw [alloc_eq_grow]
  obtain ⟨os', _, eo⟩ := putRow_grow_new (fun (b : UInt8) => Value.int .u8 (b.toNat : Int)) w #[.cells Lib.zeros24 209] w.heap.size 0 dk (Nat.le_refl _)
  rw [eo]
  exact below_grow' ⟨k, os', rfl⟩

set_option maxHeartbeats 400000 in
theorem format_calls (u : Nat) (hu : u ≤ 4294967295) (w : World) (he : Env w) :
  Calls Tryz.prog 119 #[.int .u64 u, .int .i64 10] w fun e w' => e = .returned (.string ⟨(Lib.decDigits u).toArray⟩) ∧ Below w.heap.size w w' := by
 go_enter Tryz.func119, Tryz.ntmps119
 go_wp2_with fail
 refine (format_inner u hu _ he).mono ?_
 rintro e w' ⟨rfl, hb⟩
 go_wp2
 go_ret
 exact ⟨rfl, hb⟩

theorem itoa_calls (n : Int) (h0 : 0 ≤ n) (h1 : n ≤ 9223372036854775807) (w : World) (he : Env w) :
  Calls Tryz.prog 61 #[.int .i64 n] w fun e w' => e = .returned (.string ⟨(Lib.decDigits n.toNat).toArray⟩) ∧ Below w.heap.size w w' := by
 refine (Tryz.strconv_Itoa n (by omega) h1 w he.tab).mono ?_
 rintro e w' ⟨rfl, hg⟩
 refine ⟨?_, below_grow' hg⟩
 unfold Lib.itoa
 rw [if_neg (by omega)]
theorem digits_len (u : Nat) (hu64 : u < 18446744073709551616) : (Lib.decDigits u).length ≤ 20 := by
 rw [Lib.decDigits_length]
 by_cases hu1 : 1 ≤ u
 ·have := Lib.numDigits_eq u hu1 hu64
  split at this <;> omega
 ·obtain rfl : u = 0 := by omega
  rw [Lib.nDigits_small (by omega)]
  omega
end Go.Proofs.YtbhpkeiofajbpaaGreatDoor
end
/- inst.words -/
section
namespace Go.Proofs.YtbhpkeiofajbpaaGreatDoor
open Go.RowKit Go.Proofs.YtbhpkeiofajbpaaGreatDoorW.PrintWords
set_option linter.unusedVariables false

/-- A row of strings, in a block of its own. -/
def StrRow (w : World) (g c : Nat) (ss : List (List UInt8)) : Prop :=
 ∃ cur : Array Value, w.heap[g]? = some (.cells cur 9 (0, 0)) ∧ ss.length ≤ c ∧ c ≤ maxLen ∧ cur.size = c ∧ cur.toList.take ss.length = ss.map fun l => Value.string ⟨l.toArray⟩

theorem itoa_small (v : Int) (h : 0 ≤ v ∧ v ≤ 7) (w : World) :
  Calls Tryz.prog 61 #[.int .i64 v] w fun e w' => e = .returned (.string ⟨(dec v).toArray⟩) ∧ w' = w := by
 obtain ⟨n, rfl⟩ := Int.eq_ofNat_of_zero_le h.1
 refine (Tryz.strconv_Itoa_small n (by omega) w).mono ?_
 rintro e w' ⟨rfl, rfl⟩
 exact ⟨by simp [dec], rfl⟩

theorem row_one (w : World) (s : ByteArray) (l : List UInt8) (h : s = ⟨l.toArray⟩) : StrRow (w.alloc (.cells #[.string s] 9)) w.heap.size 1 [l] :=
 ⟨_, blk_new _ _, Nat.le_refl _, by simp [maxLen], rfl, by rw [h]; rfl⟩
theorem row_one' (w : World) (o : Obj) (s : ByteArray) (l : List UInt8) (h : s = ⟨l.toArray⟩) : StrRow ((w.alloc o).alloc (.cells #[.string s] 9)) (w.heap.size + 1) 1 [l] := by
 have := row_one (w.alloc o) s l h
 simpa using this

set_option maxHeartbeats 400000 in
set_option maxRecDepth 100000 in
theorem words_reg (op d s t u a k q sg : Int) (j : Nat) (v : Int) (w : World) (hfo : fieldOff sg = some j) (hj : j ≠ 5) (hv : In.get ⟨op, d, s, t, u, a, k, q⟩ j = v) (hv7 : 0 ≤ v ∧ v ≤ 7) :
  Calls Tryz.prog 93 #[.agg #[.int .i64 op, .int .i64 d, .int .i64 s, .int .i64 t, .int .i64 u, .int .i64 a, .int .u32 k, .int .i64 q], .int .u8 sg] w fun e w' =>
   ∃ g c, e = .returned (.slice (some ⟨g, 0, none⟩) 1 c) ∧ w.heap.size ≤ g ∧ StrRow w' g c [114 :: dec v] ∧ Below w.heap.size w w' := by
 have hbd := fieldOff_bd hfo
 have n65 : (sg != 65) = true := by
  rcases fieldOff_cases hfo with ⟨rfl, _⟩ | ⟨rfl, _⟩ | ⟨rfl, _⟩ | ⟨rfl, _⟩ | ⟨rfl, rfl⟩
  all_goals first | rfl | omega
 have cj : ∀ o, (w.alloc (.cells #[.int .i64 op, .int .i64 d, .int .i64 s, .int .i64 t, .int .i64 u, .int .i64 a, .int .u32 k, .int .i64 q] o)).cell? ⟨w.heap.size, j, none⟩ = some (.int .i64 v) := fun o => by
  rw [← hv]
  exact (blk_cell (blk_new _ _) j).trans (In.c ⟨op, d, s, t, u, a, k, q⟩ j hbd.1 hbd.2)
 replace cj := cj 99
 have hdl : (dec v).length ≤ 20 := digits_len _ (by omega)
 replace hfo := Aside0.mk hfo
 replace hv := Aside0.mk hv
 go_enter Tryz.func93, Tryz.ntmps93
 go_wp2_with fail
 refine (field_some _ _ _ _ hfo.out).mono ?_
 rintro e w' ⟨rfl, rfl⟩
 go_wp2_with fail
 refine (itoa_small v hv7 _).mono ?_
 rintro e w' ⟨rfl, rfl⟩
 go_wp2
 go_ret
 refine ⟨w.heap.size + 1, 1, ?_, by omega, ?_, ?_⟩
 ·rfl
 ·exact row_one' _ _ _ _ (app_mk [114] (dec v))
 ·exact ((Below.refl w.heap.size w).alloc (Nat.le_refl _) _).alloc (by simp) _

set_option maxHeartbeats 400000 in
set_option maxRecDepth 100000 in
theorem words_area (op d s t u a k q : Int) (w : World) (hv7 : 0 ≤ a ∧ a ≤ 7) :
  Calls Tryz.prog 93 #[.agg #[.int .i64 op, .int .i64 d, .int .i64 s, .int .i64 t, .int .i64 u, .int .i64 a, .int .u32 k, .int .i64 q], .int .u8 65] w fun e w' =>
   ∃ g c, e = .returned (.slice (some ⟨g, 0, none⟩) 1 c) ∧ w.heap.size ≤ g ∧ StrRow w' g c [dec a] ∧ Below w.heap.size w w' := by
 have hdl : (dec a).length ≤ 20 := digits_len _ (by omega)
 go_enter Tryz.func93, Tryz.ntmps93
 go_wp2_with fail
 refine (field_some _ _ _ _ (show fieldOff 65 = some 5 from rfl)).mono ?_
 rintro e w' ⟨rfl, rfl⟩
 go_wp2_with fail
 refine (itoa_small a hv7 _).mono ?_
 rintro e w' ⟨rfl, rfl⟩
 go_wp2
 go_ret
 refine ⟨w.heap.size + 1, 1, ?_, by omega, ?_, ?_⟩
 ·rfl
 ·exact row_one' _ _ _ _ rfl
 ·exact ((Below.refl w.heap.size w).alloc (Nat.le_refl _) _).alloc (by simp) _

set_option maxHeartbeats 400000 in
set_option maxRecDepth 100000 in
theorem words_place (op d s t u a k q : Int) (w : World) (he : Env w) (hq : 0 ≤ q ∧ q ≤ 1073741824) :
  Calls Tryz.prog 93 #[.agg #[.int .i64 op, .int .i64 d, .int .i64 s, .int .i64 t, .int .i64 u, .int .i64 a, .int .u32 k, .int .i64 q], .int .u8 80] w fun e w' =>
   ∃ g c, e = .returned (.slice (some ⟨g, 0, none⟩) 1 c) ∧ w.heap.size ≤ g ∧ StrRow w' g c [dec q] ∧ Below w.heap.size w w' := by
 have hdl : (dec q).length ≤ 20 := digits_len _ (by omega)
 replace he := he.below ((Below.refl w.heap.size w).alloc (Nat.le_refl _) (.cells (In.cs ⟨op, d, s, t, u, a, k, q⟩) 99))
 have h0 := Below.alloc (Below.refl w.heap.size w) (Nat.le_refl _) (.cells (In.cs ⟨op, d, s, t, u, a, k, q⟩) 99)
 go_enter Tryz.func93, Tryz.ntmps93
 go_wp2_with fail
 refine (field_none _ _ _ (show fieldOff 80 = none from rfl)).mono ?_
 rintro e w' ⟨rfl, rfl⟩
 go_wp2_with fail
 refine (itoa_calls q hq.1 (by omega) _ he).mono ?_
 rintro e w1 ⟨rfl, hb⟩
 have hz := hb.size
 simp at hz
 go_wp2
 go_ret
 have hb' := h0.trans (hb.mono (by simp))
 refine ⟨w1.heap.size, 1, ?_, by omega, ?_, ?_⟩
 ·rfl
 ·exact row_one _ _ _ rfl
 ·exact hb'.alloc hb'.size _

set_option maxHeartbeats 400000 in
set_option maxRecDepth 100000 in
theorem words_num (op d s t u a k q sg : Int) (w : World) (he : Env w) (hk : 0 ≤ k ∧ k ≤ 4294967295) (hfo : fieldOff sg = none) (h80 : sg ≠ 80) (h87 : sg ≠ 87) (h65 : sg ≠ 65) :
  Calls Tryz.prog 93 #[.agg #[.int .i64 op, .int .i64 d, .int .i64 s, .int .i64 t, .int .i64 u, .int .i64 a, .int .u32 k, .int .i64 q], .int .u8 sg] w fun e w' =>
   ∃ g c, e = .returned (.slice (some ⟨g, 0, none⟩) 1 c) ∧ w.heap.size ≤ g ∧ StrRow w' g c [dec k] ∧ Below w.heap.size w w' := by
 obtain ⟨k, rfl⟩ := Int.eq_ofNat_of_zero_le hk.1
 have hdl : (Lib.decDigits k).length ≤ 20 := digits_len _ (by omega)
 have hd : dec (k : Int) = Lib.decDigits k := by simp [dec]
 rw [hd]
 clear hd
 have g80 : (sg == 80) = false := beq_eq_false_iff_ne.2 h80
 have g87 : (sg == 87) = false := beq_eq_false_iff_ne.2 h87
 have g65 : (sg == 65) = false := beq_eq_false_iff_ne.2 h65
 replace hfo := Aside0.mk hfo
 replace he := he.below ((Below.refl w.heap.size w).alloc (Nat.le_refl _) (.cells (In.cs ⟨op, d, s, t, u, a, k, q⟩) 99))
 have h0 := Below.alloc (Below.refl w.heap.size w) (Nat.le_refl _) (.cells (In.cs ⟨op, d, s, t, u, a, k, q⟩) 99)
 go_enter Tryz.func93, Tryz.ntmps93
 go_wp2_with fail
 refine (field_none _ _ _ hfo.out).mono ?_
 rintro e w' ⟨rfl, rfl⟩
 go_wp2_with fail
 refine (format_calls k (by omega) _ he).mono ?_
 rintro e w1 ⟨rfl, hb⟩
 have hz := hb.size
 simp at hz
 go_wp2
 go_ret
 have hb' := h0.trans (hb.mono (by simp))
 refine ⟨w1.heap.size, 1, ?_, by omega, ?_, ?_⟩
 ·rfl
 ·exact row_one _ _ _ rfl
 ·exact hb'.alloc hb'.size _

theorem info_str : (Tryz.prog.info? 9).map (fun i => (i.zero, i.size, i.bytes)) = some (some (.string ⟨#[]⟩), 1, 16) := by kernel_rfl

set_option maxHeartbeats 1000000 in
set_option maxRecDepth 100000 in
theorem words_wait_no (op d s t u a k q : Int) (wd : List UInt8) (w : World) (he : Env w) (ht : 0 ≤ t ∧ t ≤ 7) (hq : q = -1)
  (i0 : ∀ W, (Instr.index 197 (.agg #[.string ⟨#[101, 113]⟩, .string ⟨#[110, 101]⟩]) (.int .u32 (min k 1))).run Tryz.prog W = .ok (.string ⟨wd.toArray⟩) W) :
  Calls Tryz.prog 93 #[.agg #[.int .i64 op, .int .i64 d, .int .i64 s, .int .i64 t, .int .i64 u, .int .i64 a, .int .u32 k, .int .i64 q], .int .u8 87] w fun e w' =>
   ∃ g c, e = .returned (.slice (some ⟨g, 0, none⟩) 2 c) ∧ w.heap.size ≤ g ∧ StrRow w' g c [wd, 114 :: dec t] ∧ Below w.heap.size w w' := by
 have hqb : (q != -1) = false := bne_eq_false_iff_eq.2 hq
 clear hq
 have hdl : (dec t).length ≤ 20 := digits_len _ (by omega)
 have hst := Aside0.mk (app_mk [114] (dec t))
 obtain ⟨i9, hi, hz0, hz1, hz2⟩ := info_parts info_str
 replace hi := Aside0.mk hi
 replace hz0 := Aside0.mk hz0
 replace hz1 := Aside0.mk hz1
 replace hz2 := Aside0.mk hz2
 go_enter Tryz.func93, Tryz.ntmps93
 go_wp2_with fail
 refine (field_none _ _ _ (show fieldOff 87 = none from rfl)).mono ?_
 rintro e w' ⟨rfl, rfl⟩
 go_upto_region 10 with fail
 go_cut [7] (fun s7 wx => s7 = .slice (some ⟨w.heap.size + 1, 0, none⟩) 2 2 ∧ Aside0 (wx.heap[w.heap.size]? = some (.cells (In.cs ⟨op, d, s, t, u, a, k, q⟩) 99 (0, 0))) ∧
  Aside0 (wx.heap[w.heap.size + 1]? = some (.cells #[.string ⟨wd.toArray⟩, .string ⟨(114 :: dec t).toArray⟩] 9 (0, 0))) ∧ Aside0 (Below w.heap.size w wx) ∧ Aside0 (wx.heap.size = w.heap.size + 2))
 case first =>
  have c6 : (w.alloc (.cells #[.int .i64 op, .int .i64 d, .int .i64 s, .int .i64 t, .int .i64 u, .int .i64 a, .int .u32 k, .int .i64 q] 99)).cell? ⟨w.heap.size, 6, none⟩ = some (.int .u32 k) := (blk_cell (blk_new _ _) 6).trans rfl
  have c3 : (w.alloc (.cells #[.int .i64 op, .int .i64 d, .int .i64 s, .int .i64 t, .int .i64 u, .int .i64 a, .int .u32 k, .int .i64 q] 99)).cell? ⟨w.heap.size, 3, none⟩ = some (.int .i64 t) := (blk_cell (blk_new _ _) 3).trans rfl
  have hsm : ¬9223372036854775807 < 1 + (dec t).length := by omega
  go_region_held3 (fun W => W.cell? ⟨w.heap.size, 6, none⟩ = some (.int .u32 k) ∧ W.cell? ⟨w.heap.size, 3, none⟩ = some (.int .i64 t)) (go_keep) ((go_at_call 61; refine (itoa_small t ht _).mono ?_; rintro e w' ⟨rfl, rfl⟩))
  all_goals
   go_wp2_with fail
   go_meet
   exact ⟨rfl, ⟨blk_drew (blk_old (blk_new _ _) _)⟩, ⟨blk_drew ((blk_new2 _ _ _).trans (by rw [show (⟨#[114]⟩ : ByteArray) ++ ⟨(dec t).toArray⟩ = ⟨(114 :: dec t).toArray⟩ from hst.out]))⟩, ⟨below_drew (((Below.refl w.heap.size w).alloc (Nat.le_refl _) _).alloc (by simp) _)⟩, ⟨by simp⟩⟩
 case rest =>
  obtain ⟨rfl, hB0, hB1, hbl, hsz⟩ := hcut
  have z2 : w.heap.size + 1 < wc.heap.size := by have := hsz.out; omega
  have c7 : wc.cell? ⟨w.heap.size, 7, none⟩ = some (.int .i64 q) := (blk_cell hB0.out 7).trans rfl
  go_wp2
  go_ret
  exact ⟨w.heap.size + 1, 2, rfl, by omega, ⟨_, hB1.out, Nat.le_refl _, by simp [maxLen], rfl, rfl⟩, hbl.out⟩

set_option maxHeartbeats 1000000 in
set_option maxRecDepth 100000 in
theorem words_wait_to (op d s t u a k q : Int) (wd : List UInt8) (w : World) (he : Env w) (ht : 0 ≤ t ∧ t ≤ 7) (hq : 0 ≤ q ∧ q ≤ 1073741824)
  (i0 : ∀ W, (Instr.index 197 (.agg #[.string ⟨#[101, 113]⟩, .string ⟨#[110, 101]⟩]) (.int .u32 (min k 1))).run Tryz.prog W = .ok (.string ⟨wd.toArray⟩) W) :
  Calls Tryz.prog 93 #[.agg #[.int .i64 op, .int .i64 d, .int .i64 s, .int .i64 t, .int .i64 u, .int .i64 a, .int .u32 k, .int .i64 q], .int .u8 87] w fun e w' =>
   ∃ g c, e = .returned (.slice (some ⟨g, 0, none⟩) 4 c) ∧ w.heap.size ≤ g ∧ StrRow w' g c [wd, 114 :: dec t, [101, 108, 115, 101], dec q] ∧ Below w.heap.size w w' := by
 have hqb : (q != -1) = true := bne_iff_ne.2 (by omega)
 have hdl : (dec t).length ≤ 20 := digits_len _ (by omega)
 have hst := Aside0.mk (app_mk [114] (dec t))
 obtain ⟨i9, hi, hz0, hz1, hz2⟩ := info_parts info_str
 replace hi := Aside0.mk hi
 replace hz0 := Aside0.mk hz0
 replace hz1 := Aside0.mk hz1
 replace hz2 := Aside0.mk hz2
 go_enter Tryz.func93, Tryz.ntmps93
 go_wp2_with fail
 refine (field_none _ _ _ (show fieldOff 87 = none from rfl)).mono ?_
 rintro e w' ⟨rfl, rfl⟩
 go_upto_region 10 with fail
 go_cut [7] (fun s7 wx => s7 = .slice (some ⟨w.heap.size + 1, 0, none⟩) 2 2 ∧ Aside0 (wx.heap[w.heap.size]? = some (.cells (In.cs ⟨op, d, s, t, u, a, k, q⟩) 99 (0, 0))) ∧
  Aside0 (wx.heap[w.heap.size + 1]? = some (.cells #[.string ⟨wd.toArray⟩, .string ⟨(114 :: dec t).toArray⟩] 9 (0, 0))) ∧ Aside0 (Below w.heap.size w wx) ∧ Aside0 (wx.heap.size = w.heap.size + 2))
 case first =>
  have c6 : (w.alloc (.cells #[.int .i64 op, .int .i64 d, .int .i64 s, .int .i64 t, .int .i64 u, .int .i64 a, .int .u32 k, .int .i64 q] 99)).cell? ⟨w.heap.size, 6, none⟩ = some (.int .u32 k) := (blk_cell (blk_new _ _) 6).trans rfl
  have c3 : (w.alloc (.cells #[.int .i64 op, .int .i64 d, .int .i64 s, .int .i64 t, .int .i64 u, .int .i64 a, .int .u32 k, .int .i64 q] 99)).cell? ⟨w.heap.size, 3, none⟩ = some (.int .i64 t) := (blk_cell (blk_new _ _) 3).trans rfl
  have hsm : ¬9223372036854775807 < 1 + (dec t).length := by omega
  go_region_held3 (fun W => W.cell? ⟨w.heap.size, 6, none⟩ = some (.int .u32 k) ∧ W.cell? ⟨w.heap.size, 3, none⟩ = some (.int .i64 t)) (go_keep) ((go_at_call 61; refine (itoa_small t ht _).mono ?_; rintro e w' ⟨rfl, rfl⟩))
  all_goals
   go_wp2_with fail
   go_meet
   exact ⟨rfl, ⟨blk_drew (blk_old (blk_new _ _) _)⟩, ⟨blk_drew ((blk_new2 _ _ _).trans (by rw [show (⟨#[114]⟩ : ByteArray) ++ ⟨(dec t).toArray⟩ = ⟨(114 :: dec t).toArray⟩ from hst.out]))⟩, ⟨below_drew (((Below.refl w.heap.size w).alloc (Nat.le_refl _) _).alloc (by simp) _)⟩, ⟨by simp⟩⟩
 case rest =>
  obtain ⟨rfl, hB0, hB1, hbl, hsz⟩ := hcut
  have z2 : w.heap.size + 1 < wc.heap.size := by have := hsz.out; omega
  have c7 : wc.cell? ⟨w.heap.size, 7, none⟩ = some (.int .i64 q) := (blk_cell hB0.out 7).trans rfl
  have hwe := he.below hbl.out
  have hdq : (dec q).length ≤ 20 := digits_len _ (by omega)
  go_wp2_with fail
  refine (itoa_calls q (by omega) (by omega) _ hwe).mono ?_
  rintro e w1 ⟨rfl, hb⟩
  have hz1' := hb.size
  have hR : w1.ownsRow w.heap.size 9 1 (.slice (some ⟨w.heap.size + 1, 0, none⟩) 2 2) 2 [.string ⟨wd.toArray⟩, .string ⟨(114 :: dec t).toArray⟩] :=
   ⟨rfl, .inr ⟨w.heap.size + 1, 2, _, rfl, by omega, blk_keep hb hB1.out, Nat.le_refl _, by simp [maxLen], rfl, rfl⟩⟩
  replace hR := Aside0.mk hR
  have hN := Aside0.mk (blk_new w1 (.cells #[.string ⟨#[101, 108, 115, 101]⟩, .string ⟨(dec q).toArray⟩] 9))
  have z1 : w.heap.size + 1 < w1.heap.size := by omega
  have ca : ∀ j u, [Value.string ⟨#[101, 108, 115, 101]⟩, Value.string ⟨(dec q).toArray⟩][j]? = some u → (w1.alloc (.cells #[.string ⟨#[101, 108, 115, 101]⟩, .string ⟨(dec q).toArray⟩] 9)).cell? ((⟨w1.heap.size, 0, none⟩ : Addr).add j) = some u := fun j u hj => by
   rw [add_plain]
   exact (blk_cell hN.out j).trans (by simpa using hj)
  replace ca := Aside0.mk ca
  go_wp2_with ((at_builtin; refine wpList_append_own _ rfl (.tmp 53) (.tmp 57) 102 rfl w.heap.size 9 i9 (.string ⟨#[]⟩) 1 16 Tryz.underlying102 hi.out hz0.out hz1.out hz2.out rfl (by decide) _ _ _ rfl (hR.out.alloc _) ⟨w1.heap.size, 0, none⟩ 2 2 [.string ⟨#[101, 108, 115, 101]⟩, .string ⟨(dec q).toArray⟩] rfl rfl ca.out ?c2 ?c3 ?c4 ?c5 ?_))
  case c2 => simp [Value.oneCell']
  case c3 => simp [maxLen]
  case c4 => omega
  case c5 => simp; omega
  intro v' w2 hown hgr hnil
  have hbz := hgr.size
  simp at hbz
  obtain ⟨hlen, hcase⟩ := hown
  have hcase' : ∃ g cap cur, v' = .slice (some ⟨g, 0, none⟩) 4 cap ∧ w.heap.size ≤ g ∧ w2.heap[g]? = some (.cells cur 9 (0, 0)) ∧ 4 ≤ cap ∧ cap ≤ maxLen ∧ cur.size = cap * 1 ∧ cur.toList.take (4 * 1) = [.string ⟨wd.toArray⟩, .string ⟨(114 :: dec t).toArray⟩, .string ⟨#[101, 108, 115, 101]⟩, .string ⟨(dec q).toArray⟩] := by
   rcases hcase with ⟨_, h⟩ | h
   ·omega
   ·exact h
  clear hcase hlen
  obtain ⟨g, cap, cur, hv, hg, hblk, h4, hml, hcs, htk⟩ := hcase'
  clear hnil
  rw [hv]
  have hfin : StrRow w2 g cap [wd, 114 :: dec t, [101, 108, 115, 101], dec q] := ⟨cur, hblk, h4, hml, by omega, by simpa using htk⟩
  have hbe : Below w.heap.size w w2 := ((hbl.out.trans (hb.mono (by omega))).alloc (by omega) _).grown hgr (by simp; omega) (fun k hk => by simp [Value.ownBlock] at hk; omega)
  replace hfin := Aside0.mk hfin
  clear hblk htk hv hcs
  go_wp2
  go_ret
  exact ⟨g, cap, rfl, hg, hfin.out, hbe⟩
end Go.Proofs.YtbhpkeiofajbpaaGreatDoor
end

/- Parts: Right, In8, Laid. -/
import Derived.Test.YtbhpkeiofajbpaaGreatDoorB06
import Derived.Test.YtbhpkeiofajbpaaGreatDoorB05
import Derived.Test.YtbhpkeiofajbpaaGreatDoorB02
import Derived.ProofKit
import Derived.Lib.SmallJoins
import Derived.OpenShut
import Derived.Deep.Fields
import Derived.Test.YtbhpkeiofajbpaaGreatDoorCards
import Derived.Test.YtbhpkeiofajbpaaGreatDoorTie
import Derived.Test.YtbhpkeiofajbpaaGreatDoorB04
import Derived.LaidMore
import Derived.Deep.DeepHandedRow
import Derived.Lib.LaidTab
import Derived.Lib.LaidU8
import Derived.Stop.LaidErr
import Derived.JoinedCond
import Derived.Deep.DeepWitnessRowRef
/- inst.Right -/
section
namespace Go.Proofs.YtbhpkeiofajbpaaGreatDoor
open Go.RowKit Go.Proofs.YtbhpkeiofajbpaaGreatDoorW.PrintWords
set_option linter.unusedVariables false

def In.v (i : In) : Value := .agg #[.int .i64 i.op, .int .i64 i.d, .int .i64 i.s, .int .i64 i.t, .int .i64 i.u, .int .i64 i.a, .int .u32 i.k, .int .i64 i.q]
def In.cs (i : In) : Array Value := #[.int .i64 i.op, .int .i64 i.d, .int .i64 i.s, .int .i64 i.t, .int .i64 i.u, .int .i64 i.a, .int .u32 i.k, .int .i64 i.q]

theorem In.c (i : In) (j : Nat) (h1 : 1 ≤ j) (h5 : j ≤ 5) : i.cs[j]? = some (.int .i64 (i.get j)) := by
 match j, h1, h5 with
 | 1, _, _ => rfl
 | 2, _, _ => rfl
 | 3, _, _ => rfl
 | 4, _, _ => rfl
 | 5, _, _ => rfl
theorem In.cs_put (i : In) (v : Int) (j : Nat) (h1 : 1 ≤ j) (h5 : j ≤ 5) : i.cs.setIfInBounds j (.int .i64 v) = (i.put v j).cs := by
 match j, h1, h5 with
 | 1, _, _ => rfl
 | 2, _, _ => rfl
 | 3, _, _ => rfl
 | 4, _, _ => rfl
 | 5, _, _ => rfl

theorem fin_none {places sg : Int} {l : List UInt8} {kk : Nat} {r : In} {fin : Bool} (hF : finR (foldR places (l.drop kk) r) = fin)
  (hst : foldR places (l.drop kk) r = (stepR places sg r).bind (foldR places (l.drop (kk + 1)))) (h : stepR places sg r = none) : fin = false := by
 rw [hst, h] at hF; exact hF.symm
theorem fin_some {places sg : Int} {l : List UInt8} {kk : Nat} {r r' : In} {fin : Bool} (hF : finR (foldR places (l.drop kk) r) = fin)
  (hst : foldR places (l.drop kk) r = (stepR places sg r).bind (foldR places (l.drop (kk + 1)))) (h : stepR places sg r = some r') : finR (foldR places (l.drop (kk + 1)) r') = fin := by
 rw [hst, h] at hF; exact hF

theorem In.zero_iff (r : In) : r = In.zero ↔ (r.op = 0 ∧ r.d = 0 ∧ r.s = 0 ∧ r.t = 0 ∧ r.u = 0 ∧ r.a = 0 ∧ r.k = 0 ∧ r.q = 0) := by
 cases r; simp [In.zero]
theorem fin_end {places : Int} {l : List UInt8} {kk : Nat} {r : In} {fin b : Bool} (hk : kk = l.length) (hF : finR (foldR places (l.drop kk) r) = fin)
  (h : b = decide (r.op = 0 ∧ r.d = 0 ∧ r.s = 0 ∧ r.t = 0 ∧ r.u = 0 ∧ r.a = 0 ∧ r.k = 0 ∧ r.q = 0)) : b = fin := by
 subst hk
 rw [List.drop_length] at hF
 rw [← hF, h]
 simp only [foldR, finR, In.zero_iff]

set_option maxHeartbeats 2000000 in
set_option maxRecDepth 100000 in
theorem right_some (op d s t u a k q places : Int) (hwk : 0 ≤ k ∧ k ≤ 4294967295) (w : World) (hn : opName op ≠ []) :
  Calls Tryz.prog 58 #[.agg #[.int .i64 op, .int .i64 d, .int .i64 s, .int .i64 t, .int .i64 u, .int .i64 a, .int .u32 k, .int .i64 q], .int .i64 places] w fun e w' => e = .returned (.bool (rightF ⟨op, d, s, t, u, a, k, q⟩ places)) ∧ Below w.heap.size w w' := by
 have hne : (opName op).isEmpty = false := by cases h : opName op <;> simp_all
 rw [rightF_eq _ _ hn]
 clear hn
 dsimp only
 have hsz : (opHas op).length ≤ 5 := opHas_len op
 have kb := fun W => print_bytes (P := Tryz.prog) 9 126 5 Tryz.underlying9 Tryz.underlying126 Tryz.underlying5 ⟨(opHas op).toArray⟩ W
 generalize hl : opHas op = l at hsz kb ⊢
 generalize hn : opName op = nm at hne ⊢
 have HL := Aside0.mk hl
 have HN := Aside0.mk hn
 clear hl hn
 generalize hf : finR (foldR places l ⟨0, d, s, t, u, a, k, q⟩) = fin
 have HF := Aside0.mk hf
 clear hf
 go_enter Tryz.func58, Tryz.ntmps58
 go_wp2_with fail
 refine (of_calls _ _).mono ?_
 rintro e w1 ⟨rfl, hb⟩
 rw [HL.out, HN.out]
 have BK := Aside0.mk (blk_keep hb (blk_new w _))
 have z : w.heap.size < w1.heap.size := blk_lt BK.out
 have c0 : w1.cell? ⟨w.heap.size, 0, none⟩ = some (.int .i64 op) := (blk_cell BK.out 0).trans rfl
 have c1 : w1.cell? ⟨w.heap.size, 1, none⟩ = some (.int .i64 d) := (blk_cell BK.out 1).trans rfl
 have c2 : w1.cell? ⟨w.heap.size, 2, none⟩ = some (.int .i64 s) := (blk_cell BK.out 2).trans rfl
 have c3 : w1.cell? ⟨w.heap.size, 3, none⟩ = some (.int .i64 t) := (blk_cell BK.out 3).trans rfl
 have c4 : w1.cell? ⟨w.heap.size, 4, none⟩ = some (.int .i64 u) := (blk_cell BK.out 4).trans rfl
 have c5 : w1.cell? ⟨w.heap.size, 5, none⟩ = some (.int .i64 a) := (blk_cell BK.out 5).trans rfl
 have c6 : w1.cell? ⟨w.heap.size, 6, none⟩ = some (.int .u32 k) := (blk_cell BK.out 6).trans rfl
 have c7 : w1.cell? ⟨w.heap.size, 7, none⟩ = some (.int .i64 q) := (blk_cell BK.out 7).trans rfl
 go_wp2_with fail
 clear c0 c1 c2 c3 c4 c5 c6 c7 kb
 generalize grownCap _ _ _ _ = cap
 have hB0 := Aside0.mk (((Below.refl w.heap.size w).alloc (Nat.le_refl _) (.cells (In.cs ⟨op, d, s, t, u, a, k, q⟩) 99)).trans (hb.mono (by simp)))
 have hB1 := Aside0.mk (bytes_below ((hB0.out.alloc (Nat.le_of_lt z) (.cells #[.string ⟨nm.toArray⟩, .string ⟨l.toArray⟩] 161)).alloc (by simp; omega) (.cells (In.cs ⟨0, d, s, t, u, a, k, q⟩) 99)) (by simp; omega) 5 ⟨l.toArray⟩)
 have hR1 := Aside0.mk (bytes_reads' ((w1.alloc (.cells #[.string ⟨nm.toArray⟩, .string ⟨l.toArray⟩] 161)).alloc (.cells (In.cs ⟨0, d, s, t, u, a, k, q⟩) 99)) 5 l (w1.heap.size + 1 + 1) (by simp) (by omega))
 have hK1 := Aside0.mk (blk_bytes (blk_new2 w1 (.cells #[.string ⟨nm.toArray⟩, .string ⟨l.toArray⟩] 161) (.cells (In.cs ⟨0, d, s, t, u, a, k, q⟩) 99)) 5 ⟨l.toArray⟩)
 go_loopw [28] (fun v wr => ∃ (kk : Nat) (r : In), v = .int .i64 kk ∧ kk ≤ l.length ∧ r.wk ∧ Aside0 (wr.heap[w1.heap.size + 1]? = some (.cells r.cs 99 (0, 0))) ∧ Aside0 (ReadsInt wr .u8 (some ⟨w1.heap.size + 1 + 1, 0, none⟩) l.length (bytesOf ⟨l.toArray⟩)) ∧ Aside0 (Below w.heap.size w wr) ∧ Aside0 (finR (foldR places (l.drop kk) r) = fin) ∧ Aside0 (w1.heap.size + 1 + 1 < wr.heap.size)) (fun v wr => l.length - (intOf v).toNat)
 case atStart => exact ⟨0, ⟨0, d, s, t, u, a, k, q⟩, rfl, Nat.zero_le _, hwk, hK1, hR1, hB1, by simpa using HF, ⟨by rw [Lib.bytesWorld_size]; simp⟩⟩
 case round =>
  clear hB0 hB1 hR1 hK1
  obtain ⟨kk, r, rfl, hkk, hwr, hK, hR, hB, hF, hZ⟩ := hrel
  by_cases hlt : kk < l.length
  ·have hby := reads_byte hR.out kk hlt
   have hst := Aside0.mk (foldR_at places l kk r hlt)
   generalize hs0 : ((l.getD kk 0).toNat : Int) = sg at hby hst
   have HS := Aside0.mk hs0
   clear hs0
   cases hfo : fieldOff sg with
   | some j =>
    have hj := fieldOff_bd hfo
    obtain ⟨n87, n80⟩ := fieldOff_ne hfo
    have hst' := Aside0.mk (stepR_field (places := places) (r := r) hfo)
    have cj : wr.cell? ⟨w1.heap.size + 1, j, none⟩ = some (.int .i64 (r.get j)) := (blk_cell hK.out j).trans (r.c j hj.1 hj.2)
    have fj := blk_frozen hK.out j
    have hwi := Aside0.mk (fieldOff_within hfo)
    have hfo' := Aside0.mk hfo
    clear hfo
    by_cases h1 : r.get j < 0
    ·go_wp2_with fail
     refine (field_some _ _ _ _ hfo'.out).mono ?_
     rintro e w' ⟨rfl, rfl⟩
     go_wp2
     go_ret
     exact ⟨congrArg (fun b => Ending.returned (.bool b)) (fin_none hF.out hst.out (hst'.out.trans (if_pos (.inl h1)))).symm, hB.out⟩
    ·by_cases h2 : 7 < r.get j
     ·go_wp2_with fail
      refine (field_some _ _ _ _ hfo'.out).mono ?_
      rintro e w' ⟨rfl, rfl⟩
      go_wp2
      go_ret
      exact ⟨congrArg (fun b => Ending.returned (.bool b)) (fin_none hF.out hst.out (hst'.out.trans (if_pos (.inr h2)))).symm, hB.out⟩
     ·go_wp2_with fail
      refine (field_some _ _ _ _ hfo'.out).mono ?_
      rintro e w' ⟨rfl, rfl⟩
      go_wp2_with fail
      refine (within_calls _ _ _ _ _ hwi.out).mono ?_
      rintro e w' ⟨rfl, rfl⟩
      go_wp2
      go_roundw
      case rel => exact ⟨kk + 1, r.put 0 j, by go_num, by omega, In.wk_put hwr _ _, ⟨by have := blk_set hK.out j (.int .i64 0); rw [In.cs_put _ _ _ hj.1 hj.2] at this; exact this⟩, ⟨reads_far hR.out (by simp) _⟩, ⟨hB.out.setCell (by simp; omega) _⟩, ⟨fin_some hF.out hst.out (hst'.out.trans (if_neg (by omega)))⟩, ⟨by simpa using hZ.out⟩⟩
      case measure => simp [intOf]; omega
   | none =>
    have c3 : wr.cell? ⟨w1.heap.size + 1, 3, none⟩ = some (.int .i64 r.t) := (blk_cell hK.out 3).trans rfl
    have c6 : wr.cell? ⟨w1.heap.size + 1, 6, none⟩ = some (.int .u32 r.k) := (blk_cell hK.out 6).trans rfl
    have c7 : wr.cell? ⟨w1.heap.size + 1, 7, none⟩ = some (.int .i64 r.q) := (blk_cell hK.out 7).trans rfl
    have f3 := blk_frozen hK.out 3
    have f6 := blk_frozen hK.out 6
    have f7 := blk_frozen hK.out 7
    have hfo' := Aside0.mk hfo
    clear hfo
    by_cases h87 : sg = 87
    ·subst h87
     have hst' := Aside0.mk (stepR_W (places := places) (r := r))
     have hwi := Aside0.mk (show within 87 = (0, 1, true) from rfl)
     have hk0 : ¬ r.k < 0 := by have := hwr.1; omega
     by_cases hk2 : 1 < r.k
     ·go_wp2_with fail
      refine (field_none _ _ _ hfo'.out).mono ?_
      rintro e w' ⟨rfl, rfl⟩
      go_wp2_with fail
      refine (within_calls _ _ _ _ _ hwi.out).mono ?_
      rintro e w' ⟨rfl, rfl⟩

      go_wp2
      go_ret
      exact ⟨congrArg (fun b => Ending.returned (.bool b)) (fin_none hF.out hst.out (hst'.out.trans (if_pos hk2))).symm, hB.out⟩
     by_cases ht1 : r.t < 0
     ·go_wp2_with fail
      refine (field_none _ _ _ hfo'.out).mono ?_
      rintro e w' ⟨rfl, rfl⟩
      go_wp2_with fail
      refine (within_calls _ _ _ _ _ hwi.out).mono ?_
      rintro e w' ⟨rfl, rfl⟩
      go_wp2_with fail
      refine (field_some _ _ _ _ (show fieldOff 84 = some 3 from rfl)).mono ?_
      rintro e w' ⟨rfl, rfl⟩
      go_wp2
      go_ret
      exact ⟨congrArg (fun b => Ending.returned (.bool b)) (fin_none hF.out hst.out (hst'.out.trans ((if_neg (by omega)).trans (if_pos (.inl ht1))))).symm, hB.out.setCell (by simp; omega) _⟩
     by_cases ht2 : 7 < r.t
     ·go_wp2_with fail
      refine (field_none _ _ _ hfo'.out).mono ?_
      rintro e w' ⟨rfl, rfl⟩
      go_wp2_with fail
      refine (within_calls _ _ _ _ _ hwi.out).mono ?_
      rintro e w' ⟨rfl, rfl⟩
      go_wp2_with fail
      refine (field_some _ _ _ _ (show fieldOff 84 = some 3 from rfl)).mono ?_
      rintro e w' ⟨rfl, rfl⟩
      go_wp2
      go_ret
      exact ⟨congrArg (fun b => Ending.returned (.bool b)) (fin_none hF.out hst.out (hst'.out.trans ((if_neg (by omega)).trans (if_pos (.inr (.inl ht2)))))).symm, hB.out.setCell (by simp; omega) _⟩
     by_cases hq1 : r.q < -1
     ·go_wp2_with fail
      refine (field_none _ _ _ hfo'.out).mono ?_
      rintro e w' ⟨rfl, rfl⟩
      go_wp2_with fail
      refine (within_calls _ _ _ _ _ hwi.out).mono ?_
      rintro e w' ⟨rfl, rfl⟩
      go_wp2_with fail
      refine (field_some _ _ _ _ (show fieldOff 84 = some 3 from rfl)).mono ?_
      rintro e w' ⟨rfl, rfl⟩
      go_wp2
      go_ret
      exact ⟨congrArg (fun b => Ending.returned (.bool b)) (fin_none hF.out hst.out (hst'.out.trans ((if_neg (by omega)).trans (if_pos (.inr (.inr (.inl hq1))))))).symm, hB.out.setCell (by simp; omega) _⟩
     by_cases hq2 : r.q = -1
     ·have hq2b : (r.q != -1) = false := bne_eq_false_iff_eq.2 hq2
      have hq2 := Aside0.mk hq2
      go_wp2_with fail
      refine (field_none _ _ _ hfo'.out).mono ?_
      rintro e w' ⟨rfl, rfl⟩
      go_wp2_with fail
      refine (within_calls _ _ _ _ _ hwi.out).mono ?_
      rintro e w' ⟨rfl, rfl⟩
      go_wp2_with fail
      refine (field_some _ _ _ _ (show fieldOff 84 = some 3 from rfl)).mono ?_
      rintro e w' ⟨rfl, rfl⟩
      go_wp2
      go_roundw
      case rel => exact ⟨kk + 1, { r with k := 0, t := 0, q := 0 }, by go_num, by omega, ⟨by simp, by simp⟩, ⟨blk_set (blk_set (blk_set (hK.out) 6 (.int .u32 0)) 3 (.int .i64 0)) 7 (.int .i64 0)⟩, ⟨reads_far (reads_far (reads_far (hR.out) (by simp) _) (by simp) _) (by simp) _⟩, ⟨(((hB.out).setCell (by simp; omega) _).setCell (by simp; omega) _).setCell (by simp; omega) _⟩, ⟨fin_some hF.out hst.out (hst'.out.trans ((if_neg (by omega)).trans (if_neg (by have := hq2.out; omega))))⟩, ⟨by simpa using hZ.out⟩⟩
      case measure => simp [intOf]; omega
     ·have hq2b : (r.q != -1) = true := bne_iff_ne.2 hq2
      by_cases hq3 : places ≤ r.q
      ·go_wp2_with fail
       refine (field_none _ _ _ hfo'.out).mono ?_
       rintro e w' ⟨rfl, rfl⟩
       go_wp2_with fail
       refine (within_calls _ _ _ _ _ hwi.out).mono ?_
       rintro e w' ⟨rfl, rfl⟩
       go_wp2_with fail
       refine (field_some _ _ _ _ (show fieldOff 84 = some 3 from rfl)).mono ?_
       rintro e w' ⟨rfl, rfl⟩
       go_wp2
       go_ret
       exact ⟨congrArg (fun b => Ending.returned (.bool b)) (fin_none hF.out hst.out (hst'.out.trans ((if_neg (by omega)).trans (if_pos (.inr (.inr (.inr ⟨hq2, hq3⟩))))))).symm, hB.out.setCell (by simp; omega) _⟩
      ·go_wp2_with fail
       refine (field_none _ _ _ hfo'.out).mono ?_
       rintro e w' ⟨rfl, rfl⟩
       go_wp2_with fail
       refine (within_calls _ _ _ _ _ hwi.out).mono ?_
       rintro e w' ⟨rfl, rfl⟩
       go_wp2_with fail
       refine (field_some _ _ _ _ (show fieldOff 84 = some 3 from rfl)).mono ?_
       rintro e w' ⟨rfl, rfl⟩
       go_wp2
       go_roundw
       case rel => exact ⟨kk + 1, { r with k := 0, t := 0, q := 0 }, by go_num, by omega, ⟨by simp, by simp⟩, ⟨blk_set (blk_set (blk_set (hK.out) 6 (.int .u32 0)) 3 (.int .i64 0)) 7 (.int .i64 0)⟩, ⟨reads_far (reads_far (reads_far (hR.out) (by simp) _) (by simp) _) (by simp) _⟩, ⟨(((hB.out).setCell (by simp; omega) _).setCell (by simp; omega) _).setCell (by simp; omega) _⟩, ⟨fin_some hF.out hst.out (hst'.out.trans ((if_neg (by omega)).trans (if_neg (by omega))))⟩, ⟨by simpa using hZ.out⟩⟩
       case measure => simp [intOf]; omega
    ·by_cases h80 : sg = 80
     ·subst h80
      have hst' := Aside0.mk (stepR_P (places := places) (r := r))
      have hwi := Aside0.mk (show within 80 = (0, 0, false) from rfl)
      by_cases hq1 : r.q < 0
      ·go_wp2_with fail
       refine (field_none _ _ _ hfo'.out).mono ?_
       rintro e w' ⟨rfl, rfl⟩
       go_wp2_with fail
       refine (within_calls _ _ _ _ _ hwi.out).mono ?_
       rintro e w' ⟨rfl, rfl⟩

       go_wp2
       go_ret
       exact ⟨congrArg (fun b => Ending.returned (.bool b)) (fin_none hF.out hst.out (hst'.out.trans (if_pos (.inl hq1)))).symm, hB.out⟩
      ·by_cases hq2 : places ≤ r.q
       ·go_wp2_with fail
        refine (field_none _ _ _ hfo'.out).mono ?_
        rintro e w' ⟨rfl, rfl⟩
        go_wp2_with fail
        refine (within_calls _ _ _ _ _ hwi.out).mono ?_
        rintro e w' ⟨rfl, rfl⟩

        go_wp2
        go_ret
        exact ⟨congrArg (fun b => Ending.returned (.bool b)) (fin_none hF.out hst.out (hst'.out.trans (if_pos (.inr hq2)))).symm, hB.out⟩
       ·go_wp2_with fail
        refine (field_none _ _ _ hfo'.out).mono ?_
        rintro e w' ⟨rfl, rfl⟩
        go_wp2_with fail
        refine (within_calls _ _ _ _ _ hwi.out).mono ?_
        rintro e w' ⟨rfl, rfl⟩

        go_wp2
        go_roundw
        case rel => exact ⟨kk + 1, { r with q := 0 }, by go_num, by omega, hwr, ⟨blk_set (hK.out) 7 (.int .i64 0)⟩, ⟨reads_far (hR.out) (by simp) _⟩, ⟨(hB.out).setCell (by simp; omega) _⟩, ⟨fin_some hF.out hst.out (hst'.out.trans (if_neg (by omega)))⟩, ⟨by simpa using hZ.out⟩⟩
        case measure => simp [intOf]; omega
     ·obtain ⟨lo, hi, b, hwi⟩ : ∃ lo hi b, within sg = (lo, hi, b) := ⟨_, _, _, rfl⟩
      cases b with
      | true =>
       obtain ⟨_, n87, n80, hst'⟩ := stepR_k (places := places) (r := r) hwi hwr h87
       have hst' := Aside0.mk hst'
       have hwi := Aside0.mk hwi
       by_cases hk1 : r.k < lo
       ·go_wp2_with fail
        refine (field_none _ _ _ hfo'.out).mono ?_
        rintro e w' ⟨rfl, rfl⟩
        go_wp2_with fail
        refine (within_calls _ _ _ _ _ hwi.out).mono ?_
        rintro e w' ⟨rfl, rfl⟩

        go_wp2
        go_ret
        exact ⟨congrArg (fun b => Ending.returned (.bool b)) (fin_none hF.out hst.out (hst'.out.trans (if_pos (.inl hk1)))).symm, hB.out⟩
       ·by_cases hk2 : hi < r.k
        ·go_wp2_with fail
         refine (field_none _ _ _ hfo'.out).mono ?_
         rintro e w' ⟨rfl, rfl⟩
         go_wp2_with fail
         refine (within_calls _ _ _ _ _ hwi.out).mono ?_
         rintro e w' ⟨rfl, rfl⟩

         go_wp2
         go_ret
         exact ⟨congrArg (fun b => Ending.returned (.bool b)) (fin_none hF.out hst.out (hst'.out.trans (if_pos (.inr hk2)))).symm, hB.out⟩
        ·go_wp2_with fail
         refine (field_none _ _ _ hfo'.out).mono ?_
         rintro e w' ⟨rfl, rfl⟩
         go_wp2_with fail
         refine (within_calls _ _ _ _ _ hwi.out).mono ?_
         rintro e w' ⟨rfl, rfl⟩

         go_wp2
         go_roundw
         case rel => exact ⟨kk + 1, { r with k := 0 }, by go_num, by omega, ⟨by simp, by simp⟩, ⟨blk_set (hK.out) 6 (.int .u32 0)⟩, ⟨reads_far (hR.out) (by simp) _⟩, ⟨(hB.out).setCell (by simp; omega) _⟩, ⟨fin_some hF.out hst.out (hst'.out.trans (if_neg (by omega)))⟩, ⟨by simpa using hZ.out⟩⟩
         case measure => simp [intOf]; omega
      | false =>
       obtain ⟨hst', rfl, rfl, _⟩ := stepR_other (places := places) (r := r) hfo'.out hwi h80
       have hst' := Aside0.mk hst'
       have hwi := Aside0.mk hwi
       have n87 : (sg == 87) = false := beq_eq_false_iff_ne.2 h87
       have n80 : (sg == 80) = false := beq_eq_false_iff_ne.2 h80
       go_wp2_with fail
       refine (field_none _ _ _ hfo'.out).mono ?_
       rintro e w' ⟨rfl, rfl⟩
       go_wp2_with fail
       refine (within_calls _ _ _ _ _ hwi.out).mono ?_
       rintro e w' ⟨rfl, rfl⟩
       go_wp2
       go_roundw
       case rel => exact ⟨kk + 1, r, by go_num, by omega, hwr, hK, hR, hB, ⟨fin_some hF.out hst.out hst'.out⟩, hZ⟩
       case measure => simp [intOf]; omega
  ·have hkl : kk = l.length := by omega
   have c0 : wr.cell? ⟨w1.heap.size + 1, 0, none⟩ = some (.int .i64 r.op) := (blk_cell hK.out 0).trans rfl
   have c1 : wr.cell? ⟨w1.heap.size + 1, 1, none⟩ = some (.int .i64 r.d) := (blk_cell hK.out 1).trans rfl
   have c2 : wr.cell? ⟨w1.heap.size + 1, 2, none⟩ = some (.int .i64 r.s) := (blk_cell hK.out 2).trans rfl
   have c3 : wr.cell? ⟨w1.heap.size + 1, 3, none⟩ = some (.int .i64 r.t) := (blk_cell hK.out 3).trans rfl
   have c4 : wr.cell? ⟨w1.heap.size + 1, 4, none⟩ = some (.int .i64 r.u) := (blk_cell hK.out 4).trans rfl
   have c5 : wr.cell? ⟨w1.heap.size + 1, 5, none⟩ = some (.int .i64 r.a) := (blk_cell hK.out 5).trans rfl
   have c6 : wr.cell? ⟨w1.heap.size + 1, 6, none⟩ = some (.int .u32 r.k) := (blk_cell hK.out 6).trans rfl
   have c7 : wr.cell? ⟨w1.heap.size + 1, 7, none⟩ = some (.int .i64 r.q) := (blk_cell hK.out 7).trans rfl
   have hkl := Aside0.mk hkl
   go_wp2
   all_goals go_ret
   all_goals refine ⟨congrArg (fun b => Ending.returned (.bool b)) (fin_end hkl.out hF.out ?_), hB.out⟩
   all_goals (simp only [*]; simp)

set_option maxHeartbeats 400000 in
theorem right_none (op d s t u a k q places : Int) (w : World) (hn : opName op = []) :
  Calls Tryz.prog 58 #[.agg #[.int .i64 op, .int .i64 d, .int .i64 s, .int .i64 t, .int .i64 u, .int .i64 a, .int .u32 k, .int .i64 q], .int .i64 places] w fun e w' => e = .returned (.bool false) ∧ Below w.heap.size w w' := by
 have HN := Aside0.mk hn
 clear hn
 go_enter Tryz.func58, Tryz.ntmps58
 go_wp2_with fail
 refine (of_calls _ _).mono ?_
 rintro e w1 ⟨rfl, hb⟩
 rw [HN.out]
 have z : w.heap.size < w1.heap.size := blk_lt (blk_keep hb (blk_new w _))
 go_wp2
 go_ret
 exact ⟨rfl, (((Below.refl w.heap.size w).alloc (Nat.le_refl _) _).trans (hb.mono (by simp))).alloc (Nat.le_of_lt z) _⟩

/-- Right of any instruction. -/
theorem right_calls (i : In) (places : Int) (hwk : i.wk) (w : World) :
  Calls Tryz.prog 58 #[i.v, .int .i64 places] w fun e w' => e = .returned (.bool (rightF i places)) ∧ Below w.heap.size w w' := by
 cases i with
 | mk op d s t u a k q =>
  by_cases h : opName op = []
  ·have e : rightF ⟨op, d, s, t, u, a, k, q⟩ places = false := by unfold rightF; rw [if_pos h]
   rw [e]
   exact right_none op d s t u a k q places w h
  ·exact right_some op d s t u a k q places hwk w h
end Go.Proofs.YtbhpkeiofajbpaaGreatDoor
end
/- A struct of eight one-cell fields, by value: opened and shut (after the guide's for six); an instruction as an argument. -/
section
namespace Go.Proofs.YtbhpkeiofajbpaaGreatDoor
open Go Go.Deep Go.Joins Go.ChangeShapes Go.WideShapes Go.ChangeAt Go.RowKit
set_option linter.unusedVariables false

end Go.Proofs.YtbhpkeiofajbpaaGreatDoor
end
/- What a row's list of package-level variables gives the walks: the table of powers, the two errors; and a world that meets it. -/
section
namespace Go.Proofs.YtbhpkeiofajbpaaGreatDoor
open Go Go.ChangeShapes Go.WideShapes Go.ChangeAt Go.RowKit

theorem own : ownKnob Tryz.prog.godebug = none := by kernel_rfl
theorem gPow : Tryz.prog.globalNamed "internal/strconv.uint64pow10" = some 3 := by kernel_rfl
theorem gSyn : Tryz.prog.globalNamed "strconv.ErrSyntax" = some 6 := by kernel_rfl
theorem gRng : Tryz.prog.globalNamed "strconv.ErrRange" = some 7 := by kernel_rfl
theorem tPow : (Tryz.prog.globals[3]?).map (·.type) = some 226 := by kernel_rfl
theorem tSyn : (Tryz.prog.globals[6]?).map (·.type) = some 130 := by kernel_rfl
theorem tRng : (Tryz.prog.globals[7]?).map (·.type) = some 130 := by kernel_rfl
theorem c64 : Tryz.prog.cellsOf 199 = 1 := by kernel_rfl
theorem c20 : Tryz.prog.cellsOf 226 = 20 := by kernel_rfl
theorem starErr : "*" ++ "errors.errorString" = "*errors.errorString" := by decide +kernel
theorem rowErr (u : TypeId) (h : Tryz.prog.typeName? 3 u = some "*errors.errorString") : u = 249 :=
 typeName_ptr_named (nm := "errors.errorString") (by rw [starErr]; kernel_rfl) (by kernel_rfl) (by decide) u (by rw [starErr]; exact h)
def laidList : List (String × DataW Unit) := Rows.ticketPlaysRow.laid

theorem env_of {W : World} (h : laidMetH Tryz.prog laidList W) (hs : W.ShapedOpen Tryz.prog) : Env W := by
 rw [MakeChecks.laidMetH_plain _ _ _ (by kernel_rfl)] at h
 have h2 := h.tail.tail
 have h4 := h2.tail.tail
 have h5 := h4.tail
 obtain ⟨a1, s1, hv1, _⟩ := laid_sentinel h4 gRng tRng Tryz.underlying130 rowErr Tryz.underlying249 Tryz.underlying251 rfl rfl Tryz.underlying9 (by kernel_rfl) (by kernel_rfl)
 obtain ⟨a2, s2, hv2, _⟩ := laid_sentinel h5 gSyn tSyn Tryz.underlying130 rowErr Tryz.underlying249 Tryz.underlying251 rfl rfl Tryz.underlying9 (by kernel_rfl) (by kernel_rfl)
 exact ⟨hs, Lib.tabIs_of_head (zs := Lib.pow10Tab) gPow tPow Tryz.underlying226 Tryz.underlying199 c64 c20 h2, ⟨_, _, hv2⟩, ⟨_, _, hv1⟩⟩

/-- A WORLD FOR THE WITNESS: the heap that the door's own run leaves, and the pinned table. -/
noncomputable def laidWorld (os : Os) : World :=
 { World.doorLaid Tryz.prog 72 os with heap := (World.doorLaid Tryz.prog 72 os).heap.modify 1 fun
   | .cells _ t frozen => .cells (Lib.firstTab.map (Value.int .u8)).toArray t frozen
   | o => o }
theorem laid_met (os : Os) (args : Array Value) : laidMetH Tryz.prog laidList ((laidWorld os).forCall (fun _ _ => 0) ⟨#[], args, []⟩).memory :=
 laidMetH_of_parts3 (fuel := 8) (laidMet_of_run' 8 (by kernel_rfl) (by kernel_rfl)) (by kernel_rfl) (by kernel_rfl)

/-- A law's end: what was there is as it was; the arguments read as they did. -/
theorem law_post {H : Type} {enc : TypeId × Value → H} {P : Program} {f : Func} {s : ChangeSpec} {W W' : World} {args : Array Value} {ds gs : List (DataW H)} {before pa : List MemPlace} {v : Value}
  (hW : DataW.Whole enc P f.params.toList s.vars false W args.toList ds gs before) (hb : Below W.heap.size W W')
  (hres : ∀ (b : Nat) (sp : Nat → Bool) (hd : Bool), DataW.TrodAll enc P W' b sp hd f.resultTypes.toList (v.resultList f.resultTypes.size) (s.fn H (ds ++ gs)).results [])
  (hargs : DataW.TrodAll enc P W' 0 (fun b => decide (b < W.heap.size)) true f.params.toList args.toList (s.fn H (ds ++ gs)).args pa)
  (hvars : ∀ sp : Nat → Bool, DataW.TrodVars enc P W' sp s.vars (s.fn H (ds ++ gs)).vars []) :
  s.post enc P f false true false false W args v W' :=
 ⟨ds, gs, before, [], pa, [], hW, hres _ _ _, hargs, hvars _, hb.frame _, fun h => by cases h⟩
end Go.Proofs.YtbhpkeiofajbpaaGreatDoor
end

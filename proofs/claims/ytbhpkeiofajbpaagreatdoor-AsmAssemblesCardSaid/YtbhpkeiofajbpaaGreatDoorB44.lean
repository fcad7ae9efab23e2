/- Parts: RefAsm. -/
import Derived.Test.YtbhpkeiofajbpaaGreatDoorB28
import Derived.Test.YtbhpkeiofajbpaaGreatDoorB43
import Derived.Deep.RegionHeld3
/- ropelineref07.Assemble: the walk. -/
namespace Go.Proofs.YtbhpkeiofajbpaaGreatDoor
open Go.RowKit Go.Proofs.YtbhpkeiofajbpaaGreatDoorW.PrintWords
set_option linter.unusedVariables false
set_option linter.unusedSimpArgs false

/-- What Assemble answers. -/
def REnd (w : World) (fin : Pg × Int × Int) (e : Ending) (w' : World) : Prop :=
 ∃ v, e = .returned (.tuple #[.agg #[v, .int .i64 fin.1.lock, .int .i64 fin.1.unlock], .int .i64 fin.2.1, .int .i64 fin.2.2]) ∧ RfRow w' w.heap.size v fin.1.l ∧ Below w.heap.size w w'
theorem rasm_ret (w : World) (fin : Pg × Int × Int) (a : Act) (W : World) (v : Value) (hd : a.defers = [])
  (h2 : a.tmps.getD 2 undef = .pointer (some ⟨w.heap.size, 0, none⟩)) (h3 : a.tmps.getD 3 undef = .int .i64 fin.2.1) (h4 : a.tmps.getD 4 undef = .int .i64 fin.2.2)
  (c2 : W.heap[w.heap.size]? = some (.cells #[v, .int .i64 fin.1.lock, .int .i64 fin.1.unlock] 26 (0, 0))) (hr : RfRow W w.heap.size v fin.1.l) (hb : Below w.heap.size w W) :
  bodyPost Tryz.prog Tryz.f26 (REnd w fin) .ret a W :=
 bodyPost_ret (results_ctt rfl _ _ w.heap.size _ #[v, .int .i64 fin.1.lock, .int .i64 fin.1.unlock] (0, 0) _ h2 c2 Tryz.underlying26 rfl (by kernel_rfl)) hd ⟨v, by rw [h3, h4], hr, hb⟩
section
variable {ops : Array Oper} {rest : List Oper} {o : Oper} {a : Act} {Q : Exit → Act → World → Prop} {W : World}
theorem app_rf (hgd : o.guard = none) (s x : Operand) (ho : o.op = .call { callee := .builtin .append, args := #[s, x], argTypes := #[24, 24] })
  (base g : Nat) (y : In) (v : Value) (xs : List In) (hs : a.eval s = v) (hr : RfRow W base v xs) (hx : a.eval x = .slice (some ⟨g, 0, none⟩) 1 1)
  (hy : W.heap[g]? = some (.cells y.cs 114 (0, 0))) (hl : xs.length ≤ 1000000) (hb : base ≤ W.heap.size)
  (h : ∀ v' W1, RfRow W1 base v' (xs ++ [y]) → W.grownBy W1 v.ownBlock → wpList Tryz.prog ops Q rest (a.put o.dst v') W1) :
  wpList Tryz.prog ops Q (o :: rest) a W := by
 obtain ⟨i9, hi, hz0, hz1, hz2⟩ := info_parts info_rf
 refine wpList_append_own_at _ hgd s x 24 ho base 114 i9 (.agg In.zero.cs) 8 64 Tryz.underlying24 hi hz0 hz1 hz2 rfl (by decide) v xs.length (inCells xs) hs hr ⟨g, 0, none⟩ 1 1 y.cs.toList hx rfl ?_ ?_ ?_ ?_ hb ?_
 ·intro j u hj
  rw [add_plain]
  exact (blk_cell hy j).trans (by simpa using hj)
 ·intro u hu
  have : u ∈ y.cs.toList := hu
  simp [In.cs] at this
  rcases this with rfl | rfl | rfl | rfl | rfl | rfl | rfl | rfl <;> rfl
 ·simp [maxLen]; omega
 ·omega
 ·intro v' W1 h1 h2 _ h4
  refine h v' W1 ?_ h2
  unfold RfRow
  rw [inCells_snoc, List.length_append]
  exact h1
end
theorem idx_str (l : List UInt8) (i : Nat) (hi : i < l.length) (W : World) : (Instr.index 9 (.string ⟨l.toArray⟩) (.int .i64 (i : Int))).run Tryz.prog W = .ok (.int .u8 ((l.getD i 0).toNat : Int)) W := by
 rw [run_index_string W 9 _ .i64 i Tryz.underlying9, dif_pos ⟨by omega, by simp [ByteArray.size]; omega⟩]
 have : (⟨l.toArray⟩ : ByteArray)[(i : Int).toNat]'(by simp [ByteArray.size]; omega) = l.getD i 0 := by
  simp [List.getD_eq_getElem?_getD, List.getElem?_eq_getElem hi]; rfl
 rw [this]
theorem sl_str (l : List UInt8) (f i : Nat) (hf : f ≤ i) (hi : i ≤ l.length) (W : World) : (Instr.slice 9 (.string ⟨l.toArray⟩) (some (.int .i64 (f : Int))) (some (.int .i64 (i : Int))) none).run Tryz.prog W = .ok (.string ⟨((l.drop f).take (i - f)).toArray⟩) W := by
 have hz : (⟨l.toArray⟩ : ByteArray).size = l.length := by simp [ByteArray.size]
 rw [run_slice_string W 9 ⟨l.toArray⟩ .i64 .i64 (f : Int) (i : Int) Tryz.underlying9 (by omega) (by omega) (by rw [hz]; omega), ext_mk]
 rfl

set_option maxHeartbeats 16000000 in
set_option maxRecDepth 100000 in
theorem rasm_calls (t : List UInt8) (w : World) (ht : t.length ≤ 90000) : Calls Tryz.prog 26 #[.string ⟨t.toArray⟩] w (REnd w (rasmF t)) := by
 obtain ⟨fin, hA⟩ : ∃ fin, rasmF t = fin := ⟨_, rfl⟩
 rw [hA]
 have hstop : ∀ {x : Src} {n e : Int}, rallF (linesF t) 0 Src.zero = (x, n, e) → e ≠ 0 → fin = (Pg.zero, n, e) := fun h he => hA.symm.trans (rasm_stop h he)
 replace hstop := Aside0.mk (@hstop)
 replace hA := Aside0.mk hA
 have hR0 := RX.start w
 obtain ⟨W0, hW0⟩ : ∃ x, ((w.alloc (.cells #[.slice none 0 0, .int .i64 0, .int .i64 0] 26)).alloc (.cells #[.slice none 0 0, .int .i64 0, .int .i64 0] 26)) = x := ⟨_, rfl⟩
 rw [hW0] at hR0
 replace hR0 := Aside0.mk hR0
 go_enter Tryz.func26, Tryz.ntmps26
 have hQ := Aside0.mk (fun a W v => rasm_ret w fin a W v)
 go_wp2_with fail
 try rw [hW0]
 try simp only [Nat.add_assoc, Nat.reduceAdd]
 go_loopw [6, 7, 8, 9, 10, 11] (fun v6 v7 v8 v9 v10 v11 wr => ∃ (f n i : Nat) (x : Src) (v0 : Value), v9 = .int .i64 (f : Int) ∧ v10 = .int .i64 (n : Int) ∧ v11 = .int .i64 (i : Int) ∧ i ≤ t.length ∧ f ≤ i ∧ n ≤ i ∧
  Aside0 (rallF (linesF t) 0 Src.zero = rallF (linesF (t.drop f)) n x) ∧ Aside0 ((10 : UInt8) ∉ (t.drop f).take (i - f)) ∧ Aside0 (SrcOk x n) ∧ Aside0 (RX w wr w.heap.size v0 v6 v7 v8 x.l x.names x.rows x.labels)) (fun _ _ _ _ _ v11 _ => t.length - (intOf v11).toNat)
 case atStart => exact ⟨0, 0, 0, Src.zero, _, rfl, rfl, rfl, Nat.zero_le _, Nat.le_refl _, Nat.le_refl _, ⟨rfl⟩, ⟨by simp⟩, ⟨⟨rfl, rfl, by simp [Src.zero], Nat.le_refl _, fun s h => by cases h⟩⟩, hR0⟩
 case round =>
  clear hR0 hW0
  obtain ⟨f, n, i, x, v0, rfl, rfl, rfl, hi, hfi, hni, hF, hno, hok, hR⟩ := hrel
  by_cases hlt : i < t.length
  ·have hix := fun W => idx_str t i hlt W
   have hi0 : (0 : Int) ≤ (i : Int) := by omega
   have hi1 : (i : Int) < (t.length : Int) := by omega
   have hiw : IntKind.i64.wrap ((i : Int) + 1) = (i : Int) + 1 := by rw [IntKind.wrap_i64]; omega
   by_cases h10 : t.getD i 0 = 10
   ·have hb : (t.getD i 0).toNat = 10 := by rw [h10]; rfl
    rw [hb] at hix
    have hline := rall_line (n := (n : Int)) (x := x) hlt hfi h10 hno.out
    rw [← hF.out] at hline
    have hsl := fun W => sl_str t f i hfi hi W
    have hs1 : ((t.drop f).take (i - f)).length ≤ 90000 := by rw [List.length_take, List.length_drop]; omega
    have hf0 : (0 : Int) ≤ (f : Int) := by omega
    have hf1 : (f : Int) ≤ (i : Int) := by omega
    have hi2 : (i : Int) ≤ (t.length : Int) := by omega
    have hnw : IntKind.i64.wrap ((n : Int) + 1) = (n : Int) + 1 := by rw [IntKind.wrap_i64]; omega
    generalize (t.drop f).take (i - f) = s at *
    have hstep := Aside0.mk (rstep_ok hok.out s ((n : Int) + 1))
    have hdone : ∀ {x' : Src}, rstepF x s ((n : Int) + 1) = (x', 0) → rallF (linesF t) 0 Src.zero = rallF (linesF (t.drop (i + 1))) ((n + 1 : Nat) : Int) x' := fun h => by rw [hline, h, if_pos rfl]; rfl
    have hbad : ∀ {x' : Src} {e : Int}, rstepF x s ((n : Int) + 1) = (x', e) → e ≠ 0 → fin = (Pg.zero, (n : Int) + 1, e) := fun h he => hstop.out (hline.trans (by rw [h, if_neg he])) he
    replace hdone := Aside0.mk (@hdone)
    replace hbad := Aside0.mk (@hbad)
    clear hF hno h10 hb hline
    obtain ⟨dd, hdd⟩ : ∃ D, decide (s.getLast? = some 58 ∧ nameB s.dropLast = true) = D := ⟨_, rfl⟩
    replace hdd := Aside0.mk hdd
    go_upto_region 13 with fail
    go_cut [55] (fun v wx => v = .bool dd ∧ Aside0 (RX w wx w.heap.size v0 u6 u7 u8 x.l x.names x.rows x.labels))
    case first =>
     clear hix hsl
     by_cases hs0 : 0 < s.length
     ·obtain ⟨q, hq⟩ : ∃ q, s.length = q + 1 := ⟨s.length - 1, by omega⟩
      have hs0' : (0 : Int) < (s.length : Int) := by omega
      have hlw : IntKind.i64.wrap ((s.length : Int) - 1) = (q : Int) := by rw [IntKind.wrap_i64]; omega
      have hil := fun W => idx_str s q (by omega) W
      have hq0 : (0 : Int) ≤ (q : Int) := by omega
      have hq1 : (q : Int) < (s.length : Int) := by omega
      have hq2 : (q : Int) ≤ (s.length : Int) := by omega
      have hgl := last_at s q hq
      have hs2 := fun W => sl_head s q hq W
      have he2 := ext_head s q hq
      have CN := Aside0.mk (fun W => rname_calls s.dropLast W (by simp; omega))
      replace hdd := hdd.out
      rw [hgl] at hdd
      generalize nameB s.dropLast = nb at *
      generalize s.dropLast = sd at *
      clear hgl
      replace hq := Aside0.mk hq
      by_cases hc : s.getD q 0 = 58
      ·have hb : (s.getD q 0).toNat = 58 := by rw [hc]; rfl
       rw [hb] at hil
       rw [hc] at hdd
       have hdn : dd = nb := by rw [← hdd]; cases nb <;> simp
       subst hdn
       clear hb hc hdd
       go_wp2_with fail
       refine (CN.out _).mono ?_
       rintro e w2 ⟨rfl, hb2⟩
       go_wp2
       go_meet
       exact ⟨rfl, ⟨hR.out.keep hb2⟩⟩
      ·have hb : ¬ (s.getD q 0).toNat = 58 := fun e => hc (UInt8.toNat_inj.1 (by rw [e]; rfl))
       rw [decide_eq_false (fun h => hc (Option.some.inj h.1))] at hdd
       subst hdd
       clear hc
       generalize (s.getD q 0).toNat = c at *
       have hb1 : ¬ (c : Int) = 58 := by omega
       have hb2 : ((c : Int) == 58) = false := beq_eq_false_iff_ne.2 hb1
       go_wp2
       go_meet
       exact ⟨rfl, hR⟩
     ·have hs00 : s = [] := List.length_eq_zero_iff.1 (by omega)
      subst hs00
      have hd0 : dd = false := by rw [← hdd.out]; simp
      subst hd0
      go_wp2
      go_meet
      exact ⟨rfl, hR⟩
    case rest =>
     obtain ⟨rfl, hR⟩ := hcut
     by_cases hlab : s.getLast? = some 58 ∧ nameB s.dropLast = true
     ·have hd1 : dd = true := by rw [← hdd.out]; exact decide_eq_true hlab
      subst hd1
      clear hdd
      have hst : rstepF x s ((n : Int) + 1) = if rhasF x.labels s.dropLast = true then (x, 2) else ({ x with labels := x.labels ++ [(s.dropLast, x.l.length)] }, 0) := by
       unfold rstepF; rw [if_pos hlab]
      obtain ⟨q, hq⟩ : ∃ q, s.length = q + 1 := ⟨s.length - 1, by
       have : s ≠ [] := fun e => by rw [e] at hlab; simp at hlab
       have := List.length_pos_iff.2 this
       omega⟩
      have hlw : IntKind.i64.wrap ((s.length : Int) - 1) = (q : Int) := by rw [IntKind.wrap_i64]; omega
      have hq0 : (0 : Int) ≤ (q : Int) := by omega
      have hq2 : (q : Int) ≤ (s.length : Int) := by omega
      have hs2 := fun W => sl_head s q hq W
      have he2 := ext_head s q hq
      generalize s.dropLast = sd at *
      replace hq := Aside0.mk hq
      obtain ⟨A, c, rfl⟩ := own_slice_n hR.out.q3
      obtain ⟨A0, c0, rfl⟩ := own_slice_n hR.out.q0
      obtain ⟨m, hm⟩ : ∃ m, x.labels.length = m := ⟨_, rfl⟩
      have hm9 : m ≤ 90000 := by have := hok.out.b; omega
      rw [hm] at hR
      replace hm := Aside0.mk hm
      replace hst := Aside0.mk hst
      clear hlab hix hsl
      rw [hm.out]
      go_wp2_with fail
      go_loopw [58] (fun v58 wr2 => ∃ k : Nat, v58 = .int .i64 (k : Int) ∧ k ≤ m ∧ Aside0 (∀ p ∈ x.labels.take k, p.1 ≠ sd) ∧ Aside0 (RX w wr2 w.heap.size (.slice A0 x.l.length c0) (.slice A m c) u7 u8 x.l x.names x.rows x.labels)) (fun v58 _ => m - (intOf v58).toNat)
      case atStart => exact ⟨0, rfl, Nat.zero_le _, ⟨fun p h => by cases h⟩, hR⟩
      case round =>
       obtain ⟨k, rfl, hk, hnone, hR⟩ := hrel
       by_cases hkm : k < m
       ·have hkx : k < x.labels.length := by rw [hm.out]; exact hkm
        have hq3 := hR.out.q3
        unfold LbRow at hq3
        obtain ⟨g, c', hv, hc, hg, _, hcell⟩ := own_rd hq3 (by omega)
        have hAg : A = some ⟨g, 0, none⟩ := by injection hv
        subst hAg
        obtain ⟨e1, e2⟩ := lbCells_at x.labels k hkx
        have c1 := hcell _ _ e1
        have c2 := hcell _ _ e2
        have hnext : (x.labels[k]'hkx).1 ≠ sd → ∀ p ∈ x.labels.take (k + 1), p.1 ≠ sd := fun h p hp => by
         rw [List.take_succ_eq_append_getElem hkx] at hp
         rcases List.mem_append.1 hp with hp | hp
         ·exact hnone.out p hp
         ·rw [List.mem_singleton.1 hp]; exact h
        have hhit : (x.labels[k]'hkx).1 = sd → rhasF x.labels sd = true := fun h => by
         unfold rhasF
         rw [List.any_eq_true]
         exact ⟨_, List.getElem_mem hkx, by simp [h]⟩
        generalize x.labels[k].1 = nm at c1 hnext hhit
        generalize x.labels[k].2 = pl at c2
        have hk0' : (0 : Int) ≤ (k : Int) := by omega
        have hk1 : (k : Int) < (m : Int) := by omega
        have hkw : IntKind.i64.wrap ((k : Int) + 1) = (k : Int) + 1 := by rw [IntKind.wrap_i64]; omega
        have hRa := hR.out.keep (below_drew (below_new wr (.cells #[.string ⟨nm.toArray⟩, .int .i64 (pl : Int)] 113)))
        have hbx := (blk_cell (blk_drew (blk_new wr (.cells #[.string ⟨nm.toArray⟩, .int .i64 (pl : Int)] 113))) 0).trans rfl
        replace hRa := Aside0.mk hRa
        replace hnext := Aside0.mk hnext
        replace hhit := Aside0.mk hhit
        clear hcell hv e1 e2 hR hq3 hnone hc
        go_wp2_with fail
        go_region_held3 (fun W => W.cell? ⟨wr.heap.size, 0, none⟩ = some (.string ⟨nm.toArray⟩)) (first | exact hbx) (first | fail)
        obtain ⟨W2, hW2⟩ : ∃ y, (wr.alloc (.cells #[.string ⟨nm.toArray⟩, .int .i64 (pl : Int)] 113)).drew = y := ⟨_, rfl⟩
        rw [hW2] at hRa
        try rw [hW2]
        clear hbx c1 c2
        by_cases hn : nm = sd
        ·have hfin := hbad.out (hst.out.trans (if_pos (hhit.out hn))) (by decide)
         have hqq : (nm == sd) = true := beq_iff_eq.2 hn
         rw [hqq]
         subst hfin
         obtain ⟨y0, y1, y2, y3, y4, y5, y6⟩ := hRa.out.facts
         clear hW2
         go_wp2
         obtain ⟨g1, g2⟩ := hRa.out.out3 (.slice none 0 0) (.int .i64 0) (.int .i64 0) _ rfl
         exact hQ.out _ _ _ rfl rfl rfl rfl g1 (.nil _ _) g2
        ·have hqq : (nm == sd) = false := beq_eq_false_iff_ne.2 hn
         rw [hqq]
         replace hnext := Aside0.mk (hnext.out hn)
         clear hW2
         go_wp2
         go_roundw
         case rel => exact ⟨k + 1, by go_num, hkm, hnext, hRa⟩
         case measure => simp [intOf]; omega
       ·obtain rfl : k = m := by omega
        have hge : ¬ (k : Int) < (k : Int) := by omega
        have hno : rhasF x.labels sd = false := by
         have h1 := hnone.out
         rw [← hm.out, List.take_length] at h1
         unfold rhasF
         rw [List.any_eq_false]
         intro p hp
         simpa using h1 p hp
        have hst2 := hst.out.trans (if_neg (by rw [hno]; simp))
        rw [hst2] at hstep
        replace hdone := Aside0.mk (hdone.out hst2)
        have hl64 : x.l.length ≤ 64 := hok.out.l
        have hS := hR.out.facts5.1
        clear hst2 hst hno hnone hbad
        go_wp2_with fail
        refine wp_region_late [10] (S := fun W => W.cell? ⟨w.heap.size + 1, 0, none⟩ = some (.slice A0 x.l.length c0)) (by kernel_rfl) hS (fun hS0 => ?_)
        have hR5 := hR.out.keep (below_drew (Below.refl _ _))
        clear hS
        obtain ⟨w5, hw5⟩ : ∃ y, wr.drew = y := ⟨_, rfl⟩
        rw [hw5] at hR5 hS0 ⊢
        clear hw5
        refine wpAnyL_takeY (i := 0) (v := ?_) (getw rfl) (by kernel_rfl) (fun _ _ _ h => h) (.inl ⟨by rfl, ?_⟩) (fun _ => by assumption) ?_
        rotate_left
        ·intro w; go_simp; try with_reducible rfl
        try simp only [Act.put, List.setIfInBounds_toArray, List.set_cons_zero, List.set_cons_succ]
        refine wpAnyL_takeY (i := 1) (v := ?_) (getw rfl) (by kernel_rfl) (fun _ _ _ h => h) (.inl ⟨by rfl, ?_⟩) (fun _ => by assumption) ?_
        rotate_left
        ·intro w; go_simp; try with_reducible rfl
        try simp only [Act.put, List.setIfInBounds_toArray, List.set_cons_zero, List.set_cons_succ]
        refine wpAnyL_takeY (i := 2) (v := ?_) (getw rfl) (by kernel_rfl) (fun _ _ _ h => h) (.inl ⟨by rfl, ?_⟩) (fun _ => by assumption) ?_
        rotate_left
        ·intro w; go_simp; try with_reducible rfl
        try simp only [Act.put, List.setIfInBounds_toArray, List.set_cons_zero, List.set_cons_succ]
        refine wpAnyL_takeY (i := 3) (v := ?_) (getw rfl) (by kernel_rfl) (fun _ _ _ h => h) (.inl ⟨by rfl, ?_⟩) (fun _ => by assumption) ?_
        rotate_left
        ·intro w; go_simp; try with_reducible rfl
        try simp only [Act.put, List.setIfInBounds_toArray, List.set_cons_zero, List.set_cons_succ]
        refine wpAnyL_takeY (i := 4) (v := ?_) (getw rfl) (by kernel_rfl) (fun _ _ _ h => h) (.inl ⟨by rfl, ?_⟩) (fun _ => by assumption) ?_
        rotate_left
        ·intro w; go_simp; try with_reducible rfl
        try simp only [Act.put, List.setIfInBounds_toArray, List.set_cons_zero, List.set_cons_succ]
        refine wpAnyL_takeY (i := 5) (v := ?_) (getw rfl) (by kernel_rfl) (fun _ _ _ h => h) (.inl ⟨by rfl, ?_⟩) (fun _ => by assumption) ?_
        rotate_left
        ·intro w; go_simp; try with_reducible rfl
        try simp only [Act.put, List.setIfInBounds_toArray, List.set_cons_zero, List.set_cons_succ]
        refine wpAnyL_takeY (i := 6) (v := ?_) (getw rfl) (by kernel_rfl) (fun _ _ _ h => h) (.inl ⟨by rfl, ?_⟩) (fun _ => by assumption) ?_
        rotate_left
        ·intro w; go_simp; try with_reducible rfl
        try simp only [Act.put, List.setIfInBounds_toArray, List.set_cons_zero, List.set_cons_succ]
        refine wpAnyL_take (i := 7) (v := ?_) (getw rfl) (by kernel_rfl) (fun _ _ _ h => h) (.inl ⟨by rfl, ?_⟩) (by assumption) ?_
        rotate_left
        ·intro w hSw; go_simp; try with_reducible rfl
        try simp only [Act.put, List.setIfInBounds_toArray, List.set_cons_zero, List.set_cons_succ]
        refine wpAnyL_takeY (i := 8) (v := ?_) (getw rfl) (by kernel_rfl) (fun _ _ _ h => h) (.inl ⟨by rfl, ?_⟩) (fun _ => by assumption) ?_
        rotate_left
        ·intro w; go_simp; try with_reducible rfl
        try simp only [Act.put, List.setIfInBounds_toArray, List.set_cons_zero, List.set_cons_succ]
        refine wpAnyL_takeY (i := 9) (v := ?_) (getw rfl) (by kernel_rfl) (fun _ _ _ h => h) (.inl ⟨by rfl, ?_⟩) (fun _ => by assumption) ?_
        rotate_left
        ·intro w; go_simp; try with_reducible rfl
        try simp only [Act.put, List.setIfInBounds_toArray, List.set_cons_zero, List.set_cons_succ]
        refine wpAnyL_ready (rs := [10]) (by kernel_rfl) (by simp) ?_
        refine AllReadyL.cons (getw rfl) (fun K hK => ?_) AllReadyL.nil
        refine step_blb rfl (.tmp 82) rfl sd x.l.length rfl (fun g10 w6 hb hy => ?_)
        have hR6 := hR5.keep hb
        refine hK.out _ _ (fun h => by cases h) (fun _ => ?_)
        try simp only [Act.put, List.setIfInBounds_toArray, List.set_cons_zero, List.set_cons_succ]
        refine wpAnyL_ready (rs := [11]) (by kernel_rfl) (by simp) ?_
        refine AllReadyL.cons (getw rfl) (fun K hK => ?_) AllReadyL.nil
        refine step_alb rfl (.tmp 73) (.tmp 83) rfl w.heap.size g10 (sd, x.l.length) _ x.labels rfl hR6.q3 rfl hy (by rw [hm.out]; omega) hR6.hz (fun u7' w7 hr hg ha => ?_)
        have hR7 := Aside0.mk (hR6.a3 hr hg)
        refine hK.out _ _ (fun h => by cases h) (fun _ => ?_)
        try simp only [Act.put, List.setIfInBounds_toArray, List.set_cons_zero, List.set_cons_succ]
        clear hR5 hR6 hb hy hr hg ha hS0
        refine wpAnyL_takeY (i := 12) (v := ?_) (getw rfl) (by kernel_rfl) (fun _ _ _ h => h) (.inl ⟨by rfl, ?_⟩) (fun h => by cases h) ?_
        rotate_left
        ·intro w; go_simp; try with_reducible rfl
        try simp only [Act.put, List.setIfInBounds_toArray, List.set_cons_zero, List.set_cons_succ]
        refine wpAnyL_done (by kernel_rfl) ?_ _
        go_wp2
        go_roundw
        case rel => exact ⟨i + 1, n + 1, i + 1, _, _, by go_num, by go_num, by go_num, by omega, Nat.le_refl _, by omega, hdone, ⟨by simp⟩, hstep, hR7⟩
        case measure => simp [intOf]; omega
     ·have hd1 : dd = false := by rw [← hdd.out]; exact decide_eq_false hlab
      subst hd1
      have hst : rstepF x s ((n : Int) + 1) = if (rlineF s).2.2 = false then (x, 8) else if 64 ≤ x.l.length then (x, 9) else ({ x with l := x.l ++ [(rlineF s).1], names := x.names ++ [(rlineF s).2.1], rows := x.rows ++ [(n : Int) + 1] }, 0) := by
       unfold rstepF; rw [if_neg hlab]
      have CL := fun W => rline_calls s W hs1
      generalize rlineF s = r at hst CL
      obtain ⟨⟨op, d, s', t', u, a, k, q⟩, nm, ok⟩ := r
      dsimp only at hst CL
      dsimp only [In.v] at CL
      replace CL := Aside0.mk CL
      replace hst := Aside0.mk hst
      obtain ⟨A0, c0, rfl⟩ := own_slice_n hR.out.q0
      clear hdd hix hsl hlab
      go_wp2_with fail
      refine (CL.out _).mono ?_
      rintro e w2 ⟨rfl, hb⟩
      have hR3 := (hR.out.keep hb).keep (below_new w2 (.cells (In.cs ⟨op, d, s', t', u, a, k, q⟩) 114))
      have hbx := blk_new w2 (.cells (In.cs ⟨op, d, s', t', u, a, k, q⟩) 114)
      obtain ⟨w3, hw3⟩ : ∃ y, w2.alloc (.cells (In.cs ⟨op, d, s', t', u, a, k, q⟩) 114) = y := ⟨_, rfl⟩
      obtain ⟨g3, hg3⟩ : ∃ y, w2.heap.size = y := ⟨_, rfl⟩
      rw [hw3] at hR3 hbx
      rw [hg3] at hbx
      simp only [In.cs] at hw3
      go_upto_region 22 with fail
      try rw [hw3]
      try rw [hg3]
      clear hw3 hg3 hR hb CL
      replace hR3 := Aside0.mk hR3
      replace hbx := Aside0.mk hbx
      obtain ⟨y0, y1, y2, y3, y4, y5, y6⟩ := hR3.out.facts
      obtain ⟨k0, k1, k2, k3, k4, k5, k6⟩ := hR3.out.facts5
      cases ok with
      | false =>
       have hfin := hbad.out (hst.out.trans (if_pos rfl)) (by decide)
       subst hfin
       go_wp2
       obtain ⟨g1, g2⟩ := hR3.out.out3 (.slice none 0 0) (.int .i64 0) (.int .i64 0) _ rfl
       exact hQ.out _ _ _ rfl rfl rfl rfl g1 (.nil _ _) g2
      | true =>
       by_cases h64 : 64 ≤ x.l.length
       ·have hfin := hbad.out (hst.out.trans ((if_neg (by decide)).trans (if_pos h64))) (by decide)
        subst hfin
        have h64a : decide (64 ≤ (x.l.length : Int)) = true := decide_eq_true (by omega)
        go_wp2
        obtain ⟨g1, g2⟩ := hR3.out.out3 (.slice none 0 0) (.int .i64 0) (.int .i64 0) _ rfl
        exact hQ.out _ _ _ rfl rfl rfl rfl g1 (.nil _ _) g2
       ·have hst2 := hst.out.trans ((if_neg (by decide)).trans (if_neg h64))
        rw [hst2] at hstep
        replace hdone := Aside0.mk (hdone.out hst2)
        have h64a : decide (64 ≤ (x.l.length : Int)) = false := decide_eq_false (by omega)
        have hnl : x.names.length ≤ 64 := by rw [hok.out.n]; exact hok.out.l
        have hrl : x.rows.length ≤ 64 := by rw [hok.out.r]; exact hok.out.l
        obtain ⟨x0, x1, x2, x3, x4, x5, x6, x7⟩ := cells8 hbx.out
        have hRa := Aside0.mk (hR3.out.keep (below_new w3 (.cells (In.cs ⟨op, d, s', t', u, a, k, q⟩) 114)))
        clear hst2 hst hbad y0 y1 y2 y3 y4 y5 y6
        go_wp2_with (at_builtin; refine app_rf rfl (.tmp 102) (.tmp 104) rfl w.heap.size w3.heap.size ⟨op, d, s', t', u, a, k, q⟩ (.slice A0 x.l.length c0) x.l rfl hRa.out.q0 rfl (blk_new _ _) ?hl ?hb ?_)
        case hl => omega
        case hb => exact Nat.le_succ_of_le hR3.out.hz
        intro v1 w4 hr4 hg4
        obtain ⟨A1, c1, hv1⟩ := own_slice_n hr4
        simp only [List.length_append, List.length_singleton] at hv1
        subst hv1
        have hR4 := hRa.out.a0 hr4 hg4
        have hc5 := blk_grown hRa.out.c5 hg4 (own_apart hRa.out.q0 hRa.out.c5 (by decide))
        have l0 : w4.cell? ⟨w.heap.size + 1, 0, none⟩ = some (.slice A0 x.l.length c0) := (blk_cell hc5 0).trans rfl
        have l1 := blk_frozen hc5 0
        have l2 := blk_lt hc5
        replace hR4 := Aside0.mk hR4
        have hRb := Aside0.mk (hR4.out.keep (below_new _ (.cells #[.string ⟨nm.toArray⟩] 9)))
        clear hRa hR3 hbx k0 k1 k2 k3 k4 k5 k6 x0 x1 x2 x3 x4 x5 x6 x7 hr4 hg4 hc5
        go_wp2_with (at_builtin; refine app_nm rfl (.tmp 107) (.tmp 109) rfl w.heap.size w4.heap.size nm u7 x.names rfl hRb.out.q1 rfl (new_at (by simp) _) ?hl2 ?hb2 ?_)
        case hl2 => omega
        case hb2 => exact hRb.out.hz
        intro v2 w5 hr5 hg5 ha5
        have hR5 := hRb.out.a1 hr5 hg5
        have hRc := Aside0.mk (hR5.keep (below_new _ (.cells #[.int .i64 ((n : Int) + 1)] 3)))
        replace hR5 := Aside0.mk hR5
        clear hRb hR4 hr5 hg5 ha5 l0 l1 l2
        go_wp2_with (at_builtin; refine app_int rfl (.tmp 111) (.tmp 113) rfl w.heap.size w5.heap.size ((n : Int) + 1) u8 x.rows rfl hRc.out.q2 rfl (blk_new _ _) ?hl3 ?hb3 ?_)
        case hl3 => omega
        case hb3 => exact hRc.out.hz
        intro v3 w6 hr6 hg6 ha6
        have hR6 := Aside0.mk (hRc.out.a2 hr6 hg6)
        clear hRc hR5 hr6 hg6 ha6
        go_wp2
        go_roundw
        case rel => exact ⟨i + 1, n + 1, i + 1, _, _, by go_num, by go_num, by go_num, by omega, Nat.le_refl _, by omega, hdone, ⟨by simp⟩, hstep, hR6⟩
        case measure => simp [intOf]; omega
   ·have hb : ¬ (t.getD i 0).toNat = 10 := fun e => h10 (UInt8.toNat_inj.1 (by rw [e]; rfl))
    have hno2 := Aside0.mk (no10_step hlt hfi h10 hno.out)
    generalize (t.getD i 0).toNat = c at *
    have hb1 : ¬ (c : Int) = 10 := by omega
    have hb2 : ((c : Int) == 10) = false := beq_eq_false_iff_ne.2 hb1
    go_wp2
    go_roundw
    case rel => exact ⟨f, n, i + 1, x, v0, rfl, rfl, by go_num, by omega, by omega, by omega, hF, hno2, hok, hR⟩
    case measure => simp [intOf]; omega
  ·obtain rfl : i = t.length := by omega
   have hge : ¬ (t.length : Int) < (t.length : Int) := by omega
   have hend := rall_end (n := (n : Int)) (x := x) (f := f) (t := t) (by have := hno.out; rwa [List.take_of_length_le (by simp)] at this)
   rw [← hF.out] at hend
   clear hF hno
   by_cases hfl : f < t.length
   ·rw [if_pos hfl] at hend
    have hfin := hstop.out hend (by decide)
    subst hfin
    have hfl' : (f : Int) < (t.length : Int) := by omega
    have hnw : IntKind.i64.wrap ((n : Int) + 1) = (n : Int) + 1 := by rw [IntKind.wrap_i64]; omega
    obtain ⟨y0, y1, y2, y3, y4, y5, y6⟩ := hR.out.facts
    clear hend
    go_wp2
    obtain ⟨g1, g2⟩ := hR.out.out3 (.slice none 0 0) (.int .i64 0) (.int .i64 0) _ rfl
    exact hQ.out _ _ _ rfl rfl rfl rfl g1 (.nil _ _) g2
   ·rw [if_neg hfl] at hend
    have hfl' : ¬ (f : Int) < (t.length : Int) := by omega
    have hgo := hA.out.symm.trans (rasm_go hend)
    clear hend hfl hstop hA
    obtain ⟨A0, c0, rfl⟩ := own_slice_n hR.out.q0
    obtain ⟨A3, c3, rfl⟩ := own_slice_n hR.out.q3
    obtain ⟨A1, c1, rfl⟩ := own_slice_n hR.out.q1
    obtain ⟨A2, c2, rfl⟩ := own_slice_n hR.out.q2
    have n0 := hok.out.n
    have r0 := hok.out.r
    have l0 := hok.out.l
    have hm9 : x.labels.length ≤ 90000 := by have := hok.out.b; omega
    obtain ⟨m, hm⟩ : ∃ m, x.l.length = m := ⟨_, rfl⟩
    rw [hm] at hR n0 r0 l0
    rw [n0, r0] at hR
    obtain ⟨fx, hfx⟩ : ∃ fx, rfixJ x 0 [] = fx := ⟨_, rfl⟩
    rw [hfx] at hgo
    rw [hm] at hgo
    replace hm := Aside0.mk hm
    replace hgo := Aside0.mk hgo
    replace hfx := Aside0.mk hfx
    have k0 := hR.out.facts5.1
    rw [n0, r0]
    go_wp2_with fail
    clear k0
    go_loopw [125] (fun v125 wr2 => ∃ (k : Nat) (done : List In), v125 = .int .i64 (k : Int) ∧ k ≤ m ∧ Aside0 (done.length = k) ∧ Aside0 (rfixJ x k done = fx) ∧ Aside0 (RX w wr2 w.heap.size (.slice A0 m c0) (.slice A3 x.labels.length c3) (.slice A1 m c1) (.slice A2 m c2) (done ++ x.l.drop k) x.names x.rows x.labels)) (fun v125 _ => m - (intOf v125).toNat)
    case atStart => exact ⟨0, [], rfl, Nat.zero_le _, ⟨rfl⟩, hfx, ⟨by simpa using hR.out⟩⟩
    case round =>
     obtain ⟨k, done, rfl, hk, hdl, hJ, hR⟩ := hrel
     clear hfx
     by_cases hlt : k < m
     ·have hlen : (done ++ x.l.drop k).length = m := by rw [List.length_append, List.length_drop, hm.out, hdl.out]; omega
      have hk0 : (0 : Int) ≤ (k : Int) := by omega
      have hk1 : (k : Int) < (m : Int) := by omega
      have hkw : IntKind.i64.wrap ((k : Int) + 1) = (k : Int) + 1 := by rw [IntKind.wrap_i64]; omega
      have hkc : (k : Int) + 1 = ((k + 1 : Nat) : Int) := by omega
      have hdl1 : ∀ i : In, (done ++ [i]).length = k + 1 := fun i => by rw [List.length_append, hdl.out]; rfl
      have hstep := rfixJ_cons (x := x) (k := k) (done := done) (by rw [hm.out]; exact hlt) (by rw [hm.out]; exact n0) (by rw [hm.out]; exact r0)
      rw [hJ.out, hm.out] at hstep
      have hq1 := hR.out.q1
      unfold NmRow at hq1
      rw [n0] at hq1
      obtain ⟨g1, c1', hv1, hc1, _, _, hcell1⟩ := own_rd hq1 (by omega)
      have hA1 : A1 = some ⟨g1, 0, none⟩ := by injection hv1
      subst hA1
      have nk : wr.cell? ⟨g1, k, none⟩ = some (.string ⟨(x.names.getD k []).toArray⟩) := hcell1 k _ (by
       rw [List.getElem?_map, List.getElem?_eq_getElem (show k < x.names.length by omega), getD_eq (show k < x.names.length by omega)]; rfl)
      generalize x.names.getD k [] = nm at nk hstep
      replace hstep := Aside0.mk hstep
      replace hdl1 := Aside0.mk hdl1
      replace hkc := Aside0.mk hkc
      clear hcell1 hv1 hc1 hq1
      cases nm with
      | nil =>
       go_wp2_with fail
       go_roundw
       case rel =>
        refine ⟨k + 1, done ++ [x.l.getD k In.zero], congrArg (Value.int .i64) hkc.out, hlt, ⟨hdl1.out _⟩, ⟨(hstep.out.trans (if_pos rfl)).symm⟩, ⟨?_⟩⟩
        have e := hR.out
        rw [drop_getD x.l k In.zero (by rw [hm.out]; exact hlt)] at e
        simpa using e
       case measure => simp [intOf]; omega
      | cons b bs =>
       have P := Aside0.mk (fun (W : World) (hW : RX w W w.heap.size (.slice A0 m c0) (.slice A3 x.labels.length c3) (.slice (some ⟨g1, 0, none⟩) m c1) (.slice A2 m c2) (done ++ x.l.drop k) x.names x.rows x.labels) => rfind_calls _ _ (b :: bs) m _ W hW.q3 (by omega))
       have hS := (hR.out.keep (below_drew (Below.refl _ _))).S
       have hS2 : Aside0 (RX w wr.drew w.heap.size (.slice A0 m c0) (.slice A3 x.labels.length c3) (.slice (some ⟨g1, 0, none⟩) m c1) (.slice A2 m c2) (done ++ x.l.drop k) x.names x.rows x.labels) ∧ wr.drew.cell? ⟨w.heap.size + 1, 0, none⟩ = some (.slice A0 m c0) ∧ wr.drew.cell? ⟨g1, k, none⟩ = some (.string ⟨(b :: bs).toArray⟩) := ⟨hS.1, hS.2, nk⟩
       clear hS
       obtain ⟨fd, hfd⟩ : ∃ fd, rfindF x.labels (b :: bs) m = fd := ⟨_, rfl⟩
       rw [hfd] at hstep P
       clear hfd
       have hq0 := hR.out.q0
       unfold RfRow at hq0
       rw [hlen] at hq0
       obtain ⟨g0, c0', hv0, hc0, hg0, ⟨cs0, hcs0, hcz⟩, _⟩ := own_rd hq0 (by omega)
       have hA0 : A0 = some ⟨g0, 0, none⟩ := by injection hv0
       subst hA0
       clear hv0 hq0 hcs0 hcz hc0
       go_wp2_with fail
       refine wp_region_late [14] (S := fun W => Aside0 (RX w W w.heap.size (.slice (some ⟨g0, 0, none⟩) m c0) (.slice A3 x.labels.length c3) (.slice (some ⟨g1, 0, none⟩) m c1) (.slice A2 m c2) (done ++ x.l.drop k) x.names x.rows x.labels) ∧ W.cell? ⟨w.heap.size + 1, 0, none⟩ = some (.slice (some ⟨g0, 0, none⟩) m c0) ∧ W.cell? ⟨g1, k, none⟩ = some (.string ⟨(b :: bs).toArray⟩)) (by kernel_rfl) hS2 (fun hS0 => ?_)
       clear hS2 nk hR
       obtain ⟨w5, hw5⟩ : ∃ y, wr.drew = y := ⟨_, rfl⟩
       rw [hw5] at hS0 ⊢
       clear hw5
       refine wpAnyL_takeY (i := 0) (v := ?_) (getw rfl) (by kernel_rfl) (fun _ _ _ h => h) (.inl ⟨by rfl, ?_⟩) (fun _ => by assumption) ?_
       rotate_left
       ·intro w; go_simp; try with_reducible rfl
       try simp only [Act.put, List.setIfInBounds_toArray, List.set_cons_zero, List.set_cons_succ]
       refine wpAnyL_take (i := 1) (v := ?_) (getw rfl) (by kernel_rfl) (fun _ _ _ h => h) (.inl ⟨by rfl, ?_⟩) (by assumption) ?_
       rotate_left
       ·intro w hSw; obtain ⟨_, j1, j2⟩ := hSw; go_simp; try with_reducible rfl
       try simp only [Act.put, List.setIfInBounds_toArray, List.set_cons_zero, List.set_cons_succ]
       refine wpAnyL_takeY (i := 2) (v := ?_) (getw rfl) (by kernel_rfl) (fun _ _ _ h => h) (.inl ⟨by rfl, ?_⟩) (fun _ => by assumption) ?_
       rotate_left
       ·intro w; go_simp; try with_reducible rfl
       try simp only [Act.put, List.setIfInBounds_toArray, List.set_cons_zero, List.set_cons_succ]
       refine wpAnyL_takeY (i := 3) (v := ?_) (getw rfl) (by kernel_rfl) (fun _ _ _ h => h) (.inl ⟨by rfl, ?_⟩) (fun _ => by assumption) ?_
       rotate_left
       ·intro w; go_simp; try with_reducible rfl
       try simp only [Act.put, List.setIfInBounds_toArray, List.set_cons_zero, List.set_cons_succ]
       refine wpAnyL_takeY (i := 4) (v := ?_) (getw rfl) (by kernel_rfl) (fun _ _ _ h => h) (.inl ⟨by rfl, ?_⟩) (fun _ => by assumption) ?_
       rotate_left
       ·intro w; go_simp; try with_reducible rfl
       try simp only [Act.put, List.setIfInBounds_toArray, List.set_cons_zero, List.set_cons_succ]
       refine wpAnyL_takeY (i := 5) (v := ?_) (getw rfl) (by kernel_rfl) (fun _ _ _ h => h) (.inl ⟨by rfl, ?_⟩) (fun _ => by assumption) ?_
       rotate_left
       ·intro w; go_simp; try with_reducible rfl
       try simp only [Act.put, List.setIfInBounds_toArray, List.set_cons_zero, List.set_cons_succ]
       refine wpAnyL_takeY (i := 6) (v := ?_) (getw rfl) (by kernel_rfl) (fun _ _ _ h => h) (.inl ⟨by rfl, ?_⟩) (fun _ => by assumption) ?_
       rotate_left
       ·intro w; go_simp; try with_reducible rfl
       try simp only [Act.put, List.setIfInBounds_toArray, List.set_cons_zero, List.set_cons_succ]
       refine wpAnyL_take (i := 7) (v := ?_) (getw rfl) (by kernel_rfl) (fun _ _ _ h => h) (.inl ⟨by rfl, ?_⟩) (by assumption) ?_
       rotate_left
       ·intro w hSw; obtain ⟨_, j1, j2⟩ := hSw; go_simp; try with_reducible rfl
       try simp only [Act.put, List.setIfInBounds_toArray, List.set_cons_zero, List.set_cons_succ]
       refine wpAnyL_takeY (i := 8) (v := ?_) (getw rfl) (by kernel_rfl) (fun _ _ _ h => h) (.inl ⟨by rfl, ?_⟩) (fun _ => by assumption) ?_
       rotate_left
       ·intro w; go_simp; try with_reducible rfl
       try simp only [Act.put, List.setIfInBounds_toArray, List.set_cons_zero, List.set_cons_succ]
       refine wpAnyL_take (i := 9) (v := ?_) (getw rfl) (by kernel_rfl) (fun _ _ _ h => h) (.inl ⟨by rfl, ?_⟩) (by assumption) ?_
       rotate_left
       ·intro w hSw; obtain ⟨_, j1, j2⟩ := hSw; go_simp; try with_reducible rfl
       try simp only [Act.put, List.setIfInBounds_toArray, List.set_cons_zero, List.set_cons_succ]
       refine wpAnyL_takeY (i := 10) (v := ?_) (getw rfl) (by kernel_rfl) (fun _ _ _ h => h) (.inl ⟨by rfl, ?_⟩) (fun _ => by assumption) ?_
       rotate_left
       ·intro w; go_simp; try with_reducible rfl
       try simp only [Act.put, List.setIfInBounds_toArray, List.set_cons_zero, List.set_cons_succ]
       refine wpAnyL_ready (rs := [11]) (by kernel_rfl) (by simp) ?_
       refine AllReadyL.cons (getw rfl) (fun K hK => ?_) AllReadyL.nil
       go_simp
       go_at_call 54
       refine (P.out _ hS0.1.out).mono ?_
       rintro e w7 ⟨rfl, hb7⟩
       have hS7 := rx_next hb7 hS0
       clear hS0 hb7
       go_wp2_with fail
       refine hK.out _ _ (fun _ => hS7) (fun _ => ?_)
       try simp only [Act.put, List.setIfInBounds_toArray, List.set_cons_zero, List.set_cons_succ]
       refine wpAnyL_takeY (i := 12) (v := ?_) (getw rfl) (by kernel_rfl) (fun _ _ _ h => h) (.inl ⟨by rfl, ?_⟩) (fun _ => by assumption) ?_
       rotate_left
       ·intro w; go_simp; try with_reducible rfl
       try simp only [Act.put, List.setIfInBounds_toArray, List.set_cons_zero, List.set_cons_succ]
       refine wpAnyL_takeY (i := 13) (v := ?_) (getw rfl) (by kernel_rfl) (fun _ _ _ h => h) (.inl ⟨by rfl, ?_⟩) (fun _ => by assumption) ?_
       rotate_left
       ·intro w; go_simp; try with_reducible rfl
       try simp only [Act.put, List.setIfInBounds_toArray, List.set_cons_zero, List.set_cons_succ]
       have hR7 := hS7.1.out
       have hR8 := hR7.putq (k := k) (by rw [hlen]; exact hlt) fd
       obtain ⟨cs7, hcs7, hcz7⟩ : ∃ cs, w7.heap[g0]? = some (.cells cs 114 (0, 0)) ∧ m * 8 ≤ cs.size := by
        have hq := hR7.q0
        unfold RfRow at hq
        rw [hlen] at hq
        obtain ⟨g0', c0', hv0, _, _, h, _⟩ := own_rd hq (by omega)
        have hgg : g0 = g0' := by injection hv0 with a _ _; injection a with a; injection a
        subst hgg
        exact h
       have hck : k * 8 + 7 < cs7.size := by omega
       have z7 : w7.cell? ⟨g0, k * 8 + 7, none⟩ = some cs7[k * 8 + 7] := (blk_cell hcs7 (k * 8 + 7)).trans (by simp [hck])
       have z7f := blk_frozen hcs7 (k * 8 + 7)
       have z7l := blk_lt hcs7
       have z8 : (w7.setCell ⟨g0, k * 8 + 7, none⟩ (.int .i64 fd)).cell? ⟨g0, k * 8 + 7, none⟩ = some (.int .i64 fd) := (blk_cell (blk_set hcs7 (k * 8 + 7) _) (k * 8 + 7)).trans (by simp [hck])
       generalize cs7[k * 8 + 7] = v7 at z7
       replace hR8 := Aside0.mk hR8
       obtain ⟨w8, hw8⟩ : ∃ y, w7.setCell ⟨g0, k * 8 + 7, none⟩ (.int .i64 fd) = y := ⟨_, rfl⟩
       rw [hw8] at hR8 z8
       replace z8 := Aside0.mk z8
       clear hS7 hR7 hcs7 hcz7 hck P
       refine wpAnyL_ready (rs := [14]) (by kernel_rfl) (by simp) ?_
       refine AllReadyL.cons (getw rfl) (fun K hK => ?_) AllReadyL.nil
       go_simp
       go_wp2_with fail
       refine hK.out _ _ (fun h => by cases h) (fun _ => ?_)
       try simp only [Act.put, List.setIfInBounds_toArray, List.set_cons_zero, List.set_cons_succ]
       try rw [hw8]
       clear hw8 z7 z7f z7l
       refine wpAnyL_done (by kernel_rfl) ?_ _
       replace z8 := z8.out
       have k8 := hR8.out.facts5.1
       have hltx : k < x.l.length := by rw [hm.out]; exact hlt
       have e8 := hR8.out
       rw [get_at done x.l k In.zero hdl.out hltx, set_at done x.l k _ hdl.out hltx] at e8
       replace hR8 := Aside0.mk e8
       clear e8
       by_cases hfd : fd < 0
       ·have hfx2 : fx = .inr (x.rows.getD k 0) := by rw [hstep.out, if_neg (by simp), if_pos hfd]
        subst hfx2
        have hfin : fin = (Pg.zero, x.rows.getD k 0, 10) := hgo.out
        have hq2 := hR8.out.q2
        unfold IntRow at hq2
        rw [r0] at hq2
        obtain ⟨g2, c2', hv2, _, _, _, hcell2⟩ := own_rd hq2 (by omega)
        have hA2 : A2 = some ⟨g2, 0, none⟩ := by injection hv2
        subst hA2
        have rk : w8.cell? ⟨g2, k, none⟩ = some (.int .i64 (x.rows.getD k 0)) := hcell2 k _ (by
         rw [List.getElem?_map, List.getElem?_eq_getElem (show k < x.rows.length by omega), getD_eq (show k < x.rows.length by omega)]; rfl)
        generalize x.rows.getD k 0 = row at *
        subst hfin
        clear hcell2 hv2 hq2 hstep hgo hJ
        go_wp2_with fail
        have hng : w.heap.size ≠ g2 := by
         obtain ⟨cells, hc⟩ := own_typed hR8.out.q2 g2 rfl
         exact blk_ne hR8.out.c2 hc (by decide)
        refine wp_region_late [] (S := fun W => W.cell? ⟨g2, k, none⟩ = some (.int .i64 row)) (by kernel_rfl) rk (fun hS0 => ?_)
        have hR9 := hR8.out.keep (below_drew (Below.refl _ _))
        obtain ⟨w9, hw9⟩ : ∃ y, w8.drew = y := ⟨_, rfl⟩
        rw [hw9] at hS0 hR9 ⊢
        clear hw9 rk hR8
        replace hR9 := Aside0.mk hR9
        refine wpAnyL_takeY (i := 0) (v := ?_) (getw rfl) (by kernel_rfl) (fun _ _ _ h => h) (.inl ⟨by rfl, ?_⟩) (fun _ => by assumption) ?_
        rotate_left
        ·intro w; go_simp; try with_reducible rfl
        try simp only [Act.put, List.setIfInBounds_toArray, List.set_cons_zero, List.set_cons_succ]
        refine wpAnyL_takeY (i := 1) (v := ?_) (getw rfl) (by kernel_rfl) (fun _ _ _ h => h) (.inl ⟨by rfl, ?_⟩) (fun _ => by assumption) ?_
        rotate_left
        ·intro w; go_simp; try with_reducible rfl
        try simp only [Act.put, List.setIfInBounds_toArray, List.set_cons_zero, List.set_cons_succ]
        refine wpAnyL_takeY (i := 2) (v := ?_) (getw rfl) (by kernel_rfl) (fun _ _ _ h => h) (.inl ⟨by rfl, ?_⟩) (fun _ => by assumption) ?_
        rotate_left
        ·intro w; go_simp; try with_reducible rfl
        try simp only [Act.put, List.setIfInBounds_toArray, List.set_cons_zero, List.set_cons_succ]
        refine wpAnyL_takeY (i := 3) (v := ?_) (getw rfl) (by kernel_rfl) (fun _ _ _ h => h) (.inl ⟨by rfl, ?_⟩) (fun _ => by assumption) ?_
        rotate_left
        ·intro w; go_simp; try with_reducible rfl
        try simp only [Act.put, List.setIfInBounds_toArray, List.set_cons_zero, List.set_cons_succ]
        refine wpAnyL_take (i := 4) (v := ?_) (getw rfl) (by kernel_rfl) (fun _ _ _ h => h) (.inl ⟨by rfl, ?_⟩) (by assumption) ?_
        rotate_left
        ·intro w hSw; go_simp; try with_reducible rfl
        try simp only [Act.put, List.setIfInBounds_toArray, List.set_cons_zero, List.set_cons_succ]
        obtain ⟨y0, y1, y2, y3, y4, y5, y6⟩ := hR9.out.facts
        refine wpAnyL_ready (rs := [5]) (by kernel_rfl) (by simp) ?_
        refine AllReadyL.cons (getw rfl) (fun K hK => ?_) AllReadyL.nil
        go_simp
        go_wp2_with fail
        have hS1 := far3 hng (.slice none 0 0) (.int .i64 0) (.int .i64 0) hS0
        refine hK.out _ _ (fun _ => hS1) (fun _ => ?_)
        try simp only [Act.put, List.setIfInBounds_toArray, List.set_cons_zero, List.set_cons_succ]
        refine wpAnyL_takeY (i := 6) (v := ?_) (getw rfl) (by kernel_rfl) (fun _ _ _ h => h) (.inl ⟨by rfl, ?_⟩) (fun _ => by assumption) ?_
        rotate_left
        ·intro w; go_simp; try with_reducible rfl
        try simp only [Act.put, List.setIfInBounds_toArray, List.set_cons_zero, List.set_cons_succ]
        refine wpAnyL_takeY (i := 7) (v := ?_) (getw rfl) (by kernel_rfl) (fun _ _ _ h => h) (.inl ⟨by rfl, ?_⟩) (fun _ => by assumption) ?_
        rotate_left
        ·intro w; go_simp; try with_reducible rfl
        try simp only [Act.put, List.setIfInBounds_toArray, List.set_cons_zero, List.set_cons_succ]
        refine wpAnyL_done (by kernel_rfl) ?_ _
        go_wp2
        obtain ⟨g3, g4⟩ := hR9.out.out3 (.slice none 0 0) (.int .i64 0) (.int .i64 0) _ rfl
        exact hQ.out _ _ _ rfl rfl rfl rfl g3 (.nil _ _) g4
       ·have hfx2 := hstep.out.trans ((if_neg (by simp)).trans (if_neg hfd))
        go_wp2
        go_roundw
        case rel => exact ⟨k + 1, done ++ [{ x.l.getD k In.zero with q := fd }], congrArg (Value.int .i64) hkc.out, hlt, ⟨hdl1.out _⟩, ⟨hfx2.symm⟩, hR8⟩
        case measure => simp [intOf]; omega
     ·obtain rfl : k = m := by omega
      have hfx2 : fx = .inl done := by rw [← hJ.out]; exact rfixJ_end x k done (by rw [hm.out]; exact Nat.le_refl _)
      subst hfx2
      have e0 : done ++ x.l.drop k = done := by rw [List.drop_eq_nil_of_le (by rw [hm.out]; exact Nat.le_refl _), List.append_nil]
      rw [e0] at hR
      have hge2 : ¬ (k : Int) < (k : Int) := by omega
      have P1 := Aside0.mk (fun (W : World) (hW : RX w W w.heap.size (.slice A0 k c0) (.slice A3 x.labels.length c3) (.slice A1 k c1) (.slice A2 k c2) done x.names x.rows x.labels) => rfind_calls _ _ [108, 111, 99, 107] k _ W hW.q3 (by omega))
      have P2 := Aside0.mk (fun (W : World) (hW : RX w W w.heap.size (.slice A0 k c0) (.slice A3 x.labels.length c3) (.slice A1 k c1) (.slice A2 k c2) done x.names x.rows x.labels) => rfind_calls _ _ [117, 110, 108, 111, 99, 107] k _ W hW.q3 (by omega))
      have hfin := hgo.out
      dsimp only at hfin
      generalize rfindF x.labels [108, 111, 99, 107] k = f1 at P1 hfin
      generalize rfindF x.labels [117, 110, 108, 111, 99, 107] k = f2 at P2 hfin
      have hS := (hR.out.keep (below_drew (Below.refl _ _))).S
      replace hfin := Aside0.mk hfin
      clear hJ hgo e0 hlt
      go_wp2_with fail
      refine wp_region_late [11] (S := fun W => Aside0 (RX w W w.heap.size (.slice A0 k c0) (.slice A3 x.labels.length c3) (.slice A1 k c1) (.slice A2 k c2) done x.names x.rows x.labels) ∧ W.cell? ⟨w.heap.size + 1, 0, none⟩ = some (.slice A0 k c0)) (by kernel_rfl) hS (fun hS0 => ?_)
      obtain ⟨w5, hw5⟩ : ∃ y, wr.drew = y := ⟨_, rfl⟩
      rw [hw5] at hS0 ⊢
      clear hw5 hS hR
      refine wpAnyL_takeY (i := 0) (v := ?_) (getw rfl) (by kernel_rfl) (fun _ _ _ h => h) (.inl ⟨by rfl, ?_⟩) (fun _ => by assumption) ?_
      rotate_left
      ·intro w; go_simp; try with_reducible rfl
      try simp only [Act.put, List.setIfInBounds_toArray, List.set_cons_zero, List.set_cons_succ]
      refine wpAnyL_takeY (i := 1) (v := ?_) (getw rfl) (by kernel_rfl) (fun _ _ _ h => h) (.inl ⟨by rfl, ?_⟩) (fun _ => by assumption) ?_
      rotate_left
      ·intro w; go_simp; try with_reducible rfl
      try simp only [Act.put, List.setIfInBounds_toArray, List.set_cons_zero, List.set_cons_succ]
      refine wpAnyL_take (i := 2) (v := ?_) (getw rfl) (by kernel_rfl) (fun _ _ _ h => h) (.inl ⟨by rfl, ?_⟩) (by assumption) ?_
      rotate_left
      ·intro w hSw; obtain ⟨_, j1⟩ := hSw; go_simp; try with_reducible rfl
      try simp only [Act.put, List.setIfInBounds_toArray, List.set_cons_zero, List.set_cons_succ]
      refine wpAnyL_takeY (i := 3) (v := ?_) (getw rfl) (by kernel_rfl) (fun _ _ _ h => h) (.inl ⟨by rfl, ?_⟩) (fun _ => by assumption) ?_
      rotate_left
      ·intro w; go_simp; try with_reducible rfl
      try simp only [Act.put, List.setIfInBounds_toArray, List.set_cons_zero, List.set_cons_succ]
      refine wpAnyL_takeY (i := 5) (v := ?_) (getw rfl) (by kernel_rfl) (fun _ _ _ h => h) (.inl ⟨by rfl, ?_⟩) (fun _ => by assumption) ?_
      rotate_left
      ·intro w; go_simp; try with_reducible rfl
      try simp only [Act.put, List.setIfInBounds_toArray, List.set_cons_zero, List.set_cons_succ]
      refine wpAnyL_takeY (i := 6) (v := ?_) (getw rfl) (by kernel_rfl) (fun _ _ _ h => h) (.inl ⟨by rfl, ?_⟩) (fun _ => by assumption) ?_
      rotate_left
      ·intro w; go_simp; try with_reducible rfl
      try simp only [Act.put, List.setIfInBounds_toArray, List.set_cons_zero, List.set_cons_succ]
      refine wpAnyL_take (i := 7) (v := ?_) (getw rfl) (by kernel_rfl) (fun _ _ _ h => h) (.inl ⟨by rfl, ?_⟩) (by assumption) ?_
      rotate_left
      ·intro w hSw; obtain ⟨_, j1⟩ := hSw; go_simp; try with_reducible rfl
      try simp only [Act.put, List.setIfInBounds_toArray, List.set_cons_zero, List.set_cons_succ]
      refine wpAnyL_takeY (i := 8) (v := ?_) (getw rfl) (by kernel_rfl) (fun _ _ _ h => h) (.inl ⟨by rfl, ?_⟩) (fun _ => by assumption) ?_
      rotate_left
      ·intro w; go_simp; try with_reducible rfl
      try simp only [Act.put, List.setIfInBounds_toArray, List.set_cons_zero, List.set_cons_succ]
      refine wpAnyL_ready (rs := [4]) (by kernel_rfl) (by simp) ?_
      refine AllReadyL.cons (getw rfl) (fun K hK => ?_) AllReadyL.nil
      go_simp
      go_at_call 54
      refine (P1.out _ hS0.1.out).mono ?_
      rintro e w7 ⟨rfl, hb7⟩
      have hS7 := rx_next1 hb7 hS0
      clear hS0 hb7 P1
      go_wp2_with fail
      refine hK.out _ _ (fun _ => hS7) (fun _ => ?_)
      try simp only [Act.put, List.setIfInBounds_toArray, List.set_cons_zero, List.set_cons_succ]
      refine wpAnyL_takeY (i := 10) (v := ?_) (getw rfl) (by kernel_rfl) (fun _ _ _ h => h) (.inl ⟨by rfl, ?_⟩) (fun _ => by assumption) ?_
      rotate_left
      ·intro w; go_simp; try with_reducible rfl
      try simp only [Act.put, List.setIfInBounds_toArray, List.set_cons_zero, List.set_cons_succ]
      refine wpAnyL_ready (rs := [9]) (by kernel_rfl) (by simp) ?_
      refine AllReadyL.cons (getw rfl) (fun K hK => ?_) AllReadyL.nil
      go_simp
      go_at_call 54
      refine (P2.out _ hS7.1.out).mono ?_
      rintro e w8 ⟨rfl, hb8⟩
      have hS8 := rx_next1 hb8 hS7
      clear hS7 hb8 P2
      go_wp2_with fail
      refine hK.out _ _ (fun _ => hS8) (fun _ => ?_)
      try simp only [Act.put, List.setIfInBounds_toArray, List.set_cons_zero, List.set_cons_succ]
      obtain ⟨k0, k1, k2, k3, k4, k5, k6⟩ := hS8.1.out.facts5
      have hlu := hS8.1.out.lu (.int .i64 f1) (.int .i64 f2) _ rfl
      clear hS8
      refine wpAnyL_ready (rs := [11]) (by kernel_rfl) (by simp) ?_
      refine AllReadyL.cons (getw rfl) (fun K hK => ?_) AllReadyL.nil
      go_simp
      go_wp2_with fail
      refine hK.out _ _ (fun h => by cases h) (fun _ => ?_)
      try simp only [Act.put, List.setIfInBounds_toArray, List.set_cons_zero, List.set_cons_succ]
      refine wpAnyL_takeY (i := 12) (v := ?_) (getw rfl) (by kernel_rfl) (fun _ _ _ h => h) (.inl ⟨by rfl, ?_⟩) (fun h => by cases h) ?_
      rotate_left
      ·intro w; go_simp; try with_reducible rfl
      try simp only [Act.put, List.setIfInBounds_toArray, List.set_cons_zero, List.set_cons_succ]
      refine wpAnyL_ready (rs := [13]) (by kernel_rfl) (by simp) ?_
      refine AllReadyL.cons (getw rfl) (fun K hK => ?_) AllReadyL.nil
      go_simp
      go_wp2_with fail
      refine hK.out _ _ (fun h => by cases h) (fun _ => ?_)
      try simp only [Act.put, List.setIfInBounds_toArray, List.set_cons_zero, List.set_cons_succ]
      obtain ⟨w9, hw9⟩ : ∃ y, (w8.setCell ⟨w.heap.size + 1, 1, none⟩ (.int .i64 f1)).setCell ⟨w.heap.size + 1, 2, none⟩ (.int .i64 f2) = y := ⟨_, rfl⟩
      rw [hw9] at hlu ⊢
      clear hw9 k0 k1 k2 k3 k4 k5 k6
      refine wpAnyL_done (by kernel_rfl) ?_ _
      obtain ⟨u1, u2, u3, u4⟩ := hlu
      have y0 : w9.cell? ⟨w.heap.size, 0, none⟩ = some (.slice none 0 0) := (blk_cell u2 0).trans rfl
      have y1 : w9.cell? ⟨w.heap.size, 1, none⟩ = some (.int .i64 0) := (blk_cell u2 1).trans rfl
      have y2 : w9.cell? ⟨w.heap.size, 2, none⟩ = some (.int .i64 0) := (blk_cell u2 2).trans rfl
      have y3 := blk_frozen u2 0
      have y4 := blk_frozen u2 1
      have y5 := blk_frozen u2 2
      have y6 := blk_lt u2
      have k0 : w9.cell? ⟨w.heap.size + 1, 0, none⟩ = some (.slice A0 k c0) := (blk_cell u3 0).trans rfl
      have k1 : w9.cell? ⟨w.heap.size + 1, 1, none⟩ = some (.int .i64 f1) := (blk_cell u3 1).trans rfl
      have k2 : w9.cell? ⟨w.heap.size + 1, 2, none⟩ = some (.int .i64 f2) := (blk_cell u3 2).trans rfl
      replace u1 := Aside0.mk u1
      replace u2 := Aside0.mk u2
      replace u4 := Aside0.mk u4
      clear u3
      by_cases h1 : f1 < 0
      ·have hf := hfin.out.trans (if_pos (.inl h1))
       subst hf
       go_wp2
       obtain ⟨g3, _, g4⟩ := out3r u1.out u2.out u4.out (.slice none 0 0) (.int .i64 0) (.int .i64 0) _ rfl
       exact hQ.out _ _ _ rfl rfl rfl rfl g3 (.nil _ _) g4
      ·by_cases h2 : f2 < 0
       ·have hf := hfin.out.trans (if_pos (.inr h2))
        subst hf
        go_wp2
        obtain ⟨g3, _, g4⟩ := out3r u1.out u2.out u4.out (.slice none 0 0) (.int .i64 0) (.int .i64 0) _ rfl
        exact hQ.out _ _ _ rfl rfl rfl rfl g3 (.nil _ _) g4
       ·have hf := hfin.out.trans (if_neg (fun h => h.elim h1 h2))
        subst hf
        go_wp2
        obtain ⟨g3, g5, g4⟩ := out3r u1.out u2.out u4.out (.slice A0 k c0) (.int .i64 f1) (.int .i64 f2) _ rfl
        exact hQ.out _ _ _ rfl rfl rfl rfl g3 g5 g4
end Go.Proofs.YtbhpkeiofajbpaaGreatDoor

/- InstTexts: the document's text of what is right is the program's; the law: true, whatever the instruction; the memory that was there is as it was. -/
import Derived.Test.YtbkbkikbfbmbdaaDoorAwake6
import Derived.Test.YtbkbkikbfbmbdaaDoorPlain
import Derived.Test.YtbkbkikbfbmbdaaDoorRefRight
import Derived.Test.YtbkbkikbfbmbdaaDoorRefTextA
import Derived.Test.YtbkbkikbfbmbdaaDoorRefTextB
import Derived.Test.YtbkbkikbfbmbdaaDoorRefTextC
import Derived.Test.YtbkbkikbfbmbdaaDoorRefTextD
import Derived.Test.YtbkbkikbfbmbdaaDoorRefTextE
import Derived.Test.YtbkbkikbfbmbdaaDoorRefTextF
import Derived.Deep.RegionHeld3
namespace Go.Proofs.YtbkbkikbfbmbdaaDoor
open Go.RowKit Go.Proofs.YtbkbkikbfbmbdaaDoorW.PrintWords
set_option linter.unusedVariables false
set_option linter.unusedSimpArgs false

theorem await_k {i : In} {places : Int} (h : foldR places [68, 65, 83, 87] { i with op := 0 } = some In.zero) : i.k ≤ 1 := by
  rw [foldR, show (((68 : UInt8).toNat : Nat) : Int) = 68 from rfl, stepR_field (j := 1) rfl] at h
  by_cases b : ({ i with op := 0 } : In).get 1 < 0 ∨ 7 < ({ i with op := 0 } : In).get 1
  · rw [if_pos b] at h; cases h
  rw [if_neg b] at h; clear b
  dsimp only at h
  rw [foldR, show (((65 : UInt8).toNat : Nat) : Int) = 65 from rfl, stepR_field (j := 5) rfl] at h
  by_cases b : (({ i with op := 0 } : In).put 0 1).get 5 < 0 ∨ 7 < (({ i with op := 0 } : In).put 0 1).get 5
  · rw [if_pos b] at h; cases h
  rw [if_neg b] at h; clear b
  dsimp only at h
  rw [foldR, show (((83 : UInt8).toNat : Nat) : Int) = 83 from rfl, stepR_field (j := 2) rfl] at h
  by_cases b : ((({ i with op := 0 } : In).put 0 1).put 0 5).get 2 < 0 ∨ 7 < ((({ i with op := 0 } : In).put 0 1).put 0 5).get 2
  · rw [if_pos b] at h; cases h
  rw [if_neg b] at h; clear b
  dsimp only at h
  rw [foldR, show (((87 : UInt8).toNat : Nat) : Int) = 87 from rfl, stepR_W] at h
  change (match (if 1 < i.k then none else if i.t < 0 ∨ 7 < i.t ∨ i.q < -1 ∨ (i.q ≠ -1 ∧ places ≤ i.q) then none else some ({ op := 0, d := 0, s := 0, t := 0, u := i.u, a := 0, k := 0, q := 0 } : In)) with | some r' => foldR places [] r' | none => none) = some In.zero at h
  by_cases b : 1 < i.k
  · rw [if_pos b] at h; cases h
  · omega

theorem reftext_calls (i : In) (h : rightF i 1073741824 = true) (hwk : i.wk) (w : World) :
    Calls Tryd.prog 14 #[i.v] w fun e w' => e = .returned (.string ⟨(textF i).toArray⟩) ∧ Below w.heap.size w w' := by
  have hf := rightF_fits h hwk
  have hn := opName_in (rightF_name h)
  have hp := rightF_q h
  have hr := rightF_fold h
  obtain ⟨op, d, s, t, u, a, k, q⟩ := i
  dsimp only at hn hp hr
  unfold In.v
  dsimp only
  have hc : op = 1 ∨ op = 2 ∨ op = 3 ∨ op = 4 ∨ op = 5 ∨ op = 6 ∨ op = 7 ∨ op = 8 ∨ op = 9 ∨ op = 10 ∨ op = 11 ∨ op = 12 ∨ op = 13 ∨ op = 16 ∨ op = 17 ∨ op = 18 ∨ op = 19 ∨ op = 20 ∨ op = 21 ∨ op = 22 ∨ op = 23 := by omega
  rcases hc with rfl | rfl | rfl | rfl | rfl | rfl | rfl | rfl | rfl | rfl | rfl | rfl | rfl | rfl | rfl | rfl | rfl | rfl | rfl | rfl | rfl
  · by_cases hq : 0 ≤ q
    · exact rt_1 d s t u a k q hf hq w
    · exact rt_1n d s t u a k q hf hq w
  · by_cases hq : 0 ≤ q
    · exact rt_2 d s t u a k q hf hq w
    · exact rt_2n d s t u a k q hf hq w
  · by_cases hq : 0 ≤ q
    · exact rt_3 d s t u a k q hf hq w
    · exact rt_3n d s t u a k q hf hq w
  · by_cases hq : 0 ≤ q
    · exact rt_4 d s t u a k q hf hq w
    · exact rt_4n d s t u a k q hf hq w
  · by_cases hq : 0 ≤ q
    · exact rt_5 d s t u a k q hf hq w
    · exact rt_5n d s t u a k q hf hq w
  · by_cases hq : 0 ≤ q
    · exact rt_6 d s t u a k q hf hq w
    · exact rt_6n d s t u a k q hf hq w
  · by_cases hq : 0 ≤ q
    · exact rt_7 d s t u a k q hf hq w
    · exact rt_7n d s t u a k q hf hq w
  · exact rt_8 d s t u a k q hf (hp (by decide)) w
  · exact rt_9 d s t u a k q hf (hp (by decide)) w
  · exact rt_10 d s t u a k q hf (hp (by decide)) w
  · by_cases hq : 0 ≤ q
    · exact rt_11 d s t u a k q hf hq w
    · exact rt_11n d s t u a k q hf hq w
  · by_cases hq : 0 ≤ q
    · exact rt_12 d s t u a k q hf hq w
    · exact rt_12n d s t u a k q hf hq w
  · by_cases hq : 0 ≤ q
    · exact rt_13 d s t u a k q hf hq w
    · exact rt_13n d s t u a k q hf hq w
  · by_cases hq : 0 ≤ q
    · exact rt_16 d s t u a k q hf hq w
    · exact rt_16n d s t u a k q hf hq w
  · by_cases hq : 0 ≤ q
    · exact rt_17 d s t u a k q hf hq w
    · exact rt_17n d s t u a k q hf hq w
  · by_cases hq : 0 ≤ q
    · exact rt_18 d s t u a k q hf hq w
    · exact rt_18n d s t u a k q hf hq w
  · by_cases hq : 0 ≤ q
    · exact rt_19 d s t u a k q hf hq w
    · exact rt_19n d s t u a k q hf hq w
  · by_cases hq : 0 ≤ q
    · exact rt_20 d s t u a k q hf hq w
    · exact rt_20n d s t u a k q hf hq w
  · have hk1 : k ≤ 1 := await_k (i := ⟨21, d, s, t, u, a, k, q⟩) hr
    have hk : k = 0 ∨ k = 1 := by have := hf.k.1; dsimp only at this; omega
    have hq := hf.q.1
    dsimp only at hq
    by_cases h0 : 0 ≤ q
    · rcases hk with rfl | rfl
      · exact rt_21_0 d s t u a q hf h0 w
      · exact rt_21_1 d s t u a q hf h0 w
    · have hq1 : q = -1 := by omega
      subst hq1
      rcases hk with rfl | rfl
      · exact rt_21_0n d s t u a hf w
      · exact rt_21_1n d s t u a hf w
  · by_cases hq : 0 ≤ q
    · exact rt_22 d s t u a k q hf hq w
    · exact rt_22n d s t u a k q hf hq w
  · by_cases hq : 0 ≤ q
    · exact rt_23 d s t u a k q hf hq w
    · exact rt_23n d s t u a k q hf hq w

theorem textR_cases (i : In) : (rightF i 1073741824 = true ∧ textR i = (textF i, 0)) ∨ (rightF i 1073741824 = false ∧ textR i = ([], 1)) := by
  unfold textR
  cases rightF i 1073741824 with
  | true => exact Or.inl ⟨rfl, by simp⟩
  | false => exact Or.inr ⟨rfl, by simp⟩
theorem in_cells {W : World} {g : Nat} {T : TypeId} {op d s t u a k q : Int} (h : W.heap[g]? = some (.cells (In.cs ⟨op, d, s, t, u, a, k, q⟩) T (0, 0))) :
    W.cell? ⟨g, 0, none⟩ = some (.int .i64 op) ∧ W.cell? ⟨g, 1, none⟩ = some (.int .i64 d) ∧ W.cell? ⟨g, 2, none⟩ = some (.int .i64 s) ∧ W.cell? ⟨g, 3, none⟩ = some (.int .i64 t) ∧
    W.cell? ⟨g, 4, none⟩ = some (.int .i64 u) ∧ W.cell? ⟨g, 5, none⟩ = some (.int .i64 a) ∧ W.cell? ⟨g, 6, none⟩ = some (.int .u32 k) ∧ W.cell? ⟨g, 7, none⟩ = some (.int .i64 q) :=
  ⟨(blk_cell h 0).trans rfl, (blk_cell h 1).trans rfl, (blk_cell h 2).trans rfl, (blk_cell h 3).trans rfl, (blk_cell h 4).trans rfl, (blk_cell h 5).trans rfl, (blk_cell h 6).trans rfl, (blk_cell h 7).trans rfl⟩

set_option maxHeartbeats 4000000 in
set_option maxRecDepth 100000 in
theorem law_texts (op d s t u a k q : Int) (hk : 0 ≤ k ∧ k ≤ 4294967295) (w : World) (he : Env w) :
    Calls Tryd.prog 4 #[.agg #[.int .i64 op, .int .i64 d, .int .i64 s, .int .i64 t, .int .i64 u, .int .i64 a, .int .u32 k, .int .i64 q]] w fun e w' => e = .returned (.bool true) ∧ Below w.heap.size w w' := by
  have C1 := fun (W : World) (heW : Env W) => text_calls ⟨op, d, s, t, u, a, k, q⟩ hk W heW
  have C2 := fun (W : World) => refright_calls ⟨op, d, s, t, u, a, k, q⟩ 1073741824 hk W
  have C3 := ref_calls ⟨op, d, s, t, u, a, k, q⟩
  have C4 := fun h (W : World) => reftext_calls ⟨op, d, s, t, u, a, k, q⟩ h hk W
  have C5 := fun h (W : World) (heW : Env W) => parse_calls (textF ⟨op, d, s, t, u, a, k, q⟩) W heW (Nat.le_trans (textF_len _ (rightF_fits h hk)) (by decide))
  have hpt := fun h => parse_text (i := ⟨op, d, s, t, u, a, k, q⟩) h hk
  have keq : ∀ W, (binOp .eql 24 (In.v ⟨op, d, s, t, u, a, k, q⟩) (In.v ⟨op, d, s, t, u, a, k, q⟩)).run Tryd.prog W = .ok (.bool (decide ((⟨op, d, s, t, u, a, k, q⟩ : In) = ⟨op, d, s, t, u, a, k, q⟩))) W := fun W => eql_a _ _ W
  rw [decide_eq_true rfl] at keq
  have B0 := Aside0.mk ((Below.refl w.heap.size w).alloc (Nat.le_refl _) (.cells (In.cs ⟨op, d, s, t, u, a, k, q⟩) 24))
  have K1 := Aside0.mk (blk_new w (.cells (In.cs ⟨op, d, s, t, u, a, k, q⟩) 24))
  have hc1 := textR_cases ⟨op, d, s, t, u, a, k, q⟩
  rcases hc1 with ⟨hr, e1⟩ | ⟨hr, e1⟩
  · replace C4 := C4 hr
    replace C5 := C5 hr
    rw [hpt hr] at C5
    rw [e1] at C1
    rw [hr] at C2
    generalize textF ⟨op, d, s, t, u, a, k, q⟩ = la at *
    clear hr e1 hpt
    dsimp only [In.v] at C1 C2 C3 C4 C5 keq
    replace C1 := Aside0.mk C1
    replace C2 := Aside0.mk C2
    replace C3 := Aside0.mk C3
    replace C4 := Aside0.mk C4
    replace C5 := Aside0.mk C5
    replace hk := Aside0.mk hk
    go_enter Tryd.func4, Tryd.ntmps4
    go_wp2_with fail
    refine (C1.out _ (he.below B0.out)).mono ?_
    rintro e w1 ⟨rfl, hb1⟩
    replace B0 := Aside0.mk (B0.out.trans (hb1.mono B0.out.size))
    replace K1 := Aside0.mk (blk_keep hb1 K1.out)
    obtain ⟨x0, x1, x2, x3, x4, x5, x6, x7⟩ := in_cells K1.out
    clear hb1
    go_wp2_with fail
    refine (C3.out _).mono ?_
    rintro e w2 ⟨rfl, hb2⟩
    replace B0 := Aside0.mk (B0.out.trans (hb2.mono B0.out.size))
    replace K1 := Aside0.mk (blk_keep hb2 K1.out)
    obtain ⟨x0, x1, x2, x3, x4, x5, x6, x7⟩ := in_cells K1.out
    clear hb2
    go_wp2_with fail
    refine (C2.out _).mono ?_
    rintro e w3 ⟨rfl, hb3⟩
    replace B0 := Aside0.mk (B0.out.trans (hb3.mono B0.out.size))
    replace K1 := Aside0.mk (blk_keep hb3 K1.out)
    obtain ⟨x0, x1, x2, x3, x4, x5, x6, x7⟩ := in_cells K1.out
    clear hb3
    go_wp2_with fail
    refine (C5.out _ (he.below B0.out)).mono ?_
    rintro e w4 ⟨rfl, hb4⟩
    replace B0 := Aside0.mk (B0.out.trans (hb4.mono B0.out.size))
    replace K1 := Aside0.mk (blk_old (blk_keep hb4 K1.out) (.cells (In.cs ⟨op, d, s, t, u, a, k, q⟩) 24))
    have K2 := Aside0.mk (blk_new w4 (.cells (In.cs ⟨op, d, s, t, u, a, k, q⟩) 24))
    replace B0 := Aside0.mk (B0.out.alloc B0.out.size (.cells (In.cs ⟨op, d, s, t, u, a, k, q⟩) 24))
    obtain ⟨x0, x1, x2, x3, x4, x5, x6, x7⟩ := in_cells K1.out
    simp only [In.cs] at x0 x1 x2 x3 x4 x5 x6 x7
    clear hb4
    go_wp2_with fail
    refine (C3.out _).mono ?_
    rintro e w5 ⟨rfl, hb5⟩
    replace B0 := Aside0.mk (B0.out.trans (hb5.mono B0.out.size))
    replace K1 := Aside0.mk (blk_keep hb5 K1.out)
    replace K2 := Aside0.mk (blk_keep hb5 K2.out)
    clear hb5
    go_wp2_with fail
    refine (C4.out _).mono ?_
    rintro e w6 ⟨rfl, hb6⟩
    replace B0 := Aside0.mk (B0.out.trans (hb6.mono B0.out.size))
    replace K1 := Aside0.mk (blk_keep hb6 K1.out)
    replace K2 := Aside0.mk (blk_keep hb6 K2.out)
    obtain ⟨x0, x1, x2, x3, x4, x5, x6, x7⟩ := in_cells K1.out
    obtain ⟨y0, y1, y2, y3, y4, y5, y6, y7⟩ := in_cells K2.out
    clear hb6
    go_wp2_with fail
    refine (awake6_calls _ (he.below B0.out)).mono ?_
    rintro e w7 ⟨rfl, hb7⟩
    go_wp2
    go_ret
    exact ⟨rfl, B0.out.trans (hb7.mono B0.out.size)⟩
  · rw [e1] at C1
    rw [hr] at C2
    clear C4 C5 hpt keq e1
    dsimp only [In.v] at C1 C2 C3
    replace C1 := Aside0.mk C1
    replace C2 := Aside0.mk C2
    replace C3 := Aside0.mk C3
    replace hk := Aside0.mk hk
    go_enter Tryd.func4, Tryd.ntmps4
    go_wp2_with fail
    refine (C1.out _ (he.below B0.out)).mono ?_
    rintro e w1 ⟨rfl, hb1⟩
    replace B0 := Aside0.mk (B0.out.trans (hb1.mono B0.out.size))
    replace K1 := Aside0.mk (blk_keep hb1 K1.out)
    obtain ⟨x0, x1, x2, x3, x4, x5, x6, x7⟩ := in_cells K1.out
    clear hb1
    go_wp2_with fail
    refine (C3.out _).mono ?_
    rintro e w2 ⟨rfl, hb2⟩
    replace B0 := Aside0.mk (B0.out.trans (hb2.mono B0.out.size))
    replace K1 := Aside0.mk (blk_keep hb2 K1.out)
    clear hb2
    go_wp2_with fail
    refine (C2.out _).mono ?_
    rintro e w3 ⟨rfl, hb3⟩
    replace B0 := Aside0.mk (B0.out.trans (hb3.mono B0.out.size))
    replace K1 := Aside0.mk (blk_keep hb3 K1.out)
    clear hb3
    go_wp2_with fail
    refine (awake6_calls _ (he.below B0.out)).mono ?_
    rintro e w4 ⟨rfl, hb4⟩
    go_wp2
    go_ret
    exact ⟨rfl, B0.out.trans (hb4.mono B0.out.size)⟩
end Go.Proofs.YtbkbkikbfbmbdaaDoor

/- InstUnlike: whatever the two instructions: true; the memory that was there is as it was. -/
import Derived.Test.YtfbblligbacppaaDoorAwake6
import Derived.Test.YtfbblligbacppaaDoorRoundPlain
import Derived.Deep.RegionHeld3
namespace Go.Proofs.YtfbblligbacppaaDoor
open Go.RowKit Go.Proofs.YtfbblligbacppaaDoorW.PrintWords
set_option linter.unusedVariables false
set_option linter.unusedSimpArgs false

theorem textR_cases (i : In) : (rightF i 1073741824 = true ∧ textR i = (textF i, 0)) ∨ (rightF i 1073741824 = false ∧ textR i = ([], 1)) := by
  unfold textR
  cases rightF i 1073741824 with
  | true => exact Or.inl ⟨rfl, by simp⟩
  | false => exact Or.inr ⟨rfl, by simp⟩
theorem in_cells {W : World} {g : Nat} {T : TypeId} {op d s t u a k q : Int} (h : W.heap[g]? = some (.cells (In.cs ⟨op, d, s, t, u, a, k, q⟩) T (0, 0))) :
    W.cell? ⟨g, 0, none⟩ = some (.int .i64 op) ∧ W.cell? ⟨g, 1, none⟩ = some (.int .i64 d) ∧ W.cell? ⟨g, 2, none⟩ = some (.int .i64 s) ∧ W.cell? ⟨g, 3, none⟩ = some (.int .i64 t) ∧
    W.cell? ⟨g, 4, none⟩ = some (.int .i64 u) ∧ W.cell? ⟨g, 5, none⟩ = some (.int .i64 a) ∧ W.cell? ⟨g, 6, none⟩ = some (.int .u32 k) ∧ W.cell? ⟨g, 7, none⟩ = some (.int .i64 q) :=
  ⟨(blk_cell h 0).trans rfl, (blk_cell h 1).trans rfl, (blk_cell h 2).trans rfl, (blk_cell h 3).trans rfl, (blk_cell h 4).trans rfl, (blk_cell h 5).trans rfl, (blk_cell h 6).trans rfl, (blk_cell h 7).trans rfl⟩

set_option maxHeartbeats 4000000 in
set_option maxRecDepth 100000 in
theorem law_unlike (op d s t u a k q op2 d2 s2 t2 u2 a2 k2 q2 : Int) (hk : 0 ≤ k ∧ k ≤ 4294967295) (hk2 : 0 ≤ k2 ∧ k2 ≤ 4294967295) (w : World) (he : Env w) :
    Calls Tryd.prog 6 #[.agg #[.int .i64 op, .int .i64 d, .int .i64 s, .int .i64 t, .int .i64 u, .int .i64 a, .int .u32 k, .int .i64 q], .agg #[.int .i64 op2, .int .i64 d2, .int .i64 s2, .int .i64 t2, .int .i64 u2, .int .i64 a2, .int .u32 k2, .int .i64 q2]] w fun e w' => e = .returned (.bool true) ∧ Below w.heap.size w w' := by
  have C1 := fun (W : World) (heW : Env W) => text_calls ⟨op, d, s, t, u, a, k, q⟩ hk W heW
  have C2 := fun (W : World) (heW : Env W) => text_calls ⟨op2, d2, s2, t2, u2, a2, k2, q2⟩ hk2 W heW
  have keq : ∀ W, (binOp .eql 24 (In.v ⟨op, d, s, t, u, a, k, q⟩) (In.v ⟨op2, d2, s2, t2, u2, a2, k2, q2⟩)).run Tryd.prog W = .ok (.bool (decide ((⟨op, d, s, t, u, a, k, q⟩ : In) = ⟨op2, d2, s2, t2, u2, a2, k2, q2⟩))) W := fun W => eql_a _ _ W
  have hinj := fun h1 h2 => text_inj (i := ⟨op, d, s, t, u, a, k, q⟩) (j := ⟨op2, d2, s2, t2, u2, a2, k2, q2⟩) h1 h2 hk hk2
  have B0 := Aside0.mk ((Below.refl w.heap.size w).alloc (Nat.le_refl _) (.cells (In.cs ⟨op, d, s, t, u, a, k, q⟩) 24))
  replace B0 := Aside0.mk (B0.out.alloc B0.out.size (.cells (In.cs ⟨op2, d2, s2, t2, u2, a2, k2, q2⟩) 24))
  have K1 := Aside0.mk (blk_old (blk_new w (.cells (In.cs ⟨op, d, s, t, u, a, k, q⟩) 24)) (.cells (In.cs ⟨op2, d2, s2, t2, u2, a2, k2, q2⟩) 24))
  have K2 := Aside0.mk (blk_new2 w (.cells (In.cs ⟨op, d, s, t, u, a, k, q⟩) 24) (.cells (In.cs ⟨op2, d2, s2, t2, u2, a2, k2, q2⟩) 24))
  have hinj' := Aside0.mk hinj
  clear hinj
  have hc1 := Aside0.mk (textR_cases ⟨op, d, s, t, u, a, k, q⟩)
  have hc2 := Aside0.mk (textR_cases ⟨op2, d2, s2, t2, u2, a2, k2, q2⟩)
  generalize textF ⟨op, d, s, t, u, a, k, q⟩ = la at *
  generalize textF ⟨op2, d2, s2, t2, u2, a2, k2, q2⟩ = lb at *
  generalize textR ⟨op, d, s, t, u, a, k, q⟩ = R1 at *
  generalize textR ⟨op2, d2, s2, t2, u2, a2, k2, q2⟩ = R2 at *
  generalize rightF ⟨op, d, s, t, u, a, k, q⟩ 1073741824 = b1 at *
  generalize rightF ⟨op2, d2, s2, t2, u2, a2, k2, q2⟩ 1073741824 = b2 at *
  generalize hdec : decide ((⟨op, d, s, t, u, a, k, q⟩ : In) = ⟨op2, d2, s2, t2, u2, a2, k2, q2⟩) = eqb at keq
  dsimp only [In.v] at C1 C2 keq
  replace C1 := Aside0.mk C1
  replace C2 := Aside0.mk C2
  replace hdec := Aside0.mk hdec
  replace hk := Aside0.mk hk
  replace hk2 := Aside0.mk hk2
  rcases hc1.out with ⟨rfl, rfl⟩ | ⟨rfl, rfl⟩
  · rcases hc2.out with ⟨rfl, rfl⟩ | ⟨rfl, rfl⟩
    · clear hc1 hc2
      have hh : (decide (la = lb)) = eqb := by rw [← hdec.out]; exact decide_eq_decide.2 (hinj'.out rfl rfl)
      replace hh := Aside0.mk hh
      by_cases hl : la = lb
      · have hb : eqb = true := by rw [← hh.out]; exact decide_eq_true hl
        subst hb hl
        clear hh
        go_enter Tryd.func6, Tryd.ntmps6
        go_wp2_with fail
        refine (C1.out _ (he.below B0.out)).mono ?_
        rintro e w1 ⟨rfl, hb1⟩
        replace B0 := Aside0.mk (B0.out.trans (hb1.mono B0.out.size))
        replace K1 := Aside0.mk (blk_keep hb1 K1.out)
        replace K2 := Aside0.mk (blk_keep hb1 K2.out)
        obtain ⟨x0, x1, x2, x3, x4, x5, x6, x7⟩ := in_cells K2.out
        clear hb1
        go_wp2_with fail
        refine (C2.out _ (he.below B0.out)).mono ?_
        rintro e w2 ⟨rfl, hb2⟩
        replace B0 := Aside0.mk (B0.out.trans (hb2.mono B0.out.size))
        replace K1 := Aside0.mk (blk_keep hb2 K1.out)
        replace K2 := Aside0.mk (blk_keep hb2 K2.out)
        obtain ⟨x0, x1, x2, x3, x4, x5, x6, x7⟩ := in_cells K2.out
        obtain ⟨y0, y1, y2, y3, y4, y5, y6, y7⟩ := in_cells K1.out
        clear hb2
        go_wp2_with fail
        refine (awake6_calls _ (he.below B0.out)).mono ?_
        rintro e w3 ⟨rfl, hb3⟩
        go_wp2
        go_ret
        exact ⟨rfl, B0.out.trans (hb3.mono B0.out.size)⟩
      · have hb : eqb = false := by rw [← hh.out]; exact decide_eq_false hl
        subst hb
        have hs1 : (la == lb) = false := by rw [beq_eq_false_iff_ne]; exact hl
        have hs2 : decide (la = lb) = false := decide_eq_false hl
        clear hh
        go_enter Tryd.func6, Tryd.ntmps6
        go_wp2_with fail
        refine (C1.out _ (he.below B0.out)).mono ?_
        rintro e w1 ⟨rfl, hb1⟩
        replace B0 := Aside0.mk (B0.out.trans (hb1.mono B0.out.size))
        replace K1 := Aside0.mk (blk_keep hb1 K1.out)
        replace K2 := Aside0.mk (blk_keep hb1 K2.out)
        obtain ⟨x0, x1, x2, x3, x4, x5, x6, x7⟩ := in_cells K2.out
        clear hb1
        go_wp2_with fail
        refine (C2.out _ (he.below B0.out)).mono ?_
        rintro e w2 ⟨rfl, hb2⟩
        replace B0 := Aside0.mk (B0.out.trans (hb2.mono B0.out.size))
        replace K1 := Aside0.mk (blk_keep hb2 K1.out)
        replace K2 := Aside0.mk (blk_keep hb2 K2.out)
        obtain ⟨x0, x1, x2, x3, x4, x5, x6, x7⟩ := in_cells K2.out
        obtain ⟨y0, y1, y2, y3, y4, y5, y6, y7⟩ := in_cells K1.out
        clear hb2
        go_wp2_with fail
        refine (awake6_calls _ (he.below B0.out)).mono ?_
        rintro e w3 ⟨rfl, hb3⟩
        go_wp2
        go_ret
        exact ⟨rfl, B0.out.trans (hb3.mono B0.out.size)⟩
    · clear hc1 hc2
      go_enter Tryd.func6, Tryd.ntmps6
      go_wp2_with fail
      refine (C1.out _ (he.below B0.out)).mono ?_
      rintro e w1 ⟨rfl, hb1⟩
      replace B0 := Aside0.mk (B0.out.trans (hb1.mono B0.out.size))
      replace K1 := Aside0.mk (blk_keep hb1 K1.out)
      replace K2 := Aside0.mk (blk_keep hb1 K2.out)
      obtain ⟨x0, x1, x2, x3, x4, x5, x6, x7⟩ := in_cells K2.out
      clear hb1
      go_wp2_with fail
      refine (C2.out _ (he.below B0.out)).mono ?_
      rintro e w2 ⟨rfl, hb2⟩
      replace B0 := Aside0.mk (B0.out.trans (hb2.mono B0.out.size))
      replace K1 := Aside0.mk (blk_keep hb2 K1.out)
      replace K2 := Aside0.mk (blk_keep hb2 K2.out)
      obtain ⟨x0, x1, x2, x3, x4, x5, x6, x7⟩ := in_cells K2.out
      obtain ⟨y0, y1, y2, y3, y4, y5, y6, y7⟩ := in_cells K1.out
      clear hb2
      go_wp2_with fail
      refine (awake6_calls _ (he.below B0.out)).mono ?_
      rintro e w3 ⟨rfl, hb3⟩
      go_wp2
      go_ret
      exact ⟨rfl, B0.out.trans (hb3.mono B0.out.size)⟩
  · clear hc1 hc2
    go_enter Tryd.func6, Tryd.ntmps6
    go_wp2_with fail
    refine (C1.out _ (he.below B0.out)).mono ?_
    rintro e w1 ⟨rfl, hb1⟩
    replace B0 := Aside0.mk (B0.out.trans (hb1.mono B0.out.size))
    replace K1 := Aside0.mk (blk_keep hb1 K1.out)
    replace K2 := Aside0.mk (blk_keep hb1 K2.out)
    obtain ⟨x0, x1, x2, x3, x4, x5, x6, x7⟩ := in_cells K2.out
    clear hb1
    go_wp2_with fail
    refine (C2.out _ (he.below B0.out)).mono ?_
    rintro e w2 ⟨rfl, hb2⟩
    replace B0 := Aside0.mk (B0.out.trans (hb2.mono B0.out.size))
    replace K1 := Aside0.mk (blk_keep hb2 K1.out)
    replace K2 := Aside0.mk (blk_keep hb2 K2.out)
    obtain ⟨x0, x1, x2, x3, x4, x5, x6, x7⟩ := in_cells K2.out
    obtain ⟨y0, y1, y2, y3, y4, y5, y6, y7⟩ := in_cells K1.out
    clear hb2
    go_wp2_with fail
    refine (awake6_calls _ (he.below B0.out)).mono ?_
    rintro e w3 ⟨rfl, hb3⟩
    go_wp2
    go_ret
    exact ⟨rfl, B0.out.trans (hb3.mono B0.out.size)⟩
end Go.Proofs.YtfbblligbacppaaDoor

/- (*asm.source).line: an instruction is appended. Written by gen_line.py. -/
import Derived.Test.YthhjhbgimdiboaaDoorAsmLine
import Derived.Test.YthhjhbgimdiboaaDoorAsmMid
namespace Go.Proofs.YthhjhbgimdiboaaDoor
open Go.RowKit Go.Proofs.YthhjhbgimdiboaaDoorW.PrintWords
set_option linter.unusedVariables false
set_option linter.unusedSimpArgs false

set_option maxHeartbeats 16000000 in
set_option maxRecDepth 100000 in
theorem line_add (W : World) (base gx bm : Nat) (v0 v1 v2 : Value) (x : Src) (s : List UInt8) (n : Int) (he : Env W) (hX : SrcAt W base gx bm v0 v1 v2 x) (hs : s.length ≤ 90000) (hb0 : base ≤ W.heap.size)
    (hend : s.getLast? = some 10) (hnot : ¬ (s.dropLast.getLast? = some 58 ∧ nameB s.dropLast.dropLast = true)) (hgood : (oneF s.dropLast).2.2 = true) (h64 : x.l.length < 64) (hnl : x.names.length = x.l.length) (hrl : x.rows.length = x.l.length) :
    Calls Tryd.prog 30 #[.pointer (some ⟨gx, 0, none⟩), .string ⟨s.toArray⟩, .int .i64 n] W fun e W1 => e = .returned (.int .i64 (lineF x s n).2) ∧
      ∃ u0 u1 u2, SrcAt W1 base gx bm u0 u1 u2 (lineF x s n).1 ∧ LineKeeps W W1 base gx bm v0 v1 v2 u0 u1 u2 := by
  have hF : lineF x s n = ({ x with l := x.l ++ [(oneF s.dropLast).1], names := x.names ++ [(oneF s.dropLast).2.1], rows := x.rows ++ [n] }, 0) := by
    unfold lineF
    rw [if_neg (by rw [hend]; simp)]
    dsimp only
    rw [if_neg hnot, hgood, if_neg (by simp), if_neg (by omega)]
  generalize lineF x s n = fin at hF ⊢
  have hl1 : s.dropLast.length ≤ 90000 := by simp; omega
  have C1 := fun W' => cut_calls s 10 (by omega) W'
  have C2 := fun W' => cut_calls s.dropLast 58 (by omega) W'
  have C4 := fun (W' : World) (heW : Env W') => one_calls s.dropLast W' heW hl1
  have hc1 : cutF s 10 = (s.dropLast, true) := by unfold cutF; rw [if_pos hend]
  rw [hc1] at C1
  have hc2 : ∃ p is, cutF s.dropLast 58 = (p, is) ∧ (is = true → p.length ≤ 90000 ∧ nameB p = false) := by
    by_cases hcol : s.dropLast.getLast? = some 58
    · refine ⟨s.dropLast.dropLast, true, by unfold cutF; rw [if_pos hcol], fun _ => ⟨by simp; omega, ?_⟩⟩
      simpa using fun h => hnot ⟨hcol, h⟩
    · exact ⟨s.dropLast, false, by unfold cutF; rw [if_neg hcol], fun h => by cases h⟩
  obtain ⟨p, is, hc2, hp⟩ := hc2
  rw [hc2] at C2
  generalize s.dropLast = s1 at *
  generalize oneF s1 = r at *
  obtain ⟨⟨op, d, s', t, u, a, k, q⟩, tl, ok⟩ := r
  dsimp only at hF hgood C4
  subst hgood
  dsimp only [In.v] at C4
  obtain ⟨A, c, rfl⟩ : ∃ A c, v0 = .slice A x.l.length c := by
    rcases hX.r0.2 with ⟨rfl, h0⟩ | ⟨g, cap, cur, rfl, _⟩
    · exact ⟨none, 0, by rw [h0]⟩
    · exact ⟨_, _, rfl⟩
  replace C1 := Aside0.mk C1
  replace C2 := Aside0.mk C2
  replace C4 := Aside0.mk C4
  replace hX := Aside0.mk hX
  replace hF := Aside0.mk hF
  replace hp := Aside0.mk hp
  have hcut0 : (n : Int) = n := rfl
  clear hc1 hc2 hend hnot hcut0
  go_enter Tryd.func30, Tryd.ntmps30
  go_wp2_with fail
  refine (C1.out _).mono ?_
  rintro e w1 ⟨rfl, hb1⟩
  go_wp2_with fail
  refine (C2.out _).mono ?_
  rintro e w2 ⟨rfl, hb2⟩
  have hB := Aside0.mk (hb1.trans (hb2.mono hb1.size))
  clear hb1 hb2 C1 C2
  go_upto_region 5 with fail
  go_cut [31] (fun v wx => v = .bool false ∧ Aside0 (Below W.heap.size W wx))
  case first =>
    cases is with
    | false =>
      go_wp2
      go_meet
      exact ⟨rfl, hB⟩
    | true =>
      have C3 := name_calls7 p w2 (by have := (hp.out rfl).1; omega)
      rw [(hp.out rfl).2] at C3
      replace C3 := Aside0.mk C3
      go_wp2_with fail
      refine C3.out.mono ?_
      rintro e w3 ⟨rfl, hb3⟩
      go_wp2
      go_meet
      exact ⟨rfl, ⟨hB.out.trans (hb3.mono hB.out.size)⟩⟩
  case rest =>
    obtain ⟨rfl, hB⟩ := hcut
    go_wp2_with fail
    refine (C4.out _ (he.below hB.out)).mono ?_
    rintro e w4 ⟨rfl, hb4⟩
    have hB4 := Aside0.mk ((hB.out.trans (hb4.mono hB.out.size)).alloc (hB.out.trans (hb4.mono hB.out.size)).size (.cells (In.cs ⟨op, d, s', t, u, a, k, q⟩) 67))
    have hX4 := Aside0.mk (hX.out.keep hB4.out)
    have hE4 := Aside0.mk (blk_new w4 (.cells (In.cs ⟨op, d, s', t, u, a, k, q⟩) 67))
    have hle := (hB.out.trans (hb4.mono hB.out.size)).size
    have hM := Aside0.mk (show Mid W (w4.alloc (.cells (In.cs ⟨op, d, s', t, u, a, k, q⟩) 67)) base gx bm w4.heap.size (.slice A x.l.length c) v1 v2 (.slice A x.l.length c) v1 v2 x.l x.names x.rows x.labels ⟨op, d, s', t, u, a, k, q⟩ from
      ⟨hX4.out.s, hE4.out, hX4.out.r0, hX4.out.r1, hX4.out.r2, hX4.out.m, hX4.out.gb, hX4.out.bb, fun k hk => Nat.ne_of_lt (Nat.lt_of_lt_of_le (own_lt hX.out.r0 k hk) hle), .of_below hB4.out hb0⟩)
    clear hX4 hE4 hle hB hB4 hb4 C4
    have c0 : (w4.alloc (.cells (In.cs ⟨op, d, s', t, u, a, k, q⟩) 67)).cell? ⟨gx, 0, none⟩ = some (.slice A x.l.length c) := (blk_cell hM.out.s 0).trans rfl
    have h64a : decide (64 ≤ (x.l.length : Int)) = false := decide_eq_false (by omega)
    have h64b : ¬ 64 ≤ x.l.length := by omega
    obtain ⟨b, hb⟩ : ∃ b, w4.heap.size = b := ⟨_, rfl⟩
    obtain ⟨w5, hw5⟩ : ∃ y, w4.alloc (.cells (In.cs ⟨op, d, s', t, u, a, k, q⟩) 67) = y := ⟨_, rfl⟩
    rw [hw5, hb] at hM
    rw [hw5] at c0
    simp only [In.cs] at hw5
    go_upto_region 16 with fail
    try rw [hw5]
    try rw [hb]
    clear hw5 hb c0
    have hS := mid_S (hM.out.keep (below_drew (Below.refl _ _)))
    refine wp_region_late [26] (S := midS gx b (.slice A x.l.length c) v1 v2 ⟨op, d, s', t, u, a, k, q⟩) (by kernel_rfl) hS (fun hS0 => ?_)
    replace hM := hM.out.keep (below_drew (Below.refl _ _))
    generalize w5.drew = w5 at *
    have hrow : x.l.length ≤ 1000000 := by omega
    have hrow1 : x.names.length ≤ 1000000 := by omega
    have hrow2 : x.rows.length ≤ 1000000 := by omega
    clear h64 h64a h64b hnl hrl he

    refine wpAnyL_takeY (i := 0) (v := ?_) (getw rfl) (by kernel_rfl) (fun _ _ _ h => h) (.inl ⟨by rfl, ?_⟩) (fun _ => by assumption) ?_
    rotate_left
    · intro w; go_simp; try with_reducible rfl
    try simp only [Act.put, List.setIfInBounds_toArray, List.set_cons_zero, List.set_cons_succ]
    refine wpAnyL_takeY (i := 1) (v := ?_) (getw rfl) (by kernel_rfl) (fun _ _ _ h => h) (.inl ⟨by rfl, ?_⟩) (fun _ => by assumption) ?_
    rotate_left
    · intro w; go_simp; try with_reducible rfl
    try simp only [Act.put, List.setIfInBounds_toArray, List.set_cons_zero, List.set_cons_succ]
    refine wpAnyL_takeY (i := 2) (v := ?_) (getw rfl) (by kernel_rfl) (fun _ _ _ h => h) (.inl ⟨by rfl, ?_⟩) (fun _ => by assumption) ?_
    rotate_left
    · intro w; go_simp; try with_reducible rfl
    try simp only [Act.put, List.setIfInBounds_toArray, List.set_cons_zero, List.set_cons_succ]
    refine wpAnyL_takeY (i := 3) (v := ?_) (getw rfl) (by kernel_rfl) (fun _ _ _ h => h) (.inl ⟨by rfl, ?_⟩) (fun _ => by assumption) ?_
    rotate_left
    · intro w; go_simp; try with_reducible rfl
    try simp only [Act.put, List.setIfInBounds_toArray, List.set_cons_zero, List.set_cons_succ]
    refine wpAnyL_takeY (i := 4) (v := ?_) (getw rfl) (by kernel_rfl) (fun _ _ _ h => h) (.inl ⟨by rfl, ?_⟩) (fun _ => by assumption) ?_
    rotate_left
    · intro w; go_simp; try with_reducible rfl
    try simp only [Act.put, List.setIfInBounds_toArray, List.set_cons_zero, List.set_cons_succ]
    refine wpAnyL_takeY (i := 5) (v := ?_) (getw rfl) (by kernel_rfl) (fun _ _ _ h => h) (.inl ⟨by rfl, ?_⟩) (fun _ => by assumption) ?_
    rotate_left
    · intro w; go_simp; try with_reducible rfl
    try simp only [Act.put, List.setIfInBounds_toArray, List.set_cons_zero, List.set_cons_succ]
    refine wpAnyL_take (i := 6) (v := ?_) (getw rfl) (by kernel_rfl) (fun _ _ _ h => h) (.inl ⟨by rfl, ?_⟩) (by assumption) ?_
    rotate_left
    · intro w hSw; obtain ⟨k0, k1, k2, k3, k4, k5, k6, k7, k8, k9, k10⟩ := hSw; go_simp; try with_reducible rfl
    try simp only [Act.put, List.setIfInBounds_toArray, List.set_cons_zero, List.set_cons_succ]
    refine wpAnyL_take (i := 7) (v := ?_) (getw rfl) (by kernel_rfl) (fun _ _ _ h => h) (.inl ⟨by rfl, ?_⟩) (by assumption) ?_
    rotate_left
    · intro w hSw; obtain ⟨k0, k1, k2, k3, k4, k5, k6, k7, k8, k9, k10⟩ := hSw; go_simp; try with_reducible rfl
    try simp only [Act.put, List.setIfInBounds_toArray, List.set_cons_zero, List.set_cons_succ]
    refine wpAnyL_takeY (i := 10) (v := ?_) (getw rfl) (by kernel_rfl) (fun _ _ _ h => h) (.inl ⟨by rfl, ?_⟩) (fun _ => by assumption) ?_
    rotate_left
    · intro w; go_simp; try with_reducible rfl
    try simp only [Act.put, List.setIfInBounds_toArray, List.set_cons_zero, List.set_cons_succ]
    refine wpAnyL_takeY (i := 11) (v := ?_) (getw rfl) (by kernel_rfl) (fun _ _ _ h => h) (.inl ⟨by rfl, ?_⟩) (fun _ => by assumption) ?_
    rotate_left
    · intro w; go_simp; try with_reducible rfl
    try simp only [Act.put, List.setIfInBounds_toArray, List.set_cons_zero, List.set_cons_succ]
    refine wpAnyL_takeY (i := 12) (v := ?_) (getw rfl) (by kernel_rfl) (fun _ _ _ h => h) (.inl ⟨by rfl, ?_⟩) (fun _ => by assumption) ?_
    rotate_left
    · intro w; go_simp; try with_reducible rfl
    try simp only [Act.put, List.setIfInBounds_toArray, List.set_cons_zero, List.set_cons_succ]
    refine wpAnyL_take (i := 13) (v := ?_) (getw rfl) (by kernel_rfl) (fun _ _ _ h => h) (.inl ⟨by rfl, ?_⟩) (by assumption) ?_
    rotate_left
    · intro w hSw; obtain ⟨k0, k1, k2, k3, k4, k5, k6, k7, k8, k9, k10⟩ := hSw; go_simp; try with_reducible rfl
    try simp only [Act.put, List.setIfInBounds_toArray, List.set_cons_zero, List.set_cons_succ]
    refine wpAnyL_takeY (i := 14) (v := ?_) (getw rfl) (by kernel_rfl) (fun _ _ _ h => h) (.inl ⟨by rfl, ?_⟩) (fun _ => by assumption) ?_
    rotate_left
    · intro w; go_simp; try with_reducible rfl
    try simp only [Act.put, List.setIfInBounds_toArray, List.set_cons_zero, List.set_cons_succ]
    refine wpAnyL_takeY (i := 17) (v := ?_) (getw rfl) (by kernel_rfl) (fun _ _ _ h => h) (.inl ⟨by rfl, ?_⟩) (fun _ => by assumption) ?_
    rotate_left
    · intro w; go_simp; try with_reducible rfl
    try simp only [Act.put, List.setIfInBounds_toArray, List.set_cons_zero, List.set_cons_succ]
    refine wpAnyL_takeY (i := 18) (v := ?_) (getw rfl) (by kernel_rfl) (fun _ _ _ h => h) (.inl ⟨by rfl, ?_⟩) (fun _ => by assumption) ?_
    rotate_left
    · intro w; go_simp; try with_reducible rfl
    try simp only [Act.put, List.setIfInBounds_toArray, List.set_cons_zero, List.set_cons_succ]
    refine wpAnyL_takeY (i := 19) (v := ?_) (getw rfl) (by kernel_rfl) (fun _ _ _ h => h) (.inl ⟨by rfl, ?_⟩) (fun _ => by assumption) ?_
    rotate_left
    · intro w; go_simp; try with_reducible rfl
    try simp only [Act.put, List.setIfInBounds_toArray, List.set_cons_zero, List.set_cons_succ]
    refine wpAnyL_take (i := 20) (v := ?_) (getw rfl) (by kernel_rfl) (fun _ _ _ h => h) (.inl ⟨by rfl, ?_⟩) (by assumption) ?_
    rotate_left
    · intro w hSw; obtain ⟨k0, k1, k2, k3, k4, k5, k6, k7, k8, k9, k10⟩ := hSw; go_simp; try with_reducible rfl
    try simp only [Act.put, List.setIfInBounds_toArray, List.set_cons_zero, List.set_cons_succ]
    refine wpAnyL_takeY (i := 21) (v := ?_) (getw rfl) (by kernel_rfl) (fun _ _ _ h => h) (.inl ⟨by rfl, ?_⟩) (fun _ => by assumption) ?_
    rotate_left
    · intro w; go_simp; try with_reducible rfl
    try simp only [Act.put, List.setIfInBounds_toArray, List.set_cons_zero, List.set_cons_succ]
    have hM0 := hM
    clear hM
    refine wpAnyL_ready (rs := [8, 15, 22]) (by kernel_rfl) (by simp) ?_
    refine AllReadyL.cons (getw rfl) (fun K hK => ?_) ?_
    refine step_bin rfl (.tmp 75) rfl ⟨op, d, s', t, u, a, k, q⟩ rfl (fun g8 w1 hb hy => ?_)
    have hM1 := hM0.keep hb
    have hg8 := hy
    refine hK.out _ _ (fun _ => mid_S hM1) (fun hS1 => ?_)
    replace hS1 := hS1 rfl
    clear hS0 hM0
    try simp only [Act.put, List.setIfInBounds_toArray, List.set_cons_zero, List.set_cons_succ]
    refine wpAnyL_ready (rs := [9, 15, 22]) (by kernel_rfl) (by simp) ?_
    refine AllReadyL.cons (getw rfl) (fun K hK => ?_) ?_
    refine step_ain rfl (.tmp 74) (.tmp 76) rfl base g8 ⟨op, d, s', t, u, a, k, q⟩ _ x.l rfl hM1.q0 rfl hg8 hrow hM1.hbs (fun u0 w2 hr hg ha => ?_)
    have hM2 := hM1.a0 hr hg ha
    refine hK.out _ _ (fun _ => mid_S hM2) (fun hS2 => ?_)
    replace hS2 := hS2 rfl
    clear hS1 hM1
    try simp only [Act.put, List.setIfInBounds_toArray, List.set_cons_zero, List.set_cons_succ]
    refine wpAnyL_ready (rs := [15, 22]) (by kernel_rfl) (by simp) ?_
    refine AllReadyL.cons (getw rfl) (fun K hK => ?_) ?_
    refine step_bnm rfl (.tmp 82) rfl tl rfl (fun g15 w3 hb hy => ?_)
    have hM3 := hM2.keep hb
    have hg15 := hy
    refine hK.out _ _ (fun _ => mid_S hM3) (fun hS3 => ?_)
    replace hS3 := hS3 rfl
    clear hS2 hM2
    try simp only [Act.put, List.setIfInBounds_toArray, List.set_cons_zero, List.set_cons_succ]
    refine wpAnyL_ready (rs := [16, 22]) (by kernel_rfl) (by simp) ?_
    refine AllReadyL.cons (getw rfl) (fun K hK => ?_) ?_
    refine step_anm rfl (.tmp 81) (.tmp 83) rfl base g15 tl _ x.names rfl hM3.q1 rfl hg15 hrow1 hM3.hbs (fun u1 w4 hr hg ha => ?_)
    have hM4 := hM3.a1 hr hg ha
    refine hK.out _ _ (fun _ => mid_S hM4) (fun hS4 => ?_)
    replace hS4 := hS4 rfl
    clear hS3 hM3
    try simp only [Act.put, List.setIfInBounds_toArray, List.set_cons_zero, List.set_cons_succ]
    refine wpAnyL_ready (rs := [22]) (by kernel_rfl) (by simp) ?_
    refine AllReadyL.cons (getw rfl) (fun K hK => ?_) ?_
    refine step_bint rfl (.tmp 89) rfl n rfl (fun g22 w5 hb hy => ?_)
    have hM5 := hM4.keep hb
    have hg22 := hy
    refine hK.out _ _ (fun _ => mid_S hM5) (fun hS5 => ?_)
    replace hS5 := hS5 rfl
    clear hS4 hM4
    try simp only [Act.put, List.setIfInBounds_toArray, List.set_cons_zero, List.set_cons_succ]
    refine wpAnyL_ready (rs := [23]) (by kernel_rfl) (by simp) ?_
    refine AllReadyL.cons (getw rfl) (fun K hK => ?_) ?_
    refine step_aint rfl (.tmp 88) (.tmp 90) rfl base g22 n _ x.rows rfl hM5.q2 rfl hg22 hrow2 hM5.hbs (fun u2 wL hr hg ha => ?_)
    have hML := hM5.a2 hr hg ha
    refine hK.out _ _ (fun _ => mid_S hML) (fun hSL => ?_)
    replace hSL := hSL rfl
    clear hS5 hM5
    try simp only [Act.put, List.setIfInBounds_toArray, List.set_cons_zero, List.set_cons_succ]
    rotate_left
    exact AllReadyL.nil
    exact AllReadyL.nil
    refine AllReadyL.cons (getw rfl) (fun K hK => ?_) ?_
    refine step_bint rfl (.tmp 89) rfl n rfl (fun g22 w7 hb hy => ?_)
    have hM7 := hM3.keep hb
    replace hg15 := blk_keep hb hg15
    have hg22 := hy
    refine hK.out _ _ (fun _ => mid_S hM7) (fun hS7 => ?_)
    replace hS7 := hS7 rfl
    clear hS3 hM3
    try simp only [Act.put, List.setIfInBounds_toArray, List.set_cons_zero, List.set_cons_succ]
    refine wpAnyL_ready (rs := [16]) (by kernel_rfl) (by simp) ?_
    refine AllReadyL.cons (getw rfl) (fun K hK => ?_) ?_
    refine step_anm rfl (.tmp 81) (.tmp 83) rfl base g15 tl _ x.names rfl hM7.q1 rfl hg15 hrow1 hM7.hbs (fun u1 w8 hr hg ha => ?_)
    have hM8 := hM7.a1 hr hg ha
    replace hg22 := blk_grown hg22 hg (own_apart hM7.q1 hg22 (by decide))
    refine hK.out _ _ (fun _ => mid_S hM8) (fun hS8 => ?_)
    replace hS8 := hS8 rfl
    clear hS7 hM7
    try simp only [Act.put, List.setIfInBounds_toArray, List.set_cons_zero, List.set_cons_succ]
    refine wpAnyL_ready (rs := [23]) (by kernel_rfl) (by simp) ?_
    refine AllReadyL.cons (getw rfl) (fun K hK => ?_) ?_
    refine step_aint rfl (.tmp 88) (.tmp 90) rfl base g22 n _ x.rows rfl hM8.q2 rfl hg22 hrow2 hM8.hbs (fun u2 wL hr hg ha => ?_)
    have hML := hM8.a2 hr hg ha
    refine hK.out _ _ (fun _ => mid_S hML) (fun hSL => ?_)
    replace hSL := hSL rfl
    clear hS8 hM8
    try simp only [Act.put, List.setIfInBounds_toArray, List.set_cons_zero, List.set_cons_succ]
    rotate_left
    exact AllReadyL.nil
    exact AllReadyL.nil
    exact AllReadyL.nil
    refine AllReadyL.cons (getw rfl) (fun K hK => ?_) ?_
    refine step_bint rfl (.tmp 89) rfl n rfl (fun g22 w10 hb hy => ?_)
    have hM10 := hM2.keep hb
    have hg22 := hy
    refine hK.out _ _ (fun _ => mid_S hM10) (fun hS10 => ?_)
    replace hS10 := hS10 rfl
    clear hS2 hM2
    try simp only [Act.put, List.setIfInBounds_toArray, List.set_cons_zero, List.set_cons_succ]
    refine wpAnyL_ready (rs := [15]) (by kernel_rfl) (by simp) ?_
    refine AllReadyL.cons (getw rfl) (fun K hK => ?_) ?_
    refine step_bnm rfl (.tmp 82) rfl tl rfl (fun g15 w11 hb hy => ?_)
    have hM11 := hM10.keep hb
    replace hg22 := blk_keep hb hg22
    have hg15 := hy
    refine hK.out _ _ (fun _ => mid_S hM11) (fun hS11 => ?_)
    replace hS11 := hS11 rfl
    clear hS10 hM10
    try simp only [Act.put, List.setIfInBounds_toArray, List.set_cons_zero, List.set_cons_succ]
    refine wpAnyL_ready (rs := [16]) (by kernel_rfl) (by simp) ?_
    refine AllReadyL.cons (getw rfl) (fun K hK => ?_) ?_
    refine step_anm rfl (.tmp 81) (.tmp 83) rfl base g15 tl _ x.names rfl hM11.q1 rfl hg15 hrow1 hM11.hbs (fun u1 w12 hr hg ha => ?_)
    have hM12 := hM11.a1 hr hg ha
    replace hg22 := blk_grown hg22 hg (own_apart hM11.q1 hg22 (by decide))
    refine hK.out _ _ (fun _ => mid_S hM12) (fun hS12 => ?_)
    replace hS12 := hS12 rfl
    clear hS11 hM11
    try simp only [Act.put, List.setIfInBounds_toArray, List.set_cons_zero, List.set_cons_succ]
    refine wpAnyL_ready (rs := [23]) (by kernel_rfl) (by simp) ?_
    refine AllReadyL.cons (getw rfl) (fun K hK => ?_) ?_
    refine step_aint rfl (.tmp 88) (.tmp 90) rfl base g22 n _ x.rows rfl hM12.q2 rfl hg22 hrow2 hM12.hbs (fun u2 wL hr hg ha => ?_)
    have hML := hM12.a2 hr hg ha
    refine hK.out _ _ (fun _ => mid_S hML) (fun hSL => ?_)
    replace hSL := hSL rfl
    clear hS12 hM12
    try simp only [Act.put, List.setIfInBounds_toArray, List.set_cons_zero, List.set_cons_succ]
    rotate_left
    exact AllReadyL.nil
    exact AllReadyL.nil
    exact AllReadyL.nil
    exact AllReadyL.nil
    refine AllReadyL.cons (getw rfl) (fun K hK => ?_) ?_
    refine step_bnm rfl (.tmp 82) rfl tl rfl (fun g15 w14 hb hy => ?_)
    have hM14 := hM1.keep hb
    replace hg8 := blk_keep hb hg8
    have hg15 := hy
    refine hK.out _ _ (fun _ => mid_S hM14) (fun hS14 => ?_)
    replace hS14 := hS14 rfl
    clear hS1 hM1
    try simp only [Act.put, List.setIfInBounds_toArray, List.set_cons_zero, List.set_cons_succ]
    refine wpAnyL_ready (rs := [9, 22]) (by kernel_rfl) (by simp) ?_
    refine AllReadyL.cons (getw rfl) (fun K hK => ?_) ?_
    refine step_ain rfl (.tmp 74) (.tmp 76) rfl base g8 ⟨op, d, s', t, u, a, k, q⟩ _ x.l rfl hM14.q0 rfl hg8 hrow hM14.hbs (fun u0 w15 hr hg ha => ?_)
    have hM15 := hM14.a0 hr hg ha
    replace hg15 := blk_grown hg15 hg (own_apart hM14.q0 hg15 (by decide))
    refine hK.out _ _ (fun _ => mid_S hM15) (fun hS15 => ?_)
    replace hS15 := hS15 rfl
    clear hS14 hM14
    try simp only [Act.put, List.setIfInBounds_toArray, List.set_cons_zero, List.set_cons_succ]
    refine wpAnyL_ready (rs := [16, 22]) (by kernel_rfl) (by simp) ?_
    refine AllReadyL.cons (getw rfl) (fun K hK => ?_) ?_
    refine step_anm rfl (.tmp 81) (.tmp 83) rfl base g15 tl _ x.names rfl hM15.q1 rfl hg15 hrow1 hM15.hbs (fun u1 w16 hr hg ha => ?_)
    have hM16 := hM15.a1 hr hg ha
    refine hK.out _ _ (fun _ => mid_S hM16) (fun hS16 => ?_)
    replace hS16 := hS16 rfl
    clear hS15 hM15
    try simp only [Act.put, List.setIfInBounds_toArray, List.set_cons_zero, List.set_cons_succ]
    refine wpAnyL_ready (rs := [22]) (by kernel_rfl) (by simp) ?_
    refine AllReadyL.cons (getw rfl) (fun K hK => ?_) ?_
    refine step_bint rfl (.tmp 89) rfl n rfl (fun g22 w17 hb hy => ?_)
    have hM17 := hM16.keep hb
    have hg22 := hy
    refine hK.out _ _ (fun _ => mid_S hM17) (fun hS17 => ?_)
    replace hS17 := hS17 rfl
    clear hS16 hM16
    try simp only [Act.put, List.setIfInBounds_toArray, List.set_cons_zero, List.set_cons_succ]
    refine wpAnyL_ready (rs := [23]) (by kernel_rfl) (by simp) ?_
    refine AllReadyL.cons (getw rfl) (fun K hK => ?_) ?_
    refine step_aint rfl (.tmp 88) (.tmp 90) rfl base g22 n _ x.rows rfl hM17.q2 rfl hg22 hrow2 hM17.hbs (fun u2 wL hr hg ha => ?_)
    have hML := hM17.a2 hr hg ha
    refine hK.out _ _ (fun _ => mid_S hML) (fun hSL => ?_)
    replace hSL := hSL rfl
    clear hS17 hM17
    try simp only [Act.put, List.setIfInBounds_toArray, List.set_cons_zero, List.set_cons_succ]
    rotate_left
    exact AllReadyL.nil
    exact AllReadyL.nil
    refine AllReadyL.cons (getw rfl) (fun K hK => ?_) ?_
    refine step_bint rfl (.tmp 89) rfl n rfl (fun g22 w19 hb hy => ?_)
    have hM19 := hM15.keep hb
    replace hg15 := blk_keep hb hg15
    have hg22 := hy
    refine hK.out _ _ (fun _ => mid_S hM19) (fun hS19 => ?_)
    replace hS19 := hS19 rfl
    clear hS15 hM15
    try simp only [Act.put, List.setIfInBounds_toArray, List.set_cons_zero, List.set_cons_succ]
    refine wpAnyL_ready (rs := [16]) (by kernel_rfl) (by simp) ?_
    refine AllReadyL.cons (getw rfl) (fun K hK => ?_) ?_
    refine step_anm rfl (.tmp 81) (.tmp 83) rfl base g15 tl _ x.names rfl hM19.q1 rfl hg15 hrow1 hM19.hbs (fun u1 w20 hr hg ha => ?_)
    have hM20 := hM19.a1 hr hg ha
    replace hg22 := blk_grown hg22 hg (own_apart hM19.q1 hg22 (by decide))
    refine hK.out _ _ (fun _ => mid_S hM20) (fun hS20 => ?_)
    replace hS20 := hS20 rfl
    clear hS19 hM19
    try simp only [Act.put, List.setIfInBounds_toArray, List.set_cons_zero, List.set_cons_succ]
    refine wpAnyL_ready (rs := [23]) (by kernel_rfl) (by simp) ?_
    refine AllReadyL.cons (getw rfl) (fun K hK => ?_) ?_
    refine step_aint rfl (.tmp 88) (.tmp 90) rfl base g22 n _ x.rows rfl hM20.q2 rfl hg22 hrow2 hM20.hbs (fun u2 wL hr hg ha => ?_)
    have hML := hM20.a2 hr hg ha
    refine hK.out _ _ (fun _ => mid_S hML) (fun hSL => ?_)
    replace hSL := hSL rfl
    clear hS20 hM20
    try simp only [Act.put, List.setIfInBounds_toArray, List.set_cons_zero, List.set_cons_succ]
    rotate_left
    exact AllReadyL.nil
    exact AllReadyL.nil
    exact AllReadyL.nil
    refine AllReadyL.cons (getw rfl) (fun K hK => ?_) ?_
    refine step_bint rfl (.tmp 89) rfl n rfl (fun g22 w22 hb hy => ?_)
    have hM22 := hM14.keep hb
    replace hg8 := blk_keep hb hg8
    replace hg15 := blk_keep hb hg15
    have hg22 := hy
    refine hK.out _ _ (fun _ => mid_S hM22) (fun hS22 => ?_)
    replace hS22 := hS22 rfl
    clear hS14 hM14
    try simp only [Act.put, List.setIfInBounds_toArray, List.set_cons_zero, List.set_cons_succ]
    refine wpAnyL_ready (rs := [9]) (by kernel_rfl) (by simp) ?_
    refine AllReadyL.cons (getw rfl) (fun K hK => ?_) ?_
    refine step_ain rfl (.tmp 74) (.tmp 76) rfl base g8 ⟨op, d, s', t, u, a, k, q⟩ _ x.l rfl hM22.q0 rfl hg8 hrow hM22.hbs (fun u0 w23 hr hg ha => ?_)
    have hM23 := hM22.a0 hr hg ha
    replace hg15 := blk_grown hg15 hg (own_apart hM22.q0 hg15 (by decide))
    replace hg22 := blk_grown hg22 hg (own_apart hM22.q0 hg22 (by decide))
    refine hK.out _ _ (fun _ => mid_S hM23) (fun hS23 => ?_)
    replace hS23 := hS23 rfl
    clear hS22 hM22
    try simp only [Act.put, List.setIfInBounds_toArray, List.set_cons_zero, List.set_cons_succ]
    refine wpAnyL_ready (rs := [16]) (by kernel_rfl) (by simp) ?_
    refine AllReadyL.cons (getw rfl) (fun K hK => ?_) ?_
    refine step_anm rfl (.tmp 81) (.tmp 83) rfl base g15 tl _ x.names rfl hM23.q1 rfl hg15 hrow1 hM23.hbs (fun u1 w24 hr hg ha => ?_)
    have hM24 := hM23.a1 hr hg ha
    replace hg22 := blk_grown hg22 hg (own_apart hM23.q1 hg22 (by decide))
    refine hK.out _ _ (fun _ => mid_S hM24) (fun hS24 => ?_)
    replace hS24 := hS24 rfl
    clear hS23 hM23
    try simp only [Act.put, List.setIfInBounds_toArray, List.set_cons_zero, List.set_cons_succ]
    refine wpAnyL_ready (rs := [23]) (by kernel_rfl) (by simp) ?_
    refine AllReadyL.cons (getw rfl) (fun K hK => ?_) ?_
    refine step_aint rfl (.tmp 88) (.tmp 90) rfl base g22 n _ x.rows rfl hM24.q2 rfl hg22 hrow2 hM24.hbs (fun u2 wL hr hg ha => ?_)
    have hML := hM24.a2 hr hg ha
    refine hK.out _ _ (fun _ => mid_S hML) (fun hSL => ?_)
    replace hSL := hSL rfl
    clear hS24 hM24
    try simp only [Act.put, List.setIfInBounds_toArray, List.set_cons_zero, List.set_cons_succ]
    rotate_left
    exact AllReadyL.nil
    exact AllReadyL.nil
    exact AllReadyL.nil
    exact AllReadyL.nil
    refine AllReadyL.cons (getw rfl) (fun K hK => ?_) ?_
    refine step_bint rfl (.tmp 89) rfl n rfl (fun g22 w26 hb hy => ?_)
    have hM26 := hM1.keep hb
    replace hg8 := blk_keep hb hg8
    have hg22 := hy
    refine hK.out _ _ (fun _ => mid_S hM26) (fun hS26 => ?_)
    replace hS26 := hS26 rfl
    clear hS1 hM1
    try simp only [Act.put, List.setIfInBounds_toArray, List.set_cons_zero, List.set_cons_succ]
    refine wpAnyL_ready (rs := [9, 15]) (by kernel_rfl) (by simp) ?_
    refine AllReadyL.cons (getw rfl) (fun K hK => ?_) ?_
    refine step_ain rfl (.tmp 74) (.tmp 76) rfl base g8 ⟨op, d, s', t, u, a, k, q⟩ _ x.l rfl hM26.q0 rfl hg8 hrow hM26.hbs (fun u0 w27 hr hg ha => ?_)
    have hM27 := hM26.a0 hr hg ha
    replace hg22 := blk_grown hg22 hg (own_apart hM26.q0 hg22 (by decide))
    refine hK.out _ _ (fun _ => mid_S hM27) (fun hS27 => ?_)
    replace hS27 := hS27 rfl
    clear hS26 hM26
    try simp only [Act.put, List.setIfInBounds_toArray, List.set_cons_zero, List.set_cons_succ]
    refine wpAnyL_ready (rs := [15]) (by kernel_rfl) (by simp) ?_
    refine AllReadyL.cons (getw rfl) (fun K hK => ?_) ?_
    refine step_bnm rfl (.tmp 82) rfl tl rfl (fun g15 w28 hb hy => ?_)
    have hM28 := hM27.keep hb
    replace hg22 := blk_keep hb hg22
    have hg15 := hy
    refine hK.out _ _ (fun _ => mid_S hM28) (fun hS28 => ?_)
    replace hS28 := hS28 rfl
    clear hS27 hM27
    try simp only [Act.put, List.setIfInBounds_toArray, List.set_cons_zero, List.set_cons_succ]
    refine wpAnyL_ready (rs := [16]) (by kernel_rfl) (by simp) ?_
    refine AllReadyL.cons (getw rfl) (fun K hK => ?_) ?_
    refine step_anm rfl (.tmp 81) (.tmp 83) rfl base g15 tl _ x.names rfl hM28.q1 rfl hg15 hrow1 hM28.hbs (fun u1 w29 hr hg ha => ?_)
    have hM29 := hM28.a1 hr hg ha
    replace hg22 := blk_grown hg22 hg (own_apart hM28.q1 hg22 (by decide))
    refine hK.out _ _ (fun _ => mid_S hM29) (fun hS29 => ?_)
    replace hS29 := hS29 rfl
    clear hS28 hM28
    try simp only [Act.put, List.setIfInBounds_toArray, List.set_cons_zero, List.set_cons_succ]
    refine wpAnyL_ready (rs := [23]) (by kernel_rfl) (by simp) ?_
    refine AllReadyL.cons (getw rfl) (fun K hK => ?_) ?_
    refine step_aint rfl (.tmp 88) (.tmp 90) rfl base g22 n _ x.rows rfl hM29.q2 rfl hg22 hrow2 hM29.hbs (fun u2 wL hr hg ha => ?_)
    have hML := hM29.a2 hr hg ha
    refine hK.out _ _ (fun _ => mid_S hML) (fun hSL => ?_)
    replace hSL := hSL rfl
    clear hS29 hM29
    try simp only [Act.put, List.setIfInBounds_toArray, List.set_cons_zero, List.set_cons_succ]
    rotate_left
    exact AllReadyL.nil
    exact AllReadyL.nil
    exact AllReadyL.nil
    refine AllReadyL.cons (getw rfl) (fun K hK => ?_) ?_
    refine step_bnm rfl (.tmp 82) rfl tl rfl (fun g15 w31 hb hy => ?_)
    have hM31 := hM26.keep hb
    replace hg8 := blk_keep hb hg8
    replace hg22 := blk_keep hb hg22
    have hg15 := hy
    refine hK.out _ _ (fun _ => mid_S hM31) (fun hS31 => ?_)
    replace hS31 := hS31 rfl
    clear hS26 hM26
    try simp only [Act.put, List.setIfInBounds_toArray, List.set_cons_zero, List.set_cons_succ]
    refine wpAnyL_ready (rs := [9]) (by kernel_rfl) (by simp) ?_
    refine AllReadyL.cons (getw rfl) (fun K hK => ?_) ?_
    refine step_ain rfl (.tmp 74) (.tmp 76) rfl base g8 ⟨op, d, s', t, u, a, k, q⟩ _ x.l rfl hM31.q0 rfl hg8 hrow hM31.hbs (fun u0 w32 hr hg ha => ?_)
    have hM32 := hM31.a0 hr hg ha
    replace hg22 := blk_grown hg22 hg (own_apart hM31.q0 hg22 (by decide))
    replace hg15 := blk_grown hg15 hg (own_apart hM31.q0 hg15 (by decide))
    refine hK.out _ _ (fun _ => mid_S hM32) (fun hS32 => ?_)
    replace hS32 := hS32 rfl
    clear hS31 hM31
    try simp only [Act.put, List.setIfInBounds_toArray, List.set_cons_zero, List.set_cons_succ]
    refine wpAnyL_ready (rs := [16]) (by kernel_rfl) (by simp) ?_
    refine AllReadyL.cons (getw rfl) (fun K hK => ?_) ?_
    refine step_anm rfl (.tmp 81) (.tmp 83) rfl base g15 tl _ x.names rfl hM32.q1 rfl hg15 hrow1 hM32.hbs (fun u1 w33 hr hg ha => ?_)
    have hM33 := hM32.a1 hr hg ha
    replace hg22 := blk_grown hg22 hg (own_apart hM32.q1 hg22 (by decide))
    refine hK.out _ _ (fun _ => mid_S hM33) (fun hS33 => ?_)
    replace hS33 := hS33 rfl
    clear hS32 hM32
    try simp only [Act.put, List.setIfInBounds_toArray, List.set_cons_zero, List.set_cons_succ]
    refine wpAnyL_ready (rs := [23]) (by kernel_rfl) (by simp) ?_
    refine AllReadyL.cons (getw rfl) (fun K hK => ?_) ?_
    refine step_aint rfl (.tmp 88) (.tmp 90) rfl base g22 n _ x.rows rfl hM33.q2 rfl hg22 hrow2 hM33.hbs (fun u2 wL hr hg ha => ?_)
    have hML := hM33.a2 hr hg ha
    refine hK.out _ _ (fun _ => mid_S hML) (fun hSL => ?_)
    replace hSL := hSL rfl
    clear hS33 hM33
    try simp only [Act.put, List.setIfInBounds_toArray, List.set_cons_zero, List.set_cons_succ]
    rotate_left
    exact AllReadyL.nil
    exact AllReadyL.nil
    exact AllReadyL.nil
    exact AllReadyL.nil
    exact AllReadyL.nil
    refine AllReadyL.cons (getw rfl) (fun K hK => ?_) ?_
    refine step_bnm rfl (.tmp 82) rfl tl rfl (fun g15 w35 hb hy => ?_)
    have hM35 := hM0.keep hb
    have hg15 := hy
    refine hK.out _ _ (fun _ => mid_S hM35) (fun hS35 => ?_)
    replace hS35 := hS35 rfl
    clear hS0 hM0
    try simp only [Act.put, List.setIfInBounds_toArray, List.set_cons_zero, List.set_cons_succ]
    refine wpAnyL_ready (rs := [8, 22]) (by kernel_rfl) (by simp) ?_
    refine AllReadyL.cons (getw rfl) (fun K hK => ?_) ?_
    refine step_bin rfl (.tmp 75) rfl ⟨op, d, s', t, u, a, k, q⟩ rfl (fun g8 w36 hb hy => ?_)
    have hM36 := hM35.keep hb
    replace hg15 := blk_keep hb hg15
    have hg8 := hy
    refine hK.out _ _ (fun _ => mid_S hM36) (fun hS36 => ?_)
    replace hS36 := hS36 rfl
    clear hS35 hM35
    try simp only [Act.put, List.setIfInBounds_toArray, List.set_cons_zero, List.set_cons_succ]
    refine wpAnyL_ready (rs := [9, 22]) (by kernel_rfl) (by simp) ?_
    refine AllReadyL.cons (getw rfl) (fun K hK => ?_) ?_
    refine step_ain rfl (.tmp 74) (.tmp 76) rfl base g8 ⟨op, d, s', t, u, a, k, q⟩ _ x.l rfl hM36.q0 rfl hg8 hrow hM36.hbs (fun u0 w37 hr hg ha => ?_)
    have hM37 := hM36.a0 hr hg ha
    replace hg15 := blk_grown hg15 hg (own_apart hM36.q0 hg15 (by decide))
    refine hK.out _ _ (fun _ => mid_S hM37) (fun hS37 => ?_)
    replace hS37 := hS37 rfl
    clear hS36 hM36
    try simp only [Act.put, List.setIfInBounds_toArray, List.set_cons_zero, List.set_cons_succ]
    refine wpAnyL_ready (rs := [16, 22]) (by kernel_rfl) (by simp) ?_
    refine AllReadyL.cons (getw rfl) (fun K hK => ?_) ?_
    refine step_anm rfl (.tmp 81) (.tmp 83) rfl base g15 tl _ x.names rfl hM37.q1 rfl hg15 hrow1 hM37.hbs (fun u1 w38 hr hg ha => ?_)
    have hM38 := hM37.a1 hr hg ha
    refine hK.out _ _ (fun _ => mid_S hM38) (fun hS38 => ?_)
    replace hS38 := hS38 rfl
    clear hS37 hM37
    try simp only [Act.put, List.setIfInBounds_toArray, List.set_cons_zero, List.set_cons_succ]
    refine wpAnyL_ready (rs := [22]) (by kernel_rfl) (by simp) ?_
    refine AllReadyL.cons (getw rfl) (fun K hK => ?_) ?_
    refine step_bint rfl (.tmp 89) rfl n rfl (fun g22 w39 hb hy => ?_)
    have hM39 := hM38.keep hb
    have hg22 := hy
    refine hK.out _ _ (fun _ => mid_S hM39) (fun hS39 => ?_)
    replace hS39 := hS39 rfl
    clear hS38 hM38
    try simp only [Act.put, List.setIfInBounds_toArray, List.set_cons_zero, List.set_cons_succ]
    refine wpAnyL_ready (rs := [23]) (by kernel_rfl) (by simp) ?_
    refine AllReadyL.cons (getw rfl) (fun K hK => ?_) ?_
    refine step_aint rfl (.tmp 88) (.tmp 90) rfl base g22 n _ x.rows rfl hM39.q2 rfl hg22 hrow2 hM39.hbs (fun u2 wL hr hg ha => ?_)
    have hML := hM39.a2 hr hg ha
    refine hK.out _ _ (fun _ => mid_S hML) (fun hSL => ?_)
    replace hSL := hSL rfl
    clear hS39 hM39
    try simp only [Act.put, List.setIfInBounds_toArray, List.set_cons_zero, List.set_cons_succ]
    rotate_left
    exact AllReadyL.nil
    exact AllReadyL.nil
    refine AllReadyL.cons (getw rfl) (fun K hK => ?_) ?_
    refine step_bint rfl (.tmp 89) rfl n rfl (fun g22 w41 hb hy => ?_)
    have hM41 := hM37.keep hb
    replace hg15 := blk_keep hb hg15
    have hg22 := hy
    refine hK.out _ _ (fun _ => mid_S hM41) (fun hS41 => ?_)
    replace hS41 := hS41 rfl
    clear hS37 hM37
    try simp only [Act.put, List.setIfInBounds_toArray, List.set_cons_zero, List.set_cons_succ]
    refine wpAnyL_ready (rs := [16]) (by kernel_rfl) (by simp) ?_
    refine AllReadyL.cons (getw rfl) (fun K hK => ?_) ?_
    refine step_anm rfl (.tmp 81) (.tmp 83) rfl base g15 tl _ x.names rfl hM41.q1 rfl hg15 hrow1 hM41.hbs (fun u1 w42 hr hg ha => ?_)
    have hM42 := hM41.a1 hr hg ha
    replace hg22 := blk_grown hg22 hg (own_apart hM41.q1 hg22 (by decide))
    refine hK.out _ _ (fun _ => mid_S hM42) (fun hS42 => ?_)
    replace hS42 := hS42 rfl
    clear hS41 hM41
    try simp only [Act.put, List.setIfInBounds_toArray, List.set_cons_zero, List.set_cons_succ]
    refine wpAnyL_ready (rs := [23]) (by kernel_rfl) (by simp) ?_
    refine AllReadyL.cons (getw rfl) (fun K hK => ?_) ?_
    refine step_aint rfl (.tmp 88) (.tmp 90) rfl base g22 n _ x.rows rfl hM42.q2 rfl hg22 hrow2 hM42.hbs (fun u2 wL hr hg ha => ?_)
    have hML := hM42.a2 hr hg ha
    refine hK.out _ _ (fun _ => mid_S hML) (fun hSL => ?_)
    replace hSL := hSL rfl
    clear hS42 hM42
    try simp only [Act.put, List.setIfInBounds_toArray, List.set_cons_zero, List.set_cons_succ]
    rotate_left
    exact AllReadyL.nil
    exact AllReadyL.nil
    exact AllReadyL.nil
    refine AllReadyL.cons (getw rfl) (fun K hK => ?_) ?_
    refine step_bint rfl (.tmp 89) rfl n rfl (fun g22 w44 hb hy => ?_)
    have hM44 := hM36.keep hb
    replace hg15 := blk_keep hb hg15
    replace hg8 := blk_keep hb hg8
    have hg22 := hy
    refine hK.out _ _ (fun _ => mid_S hM44) (fun hS44 => ?_)
    replace hS44 := hS44 rfl
    clear hS36 hM36
    try simp only [Act.put, List.setIfInBounds_toArray, List.set_cons_zero, List.set_cons_succ]
    refine wpAnyL_ready (rs := [9]) (by kernel_rfl) (by simp) ?_
    refine AllReadyL.cons (getw rfl) (fun K hK => ?_) ?_
    refine step_ain rfl (.tmp 74) (.tmp 76) rfl base g8 ⟨op, d, s', t, u, a, k, q⟩ _ x.l rfl hM44.q0 rfl hg8 hrow hM44.hbs (fun u0 w45 hr hg ha => ?_)
    have hM45 := hM44.a0 hr hg ha
    replace hg15 := blk_grown hg15 hg (own_apart hM44.q0 hg15 (by decide))
    replace hg22 := blk_grown hg22 hg (own_apart hM44.q0 hg22 (by decide))
    refine hK.out _ _ (fun _ => mid_S hM45) (fun hS45 => ?_)
    replace hS45 := hS45 rfl
    clear hS44 hM44
    try simp only [Act.put, List.setIfInBounds_toArray, List.set_cons_zero, List.set_cons_succ]
    refine wpAnyL_ready (rs := [16]) (by kernel_rfl) (by simp) ?_
    refine AllReadyL.cons (getw rfl) (fun K hK => ?_) ?_
    refine step_anm rfl (.tmp 81) (.tmp 83) rfl base g15 tl _ x.names rfl hM45.q1 rfl hg15 hrow1 hM45.hbs (fun u1 w46 hr hg ha => ?_)
    have hM46 := hM45.a1 hr hg ha
    replace hg22 := blk_grown hg22 hg (own_apart hM45.q1 hg22 (by decide))
    refine hK.out _ _ (fun _ => mid_S hM46) (fun hS46 => ?_)
    replace hS46 := hS46 rfl
    clear hS45 hM45
    try simp only [Act.put, List.setIfInBounds_toArray, List.set_cons_zero, List.set_cons_succ]
    refine wpAnyL_ready (rs := [23]) (by kernel_rfl) (by simp) ?_
    refine AllReadyL.cons (getw rfl) (fun K hK => ?_) ?_
    refine step_aint rfl (.tmp 88) (.tmp 90) rfl base g22 n _ x.rows rfl hM46.q2 rfl hg22 hrow2 hM46.hbs (fun u2 wL hr hg ha => ?_)
    have hML := hM46.a2 hr hg ha
    refine hK.out _ _ (fun _ => mid_S hML) (fun hSL => ?_)
    replace hSL := hSL rfl
    clear hS46 hM46
    try simp only [Act.put, List.setIfInBounds_toArray, List.set_cons_zero, List.set_cons_succ]
    rotate_left
    exact AllReadyL.nil
    exact AllReadyL.nil
    exact AllReadyL.nil
    exact AllReadyL.nil
    refine AllReadyL.cons (getw rfl) (fun K hK => ?_) ?_
    refine step_bint rfl (.tmp 89) rfl n rfl (fun g22 w48 hb hy => ?_)
    have hM48 := hM35.keep hb
    replace hg15 := blk_keep hb hg15
    have hg22 := hy
    refine hK.out _ _ (fun _ => mid_S hM48) (fun hS48 => ?_)
    replace hS48 := hS48 rfl
    clear hS35 hM35
    try simp only [Act.put, List.setIfInBounds_toArray, List.set_cons_zero, List.set_cons_succ]
    refine wpAnyL_ready (rs := [8]) (by kernel_rfl) (by simp) ?_
    refine AllReadyL.cons (getw rfl) (fun K hK => ?_) ?_
    refine step_bin rfl (.tmp 75) rfl ⟨op, d, s', t, u, a, k, q⟩ rfl (fun g8 w49 hb hy => ?_)
    have hM49 := hM48.keep hb
    replace hg15 := blk_keep hb hg15
    replace hg22 := blk_keep hb hg22
    have hg8 := hy
    refine hK.out _ _ (fun _ => mid_S hM49) (fun hS49 => ?_)
    replace hS49 := hS49 rfl
    clear hS48 hM48
    try simp only [Act.put, List.setIfInBounds_toArray, List.set_cons_zero, List.set_cons_succ]
    refine wpAnyL_ready (rs := [9]) (by kernel_rfl) (by simp) ?_
    refine AllReadyL.cons (getw rfl) (fun K hK => ?_) ?_
    refine step_ain rfl (.tmp 74) (.tmp 76) rfl base g8 ⟨op, d, s', t, u, a, k, q⟩ _ x.l rfl hM49.q0 rfl hg8 hrow hM49.hbs (fun u0 w50 hr hg ha => ?_)
    have hM50 := hM49.a0 hr hg ha
    replace hg15 := blk_grown hg15 hg (own_apart hM49.q0 hg15 (by decide))
    replace hg22 := blk_grown hg22 hg (own_apart hM49.q0 hg22 (by decide))
    refine hK.out _ _ (fun _ => mid_S hM50) (fun hS50 => ?_)
    replace hS50 := hS50 rfl
    clear hS49 hM49
    try simp only [Act.put, List.setIfInBounds_toArray, List.set_cons_zero, List.set_cons_succ]
    refine wpAnyL_ready (rs := [16]) (by kernel_rfl) (by simp) ?_
    refine AllReadyL.cons (getw rfl) (fun K hK => ?_) ?_
    refine step_anm rfl (.tmp 81) (.tmp 83) rfl base g15 tl _ x.names rfl hM50.q1 rfl hg15 hrow1 hM50.hbs (fun u1 w51 hr hg ha => ?_)
    have hM51 := hM50.a1 hr hg ha
    replace hg22 := blk_grown hg22 hg (own_apart hM50.q1 hg22 (by decide))
    refine hK.out _ _ (fun _ => mid_S hM51) (fun hS51 => ?_)
    replace hS51 := hS51 rfl
    clear hS50 hM50
    try simp only [Act.put, List.setIfInBounds_toArray, List.set_cons_zero, List.set_cons_succ]
    refine wpAnyL_ready (rs := [23]) (by kernel_rfl) (by simp) ?_
    refine AllReadyL.cons (getw rfl) (fun K hK => ?_) ?_
    refine step_aint rfl (.tmp 88) (.tmp 90) rfl base g22 n _ x.rows rfl hM51.q2 rfl hg22 hrow2 hM51.hbs (fun u2 wL hr hg ha => ?_)
    have hML := hM51.a2 hr hg ha
    refine hK.out _ _ (fun _ => mid_S hML) (fun hSL => ?_)
    replace hSL := hSL rfl
    clear hS51 hM51
    try simp only [Act.put, List.setIfInBounds_toArray, List.set_cons_zero, List.set_cons_succ]
    rotate_left
    exact AllReadyL.nil
    exact AllReadyL.nil
    exact AllReadyL.nil
    exact AllReadyL.nil
    exact AllReadyL.nil
    refine AllReadyL.cons (getw rfl) (fun K hK => ?_) ?_
    refine step_bint rfl (.tmp 89) rfl n rfl (fun g22 w53 hb hy => ?_)
    have hM53 := hM0.keep hb
    have hg22 := hy
    refine hK.out _ _ (fun _ => mid_S hM53) (fun hS53 => ?_)
    replace hS53 := hS53 rfl
    clear hS0 hM0
    try simp only [Act.put, List.setIfInBounds_toArray, List.set_cons_zero, List.set_cons_succ]
    refine wpAnyL_ready (rs := [8, 15]) (by kernel_rfl) (by simp) ?_
    refine AllReadyL.cons (getw rfl) (fun K hK => ?_) ?_
    refine step_bin rfl (.tmp 75) rfl ⟨op, d, s', t, u, a, k, q⟩ rfl (fun g8 w54 hb hy => ?_)
    have hM54 := hM53.keep hb
    replace hg22 := blk_keep hb hg22
    have hg8 := hy
    refine hK.out _ _ (fun _ => mid_S hM54) (fun hS54 => ?_)
    replace hS54 := hS54 rfl
    clear hS53 hM53
    try simp only [Act.put, List.setIfInBounds_toArray, List.set_cons_zero, List.set_cons_succ]
    refine wpAnyL_ready (rs := [9, 15]) (by kernel_rfl) (by simp) ?_
    refine AllReadyL.cons (getw rfl) (fun K hK => ?_) ?_
    refine step_ain rfl (.tmp 74) (.tmp 76) rfl base g8 ⟨op, d, s', t, u, a, k, q⟩ _ x.l rfl hM54.q0 rfl hg8 hrow hM54.hbs (fun u0 w55 hr hg ha => ?_)
    have hM55 := hM54.a0 hr hg ha
    replace hg22 := blk_grown hg22 hg (own_apart hM54.q0 hg22 (by decide))
    refine hK.out _ _ (fun _ => mid_S hM55) (fun hS55 => ?_)
    replace hS55 := hS55 rfl
    clear hS54 hM54
    try simp only [Act.put, List.setIfInBounds_toArray, List.set_cons_zero, List.set_cons_succ]
    refine wpAnyL_ready (rs := [15]) (by kernel_rfl) (by simp) ?_
    refine AllReadyL.cons (getw rfl) (fun K hK => ?_) ?_
    refine step_bnm rfl (.tmp 82) rfl tl rfl (fun g15 w56 hb hy => ?_)
    have hM56 := hM55.keep hb
    replace hg22 := blk_keep hb hg22
    have hg15 := hy
    refine hK.out _ _ (fun _ => mid_S hM56) (fun hS56 => ?_)
    replace hS56 := hS56 rfl
    clear hS55 hM55
    try simp only [Act.put, List.setIfInBounds_toArray, List.set_cons_zero, List.set_cons_succ]
    refine wpAnyL_ready (rs := [16]) (by kernel_rfl) (by simp) ?_
    refine AllReadyL.cons (getw rfl) (fun K hK => ?_) ?_
    refine step_anm rfl (.tmp 81) (.tmp 83) rfl base g15 tl _ x.names rfl hM56.q1 rfl hg15 hrow1 hM56.hbs (fun u1 w57 hr hg ha => ?_)
    have hM57 := hM56.a1 hr hg ha
    replace hg22 := blk_grown hg22 hg (own_apart hM56.q1 hg22 (by decide))
    refine hK.out _ _ (fun _ => mid_S hM57) (fun hS57 => ?_)
    replace hS57 := hS57 rfl
    clear hS56 hM56
    try simp only [Act.put, List.setIfInBounds_toArray, List.set_cons_zero, List.set_cons_succ]
    refine wpAnyL_ready (rs := [23]) (by kernel_rfl) (by simp) ?_
    refine AllReadyL.cons (getw rfl) (fun K hK => ?_) ?_
    refine step_aint rfl (.tmp 88) (.tmp 90) rfl base g22 n _ x.rows rfl hM57.q2 rfl hg22 hrow2 hM57.hbs (fun u2 wL hr hg ha => ?_)
    have hML := hM57.a2 hr hg ha
    refine hK.out _ _ (fun _ => mid_S hML) (fun hSL => ?_)
    replace hSL := hSL rfl
    clear hS57 hM57
    try simp only [Act.put, List.setIfInBounds_toArray, List.set_cons_zero, List.set_cons_succ]
    rotate_left
    exact AllReadyL.nil
    exact AllReadyL.nil
    exact AllReadyL.nil
    refine AllReadyL.cons (getw rfl) (fun K hK => ?_) ?_
    refine step_bnm rfl (.tmp 82) rfl tl rfl (fun g15 w59 hb hy => ?_)
    have hM59 := hM54.keep hb
    replace hg22 := blk_keep hb hg22
    replace hg8 := blk_keep hb hg8
    have hg15 := hy
    refine hK.out _ _ (fun _ => mid_S hM59) (fun hS59 => ?_)
    replace hS59 := hS59 rfl
    clear hS54 hM54
    try simp only [Act.put, List.setIfInBounds_toArray, List.set_cons_zero, List.set_cons_succ]
    refine wpAnyL_ready (rs := [9]) (by kernel_rfl) (by simp) ?_
    refine AllReadyL.cons (getw rfl) (fun K hK => ?_) ?_
    refine step_ain rfl (.tmp 74) (.tmp 76) rfl base g8 ⟨op, d, s', t, u, a, k, q⟩ _ x.l rfl hM59.q0 rfl hg8 hrow hM59.hbs (fun u0 w60 hr hg ha => ?_)
    have hM60 := hM59.a0 hr hg ha
    replace hg22 := blk_grown hg22 hg (own_apart hM59.q0 hg22 (by decide))
    replace hg15 := blk_grown hg15 hg (own_apart hM59.q0 hg15 (by decide))
    refine hK.out _ _ (fun _ => mid_S hM60) (fun hS60 => ?_)
    replace hS60 := hS60 rfl
    clear hS59 hM59
    try simp only [Act.put, List.setIfInBounds_toArray, List.set_cons_zero, List.set_cons_succ]
    refine wpAnyL_ready (rs := [16]) (by kernel_rfl) (by simp) ?_
    refine AllReadyL.cons (getw rfl) (fun K hK => ?_) ?_
    refine step_anm rfl (.tmp 81) (.tmp 83) rfl base g15 tl _ x.names rfl hM60.q1 rfl hg15 hrow1 hM60.hbs (fun u1 w61 hr hg ha => ?_)
    have hM61 := hM60.a1 hr hg ha
    replace hg22 := blk_grown hg22 hg (own_apart hM60.q1 hg22 (by decide))
    refine hK.out _ _ (fun _ => mid_S hM61) (fun hS61 => ?_)
    replace hS61 := hS61 rfl
    clear hS60 hM60
    try simp only [Act.put, List.setIfInBounds_toArray, List.set_cons_zero, List.set_cons_succ]
    refine wpAnyL_ready (rs := [23]) (by kernel_rfl) (by simp) ?_
    refine AllReadyL.cons (getw rfl) (fun K hK => ?_) ?_
    refine step_aint rfl (.tmp 88) (.tmp 90) rfl base g22 n _ x.rows rfl hM61.q2 rfl hg22 hrow2 hM61.hbs (fun u2 wL hr hg ha => ?_)
    have hML := hM61.a2 hr hg ha
    refine hK.out _ _ (fun _ => mid_S hML) (fun hSL => ?_)
    replace hSL := hSL rfl
    clear hS61 hM61
    try simp only [Act.put, List.setIfInBounds_toArray, List.set_cons_zero, List.set_cons_succ]
    rotate_left
    exact AllReadyL.nil
    exact AllReadyL.nil
    exact AllReadyL.nil
    exact AllReadyL.nil
    refine AllReadyL.cons (getw rfl) (fun K hK => ?_) ?_
    refine step_bnm rfl (.tmp 82) rfl tl rfl (fun g15 w63 hb hy => ?_)
    have hM63 := hM53.keep hb
    replace hg22 := blk_keep hb hg22
    have hg15 := hy
    refine hK.out _ _ (fun _ => mid_S hM63) (fun hS63 => ?_)
    replace hS63 := hS63 rfl
    clear hS53 hM53
    try simp only [Act.put, List.setIfInBounds_toArray, List.set_cons_zero, List.set_cons_succ]
    refine wpAnyL_ready (rs := [8]) (by kernel_rfl) (by simp) ?_
    refine AllReadyL.cons (getw rfl) (fun K hK => ?_) ?_
    refine step_bin rfl (.tmp 75) rfl ⟨op, d, s', t, u, a, k, q⟩ rfl (fun g8 w64 hb hy => ?_)
    have hM64 := hM63.keep hb
    replace hg22 := blk_keep hb hg22
    replace hg15 := blk_keep hb hg15
    have hg8 := hy
    refine hK.out _ _ (fun _ => mid_S hM64) (fun hS64 => ?_)
    replace hS64 := hS64 rfl
    clear hS63 hM63
    try simp only [Act.put, List.setIfInBounds_toArray, List.set_cons_zero, List.set_cons_succ]
    refine wpAnyL_ready (rs := [9]) (by kernel_rfl) (by simp) ?_
    refine AllReadyL.cons (getw rfl) (fun K hK => ?_) ?_
    refine step_ain rfl (.tmp 74) (.tmp 76) rfl base g8 ⟨op, d, s', t, u, a, k, q⟩ _ x.l rfl hM64.q0 rfl hg8 hrow hM64.hbs (fun u0 w65 hr hg ha => ?_)
    have hM65 := hM64.a0 hr hg ha
    replace hg22 := blk_grown hg22 hg (own_apart hM64.q0 hg22 (by decide))
    replace hg15 := blk_grown hg15 hg (own_apart hM64.q0 hg15 (by decide))
    refine hK.out _ _ (fun _ => mid_S hM65) (fun hS65 => ?_)
    replace hS65 := hS65 rfl
    clear hS64 hM64
    try simp only [Act.put, List.setIfInBounds_toArray, List.set_cons_zero, List.set_cons_succ]
    refine wpAnyL_ready (rs := [16]) (by kernel_rfl) (by simp) ?_
    refine AllReadyL.cons (getw rfl) (fun K hK => ?_) ?_
    refine step_anm rfl (.tmp 81) (.tmp 83) rfl base g15 tl _ x.names rfl hM65.q1 rfl hg15 hrow1 hM65.hbs (fun u1 w66 hr hg ha => ?_)
    have hM66 := hM65.a1 hr hg ha
    replace hg22 := blk_grown hg22 hg (own_apart hM65.q1 hg22 (by decide))
    refine hK.out _ _ (fun _ => mid_S hM66) (fun hS66 => ?_)
    replace hS66 := hS66 rfl
    clear hS65 hM65
    try simp only [Act.put, List.setIfInBounds_toArray, List.set_cons_zero, List.set_cons_succ]
    refine wpAnyL_ready (rs := [23]) (by kernel_rfl) (by simp) ?_
    refine AllReadyL.cons (getw rfl) (fun K hK => ?_) ?_
    refine step_aint rfl (.tmp 88) (.tmp 90) rfl base g22 n _ x.rows rfl hM66.q2 rfl hg22 hrow2 hM66.hbs (fun u2 wL hr hg ha => ?_)
    have hML := hM66.a2 hr hg ha
    refine hK.out _ _ (fun _ => mid_S hML) (fun hSL => ?_)
    replace hSL := hSL rfl
    clear hS66 hM66
    try simp only [Act.put, List.setIfInBounds_toArray, List.set_cons_zero, List.set_cons_succ]
    rotate_left
    exact AllReadyL.nil
    exact AllReadyL.nil
    exact AllReadyL.nil
    exact AllReadyL.nil
    exact AllReadyL.nil
    exact AllReadyL.nil
    all_goals (
      obtain ⟨A0, n0, e0, rfl⟩ := own_slice hML.q0
      obtain ⟨A1, n1, e1, rfl⟩ := own_slice hML.q1
      obtain ⟨A2, n2, e2, rfl⟩ := own_slice hML.q2
      have q0 : wL.cell? ⟨gx, 0, none⟩ = some (.slice A x.l.length c) := (blk_cell hML.s 0).trans rfl
      have f0 := blk_frozen hML.s 0
      have q1 : wL.cell? ⟨gx, 1, none⟩ = some v1 := (blk_cell hML.s 1).trans rfl
      have f1 := blk_frozen hML.s 1
      have q2 : wL.cell? ⟨gx, 2, none⟩ = some v2 := (blk_cell hML.s 2).trans rfl
      have f2 := blk_frozen hML.s 2
      have z0 : gx < wL.heap.size := blk_lt hML.s
      replace hML := Aside0.mk hML
      refine wpAnyL_takeY (i := 24) (v := ?_) (getw rfl) (by kernel_rfl) (fun _ _ _ h => h) (.inl ⟨by rfl, ?_⟩) (fun _ => by assumption) ?_
      rotate_left
      · intro w; go_simp; try with_reducible rfl
      try simp only [Act.put, List.setIfInBounds_toArray, List.set_cons_zero, List.set_cons_succ]
      refine wpAnyL_takeY (i := 25) (v := ?_) (getw rfl) (by kernel_rfl) (fun _ _ _ h => h) (.inl ⟨by rfl, ?_⟩) (fun _ => by assumption) ?_
      rotate_left
      · intro w; go_simp; try with_reducible rfl
      try simp only [Act.put, List.setIfInBounds_toArray, List.set_cons_zero, List.set_cons_succ]
      refine wpAnyL_ready (rs := [26]) (by kernel_rfl) (by simp) ?_
      refine AllReadyL.cons (getw rfl) (fun K hK => ?_) AllReadyL.nil
      go_simp
      go_wp2_with fail
      refine hK.out _ _ (fun h => by cases h) (fun _ => ?_)
      try simp only [Act.put, List.setIfInBounds_toArray, List.set_cons_zero, List.set_cons_succ]
      refine wpAnyL_takeY (i := 27) (v := ?_) (getw rfl) (by kernel_rfl) (fun _ _ _ h => h) (.inl ⟨by rfl, ?_⟩) (fun h => by cases h) ?_
      rotate_left
      · intro w; go_simp; try with_reducible rfl
      try simp only [Act.put, List.setIfInBounds_toArray, List.set_cons_zero, List.set_cons_succ]
      refine wpAnyL_takeY (i := 28) (v := ?_) (getw rfl) (by kernel_rfl) (fun _ _ _ h => h) (.inl ⟨by rfl, ?_⟩) (fun h => by cases h) ?_
      rotate_left
      · intro w; go_simp; try with_reducible rfl
      try simp only [Act.put, List.setIfInBounds_toArray, List.set_cons_zero, List.set_cons_succ]
      refine wpAnyL_ready (rs := [29]) (by kernel_rfl) (by simp) ?_
      refine AllReadyL.cons (getw rfl) (fun K hK => ?_) AllReadyL.nil
      go_simp
      go_wp2_with fail
      refine hK.out _ _ (fun h => by cases h) (fun _ => ?_)
      try simp only [Act.put, List.setIfInBounds_toArray, List.set_cons_zero, List.set_cons_succ]
      refine wpAnyL_takeY (i := 30) (v := ?_) (getw rfl) (by kernel_rfl) (fun _ _ _ h => h) (.inl ⟨by rfl, ?_⟩) (fun h => by cases h) ?_
      rotate_left
      · intro w; go_simp; try with_reducible rfl
      try simp only [Act.put, List.setIfInBounds_toArray, List.set_cons_zero, List.set_cons_succ]
      refine wpAnyL_takeY (i := 31) (v := ?_) (getw rfl) (by kernel_rfl) (fun _ _ _ h => h) (.inl ⟨by rfl, ?_⟩) (fun h => by cases h) ?_
      rotate_left
      · intro w; go_simp; try with_reducible rfl
      try simp only [Act.put, List.setIfInBounds_toArray, List.set_cons_zero, List.set_cons_succ]
      refine wpAnyL_ready (rs := [32]) (by kernel_rfl) (by simp) ?_
      refine AllReadyL.cons (getw rfl) (fun K hK => ?_) AllReadyL.nil
      go_simp
      go_wp2_with fail
      refine hK.out _ _ (fun h => by cases h) (fun _ => ?_)
      try simp only [Act.put, List.setIfInBounds_toArray, List.set_cons_zero, List.set_cons_succ]
      refine wpAnyL_done (by kernel_rfl) ?_ _
      go_wp2
      go_ret
      exact ⟨by rw [hF.out]; rfl, _, _, _, by rw [hF.out]; exact hML.out.shut, hML.out.shutK⟩)
end Go.Proofs.YthhjhbgimdiboaaDoor

/- Parts: AsmAdd, RangeCell. -/
import Derived.Test.YtbhpkeiofajbpaaGreatDoorB19
import Derived.Test.YtbhpkeiofajbpaaGreatDoorB21
import Derived.Test.YtbhpkeiofajbpaaGreatDoorB02
import Derived.RangeFuncWrites
/- (*asm.source).line: an instruction is appended. Written by gen_line.py. -/
section
namespace Go.Proofs.YtbhpkeiofajbpaaGreatDoor
open Go.RowKit Go.Proofs.YtbhpkeiofajbpaaGreatDoorW.PrintWords
set_option linter.unusedVariables false
set_option linter.unusedSimpArgs false

set_option maxHeartbeats 16000000 in
set_option maxRecDepth 100000 in
theorem line_add (W : World) (base gx bm : Nat) (v0 v1 v2 : Value) (x : Src) (s : List UInt8) (n : Int) (he : Env W) (hX : SrcAt W base gx bm v0 v1 v2 x) (hs : s.length ≤ 90000) (hb0 : base ≤ W.heap.size)
  (hend : s.getLast? = some 10) (hnot : ¬ (s.dropLast.getLast? = some 58 ∧ nameB s.dropLast.dropLast = true)) (hgood : (oneF s.dropLast).2.2 = true) (h64 : x.l.length < 64) (hnl : x.names.length = x.l.length) (hrl : x.rows.length = x.l.length) :
  Calls Tryz.prog 50 #[.pointer (some ⟨gx, 0, none⟩), .string ⟨s.toArray⟩, .int .i64 n] W fun e W1 => e = .returned (.int .i64 (lineF x s n).2) ∧
   ∃ u0 u1 u2, SrcAt W1 base gx bm u0 u1 u2 (lineF x s n).1 ∧ LineKeeps W W1 base gx bm v0 v1 v2 u0 u1 u2 := by
 have hF : lineF x s n = ({ x with l := x.l ++ [(oneF s.dropLast).1], names := x.names ++ [(oneF s.dropLast).2.1], rows := x.rows ++ [n] }, 0) := by
  unfold lineF
  rw [if_neg (by rw [hend]; simp)]
  dsimp only
  rw [if_neg hnot, hgood, if_neg (by simp), if_neg (by omega)]
 generalize lineF x s n = fin at hF ⊢
 have hl1 : s.dropLast.length ≤ 90000 := by simp; omega
 have C1 := fun W' => cut_calls s 10 (by omega) W'
 have C2 := fun W' => cut_calls s.dropLast 58 (by omega) W'
 have C4 := fun (W' : World) (heW : Env W') => one_calls s.dropLast W' heW hl1
 have hc1 : cutF s 10 = (s.dropLast, true) := by unfold cutF; rw [if_pos hend]
 rw [hc1] at C1
 have hc2 : ∃ p is, cutF s.dropLast 58 = (p, is) ∧ (is = true → p.length ≤ 90000 ∧ nameB p = false) := by
  by_cases hcol : s.dropLast.getLast? = some 58
  ·refine ⟨s.dropLast.dropLast, true, by unfold cutF; rw [if_pos hcol], fun _ => ⟨by simp; omega, ?_⟩⟩
   simpa using fun h => hnot ⟨hcol, h⟩
  ·exact ⟨s.dropLast, false, by unfold cutF; rw [if_neg hcol], fun h => by cases h⟩
 obtain ⟨p, is, hc2, hp⟩ := hc2
 rw [hc2] at C2
 generalize s.dropLast = s1 at *
 generalize oneF s1 = r at *
 obtain ⟨⟨op, d, s', t, u, a, k, q⟩, tl, ok⟩ := r
 dsimp only at hF hgood C4
 subst hgood
 dsimp only [In.v] at C4
 obtain ⟨A, c, rfl⟩ : ∃ A c, v0 = .slice A x.l.length c := by
  rcases hX.r0.2 with ⟨rfl, h0⟩ | ⟨g, cap, cur, rfl, _⟩
  ·exact ⟨none, 0, by rw [h0]⟩
  ·exact ⟨_, _, rfl⟩
 replace C1 := Aside0.mk C1
 replace C2 := Aside0.mk C2
 replace C4 := Aside0.mk C4
 replace hX := Aside0.mk hX
 replace hF := Aside0.mk hF
 replace hp := Aside0.mk hp
 have hcut0 : (n : Int) = n := rfl
 clear hc1 hc2 hend hnot hcut0
 go_enter Tryz.func50, Tryz.ntmps50
 go_wp2_with fail
 refine (C1.out _).mono ?_
 rintro e w1 ⟨rfl, hb1⟩
 go_wp2_with fail
 refine (C2.out _).mono ?_
 rintro e w2 ⟨rfl, hb2⟩
 have hB := Aside0.mk (hb1.trans (hb2.mono hb1.size))
 clear hb1 hb2 C1 C2
 go_upto_region 5 with fail
 go_cut [31] (fun v wx => v = .bool false ∧ Aside0 (Below W.heap.size W wx))
 case first =>
  cases is with
  | false =>
   go_wp2
   go_meet
   exact ⟨rfl, hB⟩
  | true =>
   have C3 := name_calls7 p w2 (by have := (hp.out rfl).1; omega)
   rw [(hp.out rfl).2] at C3
   replace C3 := Aside0.mk C3
   go_wp2_with fail
   refine C3.out.mono ?_
   rintro e w3 ⟨rfl, hb3⟩
   go_wp2
   go_meet
   exact ⟨rfl, ⟨hB.out.trans (hb3.mono hB.out.size)⟩⟩
 case rest =>
  obtain ⟨rfl, hB⟩ := hcut
  go_wp2_with fail
  refine (C4.out _ (he.below hB.out)).mono ?_
  rintro e w4 ⟨rfl, hb4⟩
  have hB4 := Aside0.mk ((hB.out.trans (hb4.mono hB.out.size)).alloc (hB.out.trans (hb4.mono hB.out.size)).size (.cells (In.cs ⟨op, d, s', t, u, a, k, q⟩) 99))
  have hX4 := Aside0.mk (hX.out.keep hB4.out)
  have hE4 := Aside0.mk (blk_new w4 (.cells (In.cs ⟨op, d, s', t, u, a, k, q⟩) 99))
  have hle := (hB.out.trans (hb4.mono hB.out.size)).size
  have hM := Aside0.mk (show Mid W (w4.alloc (.cells (In.cs ⟨op, d, s', t, u, a, k, q⟩) 99)) base gx bm w4.heap.size (.slice A x.l.length c) v1 v2 (.slice A x.l.length c) v1 v2 x.l x.names x.rows x.labels ⟨op, d, s', t, u, a, k, q⟩ from
   ⟨hX4.out.s, hE4.out, hX4.out.r0, hX4.out.r1, hX4.out.r2, hX4.out.m, hX4.out.gb, hX4.out.bb, fun k hk => Nat.ne_of_lt (Nat.lt_of_lt_of_le (own_lt hX.out.r0 k hk) hle), .of_below hB4.out hb0⟩)
  clear hX4 hE4 hle hB hB4 hb4 C4
  have c0 : (w4.alloc (.cells (In.cs ⟨op, d, s', t, u, a, k, q⟩) 99)).cell? ⟨gx, 0, none⟩ = some (.slice A x.l.length c) := (blk_cell hM.out.s 0).trans rfl
  have h64a : decide (64 ≤ (x.l.length : Int)) = false := decide_eq_false (by omega)
  have h64b : ¬ 64 ≤ x.l.length := by omega
  obtain ⟨b, hb⟩ : ∃ b, w4.heap.size = b := ⟨_, rfl⟩
  obtain ⟨w5, hw5⟩ : ∃ y, w4.alloc (.cells (In.cs ⟨op, d, s', t, u, a, k, q⟩) 99) = y := ⟨_, rfl⟩
  rw [hw5, hb] at hM
  rw [hw5] at c0
  simp only [In.cs] at hw5
  go_upto_region 16 with fail
  try rw [hw5]
  try rw [hb]
  clear hw5 hb c0
  have hS := mid_S (hM.out.keep (below_drew (Below.refl _ _)))
  refine wp_region_late [26] (S := midS gx b (.slice A x.l.length c) v1 v2 ⟨op, d, s', t, u, a, k, q⟩) (by kernel_rfl) hS (fun hS0 => ?_)
  replace hM := hM.out.keep (below_drew (Below.refl _ _))
  generalize w5.drew = w5 at *
  have hrow : x.l.length ≤ 1000000 := by omega
  have hrow1 : x.names.length ≤ 1000000 := by omega
  have hrow2 : x.rows.length ≤ 1000000 := by omega
  clear h64 h64a h64b hnl hrl he

  refine wpAnyL_takeY (i := 0) (v := ?_) (getw rfl) (by kernel_rfl) (fun _ _ _ h => h) (.inl ⟨by rfl, ?_⟩) (fun _ => by assumption) ?_
  rotate_left
  ·intro w; go_simp; try with_reducible rfl
  try simp only [Act.put, List.setIfInBounds_toArray, List.set_cons_zero, List.set_cons_succ]
  refine wpAnyL_takeY (i := 1) (v := ?_) (getw rfl) (by kernel_rfl) (fun _ _ _ h => h) (.inl ⟨by rfl, ?_⟩) (fun _ => by assumption) ?_
  rotate_left
  ·intro w; go_simp; try with_reducible rfl
  try simp only [Act.put, List.setIfInBounds_toArray, List.set_cons_zero, List.set_cons_succ]
  refine wpAnyL_takeY (i := 2) (v := ?_) (getw rfl) (by kernel_rfl) (fun _ _ _ h => h) (.inl ⟨by rfl, ?_⟩) (fun _ => by assumption) ?_
  rotate_left
  ·intro w; go_simp; try with_reducible rfl
  try simp only [Act.put, List.setIfInBounds_toArray, List.set_cons_zero, List.set_cons_succ]
  refine wpAnyL_takeY (i := 3) (v := ?_) (getw rfl) (by kernel_rfl) (fun _ _ _ h => h) (.inl ⟨by rfl, ?_⟩) (fun _ => by assumption) ?_
  rotate_left
  ·intro w; go_simp; try with_reducible rfl
  try simp only [Act.put, List.setIfInBounds_toArray, List.set_cons_zero, List.set_cons_succ]
  refine wpAnyL_takeY (i := 4) (v := ?_) (getw rfl) (by kernel_rfl) (fun _ _ _ h => h) (.inl ⟨by rfl, ?_⟩) (fun _ => by assumption) ?_
  rotate_left
  ·intro w; go_simp; try with_reducible rfl
  try simp only [Act.put, List.setIfInBounds_toArray, List.set_cons_zero, List.set_cons_succ]
  refine wpAnyL_takeY (i := 5) (v := ?_) (getw rfl) (by kernel_rfl) (fun _ _ _ h => h) (.inl ⟨by rfl, ?_⟩) (fun _ => by assumption) ?_
  rotate_left
  ·intro w; go_simp; try with_reducible rfl
  try simp only [Act.put, List.setIfInBounds_toArray, List.set_cons_zero, List.set_cons_succ]
  refine wpAnyL_take (i := 6) (v := ?_) (getw rfl) (by kernel_rfl) (fun _ _ _ h => h) (.inl ⟨by rfl, ?_⟩) (by assumption) ?_
  rotate_left
  ·intro w hSw; obtain ⟨k0, k1, k2, k3, k4, k5, k6, k7, k8, k9, k10⟩ := hSw; go_simp; try with_reducible rfl
  try simp only [Act.put, List.setIfInBounds_toArray, List.set_cons_zero, List.set_cons_succ]
  refine wpAnyL_take (i := 7) (v := ?_) (getw rfl) (by kernel_rfl) (fun _ _ _ h => h) (.inl ⟨by rfl, ?_⟩) (by assumption) ?_
  rotate_left
  ·intro w hSw; obtain ⟨k0, k1, k2, k3, k4, k5, k6, k7, k8, k9, k10⟩ := hSw; go_simp; try with_reducible rfl
  try simp only [Act.put, List.setIfInBounds_toArray, List.set_cons_zero, List.set_cons_succ]
  refine wpAnyL_takeY (i := 10) (v := ?_) (getw rfl) (by kernel_rfl) (fun _ _ _ h => h) (.inl ⟨by rfl, ?_⟩) (fun _ => by assumption) ?_
  rotate_left
  ·intro w; go_simp; try with_reducible rfl
  try simp only [Act.put, List.setIfInBounds_toArray, List.set_cons_zero, List.set_cons_succ]
  refine wpAnyL_takeY (i := 11) (v := ?_) (getw rfl) (by kernel_rfl) (fun _ _ _ h => h) (.inl ⟨by rfl, ?_⟩) (fun _ => by assumption) ?_
  rotate_left
  ·intro w; go_simp; try with_reducible rfl
  try simp only [Act.put, List.setIfInBounds_toArray, List.set_cons_zero, List.set_cons_succ]
  refine wpAnyL_takeY (i := 12) (v := ?_) (getw rfl) (by kernel_rfl) (fun _ _ _ h => h) (.inl ⟨by rfl, ?_⟩) (fun _ => by assumption) ?_
  rotate_left
  ·intro w; go_simp; try with_reducible rfl
  try simp only [Act.put, List.setIfInBounds_toArray, List.set_cons_zero, List.set_cons_succ]
  refine wpAnyL_take (i := 13) (v := ?_) (getw rfl) (by kernel_rfl) (fun _ _ _ h => h) (.inl ⟨by rfl, ?_⟩) (by assumption) ?_
  rotate_left
  ·intro w hSw; obtain ⟨k0, k1, k2, k3, k4, k5, k6, k7, k8, k9, k10⟩ := hSw; go_simp; try with_reducible rfl
  try simp only [Act.put, List.setIfInBounds_toArray, List.set_cons_zero, List.set_cons_succ]
  refine wpAnyL_takeY (i := 14) (v := ?_) (getw rfl) (by kernel_rfl) (fun _ _ _ h => h) (.inl ⟨by rfl, ?_⟩) (fun _ => by assumption) ?_
  rotate_left
  ·intro w; go_simp; try with_reducible rfl
  try simp only [Act.put, List.setIfInBounds_toArray, List.set_cons_zero, List.set_cons_succ]
  refine wpAnyL_takeY (i := 17) (v := ?_) (getw rfl) (by kernel_rfl) (fun _ _ _ h => h) (.inl ⟨by rfl, ?_⟩) (fun _ => by assumption) ?_
  rotate_left
  ·intro w; go_simp; try with_reducible rfl
  try simp only [Act.put, List.setIfInBounds_toArray, List.set_cons_zero, List.set_cons_succ]
  refine wpAnyL_takeY (i := 18) (v := ?_) (getw rfl) (by kernel_rfl) (fun _ _ _ h => h) (.inl ⟨by rfl, ?_⟩) (fun _ => by assumption) ?_
  rotate_left
  ·intro w; go_simp; try with_reducible rfl
  try simp only [Act.put, List.setIfInBounds_toArray, List.set_cons_zero, List.set_cons_succ]
  refine wpAnyL_takeY (i := 19) (v := ?_) (getw rfl) (by kernel_rfl) (fun _ _ _ h => h) (.inl ⟨by rfl, ?_⟩) (fun _ => by assumption) ?_
  rotate_left
  ·intro w; go_simp; try with_reducible rfl
  try simp only [Act.put, List.setIfInBounds_toArray, List.set_cons_zero, List.set_cons_succ]
  refine wpAnyL_take (i := 20) (v := ?_) (getw rfl) (by kernel_rfl) (fun _ _ _ h => h) (.inl ⟨by rfl, ?_⟩) (by assumption) ?_
  rotate_left
  ·intro w hSw; obtain ⟨k0, k1, k2, k3, k4, k5, k6, k7, k8, k9, k10⟩ := hSw; go_simp; try with_reducible rfl
  try simp only [Act.put, List.setIfInBounds_toArray, List.set_cons_zero, List.set_cons_succ]
  refine wpAnyL_takeY (i := 21) (v := ?_) (getw rfl) (by kernel_rfl) (fun _ _ _ h => h) (.inl ⟨by rfl, ?_⟩) (fun _ => by assumption) ?_
  rotate_left
  ·intro w; go_simp; try with_reducible rfl
  try simp only [Act.put, List.setIfInBounds_toArray, List.set_cons_zero, List.set_cons_succ]
  iterate 6
   all_goals first
    | refine wpAnyL_ready (rs := [8, 15, 22]) (by decide +kernel) (by simp) (AllReadyL.cons (getw rfl) (fun K hK => ?_) (AllReadyL.cons (getw rfl) (fun K hK => ?_) (AllReadyL.cons (getw rfl) (fun K hK => ?_) AllReadyL.nil)))
    | refine wpAnyL_ready (rs := [9, 15, 22]) (by decide +kernel) (by simp) (AllReadyL.cons (getw rfl) (fun K hK => ?_) (AllReadyL.cons (getw rfl) (fun K hK => ?_) (AllReadyL.cons (getw rfl) (fun K hK => ?_) AllReadyL.nil)))
    | refine wpAnyL_ready (rs := [8, 15]) (by decide +kernel) (by simp) (AllReadyL.cons (getw rfl) (fun K hK => ?_) (AllReadyL.cons (getw rfl) (fun K hK => ?_) AllReadyL.nil))
    | refine wpAnyL_ready (rs := [8, 22]) (by decide +kernel) (by simp) (AllReadyL.cons (getw rfl) (fun K hK => ?_) (AllReadyL.cons (getw rfl) (fun K hK => ?_) AllReadyL.nil))
    | refine wpAnyL_ready (rs := [9, 15]) (by decide +kernel) (by simp) (AllReadyL.cons (getw rfl) (fun K hK => ?_) (AllReadyL.cons (getw rfl) (fun K hK => ?_) AllReadyL.nil))
    | refine wpAnyL_ready (rs := [9, 22]) (by decide +kernel) (by simp) (AllReadyL.cons (getw rfl) (fun K hK => ?_) (AllReadyL.cons (getw rfl) (fun K hK => ?_) AllReadyL.nil))
    | refine wpAnyL_ready (rs := [15, 22]) (by decide +kernel) (by simp) (AllReadyL.cons (getw rfl) (fun K hK => ?_) (AllReadyL.cons (getw rfl) (fun K hK => ?_) AllReadyL.nil))
    | refine wpAnyL_ready (rs := [16, 22]) (by decide +kernel) (by simp) (AllReadyL.cons (getw rfl) (fun K hK => ?_) (AllReadyL.cons (getw rfl) (fun K hK => ?_) AllReadyL.nil))
    | refine wpAnyL_ready (rs := [8]) (by decide +kernel) (by simp) (AllReadyL.cons (getw rfl) (fun K hK => ?_) AllReadyL.nil)
    | refine wpAnyL_ready (rs := [9]) (by decide +kernel) (by simp) (AllReadyL.cons (getw rfl) (fun K hK => ?_) AllReadyL.nil)
    | refine wpAnyL_ready (rs := [15]) (by decide +kernel) (by simp) (AllReadyL.cons (getw rfl) (fun K hK => ?_) AllReadyL.nil)
    | refine wpAnyL_ready (rs := [16]) (by decide +kernel) (by simp) (AllReadyL.cons (getw rfl) (fun K hK => ?_) AllReadyL.nil)
    | refine wpAnyL_ready (rs := [22]) (by decide +kernel) (by simp) (AllReadyL.cons (getw rfl) (fun K hK => ?_) AllReadyL.nil)
    | refine wpAnyL_ready (rs := [23]) (by decide +kernel) (by simp) (AllReadyL.cons (getw rfl) (fun K hK => ?_) AllReadyL.nil)
   all_goals first
    | (refine step_bin rfl (.tmp 75) rfl ⟨op, d, s', t, u, a, k, q⟩ rfl (fun g8 w1 hb hy => ?_); replace hM := hM.keep hb; (try replace hg15 := blk_keep hb hg15); (try replace hg22 := blk_keep hb hg22); have hg8 := hy; clear hb hy)
    | (refine step_bnm rfl (.tmp 82) rfl tl rfl (fun g15 w1 hb hy => ?_); replace hM := hM.keep hb; (try replace hg8 := blk_keep hb hg8); (try replace hg22 := blk_keep hb hg22); have hg15 := hy; clear hb hy)
    | (refine step_bint rfl (.tmp 89) rfl n rfl (fun g22 w1 hb hy => ?_); replace hM := hM.keep hb; (try replace hg8 := blk_keep hb hg8); (try replace hg15 := blk_keep hb hg15); have hg22 := hy; clear hb hy)
    | (refine step_ain rfl (.tmp 74) (.tmp 76) rfl base g8 ⟨op, d, s', t, u, a, k, q⟩ _ x.l rfl hM.q0 rfl hg8 hrow hM.hbs (fun u0 w1 hr hg ha => ?_); (try replace hg15 := blk_grown hg15 hg (own_apart hM.q0 hg15 (by decide))); (try replace hg22 := blk_grown hg22 hg (own_apart hM.q0 hg22 (by decide))); replace hM := hM.a0 hr hg ha; clear hr hg ha hg8)
    | (refine step_anm rfl (.tmp 81) (.tmp 83) rfl base g15 tl _ x.names rfl hM.q1 rfl hg15 hrow1 hM.hbs (fun u1 w1 hr hg ha => ?_); (try replace hg22 := blk_grown hg22 hg (own_apart hM.q1 hg22 (by decide))); replace hM := hM.a1 hr hg ha; clear hr hg ha hg15)
    | (refine step_aint rfl (.tmp 88) (.tmp 90) rfl base g22 n _ x.rows rfl hM.q2 rfl hg22 hrow2 hM.hbs (fun u2 wL hr hg ha => ?_); replace hM := hM.a2 hr hg ha; clear hr hg ha hg22)
   all_goals refine hK.out _ _ (fun _ => mid_S hM) (fun hSn => ?_)
   all_goals replace hS0 := hSn rfl
   all_goals clear hSn hK K
   all_goals try simp only [Act.put, List.setIfInBounds_toArray, List.set_cons_zero, List.set_cons_succ]
  all_goals (
   obtain ⟨A0, n0, e0, rfl⟩ := own_slice hM.q0
   obtain ⟨A1, n1, e1, rfl⟩ := own_slice hM.q1
   obtain ⟨A2, n2, e2, rfl⟩ := own_slice hM.q2
   have q0 : wL.cell? ⟨gx, 0, none⟩ = some (.slice A x.l.length c) := (blk_cell hM.s 0).trans rfl
   have f0 := blk_frozen hM.s 0
   have q1 : wL.cell? ⟨gx, 1, none⟩ = some v1 := (blk_cell hM.s 1).trans rfl
   have f1 := blk_frozen hM.s 1
   have q2 : wL.cell? ⟨gx, 2, none⟩ = some v2 := (blk_cell hM.s 2).trans rfl
   have f2 := blk_frozen hM.s 2
   have z0 : gx < wL.heap.size := blk_lt hM.s
   replace hM := Aside0.mk hM
   refine wpAnyL_takeY (i := 24) (v := ?_) (getw rfl) (by kernel_rfl) (fun _ _ _ h => h) (.inl ⟨by rfl, ?_⟩) (fun _ => by assumption) ?_
   rotate_left
   ·intro w; go_simp; try with_reducible rfl
   try simp only [Act.put, List.setIfInBounds_toArray, List.set_cons_zero, List.set_cons_succ]
   refine wpAnyL_takeY (i := 25) (v := ?_) (getw rfl) (by kernel_rfl) (fun _ _ _ h => h) (.inl ⟨by rfl, ?_⟩) (fun _ => by assumption) ?_
   rotate_left
   ·intro w; go_simp; try with_reducible rfl
   try simp only [Act.put, List.setIfInBounds_toArray, List.set_cons_zero, List.set_cons_succ]
   refine wpAnyL_ready (rs := [26]) (by kernel_rfl) (by simp) ?_
   refine AllReadyL.cons (getw rfl) (fun K hK => ?_) AllReadyL.nil
   go_simp
   go_wp2_with fail
   refine hK.out _ _ (fun h => by cases h) (fun _ => ?_)
   try simp only [Act.put, List.setIfInBounds_toArray, List.set_cons_zero, List.set_cons_succ]
   refine wpAnyL_takeY (i := 27) (v := ?_) (getw rfl) (by kernel_rfl) (fun _ _ _ h => h) (.inl ⟨by rfl, ?_⟩) (fun h => by cases h) ?_
   rotate_left
   ·intro w; go_simp; try with_reducible rfl
   try simp only [Act.put, List.setIfInBounds_toArray, List.set_cons_zero, List.set_cons_succ]
   refine wpAnyL_takeY (i := 28) (v := ?_) (getw rfl) (by kernel_rfl) (fun _ _ _ h => h) (.inl ⟨by rfl, ?_⟩) (fun h => by cases h) ?_
   rotate_left
   ·intro w; go_simp; try with_reducible rfl
   try simp only [Act.put, List.setIfInBounds_toArray, List.set_cons_zero, List.set_cons_succ]
   refine wpAnyL_ready (rs := [29]) (by kernel_rfl) (by simp) ?_
   refine AllReadyL.cons (getw rfl) (fun K hK => ?_) AllReadyL.nil
   go_simp
   go_wp2_with fail
   refine hK.out _ _ (fun h => by cases h) (fun _ => ?_)
   try simp only [Act.put, List.setIfInBounds_toArray, List.set_cons_zero, List.set_cons_succ]
   refine wpAnyL_takeY (i := 30) (v := ?_) (getw rfl) (by kernel_rfl) (fun _ _ _ h => h) (.inl ⟨by rfl, ?_⟩) (fun h => by cases h) ?_
   rotate_left
   ·intro w; go_simp; try with_reducible rfl
   try simp only [Act.put, List.setIfInBounds_toArray, List.set_cons_zero, List.set_cons_succ]
   refine wpAnyL_takeY (i := 31) (v := ?_) (getw rfl) (by kernel_rfl) (fun _ _ _ h => h) (.inl ⟨by rfl, ?_⟩) (fun h => by cases h) ?_
   rotate_left
   ·intro w; go_simp; try with_reducible rfl
   try simp only [Act.put, List.setIfInBounds_toArray, List.set_cons_zero, List.set_cons_succ]
   refine wpAnyL_ready (rs := [32]) (by kernel_rfl) (by simp) ?_
   refine AllReadyL.cons (getw rfl) (fun K hK => ?_) AllReadyL.nil
   go_simp
   go_wp2_with fail
   refine hK.out _ _ (fun h => by cases h) (fun _ => ?_)
   try simp only [Act.put, List.setIfInBounds_toArray, List.set_cons_zero, List.set_cons_succ]
   refine wpAnyL_done (by kernel_rfl) ?_ _
   go_wp2
   go_ret
   exact ⟨by rw [hF.out]; rfl, _, _, _, by rw [hF.out]; exact hM.out.shut, hM.out.shutK⟩)
end Go.Proofs.YtbhpkeiofajbpaaGreatDoor
end
/- A range over a function whose iterator keeps what it has not handed out yet in a cell of its own (block c): the caller's law. The kit's own laws ask an iterator that writes no cell. -/
section
namespace Go.Proofs.YtbhpkeiofajbpaaGreatDoor
open Go Go.RowKit Go.Proofs.YtbhpkeiofajbpaaGreatDoorW.PrintWords
set_option linter.unusedVariables false
section
variable {F : Fence} {n : Nat} {P : Program} {α : Type}

/-- What a relation between two rounds abides: new memory; a store into block c. -/
structure Calm {β : Type} (c : Nat) (I : β → World → Prop) : Prop where
 below : ∀ s W W', I s W → Below W.heap.size W W' → I s W'
 cell : ∀ s W v, I s W → I s (W.setCell ⟨c, 0, none⟩ v)
/-- The iterator's side: from w on (block c holds what it held), whatever the round keeps (J), all of S comes, or a part of it, a round having said 'no more'. -/
def IterCell (F : Fence) (n : Nat) (P : Program) (g : Nat) (lb : Array Value) (enc : α → Value) (c : Nat) (S Sp : List α → Prop) (w : World) : Prop :=
 ∀ (l : Nat) (J Jx : List α → World → Prop) (W : World), Below w.heap.size w W → Calm c J → Calm c Jx →
  (∀ pre x W1, Sp (pre ++ [x]) → J pre W1 → YieldAt F (n - 1) P l #[enc x] W1 fun e W2 =>
   (e = .returned (.bool true) ∧ J (pre ++ [x]) W2 ∧ W2.heap[c]? = W1.heap[c]?) ∨ (e = .returned (.bool false) ∧ Jx (pre ++ [x]) W2)) →
  J [] W →
  CallsIn F n P g (#[.func (.yield l) #[] #[]] ++ lb) W fun e W2 => (∃ v, e = .returned v) ∧ ((∃ xs, S xs ∧ J xs W2) ∨ (∃ pre, Sp pre ∧ Jx pre W2))

/-- How the loop's body is left: it goes on, or it returns. -/
def bodyEnds (B c : Nat) (I Ix : List α → World → Prop) (xs : List α) (W : World) : Exit → Act → World → Prop
 | .normal, _, W2 => KeepsFrom B W W2 ∧ W2.heap[c]? = W.heap[c]? ∧ I xs W2
 | .ret, _, W2 => KeepsFrom B W W2 ∧ Ix xs W2
 | _, _, _ => False

theorem put_cells {W : World} {l c : Nat} {o : Obj} (h : c ≠ l) : (W.putObj l o).heap[c]? = W.heap[c]? := World.putObj_heap_other h

theorem range_cell {g : Operand} {p : Tmp} {assign body : Code} {Q : Exit → Act → World → Prop} {a : Act} {w : World}
  (hro : F.round = none) (h1 : 1 ≤ n) {gf : Nat} {lb : Array Value} (hg : a.eval g = .func (.func gf) #[] lb) (hFg : F.fn gf) (eg : ∀ args w, (callFunc gf args).run P w = .ok (.enter gf args) w)
  {enc : α → Value} {c : Nat} {S Sp : List α → Prop} (hc : c < w.heap.size) (hseq : IterCell F (n - 1) P gf lb enc c S Sp w)
  (I Ix : List α → World → Prop) (hI : Calm c I) (hIx : Calm c Ix)
  (hIp : ∀ s W l o o', I s W → w.heap.size ≤ l → W.heap[l]? = some o → o.isCells = false → I s (W.putObj l o'))
  (hIxp : ∀ s W l o o', Ix s W → w.heap.size ≤ l → W.heap[l]? = some o → o.isCells = false → Ix s (W.putObj l o'))
  (h0 : I [] w) (a₁ : α → Act)
  (hassign : ∀ (l : Nat) (x : α) (W : World) (K : Act → World → Prop), K (a₁ x) W →
   assign.wpIn (F.inRound l) (n - 1 - 1) P (Exit.then K (fun _ _ _ => False)) { tmps := (#[p].zip #[enc x]).foldl (fun t (p, v) => t.setIfInBounds p v) a.tmps, defers := [] } W)
  (hbody : ∀ (l : Nat) (pre : List α) (x : α) (W : World), Sp (pre ++ [x]) → I pre W → body.wpIn (F.inRound l) (n - 1 - 1) P (bodyEnds w.heap.size c I Ix (pre ++ [x]) W) (a₁ x) W)
  (hdone : ∀ (D : Nat) (xs : List α) (W : World), w.heap.size ≤ D → S xs → I xs W → W.heap[D]? = some (.deferred (some [])) → Q .normal { a with defers := { target := .collected D, args := #[] } :: a.defers } W)
  (hstop : ∀ (D : Nat) (pre : List α) (W : World), w.heap.size ≤ D → Sp pre → Ix pre W → W.heap[D]? = some (.deferred (some [])) → Code.ret.wpIn F n P Q { a with defers := { target := .collected D, args := #[] } :: a.defers } W) :
  (Code.rangeFunc g #[p] assign body).wpIn F n P Q a w := by
 refine wpIn_rangeFunc fun fn hfn => ?_
 rw [hro]
 -- the record, by its state and its pending jump
 let rec_ : LoopState → Option Code → Loop := fun st pe => { state := st, pending := pe, fn, tmps := a.tmps, params := #[p], assign, body, defers := w.heap.size }
 have hrec : ∀ st pe, rec_ st pe = { state := st, pending := pe, fn, tmps := a.tmps, params := #[p], assign, body, defers := w.heap.size } := fun _ _ => rfl
 generalize rec_ = rec at hrec
 have hD0 : (w.alloc (.deferred (some []))).heap[w.heap.size]? = some (.deferred (some [])) := blk_new w _
 have hW1 : ((w.alloc (.deferred (some []))).alloc (.loop (rec .ready none))).heap[w.heap.size + 1]? = some (.loop (rec .ready none)) := by
  have := blk_new (w.alloc (.deferred (some []))) (.loop (rec .ready none))
  rwa [World.size_alloc] at this
 have hD1 : ((w.alloc (.deferred (some []))).alloc (.loop (rec .ready none))).heap[w.heap.size]? = some (.deferred (some [])) := blk_old hD0 _
 have hB1 : Below w.heap.size w ((w.alloc (.deferred (some []))).alloc (.loop (rec .ready none))) := ((Below.refl _ w).alloc (Nat.le_refl _) _).alloc (by simp) _
 have hI1 : I [] ((w.alloc (.deferred (some []))).alloc (.loop (rec .ready none))) := hI.below _ _ _ h0 hB1
 refine ⟨w.heap.size + 1, [{ target := .collected w.heap.size, args := #[] }], (w.alloc (.deferred (some []))).alloc (.loop (rec .ready none)), { target := .fn (.func gf) lb, args := #[.func (.yield (w.heap.size + 1)) #[] #[]] },
  (w.alloc (.deferred (some []))).alloc (.loop (rec .ready none)), gf, #[.func (.yield (w.heap.size + 1)) #[] #[]] ++ lb, (w.alloc (.deferred (some []))).alloc (.loop (rec .ready none)), ?_, ?_, ?_, ?_, fun _ => h1, ?_⟩
 ·rw [hrec]; exact run_enterLoop_outer _ _ _ _ _
 ·simp only [resolve, hg]
  simp [go_sem]
 ·intro f' hf'
  simp [Target.leads] at hf'
  subst hf'
  exact hFg
 ·simp [invoke, go_sem, eg]
 have hkeep : ∀ {W W2 : World} {o : Obj} {k : Nat}, W.heap[k]? = some o → Below W.heap.size W W2 → W2.heap[k]? = some o := fun h hb => blk_keep hb h
 have hfar : ∀ {W : World} {o : Obj} {k : Nat} (v : Value), w.heap.size ≤ k → W.heap[k]? = some o → (W.setCell ⟨c, 0, none⟩ v).heap[k]? = some o := fun v hk h =>
  (Below.heap_setCell _ ⟨c, 0, none⟩ v _ (show _ ≠ c by omega)).trans h
 refine (hseq (w.heap.size + 1)
  (fun pre W => I pre W ∧ W.heap[w.heap.size + 1]? = some (.loop (rec .ready none)) ∧ W.heap[w.heap.size]? = some (.deferred (some [])))
  (fun pre W => Ix pre W ∧ W.heap[w.heap.size + 1]? = some (.loop (rec .done (some .ret))) ∧ W.heap[w.heap.size]? = some (.deferred (some [])))
  _ hB1
  ⟨fun s W W2 h hb => ⟨hI.below _ _ _ h.1 hb, hkeep h.2.1 hb, hkeep h.2.2 hb⟩, fun s W v h => ⟨hI.cell _ _ _ h.1, hfar v (by omega) h.2.1, hfar v (by omega) h.2.2⟩⟩
  ⟨fun s W W2 h hb => ⟨hIx.below _ _ _ h.1 hb, hkeep h.2.1 hb, hkeep h.2.2 hb⟩, fun s W v h => ⟨hIx.cell _ _ _ h.1, hfar v (by omega) h.2.1, hfar v (by omega) h.2.2⟩⟩
  ?round ⟨hI1, hW1, hD1⟩).mono ?after
 case round =>
  rintro pre x W hsp ⟨hi, hl, hd⟩
  have hlt : w.heap.size + 1 < W.heap.size := blk_lt hl
  have hy := run_yield (P := P) (args := #[enc x]) hl (by rw [hrec]; rfl)
  rw [hrec] at hy
  refine ⟨fn, _, assign, body, hy, roundIn_of_wpIn hfn (hassign _ x W _ ⟨_, run_beginRound hl (by rw [hrec]), ?_⟩)⟩
  obtain ⟨busy, hbusy⟩ : ∃ b : Obj, b = .loop { rec .ready none with state := .busy } := ⟨_, rfl⟩
  rw [← hbusy]
  have hl2 : (W.putObj (w.heap.size + 1) busy).heap[w.heap.size + 1]? = some busy := World.putObj_heap_same hlt
  have hd2 : (W.putObj (w.heap.size + 1) busy).heap[w.heap.size]? = some (.deferred (some [])) := (put_cells (by omega)).trans hd
  have hc2 : (W.putObj (w.heap.size + 1) busy).heap[c]? = W.heap[c]? := put_cells (by omega)
  have hnb : busy.isCells = false := by rw [hbusy]; rfl
  refine wpIn_mono (hbody _ pre x _ hsp (hIp _ _ _ _ _ hi (by omega) hl rfl)) ?_
  rintro e a3 W3 hp
  have fin : ∀ (jump : Option Code), KeepsFrom w.heap.size (W.putObj (w.heap.size + 1) busy) W3 →
    (Instr.endRound (w.heap.size + 1) jump).run P W3 = .ok (.bool jump.isNone) (W3.putObj (w.heap.size + 1) (.loop (rec (if jump.isNone then .ready else .done) jump))) ∧
    W3.heap[w.heap.size + 1]? = some busy ∧
    (W3.putObj (w.heap.size + 1) (.loop (rec (if jump.isNone then .ready else .done) jump))).heap[w.heap.size + 1]? = some (.loop (rec (if jump.isNone then .ready else .done) jump)) ∧
    (W3.putObj (w.heap.size + 1) (.loop (rec (if jump.isNone then .ready else .done) jump))).heap[w.heap.size]? = some (.deferred (some [])) := fun jump hk3 => by
   have hl3 := hk3.same _ _ (by omega) hl2 hnb
   have hd3 := hk3.same _ _ (Nat.le_refl _) hd2 rfl
   have hr := hl3
   rw [hbusy] at hr
   have := run_endRound (P := P) jump hr
   rw [hrec] at this ⊢
   exact ⟨this, hl3, World.putObj_heap_same (blk_lt hl3), (put_cells (by omega)).trans hd3⟩
  cases e with
  | normal =>
   obtain ⟨hk3, hc3, hi3⟩ := hp
   obtain ⟨hr, hl3, hl4, hd4⟩ := fin none hk3
   exact ⟨_, _, hr, .inl ⟨rfl, ⟨hIp _ _ _ _ _ hi3 (by omega) hl3 hnb, hl4, hd4⟩, (put_cells (by omega)).trans (hc3.trans hc2)⟩⟩
  | ret =>
   obtain ⟨hk3, hi3⟩ := hp
   obtain ⟨hr, hl3, hl4, hd4⟩ := fin (some .ret) hk3
   exact ⟨_, _, hr, .inr ⟨rfl, hIxp _ _ _ _ _ hi3 (by omega) hl3 hnb, hl4, hd4⟩⟩
  | exit id => exact hp.elim
  | goto t => exact hp.elim
  | panic ch => exact hp.elim
  | outgrown => exact hp.elim
 case after =>
  rintro e W2 ⟨⟨v, rfl⟩, (⟨xs, hS, hi, hl, hd⟩ | ⟨pre, hSp, hi, hl, hd⟩)⟩
  ·have he := run_endLoop (P := P) hl (by rw [hrec]; simp)
   rw [hrec] at he
   exact ⟨none, _, he, hdone _ xs _ (Nat.le_refl _) hS (hIp _ _ _ _ _ hi (by omega) hl rfl) ((put_cells (by omega)).trans hd)⟩
  ·have he := run_endLoop (P := P) hl (by rw [hrec]; simp)
   rw [hrec] at he
   exact ⟨some .ret, _, he, hstop _ pre _ (Nat.le_refl _) hSp (hIxp _ _ _ _ _ hi (by omega) hl rfl) ((put_cells (by omega)).trans hd)⟩
end
end Go.Proofs.YtbhpkeiofajbpaaGreatDoor
end

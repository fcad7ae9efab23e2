/- ropelineref06.Right of any instruction: what the program's Right says. -/
import Derived.Test.YtbkbkikbfbmbdaaDoorRefRightA
import Derived.Test.YtbkbkikbfbmbdaaDoorRefRightB
import Derived.Test.YtbkbkikbfbmbdaaDoorRefRightC
import Derived.Test.YtbkbkikbfbmbdaaDoorRefRightD
namespace Go.Proofs.YtbkbkikbfbmbdaaDoor
open Go.RowKit Go.Proofs.YtbkbkikbfbmbdaaDoorW.PrintWords
set_option linter.unusedVariables false

structure In.regs5 (i : In) : Prop where
  d : 0 ≤ i.d ∧ i.d ≤ 7
  s : 0 ≤ i.s ∧ i.s ≤ 7
  t : 0 ≤ i.t ∧ i.t ≤ 7
  u : 0 ≤ i.u ∧ i.u ≤ 7
  a : 0 ≤ i.a ∧ i.a ≤ 7

theorem stepR_regs {places s : Int} {r r' : In} (h : stepR places s r = some r') (hr : r'.regs5) : r.regs5 := by
  unfold stepR at h
  obtain ⟨h1, h2, h3, h4, h5⟩ := hr
  cases hf : fieldOff s with
  | some j =>
    rw [hf] at h
    dsimp only at h
    by_cases hb : r.get j < 0 ∨ 7 < r.get j
    · rw [if_pos hb] at h; cases h
    rw [if_neg hb] at h
    cases h
    have hb' : 0 ≤ r.get j ∧ r.get j ≤ 7 := by omega
    clear hb
    rcases fieldOff_cases hf with ⟨_, rfl⟩ | ⟨_, rfl⟩ | ⟨_, rfl⟩ | ⟨_, rfl⟩ | ⟨_, rfl⟩
    all_goals (simp only [In.put, In.get] at *; constructor <;> assumption)
  | none =>
    rw [hf] at h
    dsimp only at h
    by_cases c1 : s = 75
    · rw [if_pos c1] at h; cases h; constructor <;> assumption
    rw [if_neg c1] at h
    by_cases c2 : s = 66
    · rw [if_pos c2] at h
      by_cases b : 31 < r.k
      · rw [if_pos b] at h; cases h
      rw [if_neg b] at h; cases h; constructor <;> assumption
    rw [if_neg c2] at h
    by_cases c3 : s = 77
    · rw [if_pos c3] at h
      by_cases b : r.k < 1 ∨ 4 < r.k
      · rw [if_pos b] at h; cases h
      rw [if_neg b] at h; cases h; constructor <;> assumption
    rw [if_neg c3] at h
    by_cases c4 : s = 79
    · rw [if_pos c4] at h
      by_cases b : 3 < r.k
      · rw [if_pos b] at h; cases h
      rw [if_neg b] at h; cases h; constructor <;> assumption
    rw [if_neg c4] at h
    by_cases c5 : s = 87
    · rw [if_pos c5] at h
      by_cases b : 1 < r.k
      · rw [if_pos b] at h; cases h
      rw [if_neg b] at h
      by_cases b2 : r.t < 0 ∨ 7 < r.t ∨ r.q < -1 ∨ (r.q ≠ -1 ∧ places ≤ r.q)
      · rw [if_pos b2] at h; cases h
      rw [if_neg b2] at h; cases h
      exact ⟨h1, h2, by omega, h4, h5⟩
    rw [if_neg c5] at h
    by_cases c6 : s = 80
    · rw [if_pos c6] at h
      by_cases b : r.q < 0 ∨ places ≤ r.q
      · rw [if_pos b] at h; cases h
      rw [if_neg b] at h; cases h
      exact ⟨h1, h2, h3, h4, h5⟩
    rw [if_neg c6] at h
    cases h
    constructor <;> assumption
theorem foldR_regs {places : Int} : ∀ (l : List UInt8) (r r' : In), foldR places l r = some r' → r'.regs5 → r.regs5
  | [], r, r', h, hr => by cases h; exact hr
  | c :: l, r, r', h, hr => by
    unfold foldR at h
    cases hs : stepR places (c.toNat : Int) r with
    | none => rw [hs] at h; cases h
    | some r1 =>
      rw [hs] at h
      exact stepR_regs hs (foldR_regs l r1 r' h hr)
theorem rightF_name' {i : In} {places : Int} (h : rightF i places = true) : opName i.op ≠ [] := by
  intro e
  unfold rightF at h
  rw [if_pos e] at h
  cases h
theorem rightF_regs {i : In} {places : Int} (h : rightF i places = true) : i.regs5 := by
  have hn := rightF_name' h
  rw [rightF_eq _ _ hn] at h
  cases hf : foldR places (opHas i.op) { i with op := 0 } with
  | none => rw [hf] at h; cases h
  | some r =>
    rw [hf] at h
    have e : r = In.zero := of_decide_eq_true h
    subst e
    have := foldR_regs _ _ _ hf ⟨by decide, by decide, by decide, by decide, by decide⟩
    exact ⟨this.d, this.s, this.t, this.u, this.a⟩

set_option maxHeartbeats 400000 in
set_option maxRecDepth 100000 in
theorem refright_noname (op d s t u a k q places : Int) (w : World) (hn : opName op = []) :
    Calls Tryd.prog 8 #[.agg #[.int .i64 op, .int .i64 d, .int .i64 s, .int .i64 t, .int .i64 u, .int .i64 a, .int .u32 k, .int .i64 q], .int .i64 places] w fun e w' => e = .returned (.bool false) ∧ Below w.heap.size w w' := by
  replace hn := Aside0.mk hn
  go_enter Tryd.func8, Tryd.ntmps8
  go_wp2_with fail
  refine (name_calls op _).mono ?_
  rintro e w1 ⟨rfl, hb⟩
  rw [hn.out]
  go_wp2
  go_ret
  exact ⟨rfl, ((Below.refl w.heap.size w).alloc (Nat.le_refl _) _).trans (hb.mono (by simp))⟩
set_option maxHeartbeats 400000 in
set_option maxRecDepth 100000 in
theorem refright_bad_d (op d s t u a k q places : Int) (w : World) (hn : opName op ≠ []) (hd : ¬ (0 ≤ d ∧ d ≤ 7)) :
    Calls Tryd.prog 8 #[.agg #[.int .i64 op, .int .i64 d, .int .i64 s, .int .i64 t, .int .i64 u, .int .i64 a, .int .u32 k, .int .i64 q], .int .i64 places] w fun e w' => e = .returned (.bool false) ∧ Below w.heap.size w w' := by
  have hne : (opName op).isEmpty = false := by cases h : opName op <;> simp_all
  clear hn
  replace hd := Aside0.mk hd
  go_enter Tryd.func8, Tryd.ntmps8
  go_wp2_with fail
  refine (name_calls op _).mono ?_
  rintro e w1 ⟨rfl, hb⟩
  have BK := Aside0.mk (blk_keep hb (blk_new w _))
  have z : w.heap.size < w1.heap.size := blk_lt BK.out
  have c1 : w1.cell? ⟨w.heap.size, 1, none⟩ = some (.int .i64 d) := (blk_cell BK.out 1).trans rfl
  go_wp2_with fail
  refine (reg_no d hd.out _).mono ?_
  rintro e w' ⟨rfl, rfl⟩
  go_wp2
  go_ret
  exact ⟨rfl, ((Below.refl w.heap.size w).alloc (Nat.le_refl _) _).trans (hb.mono (by simp))⟩

set_option maxHeartbeats 400000 in
set_option maxRecDepth 100000 in
theorem refright_bad_s (op d s t u a k q places : Int) (w : World) (hn : opName op ≠ []) (hd : 0 ≤ d ∧ d ≤ 7) (hs : ¬ (0 ≤ s ∧ s ≤ 7)) :
    Calls Tryd.prog 8 #[.agg #[.int .i64 op, .int .i64 d, .int .i64 s, .int .i64 t, .int .i64 u, .int .i64 a, .int .u32 k, .int .i64 q], .int .i64 places] w fun e w' => e = .returned (.bool false) ∧ Below w.heap.size w w' := by
  have hne : (opName op).isEmpty = false := by cases h : opName op <;> simp_all
  clear hn
  replace hs := Aside0.mk hs
  go_enter Tryd.func8, Tryd.ntmps8
  go_wp2_with fail
  refine (name_calls op _).mono ?_
  rintro e w1 ⟨rfl, hb⟩
  have BK := Aside0.mk (blk_keep hb (blk_new w _))
  have z : w.heap.size < w1.heap.size := blk_lt BK.out
  have c1 : w1.cell? ⟨w.heap.size, 1, none⟩ = some (.int .i64 d) := (blk_cell BK.out 1).trans rfl
  have c2 : w1.cell? ⟨w.heap.size, 2, none⟩ = some (.int .i64 s) := (blk_cell BK.out 2).trans rfl
  go_wp2_with fail
  refine (reg_yes d hd _).mono ?_
  rintro e w' ⟨rfl, rfl⟩
  go_wp2_with fail
  refine (reg_no s hs.out _).mono ?_
  rintro e w' ⟨rfl, rfl⟩
  go_wp2
  go_ret
  exact ⟨rfl, ((Below.refl w.heap.size w).alloc (Nat.le_refl _) _).trans (hb.mono (by simp))⟩

set_option maxHeartbeats 400000 in
set_option maxRecDepth 100000 in
theorem refright_bad_t (op d s t u a k q places : Int) (w : World) (hn : opName op ≠ []) (hd : 0 ≤ d ∧ d ≤ 7) (hs : 0 ≤ s ∧ s ≤ 7) (ht : ¬ (0 ≤ t ∧ t ≤ 7)) :
    Calls Tryd.prog 8 #[.agg #[.int .i64 op, .int .i64 d, .int .i64 s, .int .i64 t, .int .i64 u, .int .i64 a, .int .u32 k, .int .i64 q], .int .i64 places] w fun e w' => e = .returned (.bool false) ∧ Below w.heap.size w w' := by
  have hne : (opName op).isEmpty = false := by cases h : opName op <;> simp_all
  clear hn
  replace ht := Aside0.mk ht
  go_enter Tryd.func8, Tryd.ntmps8
  go_wp2_with fail
  refine (name_calls op _).mono ?_
  rintro e w1 ⟨rfl, hb⟩
  have BK := Aside0.mk (blk_keep hb (blk_new w _))
  have z : w.heap.size < w1.heap.size := blk_lt BK.out
  have c1 : w1.cell? ⟨w.heap.size, 1, none⟩ = some (.int .i64 d) := (blk_cell BK.out 1).trans rfl
  have c2 : w1.cell? ⟨w.heap.size, 2, none⟩ = some (.int .i64 s) := (blk_cell BK.out 2).trans rfl
  have c3 : w1.cell? ⟨w.heap.size, 3, none⟩ = some (.int .i64 t) := (blk_cell BK.out 3).trans rfl
  go_wp2_with fail
  refine (reg_yes d hd _).mono ?_
  rintro e w' ⟨rfl, rfl⟩
  go_wp2_with fail
  refine (reg_yes s hs _).mono ?_
  rintro e w' ⟨rfl, rfl⟩
  go_wp2_with fail
  refine (reg_no t ht.out _).mono ?_
  rintro e w' ⟨rfl, rfl⟩
  go_wp2
  go_ret
  exact ⟨rfl, ((Below.refl w.heap.size w).alloc (Nat.le_refl _) _).trans (hb.mono (by simp))⟩

set_option maxHeartbeats 400000 in
set_option maxRecDepth 100000 in
theorem refright_bad_u (op d s t u a k q places : Int) (w : World) (hn : opName op ≠ []) (hd : 0 ≤ d ∧ d ≤ 7) (hs : 0 ≤ s ∧ s ≤ 7) (ht : 0 ≤ t ∧ t ≤ 7) (hu : ¬ (0 ≤ u ∧ u ≤ 7)) :
    Calls Tryd.prog 8 #[.agg #[.int .i64 op, .int .i64 d, .int .i64 s, .int .i64 t, .int .i64 u, .int .i64 a, .int .u32 k, .int .i64 q], .int .i64 places] w fun e w' => e = .returned (.bool false) ∧ Below w.heap.size w w' := by
  have hne : (opName op).isEmpty = false := by cases h : opName op <;> simp_all
  clear hn
  replace hu := Aside0.mk hu
  go_enter Tryd.func8, Tryd.ntmps8
  go_wp2_with fail
  refine (name_calls op _).mono ?_
  rintro e w1 ⟨rfl, hb⟩
  have BK := Aside0.mk (blk_keep hb (blk_new w _))
  have z : w.heap.size < w1.heap.size := blk_lt BK.out
  have c1 : w1.cell? ⟨w.heap.size, 1, none⟩ = some (.int .i64 d) := (blk_cell BK.out 1).trans rfl
  have c2 : w1.cell? ⟨w.heap.size, 2, none⟩ = some (.int .i64 s) := (blk_cell BK.out 2).trans rfl
  have c3 : w1.cell? ⟨w.heap.size, 3, none⟩ = some (.int .i64 t) := (blk_cell BK.out 3).trans rfl
  have c4 : w1.cell? ⟨w.heap.size, 4, none⟩ = some (.int .i64 u) := (blk_cell BK.out 4).trans rfl
  go_wp2_with fail
  refine (reg_yes d hd _).mono ?_
  rintro e w' ⟨rfl, rfl⟩
  go_wp2_with fail
  refine (reg_yes s hs _).mono ?_
  rintro e w' ⟨rfl, rfl⟩
  go_wp2_with fail
  refine (reg_yes t ht _).mono ?_
  rintro e w' ⟨rfl, rfl⟩
  go_wp2_with fail
  refine (reg_no u hu.out _).mono ?_
  rintro e w' ⟨rfl, rfl⟩
  go_wp2
  go_ret
  exact ⟨rfl, ((Below.refl w.heap.size w).alloc (Nat.le_refl _) _).trans (hb.mono (by simp))⟩

set_option maxHeartbeats 400000 in
set_option maxRecDepth 100000 in
theorem refright_bad_a (op d s t u a k q places : Int) (w : World) (hn : opName op ≠ []) (hd : 0 ≤ d ∧ d ≤ 7) (hs : 0 ≤ s ∧ s ≤ 7) (ht : 0 ≤ t ∧ t ≤ 7) (hu : 0 ≤ u ∧ u ≤ 7) (ha : ¬ (0 ≤ a ∧ a ≤ 7)) :
    Calls Tryd.prog 8 #[.agg #[.int .i64 op, .int .i64 d, .int .i64 s, .int .i64 t, .int .i64 u, .int .i64 a, .int .u32 k, .int .i64 q], .int .i64 places] w fun e w' => e = .returned (.bool false) ∧ Below w.heap.size w w' := by
  have hne : (opName op).isEmpty = false := by cases h : opName op <;> simp_all
  clear hn
  replace ha := Aside0.mk ha
  go_enter Tryd.func8, Tryd.ntmps8
  go_wp2_with fail
  refine (name_calls op _).mono ?_
  rintro e w1 ⟨rfl, hb⟩
  have BK := Aside0.mk (blk_keep hb (blk_new w _))
  have z : w.heap.size < w1.heap.size := blk_lt BK.out
  have c1 : w1.cell? ⟨w.heap.size, 1, none⟩ = some (.int .i64 d) := (blk_cell BK.out 1).trans rfl
  have c2 : w1.cell? ⟨w.heap.size, 2, none⟩ = some (.int .i64 s) := (blk_cell BK.out 2).trans rfl
  have c3 : w1.cell? ⟨w.heap.size, 3, none⟩ = some (.int .i64 t) := (blk_cell BK.out 3).trans rfl
  have c4 : w1.cell? ⟨w.heap.size, 4, none⟩ = some (.int .i64 u) := (blk_cell BK.out 4).trans rfl
  have c5 : w1.cell? ⟨w.heap.size, 5, none⟩ = some (.int .i64 a) := (blk_cell BK.out 5).trans rfl
  go_wp2_with fail
  refine (reg_yes d hd _).mono ?_
  rintro e w' ⟨rfl, rfl⟩
  go_wp2_with fail
  refine (reg_yes s hs _).mono ?_
  rintro e w' ⟨rfl, rfl⟩
  go_wp2_with fail
  refine (reg_yes t ht _).mono ?_
  rintro e w' ⟨rfl, rfl⟩
  go_wp2_with fail
  refine (reg_yes u hu _).mono ?_
  rintro e w' ⟨rfl, rfl⟩
  go_wp2_with fail
  refine (reg_no a ha.out _).mono ?_
  rintro e w' ⟨rfl, rfl⟩
  go_wp2
  go_ret
  exact ⟨rfl, ((Below.refl w.heap.size w).alloc (Nat.le_refl _) _).trans (hb.mono (by simp))⟩

/-- Right of any instruction, the document's: as the program's. -/
theorem refright_calls (i : In) (places : Int) (hwk : i.wk) (w : World) :
    Calls Tryd.prog 8 #[i.v, .int .i64 places] w fun e w' => e = .returned (.bool (rightF i places)) ∧ Below w.heap.size w w' := by
  cases i with
  | mk op d s t u a k q =>
    by_cases hn : opName op = []
    · have e : rightF ⟨op, d, s, t, u, a, k, q⟩ places = false := by unfold rightF; rw [if_pos hn]
      rw [e]
      exact refright_noname op d s t u a k q places w hn
    have hfalse : ¬ (In.mk op d s t u a k q).regs5 → rightF ⟨op, d, s, t, u, a, k, q⟩ places = false := fun h => by
      cases hr : rightF ⟨op, d, s, t, u, a, k, q⟩ places with
      | false => rfl
      | true => exact absurd (rightF_regs hr) h
    by_cases hd : 0 ≤ d ∧ d ≤ 7
    case neg => rw [hfalse (fun x => hd x.d)]; exact refright_bad_d op d s t u a k q places w hn hd
    by_cases hs : 0 ≤ s ∧ s ≤ 7
    case neg => rw [hfalse (fun x => hs x.s)]; exact refright_bad_s op d s t u a k q places w hn hd hs
    by_cases ht : 0 ≤ t ∧ t ≤ 7
    case neg => rw [hfalse (fun x => ht x.t)]; exact refright_bad_t op d s t u a k q places w hn hd hs ht
    by_cases hu : 0 ≤ u ∧ u ≤ 7
    case neg => rw [hfalse (fun x => hu x.u)]; exact refright_bad_u op d s t u a k q places w hn hd hs ht hu
    by_cases ha : 0 ≤ a ∧ a ≤ 7
    case neg => rw [hfalse (fun x => ha x.a)]; exact refright_bad_a op d s t u a k q places w hn hd hs ht hu ha
    by_cases h1 : op = 1
    case pos => subst h1; exact refright_1 d s t u a k q places w hd hs ht hu ha hwk
    by_cases h2 : op = 2
    case pos => subst h2; exact refright_2 d s t u a k q places w hd hs ht hu ha hwk
    by_cases h3 : op = 3
    case pos => subst h3; exact refright_3 d s t u a k q places w hd hs ht hu ha hwk
    by_cases h4 : op = 4
    case pos => subst h4; exact refright_4 d s t u a k q places w hd hs ht hu ha hwk
    by_cases h5 : op = 5
    case pos => subst h5; exact refright_5 d s t u a k q places w hd hs ht hu ha hwk
    by_cases h6 : op = 6
    case pos => subst h6; exact refright_6 d s t u a k q places w hd hs ht hu ha hwk
    by_cases h7 : op = 7
    case pos => subst h7; exact refright_7 d s t u a k q places w hd hs ht hu ha hwk
    by_cases h8 : op = 8
    case pos => subst h8; exact refright_8 d s t u a k q places w hd hs ht hu ha hwk
    by_cases h9 : op = 9
    case pos => subst h9; exact refright_9 d s t u a k q places w hd hs ht hu ha hwk
    by_cases h10 : op = 10
    case pos => subst h10; exact refright_10 d s t u a k q places w hd hs ht hu ha hwk
    by_cases h11 : op = 11
    case pos => subst h11; exact refright_11 d s t u a k q places w hd hs ht hu ha hwk
    by_cases h12 : op = 12
    case pos => subst h12; exact refright_12 d s t u a k q places w hd hs ht hu ha hwk
    by_cases h13 : op = 13
    case pos => subst h13; exact refright_13 d s t u a k q places w hd hs ht hu ha hwk
    by_cases h16 : op = 16
    case pos => subst h16; exact refright_16 d s t u a k q places w hd hs ht hu ha hwk
    by_cases h17 : op = 17
    case pos => subst h17; exact refright_17 d s t u a k q places w hd hs ht hu ha hwk
    by_cases h18 : op = 18
    case pos => subst h18; exact refright_18 d s t u a k q places w hd hs ht hu ha hwk
    by_cases h19 : op = 19
    case pos => subst h19; exact refright_19 d s t u a k q places w hd hs ht hu ha hwk
    by_cases h20 : op = 20
    case pos => subst h20; exact refright_20 d s t u a k q places w hd hs ht hu ha hwk
    by_cases h21 : op = 21
    case pos => subst h21; exact refright_21 d s t u a k q places w hd hs ht hu ha hwk
    by_cases h22 : op = 22
    case pos => subst h22; exact refright_22 d s t u a k q places w hd hs ht hu ha hwk
    by_cases h23 : op = 23
    case pos => subst h23; exact refright_23 d s t u a k q places w hd hs ht hu ha hwk
    exfalso
    apply hn
    unfold opName
    repeat (first | rw [if_neg (by assumption)] | rfl)
end Go.Proofs.YtbkbkikbfbmbdaaDoor

/- What is right is parsed of its own text; unlike ones have unlike texts. -/
import Derived.Test.YtfbblligbacppaaDoorNumBack
namespace Go.Proofs.YtfbblligbacppaaDoor
open Go Go.Lib

/-- What foldR has not struck yet, and what the parse has already. -/
structure Inv (i r r0 : In) : Prop where
  d : r0.d + r.d = i.d
  s : r0.s + r.s = i.s
  t : r0.t + r.t = i.t
  u : r0.u + r.u = i.u
  a : r0.a + r.a = i.a
  k : r0.k + r.k = i.k
  q : r0.q + r.q = i.q
def known (c : UInt8) : Prop := c = 68 ∨ c = 83 ∨ c = 84 ∨ c = 85 ∨ c = 65 ∨ c = 75 ∨ c = 66 ∨ c = 77 ∨ c = 79 ∨ c = 80
theorem numF_k {v : Int} (h : 0 ≤ v ∧ v ≤ 4294967295) : numF (dec v) % 4294967296 = v := by rw [numF_dec h.1 h.2]; omega

theorem round_go {i : In} {places : Int} (hf : i.fits) : ∀ (l : List UInt8) (r r0 : In), (∀ c ∈ l, known c) → ((80 : UInt8) ∈ l → 0 ≤ i.q) → Inv i r r0 → foldR places l r = some In.zero →
    parseGo l r0 ((l.map fun c => wordsF i (c.toNat : Int)).flatten) = some ({ i with op := r0.op }, [])
  | [], r, r0, _, _, hi, h => by
    obtain ⟨h1, h2, h3, h4, h5, h6, h7⟩ := hi
    cases h
    simp only [In.zero, Int.add_zero] at h1 h2 h3 h4 h5 h6 h7
    show some (r0, []) = some (({ i with op := r0.op } : In), [])
    rw [← h1, ← h2, ← h3, ← h4, ← h5, ← h6, ← h7]
  | c :: l, r, r0, hk, h80, hi, h => by
    have hk' : ∀ c ∈ l, known c := fun x hx => hk x (List.mem_cons_of_mem _ hx)
    have h80' : (80 : UInt8) ∈ l → 0 ≤ i.q := fun hx => h80 (List.mem_cons_of_mem _ hx)
    obtain ⟨f1, f2, f3, f4, f5, f6, f7⟩ := hf
    have hf : i.fits := ⟨f1, f2, f3, f4, f5, f6, f7⟩
    obtain ⟨h1, h2, h3, h4, h5, h6, h7⟩ := hi
    rw [List.map_cons, List.flatten_cons]
    rcases hk c (List.mem_cons_self ..) with rfl | rfl | rfl | rfl | rfl | rfl | rfl | rfl | rfl | rfl
    · have h' : foldR places l { r with d := 0 } = some In.zero := by
        rw [foldR, show (((68 : UInt8).toNat : Nat) : Int) = 68 from rfl, stepR_field (j := 1) rfl] at h
        by_cases b : r.get 1 < 0 ∨ 7 < r.get 1
        · rw [if_pos b] at h; cases h
        · rw [if_neg b] at h; exact h
      show parseGo l { r0 with d := numF (114 :: dec i.d) } _ = _
      rw [numF_r f1.1 (by omega)]
      exact round_go hf l { r with d := 0 } { r0 with d := i.d } hk' h80' ⟨by simp, h2, h3, h4, h5, h6, h7⟩ h'
    · have h' : foldR places l { r with s := 0 } = some In.zero := by
        rw [foldR, show (((83 : UInt8).toNat : Nat) : Int) = 83 from rfl, stepR_field (j := 2) rfl] at h
        by_cases b : r.get 2 < 0 ∨ 7 < r.get 2
        · rw [if_pos b] at h; cases h
        · rw [if_neg b] at h; exact h
      show parseGo l { r0 with s := numF (114 :: dec i.s) } _ = _
      rw [numF_r f2.1 (by omega)]
      exact round_go hf l { r with s := 0 } { r0 with s := i.s } hk' h80' ⟨h1, by simp, h3, h4, h5, h6, h7⟩ h'
    · have h' : foldR places l { r with t := 0 } = some In.zero := by
        rw [foldR, show (((84 : UInt8).toNat : Nat) : Int) = 84 from rfl, stepR_field (j := 3) rfl] at h
        by_cases b : r.get 3 < 0 ∨ 7 < r.get 3
        · rw [if_pos b] at h; cases h
        · rw [if_neg b] at h; exact h
      show parseGo l { r0 with t := numF (114 :: dec i.t) } _ = _
      rw [numF_r f3.1 (by omega)]
      exact round_go hf l { r with t := 0 } { r0 with t := i.t } hk' h80' ⟨h1, h2, by simp, h4, h5, h6, h7⟩ h'
    · have h' : foldR places l { r with u := 0 } = some In.zero := by
        rw [foldR, show (((85 : UInt8).toNat : Nat) : Int) = 85 from rfl, stepR_field (j := 4) rfl] at h
        by_cases b : r.get 4 < 0 ∨ 7 < r.get 4
        · rw [if_pos b] at h; cases h
        · rw [if_neg b] at h; exact h
      show parseGo l { r0 with u := numF (114 :: dec i.u) } _ = _
      rw [numF_r f4.1 (by omega)]
      exact round_go hf l { r with u := 0 } { r0 with u := i.u } hk' h80' ⟨h1, h2, h3, by simp, h5, h6, h7⟩ h'
    · have h' : foldR places l { r with a := 0 } = some In.zero := by
        rw [foldR, show (((65 : UInt8).toNat : Nat) : Int) = 65 from rfl, stepR_field (j := 5) rfl] at h
        by_cases b : r.get 5 < 0 ∨ 7 < r.get 5
        · rw [if_pos b] at h; cases h
        · rw [if_neg b] at h; exact h
      show parseGo l { r0 with a := numF (dec i.a) } _ = _
      rw [numF_dec f5.1 (by omega)]
      exact round_go hf l { r with a := 0 } { r0 with a := i.a } hk' h80' ⟨h1, h2, h3, h4, by simp, h6, h7⟩ h'
    · have h' : foldR places l { r with k := 0 } = some In.zero := h
      show parseGo l { r0 with k := numF (dec i.k) % 4294967296 } _ = _
      rw [numF_k f6]
      exact round_go hf l { r with k := 0 } { r0 with k := i.k } hk' h80' ⟨h1, h2, h3, h4, h5, by simp, h7⟩ h'
    · have h' : foldR places l { r with k := 0 } = some In.zero := by
        rw [foldR, show stepR places (((66 : UInt8).toNat : Nat) : Int) r = if 31 < r.k then none else some { r with k := 0 } from rfl] at h
        by_cases b : 31 < r.k
        · rw [if_pos b] at h; cases h
        · rw [if_neg b] at h; exact h
      show parseGo l { r0 with k := numF (dec i.k) % 4294967296 } _ = _
      rw [numF_k f6]
      exact round_go hf l { r with k := 0 } { r0 with k := i.k } hk' h80' ⟨h1, h2, h3, h4, h5, by simp, h7⟩ h'
    · have h' : foldR places l { r with k := 0 } = some In.zero := by
        rw [foldR, show stepR places (((77 : UInt8).toNat : Nat) : Int) r = if r.k < 1 ∨ 4 < r.k then none else some { r with k := 0 } from rfl] at h
        by_cases b : r.k < 1 ∨ 4 < r.k
        · rw [if_pos b] at h; cases h
        · rw [if_neg b] at h; exact h
      show parseGo l { r0 with k := numF (dec i.k) % 4294967296 } _ = _
      rw [numF_k f6]
      exact round_go hf l { r with k := 0 } { r0 with k := i.k } hk' h80' ⟨h1, h2, h3, h4, h5, by simp, h7⟩ h'
    · have h' : foldR places l { r with k := 0 } = some In.zero := by
        rw [foldR, show stepR places (((79 : UInt8).toNat : Nat) : Int) r = if 3 < r.k then none else some { r with k := 0 } from rfl] at h
        by_cases b : 3 < r.k
        · rw [if_pos b] at h; cases h
        · rw [if_neg b] at h; exact h
      show parseGo l { r0 with k := numF (dec i.k) % 4294967296 } _ = _
      rw [numF_k f6]
      exact round_go hf l { r with k := 0 } { r0 with k := i.k } hk' h80' ⟨h1, h2, h3, h4, h5, by simp, h7⟩ h'
    · have hq := h80 (List.mem_cons_self ..)
      have h' : foldR places l { r with q := 0 } = some In.zero := by
        rw [foldR, show (((80 : UInt8).toNat : Nat) : Int) = 80 from rfl, stepR_P] at h
        by_cases b : r.q < 0 ∨ places ≤ r.q
        · rw [if_pos b] at h; cases h
        · rw [if_neg b] at h; exact h
      show parseGo l { r0 with q := numF (dec i.q) } _ = _
      rw [numF_dec hq (by omega)]
      exact round_go hf l { r with q := 0 } { r0 with q := i.q } hk' h80' ⟨h1, h2, h3, h4, h5, h6, by simp⟩ h'

theorem opHas_known (op : Int) (h : op ≠ 21) : ∀ c ∈ opHas op, known c := by
  unfold opHas
  repeat (refine ite_mem (P := fun l => ∀ c ∈ l, known c) (by unfold known; decide) ?_)
  rw [if_neg h]
  repeat (refine ite_mem (P := fun l => ∀ c ∈ l, known c) (by unfold known; decide) ?_)
  intro c hc; cases hc

theorem round_await {i : In} {places : Int} (hf : i.fits) (h : foldR places [68, 65, 83, 87] { i with op := 0 } = some In.zero) :
    parseGo [68, 65, 83, 87] { In.zero with op := 21 } (([68, 65, 83, 87].map fun c : UInt8 => wordsF i (c.toNat : Int)).flatten) = some ({ i with op := 21 }, []) := by
  obtain ⟨f1, f2, f3, f4, f5, f6, f7⟩ := hf
  rw [foldR, show (((68 : UInt8).toNat : Nat) : Int) = 68 from rfl, stepR_field (j := 1) rfl] at h
  by_cases b : ({ i with op := 0 } : In).get 1 < 0 ∨ 7 < ({ i with op := 0 } : In).get 1
  · rw [if_pos b] at h; cases h
  rw [if_neg b] at h; clear b
  dsimp only at h
  rw [foldR, show (((65 : UInt8).toNat : Nat) : Int) = 65 from rfl, stepR_field (j := 5) rfl] at h
  by_cases b : (({ i with op := 0 } : In).put 0 1).get 5 < 0 ∨ 7 < (({ i with op := 0 } : In).put 0 1).get 5
  · rw [if_pos b] at h; cases h
  rw [if_neg b] at h; clear b
  dsimp only at h
  rw [foldR, show (((83 : UInt8).toNat : Nat) : Int) = 83 from rfl, stepR_field (j := 2) rfl] at h
  by_cases b : ((({ i with op := 0 } : In).put 0 1).put 0 5).get 2 < 0 ∨ 7 < ((({ i with op := 0 } : In).put 0 1).put 0 5).get 2
  · rw [if_pos b] at h; cases h
  rw [if_neg b] at h; clear b
  dsimp only at h
  rw [foldR, show (((87 : UInt8).toNat : Nat) : Int) = 87 from rfl, stepR_W] at h
  change (match (if 1 < i.k then none else if i.t < 0 ∨ 7 < i.t ∨ i.q < -1 ∨ (i.q ≠ -1 ∧ places ≤ i.q) then none else some ({ op := 0, d := 0, s := 0, t := 0, u := i.u, a := 0, k := 0, q := 0 } : In)) with | some r' => foldR places [] r' | none => none) = some In.zero at h
  by_cases b : 1 < i.k
  · rw [if_pos b] at h; cases h
  rw [if_neg b] at h
  by_cases b2 : i.t < 0 ∨ 7 < i.t ∨ i.q < -1 ∨ (i.q ≠ -1 ∧ places ≤ i.q)
  · rw [if_pos b2] at h; cases h
  rw [if_neg b2] at h
  dsimp only [foldR] at h
  have hu : i.u = 0 := congrArg In.u (Option.some.inj h)
  show some (waitF { In.zero with op := 21, d := numF (114 :: dec i.d), a := numF (dec i.a), s := numF (114 :: dec i.s) } _) = _
  rw [numF_r f1.1 (by omega), numF_dec f5.1 (by omega), numF_r f2.1 (by omega)]
  have hk : i.k = 0 ∨ i.k = 1 := by omega
  by_cases hq : i.q = -1
  · have e : ((wordsF i 87)) ++ [] = [if i.k = 0 then [101, 113] else [110, 101], 114 :: dec i.t] := by
      unfold wordsF; rw [show fieldOff 87 = none from rfl]; dsimp only; rw [if_neg (by omega), if_pos rfl, if_pos hq]; rfl
    show some (waitF _ (wordsF i 87 ++ [])) = _
    rw [e]
    rcases hk with hk | hk
    · rw [hk, if_pos rfl]
      show some (({ op := 21, d := i.d, s := i.s, t := numF (114 :: dec i.t), u := 0, a := i.a, k := 0, q := -1 } : In), _) = _
      rw [numF_r f3.1 (by omega)]
      obtain ⟨op, d, s, t, u, a, k, q⟩ := i
      dsimp only at *
      subst hk hq hu
      rfl
    · rw [hk, if_neg (by omega)]
      show some (({ op := 21, d := i.d, s := i.s, t := numF (114 :: dec i.t), u := 0, a := i.a, k := 1, q := -1 } : In), _) = _
      rw [numF_r f3.1 (by omega)]
      obtain ⟨op, d, s, t, u, a, k, q⟩ := i
      dsimp only at *
      subst hk hq hu
      rfl
  · have e : ((wordsF i 87)) ++ [] = [if i.k = 0 then [101, 113] else [110, 101], 114 :: dec i.t, [101, 108, 115, 101], dec i.q] := by
      unfold wordsF; rw [show fieldOff 87 = none from rfl]; dsimp only; rw [if_neg (by omega), if_pos rfl, if_neg hq]; rfl
    show some (waitF _ (wordsF i 87 ++ [])) = _
    rw [e]
    rcases hk with hk | hk
    · rw [hk, if_pos rfl]
      show some (({ op := 21, d := i.d, s := i.s, t := numF (114 :: dec i.t), u := 0, a := i.a, k := 0, q := numF (dec i.q) } : In), _) = _
      rw [numF_r f3.1 (by omega), numF_dec (by omega) (by omega)]
      obtain ⟨op, d, s, t, u, a, k, q⟩ := i
      dsimp only at *
      subst hk hu
      rfl
    · rw [hk, if_neg (by omega)]
      show some (({ op := 21, d := i.d, s := i.s, t := numF (114 :: dec i.t), u := 0, a := i.a, k := 1, q := numF (dec i.q) } : In), _) = _
      rw [numF_r f3.1 (by omega), numF_dec (by omega) (by omega)]
      obtain ⟨op, d, s, t, u, a, k, q⟩ := i
      dsimp only at *
      subst hk hu
      rfl
theorem opName_in {op : Int} (h : opName op ≠ []) : (1 ≤ op ∧ op ≤ 13) ∨ (16 ≤ op ∧ op ≤ 23) := by
  refine Decidable.byContradiction (fun hc => h ?_)
  unfold opName
  repeat rw [if_neg (by omega)]
theorem named_back {op : Int} (h : opName op ≠ []) : namedF (opName op) = op := by
  have hr := opName_in h
  have hc : op = 1 ∨ op = 2 ∨ op = 3 ∨ op = 4 ∨ op = 5 ∨ op = 6 ∨ op = 7 ∨ op = 8 ∨ op = 9 ∨ op = 10 ∨ op = 11 ∨ op = 12 ∨ op = 13 ∨ op = 16 ∨ op = 17 ∨ op = 18 ∨ op = 19 ∨ op = 20 ∨ op = 21 ∨ op = 22 ∨ op = 23 := by omega
  rcases hc with rfl | rfl | rfl | rfl | rfl | rfl | rfl | rfl | rfl | rfl | rfl | rfl | rfl | rfl | rfl | rfl | rfl | rfl | rfl | rfl | rfl <;> decide
theorem textR_ok {i : In} (h : rightF i 1073741824 = true) : textR i = (textF i, 0) := by unfold textR; rw [if_pos h]
/-- What is right is parsed of its own text. -/
theorem parse_text {i : In} (h : rightF i 1073741824 = true) (hk : i.wk) : parseF (textF i) = (i, 0) := by
  have hf := rightF_fits h hk
  have hn := rightF_name h
  have hr := rightF_fold h
  have hg : parseGo (opHas i.op) { In.zero with op := i.op } ((opHas i.op).map fun c => wordsF i (c.toNat : Int)).flatten = some (i, []) := by
    by_cases h21 : i.op = 21
    · rw [h21] at hr ⊢
      have := round_await hf hr
      rw [show ({ i with op := 21 } : In) = i by rw [← h21]] at this
      exact this
    · have := round_go hf (opHas i.op) { i with op := 0 } { In.zero with op := i.op } (opHas_known _ h21) (rightF_q h) ⟨by simp [In.zero], by simp [In.zero], by simp [In.zero], by simp [In.zero], by simp [In.zero], by simp [In.zero], by simp [In.zero]⟩ hr
      exact this
  rw [parseF_eq, split_text]
  show finP (textF i) (parseGo (opHas (namedF (opName i.op))) { In.zero with op := namedF (opName i.op) } (((opHas i.op).map fun c => wordsF i (c.toNat : Int)).flatten)) = _
  rw [named_back hn, hg]
  unfold finP
  dsimp only
  rw [textR_ok h, if_neg (by simp)]
/-- Unlike right instructions have unlike texts. -/
theorem text_inj {i j : In} (hi : rightF i 1073741824 = true) (hj : rightF j 1073741824 = true) (ki : i.wk) (kj : j.wk) : textF i = textF j ↔ i = j := by
  constructor
  · intro e
    have h1 := parse_text hi ki
    rw [e, parse_text hj kj] at h1
    exact (Prod.mk.inj h1).1.symm
  · rintro rfl; rfl
end Go.Proofs.YtfbblligbacppaaDoor

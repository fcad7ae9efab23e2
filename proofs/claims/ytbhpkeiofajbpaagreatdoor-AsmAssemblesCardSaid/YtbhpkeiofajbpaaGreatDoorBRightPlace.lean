/- What is assembled is right: plain. -/
import Derived.Test.YtbhpkeiofajbpaaGreatDoorB11
namespace Go.Proofs.YtbhpkeiofajbpaaGreatDoor
open Go Go.Lib
set_option linter.unusedVariables false
set_option linter.unusedSimpArgs false

theorem stepR_any (p p' s : Int) (r : In) (h1 : s ≠ 80) (h2 : s ≠ 87) : stepR p s r = stepR p' s r := by
 unfold stepR
 simp [h1, h2]
theorem foldR_any (p p' : Int) : ∀ (l : List UInt8) (r : In), (80 : UInt8) ∉ l → (87 : UInt8) ∉ l → foldR p l r = foldR p' l r
 | [], r, _, _ => rfl
 | c :: l, r, h1, h2 => by
  have e1 : (c.toNat : Int) ≠ 80 := fun e => h1 (by
   have : c = 80 := UInt8.toNat_inj.1 (by show c.toNat = 80; omega)
   rw [this]; exact List.mem_cons_self ..)
  have e2 : (c.toNat : Int) ≠ 87 := fun e => h2 (by
   have : c = 87 := UInt8.toNat_inj.1 (by show c.toNat = 87; omega)
   rw [this]; exact List.mem_cons_self ..)
  unfold foldR
  rw [stepR_any p p' _ r e1 e2]
  cases stepR p' (c.toNat : Int) r with
  | none => rfl
  | some r' => exact foldR_any p p' l r' (fun h => h1 (List.mem_cons_of_mem _ h)) (fun h => h2 (List.mem_cons_of_mem _ h))
theorem fold_c {p : Int} {c : UInt8} {l : List UInt8} {r : In} (n : Int) (hn : (c.toNat : Int) = n) : foldR p (c :: l) r = match stepR p n r with | some r' => foldR p l r' | none => none := by subst hn; rfl
theorem fold8 (p d s t u a k q : Int) : foldR p [83, 84, 80] ⟨0, d, s, t, u, a, k, q⟩ = if s < 0 ∨ 7 < s then none else if t < 0 ∨ 7 < t then none else if q < 0 ∨ p ≤ q then none else some ⟨0, d, 0, 0, u, a, k, 0⟩ := by
 rw [fold_c 83 rfl, show stepR p 83 ⟨0, d, s, t, u, a, k, q⟩ = if s < 0 ∨ 7 < s then none else some ⟨0, d, 0, t, u, a, k, q⟩ from rfl]
 by_cases h1 : s < 0 ∨ 7 < s
 ·rw [if_pos h1, if_pos h1]
 ·rw [if_neg h1, if_neg h1]
  dsimp only
  rw [fold_c 84 rfl, show stepR p 84 ⟨0, d, 0, t, u, a, k, q⟩ = if t < 0 ∨ 7 < t then none else some ⟨0, d, 0, 0, u, a, k, q⟩ from rfl]
  by_cases h2 : t < 0 ∨ 7 < t
  ·rw [if_pos h2, if_pos h2]
  ·rw [if_neg h2, if_neg h2]
   dsimp only
   rw [fold_c 80 rfl, show stepR p 80 ⟨0, d, 0, 0, u, a, k, q⟩ = if q < 0 ∨ p ≤ q then none else some ⟨0, d, 0, 0, u, a, k, 0⟩ from rfl]
   by_cases h3 : q < 0 ∨ p ≤ q
   ·rw [if_pos h3]
   ·rw [if_neg h3]; rfl
theorem fold10 (p d s t u a k q : Int) : foldR p [80] ⟨0, d, s, t, u, a, k, q⟩ = if q < 0 ∨ p ≤ q then none else some ⟨0, d, s, t, u, a, k, 0⟩ := by
 rw [fold_c 80 rfl, show stepR p 80 ⟨0, d, s, t, u, a, k, q⟩ = if q < 0 ∨ p ≤ q then none else some ⟨0, d, s, t, u, a, k, 0⟩ from rfl]
 by_cases h3 : q < 0 ∨ p ≤ q
 ·rw [if_pos h3]
 ·rw [if_neg h3]; rfl
theorem fold21 (p d s t u a k q : Int) : foldR p [68, 65, 83, 87] ⟨0, d, s, t, u, a, k, q⟩ = if d < 0 ∨ 7 < d then none else if a < 0 ∨ 7 < a then none else if s < 0 ∨ 7 < s then none else if 1 < k then none else if t < 0 ∨ 7 < t ∨ q < -1 ∨ (q ≠ -1 ∧ p ≤ q) then none else some ⟨0, 0, 0, 0, u, 0, 0, 0⟩ := by
 rw [fold_c 68 rfl, show stepR p 68 ⟨0, d, s, t, u, a, k, q⟩ = if d < 0 ∨ 7 < d then none else some ⟨0, 0, s, t, u, a, k, q⟩ from rfl]
 by_cases h1 : d < 0 ∨ 7 < d
 ·rw [if_pos h1, if_pos h1]
 ·rw [if_neg h1, if_neg h1]
  dsimp only
  rw [fold_c 65 rfl, show stepR p 65 ⟨0, 0, s, t, u, a, k, q⟩ = if a < 0 ∨ 7 < a then none else some ⟨0, 0, s, t, u, 0, k, q⟩ from rfl]
  by_cases h2 : a < 0 ∨ 7 < a
  ·rw [if_pos h2, if_pos h2]
  ·rw [if_neg h2, if_neg h2]
   dsimp only
   rw [fold_c 83 rfl, show stepR p 83 ⟨0, 0, s, t, u, 0, k, q⟩ = if s < 0 ∨ 7 < s then none else some ⟨0, 0, 0, t, u, 0, k, q⟩ from rfl]
   by_cases h3 : s < 0 ∨ 7 < s
   ·rw [if_pos h3, if_pos h3]
   ·rw [if_neg h3, if_neg h3]
    dsimp only
    rw [fold_c 87 rfl, show stepR p 87 ⟨0, 0, 0, t, u, 0, k, q⟩ = if 1 < k then none else if t < 0 ∨ 7 < t ∨ q < -1 ∨ (q ≠ -1 ∧ p ≤ q) then none else some ⟨0, 0, 0, 0, u, 0, 0, 0⟩ from rfl]
    by_cases h4 : 1 < k
    ·rw [if_pos h4]
    ·rw [if_neg h4]
     by_cases h5 : t < 0 ∨ 7 < t ∨ q < -1 ∨ (q ≠ -1 ∧ p ≤ q)
     ·rw [if_pos h5]
     ·rw [if_neg h5]; rfl
theorem finR_ite {c : Prop} [Decidable c] {x : Option In} (h : finR (if c then none else x) = true) : ¬ c ∧ finR x = true := by
 by_cases hc : c
 ·rw [if_pos hc] at h; cases h
 ·rw [if_neg hc] at h; exact ⟨hc, h⟩
/-- What goes nowhere is right whatever the places; what goes somewhere is right with a place that there is. -/
theorem right_place {i : In} {n : Int} (h : rightF i 1073741824 = true) : (goesB i = true → ∀ p : Nat, (p : Int) < n → rightF { i with q := p } n = true) ∧ (goesB i = false → rightF i n = true) := by
 have hn := rightF_name h
 have hin := opName_in hn
 obtain ⟨op, d, s, t, u, a, k, q⟩ := i
 dsimp only at hin hn
 have hc : op = 8 ∨ op = 9 ∨ op = 10 ∨ op = 21 ∨ (op = 1 ∨ op = 2 ∨ op = 3 ∨ op = 4 ∨ op = 5 ∨ op = 6 ∨ op = 7 ∨ op = 11 ∨ op = 12 ∨ op = 13 ∨ op = 16 ∨ op = 17 ∨ op = 18 ∨ op = 19 ∨ op = 20 ∨ op = 22 ∨ op = 23) := by omega
 have e8 : opHas 8 = [83, 84, 80] := by decide
 have e9 : opHas 9 = [83, 84, 80] := by decide
 have e10 : opHas 10 = [80] := by decide
 have e21 : opHas 21 = [68, 65, 83, 87] := by decide
 rcases hc with rfl | rfl | rfl | rfl | hc
 ·rw [rightF_eq _ _ hn, e8] at h
  dsimp only at h
  rw [fold8] at h
  obtain ⟨h1, h⟩ := finR_ite h
  obtain ⟨h2, h⟩ := finR_ite h
  obtain ⟨h3, h⟩ := finR_ite h
  refine ⟨fun _ p hp => ?_, fun h' => by simp [goesB] at h'⟩
  rw [rightF_eq _ _ hn, e8]
  dsimp only
  rw [fold8, if_neg h1, if_neg h2, if_neg (by omega)]
  exact h
 ·rw [rightF_eq _ _ hn, e9] at h
  dsimp only at h
  rw [fold8] at h
  obtain ⟨h1, h⟩ := finR_ite h
  obtain ⟨h2, h⟩ := finR_ite h
  obtain ⟨h3, h⟩ := finR_ite h
  refine ⟨fun _ p hp => ?_, fun h' => by simp [goesB] at h'⟩
  rw [rightF_eq _ _ hn, e9]
  dsimp only
  rw [fold8, if_neg h1, if_neg h2, if_neg (by omega)]
  exact h
 ·rw [rightF_eq _ _ hn, e10] at h
  dsimp only at h
  rw [fold10] at h
  obtain ⟨h3, h⟩ := finR_ite h
  refine ⟨fun _ p hp => ?_, fun h' => by simp [goesB] at h'⟩
  rw [rightF_eq _ _ hn, e10]
  dsimp only
  rw [fold10, if_neg (by omega)]
  exact h
 ·rw [rightF_eq _ _ hn, e21] at h
  dsimp only at h
  rw [fold21] at h
  obtain ⟨h1, h⟩ := finR_ite h
  obtain ⟨h2, h⟩ := finR_ite h
  obtain ⟨h3, h⟩ := finR_ite h
  obtain ⟨h4, h⟩ := finR_ite h
  obtain ⟨h5, h⟩ := finR_ite h
  refine ⟨fun _ p hp => ?_, fun h' => ?_⟩
  ·rw [rightF_eq _ _ hn, e21]
   dsimp only
   rw [fold21, if_neg h1, if_neg h2, if_neg h3, if_neg h4, if_neg (by omega)]
   exact h
  ·have hq : ¬ 0 ≤ q := by simpa [goesB] using h'
   rw [rightF_eq _ _ hn, e21]
   dsimp only
   rw [fold21, if_neg h1, if_neg h2, if_neg h3, if_neg h4, if_neg (by omega)]
   exact h
 ·have hg : goesB ⟨op, d, s, t, u, a, k, q⟩ = false := by unfold goesB; rw [decide_eq_false]; dsimp only; omega
  refine ⟨fun h' => (by rw [hg] at h'; cases h'), fun _ => ?_⟩
  rw [rightF_eq _ _ hn] at h ⊢
  have hl : (80 : UInt8) ∉ opHas op ∧ (87 : UInt8) ∉ opHas op := by rcases hc with rfl | rfl | rfl | rfl | rfl | rfl | rfl | rfl | rfl | rfl | rfl | rfl | rfl | rfl | rfl | rfl | rfl <;> decide
  rw [foldR_any n 1073741824 _ _ hl.1 hl.2]
  exact h

/-- What a line gives is right, but for its place. -/
def okIn (p : In × List UInt8) : Prop := p.1.wk ∧ rightF p.1 1073741824 = true ∧ (goesB p.1 = true ↔ p.2 ≠ [])
theorem rlineF_in (s : List UInt8) (h : (rlineF s).2.2 = true) : okIn ((rlineF s).1, (rlineF s).2.1) := by
 unfold rlineF at h ⊢
 dsimp only at h ⊢
 rcases parse_both (headSp s ++ [48]) with ⟨i, hik, hir, hit, hip, hiq⟩ | ⟨hip, hiq⟩
 ·rw [hiq] at h ⊢
  dsimp only at h ⊢
  by_cases hc : True ∧ goesB i = true ∧ nameB (tailSp s) = true
  ·rw [if_pos ⟨rfl, hc.2.1, hc.2.2⟩]
   refine ⟨hik, hir, fun _ e => ?_, fun _ => hc.2.1⟩
   have := hc.2.2
   dsimp only at e
   rw [e] at this
   revert this
   decide
  ·rw [if_neg (fun h => hc ⟨trivial, h.2⟩)] at h ⊢
   rcases parse_both s with ⟨j, hjk, hjr, hjt, hjp, hjq⟩ | ⟨hjp, hjq⟩
   ·rw [hjq] at h ⊢
    dsimp only at h ⊢
    by_cases hg : goesB j = true
    ·rw [if_pos (.inr hg)] at h; cases h
    ·rw [if_neg (fun h => h.elim (fun e => by cases e) hg)]
     exact ⟨hjk, hjr, fun h => absurd h hg, fun h => absurd rfl h⟩
   ·rw [hjq] at h ⊢
    rw [if_pos (.inl rfl)] at h; cases h
 ·rw [hiq] at h ⊢
  dsimp only at h ⊢
  rw [if_neg (fun h => by cases h.1)] at h ⊢
  rcases parse_both s with ⟨j, hjk, hjr, hjt, hjp, hjq⟩ | ⟨hjp, hjq⟩
  ·rw [hjq] at h ⊢
   dsimp only at h ⊢
   by_cases hg : goesB j = true
   ·rw [if_pos (.inr hg)] at h; cases h
   ·rw [if_neg (fun h => h.elim (fun e => by cases e) hg)]
    exact ⟨hjk, hjr, fun h => absurd h hg, fun h => absurd rfl h⟩
  ·rw [hjq] at h ⊢
   rw [if_pos (.inl rfl)] at h; cases h
/-- A source on its way is of such instructions. -/
structure SrcIn (x : Src) : Prop where
 n : x.names.length = x.l.length
 r : x.rows.length = x.l.length
 z : x.l.length ≤ 64
 a : ∀ p ∈ x.l.zip x.names, okIn p
theorem rstep_in {x : Src} (h : SrcIn x) (s : List UInt8) (n : Int) : SrcIn (rstepF x s n).1 := by
 unfold rstepF
 by_cases c1 : s.getLast? = some 58 ∧ nameB s.dropLast = true
 ·rw [if_pos c1]
  by_cases c2 : rhasF x.labels s.dropLast = true
  ·rw [if_pos c2]; exact h
  ·rw [if_neg c2]; exact ⟨h.n, h.r, h.z, h.a⟩
 ·rw [if_neg c1]
  by_cases c3 : (rlineF s).2.2 = false
  ·rw [if_pos c3]; exact h
  ·rw [if_neg c3]
   by_cases c4 : 64 ≤ x.l.length
   ·rw [if_pos c4]; exact h
   ·rw [if_neg c4]
    refine ⟨by simp [h.n], by simp [h.r], by simp; omega, fun p hp => ?_⟩
    rw [List.zip_append h.n.symm] at hp
    rcases List.mem_append.1 hp with hp | hp
    ·exact h.a p hp
    ·have e : p = ((rlineF s).1, (rlineF s).2.1) := by simpa using hp
     rw [e]
     exact rlineF_in s (by simpa using c3)
theorem rall_in : ∀ (ls : List (List UInt8)) (n : Int) (x : Src), SrcIn x → SrcIn (rallF ls n x).1
 | [], n, x, h => h
 | s :: ls, n, x, h => by
  unfold rallF
  split
  ·exact h
  ·split
   ·exact rall_in ls _ _ (rstep_in h _ _)
   ·exact h
theorem rfind_lt {L : List (List UInt8 × Nat)} {s : List UInt8} {n : Nat} : rfindF L s n < 0 ∨ ∃ p : Nat, rfindF L s n = p ∧ p < n := by
 unfold rfindF
 cases hf : L.find? (fun p => p.1 == s && decide (p.2 < n)) with
 | none => exact .inl (by decide)
 | some p =>
  have := List.find?_some hf
  simp at this
  exact .inr ⟨p.2, rfl, this.2⟩
theorem rfix_in (L : List (List UInt8 × Nat)) (n : Nat) : ∀ (l : List In) (names : List (List UInt8)) (rows : List Int) (k : List In), names.length = l.length → rows.length = l.length → (∀ p ∈ l.zip names, okIn p) → rfixF L n l names rows = .inl k →
  k.length = l.length ∧ ∀ i ∈ k, i.wk ∧ rightF i n = true
 | [], _, _, k, _, _, _, h => by
  have : k = [] := by unfold rfixF at h; cases h; rfl
  subst this
  exact ⟨rfl, fun i hi => by cases hi⟩
 | i :: l, s :: names, r :: rows, k, hn, hr, ha, h => by
  unfold rfixF at h
  have h0 := ha (i, s) (by simp)
  have ih := rfix_in L n l names rows
  have ha' : ∀ p ∈ l.zip names, okIn p := fun p hp => ha p (by simp [hp])
  have hn' : names.length = l.length := by simpa using hn
  have hr' : rows.length = l.length := by simpa using hr
  obtain ⟨hwk, hrt, hg⟩ := h0
  dsimp only at hwk hrt hg
  by_cases hs : s = []
  ·rw [if_pos hs] at h
   cases hf : rfixF L n l names rows with
   | inr e => rw [hf] at h; cases h
   | inl k' =>
    rw [hf] at h
    cases h
    obtain ⟨h1, h2⟩ := ih k' hn' hr' ha' hf
    have hgf : goesB i = false := by
     cases hgi : goesB i with
     | false => rfl
     | true => exact absurd hs (hg.1 hgi)
    refine ⟨by simp [h1], fun j hj => ?_⟩
    rcases List.mem_cons.1 hj with rfl | hj
    ·exact ⟨hwk, (right_place hrt).2 hgf⟩
    ·exact h2 j hj
  ·rw [if_neg hs] at h
   by_cases hf0 : rfindF L s n < 0
   ·rw [if_pos hf0] at h; cases h
   ·rw [if_neg hf0] at h
    cases hf : rfixF L n l names rows with
    | inr e => rw [hf] at h; cases h
    | inl k' =>
     rw [hf] at h
     cases h
     obtain ⟨h1, h2⟩ := ih k' hn' hr' ha' hf
     rcases rfind_lt (L := L) (s := s) (n := n) with h3 | ⟨p, h3, h4⟩
     ·exact absurd h3 hf0
     ·refine ⟨by simp [h1], fun j hj => ?_⟩
      rcases List.mem_cons.1 hj with rfl | hj
      ·rw [h3]
       exact ⟨hwk, (right_place hrt).1 (hg.2 hs) p (by omega)⟩
      ·exact h2 j hj
 | _ :: _, [], _, _, hn, _, _, _ => by simp at hn
 | _ :: _, _ :: _, [], _, _, hr, _, _ => by simp at hr
/-- May a program be? -/
def pgRight (c : Pg) : Bool := decide (1 ≤ c.l.length ∧ c.l.length ≤ 64 ∧ 0 ≤ c.lock ∧ c.lock < c.l.length ∧ 0 ≤ c.unlock ∧ c.unlock < c.l.length) && c.l.all (fun i => rightF i c.l.length)
/-- What is assembled is right. -/
theorem asm_right (t : List UInt8) (h : (asmF t).2.2 = 0) : pgRight (asmF t).1 = true ∧ ∀ i ∈ (asmF t).1.l, i.wk := by
 rw [asm_both] at h ⊢
 have hx := rall_in (linesF t) 0 Src.zero ⟨rfl, rfl, by simp [Src.zero], fun p hp => by simp [Src.zero] at hp⟩
 unfold rasmF at h ⊢
 dsimp only at h ⊢
 generalize rallF (linesF t) 0 Src.zero = R at h hx ⊢
 by_cases h0 : R.2.2 ≠ 0
 ·rw [if_pos h0] at h; exact absurd h h0
 ·rw [if_neg h0] at h ⊢
  cases hf : rfixF R.1.labels R.1.l.length R.1.l R.1.names R.1.rows with
  | inr e => rw [hf] at h; simp at h
  | inl k =>
   rw [hf] at h
   dsimp only at h ⊢
   by_cases hl : rfindF R.1.labels [108, 111, 99, 107] R.1.l.length < 0 ∨ rfindF R.1.labels [117, 110, 108, 111, 99, 107] R.1.l.length < 0
   ·rw [if_pos hl] at h; simp at h
   ·rw [if_neg hl]
    obtain ⟨h1, h2⟩ := rfix_in _ _ _ _ _ _ hx.n hx.r hx.a hf
    rcases rfind_lt (L := R.1.labels) (s := [108, 111, 99, 107]) (n := R.1.l.length) with h3 | ⟨p, h3, h4⟩
    ·exact absurd (.inl h3) hl
    rcases rfind_lt (L := R.1.labels) (s := [117, 110, 108, 111, 99, 107]) (n := R.1.l.length) with h5 | ⟨q, h5, h6⟩
    ·exact absurd (.inr h5) hl
    have hz := hx.z
    refine ⟨?_, fun i hi => (h2 i hi).1⟩
    unfold pgRight
    dsimp only
    rw [h3, h5, h1, Bool.and_eq_true]
    refine ⟨decide_eq_true (by omega), ?_⟩
    rw [List.all_eq_true]
    exact fun i hi => (h2 i hi).2
end Go.Proofs.YtbhpkeiofajbpaaGreatDoor
